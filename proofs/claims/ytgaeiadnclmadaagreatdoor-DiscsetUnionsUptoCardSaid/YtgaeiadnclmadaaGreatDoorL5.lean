/- A program logic of my own over the model, and contracts of this program's functions by it: part 5. No conditions of its own: each theorem states its own. -/
import Derived.Test.YtgaeiadnclmadaaGreatDoorL4
import Derived.Lib.AppendZerosOnto
import Derived.Laws.Externs
import Derived.Laws.IdiomCopy
import Derived.Deep.Upon
import Derived.Deep.AppendSrc
set_option linter.unnecessarySimpa false
set_option linter.unusedSimpArgs false
set_option linter.unusedVariables false
/- Copying into a row: out of a slice that stands,out of a row; a row's piece with zeros behind it; 'do two slices overlap?'. No program's text. -/
namespace Go.Tame
open Go Go.RowKit

set_option linter.unusedVariables false
set_option linter.unusedSimpArgs false
variable {P : Program} {W0 : World} {nt : Nat} {σ : DSt} {dst : Option Tmp} {K : DSt → Prop} {ti : List TEnt}

theorem ins_get {α : Type} (l m : List α) (o j : Nat) (ho : o ≤ l.length) : (l.take o ++ m ++ l.drop (o + m.length))[j]? = if o ≤ j ∧ j < o + m.length then m[j - o]? else l[j]?:=by
 have ht : (l.take o).length = o:=by simp; omega
 rw [List.append_assoc,List.getElem?_append,ht]
 by_cases h1 : j < o
 ·rw [if_pos h1,if_neg (by omega),List.getElem?_take,if_pos h1]
 ·rw [if_neg h1,List.getElem?_append]
  by_cases h2 : j - o < m.length
  ·rw [if_pos h2,if_pos (by omega)]
  ·rw [if_neg h2,if_neg (by omega),List.getElem?_drop]; congr 1; omega

/-- Elements are laid into a row. -/
def ins (xs : List D) (i : Nat) (zs : List D) : List D:=xs.take i ++ zs ++ xs.drop (i + zs.length)
theorem ins_length (xs : List D) (i : Nat) (zs : List D) (hi : i ≤ xs.length) : (ins xs i zs).length = max xs.length (i + zs.length):=by
 simp only [ins,List.length_append,List.length_take,List.length_drop]; omega

theorem FR.copyIn {Γ : Ctx P W0 nt} {w : World} {C : Nat → Nat} {a : Act} (hf : FR Γ w C σ a) (s : Nat) {b i cap k e : Nat} {xs zs : List D} {cs : List Value} (hs : σ.H s = some (.row (.slice (some ⟨b,0,none⟩) xs.length cap) xs k e)) (h0 : 0 < xs.length)
  (hcl : cs.length = zs.length * k) (hzk : ∀ z ∈ zs,z.cells.length = k) (hcr : ∀ (j : Nat) d,(flat zs)[j]? = some d → ∃ u,cs[j]? = some u ∧ Rep w C d u ∧ u.oneCell' = true) (h1 : ∀ u ∈ cs,u.oneCell' = true) (hi : i ≤ xs.length) (hfit : i + zs.length ≤ cap) :
  ∃ w' C',(storeCells ⟨b,i * k,none⟩ cs 0).run P w = .ok () w' ∧ FR Γ w' C' (σ.setH s (some (.row (.slice (some ⟨b,0,none⟩) (ins xs i zs).length cap) (ins xs i zs) k e))) a:=by
 obtain ⟨b',cap',vs,hv,hc,hm,hk,hb,hvs,hC,hr⟩:=RowV.pos (i:=0) (hf.heap.obj s _ hs) h0
 simp only [Value.slice.injEq,Option.some.injEq,Addr.mk.injEq] at hv
 obtain ⟨⟨rfl,_⟩,_,rfl⟩:=hv
 have hfl:=flat_length hk
 have hfz:=flat_length hzk
 have hfit' : i * k + cs.length ≤ vs.size:=by rw [hcl,hvs,← Nat.add_mul]; exact Nat.mul_le_mul_right _ hfit
 have hik : i * k ≤ xs.length * k:=Nat.mul_le_mul_right _ hi
 have hrun:=run_storeCells_at P b (i * k) e cs 0 vs w hb (by simpa using hfit') h1
 simp only [Nat.add_zero] at hrun
 have hst:=Step.setRow (C:=C) (n:=0) hb (cs:=(vs.toList.take (i * k) ++ cs ++ vs.toList.drop (i * k + cs.length)).toArray) (by omega) (fun o ho => by omega)
 have huse : HObj.uses (.row (.slice (some ⟨b,0,none⟩) xs.length cap) xs k e) b:=⟨_,cap,rfl,by omega⟩
 have hlen:=ins_length xs i zs hi
 refine ⟨_,_,hrun,hf.setH hst (s:=s) (fun x hx => by subst hx; exact hf.heap.foot s _ _ hs huse) (fun s' o' b'' hne hs' hu hbb => ?_) fun z hz => ?_⟩
 ·subst hbb
  exact hf.heap.inj s' s o' _ b'' hne hs' hs hu huse
 ·cases hz
  refine ⟨⟨_,cap,rfl,by rw [hlen]; omega,hm,fun z hz => ?_,fun ad' had' => ⟨b,by cases had'; rfl,Nat.lt_of_lt_of_le (lt_of_heap hb) hst.ext.size⟩,fun _ => ⟨b,_,rfl,setRow_heap w b _ _ e _ hb,?_,upd_same _ _ _,fun q d hd => ?_⟩⟩,fun x hx => ?_⟩
  ·rcases List.mem_append.1 hz with hz | hz
   ·rcases List.mem_append.1 hz with hz | hz
    ·exact hk z (List.mem_of_mem_take hz)
    ·exact hzk z hz
   ·exact hk z (List.mem_of_mem_drop hz)
  ·simp only [List.size_toArray,List.length_append,List.length_take,List.length_drop,Array.length_toList]; omega
  ·have e1 : flat (ins xs i zs) = (flat xs).take (i * k) ++ flat zs ++ (flat xs).drop (i * k + (flat zs).length):=by
    unfold ins
    rw [flat_append,flat_append,flat_take hk,flat_drop hk,hfz,Nat.add_mul]
   rw [e1,ins_get _ _ _ _ (by rw [hfl]; exact hik),hfz] at hd
   rw [List.getElem?_toArray,ins_get _ _ _ _ (by simp; omega)]
   split at hd
   ·rename_i hq
    rw [if_pos (by rw [hcl]; exact hq)]
    obtain ⟨u,h3,h4,h5⟩:=hcr _ d hd
    exact ⟨u,h3,h4.ext hst.ext,h5⟩
   ·rename_i hq
    rw [if_neg (by rw [hcl]; exact hq)]
    obtain ⟨u,h3,h4,h5⟩:=hr q d hd
    exact ⟨u,by simpa using h3,h4.ext hst.ext,h5⟩
  ·obtain ⟨n',cap'',hv',_⟩:=hx
   simp only [Value.slice.injEq,Option.some.injEq,Addr.mk.injEq] at hv'
   obtain ⟨⟨rfl,_⟩,_⟩:=hv'
   exact ⟨hf.heap.foot s _ _ hs huse,.inl rfl⟩

/-- 'copy' of a slice that stands into a piece of a row. -/
theorem XOp.copySl (hT : TOk P ti) {t t2 el : Nat} {x y : Operand} (s : Nat) {b i m cx cap k : Nat} {ad : Addr} {tg : Tag} {xs ys : List D} {te ee : TEnt} (ht : tget ti t = some te) (hks : te.kind = .slice el) (hel : tget ti el = some ee) (hke : ee.sz = k)
  (hx : σ.ev x = .raw (.slice (some ad) m cx)) (had : ad = ⟨b,i * k,none⟩) (hs : σ.H s = some (.row (.slice (some ⟨b,0,none⟩) xs.length cap) xs k el)) (hy : σ.ev y = .sl tg k ys) (hy0 : 0 < ys.length) (hm : ys.length ≤ m) (h0 : 0 < xs.length) (hi : i ≤ xs.length) (hfit : i + ys.length ≤ cap)
  (hK : K ((σ.setH s (some (.row (.slice (some ⟨b,0,none⟩) (ins xs i ys).length cap) (ins xs i ys) k el))).put dst (.int .i64 ys.length))) : XOp P W0 nt σ dst (.call ⟨.builtin .copy,#[x,y],#[t,t2]⟩) K :=
 .val fun Γ w C a hf type pos after => by
  obtain ⟨heo,rfl⟩:=hT.get ht
  obtain ⟨heeo,rfl⟩:=hT.get hel
  have hu:=heo.u_slice hks
  have hvx:=act_ev hf.tmps x; rw [hx] at hvx
  have hvy:=act_ev hf.tmps y; rw [hy] at hvy
  have hshape : ∃ ad2 cy,a.eval y = .slice (some ad2) ys.length cy:=by
   rcases hvy.sl_inv with ⟨h,_,_⟩ | ⟨b2,o2,c2,g,hv,_⟩
   ·rw [h] at hy0; simp at hy0
   ·exact ⟨_,_,hv⟩
  obtain ⟨ad2,cy,hvy'⟩:=hshape
  rw [hvy'] at hvy
  obtain ⟨cs,hcl,hcell,hcr,hc1,hck⟩:=rowVals hvy
  obtain ⟨w',C',hst,hf'⟩:=hf.copyIn (P:=P) s hs h0 hcl hck hcr hc1 hi hfit
  subst had
  have hld:=run_loadCells_list (P:=P) w ad2 cs hcell
  rw [hcl] at hld
  have hmin : Nat.min ys.length m = ys.length:=Nat.min_eq_left hm
  refine ⟨.int .i64 ys.length,w',C',_,_,?_,hf',.int _ _,hK⟩
  simp only [execOp,resolve,invoke,builtin,hvx.raw_inv,hvy',Sem.run_bind,Sem.run_pure,Result.andThen_ok,List.map_toArray,List.map_cons,List.map_nil]
  have hcp : (Builtin.copy_ #[te.t,t2] type #[.slice (some ⟨b,i * k,none⟩) m cx,.slice (some ad2) ys.length cy]).run P w = .ok (.int .i64 ys.length) w':=by
   simp [Builtin.copy_,run_underlying hu,Builtin.lenOf,Builtin.firstCells,heeo.size,hmin,hke,hld]
   rw [show (storeCells ⟨b,i * k,none⟩ cs 0).run P w = .ok () w' from hst]
   simp [goInt]
  rw [hcp]; rfl

/-- 'copy' of a piece of a row into a piece of a row (of the same one,too). -/
theorem XOp.copyRow (hT : TOk P ti) {t t2 el : Nat} {x y : Operand} (s q n : Nat) {b b2 i j m m2 cx cy cap cap2 k : Nat} {ad ad2 : Addr} {xs ys : List D} {te ee : TEnt} (ht : tget ti t = some te) (hks : te.kind = .slice el) (hel : tget ti el = some ee) (hke : ee.sz = k)
  (hx : σ.ev x = .raw (.slice (some ad) m cx)) (had : ad = ⟨b,i * k,none⟩) (hs : σ.H s = some (.row (.slice (some ⟨b,0,none⟩) xs.length cap) xs k el))
  (hy : σ.ev y = .raw (.slice (some ad2) m2 cy)) (had2 : ad2 = ⟨b2,j * k,none⟩) (hq : σ.H q = some (.row (.slice (some ⟨b2,0,none⟩) ys.length cap2) ys k el))
  (hn : n = Nat.min m2 m) (hj : j + n ≤ ys.length) (h0 : 0 < xs.length) (h0' : 0 < ys.length) (hi : i ≤ xs.length) (hfit : i + n ≤ cap)
  (hK : K ((σ.setH s (some (.row (.slice (some ⟨b,0,none⟩) (ins xs i ((ys.drop j).take n)).length cap) (ins xs i ((ys.drop j).take n)) k el))).put dst (.int .i64 n))) : XOp P W0 nt σ dst (.call ⟨.builtin .copy,#[x,y],#[t,t2]⟩) K :=
 .val fun Γ w C a hf type pos after => by
  obtain ⟨heo,rfl⟩:=hT.get ht
  obtain ⟨heeo,rfl⟩:=hT.get hel
  have hu:=heo.u_slice hks
  have hvx:=act_ev hf.tmps x; rw [hx] at hvx
  have hvy:=act_ev hf.tmps y; rw [hy] at hvy
  obtain ⟨b',cap',vs,hv,hc,hm,hk,hb,hvs,hC,hr⟩:=RowV.pos (i:=0) (hf.heap.obj q _ hq) h0'
  simp only [Value.slice.injEq,Option.some.injEq,Addr.mk.injEq] at hv
  obtain ⟨⟨rfl,_⟩,_,rfl⟩:=hv
  have hfl:=flat_length hk
  have hle : ys.length * k ≤ vs.size:=by rw [hvs]; exact Nat.mul_le_mul_right _ hc
  have hjn : j * k + n * k ≤ ys.length * k:=by rw [← Nat.add_mul]; exact Nat.mul_le_mul_right _ hj
  have hnl : ((vs.toList.drop (j * k)).take (n * k)).length = n * k:=by simp; omega
  have hzl : ((ys.drop j).take n).length = n:=by simp; omega
  have hget : ∀ p u,((vs.toList.drop (j * k)).take (n * k))[p]? = some u → p < n * k ∧ vs[j * k + p]? = some u:=fun p u h => by
   have hp:=lt_of_get h
   rw [hnl] at hp
   rw [List.getElem?_take,if_pos hp,List.getElem?_drop] at h
   exact ⟨hp,by simpa using h⟩
  have hat : ∀ p,p < n * k → ∃ d u,(flat ys)[j * k + p]? = some d ∧ vs[j * k + p]? = some u ∧ Rep w C d u ∧ u.oneCell' = true:=fun p hp => by
   obtain ⟨d,hd⟩:=getElem?_of_lt (l:=flat ys) (i:=j * k + p) (by rw [hfl]; omega)
   obtain ⟨u,h1,h2,h3⟩:=hr _ d hd
   exact ⟨d,u,hd,h1,h2,h3⟩
  have hzk : ∀ z ∈ (ys.drop j).take n,z.cells.length = k:=fun z hz => hk z (List.mem_of_mem_drop (List.mem_of_mem_take hz))
  obtain ⟨w',C',hst,hf'⟩:=hf.copyIn (P:=P) s (zs:=(ys.drop j).take n) (cs:=(vs.toList.drop (j * k)).take (n * k)) (i:=i) hs h0 (by rw [hnl,hzl]) hzk (fun p d hd => by
    have e1 : flat ((ys.drop j).take n) = ((flat ys).drop (j * k)).take (n * k):=by
     rw [flat_take (fun z hz => hk z (List.mem_of_mem_drop hz)),flat_drop hk]
    rw [e1,List.getElem?_take] at hd
    split at hd
    ·rename_i hp
     rw [List.getElem?_drop] at hd
     obtain ⟨d',u,h1,h2,h3,h4⟩:=hat p hp
     rw [hd] at h1; cases h1
     exact ⟨u,by rw [List.getElem?_take,if_pos hp,List.getElem?_drop]; simpa using h2,h3,h4⟩
    ·cases hd) (fun u hu => by
    obtain ⟨p,hp⟩:=List.mem_iff_getElem?.1 hu
    obtain ⟨h1,h2⟩:=hget p u hp
    obtain ⟨d,u',_,h4,_,h5⟩:=hat p h1
    rw [h2] at h4; cases h4; exact h5) hi (by rw [hzl]; exact hfit)
  subst had had2
  have hld:=run_loadCells_list (P:=P) w ⟨b2,j * k,none⟩ ((vs.toList.drop (j * k)).take (n * k)) (fun p u h => by
   obtain ⟨h1,h2⟩:=hget p u h
   rw [addr_add]; simp only [World.cell?,hb]; exact h2)
  rw [hnl] at hld
  refine ⟨.int .i64 n,w',C',_,_,?_,hf',.int _ _,hK⟩
  have hmin : Nat.min m2 m = n:=hn.symm
  simp only [execOp,resolve,invoke,builtin,hvx.raw_inv,hvy.raw_inv,Sem.run_bind,Sem.run_pure,Result.andThen_ok,List.map_toArray,List.map_cons,List.map_nil]
  have hcp : (Builtin.copy_ #[te.t,t2] type #[.slice (some ⟨b,i * k,none⟩) m cx,.slice (some ⟨b2,j * k,none⟩) m2 cy]).run P w = .ok (.int .i64 n) w':=by
   simp [Builtin.copy_,run_underlying hu,Builtin.lenOf,Builtin.firstCells,heeo.size,hmin,hke,hld]
   rw [show (storeCells ⟨b,i * k,none⟩ ((vs.toList.drop (j * k)).take (n * k)) 0).run P w = .ok () w' from hst]
   simp [goInt]
  rw [hcp]; rfl

theorem flat_any (k : Nat) : ∀ n,flat (List.replicate n (D.agg (List.replicate k D.any))) = List.replicate (n * k) .any
 | 0 => by simp [flat]
 | n + 1 => by
  have ih:=flat_any k n
  simp only [flat,List.replicate_succ,List.flatMap_cons] at ih ⊢
  rw [ih]
  show List.replicate k D.any ++ _ = _
  rw [List.replicate_append_replicate,Nat.succ_mul,Nat.add_comm]

theorem zero_one {zv : Value} (hzo : ∀ u ∈ zv.cells,u.oneCell' = true) (m : Nat) : ∀ u ∈ (Builtin.zeroCells zv.cells m).toList,u.oneCell' = true:=fun u hu => by
 simp only [Builtin.zeroCells,Array.toList_map,List.mem_map] at hu
 obtain ⟨q,hq,rfl⟩:=hu
 have hpos : 0 < zv.cells.size:=by
  rcases Nat.eq_zero_or_pos zv.cells.size with h | h
  ·simp [h] at hq
  ·exact h
 have hlt:=Nat.mod_lt q hpos
 rw [getElem!_pos zv.cells _ hlt]
 exact hzo _ (Array.getElem_mem hlt)

/-- 'append' of zeros to a piece of a row that has no room for them: a new row; of the zeros nothing is said. -/
theorem XOp.growZeros (hT : TOk P ti) {t tn el s : Nat} {x y : Operand} (q : Nat) {b i cap n k : Nat} {kn kq : IntKind} {xs : List D} {te ee tne : TEnt} (ht : tget ti t = some te) (hks : te.kind = .slice el) (hel : tget ti el = some ee) (htn : tget ti tn = some tne) (hkn : tne.kind = .int kn) (hke : ee.sz = k) (hk0 : 0 < k)
  (hz : ee.zero.isSome = true) (hone : ∀ z,ee.zero = some z → z.all D.one = true)
  (hx : σ.ev x = .raw (.slice (some ⟨b,0,none⟩) i cap)) (hH : σ.H q = some (.row (.slice (some ⟨b,0,none⟩) xs.length cap) xs k el)) (h0 : 0 < xs.length) (hi : i ≤ xs.length) (hy : σ.ev y = .int kq (n : Int)) (hn0 : 0 < n) (hg : cap < i + n) (hbytes : (i + n) * ee.bytes ≤ 140737488355328) (h63 : i + n ≤ 9223372036854775807)
  (hK : ∀ b' nc,i + n ≤ nc → K ((σ.setH s (some (.row (.slice (some ⟨b',0,none⟩) (xs.take i ++ List.replicate n (D.agg (List.replicate k D.any))).length nc) (xs.take i ++ List.replicate n (D.agg (List.replicate k D.any))) k el))).put (some s) (.raw (.slice (some ⟨b',0,none⟩) (xs.take i ++ List.replicate n (D.agg (List.replicate k D.any))).length nc)))) :
  XOp P W0 nt σ (some s) (.call ⟨.builtin .append,#[x,y],#[t,tn]⟩) K :=
 .val fun Γ w C a hf type pos after => by
  obtain ⟨heo,rfl⟩:=hT.get ht
  obtain ⟨heeo,rfl⟩:=hT.get hel
  obtain ⟨hno,rfl⟩:=hT.get htn
  have hu:=heo.u_slice hks
  obtain ⟨z,hz⟩:=Option.isSome_iff_exists.1 hz
  obtain ⟨inf,hinf,hins,hinb,hzz⟩:=heeo.info
  obtain ⟨zv,hzv,hzl,hzr⟩:=hzz z hz
  have hvx:=act_ev hf.tmps x; rw [hx] at hvx
  have hvy:=act_ev hf.tmps y; rw [hy] at hvy
  obtain ⟨b',cap',vs,hv,hc,hm,hk,hb,hvs,hC,hr⟩:=RowV.pos (i:=0) (hf.heap.obj q _ hH) h0
  simp only [Value.slice.injEq,Option.some.injEq,Addr.mk.injEq] at hv
  obtain ⟨⟨rfl,_⟩,_,rfl⟩:=hv
  have hzc : zv.cells.size = k:=by
   have h1:=(hzr w C).1
   rw [← hke,← hzl,h1]; simp
  have hzo : ∀ u ∈ zv.cells,u.oneCell' = true:=fun u hu => (hzr w C).one (hone z hz) u (by simpa using hu)
  have hfl:=flat_length hk
  have hik : i * k ≤ xs.length * k:=Nat.mul_le_mul_right _ hi
  have hle : xs.length * k ≤ vs.size:=by rw [hvs]; exact Nat.mul_le_mul_right _ hc
  have hol : (vs.toList.take (i * k)).length = i * k:=by simp; omega
  have hold : (Builtin.firstCells inf.size i (.slice (some ⟨b,0,none⟩) i cap)).run P w.drew = .ok (vs.toList.take (i * k)).toArray w.drew:=by
   refine run_firstCells_some w.drew inf.size i ⟨b,0,none⟩ i cap _ (by rw [hol,hins,hke]) (fun j u hj => ?_)
   rw [addr_add,Nat.zero_add]
   have hjl:=lt_of_get hj
   rw [hol] at hjl
   rw [List.getElem?_take,if_pos hjl] at hj
   have : w.drew.heap[b]? = some (.cells vs ee.t (0,0)):=hb
   simp only [World.cell?,this]
   simpa using hj
  have hb2 : n * ee.bytes ≤ 281474976710656:=by
   have : n * ee.bytes ≤ (i + n) * ee.bytes:=Nat.mul_le_mul_right _ (by omega)
   omega
  have hrun:=Go.Lib.run_append_grow_zeros (P:=P) w te.t tne.t type ee.t inf zv kq kn hu (hno.u_int hkn) hinf hzv (some ⟨b,0,none⟩) i cap _ hold n hn0 (by rw [hins,hke]; exact hk0) hg (by omega) (by rw [hinb]; exact hb2) (by rw [hinb]; exact growslice_fits hg hbytes)
  have hge:=grownCap_ge w (i + n) cap ee.t
  have hcm:=grownCap_le_maxLen w (i + n) cap ee.t (by simp only [maxLen]; omega)
  generalize grownCap w (i + n) cap ee.t = nc at hrun hge hcm
  have hxl : (xs.take i ++ List.replicate n (D.agg (List.replicate k D.any)) : List D).length = i + n:=by simp; omega
  have hnew:=hf.drew.newObj s (ob:=.row (.slice (some ⟨w.heap.size,0,none⟩) (xs.take i ++ List.replicate n (D.agg (List.replicate k D.any))).length nc) (xs.take i ++ List.replicate n (D.agg (List.replicate k D.any))) k ee.t)
   (o:=.cells ((vs.toList.take (i * k)).toArray ++ Builtin.zeroCells zv.cells n ++ Builtin.zeroCells zv.cells (nc - (i + n))) ee.t) (by
    refine ⟨_,nc,rfl,by rw [hxl]; exact hge,hcm,fun x hx => ?_,fun ad had => ⟨_,by cases had; rfl,lt_of_heap (heap_alloc_new' w.drew _)⟩,fun _ => ⟨w.heap.size,_,rfl,heap_alloc_new' w.drew _,?_,upd_same _ _ _,fun j d hd => ?_⟩⟩
    ·rcases List.mem_append.1 hx with hx | hx
     ·exact hk x (List.mem_of_mem_take hx)
     ·rw [List.eq_of_mem_replicate hx]; simp [D.cells]
    ·simp only [Array.size_append,List.size_toArray,size_zeroCells,hzc,hol,← Nat.add_mul]
     congr 1; omega
    ·have hst0:=Step.alloc (fun _ => False) w.drew C (.cells ((vs.toList.take (i * k)).toArray ++ Builtin.zeroCells zv.cells n ++ Builtin.zeroCells zv.cells (nc - (i + n))) ee.t) 0
     have hjl:=lt_of_get hd
     rw [flat_append,flat_take hk,flat_any,List.getElem?_append] at hd
     have htl : ((flat xs).take (i * k)).length = i * k:=by rw [List.length_take,hfl]; omega
     rw [htl] at hd
     split at hd
     ·rename_i hj
      rw [List.getElem?_take,if_pos hj] at hd
      obtain ⟨u,h1,h2,h3⟩:=hr j d hd
      refine ⟨u,?_,(h2.ext (Step.drew (fun _ => False) w C).ext).ext hst0.ext,h3⟩
      rw [Array.append_assoc,Array.getElem?_append_left (by simp; omega),List.getElem?_toArray,List.getElem?_take,if_pos hj]
      simpa using h1
     ·rename_i hj
      have hj2 : j - i * k < n * k:=by have:=lt_of_get hd; simpa using this
      have hda : d = .any:=by
       rw [List.getElem?_replicate,if_pos hj2] at hd; cases hd; rfl
      subst hda
      have hzs : j - i * k < (Builtin.zeroCells zv.cells n).size:=by rw [size_zeroCells,hzc]; exact hj2
      refine ⟨(Builtin.zeroCells zv.cells n)[j - i * k],?_,.any _,zero_one hzo n _ (by simp)⟩
      rw [Array.append_assoc,Array.getElem?_append_right (by simp; omega),Array.getElem?_append_left (by simpa [hol] using hzs)]
      simp only [List.size_toArray,hol]
      exact Array.getElem?_eq_getElem hzs) (by
    rintro b'' ⟨n',cap',h,_⟩
    exact slice_uses h)
  refine ⟨.slice (some ⟨w.heap.size,0,none⟩) (xs.take i ++ List.replicate n (D.agg (List.replicate k D.any)) : List D).length nc,_,_,_,_,?_,hnew,.raw _,?_⟩
  ·rw [hxl]
   simp only [execOp,resolve,invoke,builtin,hvx.raw_inv,hvy.int_inv,Sem.run_bind,Sem.run_pure,Result.andThen_ok,List.map_toArray,List.map_cons,List.map_nil,hrun]
   rfl
  ·exact hK _ nc hge

/-- 'overlaps' at two blocks that have cells,of which the second is not frozen. -/
theorem run_overlaps_row (w : World) (tS tR e : TypeId) (ht : P.underlying tS = some (.slice e)) (size : Nat) (hz : ∀ w,(Go.sizeOf e).run P w = .ok size w)
  (a b : Addr) (la ca lb cb : Nat) (hne : a.block ≠ b.block) (tA tB : TypeId) (kA kB : Nat)
  (hsa : w.shape? a.block = some (tA,kA)) (hsb : w.shape? b.block = some (tB,kB)) (hkA : kA ≠ 0) (hkB : kB ≠ 0)
  (hfb : w.frozen? b = false) (hfe : w.frozen? { block:=b.block,off:=kB } = false) :
  (Extern.SlicesOverlaps.overlaps #[tS,tS] #[tR] #[.slice (some a) la ca,.slice (some b) lb cb]).run P w = .ok (.bool false) w:=by
 have hnb : (a.block != b.block) = true:=by simpa using hne
 have hnb' : (a.block == b.block) = false:=by simpa using hne
 change Sem.run P (α:=Value) (do
  let some t := (#[tS, tS] : Array TypeId)[0]? | stuck "slices.overlaps: no parameter types"
  let .slice elem ← underlying t | stuck "slices.overlaps: slice type expected"
  let size ← sizeOf elem
  match (some a : Option Addr),(some b : Option Addr) with
  | some a,some b =>
   if la = 0 ∨ lb = 0 ∨ size = 0 then pure (Value.bool false)
   else if a.block != b.block && (← frozen a) && (← frozen b) then unsupported .addressObserved
   else do
    if a.block != b.block then do
     noView a; noView b
     if ← mayBeOne a b then return Value.bool ((← choose (.extern "sameAddr.stringBytes" 2)) == 1)
    pure (Value.bool (a.block == b.block && a.off < b.off + lb * size && b.off < a.off + la * size))
  | _,_ => pure (Value.bool false)) w = _
 by_cases h0 : la = 0 ∨ lb = 0 ∨ size = 0
 ·simp [run_underlying ht,hz,h0]
 ·obtain ⟨kA,rfl⟩ : ∃ q,kA = q + 1:=⟨kA - 1,by omega⟩
  obtain ⟨kB,rfl⟩ : ∃ q,kB = q + 1:=⟨kB - 1,by omega⟩
  cases hA : w.frozen? a <;> cases hA' : w.frozen? { block:=a.block,off:=kA + 1 } <;>
   simp [run_underlying ht,hz,h0,hnb,hnb',frozen,noView,viewAt,mayBeOne,stringish,shape,Sem.run,hsa,hsb,hA,hA',hfb,hfe]

/-- Does a slice that stands overlap with a piece of a row? -/
theorem XOp.overlaps (hT : TOk P ti) {t el f : Nat} {x y : Operand} {ats : Array TypeId} {fn : Func} {tR : TypeId} (s : Nat) {b off m cy cap k : Nat} {tg : Tag} {xs ys : List D} {te ee : TEnt} (ht : tget ti t = some te) (hks : te.kind = .slice el) (hel : tget ti el = some ee) (hk0 : 0 < k)
  (hfn : P.funcs[f]? = some fn) (hname : (fn.name == "runtime.NumGoroutine") = false) (hbody : fn.body.isNone = true) (hnext : Extern.findNext fn = none) (hfind : Extern.find fn = some (Extern.SlicesOverlaps.overlaps #[t, t] #[tR]))
  (hx : σ.ev x = .sl tg k ys) (hx0 : 0 < ys.length) (hy : σ.ev y = .raw (.slice (some ⟨b,off,none⟩) m cy)) (hs : σ.H s = some (.row (.slice (some ⟨b,0,none⟩) xs.length cap) xs k el)) (h0 : 0 < xs.length)
  (hK : K (σ.put dst (.bool false))) : XOp P W0 nt σ dst (.call ⟨.value (.func f),#[x,y],ats⟩) K :=
 .val fun Γ w C a hf type pos after => by
  obtain ⟨heo,rfl⟩:=hT.get ht
  obtain ⟨heeo,rfl⟩:=hT.get hel
  have hu:=heo.u_slice hks
  have hvx:=act_ev hf.tmps x; rw [hx] at hvx
  have hvy:=act_ev hf.tmps y; rw [hy] at hvy
  obtain ⟨b',cap',vs,hv,hc,hm,hk,hb,hvs,hC,hr⟩:=RowV.pos (i:=0) (hf.heap.obj s _ hs) h0
  simp only [Value.slice.injEq,Option.some.injEq,Addr.mk.injEq] at hv
  obtain ⟨⟨rfl,_⟩,_,rfl⟩:=hv
  rcases hvx.sl_inv with ⟨h,_,_⟩ | ⟨b2,o2,c2,g,hv2,_,_,_,_,hk2,hC2,hcell,_⟩
  ·rw [h] at hx0; simp at hx0
  have hne : b2 ≠ b:=fun e => by
   subst e
   rw [hC] at hC2
   have : 0 < ys.length * k:=Nat.mul_pos hx0 hk0
   omega
  obtain ⟨d,hd⟩:=getElem?_of_lt (l:=flat ys) (i:=0) (by rw [flat_length hk2]; exact Nat.mul_pos hx0 hk0)
  have hc0:=hcell 0 d hd
  have hsha : ∃ tA kA,w.shape? b2 = some (tA,kA) ∧ kA ≠ 0:=by
   simp only [World.cell?] at hc0
   cases ho : w.heap[b2]? with
   | none => rw [ho] at hc0; simp at hc0
   | some ob =>
    rw [ho] at hc0
    cases ob with
    | cells cs ty fz =>
     refine ⟨ty,cs.size,by simp [World.shape?,ho],fun e => ?_⟩
     have:=lt_of_get (l:=cs.toList) (by simpa using hc0)
     simp at this; omega
    | _ => simp at hc0
  obtain ⟨tA,kA,hsa,hkA⟩:=hsha
  have hov:=run_overlaps_row (P:=P) w te.t tR ee.t hu ee.sz heeo.size ⟨b2,o2,none⟩ ⟨b,off,none⟩ ys.length c2 m cy hne tA ee.t kA vs.size hsa (by simp [World.shape?,hb]) hkA (by rw [hvs]; exact Nat.mul_ne_zero (by omega) (by omega)) (by simp [World.frozen?,hb]) (by simp [World.frozen?,hb])
  refine ⟨.bool false,w,C,σ,_,?_,hf,.bool _,hK⟩
  have hev : a.eval (.func f) = .func (.func f) #[] #[]:=rfl
  simp only [execOp,resolve,hev,Deferred.ofValue,Sem.run_bind,Sem.run_pure,Result.andThen_ok,invoke]
  simp [run_callFunc_extern hfn hname hbody hnext hfind,hv2,hvy.raw_inv,hov,Result.andThen]

/-- A slice's capacity. -/
theorem XOp.capOf (hT : TOk P ti) {t el n cap : Nat} {x : Operand} {a : Option Addr} {te : TEnt} (hx : σ.ev x = .raw (.slice a n cap)) (ht : tget ti t = some te) (hks : te.kind = .slice el)
  (hK : K (σ.put dst (.int .i64 (cap : Int)))) : XOp P W0 nt σ dst (.call ⟨.builtin .cap,#[x],#[t]⟩) K :=
 .val fun Γ w C ac hf type pos after => by
  obtain ⟨heo,rfl⟩:=hT.get ht
  have hu:=heo.u_slice hks
  have hv:=act_ev hf.tmps x; rw [hx] at hv
  refine ⟨.int .i64 (cap : Int),w,C,σ,_,?_,hf,.int _ _,hK⟩
  simp [execOp,resolve,invoke,builtin,Builtin.cap_,run_underlying hu,hv.raw_inv,goInt]

/-- What is known of a row's slice,though it may have no element. -/
theorem Tri.rowKnow0 {Γ : Ctx P W0 nt} {c : Code} {K : DExit → DSt → Prop} (s : Nat) {v : Value} {xs : List D} {k e : Nat} (hs : σ.H s = some (.row v xs k e))
  (h : ∀ a cap,v = .slice a xs.length cap → xs.length ≤ cap → cap ≤ maxLen → Tri Γ c σ K) : Tri Γ c σ K :=
 ⟨fun a w C hf => by
  obtain ⟨a',cap,hv,hc,hm,_⟩:=hf.heap.obj s _ hs
  exact (h a' cap hv hc hm).run a w C hf⟩
end Go.Tame
/- A contract by value,called with a row: the row is lent for the call's time and comes back as it was. No program's text. -/
namespace Go.Tame
open Go Go.RowKit
set_option linter.unusedVariables false
variable {P : Program} {W0 : World}

/-- A number,a truth or a text. -/
def D.flatB : D → Bool
 | .int .. | .bool _ | .str _ => true
 | _ => false
theorem Rep.moveB {w w' : World} {C C' : Nat → Nat} {d : D} {u : Value} (hd : d.flatB = true) (h : Rep w C d u) : Rep w' C' d u:=by
 cases h <;> first | exact .int _ _ | exact .bool _ | exact .str _ | (simp [D.flatB] at hd)
theorem Rep.moveT {w w' : World} {C C' : Nat → Nat} {ds : List D} {u : Value} (hd : ∀ d ∈ ds,d.flatB = true) (h : Rep w C (.tup ds) u) : Rep w' C' (.tup ds) u:=by
 cases h with
 | tup _ vs hl h => exact .tup _ vs hl fun i d v h1 h2 => (h i d v h1 h2).moveB (hd d (List.mem_of_getElem? h1))

/-- **The call reads a row that its caller keeps.** -/
theorem DCall.borrow {f : FuncId} {s k e : Nat} {v : Value} {xs ds : List D} {d : D} (hp : ∀ (w w' : World) (C C' : Nat → Nat) (u : Value),Rep w C d u → Rep w' C' d u)
  (hf : DFun P W0 f (.sl .none k xs::ds) d) :
  DCall P W0 f (.raw v::ds) (look [(s,.row v xs k e)]) fun d' H' => d' = d ∧ H' = look [(s,.row v xs k e)]:=by
 refine ⟨hf.1,fun w C args Ft hb hlow hH hargs => ?_⟩
 have hs : (look [(s,HObj.row v xs k e)]) s = some (.row v xs k e):=by simp only [look,Nat.beq_refl,cond_true]
 have hro:=hH.obj s _ hs
 obtain ⟨a',cap,hv,hc,hm,hk,hbl,hw⟩:=hro
 obtain ⟨u0,us,rfl⟩ : ∃ u0 us,args = u0::us:=by
  cases args with
  | nil => have:=hargs.1; simp at this
  | cons a b => exact ⟨a,b,rfl⟩
 have hu0 : u0 = v:=(hargs.2 0 (.raw v) u0 rfl rfl).raw_inv
 subst hu0
 obtain ⟨C1,hext,hrow⟩ : ∃ C1,Ext w C w C1 ∧ Rep w C1 (.sl .none k xs) u0:=by
  by_cases h0 : 0 < cap
  ·obtain ⟨b,vs,rfl,hbb,hsz,hC,hr⟩:=hw h0
   have hext : Ext w C w (upd C b (xs.length * k)):=⟨Nat.le_refl _,fun x _ => upd_le C b _ (by omega) x,fun _ _ _ _ => rfl⟩
   refine ⟨_,hext,?_⟩
   have:=rep_row (w:=w) (C:=upd C b (xs.length * k)) (tg:=.none) (k:=k) (xs:=xs) (vs:=vs.toList) (b:=b) (e:=e) (fz:=(0,0)) (cap:=cap) hbb hk hc hm (by rw [upd_same]; exact Nat.le_refl _)
    (fun j d hd => by obtain ⟨u,h1,h2,h3⟩:=hr j d hd; exact ⟨u,by simpa using h1,h2.ext hext,h3⟩) trivial
   rw [hv]; exact this
  ·have hx : xs = []:=List.eq_nil_of_length_eq_zero (by omega)
   subst hx
   have hcap : cap = 0:=by omega
   subst hcap
   refine ⟨C,.refl _ _,?_⟩
   cases a' with
   | none => rw [hv]; exact .sl0 _ _ none trivial
   | some ad =>
    obtain ⟨b,hadb,hlt⟩:=hbl ad rfl
    rw [hv,hadb]
    first | exact .sl0 _ _ _ trivial | exact .sl .none k [] b 0 0 (fun _ => undef) trivial hlt (Nat.le_refl _) (Nat.zero_le _) (by simp) (by simp) (fun j d h => by simp [flat] at h) (fun j d h => by simp [flat] at h) (fun j d h => by simp [flat] at h)
 have hargs1 : RepL w C1 (.sl .none k xs::ds) (u0::us):=by
  refine ⟨by have:=hargs.1; simpa using this,fun i d v h1 h2 => ?_⟩
  cases i with
  | zero =>
   simp at h1 h2; subst h1; subst h2
   exact hrow
  | succ i => exact (hargs.2 (i + 1) d v h1 h2).ext hext
 refine (hf.2 w C1 (u0::us) hb hargs1).mono fun ex w' ⟨v,C',he,hr,hst⟩ => ?_
 have hheap : ∀ x,x < w.heap.size → w'.heap[x]? = w.heap[x]?:=fun x hx => (hst.keep x hx (fun h => h)).1
 have hext2 : Ext w C w' (fun x => if x < w.heap.size then C x else C' x) :=
  ⟨hst.ext.size,fun x hx => by simp only [hx,if_true]; exact Nat.le_refl _,fun x o hx ho => by simp only [World.cell?,hheap x hx]⟩
 refine ⟨v,d,fun x => if x < w.heap.size then C x else C' x,look [(s,.row u0 xs k e)],he,⟨rfl,rfl⟩,hp _ _ _ _ _ hr,⟨hext2,hst.os,hst.tape,hst.output,fun x hx _ => ⟨hheap x hx,by simp only [hx,if_true]⟩⟩,?_⟩
 refine ⟨fun j o ho => (hH.obj j o ho).keep hext2 fun x hx => ?_,fun j j' o o' x hne h1 h2 hu hu' => hH.inj j j' o o' x hne h1 h2 hu hu',fun j o x ho hu => .inl (hH.foot j o x ho hu)⟩
 have hxl : x < w.heap.size:=by
  have hjo : o = .row u0 xs k e:=by
   simp only [look] at ho
   cases hb : Nat.beq j s with
   | true => rw [hb] at ho; simpa using ho.symm
   | false => rw [hb] at ho; simp at ho
  subst hjo
  obtain ⟨n,cap',h3,h4⟩:=hx
  rw [hv] at h3
  injection h3 with h3 h5 h6
  obtain ⟨b,hadb,hlt⟩:=hbl _ h3
  injection hadb with hadb
  omega
 exact ⟨hheap x hxl,by simp only [hxl,if_true]⟩

/-- What a call leaves behind,in part. -/
theorem DCall.sub {f : FuncId} {ds : List D} {H : Heap} {Q Q' : D → Heap → Prop} (h : DCall P W0 f ds H Q) (hq : ∀ d H',Q d H' → ∃ H1,(∀ j o,H1 j = some o → H' j = some o) ∧ Q' d H1) : DCall P W0 f ds H Q' :=
 ⟨h.1,fun w C args Ft hb hlow hH hargs => (h.2 w C args Ft hb hlow hH hargs).mono fun ex w' ⟨v,d,C',H',he,hQ,hr,hst,hr'⟩ => by
  obtain ⟨H1,hs,hQ'⟩:=hq d H' hQ
  exact ⟨v,d,C',H1,he,hQ',hr,hst,⟨fun j o ho => hr'.obj j o (hs j o ho),fun j j' o o' x hne h1 h2 => hr'.inj j j' o o' x hne (hs j o h1) (hs j' o' h2),fun j o x ho => hr'.foot j o x (hs j o ho)⟩⟩⟩
theorem look_sub {H : Heap} {k : Nat} {o : HObj} (h : H k = some o) : ∀ j o',look [(k,o)] j = some o' → H j = some o':=fun j o' hj => by
 simp only [look] at hj
 cases hb : Nat.beq j k with
 | true => rw [hb] at hj; have:=Nat.eq_of_beq_eq_true hb; subst this; rw [h]; simpa using hj
 | false => rw [hb] at hj; simp at hj
end Go.Tame
/- Appending nothing to a row. No program's text. -/
namespace Go.Tame
open Go Go.RowKit
set_option linter.unusedVariables false
variable {P : Program} {W0 : World} {nt : Nat} {σ : DSt} {dst : Option Tmp} {K : DSt → Prop} {ti : List TEnt}

/-- Nothing is appended: the row is the same. -/
theorem XOp.rowAppendNone (hT : TOk P ti) {t el k e : Nat} {x y : Operand} (q : Nat) {v : Value} {xs ys : List D} {k2 : Nat} {tg : Tag} {te ee : TEnt} (ht : tget ti t = some te) (hks : te.kind = .slice el) (hel : tget ti el = some ee)
  (hx : σ.ev x = .raw v) (hH : σ.H q = some (.row v xs k e)) (hy : σ.ev y = .sl tg k2 ys) (h0 : ys = []) (hK : K (σ.put dst (.raw v))) : XOp P W0 nt σ dst (.call ⟨.builtin .append,#[x,y],#[t,t]⟩) K :=
 .val fun Γ w C a hf type pos after => by
  subst h0
  obtain ⟨heo,rfl⟩:=hT.get ht
  obtain ⟨heeo,rfl⟩:=hT.get hel
  have hu:=heo.u_slice hks
  obtain ⟨i,hi,hsz,hby,hzz⟩:=heeo.info
  have hvx:=act_ev hf.tmps x; rw [hx] at hvx
  have hvy:=act_ev hf.tmps y; rw [hy] at hvy
  obtain ⟨a',cap,hvv,hc,_⟩:=hf.heap.obj q _ hH
  have hs : Src P i.size te.t (a.eval y) 0 [] w:=by
   rcases hvy.sl_inv with ⟨_,⟨a0,hv⟩,_⟩ | ⟨b,o,cap',g,hv,_⟩
   ·rw [hv]
    cases a0 with
    | none => exact Src.ofNil w hu _
    | some ad => exact Src.ofSlice w hu ad 0 _ [] (by simp) (fun j u h => by simp at h) (fun u h => by simp at h)
   ·rw [hv]; exact Src.ofSlice w hu _ 0 _ [] (by simp) (fun j u h => by simp at h) (fun u h => by simp at h)
  have hrun:=run_append_nothing (P:=P) w te.t te.t type ee.t i hu hi a' xs.length cap hc (a.eval y) hs
  rw [← hvv,← hvx.raw_inv] at hrun
  refine ⟨a.eval x,w,C,σ,_,?_,hf,by rw [hvx.raw_inv]; exact .raw _,hK⟩
  simp [execOp,resolve,invoke,builtin,hrun]

/-- A row that comes back is a slice of that many elements. -/
theorem DCall.rowShape {f : FuncId} {ds : List D} {H : Heap} {s k e : Nat} {xs : List D} (h : DCall P W0 f ds H fun d H' => ∃ v,d = .raw v ∧ H' = look [(s,.row v xs k e)]) :
  DCall P W0 f ds H fun d H' => ∃ a m c,m = xs.length ∧ d = .raw (.slice a m c) ∧ H' = look [(s,.row (.slice a m c) xs k e)] :=
 ⟨h.1,fun w C args Ft hb hlow hH hargs => (h.2 w C args Ft hb hlow hH hargs).mono fun ex w' ⟨v,d,C',H',he,⟨v',hd,hH'⟩,hr,hst,hr'⟩ => by
  have hs : H' s = some (.row v' xs k e):=by rw [hH']; simp only [look,Nat.beq_refl,cond_true]
  obtain ⟨a',cap,hv,_⟩:=hr'.obj s _ hs
  exact ⟨v,d,C',H',he,⟨a',_,cap,rfl,by rw [hd,hv],by rw [hH',hv]⟩,hr,hst,hr'⟩⟩
end Go.Tame
/- A slice is written out; its value is known. No program's text. -/
namespace Go.Tame
open Go Go.RowKit
variable {P : Program} {W0 : World} {nt : Nat} {σ : DSt} {dst : Option Tmp} {K : DSt → Prop} {ti : List TEnt}
/-- A slice is written out; it may be written. -/
theorem XOp.buildRowS (hT : TOk P ti) {t el n s q : Nat} {ps : Array (Nat × Operand)} {te ee : TEnt} (ht : tget ti t = some te) (hks : te.kind = .slice el) (hel : tget ti el = some ee) (h3 : Nat.ble (n * ee.sz) 16777216 = true) (h4 : Nat.blt 0 ee.sz = true) (h5 : ee.zero.isSome = true)
  (hq : evParts true σ ps.toList fun ds => ds.length = n ∧ rowC ee.sz 0 ds ∧ ∀ b,K ((σ.setH q (some (.row (.slice (some ⟨b,0,none⟩) n n) (ds.map (·.2)) ee.sz el))).put (some s) (.raw (.slice (some ⟨b,0,none⟩) n n)))) : XOp P W0 nt σ (some s) (.buildSlice t n ps) K :=
 .val fun Γ w C a hf type pos after => by
  obtain ⟨heo,rfl⟩:=hT.get ht
  obtain ⟨heeo,rfl⟩:=hT.get hel
  obtain ⟨ds,⟨hdn,hrow,hK⟩,hkeys,hds⟩:=evParts_elim hq
  have h6:=hds rfl w C a.eval (fun x hx => act_ev hf.tmps x.2)
  obtain ⟨us,hrun,hul,hk,hr⟩:=buildSlice_row (P:=P) heo heeo hks h5 (Nat.lt_of_lt_of_le (Nat.lt_succ_self _) (Nat.le_of_ble_eq_true h4)) (Nat.le_of_ble_eq_true h3) hdn hrow
   (w:=w) (C:=C) (vs:=(ps.map fun (i,x) => (i,a.eval x)).toList) (by simp [hkeys]) (by simpa [Function.comp_def] using h6)
  have hl : (ds.map (·.2)).length = n:=by simpa using hdn
  have hst:=Step.alloc (fun _ => False) w C (.cells us.toArray ee.t) 0
  refine ⟨_,_,_,_,_,?_,hf.newObj q (ob:=.row (.slice (some ⟨w.heap.size,0,none⟩) n n) (ds.map (·.2)) ee.sz ee.t) (o:=.cells us.toArray ee.t) ?_ ?_,.raw _,hK _⟩
  ·simp only [execOp]; rw [Sem.run_bind,hrun]; rfl
  ·refine ⟨_,n,by rw [hl],by omega,?_,hk,fun ad had => ⟨_,by cases had; rfl,lt_of_heap (heap_alloc_new' w _)⟩,fun _ => ⟨w.heap.size,_,rfl,heap_alloc_new' w _,by simpa using hul,upd_same _ _ _,fun j d hd => ?_⟩⟩
   ·simp only [maxLen]
    have h7:=Nat.le_of_ble_eq_true h3
    have h8 : n ≤ n * ee.sz:=Nat.le_mul_of_pos_right n (Nat.lt_of_lt_of_le (Nat.lt_succ_self _) (Nat.le_of_ble_eq_true h4))
    omega
   ·obtain ⟨u,h7,h8,h9⟩:=hr j d hd
    exact ⟨u,by simpa using h7,h8.ext hst.ext,h9⟩
  ·rintro b ⟨n',cap,h,_⟩; exact slice_uses h
end Go.Tame
/- A contract by value,called with data in which a row stands; appending to a row,of any length. No program's text. -/
namespace Go.Tame
open Go Go.RowKit
set_option linter.unusedVariables false
variable {P : Program} {W0 : World} {nt : Nat} {σ : DSt} {dst : Option Tmp} {K : DSt → Prop} {ti : List TEnt}

/-- The data are the same,but for the row v,that is lent. -/
def Lend (v : Value) (k : Nat) (xs : List D) : List D → List D → Prop
 | [],[] => True
 | d::a,d'::a' => (DLe d d' ∨ (d = .raw v ∧ d' = .sl .none k xs)) ∧ Lend v k xs a a'
 | _,_ => False
theorem Lend.len {v : Value} {k : Nat} {xs : List D} : ∀ {a a' : List D},Lend v k xs a a' → a.length = a'.length
 | [],[],_ => rfl
 | _::a,_::a',h => by simp [Lend.len (a:=a) (a':=a') h.2]
 | [],_::_,h => h.elim
 | _::_,[],h => h.elim
theorem Lend.get {w : World} {C : Nat → Nat} {v : Value} {k : Nat} {xs : List D} (hr : Rep w C (.sl .none k xs) v) : ∀ {a a' : List D},Lend v k xs a a' → ∀ {i : Nat} {d d' : D} {u : Value},a[i]? = some d → a'[i]? = some d' → Rep w C d u → Rep w C d' u
 | [],[],_,i,d,d',u,h1,_,_ => by simp at h1
 | x::a,x'::a',h,0,d,d',u,h1,h2,hu => by
  simp at h1 h2; subst h1; subst h2
  rcases h.1 with h3 | ⟨rfl,rfl⟩
  ·exact h3.le _ _ _ hu
  ·rw [hu.raw_inv]; exact hr
 | x::a,x'::a',h,i + 1,d,d',u,h1,h2,hu => Lend.get (a:=a) (a':=a') hr h.2 (i:=i) (by simpa using h1) (by simpa using h2) hu
 | [],_::_,h,_,_,_,_,_,_,_ => h.elim
 | _::_,[],h,_,_,_,_,_,_,_ => h.elim
theorem Lend.repL {w : World} {C : Nat → Nat} {v : Value} {k : Nat} {xs a a' : List D} {us : List Value} (hr : Rep w C (.sl .none k xs) v) (h : Lend v k xs a a') (hu : RepL w C a us) : RepL w C a' us :=
 ⟨by rw [← h.len]; exact hu.1,fun i d' u h1 h2 => by
  have hi : i < a.length:=by rw [h.len]; exact lt_of_get h1
  exact h.get hr (List.getElem?_eq_getElem hi) h1 (hu.2 i _ u (List.getElem?_eq_getElem hi) h2)⟩
theorem Lend.agg {w : World} {C : Nat → Nat} {v : Value} {k : Nat} {xs a a' : List D} {u : Value} (hr : Rep w C (.sl .none k xs) v) (h : Lend v k xs a a') (hu : Rep w C (.agg a) u) : Rep w C (.agg a') u:=by
 obtain ⟨us,rfl,hl⟩:=hu.agg_inv
 have h2:=h.repL hr hl
 exact .agg a' us h2.1 h2.2

/-- **The call reads a row that its caller keeps,as a part of its arguments.** -/
theorem DCall.lend {f : FuncId} {s k e : Nat} {v : Value} {xs ds ds' : List D} {d : D} (hl : ∀ (w : World) (C : Nat → Nat) (us : List Value),Rep w C (.sl .none k xs) v → RepL w C ds us → RepL w C ds' us)
  (hp : ∀ (w w' : World) (C C' : Nat → Nat) (u : Value),Rep w C d u → Rep w' C' d u) (hf : DFun P W0 f ds' d) :
  DCall P W0 f ds (look [(s,.row v xs k e)]) fun d' H' => d' = d ∧ H' = look [(s,.row v xs k e)]:=by
 refine ⟨hf.1,fun w C args Ft hb hlow hH hargs => ?_⟩
 have hs : (look [(s,HObj.row v xs k e)]) s = some (.row v xs k e):=by simp only [look,Nat.beq_refl,cond_true]
 have hro:=hH.obj s _ hs
 obtain ⟨a',cap,hv,hc,hm,hk,hbl,hw⟩:=hro
 obtain ⟨C1,hext,hrow⟩ : ∃ C1,Ext w C w C1 ∧ Rep w C1 (.sl .none k xs) v:=by
  by_cases h0 : 0 < cap
  ·obtain ⟨b,vs,rfl,hbb,hsz,hC,hr⟩:=hw h0
   have hext : Ext w C w (upd C b (xs.length * k)):=⟨Nat.le_refl _,fun x _ => upd_le C b _ (by omega) x,fun _ _ _ _ => rfl⟩
   refine ⟨_,hext,?_⟩
   have:=rep_row (w:=w) (C:=upd C b (xs.length * k)) (tg:=.none) (k:=k) (xs:=xs) (vs:=vs.toList) (b:=b) (e:=e) (fz:=(0,0)) (cap:=cap) hbb hk hc hm (by rw [upd_same]; exact Nat.le_refl _)
    (fun j d hd => by obtain ⟨u,h1,h2,h3⟩:=hr j d hd; exact ⟨u,by simpa using h1,h2.ext hext,h3⟩) trivial
   rw [hv]; exact this
  ·have hx : xs = []:=List.eq_nil_of_length_eq_zero (by omega)
   subst hx
   have hcap : cap = 0:=by omega
   subst hcap
   refine ⟨C,.refl _ _,?_⟩
   rw [hv]; exact .sl0 _ _ _ trivial
 have hargs1 : RepL w C1 ds args:=⟨hargs.1,fun i d v h1 h2 => (hargs.2 i d v h1 h2).ext hext⟩
 refine (hf.2 w C1 args hb (hl w C1 args hrow hargs1)).mono fun ex w' ⟨u,C',he,hr,hst⟩ => ?_
 have hheap : ∀ x,x < w.heap.size → w'.heap[x]? = w.heap[x]?:=fun x hx => (hst.keep x hx (fun h => h)).1
 have hext2 : Ext w C w' (fun x => if x < w.heap.size then C x else C' x) :=
  ⟨hst.ext.size,fun x hx => by simp only [hx,if_true]; exact Nat.le_refl _,fun x o hx ho => by simp only [World.cell?,hheap x hx]⟩
 refine ⟨u,d,fun x => if x < w.heap.size then C x else C' x,look [(s,.row v xs k e)],he,⟨rfl,rfl⟩,hp _ _ _ _ _ hr,⟨hext2,hst.os,hst.tape,hst.output,fun x hx _ => ⟨hheap x hx,by simp only [hx,if_true]⟩⟩,?_⟩
 refine ⟨fun j o ho => (hH.obj j o ho).keep hext2 fun x hx => ?_,fun j j' o o' x hne h1 h2 hu hu' => hH.inj j j' o o' x hne h1 h2 hu hu',fun j o x ho hu => .inl (hH.foot j o x ho hu)⟩
 have hxl : x < w.heap.size:=by
  have hjo : o = .row v xs k e:=by
   simp only [look] at ho
   cases hb : Nat.beq j s with
   | true => rw [hb] at ho; simpa using ho.symm
   | false => rw [hb] at ho; simp at ho
  subst hjo
  obtain ⟨n,cap',h3,h4⟩:=hx
  rw [hv] at h3
  injection h3 with h3 h5 h6
  obtain ⟨b,hadb,hlt⟩:=hbl _ h3
  injection hadb with hadb
  omega
 exact ⟨hheap x hxl,by simp only [hxl,if_true]⟩

/-- The operations of a region,in the text's order: the first n without guards,by lemmas of their own where wanted; the others only compute. -/
def vlistM (P : Program) (W0 : World) (ti : List TEnt) (nt : Nat) (ops : Array Oper) : Nat → List Oper → DSt → (DSt → Prop) → Prop
 | 0,l,σ,K => vlist P W0 ti nt ops l σ K
 | _ + 1,[],σ,K => K σ
 | n + 1,⟨dst,op,_,_,_,guard⟩::rest,σ,K => okDst nt dst = true ∧ guard = none ∧
  ((vstep P W0 ti σ dst op fun σ' => vlistM P W0 ti nt ops n rest σ' K) ∨ XOp P W0 nt σ dst op fun σ' => vlistM P W0 ti nt ops n rest σ' K)
theorem vlistM_seq {ti : List TEnt} (hT : TOk P ti) {Γ : Ctx P W0 nt} {ops : Array Oper} {Q : Exit → Act → World → Prop} {K : DSt → Prop} (hQ : ∀ σ' a' w' C',K σ' → FR Γ w' C' σ' a' → Q .normal a' w') :
  ∀ {n : Nat} {l : List Oper} {σ : DSt} (_ : vlistM P W0 ti nt ops n l σ K) {a : Act} {w : World} {C : Nat → Nat} (_ : FR Γ w C σ a),wpList P ops Q l a w
 | 0,_,_,hq,_,_,_,hf => vlist_seq hT hQ hq hf
 | _ + 1,[],_,hq,_,_,_,hf => hQ _ _ _ _ hq hf
 | n + 1,o::rest,σ,hq,a,w,C,hf => by
  obtain ⟨hd,hg,hq⟩:=hq
  have next : ∀ a' w',(∃ σ' C',vlistM P W0 ti nt ops n rest σ' K ∧ FR Γ w' C' σ' a') → wpList P ops Q rest a' w':=fun a' w' ⟨σ',C',h1,h2⟩ => vlistM_seq hT hQ h1 h2
  have hg2 : o.guard = none:=hg
  unfold wpList
  rw [if_pos (by simp [Region.wanted,hg2])]
  rcases hq with hq | hq
  ·exact .inl (Oper.wp_mono next (vstep_sound hT hf hd hq Q))
  ·obtain ⟨dst,op,type,pos,after,guard⟩:=o
   simp only at hg2; subst hg2
   exact .inl (Oper.wp_mono next (hq.run Γ w C a hf hd type pos after Q))
theorem Tri.regionM {ti : List TEnt} (hT : TOk P ti) (n : Nat) {Γ : Ctx P W0 nt} {id : Nat} {ops : Array Oper} {σ : DSt} {K : DExit → DSt → Prop} (hq : vlistM P W0 ti nt ops n ops.toList σ (K .normal)) : Tri Γ (.region id ops false) σ K :=
 ⟨fun _ _ _ hf => wp_region_list (vlistM_seq hT (fun σ' _ _ C' hK hF => ⟨.normal,σ',C',rfl,hK,hF⟩) hq hf)⟩
end Go.Tame
/- Rows whose elements hold slices that may be appended to: kept objects under a family of keys. No program's text. -/
namespace Go.Tame
open Go Go.RowKit
variable {P : Program} {W0 : World} {nt : Nat} {ti : List TEnt}

section
variable {σ : DSt} {dst : Option Tmp} {K : DSt → Prop}
/-- A field of an element of a row is read. -/
theorem XOp.rowLoadF (hT : TOk P ti) {t : Nat} {x : Operand} (s : Nat) {v : Value} {xs : List D} {k e i j : Nat} {te : TEnt} (hx : σ.ev x = .raw (rowPtr v (i * k + j))) (hs : σ.H s = some (.row v xs k e)) (ht : tget ti t = some te) {y : D}
  (hy : xs[i]? = some y) (hl : loadX te k j y fun d => K (σ.put dst d)) : XOp P W0 nt σ dst (.load t x) K :=
 .val fun Γ w C a hf type pos after => by
  obtain ⟨heo,rfl⟩:=hT.get ht
  have hv:=act_ev hf.tmps x; rw [hx] at hv
  obtain ⟨b,cap,vs,rfl,_,_,hk,hb,hsz,_,hr⟩:=RowV.pos (hf.heap.obj s _ hs) (lt_of_get hy)
  obtain ⟨d,hK,hd⟩:=loadX_sound heo hl
  obtain ⟨u,hu,hru⟩:=hd w C b (0 + i * k) (fun j => vs.getD (i * k + j) undef) (hk y (List.mem_of_getElem? hy)) (fun j d hd => by
   have hj : j < k:=by rw [← hk y (List.mem_of_getElem? hy)]; exact lt_of_get hd
   obtain ⟨u,h1,h2,_⟩:=hr (i * k + j) d (by rw [flat_get hk hy hj]; exact hd)
   refine ⟨?_,?_⟩
   ·simp only [World.cell?,hb,Nat.zero_add]
    simp [h1,Array.getD_eq_getD_getElem?]
   ·simp [Array.getD_eq_getD_getElem?,h1,h2])
  refine ⟨u,w,C,σ,d,?_,hf,hru,hK⟩
  simp only [rowPtr] at hv
  have hv' : a.eval x = .pointer (some ⟨b,0 + i * k + j,none⟩):=by
   rw [hv.raw_inv,Nat.add_assoc]
  simp only [execOp,hv',Sem.run_bind,hu,Result.andThen_ok,Sem.run_pure]
end
set_option linter.unusedVariables false in
/-- Rows,cell by cell. -/
theorem LeL.app : ∀ {a b c d : List D},LeL a b → LeL c d → LeL (a ++ c) (b ++ d)
 | [],[],_,_,_,h2 => h2
 | a0::ar,b0::br,c,d,h1,h2 => ⟨h1.1,LeL.app (a:=ar) (b:=br) h1.2 h2⟩
theorem LeL.flat : ∀ {xs ys : List D},xs.length = ys.length → (∀ (i : Nat) x y,xs[i]? = some x → ys[i]? = some y → LeL x.cells y.cells) → LeL (flat xs) (flat ys)
 | [],[],_,_ => trivial
 | x::xs,y::ys,hl,h => LeL.app (h 0 x y rfl rfl) (LeL.flat (xs:=xs) (ys:=ys) (by simpa using hl) fun i a b ha hb => h (i + 1) a b ha hb)
end Go.Tame
