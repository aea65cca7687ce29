/- A program logic of my own over the model, and contracts of this program's functions by it: part 13. No conditions of its own: each theorem states its own. -/
import Derived.Test.YtgaeiadnclmadaaGreatDoorL12
set_option linter.unnecessarySimpa false
set_option linter.unusedSimpArgs false
set_option linter.unusedVariables false
/- The part of a tree with some items: by the paths that are needed,and by the items below. Plain. -/
namespace Go.Tame.V
open Go Go.Proofs
set_option maxRecDepth 10000
set_option linter.unusedVariables false
set_option linter.unusedSimpArgs false

/-- Is it the beginning of one of these paths? -/
def needN (P : List (List (List UInt8))) (r : List (List UInt8)) : Bool:=P.any fun q => r.isPrefixOf q
theorem needN_iff {P : List (List (List UInt8))} {r : List (List UInt8)} : needN P r = true ↔ ∃ q ∈ P,r <+: q:=by
 simp only [needN,List.any_eq_true,List.isPrefixOf_iff_prefix]
mutual
/-- A node with the Kids whose paths are needed. -/
def partV (need : List UInt8 → Bool) : List UInt8 → NV → NV
 | p,.mk a b c d e f g h i j ks ss => .mk a b c d e f g h i j (partL need p ks) ss
def partL (need : List UInt8 → Bool) : List UInt8 → List NV → List NV
 | _,[] => []
 | p,k::r => if need (p ++ k.name) then partV need (p ++ k.name ++ [47]) k::partL need p r else partL need p r
end
theorem partV_eq (need : List UInt8 → Bool) (p : List UInt8) (n : NV) : partV need p n = { n with kids:=partL need p n.kids }:=by cases n; simp only [partV]
def joinQ (p m : List UInt8) : List UInt8:=if p = [] then m else p ++ 47::m
mutual
/-- A node with those of its Kids that belong to a part. -/
def refV (items : List (List UInt8)) : List UInt8 → NV → NV
 | p,.mk a b c d e f g h i j ks ss => .mk a b c d e f g h i j (refL items p ks) ss
def refL (items : List (List UInt8)) : List UInt8 → List NV → List NV
 | _,[] => []
 | p,k::r => if decide (joinQ p k.name = []) || (!(refV items (joinQ p k.name) k).kids.isEmpty || items.any fun x => x == joinQ p k.name) then refV items (joinQ p k.name) k::refL items p r else refL items p r
end
theorem refV_eq (items : List (List UInt8)) (p : List UInt8) (n : NV) : refV items p n = { n with kids:=refL items p n.kids }:=by cases n; simp only [refV]
def refB (items : List (List UInt8)) (p : List UInt8) (n : NV) : Bool:=decide (p = []) || (!(refV items p n).kids.isEmpty || items.any fun x => x == p)
theorem refL_cons (items : List (List UInt8)) (p : List UInt8) (k : NV) (r : List NV) : refL items p (k::r) = if refB items (joinQ p k.name) k then refV items (joinQ p k.name) k::refL items p r else refL items p r:=by
 simp only [refL,refB]; rfl

theorem tailF_snoc (r : List (List UInt8)) (m : List UInt8) : tailF (r ++ [m]) = tailF r ++ 47::m:=by simp [tailF]
theorem joinF_snoc : ∀ (r : List (List UInt8)) (m : List UInt8),joinF (r ++ [m]) = if r = [] then m else joinF r ++ 47::m
 | [],m => by simp [joinF,tailF]
 | x::r,m => by
  rw [if_neg (by simp)]
  simp only [List.cons_append,joinF,tailF_snoc,List.append_assoc]
theorem okP_snoc {r : List (List UInt8)} {m : List UInt8} (h : okP r) (hm : nameOk m = true) : okP (r ++ [m]):=fun x hx => by
 rcases List.mem_append.1 hx with hx | hx
 ·exact h x hx
 ·rw [List.mem_singleton.1 hx]; exact hm
theorem joinQ_snoc {r : List (List UInt8)} {m : List UInt8} (h : okP r) : joinQ (joinF r) m = joinF (r ++ [m]):=by
 rw [joinF_snoc,joinQ]
 by_cases h0 : r = []
 ·subst h0; simp [joinF]
 ·rw [if_neg (fun e => h0 ((joinF_nil h).1 e)),if_neg h0]

theorem mem_sz {n k : NV} (h : k ∈ n.kids) : sz k < sz n:=by
 obtain ⟨i,hi,rfl⟩:=List.mem_iff_getElem.1 h
 have:=kid_sz hi; omega

/-- Both parts are the same; a node belongs to the part if its path is needed. -/
theorem part_ref {P : List (List (List UInt8))} (hP : ∀ q ∈ P,okP q) {items : List (List UInt8)} (hI : items = P.map joinF) {need : List UInt8 → Bool} (hN : ∀ r,okP r → r ≠ [] → need (joinF r) = needN P r) :
  ∀ (N : Nat) (n : NV) (r : List (List UInt8)) (p : List UInt8),sz n < N → okT n → okP r → (p = if r = [] then [] else joinF r ++ [47]) → (∀ q ∈ P,r <+: q → ∃ s ∈ pathsN n,q = r ++ s) →
   partV need p n = refV items (joinF r) n ∧ (r ≠ [] → refB items (joinF r) n = needN P r)
 | 0,_,_,_,h,_,_,_,_ => by omega
 | N + 1,n,r,p,hs,ht,hr,hp,hB => by
  have hany : (items.any fun x => x == joinF r) = P.any fun q => q == r:=by
   rw [hI,List.any_map]
   rw [Bool.eq_iff_iff,List.any_eq_true,List.any_eq_true]
   constructor
   ·rintro ⟨q,hq,h⟩
    have:=joinF_inj (hP q hq) hr (by simpa using h)
    exact ⟨q,hq,by simp [this]⟩
   ·rintro ⟨q,hq,h⟩
    have : q = r:=by simpa using h
    subst this
    exact ⟨q,hq,by simp⟩
  have kid : ∀ k ∈ n.kids,partV need (p ++ k.name ++ [47]) k = refV items (joinQ (joinF r) k.name) k ∧ refB items (joinQ (joinF r) k.name) k = needN P (r ++ [k.name]) ∧ need (p ++ k.name) = needN P (r ++ [k.name]):=fun k hk => by
   have hko:=okT_name ht hk
   have hrk:=okP_snoc hr hko
   have hj:=joinQ_snoc (m:=k.name) hr
   have hpk : p ++ k.name = joinF (r ++ [k.name]):=by
    rw [joinF_snoc,hp]
    by_cases h0 : r = []
    ·rw [if_pos h0,if_pos h0]; rfl
    ·rw [if_neg h0,if_neg h0]; simp
   obtain ⟨h1,h2⟩:=part_ref hP hI hN N k (r ++ [k.name]) (p ++ k.name ++ [47]) (by have:=mem_sz hk; omega) (okT_kid ht hk) hrk (by rw [if_neg (by simp),hpk]) (fun q hq hpre => by
    obtain ⟨t,ht'⟩:=hpre
    obtain ⟨s,hs',e⟩:=hB q hq ⟨[k.name] ++ t,by rw [← List.append_assoc]; exact ht'⟩
    rw [e,List.append_assoc] at ht'
    have e2 : [k.name] ++ t = s:=List.append_cancel_left ht'
    have e3 : s = k.name::t:=e2.symm
    subst e3
    obtain ⟨k',hk',e4,h5⟩:=cons_mem.1 hs'
    have:=inc_name (okT_inc ht) hk' hk e4
    subst this
    exact ⟨t,h5,by rw [e]; simp⟩)
   rw [hj]
   exact ⟨h1,h2 (by simp),by rw [hpk]; exact hN _ hrk (by simp)⟩
  have hL : ∀ ks : List NV,(∀ k ∈ ks,k ∈ n.kids) → partL need p ks = refL items (joinF r) ks:=by
   intro ks
   induction ks with
   | nil => intro _; simp only [partL,refL]
   | cons k ks ih =>
    intro h
    obtain ⟨h1,h2,h3⟩:=kid k (h k List.mem_cons_self)
    rw [refL_cons,partL,h1,h2,h3,ih fun x hx => h x (List.mem_cons_of_mem _ hx)]
  have hE:=hL n.kids fun k hk => hk
  refine ⟨by rw [partV_eq,refV_eq,hE],fun h0 => ?_⟩
  have hj0 : joinF r ≠ []:=fun e => h0 ((joinF_nil hr).1 e)
  unfold refB
  rw [refV_eq,hany,decide_eq_false hj0,Bool.false_or,Bool.eq_iff_iff,Bool.or_eq_true,needN_iff]
  have hne : ∀ ks : List NV,(∀ k ∈ ks,k ∈ n.kids) → ((refL items (joinF r) ks).isEmpty = false ↔ ∃ k ∈ ks,needN P (r ++ [k.name]) = true):=by
   intro ks
   induction ks with
   | nil => intro _; simp [refL]
   | cons k ks ih =>
    intro h
    obtain ⟨h1,h2,h3⟩:=kid k (h k List.mem_cons_self)
    rw [refL_cons,h2]
    have ih':=ih fun x hx => h x (List.mem_cons_of_mem _ hx)
    by_cases hnk : needN P (r ++ [k.name]) = true
    ·rw [if_pos hnk]
     simp [hnk]
    ·rw [if_neg hnk,ih']
     constructor
     ·rintro ⟨x,hx,hh⟩; exact ⟨x,List.mem_cons_of_mem _ hx,hh⟩
     ·rintro ⟨x,hx,hh⟩
      rcases List.mem_cons.1 hx with e | hx
      ·rw [e] at hh; exact absurd hh hnk
      ·exact ⟨x,hx,hh⟩
  have hkids:=hne n.kids fun k hk => hk
  show (!(refL items (joinF r) n.kids).isEmpty) = true ∨ _ ↔ _
  rw [Bool.not_eq_true',hkids]
  constructor
  ·rintro (⟨k,hk,h⟩ | h)
   ·obtain ⟨q,hq,t,e⟩:=needN_iff.1 h
    exact ⟨q,hq,[k.name] ++ t,by rw [← List.append_assoc]; exact e⟩
   ·obtain ⟨q,hq,h⟩:=List.any_eq_true.1 h
    have : q = r:=by simpa using h
    subst this
    exact ⟨q,hq,List.prefix_refl _⟩
  ·rintro ⟨q,hq,hpre⟩
   obtain ⟨s,hs',rfl⟩:=hB q hq hpre
   cases s with
   | nil => right; exact List.any_eq_true.2 ⟨_,hq,by simp⟩
   | cons m s =>
    left
    obtain ⟨k,hk,e,_⟩:=cons_mem.1 hs'
    exact ⟨k,hk,needN_iff.2 ⟨_,hq,s,by rw [e]; simp⟩⟩
end Go.Tame.V
/- The table of types,with those of files. By program. -/
namespace Go.Tame.V
open Go Go.Proofs
def ti2 : List TEnt:=[
 ⟨3,false,1,8,.int .i64,[],some [.int .i64 0],[]⟩,
 ⟨9,false,1,16,.str,[],some [.str []],[]⟩,
 ⟨25,true,12,152,.struct,[(0,1,false),(1,1,false),(2,1,false),(3,1,false),(4,1,false),(5,1,false),(6,1,false),(7,1,false),(8,1,false),(9,1,false),(10,1,false),(11,1,false)],some [.str [],.int .i64 0,.str [],.str [],.int .i64 0,.int .i64 0,.int .i64 0,.int .i64 0,.int .i64 0,.int .i64 0,.nils,.nils],[]⟩,
 ⟨4,false,1,1,.bool,[],some [.bool false],[]⟩,
 ⟨22,false,1,24,.slice 25,[],some [.nils],[]⟩,
 ⟨23,false,1,24,.slice 71,[],some [.nils],[]⟩,
 ⟨71,true,2,32,.struct,[(0,1,false),(1,1,false)],some [.str [],.str []],[.str,.str]⟩,
 ⟨26,false,1,24,.slice 9,[],some [.nils],[]⟩,
 ⟨34,false,1,8,.int .i64,[],some [.int .i64 0],[]⟩,
 ⟨21,false,1,4,.int .i32,[],some [.int .i32 0],[]⟩,
 ⟨5,false,1,1,.int .u8,[],some [.int .u8 0],[]⟩,
 ⟨139,false,1,24,.slice 3,[],some [.nils],[]⟩,
 ⟨109,true,13,160,.struct,[(0,12,true),(12,1,false)],some [.str [],.int .i64 0,.str [],.str [],.int .i64 0,.int .i64 0,.int .i64 0,.int .i64 0,.int .i64 0,.int .i64 0,.nils,.nils,.int .i64 0],[]⟩,
 ⟨111,false,1,24,.slice 110,[],some [.nils],[]⟩,
 ⟨110,false,1,8,.other,[],some [.raw .nilFunc],[]⟩,
 ⟨93,false,1,8,.other,[],some [.raw .nilFunc],[]⟩,
 ⟨282,true,14,184,.struct,[(0,12,true),(12,1,false),(13,1,false)],some [.str [],.int .i64 0,.str [],.str [],.int .i64 0,.int .i64 0,.int .i64 0,.int .i64 0,.int .i64 0,.int .i64 0,.nils,.nils,.str [],.str []],[]⟩,
 ⟨325,false,1,24,.slice 21,[],some [.nils],[]⟩,
 ⟨224,false,1,24,.slice 5,[],some [.nils],[]⟩,
 ⟨327,true,2,48,.struct,[(0,1,false),(1,1,false)],some [.nils,.nils],[]⟩,
 ⟨2,false,1,8,.int .i64,[],some [.int .i64 0],[]⟩,
 ⟨294,false,1,4,.int .u32,[],some [.int .u32 0],[]⟩,
 ⟨379,false,1,8,.int .u64,[],some [.int .u64 0],[]⟩,
 ⟨387,false,1,8,.other,[],some [.raw .nilFunc],[]⟩,
 ⟨430,false,1,24,.slice 387,[],some [.nils],[]⟩,
 ⟨28,true,8,104,.struct,[(0,1,false),(1,1,false),(2,1,false),(3,1,false),(4,1,false),(5,1,false),(6,1,false),(7,1,false)],some [.str [],.str [],.str [],.str [],.str [],.int .i64 0,.int .i64 0,.int .i64 0],[.str,.str,.str,.str,.str,.int .i64,.int .i64,.int .i64]⟩,
 ⟨31,true,13,160,.struct,[(0,8,true),(8,1,false),(9,1,false),(10,1,false),(11,1,false),(12,1,false)],some [.str [],.str [],.str [],.str [],.str [],.int .i64 0,.int .i64 0,.int .i64 0,.int .i64 0,.int .i64 0,.nils,.int .i64 0,.bool false],[]⟩,
 ⟨29,false,1,24,.slice 54,[],some [.nils],[]⟩,
 ⟨54,true,6,56,.struct,[(0,1,false),(1,1,false),(2,1,false),(3,1,false),(4,1,false),(5,1,false)],some [.str [],.int .i64 0,.int .i64 0,.int .i64 0,.int .i64 0,.bool false],[.str,.int .i64,.int .i64,.int .i64,.int .i64,.bool]⟩,
 ⟨51,false,1,24,.slice 31,[],some [.nils],[]⟩,
 ⟨85,false,1,24,.slice 26,[],some [.nils],[]⟩,
 ⟨103,false,1,8,.other,[],some [.raw .nilFunc],[]⟩,
 ⟨101,false,1,8,.other,[],some [.raw .nilFunc],[]⟩,
 ⟨61,false,1,24,.slice 156,[],some [.nils],[]⟩,
 ⟨156,true,3,32,.struct,[(0,1,false),(1,1,false),(2,1,false)],some [.str [],.int .i64 0,.int .i64 0],[.str,.int .i64,.int .i64]⟩,
 ⟨64,false,1,8,.other,[],some [.raw (.map none)],[]⟩]
set_option maxRecDepth 100000 in
theorem ti2_ok : TOk Tryz.prog ti2:=TOk.of (by kernel_rfl)
end Go.Tame.V
/- Contracts: parts of trees,the reference's options and lists. By program (mk.py). -/
namespace Go.Tame.V
open Go Go.Proofs
variable {W0 : World}
set_option maxRecDepth 10000
set_option linter.unusedVariables false
set_option linter.unusedSimpArgs false

theorem K32 (l : List (List UInt8)) (p : List UInt8) (hl : l.length < 1000000000) : DFun Tryz.prog W0 32 [.sl .none 1 (strs l),.str p] (.bool (hasP l p)):=by
 refine DFun.intro ti_ok Tryz.func32 rfl (by decide +kernel) Tryz.ntmps32 rfl fun Γ => ?_
 refine Tri.seq ?_
 refine Tri.region ti_ok ?_
 conv => whnf
 refine Tri.seq ?_
 refine Tri.seq ?_
 refine Tri.region ti_ok ?_
 conv => whnf
 refine Tri.block ?_
 refine Tri.loop (α:={ i : Nat // i ≤ l.length ∧ ∀ j (h : j < l.length),j < i → (l[j] == p) = false }) (fun x => [(0,.sl .none 1 (strs l)),(1,.str p),(5,.int .i64 x.1)]) (fun _ => []) (fun x => l.length - x.1) ⟨0,by simp⟩ ⟨.refl _,.refl _,.refl _,trivial⟩ trivial ?_
 rintro ⟨i,hi,hp⟩
 dsimp only
 refine Tri.seq ?_
 refine Tri.seq ?_
 refine Tri.region ti_ok ?_
 conv => whnf
 refine Tri.cond (decide ((i : Int) < (strs l).length)) rfl (fun hc => ?_) (fun hc => ?_)
 ·refine Tri.skip ?_
  conv => whnf
  refine Tri.seq ?_
  refine Tri.block ?_
  have hia : i < l.length:=by simpa [strs] using hc
  refine Tri.seq ?_
  refine Tri.region ti_ok ?_
  conv => whnf
  refine ⟨fun _ => by simp [strs]; omega,?_⟩
  conv => whnf
  refine ⟨.str l[i],fun _ => by simp [strs,hia],?_⟩
  conv => whnf
  refine Tri.cond (l[i] == p) rfl (fun hc => ?_) (fun hc => ?_)
  ·refine Tri.seq ?_
   refine Tri.region ti_ok ?_
   conv => whnf
   refine Tri.ret ?_
   conv => whnf
   have hx : hasP l p = true:=List.any_eq_true.2 ⟨l[i],List.getElem_mem hia,by simpa using (show l[i] = p by simpa using hc).symm⟩
   rw [hx]
   exact .refl _
  ·refine Tri.skip ?_
   conv => whnf
   refine Tri.region ti_ok ?_
   conv => whnf
   refine .inl ⟨fun _ => by simp [InR]; omega,?_⟩
   conv => whnf
   exact ⟨⟨i + 1,by omega,fun j hj hlt => (Nat.lt_succ_iff_lt_or_eq.1 hlt).elim (hp j hj) fun e => by subst e; exact hc⟩,by show _ - (i + 1) < _ - i; omega,⟨.refl _,.refl _,.refl _,trivial⟩,trivial⟩
 ·refine Tri.exit ?_
  conv => whnf
  refine Tri.seq ?_
  refine Tri.region ti_ok ?_
  conv => whnf
  refine Tri.ret ?_
  conv => whnf
  have hx : hasP l p = false:=by
   rw [hasP,List.any_eq_false]
   intro x hx
   obtain ⟨j,hj,rfl⟩:=List.mem_iff_getElem.1 hx
   have:=hp j hj (by simp [strs] at hc; omega)
   intro e
   have : p = l[j]:=by simpa using e
   subst this
   simp at *
  rw [hx]
  exact .refl _
theorem K63 (p m : List UInt8) (h : p.length + m.length < 1000000000) : DFun Tryz.prog W0 63 [.str p,.str m] (.str (joinQ p m)):=by
 refine DFun.intro ti_ok Tryz.func63 rfl (by decide +kernel) Tryz.ntmps63 rfl fun Γ => ?_
 refine Tri.seq ?_
 refine Tri.region ti_ok ?_
 conv => whnf
 refine Tri.seq ?_
 refine Tri.seq ?_
 refine Tri.region ti_ok ?_
 conv => whnf
 refine Tri.cond (p == []) rfl (fun hc => ?_) (fun hc => ?_)
 ·refine Tri.seq ?_
  refine Tri.region ti_ok ?_
  conv => whnf
  refine Tri.ret ?_
  conv => whnf
  have h0 : p = []:=by simpa using hc
  rw [joinQ,if_pos h0]
  exact .refl _
 ·refine Tri.skip ?_
  conv => whnf
  refine Tri.seq ?_
  refine Tri.region ti_ok ?_
  conv => whnf
  refine ⟨fun _ => by simp; omega,?_⟩
  conv => whnf
  refine ⟨fun _ => by simp; omega,?_⟩
  conv => whnf
  refine Tri.ret ?_
  conv => whnf
  have h0 : ¬ p = []:=by simpa using hc
  rw [joinQ,if_neg h0]
  exact DLe.of_eq (by show D.str (p ++ [47] ++ m) = _; simp)
theorem K7 (n : NV) (m : MV) (l : List (List UInt8)) (fs : List D) (hn : Fits n) (hm : m.name.length + m.set.length + m.pub.length + m.prep.length + m.app.length < 1000000000) : DFun Tryz.prog W0 7 [encTop n,encM m,.sl .none 1 (strs l),.sl .none 3 fs] (.bool (few1 n 100000 && (fewM m && (decide (l.length ≤ 50) && decide (fs.length ≤ 50))))):=by
 refine DFun.intro ti2_ok Tryz.func7 rfl (by decide +kernel) Tryz.ntmps7 rfl fun Γ => ?_
 refine Tri.seq ?_
 refine Tri.region ti2_ok ?_
 conv => whnf
 intro b1
 conv => whnf
 intro b2
 conv => whnf
 refine Tri.seq ?_
 refine Tri.region ti2_ok ?_
 conv => whnf
 refine ⟨rfl,?_⟩
 conv => whnf
 refine ⟨[encTop n,.int .i64 100000],_,fun _ => F26 n 100000 hn,⟨.refl _,.refl _,trivial⟩,?_⟩
 conv => whnf
 refine ⟨rfl,?_⟩
 conv => whnf
 refine ⟨fun h => h,?_⟩
 conv => whnf
 refine ⟨[encM m],_,fun _ => K22 m hm,⟨.refl _,trivial⟩,?_⟩
 conv => whnf
 refine ⟨fun h0 h => by first | exact h | (rw [h]; rfl) | (rw [h0,h]; rfl),?_⟩
 conv => whnf
 refine ⟨fun h => h,?_⟩
 conv => whnf
 refine ⟨fun h => h,?_⟩
 conv => whnf
 refine ⟨fun h0 h => by first | exact h | (rw [h]; rfl) | (rw [h0,h]; rfl),?_⟩
 conv => whnf
 refine ⟨fun h => h,?_⟩
 conv => whnf
 refine ⟨fun h => h,?_⟩
 conv => whnf
 refine ⟨fun h0 h => by first | exact h | (rw [h]; rfl) | (rw [h0,h]; rfl),?_⟩
 conv => whnf
 refine Tri.ret ?_
 conv => whnf
 refine DLe.of_eq (congrArg D.bool ?_)
 have hl : (strs l).length = l.length:=by simp [strs]
 cases h1 : few1 n 100000 <;> cases h2 : fewM m <;> by_cases h3 : l.length ≤ 50 <;> by_cases h4 : fs.length ≤ 50 <;> simp [h1,h2,h3,h4,hl] <;> omega
def optL (m : MV) (items : List (List UInt8)) (i : Nat) : List D:=((m.boot.take i).filter fun b => hasP items b.path).map encB
theorem optL_next {m : MV} (items : List (List UInt8)) {i : Nat} (h : i < m.boot.length) : optL m items (i + 1) = optL m items i ++ (if hasP items m.boot[i].path = true then [encB m.boot[i]] else []):=by
 rw [optL,optL,List.take_succ_eq_append_getElem h,List.filter_append,List.map_append]
 congr 1
 by_cases hx : hasP items m.boot[i].path = true
 ·simp [hx]
 ·simp [hx]
theorem optL_all (m : MV) (items : List (List UInt8)) : optL m items m.boot.length = (optV m items).boot.map encB:=by
 simp only [optL,optV,List.take_length]
theorem optL_len (m : MV) (items : List (List UInt8)) (i : Nat) : (optL m items i).length ≤ m.boot.length:=by
 simp only [optL,List.length_map]
 have h1:=List.length_filter_le (fun b : BE => hasP items b.path) (m.boot.take i)
 have h2 : (m.boot.take i).length ≤ m.boot.length:=by simp; omega
 omega
theorem K16 (m : MV) (items : List (List UInt8)) (hm : m.boot.length < 1000000) (hi : items.length < 1000000000) : DFun Tryz.prog W0 16 [encM m,.sl .none 1 (strs items)] (encM (optV m items)):=by
 refine DFun.intro ti_ok Tryz.func16 rfl (by decide +kernel) Tryz.ntmps16 rfl fun Γ => ?_
 refine Tri.seq ?_
 refine Tri.region ti_ok ?_
 conv => whnf
 intro b1
 conv => whnf
 intro b2
 conv => whnf
 refine Tri.seq ?_
 refine Tri.region ti_ok ?_
 conv => whnf
 refine ⟨rfl,?_⟩
 conv => whnf
 intro b3
 conv => whnf
 refine ⟨rfl,?_⟩
 conv => whnf
 refine Tri.seq ?_
 refine Tri.region ti_ok ?_
 conv => whnf
 refine ⟨rfl,?_⟩
 conv => whnf
 refine Tri.seq ?_
 refine Tri.seq ?_
 refine Tri.region ti_ok ?_
 conv => whnf
 refine Tri.block ?_
 refine Tri.ownNil 1000 6 54 ?_
 refine Tri.boxLe 5 (cs':=[.str m.name,.str m.set,.str m.pub,.str m.prep,.str m.app,.int .i64 m.num,.int .i64 m.discs,.int .i64 m.time,.int .i64 m.views,.int .i64 m.zone,.sl (.own 1000 (.slice none 0 0)) 6 [],.int .i64 m.udf,.bool m.share]) rfl ⟨.refl _,.refl _,.refl _,.refl _,.refl _,.refl _,.refl _,.refl _,.refl _,.refl _,DLe.nilOwn,.refl _,.refl _,trivial⟩ ?_
 refine Tri.loopK (α:={ i : Nat // i ≤ m.boot.length } × Value) (fun x => [(1,.sl .none 1 (strs items)),(2,.box 2 b1 0),(4,.box 4 b2 0),(5,.box 5 b3 0),(6,.int .i64 x.1.1)])
  (fun x => [(2,.box b1 [.str m.name,.str m.set,.str m.pub,.str m.prep,.str m.app,.int .i64 m.num,.int .i64 m.discs,.int .i64 m.time,.int .i64 m.views,.int .i64 m.zone,.sl .none 6 (m.boot.map encB),.int .i64 m.udf,.bool m.share]),(4,.box b2 [.str [],.str [],.str [],.str [],.str [],.int .i64 0,.int .i64 0,.int .i64 0,.int .i64 0,.int .i64 0,.nils,.int .i64 0,.bool false]),(5,.box b3 [.str m.name,.str m.set,.str m.pub,.str m.prep,.str m.app,.int .i64 m.num,.int .i64 m.discs,.int .i64 m.time,.int .i64 m.views,.int .i64 m.zone,.sl (.own 1000 x.2) 6 (optL m items x.1.1),.int .i64 m.udf,.bool m.share]),(1000,.own x.2 (optL m items x.1.1).length 6 54)]) (fun x => m.boot.length - x.1.1) (⟨0,by omega⟩,.slice none 0 0) [(2,2),(4,4),(5,5),(1000,1000)]
  ⟨⟨.refl _,.refl _,.refl _,.refl _,.refl _,trivial⟩,rfl,rfl,rfl,rfl,rfl,rfl,rfl,rfl,rfl,trivial⟩ ?_
 rintro ⟨⟨i,hi2⟩,w⟩
 dsimp only at hi2 ⊢
 refine Tri.seq ?_
 refine Tri.seq ?_
 refine Tri.region ti_ok ?_
 conv => whnf
 refine ⟨rfl,?_⟩
 conv => whnf
 refine Tri.cond (decide ((i : Int) < (m.boot.map encB).length)) rfl (fun hc => ?_) (fun hc => ?_)
 ·refine Tri.skip ?_
  conv => whnf
  have hia : i < m.boot.length:=by simpa using hc
  have hnx:=optL_next items hia
  have hln:=optL_len m items i
  refine Tri.seq ?_
  refine Tri.block ?_
  refine Tri.seq ?_
  refine Tri.region ti_ok ?_
  conv => whnf
  refine ⟨rfl,?_⟩
  conv => whnf
  refine ⟨fun _ => by simp; omega,?_⟩
  conv => whnf
  refine ⟨encB m.boot[i],fun _ => get_bes hia,?_⟩
  conv => whnf
  refine ⟨[.sl .none 1 (strs items),.str m.boot[i].path],_,fun _ => K32 items _ hi,⟨.refl _,.refl _,trivial⟩,?_⟩
  conv => whnf
  refine Tri.cond (hasP items m.boot[i].path) rfl (fun hc2 => ?_) (fun hc2 => ?_)
  ·refine Tri.drawTail ti_ok 8 mixed (by kernel_rfl) ?_
   conv => whnf
   refine ⟨rfl,?_⟩
   conv => whnf
   refine ⟨rfl,?_⟩
   conv => whnf
   refine ⟨fun _ => by simp; omega,?_⟩
   conv => whnf
   refine ⟨encB m.boot[i],fun _ => get_bes hia,?_⟩
   conv => whnf
   refine ⟨trivial,?_⟩
   conv => whnf
   refine ⟨rfl,rfl,?_⟩
   conv => whnf
   refine ⟨by show (_ + 1) * 56 ≤ _; omega,by show _ + 1 ≤ _; omega,(fun h => by cases h),fun v => ?_⟩
   conv => whnf
   refine ⟨rfl,?_⟩
   conv => whnf
   rw [if_pos hc2] at hnx
   refine Tri.boxLe 5 (cs':=[.str m.name,.str m.set,.str m.pub,.str m.prep,.str m.app,.int .i64 m.num,.int .i64 m.discs,.int .i64 m.time,.int .i64 m.views,.int .i64 m.zone,.sl (.own 1000 v) 6 (optL m items (i + 1)),.int .i64 m.udf,.bool m.share]) rfl ⟨.refl _,.refl _,.refl _,.refl _,.refl _,.refl _,.refl _,.refl _,.refl _,.refl _,DLe.ownEq hnx.symm,.refl _,.refl _,trivial⟩ ?_
   refine Tri.region ti_ok ?_
   conv => whnf
   refine .inl ⟨fun _ => by simp [InR]; omega,?_⟩
   conv => whnf
   exact ⟨(⟨i + 1,hia⟩,v),[(2,2),(4,4),(5,5),(1000,32)],by show _ - (i + 1) < _ - i; omega,⟨.refl _,.refl _,.refl _,.refl _,.refl _,trivial⟩,rfl,rfl,rfl,rfl,rfl,rfl,rfl,rfl,ownH (show _ = (optL m items (i + 1)).length by rw [hnx]; simp),trivial⟩
  ·refine Tri.skip ?_
   conv => whnf
   refine Tri.region ti_ok ?_
   conv => whnf
   refine .inl ⟨fun _ => by simp [InR]; omega,?_⟩
   conv => whnf
   rw [if_neg (by simp [hc2]),List.append_nil] at hnx
   exact ⟨(⟨i + 1,hia⟩,w),[(2,2),(4,4),(5,5),(1000,1000)],by show _ - (i + 1) < _ - i; omega,⟨.refl _,.refl _,.refl _,.refl _,.refl _,trivial⟩,rfl,rfl,rfl,rfl,rfl,rfl,congrArg (fun z : List D => some (HObj.box b3 [.str m.name,.str m.set,.str m.pub,.str m.prep,.str m.app,.int .i64 m.num,.int .i64 m.discs,.int .i64 m.time,.int .i64 m.views,.int .i64 m.zone,.sl (.own 1000 w) 6 z,.int .i64 m.udf,.bool m.share])) hnx.symm,rfl,congrArg (fun z : List D => some (HObj.own w z.length 6 54)) hnx.symm,trivial⟩
 ·refine Tri.exit ?_
  conv => whnf
  refine Tri.seq ?_
  refine Tri.region ti_ok ?_
  conv => whnf
  refine ⟨rfl,?_⟩
  conv => whnf
  refine ⟨rfl,?_⟩
  conv => whnf
  refine Tri.ret ?_
  conv => whnf
  have hin : i = m.boot.length:=by simp at hc; omega
  rw [hin,optL_all]
  refine ⟨rfl,?_⟩
  conv => whnf
  refine DLe.agg (a:=[.str m.name,.str m.set,.str m.pub,.str m.prep,.str m.app,.int .i64 m.num,.int .i64 m.discs,.int .i64 m.time,.int .i64 m.views,.int .i64 m.zone,.sl (.own 1000 w) 6 ((optV m items).boot.map encB),.int .i64 m.udf,.bool m.share]) (a':=[.str m.name,.str m.set,.str m.pub,.str m.prep,.str m.app,.int .i64 m.num,.int .i64 m.discs,.int .i64 m.time,.int .i64 m.views,.int .i64 m.zone,.sl .none 6 ((optV m items).boot.map encB),.int .i64 m.udf,.bool m.share]) ?_
  exact ⟨.refl _,.refl _,.refl _,.refl _,.refl _,.refl _,.refl _,.refl _,.refl _,.refl _,DLe.unown,.refl _,.refl _,trivial⟩
theorem K14 (m : MV) (hm : m.boot.length < 1000000000) : DFun Tryz.prog W0 14 [encM m,encM m] (.bool true):=by
 refine DFun.intro ti_ok Tryz.func14 rfl (by decide +kernel) Tryz.ntmps14 rfl fun Γ => ?_
 refine Tri.seq ?_
 refine Tri.region ti_ok ?_
 conv => whnf
 intro b1
 conv => whnf
 intro b2
 conv => whnf
 refine Tri.seq ?_
 refine Tri.seq ?_
 refine Tri.region ti_ok ?_
 conv => whnf
 refine ⟨rfl,?_⟩
 conv => whnf
 refine ⟨rfl,?_⟩
 conv => whnf
 refine ⟨fun h => h,?_⟩
 conv => whnf
 refine ⟨rfl,?_⟩
 conv => whnf
 refine ⟨fun h => h,?_⟩
 conv => whnf
 refine ⟨rfl,?_⟩
 conv => whnf
 refine ⟨fun h => h,?_⟩
 conv => whnf
 refine ⟨fun h => h,?_⟩
 conv => whnf
 refine ⟨fun h0 h => by first | exact h | (rw [h]; rfl) | (rw [h0,h]; rfl),?_⟩
 conv => whnf
 refine ⟨fun h => h,?_⟩
 conv => whnf
 refine ⟨rfl,?_⟩
 conv => whnf
 refine ⟨fun h => h,?_⟩
 conv => whnf
 refine ⟨rfl,?_⟩
 conv => whnf
 refine ⟨fun h => h,?_⟩
 conv => whnf
 refine ⟨fun h => h,?_⟩
 conv => whnf
 refine ⟨fun h0 h => by first | exact h | (rw [h]; rfl) | (rw [h0,h]; rfl),?_⟩
 conv => whnf
 refine ⟨fun h => h,?_⟩
 conv => whnf
 refine ⟨rfl,?_⟩
 conv => whnf
 refine ⟨fun h => h,?_⟩
 conv => whnf
 refine ⟨rfl,?_⟩
 conv => whnf
 refine ⟨fun h => h,?_⟩
 conv => whnf
 refine ⟨fun h => h,?_⟩
 conv => whnf
 refine ⟨fun h0 h => by first | exact h | (rw [h]; rfl) | (rw [h0,h]; rfl),?_⟩
 conv => whnf
 refine ⟨fun h => h,?_⟩
 conv => whnf
 refine ⟨rfl,?_⟩
 conv => whnf
 refine ⟨fun h => h,?_⟩
 conv => whnf
 refine ⟨rfl,?_⟩
 conv => whnf
 refine ⟨fun h => h,?_⟩
 conv => whnf
 refine ⟨fun h => h,?_⟩
 conv => whnf
 refine ⟨fun h0 h => by first | exact h | (rw [h]; rfl) | (rw [h0,h]; rfl),?_⟩
 conv => whnf
 refine ⟨fun h => h,?_⟩
 conv => whnf
 refine ⟨rfl,?_⟩
 conv => whnf
 refine ⟨fun h => h,?_⟩
 conv => whnf
 refine ⟨fun h => h,?_⟩
 conv => whnf
 refine ⟨rfl,?_⟩
 conv => whnf
 refine ⟨fun h => h,?_⟩
 conv => whnf
 refine ⟨fun h => h,?_⟩
 conv => whnf
 refine ⟨fun h => h,?_⟩
 conv => whnf
 refine ⟨fun h0 h => by first | exact h | (rw [h]; rfl) | (rw [h0,h]; rfl),?_⟩
 conv => whnf
 refine Tri.cond _ rfl (fun hc => ?_) (fun hc => ?_)
 ·exfalso
  simp at hc
 ·refine Tri.skip ?_
  conv => whnf
  refine Tri.seq ?_
  refine Tri.seq ?_
  refine Tri.region ti_ok ?_
  conv => whnf
  refine Tri.block ?_
  refine Tri.loop (α:={ i : Nat // i ≤ m.boot.length }) (fun x => [(2,.box 2 b1 0),(3,.box 3 b2 0),(5,.int .i64 x.1)]) (fun _ => [(2,.box b1 (encM m).cells),(3,.box b2 (encM m).cells)]) (fun x => m.boot.length - x.1) ⟨0,by omega⟩ ⟨.refl _,.refl _,.refl _,trivial⟩ ⟨rfl,rfl,trivial⟩ ?_
  rintro ⟨i,hi⟩
  dsimp only
  refine Tri.seq ?_
  refine Tri.seq ?_
  refine Tri.region ti_ok ?_
  conv => whnf
  refine ⟨rfl,?_⟩
  conv => whnf
  refine Tri.cond (decide ((i : Int) < (m.boot.map encB).length)) rfl (fun hc => ?_) (fun hc => ?_)
  ·refine Tri.skip ?_
   conv => whnf
   refine Tri.seq ?_
   have hia : i < m.boot.length:=by simpa using hc
   refine Tri.block ?_
   refine Tri.seq ?_
   refine Tri.draw ti_ok mixed (by kernel_rfl) ?_
   conv => whnf
   refine ⟨rfl,?_⟩
   conv => whnf
   refine ⟨fun _ => by simp; omega,?_⟩
   conv => whnf
   refine ⟨encB m.boot[i],fun _ => get_bes hia,?_⟩
   conv => whnf
   refine ⟨rfl,?_⟩
   conv => whnf
   refine ⟨fun _ => by simp; omega,?_⟩
   conv => whnf
   refine ⟨encB m.boot[i],fun _ => get_bes hia,?_⟩
   conv => whnf
   refine Tri.cond (!(m.boot[i] == m.boot[i])) (congrArg (fun b => D.bool (!b)) (beq_BE m.boot[i] m.boot[i])) (fun hc => ?_) (fun hc => ?_)
   ·exfalso
    simp at hc
   ·refine Tri.skip ?_
    conv => whnf
    refine Tri.region ti_ok ?_
    conv => whnf
    refine .inl ⟨fun _ => by simp [InR]; omega,?_⟩
    conv => whnf
    exact ⟨⟨i + 1,hia⟩,by show _ - (i + 1) < _ - i; omega,⟨.refl _,.refl _,.refl _,trivial⟩,rfl,rfl,trivial⟩
  ·refine Tri.exit ?_
   conv => whnf
   refine Tri.seq ?_
   refine Tri.region ti_ok ?_
   conv => whnf
   refine Tri.ret ?_
   conv => whnf
   exact .refl _
theorem split_at {s : List UInt8} {a b : Nat} (h1 : a ≤ b) (h2 : b ≤ s.length) (hn : ∀ j (h : j < s.length),a ≤ j → j < b → s[j] ≠ 47) (he : b = s.length ∨ ∃ h : b < s.length,s[b] = 47) :
  splitG 47 [] (s.drop a) = (s.take b).drop a::(if b + 1 ≤ s.length then splitG 47 [] (s.drop (b + 1)) else []):=by
 have hno : (47 : UInt8) ∉ (s.take b).drop a:=fun hm => by
  obtain ⟨j,hj,e⟩:=List.mem_iff_getElem.1 hm
  simp only [List.length_drop,List.length_take] at hj
  rw [List.getElem_drop,List.getElem_take] at e
  exact hn (a + j) (by omega) (by omega) (by omega) e
 rcases he with he | ⟨hb,he⟩
 ·subst he
  rw [if_neg (by omega)]
  rw [List.take_length] at hno ⊢
  rw [splitG_no _ [] hno,List.nil_append]
 ·rw [if_pos (by omega)]
  have e1 : s.drop a = (s.take b).drop a ++ 47::s.drop (b + 1):=by
   rw [← he,List.getElem_cons_drop,← List.drop_append_of_le_length (by simp; omega),List.take_append_drop]
  rw [e1,splitG_at _ [] _ hno,List.nil_append]
def findC (s : List UInt8) (a : Nat) : List (List UInt8):=if a ≤ s.length then splitG 47 [] (s.drop a) else []
theorem K37 (n : NV) (s : List UInt8) (hn : Fits n) (hs : s.length < 1000000000) : DFun Tryz.prog W0 37 [encTop n,.str s] (encTop (getR n s).1):=by
 refine DFun.intro ti_ok Tryz.func37 rfl (by decide +kernel) Tryz.ntmps37 rfl fun Γ => ?_
 refine Tri.seq ?_
 refine Tri.region ti_ok ?_
 conv => whnf
 intro b1
 conv => whnf
 intro b2
 conv => whnf
 refine Tri.seq ?_
 refine Tri.seq ?_
 refine Tri.region ti_ok ?_
 conv => whnf
 refine Tri.block ?_
 have hh0 : s ≠ [] → getN n (splitG 47 [] s) = getN n (findC s 0):=fun _ => by rw [findC,if_pos (Nat.zero_le _),List.drop_zero]
 refine Tri.loop (α:={ x : Nat × NV // x.1 ≤ s.length + 1 ∧ Fits x.2 ∧ (s = [] → x.2 = n) ∧ (s ≠ [] → getN n (splitG 47 [] s) = getN x.2 (findC s x.1)) }) (fun x => [(1,.str s),(2,.box 2 b1 0),(4,.box 4 b2 0),(5,.int .i64 x.1.1)]) (fun x => [(2,.box b1 (encTop x.1.2).cells),(4,.box b2 [.str [],.int .i64 0,.str [],.str [],.int .i64 0,.int .i64 0,.int .i64 0,.int .i64 0,.int .i64 0,.int .i64 0,.nils,.nils])]) (fun x => s.length + 1 - x.1.1) ⟨(0,n),by omega,hn,fun _ => rfl,hh0⟩ ⟨.refl _,.refl _,.refl _,.refl _,trivial⟩ ⟨rfl,rfl,trivial⟩ ?_
 rintro ⟨⟨i,m⟩,hi,hm,he,hg⟩
 dsimp only at hi hm he hg ⊢
 refine Tri.seq ?_
 refine Tri.seq ?_
 refine Tri.region ti_ok ?_
 conv => whnf
 refine ⟨fun h => h,?_⟩
 conv => whnf
 refine ⟨fun h => h,?_⟩
 conv => whnf
 refine ⟨fun h => h,?_⟩
 conv => whnf
 refine ⟨fun h0 h => by first | exact h | (rw [h]; rfl) | (rw [h0,h]; rfl),?_⟩
 conv => whnf
 refine Tri.cond _ rfl (fun hc => ?_) (fun hc => ?_)
 ·have hs0 : s ≠ []:=fun e => by subst e; simp at hc
  have hil : i ≤ s.length:=by
   cases h0 : (s == []) with
   | true => exact absurd (by simpa using h0) hs0
   | false => rw [h0] at hc; simpa using hc
  refine Tri.skip ?_
  conv => whnf
  refine Tri.block ?_
  refine Tri.seq ?_
  refine Tri.region ti_ok ?_
  conv => whnf
  refine Tri.seq ?_
  refine Tri.block ?_
  refine Tri.loop (α:={ j : Nat // i ≤ j ∧ j ≤ s.length ∧ ∀ k (h : k < s.length),i ≤ k → k < j → s[k] ≠ 47 }) (fun x => [(1,.str s),(2,.box 2 b1 0),(4,.box 4 b2 0),(5,.int .i64 i),(6,.int .i64 x.1)]) (fun _ => [(2,.box b1 (encTop m).cells),(4,.box b2 [.str [],.int .i64 0,.str [],.str [],.int .i64 0,.int .i64 0,.int .i64 0,.int .i64 0,.int .i64 0,.int .i64 0,.nils,.nils])]) (fun x => s.length - x.1) ⟨i,by omega,hil,fun k _ h1 h2 => by omega⟩ ⟨.refl _,.refl _,.refl _,.refl _,.refl _,trivial⟩ ⟨rfl,rfl,trivial⟩ ?_
  rintro ⟨j,hj1,hj2,hjn⟩
  dsimp only at hj1 hj2 hjn ⊢
  refine Tri.seq ?_
  refine Tri.seq ?_
  refine Tri.region ti_ok ?_
  conv => whnf
  refine ⟨fun h => h,?_⟩
  conv => whnf
  refine ⟨fun h => h,?_⟩
  conv => whnf
  refine ⟨s.getD j 0,fun h => ⟨by omega,by
   have hjl : j < s.length:=by simpa using h
   simp [hjl]⟩,?_⟩
  conv => whnf
  refine ⟨fun h => h,?_⟩
  conv => whnf
  refine ⟨fun h0 h => by first | exact h | (rw [h]; rfl) | (rw [h0,h]; rfl),?_⟩
  conv => whnf
  refine Tri.cond _ rfl (fun hc => ?_) (fun hc => ?_)
  ·have hjl : j < s.length:=by
    by_cases h : j < s.length
    ·exact h
    ·simp [h] at hc
   have hne : s[j] ≠ 47:=by
    simp [hjl] at hc
    intro e; rw [e] at hc; exact hc rfl
   refine Tri.skip ?_
   conv => whnf
   refine Tri.block ?_
   refine Tri.region ti_ok ?_
   conv => whnf
   refine .inl ⟨fun _ => by simp [InR]; omega,?_⟩
   conv => whnf
   exact ⟨⟨j + 1,by omega,hjl,fun k hk h1 h2 => (Nat.lt_succ_iff_lt_or_eq.1 h2).elim (hjn k hk h1) fun e => by subst e; exact hne⟩,by show _ - (j + 1) < _ - j; omega,⟨.refl _,.refl _,.refl _,.refl _,.refl _,trivial⟩,rfl,rfl,trivial⟩
  ·have hend : j = s.length ∨ ∃ h : j < s.length,s[j] = 47:=by
    by_cases h : j < s.length
    ·refine .inr ⟨h,?_⟩
     simp [h] at hc
     have h47 : s[j].toNat = 47:=by omega
     exact UInt8.toNat_inj.1 h47
    ·exact .inl (by omega)
   have hseg:=split_at hj1 hj2 hjn hend
   have hg2 : getN n (splitG 47 [] s) = getN m (((s.take j).drop i)::findC s (j + 1)):=by
    rw [hg hs0,findC,if_pos hil,hseg]; rfl
   generalize hq : (s.take j).drop i = q at hg2
   refine Tri.exit ?_
   conv => whnf
   refine Tri.seq ?_
   refine Tri.draw ti_ok mixed (by kernel_rfl) ?_
   conv => whnf
   refine ⟨rfl,?_⟩
   conv => whnf
   refine ⟨fun _ => by simp; omega,?_⟩
   conv => whnf
   refine ⟨[encTop m,.str q],_,fun _ => F45 m q hm,⟨.refl _,DLe.of_eq (congrArg D.str hq),trivial⟩,?_⟩
   conv => whnf
   refine Tri.seq ?_
   refine Tri.seq ?_
   refine Tri.region ti_ok ?_
   conv => whnf
   refine Tri.cond _ rfl (fun hc => ?_) (fun hc => ?_)
   ·refine Tri.seq ?_
    refine Tri.region ti_ok ?_
    conv => whnf
    refine ⟨rfl,?_⟩
    conv => whnf
    refine Tri.ret ?_
    conv => whnf
    have hR : getR n s = (zeroN,6):=by
     rcases kid_find m q with ⟨h1,h2⟩ | ⟨k,hk,h1,h2⟩
     ·rw [getR,if_neg hs0,hg2]; simp only [getN,h2]
     ·rw [h1] at hc; simp at hc; omega
    rw [hR]
    refine ⟨rfl,?_⟩
    conv => whnf
    exact zeroD
   ·obtain ⟨k,hk,h1,h2⟩ : ∃ (k : Nat) (h : k < m.kids.length),kidIx m q = k ∧ findK q m.kids = some m.kids[k]:=by
     rcases kid_find m q with ⟨h1,h2⟩ | h
     ·rw [h1] at hc; simp at hc
     ·exact h
    refine Tri.skip ?_
    conv => whnf
    refine Tri.region ti_ok ?_
    conv => whnf
    refine ⟨rfl,?_⟩
    conv => whnf
    rw [h1]
    refine ⟨fun _ => by simp; omega,?_⟩
    conv => whnf
    refine ⟨encTop m.kids[k],fun _ => get_kids hk,?_⟩
    conv => whnf
    refine .inl ⟨fun _ => by simp [InR]; omega,?_⟩
    conv => whnf
    refine ⟨rfl,?_⟩
    conv => whnf
    exact ⟨⟨(j + 1,m.kids[k]),by omega,fits_kid hm (List.getElem_mem hk),fun e => absurd e hs0,fun _ => by rw [hg2]; simp only [getN,h2]⟩,by show _ - (j + 1) < _ - i; omega,⟨.refl _,.refl _,.refl _,.refl _,trivial⟩,rfl,rfl,trivial⟩
 ·refine Tri.exit ?_
  conv => whnf
  refine Tri.seq ?_
  refine Tri.region ti_ok ?_
  conv => whnf
  refine ⟨rfl,?_⟩
  conv => whnf
  refine ⟨rfl,?_⟩
  conv => whnf
  refine Tri.ret ?_
  conv => whnf
  have hR : (getR n s).1 = m:=by
   by_cases hs0 : s = []
   ·rw [he hs0,getR,if_pos hs0]
   ·have hil : ¬ i ≤ s.length:=by
     intro h
     simp [hs0,h] at hc
    have:=hg hs0
    rw [findC,if_neg hil] at this
    rw [getR,if_neg hs0,this]; rfl
  rw [hR]
  refine ⟨rfl,?_⟩
  conv => whnf
  exact .refl _
end Go.Tame.V
/- Contracts: the items of a tree,by the reference. By program (mk.py). -/
namespace Go.Tame.V
open Go Go.Proofs
variable {W0 : World}
set_option maxRecDepth 10000
set_option linter.unusedVariables false
set_option linter.unusedSimpArgs false

theorem K36 (n : NV) (hn : Fits n) : DFun Tryz.prog W0 36 [encTop n] (.sl .none 1 (strs (if valid n then pathsS n [] 1 else []))):=by
 refine DFun.intro ti_ok Tryz.func36 rfl (by decide +kernel) Tryz.ntmps36 rfl fun Γ => ?_
 refine Tri.seq ?_
 refine Tri.region ti_ok ?_
 conv => whnf
 intro b1
 conv => whnf
 refine Tri.seq ?_
 refine Tri.seq ?_
 refine Tri.region ti_ok ?_
 conv => whnf
 refine ⟨rfl,?_⟩
 conv => whnf
 refine ⟨[encTop n],_,fun _ => F20 n hn,⟨.refl _,trivial⟩,?_⟩
 conv => whnf
 refine Tri.cond _ rfl (fun hc => ?_) (fun hc => ?_)
 ·refine Tri.seq ?_
  refine Tri.region ti_ok ?_
  conv => whnf
  refine Tri.ret ?_
  conv => whnf
  have hv : valid n = false:=by simpa using hc
  rw [hv]
  exact DLe.nil
 ·refine Tri.skip ?_
  have hv : valid n = true:=by simpa using hc
  rw [if_pos hv]
  conv => whnf
  refine Tri.seq ?_
  refine Tri.region ti_ok ?_
  conv => whnf
  refine ⟨rfl,?_⟩
  conv => whnf
  have hz:=hn
  unfold Fits at hz
  refine ⟨[encTop n,.str [],.int .i64 1],_,fun _ => F46 _ n (Nat.lt_succ_self _) (by omega) [] 1 (by omega) (by simp; omega) (by omega),⟨.refl _,.refl _,.refl _,trivial⟩,?_⟩
  conv => whnf
  refine Tri.ret ?_
  conv => whnf
  exact .refl _

theorem get_path {n : NV} (hv : valid n = true) {p : List UInt8} (hp : p ∈ pathsS n [] 1) : (getR n p).2 = 0:=by
 have ht:=valid_okT hv
 rw [pathsS_top] at hp
 obtain ⟨q,hq,rfl⟩:=List.mem_map.1 hp
 obtain ⟨x,hx⟩:=(getN_mem q n ht).1 hq
 rw [getR_join (path_ok q n ht hq),hx]
theorem isItem_ref {n : NV} {p : List UInt8} (h : (getR n p).2 = 0) : (bif !(p == []) then (bif (getR n p).1.kind != 0 then true else (((((getR n p).1.kids.map enc).length : Nat) : Int) == 0)) else false) = isItem n p:=by
 rw [← isItem_eq,h]; rfl
theorem K12 (n : NV) (hn : Fits n) : DFun Tryz.prog W0 12 [encTop n] (.sl .none 1 (strs (itemsV n))):=by
 refine DFun.intro ti_ok Tryz.func12 rfl (by decide +kernel) Tryz.ntmps12 rfl fun Γ => ?_
 refine Tri.seq ?_
 refine Tri.region ti_ok ?_
 conv => whnf
 intro b1
 conv => whnf
 refine Tri.seq ?_
 refine Tri.region ti_ok ?_
 conv => whnf
 refine Tri.seq ?_
 refine Tri.region ti_ok ?_
 conv => whnf
 refine ⟨rfl,?_⟩
 conv => whnf
 refine ⟨[encTop n],_,fun _ => K36 n hn,⟨.refl _,trivial⟩,?_⟩
 conv => whnf
 refine Tri.seq ?_
 refine Tri.seq ?_
 refine Tri.region ti_ok ?_
 conv => whnf
 generalize hL0 : (if valid n then pathsS n [] 1 else []) = L
 have hall : ∀ p ∈ L,(getR n p).2 = 0 ∧ p.length < 1000000000:=by
  intro p hp
  by_cases hv : valid n = true
  ·rw [if_pos hv] at hL0
   subst hL0
   exact ⟨get_path hv hp,by have:=pathsS_plen n [] 1 p hp; simp at this; unfold Fits at hn; omega⟩
  ·rw [if_neg hv] at hL0; subst hL0; cases hp
 have hLl : L.length < 10000000:=by
  rw [← hL0]; split
  ·rw [pathsS_len]; have:=cnt_sz n; unfold Fits at hn; omega
  ·simp
 refine Tri.block ?_
 refine Tri.ownNil 1000 1 9 ?_
 refine Tri.loopK (α:={ i : Nat // i ≤ L.length } × Value) (fun x => [(1,.box 1 b1 0),(3,.sl (.own 1000 x.2) 1 (strs (itemsF n (L.take x.1.1)))),(4,.sl .none 1 (strs L)),(5,.int .i64 x.1.1)]) (fun x => [(1,.box b1 (encTop n).cells),(1000,.own x.2 (strs (itemsF n (L.take x.1.1))).length 1 9)]) (fun x => L.length - x.1.1) (⟨0,by omega⟩,.slice none 0 0) [(1,1),(1000,1000)]
  ⟨⟨.refl _,DLe.nilOwn,.refl _,.refl _,trivial⟩,rfl,rfl,rfl,rfl,rfl,trivial⟩ ?_
 rintro ⟨⟨i,hi⟩,w⟩
 dsimp only at hi ⊢
 refine Tri.seq ?_
 refine Tri.seq ?_
 refine Tri.region ti_ok ?_
 conv => whnf
 refine Tri.cond (decide ((i : Int) < (strs L).length)) rfl (fun hc => ?_) (fun hc => ?_)
 ·have hia : i < L.length:=by simpa [strs] using hc
  obtain ⟨hg,hpl⟩:=hall _ (List.getElem_mem hia)
  refine Tri.skip ?_
  conv => whnf
  refine Tri.seq ?_
  refine Tri.block ?_
  refine Tri.seq ?_
  refine Tri.bitsG ti_ok mixed (α:=Nat) (fun y f => [(1,.box 1 b1 0),(3,.sl (.own 1000 w) 1 (strs (itemsF n (L.take i)))),(4,.sl .none 1 (strs L)),(5,.int .i64 (i : Int)),(15,bif f 0 then encTop n else .any),(16,bif f 1 then .sl .none 1 (strs L) else .any),(17,bif f 2 then .int .i64 (i : Int) else .any),(18,bif f 3 then .elm 1 (strs L) i 0 else .any),(19,bif f 4 then .str L[i] else .any),(20,bif f 5 then encTop (getR n L[i]).1 else .any),(6,bif f 6 then .box 6 y 0 else .any)])
   (fun y f => look ([(1,.box b1 (encTop n).cells),(1000,.own w (strs (itemsF n (L.take i))).length 1 9)] ++ (bif f 6 then [(6,.box y (bif f 7 then (encTop (getR n L[i]).1).cells else [.str [],.int .i64 0,.str [],.str [],.int .i64 0,.int .i64 0,.int .i64 0,.int .i64 0,.int .i64 0,.int .i64 0,.nils,.nils]))] else []))) (by decide +kernel) 0 ?_ ?_ ?_ ?_
  ·exact ⟨.refl _,.refl _,.refl _,.refl _,.any _,.any _,.any _,.any _,.any _,.any _,.any _,trivial⟩
  ·exact SubHF.of (hs:=[(1,.box b1 (encTop n).cells),(1000,.own w (strs (itemsF n (L.take i))).length 1 9)]) ⟨rfl,rfl,trivial⟩
  ·conv => whnf
   refine ⟨fun y f hI => ?_,?_⟩
   ·obtain ⟨f,rfl⟩:=off f 7 (hI.no 7 0 rfl rfl)
    conv => whnf
    refine ⟨trivial,.inl ?_⟩
    conv => whnf
    refine ⟨rfl,?_⟩
    conv => whnf
    exact ⟨y,⟨.refl _,.refl _,.refl _,.refl _,.refl _,.refl _,.refl _,.refl _,.refl _,.refl _,.refl _,trivial⟩,fun k o h => h⟩
   refine ⟨fun y f hI => ?_,?_⟩
   ·obtain ⟨f,rfl⟩:=off f 7 (hI.no 7 1 rfl rfl)
    conv => whnf
    refine ⟨trivial,.inl ?_⟩
    conv => whnf
    exact ⟨y,⟨.refl _,.refl _,.refl _,.refl _,.refl _,.refl _,.refl _,.refl _,.refl _,.refl _,.refl _,trivial⟩,fun k o h => h⟩
   refine ⟨fun y f hI => ?_,?_⟩
   ·obtain ⟨f,rfl⟩:=off f 7 (hI.no 7 2 rfl rfl)
    conv => whnf
    refine ⟨trivial,.inl ?_⟩
    conv => whnf
    exact ⟨y,⟨.refl _,.refl _,.refl _,.refl _,.refl _,.refl _,.refl _,.refl _,.refl _,.refl _,.refl _,trivial⟩,fun k o h => h⟩
   refine ⟨fun y f hI => ?_,?_⟩
   ·obtain ⟨f,rfl⟩:=off f 7 (hI.no 7 3 rfl rfl)
    conv => whnf
    refine ⟨trivial,.inl ?_⟩
    conv => whnf
    refine ⟨fun _ => by simp [strs]; omega,?_⟩
    conv => whnf
    exact ⟨y,⟨.refl _,.refl _,.refl _,.refl _,.refl _,.refl _,.refl _,.refl _,.refl _,.refl _,.refl _,trivial⟩,fun k o h => h⟩
   refine ⟨fun y f hI => ?_,?_⟩
   ·obtain ⟨f,rfl⟩:=off f 7 (hI.no 7 4 rfl rfl)
    conv => whnf
    refine ⟨trivial,.inl ?_⟩
    conv => whnf
    refine ⟨.str L[i],fun _ => by simp [strs,hia],?_⟩
    conv => whnf
    exact ⟨y,⟨.refl _,.refl _,.refl _,.refl _,.refl _,.refl _,.refl _,.refl _,.refl _,.refl _,.refl _,trivial⟩,fun k o h => h⟩
   refine ⟨fun y f hI => ?_,?_⟩
   ·obtain ⟨f,rfl⟩:=off f 7 (hI.no 7 5 rfl rfl)
    conv => whnf
    refine ⟨trivial,.inl ?_⟩
    conv => whnf
    refine ⟨[encTop n,.str L[i]],_,fun _ => K37 n L[i] hn hpl,⟨.refl _,.refl _,trivial⟩,?_⟩
    conv => whnf
    exact ⟨y,⟨.refl _,.refl _,.refl _,.refl _,.refl _,.refl _,.refl _,.refl _,.refl _,.refl _,.refl _,trivial⟩,fun k o h => h⟩
   refine ⟨fun y f hI => ?_,?_⟩
   ·obtain ⟨f,rfl⟩:=off f 7 (hI.no 7 6 rfl rfl)
    conv => whnf
    refine ⟨trivial,.inl ?_⟩
    conv => whnf
    intro nb
    conv => whnf
    exact ⟨nb,⟨.refl _,.refl _,.refl _,.refl _,.refl _,.refl _,.refl _,.refl _,.refl _,.refl _,.refl _,trivial⟩,SubHF.of (hs:=[(1,.box b1 (encTop n).cells),(1000,.own w (strs (itemsF n (L.take i))).length 1 9),(6,.box nb [.str [],.int .i64 0,.str [],.str [],.int .i64 0,.int .i64 0,.int .i64 0,.int .i64 0,.int .i64 0,.int .i64 0,.nils,.nils])]) ⟨rfl,rfl,rfl,trivial⟩⟩
   refine ⟨fun y f hI => ?_,?_⟩
   ·conv => whnf
    refine ⟨trivial,.inl ?_⟩
    conv => whnf
    refine ⟨rfl,?_⟩
    conv => whnf
    exact ⟨y,⟨.refl _,.refl _,.refl _,.refl _,.refl _,.refl _,.refl _,.refl _,.refl _,.refl _,.refl _,trivial⟩,SubHF.of (hs:=[(1,.box b1 (encTop n).cells),(1000,.own w (strs (itemsF n (L.take i))).length 1 9),(6,.box y (encTop (getR n L[i]).1).cells)]) ⟨rfl,rfl,rfl,trivial⟩⟩
   exact trivial
  ·intro y f hfl
   conv => whnf
   refine Tri.forgetG [(1,.box 1 b1 0),(3,.sl (.own 1000 w) 1 (strs (itemsF n (L.take i)))),(4,.sl .none 1 (strs L)),(5,.int .i64 (i : Int)),(6,.box 6 y 0)] (look [(1,.box b1 (encTop n).cells),(1000,.own w (strs (itemsF n (L.take i))).length 1 9),(6,.box y (encTop (getR n L[i]).1).cells)]) (.same ⟨.refl _,.refl _,.refl _,.refl _,?_,trivial⟩ (SubHF.of ⟨rfl,rfl,?_,trivial⟩)) ?_
   ·show DLe (bif f 6 then _ else _) _
    rw [hfl 6 (by decide +kernel)]; exact .refl _
   ·show look (([(1,_),(1000,_)] : List (Nat × HObj)) ++ (bif f 6 then _ else _)) 6 = _
    rw [hfl 6 (by decide +kernel),hfl 7 (by decide +kernel)]; rfl
   refine Tri.seq ?_
   refine Tri.region ti_ok ?_
   conv => whnf
   refine ⟨fun _ => by simp [strs]; omega,?_⟩
   conv => whnf
   refine ⟨.str L[i],fun _ => by simp [strs,hia],?_⟩
   conv => whnf
   refine ⟨fun h => h,?_⟩
   conv => whnf
   refine ⟨rfl,?_⟩
   conv => whnf
   refine ⟨fun h => h,?_⟩
   conv => whnf
   refine ⟨fun h => h,?_⟩
   conv => whnf
   refine ⟨fun h => h,?_⟩
   conv => whnf
   refine ⟨rfl,?_⟩
   conv => whnf
   refine ⟨fun h => h,?_⟩
   conv => whnf
   refine ⟨fun h => h,?_⟩
   conv => whnf
   refine ⟨fun h => h,?_⟩
   conv => whnf
   refine ⟨fun h0 h => by first | exact h | (rw [h]; rfl) | (rw [h0,h]; rfl),?_⟩
   conv => whnf
   refine ⟨fun h0 h => by first | exact h | (rw [h]; rfl) | (rw [h0,h]; rfl),?_⟩
   conv => whnf
   refine Tri.cond (isItem n L[i]) (congrArg D.bool (isItem_ref hg)) (fun hc => ?_) (fun hc => ?_)
   ·have hll : (itemsF n (L.take i)).length ≤ L.length:=by have:=List.length_filter_le (isItem n) (L.take i); rw [itemsF]; simp only [List.length_take] at this; omega
    have he : strs (itemsF n (L.take i)) ++ [D.str L[i]] = strs (itemsF n (L.take (i + 1))):=by rw [itemsF_next hia,if_pos hc]; simp [strs]
    refine Tri.region ti_ok ?_
    conv => whnf
    refine ⟨fun _ => by simp [strs]; omega,?_⟩
    conv => whnf
    refine ⟨.str L[i],fun _ => by simp [strs,hia],?_⟩
    conv => whnf
    refine ⟨trivial,?_⟩
    conv => whnf
    refine ⟨rfl,rfl,?_⟩
    conv => whnf
    refine ⟨by show (_ + 1) * 16 ≤ _; simp [strs]; omega,by show _ + 1 ≤ _; simp [strs]; omega,(fun h => by cases h),fun v => ?_⟩
    conv => whnf
    refine Tri.region ti_ok ?_
    conv => whnf
    refine .inl ⟨fun _ => by simp [InR]; omega,?_⟩
    conv => whnf
    exact ⟨(⟨i + 1,by omega⟩,v),[(1,1),(1000,43)],by show L.length - (i + 1) < L.length - i; omega,⟨.refl _,DLe.ownEq he,.refl _,.refl _,trivial⟩,rfl,rfl,rfl,rfl,ownH (by rw [← he,List.length_append]; rfl),trivial⟩
   ·refine Tri.skip ?_
    conv => whnf
    refine Tri.region ti_ok ?_
    conv => whnf
    refine .inl ⟨fun _ => by simp [InR]; omega,?_⟩
    conv => whnf
    have he : strs (itemsF n (L.take i)) = strs (itemsF n (L.take (i + 1))):=by rw [itemsF_next hia,if_neg (by rw [hc]; simp),List.append_nil]
    exact ⟨(⟨i + 1,by omega⟩,w),[(1,1),(1000,1000)],by show L.length - (i + 1) < L.length - i; omega,⟨.refl _,DLe.of_eq (congrArg (D.sl _ 1) he),.refl _,.refl _,trivial⟩,rfl,rfl,rfl,rfl,ownH (by rw [he]),trivial⟩
 ·refine Tri.exit ?_
  conv => whnf
  refine Tri.seq ?_
  refine Tri.region ti_ok ?_
  conv => whnf
  refine Tri.ret ?_
  conv => whnf
  have hil : i = L.length:=by simp [strs] at hc; omega
  have he : itemsF n (L.take i) = itemsV n:=by
   rw [hil,List.take_length,← hL0,itemsV]
   split <;> rfl
  rw [he]
  exact DLe.unown
end Go.Tame.V
/- Contracts: the part of a tree with the paths that are needed. By program (mkk9.py). -/
namespace Go.Tame.V
open Go Go.Proofs
variable {W0 : World}
set_option maxRecDepth 10000
set_option linter.unusedVariables false
set_option linter.unusedSimpArgs false

theorem partL_next (need : List UInt8 → Bool) (p : List UInt8) : ∀ (ks : List NV) (i : Nat) (h : i < ks.length),partL need p (ks.take (i + 1)) = partL need p (ks.take i) ++ (if need (p ++ ks[i].name) then [partV need (p ++ ks[i].name ++ [47]) ks[i]] else [])
 | k::r,0,_ => by
  simp only [List.take_succ_cons,List.take_zero,partL,List.getElem_cons_zero,List.nil_append]
 | k::r,i + 1,h => by
  have ih:=partL_next need p r i (by simpa using h)
  simp only [List.take_succ_cons,List.getElem_cons_succ]
  simp only [partL]
  split
  ·rw [ih]; rfl
  ·rw [ih]
theorem partL_len (need : List UInt8 → Bool) (p : List UInt8) : ∀ ks : List NV,(partL need p ks).length ≤ ks.length
 | [] => by simp [partL]
 | k::r => by
  have ih:=partL_len need p r
  simp only [partL]
  split <;> simp <;> omega
def encP (need : List UInt8 → Bool) (p : List UInt8) (ks : List NV) (i : Nat) : List D:=(partL need p (ks.take i)).map enc

theorem K30 : ∀ (bb : Nat) (ks : List (List UInt8)) (N : Nat) (n : NV) (p : List UInt8),sz n < N → p.length + sz n + n.name.length < 10000000 → DCall Tryz.prog W0 30 [encTop n,.str p,.raw (.map (some bb))] (look [(2000,.set bb ks)]) fun d H' => d = encTop (partV (fun s => decide (s ∈ ks)) p n) ∧ H' 2000 = some (.set bb ks):=by
 intro bb ks N
 refine Nat.rec (fun n p h => absurd h (Nat.not_lt_zero _)) (fun N ih n p hN hb => ?_) N
 refine DCall.intro ti_ok Tryz.func30 rfl (by decide +kernel) Tryz.ntmps30 rfl fun Γ => ?_
 refine Tri.seq ?_
 refine Tri.region ti_ok ?_
 conv => whnf
 intro b3
 conv => whnf
 intro b6
 conv => whnf
 refine Tri.seq ?_
 refine Tri.region ti_ok ?_
 conv => whnf
 refine ⟨rfl,?_⟩
 conv => whnf
 intro b7
 conv => whnf
 refine ⟨rfl,?_⟩
 conv => whnf
 refine Tri.seq ?_
 refine Tri.region ti_ok ?_
 conv => whnf
 refine ⟨rfl,?_⟩
 conv => whnf
 have hsz:=sz_eq n
 have hstr:=szS_len n.streams
 refine ⟨[.sl .none 2 (n.streams.map encS)],_,fun _ => F104 n.streams (by omega),⟨.refl _,trivial⟩,?_⟩
 conv => whnf
 refine ⟨rfl,?_⟩
 conv => whnf
 refine Tri.seq ?_
 refine Tri.region ti_ok ?_
 conv => whnf
 refine ⟨rfl,?_⟩
 conv => whnf
 refine Tri.seq ?_
 refine Tri.seq ?_
 refine Tri.region ti_ok ?_
 conv => whnf
 refine ⟨rfl,?_⟩
 conv => whnf
 refine Tri.block ?_
 refine Tri.ownNil 1000 12 25 ?_
 refine Tri.boxLe 7 (cs':=[.str n.name,.int .i64 n.kind,.str n.text,.str n.target,.int .i64 n.n1,.int .i64 n.n2,.int .i64 n.n3,.int .i64 n.n4,.int .i64 n.n5,.int .i64 n.n6,.sl (.own 1000 (.slice none 0 0)) 12 [],.sl .none 2 (n.streams.map encS)]) rfl ⟨.refl _,.refl _,.refl _,.refl _,.refl _,.refl _,.refl _,.refl _,.refl _,.refl _,DLe.nilOwn,.refl _,trivial⟩ ?_
 refine Tri.loopK (α:={ i : Nat // i ≤ n.kids.length } × Value) (fun x => [(1,.str p),(2,.raw (.map (some bb))),(3,.box 3 b3 0),(6,.box 6 b6 0),(7,.box 7 b7 0),(17,.sl .none 12 (n.kids.map enc)),(18,.int .i64 (n.kids.map enc).length),(19,.int .i64 x.1.1)])
  (fun x => [(3,.box b3 (encTop n).cells),(6,.box b6 [.str [],.int .i64 0,.str [],.str [],.int .i64 0,.int .i64 0,.int .i64 0,.int .i64 0,.int .i64 0,.int .i64 0,.nils,.nils]),(7,.box b7 [.str n.name,.int .i64 n.kind,.str n.text,.str n.target,.int .i64 n.n1,.int .i64 n.n2,.int .i64 n.n3,.int .i64 n.n4,.int .i64 n.n5,.int .i64 n.n6,.sl (.own 1000 x.2) 12 (encP (fun s => decide (s ∈ ks)) p n.kids x.1.1),.sl .none 2 (n.streams.map encS)]),(2000,.set bb ks),(1000,.own x.2 (encP (fun s => decide (s ∈ ks)) p n.kids x.1.1).length 12 25)]) (fun x => n.kids.length - x.1.1) (⟨0,by omega⟩,.slice none 0 0) [(3,3),(6,6),(7,7),(2000,2000),(1000,1000)]
  ⟨⟨.refl _,.refl _,.refl _,.refl _,.refl _,.refl _,.refl _,.refl _,trivial⟩,rfl,rfl,rfl,rfl,rfl,rfl,rfl,rfl,rfl,rfl,rfl,trivial⟩ ?_
 rintro ⟨⟨i,hi⟩,w⟩
 dsimp only at hi ⊢
 refine Tri.seq ?_
 refine Tri.region ti_ok ?_
 conv => whnf
 refine Tri.seq ?_
 refine Tri.cond (decide ((i : Int) < (n.kids.map enc).length)) rfl (fun hc => ?_) (fun hc => ?_)
 ·have hia : i < n.kids.length:=by simpa using hc
  have hks:=kid_sz hia
  have hnx:=partL_next (fun s => decide (s ∈ ks)) p n.kids i hia
  have hln:=partL_len (fun s => decide (s ∈ ks)) p (n.kids.take i)
  have hlt : (n.kids.take i).length = i:=by simp; omega
  have hkl : n.kids.length < 10000000:=by have:=szL_len n.kids; have:=sz_eq n; omega
  refine Tri.skip ?_
  conv => whnf
  refine Tri.seq ?_
  refine Tri.block ?_
  refine Tri.seq ?_
  refine Tri.region ti_ok ?_
  conv => whnf
  refine ⟨fun _ => by simp; omega,?_⟩
  conv => whnf
  refine ⟨encTop n.kids[i],fun _ => get_kids hia,?_⟩
  conv => whnf
  intro b9
  conv => whnf
  refine ⟨rfl,?_⟩
  conv => whnf
  refine Tri.seq ?_
  refine Tri.regionX ti_ok ?_
  conv => whnf
  refine .inl ?_
  conv => whnf
  refine ⟨rfl,?_⟩
  conv => whnf
  refine ⟨fun _ => by omega,?_⟩
  conv => whnf
  refine .inr (XOp.setLookup 2000 (kt:=9) (et:=4) rfl rfl (fun w => rfl) rfl rfl rfl ?_)
  conv => whnf
  conv => whnf

  refine Tri.cond _ rfl (fun hc2 => ?_) (fun hc2 => ?_)
  ·refine Tri.bitsG ti_ok mixed (α:=Value) (fun y f => [(1,.str p),(2,.raw (.map (some bb))),(3,.box 3 b3 0),(6,.box 6 b6 0),(7,.box 7 b7 0),(9,.box 9 b9 0),(17,.sl .none 12 (n.kids.map enc)),(18,.int .i64 (n.kids.map enc).length),(19,.int .i64 (i : Int)),(29,bif f 0 then .box 7 b7 10 else .any),(30,bif f 1 then .sl (.own 1000 w) 12 (encP (fun s => decide (s ∈ ks)) p n.kids i) else .any),(31,bif f 2 then encTop n.kids[i] else .any),(32,bif f 3 then .str p else .any),(33,bif f 4 then .box 9 b9 0 else .any),(34,bif f 5 then .str n.kids[i].name else .any),(35,bif f 6 then .str (p ++ n.kids[i].name) else .any),(36,bif f 7 then .str (p ++ n.kids[i].name ++ [47]) else .any),(37,bif f 8 then .raw (.map (some bb)) else .any),(38,bif f 9 then encTop (partV (fun s => decide (s ∈ ks)) (p ++ n.kids[i].name ++ [47]) n.kids[i]) else .any),(39,bif f 10 then .sl .full 12 [encTop (partV (fun s => decide (s ∈ ks)) (p ++ n.kids[i].name ++ [47]) n.kids[i])] else .any),(40,bif f 11 then .sl (.own 40 y) 12 ((encP (fun s => decide (s ∈ ks)) p n.kids i) ++ [encTop (partV (fun s => decide (s ∈ ks)) (p ++ n.kids[i].name ++ [47]) n.kids[i])]) else .any),(41,bif f 12 then .box 7 b7 10 else .any)])
    (fun y f => look ([(3,.box b3 (encTop n).cells),(6,.box b6 [.str [],.int .i64 0,.str [],.str [],.int .i64 0,.int .i64 0,.int .i64 0,.int .i64 0,.int .i64 0,.int .i64 0,.nils,.nils]),(7,.box b7 (bif f 13 then [.str n.name,.int .i64 n.kind,.str n.text,.str n.target,.int .i64 n.n1,.int .i64 n.n2,.int .i64 n.n3,.int .i64 n.n4,.int .i64 n.n5,.int .i64 n.n6,.sl (.own 40 y) 12 ((encP (fun s => decide (s ∈ ks)) p n.kids i) ++ [encTop (partV (fun s => decide (s ∈ ks)) (p ++ n.kids[i].name ++ [47]) n.kids[i])]),.sl .none 2 (n.streams.map encS)] else [.str n.name,.int .i64 n.kind,.str n.text,.str n.target,.int .i64 n.n1,.int .i64 n.n2,.int .i64 n.n3,.int .i64 n.n4,.int .i64 n.n5,.int .i64 n.n6,.sl (.own 1000 w) 12 (encP (fun s => decide (s ∈ ks)) p n.kids i),.sl .none 2 (n.streams.map encS)])),(9,.box b9 (encTop n.kids[i]).cells),(2000,.set bb ks)] ++ (bif f 11 then [(40,.own y ((encP (fun s => decide (s ∈ ks)) p n.kids i).length + 1) 12 25)] else [(1000,.own w (encP (fun s => decide (s ∈ ks)) p n.kids i).length 12 25)]))) (by decide +kernel) w ?_ ?_ ?_ ?_
   ·exact ⟨.refl _,.refl _,.refl _,.refl _,.refl _,.refl _,.refl _,.refl _,.refl _,.any _,.any _,.any _,.any _,.any _,.any _,.any _,.any _,.any _,.any _,.any _,.any _,.any _,trivial⟩
   ·exact SubHF.of (hs:=[(3,.box b3 (encTop n).cells),(6,.box b6 [.str [],.int .i64 0,.str [],.str [],.int .i64 0,.int .i64 0,.int .i64 0,.int .i64 0,.int .i64 0,.int .i64 0,.nils,.nils]),(7,.box b7 [.str n.name,.int .i64 n.kind,.str n.text,.str n.target,.int .i64 n.n1,.int .i64 n.n2,.int .i64 n.n3,.int .i64 n.n4,.int .i64 n.n5,.int .i64 n.n6,.sl (.own 1000 w) 12 (encP (fun s => decide (s ∈ ks)) p n.kids i),.sl .none 2 (n.streams.map encS)]),(9,.box b9 (encTop n.kids[i]).cells),(2000,.set bb ks),(1000,.own w (encP (fun s => decide (s ∈ ks)) p n.kids i).length 12 25)]) ⟨rfl,rfl,rfl,rfl,rfl,rfl,trivial⟩
   ·conv => whnf
    refine ⟨fun y f hI => ?_,?_⟩
    ·obtain ⟨f,rfl⟩:=off f 11 (hI.no 11 1 rfl (hI.no 1 0 rfl rfl))
     obtain ⟨f,rfl⟩:=off f 13 (hI.no 13 0 rfl rfl)
     conv => whnf
     refine ⟨trivial,.inl ?_⟩
     conv => whnf
     exact ⟨y,⟨.refl _,.refl _,.refl _,.refl _,.refl _,.refl _,.refl _,.refl _,.refl _,.refl _,.refl _,.refl _,.refl _,.refl _,.refl _,.refl _,.refl _,.refl _,.refl _,.refl _,.refl _,.refl _,trivial⟩,fun k o h => h⟩
    refine ⟨fun y f hI => ?_,?_⟩
    ·obtain ⟨f,rfl⟩:=off f 11 (hI.no 11 1 rfl rfl)
     obtain ⟨f,rfl⟩:=off f 13 (hI.no 13 1 rfl rfl)
     conv => whnf
     refine ⟨trivial,.inl ?_⟩
     conv => whnf
     refine ⟨rfl,?_⟩
     conv => whnf
     exact ⟨y,⟨.refl _,.refl _,.refl _,.refl _,.refl _,.refl _,.refl _,.refl _,.refl _,.refl _,.refl _,.refl _,.refl _,.refl _,.refl _,.refl _,.refl _,.refl _,.refl _,.refl _,.refl _,.refl _,trivial⟩,fun k o h => h⟩
    refine ⟨fun y f hI => ?_,?_⟩
    ·obtain ⟨f,rfl⟩:=off f 11 (hI.no 11 9 rfl (hI.no 9 2 rfl rfl))
     obtain ⟨f,rfl⟩:=off f 13 (hI.no 13 2 rfl rfl)
     conv => whnf
     refine ⟨trivial,.inl ?_⟩
     conv => whnf
     refine ⟨rfl,?_⟩
     conv => whnf
     exact ⟨y,⟨.refl _,.refl _,.refl _,.refl _,.refl _,.refl _,.refl _,.refl _,.refl _,.refl _,.refl _,.refl _,.refl _,.refl _,.refl _,.refl _,.refl _,.refl _,.refl _,.refl _,.refl _,.refl _,trivial⟩,fun k o h => h⟩
    refine ⟨fun y f hI => ?_,?_⟩
    ·obtain ⟨f,rfl⟩:=off f 11 (hI.no 11 9 rfl (hI.no 9 7 rfl (hI.no 7 6 rfl (hI.no 6 3 rfl rfl))))
     obtain ⟨f,rfl⟩:=off f 13 (hI.no 13 3 rfl rfl)
     conv => whnf
     refine ⟨trivial,.inl ?_⟩
     conv => whnf
     exact ⟨y,⟨.refl _,.refl _,.refl _,.refl _,.refl _,.refl _,.refl _,.refl _,.refl _,.refl _,.refl _,.refl _,.refl _,.refl _,.refl _,.refl _,.refl _,.refl _,.refl _,.refl _,.refl _,.refl _,trivial⟩,fun k o h => h⟩
    refine ⟨fun y f hI => ?_,?_⟩
    ·obtain ⟨f,rfl⟩:=off f 11 (hI.no 11 9 rfl (hI.no 9 7 rfl (hI.no 7 6 rfl (hI.no 6 5 rfl (hI.no 5 4 rfl rfl)))))
     obtain ⟨f,rfl⟩:=off f 13 (hI.no 13 4 rfl rfl)
     conv => whnf
     refine ⟨trivial,.inl ?_⟩
     conv => whnf
     exact ⟨y,⟨.refl _,.refl _,.refl _,.refl _,.refl _,.refl _,.refl _,.refl _,.refl _,.refl _,.refl _,.refl _,.refl _,.refl _,.refl _,.refl _,.refl _,.refl _,.refl _,.refl _,.refl _,.refl _,trivial⟩,fun k o h => h⟩
    refine ⟨fun y f hI => ?_,?_⟩
    ·obtain ⟨f,rfl⟩:=off f 11 (hI.no 11 9 rfl (hI.no 9 7 rfl (hI.no 7 6 rfl (hI.no 6 5 rfl rfl))))
     obtain ⟨f,rfl⟩:=off f 13 (hI.no 13 5 rfl rfl)
     conv => whnf
     refine ⟨trivial,.inl ?_⟩
     conv => whnf
     refine ⟨rfl,?_⟩
     conv => whnf
     exact ⟨y,⟨.refl _,.refl _,.refl _,.refl _,.refl _,.refl _,.refl _,.refl _,.refl _,.refl _,.refl _,.refl _,.refl _,.refl _,.refl _,.refl _,.refl _,.refl _,.refl _,.refl _,.refl _,.refl _,trivial⟩,fun k o h => h⟩
    refine ⟨fun y f hI => ?_,?_⟩
    ·obtain ⟨f,rfl⟩:=off f 11 (hI.no 11 9 rfl (hI.no 9 7 rfl (hI.no 7 6 rfl rfl)))
     obtain ⟨f,rfl⟩:=off f 13 (hI.no 13 6 rfl rfl)
     conv => whnf
     refine ⟨trivial,.inl ?_⟩
     conv => whnf
     refine ⟨fun _ => by omega,?_⟩
     conv => whnf
     exact ⟨y,⟨.refl _,.refl _,.refl _,.refl _,.refl _,.refl _,.refl _,.refl _,.refl _,.refl _,.refl _,.refl _,.refl _,.refl _,.refl _,.refl _,.refl _,.refl _,.refl _,.refl _,.refl _,.refl _,trivial⟩,fun k o h => h⟩
    refine ⟨fun y f hI => ?_,?_⟩
    ·obtain ⟨f,rfl⟩:=off f 11 (hI.no 11 9 rfl (hI.no 9 7 rfl rfl))
     obtain ⟨f,rfl⟩:=off f 13 (hI.no 13 7 rfl rfl)
     conv => whnf
     refine ⟨trivial,.inl ?_⟩
     conv => whnf
     refine ⟨fun _ => by simp; omega,?_⟩
     conv => whnf
     exact ⟨y,⟨.refl _,.refl _,.refl _,.refl _,.refl _,.refl _,.refl _,.refl _,.refl _,.refl _,.refl _,.refl _,.refl _,.refl _,.refl _,.refl _,.refl _,.refl _,.refl _,.refl _,.refl _,.refl _,trivial⟩,fun k o h => h⟩
    refine ⟨fun y f hI => ?_,?_⟩
    ·obtain ⟨f,rfl⟩:=off f 11 (hI.no 11 9 rfl (hI.no 9 8 rfl rfl))
     obtain ⟨f,rfl⟩:=off f 13 (hI.no 13 8 rfl rfl)
     conv => whnf
     refine ⟨trivial,.inl ?_⟩
     conv => whnf
     exact ⟨y,⟨.refl _,.refl _,.refl _,.refl _,.refl _,.refl _,.refl _,.refl _,.refl _,.refl _,.refl _,.refl _,.refl _,.refl _,.refl _,.refl _,.refl _,.refl _,.refl _,.refl _,.refl _,.refl _,trivial⟩,fun k o h => h⟩
    refine ⟨fun y f hI => ?_,?_⟩
    ·obtain ⟨f,rfl⟩:=off f 11 (hI.no 11 9 rfl rfl)
     obtain ⟨f,rfl⟩:=off f 13 (hI.no 13 9 rfl rfl)
     conv => whnf
     refine ⟨trivial,.inr ?_⟩
     refine XOp.call rfl [encTop n.kids[i],.str (p ++ n.kids[i].name ++ [47]),.raw (.map (some bb))] [(2000,2000)] (DCall.heapK rfl (ih n.kids[i] (p ++ n.kids[i].name ++ [47]) (by omega) (by simp; omega))) rfl ⟨.refl _,.refl _,.refl _,trivial⟩ ?_
     rintro d H' ⟨rfl,e⟩
     refine ⟨_,.refl _,?_⟩
     exact ⟨y,⟨.refl _,.refl _,.refl _,.refl _,.refl _,.refl _,.refl _,.refl _,.refl _,.refl _,.refl _,.refl _,.refl _,.refl _,.refl _,.refl _,.refl _,.refl _,.refl _,.refl _,.refl _,.refl _,trivial⟩,SubHF.of (hs:=[(3,.box b3 (encTop n).cells),(6,.box b6 [.str [],.int .i64 0,.str [],.str [],.int .i64 0,.int .i64 0,.int .i64 0,.int .i64 0,.int .i64 0,.int .i64 0,.nils,.nils]),(7,.box b7 [.str n.name,.int .i64 n.kind,.str n.text,.str n.target,.int .i64 n.n1,.int .i64 n.n2,.int .i64 n.n3,.int .i64 n.n4,.int .i64 n.n5,.int .i64 n.n6,.sl (.own 1000 w) 12 (encP (fun s => decide (s ∈ ks)) p n.kids i),.sl .none 2 (n.streams.map encS)]),(9,.box b9 (encTop n.kids[i]).cells),(2000,.set bb ks),(1000,.own w (encP (fun s => decide (s ∈ ks)) p n.kids i).length 12 25)]) ⟨rfl,rfl,rfl,rfl,e,rfl,trivial⟩⟩
    refine ⟨fun y f hI => ?_,?_⟩
    ·obtain ⟨f,rfl⟩:=off f 11 (hI.no 11 10 rfl rfl)
     obtain ⟨f,rfl⟩:=off f 13 (hI.no 13 10 rfl rfl)
     conv => whnf
     refine ⟨trivial,.inl ?_⟩
     conv => whnf
     refine ⟨trivial,?_⟩
     conv => whnf
     exact ⟨y,⟨.refl _,.refl _,.refl _,.refl _,.refl _,.refl _,.refl _,.refl _,.refl _,.refl _,.refl _,.refl _,.refl _,.refl _,.refl _,.refl _,.refl _,.refl _,.refl _,.refl _,.refl _,.refl _,trivial⟩,fun k o h => h⟩
    refine ⟨fun y f hI => ?_,?_⟩
    ·obtain ⟨f,rfl⟩:=off f 13 (hI.no 13 11 rfl rfl)
     conv => whnf
     refine ⟨trivial,.inl ?_⟩
     conv => whnf
     refine ⟨rfl,rfl,?_⟩
     conv => whnf
     refine ⟨by show (_ + 1) * 152 ≤ _; simp [encP]; omega,by show _ + 1 ≤ _; simp [encP]; omega,(fun h => by cases h),fun v => ?_⟩
     conv => whnf
     exact ⟨v,⟨.refl _,.refl _,.refl _,.refl _,.refl _,.refl _,.refl _,.refl _,.refl _,.refl _,.refl _,.refl _,.refl _,.refl _,.refl _,.refl _,.refl _,.refl _,.refl _,.refl _,.refl _,.refl _,trivial⟩,SubHF.of (hs:=[(3,.box b3 (encTop n).cells),(6,.box b6 [.str [],.int .i64 0,.str [],.str [],.int .i64 0,.int .i64 0,.int .i64 0,.int .i64 0,.int .i64 0,.int .i64 0,.nils,.nils]),(7,.box b7 [.str n.name,.int .i64 n.kind,.str n.text,.str n.target,.int .i64 n.n1,.int .i64 n.n2,.int .i64 n.n3,.int .i64 n.n4,.int .i64 n.n5,.int .i64 n.n6,.sl (.own 1000 w) 12 (encP (fun s => decide (s ∈ ks)) p n.kids i),.sl .none 2 (n.streams.map encS)]),(9,.box b9 (encTop n.kids[i]).cells),(2000,.set bb ks),(40,.own v ((encP (fun s => decide (s ∈ ks)) p n.kids i).length + 1) 12 25)]) ⟨rfl,rfl,rfl,rfl,rfl,rfl,trivial⟩⟩
    refine ⟨fun y f hI => ?_,?_⟩
    ·obtain ⟨f,rfl⟩:=off f 13 (hI.no 13 12 rfl rfl)
     conv => whnf
     refine ⟨trivial,.inl ?_⟩
     conv => whnf
     exact ⟨y,⟨.refl _,.refl _,.refl _,.refl _,.refl _,.refl _,.refl _,.refl _,.refl _,.refl _,.refl _,.refl _,.refl _,.refl _,.refl _,.refl _,.refl _,.refl _,.refl _,.refl _,.refl _,.refl _,trivial⟩,fun k o h => h⟩
    refine ⟨fun y f hI => ?_,?_⟩
    ·conv => whnf
     refine ⟨trivial,.inl ?_⟩
     conv => whnf
     refine ⟨rfl,?_⟩
     conv => whnf
     exact ⟨y,⟨.refl _,.refl _,.refl _,.refl _,.refl _,.refl _,.refl _,.refl _,.refl _,.refl _,.refl _,.refl _,.refl _,.refl _,.refl _,.refl _,.refl _,.refl _,.refl _,.refl _,.refl _,.refl _,trivial⟩,SubHF.of (hs:=[(3,.box b3 (encTop n).cells),(6,.box b6 [.str [],.int .i64 0,.str [],.str [],.int .i64 0,.int .i64 0,.int .i64 0,.int .i64 0,.int .i64 0,.int .i64 0,.nils,.nils]),(7,.box b7 [.str n.name,.int .i64 n.kind,.str n.text,.str n.target,.int .i64 n.n1,.int .i64 n.n2,.int .i64 n.n3,.int .i64 n.n4,.int .i64 n.n5,.int .i64 n.n6,.sl (.own 40 y) 12 ((encP (fun s => decide (s ∈ ks)) p n.kids i) ++ [encTop (partV (fun s => decide (s ∈ ks)) (p ++ n.kids[i].name ++ [47]) n.kids[i])]),.sl .none 2 (n.streams.map encS)]),(9,.box b9 (encTop n.kids[i]).cells),(2000,.set bb ks),(40,.own y ((encP (fun s => decide (s ∈ ks)) p n.kids i).length + 1) 12 25)]) ⟨rfl,rfl,rfl,rfl,rfl,rfl,trivial⟩⟩
    exact trivial
   ·intro y f hfl
    conv => whnf
    refine Tri.forgetG [(1,.str p),(2,.raw (.map (some bb))),(3,.box 3 b3 0),(6,.box 6 b6 0),(7,.box 7 b7 0),(17,.sl .none 12 (n.kids.map enc)),(18,.int .i64 (n.kids.map enc).length),(19,.int .i64 (i : Int))] (look [(3,.box b3 (encTop n).cells),(6,.box b6 [.str [],.int .i64 0,.str [],.str [],.int .i64 0,.int .i64 0,.int .i64 0,.int .i64 0,.int .i64 0,.int .i64 0,.nils,.nils]),(7,.box b7 [.str n.name,.int .i64 n.kind,.str n.text,.str n.target,.int .i64 n.n1,.int .i64 n.n2,.int .i64 n.n3,.int .i64 n.n4,.int .i64 n.n5,.int .i64 n.n6,.sl (.own 40 y) 12 ((encP (fun s => decide (s ∈ ks)) p n.kids i) ++ [encTop (partV (fun s => decide (s ∈ ks)) (p ++ n.kids[i].name ++ [47]) n.kids[i])]),.sl .none 2 (n.streams.map encS)]),(2000,.set bb ks),(40,.own y ((encP (fun s => decide (s ∈ ks)) p n.kids i).length + 1) 12 25)]) (.same ⟨.refl _,.refl _,.refl _,.refl _,.refl _,.refl _,.refl _,.refl _,trivial⟩ (SubHF.of ⟨rfl,rfl,?_,rfl,?_,trivial⟩)) ?_
    ·show some (HObj.box b7 (bif f 13 then _ else _)) = _
     rw [hfl 13 (by decide +kernel)]; rfl
    ·show look (([(3,_),(6,_),(7,_),(9,_),(2000,_)] : List (Nat × HObj)) ++ (bif f 11 then _ else _)) 40 = _
     rw [hfl 11 (by decide +kernel)]; rfl
    have hnx2 : encP (fun s => decide (s ∈ ks)) p n.kids (i + 1) = ((encP (fun s => decide (s ∈ ks)) p n.kids i) ++ [encTop (partV (fun s => decide (s ∈ ks)) (p ++ n.kids[i].name ++ [47]) n.kids[i])]):=by
     rw [encP,encP,hnx,if_pos hc2,List.map_append]
     simp only [List.map_cons,List.map_nil,enc_eq]
    refine Tri.boxLe 7 (cs':=[.str n.name,.int .i64 n.kind,.str n.text,.str n.target,.int .i64 n.n1,.int .i64 n.n2,.int .i64 n.n3,.int .i64 n.n4,.int .i64 n.n5,.int .i64 n.n6,.sl (.own 1000 y) 12 (encP (fun s => decide (s ∈ ks)) p n.kids (i + 1)),.sl .none 2 (n.streams.map encS)]) rfl ⟨.refl _,.refl _,.refl _,.refl _,.refl _,.refl _,.refl _,.refl _,.refl _,.refl _,DLe.ownEq hnx2.symm,.refl _,trivial⟩ ?_
    refine Tri.region ti_ok ?_
    conv => whnf
    refine .inl ⟨fun _ => by simp [InR]; omega,?_⟩
    conv => whnf
    exact ⟨(⟨i + 1,hia⟩,y),[(3,3),(6,6),(7,7),(2000,2000),(1000,40)],by show _ - (i + 1) < _ - i; omega,⟨.refl _,.refl _,.refl _,.refl _,.refl _,.refl _,.refl _,.refl _,trivial⟩,rfl,rfl,rfl,rfl,rfl,rfl,rfl,rfl,rfl,rfl,ownH (show _ = (encP (fun s => decide (s ∈ ks)) p n.kids (i + 1)).length by rw [hnx2]; simp),trivial⟩
  ·refine Tri.skip ?_
   conv => whnf
   refine Tri.region ti_ok ?_
   conv => whnf
   refine .inl ⟨fun _ => by simp [InR]; omega,?_⟩
   conv => whnf
   have hnx2 : encP (fun s => decide (s ∈ ks)) p n.kids (i + 1) = encP (fun s => decide (s ∈ ks)) p n.kids i:=by
    rw [encP,encP,hnx,if_neg (by rw [hc2]; simp),List.append_nil]
   exact ⟨(⟨i + 1,hia⟩,w),[(3,3),(6,6),(7,7),(2000,2000),(1000,1000)],by show _ - (i + 1) < _ - i; omega,⟨.refl _,.refl _,.refl _,.refl _,.refl _,.refl _,.refl _,.refl _,trivial⟩,rfl,rfl,rfl,rfl,rfl,rfl,congrArg (fun z : List D => some (HObj.box b7 [.str n.name,.int .i64 n.kind,.str n.text,.str n.target,.int .i64 n.n1,.int .i64 n.n2,.int .i64 n.n3,.int .i64 n.n4,.int .i64 n.n5,.int .i64 n.n6,.sl (.own 1000 w) 12 z,.sl .none 2 (n.streams.map encS)])) hnx2.symm,rfl,rfl,rfl,ownH (congrArg List.length hnx2.symm),trivial⟩
 ·refine Tri.exit ?_
  conv => whnf
  refine Tri.seq ?_
  refine Tri.region ti_ok ?_
  conv => whnf
  refine ⟨rfl,?_⟩
  conv => whnf
  refine ⟨rfl,?_⟩
  conv => whnf
  refine Tri.ret ?_
  conv => whnf
  have hin : i = n.kids.length:=by simp at hc; omega
  have he : encP (fun s => decide (s ∈ ks)) p n.kids i = (partL (fun s => decide (s ∈ ks)) p n.kids).map enc:=by
   rw [hin,encP,List.take_length]
  refine ⟨_,⟨rfl,?_⟩,rfl,rfl⟩
  conv => whnf
  rw [partV_eq]
  refine DLe.agg (a:=[.str n.name,.int .i64 n.kind,.str n.text,.str n.target,.int .i64 n.n1,.int .i64 n.n2,.int .i64 n.n3,.int .i64 n.n4,.int .i64 n.n5,.int .i64 n.n6,.sl (.own 1000 w) 12 (encP (fun s => decide (s ∈ ks)) p n.kids i),.sl .none 2 (n.streams.map encS)]) (a':=[.str n.name,.int .i64 n.kind,.str n.text,.str n.target,.int .i64 n.n1,.int .i64 n.n2,.int .i64 n.n3,.int .i64 n.n4,.int .i64 n.n5,.int .i64 n.n6,.sl .none 12 ((partL (fun s => decide (s ∈ ks)) p n.kids).map enc),.sl .none 2 (n.streams.map encS)]) ?_
  exact ⟨.refl _,.refl _,.refl _,.refl _,.refl _,.refl _,.refl _,.refl _,.refl _,.refl _,DLe.trans (DLe.of_eq (congrArg (D.sl (.own 1000 w) 12) he)) DLe.unown,.refl _,trivial⟩
end Go.Tame.V
/- Contracts: the part of a tree by the reference. By program (mkk10.py). -/
namespace Go.Tame.V
open Go Go.Proofs
variable {W0 : World}
set_option maxRecDepth 10000
set_option linter.unusedVariables false
set_option linter.unusedSimpArgs false

theorem DLe.skipped {d : D} : DLe .undef (.cnd false d):=⟨fun w C v h => by rw [h.undef_inv]; exact .cndF d⟩
theorem refL_next (items : List (List UInt8)) (p : List UInt8) : ∀ (ks : List NV) (i : Nat) (h : i < ks.length),refL items p (ks.take (i + 1)) = refL items p (ks.take i) ++ (if refB items (joinQ p ks[i].name) ks[i] then [refV items (joinQ p ks[i].name) ks[i]] else [])
 | k::r,0,_ => by
  simp only [List.take_succ_cons,List.take_zero,refL_cons,List.getElem_cons_zero]
  simp only [refL,List.nil_append]
 | k::r,i + 1,h => by
  have ih:=refL_next items p r i (by simpa using h)
  simp only [List.take_succ_cons,List.getElem_cons_succ,refL_cons]
  split
  ·rw [ih]; rfl
  ·rw [ih]
theorem refL_len (items : List (List UInt8)) (p : List UInt8) : ∀ ks : List NV,(refL items p ks).length ≤ ks.length
 | [] => by simp [refL]
 | k::r => by
  have ih:=refL_len items p r
  rw [refL_cons]
  split <;> simp <;> omega
def encR (items : List (List UInt8)) (p : List UInt8) (ks : List NV) (i : Nat) : List D:=(refL items p (ks.take i)).map enc
theorem refB_eq (items : List (List UInt8)) (p : List UInt8) (n : NV) : refB items p n = (decide (p = []) || (decide (0 < (refL items p n.kids).length) || hasP items p)):=by
 unfold refB hasP
 rw [refV_eq]
 have h1 : (items.any fun x => x == p) = items.any fun x => p == x:=by congr 1; funext x; rw [Bool.eq_iff_iff,beq_iff_eq,beq_iff_eq]; exact eq_comm
 rw [h1]
 congr 2
 cases refL items p n.kids <;> simp

abbrev zN : List D:=[.str [],.int .i64 0,.str [],.str [],.int .i64 0,.int .i64 0,.int .i64 0,.int .i64 0,.int .i64 0,.int .i64 0,.nils,.nils]
abbrev nW (n : NV) (items : List (List UInt8)) (p : List UInt8) (i : Nat) (w : Value) : List D:=[.str n.name,.int .i64 n.kind,.str n.text,.str n.target,.int .i64 n.n1,.int .i64 n.n2,.int .i64 n.n3,.int .i64 n.n4,.int .i64 n.n5,.int .i64 n.n6,.sl (.own 1000 w) 12 (encR items p n.kids i),.sl .none 2 (n.streams.map encS)]
theorem K33 : ∀ (items : List (List UInt8)) (hil : items.length < 1000000000) (N : Nat) (n : NV) (p : List UInt8),sz n < N → p.length + sz n + n.name.length < 10000000 → DFun Tryz.prog W0 33 [encTop n,.str p,.sl .none 1 (strs items)] (.tup [encTop (refV items p n),.bool (refB items p n)]):=by
 intro items hil N
 refine Nat.rec (fun n p h => absurd h (Nat.not_lt_zero _)) (fun N ih n p hN hb => ?_) N
 refine DFun.intro ti_ok Tryz.func33 rfl (by decide +kernel) Tryz.ntmps33 rfl fun Γ => ?_
 refine Tri.seq ?_
 refine Tri.region ti_ok ?_
 conv => whnf
 intro b3
 conv => whnf
 intro b6
 conv => whnf
 refine Tri.seq ?_
 refine Tri.region ti_ok ?_
 conv => whnf
 refine ⟨rfl,?_⟩
 conv => whnf
 intro b8
 conv => whnf
 refine ⟨rfl,?_⟩
 conv => whnf
 refine Tri.seq ?_
 refine Tri.region ti_ok ?_
 conv => whnf
 refine ⟨rfl,?_⟩
 conv => whnf
 refine Tri.seq ?_
 refine Tri.seq ?_
 refine Tri.region ti_ok ?_
 conv => whnf
 refine Tri.block ?_
 refine Tri.ownNil 1000 12 25 ?_
 refine Tri.boxLe 8 (cs':=[.str n.name,.int .i64 n.kind,.str n.text,.str n.target,.int .i64 n.n1,.int .i64 n.n2,.int .i64 n.n3,.int .i64 n.n4,.int .i64 n.n5,.int .i64 n.n6,.sl (.own 1000 (.slice none 0 0)) 12 [],.sl .none 2 (n.streams.map encS)]) rfl ⟨.refl _,.refl _,.refl _,.refl _,.refl _,.refl _,.refl _,.refl _,.refl _,.refl _,DLe.nilOwn,.refl _,trivial⟩ ?_
 refine Tri.loopK (α:={ i : Nat // i ≤ n.kids.length } × Value) (fun x => [(1,.str p),(2,.sl .none 1 (strs items)),(3,.box 3 b3 0),(6,.box 6 b6 0),(7,.bool false),(8,.box 8 b8 0),(9,.int .i64 x.1.1)])
  (fun x => [(3,.box b3 (encTop n).cells),(6,.box b6 zN),(8,.box b8 [.str n.name,.int .i64 n.kind,.str n.text,.str n.target,.int .i64 n.n1,.int .i64 n.n2,.int .i64 n.n3,.int .i64 n.n4,.int .i64 n.n5,.int .i64 n.n6,.sl (.own 1000 x.2) 12 (encR items p n.kids x.1.1),.sl .none 2 (n.streams.map encS)]),(1000,.own x.2 (encR items p n.kids x.1.1).length 12 25)]) (fun x => n.kids.length - x.1.1) (⟨0,by omega⟩,.slice none 0 0) [(3,3),(6,6),(8,8),(1000,1000)]
  ⟨⟨.refl _,.refl _,.refl _,.refl _,.refl _,.refl _,.refl _,trivial⟩,rfl,rfl,rfl,rfl,rfl,rfl,rfl,rfl,rfl,trivial⟩ ?_
 rintro ⟨⟨i,hi⟩,w⟩
 dsimp only at hi ⊢
 refine Tri.seq ?_
 refine Tri.seq ?_
 refine Tri.region ti_ok ?_
 conv => whnf
 refine ⟨rfl,?_⟩
 conv => whnf
 refine Tri.cond (decide ((i : Int) < (n.kids.map enc).length)) rfl (fun hc => ?_) (fun hc => ?_)
 ·have hia : i < n.kids.length:=by simpa using hc
  have hks:=kid_sz hia
  have hnx:=refL_next items p n.kids i hia
  have hln:=refL_len items p (n.kids.take i)
  have hlt : (n.kids.take i).length = i:=by simp; omega
  have hkl : n.kids.length < 10000000:=by have:=szL_len n.kids; have:=sz_eq n; omega
  have hjq : (joinQ p n.kids[i].name).length ≤ p.length + n.kids[i].name.length + 1:=by
   unfold joinQ; split
   ·omega
   ·simp only [List.length_append,List.length_cons]; omega
  refine Tri.skip ?_
  conv => whnf
  refine Tri.seq ?_
  refine Tri.block ?_
  refine Tri.seq ?_
  refine Tri.bitsG ti_ok mixed (α:=Nat) (fun y f => [(1,.str p),(2,.sl .none 1 (strs items)),(3,.box 3 b3 0),(6,.box 6 b6 0),(7,.bool false),(8,.box 8 b8 0),(9,.int .i64 (i : Int)),(22,bif f 0 then .box 3 b3 10 else .any),(23,bif f 1 then .sl .none 12 (n.kids.map enc) else .any),(24,bif f 2 then .int .i64 (i : Int) else .any),(25,bif f 3 then .elm 12 (n.kids.map enc) i 0 else .any),(26,bif f 4 then encTop n.kids[i] else .any),(27,bif f 5 then .str p else .any),(28,bif f 6 then .box 3 b3 10 else .any),(29,bif f 7 then .sl .none 12 (n.kids.map enc) else .any),(30,bif f 8 then .int .i64 (i : Int) else .any),(31,bif f 9 then .elm 12 (n.kids.map enc) i 0 else .any),(32,bif f 10 then .elm 12 (n.kids.map enc) i 0 else .any),(33,bif f 11 then .str n.kids[i].name else .any),(34,bif f 12 then .str (joinQ p n.kids[i].name) else .any),(35,bif f 13 then .sl .none 1 (strs items) else .any),(36,bif f 14 then .tup [encTop (refV items (joinQ p n.kids[i].name) n.kids[i]),.bool (refB items (joinQ p n.kids[i].name) n.kids[i])] else .any),(21,bif f 15 then .tup [encTop (refV items (joinQ p n.kids[i].name) n.kids[i]),.bool (refB items (joinQ p n.kids[i].name) n.kids[i])] else .any),(37,bif f 16 then encTop (refV items (joinQ p n.kids[i].name) n.kids[i]) else .any),(38,bif f 17 then .bool (refB items (joinQ p n.kids[i].name) n.kids[i]) else .any),(10,bif f 18 then .box 10 y 0 else .any),(11,bif f 20 then .bool (refB items (joinQ p n.kids[i].name) n.kids[i]) else .any)])
   (fun y f => look ([(3,.box b3 (encTop n).cells),(6,.box b6 zN),(8,.box b8 (nW n items p i w)),(1000,.own w (encR items p n.kids i).length 12 25)] ++ (bif f 18 then [(10,.box y (bif f 19 then (encTop (refV items (joinQ p n.kids[i].name) n.kids[i])).cells else zN))] else []))) (by decide +kernel) 0 ?_ ?_ ?_ ?_
  ·exact ⟨.refl _,.refl _,.refl _,.refl _,.refl _,.refl _,.refl _,.any _,.any _,.any _,.any _,.any _,.any _,.any _,.any _,.any _,.any _,.any _,.any _,.any _,.any _,.any _,.any _,.any _,.any _,.any _,.any _,trivial⟩
  ·exact SubHF.of (hs:=[(3,.box b3 (encTop n).cells),(6,.box b6 zN),(8,.box b8 (nW n items p i w)),(1000,.own w (encR items p n.kids i).length 12 25)]) ⟨rfl,rfl,rfl,rfl,trivial⟩
  ·conv => whnf
   refine ⟨fun y f hI => ?_,?_⟩
   ·obtain ⟨f,rfl⟩:=off f 19 (hI.no 19 0 rfl rfl)
    conv => whnf
    refine ⟨trivial,.inl ?_⟩
    conv => whnf
    exact ⟨y,⟨.refl _,.refl _,.refl _,.refl _,.refl _,.refl _,.refl _,.refl _,.refl _,.refl _,.refl _,.refl _,.refl _,.refl _,.refl _,.refl _,.refl _,.refl _,.refl _,.refl _,.refl _,.refl _,.refl _,.refl _,.refl _,.refl _,.refl _,trivial⟩,fun k o h => h⟩
   refine ⟨fun y f hI => ?_,?_⟩
   ·obtain ⟨f,rfl⟩:=off f 19 (hI.no 19 1 rfl rfl)
    conv => whnf
    refine ⟨trivial,.inl ?_⟩
    conv => whnf
    refine ⟨rfl,?_⟩
    conv => whnf
    exact ⟨y,⟨.refl _,.refl _,.refl _,.refl _,.refl _,.refl _,.refl _,.refl _,.refl _,.refl _,.refl _,.refl _,.refl _,.refl _,.refl _,.refl _,.refl _,.refl _,.refl _,.refl _,.refl _,.refl _,.refl _,.refl _,.refl _,.refl _,.refl _,trivial⟩,fun k o h => h⟩
   refine ⟨fun y f hI => ?_,?_⟩
   ·obtain ⟨f,rfl⟩:=off f 19 (hI.no 19 2 rfl rfl)
    conv => whnf
    refine ⟨trivial,.inl ?_⟩
    conv => whnf
    exact ⟨y,⟨.refl _,.refl _,.refl _,.refl _,.refl _,.refl _,.refl _,.refl _,.refl _,.refl _,.refl _,.refl _,.refl _,.refl _,.refl _,.refl _,.refl _,.refl _,.refl _,.refl _,.refl _,.refl _,.refl _,.refl _,.refl _,.refl _,.refl _,trivial⟩,fun k o h => h⟩
   refine ⟨fun y f hI => ?_,?_⟩
   ·obtain ⟨f,rfl⟩:=off f 19 (hI.no 19 3 rfl rfl)
    conv => whnf
    refine ⟨trivial,.inl ?_⟩
    conv => whnf
    refine ⟨fun _ => by simp; omega,?_⟩
    conv => whnf
    exact ⟨y,⟨.refl _,.refl _,.refl _,.refl _,.refl _,.refl _,.refl _,.refl _,.refl _,.refl _,.refl _,.refl _,.refl _,.refl _,.refl _,.refl _,.refl _,.refl _,.refl _,.refl _,.refl _,.refl _,.refl _,.refl _,.refl _,.refl _,.refl _,trivial⟩,fun k o h => h⟩
   refine ⟨fun y f hI => ?_,?_⟩
   ·obtain ⟨f,rfl⟩:=off f 19 (hI.no 19 4 rfl rfl)
    conv => whnf
    refine ⟨trivial,.inl ?_⟩
    conv => whnf
    refine ⟨encTop n.kids[i],fun _ => get_kids hia,?_⟩
    conv => whnf
    exact ⟨y,⟨.refl _,.refl _,.refl _,.refl _,.refl _,.refl _,.refl _,.refl _,.refl _,.refl _,.refl _,.refl _,.refl _,.refl _,.refl _,.refl _,.refl _,.refl _,.refl _,.refl _,.refl _,.refl _,.refl _,.refl _,.refl _,.refl _,.refl _,trivial⟩,fun k o h => h⟩
   refine ⟨fun y f hI => ?_,?_⟩
   ·obtain ⟨f,rfl⟩:=off f 19 (hI.no 19 5 rfl rfl)
    conv => whnf
    refine ⟨trivial,.inl ?_⟩
    conv => whnf
    exact ⟨y,⟨.refl _,.refl _,.refl _,.refl _,.refl _,.refl _,.refl _,.refl _,.refl _,.refl _,.refl _,.refl _,.refl _,.refl _,.refl _,.refl _,.refl _,.refl _,.refl _,.refl _,.refl _,.refl _,.refl _,.refl _,.refl _,.refl _,.refl _,trivial⟩,fun k o h => h⟩
   refine ⟨fun y f hI => ?_,?_⟩
   ·obtain ⟨f,rfl⟩:=off f 19 (hI.no 19 6 rfl rfl)
    conv => whnf
    refine ⟨trivial,.inl ?_⟩
    conv => whnf
    exact ⟨y,⟨.refl _,.refl _,.refl _,.refl _,.refl _,.refl _,.refl _,.refl _,.refl _,.refl _,.refl _,.refl _,.refl _,.refl _,.refl _,.refl _,.refl _,.refl _,.refl _,.refl _,.refl _,.refl _,.refl _,.refl _,.refl _,.refl _,.refl _,trivial⟩,fun k o h => h⟩
   refine ⟨fun y f hI => ?_,?_⟩
   ·obtain ⟨f,rfl⟩:=off f 19 (hI.no 19 7 rfl rfl)
    conv => whnf
    refine ⟨trivial,.inl ?_⟩
    conv => whnf
    refine ⟨rfl,?_⟩
    conv => whnf
    exact ⟨y,⟨.refl _,.refl _,.refl _,.refl _,.refl _,.refl _,.refl _,.refl _,.refl _,.refl _,.refl _,.refl _,.refl _,.refl _,.refl _,.refl _,.refl _,.refl _,.refl _,.refl _,.refl _,.refl _,.refl _,.refl _,.refl _,.refl _,.refl _,trivial⟩,fun k o h => h⟩
   refine ⟨fun y f hI => ?_,?_⟩
   ·obtain ⟨f,rfl⟩:=off f 19 (hI.no 19 8 rfl rfl)
    conv => whnf
    refine ⟨trivial,.inl ?_⟩
    conv => whnf
    exact ⟨y,⟨.refl _,.refl _,.refl _,.refl _,.refl _,.refl _,.refl _,.refl _,.refl _,.refl _,.refl _,.refl _,.refl _,.refl _,.refl _,.refl _,.refl _,.refl _,.refl _,.refl _,.refl _,.refl _,.refl _,.refl _,.refl _,.refl _,.refl _,trivial⟩,fun k o h => h⟩
   refine ⟨fun y f hI => ?_,?_⟩
   ·obtain ⟨f,rfl⟩:=off f 19 (hI.no 19 9 rfl rfl)
    conv => whnf
    refine ⟨trivial,.inl ?_⟩
    conv => whnf
    refine ⟨fun _ => by simp; omega,?_⟩
    conv => whnf
    exact ⟨y,⟨.refl _,.refl _,.refl _,.refl _,.refl _,.refl _,.refl _,.refl _,.refl _,.refl _,.refl _,.refl _,.refl _,.refl _,.refl _,.refl _,.refl _,.refl _,.refl _,.refl _,.refl _,.refl _,.refl _,.refl _,.refl _,.refl _,.refl _,trivial⟩,fun k o h => h⟩
   refine ⟨fun y f hI => ?_,?_⟩
   ·obtain ⟨f,rfl⟩:=off f 19 (hI.no 19 10 rfl rfl)
    conv => whnf
    refine ⟨trivial,.inl ?_⟩
    conv => whnf
    exact ⟨y,⟨.refl _,.refl _,.refl _,.refl _,.refl _,.refl _,.refl _,.refl _,.refl _,.refl _,.refl _,.refl _,.refl _,.refl _,.refl _,.refl _,.refl _,.refl _,.refl _,.refl _,.refl _,.refl _,.refl _,.refl _,.refl _,.refl _,.refl _,trivial⟩,fun k o h => h⟩
   refine ⟨fun y f hI => ?_,?_⟩
   ·obtain ⟨f,rfl⟩:=off f 19 (hI.no 19 11 rfl rfl)
    conv => whnf
    refine ⟨trivial,.inl ?_⟩
    conv => whnf
    refine ⟨encTop n.kids[i],fun _ => get_kids hia,?_⟩
    conv => whnf
    exact ⟨y,⟨.refl _,.refl _,.refl _,.refl _,.refl _,.refl _,.refl _,.refl _,.refl _,.refl _,.refl _,.refl _,.refl _,.refl _,.refl _,.refl _,.refl _,.refl _,.refl _,.refl _,.refl _,.refl _,.refl _,.refl _,.refl _,.refl _,.refl _,trivial⟩,fun k o h => h⟩
   refine ⟨fun y f hI => ?_,?_⟩
   ·obtain ⟨f,rfl⟩:=off f 19 (hI.no 19 12 rfl rfl)
    conv => whnf
    refine ⟨trivial,.inl ?_⟩
    conv => whnf
    refine ⟨[.str p,.str n.kids[i].name],_,fun _ => K63 p n.kids[i].name (by omega),⟨.refl _,.refl _,trivial⟩,?_⟩
    conv => whnf
    exact ⟨y,⟨.refl _,.refl _,.refl _,.refl _,.refl _,.refl _,.refl _,.refl _,.refl _,.refl _,.refl _,.refl _,.refl _,.refl _,.refl _,.refl _,.refl _,.refl _,.refl _,.refl _,.refl _,.refl _,.refl _,.refl _,.refl _,.refl _,.refl _,trivial⟩,fun k o h => h⟩
   refine ⟨fun y f hI => ?_,?_⟩
   ·obtain ⟨f,rfl⟩:=off f 19 (hI.no 19 13 rfl rfl)
    conv => whnf
    refine ⟨trivial,.inl ?_⟩
    conv => whnf
    exact ⟨y,⟨.refl _,.refl _,.refl _,.refl _,.refl _,.refl _,.refl _,.refl _,.refl _,.refl _,.refl _,.refl _,.refl _,.refl _,.refl _,.refl _,.refl _,.refl _,.refl _,.refl _,.refl _,.refl _,.refl _,.refl _,.refl _,.refl _,.refl _,trivial⟩,fun k o h => h⟩
   refine ⟨fun y f hI => ?_,?_⟩
   ·obtain ⟨f,rfl⟩:=off f 19 (hI.no 19 14 rfl rfl)
    conv => whnf
    refine ⟨trivial,.inl ?_⟩
    conv => whnf
    refine ⟨[encTop n.kids[i],.str (joinQ p n.kids[i].name),.sl .none 1 (strs items)],_,fun _ => ih n.kids[i] (joinQ p n.kids[i].name) (by omega) (by omega),⟨.refl _,.refl _,.refl _,trivial⟩,?_⟩
    conv => whnf
    exact ⟨y,⟨.refl _,.refl _,.refl _,.refl _,.refl _,.refl _,.refl _,.refl _,.refl _,.refl _,.refl _,.refl _,.refl _,.refl _,.refl _,.refl _,.refl _,.refl _,.refl _,.refl _,.refl _,.refl _,.refl _,.refl _,.refl _,.refl _,.refl _,trivial⟩,fun k o h => h⟩
   refine ⟨fun y f hI => ?_,?_⟩
   ·obtain ⟨f,rfl⟩:=off f 19 (hI.no 19 15 rfl rfl)
    conv => whnf
    refine ⟨trivial,.inl ?_⟩
    conv => whnf
    exact ⟨y,⟨.refl _,.refl _,.refl _,.refl _,.refl _,.refl _,.refl _,.refl _,.refl _,.refl _,.refl _,.refl _,.refl _,.refl _,.refl _,.refl _,.refl _,.refl _,.refl _,.refl _,.refl _,.refl _,.refl _,.refl _,.refl _,.refl _,.refl _,trivial⟩,fun k o h => h⟩
   refine ⟨fun y f hI => ?_,?_⟩
   ·obtain ⟨f,rfl⟩:=off f 19 (hI.no 19 16 rfl rfl)
    conv => whnf
    refine ⟨trivial,.inl ?_⟩
    conv => whnf
    exact ⟨y,⟨.refl _,.refl _,.refl _,.refl _,.refl _,.refl _,.refl _,.refl _,.refl _,.refl _,.refl _,.refl _,.refl _,.refl _,.refl _,.refl _,.refl _,.refl _,.refl _,.refl _,.refl _,.refl _,.refl _,.refl _,.refl _,.refl _,.refl _,trivial⟩,fun k o h => h⟩
   refine ⟨fun y f hI => ?_,?_⟩
   ·conv => whnf
    refine ⟨trivial,.inl ?_⟩
    conv => whnf
    exact ⟨y,⟨.refl _,.refl _,.refl _,.refl _,.refl _,.refl _,.refl _,.refl _,.refl _,.refl _,.refl _,.refl _,.refl _,.refl _,.refl _,.refl _,.refl _,.refl _,.refl _,.refl _,.refl _,.refl _,.refl _,.refl _,.refl _,.refl _,.refl _,trivial⟩,fun k o h => h⟩
   refine ⟨fun y f hI => ?_,?_⟩
   ·obtain ⟨f,rfl⟩:=off f 19 (hI.no 19 18 rfl rfl)
    conv => whnf
    refine ⟨trivial,.inl ?_⟩
    conv => whnf
    intro nb
    conv => whnf
    exact ⟨nb,⟨.refl _,.refl _,.refl _,.refl _,.refl _,.refl _,.refl _,.refl _,.refl _,.refl _,.refl _,.refl _,.refl _,.refl _,.refl _,.refl _,.refl _,.refl _,.refl _,.refl _,.refl _,.refl _,.refl _,.refl _,.refl _,.refl _,.refl _,trivial⟩,SubHF.of (hs:=[(3,.box b3 (encTop n).cells),(6,.box b6 zN),(8,.box b8 (nW n items p i w)),(1000,.own w (encR items p n.kids i).length 12 25),(10,.box nb zN)]) ⟨rfl,rfl,rfl,rfl,rfl,trivial⟩⟩
   refine ⟨fun y f hI => ?_,?_⟩
   ·conv => whnf
    refine ⟨trivial,.inl ?_⟩
    conv => whnf
    refine ⟨rfl,?_⟩
    conv => whnf
    exact ⟨y,⟨.refl _,.refl _,.refl _,.refl _,.refl _,.refl _,.refl _,.refl _,.refl _,.refl _,.refl _,.refl _,.refl _,.refl _,.refl _,.refl _,.refl _,.refl _,.refl _,.refl _,.refl _,.refl _,.refl _,.refl _,.refl _,.refl _,.refl _,trivial⟩,SubHF.of (hs:=[(3,.box b3 (encTop n).cells),(6,.box b6 zN),(8,.box b8 (nW n items p i w)),(1000,.own w (encR items p n.kids i).length 12 25),(10,.box y (encTop (refV items (joinQ p n.kids[i].name) n.kids[i])).cells)]) ⟨rfl,rfl,rfl,rfl,rfl,trivial⟩⟩
   refine ⟨fun y f hI => ?_,?_⟩
   ·conv => whnf
    refine ⟨trivial,.inl ?_⟩
    conv => whnf
    exact ⟨y,⟨.refl _,.refl _,.refl _,.refl _,.refl _,.refl _,.refl _,.refl _,.refl _,.refl _,.refl _,.refl _,.refl _,.refl _,.refl _,.refl _,.refl _,.refl _,.refl _,.refl _,.refl _,.refl _,.refl _,.refl _,.refl _,.refl _,.refl _,trivial⟩,fun k o h => h⟩
   exact trivial
  ·intro y f hfl
   conv => whnf
   refine Tri.forgetG [(1,.str p),(2,.sl .none 1 (strs items)),(3,.box 3 b3 0),(6,.box 6 b6 0),(7,.bool false),(8,.box 8 b8 0),(9,.int .i64 (i : Int)),(10,.box 10 y 0),(11,.bool (refB items (joinQ p n.kids[i].name) n.kids[i]))] (look [(3,.box b3 (encTop n).cells),(6,.box b6 zN),(8,.box b8 (nW n items p i w)),(1000,.own w (encR items p n.kids i).length 12 25),(10,.box y (encTop (refV items (joinQ p n.kids[i].name) n.kids[i])).cells)]) (.same ⟨.refl _,.refl _,.refl _,.refl _,.refl _,.refl _,.refl _,?_,?_,trivial⟩ (SubHF.of ⟨rfl,rfl,rfl,rfl,?_,trivial⟩)) ?_
   ·show DLe (bif f 18 then _ else _) _
    rw [hfl 18 (by decide +kernel)]; exact .refl _
   ·show DLe (bif f 20 then _ else _) _
    rw [hfl 20 (by decide +kernel)]; exact .refl _
   ·show look (([(3,_),(6,_),(8,_),(1000,_)] : List (Nat × HObj)) ++ (bif f 18 then _ else _)) 10 = _
    rw [hfl 18 (by decide +kernel),hfl 19 (by decide +kernel)]; rfl
   refine Tri.seq ?_
   refine Tri.region ti_ok ?_
   conv => whnf
   refine Tri.cond (refB items (joinQ p n.kids[i].name) n.kids[i]) rfl (fun hc2 => ?_) (fun hc2 => ?_)
   ·refine Tri.region ti_ok ?_
    conv => whnf
    refine ⟨rfl,?_⟩
    conv => whnf
    refine ⟨rfl,?_⟩
    conv => whnf
    refine ⟨trivial,?_⟩
    conv => whnf
    refine ⟨rfl,rfl,?_⟩
    conv => whnf
    refine ⟨by show (_ + 1) * 152 ≤ _; simp [encR]; omega,by show _ + 1 ≤ _; simp [encR]; omega,(fun h => by cases h),fun v => ?_⟩
    conv => whnf
    refine ⟨rfl,?_⟩
    conv => whnf
    have hnx2 : encR items p n.kids (i + 1) = encR items p n.kids i ++ [encTop (refV items (joinQ p n.kids[i].name) n.kids[i])]:=by
     rw [encR,encR,hnx,if_pos hc2,List.map_append]
     simp only [List.map_cons,List.map_nil,enc_eq]
    refine Tri.boxLe 8 (cs':=[.str n.name,.int .i64 n.kind,.str n.text,.str n.target,.int .i64 n.n1,.int .i64 n.n2,.int .i64 n.n3,.int .i64 n.n4,.int .i64 n.n5,.int .i64 n.n6,.sl (.own 1000 v) 12 (encR items p n.kids (i + 1)),.sl .none 2 (n.streams.map encS)]) rfl ⟨.refl _,.refl _,.refl _,.refl _,.refl _,.refl _,.refl _,.refl _,.refl _,.refl _,DLe.ownEq hnx2.symm,.refl _,trivial⟩ ?_
    refine Tri.region ti_ok ?_
    conv => whnf
    refine .inl ⟨fun _ => by simp [InR]; omega,?_⟩
    conv => whnf
    exact ⟨(⟨i + 1,hia⟩,v),[(3,3),(6,6),(8,8),(1000,44)],by show _ - (i + 1) < _ - i; omega,⟨.refl _,.refl _,.refl _,.refl _,.refl _,.refl _,.refl _,trivial⟩,rfl,rfl,rfl,rfl,rfl,rfl,rfl,rfl,ownH (show _ = (encR items p n.kids (i + 1)).length by rw [hnx2]; simp),trivial⟩
   ·refine Tri.skip ?_
    conv => whnf
    refine Tri.region ti_ok ?_
    conv => whnf
    refine .inl ⟨fun _ => by simp [InR]; omega,?_⟩
    conv => whnf
    have hnx2 : encR items p n.kids (i + 1) = encR items p n.kids i:=by
     rw [encR,encR,hnx,if_neg (by rw [hc2]; simp),List.append_nil]
    exact ⟨(⟨i + 1,hia⟩,w),[(3,3),(6,6),(8,8),(1000,1000)],by show _ - (i + 1) < _ - i; omega,⟨.refl _,.refl _,.refl _,.refl _,.refl _,.refl _,.refl _,trivial⟩,rfl,rfl,rfl,rfl,rfl,rfl,congrArg (fun z : List D => some (HObj.box b8 [.str n.name,.int .i64 n.kind,.str n.text,.str n.target,.int .i64 n.n1,.int .i64 n.n2,.int .i64 n.n3,.int .i64 n.n4,.int .i64 n.n5,.int .i64 n.n6,.sl (.own 1000 w) 12 z,.sl .none 2 (n.streams.map encS)])) hnx2.symm,rfl,ownH (congrArg List.length hnx2.symm),trivial⟩
 ·have hin : i = n.kids.length:=by simp at hc; omega
  have he : encR items p n.kids i = (refL items p n.kids).map enc:=by
   rw [hin,encR,List.take_length]
  refine Tri.exit ?_
  conv => whnf
  refine Tri.seq ?_
  have hRB:=refB_eq items p n
  have hlR : (encR items p n.kids i).length = (refL items p n.kids).length:=by rw [he,List.length_map]
  have hlle : (encR items p n.kids i).length < 10000000:=by
   rw [hlR]
   have h1:=refL_len items p n.kids
   have h2:=szL_len n.kids
   have h3:=sz_eq n
   omega
  by_cases h0 : p = []
  ·have hp : (p == []) = true:=by simp [h0]
   have hR : refB items p n = true:=by rw [hRB,h0]; rfl
   refine Tri.bitsU ti_ok mixed (α:=Unit) (fun _ f => [(1,.str p),(2,.sl .none 1 (strs items)),(6,.box 6 b6 0),(8,.box 8 b8 0),(46,bif f 0 then (.agg (nW n items p i w)) else .any),(47,bif f 1 then .str p else .any),(48,bif f 2 then .bool true else .any),(49,bif f 3 then .bool true else .any),(50,bif f 4 then .any else .any),(51,bif f 5 then .any else .any),(52,bif f 6 then .any else .any),(53,bif f 7 then .cnd false (.bool false) else .any),(54,bif f 8 then .bool true else .any),(55,bif f 9 then .bool true else .any),(56,bif f 10 then .any else .any),(57,bif f 11 then .any else .any),(58,bif f 12 then .cnd false (.bool false) else .any),(59,bif f 13 then .bool true else .any),(7,bif f 15 then .bool true else .bool false)])
    (fun _ f => look [(3,.box b3 (encTop n).cells),(6,.box b6 (bif f 14 then (nW n items p i w) else zN)),(8,.box b8 (nW n items p i w)),(1000,.own w (encR items p n.kids i).length 12 25)]) (by decide +kernel) () ?_ ?_ ?_ ?_
   ·exact ⟨.refl _,.refl _,.refl _,.refl _,.any _,.any _,.any _,.any _,.any _,.any _,.any _,.any _,.any _,.any _,.any _,.any _,.any _,.any _,.refl _,trivial⟩
   ·exact SubHF.of (hs:=[(3,.box b3 (encTop n).cells),(6,.box b6 zN),(8,.box b8 (nW n items p i w)),(1000,.own w (encR items p n.kids i).length 12 25)]) ⟨rfl,rfl,rfl,rfl,trivial⟩
   ·conv => whnf
    refine ⟨fun _ f hI => ?_,?_⟩
    ·obtain ⟨f,rfl⟩:=off f 14 (hI.no 14 0 rfl rfl)
     conv => whnf
     refine .inl ?_
     conv => whnf
     refine ⟨rfl,?_⟩
     conv => whnf
     exact ⟨(),⟨.refl _,.refl _,.refl _,.refl _,.refl _,.refl _,.refl _,.refl _,.refl _,.refl _,.refl _,.refl _,.refl _,.refl _,.refl _,.refl _,.refl _,.refl _,.refl _,trivial⟩,fun k o h => h⟩
    refine ⟨fun _ f hI => ?_,?_⟩
    ·obtain ⟨f,rfl⟩:=off f 14 (hI.no 14 12 rfl (hI.no 12 9 rfl (hI.no 9 3 rfl (hI.no 3 2 rfl (hI.no 2 1 rfl rfl)))))
     conv => whnf
     refine .inl ?_
     conv => whnf
     exact ⟨(),⟨.refl _,.refl _,.refl _,.refl _,.refl _,.refl _,.refl _,.refl _,.refl _,.refl _,.refl _,.refl _,.refl _,.refl _,.refl _,.refl _,.refl _,.refl _,.refl _,trivial⟩,fun k o h => h⟩
    refine ⟨fun _ f hI => ?_,?_⟩
    ·obtain ⟨f,rfl⟩:=off f 14 (hI.no 14 12 rfl (hI.no 12 9 rfl (hI.no 9 3 rfl (hI.no 3 2 rfl rfl))))
     conv => whnf
     refine .inl ?_
     conv => whnf
     exact ⟨(),⟨.refl _,.refl _,.refl _,.refl _,.refl _,.refl _,DLe.of_eq (congrArg D.bool hp),.refl _,.refl _,.refl _,.refl _,.refl _,.refl _,.refl _,.refl _,.refl _,.refl _,.refl _,.refl _,trivial⟩,fun k o h => h⟩
    refine ⟨fun _ f hI => ?_,?_⟩
    ·obtain ⟨f,rfl⟩:=off f 14 (hI.no 14 12 rfl (hI.no 12 9 rfl (hI.no 9 3 rfl rfl)))
     conv => whnf
     refine .inl ?_
     conv => whnf
     exact ⟨(),⟨.refl _,.refl _,.refl _,.refl _,.refl _,.refl _,.refl _,.refl _,.refl _,.refl _,.refl _,.refl _,.refl _,.refl _,.refl _,.refl _,.refl _,.refl _,.refl _,trivial⟩,fun k o h => h⟩
    refine ⟨fun _ f hI => ?_,?_⟩
    ·obtain ⟨f,rfl⟩:=off f 14 (hI.no 14 12 rfl (hI.no 12 9 rfl (hI.no 9 8 rfl (hI.no 8 7 rfl (hI.no 7 6 rfl (hI.no 6 5 rfl (hI.no 5 4 rfl rfl)))))))
     conv => whnf
     refine ⟨_,_,rfl,rfl,.inr ⟨rfl,?_⟩⟩
     exact ⟨(),⟨.refl _,.refl _,.refl _,.refl _,.refl _,.refl _,.refl _,.refl _,.any _,.refl _,.refl _,.refl _,.refl _,.refl _,.refl _,.refl _,.refl _,.refl _,.refl _,trivial⟩,fun k o h => h⟩
    refine ⟨fun _ f hI => ?_,?_⟩
    ·obtain ⟨f,rfl⟩:=off f 14 (hI.no 14 12 rfl (hI.no 12 9 rfl (hI.no 9 8 rfl (hI.no 8 7 rfl (hI.no 7 6 rfl (hI.no 6 5 rfl rfl))))))
     conv => whnf
     refine ⟨_,_,rfl,rfl,.inr ⟨rfl,?_⟩⟩
     exact ⟨(),⟨.refl _,.refl _,.refl _,.refl _,.refl _,.refl _,.refl _,.refl _,.refl _,.any _,.refl _,.refl _,.refl _,.refl _,.refl _,.refl _,.refl _,.refl _,.refl _,trivial⟩,fun k o h => h⟩
    refine ⟨fun _ f hI => ?_,?_⟩
    ·obtain ⟨f,rfl⟩:=off f 14 (hI.no 14 12 rfl (hI.no 12 9 rfl (hI.no 9 8 rfl (hI.no 8 7 rfl (hI.no 7 6 rfl rfl)))))
     conv => whnf
     refine ⟨_,_,rfl,rfl,.inr ⟨rfl,?_⟩⟩
     exact ⟨(),⟨.refl _,.refl _,.refl _,.refl _,.refl _,.refl _,.refl _,.refl _,.refl _,.refl _,.any _,.refl _,.refl _,.refl _,.refl _,.refl _,.refl _,.refl _,.refl _,trivial⟩,fun k o h => h⟩
    refine ⟨fun _ f hI => ?_,?_⟩
    ·obtain ⟨f,rfl⟩:=off f 14 (hI.no 14 12 rfl (hI.no 12 9 rfl (hI.no 9 8 rfl (hI.no 8 7 rfl rfl))))
     conv => whnf
     refine ⟨_,_,rfl,rfl,.inr ⟨rfl,?_⟩⟩
     exact ⟨(),⟨.refl _,.refl _,.refl _,.refl _,.refl _,.refl _,.refl _,.refl _,.refl _,.refl _,.refl _,DLe.skipped,.refl _,.refl _,.refl _,.refl _,.refl _,.refl _,.refl _,trivial⟩,fun k o h => h⟩
    refine ⟨fun _ f hI => ?_,?_⟩
    ·obtain ⟨f,rfl⟩:=off f 14 (hI.no 14 12 rfl (hI.no 12 9 rfl (hI.no 9 8 rfl rfl)))
     conv => whnf
     refine .inl ?_
     conv => whnf
     refine ⟨(fun _ h => by cases h),?_⟩
     conv => whnf
     exact ⟨(),⟨.refl _,.refl _,.refl _,.refl _,.refl _,.refl _,.refl _,.refl _,.refl _,.refl _,.refl _,.refl _,.refl _,.refl _,.refl _,.refl _,.refl _,.refl _,.refl _,trivial⟩,fun k o h => h⟩
    refine ⟨fun _ f hI => ?_,?_⟩
    ·obtain ⟨f,rfl⟩:=off f 14 (hI.no 14 12 rfl (hI.no 12 9 rfl rfl))
     conv => whnf
     refine .inl ?_
     conv => whnf
     exact ⟨(),⟨.refl _,.refl _,.refl _,.refl _,.refl _,.refl _,.refl _,.refl _,.refl _,.refl _,.refl _,.refl _,.refl _,.refl _,.refl _,.refl _,.refl _,.refl _,.refl _,trivial⟩,fun k o h => h⟩
    refine ⟨fun _ f hI => ?_,?_⟩
    ·obtain ⟨f,rfl⟩:=off f 14 (hI.no 14 12 rfl (hI.no 12 10 rfl rfl))
     conv => whnf
     refine ⟨_,_,rfl,rfl,.inr ⟨rfl,?_⟩⟩
     exact ⟨(),⟨.refl _,.refl _,.refl _,.refl _,.refl _,.refl _,.refl _,.refl _,.refl _,.refl _,.refl _,.refl _,.refl _,.refl _,.any _,.refl _,.refl _,.refl _,.refl _,trivial⟩,fun k o h => h⟩
    refine ⟨fun _ f hI => ?_,?_⟩
    ·obtain ⟨f,rfl⟩:=off f 14 (hI.no 14 12 rfl (hI.no 12 11 rfl rfl))
     conv => whnf
     refine ⟨_,_,rfl,rfl,.inr ⟨rfl,?_⟩⟩
     exact ⟨(),⟨.refl _,.refl _,.refl _,.refl _,.refl _,.refl _,.refl _,.refl _,.refl _,.refl _,.refl _,.refl _,.refl _,.refl _,.refl _,.any _,.refl _,.refl _,.refl _,trivial⟩,fun k o h => h⟩
    refine ⟨fun _ f hI => ?_,?_⟩
    ·obtain ⟨f,rfl⟩:=off f 14 (hI.no 14 12 rfl rfl)
     conv => whnf
     refine ⟨_,_,rfl,rfl,.inr ⟨rfl,?_⟩⟩
     exact ⟨(),⟨.refl _,.refl _,.refl _,.refl _,.refl _,.refl _,.refl _,.refl _,.refl _,.refl _,.refl _,.refl _,.refl _,.refl _,.refl _,.refl _,DLe.skipped,.refl _,.refl _,trivial⟩,fun k o h => h⟩
    refine ⟨fun _ f hI => ?_,?_⟩
    ·conv => whnf
     refine .inl ?_
     conv => whnf
     refine ⟨(fun _ h => by cases h),?_⟩
     conv => whnf
     exact ⟨(),⟨.refl _,.refl _,.refl _,.refl _,.refl _,.refl _,.refl _,.refl _,.refl _,.refl _,.refl _,.refl _,.refl _,.refl _,.refl _,.refl _,.refl _,.refl _,.refl _,trivial⟩,fun k o h => h⟩
    refine ⟨fun _ f hI => ?_,?_⟩
    ·conv => whnf
     refine .inl ?_
     conv => whnf
     refine ⟨rfl,?_⟩
     conv => whnf
     exact ⟨(),⟨.refl _,.refl _,.refl _,.refl _,.refl _,.refl _,.refl _,.refl _,.refl _,.refl _,.refl _,.refl _,.refl _,.refl _,.refl _,.refl _,.refl _,.refl _,.refl _,trivial⟩,SubHF.of (hs:=[(3,.box b3 (encTop n).cells),(6,.box b6 (nW n items p i w)),(8,.box b8 (nW n items p i w)),(1000,.own w (encR items p n.kids i).length 12 25)]) ⟨rfl,rfl,rfl,rfl,trivial⟩⟩
    refine ⟨fun _ f hI => ?_,?_⟩
    ·conv => whnf
     refine .inl ?_
     conv => whnf
     exact ⟨(),⟨.refl _,.refl _,.refl _,.refl _,.refl _,.refl _,.refl _,.refl _,.refl _,.refl _,.refl _,.refl _,.refl _,.refl _,.refl _,.refl _,.refl _,.refl _,.refl _,trivial⟩,fun k o h => h⟩
    exact trivial
   ·intro _ f hfl
    conv => whnf
    refine Tri.forgetG [(6,.box 6 b6 0),(7,.bool true)] (look [(6,.box b6 (nW n items p i w))]) (.same ⟨.refl _,?_,trivial⟩ (SubHF.of ⟨?_,trivial⟩)) ?_
    ·show DLe (bif f 15 then _ else _) _
     rw [hfl 15 (by decide +kernel)]; exact .refl _
    ·show some (HObj.box b6 (bif f 14 then _ else _)) = _
     rw [hfl 14 (by decide +kernel)]; rfl
    refine Tri.ret ?_
    conv => whnf
    refine ⟨rfl,?_⟩
    conv => whnf
    rw [hR,refV_eq]
    exact ⟨DLe.agg (a:=(nW n items p i w)) (a':=[.str n.name,.int .i64 n.kind,.str n.text,.str n.target,.int .i64 n.n1,.int .i64 n.n2,.int .i64 n.n3,.int .i64 n.n4,.int .i64 n.n5,.int .i64 n.n6,.sl .none 12 ((refL items p n.kids).map enc),.sl .none 2 (n.streams.map encS)]) ⟨.refl _,.refl _,.refl _,.refl _,.refl _,.refl _,.refl _,.refl _,.refl _,.refl _,DLe.trans (DLe.of_eq (congrArg (D.sl (.own 1000 w) 12) he)) DLe.unown,.refl _,trivial⟩,.refl _,trivial⟩
  ·have hp : (p == []) = false:=by simp [h0]
   by_cases hk0 : 0 < (refL items p n.kids).length
   ·have hk : decide ((0 : Int) < (((encR items p n.kids i).length : Nat) : Int)) = true:=decide_eq_true (by omega)
    have hR : refB items p n = true:=by rw [hRB,decide_eq_true hk0]; simp
    refine Tri.bitsU ti_ok mixed (α:=Unit) (fun _ f => [(1,.str p),(2,.sl .none 1 (strs items)),(6,.box 6 b6 0),(8,.box 8 b8 0),(46,bif f 0 then (.agg (nW n items p i w)) else .any),(47,bif f 1 then .str p else .any),(48,bif f 2 then .bool false else .any),(49,bif f 3 then .bool false else .any),(50,bif f 4 then .box 8 b8 10 else .any),(51,bif f 5 then .sl (.own 1000 w) 12 (encR items p n.kids i) else .any),(52,bif f 6 then .int .i64 (encR items p n.kids i).length else .any),(53,bif f 7 then .bool true else .any),(54,bif f 8 then .bool true else .any),(55,bif f 9 then .bool true else .any),(56,bif f 10 then .any else .any),(57,bif f 11 then .any else .any),(58,bif f 12 then .cnd false (.bool false) else .any),(59,bif f 13 then .bool true else .any),(7,bif f 15 then .bool true else .bool false)])
     (fun _ f => look [(3,.box b3 (encTop n).cells),(6,.box b6 (bif f 14 then (nW n items p i w) else zN)),(8,.box b8 (nW n items p i w)),(1000,.own w (encR items p n.kids i).length 12 25)]) (by decide +kernel) () ?_ ?_ ?_ ?_
    ·exact ⟨.refl _,.refl _,.refl _,.refl _,.any _,.any _,.any _,.any _,.any _,.any _,.any _,.any _,.any _,.any _,.any _,.any _,.any _,.any _,.refl _,trivial⟩
    ·exact SubHF.of (hs:=[(3,.box b3 (encTop n).cells),(6,.box b6 zN),(8,.box b8 (nW n items p i w)),(1000,.own w (encR items p n.kids i).length 12 25)]) ⟨rfl,rfl,rfl,rfl,trivial⟩
    ·conv => whnf
     refine ⟨fun _ f hI => ?_,?_⟩
     ·obtain ⟨f,rfl⟩:=off f 14 (hI.no 14 0 rfl rfl)
      conv => whnf
      refine .inl ?_
      conv => whnf
      refine ⟨rfl,?_⟩
      conv => whnf
      exact ⟨(),⟨.refl _,.refl _,.refl _,.refl _,.refl _,.refl _,.refl _,.refl _,.refl _,.refl _,.refl _,.refl _,.refl _,.refl _,.refl _,.refl _,.refl _,.refl _,.refl _,trivial⟩,fun k o h => h⟩
     refine ⟨fun _ f hI => ?_,?_⟩
     ·obtain ⟨f,rfl⟩:=off f 14 (hI.no 14 12 rfl (hI.no 12 9 rfl (hI.no 9 3 rfl (hI.no 3 2 rfl (hI.no 2 1 rfl rfl)))))
      conv => whnf
      refine .inl ?_
      conv => whnf
      exact ⟨(),⟨.refl _,.refl _,.refl _,.refl _,.refl _,.refl _,.refl _,.refl _,.refl _,.refl _,.refl _,.refl _,.refl _,.refl _,.refl _,.refl _,.refl _,.refl _,.refl _,trivial⟩,fun k o h => h⟩
     refine ⟨fun _ f hI => ?_,?_⟩
     ·obtain ⟨f,rfl⟩:=off f 14 (hI.no 14 12 rfl (hI.no 12 9 rfl (hI.no 9 3 rfl (hI.no 3 2 rfl rfl))))
      conv => whnf
      refine .inl ?_
      conv => whnf
      exact ⟨(),⟨.refl _,.refl _,.refl _,.refl _,.refl _,.refl _,DLe.of_eq (congrArg D.bool hp),.refl _,.refl _,.refl _,.refl _,.refl _,.refl _,.refl _,.refl _,.refl _,.refl _,.refl _,.refl _,trivial⟩,fun k o h => h⟩
     refine ⟨fun _ f hI => ?_,?_⟩
     ·obtain ⟨f,rfl⟩:=off f 14 (hI.no 14 12 rfl (hI.no 12 9 rfl (hI.no 9 3 rfl rfl)))
      conv => whnf
      refine .inl ?_
      conv => whnf
      exact ⟨(),⟨.refl _,.refl _,.refl _,.refl _,.refl _,.refl _,.refl _,.refl _,.refl _,.refl _,.refl _,.refl _,.refl _,.refl _,.refl _,.refl _,.refl _,.refl _,.refl _,trivial⟩,fun k o h => h⟩
     refine ⟨fun _ f hI => ?_,?_⟩
     ·obtain ⟨f,rfl⟩:=off f 14 (hI.no 14 12 rfl (hI.no 12 9 rfl (hI.no 9 8 rfl (hI.no 8 7 rfl (hI.no 7 6 rfl (hI.no 6 5 rfl (hI.no 5 4 rfl rfl)))))))
      conv => whnf
      refine ⟨_,_,rfl,rfl,.inl ⟨rfl,.inl ?_⟩⟩
      conv => whnf
      exact ⟨(),⟨.refl _,.refl _,.refl _,.refl _,.refl _,.refl _,.refl _,.refl _,.refl _,.refl _,.refl _,.refl _,.refl _,.refl _,.refl _,.refl _,.refl _,.refl _,.refl _,trivial⟩,fun k o h => h⟩
     refine ⟨fun _ f hI => ?_,?_⟩
     ·obtain ⟨f,rfl⟩:=off f 14 (hI.no 14 12 rfl (hI.no 12 9 rfl (hI.no 9 8 rfl (hI.no 8 7 rfl (hI.no 7 6 rfl (hI.no 6 5 rfl rfl))))))
      conv => whnf
      refine ⟨_,_,rfl,rfl,.inl ⟨rfl,.inl ?_⟩⟩
      conv => whnf
      refine ⟨rfl,?_⟩
      conv => whnf
      exact ⟨(),⟨.refl _,.refl _,.refl _,.refl _,.refl _,.refl _,.refl _,.refl _,.refl _,.refl _,.refl _,.refl _,.refl _,.refl _,.refl _,.refl _,.refl _,.refl _,.refl _,trivial⟩,fun k o h => h⟩
     refine ⟨fun _ f hI => ?_,?_⟩
     ·obtain ⟨f,rfl⟩:=off f 14 (hI.no 14 12 rfl (hI.no 12 9 rfl (hI.no 9 8 rfl (hI.no 8 7 rfl (hI.no 7 6 rfl rfl)))))
      conv => whnf
      refine ⟨_,_,rfl,rfl,.inl ⟨rfl,.inl ?_⟩⟩
      conv => whnf
      exact ⟨(),⟨.refl _,.refl _,.refl _,.refl _,.refl _,.refl _,.refl _,.refl _,.refl _,.refl _,.refl _,.refl _,.refl _,.refl _,.refl _,.refl _,.refl _,.refl _,.refl _,trivial⟩,fun k o h => h⟩
     refine ⟨fun _ f hI => ?_,?_⟩
     ·obtain ⟨f,rfl⟩:=off f 14 (hI.no 14 12 rfl (hI.no 12 9 rfl (hI.no 9 8 rfl (hI.no 8 7 rfl rfl))))
      conv => whnf
      refine ⟨_,_,rfl,rfl,.inl ⟨rfl,.inl ?_⟩⟩
      conv => whnf
      exact ⟨(),⟨.refl _,.refl _,.refl _,.refl _,.refl _,.refl _,.refl _,.refl _,.refl _,.refl _,.refl _,DLe.of_eq (congrArg D.bool hk),.refl _,.refl _,.refl _,.refl _,.refl _,.refl _,.refl _,trivial⟩,fun k o h => h⟩
     refine ⟨fun _ f hI => ?_,?_⟩
     ·obtain ⟨f,rfl⟩:=off f 14 (hI.no 14 12 rfl (hI.no 12 9 rfl (hI.no 9 8 rfl rfl)))
      conv => whnf
      refine .inl ?_
      conv => whnf
      exact ⟨(),⟨.refl _,.refl _,.refl _,.refl _,.refl _,.refl _,.refl _,.refl _,.refl _,.refl _,.refl _,.refl _,.refl _,.refl _,.refl _,.refl _,.refl _,.refl _,.refl _,trivial⟩,fun k o h => h⟩
     refine ⟨fun _ f hI => ?_,?_⟩
     ·obtain ⟨f,rfl⟩:=off f 14 (hI.no 14 12 rfl (hI.no 12 9 rfl rfl))
      conv => whnf
      refine .inl ?_
      conv => whnf
      exact ⟨(),⟨.refl _,.refl _,.refl _,.refl _,.refl _,.refl _,.refl _,.refl _,.refl _,.refl _,.refl _,.refl _,.refl _,.refl _,.refl _,.refl _,.refl _,.refl _,.refl _,trivial⟩,fun k o h => h⟩
     refine ⟨fun _ f hI => ?_,?_⟩
     ·obtain ⟨f,rfl⟩:=off f 14 (hI.no 14 12 rfl (hI.no 12 10 rfl rfl))
      conv => whnf
      refine ⟨_,_,rfl,rfl,.inr ⟨rfl,?_⟩⟩
      exact ⟨(),⟨.refl _,.refl _,.refl _,.refl _,.refl _,.refl _,.refl _,.refl _,.refl _,.refl _,.refl _,.refl _,.refl _,.refl _,.any _,.refl _,.refl _,.refl _,.refl _,trivial⟩,fun k o h => h⟩
     refine ⟨fun _ f hI => ?_,?_⟩
     ·obtain ⟨f,rfl⟩:=off f 14 (hI.no 14 12 rfl (hI.no 12 11 rfl rfl))
      conv => whnf
      refine ⟨_,_,rfl,rfl,.inr ⟨rfl,?_⟩⟩
      exact ⟨(),⟨.refl _,.refl _,.refl _,.refl _,.refl _,.refl _,.refl _,.refl _,.refl _,.refl _,.refl _,.refl _,.refl _,.refl _,.refl _,.any _,.refl _,.refl _,.refl _,trivial⟩,fun k o h => h⟩
     refine ⟨fun _ f hI => ?_,?_⟩
     ·obtain ⟨f,rfl⟩:=off f 14 (hI.no 14 12 rfl rfl)
      conv => whnf
      refine ⟨_,_,rfl,rfl,.inr ⟨rfl,?_⟩⟩
      exact ⟨(),⟨.refl _,.refl _,.refl _,.refl _,.refl _,.refl _,.refl _,.refl _,.refl _,.refl _,.refl _,.refl _,.refl _,.refl _,.refl _,.refl _,DLe.skipped,.refl _,.refl _,trivial⟩,fun k o h => h⟩
     refine ⟨fun _ f hI => ?_,?_⟩
     ·conv => whnf
      refine .inl ?_
      conv => whnf
      refine ⟨(fun _ h => by cases h),?_⟩
      conv => whnf
      exact ⟨(),⟨.refl _,.refl _,.refl _,.refl _,.refl _,.refl _,.refl _,.refl _,.refl _,.refl _,.refl _,.refl _,.refl _,.refl _,.refl _,.refl _,.refl _,.refl _,.refl _,trivial⟩,fun k o h => h⟩
     refine ⟨fun _ f hI => ?_,?_⟩
     ·conv => whnf
      refine .inl ?_
      conv => whnf
      refine ⟨rfl,?_⟩
      conv => whnf
      exact ⟨(),⟨.refl _,.refl _,.refl _,.refl _,.refl _,.refl _,.refl _,.refl _,.refl _,.refl _,.refl _,.refl _,.refl _,.refl _,.refl _,.refl _,.refl _,.refl _,.refl _,trivial⟩,SubHF.of (hs:=[(3,.box b3 (encTop n).cells),(6,.box b6 (nW n items p i w)),(8,.box b8 (nW n items p i w)),(1000,.own w (encR items p n.kids i).length 12 25)]) ⟨rfl,rfl,rfl,rfl,trivial⟩⟩
     refine ⟨fun _ f hI => ?_,?_⟩
     ·conv => whnf
      refine .inl ?_
      conv => whnf
      exact ⟨(),⟨.refl _,.refl _,.refl _,.refl _,.refl _,.refl _,.refl _,.refl _,.refl _,.refl _,.refl _,.refl _,.refl _,.refl _,.refl _,.refl _,.refl _,.refl _,.refl _,trivial⟩,fun k o h => h⟩
     exact trivial
    ·intro _ f hfl
     conv => whnf
     refine Tri.forgetG [(6,.box 6 b6 0),(7,.bool true)] (look [(6,.box b6 (nW n items p i w))]) (.same ⟨.refl _,?_,trivial⟩ (SubHF.of ⟨?_,trivial⟩)) ?_
     ·show DLe (bif f 15 then _ else _) _
      rw [hfl 15 (by decide +kernel)]; exact .refl _
     ·show some (HObj.box b6 (bif f 14 then _ else _)) = _
      rw [hfl 14 (by decide +kernel)]; rfl
     refine Tri.ret ?_
     conv => whnf
     refine ⟨rfl,?_⟩
     conv => whnf
     rw [hR,refV_eq]
     exact ⟨DLe.agg (a:=(nW n items p i w)) (a':=[.str n.name,.int .i64 n.kind,.str n.text,.str n.target,.int .i64 n.n1,.int .i64 n.n2,.int .i64 n.n3,.int .i64 n.n4,.int .i64 n.n5,.int .i64 n.n6,.sl .none 12 ((refL items p n.kids).map enc),.sl .none 2 (n.streams.map encS)]) ⟨.refl _,.refl _,.refl _,.refl _,.refl _,.refl _,.refl _,.refl _,.refl _,.refl _,DLe.trans (DLe.of_eq (congrArg (D.sl (.own 1000 w) 12) he)) DLe.unown,.refl _,trivial⟩,.refl _,trivial⟩
   ·have hk : decide ((0 : Int) < (((encR items p n.kids i).length : Nat) : Int)) = false:=decide_eq_false (by omega)
    have hR : refB items p n = hasP items p:=by rw [hRB,decide_eq_false hk0,decide_eq_false h0]; rfl
    refine Tri.bitsU ti_ok mixed (α:=Unit) (fun _ f => [(1,.str p),(2,.sl .none 1 (strs items)),(6,.box 6 b6 0),(8,.box 8 b8 0),(46,bif f 0 then (.agg (nW n items p i w)) else .any),(47,bif f 1 then .str p else .any),(48,bif f 2 then .bool false else .any),(49,bif f 3 then .bool false else .any),(50,bif f 4 then .box 8 b8 10 else .any),(51,bif f 5 then .sl (.own 1000 w) 12 (encR items p n.kids i) else .any),(52,bif f 6 then .int .i64 (encR items p n.kids i).length else .any),(53,bif f 7 then .bool false else .any),(54,bif f 8 then .bool false else .any),(55,bif f 9 then .bool false else .any),(56,bif f 10 then .sl .none 1 (strs items) else .any),(57,bif f 11 then .str p else .any),(58,bif f 12 then .bool (hasP items p) else .any),(59,bif f 13 then .bool (hasP items p) else .any),(7,bif f 15 then .bool (hasP items p) else .bool false)])
     (fun _ f => look [(3,.box b3 (encTop n).cells),(6,.box b6 (bif f 14 then (nW n items p i w) else zN)),(8,.box b8 (nW n items p i w)),(1000,.own w (encR items p n.kids i).length 12 25)]) (by decide +kernel) () ?_ ?_ ?_ ?_
    ·exact ⟨.refl _,.refl _,.refl _,.refl _,.any _,.any _,.any _,.any _,.any _,.any _,.any _,.any _,.any _,.any _,.any _,.any _,.any _,.any _,.refl _,trivial⟩
    ·exact SubHF.of (hs:=[(3,.box b3 (encTop n).cells),(6,.box b6 zN),(8,.box b8 (nW n items p i w)),(1000,.own w (encR items p n.kids i).length 12 25)]) ⟨rfl,rfl,rfl,rfl,trivial⟩
    ·conv => whnf
     refine ⟨fun _ f hI => ?_,?_⟩
     ·obtain ⟨f,rfl⟩:=off f 14 (hI.no 14 0 rfl rfl)
      conv => whnf
      refine .inl ?_
      conv => whnf
      refine ⟨rfl,?_⟩
      conv => whnf
      exact ⟨(),⟨.refl _,.refl _,.refl _,.refl _,.refl _,.refl _,.refl _,.refl _,.refl _,.refl _,.refl _,.refl _,.refl _,.refl _,.refl _,.refl _,.refl _,.refl _,.refl _,trivial⟩,fun k o h => h⟩
     refine ⟨fun _ f hI => ?_,?_⟩
     ·obtain ⟨f,rfl⟩:=off f 14 (hI.no 14 12 rfl (hI.no 12 9 rfl (hI.no 9 3 rfl (hI.no 3 2 rfl (hI.no 2 1 rfl rfl)))))
      conv => whnf
      refine .inl ?_
      conv => whnf
      exact ⟨(),⟨.refl _,.refl _,.refl _,.refl _,.refl _,.refl _,.refl _,.refl _,.refl _,.refl _,.refl _,.refl _,.refl _,.refl _,.refl _,.refl _,.refl _,.refl _,.refl _,trivial⟩,fun k o h => h⟩
     refine ⟨fun _ f hI => ?_,?_⟩
     ·obtain ⟨f,rfl⟩:=off f 14 (hI.no 14 12 rfl (hI.no 12 9 rfl (hI.no 9 3 rfl (hI.no 3 2 rfl rfl))))
      conv => whnf
      refine .inl ?_
      conv => whnf
      exact ⟨(),⟨.refl _,.refl _,.refl _,.refl _,.refl _,.refl _,DLe.of_eq (congrArg D.bool hp),.refl _,.refl _,.refl _,.refl _,.refl _,.refl _,.refl _,.refl _,.refl _,.refl _,.refl _,.refl _,trivial⟩,fun k o h => h⟩
     refine ⟨fun _ f hI => ?_,?_⟩
     ·obtain ⟨f,rfl⟩:=off f 14 (hI.no 14 12 rfl (hI.no 12 9 rfl (hI.no 9 3 rfl rfl)))
      conv => whnf
      refine .inl ?_
      conv => whnf
      exact ⟨(),⟨.refl _,.refl _,.refl _,.refl _,.refl _,.refl _,.refl _,.refl _,.refl _,.refl _,.refl _,.refl _,.refl _,.refl _,.refl _,.refl _,.refl _,.refl _,.refl _,trivial⟩,fun k o h => h⟩
     refine ⟨fun _ f hI => ?_,?_⟩
     ·obtain ⟨f,rfl⟩:=off f 14 (hI.no 14 12 rfl (hI.no 12 9 rfl (hI.no 9 8 rfl (hI.no 8 7 rfl (hI.no 7 6 rfl (hI.no 6 5 rfl (hI.no 5 4 rfl rfl)))))))
      conv => whnf
      refine ⟨_,_,rfl,rfl,.inl ⟨rfl,.inl ?_⟩⟩
      conv => whnf
      exact ⟨(),⟨.refl _,.refl _,.refl _,.refl _,.refl _,.refl _,.refl _,.refl _,.refl _,.refl _,.refl _,.refl _,.refl _,.refl _,.refl _,.refl _,.refl _,.refl _,.refl _,trivial⟩,fun k o h => h⟩
     refine ⟨fun _ f hI => ?_,?_⟩
     ·obtain ⟨f,rfl⟩:=off f 14 (hI.no 14 12 rfl (hI.no 12 9 rfl (hI.no 9 8 rfl (hI.no 8 7 rfl (hI.no 7 6 rfl (hI.no 6 5 rfl rfl))))))
      conv => whnf
      refine ⟨_,_,rfl,rfl,.inl ⟨rfl,.inl ?_⟩⟩
      conv => whnf
      refine ⟨rfl,?_⟩
      conv => whnf
      exact ⟨(),⟨.refl _,.refl _,.refl _,.refl _,.refl _,.refl _,.refl _,.refl _,.refl _,.refl _,.refl _,.refl _,.refl _,.refl _,.refl _,.refl _,.refl _,.refl _,.refl _,trivial⟩,fun k o h => h⟩
     refine ⟨fun _ f hI => ?_,?_⟩
     ·obtain ⟨f,rfl⟩:=off f 14 (hI.no 14 12 rfl (hI.no 12 9 rfl (hI.no 9 8 rfl (hI.no 8 7 rfl (hI.no 7 6 rfl rfl)))))
      conv => whnf
      refine ⟨_,_,rfl,rfl,.inl ⟨rfl,.inl ?_⟩⟩
      conv => whnf
      exact ⟨(),⟨.refl _,.refl _,.refl _,.refl _,.refl _,.refl _,.refl _,.refl _,.refl _,.refl _,.refl _,.refl _,.refl _,.refl _,.refl _,.refl _,.refl _,.refl _,.refl _,trivial⟩,fun k o h => h⟩
     refine ⟨fun _ f hI => ?_,?_⟩
     ·obtain ⟨f,rfl⟩:=off f 14 (hI.no 14 12 rfl (hI.no 12 9 rfl (hI.no 9 8 rfl (hI.no 8 7 rfl rfl))))
      conv => whnf
      refine ⟨_,_,rfl,rfl,.inl ⟨rfl,.inl ?_⟩⟩
      conv => whnf
      exact ⟨(),⟨.refl _,.refl _,.refl _,.refl _,.refl _,.refl _,.refl _,.refl _,.refl _,.refl _,.refl _,DLe.of_eq (congrArg D.bool hk),.refl _,.refl _,.refl _,.refl _,.refl _,.refl _,.refl _,trivial⟩,fun k o h => h⟩
     refine ⟨fun _ f hI => ?_,?_⟩
     ·obtain ⟨f,rfl⟩:=off f 14 (hI.no 14 12 rfl (hI.no 12 9 rfl (hI.no 9 8 rfl rfl)))
      conv => whnf
      refine .inl ?_
      conv => whnf
      exact ⟨(),⟨.refl _,.refl _,.refl _,.refl _,.refl _,.refl _,.refl _,.refl _,.refl _,.refl _,.refl _,.refl _,.refl _,.refl _,.refl _,.refl _,.refl _,.refl _,.refl _,trivial⟩,fun k o h => h⟩
     refine ⟨fun _ f hI => ?_,?_⟩
     ·obtain ⟨f,rfl⟩:=off f 14 (hI.no 14 12 rfl (hI.no 12 9 rfl rfl))
      conv => whnf
      refine .inl ?_
      conv => whnf
      exact ⟨(),⟨.refl _,.refl _,.refl _,.refl _,.refl _,.refl _,.refl _,.refl _,.refl _,.refl _,.refl _,.refl _,.refl _,.refl _,.refl _,.refl _,.refl _,.refl _,.refl _,trivial⟩,fun k o h => h⟩
     refine ⟨fun _ f hI => ?_,?_⟩
     ·obtain ⟨f,rfl⟩:=off f 14 (hI.no 14 12 rfl (hI.no 12 10 rfl rfl))
      conv => whnf
      refine ⟨_,_,rfl,rfl,.inl ⟨rfl,.inl ?_⟩⟩
      conv => whnf
      exact ⟨(),⟨.refl _,.refl _,.refl _,.refl _,.refl _,.refl _,.refl _,.refl _,.refl _,.refl _,.refl _,.refl _,.refl _,.refl _,.refl _,.refl _,.refl _,.refl _,.refl _,trivial⟩,fun k o h => h⟩
     refine ⟨fun _ f hI => ?_,?_⟩
     ·obtain ⟨f,rfl⟩:=off f 14 (hI.no 14 12 rfl (hI.no 12 11 rfl rfl))
      conv => whnf
      refine ⟨_,_,rfl,rfl,.inl ⟨rfl,.inl ?_⟩⟩
      conv => whnf
      exact ⟨(),⟨.refl _,.refl _,.refl _,.refl _,.refl _,.refl _,.refl _,.refl _,.refl _,.refl _,.refl _,.refl _,.refl _,.refl _,.refl _,.refl _,.refl _,.refl _,.refl _,trivial⟩,fun k o h => h⟩
     refine ⟨fun _ f hI => ?_,?_⟩
     ·obtain ⟨f,rfl⟩:=off f 14 (hI.no 14 12 rfl rfl)
      conv => whnf
      refine ⟨_,_,rfl,rfl,.inl ⟨rfl,.inl ?_⟩⟩
      conv => whnf
      refine ⟨[.sl .none 1 (strs items),.str p],_,fun _ => K32 items p hil,⟨.refl _,.refl _,trivial⟩,?_⟩
      conv => whnf
      exact ⟨(),⟨.refl _,.refl _,.refl _,.refl _,.refl _,.refl _,.refl _,.refl _,.refl _,.refl _,.refl _,.refl _,.refl _,.refl _,.refl _,.refl _,.refl _,.refl _,.refl _,trivial⟩,fun k o h => h⟩
     refine ⟨fun _ f hI => ?_,?_⟩
     ·conv => whnf
      refine .inl ?_
      conv => whnf
      exact ⟨(),⟨.refl _,.refl _,.refl _,.refl _,.refl _,.refl _,.refl _,.refl _,.refl _,.refl _,.refl _,.refl _,.refl _,.refl _,.refl _,.refl _,.refl _,.refl _,.refl _,trivial⟩,fun k o h => h⟩
     refine ⟨fun _ f hI => ?_,?_⟩
     ·conv => whnf
      refine .inl ?_
      conv => whnf
      refine ⟨rfl,?_⟩
      conv => whnf
      exact ⟨(),⟨.refl _,.refl _,.refl _,.refl _,.refl _,.refl _,.refl _,.refl _,.refl _,.refl _,.refl _,.refl _,.refl _,.refl _,.refl _,.refl _,.refl _,.refl _,.refl _,trivial⟩,SubHF.of (hs:=[(3,.box b3 (encTop n).cells),(6,.box b6 (nW n items p i w)),(8,.box b8 (nW n items p i w)),(1000,.own w (encR items p n.kids i).length 12 25)]) ⟨rfl,rfl,rfl,rfl,trivial⟩⟩
     refine ⟨fun _ f hI => ?_,?_⟩
     ·conv => whnf
      refine .inl ?_
      conv => whnf
      exact ⟨(),⟨.refl _,.refl _,.refl _,.refl _,.refl _,.refl _,.refl _,.refl _,.refl _,.refl _,.refl _,.refl _,.refl _,.refl _,.refl _,.refl _,.refl _,.refl _,.refl _,trivial⟩,fun k o h => h⟩
     exact trivial
    ·intro _ f hfl
     conv => whnf
     refine Tri.forgetG [(6,.box 6 b6 0),(7,.bool (hasP items p))] (look [(6,.box b6 (nW n items p i w))]) (.same ⟨.refl _,?_,trivial⟩ (SubHF.of ⟨?_,trivial⟩)) ?_
     ·show DLe (bif f 15 then _ else _) _
      rw [hfl 15 (by decide +kernel)]; exact .refl _
     ·show some (HObj.box b6 (bif f 14 then _ else _)) = _
      rw [hfl 14 (by decide +kernel)]; rfl
     refine Tri.ret ?_
     conv => whnf
     refine ⟨rfl,?_⟩
     conv => whnf
     rw [hR,refV_eq]
     exact ⟨DLe.agg (a:=(nW n items p i w)) (a':=[.str n.name,.int .i64 n.kind,.str n.text,.str n.target,.int .i64 n.n1,.int .i64 n.n2,.int .i64 n.n3,.int .i64 n.n4,.int .i64 n.n5,.int .i64 n.n6,.sl .none 12 ((refL items p n.kids).map enc),.sl .none 2 (n.streams.map encS)]) ⟨.refl _,.refl _,.refl _,.refl _,.refl _,.refl _,.refl _,.refl _,.refl _,.refl _,DLe.trans (DLe.of_eq (congrArg (D.sl (.own 1000 w) 12) he)) DLe.unown,.refl _,trivial⟩,.refl _,trivial⟩
end Go.Tame.V
/- The paths that a part needs: those of its items and all above them. Plain. -/
namespace Go.Tame.V
open Go Go.Proofs
set_option maxRecDepth 10000
set_option linter.unusedVariables false
set_option linter.unusedSimpArgs false

/-- The texts ahead of the slashes of p up to place j,put ahead of others. -/
def innerK (ks : List (List UInt8)) (p : List UInt8) : Nat → List (List UInt8)
 | 0 => ks
 | j + 1 => if p.getD j 0 = 47 then p.take j::innerK ks p j else innerK ks p j
def outerK (items : List (List UInt8)) : Nat → List (List UInt8)
 | 0 => []
 | i + 1 => innerK (items.getD i []::outerK items i) (items.getD i []) (items.getD i []).length
theorem mem_innerK (ks : List (List UInt8)) (p s : List UInt8) : ∀ m,s ∈ innerK ks p m ↔ s ∈ ks ∨ ∃ j,j < m ∧ p.getD j 0 = 47 ∧ s = p.take j
 | 0 => by simp [innerK]
 | m + 1 => by
  have ih:=mem_innerK ks p s m
  simp only [innerK]
  by_cases h : p.getD m 0 = 47
  ·rw [if_pos h,List.mem_cons,ih]
   constructor
   ·rintro (h1 | h1 | ⟨j,h1,h2,h3⟩)
    ·exact .inr ⟨m,by omega,h,h1⟩
    ·exact .inl h1
    ·exact .inr ⟨j,by omega,h2,h3⟩
   ·rintro (h1 | ⟨j,h1,h2,h3⟩)
    ·exact .inr (.inl h1)
    ·by_cases e : j = m
     ·subst e; exact .inl h3
     ·exact .inr (.inr ⟨j,by omega,h2,h3⟩)
  ·rw [if_neg h,ih]
   constructor
   ·rintro (h1 | ⟨j,h1,h2,h3⟩)
    ·exact .inl h1
    ·exact .inr ⟨j,by omega,h2,h3⟩
   ·rintro (h1 | ⟨j,h1,h2,h3⟩)
    ·exact .inl h1
    ·by_cases e : j = m
     ·subst e; exact absurd h2 h
     ·exact .inr ⟨j,by omega,h2,h3⟩
theorem mem_outerK (items : List (List UInt8)) (s : List UInt8) : ∀ m,s ∈ outerK items m ↔ ∃ i,i < m ∧ (s = items.getD i [] ∨ ∃ j,j < (items.getD i []).length ∧ (items.getD i []).getD j 0 = 47 ∧ s = (items.getD i []).take j)
 | 0 => by simp [outerK]
 | m + 1 => by
  have ih:=mem_outerK items s m
  simp only [outerK,mem_innerK,List.mem_cons,ih]
  constructor
  ·rintro ((h1 | ⟨i,h1,h2⟩) | ⟨j,h1,h2,h3⟩)
   ·exact ⟨m,by omega,.inl h1⟩
   ·exact ⟨i,by omega,h2⟩
   ·exact ⟨m,by omega,.inr ⟨j,h1,h2,h3⟩⟩
  ·rintro ⟨i,h1,h2⟩
   by_cases e : i = m
   ·subst e
    rcases h2 with h2 | ⟨j,h3,h4,h5⟩
    ·exact .inl (.inl h2)
    ·exact .inr ⟨j,h3,h4,h5⟩
   ·exact .inl (.inr ⟨i,by omega,h2⟩)
theorem splitG_app {c : UInt8} : ∀ (a p b : List UInt8),splitG c p (a ++ c::b) = splitG c p a ++ splitG c [] b
 | [],p,b => by simp [splitG]
 | x::a,p,b => by
  simp only [List.cons_append,splitG]
  split
  ·rw [splitG_app a [] b]; rfl
  ·exact splitG_app a _ b
theorem tailF_app (r s : List (List UInt8)) : tailF (r ++ s) = tailF r ++ tailF s:=by simp [tailF]
theorem joinF_app {r : List (List UInt8)} (h : r ≠ []) (s : List (List UInt8)) : joinF (r ++ s) = joinF r ++ tailF s:=by
 cases r with
 | nil => exact absurd rfl h
 | cons m r => simp only [List.cons_append,joinF,tailF_app,List.append_assoc]
/-- A path stands ahead of a slash of another one exactly where it is the beginning of it. -/
theorem slash_pre {q r : List (List UInt8)} (hq : okP q) (hr : okP r) (h0 : r ≠ []) : (joinF r = joinF q ∨ ∃ j,j < (joinF q).length ∧ (joinF q).getD j 0 = 47 ∧ joinF r = (joinF q).take j) ↔ r <+: q:=by
 constructor
 ·rintro (h | ⟨j,h1,h2,h3⟩)
  ·rw [joinF_inj hr hq h]; exact List.prefix_refl _
  ·have hj : (joinF q)[j] = 47:=by rw [List.getD_eq_getElem?_getD,List.getElem?_eq_getElem h1] at h2; simpa using h2
   have e : joinF q = joinF r ++ 47::(joinF q).drop (j + 1):=by
    rw [h3,← hj,List.getElem_cons_drop,List.take_append_drop]
   have hq0 : q ≠ []:=fun e => by rw [e] at h1; simp [joinF] at h1
   have e2:=congrArg (splitG 47 []) e
   rw [split_join hq hq0,splitG_app,split_join hr h0] at e2
   exact ⟨_,e2.symm⟩
 ·rintro ⟨t,rfl⟩
  cases t with
  | nil => left; rw [List.append_nil]
  | cons m t =>
   right
   have e : joinF (r ++ m::t) = joinF r ++ 47::(m ++ tailF t):=by rw [joinF_app h0]; simp [tailF]
   refine ⟨(joinF r).length,by rw [e]; simp,?_,by rw [e,List.take_left' rfl]⟩
   rw [e,List.getD_eq_getElem?_getD,List.getElem?_append_right (Nat.le_refl _),Nat.sub_self]; rfl
theorem unjoin {n : NV} : ∀ {items : List (List UInt8)} (_ : ∀ p ∈ items,∃ q ∈ pathsN n,joinF q = p),∃ P : List (List (List UInt8)),items = P.map joinF ∧ ∀ q ∈ P,q ∈ pathsN n
 | [],_ => ⟨[],rfl,fun q hq => by cases hq⟩
 | p::r,h => by
  obtain ⟨P,h1,h2⟩:=unjoin (items:=r) fun p hp => h p (List.mem_cons_of_mem _ hp)
  obtain ⟨q,h3,h4⟩:=h p List.mem_cons_self
  exact ⟨q::P,by rw [List.map_cons,h4,h1],fun x hx => by
   rcases List.mem_cons.1 hx with rfl | hx
   ·exact h3
   ·exact h2 x hx⟩
/-- The part of a tree,by its items. -/
theorem part_law {n : NV} (hv : valid n = true) {items : List (List UInt8)} (h : ∀ p ∈ items,p ∈ itemsV n) : partV (fun s => decide (s ∈ outerK items items.length)) [] n = refV items [] n:=by
 have ht:=valid_okT hv
 obtain ⟨P,hI,hP⟩:=unjoin (n:=n) (items:=items) fun p hp => by
  have h1:=h p hp
  rw [itemsV,if_pos hv] at h1
  have h2:=(List.mem_filter.1 h1).1
  rw [pathsS_top] at h2
  obtain ⟨q,hq,e⟩:=List.mem_map.1 h2
  exact ⟨q,hq,e⟩
 have hok : ∀ q ∈ P,okP q:=fun q hq => path_ok q n ht (hP q hq)
 have:=part_ref hok hI (need:=fun s => decide (s ∈ outerK items items.length)) (fun r hr h0 => by
  rw [Bool.eq_iff_iff,decide_eq_true_iff,needN_iff,mem_outerK]
  have hget : ∀ i,i < items.length → ∃ q ∈ P,items.getD i [] = joinF q:=fun i hi => by
   have hm : items.getD i [] ∈ items:=by rw [List.getD_eq_getElem?_getD,List.getElem?_eq_getElem hi]; exact List.getElem_mem hi
   rw [hI] at hm
   obtain ⟨q,hq,e⟩:=List.mem_map.1 hm
   rw [← hI] at e
   exact ⟨q,hq,e.symm⟩
  constructor
  ·rintro ⟨i,hi,hh⟩
   obtain ⟨q,hq,e⟩:=hget i hi
   rw [e] at hh
   exact ⟨q,hq,(slash_pre (hok q hq) hr h0).1 hh⟩
  ·rintro ⟨q,hq,hpre⟩
   have hm : joinF q ∈ items:=by rw [hI]; exact List.mem_map_of_mem hq
   obtain ⟨i,hi,e⟩:=List.mem_iff_getElem.1 hm
   refine ⟨i,hi,?_⟩
   have e2 : items.getD i [] = joinF q:=by rw [List.getD_eq_getElem?_getD,List.getElem?_eq_getElem hi,e]; rfl
   rw [e2]
   exact (slash_pre (hok q hq) hr h0).2 hpre) (sz n + 1) n [] [] (by omega) ht (fun m hm => by cases hm) (by simp) (fun q hq _ => ⟨q,hP q hq,rfl⟩)
 exact this.1
def partR (n : NV) (items : List (List UInt8)) : NV × Int :=
 if valid n = true then (if items.all (hasP (itemsV n)) = true then (refV items [] n,0) else (zeroN,6)) else (zeroN,1)
theorem hasP_mem {l : List (List UInt8)} {p : List UInt8} : hasP l p = true ↔ p ∈ l:=by
 rw [hasP,List.any_eq_true]
 constructor
 ·rintro ⟨x,hx,e⟩
  have : p = x:=by simpa using e
  rw [this]; exact hx
 ·intro h; exact ⟨p,h,by simp⟩
end Go.Tame.V
/- Contracts: Part,of the program and of the reference; the law DiscsetParts,given its example. By program (mk.py). -/
namespace Go.Tame.V
open Go Go.Proofs
variable {W0 : World}
set_option maxRecDepth 10000
set_option linter.unusedVariables false
set_option linter.unusedSimpArgs false

theorem K9 (n : NV) (items : List (List UInt8)) (hn : Fits n) (hil : items.length < 1000000000) : DFun Tryz.prog W0 9 [encTop n,.sl .none 1 (strs items)] (.tup [encTop (partR n items).1,.int .i64 (partR n items).2]):=by
 refine DFun.intro ti_ok Tryz.func9 rfl (by decide +kernel) Tryz.ntmps9 rfl fun Γ => ?_
 refine Tri.seq ?_
 refine Tri.region ti_ok ?_
 conv => whnf
 intro b2
 conv => whnf
 intro b4
 conv => whnf
 refine Tri.seq ?_
 refine Tri.seq ?_
 refine Tri.region ti_ok ?_
 conv => whnf
 refine ⟨rfl,?_⟩
 conv => whnf
 refine ⟨[encTop n],_,fun _ => F20 n hn,⟨.refl _,trivial⟩,?_⟩
 conv => whnf
 refine Tri.cond _ rfl (fun hc => ?_) (fun hc => ?_)
 ·refine Tri.seq ?_
  refine Tri.region ti_ok ?_
  conv => whnf
  refine ⟨rfl,?_⟩
  conv => whnf
  refine Tri.ret ?_
  conv => whnf
  have hv : valid n = false:=by simpa using hc
  rw [partR,if_neg (by rw [hv]; simp)]
  refine ⟨rfl,?_⟩
  conv => whnf
  exact ⟨zeroD,.refl _,trivial⟩
 ·have hv : valid n = true:=by simpa using hc
  refine Tri.skip ?_
  conv => whnf
  refine Tri.seq ?_
  refine Tri.region ti_ok ?_
  conv => whnf
  refine ⟨rfl,?_⟩
  conv => whnf
  refine ⟨[encTop n],_,fun _ => K12 n hn,⟨.refl _,trivial⟩,?_⟩
  conv => whnf
  refine Tri.seq ?_
  refine Tri.seq ?_
  refine Tri.region ti_ok ?_
  conv => whnf
  refine Tri.block ?_
  refine Tri.loop (α:={ i : Nat // i ≤ items.length ∧ ∀ j (h : j < items.length),j < i → hasP (itemsV n) items[j] = true }) (fun x => [(1,.sl .none 1 (strs items)),(2,.box 2 b2 0),(4,.box 4 b4 0),(5,.int .i64 0),(6,.sl .none 1 (strs (itemsV n))),(7,.int .i64 x.1)]) (fun _ => [(2,.box b2 (encTop n).cells),(4,.box b4 [.str [],.int .i64 0,.str [],.str [],.int .i64 0,.int .i64 0,.int .i64 0,.int .i64 0,.int .i64 0,.int .i64 0,.nils,.nils])]) (fun x => items.length - x.1) ⟨0,by simp⟩ ⟨.refl _,.refl _,.refl _,.refl _,.refl _,.refl _,trivial⟩ ⟨rfl,rfl,trivial⟩ ?_
  rintro ⟨i,hi,hp⟩
  dsimp only
  refine Tri.seq ?_
  refine Tri.seq ?_
  refine Tri.region ti_ok ?_
  conv => whnf
  refine Tri.cond (decide ((i : Int) < (strs items).length)) rfl (fun hc => ?_) (fun hc => ?_)
  ·have hia : i < items.length:=by simpa [strs] using hc
   refine Tri.skip ?_
   conv => whnf
   refine Tri.seq ?_
   refine Tri.block ?_
   refine Tri.seq ?_
   refine Tri.region ti_ok ?_
   conv => whnf
   refine ⟨fun _ => by simp [strs]; omega,?_⟩
   conv => whnf
   refine ⟨.str items[i],fun _ => by simp [strs,hia],?_⟩
   conv => whnf
   refine ⟨[.sl .none 1 (strs (itemsV n)),.str items[i]],_,fun _ => K32 _ _ (itemsV_len hn),⟨.refl _,.refl _,trivial⟩,?_⟩
   conv => whnf
   refine Tri.cond (!(hasP (itemsV n) items[i])) rfl (fun hc2 => ?_) (fun hc2 => ?_)
   ·refine Tri.seq ?_
    refine Tri.region ti_ok ?_
    conv => whnf
    refine ⟨rfl,?_⟩
    conv => whnf
    refine Tri.ret ?_
    conv => whnf
    have hx : items.all (hasP (itemsV n)) = false:=by
     rw [List.all_eq_false]
     exact ⟨items[i],List.getElem_mem hia,by simpa using hc2⟩
    rw [partR,if_pos hv,if_neg (by rw [hx]; simp)]
    refine ⟨rfl,?_⟩
    conv => whnf
    exact ⟨zeroD,.refl _,trivial⟩
   ·refine Tri.skip ?_
    conv => whnf
    refine Tri.region ti_ok ?_
    conv => whnf
    refine .inl ⟨fun _ => by simp [InR]; omega,?_⟩
    conv => whnf
    exact ⟨⟨i + 1,by omega,fun j hj hlt => (Nat.lt_succ_iff_lt_or_eq.1 hlt).elim (hp j hj) fun e => by subst e; simpa using hc2⟩,by show _ - (i + 1) < _ - i; omega,⟨.refl _,.refl _,.refl _,.refl _,.refl _,.refl _,trivial⟩,rfl,rfl,trivial⟩
  ·have hall : items.all (hasP (itemsV n)) = true:=by
    rw [List.all_eq_true]
    intro x hx
    obtain ⟨j,hj,rfl⟩:=List.mem_iff_getElem.1 hx
    exact hp j hj (by simp [strs] at hc; omega)
   refine Tri.exit ?_
   conv => whnf
   refine Tri.seq ?_
   refine Tri.region ti_ok ?_
   conv => whnf
   refine ⟨rfl,?_⟩
   conv => whnf
   refine ⟨[encTop n,.str [],.sl .none 1 (strs items)],_,fun _ => K33 items hil (sz n + 1) n [] (by omega) (by unfold Fits at hn; simp; omega),⟨.refl _,.refl _,.refl _,trivial⟩,?_⟩
   conv => whnf
   intro b8
   conv => whnf
   refine ⟨rfl,?_⟩
   conv => whnf
   refine Tri.seq ?_
   refine Tri.region ti_ok ?_
   conv => whnf
   refine ⟨rfl,?_⟩
   conv => whnf
   refine ⟨rfl,?_⟩
   conv => whnf
   refine Tri.ret ?_
   conv => whnf
   rw [partR,if_pos hv,if_pos hall]
   refine ⟨rfl,?_⟩
   conv => whnf
   exact ⟨.refl _,.refl _,trivial⟩

theorem innerK_next (ks : List (List UInt8)) (p : List UInt8) (j : Nat) : innerK ks p (j + 1) = if p.getD j 0 = 47 then p.take j::innerK ks p j else innerK ks p j:=rfl
theorem outerK_next {items : List (List UInt8)} {i : Nat} (h : i < items.length) : outerK items (i + 1) = innerK (items[i]::outerK items i) items[i] items[i].length:=by
 have e : items.getD i [] = items[i]:=by rw [List.getD_eq_getElem?_getD,List.getElem?_eq_getElem h]; rfl
 simp only [outerK,e]
theorem K8 (hL : LibOk W0) (n : NV) (items : List (List UInt8)) (hn : Fits n) (hil : items.length < 1000000000) : DFun Tryz.prog W0 8 [encTop n,.sl .none 1 (strs items)] (.tup [encTop (partR n items).1,.int .i64 (partR n items).2]):=by
 refine DFun.intro ti_ok Tryz.func8 rfl (by decide +kernel) Tryz.ntmps8 rfl fun Γ => ?_
 refine Tri.seq ?_
 refine Tri.region ti_ok ?_
 conv => whnf
 intro b2
 conv => whnf
 intro b4
 conv => whnf
 refine Tri.seq ?_
 refine Tri.seq ?_
 refine Tri.region ti_ok ?_
 conv => whnf
 refine ⟨rfl,?_⟩
 conv => whnf
 refine ⟨[encTop n],_,fun _ => F39 hL n (by unfold Fits at hn; omega),⟨.refl _,trivial⟩,?_⟩
 conv => whnf
 refine Tri.cond _ rfl (fun hc => ?_) (fun hc => ?_)
 ·refine Tri.seq ?_
  refine Tri.region ti_ok ?_
  conv => whnf
  refine ⟨rfl,?_⟩
  conv => whnf
  refine Tri.ret ?_
  conv => whnf
  have hv : valid n = false:=by simpa using hc
  rw [partR,if_neg (by rw [hv]; simp)]
  refine ⟨rfl,?_⟩
  conv => whnf
  exact ⟨zeroD,.refl _,trivial⟩
 ·have hv : valid n = true:=by simpa using hc
  refine Tri.skip ?_
  conv => whnf
  refine Tri.seq ?_
  refine Tri.regionX ti_ok ?_
  conv => whnf
  refine .inl ?_
  conv => whnf
  refine ⟨rfl,?_⟩
  conv => whnf
  refine .inl ?_
  conv => whnf
  refine ⟨[encTop n],_,fun _ => K11 hL n hn,⟨.refl _,trivial⟩,?_⟩
  conv => whnf
  refine .inr (XOp.makeMap fun mb => ?_)
  conv => whnf
  refine Tri.seq ?_
  refine Tri.seq ?_
  refine Tri.region ti_ok ?_
  conv => whnf
  refine Tri.block ?_
  refine Tri.loop (α:={ i : Nat // i ≤ items.length ∧ ∀ j (h : j < items.length),j < i → hasP (itemsV n) items[j] = true }) (fun x => [(2,.box 2 b2 0),(4,.box 4 b4 0),(5,.int .i64 0),(6,.sl .none 1 (strs (itemsV n))),(7,.raw (.map (some mb))),(18,.sl .none 1 (strs items)),(19,.int .i64 (strs items).length),(20,.int .i64 x.1)]) (fun x => [(2,.box b2 (encTop n).cells),(4,.box b4 [.str [],.int .i64 0,.str [],.str [],.int .i64 0,.int .i64 0,.int .i64 0,.int .i64 0,.int .i64 0,.int .i64 0,.nils,.nils]),(17,.set mb (outerK items x.1))]) (fun x => items.length - x.1) ⟨0,by simp⟩ ⟨.refl _,.refl _,.refl _,.refl _,.refl _,.refl _,.refl _,.refl _,trivial⟩ ⟨rfl,rfl,rfl,trivial⟩ ?_
  rintro ⟨i,hi,hp⟩
  dsimp only
  refine Tri.seq ?_
  refine Tri.region ti_ok ?_
  conv => whnf
  refine Tri.seq ?_
  refine Tri.cond (decide ((i : Int) < (strs items).length)) rfl (fun hc => ?_) (fun hc => ?_)
  ·have hia : i < items.length:=by simpa [strs] using hc
   refine Tri.skip ?_
   conv => whnf
   refine Tri.seq ?_
   refine Tri.block ?_
   refine Tri.seq ?_
   refine Tri.region ti_ok ?_
   conv => whnf
   refine ⟨fun _ => by simp [strs]; omega,?_⟩
   conv => whnf
   refine ⟨.str items[i],fun _ => by simp [strs,hia],?_⟩
   conv => whnf
   refine Tri.seq ?_
   refine Tri.seq ?_
   refine Tri.region ti_ok ?_
   conv => whnf
   refine ⟨[.sl .none 1 (strs (itemsV n)),.str items[i]],_,fun _ => K25 (itemsV n) items[i] (itemsV_len hn),⟨.refl _,.refl _,trivial⟩,?_⟩
   conv => whnf
   refine Tri.cond (!(hasP (itemsV n) items[i])) rfl (fun hc2 => ?_) (fun hc2 => ?_)
   ·refine Tri.seq ?_
    refine Tri.region ti_ok ?_
    conv => whnf
    refine ⟨rfl,?_⟩
    conv => whnf
    refine Tri.ret ?_
    conv => whnf
    have hx : items.all (hasP (itemsV n)) = false:=by
     rw [List.all_eq_false]
     exact ⟨items[i],List.getElem_mem hia,by simpa using hc2⟩
    rw [partR,if_pos hv,if_neg (by rw [hx]; simp)]
    refine ⟨rfl,?_⟩
    conv => whnf
    exact ⟨zeroD,.refl _,trivial⟩
   ·have hpi : hasP (itemsV n) items[i] = true:=by simpa using hc2
    have hpl : items[i].length < 1000000000:=by
     have h1:=hasP_mem.1 hpi
     rw [itemsV,if_pos hv] at h1
     have h2:=pathsS_plen n [] 1 _ (List.mem_filter.1 h1).1
     unfold Fits at hn
     simp at h2; omega
    refine Tri.skip ?_
    conv => whnf
    refine Tri.seq ?_
    refine Tri.regionX ti_ok ?_
    conv => whnf
    refine .inr (XOp.setUpdate 17 (kt:=9) (et:=4) rfl rfl rfl rfl rfl rfl ?_)
    conv => whnf
    refine Tri.seq ?_
    refine Tri.region ti_ok ?_
    conv => whnf
    refine Tri.block ?_
    refine Tri.loop (α:={ j : Nat // j ≤ items[i].length }) (fun x => [(2,.box 2 b2 0),(4,.box 4 b4 0),(5,.int .i64 0),(6,.sl .none 1 (strs (itemsV n))),(7,.raw (.map (some mb))),(9,.str items[i]),(18,.sl .none 1 (strs items)),(19,.int .i64 (strs items).length),(20,.int .i64 (i : Int)),(32,.int .i64 items[i].length),(33,.int .i64 x.1)]) (fun x => [(2,.box b2 (encTop n).cells),(4,.box b4 [.str [],.int .i64 0,.str [],.str [],.int .i64 0,.int .i64 0,.int .i64 0,.int .i64 0,.int .i64 0,.int .i64 0,.nils,.nils]),(17,.set mb (innerK (items[i]::outerK items i) items[i] x.1))]) (fun x => items[i].length - x.1) ⟨0,by omega⟩ ⟨.refl _,.refl _,.refl _,.refl _,.refl _,.refl _,.refl _,.refl _,.refl _,.refl _,.refl _,trivial⟩ ⟨rfl,rfl,rfl,trivial⟩ ?_
    rintro ⟨j,hj⟩
    dsimp only
    refine Tri.seq ?_
    refine Tri.region ti_ok ?_
    conv => whnf
    refine Tri.seq ?_
    refine Tri.cond (decide ((j : Int) < items[i].length)) rfl (fun hc3 => ?_) (fun hc3 => ?_)
    ·have hja : j < items[i].length:=by simpa using hc3
     have hnx:=innerK_next (items[i]::outerK items i) items[i] j
     refine Tri.skip ?_
     conv => whnf
     refine Tri.seq ?_
     refine Tri.block ?_
     refine Tri.seq ?_
     refine Tri.region ti_ok ?_
     conv => whnf
     refine Tri.seq ?_
     refine Tri.region ti_ok ?_
     conv => whnf
     refine ⟨items[i].getD j 0,fun _ => ⟨by omega,by simp [hja]⟩,?_⟩
     conv => whnf
     refine Tri.cond _ rfl (fun hc4 => ?_) (fun hc4 => ?_)
     ·have h47 : items[i].getD j 0 = 47:=by
       have h1 : ((items[i].getD j 0).toNat : Int) = 47:=by simpa using hc4
       exact UInt8.toNat_inj.1 (show (items[i].getD j 0).toNat = 47 by omega)
      rw [if_pos h47] at hnx
      refine Tri.regionX ti_ok ?_
      conv => whnf
      refine .inl ?_
      conv => whnf
      refine ⟨fun _ => by simp; omega,?_⟩
      conv => whnf
      refine .inr (XOp.setUpdate 17 (kt:=9) (et:=4) (q:=items[i].take j) rfl rfl rfl rfl rfl rfl ?_)
      conv => whnf
      refine Tri.region ti_ok ?_
      conv => whnf
      refine .inl ⟨fun _ => by simp [InR]; omega,?_⟩
      conv => whnf
      exact ⟨⟨j + 1,hja⟩,by show _ - (j + 1) < _ - j; omega,⟨.refl _,.refl _,.refl _,.refl _,.refl _,.refl _,.refl _,.refl _,.refl _,.refl _,.refl _,trivial⟩,rfl,rfl,congrArg (fun z => some (HObj.set mb z)) hnx.symm,trivial⟩
     ·have h47 : ¬ items[i].getD j 0 = 47:=fun e => by rw [e] at hc4; exact absurd hc4 (by decide)
      rw [if_neg h47] at hnx
      refine Tri.skip ?_
      conv => whnf
      refine Tri.region ti_ok ?_
      conv => whnf
      refine .inl ⟨fun _ => by simp [InR]; omega,?_⟩
      conv => whnf
      exact ⟨⟨j + 1,hja⟩,by show _ - (j + 1) < _ - j; omega,⟨.refl _,.refl _,.refl _,.refl _,.refl _,.refl _,.refl _,.refl _,.refl _,.refl _,.refl _,trivial⟩,rfl,rfl,congrArg (fun z => some (HObj.set mb z)) hnx.symm,trivial⟩
    ·have hjn : j = items[i].length:=by simp at hc3; omega
     have hnx:=outerK_next hia
     refine Tri.exit ?_
     conv => whnf
     refine Tri.region ti_ok ?_
     conv => whnf
     refine .inl ⟨fun _ => by simp [InR]; omega,?_⟩
     conv => whnf
     exact ⟨⟨i + 1,by omega,fun k hk hlt => (Nat.lt_succ_iff_lt_or_eq.1 hlt).elim (hp k hk) fun e => by subst e; exact hpi⟩,by show _ - (i + 1) < _ - i; omega,⟨.refl _,.refl _,.refl _,.refl _,.refl _,.refl _,.refl _,.refl _,trivial⟩,rfl,rfl,congrArg (fun z => some (HObj.set mb z)) ((congrArg (innerK (items[i]::outerK items i) items[i]) hjn).trans hnx.symm),trivial⟩
  ·have hin : i = items.length:=by simp [strs] at hc; omega
   have hall : items.all (hasP (itemsV n)) = true:=by
    rw [List.all_eq_true]
    intro x hx
    obtain ⟨j,hj,rfl⟩:=List.mem_iff_getElem.1 hx
    exact hp j hj (by omega)
   have hlaw:=part_law hv (items:=items) fun p hp => hasP_mem.1 (List.all_eq_true.1 hall p hp)
   rw [← hin] at hlaw
   refine Tri.exit ?_
   conv => whnf
   refine Tri.seq ?_
   refine Tri.regionX ti_ok ?_
   conv => whnf
   refine .inl ?_
   conv => whnf
   refine ⟨rfl,?_⟩
   conv => whnf
   refine .inr (XOp.call rfl [encTop n,.str [],.raw (.map (some mb))] [(2000,17)] (DCall.heapK rfl (K30 mb (outerK items i) (sz n + 1) n [] (by omega) (by unfold Fits at hn; simp; omega))) rfl ⟨.refl _,.refl _,.refl _,trivial⟩ ?_)
   rintro d H' ⟨rfl,e⟩
   refine ⟨_,.refl _,?_⟩
   conv => whnf
   refine .inl ?_
   conv => whnf
   refine ⟨rfl,?_⟩
   conv => whnf
   refine Tri.ret ?_
   conv => whnf
   rw [partR,if_pos hv,if_pos hall]
   refine ⟨rfl,?_⟩
   conv => whnf
   exact ⟨DLe.of_eq (congrArg encTop hlaw),.refl _,trivial⟩
end Go.Tame.V
/- Contracts: the law DiscsetParts,given its example. By program (mk.py). -/
namespace Go.Tame.V
open Go Go.Proofs
variable {W0 : World}
set_option maxRecDepth 10000
set_option linter.unusedVariables false
set_option linter.unusedSimpArgs false

theorem refV_name (items : List (List UInt8)) (p : List UInt8) (n : NV) : (refV items p n).name = n.name:=by rw [refV_eq]
mutual
theorem refV_sz (items : List (List UInt8)) : ∀ (p : List UInt8) (n : NV),sz (refV items p n) ≤ sz n
 | p,.mk a b c d e f g h i j ks ss => by
  have:=refL_sz items p ks
  rw [refV_eq,sz_eq,sz_eq]
  show 2 + _ + _ + _ + szL (refL items p ks) ≤ 2 + _ + _ + _ + szL ks
  dsimp only
  omega
theorem refL_sz (items : List (List UInt8)) : ∀ (p : List UInt8) (ks : List NV),szL (refL items p ks) ≤ szL ks
 | p,[] => by simp [refL]
 | p,k::r => by
  have h1:=refV_sz items (joinQ p k.name) k
  have h2:=refL_sz items p r
  rw [refL_cons]
  split
  ·simp only [szL,refV_name]; omega
  ·simp only [szL]; omega
end
theorem partR_sz (n : NV) (items : List (List UInt8)) : sz (partR n items).1 ≤ sz n + 2:=by
 unfold partR
 split
 ·split
  ·have:=refV_sz items [] n; dsimp only; omega
  ·show sz zeroN ≤ _
   have : sz zeroN = 2:=rfl
   omega
 ·show sz zeroN ≤ _
  have : sz zeroN = 2:=rfl
  omega
theorem K3 (hL : LibOk W0) (hA : DFun Tryz.prog W0 6 [] (.bool true)) (n : NV) (items : List (List UInt8)) (m : MV) (hn : Fits n) (hil : items.length < 1000000000) (hm : m.name.length + m.set.length + m.pub.length + m.prep.length + m.app.length < 1000000000) : DFun Tryz.prog W0 3 [encTop n,.sl .none 1 (strs items),encM m] (.bool true):=by
 refine DFun.intro ti_ok Tryz.func3 rfl (by decide +kernel) Tryz.ntmps3 rfl fun Γ => ?_
 refine Tri.seq ?_
 refine Tri.region ti_ok ?_
 conv => whnf
 intro b3
 conv => whnf
 intro b5
 conv => whnf
 refine Tri.seq ?_
 refine Tri.seq ?_
 refine Tri.region ti_ok ?_
 conv => whnf
 refine ⟨[],_,fun _ => hA,trivial,?_⟩
 conv => whnf
 refine Tri.cond _ rfl (fun hc => ?_) (fun hc => ?_)
 ·exact absurd hc (by decide)
 ·refine Tri.skip ?_
  conv => whnf
  refine Tri.seq ?_
  refine Tri.seq ?_
  refine Tri.region ti_ok ?_
  conv => whnf
  refine ⟨rfl,?_⟩
  conv => whnf
  refine ⟨rfl,?_⟩
  conv => whnf
  refine ⟨[encTop n,encM m,.sl .none 1 (strs items),.sl .none 3 []],_,fun _ => K7 n m items [] hn hm,⟨.refl _,.refl _,.refl _,DLe.nil,trivial⟩,?_⟩
  conv => whnf
  refine Tri.cond _ rfl (fun hc => ?_) (fun hc => ?_)
  ·refine Tri.seq ?_
   refine Tri.region ti_ok ?_
   conv => whnf
   refine Tri.ret ?_
   conv => whnf
   exact .refl _
  ·have hb4 : m.boot.length ≤ 4:=by
    have h1 : (few1 n 100000 && (fewM m && (decide (items.length ≤ 50) && decide (([] : List D).length ≤ 50)))) = true:=by simpa using hc
    simp only [Bool.and_eq_true] at h1
    have h2:=h1.2.1
    unfold fewM at h2
    simp only [Bool.and_eq_true,decide_eq_true_eq] at h2
    exact h2.1
   have hsz:=partR_sz n items
   have hfz:=hn
   unfold Fits at hfz
   refine Tri.skip ?_
   conv => whnf
   refine Tri.seq ?_
   refine Tri.region ti_ok ?_
   conv => whnf
   refine ⟨rfl,?_⟩
   conv => whnf
   refine ⟨[encTop n,.sl .none 1 (strs items)],_,fun _ => K8 hL n items hn hil,⟨.refl _,.refl _,trivial⟩,?_⟩
   conv => whnf
   intro b7
   conv => whnf
   refine ⟨rfl,?_⟩
   conv => whnf
   refine Tri.seq ?_
   refine Tri.region ti_ok ?_
   conv => whnf
   refine ⟨rfl,?_⟩
   conv => whnf
   refine ⟨[encTop n,.sl .none 1 (strs items)],_,fun _ => K9 n items hn hil,⟨.refl _,.refl _,trivial⟩,?_⟩
   conv => whnf
   intro b9
   conv => whnf
   refine ⟨rfl,?_⟩
   conv => whnf
   refine Tri.seq ?_
   refine Tri.draw ti_ok mixed (by kernel_rfl) ?_
   conv => whnf
   refine ⟨rfl,?_⟩
   conv => whnf
   refine ⟨[encTop n],_,fun _ => K11 hL n hn,⟨.refl _,trivial⟩,?_⟩
   conv => whnf
   refine ⟨rfl,?_⟩
   conv => whnf
   refine ⟨[encTop n],_,fun _ => K12 n hn,⟨.refl _,trivial⟩,?_⟩
   conv => whnf
   refine ⟨[.sl .none 1 (strs (itemsV n)),.sl .none 1 (strs (itemsV n))],_,fun _ => F23 (itemsV n) (itemsV n) (itemsV_len hn) (itemsV_len hn),⟨.refl _,.refl _,trivial⟩,?_⟩
   conv => whnf
   refine ⟨rfl,?_⟩
   conv => whnf
   refine ⟨rfl,?_⟩
   conv => whnf
   refine ⟨fun h => h,?_⟩
   conv => whnf
   refine ⟨fun h => h,?_⟩
   conv => whnf
   refine ⟨[encTop (partR n items).1,encTop (partR n items).1],_,fun _ => F25 (sz (partR n items).1 + 1) _ _ (by omega) (by omega),⟨.refl _,.refl _,trivial⟩,?_⟩
   conv => whnf
   refine ⟨fun h0 h => by first | exact h | (rw [h]; rfl) | (rw [h0,h]; rfl),?_⟩
   conv => whnf
   refine ⟨fun h => h,?_⟩
   conv => whnf
   refine ⟨fun h => h,?_⟩
   conv => whnf
   refine ⟨fun h0 h => by first | exact h | (rw [h]; rfl) | (rw [h0,h]; rfl),?_⟩
   conv => whnf
   refine ⟨rfl,?_⟩
   conv => whnf
   refine ⟨fun h => h,?_⟩
   conv => whnf
   refine ⟨fun h => h,?_⟩
   conv => whnf
   refine ⟨[encM m,.sl .none 1 (strs items)],_,fun _ => K15 m items (by omega) hil,⟨.refl _,.refl _,trivial⟩,?_⟩
   conv => whnf
   refine ⟨rfl,?_⟩
   conv => whnf
   refine ⟨fun h => h,?_⟩
   conv => whnf
   refine ⟨fun h => h,?_⟩
   conv => whnf
   refine ⟨[encM m,.sl .none 1 (strs items)],_,fun _ => K16 m items (by omega) hil,⟨.refl _,.refl _,trivial⟩,?_⟩
   conv => whnf
   refine ⟨fun h => h,?_⟩
   conv => whnf
   refine ⟨fun h => h,?_⟩
   conv => whnf
   refine ⟨[encM (optV m items),encM (optV m items)],_,fun _ => K14 (optV m items) (by have h1 : (optV m items).boot.length ≤ m.boot.length:=List.length_filter_le _ _; omega),⟨.refl _,.refl _,trivial⟩,?_⟩
   conv => whnf
   refine ⟨fun h0 h => by first | exact h | (rw [h]; rfl) | (rw [h0,h]; rfl),?_⟩
   conv => whnf
   refine Tri.ret ?_
   conv => whnf
   refine DLe.of_eq (congrArg D.bool (a₂:=true) ?_)
   simp [eqT_rfl]
end Go.Tame.V
