/- A program logic of my own over the model, and contracts of this program's functions by it: part 7. No conditions of its own: each theorem states its own. -/
import Derived.Test.YtpkeldhgfdeebaaGreatDoorL6
import Derived.Test.YtpkeldhgfdeebaaGreatDoorShelf
import Derived.Shelf.Sort.Plain
import Derived.Shelf.Slices.In.SortNone
set_option linter.unnecessarySimpa false
set_option linter.unusedSimpArgs false
set_option linter.unusedVariables false
/- Laws: RelocationPlans. By program (mkrn.py,mk.py). -/
namespace Go.Tame.V
open Go Go.Proofs
variable {W0 : World}
set_option maxRecDepth 10000
set_option linter.unusedVariables false
set_option linter.unusedSimpArgs false

theorem plan_lenD (rr : Bool) (n : NV) : (planV rr n).1.length ≤ 2 * cnt n + 2:=by
 unfold planV
 split
 ·have h:=spT_len n (rootX rr n) ⟨1,1,0⟩
  have h2 : (dirsX (spT n (rootX rr n) ⟨1,1,0⟩)).length ≤ (spT n (rootX rr n) ⟨1,1,0⟩).length:=List.length_filter_le _ _
  simp only [dirsP,List.length_cons,List.length_append,List.length_map]
  split <;> simp <;> omega
 ·simp
theorem planE_len (rn : List UInt8) (T : List XS) : (entsP rn T).length ≤ ((dirsX T).length + 1) * (2 * T.length + 1):=by
 rw [← entU_plan]; exact entU_len _ _ _ _
theorem plan_lenE (rr : Bool) (n : NV) (hc : cnt n ≤ 40) : (planV rr n).2.1.length ≤ 100000:=by
 unfold planV
 split
 ·have h:=spT_len n (rootX rr n) ⟨1,1,0⟩
  have h2 : (dirsX (spT n (rootX rr n) ⟨1,1,0⟩)).length ≤ (spT n (rootX rr n) ⟨1,1,0⟩).length:=List.length_filter_le _ _
  have h3:=planE_len (rrN (rrK (namesG 0 n.kids))) (spT n (rootX rr n) ⟨1,1,0⟩)
  have h4 : ((dirsX (spT n (rootX rr n) ⟨1,1,0⟩)).length + 1) * (2 * (spT n (rootX rr n) ⟨1,1,0⟩).length + 1) ≤ 100 * 200:=Nat.mul_le_mul (by omega) (by omega)
  show (entsP _ _).length ≤ _
  omega
 ·simp
end Go.Tame.V
/- What holds of the directories of a plan. Plain. -/
namespace Go.Tame.V
open Go Go.Proofs
set_option maxRecDepth 10000
set_option linter.unusedVariables false
set_option linter.unusedSimpArgs false

theorem ixS_mono {sh i j : Nat} (h : i < j) : ixS sh i < ixS sh j:=by
 unfold ixS; split <;> split <;> omega
theorem dirsP_zero (rn : List UInt8) (T : List XS) : (dirsP rn T)[0]? = some rootDir:=rfl
theorem shiftX_01 (T : List XS) : shiftX T = 0 ∨ shiftX T = 1:=by
 unfold shiftX; split
 ·exact .inl rfl
 ·exact .inr rfl
theorem dirsP_len (rn : List UInt8) (T : List XS) : (dirsP rn T).length = 1 + shiftX T + (dirsX T).length:=by
 rcases shiftX_01 T with h | h
 ·rw [dirsP,h,if_pos rfl]; simp; omega
 ·rw [dirsP,h,if_neg (by decide)]; simp; omega
theorem dirsP_at {rn : List UInt8} {T : List XS} {k : Nat} {s : XS} (h : (dirsX T)[k]? = some s) : (dirsP rn T)[ixS (shiftX T) (k + 1)]? = some (s.dirV (shiftX T)):=by
 rcases shiftX_01 T with h1 | h1
 ·rw [dirsP,h1,if_pos rfl,ixS,if_neg (by omega)]; simp [h]
 ·rw [dirsP,h1,if_neg (show ¬ (1 : Nat) = 0 by decide),ixS,if_neg (by omega)]; simp [h]
theorem dirsP_one {rn : List UInt8} {T : List XS} (h : shiftX T = 1) : (dirsP rn T)[1]? = some ⟨[47],rn,2,0,0,false⟩:=by
 rw [dirsP,h]; rfl
theorem dirsP_inv {rn : List UInt8} {T : List XS} {i : Nat} {x : DirV} (h : (dirsP rn T)[i]? = some x) :
  (i = 0 ∧ x = rootDir) ∨ (i = 1 ∧ shiftX T = 1 ∧ x = ⟨[47],rn,2,0,0,false⟩) ∨ ∃ k s,(dirsX T)[k]? = some s ∧ i = ixS (shiftX T) (k + 1) ∧ x = s.dirV (shiftX T):=by
 have hl:=dirsP_len rn T
 have hlt : i < (dirsP rn T).length:=by
  rcases Nat.lt_or_ge i (dirsP rn T).length with h1 | h1
  ·exact h1
  ·rw [List.getElem?_eq_none h1] at h; cases h
 have hsh : shiftX T ≤ 1:=by unfold shiftX; split <;> omega
 rcases Nat.eq_zero_or_pos i with rfl | h0
 ·rw [dirsP_zero] at h; exact .inl ⟨rfl,(Option.some.inj h).symm⟩
 ·by_cases h1 : i = 1 ∧ shiftX T = 1
  ·obtain ⟨rfl,h2⟩:=h1
   rw [dirsP_one h2] at h; exact .inr (.inl ⟨rfl,h2,(Option.some.inj h).symm⟩)
  ·refine .inr (.inr ?_)
   have hk : i - 1 - shiftX T < (dirsX T).length:=by omega
   have hs:=List.getElem?_eq_getElem hk
   have hi : ixS (shiftX T) (i - 1 - shiftX T + 1) = i:=by rw [ixS,if_neg (by omega)]; omega
   have:=dirsP_at (rn:=rn) hs
   rw [hi,h] at this
   exact ⟨_,_,hs,hi.symm,Option.some.inj this⟩
theorem Built.dirs_at {rr : Bool} {n : NV} {T : List XS} (hb : Built rr n (rootX rr n::T)) {k : Nat} {s : XS} (h : (dirsX T)[k]? = some s) : ∃ t p,T[t]? = some s ∧ s.isDir = true ∧ StepOk ((rootX rr n::T).take (t + 1)) s p ∧ (rootX rr n::T)[s.ab]? = some p ∧ s.ab < t + 1 ∧ s.di = k + 1 ∧ p.di < k + 1 ∧
  ((p = rootX rr n ∧ p.di = 0) ∨ ∃ j,p.di = j + 1 ∧ (dirsX T)[j]? = some p):=by
 have hm:=List.mem_filter.1 (List.mem_of_getElem? h)
 obtain ⟨t,ht⟩:=List.mem_iff_getElem?.1 hm.1
 have hrd : (rootX rr n).isDir = true:=by rw [XS.isDir,rootX,hb.kind]; rfl
 have hdT : dirsX (rootX rr n::T) = rootX rr n::dirsX T:=by rw [dirsX,List.filter_cons,if_pos hrd]; rfl
 have h1 : (rootX rr n::T)[t + 1]? = some s:=ht
 obtain ⟨p,hst⟩:=hb.at (i:=t + 1) (by omega) h1
 have h2:=hst.ab
 have hlt : t < T.length:=by
  rcases Nat.lt_or_ge t T.length with h3 | h3
  ·exact h3
  ·rw [List.getElem?_eq_none h3] at ht; cases ht
 rw [List.length_take,List.length_cons] at h2
 have h3:=hst.par
 rw [List.getElem?_take,if_pos (by omega)] at h3
 have hdi : s.di = k + 1:=hb.dis (k + 1) s (by rw [hdT]; exact h)
 have hpsi:=hb.si h3
 obtain ⟨hpf,hpl⟩:=hb.folder (by rw [hpsi]; exact h3) hst.dir
 have hplt : p.di < k + 1:=by
  -- p stands in the prefix
  have hpm : p ∈ dirsX ((rootX rr n::T).take (t + 1)):=List.mem_filter.2 ⟨List.mem_of_getElem? hst.par,hst.dir⟩
  obtain ⟨j,hj⟩:=List.mem_iff_getElem?.1 hpm
  have hpre : dirsX (rootX rr n::T) = dirsX ((rootX rr n::T).take (t + 1)) ++ dirsX ((rootX rr n::T).drop (t + 1)):=by
   rw [dirsX,dirsX,dirsX,← List.filter_append,List.take_append_drop]
  have hjl : j < (dirsX ((rootX rr n::T).take (t + 1))).length:=by
   rcases Nat.lt_or_ge j (dirsX ((rootX rr n::T).take (t + 1))).length with h4 | h4
   ·exact h4
   ·rw [List.getElem?_eq_none h4] at hj; cases hj
  have h4:=hb.dis j p (by rw [hpre,List.getElem?_append_left hjl]; exact hj)
  have h5:=hst.di
  omega
 refine ⟨t,p,ht,hm.2,hst,h3,by omega,hdi,hplt,?_⟩
 rw [hdT] at hpf
 cases hpd : p.di with
 | zero => rw [hpd] at hpf; exact .inl ⟨(Option.some.inj hpf).symm,rfl⟩
 | succ j => rw [hpd] at hpf; exact .inr ⟨j,rfl,hpf⟩
theorem shiftX_mv {T : List XS} {s : XS} (hs : s ∈ T) (hm : s.mv = true) : shiftX T = 1:=by
 have : s ∈ movX T:=List.mem_filter.2 ⟨hs,hm⟩
 have:=List.length_pos_of_mem this
 rw [shiftX,if_neg (by omega)]
/-- Without Rock Ridge no node has it; levels are those of the source tree at most. -/
theorem Built.lv_le {rr : Bool} {n : NV} {l : List XS} (hb : Built rr n l) : ∀ (i : Nat) (s : XS),l[i]? = some s → s.lev ≤ s.lv ∧ (s.rock = true → rr = true):=by
 intro i
 induction i using Nat.strongRecOn with
 | _ i ih =>
  intro s hs
  rcases Nat.eq_zero_or_pos i with rfl | hi
  ·rw [hb.root0.1] at hs; cases hs; exact ⟨Int.le_refl _,fun h => h⟩
  ·obtain ⟨p,hst⟩:=hb.at hi hs
   have hlt:=hst.ab
   rw [List.length_take] at hlt
   have hp : l[s.ab]? = some p:=by
    have:=hst.par
    rwa [List.getElem?_take,if_pos (by omega)] at this
   obtain ⟨h1,h2⟩:=ih s.ab (by omega) p hp
   have h0:=(hb.lev _ _ hp).1
   have hl:=hst.lev
   have hv:=hst.lv
   refine ⟨?_,fun h => h2 (hst.rock h)⟩
   split at hl
   ·split at hl <;> omega
   ·omega
end Go.Tame.V
/- Laws: RelocationLevels. By program (mkro.py,mk.py). -/
namespace Go.Tame.V
open Go Go.Proofs
variable {W0 : World}
set_option maxRecDepth 10000
set_option linter.unusedVariables false
set_option linter.unusedSimpArgs false

theorem plan_bad {rr : Bool} {n : NV} (h : valid n = false) : planV rr n = ([],[],1):=by rw [planV,if_neg (by rw [h]; decide)]
theorem plan_good {rr : Bool} {n : NV} (h : valid n = true) : ∃ rn T,planV rr n = (dirsP rn T,entsP rn T,0) ∧ Built rr n (rootX rr n::T) ∧ T = spT n (rootX rr n) ⟨1,1,0⟩ ∧ rn = rrN (rrK (namesG 0 n.kids)):=by
 obtain ⟨hokd,hk0⟩:=valid_okD h
 exact ⟨_,_,by rw [planV,if_pos h],built_spots rr hokd hk0,rfl,rfl⟩
end Go.Tame.V
/- Paths and counts in a plan. Plain. -/
namespace Go.Tame.V
open Go Go.Proofs
set_option maxRecDepth 10000
set_option linter.unusedVariables false
set_option linter.unusedSimpArgs false

/-- The nodes of a plan have good names and kids. -/
theorem Built.okN {rr : Bool} {n : NV} (hn : okT n) {l : List XS} (hb : Built rr n l) : ∀ (i : Nat) (s : XS),l[i]? = some s → okT s.n ∧ (0 < i → nameOk s.n.name = true):=by
 intro i
 induction i using Nat.strongRecOn with
 | _ i ih =>
  intro s hs
  rcases Nat.eq_zero_or_pos i with rfl | hi
  ·rw [hb.root0.1] at hs; cases hs; exact ⟨hn,fun h => absurd h (Nat.lt_irrefl _)⟩
  ·obtain ⟨p,hst⟩:=hb.at hi hs
   have hlt:=hst.ab
   rw [List.length_take] at hlt
   have hp : l[s.ab]? = some p:=by
    have:=hst.par
    rwa [List.getElem?_take,if_pos (by omega)] at this
   obtain ⟨h1,_⟩:=ih s.ab (by omega) p hp
   obtain ⟨_,_,_,hk⟩:=(okT_eq p.n).1 h1
   have h2:=okL_get hk hst.kid
   exact ⟨h2.2,fun _ => h2.1.1⟩
/-- The parent of a node. -/
theorem Built.par {rr : Bool} {n : NV} {l : List XS} (hb : Built rr n l) {i : Nat} {s : XS} (hi : 0 < i) (hs : l[i]? = some s) : ∃ p,StepOk (l.take i) s p ∧ l[s.ab]? = some p ∧ s.ab < i:=by
 obtain ⟨p,hst⟩:=hb.at hi hs
 have hlt:=hst.ab
 rw [List.length_take] at hlt
 have hp : l[s.ab]? = some p:=by
  have:=hst.par
  rwa [List.getElem?_take,if_pos (by omega)] at this
 exact ⟨p,hst,hp,by omega⟩
end Go.Tame.V
/- Identifiers of siblings. Plain. -/
namespace Go.Tame.V
open Go Go.Proofs
set_option maxRecDepth 10000
set_option linter.unusedVariables false
set_option linter.unusedSimpArgs false

/-- The identifier of a good name. -/
def idOf (m : List UInt8) (dir : Bool) : List UInt8:=if dir = true then m else if hasDot m = true then m ++ [59,49] else m ++ [46,59,49]
theorem IsoForm.ident {m A B : List UInt8} {dir : Bool} (h : IsoForm m dir A B) : (identI m dir).1 = idOf m dir:=by
 rw [identI,if_pos h.name.valid,idOf]
 split
 ·rfl
 ·split <;> rfl
theorem idOf_f (m : List UInt8) : idOf m false = if hasDot m = true then m ++ [59,49] else m ++ [46,59,49]:=rfl
theorem IsoForm.dots {m A B : List UInt8} {dir : Bool} (h : IsoForm m dir A B) : (hasDot m = true ↔ B ≠ []) ∧ (m = if B = [] then A else A ++ 46::B):=by
 rw [hasDot_iff,decide_eq_true_iff]
 rcases h.eq with ⟨rfl,rfl⟩ | ⟨h1,_,_,rfl⟩
 ·exact ⟨⟨fun hm => absurd hm h.na,fun hb => absurd rfl hb⟩,by rw [if_pos rfl]⟩
 ·exact ⟨⟨fun _ => h1,fun _ => by simp⟩,by rw [if_neg h1]⟩
/-- s is the j-th kid of p,with the identifiers of its name. -/
def KidAt (p s : XS) (j : Nat) : Prop:=p.n.kids[j]? = some s.n ∧ ∃ m,(namesG 0 p.n.kids)[j]? = some m ∧ s.id = (identI m (s.n.kind == 0)).1 ∧ s.file = (identI m false).1
/-- Siblings stand in the order of the kids. -/
def Sib (l : List XS) : Prop:=∀ i' s',0 < i' → l[i']? = some s' → ∃ p j',l[s'.ab]? = some p ∧ p.isDir = true ∧ s'.fi = p.di ∧ KidAt p s' j' ∧ ∀ i s,0 < i → i < i' → l[i]? = some s → s.fi = s'.fi → ∃ j,j < j' ∧ KidAt p s j
theorem Cn.addL_nf (l : List XS) : ∀ c : Cn,c.nf ≤ (c.addL l).nf:=by
 induction l with
 | nil => intro c; exact Nat.le_refl _
 | cons s r ih =>
  intro c
  rw [Cn.addL_cons]
  refine Nat.le_trans ?_ (ih _)
  simp only [Cn.add]; split <;> omega
theorem Cn.add_nf (c : Cn) (s : XS) : c.nf ≤ (c.add s).nf:=by simp only [Cn.add]; split <;> omega
mutual
theorem spT_fi : ∀ (n : NV) (x : XS) (c : Cn),∀ s ∈ spT n x c,s.fi = x.di ∨ c.nf ≤ s.fi
 | .mk _ _ _ _ _ _ _ _ _ _ ks _,x,c,s,hs => by
  simp only [spT] at hs
  exact spL_fi ks _ x c s hs
theorem spL_fi : ∀ (ks : List NV) (ms : List (List UInt8)) (x : XS) (c : Cn),∀ s ∈ spL ks ms x c,s.fi = x.di ∨ c.nf ≤ s.fi
 | k::r,m::ms,x,c,s,hs => by
  simp only [spL] at hs
  split at hs
  ·rcases List.mem_cons.1 hs with rfl | hs
   ·exact .inl rfl
   ·rcases List.mem_append.1 hs with hs | hs
    ·have:=Cn.add_nf c (child x k m c)
     rcases spT_fi k _ _ s hs with h | h
     ·exact .inr (by rw [h]; exact Nat.le_refl _)
     ·exact .inr (by omega)
    ·have h1:=Cn.add_nf c (child x k m c)
     have h2:=Cn.addL_nf (spT k (child x k m c) (c.add (child x k m c))) (c.add (child x k m c))
     rcases spL_fi r ms x _ s hs with h | h
     ·exact .inl h
     ·exact .inr (by omega)
  ·exact spL_fi r ms x c s hs
 | [],_,_,_,s,hs => by simp [spL] at hs
 | _::_,[],_,_,s,hs => by simp [spL] at hs
end
theorem Sib.snoc {l : List XS} (h : Sib l) {s p : XS} {j' : Nat} (hab : s.ab < l.length) (hp : l[s.ab]? = some p) (hd : p.isDir = true) (hf : s.fi = p.di) (hk : KidAt p s j') (hold : ∀ i t,0 < i → l[i]? = some t → t.fi = s.fi → ∃ j,j < j' ∧ KidAt p t j) : Sib (l ++ [s]):=by
 intro i' s' h0 hs'
 rcases Nat.lt_or_ge i' l.length with hl | hl
 ·rw [List.getElem?_append_left hl] at hs'
  obtain ⟨q,j,h1,h2,h3,h4,h5⟩:=h i' s' h0 hs'
  have hql : s'.ab < l.length:=by
   rcases Nat.lt_or_ge s'.ab l.length with h | h
   ·exact h
   ·rw [List.getElem?_eq_none h] at h1; cases h1
  refine ⟨q,j,by rw [List.getElem?_append_left hql]; exact h1,h2,h3,h4,fun i t hi hii ht => ?_⟩
  rw [List.getElem?_append_left (by omega)] at ht
  exact h5 i t hi hii ht
 ·rcases Nat.lt_or_ge l.length i' with hg | hg
  ·rw [List.getElem?_eq_none (by simp; omega)] at hs'; cases hs'
  ·have : i' = l.length:=by omega
   subst this
   rw [List.getElem?_concat_length] at hs'
   cases hs'
   refine ⟨p,j',by rw [List.getElem?_append_left hab]; exact hp,hd,hf,hk,fun i t hi hii ht => ?_⟩
   rw [List.getElem?_append_left hii] at ht
   exact hold i t hi ht
mutual
theorem sib_T (rr : Bool) (r0 : NV) : ∀ (n : NV) (x : XS) (c : Cn) (l : List XS),Built rr r0 l → Sib l → x.n = n → okD n → l[x.si]? = some x → CnOk c l → (∀ i s,0 < i → l[i]? = some s → s.fi ≠ x.di) → Sib (l ++ spT n x c)
 | .mk nm kd t tg a1 a2 a3 a4 a5 a6 ks ss,x,c,l,hb,hs,hxn,hok,hx,hc,hno => by
  simp only [spT]
  have hok':=(okD_eq _).1 hok
  by_cases hd : kd = 0
  ·have hkx : x.n.kids = ks:=congrArg NV.kids hxn
   exact sib_L rr r0 ks (namesG 0 ks) x c l 0 hb hs (by rw [XS.isDir,hxn,hd]; rfl) (by rw [hkx]; rfl) (by rw [hkx]; rfl) hok'.2 hx hc (fun i s h0 h1 h2 => absurd h2 (hno i s h0 h1))
  ·have : ks = []:=hok'.1 hd
   subst this
   simpa [spL] using hs
theorem sib_L (rr : Bool) (r0 : NV) : ∀ (ks : List NV) (ms : List (List UInt8)) (x : XS) (c : Cn) (l : List XS) (off : Nat),Built rr r0 l → Sib l → x.isDir = true → x.n.kids.drop off = ks → (namesG 0 x.n.kids).drop off = ms → okDL ks → l[x.si]? = some x → CnOk c l →
  (∀ i s,0 < i → l[i]? = some s → s.fi = x.di → ∃ j,j < off ∧ KidAt x s j) → Sib (l ++ spL ks ms x c)
 | [],_,x,c,l,off,hb,hs,_,_,_,_,_,_,_ => by simpa [spL] using hs
 | k::r,[],x,c,l,off,hb,hs,_,_,_,_,_,_,_ => by simpa [spL] using hs
 | k::r,m::ms,x,c,l,off,hb,hs,hd,hks,hms,hok,hx,hc,hinv => by
  simp only [okDL] at hok
  have hk0 : x.n.kids[off]? = some k:=by
   have:=congrArg (fun z => z[0]?) hks
   simpa using this
  have hm0 : (namesG 0 x.n.kids)[off]? = some m:=by
   have:=congrArg (fun z => z[0]?) hms
   simpa using this
  have hks2 : x.n.kids.drop (off + 1) = r:=by rw [← List.drop_drop,hks]; rfl
  have hms2 : (namesG 0 x.n.kids).drop (off + 1) = ms:=by rw [← List.drop_drop,hms]; rfl
  simp only [spL]
  split
  ·rename_i ha
   have hst:=child_step (m:=m) hx hd hc (List.mem_of_getElem? hk0) ha
   have hb1:=hb.snoc hst
   have hc1:=hc.add (child x k m c)
   have hkid : KidAt x (child x k m c) off:=⟨hk0,m,hm0,rfl,rfl⟩
   have hs1 : Sib (l ++ [child x k m c]):=hs.snoc hst.ab hst.par hd rfl hkid (fun i t h0 h1 h2 => hinv i t h0 h1 h2)
   have hx1 : (l ++ [child x k m c])[(child x k m c).si]? = some (child x k m c):=by
    rw [hst.si]; simp
   have hxlt : x.di < (dirsX l).length:=(hb.folder hx hd).2
   have hdi : (child x k m c).di = (dirsX l).length:=hst.di
   have hno : ∀ i s,0 < i → (l ++ [child x k m c])[i]? = some s → s.fi ≠ (child x k m c).di:=fun i s h0 h1 => by
    rcases List.mem_append.1 (List.mem_of_getElem? h1) with h2 | h2
    ·have:=hb.fi_lt s h2; omega
    ·rw [List.mem_singleton] at h2
     subst h2
     have : (child x k m c).fi = x.di:=rfl
     omega
   have hs2:=sib_T rr r0 k (child x k m c) (c.add (child x k m c)) (l ++ [child x k m c]) hb1 hs1 rfl hok.1 hx1 hc1 hno
   have hb2:=built_T rr r0 k (child x k m c) (c.add (child x k m c)) (l ++ [child x k m c]) hb1 rfl hok.1 hx1 hc1
   have hc2:=hc1.addL (m:=spT k (child x k m c) (c.add (child x k m c)))
   have hlt : x.si < l.length:=by
    rcases Nat.lt_or_ge x.si l.length with h | h
    ·exact h
    ·rw [List.getElem?_eq_none h] at hx; cases hx
   have hx2 : (l ++ [child x k m c] ++ spT k (child x k m c) (c.add (child x k m c)))[x.si]? = some x:=by
    rw [List.append_assoc,List.getElem?_append_left hlt]; exact hx
   have hinv2 : ∀ i s,0 < i → (l ++ [child x k m c] ++ spT k (child x k m c) (c.add (child x k m c)))[i]? = some s → s.fi = x.di → ∃ j,j < off + 1 ∧ KidAt x s j:=fun i s h0 h1 h2 => by
    rcases Nat.lt_or_ge i l.length with hi | hi
    ·rw [List.append_assoc,List.getElem?_append_left hi] at h1
     obtain ⟨j,hj,hk⟩:=hinv i s h0 h1 h2
     exact ⟨j,by omega,hk⟩
    ·rcases Nat.lt_or_ge l.length i with hg | hg
     ·rw [List.getElem?_append_right (by simp; omega)] at h1
      have hcn : (dirsX l).length ≤ (c.add (child x k m c)).nf:=by
       have:=Cn.add_nf c (child x k m c)
       have:=hc.2.1
       omega
      rcases spT_fi k _ _ s (List.mem_of_getElem? h1) with h3 | h3
      ·rw [h3,hdi] at h2; omega
      ·omega
     ·have : i = l.length:=by omega
      subst this
      rw [List.append_assoc,List.getElem?_append_right (Nat.le_refl _),Nat.sub_self] at h1
      simp at h1
      subst h1
      exact ⟨off,Nat.lt_succ_self _,hkid⟩
   have hs3:=sib_L rr r0 r ms x _ _ (off + 1) hb2 hs2 hd hks2 hms2 hok.2 hx2 hc2 hinv2
   simpa using hs3
  ·exact sib_L rr r0 r ms x c l (off + 1) hb hs hd hks2 hms2 hok.2 hx hc (fun i s h0 h1 h2 => by
    obtain ⟨j,hj,hk⟩:=hinv i s h0 h1 h2
    exact ⟨j,by omega,hk⟩)
end
theorem sib_spots (rr : Bool) {n : NV} (hok : okD n) (h0 : n.kind = 0) : Sib (spots rr n):=by
 refine sib_T rr n n (rootX rr n) ⟨1,1,0⟩ [rootX rr n] (.root h0) ?_ rfl hok rfl ?_ ?_
 ·intro i s hi hs
  rw [List.getElem?_eq_none (by simp; omega)] at hs; cases hs
 ·refine ⟨rfl,?_,?_⟩
  ·simp [dirsX,XS.isDir,rootX,h0]
  ·simp [movX,rootX]
 ·intro i s hi hs
  rw [List.getElem?_eq_none (by simp; omega)] at hs; cases hs
end Go.Tame.V
/- What holds of the records of a plan. Plain. -/
namespace Go.Tame.V
open Go Go.Proofs
set_option maxRecDepth 10000
set_option linter.unusedVariables false
set_option linter.unusedSimpArgs false

/-- Relocated directories are numbered. -/
theorem Built.mnos {rr : Bool} {n : NV} {l : List XS} (h : Built rr n l) : ∀ (j : Nat) (s : XS),(movX l)[j]? = some s → s.mno = j + 1:=by
 induction h with
 | root h0 =>
  intro j s hs
  have e : movX [rootX rr n] = []:=by simp [movX,rootX]
  rw [e] at hs; simp at hs
 | @snoc l t p h hst ih =>
  intro j s hs
  cases hd : t.mv with
  | false => rw [movX_stay hd] at hs; exact ih j s hs
  | true =>
   rw [movX_snoc hd] at hs
   rcases Nat.lt_or_ge j (movX l).length with hj | hj
   ·rw [List.getElem?_append_left hj] at hs; exact ih j s hs
   ·rcases Nat.lt_or_ge (movX l).length j with hg | hg
    ·rw [List.getElem?_eq_none (by simp; omega)] at hs; cases hs
    ·have : j = (movX l).length:=by omega
     subst this
     rw [List.getElem?_concat_length] at hs
     cases hs; exact hst.mno
/-- What is known of a node but the root: its name and identifiers. -/
structure Node26 (rr : Bool) (n : NV) (T : List XS) (s : XS) : Prop where
 fi : s.fi ≤ (dirsX T).length
 dir : s.isDir = true → ∃ q,(dirsX T)[q]? = some s ∧ s.di = q + 1
 mvd : s.mv = true → s.isDir = true
 name : ∃ p j m A B,KidAt p s j ∧ p.di = s.fi ∧ (rootX rr n::T)[p.si]? = some p ∧ p.isDir = true ∧ (namesG 0 p.n.kids)[j]? = some m ∧ IsoForm m (s.n.kind == 0) A B ∧ (if s.mv then s.file else s.id) = idOf m (s.isDir && !s.mv) ∧ (p.di = 0 → p = rootX rr n)
theorem ids_name {s p : XS} {j : Nat} {m A B : List UInt8} (hk : KidAt p s j) (hm : (namesG 0 p.n.kids)[j]? = some m) (hf : IsoForm m (s.n.kind == 0) A B) : (if s.mv then s.file else s.id) = idOf m (s.isDir && !s.mv):=by
 obtain ⟨_,m',hm',h1,h2⟩:=hk
 rw [hm] at hm'
 cases hm'
 cases hv : s.mv with
 | true => rw [if_pos rfl,h2,hf.file.ident]; simp
 | false => rw [if_neg (by decide),h1,hf.ident]; simp [XS.isDir]
theorem node26 {rr : Bool} {n : NV} {T : List XS} (hn : okT n) (hb : Built rr n (rootX rr n::T)) (hs : Sib (rootX rr n::T)) {s : XS} (hT : s ∈ T) : Node26 rr n T s:=by
 obtain ⟨t,ht⟩:=List.mem_iff_getElem?.1 hT
 have h1 : (rootX rr n::T)[t + 1]? = some s:=ht
 have hrd : (rootX rr n).isDir = true:=by rw [XS.isDir,rootX,hb.kind]; rfl
 have hdT : dirsX (rootX rr n::T) = rootX rr n::dirsX T:=by rw [dirsX,List.filter_cons,if_pos hrd]; rfl
 obtain ⟨p,hst,hp,hlt⟩:=hb.par (Nat.succ_pos t) h1
 obtain ⟨p',j,hp',hpd,hfi,hk,_⟩:=hs (t + 1) s (Nat.succ_pos t) h1
 rw [hp] at hp'; cases hp'
 have hpi:=hb.si hp
 have hokp:=(hb.okN hn _ _ hp).1
 obtain ⟨h64,_,_,hokl⟩:=(okT_eq p.n).1 hokp
 have hk':=hk
 obtain ⟨hkj,m,hm,hid,hfile⟩:=hk'
 have hjl : j < p.n.kids.length:=by
  rcases Nat.lt_or_ge j p.n.kids.length with h | h
  ·exact h
  ·rw [List.getElem?_eq_none h] at hkj; cases hkj
 obtain ⟨A,B,hf⟩:=names_form h64 (fun k hk => (okL_get hokl hk).1.1) hjl
 have hm2 : (namesG 0 p.n.kids)[j]'(by rw [namesG_len]; exact hjl) = m:=by
  rw [List.getElem?_eq_getElem (by rw [namesG_len]; exact hjl)] at hm; exact Option.some.inj hm
 have hk2 : p.n.kids[j] = s.n:=by
  rw [List.getElem?_eq_getElem hjl] at hkj; exact Option.some.inj hkj
 rw [hm2,hk2] at hf
 refine ⟨?_,fun hd => ?_,fun hmv => ?_,p,j,m,A,B,hk,hst.fi.symm,by rw [hpi]; exact hp,hpd,hm,hf,ids_name hk hm hf,fun h0 => ?_⟩
 ·have:=hb.fi_lt s (List.mem_of_getElem? h1)
  rw [hdT] at this
  simpa [Nat.lt_succ_iff] using this
 ·obtain ⟨hsf,_⟩:=hb.folder (by rw [hb.si h1]; exact h1) hd
  rw [hdT] at hsf
  have h0 : s.di ≠ 0:=by
   have:=(hb.lv _ _ h1).2.2.2 (Nat.succ_pos t) hd; omega
  obtain ⟨q,hq⟩ : ∃ q,s.di = q + 1:=⟨s.di - 1,by omega⟩
  rw [hq] at hsf
  exact ⟨q,hsf,hq⟩
 ·have h3:=hst.mv
  rw [hmv] at h3
  cases h : s.isDir with
  | true => rfl
  | false => rw [h] at h3; cases h3
 ·obtain ⟨hpf,_⟩:=hb.folder (by rw [hpi]; exact hp) hpd
  rw [h0,hdT] at hpf
  exact (Option.some.inj hpf).symm
end Go.Tame.V
/- The records of a plan: in order,different,one for each directory. Plain. -/
namespace Go.Tame.V
open Go Go.Proofs
set_option maxRecDepth 10000
set_option linter.unusedVariables false
set_option linter.unusedSimpArgs false

theorem ixS_inj {sh i j : Nat} (h : ixS sh i = ixS sh j) : i = j:=by
 unfold ixS at h
 split at h <;> split at h <;> omega
end Go.Tame.V
/- Each directory of a plan but the root has one record. Plain. -/
namespace Go.Tame.V
open Go Go.Proofs
set_option maxRecDepth 10000
set_option linter.unusedVariables false
set_option linter.unusedSimpArgs false

end Go.Tame.V
/- Paths of a plan's nodes are different. Plain. -/
namespace Go.Tame.V
open Go Go.Proofs
set_option maxRecDepth 10000
set_option linter.unusedVariables false
set_option linter.unusedSimpArgs false

theorem tailF_snoc : ∀ (r : List (List UInt8)) (m : List UInt8),tailF (r ++ [m]) = tailF r ++ 47::m
 | [],m => by simp [tailF]
 | a::r,m => by rw [List.cons_append]; simp [tailF,tailF_snoc r m]
theorem joinF_snoc (q : List (List UInt8)) (m : List UInt8) : joinF (q ++ [m]) = if q = [] then m else joinF q ++ [47] ++ m:=by
 cases q with
 | nil => simp [joinF,tailF]
 | cons a r => rw [if_neg (by simp)]; simp [joinF,tailF_snoc]
/-- A node's path as names. -/
theorem Built.pathQ {rr : Bool} {n : NV} (hn : okT n) {l : List XS} (hb : Built rr n l) : ∀ (i : Nat) (s : XS),l[i]? = some s → ∃ q,okP q ∧ s.path = joinF q ∧ (q.length : Int) = s.lv - 1 ∧
  (0 < i → ∃ p q',l[s.ab]? = some p ∧ s.ab < i ∧ s.fi = p.di ∧ okP q' ∧ p.path = joinF q' ∧ q = q' ++ [s.n.name]):=by
 intro i
 induction i using Nat.strongRecOn with
 | _ i ih =>
  intro s hs
  rcases Nat.eq_zero_or_pos i with rfl | hi
  ·rw [hb.root0.1] at hs; cases hs
   exact ⟨[],(fun m hm => by cases hm),rfl,rfl,fun h => absurd h (Nat.lt_irrefl _)⟩
  ·obtain ⟨p,hst,hp,hlt⟩:=hb.par hi hs
   obtain ⟨q,hq,hqp,hql,_⟩:=ih s.ab (by omega) p hp
   have hno:=(hb.okN hn i s hs).2 hi
   have hlv:=hst.lv
   refine ⟨q ++ [s.n.name],fun m hm => ?_,?_,by simp; omega,fun _ => ⟨p,q,hp,hlt,hst.fi,hq,hqp,rfl⟩⟩
   ·rcases List.mem_append.1 hm with h | h
    ·exact hq m h
    ·rw [List.mem_singleton] at h; rw [h]; exact hno
   ·rw [joinF_snoc,hst.path,Go.Tame.V.below]
    by_cases h : q = []
    ·rw [if_pos h,if_pos (by subst h; simp at hql; omega)]
    ·rw [if_neg h,if_neg (by have:=List.length_pos_iff.2 h; omega),hqp]
/-- Nodes with one path are one. -/
theorem paths_inj {rr : Bool} {n : NV} (hn : okT n) {l : List XS} (hb : Built rr n l) (hs : Sib l) : ∀ (i i' : Nat) (s s' : XS),l[i]? = some s → l[i']? = some s' → s.path = s'.path → i = i':=by
 intro i
 induction i using Nat.strongRecOn with
 | _ i ih =>
  intro i' s s' h h' e
  obtain ⟨q,hq,hqp,hql,hqs⟩:=hb.pathQ hn i s h
  obtain ⟨q2,hq2,hqp2,hql2,hqs2⟩:=hb.pathQ hn i' s' h'
  have hqq : q = q2:=joinF_inj hq hq2 (by rw [← hqp,← hqp2,e])
  subst hqq
  have hlv:=hb.lv i s h
  have hlv':=hb.lv i' s' h'
  rcases Nat.eq_zero_or_pos i with h0 | h0
  ·have:=hlv.2.1 h0
   rcases Nat.eq_zero_or_pos i' with h1 | h1
   ·omega
   ·have:=hlv'.2.2.1 h1; omega
  ·rcases Nat.eq_zero_or_pos i' with h1 | h1
   ·have:=hlv'.2.1 h1
    have:=hlv.2.2.1 h0; omega
   ·obtain ⟨p,r,hp,hpl,hfi,hr,hpr,e1⟩:=hqs h0
    obtain ⟨p',r',hp',hpl',hfi',hr',hpr',e2⟩:=hqs2 h1
    have e3:=e1.symm.trans e2
    have e4:=List.append_inj' e3 rfl
    have hpp:=ih s.ab hpl s'.ab p p' hp hp' (by rw [hpr,hpr',e4.1])
    rw [hpp,hp'] at hp
    cases hp
    have hnm : s.n.name = s'.n.name:=by simpa using e4.2
    -- siblings with one name are one
    have key : ∀ (a b : Nat) (x y : XS),l[a]? = some x → l[b]? = some y → 0 < a → a < b → x.fi = y.fi → x.n.name = y.n.name → False:=fun a b x y hx hy ha hab hf hnm => by
     obtain ⟨z,j',hz,hzd,hzf,hk',hold⟩:=hs b y (by omega) hy
     obtain ⟨j,hj,hk⟩:=hold a x ha hab hx hf
     have hokz:=(hb.okN hn _ _ hz).1
     obtain ⟨_,_,hinc,_⟩:=(okT_eq z.n).1 hokz
     obtain ⟨g1,hg1⟩:=List.getElem?_eq_some_iff.1 hk.1
     obtain ⟨g2,hg2⟩:=List.getElem?_eq_some_iff.1 hk'.1
     have:=bl_ne (inc_get hinc hj g2)
     rw [hg1,hg2] at this
     exact this hnm
    rcases Nat.lt_trichotomy i i' with hlt | heq | hgt
    ·exact (key i i' s s' h h' h0 hlt (by rw [hfi,hfi']) hnm).elim
    ·exact heq
    ·exact (key i' i s' s h' h h1 hgt (by rw [hfi,hfi']) hnm.symm).elim
end Go.Tame.V
/- Laws: RelocationPlain. By program (mkrp.py,mk.py). -/
namespace Go.Tame.V
open Go Go.Proofs
variable {W0 : World}
set_option maxRecDepth 10000
set_option linter.unusedVariables false
set_option linter.unusedSimpArgs false

end Go.Tame.V
/- Contracts: strings.LastIndex at one byte. By program (mkrw.py,mk.py). -/
namespace Go.Tame.V
open Go Go.Proofs
variable {W0 : World}
set_option maxRecDepth 10000
set_option linter.unusedVariables false
set_option linter.unusedSimpArgs false

/-- The last place of a byte among the first k,or -1. -/
def lastAt (s : List UInt8) (c : UInt8) : Nat → Int
 | 0 => -1
 | k + 1 => if s.getD k 0 == c then (k : Int) else lastAt s c k
set_option maxHeartbeats 4000000 in
theorem G142 (s : List UInt8) (c : UInt8) (hs : s.length < 1000000000) : DFun Tryz.prog W0 142 [.str s,.int .u8 c.toNat] (.int .i64 (lastAt s c s.length)):=by
 refine DFun.intro ti2_ok Tryz.func142 rfl (by decide +kernel) Tryz.ntmps142 rfl fun Γ => ?_
 refine Tri.seq ?_
 refine Tri.region ti2_ok ?_
 conv => whnf
 refine Tri.seq ?_
 refine Tri.seq ?_
 refine Tri.region ti2_ok ?_
 conv => whnf
 refine .inl ⟨fun _ => by simp [InR]; omega,?_⟩
 conv => whnf
 refine Tri.block ?_
 refine Tri.loop (α:={ i : Nat // i ≤ s.length ∧ lastAt s c s.length = lastAt s c i }) (fun x => [(0,.str s),(1,.int .u8 c.toNat),(5,.int .i64 ((x.1 : Int) - 1))]) (fun _ => []) (fun x => x.1) ⟨s.length,Nat.le_refl _,rfl⟩ ⟨.refl _,.refl _,.refl _,trivial⟩ trivial ?_
 rintro ⟨i,hi,hla⟩
 try dsimp only
 refine Tri.seq ?_
 refine Tri.seq ?_
 refine Tri.region ti2_ok ?_
 conv => whnf
 refine Tri.cond (decide ((i : Int) - 1 ≥ 0)) rfl (fun hc => ?_) (fun hc => ?_)
 ·refine Tri.skip ?_
  conv => whnf
  have hc1:=of_decide_eq_true hc
  obtain ⟨k,rfl⟩ : ∃ k,i = k + 1:=⟨i - 1,by omega⟩
  have hk : ((k + 1 : Nat) : Int) - 1 = (k : Int):=by omega
  rw [hk]
  have hbe : (((s[k].toNat : Nat) : Int) == (c.toNat : Nat)) = (s[k] == c):=by
   rw [Bool.eq_iff_iff]; simp only [beq_iff_eq]
   constructor
   ·intro h; exact UInt8.toNat.inj (by omega)
   ·intro h; rw [h]
  have hgd : s.getD k 0 = s[k]:=by rw [List.getD_eq_getElem?_getD,List.getElem?_eq_getElem (by omega)]; rfl
  refine Tri.seq ?_
  refine Tri.block ?_
  refine Tri.seq ?_
  refine Tri.region ti2_ok ?_
  conv => whnf
  refine ⟨s[k],fun _ => ⟨by omega,by simp⟩,?_⟩
  conv => whnf
  refine Tri.cond _ rfl (fun hc => ?_) (fun hc => ?_)
  ·refine Tri.seq ?_
   refine Tri.region ti2_ok ?_
   conv => whnf
   refine Tri.ret ?_
   conv => whnf
   have h1 : (s[k] == c) = true:=hbe.symm.trans hc
   exact intDLe (by rw [hla,lastAt,hgd,if_pos h1])
  ·refine Tri.skip ?_
   conv => whnf
   refine Tri.region ti2_ok ?_
   conv => whnf
   refine .inl ⟨fun _ => by simp only [InR]; omega,?_⟩
   conv => whnf
   have h1 : (s[k] == c) = false:=hbe.symm.trans hc
   exact ⟨⟨k,by omega,by rw [hla,lastAt,hgd,if_neg (by rw [h1]; decide)]⟩,Nat.lt_succ_self _,⟨.refl _,.refl _,.refl _,trivial⟩,trivial⟩
 ·have h0 : i = 0:=by have:=of_decide_eq_false hc; omega
  refine Tri.exit ?_
  conv => whnf
  refine Tri.seq ?_
  refine Tri.region ti2_ok ?_
  conv => whnf
  refine Tri.ret ?_
  conv => whnf
  exact intDLe (by rw [hla,h0]; rfl)
set_option maxHeartbeats 4000000 in
theorem G106 (s : List UInt8) (c : UInt8) (hs : s.length < 1000000000) : DFun Tryz.prog W0 106 [.str s,.str [c]] (.int .i64 (lastAt s c s.length)):=by
 refine DFun.intro ti2_ok Tryz.func106 rfl (by decide +kernel) Tryz.ntmps106 rfl fun Γ => ?_
 refine Tri.seq ?_
 refine Tri.region ti2_ok ?_
 conv => whnf
 refine Tri.seq ?_
 refine Tri.region ti2_ok ?_
 conv => whnf
 refine Tri.seq ?_
 refine Tri.block ?_
 refine Tri.seq ?_
 refine Tri.region ti2_ok ?_
 conv => whnf
 refine Tri.cond false rfl (fun hc => ?_) (fun hc => ?_)
 ·cases hc
 ·refine Tri.seq ?_
  refine Tri.region ti2_ok ?_
  conv => whnf
  refine Tri.cond true rfl (fun hc => ?_) (fun hc => ?_)
  ·refine Tri.seq ?_
   refine Tri.region ti2_ok ?_
   conv => whnf
   refine ⟨c,fun _ => ⟨by omega,by simp⟩,?_⟩
   conv => whnf
   refine ⟨[.str s,.int .u8 c.toNat],_,fun _ => G142 s c hs,⟨.refl _,.refl _,trivial⟩,?_⟩
   conv => whnf
   refine Tri.ret ?_
   conv => whnf
   exact .refl _
  ·cases hc
end Go.Tame.V
/- The last name of a path. Plain. -/
namespace Go.Tame.V
open Go Go.Proofs
set_option maxRecDepth 10000
set_option linter.unusedVariables false
set_option linter.unusedSimpArgs false

theorem lastAt_none {s : List UInt8} {c : UInt8} (h : c ∉ s) : ∀ k,k ≤ s.length → lastAt s c k = -1
 | 0,_ => rfl
 | k + 1,hk => by
  have h1 : s.getD k 0 = s[k]:=by rw [List.getD_eq_getElem?_getD,List.getElem?_eq_getElem (by omega)]; rfl
  rw [lastAt,h1,if_neg,lastAt_none h k (by omega)]
  intro e
  exact h (by rw [← (beq_iff_eq.1 e)]; exact List.getElem_mem _)
theorem lastAt_app {a m : List UInt8} {c : UInt8} (h : c ∉ m) : ∀ k,k ≤ m.length → lastAt (a ++ c::m) c (a.length + 1 + k) = (a.length : Int)
 | 0,_ => by
  rw [Nat.add_zero,lastAt,if_pos]
  rw [List.getD_eq_getElem?_getD,List.getElem?_append_right (Nat.le_refl _),Nat.sub_self]
  simp
 | k + 1,hk => by
  have h1 : (a ++ c::m).getD (a.length + 1 + k) 0 = m[k]:=by
   rw [List.getD_eq_getElem?_getD,List.getElem?_append_right (by omega),show a.length + 1 + k - a.length = k + 1 by omega,List.getElem?_cons_succ,List.getElem?_eq_getElem (by omega)]; rfl
  rw [← Nat.add_assoc,lastAt,h1,if_neg,lastAt_app h k (by omega)]
  intro e
  exact h (by rw [← (beq_iff_eq.1 e)]; exact List.getElem_mem _)
/-- What stands behind the last slash. -/
def baseN (p : List UInt8) : List UInt8:=p.drop (lastAt p 47 p.length + 1).toNat
theorem baseN_one {m : List UInt8} (h : (47 : UInt8) ∉ m) : baseN m = m:=by
 rw [baseN,lastAt_none h _ (Nat.le_refl _)]; rfl
theorem baseN_app {a m : List UInt8} (h : (47 : UInt8) ∉ m) : baseN (a ++ [47] ++ m) = m:=by
 rw [baseN]
 have e : a ++ [47] ++ m = a ++ 47::m:=by simp
 have hl : (a ++ 47::m).length = a.length + 1 + m.length:=by simp; omega
 rw [e,hl,lastAt_app h _ (Nat.le_refl _),show ((a.length : Int) + 1).toNat = a.length + 1 by omega,List.drop_append]
 simp
/-- A node's path ends in its name. -/
theorem Built.base {rr : Bool} {n : NV} (hn : okT n) {l : List XS} (hb : Built rr n l) {i : Nat} {s : XS} (hi : 0 < i) (hs : l[i]? = some s) : baseN s.path = s.n.name:=by
 obtain ⟨p,hst,hp,hlt⟩:=hb.par hi hs
 have hno:=name_noslash ((hb.okN hn i s hs).2 hi)
 rw [hst.path,Go.Tame.V.below]
 split
 ·exact baseN_one hno
 ·exact baseN_app hno
end Go.Tame.V
/- The paths that a plan's records show are those of the view's tree. Plain. -/
namespace Go.Tame.V
open Go Go.Proofs
set_option maxRecDepth 10000
set_option linter.unusedVariables false
set_option linter.unusedSimpArgs false

def addP (p m : List UInt8) : List UInt8:=if p = [] then m else p ++ [47] ++ m
def nmE (iso : Bool) (e : EntV) : List UInt8:=if iso = true then (nameI e.id (decide (0 ≤ e.dir))).1 else baseN e.path
def takeE (iso : Bool) (a : Int) (e : EntV) : Bool:=e.inn == a && (if iso = true then !e.hid else e.att)
def toE (D : List DirV) (e : EntV) : Int:=if e.mov = true then firstIdx (fun y => y.path == e.path) D else e.dir
/-- One record's paths. -/
def oneE (D : List DirV) (iso : Bool) (g : Int → List UInt8 → List (List UInt8)) (a : Int) (p : List UInt8) (e : EntV) : List (List UInt8) :=
 if takeE iso a e = true then addP p (nmE iso e)::(if 0 ≤ toE D e then g (toE D e) (addP p (nmE iso e)) else []) else []
/-- What the records show below the a-th directory. -/
def belowV (D : List DirV) (E : List EntV) (iso : Bool) : Nat → Int → List UInt8 → List (List UInt8)
 | 0,_,_ => []
 | f + 1,a,p => E.flatMap (oneE D iso (belowV D E iso f) a p)

theorem flatMap_congr' {α β : Type} {f g : α → List β} : ∀ {l : List α},(∀ x ∈ l,f x = g x) → l.flatMap f = l.flatMap g
 | [],_ => rfl
 | x::r,h => by rw [List.flatMap_cons,List.flatMap_cons,h x List.mem_cons_self,flatMap_congr' (l:=r) fun y hy => h y (List.mem_cons_of_mem _ hy)]
theorem flat_nil {α β : Type} {h : α → List β} {l : List α} (h0 : ∀ i ∈ l,h i = []) : l.flatMap h = []:=List.flatMap_eq_nil_iff.2 h0
theorem flat_pick {α : Type} {h : Nat → List α} {n j : Nat} (hj : j < n) (h0 : ∀ i,i ≠ j → h i = []) : (List.range n).flatMap h = h j:=by
 induction n with
 | zero => omega
 | succ n ih =>
  rw [List.range_succ,List.flatMap_append,List.flatMap_singleton]
  by_cases e : j = n
  ·subst e
   rw [flat_nil (fun i hi => h0 i (by rw [List.mem_range] at hi; omega))]; rfl
  ·rw [ih (by omega),h0 n (fun e' => e e'.symm),List.append_nil]
theorem recs_flat {α : Type} (s i : Nat) (g : EntV → List α) : ∀ l : List XS,(recsAt s l i).flatMap g = l.flatMap fun x => if (x.fi == i) = true then g (x.entV s) else []
 | [] => rfl
 | x::r => by
  have ih:=recs_flat s i g r
  rw [List.flatMap_cons,← ih,recsAt,recsAt,List.filter_cons]
  by_cases h : (x.fi == i) = true
  ·rw [if_pos h,if_pos h]; rfl
  ·rw [if_neg h,if_neg h]; rfl
theorem recs_off {α : Type} {T : List XS} {sh i j : Nat} {g : EntV → List α} (hA : ∀ e : EntV,e.inn ≠ ((ixS sh i : Nat) : Int) → g e = []) (hne : j ≠ i) : (recsAt sh T j).flatMap g = []:=by
 refine flat_nil fun e he => hA e ?_
 obtain ⟨x,hx,rfl⟩:=List.mem_map.1 he
 have hf : x.fi = j:=by simpa using (List.mem_filter.1 hx).2
 intro h
 have h1 : ixS sh x.fi = ixS sh i:=by
  have h2 : ((ixS sh x.fi : Nat) : Int) = (ixS sh i : Nat):=h
  omega
 exact hne (hf ▸ ixS_inj h1)
theorem ents_flat {α : Type} {rn : List UInt8} {T : List XS} {i : Nat} {g : EntV → List α} (hi : i ≤ (dirsX T).length) (hA : ∀ e : EntV,e.inn ≠ ((ixS (shiftX T) i : Nat) : Int) → g e = []) (hR : g ⟨[47],rn,0,1,true,false,false⟩ = []) :
  (entsP rn T).flatMap g = (recsAt (shiftX T) T i).flatMap g:=by
 rw [entsP,List.flatMap_append,List.flatMap_append,List.flatMap_append]
 have h1 : (if shiftX T = 0 then [] else [(⟨[47],rn,0,1,true,false,false⟩ : EntV)]).flatMap g = []:=by
  split
  ·rfl
  ·rw [List.flatMap_singleton]; exact hR
 have h2 : ((movX T).map (XS.movV (shiftX T))).flatMap g = []:=by
  refine flat_nil fun e he => hA e ?_
  obtain ⟨x,hx,rfl⟩:=List.mem_map.1 he
  have h3:=shiftX_mv (List.mem_filter.1 hx).1 (List.mem_filter.1 hx).2
  intro h
  have h4 : (1 : Int) = (ixS (shiftX T) i : Nat):=h
  rw [h3,ixS] at h4
  split at h4 <;> omega
 rw [h1,h2,List.nil_append,List.append_nil,List.flatMap_assoc]
 cases i with
 | zero =>
  rw [flat_nil (l:=List.range _) (fun j _ => recs_off hA (by omega)),List.append_nil]
 | succ i =>
  rw [recs_off hA (by omega : (0 : Nat) ≠ i + 1),List.nil_append]
  exact flat_pick (h:=fun j => (recsAt (shiftX T) T (j + 1)).flatMap g) (j:=i) (by omega) (fun j hj => recs_off hA (by omega))

/-- The same by nodes. -/
def keepX (iso : Bool) (s : XS) : Bool:=if iso = true then s.iso else s.rock
def outX (T : List XS) (iso : Bool) (nm : XS → List UInt8) : Nat → Nat → List UInt8 → List (List UInt8)
 | 0,_,_ => []
 | f + 1,i,p => T.flatMap fun s => if (s.fi == i && keepX iso s) = true then addP p (nm s)::(if s.isDir = true then outX T iso nm f s.di (addP p (nm s)) else []) else []

theorem path_no {rr : Bool} {n : NV} (hn : okT n) {l : List XS} (hb : Built rr n l) {i : Nat} {s : XS} (hi : 0 < i) (hs : l[i]? = some s) : s.path ≠ [] ∧ s.path ≠ [47]:=by
 obtain ⟨p,hst,hp,hlt⟩:=hb.par hi hs
 have hno:=(hb.okN hn i s hs).2 hi
 have h0:=name_noslash hno
 have hne : s.n.name ≠ []:=by
  intro e; rw [e] at hno; exact absurd hno (by decide)
 rw [hst.path,Go.Tame.V.below]
 split
 ·exact ⟨hne,fun e => h0 (by rw [e]; exact List.mem_cons_self)⟩
 ·refine ⟨by simp,fun e => ?_⟩
  have h1:=congrArg List.length e
  have h2:=List.length_pos_iff.2 hne
  simp at h1
  omega
/-- Where a record of a directory leads. -/
theorem toE_ent {rr : Bool} {n : NV} {T : List XS} {rn : List UInt8} (hn : okT n) (hb : Built rr n (rootX rr n::T)) (hs : Sib (rootX rr n::T)) {s : XS} (hT : s ∈ T) :
  toE (dirsP rn T) (s.entV (shiftX T)) = if s.isDir = true then ((ixS (shiftX T) s.di : Nat) : Int) else -1:=by
 have h26:=node26 hn hb hs hT
 rw [toE]
 show (if s.mv = true then firstIdx (fun y => y.path == s.path) (dirsP rn T) else if (s.isDir && !s.mv) = true then _ else _) = _
 cases hmv : s.mv with
 | false => simp
 | true =>
  have hd:=h26.mvd hmv
  rw [if_pos rfl,if_pos hd]
  obtain ⟨q,hq,hdi⟩:=h26.dir hd
  have hat:=dirsP_at (rn:=rn) hq
  rw [hdi]
  have hlt : ixS (shiftX T) (q + 1) < (dirsP rn T).length:=by
   rcases Nat.lt_or_ge (ixS (shiftX T) (q + 1)) (dirsP rn T).length with h | h
   ·exact h
   ·rw [List.getElem?_eq_none h] at hat; cases hat
  have hge : (dirsP rn T)[ixS (shiftX T) (q + 1)] = s.dirV (shiftX T):=by
   rw [List.getElem?_eq_getElem hlt] at hat; exact Option.some.inj hat
  obtain ⟨t,ht⟩:=List.mem_iff_getElem?.1 hT
  have hst1 : (rootX rr n::T)[t + 1]? = some s:=ht
  obtain ⟨hp1,hp2⟩:=path_no hn hb (Nat.succ_pos t) hst1
  refine firstIdx_some hlt (fun j hjl hj => ?_) ?_
  ·have hje:=List.getElem?_eq_getElem hjl
   cases hc : ((dirsP rn T)[j].path == s.path) with
   | false => rfl
   | true =>
    exfalso
    have hc' : (dirsP rn T)[j].path = s.path:=by simpa using hc
    rcases dirsP_inv hje with ⟨h0,h1⟩ | ⟨h0,_,h1⟩ | ⟨k,s',hk,h0,h1⟩
    ·rw [h1] at hc'; exact hp1 hc'.symm
    ·rw [h1] at hc'; exact hp2 hc'.symm
    ·rw [h1] at hc'
     have hc'' : s'.path = s.path:=hc'
     obtain ⟨t',ht'⟩:=List.mem_iff_getElem?.1 (List.mem_filter.1 (List.mem_of_getElem? hk)).1
     have h3 : (rootX rr n::T)[t' + 1]? = some s':=ht'
     have:=paths_inj hn hb hs (t' + 1) (t + 1) s' s h3 hst1 hc''
     have e : s' = s:=by
      have : t' = t:=by omega
      subst this
      rw [ht] at ht'; exact (Option.some.inj ht').symm
     subst e
     have h26':=(node26 hn hb hs hT).dir hd
     have hdk : s'.di = k + 1:=by
      obtain ⟨_,_,_,_,_,_,_,hh,_⟩:=hb.dirs_at hk
      exact hh
     rw [h0] at hj
     have : k + 1 = q + 1:=by rw [← hdk,hdi]
     rw [this] at hj
     exact absurd hj (Nat.lt_irrefl _)
  ·rw [hge]; simp [XS.dirV]
/-- What the records show,by nodes. -/
theorem below_out {rr : Bool} {n : NV} {T : List XS} {rn : List UInt8} (hn : okT n) (hb : Built rr n (rootX rr n::T)) (hs : Sib (rootX rr n::T)) (iso : Bool) : ∀ (f i : Nat) (p : List UInt8),i ≤ (dirsX T).length →
  belowV (dirsP rn T) (entsP rn T) iso f (ixS (shiftX T) i : Nat) p = outX T iso (fun s => nmE iso (s.entV (shiftX T))) f i p
 | 0,i,p,_ => rfl
 | f + 1,i,p,hi => by
  rw [belowV,ents_flat hi (fun e he => ?_) ?_,recs_flat,outX]
  ·refine flatMap_congr' fun s hT => ?_
   have h26:=node26 hn hb hs hT
   by_cases hf : s.fi = i
   ·subst hf
    have h1 : takeE iso (ixS (shiftX T) s.fi : Nat) (s.entV (shiftX T)) = keepX iso s:=by
     cases iso <;> simp [takeE,keepX,XS.entV]
    rw [if_pos (by simp),oneE,h1,toE_ent hn hb hs hT]
    cases hk : keepX iso s with
    | false => simp
    | true =>
     simp only [beq_self_eq_true,Bool.and_true,if_true]
     cases hd : s.isDir with
     | false => simp
     | true =>
      obtain ⟨q,hq,hdi⟩:=h26.dir hd
      have hql : q < (dirsX T).length:=by
       rcases Nat.lt_or_ge q (dirsX T).length with h | h
       ·exact h
       ·rw [List.getElem?_eq_none h] at hq; cases hq
      simp only [if_true]
      rw [if_pos (by omega),below_out hn hb hs iso f s.di _ (by omega)]
   ·rw [if_neg (by simpa using hf),if_neg (by simp [hf])]
  ·rw [oneE,if_neg]
   cases iso <;> simp [takeE]
  ·rw [oneE,if_neg]
   rw [takeE]
   intro h
   rw [Bool.and_eq_true] at h
   exact he (by simpa using h.1)

mutual
/-- The same along the tree. -/
def shT (iso : Bool) (nm : XS → List UInt8) : NV → XS → Cn → List UInt8 → List (List UInt8)
 | .mk _ _ _ _ _ _ _ _ _ _ ks _,x,c,p => shL iso nm ks (namesG 0 ks) x c p
def shL (iso : Bool) (nm : XS → List UInt8) : List NV → List (List UInt8) → XS → Cn → List UInt8 → List (List UInt8)
 | k::r,m::ms,x,c,p => if (child x k m c).any = true then (if keepX iso (child x k m c) = true then addP p (nm (child x k m c))::(if (child x k m c).isDir = true then shT iso nm k (child x k m c) (c.add (child x k m c)) (addP p (nm (child x k m c))) else []) else []) ++ shL iso nm r ms x ((c.add (child x k m c)).addL (spT k (child x k m c) (c.add (child x k m c)))) p else shL iso nm r ms x c p
 | _,_,_,_,_ => []
end
mutual
theorem spT_up : ∀ (n : NV) (x : XS) (c : Cn),okD n → x.di < c.nf → ∀ s ∈ spT n x c,s.fi < (c.addL (spT n x c)).nf
 | .mk _ _ _ _ _ _ _ _ _ _ ks _,x,c,hok,hx,s,hs => by
  simp only [spT] at hs ⊢
  exact spL_up ks _ x c ((okD_eq _).1 hok).2 hx s hs
theorem spL_up : ∀ (ks : List NV) (ms : List (List UInt8)) (x : XS) (c : Cn),okDL ks → x.di < c.nf → ∀ s ∈ spL ks ms x c,s.fi < (c.addL (spL ks ms x c)).nf
 | k::r,m::ms,x,c,hok,hx,s,hs => by
  simp only [okDL] at hok
  simp only [spL] at hs ⊢
  split at hs
  ·rename_i ha
   rw [if_pos ha,Cn.addL_cons,Cn.addL_append]
   have h1:=Cn.add_nf c (child x k m c)
   have h2:=Cn.addL_nf (spT k (child x k m c) (c.add (child x k m c))) (c.add (child x k m c))
   have h3:=Cn.addL_nf (spL r ms x ((c.add (child x k m c)).addL (spT k (child x k m c) (c.add (child x k m c))))) ((c.add (child x k m c)).addL (spT k (child x k m c) (c.add (child x k m c))))
   rcases List.mem_cons.1 hs with rfl | hs
   ·show x.di < _
    omega
   ·rcases List.mem_append.1 hs with hs | hs
    ·have hd : (child x k m c).isDir = true:=by
      cases h : (child x k m c).isDir with
      | true => rfl
      | false =>
       exfalso
       have hk : k.kids = []:=((okD_eq k).1 hok.1).1 (by have h' : (k.kind == 0) = false:=h; simpa using h')
       rw [spT_eq,hk] at hs
       simp [spL] at hs
     have h4:=spT_up k (child x k m c) (c.add (child x k m c)) hok.1 (by
      show c.nf < (c.add (child x k m c)).nf
      simp only [Cn.add,hd,if_true]; omega) s hs
     omega
    ·exact spL_up r ms x _ hok.2 (by omega) s hs
  ·rename_i ha
   rw [if_neg ha]
   exact spL_up r ms x c hok.2 hx s hs
 | [],_,_,_,_,_,s,hs => by simp [spL] at hs
 | _::_,[],_,_,_,_,s,hs => by simp [spL] at hs
end
section
variable {T : List XS} {iso : Bool} {nm : XS → List UInt8} {N : Nat}
mutual
theorem out_T : ∀ (n : NV) (x : XS) (c : Cn) (pre post : List XS) (f : Nat) (p : List UInt8),okD n → T = pre ++ (spT n x c ++ post) → x.di < c.nf → (∀ s ∈ pre,s.fi < x.di) → (∀ s ∈ post,s.fi < x.di ∨ (c.addL (spT n x c)).nf ≤ s.fi) →
  (c.addL (spT n x c)).nf ≤ N → N ≤ f + x.di → outX T iso nm f x.di p = shT iso nm n x c p
 | .mk a1 a2 a3 a4 a5 a6 a7 a8 a9 a10 ks a12,x,c,pre,post,f,p,hok,hT,hx,hpre,hpost,hN,hf => by
  have hm:=Cn.addL_nf (spT (.mk a1 a2 a3 a4 a5 a6 a7 a8 a9 a10 ks a12) x c) c
  obtain ⟨f,rfl⟩ : ∃ f',f = f' + 1:=⟨f - 1,by omega⟩
  simp only [spT] at hT hpost hN hm
  simp only [shT]
  rw [outX,← out_L ks (namesG 0 ks) x c pre post f p ((okD_eq _).1 hok).2 hT hx (fun s hs => by have:=hpre s hs; omega) (fun s hs => by rcases hpost s hs with h | h <;> omega) hN (by omega)]
  have e1 : pre.flatMap (fun s => if (s.fi == x.di && keepX iso s) = true then addP p (nm s)::(if s.isDir = true then outX T iso nm f s.di (addP p (nm s)) else []) else []) = []:=flat_nil fun s hs => by
   have:=hpre s hs
   rw [if_neg (by simp; omega)]
  have e2 : post.flatMap (fun s => if (s.fi == x.di && keepX iso s) = true then addP p (nm s)::(if s.isDir = true then outX T iso nm f s.di (addP p (nm s)) else []) else []) = []:=flat_nil fun s hs => by
   have:=hpost s hs
   rw [if_neg (by simp; omega)]
  generalize hg : (fun s : XS => if (s.fi == x.di && keepX iso s) = true then addP p (nm s)::(if s.isDir = true then outX T iso nm f s.di (addP p (nm s)) else []) else []) = g at e1 e2 ⊢
  rw [hT,List.flatMap_append,List.flatMap_append,e1,e2,List.nil_append,List.append_nil]
theorem out_L : ∀ (ks : List NV) (ms : List (List UInt8)) (x : XS) (c : Cn) (pre post : List XS) (f : Nat) (p : List UInt8),okDL ks → T = pre ++ (spL ks ms x c ++ post) → x.di < c.nf → (∀ s ∈ pre,s.fi < c.nf) → (∀ s ∈ post,s.fi ≤ x.di ∨ (c.addL (spL ks ms x c)).nf ≤ s.fi) →
  (c.addL (spL ks ms x c)).nf ≤ N → N ≤ f + 1 + x.di →
  (spL ks ms x c).flatMap (fun s => if (s.fi == x.di && keepX iso s) = true then addP p (nm s)::(if s.isDir = true then outX T iso nm f s.di (addP p (nm s)) else []) else []) = shL iso nm ks ms x c p
 | k::r,m::ms,x,c,pre,post,f,p,hok,hT,hx,hpre,hpost,hN,hf => by
  simp only [okDL] at hok
  by_cases ha : (child x k m c).any = true
  ·have hsp : spL (k::r) (m::ms) x c = child x k m c::(spT k (child x k m c) (c.add (child x k m c)) ++ spL r ms x ((c.add (child x k m c)).addL (spT k (child x k m c) (c.add (child x k m c))))):=by simp only [spL]; rw [if_pos ha]
   have hsh : shL iso nm (k::r) (m::ms) x c p = (if keepX iso (child x k m c) = true then addP p (nm (child x k m c))::(if (child x k m c).isDir = true then shT iso nm k (child x k m c) (c.add (child x k m c)) (addP p (nm (child x k m c))) else []) else []) ++ shL iso nm r ms x ((c.add (child x k m c)).addL (spT k (child x k m c) (c.add (child x k m c)))) p:=by simp only [shL]; rw [if_pos ha]
   rw [hsp] at hT hpost hN ⊢
   rw [hsh]
   rw [Cn.addL_cons,Cn.addL_append] at hN
   have hpost' : ∀ s ∈ post,s.fi ≤ x.di ∨ (((c.add (child x k m c)).addL (spT k (child x k m c) (c.add (child x k m c)))).addL (spL r ms x ((c.add (child x k m c)).addL (spT k (child x k m c) (c.add (child x k m c)))))).nf ≤ s.fi:=fun s hs => by
    have:=hpost s hs
    rwa [Cn.addL_cons,Cn.addL_append] at this
   have hfi : (child x k m c).fi = x.di:=rfl
   have hdi : (child x k m c).di = c.nf:=rfl
   have h1:=Cn.add_nf c (child x k m c)
   have h2:=Cn.addL_nf (spT k (child x k m c) (c.add (child x k m c))) (c.add (child x k m c))
   have h3:=Cn.addL_nf (spL r ms x ((c.add (child x k m c)).addL (spT k (child x k m c) (c.add (child x k m c))))) ((c.add (child x k m c)).addL (spT k (child x k m c) (c.add (child x k m c))))
   have hfiT:=spT_fi k (child x k m c) (c.add (child x k m c))
   have hnd : (child x k m c).isDir = false → spT k (child x k m c) (c.add (child x k m c)) = []:=fun h => by
    have hk : k.kids = []:=((okD_eq k).1 hok.1).1 (by have h' : (k.kind == 0) = false:=h; simpa using h')
    rw [spT_eq,hk]; simp [spL]
   have hadd : (child x k m c).isDir = true → (c.add (child x k m c)).nf = c.nf + 1:=fun h => by simp only [Cn.add,h,if_true]
   have hupT : ∀ s ∈ spT k (child x k m c) (c.add (child x k m c)),s.fi < ((c.add (child x k m c)).addL (spT k (child x k m c) (c.add (child x k m c)))).nf:=fun s hs => by
    cases hd : (child x k m c).isDir with
    | true => exact spT_up k _ _ hok.1 (by rw [hdi,hadd hd]; omega) s hs
    | false => rw [hnd hd] at hs; cases hs
   have ihL:=out_L r ms x ((c.add (child x k m c)).addL (spT k (child x k m c) (c.add (child x k m c)))) (pre ++ child x k m c::spT k (child x k m c) (c.add (child x k m c))) post f p hok.2 (by rw [hT]; simp) (by omega)
    (fun s hs => by
     rcases List.mem_append.1 hs with hs | hs
     ·have:=hpre s hs; omega
     ·rcases List.mem_cons.1 hs with rfl | hs
      ·omega
      ·exact hupT s hs) hpost' hN hf
   have ihT : (child x k m c).isDir = true → outX T iso nm f (child x k m c).di (addP p (nm (child x k m c))) = shT iso nm k (child x k m c) (c.add (child x k m c)) (addP p (nm (child x k m c))):=fun hd => by
    refine out_T k (child x k m c) (c.add (child x k m c)) (pre ++ [child x k m c]) (spL r ms x ((c.add (child x k m c)).addL (spT k (child x k m c) (c.add (child x k m c)))) ++ post) f _ hok.1 (by rw [hT]; simp) (by rw [hdi,hadd hd]; omega) (fun s hs => ?_) (fun s hs => ?_) (by omega) (by rw [hdi]; omega)
    ·rcases List.mem_append.1 hs with hs | hs
     ·exact hpre s hs
     ·rw [List.mem_singleton] at hs; subst hs; rw [hfi,hdi]; exact hx
    ·rcases List.mem_append.1 hs with hs | hs
     ·rcases spL_fi r ms x _ s hs with h | h
      ·left; rw [hdi,h]; exact hx
      ·exact .inr h
     ·rcases hpost' s hs with h | h
      ·left; rw [hdi]; omega
      ·right; omega
   have eT : (spT k (child x k m c) (c.add (child x k m c))).flatMap (fun s => if (s.fi == x.di && keepX iso s) = true then addP p (nm s)::(if s.isDir = true then outX T iso nm f s.di (addP p (nm s)) else []) else []) = []:=flat_nil fun s hs => by
    have h4 : s.fi ≠ x.di:=by
     rcases hfiT s hs with h | h
     ·rw [h,hdi]; omega
     ·omega
    rw [if_neg (by simp [h4])]
   rw [List.flatMap_cons,List.flatMap_append,ihL,eT,List.nil_append]
   congr 1
   rw [hfi]
   cases hk : keepX iso (child x k m c) with
   | false => simp
   | true =>
    rw [if_pos (by simp),if_pos rfl]
    cases hd : (child x k m c).isDir with
    | false => rfl
    | true => rw [if_pos rfl,if_pos rfl,ihT hd]
  ·have hsp : spL (k::r) (m::ms) x c = spL r ms x c:=by simp only [spL]; rw [if_neg ha]
   have hsh : shL iso nm (k::r) (m::ms) x c p = shL iso nm r ms x c p:=by simp only [shL]; rw [if_neg ha]
   rw [hsp] at hT hpost hN ⊢
   rw [hsh]
   exact out_L r ms x c pre post f p hok.2 hT hx hpre hpost hN hf
 | [],_,_,_,_,_,_,_,_,_,_,_,_,_,_ => by simp [spL,shL]
 | _::_,[],_,_,_,_,_,_,_,_,_,_,_,_,_ => by simp [spL,shL]
end
end
end Go.Tame.V
/- The paths that a plan's records show are those of the view's tree,up to their order. Plain. -/
namespace Go.Tame.V
open Go Go.Proofs
set_option maxRecDepth 10000
set_option linter.unusedVariables false
set_option linter.unusedSimpArgs false

def sortS (L : List (List UInt8)) : List (List UInt8):=L.mergeSort fun x y => decide (x ≤ y)
/-- Of three lists,place by place. -/
def Z3 (P : NV → List UInt8 → List UInt8 → Prop) : List NV → List (List UInt8) → List (List UInt8) → Prop
 | [],[],[] => True
 | k::r,m::ms,w::ws => P k m w ∧ Z3 P r ms ws
 | _,_,_ => False
theorem z3_of {P : NV → List UInt8 → List UInt8 → Prop} : ∀ {ks : List NV} {ms ws : List (List UInt8)} (h1 : ms.length = ks.length) (h2 : ws.length = ks.length),(∀ (i : Nat) (hi : i < ks.length) (h3 : i < ms.length) (h4 : i < ws.length),P ks[i] ms[i] ws[i]) → Z3 P ks ms ws
 | [],[],[],_,_,_ => trivial
 | k::r,m::ms,w::ws,h1,h2,h => ⟨h 0 (by simp) (by simp) (by simp),z3_of (by simpa using h1) (by simpa using h2) fun i hi h3 h4 => h (i + 1) (by simpa using hi) (by simpa using h3) (by simpa using h4)⟩
 | [],_::_,_,h1,_,_ => by simp at h1
 | [],[],_::_,_,h2,_ => by simp at h2
 | _::_,[],_,h1,_,_ => by simp at h1
 | _::_,_::_,[],_,h2,_ => by simp at h2
/-- The view whose tree the records show. -/
def vwE (iso : Bool) : Int:=if iso = true then 0 else 2
theorem vwE_ok (iso : Bool) : viewOk (vwE iso) = true:=by cases iso <;> decide
/-- The name that a record shows. -/
theorem nm_child {iso : Bool} {sh : Nat} {x : XS} {k : NV} {m A B w : List UInt8} (hf : IsoForm m (k.kind == 0) A B) (hk : nameOk k.name = true) (hw : w = if iso = true then m else k.name) (c : Cn) : nmE iso ((child x k m c).entV sh) = w:=by
 have hno:=name_noslash hk
 cases iso with
 | true =>
  rw [nmE,if_pos rfl,hw,if_pos rfl]
  have e : ((child x k m c).entV sh).id = (identI m ((child x k m c).isDir && !(child x k m c).mv)).1:=by
   show (if (child x k m c).mv = true then (identI m false).1 else (identI m (k.kind == 0)).1) = _
   cases hv : (child x k m c).mv with
   | true => simp
   | false => rw [if_neg (by decide)]; simp [XS.isDir,child]
  have e2 : decide (0 ≤ ((child x k m c).entV sh).dir) = ((child x k m c).isDir && !(child x k m c).mv):=by
   show decide (0 ≤ (if ((child x k m c).isDir && !(child x k m c).mv) = true then (((ixS sh (child x k m c).di : Nat) : Int)) else -1)) = _
   cases (child x k m c).isDir && !(child x k m c).mv with
   | true => rw [if_pos rfl]; simp
   | false => rfl
  rw [e,e2]
  cases hd : ((child x k m c).isDir && !(child x k m c).mv) with
  | false => rw [hf.file.name.back.2]
  | true =>
   have : (k.kind == 0) = true:=(Bool.and_eq_true _ _ ▸ hd : _ ∧ _).1
   rw [this] at hf
   rw [hf.name.back.2]
 | false =>
  rw [nmE,if_neg (by decide),hw,if_neg (by decide)]
  show baseN (Go.Tame.V.below x.path k.name (x.lv + 1)) = _
  rw [Go.Tame.V.below]
  split
  ·exact baseN_one hno
  ·exact baseN_app hno
theorem z3_kids {iso : Bool} {sh : Nat} {ks : List NV} (h64 : ks.length ≤ 64) (hok : ∀ k ∈ ks,nameOk k.name = true) : Z3 (fun k m w => w ≠ [] ∧ ∀ (x : XS) (c : Cn),nmE iso ((child x k m c).entV sh) = w) ks (namesG 0 ks) (namesG (vwE iso) ks):=by
 refine z3_of (namesG_len _ _) (namesG_len _ _) fun i hi h3 h4 => ?_
 obtain ⟨A,B,hf⟩:=names_form h64 hok hi
 have hki:=hok _ (List.getElem_mem hi)
 have hw : (namesG (vwE iso) ks)[i] = if iso = true then (namesG 0 ks)[i] else ks[i].name:=by
  cases iso with
  | true => rfl
  | false => simp only [vwE,Bool.false_eq_true,if_false,namesG23 (.inl rfl : (2 : Int) = 2 ∨ (2 : Int) = 3)]; simp
 refine ⟨?_,fun x c => nm_child hf hki hw c⟩
 rw [hw]
 cases iso with
 | true =>
  rw [if_pos rfl]
  intro e
  rw [e] at hf
  have h1:=hf.a
  rcases hf.eq with ⟨_,h⟩ | ⟨_,_,_,h⟩
  ·rw [← h] at h1; exact absurd h1 (by decide)
  ·simp at h
 | false =>
  rw [if_neg (by decide)]
  intro e
  rw [e] at hki; exact absurd hki (by decide)
mutual
theorem sh_T (iso : Bool) (sh : Nat) : ∀ (n : NV) (x : XS) (c : Cn) (p q : List UInt8),okT n → okD n → keepX iso x = true → 1 ≤ x.lv → (p = [] ↔ x.lv = 1) →
  shT iso (fun s => nmE iso (s.entV sh)) n x c p = (prsL (namesG (vwE iso)) (vwE iso) x.lv n.kids (namesG (vwE iso) n.kids) p q).map Prod.fst
 | .mk a1 a2 a3 a4 a5 a6 a7 a8 a9 a10 ks a12,x,c,p,q,ht,hd,hk,hl,hp => by
  have ht':=(okT_eq _).1 ht
  have hd':=(okD_eq _).1 hd
  simp only [shT]
  exact sh_L iso sh ks (namesG 0 ks) (namesG (vwE iso) ks) x c p q (fun k hk => (okL_get ht'.2.2.2 hk).2) hd'.2 (z3_kids ht'.1 fun k hk => (okL_get ht'.2.2.2 hk).1.1) hk hl hp
theorem sh_L (iso : Bool) (sh : Nat) : ∀ (ks : List NV) (ms ws : List (List UInt8)) (x : XS) (c : Cn) (p q : List UInt8),(∀ k ∈ ks,okT k) → okDL ks → Z3 (fun k m w => w ≠ [] ∧ ∀ (x : XS) (c : Cn),nmE iso ((child x k m c).entV sh) = w) ks ms ws → keepX iso x = true → 1 ≤ x.lv → (p = [] ↔ x.lv = 1) →
  shL iso (fun s => nmE iso (s.entV sh)) ks ms x c p = (prsL (namesG (vwE iso)) (vwE iso) x.lv ks ws p q).map Prod.fst
 | [],[],[],_,_,_,_,_,_,_,_,_,_ => by simp [shL,prsL]
 | k::r,m::ms,w::ws,x,c,p,q,ht,hd,hz,hk,hl,hp => by
  simp only [okDL] at hd
  simp only [Z3] at hz
  obtain ⟨⟨hw,hnm⟩,hz⟩:=hz
  have ihL:=fun c' => sh_L iso sh r ms ws x c' p q (fun k' hk' => ht k' (List.mem_cons_of_mem _ hk')) hd.2 hz hk hl hp
  have hkeep : keepX iso (child x k m c) = shown (vwE iso) k (x.lv + 1):=by
   cases iso with
   | true => simp only [keepX,if_true] at hk ⊢; simp only [child,hk,Bool.true_and,vwE,if_true]
   | false => simp only [keepX,Bool.false_eq_true,if_false] at hk ⊢; simp only [child,hk,Bool.true_and,vwE,Bool.false_eq_true,if_false]
  have hany : keepX iso (child x k m c) = true → (child x k m c).any = true:=fun h => by
   cases iso with
   | true => rw [keepX,if_pos rfl] at h; rw [XS.any,h]; rfl
   | false => rw [keepX,if_neg (by decide)] at h; rw [XS.any,h]; simp
  simp only [shL,prsL]
  rw [hkeep] at hany ⊢
  cases hs : shown (vwE iso) k (x.lv + 1) with
  | false =>
   have : (if false = true then addP p (nmE iso ((child x k m c).entV sh))::(if (child x k m c).isDir = true then shT iso (fun s => nmE iso (s.entV sh)) k (child x k m c) (c.add (child x k m c)) (addP p (nmE iso ((child x k m c).entV sh))) else []) else ([] : List (List UInt8))) = []:=rfl
   simp only [Bool.false_eq_true,if_false,List.nil_append]
   split <;> exact ihL _
  | true =>
   rw [if_pos (hany hs),if_pos rfl,if_pos rfl,ihL,List.map_append,hnm x c]
   congr 1
   have hadd : addP p w = joinQ p w (x.lv == 1):=by
    rw [addP,joinQ]
    by_cases h : p = []
    ·rw [if_pos h,if_pos (by simpa using hp.1 h)]
    ·rw [if_neg h,if_neg (by simpa using fun e => h (hp.2 e))]
   rw [prs_eq,List.map_cons,hadd]
   congr 1
   cases hdir : (child x k m c).isDir with
   | false =>
    have hkd : k.kids = []:=((okD_eq k).1 hd.1).1 (by have h' : (k.kind == 0) = false:=hdir; simpa using h')
    rw [hkd]; simp [prsL]
   | true =>
    rw [if_pos rfl]
    refine sh_T iso sh k (child x k m c) (c.add (child x k m c)) (joinQ p w (x.lv == 1)) (joinQ q k.name (x.lv == 1)) (ht k List.mem_cons_self) hd.1 (hkeep.trans hs) (by show 1 ≤ x.lv + 1; omega) ⟨fun e => ?_,fun e => ?_⟩
    ·exfalso
     rw [joinQ] at e
     split at e
     ·exact hw e
     ·simp at e
    ·exfalso
     have : x.lv + 1 = 1:=e
     omega
 | [],_::_,_,_,_,_,_,_,_,hz,_,_,_ => by simp [Z3] at hz
 | [],[],_::_,_,_,_,_,_,_,hz,_,_,_ => by simp [Z3] at hz
 | _::_,[],_,_,_,_,_,_,_,hz,_,_,_ => by simp [Z3] at hz
 | _::_,_::_,[],_,_,_,_,_,_,hz,_,_,_ => by simp [Z3] at hz
end
/-- What below returns at the root of a plan. -/
theorem below_shown {rr : Bool} {n : NV} (hv : valid n = true) (iso : Bool) (hio : iso = true ∨ rr = true) :
  (belowV (planV rr n).1 (planV rr n).2.1 iso ((planV rr n).1.length + 1) 0 []).Perm (pathsSL (showG (namesG (vwE iso)) (vwE iso) 1 n).kids [] 1):=by
 have hokT:=valid_okT hv
 obtain ⟨hokd,hk0⟩:=valid_okD hv
 obtain ⟨rn,T,hpl,hb,hTe,_⟩:=plan_good (rr:=rr) hv
 have hsib : Sib (rootX rr n::T):=by rw [hTe]; exact sib_spots rr hokd hk0
 rw [hpl]
 have h1:=below_out (rn:=rn) hokT hb hsib iso ((dirsP rn T).length + 1) 0 [] (Nat.zero_le _)
 rw [show ((ixS (shiftX T) 0 : Nat) : Int) = 0 from rfl] at h1
 show (belowV (dirsP rn T) (entsP rn T) iso ((dirsP rn T).length + 1) 0 []).Perm _
 rw [h1]
 have hnf : ((⟨1,1,0⟩ : Cn).addL T).nf = 1 + (dirsX T).length:=by
  have:=(CnOk.addL (m:=T) (c:=⟨1,1,0⟩) (l:=[rootX rr n]) ⟨rfl,by simp [dirsX,XS.isDir,rootX,hk0],by simp [movX,rootX]⟩).2.1
  rw [this]
  have hrd : (rootX rr n).isDir = true:=by rw [XS.isDir,rootX,hk0]; rfl
  rw [List.singleton_append,dirsX,List.filter_cons,if_pos hrd,List.length_cons,dirsX]; omega
 have h2:=out_T (T:=T) (iso:=iso) (nm:=fun s => nmE iso (s.entV (shiftX T))) (N:=1 + (dirsX T).length) n (rootX rr n) ⟨1,1,0⟩ [] [] ((dirsP rn T).length + 1) [] hokd (by rw [← hTe]; simp) (by show 0 < 1; decide) (fun s hs => by cases hs) (fun s hs => by cases hs) (by rw [← hTe,hnf]; exact Nat.le_refl _) (by
  have:=dirsP_len rn T
  show _ ≤ _ + 0; omega)
 rw [show (rootX rr n).di = 0 from rfl] at h2
 rw [h2,sh_T iso (shiftX T) n (rootX rr n) ⟨1,1,0⟩ [] [] hokT hokd (by rcases hio with rfl | rfl <;> first | rfl | (cases iso <;> rfl)) (by show (1 : Int) ≤ 1; decide) ⟨fun _ => rfl,fun _ => rfl⟩]
 have h3:=prs_shown (namesG (vwE iso)) (vwE iso) n 1 [] [] (Int.le_refl _)
 rw [prs_eq,List.map_cons,pathsS_eq] at h3
 exact h3.cons_inv
/-- Without Rock Ridge no record has attributes. -/
theorem below_none {n : NV} (hv : valid n = true) (f : Nat) : belowV (planV false n).1 (planV false n).2.1 false f 0 [] = []:=by
 have hokT:=valid_okT hv
 obtain ⟨hokd,hk0⟩:=valid_okD hv
 obtain ⟨rn,T,hpl,hb,hTe,_⟩:=plan_good (rr:=false) hv
 have hsib : Sib (rootX false n::T):=by rw [hTe]; exact sib_spots false hokd hk0
 rw [hpl]
 have h1:=below_out (rn:=rn) hokT hb hsib false f 0 [] (Nat.zero_le _)
 rw [show ((ixS (shiftX T) 0 : Nat) : Int) = 0 from rfl] at h1
 show belowV (dirsP rn T) (entsP rn T) false f 0 [] = _
 rw [h1]
 cases f with
 | zero => rfl
 | succ f =>
  rw [outX]
  refine flat_nil fun s hs => ?_
  obtain ⟨t,ht⟩:=List.mem_iff_getElem?.1 hs
  have h3:=(hb.lv_le (t + 1) s ht).2
  have h4 : s.rock = false:=by
   cases h : s.rock with
   | false => rfl
   | true => exact absurd (h3 h) (by decide)
  rw [if_neg (by simp [keepX,h4])]
/-- Lists with one content are sorted to one list. -/
theorem sortS_perm {a b : List (List UInt8)} (h : a.Perm b) : sortS a = sortS b:=by
 have tr : ∀ x y z : List UInt8,decide (x ≤ y) = true → decide (y ≤ z) = true → decide (x ≤ z) = true:=fun x y z h1 h2 => by
  simp only [decide_eq_true_eq] at *; exact List.le_trans h1 h2
 have tot : ∀ x y : List UInt8,(decide (x ≤ y) || decide (y ≤ x)) = true:=fun x y => by
  simp only [Bool.or_eq_true,decide_eq_true_eq]; exact List.le_total x y
 refine List.Perm.eq_of_pairwise (le:=fun x y : List UInt8 => decide (x ≤ y) = true) (fun x y _ _ h1 h2 => ?_) (List.pairwise_mergeSort tr tot a) (List.pairwise_mergeSort tr tot b) (((List.mergeSort_perm a _).trans h).trans (List.mergeSort_perm b _).symm)
 simp only [decide_eq_true_eq] at h1 h2
 exact List.le_antisymm h1 h2
end Go.Tame.V
/- What the kit's shelf lays of slices.Sort at texts. -/
/- The sort of a row of texts. -/
namespace Go.Tame.V
open Go Go.Proofs Go.RowKit Go.Sort Go.Lib
variable {W0 : World}
set_option linter.unusedVariables false
set_option linter.unusedSimpArgs false

theorem look1 {a : Nat} {o1 o : HObj} {s : Nat} (h : look [(a,o1)] s = some o) : s = a ∧ o = o1:=by
 simp only [look] at h
 cases h1 : Nat.beq s a with
 | true => rw [h1] at h; cases h; exact ⟨beq_true h1,rfl⟩
 | false => rw [h1] at h; cases h
theorem sortS_nil : sortS [] = []:=by simp [sortS]
/-- The sort of a piece of a row: of its elements from the o-th on. -/
theorem sort_piece (xs : List D) (hone : ∀ x ∈ xs,x.cells = [x]) (L : List (List UInt8)) (v : Value) (o cap : Nat) (a ad : Option Addr) (cy : Nat) (hv : v = .slice a xs.length cap) (hx : xs = xs.take o ++ strs L) (hl : L.length < 1000000)
  (had : L = [] ∨ ∀ b,a = some ⟨b,0,none⟩ → ad = some ⟨b,o,none⟩) :
  DCall Tryz.prog W0 56 [.raw (.slice ad L.length cy)] (look [(2000,.row v xs 1 9)]) fun d H' => d = .tup [] ∧ H' = look [(2000,.row v (xs.take o ++ strs (sortS L)) 1 9)]:=by
 refine ⟨callable Tryz.func56 rfl (by decide +kernel),fun w C args Ft hbase hlow hH hr => ?_⟩
 obtain ⟨hln,hr⟩:=hr
 match args,hln with
 | [a0],_ =>
  have h1:=(hr 0 _ a0 rfl rfl).raw_inv
  subst h1
  by_cases hL : L = []
  ·subst hL
   refine (Tryz.slices_Sort_string_none ad cy w).mono ?_
   rintro e w' ⟨rfl,rfl⟩
   refine ⟨.tuple #[],.tup [],C,_,rfl,⟨rfl,rfl⟩,.tup [] [] rfl (fun i d v hd _ => by simp at hd),.refl _ _ _,?_⟩
   rw [sortS_nil,← hx]
   exact ⟨hH.obj,hH.inj,fun s ob x ho hu => .inl (hH.foot s ob x ho hu)⟩
  have h0 : 0 < L.length:=List.length_pos_iff.2 hL
  have hade:=had.resolve_left hL
  have hrow : RowV w C v xs 1 9:=hH.obj 2000 _ rfl
  have hsl : ∀ M : List (List UInt8),(strs M).length = M.length:=fun M => by simp [strs]
  have hol : o + L.length = xs.length:=by
   have h2:=congrArg List.length hx
   rw [List.length_append,List.length_take,hsl] at h2
   have : o ≤ xs.length:=by
    rcases Nat.lt_or_ge xs.length o with h3 | h3
    ·omega
    ·exact h3
   omega
  have hot : (xs.take o).length = o:=by rw [List.length_take]; omega
  obtain ⟨b,cap',vs,hv',hc,hm,hk,hb,hvs,hC,hcells⟩:=RowV.pos hrow (i:=0) (by omega)
  rw [hv] at hv'
  simp only [Value.slice.injEq] at hv'
  obtain ⟨rfl,_,rfl⟩:=hv'
  have hade:=hade b rfl
  subst hade
  have hcap : 0 < cap:=by omega
  rw [Go.Tame.flat_one hone] at hcells
  have hget : ∀ j (hj : j < L.length),xs[o + j]? = some (.str L[j]):=fun j hj => by
   rw [hx,List.getElem?_append_right (by rw [hot]; omega),hot,Nat.add_sub_cancel_left]
   simp [strs,hj]
  have hsort:=Any.slices_Sort_string Tryz.lays190 b o cy L w (fun j hj => by
    have hj' : j < L.length:=by simpa using hj
    obtain ⟨z,h5,h6,_⟩:=hcells (o + j) _ (hget j hj')
    refine ⟨?_,by simp [World.frozen?,hb]⟩
    have hg : L.toArray[j]! = L[j]:=by simp [hj']
    rw [hg]
    simp only [World.cell?,hb]
    simp [h5,h6.str_inv,encStr]) (lt_of_heap hb) (by omega)
  have huse : ∀ (ys : List D),HObj.uses (.row (.slice (some ⟨b,0,none⟩) xs.length cap) ys 1 9) b:=fun ys => ⟨_,cap,rfl,hcap⟩
  have hFb:=hH.foot 2000 _ b rfl ⟨_,cap,hv,hcap⟩
  refine hsort.mono ?_
  rintro e w' ⟨rfl,m,os,rfl⟩
  have hSl : (sortS L).length = L.length:=List.length_mergeSort _
  have hst:=Step.sort encStr w C b o m (sortS L).toArray os hC
  have hlen : (xs.take o ++ strs (sortS L)).length = xs.length:=by rw [List.length_append,hot,hsl,hSl,hol]
  refine ⟨.tuple #[],.tup [],C,_,rfl,⟨rfl,rfl⟩,.tup [] [] rfl (fun i d v hd _ => by simp at hd),?_,⟨fun s ob ho => ?_,fun s s' ob ob' x hne h1 h2 hu hu' => ?_,fun s ob x ho hu => ?_⟩⟩
  ·exact ⟨hst.ext,hst.os,hst.tape,hst.output,fun x hx hF => hst.keep x hx fun e => by subst e; exact hF hFb⟩
  ·obtain ⟨rfl,rfl⟩:=look1 ho
   have hkn : ∀ x ∈ xs.take o ++ strs (sortS L),x.cells.length = 1 ∧ x.cells = [x]:=fun x hx' => by
    rcases List.mem_append.1 hx' with h | h
    ·rw [hone x (List.mem_of_mem_take h)]; exact ⟨rfl,rfl⟩
    ·obtain ⟨y,_,rfl⟩:=List.mem_map.1 h; exact ⟨rfl,rfl⟩
   refine ⟨some ⟨b,0,none⟩,cap,by rw [hlen]; exact hv,by rw [hlen]; exact hc,hm,fun x hx => (hkn x hx).1,fun ad had => ⟨b,by cases had; rfl,Nat.lt_of_lt_of_le (lt_of_heap hb) hst.ext.size⟩,
    fun _ => ⟨b,_,rfl,sortWorld_row _ _ _ _ _ _ _ hb,by simp only [putCells,Array.size_mapIdx]; exact hvs,hC,fun j d hd => ?_⟩⟩
   rw [Go.Tame.flat_one fun x hx => (hkn x hx).2] at hd
   have hj : j < xs.length:=by have:=lt_of_get hd; rwa [hlen] at this
   have hjv : j < vs.size:=by simp at hvs; omega
   have hsz : (sortS L).toArray.size = L.length:=by simpa using hSl
   rcases Nat.lt_or_ge j o with hlt | hge
   ·rw [List.getElem?_append_left (by rw [hot]; exact hlt),List.getElem?_take,if_pos hlt] at hd
    obtain ⟨z,h5,h6,h7⟩:=hcells j d hd
    refine ⟨z,?_,h6.ext hst.ext,h7⟩
    simp only [putCells,Array.getElem?_mapIdx,Array.getElem?_eq_getElem hjv,Option.map_some]
    rw [if_neg (by omega)]
    rw [Array.getElem?_eq_getElem hjv] at h5
    exact h5
   ·rw [List.getElem?_append_right (by rw [hot]; exact hge),hot] at hd
    have hjs : j - o < (sortS L).length:=by have:=lt_of_get hd; rwa [hsl] at this
    have hde : d = .str (sortS L)[j - o]:=by simp [strs,hjs] at hd; exact hd.symm
    subst hde
    refine ⟨encStr (sortS L)[j - o],?_,.str _,rfl⟩
    simp only [putCells,Array.getElem?_mapIdx,Array.getElem?_eq_getElem hjv,Option.map_some]
    show some (if o ≤ j ∧ j < o + (sortS L).toArray.size then encStr ((sortS L).toArray[j - o]!) else vs[j]) = _
    rw [if_pos ⟨hge,by rw [hsz]; omega⟩,getElem!_pos (sortS L).toArray (j - o) (by rw [hsz]; omega)]; rfl
  ·obtain ⟨rfl,_⟩:=look1 h1
   obtain ⟨rfl,_⟩:=look1 h2
   exact hne rfl
  ·obtain ⟨rfl,rfl⟩:=look1 ho
   obtain ⟨n',c',h8,_⟩:=hu
   rw [hv] at h8
   have:=slice_uses h8; subst this
   exact .inl hFb
theorem strs_one (L : List (List UInt8)) : ∀ x ∈ strs L,x.cells = [x]:=fun x hx => by obtain ⟨y,_,rfl⟩:=List.mem_map.1 hx; rfl
/-- The sort of a row of texts. -/
theorem G56 (L : List (List UInt8)) (a : Option Addr) (n cap : Nat) (hn : n = L.length) (hl : L.length < 1000000) :
  DCall Tryz.prog W0 56 [.raw (.slice a n cap)] (look [(2000,.row (.slice a n cap) (strs L) 1 9)]) fun d H' => d = .tup [] ∧ H' = look [(2000,.row (.slice a n cap) (strs (sortS L)) 1 9)]:=by
 subst hn
 have:=sort_piece (W0:=W0) (strs L) (strs_one L) L (.slice a L.length cap) 0 cap a a cap (by simp [strs]) (by simp) hl (.inr fun b h => h)
 simpa using this
/-- The sort of a row of texts without its first. -/
theorem G56t (x : List UInt8) (L : List (List UInt8)) (a : Option Addr) (n cap m : Nat) (hn : n = L.length + 1) (hc : n ≤ cap) (hm : m = L.length) (hl : L.length < 1000000) :
  DCall Tryz.prog W0 56 [.raw (.slice (if cap = 1 then a else a.map (·.add (1 * 1))) m (cap - 1))] (look [(2000,.row (.slice a n cap) (strs (x::L)) 1 9)]) fun d H' => d = .tup [] ∧ H' = look [(2000,.row (.slice a n cap) (strs (x::sortS L)) 1 9)]:=by
 subst hn
 subst hm
 have:=sort_piece (W0:=W0) (strs (x::L)) (strs_one _) L (.slice a (L.length + 1) cap) 1 cap a (if cap = 1 then a else a.map (·.add (1 * 1))) (cap - 1) (by simp [strs]) (by simp [strs]) hl (by
  rcases L with _ | ⟨y,L⟩
  ·exact .inl rfl
  ·right
   rintro b rfl
   rw [if_neg (by simp at hc; omega)]
   rfl)
 simpa [strs] using this
end Go.Tame.V
/- The reference's order of any kids. Plain. -/
namespace Go.Tame.V
open Go Go.Proofs
set_option maxRecDepth 10000
set_option linter.unusedVariables false
set_option linter.unusedSimpArgs false

end Go.Tame.V
/- Contracts: the reference's order of any kids. By program (mkrt.py,mk.py). -/
namespace Go.Tame.V
open Go Go.Proofs
variable {W0 : World}
set_option maxRecDepth 10000
set_option linter.unusedVariables false
set_option linter.unusedSimpArgs false

end Go.Tame.V
/- Contracts: the reference's Physical,Needed. By program (mkrs.py,mk.py). -/
namespace Go.Tame.V
open Go Go.Proofs
variable {W0 : World}
set_option maxRecDepth 10000
set_option linter.unusedVariables false
set_option linter.unusedSimpArgs false

end Go.Tame.V
/- Contracts: the reference's Names of any kids; its Identifiers. By program (mkru.py,mk.py). -/
namespace Go.Tame.V
open Go Go.Proofs
variable {W0 : World}
set_option maxRecDepth 10000
set_option linter.unusedVariables false
set_option linter.unusedSimpArgs false

end Go.Tame.V
/- Contracts: what the records show (below),the reference's Name at good identifiers,the reference's Paths as a row. By program (mkrx.py,mk.py). -/
namespace Go.Tame.V
open Go Go.Proofs
variable {W0 : World}
set_option maxRecDepth 10000
set_option linter.unusedVariables false
set_option linter.unusedSimpArgs false

theorem DCall.freshX {f : FuncId} {ds : List D} {Q : D → Heap → Prop} {H : Heap} {k s : Nat} (h : H s = none) (hc : DCall Tryz.prog W0 f ds Heap.none Q) : DCall Tryz.prog W0 f ds (handed H [(k,s)]) Q:=by
 have e : handed H [(k,s)] = Heap.none:=by
  funext j
  simp only [handed,Heap.none]
  cases Nat.beq j k <;> simp [h]
 rw [e]; exact hc
theorem take_end (x : List UInt8) (a b : UInt8) : (List.take (((x ++ [a,b]).length : Nat) : Int).toNat (x ++ [a,b])).drop ((((x ++ [a,b]).length : Nat) : Int) - 2).toNat = [a,b]:=by
 have h : ((((x ++ [a,b]).length : Nat) : Int) - 2).toNat = x.length:=by simp
 rw [h,Int.toNat_natCast,List.take_length,List.drop_left']
 rfl
theorem take_front (x y : List UInt8) {n : Int} (h : n = x.length) : (List.take n.toNat (x ++ y)).drop (Int.toNat 0) = x:=by
 subst h
 rw [Int.toNat_natCast,List.take_left']
 ·rfl
 ·rfl
set_option maxHeartbeats 4000000 in
theorem G107d {m A B : List UInt8} (h : IsoForm m true A B) : DFun Tryz.prog W0 107 [.str m,.bool true] (.tup [.str m,.int .i64 0]):=by
 refine DFun.intro ti2_ok Tryz.func107 rfl (by decide +kernel) Tryz.ntmps107 rfl fun Γ => ?_
 refine Tri.seq ?_
 refine Tri.region ti2_ok ?_
 conv => whnf
 refine Tri.seq ?_
 refine Tri.region ti2_ok ?_
 conv => whnf
 refine Tri.joinK (α:=Unit) (fun x => [(0,.str m),(1,.bool true),(6,.str m)]) (fun x => []) ?_ ?_
 ·refine Tri.seq ?_
  refine Tri.region ti2_ok ?_
  conv => whnf
  refine ⟨fun h => h,?_⟩
  conv => whnf
  refine ⟨fun h => h,?_⟩
  conv => whnf
  refine ⟨fun h0 h => by first | exact h | (rw [h]; rfl) | (rw [h0,h]; rfl),?_⟩
  conv => whnf
  refine ⟨fun h => h,?_⟩
  conv => whnf
  refine ⟨fun h => h,?_⟩
  conv => whnf
  refine .inl ⟨fun h => by first | (cases h; done) | (simp at h; done),?_⟩
  conv => whnf
  refine ⟨fun h => h,?_⟩
  conv => whnf
  refine ⟨fun h => h,?_⟩
  conv => whnf
  refine ⟨fun h => by first | (cases h; done) | (simp at h; done),?_⟩
  conv => whnf
  refine ⟨fun h => h,?_⟩
  conv => whnf
  refine ⟨fun h0 h => by first | exact h | (rw [h]; rfl) | (rw [h0,h]; rfl),?_⟩
  conv => whnf
  refine Tri.cond false (congrArg D.bool (by simp)) (fun hc => ?_) (fun hc => ?_)
  ·cases hc
  ·refine Tri.skip ?_
   conv => whnf
   exact ⟨(),[],⟨.refl _,.refl _,.refl _,trivial⟩,rfl,trivial⟩
 ·rintro ⟨⟩
  refine Tri.seq ?_
  refine Tri.region ti2_ok ?_
  conv => whnf
  refine ⟨[.str m,.bool true],_,fun _ => G98 h,⟨.refl _,.refl _,trivial⟩,?_⟩
  conv => whnf
  refine Tri.seq ?_
  refine Tri.seq ?_
  refine Tri.region ti2_ok ?_
  conv => whnf
  refine ⟨fun h => h,?_⟩
  conv => whnf
  refine ⟨fun h => h,?_⟩
  conv => whnf
  refine ⟨fun h0 h => by first | exact h | (rw [h]; rfl) | (rw [h0,h]; rfl),?_⟩
  conv => whnf
  refine Tri.cond false (congrArg D.bool (by have:=h.name.back.1; have e:=h.ident; rw [idOf,if_pos rfl] at e; rw [this,e]; simp)) (fun hc => ?_) (fun hc => ?_)
  ·cases hc
  ·refine Tri.skip ?_
   conv => whnf
   refine Tri.seq ?_
   refine Tri.region ti2_ok ?_
   conv => whnf
   refine Tri.ret ?_
   conv => whnf
   exact ⟨.refl _,.refl _,trivial⟩
set_option maxHeartbeats 4000000 in
theorem G107f {m A B x : List UInt8} (h : IsoForm m false A B) (hx : x = if hasDot m = true then m else m ++ [46]) : DFun Tryz.prog W0 107 [.str (x ++ [59,49]),.bool false] (.tup [.str m,.int .i64 0]):=by
 refine DFun.intro ti2_ok Tryz.func107 rfl (by decide +kernel) Tryz.ntmps107 rfl fun Γ => ?_
 have hid : (identI m false).1 = x ++ [59,49]:=by
  rw [h.ident,idOf_f,hx]; split <;> simp
 have hml:=h.len
 have hxl : x.length ≤ 13:=by rw [hx]; split <;> (try simp) <;> omega
 refine Tri.seq ?_
 refine Tri.region ti2_ok ?_
 conv => whnf
 refine Tri.seq ?_
 refine Tri.region ti2_ok ?_
 conv => whnf
 refine Tri.joinK (α:=Unit) (fun y => [(0,.str (x ++ [59,49])),(1,.bool false),(6,.str m)]) (fun y => []) ?_ ?_
 ·refine Tri.seq ?_
  refine Tri.region ti2_ok ?_
  conv => whnf
  refine ⟨fun h => h,?_⟩
  conv => whnf
  refine ⟨fun h => h,?_⟩
  conv => whnf
  refine ⟨fun h0 h => by first | exact h | (rw [h]; rfl) | (rw [h0,h]; rfl),?_⟩
  conv => whnf
  refine ⟨fun h => h,?_⟩
  conv => whnf
  refine ⟨fun h => h,?_⟩
  conv => whnf
  refine .inl ⟨fun h => by simp [InR]; omega,?_⟩
  conv => whnf
  refine ⟨fun h => h,?_⟩
  conv => whnf
  refine ⟨fun h => h,?_⟩
  conv => whnf
  refine ⟨fun h => by simp; omega,?_⟩
  conv => whnf
  refine ⟨fun h => h,?_⟩
  conv => whnf
  refine ⟨fun h0 h => by first | exact h | (rw [h]; rfl) | (rw [h0,h]; rfl),?_⟩
  conv => whnf
  refine Tri.cond true (congrArg D.bool (by rw [take_end]; simp; omega)) (fun hc => ?_) (fun hc => ?_)
  ·refine Tri.seq ?_
   refine Tri.region ti2_ok ?_
   conv => whnf
   refine .inl ⟨fun _ => by simp [InR]; omega,?_⟩
   conv => whnf
   refine ⟨fun _ => by simp; omega,?_⟩
   conv => whnf
   rw [take_front x [59,49] (by simp)]
   by_cases hd : hasDot m = true
   ·have hxm : x = m:=by rw [hx,if_pos hd]
    rw [hxm]
    obtain ⟨hdB,hmB⟩:=h.dots
    have hB:=hdB.1 hd
    rw [if_neg hB] at hmB
    have hl0 : 0 < m.length:=by rw [hmB]; simp; omega
    have hlast : m[m.length - 1] ≠ 46:=fun e => by
     have h1 : m.getLast? = some 46:=by rw [List.getLast?_eq_getElem?,List.getElem?_eq_getElem (by omega),e]
     rw [hmB,List.getLast?_append,List.getLast?_cons] at h1
     cases hl : B.getLast? with
     | none => rw [List.getLast?_eq_none_iff] at hl; exact hB hl
     | some z =>
      rw [hl] at h1
      simp at h1
      exact h.nb (h1 ▸ List.mem_of_getLast? hl)
    refine Tri.seq ?_
    refine Tri.region ti2_ok ?_
    conv => whnf
    refine ⟨fun h => h,?_⟩
    conv => whnf
    refine ⟨fun h => h,?_⟩
    conv => whnf
    refine .inl ⟨fun h => by simp [InR]; omega,?_⟩
    conv => whnf
    refine ⟨fun h => h,?_⟩
    conv => whnf
    refine ⟨fun h => h,?_⟩
    conv => whnf
    refine ⟨m[m.length - 1],fun h => ⟨by omega,by
     have : ((m.length : Int) - 1).toNat = m.length - 1:=by omega
     rw [this,List.getElem?_eq_getElem (by omega)]⟩,?_⟩
    conv => whnf
    refine ⟨fun h => h,?_⟩
    conv => whnf
    refine ⟨fun h0 h => by first | exact h | (rw [h]; rfl) | (rw [h0,h]; rfl),?_⟩
    conv => whnf
    refine Tri.cond false (congrArg D.bool (by
     have h1 : ((((m[m.length - 1]).toNat : Nat) : Int) == 46) = false:=by
      rw [beq_eq_false_iff_ne]; intro e; exact hlast (UInt8.toNat.inj (by have h46 : (46 : UInt8).toNat = 46:=rfl; omega))
     rw [h1]; simp)) (fun hc => ?_) (fun hc => ?_)
    ·cases hc
    ·refine Tri.skip ?_
     conv => whnf
     exact ⟨(),[],⟨.refl _,.refl _,.refl _,trivial⟩,rfl,trivial⟩
   have hxm : x = m ++ [46]:=by rw [hx,if_neg hd]
   rw [hxm]
   refine Tri.seq ?_
   refine Tri.region ti2_ok ?_
   conv => whnf
   refine ⟨fun h => h,?_⟩
   conv => whnf
   refine ⟨fun h => h,?_⟩
   conv => whnf
   refine .inl ⟨fun h => by simp [InR]; omega,?_⟩
   conv => whnf
   refine ⟨fun h => h,?_⟩
   conv => whnf
   refine ⟨fun h => h,?_⟩
   conv => whnf
   refine ⟨46,fun h => ⟨by simp,by simp⟩,?_⟩
   conv => whnf
   refine ⟨fun h => h,?_⟩
   conv => whnf
   refine ⟨fun h0 h => by first | exact h | (rw [h]; rfl) | (rw [h0,h]; rfl),?_⟩
   conv => whnf
   refine Tri.cond true (congrArg D.bool (by simp)) (fun hc => ?_) (fun hc => ?_)
   ·refine Tri.region ti2_ok ?_
    conv => whnf
    refine .inl ⟨fun _ => by simp [InR]; omega,?_⟩
    conv => whnf
    refine ⟨fun _ => by simp; omega,?_⟩
    conv => whnf
    refine ⟨(),[],⟨?_,.refl _,DLe.of_eq (congrArg D.str (take_front m [46] (by simp))),trivial⟩,rfl,trivial⟩
    exact .refl _
   ·cases hc
  ·cases hc
 ·rintro ⟨⟩
  refine Tri.seq ?_
  refine Tri.region ti2_ok ?_
  conv => whnf
  refine ⟨[.str m,.bool false],_,fun _ => G98 h,⟨.refl _,.refl _,trivial⟩,?_⟩
  conv => whnf
  refine Tri.seq ?_
  refine Tri.seq ?_
  refine Tri.region ti2_ok ?_
  conv => whnf
  refine ⟨fun h => h,?_⟩
  conv => whnf
  refine ⟨fun h => h,?_⟩
  conv => whnf
  refine ⟨fun h0 h => by first | exact h | (rw [h]; rfl) | (rw [h0,h]; rfl),?_⟩
  conv => whnf
  refine Tri.cond false (congrArg D.bool (by rw [h.name.back.1,hid]; simp)) (fun hc => ?_) (fun hc => ?_)
  ·cases hc
  ·refine Tri.skip ?_
   conv => whnf
   refine Tri.seq ?_
   refine Tri.region ti2_ok ?_
   conv => whnf
   refine Tri.ret ?_
   conv => whnf
   exact ⟨.refl _,.refl _,trivial⟩
theorem G107 {m A B : List UInt8} {d : Bool} (h : IsoForm m d A B) : DFun Tryz.prog W0 107 [.str (idOf m d),.bool d] (.tup [.str m,.int .i64 0]):=by
 cases d with
 | true => rw [idOf,if_pos rfl]; exact G107d h
 | false =>
  have:=G107f (W0:=W0) h (x:=if hasDot m = true then m else m ++ [46]) rfl
  rw [idOf_f]
  split
  ·rename_i hd; rw [if_pos hd] at this; exact this
  ·rename_i hd; rw [if_neg hd] at this; simpa using this
set_option maxHeartbeats 4000000 in
theorem G70r (n : NV) (hz : sz n < 10000000) (p : List UInt8) (l : Int) (hl : 1 ≤ l) (hp : p.length + sz n < 100000000) (hls : l + sz n < 1000000000) : DCall Tryz.prog W0 70 [encTop n,.str p,.int .i64 l] Heap.none fun d H' => ∃ v,d = .raw v ∧ H' = look [(2000,.row v (strs (pathsS n p l)) 1 9)]:=by
 refine DCall.intro ti_ok Tryz.func70 rfl (by decide +kernel) Tryz.ntmps70 rfl fun Γ => ?_
 refine Tri.seq ?_
 refine Tri.region ti_ok ?_
 conv => whnf
 intro b3
 conv => whnf
 refine Tri.seq ?_
 refine Tri.regionG ti2_ok ?_
 conv => whnf
 refine ⟨rfl,trivial,.inl ?_⟩
 conv => whnf
 refine ⟨rfl,trivial,.inr (XOp.buildRowS (q:=1000) ti2_ok rfl rfl rfl rfl rfl rfl ?_)⟩
 conv => whnf
 refine ⟨rfl,trivial,fun q0 => ?_⟩
 conv => whnf
 refine ⟨rfl,trivial,.inl ?_⟩
 conv => whnf
 refine Tri.seq ?_
 refine Tri.seq ?_
 refine Tri.region ti_ok ?_
 conv => whnf
 refine Tri.block ?_
 refine Tri.loopK (α:={ i : Nat // i ≤ n.kids.length } × Option Addr × Nat × Nat) (fun x => [(1,.str p),(2,.int .i64 l),(3,.box 3 b3 0),(7,.raw (.slice x.2.1 x.2.2.1 x.2.2.2)),(8,.int .i64 x.1.1)]) (fun x => [(3,.box b3 (cellsN n)),(1000,.row (.slice x.2.1 x.2.2.1 x.2.2.2) (strs (p::pathsSL (n.kids.take x.1.1) p l)) 1 9)]) (fun x => n.kids.length - x.1.1) (⟨0,Nat.zero_le _⟩,some ⟨q0,0,none⟩,1,1) [(3,3),(1000,1000)]
  ⟨⟨.refl _,.refl _,.refl _,.refl _,.refl _,trivial⟩,rfl,rfl,rfl,rfl,by simp [pathsSL,strs]; rfl,trivial⟩ ?_
 rintro ⟨⟨i,hi⟩,aa,n1,cap⟩
 dsimp only at hi ⊢
 refine Tri.seq ?_
 refine Tri.seq ?_
 refine Tri.region ti_ok ?_
 conv => whnf
 refine ⟨rfl,?_⟩
 conv => whnf
 refine Tri.cond _ rfl (fun hc => ?_) (fun hc => ?_)
 ·refine Tri.skip ?_
  have hia : i < n.kids.length:=by simpa using hc
  have hkz:=kid_sz hia
  have hbl:=below_len p n.kids[i].name (l + 1)
  have hnx:=pathsSL_next hia p l
  have hll:=pathsSL_len (n.kids.take i) p l
  have hlt:=cntL_take n.kids i
  have hcz:=cntL_sz n.kids
  have hsze:=sz_eq n
  have hkl:=pathsS_len n.kids[i] (below p n.kids[i].name (l + 1)) (l + 1)
  have hks:=cnt_sz n.kids[i]
  have hkk:=szL_len n.kids
  have hne : 0 < (strs (pathsS n.kids[i] (below p n.kids[i].name (l + 1)) (l + 1))).length:=by rw [pathsS_eq]; simp [strs]
  conv => whnf
  refine Tri.seq ?_
  refine Tri.block ?_
  refine Tri.drawTailX ti_ok 18 mixed (by kernel_rfl) ?_
  conv => whnf
  refine ⟨rfl,?_⟩
  conv => whnf
  refine ⟨fun _ => by simp; omega,?_⟩
  conv => whnf
  refine ⟨encTop n.kids[i],fun _ => get_kids hia,?_⟩
  conv => whnf
  refine ⟨rfl,?_⟩
  conv => whnf
  refine ⟨fun _ => by simp; omega,?_⟩
  conv => whnf
  refine ⟨encTop n.kids[i],fun _ => get_kids hia,?_⟩
  conv => whnf
  refine ⟨[.str p,.str n.kids[i].name,.int .i64 l],_,fun _ => F68 p n.kids[i].name l (by omega) hl,⟨.refl _,.refl _,.refl _,trivial⟩,?_⟩
  conv => whnf
  refine .inl ⟨fun _ => by simp only [InR]; omega,?_⟩
  conv => whnf
  refine ⟨[encTop n.kids[i],.str (below p n.kids[i].name (l + 1)),.int .i64 (l + 1)],_,fun _ => F46 (sz n.kids[i] + 1) n.kids[i] (Nat.lt_succ_self _) (by omega) (below p n.kids[i].name (l + 1)) (l + 1) (by omega) (by omega) (by omega),⟨.refl _,.refl _,.refl _,trivial⟩,?_⟩
  conv => whnf
  refine .inr (XOp.rowAppend ti2_ok 1000 rfl rfl rfl (fun h => by cases h) rfl rfl rfl hne (by show (_ + _) * 16 ≤ _; simp [strs]; omega) (by show _ + _ ≤ _; simp [strs]; omega) fun aa2 m2 cap2 => ?_)
  conv => whnf

  conv => whnf
  refine Tri.region ti_ok ?_
  conv => whnf
  refine .inl ⟨fun _ => by simp only [InR]; omega,?_⟩
  conv => whnf
  have he : strs (p::pathsSL (n.kids.take i) p l) ++ strs (pathsS n.kids[i] (below p n.kids[i].name (l + 1)) (l + 1)) = strs (p::pathsSL (n.kids.take (i + 1)) p l):=by rw [hnx]; simp [strs]
  exact ⟨(⟨i + 1,hia⟩,aa2,m2,cap2),[(3,3),(1000,36)],by show n.kids.length - (i + 1) < n.kids.length - i; omega,⟨.refl _,.refl _,.refl _,.refl _,.refl _,trivial⟩,rfl,rfl,rfl,rfl,congrArg (fun z => some (HObj.row (.slice aa2 m2 cap2) z 1 9)) he,trivial⟩
 ·refine Tri.exit ?_
  conv => whnf
  refine Tri.seq ?_
  refine Tri.region ti_ok ?_
  conv => whnf
  have hin : i = n.kids.length:=by simp at hc; omega
  have e : n.kids.take i = n.kids:=List.take_of_length_le (by omega)
  rw [e,← pathsS_eq]
  refine Tri.retK [(6,.raw (.slice aa n1 cap))] [(2000,.row (.slice aa n1 cap) (strs (pathsS n p l)) 1 9)] [(2000,1000)] ⟨⟨.refl _,trivial⟩,rfl,rfl,rfl,trivial⟩ ?_
  conv => whnf
  exact ⟨_,.refl _,_,rfl,rfl⟩
theorem G25r (n : NV) (hn : Fits n) (hv : valid n = true) : DCall Tryz.prog W0 25 [encTop n] Heap.none fun d H' => ∃ v,d = .raw v ∧ H' = look [(2000,.row v (strs (pathsS n [] 1)) 1 9)]:=by
 refine DCall.intro ti_ok Tryz.func25 rfl (by decide +kernel) Tryz.ntmps25 rfl fun Γ => ?_
 refine Tri.seq ?_
 refine Tri.region ti_ok ?_
 conv => whnf
 intro b1
 conv => whnf
 refine Tri.seq ?_
 refine Tri.seq ?_
 refine Tri.region ti_ok ?_
 conv => whnf
 refine ⟨rfl,?_⟩
 conv => whnf
 refine ⟨[encTop n],_,fun _ => F20 n hn,⟨.refl _,trivial⟩,?_⟩
 conv => whnf
 refine Tri.cond false (congrArg D.bool (by rw [hv]; rfl)) (fun hc => ?_) (fun hc => ?_)
 ·cases hc
 ·refine Tri.skip ?_
  conv => whnf
  refine Tri.seq ?_
  refine Tri.regionX ti_ok ?_
  conv => whnf
  refine .inl ⟨rfl,?_⟩
  conv => whnf
  refine .inr (XOp.call rfl [encTop n,.str [],.int .i64 1] [(2000,7)] (DCall.freshX rfl (G70r n (by unfold Fits at hn; omega) [] 1 (by decide) (by unfold Fits at hn; simp; omega) (by unfold Fits at hn; omega))) rfl ⟨.refl _,.refl _,.refl _,trivial⟩ ?_)
  rintro d H' ⟨v,rfl,rfl⟩
  refine ⟨.raw v,.refl _,?_⟩
  conv => whnf
  refine Tri.retK [(2,.raw v)] [(2000,.row v (strs (pathsS n [] 1)) 1 9)] [(2000,7)] ⟨⟨.refl _,trivial⟩,rfl,rfl,rfl,trivial⟩ ?_
  conv => whnf
  exact ⟨_,.refl _,_,rfl,rfl⟩
theorem G109 (y : DirV) (e : EntV) : DFun Tryz.prog W0 109 [encDir y,.elm 7 [encEnt e] 0 0] (.bool (y.path == e.path)):=by
 refine DFun.intro ti2_ok Tryz.func109 rfl (by decide +kernel) Tryz.ntmps109 rfl fun Γ => ?_
 refine Tri.seq ?_
 refine Tri.region ti2_ok ?_
 conv => whnf
 intro b1
 conv => whnf
 refine Tri.seq ?_
 refine Tri.region ti2_ok ?_
 conv => whnf
 refine ⟨rfl,?_⟩
 conv => whnf
 refine ⟨encEnt e,fun _ => rfl,?_⟩
 conv => whnf
 refine Tri.ret ?_
 conv => whnf
 exact .refl _
/-- What the records and directories must be for 'below' to do what it says. -/
structure BelowOk (DL : List DirV) (EL : List EntV) (iso : Bool) : Prop where
 hD : DL.length < 1000000
 hE : EL.length < 1000000
 sz : ∀ e ∈ EL,e.id.length < 1000000 ∧ e.path.length < 1000000
 up : ∀ e ∈ EL,(if iso = true then !e.hid else e.att) = true → 0 ≤ toE DL e → e.inn < toE DL e ∧ toE DL e < DL.length
 name : iso = true → ∀ e ∈ EL,e.hid = false → ∃ m A B,IsoForm m (decide (0 ≤ e.dir)) A B ∧ e.id = idOf m (decide (0 ≤ e.dir))
theorem baseN_len (p : List UInt8) : (baseN p).length ≤ p.length:=by simp [baseN]
theorem nmE_len {DL : List DirV} {EL : List EntV} {iso : Bool} (h : BelowOk DL EL iso) {e : EntV} (he : e ∈ EL) (hk : (if iso = true then !e.hid else e.att) = true) : (nmE iso e).length < 1000000:=by
 cases iso with
 | true =>
  obtain ⟨m,A,B,hf,hid⟩:=h.name rfl e he (by simpa using hk)
  rw [nmE,if_pos rfl,hid,← hf.ident,hf.name.back.2]
  have:=hf.len
  show m.length < _; omega
 | false =>
  rw [nmE,if_neg (by decide)]
  have:=baseN_len e.path
  have:=(h.sz e he).2
  omega
theorem flat_next {α β : Type} (g : α → List β) {l : List α} {i : Nat} (h : i < l.length) : (l.take (i + 1)).flatMap g = (l.take i).flatMap g ++ g l[i]:=by
 rw [List.take_succ_eq_append_getElem h,List.flatMap_append,List.flatMap_singleton]
theorem flat_len {α β : Type} (g : α → List β) (l : List α) (i : Nat) : ((l.take i).flatMap g).length ≤ (l.flatMap g).length:=by
 have:=congrArg (fun x => (List.flatMap g x).length) (List.take_append_drop i l)
 simp only [List.flatMap_append,List.length_append] at this
 omega
theorem lastAt_bound (s : List UInt8) (c : UInt8) : ∀ k : Nat,-1 ≤ lastAt s c k ∧ lastAt s c k < k
 | 0 => ⟨by simp [lastAt],by simp [lastAt]⟩
 | k + 1 => by
  have:=lastAt_bound s c k
  rw [lastAt]
  split
  ·exact ⟨by omega,by omega⟩
  ·exact ⟨this.1,by omega⟩
set_option maxHeartbeats 8000000 in
theorem G55 {DL : List DirV} {EL : List EntV} {iso : Bool} (hB : BelowOk DL EL iso) : ∀ (f : Nat) (a : Int) (p : List UInt8) (c : Int) (lb : Nat) (h0 : 0 ≤ a) (ha : a < DL.length) (hf : (DL.length : Int) ≤ a + f) (hp : p.length + f * 1000001 < 100000000000000) (hc : ((belowV DL EL iso f a p).length : Int) ≤ c) (hc2 : c ≤ 1000),DCall Tryz.prog W0 55 [.sl .none 6 (DL.map encDir),.sl .none 7 (EL.map encEnt),.int .i64 a,.str p,.bool iso,.box 3000 lb 0] (look [(3000,.box lb [.int .i64 c])]) fun d H' => d = .sl .none 1 (strs (belowV DL EL iso f a p)) ∧ H' = look [(3000,.box lb [.int .i64 (c - ((belowV DL EL iso f a p).length : Nat))])]:=by
 refine fun f => Nat.rec (fun a p c lb h0 ha hf => absurd ha (by have : ((Nat.zero : Nat) : Int) = 0:=rfl; omega)) (fun f ih a p c lb h0 ha hf hp hc hc2 => ?_) f
 have hDn:=hB.hD
 have hEn:=hB.hE
 have hbel : belowV DL EL iso (f + 1) a p = EL.flatMap (oneE DL iso (belowV DL EL iso f) a p):=rfl
 have hc : ((belowV DL EL iso (f + 1) a p).length : Int) ≤ c:=hc
 have hp : p.length + (f + 1) * 1000001 < 100000000000000:=hp
 have hf : (DL.length : Int) ≤ a + ((f + 1 : Nat) : Int):=hf
 refine DCall.intro ti2_ok Tryz.func55 rfl (by decide +kernel) Tryz.ntmps55 rfl fun Γ => ?_
 refine Tri.seq ?_
 refine Tri.region ti2_ok ?_
 conv => whnf
 refine Tri.seq ?_
 refine Tri.region ti2_ok ?_
 conv => whnf
 refine Tri.seq ?_
 refine Tri.seq ?_
 refine Tri.region ti2_ok ?_
 conv => whnf
 refine Tri.own 13 1000 1 9 rfl (fun w => ?_)
 refine Tri.block ?_
 refine Tri.loopK (α:={ i : Nat // i ≤ EL.length } × Value) (fun x => [(0,.sl .none 6 (DL.map encDir)),(1,.sl .none 7 (EL.map encEnt)),(2,.int .i64 a),(3,.str p),(4,.bool iso),(5,.box 3000 lb 0),(13,.sl (.own 1000 x.2) 1 (strs ((EL.take x.1.1).flatMap (oneE DL iso (belowV DL EL iso f) a p)))),(19,.sl .none 7 (EL.map encEnt)),(20,.int .i64 (EL.map encEnt).length),(21,.int .i64 x.1.1)]) (fun x => [(3000,.box lb [.int .i64 (c - (((EL.take x.1.1).flatMap (oneE DL iso (belowV DL EL iso f) a p)).length : Nat))]),(1000,.own x.2 (strs ((EL.take x.1.1).flatMap (oneE DL iso (belowV DL EL iso f) a p))).length 1 9)]) (fun x => EL.length - x.1.1) (⟨0,Nat.zero_le _⟩,w) [(3000,3000),(1000,1000)]
  ⟨⟨.refl _,.refl _,.refl _,.refl _,.refl _,.refl _,.refl _,.refl _,.refl _,.refl _,trivial⟩,rfl,rfl,congrArg (fun z => some (HObj.box lb [.int .i64 z])) (by simp),rfl,rfl,trivial⟩ ?_
 rintro ⟨⟨i,hi⟩,w⟩
 dsimp only at hi ⊢
 have hfl:=flat_len (oneE DL iso (belowV DL EL iso f) a p) EL i
 rw [← hbel] at hfl
 have hOI : (EL.take i).flatMap (oneE DL iso (belowV DL EL iso f) a p) = (EL.take i).flatMap (oneE DL iso (belowV DL EL iso f) a p):=rfl
 generalize hOIe : (EL.take i).flatMap (oneE DL iso (belowV DL EL iso f) a p) = OI at *
 have hOl : (strs OI).length = OI.length:=by simp [strs]
 refine Tri.seq ?_
 refine Tri.region ti2_ok ?_
 conv => whnf
 refine Tri.seq ?_
 refine Tri.cond _ rfl (fun hc => ?_) (fun hc => ?_)

 ·refine Tri.skip ?_
  conv => whnf
  have hia : i < EL.length:=by simpa using hc
  have heM : EL[i] ∈ EL:=List.getElem_mem hia
  have hnx:=flat_next (oneE DL iso (belowV DL EL iso f) a p) hia
  rw [hOIe] at hnx
  have hfl2:=flat_len (oneE DL iso (belowV DL EL iso f) a p) EL (i + 1)
  rw [← hbel,hnx,List.length_append] at hfl2
  have hget : (EL.map encEnt)[i]? = some (encEnt EL[i]):=by simp [hia]
  generalize EL[i] = e at *
  refine Tri.seq ?_
  refine Tri.block ?_
  refine Tri.seq ?_
  refine Tri.region ti2_ok ?_
  conv => whnf
  refine ⟨fun _ => by simp; omega,?_⟩
  conv => whnf
  refine ⟨encEnt e,fun _ => by rw [Int.toNat_natCast]; exact hget,?_⟩
  conv => whnf
  intro bx
  conv => whnf
  refine ⟨rfl,?_⟩
  conv => whnf
  refine Tri.seq ?_
  refine Tri.seq ?_
  refine Tri.region ti2_ok ?_
  conv => whnf
  refine ⟨rfl,?_⟩
  conv => whnf
  refine ⟨fun h => h,?_⟩
  conv => whnf
  refine ⟨fun h => h,?_⟩
  conv => whnf
  refine ⟨rfl,?_⟩
  conv => whnf
  refine ⟨fun h => h,?_⟩
  conv => whnf
  refine ⟨fun h0 h => by first | exact h | (rw [h]; rfl) | (rw [h0,h]; rfl),?_⟩
  conv => whnf
  refine ⟨fun h => h,?_⟩
  conv => whnf
  refine ⟨fun h => h,?_⟩
  conv => whnf
  refine ⟨rfl,?_⟩
  conv => whnf
  refine ⟨fun h => h,?_⟩
  conv => whnf
  refine ⟨fun h0 h => by first | exact h | (rw [h]; rfl) | (rw [h0,h]; rfl),?_⟩
  conv => whnf
  refine ⟨fun h0 h => by first | exact h | (rw [h]; rfl) | (rw [h0,h]; rfl),?_⟩
  conv => whnf
  refine ⟨fun h => h,?_⟩
  conv => whnf
  refine ⟨fun h => h,?_⟩
  conv => whnf
  refine ⟨fun h => h,?_⟩
  conv => whnf
  refine ⟨rfl,?_⟩
  conv => whnf
  refine ⟨fun h => h,?_⟩
  conv => whnf
  refine ⟨fun h => h,?_⟩
  conv => whnf
  refine ⟨fun h0 h => by first | exact h | (rw [h]; rfl) | (rw [h0,h]; rfl),?_⟩
  conv => whnf
  refine ⟨fun h0 h => by first | exact h | (rw [h]; rfl) | (rw [h0,h]; rfl),?_⟩
  conv => whnf
  have hcn : decide (c - (OI.length : Nat) < 0) = false:=by simp; omega
  refine Tri.cond (!takeE iso a e) (congrArg D.bool (by
   rw [hcn,takeE]
   cases iso <;> cases h1 : (e.inn == a) <;> cases e.hid <;> cases e.att <;> simp [bne,h1])) (fun hc => ?_) (fun hc => ?_)
  ·refine Tri.exit ?_
   conv => whnf
   refine Tri.region ti2_ok ?_
   conv => whnf
   refine .inl ⟨fun _ => by simp only [InR]; omega,?_⟩
   conv => whnf
   have htk : takeE iso a e = false:=by simpa using hc
   have hone : oneE DL iso (belowV DL EL iso f) a p e = []:=by rw [oneE,if_neg (by rw [htk]; decide)]
   rw [hone,List.append_nil] at hnx
   exact ⟨(⟨i + 1,hia⟩,w),[(3000,3000),(1000,1000)],by show EL.length - (i + 1) < EL.length - i; omega,⟨.refl _,.refl _,.refl _,.refl _,.refl _,.refl _,DLe.ownEq (by rw [hnx]),.refl _,.refl _,.refl _,trivial⟩,rfl,rfl,congrArg (fun z : List (List UInt8) => some (HObj.box lb [.int .i64 (c - (z.length : Nat))])) hnx.symm,rfl,congrArg (fun z => some (HObj.own w (strs z).length 1 9)) hnx.symm,trivial⟩
  ·have htk : takeE iso a e = true:=by simpa using hc
   have htk2:=htk
   rw [takeE,Bool.and_eq_true] at htk2
   have hinn : e.inn = a:=by simpa using htk2.1
   have hnl:=nmE_len hB heM htk2.2
   have hsz:=hB.sz e heM
   have hup:=hB.up e heM htk2.2
   have hone : oneE DL iso (belowV DL EL iso f) a p e = addP p (nmE iso e)::(if 0 ≤ toE DL e then belowV DL EL iso f (toE DL e) (addP p (nmE iso e)) else []):=by rw [oneE,if_pos htk]
   have hal : (addP p (nmE iso e)).length ≤ p.length + 1000000:=by
    unfold addP
    split
    ·omega
    ·simp; omega
   rw [hone,List.length_cons] at hfl2
   have hlab:=lastAt_bound e.path 47 e.path.length
   refine Tri.skip ?_
   conv => whnf
   refine Tri.seq ?_
   refine Tri.draw ti2_ok mixed (by kernel_rfl) ?_
   conv => whnf
   refine ⟨rfl,?_⟩
   conv => whnf
   refine ⟨rfl,?_⟩
   conv => whnf
   refine ⟨[.str e.path,.str [47]],_,fun _ => G106 e.path 47 (by omega),⟨.refl _,.refl _,trivial⟩,?_⟩
   conv => whnf
   refine .inl ⟨fun _ => by simp only [InR]; omega,?_⟩
   conv => whnf
   refine ⟨fun _ => by omega,?_⟩
   conv => whnf
   refine Tri.joinK (α:=Unit) (fun x => [(0,.sl .none 6 (DL.map encDir)),(1,.sl .none 7 (EL.map encEnt)),(2,.int .i64 a),(3,.str p),(4,.bool iso),(5,.box 3000 lb 0),(13,.sl (.own 1000 w) 1 (strs OI)),(19,.sl .none 7 (EL.map encEnt)),(20,.int .i64 (EL.map encEnt).length),(21,.int .i64 (i : Int)),(15,.box 15 bx 0),(16,.str (nmE iso e))]) (fun x => [(3000,.box lb [.int .i64 (c - (OI.length : Nat))]),(1000,.own w (strs OI).length 1 9),(15,.box bx (encEnt e).cells)]) ?_ ?_
   ·refine Tri.seq ?_
    refine Tri.region ti2_ok ?_
    conv => whnf
    refine Tri.cond iso rfl (fun hc => ?_) (fun hc => ?_)
    ·subst hc
     obtain ⟨m,A,B,hfm,hid⟩:=hB.name rfl e heM (by simpa using htk2.2)
     have hnm : nmE true e = m:=by rw [nmE,if_pos rfl,hid,← hfm.ident,hfm.name.back.2]
     refine Tri.region ti2_ok ?_
     conv => whnf
     refine ⟨rfl,?_⟩
     conv => whnf
     refine ⟨rfl,?_⟩
     conv => whnf
     refine ⟨[.str (idOf m (decide (0 ≤ e.dir))),.bool (decide (0 ≤ e.dir))],_,fun _ => G107 hfm,⟨DLe.of_eq (congrArg D.str hid),.refl _,trivial⟩,?_⟩
     conv => whnf
     exact ⟨(),[(3000,3000),(1000,1000),(15,15)],⟨.refl _,.refl _,.refl _,.refl _,.refl _,.refl _,.refl _,.refl _,.refl _,.refl _,.refl _,DLe.of_eq (congrArg D.str hnm.symm),trivial⟩,rfl,rfl,rfl,rfl,rfl,rfl,rfl,trivial⟩
    ·subst hc
     refine Tri.skip ?_
     conv => whnf
     exact ⟨(),[(3000,3000),(1000,1000),(15,15)],⟨.refl _,.refl _,.refl _,.refl _,.refl _,.refl _,.refl _,.refl _,.refl _,.refl _,.refl _,DLe.of_eq (congrArg D.str (by rw [Int.toNat_natCast,List.take_length]; rfl)),trivial⟩,rfl,rfl,rfl,rfl,rfl,rfl,rfl,trivial⟩
   ·rintro ⟨⟩
    refine Tri.seq ?_
    refine Tri.region ti2_ok ?_
    conv => whnf
    refine Tri.joinK (α:=Unit) (fun x => [(0,.sl .none 6 (DL.map encDir)),(1,.sl .none 7 (EL.map encEnt)),(2,.int .i64 a),(3,.str p),(4,.bool iso),(5,.box 3000 lb 0),(13,.sl (.own 1000 w) 1 (strs OI)),(19,.sl .none 7 (EL.map encEnt)),(20,.int .i64 (EL.map encEnt).length),(21,.int .i64 (i : Int)),(15,.box 15 bx 0),(17,.str (addP p (nmE iso e)))]) (fun x => [(3000,.box lb [.int .i64 (c - (OI.length : Nat))]),(1000,.own w (strs OI).length 1 9),(15,.box bx (encEnt e).cells)]) ?_ ?_
    ·refine Tri.seq ?_
     refine Tri.region ti2_ok ?_
     conv => whnf
     refine Tri.cond (!(p == [])) rfl (fun hc => ?_) (fun hc => ?_)
     ·refine Tri.region ti2_ok ?_
      conv => whnf
      refine ⟨fun _ => by simp; omega,?_⟩
      conv => whnf
      refine ⟨fun _ => by simp; omega,?_⟩
      conv => whnf
      have hpn : p ≠ []:=by simpa using hc
      exact ⟨(),[(3000,3000),(1000,1000),(15,15)],⟨.refl _,.refl _,.refl _,.refl _,.refl _,.refl _,.refl _,.refl _,.refl _,.refl _,.refl _,DLe.of_eq (congrArg D.str (by rw [addP,if_neg hpn])),trivial⟩,rfl,rfl,rfl,rfl,rfl,rfl,rfl,trivial⟩
     ·refine Tri.skip ?_
      conv => whnf
      have hpn : p = []:=by simpa using hc
      exact ⟨(),[(3000,3000),(1000,1000),(15,15)],⟨.refl _,.refl _,.refl _,.refl _,.refl _,.refl _,.refl _,.refl _,.refl _,.refl _,.refl _,DLe.of_eq (congrArg D.str (by rw [addP,if_pos hpn])),trivial⟩,rfl,rfl,rfl,rfl,rfl,rfl,rfl,trivial⟩
    ·rintro ⟨⟩
     generalize hq : addP p (nmE iso e) = q at *
     refine Tri.seq ?_
     refine Tri.region ti2_ok ?_
     conv => whnf
     refine ⟨trivial,?_⟩
     conv => whnf
     refine ⟨rfl,rfl,?_⟩
     conv => whnf
     refine ⟨by show (_ + 1) * 16 ≤ _; omega,by show _ + 1 ≤ _; omega,(fun h => by cases h),fun w2 => ?_⟩
     conv => whnf
     refine Tri.seq ?_
     refine Tri.region ti2_ok ?_
     conv => whnf
     refine ⟨rfl,?_⟩
     conv => whnf
     refine .inl ⟨fun _ => by simp only [InR]; omega,?_⟩
     conv => whnf
     refine ⟨rfl,?_⟩
     conv => whnf
     refine Tri.seq ?_
     refine Tri.region ti2_ok ?_
     conv => whnf
     refine ⟨rfl,?_⟩
     conv => whnf
     refine Tri.joinK (α:=Unit) (fun x => [(0,.sl .none 6 (DL.map encDir)),(1,.sl .none 7 (EL.map encEnt)),(2,.int .i64 a),(3,.str p),(4,.bool iso),(5,.box 3000 lb 0),(13,.sl (.own 78 w2) 1 (strs OI ++ [.str q])),(19,.sl .none 7 (EL.map encEnt)),(20,.int .i64 (EL.map encEnt).length),(21,.int .i64 (i : Int)),(17,.str q),(18,.int .i64 (toE DL e))]) (fun x => [(3000,.box lb [.int .i64 (c - (OI.length : Nat) - 1)]),(78,.own w2 (strs OI ++ [D.str q]).length 1 9)]) ?_ ?_
     ·refine Tri.seq ?_
      refine Tri.region ti2_ok ?_
      conv => whnf
      refine ⟨rfl,?_⟩
      conv => whnf
      refine Tri.cond e.mov rfl (fun hc => ?_) (fun hc => ?_)
      ·refine Tri.boxElm 15 15 (encEnt e) rfl rfl rfl rfl ?_
       refine Tri.region ti2_ok ?_
       conv => whnf
       refine ⟨[.sl .none 6 (DL.map encDir),.fn (.func 109) [] [.elm 7 [encEnt e] 0 0]],_,fun _ => G108 DL (by omega) 109 [.elm 7 [encEnt e] 0 0] (fun y => y.path == e.path) (fun y _ => G109 y e),⟨.refl _,.refl _,trivial⟩,?_⟩
       conv => whnf
       exact ⟨(),[(3000,3000),(78,78)],⟨.refl _,.refl _,.refl _,.refl _,.refl _,.refl _,.refl _,.refl _,.refl _,.refl _,.refl _,DLe.of_eq (congrArg (D.int .i64) (by rw [toE,if_pos hc])),trivial⟩,rfl,rfl,rfl,rfl,ownH (by simp),trivial⟩
      ·refine Tri.skip ?_
       conv => whnf
       exact ⟨(),[(3000,3000),(78,78)],⟨.refl _,.refl _,.refl _,.refl _,.refl _,.refl _,.refl _,.refl _,.refl _,.refl _,.refl _,DLe.of_eq (congrArg (D.int .i64) (by rw [toE,if_neg (by rw [hc]; decide)])),trivial⟩,rfl,rfl,rfl,rfl,ownH (by simp),trivial⟩
     ·rintro ⟨⟩
      refine Tri.seq ?_
      refine Tri.region ti2_ok ?_
      conv => whnf
      refine Tri.cond (decide (0 ≤ toE DL e)) rfl (fun hc => ?_) (fun hc => ?_)
      ·have ht0 : 0 ≤ toE DL e:=of_decide_eq_true hc
       obtain ⟨hup1,hup2⟩:=hup ht0
       rw [if_pos ht0] at hone hfl2
       refine Tri.regionX ti2_ok ?_
       conv => whnf
       refine .inr (XOp.call rfl [.sl .none 6 (DL.map encDir),.sl .none 7 (EL.map encEnt),.int .i64 (toE DL e),.str q,.bool iso,.box 3000 lb 0] [(3000,3000)] (ih (toE DL e) q (c - (OI.length : Nat) - 1) lb ht0 hup2 (by omega) (by omega) (by omega) (by omega)) rfl ⟨.refl _,.refl _,.refl _,.refl _,.refl _,.refl _,trivial⟩ ?_)
       rintro d H' ⟨rfl,rfl⟩
       refine ⟨_,.refl _,?_⟩
       conv => whnf
       refine .inl ?_
       conv => whnf
       refine ⟨rfl,rfl,?_⟩
       conv => whnf
       refine ⟨by show (_ + _) * 16 ≤ _; simp [strs]; omega,by show _ + _ ≤ _; simp [strs]; omega,(fun h => by cases h),fun w3 => ?_⟩
       conv => whnf
       refine Tri.region ti2_ok ?_
       conv => whnf
       refine .inl ⟨fun _ => by simp only [InR]; omega,?_⟩
       conv => whnf
       have hes : strs OI ++ [.str q] ++ strs (belowV DL EL iso f (toE DL e) q) = strs (OI ++ q::belowV DL EL iso f (toE DL e) q):=by simp [strs]
       exact ⟨(⟨i + 1,hia⟩,w3),[(3000,3000),(1000,101)],by show EL.length - (i + 1) < EL.length - i; omega,⟨.refl _,.refl _,.refl _,.refl _,.refl _,.refl _,DLe.ownEq (by rw [hnx,hone,hes]),.refl _,.refl _,.refl _,trivial⟩,rfl,rfl,congrArg (fun z : Int => some (HObj.box lb [.int .i64 z])) (by rw [hnx,hone]; simp; omega),rfl,congrArg (fun z : Nat => some (HObj.own w3 z 1 9)) (by rw [hnx,hone]; simp [strs]; omega),trivial⟩
      ·refine Tri.skip ?_
       conv => whnf
       refine Tri.region ti2_ok ?_
       conv => whnf
       refine .inl ⟨fun _ => by simp only [InR]; omega,?_⟩
       conv => whnf
       have ht0 : ¬ 0 ≤ toE DL e:=of_decide_eq_false hc
       rw [if_neg ht0] at hone hfl2
       have hes : strs OI ++ [.str q] = strs (OI ++ [q]):=by simp [strs]
       exact ⟨(⟨i + 1,hia⟩,w2),[(3000,3000),(1000,78)],by show EL.length - (i + 1) < EL.length - i; omega,⟨.refl _,.refl _,.refl _,.refl _,.refl _,.refl _,DLe.ownEq (by rw [hnx,hone,hes]),.refl _,.refl _,.refl _,trivial⟩,rfl,rfl,congrArg (fun z : Int => some (HObj.box lb [.int .i64 z])) (by rw [hnx,hone]; simp; omega),rfl,congrArg (fun z : Nat => some (HObj.own w2 z 1 9)) (by rw [hnx,hone]; simp [strs]),trivial⟩
 ·refine Tri.exit ?_
  conv => whnf
  refine Tri.seq ?_
  refine Tri.region ti2_ok ?_
  conv => whnf
  have hin : i = EL.length:=by simp at hc; omega
  have e : OI = belowV DL EL iso (f + 1) a p:=by rw [← hOIe,hbel,List.take_of_length_le (by omega)]
  rw [e]
  refine Tri.retK [(12,.sl .none 1 (strs (belowV DL EL iso (f + 1) a p)))] [(3000,.box lb [.int .i64 (c - ((belowV DL EL iso (f + 1) a p).length : Nat))])] [(3000,3000)] ⟨⟨DLe.unown,trivial⟩,rfl,rfl,rfl,trivial⟩ ?_
  conv => whnf
  exact ⟨_,.refl _,rfl,rfl⟩
set_option maxHeartbeats 8000000 in
theorem G55r {DL : List DirV} {EL : List EntV} {iso : Bool} (hB : BelowOk DL EL iso) (f : Nat) (a : Int) (p : List UInt8) (c : Int) (lb : Nat) (h0 : 0 ≤ a) (ha : a < DL.length) (hf : (DL.length : Int) ≤ a + f) (hp : p.length + f * 1000001 < 100000000000000) (hc : ((belowV DL EL iso f a p).length : Int) ≤ c) (hc2 : c ≤ 1000) : DCall Tryz.prog W0 55 [.sl .none 6 (DL.map encDir),.sl .none 7 (EL.map encEnt),.int .i64 a,.str p,.bool iso,.box 3000 lb 0] (look [(3000,.box lb [.int .i64 c])]) fun d H' => ∃ v,d = .raw v ∧ H' = look [(3000,.box lb [.int .i64 (c - ((belowV DL EL iso f a p).length : Nat))]),(2000,.row v (strs (belowV DL EL iso f a p)) 1 9)]:=by
 refine (fun (ih : ∀ f',f' < f → _) => ?_) (fun f' _ => G55 (W0:=W0) hB f')
 obtain ⟨f,rfl⟩ : ∃ f',f = f' + 1:=⟨f - 1,by omega⟩
 have ih:=ih f (Nat.lt_succ_self _)
 have hDn:=hB.hD
 have hEn:=hB.hE
 have hbel : belowV DL EL iso (f + 1) a p = EL.flatMap (oneE DL iso (belowV DL EL iso f) a p):=rfl
 have hc : ((belowV DL EL iso (f + 1) a p).length : Int) ≤ c:=hc
 have hp : p.length + (f + 1) * 1000001 < 100000000000000:=hp
 have hf : (DL.length : Int) ≤ a + ((f + 1 : Nat) : Int):=hf
 refine DCall.intro ti2_ok Tryz.func55 rfl (by decide +kernel) Tryz.ntmps55 rfl fun Γ => ?_
 refine Tri.seq ?_
 refine Tri.region ti2_ok ?_
 conv => whnf
 refine Tri.seq ?_
 refine Tri.region ti2_ok ?_
 conv => whnf
 refine Tri.seq ?_
 refine Tri.seq ?_
 refine Tri.region ti2_ok ?_
 conv => whnf
 refine Tri.rowNil 1000 1 9 ?_
 refine Tri.block ?_
 refine Tri.loopK (α:={ i : Nat // i ≤ EL.length } × Option Addr × Nat × Nat) (fun x => [(0,.sl .none 6 (DL.map encDir)),(1,.sl .none 7 (EL.map encEnt)),(2,.int .i64 a),(3,.str p),(4,.bool iso),(5,.box 3000 lb 0),(13,.raw (.slice x.2.1 x.2.2.1 x.2.2.2)),(19,.sl .none 7 (EL.map encEnt)),(20,.int .i64 (EL.map encEnt).length),(21,.int .i64 x.1.1)]) (fun x => [(3000,.box lb [.int .i64 (c - (((EL.take x.1.1).flatMap (oneE DL iso (belowV DL EL iso f) a p)).length : Nat))]),(1000,.row (.slice x.2.1 x.2.2.1 x.2.2.2) (strs ((EL.take x.1.1).flatMap (oneE DL iso (belowV DL EL iso f) a p))) 1 9)]) (fun x => EL.length - x.1.1) (⟨0,Nat.zero_le _⟩,none,0,0) [(3000,3000),(1000,1000)]
  ⟨⟨.refl _,.refl _,.refl _,.refl _,.refl _,.refl _,DLe.nilRaw,.refl _,.refl _,.refl _,trivial⟩,rfl,rfl,congrArg (fun z => some (HObj.box lb [.int .i64 z])) (by simp),rfl,rfl,trivial⟩ ?_
 rintro ⟨⟨i,hi⟩,aa,n1,cap⟩
 dsimp only at hi ⊢
 have hfl:=flat_len (oneE DL iso (belowV DL EL iso f) a p) EL i
 rw [← hbel] at hfl
 have hOI : (EL.take i).flatMap (oneE DL iso (belowV DL EL iso f) a p) = (EL.take i).flatMap (oneE DL iso (belowV DL EL iso f) a p):=rfl
 generalize hOIe : (EL.take i).flatMap (oneE DL iso (belowV DL EL iso f) a p) = OI at *
 have hOl : (strs OI).length = OI.length:=by simp [strs]
 refine Tri.seq ?_
 refine Tri.region ti2_ok ?_
 conv => whnf
 refine Tri.seq ?_
 refine Tri.cond _ rfl (fun hc => ?_) (fun hc => ?_)

 ·refine Tri.skip ?_
  conv => whnf
  have hia : i < EL.length:=by simpa using hc
  have heM : EL[i] ∈ EL:=List.getElem_mem hia
  have hnx:=flat_next (oneE DL iso (belowV DL EL iso f) a p) hia
  rw [hOIe] at hnx
  have hfl2:=flat_len (oneE DL iso (belowV DL EL iso f) a p) EL (i + 1)
  rw [← hbel,hnx,List.length_append] at hfl2
  have hget : (EL.map encEnt)[i]? = some (encEnt EL[i]):=by simp [hia]
  generalize EL[i] = e at *
  refine Tri.seq ?_
  refine Tri.block ?_
  refine Tri.seq ?_
  refine Tri.region ti2_ok ?_
  conv => whnf
  refine ⟨fun _ => by simp; omega,?_⟩
  conv => whnf
  refine ⟨encEnt e,fun _ => by rw [Int.toNat_natCast]; exact hget,?_⟩
  conv => whnf
  intro bx
  conv => whnf
  refine ⟨rfl,?_⟩
  conv => whnf
  refine Tri.seq ?_
  refine Tri.seq ?_
  refine Tri.region ti2_ok ?_
  conv => whnf
  refine ⟨rfl,?_⟩
  conv => whnf
  refine ⟨fun h => h,?_⟩
  conv => whnf
  refine ⟨fun h => h,?_⟩
  conv => whnf
  refine ⟨rfl,?_⟩
  conv => whnf
  refine ⟨fun h => h,?_⟩
  conv => whnf
  refine ⟨fun h0 h => by first | exact h | (rw [h]; rfl) | (rw [h0,h]; rfl),?_⟩
  conv => whnf
  refine ⟨fun h => h,?_⟩
  conv => whnf
  refine ⟨fun h => h,?_⟩
  conv => whnf
  refine ⟨rfl,?_⟩
  conv => whnf
  refine ⟨fun h => h,?_⟩
  conv => whnf
  refine ⟨fun h0 h => by first | exact h | (rw [h]; rfl) | (rw [h0,h]; rfl),?_⟩
  conv => whnf
  refine ⟨fun h0 h => by first | exact h | (rw [h]; rfl) | (rw [h0,h]; rfl),?_⟩
  conv => whnf
  refine ⟨fun h => h,?_⟩
  conv => whnf
  refine ⟨fun h => h,?_⟩
  conv => whnf
  refine ⟨fun h => h,?_⟩
  conv => whnf
  refine ⟨rfl,?_⟩
  conv => whnf
  refine ⟨fun h => h,?_⟩
  conv => whnf
  refine ⟨fun h => h,?_⟩
  conv => whnf
  refine ⟨fun h0 h => by first | exact h | (rw [h]; rfl) | (rw [h0,h]; rfl),?_⟩
  conv => whnf
  refine ⟨fun h0 h => by first | exact h | (rw [h]; rfl) | (rw [h0,h]; rfl),?_⟩
  conv => whnf
  have hcn : decide (c - (OI.length : Nat) < 0) = false:=by simp; omega
  refine Tri.cond (!takeE iso a e) (congrArg D.bool (by
   rw [hcn,takeE]
   cases iso <;> cases h1 : (e.inn == a) <;> cases e.hid <;> cases e.att <;> simp [bne,h1])) (fun hc => ?_) (fun hc => ?_)
  ·refine Tri.exit ?_
   conv => whnf
   refine Tri.region ti2_ok ?_
   conv => whnf
   refine .inl ⟨fun _ => by simp only [InR]; omega,?_⟩
   conv => whnf
   have htk : takeE iso a e = false:=by simpa using hc
   have hone : oneE DL iso (belowV DL EL iso f) a p e = []:=by rw [oneE,if_neg (by rw [htk]; decide)]
   rw [hone,List.append_nil] at hnx
   exact ⟨(⟨i + 1,hia⟩,aa,n1,cap),[(3000,3000),(1000,1000)],by show EL.length - (i + 1) < EL.length - i; omega,⟨.refl _,.refl _,.refl _,.refl _,.refl _,.refl _,.refl _,.refl _,.refl _,.refl _,trivial⟩,rfl,rfl,congrArg (fun z : List (List UInt8) => some (HObj.box lb [.int .i64 (c - (z.length : Nat))])) hnx.symm,rfl,congrArg (fun z => some (HObj.row (.slice aa n1 cap) (strs z) 1 9)) hnx.symm,trivial⟩
  ·have htk : takeE iso a e = true:=by simpa using hc
   have htk2:=htk
   rw [takeE,Bool.and_eq_true] at htk2
   have hinn : e.inn = a:=by simpa using htk2.1
   have hnl:=nmE_len hB heM htk2.2
   have hsz:=hB.sz e heM
   have hup:=hB.up e heM htk2.2
   have hone : oneE DL iso (belowV DL EL iso f) a p e = addP p (nmE iso e)::(if 0 ≤ toE DL e then belowV DL EL iso f (toE DL e) (addP p (nmE iso e)) else []):=by rw [oneE,if_pos htk]
   have hal : (addP p (nmE iso e)).length ≤ p.length + 1000000:=by
    unfold addP
    split
    ·omega
    ·simp; omega
   rw [hone,List.length_cons] at hfl2
   have hlab:=lastAt_bound e.path 47 e.path.length
   refine Tri.skip ?_
   conv => whnf
   refine Tri.seq ?_
   refine Tri.draw ti2_ok mixed (by kernel_rfl) ?_
   conv => whnf
   refine ⟨rfl,?_⟩
   conv => whnf
   refine ⟨rfl,?_⟩
   conv => whnf
   refine ⟨[.str e.path,.str [47]],_,fun _ => G106 e.path 47 (by omega),⟨.refl _,.refl _,trivial⟩,?_⟩
   conv => whnf
   refine .inl ⟨fun _ => by simp only [InR]; omega,?_⟩
   conv => whnf
   refine ⟨fun _ => by omega,?_⟩
   conv => whnf
   refine Tri.joinK (α:=Unit) (fun x => [(0,.sl .none 6 (DL.map encDir)),(1,.sl .none 7 (EL.map encEnt)),(2,.int .i64 a),(3,.str p),(4,.bool iso),(5,.box 3000 lb 0),(13,.raw (.slice aa n1 cap)),(19,.sl .none 7 (EL.map encEnt)),(20,.int .i64 (EL.map encEnt).length),(21,.int .i64 (i : Int)),(15,.box 15 bx 0),(16,.str (nmE iso e))]) (fun x => [(3000,.box lb [.int .i64 (c - (OI.length : Nat))]),(1000,.row (.slice aa n1 cap) (strs OI) 1 9),(15,.box bx (encEnt e).cells)]) ?_ ?_
   ·refine Tri.seq ?_
    refine Tri.region ti2_ok ?_
    conv => whnf
    refine Tri.cond iso rfl (fun hc => ?_) (fun hc => ?_)
    ·subst hc
     obtain ⟨m,A,B,hfm,hid⟩:=hB.name rfl e heM (by simpa using htk2.2)
     have hnm : nmE true e = m:=by rw [nmE,if_pos rfl,hid,← hfm.ident,hfm.name.back.2]
     refine Tri.region ti2_ok ?_
     conv => whnf
     refine ⟨rfl,?_⟩
     conv => whnf
     refine ⟨rfl,?_⟩
     conv => whnf
     refine ⟨[.str (idOf m (decide (0 ≤ e.dir))),.bool (decide (0 ≤ e.dir))],_,fun _ => G107 hfm,⟨DLe.of_eq (congrArg D.str hid),.refl _,trivial⟩,?_⟩
     conv => whnf
     exact ⟨(),[(3000,3000),(1000,1000),(15,15)],⟨.refl _,.refl _,.refl _,.refl _,.refl _,.refl _,.refl _,.refl _,.refl _,.refl _,.refl _,DLe.of_eq (congrArg D.str hnm.symm),trivial⟩,rfl,rfl,rfl,rfl,rfl,rfl,rfl,trivial⟩
    ·subst hc
     refine Tri.skip ?_
     conv => whnf
     exact ⟨(),[(3000,3000),(1000,1000),(15,15)],⟨.refl _,.refl _,.refl _,.refl _,.refl _,.refl _,.refl _,.refl _,.refl _,.refl _,.refl _,DLe.of_eq (congrArg D.str (by rw [Int.toNat_natCast,List.take_length]; rfl)),trivial⟩,rfl,rfl,rfl,rfl,rfl,rfl,rfl,trivial⟩
   ·rintro ⟨⟩
    refine Tri.seq ?_
    refine Tri.region ti2_ok ?_
    conv => whnf
    refine Tri.joinK (α:=Unit) (fun x => [(0,.sl .none 6 (DL.map encDir)),(1,.sl .none 7 (EL.map encEnt)),(2,.int .i64 a),(3,.str p),(4,.bool iso),(5,.box 3000 lb 0),(13,.raw (.slice aa n1 cap)),(19,.sl .none 7 (EL.map encEnt)),(20,.int .i64 (EL.map encEnt).length),(21,.int .i64 (i : Int)),(15,.box 15 bx 0),(17,.str (addP p (nmE iso e)))]) (fun x => [(3000,.box lb [.int .i64 (c - (OI.length : Nat))]),(1000,.row (.slice aa n1 cap) (strs OI) 1 9),(15,.box bx (encEnt e).cells)]) ?_ ?_
    ·refine Tri.seq ?_
     refine Tri.region ti2_ok ?_
     conv => whnf
     refine Tri.cond (!(p == [])) rfl (fun hc => ?_) (fun hc => ?_)
     ·refine Tri.region ti2_ok ?_
      conv => whnf
      refine ⟨fun _ => by simp; omega,?_⟩
      conv => whnf
      refine ⟨fun _ => by simp; omega,?_⟩
      conv => whnf
      have hpn : p ≠ []:=by simpa using hc
      exact ⟨(),[(3000,3000),(1000,1000),(15,15)],⟨.refl _,.refl _,.refl _,.refl _,.refl _,.refl _,.refl _,.refl _,.refl _,.refl _,.refl _,DLe.of_eq (congrArg D.str (by rw [addP,if_neg hpn])),trivial⟩,rfl,rfl,rfl,rfl,rfl,rfl,rfl,trivial⟩
     ·refine Tri.skip ?_
      conv => whnf
      have hpn : p = []:=by simpa using hc
      exact ⟨(),[(3000,3000),(1000,1000),(15,15)],⟨.refl _,.refl _,.refl _,.refl _,.refl _,.refl _,.refl _,.refl _,.refl _,.refl _,.refl _,DLe.of_eq (congrArg D.str (by rw [addP,if_pos hpn])),trivial⟩,rfl,rfl,rfl,rfl,rfl,rfl,rfl,trivial⟩
    ·rintro ⟨⟩
     generalize hq : addP p (nmE iso e) = q at *
     refine Tri.seq ?_
     refine Tri.regionX ti2_ok ?_
     conv => whnf
     refine ⟨trivial,?_⟩
     conv => whnf
     refine .inr (XOp.rowAppend ti2_ok 1000 rfl rfl rfl (fun h => by cases h) rfl rfl rfl (Nat.zero_lt_one) (by show (_ + 1) * 16 ≤ _; omega) (by show _ + 1 ≤ _; omega) fun aa2 m2 cap2 => ?_)
     refine Tri.seq ?_
     refine Tri.region ti2_ok ?_
     conv => whnf
     refine ⟨rfl,?_⟩
     conv => whnf
     refine .inl ⟨fun _ => by simp only [InR]; omega,?_⟩
     conv => whnf
     refine ⟨rfl,?_⟩
     conv => whnf
     refine Tri.seq ?_
     refine Tri.region ti2_ok ?_
     conv => whnf
     refine ⟨rfl,?_⟩
     conv => whnf
     refine Tri.joinK (α:=Unit) (fun x => [(0,.sl .none 6 (DL.map encDir)),(1,.sl .none 7 (EL.map encEnt)),(2,.int .i64 a),(3,.str p),(4,.bool iso),(5,.box 3000 lb 0),(13,.raw (.slice aa2 m2 cap2)),(19,.sl .none 7 (EL.map encEnt)),(20,.int .i64 (EL.map encEnt).length),(21,.int .i64 (i : Int)),(17,.str q),(18,.int .i64 (toE DL e))]) (fun x => [(3000,.box lb [.int .i64 (c - (OI.length : Nat) - 1)]),(78,.row (.slice aa2 m2 cap2) (strs OI ++ [.str q]) 1 9)]) ?_ ?_
     ·refine Tri.seq ?_
      refine Tri.region ti2_ok ?_
      conv => whnf
      refine ⟨rfl,?_⟩
      conv => whnf
      refine Tri.cond e.mov rfl (fun hc => ?_) (fun hc => ?_)
      ·refine Tri.boxElm 15 15 (encEnt e) rfl rfl rfl rfl ?_
       refine Tri.region ti2_ok ?_
       conv => whnf
       refine ⟨[.sl .none 6 (DL.map encDir),.fn (.func 109) [] [.elm 7 [encEnt e] 0 0]],_,fun _ => G108 DL (by omega) 109 [.elm 7 [encEnt e] 0 0] (fun y => y.path == e.path) (fun y _ => G109 y e),⟨.refl _,.refl _,trivial⟩,?_⟩
       conv => whnf
       exact ⟨(),[(3000,3000),(78,78)],⟨.refl _,.refl _,.refl _,.refl _,.refl _,.refl _,.refl _,.refl _,.refl _,.refl _,.refl _,DLe.of_eq (congrArg (D.int .i64) (by rw [toE,if_pos hc])),trivial⟩,rfl,rfl,rfl,rfl,rfl,trivial⟩
      ·refine Tri.skip ?_
       conv => whnf
       exact ⟨(),[(3000,3000),(78,78)],⟨.refl _,.refl _,.refl _,.refl _,.refl _,.refl _,.refl _,.refl _,.refl _,.refl _,.refl _,DLe.of_eq (congrArg (D.int .i64) (by rw [toE,if_neg (by rw [hc]; decide)])),trivial⟩,rfl,rfl,rfl,rfl,rfl,trivial⟩
     ·rintro ⟨⟩
      refine Tri.seq ?_
      refine Tri.region ti2_ok ?_
      conv => whnf
      refine Tri.cond (decide (0 ≤ toE DL e)) rfl (fun hc => ?_) (fun hc => ?_)
      ·have ht0 : 0 ≤ toE DL e:=of_decide_eq_true hc
       obtain ⟨hup1,hup2⟩:=hup ht0
       rw [if_pos ht0] at hone hfl2
       refine Tri.regionX ti2_ok ?_
       conv => whnf
       refine .inr (XOp.call rfl [.sl .none 6 (DL.map encDir),.sl .none 7 (EL.map encEnt),.int .i64 (toE DL e),.str q,.bool iso,.box 3000 lb 0] [(3000,3000)] (ih (toE DL e) q (c - (OI.length : Nat) - 1) lb ht0 hup2 (by omega) (by omega) (by omega) (by omega)) rfl ⟨.refl _,.refl _,.refl _,.refl _,.refl _,.refl _,trivial⟩ ?_)
       rintro d H' ⟨rfl,rfl⟩
       refine ⟨_,.refl _,?_⟩
       conv => whnf
       generalize hBv : belowV DL EL iso f (toE DL e) q = BV at *
       rcases BV with _ | ⟨b0,BV⟩
       ·refine .inr (XOp.rowAppendNone ti2_ok 78 rfl rfl rfl rfl rfl rfl rfl ?_)
        conv => whnf
        refine Tri.region ti2_ok ?_
        conv => whnf
        refine .inl ⟨fun _ => by simp only [InR]; omega,?_⟩
        conv => whnf
        have hes : strs OI ++ [.str q] = strs (OI ++ [q]):=by simp [strs]
        exact ⟨(⟨i + 1,hia⟩,aa2,m2,cap2),[(3000,3000),(1000,78)],by show EL.length - (i + 1) < EL.length - i; omega,⟨.refl _,.refl _,.refl _,.refl _,.refl _,.refl _,.refl _,.refl _,.refl _,.refl _,trivial⟩,rfl,rfl,congrArg (fun z : Int => some (HObj.box lb [.int .i64 z])) (by rw [hnx,hone]; simp; omega),rfl,congrArg (fun z => some (HObj.row (.slice aa2 m2 cap2) z 1 9)) (by rw [hnx,hone,hes]),trivial⟩
       refine .inr (XOp.rowAppend ti2_ok 78 rfl rfl rfl (fun h => by cases h) rfl rfl rfl (by simp [strs]) (by show (_ + _) * 16 ≤ _; simp [strs] at hfl2 ⊢; omega) (by show _ + _ ≤ _; simp [strs] at hfl2 ⊢; omega) fun aa3 m3 cap3 => ?_)
       refine Tri.region ti2_ok ?_
       conv => whnf
       refine .inl ⟨fun _ => by simp only [InR]; omega,?_⟩
       conv => whnf
       have hes : strs OI ++ [.str q] ++ strs (b0::BV) = strs (OI ++ q::b0::BV):=by simp [strs]
       exact ⟨(⟨i + 1,hia⟩,aa3,m3,cap3),[(3000,3000),(1000,101)],by show EL.length - (i + 1) < EL.length - i; omega,⟨.refl _,.refl _,.refl _,.refl _,.refl _,.refl _,.refl _,.refl _,.refl _,.refl _,trivial⟩,rfl,rfl,congrArg (fun z : Int => some (HObj.box lb [.int .i64 z])) (by rw [hnx,hone]; simp; omega),rfl,congrArg (fun z => some (HObj.row (.slice aa3 m3 cap3) z 1 9)) (by rw [hnx,hone,hes]),trivial⟩
      ·refine Tri.skip ?_
       conv => whnf
       refine Tri.region ti2_ok ?_
       conv => whnf
       refine .inl ⟨fun _ => by simp only [InR]; omega,?_⟩
       conv => whnf
       have ht0 : ¬ 0 ≤ toE DL e:=of_decide_eq_false hc
       rw [if_neg ht0] at hone hfl2
       have hes : strs OI ++ [.str q] = strs (OI ++ [q]):=by simp [strs]
       exact ⟨(⟨i + 1,hia⟩,aa2,m2,cap2),[(3000,3000),(1000,78)],by show EL.length - (i + 1) < EL.length - i; omega,⟨.refl _,.refl _,.refl _,.refl _,.refl _,.refl _,.refl _,.refl _,.refl _,.refl _,trivial⟩,rfl,rfl,congrArg (fun z : Int => some (HObj.box lb [.int .i64 z])) (by rw [hnx,hone]; simp; omega),rfl,congrArg (fun z => some (HObj.row (.slice aa2 m2 cap2) z 1 9)) (by rw [hnx,hone,hes]),trivial⟩
 ·refine Tri.exit ?_
  conv => whnf
  refine Tri.seq ?_
  refine Tri.region ti2_ok ?_
  conv => whnf
  have hin : i = EL.length:=by simp at hc; omega
  have e : OI = belowV DL EL iso (f + 1) a p:=by rw [← hOIe,hbel,List.take_of_length_le (by omega)]
  refine Tri.retK [(12,.raw (.slice aa n1 cap))] [(3000,.box lb [.int .i64 (c - ((belowV DL EL iso (f + 1) a p).length : Nat))]),(2000,.row (.slice aa n1 cap) (strs (belowV DL EL iso (f + 1) a p)) 1 9)] [(3000,3000),(2000,1000)] ⟨⟨.refl _,trivial⟩,rfl,rfl,congrArg (fun z : List (List UInt8) => some (HObj.box lb [.int .i64 (c - (z.length : Nat))])) e,rfl,congrArg (fun z => some (HObj.row (.slice aa n1 cap) (strs z) 1 9)) e,trivial⟩ ?_
  conv => whnf
  exact ⟨_,.refl _,_,rfl,rfl⟩
end Go.Tame.V
/- Laws: RelocationUnique. By program (mkrq.py,mk.py). -/
namespace Go.Tame.V
open Go Go.Proofs
variable {W0 : World}
set_option maxRecDepth 10000
set_option linter.unusedVariables false
set_option linter.unusedSimpArgs false

theorem idOf_len {m A B : List UInt8} {d d' : Bool} (h : IsoForm m d A B) : (idOf m d').length ≤ 15:=by
 have:=h.len
 unfold idOf
 split
 ·omega
 ·split <;> simp <;> omega
theorem ents_idl {rr : Bool} {n : NV} {T : List XS} (hn : okT n) (hb : Built rr n (rootX rr n::T)) (hs : Sib (rootX rr n::T)) (hT : T.length < 100) :
  ∀ e ∈ entsP (rrN (rrK (namesG 0 n.kids))) T,e.id.length < 100:=by
 intro e he
 obtain ⟨h64,_,_,_⟩:=(okT_eq n).1 hn
 obtain ⟨hr1,_,_⟩:=rr_ok (U:=namesG 0 n.kids) (by rw [namesG_len]; exact h64)
 have hrl : (rrN (rrK (namesG 0 n.kids))).length ≤ 8:=by
  rw [rrN]; split
  ·decide
  ·have:=dig_len _ hr1; simp; omega
 have hrec : ∀ i,e ∈ recsAt (shiftX T) T i → e.id.length < 100:=fun i h => by
  obtain ⟨s,hs',rfl⟩:=List.mem_map.1 h
  obtain ⟨p,j,m,A,B,hk,hpf,hp,hpd,hm,hform,hids,hroot⟩:=(node26 hn hb hs (List.mem_filter.1 hs').1).name
  have hid : (s.entV (shiftX T)).id = idOf m (s.isDir && !s.mv):=hids
  rw [hid]
  have:=idOf_len (d':=(s.isDir && !s.mv)) hform
  omega
 rw [entsP] at he
 rcases List.mem_append.1 he with he | he
 ·rcases List.mem_append.1 he with he | he
  ·rcases List.mem_append.1 he with he | he
   ·split at he
    ·cases he
    ·rw [List.mem_singleton] at he; subst he
     show (rrN _).length < 100
     omega
   ·exact hrec 0 he
  ·obtain ⟨s,hs',rfl⟩:=List.mem_map.1 he
   have hm : movX (rootX rr n::T) = movX T:=by rw [movX,List.filter_cons,if_neg (by simp [rootX])]; rfl
   obtain ⟨i,hi⟩:=List.mem_iff_getElem?.1 hs'
   have hno:=hb.mnos i s (by rw [hm]; exact hi)
   have hil : i < (movX T).length:=by
    rcases Nat.lt_or_ge i (movX T).length with h | h
    ·exact h
    ·rw [List.getElem?_eq_none h] at hi; cases hi
   have hml : (movX T).length ≤ T.length:=List.length_filter_le _ _
   have hd : ∀ a,a < 120 → (Lib.decDigits a).length ≤ 3:=by decide +kernel
   have:=hd s.mno (by omega)
   show (68::Lib.decDigits s.mno).length < 100
   simp; omega
 ·obtain ⟨i,_,he⟩:=List.mem_flatMap.1 he
  exact hrec _ he
end Go.Tame.V
/- Laws: RelocationShows. By program (mkry.py,mk.py). -/
namespace Go.Tame
open Go Go.RowKit
variable {P : Program} {W0 : World} {nt : Nat} {Γ : Ctx P W0 nt} {K : DExit → DSt → Prop}
/-- A row stands: the slot holds the slice without its first element. -/
theorem Tri.commitTail (s j : Nat) {a : Option Addr} {n cap e : Nat} {x : D} {xs : List D} {r : List (Nat × D)} {hs : List (Nat × HObj)} {c : Code} (hn : n = xs.length + 1) (hc : n ≤ cap) (hsn : look hs s = none)
  (h : Tri Γ c (St ((j,.sl .none 1 xs)::r) hs) K) : Tri Γ c (St ((j,.raw (.slice (if cap = 1 then a else a.map (·.add (1 * 1))) xs.length (cap - 1)))::r) ((s,.row (.slice a n cap) (x::xs) 1 e)::hs)) K:=by
 have hnb : Nat.beq s s = true:=Nat.beq_refl s
 refine Tri.commit s (v:=.slice a n cap) (xs:=x::xs) (k:=1) (e:=e) (by simp only [St,look,hnb,cond_true]) (St ((j,.sl .none 1 xs)::r) hs) (fun w C hr i u hi => ?_) (fun i o ho => ?_) h
 ·simp only [St,look] at hi ⊢
  cases hb : Nat.beq i j with
  | true =>
   rw [hb] at hi
   simp only [cond_true,Option.getD_some] at hi ⊢
   rw [hi.raw_inv]
   have:=rep_sub (tg':=.none) (l:=1) (r:=xs.length + 1) (m:=cap) hr (by omega) (by simp) (by omega) (Nat.le_refl _) (fun _ => trivial)
   simpa using this
  | false => rw [hb] at hi; exact hi
 ·refine .inr ⟨fun e => (by subst e; simp only [St] at ho; rw [hsn] at ho; cases ho),?_⟩
  simp only [St,look] at ho ⊢
  cases hb : Nat.beq i s with
  | true => have:=beq_true hb; subst this; rw [hsn] at ho; cases ho
  | false => simpa using ho
/-- A row that comes back is a slice of that many elements,with room. -/
theorem DCall.rowShapeC {f : FuncId} {ds : List D} {H : Heap} {s k e : Nat} {xs : List D} (h : DCall P W0 f ds H fun d H' => ∃ v,d = .raw v ∧ H' = look [(s,.row v xs k e)]) :
  DCall P W0 f ds H fun d H' => ∃ a m c,m = xs.length ∧ m ≤ c ∧ d = .raw (.slice a m c) ∧ H' = look [(s,.row (.slice a m c) xs k e)] :=
 ⟨h.1,fun w C args Ft hb hlow hH hargs => (h.2 w C args Ft hb hlow hH hargs).mono fun ex w' ⟨v,d,C',H',he,⟨v',hd,hH'⟩,hr,hst,hr'⟩ => by
  have hs : H' s = some (.row v' xs k e):=by rw [hH']; simp only [look,Nat.beq_refl,cond_true]
  obtain ⟨a',cap,hv,hc,_⟩:=hr'.obj s _ hs
  exact ⟨v,d,C',H',he,⟨a',_,cap,rfl,hc,by rw [hd,hv],by rw [hH',hv]⟩,hr,hst,hr'⟩⟩
theorem DCall.heapX {f : FuncId} {ds : List D} {Q : D → Heap → Prop} {H : Heap} {k s : Nat} {o : HObj} (h : H s = some o) (hc : DCall P W0 f ds (look [(k,o)]) Q) : DCall P W0 f ds (handed H [(k,s)]) Q:=by
 have e : handed H [(k,s)] = look [(k,o)]:=by
  funext j
  simp only [handed,look]
  cases Nat.beq j k with
  | true => exact h
  | false => rfl
 rw [e]; exact hc
theorem DCall.heapY {f : FuncId} {ds : List D} {Q : D → Heap → Prop} {H : Heap} {k s k2 s2 : Nat} {o : HObj} (h : H s = some o) (h2 : H s2 = none) (hc : DCall P W0 f ds (look [(k,o)]) Q) : DCall P W0 f ds (handed H [(k,s),(k2,s2)]) Q:=by
 have e : handed H [(k,s),(k2,s2)] = look [(k,o)]:=by
  funext j
  simp only [handed,look]
  cases Nat.beq j k with
  | true => exact h
  | false =>
   cases Nat.beq j k2 with
   | true => exact h2
   | false => rfl
 rw [e]; exact hc
end Go.Tame
namespace Go.Tame.V
open Go Go.Proofs
variable {W0 : World}
set_option maxRecDepth 10000
set_option linter.unusedVariables false
set_option linter.unusedSimpArgs false

mutual
theorem spT_plen : ∀ (n : NV) (x : XS) (c : Cn),∀ s ∈ spT n x c,s.path.length ≤ x.path.length + sz n
 | .mk _ _ _ _ _ _ _ _ _ _ ks ss,x,c,s,hs => by
  simp only [spT] at hs
  have:=spL_plen ks _ x c s hs
  simp only [sz]; omega
theorem spL_plen : ∀ (ks : List NV) (ms : List (List UInt8)) (x : XS) (c : Cn),∀ s ∈ spL ks ms x c,s.path.length ≤ x.path.length + szL ks
 | k::r,m::ms,x,c,s,hs => by
  simp only [spL] at hs
  simp only [szL]
  have hb:=below_len x.path k.name (x.lv + 1)
  split at hs
  ·rcases List.mem_cons.1 hs with rfl | hs
   ·show (Go.Tame.V.below x.path k.name (x.lv + 1)).length ≤ _
    omega
   ·rcases List.mem_append.1 hs with hs | hs
    ·have h:=spT_plen k _ _ s hs
     have h2 : (child x k m c).path.length = (Go.Tame.V.below x.path k.name (x.lv + 1)).length:=rfl
     omega
    ·have:=spL_plen r ms x _ s hs; omega
  ·have:=spL_plen r ms x c s hs; omega
 | [],_,_,_,s,hs => by simp [spL] at hs
 | _::_,[],_,_,s,hs => by simp [spL] at hs
end
/-- A plan's records are as 'below' wants them. -/
theorem below_ok {rr : Bool} {n : NV} (hv : valid n = true) (hc : cnt n ≤ 40) (hz : sz n ≤ 40000) (iso : Bool) : BelowOk (planV rr n).1 (planV rr n).2.1 iso:=by
 have hokT:=valid_okT hv
 obtain ⟨hokd,hk0⟩:=valid_okD hv
 have hld:=plan_lenD rr n
 have hle:=plan_lenE rr n hc
 obtain ⟨rn,T,hpl,hb,hTe,hrn⟩:=plan_good (rr:=rr) hv
 have hsib : Sib (rootX rr n::T):=by rw [hTe]; exact sib_spots rr hokd hk0
 have hTl : T.length + 1 ≤ 40:=by
  have:=spT_len n (rootX rr n) ⟨1,1,0⟩
  rw [← hTe] at this; omega
 rw [hpl] at hld hle ⊢
 have hld : (dirsP rn T).length ≤ 2 * cnt n + 2:=hld
 have hle : (entsP rn T).length ≤ 100000:=hle
 have hpath : ∀ s ∈ T,s.path.length ≤ 40000:=fun s hs => by
  rw [hTe] at hs
  have:=spT_plen n _ _ s hs
  have h0 : (rootX rr n).path.length = 0:=rfl
  omega
 have hcase : ∀ e ∈ entsP rn T,(e = ⟨[47],rn,0,1,true,false,false⟩ ∧ shiftX T = 1) ∨ (∃ s ∈ T,e = s.entV (shiftX T)) ∨ (∃ s ∈ T,s.mv = true ∧ e = s.movV (shiftX T)):=fun e he => by
  have hrec : ∀ i,e ∈ recsAt (shiftX T) T i → ∃ s ∈ T,e = s.entV (shiftX T):=fun i h => by
   obtain ⟨s,hs,rfl⟩:=List.mem_map.1 h
   exact ⟨s,(List.mem_filter.1 hs).1,rfl⟩
  rw [entsP] at he
  rcases List.mem_append.1 he with he | he
  ·rcases List.mem_append.1 he with he | he
   ·rcases List.mem_append.1 he with he | he
    ·split at he
     ·cases he
     ·rename_i h
      rw [List.mem_singleton] at he
      refine .inl ⟨he,?_⟩
      rcases shiftX_01 T with h1 | h1
      ·exact absurd h1 h
      ·exact h1
    ·exact .inr (.inl (hrec 0 he))
   ·obtain ⟨s,hs,rfl⟩:=List.mem_map.1 he
    exact .inr (.inr ⟨s,(List.mem_filter.1 hs).1,(List.mem_filter.1 hs).2,rfl⟩)
  ·obtain ⟨i,_,he⟩:=List.mem_flatMap.1 he
   exact .inr (.inl (hrec _ he))
 have hdir : ∀ s ∈ T,s.isDir = true → s.fi < s.di ∧ ixS (shiftX T) s.di < (dirsP rn T).length:=fun s hs hd => by
  obtain ⟨q,hq,hdi⟩:=(node26 hokT hb hsib hs).dir hd
  obtain ⟨t,p,_,_,hst,_,_,_,hlt,_⟩:=hb.dirs_at hq
  have hat:=dirsP_at (rn:=rn) hq
  refine ⟨by rw [hst.fi,hdi]; exact hlt,?_⟩
  rw [hdi]
  rcases Nat.lt_or_ge (ixS (shiftX T) (q + 1)) (dirsP rn T).length with h | h
  ·exact h
  ·rw [List.getElem?_eq_none h] at hat; cases hat
 have hidl:=ents_idl hokT hb hsib (by omega)
 rw [← hrn] at hidl
 refine ⟨by show (dirsP rn T).length < _; omega,by show (entsP rn T).length < _; omega,fun e he => ⟨by have:=hidl e he; omega,?_⟩,fun e he hk h0 => ?_,fun hiso e he hk => ?_⟩
 ·rcases hcase e he with ⟨rfl,_⟩ | ⟨s,hs,rfl⟩ | ⟨s,hs,_,rfl⟩
  ·show ([47] : List UInt8).length < 1000000; decide
  ·have:=hpath s hs; show s.path.length < _; omega
  ·have:=hpath s hs; show s.path.length < _; omega
 ·rcases hcase e he with ⟨rfl,_⟩ | ⟨s,hs,rfl⟩ | ⟨s,hs,hmv,rfl⟩
  ·exfalso
   revert hk
   cases iso <;> simp
  ·have ht : toE (dirsP rn T) (s.entV (shiftX T)) = _:=toE_ent hokT hb hsib hs
   have h0 : 0 ≤ toE (dirsP rn T) (s.entV (shiftX T)):=h0
   show ((ixS (shiftX T) s.fi : Nat) : Int) < toE (dirsP rn T) (s.entV (shiftX T)) ∧ toE (dirsP rn T) (s.entV (shiftX T)) < ((dirsP rn T).length : Nat)
   rw [ht] at h0 ⊢
   split at h0
   ·rename_i hd
    rw [if_pos hd]
    obtain ⟨h1,h2⟩:=hdir s hs hd
    have:=ixS_mono (sh:=shiftX T) h1
    omega
   ·omega
  ·have hd:=(node26 hokT hb hsib hs).mvd hmv
   obtain ⟨h1,h2⟩:=hdir s hs hd
   have hsh:=shiftX_mv hs hmv
   have ht : toE (dirsP rn T) (s.movV (shiftX T)) = ((ixS (shiftX T) s.di : Nat) : Int):=rfl
   show (1 : Int) < toE (dirsP rn T) (s.movV (shiftX T)) ∧ toE (dirsP rn T) (s.movV (shiftX T)) < ((dirsP rn T).length : Nat)
   rw [ht]
   have : 2 ≤ ixS (shiftX T) s.di:=by rw [hsh,ixS,if_neg (by omega)]; omega
   omega
 ·rcases hcase e he with ⟨rfl,_⟩ | ⟨s,hs,rfl⟩ | ⟨s,hs,hmv,rfl⟩
  ·cases hk
  ·obtain ⟨p,j,m,A,B,hkid,hpf,hp,hpd,hm,hform,hids,hroot⟩:=(node26 hokT hb hsib hs).name
   have e2 : decide (0 ≤ (s.entV (shiftX T)).dir) = (s.isDir && !s.mv):=by
    show decide (0 ≤ (if (s.isDir && !s.mv) = true then (((ixS (shiftX T) s.di : Nat) : Int)) else -1)) = _
    cases s.isDir && !s.mv with
    | true => rw [if_pos rfl]; simp
    | false => rfl
   refine ⟨m,A,B,?_,?_⟩
   ·rw [e2]
    cases hmv : s.mv with
    | true => simpa using hform.file
    | false => simpa [XS.isDir] using hform
   ·rw [e2]; exact hids
  ·cases hk
/-- How many records show. -/
theorem below_shown_len {rr : Bool} {n : NV} (hv : valid n = true) (hc : cnt n ≤ 40) (iso : Bool) (hio : iso = true ∨ rr = true) : (belowV (planV rr n).1 (planV rr n).2.1 iso ((planV rr n).1.length + 1) 0 []).length ≤ 40 ∧ (pathsSL (showG (namesG (vwE iso)) (vwE iso) 1 n).kids [] 1).length ≤ 40:=by
 have h1:=(below_shown (rr:=rr) hv iso hio).length_eq
 have h2:=(prs_shown (namesG (vwE iso)) (vwE iso) n 1 [] [] (Int.le_refl _)).length_eq
 rw [List.length_map,pathsS_eq,List.length_cons] at h2
 have h3:=prs_len (namesG (vwE iso)) (vwE iso) n 1 [] [] (Int.le_refl _)
 omega
theorem G56n : DFun Tryz.prog W0 56 [.nils] (.tup []) :=
 ⟨callable Tryz.func56 rfl (by decide +kernel),fun w C args _ hr => by
  obtain ⟨hln,hr⟩:=hr
  match args,hln with
  | [a0],_ =>
   have h1:=(hr 0 _ a0 rfl rfl).nils_inv
   subst h1
   refine (Tryz.slices_Sort_string_none none 0 w).mono ?_
   rintro e w' ⟨rfl,rfl⟩
   exact ⟨_,C,rfl,.tup [] [] rfl (fun i d v hd _ => by simp at hd),.refl _ _ _⟩⟩
set_option maxHeartbeats 8000000 in
theorem G14 (hL : LibOk W0) (n : NV) (hn : Fits n) (rr : Bool) : DFun Tryz.prog W0 14 [encTop n,.bool rr] (.bool true):=by
 refine DFun.intro ti2_ok Tryz.func14 rfl (by decide +kernel) Tryz.ntmps14 rfl fun Γ => ?_
 refine Tri.seq ?_
 refine Tri.region ti2_ok ?_
 conv => whnf
 intro b2
 conv => whnf
 refine Tri.seq ?_
 refine Tri.seq ?_
 refine Tri.region ti2_ok ?_
 conv => whnf
 refine ⟨[],_,fun _ => G39 hL,trivial,?_⟩
 conv => whnf
 refine Tri.cond _ rfl (fun hc => ?_) (fun hc => ?_)
 ·cases hc
 ·refine Tri.skip ?_
  conv => whnf
  refine Tri.seq ?_
  refine Tri.seq ?_
  refine Tri.region ti2_ok ?_
  conv => whnf
  refine ⟨rfl,?_⟩
  conv => whnf
  refine ⟨[encTop n,.int .i64 20000],_,fun _ => F26 n 20000 hn,⟨.refl _,.refl _,trivial⟩,?_⟩
  conv => whnf
  refine Tri.cond _ rfl (fun hc => ?_) (fun hc => ?_)
  ·refine Tri.seq ?_
   refine Tri.region ti2_ok ?_
   conv => whnf
   refine Tri.ret ?_
   conv => whnf
   exact .refl _
  ·refine Tri.skip ?_
   conv => whnf
   have hf : few1 n 20000 = true:=by simpa using hc
   have hs:=few_sz2 hf
   have hcn:=(few_sz hf).2
   refine Tri.seq ?_
   refine Tri.region ti2_ok ?_
   conv => whnf
   refine ⟨rfl,?_⟩
   conv => whnf
   refine ⟨[encTop n,.bool rr],_,fun _ => G40 hL rr n hn (fun _ => ⟨by omega,by omega⟩),⟨.refl _,.refl _,trivial⟩,?_⟩
   conv => whnf
   cases hv : valid n with
   | false =>
    rw [plan_bad hv]
    refine Tri.seq ?_
    refine Tri.seq ?_
    refine Tri.region ti2_ok ?_
    conv => whnf
    refine ⟨rfl,?_⟩
    conv => whnf
    refine ⟨fun h => h,?_⟩
    conv => whnf
    refine ⟨[encTop n],_,fun h => F20 n hn,⟨.refl _,trivial⟩,?_⟩
    conv => whnf
    refine ⟨fun h => h,?_⟩
    conv => whnf
    refine ⟨fun h0 h => by first | exact h | (rw [h]; rfl) | (rw [h0,h]; rfl),?_⟩
    conv => whnf
    refine Tri.cond true rfl (fun hc => ?_) (fun hc => ?_)
    ·refine Tri.seq ?_
     refine Tri.region ti2_ok ?_
     conv => whnf
     refine Tri.ret ?_
     conv => whnf
     exact .refl _
    ·cases hc
   | true =>
   have hpz : (planV rr n).2.2 = 0:=by rw [planV,if_pos hv]
   have hbo:=fun iso => below_ok (rr:=rr) hv hcn hs iso
   have hD0 : 0 < (planV rr n).1.length:=by
    obtain ⟨rn,T,hpl,_⟩:=plan_good (rr:=rr) hv
    rw [hpl]; show 0 < (dirsP rn T).length
    simp [dirsP]
   have hDl:=(hbo true).hD
   rw [hpz]
   refine Tri.seq ?_
   refine Tri.seq ?_
   refine Tri.region ti2_ok ?_
   conv => whnf
   refine ⟨rfl,?_⟩
   conv => whnf
   refine ⟨fun h => h,?_⟩
   conv => whnf
   refine ⟨[encTop n],_,fun h => F20 n hn,⟨.refl _,trivial⟩,?_⟩
   conv => whnf
   refine ⟨fun h => h,?_⟩
   conv => whnf
   refine ⟨fun h0 h => by first | exact h | (rw [h]; rfl) | (rw [h0,h]; rfl),?_⟩
   conv => whnf
   refine Tri.cond false (congrArg D.bool (by rw [hv]; rfl)) (fun hc => ?_) (fun hc => ?_)
   ·cases hc
   ·refine Tri.skip ?_
    conv => whnf
    refine Tri.seq ?_
    refine Tri.seq ?_
    refine Tri.region ti2_ok ?_
    conv => whnf
    refine ⟨trivial,?_⟩
    conv => whnf
    refine Tri.block ?_
    refine Tri.loopK (α:={ i : Nat // i ≤ 2 }) (fun x => [(1,.bool rr),(2,.box 2 b2 0),(5,.sl .none 6 ((planV rr n).1.map encDir)),(6,.sl .none 7 ((planV rr n).2.1.map encEnt)),(37,.sl .full 1 [.bool true,.bool false]),(38,.int .i64 2),(39,.int .i64 x.1)]) (fun x => [(2,.box b2 (cellsN n))]) (fun x => 2 - x.1) ⟨0,by omega⟩ [(2,2)] ⟨⟨.refl _,.refl _,.refl _,.refl _,.refl _,.refl _,.refl _,trivial⟩,rfl,rfl,rfl,trivial⟩ ?_
    rintro ⟨i,hi⟩
    dsimp only at hi ⊢
    refine Tri.seq ?_
    refine Tri.region ti2_ok ?_
    conv => whnf
    refine Tri.seq ?_
    refine Tri.cond _ rfl (fun hc => ?_) (fun hc => ?_)
    ·refine Tri.skip ?_
     have hia : i < 2:=by simp at hc; omega
     obtain ⟨iso,hiso⟩ : ∃ iso,([D.bool true,D.bool false])[i]? = some (D.bool iso):=by
      rcases i with _ | _ | i
      ·exact ⟨true,rfl⟩
      ·exact ⟨false,rfl⟩
      ·omega
     have hbok:=hbo iso
     conv => whnf
     refine Tri.seq ?_
     refine Tri.block ?_
     refine Tri.seq ?_
     refine Tri.region ti2_ok ?_
     conv => whnf
     refine ⟨fun _ => by simp; omega,?_⟩
     conv => whnf
     refine ⟨.bool iso,fun _ => by rw [Int.toNat_natCast]; exact hiso,?_⟩
     conv => whnf
     refine Tri.seq ?_
     refine Tri.region ti2_ok ?_
     conv => whnf
     refine Tri.joinK (α:=Unit) (fun x => [(1,.bool rr),(2,.box 2 b2 0),(5,.sl .none 6 ((planV rr n).1.map encDir)),(6,.sl .none 7 ((planV rr n).2.1.map encEnt)),(37,.sl .full 1 [.bool true,.bool false]),(38,.int .i64 2),(39,.int .i64 (i : Int)),(9,.bool iso),(10,.int .i64 (vwE iso))]) (fun x => [(2,.box b2 (cellsN n))]) ?_ ?_
     ·refine Tri.seq ?_
      refine Tri.region ti2_ok ?_
      conv => whnf
      refine Tri.cond (!iso) rfl (fun hc => ?_) (fun hc => ?_)
      ·refine Tri.region ti2_ok ?_
       conv => whnf
       have hi2 : iso = false:=by simpa using hc
       subst hi2
       exact ⟨(),[(2,2)],⟨.refl _,.refl _,.refl _,.refl _,.refl _,.refl _,.refl _,.refl _,.refl _,trivial⟩,rfl,rfl,rfl,trivial⟩
      ·refine Tri.skip ?_
       conv => whnf
       have hi2 : iso = true:=by simpa using hc
       subst hi2
       exact ⟨(),[(2,2)],⟨.refl _,.refl _,.refl _,.refl _,.refl _,.refl _,.refl _,.refl _,.refl _,trivial⟩,rfl,rfl,rfl,trivial⟩
     ·rintro ⟨⟩
      have hvw:=vwE_ok iso
      have hVR : viewR (namesG (vwE iso)) (vwE iso) n = (showG (namesG (vwE iso)) (vwE iso) 1 n,0):=by
       rw [viewR,if_neg (by rw [hvw]; decide),if_neg (by rw [hv]; decide)]
      have hF31:=F31 (W0:=W0) (vwE iso) (fun h => namesNd hL h) n hn
      rw [hVR] at hF31
      have hWf:=(show_fits (namesG (vwE iso)) (vwE iso) (namesSh hL hvw) hv (few_up hf)).1
      have hWv:=show_valid hvw hv
      have hWp:=pathsS_eq (showG (namesG (vwE iso)) (vwE iso) 1 n) [] 1
      have hperm:=fun h => below_shown (rr:=rr) hv iso h
      have hlen:=fun h => below_shown_len (rr:=rr) hv hcn iso h
      generalize showG (namesG (vwE iso)) (vwE iso) 1 n = W at *
      generalize hWL : pathsSL W.kids [] 1 = WL at *
      have hG25:=G25r (W0:=W0) W hWf hWv
      rw [hWp] at hG25
      refine Tri.seq ?_
      refine Tri.region ti2_ok ?_
      conv => whnf
      refine ⟨rfl,?_⟩
      conv => whnf
      refine ⟨[.int .i64 (vwE iso),encTop n],_,fun _ => hF31,⟨.refl _,.refl _,trivial⟩,?_⟩
      conv => whnf
      intro b11
      conv => whnf
      refine ⟨rfl,?_⟩
      conv => whnf
      refine Tri.seq ?_
      refine Tri.regionX ti2_ok ?_
      conv => whnf
      refine .inl ⟨rfl,?_⟩
      conv => whnf
      refine .inr (XOp.call rfl [encTop W] [(2000,52)] (DCall.freshX rfl (DCall.rowShapeC hG25)) rfl ⟨.refl _,trivial⟩ ?_)
      rintro d H' ⟨aa,m1,cap,hm1,hmc,rfl,rfl⟩
      refine ⟨_,.refl _,?_⟩
      conv => whnf
      refine .inr (XOp.cut (l:=1) (r:=m1) ti2_ok rfl rfl rfl rfl (.inr ⟨_,_,rfl,rfl⟩) (.inl ⟨rfl,rfl⟩) (by rw [hm1]; simp [strs]) hmc ?_)
      conv => whnf
      by_cases hio : iso = true ∨ rr = true
      ·have hBl:=(hlen hio).1
       have hWl:=(hlen hio).2
       have hperm:=hperm hio
       have hsl:=hperm.length_eq
       generalize hBVe : belowV (planV rr n).1 (planV rr n).2.1 iso ((planV rr n).1.length + 1) 0 [] = BV at *
       refine Tri.seq ?_
       refine Tri.seq ?_
       refine Tri.region ti2_ok ?_
       conv => whnf
       refine ⟨fun h => h,?_⟩
       conv => whnf
       refine ⟨fun h0 h => by first | exact h | (rw [h]; rfl) | (rw [h0,h]; rfl),?_⟩
       conv => whnf
       refine Tri.cond false (congrArg D.bool (by rcases hio with rfl | rfl <;> simp)) (fun hc => ?_) (fun hc => ?_)
       ·cases hc
       ·refine Tri.skip ?_
        conv => whnf
        refine Tri.seq ?_
        refine Tri.region ti2_ok ?_
        conv => whnf
        intro b14
        conv => whnf
        refine ⟨rfl,?_⟩
        conv => whnf
        refine Tri.seq ?_
        refine Tri.regionX ti2_ok ?_
        conv => whnf
        have hG:=G55r (W0:=W0) hbok ((planV rr n).1.length + 1) 0 [] 500 b14 (by decide) (by omega) (by omega) (by simp; omega) (by rw [hBVe]; omega) (by decide)
        rw [hBVe] at hG
        refine .inr (XOp.call rfl [.sl .none 6 ((planV rr n).1.map encDir),.sl .none 7 ((planV rr n).2.1.map encEnt),.int .i64 0,.str [],.bool iso,.box 3000 b14 0] [(3000,14),(2000,63)] (DCall.heapY rfl rfl hG) rfl ⟨.refl _,.refl _,.refl _,.refl _,.refl _,DLe.box,trivial⟩ ?_)
        rintro d H' ⟨gv,rfl,rfl⟩
        refine ⟨.raw gv,.refl _,?_⟩
        conv => whnf
        refine Tri.rowKnow0 63 rfl fun ga gcap hgv hgc hgm => ?_
        subst hgv
        refine Tri.seq ?_
        refine Tri.regionX ti2_ok ?_
        conv => whnf
        refine .inr (XOp.call rfl [.raw (.slice ga (strs BV).length gcap)] [(2000,63)] (DCall.heapX rfl (G56 BV ga _ gcap (by simp [strs]) (by omega))) rfl ⟨.refl _,trivial⟩ ?_)
        rintro d H' ⟨rfl,rfl⟩
        refine ⟨_,.refl _,?_⟩
        conv => whnf
        refine Tri.seq ?_
        refine Tri.regionX ti2_ok ?_
        conv => whnf
        refine .inr (XOp.call rfl [.raw (.slice (if cap = 1 then aa else aa.map (·.add (1 * 1))) (m1 - 1) (cap - 1))] [(2000,52)] (DCall.heapX rfl (G56t [] WL aa m1 cap (m1 - 1) (by rw [hm1]; simp [strs]) hmc (by rw [hm1]; simp [strs]) (by omega))) rfl ⟨.refl _,trivial⟩ ?_)
        rintro d H' ⟨rfl,rfl⟩
        refine ⟨_,.refl _,?_⟩
        conv => whnf
        refine Tri.forgetK [(15,.raw (.slice ga (strs BV).length gcap)),(13,.raw (.slice (if cap = 1 then aa else aa.map (·.add (1 * 1))) (m1 - 1) (cap - 1))),(1,.bool rr),(2,.box 2 b2 0),(5,.sl .none 6 ((planV rr n).1.map encDir)),(6,.sl .none 7 ((planV rr n).2.1.map encEnt)),(37,.sl .full 1 [.bool true,.bool false]),(38,.int .i64 2),(39,.int .i64 (i : Int))] [(63,.row (.slice ga (strs BV).length gcap) (strs (sortS BV)) 1 9),(52,.row (.slice aa m1 cap) (strs ([]::sortS WL)) 1 9),(2,.box b2 (cellsN n))] [(63,63),(52,52),(2,2)] ⟨⟨.refl _,.refl _,.refl _,.refl _,.refl _,.refl _,.refl _,.refl _,.refl _,trivial⟩,rfl,rfl,rfl,rfl,rfl,rfl,rfl,trivial⟩ ?_
        refine Tri.commitSt 63 15 rfl ?_
        refine Tri.forgetK [(13,.raw (.slice (if cap = 1 then aa else aa.map (·.add (1 * 1))) (strs (sortS WL)).length (cap - 1))),(15,.sl .none 1 (strs (sortS BV))),(1,.bool rr),(2,.box 2 b2 0),(5,.sl .none 6 ((planV rr n).1.map encDir)),(6,.sl .none 7 ((planV rr n).2.1.map encEnt)),(37,.sl .full 1 [.bool true,.bool false]),(38,.int .i64 2),(39,.int .i64 (i : Int))] [(52,.row (.slice aa m1 cap) (.str []::strs (sortS WL)) 1 9),(2,.box b2 (cellsN n))] [(52,52),(2,2)] ⟨⟨DLe.of_eq (congrArg (fun z => D.raw (.slice (if cap = 1 then aa else aa.map (·.add (1 * 1))) z (cap - 1))) (by rw [hm1]; simp [strs,sortS])),.refl _,.refl _,.refl _,.refl _,.refl _,.refl _,.refl _,.refl _,trivial⟩,rfl,rfl,rfl,rfl,rfl,trivial⟩ ?_
        refine Tri.commitTail 52 13 (by rw [hm1]; simp [strs,sortS]) hmc rfl ?_
        refine Tri.seq ?_
        refine Tri.region ti2_ok ?_
        conv => whnf
        refine ⟨[.sl .none 1 (strs (sortS BV)),.sl .none 1 (strs (sortS WL))],_,fun _ => F23 (sortS BV) (sortS WL) (by simp [sortS]; omega) (by simp [sortS]; omega),⟨.refl _,.refl _,trivial⟩,?_⟩
        conv => whnf
        refine Tri.cond false (congrArg D.bool (by rw [sortS_perm hperm]; simp)) (fun hc => ?_) (fun hc => ?_)
        ·cases hc
        ·refine Tri.skip ?_
         conv => whnf
         refine Tri.region ti2_ok ?_
         conv => whnf
         refine .inl ⟨fun _ => by simp only [InR]; omega,?_⟩
         conv => whnf
         exact ⟨⟨i + 1,by omega⟩,[(2,2)],by show 2 - (i + 1) < 2 - i; omega,⟨.refl _,.refl _,.refl _,.refl _,.refl _,.refl _,.refl _,trivial⟩,rfl,rfl,rfl,trivial⟩
      ·have hi2 : iso = false:=by cases iso <;> simp_all
       have hr2 : rr = false:=by cases rr <;> simp_all
       have hBVn : belowV (planV rr n).1 (planV rr n).2.1 iso ((planV rr n).1.length + 1) 0 [] = []:=by rw [hi2,hr2]; exact below_none hv _
       generalize hBVe : belowV (planV rr n).1 (planV rr n).2.1 iso ((planV rr n).1.length + 1) 0 [] = BV at *
       have hBl : BV.length ≤ 40:=by rw [hBVn]; decide
       refine Tri.seq ?_
       refine Tri.seq ?_
       refine Tri.region ti2_ok ?_
       conv => whnf
       refine ⟨fun h => h,?_⟩
       conv => whnf
       refine ⟨fun h0 h => by first | exact h | (rw [h]; rfl) | (rw [h0,h]; rfl),?_⟩
       conv => whnf
       refine Tri.cond true (congrArg D.bool (by rw [hi2,hr2]; rfl)) (fun hc => ?_) (fun hc => ?_)
       ·refine Tri.region ti2_ok ?_
        conv => whnf
        refine Tri.seq ?_
        refine Tri.region ti2_ok ?_
        conv => whnf
        intro b14
        conv => whnf
        refine ⟨rfl,?_⟩
        conv => whnf
        refine Tri.seq ?_
        refine Tri.regionX ti2_ok ?_
        conv => whnf
        have hG:=G55r (W0:=W0) hbok ((planV rr n).1.length + 1) 0 [] 500 b14 (by decide) (by omega) (by omega) (by simp; omega) (by rw [hBVe]; omega) (by decide)
        rw [hBVe] at hG
        refine .inr (XOp.call rfl [.sl .none 6 ((planV rr n).1.map encDir),.sl .none 7 ((planV rr n).2.1.map encEnt),.int .i64 0,.str [],.bool iso,.box 3000 b14 0] [(3000,14),(2000,63)] (DCall.heapY rfl rfl hG) rfl ⟨.refl _,.refl _,.refl _,.refl _,.refl _,DLe.box,trivial⟩ ?_)
        rintro d H' ⟨gv,rfl,rfl⟩
        refine ⟨.raw gv,.refl _,?_⟩
        conv => whnf
        refine Tri.rowKnow0 63 rfl fun ga gcap hgv hgc hgm => ?_
        subst hgv
        refine Tri.seq ?_
        refine Tri.regionX ti2_ok ?_
        conv => whnf
        refine .inr (XOp.call rfl [.raw (.slice ga (strs BV).length gcap)] [(2000,63)] (DCall.heapX rfl (G56 BV ga _ gcap (by simp [strs]) (by omega))) rfl ⟨.refl _,trivial⟩ ?_)
        rintro d H' ⟨rfl,rfl⟩
        refine ⟨_,.refl _,?_⟩
        conv => whnf
        refine Tri.seq ?_
        refine Tri.region ti2_ok ?_
        conv => whnf
        refine ⟨[.nils],_,fun _ => G56n,⟨.refl _,trivial⟩,?_⟩
        conv => whnf
        refine Tri.forgetK [(15,.raw (.slice ga (strs BV).length gcap)),(13,.nils),(1,.bool rr),(2,.box 2 b2 0),(5,.sl .none 6 ((planV rr n).1.map encDir)),(6,.sl .none 7 ((planV rr n).2.1.map encEnt)),(37,.sl .full 1 [.bool true,.bool false]),(38,.int .i64 2),(39,.int .i64 (i : Int))] [(63,.row (.slice ga (strs BV).length gcap) (strs (sortS BV)) 1 9),(2,.box b2 (cellsN n))] [(63,63),(2,2)] ⟨⟨.refl _,.refl _,.refl _,.refl _,.refl _,.refl _,.refl _,.refl _,.refl _,trivial⟩,rfl,rfl,rfl,rfl,rfl,trivial⟩ ?_
        refine Tri.commitSt 63 15 rfl ?_
        refine Tri.seq ?_
        refine Tri.region ti2_ok ?_
        conv => whnf
        refine ⟨[.sl .none 1 (strs (sortS BV)),.sl .none 1 (strs [])],_,fun _ => F23 (sortS BV) [] (by simp [sortS]; omega) (by decide),⟨.refl _,DLe.nil,trivial⟩,?_⟩
        conv => whnf
        refine Tri.cond false (congrArg D.bool (by rw [hBVn]; simp [sortS])) (fun hc => ?_) (fun hc => ?_)
        ·cases hc
        ·refine Tri.skip ?_
         conv => whnf
         refine Tri.region ti2_ok ?_
         conv => whnf
         refine .inl ⟨fun _ => by simp only [InR]; omega,?_⟩
         conv => whnf
         exact ⟨⟨i + 1,by omega⟩,[(2,2)],by show 2 - (i + 1) < 2 - i; omega,⟨.refl _,.refl _,.refl _,.refl _,.refl _,.refl _,.refl _,trivial⟩,rfl,rfl,rfl,trivial⟩
       ·cases hc
    ·refine Tri.exit ?_
     conv => whnf
     refine Tri.seq ?_
     refine Tri.region ti2_ok ?_
     conv => whnf
     refine Tri.ret ?_
     conv => whnf
     exact .refl _
end Go.Tame.V
