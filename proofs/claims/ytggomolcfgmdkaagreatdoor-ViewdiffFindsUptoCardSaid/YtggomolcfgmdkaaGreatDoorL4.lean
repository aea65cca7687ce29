/- A program logic of my own over the model, and contracts of this program's functions by it: part 4. No conditions of its own: each theorem states its own. -/
import Derived.Test.YtggomolcfgmdkaaGreatDoorL3
import Derived.Test.YtggomolcfgmdkaaGreatDoorShelf
import Derived.BigQuiet
import Derived.Sort.Grow
import Derived.Test.YtggomolcfgmdkaaGreatDoorCards
import Derived.Test.YtggomolcfgmdkaaGreatDoorTie
import Derived.ProofKit
import Derived.OpenShut
import Derived.Deep.DeepHandedRow
import Derived.Lib.LaidTab
import Derived.Lib.LaidU8
import Derived.Stop.LaidErr
set_option linter.unnecessarySimpa false
set_option linter.unusedSimpArgs false
set_option linter.unusedVariables false
/- Contracts: the reference's Compare. By program (mk.py). -/
namespace Go.Tame.V
open Go Go.Proofs
variable {W0 : World}
set_option maxRecDepth 10000
set_option linter.unusedVariables false
set_option linter.unusedSimpArgs false

def inc (l : List NV) : Prop := ∀ i, i + 1 < l.length → Op.bytesLess (l.getD i default).name (l.getD (i + 1) default).name = true
mutual
def srt : NV → Prop
  | .mk _ _ _ _ _ _ _ _ _ _ ks _ => inc ks ∧ srtL ks
def srtL : List NV → Prop
  | [] => True
  | n :: r => srt n ∧ srtL r
end
theorem srt_eq (n : NV) : srt n ↔ inc n.kids ∧ srtL n.kids := by cases n; simp only [srt]
theorem srtL_get : ∀ {l : List NV} {i : Nat} (h : srtL l) (hi : i < l.length), srt (l.getD i default)
  | n :: r, 0, h, _ => by simp only [srtL] at h; simpa using h.1
  | n :: r, i + 1, h, hi => by
    simp only [srtL] at h
    have := srtL_get (l := r) (i := i) h.2 (by simpa using hi)
    simpa using this
theorem inc_lt {l : List NV} (h : inc l) : ∀ {d i : Nat}, i + d + 1 < l.length → Op.bytesLess (l.getD i default).name (l.getD (i + d + 1) default).name = true
  | 0, i, hi => h i hi
  | d + 1, i, hi => bl_trans _ _ _ (inc_lt h (d := d) (i := i) (by omega)) (h (i + d + 1) hi)
theorem inc_lt' {l : List NV} (h : inc l) {i j : Nat} (hij : i < j) (hj : j < l.length) : Op.bytesLess (l.getD i default).name (l.getD j default).name = true := by
  have := inc_lt h (d := j - i - 1) (i := i) (by omega)
  rwa [show i + (j - i - 1) + 1 = j by omega] at this
theorem kAt_get {n : NV} {i : Nat} (h : i < n.kids.length) : n.kids[i] = kAt n i := by simp [kAt, List.getD, h]
theorem kid_at {n : NV} (hs : inc n.kids) {i : Nat} (h : i < n.kids.length) : kidIx n (kAt n i).name = i :=
  firstIdx_some (p := fun k : NV => k.name == (kAt n i).name) h (fun j hj hlt => by
    rw [kAt_get hj]
    exact beq_eq_false_iff_ne.2 (bl_ne (inc_lt' hs hlt h))) (by rw [kAt_get h]; simp)
theorem kid_not {n : NV} {q : List UInt8} (h : ∀ i, i < n.kids.length → (kAt n i).name ≠ q) : kidIx n q = -1 :=
  firstIdx_none (p := fun k : NV => k.name == q) fun j hj => by rw [kAt_get hj]; exact beq_eq_false_iff_ne.2 (h j hj)

/-- What lies behind i and j, and what lies ahead, are apart. -/
structure Sep (a b : NV) (i j : Nat) : Prop where
  ab : ∀ k, k < i → ∀ m, j ≤ m → m < b.kids.length → Op.bytesLess (kAt a k).name (kAt b m).name = true
  ba : ∀ k, k < j → ∀ m, i ≤ m → m < a.kids.length → Op.bytesLess (kAt b k).name (kAt a m).name = true

theorem step_left {a b : NV} (ha : inc a.kids) (hb : inc b.kids) {i j : Nat} (hs : Sep a b i j) (hi : i < a.kids.length) (h : j < b.kids.length → Op.bytesLess (kAt a i).name (kAt b j).name = true) :
    kidIx a (kAt a i).name = i ∧ kidIx b (kAt a i).name = -1 ∧ Sep a b (i + 1) j := by
  have hab : ∀ m, j ≤ m → m < b.kids.length → Op.bytesLess (kAt a i).name (kAt b m).name = true := fun m hm hmb => by
    by_cases e : j = m
    · subst e; exact h hmb
    · exact bl_trans _ _ _ (h (by omega)) (inc_lt' hb (by omega) hmb)
  refine ⟨kid_at ha hi, kid_not fun m hm => ?_, ⟨fun k hk m hm hmb => ?_, fun k hk m hm hma => hs.ba k hk m (by omega) hma⟩⟩
  · by_cases e : m < j
    · exact bl_ne (hs.ba m e i (Nat.le_refl _) hi)
    · exact (bl_ne (hab m (by omega) hm)).symm
  · by_cases e : k = i
    · subst e; exact hab m hm hmb
    · exact hs.ab k (by omega) m hm hmb
theorem step_right {a b : NV} (ha : inc a.kids) (hb : inc b.kids) {i j : Nat} (hs : Sep a b i j) (hj : j < b.kids.length) (h : i < a.kids.length → Op.bytesLess (kAt b j).name (kAt a i).name = true) :
    kidIx b (kAt b j).name = j ∧ kidIx a (kAt b j).name = -1 ∧ Sep a b i (j + 1) := by
  have hba : ∀ m, i ≤ m → m < a.kids.length → Op.bytesLess (kAt b j).name (kAt a m).name = true := fun m hm hma => by
    by_cases e : i = m
    · subst e; exact h hma
    · exact bl_trans _ _ _ (h (by omega)) (inc_lt' ha (by omega) hma)
  refine ⟨kid_at hb hj, kid_not fun m hm => ?_, ⟨fun k hk m hm hmb => hs.ab k hk m (by omega) hmb, fun k hk m hm hma => ?_⟩⟩
  · by_cases e : m < i
    · exact bl_ne (hs.ab m e j (Nat.le_refl _) hj)
    · exact (bl_ne (hba m (by omega) hm)).symm
  · by_cases e : k = j
    · subst e; exact hba m hm hma
    · exact hs.ba k (by omega) m hm hma
theorem step_both {a b : NV} (ha : inc a.kids) (hb : inc b.kids) {i j : Nat} (hs : Sep a b i j) (hi : i < a.kids.length) (hj : j < b.kids.length) (h : (kAt a i).name = (kAt b j).name) :
    kidIx a (kAt a i).name = i ∧ kidIx b (kAt a i).name = j ∧ Sep a b (i + 1) (j + 1) := by
  refine ⟨kid_at ha hi, h ▸ kid_at hb hj, ⟨fun k hk m hm hmb => ?_, fun k hk m hm hma => ?_⟩⟩
  · by_cases e : k = i
    · subst e; rw [h]; exact inc_lt' hb (by omega) hmb
    · exact hs.ab k (by omega) m (by omega) hmb
  · by_cases e : k = j
    · subst e; rw [← h]; exact inc_lt' ha (by omega) hma
    · exact hs.ba k (by omega) m (by omega) hma

/-- One step of the merge, as the reference meets it. -/
inductive Stp (p : List UInt8) (a b : NV) (i j : Nat) (q : List UInt8) (rest : List (List UInt8)) : Prop
  | left (hi : i < a.kids.length) (hq : q = (kAt a i).name) (h1 : kidIx a q = i) (h2 : kidIx b q = -1) (hs : Sep a b (i + 1) j) (hr : rest = mnames (a.kids.drop (i + 1)) (b.kids.drop j))
      (hm : mrg p (a.kids.drop i) (b.kids.drop j) = ⟨0, joinP p q⟩ :: mrg p (a.kids.drop (i + 1)) (b.kids.drop j))
  | right (hj : j < b.kids.length) (hq : q = (kAt b j).name) (h1 : kidIx a q = -1) (h2 : kidIx b q = j) (hs : Sep a b i (j + 1)) (hr : rest = mnames (a.kids.drop i) (b.kids.drop (j + 1)))
      (hm : mrg p (a.kids.drop i) (b.kids.drop j) = ⟨1, joinP p q⟩ :: mrg p (a.kids.drop i) (b.kids.drop (j + 1)))
  | both (hi : i < a.kids.length) (hj : j < b.kids.length) (hq : q = (kAt a i).name) (h1 : kidIx a q = i) (h2 : kidIx b q = j) (hs : Sep a b (i + 1) (j + 1)) (hr : rest = mnames (a.kids.drop (i + 1)) (b.kids.drop (j + 1)))
      (hm : mrg p (a.kids.drop i) (b.kids.drop j) = cmpT (joinP p q) (kAt a i) (kAt b j) ++ mrg p (a.kids.drop (i + 1)) (b.kids.drop (j + 1)))
theorem stp (p : List UInt8) {a b : NV} (ha : inc a.kids) (hb : inc b.kids) {i j : Nat} (hs : Sep a b i j) (hi : i ≤ a.kids.length) (hj : j ≤ b.kids.length) {q : List UInt8} {rest : List (List UInt8)} (h : mnames (a.kids.drop i) (b.kids.drop j) = q :: rest) : Stp p a b i j q rest := by
  have left : i < a.kids.length → (j < b.kids.length → Op.bytesLess (kAt a i).name (kAt b j).name = true) → Stp p a b i j q rest := fun hi hl => by
    obtain ⟨h1, h2, h3⟩ := step_left ha hb hs hi hl
    rw [mnames_left hi hl] at h
    injection h with hq hr
    subst hq
    exact .left hi rfl h1 h2 h3 hr.symm (mrg_left p hi hj hl)
  have right : j < b.kids.length → (i < a.kids.length → Op.bytesLess (kAt b j).name (kAt a i).name = true) → Stp p a b i j q rest := fun hj hl => by
    obtain ⟨h1, h2, h3⟩ := step_right ha hb hs hj hl
    rw [mnames_right hj hl] at h
    injection h with hq hr
    subst hq
    exact .right hj rfl h2 h1 h3 hr.symm (mrg_right p hj fun hi => ⟨bl_asymm (hl hi), (bl_ne (hl hi)).symm⟩)
  by_cases e1 : i < a.kids.length
  · by_cases e2 : j < b.kids.length
    · cases c1 : Op.bytesLess (kAt a i).name (kAt b j).name with
      | true => exact left e1 fun _ => c1
      | false =>
        cases c2 : Op.bytesLess (kAt b j).name (kAt a i).name with
        | true => exact right e2 fun _ => c2
        | false =>
          have heq := bl_total _ _ c1 c2
          obtain ⟨h1, h2, h3⟩ := step_both ha hb hs e1 e2 heq
          rw [mnames_both e1 e2 c1 c2] at h
          injection h with hq hr
          subst hq
          exact .both e1 e2 rfl h1 h2 h3 hr.symm (mrg_both p e1 e2 c1 heq)
    · exact left e1 fun h => absurd h e2
  · by_cases e2 : j < b.kids.length
    · exact right e2 fun h => absurd h e1
    · rw [List.drop_of_length_le (Nat.le_of_not_lt e1), List.drop_of_length_le (Nat.le_of_not_lt e2), mnames] at h
      cases h
end Go.Tame.V
/- Contracts: the reference's Compare. By program (mk.py). -/
namespace Go.Tame.V
open Go Go.Proofs
variable {W0 : World}
set_option maxRecDepth 10000
set_option linter.unusedVariables false
set_option linter.unusedSimpArgs false

theorem encDs_next (p : List UInt8) (a b : NV) {i : Nat} (h : fieldDiff a b i = true) : encDs (fieldDiffs p a b i) ++ [encD ⟨((3 + i : Nat) : Int), p⟩] = encDs (fieldDiffs p a b (i + 1)) := by
  rw [fieldDiffs_yes p a b h]; exact encDs_snoc _ _
theorem fd_len (p : List UInt8) (a b : NV) (i : Nat) : (encDs (fieldDiffs p a b i)).length ≤ i := by rw [encDs_len]; exact fieldDiffs_len p a b i
theorem encDs_append (l m : List DV) : encDs l ++ encDs m = encDs (l ++ m) := by simp [encDs]

theorem mnames_nil {xs ys : List NV} {i j : Nat} (h : mnames (xs.drop i) (ys.drop j) = []) : ¬ i < xs.length ∧ ¬ j < ys.length := by
  by_cases e1 : i < xs.length
  · exfalso
    rw [drop_kAt e1] at h
    cases hy : ys.drop j with
    | nil => rw [hy, mnames] at h; cases h
    | cons y r =>
      rw [hy, mnames] at h
      repeat' split at h
      all_goals cases h
  · refine ⟨e1, fun e2 => ?_⟩
    rw [List.drop_of_length_le (Nat.le_of_not_lt e1), drop_kAt e2, mnames] at h
    cases h

theorem F41 : ∀ (N : Nat) (p : List UInt8) (a b : NV), sz a + sz b < N → Fits a → Fits b → srt a → srt b → p.length + sz a + sz b < 10000000 → DFun Tryz.prog W0 41 [encTop a, encTop b, .str p] (.sl .none 2 (encDs (cmpT p a b))) := by
  refine fun N => Nat.rec (fun p a b h => absurd h (Nat.not_lt_zero _)) (fun N ih p a b hN hfa hfb hsa hsb hp => ?_) N
  have hfa' := hfa
  have hfb' := hfb
  unfold Fits at hfa hfb
  have hza := sz_eq a
  have hzb := sz_eq b
  have hka := kids_len a
  have hkb := kids_len b
  have hsa' := (srt_eq a).1 hsa
  have hsb' := (srt_eq b).1 hsb
  have hsl := streams_len a
  have hsl' := streams_len b
  refine DFun.intro ti_ok Tryz.func41 rfl (by decide +kernel) Tryz.ntmps41 rfl fun Γ => ?_
  refine Tri.seq ?_
  refine Tri.region ti_ok ?_
  conv => whnf
  intro ba
  conv => whnf
  intro bb
  conv => whnf
  refine Tri.seq ?_
  refine Tri.seq ?_
  refine Tri.region ti_ok ?_
  conv => whnf
  refine ⟨rfl, ?_⟩
  conv => whnf
  refine ⟨rfl, ?_⟩
  conv => whnf
  refine Tri.cond _ rfl (fun hc => ?_) (fun hc => ?_)
  · refine Tri.seq ?_
    refine Tri.region ti_ok ?_
    conv => whnf
    refine ⟨trivial, ?_⟩
    conv => whnf
    refine Tri.ret ?_
    conv => whnf
    have hk : a.kind ≠ b.kind := by simpa using hc
    have hC : cmpT p a b = [⟨2, p⟩] := by rw [cmpT, if_neg hk]
    rw [hC]
    exact DLe.unown
  · refine Tri.skip ?_
    have hk : a.kind = b.kind := by simpa using hc
    have hC : cmpT p a b = fieldDiffs p a b 5 ++ mrg p a.kids b.kids := by rw [cmpT, if_pos hk]
    conv => whnf
    refine Tri.seq ?_
    refine Tri.region ti_ok ?_
    conv => whnf
    refine ⟨trivial, ?_⟩
    conv => whnf
    refine Tri.own 7 1000 2 34 rfl (fun v => ?_)
    refine Tri.joinK (α := Value) (fun v => [(2, .str p), (3, .box 3 ba 0), (4, .box 4 bb 0), (7, .sl (.own 1000 v) 2 (encDs (fieldDiffs p a b 1)))]) (fun v => [(1000, ownDs v (fieldDiffs p a b 1)), (3, .box ba (topCells a)), (4, .box bb (topCells b))]) ?_ ?_
    · refine Tri.seq ?_
      refine Tri.region ti_ok ?_
      conv => whnf
      refine ⟨rfl, ?_⟩
      conv => whnf
      refine ⟨rfl, ?_⟩
      conv => whnf
      refine Tri.cond (fieldDiff a b 0) rfl (fun hc => ?_) (fun hc => ?_)
      · refine Tri.region ti_ok ?_
        conv => whnf
        refine ⟨trivial, ?_⟩
        conv => whnf
        refine ⟨rfl, rfl, ?_⟩
        conv => whnf
        refine ⟨by simp, by simp, (fun h => by cases h), fun v => ?_⟩
        conv => whnf
        exact ⟨v, [(1000, 30), (3, 3), (4, 4)], ⟨.refl _, .refl _, .refl _, DLe.ownEq (encDs_next p a b (i := 0) hc), trivial⟩, rfl, rfl, ownH (by rw [← encDs_next p a b (i := 0) hc]; simp [encDs, fieldDiffs]), rfl, rfl, rfl, rfl, trivial⟩
      · refine Tri.skip ?_
        conv => whnf
        exact ⟨v, [(1000, 1000), (3, 3), (4, 4)], ⟨.refl _, .refl _, .refl _, DLe.ownEq (by rw [fieldDiffs_no p a b (i := 0) hc]; rfl), trivial⟩, rfl, rfl, ownH (by rw [fieldDiffs_no p a b (i := 0) hc]; rfl), rfl, rfl, rfl, rfl, trivial⟩
    · intro v
      refine Tri.joinK (α := Value) (fun v => [(2, .str p), (3, .box 3 ba 0), (4, .box 4 bb 0), (7, .sl (.own 1000 v) 2 (encDs (fieldDiffs p a b 2)))]) (fun v => [(1000, ownDs v (fieldDiffs p a b 2)), (3, .box ba (topCells a)), (4, .box bb (topCells b))]) ?_ ?_
      · refine Tri.seq ?_
        refine Tri.region ti_ok ?_
        conv => whnf
        refine ⟨rfl, ?_⟩
        conv => whnf
        refine ⟨rfl, ?_⟩
        conv => whnf
        refine Tri.cond (fieldDiff a b 1) rfl (fun hc => ?_) (fun hc => ?_)
        · refine Tri.region ti_ok ?_
          conv => whnf
          refine ⟨trivial, ?_⟩
          conv => whnf
          refine ⟨rfl, rfl, ?_⟩
          conv => whnf
          have hfl := fd_len p a b 1
          refine ⟨by show (_ + 1) * 24 ≤ _; omega, by show _ + 1 ≤ _; omega, (fun h => by cases h), fun v => ?_⟩
          conv => whnf
          exact ⟨v, [(1000, 40), (3, 3), (4, 4)], ⟨.refl _, .refl _, .refl _, DLe.ownEq (encDs_next p a b (i := 1) hc), trivial⟩, rfl, rfl, ownH (by rw [← encDs_next p a b (i := 1) hc]; simp), rfl, rfl, rfl, rfl, trivial⟩
        · refine Tri.skip ?_
          conv => whnf
          exact ⟨v, [(1000, 1000), (3, 3), (4, 4)], ⟨.refl _, .refl _, .refl _, DLe.ownEq (by rw [fieldDiffs_no p a b (i := 1) hc]), trivial⟩, rfl, rfl, ownH (by rw [fieldDiffs_no p a b (i := 1) hc]), rfl, rfl, rfl, rfl, trivial⟩
      · intro v
        refine Tri.joinK (α := Value) (fun v => [(2, .str p), (3, .box 3 ba 0), (4, .box 4 bb 0), (7, .sl (.own 1000 v) 2 (encDs (fieldDiffs p a b 3)))]) (fun v => [(1000, ownDs v (fieldDiffs p a b 3)), (3, .box ba (topCells a)), (4, .box bb (topCells b))]) ?_ ?_
        · refine Tri.seq ?_
          refine Tri.region ti_ok ?_
          conv => whnf
          refine ⟨rfl, ?_⟩
          conv => whnf
          refine ⟨rfl, ?_⟩
          conv => whnf
          refine ⟨fun h => h, ?_⟩
          conv => whnf
          refine ⟨rfl, ?_⟩
          conv => whnf
          refine ⟨fun h => h, ?_⟩
          conv => whnf
          refine ⟨rfl, ?_⟩
          conv => whnf
          refine ⟨fun h => h, ?_⟩
          conv => whnf
          refine ⟨fun h => h, ?_⟩
          conv => whnf
          refine ⟨fun h0 h => by first | exact h | (rw [h]; rfl) | (rw [h0, h]; rfl), ?_⟩
          conv => whnf
          refine ⟨fun h => h, ?_⟩
          conv => whnf
          refine ⟨rfl, ?_⟩
          conv => whnf
          refine ⟨fun h => h, ?_⟩
          conv => whnf
          refine ⟨rfl, ?_⟩
          conv => whnf
          refine ⟨fun h => h, ?_⟩
          conv => whnf
          refine ⟨fun h => h, ?_⟩
          conv => whnf
          refine ⟨fun h0 h => by first | exact h | (rw [h]; rfl) | (rw [h0, h]; rfl), ?_⟩
          conv => whnf
          refine Tri.cond (fieldDiff a b 2) (by simp only [fieldDiff, ← bif_or]; rfl) (fun hc => ?_) (fun hc => ?_)
          · refine Tri.region ti_ok ?_
            conv => whnf
            refine ⟨trivial, ?_⟩
            conv => whnf
            refine ⟨rfl, rfl, ?_⟩
            conv => whnf
            have hfl := fd_len p a b 2
            refine ⟨by show (_ + 1) * 24 ≤ _; omega, by show _ + 1 ≤ _; omega, (fun h => by cases h), fun v => ?_⟩
            conv => whnf
            exact ⟨v, [(1000, 64), (3, 3), (4, 4)], ⟨.refl _, .refl _, .refl _, DLe.ownEq (encDs_next p a b (i := 2) hc), trivial⟩, rfl, rfl, ownH (by rw [← encDs_next p a b (i := 2) hc]; simp), rfl, rfl, rfl, rfl, trivial⟩
          · refine Tri.skip ?_
            conv => whnf
            exact ⟨v, [(1000, 1000), (3, 3), (4, 4)], ⟨.refl _, .refl _, .refl _, DLe.ownEq (by rw [fieldDiffs_no p a b (i := 2) hc]), trivial⟩, rfl, rfl, ownH (by rw [fieldDiffs_no p a b (i := 2) hc]), rfl, rfl, rfl, rfl, trivial⟩
        · intro v
          refine Tri.joinK (α := Value) (fun v => [(2, .str p), (3, .box 3 ba 0), (4, .box 4 bb 0), (7, .sl (.own 1000 v) 2 (encDs (fieldDiffs p a b 4)))]) (fun v => [(1000, ownDs v (fieldDiffs p a b 4)), (3, .box ba (topCells a)), (4, .box bb (topCells b))]) ?_ ?_
          · refine Tri.seq ?_
            refine Tri.region ti_ok ?_
            conv => whnf
            refine ⟨rfl, ?_⟩
            conv => whnf
            refine ⟨rfl, ?_⟩
            conv => whnf
            refine Tri.cond (fieldDiff a b 3) rfl (fun hc => ?_) (fun hc => ?_)
            · refine Tri.region ti_ok ?_
              conv => whnf
              refine ⟨trivial, ?_⟩
              conv => whnf
              refine ⟨rfl, rfl, ?_⟩
              conv => whnf
              have hfl := fd_len p a b 3
              refine ⟨by show (_ + 1) * 24 ≤ _; omega, by show _ + 1 ≤ _; omega, (fun h => by cases h), fun v => ?_⟩
              conv => whnf
              exact ⟨v, [(1000, 74), (3, 3), (4, 4)], ⟨.refl _, .refl _, .refl _, DLe.ownEq (encDs_next p a b (i := 3) hc), trivial⟩, rfl, rfl, ownH (by rw [← encDs_next p a b (i := 3) hc]; simp), rfl, rfl, rfl, rfl, trivial⟩
            · refine Tri.skip ?_
              conv => whnf
              exact ⟨v, [(1000, 1000), (3, 3), (4, 4)], ⟨.refl _, .refl _, .refl _, DLe.ownEq (by rw [fieldDiffs_no p a b (i := 3) hc]), trivial⟩, rfl, rfl, ownH (by rw [fieldDiffs_no p a b (i := 3) hc]), rfl, rfl, rfl, rfl, trivial⟩
          · intro v
            refine Tri.joinK (α := Value) (fun v => [(2, .str p), (3, .box 3 ba 0), (4, .box 4 bb 0), (7, .sl (.own 1000 v) 2 (encDs (fieldDiffs p a b 5)))]) (fun v => [(1000, ownDs v (fieldDiffs p a b 5)), (3, .box ba (topCells a)), (4, .box bb (topCells b))]) ?_ ?_
            · refine Tri.seq ?_
              refine Tri.region ti_ok ?_
              conv => whnf
              refine ⟨rfl, ?_⟩
              conv => whnf
              refine ⟨rfl, ?_⟩
              conv => whnf
              refine ⟨[.sl .none 2 (a.streams.map encS), .sl .none 2 (b.streams.map encS)], _, fun _ => sameStreams_ok _ _ (by omega) (by omega), ⟨.refl _, .refl _, trivial⟩, ?_⟩
              conv => whnf
              refine Tri.cond (fieldDiff a b 4) rfl (fun hc => ?_) (fun hc => ?_)
              · refine Tri.region ti_ok ?_
                conv => whnf
                refine ⟨trivial, ?_⟩
                conv => whnf
                refine ⟨rfl, rfl, ?_⟩
                conv => whnf
                have hfl := fd_len p a b 4
                refine ⟨by show (_ + 1) * 24 ≤ _; omega, by show _ + 1 ≤ _; omega, (fun h => by cases h), fun v => ?_⟩
                conv => whnf
                exact ⟨v, [(1000, 85), (3, 3), (4, 4)], ⟨.refl _, .refl _, .refl _, DLe.ownEq (encDs_next p a b (i := 4) hc), trivial⟩, rfl, rfl, ownH (by rw [← encDs_next p a b (i := 4) hc]; simp), rfl, rfl, rfl, rfl, trivial⟩
              · refine Tri.skip ?_
                conv => whnf
                exact ⟨v, [(1000, 1000), (3, 3), (4, 4)], ⟨.refl _, .refl _, .refl _, DLe.ownEq (by rw [fieldDiffs_no p a b (i := 4) hc]), trivial⟩, rfl, rfl, ownH (by rw [fieldDiffs_no p a b (i := 4) hc]), rfl, rfl, rfl, rfl, trivial⟩
            · intro v
              refine Tri.seq ?_
              refine Tri.region ti_ok ?_
              conv => whnf
              refine ⟨rfl, ?_⟩
              conv => whnf
              refine ⟨rfl, ?_⟩
              conv => whnf
              refine ⟨[encTop a, encTop b], _, fun _ => F63 a b hfa' hfb', ⟨.refl _, .refl _, trivial⟩, ?_⟩
              conv => whnf
              refine Tri.seq ?_
              refine Tri.seq ?_
              refine Tri.region ti_ok ?_
              conv => whnf
              refine Tri.block ?_
              refine Tri.loopK (α := { x : Nat × Nat × Nat × List DV // x.2.1 ≤ a.kids.length ∧ x.2.2.1 ≤ b.kids.length ∧ (mnames a.kids b.kids).drop x.1 = mnames (a.kids.drop x.2.1) (b.kids.drop x.2.2.1) ∧ cmpT p a b = x.2.2.2 ++ mrg p (a.kids.drop x.2.1) (b.kids.drop x.2.2.1) ∧
                  x.2.2.2.length + 3 * (szL (a.kids.drop x.2.1) + szL (b.kids.drop x.2.2.1)) ≤ 3 * (sz a + sz b) ∧ Sep a b x.2.1 x.2.2.1 ∧ x.1 ≤ x.2.1 + x.2.2.1 } × Value)
                (fun x => [(2, .str p), (3, .box 3 ba 0), (4, .box 4 bb 0), (8, .sl .none 1 (strs (mnames a.kids b.kids))), (9, .int .i64 x.1.1.1), (7, .sl (.own 1000 x.2) 2 (encDs x.1.1.2.2.2))])
                (fun x => [(1000, ownDs x.2 x.1.1.2.2.2), (3, .box ba (topCells a)), (4, .box bb (topCells b))]) (fun x => (mnames a.kids b.kids).length - x.1.1.1)
                (⟨(0, 0, 0, fieldDiffs p a b 5), Nat.zero_le _, Nat.zero_le _, rfl, by rw [hC]; rfl, by have := fieldDiffs_len p a b 5; show (fieldDiffs p a b 5).length + 3 * (szL a.kids + szL b.kids) ≤ 3 * (sz a + sz b); omega, ⟨fun k hk => absurd hk (Nat.not_lt_zero _), fun k hk => absurd hk (Nat.not_lt_zero _)⟩, Nat.zero_le _⟩, v) [(1000, 1000), (3, 3), (4, 4)] ⟨⟨.refl _, .refl _, .refl _, .refl _, .refl _, .refl _, trivial⟩, rfl, rfl, rfl, rfl, rfl, rfl, rfl, trivial⟩ ?_
              rintro ⟨⟨⟨t, i, j, out⟩, hi, hj, hnm, hout, hol, hsep, htij⟩, v⟩
              dsimp only at hi hj hnm hout hol hsep htij ⊢
              have hel := encDs_len out
              refine Tri.seq ?_
              refine Tri.seq ?_
              refine Tri.region ti_ok ?_
              conv => whnf
              refine Tri.cond _ rfl (fun hc => ?_) (fun hc => ?_)
              · refine Tri.skip ?_
                conv => whnf
                have hta : t < (mnames a.kids b.kids).length := by simpa [strs] using hc
                have hdr := List.drop_eq_getElem_cons hta
                have hst := stp p hsa'.1 hsb'.1 hsep hi hj (hnm.symm.trans hdr)
                have hgq : (strs (mnames a.kids b.kids))[t]? = some (.str (mnames a.kids b.kids)[t]) := get_map _ hta
                generalize (mnames a.kids b.kids)[t] = q at *
                have hql : p.length + q.length < 1000000000 := by
                  cases hst with
                  | left h1 hq => have := szL_get h1; rw [kAt_get h1] at this; rw [hq]; omega
                  | right h1 hq => have := szL_get h1; rw [kAt_get h1] at this; rw [hq]; omega
                  | both h1 _ hq => have := szL_get h1; rw [kAt_get h1] at this; rw [hq]; omega
                refine Tri.seq ?_
                refine Tri.block ?_
                refine Tri.seq ?_
                refine Tri.draw ti_ok mixed (by kernel_rfl) ?_
                conv => whnf
                refine ⟨rfl, ?_⟩
                conv => whnf
                refine ⟨fun _ => by simp [strs]; omega, ?_⟩
                conv => whnf
                refine ⟨.str q, fun _ => hgq, ?_⟩
                conv => whnf
                refine ⟨[encTop a, .str q], _, fun _ => F45 a q hfa', ⟨.refl _, .refl _, trivial⟩, ?_⟩
                conv => whnf
                refine ⟨rfl, ?_⟩
                conv => whnf
                refine ⟨fun _ => by simp [strs]; omega, ?_⟩
                conv => whnf
                refine ⟨.str q, fun _ => hgq, ?_⟩
                conv => whnf
                refine ⟨[encTop b, .str q], _, fun _ => F45 b q hfb', ⟨.refl _, .refl _, trivial⟩, ?_⟩
                conv => whnf
                refine Tri.block ?_
                refine Tri.seq ?_
                refine Tri.region ti_ok ?_
                conv => whnf
                refine Tri.cond _ rfl (fun hc => ?_) (fun hcb => ?_)
                · refine Tri.region ti_ok ?_
                  conv => whnf
                  refine ⟨fun _ => by simp [strs]; omega, ?_⟩
                  conv => whnf
                  refine ⟨.str q, fun _ => hgq, ?_⟩
                  conv => whnf
                  refine ⟨[.str p, .str q], _, fun _ => F64 p q hql, ⟨.refl _, .refl _, trivial⟩, ?_⟩
                  conv => whnf
                  refine ⟨trivial, ?_⟩
                  conv => whnf
                  refine ⟨rfl, rfl, ?_⟩
                  conv => whnf
                  refine ⟨by show (_ + 1) * 24 ≤ _; omega, by show _ + 1 ≤ _; omega, (fun h => by cases h), fun v => ?_⟩
                  conv => whnf
                  refine Tri.region ti_ok ?_
                  conv => whnf
                  refine .inl ⟨fun _ => by simp only [InR]; omega, ?_⟩
                  conv => whnf
                  obtain ⟨hi', hs', hr, hm⟩ : i < a.kids.length ∧ Sep a b (i + 1) j ∧ (mnames a.kids b.kids).drop (t + 1) = mnames (a.kids.drop (i + 1)) (b.kids.drop j) ∧ mrg p (a.kids.drop i) (b.kids.drop j) = ⟨0, joinP p q⟩ :: mrg p (a.kids.drop (i + 1)) (b.kids.drop j) := by
                    cases hst with
                    | left h1 hq h3 h4 h5 h6 h7 => exact ⟨h1, h5, h6, h7⟩
                    | right h1 hq h3 h4 => rw [h4] at hc; simp at hc; omega
                    | both h1 h2 hq h3 h4 => rw [h4] at hc; simp at hc; omega
                  have hsd := szL_drop hi'
                  exact ⟨(⟨(t + 1, i + 1, j, out ++ [(⟨0, joinP p q⟩ : DV)]), hi', hj, hr, by rw [hout, hm]; simp, by simp only [List.length_append, List.length_singleton]; omega, hs', by show t + 1 ≤ i + 1 + j; omega⟩, v), [(1000, 138), (3, 3), (4, 4)], by show _ - (t + 1) < _ - t; omega,
                    ⟨.refl _, .refl _, .refl _, .refl _, .refl _, DLe.ownEq (encDs_snoc out ⟨0, joinP p q⟩), trivial⟩, rfl, rfl, ownH (by simp [encDs]), rfl, rfl, rfl, rfl, trivial⟩
                · refine Tri.seq ?_
                  refine Tri.region ti_ok ?_
                  conv => whnf
                  refine Tri.cond _ rfl (fun hc => ?_) (fun hc => ?_)
                  · refine Tri.region ti_ok ?_
                    conv => whnf
                    refine ⟨fun _ => by simp [strs]; omega, ?_⟩
                    conv => whnf
                    refine ⟨.str q, fun _ => hgq, ?_⟩
                    conv => whnf
                    refine ⟨[.str p, .str q], _, fun _ => F64 p q hql, ⟨.refl _, .refl _, trivial⟩, ?_⟩
                    conv => whnf
                    refine ⟨trivial, ?_⟩
                    conv => whnf
                    refine ⟨rfl, rfl, ?_⟩
                    conv => whnf
                    refine ⟨by show (_ + 1) * 24 ≤ _; omega, by show _ + 1 ≤ _; omega, (fun h => by cases h), fun v => ?_⟩
                    conv => whnf
                    refine Tri.region ti_ok ?_
                    conv => whnf
                    refine .inl ⟨fun _ => by simp only [InR]; omega, ?_⟩
                    conv => whnf
                    obtain ⟨hj', hs', hr, hm⟩ : j < b.kids.length ∧ Sep a b i (j + 1) ∧ (mnames a.kids b.kids).drop (t + 1) = mnames (a.kids.drop i) (b.kids.drop (j + 1)) ∧ mrg p (a.kids.drop i) (b.kids.drop j) = ⟨1, joinP p q⟩ :: mrg p (a.kids.drop i) (b.kids.drop (j + 1)) := by
                      cases hst with
                      | left h1 hq h3 h4 h5 h6 h7 => rw [h3] at hc; simp at hc; omega
                      | right h1 hq h3 h4 h5 h6 h7 => exact ⟨h1, h5, h6, h7⟩
                      | both h1 h2 hq h3 h4 => rw [h3] at hc; simp at hc; omega
                    have hsd := szL_drop hj'
                    exact ⟨(⟨(t + 1, i, j + 1, out ++ [(⟨1, joinP p q⟩ : DV)]), hi, hj', hr, by rw [hout, hm]; simp, by simp only [List.length_append, List.length_singleton]; omega, hs', by show t + 1 ≤ i + (j + 1); omega⟩, v), [(1000, 151), (3, 3), (4, 4)], by show _ - (t + 1) < _ - t; omega,
                      ⟨.refl _, .refl _, .refl _, .refl _, .refl _, DLe.ownEq (encDs_snoc out ⟨1, joinP p q⟩), trivial⟩, rfl, rfl, ownH (by simp [encDs]), rfl, rfl, rfl, rfl, trivial⟩
                  · obtain ⟨hi', hj', hq, h1, h2, hs', hr, hm⟩ : i < a.kids.length ∧ j < b.kids.length ∧ q = (kAt a i).name ∧ kidIx a q = i ∧ kidIx b q = j ∧ Sep a b (i + 1) (j + 1) ∧ (mnames a.kids b.kids).drop (t + 1) = mnames (a.kids.drop (i + 1)) (b.kids.drop (j + 1)) ∧
                        mrg p (a.kids.drop i) (b.kids.drop j) = cmpT (joinP p q) (kAt a i) (kAt b j) ++ mrg p (a.kids.drop (i + 1)) (b.kids.drop (j + 1)) := by
                      cases hst with
                      | left h1 hq h3 h4 => exfalso; rw [h4] at hcb; simp at hcb
                      | right h1 hq h3 h4 => exfalso; rw [h3] at hc; simp at hc
                      | both h1 h2 hq h3 h4 h5 h6 h7 => exact ⟨h1, h2, hq, h3, h4, h5, h6, h7⟩
                    have hsd := szL_drop hi'
                    have hsdb := szL_drop hj'
                    have hkae : kAt a i = a.kids.getD i default := rfl
                    have hkbe : kAt b j = b.kids.getD j default := rfl
                    rw [← hkae] at hsd
                    rw [← hkbe] at hsdb
                    have hda : szL (a.kids.drop i) ≤ szL a.kids := szL_drop_le _ _
                    have hdb : szL (b.kids.drop j) ≤ szL b.kids := szL_drop_le _ _
                    have hjl := joinP_len p q
                    have hqn : q.length = (kAt a i).name.length := by rw [hq]
                    refine Tri.drawTail ti_ok 18 mixed (by kernel_rfl) ?_
                    conv => whnf
                    refine ⟨rfl, ?_⟩
                    conv => whnf
                    refine ⟨fun _ => by rw [h1]; simp; omega, ?_⟩
                    conv => whnf
                    refine ⟨encTop (kAt a i), fun _ => by rw [h1]; exact get_kk a hi', ?_⟩
                    conv => whnf
                    refine ⟨rfl, ?_⟩
                    conv => whnf
                    refine ⟨fun _ => by rw [h2]; simp; omega, ?_⟩
                    conv => whnf
                    refine ⟨encTop (kAt b j), fun _ => by rw [h2]; exact get_kk b hj', ?_⟩
                    conv => whnf
                    refine ⟨fun _ => by simp [strs]; omega, ?_⟩
                    conv => whnf
                    refine ⟨.str q, fun _ => hgq, ?_⟩
                    conv => whnf
                    refine ⟨[.str p, .str q], _, fun _ => F64 p q hql, ⟨.refl _, .refl _, trivial⟩, ?_⟩
                    conv => whnf
                    refine ⟨[encTop (kAt a i), encTop (kAt b j), .str (joinP p q)], _, fun _ => ih (joinP p q) (kAt a i) (kAt b j) (by omega) (by unfold Fits; omega) (by unfold Fits; omega) (srtL_get hsa'.2 hi') (srtL_get hsb'.2 hj') (by omega), ⟨.refl _, .refl _, .refl _, trivial⟩, ?_⟩
                    conv => whnf
                    refine ⟨rfl, rfl, ?_⟩
                    conv => whnf
                    have hcl := cmpT_len (joinP p q) (kAt a i) (kAt b j)
                    have hcel := encDs_len (cmpT (joinP p q) (kAt a i) (kAt b j))
                    refine ⟨by show (_ + _) * 24 ≤ _; omega, by show _ + _ ≤ _; omega, (fun h => by cases h), fun v => ?_⟩
                    conv => whnf
                    refine Tri.region ti_ok ?_
                    conv => whnf
                    refine .inl ⟨fun _ => by simp only [InR]; omega, ?_⟩
                    conv => whnf
                    exact ⟨(⟨(t + 1, i + 1, j + 1, out ++ cmpT (joinP p q) (kAt a i) (kAt b j)), hi', hj', hr, by rw [hout, hm]; simp, by simp only [List.length_append]; omega, hs', by show t + 1 ≤ i + 1 + (j + 1); omega⟩, v), [(1000, 125), (3, 3), (4, 4)], by show _ - (t + 1) < _ - t; omega,
                      ⟨.refl _, .refl _, .refl _, .refl _, .refl _, DLe.ownEq (encDs_append _ _), trivial⟩, rfl, rfl, ownH (by simp [encDs]), rfl, rfl, rfl, rfl, trivial⟩
              · refine Tri.exit ?_
                conv => whnf
                refine Tri.seq ?_
                refine Tri.region ti_ok ?_
                conv => whnf
                refine Tri.ret ?_
                conv => whnf
                have hend : ¬ t < (mnames a.kids b.kids).length := by simpa [strs] using hc
                have hm0 : mnames (a.kids.drop i) (b.kids.drop j) = [] := by rw [← hnm]; exact List.drop_of_length_le (by omega)
                have hij : ¬ i < a.kids.length ∧ ¬ j < b.kids.length := mnames_nil hm0
                rw [hout, List.drop_of_length_le (by omega), List.drop_of_length_le (by omega), mrg, List.append_nil]
                exact DLe.unown
end Go.Tame.V
/- A valid tree is sorted; contracts: the reference's Compare and Same. By program (mk.py). -/
namespace Go.Tame.V
open Go Go.Proofs
variable {W0 : World}
set_option maxRecDepth 10000
set_option linter.unusedVariables false
set_option linter.unusedSimpArgs false

theorem nz_zero {f : Nat → Int} : ∀ {k i : Nat}, firstNZ f i k = 0 → ∀ j, i ≤ j → j < i + k → f j = 0
  | 0, i, _, j, h1, h2 => by omega
  | k + 1, i, h, j, h1, h2 => by
    unfold firstNZ at h
    split at h
    · rename_i h0
      by_cases e : j = i
      · subst e; exact h0
      · exact nz_zero h j (by omega) (by omega)
    · rename_i h0; exact absurd h h0
theorem one_inc {n : NV} {l : Int} (h : one n l = 0) : inc n.kids := fun i hi => by
  have h7 : rKids n = 0 := nz_zero h 7 (by omega) (by omega)
  have h1 : fK n (i + 1) = 0 := nz_zero h7 (i + 1) (by omega) (by omega)
  unfold fK ordE at h1
  rw [show i + 1 - 1 = i by omega] at h1
  split at h1
  · cases h1
  · rename_i hne
    split at h1
    · cases h1
    · rename_i hnl
      show Op.bytesLess (kAt n i).name (kAt n (i + 1)).name = true
      cases hb : Op.bytesLess (kAt n i).name (kAt n (i + 1)).name with
      | true => rfl
      | false => exact absurd (bl_total _ _ hb (by simpa using hnl)) hne
mutual
theorem walk_srt : ∀ (n : NV) (p : List UInt8) (l : Int), (walk checkF n p l (0, [])).1 = true → srt n
  | .mk a b c d e f g h i j ks ss, p, l, hw => by
    simp only [walk] at hw
    unfold checkF at hw
    split at hw
    · cases hw
    · rename_i s' heq
      split at heq
      · rename_i h0
        cases heq
        rw [srt_eq]
        exact ⟨one_inc h0, walkL_srt ks p l hw⟩
      · cases heq
theorem walkL_srt : ∀ (ks : List NV) (p : List UInt8) (l : Int), (walkL checkF ks p l (0, [])).1 = true → srtL ks
  | [], p, l, _ => trivial
  | k :: r, p, l, hw => by
    simp only [walkL] at hw
    rcases wchk k (below p k.name (l + 1)) (l + 1) with h | ⟨h1, h2⟩
    · have hk := walk_srt k (below p k.name (l + 1)) (l + 1) (by rw [h])
      rw [h] at hw
      exact ⟨hk, walkL_srt r p l hw⟩
    · generalize walk checkF k (below p k.name (l + 1)) (l + 1) (0, []) = x at hw h1
      obtain ⟨x, y⟩ := x
      simp only at h1; subst h1; cases hw
end
theorem valid_srt {n : NV} (h : valid n = true) : srt n := by
  unfold valid check at h
  split at h
  · cases h
  · rcases wchk n [] 1 with h1 | ⟨h1, h2⟩
    · exact walk_srt n [] 1 (by rw [h1])
    · simp at h; exact absurd h h2

theorem F14 (a b : NV) (ha : Fits a) (hb : Fits b) : DFun Tryz.prog W0 14 [encTop a, encTop b] (.tup [.sl .none 2 (encDs (compare a b).1), .int .i64 (compare a b).2]) := by
  refine DFun.intro ti_ok Tryz.func14 rfl (by decide +kernel) Tryz.ntmps14 rfl fun Γ => ?_
  refine Tri.seq ?_
  refine Tri.region ti_ok ?_
  conv => whnf
  intro ba
  conv => whnf
  intro bb
  conv => whnf
  refine Tri.seq ?_
  refine Tri.seq ?_
  refine Tri.region ti_ok ?_
  conv => whnf
  refine ⟨rfl, ?_⟩
  conv => whnf
  have ha' := ha
  have hb' := hb
  unfold Fits at ha hb
  refine ⟨[encTop a], _, fun _ => F20 a ha, ⟨.refl _, trivial⟩, ?_⟩
  conv => whnf
  refine ⟨rfl, ?_⟩
  conv => whnf
  refine ⟨fun h => h, ?_⟩
  conv => whnf
  refine ⟨[encTop b], _, fun h => F20 b hb, ⟨.refl _, trivial⟩, ?_⟩
  conv => whnf
  refine ⟨fun h => h, ?_⟩
  conv => whnf
  refine ⟨fun h0 h => by first | exact h | (rw [h]; rfl) | (rw [h0, h]; rfl), ?_⟩
  conv => whnf
  refine Tri.cond _ rfl (fun hc => ?_) (fun hc => ?_)
  · refine Tri.seq ?_
    refine Tri.region ti_ok ?_
    conv => whnf
    refine Tri.ret ?_
    conv => whnf
    have hv := (not_both _ _).symm.trans hc
    have hC : compare a b = ([], 1) := by rw [compare, if_neg (by intro h; rw [h] at hv; cases hv)]
    rw [hC]
    exact ⟨DLe.nil, .refl _, trivial⟩
  · refine Tri.skip ?_
    conv => whnf
    have hv := (not_both _ _).symm.trans hc
    have hvv : (valid a && valid b) = true := by
      cases hh : (valid a && valid b)
      · rw [hh] at hv; exact absurd hv (by decide)
      · rfl
    have hva : valid a = true ∧ valid b = true := by simpa using hvv
    refine Tri.seq ?_
    refine Tri.region ti_ok ?_
    conv => whnf
    refine ⟨rfl, ?_⟩
    conv => whnf
    refine ⟨rfl, ?_⟩
    conv => whnf
    refine ⟨[encTop a, encTop b, .str []], _, fun _ => F41 _ [] a b (Nat.lt_succ_self _) ha' hb' (valid_srt hva.1) (valid_srt hva.2) (by simp; omega), ⟨.refl _, .refl _, .refl _, trivial⟩, ?_⟩
    conv => whnf
    refine Tri.ret ?_
    conv => whnf
    have hC : compare a b = (cmpT [] a b, 0) := by rw [compare, if_pos hvv]
    rw [hC]
    exact ⟨.refl _, .refl _, trivial⟩
theorem F17 (a b : NV) (ha : Fits a) (hb : Fits b) : DFun Tryz.prog W0 17 [encTop a, encTop b] (.bool (same a b)) := by
  refine DFun.intro ti_ok Tryz.func17 rfl (by decide +kernel) Tryz.ntmps17 rfl fun Γ => ?_
  refine Tri.seq ?_
  refine Tri.region ti_ok ?_
  conv => whnf
  intro ba
  conv => whnf
  intro bb
  conv => whnf
  refine Tri.seq ?_
  refine Tri.region ti_ok ?_
  conv => whnf
  refine ⟨rfl, ?_⟩
  conv => whnf
  refine ⟨rfl, ?_⟩
  conv => whnf
  refine ⟨[encTop a, encTop b], _, fun _ => F14 a b ha hb, ⟨.refl _, .refl _, trivial⟩, ?_⟩
  conv => whnf
  refine Tri.seq ?_
  refine Tri.region ti_ok ?_
  conv => whnf
  refine ⟨fun h => h, ?_⟩
  conv => whnf
  refine ⟨fun h => h, ?_⟩
  conv => whnf
  refine ⟨fun h0 h => by first | exact h | (rw [h]; rfl) | (rw [h0, h]; rfl), ?_⟩
  conv => whnf
  refine Tri.ret ?_
  conv => whnf
  refine DLe.of_eq (congrArg D.bool ?_)
  rw [bif_and, same, encDs_len]
  congr 1
  rw [Bool.eq_iff_iff]; simp
end Go.Tame.V
/- Two laws, given that the first thing that they ask ('awake') answers true. By program (mk.py). -/
namespace Go.Tame.V
open Go Go.Proofs
variable {W0 : World}
set_option maxRecDepth 10000
set_option linter.unusedVariables false
set_option linter.unusedSimpArgs false

theorem F3 (hA : DFun Tryz.prog W0 11 [] (.bool true)) (hL : LibOk W0) (a b : NV) (ha : Fits a) (hb : Fits b) : DFun Tryz.prog W0 3 [encTop a, encTop b] (.bool true) := by
  refine DFun.intro ti_ok Tryz.func3 rfl (by decide +kernel) Tryz.ntmps3 rfl fun Γ => ?_
  refine Tri.seq ?_
  refine Tri.region ti_ok ?_
  conv => whnf
  intro ba
  have hl : (cmpT [] a b).length < 1000000000 := by have := cmpT_len [] a b; unfold Fits at ha hb; omega
  have hlc : (compare a b).1.length < 1000000000 := by unfold compare; split; exact hl; simp
  conv => whnf
  intro bb
  conv => whnf
  refine Tri.seq ?_
  refine Tri.seq ?_
  refine Tri.region ti_ok ?_
  conv => whnf
  refine ⟨[], _, fun _ => hA, trivial, ?_⟩
  conv => whnf
  refine Tri.cond _ rfl (fun hc => ?_) (fun hc => ?_)
  · refine Tri.seq ?_
    refine Tri.region ti_ok ?_
    conv => whnf
    refine Tri.ret ?_
    conv => whnf
    exact absurd hc (by decide)
  · refine Tri.skip ?_
    conv => whnf
    refine Tri.seq ?_
    refine Tri.seq ?_
    refine Tri.region ti_ok ?_
    conv => whnf
    refine ⟨rfl, ?_⟩
    conv => whnf
    refine ⟨rfl, ?_⟩
    conv => whnf
    refine ⟨[encTop a, encTop b], _, fun _ => F12 a b ha hb, ⟨.refl _, .refl _, trivial⟩, ?_⟩
    conv => whnf
    refine Tri.cond _ rfl (fun hc => ?_) (fun hc => ?_)
    · refine Tri.seq ?_
      refine Tri.region ti_ok ?_
      conv => whnf
      refine Tri.ret ?_
      conv => whnf
      exact .refl _
    · refine Tri.skip ?_
      conv => whnf
      refine Tri.seq ?_
      refine Tri.region ti_ok ?_
      conv => whnf
      refine ⟨rfl, ?_⟩
      conv => whnf
      refine ⟨rfl, ?_⟩
      conv => whnf
      refine ⟨[encTop a, encTop b], _, fun _ => F13 hL a b ha hb, ⟨.refl _, .refl _, trivial⟩, ?_⟩
      conv => whnf
      refine Tri.seq ?_
      refine Tri.region ti_ok ?_
      conv => whnf
      refine ⟨rfl, ?_⟩
      conv => whnf
      refine ⟨rfl, ?_⟩
      conv => whnf
      refine ⟨[encTop a, encTop b], _, fun _ => F14 a b ha hb, ⟨.refl _, .refl _, trivial⟩, ?_⟩
      conv => whnf
      refine Tri.seq ?_
      refine Tri.draw ti_ok mixed (by kernel_rfl) ?_
      conv => whnf
      refine ⟨fun h => h, ?_⟩
      conv => whnf
      refine ⟨fun h => h, ?_⟩
      conv => whnf
      refine ⟨[.sl .none 2 (encDs (compare a b).1), .sl .none 2 (encDs (compare a b).1)], _, fun h => F15 _ _ hlc hlc, ⟨.refl _, .refl _, trivial⟩, ?_⟩
      conv => whnf
      refine ⟨fun h0 h => by first | exact h | (rw [h]; rfl) | (rw [h0, h]; rfl), ?_⟩
      conv => whnf
      refine ⟨rfl, ?_⟩
      conv => whnf
      refine ⟨rfl, ?_⟩
      conv => whnf
      refine ⟨fun h => h, ?_⟩
      conv => whnf
      refine ⟨fun h => h, ?_⟩
      conv => whnf
      refine ⟨[encTop a, encTop b], _, fun h => F16 hL a b ha hb, ⟨.refl _, .refl _, trivial⟩, ?_⟩
      conv => whnf
      refine ⟨rfl, ?_⟩
      conv => whnf
      refine ⟨rfl, ?_⟩
      conv => whnf
      refine ⟨fun h => h, ?_⟩
      conv => whnf
      refine ⟨fun h => h, ?_⟩
      conv => whnf
      refine ⟨[encTop a, encTop b], _, fun h => F17 a b ha hb, ⟨.refl _, .refl _, trivial⟩, ?_⟩
      conv => whnf
      refine ⟨fun h => h, ?_⟩
      conv => whnf
      refine ⟨fun h => h, ?_⟩
      conv => whnf
      refine ⟨fun h0 h => by first | exact h | (rw [h]; rfl) | (rw [h0, h]; rfl), ?_⟩
      conv => whnf
      refine Tri.ret ?_
      conv => whnf
      exact DLe.of_eq (congrArg D.bool (by simp))

theorem F10 (hA : DFun Tryz.prog W0 11 [] (.bool true)) (ds : List DV) (k : Int) (p : List UInt8) : DFun Tryz.prog W0 10 [.sl .none 2 (ds.map encD), .int .i64 k, .str p] (.bool true) := by
  refine DFun.intro ti_ok Tryz.func10 rfl (by decide +kernel) Tryz.ntmps10 rfl fun Γ => ?_
  refine Tri.seq ?_
  refine Tri.region ti_ok ?_
  conv => whnf
  refine Tri.seq ?_
  refine Tri.seq ?_
  refine Tri.region ti_ok ?_
  conv => whnf
  refine ⟨[], _, fun _ => hA, trivial, ?_⟩
  conv => whnf
  refine Tri.cond _ rfl (fun hc => ?_) (fun hc => ?_)
  · refine Tri.seq ?_
    refine Tri.region ti_ok ?_
    conv => whnf
    refine Tri.ret ?_
    conv => whnf
    exact absurd hc (by decide)
  · refine Tri.skip ?_
    conv => whnf
    refine Tri.seq ?_
    refine Tri.seq ?_
    refine Tri.region ti_ok ?_
    conv => whnf
    refine ⟨fun h => h, ?_⟩
    conv => whnf
    refine ⟨fun h => h, ?_⟩
    conv => whnf
    refine ⟨fun h0 h => by first | exact h | (rw [h]; rfl) | (rw [h0, h]; rfl), ?_⟩
    conv => whnf
    refine ⟨fun h => h, ?_⟩
    conv => whnf
    refine ⟨[.sl .none 2 (ds.map encD), .fn (.func 33) [] []], _, fun h => F32 ds (by simp at h; omega), ⟨.refl _, .refl _, trivial⟩, ?_⟩
    conv => whnf
    refine ⟨fun h0 h => by first | exact h | (rw [h]; rfl) | (rw [h0, h]; rfl), ?_⟩
    conv => whnf
    have hcc : ∀ t, (bif bif decide ((200 : Int) < ((ds.map encD).length : Int)) then true else decide ((1000 : Int) < (p.length : Int)) then true else ds.any longP) = t → t = false → ds.length ≤ 200 ∧ p.length ≤ 1000 ∧ ds.any longP = false := by
      rintro t rfl h
      rw [List.length_map] at h
      by_cases h1 : (200 : Int) < (ds.length : Int)
      · simp [h1] at h
      · by_cases h2 : (1000 : Int) < (p.length : Int)
        · simp [h1, h2] at h
        · simp only [h1, h2, decide_false, cond_false] at h
          exact ⟨by omega, by omega, h⟩
    refine Tri.cond _ rfl (fun hc => ?_) (fun hc => ?_)
    · refine Tri.seq ?_
      refine Tri.region ti_ok ?_
      conv => whnf
      refine Tri.ret ?_
      conv => whnf
      exact .refl _
    · refine Tri.skip ?_
      obtain ⟨hl, hpl, hany⟩ := hcc _ rfl hc
      have hd : ∀ d ∈ ds, d.path.length < 1000000000 := fun d hd => by
        have := List.any_eq_false.1 hany d hd
        simp [longP] at this; omega
      have hfl : ((ds.map fmtLine).length) < 1000000000 := by simp; omega
      have hbl : (ds.filter (belowP p)).length < 1000000000 := by have := List.length_filter_le (belowP p) ds; omega
      conv => whnf
      refine Tri.seq ?_
      refine Tri.region ti_ok ?_
      conv => whnf
      refine ⟨[.sl .none 2 (ds.map encD)], _, fun _ => F34 ds (by omega) hd, ⟨.refl _, trivial⟩, ?_⟩
      conv => whnf
      refine ⟨[.sl .none 2 (ds.map encD)], _, fun _ => F35 ds (by omega) hd, ⟨.refl _, trivial⟩, ?_⟩
      conv => whnf
      have hfm : ds.map fmtD = (ds.map fmtLine).map D.str := by rw [List.map_map]; rfl
      refine ⟨[.sl .none 1 ((ds.map fmtLine).map D.str), .sl .none 1 ((ds.map fmtLine).map D.str)], _, fun _ => F23 _ _ hfl hfl, ⟨DLe.of_eq (by rw [← hfm]), DLe.of_eq (by rw [← hfm]), trivial⟩, ?_⟩
      conv => whnf
      refine ⟨fun h => h, ?_⟩
      conv => whnf
      refine ⟨fun h => h, ?_⟩
      conv => whnf
      refine ⟨[.sl .none 2 (ds.map encD), .int .i64 k], _, fun h => F30 ds k (by omega), ⟨.refl _, .refl _, trivial⟩, ?_⟩
      conv => whnf
      refine ⟨fun h => h, ?_⟩
      conv => whnf
      refine ⟨fun h => h, ?_⟩
      conv => whnf
      refine ⟨[.sl .none 2 (ds.map encD), .int .i64 k], _, fun h => F36 ds k (by omega), ⟨.refl _, .refl _, trivial⟩, ?_⟩
      conv => whnf
      refine ⟨fun h => h, ?_⟩
      conv => whnf
      refine ⟨fun h => h, ?_⟩
      conv => whnf
      refine ⟨fun h0 h => by first | exact h | (rw [h]; rfl) | (rw [h0, h]; rfl), ?_⟩
      conv => whnf
      refine ⟨fun h => h, ?_⟩
      conv => whnf
      refine ⟨fun h => h, ?_⟩
      conv => whnf
      refine ⟨[.sl .none 2 (ds.map encD), .str p], _, fun h => F29 ds p (by omega) (by omega), ⟨.refl _, .refl _, trivial⟩, ?_⟩
      conv => whnf
      refine ⟨fun h => h, ?_⟩
      conv => whnf
      refine ⟨fun h => h, ?_⟩
      conv => whnf
      refine ⟨[.sl .none 2 (ds.map encD), .str p], _, fun h => F37 ds p (by omega) (by omega), ⟨.refl _, .refl _, trivial⟩, ?_⟩
      conv => whnf
      refine ⟨fun h => h, ?_⟩
      conv => whnf
      refine ⟨fun h => h, ?_⟩
      conv => whnf
      refine ⟨[.sl .none 2 ((ds.filter (belowP p)).map encD), .sl .none 2 ((ds.filter (belowP p)).map encD)], _, fun h => F15 _ _ hbl hbl, ⟨.refl _, .refl _, trivial⟩, ?_⟩
      conv => whnf
      refine ⟨fun h0 h => by first | exact h | (rw [h]; rfl) | (rw [h0, h]; rfl), ?_⟩
      conv => whnf
      refine Tri.ret ?_
      conv => whnf
      exact DLe.of_eq (congrArg D.bool (by simp))
end Go.Tame.V
/- Contracts: naming, small ones; the example. By program (mk.py). -/
namespace Go.Tame.V
open Go Go.Proofs
variable {W0 : World}
set_option maxRecDepth 10000
set_option linter.unusedVariables false
set_option linter.unusedSimpArgs false

def viewOk (v : Int) : Bool := decide (0 ≤ v) && decide (v < 4)
theorem F91 (v : Int) : DFun Tryz.prog W0 91 [.int .i64 v] (.bool (viewOk v)) := by
  refine DFun.intro ti_ok Tryz.func91 rfl (by decide +kernel) Tryz.ntmps91 rfl fun Γ => ?_
  refine Tri.seq ?_
  refine Tri.region ti_ok ?_
  conv => whnf
  refine Tri.seq ?_
  refine Tri.region ti_ok ?_
  conv => whnf
  refine ⟨fun h => h, ?_⟩
  conv => whnf
  refine ⟨fun h0 h => by first | exact h | (rw [h]; rfl) | (rw [h0, h]; rfl), ?_⟩
  conv => whnf
  refine Tri.ret ?_
  conv => whnf
  exact DLe.of_eq (congrArg D.bool (bif_and _ _))
def hiddenAt (h v : Int) : Bool := bitI .and .i64 (h.fdiv (2 ^ min v.toNat IntKind.i64.bits)) 1 == 1
def shown (v : Int) (n : NV) (l : Int) : Bool :=
  if !viewOk v || hiddenAt n.n6 v then false else if (v == 0 && n.kind == 0) && decide (8 < l) then false else (!(n.kind == 2) || v == 2) || v == 3
theorem F106 (v : Int) (n : NV) (l : Int) : DFun Tryz.prog W0 106 [.int .i64 v, encTop n, .int .i64 l] (.bool (shown v n l)) := by
  refine DFun.intro ti_ok Tryz.func106 rfl (by decide +kernel) Tryz.ntmps106 rfl fun Γ => ?_
  refine Tri.seq ?_
  refine Tri.region ti_ok ?_
  conv => whnf
  intro b
  conv => whnf
  refine Tri.seq ?_
  refine Tri.seq ?_
  refine Tri.region ti_ok ?_
  conv => whnf
  refine ⟨[.int .i64 v], _, fun _ => F91 v, ⟨.refl _, trivial⟩, ?_⟩
  conv => whnf
  refine ⟨fun h => h, ?_⟩
  conv => whnf
  refine ⟨rfl, ?_⟩
  conv => whnf
  refine ⟨fun h => h, ?_⟩
  conv => whnf
  refine ⟨fun h => h, ?_⟩
  conv => whnf
  refine ⟨fun h => by unfold viewOk at h; simp at h; omega, ?_⟩
  conv => whnf
  refine ⟨fun h => h, ?_⟩
  conv => whnf
  refine ⟨fun h => h, ?_⟩
  conv => whnf
  refine ⟨fun h0 h => by first | exact h | (rw [h]; rfl) | (rw [h0, h]; rfl), ?_⟩
  conv => whnf
  refine Tri.cond (!viewOk v || hiddenAt n.n6 v) (by simp only [← bif_or]; rfl) (fun hc => ?_) (fun hc => ?_)
  · refine Tri.seq ?_
    refine Tri.region ti_ok ?_
    conv => whnf
    refine Tri.ret ?_
    conv => whnf
    exact DLe.of_eq (congrArg D.bool (by rw [shown, if_pos hc]))
  · refine Tri.skip ?_
    have hc1 := hc
    conv => whnf
    refine Tri.seq ?_
    refine Tri.seq ?_
    refine Tri.region ti_ok ?_
    conv => whnf
    refine ⟨fun h => h, ?_⟩
    conv => whnf
    refine ⟨rfl, ?_⟩
    conv => whnf
    refine ⟨fun h => h, ?_⟩
    conv => whnf
    refine ⟨fun h0 h => by first | exact h | (rw [h]; rfl) | (rw [h0, h]; rfl), ?_⟩
    conv => whnf
    refine ⟨fun h => h, ?_⟩
    conv => whnf
    refine ⟨fun h0 h => by first | exact h | (rw [h]; rfl) | (rw [h0, h]; rfl), ?_⟩
    conv => whnf
    refine Tri.cond ((v == 0 && n.kind == 0) && decide (8 < l)) (by simp only [← bif_and]; rfl) (fun hc => ?_) (fun hc => ?_)
    · refine Tri.seq ?_
      refine Tri.region ti_ok ?_
      conv => whnf
      refine Tri.ret ?_
      conv => whnf
      exact DLe.of_eq (congrArg D.bool (by rw [shown, if_neg (by rw [hc1]; simp), if_pos hc]))
    · refine Tri.skip ?_
      conv => whnf
      refine Tri.seq ?_
      refine Tri.region ti_ok ?_
      conv => whnf
      refine ⟨rfl, ?_⟩
      conv => whnf
      refine ⟨fun h => h, ?_⟩
      conv => whnf
      refine ⟨fun h0 h => by first | exact h | (rw [h]; rfl) | (rw [h0, h]; rfl), ?_⟩
      conv => whnf
      refine ⟨fun h => h, ?_⟩
      conv => whnf
      refine ⟨fun h0 h => by first | exact h | (rw [h]; rfl) | (rw [h0, h]; rfl), ?_⟩
      conv => whnf
      refine Tri.ret ?_
      conv => whnf
      refine DLe.of_eq (congrArg D.bool ?_)
      rw [shown, if_neg (by rw [hc1]; simp), if_neg (by rw [hc]; simp)]
      simp only [← bif_or]
      rfl
theorem F107 (p n : List UInt8) (top : Bool) (h : p.length + n.length < 1000000000) : DFun Tryz.prog W0 107 [.str p, .str n, .bool top] (.str (if top then n else p ++ [47] ++ n)) := by
  refine DFun.intro ti_ok Tryz.func107 rfl (by decide +kernel) Tryz.ntmps107 rfl fun Γ => ?_
  refine Tri.seq ?_
  refine Tri.region ti_ok ?_
  conv => whnf
  refine Tri.seq ?_
  refine Tri.seq ?_
  refine Tri.region ti_ok ?_
  conv => whnf
  refine Tri.cond _ rfl (fun hc => ?_) (fun hc => ?_)
  · refine Tri.seq ?_
    refine Tri.region ti_ok ?_
    conv => whnf
    refine Tri.ret ?_
    conv => whnf
    exact DLe.of_eq (congrArg D.str (by rw [if_pos hc]))
  · refine Tri.skip ?_
    conv => whnf
    refine Tri.seq ?_
    refine Tri.region ti_ok ?_
    conv => whnf
    refine ⟨fun _ => by simp; omega, ?_⟩
    conv => whnf
    refine ⟨fun _ => by simp; omega, ?_⟩
    conv => whnf
    refine Tri.ret ?_
    conv => whnf
    exact DLe.of_eq (congrArg D.str (by rw [if_neg (by rw [hc]; simp)]))

def leaf (nm tx : List UInt8) : NV := ⟨nm, 1, tx, [], 0, 0, 0, 315532800, 0, 0, [], []⟩
theorem F58 (nm tx : List UInt8) : DFun Tryz.prog W0 58 [.str nm, .str tx] (encTop (leaf nm tx)) := by
  refine DFun.intro ti_ok Tryz.func58 rfl (by decide +kernel) Tryz.ntmps58 rfl fun Γ => ?_
  refine Tri.seq ?_
  refine Tri.region ti_ok ?_
  conv => whnf
  intro b
  conv => whnf
  refine Tri.seq ?_
  refine Tri.region ti_ok ?_
  conv => whnf
  refine ⟨rfl, ?_⟩
  conv => whnf
  refine Tri.ret ?_
  conv => whnf
  refine ⟨rfl, ?_⟩
  conv => whnf
  refine DLe.agg ?_
  exact ⟨.refl _, .refl _, .refl _, .refl _, .refl _, .refl _, .refl _, .refl _, .refl _, .refl _, DLe.nil, DLe.nil, trivial⟩
def exA : NV := ⟨[], 0, [], [], 0, 0, 0, 315532800, 0, 0, [leaf [97] [120], leaf [99] []], []⟩
def exB : NV := ⟨[], 0, [], [], 0, 0, 0, 315532800, 0, 0, [leaf [97] [121], leaf [98] []], []⟩
theorem F38 : DFun Tryz.prog W0 38 [] (.tup [encTop exA, encTop exB]) := by
  refine DFun.intro ti_ok Tryz.func38 rfl (by decide +kernel) Tryz.ntmps38 rfl fun Γ => ?_
  refine Tri.seq ?_
  refine Tri.region ti_ok ?_
  conv => whnf
  intro ba
  conv => whnf
  intro bb
  conv => whnf
  refine Tri.seq ?_
  refine Tri.region ti_ok ?_
  conv => whnf
  refine Tri.seq ?_
  refine Tri.region ti_ok ?_
  conv => whnf
  refine ⟨[.str [97], .str [120]], _, fun _ => F58 _ _, ⟨.refl _, .refl _, trivial⟩, ?_⟩
  conv => whnf
  refine ⟨[.str [99], .str []], _, fun _ => F58 _ _, ⟨.refl _, .refl _, trivial⟩, ?_⟩
  conv => whnf
  refine ⟨trivial, ?_⟩
  conv => whnf
  refine ⟨[.str [97], .str [121]], _, fun _ => F58 _ _, ⟨.refl _, .refl _, trivial⟩, ?_⟩
  conv => whnf
  refine ⟨[.str [98], .str []], _, fun _ => F58 _ _, ⟨.refl _, .refl _, trivial⟩, ?_⟩
  conv => whnf
  refine ⟨trivial, ?_⟩
  conv => whnf
  refine ⟨rfl, ?_⟩
  conv => whnf
  refine ⟨rfl, ?_⟩
  conv => whnf
  refine Tri.ret ?_
  conv => whnf
  refine ⟨rfl, ?_⟩
  conv => whnf
  refine ⟨rfl, ?_⟩
  conv => whnf
  refine ⟨DLe.agg ?_, DLe.agg ?_, trivial⟩ <;> exact ⟨.refl _, .refl _, .refl _, .refl _, .refl _, .refl _, .refl _, .refl _, .refl _, .refl _, DLe.full, DLe.nil, trivial⟩
end Go.Tame.V
namespace Go.Tame.V
open Go Go.Proofs Go.RowKit
set_option maxRecDepth 100000
theorem cmp109 (a b : ByteArray) (k1 k2 k3 k4 k5 k6 k7 k8 k9 k10 k11 j1 j2 j3 j4 j5 j6 j7 j8 j9 j10 j11 : Value) (w : World) :
    Calls Tryz.prog 109 #[.agg #[.string a, k1, k2, k3, k4, k5, k6, k7, k8, k9, k10, k11], .agg #[.string b, j1, j2, j3, j4, j5, j6, j7, j8, j9, j10, j11]] w
      fun e w' => e = .returned (.int .i64 (Lib.compareBytes a.data.toList b.data.toList)) ∧ ∃ q os', w' = Sort.grow (w.drewN q) os' := by
  go_enter Tryz.func109, Tryz.ntmps109
  go_wp2_with (first
    | (go_at_call 110; refine (Tryz.strings_Compare _ _ _).mono ?_; rintro e w' ⟨rfl, rfl⟩)
    | go_in)
  go_ret
  refine ⟨rfl, 0, #[.cells #[.string a, k1, k2, k3, k4, k5, k6, k7, k8, k9, k10, k11] 25, .cells #[.string b, j1, j2, j3, j4, j5, j6, j7, j8, j9, j10, j11] 25], ?_⟩
  simp only [Sort.grow, World.drewN, World.alloc, Nat.add_zero]
  congr 1
theorem cmp124 (bb b o n cap i j : Nat) (x y : ByteArray) (w : World) (hbox : w.cell? ⟨bb, 0, none⟩ = some (.slice (some ⟨b, o, none⟩) n cap)) (hi : i < n) (hj : j < n)
    (hx : w.cell? ⟨b, o + i * 12, none⟩ = some (.string x)) (hy : w.cell? ⟨b, o + j * 12, none⟩ = some (.string y)) :
    Calls Tryz.prog 124 #[.int .i64 i, .int .i64 j, .pointer (some ⟨bb, 0, none⟩)] w
      fun e w' => e = .returned (.int .i64 (Lib.compareBytes x.data.toList y.data.toList)) ∧ ∃ q os', w' = Sort.grow (w.drewN q) os' := by
  go_enter Tryz.func124, Tryz.ntmps124
  go_wp2_with (first
    | (go_at_call 110; refine (Tryz.strings_Compare _ _ _).mono ?_; rintro e w' ⟨rfl, rfl⟩)
    | go_in)
  go_quiet ((go_at_call 110; refine Calls.quiet_of_same (Tryz.strings_Compare _ _ _)))
  go_wp2
  go_ret
  exact ⟨rfl, _, #[], (Sort.grow_empty _).symm⟩
end Go.Tame.V
/- The sort of a row of small numbers by the names that they stand for. -/
namespace Go.Tame.V
open Go Go.Proofs Go.RowKit Go.Sort Go.Lib
variable {W0 : World}
set_option linter.unusedVariables false
set_option linter.unusedSimpArgs false

theorem sortWorld_other {α : Type} [Inhabited α] (enc : α → Value) (w : World) (blk off n : Nat) (d : Array α) (os : Array Obj) {b : Nat} (hb : b < w.heap.size) (hne : b ≠ blk) : (sortWorld enc w blk off n d os).heap[b]? = w.heap[b]? := by
  simp only [sortWorld, Sort.grow, putRow, mapBlock, ahead]
  rw [Array.getElem?_append_left (by simpa using hb), Array.getElem?_modify, if_neg (Ne.symm hne)]
  rfl
theorem sortWorld_row {α : Type} [Inhabited α] (enc : α → Value) (w : World) (blk off n : Nat) (d : Array α) (os : Array Obj) {vs : Array Value} {e : TypeId} {fz : Nat × Nat} (hb : w.heap[blk]? = some (.cells vs e fz)) :
    (sortWorld enc w blk off n d os).heap[blk]? = some (.cells (putCells enc off d vs) e fz) := by
  have hlt := lt_of_heap hb
  simp only [sortWorld, Sort.grow, putRow, mapBlock, ahead]
  rw [Array.getElem?_append_left (by simpa using hlt), Array.getElem?_modify, if_pos rfl]
  show Option.map _ w.heap[blk]? = _
  rw [hb]; rfl
theorem sortWorld_cell {α : Type} [Inhabited α] (enc : α → Value) (w : World) (blk off n : Nat) (d : Array α) (os : Array Obj) {b o : Nat} {u : Value} (hne : b ≠ blk) (h : w.cell? ⟨b, o, none⟩ = some u) : (sortWorld enc w blk off n d os).cell? ⟨b, o, none⟩ = some u := by
  have hlt : b < w.heap.size := by
    simp only [World.cell?] at h
    rcases Nat.lt_or_ge b w.heap.size with h1 | h1
    · exact h1
    · rw [Array.getElem?_eq_none h1] at h; cases h
  rw [← h]; simp only [World.cell?, sortWorld_other enc w blk off n d os hlt hne]
theorem sortWorld_size {α : Type} [Inhabited α] (enc : α → Value) (w : World) (blk off n : Nat) (d : Array α) (os : Array Obj) : w.heap.size ≤ (sortWorld enc w blk off n d os).heap.size := by
  simp [sortWorld, Sort.grow, putRow, mapBlock, ahead]
theorem Step.sort {α : Type} [Inhabited α] (enc : α → Value) (w : World) (C : Nat → Nat) (blk off n : Nat) (d : Array α) (os : Array Obj) (hC : C blk = 0) : Step (fun x => x = blk) w C (sortWorld enc w blk off n d os) C :=
  ⟨⟨sortWorld_size .., fun _ _ => Nat.le_refl _, fun b o hb ho => by
      have hne : b ≠ blk := fun e => by subst e; omega
      simp only [World.cell?, sortWorld_other enc w blk off n d os hb hne]⟩, rfl, rfl, rfl, fun b hb hne => ⟨sortWorld_other enc w blk off n d os hb hne, rfl⟩⟩

theorem lt_names {α : Type} (nm : α → List UInt8) (x y : α) : ltOf (fun x y : α => Lib.compareBytes (nm x) (nm y)) x y = Op.bytesLess (nm x) (nm y) := by
  unfold ltOf
  show decide (Lib.compareBytes (nm x) (nm y) < 0) = _
  rcases cmp_range (nm x) (nm y) with h | h | h
  · rw [h]
    cases hb : Op.bytesLess (nm x) (nm y) with
    | true => rfl
    | false =>
      cases hb2 : Op.bytesLess (nm y) (nm x) with
      | true => rw [(cmp_one (nm x) (nm y)).2 hb2] at h; cases h
      | false => have := bl_total _ _ hb hb2; rw [(cmp_zero (nm x) (nm y)).2 this] at h; cases h
  · rw [h]; have := (cmp_zero (nm x) (nm y)).1 h; rw [this, bl_irrefl]; rfl
  · rw [h]; rw [bl_asymm ((cmp_one (nm x) (nm y)).1 h)]; rfl
theorem swo_names {α : Type} (nm : α → List UInt8) : SWO (ltOf fun x y : α => Lib.compareBytes (nm x) (nm y)) := by
  have key := lt_names nm
  refine ⟨fun x => by rw [key, bl_irrefl], fun x y z h1 h2 => ?_, fun x y z h1 h2 => ?_⟩
  · rw [key] at *; exact bl_trans _ _ _ h1 h2
  · rw [key] at *
    cases hb : Op.bytesLess (nm x) (nm z) with
    | false => rfl
    | true =>
      cases h3 : Op.bytesLess (nm z) (nm y) with
      | true => rw [bl_trans _ _ _ hb h3] at h1; cases h1
      | false => have := bl_total _ _ h2 h3; rw [this] at h1; rw [hb] at h1; cases h1


def encI (i : Nat) : D := .int .i64 (i : Nat)
def encIV (n : Nat) (x : Fin n) : Value := .int .i64 ((x.1 : Nat) : Int)

theorem look2 {a b : Nat} {o1 o2 o : HObj} {s : Nat} (h : look [(a, o1), (b, o2)] s = some o) : (s = a ∧ o = o1) ∨ (s = b ∧ o = o2) := by
  simp only [look] at h
  cases h1 : Nat.beq s a with
  | true => rw [h1] at h; cases h; exact .inl ⟨beq_true h1, rfl⟩
  | false =>
    rw [h1] at h
    cases h2 : Nat.beq s b with
    | true => rw [h2] at h; cases h; exact .inr ⟨beq_true h2, rfl⟩
    | false => rw [h2] at h; cases h

/-- The sort of no place. -/
theorem F123_nil (v : Value) (fd : D) (o : HObj) : DCall Tryz.prog W0 123 [.raw v, fd] (look [(2001, .row v [] 1 3), (2000, o)]) fun d H' => d = .tup [] ∧ H' = look [(2001, .row v [] 1 3), (2000, o)] := by
  refine ⟨callable Tryz.func123 rfl (by decide +kernel), fun w C args Ft hbase hlow hH hr => ?_⟩
  obtain ⟨hl, hr⟩ := hr
  match args, hl with
  | [a0, a1], _ =>
    have h0 := (hr 0 _ a0 rfl rfl).raw_inv
    subst h0
    obtain ⟨a, cap, hv, _⟩ : RowV w C a0 [] 1 3 := hH.obj 2001 _ rfl
    subst hv
    refine (AnyF.slices_SortFunc_none Tryz.laysSlF0_f123 a cap a1 w).mono ?_
    rintro e w' ⟨rfl, rfl⟩
    exact ⟨.tuple #[], .tup [], C, _, rfl, ⟨rfl, rfl⟩, .tup [] [] rfl (fun i d v hd _ => by simp at hd), .refl _ _ _, ⟨hH.obj, hH.inj, fun s o b ho hu => .inl (hH.foot s o b ho hu)⟩⟩

/-- **The sort of a row of places by the names of the children there.** -/
theorem F123 (kids : List NV) (hn : 0 < kids.length) (hlen : kids.length < 1000000) (bb : Nat) (v : Value) (ds : List (Fin kids.length)) (hd0 : 0 < ds.length) (hd : ds.length < 1000000) :
    DCall Tryz.prog W0 123 [.raw v, .fn (.func 124) [] [.box 2000 bb 0]] (look [(2001, .row v (ds.map fun x => encI x.1) 1 3), (2000, .box bb [.sl .none 12 (kids.map enc)])]) fun d H' =>
      d = .tup [] ∧ ∃ ds' : List (Fin kids.length), ds'.Perm ds ∧ (∀ (i j : Nat) (hi : i < ds'.length) (hj : j < ds'.length), i < j → Op.bytesLess (kids[ds'[j].1]).name (kids[ds'[i].1]).name = false) ∧
        H' = look [(2001, .row v (ds'.map fun x => encI x.1) 1 3), (2000, .box bb [.sl .none 12 (kids.map enc)])] := by
  refine ⟨callable Tryz.func123 rfl (by decide +kernel), fun w C args Ft hbase hlow hH hr => ?_⟩
  obtain ⟨hl, hr⟩ := hr
  match args, hl with
  | [a0, a1], _ =>
    have h0 := (hr 0 _ a0 rfl rfl).raw_inv
    obtain ⟨vf, vc, h1, h2, h3⟩ := (hr 1 _ a1 rfl rfl).fn_inv
    subst h0
    have hvf : vf = [] := List.eq_nil_of_length_eq_zero h2.1.symm
    subst hvf
    have hvc : vc = [.pointer (some ⟨bb, 0, none⟩)] := by
      obtain ⟨hl3, h3⟩ := h3
      match vc, hl3 with
      | [u], _ => rw [(h3 0 _ u rfl rfl).box_inv]
    subst hvc
    subst h1
    have hrow : RowV w C a0 (ds.map fun x => encI x.1) 1 3 := hH.obj 2001 _ rfl
    obtain ⟨uv, ue, hbb, hbr, hbC⟩ : ORel w C (.box bb [.sl .none 12 (kids.map enc)]) := hH.obj 2000 _ rfl
    obtain ⟨u, rfl⟩ : ∃ u, uv = [u] := by
      match uv, hbr.1 with
      | [u], _ => exact ⟨u, rfl⟩
    have hu := hbr.2 0 _ u rfl rfl
    obtain ⟨b, cap, vs, hv, hc, hm, hk, hb, hvs, hC, hcells⟩ := RowV.pos hrow (i := 0) (by simpa using hd0)
    have hcap : 0 < cap := by simp at hc; omega
    have hone : ∀ x ∈ ds.map (fun x => encI x.1), x.cells = [x] := fun x hx => by obtain ⟨y, _, rfl⟩ := List.mem_map.1 hx; rfl
    rw [flat_one hone] at hcells
    have hkl : 0 < (kids.map enc).length := by simpa using hn
    rcases hu.sl_inv with ⟨he, _⟩ | ⟨kb, o, kcap, g, rfl, _, hkb, _, _, hkk, hkC, hkcell, _, hkrep⟩
    · rw [he] at hkl; cases hkl
    have hkne : kb ≠ b := fun e => by rw [e] at hkC; omega
    have hbne : bb ≠ b := fun e => by
      subst e
      exact hH.inj 2000 2001 _ _ bb (by decide) rfl rfl rfl ⟨_, cap, hv, hcap⟩
    have hml : (kids.map enc).length = kids.length := by simp
    have hboxc : w.cell? ⟨bb, 0, none⟩ = some (.slice (some ⟨kb, o, none⟩) kids.length kcap) := by
      have : w.cell? ⟨bb, 0, none⟩ = some (.slice (some ⟨kb, o, none⟩) (kids.map enc).length kcap) := by simp only [World.cell?, hbb]; rfl
      rwa [hml] at this
    have hkid : ∀ i : Fin kids.length, w.cell? ⟨kb, o + i.1 * 12, none⟩ = some (.string ⟨⟨(kids[i.1]).name⟩⟩) := fun i => by
      have hf : (flat (kids.map enc))[i.1 * 12 + 0]? = some (.str (kids[i.1]).name) := by rw [flat_get hkk (get_kids i.2) (by omega)]; rfl
      have h4 := hkcell _ _ hf
      rw [(hkrep _ _ hf).str_inv] at h4
      simpa using h4
    haveI : Inhabited (Fin kids.length) := ⟨⟨0, hn⟩⟩
    have hget : ∀ (l : List (Fin kids.length)) (j : Nat) (hj : j < l.length), l.toArray[j]! = l[j] := fun l j hj => by simp [hj]
    have heg : ∀ args w, (callFunc 124 args).run Tryz.prog w = .ok (.enter 124 args) w := fun args w => by
      obtain ⟨fn, hfn, hbody, hname⟩ := callable Tryz.func124 rfl (by decide +kernel)
      have hbn : fn.body.isNone = false := by cases hb : fn.body <;> simp [hb] at hbody ⊢
      simp only [callFunc, Sem.run_bind, run_program, Result.andThen_ok, hfn, hname, hbn, Bool.false_eq_true, if_false, Sem.run_pure]
    have hsort := Tryz.slices_SortFunc (encIV kids.length) (fun _ => rfl) (fun x y => Lib.compareBytes (kids[x.1]).name (kids[y.1]).name) (swo_names fun x : Fin kids.length => (kids[x.1]).name) 124 #[.pointer (some ⟨bb, 0, none⟩)] b 0 cap ds.toArray w
      heg (fun m os dk hdk x y => (cmp124 bb kb o kids.length kcap x.1 y.1 ⟨⟨(kids[x.1]).name⟩⟩ ⟨⟨(kids[y.1]).name⟩⟩ _ (sortWorld_cell _ _ _ _ _ _ _ hbne hboxc) x.2 y.2
        (sortWorld_cell _ _ _ _ _ _ _ hkne (hkid x)) (sortWorld_cell _ _ _ _ _ _ _ hkne (hkid y))))
      (fun j hj => by
        have hj' : j < ds.length := by simpa using hj
        obtain ⟨z, h5, h6, _⟩ := hcells j (encI ds[j].1) (by simp [hj'])
        refine ⟨?_, by simp [World.frozen?, hb]⟩
        rw [hget ds j hj']
        simp only [World.cell?, hb, Nat.zero_add]
        simp [h5, h6.int_inv, encIV]) (lt_of_heap hb) (by simp; omega)
    subst hv
    have hsz : (ds.map fun x => encI x.1).length = ds.toArray.size := by simp
    have huse : ∀ (xs : List D), HObj.uses (.row (.slice (some ⟨b, 0, none⟩) (ds.map fun x => encI x.1).length cap) xs 1 3) b := fun xs => ⟨_, cap, rfl, hcap⟩
    have hFb := hH.foot 2001 _ b rfl (huse _)
    have hFbb := hH.foot 2000 _ bb rfl rfl
    rw [hsz] at huse ⊢
    refine hsort.mono ?_
    rintro e w' ⟨rfl, d', m, os, hp, hs, rfl⟩
    obtain ⟨hp1, _, hp3⟩ := hp
    have hdl : d'.toList.length = ds.length := by simpa using hp1
    have hst := Step.sort (encIV kids.length) w C b 0 m d' os hC
    refine ⟨.tuple #[], .tup [], C, _, rfl, ⟨rfl, d'.toList, ?_, ?_, rfl⟩, .tup [] [] rfl (fun i d v hd _ => by simp at hd), ?_, ⟨fun s o ho => ?_, fun s s' o o' x hne h1 h2 hu hu' => ?_, fun s o x ho hu => ?_⟩⟩
    · have e1 : (d'.extract 0 ds.toArray.size).toList = d'.toList := by rw [← hp1]; simp
      have e2 : (ds.toArray.extract 0 ds.toArray.size).toList = ds := by simp
      rw [e1, e2] at hp3; exact hp3
    · intro i j hi hj hij
      have h7 := hs i j (Nat.zero_le _) hij (by rw [← hp1]; simpa using hj)
      rw [lt_names fun x : Fin kids.length => (kids[x.1]).name] at h7
      have g1 : d'[j]! = d'.toList[j] := by rw [getElem!_pos d' j (by simpa using hj)]; simp
      have g2 : d'[i]! = d'.toList[i] := by rw [getElem!_pos d' i (by simpa using hi)]; simp
      rw [g1, g2] at h7; exact h7
    · exact ⟨hst.ext, hst.os, hst.tape, hst.output, fun x hx hF => hst.keep x hx fun e => by subst e; exact hF hFb⟩
    · rcases look2 ho with ⟨rfl, rfl⟩ | ⟨rfl, rfl⟩
      · have hone' : ∀ x ∈ d'.toList.map (fun x => encI x.1), x.cells = [x] := fun x hx => by obtain ⟨y, _, rfl⟩ := List.mem_map.1 hx; rfl
        refine ⟨some ⟨b, 0, none⟩, cap, by simp [hp1], by simp only [List.length_map] at hc ⊢; omega, hm, fun x hx => by rw [hone' x hx]; rfl, fun ad had => ⟨b, by cases had; rfl, Nat.lt_of_lt_of_le (lt_of_heap hb) hst.ext.size⟩,
          fun _ => ⟨b, _, rfl, sortWorld_row _ _ _ _ _ _ _ hb, by simp only [putCells, Array.size_mapIdx]; exact hvs, hC, fun j d hd => ?_⟩⟩
        rw [flat_one hone'] at hd
        have hj : j < d'.size := by have := lt_of_get hd; simpa using this
        have hjv : j < vs.size := by have := hp1; simp at this hvs hc; omega
        have hde : d = encI d'[j].1 := by simp [hj] at hd; exact hd.symm
        subst hde
        refine ⟨encIV kids.length d'[j], ?_, .int _ _, rfl⟩
        simp only [putCells, Array.getElem?_mapIdx, Array.getElem?_eq_getElem hjv, Option.map_some, Nat.zero_le, true_and, Nat.zero_add, hj, if_true, Nat.sub_zero]
        rw [getElem!_pos d' j hj]
      · exact (hH.obj 2000 _ rfl).keep hst.ext fun x hx => hst.keep x (by cases hx; exact lt_of_heap hbb) (by cases hx; exact hbne)
    · rcases look2 h1 with ⟨rfl, rfl⟩ | ⟨rfl, rfl⟩ <;> rcases look2 h2 with ⟨rfl, rfl⟩ | ⟨rfl, rfl⟩
      · exact hne rfl
      · obtain ⟨n', c', h8, _⟩ := hu
        have := slice_uses h8; subst this
        exact hbne hu'.symm
      · obtain ⟨n', c', h8, _⟩ := hu'
        have := slice_uses h8; subst this
        exact hbne hu.symm
      · exact hne rfl
    · rcases look2 ho with ⟨rfl, rfl⟩ | ⟨rfl, rfl⟩
      · obtain ⟨n', c', h8, _⟩ := hu
        have := slice_uses h8; subst this
        exact .inl hFb
      · cases hu; exact .inl hFbb

end Go.Tame.V
/- Contracts: naming, Clone. By program (mk.py). -/
namespace Go.Tame.V
open Go Go.Proofs
variable {W0 : World}
set_option maxRecDepth 10000
set_option linter.unusedVariables false
set_option linter.unusedSimpArgs false

theorem F104 (ss : List SV) (h : ss.length < 1000000000) : DFun Tryz.prog W0 104 [.sl .none 2 (ss.map encS)] (.sl .none 2 (ss.map encS)) := by
  refine DFun.intro ti_ok Tryz.func104 rfl (by decide +kernel) Tryz.ntmps104 rfl fun Γ => ?_
  refine Tri.seq ?_
  refine Tri.region ti_ok ?_
  conv => whnf
  refine Tri.seq ?_
  refine Tri.seq ?_
  refine Tri.regionX ti_ok ?_
  conv => whnf
  refine .inr (XOp.nilEq (el := 44) ti_ok rfl rfl rfl fun nb hnb => ?_)
  conv => whnf
  refine Tri.cond _ rfl (fun hc => ?_) (fun hc => ?_)
  · refine Tri.seq ?_
    refine Tri.region ti_ok ?_
    conv => whnf
    refine Tri.ret ?_
    conv => whnf
    have hnil := hnb hc
    rw [hnil]
    exact DLe.nil
  · refine Tri.skip ?_
    conv => whnf
    refine Tri.seq ?_
    refine Tri.region ti_ok ?_
    conv => whnf
    refine ⟨trivial, ?_⟩
    conv => whnf
    refine ⟨by show (0 + (ss.map encS).length) * 32 ≤ _; simp; omega, by show 0 + (ss.map encS).length ≤ _; simp; omega, (fun h => by cases h), fun v => ?_⟩
    conv => whnf
    refine Tri.ret ?_
    conv => whnf
    exact DLe.trans (DLe.of_eq (congrArg (D.sl _ 2) (List.nil_append _))) DLe.unown
end Go.Tame.V
/- The sort of a row of nodes by their names. -/
namespace Go.Tame.V
open Go Go.Proofs Go.RowKit Go.Sort Go.Lib
variable {W0 : World}
set_option linter.unusedVariables false
set_option linter.unusedSimpArgs false

/-- The cells of the node at place p of the row vs. -/
def nodeCells (ns : List NV) (vs : Array Value) (p : Fin ns.length) : List Value := .string ⟨⟨(ns[p.1]).name⟩⟩ :: (List.range 11).map fun c => vs.getD (p.1 * 12 + (c + 1)) undef
theorem nodeCells_len (ns : List NV) (vs : Array Value) (p : Fin ns.length) : (nodeCells ns vs p).length = 12 := rfl
theorem topCells_len (n : NV) : (encTop n).cells.length = 12 := rfl
theorem nodeCells_get {w : World} {C : Nat → Nat} {ns : List NV} {vs : Array Value} (h : ∀ (j : Nat) d, (flat (ns.map encTop))[j]? = some d → ∃ u, vs[j]? = some u ∧ Rep w C d u ∧ u.oneCell' = true) (p : Fin ns.length) {c : Nat} (hc : c < 12) :
    ∃ d u, (encTop ns[p.1]).cells[c]? = some d ∧ vs[p.1 * 12 + c]? = some u ∧ Rep w C d u ∧ u.oneCell' = true ∧ (nodeCells ns vs p)[c]? = some u := by
  have hk : ∀ x ∈ ns.map encTop, x.cells.length = 12 := fun x hx => by obtain ⟨y, _, rfl⟩ := List.mem_map.1 hx; rfl
  have hx : (ns.map encTop)[p.1]? = some (encTop ns[p.1]) := by simp
  obtain ⟨d, hd⟩ := getElem?_of_lt (l := (encTop ns[p.1]).cells) (i := c) (by rw [topCells_len]; exact hc)
  obtain ⟨u, h1, h2, h3⟩ := h (p.1 * 12 + c) d (by rw [flat_get hk hx hc]; exact hd)
  refine ⟨d, u, hd, h1, h2, h3, ?_⟩
  cases c with
  | zero =>
    have : d = .str (ns[p.1]).name := by cases hd; rfl
    subst this
    rw [h2.str_inv]; rfl
  | succ c =>
    simp only [nodeCells, List.getElem?_cons_succ, List.getElem?_map, List.getElem?_range (show c < 11 by omega), Option.map_some]
    simp [Array.getD_eq_getD_getElem?, h1]

theorem F108 (ns : List NV) (hn : 0 < ns.length) (hlen : ns.length < 1000000) (v : Value) :
    DCall Tryz.prog W0 108 [.raw v, .fn (.func 109) [] []] (look [(2001, .row v (ns.map encTop) 12 25)]) fun d H' =>
      d = .tup [] ∧ ∃ ns' : List NV, ns'.Perm ns ∧ (∀ (i j : Nat) (hi : i < ns'.length) (hj : j < ns'.length), i < j → Op.bytesLess (ns'[j]).name (ns'[i]).name = false) ∧ H' = look [(2001, .row v (ns'.map encTop) 12 25)] := by
  refine ⟨callable Tryz.func108 rfl (by decide +kernel), fun w C args Ft hbase hlow hH hr => ?_⟩
  obtain ⟨hl, hr⟩ := hr
  match args, hl with
  | [a0, a1], _ =>
    have h0 := (hr 0 _ a0 rfl rfl).raw_inv
    obtain ⟨vf, vc, h1, h2, h3⟩ := (hr 1 _ a1 rfl rfl).fn_inv
    subst h0
    have hvf : vf = [] := List.eq_nil_of_length_eq_zero h2.1.symm
    have hvc : vc = [] := List.eq_nil_of_length_eq_zero h3.1.symm
    subst hvf hvc h1
    have hrow : RowV w C a0 (ns.map encTop) 12 25 := hH.obj 2001 _ rfl
    obtain ⟨b, cap, vs, hv, hc, hm, hk, hb, hvs, hC, hcells⟩ := RowV.pos hrow (i := 0) (by simpa using hn)
    have hcap : 0 < cap := by simp at hc; omega
    haveI : Inhabited (Fin ns.length) := ⟨⟨0, hn⟩⟩
    have heg : ∀ args w, (callFunc 109 args).run Tryz.prog w = .ok (.enter 109 args) w := fun args w => by
      obtain ⟨fn, hfn, hbody, hname⟩ := callable Tryz.func109 rfl (by decide +kernel)
      have hbn : fn.body.isNone = false := by cases hb : fn.body <;> simp [hb] at hbody ⊢
      simp only [callFunc, Sem.run_bind, run_program, Result.andThen_ok, hfn, hname, hbn, Bool.false_eq_true, if_false, Sem.run_pure]
    have hdl : (Array.ofFn (n := ns.length) id).size = ns.length := by simp
    have hdg : ∀ (p : Nat) (hp : p < ns.length), (Array.ofFn (n := ns.length) id)[p]! = ⟨p, hp⟩ := fun p hp => by
      rw [getElem!_pos _ p (by simpa using hp)]; simp
    have hfk : ∀ (d : Array (Fin ns.length)) (j : Nat), j < d.size * 12 → (flatK (nodeCells ns vs) 12 d)[j]! = ((nodeCells ns vs d[j / 12]!)[j % 12]!) := fun d j hj => get_flatK _ _ _ _ hj
    have hsort := AnyQ.slices_SortFunc Tryz.laysSlF0_f108 12 (fun w => by kernel_rfl) (fun w => by kernel_rfl) (nodeCells ns vs) (nodeCells_len ns vs) (fun p u hu => by
        obtain ⟨c, hcu⟩ := List.mem_iff_getElem?.1 hu
        have hc12 : c < 12 := by have := lt_of_get hcu; rwa [nodeCells_len] at this
        obtain ⟨d, u', _, _, _, h9, h10⟩ := nodeCells_get hcells p hc12
        rw [h10] at hcu; cases hcu; exact h9)
      (fun x y => Lib.compareBytes (ns[x.1]).name (ns[y.1]).name) (swo_names fun x : Fin ns.length => (ns[x.1]).name) 109 #[] b 0 cap (Array.ofFn (n := ns.length) id) w heg
      (fun m os dk hdk x y => cmp109 ⟨⟨(ns[x.1]).name⟩⟩ ⟨⟨(ns[y.1]).name⟩⟩ _ _ _ _ _ _ _ _ _ _ _ _ _ _ _ _ _ _ _ _ _ _ _)
      (fun j hj => by
        rw [size_flatK, hdl] at hj
        have hp : j / 12 < ns.length := by omega
        obtain ⟨d, u, _, h6, _, _, h10⟩ := nodeCells_get hcells ⟨j / 12, hp⟩ (c := j % 12) (by omega)
        have hj' : j / 12 * 12 + j % 12 = j := by omega
        rw [hj'] at h6
        refine ⟨?_, by simp [World.frozen?, hb]⟩
        rw [hfk _ j (by rw [hdl]; exact hj), hdg _ hp]
        simp only [World.cell?, hb, Nat.zero_add, id]
        rw [h6]
        congr 1
        simp [h10, List.getElem!_eq_getElem?_getD]) (lt_of_heap hb) (by rw [hdl]; omega)
    subst hv
    have hsz : (ns.map encTop).length = (Array.ofFn (n := ns.length) id).size := by simp
    have huse : ∀ (xs : List D), HObj.uses (.row (.slice (some ⟨b, 0, none⟩) (ns.map encTop).length cap) xs 12 25) b := fun xs => ⟨_, cap, rfl, hcap⟩
    have hFb := hH.foot 2001 _ b rfl (huse _)
    rw [hsz] at huse ⊢
    refine hsort.mono ?_
    rintro e w' ⟨rfl, d', m, os, hp, hs, rfl⟩
    obtain ⟨hp1, _, hp3⟩ := hp
    have hd'n : d'.size = ns.length := by rw [hp1, hdl]
    have hst : Step (fun x => x = b) w C (sortWorldK (nodeCells ns vs) 12 w b 0 m d' os) C := Step.sort id w C b 0 m (flatK (nodeCells ns vs) 12 d') os hC
    have hwb : (sortWorldK (nodeCells ns vs) 12 w b 0 m d' os).heap[b]? = some (.cells (putCells id 0 (flatK (nodeCells ns vs) 12 d') vs) 25 (0, 0)) := sortWorld_row id w b 0 m (flatK (nodeCells ns vs) 12 d') os hb
    have hlook : ∀ {s o} (l : HObj), look [(2001, l)] s = some o → s = 2001 ∧ o = l := fun {s o} l h => by
      simp only [look] at h
      cases h1 : Nat.beq s 2001 with
      | true => rw [h1] at h; cases h; exact ⟨beq_true h1, rfl⟩
      | false => rw [h1] at h; cases h
    have hperm : d'.toList.Perm (List.finRange ns.length) := by
      have e1 : (d'.extract 0 (Array.ofFn (n := ns.length) id).size).toList = d'.toList := by rw [← hp1]; simp
      have e2 : ((Array.ofFn (n := ns.length) id).extract 0 (Array.ofFn (n := ns.length) id).size).toList = List.finRange ns.length := by
        simp only [Array.extract_size, Array.toList_ofFn]
        rfl
      rw [e1, e2] at hp3; exact hp3
    have hmapfin : (List.finRange ns.length).map (fun p => ns[p.1]) = ns := by
      apply List.ext_getElem?
      intro j
      by_cases hj : j < ns.length
      · simp [hj]
      · simp [List.getElem?_eq_none (Nat.le_of_not_lt hj)]; omega
    refine ⟨.tuple #[], .tup [], C, _, rfl, ⟨rfl, d'.toList.map (fun p => ns[p.1]), ?_, ?_, rfl⟩, .tup [] [] rfl (fun i d v hd _ => by simp at hd), ?_, ⟨fun s o ho => ?_, fun s s' o o' x hne h1 h2 hu hu' => ?_, fun s o x ho hu => ?_⟩⟩
    · have := hperm.map fun p => ns[p.1]
      rwa [hmapfin] at this
    · intro i j hi hj hij
      have hi' : i < d'.size := by simpa using hi
      have hj' : j < d'.size := by simpa using hj
      have h7 := hs i j (Nat.zero_le _) hij (by rw [← hp1]; exact hj')
      rw [lt_names fun x : Fin ns.length => (ns[x.1]).name] at h7
      rw [getElem!_pos d' j hj', getElem!_pos d' i hi'] at h7
      simpa using h7
    · exact ⟨hst.ext, hst.os, hst.tape, hst.output, fun x hx hF => hst.keep x hx fun e => by subst e; exact hF hFb⟩
    · obtain ⟨rfl, rfl⟩ := hlook _ ho
      have hk' : ∀ x ∈ (d'.toList.map (fun p => ns[p.1])).map encTop, x.cells.length = 12 := fun x hx => by obtain ⟨y, _, rfl⟩ := List.mem_map.1 hx; rfl
      refine ⟨some ⟨b, 0, none⟩, cap, by simp [hd'n], by simp at hc ⊢; omega, hm, hk', fun ad had => ⟨b, by cases had; rfl, Nat.lt_of_lt_of_le (lt_of_heap hb) hst.ext.size⟩,
        fun _ => ⟨b, _, rfl, hwb, by simp only [putCells, Array.size_mapIdx]; exact hvs, hC, fun j d hd => ?_⟩⟩
      have hj : j < d'.size * 12 := by have := lt_of_get hd; rw [flat_length hk'] at this; simpa using this
      have hq : j / 12 < d'.size := by omega
      have hjv : j < vs.size := by rw [hvs]; simp at hc; omega
      have hx : ((d'.toList.map (fun p => ns[p.1])).map encTop)[j / 12]? = some (encTop ns[(d'[j / 12]).1]) := by simp [hq]
      have hjj : j / 12 * 12 + j % 12 = j := by omega
      have hd2 := flat_get hk' hx (j := j % 12) (by omega)
      rw [hjj, hd] at hd2
      obtain ⟨d2, u, h5, h6, h7, h8, h9⟩ := nodeCells_get hcells d'[j / 12] (c := j % 12) (by omega)
      rw [h5] at hd2
      cases hd2
      refine ⟨u, ?_, h7.ext hst.ext, h8⟩
      simp only [putCells, Array.getElem?_mapIdx, Array.getElem?_eq_getElem hjv, Option.map_some, Nat.zero_le, true_and, Nat.zero_add, size_flatK, hj, if_true, Nat.sub_zero, id]
      rw [hfk d' j hj, getElem!_pos d' _ hq]
      simp [h9, List.getElem!_eq_getElem?_getD]
    · obtain ⟨rfl, rfl⟩ := hlook _ h1
      obtain ⟨rfl, rfl⟩ := hlook _ h2
      exact hne rfl
    · obtain ⟨rfl, rfl⟩ := hlook _ ho
      obtain ⟨n', c', h8, _⟩ := hu
      have := slice_uses h8; subst this
      exact .inl hFb

end Go.Tame.V
/- What is sorted already, sorted: the same. Plain. -/
namespace Go.Tame.V
open Go Go.Proofs
set_option linter.unusedVariables false

theorem inc_get {l : List NV} (h : inc l) {i j : Nat} (hij : i < j) (hj : j < l.length) : Op.bytesLess (l[i]'(by omega)).name (l[j]).name = true := by
  have := inc_lt' h hij hj
  simpa [List.getD, hj, show i < l.length by omega] using this
theorem inc_pairwise {l : List NV} (h : inc l) : l.Pairwise fun a b => Op.bytesLess b.name a.name = false :=
  List.pairwise_iff_getElem.2 fun i j hi hj hij => bl_asymm (inc_get h hij hj)

/-- A rising list of nodes, permuted and sorted, is itself. -/
theorem sorted_nodes {l l' : List NV} (h : inc l) (hp : l'.Perm l) (hs : ∀ (i j : Nat) (hi : i < l'.length) (hj : j < l'.length), i < j → Op.bytesLess (l'[j]).name (l'[i]).name = false) : l' = l := by
  refine List.Perm.eq_of_pairwise (le := fun a b => Op.bytesLess b.name a.name = false) (fun a b ha hb h1 h2 => ?_) (List.pairwise_iff_getElem.2 fun i j hi hj hij => hs i j hi hj hij) (inc_pairwise h) hp
  have hname := bl_total _ _ h2 h1
  obtain ⟨i, hi, rfl⟩ := List.mem_iff_getElem.1 (hp.subset ha)
  obtain ⟨j, hj, rfl⟩ := List.mem_iff_getElem.1 hb
  rcases Nat.lt_trichotomy i j with e | e | e
  · exact absurd hname (bl_ne (inc_get h e hj))
  · subst e; rfl
  · exact absurd hname.symm (bl_ne (inc_get h e hi))

/-- The places of a rising list, sorted by the names there: in their order. -/
theorem sorted_places {kids : List NV} (h : inc kids) {l : List (Fin kids.length)} (hp : l.Perm (List.finRange kids.length))
    (hs : ∀ (i j : Nat) (hi : i < l.length) (hj : j < l.length), i < j → Op.bytesLess (kids[l[j].1]).name (kids[l[i].1]).name = false) : l = List.finRange kids.length := by
  refine List.Perm.eq_of_pairwise (le := fun a b => Op.bytesLess (kids[b.1]).name (kids[a.1]).name = false) (fun a b ha hb h1 h2 => ?_) (List.pairwise_iff_getElem.2 fun i j hi hj hij => hs i j hi hj hij)
    ((List.pairwise_lt_finRange _).imp fun {a b} hab => bl_asymm (inc_get h hab b.2)) hp
  have hname := bl_total _ _ h2 h1
  rcases Nat.lt_trichotomy a.1 b.1 with e | e | e
  · exact absurd hname (bl_ne (inc_get h e b.2))
  · exact Fin.ext e
  · exact absurd hname.symm (bl_ne (inc_get h e a.2))
end Go.Tame.V
/- The sort of the places of a rising list; a row that stands from here on. -/
namespace Go.Tame
open Go Go.RowKit
variable {P : Program} {W0 : World} {nt : Nat} {Γ : Ctx P W0 nt} {K : DExit → DSt → Prop}

/-- The row in slot j (kept under key s) stands from here on. -/
theorem Tri.commitSt (s j : Nat) {v : Value} {xs : List D} {k e : Nat} {r : List (Nat × D)} {hs : List (Nat × HObj)} {c : Code} (hsn : look hs s = none)
    (h : Tri Γ c (St ((j, .sl .none k xs) :: r) hs) K) : Tri Γ c (St ((j, .raw v) :: r) ((s, .row v xs k e) :: hs)) K := by
  have hnb : Nat.beq s s = true := Nat.beq_refl s
  refine Tri.commit s (v := v) (xs := xs) (k := k) (e := e) (by simp only [St, look, hnb, cond_true]) (St ((j, .sl .none k xs) :: r) hs) (fun w C hr i u hi => ?_) (fun i o ho => ?_) h
  · simp only [St, look] at hi ⊢
    cases hb : Nat.beq i j with
    | true =>
      rw [hb] at hi
      simp only [cond_true, Option.getD_some] at hi ⊢
      rw [hi.raw_inv]; exact hr.untag
    | false => rw [hb] at hi; exact hi
  · refine .inr ⟨fun e => (by subst e; simp only [St] at ho; rw [hsn] at ho; cases ho), ?_⟩
    simp only [St, look] at ho ⊢
    cases hb : Nat.beq i s with
    | true => have := beq_true hb; subst this; rw [hsn] at ho; cases ho
    | false => simpa using ho
end Go.Tame
namespace Go.Tame.V
open Go Go.Proofs
variable {W0 : World}
set_option linter.unusedVariables false

def places (n : Nat) : List D := (List.range n).map fun i => .int .i64 (i : Nat)
theorem places_fin (n : Nat) : (List.finRange n).map (fun x => encI x.1) = places n := by
  apply List.ext_getElem?
  intro j
  by_cases hj : j < n
  · simp [places, encI, hj]
  · rw [List.getElem?_eq_none (by simp; omega), List.getElem?_eq_none (by simp [places]; omega)]

theorem sort_places (kids : List NV) (h : inc kids) (hlen : kids.length < 1000000) (bb : Nat) (v : Value) :
    DCall Tryz.prog W0 123 [.raw v, .fn (.func 124) [] [.box 2000 bb 0]] (look [(2001, .row v (places kids.length) 1 3), (2000, .box bb [.sl .none 12 (kids.map enc)])]) fun d H' =>
      d = .tup [] ∧ H' = look [(2001, .row v (places kids.length) 1 3), (2000, .box bb [.sl .none 12 (kids.map enc)])] := by
  by_cases h0 : 0 < kids.length
  · have hc := F123 (W0 := W0) kids h0 hlen bb v (List.finRange kids.length) (by simpa using h0) (by simpa using hlen)
    rw [places_fin] at hc
    refine hc.mono ?_
    rintro d H' ⟨rfl, ds', hp, hs, rfl⟩
    rw [sorted_places h hp hs, places_fin]
    exact ⟨rfl, rfl⟩
  · have hn : kids.length = 0 := by omega
    rw [hn]
    exact F123_nil v _ _
end Go.Tame.V
/- Contracts: Names at the views that keep names. By program (mk.py). -/
namespace Go.Tame.V
open Go Go.Proofs
variable {W0 : World}
set_option maxRecDepth 10000
set_option linter.unusedVariables false
set_option linter.unusedSimpArgs false

theorem places_set {n i : Nat} (h : i < n) (z : D) : (places i ++ List.replicate (n - i) z).set i (.int .i64 (i : Nat)) = places (i + 1) ++ List.replicate (n - (i + 1)) z := by
  apply List.ext_getElem?
  intro j
  have hpl : ∀ m, (places m).length = m := fun m => by simp [places]
  rw [List.getElem?_set]
  rcases Nat.lt_trichotomy i j with e | e | e
  · rw [if_neg (by omega), List.getElem?_append_right (by rw [hpl]; omega), List.getElem?_append_right (by rw [hpl]; omega), hpl, hpl]
    simp only [List.getElem?_replicate]
    split <;> split <;> first | rfl | omega
  · subst e
    rw [if_pos rfl, if_pos (by simp [hpl]; omega), List.getElem?_append_left (by rw [hpl]; omega)]
    simp [places]
  · rw [if_neg (by omega), List.getElem?_append_left (by rw [hpl]; omega), List.getElem?_append_left (by rw [hpl]; omega)]
    simp [places, show j < i by omega, show j < i + 1 by omega]

theorem strs_set {kids : List NV} {t : Nat} (h : t < kids.length) (z : D) : (strs ((kids.map NV.name).take t) ++ List.replicate (kids.length - t) z).set t (.str kids[t].name) = strs ((kids.map NV.name).take (t + 1)) ++ List.replicate (kids.length - (t + 1)) z := by
  have hpl : ∀ m, m ≤ kids.length → (strs ((kids.map NV.name).take m)).length = m := fun m hm => by simp [strs]; omega
  apply List.ext_getElem?
  intro j
  rw [List.getElem?_set]
  rcases Nat.lt_trichotomy t j with e | e | e
  · rw [if_neg (by omega), List.getElem?_append_right (by rw [hpl _ (by omega)]; omega), List.getElem?_append_right (by rw [hpl _ (by omega)]; omega), hpl _ (by omega), hpl _ (by omega)]
    simp only [List.getElem?_replicate]
    split <;> split <;> first | rfl | omega
  · subst e
    rw [if_pos rfl, if_pos (by simp [strs]; omega), List.getElem?_append_left (by rw [hpl _ (by omega)]; omega)]
    simp [strs, h, List.getElem?_take]
  · rw [if_neg (by omega), List.getElem?_append_left (by rw [hpl _ (by omega)]; omega), List.getElem?_append_left (by rw [hpl _ (by omega)]; omega)]
    simp [strs, List.getElem?_take, show j < t by omega, show j < t + 1 by omega]

theorem F105 (hL : LibOk W0) (v : Int) (hv : v = 2 ∨ v = 3) (kids : List NV) (h64 : kids.length ≤ 64) (hok : ∀ k ∈ kids, nameOk k.name = true ∧ k.name.length < 1000000000) (hinc : inc kids) : DFun Tryz.prog W0 105 [.int .i64 v, .sl .none 12 (kids.map enc)] (.tup [.sl .none 1 (strs (kids.map NV.name)), .int .i64 0]) := by
  refine DFun.intro ti_ok Tryz.func105 rfl (by decide +kernel) Tryz.ntmps105 rfl fun Γ => ?_
  refine Tri.seq ?_
  refine Tri.region ti_ok ?_
  conv => whnf
  intro bk
  conv => whnf
  refine Tri.seq ?_
  refine Tri.seq ?_
  refine Tri.region ti_ok ?_
  conv => whnf
  refine ⟨[.int .i64 v], _, fun _ => F91 v, ⟨.refl _, trivial⟩, ?_⟩
  conv => whnf
  refine Tri.cond _ rfl (fun hc => ?_) (fun hc => ?_)
  · refine Tri.seq ?_
    refine Tri.region ti_ok ?_
    conv => whnf
    refine Tri.ret ?_
    conv => whnf
    exfalso
    have : viewOk v = true := by rcases hv with rfl | rfl <;> rfl
    rw [this] at hc; cases hc
  · refine Tri.skip ?_
    conv => whnf
    refine Tri.seq ?_
    refine Tri.seq ?_
    refine Tri.region ti_ok ?_
    conv => whnf
    refine ⟨rfl, ?_⟩
    conv => whnf
    refine Tri.cond _ rfl (fun hc => ?_) (fun hc => ?_)
    · refine Tri.seq ?_
      refine Tri.region ti_ok ?_
      conv => whnf
      refine Tri.ret ?_
      conv => whnf
      exfalso
      simp at hc; omega
    · refine Tri.skip ?_
      conv => whnf
      refine Tri.seq ?_
      refine Tri.regionX ti_ok ?_
      conv => whnf
      refine .inl ?_
      conv => whnf
      refine ⟨rfl, ?_⟩
      conv => whnf
      refine .inr (XOp.makeRow ti_ok (n := kids.length) (k1 := .i64) (k2 := .i64) (z := .int .i64 0) rfl rfl rfl rfl rfl ?_ ?_ (by show 8 * _ ≤ _; omega) (by omega) fun rv => ?_)
      · show D.int _ _ = _; simp
      · show D.int _ _ = _; simp
      conv => whnf
      refine Tri.seq ?_
      refine Tri.seq ?_
      refine Tri.region ti_ok ?_
      conv => whnf
      refine ⟨rfl, ?_⟩
      conv => whnf
      refine Tri.block ?_
      refine Tri.loopK (α := { i : Nat // i ≤ kids.length }) (fun x => [(0, .int .i64 v), (3, .box 3 bk 0), (6, .raw rv), (25, .sl .none 12 (kids.map enc)), (26, .int .i64 (kids.map enc).length), (27, .int .i64 x.1)])
        (fun x => [(24, .row rv (places x.1 ++ List.replicate (kids.length - x.1) (.int .i64 0)) 1 3), (3, .box bk [.sl .none 12 (kids.map enc)])]) (fun x => kids.length - x.1) ⟨0, by omega⟩ [(24, 24), (3, 3)]
        ⟨⟨.refl _, .refl _, .refl _, .refl _, .refl _, .refl _, trivial⟩, rfl, rfl, rfl, rfl, rfl, trivial⟩ ?_
      rintro ⟨i, hi⟩
      dsimp only
      refine Tri.seq ?_
      refine Tri.region ti_ok ?_
      conv => whnf
      refine Tri.seq ?_
      refine Tri.cond _ rfl (fun hc => ?_) (fun hc => ?_)
      · refine Tri.skip ?_
        conv => whnf
        have hia : i < kids.length := by simpa using hc
        have hpl : (places i).length = i := by simp [places]
        refine Tri.seq ?_
        refine Tri.block ?_
        refine Tri.seq ?_
        refine Tri.region ti_ok ?_
        conv => whnf
        refine ⟨fun _ => by simp; omega, ?_⟩
        conv => whnf
        refine ⟨encTop kids[i], fun _ => get_kids hia, ?_⟩
        conv => whnf
        intro b8
        conv => whnf
        refine ⟨rfl, ?_⟩
        conv => whnf
        refine Tri.seq ?_
        refine Tri.seq ?_
        refine Tri.region ti_ok ?_
        conv => whnf
        refine ⟨rfl, ?_⟩
        conv => whnf
        refine ⟨[.str kids[i].name], _, fun _ => F100 hL _ (hok _ (List.getElem_mem hia)).2, ⟨.refl _, trivial⟩, ?_⟩
        conv => whnf
        refine Tri.cond _ rfl (fun hc => ?_) (fun hc => ?_)
        · refine Tri.seq ?_
          refine Tri.region ti_ok ?_
          conv => whnf
          refine Tri.ret ?_
          conv => whnf
          exfalso
          rw [(hok _ (List.getElem_mem hia)).1] at hc; cases hc
        · refine Tri.skip ?_
          conv => whnf
          refine Tri.regionX ti_ok ?_
          conv => whnf
          refine .inr (XOp.rowIndex ti_ok 24 rfl rfl rfl rfl rfl rfl rfl (by omega) (by simp [hpl]; omega) ?_)
          conv => whnf
          conv => whnf
          refine .inr (XOp.rowStore ti_ok 24 (i := i) (by rw [Int.toNat_natCast]; rfl) rfl rfl rfl (by simp [hpl]; omega) rfl ?_)
          conv => whnf
          conv => whnf
          refine Tri.region ti_ok ?_
          conv => whnf
          refine .inl ⟨fun _ => by simp [InR]; omega, ?_⟩
          conv => whnf
          exact ⟨⟨i + 1, by omega⟩, [(24, 24), (3, 3)], by show _ - (i + 1) < _ - i; omega, ⟨.refl _, .refl _, .refl _, .refl _, .refl _, .refl _, trivial⟩, rfl, rfl, congrArg (fun z => some (HObj.row rv z 1 3)) (places_set hia _), rfl, rfl, trivial⟩
      · refine Tri.exit ?_
        conv => whnf
        refine Tri.seq ?_
        have hin : i = kids.length := by simp at hc; omega
        have hrow : places i ++ List.replicate (kids.length - i) (D.int .i64 0) = places kids.length := by subst hin; simp
        rw [hrow]
        refine Tri.regionX ti_ok ?_
        conv => whnf
        refine .inr (XOp.call rfl [.raw rv, .fn (.func 124) [] [.box 2000 bk 0]] [(2001, 24), (2000, 3)] (sort_places kids hinc (by omega) bk rv) rfl ⟨.refl _, DLe.fn trivial ⟨DLe.box, trivial⟩, trivial⟩ ?_)
        rintro d H' ⟨rfl, rfl⟩
        refine ⟨_, .refl _, ?_⟩
        conv => whnf
        refine Tri.forgetK [(6, .raw rv), (0, .int .i64 v), (3, .box 3 bk 0)] [(24, .row rv (places kids.length) 1 3), (3, .box bk [.sl .none 12 (kids.map enc)])] [(24, 24), (3, 3)] ⟨⟨.refl _, .refl _, .refl _, trivial⟩, rfl, rfl, rfl, rfl, rfl, trivial⟩ ?_
        refine Tri.commitSt 24 6 rfl ?_
        refine Tri.seq ?_
        refine Tri.regionX ti_ok ?_
        conv => whnf
        refine .inl ?_
        conv => whnf
        refine ⟨rfl, ?_⟩
        conv => whnf
        refine .inr (XOp.makeRow ti_ok (n := kids.length) (k1 := .i64) (k2 := .i64) (z := .str []) rfl rfl rfl rfl rfl ?_ ?_ (by show 16 * _ ≤ _; omega) (by omega) fun nv => ?_)
        · show D.int _ _ = _; simp
        · show D.int _ _ = _; simp
        conv => whnf
        refine .inr (XOp.makeMap fun mb => ?_)
        conv => whnf
        refine Tri.seq ?_
        refine Tri.seq ?_
        refine Tri.region ti_ok ?_
        conv => whnf
        refine Tri.block ?_
        refine Tri.loopK (α := { i : Nat // i ≤ kids.length }) (fun x => [(0, .int .i64 v), (3, .box 3 bk 0), (6, .sl .none 1 (places kids.length)), (48, .sl .none 1 (places kids.length)), (49, .int .i64 (places kids.length).length), (50, .int .i64 x.1), (9, .raw nv), (10, .raw (.map (some mb)))])
          (fun x => [(46, .row nv (strs ((kids.map NV.name).take x.1) ++ List.replicate (kids.length - x.1) (.str [])) 1 9), (47, .set mb (((kids.map NV.name).take x.1).reverse)), (3, .box bk [.sl .none 12 (kids.map enc)])]) (fun x => kids.length - x.1) ⟨0, by omega⟩ [(46, 46), (47, 47), (3, 3)]
          ⟨⟨.refl _, .refl _, .refl _, .refl _, .refl _, .refl _, .refl _, .refl _, trivial⟩, rfl, rfl, rfl, rfl, rfl, rfl, rfl, trivial⟩ ?_
        rintro ⟨t, ht⟩
        dsimp only
        refine Tri.seq ?_
        refine Tri.region ti_ok ?_
        conv => whnf
        refine Tri.seq ?_
        refine Tri.cond _ rfl (fun hc => ?_) (fun hc => ?_)
        · refine Tri.skip ?_
          conv => whnf
          have hta : t < kids.length := by simp [places] at hc; omega
          have hkd : ∀ j, j < kids.length → (kids.map enc)[j]? = some (encTop (kids.getD j default)) := fun j hj => by rw [get_kids hj]; simp [List.getD, hj]
          refine Tri.seq ?_
          refine Tri.block ?_
          refine Tri.seq ?_
          refine Tri.region ti_ok ?_
          conv => whnf
          refine ⟨fun _ => by simp [places]; omega, ?_⟩
          conv => whnf
          refine ⟨.int .i64 (t : Nat), fun _ => by simp [places, hta], ?_⟩
          conv => whnf
          refine Tri.seq ?_
          refine Tri.seq ?_
          refine Tri.draw ti_ok mixed (by kernel_rfl) ?_
          conv => whnf
          refine ⟨rfl, ?_⟩
          conv => whnf
          refine ⟨fun h => h, ?_⟩
          conv => whnf
          refine .inl ⟨fun h => by simp only [InR]; omega, ?_⟩
          conv => whnf
          refine ⟨fun h => h, ?_⟩
          conv => whnf
          refine ⟨fun h => h, ?_⟩
          conv => whnf
          refine ⟨fun h => by simp at h; simp [places]; omega, ?_⟩
          conv => whnf
          refine ⟨fun h => h, ?_⟩
          conv => whnf
          refine ⟨.int .i64 ((t - 1 : Nat) : Int), fun h => by rw [pred_toNat (by simpa using h)]; simp [places, show t - 1 < kids.length by omega], ?_⟩
          conv => whnf
          refine ⟨fun h => h, ?_⟩
          conv => whnf
          refine ⟨fun h => h, ?_⟩
          conv => whnf
          refine ⟨fun h => by simp; omega, ?_⟩
          conv => whnf
          refine ⟨fun h => h, ?_⟩
          conv => whnf
          refine ⟨fun h => h, ?_⟩
          conv => whnf
          refine ⟨encTop (kids.getD (t - 1) default), fun h => hkd (t - 1) (by omega), ?_⟩
          conv => whnf
          refine ⟨rfl, ?_⟩
          conv => whnf
          refine ⟨fun h => h, ?_⟩
          conv => whnf
          refine ⟨fun h => h, ?_⟩
          conv => whnf
          refine ⟨fun h => by simp; omega, ?_⟩
          conv => whnf
          refine ⟨fun h => h, ?_⟩
          conv => whnf
          refine ⟨fun h => h, ?_⟩
          conv => whnf
          refine ⟨encTop kids[t], fun h => get_kids hta, ?_⟩
          conv => whnf
          refine ⟨fun h => h, ?_⟩
          conv => whnf
          refine ⟨fun h => h, ?_⟩
          conv => whnf
          refine ⟨fun h0 h => by first | exact h | (rw [h]; rfl) | (rw [h0, h]; rfl), ?_⟩
          conv => whnf
          refine Tri.cond _ rfl (fun hc => ?_) (fun hc => ?_)
          · refine Tri.seq ?_
            refine Tri.region ti_ok ?_
            conv => whnf
            refine Tri.ret ?_
            conv => whnf
            exfalso
            cases h0 : decide ((0 : Int) < t) with
            | false => rw [h0] at hc; cases hc
            | true =>
              have ht0 : 0 < t := by simpa using h0
              have hne := bl_ne (inc_get hinc (show t - 1 < t by omega) hta)
              rw [h0] at hc
              have hc2 : ((kids.getD (t - 1) default).name == kids[t].name) = true := hc
              have : (kids.getD (t - 1) default).name = kids[t].name := by simpa using hc2
              apply hne
              rw [← this]; simp [List.getD, show t - 1 < kids.length by omega]
          · refine Tri.skip ?_
            conv => whnf
            refine Tri.seq ?_
            refine Tri.region ti_ok ?_
            conv => whnf
            refine ⟨rfl, ?_⟩
            conv => whnf
            refine ⟨fun _ => by simp; omega, ?_⟩
            conv => whnf
            refine ⟨encTop kids[t], fun _ => get_kids hta, ?_⟩
            conv => whnf
            refine Tri.seq ?_
            refine Tri.seq ?_
            refine Tri.region ti_ok ?_
            conv => whnf
            refine ⟨fun h => h, ?_⟩
            conv => whnf
            refine ⟨fun h0 h => by first | exact h | (rw [h]; rfl) | (rw [h0, h]; rfl), ?_⟩
            conv => whnf
            refine Tri.cond _ rfl (fun hc => ?_) (fun hc => ?_)
            · exfalso
              rcases hv with rfl | rfl <;> cases hc
            · refine Tri.skip ?_
              conv => whnf
              refine Tri.regionX ti_ok ?_
              conv => whnf
              refine .inr (XOp.setUpdate 47 (kt := 9) (et := 4) rfl rfl rfl rfl rfl rfl ?_)
              conv => whnf
              refine .inr (XOp.rowIndex ti_ok 46 rfl rfl rfl rfl rfl rfl rfl (by omega) (by simp [strs]; omega) ?_)
              conv => whnf
              refine .inr (XOp.rowStore ti_ok 46 (i := t) (by rw [Int.toNat_natCast]; rfl) rfl rfl rfl (by simp [strs]; omega) rfl ?_)
              conv => whnf
              refine Tri.region ti_ok ?_
              conv => whnf
              refine .inl ⟨fun _ => by simp [InR]; omega, ?_⟩
              conv => whnf
              exact ⟨⟨t + 1, by omega⟩, [(46, 46), (47, 47), (3, 3)], by show _ - (t + 1) < _ - t; omega, ⟨.refl _, .refl _, .refl _, .refl _, .refl _, .refl _, .refl _, .refl _, trivial⟩, rfl, rfl, congrArg (fun z => some (HObj.row nv z 1 9)) (strs_set hta _), rfl,
                congrArg (fun z => some (HObj.set mb z)) (by rw [List.take_add_one]; simp [hta]), rfl, rfl, trivial⟩
        · refine Tri.exit ?_
          conv => whnf
          have htn : t = kids.length := by simp [places] at hc; omega
          have hrow2 : strs ((kids.map NV.name).take t) ++ List.replicate (kids.length - t) (D.str []) = strs (kids.map NV.name) := by
            subst htn; rw [List.take_of_length_le (by simp)]; simp
          rw [hrow2]
          refine Tri.forgetK [(9, .raw nv)] [(46, .row nv (strs (kids.map NV.name)) 1 9)] [(46, 46)] ⟨⟨.refl _, trivial⟩, rfl, rfl, rfl, trivial⟩ ?_
          refine Tri.commitSt 46 9 rfl ?_
          refine Tri.seq ?_
          refine Tri.region ti_ok ?_
          conv => whnf
          refine Tri.ret ?_
          conv => whnf
          exact ⟨.refl _, .refl _, trivial⟩
end Go.Tame.V
/- What show leaves of a tree at the views that keep names; View$1. By program (mk.py). -/
namespace Go.Tame.V
open Go Go.Proofs
variable {W0 : World}
set_option maxRecDepth 10000
set_option linter.unusedVariables false
set_option linter.unusedSimpArgs false

mutual
/-- What show leaves of a node at a view that keeps names (v = 2 or 3); d is the depth handed in. -/
def showT (v d : Int) : NV → NV
  | .mk a b c t e f g h _ _ ks ss => .mk a b c t e f g h 0 0 (showL v (d + 1) ks) (if v = 3 then ss else [])
def showL (v d : Int) : List NV → List NV
  | [] => []
  | k :: r => if shown v k d then showT v d k :: showL v d r else showL v d r
end
theorem showT_name (v d : Int) (n : NV) : (showT v d n).name = n.name := by cases n; simp only [showT]
theorem showT_eq (v d : Int) (n : NV) : showT v d n = ⟨n.name, n.kind, n.text, n.target, n.n1, n.n2, n.n3, n.n4, 0, 0, showL v (d + 1) n.kids, if v = 3 then n.streams else []⟩ := by cases n; simp only [showT]
theorem showL_eq (v d : Int) : ∀ l : List NV, showL v d l = (l.filter fun k => shown v k d).map (showT v d)
  | [] => by simp [showL]
  | k :: r => by
    simp only [showL, List.filter_cons]
    split <;> simp [showL_eq v d r]
theorem showL_len (v d : Int) (l : List NV) : (showL v d l).length ≤ l.length := by rw [showL_eq]; simp; exact List.length_filter_le _ _
theorem showL_next (v d : Int) {l : List NV} {i : Nat} (h : i < l.length) : showL v d (l.take (i + 1)) = showL v d (l.take i) ++ (if shown v l[i] d then [showT v d l[i]] else []) := by
  rw [List.take_add_one, List.getElem?_eq_getElem h, showL_eq, showL_eq]
  simp only [Option.toList, List.filter_append, List.map_append, List.filter_cons, List.filter_nil]
  split <;> simp

/-- The node that show is handed: with the two paths to it. -/
def encQ (n : NV) (p q : List UInt8) : D := .agg [.str n.name, .int .i64 n.kind, .str n.text, .str n.target, .int .i64 n.n1, .int .i64 n.n2, .int .i64 n.n3, .int .i64 n.n4, .int .i64 n.n5, .int .i64 n.n6, .sl .none 12 (n.kids.map enc), .sl .none 2 (n.streams.map encS), .str p, .str q]

theorem F66 (n : NV) (p q : List UInt8) : DFun Tryz.prog W0 66 [encQ n p q] (.tup []) := by
  refine DFun.intro ti_ok Tryz.func66 rfl (by decide +kernel) Tryz.ntmps66 rfl fun Γ => ?_
  refine Tri.region ti_ok ?_
  conv => whnf
  intro b
  conv => whnf
  exact trivial
theorem inc_pw {l : List NV} (h : inc l) : l.Pairwise fun a b => Op.bytesLess a.name b.name = true :=
  List.pairwise_iff_getElem.2 fun i j hi hj hij => inc_get h hij hj
theorem pw_inc {l : List NV} (h : l.Pairwise fun a b => Op.bytesLess a.name b.name = true) : inc l := fun i hi => by
  have := List.pairwise_iff_getElem.1 h i (i + 1) (by omega) hi (by omega)
  simpa [List.getD, hi, show i < l.length by omega] using this
theorem inc_showL (v d : Int) {l : List NV} (h : inc l) : inc (showL v d l) := by
  apply pw_inc
  rw [showL_eq, List.pairwise_map]
  simp only [showT_name]
  exact (inc_pw h).filter _

/-- The sort of no node. -/
theorem F108_nil (v : Value) (fd : D) : DCall Tryz.prog W0 108 [.raw v, fd] (look [(2001, .row v [] 12 25)]) fun d H' => d = .tup [] ∧ H' = look [(2001, .row v [] 12 25)] := by
  refine ⟨callable Tryz.func108 rfl (by decide +kernel), fun w C args Ft hbase hlow hH hr => ?_⟩
  obtain ⟨hl, hr⟩ := hr
  match args, hl with
  | [a0, a1], _ =>
    have h0 := (hr 0 _ a0 rfl rfl).raw_inv
    subst h0
    obtain ⟨a, cap, hv, _⟩ : RowV w C a0 [] 12 25 := hH.obj 2001 _ rfl
    subst hv
    refine (AnyF.slices_SortFunc_none Tryz.laysSlF0_f108 a cap a1 w).mono ?_
    rintro e w' ⟨rfl, rfl⟩
    exact ⟨.tuple #[], .tup [], C, _, rfl, ⟨rfl, rfl⟩, .tup [] [] rfl (fun i d v hd _ => by simp at hd), .refl _ _ _, ⟨hH.obj, hH.inj, fun s o b ho hu => .inl (hH.foot s o b ho hu)⟩⟩

/-- The sort of a rising row of nodes leaves it. -/
theorem sort_nodes (ns : List NV) (h : inc ns) (hlen : ns.length < 1000000) (v : Value) :
    DCall Tryz.prog W0 108 [.raw v, .fn (.func 109) [] []] (look [(2001, .row v (ns.map encTop) 12 25)]) fun d H' =>
      d = .tup [] ∧ H' = look [(2001, .row v (ns.map encTop) 12 25)] := by
  by_cases h0 : 0 < ns.length
  · refine (F108 (W0 := W0) ns h0 hlen v).mono ?_
    rintro d H' ⟨rfl, ns', hp, hs, rfl⟩
    rw [sorted_nodes h hp hs]
    exact ⟨rfl, rfl⟩
  · have hn : ns = [] := List.eq_nil_of_length_eq_zero (by omega)
    subst hn
    exact F108_nil v _
end Go.Tame.V
/- naming.show, given the names of the kids. By program (mk.py). -/
namespace Go.Tame.V
open Go Go.Proofs
variable {W0 : World}
set_option maxRecDepth 10000
set_option linter.unusedVariables false
set_option linter.unusedSimpArgs false

def NV.named (n : NV) (s : List UInt8) : NV := { n with name := s }
def keeps (v : Int) : Bool := v == 2 || v == 3
/-- In the order of the names. -/
def sortN (l : List NV) : List NV := l.mergeSort fun a b => !Op.bytesLess b.name a.name
mutual
/-- The node of a view v: nm gives the names of a node's kids; d is the depth. -/
def showG (nm : List NV → List (List UInt8)) (v d : Int) : NV → NV
  | .mk a b c t e f g h _ _ ks ss => .mk a b c t (if keeps v then e else 0) (if keeps v then f else 0) (if keeps v then g else 0) h 0 0 (sortN (showGL nm v (d + 1) ks (nm ks))) (if v = 3 then ss else [])
def showGL (nm : List NV → List (List UInt8)) (v d : Int) : List NV → List (List UInt8) → List NV
  | k :: r, m :: ms => if shown v k d then (showG nm v d k).named m :: showGL nm v d r ms else showGL nm v d r ms
  | _, _ => []
end
section
variable (nm : List NV → List (List UInt8)) (v d : Int)
theorem showG_eq (n : NV) : showG nm v d n = ⟨n.name, n.kind, n.text, n.target, if keeps v then n.n1 else 0, if keeps v then n.n2 else 0, if keeps v then n.n3 else 0, n.n4, 0, 0, sortN (showGL nm v (d + 1) n.kids (nm n.kids)), if v = 3 then n.streams else []⟩ := by cases n; simp only [showG]
theorem showG_named (n : NV) (m : List UInt8) : showG nm v d (n.named m) = (showG nm v d n).named m := by cases n; simp only [NV.named, showG]
theorem sz_named (n : NV) (m : List UInt8) : sz (n.named m) = sz n := by cases n; simp only [NV.named, sz]
theorem showGL_next : ∀ {l : List NV} {ms : List (List UInt8)} {i : Nat} (h : i < l.length) (h' : i < ms.length),
    showGL nm v d (l.take (i + 1)) (ms.take (i + 1)) = showGL nm v d (l.take i) (ms.take i) ++ (if shown v l[i] d then [showG nm v d (l[i].named ms[i])] else [])
  | k :: r, m :: ms, 0, _, _ => by simp [showGL, showG_named]
  | k :: r, m :: ms, i + 1, h, h' => by
    have := showGL_next (l := r) (ms := ms) (i := i) (by simpa using h) (by simpa using h')
    simp only [List.take_succ_cons, showGL, List.getElem_cons_succ]
    rw [this]
    split <;> simp
theorem showGL_len : ∀ (l : List NV) (ms : List (List UInt8)), (showGL nm v d l ms).length ≤ l.length
  | [], ms => by simp [showGL]
  | k :: r, [] => by simp [showGL]
  | k :: r, m :: ms => by
    have := showGL_len r ms
    simp only [showGL]
    split <;> simp <;> omega
theorem showGL_names : ∀ (l : List NV) (ms : List (List UInt8)), ((showGL nm v d l ms).map NV.name).Sublist ms
  | [], ms => by simp [showGL]
  | k :: r, [] => by simp [showGL]
  | k :: r, m :: ms => by
    have := showGL_names r ms
    simp only [showGL]
    split
    · simp only [List.map_cons]
      exact this.cons_cons m
    · exact this.cons m
end
theorem sortN_perm (l : List NV) : (sortN l).Perm l := List.mergeSort_perm l _
theorem sortN_sorted (l : List NV) : (sortN l).Pairwise fun a b => Op.bytesLess b.name a.name = false := by
  have h := List.pairwise_mergeSort (le := fun a b : NV => !Op.bytesLess b.name a.name) (fun a b c h1 h2 => by
    have h3 : Op.bytesLess b.name a.name = false := by simpa using h1
    have h4 : Op.bytesLess c.name b.name = false := by simpa using h2
    have : Op.bytesLess c.name a.name = false := by
      cases h5 : Op.bytesLess c.name a.name with
      | false => rfl
      | true =>
        exfalso
        cases h6 : Op.bytesLess a.name b.name with
        | true => rw [bl_trans _ _ _ h5 h6] at h4; cases h4
        | false => rw [bl_total _ _ h6 h3] at h5; rw [h5] at h4; cases h4
    simpa using this) (fun a b => by
    cases h1 : Op.bytesLess b.name a.name with
    | false => rfl
    | true => simp [bl_asymm h1]) l
  exact h.imp fun {a b} h => by simpa using h
theorem sortN_inc {l : List NV} (h : (l.map NV.name).Nodup) : inc (sortN l) := by
  have h1 := sortN_sorted l
  have h2 : ((sortN l).map NV.name).Nodup := ((sortN_perm l).map _).nodup_iff.2 h
  apply pw_inc
  have h3 := List.pairwise_map.1 (List.nodup_iff_pairwise_ne.1 h2)
  exact (h1.and h3).imp fun {a b} ⟨h4, h5⟩ => by
    cases h6 : Op.bytesLess a.name b.name with
    | true => rfl
    | false => exact absurd (bl_total _ _ h6 h4) h5
theorem sortN_id {l : List NV} (h : inc l) : sortN l = l :=
  sorted_nodes h (sortN_perm l) fun i j hi hj hij => List.pairwise_iff_getElem.1 (sortN_sorted l) i j hi hj hij

/-- The sort of a row of nodes with different names. -/
theorem sort_names (ns : List NV) (h : (ns.map NV.name).Nodup) (hlen : ns.length < 1000000) (v : Value) :
    DCall Tryz.prog W0 108 [.raw v, .fn (.func 109) [] []] (look [(2001, .row v (ns.map encTop) 12 25)]) fun d H' =>
      d = .tup [] ∧ H' = look [(2001, .row v ((sortN ns).map encTop) 12 25)] := by
  by_cases h0 : 0 < ns.length
  · refine (F108 (W0 := W0) ns h0 hlen v).mono ?_
    rintro d H' ⟨rfl, ns', hp, hs, rfl⟩
    rw [sorted_nodes (sortN_inc h) (hp.trans (sortN_perm ns).symm) hs]
    exact ⟨rfl, rfl⟩
  · have hn : ns = [] := List.eq_nil_of_length_eq_zero (by omega)
    subst hn
    have : sortN [] = [] := by simp [sortN]
    rw [this]
    exact F108_nil v _

mutual
def okT : NV → Prop
  | .mk _ _ _ _ _ _ _ _ _ _ ks ss => ks.length ≤ 64 ∧ ss.length < 1000000000 ∧ inc ks ∧ okL ks
def okL : List NV → Prop
  | [] => True
  | k :: r => ((nameOk k.name = true ∧ k.name.length < 1000000000) ∧ okT k) ∧ okL r
end
theorem okL_get : ∀ {l : List NV} (_ : okL l) {k : NV} (_ : k ∈ l), (nameOk k.name = true ∧ k.name.length < 1000000000) ∧ okT k
  | x :: r, h, k, hk => by
    simp only [okL] at h
    rcases List.mem_cons.1 hk with rfl | hk
    · exact h.1
    · exact okL_get h.2 hk
theorem okT_eq (n : NV) : okT n ↔ n.kids.length ≤ 64 ∧ n.streams.length < 1000000000 ∧ inc n.kids ∧ okL n.kids := by cases n; simp only [okT]
theorem okT_named (n : NV) (m : List UInt8) : okT (n.named m) ↔ okT n := by simp only [okT_eq, NV.named]

/-- The names of kids at a view. -/
structure NamesOk (W0 : World) (v : Int) (nm : List NV → List (List UInt8)) : Prop where
  call : ∀ ks : List NV, ks.length ≤ 64 → inc ks → (∀ k ∈ ks, nameOk k.name = true ∧ k.name.length < 1000000000) →
    DFun Tryz.prog W0 105 [.int .i64 v, .sl .none 12 (ks.map enc)] (.tup [.sl .none 1 (strs (nm ks)), .int .i64 0]) ∧ (nm ks).length = ks.length ∧ (nm ks).Nodup ∧ ∀ m ∈ nm ks, m.length ≤ 1100

def joinQ (p m : List UInt8) (b : Bool) : List UInt8 := if b = true then m else p ++ [47] ++ m
theorem joinQ_len (p m : List UInt8) (b : Bool) : (joinQ p m b).length ≤ p.length + 1 + m.length := by
  simp only [joinQ]; split <;> simp <;> omega

theorem F92 (nm : List NV → List (List UInt8)) (v : Int) (hnm : NamesOk W0 v nm) : ∀ (N : Nat) (n : NV), sz n < N → okT n → ∀ (p q : List UInt8) (d : Int), 0 ≤ d → d + sz n < 1000000000 → p.length + 1200 * sz n < 1000000000 → q.length + sz n < 1000000000 → DFun Tryz.prog W0 92 [.int .i64 v, encQ n p q, .int .i64 d, .fn (.func 66) [] []] (encTop (showG nm v d n)) := by
  refine fun N => Nat.rec (fun n h => absurd h (Nat.not_lt_zero _)) (fun N ih n hN hok p q d hd hd2 hp hq => ?_) N
  obtain ⟨h64, hsn, hinc, hokl⟩ := (okT_eq n).1 hok
  have hks : ∀ k ∈ n.kids, nameOk k.name = true ∧ k.name.length < 1000000000 := fun k hk => (okL_get hokl hk).1
  obtain ⟨hcall, hnl, hnd, hnb⟩ := hnm.call n.kids h64 hinc hks
  refine DFun.intro ti_ok Tryz.func92 rfl (by decide +kernel) Tryz.ntmps92 rfl fun Γ => ?_
  refine Tri.seq ?_
  refine Tri.region ti_ok ?_
  conv => whnf
  intro b5
  conv => whnf
  intro b8
  conv => whnf
  refine Tri.seq ?_
  refine Tri.region ti_ok ?_
  conv => whnf
  refine ⟨rfl, ?_⟩
  conv => whnf
  intro b9
  conv => whnf
  refine ⟨rfl, ?_⟩
  conv => whnf
  refine Tri.seq ?_
  refine Tri.region ti_ok ?_
  conv => whnf
  refine ⟨rfl, ?_⟩
  conv => whnf
  refine ⟨rfl, ?_⟩
  conv => whnf
  refine ⟨rfl, ?_⟩
  conv => whnf
  refine ⟨rfl, ?_⟩
  conv => whnf
  refine ⟨rfl, ?_⟩
  conv => whnf
  intro b10
  conv => whnf
  refine ⟨rfl, ?_⟩
  conv => whnf
  refine Tri.joinK (α := Unit) (fun x => [(0, .int .i64 v), (2, .int .i64 d), (3, .fn (.func 66) [] []), (5, .box 5 b5 0), (8, .box 8 b8 0), (9, .box 9 b9 0), (10, .box 10 b10 0)]) (fun x => [(5, .box b5 [.str n.name, .int .i64 n.kind, .str n.text, .str n.target, .int .i64 n.n1, .int .i64 n.n2, .int .i64 n.n3, .int .i64 n.n4, .int .i64 n.n5, .int .i64 n.n6, .sl .none 12 (n.kids.map enc), .sl .none 2 (n.streams.map encS), .str p, .str q]), (8, .box b8 [.str [], .int .i64 0, .str [], .str [], .int .i64 0, .int .i64 0, .int .i64 0, .int .i64 0, .int .i64 0, .int .i64 0, .nils, .nils]), (9, .box b9 [.str n.name, .int .i64 n.kind, .str n.text, .str n.target, .int .i64 n.n1, .int .i64 n.n2, .int .i64 n.n3, .int .i64 n.n4, .int .i64 n.n5, .int .i64 n.n6, .sl .none 12 (n.kids.map enc), .sl .none 2 (n.streams.map encS)]), (10, .box b10 [.str n.name, .int .i64 n.kind, .str n.text, .str n.target, .int .i64 (if keeps v then n.n1 else 0), .int .i64 (if keeps v then n.n2 else 0), .int .i64 (if keeps v then n.n3 else 0), .int .i64 n.n4, .int .i64 0, .int .i64 0, .nils, .nils])]) ?_ ?_
  · refine Tri.seq ?_
    refine Tri.region ti_ok ?_
    conv => whnf
    refine ⟨fun h => h, ?_⟩
    conv => whnf
    refine ⟨fun h0 h => by first | exact h | (rw [h]; rfl) | (rw [h0, h]; rfl), ?_⟩
    conv => whnf
    refine Tri.cond _ rfl (fun hc => ?_) (fun hc => ?_)
    · have hk : keeps v = true := by
        cases h1 : (v == 2) with
        | true => simp only [keeps, h1, Bool.true_or]
        | false =>
          rw [h1] at hc
          simpa [keeps, h1] using hc
      rw [hk]
      refine Tri.bits ti_ok mixed (fun f => [(0, .int .i64 v), (2, .int .i64 d), (3, .fn (.func 66) [] []), (5, .box 5 b5 0), (8, .box 8 b8 0), (9, .box 9 b9 0), (10, .box 10 b10 0),
        (35, bif f 0 then .box 9 b9 4 else .any), (36, bif f 1 then .int .i64 n.n1 else .any), (37, bif f 2 then .box 9 b9 5 else .any), (38, bif f 3 then .int .i64 n.n2 else .any), (39, bif f 4 then .box 9 b9 6 else .any), (40, bif f 5 then .int .i64 n.n3 else .any), (41, bif f 6 then .box 10 b10 4 else .any), (42, bif f 8 then .box 10 b10 5 else .any), (43, bif f 10 then .box 10 b10 6 else .any)])
        (fun f => [(5, .box b5 [.str n.name, .int .i64 n.kind, .str n.text, .str n.target, .int .i64 n.n1, .int .i64 n.n2, .int .i64 n.n3, .int .i64 n.n4, .int .i64 n.n5, .int .i64 n.n6, .sl .none 12 (n.kids.map enc), .sl .none 2 (n.streams.map encS), .str p, .str q]), (8, .box b8 [.str [], .int .i64 0, .str [], .str [], .int .i64 0, .int .i64 0, .int .i64 0, .int .i64 0, .int .i64 0, .int .i64 0, .nils, .nils]), (9, .box b9 [.str n.name, .int .i64 n.kind, .str n.text, .str n.target, .int .i64 n.n1, .int .i64 n.n2, .int .i64 n.n3, .int .i64 n.n4, .int .i64 n.n5, .int .i64 n.n6, .sl .none 12 (n.kids.map enc), .sl .none 2 (n.streams.map encS)]), (10, .box b10 [.str n.name, .int .i64 n.kind, .str n.text, .str n.target, bif f 7 then .int .i64 n.n1 else .int .i64 0, bif f 9 then .int .i64 n.n2 else .int .i64 0, bif f 11 then .int .i64 n.n3 else .int .i64 0, .int .i64 n.n4, .int .i64 0, .int .i64 0, .nils, .nils])]) (by decide +kernel) ?_ ?_ ?_ ?_
      · exact ⟨.refl _, .refl _, .refl _, .refl _, .refl _, .refl _, .refl _, .any _, .any _, .any _, .any _, .any _, .any _, .any _, .any _, .any _, trivial⟩
      · exact ⟨rfl, rfl, rfl, rfl, trivial⟩
      · conv => whnf
        refine ⟨fun f => ?_, ?_⟩
        · conv => whnf
          exact ⟨⟨.refl _, .refl _, .refl _, .refl _, .refl _, .refl _, .refl _, .refl _, .refl _, .refl _, .refl _, .refl _, .refl _, .refl _, .refl _, .refl _, trivial⟩, rfl, rfl, rfl, rfl, trivial⟩
        refine ⟨fun f => ?_, ?_⟩
        · conv => whnf
          refine ⟨rfl, ?_⟩
          conv => whnf
          exact ⟨⟨.refl _, .refl _, .refl _, .refl _, .refl _, .refl _, .refl _, .refl _, .refl _, .refl _, .refl _, .refl _, .refl _, .refl _, .refl _, .refl _, trivial⟩, rfl, rfl, rfl, rfl, trivial⟩
        refine ⟨fun f => ?_, ?_⟩
        · conv => whnf
          exact ⟨⟨.refl _, .refl _, .refl _, .refl _, .refl _, .refl _, .refl _, .refl _, .refl _, .refl _, .refl _, .refl _, .refl _, .refl _, .refl _, .refl _, trivial⟩, rfl, rfl, rfl, rfl, trivial⟩
        refine ⟨fun f => ?_, ?_⟩
        · conv => whnf
          refine ⟨rfl, ?_⟩
          conv => whnf
          exact ⟨⟨.refl _, .refl _, .refl _, .refl _, .refl _, .refl _, .refl _, .refl _, .refl _, .refl _, .refl _, .refl _, .refl _, .refl _, .refl _, .refl _, trivial⟩, rfl, rfl, rfl, rfl, trivial⟩
        refine ⟨fun f => ?_, ?_⟩
        · conv => whnf
          exact ⟨⟨.refl _, .refl _, .refl _, .refl _, .refl _, .refl _, .refl _, .refl _, .refl _, .refl _, .refl _, .refl _, .refl _, .refl _, .refl _, .refl _, trivial⟩, rfl, rfl, rfl, rfl, trivial⟩
        refine ⟨fun f => ?_, ?_⟩
        · conv => whnf
          refine ⟨rfl, ?_⟩
          conv => whnf
          exact ⟨⟨.refl _, .refl _, .refl _, .refl _, .refl _, .refl _, .refl _, .refl _, .refl _, .refl _, .refl _, .refl _, .refl _, .refl _, .refl _, .refl _, trivial⟩, rfl, rfl, rfl, rfl, trivial⟩
        refine ⟨fun f => ?_, ?_⟩
        · conv => whnf
          exact ⟨⟨.refl _, .refl _, .refl _, .refl _, .refl _, .refl _, .refl _, .refl _, .refl _, .refl _, .refl _, .refl _, .refl _, .refl _, .refl _, .refl _, trivial⟩, rfl, rfl, rfl, rfl, trivial⟩
        refine ⟨fun f => ?_, ?_⟩
        · conv => whnf
          refine ⟨rfl, ?_⟩
          conv => whnf
          exact ⟨⟨.refl _, .refl _, .refl _, .refl _, .refl _, .refl _, .refl _, .refl _, .refl _, .refl _, .refl _, .refl _, .refl _, .refl _, .refl _, .refl _, trivial⟩, rfl, rfl, rfl, rfl, trivial⟩
        refine ⟨fun f => ?_, ?_⟩
        · conv => whnf
          exact ⟨⟨.refl _, .refl _, .refl _, .refl _, .refl _, .refl _, .refl _, .refl _, .refl _, .refl _, .refl _, .refl _, .refl _, .refl _, .refl _, .refl _, trivial⟩, rfl, rfl, rfl, rfl, trivial⟩
        refine ⟨fun f => ?_, ?_⟩
        · conv => whnf
          refine ⟨rfl, ?_⟩
          conv => whnf
          exact ⟨⟨.refl _, .refl _, .refl _, .refl _, .refl _, .refl _, .refl _, .refl _, .refl _, .refl _, .refl _, .refl _, .refl _, .refl _, .refl _, .refl _, trivial⟩, rfl, rfl, rfl, rfl, trivial⟩
        refine ⟨fun f => ?_, ?_⟩
        · conv => whnf
          exact ⟨⟨.refl _, .refl _, .refl _, .refl _, .refl _, .refl _, .refl _, .refl _, .refl _, .refl _, .refl _, .refl _, .refl _, .refl _, .refl _, .refl _, trivial⟩, rfl, rfl, rfl, rfl, trivial⟩
        refine ⟨fun f => ?_, ?_⟩
        · conv => whnf
          refine ⟨rfl, ?_⟩
          conv => whnf
          exact ⟨⟨.refl _, .refl _, .refl _, .refl _, .refl _, .refl _, .refl _, .refl _, .refl _, .refl _, .refl _, .refl _, .refl _, .refl _, .refl _, .refl _, trivial⟩, rfl, rfl, rfl, rfl, trivial⟩
        exact trivial
      · intro f hf
        have e7 := hf 7 (by decide +kernel)
        have e9 := hf 9 (by decide +kernel)
        have e11 := hf 11 (by decide +kernel)
        refine ⟨(), [(5, 5), (8, 8), (9, 9), (10, 10)], ⟨.refl _, .refl _, .refl _, .refl _, .refl _, .refl _, .refl _, trivial⟩, rfl, rfl, rfl, rfl, rfl, rfl, rfl, rfl, ?_, trivial⟩
        show some (HObj.box b10 [.str n.name, .int .i64 n.kind, .str n.text, .str n.target, bif f 7 then .int .i64 n.n1 else .int .i64 0, bif f 9 then .int .i64 n.n2 else .int .i64 0, bif f 11 then .int .i64 n.n3 else .int .i64 0, .int .i64 n.n4, .int .i64 0, .int .i64 0, .nils, .nils]) = _
        rw [e7, e9, e11]; rfl
    · refine Tri.skip ?_
      conv => whnf
      have hk : keeps v = false := by
        cases h1 : (v == 2) with
        | true => rw [h1] at hc; cases hc
        | false =>
          rw [h1] at hc
          simpa [keeps, h1] using hc
      rw [hk]
      exact ⟨(), [(5, 5), (8, 8), (9, 9), (10, 10)], ⟨.refl _, .refl _, .refl _, .refl _, .refl _, .refl _, .refl _, trivial⟩, rfl, rfl, rfl, rfl, rfl, rfl, rfl, rfl, rfl, trivial⟩
  · rintro ⟨⟩
    refine Tri.joinK (α := { x : D // DLe x (.sl .none 2 ((if v = 3 then n.streams else []).map encS)) }) (fun x => [(0, .int .i64 v), (2, .int .i64 d), (3, .fn (.func 66) [] []), (5, .box 5 b5 0), (8, .box 8 b8 0), (9, .box 9 b9 0), (10, .box 10 b10 0)]) (fun x => [(5, .box b5 [.str n.name, .int .i64 n.kind, .str n.text, .str n.target, .int .i64 n.n1, .int .i64 n.n2, .int .i64 n.n3, .int .i64 n.n4, .int .i64 n.n5, .int .i64 n.n6, .sl .none 12 (n.kids.map enc), .sl .none 2 (n.streams.map encS), .str p, .str q]), (8, .box b8 [.str [], .int .i64 0, .str [], .str [], .int .i64 0, .int .i64 0, .int .i64 0, .int .i64 0, .int .i64 0, .int .i64 0, .nils, .nils]), (9, .box b9 [.str n.name, .int .i64 n.kind, .str n.text, .str n.target, .int .i64 n.n1, .int .i64 n.n2, .int .i64 n.n3, .int .i64 n.n4, .int .i64 n.n5, .int .i64 n.n6, .sl .none 12 (n.kids.map enc), .sl .none 2 (n.streams.map encS)]), (10, .box b10 [.str n.name, .int .i64 n.kind, .str n.text, .str n.target, .int .i64 (if keeps v then n.n1 else 0), .int .i64 (if keeps v then n.n2 else 0), .int .i64 (if keeps v then n.n3 else 0), .int .i64 n.n4, .int .i64 0, .int .i64 0, .nils, x.1])]) ?_ ?_
    · refine Tri.seq ?_
      refine Tri.region ti_ok ?_
      conv => whnf
      refine Tri.cond _ rfl (fun hc => ?_) (fun hc => ?_)
      · refine Tri.region ti_ok ?_
        conv => whnf
        refine ⟨rfl, ?_⟩
        conv => whnf
        refine ⟨[.sl .none 2 (n.streams.map encS)], _, fun _ => F104 n.streams hsn, ⟨.refl _, trivial⟩, ?_⟩
        conv => whnf
        refine ⟨rfl, ?_⟩
        conv => whnf
        have hv3 : v = 3 := by simpa using hc
        exact ⟨⟨.sl .none 2 (n.streams.map encS), by rw [if_pos hv3]; exact .refl _⟩, [(5, 5), (8, 8), (9, 9), (10, 10)], ⟨.refl _, .refl _, .refl _, .refl _, .refl _, .refl _, .refl _, trivial⟩, rfl, rfl, rfl, rfl, rfl, rfl, rfl, rfl, rfl, trivial⟩
      · refine Tri.skip ?_
        conv => whnf
        have hv3 : ¬ v = 3 := by simpa using hc
        exact ⟨⟨.nils, by rw [if_neg hv3]; exact .nil⟩, [(5, 5), (8, 8), (9, 9), (10, 10)], ⟨.refl _, .refl _, .refl _, .refl _, .refl _, .refl _, .refl _, trivial⟩, rfl, rfl, rfl, rfl, rfl, rfl, rfl, rfl, rfl, trivial⟩
    · rintro ⟨sd, hsd⟩
      refine Tri.boxLe 10 (cs' := [.str n.name, .int .i64 n.kind, .str n.text, .str n.target, .int .i64 (if keeps v then n.n1 else 0), .int .i64 (if keeps v then n.n2 else 0), .int .i64 (if keeps v then n.n3 else 0), .int .i64 n.n4, .int .i64 0, .int .i64 0, .nils, .sl .none 2 ((if v = 3 then n.streams else []).map encS)]) rfl ⟨.refl _, .refl _, .refl _, .refl _, .refl _, .refl _, .refl _, .refl _, .refl _, .refl _, .refl _, hsd, trivial⟩ ?_
      refine Tri.seq ?_
      refine Tri.region ti_ok ?_
      conv => whnf
      refine ⟨rfl, ?_⟩
      conv => whnf
      refine ⟨[encQ n p q], _, fun _ => F66 n p q, ⟨.refl _, trivial⟩, ?_⟩
      conv => whnf
      refine Tri.seq ?_
      refine Tri.region ti_ok ?_
      conv => whnf
      refine ⟨rfl, ?_⟩
      conv => whnf
      refine ⟨[.int .i64 v, .sl .none 12 (n.kids.map enc)], _, fun _ => hcall, ⟨.refl _, .refl _, trivial⟩, ?_⟩
      conv => whnf
      refine Tri.seq ?_
      refine Tri.seq ?_
      refine Tri.region ti_ok ?_
      conv => whnf
      refine ⟨rfl, ?_⟩
      conv => whnf
      refine Tri.block ?_
      refine Tri.boxLe 10 (cs' := [.str n.name, .int .i64 n.kind, .str n.text, .str n.target, .int .i64 (if keeps v then n.n1 else 0), .int .i64 (if keeps v then n.n2 else 0), .int .i64 (if keeps v then n.n3 else 0), .int .i64 n.n4, .int .i64 0, .int .i64 0, .raw (.slice none 0 0), .sl .none 2 ((if v = 3 then n.streams else []).map encS)]) rfl ⟨.refl _, .refl _, .refl _, .refl _, .refl _, .refl _, .refl _, .refl _, .refl _, .refl _, DLe.nilRaw, .refl _, trivial⟩ ?_
      refine Tri.rowNil 109 12 25 ?_
      refine Tri.loopK (α := { x : Nat × Value // x.1 ≤ n.kids.length }) (fun x => [(0, .int .i64 v), (2, .int .i64 d), (3, .fn (.func 66) [] []), (5, .box 5 b5 0), (8, .box 8 b8 0), (9, .box 9 b9 0), (10, .box 10 b10 0), (11, .sl .none 1 (strs (nm n.kids))), (61, .sl .none 12 (n.kids.map enc)), (62, .int .i64 (n.kids.map enc).length), (63, .int .i64 x.1.1)]) (fun x => [(5, .box b5 [.str n.name, .int .i64 n.kind, .str n.text, .str n.target, .int .i64 n.n1, .int .i64 n.n2, .int .i64 n.n3, .int .i64 n.n4, .int .i64 n.n5, .int .i64 n.n6, .sl .none 12 (n.kids.map enc), .sl .none 2 (n.streams.map encS), .str p, .str q]), (8, .box b8 [.str [], .int .i64 0, .str [], .str [], .int .i64 0, .int .i64 0, .int .i64 0, .int .i64 0, .int .i64 0, .int .i64 0, .nils, .nils]), (9, .box b9 [.str n.name, .int .i64 n.kind, .str n.text, .str n.target, .int .i64 n.n1, .int .i64 n.n2, .int .i64 n.n3, .int .i64 n.n4, .int .i64 n.n5, .int .i64 n.n6, .sl .none 12 (n.kids.map enc), .sl .none 2 (n.streams.map encS)]), (10, .box b10 [.str n.name, .int .i64 n.kind, .str n.text, .str n.target, .int .i64 (if keeps v then n.n1 else 0), .int .i64 (if keeps v then n.n2 else 0), .int .i64 (if keeps v then n.n3 else 0), .int .i64 n.n4, .int .i64 0, .int .i64 0, .raw x.1.2, .sl .none 2 ((if v = 3 then n.streams else []).map encS)]), (109, .row x.1.2 ((showGL nm v (d + 1) (n.kids.take x.1.1) ((nm n.kids).take x.1.1)).map encTop) 12 25)]) (fun x => n.kids.length - x.1.1) ⟨(0, .slice none 0 0), Nat.zero_le _⟩ [(5, 5), (8, 8), (9, 9), (10, 10), (109, 109)]
        ⟨⟨.refl _, .refl _, .refl _, .refl _, .refl _, .refl _, .refl _, .refl _, .refl _, .refl _, .refl _, trivial⟩, rfl, rfl, rfl, rfl, rfl, rfl, rfl, rfl, rfl, rfl, congrArg (fun z => some (HObj.row (.slice none 0 0) z 12 25)) (by simp [showGL]), trivial⟩ ?_
      rintro ⟨⟨i, rv⟩, hi⟩
      dsimp only at hi ⊢
      refine Tri.seq ?_
      refine Tri.region ti_ok ?_
      conv => whnf
      refine Tri.seq ?_
      refine Tri.cond _ rfl (fun hc => ?_) (fun hc => ?_)
      · refine Tri.skip ?_
        conv => whnf
        have hia : i < n.kids.length := by simpa using hc
        have hin : i < (nm n.kids).length := by omega
        have hkz := kid_sz hia
        have hmb := hnb _ (List.getElem_mem hin)
        have hj1 := joinQ_len p (nm n.kids)[i] (d == 1)
        have hj2 := joinQ_len q n.kids[i].name (d == 1)
        refine Tri.seq ?_
        refine Tri.block ?_
        refine Tri.seq ?_
        refine Tri.region ti_ok ?_
        conv => whnf
        refine ⟨fun _ => by simp; omega, ?_⟩
        conv => whnf
        refine ⟨encTop n.kids[i], fun _ => get_kid hia, ?_⟩
        conv => whnf
        intro b14
        conv => whnf
        refine ⟨rfl, ?_⟩
        conv => whnf
        refine Tri.seq ?_
        refine Tri.region ti_ok ?_
        conv => whnf
        refine ⟨rfl, ?_⟩
        conv => whnf
        refine ⟨fun h => h, ?_⟩
        conv => whnf
        refine .inl ⟨fun h => by simp only [InR]; omega, ?_⟩
        conv => whnf
        refine ⟨fun h => h, ?_⟩
        conv => whnf
        refine ⟨fun h => h, ?_⟩
        conv => whnf
        refine ⟨fun h => h, ?_⟩
        conv => whnf
        refine ⟨[.int .i64 v, encTop n.kids[i], .int .i64 (d + 1)], _, fun h => F106 v _ _, ⟨.refl _, .refl _, .refl _, trivial⟩, ?_⟩
        conv => whnf
        refine ⟨fun h0 h => by first | exact h | (rw [h]; rfl) | (rw [h0, h]; rfl), ?_⟩
        conv => whnf
        refine Tri.cond _ rfl (fun hc => ?_) (fun hc => ?_)
        · refine Tri.seq ?_
          have hs : shown v n.kids[i] (d + 1) = true := by
            cases h1 : decide ((i : Int) < ((strs (nm n.kids)).length : Int)) with
            | true => rw [h1] at hc; exact hc
            | false => rw [h1] at hc; cases hc
          refine Tri.region ti_ok ?_
          conv => whnf
          refine ⟨rfl, ?_⟩
          conv => whnf
          refine ⟨rfl, ?_⟩
          conv => whnf
          refine ⟨[.str q, .str n.kids[i].name, .bool (d == 1)], _, fun _ => F107 _ _ _ (by omega), ⟨.refl _, .refl _, .refl _, trivial⟩, ?_⟩
          conv => whnf
          refine Tri.seq ?_
          refine Tri.region ti_ok ?_
          conv => whnf
          refine ⟨fun _ => by simp [strs]; omega, ?_⟩
          conv => whnf
          refine ⟨.str (nm n.kids)[i], fun _ => by simp [strs, hin], ?_⟩
          conv => whnf
          refine ⟨rfl, ?_⟩
          conv => whnf
          refine Tri.drawTailX ti_ok 18 mixed (by kernel_rfl) ?_
          conv => whnf
          refine ⟨rfl, ?_⟩
          conv => whnf
          refine ⟨rfl, ?_⟩
          conv => whnf
          refine ⟨rfl, ?_⟩
          conv => whnf
          refine ⟨rfl, ?_⟩
          conv => whnf
          refine ⟨[.str p, .str (nm n.kids)[i], .bool (d == 1)], _, fun _ => F107 _ _ _ (by omega), ⟨.refl _, .refl _, .refl _, trivial⟩, ?_⟩
          conv => whnf
          refine .inl ⟨fun _ => by simp only [InR]; omega, ?_⟩
          conv => whnf
          refine ⟨[.int .i64 v, encQ (n.kids[i].named (nm n.kids)[i]) (joinQ p (nm n.kids)[i] (d == 1)) (joinQ q n.kids[i].name (d == 1)), .int .i64 (d + 1), .fn (.func 66) [] []], _,
            fun _ => ih (n.kids[i].named (nm n.kids)[i]) (by rw [sz_named]; omega) ((okT_named _ _).2 (okL_get hokl (List.getElem_mem hia)).2) (joinQ p (nm n.kids)[i] (d == 1)) (joinQ q n.kids[i].name (d == 1)) (d + 1) (by omega) (by rw [sz_named]; omega)
              (by rw [sz_named]; omega) (by rw [sz_named]; omega), ⟨.refl _, .refl _, .refl _, .refl _, trivial⟩, ?_⟩
          conv => whnf
          refine ⟨trivial, ?_⟩
          conv => whnf
          refine .inr (XOp.rowAppend ti_ok 109 rfl rfl rfl (fun h => by cases h) rfl rfl rfl (Nat.zero_lt_one) ?_ ?_ fun aa m cap => ?_)
          · have := showGL_len nm v (d + 1) (n.kids.take i) ((nm n.kids).take i)
            show (_ + 1) * 152 ≤ _
            simp at this ⊢; omega
          · have := showGL_len nm v (d + 1) (n.kids.take i) ((nm n.kids).take i)
            show _ + 1 ≤ _
            simp at this ⊢; omega
          conv => whnf
          refine .inl ?_
          conv => whnf
          refine ⟨rfl, ?_⟩
          conv => whnf
          refine Tri.region ti_ok ?_
          conv => whnf
          refine .inl ⟨fun _ => by simp [InR]; omega, ?_⟩
          conv => whnf
          exact ⟨⟨(i + 1, .slice aa m cap), hia⟩, [(5, 5), (8, 8), (9, 9), (10, 10), (109, 109)], by show _ - (i + 1) < _ - i; omega, ⟨.refl _, .refl _, .refl _, .refl _, .refl _, .refl _, .refl _, .refl _, .refl _, .refl _, .refl _, trivial⟩, rfl, rfl, rfl, rfl, rfl, rfl, rfl, rfl, rfl, rfl, congrArg (fun z => some (HObj.row (.slice aa m cap) z 12 25)) (by rw [showGL_next nm v (d + 1) hia hin, if_pos hs]; simp; rfl), trivial⟩
        · have hs : shown v n.kids[i] (d + 1) = false := by
            have h1 : decide ((i : Int) < ((strs (nm n.kids)).length : Int)) = true := by simp [strs]; omega
            rw [h1] at hc; exact hc
          refine Tri.skip ?_
          conv => whnf
          refine Tri.region ti_ok ?_
          conv => whnf
          refine .inl ⟨fun _ => by simp [InR]; omega, ?_⟩
          conv => whnf
          exact ⟨⟨(i + 1, rv), hia⟩, [(5, 5), (8, 8), (9, 9), (10, 10), (109, 109)], by show _ - (i + 1) < _ - i; omega, ⟨.refl _, .refl _, .refl _, .refl _, .refl _, .refl _, .refl _, .refl _, .refl _, .refl _, .refl _, trivial⟩, rfl, rfl, rfl, rfl, rfl, rfl, rfl, rfl, rfl, rfl, congrArg (fun z => some (HObj.row rv z 12 25)) (by rw [showGL_next nm v (d + 1) hia hin, hs]; simp), trivial⟩
      · refine Tri.exit ?_
        conv => whnf
        have hin : i = n.kids.length := by simp at hc; omega
        have hrow : (showGL nm v (d + 1) (n.kids.take i) ((nm n.kids).take i)).map encTop = (showGL nm v (d + 1) n.kids (nm n.kids)).map encTop := by
          subst hin; rw [List.take_length, List.take_of_length_le (by omega)]
        rw [hrow]
        have hlen := showGL_len nm v (d + 1) n.kids (nm n.kids)
        have hnodup : ((showGL nm v (d + 1) n.kids (nm n.kids)).map NV.name).Nodup := (showGL_names nm v (d + 1) n.kids (nm n.kids)).nodup hnd
        refine Tri.seq ?_
        refine Tri.regionX ti_ok ?_
        conv => whnf
        refine .inl ?_
        conv => whnf
        refine ⟨rfl, ?_⟩
        conv => whnf
        refine .inr (XOp.call rfl [.raw rv, .fn (.func 109) [] []] [(2001, 109)] (sort_names _ hnodup (by omega) rv) rfl ⟨.refl _, .refl _, trivial⟩ ?_)
        rintro d' H' ⟨rfl, rfl⟩
        refine ⟨_, .refl _, ?_⟩
        conv => whnf
        refine Tri.forgetK [(113, .raw rv), (8, .box 8 b8 0), (10, .box 10 b10 0)] [(109, .row rv ((sortN (showGL nm v (d + 1) n.kids (nm n.kids))).map encTop) 12 25), (8, .box b8 [.str [], .int .i64 0, .str [], .str [], .int .i64 0, .int .i64 0, .int .i64 0, .int .i64 0, .int .i64 0, .int .i64 0, .nils, .nils]), (10, .box b10 [.str n.name, .int .i64 n.kind, .str n.text, .str n.target, .int .i64 (if keeps v then n.n1 else 0), .int .i64 (if keeps v then n.n2 else 0), .int .i64 (if keeps v then n.n3 else 0), .int .i64 n.n4, .int .i64 0, .int .i64 0, .raw rv, .sl .none 2 ((if v = 3 then n.streams else []).map encS)])] [(109, 109), (8, 8), (10, 10)] ⟨⟨.refl _, .refl _, .refl _, trivial⟩, rfl, rfl, rfl, rfl, rfl, rfl, rfl, trivial⟩ ?_
        refine Tri.commitOwn 109 113 rfl ?_
        refine Tri.boxOf 10 113 (cs' := [.str n.name, .int .i64 n.kind, .str n.text, .str n.target, .int .i64 (if keeps v then n.n1 else 0), .int .i64 (if keeps v then n.n2 else 0), .int .i64 (if keeps v then n.n3 else 0), .int .i64 n.n4, .int .i64 0, .int .i64 0, .sl .none 12 ((sortN (showGL nm v (d + 1) n.kids (nm n.kids))).map encTop), .sl .none 2 ((if v = 3 then n.streams else []).map encS)]) rfl rfl (fun w C hr us h => RepL.cell (i := 10) h fun u hu => (h.raw_get (i := 10) rfl hu) ▸ hr) ?_
        refine Tri.seq ?_
        refine Tri.region ti_ok ?_
        conv => whnf
        refine ⟨rfl, ?_⟩
        conv => whnf
        refine ⟨rfl, ?_⟩
        conv => whnf
        refine Tri.ret ?_
        conv => whnf
        refine ⟨rfl, ?_⟩
        conv => whnf
        rw [showG_eq]
        refine DLe.agg ?_
        refine ⟨.refl _, .refl _, .refl _, .refl _, .refl _, .refl _, .refl _, .refl _, .refl _, .refl _, DLe.of_eq (congrArg (D.sl .none 12) ?_), DLe.refl _, trivial⟩
        exact List.map_congr_left fun k _ => (enc_eq k).symm
end Go.Tame.V
/- What a valid tree is, node by node. No program's code. -/
namespace Go.Tame.V
open Go Go.Proofs
variable {W0 : World}
set_option linter.unusedVariables false

mutual
def goodB : NV → Int → Bool
  | .mk a b c d e f g h i j ks ss, l => one (.mk a b c d e f g h i j ks ss) l == 0 && goodL ks (l + 1)
def goodL : List NV → Int → Bool
  | [], _ => true
  | k :: r, l => goodB k l && goodL r l
end
theorem goodB_eq (n : NV) (l : Int) : goodB n l = (one n l == 0 && goodL n.kids (l + 1)) := by cases n; simp only [goodB]

mutual
theorem walk_good : ∀ (n : NV) (p : List UInt8) (l : Int) (q : List UInt8),
    (goodB n l = true → walk checkF n p l (0, q) = (true, (0, q))) ∧ (goodB n l = false → (walk checkF n p l (0, q)).1 = false ∧ (walk checkF n p l (0, q)).2.1 ≠ 0)
  | .mk a b c d e f g h i j ks ss, p, l, q => by
    have ih := walkL_good ks p l q
    simp only [walk, goodB, checkF]
    by_cases h1 : one (.mk a b c d e f g h i j ks ss) l = 0
    · simp only [h1, if_true, beq_self_eq_true, Bool.true_and]
      exact ih
    · simp only [h1, if_false]
      refine ⟨fun hh => ?_, fun _ => ⟨by simp, by simpa using h1⟩⟩
      simp [h1] at hh
theorem walkL_good : ∀ (ks : List NV) (p : List UInt8) (l : Int) (q : List UInt8),
    (goodL ks (l + 1) = true → walkL checkF ks p l (0, q) = (true, (0, q))) ∧ (goodL ks (l + 1) = false → (walkL checkF ks p l (0, q)).1 = false ∧ (walkL checkF ks p l (0, q)).2.1 ≠ 0)
  | [], p, l, q => by simp [walkL, goodL]
  | k :: r, p, l, q => by
    have h1 := walk_good k (below p k.name (l + 1)) (l + 1) q
    have h2 := walkL_good r p l q
    simp only [walkL, goodL]
    cases hk : goodB k (l + 1) with
    | true =>
      rw [h1.1 hk]
      simpa using h2
    | false =>
      have h3 := h1.2 hk
      generalize hx : walk checkF k (below p k.name (l + 1)) (l + 1) (0, q) = x at h3
      obtain ⟨x1, x2⟩ := x
      obtain ⟨h4, h5⟩ := h3
      simp only at h4 h5
      subst h4
      simp [h5]
end
theorem valid_good (n : NV) : valid n = (decide (cnt n ≤ 256) && goodB n 1) := by
  simp only [valid, check]
  by_cases h : (256 : Int) < cnt n
  · rw [if_pos h]
    have : decide (cnt n ≤ 256) = false := by simp; omega
    rw [this]; rfl
  · rw [if_neg h]
    have h1 : decide (cnt n ≤ 256) = true := by simp; omega
    rw [h1, Bool.true_and]
    have hw := walk_good n [] 1 []
    cases hg : goodB n 1 with
    | true => rw [hw.1 hg]; rfl
    | false => simpa using (hw.2 hg).2

theorem nz_all {f : Nat → Int} : ∀ {k i : Nat}, firstNZ f i k = 0 → ∀ j, i ≤ j → j < i + k → f j = 0
  | 0, i, _, j, h1, h2 => by omega
  | k + 1, i, h, j, h1, h2 => by
    simp only [firstNZ] at h
    split at h
    · rename_i h0
      by_cases e : j = i
      · rw [e]; exact h0
      · exact nz_all h j (by omega) (by omega)
    · rename_i h0; exact absurd h h0

theorem name_len {s : List UInt8} (h : nameOk s = true) : s.length ≤ 256 := by
  simp only [nameOk] at h
  split at h
  · cases h
  · simp only [Bool.and_eq_true, decide_eq_true_eq, beq_iff_eq] at h
    obtain ⟨h1, h2, h3⟩ := h
    simp only [chars] at h1 h3
    split at h1
    · cases h1
    · rename_i hl
      rw [if_neg hl] at h3
      cases hc : charsP s with
      | none => rw [hc] at h1; cases h1
      | some l =>
        rw [hc] at h3
        have := charsP_len s.length s (Nat.le_refl _) l hc
        simp only at h3
        omega
theorem name_ne {s : List UInt8} (h : nameOk s = true) : s ≠ [] := by
  intro e; subst e; revert h; decide +kernel

/-- What the rules say of a node at a level. -/
structure Good (n : NV) (l : Int) : Prop where
  kind0 : 0 ≤ n.kind ∧ n.kind ≤ 2
  kind1 : l = 1 → n.kind = 0
  name1 : l = 1 → n.name = []
  name2 : 1 < l → nameOk n.name = true
  file : n.kind ≠ 1 → n.text = [] ∧ n.streams = []
  link : n.kind ≠ 2 → n.target = []
  dir : n.kind ≠ 0 → n.kids = []
  target : n.kind = 2 → targetOk n.target = true
  n1 : 0 ≤ n.n1 ∧ n.n1 ≤ 4095
  n2 : 0 ≤ n.n2 ∧ n.n2 ≤ 65535
  n3 : 0 ≤ n.n3 ∧ n.n3 ≤ 65535
  n4 : 315532800 ≤ n.n4 ∧ n.n4 ≤ 4102444799
  n5 : -1048576 ≤ n.n5 ∧ n.n5 ≤ 1048576
  n6 : 0 ≤ n.n6 ∧ n.n6 ≤ 15
  level : l ≤ 16
  size : n.text.length ≤ 262144
  kids64 : n.kids.length ≤ 64
  streams4 : n.streams.length ≤ 4
  streams : ∀ i, i < n.streams.length → (stAt n i).target.length ≤ 262144 ∧ fS n i = 0
  inc : inc n.kids

theorem good_of {n : NV} {l : Int} (h : one n l = 0) : Good n l := by
  have hr := nz_all h
  have r0 : cKind n l = false := by have := hr 0 (by omega) (by omega); simp only [ruleI, rKind] at this; split at this <;> simp_all
  have r1 : cName n l = false := by have := hr 1 (by omega) (by omega); simp only [ruleI, rName] at this; split at this <;> simp_all
  have r2 : cParts n = false := by have := hr 2 (by omega) (by omega); simp only [ruleI, rParts] at this; split at this <;> simp_all
  have r3 : cTarget n = false := by have := hr 3 (by omega) (by omega); simp only [ruleI, rTarget] at this; split at this <;> simp_all
  have r4 : cNumbers n = false := by have := hr 4 (by omega) (by omega); simp only [ruleI, rNumbers] at this; split at this <;> simp_all
  have r5' := hr 5 (by omega) (by omega)
  simp only [ruleI, rSizes] at r5'
  have r5 : cSizes n l = false := by split at r5' <;> simp_all
  rw [if_neg (by rw [r5]; simp)] at r5'
  have r6 := hr 6 (by omega) (by omega)
  simp only [ruleI, rStreams] at r6
  have r7 := hr 7 (by omega) (by omega)
  simp only [ruleI, rKids] at r7
  simp only [cKind, cName, cParts, cTarget, cNumbers, cSizes, within, Bool.or_eq_false_iff, Bool.and_eq_false_iff, decide_eq_false_iff_not, Bool.not_eq_false', beq_eq_false_iff_ne, beq_iff_eq, Bool.not_eq_eq_eq_not, Bool.not_true, Bool.not_false, Bool.and_eq_true, decide_eq_true_eq] at r0 r1 r2 r3 r4 r5
  obtain ⟨⟨r2a, r2b⟩, r2c⟩ := r2
  obtain ⟨⟨⟨⟨⟨ra, rb⟩, rc⟩, rd⟩, re⟩, rf⟩ := r4
  have hk : inc n.kids := fun i hi => by
    have := nz_all r7 (i + 1) (by omega) (by omega)
    simp only [fK, ordE, kAt, Nat.add_sub_cancel] at this
    by_cases h1 : (n.kids.getD i default).name = (n.kids.getD (i + 1) default).name
    · rw [if_pos h1] at this; cases this
    · rw [if_neg h1] at this
      by_cases h2 : Op.bytesLess (n.kids.getD (i + 1) default).name (n.kids.getD i default).name = true
      · rw [if_pos h2] at this; cases this
      · cases h3 : Op.bytesLess (n.kids.getD i default).name (n.kids.getD (i + 1) default).name with
        | true => rfl
        | false => exact absurd (bl_total _ _ h3 (by simpa using h2)) h1
  exact {
    kind0 := by omega
    kind1 := fun e => by rcases r0.2 with h1 | h1 <;> first | exact absurd e h1 | exact h1
    name1 := fun e => by rcases r1.1 with h1 | h1 <;> first | exact absurd e h1 | exact h1
    name2 := fun e => by rcases r1.2 with h1 | h1 <;> first | (exact absurd e h1) | exact h1
    file := fun e => by
      rcases r2a with h1 | ⟨h1, h2⟩
      · exact absurd h1 e
      · exact ⟨h1, List.eq_nil_of_length_eq_zero (by omega)⟩
    link := fun e => by rcases r2b with h1 | h1 <;> first | exact absurd h1 e | exact h1
    dir := fun e => by
      rcases r2c with h1 | h1
      · exact absurd h1 e
      · exact List.eq_nil_of_length_eq_zero (by omega)
    target := fun e => by rcases r3 with h1 | h1 <;> first | exact absurd e h1 | exact h1
    n1 := ra, n2 := rb, n3 := rc, n4 := rd, n5 := re, n6 := rf
    level := by omega
    size := by omega
    kids64 := by omega
    streams4 := by omega
    streams := fun i hi => ⟨by
      have := nz_all r5' i (by omega) (by omega)
      simp only [fZ] at this
      split at this
      · cases this
      · rename_i h1; simp at h1; omega, nz_all r6 i (by omega) (by omega)⟩
    inc := hk }

theorem goodB_good {n : NV} {l : Int} (h : goodB n l = true) : Good n l ∧ goodL n.kids (l + 1) = true := by
  rw [goodB_eq, Bool.and_eq_true] at h
  exact ⟨good_of (by simpa using h.1), h.2⟩
theorem goodL_mem : ∀ {ks : List NV} {l : Int}, goodL ks l = true → ∀ k ∈ ks, goodB k l = true
  | x :: r, l, h, k, hk => by
    simp only [goodL, Bool.and_eq_true] at h
    rcases List.mem_cons.1 hk with rfl | hk
    · exact h.1
    · exact goodL_mem h.2 k hk
theorem goodL_of : ∀ {ks : List NV} {l : Int}, (∀ k ∈ ks, goodB k l = true) → goodL ks l = true
  | [], l, h => rfl
  | x :: r, l, h => by
    simp only [goodL, Bool.and_eq_true]
    exact ⟨h x List.mem_cons_self, goodL_of fun k hk => h k (List.mem_cons_of_mem _ hk)⟩

mutual
theorem good_okT : ∀ (n : NV) (l : Int), 1 ≤ l → goodB n l = true → okT n
  | .mk a b c d e f g h i j ks ss, l, hl, hg => by
    obtain ⟨h1, h2⟩ := goodB_good hg
    simp only [okT]
    have h64 : ks.length ≤ 64 := h1.kids64
    have hs4 : ss.length ≤ 4 := h1.streams4
    exact ⟨h64, by omega, h1.inc, good_okL ks (l + 1) (by omega) h2⟩
theorem good_okL : ∀ (ks : List NV) (l : Int), 2 ≤ l → goodL ks l = true → okL ks
  | [], l, hl, hg => trivial
  | k :: r, l, hl, hg => by
    simp only [goodL, Bool.and_eq_true] at hg
    simp only [okL]
    have hn := (goodB_good hg.1).1.name2 (by omega)
    have := name_len hn
    exact ⟨⟨⟨hn, by omega⟩, good_okT k l (by omega) hg.1⟩, good_okL r l hl hg.2⟩
end
theorem valid_okT {n : NV} (h : valid n = true) : okT n := by
  rw [valid_good, Bool.and_eq_true] at h
  exact good_okT n 1 (Int.le_refl _) h.2

/-- At the views 2 and 3 the names stay. -/
theorem names23 (hL : LibOk W0) {v : Int} (hv : v = 2 ∨ v = 3) : NamesOk W0 v (fun ks => ks.map NV.name) :=
  ⟨fun ks h64 hinc hok => ⟨F105 hL v hv ks h64 hok hinc, by simp, by
    have := inc_pw hinc
    rw [List.nodup_iff_pairwise_ne, List.pairwise_map]
    exact this.imp fun h => bl_ne h, fun m hm => by
    obtain ⟨k, hk, rfl⟩ := List.mem_map.1 hm
    have := name_len (hok k hk).1
    omega⟩⟩
end Go.Tame.V
/- Contracts: tree, View, Check, given the names of the kids. By program (mk.py). -/
namespace Go.Tame.V
open Go Go.Proofs
variable {W0 : World}
set_option maxRecDepth 10000
set_option linter.unusedVariables false
set_option linter.unusedSimpArgs false


def zeroN : NV := ⟨[], 0, [], [], 0, 0, 0, 0, 0, 0, [], []⟩
def viewR (nm : List NV → List (List UInt8)) (v : Int) (n : NV) : NV × Int :=
  if viewOk v = false then (zeroN, 2) else if valid n = false then (zeroN, 1) else (showG nm v 1 n, 0)
theorem zeroD : DLe (.agg [.str [], .int .i64 0, .str [], .str [], .int .i64 0, .int .i64 0, .int .i64 0, .int .i64 0, .int .i64 0, .int .i64 0, .nils, .nils]) (encTop zeroN) :=
  DLe.agg ⟨.refl _, .refl _, .refl _, .refl _, .refl _, .refl _, .refl _, .refl _, .refl _, .refl _, DLe.nil, DLe.nil, trivial⟩

theorem F65 (hL : LibOk W0) (nm : List NV → List (List UInt8)) (v : Int) (hnm : viewOk v = true → NamesOk W0 v nm) (n : NV) (hz : sz n + n.name.length < 10000000) (hv : valid n = true → sz n < 800000) : DFun Tryz.prog W0 65 [.int .i64 v, encTop n, .fn (.func 66) [] []] (.tup [encTop (viewR nm v n).1, .int .i64 (viewR nm v n).2]) := by
  refine DFun.intro ti_ok Tryz.func65 rfl (by decide +kernel) Tryz.ntmps65 rfl fun Γ => ?_
  refine Tri.seq ?_
  refine Tri.region ti_ok ?_
  conv => whnf
  intro b4
  conv => whnf
  intro b6
  conv => whnf
  refine Tri.seq ?_
  refine Tri.seq ?_
  refine Tri.region ti_ok ?_
  conv => whnf
  refine ⟨[.int .i64 v], _, fun _ => F91 v, ⟨.refl _, trivial⟩, ?_⟩
  conv => whnf
  refine Tri.cond _ rfl (fun hc => ?_) (fun hc => ?_)
  · refine Tri.seq ?_
    refine Tri.region ti_ok ?_
    conv => whnf
    refine ⟨rfl, ?_⟩
    conv => whnf
    refine Tri.ret ?_
    conv => whnf
    have h1 : viewOk v = false := by simpa using hc
    have h2 : viewR nm v n = (zeroN, 2) := by rw [viewR, if_pos h1]
    rw [h2]
    refine ⟨rfl, ?_⟩
    conv => whnf
    exact ⟨zeroD, .refl _, trivial⟩
  · refine Tri.skip ?_
    conv => whnf
    refine Tri.seq ?_
    refine Tri.seq ?_
    refine Tri.region ti_ok ?_
    conv => whnf
    refine ⟨rfl, ?_⟩
    conv => whnf
    refine ⟨[encTop n], _, fun _ => F39 hL n hz, ⟨.refl _, trivial⟩, ?_⟩
    conv => whnf
    refine Tri.cond _ rfl (fun hc => ?_) (fun hc => ?_)
    · refine Tri.seq ?_
      refine Tri.region ti_ok ?_
      conv => whnf
      refine ⟨rfl, ?_⟩
      conv => whnf
      refine Tri.ret ?_
      conv => whnf
      have h1 : ¬ viewOk v = false := by intro h; rename_i h0; rw [h] at h0; cases h0
      have h3 : valid n = false := by simpa using hc
      have h2 : viewR nm v n = (zeroN, 1) := by rw [viewR, if_neg h1, if_pos h3]
      rw [h2]
      refine ⟨rfl, ?_⟩
      conv => whnf
      exact ⟨zeroD, .refl _, trivial⟩
    · refine Tri.skip ?_
      conv => whnf
      refine Tri.seq ?_
      refine Tri.region ti_ok ?_
      conv => whnf
      refine ⟨rfl, ?_⟩
      conv => whnf
      have h1 : viewOk v = true := by rename_i h0; simpa using h0
      have h3 : valid n = true := by simpa using hc
      have h4 := hv h3
      refine ⟨[.int .i64 v, encQ n [] [], .int .i64 1, .fn (.func 66) [] []], _, fun _ => F92 nm v (hnm h1) _ n (Nat.lt_succ_self _) (valid_okT h3) [] [] 1 (by omega) (by omega) (by simp only [List.length_nil]; omega) (by simp only [List.length_nil]; omega), ⟨.refl _, .refl _, .refl _, .refl _, trivial⟩, ?_⟩
      conv => whnf
      refine ⟨rfl, ?_⟩
      conv => whnf
      refine Tri.ret ?_
      conv => whnf
      have h2 : viewR nm v n = (showG nm v 1 n, 0) := by rw [viewR, if_neg (by rw [h1]; simp), if_neg (by rw [h3]; simp)]
      rw [h2]
      refine ⟨rfl, ?_⟩
      conv => whnf
      exact ⟨.refl _, .refl _, trivial⟩
theorem F42 (hL : LibOk W0) (nm : List NV → List (List UInt8)) (v : Int) (hnm : viewOk v = true → NamesOk W0 v nm) (n : NV) (hz : sz n + n.name.length < 10000000) (hv : valid n = true → sz n < 800000) : DFun Tryz.prog W0 42 [.int .i64 v, encTop n] (.tup [encTop (viewR nm v n).1, .int .i64 (viewR nm v n).2]) := by
  refine DFun.intro ti_ok Tryz.func42 rfl (by decide +kernel) Tryz.ntmps42 rfl fun Γ => ?_
  refine Tri.seq ?_
  refine Tri.region ti_ok ?_
  conv => whnf
  intro b3
  conv => whnf
  intro b4
  conv => whnf
  refine Tri.seq ?_
  refine Tri.region ti_ok ?_
  conv => whnf
  refine ⟨rfl, ?_⟩
  conv => whnf
  refine ⟨[.int .i64 v, encTop n, .fn (.func 66) [] []], _, fun _ => F65 hL nm v hnm n hz hv, ⟨.refl _, .refl _, .refl _, trivial⟩, ?_⟩
  conv => whnf
  refine ⟨rfl, ?_⟩
  conv => whnf
  refine Tri.ret ?_
  conv => whnf
  refine ⟨rfl, ?_⟩
  conv => whnf
  exact ⟨.refl _, .refl _, trivial⟩
/-- What Check hands back. -/
def checkR (nm : List NV → List (List UInt8)) (v : Int) (a b : NV) : List DV × Int :=
  if viewOk v = false then ([], 2) else if valid a = true ∧ valid b = true then compare (showG nm v 1 a) b else ([], 1)
theorem viewOk_not (v : Int) : (bif decide (v < 0) then true else decide (4 ≤ v)) = !viewOk v := by
  simp only [viewOk]
  rw [Bool.eq_iff_iff]
  simp
theorem F18 (hL : LibOk W0) (nm : List NV → List (List UInt8)) (v : Int) (hnm : viewOk v = true → NamesOk W0 v nm) (a b : NV) (ha : Fits a) (hb : Fits b) (hv : valid a = true → sz a < 800000 ∧ (viewOk v = true → Fits (showG nm v 1 a))) : DFun Tryz.prog W0 18 [.int .i64 v, encTop a, encTop b] (.tup [.sl .none 2 (encDs (checkR nm v a b).1), .int .i64 (checkR nm v a b).2]) := by
  refine DFun.intro ti_ok Tryz.func18 rfl (by decide +kernel) Tryz.ntmps18 rfl fun Γ => ?_
  refine Tri.seq ?_
  refine Tri.region ti_ok ?_
  conv => whnf
  intro b4
  conv => whnf
  intro b5
  conv => whnf
  refine Tri.seq ?_
  refine Tri.seq ?_
  refine Tri.region ti_ok ?_
  conv => whnf
  refine ⟨fun h => h, ?_⟩
  conv => whnf
  refine ⟨fun h0 h => by first | exact h | (rw [h]; rfl) | (rw [h0, h]; rfl), ?_⟩
  conv => whnf
  refine Tri.cond _ rfl (fun hc => ?_) (fun hc => ?_)
  · refine Tri.seq ?_
    refine Tri.region ti_ok ?_
    conv => whnf
    refine Tri.ret ?_
    conv => whnf
    have h1 : viewOk v = false := by simpa using (viewOk_not v).symm.trans hc
    have h2 : checkR nm v a b = ([], 2) := by rw [checkR, if_pos h1]
    rw [h2]
    exact ⟨DLe.nil, .refl _, trivial⟩
  · refine Tri.skip ?_
    conv => whnf
    refine Tri.seq ?_
    have h1 : viewOk v = true := by
      have := (viewOk_not v).symm.trans hc
      simpa using this
    have ha' := ha
    have hb' := hb
    unfold Fits at ha' hb'
    refine Tri.seq ?_
    refine Tri.region ti_ok ?_
    conv => whnf
    refine ⟨rfl, ?_⟩
    conv => whnf
    refine ⟨[encTop a], _, fun _ => F39 hL a (by omega), ⟨.refl _, trivial⟩, ?_⟩
    conv => whnf
    refine ⟨rfl, ?_⟩
    conv => whnf
    refine ⟨fun h => h, ?_⟩
    conv => whnf
    refine ⟨[encTop b], _, fun h => F39 hL b (by omega), ⟨.refl _, trivial⟩, ?_⟩
    conv => whnf
    refine ⟨fun h => h, ?_⟩
    conv => whnf
    refine ⟨fun h0 h => by first | exact h | (rw [h]; rfl) | (rw [h0, h]; rfl), ?_⟩
    conv => whnf
    refine Tri.cond _ rfl (fun hc => ?_) (fun hc => ?_)
    · refine Tri.seq ?_
      refine Tri.region ti_ok ?_
      conv => whnf
      refine Tri.ret ?_
      conv => whnf
      have hv2 := (not_both _ _).symm.trans hc
      have h2 : checkR nm v a b = ([], 1) := by
        rw [checkR, if_neg (by rw [h1]; simp), if_neg (by intro ⟨h3, h4⟩; rw [h3, h4] at hv2; cases hv2)]
      rw [h2]
      exact ⟨DLe.nil, .refl _, trivial⟩
    · refine Tri.skip ?_
      conv => whnf
      have hv2 := (not_both _ _).symm.trans hc
      have h34 : valid a = true ∧ valid b = true := by
        cases h5 : valid a <;> cases h6 : valid b <;> simp_all
      have h7 := hv h34.1
      have hR : viewR nm v a = (showG nm v 1 a, 0) := by rw [viewR, if_neg (by rw [h1]; simp), if_neg (by rw [h34.1]; simp)]
      have hC : checkR nm v a b = compare (showG nm v 1 a) b := by rw [checkR, if_neg (by rw [h1]; simp), if_pos h34]
      refine Tri.seq ?_
      refine Tri.region ti_ok ?_
      conv => whnf
      refine ⟨rfl, ?_⟩
      conv => whnf
      refine ⟨[.int .i64 v, encTop a], .tup [encTop (showG nm v 1 a), .int .i64 0], fun _ => by
        have := F42 hL nm v hnm a (by omega) (fun _ => h7.1)
        rw [hR] at this
        exact this, ⟨.refl _, .refl _, trivial⟩, ?_⟩
      conv => whnf
      intro b8
      conv => whnf
      refine ⟨rfl, ?_⟩
      conv => whnf
      refine Tri.seq ?_
      refine Tri.seq ?_
      refine Tri.region ti_ok ?_
      conv => whnf
      refine Tri.cond _ rfl (fun hc => ?_) (fun hc => ?_)
      · refine Tri.seq ?_
        refine Tri.region ti_ok ?_
        conv => whnf
        refine Tri.ret ?_
        conv => whnf
        exfalso
        cases hc
      · refine Tri.skip ?_
        conv => whnf
        refine Tri.seq ?_
        refine Tri.region ti_ok ?_
        conv => whnf
        refine ⟨rfl, ?_⟩
        conv => whnf
        refine ⟨rfl, ?_⟩
        conv => whnf
        refine ⟨[encTop (showG nm v 1 a), encTop b], _, fun _ => F13 hL _ _ (h7.2 h1) hb, ⟨.refl _, .refl _, trivial⟩, ?_⟩
        conv => whnf
        refine Tri.ret ?_
        conv => whnf
        rw [hC]
        exact ⟨.refl _, .refl _, trivial⟩
end Go.Tame.V
/- The example's values. -/
namespace Go.Tame.V
open Go Go.Proofs
variable {W0 : World}
set_option maxRecDepth 10000
theorem valA : valid exA = true := by decide +kernel
theorem valB : valid exB = true := by decide +kernel
theorem cmpAB : cmpT [] exA exB = [⟨3, [97]⟩, ⟨1, [98]⟩, ⟨0, [99]⟩] := by
  simp [exA, exB, leaf, cmpT, mrg, fieldDiffs, fieldDiff, joinP, Op.bytesLess, List.range, List.range.loop]
theorem cmpAA : cmpT [] exA exA = [] := by
  simp [exA, leaf, cmpT, mrg, fieldDiffs, fieldDiff, joinP, Op.bytesLess, List.range, List.range.loop]
theorem incA : inc [leaf [97] [120], leaf [99] []] := fun i hi => by
  match i, hi with
  | 0, _ => decide +kernel
  | i + 1, hi => exact absurd hi (by simp)
theorem shA : showG (fun ks => ks.map NV.name) 3 2 (leaf [97] [120]) = leaf [97] [120] ∧ showG (fun ks => ks.map NV.name) 3 2 (leaf [99] []) = leaf [99] [] := by
  simp [leaf, showG, showGL, sortN, keeps]
theorem showA : showG (fun ks => ks.map NV.name) 3 1 exA = exA := by
  have h1 : shown 3 (leaf [97] [120]) 2 = true := by decide +kernel
  have h2 : shown 3 (leaf [99] []) 2 = true := by decide +kernel
  have h3 : showGL (fun ks => ks.map NV.name) 3 2 [leaf [97] [120], leaf [99] []] [[97], [99]] = [leaf [97] [120], leaf [99] []] := by
    simp only [showGL, h1, h2, if_true, shA.1, shA.2]
    rfl
  rw [showG_eq]
  simp only [exA, keeps]
  have h4 : (List.map NV.name [leaf [97] [120], leaf [99] []]) = [[97], [99]] := rfl
  rw [h4, show (1 : Int) + 1 = 2 from rfl, h3, sortN_id incA]
  rfl
end Go.Tame.V
/- The contract of awake. By program (mk.py). -/
namespace Go.Tame.V
open Go Go.Proofs
variable {W0 : World}
set_option maxRecDepth 10000
set_option linter.unusedVariables false
set_option linter.unusedSimpArgs false

def dAB : List DV := [⟨3, [97]⟩, ⟨1, [98]⟩, ⟨0, [99]⟩]
def fAB : List (List UInt8) := [[100, 97, 116, 97, 32, 97], [101, 120, 116, 114, 97, 32, 98], [109, 105, 115, 115, 105, 110, 103, 32, 99]]
theorem fmtAB : dAB.map fmtD = fAB.map D.str := by
  have : dAB.map fmtLine = fAB := by decide +kernel
  rw [← this, List.map_map]; rfl
theorem cAB : compare exA exB = (dAB, 0) := by rw [compare, valA, valB, cmpAB]; rfl
theorem cAA : compare exA exA = ([], 0) := by rw [compare, valA, cmpAA]; rfl
theorem fitA : Fits exA := by unfold Fits; decide +kernel
theorem fitB : Fits exB := by unfold Fits; decide +kernel
theorem kAB : checkR (fun ks => ks.map NV.name) 3 exA exB = (dAB, 0) := by
  rw [checkR, if_neg (by decide), if_pos ⟨valA, valB⟩, showA, cAB]

theorem F11 (hL : LibOk W0) : DFun Tryz.prog W0 11 [] (.bool true) := by
  refine DFun.intro ti_ok Tryz.func11 rfl (by decide +kernel) Tryz.ntmps11 rfl fun Γ => ?_
  refine Tri.seq ?_
  refine Tri.region ti_ok ?_
  conv => whnf
  refine Tri.seq ?_
  refine Tri.region ti_ok ?_
  conv => whnf
  refine ⟨[], _, fun _ => F38, trivial, ?_⟩
  conv => whnf
  intro b1
  conv => whnf
  intro b2
  conv => whnf
  refine ⟨rfl, ?_⟩
  conv => whnf
  refine ⟨rfl, ?_⟩
  conv => whnf
  refine Tri.seq ?_
  refine Tri.region ti_ok ?_
  conv => whnf
  refine ⟨rfl, ?_⟩
  conv => whnf
  refine ⟨rfl, ?_⟩
  conv => whnf
  refine ⟨[encTop exA, encTop exB], .tup [.sl .none 2 (encDs dAB), .int .i64 0], fun _ => by
    have := F13 hL exA exB fitA fitB
    rw [cAB] at this
    exact this, ⟨.refl _, .refl _, trivial⟩, ?_⟩
  conv => whnf
  refine Tri.seq ?_
  refine Tri.region ti_ok ?_
  conv => whnf
  refine ⟨rfl, ?_⟩
  conv => whnf
  refine ⟨rfl, ?_⟩
  conv => whnf
  refine ⟨[.int .i64 3, encTop exA, encTop exB], .tup [.sl .none 2 (encDs dAB), .int .i64 0], fun _ => by
    have := F18 hL (fun ks => ks.map NV.name) 3 (fun _ => names23 hL (.inr rfl)) exA exB fitA fitB (fun _ => ⟨by decide +kernel, fun _ => by rw [showA]; exact fitA⟩)
    rw [kAB] at this
    exact this, ⟨.refl _, .refl _, .refl _, trivial⟩, ?_⟩
  conv => whnf
  refine Tri.seq ?_
  refine Tri.region ti_ok ?_
  conv => whnf
  refine ⟨fun h => h, ?_⟩
  conv => whnf
  refine ⟨[.sl .none 2 (encDs dAB)], .sl .none 1 (fAB.map D.str), fun h => by
    have := F34 (W0 := W0) dAB (by decide) (by decide)
    rw [fmtAB] at this
    exact this, ⟨.refl _, trivial⟩, ?_⟩
  conv => whnf
  refine ⟨trivial, ?_⟩
  conv => whnf
  refine ⟨fun h => h, ?_⟩
  conv => whnf
  refine ⟨fun h => h, ?_⟩
  conv => whnf
  refine ⟨[.sl .none 1 (fAB.map D.str), .sl .none 1 (fAB.map D.str)], _, fun h => F23 fAB fAB (by decide) (by decide), ⟨.refl _, DLe.full, trivial⟩, ?_⟩
  conv => whnf
  refine ⟨fun h0 h => by first | exact h | (rw [h]; rfl) | (rw [h0, h]; rfl), ?_⟩
  conv => whnf
  refine ⟨rfl, ?_⟩
  conv => whnf
  refine ⟨rfl, ?_⟩
  conv => whnf
  refine ⟨fun h => h, ?_⟩
  conv => whnf
  refine ⟨fun h => h, ?_⟩
  conv => whnf
  refine ⟨[encTop exA, encTop exA], _, fun h => F16 hL exA exA fitA fitA, ⟨.refl _, .refl _, trivial⟩, ?_⟩
  conv => whnf
  refine ⟨fun h0 h => by first | exact h | (rw [h]; rfl) | (rw [h0, h]; rfl), ?_⟩
  conv => whnf
  refine ⟨rfl, ?_⟩
  conv => whnf
  refine ⟨rfl, ?_⟩
  conv => whnf
  refine ⟨fun h => h, ?_⟩
  conv => whnf
  refine ⟨fun h => h, ?_⟩
  conv => whnf
  refine ⟨[encTop exA, encTop exB], _, fun h => F16 hL exA exB fitA fitB, ⟨.refl _, .refl _, trivial⟩, ?_⟩
  conv => whnf
  refine ⟨fun h => h, ?_⟩
  conv => whnf
  refine ⟨fun h0 h => by first | exact h | (rw [h]; rfl) | (rw [h0, h]; rfl), ?_⟩
  conv => whnf
  refine ⟨fun h => h, ?_⟩
  conv => whnf
  refine ⟨fun h0 h => by first | exact h | (rw [h]; rfl) | (rw [h0, h]; rfl), ?_⟩
  conv => whnf
  refine ⟨fun h => h, ?_⟩
  conv => whnf
  refine ⟨fun h => h, ?_⟩
  conv => whnf
  refine ⟨[.sl .none 2 (encDs dAB), .sl .none 2 (encDs dAB)], _, fun h => F15 dAB dAB (by decide) (by decide), ⟨.refl _, .refl _, trivial⟩, ?_⟩
  conv => whnf
  refine ⟨fun h0 h => by first | exact h | (rw [h]; rfl) | (rw [h0, h]; rfl), ?_⟩
  conv => whnf
  refine ⟨fun h => h, ?_⟩
  conv => whnf
  refine ⟨[.sl .none 2 (encDs dAB), .int .i64 3], _, fun h => F30 dAB 3 (by decide), ⟨.refl _, .refl _, trivial⟩, ?_⟩
  conv => whnf
  refine ⟨fun h => h, ?_⟩
  conv => whnf
  refine ⟨fun h0 h => by first | exact h | (rw [h]; rfl) | (rw [h0, h]; rfl), ?_⟩
  conv => whnf
  refine ⟨fun h => h, ?_⟩
  conv => whnf
  refine ⟨[.sl .none 2 (encDs dAB), .str [99]], _, fun h => F29 dAB [99] (by decide) (by decide), ⟨.refl _, .refl _, trivial⟩, ?_⟩
  conv => whnf
  refine ⟨fun h => h, ?_⟩
  conv => whnf
  refine ⟨fun h => h, ?_⟩
  conv => whnf
  refine ⟨fun h0 h => by first | exact h | (rw [h]; rfl) | (rw [h0, h]; rfl), ?_⟩
  conv => whnf
  refine Tri.ret ?_
  conv => whnf
  have h1 : same exA exA = true := by rw [same, cAA]; rfl
  have h2 : same exA exB = false := by rw [same, cAB]; rfl
  rw [h1, h2]
  exact DLe.of_eq rfl
end Go.Tame.V
/- The readings of this seat's arguments, as data by value; what is laid. -/
namespace Go.Tame.V
open Go Go.Proofs Go.RowKit Go.ChangeShapes Go.Deep Go.WideShapes
open YtggomolcfgmdkaaGreatDoor (Rows.uptoBulk Rows.uptoBulkAll)
set_option maxRecDepth 100000
variable {H : Type} {enc0 : TypeId × Value → H} {W : World}

abbrev bulk (d : DataW H) : Nat := YtggomolcfgmdkaaGreatDoor.Rows.uptoBulk d
abbrev bulkA (d : List (DataW H)) : Nat := YtggomolcfgmdkaaGreatDoor.Rows.uptoBulkAll d

theorem sum_good {α : Type} {m : α → Nat} {c : Nat} : ∀ {l : List α} {ds : List (DataW H)}, ds.length = l.length → (∀ (i : Nat) a y, l[i]? = some a → ds[i]? = some y → m a ≤ c * bulk y) → (l.map m).sum ≤ c * bulkA ds
  | [], [], _, _ => by simp
  | a :: l, y :: ds, hl, h => by
    have h1 := h 0 a y rfl rfl
    have h2 := sum_good (l := l) (ds := ds) (by simpa using hl) fun i a y h3 h4 => h (i + 1) a y (by simpa using h3) (by simpa using h4)
    have h3 : c * bulkA (y :: ds) = c * bulk y + c * bulkA ds := by simp only [bulkA, bulk, YtggomolcfgmdkaaGreatDoor.Rows.uptoBulkAll, Nat.mul_add]
    rw [h3, List.map_cons, List.sum_cons]
    omega
theorem sum_goodS {α : Type} {m : α → Nat} {c : Nat} {l : List α} {d : DataW H} (h : goodS (fun a y => m a ≤ c * bulk y) l d) : (l.map m).sum ≤ c * bulk d := by
  rcases h with ⟨rfl, rfl⟩ | ⟨ds, sp, rfl, hl, hg⟩
  · simp
  · have := sum_good hl hg
    have h3 : c * bulk (.slice ds sp) = c * bulkA ds + c * bulkA sp + c * 1 := by simp only [bulkA, bulk, YtggomolcfgmdkaaGreatDoor.Rows.uptoBulk, Nat.mul_add]
    rw [h3]
    omega
theorem szS_sum : ∀ l : List SV, szS l = (l.map fun s => 2 + s.name.length + s.target.length).sum
  | [] => rfl
  | s :: r => by simp only [szS, List.map_cons, List.sum_cons, szS_sum r]
theorem szL_sum : ∀ l : List NV, szL l = (l.map fun n => 2 * n.name.length + 2 + sz n).sum
  | [] => by simp [szL]
  | s :: r => by simp only [szL, List.map_cons, List.sum_cons, szL_sum r]

theorem rd_stream (n : Nat) : Rd enc0 Tryz.prog W n 44 encS (fun s d => 2 + s.name.length + s.target.length ≤ 1 * bulk d) := by
  intro cs x h
  obtain ⟨xs, m, rfl, hx, hcl, hxl, hf⟩ := trod_fields Tryz.underlying44 (by kernel_rfl) (by kernel_rfl) h
  match cs, hcl, xs, hxl with
  | [c0, c1], _, [y0, y1], _ =>
    obtain ⟨s0, r0, e0, _⟩ := Rd.str (enc := enc0) (W := W) (n := m) Tryz.underlying9 [c0] y0 (hf 0 _ c0 y0 rfl rfl rfl)
    obtain ⟨s1, r1, e1, _⟩ := Rd.str (enc := enc0) (W := W) (n := m) Tryz.underlying9 [c1] y1 (hf 1 _ c1 y1 rfl rfl rfl)
    refine ⟨⟨s0, s1⟩, .cons r0.head (.cons r1.head (.nil _ _)), ?_⟩
    rw [hx]
    simp only [List.map_cons, List.map_nil, e0, e1, bulk, YtggomolcfgmdkaaGreatDoor.Rows.uptoBulk, YtggomolcfgmdkaaGreatDoor.Rows.uptoBulkAll]
    omega

theorem rd_diff (n : Nat) : Rd enc0 Tryz.prog W n 34 encD (fun s d => 2 + s.path.length ≤ 1 * bulk d) := by
  intro cs x h
  obtain ⟨xs, m, rfl, hx, hcl, hxl, hf⟩ := trod_fields Tryz.underlying34 (by kernel_rfl) (by kernel_rfl) h
  match cs, hcl, xs, hxl with
  | [c0, c1], _, [y0, y1], _ =>
    obtain ⟨s0, r0, e0, _⟩ := Rd.int (enc := enc0) (W := W) (n := m) Tryz.underlying3 [c0] y0 (hf 0 _ c0 y0 rfl rfl rfl)
    obtain ⟨s1, r1, e1, _⟩ := Rd.str (enc := enc0) (W := W) (n := m) Tryz.underlying9 [c1] y1 (hf 1 _ c1 y1 rfl rfl rfl)
    refine ⟨⟨s0, s1⟩, .cons r0.head (.cons r1.head (.nil _ _)), ?_⟩
    rw [hx]
    simp only [List.map_cons, List.map_nil, e0, e1, bulk, YtggomolcfgmdkaaGreatDoor.Rows.uptoBulk, YtggomolcfgmdkaaGreatDoor.Rows.uptoBulkAll]
    omega
theorem rd_diffs (n : Nat) : Rd enc0 Tryz.prog W n 28 (fun l : List DV => .sl .none 2 (l.map encD)) (goodS fun s d => 2 + s.path.length ≤ 1 * bulk d) :=
  Rd.slice (f := encD) (k := 2) Tryz.underlying28 (by kernel_rfl) (by omega) (fun a => ⟨rfl, rfl⟩) fun m _ => rd_diff m

theorem rd_node : ∀ (N n : Nat), n < N → Rd enc0 Tryz.prog W n 25 enc (fun s d => 2 * s.name.length + 2 + sz s ≤ 2 * bulk d)
  | 0, n, hn => absurd hn (Nat.not_lt_zero _)
  | N + 1, n, hn => by
    intro cs x h
    obtain ⟨xs, m, rfl, hx, hcl, hxl, hf⟩ := trod_fields Tryz.underlying25 (by kernel_rfl) (by kernel_rfl) h
    match cs, hcl, xs, hxl with
    | [c0, c1, c2, c3, c4, c5, c6, c7, c8, c9, c10, c11], _, [y0, y1, y2, y3, y4, y5, y6, y7, y8, y9, y10, y11], _ =>
      obtain ⟨s0, r0, e0, _⟩ := Rd.str (enc := enc0) (W := W) (n := m) Tryz.underlying9 [c0] y0 (hf 0 _ c0 y0 rfl rfl rfl)
      obtain ⟨s1, r1, e1, _⟩ := Rd.int (enc := enc0) (W := W) (n := m) Tryz.underlying3 [c1] y1 (hf 1 _ c1 y1 rfl rfl rfl)
      obtain ⟨s2, r2, e2, _⟩ := Rd.str (enc := enc0) (W := W) (n := m) Tryz.underlying9 [c2] y2 (hf 2 _ c2 y2 rfl rfl rfl)
      obtain ⟨s3, r3, e3, _⟩ := Rd.str (enc := enc0) (W := W) (n := m) Tryz.underlying9 [c3] y3 (hf 3 _ c3 y3 rfl rfl rfl)
      obtain ⟨s4, r4, e4, _⟩ := Rd.int (enc := enc0) (W := W) (n := m) Tryz.underlying3 [c4] y4 (hf 4 _ c4 y4 rfl rfl rfl)
      obtain ⟨s5, r5, e5, _⟩ := Rd.int (enc := enc0) (W := W) (n := m) Tryz.underlying3 [c5] y5 (hf 5 _ c5 y5 rfl rfl rfl)
      obtain ⟨s6, r6, e6, _⟩ := Rd.int (enc := enc0) (W := W) (n := m) Tryz.underlying3 [c6] y6 (hf 6 _ c6 y6 rfl rfl rfl)
      obtain ⟨s7, r7, e7, _⟩ := Rd.int (enc := enc0) (W := W) (n := m) Tryz.underlying3 [c7] y7 (hf 7 _ c7 y7 rfl rfl rfl)
      obtain ⟨s8, r8, e8, _⟩ := Rd.int (enc := enc0) (W := W) (n := m) Tryz.underlying3 [c8] y8 (hf 8 _ c8 y8 rfl rfl rfl)
      obtain ⟨s9, r9, e9, _⟩ := Rd.int (enc := enc0) (W := W) (n := m) Tryz.underlying3 [c9] y9 (hf 9 _ c9 y9 rfl rfl rfl)
      obtain ⟨ks, r10, e10⟩ := Rd.slice (enc := enc0) (W := W) (fuel := m) Tryz.underlying22 (k := 12) (f := enc) (by kernel_rfl) (by omega) (fun a => by rw [enc_eq]; exact ⟨rfl, rfl⟩) (fun m' hm' => rd_node N m' (by omega)) [c10] y10 (hf 10 _ c10 y10 rfl rfl rfl)
      obtain ⟨ss, r11, e11⟩ := Rd.slice (enc := enc0) (W := W) (fuel := m) Tryz.underlying23 (k := 2) (f := encS) (by kernel_rfl) (by omega) (fun a => ⟨rfl, rfl⟩) (fun m' _ => rd_stream m') [c11] y11 (hf 11 _ c11 y11 rfl rfl rfl)
      refine ⟨⟨s0, s1, s2, s3, s4, s5, s6, s7, s8, s9, ks, ss⟩, ?_, ?_⟩
      · rw [enc_eq]
        exact .cons r0.head (.cons r1.head (.cons r2.head (.cons r3.head (.cons r4.head (.cons r5.head (.cons r6.head (.cons r7.head (.cons r8.head (.cons r9.head (.cons r10.head (.cons r11.head (.nil _ _))))))))))))
      · have h10 := sum_goodS e10
        have h11 := sum_goodS e11
        rw [← szL_sum] at h10
        rw [← szS_sum] at h11
        rw [hx]
        dsimp only
        rw [sz_eq]
        simp only [List.map_cons, List.map_nil, e0, e1, e2, e3, e4, e5, e6, e7, e8, e9, bulk, YtggomolcfgmdkaaGreatDoor.Rows.uptoBulk, YtggomolcfgmdkaaGreatDoor.Rows.uptoBulkAll] at h10 h11 ⊢
        omega

/-- A node that came in. -/
theorem open_node {v : Value} {d : DataW H} {p : List MemPlace} {base : Nat} (hv : Value.okWide Tryz.prog W .any base 25 v) (h : DataW.Trod enc0 Tryz.prog W 0 (fun _ => true) true 25 v d p) :
    ∃ n : NV, Rep W (allC W) (encTop n) v ∧ 2 * n.name.length + 2 + sz n ≤ 2 * bulk d := by
  obtain ⟨fuel, hf⟩ := h
  obtain ⟨cs, rfl, _⟩ := okWide_struct Tryz.underlying25 hv
  obtain ⟨n, hr, hg⟩ := rd_node (enc0 := enc0) (W := W) _ fuel (Nat.lt_succ_self _) _ _ hf
  rw [enc_eq] at hr
  obtain ⟨l⟩ := cs
  exact ⟨n, .agg _ _ hr.1 hr.2, hg⟩

theorem callsTrue {f : Nat} {ds : List D} {args : Array Value} (h : DFun Tryz.prog W f ds (.bool true)) (hr : RepL W (allC W) ds args.toList) :
    Calls Tryz.prog f args W fun e w' => e = .returned (.bool true) ∧ Below W.heap.size W w' := by
  obtain ⟨l⟩ := args
  refine (h.2 W (allC W) l (Below.refl _ _) hr).mono ?_
  rintro e w' ⟨v, C', rfl, hv, hs⟩
  rw [hv.bool_inv]
  exact ⟨rfl, Base.step (Below.refl _ _) hs fun _ h => h.elim⟩

theorem laidOut : laidOutB Tryz.prog = true := by kernel_rfl
theorem stays_all {W' : World} (hb : Below W.heap.size W W') {sp : Nat → Bool} : ∀ {ts : List TypeId} {vs : List Value} {ds : List (DataW H)} {ps : List MemPlace},
    (∀ t ∈ ts, Tryz.prog.readableRec t = true ∧ t < Tryz.prog.types.size) → DataW.TrodAll enc0 Tryz.prog W 0 (fun _ => true) true ts vs ds ps → (∀ x ∈ ps, x.block < W.heap.size) → (∀ x ∈ ps, sp x.block = true) →
    DataW.TrodAll enc0 Tryz.prog W' 0 sp true ts vs ds ps
  | [], [], [], _, _, h, _, _ => h
  | t :: ts, v :: vs, d :: ds, _, ht, ⟨p, q, h1, h2, e⟩, hlt, hsp => by
    subst e
    exact ⟨p, q, stays laidOut (ht t List.mem_cons_self).1 (ht t List.mem_cons_self).2 h1 hb (fun x hx => hlt x (by simp [hx])) sp (fun x hx => hsp x (by simp [hx])),
      stays_all hb (fun t h => ht t (List.mem_cons_of_mem _ h)) h2 (fun x hx => hlt x (by simp [hx])) (fun x hx => hsp x (by simp [hx])), rfl⟩

def laidList : List (String × DataW Unit) := YtggomolcfgmdkaaGreatDoor.Rows.viewdiffListsRow.laid
theorem libOk (hL : laidMetH Tryz.prog laidList W) (hsh : W.ShapedOpen Tryz.prog) : LibOk W := by
  have hL' : laidMet Tryz.prog laidList W := hL
  refine ⟨utf8Tabs_of_reads (ρ := Tryz.lays260_ren) Tryz.lays260 ⟨by kernel_rfl, by kernel_rfl, by kernel_rfl, by kernel_rfl, by kernel_rfl, by kernel_rfl, by kernel_rfl⟩
    (Lib.laidMet.reads hL' (.tail _ (.tail _ (.tail _ (.tail _ (.head _)))))) (Lib.laidMet.reads hL' (.tail _ (.tail _ (.tail _ (.head _))))), ?_, ?_⟩
  · obtain ⟨h1, _⟩ := hsh
    obtain ⟨cs, hcs, hsz, hrow⟩ := h1 0 #[.int .i64 0] 3 (by decide +kernel) (by kernel_rfl)
    obtain ⟨ts, hts, _, hcell⟩ := hrow (by kernel_rfl)
    have hts' : ts = [3] := by
      have : Tryz.prog.cellTypes Tryz.prog.depth 3 = some [3] := by kernel_rfl
      exact Option.some.inj (hts.symm.trans this)
    subst hts'
    have h0 : cs[0]? = some (cs[0]'(by rw [hsz]; decide)) := Array.getElem?_eq_getElem _
    obtain ⟨u, hu, hok⟩ := hcell 0 _ h0
    have hu' : u = 3 := by simpa using hu.symm
    subst hu'
    have hc : W.cell? ⟨0, 0, none⟩ = some (cs[0]'(by rw [hsz]; decide)) := by
      simp only [World.cell?, hcs]
      simpa using h0
    generalize cs[0]'(by rw [hsz]; decide) = v at hok hc
    unfold Cell.ok at hok
    rw [Tryz.underlying3] at hok
    cases v with
    | int k n => obtain ⟨rfl, _⟩ := hok; exact ⟨n, hc⟩
    | _ => exact hok.elim
  · exact Lib.tabIs_of_head (rest := _) (g := 3) (t := 195) (e := 157) (n := 20) (by kernel_rfl) (by kernel_rfl) (by kernel_rfl) (by kernel_rfl) (by kernel_rfl) (by kernel_rfl) hL'.tail.tail
end Go.Tame.V
/- The statement on Format, Count and Below: from the contract to the card. -/
namespace Go.Tame.V
open Go Go.Proofs Go.RowKit Go.ChangeShapes Go.Deep Go.WideShapes Go.ChangeAt
open YtggomolcfgmdkaaGreatDoor
set_option maxRecDepth 100000

theorem own : ownKnob Tryz.prog.godebug = none := by kernel_rfl

/-- A world that holds what is laid. -/
noncomputable def laidWorld (os : Os) : World :=
  let w0 := World.holding Tryz.prog os ⟨#[], #[], []⟩
  let put (h : Array Obj) (g : Nat) (cs : Array Value) : Array Obj := h.modify g fun
    | .cells _ t frozen => .cells cs t frozen
    | o => o
  let h1 := put w0.heap 1 (Lib.firstTab.map fun z => Value.int .u8 z).toArray
  let h2 := put h1 2 ((List.range 16).flatMap fun i => [Value.int .u8 (Lib.accLo i), Value.int .u8 (Lib.accHi i)]).toArray
  let h3 := put h2 3 (Lib.pow10Tab.map fun z => Value.int .u64 z).toArray
  let h4 := put h3 4 ([0, 1, 28, 2, 29, 14, 24, 3, 30, 22, 20, 15, 25, 17, 4, 8, 31, 27, 13, 23, 21, 19, 16, 7, 26, 12, 18, 6, 11, 5, 10, 9].map fun z => Value.int .u8 z).toArray
  let h5 := put h4 5 ([0, 1, 56, 2, 57, 49, 28, 3, 61, 58, 42, 50, 38, 29, 17, 4, 62, 47, 59, 36, 45, 43, 51, 22, 53, 39, 33, 30, 24, 18, 12, 5, 63, 55, 48, 27, 60, 41, 37, 16, 46, 35, 44, 21, 52, 32, 23, 11, 54, 26, 40, 15, 34, 20, 31, 10, 25, 14, 19, 9, 13, 8, 7, 6].map fun z => Value.int .u8 z).toArray
  { w0 with heap := h5 }
theorem laid_met (os : Os) (args : Array Value) : laidMet Tryz.prog laidList ((laidWorld os).forCall (fun _ _ => 0) ⟨#[], args, []⟩).memory :=
  laidMet_of_run' 8 (by kernel_rfl) (by kernel_rfl)
end Go.Tame.V
