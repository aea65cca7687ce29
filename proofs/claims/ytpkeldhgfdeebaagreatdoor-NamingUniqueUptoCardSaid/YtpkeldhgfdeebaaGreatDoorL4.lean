/- A program logic of my own over the model, and contracts of this program's functions by it: part 4. No conditions of its own: each theorem states its own. -/
import Derived.Test.YtpkeldhgfdeebaaGreatDoorL3
set_option linter.unnecessarySimpa false
set_option linter.unusedSimpArgs false
set_option linter.unusedVariables false
/- The parts of a name, by bytes and by characters. No program's code. -/
namespace Go.Tame.V
open Go Go.Proofs
set_option maxRecDepth 10000
set_option linter.unusedVariables false
set_option linter.unusedSimpArgs false

/-- The place of the last point, or -1. -/
def dotI : List Int → Int
  | [] => -1
  | x :: r => if 0 ≤ dotI r then dotI r + 1 else if x = 46 then 0 else -1
theorem dotI_none : ∀ {l : List Int}, (46 : Int) ∉ l → dotI l = -1
  | [], _ => rfl
  | x :: r, h => by
    have ih := dotI_none (l := r) fun h' => h (List.mem_cons_of_mem _ h')
    simp only [dotI]
    rw [ih, if_neg (by omega), if_neg (fun e => h (by rw [e]; exact List.mem_cons_self))]
theorem dotI_some : ∀ (l1 : List Int) {l2 : List Int}, (46 : Int) ∉ l2 → dotI (l1 ++ 46 :: l2) = l1.length
  | [], l2, h => by simp [dotI, dotI_none h]
  | x :: l1, l2, h => by
    have ih := dotI_some l1 h
    simp only [List.cons_append, dotI, ih, List.length_cons]
    rw [if_pos (by omega)]; omega
/-- The stem and the extension, in characters. -/
def partsC (v : Int) (l : List Int) (dir : Bool) : List Int × List Int :=
  if dir = false ∧ 0 < dotI l ∧ dotI l < (l.length : Int) - 1 ∧ (v = 0 ∨ (l.length : Int) - 1 - dotI l ≤ 16) then (l.take (dotI l).toNat, l.drop (dotI l + 1).toNat)
  else if dir = false ∧ v = 0 ∧ 0 < dotI l ∧ dotI l = (l.length : Int) - 1 then (l.take (dotI l).toNat, []) else (l, [])
theorem runesB_nil {l : List Int} : runesB l = [] ↔ l = [] := by
  cases l with
  | nil => simp [runesB]
  | cons r l =>
    have : runesB (r :: l) = (Utf8.encode r).data.toList ++ runesB l := by simp [runesB]
    rw [this]
    simp only [List.append_eq_nil_iff, reduceCtorEq, iff_false]
    exact fun h => enc_ne r h.1
theorem suffix_dot (a : List UInt8) : Lib.trimSuffix (a ++ [46]) [46] = a := by
  simp [Lib.trimSuffix, Lib.hasSuffix]
theorem no_suffix {s : List UInt8} (h : ∀ a, s ≠ a ++ [46]) : Lib.trimSuffix s [46] = s := by
  unfold Lib.trimSuffix
  rw [if_neg]
  intro hs
  have : ([46] : List UInt8) <:+ s := by
    simp only [Lib.hasSuffix] at hs
    exact List.isSuffixOf_iff_suffix.1 hs
  obtain ⟨a, ha⟩ := this
  exact h a ha.symm

theorem cut_chars (v : Int) {s : List UInt8} {l : List Int} (hc : charsP s = some l) (dir : Bool) :
    runesI (cutS v s dir).1 = (partsC v l dir).1 ∧ runesI (cutS v s dir).2 = (partsC v l dir).2 ∧ ((cutS v s dir).2 = [] ↔ (partsC v l dir).2 = []) := by
  have hr := runes_chars hc
  have h0 : runesI [] = [] := rfl
  obtain ⟨hb, hch⟩ := chars_bytes s.length s l (Nat.le_refl _) hc
  cases dir with
  | true =>
    simp only [cutS, partsC, if_true, Bool.true_eq_false, false_and, if_false, hr, h0, and_self, iff_self]
  | false =>
    rcases dot_split hc with ⟨h1, h2⟩ | ⟨l1, l2, e, h2, h3, h4⟩
    · have hd := dotI_none h2
      have hcb : cutB v s = false := by simp [cutB, h1]
      have ht : Lib.trimSuffix s [46] = s := no_suffix fun a ha => by
        have : (runesB l)[a.length]? = some 46 := by rw [hb, ha]; simp
        obtain ⟨l1, l2, e, _⟩ := byte_dot l hch _ this
        exact h2 (by rw [e]; simp)
      have hp : partsC v l false = (l, []) := by simp [partsC, hd]
      rw [hp]
      simp only [cutS, Bool.false_eq_true, if_false, hcb, ht]
      split <;> simp [hr, h0]
    · have hd := dotI_some l1 h2
      rw [← e] at hd
      have hc1 : ∀ r ∈ l1, isChar r = true := fun r hr => hch r (by rw [e]; simp [hr])
      have hc2 : ∀ r ∈ l2, isChar r = true := fun r hr => hch r (by rw [e]; simp [hr])
      have hr1 : runesI (runesB l1) = l1 := runes_chars (charsP_of l1 hc1)
      have hr2 : runesI (runesB l2) = l2 := runes_chars (charsP_of l2 hc2)
      have hll : l.length = l1.length + 1 + l2.length := by rw [e]; simp; omega
      have hsl : s.length = (runesB l1).length + 1 + (runesB l2).length := by rw [h4]; simp; omega
      have p1 : 0 < (runesB l1).length ↔ 0 < l1.length := by
        rw [List.length_pos_iff, List.length_pos_iff]; exact not_congr runesB_nil
      have p2 : 0 < (runesB l2).length ↔ 0 < l2.length := by
        rw [List.length_pos_iff, List.length_pos_iff]; exact not_congr runesB_nil
      have htk : s.take (lastDot s).toNat = runesB l1 := by rw [h3, h4]; simp
      have hdr : s.drop (lastDot s + 1).toNat = runesB l2 := by
        have : (lastDot s + 1).toNat = (runesB l1).length + 1 := by omega
        rw [this, h4]
        simp
      have ltk : l.take (dotI l).toNat = l1 := by rw [hd, e]; simp
      have ldr : l.drop (dotI l + 1).toNat = l2 := by
        have : (dotI l + 1).toNat = l1.length + 1 := by omega
        rw [this, e]; simp
      have hcb : cutB v s = true ↔ (0 < l1.length ∧ 0 < l2.length ∧ (v = 0 ∨ (l2.length : Int) ≤ 16)) := by
        simp only [cutB, hdr, hr2, Bool.and_eq_true, decide_eq_true_eq, Bool.or_eq_true, beq_iff_eq]
        constructor
        · rintro ⟨⟨a, b⟩, c⟩; exact ⟨p1.1 (by omega), p2.1 (by omega), c⟩
        · rintro ⟨a, b, c⟩; have := p1.2 a; have := p2.2 b; exact ⟨⟨by omega, by omega⟩, c⟩
      by_cases h5 : 0 < l1.length ∧ 0 < l2.length ∧ (v = 0 ∨ (l2.length : Int) ≤ 16)
      · have hP : partsC v l false = (l1, l2) := by
          rw [partsC, if_pos ⟨rfl, by omega, by omega, by rcases h5.2.2 with h | h; exact .inl h; exact .inr (by omega)⟩, ltk, ldr]
        have hC : cutS v s false = (runesB l1, runesB l2) := by
          rw [cutS, if_neg (by simp), if_pos (hcb.2 h5), htk, hdr]
        rw [hP, hC]
        exact ⟨hr1, hr2, runesB_nil⟩
      · have hcb' : ¬ cutB v s = true := fun h => h5 (hcb.1 h)
        have hP0 : ¬ (false = false ∧ 0 < dotI l ∧ dotI l < (l.length : Int) - 1 ∧ (v = 0 ∨ (l.length : Int) - 1 - dotI l ≤ 16)) := by
          rintro ⟨_, a, b, c⟩
          exact h5 ⟨by omega, by omega, by rcases c with c | c; exact .inl c; exact .inr (by omega)⟩
        by_cases h6 : v = 0 ∧ 0 < l1.length ∧ l2 = []
        · obtain ⟨hv, hl1, rfl⟩ := h6
          have hP : partsC v l false = (l1, []) := by
            rw [partsC, if_neg hP0, if_pos ⟨rfl, hv, by omega, by simp at hll; omega⟩, ltk]
          have hC : cutS v s false = (runesB l1, []) := by
            have := p1.2 hl1
            rw [cutS, if_neg (by simp), if_neg hcb', if_pos ⟨hv, by omega⟩]
            have : s = runesB l1 ++ [46] := by rw [h4]; rfl
            rw [this, suffix_dot]
          rw [hP, hC]
          exact ⟨hr1, h0, by simp⟩
        · have hP : partsC v l false = (l, []) := by
            rw [partsC, if_neg hP0, if_neg]
            rintro ⟨_, a, b, c⟩
            exact h6 ⟨a, by omega, List.eq_nil_of_length_eq_zero (by omega)⟩
          have hC : cutS v s false = (s, []) := by
            rw [cutS, if_neg (by simp), if_neg hcb']
            split
            · rename_i h7
              have : Lib.trimSuffix s [46] = s := no_suffix fun a ha => by
                by_cases hl2 : l2 = []
                · subst hl2
                  have hl1 : ¬ 0 < l1.length := fun h => h6 ⟨h7.1, h, rfl⟩
                  have : l1 = [] := List.eq_nil_of_length_eq_zero (by omega)
                  subst this
                  simp [runesB] at hsl
                  omega
                · have h8 : 0 < (runesB l2).length := p2.2 (List.length_pos_iff.2 hl2)
                  have : (runesB l2)[(runesB l2).length - 1]? = some 46 := by
                    have h9 : s[s.length - 1]? = some 46 := by rw [ha]; simp
                    rw [h4] at h9
                    simp only [List.length_append, List.length_cons] at h9
                    rw [List.getElem?_append_right (by omega)] at h9
                    have : (runesB l1).length + ((runesB l2).length + 1) - 1 - (runesB l1).length = (runesB l2).length - 1 + 1 := by omega
                    rw [this] at h9
                    simpa using h9
                  obtain ⟨l3, l4, e3, _⟩ := byte_dot l2 hc2 _ this
                  exact h2 (by rw [e3]; simp)
              rw [this]
            · rfl
          rw [hP, hC]
          exact ⟨hr, h0, by simp⟩
end Go.Tame.V
/- Contracts: the wanted name and the numbered name. By program (mk40.py, mk.py). -/
namespace Go.Tame.V
open Go Go.Proofs
variable {W0 : World}
set_option maxRecDepth 10000
set_option linter.unusedVariables false
set_option linter.unusedSimpArgs false

def mapC (v : Int) (r : Int) : Int := if v = 0 then isoC r else jolC r
def mostC (v : Int) : Nat := if v = 0 then 3 else 64
def wantS (v : Int) (s : List UInt8) (dir : Bool) : List Int × List Int :=
  ((runesI (cutS v s dir).1).map (mapC v), if (cutS v s dir).2 = [] then [] else 46 :: ((runesI (cutS v s dir).2).map (mapC v)).take (mostC v))
theorem mapC_ok (v r : Int) (h : isChar r = true) : DFun Tryz.prog W0 (bif v == 0 then 124 else 123) [.int .i32 r] (.int .i32 (mapC v r)) := by
  obtain ⟨h1, h2, h3⟩ := (isChar_iff r).1 h
  cases hv : (v == 0) with
  | true =>
    have : v = 0 := by simpa using hv
    rw [mapC, if_pos this]; exact F140 r (by omega) (by omega)
  | false =>
    have : ¬ v = 0 := by simpa using hv
    rw [mapC, if_neg this]; exact F139 r h
theorem parts_char {v : Int} {l : List Int} {dir : Bool} (h : ∀ r ∈ l, isChar r = true) : (∀ r ∈ (partsC v l dir).1, isChar r = true) ∧ ∀ r ∈ (partsC v l dir).2, isChar r = true := by
  unfold partsC
  split
  · exact ⟨fun r hr => h r (List.mem_of_mem_take hr), fun r hr => h r (List.mem_of_mem_drop hr)⟩
  · split
    · exact ⟨fun r hr => h r (List.mem_of_mem_take hr), fun r hr => by cases hr⟩
    · exact ⟨h, fun r hr => by cases hr⟩
theorem trim_len (s p : List UInt8) : (Lib.trimSuffix s p).length ≤ s.length := by
  unfold Lib.trimSuffix; split <;> simp
theorem cutS_len (v : Int) (s : List UInt8) (dir : Bool) : (cutS v s dir).1.length ≤ s.length ∧ (cutS v s dir).2.length ≤ s.length := by
  unfold cutS
  split
  · simp
  · split
    · simp; omega
    · split
      · have := trim_len s [46]; simp; omega
      · simp
def wantD (st ex : List Int) : D := .agg [.sl .none 1 (ints32 st), .sl .none 1 (ints32 ex)]

theorem F125 (v : Int) (s : List UInt8) (l : List Int) (dir : Bool) (hs : s.length < 1000000) (hc : charsP s = some l) : DFun Tryz.prog W0 79 [.int .i64 v, .str s, .bool dir] (wantD (wantS v s dir).1 (wantS v s dir).2) := by
  have hch := (chars_bytes s.length s l (Nat.le_refl _) hc).2
  obtain ⟨q1, q2, q3⟩ := cut_chars v hc dir
  have hpc := parts_char (v := v) (dir := dir) hch
  have hcl := cutS_len v s dir
  refine DFun.intro ti_ok Tryz.func79 rfl (by decide +kernel) Tryz.ntmps79 rfl fun Γ => ?_
  refine Tri.seq ?_
  refine Tri.region ti_ok ?_
  conv => whnf
  intro b6
  conv => whnf
  refine Tri.seq ?_
  refine Tri.region ti_ok ?_
  conv => whnf
  refine Tri.joinK (α := Unit) (fun x => [(0, .int .i64 v), (1, .str s), (2, .bool dir), (6, .box 6 b6 0), (7, .fn (.func (bif v == 0 then 124 else 123)) [] []), (8, .int .i64 (bif v == 0 then 3 else 64))]) (fun x => [(6, .box b6 [.nils, .nils])]) ?_ ?_
  · refine Tri.seq ?_
    refine Tri.region ti_ok ?_
    conv => whnf
    refine Tri.cond _ rfl (fun hc => ?_) (fun hc => ?_)
    · refine Tri.region ti_ok ?_
      conv => whnf
      exact ⟨(), [(6, 6)], ⟨.refl _, .refl _, .refl _, .refl _, DLe.of_eq (congrArg (fun z => D.fn (.func (bif z then 124 else 123)) [] []) hc.symm), DLe.of_eq (congrArg (fun z => D.int .i64 (bif z then 3 else 64)) hc.symm), trivial⟩, rfl, rfl, rfl, trivial⟩
    · refine Tri.skip ?_
      conv => whnf
      exact ⟨(), [(6, 6)], ⟨.refl _, .refl _, .refl _, .refl _, DLe.of_eq (congrArg (fun z => D.fn (.func (bif z then 124 else 123)) [] []) hc.symm), DLe.of_eq (congrArg (fun z => D.int .i64 (bif z then 3 else 64)) hc.symm), trivial⟩, rfl, rfl, rfl, trivial⟩
  · rintro ⟨⟩
    refine Tri.seq ?_
    refine Tri.region ti_ok ?_
    conv => whnf
    refine ⟨[.int .i64 v, .str s, .bool dir], _, fun _ => F141 v s dir (by omega), ⟨.refl _, .refl _, .refl _, trivial⟩, ?_⟩
    conv => whnf
    refine Tri.seq ?_
    refine Tri.region ti_ok ?_
    conv => whnf
    refine ⟨[.str (cutS v s dir).1, .fn (.func (bif v == 0 then 124 else 123)) [] []], _, fun _ => F142 (cutS v s dir).1 _ (mapC v) (by omega) (fun r hr => mapC_ok v r (hpc.1 r (by rw [← q1]; exact hr))), ⟨.refl _, .refl _, trivial⟩, ?_⟩
    conv => whnf
    intro b11
    conv => whnf
    refine ⟨rfl, ?_⟩
    conv => whnf
    refine Tri.seq ?_
    refine Tri.seq ?_
    refine Tri.region ti_ok ?_
    conv => whnf
    refine Tri.cond _ rfl (fun hc => ?_) (fun hc => ?_)
    · refine Tri.seq ?_
      refine Tri.region ti_ok ?_
      conv => whnf
      refine ⟨[.str (cutS v s dir).2, .fn (.func (bif v == 0 then 124 else 123)) [] []], _, fun _ => F142 (cutS v s dir).2 _ (mapC v) (by omega) (fun r hr => mapC_ok v r (hpc.2 r (by rw [← q2]; exact hr))), ⟨.refl _, .refl _, trivial⟩, ?_⟩
      conv => whnf
      have hrl := runesI_len (cutS v s dir).2
      generalize hX : (runesI (cutS v s dir).2).map (mapC v) = X
      have hXl : X.length ≤ 1000000 := by rw [← hX]; simp; omega
      have hm0 : (0 : Int) ≤ (bif v == 0 then 3 else 64) := by cases (v == 0) <;> simp
      refine Tri.region ti_ok ?_
      conv => whnf
      refine ⟨trivial, ?_⟩
      conv => whnf
      have hmin : (0 : Int) ≤ (if (bif v == 0 then (3 : Int) else 64) < ((ints32 X).length : Int) then (bif v == 0 then (3 : Int) else 64) else ((ints32 X).length : Int)) ∧ (if (bif v == 0 then (3 : Int) else 64) < ((ints32 X).length : Int) then (bif v == 0 then (3 : Int) else 64) else ((ints32 X).length : Int)) ≤ ((ints32 X).length : Int) := by split <;> omega
      have hmint : (X.take (mostC v)) = X.take (if (bif v == 0 then (3 : Int) else 64) < ((ints32 X).length : Int) then (bif v == 0 then (3 : Int) else 64) else ((ints32 X).length : Int)).toNat := by
        have e : ((bif v == 0 then (3 : Int) else 64)).toNat = mostC v := by
          unfold mostC
          cases hv : (v == 0) with
          | true => rw [if_pos (by simpa using hv)]; rfl
          | false => rw [if_neg (by simpa using hv)]; rfl
        split
        · rw [e]
        · rename_i hlt
          have : X.length ≤ mostC v := by rw [← e]; simp [ints32] at hlt; omega
          rw [List.take_of_length_le this, List.take_of_length_le (by simp [ints32])]
      refine ⟨fun _ => ⟨Int.le_refl _, hmin.1, hmin.2⟩, ?_⟩
      conv => whnf
      refine ⟨by show (_ + _) * 4 ≤ _; simp [ints32]; omega, by show _ + _ ≤ _; simp [ints32]; omega, (fun h => by cases h), fun w => ?_⟩
      conv => whnf
      refine ⟨rfl, ?_⟩
      conv => whnf
      refine Tri.seq ?_
      refine Tri.region ti_ok ?_
      conv => whnf
      refine ⟨rfl, ?_⟩
      conv => whnf
      refine ⟨rfl, ?_⟩
      conv => whnf
      refine Tri.ret ?_
      conv => whnf
      refine ⟨rfl, ?_⟩
      conv => whnf
      have hne : ¬ (cutS v s dir).2 = [] := by simpa using hc
      refine DLe.agg ?_
      refine ⟨.refl _, ⟨fun w' C' u h => ?_⟩, trivial⟩
      have h2 := (DLe.unown (t := .own 38 w)).le w' C' u h
      have e : ([D.int .i32 46] ++ (List.drop (Int.toNat 0) ((ints32 X).take (if (bif v == 0 then (3 : Int) else 64) < ((ints32 X).length : Int) then (bif v == 0 then (3 : Int) else 64) else ((ints32 X).length : Int)).toNat))) = ints32 (wantS v s dir).2 := by
        simp only [wantS]
        rw [if_neg hne, hX, hmint]
        simp [ints32]
      rw [← e]
      exact h2
    · refine Tri.skip ?_
      conv => whnf
      refine Tri.seq ?_
      refine Tri.region ti_ok ?_
      conv => whnf
      refine ⟨rfl, ?_⟩
      conv => whnf
      refine ⟨rfl, ?_⟩
      conv => whnf
      refine Tri.ret ?_
      conv => whnf
      refine ⟨rfl, ?_⟩
      conv => whnf
      have hne : (cutS v s dir).2 = [] := by simpa using hc
      have e : (wantS v s dir).2 = [] := by simp only [wantS]; rw [if_pos hne]
      refine DLe.agg ?_
      refine ⟨.refl _, ?_, trivial⟩
      rw [e]; exact DLe.nil

theorem digs_len : ∀ k, k < 100 → (Lib.decDigits k).length ≤ 2 := by
  intro k hk
  rw [Lib.decDigits]
  split
  · simp
  · rw [Lib.decDigits, dif_pos (by omega)]; simp
def sufI (k : Nat) : List Int := if 0 < k then runesI (Lib.decDigits k) else []
theorem sufI_len {k : Nat} (hk : k < 100) : (sufI k).length ≤ 2 := by
  unfold sufI; split
  · have := runesI_len (Lib.decDigits k); have := digs_len k hk; omega
  · simp
def roomI (v : Int) (ex : List Int) (k : Nat) : Int := bif v == 1 then 64 - (ex.length : Int) - ((sufI k).length : Int) else 8 - ((sufI k).length : Int)
/-- How many characters of the stem stay. -/
def stemN (v : Int) (st ex : List Int) (k : Nat) : Nat := (if (if roomI v ex k < (st.length : Int) then roomI v ex k else (st.length : Int)) > 0 then (if roomI v ex k < (st.length : Int) then roomI v ex k else (st.length : Int)) else 0).toNat
def numS (v : Int) (st ex : List Int) (k : Nat) : List UInt8 := runesB (st.take (stemN v st ex k) ++ sufI k ++ ex)

theorem F126 (v : Int) (st ex : List Int) (k : Nat) (hk : k < 100) (hst : st.length < 1000000) (hex : ex.length < 1000000) : DFun Tryz.prog W0 80 [wantD st ex, .int .i64 v, .int .i64 (k : Nat)] (.str (numS v st ex k)) := by
  have hsl := sufI_len hk
  refine DFun.intro ti_ok Tryz.func80 rfl (by decide +kernel) Tryz.ntmps80 rfl fun Γ => ?_
  refine Tri.seq ?_
  refine Tri.region ti_ok ?_
  conv => whnf
  intro b3
  conv => whnf
  refine Tri.seq ?_
  refine Tri.region ti_ok ?_
  conv => whnf
  refine ⟨trivial, ?_⟩
  conv => whnf
  refine Tri.joinK (α := Unit) (fun x => [(1, .int .i64 v), (3, .box 3 b3 0), (7, .sl .none 1 (ints32 (sufI k)))]) (fun x => [(3, .box b3 [.sl .none 1 (ints32 st), .sl .none 1 (ints32 ex)])]) ?_ ?_
  · refine Tri.seq ?_
    refine Tri.region ti_ok ?_
    conv => whnf
    refine Tri.cond _ rfl (fun hc => ?_) (fun hc => ?_)
    · refine Tri.region ti_ok ?_
      conv => whnf
      refine ⟨[.int .i64 (k : Nat)], _, fun _ => F143 k hk, ⟨.refl _, trivial⟩, ?_⟩
      conv => whnf
      refine ⟨by have := digs_len k hk; omega, ?_⟩
      conv => whnf
      have h0 : 0 < k := by simpa using hc
      exact ⟨(), [(3, 3)], ⟨.refl _, .refl _, DLe.of_eq (congrArg (D.sl .none 1) (by rw [sufI, if_pos h0]; rfl)), trivial⟩, rfl, rfl, rfl, trivial⟩
    · refine Tri.skip ?_
      conv => whnf
      have h0 : ¬ 0 < k := by simpa using hc
      exact ⟨(), [(3, 3)], ⟨.refl _, .refl _, ⟨fun w C u h => by rw [sufI, if_neg h0]; exact h.untag⟩, trivial⟩, rfl, rfl, rfl, trivial⟩
  · rintro ⟨⟩
    generalize hSk : sufI k = S at *
    refine Tri.seq ?_
    refine Tri.region ti_ok ?_
    conv => whnf
    refine .inl ⟨fun _ => by simp only [InR, ints32, List.length_map]; omega, ?_⟩
    conv => whnf
    refine Tri.joinK (α := Unit) (fun x => [(1, .int .i64 v), (3, .box 3 b3 0), (7, .sl .none 1 (ints32 S)), (8, .int .i64 (roomI v ex k))]) (fun x => [(3, .box b3 [.sl .none 1 (ints32 st), .sl .none 1 (ints32 ex)])]) ?_ ?_
    · refine Tri.seq ?_
      refine Tri.region ti_ok ?_
      conv => whnf
      refine Tri.cond _ rfl (fun hc => ?_) (fun hc => ?_)
      · refine Tri.region ti_ok ?_
        conv => whnf
        refine ⟨rfl, ?_⟩
        conv => whnf
        refine .inl ⟨fun _ => by simp only [InR, ints32, List.length_map]; omega, ?_⟩
        conv => whnf
        refine .inl ⟨fun _ => by simp only [InR, ints32, List.length_map]; omega, ?_⟩
        conv => whnf
        exact ⟨(), [(3, 3)], ⟨.refl _, .refl _, .refl _, DLe.of_eq (congrArg (D.int .i64) (by rw [roomI, hc, hSk]; simp [ints32])), trivial⟩, rfl, rfl, rfl, trivial⟩
      · refine Tri.skip ?_
        conv => whnf
        exact ⟨(), [(3, 3)], ⟨.refl _, .refl _, .refl _, DLe.of_eq (congrArg (D.int .i64) (by rw [roomI, hc, hSk]; simp [ints32])), trivial⟩, rfl, rfl, rfl, trivial⟩
    · rintro ⟨⟩
      refine Tri.seq ?_
      refine Tri.regionX ti_ok ?_
      conv => whnf
      refine ⟨trivial, ?_⟩
      conv => whnf
      refine .inl ?_
      conv => whnf
      refine ⟨rfl, ?_⟩
      conv => whnf
      refine .inl ?_
      conv => whnf
      refine ⟨rfl, ?_⟩
      conv => whnf
      have hle : (if roomI v ex k < ((ints32 st).length : Int) then roomI v ex k else ((ints32 st).length : Int)) ≤ ((ints32 st).length : Int) := by split <;> omega
      generalize hM : (if roomI v ex k < ((ints32 st).length : Int) then roomI v ex k else ((ints32 st).length : Int)) = M at *
      refine .inl ?_
      conv => whnf
      refine ⟨fun _ => ⟨Int.le_refl _, by split <;> omega, by split <;> omega⟩, ?_⟩
      conv => whnf
      refine .inl ?_
      conv => whnf
      refine ⟨by show (_ + _) * 4 ≤ _; simp [ints32]; omega, by show _ + _ ≤ _; simp [ints32]; omega, (fun h => by cases h), fun v9 => ?_⟩
      conv => whnf
      have hA : ([] ++ List.drop (Int.toNat 0) ((ints32 st).take (if M > 0 then M else 0).toNat)) = ints32 (st.take (stemN v st ex k)) := by
        have e : stemN v st ex k = (if M > 0 then M else 0).toNat := by
          rw [← hM]; simp only [stemN, ints32, List.length_map]
        rw [e]; simp [ints32]
      rw [List.map_nil, hA]
      have hAl : (st.take (stemN v st ex k)).length ≤ 1000000 := by simp; omega
      generalize hAA : st.take (stemN v st ex k) = A at *
      generalize hvv : v9 = v' at *
      refine Tri.seq ?_
      have hself : ∀ (x : Value × Value) (b2 b5 : Bool) (σ : DSt), σ.H = look ((3, .box b3 [.sl .none 1 (ints32 st), .sl .none 1 (ints32 ex)]) :: (bif b2 then (bif b5 then [(44, .own x.2 (A ++ S ++ ex).length 1 21)] else [(41, .own x.1 (A ++ S).length 1 21)]) else [(38, .own v' A.length 1 21)])) →
          SubH σ ((3, .box b3 [.sl .none 1 (ints32 st), .sl .none 1 (ints32 ex)]) :: (bif b2 then (bif b5 then [(44, .own x.2 (A ++ S ++ ex).length 1 21)] else [(41, .own x.1 (A ++ S).length 1 21)]) else [(38, .own v' A.length 1 21)])) := by
        intro x b2 b5 σ h
        cases b2 <;> cases b5 <;> exact ⟨by rw [h]; rfl, by rw [h]; rfl, trivial⟩
      have hown : ∀ (x : Value × Value) (b2 b5 : Bool), b2 = true → b5 = false → ∀ σ : DSt, σ.H 3 = some (.box b3 [.sl .none 1 (ints32 st), .sl .none 1 (ints32 ex)]) → σ.H 41 = some (.own x.1 (A ++ S).length 1 21) →
          SubH σ ((3, .box b3 [.sl .none 1 (ints32 st), .sl .none 1 (ints32 ex)]) :: (bif b2 then (bif b5 then [(44, .own x.2 (A ++ S ++ ex).length 1 21)] else [(41, .own x.1 (A ++ S).length 1 21)]) else [(38, .own v' A.length 1 21)])) := by
        intro x b2 b5 h2 h5 σ g1 g2
        subst h2 h5
        exact ⟨g1, g2, trivial⟩
      refine Tri.bitsI ti_ok mixed (α := Value × Value) (fun x f => [(3, .box 3 b3 0), (7, .sl .none 1 (ints32 S)), (9, .sl (.own 38 v') 1 (ints32 A)), (39, bif f 0 then .sl (.own 38 v') 1 (ints32 A) else .any), (40, bif f 1 then .sl .none 1 (ints32 S) else .any), (41, bif f 2 then .sl (.own 41 x.1) 1 (ints32 (A ++ S)) else .any), (42, bif f 3 then .box 3 b3 1 else .any), (43, bif f 4 then .sl .none 1 (ints32 ex) else .any), (44, bif f 5 then .sl (.own 44 x.2) 1 (ints32 (A ++ S ++ ex)) else .any), (45, bif f 6 then .str (runesB (A ++ S ++ ex)) else .any), (6, bif f 7 then .str (runesB (A ++ S ++ ex)) else .any)])
        (fun x f => (3, .box b3 [.sl .none 1 (ints32 st), .sl .none 1 (ints32 ex)]) :: (bif f 2 then (bif f 5 then [(44, .own x.2 (A ++ S ++ ex).length 1 21)] else [(41, .own x.1 (A ++ S).length 1 21)]) else [(38, .own v' A.length 1 21)])) (by decide +kernel) (v', v') ?_ ?_ ?_ ?_
      · exact ⟨.refl _, .refl _, .refl _, .any _, .any _, .any _, .any _, .any _, .any _, .any _, .any _, trivial⟩
      · exact ⟨rfl, congrArg (fun z => some (HObj.own v' z 1 21)) (by have := congrArg List.length hA; simpa [ints32] using this), trivial⟩
      · conv => whnf
        refine ⟨fun x f hI => ?_, ?_⟩
        · conv => whnf
          refine ⟨x, ⟨.refl _, .refl _, .refl _, .refl _, .refl _, .refl _, .refl _, .refl _, .refl _, .refl _, .refl _, trivial⟩, hself x _ _ _ rfl⟩
        refine ⟨fun x f hI => ?_, ?_⟩
        · conv => whnf
          refine ⟨x, ⟨.refl _, .refl _, .refl _, .refl _, .refl _, .refl _, .refl _, .refl _, .refl _, .refl _, .refl _, trivial⟩, hself x _ _ _ rfl⟩
        refine ⟨fun x f hI => ?_, ?_⟩
        · conv => whnf
          refine .inl ?_
          conv => whnf
          refine ⟨rfl, by simp [ints32], ?_⟩
          conv => whnf
          refine ⟨by show (_ + _) * 4 ≤ _; simp [ints32]; omega, by show _ + _ ≤ _; simp [ints32]; omega, (fun h => by cases h), fun w => ?_⟩
          refine ⟨(w, x.2), ⟨.refl _, .refl _, .refl _, .refl _, .refl _, DLe.of_eq (congrArg (D.sl _ 1) (by simp [ints32])), .refl _, .refl _, .refl _, .refl _, .refl _, trivial⟩, ?_⟩
          exact hown (w, x.2) _ _ rfl (hI.no 5 2 rfl rfl) _ rfl (congrArg (fun z => some (HObj.own w z 1 21)) (by simp [ints32]))
        refine ⟨fun x f hI => ?_, ?_⟩
        · conv => whnf
          refine ⟨x, ⟨.refl _, .refl _, .refl _, .refl _, .refl _, .refl _, .refl _, .refl _, .refl _, .refl _, .refl _, trivial⟩, hself x _ _ _ rfl⟩
        refine ⟨fun x f hI => ?_, ?_⟩
        · conv => whnf
          refine .inl ?_
          conv => whnf
          refine ⟨rfl, ?_⟩
          conv => whnf
          refine ⟨x, ⟨.refl _, .refl _, .refl _, .refl _, .refl _, .refl _, .refl _, .refl _, .refl _, .refl _, .refl _, trivial⟩, hself x _ _ _ rfl⟩
        refine ⟨fun x f hI => ?_, ?_⟩
        · conv => whnf
          refine .inl ?_
          conv => whnf
          refine ⟨rfl, by simp [ints32], ?_⟩
          conv => whnf
          refine ⟨by show (_ + _) * 4 ≤ _; simp [ints32]; omega, by show _ + _ ≤ _; simp [ints32]; omega, (fun h => by cases h), fun w => ?_⟩
          refine ⟨(x.1, w), ⟨.refl _, .refl _, .refl _, .refl _, .refl _, .refl _, .refl _, .refl _, DLe.of_eq (congrArg (D.sl _ 1) (by simp [ints32])), .refl _, .refl _, trivial⟩, ?_⟩
          exact ⟨rfl, congrArg (fun z => some (HObj.own w z 1 21)) (by simp [ints32, Nat.add_assoc]), trivial⟩
        refine ⟨fun x f hI => ?_, ?_⟩
        · conv => whnf
          refine .inl ?_
          conv => whnf
          refine ⟨A ++ S ++ ex, rfl, ?_⟩
          conv => whnf
          refine ⟨x, ⟨.refl _, .refl _, .refl _, .refl _, .refl _, .refl _, .refl _, .refl _, .refl _, .refl _, .refl _, trivial⟩, hself x _ _ _ rfl⟩
        refine ⟨fun x f hI => ?_, ?_⟩
        · conv => whnf
          refine ⟨x, ⟨.refl _, .refl _, .refl _, .refl _, .refl _, .refl _, .refl _, .refl _, .refl _, .refl _, .refl _, trivial⟩, hself x _ _ _ rfl⟩
        exact trivial
      · intro x f hf
        have e7 := hf 7 (by decide +kernel)
        refine Tri.ret ?_
        conv => whnf
        rw [e7]
        exact DLe.of_eq (congrArg D.str (by rw [numS, hSk, hAA]))
end Go.Tame.V
/- The names at the views 0 and 1: a free number below 100 is always there. No program's code. -/
namespace Go.Tame.V
open Go Go.Proofs
set_option maxRecDepth 10000
set_option linter.unusedVariables false
set_option linter.unusedSimpArgs false

theorem dig2 {k : Nat} (h1 : 10 ≤ k) (h2 : k < 100) : Lib.decDigits k = [UInt8.ofNat (48 + k / 10), UInt8.ofNat (48 + k % 10)] := by
  rw [Lib.decDigits, dif_neg (by omega), Lib.decDigits, dif_pos (by omega)]
  rfl
theorem charsP_ascii : ∀ (s : List UInt8), (∀ b ∈ s, 32 ≤ b.toNat ∧ b.toNat < 127) → charsP s = some (s.map fun b => (b.toNat : Int))
  | [], _ => rfl
  | b :: s, h => by
    have hb := h b List.mem_cons_self
    have ih := charsP_ascii s fun x hx => h x (List.mem_cons_of_mem _ hx)
    have := charsP_of ((b :: s).map fun b => (b.toNat : Int)) (by
      intro r hr
      obtain ⟨c, hc, rfl⟩ := List.mem_map.1 hr
      have := h c hc
      exact (isChar_iff _).2 ⟨by omega, by omega, by omega⟩)
    have e : ∀ l : List UInt8, (∀ b ∈ l, 32 ≤ b.toNat ∧ b.toNat < 127) → runesB (l.map fun b => (b.toNat : Int)) = l := by
      intro l
      induction l with
      | nil => intro _; rfl
      | cons c l ih =>
        intro hl
        have e : runesB ((c :: l).map fun b => (b.toNat : Int)) = (Utf8.encode (c.toNat : Int)).data.toList ++ runesB (l.map fun b => (b.toNat : Int)) := by simp [runesB]
        rw [e, ih fun x hx => hl x (List.mem_cons_of_mem _ hx)]
        have hc := hl c List.mem_cons_self
        have e1 : (Utf8.encode (c.toNat : Int)).data.toList = [UInt8.ofNat c.toNat] := by
          unfold Utf8.encode
          simp only [show Utf8.valid (c.toNat : Int) = true by simp [Utf8.valid]; omega, if_true, Int.toNat_natCast]; rw [if_pos (by omega)]
        rw [e1]; simp
    rw [e (b :: s) h] at this
    exact this
theorem dig2_rng {k : Nat} (h1 : 10 ≤ k) (h2 : k < 100) : ∀ b ∈ Lib.decDigits k, 32 ≤ b.toNat ∧ b.toNat < 127 := by
  rw [dig2 h1 h2]
  have hU : ∀ x : Nat, x < 256 → (UInt8.ofNat x).toNat = x := fun x hx => by rw [UInt8.toNat_ofNat']; omega
  intro b hb
  simp only [List.mem_cons, List.not_mem_nil, or_false] at hb
  rcases hb with rfl | rfl
  · rw [hU _ (by omega)]; omega
  · rw [hU _ (by omega)]; omega
theorem suf2 {k : Nat} (h1 : 10 ≤ k) (h2 : k < 100) : sufI k = [48 + ((k / 10 : Nat) : Int), 48 + ((k % 10 : Nat) : Int)] := by
  have hU : ∀ x : Nat, x < 256 → (UInt8.ofNat x).toNat = x := fun x hx => by rw [UInt8.toNat_ofNat']; omega
  rw [sufI, if_pos (by omega), runes_chars (charsP_ascii _ (dig2_rng h1 h2)), dig2 h1 h2]
  simp only [List.map_cons, List.map_nil]
  rw [hU _ (by omega), hU _ (by omega)]
  rfl
theorem suf2_char {k : Nat} (h1 : 10 ≤ k) (h2 : k < 100) : ∀ r ∈ sufI k, isChar r = true := by
  rw [suf2 h1 h2]
  intro r hr
  simp only [List.mem_cons, List.not_mem_nil, or_false] at hr
  rcases hr with rfl | rfl <;> exact (isChar_iff _).2 ⟨by omega, by omega, by omega⟩

theorem runesB_inj {a b : List Int} (ha : ∀ r ∈ a, isChar r = true) (hb : ∀ r ∈ b, isChar r = true) (h : runesB a = runesB b) : a = b := by
  have h1 := charsP_of a ha
  rw [h, charsP_of b hb] at h1
  exact (Option.some.inj h1).symm
theorem num_inj (v : Int) (st ex : List Int) {j k : Nat} (hj1 : 10 ≤ j) (hj2 : j < 100) (hk1 : 10 ≤ k) (hk2 : k < 100) (h : numS v st ex j = numS v st ex k) : j = k := by
  have hs : stemN v st ex j = stemN v st ex k := by simp only [stemN, roomI, suf2 hj1 hj2, suf2 hk1 hk2, List.length_cons, List.length_nil]
  simp only [numS, hs] at h
  rw [runesB_append, runesB_append, runesB_append, runesB_append] at h
  have h := List.append_cancel_left (List.append_cancel_right h)
  have := runesB_inj (suf2_char hj1 hj2) (suf2_char hk1 hk2) h
  rw [suf2 hj1 hj2, suf2 hk1 hk2] at this
  simp only [List.cons.injEq, and_true] at this
  omega

/-- The least number whose name is free. -/
def freshK (v : Int) (used : List (List UInt8)) (st ex : List Int) : Nat := ((List.range 100).find? fun k => decide (numS v st ex k ∉ used)).getD 0
theorem fresh_ok (v : Int) (used : List (List UInt8)) (st ex : List Int) (hu : used.length ≤ 64) :
    freshK v used st ex < 100 ∧ numS v st ex (freshK v used st ex) ∉ used ∧ ∀ j, j < freshK v used st ex → numS v st ex j ∈ used := by
  unfold freshK
  cases h : (List.range 100).find? fun k => decide (numS v st ex k ∉ used) with
  | none =>
    exfalso
    rw [List.find?_eq_none] at h
    have hn : (((List.range 90).map (fun i => i + 10)).map (numS v st ex)).Nodup := by
      rw [List.nodup_iff_pairwise_ne, List.pairwise_map, List.pairwise_map]
      refine List.Pairwise.imp_of_mem (R := (· ≠ ·)) ?_ (List.nodup_iff_pairwise_ne.1 List.nodup_range)
      intro a b ha hb hab he
      simp only [List.mem_range] at ha hb
      have := num_inj v st ex (by omega) (by omega) (by omega) (by omega) he
      omega
    have hsub : ((List.range 90).map (fun i => i + 10)).map (numS v st ex) ⊆ used := by
      intro x hx
      obtain ⟨y, hy, rfl⟩ := List.mem_map.1 hx
      obtain ⟨i, hi, rfl⟩ := List.mem_map.1 hy
      have := h (i + 10) (by simp at hi ⊢; omega)
      simpa using this
    have := hn.length_le_of_subset hsub
    simp at this; omega
  | some k =>
    obtain ⟨h1, h2, h3⟩ := List.find?_range_eq_some.1 h
    simp only [Option.getD_some]
    refine ⟨by simpa using h2, by simpa using h1, fun j hj => by simpa using h3 j hj⟩

def pickN (v : Int) (u : List (List UInt8)) (k : NV) : List UInt8 :=
  numS v (wantS v k.name (k.kind == 0)).1 (wantS v k.name (k.kind == 0)).2 (freshK v u (wantS v k.name (k.kind == 0)).1 (wantS v k.name (k.kind == 0)).2)
/-- The names in use after the children. The last one ahead. -/
def usedOf (v : Int) (ks : List NV) : List (List UInt8) := ks.foldl (fun u k => pickN v u k :: u) []
def namesA (v : Int) (ks : List NV) : List (List UInt8) := (usedOf v ks).reverse
theorem usedOf_snoc (v : Int) (ks : List NV) (k : NV) : usedOf v (ks ++ [k]) = pickN v (usedOf v ks) k :: usedOf v ks := by simp [usedOf]
theorem snoc_rec {α : Type} {p : List α → Prop} (h0 : p []) (h1 : ∀ l x, p l → p (l ++ [x])) : ∀ l, p l := by
  intro l
  have : ∀ r : List α, p r.reverse := by
    intro r
    induction r with
    | nil => exact h0
    | cons x r ih => rw [List.reverse_cons]; exact h1 _ _ ih
  have := this l.reverse
  rwa [List.reverse_reverse] at this
theorem usedOf_len (v : Int) (ks : List NV) : (usedOf v ks).length = ks.length := by
  refine snoc_rec (p := fun ks => (usedOf v ks).length = ks.length) rfl (fun l x ih => ?_) ks
  rw [usedOf_snoc]; simp [ih]
theorem pick_notin (v : Int) (u : List (List UInt8)) (k : NV) (hu : u.length ≤ 64) : pickN v u k ∉ u := (fresh_ok v u _ _ hu).2.1
theorem usedOf_nodup (v : Int) (ks : List NV) : ks.length ≤ 64 → (usedOf v ks).Nodup := by
  refine snoc_rec (p := fun ks => ks.length ≤ 64 → (usedOf v ks).Nodup) (fun _ => List.nodup_nil) (fun l x ih hl => ?_) ks
  simp only [List.length_append, List.length_cons, List.length_nil] at hl
  rw [usedOf_snoc, List.nodup_cons]
  exact ⟨pick_notin v _ x (by rw [usedOf_len]; omega), ih (by omega)⟩
theorem enc_len (r : Int) : (Utf8.encode r).data.toList.length ≤ 4 := by
  unfold Utf8.encode
  dsimp only
  generalize (if Utf8.valid r = true then r.toNat else Utf8.runeError) = c
  split
  · simp
  · split
    · simp
    · split <;> simp
theorem runesB_len : ∀ l : List Int, (runesB l).length ≤ 4 * l.length
  | [] => by simp [runesB]
  | r :: l => by
    have e : runesB (r :: l) = (Utf8.encode r).data.toList ++ runesB l := by simp [runesB]
    have := enc_len r; have := runesB_len l
    rw [e, List.length_append, List.length_cons]; omega
theorem most_le (v : Int) : mostC v ≤ 64 := by unfold mostC; split <;> omega
theorem numS_len {v : Int} {st ex : List Int} {k : Nat} (hk : k < 100) (hex : ex.length ≤ 65) : (numS v st ex k).length ≤ 1100 := by
  have h1 := runesB_len (st.take (stemN v st ex k) ++ sufI k ++ ex)
  have h2 := sufI_len hk
  have h3 : stemN v st ex k ≤ 64 := by
    have hr : roomI v ex k ≤ 64 := by unfold roomI; cases (v == 1) <;> simp only [cond_true, cond_false] <;> omega
    unfold stemN
    generalize roomI v ex k = R at *
    split <;> split <;> omega
  have h4 : (st.take (stemN v st ex k)).length ≤ 64 := by simp; omega
  have h5 : (st.take (stemN v st ex k) ++ sufI k ++ ex).length ≤ 131 := by
    rw [List.length_append, List.length_append]; omega
  show (runesB _).length ≤ _
  omega
theorem want_len (v : Int) (s : List UInt8) (d : Bool) : (wantS v s d).2.length ≤ 65 ∧ (wantS v s d).1.length ≤ s.length ∧ (wantS v s d).2.length ≤ s.length + 1 := by
  have h := cutS_len v s d
  have h1 := runesI_len (cutS v s d).1
  have h2 := runesI_len (cutS v s d).2
  have h3 := most_le v
  unfold wantS
  refine ⟨?_, by simp; omega, ?_⟩
  · dsimp only; split
    · simp
    · simp; omega
  · dsimp only; split
    · simp
    · simp; omega
theorem pick_len (v : Int) (u : List (List UInt8)) (k : NV) (hu : u.length ≤ 64) : (pickN v u k).length ≤ 1100 :=
  numS_len (fresh_ok v u _ _ hu).1 (want_len v _ _).1
theorem usedOf_short (v : Int) (ks : List NV) : ks.length ≤ 64 → ∀ m ∈ usedOf v ks, m.length ≤ 1100 := by
  refine snoc_rec (p := fun ks => ks.length ≤ 64 → ∀ m ∈ usedOf v ks, m.length ≤ 1100) (fun _ m hm => by cases hm) (fun l x ih hl => ?_) ks
  simp only [List.length_append, List.length_cons, List.length_nil] at hl
  rw [usedOf_snoc]
  intro m hm
  rcases List.mem_cons.1 hm with rfl | hm
  · exact pick_len v _ x (by rw [usedOf_len]; omega)
  · exact ih (by omega) m hm
theorem usedOf_take {v : Int} {ks : List NV} {t : Nat} (h : t < ks.length) : usedOf v (ks.take (t + 1)) = pickN v (usedOf v (ks.take t)) ks[t] :: usedOf v (ks.take t) := by
  rw [List.take_succ_eq_append_getElem h, usedOf_snoc]
theorem strs_setA {v : Int} {kids : List NV} {t : Nat} (h : t < kids.length) (z : D) : (strs (usedOf v (kids.take t)).reverse ++ List.replicate (kids.length - t) z).set t (.str (pickN v (usedOf v (kids.take t)) kids[t])) = strs (usedOf v (kids.take (t + 1))).reverse ++ List.replicate (kids.length - (t + 1)) z := by
  rw [usedOf_take h]
  have hl : (strs (usedOf v (kids.take t)).reverse).length = t := by simp [strs, usedOf_len]; omega
  rw [List.set_append_right _ _ (by omega), hl, Nat.sub_self, show kids.length - t = (kids.length - (t + 1)) + 1 by omega, List.replicate_succ]
  simp [strs]
end Go.Tame.V
/- Contracts: Names at the views that make names. By program (mk42.py, mk.py). -/
namespace Go.Tame.V
open Go Go.Proofs
variable {W0 : World}
set_option maxRecDepth 10000
set_option linter.unusedVariables false
set_option linter.unusedSimpArgs false

theorem F105a (hL : LibOk W0) (v : Int) (hv : v = 0 ∨ v = 1) (kids : List NV) (h64 : kids.length ≤ 64) (hok : ∀ k ∈ kids, nameOk k.name = true ∧ k.name.length < 1000000000) (hinc : inc kids) : DFun Tryz.prog W0 29 [.int .i64 v, .sl .none 12 (kids.map enc)] (.tup [.sl .none 1 (strs (namesA v kids)), .int .i64 0]) := by
  refine DFun.intro ti_ok Tryz.func29 rfl (by decide +kernel) Tryz.ntmps29 rfl fun Γ => ?_
  refine Tri.seq ?_
  refine Tri.region ti_ok ?_
  conv => whnf
  intro bk
  conv => whnf
  refine Tri.seq ?_
  refine Tri.seq ?_
  refine Tri.region ti_ok ?_
  conv => whnf
  refine ⟨[.int .i64 v], _, fun _ => F91 v, ⟨.refl _, trivial⟩, ?_⟩
  conv => whnf
  refine Tri.cond _ rfl (fun hc => ?_) (fun hc => ?_)
  · refine Tri.seq ?_
    refine Tri.region ti_ok ?_
    conv => whnf
    refine Tri.ret ?_
    conv => whnf
    exfalso
    have : viewOk v = true := by rcases hv with rfl | rfl <;> rfl
    rw [this] at hc; cases hc
  · refine Tri.skip ?_
    conv => whnf
    refine Tri.seq ?_
    refine Tri.seq ?_
    refine Tri.region ti_ok ?_
    conv => whnf
    refine ⟨rfl, ?_⟩
    conv => whnf
    refine Tri.cond _ rfl (fun hc => ?_) (fun hc => ?_)
    · refine Tri.seq ?_
      refine Tri.region ti_ok ?_
      conv => whnf
      refine Tri.ret ?_
      conv => whnf
      exfalso
      simp at hc; omega
    · refine Tri.skip ?_
      conv => whnf
      refine Tri.seq ?_
      refine Tri.regionX ti_ok ?_
      conv => whnf
      refine .inl ?_
      conv => whnf
      refine ⟨rfl, ?_⟩
      conv => whnf
      refine .inr (XOp.makeRow ti_ok (n := kids.length) (k1 := .i64) (k2 := .i64) (z := .int .i64 0) rfl rfl rfl rfl rfl ?_ ?_ (by show 8 * _ ≤ _; omega) (by omega) fun rv => ?_)
      · show D.int _ _ = _; simp
      · show D.int _ _ = _; simp
      conv => whnf
      refine Tri.seq ?_
      refine Tri.seq ?_
      refine Tri.region ti_ok ?_
      conv => whnf
      refine ⟨rfl, ?_⟩
      conv => whnf
      refine Tri.block ?_
      refine Tri.loopK (α := { i : Nat // i ≤ kids.length }) (fun x => [(0, .int .i64 v), (3, .box 3 bk 0), (6, .raw rv), (25, .sl .none 12 (kids.map enc)), (26, .int .i64 (kids.map enc).length), (27, .int .i64 x.1)])
        (fun x => [(24, .row rv (places x.1 ++ List.replicate (kids.length - x.1) (.int .i64 0)) 1 3), (3, .box bk [.sl .none 12 (kids.map enc)])]) (fun x => kids.length - x.1) ⟨0, by omega⟩ [(24, 24), (3, 3)]
        ⟨⟨.refl _, .refl _, .refl _, .refl _, .refl _, .refl _, trivial⟩, rfl, rfl, rfl, rfl, rfl, trivial⟩ ?_
      rintro ⟨i, hi⟩
      dsimp only
      refine Tri.seq ?_
      refine Tri.region ti_ok ?_
      conv => whnf
      refine Tri.seq ?_
      refine Tri.cond _ rfl (fun hc => ?_) (fun hc => ?_)
      · refine Tri.skip ?_
        conv => whnf
        have hia : i < kids.length := by simpa using hc
        have hpl : (places i).length = i := by simp [places]
        refine Tri.seq ?_
        refine Tri.block ?_
        refine Tri.seq ?_
        refine Tri.region ti_ok ?_
        conv => whnf
        refine ⟨fun _ => by simp; omega, ?_⟩
        conv => whnf
        refine ⟨encTop kids[i], fun _ => get_kids hia, ?_⟩
        conv => whnf
        intro b8
        conv => whnf
        refine ⟨rfl, ?_⟩
        conv => whnf
        refine Tri.seq ?_
        refine Tri.seq ?_
        refine Tri.region ti_ok ?_
        conv => whnf
        refine ⟨rfl, ?_⟩
        conv => whnf
        refine ⟨[.str kids[i].name], _, fun _ => F100 hL _ (hok _ (List.getElem_mem hia)).2, ⟨.refl _, trivial⟩, ?_⟩
        conv => whnf
        refine Tri.cond _ rfl (fun hc => ?_) (fun hc => ?_)
        · refine Tri.seq ?_
          refine Tri.region ti_ok ?_
          conv => whnf
          refine Tri.ret ?_
          conv => whnf
          exfalso
          rw [(hok _ (List.getElem_mem hia)).1] at hc; cases hc
        · refine Tri.skip ?_
          conv => whnf
          refine Tri.regionX ti_ok ?_
          conv => whnf
          refine .inr (XOp.rowIndex ti_ok 24 rfl rfl rfl rfl rfl rfl rfl (by omega) (by simp [hpl]; omega) ?_)
          conv => whnf
          conv => whnf
          refine .inr (XOp.rowStore ti_ok 24 (i := i) (by rw [Int.toNat_natCast]; rfl) rfl rfl rfl (by simp [hpl]; omega) rfl ?_)
          conv => whnf
          conv => whnf
          refine Tri.region ti_ok ?_
          conv => whnf
          refine .inl ⟨fun _ => by simp [InR]; omega, ?_⟩
          conv => whnf
          exact ⟨⟨i + 1, by omega⟩, [(24, 24), (3, 3)], by show _ - (i + 1) < _ - i; omega, ⟨.refl _, .refl _, .refl _, .refl _, .refl _, .refl _, trivial⟩, rfl, rfl, congrArg (fun z => some (HObj.row rv z 1 3)) (places_set hia _), rfl, rfl, trivial⟩
      · refine Tri.exit ?_
        conv => whnf
        refine Tri.seq ?_
        have hin : i = kids.length := by simp at hc; omega
        have hrow : places i ++ List.replicate (kids.length - i) (D.int .i64 0) = places kids.length := by subst hin; simp
        rw [hrow]
        refine Tri.regionX ti_ok ?_
        conv => whnf
        refine .inr (XOp.call rfl [.raw rv, .fn (.func 77) [] [.box 2000 bk 0]] [(2001, 24), (2000, 3)] (sort_places kids hinc (by omega) bk rv) rfl ⟨.refl _, DLe.fn trivial ⟨DLe.box, trivial⟩, trivial⟩ ?_)
        rintro d H' ⟨rfl, rfl⟩
        refine ⟨_, .refl _, ?_⟩
        conv => whnf
        refine Tri.forgetK [(6, .raw rv), (0, .int .i64 v), (3, .box 3 bk 0)] [(24, .row rv (places kids.length) 1 3), (3, .box bk [.sl .none 12 (kids.map enc)])] [(24, 24), (3, 3)] ⟨⟨.refl _, .refl _, .refl _, trivial⟩, rfl, rfl, rfl, rfl, rfl, trivial⟩ ?_
        refine Tri.commitSt 24 6 rfl ?_
        refine Tri.seq ?_
        refine Tri.regionX ti_ok ?_
        conv => whnf
        refine .inl ?_
        conv => whnf
        refine ⟨rfl, ?_⟩
        conv => whnf
        refine .inr (XOp.makeRow ti_ok (n := kids.length) (k1 := .i64) (k2 := .i64) (z := .str []) rfl rfl rfl rfl rfl ?_ ?_ (by show 16 * _ ≤ _; omega) (by omega) fun nv => ?_)
        · show D.int _ _ = _; simp
        · show D.int _ _ = _; simp
        conv => whnf
        refine .inr (XOp.makeMap fun mb => ?_)
        conv => whnf
        refine Tri.seq ?_
        refine Tri.seq ?_
        refine Tri.region ti_ok ?_
        conv => whnf
        refine Tri.block ?_
        refine Tri.loopK (α := { i : Nat // i ≤ kids.length }) (fun x => [(0, .int .i64 v), (3, .box 3 bk 0), (6, .sl .none 1 (places kids.length)), (48, .sl .none 1 (places kids.length)), (49, .int .i64 (places kids.length).length), (50, .int .i64 x.1), (9, .raw nv), (10, .raw (.map (some mb)))])
          (fun x => [(46, .row nv (strs (usedOf v (kids.take x.1)).reverse ++ List.replicate (kids.length - x.1) (.str [])) 1 9), (47, .set mb (usedOf v (kids.take x.1))), (3, .box bk [.sl .none 12 (kids.map enc)])]) (fun x => kids.length - x.1) ⟨0, by omega⟩ [(46, 46), (47, 47), (3, 3)]
          ⟨⟨.refl _, .refl _, .refl _, .refl _, .refl _, .refl _, .refl _, .refl _, trivial⟩, rfl, rfl, rfl, rfl, rfl, rfl, rfl, trivial⟩ ?_
        rintro ⟨t, ht⟩
        dsimp only
        refine Tri.seq ?_
        refine Tri.region ti_ok ?_
        conv => whnf
        refine Tri.seq ?_
        refine Tri.cond _ rfl (fun hc => ?_) (fun hc => ?_)
        · refine Tri.skip ?_
          conv => whnf
          have hta : t < kids.length := by simp [places] at hc; omega
          have hkd : ∀ j, j < kids.length → (kids.map enc)[j]? = some (encTop (kids.getD j default)) := fun j hj => by rw [get_kids hj]; simp [List.getD, hj]
          refine Tri.seq ?_
          refine Tri.block ?_
          refine Tri.seq ?_
          refine Tri.region ti_ok ?_
          conv => whnf
          refine ⟨fun _ => by simp [places]; omega, ?_⟩
          conv => whnf
          refine ⟨.int .i64 (t : Nat), fun _ => by simp [places, hta], ?_⟩
          conv => whnf
          refine Tri.seq ?_
          refine Tri.seq ?_
          refine Tri.draw ti_ok mixed (by kernel_rfl) ?_
          conv => whnf
          refine ⟨rfl, ?_⟩
          conv => whnf
          refine ⟨fun h => h, ?_⟩
          conv => whnf
          refine .inl ⟨fun h => by simp only [InR]; omega, ?_⟩
          conv => whnf
          refine ⟨fun h => h, ?_⟩
          conv => whnf
          refine ⟨fun h => h, ?_⟩
          conv => whnf
          refine ⟨fun h => by simp at h; simp [places]; omega, ?_⟩
          conv => whnf
          refine ⟨fun h => h, ?_⟩
          conv => whnf
          refine ⟨.int .i64 ((t - 1 : Nat) : Int), fun h => by rw [pred_toNat (by simpa using h)]; simp [places, show t - 1 < kids.length by omega], ?_⟩
          conv => whnf
          refine ⟨fun h => h, ?_⟩
          conv => whnf
          refine ⟨fun h => h, ?_⟩
          conv => whnf
          refine ⟨fun h => by simp; omega, ?_⟩
          conv => whnf
          refine ⟨fun h => h, ?_⟩
          conv => whnf
          refine ⟨fun h => h, ?_⟩
          conv => whnf
          refine ⟨encTop (kids.getD (t - 1) default), fun h => hkd (t - 1) (by omega), ?_⟩
          conv => whnf
          refine ⟨rfl, ?_⟩
          conv => whnf
          refine ⟨fun h => h, ?_⟩
          conv => whnf
          refine ⟨fun h => h, ?_⟩
          conv => whnf
          refine ⟨fun h => by simp; omega, ?_⟩
          conv => whnf
          refine ⟨fun h => h, ?_⟩
          conv => whnf
          refine ⟨fun h => h, ?_⟩
          conv => whnf
          refine ⟨encTop kids[t], fun h => get_kids hta, ?_⟩
          conv => whnf
          refine ⟨fun h => h, ?_⟩
          conv => whnf
          refine ⟨fun h => h, ?_⟩
          conv => whnf
          refine ⟨fun h0 h => by first | exact h | (rw [h]; rfl) | (rw [h0, h]; rfl), ?_⟩
          conv => whnf
          refine Tri.cond _ rfl (fun hc => ?_) (fun hc => ?_)
          · refine Tri.seq ?_
            refine Tri.region ti_ok ?_
            conv => whnf
            refine Tri.ret ?_
            conv => whnf
            exfalso
            cases h0 : decide ((0 : Int) < t) with
            | false => rw [h0] at hc; cases hc
            | true =>
              have ht0 : 0 < t := by simpa using h0
              have hne := bl_ne (inc_get hinc (show t - 1 < t by omega) hta)
              rw [h0] at hc
              have hc2 : ((kids.getD (t - 1) default).name == kids[t].name) = true := hc
              have : (kids.getD (t - 1) default).name = kids[t].name := by simpa using hc2
              apply hne
              rw [← this]; simp [List.getD, show t - 1 < kids.length by omega]
          · refine Tri.skip ?_
            conv => whnf
            refine Tri.seq ?_
            refine Tri.region ti_ok ?_
            conv => whnf
            refine ⟨rfl, ?_⟩
            conv => whnf
            refine ⟨fun _ => by simp; omega, ?_⟩
            conv => whnf
            refine ⟨encTop kids[t], fun _ => get_kids hta, ?_⟩
            conv => whnf
            refine Tri.seq ?_
            refine Tri.seq ?_
            refine Tri.region ti_ok ?_
            conv => whnf
            refine ⟨fun h => h, ?_⟩
            conv => whnf
            refine ⟨fun h0 h => by first | exact h | (rw [h]; rfl) | (rw [h0, h]; rfl), ?_⟩
            conv => whnf
            refine Tri.cond _ rfl (fun hc => ?_) (fun hc => ?_)
            · refine Tri.seq ?_
              have hnl := name_len (hok _ (List.getElem_mem hta)).1
              obtain ⟨l, hl, _, _, _, _⟩ := name_chars (hok _ (List.getElem_mem hta)).1
              have hcalled := F125 (W0 := W0) v kids[t].name l (kids[t].kind == 0) (by omega) hl
              have hwl := want_len v kids[t].name (kids[t].kind == 0)
              have hpk : pickN v (usedOf v (kids.take t)) kids[t] = numS v (wantS v kids[t].name (kids[t].kind == 0)).1 (wantS v kids[t].name (kids[t].kind == 0)).2 (freshK v (usedOf v (kids.take t)) (wantS v kids[t].name (kids[t].kind == 0)).1 (wantS v kids[t].name (kids[t].kind == 0)).2) := rfl
              have hus := usedOf_take (v := v) hta
              have hset := strs_setA (v := v) hta (.str [])
              have hfr := fresh_ok v (usedOf v (kids.take t)) (wantS v kids[t].name (kids[t].kind == 0)).1 (wantS v kids[t].name (kids[t].kind == 0)).2 (by rw [usedOf_len]; simp; omega)
              generalize (wantS v kids[t].name (kids[t].kind == 0)).1 = st at *
              generalize (wantS v kids[t].name (kids[t].kind == 0)).2 = ex at *
              have hUl : (usedOf v (kids.take t)).length = t := by rw [usedOf_len]; simp; omega
              generalize usedOf v (kids.take t) = U at *
              generalize hK : freshK v U st ex = K at *
              refine Tri.region ti_ok ?_
              conv => whnf
              refine ⟨rfl, ?_⟩
              conv => whnf
              refine ⟨fun _ => by simp; omega, ?_⟩
              conv => whnf
              refine ⟨encTop kids[t], fun _ => get_kids hta, ?_⟩
              conv => whnf
              refine ⟨[.int .i64 v, .str kids[t].name, .bool (kids[t].kind == 0)], _, fun _ => hcalled, ⟨.refl _, .refl _, .refl _, trivial⟩, ?_⟩
              conv => whnf
              intro b14
              conv => whnf
              refine ⟨rfl, ?_⟩
              conv => whnf
              refine Tri.seq ?_
              refine Tri.region ti_ok ?_
              conv => whnf
              refine ⟨rfl, ?_⟩
              conv => whnf
              refine ⟨[wantD st ex, .int .i64 v, .int .i64 (0 : Nat)], _, fun _ => F126 v st ex 0 (by omega) (by omega) (by omega), ⟨.refl _, .refl _, .refl _, trivial⟩, ?_⟩
              conv => whnf
              refine Tri.seq ?_
              refine Tri.region ti_ok ?_
              conv => whnf
              refine Tri.block ?_
              refine Tri.loopK (α := { j : Nat // j ≤ K }) (fun x => [(0, .int .i64 v), (3, .box 3 bk 0), (6, .sl .none 1 (places kids.length)), (48, .sl .none 1 (places kids.length)), (49, .int .i64 (places kids.length).length), (50, .int .i64 t), (9, .raw nv), (10, .raw (.map (some mb))), (12, .int .i64 t), (13, .str (numS v st ex x.1)), (14, .box 14 b14 0), (15, .int .i64 ((x.1 + 1 : Nat) : Int))])
                (fun x => [(46, .row nv (strs U.reverse ++ List.replicate (kids.length - t) (.str [])) 1 9), (47, .set mb U), (3, .box bk [.sl .none 12 (kids.map enc)]), (14, .box b14 [.sl .none 1 (ints32 st), .sl .none 1 (ints32 ex)])]) (fun x => K - x.1) ⟨0, by omega⟩ [(46, 46), (47, 47), (3, 3), (14, 14)]
                ⟨⟨.refl _, .refl _, .refl _, .refl _, .refl _, .refl _, .refl _, .refl _, .refl _, .refl _, .refl _, .refl _, trivial⟩, rfl, rfl, rfl, rfl, rfl, rfl, rfl, rfl, rfl, trivial⟩ ?_
              rintro ⟨j, hj⟩
              dsimp only
              refine Tri.seq ?_
              refine Tri.seq ?_
              refine Tri.regionX ti_ok ?_
              conv => whnf
              refine .inr (XOp.setLookup 47 (kt := 9) (et := 4) rfl rfl (fun w => rfl) rfl rfl rfl ?_)
              refine Tri.cond _ rfl (fun hc => ?_) (fun hc => ?_)
              · refine Tri.skip ?_
                conv => whnf
                refine Tri.seq ?_
                refine Tri.block ?_
                refine Tri.region ti_ok ?_
                have hjU : numS v st ex j ∈ U := of_decide_eq_true hc
                have hjK : j < K := by
                  rcases Nat.lt_or_ge j K with h | h
                  · exact h
                  · have : j = K := by omega
                    subst this; exact absurd hjU hfr.2.1
                conv => whnf
                refine ⟨rfl, ?_⟩
                conv => whnf
                refine ⟨[wantD st ex, .int .i64 v, .int .i64 ((j + 1 : Nat) : Int)], _, fun _ => F126 v st ex (j + 1) (by omega) (by omega) (by omega), ⟨.refl _, .refl _, .refl _, trivial⟩, ?_⟩
                conv => whnf
                refine Tri.region ti_ok ?_
                conv => whnf
                refine .inl ⟨fun _ => by simp only [InR]; omega, ?_⟩
                conv => whnf
                exact ⟨⟨j + 1, by omega⟩, [(46, 46), (47, 47), (3, 3), (14, 14)], by show K - (j + 1) < K - j; omega, ⟨.refl _, .refl _, .refl _, .refl _, .refl _, .refl _, .refl _, .refl _, .refl _, .refl _, .refl _, .refl _, trivial⟩, rfl, rfl, rfl, rfl, rfl, rfl, rfl, rfl, rfl, trivial⟩
              · refine Tri.exit ?_
                conv => whnf
                refine Tri.regionX ti_ok ?_
                have hjU : numS v st ex j ∉ U := of_decide_eq_false hc
                have hjK : j = K := by
                  rcases Nat.lt_or_ge j K with h | h
                  · exact absurd (hfr.2.2 j h) hjU
                  · omega
                subst hjK
                conv => whnf
                refine .inr (XOp.setUpdate 47 (kt := 9) (et := 4) rfl rfl rfl rfl rfl rfl ?_)
                conv => whnf
                refine .inr (XOp.rowIndex ti_ok 46 rfl rfl rfl rfl rfl rfl rfl (by omega) (by simp [strs, hUl]; omega) ?_)
                conv => whnf
                conv => whnf
                refine .inr (XOp.rowStore ti_ok 46 (i := t) (by rw [Int.toNat_natCast]; rfl) rfl rfl rfl (by simp [strs, hUl]; omega) rfl ?_)
                conv => whnf
                conv => whnf
                refine Tri.region ti_ok ?_
                conv => whnf
                refine .inl ⟨fun _ => by simp only [InR]; omega, ?_⟩
                conv => whnf
                exact ⟨⟨t + 1, by omega⟩, [(46, 46), (47, 47), (3, 3)], by show _ - (t + 1) < _ - t; omega, ⟨.refl _, .refl _, .refl _, .refl _, .refl _, .refl _, .refl _, .refl _, trivial⟩, rfl, rfl, congrArg (fun z => some (HObj.row nv z 1 9)) (by rw [← hpk]; exact hset), rfl,
                  congrArg (fun z => some (HObj.set mb z)) (by dsimp only; rw [hus, hpk]), rfl, rfl, trivial⟩
            · refine Tri.skip ?_
              conv => whnf
              exfalso
              rcases hv with rfl | rfl <;> cases hc
        · refine Tri.exit ?_
          conv => whnf
          have htn : t = kids.length := by simp [places] at hc; omega
          have hrow2 : strs (usedOf v (kids.take t)).reverse ++ List.replicate (kids.length - t) (D.str []) = strs (namesA v kids) := by
            subst htn; rw [List.take_of_length_le (Nat.le_refl _)]; simp [namesA]
          rw [hrow2]
          refine Tri.forgetK [(9, .raw nv)] [(46, .row nv (strs (namesA v kids)) 1 9)] [(46, 46)] ⟨⟨.refl _, trivial⟩, rfl, rfl, rfl, trivial⟩ ?_
          refine Tri.commitSt 46 9 rfl ?_
          refine Tri.seq ?_
          refine Tri.region ti_ok ?_
          conv => whnf
          refine Tri.ret ?_
          conv => whnf
          exact ⟨.refl _, .refl _, trivial⟩
theorem names01 (hL : LibOk W0) {v : Int} (hv : v = 0 ∨ v = 1) : NamesOk W0 v (namesA v) :=
  ⟨fun ks h64 hinc hok => ⟨F105a hL v hv ks h64 hok hinc, by simp [namesA, usedOf_len], by
    rw [namesA, List.nodup_iff_pairwise_ne, List.pairwise_reverse]; exact (List.nodup_iff_pairwise_ne.1 (usedOf_nodup v ks h64)).imp Ne.symm, fun m hm => usedOf_short v ks h64 m (List.mem_reverse.1 hm)⟩⟩
end Go.Tame.V
/- Contracts: the other way of names: characters. By program (mk.py). -/
namespace Go.Tame.V
open Go Go.Proofs
variable {W0 : World}
set_option maxRecDepth 10000
set_option linter.unusedVariables false
set_option linter.unusedSimpArgs false

theorem jolC_char {r : Int} (h : isChar r = true) : isChar (jolC r) = true := by
  unfold jolC; split
  · decide
  · exact h
theorem isoC_char {r : Int} (h : isChar r = true) : isChar (isoC r) = true := by
  obtain ⟨h1, h2, h3⟩ := (isChar_iff r).1 h
  unfold isoC; split
  · exact (isChar_iff _).2 ⟨by omega, by omega, by omega⟩
  · split
    · exact h
    · decide
theorem mapC_char {v r : Int} (h : isChar r = true) : isChar (mapC v r) = true := by
  unfold mapC; split
  · exact isoC_char h
  · exact jolC_char h
end Go.Tame.V
/- Contracts: the other way of names: text, first, decimal. By program (mk.py). -/
namespace Go.Tame.V
open Go Go.Proofs
variable {W0 : World}
set_option maxRecDepth 10000
set_option linter.unusedVariables false
set_option linter.unusedSimpArgs false

end Go.Tame.V
/- Contracts: the other way of names: parts, used. By program (mk.py). -/
namespace Go.Tame.V
open Go Go.Proofs
variable {W0 : World}
set_option maxRecDepth 10000
set_option linter.unusedVariables false
set_option linter.unusedSimpArgs false

end Go.Tame.V
/- Contracts: the other way of names: the candidate. By program (mk.py). -/
namespace Go.Tame.V
open Go Go.Proofs
variable {W0 : World}
set_option maxRecDepth 10000
set_option linter.unusedVariables false
set_option linter.unusedSimpArgs false

theorem runesB_cons (r : Int) (l : List Int) : runesB (r :: l) = (Utf8.encode r).data.toList ++ runesB l := by simp [runesB]
end Go.Tame.V
/- Contracts: the other way of names: the order. By program (mk.py). -/
namespace Go.Tame.V
open Go Go.Proofs
variable {W0 : World}
set_option maxRecDepth 10000
set_option linter.unusedVariables false
set_option linter.unusedSimpArgs false

theorem off (f : Nat → Bool) (k : Nat) (h : f k = false) : ∃ g : Nat → Bool, f = fun j => _root_.cond (Nat.beq j k) false (g j) :=
  ⟨f, funext fun j => by cases hb : Nat.beq j k with | false => rfl | true => rw [beq_true hb]; exact h⟩
theorem on (f : Nat → Bool) (k : Nat) (h : f k = true) : ∃ g : Nat → Bool, f = fun j => _root_.cond (Nat.beq j k) true (g j) :=
  ⟨f, funext fun j => by cases hb : Nat.beq j k with | false => rfl | true => rw [beq_true hb]; exact h⟩
end Go.Tame.V
/- Contracts: the other way of names: Names. By program (mk.py). -/
namespace Go.Tame.V
open Go Go.Proofs
variable {W0 : World}
set_option maxRecDepth 10000
set_option linter.unusedVariables false
set_option linter.unusedSimpArgs false

def pickG (v : Int) (u : List (List UInt8)) (k : NV) : List UInt8 := if v = 0 ∨ v = 1 then pickN v u k else k.name
/-- The names at any view, the last one ahead. -/
def usedG (v : Int) (ks : List NV) : List (List UInt8) := ks.foldl (fun u k => pickG v u k :: u) []
def namesG (v : Int) (ks : List NV) : List (List UInt8) := (usedG v ks).reverse
theorem usedG_snoc (v : Int) (ks : List NV) (k : NV) : usedG v (ks ++ [k]) = pickG v (usedG v ks) k :: usedG v ks := by simp [usedG]
theorem usedG_len (v : Int) (ks : List NV) : (usedG v ks).length = ks.length := by
  refine snoc_rec (p := fun ks => (usedG v ks).length = ks.length) rfl (fun l x ih => ?_) ks
  rw [usedG_snoc]; simp [ih]
theorem usedG_take {v : Int} {ks : List NV} {t : Nat} (h : t < ks.length) : usedG v (ks.take (t + 1)) = pickG v (usedG v (ks.take t)) ks[t] :: usedG v (ks.take t) := by
  rw [List.take_succ_eq_append_getElem h, usedG_snoc]
def cellsN (n : NV) : List D := [.str n.name, .int .i64 n.kind, .str n.text, .str n.target, .int .i64 n.n1, .int .i64 n.n2, .int .i64 n.n3, .int .i64 n.n4, .int .i64 n.n5, .int .i64 n.n6, .sl .none 12 (n.kids.map enc), .sl .none 2 (n.streams.map encS)]

end Go.Tame.V
/- Contracts: the other way of views: shown. By program (mk.py). -/
namespace Go.Tame.V
open Go Go.Proofs
variable {W0 : World}
set_option maxRecDepth 10000
set_option linter.unusedVariables false
set_option linter.unusedSimpArgs false

end Go.Tame.V
/- Contracts: the other way of views: one node. By program (mk50.py, mk.py). -/
namespace Go.Tame.V
open Go Go.Proofs
variable {W0 : World}
set_option maxRecDepth 10000
set_option linter.unusedVariables false
set_option linter.unusedSimpArgs false

end Go.Tame.V
/- Insertion, in the order of names. Plain. -/
namespace Go.Tame.V
open Go Go.Proofs
set_option maxRecDepth 10000
set_option linter.unusedVariables false
set_option linter.unusedSimpArgs false
variable {α : Type} (key : α → List UInt8)

end Go.Tame.V
/- The sorted tree. Plain. -/
namespace Go.Tame.V
open Go Go.Proofs
set_option maxRecDepth 10000
set_option linter.unusedVariables false

end Go.Tame.V
/- Contracts: the other way of trees: Sort. By program (mk53.py, mk.py). -/
namespace Go.Tame.V
open Go Go.Proofs
variable {W0 : World}
set_option maxRecDepth 10000
set_option linter.unusedVariables false
set_option linter.unusedSimpArgs false

end Go.Tame.V
/- Contracts: the other way of views: tree, View. By program (mk54.py, mk.py). -/
namespace Go.Tame.V
open Go Go.Proofs
variable {W0 : World}
set_option maxRecDepth 10000
set_option linter.unusedVariables false
set_option linter.unusedSimpArgs false

theorem namesG_len (v : Int) (ks : List NV) : (namesG v ks).length = ks.length := by simp [namesG, usedG_len]

end Go.Tame.V
/- Contracts: the other way of views: View, Check. By program (mk.py). -/
namespace Go.Tame.V
open Go Go.Proofs
variable {W0 : World}
set_option maxRecDepth 10000
set_option linter.unusedVariables false
set_option linter.unusedSimpArgs false

end Go.Tame.V
/- The names of every view; how large a shown tree is; a shown tree, shown again. Plain. -/
namespace Go.Tame.V
open Go Go.Proofs
variable {W0 : World}
set_option maxRecDepth 10000
set_option linter.unusedVariables false
set_option linter.unusedSimpArgs false

theorem namesG01 {v : Int} (hv : v = 0 ∨ v = 1) : namesG v = namesA v := by
  funext ks
  rw [namesG, namesA]
  congr 1
  refine snoc_rec (p := fun ks => usedG v ks = usedOf v ks) rfl (fun l x ih => ?_) ks
  rw [usedG_snoc, usedOf_snoc, ih, pickG, if_pos hv]
theorem namesG23 {v : Int} (hv : v = 2 ∨ v = 3) : namesG v = fun ks => ks.map NV.name := by
  funext ks
  rw [namesG]
  refine snoc_rec (p := fun ks => (usedG v ks).reverse = ks.map NV.name) rfl (fun l x ih => ?_) ks
  rw [usedG_snoc, pickG, if_neg (by omega), List.reverse_cons, ih]; simp
theorem view4 {v : Int} (h : viewOk v = true) : v = 0 ∨ v = 1 ∨ v = 2 ∨ v = 3 := by simp [viewOk] at h; omega
theorem namesGok (hL : LibOk W0) {v : Int} (h : viewOk v = true) : NamesOk W0 v (namesG v) := by
  rcases view4 h with h | h | h | h
  · rw [namesG01 (.inl h)]; exact names01 hL (.inl h)
  · rw [namesG01 (.inr h)]; exact names01 hL (.inr h)
  · rw [namesG23 (.inl h)]; exact names23 hL (.inl h)
  · rw [namesG23 (.inr h)]; exact names23 hL (.inr h)
end Go.Tame.V
/- naming.show, with a function that is called for each node. By program (mk63.py, mk.py). -/
namespace Go.Tame.V
open Go Go.Proofs
variable {W0 : World}
set_option maxRecDepth 10000
set_option linter.unusedVariables false
set_option linter.unusedSimpArgs false

section
variable {S : Type} (upd : List UInt8 → List UInt8 → S → S) (nm : List NV → List (List UInt8)) (v : Int)
mutual
/-- The state behind a node and what is below it: p is the path in the view, q that in the source. -/
def vis (d : Int) : NV → List UInt8 → List UInt8 → S → S
  | .mk _ _ _ _ _ _ _ _ _ _ ks _, p, q, s => visL d ks (nm ks) p q (upd p q s)
def visL (d : Int) : List NV → List (List UInt8) → List UInt8 → List UInt8 → S → S
  | k :: r, m :: ms, p, q, s => if shown v k (d + 1) then visL d r ms p q (vis (d + 1) k (joinQ p m (d == 1)) (joinQ q k.name (d == 1)) s) else visL d r ms p q s
  | _, _, _, _, s => s
end
theorem vis_eq (d : Int) (n : NV) (p q : List UInt8) (s : S) : vis upd nm v d n p q s = visL upd nm v d n.kids (nm n.kids) p q (upd p q s) := by cases n; simp only [vis]
theorem vis_named (d : Int) (n : NV) (m p q : List UInt8) (s : S) : vis upd nm v d (n.named m) p q s = vis upd nm v d n p q s := by rw [vis_eq, vis_eq]; rfl
theorem visL_nil (d : Int) (ms : List (List UInt8)) (p q : List UInt8) (s : S) : visL upd nm v d [] ms p q s = s := by simp only [visL]
end

end Go.Tame.V
/- naming.tree, with a function that is called for each node. By program (mk.py). -/
namespace Go.Tame.V
open Go Go.Proofs
variable {W0 : World}
set_option maxRecDepth 10000
set_option linter.unusedVariables false
set_option linter.unusedSimpArgs false

/-- The state behind a tree's view. -/
def visR {S : Type} (upd : List UInt8 → List UInt8 → S → S) (nm : List NV → List (List UInt8)) (v : Int) (n : NV) (s : S) : S :=
  if viewOk v = true ∧ valid n = true then vis upd nm v 1 n [] [] s else s
end Go.Tame.V
/- naming.show, with a function that is called for each node and keeps three objects. By program (mkn1.py, mk.py). -/
namespace Go.Tame.V
open Go Go.Proofs
variable {W0 : World}
set_option maxRecDepth 10000
set_option linter.unusedVariables false
set_option linter.unusedSimpArgs false

structure WS3 (S : Type) where
  o1 : S → HObj
  o2 : S → HObj
  o3 : S → HObj
def WS3.H {S : Type} (A : WS3 S) (s : S) : Heap := look [(2000, A.o1 s), (2001, A.o2 s), (2002, A.o3 s)]
/-- The function that is called for each node: by the paths there and here it changes the state. -/
def VisitOk3 {S : Type} (W0 : World) (A : WS3 S) (upd : List UInt8 → List UInt8 → S → S) (fid : Nat) (caps : List D) : Prop :=
  ∀ (n : NV) (p q : List UInt8) (s : S), DCall Tryz.prog W0 fid ([encQ n p q] ++ caps) (A.H s) fun r H' => r = .tup [] ∧ H' 2000 = some (A.o1 (upd p q s)) ∧ H' 2001 = some (A.o2 (upd p q s)) ∧ H' 2002 = some (A.o3 (upd p q s))
theorem F92x {S : Type} (A : WS3 S) (upd : List UInt8 → List UInt8 → S → S) (fid : Nat) (caps : List D) (hvisit : VisitOk3 W0 A upd fid caps) (nm : List NV → List (List UInt8)) (v : Int) (hnm : NamesOk W0 v nm) : ∀ (N : Nat) (n : NV), sz n < N → okT n → ∀ (p q : List UInt8) (d : Int) (s : S), 0 ≤ d → d + sz n < 1000000000 → p.length + 1200 * sz n < 1000000000 → q.length + sz n < 1000000000 → DCall Tryz.prog W0 112 [.int .i64 v, encQ n p q, .int .i64 d, .fn (.func fid) [] caps] (A.H s) fun r H' => r = encTop (showG nm v d n) ∧ H' 2000 = some (A.o1 (vis upd nm v d n p q s)) ∧ H' 2001 = some (A.o2 (vis upd nm v d n p q s)) ∧ H' 2002 = some (A.o3 (vis upd nm v d n p q s)) := by
  refine fun N => Nat.rec (fun n h => absurd h (Nat.not_lt_zero _)) (fun N ih n hN hok p q d s hd hd2 hp hq => ?_) N
  obtain ⟨h64, hsn, hinc, hokl⟩ := (okT_eq n).1 hok
  have hks : ∀ k ∈ n.kids, nameOk k.name = true ∧ k.name.length < 1000000000 := fun k hk => (okL_get hokl hk).1
  obtain ⟨hcall, hnl, hnd, hnb⟩ := hnm.call n.kids h64 hinc hks
  refine DCall.intro ti_ok Tryz.func112 rfl (by decide +kernel) Tryz.ntmps112 rfl fun Γ => ?_
  refine Tri.seq ?_
  refine Tri.region ti_ok ?_
  conv => whnf
  intro b5
  conv => whnf
  intro b8
  conv => whnf
  refine Tri.seq ?_
  refine Tri.region ti_ok ?_
  conv => whnf
  refine ⟨rfl, ?_⟩
  conv => whnf
  intro b9
  conv => whnf
  refine ⟨rfl, ?_⟩
  conv => whnf
  refine Tri.seq ?_
  refine Tri.region ti_ok ?_
  conv => whnf
  refine ⟨rfl, ?_⟩
  conv => whnf
  refine ⟨rfl, ?_⟩
  conv => whnf
  refine ⟨rfl, ?_⟩
  conv => whnf
  refine ⟨rfl, ?_⟩
  conv => whnf
  refine ⟨rfl, ?_⟩
  conv => whnf
  intro b10
  conv => whnf
  refine ⟨rfl, ?_⟩
  conv => whnf
  refine Tri.joinK (α := Unit) (fun x => [(0, .int .i64 v), (2, .int .i64 d), (3, .fn (.func fid) [] caps), (5, .box 5 b5 0), (8, .box 8 b8 0), (9, .box 9 b9 0), (10, .box 10 b10 0)]) (fun x => [(2000, A.o1 s), (2001, A.o2 s), (2002, A.o3 s), (5, .box b5 [.str n.name, .int .i64 n.kind, .str n.text, .str n.target, .int .i64 n.n1, .int .i64 n.n2, .int .i64 n.n3, .int .i64 n.n4, .int .i64 n.n5, .int .i64 n.n6, .sl .none 12 (n.kids.map enc), .sl .none 2 (n.streams.map encS), .str p, .str q]), (8, .box b8 [.str [], .int .i64 0, .str [], .str [], .int .i64 0, .int .i64 0, .int .i64 0, .int .i64 0, .int .i64 0, .int .i64 0, .nils, .nils]), (9, .box b9 [.str n.name, .int .i64 n.kind, .str n.text, .str n.target, .int .i64 n.n1, .int .i64 n.n2, .int .i64 n.n3, .int .i64 n.n4, .int .i64 n.n5, .int .i64 n.n6, .sl .none 12 (n.kids.map enc), .sl .none 2 (n.streams.map encS)]), (10, .box b10 [.str n.name, .int .i64 n.kind, .str n.text, .str n.target, .int .i64 (if keeps v then n.n1 else 0), .int .i64 (if keeps v then n.n2 else 0), .int .i64 (if keeps v then n.n3 else 0), .int .i64 n.n4, .int .i64 0, .int .i64 0, .nils, .nils])]) ?_ ?_
  · refine Tri.seq ?_
    refine Tri.region ti_ok ?_
    conv => whnf
    refine ⟨fun h => h, ?_⟩
    conv => whnf
    refine ⟨fun h0 h => by first | exact h | (rw [h]; rfl) | (rw [h0, h]; rfl), ?_⟩
    conv => whnf
    refine Tri.cond _ rfl (fun hc => ?_) (fun hc => ?_)
    · have hk : keeps v = true := by
        cases h1 : (v == 2) with
        | true => simp only [keeps, h1, Bool.true_or]
        | false =>
          rw [h1] at hc
          simpa [keeps, h1] using hc
      rw [hk]
      refine Tri.bits ti_ok mixed (fun f => [(0, .int .i64 v), (2, .int .i64 d), (3, .fn (.func fid) [] caps), (5, .box 5 b5 0), (8, .box 8 b8 0), (9, .box 9 b9 0), (10, .box 10 b10 0),
        (35, bif f 0 then .box 9 b9 4 else .any), (36, bif f 1 then .int .i64 n.n1 else .any), (37, bif f 2 then .box 9 b9 5 else .any), (38, bif f 3 then .int .i64 n.n2 else .any), (39, bif f 4 then .box 9 b9 6 else .any), (40, bif f 5 then .int .i64 n.n3 else .any), (41, bif f 6 then .box 10 b10 4 else .any), (42, bif f 8 then .box 10 b10 5 else .any), (43, bif f 10 then .box 10 b10 6 else .any)])
        (fun f => [(2000, A.o1 s), (2001, A.o2 s), (2002, A.o3 s), (5, .box b5 [.str n.name, .int .i64 n.kind, .str n.text, .str n.target, .int .i64 n.n1, .int .i64 n.n2, .int .i64 n.n3, .int .i64 n.n4, .int .i64 n.n5, .int .i64 n.n6, .sl .none 12 (n.kids.map enc), .sl .none 2 (n.streams.map encS), .str p, .str q]), (8, .box b8 [.str [], .int .i64 0, .str [], .str [], .int .i64 0, .int .i64 0, .int .i64 0, .int .i64 0, .int .i64 0, .int .i64 0, .nils, .nils]), (9, .box b9 [.str n.name, .int .i64 n.kind, .str n.text, .str n.target, .int .i64 n.n1, .int .i64 n.n2, .int .i64 n.n3, .int .i64 n.n4, .int .i64 n.n5, .int .i64 n.n6, .sl .none 12 (n.kids.map enc), .sl .none 2 (n.streams.map encS)]), (10, .box b10 [.str n.name, .int .i64 n.kind, .str n.text, .str n.target, bif f 7 then .int .i64 n.n1 else .int .i64 0, bif f 9 then .int .i64 n.n2 else .int .i64 0, bif f 11 then .int .i64 n.n3 else .int .i64 0, .int .i64 n.n4, .int .i64 0, .int .i64 0, .nils, .nils])]) (by decide +kernel) ?_ ?_ ?_ ?_
      · exact ⟨.refl _, .refl _, .refl _, .refl _, .refl _, .refl _, .refl _, .any _, .any _, .any _, .any _, .any _, .any _, .any _, .any _, .any _, trivial⟩
      · exact ⟨rfl, rfl, rfl, rfl, rfl, rfl, rfl, trivial⟩
      · conv => whnf
        refine ⟨fun f => ?_, ?_⟩
        · conv => whnf
          exact ⟨⟨.refl _, .refl _, .refl _, .refl _, .refl _, .refl _, .refl _, .refl _, .refl _, .refl _, .refl _, .refl _, .refl _, .refl _, .refl _, .refl _, trivial⟩, rfl, rfl, rfl, rfl, rfl, rfl, rfl, trivial⟩
        refine ⟨fun f => ?_, ?_⟩
        · conv => whnf
          refine ⟨rfl, ?_⟩
          conv => whnf
          exact ⟨⟨.refl _, .refl _, .refl _, .refl _, .refl _, .refl _, .refl _, .refl _, .refl _, .refl _, .refl _, .refl _, .refl _, .refl _, .refl _, .refl _, trivial⟩, rfl, rfl, rfl, rfl, rfl, rfl, rfl, trivial⟩
        refine ⟨fun f => ?_, ?_⟩
        · conv => whnf
          exact ⟨⟨.refl _, .refl _, .refl _, .refl _, .refl _, .refl _, .refl _, .refl _, .refl _, .refl _, .refl _, .refl _, .refl _, .refl _, .refl _, .refl _, trivial⟩, rfl, rfl, rfl, rfl, rfl, rfl, rfl, trivial⟩
        refine ⟨fun f => ?_, ?_⟩
        · conv => whnf
          refine ⟨rfl, ?_⟩
          conv => whnf
          exact ⟨⟨.refl _, .refl _, .refl _, .refl _, .refl _, .refl _, .refl _, .refl _, .refl _, .refl _, .refl _, .refl _, .refl _, .refl _, .refl _, .refl _, trivial⟩, rfl, rfl, rfl, rfl, rfl, rfl, rfl, trivial⟩
        refine ⟨fun f => ?_, ?_⟩
        · conv => whnf
          exact ⟨⟨.refl _, .refl _, .refl _, .refl _, .refl _, .refl _, .refl _, .refl _, .refl _, .refl _, .refl _, .refl _, .refl _, .refl _, .refl _, .refl _, trivial⟩, rfl, rfl, rfl, rfl, rfl, rfl, rfl, trivial⟩
        refine ⟨fun f => ?_, ?_⟩
        · conv => whnf
          refine ⟨rfl, ?_⟩
          conv => whnf
          exact ⟨⟨.refl _, .refl _, .refl _, .refl _, .refl _, .refl _, .refl _, .refl _, .refl _, .refl _, .refl _, .refl _, .refl _, .refl _, .refl _, .refl _, trivial⟩, rfl, rfl, rfl, rfl, rfl, rfl, rfl, trivial⟩
        refine ⟨fun f => ?_, ?_⟩
        · conv => whnf
          exact ⟨⟨.refl _, .refl _, .refl _, .refl _, .refl _, .refl _, .refl _, .refl _, .refl _, .refl _, .refl _, .refl _, .refl _, .refl _, .refl _, .refl _, trivial⟩, rfl, rfl, rfl, rfl, rfl, rfl, rfl, trivial⟩
        refine ⟨fun f => ?_, ?_⟩
        · conv => whnf
          refine ⟨rfl, ?_⟩
          conv => whnf
          exact ⟨⟨.refl _, .refl _, .refl _, .refl _, .refl _, .refl _, .refl _, .refl _, .refl _, .refl _, .refl _, .refl _, .refl _, .refl _, .refl _, .refl _, trivial⟩, rfl, rfl, rfl, rfl, rfl, rfl, rfl, trivial⟩
        refine ⟨fun f => ?_, ?_⟩
        · conv => whnf
          exact ⟨⟨.refl _, .refl _, .refl _, .refl _, .refl _, .refl _, .refl _, .refl _, .refl _, .refl _, .refl _, .refl _, .refl _, .refl _, .refl _, .refl _, trivial⟩, rfl, rfl, rfl, rfl, rfl, rfl, rfl, trivial⟩
        refine ⟨fun f => ?_, ?_⟩
        · conv => whnf
          refine ⟨rfl, ?_⟩
          conv => whnf
          exact ⟨⟨.refl _, .refl _, .refl _, .refl _, .refl _, .refl _, .refl _, .refl _, .refl _, .refl _, .refl _, .refl _, .refl _, .refl _, .refl _, .refl _, trivial⟩, rfl, rfl, rfl, rfl, rfl, rfl, rfl, trivial⟩
        refine ⟨fun f => ?_, ?_⟩
        · conv => whnf
          exact ⟨⟨.refl _, .refl _, .refl _, .refl _, .refl _, .refl _, .refl _, .refl _, .refl _, .refl _, .refl _, .refl _, .refl _, .refl _, .refl _, .refl _, trivial⟩, rfl, rfl, rfl, rfl, rfl, rfl, rfl, trivial⟩
        refine ⟨fun f => ?_, ?_⟩
        · conv => whnf
          refine ⟨rfl, ?_⟩
          conv => whnf
          exact ⟨⟨.refl _, .refl _, .refl _, .refl _, .refl _, .refl _, .refl _, .refl _, .refl _, .refl _, .refl _, .refl _, .refl _, .refl _, .refl _, .refl _, trivial⟩, rfl, rfl, rfl, rfl, rfl, rfl, rfl, trivial⟩
        exact trivial
      · intro f hf
        have e7 := hf 7 (by decide +kernel)
        have e9 := hf 9 (by decide +kernel)
        have e11 := hf 11 (by decide +kernel)
        refine ⟨(), [(2000, 2000), (2001, 2001), (2002, 2002), (5, 5), (8, 8), (9, 9), (10, 10)], ⟨.refl _, .refl _, .refl _, .refl _, .refl _, .refl _, .refl _, trivial⟩, rfl, rfl, rfl, rfl, rfl, rfl, rfl, rfl, rfl, rfl, rfl, rfl, rfl, rfl, ?_, trivial⟩
        show some (HObj.box b10 [.str n.name, .int .i64 n.kind, .str n.text, .str n.target, bif f 7 then .int .i64 n.n1 else .int .i64 0, bif f 9 then .int .i64 n.n2 else .int .i64 0, bif f 11 then .int .i64 n.n3 else .int .i64 0, .int .i64 n.n4, .int .i64 0, .int .i64 0, .nils, .nils]) = _
        rw [e7, e9, e11]; rfl
    · refine Tri.skip ?_
      conv => whnf
      have hk : keeps v = false := by
        cases h1 : (v == 2) with
        | true => rw [h1] at hc; cases hc
        | false =>
          rw [h1] at hc
          simpa [keeps, h1] using hc
      rw [hk]
      exact ⟨(), [(2000, 2000), (2001, 2001), (2002, 2002), (5, 5), (8, 8), (9, 9), (10, 10)], ⟨.refl _, .refl _, .refl _, .refl _, .refl _, .refl _, .refl _, trivial⟩, rfl, rfl, rfl, rfl, rfl, rfl, rfl, rfl, rfl, rfl, rfl, rfl, rfl, rfl, rfl, trivial⟩
  · rintro ⟨⟩
    refine Tri.joinK (α := { x : D // DLe x (.sl .none 2 ((if v = 3 then n.streams else []).map encS)) }) (fun x => [(0, .int .i64 v), (2, .int .i64 d), (3, .fn (.func fid) [] caps), (5, .box 5 b5 0), (8, .box 8 b8 0), (9, .box 9 b9 0), (10, .box 10 b10 0)]) (fun x => [(2000, A.o1 s), (2001, A.o2 s), (2002, A.o3 s), (5, .box b5 [.str n.name, .int .i64 n.kind, .str n.text, .str n.target, .int .i64 n.n1, .int .i64 n.n2, .int .i64 n.n3, .int .i64 n.n4, .int .i64 n.n5, .int .i64 n.n6, .sl .none 12 (n.kids.map enc), .sl .none 2 (n.streams.map encS), .str p, .str q]), (8, .box b8 [.str [], .int .i64 0, .str [], .str [], .int .i64 0, .int .i64 0, .int .i64 0, .int .i64 0, .int .i64 0, .int .i64 0, .nils, .nils]), (9, .box b9 [.str n.name, .int .i64 n.kind, .str n.text, .str n.target, .int .i64 n.n1, .int .i64 n.n2, .int .i64 n.n3, .int .i64 n.n4, .int .i64 n.n5, .int .i64 n.n6, .sl .none 12 (n.kids.map enc), .sl .none 2 (n.streams.map encS)]), (10, .box b10 [.str n.name, .int .i64 n.kind, .str n.text, .str n.target, .int .i64 (if keeps v then n.n1 else 0), .int .i64 (if keeps v then n.n2 else 0), .int .i64 (if keeps v then n.n3 else 0), .int .i64 n.n4, .int .i64 0, .int .i64 0, .nils, x.1])]) ?_ ?_
    · refine Tri.seq ?_
      refine Tri.region ti_ok ?_
      conv => whnf
      refine Tri.cond _ rfl (fun hc => ?_) (fun hc => ?_)
      · refine Tri.region ti_ok ?_
        conv => whnf
        refine ⟨rfl, ?_⟩
        conv => whnf
        refine ⟨[.sl .none 2 (n.streams.map encS)], _, fun _ => F104 n.streams hsn, ⟨.refl _, trivial⟩, ?_⟩
        conv => whnf
        refine ⟨rfl, ?_⟩
        conv => whnf
        have hv3 : v = 3 := by simpa using hc
        exact ⟨⟨.sl .none 2 (n.streams.map encS), by rw [if_pos hv3]; exact .refl _⟩, [(2000, 2000), (2001, 2001), (2002, 2002), (5, 5), (8, 8), (9, 9), (10, 10)], ⟨.refl _, .refl _, .refl _, .refl _, .refl _, .refl _, .refl _, trivial⟩, rfl, rfl, rfl, rfl, rfl, rfl, rfl, rfl, rfl, rfl, rfl, rfl, rfl, rfl, rfl, trivial⟩
      · refine Tri.skip ?_
        conv => whnf
        have hv3 : ¬ v = 3 := by simpa using hc
        exact ⟨⟨.nils, by rw [if_neg hv3]; exact .nil⟩, [(2000, 2000), (2001, 2001), (2002, 2002), (5, 5), (8, 8), (9, 9), (10, 10)], ⟨.refl _, .refl _, .refl _, .refl _, .refl _, .refl _, .refl _, trivial⟩, rfl, rfl, rfl, rfl, rfl, rfl, rfl, rfl, rfl, rfl, rfl, rfl, rfl, rfl, rfl, trivial⟩
    · rintro ⟨sd, hsd⟩
      refine Tri.boxLe 10 (cs' := [.str n.name, .int .i64 n.kind, .str n.text, .str n.target, .int .i64 (if keeps v then n.n1 else 0), .int .i64 (if keeps v then n.n2 else 0), .int .i64 (if keeps v then n.n3 else 0), .int .i64 n.n4, .int .i64 0, .int .i64 0, .nils, .sl .none 2 ((if v = 3 then n.streams else []).map encS)]) rfl ⟨.refl _, .refl _, .refl _, .refl _, .refl _, .refl _, .refl _, .refl _, .refl _, .refl _, .refl _, hsd, trivial⟩ ?_
      refine Tri.seq ?_
      refine Tri.regionX ti_ok ?_
      conv => whnf
      refine .inl ?_
      conv => whnf
      refine ⟨rfl, ?_⟩
      conv => whnf
      refine .inr (XOp.call rfl ([encQ n p q] ++ caps) [(2000, 2000), (2001, 2001), (2002, 2002)] (hvisit n p q s) rfl ⟨.refl _, LeL.refl _⟩ ?_)
      rintro d' H' ⟨rfl, e1, e2, e3⟩
      refine ⟨_, .refl _, ?_⟩
      conv => whnf
      refine Tri.forgetK [(0, .int .i64 v), (2, .int .i64 d), (3, .fn (.func fid) [] caps), (5, .box 5 b5 0), (8, .box 8 b8 0), (9, .box 9 b9 0), (10, .box 10 b10 0)] [(2000, A.o1 (upd p q s)), (2001, A.o2 (upd p q s)), (2002, A.o3 (upd p q s)), (5, .box b5 [.str n.name, .int .i64 n.kind, .str n.text, .str n.target, .int .i64 n.n1, .int .i64 n.n2, .int .i64 n.n3, .int .i64 n.n4, .int .i64 n.n5, .int .i64 n.n6, .sl .none 12 (n.kids.map enc), .sl .none 2 (n.streams.map encS), .str p, .str q]), (8, .box b8 [.str [], .int .i64 0, .str [], .str [], .int .i64 0, .int .i64 0, .int .i64 0, .int .i64 0, .int .i64 0, .int .i64 0, .nils, .nils]), (9, .box b9 [.str n.name, .int .i64 n.kind, .str n.text, .str n.target, .int .i64 n.n1, .int .i64 n.n2, .int .i64 n.n3, .int .i64 n.n4, .int .i64 n.n5, .int .i64 n.n6, .sl .none 12 (n.kids.map enc), .sl .none 2 (n.streams.map encS)]), (10, .box b10 [.str n.name, .int .i64 n.kind, .str n.text, .str n.target, .int .i64 (if keeps v then n.n1 else 0), .int .i64 (if keeps v then n.n2 else 0), .int .i64 (if keeps v then n.n3 else 0), .int .i64 n.n4, .int .i64 0, .int .i64 0, .nils, .sl .none 2 ((if v = 3 then n.streams else []).map encS)])] [(2000, 2000), (2001, 2001), (2002, 2002), (5, 5), (8, 8), (9, 9), (10, 10)] ⟨⟨.refl _, .refl _, .refl _, .refl _, .refl _, .refl _, .refl _, trivial⟩, rfl, rfl, e1, rfl, e2, rfl, e3, rfl, rfl, rfl, rfl, rfl, rfl, rfl, rfl, trivial⟩ ?_
      refine Tri.seq ?_
      refine Tri.region ti_ok ?_
      conv => whnf
      refine ⟨rfl, ?_⟩
      conv => whnf
      refine ⟨[.int .i64 v, .sl .none 12 (n.kids.map enc)], _, fun _ => hcall, ⟨.refl _, .refl _, trivial⟩, ?_⟩
      conv => whnf
      refine Tri.seq ?_
      refine Tri.seq ?_
      refine Tri.region ti_ok ?_
      conv => whnf
      refine ⟨rfl, ?_⟩
      conv => whnf
      refine Tri.block ?_
      refine Tri.boxLe 10 (cs' := [.str n.name, .int .i64 n.kind, .str n.text, .str n.target, .int .i64 (if keeps v then n.n1 else 0), .int .i64 (if keeps v then n.n2 else 0), .int .i64 (if keeps v then n.n3 else 0), .int .i64 n.n4, .int .i64 0, .int .i64 0, .raw (.slice none 0 0), .sl .none 2 ((if v = 3 then n.streams else []).map encS)]) rfl ⟨.refl _, .refl _, .refl _, .refl _, .refl _, .refl _, .refl _, .refl _, .refl _, .refl _, DLe.nilRaw, .refl _, trivial⟩ ?_
      refine Tri.rowNil 109 12 25 ?_
      refine Tri.loopK (α := { x : (Nat × S) × Value // x.1.1 ≤ n.kids.length ∧ visL upd nm v d n.kids (nm n.kids) p q (upd p q s) = visL upd nm v d (n.kids.drop x.1.1) ((nm n.kids).drop x.1.1) p q x.1.2 }) (fun x => [(0, .int .i64 v), (2, .int .i64 d), (3, .fn (.func fid) [] caps), (5, .box 5 b5 0), (8, .box 8 b8 0), (9, .box 9 b9 0), (10, .box 10 b10 0), (11, .sl .none 1 (strs (nm n.kids))), (61, .sl .none 12 (n.kids.map enc)), (62, .int .i64 (n.kids.map enc).length), (63, .int .i64 x.1.1.1)]) (fun x => [(2000, A.o1 x.1.1.2), (2001, A.o2 x.1.1.2), (2002, A.o3 x.1.1.2), (5, .box b5 [.str n.name, .int .i64 n.kind, .str n.text, .str n.target, .int .i64 n.n1, .int .i64 n.n2, .int .i64 n.n3, .int .i64 n.n4, .int .i64 n.n5, .int .i64 n.n6, .sl .none 12 (n.kids.map enc), .sl .none 2 (n.streams.map encS), .str p, .str q]), (8, .box b8 [.str [], .int .i64 0, .str [], .str [], .int .i64 0, .int .i64 0, .int .i64 0, .int .i64 0, .int .i64 0, .int .i64 0, .nils, .nils]), (9, .box b9 [.str n.name, .int .i64 n.kind, .str n.text, .str n.target, .int .i64 n.n1, .int .i64 n.n2, .int .i64 n.n3, .int .i64 n.n4, .int .i64 n.n5, .int .i64 n.n6, .sl .none 12 (n.kids.map enc), .sl .none 2 (n.streams.map encS)]), (10, .box b10 [.str n.name, .int .i64 n.kind, .str n.text, .str n.target, .int .i64 (if keeps v then n.n1 else 0), .int .i64 (if keeps v then n.n2 else 0), .int .i64 (if keeps v then n.n3 else 0), .int .i64 n.n4, .int .i64 0, .int .i64 0, .raw x.1.2, .sl .none 2 ((if v = 3 then n.streams else []).map encS)]), (109, .row x.1.2 ((showGL nm v (d + 1) (n.kids.take x.1.1.1) ((nm n.kids).take x.1.1.1)).map encTop) 12 25)]) (fun x => n.kids.length - x.1.1.1) ⟨((0, upd p q s), .slice none 0 0), Nat.zero_le _, rfl⟩ [(2000, 2000), (2001, 2001), (2002, 2002), (5, 5), (8, 8), (9, 9), (10, 10), (109, 109)]
        ⟨⟨.refl _, .refl _, .refl _, .refl _, .refl _, .refl _, .refl _, .refl _, .refl _, .refl _, .refl _, trivial⟩, rfl, rfl, rfl, rfl, rfl, rfl, rfl, rfl, rfl, rfl, rfl, rfl, rfl, rfl, rfl, rfl, congrArg (fun z => some (HObj.row (.slice none 0 0) z 12 25)) (by simp [showGL]), trivial⟩ ?_
      generalize hs0 : upd p q s = s0 at *
      generalize hs00 : s = s00 at *
      rintro ⟨⟨⟨i, s⟩, rv⟩, hi, hvis⟩
      dsimp only at hi hvis ⊢
      refine Tri.seq ?_
      refine Tri.region ti_ok ?_
      conv => whnf
      refine Tri.seq ?_
      refine Tri.cond _ rfl (fun hc => ?_) (fun hc => ?_)
      · refine Tri.skip ?_
        conv => whnf
        have hia : i < n.kids.length := by simpa using hc
        have hin : i < (nm n.kids).length := by omega
        have hkz := kid_sz hia
        have hdk : n.kids.drop i = n.kids[i] :: n.kids.drop (i + 1) := List.drop_eq_getElem_cons hia
        have hdn : (nm n.kids).drop i = (nm n.kids)[i] :: (nm n.kids).drop (i + 1) := List.drop_eq_getElem_cons hin
        have hmb := hnb _ (List.getElem_mem hin)
        have hj1 := joinQ_len p (nm n.kids)[i] (d == 1)
        have hj2 := joinQ_len q n.kids[i].name (d == 1)
        refine Tri.seq ?_
        refine Tri.block ?_
        refine Tri.seq ?_
        refine Tri.region ti_ok ?_
        conv => whnf
        refine ⟨fun _ => by simp; omega, ?_⟩
        conv => whnf
        refine ⟨encTop n.kids[i], fun _ => get_kid hia, ?_⟩
        conv => whnf
        intro b14
        conv => whnf
        refine ⟨rfl, ?_⟩
        conv => whnf
        refine Tri.seq ?_
        refine Tri.region ti_ok ?_
        conv => whnf
        refine ⟨rfl, ?_⟩
        conv => whnf
        refine ⟨fun h => h, ?_⟩
        conv => whnf
        refine .inl ⟨fun h => by simp only [InR]; omega, ?_⟩
        conv => whnf
        refine ⟨fun h => h, ?_⟩
        conv => whnf
        refine ⟨fun h => h, ?_⟩
        conv => whnf
        refine ⟨fun h => h, ?_⟩
        conv => whnf
        refine ⟨[.int .i64 v, encTop n.kids[i], .int .i64 (d + 1)], _, fun h => F106 v _ _, ⟨.refl _, .refl _, .refl _, trivial⟩, ?_⟩
        conv => whnf
        refine ⟨fun h0 h => by first | exact h | (rw [h]; rfl) | (rw [h0, h]; rfl), ?_⟩
        conv => whnf
        refine Tri.cond _ rfl (fun hc => ?_) (fun hc => ?_)
        · refine Tri.seq ?_
          have hs : shown v n.kids[i] (d + 1) = true := by
            cases h1 : decide ((i : Int) < ((strs (nm n.kids)).length : Int)) with
            | true => rw [h1] at hc; exact hc
            | false => rw [h1] at hc; cases hc
          refine Tri.region ti_ok ?_
          conv => whnf
          refine ⟨rfl, ?_⟩
          conv => whnf
          refine ⟨rfl, ?_⟩
          conv => whnf
          refine ⟨[.str q, .str n.kids[i].name, .bool (d == 1)], _, fun _ => F107 _ _ _ (by omega), ⟨.refl _, .refl _, .refl _, trivial⟩, ?_⟩
          conv => whnf
          refine Tri.seq ?_
          refine Tri.region ti_ok ?_
          conv => whnf
          refine ⟨fun _ => by simp [strs]; omega, ?_⟩
          conv => whnf
          refine ⟨.str (nm n.kids)[i], fun _ => by simp [strs, hin], ?_⟩
          conv => whnf
          refine ⟨rfl, ?_⟩
          conv => whnf
          generalize hX : (showGL nm v (d + 1) (n.kids.take i) ((nm n.kids).take i)).map encTop = X at *
          have hXl : X.length ≤ 64 := by rw [← hX, List.length_map]; have := showGL_len nm v (d + 1) (n.kids.take i) ((nm n.kids).take i); simp at this; omega
          have hXn : X ++ [encTop (showG nm v (d + 1) (n.kids[i].named (nm n.kids)[i]))] = (showGL nm v (d + 1) (n.kids.take (i + 1)) ((nm n.kids).take (i + 1))).map encTop := by rw [showGL_next nm v (d + 1) hia hin, if_pos hs, ← hX]; simp
          have hrec := ih (n.kids[i].named (nm n.kids)[i]) (by rw [sz_named]; omega) ((okT_named _ _).2 (okL_get hokl (List.getElem_mem hia)).2) (joinQ p (nm n.kids)[i] (d == 1)) (joinQ q n.kids[i].name (d == 1)) (d + 1) s (by omega) (by rw [sz_named]; omega) (by rw [sz_named]; omega) (by rw [sz_named]; omega)
          rw [vis_named] at hrec
          have hnext : visL upd nm v d (n.kids.drop i) ((nm n.kids).drop i) p q s = visL upd nm v d (n.kids.drop (i + 1)) ((nm n.kids).drop (i + 1)) p q (vis upd nm v (d + 1) n.kids[i] (joinQ p (nm n.kids)[i] (d == 1)) (joinQ q n.kids[i].name (d == 1)) s) := by rw [hdk, hdn, visL, if_pos hs]
          generalize showG nm v (d + 1) (n.kids[i].named (nm n.kids)[i]) = R at *
          generalize vis upd nm v (d + 1) n.kids[i] (joinQ p (nm n.kids)[i] (d == 1)) (joinQ q n.kids[i].name (d == 1)) s = s' at *
          generalize (nm n.kids)[i] = M at *
          generalize n.kids[i] = k at *
          refine Tri.bitsI ti_ok mixed (α := Option Addr × Nat × Nat) (fun x f => [(0, .int .i64 v), (2, .int .i64 d), (3, .fn (.func fid) [] caps), (5, .box 5 b5 0), (8, .box 8 b8 0), (9, .box 9 b9 0), (10, .box 10 b10 0), (11, .sl .none 1 (strs (nm n.kids))), (14, .box 14 b14 0), (15, .str (joinQ q k.name (d == 1))), (61, .sl .none 12 (n.kids.map enc)), (62, .int .i64 (n.kids.map enc).length), (63, .int .i64 i), (91, bif f 0 then .box 10 b10 10 else .any), (92, bif f 1 then .raw rv else .any), (93, bif f 2 then .int .i64 v else .any), (94, bif f 3 then encTop (k.named M) else .any), (95, bif f 4 then .box 5 b5 12 else .any), (96, bif f 5 then .str p else .any), (97, bif f 6 then .box 14 b14 0 else .any), (98, bif f 7 then .str M else .any), (99, bif f 8 then .int .i64 d else .any), (100, bif f 9 then .bool (d == 1) else .any), (101, bif f 10 then .str (joinQ p M (d == 1)) else .any), (102, bif f 11 then .str (joinQ q k.name (d == 1)) else .any), (103, bif f 12 then encQ (k.named M) (joinQ p M (d == 1)) (joinQ q k.name (d == 1)) else .any), (104, bif f 13 then .int .i64 d else .any), (105, bif f 14 then .int .i64 (d + 1) else .any), (106, bif f 15 then .fn (.func fid) [] caps else .any), (107, bif f 16 then encTop R else .any), (108, bif f 17 then .sl .full 12 [encTop R] else .any), (109, bif f 18 then .raw (.slice x.1 x.2.1 x.2.2) else .any), (110, bif f 19 then .box 10 b10 10 else .any)])
            (fun x f => [(2000, A.o1 (bif f 16 then s' else s)), (2001, A.o2 (bif f 16 then s' else s)), (2002, A.o3 (bif f 16 then s' else s)), (5, HObj.box b5 [.str n.name, .int .i64 n.kind, .str n.text, .str n.target, .int .i64 n.n1, .int .i64 n.n2, .int .i64 n.n3, .int .i64 n.n4, .int .i64 n.n5, .int .i64 n.n6, .sl .none 12 (n.kids.map enc), .sl .none 2 (n.streams.map encS), .str p, .str q]), (8, HObj.box b8 [.str [], .int .i64 0, .str [], .str [], .int .i64 0, .int .i64 0, .int .i64 0, .int .i64 0, .int .i64 0, .int .i64 0, .nils, .nils]), (9, HObj.box b9 [.str n.name, .int .i64 n.kind, .str n.text, .str n.target, .int .i64 n.n1, .int .i64 n.n2, .int .i64 n.n3, .int .i64 n.n4, .int .i64 n.n5, .int .i64 n.n6, .sl .none 12 (n.kids.map enc), .sl .none 2 (n.streams.map encS)]), (10, HObj.box b10 [.str n.name, .int .i64 n.kind, .str n.text, .str n.target, .int .i64 (if keeps v then n.n1 else 0), .int .i64 (if keeps v then n.n2 else 0), .int .i64 (if keeps v then n.n3 else 0), .int .i64 n.n4, .int .i64 0, .int .i64 0, .raw (bif f 20 then .slice x.1 x.2.1 x.2.2 else rv), .sl .none 2 ((if v = 3 then n.streams else []).map encS)]), (14, HObj.box b14 [.str M, .int .i64 k.kind, .str k.text, .str k.target, .int .i64 k.n1, .int .i64 k.n2, .int .i64 k.n3, .int .i64 k.n4, .int .i64 k.n5, .int .i64 k.n6, .sl .none 12 (k.kids.map enc), .sl .none 2 (k.streams.map encS)]), (109, bif f 18 then HObj.row (.slice x.1 x.2.1 x.2.2) (X ++ [encTop R]) 12 25 else HObj.row rv X 12 25)]) (by decide +kernel) (none, 0, 0) ?_ ?_ ?_ ?_
          · exact ⟨.refl _, .refl _, .refl _, .refl _, .refl _, .refl _, .refl _, .refl _, .refl _, .refl _, .refl _, .refl _, .refl _, .any _, .any _, .any _, .any _, .any _, .any _, .any _, .any _, .any _, .any _, .any _, .any _, .any _, .any _, .any _, .any _, .any _, .any _, .any _, .any _, trivial⟩
          · exact ⟨rfl, rfl, rfl, rfl, rfl, rfl, rfl, rfl, rfl, trivial⟩
          · conv => whnf
            refine ⟨fun x f hI => ?_, ?_⟩
            · obtain ⟨f, rfl⟩ := off f 20 (hI.no 20 0 rfl rfl)
              conv => whnf
              exact ⟨x, ⟨.refl _, .refl _, .refl _, .refl _, .refl _, .refl _, .refl _, .refl _, .refl _, .refl _, .refl _, .refl _, .refl _, .refl _, .refl _, .refl _, .refl _, .refl _, .refl _, .refl _, .refl _, .refl _, .refl _, .refl _, .refl _, .refl _, .refl _, .refl _, .refl _, .refl _, .refl _, .refl _, .refl _, trivial⟩, rfl, rfl, rfl, rfl, rfl, rfl, rfl, rfl, rfl, trivial⟩
            refine ⟨fun x f hI => ?_, ?_⟩
            · obtain ⟨f, rfl⟩ := off f 20 (hI.no 20 1 rfl rfl)
              conv => whnf
              refine .inl ?_
              conv => whnf
              refine ⟨rfl, ?_⟩
              conv => whnf
              exact ⟨x, ⟨.refl _, .refl _, .refl _, .refl _, .refl _, .refl _, .refl _, .refl _, .refl _, .refl _, .refl _, .refl _, .refl _, .refl _, .refl _, .refl _, .refl _, .refl _, .refl _, .refl _, .refl _, .refl _, .refl _, .refl _, .refl _, .refl _, .refl _, .refl _, .refl _, .refl _, .refl _, .refl _, .refl _, trivial⟩, rfl, rfl, rfl, rfl, rfl, rfl, rfl, rfl, rfl, trivial⟩
            refine ⟨fun x f hI => ?_, ?_⟩
            · obtain ⟨f, rfl⟩ := off f 20 (hI.no 20 2 rfl rfl)
              conv => whnf
              exact ⟨x, ⟨.refl _, .refl _, .refl _, .refl _, .refl _, .refl _, .refl _, .refl _, .refl _, .refl _, .refl _, .refl _, .refl _, .refl _, .refl _, .refl _, .refl _, .refl _, .refl _, .refl _, .refl _, .refl _, .refl _, .refl _, .refl _, .refl _, .refl _, .refl _, .refl _, .refl _, .refl _, .refl _, .refl _, trivial⟩, rfl, rfl, rfl, rfl, rfl, rfl, rfl, rfl, rfl, trivial⟩
            refine ⟨fun x f hI => ?_, ?_⟩
            · obtain ⟨f, rfl⟩ := off f 20 (hI.no 20 3 rfl rfl)
              conv => whnf
              refine .inl ?_
              conv => whnf
              refine ⟨rfl, ?_⟩
              conv => whnf
              exact ⟨x, ⟨.refl _, .refl _, .refl _, .refl _, .refl _, .refl _, .refl _, .refl _, .refl _, .refl _, .refl _, .refl _, .refl _, .refl _, .refl _, .refl _, .refl _, .refl _, .refl _, .refl _, .refl _, .refl _, .refl _, .refl _, .refl _, .refl _, .refl _, .refl _, .refl _, .refl _, .refl _, .refl _, .refl _, trivial⟩, rfl, rfl, rfl, rfl, rfl, rfl, rfl, rfl, rfl, trivial⟩
            refine ⟨fun x f hI => ?_, ?_⟩
            · obtain ⟨f, rfl⟩ := off f 20 (hI.no 20 4 rfl rfl)
              conv => whnf
              exact ⟨x, ⟨.refl _, .refl _, .refl _, .refl _, .refl _, .refl _, .refl _, .refl _, .refl _, .refl _, .refl _, .refl _, .refl _, .refl _, .refl _, .refl _, .refl _, .refl _, .refl _, .refl _, .refl _, .refl _, .refl _, .refl _, .refl _, .refl _, .refl _, .refl _, .refl _, .refl _, .refl _, .refl _, .refl _, trivial⟩, rfl, rfl, rfl, rfl, rfl, rfl, rfl, rfl, rfl, trivial⟩
            refine ⟨fun x f hI => ?_, ?_⟩
            · obtain ⟨f, rfl⟩ := off f 20 (hI.no 20 5 rfl rfl)
              conv => whnf
              refine .inl ?_
              conv => whnf
              refine ⟨rfl, ?_⟩
              conv => whnf
              exact ⟨x, ⟨.refl _, .refl _, .refl _, .refl _, .refl _, .refl _, .refl _, .refl _, .refl _, .refl _, .refl _, .refl _, .refl _, .refl _, .refl _, .refl _, .refl _, .refl _, .refl _, .refl _, .refl _, .refl _, .refl _, .refl _, .refl _, .refl _, .refl _, .refl _, .refl _, .refl _, .refl _, .refl _, .refl _, trivial⟩, rfl, rfl, rfl, rfl, rfl, rfl, rfl, rfl, rfl, trivial⟩
            refine ⟨fun x f hI => ?_, ?_⟩
            · obtain ⟨f, rfl⟩ := off f 20 (hI.no 20 6 rfl rfl)
              conv => whnf
              exact ⟨x, ⟨.refl _, .refl _, .refl _, .refl _, .refl _, .refl _, .refl _, .refl _, .refl _, .refl _, .refl _, .refl _, .refl _, .refl _, .refl _, .refl _, .refl _, .refl _, .refl _, .refl _, .refl _, .refl _, .refl _, .refl _, .refl _, .refl _, .refl _, .refl _, .refl _, .refl _, .refl _, .refl _, .refl _, trivial⟩, rfl, rfl, rfl, rfl, rfl, rfl, rfl, rfl, rfl, trivial⟩
            refine ⟨fun x f hI => ?_, ?_⟩
            · obtain ⟨f, rfl⟩ := off f 20 (hI.no 20 7 rfl rfl)
              conv => whnf
              refine .inl ?_
              conv => whnf
              refine ⟨rfl, ?_⟩
              conv => whnf
              exact ⟨x, ⟨.refl _, .refl _, .refl _, .refl _, .refl _, .refl _, .refl _, .refl _, .refl _, .refl _, .refl _, .refl _, .refl _, .refl _, .refl _, .refl _, .refl _, .refl _, .refl _, .refl _, .refl _, .refl _, .refl _, .refl _, .refl _, .refl _, .refl _, .refl _, .refl _, .refl _, .refl _, .refl _, .refl _, trivial⟩, rfl, rfl, rfl, rfl, rfl, rfl, rfl, rfl, rfl, trivial⟩
            refine ⟨fun x f hI => ?_, ?_⟩
            · obtain ⟨f, rfl⟩ := off f 20 (hI.no 20 8 rfl rfl)
              conv => whnf
              exact ⟨x, ⟨.refl _, .refl _, .refl _, .refl _, .refl _, .refl _, .refl _, .refl _, .refl _, .refl _, .refl _, .refl _, .refl _, .refl _, .refl _, .refl _, .refl _, .refl _, .refl _, .refl _, .refl _, .refl _, .refl _, .refl _, .refl _, .refl _, .refl _, .refl _, .refl _, .refl _, .refl _, .refl _, .refl _, trivial⟩, rfl, rfl, rfl, rfl, rfl, rfl, rfl, rfl, rfl, trivial⟩
            refine ⟨fun x f hI => ?_, ?_⟩
            · obtain ⟨f, rfl⟩ := off f 20 (hI.no 20 9 rfl rfl)
              conv => whnf
              exact ⟨x, ⟨.refl _, .refl _, .refl _, .refl _, .refl _, .refl _, .refl _, .refl _, .refl _, .refl _, .refl _, .refl _, .refl _, .refl _, .refl _, .refl _, .refl _, .refl _, .refl _, .refl _, .refl _, .refl _, .refl _, .refl _, .refl _, .refl _, .refl _, .refl _, .refl _, .refl _, .refl _, .refl _, .refl _, trivial⟩, rfl, rfl, rfl, rfl, rfl, rfl, rfl, rfl, rfl, trivial⟩
            refine ⟨fun x f hI => ?_, ?_⟩
            · obtain ⟨f, rfl⟩ := off f 20 (hI.no 20 10 rfl rfl)
              conv => whnf
              refine .inl ?_
              conv => whnf
              refine ⟨[.str p, .str M, .bool (d == 1)], _, fun _ => F107 _ _ _ (by omega), ⟨.refl _, .refl _, .refl _, trivial⟩, ?_⟩
              conv => whnf
              exact ⟨x, ⟨.refl _, .refl _, .refl _, .refl _, .refl _, .refl _, .refl _, .refl _, .refl _, .refl _, .refl _, .refl _, .refl _, .refl _, .refl _, .refl _, .refl _, .refl _, .refl _, .refl _, .refl _, .refl _, .refl _, .refl _, .refl _, .refl _, .refl _, .refl _, .refl _, .refl _, .refl _, .refl _, .refl _, trivial⟩, rfl, rfl, rfl, rfl, rfl, rfl, rfl, rfl, rfl, trivial⟩
            refine ⟨fun x f hI => ?_, ?_⟩
            · obtain ⟨f, rfl⟩ := off f 20 (hI.no 20 11 rfl rfl)
              conv => whnf
              exact ⟨x, ⟨.refl _, .refl _, .refl _, .refl _, .refl _, .refl _, .refl _, .refl _, .refl _, .refl _, .refl _, .refl _, .refl _, .refl _, .refl _, .refl _, .refl _, .refl _, .refl _, .refl _, .refl _, .refl _, .refl _, .refl _, .refl _, .refl _, .refl _, .refl _, .refl _, .refl _, .refl _, .refl _, .refl _, trivial⟩, rfl, rfl, rfl, rfl, rfl, rfl, rfl, rfl, rfl, trivial⟩
            refine ⟨fun x f hI => ?_, ?_⟩
            · obtain ⟨f, rfl⟩ := off f 20 (hI.no 20 12 rfl rfl)
              conv => whnf
              exact ⟨x, ⟨.refl _, .refl _, .refl _, .refl _, .refl _, .refl _, .refl _, .refl _, .refl _, .refl _, .refl _, .refl _, .refl _, .refl _, .refl _, .refl _, .refl _, .refl _, .refl _, .refl _, .refl _, .refl _, .refl _, .refl _, .refl _, .refl _, .refl _, .refl _, .refl _, .refl _, .refl _, .refl _, .refl _, trivial⟩, rfl, rfl, rfl, rfl, rfl, rfl, rfl, rfl, rfl, trivial⟩
            refine ⟨fun x f hI => ?_, ?_⟩
            · obtain ⟨f, rfl⟩ := off f 20 (hI.no 20 13 rfl rfl)
              conv => whnf
              exact ⟨x, ⟨.refl _, .refl _, .refl _, .refl _, .refl _, .refl _, .refl _, .refl _, .refl _, .refl _, .refl _, .refl _, .refl _, .refl _, .refl _, .refl _, .refl _, .refl _, .refl _, .refl _, .refl _, .refl _, .refl _, .refl _, .refl _, .refl _, .refl _, .refl _, .refl _, .refl _, .refl _, .refl _, .refl _, trivial⟩, rfl, rfl, rfl, rfl, rfl, rfl, rfl, rfl, rfl, trivial⟩
            refine ⟨fun x f hI => ?_, ?_⟩
            · obtain ⟨f, rfl⟩ := off f 20 (hI.no 20 14 rfl rfl)
              conv => whnf
              refine .inl ⟨fun _ => by simp only [InR]; omega, ?_⟩
              conv => whnf
              exact ⟨x, ⟨.refl _, .refl _, .refl _, .refl _, .refl _, .refl _, .refl _, .refl _, .refl _, .refl _, .refl _, .refl _, .refl _, .refl _, .refl _, .refl _, .refl _, .refl _, .refl _, .refl _, .refl _, .refl _, .refl _, .refl _, .refl _, .refl _, .refl _, .refl _, .refl _, .refl _, .refl _, .refl _, .refl _, trivial⟩, rfl, rfl, rfl, rfl, rfl, rfl, rfl, rfl, rfl, trivial⟩
            refine ⟨fun x f hI => ?_, ?_⟩
            · obtain ⟨f, rfl⟩ := off f 20 (hI.no 20 15 rfl rfl)
              conv => whnf
              exact ⟨x, ⟨.refl _, .refl _, .refl _, .refl _, .refl _, .refl _, .refl _, .refl _, .refl _, .refl _, .refl _, .refl _, .refl _, .refl _, .refl _, .refl _, .refl _, .refl _, .refl _, .refl _, .refl _, .refl _, .refl _, .refl _, .refl _, .refl _, .refl _, .refl _, .refl _, .refl _, .refl _, .refl _, .refl _, trivial⟩, rfl, rfl, rfl, rfl, rfl, rfl, rfl, rfl, rfl, trivial⟩
            refine ⟨fun x f hI => ?_, ?_⟩
            · obtain ⟨f, rfl⟩ := off f 20 (hI.no 20 16 rfl rfl)
              conv => whnf
              refine .inr (XOp.call rfl [.int .i64 v, encQ (k.named M) (joinQ p M (d == 1)) (joinQ q k.name (d == 1)), .int .i64 (d + 1), .fn (.func fid) [] caps] [(2000, 2000), (2001, 2001), (2002, 2002)] hrec rfl ⟨.refl _, .refl _, .refl _, .refl _, trivial⟩ ?_)
              rintro d' H' ⟨rfl, e1, e2, e3⟩
              exact ⟨_, .refl _, x, ⟨.refl _, .refl _, .refl _, .refl _, .refl _, .refl _, .refl _, .refl _, .refl _, .refl _, .refl _, .refl _, .refl _, .refl _, .refl _, .refl _, .refl _, .refl _, .refl _, .refl _, .refl _, .refl _, .refl _, .refl _, .refl _, .refl _, .refl _, .refl _, .refl _, .refl _, .refl _, .refl _, .refl _, trivial⟩, e1, e2, e3, rfl, rfl, rfl, rfl, rfl, rfl, trivial⟩
            refine ⟨fun x f hI => ?_, ?_⟩
            · obtain ⟨f, rfl⟩ := off f 20 (hI.no 20 17 rfl rfl)
              conv => whnf
              refine ⟨trivial, ?_⟩
              conv => whnf
              exact ⟨x, ⟨.refl _, .refl _, .refl _, .refl _, .refl _, .refl _, .refl _, .refl _, .refl _, .refl _, .refl _, .refl _, .refl _, .refl _, .refl _, .refl _, .refl _, .refl _, .refl _, .refl _, .refl _, .refl _, .refl _, .refl _, .refl _, .refl _, .refl _, .refl _, .refl _, .refl _, .refl _, .refl _, .refl _, trivial⟩, rfl, rfl, rfl, rfl, rfl, rfl, rfl, rfl, rfl, trivial⟩
            refine ⟨fun x f hI => ?_, ?_⟩
            · obtain ⟨f, rfl⟩ := off f 20 (hI.no 20 18 rfl rfl)
              conv => whnf
              refine .inr (XOp.rowAppend ti_ok 109 rfl rfl rfl (fun h => by cases h) rfl rfl rfl (Nat.zero_lt_one) ?_ ?_ fun aa mm cap => ?_)
              · show (_ + 1) * 152 ≤ _; first | omega | (simp; omega)
              · show _ + 1 ≤ _; first | omega | (simp; omega)
              refine ⟨(aa, mm, cap), ⟨.refl _, .refl _, .refl _, .refl _, .refl _, .refl _, .refl _, .refl _, .refl _, .refl _, .refl _, .refl _, .refl _, .refl _, .refl _, .refl _, .refl _, .refl _, .refl _, .refl _, .refl _, .refl _, .refl _, .refl _, .refl _, .refl _, .refl _, .refl _, .refl _, .refl _, .refl _, .refl _, .refl _, trivial⟩, rfl, rfl, rfl, rfl, rfl, rfl, rfl, rfl, ?_, trivial⟩
              exact congrArg (fun z => some (HObj.row (.slice aa mm cap) z 12 25)) (by simp)
            refine ⟨fun x f hI => ?_, ?_⟩
            · obtain ⟨f, rfl⟩ := off f 20 (hI.no 20 19 rfl rfl)
              conv => whnf
              exact ⟨x, ⟨.refl _, .refl _, .refl _, .refl _, .refl _, .refl _, .refl _, .refl _, .refl _, .refl _, .refl _, .refl _, .refl _, .refl _, .refl _, .refl _, .refl _, .refl _, .refl _, .refl _, .refl _, .refl _, .refl _, .refl _, .refl _, .refl _, .refl _, .refl _, .refl _, .refl _, .refl _, .refl _, .refl _, trivial⟩, rfl, rfl, rfl, rfl, rfl, rfl, rfl, rfl, rfl, trivial⟩
            refine ⟨fun x f hI => ?_, ?_⟩
            · conv => whnf
              refine .inl ?_
              conv => whnf
              refine ⟨rfl, ?_⟩
              conv => whnf
              exact ⟨x, ⟨.refl _, .refl _, .refl _, .refl _, .refl _, .refl _, .refl _, .refl _, .refl _, .refl _, .refl _, .refl _, .refl _, .refl _, .refl _, .refl _, .refl _, .refl _, .refl _, .refl _, .refl _, .refl _, .refl _, .refl _, .refl _, .refl _, .refl _, .refl _, .refl _, .refl _, .refl _, .refl _, .refl _, trivial⟩, rfl, rfl, rfl, rfl, rfl, rfl, rfl, rfl, rfl, trivial⟩
            exact trivial
          · intro x f hf
            obtain ⟨f, rfl⟩ := on f 16 (hf 16 (by decide +kernel))
            obtain ⟨f, rfl⟩ := on f 18 (hf 18 (by decide +kernel))
            obtain ⟨f, rfl⟩ := on f 20 (hf 20 (by decide +kernel))
            conv => whnf
            refine Tri.region ti_ok ?_
            conv => whnf
            refine .inl ⟨fun _ => by simp [InR]; omega, ?_⟩
            conv => whnf
            exact ⟨⟨((i + 1, s'), .slice x.1 x.2.1 x.2.2), hia, hvis.trans hnext⟩, [(2000, 2000), (2001, 2001), (2002, 2002), (5, 5), (8, 8), (9, 9), (10, 10), (109, 109)], by show _ - (i + 1) < _ - i; omega, ⟨.refl _, .refl _, .refl _, .refl _, .refl _, .refl _, .refl _, .refl _, .refl _, .refl _, .refl _, trivial⟩, rfl, rfl, rfl, rfl, rfl, rfl, rfl, rfl, rfl, rfl, rfl, rfl, rfl, rfl, rfl, rfl, congrArg (fun z => some (HObj.row (.slice x.1 x.2.1 x.2.2) z 12 25)) hXn, trivial⟩
        · have hs : shown v n.kids[i] (d + 1) = false := by
            have h1 : decide ((i : Int) < ((strs (nm n.kids)).length : Int)) = true := by simp [strs]; omega
            rw [h1] at hc; exact hc
          refine Tri.skip ?_
          conv => whnf
          refine Tri.region ti_ok ?_
          conv => whnf
          refine .inl ⟨fun _ => by simp [InR]; omega, ?_⟩
          conv => whnf
          exact ⟨⟨((i + 1, s), rv), hia, by rw [hvis, hdk, hdn, visL, if_neg (by rw [hs]; simp)]⟩, [(2000, 2000), (2001, 2001), (2002, 2002), (5, 5), (8, 8), (9, 9), (10, 10), (109, 109)], by show _ - (i + 1) < _ - i; omega, ⟨.refl _, .refl _, .refl _, .refl _, .refl _, .refl _, .refl _, .refl _, .refl _, .refl _, .refl _, trivial⟩, rfl, rfl, rfl, rfl, rfl, rfl, rfl, rfl, rfl, rfl, rfl, rfl, rfl, rfl, rfl, rfl, congrArg (fun z => some (HObj.row rv z 12 25)) (by rw [showGL_next nm v (d + 1) hia hin, hs]; simp), trivial⟩
      · refine Tri.exit ?_
        conv => whnf
        have hin : i = n.kids.length := by simp at hc; omega
        have hrow : (showGL nm v (d + 1) (n.kids.take i) ((nm n.kids).take i)).map encTop = (showGL nm v (d + 1) n.kids (nm n.kids)).map encTop := by
          subst hin; rw [List.take_length, List.take_of_length_le (by omega)]
        rw [hrow]
        have hlen := showGL_len nm v (d + 1) n.kids (nm n.kids)
        have hnodup : ((showGL nm v (d + 1) n.kids (nm n.kids)).map NV.name).Nodup := (showGL_names nm v (d + 1) n.kids (nm n.kids)).nodup hnd
        refine Tri.seq ?_
        refine Tri.regionX ti_ok ?_
        conv => whnf
        refine .inl ?_
        conv => whnf
        refine ⟨rfl, ?_⟩
        conv => whnf
        refine .inr (XOp.call rfl [.raw rv, .fn (.func 158) [] []] [(2001, 109)] (sort_names _ hnodup (by omega) rv) rfl ⟨.refl _, .refl _, trivial⟩ ?_)
        rintro d' H' ⟨rfl, rfl⟩
        refine ⟨_, .refl _, ?_⟩
        conv => whnf
        refine Tri.forgetK [(113, .raw rv), (8, .box 8 b8 0), (10, .box 10 b10 0)] [(109, .row rv ((sortN (showGL nm v (d + 1) n.kids (nm n.kids))).map encTop) 12 25), (8, .box b8 [.str [], .int .i64 0, .str [], .str [], .int .i64 0, .int .i64 0, .int .i64 0, .int .i64 0, .int .i64 0, .int .i64 0, .nils, .nils]), (10, .box b10 [.str n.name, .int .i64 n.kind, .str n.text, .str n.target, .int .i64 (if keeps v then n.n1 else 0), .int .i64 (if keeps v then n.n2 else 0), .int .i64 (if keeps v then n.n3 else 0), .int .i64 n.n4, .int .i64 0, .int .i64 0, .raw rv, .sl .none 2 ((if v = 3 then n.streams else []).map encS)]), (2000, A.o1 s), (2001, A.o2 s), (2002, A.o3 s)] [(109, 109), (8, 8), (10, 10), (2000, 2000), (2001, 2001), (2002, 2002)] ⟨⟨.refl _, .refl _, .refl _, trivial⟩, rfl, rfl, rfl, rfl, rfl, rfl, rfl, rfl, rfl, rfl, rfl, rfl, rfl, trivial⟩ ?_
        refine Tri.commitOwn 109 113 rfl ?_
        refine Tri.boxOf 10 113 (cs' := [.str n.name, .int .i64 n.kind, .str n.text, .str n.target, .int .i64 (if keeps v then n.n1 else 0), .int .i64 (if keeps v then n.n2 else 0), .int .i64 (if keeps v then n.n3 else 0), .int .i64 n.n4, .int .i64 0, .int .i64 0, .sl .none 12 ((sortN (showGL nm v (d + 1) n.kids (nm n.kids))).map encTop), .sl .none 2 ((if v = 3 then n.streams else []).map encS)]) rfl rfl (fun w C hr us h => RepL.cell (i := 10) h fun u hu => (h.raw_get (i := 10) rfl hu) ▸ hr) ?_
        refine Tri.seq ?_
        refine Tri.region ti_ok ?_
        conv => whnf
        refine ⟨rfl, ?_⟩
        conv => whnf
        refine ⟨rfl, ?_⟩
        conv => whnf
        refine Tri.ret ?_
        conv => whnf
        have hv0 : vis upd nm v d n p q s00 = s := by
          rw [vis_eq, hs0, hvis, List.drop_eq_nil_of_le (by omega), visL_nil]
        rw [hv0]
        refine ⟨encTop (showG nm v d n), ⟨rfl, ?_⟩, rfl, rfl, rfl, rfl⟩
        conv => whnf
        rw [showG_eq]
        refine DLe.agg ?_
        refine ⟨.refl _, .refl _, .refl _, .refl _, .refl _, .refl _, .refl _, .refl _, .refl _, .refl _, DLe.of_eq (congrArg (D.sl .none 12) ?_), DLe.refl _, trivial⟩
        exact List.map_congr_left fun k _ => (enc_eq k).symm
end Go.Tame.V
/- naming.tree, with a function that is called for each node. By program (mk.py). -/
namespace Go.Tame.V
open Go Go.Proofs
variable {W0 : World}
set_option maxRecDepth 10000
set_option linter.unusedVariables false
set_option linter.unusedSimpArgs false

theorem F65x {S : Type} (A : WS3 S) (upd : List UInt8 → List UInt8 → S → S) (fid : Nat) (caps : List D) (hvisit : VisitOk3 W0 A upd fid caps) (hL : LibOk W0) (nm : List NV → List (List UInt8)) (v : Int) (hnm : viewOk v = true → NamesOk W0 v nm) (n : NV) (hz : sz n + n.name.length < 10000000) (hv : valid n = true → sz n < 800000) (s : S) : DCall Tryz.prog W0 61 [.int .i64 v, encTop n, .fn (.func fid) [] caps] (A.H s) fun r H' => r = .tup [encTop (viewR nm v n).1, .int .i64 (viewR nm v n).2] ∧ H' 2000 = some (A.o1 (visR upd nm v n s)) ∧ H' 2001 = some (A.o2 (visR upd nm v n s)) ∧ H' 2002 = some (A.o3 (visR upd nm v n s)) := by
  refine DCall.intro ti_ok Tryz.func61 rfl (by decide +kernel) Tryz.ntmps61 rfl fun Γ => ?_
  refine Tri.seq ?_
  refine Tri.region ti_ok ?_
  conv => whnf
  intro b4
  conv => whnf
  intro b6
  conv => whnf
  refine Tri.seq ?_
  refine Tri.seq ?_
  refine Tri.region ti_ok ?_
  conv => whnf
  refine ⟨[.int .i64 v], _, fun _ => F91 v, ⟨.refl _, trivial⟩, ?_⟩
  conv => whnf
  refine Tri.cond _ rfl (fun hc => ?_) (fun hc => ?_)
  · refine Tri.seq ?_
    refine Tri.region ti_ok ?_
    conv => whnf
    refine ⟨rfl, ?_⟩
    conv => whnf
    refine Tri.ret ?_
    conv => whnf
    have h1 : viewOk v = false := by simpa using hc
    have h2 : viewR nm v n = (zeroN, 2) := by rw [viewR, if_pos h1]
    have h3 : visR upd nm v n s = s := by rw [visR, if_neg (by rw [h1]; simp)]
    rw [h2, h3]
    refine ⟨.tup [encTop zeroN, .int .i64 2], ?_, rfl, rfl, rfl, rfl⟩
    refine ⟨rfl, ?_⟩
    conv => whnf
    exact ⟨zeroD, .refl _, trivial⟩
  · refine Tri.skip ?_
    conv => whnf
    refine Tri.seq ?_
    refine Tri.seq ?_
    refine Tri.region ti_ok ?_
    conv => whnf
    refine ⟨rfl, ?_⟩
    conv => whnf
    refine ⟨[encTop n], _, fun _ => F39 hL n hz, ⟨.refl _, trivial⟩, ?_⟩
    conv => whnf
    refine Tri.cond _ rfl (fun hc => ?_) (fun hc => ?_)
    · refine Tri.seq ?_
      refine Tri.region ti_ok ?_
      conv => whnf
      refine ⟨rfl, ?_⟩
      conv => whnf
      refine Tri.ret ?_
      conv => whnf
      have h1 : ¬ viewOk v = false := by intro h; rename_i h0; rw [h] at h0; cases h0
      have h3 : valid n = false := by simpa using hc
      have h2 : viewR nm v n = (zeroN, 1) := by rw [viewR, if_neg h1, if_pos h3]
      have h4 : visR upd nm v n s = s := by rw [visR, if_neg (by rw [h3]; simp)]
      rw [h2, h4]
      refine ⟨.tup [encTop zeroN, .int .i64 1], ?_, rfl, rfl, rfl, rfl⟩
      refine ⟨rfl, ?_⟩
      conv => whnf
      exact ⟨zeroD, .refl _, trivial⟩
    · refine Tri.skip ?_
      conv => whnf
      refine Tri.seq ?_
      refine Tri.regionX ti_ok ?_
      conv => whnf
      refine .inl ?_
      conv => whnf
      refine ⟨rfl, ?_⟩
      conv => whnf
      have h1 : viewOk v = true := by rename_i h0; simpa using h0
      have h3 : valid n = true := by simpa using hc
      have h4 := hv h3
      refine .inr (XOp.call rfl [.int .i64 v, encQ n [] [], .int .i64 1, .fn (.func fid) [] caps] [(2000, 2000), (2001, 2001), (2002, 2002)] (F92x A upd fid caps hvisit nm v (hnm h1) _ n (Nat.lt_succ_self _) (valid_okT h3) [] [] 1 s (by omega) (by omega) (by simp only [List.length_nil]; omega) (by simp only [List.length_nil]; omega)) rfl ⟨.refl _, .refl _, .refl _, .refl _, trivial⟩ ?_)
      rintro d' H' ⟨rfl, e1, e2, e3⟩
      refine ⟨_, .refl _, ?_⟩
      conv => whnf
      refine .inl ?_
      conv => whnf
      refine ⟨rfl, ?_⟩
      conv => whnf
      refine Tri.ret ?_
      conv => whnf
      have h2 : viewR nm v n = (showG nm v 1 n, 0) := by rw [viewR, if_neg (by rw [h1]; simp), if_neg (by rw [h3]; simp)]
      have h5 : visR upd nm v n s = vis upd nm v 1 n [] [] s := by rw [visR, if_pos ⟨h1, h3⟩]
      rw [h2, h5]
      refine ⟨.tup [encTop (showG nm v 1 n), .int .i64 0], ?_, rfl, e1, e2, e3⟩
      refine ⟨rfl, ?_⟩
      conv => whnf
      exact ⟨.refl _, .refl _, trivial⟩
end Go.Tame.V
/- The functions that Path and Source call for each node. By program (mk.py). -/
namespace Go.Tame.V
open Go Go.Proofs
variable {W0 : World}
set_option maxRecDepth 10000
set_option linter.unusedVariables false
set_option linter.unusedSimpArgs false

/-- What Path and Source keep: what is looked for, what is found, the error's number. -/
def pathA (b1 b2 b3 : Nat) (x : List UInt8) : WS3 (List UInt8 × Int) := ⟨fun _ => .box b1 [.str x], fun s => .box b2 [.str s.1], fun s => .box b3 [.int .i64 s.2]⟩
def updP (x : List UInt8) (p q : List UInt8) (s : List UInt8 × Int) : List UInt8 × Int := if q == x then (p, 0) else s
def updS (x : List UInt8) (p q : List UInt8) (s : List UInt8 × Int) : List UInt8 × Int := if p == x then (q, 0) else s

theorem G65 (b1 b2 b3 : Nat) (x : List UInt8) (n : NV) (p q : List UInt8) (s : List UInt8 × Int) : DCall Tryz.prog W0 65 ([encQ n p q] ++ [.box 2000 b1 0, .box 2001 b2 0, .box 2002 b3 0]) ((pathA b1 b2 b3 x).H s) fun r H' => r = .tup [] ∧ H' 2000 = some ((pathA b1 b2 b3 x).o1 (updP x p q s)) ∧ H' 2001 = some ((pathA b1 b2 b3 x).o2 (updP x p q s)) ∧ H' 2002 = some ((pathA b1 b2 b3 x).o3 (updP x p q s)) := by
  refine DCall.intro ti_ok Tryz.func65 rfl (by decide +kernel) Tryz.ntmps65 rfl fun Γ => ?_
  refine Tri.seq ?_
  refine Tri.region ti_ok ?_
  conv => whnf
  intro b4
  conv => whnf
  refine Tri.seq ?_
  refine Tri.region ti_ok ?_
  conv => whnf
  refine ⟨rfl, ?_⟩
  conv => whnf
  refine ⟨rfl, ?_⟩
  conv => whnf
  refine Tri.cond _ rfl (fun hc => ?_) (fun hc => ?_)
  · refine Tri.region ti_ok ?_
    conv => whnf
    refine ⟨rfl, ?_⟩
    conv => whnf
    refine ⟨rfl, ?_⟩
    conv => whnf
    refine ⟨rfl, ?_⟩
    conv => whnf
    have hu : updP x p q s = (p, 0) := by rw [updP, if_pos hc]
    rw [hu]
    exact ⟨.tup [], trivial, rfl, rfl, rfl, rfl⟩
  · refine Tri.skip ?_
    conv => whnf
    have hu : updP x p q s = s := by rw [updP, if_neg (by rw [hc]; simp)]
    rw [hu]
    exact ⟨.tup [], trivial, rfl, rfl, rfl, rfl⟩
theorem G68 (b1 b2 b3 : Nat) (x : List UInt8) (n : NV) (p q : List UInt8) (s : List UInt8 × Int) : DCall Tryz.prog W0 68 ([encQ n p q] ++ [.box 2000 b1 0, .box 2001 b2 0, .box 2002 b3 0]) ((pathA b1 b2 b3 x).H s) fun r H' => r = .tup [] ∧ H' 2000 = some ((pathA b1 b2 b3 x).o1 (updS x p q s)) ∧ H' 2001 = some ((pathA b1 b2 b3 x).o2 (updS x p q s)) ∧ H' 2002 = some ((pathA b1 b2 b3 x).o3 (updS x p q s)) := by
  refine DCall.intro ti_ok Tryz.func68 rfl (by decide +kernel) Tryz.ntmps68 rfl fun Γ => ?_
  refine Tri.seq ?_
  refine Tri.region ti_ok ?_
  conv => whnf
  intro b4
  conv => whnf
  refine Tri.seq ?_
  refine Tri.region ti_ok ?_
  conv => whnf
  refine ⟨rfl, ?_⟩
  conv => whnf
  refine ⟨rfl, ?_⟩
  conv => whnf
  refine Tri.cond _ rfl (fun hc => ?_) (fun hc => ?_)
  · refine Tri.region ti_ok ?_
    conv => whnf
    refine ⟨rfl, ?_⟩
    conv => whnf
    refine ⟨rfl, ?_⟩
    conv => whnf
    refine ⟨rfl, ?_⟩
    conv => whnf
    have hu : updS x p q s = (q, 0) := by rw [updS, if_pos hc]
    rw [hu]
    exact ⟨.tup [], trivial, rfl, rfl, rfl, rfl⟩
  · refine Tri.skip ?_
    conv => whnf
    have hu : updS x p q s = s := by rw [updS, if_neg (by rw [hc]; simp)]
    rw [hu]
    exact ⟨.tup [], trivial, rfl, rfl, rfl, rfl⟩
theorem visitP (b1 b2 b3 : Nat) (x : List UInt8) : VisitOk3 W0 (pathA b1 b2 b3 x) (updP x) 65 [.box 2000 b1 0, .box 2001 b2 0, .box 2002 b3 0] := fun n p q s => G65 b1 b2 b3 x n p q s
theorem visitS (b1 b2 b3 : Nat) (x : List UInt8) : VisitOk3 W0 (pathA b1 b2 b3 x) (updS x) 68 [.box 2000 b1 0, .box 2001 b2 0, .box 2002 b3 0] := fun n p q s => G68 b1 b2 b3 x n p q s
end Go.Tame.V
/- Contracts: sourcetree's clone. By program (mkn4.py, mk.py). -/
namespace Go.Tame.V
open Go Go.Proofs
variable {W0 : World}
set_option maxRecDepth 10000
set_option linter.unusedVariables false
set_option linter.unusedSimpArgs false

theorem kids_next {l : List NV} {i : Nat} (h : i < l.length) : (l.take i).map encTop ++ [encTop l[i]] = (l.take (i + 1)).map encTop := by
  rw [List.take_add_one, List.getElem?_eq_getElem h, List.map_append]; rfl

theorem G117 : ∀ (N : Nat) (n : NV), sz n < N → sz n < 1000000000 → DFun Tryz.prog W0 117 [encTop n] (encTop n) := by
  refine fun N => Nat.rec (fun n h => absurd h (Nat.not_lt_zero _)) (fun N ih n hN hz => ?_) N
  have hss : 2 * n.streams.length ≤ sz n := by have := szS_len n.streams; have := sz_eq n; omega
  have hkl : 2 * n.kids.length ≤ sz n := by have := szL_len n.kids; have := sz_eq n; omega
  refine DFun.intro ti_ok Tryz.func117 rfl (by decide +kernel) Tryz.ntmps117 rfl fun Γ => ?_
  refine Tri.seq ?_
  refine Tri.region ti_ok ?_
  conv => whnf
  intro b1
  conv => whnf
  intro b2
  conv => whnf
  refine Tri.seq ?_
  refine Tri.region ti_ok ?_
  conv => whnf
  refine ⟨rfl, ?_⟩
  conv => whnf
  refine ⟨[.sl .none 2 (n.streams.map encS)], _, fun _ => F104 n.streams (by omega), ⟨.refl _, trivial⟩, ?_⟩
  conv => whnf
  refine ⟨rfl, ?_⟩
  conv => whnf
  refine Tri.seq ?_
  refine Tri.region ti_ok ?_
  conv => whnf
  refine ⟨rfl, ?_⟩
  conv => whnf
  refine Tri.seq ?_
  refine Tri.region ti_ok ?_
  conv => whnf
  refine ⟨rfl, ?_⟩
  conv => whnf
  refine Tri.seq ?_
  refine Tri.seq ?_
  refine Tri.region ti_ok ?_
  conv => whnf
  refine Tri.block ?_
  refine Tri.boxLe 1 (cs' := [.str n.name, .int .i64 n.kind, .str n.text, .str n.target, .int .i64 n.n1, .int .i64 n.n2, .int .i64 n.n3, .int .i64 n.n4, .int .i64 n.n5, .int .i64 n.n6, .raw (.slice none 0 0), .sl .none 2 (n.streams.map encS)]) rfl ⟨.refl _, .refl _, .refl _, .refl _, .refl _, .refl _, .refl _, .refl _, .refl _, .refl _, DLe.nilRaw, .refl _, trivial⟩ ?_
  refine Tri.rowNil 109 12 25 ?_
  refine Tri.loopK (α := { x : Nat × Value // x.1 ≤ n.kids.length }) (fun x => [(1, .box 1 b1 0), (2, .box 2 b2 0), (13, .sl .none 12 (n.kids.map enc)), (14, .int .i64 (n.kids.map enc).length), (15, .int .i64 x.1.1)]) (fun x => [(2, .box b2 [.str [], .int .i64 0, .str [], .str [], .int .i64 0, .int .i64 0, .int .i64 0, .int .i64 0, .int .i64 0, .int .i64 0, .nils, .nils]), (1, .box b1 [.str n.name, .int .i64 n.kind, .str n.text, .str n.target, .int .i64 n.n1, .int .i64 n.n2, .int .i64 n.n3, .int .i64 n.n4, .int .i64 n.n5, .int .i64 n.n6, .raw x.1.2, .sl .none 2 (n.streams.map encS)]), (109, .row x.1.2 ((n.kids.take x.1.1).map encTop) 12 25)]) (fun x => n.kids.length - x.1.1) ⟨(0, .slice none 0 0), Nat.zero_le _⟩ [(2, 2), (1, 1), (109, 109)]
    ⟨⟨.refl _, .refl _, .refl _, .refl _, .refl _, trivial⟩, rfl, rfl, rfl, rfl, rfl, rfl, congrArg (fun z => some (HObj.row (.slice none 0 0) z 12 25)) (by simp), trivial⟩ ?_
  rintro ⟨⟨i, rv⟩, hi⟩
  dsimp only at hi ⊢
  refine Tri.seq ?_
  refine Tri.region ti_ok ?_
  conv => whnf
  refine Tri.seq ?_
  refine Tri.cond (decide ((i : Int) < (n.kids.map enc).length)) rfl (fun hc => ?_) (fun hc => ?_)
  · refine Tri.skip ?_
    conv => whnf
    refine Tri.seq ?_
    refine Tri.block ?_
    refine Tri.seq ?_
    refine Tri.region ti_ok ?_
    have hia : i < n.kids.length := by simpa using hc
    have hkz := kid_sz hia
    conv => whnf
    refine ⟨fun _ => by simp; omega, ?_⟩
    conv => whnf
    refine ⟨encTop n.kids[i], fun _ => get_kid hia, ?_⟩
    conv => whnf
    intro b5
    conv => whnf
    refine ⟨rfl, ?_⟩
    conv => whnf
    refine Tri.drawTailX ti_ok 5 mixed (by kernel_rfl) ?_
    conv => whnf
    refine ⟨rfl, ?_⟩
    conv => whnf
    refine ⟨rfl, ?_⟩
    conv => whnf
    refine ⟨[encTop n.kids[i]], _, fun _ => ih n.kids[i] (by omega) (by omega), ⟨.refl _, trivial⟩, ?_⟩
    conv => whnf
    refine ⟨trivial, ?_⟩
    conv => whnf
    refine .inr (XOp.rowAppend ti_ok 109 rfl rfl rfl (fun h => by cases h) rfl rfl rfl (Nat.zero_lt_one) ?_ ?_ fun aa mm cap => ?_)
    · show (_ + 1) * 152 ≤ _
      simp; omega
    · show _ + 1 ≤ _
      simp; omega
    refine .inl ?_
    conv => whnf
    refine ⟨rfl, ?_⟩
    conv => whnf
    refine Tri.region ti_ok ?_
    conv => whnf
    refine .inl ⟨fun _ => by simp only [InR]; omega, ?_⟩
    conv => whnf
    exact ⟨⟨(i + 1, .slice aa mm cap), hia⟩, [(2, 2), (1, 1), (109, 24)], by show _ - (i + 1) < _ - i; omega, ⟨.refl _, .refl _, .refl _, .refl _, .refl _, trivial⟩, rfl, rfl, rfl, rfl, rfl, rfl, congrArg (fun z => some (HObj.row (.slice aa mm cap) z 12 25)) (by exact kids_next hia), trivial⟩
  · refine Tri.exit ?_
    have hin : i = n.kids.length := by simp at hc; omega
    have hrow : (n.kids.take i).map encTop = n.kids.map enc := by
      subst hin; rw [List.take_length, show enc = encTop from funext enc_eq]
    rw [hrow]
    refine Tri.commitBox 109 1 10 rfl rfl (by decide) rfl ?_
    conv => whnf
    refine Tri.seq ?_
    refine Tri.region ti_ok ?_
    conv => whnf
    refine ⟨rfl, ?_⟩
    conv => whnf
    refine ⟨rfl, ?_⟩
    conv => whnf
    refine Tri.ret ?_
    conv => whnf
    refine ⟨rfl, ?_⟩
    conv => whnf
    exact DLe.of_eq rfl
end Go.Tame.V
/- Paths of a tree by lists of names; trees that do not differ. Plain. -/
namespace Go.Tame.V
open Go Go.Proofs
set_option maxRecDepth 10000
set_option linter.unusedVariables false
set_option linter.unusedSimpArgs false

mutual
def pathsN : NV → List (List (List UInt8))
  | .mk _ _ _ _ _ _ _ _ _ _ ks _ => [] :: pathsNL ks
def pathsNL : List NV → List (List (List UInt8))
  | [] => []
  | k :: r => (pathsN k).map (fun q => k.name :: q) ++ pathsNL r
end
theorem pathsN_eq (n : NV) : pathsN n = [] :: pathsNL n.kids := by cases n; simp only [pathsN]
def findK (q : List UInt8) (ks : List NV) : Option NV := ks.find? fun k => k.name == q
def getN : NV → List (List UInt8) → Option NV
  | n, [] => some n
  | n, m :: ms => match findK m n.kids with
    | some k => getN k ms
    | none => none
theorem mem_pathsNL : ∀ {ks : List NV} {p : List (List UInt8)}, p ∈ pathsNL ks ↔ ∃ k ∈ ks, ∃ q ∈ pathsN k, p = k.name :: q
  | [], p => by simp [pathsNL]
  | k :: r, p => by
    have ih := mem_pathsNL (ks := r) (p := p)
    simp only [pathsNL, List.mem_append, List.mem_map, List.mem_cons, ih]
    constructor
    · rintro (⟨q, hq, rfl⟩ | ⟨x, hx, q, hq, rfl⟩)
      · exact ⟨k, .inl rfl, q, hq, rfl⟩
      · exact ⟨x, .inr hx, q, hq, rfl⟩
    · rintro ⟨x, rfl | hx, q, hq, rfl⟩
      · exact .inl ⟨q, hq, rfl⟩
      · exact .inr ⟨x, hx, q, hq, rfl⟩
theorem cons_mem {n : NV} {m : List UInt8} {q : List (List UInt8)} : m :: q ∈ pathsN n ↔ ∃ k ∈ n.kids, k.name = m ∧ q ∈ pathsN k := by
  rw [pathsN_eq, List.mem_cons, mem_pathsNL]
  constructor
  · rintro (h | ⟨k, hk, q', hq, h⟩)
    · cases h
    · cases h; exact ⟨k, hk, rfl, hq⟩
  · rintro ⟨k, hk, rfl, hq⟩
    exact .inr ⟨k, hk, q, hq, rfl⟩
theorem findK_name {ks : List NV} {q : List UInt8} {k : NV} (h : findK q ks = some k) : k ∈ ks ∧ k.name = q :=
  ⟨List.mem_of_find?_eq_some h, by simpa using List.find?_some h⟩
/-- The kids of every node rise. -/
theorem okT_inc {n : NV} (h : okT n) : inc n.kids := ((okT_eq n).1 h).2.2.1
theorem okT_kid {n k : NV} (h : okT n) (hk : k ∈ n.kids) : okT k := (okL_get ((okT_eq n).1 h).2.2.2 hk).2
theorem okT_name {n k : NV} (h : okT n) (hk : k ∈ n.kids) : nameOk k.name = true := (okL_get ((okT_eq n).1 h).2.2.2 hk).1.1


/-- Names, each behind a slash. -/
def tailF (q : List (List UInt8)) : List UInt8 := q.flatMap fun m => 47 :: m
def joinF : List (List UInt8) → List UInt8
  | [] => []
  | m :: r => m ++ tailF r
mutual
/-- The paths as texts: p is the node's own, at level l. -/
def pathsS : NV → List UInt8 → Int → List (List UInt8)
  | .mk _ _ _ _ _ _ _ _ _ _ ks _, p, l => p :: pathsSL ks p l
def pathsSL : List NV → List UInt8 → Int → List (List UInt8)
  | [], _, _ => []
  | k :: r, p, l => pathsS k (below p k.name (l + 1)) (l + 1) ++ pathsSL r p l
end
theorem pathsS_eq (n : NV) (p : List UInt8) (l : Int) : pathsS n p l = p :: pathsSL n.kids p l := by cases n; simp only [pathsS]
mutual
theorem pathsS_deep : ∀ (n : NV) (p : List UInt8) (l : Int), 2 ≤ l → pathsS n p l = (pathsN n).map fun q => p ++ tailF q
  | .mk _ _ _ _ _ _ _ _ _ _ ks _, p, l, h => by
    simp only [pathsS, pathsN, List.map_cons]
    rw [pathsSL_deep ks p l h]
    simp [tailF]
theorem pathsSL_deep : ∀ (ks : List NV) (p : List UInt8) (l : Int), 2 ≤ l → pathsSL ks p l = (pathsNL ks).map fun q => p ++ tailF q
  | [], p, l, h => rfl
  | k :: r, p, l, h => by
    simp only [pathsSL, pathsNL, List.map_append, List.map_map]
    rw [pathsSL_deep r p l h, pathsS_deep k _ (l + 1) (by omega), below, if_neg (by omega)]
    congr 1
    refine List.map_congr_left fun q _ => ?_
    simp [tailF]
end
theorem pathsSL_top : ∀ (ks : List NV), pathsSL ks [] 1 = (pathsNL ks).map joinF
  | [] => rfl
  | k :: r => by
    simp only [pathsSL, pathsNL, List.map_append, List.map_map]
    rw [pathsSL_top r, pathsS_deep k _ _ (by omega), below, if_pos (by omega)]
    congr 1
theorem pathsS_top (n : NV) : pathsS n [] 1 = (pathsN n).map joinF := by
  rw [pathsS_eq, pathsN_eq, pathsSL_top]; rfl
theorem split_tail : ∀ (ms : List (List UInt8)) (p : List UInt8), (47 : UInt8) ∉ p → (∀ m ∈ ms, (47 : UInt8) ∉ m) → splitG 47 [] (p ++ tailF ms) = p :: ms
  | [], p, hp, _ => by simp [tailF, splitG_no p [] hp]
  | m :: r, p, hp, h => by
    have e : p ++ tailF (m :: r) = p ++ 47 :: (m ++ tailF r) := by simp [tailF]
    rw [e, splitG_at p [] _ hp, split_tail r m (h m List.mem_cons_self) fun x hx => h x (List.mem_cons_of_mem _ hx)]
    simp
/-- A path of names. -/
def okP (q : List (List UInt8)) : Prop := ∀ m ∈ q, nameOk m = true
theorem name_noslash {m : List UInt8} (h : nameOk m = true) : (47 : UInt8) ∉ m := by
  intro hm
  unfold nameOk at h
  rw [if_pos (.inr (.inr hm))] at h
  cases h
theorem joinF_nil {q : List (List UInt8)} (h : okP q) : joinF q = [] ↔ q = [] := by
  cases q with
  | nil => simp [joinF]
  | cons m r =>
    have := name_ne (h m List.mem_cons_self)
    simp [joinF, this]
theorem split_join {q : List (List UInt8)} (h : okP q) (hq : q ≠ []) : splitG 47 [] (joinF q) = q := by
  cases q with
  | nil => exact absurd rfl hq
  | cons m r => exact split_tail r m (name_noslash (h m List.mem_cons_self)) fun x hx => name_noslash (h x (List.mem_cons_of_mem _ hx))
theorem joinF_inj {q q' : List (List UInt8)} (h : okP q) (h' : okP q') (e : joinF q = joinF q') : q = q' := by
  by_cases h0 : q = []
  · subst h0
    exact ((joinF_nil h').1 (by rw [← e]; rfl)).symm
  · have h1 : q' ≠ [] := fun h2 => h0 ((joinF_nil h).1 (by rw [e, h2]; rfl))
    rw [← split_join h h0, e, split_join h' h1]
theorem path_ok : ∀ (q : List (List UInt8)) (n : NV), okT n → q ∈ pathsN n → okP q
  | [], n, _, _ => fun m hm => by cases hm
  | m :: q, n, h, hq => by
    obtain ⟨k, hk, e, hq⟩ := cons_mem.1 hq
    intro x hx
    rcases List.mem_cons.1 hx with rfl | hx
    · rw [← e]; exact okT_name h hk
    · exact path_ok q k (okT_kid h hk) hq x hx
end Go.Tame.V
/- Contracts: the other way of trees: paths, Get, Equal. By program (mk.py). -/
namespace Go.Tame.V
open Go Go.Proofs
variable {W0 : World}
set_option maxRecDepth 10000
set_option linter.unusedVariables false
set_option linter.unusedSimpArgs false

/-- The node at a path, or none and the error's number. -/
def getR (n : NV) (s : List UInt8) : NV × Int :=
  if s = [] then (n, 0) else match getN n (splitG 47 [] s) with
    | some x => (x, 0)
    | none => (zeroN, 6)
theorem kid_find (n : NV) (q : List UInt8) : (kidIx n q = -1 ∧ findK q n.kids = none) ∨ ∃ (i : Nat) (h : i < n.kids.length), kidIx n q = i ∧ findK q n.kids = some n.kids[i] := by
  cases hf : findK q n.kids with
  | none =>
    refine .inl ⟨?_, rfl⟩
    unfold findK at hf
    exact firstIdx_none fun j hj => by simpa using List.find?_eq_none.1 hf _ (List.getElem_mem hj)
  | some k =>
    unfold findK at hf
    obtain ⟨h1, i, h2, h3, h4⟩ := List.find?_eq_some_iff_getElem.1 hf
    refine .inr ⟨i, h2, ?_, by rw [h3]⟩
    exact firstIdx_some (p := fun k : NV => k.name == q) h2 (fun j hj hji => by simpa using h4 j hji) (by rw [h3]; exact h1)
end Go.Tame.V
/- Contracts: Equal of trees; the law ViewdiffEquals. By program (mk.py). -/
namespace Go.Tame.V
open Go Go.Proofs
variable {W0 : World}
set_option maxRecDepth 10000
set_option linter.unusedVariables false
set_option linter.unusedSimpArgs false

theorem getN_sz : ∀ (q : List (List UInt8)) (n x : NV), getN n q = some x → sz x ≤ sz n
  | [], n, x, h => by simp only [getN, Option.some.injEq] at h; subst h; exact Nat.le_refl _
  | m :: q, n, x, h => by
    simp only [getN] at h
    cases hf : findK m n.kids with
    | none => rw [hf] at h; cases h
    | some k =>
      rw [hf] at h
      obtain ⟨i, hi, e⟩ := List.mem_iff_getElem.1 (findK_name hf).1
      have h1 := kid_sz hi
      have h2 := getN_sz q k x h
      rw [e] at h1
      omega
end Go.Tame.V
/- Contracts: sourcetree's find and Get. By program (mk.py). -/
namespace Go.Tame.V
open Go Go.Proofs
variable {W0 : World}
set_option maxRecDepth 10000
set_option linter.unusedVariables false
set_option linter.unusedSimpArgs false

theorem G160 (k : NV) (q : List UInt8) : DFun Tryz.prog W0 160 [encTop k, .elm 1 [.str q] 0 0] (.bool (k.name == q)) := by
  refine DFun.intro ti_ok Tryz.func160 rfl (by decide +kernel) Tryz.ntmps160 rfl fun Γ => ?_
  refine Tri.seq ?_
  refine Tri.region ti_ok ?_
  conv => whnf
  intro b
  conv => whnf
  refine Tri.seq ?_
  refine Tri.region ti_ok ?_
  conv => whnf
  refine ⟨rfl, ?_⟩
  conv => whnf
  refine ⟨.str q, fun _ => rfl, ?_⟩
  conv => whnf
  refine Tri.ret ?_
  conv => whnf
  exact .refl _
theorem G96 (l : List NV) (q : List UInt8) (hl : l.length < 1000000000) : DFun Tryz.prog W0 96 [.sl .none 12 (l.map enc), .fn (.func 160) [] [.elm 1 [.str q] 0 0]] (.int .i64 (firstIdx (fun k : NV => k.name == q) l)) := by
  refine DFun.intro ti_ok Tryz.func96 rfl (by decide +kernel) Tryz.ntmps96 rfl fun Γ => ?_
  refine Tri.seq ?_
  refine Tri.region ti_ok ?_
  conv => whnf
  refine Tri.seq ?_
  refine Tri.seq ?_
  refine Tri.region ti_ok ?_
  conv => whnf
  refine Tri.block ?_
  refine Tri.loop (α := { i : Nat // i ≤ l.length ∧ ∀ j (h : j < l.length), j < i → ((l[j]).name == q) = false }) (fun x => [(0, .sl .none 12 (l.map enc)), (1, .fn (.func 160) [] [.elm 1 [.str q] 0 0]), (7, .int .i64 (l.map enc).length), (8, .int .i64 x.1)]) (fun _ => []) (fun x => l.length - x.1) ⟨0, by simp⟩ ⟨.refl _, .refl _, .refl _, .refl _, trivial⟩ trivial ?_
  rintro ⟨i, hi, hp⟩
  dsimp only
  refine Tri.seq ?_
  refine Tri.region ti_ok ?_
  conv => whnf
  refine Tri.seq ?_
  refine Tri.cond (decide ((i : Int) < (l.map enc).length)) rfl (fun hc => ?_) (fun hc => ?_)
  · refine Tri.skip ?_
    conv => whnf
    refine Tri.seq ?_
    refine Tri.block ?_
    refine Tri.seq ?_
    refine Tri.region ti_ok ?_
    have hia : i < l.length := by simpa using hc
    conv => whnf
    refine Tri.seq ?_
    refine Tri.region ti_ok ?_
    conv => whnf
    refine ⟨fun _ => by simp; omega, ?_⟩
    conv => whnf
    refine ⟨encTop l[i], fun _ => get_kids hia, ?_⟩
    conv => whnf
    refine ⟨[encTop l[i], .elm 1 [.str q] 0 0], _, fun _ => G160 l[i] q, ⟨.refl _, .refl _, trivial⟩, ?_⟩
    conv => whnf
    refine Tri.cond _ rfl (fun hc => ?_) (fun hc => ?_)
    · refine Tri.seq ?_
      refine Tri.region ti_ok ?_
      conv => whnf
      refine Tri.ret ?_
      conv => whnf
      exact intDLe (firstIdx_some (p := fun k : NV => k.name == q) hia hp hc).symm
    · refine Tri.skip ?_
      conv => whnf
      refine Tri.region ti_ok ?_
      conv => whnf
      refine .inl ⟨fun _ => by simp [InR]; omega, ?_⟩
      conv => whnf
      exact ⟨⟨i + 1, by omega, fun j hj hlt => (Nat.lt_succ_iff_lt_or_eq.1 hlt).elim (hp j hj) fun e => by subst e; exact hc⟩, by show _ - (i + 1) < _ - i; omega, ⟨.refl _, .refl _, .refl _, .refl _, trivial⟩, trivial⟩
  · refine Tri.exit ?_
    conv => whnf
    refine Tri.seq ?_
    refine Tri.region ti_ok ?_
    conv => whnf
    refine Tri.ret ?_
    conv => whnf
    exact intDLe (firstIdx_none (p := fun k : NV => k.name == q) fun j hj => hp j hj (by simp at hc; omega)).symm
/-- The place that find returns: of node n at index j of a row, behind these names. -/
def findD : List D → Nat → NV → List (List UInt8) → D
  | xs, j, n, [] => .elm 12 xs j 0
  | xs, j, n, m :: r => if kidIx n m < 0 then .raw (.pointer none) else match n.kids[(kidIx n m).toNat]? with
    | some k => findD (n.kids.map enc) (kidIx n m).toNat k r
    | none => .raw (.pointer none)
theorem findD_getN : ∀ (r : List (List UInt8)) (xs : List D) (j : Nat) (n : NV), xs[j]? = some (encTop n) → (getN n r = none ∧ findD xs j n r = .raw (.pointer none)) ∨ ∃ m ys i, getN n r = some m ∧ findD xs j n r = .elm 12 ys i 0 ∧ ys[i]? = some (encTop m)
  | [], xs, j, n, h => .inr ⟨n, xs, j, rfl, rfl, h⟩
  | m :: r, xs, j, n, h => by
    simp only [getN, findD]
    rcases kid_find n m with ⟨h1, h2⟩ | ⟨i, hi, h1, h2⟩
    · rw [h1, h2]; exact .inl ⟨rfl, if_pos (by decide)⟩
    · rw [h1, h2, if_neg (by omega), show ((i : Nat) : Int).toNat = i from rfl, List.getElem?_eq_getElem hi]
      exact findD_getN r _ i _ (get_kid hi)

theorem G116 (hL : LibOk W0) (s : List UInt8) (hs : s.length < 1000000000) (xs : List D) (j : Nat) (n : NV) (hj : xs[j]? = some (encTop n)) (hz : sz n < 1000000000) : DFun Tryz.prog W0 116 [.elm 12 xs j 0, .str s] (if s = [] then .elm 12 xs j 0 else findD xs j n (splitG 47 [] s)) := by
  refine DFun.intro ti_ok Tryz.func116 rfl (by decide +kernel) Tryz.ntmps116 rfl fun Γ => ?_
  refine Tri.seq ?_
  refine Tri.region ti_ok ?_
  conv => whnf
  refine Tri.seq ?_
  refine Tri.seq ?_
  refine Tri.region ti_ok ?_
  conv => whnf
  refine Tri.cond _ rfl (fun hc => ?_) (fun hc => ?_)
  · refine Tri.seq ?_
    refine Tri.region ti_ok ?_
    conv => whnf
    refine Tri.ret ?_
    conv => whnf
    exact DLe.of_eq (if_pos (by simpa using hc)).symm
  · refine Tri.skip ?_
    conv => whnf
    refine Tri.seq ?_
    refine Tri.seq ?_
    refine Tri.region ti_ok ?_
    have hne : s ≠ [] := by simpa using hc
    conv => whnf
    refine ⟨[.str s, .str [47]], _, fun _ => F121 hL s 47 hs, ⟨.refl _, .refl _, trivial⟩, ?_⟩
    conv => whnf
    refine Tri.block ?_
    refine Tri.loop (α := { x : Nat × List D × Nat × NV // x.1 ≤ (splitG 47 [] s).length ∧ x.2.1[x.2.2.1]? = some (encTop x.2.2.2) ∧ findD x.2.1 x.2.2.1 x.2.2.2 ((splitG 47 [] s).drop x.1) = findD xs j n (splitG 47 [] s) ∧ sz x.2.2.2 < 1000000000 }) (fun x => [(0, .elm 12 x.1.2.1 x.1.2.2.1 0), (12, .sl .none 1 (strs (splitG 47 [] s))), (13, .int .i64 (strs (splitG 47 [] s)).length), (14, .int .i64 x.1.1)]) (fun _ => []) (fun x => (splitG 47 [] s).length - x.1.1) ⟨(0, xs, j, n), Nat.zero_le _, hj, rfl, hz⟩ ⟨.refl _, DLe.full, .refl _, .refl _, trivial⟩ trivial ?_
    rintro ⟨⟨i, ys, jj, m⟩, hi, hm, hd, hzm⟩
    obtain ⟨hsl, _⟩ := splitG_len (c := 47) s []
    dsimp only at hi hm hd hzm ⊢
    refine Tri.seq ?_
    refine Tri.region ti_ok ?_
    conv => whnf
    refine Tri.seq ?_
    refine Tri.cond (decide ((i : Int) < (strs (splitG 47 [] s)).length)) rfl (fun hc => ?_) (fun hc => ?_)
    · refine Tri.skip ?_
      conv => whnf
      refine Tri.seq ?_
      refine Tri.block ?_
      refine Tri.seq ?_
      refine Tri.region ti_ok ?_
      have hia : i < (splitG 47 [] s).length := by simpa [strs] using hc
      have hkl := kids_len m
      have hdr : (splitG 47 [] s).drop i = (splitG 47 [] s)[i] :: (splitG 47 [] s).drop (i + 1) := List.drop_eq_getElem_cons hia
      conv => whnf
      refine ⟨fun _ => by simp [strs]; omega, ?_⟩
      conv => whnf
      refine ⟨.str (splitG 47 [] s)[i], fun _ => by simp [strs, hia], ?_⟩
      conv => whnf
      intro b
      conv => whnf
      refine ⟨rfl, ?_⟩
      conv => whnf
      refine Tri.seq ?_
      refine Tri.boxElm 6 6 (.str (splitG 47 [] s)[i]) rfl rfl rfl rfl ?_
      refine Tri.regionG ti_ok ?_
      conv => whnf
      refine ⟨rfl, trivial, .inl ?_⟩
      conv => whnf
      refine ⟨rfl, trivial, .inr (XOp.checkElm rfl ?_)⟩
      conv => whnf
      refine ⟨rfl, trivial, .inl ?_⟩
      conv => whnf
      refine ⟨rfl, trivial, .inl ⟨encTop m, fun _ => hm, ?_⟩⟩
      conv => whnf
      refine ⟨rfl, trivial, .inl ?_⟩
      conv => whnf
      refine ⟨rfl, trivial, .inl ⟨[.sl .none 12 (m.kids.map enc), .fn (.func 160) [] [.elm 1 [.str (splitG 47 [] s)[i]] 0 0]], _, fun _ => G96 m.kids _ (by omega), ⟨.refl _, .refl _, trivial⟩, ?_⟩⟩
      conv => whnf
      refine ⟨rfl, trivial, .inl ?_⟩
      
      conv => whnf
      refine Tri.seq ?_
      refine Tri.seq ?_
      refine Tri.region ti_ok ?_
      conv => whnf
      refine Tri.cond (decide (kidIx m (splitG 47 [] s)[i] < 0)) rfl (fun hc => ?_) (fun hc => ?_)
      · refine Tri.seq ?_
        refine Tri.region ti_ok ?_
        conv => whnf
        refine Tri.ret ?_
        conv => whnf
        refine DLe.of_eq ?_
        rw [if_neg hne, ← hd, hdr]
        exact (if_pos (by simpa using hc)).symm
      · refine Tri.skip ?_
        conv => whnf
        have hix : ∃ (i' : Nat) (h : i' < m.kids.length), kidIx m (splitG 47 [] s)[i] = i' ∧ findK (splitG 47 [] s)[i] m.kids = some m.kids[i'] := by
          rcases kid_find m (splitG 47 [] s)[i] with ⟨h1, _⟩ | h
          · rw [h1] at hc; simp at hc
          · exact h
        obtain ⟨i', hi', he, _⟩ := hix
        have hks := kid_sz hi'
        rw [show firstIdx (fun k : NV => k.name == (splitG 47 [] s)[i]) m.kids = (i' : Int) from he]
        refine Tri.regionG ti_ok ?_
        conv => whnf
        refine ⟨rfl, trivial, .inl ?_⟩
        conv => whnf
        refine ⟨rfl, trivial, .inr (XOp.checkElm rfl ?_)⟩
        conv => whnf
        refine ⟨rfl, trivial, .inl ?_⟩
        conv => whnf
        refine ⟨rfl, trivial, .inl ⟨encTop m, fun _ => hm, ?_⟩⟩
        conv => whnf
        refine ⟨rfl, trivial, .inl ?_⟩
        conv => whnf
        refine ⟨rfl, trivial, .inl ⟨fun _ => by simp; omega, ?_⟩⟩
        conv => whnf
        refine ⟨rfl, trivial, .inl ?_⟩
        
        conv => whnf
        refine Tri.region ti_ok ?_
        conv => whnf
        refine .inl ⟨fun _ => by simp [InR]; omega, ?_⟩
        conv => whnf
        exact ⟨⟨(i + 1, m.kids.map enc, i', m.kids[i']), hia, get_kid hi', by rw [← hd, hdr]; simp only [findD, he]; rw [if_neg (by omega), show ((i' : Nat) : Int).toNat = i' from rfl, List.getElem?_eq_getElem hi'], by show sz m.kids[i'] < _; omega⟩, by show _ - (i + 1) < _ - i; omega, ⟨.refl _, .refl _, .refl _, .refl _, trivial⟩, trivial⟩
    · refine Tri.exit ?_
      conv => whnf
      refine Tri.seq ?_
      refine Tri.region ti_ok ?_
      conv => whnf
      refine Tri.ret ?_
      conv => whnf
      refine DLe.of_eq ?_
      have hin : i = (splitG 47 [] s).length := by simp [strs] at hc; omega
      rw [if_neg hne, ← hd, hin, List.drop_length]
      rfl
theorem G66 (hL : LibOk W0) (s : List UInt8) (hs : s.length < 1000000000) (n : NV) (hn : Fits n) (hv : valid n = true) : DFun Tryz.prog W0 66 [encTop n, .str s] (.tup [encTop (getR n s).1, .int .i64 (getR n s).2]) := by
  refine DFun.intro ti_ok Tryz.func66 rfl (by decide +kernel) Tryz.ntmps66 rfl fun Γ => ?_
  have hz := hn
  unfold Fits at hz
  refine Tri.seq ?_
  refine Tri.region ti_ok ?_
  conv => whnf
  intro b2
  conv => whnf
  intro b4
  conv => whnf
  refine Tri.seq ?_
  refine Tri.seq ?_
  refine Tri.region ti_ok ?_
  conv => whnf
  refine ⟨rfl, ?_⟩
  conv => whnf
  refine ⟨[encTop n], _, fun _ => F39 hL n (by omega), ⟨.refl _, trivial⟩, ?_⟩
  conv => whnf
  refine Tri.cond _ rfl (fun hc => ?_) (fun hc => ?_)
  · refine Tri.seq ?_
    exfalso
    rw [hv] at hc; cases hc
  · refine Tri.skip ?_
    conv => whnf
    refine Tri.seq ?_
    refine Tri.boxElm 2 2 (encTop n) rfl rfl rfl rfl ?_
    have hform : ∃ d, DFun Tryz.prog W0 116 [.elm 12 [encTop n] 0 0, .str s] d ∧ ((d = .raw (.pointer none) ∧ getR n s = (zeroN, 6)) ∨ ∃ m ys i, d = .elm 12 ys i 0 ∧ ys[i]? = some (encTop m) ∧ getR n s = (m, 0) ∧ sz m ≤ sz n) := by
      refine ⟨_, G116 hL s hs [encTop n] 0 n rfl (by omega), ?_⟩
      by_cases h0 : s = []
      · rw [if_pos h0]
        exact .inr ⟨n, _, _, rfl, rfl, by rw [getR, if_pos h0], Nat.le_refl _⟩
      · rw [if_neg h0, getR, if_neg h0]
        rcases findD_getN (splitG 47 [] s) [encTop n] 0 n rfl with ⟨h1, h2⟩ | ⟨m, ys, i, h1, h2, h3⟩
        · rw [h1, h2]; exact .inl ⟨rfl, rfl⟩
        · rw [h1, h2]; exact .inr ⟨m, ys, i, rfl, h3, rfl, getN_sz _ _ _ h1⟩
    obtain ⟨d, hG, ⟨rfl, hR⟩ | ⟨m, ys, i, rfl, hi, hR, hsm⟩⟩ := hform
    · refine Tri.region ti_ok ?_
      conv => whnf
      refine ⟨[.elm 12 [encTop n] 0 0, .str s], _, fun _ => hG, ⟨.refl _, .refl _, trivial⟩, ?_⟩
      conv => whnf
      refine Tri.seq ?_
      refine Tri.seq ?_
      refine Tri.regionG ti_ok ?_
      conv => whnf
      refine ⟨rfl, trivial, .inl ?_⟩
      conv => whnf
      refine ⟨rfl, trivial, .inr (XOp.nilNil rfl rfl ?_)⟩
      conv => whnf
      refine Tri.cond true rfl (fun hc => ?_) (fun hc => by cases hc)
      refine Tri.seq ?_
      refine Tri.region ti_ok ?_
      conv => whnf
      refine ⟨rfl, ?_⟩
      conv => whnf
      refine Tri.ret ?_
      conv => whnf
      refine ⟨rfl, ?_⟩
      conv => whnf
      rw [hR]
      exact ⟨zeroD, .refl _, trivial⟩
    · refine Tri.region ti_ok ?_
      conv => whnf
      refine ⟨[.elm 12 [encTop n] 0 0, .str s], _, fun _ => hG, ⟨.refl _, .refl _, trivial⟩, ?_⟩
      conv => whnf
      refine Tri.seq ?_
      refine Tri.seq ?_
      refine Tri.regionG ti_ok ?_
      conv => whnf
      refine ⟨rfl, trivial, .inl ?_⟩
      conv => whnf
      refine ⟨rfl, trivial, .inr (XOp.nilElm rfl rfl ?_)⟩
      conv => whnf
      refine Tri.cond false rfl (fun hc => by cases hc) (fun hc => ?_)
      refine Tri.skip ?_
      conv => whnf
      refine Tri.seq ?_
      refine Tri.regionG ti_ok ?_
      conv => whnf
      refine ⟨rfl, trivial, .inl ?_⟩
      conv => whnf
      refine ⟨rfl, trivial, .inr (XOp.checkElm rfl ?_)⟩
      conv => whnf
      refine ⟨rfl, trivial, .inl ⟨encTop m, fun _ => hi, ?_⟩⟩
      conv => whnf
      refine ⟨rfl, trivial, .inl ⟨[encTop m], _, fun _ => G117 _ m (Nat.lt_succ_self _) (by omega), ⟨.refl _, trivial⟩, ?_⟩⟩
      conv => whnf
      refine ⟨rfl, trivial, .inl ⟨rfl, ?_⟩⟩
      conv => whnf
      refine ⟨rfl, trivial, .inl ?_⟩
      conv => whnf
      refine Tri.ret ?_
      conv => whnf
      refine ⟨rfl, ?_⟩
      conv => whnf
      rw [hR]
      exact ⟨DLe.of_eq rfl, .refl _, trivial⟩
end Go.Tame.V
/- The paths of the nodes that a view shows. Plain. -/
namespace Go.Tame.V
open Go Go.Proofs
set_option maxRecDepth 10000
set_option linter.unusedVariables false
set_option linter.unusedSimpArgs false

section
variable (nm : List NV → List (List UInt8)) (v : Int)
mutual
/-- The paths, in the view and in the source, of a node and of what a view shows below it. -/
def prs (d : Int) : NV → List UInt8 → List UInt8 → List (List UInt8 × List UInt8)
  | .mk _ _ _ _ _ _ _ _ _ _ ks _, p, q => (p, q) :: prsL d ks (nm ks) p q
def prsL (d : Int) : List NV → List (List UInt8) → List UInt8 → List UInt8 → List (List UInt8 × List UInt8)
  | k :: r, m :: ms, p, q => if shown v k (d + 1) then prs (d + 1) k (joinQ p m (d == 1)) (joinQ q k.name (d == 1)) ++ prsL d r ms p q else prsL d r ms p q
  | _, _, _, _ => []
end
mutual
theorem vis_fold {S : Type} (upd : List UInt8 → List UInt8 → S → S) : ∀ (n : NV) (d : Int) (p q : List UInt8) (s : S), vis upd nm v d n p q s = (prs nm v d n p q).foldl (fun s x => upd x.1 x.2 s) s
  | .mk _ _ _ _ _ _ _ _ _ _ ks _, d, p, q, s => by
    simp only [vis, prs, List.foldl_cons]
    exact visL_fold upd ks (nm ks) d p q _
theorem visL_fold {S : Type} (upd : List UInt8 → List UInt8 → S → S) : ∀ (l : List NV) (ms : List (List UInt8)) (d : Int) (p q : List UInt8) (s : S), visL upd nm v d l ms p q s = (prsL nm v d l ms p q).foldl (fun s x => upd x.1 x.2 s) s
  | [], ms, d, p, q, s => by simp [visL, prsL]
  | k :: r, [], d, p, q, s => by simp [visL, prsL]
  | k :: r, m :: ms, d, p, q, s => by
    simp only [visL, prsL]
    split
    · rw [vis_fold upd k, visL_fold upd r, List.foldl_append]
    · exact visL_fold upd r ms d p q s
end
/-- The source paths are some of the tree's paths, in their order. -/
theorem joinQ_below (p m : List UInt8) {d : Int} (hd : 1 ≤ d) : joinQ p m (d == 1) = below p m (d + 1) := by
  unfold joinQ below
  by_cases h : d = 1
  · subst h; rfl
  · rw [if_neg (by simpa using h), if_neg (by omega)]
mutual
theorem prs_sub : ∀ (n : NV) (d : Int) (p q : List UInt8), 1 ≤ d → ((prs nm v d n p q).map Prod.snd).Sublist (pathsS n q d)
  | .mk _ _ _ _ _ _ _ _ _ _ ks _, d, p, q, hd => by
    simp only [prs, pathsS, List.map_cons]
    exact (prsL_sub ks (nm ks) d p q hd).cons_cons q
theorem prsL_sub : ∀ (l : List NV) (ms : List (List UInt8)) (d : Int) (p q : List UInt8), 1 ≤ d → ((prsL nm v d l ms p q).map Prod.snd).Sublist (pathsSL l q d)
  | [], ms, d, p, q, hd => by simp [prsL]
  | k :: r, [], d, p, q, hd => by simp [prsL]
  | k :: r, m :: ms, d, p, q, hd => by
    have ih := prsL_sub r ms d p q hd
    simp only [prsL, pathsSL]
    split
    · rw [List.map_append, joinQ_below q k.name hd]
      exact (prs_sub k (d + 1) _ _ (by omega)).append ih
    · exact ih.trans (List.sublist_append_right _ _)
end
end
theorem pathsN_nodup : ∀ (N : Nat) (n : NV), sz n < N → okT n → (pathsN n).Nodup := by
  refine fun N => Nat.rec (fun n h => absurd h (Nat.not_lt_zero _)) (fun N ih n hN hok => ?_) N
  have hl : ∀ ks : List NV, inc ks → (∀ k ∈ ks, sz k < N ∧ okT k) → (pathsNL ks).Nodup := by
    intro ks
    induction ks with
    | nil => intro _ _; exact List.nodup_nil
    | cons k r ihr =>
      intro hi hk
      obtain ⟨h1, h2⟩ := hk k List.mem_cons_self
      have hr : inc r := fun i hi' => by
        have := hi (i + 1) (by simpa using hi')
        simpa [List.getD] using this
      simp only [pathsNL]
      rw [List.nodup_append]
      refine ⟨?_, ihr hr fun z hz => hk z (List.mem_cons_of_mem _ hz), fun a ha b hb => ?_⟩
      · exact List.Pairwise.map _ (fun x y hxy e => hxy (by simpa using e)) (ih k h1 h2)
      · obtain ⟨q, _, rfl⟩ := List.mem_map.1 ha
        obtain ⟨z, hz, q', _, rfl⟩ := mem_pathsNL.1 hb
        intro e
        simp only [List.cons.injEq] at e
        obtain ⟨i, hi', rfl⟩ := List.mem_iff_getElem.1 hz
        have := inc_get hi (i := 0) (j := i + 1) (by omega) (by simpa using hi')
        simp at this
        exact bl_ne this e.1
  rw [pathsN_eq, List.nodup_cons]
  refine ⟨fun h => ?_, hl n.kids (okT_inc hok) fun k hk => ?_⟩
  · obtain ⟨k, _, q, _, e⟩ := mem_pathsNL.1 h
    cases e
  · obtain ⟨i, hi, rfl⟩ := List.mem_iff_getElem.1 hk
    have := kid_sz hi
    exact ⟨by omega, okT_kid hok hk⟩
theorem paths_nodup {n : NV} (h : okT n) : (pathsS n [] 1).Nodup := by
  rw [pathsS_top]
  refine List.pairwise_map.2 (List.Pairwise.imp_of_mem (fun {a b} ha hb hab e => hab (joinF_inj (path_ok a n h ha) (path_ok b n h hb) e)) (pathsN_nodup _ n (Nat.lt_succ_self _) h))
/-- No two shown nodes have the same path in the source. -/
theorem prs_nodup (nm : List NV → List (List UInt8)) (v : Int) {n : NV} (h : okT n) : ((prs nm v 1 n [] []).map Prod.snd).Nodup := (prs_sub nm v n 1 [] [] (Int.le_refl _)).nodup (paths_nodup h)

/-- The last of some pairs that fits is the first one, if no two fit. -/
theorem last_first {α β : Type} [BEq α] [LawfulBEq α] (f : β → α) (g : β → List UInt8) (x : α) : ∀ (l : List β) (s : List UInt8 × Int), (l.map f).Nodup →
    l.foldl (fun s y => if f y == x then (g y, 0) else s) s = match l.find? (fun y => f y == x) with | some y => (g y, 0) | none => s
  | [], s, _ => rfl
  | y :: r, s, h => by
    rw [List.map_cons, List.nodup_cons] at h
    have ih := last_first f g x r
    simp only [List.foldl_cons, List.find?_cons]
    by_cases e : f y == x
    · rw [if_pos e, ih _ h.2, e]
      have : r.find? (fun y => f y == x) = none := by
        rw [List.find?_eq_none]
        intro z hz hzx
        have h1 : f z = x := by simpa using hzx
        have h2 : f y = x := by simpa using e
        exact h.1 (List.mem_map.2 ⟨z, hz, h1.trans h2.symm⟩)
      rw [this]
    · rw [if_neg e, ih _ h.2]
      have e' : (f y == x) = false := by simpa using e
      rw [e']
end Go.Tame.V
/- Contracts: naming's Path and Source. By program (mk.py). -/
namespace Go.Tame.V
open Go Go.Proofs
variable {W0 : World}
set_option maxRecDepth 10000
set_option linter.unusedVariables false
set_option linter.unusedSimpArgs false

/-- What Path returns. -/
def pathV (nm : List NV → List (List UInt8)) (v : Int) (n : NV) (x : List UInt8) : List UInt8 × Int :=
  if (viewR nm v n).2 = 0 then if (getR n x).2 = 0 then visR (updP x) nm v n ([], 8) else ([], 6) else ([], (viewR nm v n).2)
/-- What Source returns. -/
def sourceV (nm : List NV → List (List UInt8)) (v : Int) (n : NV) (x : List UInt8) : List UInt8 × Int :=
  if (viewR nm v n).2 = 0 then visR (updS x) nm v n ([], 6) else ([], (viewR nm v n).2)
theorem viewR_valid {nm : List NV → List (List UInt8)} {v : Int} {n : NV} (h : (viewR nm v n).2 = 0) : viewOk v = true ∧ valid n = true := by
  unfold viewR at h
  split at h
  · cases h
  · split at h
    · cases h
    · rename_i h1 h2
      exact ⟨by simpa using h1, by simpa using h2⟩

theorem G20 (hL : LibOk W0) (nm : List NV → List (List UInt8)) (v : Int) (hnm : viewOk v = true → NamesOk W0 v nm) (n : NV) (hn : Fits n) (hv : valid n = true → sz n < 800000) (x : List UInt8) (hx : x.length < 1000000000) : DFun Tryz.prog W0 20 [.int .i64 v, encTop n, .str x] (.tup [.str (pathV nm v n x).1, .int .i64 (pathV nm v n x).2]) := by
  refine DFun.intro ti_ok Tryz.func20 rfl (by decide +kernel) Tryz.ntmps20 rfl fun Γ => ?_
  have hz := hn
  unfold Fits at hz
  refine Tri.seq ?_
  refine Tri.region ti_ok ?_
  conv => whnf
  intro b4
  conv => whnf
  intro b5
  conv => whnf
  refine Tri.seq ?_
  refine Tri.region ti_ok ?_
  conv => whnf
  intro b8
  conv => whnf
  intro b9
  conv => whnf
  refine ⟨rfl, ?_⟩
  conv => whnf
  refine ⟨rfl, ?_⟩
  conv => whnf
  refine Tri.seq ?_
  refine Tri.seq ?_
  refine Tri.regionX ti_ok ?_
  conv => whnf
  refine .inl ?_
  conv => whnf
  refine ⟨rfl, ?_⟩
  conv => whnf
  refine .inr (XOp.call rfl [.int .i64 v, encTop n, .fn (.func 65) [] [.box 2000 b5 0, .box 2001 b8 0, .box 2002 b9 0]] [(2000, 5), (2001, 8), (2002, 9)] (F65x (pathA b5 b8 b9 x) (updP x) 65 _ (visitP b5 b8 b9 x) hL nm v hnm n (by omega) hv ([], 8)) rfl ⟨.refl _, .refl _, DLe.fn trivial ⟨DLe.box, DLe.box, DLe.box, trivial⟩, trivial⟩ ?_)
  rintro d' H' ⟨rfl, e1, e2, e3⟩
  refine ⟨_, .refl _, ?_⟩
  conv => whnf
  intro b10
  conv => whnf
  refine .inl ?_
  conv => whnf
  refine ⟨rfl, ?_⟩
  conv => whnf
  refine Tri.seq ?_
  refine Tri.forgetK [(0, .int .i64 v), (4, .box 4 b4 0), (5, .box 5 b5 0), (8, .box 8 b8 0), (9, .box 9 b9 0), (11, .int .i64 (viewR nm v n).2)] [(4, .box b4 (cellsN n)), (5, .box b5 [.str x]), (8, .box b8 [.str (visR (updP x) nm v n ([], 8)).1]), (9, .box b9 [.int .i64 (visR (updP x) nm v n ([], 8)).2])] [(4, 4), (5, 5), (8, 8), (9, 9)] ⟨⟨.refl _, .refl _, .refl _, .refl _, .refl _, .refl _, trivial⟩, rfl, rfl, rfl, rfl, e1, rfl, e2, rfl, e3, trivial⟩ ?_
  refine Tri.region ti_ok ?_
  conv => whnf
  refine Tri.cond _ rfl (fun hc => ?_) (fun hc => ?_)
  · refine Tri.seq ?_
    refine Tri.region ti_ok ?_
    conv => whnf
    refine Tri.ret ?_
    conv => whnf
    have h0 : ¬ (viewR nm v n).2 = 0 := by simpa using hc
    rw [show pathV nm v n x = ([], (viewR nm v n).2) from by rw [pathV, if_neg h0]]
    exact ⟨.refl _, .refl _, trivial⟩
  · refine Tri.skip ?_
    conv => whnf
    refine Tri.seq ?_
    refine Tri.seq ?_
    refine Tri.region ti_ok ?_
    have h0 : (viewR nm v n).2 = 0 := by simpa using hc
    conv => whnf
    refine ⟨rfl, ?_⟩
    conv => whnf
    refine ⟨rfl, ?_⟩
    conv => whnf
    refine ⟨[encTop n, .str x], _, fun _ => G66 hL x hx n hn (viewR_valid h0).2, ⟨.refl _, .refl _, trivial⟩, ?_⟩
    conv => whnf
    intro b12
    conv => whnf
    refine ⟨rfl, ?_⟩
    conv => whnf
    refine Tri.seq ?_
    refine Tri.region ti_ok ?_
    conv => whnf
    refine Tri.cond _ rfl (fun hc => ?_) (fun hc => ?_)
    · refine Tri.seq ?_
      refine Tri.region ti_ok ?_
      conv => whnf
      refine Tri.ret ?_
      conv => whnf
      have h1 : ¬ (getR n x).2 = 0 := by simpa using hc
      rw [show pathV nm v n x = ([], 6) from by rw [pathV, if_pos h0, if_neg h1]]
      exact ⟨.refl _, .refl _, trivial⟩
    · refine Tri.skip ?_
      conv => whnf
      refine Tri.seq ?_
      refine Tri.draw ti_ok mixed (by kernel_rfl) ?_
      have h1 : (getR n x).2 = 0 := by simpa using hc
      conv => whnf
      refine ⟨rfl, ?_⟩
      conv => whnf
      refine ⟨rfl, ?_⟩
      conv => whnf
      refine Tri.ret ?_
      conv => whnf
      rw [show pathV nm v n x = visR (updP x) nm v n ([], 8) from by rw [pathV, if_pos h0, if_pos h1]]
      exact ⟨.refl _, .refl _, trivial⟩
theorem G22 (hL : LibOk W0) (nm : List NV → List (List UInt8)) (v : Int) (hnm : viewOk v = true → NamesOk W0 v nm) (n : NV) (hn : Fits n) (hv : valid n = true → sz n < 800000) (x : List UInt8) (hx : x.length < 1000000000) : DFun Tryz.prog W0 22 [.int .i64 v, encTop n, .str x] (.tup [.str (sourceV nm v n x).1, .int .i64 (sourceV nm v n x).2]) := by
  refine DFun.intro ti_ok Tryz.func22 rfl (by decide +kernel) Tryz.ntmps22 rfl fun Γ => ?_
  have hz := hn
  unfold Fits at hz
  refine Tri.seq ?_
  refine Tri.region ti_ok ?_
  conv => whnf
  intro b4
  conv => whnf
  intro b5
  conv => whnf
  refine Tri.seq ?_
  refine Tri.region ti_ok ?_
  conv => whnf
  intro b8
  conv => whnf
  intro b9
  conv => whnf
  refine ⟨rfl, ?_⟩
  conv => whnf
  refine ⟨rfl, ?_⟩
  conv => whnf
  refine Tri.seq ?_
  refine Tri.seq ?_
  refine Tri.regionX ti_ok ?_
  conv => whnf
  refine .inl ?_
  conv => whnf
  refine ⟨rfl, ?_⟩
  conv => whnf
  refine .inr (XOp.call rfl [.int .i64 v, encTop n, .fn (.func 68) [] [.box 2000 b5 0, .box 2001 b8 0, .box 2002 b9 0]] [(2000, 5), (2001, 8), (2002, 9)] (F65x (pathA b5 b8 b9 x) (updS x) 68 _ (visitS b5 b8 b9 x) hL nm v hnm n (by omega) hv ([], 6)) rfl ⟨.refl _, .refl _, DLe.fn trivial ⟨DLe.box, DLe.box, DLe.box, trivial⟩, trivial⟩ ?_)
  rintro d' H' ⟨rfl, e1, e2, e3⟩
  refine ⟨_, .refl _, ?_⟩
  conv => whnf
  intro b10
  conv => whnf
  refine .inl ?_
  conv => whnf
  refine ⟨rfl, ?_⟩
  conv => whnf
  refine Tri.seq ?_
  refine Tri.forgetK [(0, .int .i64 v), (4, .box 4 b4 0), (5, .box 5 b5 0), (8, .box 8 b8 0), (9, .box 9 b9 0), (11, .int .i64 (viewR nm v n).2)] [(4, .box b4 (cellsN n)), (5, .box b5 [.str x]), (8, .box b8 [.str (visR (updS x) nm v n ([], 6)).1]), (9, .box b9 [.int .i64 (visR (updS x) nm v n ([], 6)).2])] [(4, 4), (5, 5), (8, 8), (9, 9)] ⟨⟨.refl _, .refl _, .refl _, .refl _, .refl _, .refl _, trivial⟩, rfl, rfl, rfl, rfl, e1, rfl, e2, rfl, e3, trivial⟩ ?_
  refine Tri.region ti_ok ?_
  conv => whnf
  refine Tri.cond _ rfl (fun hc => ?_) (fun hc => ?_)
  · refine Tri.seq ?_
    refine Tri.region ti_ok ?_
    conv => whnf
    refine Tri.ret ?_
    conv => whnf
    have h0 : ¬ (viewR nm v n).2 = 0 := by simpa using hc
    rw [show sourceV nm v n x = ([], (viewR nm v n).2) from by rw [sourceV, if_neg h0]]
    exact ⟨.refl _, .refl _, trivial⟩
  · refine Tri.skip ?_
    conv => whnf
    refine Tri.seq ?_
    refine Tri.draw ti_ok mixed (by kernel_rfl) ?_
    have h0 : (viewR nm v n).2 = 0 := by simpa using hc
    conv => whnf
    refine ⟨rfl, ?_⟩
    conv => whnf
    refine ⟨rfl, ?_⟩
    conv => whnf
    refine Tri.ret ?_
    conv => whnf
    rw [show sourceV nm v n x = visR (updS x) nm v n ([], 6) from by rw [sourceV, if_pos h0]]
    exact ⟨.refl _, .refl _, trivial⟩
end Go.Tame.V
/- Contracts: the other way of paths: pairs. By program (mk.py). -/
namespace Go.Tame.V
open Go Go.Proofs
variable {W0 : World}
set_option maxRecDepth 10000
set_option linter.unusedVariables false
set_option linter.unusedSimpArgs false

end Go.Tame.V
/- The names of any kids, in any order. Plain. -/
namespace Go.Tame.V
open Go Go.Proofs
variable {W0 : World}
set_option maxRecDepth 10000
set_option linter.unusedVariables false
set_option linter.unusedSimpArgs false

/-- The name that the kid with the name m gets, among kids in order. -/
def nameFor (v : Int) (ks : List NV) (m : List UInt8) : List UInt8 := (((ks.map NV.name).zip (namesG v ks)).lookup m).getD []
def namesU (v : Int) (kids : List NV) : List (List UInt8) := kids.map fun k => nameFor v (sortN kids) k.name
def allOk (kids : List NV) : Bool := kids.all fun k => nameOk k.name
/-- What Names hands back. -/
def namesR (v : Int) (kids : List NV) : List (List UInt8) × Int :=
  if viewOk v = false then ([], 2) else if 64 < kids.length then ([], 7) else if allOk kids = false then ([], 4) else if ¬ (kids.map NV.name).Nodup then ([], 5) else (namesU v kids, 0)
theorem lookup_zip : ∀ {a : List (List UInt8)} {b : List (List UInt8)} {i : Nat} (hn : a.Nodup) (h : i < a.length) (h' : i < b.length), (a.zip b).lookup a[i] = some b[i]
  | x :: a, y :: b, 0, _, _, _ => by simp [List.lookup]
  | x :: a, y :: b, i + 1, hn, h, h' => by
    rw [List.nodup_cons] at hn
    have ih := lookup_zip (a := a) (b := b) (i := i) hn.2 (by simpa using h) (by simpa using h')
    have hne : ((a[i]'(by simpa using h)) == x) = false := by
      rw [beq_eq_false_iff_ne]
      intro e
      exact hn.1 (e ▸ List.getElem_mem _)
    simp only [List.zip_cons_cons, List.getElem_cons_succ, List.lookup, hne]
    exact ih
theorem nameFor_get {v : Int} {ks : List NV} (hn : (ks.map NV.name).Nodup) {t : Nat} (h : t < ks.length) : nameFor v ks ks[t].name = (namesG v ks)[t]'(by rw [namesG_len]; exact h) := by
  have := lookup_zip (a := ks.map NV.name) (b := namesG v ks) (i := t) hn (by simpa using h) (by rw [namesG_len]; exact h)
  rw [List.getElem_map] at this
  rw [nameFor, this]; rfl
theorem inc_nodup {ks : List NV} (h : inc ks) : (ks.map NV.name).Nodup := by
  rw [List.nodup_iff_pairwise_ne, List.pairwise_map]
  exact List.pairwise_iff_getElem.2 fun i j hi hj hij => bl_ne (inc_get h hij hj)
theorem namesU_inc {v : Int} {ks : List NV} (h : inc ks) : namesU v ks = namesG v ks := by
  rw [namesU, sortN_id h]
  apply List.ext_getElem (by simp [namesG_len])
  intro i h1 h2
  rw [List.getElem_map, nameFor_get (inc_nodup h)]

theorem idxOf_get : ∀ {L : List Nat} {t : Nat} (hn : L.Nodup) (ht : t < L.length), L.idxOf L[t] = t
  | x :: r, 0, _, _ => by simp
  | x :: r, t + 1, hn, ht => by
    rw [List.nodup_cons] at hn
    have ht' : t < r.length := by simpa using ht
    have hne : ¬ (x == r[t]) = true := fun e => hn.1 (by rw [beq_iff_eq] at e; rw [e]; exact List.getElem_mem ht')
    rw [List.getElem_cons_succ, List.idxOf_cons, Bool.cond_eq_ite, if_neg hne, idxOf_get hn.2 ht']
/-- An order of the places, sorted by the names there. -/
structure Order (kids : List NV) (L : List Nat) : Prop where
  perm : L.Perm (List.range kids.length)
  sorted : ∀ (i j : Nat) (hi : i < L.length) (hj : j < L.length), i < j → Op.bytesLess (kids.getD L[j] default).name (kids.getD L[i] default).name = false
def inOrder (kids : List NV) (L : List Nat) : List NV := L.map fun i => kids.getD i default
section
variable {kids : List NV} {L : List Nat}
theorem Order.len (h : Order kids L) : L.length = kids.length := by rw [h.perm.length_eq]; simp
theorem Order.lt (h : Order kids L) {t : Nat} (ht : t < L.length) : L[t] < kids.length := List.mem_range.1 (h.perm.subset (List.getElem_mem ht))
theorem Order.nodup (h : Order kids L) : L.Nodup := h.perm.nodup_iff.2 List.nodup_range
theorem Order.mem (h : Order kids L) {j : Nat} (hj : j < kids.length) : j ∈ L := h.perm.symm.subset (List.mem_range.2 hj)
theorem order_perm (h : Order kids L) : (inOrder kids L).Perm kids := by
  have h1 := h.perm.map fun i => kids.getD i default
  have h2 : (List.range kids.length).map (fun i => kids.getD i default) = kids := by
    apply List.ext_getElem (by simp)
    intro i h1 h2
    simp at h1
    simp [List.getD, h1]
  rw [h2] at h1; exact h1
theorem order_len (h : Order kids L) : (inOrder kids L).length = kids.length := (order_perm h).length_eq
theorem order_get (h : Order kids L) {t : Nat} (ht : t < L.length) : (inOrder kids L)[t]'(by simp [inOrder]; exact ht) = kids[L[t]]'(h.lt ht) := by
  simp [inOrder, List.getD, h.lt ht]
/-- Without equal neighbours the order rises. -/
theorem order_inc (h : Order kids L) (hn : ∀ t, (h1 : t + 1 < L.length) → (kids.getD L[t] default).name ≠ (kids.getD L[t + 1] default).name) : inc (inOrder kids L) := fun i hi => by
  have hi' : i + 1 < L.length := by rw [h.len, ← order_len h]; exact hi
  have h1 := h.sorted i (i + 1) (by omega) hi' (by omega)
  have h2 := hn i hi'
  have e : ∀ t, (ht : t < L.length) → ((inOrder kids L).getD t default) = kids.getD L[t] default := fun t ht => by simp [inOrder, List.getD, ht]
  rw [e i (by omega), e (i + 1) hi']
  cases h3 : Op.bytesLess (kids.getD L[i] default).name (kids.getD L[i + 1] default).name with
  | true => rfl
  | false => exact absurd (bl_total _ _ h3 h1) h2
theorem order_sort (h : Order kids L) (hi : inc (inOrder kids L)) : sortN kids = inOrder kids L := by
  refine sorted_nodes hi ((sortN_perm kids).trans (order_perm h).symm) fun i j hi hj hij => List.pairwise_iff_getElem.1 (sortN_sorted kids) i j hi hj hij
theorem order_nodup (h : Order kids L) (hi : inc (inOrder kids L)) : (kids.map NV.name).Nodup := ((order_perm h).map NV.name).nodup_iff.1 (inc_nodup hi)
theorem order_dup (h : Order kids L) {s t : Nat} (hs : s < t) (ht : t < L.length) (e : (kids.getD L[s] default).name = (kids.getD L[t] default).name) : ¬ (kids.map NV.name).Nodup := fun hn => by
  have h1 := h.lt (t := s) (by omega)
  have h2 := h.lt ht
  have hne : L[s] ≠ L[t] := fun e => by
    have := (List.pairwise_iff_getElem.1 (List.nodup_iff_pairwise_ne.1 h.nodup)) s t (by omega) ht hs
    exact this e
  rw [List.nodup_iff_pairwise_ne, List.pairwise_map] at hn
  have hp := List.pairwise_iff_getElem.1 hn
  simp only [List.getD, List.getElem?_eq_getElem h1, List.getElem?_eq_getElem h2, Option.getD_some] at e
  rcases Nat.lt_trichotomy L[s] L[t] with l | l | l
  · exact hp _ _ h1 h2 l e
  · exact hne l
  · exact hp _ _ h2 h1 l e.symm

/-- The row of names, some places of which are set. -/
def rowF (n : Nat) (L : List Nat) (g : Nat → List UInt8) (t : Nat) : List D := (List.range n).map fun j => if j ∈ L.take t then .str (g j) else .str []
theorem rowF_len {n : Nat} {g : Nat → List UInt8} {t : Nat} : (rowF n L g t).length = n := by simp [rowF]
theorem rowF_zero {n : Nat} {g : Nat → List UInt8} : rowF n L g 0 = List.replicate n (.str []) := by
  apply List.ext_getElem (by simp [rowF])
  intro i h1 h2
  simp [rowF]
theorem rowF_set {n : Nat} {g : Nat → List UInt8} {t : Nat} (ht : t < L.length) (hl : L[t] < n) : (rowF n L g t).set L[t] (.str (g L[t])) = rowF n L g (t + 1) := by
  apply List.ext_getElem (by simp [rowF])
  intro i h1 h2
  rw [List.getElem_set]
  simp only [rowF, List.getElem_map, List.getElem_range, List.take_succ_eq_append_getElem ht, List.mem_append, List.mem_singleton]
  by_cases e : L[t] = i
  · subst e; simp
  · have e' : ¬ i = L[t] := fun h => e h.symm
    rw [if_neg e]; simp [e']
theorem rowF_all {v : Int} (h : Order kids L) {g : Nat → List UInt8} (hg : ∀ j, (hj : j < kids.length) → g j = nameFor v (sortN kids) kids[j].name) : rowF kids.length L g L.length = strs (namesU v kids) := by
  apply List.ext_getElem (by simp [rowF, strs, namesU])
  intro i h1 h2
  have hi : i < kids.length := by simpa [rowF] using h1
  simp only [rowF, strs, namesU, List.getElem_map, List.getElem_range, List.take_length]
  rw [if_pos (h.mem hi), hg i hi]
/-- The name at a place, by the place's position in the order. -/
def pickAt (v : Int) (kids : List NV) (L : List Nat) (j : Nat) : List UInt8 := (namesG v (inOrder kids L)).getD (L.idxOf j) []
theorem pickAt_get (h : Order kids L) {v : Int} {t : Nat} (ht : t < L.length) : pickAt v kids L L[t] = pickG v (usedG v ((inOrder kids L).take t)) (kids[L[t]]'(h.lt ht)) := by
  have hlen : t < (inOrder kids L).length := by simp [inOrder]; exact ht
  rw [pickAt, idxOf_get h.nodup ht]
  have h1 : t < (namesG v (inOrder kids L)).length := by rw [namesG_len]; exact hlen
  rw [List.getD, List.getElem?_eq_getElem h1, Option.getD_some, ← order_get h ht]
  -- the t-th of the names is made out of the first t kids
  have key : ∀ (ks : List NV) (t : Nat) (ht : t < ks.length), (namesG v ks)[t]'(by rw [namesG_len]; exact ht) = pickG v (usedG v (ks.take t)) ks[t] := by
    intro ks t ht
    have e : ∀ ks : List NV, ∀ m, m ≤ ks.length → (usedG v ks).reverse.take m = (usedG v (ks.take m)).reverse := by
      intro ks
      refine snoc_rec (p := fun ks => ∀ m, m ≤ ks.length → (usedG v ks).reverse.take m = (usedG v (ks.take m)).reverse) (fun m hm => by simp at hm; subst hm; rfl) (fun l x ih m hm => ?_) ks
      rw [usedG_snoc, List.reverse_cons]
      by_cases hml : m ≤ l.length
      · rw [List.take_append_of_le_length (by simp [usedG_len]; exact hml), ih m hml, List.take_append_of_le_length hml]
      · have hm' : m = l.length + 1 := by simp at hm; omega
        subst hm'
        rw [List.take_of_length_le (by simp [usedG_len]), List.take_of_length_le (by simp), usedG_snoc, List.reverse_cons]
    have h2 := e ks (t + 1) (by omega)
    have h3 : (namesG v ks)[t]? = ((namesG v ks).take (t + 1))[t]? := by rw [List.getElem?_take, if_pos (by omega)]
    have h4 : (namesG v ks).take (t + 1) = (usedG v (ks.take (t + 1))).reverse := h2
    rw [h4, usedG_take ht, List.reverse_cons, List.getElem?_append_right (by simp [usedG_len]; omega)] at h3
    have h5 : (usedG v (ks.take t)).reverse.length = t := by simp [usedG_len]; omega
    rw [h5, Nat.sub_self] at h3
    rw [List.getElem?_eq_getElem (by rw [namesG_len]; exact ht)] at h3
    simpa using h3
  exact key _ t hlen
theorem pickAt_for (h : Order kids L) {v : Int} (hi : inc (inOrder kids L)) {j : Nat} (hj : j < kids.length) : pickAt v kids L j = nameFor v (sortN kids) kids[j].name := by
  obtain ⟨t, ht, rfl⟩ := List.mem_iff_getElem.1 (h.mem hj)
  have hlen : t < (inOrder kids L).length := by simp [inOrder]; exact ht
  rw [order_sort h hi, ← order_get h ht, nameFor_get (inc_nodup hi) hlen, pickAt, idxOf_get h.nodup ht, List.getD, List.getElem?_eq_getElem (by rw [namesG_len]; exact hlen), Option.getD_some]
end
/-- The sort of a row of places, by the names there. -/
theorem sort_order (kids : List NV) (hlen : kids.length < 1000000) (bb : Nat) (v : Value) :
    DCall Tryz.prog W0 76 [.raw v, .fn (.func 77) [] [.box 2000 bb 0]] (look [(2001, .row v (places kids.length) 1 3), (2000, .box bb [.sl .none 12 (kids.map enc)])]) fun d H' =>
      d = .tup [] ∧ ∃ L : List Nat, Order kids L ∧ H' = look [(2001, .row v (L.map encI) 1 3), (2000, .box bb [.sl .none 12 (kids.map enc)])] := by
  by_cases h0 : 0 < kids.length
  · have hc := F123 (W0 := W0) kids h0 hlen bb v (List.finRange kids.length) (by simpa using h0) (by simpa using hlen)
    rw [places_fin] at hc
    refine hc.mono ?_
    rintro d H' ⟨rfl, ds', hp, hs, rfl⟩
    refine ⟨rfl, ds'.map (fun x => x.1), ⟨?_, fun i j hi hj hij => ?_⟩, by rw [List.map_map]; rfl⟩
    · have := hp.map (fun x : Fin kids.length => x.1)
      have e : (List.finRange kids.length).map (fun x : Fin kids.length => x.1) = List.range kids.length := by
        apply List.ext_getElem (by simp)
        intro i h1 h2
        simp
      rwa [e] at this
    · simp only [List.length_map] at hi hj
      have := hs i j hi hj hij
      simpa [List.getD] using this
  · have hn : kids = [] := List.eq_nil_of_length_eq_zero (by omega)
    subst hn
    refine (F123_nil v _ _).mono ?_
    rintro d H' ⟨rfl, rfl⟩
    exact ⟨rfl, [], ⟨.refl _, fun i j hi => by simp at hi⟩, rfl⟩
end Go.Tame.V
/- The names that are made for a view are names. Plain. -/
namespace Go.Tame.V
open Go Go.Proofs
set_option maxRecDepth 10000
set_option linter.unusedVariables false
set_option linter.unusedSimpArgs false

theorem enc_slash {r : Int} (h : isChar r = true) (hi : (47 : UInt8) ∈ (Utf8.encode r).data.toList) : r = 47 := by
  obtain ⟨h1, h2, h3⟩ := (isChar_iff r).1 h
  obtain ⟨n, rfl⟩ : ∃ n : Nat, r = n := ⟨r.toNat, by omega⟩
  have hU : ∀ x : Nat, x < 256 → (UInt8.ofNat x).toNat = x := fun x hx => by rw [UInt8.toNat_ofNat']; omega
  have e47 : (47 : UInt8).toNat = 47 := rfl
  have hne : ∀ x : Nat, x < 256 → 128 ≤ x → (47 : UInt8) ≠ UInt8.ofNat x := fun x hx h128 e => by
    have := congrArg UInt8.toNat e
    rw [hU x hx] at this
    omega
  have hv : Utf8.valid (n : Int) = true := by simp [Utf8.valid]; omega
  by_cases h1' : n < 128
  · have e : (Utf8.encode (n : Int)).data.toList = [UInt8.ofNat n] := by
      unfold Utf8.encode; simp only [hv, if_true, Int.toNat_natCast]; rw [if_pos h1']
    rw [e, List.mem_singleton] at hi
    have := congrArg UInt8.toNat hi
    rw [hU n (by omega)] at this
    omega
  · exfalso
    by_cases h2 : n < 2048
    · have e : (Utf8.encode (n : Int)).data.toList = [UInt8.ofNat (192 + n / 64), UInt8.ofNat (128 + n % 64)] := by
        unfold Utf8.encode; simp only [hv, if_true, Int.toNat_natCast]; rw [if_neg h1', if_pos h2]
      rw [e] at hi
      simp only [List.mem_cons, List.mem_nil_iff, or_false] at hi
      rcases hi with hi | hi
      · exact hne (192 + n / 64) (by omega) (by omega) hi
      · exact hne (128 + n % 64) (by omega) (by omega) hi
    · have e : (Utf8.encode (n : Int)).data.toList = [UInt8.ofNat (224 + n / 4096), UInt8.ofNat (128 + n / 64 % 64), UInt8.ofNat (128 + n % 64)] := by
        unfold Utf8.encode; simp only [hv, if_true, Int.toNat_natCast]; rw [if_neg h1', if_neg h2, if_pos (by omega)]
      rw [e] at hi
      simp only [List.mem_cons, List.mem_nil_iff, or_false] at hi
      rcases hi with hi | hi | hi
      · exact hne (224 + n / 4096) (by omega) (by omega) hi
      · exact hne (128 + n / 64 % 64) (by omega) (by omega) hi
      · exact hne (128 + n % 64) (by omega) (by omega) hi
theorem runes_slash {l : List Int} (h : ∀ r ∈ l, isChar r = true) (hm : (47 : UInt8) ∈ runesB l) : (47 : Int) ∈ l := by
  induction l with
  | nil => simp [runesB] at hm
  | cons r l ih =>
    have e : runesB (r :: l) = (Utf8.encode r).data.toList ++ runesB l := by simp [runesB]
    rw [e, List.mem_append] at hm
    rcases hm with hm | hm
    · rw [enc_slash (h r List.mem_cons_self) hm]; exact List.mem_cons_self
    · exact List.mem_cons_of_mem _ (ih (fun x hx => h x (List.mem_cons_of_mem _ hx)) hm)
/-- Some characters are a name. -/
theorem nameOk_runes {l : List Int} (h : ∀ r ∈ l, isChar r = true) (h1 : 1 ≤ l.length) (h2 : l.length ≤ 64) (h3 : (47 : Int) ∉ l) (h4 : l ≠ [46]) (h5 : l ≠ [46, 46]) : nameOk (runesB l) = true := by
  have hc := charsP_of l h
  have hlen := runesB_len l
  have hd : charsP [46] = some [46] := by decide +kernel
  have hdd : charsP [46, 46] = some [46, 46] := by decide +kernel
  unfold nameOk
  rw [if_neg]
  · have hch : chars (runesB l) = (l, 0) := by
      unfold chars
      rw [if_neg (by omega), hc]
    rw [hch]
    simp [h1, h2]
  · rintro (e | e | e)
    · rw [e, hd] at hc; simp at hc; exact h4 hc.symm
    · rw [e, hdd] at hc; simp at hc; exact h5 hc.symm
    · exact h3 (runes_slash h e)

theorem jolC_slash (r : Int) : jolC r ≠ 47 := by
  unfold jolC
  split
  · decide
  · rename_i h
    intro e
    subst e
    exact h (by decide)
theorem isoC_slash (r : Int) : isoC r ≠ 47 ∧ isoC r ≠ 46 := by
  unfold isoC
  split
  · constructor <;> omega
  · split
    · rename_i h
      constructor <;> (intro e; subst e; exact absurd h.2 (by decide))
    · constructor <;> decide
theorem mapC_slash (v r : Int) : mapC v r ≠ 47 := by
  unfold mapC
  split
  · exact (isoC_slash r).1
  · exact jolC_slash r
theorem suf_digs {k : Nat} (hk : k < 100) : ∀ r ∈ sufI k, 48 ≤ r ∧ r ≤ 57 := by
  revert k
  have : ∀ k : Fin 100, ∀ r ∈ sufI k.1, 48 ≤ r ∧ r ≤ 57 := by decide +kernel
  intro k hk
  exact this ⟨k, hk⟩
theorem suf_pos {k : Nat} (hk : k < 100) (h0 : 0 < k) : 1 ≤ (sufI k).length := by
  revert k
  have : ∀ k : Fin 100, 0 < k.1 → 1 ≤ (sufI k.1).length := by decide +kernel
  intro k hk h0
  exact this ⟨k, hk⟩ h0
theorem dotI_le : ∀ l : List Int, dotI l < l.length ∧ -1 ≤ dotI l
  | [] => by simp [dotI]
  | x :: r => by
    have := dotI_le r
    simp only [dotI, List.length_cons]
    split
    · omega
    · split <;> omega
/-- A made name is a name. -/
theorem made_ok {v : Int} (hv : v = 0 ∨ v = 1) {s : List UInt8} (hs : nameOk s = true) (dir : Bool) {k : Nat} (hk : k < 100) : nameOk (numS v (wantS v s dir).1 (wantS v s dir).2 k) = true := by
  obtain ⟨l, hc, _, _, hl1, hl2⟩ := name_chars hs
  obtain ⟨hb, hch⟩ := chars_bytes s.length s l (Nat.le_refl _) hc
  obtain ⟨q1, q2, q3⟩ := cut_chars v hc dir
  have hne46 : l ≠ [46] := fun e => by
    subst e
    have : s = [46] := by rw [← hb]; decide +kernel
    rw [this] at hs; revert hs; decide +kernel
  have hne4646 : l ≠ [46, 46] := fun e => by
    subst e
    have : s = [46, 46] := by rw [← hb]; decide +kernel
    rw [this] at hs; revert hs; decide +kernel
  obtain ⟨pc1, pc2⟩ := parts_char (v := v) (dir := dir) hch
  -- the parts
  have hparts : 1 ≤ (partsC v l dir).1.length ∧ (partsC v l dir).1.length ≤ 64 ∧ (v = 1 → (partsC v l dir).2.length ≤ 16) ∧ ((partsC v l dir).2 = [] → v = 1 → (partsC v l dir).1 = l) := by
    have hd := dotI_le l
    unfold partsC
    split
    · rename_i h
      refine ⟨by simp; omega, by simp; omega, fun h1 => ?_, fun h2 => ?_⟩
      · rcases h.2.2.2 with h3 | h3
        · omega
        · simp; omega
      · intro _
        rw [List.drop_eq_nil_iff] at h2
        omega
    · split
      · rename_i h
        exact ⟨by simp; omega, by simp; omega, fun _ => by simp, fun _ h1 => absurd h.2.1 (by omega)⟩
      · exact ⟨hl1, hl2, fun _ => by simp, fun _ _ => rfl⟩
  have hw : wantS v s dir = ((partsC v l dir).1.map (mapC v), if (partsC v l dir).2 = [] then [] else 46 :: ((partsC v l dir).2.map (mapC v)).take (mostC v)) := by
    unfold wantS
    rw [q1, q2]
    by_cases h : (partsC v l dir).2 = []
    · rw [if_pos (q3.2 h), if_pos h]
    · rw [if_neg (fun e => h (q3.1 e)), if_neg h]
  rw [hw]
  generalize (partsC v l dir).1 = a at *
  generalize (partsC v l dir).2 = b at *
  dsimp only
  obtain ⟨ha1, ha2, hb16, hbn⟩ := hparts
  have hA : ∀ r ∈ a.map (mapC v), isChar r = true ∧ r ≠ 47 := fun r hr => by
    obtain ⟨x, hx, rfl⟩ := List.mem_map.1 hr
    exact ⟨mapC_char (pc1 x hx), mapC_slash v x⟩
  generalize hE : (if b = [] then [] else 46 :: (b.map (mapC v)).take (mostC v)) = ex
  have hEx : (∀ r ∈ ex, isChar r = true ∧ r ≠ 47) ∧ (ex = [] ∨ 2 ≤ ex.length) ∧ (v = 0 → ex.length ≤ 4) ∧ (v = 1 → ex.length ≤ 17) ∧ (ex = [] → b = []) := by
    rw [← hE]
    by_cases h : b = []
    · rw [if_pos h]
      exact ⟨fun r hr => by (cases hr), .inl rfl, fun _ => by (simp), fun _ => by (simp), fun _ => h⟩
    · rw [if_neg h]
      have hbl : 1 ≤ b.length := by cases b with | nil => exact absurd rfl h | cons x r => simp
      refine ⟨fun r hr => ?_, .inr ?_, fun h0 => ?_, fun h1 => ?_, fun e => by cases e⟩
      · rcases List.mem_cons.1 hr with rfl | hr
        · exact ⟨by decide, by decide⟩
        · obtain ⟨x, hx, rfl⟩ := List.mem_map.1 (List.mem_of_mem_take hr)
          exact ⟨mapC_char (pc2 x hx), mapC_slash v x⟩
      · have : 1 ≤ mostC v := by unfold mostC; split <;> omega
        simp; omega
      · have : mostC v = 3 := by unfold mostC; rw [if_pos h0]
        simp; omega
      · have := hb16 h1
        simp; omega
  obtain ⟨he1, he2, he3, he4, he5⟩ := hEx
  have hS := suf_digs hk
  have hSl := sufI_len hk
  have hst : stemN v (a.map (mapC v)) ex k ≤ a.length ∧ 1 ≤ stemN v (a.map (mapC v)) ex k ∧ stemN v (a.map (mapC v)) ex k + (sufI k).length + ex.length ≤ 64 ∧ (v = 1 → k = 0 → ex = [] → stemN v (a.map (mapC v)) ex k = a.length) := by
    unfold stemN roomI
    rw [List.length_map]
    rcases hv with rfl | rfl
    · have := he3 rfl
      rw [show ((0 : Int) == 1) = false from rfl, cond_false]
      refine ⟨by split <;> split <;> omega, by split <;> split <;> omega, by split <;> split <;> omega, fun h => by omega⟩
    · have := he4 rfl
      rw [show ((1 : Int) == 1) = true from rfl, cond_true]
      refine ⟨by split <;> split <;> omega, by split <;> split <;> omega, by split <;> split <;> omega, fun _ h0 h1 => ?_⟩
      subst h0 h1
      have : (sufI 0).length = 0 := rfl
      rw [this]
      simp only [List.length_nil]
      split <;> split <;> omega
  obtain ⟨hs1, hs2, hs3, hs4⟩ := hst
  rw [numS]
  have htl : ((a.map (mapC v)).take (stemN v (a.map (mapC v)) ex k)).length = stemN v (a.map (mapC v)) ex k := by simp; omega
  generalize hN : stemN v (a.map (mapC v)) ex k = N at *
  have hall : ∀ r ∈ (a.map (mapC v)).take N ++ sufI k ++ ex, isChar r = true ∧ r ≠ 47 := fun r hr => by
    rcases List.mem_append.1 hr with hr | hr
    · rcases List.mem_append.1 hr with hr | hr
      · exact hA r (List.mem_of_mem_take hr)
      · have := hS r hr
        exact ⟨(isChar_iff r).2 (by omega), by omega⟩
    · exact he1 r hr
  have hlen : ((a.map (mapC v)).take N ++ sufI k ++ ex).length = N + (sufI k).length + ex.length := by
    rw [List.length_append, List.length_append, htl]
  -- not one or two points
  have hpt : ∀ m : Nat, 1 ≤ m → m ≤ 2 → (a.map (mapC v)).take N ++ sufI k ++ ex = List.replicate m 46 → l = List.replicate m 46 := fun m hm1 hm2 e => by
    have hel := congrArg List.length e
    rw [hlen, List.length_replicate] at hel
    have hex : ex = [] := by
      rcases he2 with h | h
      · exact h
      · omega
    have hbn' := he5 hex
    have hk0 : k = 0 := by
      rcases Nat.eq_zero_or_pos k with h | h
      · exact h
      · exfalso
        have h1 := suf_pos hk h
        obtain ⟨x, hx⟩ : ∃ x, x ∈ sufI k := by
          cases hsx : sufI k with
          | nil => rw [hsx] at h1; simp at h1
          | cons x r => exact ⟨x, List.mem_cons_self⟩
        have h2 := hS x hx
        have h3 : x ∈ List.replicate m (46 : Int) := by rw [← e]; simp [hx]
        have := (List.mem_replicate.1 h3).2
        omega
    subst hk0 hex
    have hsz : (sufI 0) = [] := rfl
    rw [hsz, List.append_nil, List.append_nil] at e
    rcases hv with rfl | rfl
    · exfalso
      cases a with
      | nil => simp at ha1
      | cons x r =>
        obtain ⟨N', rfl⟩ : ∃ N', N = N' + 1 := ⟨N - 1, by omega⟩
        have h3 : mapC 0 x ∈ List.replicate m (46 : Int) := by rw [← e]; simp
        have h4 := (List.mem_replicate.1 h3).2
        exact (isoC_slash x).2 (by simpa [mapC] using h4)
    · have hNa := hs4 rfl rfl rfl
      rw [hNa, List.take_of_length_le (by simp)] at e
      have hal : a = l := hbn hbn' rfl
      subst hal
      have hmm : ∀ x ∈ a, x = 46 := fun x hx => by
        have h3 : mapC 1 x ∈ List.replicate m (46 : Int) := by rw [← e]; exact List.mem_map.2 ⟨x, hx, rfl⟩
        have h4 := (List.mem_replicate.1 h3).2
        have h5 : jolC x = 46 := by simpa [mapC] using h4
        unfold jolC at h5
        split at h5
        · omega
        · exact h5
      refine List.eq_replicate_iff.2 ⟨?_, hmm⟩
      have := congrArg List.length e
      simpa using this
  refine nameOk_runes (fun r hr => (hall r hr).1) (by rw [hlen]; omega) (by rw [hlen]; omega) (fun hm => (hall 47 hm).2 rfl) (fun e => ?_) (fun e => ?_)
  · exact hne46 (hpt 1 (by omega) (by omega) e)
  · exact hne4646 (hpt 2 (by omega) (by omega) e)
theorem pickG_ok {v : Int} (hv : viewOk v = true) {k : NV} (hk : nameOk k.name = true) {U : List (List UInt8)} (hU : U.length ≤ 64) : nameOk (pickG v U k) = true := by
  unfold pickG
  split
  · rename_i h
    exact made_ok h hk (k.kind == 0) (fresh_ok v U _ _ hU).1
  · exact hk
theorem usedG_ok {v : Int} (hv : viewOk v = true) (ks : List NV) : ks.length ≤ 64 → (∀ k ∈ ks, nameOk k.name = true) → ∀ m ∈ usedG v ks, nameOk m = true := by
  refine snoc_rec (p := fun ks => ks.length ≤ 64 → (∀ k ∈ ks, nameOk k.name = true) → ∀ m ∈ usedG v ks, nameOk m = true) (fun _ _ m hm => by simp [usedG] at hm) (fun l x ih hl h m hm => ?_) ks
  simp at hl
  rw [usedG_snoc] at hm
  rcases List.mem_cons.1 hm with rfl | hm
  · exact pickG_ok hv (h x (by simp)) (by rw [usedG_len]; omega)
  · exact ih (by omega) (fun k hk => h k (by simp [hk])) m hm
theorem namesG_ok {v : Int} (hv : viewOk v = true) {ks : List NV} (h64 : ks.length ≤ 64) (h : ∀ k ∈ ks, nameOk k.name = true) : ∀ m ∈ namesG v ks, nameOk m = true := fun m hm => usedG_ok hv ks h64 h m (List.mem_reverse.1 hm)
end Go.Tame.V
/- Made names, made again: the same. A shown tree, shown again. Plain. -/
namespace Go.Tame.V
open Go Go.Proofs
set_option maxRecDepth 10000
set_option linter.unusedVariables false
set_option linter.unusedSimpArgs false

theorem want_runes (v : Int) {l : List Int} (h : ∀ r ∈ l, isChar r = true) (dir : Bool) :
    wantS v (runesB l) dir = ((partsC v l dir).1.map (mapC v), if (partsC v l dir).2 = [] then [] else 46 :: ((partsC v l dir).2.map (mapC v)).take (mostC v)) := by
  obtain ⟨q1, q2, q3⟩ := cut_chars v (charsP_of l h) dir
  unfold wantS
  rw [q1, q2]
  by_cases h : (partsC v l dir).2 = []
  · rw [if_pos (q3.2 h), if_pos h]
  · rw [if_neg (fun e => h (q3.1 e)), if_neg h]
/-- Characters that Joliet allows. -/
def jolOk (l : List Int) : Prop := (∀ r ∈ l, isChar r = true ∧ jolC r = r) ∧ l.length ≤ 64
/-- A stem and an extension of the ISO view. -/
structure IsoOk (dir : Bool) (l : List Int) (a b : List Int) : Prop where
  a1 : 1 ≤ a.length
  a8 : a.length ≤ 8
  b3 : b.length ≤ 3
  ca : ∀ r ∈ a, isChar r = true ∧ isoC r = r
  cb : ∀ r ∈ b, isChar r = true ∧ isoC r = r
  dir : dir = true → b = []
  eq : l = if b = [] then a else a ++ 46 :: b
end Go.Tame.V
/- What made names look like; they are made of themselves. Plain. -/
namespace Go.Tame.V
open Go Go.Proofs
set_option maxRecDepth 10000
set_option linter.unusedVariables false
set_option linter.unusedSimpArgs false

theorem iso_idem {r : Int} (h : isChar r = true) : isoC (isoC r) = isoC r := by
  obtain ⟨h1, _, _⟩ := (isChar_iff r).1 h
  by_cases h2 : 97 ≤ r ∧ r ≤ 122
  · have e : isoC r = r - 97 + 65 := by rw [isoC, if_pos h2]
    rw [e, isoC, if_neg (by omega), if_pos ⟨by omega, by simp [dB]; omega⟩]
  · by_cases h3 : r < 128 ∧ dB r = true
    · have e : isoC r = r := by rw [isoC, if_neg h2, if_pos h3]
      rw [e, e]
    · have e : isoC r = 95 := by rw [isoC, if_neg h2, if_neg h3]
      rw [e]; decide
theorem jol_idem (r : Int) : jolC (jolC r) = jolC r := by
  by_cases h : special r = true
  · have e : jolC r = 95 := by rw [jolC, if_pos h]
    rw [e]; decide
  · have e : jolC r = r := by rw [jolC, if_neg h]
    rw [e, e]
theorem digit_fix {r : Int} (h : 48 ≤ r ∧ r ≤ 57) : isChar r = true ∧ isoC r = r ∧ jolC r = r := by
  refine ⟨(isChar_iff r).2 (by omega), ?_, ?_⟩
  · rw [isoC, if_neg (by omega), if_pos ⟨by omega, by simp [dB]; omega⟩]
  · rw [jolC, if_neg]
    simp [special]; omega
/-- A made name, taken apart. -/
theorem made_shape {v : Int} (hv : v = 0 ∨ v = 1) {s : List UInt8} (hs : nameOk s = true) (dir : Bool) {k : Nat} (hk : k < 100) :
    ∃ l, numS v (wantS v s dir).1 (wantS v s dir).2 k = runesB l ∧ (v = 0 → ∃ a b, IsoOk dir l a b) ∧ jolOk l := by
  obtain ⟨l, hc, _, _, hl1, hl2⟩ := name_chars hs
  obtain ⟨hb, hch⟩ := chars_bytes s.length s l (Nat.le_refl _) hc
  obtain ⟨pc1, pc2⟩ := parts_char (v := v) (dir := dir) hch
  have hw := want_runes v hch dir
  rw [hb] at hw
  have hparts : 1 ≤ (partsC v l dir).1.length ∧ (v = 1 → (partsC v l dir).2.length ≤ 16) ∧ (dir = true → (partsC v l dir).2 = []) := by
    have hd := dotI_le l
    unfold partsC
    split
    · rename_i h
      refine ⟨by simp; omega, fun h1 => ?_, fun h2 => ?_⟩
      · rcases h.2.2.2 with h3 | h3
        · omega
        · simp; omega
      · rw [h.1] at h2; cases h2
    · split
      · rename_i h
        exact ⟨by simp; omega, fun _ => by simp, fun _ => rfl⟩
      · exact ⟨hl1, fun _ => by simp, fun _ => rfl⟩
  rw [hw]
  generalize (partsC v l dir).1 = a at *
  generalize (partsC v l dir).2 = b at *
  obtain ⟨ha1, hb16, hdir⟩ := hparts
  dsimp only
  refine ⟨_, rfl, fun h0 => ?_, ?_⟩
  · subst h0
    have hS := suf_digs hk
    have hSl := sufI_len hk
    have hst : stemN 0 (a.map (mapC 0)) (if b = [] then [] else 46 :: (b.map (mapC 0)).take (mostC 0)) k + (sufI k).length ≤ 8 ∧ 1 ≤ stemN 0 (a.map (mapC 0)) (if b = [] then [] else 46 :: (b.map (mapC 0)).take (mostC 0)) k := by
      unfold stemN roomI
      rw [List.length_map, show ((0 : Int) == 1) = false from rfl, cond_false]
      refine ⟨by split <;> split <;> omega, by split <;> split <;> omega⟩
    generalize stemN 0 (a.map (mapC 0)) (if b = [] then [] else 46 :: (b.map (mapC 0)).take (mostC 0)) k = N at *
    have hmost : mostC 0 = 3 := by decide
    rw [hmost]
    have hfix : ∀ x : List Int, (∀ r ∈ x, isChar r = true) → ∀ r ∈ x.map (mapC 0), isChar r = true ∧ isoC r = r := fun x hx r hr => by
      obtain ⟨y, hy, rfl⟩ := List.mem_map.1 hr
      have e : mapC 0 y = isoC y := by simp [mapC]
      rw [e]
      exact ⟨by have := mapC_char (v := 0) (hx y hy); rwa [e] at this, iso_idem (hx y hy)⟩
    refine ⟨(a.map (mapC 0)).take N ++ sufI k, (b.map (mapC 0)).take 3, ?_⟩
    refine ⟨by simp; omega, by simp; omega, by simp; omega, fun r hr => ?_, fun r hr => hfix b pc2 r (List.mem_of_mem_take hr), fun hd => by rw [hdir hd]; rfl, ?_⟩
    · rcases List.mem_append.1 hr with hr | hr
      · exact hfix a pc1 r (List.mem_of_mem_take hr)
      · have := digit_fix (hS r hr)
        exact ⟨this.1, this.2.1⟩
    · by_cases hbn : b = []
      · subst hbn; simp
      · have hb3 : ¬ (b.map (mapC 0)).take 3 = [] := by
          cases b with
          | nil => exact absurd rfl hbn
          | cons x r => simp
        rw [if_neg hbn, if_neg hb3]
  · have hS := suf_digs hk
    have hSl := sufI_len hk
    have hfix : ∀ x : List Int, (∀ r ∈ x, isChar r = true) → ∀ r ∈ x.map (mapC v), isChar r = true ∧ jolC r = r := fun x hx r hr => by
      obtain ⟨y, hy, rfl⟩ := List.mem_map.1 hr
      refine ⟨mapC_char (hx y hy), ?_⟩
      unfold mapC
      split
      · -- a d-character or a line
        have h1 := iso_idem (hx y hy)
        rw [jolC, if_neg]
        intro hsp
        generalize isoC y = z at *
        have hz : z = 42 ∨ z = 47 ∨ z = 58 ∨ z = 59 ∨ z = 63 ∨ z = 92 := by simp [special] at hsp; omega
        rcases hz with rfl | rfl | rfl | rfl | rfl | rfl <;> revert h1 <;> decide
      · exact jol_idem y
    have hex : ∀ r ∈ (if b = [] then [] else 46 :: (b.map (mapC v)).take (mostC v)), isChar r = true ∧ jolC r = r := fun r hr => by
      split at hr
      · cases hr
      · rcases List.mem_cons.1 hr with rfl | hr
        · exact ⟨by decide, by decide⟩
        · exact hfix b pc2 r (List.mem_of_mem_take hr)
    have hexl : (if b = [] then [] else 46 :: (b.map (mapC v)).take (mostC v)).length ≤ 17 ∧ (v = 0 → (if b = [] then [] else 46 :: (b.map (mapC v)).take (mostC v)).length ≤ 4) := by
      split
      · simp
      · refine ⟨?_, fun h0 => ?_⟩
        · rcases hv with h0 | h1
          · have : mostC v = 3 := by unfold mostC; rw [if_pos h0]
            simp; omega
          · have := hb16 h1
            simp; omega
        · have : mostC v = 3 := by unfold mostC; rw [if_pos h0]
          simp; omega
    generalize (if b = [] then [] else 46 :: (b.map (mapC v)).take (mostC v)) = ex at *
    have hst : stemN v (a.map (mapC v)) ex k + (sufI k).length + ex.length ≤ 64 := by
      unfold stemN roomI
      rw [List.length_map]
      rcases hv with rfl | rfl
      · have := hexl.2 rfl
        rw [show ((0 : Int) == 1) = false from rfl, cond_false]
        split <;> split <;> omega
      · rw [show ((1 : Int) == 1) = true from rfl, cond_true]
        split <;> split <;> omega
    refine ⟨fun r hr => ?_, by simp; omega⟩
    rcases List.mem_append.1 hr with hr | hr
    · rcases List.mem_append.1 hr with hr | hr
      · exact hfix a pc1 r (List.mem_of_mem_take hr)
      · have := digit_fix (hS r hr)
        exact ⟨this.1, this.2.2⟩
    · exact hex r hr
end Go.Tame.V
/- A shown tree is valid, and shows itself. Plain. -/
namespace Go.Tame.V
open Go Go.Proofs
set_option maxRecDepth 10000
set_option linter.unusedVariables false
set_option linter.unusedSimpArgs false

theorem nz_none {f : Nat → Int} : ∀ {k i : Nat}, (∀ j, i ≤ j → j < i + k → f j = 0) → firstNZ f i k = 0
  | 0, i, _ => rfl
  | k + 1, i, h => by
    simp only [firstNZ]
    rw [if_pos (h i (Nat.le_refl _) (by omega))]
    exact nz_none fun j h1 h2 => h j (by omega) (by omega)
/-- The rules hold. -/
theorem one_of {n : NV} {l : Int} (h : Good n l) (hl : 1 ≤ l) : one n l = 0 := by
  refine nz_none fun i _ hi => ?_
  have hk := h.kind0
  match i, hi with
  | 0, _ =>
    have : cKind n l = false := by
      simp only [cKind, Bool.or_eq_false_iff, Bool.and_eq_false_iff, decide_eq_false_iff_not, beq_eq_false_iff_ne, Bool.not_eq_false', beq_iff_eq]
      refine ⟨⟨by omega, by omega⟩, ?_⟩
      by_cases h1 : l = 1
      · exact .inr (h.kind1 h1)
      · exact .inl h1
    simp [ruleI, rKind, this]
  | 1, _ =>
    have : cName n l = false := by
      simp only [cName, Bool.or_eq_false_iff, Bool.and_eq_false_iff, decide_eq_false_iff_not, beq_eq_false_iff_ne, Bool.not_eq_false', beq_iff_eq]
      by_cases h1 : l = 1
      · exact ⟨.inr (h.name1 h1), .inl (by omega)⟩
      · exact ⟨.inl h1, .inr (h.name2 (by omega))⟩
    simp [ruleI, rName, this]
  | 2, _ =>
    have : cParts n = false := by
      simp only [cParts, Bool.or_eq_false_iff, Bool.and_eq_false_iff, decide_eq_false_iff_not, beq_eq_false_iff_ne, Bool.not_eq_false', beq_iff_eq]
      refine ⟨⟨?_, ?_⟩, ?_⟩
      · by_cases h1 : n.kind = 1
        · exact .inl h1
        · have := h.file h1
          exact .inr ⟨this.1, by rw [this.2]; simp⟩
      · by_cases h1 : n.kind = 2
        · exact .inl h1
        · exact .inr (h.link h1)
      · by_cases h1 : n.kind = 0
        · exact .inl h1
        · exact .inr (by rw [h.dir h1]; simp)
    simp [ruleI, rParts, this]
  | 3, _ =>
    have : cTarget n = false := by
      simp only [cTarget, Bool.and_eq_false_iff, beq_eq_false_iff_ne, Bool.not_eq_false']
      by_cases h1 : n.kind = 2
      · exact .inr (h.target h1)
      · exact .inl h1
    simp [ruleI, rTarget, this]
  | 4, _ =>
    have h1 := h.n1; have h2 := h.n2; have h3 := h.n3; have h4 := h.n4; have h5 := h.n5; have h6 := h.n6
    have : cNumbers n = false := by
      simp only [cNumbers, within, Bool.or_eq_false_iff, Bool.not_eq_false', Bool.and_eq_true, decide_eq_true_eq]
      exact ⟨⟨⟨⟨⟨h1, h2⟩, h3⟩, h4⟩, h5⟩, h6⟩
    simp [ruleI, rNumbers, this]
  | 5, _ =>
    have h1 := h.level; have h2 := h.size; have h3 := h.kids64; have h4 := h.streams4
    have hc : cSizes n l = false := by
      simp only [cSizes, Bool.or_eq_false_iff, decide_eq_false_iff_not]
      exact ⟨⟨⟨by omega, by omega⟩, by omega⟩, by omega⟩
    simp only [ruleI, rSizes, hc]
    rw [if_neg (by simp)]
    refine nz_none fun j _ hj => ?_
    have := (h.streams j (by omega)).1
    simp [fZ]; omega
  | 6, _ =>
    simp only [ruleI, rStreams]
    exact nz_none fun j _ hj => (h.streams j (by omega)).2
  | 7, _ =>
    simp only [ruleI, rKids]
    refine nz_none fun j h1 hj => ?_
    have hlt := h.inc (j - 1) (by omega)
    have e : j - 1 + 1 = j := by omega
    rw [e] at hlt
    have hlt' : Op.bytesLess (kAt n (j - 1)).name (kAt n j).name = true := hlt
    simp only [fK, ordE]
    rw [if_neg (bl_ne hlt'), if_neg (by rw [bl_asymm hlt']; simp)]

mutual
theorem cnt_show (nm : List NV → List (List UInt8)) (v : Int) : ∀ (n : NV) (d : Int), cnt (showG nm v d n) ≤ cnt n
  | .mk a b c t e f g h i j ks ss, d => by
    have h1 := cntL_show nm v ks (nm ks) (d + 1)
    have h2 : cntL (sortN (showGL nm v (d + 1) ks (nm ks))) = cntL (showGL nm v (d + 1) ks (nm ks)) := cntL_perm (sortN_perm _)
    simp only [showG, cnt]; omega
theorem cntL_show (nm : List NV → List (List UInt8)) (v : Int) : ∀ (l : List NV) (ms : List (List UInt8)) (d : Int), cntL (showGL nm v d l ms) ≤ cntL l
  | [], ms, d => by simp [showGL]
  | k :: r, [], d => by simp [showGL, cntL]
  | k :: r, m :: ms, d => by
    have h1 := cnt_show nm v k d
    have h2 := cntL_show nm v r ms d
    have h3 : cnt ((showG nm v d k).named m) = cnt (showG nm v d k) := by rw [cnt_eq, cnt_eq]; rfl
    simp only [showGL]
    split
    · simp only [cntL]; omega
    · simp only [cntL]; omega
theorem cntL_perm {a b : List NV} (h : a.Perm b) : cntL a = cntL b := by
  induction h with
  | nil => rfl
  | cons x _ ih => simp only [cntL, ih]
  | swap x y l => simp only [cntL]; omega
  | trans _ _ h1 h2 => exact h1.trans h2
end
mutual
theorem good_show {v : Int} (hv : viewOk v = true) : ∀ (n : NV) (l : Int) (m : List UInt8), 1 ≤ l → goodB n l = true → (l = 1 → m = []) → (1 < l → nameOk m = true) → goodB ((showG (namesG v) v l n).named m) l = true
  | .mk a b c t e f g h i j ks ss, l, m, hl, hg, hm1, hm2 => by
    obtain ⟨G, hL⟩ := goodB_good hg
    have hok := good_okT _ l hl hg
    simp only [okT] at hok
    have hgl := good_showL hv ks (namesG v ks) (l + 1) (by omega) hL fun x hx => namesG_ok hv hok.1 (fun k hk => (okL_get hok.2.2.2 hk).1.1) x hx
    have hp := sortN_perm (showGL (namesG v) v (l + 1) ks (namesG v ks))
    have hlen := showGL_len (namesG v) v (l + 1) ks (namesG v ks)
    have hnd : ((showGL (namesG v) v (l + 1) ks (namesG v ks)).map NV.name).Nodup :=
      (showGL_names (namesG v) v (l + 1) ks (namesG v ks)).nodup (namesG_nd hv hok.1 hok.2.2.1)
    rw [goodB_eq, Bool.and_eq_true]
    refine ⟨?_, goodL_of fun k hk => ?_⟩
    · rw [beq_iff_eq]
      refine one_of ?_ hl
      rw [showG_eq]
      have h64 : ks.length ≤ 64 := G.kids64
      have hss : ∀ (P : List SV → Prop), P ss → P [] → P (if v = 3 then ss else []) := fun P h1 h2 => by split <;> assumption
      exact {
        kind0 := G.kind0
        kind1 := G.kind1
        name1 := hm1
        name2 := hm2
        file := fun h1 => ⟨(G.file h1).1, hss (fun x => x = []) (G.file h1).2 rfl⟩
        link := G.link
        dir := fun h1 => by
          have : ks = [] := G.dir h1
          subst this
          show sortN (showGL (namesG v) v (l + 1) [] (namesG v [])) = []
          simp [showGL, sortN]
        target := G.target
        n1 := by have := G.n1; show 0 ≤ (if keeps v = true then e else 0) ∧ (if keeps v = true then e else 0) ≤ 4095; split <;> omega
        n2 := by have := G.n2; show 0 ≤ (if keeps v = true then f else 0) ∧ (if keeps v = true then f else 0) ≤ 65535; split <;> omega
        n3 := by have := G.n3; show 0 ≤ (if keeps v = true then g else 0) ∧ (if keeps v = true then g else 0) ≤ 65535; split <;> omega
        n4 := G.n4
        n5 := by show (-1048576 : Int) ≤ 0 ∧ (0 : Int) ≤ 1048576; omega
        n6 := by show (0 : Int) ≤ 0 ∧ (0 : Int) ≤ 15; omega
        level := G.level
        size := G.size
        kids64 := by show (sortN (showGL (namesG v) v (l + 1) ks (namesG v ks))).length ≤ 64; rw [hp.length_eq]; omega
        streams4 := by have : ss.length ≤ 4 := G.streams4; show (if v = 3 then ss else []).length ≤ 4; split <;> first | omega | simp
        streams := fun i hi => by
          have hs := G.streams
          by_cases h3 : v = 3
          · subst h3; exact hs i hi
          · exfalso
            have : (if v = 3 then ss else ([] : List SV)) = [] := if_neg h3
            have hi' : i < (if v = 3 then ss else ([] : List SV)).length := hi
            rw [this] at hi'; simp at hi'
        inc := sortN_inc hnd }
    · have hk' : k ∈ sortN (showGL (namesG v) v (l + 1) ks (namesG v ks)) := by
        rw [showG_eq] at hk; exact hk
      exact hgl k (hp.subset hk')
theorem good_showL {v : Int} (hv : viewOk v = true) : ∀ (ks : List NV) (ms : List (List UInt8)) (l : Int), 2 ≤ l → goodL ks l = true → (∀ m ∈ ms, nameOk m = true) → ∀ k ∈ showGL (namesG v) v l ks ms, goodB k l = true
  | [], ms, l, _, _, _ => by simp [showGL]
  | k :: r, [], l, _, _, _ => by simp [showGL]
  | k :: r, m :: ms, l, hl, hg, hm => by
    simp only [goodL, Bool.and_eq_true] at hg
    intro x hx
    have ih := good_showL hv r ms l hl hg.2 fun y hy => hm y (List.mem_cons_of_mem _ hy)
    simp only [showGL] at hx
    split at hx
    · rcases List.mem_cons.1 hx with rfl | hx
      · exact good_show hv k l m (by omega) hg.1 (fun e => by omega) fun _ => hm m List.mem_cons_self
      · exact ih x hx
    · exact ih x hx
theorem namesG_nd {v : Int} (hv : viewOk v = true) {ks : List NV} (h64 : ks.length ≤ 64) (hi : inc ks) : (namesG v ks).Nodup := by
  rcases view4 hv with h | h | h | h
  · rw [namesG01 (.inl h), namesA, List.nodup_iff_pairwise_ne, List.pairwise_reverse]; exact (List.nodup_iff_pairwise_ne.1 (usedOf_nodup v ks h64)).imp Ne.symm
  · rw [namesG01 (.inr h), namesA, List.nodup_iff_pairwise_ne, List.pairwise_reverse]; exact (List.nodup_iff_pairwise_ne.1 (usedOf_nodup v ks h64)).imp Ne.symm
  · rw [namesG23 (.inl h)]; exact inc_nodup hi
  · rw [namesG23 (.inr h)]; exact inc_nodup hi
end
/-- The tree of a view is a valid tree. -/
theorem show_valid {v : Int} (hv : viewOk v = true) {n : NV} (h : valid n = true) : valid (showG (namesG v) v 1 n) = true := by
  have hn := valid_name' h
  rw [valid_good, Bool.and_eq_true, decide_eq_true_eq] at h ⊢
  have h1 := cnt_show (namesG v) v n 1
  have h2 := good_show hv n 1 [] (Int.le_refl _) h.2 (fun _ => rfl) (fun e => absurd e (by omega))
  have e : (showG (namesG v) v 1 n).named [] = showG (namesG v) v 1 n := by rw [showG_eq]; simp only [NV.named, hn]
  rw [e] at h2
  exact ⟨by omega, h2⟩
where
  valid_name' {n : NV} (h : valid n = true) : n.name = [] := by
    rw [valid_good, Bool.and_eq_true] at h
    exact (goodB_good h.2).1.name1 rfl

theorem namesG_at {v : Int} {ks : List NV} {t : Nat} (ht : t < ks.length) : (namesG v ks)[t]'(by rw [namesG_len]; exact ht) = pickG v (usedG v (ks.take t)) ks[t] := by
  have e : ∀ ks : List NV, ∀ m, m ≤ ks.length → (usedG v ks).reverse.take m = (usedG v (ks.take m)).reverse := by
    intro ks
    refine snoc_rec (p := fun ks => ∀ m, m ≤ ks.length → (usedG v ks).reverse.take m = (usedG v (ks.take m)).reverse) (fun m hm => by simp at hm; subst hm; rfl) (fun l x ih m hm => ?_) ks
    rw [usedG_snoc, List.reverse_cons]
    by_cases hml : m ≤ l.length
    · rw [List.take_append_of_le_length (by simp [usedG_len]; exact hml), ih m hml, List.take_append_of_le_length hml]
    · have hm' : m = l.length + 1 := by simp at hm; omega
      subst hm'
      rw [List.take_of_length_le (by simp [usedG_len]), List.take_of_length_le (by simp), usedG_snoc, List.reverse_cons]
  have h2 := e ks (t + 1) (by omega)
  have h3 : (namesG v ks)[t]? = ((namesG v ks).take (t + 1))[t]? := by rw [List.getElem?_take, if_pos (by omega)]
  have h4 : (namesG v ks).take (t + 1) = (usedG v (ks.take (t + 1))).reverse := h2
  rw [h4, usedG_take ht, List.reverse_cons, List.getElem?_append_right (by simp [usedG_len]; omega)] at h3
  have h5 : (usedG v (ks.take t)).reverse.length = t := by simp [usedG_len]; omega
  rw [h5, Nat.sub_self, List.getElem?_eq_getElem (by rw [namesG_len]; exact ht)] at h3
  simpa using h3
end Go.Tame.V
/- The paths in a view of the nodes that it shows are the paths of the shown tree. Plain. -/
namespace Go.Tame.V
open Go Go.Proofs
set_option maxRecDepth 10000
set_option linter.unusedVariables false
set_option linter.unusedSimpArgs false

theorem pathsSL_flat : ∀ (ks : List NV) (p : List UInt8) (l : Int), pathsSL ks p l = ks.flatMap fun k => pathsS k (below p k.name (l + 1)) (l + 1)
  | [], p, l => by simp [pathsSL]
  | k :: r, p, l => by simp only [pathsSL, List.flatMap_cons, pathsSL_flat r p l]
theorem pathsSL_perm {a b : List NV} (h : a.Perm b) (p : List UInt8) (l : Int) : (pathsSL a p l).Perm (pathsSL b p l) := by
  rw [pathsSL_flat, pathsSL_flat]; exact h.flatMap_right _
theorem pathsS_named (n : NV) (m p : List UInt8) (l : Int) : pathsS (n.named m) p l = pathsS n p l := by cases n; simp only [NV.named, pathsS]
section
variable (nm : List NV → List (List UInt8)) (v : Int)
mutual
theorem prs_shown : ∀ (n : NV) (d : Int) (p q : List UInt8), 1 ≤ d → ((prs nm v d n p q).map Prod.fst).Perm (pathsS (showG nm v d n) p d)
  | .mk _ _ _ _ _ _ _ _ _ _ ks _, d, p, q, hd => by
    simp only [prs, showG, pathsS, List.map_cons]
    exact ((prsL_shown ks (nm ks) d p q hd).trans (pathsSL_perm (sortN_perm _).symm p d)).cons _
theorem prsL_shown : ∀ (l : List NV) (ms : List (List UInt8)) (d : Int) (p q : List UInt8), 1 ≤ d → ((prsL nm v d l ms p q).map Prod.fst).Perm (pathsSL (showGL nm v (d + 1) l ms) p d)
  | [], ms, d, p, q, hd => by simp [prsL, showGL, pathsSL]
  | k :: r, [], d, p, q, hd => by simp [prsL, showGL, pathsSL]
  | k :: r, m :: ms, d, p, q, hd => by
    have ih := prsL_shown r ms d p q hd
    simp only [prsL, showGL]
    split
    · rw [List.map_append, joinQ_below p m hd]
      simp only [pathsSL]
      refine List.Perm.append ?_ ih
      rw [pathsS_named, show (NV.named (showG nm v (d + 1) k) m).name = m from rfl]
      exact prs_shown k (d + 1) _ _ (by omega)
    · exact ih
end
end
/-- No two shown nodes have the same path in the view. -/
theorem prs_nodup1 {v : Int} (hv : viewOk v = true) {n : NV} (h : valid n = true) : ((prs (namesG v) v 1 n [] []).map Prod.fst).Nodup :=
  (prs_shown (namesG v) v n 1 [] [] (Int.le_refl _)).nodup_iff.2 (paths_nodup (valid_okT (show_valid hv h)))

/-- Path's walk over the pairs finds the first that fits. -/
theorem visR_path {v : Int} (hv : viewOk v = true) {n : NV} (h : valid n = true) (x : List UInt8) (s : List UInt8 × Int) :
    visR (fun p q s => if q == x then (p, 0) else s) (namesG v) v n s = match (prs (namesG v) v 1 n [] []).find? (fun y => y.2 == x) with | some y => (y.1, 0) | none => s := by
  rw [visR, if_pos ⟨hv, h⟩, vis_fold]
  refine Eq.trans (last_first Prod.snd Prod.fst x _ s (prs_nodup (namesG v) v (valid_okT h))) ?_
  generalize List.find? _ _ = o
  cases o <;> rfl
theorem visR_source {v : Int} (hv : viewOk v = true) {n : NV} (h : valid n = true) (x : List UInt8) (s : List UInt8 × Int) :
    visR (fun p q s => if p == x then (q, 0) else s) (namesG v) v n s = match (prs (namesG v) v 1 n [] []).find? (fun y => y.1 == x) with | some y => (y.2, 0) | none => s := by
  rw [visR, if_pos ⟨hv, h⟩, vis_fold]
  refine Eq.trans (last_first Prod.fst Prod.snd x _ s (prs_nodup1 hv h)) ?_
  generalize List.find? _ _ = o
  cases o <;> rfl
end Go.Tame.V
/- Contracts: the other way of Path and Source. By program (mk.py). -/
namespace Go.Tame.V
open Go Go.Proofs
variable {W0 : World}
set_option maxRecDepth 10000
set_option linter.unusedVariables false
set_option linter.unusedSimpArgs false

theorem pathV_find {v : Int} {n : NV} (h0 : (viewR (namesG v) v n).2 = 0) (x : List UInt8) (h1 : (getR n x).2 = 0) : pathV (namesG v) v n x = match (prs (namesG v) v 1 n [] []).find? (fun y => y.2 == x) with | some y => (y.1, 0) | none => ([], 8) := by
  rw [pathV, if_pos h0, if_pos h1]
  exact visR_path (viewR_valid h0).1 (viewR_valid h0).2 x ([], 8)
theorem sourceV_find {v : Int} {n : NV} (h0 : (viewR (namesG v) v n).2 = 0) (x : List UInt8) : sourceV (namesG v) v n x = match (prs (namesG v) v 1 n [] []).find? (fun y => y.1 == x) with | some y => (y.2, 0) | none => ([], 6) := by
  rw [sourceV, if_pos h0]
  exact visR_source (viewR_valid h0).1 (viewR_valid h0).2 x ([], 6)

end Go.Tame.V
/- Contracts: the chapter's example. By program (mk.py). -/
namespace Go.Tame.V
open Go Go.Proofs
variable {W0 : World}
set_option maxRecDepth 10000
set_option linter.unusedVariables false
set_option linter.unusedSimpArgs false

def exN : List (List UInt8 × Int) := [([82, 69, 65, 68, 77, 69], 1), ([82, 101, 97, 100, 77, 101, 46, 116, 120, 116], 1), ([114, 101, 97, 100, 109, 101], 0), ([114, 101, 97, 100, 109, 101, 46, 116, 101, 120, 116], 1)]
def exV (t : Int) (x : List UInt8 × Int) : NV := ⟨x.1, x.2, [], [], 0, 0, 0, t, 0, 0, [], []⟩
def exCl (t : Int) (x : List UInt8 × Int) : List D := [.str x.1, .int .i64 x.2, .str [], .str [], .int .i64 0, .int .i64 0, .int .i64 0, .int .i64 t, .int .i64 0, .int .i64 0, .nils, .nils]
/-- The nodes of the chapter's example. -/
def exL : List NV := exN.map (exV 315532800)
def exRow (i : Nat) : List D := (exN.take i).map (fun x => .agg (exCl 315532800 x)) ++ (exN.drop i).map (fun x => .agg (exCl 0 x))
theorem exRow_len (i : Nat) : (exRow i).length = 4 := by rw [exRow, List.length_append, List.length_map, List.length_map, ← List.length_append, List.take_append_drop]; rfl
theorem exRow_get {i : Nat} (h : i < 4) : (exRow i)[i]? = some (.agg (exCl 0 exN[i])) := by
  match i, h with
  | 0, _ => rfl
  | 1, _ => rfl
  | 2, _ => rfl
  | 3, _ => rfl
theorem exRow_next {i : Nat} (h : i < 4) : (exRow i).set i (.agg (setAt (exCl 0 exN[i]) 7 (.int .i64 315532800))) = exRow (i + 1) := by
  match i, h with
  | 0, _ => rfl
  | 1, _ => rfl
  | 2, _ => rfl
  | 3, _ => rfl
theorem exD_le : ∀ (l : List (List UInt8 × Int)) (t : Int), LeL (flat (l.map fun x => .agg (exCl t x))) (flat ((l.map (exV t)).map enc))
  | [], t => trivial
  | x :: r, t => ⟨.refl _, .refl _, .refl _, .refl _, .refl _, .refl _, .refl _, .refl _, .refl _, .refl _, DLe.nil, DLe.nil, exD_le r t⟩
theorem exSl_le (tg : Tag) (l : List (List UInt8 × Int)) (t : Int) : DLe (.sl tg 12 (l.map fun x => .agg (exCl t x))) (.sl .none 12 ((l.map (exV t)).map enc)) :=
  DLe.trans DLe.full (DLe.slMap (exD_le l t) (by simp) fun y hy => by obtain ⟨z, _, rfl⟩ := List.mem_map.1 hy; cases z; rfl)

theorem G57 : DFun Tryz.prog W0 57 [] (.sl .none 12 (exL.map enc)) := by
  refine DFun.intro ti_ok Tryz.func57 rfl (by decide +kernel) Tryz.ntmps57 rfl fun Γ => ?_
  refine Tri.seq ?_
  refine Tri.region ti_ok ?_
  conv => whnf
  refine Tri.seq ?_
  refine Tri.regionG ti_ok ?_
  conv => whnf
  refine ⟨rfl, trivial, .inl ?_⟩
  conv => whnf
  refine ⟨rfl, trivial, .inl ?_⟩
  conv => whnf
  refine ⟨rfl, trivial, .inl ?_⟩
  conv => whnf
  refine ⟨rfl, trivial, .inl ?_⟩
  conv => whnf
  refine ⟨rfl, trivial, .inr (XOp.buildRow (q := 100) ti_ok rfl rfl rfl rfl rfl rfl ?_)⟩
  conv => whnf
  refine ⟨rfl, trivial, fun v => ?_⟩
  conv => whnf
  refine ⟨rfl, trivial, .inl ?_⟩
  conv => whnf
  refine Tri.seq ?_
  refine Tri.seq ?_
  refine Tri.regionG ti_ok ?_
  conv => whnf
  refine ⟨rfl, trivial, .inl ?_⟩
  conv => whnf
  refine ⟨rfl, trivial, .inr (XOp.rowLen ti_ok 100 rfl rfl rfl rfl ?_)⟩
  conv => whnf
  refine ⟨rfl, trivial, .inl ?_⟩
  conv => whnf
  refine Tri.block ?_
  refine Tri.loopK (α := { i : Nat // i ≤ 4 }) (fun x => [(1, .raw v), (9, .int .i64 4), (10, .int .i64 x.1)]) (fun x => [(100, .row v (exRow x.1) 12 25)]) (fun x => 4 - x.1) ⟨0, Nat.zero_le _⟩ [(100, 100)] ⟨⟨.refl _, .refl _, .refl _, trivial⟩, rfl, rfl, rfl, trivial⟩ ?_
  rintro ⟨i, hi⟩
  dsimp only at hi ⊢
  refine Tri.seq ?_
  refine Tri.region ti_ok ?_
  conv => whnf
  refine Tri.seq ?_
  refine Tri.cond (decide ((i : Int) < 4)) rfl (fun hc => ?_) (fun hc => ?_)
  · refine Tri.skip ?_
    conv => whnf
    refine Tri.seq ?_
    refine Tri.block ?_
    refine Tri.seq ?_
    refine Tri.region ti_ok ?_
    have hia : i < 4 := by simp at hc; omega
    conv => whnf
    refine Tri.regionG ti_ok ?_
    conv => whnf
    refine ⟨rfl, trivial, .inl ?_⟩
    conv => whnf
    refine ⟨rfl, trivial, .inl ?_⟩
    conv => whnf
    refine ⟨rfl, trivial, .inr (XOp.rowIndex ti_ok 100 rfl rfl rfl rfl rfl rfl rfl (by omega) (by rw [exRow_len]; omega) ?_)⟩
    conv => whnf
    refine ⟨rfl, trivial, .inr (XOp.rowField ti_ok 100 (i := i) rfl rfl (by rw [exRow_len]; omega) rfl rfl rfl (by decide) ?_)⟩
    conv => whnf
    refine ⟨rfl, trivial, .inr (XOp.rowStoreF ti_ok 100 (i := i) (j := 7) rfl rfl rfl rfl (exRow_get hia) (by decide) rfl ?_)⟩
    conv => whnf
    refine Tri.region ti_ok ?_
    conv => whnf
    refine .inl ⟨fun _ => by simp [InR]; omega, ?_⟩
    conv => whnf
    exact ⟨⟨i + 1, hia⟩, [(100, 100)], by show 4 - (i + 1) < 4 - i; omega, ⟨.refl _, .refl _, .refl _, trivial⟩, rfl, rfl, congrArg (fun z => some (HObj.row v z 12 25)) (by exact exRow_next hia), trivial⟩
  · refine Tri.exit ?_
    have hin : i = 4 := by simp at hc; omega
    subst hin
    conv => whnf
    refine Tri.seq ?_
    refine Tri.forgetK [(1, .raw v)] [(100, .row v (exRow 4) 12 25)] [(100, 100)] ⟨⟨.refl _, trivial⟩, rfl, rfl, rfl, trivial⟩ ?_
    refine Tri.commitSt 100 1 rfl ?_
    refine Tri.region ti_ok ?_
    conv => whnf
    refine Tri.ret ?_
    conv => whnf
    exact exSl_le .none exN 315532800
end Go.Tame.V
/- Contracts: identifiers. By program (mk.py). -/
namespace Go.Tame.V
open Go Go.Proofs
variable {W0 : World}
set_option maxRecDepth 10000
set_option linter.unusedVariables false
set_option linter.unusedSimpArgs false

theorem G81 (hL : LibOk W0) (s p : List UInt8) (hs : s.length < 4294967281) : DFun Tryz.prog W0 81 [.str s, .str p] (.tup [.str (Lib.cut s p).1, .str (Lib.cut s p).2.1, .bool (Lib.cut s p).2.2]) := by
  obtain ⟨m, hm⟩ := hL.maxlen
  exact .lift (callable Tryz.func81 rfl (by decide +kernel)) rfl fun w hb => (Tryz.strings_Cut ⟨⟨s⟩⟩ ⟨⟨p⟩⟩ m w hs (cell_base hb hm)).mono fun e w' ⟨he, n, hw⟩ => by
    subst hw
    exact ⟨_, he, fun C => .tup _ _ rfl fun i d v hd hv => by
      match i with
      | 0 => cases hd; cases hv; exact .str _
      | 1 => cases hd; cases hv; exact .str _
      | 2 => cases hd; cases hv; exact .bool _
      | i + 3 => simp at hd, ⟨rfl, rfl, rfl, Nat.le_refl _, fun _ _ => rfl⟩⟩
theorem G105 (s p : List UInt8) (hs : s.length ≤ 9223372036854775807) : DFun Tryz.prog W0 105 [.str s, .str p] (.bool (Lib.hasSuffix s p)) :=
  .pure (callable Tryz.func105 rfl (by decide +kernel)) rfl rfl fun w _ => Tryz.stringslite_HasSuffix ⟨⟨s⟩⟩ ⟨⟨p⟩⟩ w hs
def cutSuf (s p : List UInt8) : List UInt8 × Bool := if Lib.hasSuffix s p then (s.take (s.length - p.length), true) else (s, false)
theorem hasSuffix_len {s p : List UInt8} (h : Lib.hasSuffix s p = true) : p.length ≤ s.length := by
  unfold Lib.hasSuffix at h
  exact (List.isSuffixOf_iff_suffix.1 h).length_le

theorem G130 (s p : List UInt8) (hs : s.length < 1000000000) (hp : p.length < 1000000000) : DFun Tryz.prog W0 130 [.str s, .str p] (.tup [.str (cutSuf s p).1, .bool (cutSuf s p).2]) := by
  refine DFun.intro ti_ok Tryz.func130 rfl (by decide +kernel) Tryz.ntmps130 rfl fun Γ => ?_
  refine Tri.seq ?_
  refine Tri.region ti_ok ?_
  conv => whnf
  refine Tri.seq ?_
  refine Tri.seq ?_
  refine Tri.region ti_ok ?_
  conv => whnf
  refine ⟨[.str s, .str p], _, fun _ => G105 s p (by omega), ⟨.refl _, .refl _, trivial⟩, ?_⟩
  conv => whnf
  refine Tri.cond _ rfl (fun hc => ?_) (fun hc => ?_)
  · refine Tri.seq ?_
    refine Tri.region ti_ok ?_
    conv => whnf
    refine Tri.ret ?_
    conv => whnf
    have h : Lib.hasSuffix s p = false := by simpa using hc
    rw [cutSuf, h]
    exact ⟨.refl _, .refl _, trivial⟩
  · refine Tri.skip ?_
    conv => whnf
    refine Tri.seq ?_
    have h : Lib.hasSuffix s p = true := by simpa using hc
    have hl := hasSuffix_len h
    refine Tri.region ti_ok ?_
    conv => whnf
    refine .inl ⟨fun _ => by simp only [InR]; omega, ?_⟩
    conv => whnf
    refine ⟨fun _ => by simp; omega, ?_⟩
    conv => whnf
    refine Tri.ret ?_
    conv => whnf
    rw [cutSuf, if_pos h]
    exact ⟨DLe.of_eq (congrArg D.str (congrArg (fun z => s.take z) (by omega))), .refl _, trivial⟩
theorem G85 (s p : List UInt8) (hs : s.length < 1000000000) (hp : p.length < 1000000000) : DFun Tryz.prog W0 85 [.str s, .str p] (.tup [.str (cutSuf s p).1, .bool (cutSuf s p).2]) := by
  refine DFun.intro ti_ok Tryz.func85 rfl (by decide +kernel) Tryz.ntmps85 rfl fun Γ => ?_
  refine Tri.seq ?_
  refine Tri.region ti_ok ?_
  conv => whnf
  refine Tri.seq ?_
  refine Tri.region ti_ok ?_
  conv => whnf
  refine ⟨[.str s, .str p], _, fun _ => G130 s p hs hp, ⟨.refl _, .refl _, trivial⟩, ?_⟩
  conv => whnf
  refine Tri.ret ?_
  conv => whnf
  exact ⟨.refl _, .refl _, trivial⟩
def isDB (s : List UInt8) (m : Int) : Bool := decide ((1 : Int) ≤ s.length) && (decide ((s.length : Int) ≤ m) && dStr s)
theorem G82 (s : List UInt8) (m : Int) : DFun Tryz.prog W0 82 [.str s, .int .i64 m] (.bool (isDB s m)) := by
  refine DFun.intro ti_ok Tryz.func82 rfl (by decide +kernel) Tryz.ntmps82 rfl fun Γ => ?_
  refine Tri.seq ?_
  refine Tri.region ti_ok ?_
  conv => whnf
  refine Tri.seq ?_
  refine Tri.region ti_ok ?_
  conv => whnf
  refine ⟨fun h => h, ?_⟩
  conv => whnf
  refine ⟨fun h => h, ?_⟩
  conv => whnf
  refine ⟨fun h => h, ?_⟩
  conv => whnf
  refine ⟨fun h0 h => by first | exact h | (rw [h]; rfl) | (rw [h0, h]; rfl), ?_⟩
  conv => whnf
  refine ⟨fun h => h, ?_⟩
  conv => whnf
  refine ⟨[.str s], _, fun h => F171 s, ⟨.refl _, trivial⟩, ?_⟩
  conv => whnf
  refine ⟨fun h0 h => by first | exact h | (rw [h]; rfl) | (rw [h0, h]; rfl), ?_⟩
  conv => whnf
  refine Tri.ret ?_
  conv => whnf
  refine DLe.of_eq (congrArg D.bool ?_)
  unfold isDB
  by_cases h1 : (1 : Int) ≤ s.length <;> by_cases h2 : (s.length : Int) ≤ m <;> simp [h1, h2]
/-- Whether a text can be a name in the ISO view. -/
def validI (s : List UInt8) (dir : Bool) : Bool := !((Lib.cut s [46]).2.2 && (dir || !isDB (Lib.cut s [46]).2.1 3)) && isDB (Lib.cut s [46]).1 8
theorem G31 (hL : LibOk W0) (s : List UInt8) (dir : Bool) (hs : s.length < 1000000000) : DFun Tryz.prog W0 31 [.int .i64 0, .str s, .bool dir] (.bool (validI s dir)) := by
  refine DFun.intro ti_ok Tryz.func31 rfl (by decide +kernel) Tryz.ntmps31 rfl fun Γ => ?_
  refine Tri.seq ?_
  refine Tri.region ti_ok ?_
  conv => whnf
  refine Tri.seq ?_
  refine Tri.seq ?_
  refine Tri.region ti_ok ?_
  conv => whnf
  refine Tri.block ?_
  refine Tri.seq ?_
  refine Tri.region ti_ok ?_
  conv => whnf
  refine Tri.cond true rfl (fun hc => ?_) (fun hc => by cases hc)
  · refine Tri.seq ?_
    refine Tri.region ti_ok ?_
    conv => whnf
    refine ⟨[.str s, .str [46]], _, fun _ => G81 hL s [46] (by omega), ⟨.refl _, .refl _, trivial⟩, ?_⟩
    conv => whnf
    refine Tri.seq ?_
    refine Tri.seq ?_
    refine Tri.region ti_ok ?_
    conv => whnf
    refine ⟨fun h => h, ?_⟩
    conv => whnf
    refine ⟨fun h => h, ?_⟩
    conv => whnf
    refine ⟨[.str (Lib.cut s [46]).2.1, .int .i64 3], _, fun h => G82 _ 3, ⟨.refl _, .refl _, trivial⟩, ?_⟩
    conv => whnf
    refine ⟨fun h => h, ?_⟩
    conv => whnf
    refine ⟨fun h => h, ?_⟩
    conv => whnf
    refine ⟨fun h0 h => by first | exact h | (rw [h]; rfl) | (rw [h0, h]; rfl), ?_⟩
    conv => whnf
    refine ⟨fun h0 h => by first | exact h | (rw [h]; rfl) | (rw [h0, h]; rfl), ?_⟩
    conv => whnf
    refine Tri.cond _ rfl (fun hc => ?_) (fun hc => ?_)
    · refine Tri.seq ?_
      refine Tri.region ti_ok ?_
      conv => whnf
      refine Tri.ret ?_
      conv => whnf
      have hc' : ((Lib.cut s [46]).2.2 && (dir || !isDB (Lib.cut s [46]).2.1 3)) = true := by revert hc; cases (Lib.cut s [46]).2.2 <;> cases dir <;> simp
      refine DLe.of_eq (congrArg D.bool ?_)
      rw [validI, hc']; rfl
    · refine Tri.skip ?_
      conv => whnf
      refine Tri.seq ?_
      refine Tri.region ti_ok ?_
      conv => whnf
      refine ⟨[.str (Lib.cut s [46]).1, .int .i64 8], _, fun _ => G82 _ 8, ⟨.refl _, .refl _, trivial⟩, ?_⟩
      conv => whnf
      refine Tri.ret ?_
      conv => whnf
      have hc' : ((Lib.cut s [46]).2.2 && (dir || !isDB (Lib.cut s [46]).2.1 3)) = false := by revert hc; cases (Lib.cut s [46]).2.2 <;> cases dir <;> simp
      refine DLe.of_eq (congrArg D.bool ?_)
      rw [validI, hc']; rfl
def hasDot (s : List UInt8) : Bool := decide (0 ≤ Lib.indexByte s 46)
/-- What Identifier returns. -/
def identI (s : List UInt8) (dir : Bool) : List UInt8 × Int :=
  if validI s dir = true then if dir = true then (s, 0) else if hasDot s = true then (s ++ [59, 49], 0) else (s ++ [46, 59, 49], 0) else ([], 4)
theorem G32 (hL : LibOk W0) (s : List UInt8) (dir : Bool) (hs : s.length < 1000000000) : DFun Tryz.prog W0 32 [.str s, .bool dir] (.tup [.str (identI s dir).1, .int .i64 (identI s dir).2]) := by
  refine DFun.intro ti_ok Tryz.func32 rfl (by decide +kernel) Tryz.ntmps32 rfl fun Γ => ?_
  refine Tri.seq ?_
  refine Tri.region ti_ok ?_
  conv => whnf
  refine Tri.seq ?_
  refine Tri.seq ?_
  refine Tri.region ti_ok ?_
  conv => whnf
  refine ⟨[.int .i64 0, .str s, .bool dir], _, fun _ => G31 hL s dir hs, ⟨.refl _, .refl _, .refl _, trivial⟩, ?_⟩
  conv => whnf
  refine Tri.cond _ rfl (fun hc => ?_) (fun hc => ?_)
  · refine Tri.seq ?_
    refine Tri.region ti_ok ?_
    conv => whnf
    refine Tri.ret ?_
    conv => whnf
    have h : ¬ validI s dir = true := by simpa using hc
    rw [identI, if_neg h]
    exact ⟨.refl _, .refl _, trivial⟩
  · refine Tri.skip ?_
    conv => whnf
    refine Tri.seq ?_
    refine Tri.block ?_
    refine Tri.seq ?_
    have h : validI s dir = true := by simpa using hc
    refine Tri.region ti_ok ?_
    conv => whnf
    refine Tri.cond dir rfl (fun hd => ?_) (fun hd => ?_)
    · refine Tri.seq ?_
      refine Tri.region ti_ok ?_
      conv => whnf
      refine Tri.ret ?_
      conv => whnf
      rw [identI, if_pos h, if_pos hd]
      exact ⟨.refl _, .refl _, trivial⟩
    · refine Tri.seq ?_
      refine Tri.region ti_ok ?_
      conv => whnf
      refine ⟨[.str s, .str [46]], _, fun _ => F119 s 46, ⟨.refl _, .refl _, trivial⟩, ?_⟩
      conv => whnf
      refine Tri.cond (hasDot s) rfl (fun h2 => ?_) (fun h2 => ?_)
      · refine Tri.seq ?_
        refine Tri.region ti_ok ?_
        conv => whnf
        refine ⟨fun _ => by simp; omega, ?_⟩
        conv => whnf
        refine Tri.ret ?_
        conv => whnf
        rw [identI, if_pos h, if_neg (by rw [hd]; simp), if_pos h2]
        exact ⟨.refl _, .refl _, trivial⟩
      · refine Tri.skip ?_
        conv => whnf
        refine Tri.seq ?_
        refine Tri.region ti_ok ?_
        conv => whnf
        refine ⟨fun _ => by simp; omega, ?_⟩
        conv => whnf
        refine Tri.ret ?_
        conv => whnf
        rw [identI, if_pos h, if_neg (by rw [hd]; simp), if_neg (by rw [h2]; simp)]
        exact ⟨.refl _, .refl _, trivial⟩
def chkI (id m : List UInt8) (dir : Bool) : List UInt8 × Int := if (identI m dir).2 = 0 ∧ (identI m dir).1 = id then (m, 0) else ([], 4)
/-- What Name returns. -/
def nameI (id : List UInt8) (dir : Bool) : List UInt8 × Int :=
  if dir = true then chkI id id dir else if (cutSuf id [59, 49]).2 = true then chkI id (Lib.trimSuffix (cutSuf id [59, 49]).1 [46]) dir else ([], 4)
theorem G33 (hL : LibOk W0) (id : List UInt8) (dir : Bool) (hs : id.length < 1000000000) : DFun Tryz.prog W0 33 [.str id, .bool dir] (.tup [.str (nameI id dir).1, .int .i64 (nameI id dir).2]) := by
  refine DFun.intro ti_ok Tryz.func33 rfl (by decide +kernel) Tryz.ntmps33 rfl fun Γ => ?_
  have hcl : (cutSuf id [59, 49]).1.length ≤ id.length := by
    unfold cutSuf
    split
    · simp
    · exact Nat.le_refl _
  have htl : (Lib.trimSuffix (cutSuf id [59, 49]).1 [46]).length ≤ id.length := by
    unfold Lib.trimSuffix
    split
    · simp; omega
    · exact hcl
  refine Tri.seq ?_
  refine Tri.region ti_ok ?_
  conv => whnf
  refine Tri.seq ?_
  refine Tri.region ti_ok ?_
  conv => whnf
  refine Tri.joinK (α := { m : List UInt8 // m.length ≤ id.length ∧ nameI id dir = chkI id m dir }) (fun x => [(0, .str id), (1, .bool dir), (6, .str x.1)]) (fun x => []) ?_ ?_
  · refine Tri.seq ?_
    refine Tri.region ti_ok ?_
    conv => whnf
    refine Tri.cond _ rfl (fun hc => ?_) (fun hc => ?_)
    · refine Tri.seq ?_
      refine Tri.region ti_ok ?_
      conv => whnf
      refine ⟨[.str id, .str [59, 49]], _, fun _ => G85 id [59, 49] hs (by decide), ⟨.refl _, .refl _, trivial⟩, ?_⟩
      conv => whnf
      refine Tri.seq ?_
      refine Tri.seq ?_
      refine Tri.region ti_ok ?_
      conv => whnf
      refine Tri.cond _ rfl (fun h2 => ?_) (fun h2 => ?_)
      · refine Tri.seq ?_
        refine Tri.region ti_ok ?_
        conv => whnf
        refine Tri.ret ?_
        conv => whnf
        have hd : ¬ dir = true := by simpa using hc
        have h3 : ¬ (cutSuf id [59, 49]).2 = true := by simpa using h2
        rw [nameI, if_neg hd, if_neg h3]
        exact ⟨.refl _, .refl _, trivial⟩
      · refine Tri.skip ?_
        conv => whnf
        have hd : ¬ dir = true := by simpa using hc
        have h3 : (cutSuf id [59, 49]).2 = true := by simpa using h2
        refine Tri.region ti_ok ?_
        conv => whnf
        refine ⟨[.str (cutSuf id [59, 49]).1, .str [46]], _, fun _ => F172 _ [46] (by omega), ⟨.refl _, .refl _, trivial⟩, ?_⟩
        conv => whnf
        exact ⟨⟨Lib.trimSuffix (cutSuf id [59, 49]).1 [46], htl, by rw [nameI, if_neg hd, if_pos h3]⟩, [], ⟨.refl _, .refl _, .refl _, trivial⟩, rfl, trivial⟩
    · refine Tri.skip ?_
      conv => whnf
      have hd : dir = true := by simpa using hc
      exact ⟨⟨id, Nat.le_refl _, by rw [nameI, if_pos hd]⟩, [], ⟨.refl _, .refl _, .refl _, trivial⟩, rfl, trivial⟩
  · rintro ⟨m, hml, hN⟩
    dsimp only
    refine Tri.seq ?_
    refine Tri.seq ?_
    refine Tri.region ti_ok ?_
    conv => whnf
    refine ⟨[.str m, .bool dir], _, fun _ => G32 hL m dir (by omega), ⟨.refl _, .refl _, trivial⟩, ?_⟩
    conv => whnf
    refine Tri.seq ?_
    refine Tri.region ti_ok ?_
    conv => whnf
    refine ⟨fun h => h, ?_⟩
    conv => whnf
    refine ⟨fun h => h, ?_⟩
    conv => whnf
    refine ⟨fun h0 h => by first | exact h | (rw [h]; rfl) | (rw [h0, h]; rfl), ?_⟩
    conv => whnf
    refine Tri.cond _ rfl (fun hc => ?_) (fun hc => ?_)
    · refine Tri.seq ?_
      refine Tri.region ti_ok ?_
      conv => whnf
      refine Tri.ret ?_
      conv => whnf
      have h3 : ¬ ((identI m dir).2 = 0 ∧ (identI m dir).1 = id) := by
        intro ⟨h4, h5⟩
        simp [h4, h5] at hc
      rw [hN, chkI, if_neg h3]
      exact ⟨.refl _, .refl _, trivial⟩
    · refine Tri.skip ?_
      conv => whnf
      refine Tri.seq ?_
      refine Tri.region ti_ok ?_
      conv => whnf
      refine Tri.ret ?_
      conv => whnf
      have h3 : (identI m dir).2 = 0 ∧ (identI m dir).1 = id := by
        by_cases h4 : (identI m dir).2 = 0
        · refine ⟨h4, ?_⟩
          simpa [h4] using hc
        · simp [h4] at hc
      rw [hN, chkI, if_pos h3]
      exact ⟨.refl _, .refl _, trivial⟩
end Go.Tame.V
