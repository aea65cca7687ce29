/- A program logic of my own over the model, and contracts of this program's functions by it: part 5. No conditions of its own: each theorem states its own. -/
import Derived.Test.YtggomolcfgmdkaaGreatDoorL4
set_option linter.unnecessarySimpa false
set_option linter.unusedSimpArgs false
set_option linter.unusedVariables false
/- Mirrored trees. By program (mk.py). -/
namespace Go.Tame.V
open Go Go.Proofs
variable {W0 : World}
set_option maxRecDepth 10000
set_option linter.unusedVariables false
set_option linter.unusedSimpArgs false

def flipK (k : Int) : Int := if k = 0 then 1 else if k = 1 then 0 else k
def flip (d : DV) : DV := ⟨flipK d.kind, d.path⟩
theorem fieldDiff_comm (a b : NV) (i : Nat) : fieldDiff b a i = fieldDiff a b i := by
  have hb : ∀ x y : List UInt8, (x == y) = (y == x) := fun x y => by rw [Bool.eq_iff_iff, beq_iff_eq, beq_iff_eq]; exact eq_comm
  have hi : ∀ x y : Int, (x == y) = (y == x) := fun x y => by rw [Bool.eq_iff_iff, beq_iff_eq, beq_iff_eq]; exact eq_comm
  match i with
  | 0 => simp only [fieldDiff, hb b.text]
  | 1 => simp only [fieldDiff, hb b.target]
  | 2 => simp only [fieldDiff, hi b.n1, hi b.n2, hi b.n3]
  | 3 => simp only [fieldDiff, hi b.n4]
  | i + 4 => simp only [fieldDiff, eq_comm (a := b.streams)]
theorem fieldDiffs_flip (p : List UInt8) (a b : NV) (i : Nat) : (fieldDiffs p a b i).map flip = fieldDiffs p b a i := by
  simp only [fieldDiffs, List.map_map]
  rw [show fieldDiff b a = fieldDiff a b from funext (fieldDiff_comm a b)]
  refine List.map_congr_left fun k _ => ?_
  simp only [Function.comp, flip, flipK]
  rw [if_neg (by omega), if_neg (by omega)]
mutual
theorem cmpT_flip (p : List UInt8) (a b : NV) : (cmpT p a b).map flip = cmpT p b a := by
  rw [cmpT, cmpT]
  have h1 := sz_eq a
  have h2 := sz_eq b
  by_cases h : a.kind = b.kind
  · rw [if_pos h, if_pos h.symm, List.map_append, fieldDiffs_flip, mrg_flip p a.kids b.kids]
  · rw [if_neg h, if_neg (fun e => h e.symm)]; rfl
termination_by sz a + sz b
decreasing_by omega
theorem mrg_flip (p : List UInt8) : ∀ xs ys : List NV, (mrg p xs ys).map flip = mrg p ys xs
  | [], [] => by rw [mrg]; rfl
  | x :: xs, [] => by rw [mrg, mrg, List.map_cons, mrg_flip p xs []]; rfl
  | [], y :: ys => by rw [mrg, mrg, List.map_cons, mrg_flip p [] ys]; rfl
  | x :: xs, y :: ys => by
    rw [mrg, mrg]
    by_cases h1 : Op.bytesLess x.name y.name = true
    · rw [if_pos h1, if_neg (by rw [bl_asymm h1]; simp), if_neg (bl_ne h1).symm, List.map_cons, mrg_flip p xs (y :: ys)]; rfl
    · rw [if_neg h1]
      by_cases h2 : x.name = y.name
      · rw [if_pos h2, if_neg (by rw [h2, bl_irrefl]; simp), if_pos h2.symm, List.map_append, cmpT_flip, mrg_flip p xs ys, h2]
      · have h3 : Op.bytesLess y.name x.name = true := by
          cases h3 : Op.bytesLess y.name x.name with
          | true => rfl
          | false => exact absurd (bl_total _ _ (by simpa using h1) h3) h2
        rw [if_neg h2, if_pos h3, List.map_cons, mrg_flip p (x :: xs) ys]; rfl
termination_by xs ys => szL xs + szL ys
decreasing_by all_goals simp only [szL]; omega
end
theorem fieldDiffs_self (p : List UInt8) (a : NV) (i : Nat) : fieldDiffs p a a i = [] := by
  have : fieldDiff a a = fun _ => false := funext fun i => by
    match i with
    | 0 | 1 | 2 | 3 => simp [fieldDiff]
    | i + 4 => simp [fieldDiff]
  simp [fieldDiffs, this]
mutual
theorem cmpT_self (p : List UInt8) (a : NV) : cmpT p a a = [] := by
  rw [cmpT]
  have h1 := sz_eq a
  rw [if_pos rfl, fieldDiffs_self, mrg_self p a.kids]; rfl
termination_by sz a
decreasing_by omega
theorem mrg_self (p : List UInt8) : ∀ xs : List NV, mrg p xs xs = []
  | [] => by rw [mrg]
  | x :: xs => by
    rw [mrg, if_neg (by rw [bl_irrefl]; simp), if_pos rfl, cmpT_self, mrg_self p xs]; rfl
termination_by xs => szL xs
decreasing_by all_goals simp only [szL]; omega
end
theorem compare_ok {a b : NV} (ha : valid a = true) (hb : valid b = true) : compare a b = (cmpT [] a b, 0) := by rw [compare, ha, hb]; rfl
theorem same_self {a : NV} (ha : valid a = true) : same a a = true := by rw [same, compare_ok ha ha, cmpT_self]; rfl
theorem not3 (f x y : Bool) (h : (bif (bif !f then true else !x) then true else !y) = false) : f = true ∧ x = true ∧ y = true := by cases f <;> cases x <;> cases y <;> simp_all

theorem F5 (hL : LibOk W0) (a b : NV) (ha : Fits a) (hb : Fits b) : DFun Tryz.prog W0 5 [encTop a, encTop b] (.bool true) := by
  refine DFun.intro ti_ok Tryz.func5 rfl (by decide +kernel) Tryz.ntmps5 rfl fun Γ => ?_
  refine Tri.seq ?_
  refine Tri.region ti_ok ?_
  conv => whnf
  intro ba
  conv => whnf
  intro bb
  conv => whnf
  refine Tri.seq ?_
  refine Tri.seq ?_
  refine Tri.region ti_ok ?_
  conv => whnf
  refine ⟨[], _, fun _ => F11 hL, trivial, ?_⟩
  conv => whnf
  refine Tri.cond _ rfl (fun hc => ?_) (fun hc => ?_)
  · refine Tri.seq ?_
    refine Tri.region ti_ok ?_
    conv => whnf
    refine Tri.ret ?_
    conv => whnf
    cases hc
  · refine Tri.skip ?_
    conv => whnf
    refine Tri.seq ?_
    refine Tri.seq ?_
    refine Tri.region ti_ok ?_
    conv => whnf
    refine ⟨rfl, ?_⟩
    conv => whnf
    refine ⟨rfl, ?_⟩
    conv => whnf
    refine ⟨[encTop a, encTop b], _, fun _ => F12 a b ha hb, ⟨.refl _, .refl _, trivial⟩, ?_⟩
    conv => whnf
    refine ⟨rfl, ?_⟩
    conv => whnf
    refine ⟨fun h => h, ?_⟩
    conv => whnf
    refine ⟨[encTop a], _, fun h => F20 a ha, ⟨.refl _, trivial⟩, ?_⟩
    conv => whnf
    refine ⟨fun h => h, ?_⟩
    conv => whnf
    refine ⟨fun h0 h => by first | exact h | (rw [h]; rfl) | (rw [h0, h]; rfl), ?_⟩
    conv => whnf
    refine ⟨rfl, ?_⟩
    conv => whnf
    refine ⟨fun h => h, ?_⟩
    conv => whnf
    refine ⟨[encTop b], _, fun h => F20 b hb, ⟨.refl _, trivial⟩, ?_⟩
    conv => whnf
    refine ⟨fun h => h, ?_⟩
    conv => whnf
    refine ⟨fun h0 h => by first | exact h | (rw [h]; rfl) | (rw [h0, h]; rfl), ?_⟩
    conv => whnf
    refine Tri.cond _ rfl (fun hc => ?_) (fun hc => ?_)
    · refine Tri.seq ?_
      refine Tri.region ti_ok ?_
      conv => whnf
      refine Tri.ret ?_
      conv => whnf
      exact .refl _
    · refine Tri.skip ?_
      conv => whnf
      obtain ⟨hfw, hva, hvb⟩ := not3 _ _ _ hc
      have hflip := cmpT_flip [] a b
      refine Tri.seq ?_
      refine Tri.region ti_ok ?_
      conv => whnf
      refine ⟨rfl, ?_⟩
      conv => whnf
      refine ⟨rfl, ?_⟩
      conv => whnf
      refine ⟨[encTop a, encTop b], .tup [.sl .none 2 (encDs (cmpT [] a b)), .int .i64 0], fun _ => by
        have := F13 hL a b ha hb
        rw [compare_ok hva hvb] at this
        exact this, ⟨.refl _, .refl _, trivial⟩, ?_⟩
      conv => whnf
      refine Tri.seq ?_
      refine Tri.region ti_ok ?_
      conv => whnf
      refine ⟨rfl, ?_⟩
      conv => whnf
      refine ⟨rfl, ?_⟩
      conv => whnf
      refine ⟨[encTop b, encTop a], .tup [.sl .none 2 (encDs (cmpT [] b a)), .int .i64 0], fun _ => by
        have := F13 hL b a hb ha
        rw [compare_ok hvb hva] at this
        exact this, ⟨.refl _, .refl _, trivial⟩, ?_⟩
      conv => whnf
      refine Tri.seq ?_
      refine Tri.seq ?_
      refine Tri.region ti_ok ?_
      conv => whnf
      refine ⟨fun h => h, ?_⟩
      conv => whnf
      refine ⟨fun h0 h => by first | exact h | (rw [h]; rfl) | (rw [h0, h]; rfl), ?_⟩
      conv => whnf
      refine ⟨fun h => h, ?_⟩
      conv => whnf
      refine ⟨fun h => h, ?_⟩
      conv => whnf
      refine ⟨fun h => h, ?_⟩
      conv => whnf
      refine ⟨fun h => h, ?_⟩
      conv => whnf
      refine ⟨fun h0 h => by first | exact h | (rw [h]; rfl) | (rw [h0, h]; rfl), ?_⟩
      conv => whnf
      refine ⟨rfl, ?_⟩
      conv => whnf
      refine ⟨rfl, ?_⟩
      conv => whnf
      refine ⟨fun h => h, ?_⟩
      conv => whnf
      refine ⟨fun h => h, ?_⟩
      conv => whnf
      refine ⟨[encTop a, encTop a], .bool true, fun h => by
        have := F16 hL a a ha ha
        rw [same_self hva] at this
        exact this, ⟨.refl _, .refl _, trivial⟩, ?_⟩
      conv => whnf
      refine ⟨fun h => h, ?_⟩
      conv => whnf
      refine ⟨fun h0 h => by first | exact h | (rw [h]; rfl) | (rw [h0, h]; rfl), ?_⟩
      conv => whnf
      refine ⟨rfl, ?_⟩
      conv => whnf
      refine ⟨rfl, ?_⟩
      conv => whnf
      refine ⟨fun h => h, ?_⟩
      conv => whnf
      refine ⟨fun h => h, ?_⟩
      conv => whnf
      refine ⟨[encTop b, encTop b], .bool true, fun h => by
        have := F16 hL b b hb hb
        rw [same_self hvb] at this
        exact this, ⟨.refl _, .refl _, trivial⟩, ?_⟩
      conv => whnf
      refine ⟨fun h => h, ?_⟩
      conv => whnf
      refine ⟨fun h0 h => by first | exact h | (rw [h]; rfl) | (rw [h0, h]; rfl), ?_⟩
      conv => whnf
      refine Tri.cond _ rfl (fun hc => ?_) (fun hc => ?_)
      · refine Tri.seq ?_
        refine Tri.region ti_ok ?_
        conv => whnf
        refine Tri.ret ?_
        conv => whnf
        exfalso
        have hlen : ((encDs (cmpT [] a b)).length : Int) = ((encDs (cmpT [] b a)).length : Int) := by rw [← hflip]; simp [encDs]
        rw [hlen] at hc
        have : (((encDs (cmpT [] b a)).length : Int) != ((encDs (cmpT [] b a)).length : Int)) = false := by simp
        rw [this] at hc
        cases hc
      · refine Tri.skip ?_
        conv => whnf
        refine Tri.seq ?_
        refine Tri.seq ?_
        refine Tri.region ti_ok ?_
        conv => whnf
        refine Tri.block ?_
        generalize hX : cmpT [] a b = X at *
        have hXl : X.length ≤ 6 * 2200000 := by
          have := cmpT_len [] a b
          unfold Fits at ha hb
          rw [hX] at this; omega
        rw [← hflip]
        refine Tri.loop (α := { i : Nat // i ≤ X.length }) (fun x => [(7, .sl .none 2 (encDs (X.map flip))), (64, .sl .none 2 (encDs X)), (65, .int .i64 (encDs X).length), (66, .int .i64 x.1)]) (fun _ => []) (fun x => X.length - x.1) ⟨0, by omega⟩ ⟨.refl _, .refl _, .refl _, .refl _, trivial⟩ trivial ?_
        rintro ⟨i, hi⟩
        refine Tri.seq ?_
        refine Tri.region ti_ok ?_
        conv => whnf
        refine Tri.seq ?_
        refine Tri.cond _ rfl (fun hc => ?_) (fun hc => ?_)
        · refine Tri.skip ?_
          conv => whnf
          have hia : i < X.length := by simpa [encDs] using hc
          refine Tri.seq ?_
          refine Tri.block ?_
          refine Tri.seq ?_
          refine Tri.region ti_ok ?_
          conv => whnf
          refine ⟨fun _ => by simp [encDs]; omega, ?_⟩
          conv => whnf
          refine ⟨encD X[i], fun _ => by simp [encDs, hia], ?_⟩
          conv => whnf
          intro b10
          conv => whnf
          refine ⟨rfl, ?_⟩
          conv => whnf
          refine Tri.joinK (α := Unit) (fun x => [(7, .sl .none 2 (encDs (X.map flip))), (64, .sl .none 2 (encDs X)), (65, .int .i64 (encDs X).length), (66, .int .i64 i), (9, .int .i64 i), (10, .box 10 b10 0)]) (fun x => [(10, .box b10 [.int .i64 (flipK X[i].kind), .str X[i].path])]) ?_ ?_
          · refine Tri.seq ?_
            refine Tri.region ti_ok ?_
            conv => whnf
            refine ⟨rfl, ?_⟩
            conv => whnf
            refine Tri.block ?_
            refine Tri.seq ?_
            refine Tri.region ti_ok ?_
            conv => whnf
            refine Tri.cond _ rfl (fun hc => ?_) (fun hc => ?_)
            · refine Tri.region ti_ok ?_
              conv => whnf
              refine ⟨rfl, ?_⟩
              conv => whnf
              have h0 : X[i].kind = 0 := by simpa using hc
              exact ⟨(), [(10, 10)], ⟨.refl _, .refl _, .refl _, .refl _, .refl _, .refl _, trivial⟩, rfl, rfl, congrArg (fun z => some (HObj.box b10 [.int .i64 z, .str X[i].path])) (by rw [h0]; rfl), trivial⟩
            · refine Tri.seq ?_
              refine Tri.region ti_ok ?_
              conv => whnf
              refine Tri.cond _ rfl (fun hc => ?_) (fun hc => ?_)
              · refine Tri.region ti_ok ?_
                conv => whnf
                refine ⟨rfl, ?_⟩
                conv => whnf
                have h0 : X[i].kind = 1 := by simpa using hc
                exact ⟨(), [(10, 10)], ⟨.refl _, .refl _, .refl _, .refl _, .refl _, .refl _, trivial⟩, rfl, rfl, congrArg (fun z => some (HObj.box b10 [.int .i64 z, .str X[i].path])) (by rw [h0]; rfl), trivial⟩
              · refine Tri.skip ?_
                conv => whnf
                have h1 : X[i].kind ≠ 1 := by simpa using hc
                rename_i hc0
                have h0 : X[i].kind ≠ 0 := by simpa using hc0
                exact ⟨(), [(10, 10)], ⟨.refl _, .refl _, .refl _, .refl _, .refl _, .refl _, trivial⟩, rfl, rfl, congrArg (fun z => some (HObj.box b10 [.int .i64 z, .str X[i].path])) (by rw [flipK, if_neg h0, if_neg h1]), trivial⟩
          · rintro ⟨⟩
            refine Tri.seq ?_
            refine Tri.draw ti_ok mixed (by kernel_rfl) ?_
            conv => whnf
            refine ⟨rfl, ?_⟩
            conv => whnf
            refine ⟨fun _ => by simp [encDs]; omega, ?_⟩
            conv => whnf
            refine ⟨encD (flip X[i]), fun _ => by simp [encDs, hia], ?_⟩
            conv => whnf
            refine Tri.cond _ rfl (fun hc => ?_) (fun hc => ?_)
            · refine Tri.seq ?_
              refine Tri.region ti_ok ?_
              conv => whnf
              refine Tri.ret ?_
              conv => whnf
              exfalso
              have hb1 : (flipK X[i].kind == flipK X[i].kind) = true := by simp
              have hb2 : (X[i].path == X[i].path) = true := by simp
              simp [flip] at hc
            · refine Tri.skip ?_
              conv => whnf
              refine Tri.region ti_ok ?_
              conv => whnf
              refine .inl ⟨fun _ => by simp [InR]; omega, ?_⟩
              conv => whnf
              exact ⟨⟨i + 1, by omega⟩, by show _ - (i + 1) < _ - i; omega, ⟨.refl _, .refl _, .refl _, .refl _, trivial⟩, trivial⟩
        · refine Tri.exit ?_
          conv => whnf
          refine Tri.seq ?_
          refine Tri.region ti_ok ?_
          conv => whnf
          refine Tri.ret ?_
          conv => whnf
          exact .refl _
end Go.Tame.V
