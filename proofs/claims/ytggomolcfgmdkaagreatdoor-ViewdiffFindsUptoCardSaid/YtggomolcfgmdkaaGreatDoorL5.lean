/- A program logic of my own over the model, and contracts of this program's functions by it: part 5. No conditions of its own: each theorem states its own. -/
import Derived.Test.YtggomolcfgmdkaaGreatDoorL4
set_option linter.unnecessarySimpa false
set_option linter.unusedSimpArgs false
set_option linter.unusedVariables false
/- Mirrored trees. By program (mk.py). -/
namespace Go.Tame.V
open Go Go.Proofs
variable {W0 : World}
set_option maxRecDepth 10000
set_option linter.unusedVariables false
set_option linter.unusedSimpArgs false

def flipK (k : Int) : Int := if k = 0 then 1 else if k = 1 then 0 else k
def flip (d : DV) : DV := ⟨flipK d.kind, d.path⟩
theorem fieldDiff_comm (a b : NV) (i : Nat) : fieldDiff b a i = fieldDiff a b i := by
  have hb : ∀ x y : List UInt8, (x == y) = (y == x) := fun x y => by rw [Bool.eq_iff_iff, beq_iff_eq, beq_iff_eq]; exact eq_comm
  have hi : ∀ x y : Int, (x == y) = (y == x) := fun x y => by rw [Bool.eq_iff_iff, beq_iff_eq, beq_iff_eq]; exact eq_comm
  match i with
  | 0 => simp only [fieldDiff, hb b.text]
  | 1 => simp only [fieldDiff, hb b.target]
  | 2 => simp only [fieldDiff, hi b.n1, hi b.n2, hi b.n3]
  | 3 => simp only [fieldDiff, hi b.n4]
  | i + 4 => simp only [fieldDiff, eq_comm (a := b.streams)]
theorem fieldDiffs_flip (p : List UInt8) (a b : NV) (i : Nat) : (fieldDiffs p a b i).map flip = fieldDiffs p b a i := by
  simp only [fieldDiffs, List.map_map]
  rw [show fieldDiff b a = fieldDiff a b from funext (fieldDiff_comm a b)]
  refine List.map_congr_left fun k _ => ?_
  simp only [Function.comp, flip, flipK]
  rw [if_neg (by omega), if_neg (by omega)]
mutual
theorem cmpT_flip (p : List UInt8) (a b : NV) : (cmpT p a b).map flip = cmpT p b a := by
  rw [cmpT, cmpT]
  have h1 := sz_eq a
  have h2 := sz_eq b
  by_cases h : a.kind = b.kind
  · rw [if_pos h, if_pos h.symm, List.map_append, fieldDiffs_flip, mrg_flip p a.kids b.kids]
  · rw [if_neg h, if_neg (fun e => h e.symm)]; rfl
termination_by sz a + sz b
decreasing_by omega
theorem mrg_flip (p : List UInt8) : ∀ xs ys : List NV, (mrg p xs ys).map flip = mrg p ys xs
  | [], [] => by rw [mrg]; rfl
  | x :: xs, [] => by rw [mrg, mrg, List.map_cons, mrg_flip p xs []]; rfl
  | [], y :: ys => by rw [mrg, mrg, List.map_cons, mrg_flip p [] ys]; rfl
  | x :: xs, y :: ys => by
    rw [mrg, mrg]
    by_cases h1 : Op.bytesLess x.name y.name = true
    · rw [if_pos h1, if_neg (by rw [bl_asymm h1]; simp), if_neg (bl_ne h1).symm, List.map_cons, mrg_flip p xs (y :: ys)]; rfl
    · rw [if_neg h1]
      by_cases h2 : x.name = y.name
      · rw [if_pos h2, if_neg (by rw [h2, bl_irrefl]; simp), if_pos h2.symm, List.map_append, cmpT_flip, mrg_flip p xs ys, h2]
      · have h3 : Op.bytesLess y.name x.name = true := by
          cases h3 : Op.bytesLess y.name x.name with
          | true => rfl
          | false => exact absurd (bl_total _ _ (by simpa using h1) h3) h2
        rw [if_neg h2, if_pos h3, List.map_cons, mrg_flip p (x :: xs) ys]; rfl
termination_by xs ys => szL xs + szL ys
decreasing_by all_goals simp only [szL]; omega
end
theorem fieldDiffs_self (p : List UInt8) (a : NV) (i : Nat) : fieldDiffs p a a i = [] := by
  have : fieldDiff a a = fun _ => false := funext fun i => by
    match i with
    | 0 | 1 | 2 | 3 => simp [fieldDiff]
    | i + 4 => simp [fieldDiff]
  simp [fieldDiffs, this]
mutual
theorem cmpT_self (p : List UInt8) (a : NV) : cmpT p a a = [] := by
  rw [cmpT]
  have h1 := sz_eq a
  rw [if_pos rfl, fieldDiffs_self, mrg_self p a.kids]; rfl
termination_by sz a
decreasing_by omega
theorem mrg_self (p : List UInt8) : ∀ xs : List NV, mrg p xs xs = []
  | [] => by rw [mrg]
  | x :: xs => by
    rw [mrg, if_neg (by rw [bl_irrefl]; simp), if_pos rfl, cmpT_self, mrg_self p xs]; rfl
termination_by xs => szL xs
decreasing_by all_goals simp only [szL]; omega
end
theorem compare_ok {a b : NV} (ha : valid a = true) (hb : valid b = true) : compare a b = (cmpT [] a b, 0) := by rw [compare, ha, hb]; rfl
theorem same_self {a : NV} (ha : valid a = true) : same a a = true := by rw [same, compare_ok ha ha, cmpT_self]; rfl
theorem not3 (f x y : Bool) (h : (bif (bif !f then true else !x) then true else !y) = false) : f = true ∧ x = true ∧ y = true := by cases f <;> cases x <;> cases y <;> simp_all

theorem F5 (hL : LibOk W0) (a b : NV) (ha : Fits a) (hb : Fits b) : DFun Tryz.prog W0 5 [encTop a, encTop b] (.bool true) := by
  refine DFun.intro ti_ok Tryz.func5 rfl (by decide +kernel) Tryz.ntmps5 rfl fun Γ => ?_
  refine Tri.seq ?_
  refine Tri.region ti_ok ?_
  conv => whnf
  intro ba
  conv => whnf
  intro bb
  conv => whnf
  refine Tri.seq ?_
  refine Tri.seq ?_
  refine Tri.region ti_ok ?_
  conv => whnf
  refine ⟨[], _, fun _ => F11 hL, trivial, ?_⟩
  conv => whnf
  refine Tri.cond _ rfl (fun hc => ?_) (fun hc => ?_)
  · refine Tri.seq ?_
    refine Tri.region ti_ok ?_
    conv => whnf
    refine Tri.ret ?_
    conv => whnf
    cases hc
  · refine Tri.skip ?_
    conv => whnf
    refine Tri.seq ?_
    refine Tri.seq ?_
    refine Tri.region ti_ok ?_
    conv => whnf
    refine ⟨rfl, ?_⟩
    conv => whnf
    refine ⟨rfl, ?_⟩
    conv => whnf
    refine ⟨[encTop a, encTop b], _, fun _ => F12 a b ha hb, ⟨.refl _, .refl _, trivial⟩, ?_⟩
    conv => whnf
    refine ⟨rfl, ?_⟩
    conv => whnf
    refine ⟨fun h => h, ?_⟩
    conv => whnf
    refine ⟨[encTop a], _, fun h => F20 a ha, ⟨.refl _, trivial⟩, ?_⟩
    conv => whnf
    refine ⟨fun h => h, ?_⟩
    conv => whnf
    refine ⟨fun h0 h => by first | exact h | (rw [h]; rfl) | (rw [h0, h]; rfl), ?_⟩
    conv => whnf
    refine ⟨rfl, ?_⟩
    conv => whnf
    refine ⟨fun h => h, ?_⟩
    conv => whnf
    refine ⟨[encTop b], _, fun h => F20 b hb, ⟨.refl _, trivial⟩, ?_⟩
    conv => whnf
    refine ⟨fun h => h, ?_⟩
    conv => whnf
    refine ⟨fun h0 h => by first | exact h | (rw [h]; rfl) | (rw [h0, h]; rfl), ?_⟩
    conv => whnf
    refine Tri.cond _ rfl (fun hc => ?_) (fun hc => ?_)
    · refine Tri.seq ?_
      refine Tri.region ti_ok ?_
      conv => whnf
      refine Tri.ret ?_
      conv => whnf
      exact .refl _
    · refine Tri.skip ?_
      conv => whnf
      obtain ⟨hfw, hva, hvb⟩ := not3 _ _ _ hc
      have hflip := cmpT_flip [] a b
      refine Tri.seq ?_
      refine Tri.region ti_ok ?_
      conv => whnf
      refine ⟨rfl, ?_⟩
      conv => whnf
      refine ⟨rfl, ?_⟩
      conv => whnf
      refine ⟨[encTop a, encTop b], .tup [.sl .none 2 (encDs (cmpT [] a b)), .int .i64 0], fun _ => by
        have := F13 hL a b ha hb
        rw [compare_ok hva hvb] at this
        exact this, ⟨.refl _, .refl _, trivial⟩, ?_⟩
      conv => whnf
      refine Tri.seq ?_
      refine Tri.region ti_ok ?_
      conv => whnf
      refine ⟨rfl, ?_⟩
      conv => whnf
      refine ⟨rfl, ?_⟩
      conv => whnf
      refine ⟨[encTop b, encTop a], .tup [.sl .none 2 (encDs (cmpT [] b a)), .int .i64 0], fun _ => by
        have := F13 hL b a hb ha
        rw [compare_ok hvb hva] at this
        exact this, ⟨.refl _, .refl _, trivial⟩, ?_⟩
      conv => whnf
      refine Tri.seq ?_
      refine Tri.seq ?_
      refine Tri.region ti_ok ?_
      conv => whnf
      refine ⟨fun h => h, ?_⟩
      conv => whnf
      refine ⟨fun h0 h => by first | exact h | (rw [h]; rfl) | (rw [h0, h]; rfl), ?_⟩
      conv => whnf
      refine ⟨fun h => h, ?_⟩
      conv => whnf
      refine ⟨fun h => h, ?_⟩
      conv => whnf
      refine ⟨fun h => h, ?_⟩
      conv => whnf
      refine ⟨fun h => h, ?_⟩
      conv => whnf
      refine ⟨fun h0 h => by first | exact h | (rw [h]; rfl) | (rw [h0, h]; rfl), ?_⟩
      conv => whnf
      refine ⟨rfl, ?_⟩
      conv => whnf
      refine ⟨rfl, ?_⟩
      conv => whnf
      refine ⟨fun h => h, ?_⟩
      conv => whnf
      refine ⟨fun h => h, ?_⟩
      conv => whnf
      refine ⟨[encTop a, encTop a], .bool true, fun h => by
        have := F16 hL a a ha ha
        rw [same_self hva] at this
        exact this, ⟨.refl _, .refl _, trivial⟩, ?_⟩
      conv => whnf
      refine ⟨fun h => h, ?_⟩
      conv => whnf
      refine ⟨fun h0 h => by first | exact h | (rw [h]; rfl) | (rw [h0, h]; rfl), ?_⟩
      conv => whnf
      refine ⟨rfl, ?_⟩
      conv => whnf
      refine ⟨rfl, ?_⟩
      conv => whnf
      refine ⟨fun h => h, ?_⟩
      conv => whnf
      refine ⟨fun h => h, ?_⟩
      conv => whnf
      refine ⟨[encTop b, encTop b], .bool true, fun h => by
        have := F16 hL b b hb hb
        rw [same_self hvb] at this
        exact this, ⟨.refl _, .refl _, trivial⟩, ?_⟩
      conv => whnf
      refine ⟨fun h => h, ?_⟩
      conv => whnf
      refine ⟨fun h0 h => by first | exact h | (rw [h]; rfl) | (rw [h0, h]; rfl), ?_⟩
      conv => whnf
      refine Tri.cond _ rfl (fun hc => ?_) (fun hc => ?_)
      · refine Tri.seq ?_
        refine Tri.region ti_ok ?_
        conv => whnf
        refine Tri.ret ?_
        conv => whnf
        exfalso
        have hlen : ((encDs (cmpT [] a b)).length : Int) = ((encDs (cmpT [] b a)).length : Int) := by rw [← hflip]; simp [encDs]
        rw [hlen] at hc
        have : (((encDs (cmpT [] b a)).length : Int) != ((encDs (cmpT [] b a)).length : Int)) = false := by simp
        rw [this] at hc
        cases hc
      · refine Tri.skip ?_
        conv => whnf
        refine Tri.seq ?_
        refine Tri.seq ?_
        refine Tri.region ti_ok ?_
        conv => whnf
        refine Tri.block ?_
        generalize hX : cmpT [] a b = X at *
        have hXl : X.length ≤ 6 * 2200000 := by
          have := cmpT_len [] a b
          unfold Fits at ha hb
          rw [hX] at this; omega
        rw [← hflip]
        refine Tri.loop (α := { i : Nat // i ≤ X.length }) (fun x => [(7, .sl .none 2 (encDs (X.map flip))), (64, .sl .none 2 (encDs X)), (65, .int .i64 (encDs X).length), (66, .int .i64 x.1)]) (fun _ => []) (fun x => X.length - x.1) ⟨0, by omega⟩ ⟨.refl _, .refl _, .refl _, .refl _, trivial⟩ trivial ?_
        rintro ⟨i, hi⟩
        refine Tri.seq ?_
        refine Tri.region ti_ok ?_
        conv => whnf
        refine Tri.seq ?_
        refine Tri.cond _ rfl (fun hc => ?_) (fun hc => ?_)
        · refine Tri.skip ?_
          conv => whnf
          have hia : i < X.length := by simpa [encDs] using hc
          refine Tri.seq ?_
          refine Tri.block ?_
          refine Tri.seq ?_
          refine Tri.region ti_ok ?_
          conv => whnf
          refine ⟨fun _ => by simp [encDs]; omega, ?_⟩
          conv => whnf
          refine ⟨encD X[i], fun _ => by simp [encDs, hia], ?_⟩
          conv => whnf
          intro b10
          conv => whnf
          refine ⟨rfl, ?_⟩
          conv => whnf
          refine Tri.joinK (α := Unit) (fun x => [(7, .sl .none 2 (encDs (X.map flip))), (64, .sl .none 2 (encDs X)), (65, .int .i64 (encDs X).length), (66, .int .i64 i), (9, .int .i64 i), (10, .box 10 b10 0)]) (fun x => [(10, .box b10 [.int .i64 (flipK X[i].kind), .str X[i].path])]) ?_ ?_
          · refine Tri.seq ?_
            refine Tri.region ti_ok ?_
            conv => whnf
            refine ⟨rfl, ?_⟩
            conv => whnf
            refine Tri.block ?_
            refine Tri.seq ?_
            refine Tri.region ti_ok ?_
            conv => whnf
            refine Tri.cond _ rfl (fun hc => ?_) (fun hc => ?_)
            · refine Tri.region ti_ok ?_
              conv => whnf
              refine ⟨rfl, ?_⟩
              conv => whnf
              have h0 : X[i].kind = 0 := by simpa using hc
              exact ⟨(), [(10, 10)], ⟨.refl _, .refl _, .refl _, .refl _, .refl _, .refl _, trivial⟩, rfl, rfl, congrArg (fun z => some (HObj.box b10 [.int .i64 z, .str X[i].path])) (by rw [h0]; rfl), trivial⟩
            · refine Tri.seq ?_
              refine Tri.region ti_ok ?_
              conv => whnf
              refine Tri.cond _ rfl (fun hc => ?_) (fun hc => ?_)
              · refine Tri.region ti_ok ?_
                conv => whnf
                refine ⟨rfl, ?_⟩
                conv => whnf
                have h0 : X[i].kind = 1 := by simpa using hc
                exact ⟨(), [(10, 10)], ⟨.refl _, .refl _, .refl _, .refl _, .refl _, .refl _, trivial⟩, rfl, rfl, congrArg (fun z => some (HObj.box b10 [.int .i64 z, .str X[i].path])) (by rw [h0]; rfl), trivial⟩
              · refine Tri.skip ?_
                conv => whnf
                have h1 : X[i].kind ≠ 1 := by simpa using hc
                rename_i hc0
                have h0 : X[i].kind ≠ 0 := by simpa using hc0
                exact ⟨(), [(10, 10)], ⟨.refl _, .refl _, .refl _, .refl _, .refl _, .refl _, trivial⟩, rfl, rfl, congrArg (fun z => some (HObj.box b10 [.int .i64 z, .str X[i].path])) (by rw [flipK, if_neg h0, if_neg h1]), trivial⟩
          · rintro ⟨⟩
            refine Tri.seq ?_
            refine Tri.draw ti_ok mixed (by kernel_rfl) ?_
            conv => whnf
            refine ⟨rfl, ?_⟩
            conv => whnf
            refine ⟨fun _ => by simp [encDs]; omega, ?_⟩
            conv => whnf
            refine ⟨encD (flip X[i]), fun _ => by simp [encDs, hia], ?_⟩
            conv => whnf
            refine Tri.cond _ rfl (fun hc => ?_) (fun hc => ?_)
            · refine Tri.seq ?_
              refine Tri.region ti_ok ?_
              conv => whnf
              refine Tri.ret ?_
              conv => whnf
              exfalso
              have hb1 : (flipK X[i].kind == flipK X[i].kind) = true := by simp
              have hb2 : (X[i].path == X[i].path) = true := by simp
              simp [flip] at hc
            · refine Tri.skip ?_
              conv => whnf
              refine Tri.region ti_ok ?_
              conv => whnf
              refine .inl ⟨fun _ => by simp [InR]; omega, ?_⟩
              conv => whnf
              exact ⟨⟨i + 1, by omega⟩, by show _ - (i + 1) < _ - i; omega, ⟨.refl _, .refl _, .refl _, .refl _, trivial⟩, trivial⟩
        · refine Tri.exit ?_
          conv => whnf
          refine Tri.seq ?_
          refine Tri.region ti_ok ?_
          conv => whnf
          refine Tri.ret ?_
          conv => whnf
          exact .refl _
end Go.Tame.V
/- Paths of a tree by lists of names; trees that do not differ. Plain. -/
namespace Go.Tame.V
open Go Go.Proofs
set_option maxRecDepth 10000
set_option linter.unusedVariables false
set_option linter.unusedSimpArgs false

mutual
def pathsN : NV → List (List (List UInt8))
  | .mk _ _ _ _ _ _ _ _ _ _ ks _ => [] :: pathsNL ks
def pathsNL : List NV → List (List (List UInt8))
  | [] => []
  | k :: r => (pathsN k).map (fun q => k.name :: q) ++ pathsNL r
end
theorem pathsN_eq (n : NV) : pathsN n = [] :: pathsNL n.kids := by cases n; simp only [pathsN]
def findK (q : List UInt8) (ks : List NV) : Option NV := ks.find? fun k => k.name == q
def getN : NV → List (List UInt8) → Option NV
  | n, [] => some n
  | n, m :: ms => match findK m n.kids with
    | some k => getN k ms
    | none => none
theorem mem_pathsNL : ∀ {ks : List NV} {p : List (List UInt8)}, p ∈ pathsNL ks ↔ ∃ k ∈ ks, ∃ q ∈ pathsN k, p = k.name :: q
  | [], p => by simp [pathsNL]
  | k :: r, p => by
    have ih := mem_pathsNL (ks := r) (p := p)
    simp only [pathsNL, List.mem_append, List.mem_map, List.mem_cons, ih]
    constructor
    · rintro (⟨q, hq, rfl⟩ | ⟨x, hx, q, hq, rfl⟩)
      · exact ⟨k, .inl rfl, q, hq, rfl⟩
      · exact ⟨x, .inr hx, q, hq, rfl⟩
    · rintro ⟨x, rfl | hx, q, hq, rfl⟩
      · exact .inl ⟨q, hq, rfl⟩
      · exact .inr ⟨x, hx, q, hq, rfl⟩
theorem nil_mem (n : NV) : [] ∈ pathsN n := by rw [pathsN_eq]; exact List.mem_cons_self
theorem cons_mem {n : NV} {m : List UInt8} {q : List (List UInt8)} : m :: q ∈ pathsN n ↔ ∃ k ∈ n.kids, k.name = m ∧ q ∈ pathsN k := by
  rw [pathsN_eq, List.mem_cons, mem_pathsNL]
  constructor
  · rintro (h | ⟨k, hk, q', hq, h⟩)
    · cases h
    · cases h; exact ⟨k, hk, rfl, hq⟩
  · rintro ⟨k, hk, rfl, hq⟩
    exact .inr ⟨k, hk, q, hq, rfl⟩
theorem inc_name {ks : List NV} (h : inc ks) {x y : NV} (hx : x ∈ ks) (hy : y ∈ ks) (e : x.name = y.name) : x = y := by
  obtain ⟨i, hi, rfl⟩ := List.mem_iff_getElem.1 hx
  obtain ⟨j, hj, rfl⟩ := List.mem_iff_getElem.1 hy
  rcases Nat.lt_trichotomy i j with l | l | l
  · exact absurd e (bl_ne (inc_get h l hj))
  · subst l; rfl
  · exact absurd e.symm (bl_ne (inc_get h l hi))
theorem findK_inc {ks : List NV} (h : inc ks) {k : NV} (hk : k ∈ ks) : findK k.name ks = some k := by
  unfold findK
  cases hf : ks.find? (fun x => x.name == k.name) with
  | none =>
    have := List.find?_eq_none.1 hf k hk
    simp at this
  | some x =>
    have h1 := List.mem_of_find?_eq_some hf
    have h2 := List.find?_some hf
    rw [inc_name h h1 hk (by simpa using h2)]
theorem findK_name {ks : List NV} {q : List UInt8} {k : NV} (h : findK q ks = some k) : k ∈ ks ∧ k.name = q :=
  ⟨List.mem_of_find?_eq_some h, by simpa using List.find?_some h⟩
theorem getN_cons {n k : NV} {m : List UInt8} {q : List (List UInt8)} (hi : inc n.kids) (hk : k ∈ n.kids) (e : k.name = m) : getN n (m :: q) = getN k q := by
  subst e; simp only [getN, findK_inc hi hk]
/-- The kids of every node rise. -/
theorem okT_inc {n : NV} (h : okT n) : inc n.kids := ((okT_eq n).1 h).2.2.1
theorem okT_kid {n k : NV} (h : okT n) (hk : k ∈ n.kids) : okT k := (okL_get ((okT_eq n).1 h).2.2.2 hk).2
theorem okT_name {n k : NV} (h : okT n) (hk : k ∈ n.kids) : nameOk k.name = true := (okL_get ((okT_eq n).1 h).2.2.2 hk).1.1

theorem getN_mem : ∀ (q : List (List UInt8)) (n : NV), okT n → (q ∈ pathsN n ↔ ∃ x, getN n q = some x)
  | [], n, h => by simp [getN, nil_mem]
  | m :: q, n, h => by
    rw [cons_mem]
    constructor
    · rintro ⟨k, hk, rfl, hq⟩
      rw [getN_cons (okT_inc h) hk rfl]
      exact (getN_mem q k (okT_kid h hk)).1 hq
    · rintro ⟨x, hx⟩
      simp only [getN] at hx
      cases hf : findK m n.kids with
      | none => rw [hf] at hx; cases hx
      | some k =>
        rw [hf] at hx
        obtain ⟨h1, h2⟩ := findK_name hf
        exact ⟨k, h1, h2, (getN_mem q k (okT_kid h h1)).2 ⟨x, hx⟩⟩

/-- Alike apart from the name, the weight and the hidden bits. -/
def fieldsEq (a b : NV) : Prop := a.kind = b.kind ∧ a.text = b.text ∧ a.target = b.target ∧ a.n1 = b.n1 ∧ a.n2 = b.n2 ∧ a.n3 = b.n3 ∧ a.n4 = b.n4 ∧ a.streams = b.streams
mutual
def sim : NV → NV → Prop
  | .mk a b c t e f g h i j ks ss, n => fieldsEq (.mk a b c t e f g h i j ks ss) n ∧ simL ks n.kids
def simL : List NV → List NV → Prop
  | [], l => l = []
  | k :: r, l => ∃ y ys, l = y :: ys ∧ k.name = y.name ∧ sim k y ∧ simL r ys
end
theorem sim_eq (a b : NV) : sim a b ↔ fieldsEq a b ∧ simL a.kids b.kids := by cases a; simp only [sim]
theorem fieldDiffs_nil (p : List UInt8) (a b : NV) : (a.kind = b.kind ∧ fieldDiffs p a b 5 = []) ↔ fieldsEq a b := by
  simp only [fieldDiffs, List.map_eq_nil_iff, List.filter_eq_nil_iff, List.mem_range, fieldsEq]
  constructor
  · rintro ⟨hk, h⟩
    have h0 := h 0 (by omega)
    have h1 := h 1 (by omega)
    have h2 := h 2 (by omega)
    have h3 := h 3 (by omega)
    have h4 := h 4 (by omega)
    simp [fieldDiff] at h0 h1 h2 h3 h4
    exact ⟨hk, h0, h1, h2.1.1, h2.1.2, h2.2, h3, h4⟩
  · rintro ⟨hk, h0, h1, h2, h3, h4, h5, h6⟩
    refine ⟨hk, fun i hi => ?_⟩
    match i, hi with
    | 0, _ => simp [fieldDiff, h0]
    | 1, _ => simp [fieldDiff, h1]
    | 2, _ => simp [fieldDiff, h2, h3, h4]
    | 3, _ => simp [fieldDiff, h5]
    | 4, _ => simp [fieldDiff, h6]
mutual
theorem cmpT_nil (p : List UInt8) (a b : NV) : cmpT p a b = [] ↔ sim a b := by
  rw [cmpT, sim_eq, ← fieldDiffs_nil p a b, and_assoc]
  have h1 := sz_eq a
  have h2 := sz_eq b
  by_cases h : a.kind = b.kind
  · rw [if_pos h, List.append_eq_nil_iff, mrg_nil p a.kids b.kids]
    simp [h]
  · rw [if_neg h]; simp [h]
termination_by sz a + sz b
decreasing_by omega
theorem mrg_nil (p : List UInt8) : ∀ xs ys : List NV, mrg p xs ys = [] ↔ simL xs ys
  | [], [] => by rw [mrg, simL]; simp
  | x :: xs, [] => by rw [mrg, simL]; simp
  | [], y :: ys => by rw [mrg, simL]; simp
  | x :: xs, y :: ys => by
    rw [mrg, simL]
    by_cases h1 : Op.bytesLess x.name y.name = true
    · rw [if_pos h1]
      have := bl_ne h1
      simp [this]
    · rw [if_neg h1]
      by_cases h2 : x.name = y.name
      · rw [if_pos h2, List.append_eq_nil_iff, cmpT_nil, mrg_nil p xs ys]
        constructor
        · rintro ⟨u, w⟩; exact ⟨y, ys, rfl, h2, u, w⟩
        · rintro ⟨y', ys', e, _, u, w⟩; cases e; exact ⟨u, w⟩
      · rw [if_neg h2]; simp [h2]
termination_by xs ys => szL xs + szL ys
decreasing_by all_goals simp only [szL]; omega
end

/-- Every path of the one leads to a like node of the other, and no path of the other is new. -/
def samePaths (a b : NV) : Prop := (∀ q ∈ pathsN a, ∃ x y, getN a q = some x ∧ getN b q = some y ∧ fieldsEq x y) ∧ ∀ q ∈ pathsN b, q ∈ pathsN a
theorem names_eq {xs ys : List NV} (hx : inc xs) (hy : inc ys) (h1 : ∀ x ∈ xs, ∃ y ∈ ys, y.name = x.name) (h2 : ∀ y ∈ ys, ∃ x ∈ xs, x.name = y.name) : xs.map NV.name = ys.map NV.name := by
  have px := inc_pairwise hx
  have py := inc_pairwise hy
  have nd : ∀ {l : List NV}, inc l → (l.map NV.name).Nodup := fun {l} h => by
    rw [List.nodup_iff_pairwise_ne, List.pairwise_map]
    exact List.pairwise_iff_getElem.2 fun i j hi hj hij => bl_ne (inc_get h hij hj)
  have hp : (xs.map NV.name).Perm (ys.map NV.name) := (List.perm_ext_iff_of_nodup (nd hx) (nd hy)).2 fun m => by
    simp only [List.mem_map]
    constructor
    · rintro ⟨x, hx, rfl⟩; exact h1 x hx
    · rintro ⟨y, hy, rfl⟩; exact h2 y hy
  exact List.Perm.eq_of_pairwise (le := fun a b : List UInt8 => Op.bytesLess b a = false) (fun a b _ _ h1 h2 => bl_total _ _ h2 h1) (List.pairwise_map.2 px) (List.pairwise_map.2 py) hp
theorem simL_of : ∀ {xs ys : List NV}, xs.map NV.name = ys.map NV.name → (∀ i (hi : i < xs.length) (hj : i < ys.length), sim xs[i] ys[i]) → simL xs ys
  | [], [], _, _ => by simp [simL]
  | [], y :: ys, h, _ => by simp at h
  | x :: xs, [], h, _ => by simp at h
  | x :: xs, y :: ys, h, hs => by
    simp only [List.map_cons, List.cons.injEq] at h
    rw [simL]
    exact ⟨y, ys, rfl, h.1, hs 0 (by simp) (by simp), simL_of h.2 fun i hi hj => hs (i + 1) (by simpa using hi) (by simpa using hj)⟩
theorem simL_get : ∀ {xs ys : List NV}, simL xs ys → (∀ x ∈ xs, ∃ y ∈ ys, y.name = x.name ∧ sim x y) ∧ ∀ y ∈ ys, ∃ x ∈ xs, x.name = y.name ∧ sim x y
  | [], l, h => by
    rw [simL] at h; subst h
    exact ⟨fun x hx => by (cases hx), fun x hx => by (cases hx)⟩
  | x :: xs, l, h => by
    rw [simL] at h
    obtain ⟨y, ys, rfl, hn, hs, hr⟩ := h
    obtain ⟨h1, h2⟩ := simL_get hr
    refine ⟨fun z hz => ?_, fun z hz => ?_⟩
    · rcases List.mem_cons.1 hz with rfl | hz
      · exact ⟨y, List.mem_cons_self, hn.symm, hs⟩
      · obtain ⟨w, hw, h3⟩ := h1 z hz
        exact ⟨w, List.mem_cons_of_mem _ hw, h3⟩
    · rcases List.mem_cons.1 hz with rfl | hz
      · exact ⟨x, List.mem_cons_self, hn, hs⟩
      · obtain ⟨w, hw, h3⟩ := h2 z hz
        exact ⟨w, List.mem_cons_of_mem _ hw, h3⟩
theorem same_sim : ∀ (N : Nat) (a b : NV), sz a < N → okT a → okT b → samePaths a b → sim a b := by
  refine fun N => Nat.rec (fun a b h => absurd h (Nat.not_lt_zero _)) (fun N ih a b hN ha hb h => ?_) N
  obtain ⟨h1, h2⟩ := h
  rw [sim_eq]
  refine ⟨?_, ?_⟩
  · obtain ⟨x, y, hx, hy, hf⟩ := h1 [] (nil_mem a)
    simp only [getN, Option.some.injEq] at hx hy
    subst hx hy; exact hf
  · have hia := okT_inc ha
    have hib := okT_inc hb
    have hnm : a.kids.map NV.name = b.kids.map NV.name := by
      refine names_eq hia hib (fun x hx => ?_) (fun y hy => ?_)
      · obtain ⟨u, w, hu, hw, _⟩ := h1 [x.name] (cons_mem.2 ⟨x, hx, rfl, nil_mem x⟩)
        obtain ⟨k, hk, e, _⟩ := cons_mem.1 ((getN_mem _ b hb).2 ⟨w, hw⟩)
        exact ⟨k, hk, e⟩
      · obtain ⟨k, hk, e, _⟩ := cons_mem.1 (h2 [y.name] (cons_mem.2 ⟨y, hy, rfl, nil_mem y⟩))
        exact ⟨k, hk, e⟩
    refine simL_of hnm fun i hi hj => ?_
    have hx := List.getElem_mem hi
    have hy := List.getElem_mem hj
    have hn : (a.kids[i]).name = (b.kids[i]).name := by
      have : (a.kids.map NV.name)[i]? = (b.kids.map NV.name)[i]? := by rw [hnm]
      simpa [hi, hj] using this
    have hsz := kid_sz hi
    refine ih _ _ (by omega) (okT_kid ha hx) (okT_kid hb hy) ⟨fun q hq => ?_, fun q hq => ?_⟩
    · obtain ⟨u, w, hu, hw, hf⟩ := h1 ((a.kids[i]).name :: q) (cons_mem.2 ⟨_, hx, rfl, hq⟩)
      rw [getN_cons hia hx rfl] at hu
      rw [getN_cons hib hy hn.symm] at hw
      exact ⟨u, w, hu, hw, hf⟩
    · obtain ⟨k, hk, e, hq'⟩ := cons_mem.1 (h2 ((b.kids[i]).name :: q) (cons_mem.2 ⟨_, hy, rfl, hq⟩))
      have := inc_name hia hk hx (e.trans hn.symm)
      rw [this] at hq'
      exact hq'
theorem sim_same : ∀ (q : List (List UInt8)) (a b : NV), okT a → okT b → sim a b → (∀ x, getN a q = some x → ∃ y, getN b q = some y ∧ fieldsEq x y) ∧ (q ∈ pathsN b → q ∈ pathsN a)
  | [], a, b, ha, hb, h => by
    refine ⟨fun x hx => ?_, fun _ => nil_mem a⟩
    simp only [getN, Option.some.injEq] at hx
    subst hx
    exact ⟨b, rfl, ((sim_eq a b).1 h).1⟩
  | m :: q, a, b, ha, hb, h => by
    obtain ⟨h1, h2⟩ := simL_get ((sim_eq a b).1 h).2
    refine ⟨fun x hx => ?_, fun hq => ?_⟩
    · obtain ⟨k, hk, e, hq⟩ := cons_mem.1 ((getN_mem _ a ha).2 ⟨x, hx⟩)
      obtain ⟨y, hy, hn, hs⟩ := h1 k hk
      rw [getN_cons (okT_inc ha) hk e] at hx
      rw [getN_cons (okT_inc hb) hy (hn.trans e)]
      exact (sim_same q k y (okT_kid ha hk) (okT_kid hb hy) hs).1 x hx
    · obtain ⟨y, hy, e, hq⟩ := cons_mem.1 hq
      obtain ⟨x, hx, hn, hs⟩ := h2 y hy
      exact cons_mem.2 ⟨x, hx, hn.trans e, (sim_same q x y (okT_kid ha hx) (okT_kid hb hy) hs).2 hq⟩
theorem pathsN_sim : ∀ (N : Nat) (a b : NV), sz a < N → sim a b → pathsN a = pathsN b := by
  refine fun N => Nat.rec (fun a b h => absurd h (Nat.not_lt_zero _)) (fun N ih a b hN h => ?_) N
  have hl : ∀ xs ys : List NV, (∀ x ∈ xs, sz x < N) → simL xs ys → pathsNL xs = pathsNL ys := by
    intro xs
    induction xs with
    | nil => intro ys _ hs; rw [simL] at hs; subst hs; rfl
    | cons x xs ihx =>
      intro ys hz hs
      rw [simL] at hs
      obtain ⟨y, ys, rfl, hn, hs, hr⟩ := hs
      simp only [pathsNL]
      rw [ih x y (hz x List.mem_cons_self) hs, hn, ihx ys (fun z hz' => hz z (List.mem_cons_of_mem _ hz')) hr]
  rw [pathsN_eq, pathsN_eq, hl a.kids b.kids (fun x hx => by
    obtain ⟨i, hi, rfl⟩ := List.mem_iff_getElem.1 hx
    have := kid_sz hi; omega) ((sim_eq a b).1 h).2]

/-- The law: trees do not differ just if their paths are the same and lead to like nodes. -/
theorem equals_law {a b : NV} (ha : okT a) (hb : okT b) :
    (pathsN a = pathsN b ∧ ∀ q ∈ pathsN a, ∃ x y, getN a q = some x ∧ getN b q = some y ∧ fieldsEq x y) ↔ cmpT [] a b = [] := by
  rw [cmpT_nil]
  constructor
  · rintro ⟨h1, h2⟩
    exact same_sim _ a b (Nat.lt_succ_self _) ha hb ⟨h2, fun q hq => by rw [h1]; exact hq⟩
  · intro h
    refine ⟨pathsN_sim _ a b (Nat.lt_succ_self _) h, fun q hq => ?_⟩
    obtain ⟨x, hx⟩ := (getN_mem q a ha).1 hq
    obtain ⟨y, hy, hf⟩ := (sim_same q a b ha hb h).1 x hx
    exact ⟨x, y, hx, hy, hf⟩

/-- Names, each behind a slash. -/
def tailF (q : List (List UInt8)) : List UInt8 := q.flatMap fun m => 47 :: m
def joinF : List (List UInt8) → List UInt8
  | [] => []
  | m :: r => m ++ tailF r
mutual
/-- The paths as texts: p is the node's own, at level l. -/
def pathsS : NV → List UInt8 → Int → List (List UInt8)
  | .mk _ _ _ _ _ _ _ _ _ _ ks _, p, l => p :: pathsSL ks p l
def pathsSL : List NV → List UInt8 → Int → List (List UInt8)
  | [], _, _ => []
  | k :: r, p, l => pathsS k (below p k.name (l + 1)) (l + 1) ++ pathsSL r p l
end
theorem pathsS_eq (n : NV) (p : List UInt8) (l : Int) : pathsS n p l = p :: pathsSL n.kids p l := by cases n; simp only [pathsS]
mutual
theorem pathsS_deep : ∀ (n : NV) (p : List UInt8) (l : Int), 2 ≤ l → pathsS n p l = (pathsN n).map fun q => p ++ tailF q
  | .mk _ _ _ _ _ _ _ _ _ _ ks _, p, l, h => by
    simp only [pathsS, pathsN, List.map_cons]
    rw [pathsSL_deep ks p l h]
    simp [tailF]
theorem pathsSL_deep : ∀ (ks : List NV) (p : List UInt8) (l : Int), 2 ≤ l → pathsSL ks p l = (pathsNL ks).map fun q => p ++ tailF q
  | [], p, l, h => rfl
  | k :: r, p, l, h => by
    simp only [pathsSL, pathsNL, List.map_append, List.map_map]
    rw [pathsSL_deep r p l h, pathsS_deep k _ (l + 1) (by omega), below, if_neg (by omega)]
    congr 1
    refine List.map_congr_left fun q _ => ?_
    simp [tailF]
end
theorem pathsSL_top : ∀ (ks : List NV), pathsSL ks [] 1 = (pathsNL ks).map joinF
  | [] => rfl
  | k :: r => by
    simp only [pathsSL, pathsNL, List.map_append, List.map_map]
    rw [pathsSL_top r, pathsS_deep k _ _ (by omega), below, if_pos (by omega)]
    congr 1
theorem pathsS_top (n : NV) : pathsS n [] 1 = (pathsN n).map joinF := by
  rw [pathsS_eq, pathsN_eq, pathsSL_top]; rfl
theorem split_tail : ∀ (ms : List (List UInt8)) (p : List UInt8), (47 : UInt8) ∉ p → (∀ m ∈ ms, (47 : UInt8) ∉ m) → splitG 47 [] (p ++ tailF ms) = p :: ms
  | [], p, hp, _ => by simp [tailF, splitG_no p [] hp]
  | m :: r, p, hp, h => by
    have e : p ++ tailF (m :: r) = p ++ 47 :: (m ++ tailF r) := by simp [tailF]
    rw [e, splitG_at p [] _ hp, split_tail r m (h m List.mem_cons_self) fun x hx => h x (List.mem_cons_of_mem _ hx)]
    simp
/-- A path of names. -/
def okP (q : List (List UInt8)) : Prop := ∀ m ∈ q, nameOk m = true
theorem name_noslash {m : List UInt8} (h : nameOk m = true) : (47 : UInt8) ∉ m := by
  intro hm
  unfold nameOk at h
  rw [if_pos (.inr (.inr hm))] at h
  cases h
theorem joinF_nil {q : List (List UInt8)} (h : okP q) : joinF q = [] ↔ q = [] := by
  cases q with
  | nil => simp [joinF]
  | cons m r =>
    have := name_ne (h m List.mem_cons_self)
    simp [joinF, this]
theorem split_join {q : List (List UInt8)} (h : okP q) (hq : q ≠ []) : splitG 47 [] (joinF q) = q := by
  cases q with
  | nil => exact absurd rfl hq
  | cons m r => exact split_tail r m (name_noslash (h m List.mem_cons_self)) fun x hx => name_noslash (h x (List.mem_cons_of_mem _ hx))
theorem joinF_inj {q q' : List (List UInt8)} (h : okP q) (h' : okP q') (e : joinF q = joinF q') : q = q' := by
  by_cases h0 : q = []
  · subst h0
    exact ((joinF_nil h').1 (by rw [← e]; rfl)).symm
  · have h1 : q' ≠ [] := fun h2 => h0 ((joinF_nil h).1 (by rw [e, h2]; rfl))
    rw [← split_join h h0, e, split_join h' h1]
theorem path_ok : ∀ (q : List (List UInt8)) (n : NV), okT n → q ∈ pathsN n → okP q
  | [], n, _, _ => fun m hm => by cases hm
  | m :: q, n, h, hq => by
    obtain ⟨k, hk, e, hq⟩ := cons_mem.1 hq
    intro x hx
    rcases List.mem_cons.1 hx with rfl | hx
    · rw [← e]; exact okT_name h hk
    · exact path_ok q k (okT_kid h hk) hq x hx
theorem map_join_inj : ∀ {l l' : List (List (List UInt8))}, (∀ q ∈ l, okP q) → (∀ q ∈ l', okP q) → (l.map joinF = l'.map joinF ↔ l = l')
  | [], [], _, _ => by simp
  | [], y :: ys, _, _ => by simp
  | x :: xs, [], _, _ => by simp
  | x :: xs, y :: ys, h, h' => by
    have ih := map_join_inj (l := xs) (l' := ys) (fun q hq => h q (List.mem_cons_of_mem _ hq)) (fun q hq => h' q (List.mem_cons_of_mem _ hq))
    simp only [List.map_cons, List.cons.injEq, ih]
    constructor
    · rintro ⟨e, r⟩; exact ⟨joinF_inj (h x List.mem_cons_self) (h' y List.mem_cons_self) e, r⟩
    · rintro ⟨rfl, r⟩; exact ⟨rfl, r⟩
end Go.Tame.V
/- Contracts: the other way of trees: paths, Get, Equal. By program (mk.py). -/
namespace Go.Tame.V
open Go Go.Proofs
variable {W0 : World}
set_option maxRecDepth 10000
set_option linter.unusedVariables false
set_option linter.unusedSimpArgs false

mutual
theorem pathsS_len : ∀ (n : NV) (p : List UInt8) (l : Int), (pathsS n p l).length = cnt n
  | .mk _ _ _ _ _ _ _ _ _ _ ks _, p, l => by
    have := pathsSL_len ks p l
    simp only [pathsS, cnt, List.length_cons]; omega
theorem pathsSL_len : ∀ (ks : List NV) (p : List UInt8) (l : Int), (pathsSL ks p l).length = cntL ks
  | [], p, l => rfl
  | k :: r, p, l => by
    have h1 := pathsS_len k (below p k.name (l + 1)) (l + 1)
    have h2 := pathsSL_len r p l
    simp only [pathsSL, cntL, List.length_append]; omega
end
theorem pathsSL_next : ∀ {ks : List NV} {i : Nat} (h : i < ks.length) (p : List UInt8) (l : Int), pathsSL (ks.take (i + 1)) p l = pathsSL (ks.take i) p l ++ pathsS ks[i] (below p ks[i].name (l + 1)) (l + 1)
  | k :: r, 0, _, p, l => by simp [pathsSL]
  | k :: r, i + 1, h, p, l => by
    have := pathsSL_next (ks := r) (i := i) (by simpa using h) p l
    simp only [List.take_succ_cons, pathsSL, List.getElem_cons_succ]
    rw [this]; simp

theorem F46 : ∀ (N : Nat) (n : NV), sz n < N → sz n < 10000000 → ∀ (p : List UInt8) (l : Int), 1 ≤ l → p.length + sz n < 100000000 → l + sz n < 1000000000 → DFun Tryz.prog W0 46 [encTop n, .str p, .int .i64 l] (.sl .none 1 (strs (pathsS n p l))) := by
  refine fun N => Nat.rec (fun n h => absurd h (Nat.not_lt_zero _)) (fun N ih n hN hz p l hl hp hls => ?_) N
  refine DFun.intro ti_ok Tryz.func46 rfl (by decide +kernel) Tryz.ntmps46 rfl fun Γ => ?_
  refine Tri.seq ?_
  refine Tri.region ti_ok ?_
  conv => whnf
  intro b3
  conv => whnf
  refine Tri.seq ?_
  refine Tri.region ti_ok ?_
  conv => whnf
  refine ⟨trivial, ?_⟩
  conv => whnf
  refine Tri.seq ?_
  refine Tri.seq ?_
  refine Tri.region ti_ok ?_
  conv => whnf
  refine Tri.block ?_
  refine Tri.own 7 1000 1 9 rfl (fun w => ?_)
  refine Tri.loopK (α := { i : Nat // i ≤ n.kids.length } × Value) (fun x => [(1, .str p), (2, .int .i64 l), (3, .box 3 b3 0), (7, .sl (.own 1000 x.2) 1 (strs (p :: pathsSL (n.kids.take x.1.1) p l))), (8, .int .i64 x.1.1)]) (fun x => [(3, .box b3 [.str n.name, .int .i64 n.kind, .str n.text, .str n.target, .int .i64 n.n1, .int .i64 n.n2, .int .i64 n.n3, .int .i64 n.n4, .int .i64 n.n5, .int .i64 n.n6, .sl .none 12 (n.kids.map enc), .sl .none 2 (n.streams.map encS)]), (1000, .own x.2 (strs (p :: pathsSL (n.kids.take x.1.1) p l)).length 1 9)]) (fun x => n.kids.length - x.1.1) (⟨0, Nat.zero_le _⟩, w) [(3, 3), (1000, 1000)]
    ⟨⟨.refl _, .refl _, .refl _, .refl _, .refl _, trivial⟩, rfl, rfl, rfl, rfl, rfl, trivial⟩ ?_
  rintro ⟨⟨i, hi⟩, w⟩
  dsimp only at hi ⊢
  refine Tri.seq ?_
  refine Tri.seq ?_
  refine Tri.region ti_ok ?_
  conv => whnf
  refine ⟨rfl, ?_⟩
  conv => whnf
  refine Tri.cond _ rfl (fun hc => ?_) (fun hc => ?_)
  · refine Tri.skip ?_
    conv => whnf
    have hia : i < n.kids.length := by simpa using hc
    have hkz := kid_sz hia
    have hbl := below_len p n.kids[i].name (l + 1)
    have hnx := pathsSL_next hia p l
    have hll := pathsSL_len (n.kids.take i) p l
    have hlt := cntL_take n.kids i
    have hcz := cntL_sz n.kids
    have hsze := sz_eq n
    have hkl := pathsS_len n.kids[i] (below p n.kids[i].name (l + 1)) (l + 1)
    have hks := cnt_sz n.kids[i]
    have hkk := szL_len n.kids
    refine Tri.seq ?_
    refine Tri.block ?_
    refine Tri.drawTail ti_ok 18 mixed (by kernel_rfl) ?_
    conv => whnf
    refine ⟨rfl, ?_⟩
    conv => whnf
    refine ⟨fun _ => by simp; omega, ?_⟩
    conv => whnf
    refine ⟨encTop n.kids[i], fun _ => get_kids hia, ?_⟩
    conv => whnf
    refine ⟨rfl, ?_⟩
    conv => whnf
    refine ⟨fun _ => by simp; omega, ?_⟩
    conv => whnf
    refine ⟨encTop n.kids[i], fun _ => get_kids hia, ?_⟩
    conv => whnf
    refine ⟨[.str p, .str n.kids[i].name, .int .i64 l], _, fun _ => F68 p n.kids[i].name l (by omega) hl, ⟨.refl _, .refl _, .refl _, trivial⟩, ?_⟩
    conv => whnf
    refine .inl ⟨fun _ => by simp only [InR]; omega, ?_⟩
    conv => whnf
    refine ⟨[encTop n.kids[i], .str (below p n.kids[i].name (l + 1)), .int .i64 (l + 1)], _, fun _ => ih n.kids[i] (by omega) (by omega) (below p n.kids[i].name (l + 1)) (l + 1) (by omega) (by omega) (by omega), ⟨.refl _, .refl _, .refl _, trivial⟩, ?_⟩
    conv => whnf
    refine ⟨rfl, rfl, ?_⟩
    conv => whnf
    refine ⟨by show (_ + _) * 16 ≤ _; simp [strs]; omega, by show _ + _ ≤ _; simp [strs]; omega, (fun h => by cases h), fun v => ?_⟩
    conv => whnf
    refine Tri.region ti_ok ?_
    conv => whnf
    refine .inl ⟨fun _ => by simp only [InR]; omega, ?_⟩
    conv => whnf
    have he : strs (p :: pathsSL (n.kids.take i) p l) ++ strs (pathsS n.kids[i] (below p n.kids[i].name (l + 1)) (l + 1)) = strs (p :: pathsSL (n.kids.take (i + 1)) p l) := by rw [hnx]; simp [strs]
    exact ⟨(⟨i + 1, hia⟩, v), [(3, 3), (1000, 36)], by show n.kids.length - (i + 1) < n.kids.length - i; omega, ⟨.refl _, .refl _, .refl _, DLe.ownEq he, .refl _, trivial⟩, rfl, rfl, rfl, rfl, ownH (by rw [← he, List.length_append]), trivial⟩
  · refine Tri.exit ?_
    conv => whnf
    refine Tri.seq ?_
    refine Tri.region ti_ok ?_
    conv => whnf
    refine Tri.ret ?_
    conv => whnf
    have hin : i = n.kids.length := by simp at hc; omega
    have e : n.kids.take i = n.kids := List.take_of_length_le (by omega)
    rw [e, ← pathsS_eq]
    exact DLe.unown

theorem F24 (n : NV) (hn : Fits n) (hv : valid n = true) : DFun Tryz.prog W0 24 [encTop n] (.sl .none 1 (strs (pathsS n [] 1))) := by
  refine DFun.intro ti_ok Tryz.func24 rfl (by decide +kernel) Tryz.ntmps24 rfl fun Γ => ?_
  refine Tri.seq ?_
  refine Tri.region ti_ok ?_
  conv => whnf
  intro b1
  conv => whnf
  refine Tri.seq ?_
  refine Tri.seq ?_
  refine Tri.region ti_ok ?_
  conv => whnf
  refine ⟨rfl, ?_⟩
  conv => whnf
  refine ⟨[encTop n], _, fun _ => F20 n hn, ⟨.refl _, trivial⟩, ?_⟩
  conv => whnf
  refine Tri.cond _ rfl (fun hc => ?_) (fun hc => ?_)
  · refine Tri.seq ?_
    exfalso
    rw [hv] at hc; cases hc
  · refine Tri.skip ?_
    conv => whnf
    refine Tri.seq ?_
    refine Tri.region ti_ok ?_
    conv => whnf
    refine ⟨rfl, ?_⟩
    conv => whnf
    have hz := hn
    unfold Fits at hz
    refine ⟨[encTop n, .str [], .int .i64 1], _, fun _ => F46 _ n (Nat.lt_succ_self _) (by omega) [] 1 (by omega) (by simp; omega) (by omega), ⟨.refl _, .refl _, .refl _, trivial⟩, ?_⟩
    conv => whnf
    refine Tri.ret ?_
    conv => whnf
    exact .refl _

/-- The node at a path, or none and the error's number. -/
def getR (n : NV) (s : List UInt8) : NV × Int :=
  if s = [] then (n, 0) else match getN n (splitG 47 [] s) with
    | some x => (x, 0)
    | none => (zeroN, 6)
theorem getR_join {q : List (List UInt8)} (h : okP q) (n : NV) : getR n (joinF q) = match getN n q with | some x => (x, 0) | none => (zeroN, 6) := by
  unfold getR
  by_cases h0 : q = []
  · subst h0; rfl
  · rw [if_neg (fun e => h0 ((joinF_nil h).1 e)), split_join h h0]
theorem kid_find (n : NV) (q : List UInt8) : (kidIx n q = -1 ∧ findK q n.kids = none) ∨ ∃ (i : Nat) (h : i < n.kids.length), kidIx n q = i ∧ findK q n.kids = some n.kids[i] := by
  cases hf : findK q n.kids with
  | none =>
    refine .inl ⟨?_, rfl⟩
    unfold findK at hf
    exact firstIdx_none fun j hj => by simpa using List.find?_eq_none.1 hf _ (List.getElem_mem hj)
  | some k =>
    unfold findK at hf
    obtain ⟨h1, i, h2, h3, h4⟩ := List.find?_eq_some_iff_getElem.1 hf
    refine .inr ⟨i, h2, ?_, by rw [h3]⟩
    exact firstIdx_some (p := fun k : NV => k.name == q) h2 (fun j hj hji => by simpa using h4 j hji) (by rw [h3]; exact h1)
theorem fits_kid {n k : NV} (hn : Fits n) (hk : k ∈ n.kids) : Fits k := by
  obtain ⟨i, hi, rfl⟩ := List.mem_iff_getElem.1 hk
  have := kid_sz hi
  unfold Fits at hn ⊢
  omega

theorem F21 (n : NV) (s : List UInt8) (hn : Fits n) (hv : valid n = true) (hs : s.length < 1000000000) : DFun Tryz.prog W0 21 [encTop n, .str s] (.tup [encTop (getR n s).1, .int .i64 (getR n s).2]) := by
  refine DFun.intro ti_ok Tryz.func21 rfl (by decide +kernel) Tryz.ntmps21 rfl fun Γ => ?_
  refine Tri.seq ?_
  refine Tri.region ti_ok ?_
  conv => whnf
  intro b2
  conv => whnf
  intro b4
  conv => whnf
  refine Tri.seq ?_
  refine Tri.seq ?_
  refine Tri.region ti_ok ?_
  conv => whnf
  refine ⟨rfl, ?_⟩
  conv => whnf
  refine ⟨[encTop n], _, fun _ => F20 n hn, ⟨.refl _, trivial⟩, ?_⟩
  conv => whnf
  refine Tri.cond _ rfl (fun hc => ?_) (fun hc => ?_)
  · refine Tri.seq ?_
    exfalso
    rw [hv] at hc; cases hc
  · refine Tri.skip ?_
    conv => whnf
    refine Tri.seq ?_
    refine Tri.seq ?_
    refine Tri.region ti_ok ?_
    conv => whnf
    refine Tri.cond _ rfl (fun hc => ?_) (fun hc => ?_)
    · refine Tri.seq ?_
      refine Tri.region ti_ok ?_
      conv => whnf
      refine ⟨rfl, ?_⟩
      conv => whnf
      refine ⟨rfl, ?_⟩
      conv => whnf
      refine Tri.ret ?_
      conv => whnf
      have h0 : s = [] := by simpa using hc
      have hR : getR n s = (n, 0) := by rw [getR, if_pos h0]
      rw [hR]
      refine ⟨rfl, ?_⟩
      conv => whnf
      exact ⟨.refl _, .refl _, trivial⟩
    · refine Tri.skip ?_
      conv => whnf
      have h0 : ¬ s = [] := by simpa using hc
      refine Tri.seq ?_
      refine Tri.region ti_ok ?_
      conv => whnf
      refine ⟨[.str s, .int .u8 47], _, fun _ => F44 s 47 hs, ⟨.refl _, .refl _, trivial⟩, ?_⟩
      conv => whnf
      refine Tri.seq ?_
      have hLl := (splitG_len (c := 47) s []).1
      generalize hL : splitG 47 [] s = L at *
      refine Tri.seq ?_
      refine Tri.region ti_ok ?_
      conv => whnf
      refine Tri.block ?_
      refine Tri.loopK (α := { x : Nat × NV // x.1 ≤ L.length ∧ getN n L = getN x.2 (L.drop x.1) ∧ Fits x.2 }) (fun x => [(1, .str s), (2, .box 2 b2 0), (4, .box 4 b4 0), (6, .sl .none 1 (strs L)), (7, .int .i64 x.1.1)]) (fun x => [(2, .box b2 [.str x.1.2.name, .int .i64 x.1.2.kind, .str x.1.2.text, .str x.1.2.target, .int .i64 x.1.2.n1, .int .i64 x.1.2.n2, .int .i64 x.1.2.n3, .int .i64 x.1.2.n4, .int .i64 x.1.2.n5, .int .i64 x.1.2.n6, .sl .none 12 (x.1.2.kids.map enc), .sl .none 2 (x.1.2.streams.map encS)]), (4, .box b4 [.str [], .int .i64 0, .str [], .str [], .int .i64 0, .int .i64 0, .int .i64 0, .int .i64 0, .int .i64 0, .int .i64 0, .nils, .nils])]) (fun x => L.length - x.1.1) ⟨(0, n), Nat.zero_le _, rfl, hn⟩ [(2, 2), (4, 4)]
        ⟨⟨.refl _, .refl _, .refl _, .refl _, .refl _, trivial⟩, rfl, rfl, rfl, rfl, rfl, trivial⟩ ?_
      rintro ⟨⟨i, m⟩, hi, hg, hm⟩
      dsimp only at hi hg hm ⊢
      refine Tri.seq ?_
      refine Tri.seq ?_
      refine Tri.region ti_ok ?_
      conv => whnf
      refine Tri.cond _ rfl (fun hc => ?_) (fun hc => ?_)
      · refine Tri.skip ?_
        conv => whnf
        have hia : i < L.length := by simpa [strs] using hc
        have hd : L.drop i = L[i] :: L.drop (i + 1) := List.drop_eq_getElem_cons hia
        refine Tri.seq ?_
        refine Tri.block ?_
        refine Tri.seq ?_
        refine Tri.draw ti_ok mixed (by kernel_rfl) ?_
        conv => whnf
        refine ⟨rfl, ?_⟩
        conv => whnf
        refine ⟨fun _ => by simp [strs]; omega, ?_⟩
        conv => whnf
        refine ⟨.str L[i], fun _ => by simp [strs, hia], ?_⟩
        conv => whnf
        refine ⟨[encTop m, .str L[i]], _, fun _ => F45 m L[i] hm, ⟨.refl _, .refl _, trivial⟩, ?_⟩
        conv => whnf
        refine Tri.seq ?_
        refine Tri.seq ?_
        refine Tri.region ti_ok ?_
        conv => whnf
        refine Tri.cond _ rfl (fun hc => ?_) (fun hc => ?_)
        · refine Tri.seq ?_
          refine Tri.region ti_ok ?_
          conv => whnf
          refine ⟨rfl, ?_⟩
          conv => whnf
          refine Tri.ret ?_
          conv => whnf
          have hR : getR n s = (zeroN, 6) := by
            rcases kid_find m L[i] with ⟨h1, h2⟩ | ⟨j, hj, h1, h2⟩
            · rw [getR, if_neg h0, hL, hg, hd]; simp only [getN, h2]
            · rw [h1] at hc; simp at hc; omega
          rw [hR]
          refine ⟨rfl, ?_⟩
          conv => whnf
          exact ⟨zeroD, .refl _, trivial⟩
        · obtain ⟨j, hj, h1, h2⟩ : ∃ (j : Nat) (h : j < m.kids.length), kidIx m L[i] = j ∧ findK L[i] m.kids = some m.kids[j] := by
            rcases kid_find m L[i] with ⟨h1, h2⟩ | h
            · rw [h1] at hc; simp at hc
            · exact h
          refine Tri.skip ?_
          conv => whnf
          refine Tri.region ti_ok ?_
          conv => whnf
          refine ⟨rfl, ?_⟩
          conv => whnf
          rw [h1]
          refine ⟨fun _ => by simp; omega, ?_⟩
          conv => whnf
          refine ⟨encTop m.kids[j], fun _ => get_kids hj, ?_⟩
          conv => whnf
          refine ⟨rfl, ?_⟩
          conv => whnf
          refine Tri.region ti_ok ?_
          conv => whnf
          refine .inl ⟨fun _ => by simp only [InR]; omega, ?_⟩
          conv => whnf
          exact ⟨⟨(i + 1, m.kids[j]), hia, by rw [hg, hd]; simp only [getN, h2], fits_kid hm (List.getElem_mem hj)⟩, [(2, 2), (4, 4)], by show L.length - (i + 1) < L.length - i; omega, ⟨.refl _, .refl _, .refl _, .refl _, .refl _, trivial⟩, rfl, rfl, rfl, rfl, rfl, trivial⟩
      · refine Tri.exit ?_
        conv => whnf
        refine Tri.seq ?_
        refine Tri.region ti_ok ?_
        conv => whnf
        refine ⟨rfl, ?_⟩
        conv => whnf
        refine ⟨rfl, ?_⟩
        conv => whnf
        refine Tri.ret ?_
        conv => whnf
        have hin : L.drop i = [] := by
          have : ¬ i < L.length := by simpa [strs] using hc
          exact List.drop_eq_nil_of_le (by omega)
        have hR : getR n s = (m, 0) := by rw [getR, if_neg h0, hL, hg, hin]; rfl
        rw [hR]
        refine ⟨rfl, ?_⟩
        conv => whnf
        exact ⟨.refl _, .refl _, trivial⟩
end Go.Tame.V
/- Contracts: Equal of trees; the law ViewdiffEquals. By program (mk.py). -/
namespace Go.Tame.V
open Go Go.Proofs
variable {W0 : World}
set_option maxRecDepth 10000
set_option linter.unusedVariables false
set_option linter.unusedSimpArgs false

noncomputable def eqT (a b : NV) : Bool := @decide (a = b) (Classical.propDecidable _)
theorem eqT_iff {a b : NV} : eqT a b = true ↔ a = b := @decide_eq_true_iff _ (Classical.propDecidable _)
theorem eqT_ne {a b : NV} (h : a ≠ b) : eqT a b = false := @decide_eq_false _ (Classical.propDecidable _) h
theorem eqT_rfl (a : NV) : eqT a a = true := eqT_iff.2 rfl

theorem F25 : ∀ (N : Nat) (a b : NV), sz a < N → sz a < 100000000 → DFun Tryz.prog W0 25 [encTop a, encTop b] (.bool (eqT a b)) := by
  refine fun N => Nat.rec (fun a b h => absurd h (Nat.not_lt_zero _)) (fun N ih a b hN hz => ?_) N
  have hsze := sz_eq a
  have hkk := szL_len a.kids
  have hss := szS_len a.streams
  refine DFun.intro ti_ok Tryz.func25 rfl (by decide +kernel) Tryz.ntmps25 rfl fun Γ => ?_
  refine Tri.seq ?_
  refine Tri.region ti_ok ?_
  conv => whnf
  intro b2
  conv => whnf
  intro b3
  conv => whnf
  refine Tri.seq ?_
  refine Tri.seq ?_
  refine Tri.region ti_ok ?_
  conv => whnf
  refine ⟨rfl, ?_⟩
  conv => whnf
  refine ⟨rfl, ?_⟩
  conv => whnf
  refine ⟨fun h => h, ?_⟩
  conv => whnf
  refine ⟨rfl, ?_⟩
  conv => whnf
  refine ⟨fun h => h, ?_⟩
  conv => whnf
  refine ⟨rfl, ?_⟩
  conv => whnf
  refine ⟨fun h => h, ?_⟩
  conv => whnf
  refine ⟨fun h => h, ?_⟩
  conv => whnf
  refine ⟨fun h0 h => by first | exact h | (rw [h]; rfl) | (rw [h0, h]; rfl), ?_⟩
  conv => whnf
  refine ⟨fun h => h, ?_⟩
  conv => whnf
  refine ⟨rfl, ?_⟩
  conv => whnf
  refine ⟨fun h => h, ?_⟩
  conv => whnf
  refine ⟨rfl, ?_⟩
  conv => whnf
  refine ⟨fun h => h, ?_⟩
  conv => whnf
  refine ⟨fun h => h, ?_⟩
  conv => whnf
  refine ⟨fun h0 h => by first | exact h | (rw [h]; rfl) | (rw [h0, h]; rfl), ?_⟩
  conv => whnf
  refine ⟨fun h => h, ?_⟩
  conv => whnf
  refine ⟨rfl, ?_⟩
  conv => whnf
  refine ⟨fun h => h, ?_⟩
  conv => whnf
  refine ⟨rfl, ?_⟩
  conv => whnf
  refine ⟨fun h => h, ?_⟩
  conv => whnf
  refine ⟨fun h => h, ?_⟩
  conv => whnf
  refine ⟨fun h0 h => by first | exact h | (rw [h]; rfl) | (rw [h0, h]; rfl), ?_⟩
  conv => whnf
  refine ⟨fun h => h, ?_⟩
  conv => whnf
  refine ⟨rfl, ?_⟩
  conv => whnf
  refine ⟨fun h => h, ?_⟩
  conv => whnf
  refine ⟨rfl, ?_⟩
  conv => whnf
  refine ⟨fun h => h, ?_⟩
  conv => whnf
  refine ⟨fun h => h, ?_⟩
  conv => whnf
  refine ⟨fun h0 h => by first | exact h | (rw [h]; rfl) | (rw [h0, h]; rfl), ?_⟩
  conv => whnf
  refine ⟨fun h => h, ?_⟩
  conv => whnf
  refine ⟨rfl, ?_⟩
  conv => whnf
  refine ⟨fun h => h, ?_⟩
  conv => whnf
  refine ⟨rfl, ?_⟩
  conv => whnf
  refine ⟨fun h => h, ?_⟩
  conv => whnf
  refine ⟨fun h => h, ?_⟩
  conv => whnf
  refine ⟨fun h0 h => by first | exact h | (rw [h]; rfl) | (rw [h0, h]; rfl), ?_⟩
  conv => whnf
  refine ⟨fun h => h, ?_⟩
  conv => whnf
  refine ⟨rfl, ?_⟩
  conv => whnf
  refine ⟨fun h => h, ?_⟩
  conv => whnf
  refine ⟨rfl, ?_⟩
  conv => whnf
  refine ⟨fun h => h, ?_⟩
  conv => whnf
  refine ⟨fun h => h, ?_⟩
  conv => whnf
  refine ⟨fun h0 h => by first | exact h | (rw [h]; rfl) | (rw [h0, h]; rfl), ?_⟩
  conv => whnf
  refine ⟨fun h => h, ?_⟩
  conv => whnf
  refine ⟨rfl, ?_⟩
  conv => whnf
  refine ⟨fun h => h, ?_⟩
  conv => whnf
  refine ⟨rfl, ?_⟩
  conv => whnf
  refine ⟨fun h => h, ?_⟩
  conv => whnf
  refine ⟨fun h => h, ?_⟩
  conv => whnf
  refine ⟨fun h0 h => by first | exact h | (rw [h]; rfl) | (rw [h0, h]; rfl), ?_⟩
  conv => whnf
  refine ⟨fun h => h, ?_⟩
  conv => whnf
  refine ⟨rfl, ?_⟩
  conv => whnf
  refine ⟨fun h => h, ?_⟩
  conv => whnf
  refine ⟨rfl, ?_⟩
  conv => whnf
  refine ⟨fun h => h, ?_⟩
  conv => whnf
  refine ⟨fun h => h, ?_⟩
  conv => whnf
  refine ⟨fun h0 h => by first | exact h | (rw [h]; rfl) | (rw [h0, h]; rfl), ?_⟩
  conv => whnf
  refine ⟨fun h => h, ?_⟩
  conv => whnf
  refine ⟨rfl, ?_⟩
  conv => whnf
  refine ⟨fun h => h, ?_⟩
  conv => whnf
  refine ⟨rfl, ?_⟩
  conv => whnf
  refine ⟨fun h => h, ?_⟩
  conv => whnf
  refine ⟨fun h => h, ?_⟩
  conv => whnf
  refine ⟨fun h0 h => by first | exact h | (rw [h]; rfl) | (rw [h0, h]; rfl), ?_⟩
  conv => whnf
  refine ⟨fun h => h, ?_⟩
  conv => whnf
  refine ⟨rfl, ?_⟩
  conv => whnf
  refine ⟨fun h => h, ?_⟩
  conv => whnf
  refine ⟨fun h => h, ?_⟩
  conv => whnf
  refine ⟨rfl, ?_⟩
  conv => whnf
  refine ⟨fun h => h, ?_⟩
  conv => whnf
  refine ⟨fun h => h, ?_⟩
  conv => whnf
  refine ⟨fun h => h, ?_⟩
  conv => whnf
  refine ⟨fun h0 h => by first | exact h | (rw [h]; rfl) | (rw [h0, h]; rfl), ?_⟩
  conv => whnf
  refine ⟨fun h => h, ?_⟩
  conv => whnf
  refine ⟨rfl, ?_⟩
  conv => whnf
  refine ⟨fun h => h, ?_⟩
  conv => whnf
  refine ⟨fun h => h, ?_⟩
  conv => whnf
  refine ⟨rfl, ?_⟩
  conv => whnf
  refine ⟨fun h => h, ?_⟩
  conv => whnf
  refine ⟨fun h => h, ?_⟩
  conv => whnf
  refine ⟨fun h => h, ?_⟩
  conv => whnf
  refine ⟨fun h0 h => by first | exact h | (rw [h]; rfl) | (rw [h0, h]; rfl), ?_⟩
  conv => whnf
  refine Tri.cond _ rfl (fun hc => ?_) (fun hc => ?_)
  · refine Tri.seq ?_
    refine Tri.region ti_ok ?_
    conv => whnf
    refine Tri.ret ?_
    conv => whnf
    refine DLe.of_eq (congrArg D.bool (eqT_ne fun e => ?_).symm)
    subst e
    simp at hc
  · refine Tri.skip ?_
    conv => whnf
    simp only [bif_or, Bool.or_eq_false_iff, Bool.not_eq_false', beq_iff_eq, List.length_map, Int.ofNat_inj, bne_eq_false_iff_eq] at hc
    obtain ⟨⟨⟨⟨⟨⟨⟨⟨⟨⟨⟨e1, e2⟩, e3⟩, e4⟩, e5⟩, e6⟩, e7⟩, e8⟩, e9⟩, e10⟩, e11⟩, e12⟩ := hc
    refine Tri.seq ?_
    refine Tri.seq ?_
    refine Tri.region ti_ok ?_
    conv => whnf
    refine Tri.block ?_
    refine Tri.loopK (α := { i : Nat // i ≤ a.streams.length ∧ a.streams.take i = b.streams.take i }) (fun x => [(2, .box 2 b2 0), (3, .box 3 b3 0), (5, .int .i64 x.1)]) (fun x => [(2, .box b2 [.str a.name, .int .i64 a.kind, .str a.text, .str a.target, .int .i64 a.n1, .int .i64 a.n2, .int .i64 a.n3, .int .i64 a.n4, .int .i64 a.n5, .int .i64 a.n6, .sl .none 12 (a.kids.map enc), .sl .none 2 (a.streams.map encS)]), (3, .box b3 [.str b.name, .int .i64 b.kind, .str b.text, .str b.target, .int .i64 b.n1, .int .i64 b.n2, .int .i64 b.n3, .int .i64 b.n4, .int .i64 b.n5, .int .i64 b.n6, .sl .none 12 (b.kids.map enc), .sl .none 2 (b.streams.map encS)])]) (fun x => a.streams.length - x.1) ⟨0, Nat.zero_le _, rfl⟩ [(2, 2), (3, 3)]
      ⟨⟨.refl _, .refl _, .refl _, trivial⟩, rfl, rfl, rfl, rfl, rfl, trivial⟩ ?_
    rintro ⟨i, hi, hp⟩
    dsimp only at hi hp ⊢
    refine Tri.seq ?_
    refine Tri.seq ?_
    refine Tri.region ti_ok ?_
    conv => whnf
    refine ⟨rfl, ?_⟩
    conv => whnf
    refine Tri.cond _ rfl (fun hc => ?_) (fun hc => ?_)
    · refine Tri.skip ?_
      conv => whnf
      have hia : i < a.streams.length := by simpa using hc
      have hib : i < b.streams.length := by omega
      refine Tri.seq ?_
      refine Tri.block ?_
      refine Tri.seq ?_
      refine Tri.draw ti_ok mixed (by kernel_rfl) ?_
      conv => whnf
      refine ⟨rfl, ?_⟩
      conv => whnf
      refine ⟨fun _ => by simp; omega, ?_⟩
      conv => whnf
      refine ⟨encS a.streams[i], fun _ => get_map _ hia, ?_⟩
      conv => whnf
      refine ⟨rfl, ?_⟩
      conv => whnf
      refine ⟨fun _ => by simp; omega, ?_⟩
      conv => whnf
      refine ⟨encS b.streams[i], fun _ => get_map _ hib, ?_⟩
      conv => whnf
      refine Tri.cond _ rfl (fun hc => ?_) (fun hc => ?_)
      · refine Tri.seq ?_
        refine Tri.region ti_ok ?_
        conv => whnf
        refine Tri.ret ?_
        conv => whnf
        refine DLe.of_eq (congrArg D.bool (eqT_ne fun e => ?_).symm)
        subst e
        simp at hc
      · refine Tri.skip ?_
        conv => whnf
        have he : a.streams[i] = b.streams[i] := by
          simp at hc
          cases h1 : a.streams[i]; cases h2 : b.streams[i]; simp_all
        refine Tri.region ti_ok ?_
        conv => whnf
        refine .inl ⟨fun _ => by simp only [InR]; omega, ?_⟩
        conv => whnf
        exact ⟨⟨i + 1, hia, take_next hia hib hp he⟩, [(2, 2), (3, 3)], by show a.streams.length - (i + 1) < a.streams.length - i; omega, ⟨.refl _, .refl _, .refl _, trivial⟩, rfl, rfl, rfl, rfl, rfl, trivial⟩
    · refine Tri.exit ?_
      conv => whnf
      have hst : a.streams = b.streams := of_decide_eq_true (eq_of_take e12 (by simpa using hc) hp).symm
      refine Tri.seq ?_
      refine Tri.seq ?_
      refine Tri.region ti_ok ?_
      conv => whnf
      refine Tri.block ?_
      refine Tri.loopK (α := { i : Nat // i ≤ a.kids.length ∧ a.kids.take i = b.kids.take i }) (fun x => [(2, .box 2 b2 0), (3, .box 3 b3 0), (6, .int .i64 x.1)]) (fun x => [(2, .box b2 [.str a.name, .int .i64 a.kind, .str a.text, .str a.target, .int .i64 a.n1, .int .i64 a.n2, .int .i64 a.n3, .int .i64 a.n4, .int .i64 a.n5, .int .i64 a.n6, .sl .none 12 (a.kids.map enc), .sl .none 2 (a.streams.map encS)]), (3, .box b3 [.str b.name, .int .i64 b.kind, .str b.text, .str b.target, .int .i64 b.n1, .int .i64 b.n2, .int .i64 b.n3, .int .i64 b.n4, .int .i64 b.n5, .int .i64 b.n6, .sl .none 12 (b.kids.map enc), .sl .none 2 (b.streams.map encS)])]) (fun x => a.kids.length - x.1) ⟨0, Nat.zero_le _, rfl⟩ [(2, 2), (3, 3)]
        ⟨⟨.refl _, .refl _, .refl _, trivial⟩, rfl, rfl, rfl, rfl, rfl, trivial⟩ ?_
      rintro ⟨i, hi, hp⟩
      dsimp only at hi hp ⊢
      refine Tri.seq ?_
      refine Tri.seq ?_
      refine Tri.region ti_ok ?_
      conv => whnf
      refine ⟨rfl, ?_⟩
      conv => whnf
      refine Tri.cond _ rfl (fun hc => ?_) (fun hc => ?_)
      · refine Tri.skip ?_
        conv => whnf
        have hia : i < a.kids.length := by simpa using hc
        have hib : i < b.kids.length := by omega
        have hkz := kid_sz hia
        refine Tri.seq ?_
        refine Tri.block ?_
        refine Tri.seq ?_
        refine Tri.draw ti_ok mixed (by kernel_rfl) ?_
        conv => whnf
        refine ⟨rfl, ?_⟩
        conv => whnf
        refine ⟨fun _ => by simp; omega, ?_⟩
        conv => whnf
        refine ⟨encTop a.kids[i], fun _ => get_kids hia, ?_⟩
        conv => whnf
        refine ⟨rfl, ?_⟩
        conv => whnf
        refine ⟨fun _ => by simp; omega, ?_⟩
        conv => whnf
        refine ⟨encTop b.kids[i], fun _ => get_kids hib, ?_⟩
        conv => whnf
        refine ⟨[encTop a.kids[i], encTop b.kids[i]], _, fun _ => ih a.kids[i] b.kids[i] (by omega) (by omega), ⟨.refl _, .refl _, trivial⟩, ?_⟩
        conv => whnf
        refine Tri.cond _ rfl (fun hc => ?_) (fun hc => ?_)
        · refine Tri.seq ?_
          refine Tri.region ti_ok ?_
          conv => whnf
          refine Tri.ret ?_
          conv => whnf
          refine DLe.of_eq (congrArg D.bool (eqT_ne fun e => ?_).symm)
          subst e
          rw [eqT_rfl] at hc
          cases hc
        · refine Tri.skip ?_
          conv => whnf
          have he : a.kids[i] = b.kids[i] := by
            refine eqT_iff.1 ?_
            cases h : eqT a.kids[i] b.kids[i] with
            | true => rfl
            | false => rw [h] at hc; cases hc
          refine Tri.region ti_ok ?_
          conv => whnf
          refine .inl ⟨fun _ => by simp only [InR]; omega, ?_⟩
          conv => whnf
          exact ⟨⟨i + 1, hia, take_next hia hib hp he⟩, [(2, 2), (3, 3)], by show a.kids.length - (i + 1) < a.kids.length - i; omega, ⟨.refl _, .refl _, .refl _, trivial⟩, rfl, rfl, rfl, rfl, rfl, trivial⟩
      · refine Tri.exit ?_
        conv => whnf
        refine Tri.seq ?_
        refine Tri.region ti_ok ?_
        conv => whnf
        refine Tri.ret ?_
        conv => whnf
        have hin : ¬ i < a.kids.length := by simpa using hc
        have hkd : a.kids = b.kids := by
          rw [List.take_of_length_le (by omega), List.take_of_length_le (by omega)] at hp
          exact hp
        refine DLe.of_eq (congrArg D.bool (eqT_iff.2 ?_).symm)
        cases a; cases b
        simp_all

/-- A node without what the law leaves out. -/
def stripN (n : NV) : NV := ⟨n.name, n.kind, n.text, n.target, n.n1, n.n2, n.n3, n.n4, 0, 0, [], n.streams⟩
theorem strip_eq {x y : NV} (h : x.name = y.name) : stripN x = stripN y ↔ fieldsEq x y := by
  cases x; cases y
  simp only [stripN, fieldsEq, NV.mk.injEq]
  simp at h
  simp [h]
theorem getN_name : ∀ (q : List (List UInt8)) (a b x y : NV), a.name = b.name → getN a q = some x → getN b q = some y → x.name = y.name
  | [], a, b, x, y, h, hx, hy => by
    simp only [getN, Option.some.injEq] at hx hy
    rw [← hx, ← hy, h]
  | m :: q, a, b, x, y, h, hx, hy => by
    simp only [getN] at hx hy
    cases hf : findK m a.kids with
    | none => rw [hf] at hx; cases hx
    | some k =>
      cases hg : findK m b.kids with
      | none => rw [hg] at hy; cases hy
      | some k' =>
        rw [hf] at hx
        rw [hg] at hy
        exact getN_name q k k' x y ((findK_name hf).2.trans (findK_name hg).2.symm) hx hy
/-- The path leads to like nodes of both. -/
noncomputable def likeB (a b : NV) (q : List (List UInt8)) : Bool := (getR b (joinF q)).2 == 0 && eqT (stripN (getR a (joinF q)).1) (stripN (getR b (joinF q)).1)
theorem likeB_iff {a b : NV} (hn : a.name = b.name) {q : List (List UInt8)} (hq : okP q) {x : NV} (hx : getN a q = some x) : likeB a b q = true ↔ ∃ y, getN b q = some y ∧ fieldsEq x y := by
  rw [likeB, getR_join hq, getR_join hq, hx]
  cases hy : getN b q with
  | none => simp
  | some y =>
    simp only [Bool.and_eq_true, beq_self_eq_true, true_and, eqT_iff, Option.some.injEq, exists_eq_left']
    exact strip_eq (getN_name q a b x y hn hx hy)
theorem getN_sz : ∀ (q : List (List UInt8)) (n x : NV), getN n q = some x → sz x ≤ sz n
  | [], n, x, h => by simp only [getN, Option.some.injEq] at h; subst h; exact Nat.le_refl _
  | m :: q, n, x, h => by
    simp only [getN] at h
    cases hf : findK m n.kids with
    | none => rw [hf] at h; cases h
    | some k =>
      rw [hf] at h
      obtain ⟨i, hi, e⟩ := List.mem_iff_getElem.1 (findK_name hf).1
      have h1 := kid_sz hi
      have h2 := getN_sz q k x h
      rw [e] at h1
      omega
theorem path_len : ∀ (q : List (List UInt8)) (n : NV), q ∈ pathsN n → (tailF q).length ≤ sz n
  | [], n, _ => by simp [tailF]
  | m :: q, n, h => by
    obtain ⟨k, hk, rfl, hq⟩ := cons_mem.1 h
    obtain ⟨i, hi, rfl⟩ := List.mem_iff_getElem.1 hk
    have := kid_sz hi
    have := path_len q _ hq
    simp only [tailF, List.flatMap_cons, List.length_append, List.length_cons] at this ⊢
    omega
theorem join_len {q : List (List UInt8)} {n : NV} (h : q ∈ pathsN n) : (joinF q).length ≤ sz n := by
  have := path_len q n h
  cases q with
  | nil => simp [joinF]
  | cons m r => simp only [joinF, tailF, List.flatMap_cons, List.length_append, List.length_cons] at this ⊢; omega
theorem valid_name {n : NV} (h : valid n = true) : n.name = [] := by
  rw [valid_good, Bool.and_eq_true] at h
  exact (goodB_good h.2).1.name1 rfl
theorem equals_bool {a b : NV} (ha : valid a = true) (hb : valid b = true) :
    (decide ((pathsN a).map joinF = (pathsN b).map joinF) && (pathsN a).all (likeB a b)) = decide (cmpT [] a b = []) := by
  have ta := valid_okT ha
  have tb := valid_okT hb
  have hn := (valid_name ha).trans (valid_name hb).symm
  rw [Bool.eq_iff_iff, Bool.and_eq_true, decide_eq_true_iff, decide_eq_true_iff, ← equals_law ta tb, map_join_inj (fun q hq => path_ok q a ta hq) (fun q hq => path_ok q b tb hq), List.all_eq_true]
  refine and_congr_right fun _ => ⟨fun h q hq => ?_, fun h q hq => ?_⟩
  · obtain ⟨x, hx⟩ := (getN_mem q a ta).1 hq
    obtain ⟨y, hy, hf⟩ := (likeB_iff hn (path_ok q a ta hq) hx).1 (h q hq)
    exact ⟨x, y, hx, hy, hf⟩
  · obtain ⟨x, y, hx, hy, hf⟩ := h q hq
    exact (likeB_iff hn (path_ok q a ta hq) hx).2 ⟨y, hy, hf⟩

theorem F7 (hL : LibOk W0) (a b : NV) (ha : Fits a) (hb : Fits b) : DFun Tryz.prog W0 7 [encTop a, encTop b] (.bool true) := by
  refine DFun.intro ti_ok Tryz.func7 rfl (by decide +kernel) Tryz.ntmps7 rfl fun Γ => ?_
  refine Tri.seq ?_
  refine Tri.region ti_ok ?_
  conv => whnf
  intro b2
  conv => whnf
  intro b3
  conv => whnf
  refine Tri.seq ?_
  refine Tri.seq ?_
  refine Tri.region ti_ok ?_
  conv => whnf
  refine ⟨[], _, fun _ => F11 hL, trivial, ?_⟩
  conv => whnf
  refine Tri.cond _ rfl (fun hc => ?_) (fun hc => ?_)
  · refine Tri.seq ?_
    refine Tri.region ti_ok ?_
    conv => whnf
    refine Tri.ret ?_
    conv => whnf
    cases hc
  · refine Tri.skip ?_
    conv => whnf
    refine Tri.seq ?_
    refine Tri.seq ?_
    refine Tri.region ti_ok ?_
    conv => whnf
    refine ⟨rfl, ?_⟩
    conv => whnf
    refine ⟨rfl, ?_⟩
    conv => whnf
    refine ⟨[encTop a, encTop b], _, fun _ => F12 a b ha hb, ⟨.refl _, .refl _, trivial⟩, ?_⟩
    conv => whnf
    refine ⟨rfl, ?_⟩
    conv => whnf
    refine ⟨fun h => h, ?_⟩
    conv => whnf
    refine ⟨[encTop a], _, fun h => F20 a ha, ⟨.refl _, trivial⟩, ?_⟩
    conv => whnf
    refine ⟨fun h => h, ?_⟩
    conv => whnf
    refine ⟨fun h0 h => by first | exact h | (rw [h]; rfl) | (rw [h0, h]; rfl), ?_⟩
    conv => whnf
    refine ⟨rfl, ?_⟩
    conv => whnf
    refine ⟨fun h => h, ?_⟩
    conv => whnf
    refine ⟨[encTop b], _, fun h => F20 b hb, ⟨.refl _, trivial⟩, ?_⟩
    conv => whnf
    refine ⟨fun h => h, ?_⟩
    conv => whnf
    refine ⟨fun h0 h => by first | exact h | (rw [h]; rfl) | (rw [h0, h]; rfl), ?_⟩
    conv => whnf
    refine Tri.cond _ rfl (fun hc => ?_) (fun hc => ?_)
    · refine Tri.seq ?_
      refine Tri.region ti_ok ?_
      conv => whnf
      refine Tri.ret ?_
      conv => whnf
      exact .refl _
    · refine Tri.skip ?_
      conv => whnf
      obtain ⟨hfw, hva, hvb⟩ := not3 _ _ _ hc
      have ta := valid_okT hva
      have hza := ha
      have hzb := hb
      unfold Fits at hza hzb
      have la := pathsS_len a [] 1
      have lb := pathsS_len b [] 1
      have ca := cnt_sz a
      have cb := cnt_sz b
      refine Tri.seq ?_
      refine Tri.draw ti_ok mixed (by kernel_rfl) ?_
      conv => whnf
      refine ⟨rfl, ?_⟩
      conv => whnf
      refine ⟨[encTop a], _, fun _ => F24 a ha hva, ⟨.refl _, trivial⟩, ?_⟩
      conv => whnf
      refine ⟨rfl, ?_⟩
      conv => whnf
      refine ⟨[encTop b], _, fun _ => F24 b hb hvb, ⟨.refl _, trivial⟩, ?_⟩
      conv => whnf
      refine ⟨[.sl .none 1 (strs (pathsS a [] 1)), .sl .none 1 (strs (pathsS b [] 1))], _, fun _ => F23 _ _ (by omega) (by omega), ⟨.refl _, .refl _, trivial⟩, ?_⟩
      conv => whnf
      refine Tri.seq ?_
      refine Tri.seq ?_
      refine Tri.region ti_ok ?_
      conv => whnf
      refine ⟨rfl, ?_⟩
      conv => whnf
      refine ⟨[encTop a], _, fun _ => F24 a ha hva, ⟨.refl _, trivial⟩, ?_⟩
      conv => whnf
      refine Tri.block ?_
      rw [pathsS_top a] at *
      rw [pathsS_top b] at *
      rw [List.length_map] at la lb
      have hjo : ∀ q ∈ pathsN a, okP q := fun q hq => path_ok q a ta hq
      have hjl : ∀ q ∈ pathsN a, (joinF q).length < 1000000000 := fun q hq => by have := join_len hq; omega
      refine Tri.loopK (α := { i : Nat // i ≤ (pathsN a).length }) (fun x => [(2, .box 2 b2 0), (3, .box 3 b3 0), (5, .bool (decide ((pathsN a).map joinF = (pathsN b).map joinF) && ((pathsN a).take x.1).all (likeB a b))), (36, .sl .none 1 (strs ((pathsN a).map joinF))), (37, .int .i64 (strs ((pathsN a).map joinF)).length), (38, .int .i64 x.1)]) (fun x => [(2, .box b2 [.str a.name, .int .i64 a.kind, .str a.text, .str a.target, .int .i64 a.n1, .int .i64 a.n2, .int .i64 a.n3, .int .i64 a.n4, .int .i64 a.n5, .int .i64 a.n6, .sl .none 12 (a.kids.map enc), .sl .none 2 (a.streams.map encS)]), (3, .box b3 [.str b.name, .int .i64 b.kind, .str b.text, .str b.target, .int .i64 b.n1, .int .i64 b.n2, .int .i64 b.n3, .int .i64 b.n4, .int .i64 b.n5, .int .i64 b.n6, .sl .none 12 (b.kids.map enc), .sl .none 2 (b.streams.map encS)])]) (fun x => (pathsN a).length - x.1) ⟨0, Nat.zero_le _⟩ [(2, 2), (3, 3)]
        ⟨⟨.refl _, .refl _, DLe.of_eq (congrArg D.bool (by simp)), .refl _, .refl _, .refl _, trivial⟩, rfl, rfl, rfl, rfl, rfl, trivial⟩ ?_
      rintro ⟨i, hi⟩
      dsimp only at hi ⊢
      refine Tri.seq ?_
      refine Tri.region ti_ok ?_
      conv => whnf
      refine Tri.seq ?_
      refine Tri.cond _ rfl (fun hc => ?_) (fun hc => ?_)
      · refine Tri.skip ?_
        conv => whnf
        have hia : i < (pathsN a).length := by simpa [strs] using hc
        have hq := List.getElem_mem hia
        have hla := hjl _ hq
        have htk : (pathsN a).take (i + 1) = (pathsN a).take i ++ [(pathsN a)[i]] := List.take_succ_eq_append_getElem hia
        have hga : (strs ((pathsN a).map joinF))[i]? = some (.str (joinF (pathsN a)[i])) := by simp [strs, hia]
        have hlk : likeB a b (pathsN a)[i] = ((getR b (joinF (pathsN a)[i])).2 == 0 && eqT (stripN (getR a (joinF (pathsN a)[i])).1) (stripN (getR b (joinF (pathsN a)[i])).1)) := rfl
        have hxz : sz (stripN (getR a (joinF (pathsN a)[i])).1) < 100000000 := by
          obtain ⟨x, hx⟩ := (getN_mem _ a ta).1 hq
          rw [getR_join (hjo _ hq), hx]
          have h1 := getN_sz _ a x hx
          have h2 := sz_eq x
          have h3 := sz_eq (stripN x)
          simp only [stripN, szL] at h3
          show sz (stripN x) < _
          simp only [stripN]; omega
        generalize (pathsN a)[i] = q at *
        generalize hRa : getR a (joinF q) = ra at *
        generalize hRb : getR b (joinF q) = rb at *
        refine Tri.seq ?_
        refine Tri.block ?_
        refine Tri.seq ?_
        refine Tri.region ti_ok ?_
        conv => whnf
        refine ⟨fun _ => by simp [strs]; omega, ?_⟩
        conv => whnf
        refine ⟨.str (joinF q), fun _ => hga, ?_⟩
        conv => whnf
        refine Tri.seq ?_
        refine Tri.region ti_ok ?_
        conv => whnf
        refine ⟨rfl, ?_⟩
        conv => whnf
        refine ⟨[encTop a, .str (joinF q)], .tup [encTop ra.1, .int .i64 ra.2], fun _ => hRa ▸ F21 a (joinF q) ha hva hla, ⟨.refl _, .refl _, trivial⟩, ?_⟩
        conv => whnf
        intro b8
        conv => whnf
        refine ⟨rfl, ?_⟩
        conv => whnf
        refine Tri.seq ?_
        refine Tri.region ti_ok ?_
        conv => whnf
        refine ⟨rfl, ?_⟩
        conv => whnf
        refine ⟨[encTop b, .str (joinF q)], .tup [encTop rb.1, .int .i64 rb.2], fun _ => hRb ▸ F21 b (joinF q) hb hvb hla, ⟨.refl _, .refl _, trivial⟩, ?_⟩
        conv => whnf
        intro b10
        conv => whnf
        refine ⟨rfl, ?_⟩
        conv => whnf
        refine Tri.seq ?_
        refine Tri.region ti_ok ?_
        conv => whnf
        refine ⟨rfl, ?_⟩
        conv => whnf
        refine ⟨rfl, ?_⟩
        conv => whnf
        refine ⟨rfl, ?_⟩
        conv => whnf
        refine ⟨rfl, ?_⟩
        conv => whnf
        refine ⟨rfl, ?_⟩
        conv => whnf
        refine ⟨rfl, ?_⟩
        conv => whnf
        refine Tri.region ti_ok ?_
        conv => whnf
        refine ⟨fun h => h, ?_⟩
        conv => whnf
        refine ⟨fun h0 h => by first | exact h | (rw [h]; rfl) | (rw [h0, h]; rfl), ?_⟩
        conv => whnf
        refine ⟨rfl, ?_⟩
        conv => whnf
        refine ⟨rfl, ?_⟩
        conv => whnf
        refine ⟨fun h => h, ?_⟩
        conv => whnf
        refine ⟨fun h => h, ?_⟩
        conv => whnf
        refine ⟨[encTop (stripN ra.1), encTop (stripN rb.1)], _, fun h => F25 _ _ _ (Nat.lt_succ_self _) hxz, ⟨DLe.agg ⟨.refl _, .refl _, .refl _, .refl _, .refl _, .refl _, .refl _, .refl _, .refl _, .refl _, DLe.nil, .refl _, trivial⟩, DLe.agg ⟨.refl _, .refl _, .refl _, .refl _, .refl _, .refl _, .refl _, .refl _, .refl _, .refl _, DLe.nil, .refl _, trivial⟩, trivial⟩, ?_⟩
        conv => whnf
        refine ⟨fun h0 h => by first | exact h | (rw [h]; rfl) | (rw [h0, h]; rfl), ?_⟩
        conv => whnf
        refine Tri.region ti_ok ?_
        conv => whnf
        refine .inl ⟨fun _ => by simp only [InR]; omega, ?_⟩
        conv => whnf
        exact ⟨⟨i + 1, hia⟩, [(2, 2), (3, 3)], by show (pathsN a).length - (i + 1) < (pathsN a).length - i; omega, ⟨.refl _, .refl _, DLe.of_eq (congrArg D.bool (by
          rw [htk, List.all_append, List.all_cons, List.all_nil, hlk, Bool.and_true, ← Bool.and_assoc, ← bif_and, ← bif_and, ← bif_and]
          simp only [bif_and, Bool.and_assoc])), .refl _, .refl _, .refl _, trivial⟩, rfl, rfl, rfl, rfl, rfl, trivial⟩
      · refine Tri.exit ?_
        conv => whnf
        have hin : (pathsN a).take i = pathsN a := List.take_of_length_le (by simp [strs] at hc; omega)
        rw [hin, equals_bool hva hvb]
        refine Tri.seq ?_
        refine Tri.region ti_ok ?_
        conv => whnf
        refine ⟨rfl, ?_⟩
        conv => whnf
        refine ⟨rfl, ?_⟩
        conv => whnf
        refine ⟨[encTop a, encTop b], .tup [.sl .none 2 (encDs (cmpT [] a b)), .int .i64 0], fun _ => by
          have := F13 hL a b ha hb
          rw [compare_ok hva hvb] at this
          exact this, ⟨.refl _, .refl _, trivial⟩, ?_⟩
        conv => whnf
        refine Tri.seq ?_
        refine Tri.region ti_ok ?_
        conv => whnf
        refine ⟨rfl, ?_⟩
        conv => whnf
        refine ⟨rfl, ?_⟩
        conv => whnf
        refine ⟨fun h => h, ?_⟩
        conv => whnf
        refine ⟨fun h => h, ?_⟩
        conv => whnf
        refine ⟨[encTop a, encTop b], .bool (decide (cmpT [] a b = [])), fun h => by
          have := F16 hL a b ha hb
          have e : same a b = decide (cmpT [] a b = []) := by
            rw [same, compare_ok hva hvb]
            cases cmpT [] a b <;> simp
          rw [e] at this
          exact this, ⟨.refl _, .refl _, trivial⟩, ?_⟩
        conv => whnf
        refine ⟨fun h => h, ?_⟩
        conv => whnf
        refine ⟨fun h => h, ?_⟩
        conv => whnf
        refine ⟨fun h0 h => by first | exact h | (rw [h]; rfl) | (rw [h0, h]; rfl), ?_⟩
        conv => whnf
        refine ⟨fun h => h, ?_⟩
        conv => whnf
        refine ⟨fun h => h, ?_⟩
        conv => whnf
        refine ⟨fun h => h, ?_⟩
        conv => whnf
        refine ⟨fun h => h, ?_⟩
        conv => whnf
        refine ⟨fun h0 h => by first | exact h | (rw [h]; rfl) | (rw [h0, h]; rfl), ?_⟩
        conv => whnf
        refine Tri.ret ?_
        conv => whnf
        refine DLe.of_eq (congrArg D.bool ?_)
        cases cmpT [] a b with
        | nil => simp [encDs]
        | cons x r => simp [encDs]; omega
end Go.Tame.V
/- A tree in which one node is another: just its differences. Plain. -/
namespace Go.Tame.V
open Go Go.Proofs
set_option maxRecDepth 10000
set_option linter.unusedVariables false
set_option linter.unusedSimpArgs false

theorem named_of {n : NV} {m : List UInt8} (h : n.name = m) : n.named m = n := by cases n; subst h; rfl
/-- The tree with another node at a path. -/
def setN : NV → List (List UInt8) → NV → NV
  | _, [], x => x
  | n, m :: q, x => { n with kids := n.kids.map fun k => if k.name = m then setN k q x else k }
def joinPs (p : List UInt8) (q : List (List UInt8)) : List UInt8 := q.foldl joinP p
theorem joinPs_ne {p : List UInt8} (h : p ≠ []) : ∀ q : List (List UInt8), joinPs p q = p ++ tailF q := by
  intro q
  induction q generalizing p with
  | nil => simp [joinPs, tailF]
  | cons m r ih =>
    have e : joinP p m = p ++ [47] ++ m := by rw [joinP, if_neg h]
    have : joinPs p (m :: r) = joinPs (joinP p m) r := rfl
    rw [this, e, ih (by simp)]
    simp [tailF]
theorem joinPs_top {q : List (List UInt8)} (h : okP q) : joinPs [] q = joinF q := by
  cases q with
  | nil => rfl
  | cons m r =>
    have : joinPs [] (m :: r) = joinPs m r := rfl
    rw [this, joinPs_ne (name_ne (h m List.mem_cons_self))]
    rfl
theorem mrg_map (p : List UInt8) (f : NV → NV) (hf : ∀ k, (f k).name = k.name) : ∀ ks : List NV, mrg p ks (ks.map f) = ks.flatMap fun k => cmpT (joinP p k.name) k (f k)
  | [] => by rw [List.map_nil, mrg]; rfl
  | k :: r => by
    rw [List.map_cons, mrg, hf k, if_neg (by rw [bl_irrefl]; simp), if_pos rfl, mrg_map p f hf r]
    rfl
theorem setN_name : ∀ (q : List (List UInt8)) (n x y : NV), getN n q = some y → x.name = y.name → (setN n q x).name = n.name
  | [], n, x, y, h, e => by simp only [getN, Option.some.injEq] at h; subst h; exact e
  | m :: q, n, x, y, h, e => rfl
theorem flat_one {ks : List NV} (hi : inc ks) {k : NV} (hk : k ∈ ks) {β : Type} (g : NV → List β) (h : ∀ x ∈ ks, x ≠ k → g x = []) : ks.flatMap g = g k := by
  obtain ⟨l, r, rfl⟩ := List.append_of_mem hk
  have hnd : ∀ x ∈ l ++ r, g x = [] := fun x hx => by
    refine h x ?_ ?_
    · rcases List.mem_append.1 hx with h | h
      · exact List.mem_append_left _ h
      · exact List.mem_append_right _ (List.mem_cons_of_mem _ h)
    · intro e
      subst e
      have h1 := inc_pairwise hi
      have h2 : (l ++ x :: r).Pairwise fun a b => a.name ≠ b.name := List.pairwise_iff_getElem.2 fun i j hi' hj hij => bl_ne (inc_get hi hij hj)
      rw [List.pairwise_append, List.pairwise_cons] at h2
      rcases List.mem_append.1 hx with h | h
      · exact h2.2.2 x h x List.mem_cons_self rfl
      · exact h2.2.1.1 x h rfl
  rw [List.flatMap_append, List.flatMap_cons]
  rw [List.flatMap_eq_nil_iff.2 fun x hx => hnd x (List.mem_append_left _ hx), List.flatMap_eq_nil_iff.2 fun x hx => hnd x (List.mem_append_right _ hx)]
  simp
theorem set_cmp : ∀ (q : List (List UInt8)) (n x y : NV) (p : List UInt8), okT n → getN n q = some y → x.name = y.name → cmpT p n (setN n q x) = cmpT (joinPs p q) y x
  | [], n, x, y, p, hn, h, e => by simp only [getN, Option.some.injEq] at h; subst h; rfl
  | m :: q, n, x, y, p, hn, h, e => by
    obtain ⟨k, hk, rfl, hq⟩ := cons_mem.1 ((getN_mem _ n hn).2 ⟨y, h⟩)
    rw [getN_cons (okT_inc hn) hk rfl] at h
    have ih := set_cmp q k x y (joinP p k.name) (okT_kid hn hk) h e
    have hname := setN_name q k x y h e
    have hd : fieldDiffs p n (setN n (k.name :: q) x) 5 = [] := by
      have : fieldDiff n (setN n (k.name :: q) x) = fieldDiff n n := funext fun i => by
        match i with
        | 0 | 1 | 2 | 3 => rfl
        | i + 4 => rfl
      rw [fieldDiffs, this, ← fieldDiffs, fieldDiffs_self]
    rw [cmpT, if_pos (show n.kind = (setN n (k.name :: q) x).kind from rfl), hd, List.nil_append]
    show mrg p n.kids (n.kids.map fun z => if z.name = k.name then setN z q x else z) = _
    have hfe : (n.kids.map fun z => if z.name = k.name then setN z q x else z) = n.kids.map fun z => if z.name = k.name then (setN z q x).named z.name else z := by
      refine List.map_congr_left fun z hz => ?_
      by_cases hzk : z.name = k.name
      · have := inc_name (okT_inc hn) hz hk hzk
        subst this
        rw [if_pos rfl, if_pos rfl]
        rw [named_of hname]
      · rw [if_neg hzk, if_neg hzk]
    rw [hfe, mrg_map p _ (fun z => by split <;> rfl)]
    rw [flat_one (okT_inc hn) hk _ fun z hz hne => ?_]
    · rw [if_pos rfl]
      rw [named_of hname, ih]; rfl
    · rw [if_neg (fun e => hne (inc_name (okT_inc hn) hz hk e)), cmpT_self]

/-- One field changed: one difference. -/
theorem one_field (p : List UInt8) (x y : NV) (j : Nat) (hj : j < 5) (hk : x.kind = y.kind) (hkids : x.kids = y.kids) (hd : ∀ i, i < 5 → (fieldDiff x y i = true ↔ i = j)) : cmpT p x y = [⟨((3 + j : Nat) : Int), p⟩] := by
  rw [cmpT, if_pos hk, hkids, mrg_self, List.append_nil, fieldDiffs]
  have : (List.range 5).filter (fieldDiff x y) = [j] := by
    have e : (List.range 5).filter (fieldDiff x y) = (List.range 5).filter fun i => decide (i = j) := by
      refine List.filter_congr fun i hi => ?_
      rw [Bool.eq_iff_iff, hd i (List.mem_range.1 hi)]; simp
    rw [e]
    match j, hj with
    | 0, _ => rfl
    | 1, _ => rfl
    | 2, _ => rfl
    | 3, _ => rfl
    | 4, _ => rfl
  rw [this]; rfl

theorem setN_self : ∀ (q : List (List UInt8)) (n y : NV), okT n → getN n q = some y → setN n q y = n
  | [], n, y, hn, h => by simp only [getN, Option.some.injEq] at h; exact h.symm
  | m :: q, n, y, hn, h => by
    obtain ⟨k, hk, rfl, hq⟩ := cons_mem.1 ((getN_mem _ n hn).2 ⟨y, h⟩)
    rw [getN_cons (okT_inc hn) hk rfl] at h
    have ih := setN_self q k y (okT_kid hn hk) h
    have e : (n.kids.map fun z => if z.name = k.name then setN z q y else z) = n.kids := by
      conv => rhs; rw [← List.map_id' n.kids]
      refine List.map_congr_left fun z hz => ?_
      by_cases hzk : z.name = k.name
      · have := inc_name (okT_inc hn) hz hk hzk
        subst this
        rw [if_pos rfl, ih]
      · rw [if_neg hzk]
    simp only [setN, e]
    cases n; rfl
theorem szL_map (f : NV → NV) (hf : ∀ k, (f k).name = k.name) : ∀ (ks : List NV) (k : NV), inc ks → k ∈ ks → (∀ z ∈ ks, z ≠ k → f z = z) → szL (ks.map f) + sz k = szL ks + sz (f k) := by
  intro ks k hi hk hz
  have hne : ks.Pairwise fun a b => a.name ≠ b.name := List.pairwise_iff_getElem.2 fun i j hi' hj hij => bl_ne (inc_get hi hij hj)
  clear hi
  induction ks with
  | nil => cases hk
  | cons x r ih =>
    rw [List.pairwise_cons] at hne
    simp only [List.map_cons, szL, hf]
    by_cases e : x = k
    · subst e
      have : r.map f = r := by
        conv => rhs; rw [← List.map_id' r]
        refine List.map_congr_left fun z hzr => hz z (List.mem_cons_of_mem _ hzr) fun e => ?_
        subst e
        exact hne.1 z hzr rfl
      rw [this]; omega
    · have hk' : k ∈ r := by
        rcases List.mem_cons.1 hk with h | h
        · exact absurd h.symm e
        · exact h
      have := ih hk' (fun z hzr => hz z (List.mem_cons_of_mem _ hzr)) hne.2
      rw [hz x List.mem_cons_self e]; omega
theorem sz_setN : ∀ (q : List (List UInt8)) (n x y : NV), okT n → getN n q = some y → x.name = y.name → sz (setN n q x) + sz y = sz n + sz x
  | [], n, x, y, hn, h, e => by simp only [getN, Option.some.injEq] at h; subst h; simp only [setN]; omega
  | m :: q, n, x, y, hn, h, e => by
    obtain ⟨k, hk, rfl, hq⟩ := cons_mem.1 ((getN_mem _ n hn).2 ⟨y, h⟩)
    rw [getN_cons (okT_inc hn) hk rfl] at h
    have ih := sz_setN q k x y (okT_kid hn hk) h e
    have hname := setN_name q k x y h e
    have hfe : (n.kids.map fun z => if z.name = k.name then setN z q x else z) = n.kids.map fun z => if z.name = k.name then (setN z q x).named z.name else z := by
      refine List.map_congr_left fun z hz => ?_
      by_cases hzk : z.name = k.name
      · have := inc_name (okT_inc hn) hz hk hzk
        subst this
        rw [if_pos rfl, if_pos rfl, named_of hname]
      · rw [if_neg hzk, if_neg hzk]
    have h1 := szL_map (fun z => if z.name = k.name then (setN z q x).named z.name else z) (fun z => by split <;> rfl) n.kids k (okT_inc hn) hk fun z hz hne => if_neg fun e => hne (inc_name (okT_inc hn) hz hk e)
    rw [if_pos rfl, named_of hname] at h1
    have h2 := sz_eq n
    have h3 := sz_eq (setN n (k.name :: q) x)
    have h4 : (setN n (k.name :: q) x).kids = n.kids.map fun z => if z.name = k.name then setN z q x else z := rfl
    have h5 : (setN n (k.name :: q) x).text = n.text ∧ (setN n (k.name :: q) x).target = n.target ∧ (setN n (k.name :: q) x).streams = n.streams := ⟨rfl, rfl, rfl⟩
    rw [h4, hfe, h5.1, h5.2.1, h5.2.2] at h3
    omega
end Go.Tame.V
/- Contracts: the other way of trees: with, put, Put. By program (mk.py). -/
namespace Go.Tame.V
open Go Go.Proofs
variable {W0 : World}
set_option maxRecDepth 10000
set_option linter.unusedVariables false
set_option linter.unusedSimpArgs false

theorem app_take {α β : Type} (g : α → β) (l : List α) {i : Nat} (h : i < l.length) : (l.take i).map g ++ [g l[i]] = (l.take (i + 1)).map g := by
  rw [List.take_succ_eq_append_getElem h, List.map_append]; rfl
theorem F69 (n x : NV) (m : Nat) (hm : m < n.kids.length) (he : n.kids[m].name = x.name) (hi0 : inc n.kids) (hk : n.kids.length < 10000000) : DFun Tryz.prog W0 69 [encTop n, encTop x] (encTop (setN n [x.name] x)) := by
  refine DFun.intro ti_ok Tryz.func69 rfl (by decide +kernel) Tryz.ntmps69 rfl fun Γ => ?_
  refine Tri.seq ?_
  refine Tri.region ti_ok ?_
  conv => whnf
  intro b2
  conv => whnf
  intro b3
  conv => whnf
  intro b4
  conv => whnf
  refine Tri.seq ?_
  refine Tri.region ti_ok ?_
  conv => whnf
  refine ⟨trivial, ?_⟩
  conv => whnf
  refine Tri.seq ?_
  refine Tri.region ti_ok ?_
  conv => whnf
  refine Tri.seq ?_
  refine Tri.seq ?_
  refine Tri.region ti_ok ?_
  conv => whnf
  refine Tri.block ?_
  generalize hf : (fun k : NV => if k.name = x.name then x else k) = f
  have hfl : (n.kids.map f).length = n.kids.length := by simp
  refine Tri.own 5 1000 12 25 rfl (fun w => ?_)
  refine Tri.loopK (α := { i : Nat // i ≤ n.kids.length } × Value) (fun z => [(2, .box 2 b2 0), (3, .box 3 b3 0), (4, .box 4 b4 0), (5, .sl (.own 1000 z.2) 12 (((n.kids.map f).take z.1.1).map encTop)), (6, .bool (decide (m < z.1.1))), (7, .int .i64 z.1.1)]) (fun z => [(2, .box b2 [.str n.name, .int .i64 n.kind, .str n.text, .str n.target, .int .i64 n.n1, .int .i64 n.n2, .int .i64 n.n3, .int .i64 n.n4, .int .i64 n.n5, .int .i64 n.n6, .sl .none 12 (n.kids.map enc), .sl .none 2 (n.streams.map encS)]), (3, .box b3 [.str x.name, .int .i64 x.kind, .str x.text, .str x.target, .int .i64 x.n1, .int .i64 x.n2, .int .i64 x.n3, .int .i64 x.n4, .int .i64 x.n5, .int .i64 x.n6, .sl .none 12 (x.kids.map enc), .sl .none 2 (x.streams.map encS)]), (4, .box b4 [.str [], .int .i64 0, .str [], .str [], .int .i64 0, .int .i64 0, .int .i64 0, .int .i64 0, .int .i64 0, .int .i64 0, .nils, .nils]), (1000, .own z.2 (((n.kids.map f).take z.1.1).map encTop).length 12 25)]) (fun z => n.kids.length - z.1.1) (⟨0, Nat.zero_le _⟩, w) [(2, 2), (3, 3), (4, 4), (1000, 1000)]
    ⟨⟨.refl _, .refl _, .refl _, .refl _, .refl _, .refl _, trivial⟩, rfl, rfl, rfl, rfl, rfl, rfl, rfl, rfl, rfl, trivial⟩ ?_
  rintro ⟨⟨i, hi⟩, w⟩
  dsimp only at hi ⊢
  refine Tri.seq ?_
  refine Tri.seq ?_
  refine Tri.region ti_ok ?_
  conv => whnf
  refine ⟨rfl, ?_⟩
  conv => whnf
  refine Tri.cond _ rfl (fun hc => ?_) (fun hc => ?_)
  · refine Tri.skip ?_
    conv => whnf
    have hia : i < n.kids.length := by simpa using hc
    have hfi : (n.kids.map f)[i]'(by rw [hfl]; exact hia) = f n.kids[i] := by simp
    have hfx : f n.kids[i] = if n.kids[i].name = x.name then x else n.kids[i] := by rw [← hf]
    have hap := app_take encTop (n.kids.map f) (i := i) (by rw [hfl]; exact hia)
    rw [hfi] at hap
    have hlt : i < m → Op.bytesLess n.kids[i].name x.name = true := fun h => by rw [← he]; exact inc_get hi0 h hm
    have heq : i = m → n.kids[i].name = x.name := fun h => by subst h; exact he
    have hne : n.kids[i].name = x.name → i = m := fun h => by
      rcases Nat.lt_trichotomy i m with l | l | l
      · exact absurd h (bl_ne (hlt l))
      · exact l
      · have := inc_get hi0 l hia
        rw [he, ← h, bl_irrefl] at this; cases this
    refine Tri.seq ?_
    refine Tri.block ?_
    refine Tri.joinK (α := Value) (fun w => [(2, .box 2 b2 0), (3, .box 3 b3 0), (4, .box 4 b4 0), (5, .sl (.own 1000 w) 12 (((n.kids.map f).take i).map encTop ++ (if i = m then [encTop x] else []))), (6, .bool (decide (m < i + 1))), (7, .int .i64 i)]) (fun w => [(2, .box b2 [.str n.name, .int .i64 n.kind, .str n.text, .str n.target, .int .i64 n.n1, .int .i64 n.n2, .int .i64 n.n3, .int .i64 n.n4, .int .i64 n.n5, .int .i64 n.n6, .sl .none 12 (n.kids.map enc), .sl .none 2 (n.streams.map encS)]), (3, .box b3 [.str x.name, .int .i64 x.kind, .str x.text, .str x.target, .int .i64 x.n1, .int .i64 x.n2, .int .i64 x.n3, .int .i64 x.n4, .int .i64 x.n5, .int .i64 x.n6, .sl .none 12 (x.kids.map enc), .sl .none 2 (x.streams.map encS)]), (4, .box b4 [.str [], .int .i64 0, .str [], .str [], .int .i64 0, .int .i64 0, .int .i64 0, .int .i64 0, .int .i64 0, .int .i64 0, .nils, .nils]), (1000, .own w (((n.kids.map f).take i).map encTop ++ (if i = m then [encTop x] else [])).length 12 25)]) ?_ ?_
    · refine Tri.seq ?_
      refine Tri.draw ti_ok mixed (by kernel_rfl) ?_
      conv => whnf
      refine ⟨fun h => h, ?_⟩
      conv => whnf
      refine ⟨rfl, ?_⟩
      conv => whnf
      refine ⟨fun h => h, ?_⟩
      conv => whnf
      refine ⟨fun h => h, ?_⟩
      conv => whnf
      refine ⟨fun h => by simp; omega, ?_⟩
      conv => whnf
      refine ⟨fun h => h, ?_⟩
      conv => whnf
      refine ⟨fun h => h, ?_⟩
      conv => whnf
      refine ⟨encTop n.kids[i], fun h => get_kids hia, ?_⟩
      conv => whnf
      refine ⟨fun h => h, ?_⟩
      conv => whnf
      refine ⟨rfl, ?_⟩
      conv => whnf
      refine ⟨fun h => h, ?_⟩
      conv => whnf
      refine ⟨fun h => h, ?_⟩
      conv => whnf
      refine ⟨fun h0 h => by first | exact h | (rw [h]; rfl) | (rw [h0, h]; rfl), ?_⟩
      conv => whnf
      refine Tri.cond _ rfl (fun hc => ?_) (fun hc => ?_)
      · have him : i = m := by
          by_cases h0 : m < i
          · simp [h0] at hc
          · by_cases h1 : i < m
            · have h2 := hlt h1
              simp [h0, h2] at hc
            · omega
        refine Tri.seq ?_
        refine Tri.region ti_ok ?_
        conv => whnf
        refine ⟨rfl, ?_⟩
        conv => whnf
        refine ⟨trivial, ?_⟩
        conv => whnf
        refine ⟨rfl, rfl, ?_⟩
        conv => whnf
        refine ⟨by show (_ + _) * _ ≤ _; simp; omega, by show _ + _ ≤ _; simp; omega, (fun h => by cases h), fun v => ?_⟩
        conv => whnf
        refine Tri.region ti_ok ?_
        conv => whnf
        exact ⟨v, [(2, 2), (3, 3), (4, 4), (1000, 32)], ⟨.refl _, .refl _, .refl _, DLe.ownEq (by rw [if_pos him]; rfl), DLe.of_eq (congrArg D.bool (by simp; omega)), .refl _, trivial⟩, rfl, rfl, rfl, rfl, rfl, rfl, rfl, rfl, ownH (by rw [if_pos him, List.length_append]; rfl), trivial⟩
      · have him : ¬ i = m := fun h => by
          have h1 := heq h
          rw [h1, bl_irrefl] at hc
          simp [h] at hc
        refine Tri.skip ?_
        conv => whnf
        exact ⟨w, [(2, 2), (3, 3), (4, 4), (1000, 1000)], ⟨.refl _, .refl _, .refl _, DLe.ownEq (by rw [if_neg him, List.append_nil]), DLe.of_eq (congrArg D.bool (by rw [decide_eq_decide]; omega)), .refl _, trivial⟩, rfl, rfl, rfl, rfl, rfl, rfl, rfl, rfl, ownH (by rw [if_neg him, List.append_nil]), trivial⟩
    · rintro w
      refine Tri.seq ?_
      refine Tri.draw ti_ok mixed (by kernel_rfl) ?_
      conv => whnf
      refine ⟨rfl, ?_⟩
      conv => whnf
      refine ⟨fun _ => by simp; omega, ?_⟩
      conv => whnf
      refine ⟨encTop n.kids[i], fun _ => get_kids hia, ?_⟩
      conv => whnf
      refine ⟨rfl, ?_⟩
      conv => whnf
      refine Tri.cond _ rfl (fun hc => ?_) (fun hc => ?_)
      · have hnn : ¬ n.kids[i].name = x.name := by simpa using hc
        have him : ¬ i = m := fun h => hnn (heq h)
        rw [if_neg hnn] at hfx
        rw [hfx] at hap
        rw [if_neg him, List.append_nil]
        refine Tri.region ti_ok ?_
        conv => whnf
        refine ⟨rfl, ?_⟩
        conv => whnf
        refine ⟨fun _ => by simp; omega, ?_⟩
        conv => whnf
        refine ⟨encTop n.kids[i], fun _ => get_kids hia, ?_⟩
        conv => whnf
        refine ⟨trivial, ?_⟩
        conv => whnf
        refine ⟨rfl, rfl, ?_⟩
        conv => whnf
        refine ⟨by show (_ + _) * _ ≤ _; simp; omega, by show _ + _ ≤ _; simp; omega, (fun h => by cases h), fun v => ?_⟩
        conv => whnf
        refine Tri.region ti_ok ?_
        conv => whnf
        refine .inl ⟨fun _ => by simp only [InR]; omega, ?_⟩
        conv => whnf
        exact ⟨(⟨i + 1, hia⟩, v), [(2, 2), (3, 3), (4, 4), (1000, 49)], by show n.kids.length - (i + 1) < n.kids.length - i; omega, ⟨.refl _, .refl _, .refl _, DLe.ownEq hap, .refl _, .refl _, trivial⟩, rfl, rfl, rfl, rfl, rfl, rfl, rfl, rfl, ownH (by rw [← hap, List.length_append]; rfl), trivial⟩
      · have hnn : n.kids[i].name = x.name := by simpa using hc
        have him : i = m := hne hnn
        rw [if_pos hnn] at hfx
        rw [hfx] at hap
        rw [if_pos him, hap]
        refine Tri.skip ?_
        conv => whnf
        refine Tri.region ti_ok ?_
        conv => whnf
        refine .inl ⟨fun _ => by simp only [InR]; omega, ?_⟩
        conv => whnf
        exact ⟨(⟨i + 1, hia⟩, w), [(2, 2), (3, 3), (4, 4), (1000, 1000)], by show n.kids.length - (i + 1) < n.kids.length - i; omega, ⟨.refl _, .refl _, .refl _, .refl _, .refl _, .refl _, trivial⟩, rfl, rfl, rfl, rfl, rfl, rfl, rfl, rfl, rfl, trivial⟩
  · refine Tri.exit ?_
    conv => whnf
    have hin : i = n.kids.length := by simp at hc; omega
    have hmi : decide (m < i) = true := by simp; omega
    rw [hmi]
    refine Tri.seq ?_
    refine Tri.seq ?_
    refine Tri.region ti_ok ?_
    conv => whnf
    refine Tri.cond _ rfl (fun hc => ?_) (fun hc => ?_)
    · cases hc
    · refine Tri.skip ?_
      conv => whnf
      refine Tri.seq ?_
      refine Tri.region ti_ok ?_
      conv => whnf
      refine ⟨rfl, ?_⟩
      conv => whnf
      refine Tri.seq ?_
      refine Tri.region ti_ok ?_
      conv => whnf
      refine ⟨rfl, ?_⟩
      conv => whnf
      refine ⟨rfl, ?_⟩
      conv => whnf
      refine Tri.ret ?_
      conv => whnf
      refine ⟨rfl, ?_⟩
      conv => whnf
      refine DLe.agg ⟨.refl _, .refl _, .refl _, .refl _, .refl _, .refl _, .refl _, .refl _, .refl _, .refl _, ?_, .refl _, trivial⟩
      have e : ((n.kids.map f).take i).map encTop = (setN n [x.name] x).kids.map enc := by
        rw [List.take_of_length_le (by rw [hfl]; omega), ← hf, show enc = encTop from funext enc_eq]
        rfl
      rw [e]
      exact DLe.unown

theorem setN_at {n k x : NV} {q : List (List UInt8)} (hi : inc n.kids) (hk : k ∈ n.kids) (hy : (setN k q x).name = k.name) : setN n [(setN k q x).name] (setN k q x) = setN n (k.name :: q) x := by
  rw [hy]
  show ({ n with kids := n.kids.map fun z => if z.name = k.name then setN k q x else z } : NV) = { n with kids := n.kids.map fun z => if z.name = k.name then setN z q x else z }
  have e : (n.kids.map fun z => if z.name = k.name then setN k q x else z) = n.kids.map fun z => if z.name = k.name then setN z q x else z := by
    refine List.map_congr_left fun z hz => ?_
    by_cases hzk : z.name = k.name
    · have := inc_name hi hz hk hzk
      subst this; rfl
    · rw [if_neg hzk, if_neg hzk]
  rw [e]
theorem name_ge {n x : NV} : ∀ {q : List (List UInt8)}, (setN n (q ++ [x.name]) x).name = n.name
  | [] => rfl
  | m :: q => rfl

theorem F51 (x : NV) : ∀ (N : Nat) (q : List (List UInt8)) (n : NV), q.length < N → okT n → q ++ [x.name] ∈ pathsN n → Fits n → DFun Tryz.prog W0 51 [encTop n, .sl .none 1 (strs q), encTop x] (encTop (setN n (q ++ [x.name]) x)) := by
  refine fun N => Nat.rec (fun q n h => absurd h (Nat.not_lt_zero _)) (fun N ih q n hN hn hq hf => ?_) N
  have hkl : n.kids.length ≤ 64 := ((okT_eq n).1 hn).1
  refine DFun.intro ti_ok Tryz.func51 rfl (by decide +kernel) Tryz.ntmps51 rfl fun Γ => ?_
  refine Tri.seq ?_
  refine Tri.region ti_ok ?_
  conv => whnf
  intro b3
  conv => whnf
  intro b5
  conv => whnf
  intro b6
  conv => whnf
  refine Tri.seq ?_
  refine Tri.seq ?_
  refine Tri.region ti_ok ?_
  conv => whnf
  refine Tri.cond _ rfl (fun hc => ?_) (fun hc => ?_)
  · have hq0 : q = [] := List.eq_nil_of_length_eq_zero (by simpa [strs] using hc)
    subst hq0
    obtain ⟨k, hk, e, _⟩ := cons_mem.1 (show x.name :: [] ∈ pathsN n from hq)
    obtain ⟨m, hm, rfl⟩ := List.mem_iff_getElem.1 hk
    refine Tri.seq ?_
    refine Tri.region ti_ok ?_
    conv => whnf
    refine ⟨rfl, ?_⟩
    conv => whnf
    refine ⟨rfl, ?_⟩
    conv => whnf
    refine ⟨[encTop n, encTop x], _, fun _ => F69 n x m hm e (okT_inc hn) (by omega), ⟨.refl _, .refl _, trivial⟩, ?_⟩
    conv => whnf
    refine ⟨rfl, ?_⟩
    conv => whnf
    refine Tri.ret ?_
    conv => whnf
    refine ⟨rfl, ?_⟩
    conv => whnf
    exact .refl _
  · refine Tri.skip ?_
    conv => whnf
    refine Tri.seq ?_
    obtain ⟨m, r, rfl⟩ : ∃ m r, q = m :: r := by
      cases q with
      | nil => simp [strs] at hc
      | cons m r => exact ⟨m, r, rfl⟩
    obtain ⟨k, hk, e, hq'⟩ := cons_mem.1 (show m :: (r ++ [x.name]) ∈ pathsN n from hq)
    obtain ⟨j, hj, h1, h2⟩ : ∃ (j : Nat) (h : j < n.kids.length), kidIx n m = j ∧ findK m n.kids = some n.kids[j] := by
      rcases kid_find n m with ⟨_, h⟩ | h
      · have := findK_inc (okT_inc hn) hk
        rw [e, h] at this; cases this
      · exact h
    have hjn := (findK_name h2).2
    have hkj : k = n.kids[j] := inc_name (okT_inc hn) hk (List.getElem_mem hj) (e.trans hjn.symm)
    rw [hkj] at hq'
    refine Tri.draw ti_ok mixed (by kernel_rfl) ?_
    conv => whnf
    refine ⟨rfl, ?_⟩
    conv => whnf
    refine ⟨fun _ => by simp [strs], ?_⟩
    conv => whnf
    refine ⟨.str m, fun _ => rfl, ?_⟩
    conv => whnf
    refine ⟨[encTop n, .str m], _, fun _ => F45 n m hf, ⟨.refl _, .refl _, trivial⟩, ?_⟩
    conv => whnf
    rw [h1]
    refine Tri.seq ?_
    refine Tri.drawTail ti_ok 10 mixed (by kernel_rfl) ?_
    conv => whnf
    refine ⟨rfl, ?_⟩
    conv => whnf
    refine ⟨rfl, ?_⟩
    conv => whnf
    refine ⟨fun _ => by simp; omega, ?_⟩
    conv => whnf
    refine ⟨encTop n.kids[j], fun _ => get_kids hj, ?_⟩
    conv => whnf
    refine ⟨fun _ => by simp [strs]; omega, ?_⟩
    conv => whnf
    refine ⟨rfl, ?_⟩
    conv => whnf
    refine ⟨[encTop n.kids[j], .sl .none 1 (strs r), encTop x], _, fun _ => ih r n.kids[j] (by simp at hN; omega) (okT_kid hn (List.getElem_mem hj)) hq' (fits_kid hf (List.getElem_mem hj)), ⟨.refl _, DLe.of_eq (congrArg (D.sl _ 1) (by simp [strs]; exact List.take_of_length_le (by simp))), .refl _, trivial⟩, ?_⟩
    conv => whnf
    refine ⟨[encTop n, encTop (setN n.kids[j] (r ++ [x.name]) x)], _, fun _ => F69 n (setN n.kids[j] (r ++ [x.name]) x) j hj name_ge.symm (okT_inc hn) (by omega), ⟨.refl _, .refl _, trivial⟩, ?_⟩
    conv => whnf
    refine ⟨rfl, ?_⟩
    conv => whnf
    refine Tri.ret ?_
    conv => whnf
    refine ⟨rfl, ?_⟩
    conv => whnf
    rw [setN_at (okT_inc hn) (List.getElem_mem hj) name_ge, hjn]
    exact .refl _

theorem good_at : ∀ (q : List (List UInt8)) (n d : NV) (l : Int), goodB n l = true → getN n q = some d → ∃ l', goodB d l' = true
  | [], n, d, l, h, hg => by simp only [getN, Option.some.injEq] at hg; subst hg; exact ⟨l, h⟩
  | m :: q, n, d, l, h, hg => by
    simp only [getN] at hg
    cases hf : findK m n.kids with
    | none => rw [hf] at hg; cases hg
    | some k =>
      rw [hf] at hg
      exact good_at q k d (l + 1) (goodL_mem (goodB_good h).2 k (findK_name hf).1) hg
theorem getN_app : ∀ (q r : List (List UInt8)) (n : NV), getN n (q ++ r) = (getN n q).bind fun d => getN d r
  | [], r, n => rfl
  | m :: q, r, n => by
    simp only [List.cons_append, getN]
    cases findK m n.kids with
    | none => rfl
    | some k => exact getN_app q r k
/-- What Put hands back. -/
def putR (out : NV) : NV × Int := if (check out).2 = 0 then (out, 0) else (zeroN, (check out).2)

theorem F28 (n x : NV) (q : List (List UInt8)) (hv : valid n = true) (hf : Fits n) (hp : q ++ [x.name] ∈ pathsN n) (hout : Fits (setN n (q ++ [x.name]) x)) : DFun Tryz.prog W0 28 [encTop n, .str (joinF q), encTop x] (.tup [encTop (putR (setN n (q ++ [x.name]) x)).1, .int .i64 (putR (setN n (q ++ [x.name]) x)).2]) := by
  have hn := valid_okT hv
  obtain ⟨z, hz⟩ := (getN_mem _ n hn).1 hp
  rw [getN_app] at hz
  obtain ⟨d, hd, hdz⟩ := Option.bind_eq_some_iff.1 hz
  have hqd := (getN_mem q n hn).2 ⟨d, hd⟩
  have hqo := path_ok q n hn hqd
  have hR : getR n (joinF q) = (d, 0) := by rw [getR_join hqo, hd]
  have hjl := join_len hqd
  have hff := hf
  unfold Fits at hff
  have hdk : d.kind = 0 := by
    have hgv := hv
    rw [valid_good, Bool.and_eq_true] at hgv
    obtain ⟨l', hg⟩ := good_at q n d 1 hgv.2 hd
    by_cases h0 : d.kind = 0
    · exact h0
    · have := (goodB_good hg).1.dir h0
      simp only [getN, this, findK, List.find?_nil] at hdz
      cases hdz
  refine DFun.intro ti_ok Tryz.func28 rfl (by decide +kernel) Tryz.ntmps28 rfl fun Γ => ?_
  refine Tri.seq ?_
  refine Tri.region ti_ok ?_
  conv => whnf
  intro b3
  conv => whnf
  intro b5
  conv => whnf
  intro b6
  conv => whnf
  refine Tri.seq ?_
  refine Tri.region ti_ok ?_
  conv => whnf
  refine ⟨rfl, ?_⟩
  conv => whnf
  refine ⟨[encTop n, .str (joinF q)], .tup [encTop d, .int .i64 0], fun _ => by
    have := F21 (W0 := W0) n (joinF q) hf hv (by omega)
    rw [hR] at this
    exact this, ⟨.refl _, .refl _, trivial⟩, ?_⟩
  conv => whnf
  intro b8
  conv => whnf
  refine ⟨rfl, ?_⟩
  conv => whnf
  refine Tri.seq ?_
  refine Tri.seq ?_
  refine Tri.region ti_ok ?_
  conv => whnf
  refine Tri.cond _ rfl (fun hc => ?_) (fun hc => ?_)
  · cases hc
  · refine Tri.skip ?_
    conv => whnf
    refine Tri.seq ?_
    refine Tri.seq ?_
    refine Tri.region ti_ok ?_
    conv => whnf
    refine ⟨rfl, ?_⟩
    conv => whnf
    refine Tri.cond _ rfl (fun hc => ?_) (fun hc => ?_)
    · rw [hdk] at hc; cases hc
    · refine Tri.skip ?_
      conv => whnf
      refine Tri.seq ?_
      refine Tri.region ti_ok ?_
      conv => whnf
      refine ⟨trivial, ?_⟩
      conv => whnf
      refine Tri.joinK (α := Unit) (fun _ => [(3, .box 3 b3 0), (5, .box 5 b5 0), (6, .box 6 b6 0), (10, .sl .none 1 (strs q))]) (fun _ => [(3, .box b3 [.str n.name, .int .i64 n.kind, .str n.text, .str n.target, .int .i64 n.n1, .int .i64 n.n2, .int .i64 n.n3, .int .i64 n.n4, .int .i64 n.n5, .int .i64 n.n6, .sl .none 12 (n.kids.map enc), .sl .none 2 (n.streams.map encS)]), (5, .box b5 [.str x.name, .int .i64 x.kind, .str x.text, .str x.target, .int .i64 x.n1, .int .i64 x.n2, .int .i64 x.n3, .int .i64 x.n4, .int .i64 x.n5, .int .i64 x.n6, .sl .none 12 (x.kids.map enc), .sl .none 2 (x.streams.map encS)]), (6, .box b6 [.str [], .int .i64 0, .str [], .str [], .int .i64 0, .int .i64 0, .int .i64 0, .int .i64 0, .int .i64 0, .int .i64 0, .nils, .nils])]) ?_ ?_
      · refine Tri.seq ?_
        refine Tri.region ti_ok ?_
        conv => whnf
        refine Tri.cond _ rfl (fun hc => ?_) (fun hc => ?_)
        · refine Tri.region ti_ok ?_
          conv => whnf
          refine ⟨[.str (joinF q), .int .u8 47], _, fun _ => F44 (joinF q) 47 (by omega), ⟨.refl _, .refl _, trivial⟩, ?_⟩
          conv => whnf
          have hne : q ≠ [] := fun h => by subst h; simp [joinF] at hc
          rw [split_join hqo hne]
          exact ⟨(), [(3, 3), (5, 5), (6, 6)], ⟨.refl _, .refl _, .refl _, .refl _, trivial⟩, rfl, rfl, rfl, rfl, rfl, rfl, rfl, trivial⟩
        · refine Tri.skip ?_
          conv => whnf
          have hne : q = [] := (joinF_nil hqo).1 (by simpa using hc)
          subst hne
          exact ⟨(), [(3, 3), (5, 5), (6, 6)], ⟨.refl _, .refl _, .refl _, DLe.full, trivial⟩, rfl, rfl, rfl, rfl, rfl, rfl, rfl, trivial⟩
      · rintro ⟨⟩
        refine Tri.seq ?_
        refine Tri.region ti_ok ?_
        conv => whnf
        refine ⟨rfl, ?_⟩
        conv => whnf
        refine ⟨rfl, ?_⟩
        conv => whnf
        refine ⟨[encTop n, .sl .none 1 (strs q), encTop x], _, fun _ => F51 x _ q n (Nat.lt_succ_self _) hn hp hf, ⟨.refl _, .refl _, .refl _, trivial⟩, ?_⟩
        conv => whnf
        generalize hO : setN n (q ++ [x.name]) x = O at *
        intro b11
        conv => whnf
        refine ⟨rfl, ?_⟩
        conv => whnf
        refine Tri.seq ?_
        refine Tri.seq ?_
        refine Tri.region ti_ok ?_
        conv => whnf
        refine ⟨rfl, ?_⟩
        conv => whnf
        refine ⟨[encTop O], _, fun _ => F43 O hout, ⟨.refl _, trivial⟩, ?_⟩
        conv => whnf
        refine Tri.seq ?_
        refine Tri.region ti_ok ?_
        conv => whnf
        refine Tri.cond _ rfl (fun hc => ?_) (fun hc => ?_)
        · refine Tri.seq ?_
          refine Tri.region ti_ok ?_
          conv => whnf
          refine ⟨rfl, ?_⟩
          conv => whnf
          refine Tri.ret ?_
          conv => whnf
          have h0 : ¬ (check O).2 = 0 := by simpa using hc
          have hP : putR O = (zeroN, (check O).2) := by rw [putR, if_neg h0]
          rw [hP]
          refine ⟨rfl, ?_⟩
          conv => whnf
          exact ⟨zeroD, .refl _, trivial⟩
        · refine Tri.skip ?_
          conv => whnf
          refine Tri.seq ?_
          refine Tri.region ti_ok ?_
          conv => whnf
          refine ⟨rfl, ?_⟩
          conv => whnf
          refine ⟨rfl, ?_⟩
          conv => whnf
          refine Tri.ret ?_
          conv => whnf
          have h0 : (check O).2 = 0 := by simpa using hc
          have hP : putR O = (O, 0) := by rw [putR, if_pos h0]
          rw [hP]
          refine ⟨rfl, ?_⟩
          conv => whnf
          exact ⟨.refl _, .refl _, trivial⟩
end Go.Tame.V
/- Each difference is one, and no two are the same. Plain. -/
namespace Go.Tame.V
open Go Go.Proofs
set_option maxRecDepth 10000
set_option linter.unusedVariables false
set_option linter.unusedSimpArgs false

mutual
/-- The differences of two nodes, by paths of names. -/
def cmpN (a b : NV) : List (Int × List (List UInt8)) :=
  if a.kind = b.kind then ((List.range 5).filter (fieldDiff a b)).map (fun i => (((3 + i : Nat) : Int), [])) ++ mrgN a.kids b.kids else [(2, [])]
termination_by sz a + sz b
decreasing_by have h1 := sz_eq a; have h2 := sz_eq b; omega
def mrgN : List NV → List NV → List (Int × List (List UInt8))
  | [], [] => []
  | x :: xs, [] => (0, [x.name]) :: mrgN xs []
  | [], y :: ys => (1, [y.name]) :: mrgN [] ys
  | x :: xs, y :: ys =>
    if Op.bytesLess x.name y.name then (0, [x.name]) :: mrgN xs (y :: ys)
    else if x.name = y.name then (cmpN x y).map (fun d => (d.1, x.name :: d.2)) ++ mrgN xs ys
    else (1, [y.name]) :: mrgN (x :: xs) ys
termination_by xs ys => szL xs + szL ys
decreasing_by all_goals simp only [szL]; omega
end
def atP (p : List UInt8) (d : Int × List (List UInt8)) : DV := ⟨d.1, joinPs p d.2⟩
mutual
theorem cmpT_N (p : List UInt8) (a b : NV) : cmpT p a b = (cmpN a b).map (atP p) := by
  rw [cmpT, cmpN]
  have h1 := sz_eq a
  have h2 := sz_eq b
  by_cases h : a.kind = b.kind
  · rw [if_pos h, if_pos h, mrg_N p a.kids b.kids, List.map_append, List.map_map]; rfl
  · rw [if_neg h, if_neg h]; rfl
termination_by sz a + sz b
decreasing_by omega
theorem mrg_N (p : List UInt8) : ∀ xs ys : List NV, mrg p xs ys = (mrgN xs ys).map (atP p)
  | [], [] => by rw [mrg, mrgN]; rfl
  | x :: xs, [] => by rw [mrg, mrgN, List.map_cons, mrg_N p xs []]; rfl
  | [], y :: ys => by rw [mrg, mrgN, List.map_cons, mrg_N p [] ys]; rfl
  | x :: xs, y :: ys => by
    rw [mrg, mrgN]
    by_cases h1 : Op.bytesLess x.name y.name = true
    · rw [if_pos h1, if_pos h1, List.map_cons, mrg_N p xs (y :: ys)]; rfl
    · rw [if_neg h1, if_neg h1]
      by_cases h2 : x.name = y.name
      · rw [if_pos h2, if_pos h2, List.map_append, List.map_map, cmpT_N, mrg_N p xs ys]; rfl
      · rw [if_neg h2, if_neg h2, List.map_cons, mrg_N p (x :: xs) ys]; rfl
termination_by xs ys => szL xs + szL ys
decreasing_by all_goals simp only [szL]; omega
end

/-- What the law asks of a difference of kind k between what two paths lead to. -/
def Real (k : Int) : Option NV → Option NV → Prop
  | some x, some y => (k = 2 ∧ x.kind ≠ y.kind) ∨ ∃ i, i < 5 ∧ k = ((3 + i : Nat) : Int) ∧ x.kind = y.kind ∧ fieldDiff x y i = true
  | some _, none => k = 0
  | none, some _ => k = 1
  | none, none => False
theorem inc_head {x : NV} {xs : List NV} (h : inc (x :: xs)) : inc xs ∧ ∀ z ∈ xs, Op.bytesLess x.name z.name = true := by
  refine ⟨fun i hi => ?_, fun z hz => ?_⟩
  · have := h (i + 1) (by simpa using hi)
    simpa [List.getD] using this
  · obtain ⟨i, hi, rfl⟩ := List.mem_iff_getElem.1 hz
    have := inc_get h (i := 0) (j := i + 1) (by omega) (by simpa using hi)
    simpa using this
/-- Where the parts of the merging come from. -/
theorem mrgN_mem : ∀ (xs ys : List NV) (k : Int) (q : List (List UInt8)), inc xs → inc ys → (k, q) ∈ mrgN xs ys →
    (∃ x ∈ xs, k = 0 ∧ q = [x.name] ∧ ∀ y ∈ ys, y.name ≠ x.name) ∨ (∃ y ∈ ys, k = 1 ∧ q = [y.name] ∧ ∀ x ∈ xs, x.name ≠ y.name) ∨ ∃ x ∈ xs, ∃ y ∈ ys, x.name = y.name ∧ ∃ q', q = x.name :: q' ∧ (k, q') ∈ cmpN x y
  | [], [], k, q, _, _, h => by rw [mrgN] at h; cases h
  | x :: xs, [], k, q, hx, hy, h => by
    rw [mrgN] at h
    rcases List.mem_cons.1 h with h | h
    · cases h; exact .inl ⟨x, List.mem_cons_self, rfl, rfl, fun y hy => by cases hy⟩
    · rcases mrgN_mem xs [] k q (inc_head hx).1 hy h with ⟨z, hz, r⟩ | ⟨z, hz, _⟩ | ⟨z, hz, w, hw, _⟩
      · exact .inl ⟨z, List.mem_cons_of_mem _ hz, r⟩
      · cases hz
      · cases hw
  | [], y :: ys, k, q, hx, hy, h => by
    rw [mrgN] at h
    rcases List.mem_cons.1 h with h | h
    · cases h; exact .inr (.inl ⟨y, List.mem_cons_self, rfl, rfl, fun x hx => by cases hx⟩)
    · rcases mrgN_mem [] ys k q hx (inc_head hy).1 h with ⟨z, hz, r⟩ | ⟨z, hz, r⟩ | ⟨z, hz, w, hw, _⟩
      · cases hz
      · exact .inr (.inl ⟨z, List.mem_cons_of_mem _ hz, r⟩)
      · cases hz
  | x :: xs, y :: ys, k, q, hx, hy, h => by
    rw [mrgN] at h
    obtain ⟨hx1, hx2⟩ := inc_head hx
    obtain ⟨hy1, hy2⟩ := inc_head hy
    split at h
    · rename_i h1
      rcases List.mem_cons.1 h with h | h
      · cases h
        refine .inl ⟨x, List.mem_cons_self, rfl, rfl, fun z hz => ?_⟩
        rcases List.mem_cons.1 hz with rfl | hz
        · exact (bl_ne h1).symm
        · exact (bl_ne (bl_trans _ _ _ h1 (hy2 z hz))).symm
      · rcases mrgN_mem xs (y :: ys) k q hx1 hy h with ⟨z, hz, r⟩ | ⟨z, hz, r1, r2, r3⟩ | ⟨z, hz, w, hw, r⟩
        · exact .inl ⟨z, List.mem_cons_of_mem _ hz, r⟩
        · refine .inr (.inl ⟨z, hz, r1, r2, fun w hw => ?_⟩)
          rcases List.mem_cons.1 hw with rfl | hw
          · rcases List.mem_cons.1 hz with rfl | hz
            · exact bl_ne h1
            · exact bl_ne (bl_trans _ _ _ h1 (hy2 z hz))
          · exact r3 w hw
        · exact .inr (.inr ⟨z, List.mem_cons_of_mem _ hz, w, hw, r⟩)
    · rename_i h1
      split at h
      · rename_i h2
        rcases List.mem_append.1 h with h | h
        · obtain ⟨⟨k', q'⟩, hd, e⟩ := List.mem_map.1 h
          cases e
          exact .inr (.inr ⟨x, List.mem_cons_self, y, List.mem_cons_self, h2, q', rfl, hd⟩)
        · rcases mrgN_mem xs ys k q hx1 hy1 h with ⟨z, hz, r1, r2, r3⟩ | ⟨z, hz, r1, r2, r3⟩ | ⟨z, hz, w, hw, r⟩
          · refine .inl ⟨z, List.mem_cons_of_mem _ hz, r1, r2, fun w hw => ?_⟩
            rcases List.mem_cons.1 hw with rfl | hw
            · rw [← h2]; exact bl_ne (hx2 z hz)
            · exact r3 w hw
          · refine .inr (.inl ⟨z, List.mem_cons_of_mem _ hz, r1, r2, fun w hw => ?_⟩)
            rcases List.mem_cons.1 hw with rfl | hw
            · rw [h2]; exact bl_ne (hy2 z hz)
            · exact r3 w hw
          · exact .inr (.inr ⟨z, List.mem_cons_of_mem _ hz, w, List.mem_cons_of_mem _ hw, r⟩)
      · rename_i h2
        have h3 : Op.bytesLess y.name x.name = true := by
          cases h3 : Op.bytesLess y.name x.name with
          | true => rfl
          | false => exact absurd (bl_total _ _ (by simpa using h1) h3) h2
        rcases List.mem_cons.1 h with h | h
        · cases h
          refine .inr (.inl ⟨y, List.mem_cons_self, rfl, rfl, fun z hz => ?_⟩)
          rcases List.mem_cons.1 hz with rfl | hz
          · exact (bl_ne h3).symm
          · exact (bl_ne (bl_trans _ _ _ h3 (hx2 z hz))).symm
        · rcases mrgN_mem (x :: xs) ys k q hx hy1 h with ⟨z, hz, r1, r2, r3⟩ | ⟨z, hz, r⟩ | ⟨z, hz, w, hw, r⟩
          · refine .inl ⟨z, hz, r1, r2, fun w hw => ?_⟩
            rcases List.mem_cons.1 hw with rfl | hw
            · rcases List.mem_cons.1 hz with rfl | hz
              · exact bl_ne h3
              · exact bl_ne (bl_trans _ _ _ h3 (hx2 z hz))
            · exact r3 w hw
          · exact .inr (.inl ⟨z, List.mem_cons_of_mem _ hz, r⟩)
          · exact .inr (.inr ⟨z, hz, w, List.mem_cons_of_mem _ hw, r⟩)
termination_by xs ys => szL xs + szL ys
decreasing_by all_goals simp only [szL]; omega
theorem findK_none {ks : List NV} {m : List UInt8} (h : ∀ k ∈ ks, k.name ≠ m) : findK m ks = none := by
  unfold findK
  rw [List.find?_eq_none]
  intro k hk; simpa using h k hk
/-- Each difference is one. -/
theorem real_diff : ∀ (N : Nat) (a b : NV), sz a < N → okT a → okT b → ∀ k q, (k, q) ∈ cmpN a b → okP q ∧ Real k (getN a q) (getN b q) := by
  refine fun N => Nat.rec (fun a b h => absurd h (Nat.not_lt_zero _)) (fun N ih a b hN ha hb k q h => ?_) N
  rw [cmpN] at h
  split at h
  · rename_i hk
    rcases List.mem_append.1 h with h | h
    · obtain ⟨i, hi, e⟩ := List.mem_map.1 h
      obtain ⟨h1, h2⟩ := List.mem_filter.1 hi
      cases e
      exact ⟨fun m hm => by (cases hm), .inr ⟨i, List.mem_range.1 h1, rfl, hk, h2⟩⟩
    · rcases mrgN_mem a.kids b.kids k q (okT_inc ha) (okT_inc hb) h with ⟨x, hx, rfl, rfl, hn⟩ | ⟨y, hy, rfl, rfl, hn⟩ | ⟨x, hx, y, hy, hxy, q', rfl, hq⟩
      · refine ⟨fun m hm => by simp only [List.mem_singleton] at hm; subst hm; exact okT_name ha hx, ?_⟩
        rw [getN_cons (okT_inc ha) hx rfl]
        simp only [getN, findK_none hn]
        rfl
      · refine ⟨fun m hm => by simp only [List.mem_singleton] at hm; subst hm; exact okT_name hb hy, ?_⟩
        rw [getN_cons (okT_inc hb) hy rfl]
        simp only [getN, findK_none hn]
        rfl
      · have hs : sz x < N := by
          obtain ⟨i, hi, rfl⟩ := List.mem_iff_getElem.1 hx
          have := kid_sz hi; omega
        obtain ⟨h1, h2⟩ := ih x y hs (okT_kid ha hx) (okT_kid hb hy) k q' hq
        refine ⟨fun m hm => ?_, ?_⟩
        · rcases List.mem_cons.1 hm with rfl | hm
          · exact okT_name ha hx
          · exact h1 m hm
        · rw [getN_cons (okT_inc ha) hx rfl, getN_cons (okT_inc hb) hy hxy.symm]
          exact h2
  · rename_i hk
    simp only [List.mem_singleton, Prod.mk.injEq] at h
    obtain ⟨rfl, rfl⟩ := h
    exact ⟨fun m hm => by (cases hm), .inl ⟨rfl, hk⟩⟩

mutual
theorem cmpN_nodup (a b : NV) (ha : okT a) (hb : okT b) : (cmpN a b).Nodup := by
  rw [cmpN]
  have h1 := sz_eq a
  have h2 := sz_eq b
  split
  · rw [List.nodup_append]
    refine ⟨?_, mrgN_nodup a.kids b.kids (okT_inc ha) (okT_inc hb) (fun k hk => okT_kid ha hk) (fun k hk => okT_kid hb hk), fun d hd e he => ?_⟩
    · have : ((List.range 5).filter (fieldDiff a b)).Nodup := List.nodup_range.filter _
      refine List.Pairwise.map _ (fun i j hij e => hij ?_) this
      simp only [Prod.mk.injEq, and_true] at e
      omega
    · obtain ⟨i, hi, rfl⟩ := List.mem_map.1 hd
      intro heq
      subst heq
      rcases mrgN_mem a.kids b.kids _ _ (okT_inc ha) (okT_inc hb) he with ⟨_, _, _, h, _⟩ | ⟨_, _, _, h, _⟩ | ⟨_, _, _, _, _, _, h, _⟩ <;> cases h
  · simp
termination_by sz a + sz b
decreasing_by omega
theorem mrgN_nodup : ∀ (xs ys : List NV), inc xs → inc ys → (∀ k ∈ xs, okT k) → (∀ k ∈ ys, okT k) → (mrgN xs ys).Nodup
  | [], [], _, _, _, _ => by rw [mrgN]; exact List.nodup_nil
  | x :: xs, [], hx, hy, ox, oy => by
    obtain ⟨hx1, hx2⟩ := inc_head hx
    rw [mrgN, List.nodup_cons]
    refine ⟨fun h => ?_, mrgN_nodup xs [] hx1 hy (fun k hk => ox k (List.mem_cons_of_mem _ hk)) oy⟩
    rcases mrgN_mem xs [] _ _ hx1 hy h with ⟨z, hz, _, e, _⟩ | ⟨z, hz, _⟩ | ⟨z, hz, w, hw, _⟩
    · simp only [List.cons.injEq, and_true] at e; exact bl_ne (hx2 z hz) e
    · cases hz
    · cases hw
  | [], y :: ys, hx, hy, ox, oy => by
    obtain ⟨hy1, hy2⟩ := inc_head hy
    rw [mrgN, List.nodup_cons]
    refine ⟨fun h => ?_, mrgN_nodup [] ys hx hy1 ox (fun k hk => oy k (List.mem_cons_of_mem _ hk))⟩
    rcases mrgN_mem [] ys _ _ hx hy1 h with ⟨z, hz, _⟩ | ⟨z, hz, _, e, _⟩ | ⟨z, hz, w, hw, _⟩
    · cases hz
    · simp only [List.cons.injEq, and_true] at e; exact bl_ne (hy2 z hz) e
    · cases hz
  | x :: xs, y :: ys, hx, hy, ox, oy => by
    obtain ⟨hx1, hx2⟩ := inc_head hx
    obtain ⟨hy1, hy2⟩ := inc_head hy
    have ox' : ∀ k ∈ xs, okT k := fun k hk => ox k (List.mem_cons_of_mem _ hk)
    have oy' : ∀ k ∈ ys, okT k := fun k hk => oy k (List.mem_cons_of_mem _ hk)
    rw [mrgN]
    split
    · rename_i h1
      rw [List.nodup_cons]
      refine ⟨fun h => ?_, mrgN_nodup xs (y :: ys) hx1 hy ox' oy⟩
      rcases mrgN_mem xs (y :: ys) _ _ hx1 hy h with ⟨z, hz, _, e, _⟩ | ⟨z, hz, e, _⟩ | ⟨z, hz, w, hw, _, q', e, _⟩
      · simp only [List.cons.injEq, and_true] at e; exact bl_ne (hx2 z hz) e
      · cases e
      · simp only [List.cons.injEq] at e; exact bl_ne (hx2 z hz) e.1
    · rename_i h1
      split
      · rename_i h2
        rw [List.nodup_append]
        refine ⟨?_, mrgN_nodup xs ys hx1 hy1 ox' oy', fun d hd e he => ?_⟩
        · refine List.Pairwise.map _ (fun d e hde h => hde ?_) (cmpN_nodup x y (ox x List.mem_cons_self) (oy y List.mem_cons_self))
          simp only [Prod.mk.injEq, List.cons.injEq, true_and] at h
          exact Prod.ext h.1 h.2
        · obtain ⟨⟨k, q⟩, hkq, rfl⟩ := List.mem_map.1 hd
          intro heq
          subst heq
          rcases mrgN_mem xs ys _ _ hx1 hy1 he with ⟨z, hz, _, e, _⟩ | ⟨z, hz, _, e, _⟩ | ⟨z, hz, w, hw, _, q', e, _⟩
          · simp only [List.cons.injEq] at e; exact bl_ne (hx2 z hz) e.1
          · simp only [List.cons.injEq] at e; exact bl_ne (hy2 z hz) (h2.symm.trans e.1)
          · simp only [List.cons.injEq] at e; exact bl_ne (hx2 z hz) e.1
      · rename_i h2
        have h3 : Op.bytesLess y.name x.name = true := by
          cases h3 : Op.bytesLess y.name x.name with
          | true => rfl
          | false => exact absurd (bl_total _ _ (by simpa using h1) h3) h2
        rw [List.nodup_cons]
        refine ⟨fun h => ?_, mrgN_nodup (x :: xs) ys hx hy1 ox oy'⟩
        rcases mrgN_mem (x :: xs) ys _ _ hx hy1 h with ⟨z, hz, e, _⟩ | ⟨z, hz, _, e, _⟩ | ⟨z, hz, w, hw, hzw, q', e, _⟩
        · cases e
        · simp only [List.cons.injEq, and_true] at e; exact bl_ne (hy2 z hz) e
        · simp only [List.cons.injEq] at e; exact bl_ne (hy2 w hw) (e.1.trans hzw)
termination_by xs ys => szL xs + szL ys
decreasing_by all_goals simp only [szL]; omega
end
/-- No two differences are the same. -/
theorem cmpT_nodup {a b : NV} (ha : okT a) (hb : okT b) : (cmpT [] a b).Nodup := by
  rw [cmpT_N]
  have hn := cmpN_nodup a b ha hb
  refine List.pairwise_map.2 (List.Pairwise.imp_of_mem (fun {d e} hd he hne h => hne ?_) hn)
  obtain ⟨h1, _⟩ := real_diff _ a b (Nat.lt_succ_self _) ha hb d.1 d.2 hd
  obtain ⟨h2, _⟩ := real_diff _ a b (Nat.lt_succ_self _) ha hb e.1 e.2 he
  simp only [atP, DV.mk.injEq] at h
  rw [joinPs_top h1, joinPs_top h2] at h
  exact Prod.ext h.1 (joinF_inj h1 h2 h.2)
theorem cmpT_mem {a b : NV} (ha : okT a) (hb : okT b) {d : DV} (h : d ∈ cmpT [] a b) : ∃ q, okP q ∧ d.path = joinF q ∧ Real d.kind (getN a q) (getN b q) := by
  rw [cmpT_N] at h
  obtain ⟨⟨k, q⟩, hd, rfl⟩ := List.mem_map.1 h
  obtain ⟨h1, h2⟩ := real_diff _ a b (Nat.lt_succ_self _) ha hb k q hd
  exact ⟨q, h1, joinPs_top h1, h2⟩
end Go.Tame.V
/- The law ViewdiffFinds. By program (mk62.py, mk.py). -/
namespace Go.Tame.V
open Go Go.Proofs
variable {W0 : World}
set_option maxRecDepth 10000
set_option linter.unusedVariables false
set_option linter.unusedSimpArgs false

def keyV (d : DV) : Value := .agg #[.int .i64 d.kind, .string ⟨⟨d.path⟩⟩]
theorem kl34 : WideMaps.KeyLaw Tryz.prog 34 := deep_law (m := 4) (by decide) (by kernel_rfl) (by kernel_rfl) (by kernel_rfl)
theorem lits34 (d : Nat) {k : Int} {s : List UInt8} (hk : (Lit.int .i64 k).wf = true) (hs : s.length ≤ maxLen) : Tryz.prog.keyLits (d + 2) 34 [.int .i64 k, .string ⟨⟨s⟩⟩] = some [.int .i64 k, .string s] := by
  have h34 : Tryz.prog.cellsOf 34 = 2 := by kernel_rfl
  have h3 : Tryz.prog.cellsOf 3 = 1 := by kernel_rfl
  have h9 : Tryz.prog.cellsOf 9 = 1 := by kernel_rfl
  have l3 : Tryz.prog.keyLits (d + 1) 3 [.int .i64 k] = some [.int .i64 k] := by
    unfold Program.keyLits; simp only [Tryz.underlying3]; simp [hk]
  have l9 : Tryz.prog.keyLits (d + 1) 9 [.string ⟨⟨s⟩⟩] = some [.string s] := by
    unfold Program.keyLits; simp only [Tryz.underlying9]; simp; exact hs
  unfold Program.keyLits
  simp only [Tryz.underlying34, h34]
  rw [if_pos (by simp)]
  simp [List.mapM_cons, h3, h9, l3, l9]
theorem key_ok {k : Int} {s : List UInt8} (hk : (Lit.int .i64 k).wf = true) (hs : s.length ≤ maxLen) : ∃ l, keyOf Tryz.prog 34 (.agg #[.int .i64 k, .string ⟨⟨s⟩⟩]) = some l := by
  have hf : Tryz.prog.keyType 34 = true := by kernel_rfl
  have h34 : Tryz.prog.cellsOf 34 = 2 := by kernel_rfl
  have hfo : Value.formed Tryz.prog 34 (.agg #[.int .i64 k, .string ⟨⟨s⟩⟩]) = true := by simp [Value.formed, Tryz.underlying34, h34]
  obtain ⟨d, hd⟩ : ∃ d, Tryz.prog.types.size + 1 = d + 2 := by
    have : 0 < Tryz.prog.types.size := of_decide_eq_true (by kernel_rfl)
    exact ⟨Tryz.prog.types.size - 1, by omega⟩
  refine ⟨.string (keyBytes [.int .i64 k, .string s]), ?_⟩
  unfold keyOf
  simp only [Tryz.underlying34, hf, hfo, Bool.and_self, if_true, hd, Value.cells]
  rw [lits34 d hk hs]
  rfl
theorem real_range {k : Int} {x y : Option NV} (h : Real k x y) : 0 ≤ k ∧ k ≤ 7 := by
  cases x <;> cases y <;> simp only [Real] at h
  · omega
  · omega
  · rcases h with ⟨h, _⟩ | ⟨i, hi, h, _⟩ <;> omega
theorem path_bound {a b : NV} (ta : okT a) (tb : okT b) {k : Int} {q : List (List UInt8)} (h : Real k (getN a q) (getN b q)) : (joinF q).length ≤ sz a + sz b := by
  cases hx : getN a q with
  | some x => have := join_len ((getN_mem q a ta).2 ⟨x, hx⟩); omega
  | none =>
    cases hy : getN b q with
    | some y => have := join_len ((getN_mem q b tb).2 ⟨y, hy⟩); omega
    | none => rw [hx, hy] at h; exact h.elim
theorem diff_key {a b : NV} (ta : okT a) (tb : okT b) {d : DV} {q : List (List UInt8)} (hp : d.path = joinF q) (h : Real d.kind (getN a q) (getN b q)) (ha : sz a < 10000000) (hb : sz b < 10000000) : ∃ l, keyOf Tryz.prog 34 (keyV d) = some l := by
  have h1 := real_range h
  have h2 := path_bound ta tb h
  refine key_ok ?_ (by rw [hp]; simp only [maxLen]; omega)
  simp only [Lit.wf, Bool.and_eq_true, decide_eq_true_eq]
  exact ⟨Int.le_trans (show IntKind.i64.min ≤ 0 by decide) h1.1, Int.le_trans h1.2 (show (7 : Int) ≤ IntKind.i64.max by decide)⟩
theorem diff_facts {a b : NV} {k : Int} {q : List (List UInt8)} (hq : okP q) (h : Real k (getN a q) (getN b q)) :
    (k = 0 ∧ (getR a (joinF q)).2 = 0 ∧ (getR b (joinF q)).2 = 6) ∨ (k = 1 ∧ (getR a (joinF q)).2 = 6 ∧ (getR b (joinF q)).2 = 0) ∨
    ((getR a (joinF q)).2 = 0 ∧ (getR b (joinF q)).2 = 0 ∧ k = 2 ∧ (getR a (joinF q)).1.kind ≠ (getR b (joinF q)).1.kind) ∨
    ((getR a (joinF q)).2 = 0 ∧ (getR b (joinF q)).2 = 0 ∧ ∃ i : Nat, i < 5 ∧ k = ((3 + i : Nat) : Int) ∧ (getR a (joinF q)).1.kind = (getR b (joinF q)).1.kind ∧ fieldDiff (getR a (joinF q)).1 (getR b (joinF q)).1 i = true) := by
  rw [getR_join hq, getR_join hq]
  cases hx : getN a q <;> cases hy : getN b q <;> rw [hx, hy] at h <;> simp only [Real] at h
  · exact .inr (.inl ⟨h, rfl, rfl⟩)
  · exact .inl ⟨h, rfl, rfl⟩
  · rcases h with ⟨h1, h2⟩ | ⟨i, hi, h1, h2, h3⟩
    · exact .inr (.inr (.inl ⟨rfl, rfl, h1, h2⟩))
    · exact .inr (.inr (.inr ⟨rfl, rfl, i, hi, h1, h2, h3⟩))
theorem getR_sz (n : NV) {q : List (List UInt8)} (hq : okP q) : sz (getR n (joinF q)).1 ≤ sz n := by
  rw [getR_join hq]
  cases hx : getN n q with
  | some x => exact getN_sz q n x hx
  | none => have := sz_eq n; have h2 : sz zeroN = 2 := rfl; simp only [h2]; omega
/-- The map's entries, after some differences. -/
def entsL (l : List DV) : Array MapEntry := ((l.zipIdx).map fun p => (⟨keyV p.1, .bool true, p.2⟩ : MapEntry)).toArray
theorem entsL_snoc (l : List DV) (d : DV) : entsL (l ++ [d]) = (entsL l).push ⟨keyV d, .bool true, l.length⟩ := by
  simp [entsL, List.zipIdx_append]
theorem entsL_key {l : List DV} {e : MapEntry} (h : e ∈ (entsL l).toList) : ∃ d ∈ l, e.key = keyV d := by
  simp only [entsL, List.mem_map] at h
  obtain ⟨⟨d, i⟩, hd, rfl⟩ := h
  exact ⟨d, List.fst_mem_of_mem_zipIdx hd, rfl⟩
theorem keyV_inj {d e : DV} (h : keyV d = keyV e) : d = e := by
  cases d; cases e
  simp [keyV] at h
  simp [h]
theorem rep_key {w : World} {C : Nat → Nat} {k : Int} {s : List UInt8} {v : Value} (h : Rep w C (.agg [.int .i64 k, .str s]) v) : v = .agg #[.int .i64 k, .string ⟨⟨s⟩⟩] := by
  obtain ⟨vs, rfl, h1, h2⟩ := h.agg_inv
  match vs, h1 with
  | [x, y], _ =>
    have e0 := (h2 0 _ x rfl rfl).int_inv
    have e1 := (h2 1 _ y rfl rfl).str_inv
    rw [e0, e1]

theorem F6 (hL : LibOk W0) (a b : NV) (ha : Fits a) (hb : Fits b) : DFun Tryz.prog W0 6 [encTop a, encTop b] (.bool true) := by
  refine DFun.intro ti_ok Tryz.func6 rfl (by decide +kernel) Tryz.ntmps6 rfl fun Γ => ?_
  refine Tri.seq ?_
  refine Tri.region ti_ok ?_
  conv => whnf
  intro b2
  conv => whnf
  intro b3
  conv => whnf
  refine Tri.seq ?_
  refine Tri.seq ?_
  refine Tri.region ti_ok ?_
  conv => whnf
  refine ⟨[], _, fun _ => F11 hL, trivial, ?_⟩
  conv => whnf
  refine Tri.cond _ rfl (fun hc => ?_) (fun hc => ?_)
  · refine Tri.seq ?_
    refine Tri.region ti_ok ?_
    conv => whnf
    refine Tri.ret ?_
    conv => whnf
    cases hc
  · refine Tri.skip ?_
    conv => whnf
    refine Tri.seq ?_
    refine Tri.seq ?_
    refine Tri.region ti_ok ?_
    conv => whnf
    refine ⟨rfl, ?_⟩
    conv => whnf
    refine ⟨rfl, ?_⟩
    conv => whnf
    refine ⟨[encTop a, encTop b], _, fun _ => F12 a b ha hb, ⟨.refl _, .refl _, trivial⟩, ?_⟩
    conv => whnf
    refine ⟨rfl, ?_⟩
    conv => whnf
    refine ⟨fun h => h, ?_⟩
    conv => whnf
    refine ⟨[encTop a], _, fun h => F20 a ha, ⟨.refl _, trivial⟩, ?_⟩
    conv => whnf
    refine ⟨fun h => h, ?_⟩
    conv => whnf
    refine ⟨fun h0 h => by first | exact h | (rw [h]; rfl) | (rw [h0, h]; rfl), ?_⟩
    conv => whnf
    refine ⟨rfl, ?_⟩
    conv => whnf
    refine ⟨fun h => h, ?_⟩
    conv => whnf
    refine ⟨[encTop b], _, fun h => F20 b hb, ⟨.refl _, trivial⟩, ?_⟩
    conv => whnf
    refine ⟨fun h => h, ?_⟩
    conv => whnf
    refine ⟨fun h0 h => by first | exact h | (rw [h]; rfl) | (rw [h0, h]; rfl), ?_⟩
    conv => whnf
    refine Tri.cond _ rfl (fun hc => ?_) (fun hc => ?_)
    · refine Tri.seq ?_
      refine Tri.region ti_ok ?_
      conv => whnf
      refine Tri.ret ?_
      conv => whnf
      exact .refl _
    · refine Tri.skip ?_
      conv => whnf
      obtain ⟨hfw, hva, hvb⟩ := not3 _ _ _ hc
      have ta := valid_okT hva
      have tb := valid_okT hvb
      have hza := ha
      have hzb := hb
      unfold Fits at hza hzb
      have hnd := cmpT_nodup ta tb
      have hmem : ∀ d ∈ cmpT [] a b, ∃ q, okP q ∧ d.path = joinF q ∧ Real d.kind (getN a q) (getN b q) := fun d hd => cmpT_mem ta tb hd
      have hcl := cmpT_len [] a b
      refine Tri.seq ?_
      refine Tri.region ti_ok ?_
      conv => whnf
      refine ⟨rfl, ?_⟩
      conv => whnf
      refine ⟨rfl, ?_⟩
      conv => whnf
      refine ⟨[encTop a, encTop b], .tup [.sl .none 2 (encDs (cmpT [] a b)), .int .i64 0], fun _ => by
        have := F13 hL a b ha hb
        rw [compare_ok hva hvb] at this
        exact this, ⟨.refl _, .refl _, trivial⟩, ?_⟩
      conv => whnf
      refine Tri.seq ?_
      refine Tri.seq ?_
      refine Tri.region ti_ok ?_
      conv => whnf
      refine Tri.cond _ rfl (fun hc => ?_) (fun hc => ?_)
      · cases hc
      · refine Tri.skip ?_
        conv => whnf
        refine Tri.seq ?_
        refine Tri.regionX ti_ok ?_
        conv => whnf
        refine .inr (XOp.makeMapObj fun mb => ?_)
        conv => whnf
        refine Tri.seq ?_
        refine Tri.seq ?_
        refine Tri.region ti_ok ?_
        conv => whnf
        refine Tri.block ?_
        generalize cmpT [] a b = L at *
        refine Tri.loopK (α := { i : Nat // i ≤ L.length }) (fun x => [(2, .box 2 b2 0), (3, .box 3 b3 0), (7, .raw (.map (some mb))), (40, .sl .none 2 (encDs L)), (41, .int .i64 (encDs L).length), (42, .int .i64 x.1)]) (fun x => [(2, .box b2 [.str a.name, .int .i64 a.kind, .str a.text, .str a.target, .int .i64 a.n1, .int .i64 a.n2, .int .i64 a.n3, .int .i64 a.n4, .int .i64 a.n5, .int .i64 a.n6, .sl .none 12 (a.kids.map enc), .sl .none 2 (a.streams.map encS)]), (3, .box b3 [.str b.name, .int .i64 b.kind, .str b.text, .str b.target, .int .i64 b.n1, .int .i64 b.n2, .int .i64 b.n3, .int .i64 b.n4, .int .i64 b.n5, .int .i64 b.n6, .sl .none 12 (b.kids.map enc), .sl .none 2 (b.streams.map encS)]), (39, .obj mb (.map (entsL (L.take x.1)) x.1))]) (fun x => L.length - x.1) ⟨0, Nat.zero_le _⟩ [(2, 2), (3, 3), (39, 39)]
          ⟨⟨.refl _, .refl _, .refl _, .refl _, .refl _, .refl _, trivial⟩, rfl, rfl, rfl, rfl, rfl, rfl, rfl, trivial⟩ ?_
        rintro ⟨i, hi⟩
        dsimp only at hi ⊢
        refine Tri.seq ?_
        refine Tri.region ti_ok ?_
        conv => whnf
        refine Tri.seq ?_
        refine Tri.cond _ rfl (fun hc => ?_) (fun hc => ?_)
        · refine Tri.skip ?_
          conv => whnf
          have hia : i < L.length := by simpa [encDs] using hc
          have hgd : (encDs L)[i]? = some (encD L[i]) := by simp [encDs, hia]
          have hdm := List.getElem_mem hia
          have hnew : L[i] ∉ L.take i := fun h => by
            obtain ⟨j, hj, e⟩ := List.mem_iff_getElem.1 h
            rw [List.getElem_take] at e
            have hji : j < i := by simp at hj; omega
            exact absurd e ((List.pairwise_iff_getElem.1 hnd) j i (by omega) hia hji)
          have hsn : L.take (i + 1) = L.take i ++ [L[i]] := List.take_succ_eq_append_getElem hia
          have htl : (L.take i).length = i := by simp; omega
          obtain ⟨q, hq, hp, hreal⟩ := hmem _ hdm
          have hkeys : ∀ e ∈ (entsL (L.take i)).toList, ∃ l, keyOf Tryz.prog 34 e.key = some l := fun e he => by
            obtain ⟨d', hd', ek⟩ := entsL_key he
            obtain ⟨q', hq', hp', hr'⟩ := hmem d' (List.mem_of_mem_take hd')
            rw [ek]
            exact diff_key ta tb hp' hr' (by omega) (by omega)
          have hkey := diff_key (d := L[i]) ta tb hp hreal (by omega) (by omega)
          have hne : ∀ e ∈ (entsL (L.take i)).toList, e.key ≠ keyV L[i] := fun e he h => by
            obtain ⟨d', hd', ek⟩ := entsL_key he
            rw [ek] at h
            exact hnew (keyV_inj h ▸ hd')
          have hent : some (HObj.obj mb (.map ((entsL (L.take i)).push ⟨keyV L[i], .bool true, i⟩) (i + 1))) = some (HObj.obj mb (.map (entsL (L.take (i + 1))) (i + 1))) := by
            rw [hsn, entsL_snoc, htl]
          have hlq := path_bound ta tb hreal
          have hF := diff_facts hq hreal
          have hsa := getR_sz a hq
          have hsb := getR_sz b hq
          rw [← hp] at hF hsa hsb hlq
          clear hreal hmem hnd hnew hdm
          generalize L[i] = d at *
          generalize hRa : getR a d.path = ra at *
          generalize hRb : getR b d.path = rb at *
          obtain ⟨l, hkey⟩ := hkey
          have hqv : ∀ (w : World) (C : Nat → Nat) (v : Value), Rep w C (.agg [.int .i64 d.kind, .str d.path]) v → v = keyV d := fun w C v h => rep_key h
          have hssa := szS_len ra.1.streams
          have hssb := szS_len rb.1.streams
          have hsea := sz_eq ra.1
          have hseb := sz_eq rb.1
          refine Tri.seq ?_
          refine Tri.block ?_
          refine Tri.seq ?_
          refine Tri.region ti_ok ?_
          conv => whnf
          refine ⟨fun _ => by simp [encDs]; omega, ?_⟩
          conv => whnf
          refine ⟨encD d, fun _ => hgd, ?_⟩
          conv => whnf
          intro b9
          conv => whnf
          refine ⟨rfl, ?_⟩
          conv => whnf
          refine Tri.seq ?_
          refine Tri.region ti_ok ?_
          conv => whnf
          refine ⟨rfl, ?_⟩
          conv => whnf
          refine ⟨rfl, ?_⟩
          conv => whnf
          refine ⟨[encTop a, .str d.path], .tup [encTop ra.1, .int .i64 ra.2], fun _ => hRa ▸ F21 a d.path ha hva (by omega), ⟨.refl _, .refl _, trivial⟩, ?_⟩
          conv => whnf
          intro b10
          conv => whnf
          refine ⟨rfl, ?_⟩
          conv => whnf
          refine Tri.seq ?_
          refine Tri.region ti_ok ?_
          conv => whnf
          refine ⟨rfl, ?_⟩
          conv => whnf
          refine ⟨rfl, ?_⟩
          conv => whnf
          refine ⟨[encTop b, .str d.path], .tup [encTop rb.1, .int .i64 rb.2], fun _ => hRb ▸ F21 b d.path hb hvb (by omega), ⟨.refl _, .refl _, trivial⟩, ?_⟩
          conv => whnf
          intro b12
          conv => whnf
          refine ⟨rfl, ?_⟩
          conv => whnf
          refine Tri.seq ?_
          refine Tri.seq ?_
          refine Tri.regionX ti_ok ?_
          conv => whnf
          refine .inl ?_
          conv => whnf
          refine ⟨rfl, ?_⟩
          conv => whnf
          refine .inr (XOp.objMiss 39 (kt := 34) (et := 4) Tryz.underlying38 kl34 (fun w => rfl) rfl rfl hqv hkey hkeys hne ?_)
          conv => whnf
          refine Tri.cond _ rfl (fun hc => ?_) (fun hc => ?_)
          · cases hc
          · refine Tri.skip ?_
            conv => whnf
            refine Tri.seq ?_
            refine Tri.regionX ti_ok ?_
            conv => whnf
            refine .inl ?_
            conv => whnf
            refine ⟨rfl, ?_⟩
            conv => whnf
            refine .inr (XOp.objAdd 39 (kt := 34) (et := 4) Tryz.underlying38 kl34 rfl rfl hqv hkey rfl hkeys hne ?_)
            conv => whnf
            refine Tri.seq ?_
            refine Tri.region ti_ok ?_
            conv => whnf
            refine ⟨fun h => h, ?_⟩
            conv => whnf
            refine ⟨fun h0 h => by first | exact h | (rw [h]; rfl) | (rw [h0, h]; rfl), ?_⟩
            conv => whnf
            refine Tri.seq ?_
            refine Tri.seq ?_
            refine Tri.region ti_ok ?_
            conv => whnf
            refine ⟨fun h => h, ?_⟩
            conv => whnf
            refine ⟨rfl, ?_⟩
            conv => whnf
            refine ⟨fun h => h, ?_⟩
            conv => whnf
            refine ⟨fun h0 h => by first | exact h | (rw [h]; rfl) | (rw [h0, h]; rfl), ?_⟩
            conv => whnf
            refine ⟨fun h => h, ?_⟩
            conv => whnf
            refine ⟨rfl, ?_⟩
            conv => whnf
            refine ⟨fun h => h, ?_⟩
            conv => whnf
            refine ⟨rfl, ?_⟩
            conv => whnf
            refine ⟨fun h => h, ?_⟩
            conv => whnf
            refine ⟨fun h => h, ?_⟩
            conv => whnf
            refine ⟨fun h0 h => by first | exact h | (rw [h]; rfl) | (rw [h0, h]; rfl), ?_⟩
            conv => whnf
            refine Tri.cond _ rfl (fun hc => ?_) (fun hc => ?_)
            · exfalso
              rcases hF with ⟨e1, e2, e3⟩ | ⟨e1, e2, e3⟩ | ⟨e1, e2, e3, e4⟩ | ⟨e1, e2, j, hj, e3, e4, e5⟩
              · simp [e1, e2, e3] at hc
              · simp [e1, e2, e3] at hc
              · simp [e1, e2, e3] at hc
              · simp [e1, e2, e4] at hc
            · refine Tri.skip ?_
              conv => whnf
              refine Tri.seq ?_
              refine Tri.seq ?_
              refine Tri.region ti_ok ?_
              conv => whnf
              refine ⟨rfl, ?_⟩
              conv => whnf
              refine Tri.block ?_
              refine Tri.seq ?_
              refine Tri.region ti_ok ?_
              conv => whnf
              refine Tri.cond _ rfl (fun h0 => ?_) (fun h0 => ?_)
              · refine Tri.region ti_ok ?_
                conv => whnf
                refine ⟨fun h => h, ?_⟩
                conv => whnf
                refine ⟨fun h0 h => by first | exact h | (rw [h]; rfl) | (rw [h0, h]; rfl), ?_⟩
                conv => whnf
                refine Tri.seq ?_
                refine Tri.region ti_ok ?_
                conv => whnf
                refine Tri.cond _ rfl (fun hc => ?_) (fun hc => ?_)
                · exfalso
                  have hk : d.kind = 0 := by simpa using h0
                  rcases hF with ⟨e1, e2, e3⟩ | ⟨e1, e2, e3⟩ | ⟨e1, e2, e3, e4⟩ | ⟨e1, e2, j, hj, e3, e4, e5⟩
                  · simp [e1, e2, e3] at hc
                  · omega
                  · omega
                  · omega
                · refine Tri.skip ?_
                  conv => whnf
                  refine Tri.region ti_ok ?_
                  conv => whnf
                  refine .inl ⟨fun _ => by simp only [InR]; omega, ?_⟩
                  conv => whnf
                  exact ⟨⟨i + 1, hia⟩, [(2, 2), (3, 3), (39, 39)], by show L.length - (i + 1) < L.length - i; omega, ⟨.refl _, .refl _, .refl _, .refl _, .refl _, .refl _, trivial⟩, rfl, rfl, rfl, rfl, rfl, rfl, hent, trivial⟩
              · refine Tri.seq ?_
                refine Tri.region ti_ok ?_
                conv => whnf
                refine Tri.cond _ rfl (fun h1 => ?_) (fun h1 => ?_)
                · refine Tri.region ti_ok ?_
                  conv => whnf
                  refine ⟨fun h => h, ?_⟩
                  conv => whnf
                  refine ⟨fun h0 h => by first | exact h | (rw [h]; rfl) | (rw [h0, h]; rfl), ?_⟩
                  conv => whnf
                  refine Tri.seq ?_
                  refine Tri.region ti_ok ?_
                  conv => whnf
                  refine Tri.cond _ rfl (fun hc => ?_) (fun hc => ?_)
                  · exfalso
                    have hk : d.kind = 1 := by simpa using h1
                    rcases hF with ⟨e1, e2, e3⟩ | ⟨e1, e2, e3⟩ | ⟨e1, e2, e3, e4⟩ | ⟨e1, e2, j, hj, e3, e4, e5⟩
                    · omega
                    · simp [e1, e2, e3] at hc
                    · omega
                    · omega
                  · refine Tri.skip ?_
                    conv => whnf
                    refine Tri.region ti_ok ?_
                    conv => whnf
                    refine .inl ⟨fun _ => by simp only [InR]; omega, ?_⟩
                    conv => whnf
                    exact ⟨⟨i + 1, hia⟩, [(2, 2), (3, 3), (39, 39)], by show L.length - (i + 1) < L.length - i; omega, ⟨.refl _, .refl _, .refl _, .refl _, .refl _, .refl _, trivial⟩, rfl, rfl, rfl, rfl, rfl, rfl, hent, trivial⟩
                · refine Tri.seq ?_
                  refine Tri.region ti_ok ?_
                  conv => whnf
                  refine Tri.cond _ rfl (fun h2 => ?_) (fun h2 => ?_)
                  · refine Tri.region ti_ok ?_
                    conv => whnf
                    refine ⟨fun h => h, ?_⟩
                    conv => whnf
                    refine ⟨rfl, ?_⟩
                    conv => whnf
                    refine ⟨fun h => h, ?_⟩
                    conv => whnf
                    refine ⟨rfl, ?_⟩
                    conv => whnf
                    refine ⟨fun h => h, ?_⟩
                    conv => whnf
                    refine ⟨fun h => h, ?_⟩
                    conv => whnf
                    refine ⟨fun h0 h => by first | exact h | (rw [h]; rfl) | (rw [h0, h]; rfl), ?_⟩
                    conv => whnf
                    refine Tri.seq ?_
                    refine Tri.region ti_ok ?_
                    conv => whnf
                    refine Tri.cond _ rfl (fun hc => ?_) (fun hc => ?_)
                    · exfalso
                      have hk : d.kind = 2 := by simpa using h2
                      rcases hF with ⟨e1, e2, e3⟩ | ⟨e1, e2, e3⟩ | ⟨e1, e2, e3, e4⟩ | ⟨e1, e2, j, hj, e3, e4, e5⟩
                      · omega
                      · omega
                      · simp [e1, e2, e4] at hc
                      · omega
                    · refine Tri.skip ?_
                      conv => whnf
                      refine Tri.region ti_ok ?_
                      conv => whnf
                      refine .inl ⟨fun _ => by simp only [InR]; omega, ?_⟩
                      conv => whnf
                      exact ⟨⟨i + 1, hia⟩, [(2, 2), (3, 3), (39, 39)], by show L.length - (i + 1) < L.length - i; omega, ⟨.refl _, .refl _, .refl _, .refl _, .refl _, .refl _, trivial⟩, rfl, rfl, rfl, rfl, rfl, rfl, hent, trivial⟩
                  · refine Tri.seq ?_
                    refine Tri.region ti_ok ?_
                    conv => whnf
                    refine Tri.cond _ rfl (fun h3 => ?_) (fun h3 => ?_)
                    · refine Tri.region ti_ok ?_
                      conv => whnf
                      refine ⟨fun h => h, ?_⟩
                      conv => whnf
                      refine ⟨rfl, ?_⟩
                      conv => whnf
                      refine ⟨fun h => h, ?_⟩
                      conv => whnf
                      refine ⟨rfl, ?_⟩
                      conv => whnf
                      refine ⟨fun h => h, ?_⟩
                      conv => whnf
                      refine ⟨fun h => h, ?_⟩
                      conv => whnf
                      refine ⟨fun h0 h => by first | exact h | (rw [h]; rfl) | (rw [h0, h]; rfl), ?_⟩
                      conv => whnf
                      refine Tri.seq ?_
                      refine Tri.region ti_ok ?_
                      conv => whnf
                      refine Tri.cond _ rfl (fun hc => ?_) (fun hc => ?_)
                      · exfalso
                        have hk : d.kind = 3 := by simpa using h3
                        rcases hF with ⟨e1, e2, e3⟩ | ⟨e1, e2, e3⟩ | ⟨e1, e2, e3, e4⟩ | ⟨e1, e2, j, hj, e3, e4, e5⟩
                        · omega
                        · omega
                        · omega
                        · obtain rfl : j = 0 := by omega
                          simp [fieldDiff] at e5
                          simp [e1, e2] at hc
                          exact e5 hc
                      · refine Tri.skip ?_
                        conv => whnf
                        refine Tri.region ti_ok ?_
                        conv => whnf
                        refine .inl ⟨fun _ => by simp only [InR]; omega, ?_⟩
                        conv => whnf
                        exact ⟨⟨i + 1, hia⟩, [(2, 2), (3, 3), (39, 39)], by show L.length - (i + 1) < L.length - i; omega, ⟨.refl _, .refl _, .refl _, .refl _, .refl _, .refl _, trivial⟩, rfl, rfl, rfl, rfl, rfl, rfl, hent, trivial⟩
                    · refine Tri.seq ?_
                      refine Tri.region ti_ok ?_
                      conv => whnf
                      refine Tri.cond _ rfl (fun h4 => ?_) (fun h4 => ?_)
                      · refine Tri.region ti_ok ?_
                        conv => whnf
                        refine ⟨fun h => h, ?_⟩
                        conv => whnf
                        refine ⟨rfl, ?_⟩
                        conv => whnf
                        refine ⟨fun h => h, ?_⟩
                        conv => whnf
                        refine ⟨rfl, ?_⟩
                        conv => whnf
                        refine ⟨fun h => h, ?_⟩
                        conv => whnf
                        refine ⟨fun h => h, ?_⟩
                        conv => whnf
                        refine ⟨fun h0 h => by first | exact h | (rw [h]; rfl) | (rw [h0, h]; rfl), ?_⟩
                        conv => whnf
                        refine Tri.seq ?_
                        refine Tri.region ti_ok ?_
                        conv => whnf
                        refine Tri.cond _ rfl (fun hc => ?_) (fun hc => ?_)
                        · exfalso
                          have hk : d.kind = 4 := by simpa using h4
                          rcases hF with ⟨e1, e2, e3⟩ | ⟨e1, e2, e3⟩ | ⟨e1, e2, e3, e4⟩ | ⟨e1, e2, j, hj, e3, e4, e5⟩
                          · omega
                          · omega
                          · omega
                          · obtain rfl : j = 1 := by omega
                            simp [fieldDiff] at e5
                            simp [e1, e2] at hc
                            exact e5 hc
                        · refine Tri.skip ?_
                          conv => whnf
                          refine Tri.region ti_ok ?_
                          conv => whnf
                          refine .inl ⟨fun _ => by simp only [InR]; omega, ?_⟩
                          conv => whnf
                          exact ⟨⟨i + 1, hia⟩, [(2, 2), (3, 3), (39, 39)], by show L.length - (i + 1) < L.length - i; omega, ⟨.refl _, .refl _, .refl _, .refl _, .refl _, .refl _, trivial⟩, rfl, rfl, rfl, rfl, rfl, rfl, hent, trivial⟩
                      · refine Tri.seq ?_
                        refine Tri.region ti_ok ?_
                        conv => whnf
                        refine Tri.cond _ rfl (fun h5 => ?_) (fun h5 => ?_)
                        · have hk5 : d.kind = 5 := by simpa using h5
                          have hb5 : (bif ra.2 == 0 then rb.2 == 0 else false) = true := by
                            rcases hF with ⟨e1, e2, e3⟩ | ⟨e1, e2, e3⟩ | ⟨e1, e2, e3, e4⟩ | ⟨e1, e2, j, hj, e3, e4, e5⟩
                            · omega
                            · omega
                            · omega
                            · simp [e1, e2]
                          rw [hb5]
                          refine Tri.regionG ti_ok ?_
                          conv => whnf
                          refine ⟨rfl, trivial, .inl ?_⟩
                          conv => whnf
                          refine ⟨rfl, trivial, .inl ?_⟩
                          conv => whnf
                          refine ⟨rfl, ⟨_, rfl, rfl⟩, .inl ?_⟩
                          conv => whnf
                          refine ⟨rfl, ⟨_, rfl, rfl⟩, .inl ?_⟩
                          conv => whnf
                          refine ⟨rfl, ?_⟩
                          conv => whnf
                          refine ⟨rfl, ⟨_, rfl, rfl⟩, .inl ?_⟩
                          conv => whnf
                          refine ⟨rfl, ⟨_, rfl, rfl⟩, .inl ?_⟩
                          conv => whnf
                          refine ⟨rfl, ?_⟩
                          conv => whnf
                          refine ⟨rfl, ⟨_, rfl, rfl⟩, .inl ?_⟩
                          conv => whnf
                          refine ⟨rfl, ⟨_, rfl, rfl⟩, .inl ?_⟩
                          conv => whnf
                          refine ⟨rfl, ?_⟩
                          conv => whnf
                          refine ⟨rfl, ⟨_, rfl, rfl⟩, .inr (XOp.buildArr3 (q := .i64) Tryz.underlying41 rfl rfl (fun w => rfl) rfl rfl rfl ?_)⟩
                          conv => whnf
                          refine ⟨rfl, ⟨_, rfl, rfl⟩, .inl ?_⟩
                          conv => whnf
                          refine ⟨rfl, ⟨_, rfl, rfl⟩, .inl ?_⟩
                          conv => whnf
                          refine ⟨rfl, ?_⟩
                          conv => whnf
                          refine ⟨rfl, ⟨_, rfl, rfl⟩, .inl ?_⟩
                          conv => whnf
                          refine ⟨rfl, ⟨_, rfl, rfl⟩, .inl ?_⟩
                          conv => whnf
                          refine ⟨rfl, ?_⟩
                          conv => whnf
                          refine ⟨rfl, ⟨_, rfl, rfl⟩, .inl ?_⟩
                          conv => whnf
                          refine ⟨rfl, ⟨_, rfl, rfl⟩, .inl ?_⟩
                          conv => whnf
                          refine ⟨rfl, ?_⟩
                          conv => whnf
                          refine ⟨rfl, ⟨_, rfl, rfl⟩, .inr (XOp.buildArr3 (q := .i64) Tryz.underlying41 rfl rfl (fun w => rfl) rfl rfl rfl ?_)⟩
                          conv => whnf
                          refine ⟨rfl, ⟨_, rfl, rfl⟩, .inr (XOp.arrNeq (q := .i64) Tryz.underlying41 rfl Tryz.underlying3 (by kernel_rfl) (by kernel_rfl) rfl rfl ?_)⟩
                          conv => whnf
                          refine ⟨rfl, trivial, .inl ?_⟩
                          conv => whnf
                          refine ⟨rfl, trivial, .inl ?_⟩
                          conv => whnf
                          refine Tri.seq ?_
                          refine Tri.region ti_ok ?_
                          conv => whnf
                          refine Tri.cond _ rfl (fun hc => ?_) (fun hc => ?_)
                          · exfalso
                            have hk : d.kind = 5 := by simpa using h5
                            rcases hF with ⟨e1, e2, e3⟩ | ⟨e1, e2, e3⟩ | ⟨e1, e2, e3, e4⟩ | ⟨e1, e2, j, hj, e3, e4, e5⟩
                            · omega
                            · omega
                            · omega
                            · obtain rfl : j = 2 := by omega
                              simp [fieldDiff] at e5
                              simp at hc
                              omega
                          · refine Tri.skip ?_
                            conv => whnf
                            refine Tri.region ti_ok ?_
                            conv => whnf
                            refine .inl ⟨fun _ => by simp only [InR]; omega, ?_⟩
                            conv => whnf
                            exact ⟨⟨i + 1, hia⟩, [(2, 2), (3, 3), (39, 39)], by show L.length - (i + 1) < L.length - i; omega, ⟨.refl _, .refl _, .refl _, .refl _, .refl _, .refl _, trivial⟩, rfl, rfl, rfl, rfl, rfl, rfl, hent, trivial⟩
                        · refine Tri.seq ?_
                          refine Tri.region ti_ok ?_
                          conv => whnf
                          refine Tri.cond _ rfl (fun h6 => ?_) (fun h6 => ?_)
                          · refine Tri.region ti_ok ?_
                            conv => whnf
                            refine ⟨fun h => h, ?_⟩
                            conv => whnf
                            refine ⟨rfl, ?_⟩
                            conv => whnf
                            refine ⟨fun h => h, ?_⟩
                            conv => whnf
                            refine ⟨rfl, ?_⟩
                            conv => whnf
                            refine ⟨fun h => h, ?_⟩
                            conv => whnf
                            refine ⟨fun h => h, ?_⟩
                            conv => whnf
                            refine ⟨fun h0 h => by first | exact h | (rw [h]; rfl) | (rw [h0, h]; rfl), ?_⟩
                            conv => whnf
                            refine Tri.seq ?_
                            refine Tri.region ti_ok ?_
                            conv => whnf
                            refine Tri.cond _ rfl (fun hc => ?_) (fun hc => ?_)
                            · exfalso
                              have hk : d.kind = 6 := by simpa using h6
                              rcases hF with ⟨e1, e2, e3⟩ | ⟨e1, e2, e3⟩ | ⟨e1, e2, e3, e4⟩ | ⟨e1, e2, j, hj, e3, e4, e5⟩
                              · omega
                              · omega
                              · omega
                              · obtain rfl : j = 3 := by omega
                                simp [fieldDiff] at e5
                                simp [e1, e2] at hc
                                exact e5 hc
                            · refine Tri.skip ?_
                              conv => whnf
                              refine Tri.region ti_ok ?_
                              conv => whnf
                              refine .inl ⟨fun _ => by simp only [InR]; omega, ?_⟩
                              conv => whnf
                              exact ⟨⟨i + 1, hia⟩, [(2, 2), (3, 3), (39, 39)], by show L.length - (i + 1) < L.length - i; omega, ⟨.refl _, .refl _, .refl _, .refl _, .refl _, .refl _, trivial⟩, rfl, rfl, rfl, rfl, rfl, rfl, hent, trivial⟩
                          · refine Tri.seq ?_
                            refine Tri.region ti_ok ?_
                            conv => whnf
                            refine Tri.cond _ rfl (fun h7 => ?_) (fun h7 => ?_)
                            · refine Tri.region ti_ok ?_
                              conv => whnf
                              refine ⟨fun h => h, ?_⟩
                              conv => whnf
                              refine ⟨rfl, ?_⟩
                              conv => whnf
                              refine ⟨fun h => h, ?_⟩
                              conv => whnf
                              refine ⟨rfl, ?_⟩
                              conv => whnf
                              refine ⟨fun h => h, ?_⟩
                              conv => whnf
                              refine ⟨fun h => h, ?_⟩
                              conv => whnf
                              refine ⟨[.sl .none 2 (ra.1.streams.map encS), .sl .none 2 (rb.1.streams.map encS)], _, fun h => F22 ra.1.streams rb.1.streams (by omega) (by omega), ⟨.refl _, .refl _, trivial⟩, ?_⟩
                              conv => whnf
                              refine ⟨fun h => h, ?_⟩
                              conv => whnf
                              refine ⟨fun h0 h => by first | exact h | (rw [h]; rfl) | (rw [h0, h]; rfl), ?_⟩
                              conv => whnf
                              refine Tri.seq ?_
                              refine Tri.region ti_ok ?_
                              conv => whnf
                              refine Tri.cond _ rfl (fun hc => ?_) (fun hc => ?_)
                              · exfalso
                                have hk : d.kind = 7 := by simpa using h7
                                rcases hF with ⟨e1, e2, e3⟩ | ⟨e1, e2, e3⟩ | ⟨e1, e2, e3, e4⟩ | ⟨e1, e2, j, hj, e3, e4, e5⟩
                                · omega
                                · omega
                                · omega
                                · obtain rfl : j = 4 := by omega
                                  simp [fieldDiff] at e5
                                  simp [e1, e2] at hc
                                  exact e5 hc
                              · refine Tri.skip ?_
                                conv => whnf
                                refine Tri.region ti_ok ?_
                                conv => whnf
                                refine .inl ⟨fun _ => by simp only [InR]; omega, ?_⟩
                                conv => whnf
                                exact ⟨⟨i + 1, hia⟩, [(2, 2), (3, 3), (39, 39)], by show L.length - (i + 1) < L.length - i; omega, ⟨.refl _, .refl _, .refl _, .refl _, .refl _, .refl _, trivial⟩, rfl, rfl, rfl, rfl, rfl, rfl, hent, trivial⟩
                            · exfalso
                              simp only [beq_eq_false_iff_ne] at h0 h1 h2 h3 h4 h5 h6 h7
                              rcases hF with ⟨e1, e2, e3⟩ | ⟨e1, e2, e3⟩ | ⟨e1, e2, e3, e4⟩ | ⟨e1, e2, j, hj, e3, e4, e5⟩ <;> omega
        · refine Tri.exit ?_
          conv => whnf
          refine Tri.seq ?_
          refine Tri.region ti_ok ?_
          conv => whnf
          refine Tri.ret ?_
          conv => whnf
          exact .refl _
end Go.Tame.V
