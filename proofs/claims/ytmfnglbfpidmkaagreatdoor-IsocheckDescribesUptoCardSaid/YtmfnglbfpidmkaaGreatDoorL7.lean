/- A program logic of my own over the model, and contracts of this program's functions by it: part 7. No conditions of its own: each theorem states its own. -/
import Derived.Test.YtmfnglbfpidmkaaGreatDoorL6
import Derived.Test.YtmfnglbfpidmkaaGreatDoorShelf
import Derived.Lib.ItoaLen
import Derived.Test.YtmfnglbfpidmkaaGreatDoorCards
import Derived.Test.YtmfnglbfpidmkaaGreatDoorTie
import Derived.ProofKit
import Derived.OpenShut
import Derived.Deep.DeepHandedRow
import Derived.Lib.LaidTab
import Derived.Lib.LaidU8
import Derived.Stop.LaidErr
import Derived.BigQuiet
import Derived.Lib.Builder
import Derived.Lib.UnsafeStr
import Derived.Laws.Externs
import Derived.WalkKit
import Derived.Lib.AtoiErrMem
import Derived.Lib.ItoaMem
set_option linter.unnecessarySimpa false
set_option linter.unusedSimpArgs false
set_option linter.unusedVariables false
/- Chapter 30 (seat r7): what the library's start-up has laid; contracts of the library. -/
namespace Go.Tame.V
open Go Go.Proofs Go.RowKit
variable {W0 : World}
set_option maxRecDepth 10000
set_option linter.unusedVariables false

/-- What the library's start-up has laid. -/
structure LibOk (W0 : World) : Prop where
  pow10 : Lib.TabIs Tryz.prog W0 "internal/strconv.uint64pow10" .u64 Lib.pow10Tab
  maxlen : ∃ m, W0.cell? ⟨1, 0, none⟩ = some (.int .i64 m)
theorem cell_base {w : World} (hb : Base W0 w) {a : Addr} {v : Value} (h : W0.cell? a = some v) : w.cell? a = some v := by
  have hlt : a.block < W0.heap.size := by
    simp only [World.cell?] at h
    rcases Nat.lt_or_ge a.block W0.heap.size with h1 | h1
    · exact h1
    · rw [Array.getElem?_eq_none h1] at h; cases h
  rw [← h]; simp only [World.cell?, hb.block _ hlt]

theorem callable {f : FuncId} {fn : Func} (h : Tryz.prog.funcs[f]? = some fn) (hb : fn.body.isSome = true) (hn : (fn.name == "runtime.NumGoroutine") = false) : Callable Tryz.prog f := ⟨fn, h, hb, hn⟩
theorem below_grow (w : World) (k : Nat) (os : Array Obj) : Below w.heap.size w (Sort.grow (w.drewN k) os) :=
  ⟨rfl, rfl, rfl, by simp [Sort.grow, World.drewN], fun b hb => by simp only [Sort.grow, World.drewN]; exact Array.getElem?_append_left hb⟩
theorem tab_base {w : World} (hb : Base W0 w) {nm : String} {k : IntKind} {zs : List Int} (h : Lib.TabIs Tryz.prog W0 nm k zs) : Lib.TabIs Tryz.prog w nm k zs := by
  unfold Lib.TabIs World.var? at h ⊢
  cases hg : Tryz.prog.globalNamed nm with
  | none => rw [hg] at h; cases h
  | some g =>
    rw [hg] at h
    simp only [Option.bind_some] at h ⊢
    have hlt : g < W0.heap.size := by
      rcases Nat.lt_or_ge g W0.heap.size with h1 | h1
      · exact h1
      · rw [Array.getElem?_eq_none h1] at h; cases h
    rw [hb.block _ hlt]; exact h
theorem Q12 (hL : LibOk W0) (n : Int) (h0 : -9223372036854775808 ≤ n) (h1 : n ≤ 9223372036854775807) : DFun Tryz.prog W0 12 [.int .i64 n] (.str (Lib.itoa n)) :=
  .lift (callable Tryz.func12 rfl (by decide +kernel)) rfl fun w hb => (Tryz.strconv_Itoa n h0 h1 w (tab_base hb hL.pow10)).mono fun e w' ⟨he, k, os, hw⟩ =>
    ⟨_, he, fun C => .str _, by subst hw; exact below_grow _ _ _⟩
def u8i (n : Int) : UInt8 := UInt8.ofNat n.toNat
theorem u8_row (l : List Int) (h : ∀ n ∈ l, 0 ≤ n ∧ n ≤ 255) : l.map (D.int .u8) = (l.map u8i).map fun c => D.int .u8 c.toNat := by
  rw [List.map_map]
  refine List.map_congr_left fun n hn => ?_
  obtain ⟨h1, h2⟩ := h n hn
  simp only [Function.comp, u8i]
  congr 1
  have : (UInt8.ofNat n.toNat).toNat = n.toNat := by rw [UInt8.toNat_ofNat']; exact Nat.mod_eq_of_lt (by omega)
  omega
end Go.Tame.V
/- Contracts: words and numbers of findings (chapter 30). By program (mkq1.py, mk.py). -/
namespace Go.Tame.V
open Go Go.Proofs
variable {W0 : World}
set_option maxRecDepth 10000
set_option linter.unusedVariables false
set_option linter.unusedSimpArgs false

def wordsL : List (List UInt8) := [
  [116, 104, 101, 32, 105, 109, 97, 103, 101, 32, 105, 115, 32, 110, 111, 116, 32, 118, 97, 108, 105, 100],
  [116, 104, 101, 32, 115, 101, 115, 115, 105, 111, 110, 32, 99, 97, 110, 110, 111, 116, 32, 98, 101, 32, 109, 111, 117, 110, 116, 101, 100],
  [98, 111, 116, 104, 32, 98, 121, 116, 101, 32, 111, 114, 100, 101, 114, 115, 32, 100, 105, 102, 102, 101, 114],
  [116, 104, 101, 32, 118, 111, 108, 117, 109, 101, 32, 115, 112, 97, 99, 101, 32, 100, 111, 101, 115, 32, 110, 111, 116, 32, 101, 110, 100, 32, 119, 105, 116, 104, 32, 116, 104, 101, 32, 115, 101, 115, 115, 105, 111, 110],
  [116, 104, 101, 32, 112, 97, 116, 104, 32, 116, 97, 98, 108, 101, 32, 105, 115, 32, 110, 111, 116, 32, 118, 97, 108, 105, 100],
  [116, 104, 101, 32, 112, 97, 116, 104, 32, 116, 97, 98, 108, 101, 115, 32, 100, 105, 102, 102, 101, 114],
  [116, 104, 101, 32, 100, 105, 114, 101, 99, 116, 111, 114, 121, 32, 99, 97, 110, 110, 111, 116, 32, 98, 101, 32, 114, 101, 97, 100],
  [116, 104, 101, 32, 114, 101, 99, 111, 114, 100, 32, 105, 115, 32, 111, 110, 101, 32, 111, 102, 32, 97, 110, 111, 116, 104, 101, 114, 32, 118, 111, 108, 117, 109, 101],
  [116, 104, 101, 32, 114, 101, 99, 111, 114, 100, 32, 105, 115, 32, 110, 111, 116, 32, 105, 110, 32, 105, 116, 115, 32, 112, 108, 97, 99, 101],
  [116, 104, 101, 32, 114, 101, 99, 111, 114, 100, 32, 100, 111, 101, 115, 32, 110, 111, 116, 32, 108, 101, 97, 100, 32, 116, 111, 32, 105, 116, 115, 32, 100, 105, 114, 101, 99, 116, 111, 114, 121],
  [116, 104, 101, 32, 114, 101, 99, 111, 114, 100, 32, 100, 111, 101, 115, 32, 110, 111, 116, 32, 108, 101, 97, 100, 32, 116, 111, 32, 116, 104, 101, 32, 112, 97, 114, 101, 110, 116],
  [116, 104, 101, 32, 101, 120, 116, 101, 110, 116, 32, 101, 110, 100, 115, 32, 98, 101, 104, 105, 110, 100, 32, 116, 104, 101, 32, 115, 101, 115, 115, 105, 111, 110],
  [116, 104, 101, 32, 101, 110, 116, 114, 105, 101, 115, 32, 99, 97, 110, 110, 111, 116, 32, 98, 101, 32, 114, 101, 97, 100],
  [116, 104, 101, 32, 114, 101, 108, 111, 99, 97, 116, 101, 100, 32, 100, 105, 114, 101, 99, 116, 111, 114, 121, 32, 100, 111, 101, 115, 32, 110, 111, 116, 32, 108, 101, 97, 100, 32, 98, 97, 99, 107],
  [116, 104, 101, 32, 100, 105, 114, 101, 99, 116, 111, 114, 121, 32, 105, 115, 32, 109, 105, 115, 115, 105, 110, 103, 32, 105, 110, 32, 116, 104, 101, 32, 112, 97, 116, 104, 32, 116, 97, 98, 108, 101],
  [116, 104, 101, 32, 112, 97, 116, 104, 32, 116, 97, 98, 108, 101, 32, 104, 97, 115, 32, 109, 111, 114, 101, 32, 101, 110, 116, 114, 105, 101, 115, 32, 116, 104, 97, 110, 32, 116, 104, 101, 114, 101, 32, 97, 114, 101, 32, 100, 105, 114, 101, 99, 116, 111, 114, 105, 101, 115],
  [116, 104, 101, 32, 101, 120, 116, 101, 110, 116, 32, 111, 118, 101, 114, 108, 97, 112, 115, 32, 111, 110, 101, 32, 98, 101, 102, 111, 114, 101, 32, 105, 116]]
def wordV (n : Int) : List UInt8 := if 1 ≤ n ∧ n ≤ 17 then wordsL.getD (n - 1).toNat [] else []
theorem words_len : wordsL.length = 17 := rfl
theorem keys_nil : ∀ x ∈ ([] : List (D × D)), keyD (.int .i64) x.1 = true := fun x h => by cases h
theorem keys_set {kvs : List (D × D)} {n : Int} {d : D} (h : ∀ x ∈ kvs, keyD (.int .i64) x.1 = true) : ∀ x ∈ mset kvs (.int .i64 n) d, keyD (.int .i64) x.1 = true := by
  intro x hx
  unfold mset at hx
  split at hx
  · obtain ⟨y, hy, rfl⟩ := List.mem_map.1 hx
    split
    · exact h y hy
    · exact h y hy
  · rcases List.mem_append.1 hx with h1 | h1
    · exact h x h1
    · rw [List.mem_singleton.1 h1]; rfl
def wm : Nat → List (D × D)
  | 0 => []
  | n + 1 => mset (wm n) (.int .i64 ((n : Nat) + 1)) (.str (wordsL.getD n []))
theorem wm_keys : ∀ m, ∀ x ∈ wm m, keyD (.int .i64) x.1 = true
  | 0 => keys_nil
  | m + 1 => keys_set (wm_keys m)
theorem wm_range : ∀ m, ∀ x ∈ wm m, ∃ j : Nat, 1 ≤ j ∧ j ≤ m ∧ x.1 = .int .i64 j
  | 0, x, h => by cases h
  | m + 1, x, h => by
    have h : x ∈ mset (wm m) (.int .i64 ((m : Nat) + 1)) (.str (wordsL.getD m [])) := h
    unfold mset at h
    split at h
    · obtain ⟨y, hy, rfl⟩ := List.mem_map.1 h
      obtain ⟨j, h1, h2, h3⟩ := wm_range m y hy
      exact ⟨j, h1, by omega, by split <;> exact h3⟩
    · rcases List.mem_append.1 h with h1 | h1
      · obtain ⟨j, h2, h3, h4⟩ := wm_range m x h1
        exact ⟨j, h2, by omega, h4⟩
      · rw [List.mem_singleton.1 h1]
        exact ⟨m + 1, by omega, by omega, by simp⟩
theorem wm_hit (n : Int) (h1 : 1 ≤ n) (h2 : n ≤ 17) : mget (wm 17) (.int .i64 n) = some (.str (wordV n)) := by
  obtain ⟨m, rfl⟩ : ∃ m : Nat, n = m := ⟨n.toNat, by omega⟩
  have : m = 1 ∨ m = 2 ∨ m = 3 ∨ m = 4 ∨ m = 5 ∨ m = 6 ∨ m = 7 ∨ m = 8 ∨ m = 9 ∨ m = 10 ∨ m = 11 ∨ m = 12 ∨ m = 13 ∨ m = 14 ∨ m = 15 ∨ m = 16 ∨ m = 17 := by omega
  rcases this with rfl | rfl | rfl | rfl | rfl | rfl | rfl | rfl | rfl | rfl | rfl | rfl | rfl | rfl | rfl | rfl | rfl <;> rfl
theorem wm_miss (n : Int) (h : ¬ (1 ≤ n ∧ n ≤ 17)) : mget (wm 17) (.int .i64 n) = none := by
  unfold mget
  rw [Option.map_eq_none_iff, List.find?_eq_none]
  intro x hx
  obtain ⟨j, h1, h2, h3⟩ := wm_range 17 x hx
  rw [h3]
  simp only [keyEq, beq_iff_eq]
  omega
theorem words_get {n : Int} (h1 : 1 ≤ n) (h2 : n ≤ 17) : (wordsL.map D.str)[(n - 1).toNat]? = some (.str (wordV n)) := by
  unfold wordV
  rw [if_pos ⟨h1, h2⟩, List.getElem?_map, List.getD_eq_getElem?_getD]
  have : (n - 1).toNat < wordsL.length := by rw [words_len]; omega
  rw [List.getElem?_eq_getElem this]; rfl
theorem word_empty (n : Int) : wordV n = [] ↔ ¬ (1 ≤ n ∧ n ≤ 17) := by
  constructor
  · intro h hn
    obtain ⟨m, rfl⟩ : ∃ m : Nat, n = m := ⟨n.toNat, by omega⟩
    have : m = 1 ∨ m = 2 ∨ m = 3 ∨ m = 4 ∨ m = 5 ∨ m = 6 ∨ m = 7 ∨ m = 8 ∨ m = 9 ∨ m = 10 ∨ m = 11 ∨ m = 12 ∨ m = 13 ∨ m = 14 ∨ m = 15 ∨ m = 16 ∨ m = 17 := by omega
    rcases this with rfl | rfl | rfl | rfl | rfl | rfl | rfl | rfl | rfl | rfl | rfl | rfl | rfl | rfl | rfl | rfl | rfl <;> cases h
  · intro h; unfold wordV; rw [if_neg h]
theorem word_len (n : Int) : (wordV n).length ≤ 100 := by
  by_cases h : 1 ≤ n ∧ n ≤ 17
  · obtain ⟨m, rfl⟩ : ∃ m : Nat, n = m := ⟨n.toNat, by omega⟩
    have : m = 1 ∨ m = 2 ∨ m = 3 ∨ m = 4 ∨ m = 5 ∨ m = 6 ∨ m = 7 ∨ m = 8 ∨ m = 9 ∨ m = 10 ∨ m = 11 ∨ m = 12 ∨ m = 13 ∨ m = 14 ∨ m = 15 ∨ m = 16 ∨ m = 17 := by omega
    rcases this with rfl | rfl | rfl | rfl | rfl | rfl | rfl | rfl | rfl | rfl | rfl | rfl | rfl | rfl | rfl | rfl | rfl <;> decide
  · rw [(word_empty n).2 h]; decide
theorem digs_len {k : Nat} (h : (k : Int) ≤ 9223372036854775807) : (Lib.decDigits k).length ≤ 21 := by
  have := Lib.itoa_length_le (k : Int) (by omega) h
  rwa [Lib.itoa_nonneg] at this
theorem min_itoa : Lib.itoa (-9223372036854775808) = [45, 57, 50, 50, 51, 51, 55, 50, 48, 51, 54, 56, 53, 52, 55, 55, 53, 56, 48, 56] := by
  rw [show (-9223372036854775808 : Int) = -((9223372036854775808 : Nat) : Int) by rfl, Lib.itoa_neg _ (by decide)]
  repeat (rw [Lib.decDigits.eq_1]; first | rw [dif_neg (by decide)] | rw [dif_pos (by decide)])
  rfl
def descV (c b q : Int) : List UInt8 := if wordV c = [] then [] else [98, 108, 111, 99, 107, 32] ++ Lib.itoa b ++ [44, 32, 111, 102, 102, 115, 101, 116, 32] ++ Lib.itoa q ++ [58, 32] ++ wordV c
def I64 (n : Int) : Prop := -9223372036854775808 ≤ n ∧ n ≤ 9223372036854775807

theorem Q11 (n : Int) : DFun Tryz.prog W0 11 [.int .i64 n] (.str (wordV n)) := by
  refine DFun.intro ti_ok Tryz.func11 rfl (by decide +kernel) Tryz.ntmps11 rfl fun Γ => ?_
  refine Tri.seq ?_
  refine Tri.region ti_ok ?_
  conv => whnf
  refine Tri.seq ?_
  refine Tri.regionM ti_ok 21 ?_
  conv => whnf
  refine ⟨rfl, rfl, .inr (XOp.mpMake fun bm => ?_)⟩
  conv => whnf
  refine ⟨rfl, rfl, .inr (XOp.ins (XOp.mpPut 3 (kt := 3) (et := 9) rfl rfl rfl rfl rfl rfl (wm_keys 0) ?_))⟩
  conv => whnf
  refine ⟨rfl, rfl, .inr (XOp.ins (XOp.mpPut 3 (kt := 3) (et := 9) rfl rfl rfl rfl rfl rfl (wm_keys 1) ?_))⟩
  conv => whnf
  refine ⟨rfl, rfl, .inr (XOp.ins (XOp.mpPut 3 (kt := 3) (et := 9) rfl rfl rfl rfl rfl rfl (wm_keys 2) ?_))⟩
  conv => whnf
  refine ⟨rfl, rfl, .inr (XOp.ins (XOp.mpPut 3 (kt := 3) (et := 9) rfl rfl rfl rfl rfl rfl (wm_keys 3) ?_))⟩
  conv => whnf
  refine ⟨rfl, rfl, .inr (XOp.ins (XOp.mpPut 3 (kt := 3) (et := 9) rfl rfl rfl rfl rfl rfl (wm_keys 4) ?_))⟩
  conv => whnf
  refine ⟨rfl, rfl, .inr (XOp.ins (XOp.mpPut 3 (kt := 3) (et := 9) rfl rfl rfl rfl rfl rfl (wm_keys 5) ?_))⟩
  conv => whnf
  refine ⟨rfl, rfl, .inr (XOp.ins (XOp.mpPut 3 (kt := 3) (et := 9) rfl rfl rfl rfl rfl rfl (wm_keys 6) ?_))⟩
  conv => whnf
  refine ⟨rfl, rfl, .inr (XOp.ins (XOp.mpPut 3 (kt := 3) (et := 9) rfl rfl rfl rfl rfl rfl (wm_keys 7) ?_))⟩
  conv => whnf
  refine ⟨rfl, rfl, .inr (XOp.ins (XOp.mpPut 3 (kt := 3) (et := 9) rfl rfl rfl rfl rfl rfl (wm_keys 8) ?_))⟩
  conv => whnf
  refine ⟨rfl, rfl, .inr (XOp.ins (XOp.mpPut 3 (kt := 3) (et := 9) rfl rfl rfl rfl rfl rfl (wm_keys 9) ?_))⟩
  conv => whnf
  refine ⟨rfl, rfl, .inr (XOp.ins (XOp.mpPut 3 (kt := 3) (et := 9) rfl rfl rfl rfl rfl rfl (wm_keys 10) ?_))⟩
  conv => whnf
  refine ⟨rfl, rfl, .inr (XOp.ins (XOp.mpPut 3 (kt := 3) (et := 9) rfl rfl rfl rfl rfl rfl (wm_keys 11) ?_))⟩
  conv => whnf
  refine ⟨rfl, rfl, .inr (XOp.ins (XOp.mpPut 3 (kt := 3) (et := 9) rfl rfl rfl rfl rfl rfl (wm_keys 12) ?_))⟩
  conv => whnf
  refine ⟨rfl, rfl, .inr (XOp.ins (XOp.mpPut 3 (kt := 3) (et := 9) rfl rfl rfl rfl rfl rfl (wm_keys 13) ?_))⟩
  conv => whnf
  refine ⟨rfl, rfl, .inr (XOp.ins (XOp.mpPut 3 (kt := 3) (et := 9) rfl rfl rfl rfl rfl rfl (wm_keys 14) ?_))⟩
  conv => whnf
  refine ⟨rfl, rfl, .inr (XOp.ins (XOp.mpPut 3 (kt := 3) (et := 9) rfl rfl rfl rfl rfl rfl (wm_keys 15) ?_))⟩
  conv => whnf
  refine ⟨rfl, rfl, .inr (XOp.ins (XOp.mpPut 3 (kt := 3) (et := 9) rfl rfl rfl rfl rfl rfl (wm_keys 16) ?_))⟩
  conv => whnf
  refine ⟨rfl, rfl, .inl ?_⟩
  conv => whnf
  refine ⟨rfl, rfl, .inl ?_⟩
  conv => whnf
  by_cases hn : 1 ≤ n ∧ n ≤ 17
  · refine ⟨rfl, rfl, .inr (XOp.mpHit 3 (kt := 3) (et := 9) (k := .int .i64 n) (d := .str (wordV n)) rfl rfl rfl rfl rfl rfl (wm_keys 17) (wm_hit n hn.1 hn.2) ?_)⟩
    conv => whnf
    refine Tri.ret ?_
    conv => whnf
    exact DLe.of_eq rfl
  · refine ⟨rfl, rfl, .inr (XOp.mpMiss 3 (kt := 3) (et := 9) (k := .int .i64 n) (z := .str []) (zv := .string ⟨#[]⟩) rfl rfl rfl rfl rfl rfl (wm_keys 17) (wm_miss n hn) (fun w => by kernel_rfl) (fun w C => .str _) ?_)⟩
    conv => whnf
    refine Tri.ret ?_
    conv => whnf
    exact DLe.of_eq (congrArg D.str ((word_empty n).2 hn).symm)
theorem Q13 (n : Int) : DFun Tryz.prog W0 13 [.int .i64 n] (.str (wordV n)) := by
  refine DFun.intro ti_ok Tryz.func13 rfl (by decide +kernel) Tryz.ntmps13 rfl fun Γ => ?_
  refine Tri.seq ?_
  refine Tri.region ti_ok ?_
  conv => whnf
  refine Tri.seq ?_
  refine Tri.region ti_ok ?_
  conv => whnf
  refine ⟨trivial, ?_⟩
  conv => whnf
  refine Tri.seq ?_
  refine Tri.seq ?_
  refine Tri.region ti_ok ?_
  conv => whnf
  refine ⟨fun h => h, ?_⟩
  conv => whnf
  refine ⟨fun h => h, ?_⟩
  conv => whnf
  refine ⟨fun h => h, ?_⟩
  conv => whnf
  refine ⟨fun h0 h => by first | exact h | (rw [h]; rfl) | (rw [h0, h]; rfl), ?_⟩
  conv => whnf
  refine Tri.cond _ rfl (fun hc => ?_) (fun hc => ?_)
  · refine Tri.seq ?_
    have hn : ¬ (1 ≤ n ∧ n ≤ 17) := by simp at hc; omega
    refine Tri.region ti_ok ?_
    conv => whnf
    refine Tri.ret ?_
    conv => whnf
    exact DLe.of_eq (congrArg D.str ((word_empty n).2 hn).symm)
  · refine Tri.skip ?_
    have hn : 1 ≤ n ∧ n ≤ 17 := by simp at hc; omega
    conv => whnf
    refine Tri.seq ?_
    refine Tri.region ti_ok ?_
    conv => whnf
    refine .inl ⟨fun _ => by simp only [InR]; omega, ?_⟩
    conv => whnf
    refine ⟨fun _ => by simp; omega, ?_⟩
    conv => whnf
    refine ⟨.str (wordV n), fun _ => words_get hn.1 hn.2, ?_⟩
    conv => whnf
    refine Tri.ret ?_
    conv => whnf
    exact DLe.of_eq rfl
theorem Q38k (k : Nat) (hk : (k : Int) ≤ 9223372036854775807) (ih : ∀ j : Nat, j < k → DFun Tryz.prog W0 38 [.int .i64 (j : Nat)] (.str (Lib.decDigits j))) : DFun Tryz.prog W0 38 [.int .i64 (k : Nat)] (.str (Lib.decDigits k)) := by
  refine DFun.intro ti_ok Tryz.func38 rfl (by decide +kernel) Tryz.ntmps38 rfl fun Γ => ?_
  refine Tri.seq ?_
  refine Tri.region ti_ok ?_
  conv => whnf
  refine Tri.seq ?_
  refine Tri.seq ?_
  refine Tri.region ti_ok ?_
  conv => whnf
  refine Tri.cond _ rfl (fun hc => ?_) (fun hc => ?_)
  · refine Tri.seq ?_
    exfalso
    simp at hc; omega
  · refine Tri.skip ?_
    conv => whnf
    refine Tri.seq ?_
    refine Tri.seq ?_
    refine Tri.region ti_ok ?_
    conv => whnf
    refine Tri.cond _ rfl (fun hc => ?_) (fun hc => ?_)
    · refine Tri.seq ?_
      refine Tri.regionX ti_ok ?_
      conv => whnf
      refine .inl ⟨fun _ => by simp at hc; simp only [InR]; omega, ?_⟩
      conv => whnf
      refine .inl ?_
      conv => whnf
      refine .inl ⟨by simp at hc; simp only [InR]; omega, ?_⟩
      conv => whnf
      refine ⟨trivial, ?_⟩
      conv => whnf
      refine .inr (XOp.bytesStr ti_ok (bs := [u8i (48 + (k : Nat))]) (tg := .full) rfl rfl rfl rfl rfl rfl (congrArg (D.sl .full 1) (u8_row [48 + (k : Nat)] (by simp at hc ⊢; omega))) ?_)
      conv => whnf
      refine Tri.ret ?_
      conv => whnf
      have hk10 : k < 10 := by simp at hc; omega
      refine DLe.of_eq (congrArg D.str ?_)
      rw [Lib.decDigits, dif_pos hk10]
      rfl
    · refine Tri.skip ?_
      conv => whnf
      refine Tri.seq ?_
      refine Tri.region ti_ok ?_
      have hk10 : 10 ≤ k := by simp at hc; omega
      conv => whnf
      refine ⟨fun _ => by omega, ?_⟩
      conv => whnf
      refine .inl ⟨fun _ => by rw [Int.tdiv_eq_ediv_of_nonneg (by omega)]; simp only [InR]; omega, ?_⟩
      conv => whnf
      refine ⟨[.int .i64 ((k / 10 : Nat) : Int)], _, fun _ => ih (k / 10) (by omega), ⟨DLe.of_eq (congrArg (D.int .i64) (by rw [Int.tdiv_eq_ediv_of_nonneg (by omega)]; omega)), trivial⟩, ?_⟩
      conv => whnf
      refine ⟨fun _ => by omega, ?_⟩
      conv => whnf
      refine ⟨[.int .i64 ((k % 10 : Nat) : Int)], _, fun _ => ih (k % 10) (by omega), ⟨DLe.of_eq (congrArg (D.int .i64) (by rw [Int.tmod_eq_emod_of_nonneg (by omega)]; omega)), trivial⟩, ?_⟩
      conv => whnf
      refine ⟨fun _ => by have := digs_len (k := k / 10) (by omega); have := digs_len (k := k % 10) (by omega); omega, ?_⟩
      conv => whnf
      refine Tri.ret ?_
      conv => whnf
      refine DLe.of_eq (congrArg D.str ?_)
      rw [Lib.decDigits.eq_1 (k % 10), dif_pos (by omega), Lib.decDigits.eq_1 k, dif_neg (by omega)]
theorem Q38p (k : Nat) (hk : (k : Int) ≤ 9223372036854775807) : DFun Tryz.prog W0 38 [.int .i64 (k : Nat)] (.str (Lib.decDigits k)) := by
  induction k using Nat.strongRecOn with
  | _ k ih => exact Q38k k hk fun j hj => ih j hj (by omega)
theorem Q38n (n : Int) (h0 : -9223372036854775808 < n) (hn : n < 0) : DFun Tryz.prog W0 38 [.int .i64 n] (.str (Lib.itoa n)) := by
  refine DFun.intro ti_ok Tryz.func38 rfl (by decide +kernel) Tryz.ntmps38 rfl fun Γ => ?_
  refine Tri.seq ?_
  refine Tri.region ti_ok ?_
  conv => whnf
  refine Tri.seq ?_
  refine Tri.seq ?_
  refine Tri.region ti_ok ?_
  conv => whnf
  refine Tri.cond _ rfl (fun hc => ?_) (fun hc => ?_)
  · refine Tri.seq ?_
    refine Tri.region ti_ok ?_
    conv => whnf
    refine .inl ⟨fun _ => by simp only [InR]; omega, ?_⟩
    conv => whnf
    refine ⟨[.int .i64 ((n.natAbs : Nat) : Int)], _, fun _ => Q38p n.natAbs (by omega), ⟨DLe.of_eq (congrArg (D.int .i64) (by omega)), trivial⟩, ?_⟩
    conv => whnf
    refine ⟨fun _ => by have := digs_len (k := n.natAbs) (by omega); simp; omega, ?_⟩
    conv => whnf
    refine Tri.ret ?_
    conv => whnf
    refine DLe.of_eq (congrArg D.str ?_)
    unfold Lib.itoa
    rw [if_pos hn]; rfl
  · · exfalso
      simp at hc; omega
theorem Q38 (n : Int) (h0 : -9223372036854775808 < n) (h1 : n ≤ 9223372036854775807) : DFun Tryz.prog W0 38 [.int .i64 n] (.str (Lib.itoa n)) := by
  by_cases hn : n < 0
  · exact Q38n n h0 hn
  · obtain ⟨m, rfl⟩ : ∃ m : Nat, n = m := ⟨n.toNat, by omega⟩
    rw [Lib.itoa_nonneg]; exact Q38p m h1
theorem Q14 (n : Int) (hn : I64 n) : DFun Tryz.prog W0 14 [.int .i64 n] (.str (Lib.itoa n)) := by
  refine DFun.intro ti_ok Tryz.func14 rfl (by decide +kernel) Tryz.ntmps14 rfl fun Γ => ?_
  refine Tri.seq ?_
  refine Tri.region ti_ok ?_
  conv => whnf
  refine Tri.seq ?_
  refine Tri.seq ?_
  refine Tri.region ti_ok ?_
  conv => whnf
  refine Tri.cond _ rfl (fun hc => ?_) (fun hc => ?_)
  · refine Tri.seq ?_
    refine Tri.region ti_ok ?_
    conv => whnf
    refine Tri.ret ?_
    conv => whnf
    have e : n = -9223372036854775808 := by simpa using hc
    subst e
    exact DLe.of_eq (congrArg D.str min_itoa.symm)
  · refine Tri.skip ?_
    have e : n ≠ -9223372036854775808 := by simpa using hc
    conv => whnf
    refine Tri.seq ?_
    refine Tri.region ti_ok ?_
    conv => whnf
    refine ⟨[.int .i64 n], _, fun _ => Q38 n (by have := hn.1; omega) hn.2, ⟨.refl _, trivial⟩, ?_⟩
    conv => whnf
    refine Tri.ret ?_
    conv => whnf
    exact DLe.of_eq rfl
def finD (c b q : Int) : D := .agg [.int .i64 c, .int .i64 b, .int .i64 q]
theorem itoa_len {n : Int} (h : I64 n) : (Lib.itoa n).length ≤ 21 := Lib.itoa_length_le n h.1 h.2
theorem Q5 (hL : LibOk W0) (c b q : Int) (hb : I64 b) (hq : I64 q) : DFun Tryz.prog W0 5 [finD c b q] (.str (descV c b q)) := by
  refine DFun.intro ti_ok Tryz.func5 rfl (by decide +kernel) Tryz.ntmps5 rfl fun Γ => ?_
  refine Tri.seq ?_
  refine Tri.region ti_ok ?_
  conv => whnf
  intro bx
  conv => whnf
  refine Tri.seq ?_
  refine Tri.region ti_ok ?_
  conv => whnf
  refine ⟨rfl, ?_⟩
  conv => whnf
  refine ⟨[.int .i64 c], _, fun _ => Q11 c, ⟨.refl _, trivial⟩, ?_⟩
  conv => whnf
  refine Tri.seq ?_
  refine Tri.seq ?_
  refine Tri.region ti_ok ?_
  conv => whnf
  refine Tri.cond _ rfl (fun hc => ?_) (fun hc => ?_)
  · have hw : wordV c = [] := by simpa using hc
    refine Tri.seq ?_
    refine Tri.region ti_ok ?_
    conv => whnf
    refine Tri.ret ?_
    conv => whnf
    exact DLe.of_eq (congrArg D.str (by unfold descV; rw [if_pos hw]))
  · have hw : wordV c ≠ [] := by simpa using hc
    have l1 := itoa_len hb
    have l2 := itoa_len hq
    have l3 := word_len c
    refine Tri.skip ?_
    conv => whnf
    refine Tri.seq ?_
    refine Tri.draw ti_ok mixed (by kernel_rfl) ?_
    conv => whnf
    refine ⟨rfl, ?_⟩
    conv => whnf
    refine ⟨[.int .i64 b], _, fun _ => Q12 hL b hb.1 hb.2, ⟨.refl _, trivial⟩, ?_⟩
    conv => whnf
    refine ⟨fun _ => by simp; omega, ?_⟩
    conv => whnf
    refine ⟨fun _ => by simp; omega, ?_⟩
    conv => whnf
    refine ⟨rfl, ?_⟩
    conv => whnf
    refine ⟨[.int .i64 q], _, fun _ => Q12 hL q hq.1 hq.2, ⟨.refl _, trivial⟩, ?_⟩
    conv => whnf
    refine ⟨fun _ => by simp; omega, ?_⟩
    conv => whnf
    refine ⟨fun _ => by simp; omega, ?_⟩
    conv => whnf
    refine ⟨fun _ => by simp; omega, ?_⟩
    conv => whnf
    refine Tri.ret ?_
    conv => whnf
    exact DLe.of_eq (congrArg D.str (by unfold descV; rw [if_neg hw]))
theorem Q6 (c b q : Int) (hb : I64 b) (hq : I64 q) : DFun Tryz.prog W0 6 [finD c b q] (.str (descV c b q)) := by
  refine DFun.intro ti_ok Tryz.func6 rfl (by decide +kernel) Tryz.ntmps6 rfl fun Γ => ?_
  refine Tri.seq ?_
  refine Tri.region ti_ok ?_
  conv => whnf
  intro bx
  conv => whnf
  refine Tri.seq ?_
  refine Tri.seq ?_
  refine Tri.region ti_ok ?_
  conv => whnf
  refine ⟨rfl, ?_⟩
  conv => whnf
  refine ⟨[.int .i64 c], _, fun _ => Q13 c, ⟨.refl _, trivial⟩, ?_⟩
  conv => whnf
  refine Tri.cond _ rfl (fun hc => ?_) (fun hc => ?_)
  · have hw : wordV c = [] := by simpa using hc
    refine Tri.seq ?_
    refine Tri.region ti_ok ?_
    conv => whnf
    refine Tri.ret ?_
    conv => whnf
    exact DLe.of_eq (congrArg D.str (by unfold descV; rw [if_pos hw]))
  · have hw : wordV c ≠ [] := by simpa using hc
    have l1 := itoa_len hb
    have l2 := itoa_len hq
    have l3 := word_len c
    refine Tri.skip ?_
    conv => whnf
    refine Tri.seq ?_
    refine Tri.draw ti_ok mixed (by kernel_rfl) ?_
    conv => whnf
    refine ⟨rfl, ?_⟩
    conv => whnf
    refine ⟨[.int .i64 b], _, fun _ => Q14 b hb, ⟨.refl _, trivial⟩, ?_⟩
    conv => whnf
    refine ⟨fun _ => by simp; omega, ?_⟩
    conv => whnf
    refine ⟨fun _ => by simp; omega, ?_⟩
    conv => whnf
    refine ⟨rfl, ?_⟩
    conv => whnf
    refine ⟨[.int .i64 q], _, fun _ => Q14 q hq, ⟨.refl _, trivial⟩, ?_⟩
    conv => whnf
    refine ⟨fun _ => by simp; omega, ?_⟩
    conv => whnf
    refine ⟨fun _ => by simp; omega, ?_⟩
    conv => whnf
    refine ⟨rfl, ?_⟩
    conv => whnf
    refine ⟨[.int .i64 c], _, fun _ => Q13 c, ⟨.refl _, trivial⟩, ?_⟩
    conv => whnf
    refine ⟨fun _ => by simp; omega, ?_⟩
    conv => whnf
    refine Tri.ret ?_
    conv => whnf
    exact DLe.of_eq (congrArg D.str (by unfold descV; rw [if_neg hw]))
theorem Q3 (hA : DFun Tryz.prog W0 4 [] (.bool true)) (hL : LibOk W0) (c b q : Int) (hb : I64 b) (hq : I64 q) : DFun Tryz.prog W0 3 [finD c b q] (.bool true) := by
  refine DFun.intro ti_ok Tryz.func3 rfl (by decide +kernel) Tryz.ntmps3 rfl fun Γ => ?_
  refine Tri.seq ?_
  refine Tri.region ti_ok ?_
  conv => whnf
  intro bx
  conv => whnf
  refine Tri.seq ?_
  refine Tri.seq ?_
  refine Tri.region ti_ok ?_
  conv => whnf
  refine ⟨[], _, fun _ => hA, trivial, ?_⟩
  conv => whnf
  refine Tri.cond _ rfl (fun hc => ?_) (fun hc => ?_)
  · refine Tri.seq ?_
    exfalso
    simp at hc
  · refine Tri.skip ?_
    conv => whnf
    refine Tri.seq ?_
    refine Tri.draw ti_ok mixed (by kernel_rfl) ?_
    conv => whnf
    refine ⟨rfl, ?_⟩
    conv => whnf
    refine ⟨[finD c b q], _, fun _ => Q5 hL c b q hb hq, ⟨.refl _, trivial⟩, ?_⟩
    conv => whnf
    refine ⟨rfl, ?_⟩
    conv => whnf
    refine ⟨[finD c b q], _, fun _ => Q6 c b q hb hq, ⟨.refl _, trivial⟩, ?_⟩
    conv => whnf
    refine Tri.ret ?_
    conv => whnf
    exact DLe.of_eq (congrArg D.bool (beq_self_eq_true (descV c b q)))
end Go.Tame.V
/- The readings of this seat's argument (a finding), by value; what is laid. -/
namespace Go.Tame.V
open Go Go.Proofs Go.RowKit Go.ChangeShapes Go.Deep Go.WideShapes Go.ChangeAt
set_option maxRecDepth 100000
set_option linter.unusedVariables false
set_option linter.unusedSimpArgs false
set_option linter.unnecessarySimpa false
variable {H : Type} {enc0 : TypeId × Value → H} {W : World}

theorem i64_of {k : Int} (h : (Lit.int .i64 k).wf = true) : I64 k := by
  simp [Lit.wf, IntKind.min, IntKind.max, IntKind.bits, IntKind.signed] at h
  unfold I64
  omega
theorem rd_finding (n : Nat) : Rd enc0 Tryz.prog W n 23 (fun p : Int × Int × Int => finD p.1 p.2.1 p.2.2) (fun p _ => I64 p.2.1 ∧ I64 p.2.2) := by
  intro cs x h
  obtain ⟨xs, m, rfl, hx, hcl, hxl, hf⟩ := trod_fields Tryz.underlying23 (by kernel_rfl) (by kernel_rfl) h
  match cs, hcl, xs, hxl with
  | [c0, c1, c2], _, [y0, y1, y2], _ =>
    obtain ⟨s0, r0, _, _⟩ := Rd.int (enc := enc0) (W := W) (n := m) Tryz.underlying3 [c0] y0 (hf 0 _ c0 y0 rfl rfl rfl)
    obtain ⟨s1, r1, _, w1⟩ := Rd.int (enc := enc0) (W := W) (n := m) Tryz.underlying3 [c1] y1 (hf 1 _ c1 y1 rfl rfl rfl)
    obtain ⟨s2, r2, _, w2⟩ := Rd.int (enc := enc0) (W := W) (n := m) Tryz.underlying3 [c2] y2 (hf 2 _ c2 y2 rfl rfl rfl)
    exact ⟨(s0, s1, s2), .cons r0.head (.cons r1.head (.cons r2.head (.nil _ _))), i64_of w1, i64_of w2⟩
/-- A finding that came in. -/
theorem open_finding {v : Value} {d : DataW H} {p : List MemPlace} {base : Nat} (hv : Value.okWide Tryz.prog W .any base 23 v) (h : DataW.Trod enc0 Tryz.prog W 0 (fun _ => true) true 23 v d p) :
    ∃ c b q : Int, Rep W (allC W) (finD c b q) v ∧ I64 b ∧ I64 q := by
  obtain ⟨fuel, hf⟩ := h
  obtain ⟨cs, rfl, _⟩ := okWide_struct Tryz.underlying23 hv
  obtain ⟨⟨c, b, q⟩, hr, hg⟩ := rd_finding (enc0 := enc0) (W := W) fuel _ _ hf
  obtain ⟨l⟩ := cs
  exact ⟨c, b, q, .agg _ _ hr.1 hr.2, hg⟩

theorem callsTrue {f : Nat} {ds : List D} {args : Array Value} (h : DFun Tryz.prog W f ds (.bool true)) (hr : RepL W (allC W) ds args.toList) :
    Calls Tryz.prog f args W fun e w' => e = .returned (.bool true) ∧ Below W.heap.size W w' := by
  obtain ⟨l⟩ := args
  refine (h.2 W (allC W) l (Below.refl _ _) hr).mono ?_
  rintro e w' ⟨v, C', rfl, hv, hs⟩
  rw [hv.bool_inv]
  exact ⟨rfl, Base.step (Below.refl _ _) hs fun _ h => h.elim⟩

theorem laidOut : laidOutB Tryz.prog = true := by kernel_rfl
theorem stays_all {W' : World} (hb : Below W.heap.size W W') {sp : Nat → Bool} : ∀ {ts : List TypeId} {vs : List Value} {ds : List (DataW H)} {ps : List MemPlace},
    (∀ t ∈ ts, Tryz.prog.readableRec t = true ∧ t < Tryz.prog.types.size) → DataW.TrodAll enc0 Tryz.prog W 0 (fun _ => true) true ts vs ds ps → (∀ x ∈ ps, x.block < W.heap.size) → (∀ x ∈ ps, sp x.block = true) →
    DataW.TrodAll enc0 Tryz.prog W' 0 sp true ts vs ds ps
  | [], [], [], _, _, h, _, _ => h
  | t :: ts, v :: vs, d :: ds, _, ht, ⟨p, q, h1, h2, e⟩, hlt, hsp => by
    subst e
    exact ⟨p, q, stays laidOut (ht t List.mem_cons_self).1 (ht t List.mem_cons_self).2 h1 hb (fun x hx => hlt x (by simp [hx])) sp (fun x hx => hsp x (by simp [hx])),
      stays_all hb (fun t h => ht t (List.mem_cons_of_mem _ h)) h2 (fun x hx => hlt x (by simp [hx])) (fun x hx => hsp x (by simp [hx])), rfl⟩

def laidList : List (String × DataW Unit) := YtmfnglbfpidmkaaGreatDoor.Rows.isocheckDescribesRow.laid
theorem libOk (hL : laidMetH Tryz.prog laidList W) (hsh : W.ShapedOpen Tryz.prog) : LibOk W := by
  have hL' : laidMet Tryz.prog laidList W := hL
  refine ⟨?_, ?_⟩
  · exact Lib.tabIs_of_head (rest := _) (g := 0) (t := 398) (e := 338) (n := 20) (by kernel_rfl) (by kernel_rfl) (by kernel_rfl) (by kernel_rfl) (by kernel_rfl) (by kernel_rfl) hL'.tail.tail
  · obtain ⟨h1, _⟩ := hsh
    obtain ⟨cs, hcs, hsz, hrow⟩ := h1 1 #[.int .i64 0] 3 (by decide +kernel) (by kernel_rfl)
    obtain ⟨ts, hts, _, hcell⟩ := hrow (by kernel_rfl)
    have hts' : ts = [3] := by
      have : Tryz.prog.cellTypes Tryz.prog.depth 3 = some [3] := by kernel_rfl
      exact Option.some.inj (hts.symm.trans this)
    subst hts'
    have h0 : cs[0]? = some (cs[0]'(by rw [hsz]; decide)) := Array.getElem?_eq_getElem _
    obtain ⟨u, hu, hok⟩ := hcell 0 _ h0
    have hu' : u = 3 := by simpa using hu.symm
    subst hu'
    have hc : W.cell? ⟨1, 0, none⟩ = some (cs[0]'(by rw [hsz]; decide)) := by
      simp only [World.cell?, hcs]
      simpa using h0
    generalize cs[0]'(by rw [hsz]; decide) = v at hok hc
    unfold Cell.ok at hok
    rw [Tryz.underlying3] at hok
    cases v with
    | int k n => obtain ⟨rfl, _⟩ := hok; exact ⟨n, hc⟩
    | _ => exact hok.elim

theorem own : ownKnob Tryz.prog.godebug = none := by kernel_rfl

abbrev synS : ByteArray := { data := #[105, 110, 118, 97, 108, 105, 100, 32, 115, 121, 110, 116, 97, 120] }
abbrev rngS : ByteArray := { data := #[118, 97, 108, 117, 101, 32, 111, 117, 116, 32, 111, 102, 32, 114, 97, 110, 103, 101] }
/-- A world that holds what is laid. -/
noncomputable def laidWorld (os : Os) : World :=
  let w0 := World.holding Tryz.prog os ⟨#[.cells #[.string synS] 487, .cells #[.string rngS] 487], #[], []⟩
  let put (h : Array Obj) (g : Nat) (cs : Array Value) : Array Obj := h.modify g fun
    | .cells _ t frozen => .cells cs t frozen
    | o => o
  let h1 := put w0.heap 6 (Lib.firstTab.map fun z => Value.int .u8 z).toArray
  let h2 := put h1 7 ((List.range 16).flatMap fun i => [Value.int .u8 (Lib.accLo i), Value.int .u8 (Lib.accHi i)]).toArray
  let h3 := put h2 0 (Lib.pow10Tab.map fun z => Value.int .u64 z).toArray
  let h4 := put h3 4 ([0, 1, 28, 2, 29, 14, 24, 3, 30, 22, 20, 15, 25, 17, 4, 8, 31, 27, 13, 23, 21, 19, 16, 7, 26, 12, 18, 6, 11, 5, 10, 9].map fun z => Value.int .u8 z).toArray
  let h5 := put h4 5 ([0, 1, 56, 2, 57, 49, 28, 3, 61, 58, 42, 50, 38, 29, 17, 4, 62, 47, 59, 36, 45, 43, 51, 22, 53, 39, 33, 30, 24, 18, 12, 5, 63, 55, 48, 27, 60, 41, 37, 16, 46, 35, 44, 21, 52, 32, 23, 11, 54, 26, 40, 15, 34, 20, 31, 10, 25, 14, 19, 9, 13, 8, 7, 6].map fun z => Value.int .u8 z).toArray
  let h6 := put h5 2 #[.iface 485 (.pointer (some ⟨13, 0, none⟩))]
  let h7 := put h6 3 #[.iface 485 (.pointer (some ⟨14, 0, none⟩))]
  { w0 with heap := h7 }
theorem laid_met (os : Os) (args : Array Value) : laidMet Tryz.prog laidList ((laidWorld os).forCall (fun _ _ => 0) ⟨#[], args, []⟩).memory :=
  laidMet_of_run' 8 (by kernel_rfl) (by kernel_rfl)
end Go.Tame.V
/- Seat r7: strings.Builder's copyCheck, walked. -/
namespace Go.Tame.V
open Go Go.Proofs Go.RowKit
set_option maxRecDepth 100000
theorem u382 : Tryz.prog.underlying 382 = some (.pointer 384) := by kernel_rfl
theorem u465 : Tryz.prog.underlying 465 = some .unsafePointer := by kernel_rfl
theorem s384 : (Tryz.prog.info? 384).map (·.size) = some 2 := by kernel_rfl
theorem l384 : liesAt Tryz.prog Tryz.prog.depth 384 (2 / Tryz.prog.cellsOf 384) 0 384 1 = true := by kernel_rfl
set_option maxHeartbeats 1000000 in
theorem cc_used (b : Nat) (w : World) (h0 : w.cell? ⟨b, 0, none⟩ = some (.pointer (some ⟨b, 0, none⟩))) :
    Calls Tryz.prog 364 #[.pointer (some ⟨b, 0, none⟩)] w fun e w' => e = .returned (.tuple #[]) ∧ w' = w := by
  obtain ⟨j, hj, _⟩ := Option.map_eq_some_iff.1 s384
  go_enter Tryz.func364, Tryz.ntmps364
  go_wp2
  rw [Lib.run_neq_ptr_same w _ u382 hj]
  go_wp2
  go_end0
  exact ⟨rfl, rfl⟩
set_option maxHeartbeats 1000000 in
theorem cc_fresh (b : Nat) (w : World) (h0 : w.cell? ⟨b, 0, none⟩ = some (.pointer none)) (hsh : w.shape? b = some (384, 2)) (hfz : w.frozen? ⟨b, 0, none⟩ = false) :
    Calls Tryz.prog 364 #[.pointer (some ⟨b, 0, none⟩)] w fun e w' => e = .returned (.tuple #[]) ∧ w' = w.setCell ⟨b, 0, none⟩ (.pointer (some ⟨b, 0, none⟩)) := by
  obtain ⟨j, hj, hjs⟩ := Option.map_eq_some_iff.1 s384
  go_enter Tryz.func364, Tryz.ntmps364
  go_wp2
  rw [Lib.run_to_unsafe w ⟨b, 0, none⟩ u382 u465 hj (by rw [hjs]; decide) hsh (Nat.zero_lt_succ 1)]
  simp only [Result.andThen]
  rw [Oper.upon_value]
  go_wp2
  rw [run_callFunc_extern Tryz.func417 (by kernel_rfl) (by kernel_rfl) (by kernel_rfl) (e := Extern.AbiNoEscape.same) (by kernel_rfl)]
  rw [Lib.run_noEscape]
  simp only [Result.andThen]
  rw [Oper.upon_value]
  go_wp2
  rw [Lib.run_from_unsafe w ⟨b, 0, none⟩ u465 u382 hj hsh l384]
  simp only [Result.andThen]
  rw [Oper.upon_value]
  go_wp2
  go_end0
  exact ⟨rfl, rfl⟩
end Go.Tame.V
/- Contracts: bytes and texts repeated (chapter 30). By program (mk.py). -/
namespace Go.Tame.V
open Go Go.Proofs
variable {W0 : World}
set_option maxRecDepth 10000
set_option linter.unusedVariables false
set_option linter.unusedSimpArgs false
theorem ownH {v : Value} {n n' k e : Nat} (h : n = n') : some (HObj.own v n k e) = some (HObj.own v n' k e) := by rw [h]
theorem DLe.ownEq {s s' : Nat} {v : Value} {k : Nat} {xs ys : List D} (h : xs = ys) : DLe (.sl (.own s v) k xs) (.sl (.own s' v) k ys) := h ▸ DLe.own s s'
def bsD (bs : List UInt8) : List D := bs.map fun c => D.int .u8 c.toNat

theorem Q65 (c : UInt8) (n : Nat) (hn : n ≤ 1000000) : DFun Tryz.prog W0 65 [.int .u8 c.toNat, .int .i64 (n : Int)] (.str (List.replicate n c)) := by
  refine DFun.intro ti_ok Tryz.func65 rfl (by decide +kernel) Tryz.ntmps65 rfl fun Γ => ?_
  refine Tri.seq ?_
  refine Tri.region ti_ok ?_
  conv => whnf
  refine Tri.seq ?_
  refine Tri.region ti_ok ?_
  conv => whnf
  refine ⟨trivial, ?_⟩
  conv => whnf
  refine Tri.seq ?_
  refine Tri.seq ?_
  refine Tri.region ti_ok ?_
  conv => whnf
  refine Tri.block ?_
  refine Tri.own 5 1000 1 5 rfl (fun w => ?_)
  refine Tri.loopK (α := { i : Nat // i ≤ n } × Value) (fun x => [(0, .int .u8 c.toNat), (1, .int .i64 (n : Int)), (5, .sl (.own 1000 x.2) 1 (bsD (List.replicate x.1.1 c))), (6, .int .i64 x.1.1)]) (fun x => [(1000, .own x.2 (bsD (List.replicate x.1.1 c)).length 1 5)]) (fun x => n - x.1) (⟨0, by omega⟩, w) [(1000, 1000)] ⟨⟨.refl _, .refl _, .refl _, .refl _, trivial⟩, rfl, rfl, rfl, trivial⟩ ?_
  rintro ⟨⟨i, hi⟩, w⟩
  dsimp only
  have hbl : (bsD (List.replicate i c)).length = i := by simp [bsD]
  have hsn : bsD (List.replicate (i + 1) c) = bsD (List.replicate i c) ++ [.int .u8 c.toNat] := by rw [List.replicate_succ']; simp [bsD]
  refine Tri.seq ?_
  refine Tri.seq ?_
  refine Tri.region ti_ok ?_
  conv => whnf
  refine Tri.cond _ rfl (fun hc => ?_) (fun hc => ?_)
  · refine Tri.skip ?_
    have hia : i < n := by simpa using hc
    conv => whnf
    refine Tri.seq ?_
    refine Tri.block ?_
    refine Tri.region ti_ok ?_
    conv => whnf
    refine ⟨trivial, ?_⟩
    conv => whnf
    refine ⟨rfl, rfl, ?_⟩
    conv => whnf
    refine ⟨by rw [hbl]; show (i + 1) * 1 ≤ 140737488355328; omega, by rw [hbl]; show i + 1 ≤ _; omega, (fun h => by cases h), fun v => ?_⟩
    conv => whnf
    refine Tri.region ti_ok ?_
    conv => whnf
    refine .inl ⟨fun _ => by simp only [InR]; omega, ?_⟩
    conv => whnf
    exact ⟨(⟨i + 1, by omega⟩, v), [(1000, 16)], by show n - (i + 1) < n - i; omega, ⟨.refl _, .refl _, Go.Tame.V.DLe.ownEq (by rw [hsn]; rfl), .refl _, trivial⟩, rfl, rfl, ownH (by dsimp only; rw [hsn]; simp [bsD]), trivial⟩
  · refine Tri.exit ?_
    conv => whnf
    refine Tri.seq ?_
    have hin : i = n := by simp at hc; omega
    subst hin
    refine Tri.regionX ti_ok ?_
    conv => whnf
    refine .inr (XOp.bytesStr ti_ok (bs := List.replicate i c) (tg := .own 1000 w) rfl rfl rfl rfl rfl rfl rfl ?_)
    conv => whnf
    refine Tri.ret ?_
    conv => whnf
    exact DLe.of_eq rfl
theorem Q251 (s : List UInt8) (n : Nat) (hn : n ≤ 10000) (hs : s.length ≤ 10000) : DFun Tryz.prog W0 251 [.str s, .int .i64 (n : Int)] (.str (List.replicate n s).flatten) := by
  refine DFun.intro ti_ok Tryz.func251 rfl (by decide +kernel) Tryz.ntmps251 rfl fun Γ => ?_
  refine Tri.seq ?_
  refine Tri.region ti_ok ?_
  conv => whnf
  refine Tri.seq ?_
  refine Tri.region ti_ok ?_
  conv => whnf
  refine Tri.seq ?_
  refine Tri.seq ?_
  refine Tri.region ti_ok ?_
  conv => whnf
  refine Tri.block ?_
  refine Tri.own 5 1000 1 5 rfl (fun w => ?_)
  refine Tri.loopK (α := { i : Nat // i ≤ n } × Value) (fun x => [(0, .str s), (1, .int .i64 (n : Int)), (5, .sl (.own 1000 x.2) 1 (bsD (List.replicate x.1.1 s).flatten)), (6, .int .i64 x.1.1)]) (fun x => [(1000, .own x.2 (bsD (List.replicate x.1.1 s).flatten).length 1 5)]) (fun x => n - x.1) (⟨0, by omega⟩, w) [(1000, 1000)] ⟨⟨.refl _, .refl _, .refl _, .refl _, trivial⟩, rfl, rfl, rfl, trivial⟩ ?_
  rintro ⟨⟨i, hi⟩, w⟩
  dsimp only
  have hbl : (bsD (List.replicate i s).flatten).length = i * s.length := by simp [bsD]
  have hbb : i * s.length ≤ 10000 * 10000 := Nat.mul_le_mul (by omega) hs
  have hsn : bsD (List.replicate (i + 1) s).flatten = bsD (List.replicate i s).flatten ++ bsD s := by rw [List.replicate_succ', List.flatten_append]; simp [bsD]
  refine Tri.seq ?_
  refine Tri.seq ?_
  refine Tri.region ti_ok ?_
  conv => whnf
  refine Tri.cond _ rfl (fun hc => ?_) (fun hc => ?_)
  · refine Tri.skip ?_
    have hia : i < n := by simpa using hc
    conv => whnf
    refine Tri.seq ?_
    refine Tri.block ?_
    refine Tri.regionX ti_ok ?_
    conv => whnf
    refine .inr (XOp.appendStr ti_ok 1000 rfl rfl rfl (fun h => by cases h) rfl rfl rfl rfl rfl (by rw [hbl]; show _ * 1 ≤ _; omega) (by rw [hbl]; omega) fun v => ?_)
    conv => whnf
    refine Tri.region ti_ok ?_
    conv => whnf
    refine .inl ⟨fun _ => by simp only [InR]; omega, ?_⟩
    conv => whnf
    exact ⟨(⟨i + 1, by omega⟩, v), [(1000, 14)], by show n - (i + 1) < n - i; omega, ⟨.refl _, .refl _, Go.Tame.V.DLe.ownEq (by rw [hsn]; rfl), .refl _, trivial⟩, rfl, rfl, ownH (by dsimp only; rw [hsn]; simp [bsD]), trivial⟩
  · refine Tri.exit ?_
    conv => whnf
    refine Tri.seq ?_
    have hin : i = n := by simp at hc; omega
    subst hin
    refine Tri.regionX ti_ok ?_
    conv => whnf
    refine .inr (XOp.bytesStr ti_ok (bs := (List.replicate i s).flatten) (tg := .own 1000 w) rfl rfl rfl rfl rfl rfl rfl ?_)
    conv => whnf
    refine Tri.ret ?_
    conv => whnf
    exact DLe.of_eq rfl
end Go.Tame.V
/- For the seat r7: the library's contracts, for computing. -/
namespace Go.Tame.V
open Go Go.Proofs Go.Ev Go.RowKit
variable {W : World}
set_option linter.unusedVariables false
set_option maxRecDepth 20000
theorem hasB {f : FuncId} {fn : Func} (h : Tryz.prog.funcs[f]? = some fn) (hb : fn.body.isSome = true) (hn : (fn.name == "runtime.NumGoroutine") = false) : HasBody Tryz.prog f := ⟨fn, h, hb, hn⟩
noncomputable def qCmp : List D → Option D
  | [.str s, .str p] => some (.int .i64 (Lib.compareBytes s p))
  | _ => none
noncomputable def qContains : List D → Option D
  | [.str s, .str [c]] => some (.bool (decide (0 ≤ Lib.indexByte s c)))
  | _ => none
noncomputable def qTrimPrefix : List D → Option D
  | [.str s, .str p] => some (.str (Lib.trimPrefix s p))
  | _ => none
noncomputable def qTrimSuffix : List D → Option D
  | [.str s, .str p] => match Nat.ble s.length 100000 with | true => some (.str (Lib.trimSuffix s p)) | false => none
  | _ => none
noncomputable def qCount : List D → Option D
  | [.str s, .str [c]] => some (.int .i64 ((Lib.countByte s c : Nat) : Int))
  | _ => none
noncomputable def digs : Nat → Nat → List UInt8 → List UInt8
  | 0, _, acc => acc
  | f + 1, n, acc => match Nat.blt n 10 with
    | true => UInt8.ofNat (48 + n) :: acc
    | false => digs f (n / 10) (UInt8.ofNat (48 + n % 10) :: acc)
theorem digs_eq : ∀ f n acc, n < 10 ^ (f + 1) → digs (f + 1) n acc = Lib.decDigits n ++ acc
  | f, n, acc, h => by
    rw [Lib.decDigits.eq_1]
    simp only [digs]
    cases hb : Nat.blt n 10 with
    | true =>
      have h1 : n < 10 := Nat.le_of_ble_eq_true hb
      rw [dif_pos h1]; rfl
    | false =>
      have h1 : ¬ n < 10 := fun h1 => by
        have : Nat.blt n 10 = true := Nat.ble_eq_true_of_le h1
        rw [hb] at this; cases this
      rw [dif_neg h1]
      cases f with
      | zero => exact absurd (by simpa using h) h1
      | succ f =>
        show digs (f + 1) (n / 10) _ = _
        rw [digs_eq f (n / 10) _ (by rw [Nat.pow_succ] at h; omega)]
        simp
noncomputable def qItoa : List D → Option D
  | [.int .i64 (.ofNat i)] => match Nat.blt i 1000000000000000000 with | true => some (.str (digs 18 i [])) | false => none
  | _ => none
noncomputable def qIndexB : List D → Option D
  | [.str s, .int .u8 c] => some (.int .i64 (Lib.indexByte s c.toNat.toUInt8))
  | _ => none
noncomputable def qIndex : List D → Option D
  | [.str s, .str p] => match Nat.blt s.length 100000 with | true => some (.int .i64 (Lib.index s p)) | false => none
  | _ => none
noncomputable def qRepB : List D → Option D
  | [.int .u8 (.ofNat b), .int .i64 (.ofNat n)] => match Nat.blt b 256 && Nat.ble n 100000 with | true => some (.str (List.replicate n b.toUInt8)) | false => none
  | _ => none
noncomputable def qRepS : List D → Option D
  | [.str s, .int .i64 (.ofNat n)] => match Nat.ble s.length 10000 && Nat.ble n 10000 with | true => some (.str (List.replicate n s).flatten) | false => none
  | _ => none
theorem qCmp_ok : ∀ ds d, qCmp ds = some d → DFun Tryz.prog W 261 ds d := by
  intro ds d h
  unfold qCmp at h
  split at h
  · cases h; exact .pure (callable Tryz.func261 rfl (by decide +kernel)) rfl rfl fun w _ => Tryz.strings_Compare ⟨⟨_⟩⟩ ⟨⟨_⟩⟩ w
  · cases h
theorem qContains_ok : ∀ ds d, qContains ds = some d → DFun Tryz.prog W 402 ds d := by
  intro ds d h
  unfold qContains at h
  split at h
  · cases h; exact .pure (callable Tryz.func402 rfl (by decide +kernel)) rfl rfl fun w _ => Tryz.strings_Contains_one ⟨⟨_⟩⟩ _ w
  · cases h
theorem qTrimPrefix_ok : ∀ ds d, qTrimPrefix ds = some d → DFun Tryz.prog W 435 ds d := by
  intro ds d h
  unfold qTrimPrefix at h
  split at h
  · cases h; exact .pure (callable Tryz.func435 rfl (by decide +kernel)) rfl rfl fun w _ => Tryz.strings_TrimPrefix ⟨⟨_⟩⟩ ⟨⟨_⟩⟩ w
  · cases h
theorem qTrimSuffix_ok : ∀ ds d, qTrimSuffix ds = some d → DFun Tryz.prog W 329 ds d := by
  intro ds d h
  unfold qTrimSuffix at h
  split at h
  · rename_i s p
    split at h
    · rename_i hl
      have := Nat.le_of_ble_eq_true hl
      cases h; exact .pure (callable Tryz.func329 rfl (by decide +kernel)) rfl rfl fun w _ => Tryz.strings_TrimSuffix ⟨⟨s⟩⟩ ⟨⟨p⟩⟩ w (by show s.length ≤ _; omega)
    · cases h
  · cases h
theorem qCount_ok : ∀ ds d, qCount ds = some d → DFun Tryz.prog W 449 ds d := by
  intro ds d h
  unfold qCount at h
  split at h
  · rename_i s c
    cases h
    exact .pure (callable Tryz.func449 rfl (by decide +kernel)) rfl rfl fun w _ => Tryz.strings_Count_one ⟨⟨s⟩⟩ c w
  · cases h
theorem qItoa_ok (hL : LibOk W) : ∀ ds d, qItoa ds = some d → DFun Tryz.prog W 12 ds d := by
  intro ds d h
  unfold qItoa at h
  split at h
  · rename_i i
    split at h
    · rename_i hl
      have hl := Nat.le_of_ble_eq_true hl
      cases h
      rw [digs_eq 17 i [] (by omega), List.append_nil, ← Lib.itoa_nonneg]
      exact Q12 hL i (by omega) (by omega)
    · cases h
  · cases h
theorem qIndexB_ok : ∀ ds d, qIndexB ds = some d → DFun Tryz.prog W 185 ds d := by
  intro ds d h
  unfold qIndexB at h
  split at h
  · rename_i s c
    cases h
    exact .pure (callable Tryz.func185 rfl (by decide +kernel)) rfl rfl fun w _ => Tryz.stringslite_IndexByte ⟨⟨s⟩⟩ c w
  · cases h
theorem qIndexB2_ok : ∀ ds d, qIndexB ds = some d → DFun Tryz.prog W 101 ds d := by
  intro ds d h
  unfold qIndexB at h
  split at h
  · rename_i s c
    cases h
    exact .pure (callable Tryz.func101 rfl (by decide +kernel)) rfl rfl fun w _ => Tryz.strings_IndexByte ⟨⟨s⟩⟩ c w
  · cases h
theorem qIndex_ok (hL : LibOk W) : ∀ ds d, qIndex ds = some d → DFun Tryz.prog W 433 ds d := by
  intro ds d h
  unfold qIndex at h
  split at h
  · rename_i s p
    split at h
    · rename_i hl
      cases h
      obtain ⟨m, hm⟩ := hL.maxlen
      have hlt := Nat.le_of_ble_eq_true hl
      exact .pure (callable Tryz.func433 rfl (by decide +kernel)) rfl rfl fun w hb => Tryz.stringslite_Index ⟨⟨s⟩⟩ ⟨⟨p⟩⟩ m w (by show s.length < _; omega) (cell_base hb hm)
    · cases h
  · cases h
theorem qIndex2_ok (hL : LibOk W) : ∀ ds d, qIndex ds = some d → DFun Tryz.prog W 432 ds d := by
  intro ds d h
  unfold qIndex at h
  split at h
  · rename_i s p
    split at h
    · rename_i hl
      cases h
      obtain ⟨m, hm⟩ := hL.maxlen
      have hlt := Nat.le_of_ble_eq_true hl
      exact .pure (callable Tryz.func432 rfl (by decide +kernel)) rfl rfl fun w hb => Tryz.strings_Index ⟨⟨s⟩⟩ ⟨⟨p⟩⟩ m w (by show s.length < _; omega) (cell_base hb hm)
    · cases h
  · cases h
theorem qRepB_ok : ∀ ds d, qRepB ds = some d → DFun Tryz.prog W 65 ds d := by
  intro ds d h
  unfold qRepB at h
  split at h
  · rename_i b n
    split at h
    · rename_i hl
      rw [Bool.and_eq_true] at hl
      have h1 := Nat.le_of_ble_eq_true hl.1
      have h2 := Nat.le_of_ble_eq_true hl.2
      cases h
      have e : b.toUInt8.toNat = b := by
        show (UInt8.ofNat b).toNat = b
        rw [UInt8.toNat_ofNat']; exact Nat.mod_eq_of_lt (by omega)
      have := Q65 (W0 := W) b.toUInt8 n (by omega)
      rw [e] at this; exact this
    · cases h
  · cases h
theorem qRepS_ok : ∀ ds d, qRepS ds = some d → DFun Tryz.prog W 251 ds d := by
  intro ds d h
  unfold qRepS at h
  split at h
  · rename_i s n
    split at h
    · rename_i hl
      rw [Bool.and_eq_true] at hl
      cases h
      exact Q251 s n (Nat.le_of_ble_eq_true hl.2) (Nat.le_of_ble_eq_true hl.1)
    · cases h
  · cases h
noncomputable def qAtoi (args : List AV) (_ : Go.Ev.St) : Option AV := match args with
  | [.str l v] => match Nat.ble l 18 with
    | true => match Lib.atoi (unpH 12 l v []) with
      | some n => some (.tup [.int .i64 n, .undef])
      | none => none
    | false => none
  | _ => none
theorem qAtoi_ok {W0 : WX} : OraPure Tryz.prog W0 194 qAtoi := by
  intro args s v hv
  unfold qAtoi at hv
  split at hv
  · rename_i l x
    split at hv
    · rename_i hl
      split at hv
      · rename_i n hn
        cases hv
        refine ⟨hasB Tryz.func194 rfl (by decide +kernel), fun ε D w us hs _ hu => ?_⟩
        obtain ⟨u, us', rfl, hu1, hu2⟩ := VRL.cons_inv hu
        have := VRL.nil_inv hu2; subst this
        obtain ⟨rfl, _⟩ := hu1.str_inv
        rw [unpH_nil] at hn
        refine (Tryz.strconv_Atoi ⟨⟨unp l x⟩⟩ n (by show (unp l x).length ≤ _; rw [unp_len]; exact Nat.le_of_ble_eq_true hl) hn w).mono ?_
        rintro e w' ⟨rfl, t, rfl⟩
        have hb := Lib.bytesWorld_below w 5 t
        refine ⟨_, rfl, .tup _ _ rfl fun i d v hd hv => ?_, hb.os, hb.tape, hb.output, hb.size, hb.block⟩
        match i with
        | 0 => cases hd; cases hv; exact .int _ _
        | 1 => cases hd; cases hv; exact .nif
        | i + 2 => simp at hd
      · cases hv
    · cases hv
  · cases hv
noncomputable def ccO (args : List AV) (s : Go.Ev.St) : Option (AV × Go.Ev.St) := match args with
  | [x] => isP x fun b off => gd (Nat.beq off 0) (isC (s.look b) fun d m t ty k o => gd (Nat.beq ty 384 && (Nat.beq k 0 && (Nat.beq m 2 && (!o && !(Nat.blt b s.frz))))) (ob (Tr.get d t 0) fun c => match c with
      | .ptr0 => Tr.force (lay d [.ptr b 0] 0 t) fun t' => Tr.force (Tr.set (.cells d m t' ty k o) hDep s.heap b) fun h => some (.tup [], ⟨h, s.next, s.hid, s.frz⟩)
      | .ptr b' o' => gd (Nat.beq b b' && Nat.beq o' 0) (some (.tup [], s))
      | _ => none))
  | _ => none
theorem tup0 (ε : Env) : VR ε (.tup []) (.tuple #[]) := .tup _ _ rfl fun i d v h => by simp at h
theorem ccO_ok {W0 : WX} : OraOk Tryz.prog W0 364 ccO := by
  intro args s v s' hv
  refine ⟨hasB Tryz.func364 rfl (by decide +kernel), ?_⟩
  unfold ccO at hv
  split at hv
  · rename_i x
    obtain ⟨b, off, rfl, h1⟩ := isP_eq hv
    obtain ⟨h0, h1⟩ := gd_eq h1
    have h0 := Nat.eq_of_beq_eq_true h0; subst h0
    obtain ⟨d, m, t, ty, k, o, hl, h2⟩ := isC_eq h1
    obtain ⟨h3, h4⟩ := gd_eq h2
    simp only [Bool.and_eq_true, Bool.not_eq_true'] at h3
    obtain ⟨e1, e2, e3, e4, e5⟩ := h3
    have e1 := Nat.eq_of_beq_eq_true e1
    have e2 := Nat.eq_of_beq_eq_true e2
    have e3 := Nat.eq_of_beq_eq_true e3
    subst e1 e2 e3 e4
    obtain ⟨c, hc, h5⟩ := ob_eq h4
    split at h5
    · rw [Tr.force_eq, Tr.force_eq] at h5
      cases h5
      refine ⟨fun D ε w us hs hvis hu _ => ?_, fun hf hn => .setB hn (look_lt hl) (not_blt e5) _⟩
      obtain ⟨u, us', rfl, hu1, hu2⟩ := VRL.cons_inv hu
      have := VRL.nil_inv hu2; subst this
      obtain ⟨hD, hat⟩ := hvis.look hl
      obtain ⟨r, c, vs, fz, g1, g2, g3, g4, g5, g6, g7, g8⟩ := hs.blk b _ hD hat
      obtain ⟨r', c', hr', hp⟩ := hu1.ptr_inv
      rw [g1] at hr'; cases hr'
      subst hp
      obtain ⟨x, y, x1, x2, x3, x4⟩ := g8 0 (by decide)
      rw [hc] at x1; cases x1
      have hy : y = .pointer none := by cases x3; rfl
      subst hy
      have hvl : vs.length = 2 := g6 rfl
      have hfz : fz = (0, 0) := by rcases g3 with h | h; exact h; exact absurd h.1 (by decide)
      subst hfz
      obtain ⟨r2, c2, q1, q2, q3⟩ := write_ok (P := Tryz.prog) hs hvis hl e5 (off := 0) (ds := [.ptr b 0]) (us := [.pointer (some ⟨r, 0, none⟩)]) (by show 0 + 1 ≤ 2; omega) (.cons (.ptr _ _ _ _ g1) (.nil _)) (by intro u hu; simp at hu; subst hu; rfl)
      rw [g1] at q1; cases q1
      refine (cc_fresh r w (by simp [World.cell?, g2, x2]) (by simp [World.shape?, g2, hvl]) (by simp [World.frozen?, g2])).mono ?_
      rintro e w' ⟨rfl, rfl⟩
      exact ⟨ε, _, rfl, tup0 ε, q3⟩
    · rename_i b' o'
      obtain ⟨h6, h7⟩ := gd_eq h5
      cases h7
      rw [Bool.and_eq_true] at h6
      have h8 := Nat.eq_of_beq_eq_true h6.1; subst h8
      have h9 := Nat.eq_of_beq_eq_true h6.2; subst h9
      refine ⟨fun D ε w us hs hvis hu _ => ?_, fun hf hn => .refl hn⟩
      obtain ⟨u, us', rfl, hu1, hu2⟩ := VRL.cons_inv hu
      have := VRL.nil_inv hu2; subst this
      obtain ⟨hD, hat⟩ := hvis.look hl
      obtain ⟨r, c, vs, fz, g1, g2, g3, g4, g5, g6, g7, g8⟩ := hs.blk b _ hD hat
      obtain ⟨r', c', hr', hp⟩ := hu1.ptr_inv
      rw [g1] at hr'; cases hr'
      subst hp
      obtain ⟨x, y, x1, x2, x3, x4⟩ := g8 0 (by decide)
      rw [hc] at x1; cases x1
      obtain ⟨r', c', hr', hy⟩ := x3.ptr_inv
      rw [g1] at hr'; cases hr'
      subst hy
      refine (cc_used r w (by simp [World.cell?, g2, x2])).mono ?_
      rintro e w' ⟨rfl, rfl⟩
      exact ⟨ε, _, rfl, tup0 ε, .refl hs hvis⟩
    · cases h5
  · cases hv
/-- The table without the calls computed apart. -/
noncomputable def libL : List (Nat × (List AV → Go.Ev.St → Option (AV × Go.Ev.St))) := [(261, puO (oraD qCmp)), (402, puO (oraD qContains)), (435, puO (oraD qTrimPrefix)), (329, puO (oraD qTrimSuffix)), (449, puO (oraD qCount)), (12, puO (oraD qItoa)), (185, puO (oraD qIndexB)), (101, puO (oraD qIndexB)), (433, puO (oraD qIndex)), (432, puO (oraD qIndex)), (65, puO (oraD qRepB)), (251, puO (oraD qRepS)), (194, puO qAtoi), (364, ccO)]
theorem libL_ok {W0 : WX} (hL : LibOk W0.base) : ∀ p ∈ libL, OraOk Tryz.prog W0 p.1 p.2 := by
  intro p hp
  simp only [libL, List.mem_cons, List.not_mem_nil, or_false] at hp
  rcases hp with rfl | rfl | rfl | rfl | rfl | rfl | rfl | rfl | rfl | rfl | rfl | rfl | rfl | rfl
  · exact (oraD_ok qCmp_ok).ok
  · exact (oraD_ok qContains_ok).ok
  · exact (oraD_ok qTrimPrefix_ok).ok
  · exact (oraD_ok qTrimSuffix_ok).ok
  · exact (oraD_ok qCount_ok).ok
  · exact (oraD_ok (qItoa_ok hL)).ok
  · exact (oraD_ok qIndexB_ok).ok
  · exact (oraD_ok qIndexB2_ok).ok
  · exact (oraD_ok (qIndex_ok hL)).ok
  · exact (oraD_ok (qIndex2_ok hL)).ok
  · exact (oraD_ok qRepB_ok).ok
  · exact (oraD_ok qRepS_ok).ok
  · exact qAtoi_ok.ok
  · exact ccO_ok
end Go.Tame.V
