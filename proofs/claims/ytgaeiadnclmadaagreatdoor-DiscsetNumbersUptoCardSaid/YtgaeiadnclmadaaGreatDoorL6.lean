/- A program logic of my own over the model, and contracts of this program's functions by it: part 6. No conditions of its own: each theorem states its own. -/
import Derived.Test.YtgaeiadnclmadaaGreatDoorL5
import Derived.Test.YtgaeiadnclmadaaGreatDoorShelf
import Derived.Test.YtgaeiadnclmadaaGreatDoorCards
import Derived.Test.YtgaeiadnclmadaaGreatDoorTie
import Derived.ProofKit
import Derived.OpenShut
import Derived.Deep.DeepHandedRow
import Derived.Lib.LaidTab
import Derived.Lib.LaidU8
import Derived.Stop.LaidErr
import Derived.Test.YtgaeiadnclmadaaGreatDoorProg
set_option linter.unnecessarySimpa false
set_option linter.unusedSimpArgs false
set_option linter.unusedVariables false
/- Contracts: the library's, and characters. By program (mk.py). -/
namespace Go.Tame.V
open Go Go.Proofs
variable {W0 : World}
set_option maxRecDepth 10000
set_option linter.unusedVariables false

/-- What the library's start-up has laid. -/
structure LibOk (W0 : World) : Prop where
  utf8 : Lib.Utf8Tabs 1 2 W0
  maxlen : ∃ m, W0.cell? ⟨0, 0, none⟩ = some (.int .i64 m)
  pow10 : Lib.TabIs Tryz.prog W0 "internal/strconv.uint64pow10" .u64 Lib.pow10Tab

theorem cell_base {w : World} (hb : Base W0 w) {a : Addr} {v : Value} (h : W0.cell? a = some v) : w.cell? a = some v := by
  have hlt : a.block < W0.heap.size := by
    simp only [World.cell?] at h
    rcases Nat.lt_or_ge a.block W0.heap.size with h1 | h1
    · exact h1
    · rw [Array.getElem?_eq_none h1] at h; cases h
  rw [← h]; simp only [World.cell?, hb.block _ hlt]
theorem utf8_base {w : World} (hb : Base W0 w) (h : Lib.Utf8Tabs 1 2 W0) : Lib.Utf8Tabs 1 2 w :=
  ⟨fun c hc => cell_base hb (h.1 c hc), fun i hi => ⟨cell_base hb (h.2 i hi).1, cell_base hb (h.2 i hi).2⟩⟩

theorem callable {f : FuncId} {fn : Func} (h : Tryz.prog.funcs[f]? = some fn) (hb : fn.body.isSome = true) (hn : (fn.name == "runtime.NumGoroutine") = false) : Callable Tryz.prog f := ⟨fn, h, hb, hn⟩

def dec (s : List UInt8) : Nat × Nat := Lib.decodeGo ⟨⟨s⟩⟩
theorem F134 (hL : LibOk W0) (s : List UInt8) : DFun Tryz.prog W0 143 [.str s] (.tup [.int .i32 (dec s).1, .int .i64 (dec s).2]) :=
  .lift (callable Tryz.func143 rfl (by decide +kernel)) rfl fun w hb => (Tryz.utf8_DecodeRuneInString ⟨⟨s⟩⟩ w (utf8_base hb hL.utf8)).mono fun e w' ⟨he, hw⟩ =>
    ⟨_, he, fun C => .tup _ _ rfl fun i d v hd hv => by
      match i with
      | 0 => cases hd; cases hv; exact .int _ _
      | 1 => cases hd; cases hv; exact .int _ _
      | i + 2 => simp at hd, hw⟩
theorem F110 (a b : List UInt8) : DFun Tryz.prog W0 73 [.str a, .str b] (.int .i64 (Lib.compareBytes a b)) :=
  .pure (callable Tryz.func73 rfl (by decide +kernel)) rfl rfl fun w _ => Tryz.strings_Compare ⟨⟨a⟩⟩ ⟨⟨b⟩⟩ w
theorem F119 (s : List UInt8) (c : UInt8) : DFun Tryz.prog W0 121 [.str s, .str [c]] (.bool (decide (0 ≤ Lib.indexByte s c))) :=
  .pure (callable Tryz.func121 rfl (by decide +kernel)) rfl rfl fun w _ => Tryz.strings_Contains_one ⟨⟨s⟩⟩ c w
theorem F122 (s p : List UInt8) : DFun Tryz.prog W0 123 [.str s, .str p] (.str (Lib.trimPrefix s p)) :=
  .pure (callable Tryz.func123 rfl (by decide +kernel)) rfl rfl fun w _ => Tryz.strings_TrimPrefix ⟨⟨s⟩⟩ ⟨⟨p⟩⟩ w
def isChar (r : Int) : Bool := decide (32 ≤ r) && (decide (r ≤ 65533) && (decide (r < 55296) || decide (57343 < r)))
theorem F135 (r : Int) : DFun Tryz.prog W0 144 [.int .i64 r] (.bool (isChar r)) := by
  refine DFun.intro ti_ok Tryz.func144 rfl (by decide +kernel) Tryz.ntmps144 rfl fun Γ => ?_
  refine Tri.seq ?_
  refine Tri.region ti_ok ?_
  conv => whnf
  refine Tri.seq ?_
  refine Tri.region ti_ok ?_
  conv => whnf
  refine ⟨fun h => h, ?_⟩
  conv => whnf
  refine ⟨fun h0 h => by first | exact h | (rw [h]; rfl) | (rw [h0, h]; rfl), ?_⟩
  conv => whnf
  refine ⟨fun h => h, ?_⟩
  conv => whnf
  refine ⟨fun h => h, ?_⟩
  conv => whnf
  refine ⟨fun h => h, ?_⟩
  conv => whnf
  refine ⟨fun h => h, ?_⟩
  conv => whnf
  refine ⟨fun h0 h => by first | exact h | (rw [h]; rfl) | (rw [h0, h]; rfl), ?_⟩
  conv => whnf
  refine ⟨fun h0 h => by first | exact h | (rw [h]; rfl) | (rw [h0, h]; rfl), ?_⟩
  conv => whnf
  refine Tri.ret ?_
  conv => whnf
  refine DLe.of_eq (congrArg D.bool ?_)
  unfold isChar
  by_cases h1 : 32 ≤ r <;> by_cases h2 : r ≤ 65533 <;> by_cases h3 : r < 55296 <;> simp [h1, h2, h3]
theorem decode_size (s : List UInt8) (h : s ≠ []) : 1 ≤ (dec s).2 ∧ (dec s).2 ≤ s.length ∧ (dec s).2 ≤ 4 ∧ (dec s).1 ≤ 1114111 := by
  have h0 : ¬ (⟨⟨s⟩⟩ : ByteArray).size = 0 := fun e => h (List.eq_nil_of_length_eq_zero e)
  have hl : (⟨⟨s⟩⟩ : ByteArray).size = s.length := rfl
  have hp : 0 < s.length := List.length_pos_iff.2 h
  unfold dec Lib.decodeGo
  rw [if_neg h0]
  unfold Utf8.decode
  dsimp only
  rw [hl]
  have hre : Utf8.runeError = 65533 := rfl
  repeat' split
  all_goals simp only [hre, Bool.and_eq_true, Bool.or_eq_true, decide_eq_true_eq, ge_iff_le, Utf8.valid] at *
  all_goals omega
def badAt (s : List UInt8) : Bool := !isChar (dec s).1 || ((dec s).1 == 65533 && (dec s).2 == 1)
theorem badAt_eq (s : List UInt8) : badAt s = (bif !isChar ((dec s).1 : Nat) then true else bif (((dec s).1 : Nat) : Int) == 65533 then (((dec s).2 : Nat) : Int) == 1 else false) := by
  unfold badAt
  have h1 : ((((dec s).1 : Nat) : Int) == 65533) = ((dec s).1 == 65533) := by rw [Bool.eq_iff_iff]; simp; omega
  have h2 : ((((dec s).2 : Nat) : Int) == 1) = ((dec s).2 == 1) := by rw [Bool.eq_iff_iff]; simp; omega
  rw [h1, h2]
  cases isChar ((dec s).1 : Nat) <;> cases (dec s).1 == 65533 <;> rfl
def charsGo : Nat → List UInt8 → Option (List Int)
  | 0, s => if s = [] then some [] else none
  | f + 1, s => if s = [] then some [] else if badAt s then none else (charsGo f (s.drop (dec s).2)).map (((dec s).1 : Int) :: ·)
theorem charsGo_fuel : ∀ (f : Nat) (s : List UInt8), s.length ≤ f → charsGo f s = charsGo s.length s
  | 0, s, h => by have : s = [] := List.eq_nil_of_length_eq_zero (by omega); subst this; rfl
  | f + 1, s, h => by
    by_cases hs : s = []
    · subst hs; rfl
    · obtain ⟨h1, h2, _⟩ := decode_size s hs
      have hp : 0 < s.length := List.length_pos_iff.2 hs
      obtain ⟨n, hn⟩ : ∃ n, s.length = n + 1 := ⟨s.length - 1, by omega⟩
      rw [hn]
      simp only [charsGo, hs, if_false]
      have hdl : (s.drop (dec s).2).length = s.length - (dec s).2 := by simp
      rw [charsGo_fuel f (s.drop (dec s).2) (by omega), charsGo_fuel n (s.drop (dec s).2) (by omega)]
def charsP (s : List UInt8) : Option (List Int) := charsGo s.length s
theorem charsP_cons {s : List UInt8} (hs : s ≠ []) : charsP s = if badAt s then none else (charsP (s.drop (dec s).2)).map (((dec s).1 : Int) :: ·) := by
  obtain ⟨h1, h2, _⟩ := decode_size s hs
  have hp : 0 < s.length := List.length_pos_iff.2 hs
  obtain ⟨n, hn⟩ : ∃ n, s.length = n + 1 := ⟨s.length - 1, by omega⟩
  have hdl : (s.drop (dec s).2).length = s.length - (dec s).2 := by simp
  rw [charsP, hn]
  simp only [charsGo, hs, if_false]
  rw [charsGo_fuel n _ (by omega)]; rfl
/-- The characters of a text, and the error. -/
def chars (s : List UInt8) : List Int × Int := if 65536 < s.length then ([], 7) else match charsP s with | some l => (l, 0) | none => ([], 3)
def encInts (k : IntKind) (l : List Int) : List D := l.map (D.int k)

theorem F120 (hL : LibOk W0) (s : List UInt8) (hs : s.length < 1000000000) : DFun Tryz.prog W0 122 [.str s] (.tup [.sl .none 1 (encInts .i64 (chars s).1), .int .i64 (chars s).2]) := by
  refine DFun.intro ti_ok Tryz.func122 rfl (by decide +kernel) Tryz.ntmps122 rfl fun Γ => ?_
  refine Tri.seq ?_
  refine Tri.region ti_ok ?_
  conv => whnf
  refine Tri.seq ?_
  refine Tri.seq ?_
  refine Tri.region ti_ok ?_
  conv => whnf
  refine Tri.cond _ rfl (fun hc => ?_) (fun hc => ?_)
  · refine Tri.seq ?_
    refine Tri.region ti_ok ?_
    conv => whnf
    refine Tri.ret ?_
    conv => whnf
    have : chars s = ([], 7) := by rw [chars, if_pos (by simp at hc; omega)]
    rw [this]
    exact ⟨DLe.nil, .refl _, trivial⟩
  · refine Tri.skip ?_
    conv => whnf
    have hs2 : ¬ 65536 < s.length := by simp at hc; omega
    refine Tri.seq ?_
    refine Tri.regionX ti_ok ?_
    conv => whnf
    refine .inr (XOp.makeOwn ti_ok (n := s.length) (k1 := .i64) (k2 := .i64) rfl rfl rfl rfl rfl rfl (by show 8 * _ ≤ _; omega) (by omega) fun v => ?_)
    conv => whnf
    refine Tri.seq ?_
    refine Tri.block ?_
    refine Tri.loopK (α := { x : List UInt8 × List Int // charsP s = (charsP x.1).map (x.2 ++ ·) ∧ x.1.length + x.2.length ≤ s.length } × Value)
      (fun x => [(0, .str x.1.1.1), (4, .sl (.own 1000 x.2) 1 (encInts .i64 x.1.1.2))]) (fun x => [(1000, .own x.2 (encInts .i64 x.1.1.2).length 1 3)]) (fun x => x.1.1.1.length) (⟨(s, []), by simp, by simp⟩, v) [(1000, 12)]
      ⟨⟨.refl _, DLe.own _ _, trivial⟩, rfl, rfl, rfl, trivial⟩ ?_
    rintro ⟨⟨⟨r, acc⟩, hch, hlen⟩, v⟩
    dsimp only at hch hlen ⊢
    refine Tri.seq ?_
    refine Tri.seq ?_
    refine Tri.region ti_ok ?_
    conv => whnf
    refine Tri.cond _ rfl (fun hc => ?_) (fun hc => ?_)
    · refine Tri.skip ?_
      conv => whnf
      have hr : r ≠ [] := by intro e; subst e; simp at hc
      obtain ⟨hd1, hd2, hd3, hd4⟩ := decode_size r hr
      have hal : (encInts .i64 acc).length = acc.length := by simp [encInts]
      refine Tri.block ?_
      refine Tri.seq ?_
      refine Tri.region ti_ok ?_
      conv => whnf
      refine ⟨_, _, fun _ => F134 hL r, ⟨.refl _, trivial⟩, ?_⟩
      conv => whnf
      refine Tri.seq ?_
      refine Tri.seq ?_
      refine Tri.region ti_ok ?_
      conv => whnf
      refine .inl ⟨by simp [InR]; omega, ?_⟩
      conv => whnf
      refine ⟨_, _, fun _ => F135 _, ⟨.refl _, trivial⟩, ?_⟩
      conv => whnf
      refine ⟨fun h => h, ?_⟩
      conv => whnf
      refine ⟨fun h => h, ?_⟩
      conv => whnf
      refine ⟨fun h => h, ?_⟩
      conv => whnf
      refine ⟨fun h => h, ?_⟩
      conv => whnf
      refine ⟨fun h0 h => by first | exact h | (rw [h]; rfl) | (rw [h0, h]; rfl), ?_⟩
      conv => whnf
      refine ⟨fun h0 h => by first | exact h | (rw [h]; rfl) | (rw [h0, h]; rfl), ?_⟩
      conv => whnf
      refine Tri.cond _ rfl (fun hc => ?_) (fun hc => ?_)
      · refine Tri.seq ?_
        refine Tri.region ti_ok ?_
        conv => whnf
        refine Tri.ret ?_
        conv => whnf
        have hbad : badAt r = true := by rw [badAt_eq]; exact hc
        have : chars s = ([], 3) := by rw [chars, if_neg hs2, hch, charsP_cons hr, if_pos hbad]; rfl
        rw [this]
        exact ⟨DLe.nil, .refl _, trivial⟩
      · refine Tri.skip ?_
        have hbad : badAt r = false := by rw [badAt_eq]; exact hc
        conv => whnf
        refine Tri.seq ?_
        refine Tri.regionX ti_ok ?_
        conv => whnf
        refine .inl ?_
        conv => whnf
        refine .inl ⟨by simp [InR]; omega, ?_⟩
        conv => whnf
        refine ⟨trivial, ?_⟩
        conv => whnf
        refine .inl ?_
        conv => whnf
        refine ⟨rfl, rfl, ?_⟩
        conv => whnf
        refine ⟨by show (_ + 1) * 8 ≤ _; omega, by show _ + 1 ≤ _; omega, (fun h => by cases h), fun v => ?_⟩
        conv => whnf
        refine Tri.region ti_ok ?_
        conv => whnf
        refine ⟨fun _ => by simp; omega, ?_⟩
        conv => whnf
        exact ⟨(⟨(r.drop (dec r).2, acc ++ [((dec r).1 : Int)]), by rw [hch, charsP_cons hr, hbad]; simp [Function.comp_def], by simp; omega⟩, v), [(1000, 37)], by show (r.drop (dec r).2).length < r.length; simp; omega, ⟨DLe.of_eq (congrArg D.str (by simp)), DLe.ownEq (by simp [encInts]; rfl), trivial⟩, rfl, rfl, ownH (by simp [encInts]), trivial⟩
    · refine Tri.exit ?_
      conv => whnf
      refine Tri.seq ?_
      refine Tri.region ti_ok ?_
      conv => whnf
      refine Tri.ret ?_
      conv => whnf
      have hr : r = [] := by simpa using hc
      subst hr
      have : chars s = (acc, 0) := by rw [chars, if_neg hs2, hch]; simp [charsP, charsGo]
      rw [this]
      exact ⟨DLe.unown, .refl _, trivial⟩
end Go.Tame.V
/- Contracts: the reference's characters. By program (mk.py). -/
namespace Go.Tame.V
open Go Go.Proofs
variable {W0 : World}
set_option maxRecDepth 10000
set_option linter.unusedVariables false
set_option linter.unusedSimpArgs false

def u8i (n : Int) : UInt8 := UInt8.ofNat n.toNat
def enc17 (v : Int) : List Int :=
  if v < 128 then [v] else if v < 2048 then [192 + v.tdiv 64, 128 + v.tmod 64] else [224 + v.tdiv 4096, 128 + (v.tdiv 64).tmod 64, 128 + v.tmod 64]
def enc17s (v : Int) : List UInt8 := (enc17 v).map u8i
def bA (s : List UInt8) (k : Nat) : Int := ((s.getD k 0).toNat : Nat)
def val12 (s : List UInt8) (i : Nat) : Int := if i = 2 then (bA s 0 - 192) * 64 + bA s 1 - 128 else bA s 0
def valN (s : List UInt8) (i : Nat) : Int := if i = 3 then (bA s 0 - 224) * 4096 + (bA s 1 - 128) * 64 + bA s 2 - 128 else val12 s i
def hit (s : List UInt8) (i : Nat) : Bool := isChar (valN s i) && enc17s (valN s i) == s.take i
/-- What 'first' hands back: the first of three tries that fits. -/
def first (s : List UInt8) : Int × Int := if 1 ≤ s.length ∧ hit s 1 = true then (valN s 1, 1) else if 2 ≤ s.length ∧ hit s 2 = true then (valN s 2, 2) else if 3 ≤ s.length ∧ hit s 3 = true then (valN s 3, 3) else (0, 0)
end Go.Tame.V
/- Plain laws of characters; contracts: the reference's characters, names. By program (mk.py). -/
namespace Go.Tame.V
open Go Go.Proofs
variable {W0 : World}
set_option maxRecDepth 10000
set_option linter.unusedVariables false
set_option linter.unusedSimpArgs false

end Go.Tame.V
/- Contracts: names. By program (mk.py). -/
namespace Go.Tame.V
open Go Go.Proofs
variable {W0 : World}
set_option maxRecDepth 10000
set_option linter.unusedVariables false
set_option linter.unusedSimpArgs false

def nameOk (s : List UInt8) : Bool :=
  if s = [46] ∨ s = [46, 46] ∨ (47 : UInt8) ∈ s then false else (chars s).2 == 0 && (decide (1 ≤ (chars s).1.length) && decide ((chars s).1.length ≤ 64))
theorem index_mem (c : UInt8) : ∀ s : List UInt8, decide (0 ≤ Lib.indexByte s c) = decide (c ∈ s)
  | [] => by simp [Lib.indexByte]
  | b :: l => by
    have ih := index_mem c l
    have hge := Lib.indexByte_ge l c
    rw [decide_eq_decide] at ih ⊢
    unfold Lib.indexByte
    by_cases hb : b = c
    · subst hb; simp
    · rw [if_neg (by simpa using hb)]
      have : c ∈ b :: l ↔ c ∈ l := by simp [Ne.symm hb]
      rw [this, ← ih]
      cases hm : Lib.indexByte l c == -1 with
      | true => rw [if_pos rfl]; have := eq_of_beq hm; omega
      | false => rw [if_neg (by simp)]; have : Lib.indexByte l c ≠ -1 := fun e => by rw [e] at hm; simp at hm
                 omega

theorem F100 (hL : LibOk W0) (s : List UInt8) (hs : s.length < 1000000000) : DFun Tryz.prog W0 105 [.str s] (.bool (nameOk s)) := by
  refine DFun.intro ti_ok Tryz.func105 rfl (by decide +kernel) Tryz.ntmps105 rfl fun Γ => ?_
  refine Tri.seq ?_
  refine Tri.region ti_ok ?_
  conv => whnf
  refine Tri.seq ?_
  refine Tri.seq ?_
  refine Tri.region ti_ok ?_
  conv => whnf
  refine ⟨fun h => h, ?_⟩
  conv => whnf
  refine ⟨fun h0 h => by first | exact h | (rw [h]; rfl) | (rw [h0, h]; rfl), ?_⟩
  conv => whnf
  refine ⟨fun h => h, ?_⟩
  conv => whnf
  refine ⟨_, _, fun h => F119 s 47, ⟨.refl _, .refl _, trivial⟩, ?_⟩
  conv => whnf
  refine ⟨fun h0 h => by first | exact h | (rw [h]; rfl) | (rw [h0, h]; rfl), ?_⟩
  conv => whnf
  have hcc : (bif bif s == [46] then true else s == [46, 46] then true else decide (0 ≤ Lib.indexByte s 47)) = decide (s = [46] ∨ s = [46, 46] ∨ (47 : UInt8) ∈ s) := by
    rw [index_mem]
    by_cases h1 : s = [46]
    · simp [h1]
    · by_cases h2 : s = [46, 46] <;> simp [h1, h2]
  refine Tri.cond _ rfl (fun hc => ?_) (fun hc => ?_)
  · refine Tri.seq ?_
    refine Tri.region ti_ok ?_
    conv => whnf
    refine Tri.ret ?_
    conv => whnf
    exact DLe.of_eq (congrArg D.bool (by rw [nameOk, if_pos (of_decide_eq_true (hcc.symm.trans hc))]))
  · refine Tri.skip ?_
    conv => whnf
    refine Tri.seq ?_
    refine Tri.region ti_ok ?_
    conv => whnf
    refine ⟨_, _, fun _ => F120 hL s hs, ⟨.refl _, trivial⟩, ?_⟩
    conv => whnf
    refine Tri.seq ?_
    refine Tri.region ti_ok ?_
    conv => whnf
    refine ⟨fun h => h, ?_⟩
    conv => whnf
    refine ⟨fun h => h, ?_⟩
    conv => whnf
    refine ⟨fun h0 h => by first | exact h | (rw [h]; rfl) | (rw [h0, h]; rfl), ?_⟩
    conv => whnf
    refine ⟨fun h => h, ?_⟩
    conv => whnf
    refine ⟨fun h => h, ?_⟩
    conv => whnf
    refine ⟨fun h0 h => by first | exact h | (rw [h]; rfl) | (rw [h0, h]; rfl), ?_⟩
    conv => whnf
    refine Tri.ret ?_
    conv => whnf
    refine DLe.of_eq (congrArg D.bool ?_)
    rw [nameOk, if_neg (of_decide_eq_false (hcc.symm.trans hc))]
    have hlen : (encInts .i64 (chars s).1).length = (chars s).1.length := by simp [encInts]
    rw [hlen]
    cases (chars s).2 == 0
    · rfl
    · by_cases h1 : 1 ≤ (chars s).1.length <;> by_cases h2 : (chars s).1.length ≤ 64 <;> simp [h1, h2] <;> omega
end Go.Tame.V
/- Contracts: parts of texts, targets. By program (mk.py). -/
namespace Go.Tame.V
open Go Go.Proofs
variable {W0 : World}
set_option maxRecDepth 10000
set_option linter.unusedVariables false
set_option linter.unusedSimpArgs false

/-- The parts of a text between the bytes c; p: what stands ahead. -/
def splitG (c : UInt8) : List UInt8 → List UInt8 → List (List UInt8)
  | p, [] => [p]
  | p, b :: r => if b = c then p :: splitG c [] r else splitG c (p ++ [b]) r
theorem splitG_no {c : UInt8} : ∀ (s p : List UInt8), c ∉ s → splitG c p s = [p ++ s]
  | [], p, _ => by simp [splitG]
  | b :: r, p, h => by
    have hb : b ≠ c := fun e => h (by simp [e])
    have hr : c ∉ r := fun e => h (by simp [e])
    rw [splitG, if_neg hb, splitG_no r _ hr]; simp
theorem splitG_at {c : UInt8} : ∀ (a p r : List UInt8), c ∉ a → splitG c p (a ++ c :: r) = (p ++ a) :: splitG c [] r
  | [], p, r, _ => by simp [splitG]
  | b :: a, p, r, h => by
    have hb : b ≠ c := fun e => h (by simp [e])
    have hr : c ∉ a := fun e => h (by simp [e])
    rw [List.cons_append, splitG, if_neg hb, splitG_at a _ r hr]; simp
theorem splitG_len {c : UInt8} : ∀ (s p : List UInt8), (splitG c p s).length ≤ s.length + 1 ∧ ∀ x ∈ splitG c p s, x.length ≤ p.length + s.length
  | [], p => by simp [splitG]
  | b :: r, p => by
    have h1 := splitG_len (c := c) r []
    have h2 := splitG_len (c := c) r (p ++ [b])
    rw [splitG]
    split
    · refine ⟨by simp; omega, fun x hx => ?_⟩
      rcases List.mem_cons.1 hx with rfl | hx
      · simp
      · have := h1.2 x hx; simp at this ⊢; omega
    · refine ⟨by simp at h2 ⊢; omega, fun x hx => ?_⟩
      have := h2.2 x hx; simp at this ⊢; omega
theorem splitB_eq (c : UInt8) : ∀ (n : Nat) (s : List UInt8), s.length ≤ n → (Lib.splitB ⟨⟨[c]⟩⟩ 0 (Lib.countB ⟨⟨s⟩⟩ ⟨⟨[c]⟩⟩) ⟨⟨s⟩⟩).map (fun b => b.data.toList) = splitG c [] s := by
  intro n
  induction n with
  | zero =>
    intro s h
    have : s = [] := List.eq_nil_of_length_eq_zero (by omega)
    subst this
    rw [Lib.countB_miss _ _ (by rfl)]; rfl
  | succ n ih =>
    intro s h
    have hix : Lib.indexB ⟨⟨s⟩⟩ ⟨⟨[c]⟩⟩ = Lib.indexByte s c := Lib.index_one s c
    have hge := Lib.indexByte_ge s c
    by_cases hm : Lib.indexByte s c = -1
    · have hno : c ∉ s := fun hc => by
        obtain ⟨k, hk⟩ := List.mem_iff_getElem?.1 hc
        exact Lib.indexByte_none hm k hk
      rw [Lib.countB_miss _ _ (hix.trans hm), Lib.splitB_zero, splitG_no s [] hno]; rfl
    · obtain ⟨i, hi⟩ : ∃ i : Nat, Lib.indexByte s c = i := ⟨(Lib.indexByte s c).toNat, by omega⟩
      obtain ⟨h1, h2⟩ := Lib.indexByte_some hi
      have hil : i < s.length := by
        rcases Nat.lt_or_ge i s.length with h | h
        · exact h
        · rw [List.getElem?_eq_none h] at h1; cases h1
      have hsz : (⟨⟨[c]⟩⟩ : ByteArray).size = 1 := rfl
      have hss : (⟨⟨s⟩⟩ : ByteArray).size = s.length := rfl
      have e0 : s.take s.length = s := List.take_length
      rw [Lib.countB_hit _ _ i (by rw [hsz]; omega) (hix.trans hi), Nat.add_comm 1, Lib.splitB_hit _ _ _ _ i (hix.trans hi), hsz, hss, bytes_extract, bytes_extract, e0]
      have hs : s = s.take i ++ c :: s.drop (i + 1) := by
        have := List.getElem?_eq_some_iff.1 h1
        obtain ⟨_, he⟩ := this
        have h3 := List.drop_eq_getElem_cons hil
        rw [he] at h3
        rw [← h3, List.take_append_drop]
      have hno : c ∉ s.take i := fun hc => by
        obtain ⟨k, hk⟩ := List.mem_iff_getElem?.1 hc
        rw [List.getElem?_take] at hk
        split at hk
        · rename_i hlt; exact h2 k hlt hk
        · cases hk
      rw [List.map_cons, ih (s.drop (i + 1)) (by simp; omega)]
      conv => rhs; rw [hs, splitG_at _ _ _ hno]
      simp
def strs (l : List (List UInt8)) : List D := l.map D.str
theorem F121 (hL : LibOk W0) (s : List UInt8) (c : UInt8) (hs : s.length < 1000000000) : DFun Tryz.prog W0 96 [.str s, .str [c]] (.sl .full 1 (strs (splitG c [] s))) := by
  obtain ⟨m, hm⟩ := hL.maxlen
  have heq := splitB_eq c s.length s (Nat.le_refl _)
  have hlen := (splitG_len (c := c) s []).1
  have hcl : Lib.countB ⟨⟨s⟩⟩ ⟨⟨[c]⟩⟩ + 1 = (strs (splitG c [] s)).length := by
    have := Lib.splitB_all (⟨⟨[c]⟩⟩ : ByteArray) (Nat.le_refl 1) 0 _ (⟨⟨s⟩⟩ : ByteArray) rfl
    rw [← this, strs, List.length_map, ← heq, List.length_map]
  have hcells : ∀ x ∈ strs (splitG c [] s), x.cells = [x] := fun x hx => by obtain ⟨y, _, rfl⟩ := List.mem_map.1 hx; rfl
  have hval : (Lib.splitB ⟨⟨[c]⟩⟩ 0 (Lib.countB ⟨⟨s⟩⟩ ⟨⟨[c]⟩⟩) ⟨⟨s⟩⟩).map Value.string = (splitG c [] s).map fun x => Value.string ⟨⟨x⟩⟩ := by
    rw [← heq, List.map_map]; rfl
  refine .newRow (us := (splitG c [] s).map fun x => Value.string ⟨⟨x⟩⟩) (e := 9) (callable Tryz.func96 rfl (by decide +kernel)) rfl (fun x hx => by rw [hcells x hx]; rfl) (by simp only [strs, List.length_map, maxLen] at *; omega)
    (fun w C => ?_) (fun u hu => by obtain ⟨y, _, rfl⟩ := List.mem_map.1 hu; rfl) fun w hb => (Tryz.strings_Split ⟨⟨s⟩⟩ ⟨⟨[c]⟩⟩ m w (by show s.length < _; omega) (cell_base hb hm) (Nat.le_refl 1)).mono fun e w' ⟨he, hw⟩ => ?_
  · rw [flat_one hcells]
    exact ⟨by simp [strs], fun i d v hd hv => by
      simp only [strs, List.getElem?_map] at hd hv
      cases hx : (splitG c [] s)[i]? with
      | none => rw [hx] at hd; cases hd
      | some x => rw [hx] at hd hv; cases hd; cases hv; exact .str _⟩
  · rw [← hcl]
    exact ⟨he, by rw [hw, hval]⟩

def cutSlash (s : List UInt8) : List UInt8 := match s with | b :: r => if b = 47 then r else b :: r | [] => []
theorem trim_slash (s : List UInt8) : Lib.trimPrefix s [47] = cutSlash s := by
  unfold Lib.trimPrefix Lib.hasPrefix cutSlash
  match s with
  | [] => rfl
  | b :: r =>
    by_cases h : b = 47
    · simp [h, List.isPrefixOf]
    · have h' : ¬ (47 : UInt8) = b := fun e => h e.symm
      simp [h, h', List.isPrefixOf]
theorem cutSlash_len (s : List UInt8) : (cutSlash s).length ≤ s.length := by
  unfold cutSlash; split
  · split <;> simp
  · simp
def partOk (p : List UInt8) : Bool := p == [46] || (p == [46, 46] || nameOk p)
def targetOk (s : List UInt8) : Bool := if s.length < 1 ∨ 128 < s.length then false else if s = [47] then true else (splitG 47 [] (cutSlash s)).all partOk
theorem all_false {α : Type} {q : α → Bool} {l : List α} {i : Nat} (h : i < l.length) (hq : q l[i] = false) : l.all q = false := by
  rw [Bool.eq_false_iff]; intro ha
  have := List.all_eq_true.1 ha l[i] (List.getElem_mem h)
  rw [hq] at this; cases this
theorem all_true {α : Type} {q : α → Bool} {l : List α} {i : Nat} (h : ¬ i < l.length) (hq : ∀ j (hj : j < l.length), j < i → q l[j] = true) : l.all q = true :=
  List.all_eq_true.2 fun x hx => by
    obtain ⟨j, hj, rfl⟩ := List.mem_iff_getElem.1 hx
    exact hq j hj (by omega)
theorem below_next {α : Type} {q : α → Bool} {l : List α} {i : Nat} {hi : i < l.length} (h : q l[i] = true) (hq : ∀ j (hj : j < l.length), j < i → q l[j] = true) : ∀ j (hj : j < l.length), j < i + 1 → q l[j] = true := fun j hj hlt =>
  (Nat.lt_succ_iff_lt_or_eq.1 hlt).elim (hq j hj) fun e => by subst e; exact h
theorem part_cc (p : List UInt8) : (bif (bif !(p == [46]) then !(p == [46, 46]) else false) then !nameOk p else false) = !partOk p := by
  unfold partOk; cases p == [46] <;> cases p == [46, 46] <;> cases nameOk p <;> rfl

theorem F101 (hL : LibOk W0) (s : List UInt8) (hs : s.length < 1000000000) : DFun Tryz.prog W0 106 [.str s] (.bool (targetOk s)) := by
  refine DFun.intro ti_ok Tryz.func106 rfl (by decide +kernel) Tryz.ntmps106 rfl fun Γ => ?_
  refine Tri.seq ?_
  refine Tri.region ti_ok ?_
  conv => whnf
  refine Tri.seq ?_
  refine Tri.seq ?_
  refine Tri.region ti_ok ?_
  conv => whnf
  refine ⟨fun h => h, ?_⟩
  conv => whnf
  refine ⟨fun h => h, ?_⟩
  conv => whnf
  refine ⟨fun h0 h => by first | exact h | (rw [h]; rfl) | (rw [h0, h]; rfl), ?_⟩
  conv => whnf
  refine Tri.cond _ rfl (fun hc => ?_) (fun hc => ?_)
  · refine Tri.seq ?_
    refine Tri.region ti_ok ?_
    conv => whnf
    refine Tri.ret ?_
    conv => whnf
    refine DLe.of_eq (congrArg D.bool ?_)
    rw [targetOk, if_pos]
    by_cases h1 : s.length < 1
    · exact .inl h1
    · right; have h1' : ¬ (s.length : Int) < 1 := by omega
      simp [h1'] at hc; omega
  · refine Tri.skip ?_
    have h1 : ¬ (s.length < 1 ∨ 128 < s.length) := by
      by_cases h1 : (s.length : Int) < 1
      · simp [h1] at hc
      · simp [h1] at hc; omega
    conv => whnf
    refine Tri.seq ?_
    refine Tri.seq ?_
    refine Tri.region ti_ok ?_
    conv => whnf
    refine Tri.cond _ rfl (fun hc => ?_) (fun hc => ?_)
    · refine Tri.seq ?_
      refine Tri.region ti_ok ?_
      conv => whnf
      refine Tri.ret ?_
      conv => whnf
      exact DLe.of_eq (congrArg D.bool (by rw [targetOk, if_neg h1, if_pos (by simpa using hc)]))
    · refine Tri.skip ?_
      have h2 : s ≠ [47] := by simpa using hc
      have hT : targetOk s = (splitG 47 [] (cutSlash s)).all partOk := by rw [targetOk, if_neg h1, if_neg h2]
      have hcl := cutSlash_len s
      obtain ⟨hgl, hgp⟩ := splitG_len (c := 47) (cutSlash s) []
      conv => whnf
      refine Tri.seq ?_
      refine Tri.seq ?_
      refine Tri.region ti_ok ?_
      conv => whnf
      refine ⟨_, _, fun _ => F122 s [47], ⟨.refl _, .refl _, trivial⟩, ?_⟩
      conv => whnf
      refine ⟨[.str (cutSlash s), .str [47]], _, fun _ => F121 hL (cutSlash s) 47 (by omega), ⟨DLe.of_eq (congrArg D.str (trim_slash s)), .refl _, trivial⟩, ?_⟩
      conv => whnf
      refine Tri.block ?_
      refine Tri.loop (α := { i : Nat // i ≤ (splitG 47 [] (cutSlash s)).length ∧ ∀ j (h : j < (splitG 47 [] (cutSlash s)).length), j < i → partOk (splitG 47 [] (cutSlash s))[j] = true })
        (fun x => [(17, .sl .full 1 (strs (splitG 47 [] (cutSlash s)))), (18, .int .i64 (strs (splitG 47 [] (cutSlash s))).length), (19, .int .i64 x.1)]) (fun _ => []) (fun x => (splitG 47 [] (cutSlash s)).length - x.1) ⟨0, by simp⟩ ⟨.refl _, .refl _, .refl _, trivial⟩ trivial ?_
      rintro ⟨i, hi, hp⟩
      dsimp only
      refine Tri.seq ?_
      refine Tri.region ti_ok ?_
      conv => whnf
      refine Tri.seq ?_
      refine Tri.cond _ rfl (fun hc => ?_) (fun hc => ?_)
      · refine Tri.skip ?_
        conv => whnf
        have hia : i < (splitG 47 [] (cutSlash s)).length := by simpa [strs] using hc
        have hpl := hgp _ (List.getElem_mem hia)
        refine Tri.seq ?_
        refine Tri.block ?_
        refine Tri.seq ?_
        refine Tri.region ti_ok ?_
        conv => whnf
        refine ⟨fun _ => by simp [strs]; omega, ?_⟩
        conv => whnf
        refine ⟨.str (splitG 47 [] (cutSlash s))[i], fun _ => get_map _ hia, ?_⟩
        conv => whnf
        refine Tri.seq ?_
        refine Tri.region ti_ok ?_
        conv => whnf
        refine ⟨fun h => h, ?_⟩
        conv => whnf
        refine ⟨fun h0 h => by first | exact h | (rw [h]; rfl) | (rw [h0, h]; rfl), ?_⟩
        conv => whnf
        refine ⟨fun h => h, ?_⟩
        conv => whnf
        refine ⟨[.str (splitG 47 [] (cutSlash s))[i]], _, fun h => F100 hL _ (by simp at hpl; omega), ⟨.refl _, trivial⟩, ?_⟩
        conv => whnf
        refine ⟨fun h => h, ?_⟩
        conv => whnf
        refine ⟨fun h0 h => by first | exact h | (rw [h]; rfl) | (rw [h0, h]; rfl), ?_⟩
        conv => whnf
        have hcc := part_cc (splitG 47 [] (cutSlash s))[i]
        refine Tri.cond _ rfl (fun hc => ?_) (fun hc => ?_)
        · refine Tri.seq ?_
          refine Tri.region ti_ok ?_
          conv => whnf
          refine Tri.ret ?_
          conv => whnf
          exact DLe.of_eq (congrArg D.bool (by rw [hT, all_false hia (by simpa using hcc.symm.trans hc)]))
        · refine Tri.skip ?_
          conv => whnf
          refine Tri.region ti_ok ?_
          conv => whnf
          refine .inl ⟨fun _ => by simp [InR]; omega, ?_⟩
          conv => whnf
          exact ⟨⟨i + 1, by omega, below_next (hi := hia) (by simpa using hcc.symm.trans hc) hp⟩, by show _ - (i + 1) < _ - i; omega, ⟨.refl _, .refl _, .refl _, trivial⟩, trivial⟩
      · refine Tri.exit ?_
        conv => whnf
        refine Tri.seq ?_
        refine Tri.region ti_ok ?_
        conv => whnf
        refine Tri.ret ?_
        conv => whnf
        exact DLe.of_eq (congrArg D.bool (by rw [hT, all_true (by simpa [strs] using hc) hp]))

end Go.Tame.V
/- Contracts: options of a disc, lists of boot entries. By program (mk.py). -/
namespace Go.Tame.V
open Go Go.Proofs
variable {W0 : World}
set_option maxRecDepth 10000
set_option linter.unusedVariables false
set_option linter.unusedSimpArgs false

structure BE where
  path : List UInt8
  plat : Int
  media : Int
  seg : Int
  sect : Int
  boot : Bool
  deriving DecidableEq
def encB (b : BE) : D := .agg [.str b.path, .int .i64 b.plat, .int .i64 b.media, .int .i64 b.seg, .int .i64 b.sect, .bool b.boot]
structure MV where
  name : List UInt8
  set : List UInt8
  pub : List UInt8
  prep : List UInt8
  app : List UInt8
  num : Int
  discs : Int
  time : Int
  views : Int
  zone : Int
  boot : List BE
  udf : Int
  share : Bool
  deriving DecidableEq
def encM (m : MV) : D := .agg [.str m.name, .str m.set, .str m.pub, .str m.prep, .str m.app, .int .i64 m.num, .int .i64 m.discs, .int .i64 m.time, .int .i64 m.views, .int .i64 m.zone, .sl .none 6 (m.boot.map encB), .int .i64 m.udf, .bool m.share]
theorem get_bes {l : List BE} {i : Nat} (h : i < l.length) : (l.map encB)[((i : Int)).toNat]? = some (encB l[i]) := by
  simp [h]
def fewM (m : MV) : Bool := decide (m.boot.length ≤ 4) && decide (m.name.length + m.set.length + m.pub.length + m.prep.length + m.app.length ≤ 2000)
theorem encB_cells {l : List BE} : ∀ x ∈ l.map encB, x.cells.length = 6 := by
  intro x hx
  obtain ⟨b, _, rfl⟩ := List.mem_map.1 hx
  rfl

theorem beq_BE (e x : BE) : (e.path == x.path && (e.plat == x.plat && (e.media == x.media && (e.seg == x.seg && (e.sect == x.sect && (e.boot == x.boot && true)))))) = (e == x) := by
  rw [Bool.eq_iff_iff, beq_iff_eq]
  obtain ⟨a, b, c, d, f, g⟩ := e
  obtain ⟨a', b', c', d', f', g'⟩ := x
  simp only [Bool.and_eq_true, beq_iff_eq, BE.mk.injEq, and_true]

/-- IndexFunc over boot entries. -/
theorem K70 (l : List BE) (hl : l.length < 1000000000) (fid : Nat) (caps : List D) (p : BE → Bool) (hp0 : ∀ k ∈ l, DFun Tryz.prog W0 fid (encB k :: caps) (.bool (p k))) : DFun Tryz.prog W0 70 [.sl .none 6 (l.map encB), .fn (.func fid) [] caps] (.int .i64 (firstIdx p l)) := by
  refine DFun.intro ti_ok Tryz.func70 rfl (by decide +kernel) Tryz.ntmps70 rfl fun Γ => ?_
  refine Tri.seq ?_
  refine Tri.region ti_ok ?_
  conv => whnf
  refine Tri.seq ?_
  refine Tri.seq ?_
  refine Tri.region ti_ok ?_
  conv => whnf
  refine Tri.block ?_
  refine Tri.loop (α := { i : Nat // i ≤ l.length ∧ ∀ j (h : j < l.length), j < i → p (l[j]) = false }) (fun x => [(0, .sl .none 6 (l.map encB)), (1, .fn (.func fid) [] caps), (7, .int .i64 (l.map encB).length), (8, .int .i64 x.1)]) (fun _ => []) (fun x => l.length - x.1) ⟨0, by simp⟩ ⟨.refl _, .refl _, .refl _, .refl _, trivial⟩ trivial ?_
  rintro ⟨i, hi, hp⟩
  dsimp only
  refine Tri.seq ?_
  refine Tri.region ti_ok ?_
  conv => whnf
  refine Tri.seq ?_
  refine Tri.cond (decide ((i : Int) < (l.map encB).length)) rfl (fun hc => ?_) (fun hc => ?_)
  · refine Tri.skip ?_
    conv => whnf
    refine Tri.seq ?_
    refine Tri.block ?_
    refine Tri.seq ?_
    refine Tri.region ti_ok ?_
    have hia : i < l.length := by simpa using hc
    conv => whnf
    refine Tri.seq ?_
    refine Tri.region ti_ok ?_
    conv => whnf
    refine ⟨fun _ => by simp; omega, ?_⟩
    conv => whnf
    refine ⟨encB l[i], fun _ => get_bes hia, ?_⟩
    conv => whnf
    refine ⟨encB l[i] :: caps, _, fun _ => hp0 l[i] (List.getElem_mem hia), ⟨.refl _, LeL.refl _⟩, ?_⟩
    conv => whnf
    refine Tri.cond _ rfl (fun hc => ?_) (fun hc => ?_)
    · refine Tri.seq ?_
      refine Tri.region ti_ok ?_
      conv => whnf
      refine Tri.ret ?_
      conv => whnf
      exact intDLe (firstIdx_some (p := p) hia hp hc).symm
    · refine Tri.skip ?_
      conv => whnf
      refine Tri.region ti_ok ?_
      conv => whnf
      refine .inl ⟨fun _ => by simp [InR]; omega, ?_⟩
      conv => whnf
      exact ⟨⟨i + 1, by omega, fun j hj hlt => (Nat.lt_succ_iff_lt_or_eq.1 hlt).elim (hp j hj) fun e => by subst e; exact hc⟩, by show _ - (i + 1) < _ - i; omega, ⟨.refl _, .refl _, .refl _, .refl _, trivial⟩, trivial⟩
  · refine Tri.exit ?_
    conv => whnf
    refine Tri.seq ?_
    refine Tri.region ti_ok ?_
    conv => whnf
    refine Tri.ret ?_
    conv => whnf
    exact intDLe (firstIdx_none (p := p) fun j hj => hp j hj (by simp at hc; omega)).symm

theorem K52 (l : List (List UInt8)) (s : List UInt8) (hl : l.length < 1000000000) : DFun Tryz.prog W0 52 [.sl .none 1 (strs l), .str s] (.int .i64 (firstIdx (fun x => s == x) l)) := by
  refine DFun.intro ti_ok Tryz.func52 rfl (by decide +kernel) Tryz.ntmps52 rfl fun Γ => ?_
  refine Tri.seq ?_
  refine Tri.region ti_ok ?_
  conv => whnf
  refine Tri.seq ?_
  refine Tri.seq ?_
  refine Tri.region ti_ok ?_
  conv => whnf
  refine Tri.block ?_
  refine Tri.loop (α := { i : Nat // i ≤ l.length ∧ ∀ j (h : j < l.length), j < i → (s == l[j]) = false }) (fun x => [(0, .sl .none 1 (strs l)), (1, .str s), (7, .int .i64 (strs l).length), (8, .int .i64 x.1)]) (fun _ => []) (fun x => l.length - x.1) ⟨0, by simp⟩ ⟨.refl _, .refl _, .refl _, .refl _, trivial⟩ trivial ?_
  rintro ⟨i, hi, hp⟩
  dsimp only
  refine Tri.seq ?_
  refine Tri.region ti_ok ?_
  conv => whnf
  refine Tri.seq ?_
  refine Tri.cond (decide ((i : Int) < (strs l).length)) rfl (fun hc => ?_) (fun hc => ?_)
  · refine Tri.skip ?_
    conv => whnf
    refine Tri.seq ?_
    refine Tri.block ?_
    refine Tri.seq ?_
    have hia : i < l.length := by simpa [strs] using hc
    refine Tri.region ti_ok ?_
    conv => whnf
    refine Tri.seq ?_
    refine Tri.region ti_ok ?_
    conv => whnf
    refine ⟨fun _ => by simp [strs]; omega, ?_⟩
    conv => whnf
    refine ⟨.str l[i], fun _ => by simp [strs, hia], ?_⟩
    conv => whnf
    refine Tri.cond (s == l[i]) rfl (fun hc => ?_) (fun hc => ?_)
    · refine Tri.seq ?_
      refine Tri.region ti_ok ?_
      conv => whnf
      refine Tri.ret ?_
      conv => whnf
      exact intDLe (firstIdx_some (p := fun x => s == x) hia hp hc).symm
    · refine Tri.skip ?_
      conv => whnf
      refine Tri.region ti_ok ?_
      conv => whnf
      refine .inl ⟨fun _ => by simp [InR]; omega, ?_⟩
      conv => whnf
      exact ⟨⟨i + 1, by omega, fun j hj hlt => (Nat.lt_succ_iff_lt_or_eq.1 hlt).elim (hp j hj) fun e => by subst e; exact hc⟩, by show _ - (i + 1) < _ - i; omega, ⟨.refl _, .refl _, .refl _, .refl _, trivial⟩, trivial⟩
  · refine Tri.exit ?_
    conv => whnf
    refine Tri.seq ?_
    refine Tri.region ti_ok ?_
    conv => whnf
    refine Tri.ret ?_
    conv => whnf
    exact intDLe (firstIdx_none (p := fun x => s == x) fun j hj => hp j hj (by simp [strs] at hc; omega)).symm
theorem K25 (l : List (List UInt8)) (s : List UInt8) (hl : l.length < 1000000000) : DFun Tryz.prog W0 25 [.sl .none 1 (strs l), .str s] (.bool (l.any fun x => s == x)) := by
  refine DFun.intro ti_ok Tryz.func25 rfl (by decide +kernel) Tryz.ntmps25 rfl fun Γ => ?_
  refine Tri.seq ?_
  refine Tri.region ti_ok ?_
  conv => whnf
  refine Tri.seq ?_
  refine Tri.region ti_ok ?_
  conv => whnf
  refine ⟨[.sl .none 1 (strs l), .str s], _, fun _ => K52 l s hl, ⟨.refl _, .refl _, trivial⟩, ?_⟩
  conv => whnf
  refine Tri.ret ?_
  conv => whnf
  exact DLe.of_eq (congrArg D.bool (firstIdx_any _ l))

theorem K22 (m : MV) (h : m.name.length + m.set.length + m.pub.length + m.prep.length + m.app.length < 1000000000) : DFun Tryz.prog W0 22 [encM m] (.bool (fewM m)) := by
  refine DFun.intro ti_ok Tryz.func22 rfl (by decide +kernel) Tryz.ntmps22 rfl fun Γ => ?_
  refine Tri.seq ?_
  refine Tri.region ti_ok ?_
  conv => whnf
  intro b
  conv => whnf
  refine Tri.seq ?_
  refine Tri.region ti_ok ?_
  conv => whnf
  refine ⟨rfl, ?_⟩
  conv => whnf
  intro b
  conv => whnf
  refine ⟨rfl, ?_⟩
  conv => whnf
  refine Tri.seq ?_
  refine Tri.region ti_ok ?_
  conv => whnf
  refine ⟨rfl, ?_⟩
  conv => whnf
  refine ⟨fun h => h, ?_⟩
  conv => whnf
  refine ⟨rfl, ?_⟩
  conv => whnf
  refine ⟨fun h => h, ?_⟩
  conv => whnf
  refine ⟨fun h => h, ?_⟩
  conv => whnf
  refine ⟨rfl, ?_⟩
  conv => whnf
  refine ⟨fun h => h, ?_⟩
  conv => whnf
  refine ⟨fun h => h, ?_⟩
  conv => whnf
  refine ⟨fun h => h, ?_⟩
  conv => whnf
  refine .inl ⟨fun h => by simp [InR]; omega, ?_⟩
  conv => whnf
  refine ⟨fun h => h, ?_⟩
  conv => whnf
  refine ⟨rfl, ?_⟩
  conv => whnf
  refine ⟨fun h => h, ?_⟩
  conv => whnf
  refine ⟨fun h => h, ?_⟩
  conv => whnf
  refine ⟨fun h => h, ?_⟩
  conv => whnf
  refine .inl ⟨fun h => by simp [InR]; omega, ?_⟩
  conv => whnf
  refine ⟨fun h => h, ?_⟩
  conv => whnf
  refine ⟨rfl, ?_⟩
  conv => whnf
  refine ⟨fun h => h, ?_⟩
  conv => whnf
  refine ⟨fun h => h, ?_⟩
  conv => whnf
  refine ⟨fun h => h, ?_⟩
  conv => whnf
  refine .inl ⟨fun h => by simp [InR]; omega, ?_⟩
  conv => whnf
  refine ⟨fun h => h, ?_⟩
  conv => whnf
  refine ⟨rfl, ?_⟩
  conv => whnf
  refine ⟨fun h => h, ?_⟩
  conv => whnf
  refine ⟨fun h => h, ?_⟩
  conv => whnf
  refine ⟨fun h => h, ?_⟩
  conv => whnf
  refine .inl ⟨fun h => by simp [InR]; omega, ?_⟩
  conv => whnf
  refine ⟨fun h => h, ?_⟩
  conv => whnf
  refine ⟨fun h0 h => by first | exact h | (rw [h]; rfl) | (rw [h0, h]; rfl), ?_⟩
  conv => whnf
  refine Tri.ret ?_
  conv => whnf
  refine DLe.of_eq (congrArg D.bool (a₂ := fewM m) ?_)
  unfold fewM
  by_cases h1 : m.boot.length ≤ 4
  · by_cases h2 : m.name.length + m.set.length + m.pub.length + m.prep.length + m.app.length ≤ 2000
    · simp [h1, h2]; omega
    · simp [h1, h2]; omega
  · simp [h1]; omega

theorem K51 (l : List BE) (e : BE) (hl : l.length < 1000000000) : DFun Tryz.prog W0 51 [.sl .none 6 (l.map encB), encB e] (.int .i64 (firstIdx (fun x => e == x) l)) := by
  refine DFun.intro ti_ok Tryz.func51 rfl (by decide +kernel) Tryz.ntmps51 rfl fun Γ => ?_
  refine Tri.seq ?_
  refine Tri.region ti_ok ?_
  conv => whnf
  intro b
  conv => whnf
  refine Tri.seq ?_
  refine Tri.seq ?_
  refine Tri.region ti_ok ?_
  conv => whnf
  refine Tri.block ?_
  refine Tri.loop (α := { i : Nat // i ≤ l.length ∧ ∀ j (h : j < l.length), j < i → (e == l[j]) = false }) (fun x => [(0, .sl .none 6 (l.map encB)), (3, .box 3 b 0), (7, .int .i64 (l.map encB).length), (8, .int .i64 x.1)]) (fun _ => [(3, .box b (encB e).cells)]) (fun x => l.length - x.1) ⟨0, by simp⟩ ⟨.refl _, .refl _, .refl _, .refl _, trivial⟩ ⟨rfl, trivial⟩ ?_
  rintro ⟨i, hi, hp⟩
  dsimp only
  refine Tri.seq ?_
  refine Tri.region ti_ok ?_
  conv => whnf
  refine Tri.seq ?_
  refine Tri.cond (decide ((i : Int) < (l.map encB).length)) rfl (fun hc => ?_) (fun hc => ?_)
  · refine Tri.skip ?_
    conv => whnf
    refine Tri.seq ?_
    refine Tri.block ?_
    refine Tri.seq ?_
    refine Tri.region ti_ok ?_
    have hia : i < l.length := by simpa using hc
    conv => whnf
    refine Tri.seq ?_
    refine Tri.draw ti_ok mixed (by kernel_rfl) ?_
    conv => whnf
    refine ⟨rfl, ?_⟩
    conv => whnf
    refine ⟨fun _ => by simp; omega, ?_⟩
    conv => whnf
    refine ⟨encB l[i], fun _ => get_bes hia, ?_⟩
    conv => whnf
    refine Tri.cond (e == l[i]) (congrArg D.bool (beq_BE e l[i])) (fun hc => ?_) (fun hc => ?_)
    · refine Tri.seq ?_
      refine Tri.region ti_ok ?_
      conv => whnf
      refine Tri.ret ?_
      conv => whnf
      exact intDLe (firstIdx_some (p := fun x => e == x) hia hp hc).symm
    · refine Tri.skip ?_
      conv => whnf
      refine Tri.region ti_ok ?_
      conv => whnf
      refine .inl ⟨fun _ => by simp [InR]; omega, ?_⟩
      conv => whnf
      exact ⟨⟨i + 1, by omega, fun j hj hlt => (Nat.lt_succ_iff_lt_or_eq.1 hlt).elim (hp j hj) fun e => by subst e; exact hc⟩, by show _ - (i + 1) < _ - i; omega, ⟨.refl _, .refl _, .refl _, .refl _, trivial⟩, rfl, trivial⟩
  · refine Tri.exit ?_
    conv => whnf
    refine Tri.seq ?_
    refine Tri.region ti_ok ?_
    conv => whnf
    refine Tri.ret ?_
    conv => whnf
    exact intDLe (firstIdx_none (p := fun x => e == x) fun j hj => hp j hj (by simp at hc; omega)).symm

theorem K24 (l : List BE) (e : BE) (hl : l.length < 1000000000) : DFun Tryz.prog W0 24 [.sl .none 6 (l.map encB), encB e] (.bool (l.any fun x => e == x)) := by
  refine DFun.intro ti_ok Tryz.func24 rfl (by decide +kernel) Tryz.ntmps24 rfl fun Γ => ?_
  refine Tri.seq ?_
  refine Tri.region ti_ok ?_
  conv => whnf
  intro b
  conv => whnf
  refine Tri.seq ?_
  refine Tri.region ti_ok ?_
  conv => whnf
  refine ⟨rfl, ?_⟩
  conv => whnf
  refine ⟨[.sl .none 6 (l.map encB), encB e], _, fun _ => K51 l e hl, ⟨.refl _, .refl _, trivial⟩, ?_⟩
  conv => whnf
  refine Tri.ret ?_
  conv => whnf
  exact DLe.of_eq (congrArg D.bool (firstIdx_any _ l))

theorem K40 (items : List (List UInt8)) (e : BE) (hl : items.length < 1000000000) : DFun Tryz.prog W0 40 [encB e, .elm 1 [.sl .none 1 (strs items)] 0 0] (.bool (!items.any fun x => e.path == x)) := by
  refine DFun.intro ti_ok Tryz.func40 rfl (by decide +kernel) Tryz.ntmps40 rfl fun Γ => ?_
  refine Tri.seq ?_
  refine Tri.region ti_ok ?_
  conv => whnf
  intro b
  conv => whnf
  refine Tri.seq ?_
  refine Tri.region ti_ok ?_
  conv => whnf
  refine ⟨.sl .none 1 (strs items), fun _ => rfl, ?_⟩
  conv => whnf
  refine ⟨rfl, ?_⟩
  conv => whnf
  refine ⟨[.sl .none 1 (strs items), .str e.path], _, fun _ => K25 items e.path hl, ⟨.refl _, .refl _, trivial⟩, ?_⟩
  conv => whnf
  refine Tri.ret ?_
  conv => whnf
  exact .refl _
end Go.Tame.V
/- Contracts: Clone and DeleteFunc of boot entries. By program (mk.py). -/
namespace Go.Tame.V
open Go Go.Proofs
variable {W0 : World}
set_option maxRecDepth 10000
set_option linter.unusedVariables false
set_option linter.unusedSimpArgs false

theorem addr_addK (b n : Nat) : ((⟨b, 0, none⟩ : Addr).add n) = ⟨b, n, none⟩ := by
  cases n with
  | zero => rfl
  | succ n => simp [Addr.add]

theorem DCall.heapK {f : FuncId} {ds : List D} {Q : D → Heap → Prop} {H : Heap} {k s : Nat} {o : HObj} (h : H s = some o) (hc : DCall Tryz.prog W0 f ds (look [(k, o)]) Q) : DCall Tryz.prog W0 f ds (handed H [(k, s)]) Q := by
  have e : handed H [(k, s)] = look [(k, o)] := by
    funext j
    simp only [handed, look]
    cases Nat.beq j k with
    | true => exact h
    | false => rfl
  rw [e]; exact hc

theorem K39 (l : List BE) (h : l.length < 1000000) : DFun Tryz.prog W0 39 [.sl .none 6 (l.map encB)] (.sl .none 6 (l.map encB)) := by
  refine DFun.intro ti_ok Tryz.func39 rfl (by decide +kernel) Tryz.ntmps39 rfl fun Γ => ?_
  refine Tri.seq ?_
  refine Tri.region ti_ok ?_
  conv => whnf
  refine Tri.seq ?_
  refine Tri.seq ?_
  refine Tri.regionX ti_ok ?_
  conv => whnf
  refine .inr (XOp.nilEq (el := 54) ti_ok rfl rfl rfl fun nb hnb => ?_)
  conv => whnf
  refine Tri.cond _ rfl (fun hc => ?_) (fun hc => ?_)
  · refine Tri.seq ?_
    refine Tri.region ti_ok ?_
    conv => whnf
    refine Tri.ret ?_
    conv => whnf
    have hnil := hnb hc
    rw [hnil]
    exact DLe.nil
  · refine Tri.skip ?_
    conv => whnf
    refine Tri.seq ?_
    refine Tri.region ti_ok ?_
    conv => whnf
    refine ⟨trivial, ?_⟩
    conv => whnf
    refine ⟨by show (0 + (l.map encB).length) * 56 ≤ _; simp; omega, by show 0 + (l.map encB).length ≤ _; simp; omega, (fun h => by cases h), fun v => ?_⟩
    conv => whnf
    refine Tri.ret ?_
    conv => whnf
    exact DLe.trans (DLe.of_eq (congrArg (D.sl _ 6) (List.nil_append _))) DLe.unown

theorem K39r (xs : List D) (hk : ∀ x ∈ xs, x.cells.length = 6) (h0 : 0 < xs.length) (h : xs.length < 1000000) : DCall Tryz.prog W0 39 [.sl .none 6 xs] Heap.none fun d H' => ∃ v, d = .raw v ∧ H' = look [(2000, .row v xs 6 54)] := by
  refine DCall.intro ti_ok Tryz.func39 rfl (by decide +kernel) Tryz.ntmps39 rfl fun Γ => ?_
  refine Tri.seq ?_
  refine Tri.region ti_ok ?_
  conv => whnf
  refine Tri.seq ?_
  refine Tri.seq ?_
  refine Tri.regionX ti_ok ?_
  conv => whnf
  refine .inr (XOp.nilEq (el := 54) ti_ok rfl rfl rfl fun nb hnb => ?_)
  conv => whnf
  refine Tri.cond _ rfl (fun hc => ?_) (fun hc => ?_)
  · refine Tri.seq ?_
    refine Tri.region ti_ok ?_
    conv => whnf
    refine Tri.ret ?_
    conv => whnf
    exfalso
    have := hnb hc
    rw [this] at h0; simp at h0
  · refine Tri.skip ?_
    conv => whnf
    refine Tri.seq ?_
    refine Tri.regionG ti_ok ?_
    conv => whnf
    refine ⟨rfl, trivial, .inr (XOp.buildRow (q := 100) ti_ok rfl rfl rfl rfl rfl rfl ?_)⟩
    conv => whnf
    refine ⟨rfl, trivial, fun v0 => ?_⟩
    conv => whnf
    refine ⟨rfl, trivial, .inl ?_⟩
    conv => whnf
    refine ⟨rfl, trivial, .inr (XOp.rowAppend ti_ok 100 rfl rfl rfl (fun h => by cases h) rfl rfl rfl h0 (by show (0 + _) * 56 ≤ _; omega) (by show 0 + _ ≤ _; omega) fun aa m cap => ?_)⟩
    conv => whnf
    refine ⟨rfl, trivial, .inl ?_⟩
    refine Tri.retK [(2, .raw (.slice aa m cap))] [(2000, .row (.slice aa m cap) xs 6 54)] [(2000, 7)] ⟨⟨.refl _, trivial⟩, rfl, rfl, congrArg (fun z => some (HObj.row (.slice aa m cap) z 6 54)) (List.nil_append _), trivial⟩ ?_
    conv => whnf
    exact ⟨_, .refl _, _, rfl, rfl⟩

/-- IndexFunc over boot entries that may be written. -/
theorem K70w (l : List BE) (hl : l.length < 1000000000) (v : Value) (fid : Nat) (caps : List D) (p : BE → Bool) (hp0 : ∀ k ∈ l, DFun Tryz.prog W0 fid (encB k :: caps) (.bool (p k))) : DCall Tryz.prog W0 70 [.raw v, .fn (.func fid) [] caps] (look [(2000, .row v (l.map encB) 6 54)]) fun d H' => d = .int .i64 (firstIdx p l) ∧ H' = look [(2000, .row v (l.map encB) 6 54)] := by
  refine DCall.intro ti_ok Tryz.func70 rfl (by decide +kernel) Tryz.ntmps70 rfl fun Γ => ?_
  refine Tri.seq ?_
  refine Tri.region ti_ok ?_
  conv => whnf
  refine Tri.seq ?_
  refine Tri.seq ?_
  refine Tri.regionG ti_ok ?_
  conv => whnf
  refine ⟨rfl, trivial, .inl ?_⟩
  conv => whnf
  refine ⟨rfl, trivial, .inr (XOp.rowLen ti_ok 2000 rfl rfl rfl rfl ?_)⟩
  conv => whnf
  refine ⟨rfl, trivial, .inl ?_⟩
  conv => whnf
  refine Tri.block ?_
  refine Tri.loopK (α := { i : Nat // i ≤ l.length ∧ ∀ j (h : j < l.length), j < i → p (l[j]) = false }) (fun x => [(0, .raw v), (1, .fn (.func fid) [] caps), (7, .int .i64 (l.map encB).length), (8, .int .i64 x.1)]) (fun _ => [(2000, .row v (l.map encB) 6 54)]) (fun x => l.length - x.1) ⟨0, by simp⟩ [(2000, 2000)] ⟨⟨.refl _, .refl _, .refl _, .refl _, trivial⟩, rfl, rfl, rfl, trivial⟩ ?_
  rintro ⟨i, hi, hp⟩
  dsimp only
  refine Tri.seq ?_
  refine Tri.region ti_ok ?_
  conv => whnf
  refine Tri.seq ?_
  refine Tri.cond (decide ((i : Int) < (l.map encB).length)) rfl (fun hc => ?_) (fun hc => ?_)
  · refine Tri.skip ?_
    conv => whnf
    refine Tri.seq ?_
    refine Tri.block ?_
    refine Tri.seq ?_
    refine Tri.region ti_ok ?_
    have hia : i < l.length := by simpa using hc
    conv => whnf
    refine Tri.seq ?_
    refine Tri.regionX ti_ok ?_
    conv => whnf
    refine .inr (XOp.rowIndex ti_ok 2000 rfl rfl rfl rfl rfl rfl rfl (by omega) (by simp; omega) ?_)
    conv => whnf
    refine .inr (XOp.rowLoad ti_ok 2000 (i := i) (y := encB l[i]) (by rw [Int.toNat_natCast]; rfl) rfl rfl (by simp [hia]) ?_)
    conv => whnf
    refine .inl ?_
    conv => whnf
    refine ⟨encB l[i] :: caps, _, fun _ => hp0 l[i] (List.getElem_mem hia), ⟨.refl _, LeL.refl _⟩, ?_⟩
    conv => whnf
    refine Tri.cond _ rfl (fun hc => ?_) (fun hc => ?_)
    · refine Tri.seq ?_
      refine Tri.region ti_ok ?_
      conv => whnf
      refine Tri.retK [(4, .int .i64 i)] [(2000, .row v (l.map encB) 6 54)] [(2000, 2000)] ⟨⟨.refl _, trivial⟩, rfl, rfl, rfl, trivial⟩ ?_
      conv => whnf
      exact ⟨_, .refl _, congrArg (D.int .i64) (firstIdx_some (p := p) hia hp hc).symm, rfl⟩
    · refine Tri.skip ?_
      conv => whnf
      refine Tri.region ti_ok ?_
      conv => whnf
      refine .inl ⟨fun _ => by simp [InR]; omega, ?_⟩
      conv => whnf
      exact ⟨⟨i + 1, by omega, fun j hj hlt => (Nat.lt_succ_iff_lt_or_eq.1 hlt).elim (hp j hj) fun e => by subst e; exact hc⟩, [(2000, 2000)], by show _ - (i + 1) < _ - i; omega, ⟨.refl _, .refl _, .refl _, .refl _, trivial⟩, rfl, rfl, rfl, trivial⟩
  · refine Tri.exit ?_
    conv => whnf
    refine Tri.seq ?_
    refine Tri.region ti_ok ?_
    conv => whnf
    refine Tri.retK [(4, .int .i64 (-1))] [(2000, .row v (l.map encB) 6 54)] [(2000, 2000)] ⟨⟨.refl _, trivial⟩, rfl, rfl, rfl, trivial⟩ ?_
    conv => whnf
    exact ⟨_, .refl _, congrArg (D.int .i64) (firstIdx_none (p := p) fun j hj => hp j hj (by simp at hc; omega)).symm, rfl⟩

theorem filter_none {p : BE → Bool} {l : List BE} (h : ∀ j (h : j < l.length), p l[j] = false) : l.filter (fun b => !p b) = l := by
  rw [List.filter_eq_self]
  intro a ha
  obtain ⟨i, hi, rfl⟩ := List.mem_iff_getElem.1 ha
  rw [h i hi]; rfl
theorem filter_all {p : BE → Bool} {l : List BE} {i : Nat} (hi : i ≤ l.length) (hpj : ∀ j (h : j < l.length), j < i → p l[j] = false) : (l.take i).filter (fun b => !p b) = l.take i := by
  refine filter_none fun j hj => ?_
  have hjl : j < i ∧ j < l.length := by rw [List.length_take] at hj; omega
  rw [List.getElem_take]
  exact hpj j hjl.2 hjl.1
theorem filter_take1 {p : BE → Bool} {l : List BE} {i : Nat} (hi : i < l.length) (hp : p l[i] = true) (hpj : ∀ j (h : j < l.length), j < i → p l[j] = false) : (l.take (i + 1)).filter (fun b => !p b) = l.take i := by
  rw [List.take_succ_eq_append_getElem hi, List.filter_append, filter_all (by omega) hpj]
  simp [hp]
theorem filter_skip {p : BE → Bool} {l ys : List BE} {i j : Nat} (hj : j < l.length) (h : ys.take i = (l.take j).filter (fun b => !p b)) (hp : p l[j] = true) : ys.take i = (l.take (j + 1)).filter (fun b => !p b) := by
  rw [List.take_succ_eq_append_getElem hj, List.filter_append, ← h]
  simp [hp]
theorem filter_keep {p : BE → Bool} {l ys : List BE} {i j : Nat} (hij : i < j) (hi : i < ys.length) (hj : j < l.length) (h : ys.take i = (l.take j).filter (fun b => !p b)) (hp : p l[j] = false) : (ys.set i l[j]).take (i + 1) = (l.take (j + 1)).filter (fun b => !p b) := by
  rw [List.take_succ_eq_append_getElem hj, List.filter_append, ← h, List.take_succ_eq_append_getElem (by simpa using hi), List.take_set_of_le (Nat.le_refl _)]
  simp [hp]
theorem drop_next {l ys : List BE} {j : Nat} (h : ys.drop j = l.drop j) : ys.drop (j + 1) = l.drop (j + 1) := by
  rw [← List.drop_drop, h, List.drop_drop]
theorem firstIdx_or {α : Type} (p : α → Bool) (l : List α) : (firstIdx p l = -1 ∧ ∀ j (h : j < l.length), p l[j] = false) ∨ ∃ (i : Nat) (h : i < l.length), firstIdx p l = i ∧ p l[i] = true ∧ ∀ j (h : j < l.length), j < i → p l[j] = false := by
  unfold firstIdx
  cases hf : l.findIdx? p with
  | none => exact .inl ⟨rfl, fun j hj => by simpa using List.findIdx?_eq_none_iff.1 hf _ (List.getElem_mem hj)⟩
  | some i =>
    obtain ⟨h1, h2, h3⟩ := List.findIdx?_eq_some_iff_getElem.1 hf
    exact .inr ⟨i, h1, rfl, h2, fun j hj hji => by simpa using h3 j hji⟩
/-- Nothing to delete. -/
theorem K38e (fid : Nat) (caps : List D) (hp0 : ∀ k ∈ ([] : List BE), DFun Tryz.prog W0 fid (encB k :: caps) (.bool false)) : DFun Tryz.prog W0 38 [.sl .none 6 [], .fn (.func fid) [] caps] (.sl .none 6 []) := by
  refine DFun.intro ti_ok Tryz.func38 rfl (by decide +kernel) Tryz.ntmps38 rfl fun Γ => ?_
  refine Tri.seq ?_
  refine Tri.region ti_ok ?_
  conv => whnf
  refine Tri.seq ?_
  refine Tri.region ti_ok ?_
  conv => whnf
  refine ⟨[.sl .none 6 [], .fn (.func fid) [] caps], _, fun _ => K70 [] (by simp) fid caps (fun _ => false) hp0, ⟨.refl _, .refl _, trivial⟩, ?_⟩
  conv => whnf
  refine Tri.seq ?_
  refine Tri.seq ?_
  refine Tri.region ti_ok ?_
  conv => whnf
  refine Tri.cond _ rfl (fun hc => ?_) (fun hc => ?_)
  · refine Tri.seq ?_
    refine Tri.region ti_ok ?_
    conv => whnf
    refine Tri.ret ?_
    conv => whnf
    exact .refl _
  · exfalso
    rw [show firstIdx (fun _ => false) ([] : List BE) = -1 from rfl] at hc
    simp at hc

/-- The entries that are not deleted. -/
theorem K38 (l : List BE) (hl : l.length < 1000000) (h0 : 0 < l.length) (v : Value) (fid : Nat) (caps : List D) (p : BE → Bool) (hp0 : ∀ k ∈ l, DFun Tryz.prog W0 fid (encB k :: caps) (.bool (p k))) : DCall Tryz.prog W0 38 [.raw v, .fn (.func fid) [] caps] (look [(2000, .row v (l.map encB) 6 54)]) fun d H' => ∃ a n c, d = .raw (.slice a n c) ∧ H' = look [(2000, .row (.slice a n c) ((l.filter fun b => !p b).map encB) 6 54)] := by
  refine DCall.intro ti_ok Tryz.func38 rfl (by decide +kernel) Tryz.ntmps38 rfl fun Γ => ?_
  refine Tri.rowKnow 2000 rfl (by simpa using h0) fun b cap hv hcl hcm => ?_
  subst hv
  simp only [List.length_map] at hcl
  refine Tri.seq ?_
  refine Tri.region ti_ok ?_
  conv => whnf
  refine Tri.seq ?_
  refine Tri.regionX ti_ok ?_
  conv => whnf
  refine .inr (XOp.call rfl [.raw (.slice (some ⟨b, 0, none⟩) (l.map encB).length cap), .fn (.func fid) [] caps] [(2000, 2000)] (DCall.heapK rfl (K70w l (by omega) _ fid caps p hp0)) rfl ⟨.refl _, .refl _, trivial⟩ ?_)
  rintro d H' ⟨rfl, rfl⟩
  refine ⟨_, .refl _, ?_⟩
  conv => whnf
  refine Tri.seq ?_
  refine Tri.seq ?_
  refine Tri.region ti_ok ?_
  conv => whnf
  refine Tri.cond _ rfl (fun hc => ?_) (fun hc => ?_)
  · refine Tri.seq ?_
    refine Tri.region ti_ok ?_
    conv => whnf
    have hn : ∀ j (h : j < l.length), p l[j] = false := by
      rcases firstIdx_or p l with ⟨_, h2⟩ | ⟨i, hi, h2, _⟩
      · exact h2
      · rw [h2] at hc; simp at hc
    refine Tri.retK [(4, .raw (.slice (some ⟨b, 0, none⟩) (l.map encB).length cap))] [(2000, .row (.slice (some ⟨b, 0, none⟩) (l.map encB).length cap) (l.map encB) 6 54)] [(2000, 2000)] ⟨⟨.refl _, trivial⟩, rfl, rfl, rfl, trivial⟩ ?_
    conv => whnf
    exact ⟨_, .refl _, _, _, _, rfl, congrArg (fun z => look [(2000, HObj.row (.slice (some ⟨b, 0, none⟩) (l.map encB).length cap) (List.map encB z) 6 54)]) (filter_none hn).symm⟩
  · obtain ⟨i0, hi0, hf, hpi, hpj⟩ : ∃ (i : Nat) (h : i < l.length), firstIdx p l = i ∧ p l[i] = true ∧ ∀ j (h : j < l.length), j < i → p l[j] = false := by
      rcases firstIdx_or p l with ⟨h1, _⟩ | h
      · rw [h1] at hc; simp at hc
      · exact h
    rw [hf]
    refine Tri.skip ?_
    conv => whnf
    refine Tri.seq ?_
    refine Tri.seq ?_
    refine Tri.region ti_ok ?_
    conv => whnf
    refine .inl ⟨fun _ => by simp [InR]; omega, ?_⟩
    conv => whnf
    refine Tri.block ?_
    refine Tri.loopK (α := { x : Nat × Nat × List BE // x.1 < x.2.1 ∧ x.2.1 ≤ l.length ∧ x.2.2.length = l.length ∧ x.2.2.take x.1 = (l.take x.2.1).filter (fun b => !p b) ∧ x.2.2.drop x.2.1 = l.drop x.2.1 }) (fun x => [(0, .raw (.slice (some ⟨b, 0, none⟩) (l.map encB).length cap)), (1, .fn (.func fid) [] caps), (5, .int .i64 x.1.1), (6, .int .i64 x.1.2.1)]) (fun x => [(2000, .row (.slice (some ⟨b, 0, none⟩) (l.map encB).length cap) (x.1.2.2.map encB) 6 54)]) (fun x => l.length - x.1.2.1) ⟨(i0, i0 + 1, l), by dsimp only; omega, by dsimp only; omega, rfl, (filter_take1 hi0 hpi hpj).symm, rfl⟩ [(2000, 2000)] ⟨⟨.refl _, .refl _, .refl _, .refl _, trivial⟩, rfl, rfl, rfl, trivial⟩ ?_
    rintro ⟨⟨i, j, ys⟩, hij, hj, hyl, hyt, hyd⟩
    dsimp only at hij hj hyl hyt hyd ⊢
    refine Tri.seq ?_
    refine Tri.seq ?_
    refine Tri.regionG ti_ok ?_
    conv => whnf
    refine ⟨rfl, trivial, .inl ?_⟩
    conv => whnf
    refine ⟨rfl, trivial, .inl ?_⟩
    conv => whnf
    refine ⟨rfl, trivial, .inr (XOp.rowLen ti_ok 2000 rfl rfl rfl rfl ?_)⟩
    conv => whnf
    refine ⟨rfl, trivial, .inl ?_⟩
    conv => whnf
    refine Tri.cond (decide ((j : Int) < (ys.map encB).length)) rfl (fun hc => ?_) (fun hc => ?_)
    · refine Tri.skip ?_
      conv => whnf
      have hja : j < l.length := by simp [hyl] at hc; omega
      have hgy : ys[j]? = some l[j] := by
        have h1 := congrArg (fun z => z[0]?) hyd
        simp only [List.getElem?_drop, Nat.add_zero] at h1
        rw [h1, List.getElem?_eq_getElem hja]
      refine Tri.seq ?_
      refine Tri.block ?_
      refine Tri.seq ?_
      refine Tri.regionX ti_ok ?_
      conv => whnf
      refine .inr (XOp.rowIndex ti_ok 2000 rfl rfl rfl rfl rfl rfl rfl (by omega) (by rw [List.length_map, hyl]; omega) ?_)
      conv => whnf
      refine .inr (XOp.rowLoad ti_ok 2000 (i := j) (y := encB l[j]) (by rw [Int.toNat_natCast]; rfl) rfl rfl (by simp [hgy]) ?_)
      conv => whnf
      intro bb
      conv => whnf
      refine .inl ?_
      conv => whnf
      refine ⟨rfl, ?_⟩
      conv => whnf
      refine Tri.seq ?_
      refine Tri.region ti_ok ?_
      conv => whnf
      refine ⟨rfl, ?_⟩
      conv => whnf
      refine ⟨encB l[j] :: caps, _, fun _ => hp0 l[j] (List.getElem_mem hja), ⟨.refl _, LeL.refl _⟩, ?_⟩
      conv => whnf
      refine Tri.cond _ rfl (fun hc => ?_) (fun hc => ?_)
      · refine Tri.seq ?_
        refine Tri.regionX ti_ok ?_
        conv => whnf
        refine .inl ?_
        conv => whnf
        refine ⟨rfl, ?_⟩
        conv => whnf
        refine .inr (XOp.rowIndex ti_ok 2000 rfl rfl rfl rfl rfl rfl rfl (by omega) (by rw [List.length_map, hyl]; omega) ?_)
        conv => whnf
        refine .inr (XOp.rowStoreS ti_ok 2000 (i := i) (by rw [Int.toNat_natCast]; rfl) rfl rfl rfl (by show i < (ys.map encB).length; rw [List.length_map, hyl]; omega) (cs := (encB l[j]).cells) rfl rfl rfl ?_)
        conv => whnf
        refine Tri.region ti_ok ?_
        conv => whnf
        refine .inl ⟨fun _ => by simp [InR]; omega, ?_⟩
        conv => whnf
        refine Tri.region ti_ok ?_
        conv => whnf
        refine .inl ⟨fun _ => by simp [InR]; omega, ?_⟩
        conv => whnf
        have hpj : p l[j] = false := by simpa using hc
        exact ⟨⟨(i + 1, j + 1, ys.set i l[j]), by dsimp only; omega, hja, by simp [hyl], filter_keep hij (by omega) hja hyt hpj, (List.drop_set_of_lt (show i < j + 1 by omega)).trans (drop_next hyd)⟩, [(2000, 2000)], by show _ - (j + 1) < _ - j; omega, ⟨.refl _, .refl _, .refl _, .refl _, trivial⟩, rfl, rfl, congrArg (fun z => some (HObj.row (.slice (some ⟨b, 0, none⟩) (l.map encB).length cap) z 6 54)) (List.map_set (f := encB)).symm, trivial⟩
      · refine Tri.skip ?_
        conv => whnf
        refine Tri.region ti_ok ?_
        conv => whnf
        refine .inl ⟨fun _ => by simp [InR]; omega, ?_⟩
        conv => whnf
        have hpj : p l[j] = true := by simpa using hc
        exact ⟨⟨(i, j + 1, ys), by dsimp only; omega, hja, hyl, filter_skip hja hyt hpj, drop_next hyd⟩, [(2000, 2000)], by show _ - (j + 1) < _ - j; omega, ⟨.refl _, .refl _, .refl _, .refl _, trivial⟩, rfl, rfl, rfl, trivial⟩
    · refine Tri.exit ?_
      have hjl : j = l.length := by simp [hyl] at hc; omega
      have hfil : ys.take i = l.filter (fun b => !p b) := by rw [hyt, hjl, List.take_length]
      have hz : ((ys.map encB).take i).length = i := by simp; omega
      have hci : (if cap = i then (some ⟨b, 0, none⟩ : Option Addr) else Option.map (fun x : Addr => x.add (i * 6)) (some ⟨b, 0, none⟩)) = some ⟨b, i * 6, none⟩ := by rw [if_neg (by omega)]; show some (Addr.add _ _) = _; rw [addr_addK]
      have hc0 : (if cap = 0 then (some ⟨b, 0, none⟩ : Option Addr) else Option.map (fun x : Addr => x.add (0 * 6)) (some ⟨b, 0, none⟩)) = some ⟨b, 0, none⟩ := by rw [if_neg (by omega)]; rfl
      refine Tri.rowShort (i := i) 2000 (show _ = some (HObj.row (.slice (some ⟨b, 0, none⟩) (ys.map encB).length cap) (ys.map encB) 6 54) by rw [show (ys.map encB).length = (l.map encB).length by simp [hyl]]; rfl) (by simp; omega) ?_
      conv => whnf
      refine Tri.seq ?_
      refine Tri.regionX ti_ok ?_
      conv => whnf
      refine .inr (XOp.cut ti_ok (l := i) (r := (l.map encB).length) rfl rfl rfl rfl (.inr ⟨_, _, rfl, rfl⟩) (.inl ⟨rfl, rfl⟩) (by simp; omega) (by simp; omega) ?_)
      rw [show (if cap = i then (some ⟨b, 0, none⟩ : Option Addr) else _) = some ⟨b, i * 6, none⟩ from hci]
      conv => whnf
      refine .inr (XOp.clearRow (s := 2000) (l := i) (m := (l.map encB).length - i) (cap := cap) (xs := (ys.map encB).take i) ti_ok rfl rfl rfl rfl rfl (fun z hz => by cases hz; rfl) rfl (show _ = some (HObj.row (.slice (some ⟨b, 0, none⟩) ((ys.map encB).take i).length cap) ((ys.map encB).take i) 6 54) by rw [hz]; rfl) rfl (by simp; omega) (by rw [hz]; omega) (by simp; omega) ?_)
      conv => whnf
      refine Tri.seq ?_
      refine Tri.regionX ti_ok ?_
      conv => whnf
      refine .inr (XOp.cut ti_ok (l := 0) (r := i) rfl rfl rfl rfl (.inl ⟨rfl, rfl⟩) (.inr ⟨_, _, rfl, rfl⟩) (by omega) (by omega) ?_)
      rw [show (if cap = 0 then (some ⟨b, 0, none⟩ : Option Addr) else _) = some ⟨b, 0, none⟩ from hc0]
      conv => whnf
      refine Tri.retK [(4, .raw (.slice (some ⟨b, 0, none⟩) i cap))] [(2000, .row (.slice (some ⟨b, 0, none⟩) i cap) ((ys.map encB).take i) 6 54)] [(2000, 2000)] ⟨⟨.refl _, trivial⟩, rfl, rfl, congrArg (fun n => some (HObj.row (.slice (some ⟨b, 0, none⟩) n cap) ((ys.map encB).take i) 6 54)) hz, trivial⟩ ?_
      conv => whnf
      exact ⟨_, .refl _, _, _, _, rfl, congrArg (fun z => look [(2000, HObj.row (.slice (some ⟨b, 0, none⟩) i cap) z 6 54)]) (by rw [← hfil, List.map_take])⟩
end Go.Tame.V
/- Contracts: the reference's parts of texts, targets; the rules of a node. By program (mk.py). -/
namespace Go.Tame.V
open Go Go.Proofs
variable {W0 : World}
set_option maxRecDepth 10000
set_option linter.unusedVariables false
set_option linter.unusedSimpArgs false

end Go.Tame.V
/- Contracts: the rules of a node. By program (mk.py). -/
namespace Go.Tame.V
open Go Go.Proofs
variable {W0 : World}
set_option maxRecDepth 10000
set_option linter.unusedVariables false
set_option linter.unusedSimpArgs false

theorem bif_or (a b : Bool) : (bif a then true else b) = (a || b) := by cases a <;> rfl
theorem bif_and (a b : Bool) : (bif a then b else false) = (a && b) := by cases a <;> rfl

/-- The first of f i, f (i + 1), .. (k of them) that is not zero. -/
def firstNZ (f : Nat → Int) : Nat → Nat → Int
  | _, 0 => 0
  | i, k + 1 => if f i = 0 then firstNZ f (i + 1) k else f i
theorem nz_hit {f : Nat → Int} {i n : Nat} (h : i < n) (hf : f i ≠ 0) : firstNZ f i (n - i) = f i := by
  obtain ⟨k, hk⟩ : ∃ k, n - i = k + 1 := ⟨n - i - 1, by omega⟩
  rw [hk, firstNZ, if_neg hf]
theorem nz_miss {f : Nat → Int} {i n : Nat} (h : i < n) (hf : f i = 0) : firstNZ f i (n - i) = firstNZ f (i + 1) (n - (i + 1)) := by
  obtain ⟨k, hk⟩ : ∃ k, n - i = k + 1 := ⟨n - i - 1, by omega⟩
  rw [hk, firstNZ, if_pos hf, show n - (i + 1) = k by omega]
theorem nz_end {f : Nat → Int} {i n : Nat} (h : ¬ i < n) : firstNZ f i (n - i) = 0 := by rw [show n - i = 0 by omega]; rfl

def ruleD (n : NV) (l : Int) : D := .agg [.str n.name, .int .i64 n.kind, .str n.text, .str n.target, .int .i64 n.n1, .int .i64 n.n2, .int .i64 n.n3, .int .i64 n.n4, .int .i64 n.n5, .int .i64 n.n6, .sl .none 12 (n.kids.map enc), .sl .none 2 (n.streams.map encS), .int .i64 l]

def cKind (n : NV) (l : Int) : Bool := (decide (n.kind < 0) || decide (2 < n.kind)) || (l == 1 && !(n.kind == 0))
def rKind (n : NV) (l : Int) : Int := if cKind n l then 1 else 0
theorem F78 (n : NV) (l : Int) : DFun Tryz.prog W0 82 [ruleD n l] (.int .i64 (rKind n l)) := by
  refine DFun.intro ti_ok Tryz.func82 rfl (by decide +kernel) Tryz.ntmps82 rfl fun Γ => ?_
  refine Tri.seq ?_
  refine Tri.region ti_ok ?_
  conv => whnf
  intro b
  conv => whnf
  refine Tri.seq ?_
  refine Tri.seq ?_
  refine Tri.region ti_ok ?_
  conv => whnf
  refine ⟨rfl, ?_⟩
  conv => whnf
  refine ⟨fun h => h, ?_⟩
  conv => whnf
  refine ⟨fun h => h, ?_⟩
  conv => whnf
  refine ⟨rfl, ?_⟩
  conv => whnf
  refine ⟨fun h => h, ?_⟩
  conv => whnf
  refine ⟨fun h0 h => by first | exact h | (rw [h]; rfl) | (rw [h0, h]; rfl), ?_⟩
  conv => whnf
  refine ⟨fun h => h, ?_⟩
  conv => whnf
  refine ⟨rfl, ?_⟩
  conv => whnf
  refine ⟨fun h => h, ?_⟩
  conv => whnf
  refine ⟨fun h => h, ?_⟩
  conv => whnf
  refine ⟨fun h => h, ?_⟩
  conv => whnf
  refine ⟨fun h => h, ?_⟩
  conv => whnf
  refine ⟨rfl, ?_⟩
  conv => whnf
  refine ⟨fun h => h, ?_⟩
  conv => whnf
  refine ⟨fun h => h, ?_⟩
  conv => whnf
  refine ⟨fun h0 h => by first | exact h | (rw [h]; rfl) | (rw [h0, h]; rfl), ?_⟩
  conv => whnf
  refine ⟨fun h0 h => by first | exact h | (rw [h]; rfl) | (rw [h0, h]; rfl), ?_⟩
  conv => whnf
  refine Tri.cond (cKind n l) (by simp only [cKind, ← bif_or, ← bif_and]; rfl) (fun hc => ?_) (fun hc => ?_)
  · refine Tri.seq ?_
    refine Tri.region ti_ok ?_
    conv => whnf
    refine Tri.ret ?_
    conv => whnf
    exact intDLe (by rw [rKind, hc]; rfl)
  · refine Tri.skip ?_
    conv => whnf
    refine Tri.seq ?_
    refine Tri.region ti_ok ?_
    conv => whnf
    refine Tri.ret ?_
    conv => whnf
    exact intDLe (by rw [rKind, hc]; rfl)

def cName (n : NV) (l : Int) : Bool := (l == 1 && !(n.name == [])) || (decide (1 < l) && !nameOk n.name)
def rName (n : NV) (l : Int) : Int := if cName n l then 4 else 0
theorem F79 (hL : LibOk W0) (n : NV) (l : Int) (hn : n.name.length < 1000000000) : DFun Tryz.prog W0 83 [ruleD n l] (.int .i64 (rName n l)) := by
  refine DFun.intro ti_ok Tryz.func83 rfl (by decide +kernel) Tryz.ntmps83 rfl fun Γ => ?_
  refine Tri.seq ?_
  refine Tri.region ti_ok ?_
  conv => whnf
  intro b
  conv => whnf
  refine Tri.seq ?_
  refine Tri.seq ?_
  refine Tri.region ti_ok ?_
  conv => whnf
  refine ⟨rfl, ?_⟩
  conv => whnf
  refine ⟨fun h => h, ?_⟩
  conv => whnf
  refine ⟨fun h => h, ?_⟩
  conv => whnf
  refine ⟨rfl, ?_⟩
  conv => whnf
  refine ⟨fun h => h, ?_⟩
  conv => whnf
  refine ⟨fun h0 h => by first | exact h | (rw [h]; rfl) | (rw [h0, h]; rfl), ?_⟩
  conv => whnf
  refine ⟨fun h => h, ?_⟩
  conv => whnf
  refine ⟨rfl, ?_⟩
  conv => whnf
  refine ⟨fun h => h, ?_⟩
  conv => whnf
  refine ⟨fun h => h, ?_⟩
  conv => whnf
  refine ⟨fun h => h, ?_⟩
  conv => whnf
  refine ⟨fun h => h, ?_⟩
  conv => whnf
  refine ⟨rfl, ?_⟩
  conv => whnf
  refine ⟨fun h => h, ?_⟩
  conv => whnf
  refine ⟨[.str n.name], _, fun h => F100 hL _ hn, ⟨.refl _, trivial⟩, ?_⟩
  conv => whnf
  refine ⟨fun h => h, ?_⟩
  conv => whnf
  refine ⟨fun h => h, ?_⟩
  conv => whnf
  refine ⟨fun h0 h => by first | exact h | (rw [h]; rfl) | (rw [h0, h]; rfl), ?_⟩
  conv => whnf
  refine ⟨fun h0 h => by first | exact h | (rw [h]; rfl) | (rw [h0, h]; rfl), ?_⟩
  conv => whnf
  refine Tri.cond (cName n l) (by simp only [cName, ← bif_or, ← bif_and]; rfl) (fun hc => ?_) (fun hc => ?_)
  · refine Tri.seq ?_
    refine Tri.region ti_ok ?_
    conv => whnf
    refine Tri.ret ?_
    conv => whnf
    exact intDLe (by rw [rName, hc]; rfl)
  · refine Tri.skip ?_
    conv => whnf
    refine Tri.seq ?_
    refine Tri.region ti_ok ?_
    conv => whnf
    refine Tri.ret ?_
    conv => whnf
    exact intDLe (by rw [rName, hc]; rfl)

def cParts (n : NV) : Bool := ((!(n.kind == 1) && (!(n.text == []) || decide (0 < (n.streams.length : Int)))) || (!(n.kind == 2) && !(n.target == []))) || (!(n.kind == 0) && decide (0 < (n.kids.length : Int)))
def rParts (n : NV) : Int := if cParts n then 1 else 0
theorem F80 (n : NV) (l : Int) : DFun Tryz.prog W0 84 [ruleD n l] (.int .i64 (rParts n)) := by
  refine DFun.intro ti_ok Tryz.func84 rfl (by decide +kernel) Tryz.ntmps84 rfl fun Γ => ?_
  refine Tri.seq ?_
  refine Tri.region ti_ok ?_
  conv => whnf
  intro b
  conv => whnf
  refine Tri.seq ?_
  refine Tri.region ti_ok ?_
  conv => whnf
  refine ⟨rfl, ?_⟩
  conv => whnf
  intro b2
  conv => whnf
  refine ⟨rfl, ?_⟩
  conv => whnf
  refine Tri.seq ?_
  refine Tri.seq ?_
  refine Tri.region ti_ok ?_
  conv => whnf
  refine ⟨rfl, ?_⟩
  conv => whnf
  refine ⟨fun h => h, ?_⟩
  conv => whnf
  refine ⟨rfl, ?_⟩
  conv => whnf
  refine ⟨fun h => h, ?_⟩
  conv => whnf
  refine ⟨fun h => h, ?_⟩
  conv => whnf
  refine ⟨fun h => h, ?_⟩
  conv => whnf
  refine ⟨rfl, ?_⟩
  conv => whnf
  refine ⟨fun h => h, ?_⟩
  conv => whnf
  refine ⟨fun h => h, ?_⟩
  conv => whnf
  refine ⟨fun h => h, ?_⟩
  conv => whnf
  refine ⟨fun h0 h => by first | exact h | (rw [h]; rfl) | (rw [h0, h]; rfl), ?_⟩
  conv => whnf
  refine ⟨fun h0 h => by first | exact h | (rw [h]; rfl) | (rw [h0, h]; rfl), ?_⟩
  conv => whnf
  refine ⟨fun h => h, ?_⟩
  conv => whnf
  refine ⟨rfl, ?_⟩
  conv => whnf
  refine ⟨fun h => h, ?_⟩
  conv => whnf
  refine ⟨fun h => h, ?_⟩
  conv => whnf
  refine ⟨fun h => h, ?_⟩
  conv => whnf
  refine ⟨rfl, ?_⟩
  conv => whnf
  refine ⟨fun h => h, ?_⟩
  conv => whnf
  refine ⟨fun h => h, ?_⟩
  conv => whnf
  refine ⟨fun h0 h => by first | exact h | (rw [h]; rfl) | (rw [h0, h]; rfl), ?_⟩
  conv => whnf
  refine ⟨fun h0 h => by first | exact h | (rw [h]; rfl) | (rw [h0, h]; rfl), ?_⟩
  conv => whnf
  refine ⟨fun h => h, ?_⟩
  conv => whnf
  refine ⟨rfl, ?_⟩
  conv => whnf
  refine ⟨fun h => h, ?_⟩
  conv => whnf
  refine ⟨fun h => h, ?_⟩
  conv => whnf
  refine ⟨fun h => h, ?_⟩
  conv => whnf
  refine ⟨rfl, ?_⟩
  conv => whnf
  refine ⟨fun h => h, ?_⟩
  conv => whnf
  refine ⟨fun h => h, ?_⟩
  conv => whnf
  refine ⟨fun h => h, ?_⟩
  conv => whnf
  refine ⟨fun h0 h => by first | exact h | (rw [h]; rfl) | (rw [h0, h]; rfl), ?_⟩
  conv => whnf
  refine ⟨fun h0 h => by first | exact h | (rw [h]; rfl) | (rw [h0, h]; rfl), ?_⟩
  conv => whnf
  refine Tri.cond (cParts n) ?_ (fun hc => ?_) (fun hc => ?_)
  · simp only [cParts, ← bif_or, ← bif_and]
    rw [show n.streams.length = (n.streams.map encS).length by simp, show n.kids.length = (n.kids.map enc).length by simp]; rfl
  · refine Tri.seq ?_
    refine Tri.region ti_ok ?_
    conv => whnf
    refine Tri.ret ?_
    conv => whnf
    exact intDLe (by rw [rParts, hc]; rfl)
  · refine Tri.skip ?_
    conv => whnf
    refine Tri.seq ?_
    refine Tri.region ti_ok ?_
    conv => whnf
    refine Tri.ret ?_
    conv => whnf
    exact intDLe (by rw [rParts, hc]; rfl)

def cTarget (n : NV) : Bool := n.kind == 2 && !targetOk n.target
def rTarget (n : NV) : Int := if cTarget n then 4 else 0
theorem F81 (hL : LibOk W0) (n : NV) (l : Int) (hn : n.target.length < 1000000000) : DFun Tryz.prog W0 85 [ruleD n l] (.int .i64 (rTarget n)) := by
  refine DFun.intro ti_ok Tryz.func85 rfl (by decide +kernel) Tryz.ntmps85 rfl fun Γ => ?_
  refine Tri.seq ?_
  refine Tri.region ti_ok ?_
  conv => whnf
  intro b
  conv => whnf
  refine Tri.seq ?_
  refine Tri.seq ?_
  refine Tri.region ti_ok ?_
  conv => whnf
  refine ⟨rfl, ?_⟩
  conv => whnf
  refine ⟨fun h => h, ?_⟩
  conv => whnf
  refine ⟨fun h => h, ?_⟩
  conv => whnf
  refine ⟨rfl, ?_⟩
  conv => whnf
  refine ⟨fun h => h, ?_⟩
  conv => whnf
  refine ⟨[.str n.target], _, fun h => F101 hL _ hn, ⟨.refl _, trivial⟩, ?_⟩
  conv => whnf
  refine ⟨fun h => h, ?_⟩
  conv => whnf
  refine ⟨fun h0 h => by first | exact h | (rw [h]; rfl) | (rw [h0, h]; rfl), ?_⟩
  conv => whnf
  refine Tri.cond (cTarget n) (by simp only [cTarget, ← bif_or, ← bif_and]; rfl) (fun hc => ?_) (fun hc => ?_)
  · refine Tri.seq ?_
    refine Tri.region ti_ok ?_
    conv => whnf
    refine Tri.ret ?_
    conv => whnf
    exact intDLe (by rw [rTarget, hc]; rfl)
  · refine Tri.skip ?_
    conv => whnf
    refine Tri.seq ?_
    refine Tri.region ti_ok ?_
    conv => whnf
    refine Tri.ret ?_
    conv => whnf
    exact intDLe (by rw [rTarget, hc]; rfl)

def within (n a b : Int) : Bool := decide (a ≤ n) && decide (n ≤ b)
theorem F102 (n a b : Int) : DFun Tryz.prog W0 107 [.int .i64 n, .int .i64 a, .int .i64 b] (.bool (within n a b)) := by
  refine DFun.intro ti_ok Tryz.func107 rfl (by decide +kernel) Tryz.ntmps107 rfl fun Γ => ?_
  refine Tri.seq ?_
  refine Tri.region ti_ok ?_
  conv => whnf
  refine Tri.seq ?_
  refine Tri.region ti_ok ?_
  conv => whnf
  refine ⟨fun h => h, ?_⟩
  conv => whnf
  refine ⟨fun h => h, ?_⟩
  conv => whnf
  refine ⟨fun h0 h => by first | exact h | (rw [h]; rfl) | (rw [h0, h]; rfl), ?_⟩
  conv => whnf
  refine Tri.ret ?_
  conv => whnf
  exact DLe.of_eq (congrArg D.bool (bif_and _ _))
def cNumbers (n : NV) : Bool := ((((!within n.n1 0 4095 || !within n.n2 0 65535) || !within n.n3 0 65535) || !within n.n4 315532800 4102444799) || !within n.n5 (-1048576) 1048576) || !within n.n6 0 15
def rNumbers (n : NV) : Int := if cNumbers n then 2 else 0
theorem F82 (n : NV) (l : Int) : DFun Tryz.prog W0 86 [ruleD n l] (.int .i64 (rNumbers n)) := by
  refine DFun.intro ti_ok Tryz.func86 rfl (by decide +kernel) Tryz.ntmps86 rfl fun Γ => ?_
  refine Tri.seq ?_
  refine Tri.region ti_ok ?_
  conv => whnf
  intro b
  conv => whnf
  refine Tri.seq ?_
  refine Tri.region ti_ok ?_
  conv => whnf
  refine ⟨rfl, ?_⟩
  conv => whnf
  intro b2
  conv => whnf
  refine ⟨rfl, ?_⟩
  conv => whnf
  refine Tri.seq ?_
  refine Tri.region ti_ok ?_
  conv => whnf
  refine Tri.seq ?_
  refine Tri.seq ?_
  refine Tri.region ti_ok ?_
  conv => whnf
  refine ⟨rfl, ?_⟩
  conv => whnf
  refine ⟨[.int .i64 n.n1, .int .i64 0, .int .i64 4095], _, fun h => F102 _ _ _, ⟨.refl _, .refl _, .refl _, trivial⟩, ?_⟩
  conv => whnf
  refine ⟨fun h => h, ?_⟩
  conv => whnf
  refine ⟨rfl, ?_⟩
  conv => whnf
  refine ⟨fun h => h, ?_⟩
  conv => whnf
  refine ⟨fun h => h, ?_⟩
  conv => whnf
  refine ⟨[.int .i64 n.n2, .int .i64 0, .int .i64 65535], _, fun h => F102 _ _ _, ⟨.refl _, .refl _, .refl _, trivial⟩, ?_⟩
  conv => whnf
  refine ⟨fun h => h, ?_⟩
  conv => whnf
  refine ⟨fun h0 h => by first | exact h | (rw [h]; rfl) | (rw [h0, h]; rfl), ?_⟩
  conv => whnf
  refine ⟨fun h => h, ?_⟩
  conv => whnf
  refine ⟨rfl, ?_⟩
  conv => whnf
  refine ⟨fun h => h, ?_⟩
  conv => whnf
  refine ⟨fun h => h, ?_⟩
  conv => whnf
  refine ⟨[.int .i64 n.n3, .int .i64 0, .int .i64 65535], _, fun h => F102 _ _ _, ⟨.refl _, .refl _, .refl _, trivial⟩, ?_⟩
  conv => whnf
  refine ⟨fun h => h, ?_⟩
  conv => whnf
  refine ⟨fun h0 h => by first | exact h | (rw [h]; rfl) | (rw [h0, h]; rfl), ?_⟩
  conv => whnf
  refine ⟨fun h => h, ?_⟩
  conv => whnf
  refine ⟨rfl, ?_⟩
  conv => whnf
  refine ⟨fun h => h, ?_⟩
  conv => whnf
  refine ⟨fun h => h, ?_⟩
  conv => whnf
  refine ⟨[.int .i64 n.n4, .int .i64 315532800, .int .i64 4102444799], _, fun h => F102 _ _ _, ⟨.refl _, .refl _, .refl _, trivial⟩, ?_⟩
  conv => whnf
  refine ⟨fun h => h, ?_⟩
  conv => whnf
  refine ⟨fun h0 h => by first | exact h | (rw [h]; rfl) | (rw [h0, h]; rfl), ?_⟩
  conv => whnf
  refine ⟨fun h => h, ?_⟩
  conv => whnf
  refine ⟨rfl, ?_⟩
  conv => whnf
  refine ⟨fun h => h, ?_⟩
  conv => whnf
  refine ⟨fun h => h, ?_⟩
  conv => whnf
  refine ⟨[.int .i64 n.n5, .int .i64 (-1048576), .int .i64 1048576], _, fun h => F102 _ _ _, ⟨.refl _, .refl _, .refl _, trivial⟩, ?_⟩
  conv => whnf
  refine ⟨fun h => h, ?_⟩
  conv => whnf
  refine ⟨fun h0 h => by first | exact h | (rw [h]; rfl) | (rw [h0, h]; rfl), ?_⟩
  conv => whnf
  refine ⟨fun h => h, ?_⟩
  conv => whnf
  refine ⟨rfl, ?_⟩
  conv => whnf
  refine ⟨fun h => h, ?_⟩
  conv => whnf
  refine ⟨fun h => h, ?_⟩
  conv => whnf
  refine ⟨[.int .i64 n.n6, .int .i64 0, .int .i64 15], _, fun h => F102 _ _ _, ⟨.refl _, .refl _, .refl _, trivial⟩, ?_⟩
  conv => whnf
  refine ⟨fun h => h, ?_⟩
  conv => whnf
  refine ⟨fun h0 h => by first | exact h | (rw [h]; rfl) | (rw [h0, h]; rfl), ?_⟩
  conv => whnf
  refine Tri.cond (cNumbers n) (by simp only [cNumbers, ← bif_or]; rfl) (fun hc => ?_) (fun hc => ?_)
  · refine Tri.seq ?_
    refine Tri.region ti_ok ?_
    conv => whnf
    refine Tri.ret ?_
    conv => whnf
    exact intDLe (by rw [rNumbers, hc]; rfl)
  · refine Tri.skip ?_
    conv => whnf
    refine Tri.seq ?_
    refine Tri.region ti_ok ?_
    conv => whnf
    refine Tri.ret ?_
    conv => whnf
    exact intDLe (by rw [rNumbers, hc]; rfl)
end Go.Tame.V
/- Contracts: the rules of a node, with loops. By program (mk.py). -/
namespace Go.Tame.V
open Go Go.Proofs
variable {W0 : World}
set_option maxRecDepth 10000
set_option linter.unusedVariables false
set_option linter.unusedSimpArgs false

theorem cmp_zero : ∀ a b : List UInt8, Lib.compareBytes a b = 0 ↔ a = b
  | [], [] => by simp [Lib.compareBytes]
  | [], _ :: _ => by simp [Lib.compareBytes]
  | _ :: _, [] => by simp [Lib.compareBytes]
  | a :: xs, b :: bs => by
    have ih := cmp_zero xs bs
    simp only [Lib.compareBytes, List.cons.injEq]
    by_cases h1 : a < b
    · rw [if_pos h1]
      exact ⟨fun h => by simp at h, fun h => by rw [h.1] at h1; exact absurd h1 (UInt8.lt_irrefl _)⟩
    · rw [if_neg h1]
      by_cases h2 : b < a
      · rw [if_pos h2]
        exact ⟨fun h => by simp at h, fun h => by rw [h.1] at h2; exact absurd h2 (UInt8.lt_irrefl _)⟩
      · rw [if_neg h2, ih]
        have : a = b := UInt8.le_antisymm (UInt8.not_lt.1 h2) (UInt8.not_lt.1 h1)
        simp [this]
theorem cmp_one : ∀ a b : List UInt8, Lib.compareBytes a b = 1 ↔ Op.bytesLess b a = true
  | [], [] => by simp [Lib.compareBytes, Op.bytesLess]
  | [], _ :: _ => by simp [Lib.compareBytes, Op.bytesLess]
  | _ :: _, [] => by simp [Lib.compareBytes, Op.bytesLess]
  | a :: xs, b :: bs => by
    have ih := cmp_one xs bs
    simp only [Lib.compareBytes, Op.bytesLess, Bool.or_eq_true, Bool.and_eq_true, decide_eq_true_eq, beq_iff_eq]
    by_cases h1 : a < b
    · rw [if_pos h1]
      refine ⟨fun h => by simp at h, fun h => ?_⟩
      rcases h with h | ⟨h, _⟩
      · exact absurd (UInt8.lt_trans h h1) (UInt8.lt_irrefl _)
      · rw [h] at h1; exact absurd h1 (UInt8.lt_irrefl _)
    · rw [if_neg h1]
      by_cases h2 : b < a
      · rw [if_pos h2]; simp [h2]
      · rw [if_neg h2, ih]
        have : b = a := UInt8.le_antisymm (UInt8.not_lt.1 h1) (UInt8.not_lt.1 h2)
        simp [this, UInt8.lt_irrefl]
def ordE (a b : List UInt8) : Int := if a = b then 5 else if Op.bytesLess b a then 1 else 0
theorem F103 (a b : List UInt8) : DFun Tryz.prog W0 108 [.str a, .str b] (.int .i64 (ordE a b)) := by
  refine DFun.intro ti_ok Tryz.func108 rfl (by decide +kernel) Tryz.ntmps108 rfl fun Γ => ?_
  refine Tri.seq ?_
  refine Tri.region ti_ok ?_
  conv => whnf
  refine Tri.seq ?_
  refine Tri.seq ?_
  refine Tri.region ti_ok ?_
  conv => whnf
  refine ⟨_, _, fun _ => F110 a b, ⟨.refl _, .refl _, trivial⟩, ?_⟩
  conv => whnf
  refine Tri.block ?_
  refine Tri.seq ?_
  refine Tri.region ti_ok ?_
  conv => whnf
  refine Tri.cond _ rfl (fun hc => ?_) (fun hc => ?_)
  · refine Tri.seq ?_
    refine Tri.region ti_ok ?_
    conv => whnf
    refine Tri.ret ?_
    conv => whnf
    exact intDLe (by rw [ordE, if_pos ((cmp_zero a b).1 (by simpa using hc))])
  · refine Tri.seq ?_
    have h0 : a ≠ b := fun e => by have := (cmp_zero a b).2 e; rw [this] at hc; simp at hc
    refine Tri.region ti_ok ?_
    conv => whnf
    refine Tri.cond _ rfl (fun hc => ?_) (fun hc => ?_)
    · refine Tri.seq ?_
      refine Tri.region ti_ok ?_
      conv => whnf
      refine Tri.ret ?_
      conv => whnf
      exact intDLe (by rw [ordE, if_neg h0, if_pos ((cmp_one a b).1 (by simpa using hc))])
    · refine Tri.skip ?_
      conv => whnf
      refine Tri.seq ?_
      refine Tri.region ti_ok ?_
      conv => whnf
      refine Tri.ret ?_
      conv => whnf
      exact intDLe (by rw [ordE, if_neg h0, if_neg]; intro e; have := (cmp_one a b).2 e; rw [this] at hc; simp at hc)

def stAt (n : NV) (i : Nat) : SV := n.streams.getD i default
def kAt (n : NV) (i : Nat) : NV := n.kids.getD i default
theorem get_st (n : NV) {i : Nat} (h : i < n.streams.length) : (n.streams.map encS)[i]? = some (encS (stAt n i)) := by simp [stAt, List.getD, h]
theorem get_kk (n : NV) {i : Nat} (h : i < n.kids.length) : (n.kids.map enc)[i]? = some (encTop (kAt n i)) := by rw [← enc_eq]; simp [kAt, List.getD, h]
theorem pred_toNat {i : Nat} (h : 0 < i) : ((i : Int) - 1).toNat = i - 1 := by omega
theorem st_sz (n : NV) {i : Nat} (h : i < n.streams.length) : (stAt n i).name.length + (stAt n i).target.length + 2 ≤ sz n := by
  have h1 := szS_get h
  have h2 := sz_eq n
  have : stAt n i = n.streams[i] := by simp [stAt, List.getD, h]
  rw [this]; omega
theorem streams_len (n : NV) : 2 * n.streams.length + 2 ≤ sz n := by have := szS_len n.streams; have := sz_eq n; omega

def cSizes (n : NV) (l : Int) : Bool := ((decide (16 < l) || decide (262144 < (n.text.length : Int))) || decide (64 < (n.kids.length : Int))) || decide (4 < (n.streams.length : Int))
def fZ (n : NV) (i : Nat) : Int := if decide (262144 < ((stAt n i).target.length : Int)) then 7 else 0
def rSizes (n : NV) (l : Int) : Int := if cSizes n l then 7 else firstNZ (fZ n) 0 n.streams.length
theorem F83 (n : NV) (l : Int) (hz : sz n < 1000000000) : DFun Tryz.prog W0 87 [ruleD n l] (.int .i64 (rSizes n l)) := by
  refine DFun.intro ti_ok Tryz.func87 rfl (by decide +kernel) Tryz.ntmps87 rfl fun Γ => ?_
  refine Tri.seq ?_
  refine Tri.region ti_ok ?_
  conv => whnf
  intro b
  conv => whnf
  refine Tri.seq ?_
  refine Tri.region ti_ok ?_
  conv => whnf
  refine ⟨rfl, ?_⟩
  conv => whnf
  intro b2
  conv => whnf
  refine ⟨rfl, ?_⟩
  conv => whnf
  refine Tri.seq ?_
  refine Tri.seq ?_
  refine Tri.region ti_ok ?_
  conv => whnf
  refine ⟨rfl, ?_⟩
  conv => whnf
  refine ⟨fun h => h, ?_⟩
  conv => whnf
  refine ⟨rfl, ?_⟩
  conv => whnf
  refine ⟨fun h => h, ?_⟩
  conv => whnf
  refine ⟨fun h => h, ?_⟩
  conv => whnf
  refine ⟨fun h0 h => by first | exact h | (rw [h]; rfl) | (rw [h0, h]; rfl), ?_⟩
  conv => whnf
  refine ⟨fun h => h, ?_⟩
  conv => whnf
  refine ⟨rfl, ?_⟩
  conv => whnf
  refine ⟨fun h => h, ?_⟩
  conv => whnf
  refine ⟨fun h => h, ?_⟩
  conv => whnf
  refine ⟨fun h0 h => by first | exact h | (rw [h]; rfl) | (rw [h0, h]; rfl), ?_⟩
  conv => whnf
  refine ⟨fun h => h, ?_⟩
  conv => whnf
  refine ⟨rfl, ?_⟩
  conv => whnf
  refine ⟨fun h => h, ?_⟩
  conv => whnf
  refine ⟨fun h => h, ?_⟩
  conv => whnf
  refine ⟨fun h0 h => by first | exact h | (rw [h]; rfl) | (rw [h0, h]; rfl), ?_⟩
  conv => whnf
  refine Tri.cond (cSizes n l) ?_ (fun hc => ?_) (fun hc => ?_)
  · simp only [cSizes, ← bif_or, ← bif_and]
    rw [show n.streams.length = (n.streams.map encS).length by simp, show n.kids.length = (n.kids.map enc).length by simp]; rfl
  · refine Tri.seq ?_
    refine Tri.region ti_ok ?_
    conv => whnf
    refine Tri.ret ?_
    conv => whnf
    exact intDLe (by rw [rSizes, hc]; rfl)
  · refine Tri.skip ?_
    have hR : rSizes n l = firstNZ (fZ n) 0 (n.streams.length - 0) := by rw [rSizes, hc]; rfl
    have hsl := streams_len n
    conv => whnf
    refine Tri.seq ?_
    refine Tri.seq ?_
    refine Tri.region ti_ok ?_
    conv => whnf
    refine ⟨rfl, ?_⟩
    conv => whnf
    refine Tri.block ?_
    refine Tri.loop (α := { i : Nat // i ≤ n.streams.length ∧ rSizes n l = firstNZ (fZ n) i (n.streams.length - i) }) (fun x => [(30, .sl .none 2 (n.streams.map encS)), (31, .int .i64 (n.streams.map encS).length), (32, .int .i64 x.1)]) (fun _ => []) (fun x => n.streams.length - x.1) ⟨0, by omega, hR⟩ ⟨.refl _, .refl _, .refl _, trivial⟩ trivial ?_
    rintro ⟨i, hi, hp⟩
    dsimp only
    refine Tri.seq ?_
    refine Tri.region ti_ok ?_
    conv => whnf
    refine Tri.seq ?_
    refine Tri.cond _ rfl (fun hc => ?_) (fun hc => ?_)
    · refine Tri.skip ?_
      conv => whnf
      have hia : i < n.streams.length := by simpa using hc
      refine Tri.seq ?_
      refine Tri.block ?_
      refine Tri.seq ?_
      refine Tri.region ti_ok ?_
      conv => whnf
      refine ⟨fun _ => by simp; omega, ?_⟩
      conv => whnf
      refine ⟨encS (stAt n i), fun _ => get_st n hia, ?_⟩
      conv => whnf
      intro b3
      conv => whnf
      refine ⟨rfl, ?_⟩
      conv => whnf
      refine Tri.seq ?_
      refine Tri.region ti_ok ?_
      conv => whnf
      refine ⟨rfl, ?_⟩
      conv => whnf
      refine Tri.cond _ rfl (fun hc => ?_) (fun hc => ?_)
      · refine Tri.seq ?_
        refine Tri.region ti_ok ?_
        conv => whnf
        refine Tri.ret ?_
        conv => whnf
        have hf : fZ n i = 7 := by rw [fZ, if_pos hc]
        exact intDLe (by rw [hp, nz_hit hia (by rw [hf]; decide), hf])
      · refine Tri.skip ?_
        conv => whnf
        refine Tri.region ti_ok ?_
        conv => whnf
        refine .inl ⟨fun _ => by simp [InR]; omega, ?_⟩
        conv => whnf
        exact ⟨⟨i + 1, by omega, by rw [hp, nz_miss hia (by rw [fZ, hc]; rfl)]⟩, by show _ - (i + 1) < _ - i; omega, ⟨.refl _, .refl _, .refl _, trivial⟩, trivial⟩
    · refine Tri.exit ?_
      conv => whnf
      refine Tri.seq ?_
      refine Tri.region ti_ok ?_
      conv => whnf
      refine Tri.ret ?_
      conv => whnf
      exact intDLe (by rw [hp, nz_end (by simpa using hc)])
def fS (n : NV) (i : Nat) : Int := if nameOk (stAt n i).name then (if 0 < i then ordE (stAt n (i - 1)).name (stAt n i).name else 0) else 4
def rStreams (n : NV) : Int := firstNZ (fS n) 0 n.streams.length
theorem F84 (hL : LibOk W0) (n : NV) (l : Int) (hz : sz n < 1000000000) : DFun Tryz.prog W0 88 [ruleD n l] (.int .i64 (rStreams n)) := by
  refine DFun.intro ti_ok Tryz.func88 rfl (by decide +kernel) Tryz.ntmps88 rfl fun Γ => ?_
  refine Tri.seq ?_
  refine Tri.region ti_ok ?_
  conv => whnf
  intro b
  conv => whnf
  refine Tri.seq ?_
  refine Tri.seq ?_
  refine Tri.region ti_ok ?_
  conv => whnf
  refine ⟨rfl, ?_⟩
  conv => whnf
  
  have hsl := streams_len n
  refine Tri.block ?_
  refine Tri.loop (α := { i : Nat // i ≤ n.streams.length ∧ rStreams n = firstNZ (fS n) i (n.streams.length - i) }) (fun x => [(1, .box 1 b 0), (8, .sl .none 2 (n.streams.map encS)), (9, .int .i64 (n.streams.map encS).length), (10, .int .i64 x.1)])
    (fun _ => [(1, .box b [.str n.name, .int .i64 n.kind, .str n.text, .str n.target, .int .i64 n.n1, .int .i64 n.n2, .int .i64 n.n3, .int .i64 n.n4, .int .i64 n.n5, .int .i64 n.n6, .sl .none 12 (n.kids.map enc), .sl .none 2 (n.streams.map encS), .int .i64 l])]) (fun x => n.streams.length - x.1) ⟨0, by omega, rfl⟩ ⟨.refl _, .refl _, .refl _, .refl _, trivial⟩ ⟨rfl, trivial⟩ ?_
  rintro ⟨i, hi, hp⟩
  dsimp only
  refine Tri.seq ?_
  refine Tri.region ti_ok ?_
  conv => whnf
  refine Tri.seq ?_
  refine Tri.cond _ rfl (fun hc => ?_) (fun hc => ?_)
  · refine Tri.skip ?_
    conv => whnf
    have hia : i < n.streams.length := by simpa using hc
    have hss := st_sz n hia
    refine Tri.seq ?_
    refine Tri.block ?_
    refine Tri.seq ?_
    refine Tri.region ti_ok ?_
    conv => whnf
    refine ⟨fun _ => by simp; omega, ?_⟩
    conv => whnf
    refine ⟨encS (stAt n i), fun _ => get_st n hia, ?_⟩
    conv => whnf
    intro b3
    conv => whnf
    refine ⟨rfl, ?_⟩
    conv => whnf
    refine Tri.seq ?_
    refine Tri.seq ?_
    refine Tri.region ti_ok ?_
    conv => whnf
    refine ⟨rfl, ?_⟩
    conv => whnf
    refine ⟨[.str (stAt n i).name], _, fun _ => F100 hL _ (by omega), ⟨.refl _, trivial⟩, ?_⟩
    conv => whnf
    refine Tri.cond _ rfl (fun hc => ?_) (fun hc => ?_)
    · refine Tri.seq ?_
      refine Tri.region ti_ok ?_
      conv => whnf
      refine Tri.ret ?_
      conv => whnf
      have hf : fS n i = 4 := by rw [fS, if_neg (by simpa using hc)]
      exact intDLe (by rw [hp, nz_hit hia (by rw [hf]; decide), hf])
    · refine Tri.skip ?_
      have hok : nameOk (stAt n i).name = true := by simpa using hc
      conv => whnf
      refine Tri.seq ?_
      refine Tri.region ti_ok ?_
      conv => whnf
      refine Tri.cond _ rfl (fun hc => ?_) (fun hc => ?_)
      · refine Tri.seq ?_
        have hi0 : 0 < i := by simpa using hc
        have hf : fS n i = ordE (stAt n (i - 1)).name (stAt n i).name := by rw [fS, if_pos hok, if_pos hi0]
        refine Tri.draw ti_ok mixed (by kernel_rfl) ?_
        conv => whnf
        refine ⟨rfl, ?_⟩
        conv => whnf
        refine .inl ⟨fun _ => by simp [InR]; omega, ?_⟩
        conv => whnf
        refine ⟨fun _ => by simp; omega, ?_⟩
        conv => whnf
        refine ⟨encS (stAt n (i - 1)), fun _ => by rw [pred_toNat hi0]; exact get_st n (by omega), ?_⟩
        conv => whnf
        refine ⟨rfl, ?_⟩
        conv => whnf
        refine ⟨[.str (stAt n (i - 1)).name, .str (stAt n i).name], _, fun _ => F103 _ _, ⟨.refl _, .refl _, trivial⟩, ?_⟩
        conv => whnf
        refine Tri.seq ?_
        refine Tri.region ti_ok ?_
        conv => whnf
        refine Tri.cond _ rfl (fun hc => ?_) (fun hc => ?_)
        · refine Tri.seq ?_
          refine Tri.region ti_ok ?_
          conv => whnf
          refine Tri.ret ?_
          conv => whnf
          exact intDLe (by rw [hp, nz_hit hia (by rw [hf]; simpa using hc), hf])
        · refine Tri.skip ?_
          conv => whnf
          refine Tri.region ti_ok ?_
          conv => whnf
          refine .inl ⟨fun _ => by simp [InR]; omega, ?_⟩
          conv => whnf
          exact ⟨⟨i + 1, by omega, by rw [hp, nz_miss hia (by rw [hf]; simpa using hc)]⟩, by show _ - (i + 1) < _ - i; omega, ⟨.refl _, .refl _, .refl _, .refl _, trivial⟩, ⟨rfl, trivial⟩⟩
      · refine Tri.skip ?_
        conv => whnf
        refine Tri.region ti_ok ?_
        conv => whnf
        refine .inl ⟨fun _ => by simp [InR]; omega, ?_⟩
        conv => whnf
        have hf : fS n i = 0 := by rw [fS, if_pos hok, if_neg (by simpa using hc)]
        exact ⟨⟨i + 1, by omega, by rw [hp, nz_miss hia hf]⟩, by show _ - (i + 1) < _ - i; omega, ⟨.refl _, .refl _, .refl _, .refl _, trivial⟩, ⟨rfl, trivial⟩⟩
  · refine Tri.exit ?_
    conv => whnf
    refine Tri.seq ?_
    refine Tri.region ti_ok ?_
    conv => whnf
    refine Tri.ret ?_
    conv => whnf
    exact intDLe (by rw [hp, nz_end (by simpa using hc)])

def fK (n : NV) (i : Nat) : Int := ordE (kAt n (i - 1)).name (kAt n i).name
def rKids (n : NV) : Int := firstNZ (fK n) 1 (n.kids.length - 1)
theorem F85 (n : NV) (l : Int) (hz : sz n < 1000000000) : DFun Tryz.prog W0 89 [ruleD n l] (.int .i64 (rKids n)) := by
  refine DFun.intro ti_ok Tryz.func89 rfl (by decide +kernel) Tryz.ntmps89 rfl fun Γ => ?_
  refine Tri.seq ?_
  refine Tri.region ti_ok ?_
  conv => whnf
  intro b
  conv => whnf
  refine Tri.seq ?_
  refine Tri.seq ?_
  refine Tri.region ti_ok ?_
  conv => whnf
  have hsl := kids_len n
  refine Tri.block ?_
  refine Tri.loop (α := { i : Nat // 1 ≤ i ∧ i ≤ n.kids.length + 1 ∧ rKids n = firstNZ (fK n) i (n.kids.length - i) }) (fun x => [(1, .box 1 b 0), (3, .int .i64 x.1)])
    (fun _ => [(1, .box b [.str n.name, .int .i64 n.kind, .str n.text, .str n.target, .int .i64 n.n1, .int .i64 n.n2, .int .i64 n.n3, .int .i64 n.n4, .int .i64 n.n5, .int .i64 n.n6, .sl .none 12 (n.kids.map enc), .sl .none 2 (n.streams.map encS), .int .i64 l])]) (fun x => n.kids.length + 1 - x.1) ⟨1, by omega, by omega, rfl⟩ ⟨.refl _, .refl _, trivial⟩ ⟨rfl, trivial⟩ ?_
  rintro ⟨i, hi1, hi, hp⟩
  dsimp only
  refine Tri.seq ?_
  refine Tri.seq ?_
  refine Tri.region ti_ok ?_
  conv => whnf
  refine ⟨rfl, ?_⟩
  conv => whnf
  refine Tri.cond _ rfl (fun hc => ?_) (fun hc => ?_)
  · refine Tri.skip ?_
    conv => whnf
    have hia : i < n.kids.length := by simpa using hc
    refine Tri.seq ?_
    refine Tri.block ?_
    refine Tri.seq ?_
    refine Tri.draw ti_ok mixed (by kernel_rfl) ?_
    conv => whnf
    refine ⟨rfl, ?_⟩
    conv => whnf
    refine .inl ⟨fun _ => by simp only [InR]; omega, ?_⟩
    conv => whnf
    refine ⟨fun _ => by simp; omega, ?_⟩
    conv => whnf
    refine ⟨encTop (kAt n (i - 1)), fun _ => by rw [pred_toNat (by omega)]; exact get_kk n (by omega), ?_⟩
    conv => whnf
    refine ⟨rfl, ?_⟩
    conv => whnf
    refine ⟨fun _ => by simp; omega, ?_⟩
    conv => whnf
    refine ⟨encTop (kAt n i), fun _ => get_kk n hia, ?_⟩
    conv => whnf
    refine ⟨[.str (kAt n (i - 1)).name, .str (kAt n i).name], _, fun _ => F103 _ _, ⟨.refl _, .refl _, trivial⟩, ?_⟩
    conv => whnf
    refine Tri.seq ?_
    refine Tri.region ti_ok ?_
    conv => whnf
    refine Tri.cond _ rfl (fun hc => ?_) (fun hc => ?_)
    · refine Tri.seq ?_
      refine Tri.region ti_ok ?_
      conv => whnf
      refine Tri.ret ?_
      conv => whnf
      exact intDLe (by rw [hp, nz_hit hia (by rw [fK]; simpa using hc), fK])
    · refine Tri.skip ?_
      conv => whnf
      refine Tri.region ti_ok ?_
      conv => whnf
      refine .inl ⟨fun _ => by simp [InR]; omega, ?_⟩
      conv => whnf
      exact ⟨⟨i + 1, by omega, by omega, by rw [hp, nz_miss hia (by rw [fK]; simpa using hc)]⟩, by show _ + 1 - (i + 1) < _ + 1 - i; omega, ⟨.refl _, .refl _, trivial⟩, ⟨rfl, trivial⟩⟩
  · refine Tri.exit ?_
    conv => whnf
    refine Tri.seq ?_
    refine Tri.region ti_ok ?_
    conv => whnf
    refine Tri.ret ?_
    conv => whnf
    exact intDLe (by rw [hp, nz_end (by simpa using hc)])
end Go.Tame.V
/- Contracts: Check and Valid of a tree. By program (mk.py). -/
namespace Go.Tame.V
open Go Go.Proofs
variable {W0 : World}
set_option maxRecDepth 10000
set_option linter.unusedVariables false
set_option linter.unusedSimpArgs false

def ruleI (n : NV) (l : Int) : Nat → Int
  | 0 => rKind n l
  | 1 => rName n l
  | 2 => rParts n
  | 3 => rTarget n
  | 4 => rNumbers n
  | 5 => rSizes n l
  | 6 => rStreams n
  | _ => rKids n
def one (n : NV) (l : Int) : Int := firstNZ (ruleI n l) 0 8
theorem rule_ok (hL : LibOk W0) (n : NV) (l : Int) (hz : sz n + n.name.length < 1000000000) {i : Nat} (hi : i < 8) : DFun Tryz.prog W0 (82 + i) [ruleD n l] (.int .i64 (ruleI n l i)) := by
  have ht := sz_eq n
  match i, hi with
  | 0, _ => exact F78 n l
  | 1, _ => exact F79 hL n l (by omega)
  | 2, _ => exact F80 n l
  | 3, _ => exact F81 hL n l (by omega)
  | 4, _ => exact F82 n l
  | 5, _ => exact F83 n l (by omega)
  | 6, _ => exact F84 hL n l (by omega)
  | 7, _ => exact F85 n l (by omega)
def fnsD (n : NV) (l : Int) : List D := (List.range 8).map fun i => .fn (.func (82 + i)) [ruleD n l] []
theorem fnsD_get (n : NV) (l : Int) {i : Nat} (hi : i < 8) : (fnsD n l)[i]? = some (.fn (.func (82 + i)) [ruleD n l] []) := by simp [fnsD, hi]
def chkA (be bp : Nat) : WS (Int × List UInt8) := ⟨fun s => .box be [.int .i64 s.1], fun s => .box bp [.str s.2]⟩
def checkF (n : NV) (p : List UInt8) (l : Int) (s : Int × List UInt8) : Bool × (Int × List UInt8) := if one n l = 0 then (true, (0, s.2)) else (false, (one n l, p))

theorem F77 (hL : LibOk W0) (be bp : Nat) (n : NV) (p : List UInt8) (l : Int) (s : Int × List UInt8) (hz : sz n + n.name.length < 1000000000) : DCall Tryz.prog W0 81 ([encTop n, .str p, .int .i64 l] ++ [.box 2000 be 0, .box 2001 bp 0]) ((chkA be bp).H s) fun d H' => d = .bool (checkF n p l s).1 ∧ H' = (chkA be bp).H (checkF n p l s).2 := by
  refine DCall.intro ti_ok Tryz.func81 rfl (by decide +kernel) Tryz.ntmps81 rfl fun Γ => ?_
  refine Tri.seq ?_
  refine Tri.region ti_ok ?_
  conv => whnf
  intro b
  conv => whnf
  refine Tri.seq ?_
  refine Tri.region ti_ok ?_
  conv => whnf
  refine ⟨rfl, ?_⟩
  conv => whnf
  intro b2
  conv => whnf
  refine ⟨rfl, ?_⟩
  conv => whnf
  refine Tri.seq ?_
  refine Tri.seq ?_
  refine Tri.region ti_ok ?_
  conv => whnf
  refine ⟨rfl, ?_⟩
  conv => whnf
  refine ⟨rfl, ?_⟩
  conv => whnf
  refine ⟨rfl, ?_⟩
  conv => whnf
  refine ⟨rfl, ?_⟩
  conv => whnf
  refine ⟨rfl, ?_⟩
  conv => whnf
  refine ⟨rfl, ?_⟩
  conv => whnf
  refine ⟨rfl, ?_⟩
  conv => whnf
  refine ⟨rfl, ?_⟩
  conv => whnf
  refine ⟨trivial, ?_⟩
  conv => whnf
  refine Tri.block ?_
  refine Tri.loop (α := { x : Nat × Int // x.1 ≤ 8 ∧ (0 < x.1 → x.2 = 0) ∧ one n l = firstNZ (ruleI n l) x.1 (8 - x.1) })
    (fun x => [(1, .str p), (3, .box 2000 be 0), (4, .box 2001 bp 0), (31, .sl .full 1 (fnsD n l)), (32, .int .i64 (fnsD n l).length), (33, .int .i64 x.1.1)]) (fun x => [(2000, .box be [.int .i64 x.1.2]), (2001, .box bp [.str s.2])]) (fun x => 8 - x.1.1)
    ⟨(0, s.1), by omega, by simp, rfl⟩ ⟨.refl _, .refl _, .refl _, .refl _, .refl _, .refl _, trivial⟩ ⟨rfl, rfl, trivial⟩ ?_
  rintro ⟨⟨i, e⟩, hi, he, hp⟩
  dsimp only at hi he hp ⊢
  refine Tri.seq ?_
  refine Tri.region ti_ok ?_
  conv => whnf
  refine Tri.seq ?_
  refine Tri.cond _ rfl (fun hc => ?_) (fun hc => ?_)
  · refine Tri.skip ?_
    conv => whnf
    have hia : i < 8 := by simp [fnsD] at hc; omega
    refine Tri.seq ?_
    refine Tri.block ?_
    refine Tri.seq ?_
    refine Tri.region ti_ok ?_
    conv => whnf
    refine ⟨fun _ => by simp [fnsD]; omega, ?_⟩
    conv => whnf
    refine ⟨.fn (.func (82 + i)) [ruleD n l] [], fun _ => fnsD_get n l hia, ?_⟩
    conv => whnf
    refine Tri.seq ?_
    refine Tri.region ti_ok ?_
    conv => whnf
    refine ⟨[ruleD n l], _, fun _ => rule_ok hL n l hz hia, ⟨.refl _, trivial⟩, ?_⟩
    conv => whnf
    refine ⟨rfl, ?_⟩
    conv => whnf
    refine Tri.seq ?_
    refine Tri.region ti_ok ?_
    conv => whnf
    refine ⟨rfl, ?_⟩
    conv => whnf
    refine Tri.cond _ rfl (fun hc => ?_) (fun hc => ?_)
    · refine Tri.seq ?_
      refine Tri.region ti_ok ?_
      conv => whnf
      refine ⟨rfl, ?_⟩
      conv => whnf
      refine Tri.seq ?_
      refine Tri.region ti_ok ?_
      conv => whnf
      have hne : ruleI n l i ≠ 0 := by simpa using hc
      have h1 : one n l = ruleI n l i := by rw [hp, nz_hit hia hne]
      have hF : checkF n p l s = (false, (ruleI n l i, p)) := by rw [checkF, if_neg (by rw [h1]; exact hne), h1]
      refine Tri.retK [(8, .bool false)] [(2000, .box be [.int .i64 (ruleI n l i)]), (2001, .box bp [.str p])] [(2000, 2000), (2001, 2001)] ⟨⟨.refl _, trivial⟩, rfl, rfl, rfl, rfl, rfl, trivial⟩ ?_
      conv => whnf
      exact ⟨_, .refl _, by rw [hF]; rfl, by rw [hF]; rfl⟩
    · refine Tri.skip ?_
      conv => whnf
      refine Tri.region ti_ok ?_
      conv => whnf
      refine .inl ⟨fun _ => by simp [InR]; omega, ?_⟩
      conv => whnf
      have h0 : ruleI n l i = 0 := by simpa using hc
      exact ⟨⟨(i + 1, 0), by omega, fun _ => rfl, by rw [hp, nz_miss hia h0]⟩, by show 8 - (i + 1) < 8 - i; omega, ⟨.refl _, .refl _, .refl _, .refl _, .refl _, .refl _, trivial⟩, ⟨congrArg (fun z => some (HObj.box be [D.int .i64 z])) h0, rfl, trivial⟩⟩
  · refine Tri.exit ?_
    conv => whnf
    refine Tri.seq ?_
    refine Tri.region ti_ok ?_
    conv => whnf
    have h8 : ¬ i < 8 := by simp [fnsD] at hc; omega
    have h1 : one n l = 0 := by rw [hp, nz_end h8]
    have he0 : e = 0 := he (by omega)
    subst he0
    have hF : checkF n p l s = (true, (0, s.2)) := by rw [checkF, if_pos h1]
    refine Tri.retK [(8, .bool true)] [(2000, .box be [.int .i64 0]), (2001, .box bp [.str s.2])] [(2000, 2000), (2001, 2001)] ⟨⟨.refl _, trivial⟩, rfl, rfl, rfl, rfl, rfl, trivial⟩ ?_
    conv => whnf
    exact ⟨_, .refl _, by rw [hF]; rfl, by rw [hF]; rfl⟩

/-- What Check hands back: the path, the error. -/
def check (n : NV) : List UInt8 × Int := if (256 : Int) < cnt n then ([], 7) else ((walk checkF n [] 1 (0, [])).2.2, (walk checkF n [] 1 (0, [])).2.1)
theorem F59 (hL : LibOk W0) (n : NV) (hz : sz n + n.name.length < 10000000) : DFun Tryz.prog W0 45 [encTop n] (.tup [.str (check n).1, .int .i64 (check n).2]) := by
  refine DFun.intro ti_ok Tryz.func45 rfl (by decide +kernel) Tryz.ntmps45 rfl fun Γ => ?_
  refine Tri.seq ?_
  refine Tri.region ti_ok ?_
  conv => whnf
  intro b
  conv => whnf
  refine Tri.seq ?_
  refine Tri.seq ?_
  refine Tri.region ti_ok ?_
  conv => whnf
  refine ⟨rfl, ?_⟩
  conv => whnf
  refine ⟨[encTop n], _, fun _ => F75 n hz, ⟨.refl _, trivial⟩, ?_⟩
  conv => whnf
  refine Tri.cond _ rfl (fun hc => ?_) (fun hc => ?_)
  · refine Tri.seq ?_
    refine Tri.region ti_ok ?_
    conv => whnf
    refine Tri.ret ?_
    conv => whnf
    exact ⟨DLe.of_eq (by rw [check, if_pos (by simpa using hc)]; rfl), intDLe (by rw [check, if_pos (by simpa using hc)]), trivial⟩
  · refine Tri.skip ?_
    conv => whnf
    refine Tri.seq ?_
    refine Tri.region ti_ok ?_
    conv => whnf
    intro bp
    conv => whnf
    intro be
    conv => whnf
    refine ⟨rfl, ?_⟩
    conv => whnf
    refine ⟨rfl, ?_⟩
    conv => whnf
    refine Tri.seq ?_
    refine Tri.regionX ti_ok ?_
    conv => whnf
    refine .inl ?_
    conv => whnf
    refine ⟨rfl, ?_⟩
    conv => whnf
    refine .inr (XOp.call rfl [encTop n, .str [], .int .i64 1, .fn (.func 81) [] [.box 2000 be 0, .box 2001 bp 0]] [(2000, 5), (2001, 4)]
      (F76 (chkA be bp) checkF 81 [.box 2000 be 0, .box 2001 bp 0] (fun n p l s hb hl => F77 hL be bp n p l s (by omega)) _ n [] 1 (0, []) (Nat.lt_succ_self _) (by simp; omega) (by omega)) rfl ⟨.refl _, .refl _, .refl _, DLe.fn trivial ⟨DLe.box, DLe.box, trivial⟩, trivial⟩ ?_)
    rintro d H' ⟨rfl, rfl⟩
    refine ⟨_, .refl _, ?_⟩
    conv => whnf
    refine Tri.seq ?_
    refine Tri.draw ti_ok mixed (by kernel_rfl) ?_
    conv => whnf
    refine ⟨rfl, ?_⟩
    conv => whnf
    refine ⟨rfl, ?_⟩
    conv => whnf
    refine Tri.ret ?_
    conv => whnf
    exact ⟨DLe.of_eq (by rw [check, if_neg (by simpa using hc)]; rfl), intDLe (by rw [check, if_neg (by simpa using hc)]), trivial⟩
def valid (n : NV) : Bool := (check n).2 == 0
theorem F39 (hL : LibOk W0) (n : NV) (hz : sz n + n.name.length < 10000000) : DFun Tryz.prog W0 29 [encTop n] (.bool (valid n)) := by
  refine DFun.intro ti_ok Tryz.func29 rfl (by decide +kernel) Tryz.ntmps29 rfl fun Γ => ?_
  refine Tri.seq ?_
  refine Tri.region ti_ok ?_
  conv => whnf
  intro b
  conv => whnf
  refine Tri.seq ?_
  refine Tri.region ti_ok ?_
  conv => whnf
  refine ⟨rfl, ?_⟩
  conv => whnf
  refine ⟨[encTop n], _, fun _ => F59 hL n hz, ⟨.refl _, trivial⟩, ?_⟩
  conv => whnf
  refine Tri.seq ?_
  refine Tri.region ti_ok ?_
  conv => whnf
  refine Tri.ret ?_
  conv => whnf
  exact .refl _
end Go.Tame.V
/- Contracts: the reference's Check and Valid of a tree. By program (mk.py). -/
namespace Go.Tame.V
open Go Go.Proofs
variable {W0 : World}
set_option maxRecDepth 10000
set_option linter.unusedVariables false
set_option linter.unusedSimpArgs false

def topCells (n : NV) : List D := [.str n.name, .int .i64 n.kind, .str n.text, .str n.target, .int .i64 n.n1, .int .i64 n.n2, .int .i64 n.n3, .int .i64 n.n4, .int .i64 n.n5, .int .i64 n.n6, .sl .none 12 (n.kids.map enc), .sl .none 2 (n.streams.map encS)]
end Go.Tame.V
/- Contracts: the reference's Count, Check and Valid of a tree. By program (mk.py). -/
namespace Go.Tame.V
open Go Go.Proofs
variable {W0 : World}
set_option maxRecDepth 10000
set_option linter.unusedVariables false
set_option linter.unusedSimpArgs false

theorem cntL_append : ∀ a b : List NV, cntL (a ++ b) = cntL a + cntL b
  | [], b => by simp [cntL]
  | n :: r, b => by simp only [List.cons_append, cntL]; rw [cntL_append r b]; omega
theorem cntL_next {l : List NV} {i : Nat} (h : i < l.length) : cntL (l.take (i + 1)) = cntL (l.take i) + cnt l[i] := by
  rw [List.take_add_one, List.getElem?_eq_getElem h, cntL_append]; simp [cntL]
theorem cntL_take : ∀ (l : List NV) (i : Nat), cntL (l.take i) ≤ cntL l
  | [], i => by simp [cntL]
  | n :: r, 0 => by simp [cntL]
  | n :: r, i + 1 => by simp only [List.take_succ_cons, cntL]; have := cntL_take r i; omega

theorem F47 : ∀ (N : Nat) (n : NV), sz n < N → sz n < 100000000 → DFun Tryz.prog W0 59 [encTop n] (.int .i64 (cnt n)) := by
  refine fun N => Nat.rec (fun n h => absurd h (Nat.not_lt_zero _)) (fun N ih n hN hb => ?_) N
  have hkl := kids_len n
  have hcs := cntL_sz n.kids
  have hse := sz_eq n
  refine DFun.intro ti_ok Tryz.func59 rfl (by decide +kernel) Tryz.ntmps59 rfl fun Γ => ?_
  refine Tri.seq ?_
  refine Tri.region ti_ok ?_
  conv => whnf
  intro b
  conv => whnf
  refine Tri.seq ?_
  refine Tri.region ti_ok ?_
  conv => whnf
  refine Tri.seq ?_
  refine Tri.seq ?_
  refine Tri.region ti_ok ?_
  conv => whnf
  refine Tri.block ?_
  refine Tri.loop (α := { i : Nat // i ≤ n.kids.length }) (fun x => [(1, .box 1 b 0), (3, .int .i64 ((1 + cntL (n.kids.take x.1) : Nat) : Int)), (4, .int .i64 x.1)]) (fun _ => [(1, .box b (topCells n))]) (fun x => n.kids.length - x.1) ⟨0, by omega⟩ ⟨.refl _, .refl _, .refl _, trivial⟩ ⟨rfl, trivial⟩ ?_
  rintro ⟨i, hi⟩
  dsimp only
  refine Tri.seq ?_
  refine Tri.seq ?_
  refine Tri.region ti_ok ?_
  conv => whnf
  refine ⟨rfl, ?_⟩
  conv => whnf
  refine Tri.cond _ rfl (fun hc => ?_) (fun hc => ?_)
  · refine Tri.skip ?_
    conv => whnf
    have hia : i < n.kids.length := by simpa using hc
    have hks := kid_sz hia
    have hct := cntL_take n.kids i
    have hcz := cnt_sz n.kids[i]
    refine Tri.seq ?_
    refine Tri.block ?_
    refine Tri.region ti_ok ?_
    conv => whnf
    refine ⟨rfl, ?_⟩
    conv => whnf
    refine ⟨fun _ => by simp; omega, ?_⟩
    conv => whnf
    refine ⟨encTop n.kids[i], fun _ => get_kid hia, ?_⟩
    conv => whnf
    refine ⟨[encTop n.kids[i]], _, fun _ => ih _ (by omega) (by omega), ⟨.refl _, trivial⟩, ?_⟩
    conv => whnf
    refine .inl ⟨fun _ => by simp only [InR]; omega, ?_⟩
    conv => whnf
    refine Tri.region ti_ok ?_
    conv => whnf
    refine .inl ⟨fun _ => by simp [InR]; omega, ?_⟩
    conv => whnf
    exact ⟨⟨i + 1, by omega⟩, by show _ - (i + 1) < _ - i; omega, ⟨.refl _, intDLe (by rw [cntL_next hia]; omega), .refl _, trivial⟩, ⟨rfl, trivial⟩⟩
  · refine Tri.exit ?_
    conv => whnf
    refine Tri.seq ?_
    refine Tri.region ti_ok ?_
    conv => whnf
    refine Tri.ret ?_
    conv => whnf
    exact intDLe (by rw [cnt_eq, List.take_of_length_le (by simp at hc; omega)])

end Go.Tame.V
/- Contracts: Compare's parts. By program (mk.py). -/
namespace Go.Tame.V
open Go Go.Proofs
variable {W0 : World}
set_option maxRecDepth 10000
set_option linter.unusedVariables false
set_option linter.unusedSimpArgs false

def joinP (p n : List UInt8) : List UInt8 := if p = [] then n else p ++ [47] ++ n
def fieldDiff (a b : NV) : Nat → Bool
  | 0 => !(a.text == b.text)
  | 1 => !(a.target == b.target)
  | 2 => (!(a.n1 == b.n1) || !(a.n2 == b.n2)) || !(a.n3 == b.n3)
  | 3 => !(a.n4 == b.n4)
  | _ => !decide (a.streams = b.streams)
def fieldDiffs (p : List UInt8) (a b : NV) (i : Nat) : List DV := ((List.range i).filter (fieldDiff a b)).map fun i => ⟨((3 + i : Nat) : Int), p⟩
mutual
/-- What Compare hands back of two nodes at a path. -/
def cmpT (p : List UInt8) (a b : NV) : List DV := if a.kind = b.kind then fieldDiffs p a b 5 ++ mrg p a.kids b.kids else [⟨2, p⟩]
termination_by sz a + sz b
decreasing_by have h1 := sz_eq a; have h2 := sz_eq b; omega
def mrg (p : List UInt8) : List NV → List NV → List DV
  | [], [] => []
  | x :: xs, [] => ⟨0, joinP p x.name⟩ :: mrg p xs []
  | [], y :: ys => ⟨1, joinP p y.name⟩ :: mrg p [] ys
  | x :: xs, y :: ys =>
    if Op.bytesLess x.name y.name then ⟨0, joinP p x.name⟩ :: mrg p xs (y :: ys)
    else if x.name = y.name then cmpT (joinP p x.name) x y ++ mrg p xs ys
    else ⟨1, joinP p y.name⟩ :: mrg p (x :: xs) ys
termination_by xs ys => szL xs + szL ys
decreasing_by all_goals simp only [szL]; omega
end
end Go.Tame.V
/- Contracts: Compare. By program (mk.py). -/
namespace Go.Tame.V
open Go Go.Proofs
variable {W0 : World}
set_option maxRecDepth 10000
set_option linter.unusedVariables false
set_option linter.unusedSimpArgs false

end Go.Tame.V
/- Contracts: Compare and Same; few. By program (mk.py). -/
namespace Go.Tame.V
open Go Go.Proofs
variable {W0 : World}
set_option maxRecDepth 10000
set_option linter.unusedVariables false
set_option linter.unusedSimpArgs false

def Fits (n : NV) : Prop := sz n + n.name.length < 2200000
def compare (a b : NV) : List DV × Int := if valid a && valid b then (cmpT [] a b, 0) else ([], 1)
def same (a b : NV) : Bool := (compare a b).2 == 0 && (compare a b).1.length == 0
mutual
def levels : NV → Nat
  | .mk _ _ _ _ _ _ _ _ _ _ ks _ => levelsL ks + 1
def levelsL : List NV → Nat
  | [] => 0
  | n :: r => max (levels n) (levelsL r)
end
theorem levels_eq (n : NV) : levels n = levelsL n.kids + 1 := by cases n; simp only [levels]
theorem levelsL_append : ∀ a b : List NV, levelsL (a ++ b) = max (levelsL a) (levelsL b)
  | [], b => by simp [levelsL]
  | n :: r, b => by simp only [List.cons_append, levelsL]; rw [levelsL_append r b]; omega
theorem levelsL_next {l : List NV} {i : Nat} (h : i < l.length) : levelsL (l.take (i + 1)) = max (levelsL (l.take i)) (levels l[i]) := by
  rw [List.take_add_one, List.getElem?_eq_getElem h, levelsL_append]; simp [levelsL]
mutual
theorem levels_sz : ∀ n : NV, levels n ≤ sz n
  | .mk a b c d e f g h i j ks ss => by have := levelsL_sz ks; simp only [levels, sz]; omega
theorem levelsL_sz : ∀ l : List NV, levelsL l ≤ szL l
  | [] => by simp [levelsL, szL]
  | n :: r => by have := levels_sz n; have := levelsL_sz r; simp only [levelsL, szL]; omega
end
theorem F48 : ∀ (N : Nat) (n : NV), sz n < N → sz n < 100000000 → DFun Tryz.prog W0 60 [encTop n] (.int .i64 (levels n)) := by
  refine fun N => Nat.rec (fun n h => absurd h (Nat.not_lt_zero _)) (fun N ih n hN hb => ?_) N
  have hkl := kids_len n
  have hcs := levelsL_sz n.kids
  have hse := sz_eq n
  refine DFun.intro ti_ok Tryz.func60 rfl (by decide +kernel) Tryz.ntmps60 rfl fun Γ => ?_
  refine Tri.seq ?_
  refine Tri.region ti_ok ?_
  conv => whnf
  intro b
  conv => whnf
  refine Tri.seq ?_
  refine Tri.region ti_ok ?_
  conv => whnf
  refine Tri.seq ?_
  refine Tri.seq ?_
  refine Tri.region ti_ok ?_
  conv => whnf
  refine Tri.block ?_
  refine Tri.loop (α := { i : Nat // i ≤ n.kids.length }) (fun x => [(1, .box 1 b 0), (3, .int .i64 (levelsL (n.kids.take x.1) : Nat)), (4, .int .i64 x.1)]) (fun _ => [(1, .box b (topCells n))]) (fun x => n.kids.length - x.1) ⟨0, by omega⟩ ⟨.refl _, .refl _, .refl _, trivial⟩ ⟨rfl, trivial⟩ ?_
  rintro ⟨i, hi⟩
  dsimp only
  refine Tri.seq ?_
  refine Tri.seq ?_
  refine Tri.region ti_ok ?_
  conv => whnf
  refine ⟨rfl, ?_⟩
  conv => whnf
  refine Tri.cond _ rfl (fun hc => ?_) (fun hc => ?_)
  · refine Tri.skip ?_
    conv => whnf
    have hia : i < n.kids.length := by simpa using hc
    have hks := kid_sz hia
    refine Tri.seq ?_
    refine Tri.block ?_
    refine Tri.region ti_ok ?_
    conv => whnf
    refine ⟨rfl, ?_⟩
    conv => whnf
    refine ⟨fun _ => by simp; omega, ?_⟩
    conv => whnf
    refine ⟨encTop n.kids[i], fun _ => get_kid hia, ?_⟩
    conv => whnf
    refine ⟨[encTop n.kids[i]], _, fun _ => ih _ (by omega) (by omega), ⟨.refl _, trivial⟩, ?_⟩
    conv => whnf
    refine Tri.region ti_ok ?_
    conv => whnf
    refine .inl ⟨fun _ => by simp [InR]; omega, ?_⟩
    conv => whnf
    exact ⟨⟨i + 1, by omega⟩, by show _ - (i + 1) < _ - i; omega, ⟨.refl _, intDLe (by rw [levelsL_next hia]; split <;> omega), .refl _, trivial⟩, ⟨rfl, trivial⟩⟩
  · refine Tri.exit ?_
    conv => whnf
    refine Tri.seq ?_
    refine Tri.region ti_ok ?_
    conv => whnf
    have hll : n.kids.take i = n.kids := List.take_of_length_le (by simp at hc; omega)
    refine .inl ⟨fun _ => by simp only [InR]; rw [hll]; omega, ?_⟩
    conv => whnf
    refine Tri.ret ?_
    conv => whnf
    exact intDLe (by rw [levels_eq, hll]; omega)
end Go.Tame.V
/- Contracts: few; the reference's Kid, Join. By program (mk.py). -/
namespace Go.Tame.V
open Go Go.Proofs
variable {W0 : World}
set_option maxRecDepth 10000
set_option linter.unusedVariables false
set_option linter.unusedSimpArgs false

def ssize : List SV → Nat
  | [] => 0
  | s :: r => 20 + s.name.length + s.target.length + ssize r
mutual
def tsize : NV → Nat
  | .mk a _ c d _ _ _ _ _ _ ks ss => 20 + a.length + c.length + d.length + ssize ss + tsizeL ks
def tsizeL : List NV → Nat
  | [] => 0
  | n :: r => tsize n + tsizeL r
end
theorem tsize_eq (n : NV) : tsize n = 20 + n.name.length + n.text.length + n.target.length + ssize n.streams + tsizeL n.kids := by cases n; simp only [tsize]
theorem ssize_sz : ∀ l : List SV, ssize l ≤ 10 * szS l
  | [] => by simp [ssize, szS]
  | s :: r => by have := ssize_sz r; simp only [ssize, szS]; omega
mutual
theorem tsize_sz : ∀ n : NV, tsize n ≤ n.name.length + 10 * sz n
  | .mk a b c d e f g h i j ks ss => by have := tsizeL_sz ks; have := ssize_sz ss; simp only [tsize, sz]; omega
theorem tsizeL_sz : ∀ l : List NV, tsizeL l ≤ 10 * szL l
  | [] => by simp [tsizeL, szL]
  | n :: r => by have := tsize_sz n; have := tsizeL_sz r; simp only [tsizeL, szL]; omega
end
theorem ssize_append : ∀ a b : List SV, ssize (a ++ b) = ssize a + ssize b
  | [], b => by simp [ssize]
  | n :: r, b => by simp only [List.cons_append, ssize]; rw [ssize_append r b]; omega
theorem ssize_next (n : NV) {i : Nat} (h : i < n.streams.length) : ssize (n.streams.take (i + 1)) = ssize (n.streams.take i) + (20 + (stAt n i).name.length + (stAt n i).target.length) := by
  rw [List.take_add_one, List.getElem?_eq_getElem h, ssize_append]; simp [ssize, stAt, List.getD, h]
theorem ssize_take : ∀ (l : List SV) (i : Nat), ssize (l.take i) ≤ ssize l
  | [], i => by simp [ssize]
  | n :: r, 0 => by simp [ssize]
  | n :: r, i + 1 => by simp only [List.take_succ_cons, ssize]; have := ssize_take r i; omega
theorem tsizeL_append : ∀ a b : List NV, tsizeL (a ++ b) = tsizeL a + tsizeL b
  | [], b => by simp [tsizeL]
  | n :: r, b => by simp only [List.cons_append, tsizeL]; rw [tsizeL_append r b]; omega
theorem tsizeL_next {l : List NV} {i : Nat} (h : i < l.length) : tsizeL (l.take (i + 1)) = tsizeL (l.take i) + tsize l[i] := by
  rw [List.take_add_one, List.getElem?_eq_getElem h, tsizeL_append]; simp [tsizeL]
theorem tsizeL_take : ∀ (l : List NV) (i : Nat), tsizeL (l.take i) ≤ tsizeL l
  | [], i => by simp [tsizeL]
  | n :: r, 0 => by simp [tsizeL]
  | n :: r, i + 1 => by simp only [List.take_succ_cons, tsizeL]; have := tsizeL_take r i; omega

theorem F49 : ∀ (N : Nat) (n : NV), sz n < N → sz n + n.name.length < 10000000 → DFun Tryz.prog W0 61 [encTop n] (.int .i64 (tsize n)) := by
  refine fun N => Nat.rec (fun n h => absurd h (Nat.not_lt_zero _)) (fun N ih n hN hb => ?_) N
  have hkl := kids_len n
  have hsl := streams_len n
  have hts := tsize_sz n
  have hte := tsize_eq n
  refine DFun.intro ti_ok Tryz.func61 rfl (by decide +kernel) Tryz.ntmps61 rfl fun Γ => ?_
  refine Tri.seq ?_
  refine Tri.region ti_ok ?_
  conv => whnf
  intro b
  conv => whnf
  refine Tri.seq ?_
  refine Tri.region ti_ok ?_
  conv => whnf
  refine ⟨rfl, ?_⟩
  conv => whnf
  refine .inl ⟨fun _ => by simp only [InR]; omega, ?_⟩
  conv => whnf
  refine ⟨rfl, ?_⟩
  conv => whnf
  refine .inl ⟨fun _ => by simp only [InR]; omega, ?_⟩
  conv => whnf
  refine ⟨rfl, ?_⟩
  conv => whnf
  refine .inl ⟨fun _ => by simp only [InR]; omega, ?_⟩
  conv => whnf
  refine Tri.seq ?_
  refine Tri.seq ?_
  refine Tri.region ti_ok ?_
  conv => whnf
  refine Tri.block ?_
  refine Tri.loop (α := { i : Nat // i ≤ n.streams.length }) (fun x => [(1, .box 1 b 0), (3, .int .i64 ((20 + n.name.length + n.text.length + n.target.length + ssize (n.streams.take x.1) : Nat) : Int)), (4, .int .i64 x.1)]) (fun _ => [(1, .box b (topCells n))]) (fun x => n.streams.length - x.1) ⟨0, by omega⟩ ⟨.refl _, intDLe (by simp [ssize]), .refl _, trivial⟩ ⟨rfl, trivial⟩ ?_
  rintro ⟨i, hi⟩
  dsimp only
  refine Tri.seq ?_
  refine Tri.seq ?_
  refine Tri.region ti_ok ?_
  conv => whnf
  refine ⟨rfl, ?_⟩
  conv => whnf
  refine Tri.cond _ rfl (fun hc => ?_) (fun hc => ?_)
  · refine Tri.skip ?_
    conv => whnf
    have hia : i < n.streams.length := by simpa using hc
    have htk := ssize_take n.streams (i + 1)
    have hnx := ssize_next n hia
    refine Tri.seq ?_
    refine Tri.block ?_
    refine Tri.draw ti_ok mixed (by kernel_rfl) ?_
    conv => whnf
    refine .inl ⟨fun _ => by simp only [InR]; omega, ?_⟩
    conv => whnf
    refine ⟨rfl, ?_⟩
    conv => whnf
    refine ⟨fun _ => by simp; omega, ?_⟩
    conv => whnf
    refine ⟨encS (stAt n i), fun _ => get_st n hia, ?_⟩
    conv => whnf
    refine .inl ⟨fun _ => by simp only [InR]; omega, ?_⟩
    conv => whnf
    refine ⟨rfl, ?_⟩
    conv => whnf
    refine ⟨fun _ => by simp; omega, ?_⟩
    conv => whnf
    refine ⟨encS (stAt n i), fun _ => get_st n hia, ?_⟩
    conv => whnf
    refine .inl ⟨fun _ => by simp only [InR]; omega, ?_⟩
    conv => whnf
    refine Tri.region ti_ok ?_
    conv => whnf
    refine .inl ⟨fun _ => by simp [InR]; omega, ?_⟩
    conv => whnf
    exact ⟨⟨i + 1, by omega⟩, by show _ - (i + 1) < _ - i; omega, ⟨.refl _, intDLe (by rw [hnx]; omega), .refl _, trivial⟩, ⟨rfl, trivial⟩⟩
  · refine Tri.exit ?_
    conv => whnf
    have hall : n.streams.take i = n.streams := List.take_of_length_le (by simp at hc; omega)
    refine Tri.seq ?_
    refine Tri.seq ?_
    refine Tri.region ti_ok ?_
    conv => whnf
    refine Tri.block ?_
    refine Tri.loop (α := { i : Nat // i ≤ n.kids.length }) (fun x => [(1, .box 1 b 0), (3, .int .i64 ((20 + n.name.length + n.text.length + n.target.length + ssize n.streams + tsizeL (n.kids.take x.1) : Nat) : Int)), (5, .int .i64 x.1)]) (fun _ => [(1, .box b (topCells n))]) (fun x => n.kids.length - x.1) ⟨0, by omega⟩ ⟨.refl _, intDLe (by rw [hall]; simp [tsizeL]), .refl _, trivial⟩ ⟨rfl, trivial⟩ ?_
    rintro ⟨i, hi⟩
    dsimp only
    refine Tri.seq ?_
    refine Tri.seq ?_
    refine Tri.region ti_ok ?_
    conv => whnf
    refine ⟨rfl, ?_⟩
    conv => whnf
    refine Tri.cond _ rfl (fun hc => ?_) (fun hc => ?_)
    · refine Tri.skip ?_
      conv => whnf
      have hia : i < n.kids.length := by simpa using hc
      have hks := kid_sz hia
      have htk := tsizeL_take n.kids (i + 1)
      have hnx := tsizeL_next hia
      refine Tri.seq ?_
      refine Tri.block ?_
      refine Tri.region ti_ok ?_
      conv => whnf
      refine ⟨rfl, ?_⟩
      conv => whnf
      refine ⟨fun _ => by simp; omega, ?_⟩
      conv => whnf
      refine ⟨encTop n.kids[i], fun _ => get_kid hia, ?_⟩
      conv => whnf
      refine ⟨[encTop n.kids[i]], _, fun _ => ih _ (by omega) (by omega), ⟨.refl _, trivial⟩, ?_⟩
      conv => whnf
      refine .inl ⟨fun _ => by simp only [InR]; omega, ?_⟩
      conv => whnf
      refine Tri.region ti_ok ?_
      conv => whnf
      refine .inl ⟨fun _ => by simp [InR]; omega, ?_⟩
      conv => whnf
      exact ⟨⟨i + 1, by omega⟩, by show _ - (i + 1) < _ - i; omega, ⟨.refl _, intDLe (by rw [hnx]; omega), .refl _, trivial⟩, ⟨rfl, trivial⟩⟩
    · refine Tri.exit ?_
      conv => whnf
      refine Tri.seq ?_
      refine Tri.region ti_ok ?_
      conv => whnf
      refine Tri.ret ?_
      conv => whnf
      exact intDLe (by rw [hte, List.take_of_length_le (by simp at hc; omega)])

def few1 (n : NV) (s : Int) : Bool := (decide ((cnt n : Int) ≤ 40) && decide ((levels n : Int) ≤ 20)) && decide ((tsize n : Int) ≤ s)
theorem F26 (n : NV) (s : Int) (hn : Fits n) : DFun Tryz.prog W0 28 [encTop n, .int .i64 s] (.bool (few1 n s)) := by
  refine DFun.intro ti_ok Tryz.func28 rfl (by decide +kernel) Tryz.ntmps28 rfl fun Γ => ?_
  refine Tri.seq ?_
  refine Tri.region ti_ok ?_
  conv => whnf
  intro b
  conv => whnf
  refine Tri.seq ?_
  refine Tri.region ti_ok ?_
  conv => whnf
  refine ⟨rfl, ?_⟩
  conv => whnf
  unfold Fits at hn
  refine ⟨[encTop n], _, fun _ => F47 _ n (Nat.lt_succ_self _) (by omega), ⟨.refl _, trivial⟩, ?_⟩
  conv => whnf
  refine ⟨rfl, ?_⟩
  conv => whnf
  refine ⟨fun h => h, ?_⟩
  conv => whnf
  refine ⟨[encTop n], _, fun h => F48 _ n (Nat.lt_succ_self _) (by omega), ⟨.refl _, trivial⟩, ?_⟩
  conv => whnf
  refine ⟨fun h => h, ?_⟩
  conv => whnf
  refine ⟨fun h0 h => by first | exact h | (rw [h]; rfl) | (rw [h0, h]; rfl), ?_⟩
  conv => whnf
  refine ⟨rfl, ?_⟩
  conv => whnf
  refine ⟨fun h => h, ?_⟩
  conv => whnf
  refine ⟨[encTop n], _, fun h => F49 _ n (Nat.lt_succ_self _) (by omega), ⟨.refl _, trivial⟩, ?_⟩
  conv => whnf
  refine ⟨fun h => h, ?_⟩
  conv => whnf
  refine ⟨fun h => h, ?_⟩
  conv => whnf
  refine ⟨fun h0 h => by first | exact h | (rw [h]; rfl) | (rw [h0, h]; rfl), ?_⟩
  conv => whnf
  refine Tri.ret ?_
  conv => whnf
  exact DLe.of_eq (congrArg D.bool (by simp only [few1, ← bif_and]))
/-- Which child has this name? -/
def kidIx (n : NV) (q : List UInt8) : Int := firstIdx (fun k : NV => k.name == q) n.kids
end Go.Tame.V
/- The order of texts; contracts: the reference's names. By program (mk.py). -/
namespace Go.Tame.V
open Go Go.Proofs
variable {W0 : World}
set_option maxRecDepth 10000
set_option linter.unusedVariables false
set_option linter.unusedSimpArgs false

end Go.Tame.V
/- Contracts: the reference's Compare. By program (mk.py). -/
namespace Go.Tame.V
open Go Go.Proofs
variable {W0 : World}
set_option maxRecDepth 10000
set_option linter.unusedVariables false
set_option linter.unusedSimpArgs false

def inc (l : List NV) : Prop := ∀ i, i + 1 < l.length → Op.bytesLess (l.getD i default).name (l.getD (i + 1) default).name = true
end Go.Tame.V
/- Contracts: the reference's Compare. By program (mk.py). -/
namespace Go.Tame.V
open Go Go.Proofs
variable {W0 : World}
set_option maxRecDepth 10000
set_option linter.unusedVariables false
set_option linter.unusedSimpArgs false

end Go.Tame.V
/- A valid tree is sorted; contracts: the reference's Compare and Same. By program (mk.py). -/
namespace Go.Tame.V
open Go Go.Proofs
variable {W0 : World}
set_option maxRecDepth 10000
set_option linter.unusedVariables false
set_option linter.unusedSimpArgs false

end Go.Tame.V
/- Two laws, given that the first thing that they ask ('awake') answers true. By program (mk.py). -/
namespace Go.Tame.V
open Go Go.Proofs
variable {W0 : World}
set_option maxRecDepth 10000
set_option linter.unusedVariables false
set_option linter.unusedSimpArgs false

end Go.Tame.V
/- Contracts: naming, small ones; the example. By program (mk.py). -/
namespace Go.Tame.V
open Go Go.Proofs
variable {W0 : World}
set_option maxRecDepth 10000
set_option linter.unusedVariables false
set_option linter.unusedSimpArgs false

def leaf (nm tx : List UInt8) : NV := ⟨nm, 1, tx, [], 0, 0, 0, 315532800, 0, 0, [], []⟩
end Go.Tame.V
/- What trees want of names: rising children. Taken together by program. -/
namespace Go.Tame.V
open Go Go.Proofs
set_option linter.unusedVariables false

/-- What the rules say of a node at a level. -/
structure Good (n : NV) (l : Int) : Prop where
  kind0 : 0 ≤ n.kind ∧ n.kind ≤ 2
  kind1 : l = 1 → n.kind = 0
  name1 : l = 1 → n.name = []
  name2 : 1 < l → nameOk n.name = true
  file : n.kind ≠ 1 → n.text = [] ∧ n.streams = []
  link : n.kind ≠ 2 → n.target = []
  dir : n.kind ≠ 0 → n.kids = []
  target : n.kind = 2 → targetOk n.target = true
  n1 : 0 ≤ n.n1 ∧ n.n1 ≤ 4095
  n2 : 0 ≤ n.n2 ∧ n.n2 ≤ 65535
  n3 : 0 ≤ n.n3 ∧ n.n3 ≤ 65535
  n4 : 315532800 ≤ n.n4 ∧ n.n4 ≤ 4102444799
  n5 : -1048576 ≤ n.n5 ∧ n.n5 ≤ 1048576
  n6 : 0 ≤ n.n6 ∧ n.n6 ≤ 15
  level : l ≤ 16
  size : n.text.length ≤ 262144
  kids64 : n.kids.length ≤ 64
  streams4 : n.streams.length ≤ 4
  streams : ∀ i, i < n.streams.length → (stAt n i).target.length ≤ 262144 ∧ fS n i = 0
  inc : inc n.kids
def zeroN : NV := ⟨[], 0, [], [], 0, 0, 0, 0, 0, 0, [], []⟩
theorem zeroD : DLe (.agg [.str [], .int .i64 0, .str [], .str [], .int .i64 0, .int .i64 0, .int .i64 0, .int .i64 0, .int .i64 0, .int .i64 0, .nils, .nils]) (encTop zeroN) :=
  DLe.agg ⟨.refl _, .refl _, .refl _, .refl _, .refl _, .refl _, .refl _, .refl _, .refl _, .refl _, DLe.nil, DLe.nil, trivial⟩
end Go.Tame.V
/- Contracts: naming, Clone. By program (mk.py). -/
namespace Go.Tame.V
open Go Go.Proofs
variable {W0 : World}
set_option maxRecDepth 10000
set_option linter.unusedVariables false
set_option linter.unusedSimpArgs false

theorem F104 (ss : List SV) (h : ss.length < 1000000000) : DFun Tryz.prog W0 62 [.sl .none 2 (ss.map encS)] (.sl .none 2 (ss.map encS)) := by
  refine DFun.intro ti_ok Tryz.func62 rfl (by decide +kernel) Tryz.ntmps62 rfl fun Γ => ?_
  refine Tri.seq ?_
  refine Tri.region ti_ok ?_
  conv => whnf
  refine Tri.seq ?_
  refine Tri.seq ?_
  refine Tri.regionX ti_ok ?_
  conv => whnf
  refine .inr (XOp.nilEq (el := 71) ti_ok rfl rfl rfl fun nb hnb => ?_)
  conv => whnf
  refine Tri.cond _ rfl (fun hc => ?_) (fun hc => ?_)
  · refine Tri.seq ?_
    refine Tri.region ti_ok ?_
    conv => whnf
    refine Tri.ret ?_
    conv => whnf
    have hnil := hnb hc
    rw [hnil]
    exact DLe.nil
  · refine Tri.skip ?_
    conv => whnf
    refine Tri.seq ?_
    refine Tri.region ti_ok ?_
    conv => whnf
    refine ⟨trivial, ?_⟩
    conv => whnf
    refine ⟨by show (0 + (ss.map encS).length) * 32 ≤ _; simp; omega, by show 0 + (ss.map encS).length ≤ _; simp; omega, (fun h => by cases h), fun v => ?_⟩
    conv => whnf
    refine Tri.ret ?_
    conv => whnf
    exact DLe.trans (DLe.of_eq (congrArg (D.sl _ 2) (List.nil_append _))) DLe.unown
end Go.Tame.V
/- Paths of a tree by lists of names; trees that do not differ. Plain. -/
namespace Go.Tame.V
open Go Go.Proofs
set_option maxRecDepth 10000
set_option linter.unusedVariables false
set_option linter.unusedSimpArgs false

def findK (q : List UInt8) (ks : List NV) : Option NV := ks.find? fun k => k.name == q
def getN : NV → List (List UInt8) → Option NV
  | n, [] => some n
  | n, m :: ms => match findK m n.kids with
    | some k => getN k ms
    | none => none
theorem findK_name {ks : List NV} {q : List UInt8} {k : NV} (h : findK q ks = some k) : k ∈ ks ∧ k.name = q :=
  ⟨List.mem_of_find?_eq_some h, by simpa using List.find?_some h⟩
/-- Alike apart from the name, the weight and the hidden bits. -/
def fieldsEq (a b : NV) : Prop := a.kind = b.kind ∧ a.text = b.text ∧ a.target = b.target ∧ a.n1 = b.n1 ∧ a.n2 = b.n2 ∧ a.n3 = b.n3 ∧ a.n4 = b.n4 ∧ a.streams = b.streams
mutual
def sim : NV → NV → Prop
  | .mk a b c t e f g h i j ks ss, n => fieldsEq (.mk a b c t e f g h i j ks ss) n ∧ simL ks n.kids
def simL : List NV → List NV → Prop
  | [], l => l = []
  | k :: r, l => ∃ y ys, l = y :: ys ∧ k.name = y.name ∧ sim k y ∧ simL r ys
end

mutual
/-- The paths as texts: p is the node's own, at level l. -/
def pathsS : NV → List UInt8 → Int → List (List UInt8)
  | .mk _ _ _ _ _ _ _ _ _ _ ks _, p, l => p :: pathsSL ks p l
def pathsSL : List NV → List UInt8 → Int → List (List UInt8)
  | [], _, _ => []
  | k :: r, p, l => pathsS k (below p k.name (l + 1)) (l + 1) ++ pathsSL r p l
end
theorem pathsS_eq (n : NV) (p : List UInt8) (l : Int) : pathsS n p l = p :: pathsSL n.kids p l := by cases n; simp only [pathsS]
end Go.Tame.V
/- Contracts: the other way of trees: paths, Get, Equal. By program (mk.py). -/
namespace Go.Tame.V
open Go Go.Proofs
variable {W0 : World}
set_option maxRecDepth 10000
set_option linter.unusedVariables false
set_option linter.unusedSimpArgs false

mutual
theorem pathsS_len : ∀ (n : NV) (p : List UInt8) (l : Int), (pathsS n p l).length = cnt n
  | .mk _ _ _ _ _ _ _ _ _ _ ks _, p, l => by
    have := pathsSL_len ks p l
    simp only [pathsS, cnt, List.length_cons]; omega
theorem pathsSL_len : ∀ (ks : List NV) (p : List UInt8) (l : Int), (pathsSL ks p l).length = cntL ks
  | [], p, l => rfl
  | k :: r, p, l => by
    have h1 := pathsS_len k (below p k.name (l + 1)) (l + 1)
    have h2 := pathsSL_len r p l
    simp only [pathsSL, cntL, List.length_append]; omega
end
theorem pathsSL_next : ∀ {ks : List NV} {i : Nat} (h : i < ks.length) (p : List UInt8) (l : Int), pathsSL (ks.take (i + 1)) p l = pathsSL (ks.take i) p l ++ pathsS ks[i] (below p ks[i].name (l + 1)) (l + 1)
  | k :: r, 0, _, p, l => by simp [pathsSL]
  | k :: r, i + 1, h, p, l => by
    have := pathsSL_next (ks := r) (i := i) (by simpa using h) p l
    simp only [List.take_succ_cons, pathsSL, List.getElem_cons_succ]
    rw [this]; simp

/-- The node at a path, or none and the error's number. -/
def getR (n : NV) (s : List UInt8) : NV × Int :=
  if s = [] then (n, 0) else match getN n (splitG 47 [] s) with
    | some x => (x, 0)
    | none => (zeroN, 6)
theorem kid_find (n : NV) (q : List UInt8) : (kidIx n q = -1 ∧ findK q n.kids = none) ∨ ∃ (i : Nat) (h : i < n.kids.length), kidIx n q = i ∧ findK q n.kids = some n.kids[i] := by
  cases hf : findK q n.kids with
  | none =>
    refine .inl ⟨?_, rfl⟩
    unfold findK at hf
    exact firstIdx_none fun j hj => by simpa using List.find?_eq_none.1 hf _ (List.getElem_mem hj)
  | some k =>
    unfold findK at hf
    obtain ⟨h1, i, h2, h3, h4⟩ := List.find?_eq_some_iff_getElem.1 hf
    refine .inr ⟨i, h2, ?_, by rw [h3]⟩
    exact firstIdx_some (p := fun k : NV => k.name == q) h2 (fun j hj hji => by simpa using h4 j hji) (by rw [h3]; exact h1)
end Go.Tame.V
/- Contracts: Equal of trees; the law ViewdiffEquals. By program (mk.py). -/

namespace Go.Tame.V
open Go Go.Proofs
variable {W0 : World}
set_option maxRecDepth 10000
set_option linter.unusedVariables false
set_option linter.unusedSimpArgs false

noncomputable def eqT (a b : NV) : Bool := @decide (a = b) (Classical.propDecidable _)
theorem getN_sz : ∀ (q : List (List UInt8)) (n x : NV), getN n q = some x → sz x ≤ sz n
  | [], n, x, h => by simp only [getN, Option.some.injEq] at h; subst h; exact Nat.le_refl _
  | m :: q, n, x, h => by
    simp only [getN] at h
    cases hf : findK m n.kids with
    | none => rw [hf] at h; cases h
    | some k =>
      rw [hf] at h
      obtain ⟨i, hi, e⟩ := List.mem_iff_getElem.1 (findK_name hf).1
      have h1 := kid_sz hi
      have h2 := getN_sz q k x h
      rw [e] at h1
      omega
end Go.Tame.V
/- Contracts: sourcetree's clone. By program (mkn4.py, mk.py). -/
namespace Go.Tame.V
open Go Go.Proofs
variable {W0 : World}
set_option maxRecDepth 10000
set_option linter.unusedVariables false
set_option linter.unusedSimpArgs false

theorem kids_next {l : List NV} {i : Nat} (h : i < l.length) : (l.take i).map encTop ++ [encTop l[i]] = (l.take (i + 1)).map encTop := by
  rw [List.take_add_one, List.getElem?_eq_getElem h, List.map_append]; rfl

theorem G117 : ∀ (N : Nat) (n : NV), sz n < N → sz n < 1000000000 → DFun Tryz.prog W0 67 [encTop n] (encTop n) := by
  refine fun N => Nat.rec (fun n h => absurd h (Nat.not_lt_zero _)) (fun N ih n hN hz => ?_) N
  have hss : 2 * n.streams.length ≤ sz n := by have := szS_len n.streams; have := sz_eq n; omega
  have hkl : 2 * n.kids.length ≤ sz n := by have := szL_len n.kids; have := sz_eq n; omega
  refine DFun.intro ti_ok Tryz.func67 rfl (by decide +kernel) Tryz.ntmps67 rfl fun Γ => ?_
  refine Tri.seq ?_
  refine Tri.region ti_ok ?_
  conv => whnf
  intro b1
  conv => whnf
  intro b2
  conv => whnf
  refine Tri.seq ?_
  refine Tri.region ti_ok ?_
  conv => whnf
  refine ⟨rfl, ?_⟩
  conv => whnf
  refine ⟨[.sl .none 2 (n.streams.map encS)], _, fun _ => F104 n.streams (by omega), ⟨.refl _, trivial⟩, ?_⟩
  conv => whnf
  refine ⟨rfl, ?_⟩
  conv => whnf
  refine Tri.seq ?_
  refine Tri.region ti_ok ?_
  conv => whnf
  refine ⟨rfl, ?_⟩
  conv => whnf
  refine Tri.seq ?_
  refine Tri.region ti_ok ?_
  conv => whnf
  refine ⟨rfl, ?_⟩
  conv => whnf
  refine Tri.seq ?_
  refine Tri.seq ?_
  refine Tri.region ti_ok ?_
  conv => whnf
  refine Tri.block ?_
  refine Tri.boxLe 1 (cs' := [.str n.name, .int .i64 n.kind, .str n.text, .str n.target, .int .i64 n.n1, .int .i64 n.n2, .int .i64 n.n3, .int .i64 n.n4, .int .i64 n.n5, .int .i64 n.n6, .raw (.slice none 0 0), .sl .none 2 (n.streams.map encS)]) rfl ⟨.refl _, .refl _, .refl _, .refl _, .refl _, .refl _, .refl _, .refl _, .refl _, .refl _, DLe.nilRaw, .refl _, trivial⟩ ?_
  refine Tri.rowNil 109 12 25 ?_
  refine Tri.loopK (α := { x : Nat × Value // x.1 ≤ n.kids.length }) (fun x => [(1, .box 1 b1 0), (2, .box 2 b2 0), (13, .sl .none 12 (n.kids.map enc)), (14, .int .i64 (n.kids.map enc).length), (15, .int .i64 x.1.1)]) (fun x => [(2, .box b2 [.str [], .int .i64 0, .str [], .str [], .int .i64 0, .int .i64 0, .int .i64 0, .int .i64 0, .int .i64 0, .int .i64 0, .nils, .nils]), (1, .box b1 [.str n.name, .int .i64 n.kind, .str n.text, .str n.target, .int .i64 n.n1, .int .i64 n.n2, .int .i64 n.n3, .int .i64 n.n4, .int .i64 n.n5, .int .i64 n.n6, .raw x.1.2, .sl .none 2 (n.streams.map encS)]), (109, .row x.1.2 ((n.kids.take x.1.1).map encTop) 12 25)]) (fun x => n.kids.length - x.1.1) ⟨(0, .slice none 0 0), Nat.zero_le _⟩ [(2, 2), (1, 1), (109, 109)]
    ⟨⟨.refl _, .refl _, .refl _, .refl _, .refl _, trivial⟩, rfl, rfl, rfl, rfl, rfl, rfl, congrArg (fun z => some (HObj.row (.slice none 0 0) z 12 25)) (by simp), trivial⟩ ?_
  rintro ⟨⟨i, rv⟩, hi⟩
  dsimp only at hi ⊢
  refine Tri.seq ?_
  refine Tri.region ti_ok ?_
  conv => whnf
  refine Tri.seq ?_
  refine Tri.cond (decide ((i : Int) < (n.kids.map enc).length)) rfl (fun hc => ?_) (fun hc => ?_)
  · refine Tri.skip ?_
    conv => whnf
    refine Tri.seq ?_
    refine Tri.block ?_
    refine Tri.seq ?_
    refine Tri.region ti_ok ?_
    have hia : i < n.kids.length := by simpa using hc
    have hkz := kid_sz hia
    conv => whnf
    refine ⟨fun _ => by simp; omega, ?_⟩
    conv => whnf
    refine ⟨encTop n.kids[i], fun _ => get_kid hia, ?_⟩
    conv => whnf
    intro b5
    conv => whnf
    refine ⟨rfl, ?_⟩
    conv => whnf
    refine Tri.drawTailX ti_ok 5 mixed (by kernel_rfl) ?_
    conv => whnf
    refine ⟨rfl, ?_⟩
    conv => whnf
    refine ⟨rfl, ?_⟩
    conv => whnf
    refine ⟨[encTop n.kids[i]], _, fun _ => ih n.kids[i] (by omega) (by omega), ⟨.refl _, trivial⟩, ?_⟩
    conv => whnf
    refine ⟨trivial, ?_⟩
    conv => whnf
    refine .inr (XOp.rowAppend ti_ok 109 rfl rfl rfl (fun h => by cases h) rfl rfl rfl (Nat.zero_lt_one) ?_ ?_ fun aa mm cap => ?_)
    · show (_ + 1) * 152 ≤ _
      simp; omega
    · show _ + 1 ≤ _
      simp; omega
    refine .inl ?_
    conv => whnf
    refine ⟨rfl, ?_⟩
    conv => whnf
    refine Tri.region ti_ok ?_
    conv => whnf
    refine .inl ⟨fun _ => by simp only [InR]; omega, ?_⟩
    conv => whnf
    exact ⟨⟨(i + 1, .slice aa mm cap), hia⟩, [(2, 2), (1, 1), (109, 24)], by show _ - (i + 1) < _ - i; omega, ⟨.refl _, .refl _, .refl _, .refl _, .refl _, trivial⟩, rfl, rfl, rfl, rfl, rfl, rfl, congrArg (fun z => some (HObj.row (.slice aa mm cap) z 12 25)) (by exact kids_next hia), trivial⟩
  · refine Tri.exit ?_
    have hin : i = n.kids.length := by simp at hc; omega
    have hrow : (n.kids.take i).map encTop = n.kids.map enc := by
      subst hin; rw [List.take_length, show enc = encTop from funext enc_eq]
    rw [hrow]
    refine Tri.commitBox 109 1 10 rfl rfl (by decide) rfl ?_
    conv => whnf
    refine Tri.seq ?_
    refine Tri.region ti_ok ?_
    conv => whnf
    refine ⟨rfl, ?_⟩
    conv => whnf
    refine ⟨rfl, ?_⟩
    conv => whnf
    refine Tri.ret ?_
    conv => whnf
    refine ⟨rfl, ?_⟩
    conv => whnf
    exact DLe.of_eq rfl
end Go.Tame.V
/- Contracts: sourcetree's find and Get. By program (mk.py). -/
namespace Go.Tame.V
open Go Go.Proofs
variable {W0 : World}
set_option maxRecDepth 10000
set_option linter.unusedVariables false
set_option linter.unusedSimpArgs false

theorem G160 (k : NV) (q : List UInt8) : DFun Tryz.prog W0 97 [encTop k, .elm 1 [.str q] 0 0] (.bool (k.name == q)) := by
  refine DFun.intro ti_ok Tryz.func97 rfl (by decide +kernel) Tryz.ntmps97 rfl fun Γ => ?_
  refine Tri.seq ?_
  refine Tri.region ti_ok ?_
  conv => whnf
  intro b
  conv => whnf
  refine Tri.seq ?_
  refine Tri.region ti_ok ?_
  conv => whnf
  refine ⟨rfl, ?_⟩
  conv => whnf
  refine ⟨.str q, fun _ => rfl, ?_⟩
  conv => whnf
  refine Tri.ret ?_
  conv => whnf
  exact .refl _
theorem G96 (l : List NV) (q : List UInt8) (hl : l.length < 1000000000) : DFun Tryz.prog W0 48 [.sl .none 12 (l.map enc), .fn (.func 97) [] [.elm 1 [.str q] 0 0]] (.int .i64 (firstIdx (fun k : NV => k.name == q) l)) := by
  refine DFun.intro ti_ok Tryz.func48 rfl (by decide +kernel) Tryz.ntmps48 rfl fun Γ => ?_
  refine Tri.seq ?_
  refine Tri.region ti_ok ?_
  conv => whnf
  refine Tri.seq ?_
  refine Tri.seq ?_
  refine Tri.region ti_ok ?_
  conv => whnf
  refine Tri.block ?_
  refine Tri.loop (α := { i : Nat // i ≤ l.length ∧ ∀ j (h : j < l.length), j < i → ((l[j]).name == q) = false }) (fun x => [(0, .sl .none 12 (l.map enc)), (1, .fn (.func 97) [] [.elm 1 [.str q] 0 0]), (7, .int .i64 (l.map enc).length), (8, .int .i64 x.1)]) (fun _ => []) (fun x => l.length - x.1) ⟨0, by simp⟩ ⟨.refl _, .refl _, .refl _, .refl _, trivial⟩ trivial ?_
  rintro ⟨i, hi, hp⟩
  dsimp only
  refine Tri.seq ?_
  refine Tri.region ti_ok ?_
  conv => whnf
  refine Tri.seq ?_
  refine Tri.cond (decide ((i : Int) < (l.map enc).length)) rfl (fun hc => ?_) (fun hc => ?_)
  · refine Tri.skip ?_
    conv => whnf
    refine Tri.seq ?_
    refine Tri.block ?_
    refine Tri.seq ?_
    refine Tri.region ti_ok ?_
    have hia : i < l.length := by simpa using hc
    conv => whnf
    refine Tri.seq ?_
    refine Tri.region ti_ok ?_
    conv => whnf
    refine ⟨fun _ => by simp; omega, ?_⟩
    conv => whnf
    refine ⟨encTop l[i], fun _ => get_kids hia, ?_⟩
    conv => whnf
    refine ⟨[encTop l[i], .elm 1 [.str q] 0 0], _, fun _ => G160 l[i] q, ⟨.refl _, .refl _, trivial⟩, ?_⟩
    conv => whnf
    refine Tri.cond _ rfl (fun hc => ?_) (fun hc => ?_)
    · refine Tri.seq ?_
      refine Tri.region ti_ok ?_
      conv => whnf
      refine Tri.ret ?_
      conv => whnf
      exact intDLe (firstIdx_some (p := fun k : NV => k.name == q) hia hp hc).symm
    · refine Tri.skip ?_
      conv => whnf
      refine Tri.region ti_ok ?_
      conv => whnf
      refine .inl ⟨fun _ => by simp [InR]; omega, ?_⟩
      conv => whnf
      exact ⟨⟨i + 1, by omega, fun j hj hlt => (Nat.lt_succ_iff_lt_or_eq.1 hlt).elim (hp j hj) fun e => by subst e; exact hc⟩, by show _ - (i + 1) < _ - i; omega, ⟨.refl _, .refl _, .refl _, .refl _, trivial⟩, trivial⟩
  · refine Tri.exit ?_
    conv => whnf
    refine Tri.seq ?_
    refine Tri.region ti_ok ?_
    conv => whnf
    refine Tri.ret ?_
    conv => whnf
    exact intDLe (firstIdx_none (p := fun k : NV => k.name == q) fun j hj => hp j hj (by simp at hc; omega)).symm
/-- The place that find returns: of node n at index j of a row, behind these names. -/
def findD : List D → Nat → NV → List (List UInt8) → D
  | xs, j, n, [] => .elm 12 xs j 0
  | xs, j, n, m :: r => if kidIx n m < 0 then .raw (.pointer none) else match n.kids[(kidIx n m).toNat]? with
    | some k => findD (n.kids.map enc) (kidIx n m).toNat k r
    | none => .raw (.pointer none)
theorem findD_getN : ∀ (r : List (List UInt8)) (xs : List D) (j : Nat) (n : NV), xs[j]? = some (encTop n) → (getN n r = none ∧ findD xs j n r = .raw (.pointer none)) ∨ ∃ m ys i, getN n r = some m ∧ findD xs j n r = .elm 12 ys i 0 ∧ ys[i]? = some (encTop m)
  | [], xs, j, n, h => .inr ⟨n, xs, j, rfl, rfl, h⟩
  | m :: r, xs, j, n, h => by
    simp only [getN, findD]
    rcases kid_find n m with ⟨h1, h2⟩ | ⟨i, hi, h1, h2⟩
    · rw [h1, h2]; exact .inl ⟨rfl, if_pos (by decide)⟩
    · rw [h1, h2, if_neg (by omega), show ((i : Nat) : Int).toNat = i from rfl, List.getElem?_eq_getElem hi]
      exact findD_getN r _ i _ (get_kid hi)

theorem G116 (hL : LibOk W0) (s : List UInt8) (hs : s.length < 1000000000) (xs : List D) (j : Nat) (n : NV) (hj : xs[j]? = some (encTop n)) (hz : sz n < 1000000000) : DFun Tryz.prog W0 66 [.elm 12 xs j 0, .str s] (if s = [] then .elm 12 xs j 0 else findD xs j n (splitG 47 [] s)) := by
  refine DFun.intro ti_ok Tryz.func66 rfl (by decide +kernel) Tryz.ntmps66 rfl fun Γ => ?_
  refine Tri.seq ?_
  refine Tri.region ti_ok ?_
  conv => whnf
  refine Tri.seq ?_
  refine Tri.seq ?_
  refine Tri.region ti_ok ?_
  conv => whnf
  refine Tri.cond _ rfl (fun hc => ?_) (fun hc => ?_)
  · refine Tri.seq ?_
    refine Tri.region ti_ok ?_
    conv => whnf
    refine Tri.ret ?_
    conv => whnf
    exact DLe.of_eq (if_pos (by simpa using hc)).symm
  · refine Tri.skip ?_
    conv => whnf
    refine Tri.seq ?_
    refine Tri.seq ?_
    refine Tri.region ti_ok ?_
    have hne : s ≠ [] := by simpa using hc
    conv => whnf
    refine ⟨[.str s, .str [47]], _, fun _ => F121 hL s 47 hs, ⟨.refl _, .refl _, trivial⟩, ?_⟩
    conv => whnf
    refine Tri.block ?_
    refine Tri.loop (α := { x : Nat × List D × Nat × NV // x.1 ≤ (splitG 47 [] s).length ∧ x.2.1[x.2.2.1]? = some (encTop x.2.2.2) ∧ findD x.2.1 x.2.2.1 x.2.2.2 ((splitG 47 [] s).drop x.1) = findD xs j n (splitG 47 [] s) ∧ sz x.2.2.2 < 1000000000 }) (fun x => [(0, .elm 12 x.1.2.1 x.1.2.2.1 0), (12, .sl .none 1 (strs (splitG 47 [] s))), (13, .int .i64 (strs (splitG 47 [] s)).length), (14, .int .i64 x.1.1)]) (fun _ => []) (fun x => (splitG 47 [] s).length - x.1.1) ⟨(0, xs, j, n), Nat.zero_le _, hj, rfl, hz⟩ ⟨.refl _, DLe.full, .refl _, .refl _, trivial⟩ trivial ?_
    rintro ⟨⟨i, ys, jj, m⟩, hi, hm, hd, hzm⟩
    obtain ⟨hsl, _⟩ := splitG_len (c := 47) s []
    dsimp only at hi hm hd hzm ⊢
    refine Tri.seq ?_
    refine Tri.region ti_ok ?_
    conv => whnf
    refine Tri.seq ?_
    refine Tri.cond (decide ((i : Int) < (strs (splitG 47 [] s)).length)) rfl (fun hc => ?_) (fun hc => ?_)
    · refine Tri.skip ?_
      conv => whnf
      refine Tri.seq ?_
      refine Tri.block ?_
      refine Tri.seq ?_
      refine Tri.region ti_ok ?_
      have hia : i < (splitG 47 [] s).length := by simpa [strs] using hc
      have hkl := kids_len m
      have hdr : (splitG 47 [] s).drop i = (splitG 47 [] s)[i] :: (splitG 47 [] s).drop (i + 1) := List.drop_eq_getElem_cons hia
      conv => whnf
      refine ⟨fun _ => by simp [strs]; omega, ?_⟩
      conv => whnf
      refine ⟨.str (splitG 47 [] s)[i], fun _ => by simp [strs, hia], ?_⟩
      conv => whnf
      intro b
      conv => whnf
      refine ⟨rfl, ?_⟩
      conv => whnf
      refine Tri.seq ?_
      refine Tri.boxElm 6 6 (.str (splitG 47 [] s)[i]) rfl rfl rfl rfl ?_
      refine Tri.regionG ti_ok ?_
      conv => whnf
      refine ⟨rfl, trivial, .inl ?_⟩
      conv => whnf
      refine ⟨rfl, trivial, .inr (XOp.checkElm rfl ?_)⟩
      conv => whnf
      refine ⟨rfl, trivial, .inl ?_⟩
      conv => whnf
      refine ⟨rfl, trivial, .inl ⟨encTop m, fun _ => hm, ?_⟩⟩
      conv => whnf
      refine ⟨rfl, trivial, .inl ?_⟩
      conv => whnf
      refine ⟨rfl, trivial, .inl ⟨[.sl .none 12 (m.kids.map enc), .fn (.func 97) [] [.elm 1 [.str (splitG 47 [] s)[i]] 0 0]], _, fun _ => G96 m.kids _ (by omega), ⟨.refl _, .refl _, trivial⟩, ?_⟩⟩
      conv => whnf
      refine ⟨rfl, trivial, .inl ?_⟩
      
      conv => whnf
      refine Tri.seq ?_
      refine Tri.seq ?_
      refine Tri.region ti_ok ?_
      conv => whnf
      refine Tri.cond (decide (kidIx m (splitG 47 [] s)[i] < 0)) rfl (fun hc => ?_) (fun hc => ?_)
      · refine Tri.seq ?_
        refine Tri.region ti_ok ?_
        conv => whnf
        refine Tri.ret ?_
        conv => whnf
        refine DLe.of_eq ?_
        rw [if_neg hne, ← hd, hdr]
        exact (if_pos (by simpa using hc)).symm
      · refine Tri.skip ?_
        conv => whnf
        have hix : ∃ (i' : Nat) (h : i' < m.kids.length), kidIx m (splitG 47 [] s)[i] = i' ∧ findK (splitG 47 [] s)[i] m.kids = some m.kids[i'] := by
          rcases kid_find m (splitG 47 [] s)[i] with ⟨h1, _⟩ | h
          · rw [h1] at hc; simp at hc
          · exact h
        obtain ⟨i', hi', he, _⟩ := hix
        have hks := kid_sz hi'
        rw [show firstIdx (fun k : NV => k.name == (splitG 47 [] s)[i]) m.kids = (i' : Int) from he]
        refine Tri.regionG ti_ok ?_
        conv => whnf
        refine ⟨rfl, trivial, .inl ?_⟩
        conv => whnf
        refine ⟨rfl, trivial, .inr (XOp.checkElm rfl ?_)⟩
        conv => whnf
        refine ⟨rfl, trivial, .inl ?_⟩
        conv => whnf
        refine ⟨rfl, trivial, .inl ⟨encTop m, fun _ => hm, ?_⟩⟩
        conv => whnf
        refine ⟨rfl, trivial, .inl ?_⟩
        conv => whnf
        refine ⟨rfl, trivial, .inl ⟨fun _ => by simp; omega, ?_⟩⟩
        conv => whnf
        refine ⟨rfl, trivial, .inl ?_⟩
        
        conv => whnf
        refine Tri.region ti_ok ?_
        conv => whnf
        refine .inl ⟨fun _ => by simp [InR]; omega, ?_⟩
        conv => whnf
        exact ⟨⟨(i + 1, m.kids.map enc, i', m.kids[i']), hia, get_kid hi', by rw [← hd, hdr]; simp only [findD, he]; rw [if_neg (by omega), show ((i' : Nat) : Int).toNat = i' from rfl, List.getElem?_eq_getElem hi'], by show sz m.kids[i'] < _; omega⟩, by show _ - (i + 1) < _ - i; omega, ⟨.refl _, .refl _, .refl _, .refl _, trivial⟩, trivial⟩
    · refine Tri.exit ?_
      conv => whnf
      refine Tri.seq ?_
      refine Tri.region ti_ok ?_
      conv => whnf
      refine Tri.ret ?_
      conv => whnf
      refine DLe.of_eq ?_
      have hin : i = (splitG 47 [] s).length := by simp [strs] at hc; omega
      rw [if_neg hne, ← hd, hin, List.drop_length]
      rfl
theorem G66 (hL : LibOk W0) (s : List UInt8) (hs : s.length < 1000000000) (n : NV) (hn : Fits n) (hv : valid n = true) : DFun Tryz.prog W0 35 [encTop n, .str s] (.tup [encTop (getR n s).1, .int .i64 (getR n s).2]) := by
  refine DFun.intro ti_ok Tryz.func35 rfl (by decide +kernel) Tryz.ntmps35 rfl fun Γ => ?_
  have hz := hn
  unfold Fits at hz
  refine Tri.seq ?_
  refine Tri.region ti_ok ?_
  conv => whnf
  intro b2
  conv => whnf
  intro b4
  conv => whnf
  refine Tri.seq ?_
  refine Tri.seq ?_
  refine Tri.region ti_ok ?_
  conv => whnf
  refine ⟨rfl, ?_⟩
  conv => whnf
  refine ⟨[encTop n], _, fun _ => F39 hL n (by omega), ⟨.refl _, trivial⟩, ?_⟩
  conv => whnf
  refine Tri.cond _ rfl (fun hc => ?_) (fun hc => ?_)
  · refine Tri.seq ?_
    exfalso
    rw [hv] at hc; cases hc
  · refine Tri.skip ?_
    conv => whnf
    refine Tri.seq ?_
    refine Tri.boxElm 2 2 (encTop n) rfl rfl rfl rfl ?_
    have hform : ∃ d, DFun Tryz.prog W0 66 [.elm 12 [encTop n] 0 0, .str s] d ∧ ((d = .raw (.pointer none) ∧ getR n s = (zeroN, 6)) ∨ ∃ m ys i, d = .elm 12 ys i 0 ∧ ys[i]? = some (encTop m) ∧ getR n s = (m, 0) ∧ sz m ≤ sz n) := by
      refine ⟨_, G116 hL s hs [encTop n] 0 n rfl (by omega), ?_⟩
      by_cases h0 : s = []
      · rw [if_pos h0]
        exact .inr ⟨n, _, _, rfl, rfl, by rw [getR, if_pos h0], Nat.le_refl _⟩
      · rw [if_neg h0, getR, if_neg h0]
        rcases findD_getN (splitG 47 [] s) [encTop n] 0 n rfl with ⟨h1, h2⟩ | ⟨m, ys, i, h1, h2, h3⟩
        · rw [h1, h2]; exact .inl ⟨rfl, rfl⟩
        · rw [h1, h2]; exact .inr ⟨m, ys, i, rfl, h3, rfl, getN_sz _ _ _ h1⟩
    obtain ⟨d, hG, ⟨rfl, hR⟩ | ⟨m, ys, i, rfl, hi, hR, hsm⟩⟩ := hform
    · refine Tri.region ti_ok ?_
      conv => whnf
      refine ⟨[.elm 12 [encTop n] 0 0, .str s], _, fun _ => hG, ⟨.refl _, .refl _, trivial⟩, ?_⟩
      conv => whnf
      refine Tri.seq ?_
      refine Tri.seq ?_
      refine Tri.regionG ti_ok ?_
      conv => whnf
      refine ⟨rfl, trivial, .inl ?_⟩
      conv => whnf
      refine ⟨rfl, trivial, .inr (XOp.nilNil rfl rfl ?_)⟩
      conv => whnf
      refine Tri.cond true rfl (fun hc => ?_) (fun hc => by cases hc)
      refine Tri.seq ?_
      refine Tri.region ti_ok ?_
      conv => whnf
      refine ⟨rfl, ?_⟩
      conv => whnf
      refine Tri.ret ?_
      conv => whnf
      refine ⟨rfl, ?_⟩
      conv => whnf
      rw [hR]
      exact ⟨zeroD, .refl _, trivial⟩
    · refine Tri.region ti_ok ?_
      conv => whnf
      refine ⟨[.elm 12 [encTop n] 0 0, .str s], _, fun _ => hG, ⟨.refl _, .refl _, trivial⟩, ?_⟩
      conv => whnf
      refine Tri.seq ?_
      refine Tri.seq ?_
      refine Tri.regionG ti_ok ?_
      conv => whnf
      refine ⟨rfl, trivial, .inl ?_⟩
      conv => whnf
      refine ⟨rfl, trivial, .inr (XOp.nilElm rfl rfl ?_)⟩
      conv => whnf
      refine Tri.cond false rfl (fun hc => by cases hc) (fun hc => ?_)
      refine Tri.skip ?_
      conv => whnf
      refine Tri.seq ?_
      refine Tri.regionG ti_ok ?_
      conv => whnf
      refine ⟨rfl, trivial, .inl ?_⟩
      conv => whnf
      refine ⟨rfl, trivial, .inr (XOp.checkElm rfl ?_)⟩
      conv => whnf
      refine ⟨rfl, trivial, .inl ⟨encTop m, fun _ => hi, ?_⟩⟩
      conv => whnf
      refine ⟨rfl, trivial, .inl ⟨[encTop m], _, fun _ => G117 _ m (Nat.lt_succ_self _) (by omega), ⟨.refl _, trivial⟩, ?_⟩⟩
      conv => whnf
      refine ⟨rfl, trivial, .inl ⟨rfl, ?_⟩⟩
      conv => whnf
      refine ⟨rfl, trivial, .inl ?_⟩
      conv => whnf
      refine Tri.ret ?_
      conv => whnf
      refine ⟨rfl, ?_⟩
      conv => whnf
      rw [hR]
      exact ⟨DLe.of_eq rfl, .refl _, trivial⟩
end Go.Tame.V
/- Contracts: the paths of a tree, gathered by a walk; items; options of discs. By program (mkk3.py, mk.py). -/
namespace Go.Tame.V
open Go Go.Proofs
variable {W0 : World}
set_option maxRecDepth 10000
set_option linter.unusedVariables false
set_option linter.unusedSimpArgs false

/-- What the walk keeps: the paths so far. -/
def PA (bb : Nat) (acc : List (List UInt8)) (v : Value) : Heap := look [(2000, .box bb [.sl (.own 2001 v) 1 (strs acc)]), (2001, .own v (strs acc).length 1 9)]

theorem K65 (bb : Nat) (n : NV) (p : List UInt8) (l : Int) (acc : List (List UInt8)) (v : Value) (hacc : acc.length < 10000000) : DCall Tryz.prog W0 65 ([encTop n, .str p, .int .i64 l] ++ [.box 2000 bb 0]) (PA bb acc v) fun d H' => ∃ v', d = .bool true ∧ H' = PA bb (acc ++ [p]) v' := by
  refine DCall.intro ti_ok Tryz.func65 rfl (by decide +kernel) Tryz.ntmps65 rfl fun Γ => ?_
  refine Tri.seq ?_
  refine Tri.region ti_ok ?_
  conv => whnf
  intro b
  conv => whnf
  refine Tri.seq ?_
  refine Tri.region ti_ok ?_
  conv => whnf
  refine ⟨rfl, ?_⟩
  conv => whnf
  refine ⟨trivial, ?_⟩
  conv => whnf
  refine ⟨rfl, rfl, ?_⟩
  conv => whnf
  refine ⟨by show (_ + 1) * 16 ≤ _; simp [strs]; omega, by show _ + 1 ≤ _; simp [strs]; omega, (fun h => by cases h), fun v1 => ?_⟩
  conv => whnf
  refine ⟨rfl, ?_⟩
  conv => whnf
  refine Tri.seq ?_
  refine Tri.region ti_ok ?_
  conv => whnf
  have he : strs acc ++ [D.str p] = strs (acc ++ [p]) := by simp [strs]
  refine Tri.boxLe 2000 (cs' := [.sl (.own 2001 v1) 1 (strs (acc ++ [p]))]) rfl ⟨DLe.trans (DLe.of_eq (congrArg (D.sl (.own 11 v1) 1) he)) (DLe.own 11 2001), trivial⟩ ?_
  refine Tri.retK [(7, .bool true)] [(2000, .box bb [.sl (.own 2001 v1) 1 (strs (acc ++ [p]))]), (2001, .own v1 (strs (acc ++ [p])).length 1 9)] [(2000, 2000), (2001, 11)] ⟨⟨.refl _, trivial⟩, rfl, rfl, rfl, rfl, congrArg (fun z => some (HObj.own v1 z 1 9)) (by simp [strs]), trivial⟩ ?_
  conv => whnf
  exact ⟨_, .refl _, v1, rfl, rfl⟩

theorem szL_split : ∀ {l : List NV} {i : Nat} (h : i < l.length), szL (l.take i) + sz l[i] ≤ szL l
  | k :: r, 0, _ => by simp only [List.take_zero, szL, List.getElem_cons_zero]; omega
  | k :: r, i + 1, h => by
    have := szL_split (l := r) (i := i) (by simpa using h)
    simp only [List.take_succ_cons, szL, List.getElem_cons_succ]; omega
theorem K64 (bb : Nat) : ∀ (N : Nat) (n : NV) (p : List UInt8) (l : Int) (acc : List (List UInt8)) (v : Value), sz n < N → p.length + sz n + l.toNat + n.name.length < 100000000 → 1 ≤ l → acc.length + sz n < 10000000 →
    DCall Tryz.prog W0 64 [encTop n, .str p, .int .i64 l, .fn (.func 65) [] [.box 2000 bb 0]] (PA bb acc v) fun d H' => ∃ v', d = .bool true ∧ H' = PA bb (acc ++ pathsS n p l) v' := by
  refine fun N => Nat.rec (fun n p l acc v h => absurd h (Nat.not_lt_zero _)) (fun N ih n p l acc v hN hb hl hacc => ?_) N
  refine DCall.intro ti_ok Tryz.func64 rfl (by decide +kernel) Tryz.ntmps64 rfl fun Γ => ?_
  refine Tri.seq ?_
  refine Tri.region ti_ok ?_
  conv => whnf
  intro b
  conv => whnf
  refine Tri.seq ?_
  refine Tri.seq ?_
  refine Tri.regionE ti_ok ?_
  conv => whnf
  refine ⟨rfl, ?_⟩
  conv => whnf
  refine .inr ?_
  conv => whnf
  refine ⟨_, [(2000, 2000), (2001, 2001)], _, K65 bb n p l acc v (by omega), rfl, ⟨.refl _, .refl _, .refl _, ?_⟩, ?_⟩
  · exact LeL.refl _
  rintro d H' ⟨v1, rfl, rfl⟩
  refine ⟨_, .refl _, ?_⟩
  conv => whnf
  refine Tri.cond _ rfl (fun hc => ?_) (fun hc => ?_)
  · exact absurd hc (by simp)
  · refine Tri.skip ?_
    conv => whnf
    refine Tri.seq ?_
    refine Tri.seq ?_
    refine Tri.region ti_ok ?_
    conv => whnf
    refine ⟨rfl, ?_⟩
    conv => whnf
    refine Tri.block ?_
    have h0 : acc ++ [p] ++ pathsSL (n.kids.take 0) p l = acc ++ [p] := by simp [pathsSL]
    refine Tri.loopK (α := { x : Nat × Value // x.1 ≤ n.kids.length })
      (fun x => [(1, .str p), (2, .int .i64 l), (3, .fn (.func 65) [] [.box 2000 bb 0]), (18, .sl .none 12 (n.kids.map enc)), (19, .int .i64 (n.kids.map enc).length), (20, .int .i64 x.1.1)])
      (fun x => [(2000, .box bb [.sl (.own 2001 x.1.2) 1 (strs (acc ++ [p] ++ pathsSL (n.kids.take x.1.1) p l))]), (2001, .own x.1.2 (strs (acc ++ [p] ++ pathsSL (n.kids.take x.1.1) p l)).length 1 9)]) (fun x => n.kids.length - x.1.1) ⟨(0, v1), by simp⟩ [(2000, 2000), (2001, 2001)]
      ⟨⟨.refl _, .refl _, .refl _, .refl _, .refl _, .refl _, trivial⟩, rfl, rfl, congrArg (fun z => some (HObj.box bb [.sl (.own 2001 v1) 1 (strs z)])) h0.symm, rfl, congrArg (fun z => some (HObj.own v1 (strs z).length 1 9)) h0.symm, trivial⟩ ?_
    rintro ⟨⟨i, v2⟩, hi⟩
    dsimp only at hi ⊢
    refine Tri.seq ?_
    refine Tri.region ti_ok ?_
    conv => whnf
    refine Tri.seq ?_
    refine Tri.cond _ rfl (fun hc => ?_) (fun hc => ?_)
    · refine Tri.skip ?_
      conv => whnf
      have hik : i < n.kids.length := by simpa using hc
      have hks := kid_sz hik
      have hbl := below_len p n.kids[i].name (l + 1)
      have hkl := kids_len n
      have hnx := pathsSL_next hik p l
      have hll := pathsSL_len (n.kids.take i) p l
      have hlt := szL_split hik
      have hcz := cntL_sz (n.kids.take i)
      have hsze := sz_eq n
      refine Tri.seq ?_
      refine Tri.block ?_
      refine Tri.seq ?_
      refine Tri.region ti_ok ?_
      conv => whnf
      refine ⟨fun _ => by simp; omega, ?_⟩
      conv => whnf
      refine ⟨encTop n.kids[i], fun _ => get_kid hik, ?_⟩
      conv => whnf
      intro b
      conv => whnf
      refine ⟨rfl, ?_⟩
      conv => whnf
      refine Tri.seq ?_
      refine Tri.drawTailE ti_ok 10 mixed (by kernel_rfl) ?_
      conv => whnf
      refine ⟨rfl, ?_⟩
      conv => whnf
      refine ⟨rfl, ?_⟩
      conv => whnf
      refine .inl ⟨fun _ => by simp [InR]; omega, ?_⟩
      conv => whnf
      refine ⟨[.str p, .str n.kids[i].name, .int .i64 (l + 1)], _, fun _ => F99 p n.kids[i].name (l + 1) (by omega), ⟨.refl _, .refl _, .refl _, trivial⟩, ?_⟩
      conv => whnf
      refine .inl ⟨fun _ => by simp [InR]; omega, ?_⟩
      conv => whnf
      refine .inr ?_
      conv => whnf
      refine ⟨_, [(2000, 2000), (2001, 2001)], _, ih n.kids[i] (below p n.kids[i].name (l + 1)) (l + 1) (acc ++ [p] ++ pathsSL (n.kids.take i) p l) v2 (by omega) (by omega) (by omega) (by simp only [List.length_append, List.length_cons, List.length_nil]; omega), rfl, ⟨.refl _, .refl _, .refl _, .refl _, trivial⟩, ?_⟩
      rintro d H' ⟨v3, rfl, rfl⟩
      refine ⟨_, .refl _, ?_⟩
      conv => whnf
      refine Tri.cond _ rfl (fun hc => ?_) (fun hc => ?_)
      · exact absurd hc (by simp)
      · refine Tri.skip ?_
        conv => whnf
        refine Tri.region ti_ok ?_
        conv => whnf
        refine .inl ⟨fun _ => by simp [InR]; omega, ?_⟩
        conv => whnf
        have he : acc ++ [p] ++ pathsSL (n.kids.take i) p l ++ pathsS n.kids[i] (below p n.kids[i].name (l + 1)) (l + 1) = acc ++ [p] ++ pathsSL (n.kids.take (i + 1)) p l := by rw [hnx, List.append_assoc]
        exact ⟨⟨(i + 1, v3), by omega⟩, [(2000, 2000), (2001, 2001)], by show n.kids.length - (i + 1) < n.kids.length - i; omega, ⟨.refl _, .refl _, .refl _, .refl _, .refl _, .refl _, trivial⟩, rfl, rfl, congrArg (fun z => some (HObj.box bb [.sl (.own 2001 v3) 1 (strs z)])) he, rfl, congrArg (fun z => some (HObj.own v3 (strs z).length 1 9)) he, trivial⟩
    · refine Tri.exit ?_
      have hin : i = n.kids.length := by simp at hc; omega
      have he : acc ++ [p] ++ pathsSL (n.kids.take i) p l = acc ++ pathsS n p l := by
        rw [hin, List.take_length, pathsS_eq, List.append_assoc]; rfl
      conv => whnf
      refine Tri.seq ?_
      refine Tri.region ti_ok ?_
      conv => whnf
      refine Tri.retK [(8, .bool true)] [(2000, .box bb [.sl (.own 2001 v2) 1 (strs (acc ++ pathsS n p l))]), (2001, .own v2 (strs (acc ++ pathsS n p l)).length 1 9)] [(2000, 2000), (2001, 2001)] ⟨⟨.refl _, trivial⟩, rfl, rfl, congrArg (fun z => some (HObj.box bb [.sl (.own 2001 v2) 1 (strs z)])) he, rfl, congrArg (fun z => some (HObj.own v2 (strs z).length 1 9)) he, trivial⟩ ?_
      conv => whnf
      exact ⟨_, .refl _, v2, rfl, rfl⟩

theorem K34 (hL : LibOk W0) (n : NV) (hn : Fits n) : DFun Tryz.prog W0 34 [encTop n] (.sl .none 1 (strs (if valid n then pathsS n [] 1 else []))) := by
  refine DFun.intro ti_ok Tryz.func34 rfl (by decide +kernel) Tryz.ntmps34 rfl fun Γ => ?_
  refine Tri.seq ?_
  refine Tri.region ti_ok ?_
  conv => whnf
  intro b
  conv => whnf
  refine Tri.seq ?_
  refine Tri.seq ?_
  refine Tri.region ti_ok ?_
  conv => whnf
  refine ⟨rfl, ?_⟩
  conv => whnf
  refine ⟨[encTop n], _, fun _ => F39 hL n (by unfold Fits at hn; omega), ⟨.refl _, trivial⟩, ?_⟩
  conv => whnf
  refine Tri.cond _ rfl (fun hc => ?_) (fun hc => ?_)
  · refine Tri.seq ?_
    refine Tri.region ti_ok ?_
    conv => whnf
    refine Tri.ret ?_
    conv => whnf
    have hv : valid n = false := by simpa using hc
    rw [hv]
    exact DLe.nil
  · refine Tri.skip ?_
    have hv : valid n = true := by simpa using hc
    rw [if_pos hv]
    conv => whnf
    refine Tri.seq ?_
    refine Tri.region ti_ok ?_
    conv => whnf
    intro b
    conv => whnf
    refine Tri.seq ?_
    refine Tri.ownNil 2001 1 9 ?_
    refine Tri.boxLe 3 (cs' := [.sl (.own 2001 (.slice none 0 0)) 1 []]) rfl ⟨DLe.nilOwn, trivial⟩ ?_
    refine Tri.regionX ti_ok ?_
    conv => whnf
    refine .inl ?_
    conv => whnf
    refine ⟨rfl, ?_⟩
    conv => whnf
    refine .inr (XOp.call rfl [encTop n, .str [], .int .i64 1, .fn (.func 65) [] [.box 2000 b 0]] [(2000, 3), (2001, 2001)] (K64 b _ n [] 1 [] (.slice none 0 0) (Nat.lt_succ_self _) (by simp; unfold Fits at hn; omega) (by omega) (by simp; unfold Fits at hn; omega)) rfl ⟨.refl _, .refl _, .refl _, DLe.fn trivial ⟨DLe.box, trivial⟩, trivial⟩ ?_)
    rintro d H' ⟨v', rfl, rfl⟩
    refine ⟨_, .refl _, ?_⟩
    conv => whnf
    refine Tri.seq ?_
    refine Tri.region ti_ok ?_
    conv => whnf
    refine ⟨rfl, ?_⟩
    conv => whnf
    refine Tri.ret ?_
    conv => whnf
    exact DLe.unown
end Go.Tame.V
/- Contracts: options of a disc, items of a tree, options of discs. By program (mk.py). -/
namespace Go.Tame.V
open Go Go.Proofs
variable {W0 : World}
set_option maxRecDepth 10000
set_option linter.unusedVariables false
set_option linter.unusedSimpArgs false

theorem DCall.freshK {f : FuncId} {ds : List D} {Q : D → Heap → Prop} {H : Heap} {k s : Nat} (h : H s = none) (hc : DCall Tryz.prog W0 f ds Heap.none Q) : DCall Tryz.prog W0 f ds (handed H [(k, s)]) Q := by
  have e : handed H [(k, s)] = Heap.none := by
    funext j
    simp only [handed, Heap.none]
    cases Nat.beq j k with
    | true => exact h
    | false => rfl
  rw [e]; exact hc
/-- The options of a disc with some items. -/
def hasP (items : List (List UInt8)) (p : List UInt8) : Bool := items.any fun x => p == x
def optV (m : MV) (items : List (List UInt8)) : MV := { m with boot := m.boot.filter fun b => hasP items b.path }
theorem opt_filter (l : List BE) (items : List (List UInt8)) : (l.filter fun b => !!items.any fun x => b.path == x) = l.filter fun b => hasP items b.path := by
  congr 1; funext b; exact Bool.not_not _

theorem K15 (m : MV) (items : List (List UInt8)) (hm : m.boot.length < 1000000) (hi : items.length < 1000000000) : DFun Tryz.prog W0 15 [encM m, .sl .none 1 (strs items)] (encM (optV m items)) := by
  by_cases h0 : m.boot = []
  · refine DFun.intro ti_ok Tryz.func15 rfl (by decide +kernel) Tryz.ntmps15 rfl fun Γ => ?_
    refine Tri.seq ?_
    refine Tri.region ti_ok ?_
    conv => whnf
    intro b1
    conv => whnf
    intro b2
    conv => whnf
    intro b3
    conv => whnf
    refine Tri.boxElm 3 3 (.sl .none 1 (strs items)) rfl rfl rfl rfl ?_
    refine Tri.seq ?_
    refine Tri.region ti_ok ?_
    conv => whnf
    refine ⟨rfl, ?_⟩
    conv => whnf
    rw [h0]
    refine ⟨[.sl .none 6 (([] : List BE).map encB)], _, fun _ => K39 [] (by simp), ⟨.refl _, trivial⟩, ?_⟩
    conv => whnf
    refine ⟨[.sl .none 6 [], .fn (.func 40) [] [.elm 1 [.sl .none 1 (strs items)] 0 0]], _, fun _ => K38e 40 _ (fun k hk => by cases hk), ⟨.refl _, .refl _, trivial⟩, ?_⟩
    conv => whnf
    refine ⟨rfl, ?_⟩
    conv => whnf
    refine Tri.seq ?_
    refine Tri.region ti_ok ?_
    conv => whnf
    refine ⟨rfl, ?_⟩
    conv => whnf
    refine ⟨rfl, ?_⟩
    conv => whnf
    refine Tri.ret ?_
    conv => whnf
    refine ⟨rfl, ?_⟩
    conv => whnf
    have he : optV m items = { m with boot := [] } := by simp [optV, h0]
    rw [he]
    exact .refl _
  have hpos : 0 < m.boot.length := List.length_pos_iff.2 h0
  refine DFun.intro ti_ok Tryz.func15 rfl (by decide +kernel) Tryz.ntmps15 rfl fun Γ => ?_
  refine Tri.seq ?_
  refine Tri.region ti_ok ?_
  conv => whnf
  intro b1
  conv => whnf
  intro b2
  conv => whnf
  intro b3
  conv => whnf
  refine Tri.boxElm 3 3 (.sl .none 1 (strs items)) rfl rfl rfl rfl ?_
  refine Tri.seq ?_
  refine Tri.regionX ti_ok ?_
  conv => whnf
  refine .inl ?_
  conv => whnf
  refine ⟨rfl, ?_⟩
  conv => whnf
  refine .inr (XOp.call rfl [.sl .none 6 (m.boot.map encB)] [(2000, 70)] (DCall.freshK rfl (K39r (m.boot.map encB) encB_cells (by simpa using hpos) (by simpa using hm))) rfl ⟨.refl _, trivial⟩ ?_)
  rintro d H' ⟨v, rfl, rfl⟩
  refine ⟨_, .refl _, ?_⟩
  conv => whnf
  refine .inr (XOp.call rfl [.raw v, .fn (.func 40) [] [.elm 1 [.sl .none 1 (strs items)] 0 0]] [(2000, 70)] (DCall.heapK rfl (K38 m.boot hm hpos v 40 [.elm 1 [.sl .none 1 (strs items)] 0 0] (fun b => !items.any fun x => b.path == x) (fun k _ => K40 items k hi))) rfl ⟨.refl _, .refl _, trivial⟩ ?_)
  rintro d H' ⟨aa, nn, cc, rfl, rfl⟩
  refine ⟨_, .refl _, ?_⟩
  conv => whnf
  refine .inl ?_
  conv => whnf
  refine ⟨rfl, ?_⟩
  conv => whnf
  refine Tri.commitBox 70 2 10 rfl rfl (by decide) rfl ?_
  refine Tri.seq ?_
  refine Tri.region ti_ok ?_
  conv => whnf
  refine ⟨rfl, ?_⟩
  conv => whnf
  refine ⟨rfl, ?_⟩
  conv => whnf
  refine Tri.ret ?_
  conv => whnf
  refine ⟨rfl, ?_⟩
  conv => whnf
  rw [opt_filter]
  exact .refl _

def fewT (l : List NV) (s : Int) : Bool := l.all fun n => few1 n s
theorem K17 (l : List NV) (s : Int) (hl : l.length < 1000000000) (hf : ∀ n ∈ l, Fits n) : DFun Tryz.prog W0 17 [.sl .none 12 (l.map enc), .int .i64 s] (.bool (fewT l s && decide (l.length ≤ 10))) := by
  refine DFun.intro ti_ok Tryz.func17 rfl (by decide +kernel) Tryz.ntmps17 rfl fun Γ => ?_
  refine Tri.seq ?_
  refine Tri.region ti_ok ?_
  conv => whnf
  refine Tri.seq ?_
  refine Tri.seq ?_
  refine Tri.region ti_ok ?_
  conv => whnf
  refine Tri.block ?_
  refine Tri.loop (α := { i : Nat // i ≤ l.length ∧ ∀ j (h : j < l.length), j < i → few1 l[j] s = true }) (fun x => [(0, .sl .none 12 (l.map enc)), (1, .int .i64 s), (5, .int .i64 x.1)]) (fun _ => []) (fun x => l.length - x.1) ⟨0, by simp⟩ ⟨.refl _, .refl _, .refl _, trivial⟩ trivial ?_
  rintro ⟨i, hi, hp⟩
  dsimp only
  refine Tri.seq ?_
  refine Tri.seq ?_
  refine Tri.region ti_ok ?_
  conv => whnf
  refine Tri.cond _ rfl (fun hc => ?_) (fun hc => ?_)
  · refine Tri.skip ?_
    conv => whnf
    have hia : i < l.length := by simpa using hc
    refine Tri.seq ?_
    refine Tri.block ?_
    refine Tri.seq ?_
    refine Tri.region ti_ok ?_
    conv => whnf
    refine ⟨fun _ => by simp; omega, ?_⟩
    conv => whnf
    refine ⟨encTop l[i], fun _ => get_kids hia, ?_⟩
    conv => whnf
    refine ⟨[encTop l[i], .int .i64 s], _, fun _ => F26 l[i] s (hf _ (List.getElem_mem hia)), ⟨.refl _, .refl _, trivial⟩, ?_⟩
    conv => whnf
    refine Tri.cond _ rfl (fun hc => ?_) (fun hc => ?_)
    · refine Tri.seq ?_
      refine Tri.region ti_ok ?_
      conv => whnf
      refine Tri.ret ?_
      conv => whnf
      have hx : fewT l s = false := by
        rw [fewT, List.all_eq_false]
        exact ⟨l[i], List.getElem_mem hia, by simpa using hc⟩
      rw [hx]
      exact .refl _
    · refine Tri.skip ?_
      conv => whnf
      refine Tri.region ti_ok ?_
      conv => whnf
      refine .inl ⟨fun _ => by simp [InR]; omega, ?_⟩
      conv => whnf
      exact ⟨⟨i + 1, by omega, fun j hj hlt => (Nat.lt_succ_iff_lt_or_eq.1 hlt).elim (hp j hj) fun e => by subst e; simpa using hc⟩, by show _ - (i + 1) < _ - i; omega, ⟨.refl _, .refl _, .refl _, trivial⟩, trivial⟩
  · refine Tri.exit ?_
    conv => whnf
    refine Tri.seq ?_
    refine Tri.region ti_ok ?_
    conv => whnf
    refine Tri.ret ?_
    conv => whnf
    have hx : fewT l s = true := by
      rw [fewT, List.all_eq_true]
      intro n hn
      obtain ⟨j, hj, rfl⟩ := List.mem_iff_getElem.1 hn
      exact hp j hj (by simp at hc; omega)
    rw [hx]
    refine DLe.of_eq (congrArg D.bool ?_)
    by_cases h10 : l.length ≤ 10
    · simp [h10]; omega
    · simp [h10]; omega

def isItem (n : NV) (p : List UInt8) : Bool := decide ((getR n p).2 = 0) && (decide (p ≠ []) && (decide ((getR n p).1.kind ≠ 0) || decide ((getR n p).1.kids.length = 0)))
theorem isItem_eq (n : NV) (p : List UInt8) : (bif (bif (getR n p).2 == 0 then !(p == []) else false) then (bif (getR n p).1.kind != 0 then true else (((((getR n p).1.kids.map enc).length : Nat) : Int) == 0)) else false) = isItem n p := by
  unfold isItem
  by_cases h1 : (getR n p).2 = 0
  · by_cases h2 : p = []
    · simp [h1, h2]
    · by_cases h3 : (getR n p).1.kind = 0
      · have h4 : ((getR n p).1.kids.map enc).length = (getR n p).1.kids.length := List.length_map _
        rw [h4]
        cases hk : (getR n p).1.kids with
        | nil => simp [h1, h2, h3]
        | cons x r => simp [h1, h2, h3]; omega
      · simp [h1, h2, h3]
  · simp [h1]
mutual
theorem pathsS_plen : ∀ (n : NV) (q : List UInt8) (l : Int), ∀ p ∈ pathsS n q l, p.length ≤ q.length + sz n
  | .mk _ _ _ _ _ _ _ _ _ _ ks ss, q, l, p, hp => by
    simp only [pathsS, List.mem_cons] at hp
    rcases hp with rfl | hp
    · omega
    · have := pathsSL_plen ks q l p hp
      simp only [sz]; omega
theorem pathsSL_plen : ∀ (ks : List NV) (q : List UInt8) (l : Int), ∀ p ∈ pathsSL ks q l, p.length ≤ q.length + szL ks
  | [], q, l, p, hp => by cases hp
  | k :: r, q, l, p, hp => by
    simp only [pathsSL, List.mem_append] at hp
    simp only [szL]
    rcases hp with hp | hp
    · have := pathsS_plen k _ _ p hp
      have := below_len q k.name (l + 1)
      omega
    · have := pathsSL_plen r q l p hp
      omega
end
def itemsF (n : NV) (l : List (List UInt8)) : List (List UInt8) := l.filter (isItem n)
theorem itemsF_next {n : NV} {l : List (List UInt8)} {i : Nat} (h : i < l.length) : itemsF n (l.take (i + 1)) = itemsF n (l.take i) ++ (if isItem n l[i] then [l[i]] else []) := by
  rw [itemsF, itemsF, List.take_succ_eq_append_getElem h, List.filter_append]
  congr 1
  by_cases hx : isItem n l[i] = true
  · simp [hx]
  · simp [hx]
def itemsV (n : NV) : List (List UInt8) := if valid n then itemsF n (pathsS n [] 1) else []
theorem K11 (hL : LibOk W0) (n : NV) (hn : Fits n) : DFun Tryz.prog W0 11 [encTop n] (.sl .none 1 (strs (itemsV n))) := by
  refine DFun.intro ti_ok Tryz.func11 rfl (by decide +kernel) Tryz.ntmps11 rfl fun Γ => ?_
  refine Tri.seq ?_
  refine Tri.region ti_ok ?_
  conv => whnf
  intro b1
  conv => whnf
  refine Tri.seq ?_
  refine Tri.region ti_ok ?_
  conv => whnf
  refine Tri.seq ?_
  refine Tri.seq ?_
  refine Tri.region ti_ok ?_
  conv => whnf
  refine ⟨rfl, ?_⟩
  conv => whnf
  refine ⟨[encTop n], _, fun _ => K34 hL n hn, ⟨.refl _, trivial⟩, ?_⟩
  conv => whnf
  generalize hL0 : (if valid n then pathsS n [] 1 else []) = L
  have hall : ∀ p ∈ L, valid n = true ∧ p.length < 1000000000 := by
    intro p hp
    by_cases hv : valid n = true
    · rw [if_pos hv] at hL0
      subst hL0
      exact ⟨hv, by have := pathsS_plen n [] 1 p hp; simp at this; unfold Fits at hn; omega⟩
    · rw [if_neg hv] at hL0; subst hL0; cases hp
  have hLl : L.length < 10000000 := by
    rw [← hL0]; split
    · rw [pathsS_len]; have := cnt_sz n; unfold Fits at hn; omega
    · simp
  refine Tri.block ?_
  refine Tri.ownNil 1000 1 9 ?_
  refine Tri.loopK (α := { i : Nat // i ≤ L.length } × Value) (fun x => [(1, .box 1 b1 0), (3, .sl (.own 1000 x.2) 1 (strs (itemsF n (L.take x.1.1)))), (9, .sl .none 1 (strs L)), (10, .int .i64 (strs L).length), (11, .int .i64 x.1.1)]) (fun x => [(1, .box b1 (encTop n).cells), (1000, .own x.2 (strs (itemsF n (L.take x.1.1))).length 1 9)]) (fun x => L.length - x.1.1) (⟨0, by omega⟩, .slice none 0 0) [(1, 1), (1000, 1000)]
    ⟨⟨.refl _, DLe.nilOwn, .refl _, .refl _, .refl _, trivial⟩, rfl, rfl, rfl, rfl, rfl, trivial⟩ ?_
  rintro ⟨⟨i, hi⟩, w⟩
  dsimp only at hi ⊢
  refine Tri.seq ?_
  refine Tri.region ti_ok ?_
  conv => whnf
  refine Tri.seq ?_
  refine Tri.cond _ rfl (fun hc => ?_) (fun hc => ?_)
  · refine Tri.skip ?_
    conv => whnf
    have hia : i < L.length := by simpa [strs] using hc
    obtain ⟨hv, hpl⟩ := hall _ (List.getElem_mem hia)
    refine Tri.seq ?_
    refine Tri.block ?_
    refine Tri.seq ?_
    refine Tri.region ti_ok ?_
    conv => whnf
    refine ⟨fun _ => by simp [strs]; omega, ?_⟩
    conv => whnf
    refine ⟨.str L[i], fun _ => by simp [strs, hia], ?_⟩
    conv => whnf
    refine Tri.seq ?_
    refine Tri.region ti_ok ?_
    conv => whnf
    refine ⟨rfl, ?_⟩
    conv => whnf
    refine ⟨[encTop n, .str L[i]], _, fun _ => G66 hL L[i] hpl n hn hv, ⟨.refl _, .refl _, trivial⟩, ?_⟩
    conv => whnf
    intro b6
    conv => whnf
    refine ⟨rfl, ?_⟩
    conv => whnf
    refine Tri.seq ?_
    refine Tri.region ti_ok ?_
    conv => whnf
    refine ⟨fun h => h, ?_⟩
    conv => whnf
    refine ⟨fun h0 h => by first | exact h | (rw [h]; rfl) | (rw [h0, h]; rfl), ?_⟩
    conv => whnf
    refine ⟨fun h => h, ?_⟩
    conv => whnf
    refine ⟨rfl, ?_⟩
    conv => whnf
    refine ⟨fun h => h, ?_⟩
    conv => whnf
    refine ⟨fun h => h, ?_⟩
    conv => whnf
    refine ⟨fun h => h, ?_⟩
    conv => whnf
    refine ⟨rfl, ?_⟩
    conv => whnf
    refine ⟨fun h => h, ?_⟩
    conv => whnf
    refine ⟨fun h => h, ?_⟩
    conv => whnf
    refine ⟨fun h => h, ?_⟩
    conv => whnf
    refine ⟨fun h0 h => by first | exact h | (rw [h]; rfl) | (rw [h0, h]; rfl), ?_⟩
    conv => whnf
    refine ⟨fun h0 h => by first | exact h | (rw [h]; rfl) | (rw [h0, h]; rfl), ?_⟩
    conv => whnf
    refine Tri.cond (isItem n L[i]) (congrArg D.bool (isItem_eq n L[i])) (fun hc => ?_) (fun hc => ?_)
    · have hll : (itemsF n (L.take i)).length ≤ L.length := by have := List.length_filter_le (isItem n) (L.take i); rw [itemsF]; simp only [List.length_take] at this; omega
      have he : strs (itemsF n (L.take i)) ++ [D.str L[i]] = strs (itemsF n (L.take (i + 1))) := by rw [itemsF_next hia, if_pos hc]; simp [strs]
      refine Tri.region ti_ok ?_
      conv => whnf
      refine ⟨trivial, ?_⟩
      conv => whnf
      refine ⟨rfl, rfl, ?_⟩
      conv => whnf
      refine ⟨by show (_ + 1) * 16 ≤ _; simp [strs]; omega, by show _ + 1 ≤ _; simp [strs]; omega, (fun h => by cases h), fun v => ?_⟩
      conv => whnf
      refine Tri.region ti_ok ?_
      conv => whnf
      refine .inl ⟨fun _ => by simp [InR]; omega, ?_⟩
      conv => whnf
      exact ⟨(⟨i + 1, by omega⟩, v), [(1, 1), (1000, 41)], by show L.length - (i + 1) < L.length - i; omega, ⟨.refl _, DLe.ownEq he, .refl _, .refl _, .refl _, trivial⟩, rfl, rfl, rfl, rfl, ownH (by rw [← he, List.length_append]; rfl), trivial⟩
    · refine Tri.skip ?_
      conv => whnf
      refine Tri.region ti_ok ?_
      conv => whnf
      refine .inl ⟨fun _ => by simp [InR]; omega, ?_⟩
      conv => whnf
      have he : strs (itemsF n (L.take i)) = strs (itemsF n (L.take (i + 1))) := by rw [itemsF_next hia, if_neg (by rw [hc]; simp), List.append_nil]
      exact ⟨(⟨i + 1, by omega⟩, w), [(1, 1), (1000, 1000)], by show L.length - (i + 1) < L.length - i; omega, ⟨.refl _, DLe.of_eq (congrArg (D.sl _ 1) he), .refl _, .refl _, .refl _, trivial⟩, rfl, rfl, rfl, rfl, ownH (by rw [he]), trivial⟩
  · refine Tri.exit ?_
    conv => whnf
    refine Tri.seq ?_
    refine Tri.region ti_ok ?_
    conv => whnf
    refine Tri.ret ?_
    conv => whnf
    have hil : i = L.length := by simp [strs] at hc; omega
    have he : itemsF n (L.take i) = itemsV n := by
      rw [hil, List.take_length, ← hL0, itemsV]
      split <;> rfl
    rw [he]
    exact DLe.unown
theorem itemsV_len {n : NV} (hn : Fits n) : (itemsV n).length < 1000000000 := by
  unfold itemsV
  split
  · have h1 := List.length_filter_le (isItem n) (pathsS n [] 1)
    rw [pathsS_len] at h1
    have h2 := cnt_sz n
    unfold Fits at hn
    rw [itemsF]; omega
  · simp
end Go.Tame.V
/- Contracts: the options of the discs of a set; the law DiscsetNumbers. By program (mk.py). -/
namespace Go.Tame.V
open Go Go.Proofs
variable {W0 : World}
set_option maxRecDepth 10000
set_option linter.unusedVariables false
set_option linter.unusedSimpArgs false

theorem off (f : Nat → Bool) (k : Nat) (h : f k = false) : ∃ g : Nat → Bool, f = fun j => _root_.cond (Nat.beq j k) false (g j) :=
  ⟨f, funext fun j => by cases hb : Nat.beq j k with | false => rfl | true => rw [beq_true hb]; exact h⟩
def numV (m : MV) (k : Nat) (i : Nat) (n : NV) : MV := { optV m (itemsV n) with num := (i : Int) + 1, discs := k }
/-- The options of the discs from number i on. -/
def numL (m : MV) (k : Nat) : Nat → List NV → List MV
  | _, [] => []
  | i, n :: r => numV m k i n :: numL m k (i + 1) r
theorem numL_len (m : MV) (k : Nat) : ∀ (i : Nat) (l : List NV), (numL m k i l).length = l.length
  | _, [] => rfl
  | i, n :: r => by simp [numL, numL_len m k (i + 1) r]
theorem numL_get (m : MV) (k : Nat) : ∀ (i : Nat) (l : List NV) (j : Nat) (h : j < l.length), (numL m k i l)[j]? = some (numV m k (i + j) l[j])
  | i, n :: r, 0, _ => rfl
  | i, n :: r, j + 1, h => by
    have := numL_get m k (i + 1) r j (by simpa using h)
    simp only [numL, List.getElem?_cons_succ, List.getElem_cons_succ]
    rw [this, show i + 1 + j = i + (j + 1) by omega]
theorem numL_next (m : MV) (k : Nat) {l : List NV} {j : Nat} (h : j < l.length) : (numL m k 0 l).take (j + 1) = (numL m k 0 l).take j ++ [numV m k j l[j]] := by
  have h1 : j < (numL m k 0 l).length := by rw [numL_len]; exact h
  have h2 := numL_get m k 0 l j h
  rw [Nat.zero_add] at h2
  rw [List.take_succ_eq_append_getElem h1]
  congr 2
  have h3 := List.getElem?_eq_getElem h1
  rw [h2] at h3
  exact (Option.some.inj h3).symm

theorem K23 (hL : LibOk W0) (m : MV) (l : List NV) (hm : m.boot.length < 1000000) (hl : l.length < 1000000) (hf : ∀ n ∈ l, Fits n) : DFun Tryz.prog W0 23 [encM m, .sl .none 12 (l.map enc)] (.sl .none 13 ((numL m l.length 0 l).map encM)) := by
  refine DFun.intro ti_ok Tryz.func23 rfl (by decide +kernel) Tryz.ntmps23 rfl fun Γ => ?_
  refine Tri.seq ?_
  refine Tri.region ti_ok ?_
  conv => whnf
  intro b1
  conv => whnf
  refine Tri.seq ?_
  refine Tri.region ti_ok ?_
  conv => whnf
  refine Tri.seq ?_
  refine Tri.seq ?_
  refine Tri.region ti_ok ?_
  conv => whnf
  refine Tri.block ?_
  refine Tri.ownNil 1000 13 31 ?_
  refine Tri.loopK (α := { i : Nat // i ≤ l.length } × Value) (fun x => [(1, .sl .none 12 (l.map enc)), (2, .box 2 b1 0), (5, .sl (.own 1000 x.2) 13 (((numL m l.length 0 l).take x.1.1).map encM)), (9, .sl .none 12 (l.map enc)), (10, .int .i64 (l.map enc).length), (11, .int .i64 x.1.1)]) (fun x => [(2, .box b1 (encM m).cells), (1000, .own x.2 (((numL m l.length 0 l).take x.1.1).map encM).length 13 31)]) (fun x => l.length - x.1.1) (⟨0, by omega⟩, .slice none 0 0) [(2, 2), (1000, 1000)]
    ⟨⟨.refl _, .refl _, DLe.nilOwn, .refl _, .refl _, .refl _, trivial⟩, rfl, rfl, rfl, rfl, rfl, trivial⟩ ?_
  rintro ⟨⟨i, hi⟩, w⟩
  dsimp only at hi ⊢
  refine Tri.seq ?_
  refine Tri.region ti_ok ?_
  conv => whnf
  refine Tri.seq ?_
  refine Tri.cond _ rfl (fun hc => ?_) (fun hc => ?_)
  · refine Tri.skip ?_
    conv => whnf
    have hia : i < l.length := by simpa using hc
    refine Tri.seq ?_
    refine Tri.block ?_
    refine Tri.seq ?_
    refine Tri.region ti_ok ?_
    conv => whnf
    refine ⟨fun _ => by simp; omega, ?_⟩
    conv => whnf
    refine ⟨encTop l[i], fun _ => get_kids hia, ?_⟩
    conv => whnf
    intro b7
    conv => whnf
    refine ⟨rfl, ?_⟩
    conv => whnf
    refine Tri.seq ?_
    refine Tri.bitsG ti_ok mixed (α := Nat) (fun y f => [(1, .sl .none 12 (l.map enc)), (2, .box 2 b1 0), (5, .sl (.own 1000 w) 13 (((numL m l.length 0 l).take i).map encM)), (6, .int .i64 (i : Int)), (7, .box 7 b7 0), (9, .sl .none 12 (l.map enc)), (10, .int .i64 (l.map enc).length), (11, .int .i64 (i : Int)), (16, bif f 0 then encM m else .any), (17, bif f 1 then encTop l[i] else .any), (18, bif f 2 then .sl .none 1 (strs (itemsV l[i])) else .any), (19, bif f 3 then encM (optV m (itemsV l[i])) else .any), (8, bif f 4 then .box 8 y 0 else .any)])
      (fun y f => look ([(2, .box b1 (encM m).cells), (1000, .own w (((numL m l.length 0 l).take i).map encM).length 13 31), (7, .box b7 (encTop l[i]).cells)] ++ (bif f 4 then [(8, .box y (bif f 5 then (encM (optV m (itemsV l[i]))).cells else [.str [], .str [], .str [], .str [], .str [], .int .i64 0, .int .i64 0, .int .i64 0, .int .i64 0, .int .i64 0, .nils, .int .i64 0, .bool false]))] else []))) (by decide +kernel) 0 ?_ ?_ ?_ ?_
    · exact ⟨.refl _, .refl _, .refl _, .refl _, .refl _, .refl _, .refl _, .refl _, .any _, .any _, .any _, .any _, .any _, trivial⟩
    · exact SubHF.of (hs := [(2, .box b1 (encM m).cells), (1000, .own w (((numL m l.length 0 l).take i).map encM).length 13 31), (7, .box b7 (encTop l[i]).cells)]) ⟨rfl, rfl, rfl, trivial⟩
    · conv => whnf
      refine ⟨fun y f hI => ?_, ?_⟩
      · obtain ⟨f, rfl⟩ := off f 5 (hI.no 5 0 rfl rfl)
        conv => whnf
        refine ⟨trivial, .inl ?_⟩
        conv => whnf
        refine ⟨rfl, ?_⟩
        conv => whnf
        exact ⟨y, ⟨.refl _, .refl _, .refl _, .refl _, .refl _, .refl _, .refl _, .refl _, .refl _, .refl _, .refl _, .refl _, .refl _, trivial⟩, fun k o h => h⟩
      refine ⟨fun y f hI => ?_, ?_⟩
      · obtain ⟨f, rfl⟩ := off f 5 (hI.no 5 1 rfl rfl)
        conv => whnf
        refine ⟨trivial, .inl ?_⟩
        conv => whnf
        refine ⟨rfl, ?_⟩
        conv => whnf
        exact ⟨y, ⟨.refl _, .refl _, .refl _, .refl _, .refl _, .refl _, .refl _, .refl _, .refl _, .refl _, .refl _, .refl _, .refl _, trivial⟩, fun k o h => h⟩
      refine ⟨fun y f hI => ?_, ?_⟩
      · obtain ⟨f, rfl⟩ := off f 5 (hI.no 5 2 rfl rfl)
        conv => whnf
        refine ⟨trivial, .inl ?_⟩
        conv => whnf
        refine ⟨[encTop l[i]], _, fun _ => K11 hL l[i] (hf _ (List.getElem_mem hia)), ⟨.refl _, trivial⟩, ?_⟩
        conv => whnf
        exact ⟨y, ⟨.refl _, .refl _, .refl _, .refl _, .refl _, .refl _, .refl _, .refl _, .refl _, .refl _, .refl _, .refl _, .refl _, trivial⟩, fun k o h => h⟩
      refine ⟨fun y f hI => ?_, ?_⟩
      · obtain ⟨f, rfl⟩ := off f 5 (hI.no 5 3 rfl rfl)
        conv => whnf
        refine ⟨trivial, .inl ?_⟩
        conv => whnf
        refine ⟨[encM m, .sl .none 1 (strs (itemsV l[i]))], _, fun _ => K15 m _ hm (itemsV_len (hf _ (List.getElem_mem hia))), ⟨.refl _, .refl _, trivial⟩, ?_⟩
        conv => whnf
        exact ⟨y, ⟨.refl _, .refl _, .refl _, .refl _, .refl _, .refl _, .refl _, .refl _, .refl _, .refl _, .refl _, .refl _, .refl _, trivial⟩, fun k o h => h⟩
      refine ⟨fun y f hI => ?_, ?_⟩
      · obtain ⟨f, rfl⟩ := off f 5 (hI.no 5 4 rfl rfl)
        conv => whnf
        refine ⟨trivial, .inl ?_⟩
        conv => whnf
        intro nb
        conv => whnf
        exact ⟨nb, ⟨.refl _, .refl _, .refl _, .refl _, .refl _, .refl _, .refl _, .refl _, .refl _, .refl _, .refl _, .refl _, .refl _, trivial⟩, SubHF.of (hs := [(2, .box b1 (encM m).cells), (1000, .own w (((numL m l.length 0 l).take i).map encM).length 13 31), (7, .box b7 (encTop l[i]).cells), (8, .box nb [.str [], .str [], .str [], .str [], .str [], .int .i64 0, .int .i64 0, .int .i64 0, .int .i64 0, .int .i64 0, .nils, .int .i64 0, .bool false])]) ⟨rfl, rfl, rfl, rfl, trivial⟩⟩
      refine ⟨fun y f hI => ?_, ?_⟩
      · conv => whnf
        refine ⟨trivial, .inl ?_⟩
        conv => whnf
        refine ⟨rfl, ?_⟩
        conv => whnf
        exact ⟨y, ⟨.refl _, .refl _, .refl _, .refl _, .refl _, .refl _, .refl _, .refl _, .refl _, .refl _, .refl _, .refl _, .refl _, trivial⟩, SubHF.of (hs := [(2, .box b1 (encM m).cells), (1000, .own w (((numL m l.length 0 l).take i).map encM).length 13 31), (7, .box b7 (encTop l[i]).cells), (8, .box y (encM (optV m (itemsV l[i]))).cells)]) ⟨rfl, rfl, rfl, rfl, trivial⟩⟩
      exact trivial
    · intro y f hfl
      conv => whnf
      refine Tri.forgetG [(1, .sl .none 12 (l.map enc)), (2, .box 2 b1 0), (5, .sl (.own 1000 w) 13 (((numL m l.length 0 l).take i).map encM)), (6, .int .i64 (i : Int)), (7, .box 7 b7 0), (9, .sl .none 12 (l.map enc)), (10, .int .i64 (l.map enc).length), (11, .int .i64 (i : Int)), (8, .box 8 y 0)] (look [(2, .box b1 (encM m).cells), (1000, .own w (((numL m l.length 0 l).take i).map encM).length 13 31), (7, .box b7 (encTop l[i]).cells), (8, .box y (encM (optV m (itemsV l[i]))).cells)]) (.same ⟨.refl _, .refl _, .refl _, .refl _, .refl _, .refl _, .refl _, .refl _, ?_, trivial⟩ (SubHF.of ⟨rfl, rfl, rfl, ?_, trivial⟩)) ?_
      · show DLe (bif f 4 then _ else _) _
        rw [hfl 4 (by decide +kernel)]; exact .refl _
      · show look (([(2, _), (1000, _), (7, _)] : List (Nat × HObj)) ++ (bif f 4 then _ else _)) 8 = _
        rw [hfl 4 (by decide +kernel), hfl 5 (by decide +kernel)]; rfl
      refine Tri.seq ?_
      refine Tri.region ti_ok ?_
      conv => whnf
      refine .inl ⟨fun _ => by simp [InR]; omega, ?_⟩
      conv => whnf
      refine ⟨rfl, ?_⟩
      conv => whnf
      refine ⟨rfl, ?_⟩
      conv => whnf
      refine Tri.region ti_ok ?_
      conv => whnf
      refine ⟨rfl, ?_⟩
      conv => whnf
      refine ⟨trivial, ?_⟩
      conv => whnf
      refine ⟨rfl, rfl, ?_⟩
      conv => whnf
      have hll : (((numL m l.length 0 l).take i).map encM).length ≤ l.length := by rw [List.length_map, List.length_take]; omega
      refine ⟨by show (_ + 1) * 160 ≤ _; omega, by show _ + 1 ≤ _; omega, (fun h => by cases h), fun v => ?_⟩
      conv => whnf
      refine Tri.region ti_ok ?_
      conv => whnf
      refine .inl ⟨fun _ => by simp [InR]; omega, ?_⟩
      conv => whnf
      have he : ((numL m l.length 0 l).take i).map encM ++ [encM (numV m l.length i l[i])] = ((numL m l.length 0 l).take (i + 1)).map encM := by rw [numL_next m _ hia, List.map_append]; rfl
      have he2 : ((numL m l.length 0 l).take i).map encM ++ [encM { optV m (itemsV l[i]) with num := (i : Int) + 1, discs := ((l.map enc).length : Nat) }] = ((numL m l.length 0 l).take (i + 1)).map encM := by rw [List.length_map]; exact he
      exact ⟨(⟨i + 1, hia⟩, v), [(2, 2), (1000, 31)], by show l.length - (i + 1) < l.length - i; omega, ⟨.refl _, .refl _, DLe.ownEq he2, .refl _, .refl _, .refl _, trivial⟩, rfl, rfl, rfl, rfl, ownH (by rw [← he, List.length_append]; rfl), trivial⟩
  · refine Tri.exit ?_
    conv => whnf
    refine Tri.seq ?_
    refine Tri.region ti_ok ?_
    conv => whnf
    refine Tri.ret ?_
    conv => whnf
    have hil : i = l.length := by simp at hc; omega
    have he : (numL m l.length 0 l).take i = numL m l.length 0 l := List.take_of_length_le (by rw [numL_len]; omega)
    rw [he]
    exact DLe.unown
end Go.Tame.V
/- Contracts: the law DiscsetNumbers, given its example. By program (mk.py). -/
namespace Go.Tame.V
open Go Go.Proofs
variable {W0 : World}
set_option maxRecDepth 10000
set_option linter.unusedVariables false
set_option linter.unusedSimpArgs false

theorem boot_same {l : List BE} {items : List (List UInt8)} {e : BE} (he : e ∈ l) : ((l.filter fun b => hasP items b.path).any fun x => e == x) = items.any fun x => e.path == x := by
  cases h : items.any fun x => e.path == x with
  | true =>
    rw [List.any_eq_true]
    exact ⟨e, List.mem_filter.2 ⟨he, h⟩, by simp⟩
  | false =>
    rw [List.any_eq_false]
    intro x hx hex
    have hxe : e = x := by simpa using hex
    subst hxe
    have := (List.mem_filter.1 hx).2
    rw [hasP, h] at this
    cases this
theorem get_num {m : MV} {k : Nat} {l : List NV} {i : Nat} (h : i < l.length) : ((numL m k 0 l).map encM)[((i : Int)).toNat]? = some (encM (numV m k i l[i])) := by
  rw [Int.toNat_natCast, List.getElem?_map, numL_get m k 0 l i h, Nat.zero_add]; rfl

theorem K5 (hL : LibOk W0) (hA : DFun Tryz.prog W0 6 [] (.bool true)) (m : MV) (l : List NV) (hm : m.name.length + m.set.length + m.pub.length + m.prep.length + m.app.length < 1000000000) (hl : l.length < 1000000000) (hf : ∀ n ∈ l, Fits n) : DFun Tryz.prog W0 5 [encM m, .sl .none 12 (l.map enc)] (.bool true) := by
  refine DFun.intro ti_ok Tryz.func5 rfl (by decide +kernel) Tryz.ntmps5 rfl fun Γ => ?_
  refine Tri.seq ?_
  refine Tri.region ti_ok ?_
  conv => whnf
  intro b1
  conv => whnf
  refine Tri.seq ?_
  refine Tri.seq ?_
  refine Tri.region ti_ok ?_
  conv => whnf
  refine ⟨[], _, fun _ => hA, trivial, ?_⟩
  conv => whnf
  refine Tri.cond _ rfl (fun hc => ?_) (fun hc => ?_)
  · exact absurd hc (by decide)
  · refine Tri.skip ?_
    conv => whnf
    refine Tri.seq ?_
    refine Tri.seq ?_
    refine Tri.region ti_ok ?_
    conv => whnf
    refine ⟨[.sl .none 12 (l.map enc), .int .i64 30000], _, fun _ => K17 l 30000 hl hf, ⟨.refl _, .refl _, trivial⟩, ?_⟩
    conv => whnf
    refine ⟨rfl, ?_⟩
    conv => whnf
    refine ⟨fun h => h, ?_⟩
    conv => whnf
    refine ⟨[encM m], _, fun h => K22 m hm, ⟨.refl _, trivial⟩, ?_⟩
    conv => whnf
    refine ⟨fun h => h, ?_⟩
    conv => whnf
    refine ⟨fun h0 h => by first | exact h | (rw [h]; rfl) | (rw [h0, h]; rfl), ?_⟩
    conv => whnf
    refine Tri.cond _ rfl (fun hc => ?_) (fun hc => ?_)
    · refine Tri.seq ?_
      refine Tri.region ti_ok ?_
      conv => whnf
      refine Tri.ret ?_
      conv => whnf
      exact .refl _
    · refine Tri.skip ?_
      obtain ⟨hl10, hm4⟩ : l.length ≤ 10 ∧ m.boot.length ≤ 4 := by
        cases h1 : (fewT l 30000 && decide (l.length ≤ 10)) with
        | false => rw [h1] at hc; simp at hc
        | true =>
          cases h2 : fewM m with
          | false => rw [h1, h2] at hc; simp at hc
          | true =>
            rw [Bool.and_eq_true, decide_eq_true_iff] at h1
            rw [fewM, Bool.and_eq_true, decide_eq_true_iff, decide_eq_true_iff] at h2
            exact ⟨h1.2, h2.1⟩
      conv => whnf
      refine Tri.seq ?_
      refine Tri.region ti_ok ?_
      conv => whnf
      refine ⟨rfl, ?_⟩
      conv => whnf
      refine ⟨[encM m, .sl .none 12 (l.map enc)], _, fun _ => K23 hL m l (by omega) (by omega) hf, ⟨.refl _, .refl _, trivial⟩, ?_⟩
      conv => whnf
      refine Tri.seq ?_
      refine Tri.seq ?_
      refine Tri.region ti_ok ?_
      conv => whnf
      refine Tri.cond _ rfl (fun hc => ?_) (fun hc => ?_)
      · exfalso
        simp [numL_len] at hc
      · refine Tri.skip ?_
        conv => whnf
        refine Tri.seq ?_
        refine Tri.seq ?_
        refine Tri.region ti_ok ?_
        conv => whnf
        refine Tri.block ?_
        refine Tri.loop (α := { i : Nat // i ≤ l.length }) (fun x => [(1, .sl .none 12 (l.map enc)), (2, .box 2 b1 0), (29, .sl .none 13 ((numL m l.length 0 l).map encM)), (30, .int .i64 ((numL m l.length 0 l).map encM).length), (31, .int .i64 x.1)]) (fun x => [(2, .box b1 (encM m).cells)]) (fun x => l.length - x.1) ⟨0, by omega⟩ ⟨.refl _, .refl _, .refl _, .refl _, .refl _, trivial⟩ ⟨rfl, trivial⟩ ?_
        rintro ⟨i, hi⟩
        dsimp only at hi ⊢
        refine Tri.seq ?_
        refine Tri.region ti_ok ?_
        conv => whnf
        refine Tri.seq ?_
        refine Tri.cond _ rfl (fun hc => ?_) (fun hc => ?_)
        · refine Tri.skip ?_
          conv => whnf
          have hia : i < l.length := by simp [numL_len] at hc; omega
          refine Tri.seq ?_
          refine Tri.block ?_
          refine Tri.seq ?_
          refine Tri.region ti_ok ?_
          conv => whnf
          refine ⟨fun _ => by simp [numL_len]; omega, ?_⟩
          conv => whnf
          refine ⟨encM (numV m l.length i l[i]), fun _ => get_num hia, ?_⟩
          conv => whnf
          intro b7
          conv => whnf
          refine ⟨rfl, ?_⟩
          conv => whnf
          refine Tri.seq ?_
          refine Tri.seq ?_
          refine Tri.region ti_ok ?_
          conv => whnf
          refine ⟨rfl, ?_⟩
          conv => whnf
          refine .inl ⟨fun _ => by simp [InR]; omega, ?_⟩
          conv => whnf
          refine ⟨fun h => h, ?_⟩
          conv => whnf
          refine ⟨fun h => h, ?_⟩
          conv => whnf
          refine ⟨rfl, ?_⟩
          conv => whnf
          refine ⟨fun h => h, ?_⟩
          conv => whnf
          refine ⟨fun h => h, ?_⟩
          conv => whnf
          refine ⟨fun h => h, ?_⟩
          conv => whnf
          refine ⟨fun h0 h => by first | exact h | (rw [h]; rfl) | (rw [h0, h]; rfl), ?_⟩
          conv => whnf
          refine ⟨fun h => h, ?_⟩
          conv => whnf
          refine ⟨rfl, ?_⟩
          conv => whnf
          refine ⟨fun h => h, ?_⟩
          conv => whnf
          refine ⟨rfl, ?_⟩
          conv => whnf
          refine ⟨fun h => h, ?_⟩
          conv => whnf
          refine ⟨fun h => h, ?_⟩
          conv => whnf
          refine ⟨fun h0 h => by first | exact h | (rw [h]; rfl) | (rw [h0, h]; rfl), ?_⟩
          conv => whnf
          refine ⟨fun h => h, ?_⟩
          conv => whnf
          refine ⟨rfl, ?_⟩
          conv => whnf
          refine ⟨fun h => h, ?_⟩
          conv => whnf
          refine ⟨rfl, ?_⟩
          conv => whnf
          refine ⟨fun h => h, ?_⟩
          conv => whnf
          refine ⟨fun h => h, ?_⟩
          conv => whnf
          refine ⟨fun h0 h => by first | exact h | (rw [h]; rfl) | (rw [h0, h]; rfl), ?_⟩
          conv => whnf
          refine ⟨fun h => h, ?_⟩
          conv => whnf
          refine ⟨rfl, ?_⟩
          conv => whnf
          refine ⟨fun h => h, ?_⟩
          conv => whnf
          refine ⟨rfl, ?_⟩
          conv => whnf
          refine ⟨fun h => h, ?_⟩
          conv => whnf
          refine ⟨fun h => h, ?_⟩
          conv => whnf
          refine ⟨fun h0 h => by first | exact h | (rw [h]; rfl) | (rw [h0, h]; rfl), ?_⟩
          conv => whnf
          refine ⟨fun h => h, ?_⟩
          conv => whnf
          refine ⟨fun h => h, ?_⟩
          conv => whnf
          refine ⟨rfl, ?_⟩
          conv => whnf
          refine ⟨fun h => h, ?_⟩
          conv => whnf
          refine ⟨fun h => h, ?_⟩
          conv => whnf
          refine ⟨rfl, ?_⟩
          conv => whnf
          refine ⟨fun h => h, ?_⟩
          conv => whnf
          refine ⟨fun h => h, ?_⟩
          conv => whnf
          refine ⟨fun h0 h => by first | exact h | (rw [h]; rfl) | (rw [h0, h]; rfl), ?_⟩
          conv => whnf
          refine Tri.cond _ rfl (fun hc => ?_) (fun hc => ?_)
          · exfalso
            simp [numV, optV] at hc
          · refine Tri.skip ?_
            conv => whnf
            refine Tri.seq ?_
            refine Tri.region ti_ok ?_
            conv => whnf
            refine ⟨fun _ => by simp; omega, ?_⟩
            conv => whnf
            refine ⟨encTop l[i], fun _ => get_kids hia, ?_⟩
            conv => whnf
            refine ⟨[encTop l[i]], _, fun _ => K11 hL l[i] (hf _ (List.getElem_mem hia)), ⟨.refl _, trivial⟩, ?_⟩
            conv => whnf
            refine Tri.seq ?_
            refine Tri.region ti_ok ?_
            conv => whnf
            refine ⟨rfl, ?_⟩
            conv => whnf
            refine Tri.block ?_
            refine Tri.loop (α := { j : Nat // j ≤ m.boot.length }) (fun x => [(1, .sl .none 12 (l.map enc)), (2, .box 2 b1 0), (29, .sl .none 13 ((numL m l.length 0 l).map encM)), (30, .int .i64 ((numL m l.length 0 l).map encM).length), (31, .int .i64 i), (7, .box 7 b7 0), (8, .sl .none 1 (strs (itemsV l[i]))), (86, .sl .none 6 (m.boot.map encB)), (87, .int .i64 (m.boot.map encB).length), (88, .int .i64 x.1)]) (fun x => [(2, .box b1 (encM m).cells), (7, .box b7 (encM (numV m l.length i l[i])).cells)]) (fun x => m.boot.length - x.1) ⟨0, by omega⟩ ⟨.refl _, .refl _, .refl _, .refl _, .refl _, .refl _, .refl _, .refl _, .refl _, .refl _, trivial⟩ ⟨rfl, rfl, trivial⟩ ?_
            rintro ⟨j, hj⟩
            dsimp only at hj ⊢
            refine Tri.seq ?_
            refine Tri.region ti_ok ?_
            conv => whnf
            refine Tri.seq ?_
            refine Tri.cond _ rfl (fun hc => ?_) (fun hc => ?_)
            · refine Tri.skip ?_
              conv => whnf
              have hja : j < m.boot.length := by simpa using hc
              refine Tri.seq ?_
              refine Tri.block ?_
              refine Tri.seq ?_
              refine Tri.region ti_ok ?_
              conv => whnf
              refine ⟨fun _ => by simp; omega, ?_⟩
              conv => whnf
              refine ⟨encB m.boot[j], fun _ => get_bes hja, ?_⟩
              conv => whnf
              intro b10
              conv => whnf
              refine ⟨rfl, ?_⟩
              conv => whnf
              refine Tri.seq ?_
              refine Tri.draw ti_ok mixed (by kernel_rfl) ?_
              conv => whnf
              refine ⟨rfl, ?_⟩
              conv => whnf
              refine ⟨rfl, ?_⟩
              conv => whnf
              refine ⟨[.sl .none 6 ((numV m l.length i l[i]).boot.map encB), encB m.boot[j]], _, fun _ => K24 _ _ (Nat.lt_of_le_of_lt (List.length_filter_le _ _) (by omega)), ⟨.refl _, .refl _, trivial⟩, ?_⟩
              conv => whnf
              refine ⟨rfl, ?_⟩
              conv => whnf
              refine ⟨[.sl .none 1 (strs (itemsV l[i])), .str m.boot[j].path], _, fun _ => K25 _ _ (itemsV_len (hf _ (List.getElem_mem hia))), ⟨.refl _, .refl _, trivial⟩, ?_⟩
              conv => whnf
              refine Tri.cond _ rfl (fun hc => ?_) (fun hc => ?_)
              · exfalso
                have hbs := boot_same (l := m.boot) (items := itemsV l[i]) (List.getElem_mem hja)
                rw [show (numV m l.length i l[i]).boot = m.boot.filter fun b => hasP (itemsV l[i]) b.path from rfl, hbs] at hc
                simp at hc
              · refine Tri.skip ?_
                conv => whnf
                refine Tri.region ti_ok ?_
                conv => whnf
                refine .inl ⟨fun _ => by simp [InR]; omega, ?_⟩
                conv => whnf
                exact ⟨⟨j + 1, hja⟩, by show _ - (j + 1) < _ - j; omega, ⟨.refl _, .refl _, .refl _, .refl _, .refl _, .refl _, .refl _, .refl _, .refl _, .refl _, trivial⟩, rfl, rfl, trivial⟩
            · refine Tri.exit ?_
              conv => whnf
              refine Tri.region ti_ok ?_
              conv => whnf
              refine .inl ⟨fun _ => by simp [InR]; omega, ?_⟩
              conv => whnf
              exact ⟨⟨i + 1, hia⟩, by show _ - (i + 1) < _ - i; omega, ⟨.refl _, .refl _, .refl _, .refl _, .refl _, trivial⟩, rfl, trivial⟩
        · refine Tri.exit ?_
          conv => whnf
          refine Tri.seq ?_
          refine Tri.region ti_ok ?_
          conv => whnf
          refine Tri.ret ?_
          conv => whnf
          exact .refl _
end Go.Tame.V
/- The readings of this seat's arguments, as data by value; what is laid. -/
namespace Go.Tame.V
open Go Go.Proofs Go.RowKit Go.ChangeShapes Go.Deep Go.WideShapes Go.ChangeAt
open YtgaeiadnclmadaaGreatDoor (Rows.uptoBulk Rows.uptoBulkAll)
set_option maxRecDepth 100000
variable {H : Type} {enc0 : TypeId × Value → H} {W : World}

abbrev bulk (d : DataW H) : Nat := YtgaeiadnclmadaaGreatDoor.Rows.uptoBulk d
abbrev bulkA (d : List (DataW H)) : Nat := YtgaeiadnclmadaaGreatDoor.Rows.uptoBulkAll d

theorem sum_good {α : Type} {m : α → Nat} {c : Nat} : ∀ {l : List α} {ds : List (DataW H)}, ds.length = l.length → (∀ (i : Nat) a y, l[i]? = some a → ds[i]? = some y → m a ≤ c * bulk y) → (l.map m).sum ≤ c * bulkA ds
  | [], [], _, _ => by simp
  | a :: l, y :: ds, hl, h => by
    have h1 := h 0 a y rfl rfl
    have h2 := sum_good (l := l) (ds := ds) (by simpa using hl) fun i a y h3 h4 => h (i + 1) a y (by simpa using h3) (by simpa using h4)
    have h3 : c * bulkA (y :: ds) = c * bulk y + c * bulkA ds := by simp only [bulkA, bulk, YtgaeiadnclmadaaGreatDoor.Rows.uptoBulkAll, Nat.mul_add]
    rw [h3, List.map_cons, List.sum_cons]
    omega
theorem sum_goodS {α : Type} {m : α → Nat} {c : Nat} {l : List α} {d : DataW H} (h : goodS (fun a y => m a ≤ c * bulk y) l d) : (l.map m).sum ≤ c * bulk d := by
  rcases h with ⟨rfl, rfl⟩ | ⟨ds, sp, rfl, hl, hg⟩
  · simp
  · have := sum_good hl hg
    have h3 : c * bulk (.slice ds sp) = c * bulkA ds + c * bulkA sp + c * 1 := by simp only [bulkA, bulk, YtgaeiadnclmadaaGreatDoor.Rows.uptoBulk, Nat.mul_add]
    rw [h3]
    omega
theorem szS_sum : ∀ l : List SV, szS l = (l.map fun s => 2 + s.name.length + s.target.length).sum
  | [] => rfl
  | s :: r => by simp only [szS, List.map_cons, List.sum_cons, szS_sum r]
theorem szL_sum : ∀ l : List NV, szL l = (l.map fun n => 2 * n.name.length + 2 + sz n).sum
  | [] => by simp [szL]
  | s :: r => by simp only [szL, List.map_cons, List.sum_cons, szL_sum r]

theorem rd_stream (n : Nat) : Rd enc0 Tryz.prog W n 71 encS (fun s d => 2 + s.name.length + s.target.length ≤ 1 * bulk d) := by
  intro cs x h
  obtain ⟨xs, m, rfl, hx, hcl, hxl, hf⟩ := trod_fields Tryz.underlying71 (by kernel_rfl) (by kernel_rfl) h
  match cs, hcl, xs, hxl with
  | [c0, c1], _, [y0, y1], _ =>
    obtain ⟨s0, r0, e0, _⟩ := Rd.str (enc := enc0) (W := W) (n := m) Tryz.underlying9 [c0] y0 (hf 0 _ c0 y0 rfl rfl rfl)
    obtain ⟨s1, r1, e1, _⟩ := Rd.str (enc := enc0) (W := W) (n := m) Tryz.underlying9 [c1] y1 (hf 1 _ c1 y1 rfl rfl rfl)
    refine ⟨⟨s0, s1⟩, .cons r0.head (.cons r1.head (.nil _ _)), ?_⟩
    rw [hx]
    simp only [List.map_cons, List.map_nil, e0, e1, bulk, YtgaeiadnclmadaaGreatDoor.Rows.uptoBulk, YtgaeiadnclmadaaGreatDoor.Rows.uptoBulkAll]
    omega

theorem rd_node : ∀ (N n : Nat), n < N → Rd enc0 Tryz.prog W n 25 enc (fun s d => 2 * s.name.length + 2 + sz s ≤ 2 * bulk d)
  | 0, n, hn => absurd hn (Nat.not_lt_zero _)
  | N + 1, n, hn => by
    intro cs x h
    obtain ⟨xs, m, rfl, hx, hcl, hxl, hf⟩ := trod_fields Tryz.underlying25 (by kernel_rfl) (by kernel_rfl) h
    match cs, hcl, xs, hxl with
    | [c0, c1, c2, c3, c4, c5, c6, c7, c8, c9, c10, c11], _, [y0, y1, y2, y3, y4, y5, y6, y7, y8, y9, y10, y11], _ =>
      obtain ⟨s0, r0, e0, _⟩ := Rd.str (enc := enc0) (W := W) (n := m) Tryz.underlying9 [c0] y0 (hf 0 _ c0 y0 rfl rfl rfl)
      obtain ⟨s1, r1, e1, _⟩ := Rd.int (enc := enc0) (W := W) (n := m) Tryz.underlying3 [c1] y1 (hf 1 _ c1 y1 rfl rfl rfl)
      obtain ⟨s2, r2, e2, _⟩ := Rd.str (enc := enc0) (W := W) (n := m) Tryz.underlying9 [c2] y2 (hf 2 _ c2 y2 rfl rfl rfl)
      obtain ⟨s3, r3, e3, _⟩ := Rd.str (enc := enc0) (W := W) (n := m) Tryz.underlying9 [c3] y3 (hf 3 _ c3 y3 rfl rfl rfl)
      obtain ⟨s4, r4, e4, _⟩ := Rd.int (enc := enc0) (W := W) (n := m) Tryz.underlying3 [c4] y4 (hf 4 _ c4 y4 rfl rfl rfl)
      obtain ⟨s5, r5, e5, _⟩ := Rd.int (enc := enc0) (W := W) (n := m) Tryz.underlying3 [c5] y5 (hf 5 _ c5 y5 rfl rfl rfl)
      obtain ⟨s6, r6, e6, _⟩ := Rd.int (enc := enc0) (W := W) (n := m) Tryz.underlying3 [c6] y6 (hf 6 _ c6 y6 rfl rfl rfl)
      obtain ⟨s7, r7, e7, _⟩ := Rd.int (enc := enc0) (W := W) (n := m) Tryz.underlying3 [c7] y7 (hf 7 _ c7 y7 rfl rfl rfl)
      obtain ⟨s8, r8, e8, _⟩ := Rd.int (enc := enc0) (W := W) (n := m) Tryz.underlying3 [c8] y8 (hf 8 _ c8 y8 rfl rfl rfl)
      obtain ⟨s9, r9, e9, _⟩ := Rd.int (enc := enc0) (W := W) (n := m) Tryz.underlying3 [c9] y9 (hf 9 _ c9 y9 rfl rfl rfl)
      obtain ⟨ks, r10, e10⟩ := Rd.slice (enc := enc0) (W := W) (fuel := m) Tryz.underlying22 (k := 12) (f := enc) (by kernel_rfl) (by omega) (fun a => by rw [enc_eq]; exact ⟨rfl, rfl⟩) (fun m' hm' => rd_node N m' (by omega)) [c10] y10 (hf 10 _ c10 y10 rfl rfl rfl)
      obtain ⟨ss, r11, e11⟩ := Rd.slice (enc := enc0) (W := W) (fuel := m) Tryz.underlying23 (k := 2) (f := encS) (by kernel_rfl) (by omega) (fun a => ⟨rfl, rfl⟩) (fun m' _ => rd_stream m') [c11] y11 (hf 11 _ c11 y11 rfl rfl rfl)
      refine ⟨⟨s0, s1, s2, s3, s4, s5, s6, s7, s8, s9, ks, ss⟩, ?_, ?_⟩
      · rw [enc_eq]
        exact .cons r0.head (.cons r1.head (.cons r2.head (.cons r3.head (.cons r4.head (.cons r5.head (.cons r6.head (.cons r7.head (.cons r8.head (.cons r9.head (.cons r10.head (.cons r11.head (.nil _ _))))))))))))
      · have h10 := sum_goodS e10
        have h11 := sum_goodS e11
        rw [← szL_sum] at h10
        rw [← szS_sum] at h11
        rw [hx]
        dsimp only
        rw [sz_eq]
        simp only [List.map_cons, List.map_nil, e0, e1, e2, e3, e4, e5, e6, e7, e8, e9, bulk, YtgaeiadnclmadaaGreatDoor.Rows.uptoBulk, YtgaeiadnclmadaaGreatDoor.Rows.uptoBulkAll] at h10 h11 ⊢
        omega

theorem callsTrue {f : Nat} {ds : List D} {args : Array Value} (h : DFun Tryz.prog W f ds (.bool true)) (hr : RepL W (allC W) ds args.toList) :
    Calls Tryz.prog f args W fun e w' => e = .returned (.bool true) ∧ Below W.heap.size W w' := by
  obtain ⟨l⟩ := args
  refine (h.2 W (allC W) l (Below.refl _ _) hr).mono ?_
  rintro e w' ⟨v, C', rfl, hv, hs⟩
  rw [hv.bool_inv]
  exact ⟨rfl, Base.step (Below.refl _ _) hs fun _ h => h.elim⟩

theorem laidOut : laidOutB Tryz.prog = true := by kernel_rfl
theorem stays_all {W' : World} (hb : Below W.heap.size W W') {sp : Nat → Bool} : ∀ {ts : List TypeId} {vs : List Value} {ds : List (DataW H)} {ps : List MemPlace},
    (∀ t ∈ ts, Tryz.prog.readableRec t = true ∧ t < Tryz.prog.types.size) → DataW.TrodAll enc0 Tryz.prog W 0 (fun _ => true) true ts vs ds ps → (∀ x ∈ ps, x.block < W.heap.size) → (∀ x ∈ ps, sp x.block = true) →
    DataW.TrodAll enc0 Tryz.prog W' 0 sp true ts vs ds ps
  | [], [], [], _, _, h, _, _ => h
  | t :: ts, v :: vs, d :: ds, _, ht, ⟨p, q, h1, h2, e⟩, hlt, hsp => by
    subst e
    exact ⟨p, q, stays laidOut (ht t List.mem_cons_self).1 (ht t List.mem_cons_self).2 h1 hb (fun x hx => hlt x (by simp [hx])) sp (fun x hx => hsp x (by simp [hx])),
      stays_all hb (fun t h => ht t (List.mem_cons_of_mem _ h)) h2 (fun x hx => hlt x (by simp [hx])) (fun x hx => hsp x (by simp [hx])), rfl⟩

def laidList : List (String × DataW Unit) := YtgaeiadnclmadaaGreatDoor.Rows.discsetNumbersRow.laid
theorem libOk (hL : laidMetH Tryz.prog laidList W) (hsh : W.ShapedOpen Tryz.prog) : LibOk W := by
  have hL' : laidMet Tryz.prog laidList W := hL
  refine ⟨utf8Tabs_of_reads (ρ := Tryz.lays260_ren) Tryz.lays260 ⟨by kernel_rfl, by kernel_rfl, by kernel_rfl, by kernel_rfl, by kernel_rfl, by kernel_rfl, by kernel_rfl⟩
    (Lib.laidMet.reads hL' (.tail _ (.tail _ (.tail _ (.tail _ (.head _)))))) (Lib.laidMet.reads hL' (.tail _ (.tail _ (.tail _ (.head _))))), ?_, ?_⟩
  · obtain ⟨h1, _⟩ := hsh
    obtain ⟨cs, hcs, hsz, hrow⟩ := h1 0 #[.int .i64 0] 3 (by decide +kernel) (by kernel_rfl)
    obtain ⟨ts, hts, _, hcell⟩ := hrow (by kernel_rfl)
    have hts' : ts = [3] := by
      have : Tryz.prog.cellTypes Tryz.prog.depth 3 = some [3] := by kernel_rfl
      exact Option.some.inj (hts.symm.trans this)
    subst hts'
    have h0 : cs[0]? = some (cs[0]'(by rw [hsz]; decide)) := Array.getElem?_eq_getElem _
    obtain ⟨u, hu, hok⟩ := hcell 0 _ h0
    have hu' : u = 3 := by simpa using hu.symm
    subst hu'
    have hc : W.cell? ⟨0, 0, none⟩ = some (cs[0]'(by rw [hsz]; decide)) := by
      simp only [World.cell?, hcs]
      simpa using h0
    generalize cs[0]'(by rw [hsz]; decide) = v at hok hc
    unfold Cell.ok at hok
    rw [Tryz.underlying3] at hok
    cases v with
    | int k n => obtain ⟨rfl, _⟩ := hok; exact ⟨n, hc⟩
    | _ => exact hok.elim
  · exact Lib.tabIs_of_head (rest := _) (g := 3) (t := 427) (e := 379) (n := 20) (by kernel_rfl) (by kernel_rfl) (by kernel_rfl) (by kernel_rfl) (by kernel_rfl) (by kernel_rfl) hL'.tail.tail
theorem rd_nodes (n : Nat) : Rd enc0 Tryz.prog W n 22 (fun l : List NV => .sl .none 12 (l.map enc)) (goodS fun s d => 2 * s.name.length + 2 + sz s ≤ 2 * bulk d) :=
  Rd.slice (f := enc) (k := 12) Tryz.underlying22 (by kernel_rfl) (by omega) (fun a => by rw [enc_eq]; exact ⟨rfl, rfl⟩) fun m _ => rd_node (m + 1) m (Nat.lt_succ_self _)
theorem szL_mem2 {l : List NV} {k : NV} (h : k ∈ l) : 2 * k.name.length + 2 + sz k ≤ szL l := by
  induction l with
  | nil => cases h
  | cons a r ih =>
    simp only [szL]
    rcases List.mem_cons.1 h with rfl | h
    · omega
    · have := ih h; omega
/-- Nodes that came in. -/
theorem open_nodes {v : Value} {d : DataW H} {p : List MemPlace} {base : Nat} (hv : Value.okWide Tryz.prog W .any base 22 v) (h : DataW.Trod enc0 Tryz.prog W 0 (fun _ => true) true 22 v d p) :
    ∃ l : List NV, Rep W (allC W) (.sl .none 12 (l.map enc)) v ∧ 2 * l.length ≤ 2 * bulk d ∧ szL l ≤ 2 * bulk d := by
  obtain ⟨fuel, hf⟩ := h
  obtain ⟨a, l, c, rfl⟩ := okWide_slice Tryz.underlying22 hv
  obtain ⟨l, hr, hg⟩ := rd_nodes fuel _ _ hf
  have h1 := sum_goodS hg
  rw [← szL_sum] at h1
  replace h1 : szL l ≤ 2 * bulk d := h1
  have h2 := szL_len l
  exact ⟨l, hr.head, by omega, h1⟩

/-! ### options of a disc -/
structure VolV where
  name : List UInt8
  set : List UInt8
  pub : List UInt8
  prep : List UInt8
  app : List UInt8
  num : Int
  discs : Int
  time : Int
def encVol (v : VolV) : D := .agg [.str v.name, .str v.set, .str v.pub, .str v.prep, .str v.app, .int .i64 v.num, .int .i64 v.discs, .int .i64 v.time]
theorem rd_be (n : Nat) : Rd enc0 Tryz.prog W n 54 encB (fun _ d => 1 ≤ 1 * bulk d) := by
  intro cs x h
  obtain ⟨xs, m, rfl, hx, hcl, hxl, hf⟩ := trod_fields Tryz.underlying54 (by kernel_rfl) (by kernel_rfl) h
  match cs, hcl, xs, hxl with
  | [c0, c1, c2, c3, c4, c5], _, [y0, y1, y2, y3, y4, y5], _ =>
    obtain ⟨s0, r0, _⟩ := Rd.str (enc := enc0) (W := W) (n := m) Tryz.underlying9 [c0] y0 (hf 0 _ c0 y0 rfl rfl rfl)
    obtain ⟨s1, r1, _⟩ := Rd.int (enc := enc0) (W := W) (n := m) Tryz.underlying3 [c1] y1 (hf 1 _ c1 y1 rfl rfl rfl)
    obtain ⟨s2, r2, _⟩ := Rd.int (enc := enc0) (W := W) (n := m) Tryz.underlying3 [c2] y2 (hf 2 _ c2 y2 rfl rfl rfl)
    obtain ⟨s3, r3, _⟩ := Rd.int (enc := enc0) (W := W) (n := m) Tryz.underlying3 [c3] y3 (hf 3 _ c3 y3 rfl rfl rfl)
    obtain ⟨s4, r4, _⟩ := Rd.int (enc := enc0) (W := W) (n := m) Tryz.underlying3 [c4] y4 (hf 4 _ c4 y4 rfl rfl rfl)
    obtain ⟨s5, r5, _⟩ := Rd.bool (enc := enc0) (W := W) (n := m) Tryz.underlying4 [c5] y5 (hf 5 _ c5 y5 rfl rfl rfl)
    refine ⟨⟨s0, s1, s2, s3, s4, s5⟩, .cons r0.head (.cons r1.head (.cons r2.head (.cons r3.head (.cons r4.head (.cons r5.head (.nil _ _)))))), ?_⟩
    rw [hx]
    simp only [bulk, YtgaeiadnclmadaaGreatDoor.Rows.uptoBulk]
    omega
theorem rd_vol (n : Nat) : Rd enc0 Tryz.prog W n 28 encVol (fun v d => v.name.length + v.set.length + v.pub.length + v.prep.length + v.app.length ≤ bulk d) := by
  intro cs x h
  obtain ⟨xs, m, rfl, hx, hcl, hxl, hf⟩ := trod_fields Tryz.underlying28 (by kernel_rfl) (by kernel_rfl) h
  match cs, hcl, xs, hxl with
  | [c0, c1, c2, c3, c4, c5, c6, c7], _, [y0, y1, y2, y3, y4, y5, y6, y7], _ =>
    obtain ⟨s0, r0, e0, _⟩ := Rd.str (enc := enc0) (W := W) (n := m) Tryz.underlying9 [c0] y0 (hf 0 _ c0 y0 rfl rfl rfl)
    obtain ⟨s1, r1, e1, _⟩ := Rd.str (enc := enc0) (W := W) (n := m) Tryz.underlying9 [c1] y1 (hf 1 _ c1 y1 rfl rfl rfl)
    obtain ⟨s2, r2, e2, _⟩ := Rd.str (enc := enc0) (W := W) (n := m) Tryz.underlying9 [c2] y2 (hf 2 _ c2 y2 rfl rfl rfl)
    obtain ⟨s3, r3, e3, _⟩ := Rd.str (enc := enc0) (W := W) (n := m) Tryz.underlying9 [c3] y3 (hf 3 _ c3 y3 rfl rfl rfl)
    obtain ⟨s4, r4, e4, _⟩ := Rd.str (enc := enc0) (W := W) (n := m) Tryz.underlying9 [c4] y4 (hf 4 _ c4 y4 rfl rfl rfl)
    obtain ⟨s5, r5, e5, _⟩ := Rd.int (enc := enc0) (W := W) (n := m) Tryz.underlying3 [c5] y5 (hf 5 _ c5 y5 rfl rfl rfl)
    obtain ⟨s6, r6, e6, _⟩ := Rd.int (enc := enc0) (W := W) (n := m) Tryz.underlying3 [c6] y6 (hf 6 _ c6 y6 rfl rfl rfl)
    obtain ⟨s7, r7, e7, _⟩ := Rd.int (enc := enc0) (W := W) (n := m) Tryz.underlying3 [c7] y7 (hf 7 _ c7 y7 rfl rfl rfl)
    refine ⟨⟨s0, s1, s2, s3, s4, s5, s6, s7⟩, .cons r0.head (.cons r1.head (.cons r2.head (.cons r3.head (.cons r4.head (.cons r5.head (.cons r6.head (.cons r7.head (.nil _ _)))))))), ?_⟩
    rw [hx]
    simp only [List.map_cons, List.map_nil, e0, e1, e2, e3, e4, e5, e6, e7, bulk, YtgaeiadnclmadaaGreatDoor.Rows.uptoBulk, YtgaeiadnclmadaaGreatDoor.Rows.uptoBulkAll]
    omega
theorem rd_master (n : Nat) : Rd enc0 Tryz.prog W n 31 encM (fun m d => m.name.length + m.set.length + m.pub.length + m.prep.length + m.app.length ≤ bulk d ∧ m.boot.length ≤ bulk d) := by
  intro cs x h
  obtain ⟨xs, m, rfl, rfl, hl, hxl, hf⟩ := DataW.trod_struct Tryz.underlying31 h
  have hC : Tryz.prog.cellsOf 31 = 13 := by kernel_rfl
  have g28 : Tryz.prog.cellsOf 28 = 8 := by kernel_rfl
  have g3 : Tryz.prog.cellsOf 3 = 1 := by kernel_rfl
  have g29 : Tryz.prog.cellsOf 29 = 1 := by kernel_rfl
  have g4 : Tryz.prog.cellsOf 4 = 1 := by kernel_rfl
  match cs, hl.trans hC, xs, hxl with
  | [c0, c1, c2, c3, c4, c5, c6, c7, c8, c9, c10, c11, c12], _, [y0, y1, y2, y3, y4, y5], _ =>
    have h0 : DataW.trod enc0 Tryz.prog W 0 (fun _ => true) true m 28 (List.take (Tryz.prog.cellsOf 28) (List.drop 0 [c0, c1, c2, c3, c4, c5, c6, c7, c8, c9, c10, c11, c12])) = some y0 := hf 0 _ rfl
    have h1 : DataW.trod enc0 Tryz.prog W 0 (fun _ => true) true m 3 (List.take (Tryz.prog.cellsOf 3) (List.drop 8 [c0, c1, c2, c3, c4, c5, c6, c7, c8, c9, c10, c11, c12])) = some y1 := hf 1 _ rfl
    have h2 : DataW.trod enc0 Tryz.prog W 0 (fun _ => true) true m 3 (List.take (Tryz.prog.cellsOf 3) (List.drop 9 [c0, c1, c2, c3, c4, c5, c6, c7, c8, c9, c10, c11, c12])) = some y2 := hf 2 _ rfl
    have h3 : DataW.trod enc0 Tryz.prog W 0 (fun _ => true) true m 29 (List.take (Tryz.prog.cellsOf 29) (List.drop 10 [c0, c1, c2, c3, c4, c5, c6, c7, c8, c9, c10, c11, c12])) = some y3 := hf 3 _ rfl
    have h4 : DataW.trod enc0 Tryz.prog W 0 (fun _ => true) true m 3 (List.take (Tryz.prog.cellsOf 3) (List.drop 11 [c0, c1, c2, c3, c4, c5, c6, c7, c8, c9, c10, c11, c12])) = some y4 := hf 4 _ rfl
    have h5 : DataW.trod enc0 Tryz.prog W 0 (fun _ => true) true m 4 (List.take (Tryz.prog.cellsOf 4) (List.drop 12 [c0, c1, c2, c3, c4, c5, c6, c7, c8, c9, c10, c11, c12])) = some y5 := hf 5 _ rfl
    rw [g28] at h0; rw [g3] at h1 h2 h4; rw [g29] at h3; rw [g4] at h5
    obtain ⟨⟨s0, s1, s2, s3, s4, s5, s6, s7⟩, r0, e0⟩ := rd_vol m [c0, c1, c2, c3, c4, c5, c6, c7] y0 h0
    obtain ⟨s8, r1, e1, _⟩ := Rd.int (enc := enc0) (W := W) (n := m) Tryz.underlying3 [c8] y1 h1
    obtain ⟨s9, r2, e2, _⟩ := Rd.int (enc := enc0) (W := W) (n := m) Tryz.underlying3 [c9] y2 h2
    obtain ⟨bs, r3, e3⟩ := Rd.slice (enc := enc0) (W := W) (fuel := m) Tryz.underlying29 (k := 6) (f := encB) (by kernel_rfl) (by omega) (fun a => ⟨rfl, rfl⟩) (fun m' _ => rd_be m') [c10] y3 h3
    obtain ⟨s11, r4, e4, _⟩ := Rd.int (enc := enc0) (W := W) (n := m) Tryz.underlying3 [c11] y4 h4
    obtain ⟨s12, r5, e5⟩ := Rd.bool (enc := enc0) (W := W) (n := m) Tryz.underlying4 [c12] y5 h5
    refine ⟨⟨s0, s1, s2, s3, s4, s5, s6, s7, s8, s9, bs, s11, s12⟩, RepL.append r0 (.cons r1.head (.cons r2.head (.cons r3.head (.cons r4.head (.cons r5.head (.nil _ _)))))), ?_⟩
    have hb := sum_goodS (m := fun _ => 1) e3
    simp only [List.map_const', List.sum_replicate_nat, Nat.mul_one, Nat.one_mul] at hb
    simp only [List.map_cons, List.map_nil, bulk, YtgaeiadnclmadaaGreatDoor.Rows.uptoBulk, YtgaeiadnclmadaaGreatDoor.Rows.uptoBulkAll] at e0 hb ⊢
    constructor <;> omega
/-- Options that came in. -/
theorem open_master {v : Value} {d : DataW H} {p : List MemPlace} {base : Nat} (hv : Value.okWide Tryz.prog W .any base 31 v) (h : DataW.Trod enc0 Tryz.prog W 0 (fun _ => true) true 31 v d p) :
    ∃ m : MV, Rep W (allC W) (encM m) v ∧ m.name.length + m.set.length + m.pub.length + m.prep.length + m.app.length ≤ bulk d ∧ m.boot.length ≤ bulk d := by
  obtain ⟨fuel, hf⟩ := h
  obtain ⟨cs, rfl, _⟩ := okWide_struct Tryz.underlying31 hv
  obtain ⟨m, hr, hg⟩ := rd_master (enc0 := enc0) (W := W) fuel _ _ hf
  obtain ⟨l⟩ := cs
  exact ⟨m, .agg _ _ hr.1 hr.2, hg⟩

theorem own : ownKnob Tryz.prog.godebug = none := by kernel_rfl

/-- A world that holds what is laid. -/
noncomputable def laidWorld (os : Os) : World :=
  let w0 := World.holding Tryz.prog os ⟨#[], #[], []⟩
  let put (h : Array Obj) (g : Nat) (cs : Array Value) : Array Obj := h.modify g fun
    | .cells _ t frozen => .cells cs t frozen
    | o => o
  let h1 := put w0.heap 1 (Lib.firstTab.map fun z => Value.int .u8 z).toArray
  let h2 := put h1 2 ((List.range 16).flatMap fun i => [Value.int .u8 (Lib.accLo i), Value.int .u8 (Lib.accHi i)]).toArray
  let h3 := put h2 3 (Lib.pow10Tab.map fun z => Value.int .u64 z).toArray
  let h4 := put h3 4 ([0, 1, 28, 2, 29, 14, 24, 3, 30, 22, 20, 15, 25, 17, 4, 8, 31, 27, 13, 23, 21, 19, 16, 7, 26, 12, 18, 6, 11, 5, 10, 9].map fun z => Value.int .u8 z).toArray
  let h5 := put h4 5 ([0, 1, 56, 2, 57, 49, 28, 3, 61, 58, 42, 50, 38, 29, 17, 4, 62, 47, 59, 36, 45, 43, 51, 22, 53, 39, 33, 30, 24, 18, 12, 5, 63, 55, 48, 27, 60, 41, 37, 16, 46, 35, 44, 21, 52, 32, 23, 11, 54, 26, 40, 15, 34, 20, 31, 10, 25, 14, 19, 9, 13, 8, 7, 6].map fun z => Value.int .u8 z).toArray
  { w0 with heap := h5 }
theorem laid_met (os : Os) (args : Array Value) : laidMet Tryz.prog laidList ((laidWorld os).forCall (fun _ _ => 0) ⟨#[], args, []⟩).memory :=
  laidMet_of_run' 8 (by kernel_rfl) (by kernel_rfl)
end Go.Tame.V
/- For the seat r4: the library's contracts, for computing. -/
namespace Go.Tame.V
open Go Go.Proofs Go.Ev
variable {W0 : World}
set_option linter.unusedVariables false
set_option maxRecDepth 20000
theorem q172 (s p : List UInt8) (hs : s.length ≤ 9223372036854775807) : DFun Tryz.prog W0 351 [.str s, .str p] (.str (Lib.trimSuffix s p)) :=
  .pure (callable Tryz.func351 rfl (by decide +kernel)) rfl rfl fun w _ => Tryz.strings_TrimSuffix ⟨⟨s⟩⟩ ⟨⟨p⟩⟩ w hs
theorem q143 (i : Nat) (hi : i < 100) : DFun Tryz.prog W0 230 [.int .i64 (i : Nat)] (.str (Lib.decDigits i)) :=
  .pure (callable Tryz.func230 rfl (by decide +kernel)) rfl rfl fun w _ => Tryz.strconv_Itoa_small i hi w
noncomputable def qCmp : List D → Option D
  | [.str s, .str p] => some (.int .i64 (Lib.compareBytes s p))
  | _ => none
noncomputable def qContains : List D → Option D
  | [.str s, .str [c]] => some (.bool (decide (0 ≤ Lib.indexByte s c)))
  | _ => none
noncomputable def qTrimPrefix : List D → Option D
  | [.str s, .str p] => some (.str (Lib.trimPrefix s p))
  | _ => none
noncomputable def qTrimSuffix : List D → Option D
  | [.str s, .str p] => match Nat.ble s.length 100000 with | true => some (.str (Lib.trimSuffix s p)) | false => none
  | _ => none
noncomputable def qCount : List D → Option D
  | [.str s, .str [c]] => some (.int .i64 ((Lib.countByte s c : Nat) : Int))
  | _ => none
noncomputable def qItoa : List D → Option D
  | [.int .i64 (.ofNat i)] => match Nat.blt i 100 with | true => some (.str (Lib.decDigits i)) | false => none
  | _ => none
noncomputable def qIndexB : List D → Option D
  | [.str s, .int .u8 c] => some (.int .i64 (Lib.indexByte s c.toNat.toUInt8))
  | _ => none
noncomputable def qIndex : List D → Option D
  | [.str s, .str p] => match Nat.blt s.length 100000 with | true => some (.int .i64 (Lib.index s p)) | false => none
  | _ => none
theorem qCmp_ok : ∀ ds d, qCmp ds = some d → DFun Tryz.prog W0 73 ds d := by
  intro ds d h
  unfold qCmp at h
  split at h
  · cases h; exact F110 _ _
  · cases h
theorem qContains_ok : ∀ ds d, qContains ds = some d → DFun Tryz.prog W0 121 ds d := by
  intro ds d h
  unfold qContains at h
  split at h
  · cases h; exact F119 _ _
  · cases h
theorem qTrimPrefix_ok : ∀ ds d, qTrimPrefix ds = some d → DFun Tryz.prog W0 123 ds d := by
  intro ds d h
  unfold qTrimPrefix at h
  split at h
  · cases h; exact F122 _ _
  · cases h
theorem qTrimSuffix_ok : ∀ ds d, qTrimSuffix ds = some d → DFun Tryz.prog W0 351 ds d := by
  intro ds d h
  unfold qTrimSuffix at h
  split at h
  · split at h
    · rename_i hl
      have := Nat.le_of_ble_eq_true hl
      cases h; exact q172 _ _ (by omega)
    · cases h
  · cases h
theorem qCount_ok : ∀ ds d, qCount ds = some d → DFun Tryz.prog W0 138 ds d := by
  intro ds d h
  unfold qCount at h
  split at h
  · rename_i s c
    cases h
    exact .pure (callable Tryz.func138 rfl (by decide +kernel)) rfl rfl fun w _ => Tryz.strings_Count_one ⟨⟨s⟩⟩ c w
  · cases h
theorem qItoa_ok : ∀ ds d, qItoa ds = some d → DFun Tryz.prog W0 230 ds d := by
  intro ds d h
  unfold qItoa at h
  split at h
  · split at h
    · rename_i hl
      cases h; exact q143 _ (Nat.le_of_ble_eq_true hl)
    · cases h
  · cases h
theorem qIndexB_ok : ∀ ds d, qIndexB ds = some d → DFun Tryz.prog W0 179 ds d := by
  intro ds d h
  unfold qIndexB at h
  split at h
  · rename_i s c
    cases h
    exact .pure (callable Tryz.func179 rfl (by decide +kernel)) rfl rfl fun w _ => Tryz.stringslite_IndexByte ⟨⟨s⟩⟩ c w
  · cases h
theorem qIndex_ok (hL : LibOk W0) : ∀ ds d, qIndex ds = some d → DFun Tryz.prog W0 162 ds d := by
  intro ds d h
  unfold qIndex at h
  split at h
  · rename_i s p
    split at h
    · rename_i hl
      cases h
      obtain ⟨m, hm⟩ := hL.maxlen
      have hlt := Nat.le_of_ble_eq_true hl
      exact .pure (callable Tryz.func162 rfl (by decide +kernel)) rfl rfl fun w hb => Tryz.stringslite_Index ⟨⟨s⟩⟩ ⟨⟨p⟩⟩ m w (by show s.length < _; omega) (cell_base hb hm)
    · cases h
  · cases h
theorem z390 (w : World) : Sem.run Tryz.prog (zeroValue 390) w = Result.ok (Value.agg (Array.replicate 256 (Value.bool false))) w := by
  first | rfl | exact (by decide +kernel)
noncomputable def qIndexAny : List D → Option D
  | [.str s, .str c] => match Nat.blt s.length 100000 && (Nat.blt c.length 1000 && (s.all (fun b => Nat.blt b.toNat 128) && c.all (fun b => Nat.blt b.toNat 128))) with | true => some (.int .i64 (Lib.indexAny s c)) | false => none
  | _ => none
theorem qIndexAny_ok : ∀ ds d, qIndexAny ds = some d → DFun Tryz.prog W0 292 ds d := by
  intro ds d h
  unfold qIndexAny at h
  split at h
  · rename_i s c
    split at h
    · rename_i hl
      cases h
      simp only [Bool.and_eq_true, List.all_eq_true] at hl
      obtain ⟨h1, h2, h3, h4⟩ := hl
      have h1 := Nat.le_of_ble_eq_true h1
      have h2 := Nat.le_of_ble_eq_true h2
      exact .lift (callable Tryz.func292 rfl (by decide +kernel)) rfl fun w hb => (Tryz.strings_IndexAny z390 ⟨⟨s⟩⟩ ⟨⟨c⟩⟩ w (by show s.length < _; omega) (by show c.length < _; omega) (fun j b hb => Nat.le_of_ble_eq_true (h3 b (List.mem_of_getElem? hb))) (fun j b hb => Nat.le_of_ble_eq_true (h4 b (List.mem_of_getElem? hb)))).mono fun e w' ⟨he, hw⟩ => ⟨_, he, fun C => .int _ _, hw⟩
    · cases h
  · cases h
/-- The table without the calls computed apart. -/
noncomputable def libL : List (Nat × (List AV → Go.Ev.St → Option (AV × Go.Ev.St))) := [(73, puO (oraD qCmp)), (121, puO (oraD qContains)), (123, puO (oraD qTrimPrefix)), (351, puO (oraD qTrimSuffix)), (138, puO (oraD qCount)), (230, puO (oraD qItoa)), (179, puO (oraD qIndexB)), (162, puO (oraD qIndex)), (292, puO (oraD qIndexAny))]
theorem libL_ok (hL : LibOk W0) : ∀ p ∈ libL, OraOk Tryz.prog W0 p.1 p.2 := by
  intro p hp
  simp only [libL, List.mem_cons, List.not_mem_nil, or_false] at hp
  rcases hp with rfl | rfl | rfl | rfl | rfl | rfl | rfl | rfl | rfl
  · exact (oraD_ok qCmp_ok).ok
  · exact (oraD_ok qContains_ok).ok
  · exact (oraD_ok qTrimPrefix_ok).ok
  · exact (oraD_ok qTrimSuffix_ok).ok
  · exact (oraD_ok qCount_ok).ok
  · exact (oraD_ok qItoa_ok).ok
  · exact (oraD_ok qIndexB_ok).ok
  · exact (oraD_ok (qIndex_ok hL)).ok
  · exact (oraD_ok qIndexAny_ok).ok
end Go.Tame.V
