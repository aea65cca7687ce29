/- A program logic of my own over the model, and contracts of this program's functions by it: part 4. No conditions of its own: each theorem states its own. -/
import Derived.Test.YtpkeldhgfdeebaaGreatDoorL3
import Derived.Lib.MapLaws
import Derived.Lib.TrimUEq
set_option linter.unnecessarySimpa false
set_option linter.unusedSimpArgs false
set_option linter.unusedVariables false
/- Contracts: characters of names. By program (mk.py). -/
namespace Go.Tame.V
open Go Go.Proofs
variable {W0 : World}
set_option maxRecDepth 10000
set_option linter.unusedVariables false
set_option linter.unusedSimpArgs false

theorem F199 (s : List UInt8) (c : Int) : DFun Tryz.prog W0 219 [.str s, .int .u8 c] (.int .i64 (Lib.indexByte s c.toNat.toUInt8)) :=
 .pure (callable Tryz.func219 rfl (by decide +kernel)) rfl rfl fun w _ => Tryz.strings_IndexByte ⟨⟨s⟩⟩ c w
theorem F200 (r : Int) : DFun Tryz.prog W0 220 [.int .i32 r] (.bool (Lib.validRune r)) :=
 .pure (callable Tryz.func220 rfl (by decide +kernel)) rfl rfl fun w _ => Tryz.utf8_ValidRune r w
theorem F172 (s p : List UInt8) (hs : s.length ≤ 9223372036854775807) : DFun Tryz.prog W0 86 [.str s, .str p] (.str (Lib.trimSuffix s p)) :=
 .pure (callable Tryz.func86 rfl (by decide +kernel)) rfl rfl fun w _ => Tryz.strings_TrimSuffix ⟨⟨s⟩⟩ ⟨⟨p⟩⟩ w hs
theorem F143 (i : Nat) (hi : i < 100) : DFun Tryz.prog W0 90 [.int .i64 (i : Nat)] (.str (Lib.decDigits i)) :=
 .pure (callable Tryz.func90 rfl (by decide +kernel)) rfl rfl fun w _ => Tryz.strconv_Itoa_small i hi w

def forb : List UInt8 := [42, 47, 58, 59, 63, 92]
theorem idx_none {c : UInt8} : ∀ {l : List UInt8}, (∀ b ∈ l, b ≠ c) → Lib.indexByte l c = -1
 | [], _ => rfl
 | b :: l, h => by
  have ih := idx_none (l := l) fun x hx => h x (List.mem_cons_of_mem _ hx)
  unfold Lib.indexByte
  rw [if_neg (by simpa using h b List.mem_cons_self), ih]; rfl
theorem forb_small : ∀ b ∈ forb, b.toNat < 128 := by decide +kernel
theorem dec_forb : ∀ p, p < 6 → (Utf8.decode ⟨⟨forb⟩⟩ p).2 = 1 ∧ (Utf8.decode ⟨⟨forb⟩⟩ p).1 < 128 := by decide +kernel
theorem enc_last (r : Int) (h0 : 128 ≤ r) (h1 : r ≤ 65533) (hs : r < 55296 ∨ 57343 < r) : ∃ (e : List UInt8) (c : UInt8), (Utf8.encode r).data.toList = e ∧ 2 ≤ e.length ∧ e.length ≤ 4 ∧ e[e.length - 1]? = some c ∧ 128 ≤ c.toNat := by
 have hv : Utf8.valid r = true := by simp [Utf8.valid]; omega
 obtain ⟨h2, h3, h4⟩ := encode_facts r hv h0
 have hsz : (Utf8.encode r).size = (Utf8.encode r).data.toList.length := rfl
 have hlt : (Utf8.encode r).size - 1 < (Utf8.encode r).size := by omega
 refine ⟨_, _, rfl, by omega, by omega, ?_, h4 hlt⟩
 rw [← hsz, List.getElem?_eq_getElem (by omega)]
 rfl

theorem F190 (r : Int) (h0 : 128 ≤ r) (h1 : r ≤ 65533) (hs : r < 55296 ∨ 57343 < r) : DFun Tryz.prog W0 177 [.str forb, .int .i32 r] (.int .i64 (-1)) := by
 refine DFun.intro ti_ok Tryz.func177 rfl (by decide +kernel) Tryz.ntmps177 rfl fun Γ => ?_
 refine Tri.seq ?_
 refine Tri.region ti_ok ?_
 conv => whnf
 refine Tri.block ?_
 refine Tri.seq ?_
 refine Tri.region ti_ok ?_
 conv => whnf
 refine ⟨fun h => h, ?_⟩
 conv => whnf
 refine ⟨fun h0 h => by first | exact h | (rw [h]; rfl) | (rw [h0, h]; rfl), ?_⟩
 conv => whnf
 refine Tri.cond _ rfl (fun hc => ?_) (fun hc => ?_)
 ·exfalso
  have : decide (r < 128) = false := by simp; omega
  cases h2 : decide ((0 : Int) ≤ r) <;> rw [h2] at hc <;> first | (cases hc; done) | (rw [this] at hc; cases hc)
 ·refine Tri.seq ?_
  refine Tri.region ti_ok ?_
  conv => whnf
  refine Tri.cond _ rfl (fun hc => ?_) (fun hc => ?_)
  ·refine Tri.seq ?_
   refine Tri.seq ?_
   refine Tri.regionX ti_ok ?_
   conv => whnf
   refine .inr (XOp.rangeStr rfl rfl fun bi => ?_)
   conv => whnf
   refine Tri.block ?_
   refine Tri.loopK (α := { p : Nat // p ≤ 6 }) (fun x => [(175, .raw (.pointer (some ⟨bi, 0, none⟩)))]) (fun x => [(175, .obj bi (.stringIter ⟨⟨forb⟩⟩ x.1))]) (fun x => 6 - x.1) ⟨0, by omega⟩ [(175, 175)] ⟨⟨.refl _, trivial⟩, rfl, rfl, rfl, trivial⟩ ?_
   rintro ⟨p, hp⟩
   refine Tri.seq ?_
   refine Tri.regionX ti_ok ?_
   conv => whnf
   refine .inr (XOp.nextStr 175 rfl rfl (fun hlt => ?_) (fun hlt => ?_))
   ·have hp6 : p < 6 := hlt
    obtain ⟨hd1, hd2⟩ := dec_forb p hp6
    conv => whnf
    refine Tri.seq ?_
    refine Tri.cond _ rfl (fun hc => ?_) (fun hc => ?_)
    ·refine Tri.skip ?_
     conv => whnf
     refine Tri.block ?_
     refine Tri.seq ?_
     refine Tri.region ti_ok ?_
     conv => whnf
     refine Tri.seq ?_
     refine Tri.region ti_ok ?_
     conv => whnf
     refine Tri.cond _ rfl (fun hc => ?_) (fun hc => ?_)
     ·exfalso
      have : (((Utf8.decode ⟨⟨forb⟩⟩ p).1 : Nat) : Int) = 65533 := by simpa using hc
      omega
     ·refine Tri.skip ?_
      conv => whnf
      refine ⟨⟨p + 1, by omega⟩, [(175, 175)], by show 6 - (p + 1) < 6 - p; omega, ⟨.refl _, trivial⟩, rfl, rfl, ?_, trivial⟩
      exact congrArg (fun z => some (HObj.obj bi (.stringIter ⟨⟨forb⟩⟩ (p + z)))) hd1
    ·cases hc
   ·conv => whnf
    refine Tri.seq ?_
    refine Tri.cond _ rfl (fun hc => ?_) (fun hc => ?_)
    ·cases hc
    ·refine Tri.exit ?_
     conv => whnf
     refine Tri.seq ?_
     refine Tri.region ti_ok ?_
     conv => whnf
     refine Tri.ret ?_
     conv => whnf
     exact .refl _
  ·refine Tri.seq ?_
   refine Tri.region ti_ok ?_
   conv => whnf
   refine ⟨[.int .i32 r], _, fun _ => F200 r, ⟨.refl _, trivial⟩, ?_⟩
   conv => whnf
   refine Tri.cond _ rfl (fun hc => ?_) (fun hc => ?_)
   ·exfalso
    have : Lib.validRune r = true := by simp [Lib.validRune]; omega
    rw [this] at hc; cases hc
   ·refine Tri.scope ?_
    obtain ⟨e, c, he, hl2, hl4, hec, hc128⟩ := enc_last r h0 h1 hs
    refine Tri.seq ?_
    refine Tri.region ti_ok ?_
    conv => whnf
    rw [he]
    refine Tri.seq ?_
    refine Tri.region ti_ok ?_
    conv => whnf
    refine .inl ⟨fun _ => by simp [InR]; omega, ?_⟩
    conv => whnf
    refine Tri.seq ?_
    refine Tri.region ti_ok ?_
    conv => whnf
    refine Tri.seq ?_
    refine Tri.region ti_ok ?_
    conv => whnf
    refine Tri.seq ?_
    refine Tri.block ?_
    have hfl : forb.length = 6 := rfl
    refine Tri.loop (α := Unit) (fun x => [(0, .str forb), (7, .str e), (8, .int .i64 ((e.length : Int) - 1)), (9, .int .i64 ((e.length : Int) - 1))]) (fun _ => []) (fun x => 0) () ⟨.refl _, .refl _, .refl _, .refl _, trivial⟩ trivial ?_
    rintro ⟨⟩
    have hpos : ((e.length : Int) - 1).toNat = e.length - 1 := by omega
    have hfb : forb[e.length - 1]? = some (forb[e.length - 1]'(by omega)) := List.getElem?_eq_getElem (by omega)
    have hfs := forb_small _ (List.getElem_mem (l := forb) (n := e.length - 1) (by omega))
    refine Tri.seq ?_
    refine Tri.seq ?_
    refine Tri.region ti_ok ?_
    conv => whnf
    refine Tri.cond _ rfl (fun hc => ?_) (fun hc => ?_)
    ·refine Tri.skip ?_
     have hc6 : (e.length : Int) - 1 < 6 := by omega
     conv => whnf
     refine Tri.block ?_
     refine Tri.scope ?_
     refine Tri.seq ?_
     ·refine Tri.seq ?_
      refine Tri.draw ti_ok mixed (by kernel_rfl) ?_
      conv => whnf
      refine ⟨forb[e.length - 1]'(by omega), fun _ => ⟨by omega, by rw [hpos]; exact hfb⟩, ?_⟩
      conv => whnf
      refine ⟨c, fun _ => ⟨by omega, by rw [hpos]; exact hec⟩, ?_⟩
      conv => whnf
      refine Tri.cond _ rfl (fun hc => ?_) (fun hc => ?_)
      ·refine Tri.seq ?_
       refine Tri.draw ti_ok mixed (by kernel_rfl) ?_
       conv => whnf
       refine .inl ⟨fun _ => by simp [InR]; omega, ?_⟩
       conv => whnf
       refine ⟨fun _ => by rw [hfl]; omega, ?_⟩
       conv => whnf
       refine ⟨c, fun _ => ⟨by omega, by rw [hpos]; exact hec⟩, ?_⟩
       conv => whnf
       refine ⟨[.str ((forb.take ((forb.length : Nat) : Int).toNat).drop ((e.length : Int) - 1 + 1).toNat), .int .u8 c.toNat], .int .i64 (-1), fun _ => by
        have := F199 (W0 := W0) ((forb.take ((forb.length : Nat) : Int).toNat).drop ((e.length : Int) - 1 + 1).toNat) c.toNat
        rw [idx_none (fun b hb hbc => by
         have h2 := forb_small b (List.mem_of_mem_take (List.mem_of_mem_drop hb))
         rw [hbc] at h2
         have h3 : ((c.toNat : Int).toNat.toUInt8).toNat = c.toNat := by simp
         omega)] at this
        exact this, ⟨.refl _, .refl _, trivial⟩, ?_⟩
       conv => whnf
       refine Tri.seq ?_
       refine Tri.seq ?_
       refine Tri.region ti_ok ?_
       conv => whnf
       refine Tri.cond _ rfl (fun hc => ?_) (fun hc => ?_)
       ·refine Tri.seq ?_
        refine Tri.region ti_ok ?_
        conv => whnf
        refine Tri.ret ?_
        conv => whnf
        exact .refl _
       ·cases hc
      ·exfalso
       have : ((forb[e.length - 1]'(by omega)).toNat : Int) = (c.toNat : Int) := by simpa using hc
       omega
    ·exfalso
     rw [hfl] at hc
     simp at hc
     omega
def special (r : Int) : Bool := r == 42 || r == 47 || r == 58 || r == 59 || r == 63 || r == 92
theorem special_tab : ∀ n : Nat, n < 128 → decide (0 ≤ Lib.indexByte forb ((n : Int).toNat.toUInt8)) = special n := by decide +kernel
theorem isChar_iff (r : Int) : isChar r = true ↔ 32 ≤ r ∧ r ≤ 65533 ∧ (r < 55296 ∨ 57343 < r) := by simp [isChar]
theorem F170 (r : Int) (h : isChar r = true) : DFun Tryz.prog W0 173 [.str forb, .int .i32 r] (.bool (special r)) := by
 obtain ⟨h1, h2, h3⟩ := (isChar_iff r).1 h
 by_cases h128 : r < 128
 ·have hn : r = (r.toNat : Int) := by omega
  have := special_tab r.toNat (by omega)
  rw [← hn] at this
  rw [← this]
  exact .pure (callable Tryz.func173 rfl (by decide +kernel)) rfl rfl fun w _ => Tryz.strings_ContainsRune_ascii ⟨⟨forb⟩⟩ r w (by omega) h128
 ·have hsp : special r = false := by simp [special]; omega
  rw [hsp]
  refine DFun.intro ti_ok Tryz.func173 rfl (by decide +kernel) Tryz.ntmps173 rfl fun Γ => ?_
  refine Tri.seq ?_
  refine Tri.region ti_ok ?_
  conv => whnf
  refine Tri.seq ?_
  refine Tri.region ti_ok ?_
  conv => whnf
  refine ⟨[.str forb, .int .i32 r], _, fun _ => F190 r (by omega) h2 h3, ⟨.refl _, .refl _, trivial⟩, ?_⟩
  conv => whnf
  refine Tri.ret ?_
  conv => whnf
  exact .refl _
/-- A character that Joliet allows. -/
def jolC (r : Int) : Int := if special r then 95 else r
theorem F139 (r : Int) (h : isChar r = true) : DFun Tryz.prog W0 123 [.int .i32 r] (.int .i32 (jolC r)) := by
 refine DFun.intro ti_ok Tryz.func123 rfl (by decide +kernel) Tryz.ntmps123 rfl fun Γ => ?_
 refine Tri.seq ?_
 refine Tri.region ti_ok ?_
 conv => whnf
 refine Tri.seq ?_
 refine Tri.seq ?_
 refine Tri.region ti_ok ?_
 conv => whnf
 refine ⟨[.str forb, .int .i32 r], _, fun _ => F170 r h, ⟨.refl _, .refl _, trivial⟩, ?_⟩
 conv => whnf
 refine Tri.cond _ rfl (fun hc => ?_) (fun hc => ?_)
 ·refine Tri.seq ?_
  refine Tri.region ti_ok ?_
  conv => whnf
  refine Tri.ret ?_
  conv => whnf
  exact DLe.of_eq (congrArg (D.int .i32) (by rw [jolC, if_pos hc]))
 ·refine Tri.skip ?_
  conv => whnf
  refine Tri.seq ?_
  refine Tri.region ti_ok ?_
  conv => whnf
  refine Tri.ret ?_
  conv => whnf
  exact DLe.of_eq (congrArg (D.int .i32) (by rw [jolC, if_neg (by rw [hc]; simp)]))
def dB (c : Int) : Bool := ((decide (65 ≤ c) && decide (c ≤ 90)) || (decide (48 ≤ c) && decide (c ≤ 57))) || c == 95
theorem F192 (c : Int) : DFun Tryz.prog W0 176 [.int .u8 c] (.bool (dB c)) := by
 refine DFun.intro ti_ok Tryz.func176 rfl (by decide +kernel) Tryz.ntmps176 rfl fun Γ => ?_
 refine Tri.seq ?_
 refine Tri.region ti_ok ?_
 conv => whnf
 refine Tri.seq ?_
 refine Tri.region ti_ok ?_
 conv => whnf
 refine ⟨fun h => h, ?_⟩
 conv => whnf
 refine ⟨fun h0 h => by first | exact h | (rw [h]; rfl) | (rw [h0, h]; rfl), ?_⟩
 conv => whnf
 refine ⟨fun h => h, ?_⟩
 conv => whnf
 refine ⟨fun h => h, ?_⟩
 conv => whnf
 refine ⟨fun h => h, ?_⟩
 conv => whnf
 refine ⟨fun h => h, ?_⟩
 conv => whnf
 refine ⟨fun h0 h => by first | exact h | (rw [h]; rfl) | (rw [h0, h]; rfl), ?_⟩
 conv => whnf
 refine ⟨fun h0 h => by first | exact h | (rw [h]; rfl) | (rw [h0, h]; rfl), ?_⟩
 conv => whnf
 refine ⟨fun h => h, ?_⟩
 conv => whnf
 refine ⟨fun h0 h => by first | exact h | (rw [h]; rfl) | (rw [h0, h]; rfl), ?_⟩
 conv => whnf
 refine Tri.ret ?_
 conv => whnf
 exact DLe.of_eq (congrArg D.bool (by simp only [bif_and, bif_or]; rfl))
def dU (c : UInt8) : Bool := dB c.toNat
def dStr (s : List UInt8) : Bool := decide (s.length ≤ 65536) && s.all dU
theorem F191 (s : List UInt8) : DFun Tryz.prog W0 175 [.str s, .sl .full 1 [.fn (.func 176) [] []]] (.bool (dStr s)) := by
 refine DFun.intro ti_ok Tryz.func175 rfl (by decide +kernel) Tryz.ntmps175 rfl fun Γ => ?_
 refine Tri.seq ?_
 refine Tri.region ti_ok ?_
 conv => whnf
 refine Tri.seq ?_
 refine Tri.seq ?_
 refine Tri.region ti_ok ?_
 conv => whnf
 refine Tri.cond _ rfl (fun hc => ?_) (fun hc => ?_)
 ·refine Tri.seq ?_
  refine Tri.region ti_ok ?_
  conv => whnf
  refine Tri.ret ?_
  conv => whnf
  have h1 : decide (s.length ≤ 65536) = false := by simp at hc ⊢; omega
  exact DLe.of_eq (congrArg D.bool (by rw [dStr, h1]; rfl))
 ·refine Tri.skip ?_
  have h1 : s.length ≤ 65536 := by simp at hc; omega
  conv => whnf
  refine Tri.seq ?_
  refine Tri.seq ?_
  refine Tri.region ti_ok ?_
  conv => whnf
  refine Tri.block ?_
  refine Tri.loop (α := { i : Nat // i ≤ s.length ∧ (s.take i).all dU = true }) (fun x => [(0, .str s), (1, .sl .full 1 [.fn (.func 176) [] []]), (13, .int .i64 s.length), (14, .int .i64 x.1)]) (fun _ => []) (fun x => s.length - x.1) ⟨0, by simp⟩ ⟨.refl _, .refl _, .refl _, .refl _, trivial⟩ trivial ?_
  rintro ⟨i, hi, hall⟩
  refine Tri.seq ?_
  refine Tri.region ti_ok ?_
  conv => whnf
  refine Tri.seq ?_
  refine Tri.cond _ rfl (fun hc => ?_) (fun hc => ?_)
  ·refine Tri.skip ?_
   have hia : i < s.length := by simpa using hc
   have hnext : s.take (i + 1) = s.take i ++ [s[i]] := by rw [List.take_add_one, List.getElem?_eq_getElem hia]; rfl
   conv => whnf
   refine Tri.seq ?_
   refine Tri.block ?_
   refine Tri.seq ?_
   refine Tri.region ti_ok ?_
   conv => whnf
   refine Tri.seq ?_
   refine Tri.region ti_ok ?_
   conv => whnf
   refine Tri.seq ?_
   refine Tri.seq ?_
   refine Tri.region ti_ok ?_
   conv => whnf
   refine Tri.block ?_
   refine Tri.loop (α := { y : Nat // y ≤ 1 }) (fun y => [(0, .str s), (1, .sl .full 1 [.fn (.func 176) [] []]), (13, .int .i64 s.length), (14, .int .i64 i), (5, .int .i64 i), (6, .bool (decide (y.1 = 1) && dU s[i])), (17, .sl .full 1 [.fn (.func 176) [] []]), (18, .int .i64 1), (19, .int .i64 y.1)]) (fun _ => []) (fun y => 1 - y.1) ⟨0, by omega⟩ ⟨.refl _, .refl _, .refl _, .refl _, .refl _, .refl _, .refl _, .refl _, .refl _, trivial⟩ trivial ?_
   rintro ⟨y, hy⟩
   refine Tri.seq ?_
   refine Tri.region ti_ok ?_
   conv => whnf
   refine Tri.seq ?_
   refine Tri.cond _ rfl (fun hc => ?_) (fun hc => ?_)
   ·refine Tri.skip ?_
    have hy0 : y = 0 := by simp at hc; omega
    subst hy0
    conv => whnf
    refine Tri.seq ?_
    refine Tri.block ?_
    refine Tri.seq ?_
    refine Tri.region ti_ok ?_
    conv => whnf
    refine ⟨fun _ => by simp, ?_⟩
    conv => whnf
    refine ⟨.fn (.func 176) [] [], fun _ => rfl, ?_⟩
    conv => whnf
    refine Tri.region ti_ok ?_
    conv => whnf
    refine ⟨fun h => h, ?_⟩
    conv => whnf
    refine ⟨fun h => h, ?_⟩
    conv => whnf
    refine ⟨s[i], fun h => ⟨by omega, by simp [hia]⟩, ?_⟩
    conv => whnf
    refine ⟨fun h => h, ?_⟩
    conv => whnf
    refine ⟨fun h => h, ?_⟩
    conv => whnf
    refine ⟨[.int .u8 s[i].toNat], _, fun h => F192 _, ⟨.refl _, trivial⟩, ?_⟩
    conv => whnf
    refine ⟨fun h0 h => by first | exact h | (rw [h]; rfl) | (rw [h0, h]; rfl), ?_⟩
    conv => whnf
    refine Tri.region ti_ok ?_
    conv => whnf
    refine .inl ⟨fun _ => by simp [InR], ?_⟩
    conv => whnf
    exact ⟨⟨1, Nat.le_refl _⟩, by show 1 - 1 < 1 - 0; omega, ⟨.refl _, .refl _, .refl _, .refl _, .refl _, .refl _, .refl _, .refl _, .refl _, trivial⟩, trivial⟩
   ·refine Tri.exit ?_
    have hy1 : y = 1 := by simp at hc; omega
    subst hy1
    conv => whnf
    refine Tri.seq ?_
    refine Tri.region ti_ok ?_
    conv => whnf
    refine Tri.cond _ rfl (fun hc => ?_) (fun hc => ?_)
    ·refine Tri.seq ?_
     refine Tri.region ti_ok ?_
     conv => whnf
     refine Tri.ret ?_
     conv => whnf
     have h2 : dU s[i] = false := by simpa using hc
     have h3 : s.all dU = false := by
      rw [List.all_eq_false]
      exact ⟨s[i], List.getElem_mem hia, by rw [h2]; simp⟩
     exact DLe.of_eq (congrArg D.bool (by rw [dStr, h3, Bool.and_false]))
    ·refine Tri.skip ?_
     conv => whnf
     refine Tri.region ti_ok ?_
     conv => whnf
     refine .inl ⟨fun _ => by simp [InR]; omega, ?_⟩
     conv => whnf
     have h2 : dU s[i] = true := by simpa using hc
     exact ⟨⟨i + 1, hia, by rw [hnext, List.all_append, hall]; simp [h2]⟩, by show _ - (i + 1) < _ - i; omega, ⟨.refl _, .refl _, .refl _, .refl _, trivial⟩, trivial⟩
  ·refine Tri.exit ?_
   conv => whnf
   refine Tri.seq ?_
   refine Tri.region ti_ok ?_
   conv => whnf
   refine Tri.ret ?_
   conv => whnf
   have hin : i = s.length := by simp at hc; omega
   subst hin
   rw [List.take_length] at hall
   exact DLe.of_eq (congrArg D.bool (by rw [dStr, hall]; simp [h1]))
theorem F171 (s : List UInt8) : DFun Tryz.prog W0 128 [.str s] (.bool (dStr s)) := by
 refine DFun.intro ti_ok Tryz.func128 rfl (by decide +kernel) Tryz.ntmps128 rfl fun Γ => ?_
 refine Tri.seq ?_
 refine Tri.region ti_ok ?_
 conv => whnf
 refine Tri.seq ?_
 refine Tri.region ti_ok ?_
 conv => whnf
 refine ⟨trivial, ?_⟩
 conv => whnf
 refine ⟨[.str s, .sl .full 1 [.fn (.func 176) [] []]], _, fun _ => F191 s, ⟨.refl _, .refl _, trivial⟩, ?_⟩
 conv => whnf
 refine Tri.ret ?_
 conv => whnf
 exact .refl _
theorem enc_ascii (r : Int) (h0 : 0 ≤ r) (h1 : r < 128) : (Utf8.encode r).data.toList = [UInt8.ofNat r.toNat] := by
 have hv : Utf8.valid r = true := by simp [Utf8.valid]; omega
 unfold Utf8.encode
 simp only [hv, if_true]
 rw [if_pos (by omega)]
/-- A character of the ISO view. -/
def isoC (r : Int) : Int := if 97 ≤ r ∧ r ≤ 122 then r - 97 + 65 else if r < 128 ∧ dB r = true then r else 95
theorem F140 (r : Int) (h0 : 0 ≤ r) (hr : r ≤ 1114111) : DFun Tryz.prog W0 124 [.int .i32 r] (.int .i32 (isoC r)) := by
 refine DFun.intro ti_ok Tryz.func124 rfl (by decide +kernel) Tryz.ntmps124 rfl fun Γ => ?_
 refine Tri.seq ?_
 refine Tri.region ti_ok ?_
 conv => whnf
 refine Tri.seq ?_
 refine Tri.block ?_
 refine Tri.seq ?_
 refine Tri.region ti_ok ?_
 conv => whnf
 refine ⟨fun h => h, ?_⟩
 conv => whnf
 refine ⟨fun h0 h => by first | exact h | (rw [h]; rfl) | (rw [h0, h]; rfl), ?_⟩
 conv => whnf
 refine Tri.cond _ rfl (fun hc => ?_) (fun hc => ?_)
 ·refine Tri.seq ?_
  refine Tri.region ti_ok ?_
  have h97 : 97 ≤ r ∧ r ≤ 122 := by
   rw [bif_and] at hc
   simpa using hc
  conv => whnf
  refine .inl ⟨fun _ => by simp only [InR]; omega, ?_⟩
  conv => whnf
  refine .inl ⟨fun _ => by simp only [InR]; omega, ?_⟩
  conv => whnf
  refine Tri.ret ?_
  conv => whnf
  exact DLe.of_eq (congrArg (D.int .i32) (by rw [isoC, if_pos h97]))
 ·refine Tri.seq ?_
  refine Tri.region ti_ok ?_
  skip
  conv => whnf
  refine ⟨fun h => h, ?_⟩
  conv => whnf
  refine ⟨fun h => h, ?_⟩
  conv => whnf
  refine ⟨[.str (Utf8.encode r).data.toList], .bool (dB r), fun h => by
   have hlt : r < 128 := by simpa using h
   have := F171 (W0 := W0) (Utf8.encode r).data.toList
   have e : dStr (Utf8.encode r).data.toList = dB r := by
    rw [enc_ascii r h0 hlt]
    simp only [dStr, dU, List.all_cons, List.all_nil, Bool.and_true, List.length_singleton]
    have : ((UInt8.ofNat r.toNat).toNat : Int) = r := by
     rw [UInt8.toNat_ofNat']; omega
    rw [this]; simp
   rw [e] at this
   exact this, ⟨.refl _, trivial⟩, ?_⟩
  conv => whnf
  refine ⟨fun h0 h => by first | exact h | (rw [h]; rfl) | (rw [h0, h]; rfl), ?_⟩
  conv => whnf
  refine Tri.cond _ rfl (fun hc => ?_) (fun hc => ?_)
  ·refine Tri.seq ?_
   refine Tri.region ti_ok ?_
   conv => whnf
   refine Tri.ret ?_
   conv => whnf
   have h97 : ¬ (97 ≤ r ∧ r ≤ 122) := by
    rename_i hc0
    rw [bif_and] at hc0
    simpa using hc0
   have h2 : r < 128 ∧ dB r = true := by rw [bif_and] at hc; simpa using hc
   exact DLe.of_eq (congrArg (D.int .i32) (by rw [isoC, if_neg h97, if_pos h2]))
  ·refine Tri.skip ?_
   conv => whnf
   refine Tri.seq ?_
   refine Tri.region ti_ok ?_
   conv => whnf
   refine Tri.ret ?_
   conv => whnf
   have h97 : ¬ (97 ≤ r ∧ r ≤ 122) := by
    rename_i hc0
    rw [bif_and] at hc0
    simpa using hc0
   have h2 : ¬ (r < 128 ∧ dB r = true) := by rw [bif_and] at hc; simpa using hc
   exact DLe.of_eq (congrArg (D.int .i32) (by rw [isoC, if_neg h97, if_neg h2]))
end Go.Tame.V
/- Texts and their characters. No program's code. -/
namespace Go.Tame.V
open Go Go.Proofs
set_option linter.unusedVariables false
set_option linter.unusedSimpArgs false

theorem encR (n : Nat) (h : n ≤ 65533) (hs : n < 55296 ∨ 57343 < n) : (Utf8.encode (n : Int)).data.toList = Lib.encodeRune n := by
 have hv : Utf8.valid (n : Int) = true := by simp [Utf8.valid]; omega
 unfold Utf8.encode Lib.encodeRune Lib.encodeRuneZ
 simp only [hv, if_true, Int.toNat_natCast]
 have hz : ∀ a b : Nat, UInt8.ofNat (a + b) = ((a : Int) + (b : Int)).toNat.toUInt8 := fun a b => by
  have : ((a : Int) + (b : Int)).toNat = a + b := by omega
  rw [this]
 by_cases h1 : n < 128
 ·rw [if_pos h1, if_pos (show 0 ≤ (n : Int) ∧ (n : Int) ≤ 127 by omega)]; simp
 ·rw [if_neg h1, if_neg (show ¬ (0 ≤ (n : Int) ∧ (n : Int) ≤ 127) by omega)]
  by_cases h2 : n < 2048
  ·rw [if_pos h2, if_pos (show 128 ≤ (n : Int) ∧ (n : Int) ≤ 2047 by omega)]
   show [UInt8.ofNat (192 + n / 64), UInt8.ofNat (128 + n % 64)] = _
   rw [hz, hz]; simp
  ·rw [if_neg h2, if_neg (show ¬ (128 ≤ (n : Int) ∧ (n : Int) ≤ 2047) by omega), if_pos (show n < 65536 by omega), if_pos (show 2048 ≤ (n : Int) ∧ (n : Int) < 55296 ∨ 57343 < (n : Int) ∧ (n : Int) ≤ 65535 by omega)]
   show [UInt8.ofNat (224 + n / 4096), UInt8.ofNat (128 + n / 64 % 64), UInt8.ofNat (128 + n % 64)] = _
   rw [hz, hz, hz]; simp
theorem dec_L {s : List UInt8} (hs : s ≠ []) : dec s = Lib.decodeL s := by
 unfold dec Lib.decodeGo Lib.decodeL
 rw [if_neg (show ¬ (⟨⟨s⟩⟩ : ByteArray).size = 0 from fun e => hs (List.eq_nil_of_length_eq_zero e))]
theorem decode_at_drop (s : List UInt8) (i : Nat) (h : i < s.length) : Utf8.decode ⟨⟨s⟩⟩ i = dec (s.drop i) := by
 have hne : s.drop i ≠ [] := fun e => by have := congrArg List.length e; simp at this; omega
 rw [dec_L hne]
 exact (Lib.decodeL_drop ⟨⟨s⟩⟩ i).symm
theorem notBad {s : List UInt8} (h : badAt s = false) : isChar (dec s).1 = true ∧ ¬ ((dec s).1 = 65533 ∧ (dec s).2 = 1) := by
 simp only [badAt, Bool.or_eq_false_iff, Bool.not_eq_false', Bool.and_eq_false_iff, beq_eq_false_iff_ne] at h
 exact ⟨h.1, fun ⟨h1, h2⟩ => by rcases h.2 with h3 | h3 <;> contradiction⟩
theorem enc_dec {s : List UInt8} (hs : s ≠ []) (h : badAt s = false) : (Utf8.encode ((dec s).1 : Int)).data.toList = s.take (dec s).2 := by
 obtain ⟨h1, h2⟩ := notBad h
 obtain ⟨h3, h4, h5⟩ := (isChar_iff _).1 h1
 rw [encR _ (by omega) (by omega), dec_L hs, Lib.encode_decode s hs (by rw [← dec_L hs]; exact h2)]

/-- The bytes and the characters of a text. -/
theorem chars_bytes : ∀ (n : Nat) (s : List UInt8) (l : List Int), s.length ≤ n → charsP s = some l → runesB l = s ∧ ∀ r ∈ l, isChar r = true
 | 0, s, l, hn, hc => by
  have : s = [] := List.eq_nil_of_length_eq_zero (by omega)
  subst this; cases hc; exact ⟨rfl, fun r hr => by cases hr⟩
 | n + 1, s, l, hn, hc => by
  by_cases hs : s = []
  ·subst hs; cases hc; exact ⟨rfl, fun r hr => by cases hr⟩
  ·obtain ⟨h1, h2, _⟩ := decode_size s hs
   rw [charsP_cons hs] at hc
   cases hb : badAt s with
   | true => rw [hb] at hc; cases hc
   | false =>
    rw [hb] at hc
    simp only [Bool.false_eq_true, if_false, Option.map_eq_some_iff] at hc
    obtain ⟨l', hl', rfl⟩ := hc
    have ih := chars_bytes n (s.drop (dec s).2) l' (by simp; omega) hl'
    refine ⟨?_, fun r hr => ?_⟩
    ·simp only [runesB, List.flatMap_cons]
     rw [enc_dec hs hb]
     have : runesB l' = s.drop (dec s).2 := ih.1
     simp only [runesB] at this
     rw [this, List.take_append_drop]
    ·rcases List.mem_cons.1 hr with rfl | hr
     ·exact (notBad hb).1
     ·exact ih.2 r hr
theorem runeGo_chars (s : List UInt8) : ∀ (f i : Nat) (l : List Int), i ≤ s.length → s.length - i ≤ f → charsP (s.drop i) = some l → runeGo ⟨⟨s⟩⟩ f i = l
 | 0, i, l, hi, hf, hc => by
  have : s.drop i = [] := List.drop_eq_nil_of_le (by omega)
  rw [this] at hc; cases hc; rfl
 | f + 1, i, l, hi, hf, hc => by
  have hsz : (⟨⟨s⟩⟩ : ByteArray).size = s.length := rfl
  simp only [runeGo, hsz]
  by_cases hlt : i < s.length
  ·have hne : s.drop i ≠ [] := fun e => by have := congrArg List.length e; simp at this; omega
   obtain ⟨h1, h2, _⟩ := decode_size (s.drop i) hne
   rw [charsP_cons hne] at hc
   cases hb : badAt (s.drop i) with
   | true => rw [hb] at hc; cases hc
   | false =>
    rw [hb] at hc
    simp only [Bool.false_eq_true, if_false, Option.map_eq_some_iff] at hc
    obtain ⟨l', hl', rfl⟩ := hc
    rw [if_pos hlt, decode_at_drop s i hlt]
    rw [List.length_drop] at h2
    rw [List.drop_drop] at hl'
    rw [runeGo_chars s f (i + (dec (s.drop i)).2) l' (by omega) (by omega) hl']
    rfl
  ·have : s.drop i = [] := List.drop_eq_nil_of_le (by omega)
   rw [this] at hc; cases hc
   rw [if_neg hlt]
theorem runes_chars {s : List UInt8} {l : List Int} (h : charsP s = some l) : runesI s = l :=
 runeGo_chars s s.length 0 l (Nat.zero_le _) (by omega) (by simpa using h)
theorem name_chars {s : List UInt8} (h : nameOk s = true) : ∃ l, charsP s = some l ∧ (chars s).1 = l ∧ (chars s).2 = 0 ∧ 1 ≤ l.length ∧ l.length ≤ 64 := by
 simp only [nameOk] at h
 split at h
 ·cases h
 ·simp only [Bool.and_eq_true, decide_eq_true_eq, beq_iff_eq] at h
  obtain ⟨h1, h2, h3⟩ := h
  simp only [chars] at h1 h2 h3 ⊢
  split at h1
  ·cases h1
  ·rename_i hl
   rw [if_neg hl] at h2 h3
   cases hc : charsP s with
   | none => rw [hc] at h1; cases h1
   | some l => rw [hc] at h2 h3; exact ⟨l, rfl, by rw [if_neg hl], by rw [if_neg hl], h2, h3⟩
theorem runesB_append (a b : List Int) : runesB (a ++ b) = runesB a ++ runesB b := by simp [runesB]
end Go.Tame.V
/- Contracts: the wanted name and the numbered name. By program (mk.py). -/
namespace Go.Tame.V
open Go Go.Proofs
variable {W0 : World}
set_option maxRecDepth 10000
set_option linter.unusedVariables false
set_option linter.unusedSimpArgs false

def ints32 (l : List Int) : List D := l.map (D.int .i32)
/-- The stem and the extension of a name, in bytes. -/
def lastDot (s : List UInt8) : Int := Lib.lastIndexByte ⟨⟨s⟩⟩ 46
def cutB (v : Int) (s : List UInt8) : Bool := (decide (0 < lastDot s) && decide (lastDot s < (s.length : Int) - 1)) && (v == 0 || decide (((runesI (s.drop (lastDot s + 1).toNat)).length : Int) ≤ 16))
def cutS (v : Int) (s : List UInt8) (dir : Bool) : List UInt8 × List UInt8 :=
 if dir = true then (s, []) else if cutB v s = true then (s.take (lastDot s).toNat, s.drop (lastDot s + 1).toNat)
 else if v = 0 ∧ 1 < s.length then (Lib.trimSuffix s [46], []) else (s, [])
theorem drop_all (s : List UInt8) (i : Nat) : (s.take ((s.length : Nat) : Int).toNat).drop i = s.drop i := by simp
theorem runes_len (s : List UInt8) : ∀ f i, (runeGo ⟨⟨s⟩⟩ f i).length ≤ f
 | 0, _ => by simp [runeGo]
 | f + 1, i => by
  simp only [runeGo]
  split
  ·have := runes_len s f (i + (Utf8.decode ⟨⟨s⟩⟩ i).2); simp; omega
  ·simp
theorem runesI_len (s : List UInt8) : (runesI s).length ≤ s.length := runes_len s _ _

theorem F141 (v : Int) (s : List UInt8) (dir : Bool) (hs : s.length < 1000000000) : DFun Tryz.prog W0 125 [.int .i64 v, .str s, .bool dir] (.tup [.str (cutS v s dir).1, .str (cutS v s dir).2]) := by
 refine DFun.intro ti_ok Tryz.func125 rfl (by decide +kernel) Tryz.ntmps125 rfl fun Γ => ?_
 refine Tri.seq ?_
 refine Tri.region ti_ok ?_
 conv => whnf
 refine Tri.seq ?_
 refine Tri.seq ?_
 refine Tri.region ti_ok ?_
 conv => whnf
 refine Tri.cond _ rfl (fun hc => ?_) (fun hc => ?_)
 ·refine Tri.seq ?_
  refine Tri.region ti_ok ?_
  conv => whnf
  refine Tri.ret ?_
  conv => whnf
  have h1 : cutS v s dir = (s, []) := by rw [cutS, if_pos hc]
  rw [h1]
  exact ⟨.refl _, .refl _, trivial⟩
 ·refine Tri.skip ?_
  have hdir : ¬ dir = true := by rw [hc]; simp
  conv => whnf
  refine Tri.joinK (α := { x : Unit // cutB v s = false }) (fun x => [(0, .int .i64 v), (1, .str s)]) (fun x => []) ?_ ?_
  ·refine Tri.seq ?_
   refine Tri.region ti_ok ?_
   conv => whnf
   refine ⟨[.str s, .int .u8 46], .int .i64 (lastDot s), fun _ => F27 s 46 (by omega), ⟨.refl _, .refl _, trivial⟩, ?_⟩
   conv => whnf
   refine Tri.seq ?_
   refine Tri.region ti_ok ?_
   conv => whnf
   refine ⟨fun h => h, ?_⟩
   conv => whnf
   refine ⟨fun h => h, ?_⟩
   conv => whnf
   refine .inl ⟨fun h => by simp only [InR]; omega, ?_⟩
   conv => whnf
   refine ⟨fun h => h, ?_⟩
   conv => whnf
   refine ⟨fun h => h, ?_⟩
   conv => whnf
   refine ⟨fun h0 h => by first | exact h | (rw [h]; rfl) | (rw [h0, h]; rfl), ?_⟩
   conv => whnf
   refine Tri.cond _ rfl (fun hc => ?_) (fun hc => ?_)
   ·refine Tri.seq ?_
    have hb : (decide (0 < lastDot s) && decide (lastDot s < (s.length : Int) - 1)) = true := by rw [bif_and] at hc; exact hc
    have hb1 : 0 < lastDot s ∧ lastDot s < (s.length : Int) - 1 := by simpa using hb
    refine Tri.region ti_ok ?_
    conv => whnf
    refine .inl ⟨fun _ => by simp only [InR]; omega, ?_⟩
    conv => whnf
    refine ⟨fun _ => by omega, ?_⟩
    conv => whnf
    refine Tri.seq ?_
    refine Tri.region ti_ok ?_
    conv => whnf
    refine ⟨fun h => h, ?_⟩
    conv => whnf
    refine ⟨by simp; omega, ?_⟩
    refine ⟨fun h => h, ?_⟩
    conv => whnf
    refine ⟨fun h => h, ?_⟩
    conv => whnf
    refine ⟨fun h0 h => by first | exact h | (rw [h]; rfl) | (rw [h0, h]; rfl), ?_⟩
    conv => whnf
    refine Tri.cond _ rfl (fun hc => ?_) (fun hc => ?_)
    ·refine Tri.seq ?_
     have hcut : cutB v s = true := by
      rw [cutB, hb, Bool.true_and, ← bif_or]
      rw [drop_all] at hc
      simpa using hc
     refine Tri.region ti_ok ?_
     conv => whnf
     refine ⟨fun _ => by omega, ?_⟩
     conv => whnf
     refine Tri.ret ?_
     conv => whnf
     rw [drop_all]
     have h1 : cutS v s dir = (s.take (lastDot s).toNat, s.drop (lastDot s + 1).toNat) := by rw [cutS, if_neg hdir, if_pos hcut]
     rw [h1]
     exact ⟨.refl _, .refl _, trivial⟩
    ·refine Tri.skip ?_
     conv => whnf
     have hcut : cutB v s = false := by
      rw [cutB, hb, Bool.true_and, ← bif_or]
      rw [drop_all] at hc
      simpa using hc
     exact ⟨⟨(), hcut⟩, [], ⟨.refl _, .refl _, trivial⟩, rfl, trivial⟩
   ·refine Tri.skip ?_
    conv => whnf
    have hcut : cutB v s = false := by
     rw [bif_and] at hc
     have hb : (decide (0 < lastDot s) && decide (lastDot s < (s.length : Int) - 1)) = false := hc
     rw [cutB, hb, Bool.false_and]
    exact ⟨⟨(), hcut⟩, [], ⟨.refl _, .refl _, trivial⟩, rfl, trivial⟩
  ·rintro ⟨_, hcut⟩
   refine Tri.seq ?_
   refine Tri.seq ?_
   refine Tri.region ti_ok ?_
   conv => whnf
   refine ⟨fun h => h, ?_⟩
   conv => whnf
   refine ⟨fun h => h, ?_⟩
   conv => whnf
   refine ⟨fun h0 h => by first | exact h | (rw [h]; rfl) | (rw [h0, h]; rfl), ?_⟩
   conv => whnf
   refine Tri.cond _ rfl (fun hc => ?_) (fun hc => ?_)
   ·refine Tri.region ti_ok ?_
    conv => whnf
    refine ⟨[.str s, .str [46]], _, fun _ => F172 s [46] (by omega), ⟨.refl _, .refl _, trivial⟩, ?_⟩
    conv => whnf
    refine Tri.seq ?_
    refine Tri.region ti_ok ?_
    conv => whnf
    refine Tri.ret ?_
    conv => whnf
    have h2' : v = 0 ∧ (1 : Int) < s.length := by rw [bif_and] at hc; simpa using hc
    have h2 : v = 0 ∧ 1 < s.length := ⟨h2'.1, by omega⟩
    have h1 : cutS v s dir = (Lib.trimSuffix s [46], []) := by rw [cutS, if_neg hdir, if_neg (by rw [hcut]; simp), if_pos h2]
    rw [h1]
    exact ⟨.refl _, .refl _, trivial⟩
   ·refine Tri.skip ?_
    conv => whnf
    refine Tri.seq ?_
    refine Tri.region ti_ok ?_
    conv => whnf
    refine Tri.ret ?_
    conv => whnf
    have h2' : v = 0 → (s.length : Int) ≤ 1 := by rw [bif_and] at hc; simpa using hc
    have h2 : ¬ (v = 0 ∧ 1 < s.length) := fun ⟨h3, h4⟩ => by have := h2' h3; omega
    have h1 : cutS v s dir = (s, []) := by rw [cutS, if_neg hdir, if_neg (by rw [hcut]; simp), if_neg h2]
    rw [h1]
    exact ⟨.refl _, .refl _, trivial⟩

theorem map_set (f : Int → Int) (l : List Int) {i : Nat} (h : i < l.length) : (((l.take i).map f ++ l.drop i).map (D.int .i32)).set i (.int .i32 (f l[i])) = ((l.take (i + 1)).map f ++ l.drop (i + 1)).map (D.int .i32) := by
 have e : l.drop i = l[i] :: l.drop (i + 1) := List.drop_eq_getElem_cons h
 have e2 : l.take (i + 1) = l.take i ++ [l[i]] := by rw [List.take_add_one, List.getElem?_eq_getElem h]; rfl
 rw [e, e2]
 simp only [List.map_append, List.map_cons, List.map_nil, List.append_assoc, List.singleton_append]
 rw [List.set_append_right _ _ (by simp; omega)]
 have : i - (List.map (D.int .i32) (List.map f (List.take i l))).length = 0 := by simp; omega
 rw [this]; rfl
theorem F142 (s : List UInt8) (fid : Nat) (f : Int → Int) (hs : s.length < 1000000000) (hf : ∀ r ∈ runesI s, DFun Tryz.prog W0 fid [.int .i32 r] (.int .i32 (f r))) : DFun Tryz.prog W0 126 [.str s, .fn (.func fid) [] []] (.sl .none 1 (ints32 ((runesI s).map f))) := by
 refine DFun.intro ti_ok Tryz.func126 rfl (by decide +kernel) Tryz.ntmps126 rfl fun Γ => ?_
 refine Tri.seq ?_
 refine Tri.region ti_ok ?_
 conv => whnf
 refine Tri.seq ?_
 refine Tri.regionX ti_ok ?_
 conv => whnf
 refine .inr (XOp.runesRow ti_ok rfl rfl rfl rfl rfl rfl rfl (by omega) fun aa cap => ?_)
 conv => whnf
 refine Tri.seq ?_
 refine Tri.seq ?_
 refine Tri.region ti_ok ?_
 conv => whnf
 refine Tri.block ?_
 have hrl := runesI_len s
 generalize hL : runesI s = L at *
 refine Tri.loopK (α := { i : Nat // i ≤ L.length }) (fun x => [(1, .fn (.func fid) [] []), (5, .raw (.slice aa L.length cap)), (10, .raw (.slice aa L.length cap)), (11, .int .i64 L.length), (12, .int .i64 x.1)]) (fun x => [(9, .row (.slice aa L.length cap) (((L.take x.1).map f ++ L.drop x.1).map (D.int .i32)) 1 21)]) (fun x => L.length - x.1) ⟨0, by omega⟩ [(9, 9)]
  ⟨⟨.refl _, .refl _, .refl _, .refl _, .refl _, trivial⟩, rfl, rfl, rfl, trivial⟩ ?_
 rintro ⟨i, hi⟩
 dsimp only
 refine Tri.seq ?_
 refine Tri.region ti_ok ?_
 conv => whnf
 refine Tri.seq ?_
 refine Tri.cond _ rfl (fun hc => ?_) (fun hc => ?_)
 ·refine Tri.skip ?_
  have hia : i < L.length := by simpa using hc
  have hlen : (((L.take i).map f ++ L.drop i).map (D.int .i32)).length = L.length := by simp; omega
  have hget : (((L.take i).map f ++ L.drop i).map (D.int .i32))[i]? = some (.int .i32 L[i]) := by
   rw [List.getElem?_map, List.getElem?_append_right (by simp; omega)]
   have : i - (List.map f (List.take i L)).length = 0 := by simp; omega
   rw [this]
   simp [hia]
  conv => whnf
  refine Tri.seq ?_
  refine Tri.block ?_
  refine Tri.seq ?_
  refine Tri.regionX ti_ok ?_
  conv => whnf
  refine .inr (XOp.rowIndex ti_ok 9 rfl rfl rfl rfl rfl rfl rfl (by omega) (by rw [hlen]; omega) ?_)
  conv => whnf
  refine .inr (XOp.rowLoad ti_ok 9 (i := i) (by rw [Int.toNat_natCast]; rfl) rfl rfl hget ?_)
  conv => whnf
  refine Tri.regionX ti_ok ?_
  conv => whnf
  refine .inl ?_
  conv => whnf
  refine ⟨[.int .i32 L[i]], _, fun _ => hf _ (List.getElem_mem hia), ⟨.refl _, trivial⟩, ?_⟩
  conv => whnf
  refine .inr (XOp.rowIndex ti_ok 9 rfl rfl rfl rfl rfl rfl rfl (by omega) (by rw [hlen]; omega) ?_)
  conv => whnf
  refine .inr (XOp.rowStore ti_ok 9 (i := i) (by rw [Int.toNat_natCast]; rfl) rfl rfl rfl (by rw [hlen]; omega) rfl ?_)
  conv => whnf
  refine Tri.region ti_ok ?_
  conv => whnf
  refine .inl ⟨fun _ => by simp [InR]; omega, ?_⟩
  conv => whnf
  exact ⟨⟨i + 1, by omega⟩, [(9, 9)], by show _ - (i + 1) < _ - i; omega, ⟨.refl _, .refl _, .refl _, .refl _, .refl _, trivial⟩, rfl, rfl, congrArg (fun z => some (HObj.row (.slice aa L.length cap) z 1 21)) (map_set f L hia), trivial⟩
 ·refine Tri.exit ?_
  conv => whnf
  have hin : i = L.length := by simp at hc; omega
  have hrow : ((L.take i).map f ++ L.drop i).map (D.int .i32) = ints32 (L.map f) := by subst hin; simp [ints32]
  rw [hrow]
  refine Tri.forgetK [(5, .raw (.slice aa L.length cap))] [(9, .row (.slice aa L.length cap) (ints32 (L.map f)) 1 21)] [(9, 9)] ⟨⟨.refl _, trivial⟩, rfl, rfl, rfl, trivial⟩ ?_
  refine Tri.commitSt 9 5 rfl ?_
  refine Tri.seq ?_
  refine Tri.region ti_ok ?_
  conv => whnf
  refine Tri.ret ?_
  conv => whnf
  exact .refl _
end Go.Tame.V
/- Characters and points. No program's code. -/
namespace Go.Tame.V
open Go Go.Proofs
set_option maxRecDepth 10000
set_option linter.unusedVariables false
set_option linter.unusedSimpArgs false

theorem dec_enc (n : Nat) (h : n ≤ 65533) (hs : n < 55296 ∨ 57343 < n) (rest : List UInt8) : dec ((Utf8.encode (n : Int)).data.toList ++ rest) = (n, (Utf8.encode (n : Int)).data.toList.length) := by
 have hv : Utf8.valid (n : Int) = true := by simp [Utf8.valid]; omega
 have hU : ∀ x : Nat, x < 256 → (UInt8.ofNat x).toNat = x := fun x hx => by rw [UInt8.toNat_ofNat']; omega
 by_cases h1 : n < 128
 ·have e : (Utf8.encode (n : Int)).data.toList = [UInt8.ofNat n] := by
   unfold Utf8.encode; simp only [hv, if_true, Int.toNat_natCast]; rw [if_pos h1]
  rw [e, dec_eq (by simp)]
  simp only [List.singleton_append, List.length_cons, List.getD_cons_zero, List.length_nil, decN]
  rw [hU n (by omega), if_pos h1]
 ·by_cases h2 : n < 2048
  ·have e : (Utf8.encode (n : Int)).data.toList = [UInt8.ofNat (192 + n / 64), UInt8.ofNat (128 + n % 64)] := by
    unfold Utf8.encode; simp only [hv, if_true, Int.toNat_natCast]; rw [if_neg h1, if_pos h2]
   rw [e, dec_eq (by simp)]
   simp only [List.cons_append, List.nil_append, List.length_cons, List.getD_cons_zero, List.getD_cons_succ, List.length_nil, decN]
   rw [hU (192 + n / 64) (by omega), hU (128 + n % 64) (by omega)]
   rw [if_neg (by omega), if_pos ⟨by omega, by omega, by omega⟩, if_pos (by omega)]
   exact Prod.ext (by dsimp only; omega) rfl
  ·have e : (Utf8.encode (n : Int)).data.toList = [UInt8.ofNat (224 + n / 4096), UInt8.ofNat (128 + n / 64 % 64), UInt8.ofNat (128 + n % 64)] := by
    unfold Utf8.encode; simp only [hv, if_true, Int.toNat_natCast]; rw [if_neg h1, if_neg h2, if_pos (by omega)]
   rw [e, dec_eq (by simp)]
   simp only [List.cons_append, List.nil_append, List.length_cons, List.getD_cons_zero, List.getD_cons_succ, List.length_nil, decN]
   rw [hU (224 + n / 4096) (by omega), hU (128 + n / 64 % 64) (by omega), hU (128 + n % 64) (by omega)]
   rw [if_neg (by omega), if_neg (by omega), if_pos ⟨by omega, ⟨by omega, by omega⟩, by omega, by omega⟩, if_pos ⟨by omega, by omega⟩]
   exact Prod.ext (by dsimp only; omega) rfl
theorem enc_ne (r : Int) : (Utf8.encode r).data.toList ≠ [] := by
 intro h
 unfold Utf8.encode at h
 dsimp only at h
 generalize (if Utf8.valid r = true then r.toNat else Utf8.runeError) = c at h
 by_cases h1 : c < 128
 ·rw [if_pos h1] at h; cases h
 ·rw [if_neg h1] at h
  by_cases h2 : c < 2048
  ·rw [if_pos h2] at h; cases h
  ·rw [if_neg h2] at h
   by_cases h3 : c < 65536
   ·rw [if_pos h3] at h; cases h
   ·rw [if_neg h3] at h; cases h
theorem charsP_of : ∀ (l : List Int), (∀ r ∈ l, isChar r = true) → charsP (runesB l) = some l
 | [], _ => rfl
 | r :: l, h => by
  obtain ⟨h1, h2, h3⟩ := (isChar_iff r).1 (h r List.mem_cons_self)
  have ih := charsP_of l fun x hx => h x (List.mem_cons_of_mem _ hx)
  obtain ⟨n, rfl⟩ : ∃ n : Nat, r = n := ⟨r.toNat, by omega⟩
  have hd := dec_enc n (by omega) (by omega) (runesB l)
  have e : runesB ((n : Int) :: l) = (Utf8.encode (n : Int)).data.toList ++ runesB l := by simp [runesB]
  rw [e]
  have hne : (Utf8.encode (n : Int)).data.toList ++ runesB l ≠ [] := fun h => enc_ne _ (List.append_eq_nil_iff.1 h).1
  rw [charsP_cons hne, hd]
  have hb : badAt ((Utf8.encode (n : Int)).data.toList ++ runesB l) = false := by
   simp only [badAt, hd, h (n : Int) List.mem_cons_self, Bool.not_true, Bool.false_or, Bool.and_eq_false_iff, beq_eq_false_iff_ne]
   by_cases h5 : n = 65533
   ·subst h5; right; decide +kernel
   ·left; exact h5
  rw [hb]
  simp [ih]

theorem enc_dot {r : Int} (h : isChar r = true) {i : Nat} (hi : (Utf8.encode r).data.toList[i]? = some 46) : r = 46 ∧ i = 0 := by
 obtain ⟨h1, h2, h3⟩ := (isChar_iff r).1 h
 obtain ⟨n, rfl⟩ : ∃ n : Nat, r = n := ⟨r.toNat, by omega⟩
 have hU : ∀ x : Nat, x < 256 → (UInt8.ofNat x).toNat = x := fun x hx => by rw [UInt8.toNat_ofNat']; omega
 have hne : ∀ x : Nat, x < 256 → 128 ≤ x → UInt8.ofNat x ≠ 46 := fun x hx h128 e => by
  have := congrArg UInt8.toNat e
  rw [hU x hx] at this
  have e46 : (46 : UInt8).toNat = 46 := rfl
  omega
 have hv : Utf8.valid (n : Int) = true := by simp [Utf8.valid]; omega
 by_cases h1' : n < 128
 ·have e : (Utf8.encode (n : Int)).data.toList = [UInt8.ofNat n] := by
   unfold Utf8.encode; simp only [hv, if_true, Int.toNat_natCast]; rw [if_pos h1']
  rw [e] at hi
  match i, hi with
  | 0, hi =>
   have : UInt8.ofNat n = 46 := by simpa using hi
   have := congrArg UInt8.toNat this
   rw [hU n (by omega)] at this
   have e46 : (46 : UInt8).toNat = 46 := rfl
   exact ⟨by omega, rfl⟩
  | i + 1, hi => simp at hi
 ·exfalso
  by_cases h2 : n < 2048
  ·have e : (Utf8.encode (n : Int)).data.toList = [UInt8.ofNat (192 + n / 64), UInt8.ofNat (128 + n % 64)] := by
    unfold Utf8.encode; simp only [hv, if_true, Int.toNat_natCast]; rw [if_neg h1', if_pos h2]
   rw [e] at hi
   match i, hi with
   | 0, hi => exact hne (192 + n / 64) (by omega) (by omega) (by simpa using hi)
   | 1, hi => exact hne (128 + n % 64) (by omega) (by omega) (by simpa using hi)
   | i + 2, hi => simp at hi
  ·have e : (Utf8.encode (n : Int)).data.toList = [UInt8.ofNat (224 + n / 4096), UInt8.ofNat (128 + n / 64 % 64), UInt8.ofNat (128 + n % 64)] := by
    unfold Utf8.encode; simp only [hv, if_true, Int.toNat_natCast]; rw [if_neg h1', if_neg h2, if_pos (by omega)]
   rw [e] at hi
   match i, hi with
   | 0, hi => exact hne (224 + n / 4096) (by omega) (by omega) (by simpa using hi)
   | 1, hi => exact hne (128 + n / 64 % 64) (by omega) (by omega) (by simpa using hi)
   | 2, hi => exact hne (128 + n % 64) (by omega) (by omega) (by simpa using hi)
   | i + 3, hi => simp at hi
theorem byte_dot : ∀ (l : List Int), (∀ r ∈ l, isChar r = true) → ∀ i, (runesB l)[i]? = some 46 → ∃ l1 l2, l = l1 ++ 46 :: l2 ∧ (runesB l1).length = i
 | [], _, i, h => by simp [runesB] at h
 | r :: l, hl, i, h => by
  have e : runesB (r :: l) = (Utf8.encode r).data.toList ++ runesB l := by simp [runesB]
  rw [e, List.getElem?_append] at h
  split at h
  ·obtain ⟨rfl, rfl⟩ := enc_dot (hl r List.mem_cons_self) h
   exact ⟨[], l, rfl, rfl⟩
  ·rename_i hi
   obtain ⟨l1, l2, rfl, hlen⟩ := byte_dot l (fun x hx => hl x (List.mem_cons_of_mem _ hx)) _ h
   refine ⟨r :: l1, l2, rfl, ?_⟩
   have e : runesB (r :: l1) = (Utf8.encode r).data.toList ++ runesB l1 := by simp [runesB]
   rw [e, List.length_append, hlen]; omega
theorem enc46 : (Utf8.encode 46).data.toList = [46] := by decide +kernel
/-- The last point, by bytes and by characters. -/
theorem dot_split {s : List UInt8} {l : List Int} (hc : charsP s = some l) :
  (lastDot s = -1 ∧ (46 : Int) ∉ l) ∨ ∃ l1 l2, l = l1 ++ 46 :: l2 ∧ (46 : Int) ∉ l2 ∧ lastDot s = (runesB l1).length ∧ s = runesB l1 ++ 46 :: runesB l2 := by
 obtain ⟨hb, hch⟩ := chars_bytes s.length s l (Nat.le_refl _) hc
 have hmem : ∀ l1 l2 : List Int, l = l1 ++ 46 :: l2 → s = runesB l1 ++ 46 :: runesB l2 := fun l1 l2 e => by
  rw [← hb, e, runesB_append]
  have : runesB (46 :: l2) = (Utf8.encode 46).data.toList ++ runesB l2 := by simp [runesB]
  rw [this, enc46]; rfl
 have hget : ∀ j, (hj : j < s.length) → (⟨⟨s⟩⟩ : ByteArray).data[j]! = s[j] := fun j hj => by
  simp [hj]
 have hsz : (⟨⟨s⟩⟩ : ByteArray).size = s.length := rfl
 rcases Lib.lastIndexByte_spec ⟨⟨s⟩⟩ 46 with ⟨h1, h2⟩ | ⟨i, hi, h1, h2, h3⟩
 ·refine .inl ⟨h1, fun h => ?_⟩
  obtain ⟨l1, l2, e⟩ := List.append_of_mem h
  have hs := hmem l1 l2 e
  have hlt : (runesB l1).length < s.length := by rw [hs]; simp
  have := h2 (runesB l1).length (by rw [hsz]; exact hlt)
  rw [hget _ hlt] at this
  apply this
  have : s[(runesB l1).length] = 46 := by simp [hs]
  rw [this]; rfl
 ·rw [hsz] at hi
  rw [hget i hi] at h2
  have hi46 : s[i]? = some 46 := by
   rw [List.getElem?_eq_getElem hi]
   congr 1
   apply UInt8.toNat_inj.1
   have e46 : (46 : UInt8).toNat = 46 := rfl
   omega
  rw [← hb] at hi46
  obtain ⟨l1, l2, e, hlen⟩ := byte_dot l hch i hi46
  have hs := hmem l1 l2 e
  refine .inr ⟨l1, l2, e, fun h => ?_, by rw [lastDot, h1, hlen], hs⟩
  obtain ⟨l3, l4, e2⟩ := List.append_of_mem h
  have hs2 := hmem (l1 ++ 46 :: l3) l4 (by rw [e, e2]; simp)
  have hlt : (runesB (l1 ++ 46 :: l3)).length < s.length := by rw [hs2]; simp
  have hgt : i < (runesB (l1 ++ 46 :: l3)).length := by
   rw [runesB_append, List.length_append, hlen]
   have : runesB (46 :: l3) = (Utf8.encode 46).data.toList ++ runesB l3 := by simp [runesB]
   rw [this, enc46]; simp
  have := h3 _ hgt (by rw [hsz]; exact hlt)
  rw [hget _ hlt] at this
  apply this
  have : s[(runesB (l1 ++ 46 :: l3)).length] = 46 := by
   have : s[(runesB (l1 ++ 46 :: l3)).length]? = some 46 := by rw [hs2]; simp
   rw [List.getElem?_eq_getElem hlt] at this
   exact Option.some.inj this
  rw [this]; rfl
end Go.Tame.V
/- The parts of a name, by bytes and by characters. No program's code. -/
namespace Go.Tame.V
open Go Go.Proofs
set_option maxRecDepth 10000
set_option linter.unusedVariables false
set_option linter.unusedSimpArgs false

/-- The place of the last point, or -1. -/
def dotI : List Int → Int
 | [] => -1
 | x :: r => if 0 ≤ dotI r then dotI r + 1 else if x = 46 then 0 else -1
theorem dotI_none : ∀ {l : List Int}, (46 : Int) ∉ l → dotI l = -1
 | [], _ => rfl
 | x :: r, h => by
  have ih := dotI_none (l := r) fun h' => h (List.mem_cons_of_mem _ h')
  simp only [dotI]
  rw [ih, if_neg (by omega), if_neg (fun e => h (by rw [e]; exact List.mem_cons_self))]
theorem dotI_some : ∀ (l1 : List Int) {l2 : List Int}, (46 : Int) ∉ l2 → dotI (l1 ++ 46 :: l2) = l1.length
 | [], l2, h => by simp [dotI, dotI_none h]
 | x :: l1, l2, h => by
  have ih := dotI_some l1 h
  simp only [List.cons_append, dotI, ih, List.length_cons]
  rw [if_pos (by omega)]; omega
/-- The stem and the extension, in characters. -/
def partsC (v : Int) (l : List Int) (dir : Bool) : List Int × List Int :=
 if dir = false ∧ 0 < dotI l ∧ dotI l < (l.length : Int) - 1 ∧ (v = 0 ∨ (l.length : Int) - 1 - dotI l ≤ 16) then (l.take (dotI l).toNat, l.drop (dotI l + 1).toNat)
 else if dir = false ∧ v = 0 ∧ 0 < dotI l ∧ dotI l = (l.length : Int) - 1 then (l.take (dotI l).toNat, []) else (l, [])
theorem runesB_nil {l : List Int} : runesB l = [] ↔ l = [] := by
 cases l with
 | nil => simp [runesB]
 | cons r l =>
  have : runesB (r :: l) = (Utf8.encode r).data.toList ++ runesB l := by simp [runesB]
  rw [this]
  simp only [List.append_eq_nil_iff, reduceCtorEq, iff_false]
  exact fun h => enc_ne r h.1
theorem suffix_dot (a : List UInt8) : Lib.trimSuffix (a ++ [46]) [46] = a := by
 simp [Lib.trimSuffix, Lib.hasSuffix]
theorem no_suffix {s : List UInt8} (h : ∀ a, s ≠ a ++ [46]) : Lib.trimSuffix s [46] = s := by
 unfold Lib.trimSuffix
 rw [if_neg]
 intro hs
 have : ([46] : List UInt8) <:+ s := by
  simp only [Lib.hasSuffix] at hs
  exact List.isSuffixOf_iff_suffix.1 hs
 obtain ⟨a, ha⟩ := this
 exact h a ha.symm

theorem cut_chars (v : Int) {s : List UInt8} {l : List Int} (hc : charsP s = some l) (dir : Bool) :
  runesI (cutS v s dir).1 = (partsC v l dir).1 ∧ runesI (cutS v s dir).2 = (partsC v l dir).2 ∧ ((cutS v s dir).2 = [] ↔ (partsC v l dir).2 = []) := by
 have hr := runes_chars hc
 have h0 : runesI [] = [] := rfl
 obtain ⟨hb, hch⟩ := chars_bytes s.length s l (Nat.le_refl _) hc
 cases dir with
 | true =>
  simp only [cutS, partsC, if_true, Bool.true_eq_false, false_and, if_false, hr, h0, and_self, iff_self]
 | false =>
  rcases dot_split hc with ⟨h1, h2⟩ | ⟨l1, l2, e, h2, h3, h4⟩
  ·have hd := dotI_none h2
   have hcb : cutB v s = false := by simp [cutB, h1]
   have ht : Lib.trimSuffix s [46] = s := no_suffix fun a ha => by
    have : (runesB l)[a.length]? = some 46 := by rw [hb, ha]; simp
    obtain ⟨l1, l2, e, _⟩ := byte_dot l hch _ this
    exact h2 (by rw [e]; simp)
   have hp : partsC v l false = (l, []) := by simp [partsC, hd]
   rw [hp]
   simp only [cutS, Bool.false_eq_true, if_false, hcb, ht]
   split <;> simp [hr, h0]
  ·have hd := dotI_some l1 h2
   rw [← e] at hd
   have hc1 : ∀ r ∈ l1, isChar r = true := fun r hr => hch r (by rw [e]; simp [hr])
   have hc2 : ∀ r ∈ l2, isChar r = true := fun r hr => hch r (by rw [e]; simp [hr])
   have hr1 : runesI (runesB l1) = l1 := runes_chars (charsP_of l1 hc1)
   have hr2 : runesI (runesB l2) = l2 := runes_chars (charsP_of l2 hc2)
   have hll : l.length = l1.length + 1 + l2.length := by rw [e]; simp; omega
   have hsl : s.length = (runesB l1).length + 1 + (runesB l2).length := by rw [h4]; simp; omega
   have p1 : 0 < (runesB l1).length ↔ 0 < l1.length := by
    rw [List.length_pos_iff, List.length_pos_iff]; exact not_congr runesB_nil
   have p2 : 0 < (runesB l2).length ↔ 0 < l2.length := by
    rw [List.length_pos_iff, List.length_pos_iff]; exact not_congr runesB_nil
   have htk : s.take (lastDot s).toNat = runesB l1 := by rw [h3, h4]; simp
   have hdr : s.drop (lastDot s + 1).toNat = runesB l2 := by
    have : (lastDot s + 1).toNat = (runesB l1).length + 1 := by omega
    rw [this, h4]
    simp
   have ltk : l.take (dotI l).toNat = l1 := by rw [hd, e]; simp
   have ldr : l.drop (dotI l + 1).toNat = l2 := by
    have : (dotI l + 1).toNat = l1.length + 1 := by omega
    rw [this, e]; simp
   have hcb : cutB v s = true ↔ (0 < l1.length ∧ 0 < l2.length ∧ (v = 0 ∨ (l2.length : Int) ≤ 16)) := by
    simp only [cutB, hdr, hr2, Bool.and_eq_true, decide_eq_true_eq, Bool.or_eq_true, beq_iff_eq]
    constructor
    ·rintro ⟨⟨a, b⟩, c⟩; exact ⟨p1.1 (by omega), p2.1 (by omega), c⟩
    ·rintro ⟨a, b, c⟩; have := p1.2 a; have := p2.2 b; exact ⟨⟨by omega, by omega⟩, c⟩
   by_cases h5 : 0 < l1.length ∧ 0 < l2.length ∧ (v = 0 ∨ (l2.length : Int) ≤ 16)
   ·have hP : partsC v l false = (l1, l2) := by
     rw [partsC, if_pos ⟨rfl, by omega, by omega, by rcases h5.2.2 with h | h; exact .inl h; exact .inr (by omega)⟩, ltk, ldr]
    have hC : cutS v s false = (runesB l1, runesB l2) := by
     rw [cutS, if_neg (by simp), if_pos (hcb.2 h5), htk, hdr]
    rw [hP, hC]
    exact ⟨hr1, hr2, runesB_nil⟩
   ·have hcb' : ¬ cutB v s = true := fun h => h5 (hcb.1 h)
    have hP0 : ¬ (false = false ∧ 0 < dotI l ∧ dotI l < (l.length : Int) - 1 ∧ (v = 0 ∨ (l.length : Int) - 1 - dotI l ≤ 16)) := by
     rintro ⟨_, a, b, c⟩
     exact h5 ⟨by omega, by omega, by rcases c with c | c; exact .inl c; exact .inr (by omega)⟩
    by_cases h6 : v = 0 ∧ 0 < l1.length ∧ l2 = []
    ·obtain ⟨hv, hl1, rfl⟩ := h6
     have hP : partsC v l false = (l1, []) := by
      rw [partsC, if_neg hP0, if_pos ⟨rfl, hv, by omega, by simp at hll; omega⟩, ltk]
     have hC : cutS v s false = (runesB l1, []) := by
      have := p1.2 hl1
      rw [cutS, if_neg (by simp), if_neg hcb', if_pos ⟨hv, by omega⟩]
      have : s = runesB l1 ++ [46] := by rw [h4]; rfl
      rw [this, suffix_dot]
     rw [hP, hC]
     exact ⟨hr1, h0, by simp⟩
    ·have hP : partsC v l false = (l, []) := by
      rw [partsC, if_neg hP0, if_neg]
      rintro ⟨_, a, b, c⟩
      exact h6 ⟨a, by omega, List.eq_nil_of_length_eq_zero (by omega)⟩
     have hC : cutS v s false = (s, []) := by
      rw [cutS, if_neg (by simp), if_neg hcb']
      split
      ·rename_i h7
       have : Lib.trimSuffix s [46] = s := no_suffix fun a ha => by
        by_cases hl2 : l2 = []
        ·subst hl2
         have hl1 : ¬ 0 < l1.length := fun h => h6 ⟨h7.1, h, rfl⟩
         have : l1 = [] := List.eq_nil_of_length_eq_zero (by omega)
         subst this
         simp [runesB] at hsl
         omega
        ·have h8 : 0 < (runesB l2).length := p2.2 (List.length_pos_iff.2 hl2)
         have : (runesB l2)[(runesB l2).length - 1]? = some 46 := by
          have h9 : s[s.length - 1]? = some 46 := by rw [ha]; simp
          rw [h4] at h9
          simp only [List.length_append, List.length_cons] at h9
          rw [List.getElem?_append_right (by omega)] at h9
          have : (runesB l1).length + ((runesB l2).length + 1) - 1 - (runesB l1).length = (runesB l2).length - 1 + 1 := by omega
          rw [this] at h9
          simpa using h9
         obtain ⟨l3, l4, e3, _⟩ := byte_dot l2 hc2 _ this
         exact h2 (by rw [e3]; simp)
       rw [this]
      ·rfl
     rw [hP, hC]
     exact ⟨hr, h0, by simp⟩
end Go.Tame.V
/- Contracts: the wanted name and the numbered name. By program (mk40.py, mk.py). -/
namespace Go.Tame.V
open Go Go.Proofs
variable {W0 : World}
set_option maxRecDepth 10000
set_option linter.unusedVariables false
set_option linter.unusedSimpArgs false

def mapC (v : Int) (r : Int) : Int := if v = 0 then isoC r else jolC r
def mostC (v : Int) : Nat := if v = 0 then 3 else 64
def wantS (v : Int) (s : List UInt8) (dir : Bool) : List Int × List Int :=
 ((runesI (cutS v s dir).1).map (mapC v), if (cutS v s dir).2 = [] then [] else 46 :: ((runesI (cutS v s dir).2).map (mapC v)).take (mostC v))
theorem mapC_ok (v r : Int) (h : isChar r = true) : DFun Tryz.prog W0 (bif v == 0 then 124 else 123) [.int .i32 r] (.int .i32 (mapC v r)) := by
 obtain ⟨h1, h2, h3⟩ := (isChar_iff r).1 h
 cases hv : (v == 0) with
 | true =>
  have : v = 0 := by simpa using hv
  rw [mapC, if_pos this]; exact F140 r (by omega) (by omega)
 | false =>
  have : ¬ v = 0 := by simpa using hv
  rw [mapC, if_neg this]; exact F139 r h
theorem parts_char {v : Int} {l : List Int} {dir : Bool} (h : ∀ r ∈ l, isChar r = true) : (∀ r ∈ (partsC v l dir).1, isChar r = true) ∧ ∀ r ∈ (partsC v l dir).2, isChar r = true := by
 unfold partsC
 split
 ·exact ⟨fun r hr => h r (List.mem_of_mem_take hr), fun r hr => h r (List.mem_of_mem_drop hr)⟩
 ·split
  ·exact ⟨fun r hr => h r (List.mem_of_mem_take hr), fun r hr => by cases hr⟩
  ·exact ⟨h, fun r hr => by cases hr⟩
theorem trim_len (s p : List UInt8) : (Lib.trimSuffix s p).length ≤ s.length := by
 unfold Lib.trimSuffix; split <;> simp
theorem cutS_len (v : Int) (s : List UInt8) (dir : Bool) : (cutS v s dir).1.length ≤ s.length ∧ (cutS v s dir).2.length ≤ s.length := by
 unfold cutS
 split
 ·simp
 ·split
  ·simp; omega
  ·split
   ·have := trim_len s [46]; simp; omega
   ·simp
def wantD (st ex : List Int) : D := .agg [.sl .none 1 (ints32 st), .sl .none 1 (ints32 ex)]

theorem F125 (v : Int) (s : List UInt8) (l : List Int) (dir : Bool) (hs : s.length < 1000000) (hc : charsP s = some l) : DFun Tryz.prog W0 79 [.int .i64 v, .str s, .bool dir] (wantD (wantS v s dir).1 (wantS v s dir).2) := by
 have hch := (chars_bytes s.length s l (Nat.le_refl _) hc).2
 obtain ⟨q1, q2, q3⟩ := cut_chars v hc dir
 have hpc := parts_char (v := v) (dir := dir) hch
 have hcl := cutS_len v s dir
 refine DFun.intro ti_ok Tryz.func79 rfl (by decide +kernel) Tryz.ntmps79 rfl fun Γ => ?_
 refine Tri.seq ?_
 refine Tri.region ti_ok ?_
 conv => whnf
 intro b6
 conv => whnf
 refine Tri.seq ?_
 refine Tri.region ti_ok ?_
 conv => whnf
 refine Tri.joinK (α := Unit) (fun x => [(0, .int .i64 v), (1, .str s), (2, .bool dir), (6, .box 6 b6 0), (7, .fn (.func (bif v == 0 then 124 else 123)) [] []), (8, .int .i64 (bif v == 0 then 3 else 64))]) (fun x => [(6, .box b6 [.nils, .nils])]) ?_ ?_
 ·refine Tri.seq ?_
  refine Tri.region ti_ok ?_
  conv => whnf
  refine Tri.cond _ rfl (fun hc => ?_) (fun hc => ?_)
  ·refine Tri.region ti_ok ?_
   conv => whnf
   exact ⟨(), [(6, 6)], ⟨.refl _, .refl _, .refl _, .refl _, DLe.of_eq (congrArg (fun z => D.fn (.func (bif z then 124 else 123)) [] []) hc.symm), DLe.of_eq (congrArg (fun z => D.int .i64 (bif z then 3 else 64)) hc.symm), trivial⟩, rfl, rfl, rfl, trivial⟩
  ·refine Tri.skip ?_
   conv => whnf
   exact ⟨(), [(6, 6)], ⟨.refl _, .refl _, .refl _, .refl _, DLe.of_eq (congrArg (fun z => D.fn (.func (bif z then 124 else 123)) [] []) hc.symm), DLe.of_eq (congrArg (fun z => D.int .i64 (bif z then 3 else 64)) hc.symm), trivial⟩, rfl, rfl, rfl, trivial⟩
 ·rintro ⟨⟩
  refine Tri.seq ?_
  refine Tri.region ti_ok ?_
  conv => whnf
  refine ⟨[.int .i64 v, .str s, .bool dir], _, fun _ => F141 v s dir (by omega), ⟨.refl _, .refl _, .refl _, trivial⟩, ?_⟩
  conv => whnf
  refine Tri.seq ?_
  refine Tri.region ti_ok ?_
  conv => whnf
  refine ⟨[.str (cutS v s dir).1, .fn (.func (bif v == 0 then 124 else 123)) [] []], _, fun _ => F142 (cutS v s dir).1 _ (mapC v) (by omega) (fun r hr => mapC_ok v r (hpc.1 r (by rw [← q1]; exact hr))), ⟨.refl _, .refl _, trivial⟩, ?_⟩
  conv => whnf
  intro b11
  conv => whnf
  refine ⟨rfl, ?_⟩
  conv => whnf
  refine Tri.seq ?_
  refine Tri.seq ?_
  refine Tri.region ti_ok ?_
  conv => whnf
  refine Tri.cond _ rfl (fun hc => ?_) (fun hc => ?_)
  ·refine Tri.seq ?_
   refine Tri.region ti_ok ?_
   conv => whnf
   refine ⟨[.str (cutS v s dir).2, .fn (.func (bif v == 0 then 124 else 123)) [] []], _, fun _ => F142 (cutS v s dir).2 _ (mapC v) (by omega) (fun r hr => mapC_ok v r (hpc.2 r (by rw [← q2]; exact hr))), ⟨.refl _, .refl _, trivial⟩, ?_⟩
   conv => whnf
   have hrl := runesI_len (cutS v s dir).2
   generalize hX : (runesI (cutS v s dir).2).map (mapC v) = X
   have hXl : X.length ≤ 1000000 := by rw [← hX]; simp; omega
   have hm0 : (0 : Int) ≤ (bif v == 0 then 3 else 64) := by cases (v == 0) <;> simp
   refine Tri.region ti_ok ?_
   conv => whnf
   refine ⟨trivial, ?_⟩
   conv => whnf
   have hmin : (0 : Int) ≤ (if (bif v == 0 then (3 : Int) else 64) < ((ints32 X).length : Int) then (bif v == 0 then (3 : Int) else 64) else ((ints32 X).length : Int)) ∧ (if (bif v == 0 then (3 : Int) else 64) < ((ints32 X).length : Int) then (bif v == 0 then (3 : Int) else 64) else ((ints32 X).length : Int)) ≤ ((ints32 X).length : Int) := by split <;> omega
   have hmint : (X.take (mostC v)) = X.take (if (bif v == 0 then (3 : Int) else 64) < ((ints32 X).length : Int) then (bif v == 0 then (3 : Int) else 64) else ((ints32 X).length : Int)).toNat := by
    have e : ((bif v == 0 then (3 : Int) else 64)).toNat = mostC v := by
     unfold mostC
     cases hv : (v == 0) with
     | true => rw [if_pos (by simpa using hv)]; rfl
     | false => rw [if_neg (by simpa using hv)]; rfl
    split
    ·rw [e]
    ·rename_i hlt
     have : X.length ≤ mostC v := by rw [← e]; simp [ints32] at hlt; omega
     rw [List.take_of_length_le this, List.take_of_length_le (by simp [ints32])]
   refine ⟨fun _ => ⟨Int.le_refl _, hmin.1, hmin.2⟩, ?_⟩
   conv => whnf
   refine ⟨by show (_ + _) * 4 ≤ _; simp [ints32]; omega, by show _ + _ ≤ _; simp [ints32]; omega, (fun h => by cases h), fun w => ?_⟩
   conv => whnf
   refine ⟨rfl, ?_⟩
   conv => whnf
   refine Tri.seq ?_
   refine Tri.region ti_ok ?_
   conv => whnf
   refine ⟨rfl, ?_⟩
   conv => whnf
   refine ⟨rfl, ?_⟩
   conv => whnf
   refine Tri.ret ?_
   conv => whnf
   refine ⟨rfl, ?_⟩
   conv => whnf
   have hne : ¬ (cutS v s dir).2 = [] := by simpa using hc
   refine DLe.agg ?_
   refine ⟨.refl _, ⟨fun w' C' u h => ?_⟩, trivial⟩
   have h2 := (DLe.unown (t := .own 38 w)).le w' C' u h
   have e : ([D.int .i32 46] ++ (List.drop (Int.toNat 0) ((ints32 X).take (if (bif v == 0 then (3 : Int) else 64) < ((ints32 X).length : Int) then (bif v == 0 then (3 : Int) else 64) else ((ints32 X).length : Int)).toNat))) = ints32 (wantS v s dir).2 := by
    simp only [wantS]
    rw [if_neg hne, hX, hmint]
    simp [ints32]
   rw [← e]
   exact h2
  ·refine Tri.skip ?_
   conv => whnf
   refine Tri.seq ?_
   refine Tri.region ti_ok ?_
   conv => whnf
   refine ⟨rfl, ?_⟩
   conv => whnf
   refine ⟨rfl, ?_⟩
   conv => whnf
   refine Tri.ret ?_
   conv => whnf
   refine ⟨rfl, ?_⟩
   conv => whnf
   have hne : (cutS v s dir).2 = [] := by simpa using hc
   have e : (wantS v s dir).2 = [] := by simp only [wantS]; rw [if_pos hne]
   refine DLe.agg ?_
   refine ⟨.refl _, ?_, trivial⟩
   rw [e]; exact DLe.nil

theorem digs_len : ∀ k, k < 100 → (Lib.decDigits k).length ≤ 2 := by
 intro k hk
 rw [Lib.decDigits]
 split
 ·simp
 ·rw [Lib.decDigits, dif_pos (by omega)]; simp
def sufI (k : Nat) : List Int := if 0 < k then runesI (Lib.decDigits k) else []
theorem sufI_len {k : Nat} (hk : k < 100) : (sufI k).length ≤ 2 := by
 unfold sufI; split
 ·have := runesI_len (Lib.decDigits k); have := digs_len k hk; omega
 ·simp
def roomI (v : Int) (ex : List Int) (k : Nat) : Int := bif v == 1 then 64 - (ex.length : Int) - ((sufI k).length : Int) else 8 - ((sufI k).length : Int)
/-- How many characters of the stem stay. -/
def stemN (v : Int) (st ex : List Int) (k : Nat) : Nat := (if (if roomI v ex k < (st.length : Int) then roomI v ex k else (st.length : Int)) > 0 then (if roomI v ex k < (st.length : Int) then roomI v ex k else (st.length : Int)) else 0).toNat
def numS (v : Int) (st ex : List Int) (k : Nat) : List UInt8 := runesB (st.take (stemN v st ex k) ++ sufI k ++ ex)

theorem F126 (v : Int) (st ex : List Int) (k : Nat) (hk : k < 100) (hst : st.length < 1000000) (hex : ex.length < 1000000) : DFun Tryz.prog W0 80 [wantD st ex, .int .i64 v, .int .i64 (k : Nat)] (.str (numS v st ex k)) := by
 have hsl := sufI_len hk
 refine DFun.intro ti_ok Tryz.func80 rfl (by decide +kernel) Tryz.ntmps80 rfl fun Γ => ?_
 refine Tri.seq ?_
 refine Tri.region ti_ok ?_
 conv => whnf
 intro b3
 conv => whnf
 refine Tri.seq ?_
 refine Tri.region ti_ok ?_
 conv => whnf
 refine ⟨trivial, ?_⟩
 conv => whnf
 refine Tri.joinK (α := Unit) (fun x => [(1, .int .i64 v), (3, .box 3 b3 0), (7, .sl .none 1 (ints32 (sufI k)))]) (fun x => [(3, .box b3 [.sl .none 1 (ints32 st), .sl .none 1 (ints32 ex)])]) ?_ ?_
 ·refine Tri.seq ?_
  refine Tri.region ti_ok ?_
  conv => whnf
  refine Tri.cond _ rfl (fun hc => ?_) (fun hc => ?_)
  ·refine Tri.region ti_ok ?_
   conv => whnf
   refine ⟨[.int .i64 (k : Nat)], _, fun _ => F143 k hk, ⟨.refl _, trivial⟩, ?_⟩
   conv => whnf
   refine ⟨by have := digs_len k hk; omega, ?_⟩
   conv => whnf
   have h0 : 0 < k := by simpa using hc
   exact ⟨(), [(3, 3)], ⟨.refl _, .refl _, DLe.of_eq (congrArg (D.sl .none 1) (by rw [sufI, if_pos h0]; rfl)), trivial⟩, rfl, rfl, rfl, trivial⟩
  ·refine Tri.skip ?_
   conv => whnf
   have h0 : ¬ 0 < k := by simpa using hc
   exact ⟨(), [(3, 3)], ⟨.refl _, .refl _, ⟨fun w C u h => by rw [sufI, if_neg h0]; exact h.untag⟩, trivial⟩, rfl, rfl, rfl, trivial⟩
 ·rintro ⟨⟩
  generalize hSk : sufI k = S at *
  refine Tri.seq ?_
  refine Tri.region ti_ok ?_
  conv => whnf
  refine .inl ⟨fun _ => by simp only [InR, ints32, List.length_map]; omega, ?_⟩
  conv => whnf
  refine Tri.joinK (α := Unit) (fun x => [(1, .int .i64 v), (3, .box 3 b3 0), (7, .sl .none 1 (ints32 S)), (8, .int .i64 (roomI v ex k))]) (fun x => [(3, .box b3 [.sl .none 1 (ints32 st), .sl .none 1 (ints32 ex)])]) ?_ ?_
  ·refine Tri.seq ?_
   refine Tri.region ti_ok ?_
   conv => whnf
   refine Tri.cond _ rfl (fun hc => ?_) (fun hc => ?_)
   ·refine Tri.region ti_ok ?_
    conv => whnf
    refine ⟨rfl, ?_⟩
    conv => whnf
    refine .inl ⟨fun _ => by simp only [InR, ints32, List.length_map]; omega, ?_⟩
    conv => whnf
    refine .inl ⟨fun _ => by simp only [InR, ints32, List.length_map]; omega, ?_⟩
    conv => whnf
    exact ⟨(), [(3, 3)], ⟨.refl _, .refl _, .refl _, DLe.of_eq (congrArg (D.int .i64) (by rw [roomI, hc, hSk]; simp [ints32])), trivial⟩, rfl, rfl, rfl, trivial⟩
   ·refine Tri.skip ?_
    conv => whnf
    exact ⟨(), [(3, 3)], ⟨.refl _, .refl _, .refl _, DLe.of_eq (congrArg (D.int .i64) (by rw [roomI, hc, hSk]; simp [ints32])), trivial⟩, rfl, rfl, rfl, trivial⟩
  ·rintro ⟨⟩
   refine Tri.seq ?_
   refine Tri.regionX ti_ok ?_
   conv => whnf
   refine ⟨trivial, ?_⟩
   conv => whnf
   refine .inl ?_
   conv => whnf
   refine ⟨rfl, ?_⟩
   conv => whnf
   refine .inl ?_
   conv => whnf
   refine ⟨rfl, ?_⟩
   conv => whnf
   have hle : (if roomI v ex k < ((ints32 st).length : Int) then roomI v ex k else ((ints32 st).length : Int)) ≤ ((ints32 st).length : Int) := by split <;> omega
   generalize hM : (if roomI v ex k < ((ints32 st).length : Int) then roomI v ex k else ((ints32 st).length : Int)) = M at *
   refine .inl ?_
   conv => whnf
   refine ⟨fun _ => ⟨Int.le_refl _, by split <;> omega, by split <;> omega⟩, ?_⟩
   conv => whnf
   refine .inl ?_
   conv => whnf
   refine ⟨by show (_ + _) * 4 ≤ _; simp [ints32]; omega, by show _ + _ ≤ _; simp [ints32]; omega, (fun h => by cases h), fun v9 => ?_⟩
   conv => whnf
   have hA : ([] ++ List.drop (Int.toNat 0) ((ints32 st).take (if M > 0 then M else 0).toNat)) = ints32 (st.take (stemN v st ex k)) := by
    have e : stemN v st ex k = (if M > 0 then M else 0).toNat := by
     rw [← hM]; simp only [stemN, ints32, List.length_map]
    rw [e]; simp [ints32]
   rw [List.map_nil, hA]
   have hAl : (st.take (stemN v st ex k)).length ≤ 1000000 := by simp; omega
   generalize hAA : st.take (stemN v st ex k) = A at *
   generalize hvv : v9 = v' at *
   refine Tri.seq ?_
   have hself : ∀ (x : Value × Value) (b2 b5 : Bool) (σ : DSt), σ.H = look ((3, .box b3 [.sl .none 1 (ints32 st), .sl .none 1 (ints32 ex)]) :: (bif b2 then (bif b5 then [(44, .own x.2 (A ++ S ++ ex).length 1 21)] else [(41, .own x.1 (A ++ S).length 1 21)]) else [(38, .own v' A.length 1 21)])) →
     SubH σ ((3, .box b3 [.sl .none 1 (ints32 st), .sl .none 1 (ints32 ex)]) :: (bif b2 then (bif b5 then [(44, .own x.2 (A ++ S ++ ex).length 1 21)] else [(41, .own x.1 (A ++ S).length 1 21)]) else [(38, .own v' A.length 1 21)])) := by
    intro x b2 b5 σ h
    cases b2 <;> cases b5 <;> exact ⟨by rw [h]; rfl, by rw [h]; rfl, trivial⟩
   have hown : ∀ (x : Value × Value) (b2 b5 : Bool), b2 = true → b5 = false → ∀ σ : DSt, σ.H 3 = some (.box b3 [.sl .none 1 (ints32 st), .sl .none 1 (ints32 ex)]) → σ.H 41 = some (.own x.1 (A ++ S).length 1 21) →
     SubH σ ((3, .box b3 [.sl .none 1 (ints32 st), .sl .none 1 (ints32 ex)]) :: (bif b2 then (bif b5 then [(44, .own x.2 (A ++ S ++ ex).length 1 21)] else [(41, .own x.1 (A ++ S).length 1 21)]) else [(38, .own v' A.length 1 21)])) := by
    intro x b2 b5 h2 h5 σ g1 g2
    subst h2 h5
    exact ⟨g1, g2, trivial⟩
   refine Tri.bitsI ti_ok mixed (α := Value × Value) (fun x f => [(3, .box 3 b3 0), (7, .sl .none 1 (ints32 S)), (9, .sl (.own 38 v') 1 (ints32 A)), (39, bif f 0 then .sl (.own 38 v') 1 (ints32 A) else .any), (40, bif f 1 then .sl .none 1 (ints32 S) else .any), (41, bif f 2 then .sl (.own 41 x.1) 1 (ints32 (A ++ S)) else .any), (42, bif f 3 then .box 3 b3 1 else .any), (43, bif f 4 then .sl .none 1 (ints32 ex) else .any), (44, bif f 5 then .sl (.own 44 x.2) 1 (ints32 (A ++ S ++ ex)) else .any), (45, bif f 6 then .str (runesB (A ++ S ++ ex)) else .any), (6, bif f 7 then .str (runesB (A ++ S ++ ex)) else .any)])
    (fun x f => (3, .box b3 [.sl .none 1 (ints32 st), .sl .none 1 (ints32 ex)]) :: (bif f 2 then (bif f 5 then [(44, .own x.2 (A ++ S ++ ex).length 1 21)] else [(41, .own x.1 (A ++ S).length 1 21)]) else [(38, .own v' A.length 1 21)])) (by decide +kernel) (v', v') ?_ ?_ ?_ ?_
   ·exact ⟨.refl _, .refl _, .refl _, .any _, .any _, .any _, .any _, .any _, .any _, .any _, .any _, trivial⟩
   ·exact ⟨rfl, congrArg (fun z => some (HObj.own v' z 1 21)) (by have := congrArg List.length hA; simpa [ints32] using this), trivial⟩
   ·conv => whnf
    refine ⟨fun x f hI => ?_, ?_⟩
    ·conv => whnf
     refine ⟨x, ⟨.refl _, .refl _, .refl _, .refl _, .refl _, .refl _, .refl _, .refl _, .refl _, .refl _, .refl _, trivial⟩, hself x _ _ _ rfl⟩
    refine ⟨fun x f hI => ?_, ?_⟩
    ·conv => whnf
     refine ⟨x, ⟨.refl _, .refl _, .refl _, .refl _, .refl _, .refl _, .refl _, .refl _, .refl _, .refl _, .refl _, trivial⟩, hself x _ _ _ rfl⟩
    refine ⟨fun x f hI => ?_, ?_⟩
    ·conv => whnf
     refine .inl ?_
     conv => whnf
     refine ⟨rfl, by simp [ints32], ?_⟩
     conv => whnf
     refine ⟨by show (_ + _) * 4 ≤ _; simp [ints32]; omega, by show _ + _ ≤ _; simp [ints32]; omega, (fun h => by cases h), fun w => ?_⟩
     refine ⟨(w, x.2), ⟨.refl _, .refl _, .refl _, .refl _, .refl _, DLe.of_eq (congrArg (D.sl _ 1) (by simp [ints32])), .refl _, .refl _, .refl _, .refl _, .refl _, trivial⟩, ?_⟩
     exact hown (w, x.2) _ _ rfl (hI.no 5 2 rfl rfl) _ rfl (congrArg (fun z => some (HObj.own w z 1 21)) (by simp [ints32]))
    refine ⟨fun x f hI => ?_, ?_⟩
    ·conv => whnf
     refine ⟨x, ⟨.refl _, .refl _, .refl _, .refl _, .refl _, .refl _, .refl _, .refl _, .refl _, .refl _, .refl _, trivial⟩, hself x _ _ _ rfl⟩
    refine ⟨fun x f hI => ?_, ?_⟩
    ·conv => whnf
     refine .inl ?_
     conv => whnf
     refine ⟨rfl, ?_⟩
     conv => whnf
     refine ⟨x, ⟨.refl _, .refl _, .refl _, .refl _, .refl _, .refl _, .refl _, .refl _, .refl _, .refl _, .refl _, trivial⟩, hself x _ _ _ rfl⟩
    refine ⟨fun x f hI => ?_, ?_⟩
    ·conv => whnf
     refine .inl ?_
     conv => whnf
     refine ⟨rfl, by simp [ints32], ?_⟩
     conv => whnf
     refine ⟨by show (_ + _) * 4 ≤ _; simp [ints32]; omega, by show _ + _ ≤ _; simp [ints32]; omega, (fun h => by cases h), fun w => ?_⟩
     refine ⟨(x.1, w), ⟨.refl _, .refl _, .refl _, .refl _, .refl _, .refl _, .refl _, .refl _, DLe.of_eq (congrArg (D.sl _ 1) (by simp [ints32])), .refl _, .refl _, trivial⟩, ?_⟩
     exact ⟨rfl, congrArg (fun z => some (HObj.own w z 1 21)) (by simp [ints32, Nat.add_assoc]), trivial⟩
    refine ⟨fun x f hI => ?_, ?_⟩
    ·conv => whnf
     refine .inl ?_
     conv => whnf
     refine ⟨A ++ S ++ ex, rfl, ?_⟩
     conv => whnf
     refine ⟨x, ⟨.refl _, .refl _, .refl _, .refl _, .refl _, .refl _, .refl _, .refl _, .refl _, .refl _, .refl _, trivial⟩, hself x _ _ _ rfl⟩
    refine ⟨fun x f hI => ?_, ?_⟩
    ·conv => whnf
     refine ⟨x, ⟨.refl _, .refl _, .refl _, .refl _, .refl _, .refl _, .refl _, .refl _, .refl _, .refl _, .refl _, trivial⟩, hself x _ _ _ rfl⟩
    exact trivial
   ·intro x f hf
    have e7 := hf 7 (by decide +kernel)
    refine Tri.ret ?_
    conv => whnf
    rw [e7]
    exact DLe.of_eq (congrArg D.str (by rw [numS, hSk, hAA]))
end Go.Tame.V
/- The names at the views 0 and 1: a free number below 100 is always there. No program's code. -/
namespace Go.Tame.V
open Go Go.Proofs
set_option maxRecDepth 10000
set_option linter.unusedVariables false
set_option linter.unusedSimpArgs false

theorem dig2 {k : Nat} (h1 : 10 ≤ k) (h2 : k < 100) : Lib.decDigits k = [UInt8.ofNat (48 + k / 10), UInt8.ofNat (48 + k % 10)] := by
 rw [Lib.decDigits, dif_neg (by omega), Lib.decDigits, dif_pos (by omega)]
 rfl
theorem charsP_ascii : ∀ (s : List UInt8), (∀ b ∈ s, 32 ≤ b.toNat ∧ b.toNat < 127) → charsP s = some (s.map fun b => (b.toNat : Int))
 | [], _ => rfl
 | b :: s, h => by
  have hb := h b List.mem_cons_self
  have ih := charsP_ascii s fun x hx => h x (List.mem_cons_of_mem _ hx)
  have := charsP_of ((b :: s).map fun b => (b.toNat : Int)) (by
   intro r hr
   obtain ⟨c, hc, rfl⟩ := List.mem_map.1 hr
   have := h c hc
   exact (isChar_iff _).2 ⟨by omega, by omega, by omega⟩)
  have e : ∀ l : List UInt8, (∀ b ∈ l, 32 ≤ b.toNat ∧ b.toNat < 127) → runesB (l.map fun b => (b.toNat : Int)) = l := by
   intro l
   induction l with
   | nil => intro _; rfl
   | cons c l ih =>
    intro hl
    have e : runesB ((c :: l).map fun b => (b.toNat : Int)) = (Utf8.encode (c.toNat : Int)).data.toList ++ runesB (l.map fun b => (b.toNat : Int)) := by simp [runesB]
    rw [e, ih fun x hx => hl x (List.mem_cons_of_mem _ hx)]
    have hc := hl c List.mem_cons_self
    have e1 : (Utf8.encode (c.toNat : Int)).data.toList = [UInt8.ofNat c.toNat] := by
     unfold Utf8.encode
     simp only [show Utf8.valid (c.toNat : Int) = true by simp [Utf8.valid]; omega, if_true, Int.toNat_natCast]; rw [if_pos (by omega)]
    rw [e1]; simp
  rw [e (b :: s) h] at this
  exact this
theorem dig2_rng {k : Nat} (h1 : 10 ≤ k) (h2 : k < 100) : ∀ b ∈ Lib.decDigits k, 32 ≤ b.toNat ∧ b.toNat < 127 := by
 rw [dig2 h1 h2]
 have hU : ∀ x : Nat, x < 256 → (UInt8.ofNat x).toNat = x := fun x hx => by rw [UInt8.toNat_ofNat']; omega
 intro b hb
 simp only [List.mem_cons, List.not_mem_nil, or_false] at hb
 rcases hb with rfl | rfl
 ·rw [hU _ (by omega)]; omega
 ·rw [hU _ (by omega)]; omega
theorem suf2 {k : Nat} (h1 : 10 ≤ k) (h2 : k < 100) : sufI k = [48 + ((k / 10 : Nat) : Int), 48 + ((k % 10 : Nat) : Int)] := by
 have hU : ∀ x : Nat, x < 256 → (UInt8.ofNat x).toNat = x := fun x hx => by rw [UInt8.toNat_ofNat']; omega
 rw [sufI, if_pos (by omega), runes_chars (charsP_ascii _ (dig2_rng h1 h2)), dig2 h1 h2]
 simp only [List.map_cons, List.map_nil]
 rw [hU _ (by omega), hU _ (by omega)]
 rfl
theorem suf2_char {k : Nat} (h1 : 10 ≤ k) (h2 : k < 100) : ∀ r ∈ sufI k, isChar r = true := by
 rw [suf2 h1 h2]
 intro r hr
 simp only [List.mem_cons, List.not_mem_nil, or_false] at hr
 rcases hr with rfl | rfl <;> exact (isChar_iff _).2 ⟨by omega, by omega, by omega⟩

theorem runesB_inj {a b : List Int} (ha : ∀ r ∈ a, isChar r = true) (hb : ∀ r ∈ b, isChar r = true) (h : runesB a = runesB b) : a = b := by
 have h1 := charsP_of a ha
 rw [h, charsP_of b hb] at h1
 exact (Option.some.inj h1).symm
theorem num_inj (v : Int) (st ex : List Int) {j k : Nat} (hj1 : 10 ≤ j) (hj2 : j < 100) (hk1 : 10 ≤ k) (hk2 : k < 100) (h : numS v st ex j = numS v st ex k) : j = k := by
 have hs : stemN v st ex j = stemN v st ex k := by simp only [stemN, roomI, suf2 hj1 hj2, suf2 hk1 hk2, List.length_cons, List.length_nil]
 simp only [numS, hs] at h
 rw [runesB_append, runesB_append, runesB_append, runesB_append] at h
 have h := List.append_cancel_left (List.append_cancel_right h)
 have := runesB_inj (suf2_char hj1 hj2) (suf2_char hk1 hk2) h
 rw [suf2 hj1 hj2, suf2 hk1 hk2] at this
 simp only [List.cons.injEq, and_true] at this
 omega

/-- The least number whose name is free. -/
def freshK (v : Int) (used : List (List UInt8)) (st ex : List Int) : Nat := ((List.range 100).find? fun k => decide (numS v st ex k ∉ used)).getD 0
theorem fresh_ok (v : Int) (used : List (List UInt8)) (st ex : List Int) (hu : used.length ≤ 64) :
  freshK v used st ex < 100 ∧ numS v st ex (freshK v used st ex) ∉ used ∧ ∀ j, j < freshK v used st ex → numS v st ex j ∈ used := by
 unfold freshK
 cases h : (List.range 100).find? fun k => decide (numS v st ex k ∉ used) with
 | none =>
  exfalso
  rw [List.find?_eq_none] at h
  have hn : (((List.range 90).map (fun i => i + 10)).map (numS v st ex)).Nodup := by
   rw [List.nodup_iff_pairwise_ne, List.pairwise_map, List.pairwise_map]
   refine List.Pairwise.imp_of_mem (R := (· ≠ ·)) ?_ (List.nodup_iff_pairwise_ne.1 List.nodup_range)
   intro a b ha hb hab he
   simp only [List.mem_range] at ha hb
   have := num_inj v st ex (by omega) (by omega) (by omega) (by omega) he
   omega
  have hsub : ((List.range 90).map (fun i => i + 10)).map (numS v st ex) ⊆ used := by
   intro x hx
   obtain ⟨y, hy, rfl⟩ := List.mem_map.1 hx
   obtain ⟨i, hi, rfl⟩ := List.mem_map.1 hy
   have := h (i + 10) (by simp at hi ⊢; omega)
   simpa using this
  have := hn.length_le_of_subset hsub
  simp at this; omega
 | some k =>
  obtain ⟨h1, h2, h3⟩ := List.find?_range_eq_some.1 h
  simp only [Option.getD_some]
  refine ⟨by simpa using h2, by simpa using h1, fun j hj => by simpa using h3 j hj⟩

def pickN (v : Int) (u : List (List UInt8)) (k : NV) : List UInt8 :=
 numS v (wantS v k.name (k.kind == 0)).1 (wantS v k.name (k.kind == 0)).2 (freshK v u (wantS v k.name (k.kind == 0)).1 (wantS v k.name (k.kind == 0)).2)
/-- The names in use after the children. The last one ahead. -/
def usedOf (v : Int) (ks : List NV) : List (List UInt8) := ks.foldl (fun u k => pickN v u k :: u) []
def namesA (v : Int) (ks : List NV) : List (List UInt8) := (usedOf v ks).reverse
theorem usedOf_snoc (v : Int) (ks : List NV) (k : NV) : usedOf v (ks ++ [k]) = pickN v (usedOf v ks) k :: usedOf v ks := by simp [usedOf]
theorem snoc_rec {α : Type} {p : List α → Prop} (h0 : p []) (h1 : ∀ l x, p l → p (l ++ [x])) : ∀ l, p l := by
 intro l
 have : ∀ r : List α, p r.reverse := by
  intro r
  induction r with
  | nil => exact h0
  | cons x r ih => rw [List.reverse_cons]; exact h1 _ _ ih
 have := this l.reverse
 rwa [List.reverse_reverse] at this
theorem usedOf_len (v : Int) (ks : List NV) : (usedOf v ks).length = ks.length := by
 refine snoc_rec (p := fun ks => (usedOf v ks).length = ks.length) rfl (fun l x ih => ?_) ks
 rw [usedOf_snoc]; simp [ih]
theorem pick_notin (v : Int) (u : List (List UInt8)) (k : NV) (hu : u.length ≤ 64) : pickN v u k ∉ u := (fresh_ok v u _ _ hu).2.1
theorem usedOf_nodup (v : Int) (ks : List NV) : ks.length ≤ 64 → (usedOf v ks).Nodup := by
 refine snoc_rec (p := fun ks => ks.length ≤ 64 → (usedOf v ks).Nodup) (fun _ => List.nodup_nil) (fun l x ih hl => ?_) ks
 simp only [List.length_append, List.length_cons, List.length_nil] at hl
 rw [usedOf_snoc, List.nodup_cons]
 exact ⟨pick_notin v _ x (by rw [usedOf_len]; omega), ih (by omega)⟩
theorem enc_len (r : Int) : (Utf8.encode r).data.toList.length ≤ 4 := by
 unfold Utf8.encode
 dsimp only
 generalize (if Utf8.valid r = true then r.toNat else Utf8.runeError) = c
 split
 ·simp
 ·split
  ·simp
  ·split <;> simp
theorem runesB_len : ∀ l : List Int, (runesB l).length ≤ 4 * l.length
 | [] => by simp [runesB]
 | r :: l => by
  have e : runesB (r :: l) = (Utf8.encode r).data.toList ++ runesB l := by simp [runesB]
  have := enc_len r; have := runesB_len l
  rw [e, List.length_append, List.length_cons]; omega
theorem most_le (v : Int) : mostC v ≤ 64 := by unfold mostC; split <;> omega
theorem numS_len {v : Int} {st ex : List Int} {k : Nat} (hk : k < 100) (hex : ex.length ≤ 65) : (numS v st ex k).length ≤ 1100 := by
 have h1 := runesB_len (st.take (stemN v st ex k) ++ sufI k ++ ex)
 have h2 := sufI_len hk
 have h3 : stemN v st ex k ≤ 64 := by
  have hr : roomI v ex k ≤ 64 := by unfold roomI; cases (v == 1) <;> simp only [cond_true, cond_false] <;> omega
  unfold stemN
  generalize roomI v ex k = R at *
  split <;> split <;> omega
 have h4 : (st.take (stemN v st ex k)).length ≤ 64 := by simp; omega
 have h5 : (st.take (stemN v st ex k) ++ sufI k ++ ex).length ≤ 131 := by
  rw [List.length_append, List.length_append]; omega
 show (runesB _).length ≤ _
 omega
theorem want_len (v : Int) (s : List UInt8) (d : Bool) : (wantS v s d).2.length ≤ 65 ∧ (wantS v s d).1.length ≤ s.length ∧ (wantS v s d).2.length ≤ s.length + 1 := by
 have h := cutS_len v s d
 have h1 := runesI_len (cutS v s d).1
 have h2 := runesI_len (cutS v s d).2
 have h3 := most_le v
 unfold wantS
 refine ⟨?_, by simp; omega, ?_⟩
 ·dsimp only; split
  ·simp
  ·simp; omega
 ·dsimp only; split
  ·simp
  ·simp; omega
theorem pick_len (v : Int) (u : List (List UInt8)) (k : NV) (hu : u.length ≤ 64) : (pickN v u k).length ≤ 1100 :=
 numS_len (fresh_ok v u _ _ hu).1 (want_len v _ _).1
theorem usedOf_short (v : Int) (ks : List NV) : ks.length ≤ 64 → ∀ m ∈ usedOf v ks, m.length ≤ 1100 := by
 refine snoc_rec (p := fun ks => ks.length ≤ 64 → ∀ m ∈ usedOf v ks, m.length ≤ 1100) (fun _ m hm => by cases hm) (fun l x ih hl => ?_) ks
 simp only [List.length_append, List.length_cons, List.length_nil] at hl
 rw [usedOf_snoc]
 intro m hm
 rcases List.mem_cons.1 hm with rfl | hm
 ·exact pick_len v _ x (by rw [usedOf_len]; omega)
 ·exact ih (by omega) m hm
theorem usedOf_take {v : Int} {ks : List NV} {t : Nat} (h : t < ks.length) : usedOf v (ks.take (t + 1)) = pickN v (usedOf v (ks.take t)) ks[t] :: usedOf v (ks.take t) := by
 rw [List.take_succ_eq_append_getElem h, usedOf_snoc]
theorem strs_setA {v : Int} {kids : List NV} {t : Nat} (h : t < kids.length) (z : D) : (strs (usedOf v (kids.take t)).reverse ++ List.replicate (kids.length - t) z).set t (.str (pickN v (usedOf v (kids.take t)) kids[t])) = strs (usedOf v (kids.take (t + 1))).reverse ++ List.replicate (kids.length - (t + 1)) z := by
 rw [usedOf_take h]
 have hl : (strs (usedOf v (kids.take t)).reverse).length = t := by simp [strs, usedOf_len]; omega
 rw [List.set_append_right _ _ (by omega), hl, Nat.sub_self, show kids.length - t = (kids.length - (t + 1)) + 1 by omega, List.replicate_succ]
 simp [strs]
end Go.Tame.V
/- Contracts: Names at the views that make names. By program (mk42.py, mk.py). -/
namespace Go.Tame.V
open Go Go.Proofs
variable {W0 : World}
set_option maxRecDepth 10000
set_option linter.unusedVariables false
set_option linter.unusedSimpArgs false

theorem F105a (hL : LibOk W0) (v : Int) (hv : v = 0 ∨ v = 1) (kids : List NV) (h64 : kids.length ≤ 64) (hok : ∀ k ∈ kids, nameOk k.name = true ∧ k.name.length < 1000000000) (hinc : inc kids) : DFun Tryz.prog W0 29 [.int .i64 v, .sl .none 12 (kids.map enc)] (.tup [.sl .none 1 (strs (namesA v kids)), .int .i64 0]) := by
 refine DFun.intro ti_ok Tryz.func29 rfl (by decide +kernel) Tryz.ntmps29 rfl fun Γ => ?_
 refine Tri.seq ?_
 refine Tri.region ti_ok ?_
 conv => whnf
 intro bk
 conv => whnf
 refine Tri.seq ?_
 refine Tri.seq ?_
 refine Tri.region ti_ok ?_
 conv => whnf
 refine ⟨[.int .i64 v], _, fun _ => F91 v, ⟨.refl _, trivial⟩, ?_⟩
 conv => whnf
 refine Tri.cond _ rfl (fun hc => ?_) (fun hc => ?_)
 ·refine Tri.seq ?_
  refine Tri.region ti_ok ?_
  conv => whnf
  refine Tri.ret ?_
  conv => whnf
  exfalso
  have : viewOk v = true := by rcases hv with rfl | rfl <;> rfl
  rw [this] at hc; cases hc
 ·refine Tri.skip ?_
  conv => whnf
  refine Tri.seq ?_
  refine Tri.seq ?_
  refine Tri.region ti_ok ?_
  conv => whnf
  refine ⟨rfl, ?_⟩
  conv => whnf
  refine Tri.cond _ rfl (fun hc => ?_) (fun hc => ?_)
  ·refine Tri.seq ?_
   refine Tri.region ti_ok ?_
   conv => whnf
   refine Tri.ret ?_
   conv => whnf
   exfalso
   simp at hc; omega
  ·refine Tri.skip ?_
   conv => whnf
   refine Tri.seq ?_
   refine Tri.regionX ti_ok ?_
   conv => whnf
   refine .inl ?_
   conv => whnf
   refine ⟨rfl, ?_⟩
   conv => whnf
   refine .inr (XOp.makeRow ti_ok (n := kids.length) (k1 := .i64) (k2 := .i64) (z := .int .i64 0) rfl rfl rfl rfl rfl ?_ ?_ (by show 8 * _ ≤ _; omega) (by omega) fun rv => ?_)
   ·show D.int _ _ = _; simp
   ·show D.int _ _ = _; simp
   conv => whnf
   refine Tri.seq ?_
   refine Tri.seq ?_
   refine Tri.region ti_ok ?_
   conv => whnf
   refine ⟨rfl, ?_⟩
   conv => whnf
   refine Tri.block ?_
   refine Tri.loopK (α := { i : Nat // i ≤ kids.length }) (fun x => [(0, .int .i64 v), (3, .box 3 bk 0), (6, .raw rv), (25, .sl .none 12 (kids.map enc)), (26, .int .i64 (kids.map enc).length), (27, .int .i64 x.1)])
    (fun x => [(24, .row rv (places x.1 ++ List.replicate (kids.length - x.1) (.int .i64 0)) 1 3), (3, .box bk [.sl .none 12 (kids.map enc)])]) (fun x => kids.length - x.1) ⟨0, by omega⟩ [(24, 24), (3, 3)]
    ⟨⟨.refl _, .refl _, .refl _, .refl _, .refl _, .refl _, trivial⟩, rfl, rfl, rfl, rfl, rfl, trivial⟩ ?_
   rintro ⟨i, hi⟩
   dsimp only
   refine Tri.seq ?_
   refine Tri.region ti_ok ?_
   conv => whnf
   refine Tri.seq ?_
   refine Tri.cond _ rfl (fun hc => ?_) (fun hc => ?_)
   ·refine Tri.skip ?_
    conv => whnf
    have hia : i < kids.length := by simpa using hc
    have hpl : (places i).length = i := by simp [places]
    refine Tri.seq ?_
    refine Tri.block ?_
    refine Tri.seq ?_
    refine Tri.region ti_ok ?_
    conv => whnf
    refine ⟨fun _ => by simp; omega, ?_⟩
    conv => whnf
    refine ⟨encTop kids[i], fun _ => get_kids hia, ?_⟩
    conv => whnf
    intro b8
    conv => whnf
    refine ⟨rfl, ?_⟩
    conv => whnf
    refine Tri.seq ?_
    refine Tri.seq ?_
    refine Tri.region ti_ok ?_
    conv => whnf
    refine ⟨rfl, ?_⟩
    conv => whnf
    refine ⟨[.str kids[i].name], _, fun _ => F100 hL _ (hok _ (List.getElem_mem hia)).2, ⟨.refl _, trivial⟩, ?_⟩
    conv => whnf
    refine Tri.cond _ rfl (fun hc => ?_) (fun hc => ?_)
    ·refine Tri.seq ?_
     refine Tri.region ti_ok ?_
     conv => whnf
     refine Tri.ret ?_
     conv => whnf
     exfalso
     rw [(hok _ (List.getElem_mem hia)).1] at hc; cases hc
    ·refine Tri.skip ?_
     conv => whnf
     refine Tri.regionX ti_ok ?_
     conv => whnf
     refine .inr (XOp.rowIndex ti_ok 24 rfl rfl rfl rfl rfl rfl rfl (by omega) (by simp [hpl]; omega) ?_)
     conv => whnf
     conv => whnf
     refine .inr (XOp.rowStore ti_ok 24 (i := i) (by rw [Int.toNat_natCast]; rfl) rfl rfl rfl (by simp [hpl]; omega) rfl ?_)
     conv => whnf
     conv => whnf
     refine Tri.region ti_ok ?_
     conv => whnf
     refine .inl ⟨fun _ => by simp [InR]; omega, ?_⟩
     conv => whnf
     exact ⟨⟨i + 1, by omega⟩, [(24, 24), (3, 3)], by show _ - (i + 1) < _ - i; omega, ⟨.refl _, .refl _, .refl _, .refl _, .refl _, .refl _, trivial⟩, rfl, rfl, congrArg (fun z => some (HObj.row rv z 1 3)) (places_set hia _), rfl, rfl, trivial⟩
   ·refine Tri.exit ?_
    conv => whnf
    refine Tri.seq ?_
    have hin : i = kids.length := by simp at hc; omega
    have hrow : places i ++ List.replicate (kids.length - i) (D.int .i64 0) = places kids.length := by subst hin; simp
    rw [hrow]
    refine Tri.regionX ti_ok ?_
    conv => whnf
    refine .inr (XOp.call rfl [.raw rv, .fn (.func 77) [] [.box 2000 bk 0]] [(2001, 24), (2000, 3)] (sort_places kids hinc (by omega) bk rv) rfl ⟨.refl _, DLe.fn trivial ⟨DLe.box, trivial⟩, trivial⟩ ?_)
    rintro d H' ⟨rfl, rfl⟩
    refine ⟨_, .refl _, ?_⟩
    conv => whnf
    refine Tri.forgetK [(6, .raw rv), (0, .int .i64 v), (3, .box 3 bk 0)] [(24, .row rv (places kids.length) 1 3), (3, .box bk [.sl .none 12 (kids.map enc)])] [(24, 24), (3, 3)] ⟨⟨.refl _, .refl _, .refl _, trivial⟩, rfl, rfl, rfl, rfl, rfl, trivial⟩ ?_
    refine Tri.commitSt 24 6 rfl ?_
    refine Tri.seq ?_
    refine Tri.regionX ti_ok ?_
    conv => whnf
    refine .inl ?_
    conv => whnf
    refine ⟨rfl, ?_⟩
    conv => whnf
    refine .inr (XOp.makeRow ti_ok (n := kids.length) (k1 := .i64) (k2 := .i64) (z := .str []) rfl rfl rfl rfl rfl ?_ ?_ (by show 16 * _ ≤ _; omega) (by omega) fun nv => ?_)
    ·show D.int _ _ = _; simp
    ·show D.int _ _ = _; simp
    conv => whnf
    refine .inr (XOp.makeMap fun mb => ?_)
    conv => whnf
    refine Tri.seq ?_
    refine Tri.seq ?_
    refine Tri.region ti_ok ?_
    conv => whnf
    refine Tri.block ?_
    refine Tri.loopK (α := { i : Nat // i ≤ kids.length }) (fun x => [(0, .int .i64 v), (3, .box 3 bk 0), (6, .sl .none 1 (places kids.length)), (48, .sl .none 1 (places kids.length)), (49, .int .i64 (places kids.length).length), (50, .int .i64 x.1), (9, .raw nv), (10, .raw (.map (some mb)))])
     (fun x => [(46, .row nv (strs (usedOf v (kids.take x.1)).reverse ++ List.replicate (kids.length - x.1) (.str [])) 1 9), (47, .set mb (usedOf v (kids.take x.1))), (3, .box bk [.sl .none 12 (kids.map enc)])]) (fun x => kids.length - x.1) ⟨0, by omega⟩ [(46, 46), (47, 47), (3, 3)]
     ⟨⟨.refl _, .refl _, .refl _, .refl _, .refl _, .refl _, .refl _, .refl _, trivial⟩, rfl, rfl, rfl, rfl, rfl, rfl, rfl, trivial⟩ ?_
    rintro ⟨t, ht⟩
    dsimp only
    refine Tri.seq ?_
    refine Tri.region ti_ok ?_
    conv => whnf
    refine Tri.seq ?_
    refine Tri.cond _ rfl (fun hc => ?_) (fun hc => ?_)
    ·refine Tri.skip ?_
     conv => whnf
     have hta : t < kids.length := by simp [places] at hc; omega
     have hkd : ∀ j, j < kids.length → (kids.map enc)[j]? = some (encTop (kids.getD j default)) := fun j hj => by rw [get_kids hj]; simp [List.getD, hj]
     refine Tri.seq ?_
     refine Tri.block ?_
     refine Tri.seq ?_
     refine Tri.region ti_ok ?_
     conv => whnf
     refine ⟨fun _ => by simp [places]; omega, ?_⟩
     conv => whnf
     refine ⟨.int .i64 (t : Nat), fun _ => by simp [places, hta], ?_⟩
     conv => whnf
     refine Tri.seq ?_
     refine Tri.seq ?_
     refine Tri.draw ti_ok mixed (by kernel_rfl) ?_
     conv => whnf
     refine ⟨rfl, ?_⟩
     conv => whnf
     refine ⟨fun h => h, ?_⟩
     conv => whnf
     refine .inl ⟨fun h => by simp only [InR]; omega, ?_⟩
     conv => whnf
     refine ⟨fun h => h, ?_⟩
     conv => whnf
     refine ⟨fun h => h, ?_⟩
     conv => whnf
     refine ⟨fun h => by simp at h; simp [places]; omega, ?_⟩
     conv => whnf
     refine ⟨fun h => h, ?_⟩
     conv => whnf
     refine ⟨.int .i64 ((t - 1 : Nat) : Int), fun h => by rw [pred_toNat (by simpa using h)]; simp [places, show t - 1 < kids.length by omega], ?_⟩
     conv => whnf
     refine ⟨fun h => h, ?_⟩
     conv => whnf
     refine ⟨fun h => h, ?_⟩
     conv => whnf
     refine ⟨fun h => by simp; omega, ?_⟩
     conv => whnf
     refine ⟨fun h => h, ?_⟩
     conv => whnf
     refine ⟨fun h => h, ?_⟩
     conv => whnf
     refine ⟨encTop (kids.getD (t - 1) default), fun h => hkd (t - 1) (by omega), ?_⟩
     conv => whnf
     refine ⟨rfl, ?_⟩
     conv => whnf
     refine ⟨fun h => h, ?_⟩
     conv => whnf
     refine ⟨fun h => h, ?_⟩
     conv => whnf
     refine ⟨fun h => by simp; omega, ?_⟩
     conv => whnf
     refine ⟨fun h => h, ?_⟩
     conv => whnf
     refine ⟨fun h => h, ?_⟩
     conv => whnf
     refine ⟨encTop kids[t], fun h => get_kids hta, ?_⟩
     conv => whnf
     refine ⟨fun h => h, ?_⟩
     conv => whnf
     refine ⟨fun h => h, ?_⟩
     conv => whnf
     refine ⟨fun h0 h => by first | exact h | (rw [h]; rfl) | (rw [h0, h]; rfl), ?_⟩
     conv => whnf
     refine Tri.cond _ rfl (fun hc => ?_) (fun hc => ?_)
     ·refine Tri.seq ?_
      refine Tri.region ti_ok ?_
      conv => whnf
      refine Tri.ret ?_
      conv => whnf
      exfalso
      cases h0 : decide ((0 : Int) < t) with
      | false => rw [h0] at hc; cases hc
      | true =>
       have ht0 : 0 < t := by simpa using h0
       have hne := bl_ne (inc_get hinc (show t - 1 < t by omega) hta)
       rw [h0] at hc
       have hc2 : ((kids.getD (t - 1) default).name == kids[t].name) = true := hc
       have : (kids.getD (t - 1) default).name = kids[t].name := by simpa using hc2
       apply hne
       rw [← this]; simp [List.getD, show t - 1 < kids.length by omega]
     ·refine Tri.skip ?_
      conv => whnf
      refine Tri.seq ?_
      refine Tri.region ti_ok ?_
      conv => whnf
      refine ⟨rfl, ?_⟩
      conv => whnf
      refine ⟨fun _ => by simp; omega, ?_⟩
      conv => whnf
      refine ⟨encTop kids[t], fun _ => get_kids hta, ?_⟩
      conv => whnf
      refine Tri.seq ?_
      refine Tri.seq ?_
      refine Tri.region ti_ok ?_
      conv => whnf
      refine ⟨fun h => h, ?_⟩
      conv => whnf
      refine ⟨fun h0 h => by first | exact h | (rw [h]; rfl) | (rw [h0, h]; rfl), ?_⟩
      conv => whnf
      refine Tri.cond _ rfl (fun hc => ?_) (fun hc => ?_)
      ·refine Tri.seq ?_
       have hnl := name_len (hok _ (List.getElem_mem hta)).1
       obtain ⟨l, hl, _, _, _, _⟩ := name_chars (hok _ (List.getElem_mem hta)).1
       have hcalled := F125 (W0 := W0) v kids[t].name l (kids[t].kind == 0) (by omega) hl
       have hwl := want_len v kids[t].name (kids[t].kind == 0)
       have hpk : pickN v (usedOf v (kids.take t)) kids[t] = numS v (wantS v kids[t].name (kids[t].kind == 0)).1 (wantS v kids[t].name (kids[t].kind == 0)).2 (freshK v (usedOf v (kids.take t)) (wantS v kids[t].name (kids[t].kind == 0)).1 (wantS v kids[t].name (kids[t].kind == 0)).2) := rfl
       have hus := usedOf_take (v := v) hta
       have hset := strs_setA (v := v) hta (.str [])
       have hfr := fresh_ok v (usedOf v (kids.take t)) (wantS v kids[t].name (kids[t].kind == 0)).1 (wantS v kids[t].name (kids[t].kind == 0)).2 (by rw [usedOf_len]; simp; omega)
       generalize (wantS v kids[t].name (kids[t].kind == 0)).1 = st at *
       generalize (wantS v kids[t].name (kids[t].kind == 0)).2 = ex at *
       have hUl : (usedOf v (kids.take t)).length = t := by rw [usedOf_len]; simp; omega
       generalize usedOf v (kids.take t) = U at *
       generalize hK : freshK v U st ex = K at *
       refine Tri.region ti_ok ?_
       conv => whnf
       refine ⟨rfl, ?_⟩
       conv => whnf
       refine ⟨fun _ => by simp; omega, ?_⟩
       conv => whnf
       refine ⟨encTop kids[t], fun _ => get_kids hta, ?_⟩
       conv => whnf
       refine ⟨[.int .i64 v, .str kids[t].name, .bool (kids[t].kind == 0)], _, fun _ => hcalled, ⟨.refl _, .refl _, .refl _, trivial⟩, ?_⟩
       conv => whnf
       intro b14
       conv => whnf
       refine ⟨rfl, ?_⟩
       conv => whnf
       refine Tri.seq ?_
       refine Tri.region ti_ok ?_
       conv => whnf
       refine ⟨rfl, ?_⟩
       conv => whnf
       refine ⟨[wantD st ex, .int .i64 v, .int .i64 (0 : Nat)], _, fun _ => F126 v st ex 0 (by omega) (by omega) (by omega), ⟨.refl _, .refl _, .refl _, trivial⟩, ?_⟩
       conv => whnf
       refine Tri.seq ?_
       refine Tri.region ti_ok ?_
       conv => whnf
       refine Tri.block ?_
       refine Tri.loopK (α := { j : Nat // j ≤ K }) (fun x => [(0, .int .i64 v), (3, .box 3 bk 0), (6, .sl .none 1 (places kids.length)), (48, .sl .none 1 (places kids.length)), (49, .int .i64 (places kids.length).length), (50, .int .i64 t), (9, .raw nv), (10, .raw (.map (some mb))), (12, .int .i64 t), (13, .str (numS v st ex x.1)), (14, .box 14 b14 0), (15, .int .i64 ((x.1 + 1 : Nat) : Int))])
        (fun x => [(46, .row nv (strs U.reverse ++ List.replicate (kids.length - t) (.str [])) 1 9), (47, .set mb U), (3, .box bk [.sl .none 12 (kids.map enc)]), (14, .box b14 [.sl .none 1 (ints32 st), .sl .none 1 (ints32 ex)])]) (fun x => K - x.1) ⟨0, by omega⟩ [(46, 46), (47, 47), (3, 3), (14, 14)]
        ⟨⟨.refl _, .refl _, .refl _, .refl _, .refl _, .refl _, .refl _, .refl _, .refl _, .refl _, .refl _, .refl _, trivial⟩, rfl, rfl, rfl, rfl, rfl, rfl, rfl, rfl, rfl, trivial⟩ ?_
       rintro ⟨j, hj⟩
       dsimp only
       refine Tri.seq ?_
       refine Tri.seq ?_
       refine Tri.regionX ti_ok ?_
       conv => whnf
       refine .inr (XOp.setLookup 47 (kt := 9) (et := 4) rfl rfl (fun w => rfl) rfl rfl rfl ?_)
       refine Tri.cond _ rfl (fun hc => ?_) (fun hc => ?_)
       ·refine Tri.skip ?_
        conv => whnf
        refine Tri.seq ?_
        refine Tri.block ?_
        refine Tri.region ti_ok ?_
        have hjU : numS v st ex j ∈ U := of_decide_eq_true hc
        have hjK : j < K := by
         rcases Nat.lt_or_ge j K with h | h
         ·exact h
         ·have : j = K := by omega
          subst this; exact absurd hjU hfr.2.1
        conv => whnf
        refine ⟨rfl, ?_⟩
        conv => whnf
        refine ⟨[wantD st ex, .int .i64 v, .int .i64 ((j + 1 : Nat) : Int)], _, fun _ => F126 v st ex (j + 1) (by omega) (by omega) (by omega), ⟨.refl _, .refl _, .refl _, trivial⟩, ?_⟩
        conv => whnf
        refine Tri.region ti_ok ?_
        conv => whnf
        refine .inl ⟨fun _ => by simp only [InR]; omega, ?_⟩
        conv => whnf
        exact ⟨⟨j + 1, by omega⟩, [(46, 46), (47, 47), (3, 3), (14, 14)], by show K - (j + 1) < K - j; omega, ⟨.refl _, .refl _, .refl _, .refl _, .refl _, .refl _, .refl _, .refl _, .refl _, .refl _, .refl _, .refl _, trivial⟩, rfl, rfl, rfl, rfl, rfl, rfl, rfl, rfl, rfl, trivial⟩
       ·refine Tri.exit ?_
        conv => whnf
        refine Tri.regionX ti_ok ?_
        have hjU : numS v st ex j ∉ U := of_decide_eq_false hc
        have hjK : j = K := by
         rcases Nat.lt_or_ge j K with h | h
         ·exact absurd (hfr.2.2 j h) hjU
         ·omega
        subst hjK
        conv => whnf
        refine .inr (XOp.setUpdate 47 (kt := 9) (et := 4) rfl rfl rfl rfl rfl rfl ?_)
        conv => whnf
        refine .inr (XOp.rowIndex ti_ok 46 rfl rfl rfl rfl rfl rfl rfl (by omega) (by simp [strs, hUl]; omega) ?_)
        conv => whnf
        conv => whnf
        refine .inr (XOp.rowStore ti_ok 46 (i := t) (by rw [Int.toNat_natCast]; rfl) rfl rfl rfl (by simp [strs, hUl]; omega) rfl ?_)
        conv => whnf
        conv => whnf
        refine Tri.region ti_ok ?_
        conv => whnf
        refine .inl ⟨fun _ => by simp only [InR]; omega, ?_⟩
        conv => whnf
        exact ⟨⟨t + 1, by omega⟩, [(46, 46), (47, 47), (3, 3)], by show _ - (t + 1) < _ - t; omega, ⟨.refl _, .refl _, .refl _, .refl _, .refl _, .refl _, .refl _, .refl _, trivial⟩, rfl, rfl, congrArg (fun z => some (HObj.row nv z 1 9)) (by rw [← hpk]; exact hset), rfl,
         congrArg (fun z => some (HObj.set mb z)) (by dsimp only; rw [hus, hpk]), rfl, rfl, trivial⟩
      ·refine Tri.skip ?_
       conv => whnf
       exfalso
       rcases hv with rfl | rfl <;> cases hc
    ·refine Tri.exit ?_
     conv => whnf
     have htn : t = kids.length := by simp [places] at hc; omega
     have hrow2 : strs (usedOf v (kids.take t)).reverse ++ List.replicate (kids.length - t) (D.str []) = strs (namesA v kids) := by
      subst htn; rw [List.take_of_length_le (Nat.le_refl _)]; simp [namesA]
     rw [hrow2]
     refine Tri.forgetK [(9, .raw nv)] [(46, .row nv (strs (namesA v kids)) 1 9)] [(46, 46)] ⟨⟨.refl _, trivial⟩, rfl, rfl, rfl, trivial⟩ ?_
     refine Tri.commitSt 46 9 rfl ?_
     refine Tri.seq ?_
     refine Tri.region ti_ok ?_
     conv => whnf
     refine Tri.ret ?_
     conv => whnf
     exact ⟨.refl _, .refl _, trivial⟩
theorem names01 (hL : LibOk W0) {v : Int} (hv : v = 0 ∨ v = 1) : NamesOk W0 v (namesA v) :=
 ⟨fun ks h64 hinc hok => ⟨F105a hL v hv ks h64 hok hinc, by simp [namesA, usedOf_len], by
  rw [namesA, List.nodup_iff_pairwise_ne, List.pairwise_reverse]; exact (List.nodup_iff_pairwise_ne.1 (usedOf_nodup v ks h64)).imp Ne.symm, fun m hm => usedOf_short v ks h64 m (List.mem_reverse.1 hm)⟩⟩
end Go.Tame.V
/- Contracts: the other way of names: characters. By program (mk.py). -/
namespace Go.Tame.V
open Go Go.Proofs
variable {W0 : World}
set_option maxRecDepth 10000
set_option linter.unusedVariables false
set_option linter.unusedSimpArgs false

theorem F179 (c : Int) : DFun Tryz.prog W0 255 [.int .u8 c] (.bool (dB c)) := by
 refine DFun.intro ti_ok Tryz.func255 rfl (by decide +kernel) Tryz.ntmps255 rfl fun Γ => ?_
 refine Tri.seq ?_
 refine Tri.region ti_ok ?_
 conv => whnf
 refine Tri.seq ?_
 refine Tri.region ti_ok ?_
 conv => whnf
 refine ⟨fun h => h, ?_⟩
 conv => whnf
 refine ⟨fun h0 h => by first | exact h | (rw [h]; rfl) | (rw [h0, h]; rfl), ?_⟩
 conv => whnf
 refine ⟨fun h => h, ?_⟩
 conv => whnf
 refine ⟨fun h => h, ?_⟩
 conv => whnf
 refine ⟨fun h => h, ?_⟩
 conv => whnf
 refine ⟨fun h => h, ?_⟩
 conv => whnf
 refine ⟨fun h0 h => by first | exact h | (rw [h]; rfl) | (rw [h0, h]; rfl), ?_⟩
 conv => whnf
 refine ⟨fun h0 h => by first | exact h | (rw [h]; rfl) | (rw [h0, h]; rfl), ?_⟩
 conv => whnf
 refine ⟨fun h => h, ?_⟩
 conv => whnf
 refine ⟨fun h0 h => by first | exact h | (rw [h]; rfl) | (rw [h0, h]; rfl), ?_⟩
 conv => whnf
 refine Tri.ret ?_
 conv => whnf
 exact DLe.of_eq (congrArg D.bool (by simp only [bif_and, bif_or]; rfl))
theorem F180 (r : Int) : DFun Tryz.prog W0 198 [.int .i64 r] (.bool (special r)) := by
 refine DFun.intro ti_ok Tryz.func198 rfl (by decide +kernel) Tryz.ntmps198 rfl fun Γ => ?_
 refine Tri.seq ?_
 refine Tri.region ti_ok ?_
 conv => whnf
 refine Tri.seq ?_
 refine Tri.region ti_ok ?_
 conv => whnf
 refine ⟨fun h => h, ?_⟩
 conv => whnf
 refine ⟨fun h0 h => by first | exact h | (rw [h]; rfl) | (rw [h0, h]; rfl), ?_⟩
 conv => whnf
 refine ⟨fun h => h, ?_⟩
 conv => whnf
 refine ⟨fun h0 h => by first | exact h | (rw [h]; rfl) | (rw [h0, h]; rfl), ?_⟩
 conv => whnf
 refine ⟨fun h => h, ?_⟩
 conv => whnf
 refine ⟨fun h0 h => by first | exact h | (rw [h]; rfl) | (rw [h0, h]; rfl), ?_⟩
 conv => whnf
 refine ⟨fun h => h, ?_⟩
 conv => whnf
 refine ⟨fun h0 h => by first | exact h | (rw [h]; rfl) | (rw [h0, h]; rfl), ?_⟩
 conv => whnf
 refine ⟨fun h => h, ?_⟩
 conv => whnf
 refine ⟨fun h0 h => by first | exact h | (rw [h]; rfl) | (rw [h0, h]; rfl), ?_⟩
 conv => whnf
 refine Tri.ret ?_
 conv => whnf
 exact DLe.of_eq (congrArg D.bool (by simp only [bif_and, bif_or]; rfl))
theorem jolC_char {r : Int} (h : isChar r = true) : isChar (jolC r) = true := by
 unfold jolC; split
 ·decide
 ·exact h
theorem isoC_char {r : Int} (h : isChar r = true) : isChar (isoC r) = true := by
 obtain ⟨h1, h2, h3⟩ := (isChar_iff r).1 h
 unfold isoC; split
 ·exact (isChar_iff _).2 ⟨by omega, by omega, by omega⟩
 ·split
  ·exact h
  ·decide
theorem mapC_char {v r : Int} (h : isChar r = true) : isChar (mapC v r) = true := by
 unfold mapC; split
 ·exact isoC_char h
 ·exact jolC_char h
theorem F157 (v r : Int) (h : isChar r = true) : DFun Tryz.prog W0 254 [.int .i64 v, .int .i64 r] (.int .i64 (mapC v r)) := by
 obtain ⟨q1, q2, q3⟩ := (isChar_iff r).1 h
 refine DFun.intro ti_ok Tryz.func254 rfl (by decide +kernel) Tryz.ntmps254 rfl fun Γ => ?_
 refine Tri.seq ?_
 refine Tri.region ti_ok ?_
 conv => whnf
 refine Tri.seq ?_
 refine Tri.seq ?_
 refine Tri.region ti_ok ?_
 conv => whnf
 refine Tri.cond _ rfl (fun hc => ?_) (fun hc => ?_)
 ·refine Tri.seq ?_
  refine Tri.seq ?_
  refine Tri.region ti_ok ?_
  have hv : v = 0 := by simpa using hc
  conv => whnf
  refine ⟨fun h => h, ?_⟩
  conv => whnf
  refine ⟨fun h0 h => by first | exact h | (rw [h]; rfl) | (rw [h0, h]; rfl), ?_⟩
  conv => whnf
  refine Tri.cond _ rfl (fun hc => ?_) (fun hc => ?_)
  ·refine Tri.seq ?_
   refine Tri.region ti_ok ?_
   conv => whnf
   refine .inl ⟨fun _ => by simp only [InR]; omega, ?_⟩
   conv => whnf
   refine .inl ⟨fun _ => by simp only [InR]; omega, ?_⟩
   conv => whnf
   refine Tri.ret ?_
   conv => whnf
   have h97 : 97 ≤ r ∧ r ≤ 122 := by
    rw [bif_and] at hc
    simpa using hc
   exact DLe.of_eq (congrArg (D.int .i64) (by rw [mapC, if_pos hv, isoC, if_pos h97]))
  ·refine Tri.skip ?_
   conv => whnf
   refine Tri.seq ?_
   refine Tri.seq ?_
   refine Tri.region ti_ok ?_
   have h97 : ¬ (97 ≤ r ∧ r ≤ 122) := by
    rw [bif_and] at hc
    simpa using hc
   conv => whnf
   refine ⟨fun h => h, ?_⟩
   conv => whnf
   refine .inr ?_
   conv => whnf
   conv => whnf
   refine ⟨fun h => h, ?_⟩
   conv => whnf
   refine ⟨[.int .u8 (IntKind.u8.wrap r)], .bool (dB r), fun h => by
    have h2 : r < 128 := by simp at h; omega
    rw [wrap_id (by simp only [InR]; omega)]; exact F179 r, ⟨.refl _, trivial⟩, ?_⟩
   conv => whnf
   refine ⟨fun h => h, ?_⟩
   conv => whnf
   refine ⟨fun h0 h => by first | exact h | (rw [h]; rfl) | (rw [h0, h]; rfl), ?_⟩
   conv => whnf
   refine Tri.cond _ rfl (fun hc => ?_) (fun hc => ?_)
   ·refine Tri.seq ?_
    refine Tri.region ti_ok ?_
    conv => whnf
    refine Tri.ret ?_
    conv => whnf
    have h2 : ¬ (r < 128 ∧ dB r = true) := by
     rw [bif_or] at hc
     simp at hc
     intro ⟨h3, h4⟩
     rw [h4] at hc; simp at hc; omega
    exact DLe.of_eq (congrArg (D.int .i64) (by rw [mapC, if_pos hv, isoC, if_neg h97, if_neg h2]))
   ·refine Tri.skip ?_
    conv => whnf
    refine Tri.seq ?_
    refine Tri.region ti_ok ?_
    conv => whnf
    refine Tri.ret ?_
    conv => whnf
    have h2 : r < 128 ∧ dB r = true := by
     rw [bif_or] at hc
     simp at hc
     exact ⟨by omega, hc.2⟩
    exact DLe.of_eq (congrArg (D.int .i64) (by rw [mapC, if_pos hv, isoC, if_neg h97, if_pos h2]))
 ·refine Tri.skip ?_
  conv => whnf
  refine Tri.seq ?_
  refine Tri.seq ?_
  refine Tri.region ti_ok ?_
  have hv : ¬ v = 0 := by simpa using hc
  conv => whnf
  refine ⟨[.int .i64 r], _, fun _ => F180 r, ⟨.refl _, trivial⟩, ?_⟩
  conv => whnf
  refine Tri.cond _ rfl (fun hc => ?_) (fun hc => ?_)
  ·refine Tri.seq ?_
   refine Tri.region ti_ok ?_
   conv => whnf
   refine Tri.ret ?_
   conv => whnf
   exact DLe.of_eq (congrArg (D.int .i64) (by rw [mapC, if_neg hv, jolC, if_pos hc]))
  ·refine Tri.skip ?_
   conv => whnf
   refine Tri.seq ?_
   refine Tri.region ti_ok ?_
   conv => whnf
   refine Tri.ret ?_
   conv => whnf
   exact DLe.of_eq (congrArg (D.int .i64) (by rw [mapC, if_neg hv, jolC, if_neg (by rw [hc]; simp)]))
theorem F131 (v : Int) (l : List Int) (hl : l.length ≤ 1000000) (h : ∀ r ∈ l, isChar r = true) : DFun Tryz.prog W0 231 [.int .i64 v, .sl .none 1 (encInts .i64 l)] (.sl .none 1 (encInts .i64 (l.map (mapC v)))) := by
 refine DFun.intro ti_ok Tryz.func231 rfl (by decide +kernel) Tryz.ntmps231 rfl fun Γ => ?_
 refine Tri.seq ?_
 refine Tri.region ti_ok ?_
 conv => whnf
 refine Tri.seq ?_
 refine Tri.region ti_ok ?_
 conv => whnf
 refine ⟨trivial, ?_⟩
 conv => whnf
 refine Tri.seq ?_
 refine Tri.seq ?_
 refine Tri.region ti_ok ?_
 skip
 conv => whnf
 refine Tri.block ?_
 refine Tri.own 5 1000 1 3 rfl (fun w => ?_)
 refine Tri.loopK (α := { i : Nat // i ≤ l.length } × Value) (fun x => [(0, .int .i64 v), (1, .sl .none 1 (encInts .i64 l)), (5, .sl (.own 1000 x.2) 1 (encInts .i64 ((l.take x.1).map (mapC v)))), (6, .int .i64 x.1.1)])
  (fun x => [(1000, .own x.2 (encInts .i64 ((l.take x.1).map (mapC v))).length 1 3)]) (fun x => l.length - x.1) (⟨0, by omega⟩, w) [(1000, 1000)]
  ⟨⟨.refl _, .refl _, .refl _, .refl _, trivial⟩, rfl, rfl, rfl, trivial⟩ ?_
 rintro ⟨⟨i, hi⟩, w⟩
 dsimp only
 refine Tri.seq ?_
 refine Tri.seq ?_
 refine Tri.region ti_ok ?_
 conv => whnf
 refine Tri.cond _ rfl (fun hc => ?_) (fun hc => ?_)
 skip
 ·refine Tri.skip ?_
  conv => whnf
  refine Tri.seq ?_
  refine Tri.block ?_
  refine Tri.region ti_ok ?_
  have hia : i < l.length := by simpa [encInts] using hc
  conv => whnf
  refine ⟨fun _ => by simp [encInts]; omega, ?_⟩
  conv => whnf
  refine ⟨.int .i64 l[i], fun _ => by simp [encInts, hia], ?_⟩
  conv => whnf
  refine ⟨[.int .i64 v, .int .i64 l[i]], _, fun _ => F157 v l[i] (h _ (List.getElem_mem hia)), ⟨.refl _, .refl _, trivial⟩, ?_⟩
  conv => whnf
  refine ⟨trivial, ?_⟩
  conv => whnf
  refine ⟨rfl, rfl, ?_⟩
  conv => whnf
  refine ⟨by show (_ + 1) * 8 ≤ _; simp [encInts]; omega, by show _ + 1 ≤ _; simp [encInts]; omega, (fun h => by cases h), fun w => ?_⟩
  conv => whnf
  refine Tri.region ti_ok ?_
  conv => whnf
  refine .inl ⟨fun _ => by simp only [InR]; omega, ?_⟩
  conv => whnf
  exact ⟨(⟨i + 1, by omega⟩, w), [(1000, 22)], by show l.length - (i + 1) < l.length - i; omega, ⟨.refl _, .refl _, DLe.ownEq (by simp only [encInts, List.take_succ_eq_append_getElem hia, List.map_append, List.map_cons, List.map_nil, List.length_append, List.length_cons, List.length_nil]; rfl), .refl _, trivial⟩, rfl, rfl, ownH (by simp only [encInts, List.take_succ_eq_append_getElem hia, List.map_append, List.map_cons, List.map_nil, List.length_append, List.length_cons, List.length_nil]), trivial⟩
 ·refine Tri.exit ?_
  conv => whnf
  refine Tri.seq ?_
  refine Tri.region ti_ok ?_
  have hin : i = l.length := by simp [encInts] at hc; omega
  subst hin
  rw [List.take_of_length_le (Nat.le_refl _)]
  conv => whnf
  refine Tri.ret ?_
  conv => whnf
  exact DLe.unown
end Go.Tame.V
/- Contracts: the other way of names: text, first, decimal. By program (mk.py). -/
namespace Go.Tame.V
open Go Go.Proofs
variable {W0 : World}
set_option maxRecDepth 10000
set_option linter.unusedVariables false
set_option linter.unusedSimpArgs false

theorem enc17_char {r : Int} (h : isChar r = true) : enc17s r = (Utf8.encode r).data.toList := by
 obtain ⟨h1, h2, h3⟩ := (isChar_iff r).1 h
 obtain ⟨n, rfl⟩ : ∃ n : Nat, r = n := ⟨r.toNat, by omega⟩
 have hv : Utf8.valid (n : Int) = true := by simp [Utf8.valid]; omega
 have e1 := tdiv_eq (v := (n : Int)) (k := 64) (by omega) (by omega)
 have e2 := tmod_eq (v := (n : Int)) (k := 64) (by omega)
 have e3 := tdiv_eq (v := (n : Int)) (k := 4096) (by omega) (by omega)
 have e4 := tmod_eq (v := (n : Int).tdiv 64) (k := 64) (by omega)
 unfold enc17s enc17 Utf8.encode
 simp only [hv, if_true, Int.toNat_natCast]
 by_cases h128 : n < 128
 ·rw [if_pos (by omega), if_pos h128]; simp [u8i]
 ·rw [if_neg (by omega), if_neg h128]
  by_cases h2048 : n < 2048
  ·rw [if_pos (by omega), if_pos h2048, e1, e2]
   simp only [List.map_cons, List.map_nil, u8i]
   rw [show (192 + (n : Int) / 64).toNat = 192 + n / 64 by omega, show (128 + (n : Int) % 64).toNat = 128 + n % 64 by omega]
  ·rw [if_neg (by omega), if_neg h2048, if_pos (by omega), e4, e1, e2, e3]
   simp only [List.map_cons, List.map_nil, u8i]
   rw [show (224 + (n : Int) / 4096).toNat = 224 + n / 4096 by omega, show (128 + (n : Int) / 64 % 64).toNat = 128 + n / 64 % 64 by omega, show (128 + (n : Int) % 64).toNat = 128 + n % 64 by omega]
def bsD (bs : List UInt8) : List D := bs.map fun c => D.int .u8 c.toNat
theorem runesB_snoc (l : List Int) (r : Int) : runesB (l ++ [r]) = runesB l ++ (Utf8.encode r).data.toList := by rw [runesB_append]; simp [runesB]

theorem F132 (l : List Int) (hl : l.length ≤ 21845) (h : ∀ r ∈ l, isChar r = true) : DFun Tryz.prog W0 232 [.sl .none 1 (encInts .i64 l)] (.tup [.str (runesB l), .int .i64 0]) := by
 refine DFun.intro ti_ok Tryz.func232 rfl (by decide +kernel) Tryz.ntmps232 rfl fun Γ => ?_
 refine Tri.seq ?_
 refine Tri.region ti_ok ?_
 conv => whnf
 refine Tri.seq ?_
 refine Tri.seq ?_
 refine Tri.region ti_ok ?_
 conv => whnf
 refine Tri.cond _ rfl (fun hc => ?_) (fun hc => ?_)
 ·refine Tri.seq ?_
  exfalso
  simp [encInts] at hc; omega
 ·refine Tri.skip ?_
  conv => whnf
  refine Tri.seq ?_
  refine Tri.region ti_ok ?_
  conv => whnf
  refine Tri.seq ?_
  refine Tri.seq ?_
  refine Tri.region ti_ok ?_
  conv => whnf
  refine Tri.block ?_
  refine Tri.own 4 1000 1 5 rfl (fun w => ?_)
  refine Tri.loopK (α := { i : Nat // i ≤ l.length } × Value) (fun x => [(0, .sl .none 1 (encInts .i64 l)), (4, .sl (.own 1000 x.2) 1 (bsD (runesB (l.take x.1)))), (5, .int .i64 x.1.1)])
   (fun x => [(1000, .own x.2 (bsD (runesB (l.take x.1))).length 1 5)]) (fun x => l.length - x.1) (⟨0, by omega⟩, w) [(1000, 1000)]
   ⟨⟨.refl _, .refl _, .refl _, trivial⟩, rfl, rfl, rfl, trivial⟩ ?_
  rintro ⟨⟨i, hi⟩, w⟩
  dsimp only
  refine Tri.seq ?_
  refine Tri.seq ?_
  refine Tri.region ti_ok ?_
  conv => whnf
  refine Tri.cond _ rfl (fun hc => ?_) (fun hc => ?_)
  ·refine Tri.skip ?_
   conv => whnf
   refine Tri.seq ?_
   refine Tri.block ?_
   refine Tri.seq ?_
   refine Tri.seq ?_
   refine Tri.region ti_ok ?_
   have hia : i < l.length := by simpa [encInts] using hc
   have hch := h _ (List.getElem_mem hia)
   obtain ⟨q1, q2, q3⟩ := (isChar_iff _).1 hch
   have hrl := runesB_len (l.take i)
   have htl : (l.take i).length = i := by simp; omega
   have hbl : (bsD (runesB (l.take i))).length = (runesB (l.take i)).length := by simp [bsD]
   have hel := enc_len l[i]
   have he17 := enc17_char hch
   have hsn : bsD (runesB (l.take (i + 1))) = bsD (runesB (l.take i)) ++ bsD (enc17s l[i]) := by
    rw [List.take_succ_eq_append_getElem hia, runesB_snoc, he17]; simp [bsD]
   conv => whnf
   refine ⟨fun _ => by simp [encInts]; omega, ?_⟩
   conv => whnf
   refine ⟨.int .i64 l[i], fun _ => by simp [encInts, hia], ?_⟩
   conv => whnf
   refine ⟨[.int .i64 l[i]], _, fun _ => F155 l[i], ⟨.refl _, trivial⟩, ?_⟩
   conv => whnf
   refine Tri.cond _ rfl (fun hc => ?_) (fun hc => ?_)
   ·refine Tri.seq ?_
    exfalso
    rw [hch] at hc; cases hc
   ·refine Tri.skip ?_
    conv => whnf
    refine Tri.regionX ti_ok ?_
    conv => whnf
    refine .inl ?_
    conv => whnf
    refine ⟨fun _ => by simp [encInts]; omega, ?_⟩
    conv => whnf
    refine .inl ?_
    conv => whnf
    refine ⟨.int .i64 l[i], fun _ => by simp [encInts, hia], ?_⟩
    conv => whnf
    refine .inl ?_
    conv => whnf
    refine ⟨[.int .i64 l[i]], _, fun _ => F156 l[i] (by omega) (by omega), ⟨.refl _, trivial⟩, ?_⟩
    conv => whnf
    refine .inr (XOp.appendStr ti_ok 1000 rfl rfl rfl (fun h => by cases h) rfl rfl rfl rfl rfl (by rw [hbl, he17]; show _ * 1 ≤ _; omega) (by rw [hbl, he17]; omega) fun w => ?_)
    conv => whnf
    refine Tri.region ti_ok ?_
    conv => whnf
    refine .inl ⟨fun _ => by simp only [InR]; omega, ?_⟩
    conv => whnf
    exact ⟨(⟨i + 1, by omega⟩, w), [(1000, 27)], by show l.length - (i + 1) < l.length - i; omega, ⟨.refl _, DLe.ownEq (by rw [hsn]; rfl), .refl _, trivial⟩, rfl, rfl, ownH (by dsimp only; rw [hsn]; simp [bsD]), trivial⟩
  ·refine Tri.exit ?_
   conv => whnf
   refine Tri.seq ?_
   refine Tri.regionX ti_ok ?_
   have hin : i = l.length := by simp [encInts] at hc; omega
   subst hin
   rw [List.take_of_length_le (Nat.le_refl _)]
   conv => whnf
   refine .inr (XOp.bytesStr ti_ok (bs := runesB l) (tg := .own 1000 w) rfl rfl rfl rfl rfl rfl rfl ?_)
   conv => whnf
   refine Tri.ret ?_
   conv => whnf
   exact ⟨.refl _, .refl _, trivial⟩
theorem F117 (l : List Int) (hl : l.length ≤ 21845) (h : ∀ r ∈ l, isChar r = true) : DFun Tryz.prog W0 196 [.sl .none 1 (encInts .i64 l)] (.str (runesB l)) := by
 refine DFun.intro ti_ok Tryz.func196 rfl (by decide +kernel) Tryz.ntmps196 rfl fun Γ => ?_
 refine Tri.seq ?_
 refine Tri.region ti_ok ?_
 conv => whnf
 refine Tri.seq ?_
 refine Tri.region ti_ok ?_
 conv => whnf
 refine ⟨[.sl .none 1 (encInts .i64 l)], _, fun _ => F132 l hl h, ⟨.refl _, trivial⟩, ?_⟩
 conv => whnf
 refine Tri.seq ?_
 refine Tri.region ti_ok ?_
 conv => whnf
 refine Tri.ret ?_
 conv => whnf
 exact .refl _
theorem F116 (l : List Int) (n : Int) : DFun Tryz.prog W0 195 [.sl .none 1 (encInts .i64 l), .int .i64 n] (.sl .none 1 (encInts .i64 (l.take n.toNat))) := by
 refine DFun.intro ti_ok Tryz.func195 rfl (by decide +kernel) Tryz.ntmps195 rfl fun Γ => ?_
 refine Tri.seq ?_
 refine Tri.region ti_ok ?_
 conv => whnf
 refine Tri.seq ?_
 refine Tri.region ti_ok ?_
 conv => whnf
 refine ⟨fun _ => by simp only [encInts, List.length_map]; split <;> split <;> omega, ?_⟩
 conv => whnf
 refine Tri.ret ?_
 conv => whnf
 refine DLe.of_eq (congrArg (D.sl _ 1) ?_)
 simp only [encInts, List.length_map, List.map_take, Int.toNat_zero, List.drop_zero]
 have e : ∀ m : Nat, l.length ≤ m → (l.map (D.int .i64)).take m = l.map (D.int .i64) := fun m hm => List.take_of_length_le (by simpa using hm)
 split
 ·split
  ·rw [e _ (by omega), e n.toNat (by omega)]
  ·show List.take 0 _ = _
   rw [e 0 (by omega), e n.toNat (by omega)]
 ·split
  ·rfl
  ·rw [show n.toNat = 0 by omega]; rfl
theorem F118 (k : Nat) (hk : k < 100) (ih : ∀ j : Nat, j < k → DFun Tryz.prog W0 53 [.int .i64 (j : Nat)] (.str (Lib.decDigits j))) : DFun Tryz.prog W0 53 [.int .i64 (k : Nat)] (.str (Lib.decDigits k)) := by
 refine DFun.intro ti_ok Tryz.func53 rfl (by decide +kernel) Tryz.ntmps53 rfl fun Γ => ?_
 refine Tri.seq ?_
 refine Tri.region ti_ok ?_
 conv => whnf
 refine Tri.seq ?_
 refine Tri.seq ?_
 refine Tri.region ti_ok ?_
 conv => whnf
 refine Tri.cond _ rfl (fun hc => ?_) (fun hc => ?_)
 ·refine Tri.seq ?_
  exfalso
  simp at hc; omega
 ·refine Tri.skip ?_
  conv => whnf
  refine Tri.seq ?_
  refine Tri.seq ?_
  refine Tri.region ti_ok ?_
  conv => whnf
  refine Tri.cond _ rfl (fun hc => ?_) (fun hc => ?_)
  ·refine Tri.seq ?_
   refine Tri.regionX ti_ok ?_
   skip
   conv => whnf
   refine .inl ⟨fun _ => by simp at hc; simp only [InR]; omega, ?_⟩
   conv => whnf
   refine .inl ?_
   conv => whnf
   refine .inl ⟨by simp at hc; simp only [InR]; omega, ?_⟩
   conv => whnf
   refine ⟨trivial, ?_⟩
   conv => whnf
   refine .inr (XOp.bytesStr ti_ok (bs := [u8i (48 + (k : Nat))]) (tg := .full) rfl rfl rfl rfl rfl rfl (congrArg (D.sl .full 1) (u8_row [48 + (k : Nat)] (by simp at hc ⊢; omega))) ?_)
   conv => whnf
   refine Tri.ret ?_
   conv => whnf
   have hk10 : k < 10 := by simp at hc; omega
   refine DLe.of_eq (congrArg D.str ?_)
   rw [Lib.decDigits, dif_pos hk10]
   rfl
  ·refine Tri.skip ?_
   conv => whnf
   refine Tri.seq ?_
   refine Tri.region ti_ok ?_
   have hk10 : 10 ≤ k := by simp at hc; omega
   conv => whnf
   refine ⟨fun _ => by omega, ?_⟩ -- quo
   conv => whnf
   refine .inl ⟨fun _ => by rw [tdiv_eq (by omega) (by omega)]; simp only [InR]; omega, ?_⟩
   conv => whnf
   refine ⟨[.int .i64 ((k / 10 : Nat) : Int)], _, fun _ => ih (k / 10) (by omega), ⟨DLe.of_eq (congrArg (D.int .i64) (by rw [tdiv_eq (by omega) (by omega)]; omega)), trivial⟩, ?_⟩
   conv => whnf
   refine ⟨fun _ => by omega, ?_⟩ -- rem
   conv => whnf
   refine ⟨[.int .i64 ((k % 10 : Nat) : Int)], _, fun _ => ih (k % 10) (by omega), ⟨DLe.of_eq (congrArg (D.int .i64) (by rw [tmod_eq (by omega)]; omega)), trivial⟩, ?_⟩
   conv => whnf
   refine ⟨fun _ => by have := digs_len (k / 10) (by omega); have := digs_len (k % 10) (by omega); omega, ?_⟩
   conv => whnf
   refine Tri.ret ?_
   conv => whnf
   refine DLe.of_eq (congrArg D.str ?_)
   rw [Lib.decDigits.eq_1 (k % 10), dif_pos (by omega), Lib.decDigits.eq_1 k, dif_neg (by omega)]
theorem F118r (k : Nat) (hk : k < 100) : DFun Tryz.prog W0 53 [.int .i64 (k : Nat)] (.str (Lib.decDigits k)) := by
 refine F118 k hk fun j hj => ?_
 refine F118 j (by omega) fun j2 hj2 => ?_
 exact F118r j2 (by omega)
termination_by k
end Go.Tame.V
/- Contracts: the other way of names: parts, used. By program (mk.py). -/
namespace Go.Tame.V
open Go Go.Proofs
variable {W0 : World}
set_option maxRecDepth 10000
set_option linter.unusedVariables false
set_option linter.unusedSimpArgs false

theorem dotI_ge : ∀ l : List Int, -1 ≤ dotI l
 | [] => by simp [dotI]
 | x :: l => by
  have := dotI_ge l
  simp only [dotI]; split
  ·omega
  ·split <;> omega
theorem dotI_lt : ∀ l : List Int, dotI l < l.length
 | [] => by simp [dotI]
 | x :: l => by
  have := dotI_lt l
  simp only [dotI, List.length_cons]; split
  ·omega
  ·split <;> omega
theorem dotI_snoc (x : Int) : ∀ l : List Int, dotI (l ++ [x]) = if x = 46 then (l.length : Int) else dotI l
 | [] => by
  have h0 : ¬ (0 : Int) ≤ -1 := by omega
  simp only [List.nil_append, dotI, if_neg h0]; rfl
 | y :: l => by
  have ih := dotI_snoc x l
  simp only [List.cons_append, dotI, ih, List.length_cons]
  split
  ·rw [if_pos (by omega)]; omega
  ·rfl
theorem F115 (v : Int) (s : List UInt8) (l : List Int) (dir : Bool) (hs : s.length < 1000000000) (hch : (chars s).1 = l) (hc0 : ∀ r ∈ l, isChar r = true) (hll : l.length ≤ 64) : DFun Tryz.prog W0 194 [.int .i64 v, .str s, .bool dir] (.tup [.sl .none 1 (encInts .i64 ((partsC v l dir).1.map (mapC v))), .sl .none 1 (encInts .i64 ((partsC v l dir).2.map (mapC v)))]) := by
 refine DFun.intro ti_ok Tryz.func194 rfl (by decide +kernel) Tryz.ntmps194 rfl fun Γ => ?_
 refine Tri.seq ?_
 refine Tri.region ti_ok ?_
 conv => whnf
 refine Tri.seq ?_
 refine Tri.region ti_ok ?_
 conv => whnf
 refine ⟨[.str s], _, fun _ => F114 s hs, ⟨.refl _, trivial⟩, ?_⟩
 rw [hch]
 conv => whnf
 refine Tri.seq ?_
 refine Tri.region ti_ok ?_
 conv => whnf
 refine Tri.seq ?_
 refine Tri.seq ?_
 refine Tri.region ti_ok ?_
 conv => whnf
 refine Tri.block ?_
 refine Tri.loop (α := { i : Nat // i ≤ l.length }) (fun x => [(0, .int .i64 v), (2, .bool dir), (8, .sl .none 1 (encInts .i64 l)), (10, .int .i64 (dotI (l.take x.1))), (11, .int .i64 x.1)]) (fun _ => []) (fun x => l.length - x.1) ⟨0, by omega⟩ ⟨.refl _, .refl _, .refl _, .refl _, .refl _, trivial⟩ trivial ?_
 rintro ⟨i, hi⟩
 dsimp only
 refine Tri.seq ?_
 refine Tri.seq ?_
 refine Tri.region ti_ok ?_
 conv => whnf
 refine Tri.cond _ rfl (fun hc => ?_) (fun hc => ?_)
 ·refine Tri.skip ?_
  conv => whnf
  refine Tri.seq ?_
  refine Tri.block ?_
  refine Tri.seq ?_
  refine Tri.region ti_ok ?_
  have hia : i < l.length := by simpa [encInts] using hc
  have hsn := dotI_snoc l[i] (l.take i)
  rw [← List.take_succ_eq_append_getElem hia] at hsn
  have htl : (l.take i).length = i := by simp; omega
  rw [htl] at hsn
  conv => whnf
  refine ⟨fun _ => by simp [encInts]; omega, ?_⟩
  conv => whnf
  refine ⟨.int .i64 l[i], fun _ => by simp [encInts, hia], ?_⟩
  conv => whnf
  refine Tri.cond _ rfl (fun hc => ?_) (fun hc => ?_)
  ·refine Tri.region ti_ok ?_
   conv => whnf
   refine Tri.region ti_ok ?_
   conv => whnf
   refine .inl ⟨fun _ => by simp only [InR]; omega, ?_⟩
   conv => whnf
   have h46 : l[i] = 46 := by simpa using hc
   exact ⟨⟨i + 1, by omega⟩, by show l.length - (i + 1) < l.length - i; omega, ⟨.refl _, .refl _, .refl _, DLe.of_eq (congrArg (D.int .i64) (by rw [hsn, if_pos h46])), .refl _, trivial⟩, trivial⟩
  ·refine Tri.skip ?_
   conv => whnf
   refine Tri.region ti_ok ?_
   conv => whnf
   refine .inl ⟨fun _ => by simp only [InR]; omega, ?_⟩
   conv => whnf
   have h46 : ¬ l[i] = 46 := by simpa using hc
   exact ⟨⟨i + 1, by omega⟩, by show l.length - (i + 1) < l.length - i; omega, ⟨.refl _, .refl _, .refl _, DLe.of_eq (congrArg (D.int .i64) (by rw [hsn, if_neg h46])), .refl _, trivial⟩, trivial⟩
 ·refine Tri.exit ?_
  conv => whnf
  refine Tri.seq ?_
  refine Tri.region ti_ok ?_
  have hin : i = l.length := by simp [encInts] at hc; omega
  subst hin
  rw [List.take_of_length_le (Nat.le_refl _)]
  have hd1 := dotI_ge l
  have hd2 := dotI_lt l
  have hel : (encInts .i64 l).length = l.length := by simp [encInts]
  rw [hel]
  conv => whnf
  refine .inl ⟨fun _ => by simp only [InR]; omega, ?_⟩
  conv => whnf
  refine Tri.seq ?_
  refine Tri.seq ?_
  refine Tri.region ti_ok ?_
  conv => whnf
  refine ⟨fun h => h, ?_⟩
  conv => whnf
  refine ⟨fun h0 h => by first | exact h | (rw [h]; rfl) | (rw [h0, h]; rfl), ?_⟩
  conv => whnf
  refine ⟨fun h => h, ?_⟩
  conv => whnf
  refine ⟨fun h => h, ?_⟩
  conv => whnf
  refine ⟨fun h0 h => by first | exact h | (rw [h]; rfl) | (rw [h0, h]; rfl), ?_⟩
  conv => whnf
  refine ⟨fun h => h, ?_⟩
  conv => whnf
  refine ⟨fun h => h, ?_⟩
  conv => whnf
  refine ⟨fun h => h, ?_⟩
  conv => whnf
  refine ⟨fun h => h, ?_⟩
  conv => whnf
  refine .inl ⟨fun _ => by simp only [InR]; omega, ?_⟩
  conv => whnf
  refine ⟨fun h => h, ?_⟩
  conv => whnf
  refine ⟨fun h => h, ?_⟩
  conv => whnf
  refine ⟨fun h0 h => by first | exact h | (rw [h]; rfl) | (rw [h0, h]; rfl), ?_⟩
  conv => whnf
  refine ⟨fun h0 h => by first | exact h | (rw [h]; rfl) | (rw [h0, h]; rfl), ?_⟩
  conv => whnf
  refine Tri.cond _ rfl (fun hc => ?_) (fun hc => ?_)
  ·refine Tri.seq ?_
   refine Tri.draw ti_ok mixed (by kernel_rfl) ?_
   skip
   conv => whnf
   have hp : dir = false ∧ 0 < dotI l ∧ dotI l < (l.length : Int) - 1 ∧ (v = 0 ∨ (l.length : Int) - 1 - dotI l ≤ 16) := by
    simp only [bif_and, bif_or, hel] at hc
    simp at hc
    exact ⟨hc.1.1.1, hc.1.1.2, hc.1.2, hc.2⟩
   have hpc : partsC v l dir = (l.take (dotI l).toNat, l.drop (dotI l + 1).toNat) := by rw [partsC, if_pos hp]
   rw [hpc]
   refine ⟨fun _ => by simp [encInts]; omega, ?_⟩
   conv => whnf
   refine ⟨[.int .i64 v, .sl .none 1 (encInts .i64 (l.take (dotI l).toNat))], _, fun _ => F131 v _ (by simp; omega) (fun r hr => hc0 r (List.mem_of_mem_take hr)), ⟨.refl _, DLe.of_eq (congrArg (D.sl .none 1) (by simp [encInts])), trivial⟩, ?_⟩
   conv => whnf
   refine .inl ⟨fun _ => by simp only [InR]; omega, ?_⟩
   conv => whnf
   refine ⟨fun _ => by simp [encInts]; omega, ?_⟩
   conv => whnf
   refine ⟨[.int .i64 v, .sl .none 1 (encInts .i64 (l.drop (dotI l + 1).toNat))], _, fun _ => F131 v _ (by simp; omega) (fun r hr => hc0 r (List.mem_of_mem_drop hr)), ⟨.refl _, DLe.of_eq (congrArg (D.sl .none 1) (by simp [encInts]; rw [List.take_of_length_le (by simp)])), trivial⟩, ?_⟩
   conv => whnf
   refine Tri.ret ?_
   conv => whnf
   exact ⟨.refl _, .refl _, trivial⟩
  ·refine Tri.skip ?_
   conv => whnf
   refine Tri.seq ?_
   refine Tri.seq ?_
   refine Tri.region ti_ok ?_
   conv => whnf
   refine ⟨fun h => h, ?_⟩
   conv => whnf
   refine ⟨fun h0 h => by first | exact h | (rw [h]; rfl) | (rw [h0, h]; rfl), ?_⟩
   conv => whnf
   refine ⟨fun h => h, ?_⟩
   conv => whnf
   refine ⟨fun h0 h => by first | exact h | (rw [h]; rfl) | (rw [h0, h]; rfl), ?_⟩
   conv => whnf
   refine ⟨fun h => h, ?_⟩
   conv => whnf
   refine ⟨fun h => h, ?_⟩
   conv => whnf
   refine ⟨fun h0 h => by first | exact h | (rw [h]; rfl) | (rw [h0, h]; rfl), ?_⟩
   conv => whnf
   refine Tri.cond _ rfl (fun hc => ?_) (fun hc => ?_)
   ·refine Tri.seq ?_
    refine Tri.region ti_ok ?_
    conv => whnf
    have hp : dir = false ∧ v = 0 ∧ 0 < dotI l ∧ dotI l = (l.length : Int) - 1 := by
     simp only [bif_and, bif_or, hel] at hc
     simp at hc
     exact ⟨hc.1.1.1, hc.1.1.2, hc.1.2, hc.2⟩
    have hpc : partsC v l dir = (l.take (dotI l).toNat, []) := by rw [partsC, if_neg (fun g => by have := g.2.2.1; have := hp.2.2.2; omega), if_pos hp]
    rw [hpc]
    refine ⟨fun _ => by simp [encInts]; omega, ?_⟩
    conv => whnf
    refine ⟨[.int .i64 v, .sl .none 1 (encInts .i64 (l.take (dotI l).toNat))], _, fun _ => F131 v _ (by simp; omega) (fun r hr => hc0 r (List.mem_of_mem_take hr)), ⟨.refl _, DLe.of_eq (congrArg (D.sl .none 1) (by simp [encInts])), trivial⟩, ?_⟩
    conv => whnf
    refine Tri.ret ?_
    conv => whnf
    exact ⟨.refl _, DLe.nil, trivial⟩
   ·refine Tri.skip ?_
    conv => whnf
    refine Tri.seq ?_
    refine Tri.region ti_ok ?_
    have hp1 : ¬ (dir = false ∧ v = 0 ∧ 0 < dotI l ∧ dotI l = (l.length : Int) - 1) := by
     simp only [bif_and, bif_or, hel] at hc
     simp at hc
     intro ⟨g1, g2, g3, g4⟩
     have := hc g1 g2
     omega
    have hp2 : ¬ (dir = false ∧ 0 < dotI l ∧ dotI l < (l.length : Int) - 1 ∧ (v = 0 ∨ (l.length : Int) - 1 - dotI l ≤ 16)) := by
     rename_i hc0'
     simp only [bif_and, bif_or, hel] at hc0'
     simp at hc0'
     intro ⟨g1, g2, g3, g4⟩
     have := hc0' g1 g2 g3
     omega
    have hpc : partsC v l dir = (l, []) := by rw [partsC, if_neg hp2, if_neg hp1]
    rw [hpc]
    conv => whnf
    refine ⟨[.int .i64 v, .sl .none 1 (encInts .i64 l)], _, fun _ => F131 v _ (by omega) hc0, ⟨.refl _, .refl _, trivial⟩, ?_⟩
    conv => whnf
    refine Tri.ret ?_
    conv => whnf
    exact ⟨.refl _, DLe.nil, trivial⟩
theorem F97 (ks : List (List UInt8)) (q : List UInt8) (hk : ks.length < 1000000) : DFun Tryz.prog W0 138 [.sl .none 1 (strs ks), .str q] (.bool (decide (q ∈ ks))) := by
 refine DFun.intro ti_ok Tryz.func138 rfl (by decide +kernel) Tryz.ntmps138 rfl fun Γ => ?_
 refine Tri.seq ?_
 refine Tri.region ti_ok ?_
 conv => whnf
 refine Tri.seq ?_
 refine Tri.seq ?_
 refine Tri.region ti_ok ?_
 conv => whnf
 refine Tri.block ?_
 refine Tri.loop (α := { i : Nat // i ≤ ks.length ∧ q ∉ ks.take i }) (fun x => [(0, .sl .none 1 (strs ks)), (1, .str q), (5, .int .i64 x.1)]) (fun _ => []) (fun x => ks.length - x.1) ⟨0, by simp⟩ ⟨.refl _, .refl _, .refl _, trivial⟩ trivial ?_
 rintro ⟨i, hi, hq⟩
 dsimp only
 refine Tri.seq ?_
 refine Tri.seq ?_
 refine Tri.region ti_ok ?_
 conv => whnf
 refine Tri.cond _ rfl (fun hc => ?_) (fun hc => ?_)
 ·refine Tri.skip ?_
  conv => whnf
  refine Tri.seq ?_
  refine Tri.block ?_
  refine Tri.seq ?_
  refine Tri.region ti_ok ?_
  have hia : i < ks.length := by simpa [strs] using hc
  conv => whnf
  refine ⟨fun _ => by simp [strs]; omega, ?_⟩
  conv => whnf
  refine ⟨.str ks[i], fun _ => by simp [strs, hia], ?_⟩
  conv => whnf
  refine Tri.cond _ rfl (fun hc => ?_) (fun hc => ?_)
  ·refine Tri.seq ?_
   refine Tri.region ti_ok ?_
   conv => whnf
   refine Tri.ret ?_
   conv => whnf
   have he : ks[i] = q := by simpa using hc
   exact DLe.of_eq (congrArg D.bool (by symm; rw [decide_eq_true_eq, ← he]; exact List.getElem_mem hia))
  ·refine Tri.skip ?_
   conv => whnf
   refine Tri.region ti_ok ?_
   conv => whnf
   refine .inl ⟨fun _ => by simp only [InR]; omega, ?_⟩
   conv => whnf
   have he : ¬ ks[i] = q := by simpa using hc
   exact ⟨⟨i + 1, by omega, by rw [List.take_succ_eq_append_getElem hia, List.mem_append]; rintro (h | h); exact hq h; exact he (List.mem_singleton.1 h).symm⟩, by show ks.length - (i + 1) < ks.length - i; omega, ⟨.refl _, .refl _, .refl _, trivial⟩, trivial⟩
 ·refine Tri.exit ?_
  conv => whnf
  refine Tri.seq ?_
  refine Tri.region ti_ok ?_
  have hin : i = ks.length := by simp [strs] at hc; omega
  rw [hin, List.take_of_length_le (Nat.le_refl _)] at hq
  conv => whnf
  refine Tri.ret ?_
  conv => whnf
  exact DLe.of_eq (congrArg D.bool (by symm; rw [decide_eq_false_iff_not]; exact hq))
end Go.Tame.V
/- Contracts: the other way of names: the candidate. By program (mk.py). -/
namespace Go.Tame.V
open Go Go.Proofs
variable {W0 : World}
set_option maxRecDepth 10000
set_option linter.unusedVariables false
set_option linter.unusedSimpArgs false

theorem dig_rng {k : Nat} (h2 : k < 100) : ∀ b ∈ Lib.decDigits k, 32 ≤ b.toNat ∧ b.toNat < 127 := by
 by_cases h1 : 10 ≤ k
 ·exact dig2_rng h1 h2
 ·have e : Lib.decDigits k = [UInt8.ofNat (48 + k)] := by rw [Lib.decDigits, dif_pos (by omega)]
  rw [e]
  have hU : ∀ x : Nat, x < 256 → (UInt8.ofNat x).toNat = x := fun x hx => by rw [UInt8.toNat_ofNat']; omega
  intro b hb
  rw [List.mem_singleton.1 hb, hU _ (by omega)]; omega
def sufB (k : Nat) : List UInt8 := if 0 < k then Lib.decDigits k else []
theorem suf_eq {k : Nat} (h : k < 100) : runesB (sufI k) = sufB k ∧ (sufI k).length = (sufB k).length ∧ (sufB k).length ≤ 2 := by
 unfold sufI sufB
 split
 ·have hc := charsP_ascii _ (dig_rng h)
  rw [runes_chars hc]
  exact ⟨(chars_bytes _ _ _ (Nat.le_refl _) hc).1, by simp, digs_len k h⟩
 ·exact ⟨rfl, rfl, by simp⟩
theorem runesB_cons (r : Int) (l : List Int) : runesB (r :: l) = (Utf8.encode r).data.toList ++ runesB l := by simp [runesB]
def exC (v : Int) (l : List Int) (dir : Bool) : List Int := if (partsC v l dir).2 = [] then [] else 46 :: ((partsC v l dir).2.map (mapC v)).take (mostC v)
theorem want_chars (v : Int) {s : List UInt8} {l : List Int} (hc : charsP s = some l) (dir : Bool) : wantS v s dir = ((partsC v l dir).1.map (mapC v), exC v l dir) := by
 obtain ⟨h1, h2, h3⟩ := cut_chars v hc dir
 unfold wantS exC
 rw [h1, h2]
 by_cases h : (partsC v l dir).2 = []
 ·rw [if_pos h, if_pos (h3.2 h)]
 ·rw [if_neg h, if_neg (fun g => h (h3.1 g))]
theorem partsC_len (v : Int) (l : List Int) (dir : Bool) : (partsC v l dir).1.length ≤ l.length ∧ (partsC v l dir).2.length ≤ l.length := by
 unfold partsC
 split
 ·simp; omega
 ·split
  ·simp; omega
  ·simp

theorem F96 (v : Int) (hv : v = 0 ∨ v = 1) (s : List UInt8) (l : List Int) (dir : Bool) (k : Nat) (hk : k < 100) (hs : s.length < 1000000000) (hcp : charsP s = some l) (hch : (chars s).1 = l) (hll : l.length ≤ 64) : DFun Tryz.prog W0 137 [.int .i64 v, .str s, .bool dir, .int .i64 (k : Nat)] (.str (numS v (wantS v s dir).1 (wantS v s dir).2 k)) := by
 have hcs := (chars_bytes s.length s l (Nat.le_refl _) hcp).2
 rw [want_chars v hcp dir]
 have hpl := partsC_len v l dir
 have hpc := parts_char (v := v) (dir := dir) hcs
 have hcall := F115 (W0 := W0) v s l dir hs hch hcs hll
 have hexC : exC v l dir = if ((partsC v l dir).2.map (mapC v)).take (mostC v) = [] then [] else 46 :: ((partsC v l dir).2.map (mapC v)).take (mostC v) := by
  unfold exC
  have hm : mostC v ≠ 0 := by unfold mostC; split <;> omega
  by_cases h : (partsC v l dir).2 = []
  ·rw [if_pos h, h]; simp
  ·rw [if_neg h, if_neg (by simp [h, hm])]
 have hst : ∀ r ∈ (partsC v l dir).1.map (mapC v), isChar r = true := fun r hr => by obtain ⟨x, hx, rfl⟩ := List.mem_map.1 hr; exact mapC_char (hpc.1 x hx)
 have hex : ∀ r ∈ (partsC v l dir).2.map (mapC v), isChar r = true := fun r hr => by obtain ⟨x, hx, rfl⟩ := List.mem_map.1 hr; exact mapC_char (hpc.2 x hx)
 have hl1 : ((partsC v l dir).1.map (mapC v)).length ≤ 64 := by simp; omega
 have hl2 : ((partsC v l dir).2.map (mapC v)).length ≤ 64 := by simp; omega
 generalize (partsC v l dir).1.map (mapC v) = P1 at *
 generalize (partsC v l dir).2.map (mapC v) = P2 at *
 have hE : ∀ r ∈ P2.take (mostC v), isChar r = true := fun r hr => hex r (List.mem_of_mem_take hr)
 have hEl : (P2.take (mostC v)).length ≤ 64 := by simp; omega
 have hE0 : v = 0 → P2.take 3 = P2.take (mostC v) := fun h => by rw [mostC, if_pos h]
 have hE1 : ¬ v = 0 → P2 = P2.take (mostC v) := fun h => by rw [mostC, if_neg h, List.take_of_length_le hl2]
 rw [hexC]
 generalize P2.take (mostC v) = E at *
 obtain ⟨hs1, hs2, hs3⟩ := suf_eq hk
 refine DFun.intro ti_ok Tryz.func137 rfl (by decide +kernel) Tryz.ntmps137 rfl fun Γ => ?_
 refine Tri.seq ?_
 refine Tri.region ti_ok ?_
 conv => whnf
 refine Tri.seq ?_
 refine Tri.region ti_ok ?_
 conv => whnf
 refine ⟨[.int .i64 v, .str s, .bool dir], _, fun _ => hcall, ⟨.refl _, .refl _, .refl _, trivial⟩, ?_⟩
 conv => whnf
 refine Tri.seq ?_
 refine Tri.region ti_ok ?_
 conv => whnf
 refine Tri.seq ?_
 refine Tri.region ti_ok ?_
 conv => whnf
 refine Tri.joinK (α := Unit) (fun x => [(0, .int .i64 v), (3, .int .i64 (k : Nat)), (9, .sl .none 1 (encInts .i64 P1)), (10, .sl .none 1 (encInts .i64 E)), (11, .str []), (12, .int .i64 (bif v == 0 then 8 else 64))]) (fun x => []) ?_ ?_
 ·refine Tri.seq ?_
  refine Tri.region ti_ok ?_
  conv => whnf
  refine Tri.cond _ rfl (fun hc => ?_) (fun hc => ?_)
  ·refine Tri.seq ?_
   refine Tri.region ti_ok ?_
   conv => whnf
   refine ⟨[.sl .none 1 (encInts .i64 P2), .int .i64 3], _, fun _ => F116 P2 3, ⟨.refl _, .refl _, trivial⟩, ?_⟩
   conv => whnf
   refine Tri.region ti_ok ?_
   conv => whnf
   have h0 : v = 0 := by simpa using hc
   exact ⟨(), [], ⟨.refl _, .refl _, .refl _, DLe.of_eq (congrArg (fun z => D.sl .none 1 (encInts .i64 z)) (hE0 h0)), .refl _, DLe.of_eq (congrArg (D.int .i64) (by rw [hc]; rfl)), trivial⟩, rfl, trivial⟩
  ·refine Tri.skip ?_
   conv => whnf
   have h0 : ¬ v = 0 := by simpa using hc
   exact ⟨(), [], ⟨.refl _, .refl _, .refl _, DLe.of_eq (congrArg (fun z => D.sl .none 1 (encInts .i64 z)) (hE1 h0)), .refl _, DLe.of_eq (congrArg (D.int .i64) (by rw [hc]; rfl)), trivial⟩, rfl, trivial⟩
 ·rintro ⟨⟩
  have hei : (encInts .i64 E).length = E.length := by simp [encInts]
  have hrb := runesB_len E
  have hr46 : runesB (46 :: E) = [46] ++ runesB E := by rw [runesB_cons, enc46]
  refine Tri.joinK (α := Unit) (fun x => [(3, .int .i64 (k : Nat)), (9, .sl .none 1 (encInts .i64 P1)), (11, .str (runesB (if E = [] then [] else 46 :: E))), (12, .int .i64 (bif v == 1 then 64 - ((if E = [] then [] else 46 :: E : List Int).length : Int) else 8))]) (fun x => []) ?_ ?_
  ·refine Tri.seq ?_
   refine Tri.region ti_ok ?_
   conv => whnf
   refine Tri.cond _ rfl (fun hc => ?_) (fun hc => ?_)
   ·refine Tri.seq ?_
    refine Tri.region ti_ok ?_
    conv => whnf
    refine ⟨[.sl .none 1 (encInts .i64 E)], _, fun _ => F117 E (by omega) hE, ⟨.refl _, trivial⟩, ?_⟩
    conv => whnf
    refine ⟨fun _ => by simp; omega, ?_⟩
    conv => whnf
    refine Tri.seq ?_
    refine Tri.region ti_ok ?_
    conv => whnf
    refine Tri.cond _ rfl (fun hc => ?_) (fun hc => ?_)
    ·refine Tri.region ti_ok ?_
     conv => whnf
     refine .inl ⟨fun _ => by simp only [InR]; omega, ?_⟩
     conv => whnf
     have h1 : v = 1 := by simpa using hc
     have hne : E ≠ [] := by rename_i hc0; intro h; subst h; simp [encInts] at hc0
     exact ⟨(), [], ⟨.refl _, .refl _, DLe.of_eq (congrArg D.str (by rw [if_neg hne, hr46])), DLe.of_eq (congrArg (D.int .i64) (by rw [hc, if_neg hne, hei]; simp; omega)), trivial⟩, rfl, trivial⟩
    ·refine Tri.skip ?_
     conv => whnf
     have h1 : v = 0 := hv.resolve_right (by simpa using hc)
     have hne : E ≠ [] := by rename_i hc0; intro h; subst h; simp [encInts] at hc0
     exact ⟨(), [], ⟨.refl _, .refl _, DLe.of_eq (congrArg D.str (by rw [if_neg hne, hr46])), DLe.of_eq (congrArg (D.int .i64) (by subst h1; rfl)), trivial⟩, rfl, trivial⟩
   ·refine Tri.skip ?_
    conv => whnf
    have hne : E = [] := by rw [hei] at hc; simp at hc; exact hc
    exact ⟨(), [], ⟨.refl _, .refl _, DLe.of_eq (congrArg D.str (by rw [if_pos hne]; rfl)), DLe.of_eq (congrArg (D.int .i64) (by rw [if_pos hne]; rcases hv with rfl | rfl <;> rfl)), trivial⟩, rfl, trivial⟩
  ·rintro ⟨⟩
   have hxl : (if E = [] then [] else 46 :: E : List Int).length ≤ 65 := by split <;> simp; omega
   have hrx := runesB_len (if E = [] then [] else 46 :: E)
   generalize (if E = [] then [] else 46 :: E : List Int) = X at *
   refine Tri.seq ?_
   refine Tri.region ti_ok ?_
   conv => whnf
   refine Tri.joinK (α := Unit) (fun x => [(9, .sl .none 1 (encInts .i64 P1)), (11, .str (runesB X)), (12, .int .i64 (bif v == 1 then 64 - (X.length : Int) else 8)), (13, .str (sufB k))]) (fun x => []) ?_ ?_
   ·refine Tri.seq ?_
    refine Tri.region ti_ok ?_
    conv => whnf
    refine Tri.cond _ rfl (fun hc => ?_) (fun hc => ?_)
    ·refine Tri.region ti_ok ?_
     conv => whnf
     refine ⟨[.int .i64 (k : Nat)], _, fun _ => F118r k hk, ⟨.refl _, trivial⟩, ?_⟩
     conv => whnf
     have h0 : 0 < k := by simpa using hc
     exact ⟨(), [], ⟨.refl _, .refl _, .refl _, DLe.of_eq (congrArg D.str (by rw [sufB, if_pos h0])), trivial⟩, rfl, trivial⟩
    ·refine Tri.skip ?_
     conv => whnf
     have h0 : ¬ 0 < k := by simpa using hc
     exact ⟨(), [], ⟨.refl _, .refl _, .refl _, DLe.of_eq (congrArg D.str (by rw [sufB, if_neg h0])), trivial⟩, rfl, trivial⟩
   ·rintro ⟨⟩
    have hroom : (bif v == 1 then 64 - (X.length : Int) else 8) - ((sufB k).length : Int) = roomI v X k := by
     rw [roomI, hs2]; cases (v == 1) <;> rfl
    have hrr : -100 ≤ (bif v == 1 then 64 - (X.length : Int) else 8) ∧ (bif v == 1 then 64 - (X.length : Int) else 8) ≤ 64 := by cases (v == 1) <;> simp only [cond_true, cond_false] <;> omega
    refine Tri.seq ?_
    refine Tri.region ti_ok ?_
    conv => whnf
    refine .inl ⟨fun _ => by simp only [InR]; omega, ?_⟩
    conv => whnf
    refine ⟨[.sl .none 1 (encInts .i64 P1), .int .i64 (roomI v X k)], _, fun _ => F116 P1 (roomI v X k), ⟨.refl _, DLe.of_eq (congrArg (D.int .i64) hroom), trivial⟩, ?_⟩
    conv => whnf
    have htk := runesB_len (P1.take (roomI v X k).toNat)
    have htl : (P1.take (roomI v X k).toNat).length ≤ 64 := by simp; omega
    refine ⟨[.sl .none 1 (encInts .i64 (P1.take (roomI v X k).toNat))], _, fun _ => F117 _ (by omega) (fun r hr => hst r (List.mem_of_mem_take hr)), ⟨.refl _, trivial⟩, ?_⟩
    conv => whnf
    refine ⟨fun _ => by omega, ?_⟩
    conv => whnf
    refine ⟨fun _ => by simp; omega, ?_⟩
    conv => whnf
    refine Tri.ret ?_
    conv => whnf
    refine DLe.of_eq (congrArg D.str ?_)
    have htake : P1.take (stemN v P1 X k) = P1.take (roomI v X k).toNat := by
     unfold stemN
     generalize roomI v X k = R
     split
     ·split
      ·rfl
      ·rw [show R.toNat = 0 by omega]; rfl
     ·split
      ·rw [List.take_of_length_le (by omega), List.take_of_length_le (by omega)]
      ·rw [List.take_of_length_le (by omega), List.take_of_length_le (by omega)]
    show runesB (P1.take (roomI v X k).toNat) ++ sufB k ++ runesB X = numS v P1 X k
    rw [numS, htake, runesB_append, runesB_append, hs1]
end Go.Tame.V
/- Contracts: the other way of names: the order. By program (mk.py). -/
namespace Go.Tame.V
open Go Go.Proofs
variable {W0 : World}
set_option maxRecDepth 10000
set_option linter.unusedVariables false
set_option linter.unusedSimpArgs false

theorem off (f : Nat → Bool) (k : Nat) (h : f k = false) : ∃ g : Nat → Bool, f = fun j => _root_.cond (Nat.beq j k) false (g j) :=
 ⟨f, funext fun j => by cases hb : Nat.beq j k with | false => rfl | true => rw [beq_true hb]; exact h⟩
theorem on (f : Nat → Bool) (k : Nat) (h : f k = true) : ∃ g : Nat → Bool, f = fun j => _root_.cond (Nat.beq j k) true (g j) :=
 ⟨f, funext fun j => by cases hb : Nat.beq j k with | false => rfl | true => rw [beq_true hb]; exact h⟩
theorem F53 (v : Int) : DFun Tryz.prog W0 63 [.int .i64 v] (.bool (viewOk v)) := by
 refine DFun.intro ti_ok Tryz.func63 rfl (by decide +kernel) Tryz.ntmps63 rfl fun Γ => ?_
 refine Tri.seq ?_
 refine Tri.region ti_ok ?_
 conv => whnf
 refine Tri.seq ?_
 refine Tri.region ti_ok ?_
 conv => whnf
 refine ⟨fun h => h, ?_⟩
 conv => whnf
 refine ⟨fun h0 h => by first | exact h | (rw [h]; rfl) | (rw [h0, h]; rfl), ?_⟩
 conv => whnf
 refine Tri.ret ?_
 conv => whnf
 exact DLe.of_eq (congrArg D.bool (by simp only [bif_and]; rfl))
theorem F95 (kids : List NV) (hinc : inc kids) (h64 : kids.length ≤ 64) : DFun Tryz.prog W0 136 [.sl .none 12 (kids.map enc)] (.sl .none 1 (places kids.length)) := by
 refine DFun.intro ti_ok Tryz.func136 rfl (by decide +kernel) Tryz.ntmps136 rfl fun Γ => ?_
 refine Tri.seq ?_
 refine Tri.region ti_ok ?_
 conv => whnf
 refine Tri.seq ?_
 refine Tri.region ti_ok ?_
 conv => whnf
 refine ⟨trivial, ?_⟩
 conv => whnf
 refine Tri.seq ?_
 refine Tri.seq ?_
 refine Tri.region ti_ok ?_
 conv => whnf
 refine Tri.block ?_
 refine Tri.own 3 1000 1 3 rfl (fun w => ?_)
 refine Tri.loopK (α := { i : Nat // i ≤ kids.length } × Value) (fun x => [(0, .sl .none 12 (kids.map enc)), (3, .sl (.own 1000 x.2) 1 (places x.1)), (4, .int .i64 x.1.1)])
  (fun x => [(1000, .own x.2 (places x.1).length 1 3)]) (fun x => kids.length - x.1) (⟨0, by omega⟩, w) [(1000, 1000)]
  ⟨⟨.refl _, .refl _, .refl _, trivial⟩, rfl, rfl, rfl, trivial⟩ ?_
 rintro ⟨⟨i, hi⟩, w⟩
 dsimp only
 have hpl : (places i).length = i := by simp [places]
 refine Tri.seq ?_
 refine Tri.seq ?_
 refine Tri.region ti_ok ?_
 conv => whnf
 refine Tri.cond _ rfl (fun hc => ?_) (fun hc => ?_)
 ·refine Tri.skip ?_
  conv => whnf
  refine Tri.seq ?_
  refine Tri.block ?_
  refine Tri.seq ?_
  refine Tri.region ti_ok ?_
  have hia : i < kids.length := by simpa using hc
  have hkd : ∀ j, j < kids.length → (kids.map enc)[j]? = some (encTop (kids.getD j default)) := fun j hj => by rw [get_kids hj]; simp [List.getD, hj]
  conv => whnf
  refine Tri.seq ?_
  refine Tri.block ?_
  refine Tri.loopK (α := Unit) (fun x => [(0, .sl .none 12 (kids.map enc)), (3, .sl (.own 1000 w) 1 (places i)), (4, .int .i64 i), (5, .int .i64 i)])
   (fun x => [(1000, .own w (places i).length 1 3)]) (fun x => 0) () [(1000, 1000)]
   ⟨⟨.refl _, .refl _, .refl _, DLe.of_eq (congrArg (D.int .i64) (by rw [hpl])), trivial⟩, rfl, rfl, rfl, trivial⟩ ?_
  rintro ⟨⟩
  refine Tri.seq ?_
  refine Tri.seq ?_
  refine Tri.draw ti_ok mixed (by kernel_rfl) ?_
  conv => whnf
  refine ⟨fun h => h, ?_⟩
  conv => whnf
  refine .inl ⟨fun h => by simp only [InR]; omega, ?_⟩
  conv => whnf
  refine ⟨fun h => h, ?_⟩
  conv => whnf
  refine ⟨fun h => h, ?_⟩
  conv => whnf
  refine ⟨fun h => by simp at h; rw [hpl]; omega, ?_⟩
  conv => whnf
  refine ⟨fun h => h, ?_⟩
  conv => whnf
  refine ⟨.int .i64 ((i - 1 : Nat) : Int), fun h => by rw [pred_toNat (by simpa using h)]; simp [places, show i - 1 < i by simp at h; omega], ?_⟩
  conv => whnf
  refine ⟨fun h => h, ?_⟩
  conv => whnf
  refine ⟨fun h => h, ?_⟩
  conv => whnf
  refine ⟨fun h => by simp; omega, ?_⟩
  conv => whnf
  refine ⟨fun h => h, ?_⟩
  conv => whnf
  refine ⟨fun h => h, ?_⟩
  conv => whnf
  refine ⟨encTop (kids.getD (i - 1) default), fun h => hkd (i - 1) (by omega), ?_⟩
  conv => whnf
  refine ⟨fun h => h, ?_⟩
  conv => whnf
  refine ⟨fun h => h, ?_⟩
  conv => whnf
  refine ⟨fun h => by simp; omega, ?_⟩
  conv => whnf
  refine ⟨fun h => h, ?_⟩
  conv => whnf
  refine ⟨fun h => h, ?_⟩
  conv => whnf
  refine ⟨encTop kids[i], fun h => get_kids hia, ?_⟩
  conv => whnf
  refine ⟨fun h => h, ?_⟩
  conv => whnf
  refine ⟨fun h => h, ?_⟩
  conv => whnf
  refine ⟨fun h0 h => by first | exact h | (rw [h]; rfl) | (rw [h0, h]; rfl), ?_⟩
  conv => whnf
  refine Tri.cond _ rfl (fun hc => ?_) (fun hc => ?_)
  ·refine Tri.skip ?_
   conv => whnf
   refine Tri.block ?_
   exfalso
   cases h0 : decide ((0 : Int) < i) with
   | false => rw [h0] at hc; cases hc
   | true =>
    have ht0 : 0 < i := by simpa using h0
    have hlt := inc_get hinc (show i - 1 < i by omega) hia
    rw [h0] at hc
    have e : (kids.getD (i - 1) default) = kids[i - 1] := by simp [List.getD, show i - 1 < kids.length by omega]
    rw [e] at hc
    have hc2 : (!(Op.bytesLess kids[i - 1].name kids[i].name || kids[i - 1].name == kids[i].name)) = true := hc
    simp [hlt] at hc2
  ·refine Tri.exit ?_
   conv => whnf
   have hself : ∀ (x : Value) (b : Bool) (σ : DSt), σ.H 1000 = some (.own w (places i).length 1 3) → (b = true → σ.H 46 = some (.own x (places (i + 1)).length 1 3)) →
     SubH σ ((1000, .own w (places i).length 1 3) :: (bif b then [(46, .own x (places (i + 1)).length 1 3)] else [])) := by
    intro x b σ h1 h2
    cases b with
    | true => exact ⟨h1, h2 rfl, trivial⟩
    | false => exact ⟨h1, trivial⟩
   have hlook : ∀ (x : Value) (b : Bool), b = true → look ((1000, HObj.own w (places i).length 1 3) :: (bif b then [(46, .own x (places (i + 1)).length 1 3)] else [])) 46 = some (.own x (places (i + 1)).length 1 3) := by
    intro x b h; subst h; rfl
   have htake : ((places i).take ((i : Nat) : Int).toNat).drop (Int.toNat 0) = places i := by
    show (places i).take ((i : Nat) : Int).toNat = _
    rw [List.take_of_length_le (by rw [hpl]; omega)]
   have hdrop : ((places i).take (((places i).length : Nat) : Int).toNat).drop ((i : Nat) : Int).toNat = [] := by
    rw [List.drop_eq_nil_iff]; simp [hpl]
   have hsn : places i ++ [D.int .i64 (i : Nat)] = places (i + 1) := by simp [places, List.range_succ]
   refine Tri.bitsI ti_ok mixed (α := Value) (fun x f => [(0, .sl .none 12 (kids.map enc)), (4, .int .i64 i), (5, .int .i64 i), (3, bif f 11 then .sl (.own 46 x) 1 (places (i + 1)) else .sl (.own 1000 w) 1 (places i)), (36, bif f 0 then .sl (.own 1000 w) 1 (places i) else .any), (37, bif f 1 then .int .i64 i else .any), (38, bif f 2 then .int .i64 i else .any), (39, bif f 3 then .sl .full 1 (places i) else .any), (40, bif f 4 then .int .i64 i else .any), (41, bif f 5 then .sl .full 1 [.int .i64 i] else .any), (42, bif f 6 then .sl (.own 1000 w) 1 (places i) else .any), (43, bif f 7 then .int .i64 i else .any), (44, bif f 8 then .sl .none 1 [] else .any), (45, bif f 9 then .sl .none 1 [.int .i64 i] else .any), (46, bif f 10 then .sl (.own 46 x) 1 (places (i + 1)) else .any)])
    (fun x f => (1000, .own w (places i).length 1 3) :: (bif f 10 then [(46, .own x (places (i + 1)).length 1 3)] else [])) (by decide +kernel) w ?_ ?_ ?_ ?_
   ·exact ⟨.refl _, .refl _, .refl _, .refl _, .any _, .any _, .any _, .any _, .any _, .any _, .any _, .any _, .any _, .any _, .any _, trivial⟩
   ·exact ⟨rfl, trivial⟩
   ·conv => whnf
    refine ⟨fun x f hI => ?_, ?_⟩
    ·obtain ⟨f, rfl⟩ := off f 11 (hI.no 11 0 rfl rfl)
     conv => whnf
     refine ⟨x, ⟨.refl _, .refl _, .refl _, .refl _, .refl _, .refl _, .refl _, .refl _, .refl _, .refl _, .refl _, .refl _, .refl _, .refl _, .refl _, trivial⟩, hself x _ _ rfl (fun h => hlook x _ h)⟩
    refine ⟨fun x f hI => ?_, ?_⟩
    ·obtain ⟨f, rfl⟩ := off f 11 (hI.no 11 1 rfl rfl)
     conv => whnf
     refine ⟨x, ⟨.refl _, .refl _, .refl _, .refl _, .refl _, .refl _, .refl _, .refl _, .refl _, .refl _, .refl _, .refl _, .refl _, .refl _, .refl _, trivial⟩, hself x _ _ rfl (fun h => hlook x _ h)⟩
    refine ⟨fun x f hI => ?_, ?_⟩
    ·obtain ⟨f, rfl⟩ := off f 11 (hI.no 11 2 rfl rfl)
     conv => whnf
     refine ⟨x, ⟨.refl _, .refl _, .refl _, .refl _, .refl _, .refl _, .refl _, .refl _, .refl _, .refl _, .refl _, .refl _, .refl _, .refl _, .refl _, trivial⟩, hself x _ _ rfl (fun h => hlook x _ h)⟩
    refine ⟨fun x f hI => ?_, ?_⟩
    ·obtain ⟨f, rfl⟩ := off f 11 (hI.no 11 3 rfl rfl)
     conv => whnf
     refine .inl ?_
     conv => whnf
     refine ⟨fun _ => ⟨rfl, by omega, by omega, by rw [hpl]; omega⟩, ?_⟩
     conv => whnf
     refine ⟨x, ⟨.refl _, .refl _, .refl _, .refl _, .refl _, .refl _, .refl _, DLe.of_eq (congrArg (D.sl .full 1) htake), .refl _, .refl _, .refl _, .refl _, .refl _, .refl _, .refl _, trivial⟩, hself x _ _ rfl (fun h => hlook x _ h)⟩
    refine ⟨fun x f hI => ?_, ?_⟩
    ·obtain ⟨f, rfl⟩ := off f 11 (hI.no 11 4 rfl rfl)
     conv => whnf
     refine ⟨x, ⟨.refl _, .refl _, .refl _, .refl _, .refl _, .refl _, .refl _, .refl _, .refl _, .refl _, .refl _, .refl _, .refl _, .refl _, .refl _, trivial⟩, hself x _ _ rfl (fun h => hlook x _ h)⟩
    refine ⟨fun x f hI => ?_, ?_⟩
    ·obtain ⟨f, rfl⟩ := off f 11 (hI.no 11 5 rfl rfl)
     conv => whnf
     refine ⟨trivial, ?_⟩
     conv => whnf
     refine ⟨x, ⟨.refl _, .refl _, .refl _, .refl _, .refl _, .refl _, .refl _, .refl _, .refl _, .refl _, .refl _, .refl _, .refl _, .refl _, .refl _, trivial⟩, hself x _ _ rfl (fun h => hlook x _ h)⟩
    refine ⟨fun x f hI => ?_, ?_⟩
    ·obtain ⟨f, rfl⟩ := off f 11 (hI.no 11 6 rfl rfl)
     conv => whnf
     refine ⟨x, ⟨.refl _, .refl _, .refl _, .refl _, .refl _, .refl _, .refl _, .refl _, .refl _, .refl _, .refl _, .refl _, .refl _, .refl _, .refl _, trivial⟩, hself x _ _ rfl (fun h => hlook x _ h)⟩
    refine ⟨fun x f hI => ?_, ?_⟩
    ·obtain ⟨f, rfl⟩ := off f 11 (hI.no 11 7 rfl rfl)
     conv => whnf
     refine ⟨x, ⟨.refl _, .refl _, .refl _, .refl _, .refl _, .refl _, .refl _, .refl _, .refl _, .refl _, .refl _, .refl _, .refl _, .refl _, .refl _, trivial⟩, hself x _ _ rfl (fun h => hlook x _ h)⟩
    refine ⟨fun x f hI => ?_, ?_⟩
    ·obtain ⟨f, rfl⟩ := off f 11 (hI.no 11 8 rfl rfl)
     conv => whnf
     refine .inl ?_
     conv => whnf
     refine ⟨fun _ => by rw [hpl]; omega, ?_⟩
     conv => whnf
     refine ⟨x, ⟨.refl _, .refl _, .refl _, .refl _, .refl _, .refl _, .refl _, .refl _, .refl _, .refl _, .refl _, .refl _, DLe.of_eq (congrArg (D.sl .none 1) hdrop), .refl _, .refl _, trivial⟩, hself x _ _ rfl (fun h => hlook x _ h)⟩
    refine ⟨fun x f hI => ?_, ?_⟩
    ·obtain ⟨f, rfl⟩ := off f 11 (hI.no 11 9 rfl rfl)
     obtain ⟨f, rfl⟩ := off f 10 (hI.no 10 9 rfl rfl)
     conv => whnf
     refine .inl ?_
     conv => whnf
     refine ⟨by show (_ + _) * 8 ≤ _; simp, by show _ + _ ≤ _; simp, (fun h => by cases h), fun w1 => ?_⟩
     refine ⟨x, ⟨.refl _, .refl _, .refl _, .refl _, .refl _, .refl _, .refl _, .refl _, .refl _, .refl _, .refl _, .refl _, .refl _, DLe.unown, .refl _, trivial⟩, hself x _ _ rfl (fun h => by cases h)⟩
    refine ⟨fun x f hI => ?_, ?_⟩
    ·obtain ⟨f, rfl⟩ := off f 11 (hI.no 11 10 rfl rfl)
     conv => whnf
     refine .inl ?_
     conv => whnf
     refine ⟨by show (_ + _) * 8 ≤ _; simp [places]; omega, by show _ + _ ≤ _; simp [places]; omega, (fun h => by cases h), fun w2 => ?_⟩
     refine ⟨w2, ⟨.refl _, .refl _, .refl _, .refl _, .refl _, .refl _, .refl _, .refl _, .refl _, .refl _, .refl _, .refl _, .refl _, .refl _, DLe.ownEq hsn, trivial⟩, hself w2 _ _ rfl (fun h => ownH (by rw [← hsn]; simp))⟩
    refine ⟨fun x f hI => ?_, ?_⟩
    ·conv => whnf
     refine ⟨x, ⟨.refl _, .refl _, .refl _, .refl _, .refl _, .refl _, .refl _, .refl _, .refl _, .refl _, .refl _, .refl _, .refl _, .refl _, .refl _, trivial⟩, hself x _ _ rfl (fun h => hlook x _ h)⟩
    exact trivial
   ·intro x f hf
    obtain ⟨f, rfl⟩ := on f 11 (hf 11 (by decide +kernel))
    obtain ⟨f, rfl⟩ := on f 10 (hf 10 (by decide +kernel))
    conv => whnf
    refine Tri.region ti_ok ?_
    conv => whnf
    refine .inl ⟨fun _ => by simp only [InR]; omega, ?_⟩
    conv => whnf
    exact ⟨(⟨i + 1, by omega⟩, x), [(1000, 46)], by show kids.length - (i + 1) < kids.length - i; omega, ⟨.refl _, DLe.ownEq rfl, .refl _, trivial⟩, rfl, rfl, rfl, trivial⟩
 ·refine Tri.exit ?_
  conv => whnf
  refine Tri.seq ?_
  refine Tri.region ti_ok ?_
  have hin : i = kids.length := by simp at hc; omega
  subst hin
  conv => whnf
  refine Tri.ret ?_
  conv => whnf
  exact DLe.unown
end Go.Tame.V
/- Contracts: the other way of names: Names. By program (mk.py). -/
namespace Go.Tame.V
open Go Go.Proofs
variable {W0 : World}
set_option maxRecDepth 10000
set_option linter.unusedVariables false
set_option linter.unusedSimpArgs false

def pickG (v : Int) (u : List (List UInt8)) (k : NV) : List UInt8 := if v = 0 ∨ v = 1 then pickN v u k else k.name
/-- The names at any view, the last one ahead. -/
def usedG (v : Int) (ks : List NV) : List (List UInt8) := ks.foldl (fun u k => pickG v u k :: u) []
def namesG (v : Int) (ks : List NV) : List (List UInt8) := (usedG v ks).reverse
theorem usedG_snoc (v : Int) (ks : List NV) (k : NV) : usedG v (ks ++ [k]) = pickG v (usedG v ks) k :: usedG v ks := by simp [usedG]
theorem usedG_len (v : Int) (ks : List NV) : (usedG v ks).length = ks.length := by
 refine snoc_rec (p := fun ks => (usedG v ks).length = ks.length) rfl (fun l x ih => ?_) ks
 rw [usedG_snoc]; simp [ih]
theorem usedG_take {v : Int} {ks : List NV} {t : Nat} (h : t < ks.length) : usedG v (ks.take (t + 1)) = pickG v (usedG v (ks.take t)) ks[t] :: usedG v (ks.take t) := by
 rw [List.take_succ_eq_append_getElem h, usedG_snoc]
theorem strs_setG {v : Int} {kids : List NV} {t : Nat} (h : t < kids.length) (z : D) : (strs (usedG v (kids.take t)).reverse ++ List.replicate (kids.length - t) z).set t (.str (pickG v (usedG v (kids.take t)) kids[t])) = strs (usedG v (kids.take (t + 1))).reverse ++ List.replicate (kids.length - (t + 1)) z := by
 rw [usedG_take h]
 have hl : (strs (usedG v (kids.take t)).reverse).length = t := by simp [strs, usedG_len]; omega
 rw [List.set_append_right _ _ (by omega), hl, Nat.sub_self, show kids.length - t = (kids.length - (t + 1)) + 1 by omega, List.replicate_succ]
 simp [strs]
def cellsN (n : NV) : List D := [.str n.name, .int .i64 n.kind, .str n.text, .str n.target, .int .i64 n.n1, .int .i64 n.n2, .int .i64 n.n3, .int .i64 n.n4, .int .i64 n.n5, .int .i64 n.n6, .sl .none 12 (n.kids.map enc), .sl .none 2 (n.streams.map encS)]

theorem F72 (v : Int) (hv : viewOk v = true) (kids : List NV) (h64 : kids.length ≤ 64) (hok : ∀ k ∈ kids, nameOk k.name = true ∧ k.name.length < 1000000000) (hinc : inc kids) : DFun Tryz.prog W0 97 [.int .i64 v, .sl .none 12 (kids.map enc)] (.tup [.sl .none 1 (strs (namesG v kids)), .int .i64 0]) := by
 refine DFun.intro ti_ok Tryz.func97 rfl (by decide +kernel) Tryz.ntmps97 rfl fun Γ => ?_
 refine Tri.seq ?_
 refine Tri.region ti_ok ?_
 conv => whnf
 refine Tri.seq ?_
 refine Tri.seq ?_
 refine Tri.region ti_ok ?_
 conv => whnf
 refine ⟨[.int .i64 v], _, fun _ => F53 v, ⟨.refl _, trivial⟩, ?_⟩
 conv => whnf
 refine Tri.cond _ rfl (fun hc => ?_) (fun hc => ?_)
 ·refine Tri.seq ?_
  exfalso
  rw [hv] at hc; cases hc
 ·refine Tri.skip ?_
  conv => whnf
  refine Tri.seq ?_
  refine Tri.seq ?_
  refine Tri.region ti_ok ?_
  conv => whnf
  refine Tri.cond _ rfl (fun hc => ?_) (fun hc => ?_)
  ·refine Tri.seq ?_
   exfalso
   simp at hc; omega
  ·refine Tri.skip ?_
   conv => whnf
   refine Tri.seq ?_
   refine Tri.seq ?_
   refine Tri.region ti_ok ?_
   conv => whnf
   refine Tri.block ?_
   refine Tri.loop (α := { i : Nat // i ≤ kids.length }) (fun x => [(0, .int .i64 v), (1, .sl .none 12 (kids.map enc)), (6, .int .i64 x.1)]) (fun _ => []) (fun x => kids.length - x.1) ⟨0, by omega⟩ ⟨.refl _, .refl _, .refl _, trivial⟩ trivial ?_
   rintro ⟨i, hi⟩
   dsimp only
   refine Tri.seq ?_
   refine Tri.seq ?_
   refine Tri.region ti_ok ?_
   conv => whnf
   refine Tri.cond _ rfl (fun hc => ?_) (fun hc => ?_)
   ·refine Tri.skip ?_
    conv => whnf
    refine Tri.seq ?_
    refine Tri.block ?_
    refine Tri.seq ?_
    refine Tri.region ti_ok ?_
    have hia : i < kids.length := by simpa using hc
    conv => whnf
    refine ⟨fun _ => by simp; omega, ?_⟩
    conv => whnf
    refine ⟨encTop kids[i], fun _ => get_kids hia, ?_⟩
    conv => whnf
    refine ⟨[.str kids[i].name], _, fun _ => F94 _ (hok _ (List.getElem_mem hia)).2, ⟨.refl _, trivial⟩, ?_⟩
    conv => whnf
    refine Tri.cond _ rfl (fun hc => ?_) (fun hc => ?_)
    ·refine Tri.seq ?_
     exfalso
     rw [(hok _ (List.getElem_mem hia)).1] at hc; cases hc
    ·refine Tri.skip ?_
     conv => whnf
     refine Tri.region ti_ok ?_
     conv => whnf
     refine .inl ⟨fun _ => by simp only [InR]; omega, ?_⟩
     conv => whnf
     exact ⟨⟨i + 1, by omega⟩, by show kids.length - (i + 1) < kids.length - i; omega, ⟨.refl _, .refl _, .refl _, trivial⟩, trivial⟩
   ·refine Tri.exit ?_
    conv => whnf
    refine Tri.seq ?_
    refine Tri.seq ?_
    refine Tri.region ti_ok ?_
    conv => whnf
    refine Tri.block ?_
    refine Tri.loop (α := { i : Nat // i ≤ kids.length }) (fun x => [(0, .int .i64 v), (1, .sl .none 12 (kids.map enc)), (7, .int .i64 x.1)]) (fun _ => []) (fun x => kids.length - x.1) ⟨0, by omega⟩ ⟨.refl _, .refl _, .refl _, trivial⟩ trivial ?_
    rintro ⟨i, hi⟩
    dsimp only
    refine Tri.seq ?_
    refine Tri.seq ?_
    refine Tri.region ti_ok ?_
    conv => whnf
    refine Tri.cond _ rfl (fun hc => ?_) (fun hc => ?_)
    ·refine Tri.skip ?_
     conv => whnf
     refine Tri.seq ?_
     refine Tri.block ?_
     refine Tri.seq ?_
     refine Tri.region ti_ok ?_
     have hia : i < kids.length := by simpa using hc
     conv => whnf
     refine Tri.block ?_
     refine Tri.loop (α := { j : Nat // j ≤ i }) (fun x => [(0, .int .i64 v), (1, .sl .none 12 (kids.map enc)), (7, .int .i64 i), (8, .int .i64 x.1)]) (fun _ => []) (fun x => i - x.1) ⟨0, by omega⟩ ⟨.refl _, .refl _, .refl _, .refl _, trivial⟩ trivial ?_
     rintro ⟨j, hj⟩
     dsimp only
     refine Tri.seq ?_
     refine Tri.seq ?_
     refine Tri.region ti_ok ?_
     conv => whnf
     refine Tri.cond _ rfl (fun hc => ?_) (fun hc => ?_)
     ·refine Tri.skip ?_
      conv => whnf
      refine Tri.seq ?_
      refine Tri.block ?_
      refine Tri.seq ?_
      refine Tri.draw ti_ok mixed (by kernel_rfl) ?_
      have hja : j < i := by simpa using hc
      conv => whnf
      refine ⟨fun _ => by simp; omega, ?_⟩
      conv => whnf
      refine ⟨encTop kids[i], fun _ => get_kids hia, ?_⟩
      conv => whnf
      refine ⟨fun _ => by simp; omega, ?_⟩
      conv => whnf
      refine ⟨encTop kids[j], fun _ => get_kids (by omega), ?_⟩
      conv => whnf
      refine Tri.cond _ rfl (fun hc => ?_) (fun hc => ?_)
      ·refine Tri.seq ?_
       exfalso
       have hne := bl_ne (inc_get hinc hja hia)
       have : kids[i].name = kids[j].name := by simpa using hc
       exact hne this.symm
      ·refine Tri.skip ?_
       conv => whnf
       refine Tri.region ti_ok ?_
       conv => whnf
       refine .inl ⟨fun _ => by simp only [InR]; omega, ?_⟩
       conv => whnf
       exact ⟨⟨j + 1, by omega⟩, by show i - (j + 1) < i - j; omega, ⟨.refl _, .refl _, .refl _, .refl _, trivial⟩, trivial⟩
     ·refine Tri.exit ?_
      conv => whnf
      refine Tri.region ti_ok ?_
      conv => whnf
      refine .inl ⟨fun _ => by simp only [InR]; omega, ?_⟩
      conv => whnf
      exact ⟨⟨i + 1, by omega⟩, by show kids.length - (i + 1) < kids.length - i; omega, ⟨.refl _, .refl _, .refl _, trivial⟩, trivial⟩
    ·refine Tri.exit ?_
     conv => whnf
     refine Tri.seq ?_
     refine Tri.regionX ti_ok ?_
     conv => whnf
     refine .inr (XOp.makeRow ti_ok (n := kids.length) (k1 := .i64) (k2 := .i64) (z := .str []) rfl rfl rfl rfl rfl ?_ ?_ (by show 16 * _ ≤ _; omega) (by omega) fun nv => ?_)
     ·show D.int _ _ = _; simp
     ·show D.int _ _ = _; simp
     conv => whnf
     refine Tri.seq ?_
     refine Tri.region ti_ok ?_
     conv => whnf
     refine ⟨trivial, ?_⟩
     conv => whnf
     refine Tri.seq ?_
     refine Tri.region ti_ok ?_
     conv => whnf
     refine ⟨[.sl .none 12 (kids.map enc)], _, fun _ => F95 kids hinc h64, ⟨.refl _, trivial⟩, ?_⟩
     conv => whnf
     refine Tri.seq ?_
     refine Tri.seq ?_
     refine Tri.region ti_ok ?_
     conv => whnf
     refine Tri.block ?_
     refine Tri.own 10 1000 1 9 rfl (fun w => ?_)
     refine Tri.loopK (α := { t : Nat // t ≤ kids.length } × Value) (fun x => [(0, .int .i64 v), (1, .sl .none 12 (kids.map enc)), (9, .raw nv), (10, .sl (.own 1000 x.2) 1 (strs (usedG v (kids.take x.1)).reverse)), (11, .sl .none 1 (places kids.length)), (12, .int .i64 x.1.1)])
      (fun x => [(59, .row nv (strs (usedG v (kids.take x.1)).reverse ++ List.replicate (kids.length - x.1) (.str [])) 1 9), (1000, .own x.2 (strs (usedG v (kids.take x.1)).reverse).length 1 9)]) (fun x => kids.length - x.1) (⟨0, by omega⟩, w) [(59, 59), (1000, 1000)]
      ⟨⟨.refl _, .refl _, .refl _, .refl _, .refl _, .refl _, trivial⟩, rfl, rfl, rfl, rfl, rfl, trivial⟩ ?_
     rintro ⟨⟨t, ht⟩, w⟩
     dsimp only
     refine Tri.seq ?_
     refine Tri.seq ?_
     refine Tri.region ti_ok ?_
     conv => whnf
     refine Tri.cond _ rfl (fun hc => ?_) (fun hc => ?_)
     ·refine Tri.skip ?_
      conv => whnf
      refine Tri.seq ?_
      refine Tri.block ?_
      refine Tri.seq ?_
      refine Tri.region ti_ok ?_
      have hta : t < kids.length := by simp [places] at hc; omega
      have hnl := name_len (hok _ (List.getElem_mem hta)).1
      obtain ⟨l, hl, hch, _, _, hl64⟩ := name_chars (hok _ (List.getElem_mem hta)).1
      have hcalled := fun (hv : v = 0 ∨ v = 1) (k : Nat) (hk : k < 100) => F96 (W0 := W0) v hv kids[t].name l (kids[t].kind == 0) k hk (by omega) hl hch hl64
      have hus := usedG_take (v := v) hta
      have hset := strs_setG (v := v) hta (.str [])
      have hUl : (usedG v (kids.take t)).length = t := by rw [usedG_len]; simp; omega
      have hfr := fresh_ok v (usedG v (kids.take t)) (wantS v kids[t].name (kids[t].kind == 0)).1 (wantS v kids[t].name (kids[t].kind == 0)).2 (by omega)
      have hpk : v = 0 ∨ v = 1 → pickG v (usedG v (kids.take t)) kids[t] = numS v (wantS v kids[t].name (kids[t].kind == 0)).1 (wantS v kids[t].name (kids[t].kind == 0)).2 (freshK v (usedG v (kids.take t)) (wantS v kids[t].name (kids[t].kind == 0)).1 (wantS v kids[t].name (kids[t].kind == 0)).2) := fun h => by rw [pickG, if_pos h]; rfl
      have hpn : ¬ (v = 0 ∨ v = 1) → pickG v (usedG v (kids.take t)) kids[t] = kids[t].name := fun h => by rw [pickG, if_neg h]
      generalize (wantS v kids[t].name (kids[t].kind == 0)).1 = st at *
      generalize (wantS v kids[t].name (kids[t].kind == 0)).2 = ex at *
      generalize usedG v (kids.take t) = U at *
      generalize hK : freshK v U st ex = K at *
      have hsU : (strs U.reverse).length = t := by simp [strs, hUl]
      conv => whnf
      refine ⟨fun _ => by simp [places]; omega, ?_⟩
      conv => whnf
      refine ⟨.int .i64 (t : Nat), fun _ => by simp [places, hta], ?_⟩
      conv => whnf
      refine ⟨fun _ => by simp; omega, ?_⟩
      conv => whnf
      refine ⟨encTop kids[t], fun _ => get_kids hta, ?_⟩
      conv => whnf
      intro b13
      conv => whnf
      refine ⟨rfl, ?_⟩
      conv => whnf
      refine Tri.seq ?_
      refine Tri.region ti_ok ?_
      conv => whnf
      refine ⟨rfl, ?_⟩
      conv => whnf
      refine Tri.joinK (α := Unit) (fun x => [(0, .int .i64 v), (1, .sl .none 12 (kids.map enc)), (9, .raw nv), (10, .sl (.own 1000 w) 1 (strs U.reverse)), (11, .sl .none 1 (places kids.length)), (12, .int .i64 t), (14, .str (pickG v U kids[t]))])
       (fun x => [(59, .row nv (strs U.reverse ++ List.replicate (kids.length - t) (.str [])) 1 9), (1000, .own w (strs U.reverse).length 1 9)]) ?_ ?_
      ·refine Tri.seq ?_
       refine Tri.region ti_ok ?_
       conv => whnf
       refine ⟨fun h => h, ?_⟩
       conv => whnf
       refine ⟨fun h0 h => by first | exact h | (rw [h]; rfl) | (rw [h0, h]; rfl), ?_⟩
       conv => whnf
       refine Tri.cond _ rfl (fun hc => ?_) (fun hc => ?_)
       ·refine Tri.seq ?_
        refine Tri.region ti_ok ?_
        have hv01 : v = 0 ∨ v = 1 := by rw [bif_or] at hc; simpa using hc
        conv => whnf
        refine Tri.seq ?_
        refine Tri.region ti_ok ?_
        conv => whnf
        refine ⟨rfl, ?_⟩
        conv => whnf
        refine ⟨rfl, ?_⟩
        conv => whnf
        refine ⟨[.int .i64 v, .str kids[t].name, .bool (kids[t].kind == 0), .int .i64 (0 : Nat)], _, fun _ => hcalled hv01 0 (by omega), ⟨.refl _, .refl _, .refl _, .refl _, trivial⟩, ?_⟩
        conv => whnf
        refine Tri.block ?_
        refine Tri.loopK (α := { j : Nat // j ≤ K }) (fun x => [(0, .int .i64 v), (1, .sl .none 12 (kids.map enc)), (9, .raw nv), (10, .sl (.own 1000 w) 1 (strs U.reverse)), (11, .sl .none 1 (places kids.length)), (12, .int .i64 t), (13, .box 13 b13 0), (14, .str (numS v st ex x.1)), (15, .int .i64 (x.1 : Nat))])
         (fun x => [(59, .row nv (strs U.reverse ++ List.replicate (kids.length - t) (.str [])) 1 9), (1000, .own w (strs U.reverse).length 1 9), (13, .box b13 (cellsN kids[t]))]) (fun x => K - x.1) ⟨0, by omega⟩ [(59, 59), (1000, 1000), (13, 13)]
         ⟨⟨.refl _, .refl _, .refl _, .refl _, .refl _, .refl _, .refl _, .refl _, .refl _, trivial⟩, rfl, rfl, rfl, rfl, rfl, rfl, rfl, trivial⟩ ?_
        rintro ⟨j, hj⟩
        dsimp only
        refine Tri.seq ?_
        refine Tri.seq ?_
        refine Tri.region ti_ok ?_
        conv => whnf
        refine ⟨[.sl .none 1 (strs U.reverse), .str (numS v st ex j)], _, fun _ => F97 _ _ (by simp [hUl]; omega), ⟨DLe.unown, .refl _, trivial⟩, ?_⟩
        conv => whnf
        refine Tri.cond _ rfl (fun hc => ?_) (fun hc => ?_)
        ·refine Tri.skip ?_
         conv => whnf
         refine Tri.block ?_
         refine Tri.seq ?_
         refine Tri.region ti_ok ?_
         have hjU : numS v st ex j ∈ U := by simpa using hc
         have hjK : j < K := by
          rcases Nat.lt_or_ge j K with h | h
          ·exact h
          ·have : j = K := by omega
           subst this; exact absurd hjU hfr.2.1
         conv => whnf
         refine .inl ⟨fun _ => by simp only [InR]; omega, ?_⟩
         conv => whnf
         refine Tri.region ti_ok ?_
         conv => whnf
         refine ⟨rfl, ?_⟩
         conv => whnf
         refine ⟨rfl, ?_⟩
         conv => whnf
         refine ⟨[.int .i64 v, .str kids[t].name, .bool (kids[t].kind == 0), .int .i64 ((j + 1 : Nat) : Int)], _, fun _ => hcalled hv01 (j + 1) (by omega), ⟨.refl _, .refl _, .refl _, .refl _, trivial⟩, ?_⟩
         conv => whnf
         exact ⟨⟨j + 1, by omega⟩, [(59, 59), (1000, 1000), (13, 13)], by show K - (j + 1) < K - j; omega, ⟨.refl _, .refl _, .refl _, .refl _, .refl _, .refl _, .refl _, .refl _, .refl _, trivial⟩, rfl, rfl, rfl, rfl, rfl, rfl, rfl, trivial⟩
        ·refine Tri.exit ?_
         conv => whnf
         have hjU : numS v st ex j ∉ U := by simpa using hc
         have hjK : j = K := by
          rcases Nat.lt_or_ge j K with h | h
          ·exact absurd (hfr.2.2 j h) hjU
          ·omega
         exact ⟨(), [(59, 59), (1000, 1000)], ⟨.refl _, .refl _, .refl _, .refl _, .refl _, .refl _, DLe.of_eq (congrArg D.str (by rw [hpk hv01, hjK])), trivial⟩, rfl, rfl, rfl, rfl, rfl, trivial⟩
       ·refine Tri.skip ?_
        conv => whnf
        have hv23 : ¬ (v = 0 ∨ v = 1) := by rw [bif_or] at hc; simpa using hc
        exact ⟨(), [(59, 59), (1000, 1000)], ⟨.refl _, .refl _, .refl _, .refl _, .refl _, .refl _, DLe.of_eq (congrArg D.str (by rw [hpn hv23])), trivial⟩, rfl, rfl, rfl, rfl, rfl, trivial⟩
      ·rintro ⟨⟩
       refine Tri.seq ?_
       refine Tri.region ti_ok ?_
       conv => whnf
       refine ⟨trivial, ?_⟩
       conv => whnf
       refine ⟨rfl, rfl, ?_⟩
       conv => whnf
       refine ⟨by show (_ + 1) * 16 ≤ _; omega, by show _ + 1 ≤ _; omega, (fun h => by cases h), fun w => ?_⟩
       conv => whnf
       refine Tri.regionX ti_ok ?_
       conv => whnf
       refine .inl ?_
       conv => whnf
       refine ⟨fun _ => by simp [places]; omega, ?_⟩
       conv => whnf
       refine .inl ?_
       conv => whnf
       refine ⟨.int .i64 (t : Nat), fun _ => by simp [places, hta], ?_⟩
       conv => whnf
       refine .inr (XOp.rowIndex ti_ok 59 rfl rfl rfl rfl rfl rfl rfl (by omega) (by simp [hsU]; omega) ?_)
       conv => whnf
       conv => whnf
       refine .inr (XOp.rowStore ti_ok 59 (i := t) (by rw [Int.toNat_natCast]; rfl) rfl rfl rfl (by simp [hsU]; omega) rfl ?_)
       conv => whnf
       conv => whnf
       refine Tri.region ti_ok ?_
       conv => whnf
       refine .inl ⟨fun _ => by simp only [InR]; omega, ?_⟩
       conv => whnf
       exact ⟨(⟨t + 1, by omega⟩, w), [(59, 59), (1000, 108)], by show _ - (t + 1) < _ - t; omega, ⟨.refl _, .refl _, .refl _, DLe.ownEq (by dsimp only; rw [hus]; simp [strs]; rfl), .refl _, .refl _, trivial⟩, rfl, rfl, congrArg (fun z => some (HObj.row nv z 1 9)) hset, rfl, ownH (by dsimp only; rw [hus]; simp [strs]), trivial⟩
     ·refine Tri.exit ?_
      conv => whnf
      have htn : t = kids.length := by simp [places] at hc; omega
      have hrow2 : strs (usedG v (kids.take t)).reverse ++ List.replicate (kids.length - t) (D.str []) = strs (namesG v kids) := by
       subst htn; rw [List.take_of_length_le (Nat.le_refl _)]; simp [namesG]
      rw [hrow2]
      refine Tri.forgetK [(9, .raw nv)] [(59, .row nv (strs (namesG v kids)) 1 9)] [(59, 59)] ⟨⟨.refl _, trivial⟩, rfl, rfl, rfl, trivial⟩ ?_
      refine Tri.commitSt 59 9 rfl ?_
      refine Tri.seq ?_
      refine Tri.region ti_ok ?_
      conv => whnf
      refine Tri.ret ?_
      conv => whnf
      exact ⟨.refl _, .refl _, trivial⟩
end Go.Tame.V
/- Contracts: the other way of views: shown. By program (mk.py). -/
namespace Go.Tame.V
open Go Go.Proofs
variable {W0 : World}
set_option maxRecDepth 10000
set_option linter.unusedVariables false
set_option linter.unusedSimpArgs false

theorem shown_alt (v : Int) (n : NV) (l : Int) : shown v n l = (if !viewOk v || hiddenAt n.n6 v then false else if (n.kind == 2 && (v == 0 || v == 1)) then false else ((!(v == 0) || !(n.kind == 0)) || decide (l ≤ 8))) := by
 unfold shown
 split
 ·rfl
 ·rename_i h
  have hv : viewOk v = true := by cases hh : viewOk v with | true => rfl | false => rw [hh] at h; simp at h
  have hv4 : v = 0 ∨ v = 1 ∨ v = 2 ∨ v = 3 := by simp [viewOk] at hv; omega
  have hl : decide (l ≤ 8) = !decide (8 < l) := by rw [← decide_not]; congr 1; simp
  rw [hl]
  generalize decide (8 < l) = b
  by_cases h2 : n.kind = 2
  ·rcases hv4 with rfl | rfl | rfl | rfl <;> cases b <;> simp [h2]
  ·by_cases h0 : n.kind = 0
   ·rcases hv4 with rfl | rfl | rfl | rfl <;> cases b <;> simp [h0]
   ·have e0 : (n.kind == 0) = false := by simpa using h0
    have e2 : (n.kind == 2) = false := by simpa using h2
    rw [e0, e2]
    rcases hv4 with rfl | rfl | rfl | rfl <;> cases b <;> rfl
theorem F73 (v : Int) (n : NV) (l : Int) : DFun Tryz.prog W0 114 [.int .i64 v, encTop n, .int .i64 l] (.bool (shown v n l)) := by
 refine DFun.intro ti_ok Tryz.func114 rfl (by decide +kernel) Tryz.ntmps114 rfl fun Γ => ?_
 refine Tri.seq ?_
 refine Tri.region ti_ok ?_
 conv => whnf
 intro b
 conv => whnf
 refine Tri.seq ?_
 refine Tri.seq ?_
 refine Tri.region ti_ok ?_
 conv => whnf
 refine ⟨[.int .i64 v], _, fun _ => F53 v, ⟨.refl _, trivial⟩, ?_⟩
 conv => whnf
 refine ⟨fun h => h, ?_⟩
 conv => whnf
 refine ⟨rfl, ?_⟩
 conv => whnf
 refine ⟨fun h => h, ?_⟩
 conv => whnf
 refine ⟨fun h => h, ?_⟩
 conv => whnf
 refine ⟨fun h => by unfold viewOk at h; simp at h; omega, ?_⟩
 conv => whnf
 refine ⟨fun h => h, ?_⟩
 conv => whnf
 refine ⟨fun h => h, ?_⟩
 conv => whnf
 refine ⟨fun h0 h => by first | exact h | (rw [h]; rfl) | (rw [h0, h]; rfl), ?_⟩
 conv => whnf
 refine Tri.cond (!viewOk v || hiddenAt n.n6 v) (by simp only [← bif_or]; rfl) (fun hc => ?_) (fun hc => ?_)
 ·refine Tri.seq ?_
  refine Tri.region ti_ok ?_
  conv => whnf
  refine Tri.ret ?_
  conv => whnf
  exact DLe.of_eq (congrArg D.bool (by rw [shown_alt, if_pos hc]))
 ·refine Tri.skip ?_
  have hc1 := hc
  conv => whnf
  refine Tri.seq ?_
  refine Tri.seq ?_
  refine Tri.region ti_ok ?_
  conv => whnf
  refine ⟨rfl, ?_⟩
  conv => whnf
  refine ⟨fun h => h, ?_⟩
  conv => whnf
  refine ⟨fun h => h, ?_⟩
  conv => whnf
  refine ⟨fun h => h, ?_⟩
  conv => whnf
  refine ⟨fun h => h, ?_⟩
  conv => whnf
  refine ⟨fun h0 h => by first | exact h | (rw [h]; rfl) | (rw [h0, h]; rfl), ?_⟩
  conv => whnf
  refine ⟨fun h0 h => by first | exact h | (rw [h]; rfl) | (rw [h0, h]; rfl), ?_⟩
  conv => whnf
  refine Tri.cond (n.kind == 2 && (v == 0 || v == 1)) (by simp only [← bif_and, ← bif_or]; rfl) (fun hc => ?_) (fun hc => ?_)
  ·refine Tri.seq ?_
   refine Tri.region ti_ok ?_
   conv => whnf
   refine Tri.ret ?_
   conv => whnf
   exact DLe.of_eq (congrArg D.bool (by rw [shown_alt, if_neg (by rw [hc1]; simp), if_pos hc]))
  ·refine Tri.skip ?_
   conv => whnf
   refine Tri.seq ?_
   refine Tri.region ti_ok ?_
   conv => whnf
   refine ⟨fun h => h, ?_⟩
   conv => whnf
   refine ⟨rfl, ?_⟩
   conv => whnf
   refine ⟨fun h => h, ?_⟩
   conv => whnf
   refine ⟨fun h0 h => by first | exact h | (rw [h]; rfl) | (rw [h0, h]; rfl), ?_⟩
   conv => whnf
   refine ⟨fun h => h, ?_⟩
   conv => whnf
   refine ⟨fun h0 h => by first | exact h | (rw [h]; rfl) | (rw [h0, h]; rfl), ?_⟩
   conv => whnf
   refine Tri.ret ?_
   conv => whnf
   refine DLe.of_eq (congrArg D.bool ?_)
   rw [shown_alt, if_neg (by rw [hc1]; simp), if_neg (by rw [hc]; simp)]
   simp only [← bif_or]
   rfl
end Go.Tame.V
/- Contracts: the other way of views: one node. By program (mk50.py, mk.py). -/
namespace Go.Tame.V
open Go Go.Proofs
variable {W0 : World}
set_option maxRecDepth 10000
set_option linter.unusedVariables false
set_option linter.unusedSimpArgs false

end Go.Tame.V
/- Insertion, in the order of names. Plain. -/
namespace Go.Tame.V
open Go Go.Proofs
set_option maxRecDepth 10000
set_option linter.unusedVariables false
set_option linter.unusedSimpArgs false
variable {α : Type} (key : α → List UInt8)

end Go.Tame.V
/- The sorted tree. Plain. -/
namespace Go.Tame.V
open Go Go.Proofs
set_option maxRecDepth 10000
set_option linter.unusedVariables false

end Go.Tame.V
/- Contracts: the other way of trees: Sort. By program (mk53.py, mk.py). -/
namespace Go.Tame.V
open Go Go.Proofs
variable {W0 : World}
set_option maxRecDepth 10000
set_option linter.unusedVariables false
set_option linter.unusedSimpArgs false

end Go.Tame.V
/- Contracts: the other way of views: tree, View. By program (mk54.py, mk.py). -/
namespace Go.Tame.V
open Go Go.Proofs
variable {W0 : World}
set_option maxRecDepth 10000
set_option linter.unusedVariables false
set_option linter.unusedSimpArgs false

theorem namesG_len (v : Int) (ks : List NV) : (namesG v ks).length = ks.length := by simp [namesG, usedG_len]

end Go.Tame.V
/- Contracts: the other way of views: View, Check. By program (mk.py). -/
namespace Go.Tame.V
open Go Go.Proofs
variable {W0 : World}
set_option maxRecDepth 10000
set_option linter.unusedVariables false
set_option linter.unusedSimpArgs false

end Go.Tame.V
/- The names of every view; how large a shown tree is; a shown tree, shown again. Plain. -/
namespace Go.Tame.V
open Go Go.Proofs
variable {W0 : World}
set_option maxRecDepth 10000
set_option linter.unusedVariables false
set_option linter.unusedSimpArgs false

theorem namesG01 {v : Int} (hv : v = 0 ∨ v = 1) : namesG v = namesA v := by
 funext ks
 rw [namesG, namesA]
 congr 1
 refine snoc_rec (p := fun ks => usedG v ks = usedOf v ks) rfl (fun l x ih => ?_) ks
 rw [usedG_snoc, usedOf_snoc, ih, pickG, if_pos hv]
theorem namesG23 {v : Int} (hv : v = 2 ∨ v = 3) : namesG v = fun ks => ks.map NV.name := by
 funext ks
 rw [namesG]
 refine snoc_rec (p := fun ks => (usedG v ks).reverse = ks.map NV.name) rfl (fun l x ih => ?_) ks
 rw [usedG_snoc, pickG, if_neg (by omega), List.reverse_cons, ih]; simp
theorem view4 {v : Int} (h : viewOk v = true) : v = 0 ∨ v = 1 ∨ v = 2 ∨ v = 3 := by simp [viewOk] at h; omega
theorem namesGok (hL : LibOk W0) {v : Int} (h : viewOk v = true) : NamesOk W0 v (namesG v) := by
 rcases view4 h with h | h | h | h
 ·rw [namesG01 (.inl h)]; exact names01 hL (.inl h)
 ·rw [namesG01 (.inr h)]; exact names01 hL (.inr h)
 ·rw [namesG23 (.inl h)]; exact names23 hL (.inl h)
 ·rw [namesG23 (.inr h)]; exact names23 hL (.inr h)
theorem szS_ssize : ∀ l : List SV, szS l ≤ ssize l
 | [] => by simp [szS]
 | s :: r => by
  have := szS_ssize r
  simp only [szS, ssize]; omega
mutual
theorem sz_tsize : ∀ n : NV, 2 * n.name.length + 2 + sz n ≤ 2 * tsize n
 | .mk a b c d e f g h i j ks ss => by
  have h1 := szL_tsize ks
  have h2 := szS_ssize ss
  simp only [sz, tsize]; omega
theorem szL_tsize : ∀ l : List NV, szL l ≤ 2 * tsizeL l
 | [] => by simp [szL]
 | n :: r => by
  have h1 := sz_tsize n
  have h2 := szL_tsize r
  simp only [szL, tsizeL]; omega
end
theorem few_sz {n : NV} {s : Int} (h : few1 n s = true) : (sz n : Int) ≤ 2 * s ∧ cnt n ≤ 40 := by
 simp only [few1, Bool.and_eq_true, decide_eq_true_eq] at h
 have := sz_tsize n
 omega
end Go.Tame.V
/- naming.show, with a function that is called for each node. By program (mk63.py, mk.py). -/
namespace Go.Tame.V
open Go Go.Proofs
variable {W0 : World}
set_option maxRecDepth 10000
set_option linter.unusedVariables false
set_option linter.unusedSimpArgs false

section
variable {S : Type} (upd : List UInt8 → List UInt8 → S → S) (nm : List NV → List (List UInt8)) (v : Int)
end

end Go.Tame.V
/- naming.tree, with a function that is called for each node. By program (mk.py). -/
namespace Go.Tame.V
open Go Go.Proofs
variable {W0 : World}
set_option maxRecDepth 10000
set_option linter.unusedVariables false
set_option linter.unusedSimpArgs false

end Go.Tame.V
/- naming.show, with a function that is called for each node and keeps three objects. By program (mkn1.py, mk.py). -/
namespace Go.Tame.V
open Go Go.Proofs
variable {W0 : World}
set_option maxRecDepth 10000
set_option linter.unusedVariables false
set_option linter.unusedSimpArgs false

structure WS3 (S : Type) where
 o1 : S → HObj
 o2 : S → HObj
 o3 : S → HObj
def WS3.H {S : Type} (A : WS3 S) (s : S) : Heap := look [(2000, A.o1 s), (2001, A.o2 s), (2002, A.o3 s)]
end Go.Tame.V
/- naming.tree, with a function that is called for each node. By program (mk.py). -/
namespace Go.Tame.V
open Go Go.Proofs
variable {W0 : World}
set_option maxRecDepth 10000
set_option linter.unusedVariables false
set_option linter.unusedSimpArgs false

end Go.Tame.V
/- The functions that Path and Source call for each node. By program (mk.py). -/
namespace Go.Tame.V
open Go Go.Proofs
variable {W0 : World}
set_option maxRecDepth 10000
set_option linter.unusedVariables false
set_option linter.unusedSimpArgs false

end Go.Tame.V
/- Contracts: sourcetree's clone. By program (mkn4.py, mk.py). -/
namespace Go.Tame.V
open Go Go.Proofs
variable {W0 : World}
set_option maxRecDepth 10000
set_option linter.unusedVariables false
set_option linter.unusedSimpArgs false

end Go.Tame.V
/- Paths of a tree by lists of names; trees that do not differ. Plain. -/
namespace Go.Tame.V
open Go Go.Proofs
set_option maxRecDepth 10000
set_option linter.unusedVariables false
set_option linter.unusedSimpArgs false

theorem okT_kid {n k : NV} (h : okT n) (hk : k ∈ n.kids) : okT k := (okL_get ((okT_eq n).1 h).2.2.2 hk).2

theorem name_noslash {m : List UInt8} (h : nameOk m = true) : (47 : UInt8) ∉ m := by
 intro hm
 unfold nameOk at h
 rw [if_pos (.inr (.inr hm))] at h
 cases h
end Go.Tame.V
/- Contracts: the other way of trees: paths, Get, Equal. By program (mk.py). -/
namespace Go.Tame.V
open Go Go.Proofs
variable {W0 : World}
set_option maxRecDepth 10000
set_option linter.unusedVariables false
set_option linter.unusedSimpArgs false

end Go.Tame.V
/- Contracts: Equal of trees; the law ViewdiffEquals. By program (mk.py). -/
namespace Go.Tame.V
open Go Go.Proofs
variable {W0 : World}
set_option maxRecDepth 10000
set_option linter.unusedVariables false
set_option linter.unusedSimpArgs false

end Go.Tame.V
/- Contracts: sourcetree's find and Get. By program (mk.py). -/
namespace Go.Tame.V
open Go Go.Proofs
variable {W0 : World}
set_option maxRecDepth 10000
set_option linter.unusedVariables false
set_option linter.unusedSimpArgs false

end Go.Tame.V
/- The paths of the nodes that a view shows. Plain. -/
namespace Go.Tame.V
open Go Go.Proofs
set_option maxRecDepth 10000
set_option linter.unusedVariables false
set_option linter.unusedSimpArgs false

section
variable (nm : List NV → List (List UInt8)) (v : Int)
end
end Go.Tame.V
/- Contracts: naming's Path and Source. By program (mk.py). -/
namespace Go.Tame.V
open Go Go.Proofs
variable {W0 : World}
set_option maxRecDepth 10000
set_option linter.unusedVariables false
set_option linter.unusedSimpArgs false

end Go.Tame.V
/- Contracts: the other way of paths: pairs. By program (mk.py). -/
namespace Go.Tame.V
open Go Go.Proofs
variable {W0 : World}
set_option maxRecDepth 10000
set_option linter.unusedVariables false
set_option linter.unusedSimpArgs false

end Go.Tame.V
/- The names of any kids, in any order. Plain. -/
namespace Go.Tame.V
open Go Go.Proofs
variable {W0 : World}
set_option maxRecDepth 10000
set_option linter.unusedVariables false
set_option linter.unusedSimpArgs false

/-- The name that the kid with the name m gets, among kids in order. -/
def nameFor (v : Int) (ks : List NV) (m : List UInt8) : List UInt8 := (((ks.map NV.name).zip (namesG v ks)).lookup m).getD []
def namesU (v : Int) (kids : List NV) : List (List UInt8) := kids.map fun k => nameFor v (sortN kids) k.name
def allOk (kids : List NV) : Bool := kids.all fun k => nameOk k.name
/-- What Names hands back. -/
def namesR (v : Int) (kids : List NV) : List (List UInt8) × Int :=
 if viewOk v = false then ([], 2) else if 64 < kids.length then ([], 7) else if allOk kids = false then ([], 4) else if ¬ (kids.map NV.name).Nodup then ([], 5) else (namesU v kids, 0)
theorem lookup_zip : ∀ {a : List (List UInt8)} {b : List (List UInt8)} {i : Nat} (hn : a.Nodup) (h : i < a.length) (h' : i < b.length), (a.zip b).lookup a[i] = some b[i]
 | x :: a, y :: b, 0, _, _, _ => by simp [List.lookup]
 | x :: a, y :: b, i + 1, hn, h, h' => by
  rw [List.nodup_cons] at hn
  have ih := lookup_zip (a := a) (b := b) (i := i) hn.2 (by simpa using h) (by simpa using h')
  have hne : ((a[i]'(by simpa using h)) == x) = false := by
   rw [beq_eq_false_iff_ne]
   intro e
   exact hn.1 (e ▸ List.getElem_mem _)
  simp only [List.zip_cons_cons, List.getElem_cons_succ, List.lookup, hne]
  exact ih
theorem nameFor_get {v : Int} {ks : List NV} (hn : (ks.map NV.name).Nodup) {t : Nat} (h : t < ks.length) : nameFor v ks ks[t].name = (namesG v ks)[t]'(by rw [namesG_len]; exact h) := by
 have := lookup_zip (a := ks.map NV.name) (b := namesG v ks) (i := t) hn (by simpa using h) (by rw [namesG_len]; exact h)
 rw [List.getElem_map] at this
 rw [nameFor, this]; rfl
theorem inc_nodup {ks : List NV} (h : inc ks) : (ks.map NV.name).Nodup := by
 rw [List.nodup_iff_pairwise_ne, List.pairwise_map]
 exact List.pairwise_iff_getElem.2 fun i j hi hj hij => bl_ne (inc_get h hij hj)
theorem namesU_inc {v : Int} {ks : List NV} (h : inc ks) : namesU v ks = namesG v ks := by
 rw [namesU, sortN_id h]
 apply List.ext_getElem (by simp [namesG_len])
 intro i h1 h2
 rw [List.getElem_map, nameFor_get (inc_nodup h)]

theorem idxOf_get : ∀ {L : List Nat} {t : Nat} (hn : L.Nodup) (ht : t < L.length), L.idxOf L[t] = t
 | x :: r, 0, _, _ => by simp
 | x :: r, t + 1, hn, ht => by
  rw [List.nodup_cons] at hn
  have ht' : t < r.length := by simpa using ht
  have hne : ¬ (x == r[t]) = true := fun e => hn.1 (by rw [beq_iff_eq] at e; rw [e]; exact List.getElem_mem ht')
  rw [List.getElem_cons_succ, List.idxOf_cons, Bool.cond_eq_ite, if_neg hne, idxOf_get hn.2 ht']
/-- An order of the places, sorted by the names there. -/
structure Order (kids : List NV) (L : List Nat) : Prop where
 perm : L.Perm (List.range kids.length)
 sorted : ∀ (i j : Nat) (hi : i < L.length) (hj : j < L.length), i < j → Op.bytesLess (kids.getD L[j] default).name (kids.getD L[i] default).name = false
def inOrder (kids : List NV) (L : List Nat) : List NV := L.map fun i => kids.getD i default
section
variable {kids : List NV} {L : List Nat}
theorem Order.len (h : Order kids L) : L.length = kids.length := by rw [h.perm.length_eq]; simp
theorem Order.lt (h : Order kids L) {t : Nat} (ht : t < L.length) : L[t] < kids.length := List.mem_range.1 (h.perm.subset (List.getElem_mem ht))
theorem Order.nodup (h : Order kids L) : L.Nodup := h.perm.nodup_iff.2 List.nodup_range
theorem Order.mem (h : Order kids L) {j : Nat} (hj : j < kids.length) : j ∈ L := h.perm.symm.subset (List.mem_range.2 hj)
theorem order_perm (h : Order kids L) : (inOrder kids L).Perm kids := by
 have h1 := h.perm.map fun i => kids.getD i default
 have h2 : (List.range kids.length).map (fun i => kids.getD i default) = kids := by
  apply List.ext_getElem (by simp)
  intro i h1 h2
  simp at h1
  simp [List.getD, h1]
 rw [h2] at h1; exact h1
theorem order_len (h : Order kids L) : (inOrder kids L).length = kids.length := (order_perm h).length_eq
theorem order_get (h : Order kids L) {t : Nat} (ht : t < L.length) : (inOrder kids L)[t]'(by simp [inOrder]; exact ht) = kids[L[t]]'(h.lt ht) := by
 simp [inOrder, List.getD, h.lt ht]
/-- Without equal neighbours the order rises. -/
theorem order_inc (h : Order kids L) (hn : ∀ t, (h1 : t + 1 < L.length) → (kids.getD L[t] default).name ≠ (kids.getD L[t + 1] default).name) : inc (inOrder kids L) := fun i hi => by
 have hi' : i + 1 < L.length := by rw [h.len, ← order_len h]; exact hi
 have h1 := h.sorted i (i + 1) (by omega) hi' (by omega)
 have h2 := hn i hi'
 have e : ∀ t, (ht : t < L.length) → ((inOrder kids L).getD t default) = kids.getD L[t] default := fun t ht => by simp [inOrder, List.getD, ht]
 rw [e i (by omega), e (i + 1) hi']
 cases h3 : Op.bytesLess (kids.getD L[i] default).name (kids.getD L[i + 1] default).name with
 | true => rfl
 | false => exact absurd (bl_total _ _ h3 h1) h2
theorem order_sort (h : Order kids L) (hi : inc (inOrder kids L)) : sortN kids = inOrder kids L := by
 refine sorted_nodes hi ((sortN_perm kids).trans (order_perm h).symm) fun i j hi hj hij => List.pairwise_iff_getElem.1 (sortN_sorted kids) i j hi hj hij
theorem order_nodup (h : Order kids L) (hi : inc (inOrder kids L)) : (kids.map NV.name).Nodup := ((order_perm h).map NV.name).nodup_iff.1 (inc_nodup hi)
theorem order_dup (h : Order kids L) {s t : Nat} (hs : s < t) (ht : t < L.length) (e : (kids.getD L[s] default).name = (kids.getD L[t] default).name) : ¬ (kids.map NV.name).Nodup := fun hn => by
 have h1 := h.lt (t := s) (by omega)
 have h2 := h.lt ht
 have hne : L[s] ≠ L[t] := fun e => by
  have := (List.pairwise_iff_getElem.1 (List.nodup_iff_pairwise_ne.1 h.nodup)) s t (by omega) ht hs
  exact this e
 rw [List.nodup_iff_pairwise_ne, List.pairwise_map] at hn
 have hp := List.pairwise_iff_getElem.1 hn
 simp only [List.getD, List.getElem?_eq_getElem h1, List.getElem?_eq_getElem h2, Option.getD_some] at e
 rcases Nat.lt_trichotomy L[s] L[t] with l | l | l
 ·exact hp _ _ h1 h2 l e
 ·exact hne l
 ·exact hp _ _ h2 h1 l e.symm

/-- The row of names, some places of which are set. -/
def rowF (n : Nat) (L : List Nat) (g : Nat → List UInt8) (t : Nat) : List D := (List.range n).map fun j => if j ∈ L.take t then .str (g j) else .str []
theorem rowF_len {n : Nat} {g : Nat → List UInt8} {t : Nat} : (rowF n L g t).length = n := by simp [rowF]
theorem rowF_zero {n : Nat} {g : Nat → List UInt8} : rowF n L g 0 = List.replicate n (.str []) := by
 apply List.ext_getElem (by simp [rowF])
 intro i h1 h2
 simp [rowF]
theorem rowF_set {n : Nat} {g : Nat → List UInt8} {t : Nat} (ht : t < L.length) (hl : L[t] < n) : (rowF n L g t).set L[t] (.str (g L[t])) = rowF n L g (t + 1) := by
 apply List.ext_getElem (by simp [rowF])
 intro i h1 h2
 rw [List.getElem_set]
 simp only [rowF, List.getElem_map, List.getElem_range, List.take_succ_eq_append_getElem ht, List.mem_append, List.mem_singleton]
 by_cases e : L[t] = i
 ·subst e; simp
 ·have e' : ¬ i = L[t] := fun h => e h.symm
  rw [if_neg e]; simp [e']
theorem rowF_all {v : Int} (h : Order kids L) {g : Nat → List UInt8} (hg : ∀ j, (hj : j < kids.length) → g j = nameFor v (sortN kids) kids[j].name) : rowF kids.length L g L.length = strs (namesU v kids) := by
 apply List.ext_getElem (by simp [rowF, strs, namesU])
 intro i h1 h2
 have hi : i < kids.length := by simpa [rowF] using h1
 simp only [rowF, strs, namesU, List.getElem_map, List.getElem_range, List.take_length]
 rw [if_pos (h.mem hi), hg i hi]
/-- The name at a place, by the place's position in the order. -/
def pickAt (v : Int) (kids : List NV) (L : List Nat) (j : Nat) : List UInt8 := (namesG v (inOrder kids L)).getD (L.idxOf j) []
theorem pickAt_get (h : Order kids L) {v : Int} {t : Nat} (ht : t < L.length) : pickAt v kids L L[t] = pickG v (usedG v ((inOrder kids L).take t)) (kids[L[t]]'(h.lt ht)) := by
 have hlen : t < (inOrder kids L).length := by simp [inOrder]; exact ht
 rw [pickAt, idxOf_get h.nodup ht]
 have h1 : t < (namesG v (inOrder kids L)).length := by rw [namesG_len]; exact hlen
 rw [List.getD, List.getElem?_eq_getElem h1, Option.getD_some, ← order_get h ht]
 -- the t-th of the names is made out of the first t kids
 have key : ∀ (ks : List NV) (t : Nat) (ht : t < ks.length), (namesG v ks)[t]'(by rw [namesG_len]; exact ht) = pickG v (usedG v (ks.take t)) ks[t] := by
  intro ks t ht
  have e : ∀ ks : List NV, ∀ m, m ≤ ks.length → (usedG v ks).reverse.take m = (usedG v (ks.take m)).reverse := by
   intro ks
   refine snoc_rec (p := fun ks => ∀ m, m ≤ ks.length → (usedG v ks).reverse.take m = (usedG v (ks.take m)).reverse) (fun m hm => by simp at hm; subst hm; rfl) (fun l x ih m hm => ?_) ks
   rw [usedG_snoc, List.reverse_cons]
   by_cases hml : m ≤ l.length
   ·rw [List.take_append_of_le_length (by simp [usedG_len]; exact hml), ih m hml, List.take_append_of_le_length hml]
   ·have hm' : m = l.length + 1 := by simp at hm; omega
    subst hm'
    rw [List.take_of_length_le (by simp [usedG_len]), List.take_of_length_le (by simp), usedG_snoc, List.reverse_cons]
  have h2 := e ks (t + 1) (by omega)
  have h3 : (namesG v ks)[t]? = ((namesG v ks).take (t + 1))[t]? := by rw [List.getElem?_take, if_pos (by omega)]
  have h4 : (namesG v ks).take (t + 1) = (usedG v (ks.take (t + 1))).reverse := h2
  rw [h4, usedG_take ht, List.reverse_cons, List.getElem?_append_right (by simp [usedG_len]; omega)] at h3
  have h5 : (usedG v (ks.take t)).reverse.length = t := by simp [usedG_len]; omega
  rw [h5, Nat.sub_self] at h3
  rw [List.getElem?_eq_getElem (by rw [namesG_len]; exact ht)] at h3
  simpa using h3
 exact key _ t hlen
theorem pickAt_for (h : Order kids L) {v : Int} (hi : inc (inOrder kids L)) {j : Nat} (hj : j < kids.length) : pickAt v kids L j = nameFor v (sortN kids) kids[j].name := by
 obtain ⟨t, ht, rfl⟩ := List.mem_iff_getElem.1 (h.mem hj)
 have hlen : t < (inOrder kids L).length := by simp [inOrder]; exact ht
 rw [order_sort h hi, ← order_get h ht, nameFor_get (inc_nodup hi) hlen, pickAt, idxOf_get h.nodup ht, List.getD, List.getElem?_eq_getElem (by rw [namesG_len]; exact hlen), Option.getD_some]
end
/-- The sort of a row of places, by the names there. -/
theorem sort_order (kids : List NV) (hlen : kids.length < 1000000) (bb : Nat) (v : Value) :
  DCall Tryz.prog W0 76 [.raw v, .fn (.func 77) [] [.box 2000 bb 0]] (look [(2001, .row v (places kids.length) 1 3), (2000, .box bb [.sl .none 12 (kids.map enc)])]) fun d H' =>
   d = .tup [] ∧ ∃ L : List Nat, Order kids L ∧ H' = look [(2001, .row v (L.map encI) 1 3), (2000, .box bb [.sl .none 12 (kids.map enc)])] := by
 by_cases h0 : 0 < kids.length
 ·have hc := F123 (W0 := W0) kids h0 hlen bb v (List.finRange kids.length) (by simpa using h0) (by simpa using hlen)
  rw [places_fin] at hc
  refine hc.mono ?_
  rintro d H' ⟨rfl, ds', hp, hs, rfl⟩
  refine ⟨rfl, ds'.map (fun x => x.1), ⟨?_, fun i j hi hj hij => ?_⟩, by rw [List.map_map]; rfl⟩
  ·have := hp.map (fun x : Fin kids.length => x.1)
   have e : (List.finRange kids.length).map (fun x : Fin kids.length => x.1) = List.range kids.length := by
    apply List.ext_getElem (by simp)
    intro i h1 h2
    simp
   rwa [e] at this
  ·simp only [List.length_map] at hi hj
   have := hs i j hi hj hij
   simpa [List.getD] using this
 ·have hn : kids = [] := List.eq_nil_of_length_eq_zero (by omega)
  subst hn
  refine (F123_nil v _ _).mono ?_
  rintro d H' ⟨rfl, rfl⟩
  exact ⟨rfl, [], ⟨.refl _, fun i j hi => by simp at hi⟩, rfl⟩
end Go.Tame.V
/- The names that are made for a view are names. Plain. -/
namespace Go.Tame.V
open Go Go.Proofs
set_option maxRecDepth 10000
set_option linter.unusedVariables false
set_option linter.unusedSimpArgs false

theorem suf_digs {k : Nat} (hk : k < 100) : ∀ r ∈ sufI k, 48 ≤ r ∧ r ≤ 57 := by
 revert k
 have : ∀ k : Fin 100, ∀ r ∈ sufI k.1, 48 ≤ r ∧ r ≤ 57 := by decide +kernel
 intro k hk
 exact this ⟨k, hk⟩
theorem dotI_le : ∀ l : List Int, dotI l < l.length ∧ -1 ≤ dotI l
 | [] => by simp [dotI]
 | x :: r => by
  have := dotI_le r
  simp only [dotI, List.length_cons]
  split
  ·omega
  ·split <;> omega
end Go.Tame.V
/- Made names, made again: the same. A shown tree, shown again. Plain. -/
namespace Go.Tame.V
open Go Go.Proofs
set_option maxRecDepth 10000
set_option linter.unusedVariables false
set_option linter.unusedSimpArgs false

theorem want_runes (v : Int) {l : List Int} (h : ∀ r ∈ l, isChar r = true) (dir : Bool) :
  wantS v (runesB l) dir = ((partsC v l dir).1.map (mapC v), if (partsC v l dir).2 = [] then [] else 46 :: ((partsC v l dir).2.map (mapC v)).take (mostC v)) := by
 obtain ⟨q1, q2, q3⟩ := cut_chars v (charsP_of l h) dir
 unfold wantS
 rw [q1, q2]
 by_cases h : (partsC v l dir).2 = []
 ·rw [if_pos (q3.2 h), if_pos h]
 ·rw [if_neg (fun e => h (q3.1 e)), if_neg h]
/-- Characters that Joliet allows. -/
def jolOk (l : List Int) : Prop := (∀ r ∈ l, isChar r = true ∧ jolC r = r) ∧ l.length ≤ 64
/-- A stem and an extension of the ISO view. -/
structure IsoOk (dir : Bool) (l : List Int) (a b : List Int) : Prop where
 a1 : 1 ≤ a.length
 a8 : a.length ≤ 8
 b3 : b.length ≤ 3
 ca : ∀ r ∈ a, isChar r = true ∧ isoC r = r
 cb : ∀ r ∈ b, isChar r = true ∧ isoC r = r
 dir : dir = true → b = []
 eq : l = if b = [] then a else a ++ 46 :: b
end Go.Tame.V
/- What made names look like; they are made of themselves. Plain. -/
namespace Go.Tame.V
open Go Go.Proofs
set_option maxRecDepth 10000
set_option linter.unusedVariables false
set_option linter.unusedSimpArgs false

theorem iso_idem {r : Int} (h : isChar r = true) : isoC (isoC r) = isoC r := by
 obtain ⟨h1, _, _⟩ := (isChar_iff r).1 h
 by_cases h2 : 97 ≤ r ∧ r ≤ 122
 ·have e : isoC r = r - 97 + 65 := by rw [isoC, if_pos h2]
  rw [e, isoC, if_neg (by omega), if_pos ⟨by omega, by simp [dB]; omega⟩]
 ·by_cases h3 : r < 128 ∧ dB r = true
  ·have e : isoC r = r := by rw [isoC, if_neg h2, if_pos h3]
   rw [e, e]
  ·have e : isoC r = 95 := by rw [isoC, if_neg h2, if_neg h3]
   rw [e]; decide
theorem jol_idem (r : Int) : jolC (jolC r) = jolC r := by
 by_cases h : special r = true
 ·have e : jolC r = 95 := by rw [jolC, if_pos h]
  rw [e]; decide
 ·have e : jolC r = r := by rw [jolC, if_neg h]
  rw [e, e]
theorem digit_fix {r : Int} (h : 48 ≤ r ∧ r ≤ 57) : isChar r = true ∧ isoC r = r ∧ jolC r = r := by
 refine ⟨(isChar_iff r).2 (by omega), ?_, ?_⟩
 ·rw [isoC, if_neg (by omega), if_pos ⟨by omega, by simp [dB]; omega⟩]
 ·rw [jolC, if_neg]
  simp [special]; omega
/-- A made name, taken apart. -/
theorem made_shape {v : Int} (hv : v = 0 ∨ v = 1) {s : List UInt8} (hs : nameOk s = true) (dir : Bool) {k : Nat} (hk : k < 100) :
  ∃ l, numS v (wantS v s dir).1 (wantS v s dir).2 k = runesB l ∧ (v = 0 → ∃ a b, IsoOk dir l a b) ∧ jolOk l := by
 obtain ⟨l, hc, _, _, hl1, hl2⟩ := name_chars hs
 obtain ⟨hb, hch⟩ := chars_bytes s.length s l (Nat.le_refl _) hc
 obtain ⟨pc1, pc2⟩ := parts_char (v := v) (dir := dir) hch
 have hw := want_runes v hch dir
 rw [hb] at hw
 have hparts : 1 ≤ (partsC v l dir).1.length ∧ (v = 1 → (partsC v l dir).2.length ≤ 16) ∧ (dir = true → (partsC v l dir).2 = []) := by
  have hd := dotI_le l
  unfold partsC
  split
  ·rename_i h
   refine ⟨by simp; omega, fun h1 => ?_, fun h2 => ?_⟩
   ·rcases h.2.2.2 with h3 | h3
    ·omega
    ·simp; omega
   ·rw [h.1] at h2; cases h2
  ·split
   ·rename_i h
    exact ⟨by simp; omega, fun _ => by simp, fun _ => rfl⟩
   ·exact ⟨hl1, fun _ => by simp, fun _ => rfl⟩
 rw [hw]
 generalize (partsC v l dir).1 = a at *
 generalize (partsC v l dir).2 = b at *
 obtain ⟨ha1, hb16, hdir⟩ := hparts
 dsimp only
 refine ⟨_, rfl, fun h0 => ?_, ?_⟩
 ·subst h0
  have hS := suf_digs hk
  have hSl := sufI_len hk
  have hst : stemN 0 (a.map (mapC 0)) (if b = [] then [] else 46 :: (b.map (mapC 0)).take (mostC 0)) k + (sufI k).length ≤ 8 ∧ 1 ≤ stemN 0 (a.map (mapC 0)) (if b = [] then [] else 46 :: (b.map (mapC 0)).take (mostC 0)) k := by
   unfold stemN roomI
   rw [List.length_map, show ((0 : Int) == 1) = false from rfl, cond_false]
   refine ⟨by split <;> split <;> omega, by split <;> split <;> omega⟩
  generalize stemN 0 (a.map (mapC 0)) (if b = [] then [] else 46 :: (b.map (mapC 0)).take (mostC 0)) k = N at *
  have hmost : mostC 0 = 3 := by decide
  rw [hmost]
  have hfix : ∀ x : List Int, (∀ r ∈ x, isChar r = true) → ∀ r ∈ x.map (mapC 0), isChar r = true ∧ isoC r = r := fun x hx r hr => by
   obtain ⟨y, hy, rfl⟩ := List.mem_map.1 hr
   have e : mapC 0 y = isoC y := by simp [mapC]
   rw [e]
   exact ⟨by have := mapC_char (v := 0) (hx y hy); rwa [e] at this, iso_idem (hx y hy)⟩
  refine ⟨(a.map (mapC 0)).take N ++ sufI k, (b.map (mapC 0)).take 3, ?_⟩
  refine ⟨by simp; omega, by simp; omega, by simp; omega, fun r hr => ?_, fun r hr => hfix b pc2 r (List.mem_of_mem_take hr), fun hd => by rw [hdir hd]; rfl, ?_⟩
  ·rcases List.mem_append.1 hr with hr | hr
   ·exact hfix a pc1 r (List.mem_of_mem_take hr)
   ·have := digit_fix (hS r hr)
    exact ⟨this.1, this.2.1⟩
  ·by_cases hbn : b = []
   ·subst hbn; simp
   ·have hb3 : ¬ (b.map (mapC 0)).take 3 = [] := by
     cases b with
     | nil => exact absurd rfl hbn
     | cons x r => simp
    rw [if_neg hbn, if_neg hb3]
 ·have hS := suf_digs hk
  have hSl := sufI_len hk
  have hfix : ∀ x : List Int, (∀ r ∈ x, isChar r = true) → ∀ r ∈ x.map (mapC v), isChar r = true ∧ jolC r = r := fun x hx r hr => by
   obtain ⟨y, hy, rfl⟩ := List.mem_map.1 hr
   refine ⟨mapC_char (hx y hy), ?_⟩
   unfold mapC
   split
   ·-- a d-character or a line
    have h1 := iso_idem (hx y hy)
    rw [jolC, if_neg]
    intro hsp
    generalize isoC y = z at *
    have hz : z = 42 ∨ z = 47 ∨ z = 58 ∨ z = 59 ∨ z = 63 ∨ z = 92 := by simp [special] at hsp; omega
    rcases hz with rfl | rfl | rfl | rfl | rfl | rfl <;> revert h1 <;> decide
   ·exact jol_idem y
  have hex : ∀ r ∈ (if b = [] then [] else 46 :: (b.map (mapC v)).take (mostC v)), isChar r = true ∧ jolC r = r := fun r hr => by
   split at hr
   ·cases hr
   ·rcases List.mem_cons.1 hr with rfl | hr
    ·exact ⟨by decide, by decide⟩
    ·exact hfix b pc2 r (List.mem_of_mem_take hr)
  have hexl : (if b = [] then [] else 46 :: (b.map (mapC v)).take (mostC v)).length ≤ 17 ∧ (v = 0 → (if b = [] then [] else 46 :: (b.map (mapC v)).take (mostC v)).length ≤ 4) := by
   split
   ·simp
   ·refine ⟨?_, fun h0 => ?_⟩
    ·rcases hv with h0 | h1
     ·have : mostC v = 3 := by unfold mostC; rw [if_pos h0]
      simp; omega
     ·have := hb16 h1
      simp; omega
    ·have : mostC v = 3 := by unfold mostC; rw [if_pos h0]
     simp; omega
  generalize (if b = [] then [] else 46 :: (b.map (mapC v)).take (mostC v)) = ex at *
  have hst : stemN v (a.map (mapC v)) ex k + (sufI k).length + ex.length ≤ 64 := by
   unfold stemN roomI
   rw [List.length_map]
   rcases hv with rfl | rfl
   ·have := hexl.2 rfl
    rw [show ((0 : Int) == 1) = false from rfl, cond_false]
    split <;> split <;> omega
   ·rw [show ((1 : Int) == 1) = true from rfl, cond_true]
    split <;> split <;> omega
  refine ⟨fun r hr => ?_, by simp; omega⟩
  rcases List.mem_append.1 hr with hr | hr
  ·rcases List.mem_append.1 hr with hr | hr
   ·exact hfix a pc1 r (List.mem_of_mem_take hr)
   ·have := digit_fix (hS r hr)
    exact ⟨this.1, this.2.2⟩
  ·exact hex r hr
end Go.Tame.V
/- A shown tree is valid, and shows itself. Plain. -/
namespace Go.Tame.V
open Go Go.Proofs
set_option maxRecDepth 10000
set_option linter.unusedVariables false
set_option linter.unusedSimpArgs false

theorem namesG_at {v : Int} {ks : List NV} {t : Nat} (ht : t < ks.length) : (namesG v ks)[t]'(by rw [namesG_len]; exact ht) = pickG v (usedG v (ks.take t)) ks[t] := by
 have e : ∀ ks : List NV, ∀ m, m ≤ ks.length → (usedG v ks).reverse.take m = (usedG v (ks.take m)).reverse := by
  intro ks
  refine snoc_rec (p := fun ks => ∀ m, m ≤ ks.length → (usedG v ks).reverse.take m = (usedG v (ks.take m)).reverse) (fun m hm => by simp at hm; subst hm; rfl) (fun l x ih m hm => ?_) ks
  rw [usedG_snoc, List.reverse_cons]
  by_cases hml : m ≤ l.length
  ·rw [List.take_append_of_le_length (by simp [usedG_len]; exact hml), ih m hml, List.take_append_of_le_length hml]
  ·have hm' : m = l.length + 1 := by simp at hm; omega
   subst hm'
   rw [List.take_of_length_le (by simp [usedG_len]), List.take_of_length_le (by simp), usedG_snoc, List.reverse_cons]
 have h2 := e ks (t + 1) (by omega)
 have h3 : (namesG v ks)[t]? = ((namesG v ks).take (t + 1))[t]? := by rw [List.getElem?_take, if_pos (by omega)]
 have h4 : (namesG v ks).take (t + 1) = (usedG v (ks.take (t + 1))).reverse := h2
 rw [h4, usedG_take ht, List.reverse_cons, List.getElem?_append_right (by simp [usedG_len]; omega)] at h3
 have h5 : (usedG v (ks.take t)).reverse.length = t := by simp [usedG_len]; omega
 rw [h5, Nat.sub_self, List.getElem?_eq_getElem (by rw [namesG_len]; exact ht)] at h3
 simpa using h3
end Go.Tame.V
/- The paths in a view of the nodes that it shows are the paths of the shown tree. Plain. -/
namespace Go.Tame.V
open Go Go.Proofs
set_option maxRecDepth 10000
set_option linter.unusedVariables false
set_option linter.unusedSimpArgs false

section
variable (nm : List NV → List (List UInt8)) (v : Int)
end
end Go.Tame.V
/- Contracts: the other way of Path and Source. By program (mk.py). -/
namespace Go.Tame.V
open Go Go.Proofs
variable {W0 : World}
set_option maxRecDepth 10000
set_option linter.unusedVariables false
set_option linter.unusedSimpArgs false

end Go.Tame.V
/- Contracts: the chapter's example. By program (mk.py). -/
namespace Go.Tame.V
open Go Go.Proofs
variable {W0 : World}
set_option maxRecDepth 10000
set_option linter.unusedVariables false
set_option linter.unusedSimpArgs false

end Go.Tame.V
/- Contracts: identifiers. By program (mk.py). -/
namespace Go.Tame.V
open Go Go.Proofs
variable {W0 : World}
set_option maxRecDepth 10000
set_option linter.unusedVariables false
set_option linter.unusedSimpArgs false

theorem G81 (hL : LibOk W0) (s p : List UInt8) (hs : s.length < 4294967281) : DFun Tryz.prog W0 81 [.str s, .str p] (.tup [.str (Lib.cut s p).1, .str (Lib.cut s p).2.1, .bool (Lib.cut s p).2.2]) := by
 obtain ⟨m, hm⟩ := hL.maxlen
 exact .lift (callable Tryz.func81 rfl (by decide +kernel)) rfl fun w hb => (Tryz.strings_Cut ⟨⟨s⟩⟩ ⟨⟨p⟩⟩ m w hs (cell_base hb hm)).mono fun e w' ⟨he, n, hw⟩ => by
  subst hw
  exact ⟨_, he, fun C => .tup _ _ rfl fun i d v hd hv => by
   match i with
   | 0 => cases hd; cases hv; exact .str _
   | 1 => cases hd; cases hv; exact .str _
   | 2 => cases hd; cases hv; exact .bool _
   | i + 3 => simp at hd, ⟨rfl, rfl, rfl, Nat.le_refl _, fun _ _ => rfl⟩⟩
def cutSuf (s p : List UInt8) : List UInt8 × Bool := if Lib.hasSuffix s p then (s.take (s.length - p.length), true) else (s, false)
def isDB (s : List UInt8) (m : Int) : Bool := decide ((1 : Int) ≤ s.length) && (decide ((s.length : Int) ≤ m) && dStr s)
theorem G82 (s : List UInt8) (m : Int) : DFun Tryz.prog W0 82 [.str s, .int .i64 m] (.bool (isDB s m)) := by
 refine DFun.intro ti_ok Tryz.func82 rfl (by decide +kernel) Tryz.ntmps82 rfl fun Γ => ?_
 refine Tri.seq ?_
 refine Tri.region ti_ok ?_
 conv => whnf
 refine Tri.seq ?_
 refine Tri.region ti_ok ?_
 conv => whnf
 refine ⟨fun h => h, ?_⟩
 conv => whnf
 refine ⟨fun h => h, ?_⟩
 conv => whnf
 refine ⟨fun h => h, ?_⟩
 conv => whnf
 refine ⟨fun h0 h => by first | exact h | (rw [h]; rfl) | (rw [h0, h]; rfl), ?_⟩
 conv => whnf
 refine ⟨fun h => h, ?_⟩
 conv => whnf
 refine ⟨[.str s], _, fun h => F171 s, ⟨.refl _, trivial⟩, ?_⟩
 conv => whnf
 refine ⟨fun h0 h => by first | exact h | (rw [h]; rfl) | (rw [h0, h]; rfl), ?_⟩
 conv => whnf
 refine Tri.ret ?_
 conv => whnf
 refine DLe.of_eq (congrArg D.bool ?_)
 unfold isDB
 by_cases h1 : (1 : Int) ≤ s.length <;> by_cases h2 : (s.length : Int) ≤ m <;> simp [h1, h2]
/-- Whether a text can be a name in the ISO view. -/
def validI (s : List UInt8) (dir : Bool) : Bool := !((Lib.cut s [46]).2.2 && (dir || !isDB (Lib.cut s [46]).2.1 3)) && isDB (Lib.cut s [46]).1 8
theorem G31 (hL : LibOk W0) (s : List UInt8) (dir : Bool) (hs : s.length < 1000000000) : DFun Tryz.prog W0 31 [.int .i64 0, .str s, .bool dir] (.bool (validI s dir)) := by
 refine DFun.intro ti_ok Tryz.func31 rfl (by decide +kernel) Tryz.ntmps31 rfl fun Γ => ?_
 refine Tri.seq ?_
 refine Tri.region ti_ok ?_
 conv => whnf
 refine Tri.seq ?_
 refine Tri.seq ?_
 refine Tri.region ti_ok ?_
 conv => whnf
 refine Tri.block ?_
 refine Tri.seq ?_
 refine Tri.region ti_ok ?_
 conv => whnf
 refine Tri.cond true rfl (fun hc => ?_) (fun hc => by cases hc)
 ·refine Tri.seq ?_
  refine Tri.region ti_ok ?_
  conv => whnf
  refine ⟨[.str s, .str [46]], _, fun _ => G81 hL s [46] (by omega), ⟨.refl _, .refl _, trivial⟩, ?_⟩
  conv => whnf
  refine Tri.seq ?_
  refine Tri.seq ?_
  refine Tri.region ti_ok ?_
  conv => whnf
  refine ⟨fun h => h, ?_⟩
  conv => whnf
  refine ⟨fun h => h, ?_⟩
  conv => whnf
  refine ⟨[.str (Lib.cut s [46]).2.1, .int .i64 3], _, fun h => G82 _ 3, ⟨.refl _, .refl _, trivial⟩, ?_⟩
  conv => whnf
  refine ⟨fun h => h, ?_⟩
  conv => whnf
  refine ⟨fun h => h, ?_⟩
  conv => whnf
  refine ⟨fun h0 h => by first | exact h | (rw [h]; rfl) | (rw [h0, h]; rfl), ?_⟩
  conv => whnf
  refine ⟨fun h0 h => by first | exact h | (rw [h]; rfl) | (rw [h0, h]; rfl), ?_⟩
  conv => whnf
  refine Tri.cond _ rfl (fun hc => ?_) (fun hc => ?_)
  ·refine Tri.seq ?_
   refine Tri.region ti_ok ?_
   conv => whnf
   refine Tri.ret ?_
   conv => whnf
   have hc' : ((Lib.cut s [46]).2.2 && (dir || !isDB (Lib.cut s [46]).2.1 3)) = true := by revert hc; cases (Lib.cut s [46]).2.2 <;> cases dir <;> simp
   refine DLe.of_eq (congrArg D.bool ?_)
   rw [validI, hc']; rfl
  ·refine Tri.skip ?_
   conv => whnf
   refine Tri.seq ?_
   refine Tri.region ti_ok ?_
   conv => whnf
   refine ⟨[.str (Lib.cut s [46]).1, .int .i64 8], _, fun _ => G82 _ 8, ⟨.refl _, .refl _, trivial⟩, ?_⟩
   conv => whnf
   refine Tri.ret ?_
   conv => whnf
   have hc' : ((Lib.cut s [46]).2.2 && (dir || !isDB (Lib.cut s [46]).2.1 3)) = false := by revert hc; cases (Lib.cut s [46]).2.2 <;> cases dir <;> simp
   refine DLe.of_eq (congrArg D.bool ?_)
   rw [validI, hc']; rfl
def hasDot (s : List UInt8) : Bool := decide (0 ≤ Lib.indexByte s 46)
/-- What Identifier returns. -/
def identI (s : List UInt8) (dir : Bool) : List UInt8 × Int :=
 if validI s dir = true then if dir = true then (s, 0) else if hasDot s = true then (s ++ [59, 49], 0) else (s ++ [46, 59, 49], 0) else ([], 4)
theorem G32 (hL : LibOk W0) (s : List UInt8) (dir : Bool) (hs : s.length < 1000000000) : DFun Tryz.prog W0 32 [.str s, .bool dir] (.tup [.str (identI s dir).1, .int .i64 (identI s dir).2]) := by
 refine DFun.intro ti_ok Tryz.func32 rfl (by decide +kernel) Tryz.ntmps32 rfl fun Γ => ?_
 refine Tri.seq ?_
 refine Tri.region ti_ok ?_
 conv => whnf
 refine Tri.seq ?_
 refine Tri.seq ?_
 refine Tri.region ti_ok ?_
 conv => whnf
 refine ⟨[.int .i64 0, .str s, .bool dir], _, fun _ => G31 hL s dir hs, ⟨.refl _, .refl _, .refl _, trivial⟩, ?_⟩
 conv => whnf
 refine Tri.cond _ rfl (fun hc => ?_) (fun hc => ?_)
 ·refine Tri.seq ?_
  refine Tri.region ti_ok ?_
  conv => whnf
  refine Tri.ret ?_
  conv => whnf
  have h : ¬ validI s dir = true := by simpa using hc
  rw [identI, if_neg h]
  exact ⟨.refl _, .refl _, trivial⟩
 ·refine Tri.skip ?_
  conv => whnf
  refine Tri.seq ?_
  refine Tri.block ?_
  refine Tri.seq ?_
  have h : validI s dir = true := by simpa using hc
  refine Tri.region ti_ok ?_
  conv => whnf
  refine Tri.cond dir rfl (fun hd => ?_) (fun hd => ?_)
  ·refine Tri.seq ?_
   refine Tri.region ti_ok ?_
   conv => whnf
   refine Tri.ret ?_
   conv => whnf
   rw [identI, if_pos h, if_pos hd]
   exact ⟨.refl _, .refl _, trivial⟩
  ·refine Tri.seq ?_
   refine Tri.region ti_ok ?_
   conv => whnf
   refine ⟨[.str s, .str [46]], _, fun _ => F119 s 46, ⟨.refl _, .refl _, trivial⟩, ?_⟩
   conv => whnf
   refine Tri.cond (hasDot s) rfl (fun h2 => ?_) (fun h2 => ?_)
   ·refine Tri.seq ?_
    refine Tri.region ti_ok ?_
    conv => whnf
    refine ⟨fun _ => by simp; omega, ?_⟩
    conv => whnf
    refine Tri.ret ?_
    conv => whnf
    rw [identI, if_pos h, if_neg (by rw [hd]; simp), if_pos h2]
    exact ⟨.refl _, .refl _, trivial⟩
   ·refine Tri.skip ?_
    conv => whnf
    refine Tri.seq ?_
    refine Tri.region ti_ok ?_
    conv => whnf
    refine ⟨fun _ => by simp; omega, ?_⟩
    conv => whnf
    refine Tri.ret ?_
    conv => whnf
    rw [identI, if_pos h, if_neg (by rw [hd]; simp), if_neg (by rw [h2]; simp)]
    exact ⟨.refl _, .refl _, trivial⟩
def chkI (id m : List UInt8) (dir : Bool) : List UInt8 × Int := if (identI m dir).2 = 0 ∧ (identI m dir).1 = id then (m, 0) else ([], 4)
/-- What Name returns. -/
def nameI (id : List UInt8) (dir : Bool) : List UInt8 × Int :=
 if dir = true then chkI id id dir else if (cutSuf id [59, 49]).2 = true then chkI id (Lib.trimSuffix (cutSuf id [59, 49]).1 [46]) dir else ([], 4)
end Go.Tame.V
/- The chapter's example, evaluated. Plain. -/
namespace Go.Tame.V
open Go Go.Proofs
set_option maxRecDepth 10000
set_option linter.unusedVariables false
set_option linter.unusedSimpArgs false

end Go.Tame.V
