/- A program logic of my own over the model, and contracts of this program's functions by it: part 4. No conditions of its own: each theorem states its own. -/
import Derived.Test.YtpkeldhgfdeebaaGreatDoorL3
import Derived.Lib.MapLaws
import Derived.Lib.TrimUEq
set_option linter.unnecessarySimpa false
set_option linter.unusedSimpArgs false
set_option linter.unusedVariables false
/- Contracts: characters of names. By program (mk.py). -/
namespace Go.Tame.V
open Go Go.Proofs
variable {W0 : World}
set_option maxRecDepth 10000
set_option linter.unusedVariables false
set_option linter.unusedSimpArgs false

theorem F199 (s : List UInt8) (c : Int) : DFun Tryz.prog W0 219 [.str s,.int .u8 c] (.int .i64 (Lib.indexByte s c.toNat.toUInt8)) :=
 .pure (callable Tryz.func219 rfl (by decide +kernel)) rfl rfl fun w _ => Tryz.strings_IndexByte ⟨⟨s⟩⟩ c w
theorem F200 (r : Int) : DFun Tryz.prog W0 220 [.int .i32 r] (.bool (Lib.validRune r)) :=
 .pure (callable Tryz.func220 rfl (by decide +kernel)) rfl rfl fun w _ => Tryz.utf8_ValidRune r w
theorem F172 (s p : List UInt8) (hs : s.length ≤ 9223372036854775807) : DFun Tryz.prog W0 86 [.str s,.str p] (.str (Lib.trimSuffix s p)) :=
 .pure (callable Tryz.func86 rfl (by decide +kernel)) rfl rfl fun w _ => Tryz.strings_TrimSuffix ⟨⟨s⟩⟩ ⟨⟨p⟩⟩ w hs
theorem F143 (i : Nat) (hi : i < 100) : DFun Tryz.prog W0 90 [.int .i64 (i : Nat)] (.str (Lib.decDigits i)) :=
 .pure (callable Tryz.func90 rfl (by decide +kernel)) rfl rfl fun w _ => Tryz.strconv_Itoa_small i hi w

def forb : List UInt8:=[42,47,58,59,63,92]
theorem idx_none {c : UInt8} : ∀ {l : List UInt8},(∀ b ∈ l,b ≠ c) → Lib.indexByte l c = -1
 | [],_ => rfl
 | b::l,h => by
  have ih:=idx_none (l:=l) fun x hx => h x (List.mem_cons_of_mem _ hx)
  unfold Lib.indexByte
  rw [if_neg (by simpa using h b List.mem_cons_self),ih]; rfl
theorem forb_small : ∀ b ∈ forb,b.toNat < 128:=by decide +kernel
theorem dec_forb : ∀ p,p < 6 → (Utf8.decode ⟨⟨forb⟩⟩ p).2 = 1 ∧ (Utf8.decode ⟨⟨forb⟩⟩ p).1 < 128:=by decide +kernel
theorem enc_last (r : Int) (h0 : 128 ≤ r) (h1 : r ≤ 65533) (hs : r < 55296 ∨ 57343 < r) : ∃ (e : List UInt8) (c : UInt8),(Utf8.encode r).data.toList = e ∧ 2 ≤ e.length ∧ e.length ≤ 4 ∧ e[e.length - 1]? = some c ∧ 128 ≤ c.toNat:=by
 have hv : Utf8.valid r = true:=by simp [Utf8.valid]; omega
 obtain ⟨h2,h3,h4⟩:=encode_facts r hv h0
 have hsz : (Utf8.encode r).size = (Utf8.encode r).data.toList.length:=rfl
 have hlt : (Utf8.encode r).size - 1 < (Utf8.encode r).size:=by omega
 refine ⟨_,_,rfl,by omega,by omega,?_,h4 hlt⟩
 rw [← hsz,List.getElem?_eq_getElem (by omega)]
 rfl

theorem F190 (r : Int) (h0 : 128 ≤ r) (h1 : r ≤ 65533) (hs : r < 55296 ∨ 57343 < r) : DFun Tryz.prog W0 177 [.str forb,.int .i32 r] (.int .i64 (-1)):=by
 refine DFun.intro ti_ok Tryz.func177 rfl (by decide +kernel) Tryz.ntmps177 rfl fun Γ => ?_
 refine Tri.seq ?_
 refine Tri.region ti_ok ?_
 conv => whnf
 refine Tri.block ?_
 refine Tri.seq ?_
 refine Tri.region ti_ok ?_
 conv => whnf
 refine ⟨fun h => h,?_⟩
 conv => whnf
 refine ⟨fun h0 h => by first | exact h | (rw [h]; rfl) | (rw [h0,h]; rfl),?_⟩
 conv => whnf
 refine Tri.cond _ rfl (fun hc => ?_) (fun hc => ?_)
 ·exfalso
  have : decide (r < 128) = false:=by simp; omega
  cases h2 : decide ((0 : Int) ≤ r) <;> rw [h2] at hc <;> first | (cases hc; done) | (rw [this] at hc; cases hc)
 ·refine Tri.seq ?_
  refine Tri.region ti_ok ?_
  conv => whnf
  refine Tri.cond _ rfl (fun hc => ?_) (fun hc => ?_)
  ·refine Tri.seq ?_
   refine Tri.seq ?_
   refine Tri.regionX ti_ok ?_
   conv => whnf
   refine .inr (XOp.rangeStr rfl rfl fun bi => ?_)
   conv => whnf
   refine Tri.block ?_
   refine Tri.loopK (α:={ p : Nat // p ≤ 6 }) (fun x => [(175,.raw (.pointer (some ⟨bi,0,none⟩)))]) (fun x => [(175,.obj bi (.stringIter ⟨⟨forb⟩⟩ x.1))]) (fun x => 6 - x.1) ⟨0,by omega⟩ [(175,175)] ⟨⟨.refl _,trivial⟩,rfl,rfl,rfl,trivial⟩ ?_
   rintro ⟨p,hp⟩
   refine Tri.seq ?_
   refine Tri.regionX ti_ok ?_
   conv => whnf
   refine .inr (XOp.nextStr 175 rfl rfl (fun hlt => ?_) (fun hlt => ?_))
   ·have hp6 : p < 6:=hlt
    obtain ⟨hd1,hd2⟩:=dec_forb p hp6
    conv => whnf
    refine Tri.seq ?_
    refine Tri.cond _ rfl (fun hc => ?_) (fun hc => ?_)
    ·refine Tri.skip ?_
     conv => whnf
     refine Tri.block ?_
     refine Tri.seq ?_
     refine Tri.region ti_ok ?_
     conv => whnf
     refine Tri.seq ?_
     refine Tri.region ti_ok ?_
     conv => whnf
     refine Tri.cond _ rfl (fun hc => ?_) (fun hc => ?_)
     ·exfalso
      have : (((Utf8.decode ⟨⟨forb⟩⟩ p).1 : Nat) : Int) = 65533:=by simpa using hc
      omega
     ·refine Tri.skip ?_
      conv => whnf
      refine ⟨⟨p + 1,by omega⟩,[(175,175)],by show 6 - (p + 1) < 6 - p; omega,⟨.refl _,trivial⟩,rfl,rfl,?_,trivial⟩
      exact congrArg (fun z => some (HObj.obj bi (.stringIter ⟨⟨forb⟩⟩ (p + z)))) hd1
    ·cases hc
   ·conv => whnf
    refine Tri.seq ?_
    refine Tri.cond _ rfl (fun hc => ?_) (fun hc => ?_)
    ·cases hc
    ·refine Tri.exit ?_
     conv => whnf
     refine Tri.seq ?_
     refine Tri.region ti_ok ?_
     conv => whnf
     refine Tri.ret ?_
     conv => whnf
     exact .refl _
  ·refine Tri.seq ?_
   refine Tri.region ti_ok ?_
   conv => whnf
   refine ⟨[.int .i32 r],_,fun _ => F200 r,⟨.refl _,trivial⟩,?_⟩
   conv => whnf
   refine Tri.cond _ rfl (fun hc => ?_) (fun hc => ?_)
   ·exfalso
    have : Lib.validRune r = true:=by simp [Lib.validRune]; omega
    rw [this] at hc; cases hc
   ·refine Tri.scope ?_
    obtain ⟨e,c,he,hl2,hl4,hec,hc128⟩:=enc_last r h0 h1 hs
    refine Tri.seq ?_
    refine Tri.region ti_ok ?_
    conv => whnf
    rw [he]
    refine Tri.seq ?_
    refine Tri.region ti_ok ?_
    conv => whnf
    refine .inl ⟨fun _ => by simp [InR]; omega,?_⟩
    conv => whnf
    refine Tri.seq ?_
    refine Tri.region ti_ok ?_
    conv => whnf
    refine Tri.seq ?_
    refine Tri.region ti_ok ?_
    conv => whnf
    refine Tri.seq ?_
    refine Tri.block ?_
    have hfl : forb.length = 6:=rfl
    refine Tri.loop (α:=Unit) (fun x => [(0,.str forb),(7,.str e),(8,.int .i64 ((e.length : Int) - 1)),(9,.int .i64 ((e.length : Int) - 1))]) (fun _ => []) (fun x => 0) () ⟨.refl _,.refl _,.refl _,.refl _,trivial⟩ trivial ?_
    rintro ⟨⟩
    have hpos : ((e.length : Int) - 1).toNat = e.length - 1:=by omega
    have hfb : forb[e.length - 1]? = some (forb[e.length - 1]'(by omega)):=List.getElem?_eq_getElem (by omega)
    have hfs:=forb_small _ (List.getElem_mem (l:=forb) (n:=e.length - 1) (by omega))
    refine Tri.seq ?_
    refine Tri.seq ?_
    refine Tri.region ti_ok ?_
    conv => whnf
    refine Tri.cond _ rfl (fun hc => ?_) (fun hc => ?_)
    ·refine Tri.skip ?_
     have hc6 : (e.length : Int) - 1 < 6:=by omega
     conv => whnf
     refine Tri.block ?_
     refine Tri.scope ?_
     refine Tri.seq ?_
     ·refine Tri.seq ?_
      refine Tri.draw ti_ok mixed (by kernel_rfl) ?_
      conv => whnf
      refine ⟨forb[e.length - 1]'(by omega),fun _ => ⟨by omega,by rw [hpos]; exact hfb⟩,?_⟩
      conv => whnf
      refine ⟨c,fun _ => ⟨by omega,by rw [hpos]; exact hec⟩,?_⟩
      conv => whnf
      refine Tri.cond _ rfl (fun hc => ?_) (fun hc => ?_)
      ·refine Tri.seq ?_
       refine Tri.draw ti_ok mixed (by kernel_rfl) ?_
       conv => whnf
       refine .inl ⟨fun _ => by simp [InR]; omega,?_⟩
       conv => whnf
       refine ⟨fun _ => by rw [hfl]; omega,?_⟩
       conv => whnf
       refine ⟨c,fun _ => ⟨by omega,by rw [hpos]; exact hec⟩,?_⟩
       conv => whnf
       refine ⟨[.str ((forb.take ((forb.length : Nat) : Int).toNat).drop ((e.length : Int) - 1 + 1).toNat),.int .u8 c.toNat],.int .i64 (-1),fun _ => by
        have:=F199 (W0:=W0) ((forb.take ((forb.length : Nat) : Int).toNat).drop ((e.length : Int) - 1 + 1).toNat) c.toNat
        rw [idx_none (fun b hb hbc => by
         have h2:=forb_small b (List.mem_of_mem_take (List.mem_of_mem_drop hb))
         rw [hbc] at h2
         have h3 : ((c.toNat : Int).toNat.toUInt8).toNat = c.toNat:=by simp
         omega)] at this
        exact this,⟨.refl _,.refl _,trivial⟩,?_⟩
       conv => whnf
       refine Tri.seq ?_
       refine Tri.seq ?_
       refine Tri.region ti_ok ?_
       conv => whnf
       refine Tri.cond _ rfl (fun hc => ?_) (fun hc => ?_)
       ·refine Tri.seq ?_
        refine Tri.region ti_ok ?_
        conv => whnf
        refine Tri.ret ?_
        conv => whnf
        exact .refl _
       ·cases hc
      ·exfalso
       have : ((forb[e.length - 1]'(by omega)).toNat : Int) = (c.toNat : Int):=by simpa using hc
       omega
    ·exfalso
     rw [hfl] at hc
     simp at hc
     omega
def special (r : Int) : Bool:=r == 42 || r == 47 || r == 58 || r == 59 || r == 63 || r == 92
theorem special_tab : ∀ n : Nat,n < 128 → decide (0 ≤ Lib.indexByte forb ((n : Int).toNat.toUInt8)) = special n:=by decide +kernel
theorem isChar_iff (r : Int) : isChar r = true ↔ 32 ≤ r ∧ r ≤ 65533 ∧ (r < 55296 ∨ 57343 < r):=by simp [isChar]
theorem F170 (r : Int) (h : isChar r = true) : DFun Tryz.prog W0 173 [.str forb,.int .i32 r] (.bool (special r)):=by
 obtain ⟨h1,h2,h3⟩:=(isChar_iff r).1 h
 by_cases h128 : r < 128
 ·have hn : r = (r.toNat : Int):=by omega
  have:=special_tab r.toNat (by omega)
  rw [← hn] at this
  rw [← this]
  exact .pure (callable Tryz.func173 rfl (by decide +kernel)) rfl rfl fun w _ => Tryz.strings_ContainsRune_ascii ⟨⟨forb⟩⟩ r w (by omega) h128
 ·have hsp : special r = false:=by simp [special]; omega
  rw [hsp]
  refine DFun.intro ti_ok Tryz.func173 rfl (by decide +kernel) Tryz.ntmps173 rfl fun Γ => ?_
  refine Tri.seq ?_
  refine Tri.region ti_ok ?_
  conv => whnf
  refine Tri.seq ?_
  refine Tri.region ti_ok ?_
  conv => whnf
  refine ⟨[.str forb,.int .i32 r],_,fun _ => F190 r (by omega) h2 h3,⟨.refl _,.refl _,trivial⟩,?_⟩
  conv => whnf
  refine Tri.ret ?_
  conv => whnf
  exact .refl _
/-- A character that Joliet allows. -/
def jolC (r : Int) : Int:=if special r then 95 else r
theorem F139 (r : Int) (h : isChar r = true) : DFun Tryz.prog W0 123 [.int .i32 r] (.int .i32 (jolC r)):=by
 refine DFun.intro ti_ok Tryz.func123 rfl (by decide +kernel) Tryz.ntmps123 rfl fun Γ => ?_
 refine Tri.seq ?_
 refine Tri.region ti_ok ?_
 conv => whnf
 refine Tri.seq ?_
 refine Tri.seq ?_
 refine Tri.region ti_ok ?_
 conv => whnf
 refine ⟨[.str forb,.int .i32 r],_,fun _ => F170 r h,⟨.refl _,.refl _,trivial⟩,?_⟩
 conv => whnf
 refine Tri.cond _ rfl (fun hc => ?_) (fun hc => ?_)
 ·refine Tri.seq ?_
  refine Tri.region ti_ok ?_
  conv => whnf
  refine Tri.ret ?_
  conv => whnf
  exact DLe.of_eq (congrArg (D.int .i32) (by rw [jolC,if_pos hc]))
 ·refine Tri.skip ?_
  conv => whnf
  refine Tri.seq ?_
  refine Tri.region ti_ok ?_
  conv => whnf
  refine Tri.ret ?_
  conv => whnf
  exact DLe.of_eq (congrArg (D.int .i32) (by rw [jolC,if_neg (by rw [hc]; simp)]))
def dB (c : Int) : Bool:=((decide (65 ≤ c) && decide (c ≤ 90)) || (decide (48 ≤ c) && decide (c ≤ 57))) || c == 95
theorem F192 (c : Int) : DFun Tryz.prog W0 176 [.int .u8 c] (.bool (dB c)):=by
 refine DFun.intro ti_ok Tryz.func176 rfl (by decide +kernel) Tryz.ntmps176 rfl fun Γ => ?_
 refine Tri.seq ?_
 refine Tri.region ti_ok ?_
 conv => whnf
 refine Tri.seq ?_
 refine Tri.region ti_ok ?_
 conv => whnf
 refine ⟨fun h => h,?_⟩
 conv => whnf
 refine ⟨fun h0 h => by first | exact h | (rw [h]; rfl) | (rw [h0,h]; rfl),?_⟩
 conv => whnf
 refine ⟨fun h => h,?_⟩
 conv => whnf
 refine ⟨fun h => h,?_⟩
 conv => whnf
 refine ⟨fun h => h,?_⟩
 conv => whnf
 refine ⟨fun h => h,?_⟩
 conv => whnf
 refine ⟨fun h0 h => by first | exact h | (rw [h]; rfl) | (rw [h0,h]; rfl),?_⟩
 conv => whnf
 refine ⟨fun h0 h => by first | exact h | (rw [h]; rfl) | (rw [h0,h]; rfl),?_⟩
 conv => whnf
 refine ⟨fun h => h,?_⟩
 conv => whnf
 refine ⟨fun h0 h => by first | exact h | (rw [h]; rfl) | (rw [h0,h]; rfl),?_⟩
 conv => whnf
 refine Tri.ret ?_
 conv => whnf
 exact DLe.of_eq (congrArg D.bool (by simp only [bif_and,bif_or]; rfl))
def dU (c : UInt8) : Bool:=dB c.toNat
def dStr (s : List UInt8) : Bool:=decide (s.length ≤ 65536) && s.all dU
theorem F191 (s : List UInt8) : DFun Tryz.prog W0 175 [.str s,.sl .full 1 [.fn (.func 176) [] []]] (.bool (dStr s)):=by
 refine DFun.intro ti_ok Tryz.func175 rfl (by decide +kernel) Tryz.ntmps175 rfl fun Γ => ?_
 refine Tri.seq ?_
 refine Tri.region ti_ok ?_
 conv => whnf
 refine Tri.seq ?_
 refine Tri.seq ?_
 refine Tri.region ti_ok ?_
 conv => whnf
 refine Tri.cond _ rfl (fun hc => ?_) (fun hc => ?_)
 ·refine Tri.seq ?_
  refine Tri.region ti_ok ?_
  conv => whnf
  refine Tri.ret ?_
  conv => whnf
  have h1 : decide (s.length ≤ 65536) = false:=by simp at hc ⊢; omega
  exact DLe.of_eq (congrArg D.bool (by rw [dStr,h1]; rfl))
 ·refine Tri.skip ?_
  have h1 : s.length ≤ 65536:=by simp at hc; omega
  conv => whnf
  refine Tri.seq ?_
  refine Tri.seq ?_
  refine Tri.region ti_ok ?_
  conv => whnf
  refine Tri.block ?_
  refine Tri.loop (α:={ i : Nat // i ≤ s.length ∧ (s.take i).all dU = true }) (fun x => [(0,.str s),(1,.sl .full 1 [.fn (.func 176) [] []]),(13,.int .i64 s.length),(14,.int .i64 x.1)]) (fun _ => []) (fun x => s.length - x.1) ⟨0,by simp⟩ ⟨.refl _,.refl _,.refl _,.refl _,trivial⟩ trivial ?_
  rintro ⟨i,hi,hall⟩
  refine Tri.seq ?_
  refine Tri.region ti_ok ?_
  conv => whnf
  refine Tri.seq ?_
  refine Tri.cond _ rfl (fun hc => ?_) (fun hc => ?_)
  ·refine Tri.skip ?_
   have hia : i < s.length:=by simpa using hc
   have hnext : s.take (i + 1) = s.take i ++ [s[i]]:=by rw [List.take_add_one,List.getElem?_eq_getElem hia]; rfl
   conv => whnf
   refine Tri.seq ?_
   refine Tri.block ?_
   refine Tri.seq ?_
   refine Tri.region ti_ok ?_
   conv => whnf
   refine Tri.seq ?_
   refine Tri.region ti_ok ?_
   conv => whnf
   refine Tri.seq ?_
   refine Tri.seq ?_
   refine Tri.region ti_ok ?_
   conv => whnf
   refine Tri.block ?_
   refine Tri.loop (α:={ y : Nat // y ≤ 1 }) (fun y => [(0,.str s),(1,.sl .full 1 [.fn (.func 176) [] []]),(13,.int .i64 s.length),(14,.int .i64 i),(5,.int .i64 i),(6,.bool (decide (y.1 = 1) && dU s[i])),(17,.sl .full 1 [.fn (.func 176) [] []]),(18,.int .i64 1),(19,.int .i64 y.1)]) (fun _ => []) (fun y => 1 - y.1) ⟨0,by omega⟩ ⟨.refl _,.refl _,.refl _,.refl _,.refl _,.refl _,.refl _,.refl _,.refl _,trivial⟩ trivial ?_
   rintro ⟨y,hy⟩
   refine Tri.seq ?_
   refine Tri.region ti_ok ?_
   conv => whnf
   refine Tri.seq ?_
   refine Tri.cond _ rfl (fun hc => ?_) (fun hc => ?_)
   ·refine Tri.skip ?_
    have hy0 : y = 0:=by simp at hc; omega
    subst hy0
    conv => whnf
    refine Tri.seq ?_
    refine Tri.block ?_
    refine Tri.seq ?_
    refine Tri.region ti_ok ?_
    conv => whnf
    refine ⟨fun _ => by simp,?_⟩
    conv => whnf
    refine ⟨.fn (.func 176) [] [],fun _ => rfl,?_⟩
    conv => whnf
    refine Tri.region ti_ok ?_
    conv => whnf
    refine ⟨fun h => h,?_⟩
    conv => whnf
    refine ⟨fun h => h,?_⟩
    conv => whnf
    refine ⟨s[i],fun h => ⟨by omega,by simp [hia]⟩,?_⟩
    conv => whnf
    refine ⟨fun h => h,?_⟩
    conv => whnf
    refine ⟨fun h => h,?_⟩
    conv => whnf
    refine ⟨[.int .u8 s[i].toNat],_,fun h => F192 _,⟨.refl _,trivial⟩,?_⟩
    conv => whnf
    refine ⟨fun h0 h => by first | exact h | (rw [h]; rfl) | (rw [h0,h]; rfl),?_⟩
    conv => whnf
    refine Tri.region ti_ok ?_
    conv => whnf
    refine .inl ⟨fun _ => by simp [InR],?_⟩
    conv => whnf
    exact ⟨⟨1,Nat.le_refl _⟩,by show 1 - 1 < 1 - 0; omega,⟨.refl _,.refl _,.refl _,.refl _,.refl _,.refl _,.refl _,.refl _,.refl _,trivial⟩,trivial⟩
   ·refine Tri.exit ?_
    have hy1 : y = 1:=by simp at hc; omega
    subst hy1
    conv => whnf
    refine Tri.seq ?_
    refine Tri.region ti_ok ?_
    conv => whnf
    refine Tri.cond _ rfl (fun hc => ?_) (fun hc => ?_)
    ·refine Tri.seq ?_
     refine Tri.region ti_ok ?_
     conv => whnf
     refine Tri.ret ?_
     conv => whnf
     have h2 : dU s[i] = false:=by simpa using hc
     have h3 : s.all dU = false:=by
      rw [List.all_eq_false]
      exact ⟨s[i],List.getElem_mem hia,by rw [h2]; simp⟩
     exact DLe.of_eq (congrArg D.bool (by rw [dStr,h3,Bool.and_false]))
    ·refine Tri.skip ?_
     conv => whnf
     refine Tri.region ti_ok ?_
     conv => whnf
     refine .inl ⟨fun _ => by simp [InR]; omega,?_⟩
     conv => whnf
     have h2 : dU s[i] = true:=by simpa using hc
     exact ⟨⟨i + 1,hia,by rw [hnext,List.all_append,hall]; simp [h2]⟩,by show _ - (i + 1) < _ - i; omega,⟨.refl _,.refl _,.refl _,.refl _,trivial⟩,trivial⟩
  ·refine Tri.exit ?_
   conv => whnf
   refine Tri.seq ?_
   refine Tri.region ti_ok ?_
   conv => whnf
   refine Tri.ret ?_
   conv => whnf
   have hin : i = s.length:=by simp at hc; omega
   subst hin
   rw [List.take_length] at hall
   exact DLe.of_eq (congrArg D.bool (by rw [dStr,hall]; simp [h1]))
theorem F171 (s : List UInt8) : DFun Tryz.prog W0 128 [.str s] (.bool (dStr s)):=by
 refine DFun.intro ti_ok Tryz.func128 rfl (by decide +kernel) Tryz.ntmps128 rfl fun Γ => ?_
 refine Tri.seq ?_
 refine Tri.region ti_ok ?_
 conv => whnf
 refine Tri.seq ?_
 refine Tri.region ti_ok ?_
 conv => whnf
 refine ⟨trivial,?_⟩
 conv => whnf
 refine ⟨[.str s,.sl .full 1 [.fn (.func 176) [] []]],_,fun _ => F191 s,⟨.refl _,.refl _,trivial⟩,?_⟩
 conv => whnf
 refine Tri.ret ?_
 conv => whnf
 exact .refl _
theorem enc_ascii (r : Int) (h0 : 0 ≤ r) (h1 : r < 128) : (Utf8.encode r).data.toList = [UInt8.ofNat r.toNat]:=by
 have hv : Utf8.valid r = true:=by simp [Utf8.valid]; omega
 unfold Utf8.encode
 simp only [hv,if_true]
 rw [if_pos (by omega)]
/-- A character of the ISO view. -/
def isoC (r : Int) : Int:=if 97 ≤ r ∧ r ≤ 122 then r - 97 + 65 else if r < 128 ∧ dB r = true then r else 95
theorem F140 (r : Int) (h0 : 0 ≤ r) (hr : r ≤ 1114111) : DFun Tryz.prog W0 124 [.int .i32 r] (.int .i32 (isoC r)):=by
 refine DFun.intro ti_ok Tryz.func124 rfl (by decide +kernel) Tryz.ntmps124 rfl fun Γ => ?_
 refine Tri.seq ?_
 refine Tri.region ti_ok ?_
 conv => whnf
 refine Tri.seq ?_
 refine Tri.block ?_
 refine Tri.seq ?_
 refine Tri.region ti_ok ?_
 conv => whnf
 refine ⟨fun h => h,?_⟩
 conv => whnf
 refine ⟨fun h0 h => by first | exact h | (rw [h]; rfl) | (rw [h0,h]; rfl),?_⟩
 conv => whnf
 refine Tri.cond _ rfl (fun hc => ?_) (fun hc => ?_)
 ·refine Tri.seq ?_
  refine Tri.region ti_ok ?_
  have h97 : 97 ≤ r ∧ r ≤ 122:=by
   rw [bif_and] at hc
   simpa using hc
  conv => whnf
  refine .inl ⟨fun _ => by simp only [InR]; omega,?_⟩
  conv => whnf
  refine .inl ⟨fun _ => by simp only [InR]; omega,?_⟩
  conv => whnf
  refine Tri.ret ?_
  conv => whnf
  exact DLe.of_eq (congrArg (D.int .i32) (by rw [isoC,if_pos h97]))
 ·refine Tri.seq ?_
  refine Tri.region ti_ok ?_
  skip
  conv => whnf
  refine ⟨fun h => h,?_⟩
  conv => whnf
  refine ⟨fun h => h,?_⟩
  conv => whnf
  refine ⟨[.str (Utf8.encode r).data.toList],.bool (dB r),fun h => by
   have hlt : r < 128:=by simpa using h
   have:=F171 (W0:=W0) (Utf8.encode r).data.toList
   have e : dStr (Utf8.encode r).data.toList = dB r:=by
    rw [enc_ascii r h0 hlt]
    simp only [dStr,dU,List.all_cons,List.all_nil,Bool.and_true,List.length_singleton]
    have : ((UInt8.ofNat r.toNat).toNat : Int) = r:=by
     rw [UInt8.toNat_ofNat']; omega
    rw [this]; simp
   rw [e] at this
   exact this,⟨.refl _,trivial⟩,?_⟩
  conv => whnf
  refine ⟨fun h0 h => by first | exact h | (rw [h]; rfl) | (rw [h0,h]; rfl),?_⟩
  conv => whnf
  refine Tri.cond _ rfl (fun hc => ?_) (fun hc => ?_)
  ·refine Tri.seq ?_
   refine Tri.region ti_ok ?_
   conv => whnf
   refine Tri.ret ?_
   conv => whnf
   have h97 : ¬ (97 ≤ r ∧ r ≤ 122):=by
    rename_i hc0
    rw [bif_and] at hc0
    simpa using hc0
   have h2 : r < 128 ∧ dB r = true:=by rw [bif_and] at hc; simpa using hc
   exact DLe.of_eq (congrArg (D.int .i32) (by rw [isoC,if_neg h97,if_pos h2]))
  ·refine Tri.skip ?_
   conv => whnf
   refine Tri.seq ?_
   refine Tri.region ti_ok ?_
   conv => whnf
   refine Tri.ret ?_
   conv => whnf
   have h97 : ¬ (97 ≤ r ∧ r ≤ 122):=by
    rename_i hc0
    rw [bif_and] at hc0
    simpa using hc0
   have h2 : ¬ (r < 128 ∧ dB r = true):=by rw [bif_and] at hc; simpa using hc
   exact DLe.of_eq (congrArg (D.int .i32) (by rw [isoC,if_neg h97,if_neg h2]))
end Go.Tame.V
/- Texts and their characters. No program's code. -/
namespace Go.Tame.V
open Go Go.Proofs
set_option linter.unusedVariables false
set_option linter.unusedSimpArgs false

theorem encR (n : Nat) (h : n ≤ 65533) (hs : n < 55296 ∨ 57343 < n) : (Utf8.encode (n : Int)).data.toList = Lib.encodeRune n:=by
 have hv : Utf8.valid (n : Int) = true:=by simp [Utf8.valid]; omega
 unfold Utf8.encode Lib.encodeRune Lib.encodeRuneZ
 simp only [hv,if_true,Int.toNat_natCast]
 have hz : ∀ a b : Nat,UInt8.ofNat (a + b) = ((a : Int) + (b : Int)).toNat.toUInt8:=fun a b => by
  have : ((a : Int) + (b : Int)).toNat = a + b:=by omega
  rw [this]
 by_cases h1 : n < 128
 ·rw [if_pos h1,if_pos (show 0 ≤ (n : Int) ∧ (n : Int) ≤ 127 by omega)]; simp
 ·rw [if_neg h1,if_neg (show ¬ (0 ≤ (n : Int) ∧ (n : Int) ≤ 127) by omega)]
  by_cases h2 : n < 2048
  ·rw [if_pos h2,if_pos (show 128 ≤ (n : Int) ∧ (n : Int) ≤ 2047 by omega)]
   show [UInt8.ofNat (192 + n / 64),UInt8.ofNat (128 + n % 64)] = _
   rw [hz,hz]; simp
  ·rw [if_neg h2,if_neg (show ¬ (128 ≤ (n : Int) ∧ (n : Int) ≤ 2047) by omega),if_pos (show n < 65536 by omega),if_pos (show 2048 ≤ (n : Int) ∧ (n : Int) < 55296 ∨ 57343 < (n : Int) ∧ (n : Int) ≤ 65535 by omega)]
   show [UInt8.ofNat (224 + n / 4096),UInt8.ofNat (128 + n / 64 % 64),UInt8.ofNat (128 + n % 64)] = _
   rw [hz,hz,hz]; simp
theorem dec_L {s : List UInt8} (hs : s ≠ []) : dec s = Lib.decodeL s:=by
 unfold dec Lib.decodeGo Lib.decodeL
 rw [if_neg (show ¬ (⟨⟨s⟩⟩ : ByteArray).size = 0 from fun e => hs (List.eq_nil_of_length_eq_zero e))]
theorem decode_at_drop (s : List UInt8) (i : Nat) (h : i < s.length) : Utf8.decode ⟨⟨s⟩⟩ i = dec (s.drop i):=by
 have hne : s.drop i ≠ []:=fun e => by have:=congrArg List.length e; simp at this; omega
 rw [dec_L hne]
 exact (Lib.decodeL_drop ⟨⟨s⟩⟩ i).symm
theorem notBad {s : List UInt8} (h : badAt s = false) : isChar (dec s).1 = true ∧ ¬ ((dec s).1 = 65533 ∧ (dec s).2 = 1):=by
 simp only [badAt,Bool.or_eq_false_iff,Bool.not_eq_false',Bool.and_eq_false_iff,beq_eq_false_iff_ne] at h
 exact ⟨h.1,fun ⟨h1,h2⟩ => by rcases h.2 with h3 | h3 <;> contradiction⟩
theorem enc_dec {s : List UInt8} (hs : s ≠ []) (h : badAt s = false) : (Utf8.encode ((dec s).1 : Int)).data.toList = s.take (dec s).2:=by
 obtain ⟨h1,h2⟩:=notBad h
 obtain ⟨h3,h4,h5⟩:=(isChar_iff _).1 h1
 rw [encR _ (by omega) (by omega),dec_L hs,Lib.encode_decode s hs (by rw [← dec_L hs]; exact h2)]

/-- The bytes and the characters of a text. -/
theorem chars_bytes : ∀ (n : Nat) (s : List UInt8) (l : List Int),s.length ≤ n → charsP s = some l → runesB l = s ∧ ∀ r ∈ l,isChar r = true
 | 0,s,l,hn,hc => by
  have : s = []:=List.eq_nil_of_length_eq_zero (by omega)
  subst this; cases hc; exact ⟨rfl,fun r hr => by cases hr⟩
 | n + 1,s,l,hn,hc => by
  by_cases hs : s = []
  ·subst hs; cases hc; exact ⟨rfl,fun r hr => by cases hr⟩
  ·obtain ⟨h1,h2,_⟩:=decode_size s hs
   rw [charsP_cons hs] at hc
   cases hb : badAt s with
   | true => rw [hb] at hc; cases hc
   | false =>
    rw [hb] at hc
    simp only [Bool.false_eq_true,if_false,Option.map_eq_some_iff] at hc
    obtain ⟨l',hl',rfl⟩:=hc
    have ih:=chars_bytes n (s.drop (dec s).2) l' (by simp; omega) hl'
    refine ⟨?_,fun r hr => ?_⟩
    ·simp only [runesB,List.flatMap_cons]
     rw [enc_dec hs hb]
     have : runesB l' = s.drop (dec s).2:=ih.1
     simp only [runesB] at this
     rw [this,List.take_append_drop]
    ·rcases List.mem_cons.1 hr with rfl | hr
     ·exact (notBad hb).1
     ·exact ih.2 r hr
theorem runeGo_chars (s : List UInt8) : ∀ (f i : Nat) (l : List Int),i ≤ s.length → s.length - i ≤ f → charsP (s.drop i) = some l → runeGo ⟨⟨s⟩⟩ f i = l
 | 0,i,l,hi,hf,hc => by
  have : s.drop i = []:=List.drop_eq_nil_of_le (by omega)
  rw [this] at hc; cases hc; rfl
 | f + 1,i,l,hi,hf,hc => by
  have hsz : (⟨⟨s⟩⟩ : ByteArray).size = s.length:=rfl
  simp only [runeGo,hsz]
  by_cases hlt : i < s.length
  ·have hne : s.drop i ≠ []:=fun e => by have:=congrArg List.length e; simp at this; omega
   obtain ⟨h1,h2,_⟩:=decode_size (s.drop i) hne
   rw [charsP_cons hne] at hc
   cases hb : badAt (s.drop i) with
   | true => rw [hb] at hc; cases hc
   | false =>
    rw [hb] at hc
    simp only [Bool.false_eq_true,if_false,Option.map_eq_some_iff] at hc
    obtain ⟨l',hl',rfl⟩:=hc
    rw [if_pos hlt,decode_at_drop s i hlt]
    rw [List.length_drop] at h2
    rw [List.drop_drop] at hl'
    rw [runeGo_chars s f (i + (dec (s.drop i)).2) l' (by omega) (by omega) hl']
    rfl
  ·have : s.drop i = []:=List.drop_eq_nil_of_le (by omega)
   rw [this] at hc; cases hc
   rw [if_neg hlt]
theorem runes_chars {s : List UInt8} {l : List Int} (h : charsP s = some l) : runesI s = l :=
 runeGo_chars s s.length 0 l (Nat.zero_le _) (by omega) (by simpa using h)
theorem name_chars {s : List UInt8} (h : nameOk s = true) : ∃ l,charsP s = some l ∧ (chars s).1 = l ∧ (chars s).2 = 0 ∧ 1 ≤ l.length ∧ l.length ≤ 64:=by
 simp only [nameOk] at h
 split at h
 ·cases h
 ·simp only [Bool.and_eq_true,decide_eq_true_eq,beq_iff_eq] at h
  obtain ⟨h1,h2,h3⟩:=h
  simp only [chars] at h1 h2 h3 ⊢
  split at h1
  ·cases h1
  ·rename_i hl
   rw [if_neg hl] at h2 h3
   cases hc : charsP s with
   | none => rw [hc] at h1; cases h1
   | some l => rw [hc] at h2 h3; exact ⟨l,rfl,by rw [if_neg hl],by rw [if_neg hl],h2,h3⟩
theorem runesB_append (a b : List Int) : runesB (a ++ b) = runesB a ++ runesB b:=by simp [runesB]
end Go.Tame.V
/- Contracts: the wanted name and the numbered name. By program (mk.py). -/
namespace Go.Tame.V
open Go Go.Proofs
variable {W0 : World}
set_option maxRecDepth 10000
set_option linter.unusedVariables false
set_option linter.unusedSimpArgs false

def ints32 (l : List Int) : List D:=l.map (D.int .i32)
/-- The stem and the extension of a name,in bytes. -/
def lastDot (s : List UInt8) : Int:=Lib.lastIndexByte ⟨⟨s⟩⟩ 46
def cutB (v : Int) (s : List UInt8) : Bool:=(decide (0 < lastDot s) && decide (lastDot s < (s.length : Int) - 1)) && (v == 0 || decide (((runesI (s.drop (lastDot s + 1).toNat)).length : Int) ≤ 16))
def cutS (v : Int) (s : List UInt8) (dir : Bool) : List UInt8 × List UInt8 :=
 if dir = true then (s,[]) else if cutB v s = true then (s.take (lastDot s).toNat,s.drop (lastDot s + 1).toNat)
 else if v = 0 ∧ 1 < s.length then (Lib.trimSuffix s [46],[]) else (s,[])
theorem drop_all (s : List UInt8) (i : Nat) : (s.take ((s.length : Nat) : Int).toNat).drop i = s.drop i:=by simp
theorem runes_len (s : List UInt8) : ∀ f i,(runeGo ⟨⟨s⟩⟩ f i).length ≤ f
 | 0,_ => by simp [runeGo]
 | f + 1,i => by
  simp only [runeGo]
  split
  ·have:=runes_len s f (i + (Utf8.decode ⟨⟨s⟩⟩ i).2); simp; omega
  ·simp
theorem runesI_len (s : List UInt8) : (runesI s).length ≤ s.length:=runes_len s _ _

theorem F141 (v : Int) (s : List UInt8) (dir : Bool) (hs : s.length < 1000000000) : DFun Tryz.prog W0 125 [.int .i64 v,.str s,.bool dir] (.tup [.str (cutS v s dir).1,.str (cutS v s dir).2]):=by
 refine DFun.intro ti_ok Tryz.func125 rfl (by decide +kernel) Tryz.ntmps125 rfl fun Γ => ?_
 refine Tri.seq ?_
 refine Tri.region ti_ok ?_
 conv => whnf
 refine Tri.seq ?_
 refine Tri.seq ?_
 refine Tri.region ti_ok ?_
 conv => whnf
 refine Tri.cond _ rfl (fun hc => ?_) (fun hc => ?_)
 ·refine Tri.seq ?_
  refine Tri.region ti_ok ?_
  conv => whnf
  refine Tri.ret ?_
  conv => whnf
  have h1 : cutS v s dir = (s,[]):=by rw [cutS,if_pos hc]
  rw [h1]
  exact ⟨.refl _,.refl _,trivial⟩
 ·refine Tri.skip ?_
  have hdir : ¬ dir = true:=by rw [hc]; simp
  conv => whnf
  refine Tri.joinK (α:={ x : Unit // cutB v s = false }) (fun x => [(0,.int .i64 v),(1,.str s)]) (fun x => []) ?_ ?_
  ·refine Tri.seq ?_
   refine Tri.region ti_ok ?_
   conv => whnf
   refine ⟨[.str s,.int .u8 46],.int .i64 (lastDot s),fun _ => F27 s 46 (by omega),⟨.refl _,.refl _,trivial⟩,?_⟩
   conv => whnf
   refine Tri.seq ?_
   refine Tri.region ti_ok ?_
   conv => whnf
   refine ⟨fun h => h,?_⟩
   conv => whnf
   refine ⟨fun h => h,?_⟩
   conv => whnf
   refine .inl ⟨fun h => by simp only [InR]; omega,?_⟩
   conv => whnf
   refine ⟨fun h => h,?_⟩
   conv => whnf
   refine ⟨fun h => h,?_⟩
   conv => whnf
   refine ⟨fun h0 h => by first | exact h | (rw [h]; rfl) | (rw [h0,h]; rfl),?_⟩
   conv => whnf
   refine Tri.cond _ rfl (fun hc => ?_) (fun hc => ?_)
   ·refine Tri.seq ?_
    have hb : (decide (0 < lastDot s) && decide (lastDot s < (s.length : Int) - 1)) = true:=by rw [bif_and] at hc; exact hc
    have hb1 : 0 < lastDot s ∧ lastDot s < (s.length : Int) - 1:=by simpa using hb
    refine Tri.region ti_ok ?_
    conv => whnf
    refine .inl ⟨fun _ => by simp only [InR]; omega,?_⟩
    conv => whnf
    refine ⟨fun _ => by omega,?_⟩
    conv => whnf
    refine Tri.seq ?_
    refine Tri.region ti_ok ?_
    conv => whnf
    refine ⟨fun h => h,?_⟩
    conv => whnf
    refine ⟨by simp; omega,?_⟩
    refine ⟨fun h => h,?_⟩
    conv => whnf
    refine ⟨fun h => h,?_⟩
    conv => whnf
    refine ⟨fun h0 h => by first | exact h | (rw [h]; rfl) | (rw [h0,h]; rfl),?_⟩
    conv => whnf
    refine Tri.cond _ rfl (fun hc => ?_) (fun hc => ?_)
    ·refine Tri.seq ?_
     have hcut : cutB v s = true:=by
      rw [cutB,hb,Bool.true_and,← bif_or]
      rw [drop_all] at hc
      simpa using hc
     refine Tri.region ti_ok ?_
     conv => whnf
     refine ⟨fun _ => by omega,?_⟩
     conv => whnf
     refine Tri.ret ?_
     conv => whnf
     rw [drop_all]
     have h1 : cutS v s dir = (s.take (lastDot s).toNat,s.drop (lastDot s + 1).toNat):=by rw [cutS,if_neg hdir,if_pos hcut]
     rw [h1]
     exact ⟨.refl _,.refl _,trivial⟩
    ·refine Tri.skip ?_
     conv => whnf
     have hcut : cutB v s = false:=by
      rw [cutB,hb,Bool.true_and,← bif_or]
      rw [drop_all] at hc
      simpa using hc
     exact ⟨⟨(),hcut⟩,[],⟨.refl _,.refl _,trivial⟩,rfl,trivial⟩
   ·refine Tri.skip ?_
    conv => whnf
    have hcut : cutB v s = false:=by
     rw [bif_and] at hc
     have hb : (decide (0 < lastDot s) && decide (lastDot s < (s.length : Int) - 1)) = false:=hc
     rw [cutB,hb,Bool.false_and]
    exact ⟨⟨(),hcut⟩,[],⟨.refl _,.refl _,trivial⟩,rfl,trivial⟩
  ·rintro ⟨_,hcut⟩
   refine Tri.seq ?_
   refine Tri.seq ?_
   refine Tri.region ti_ok ?_
   conv => whnf
   refine ⟨fun h => h,?_⟩
   conv => whnf
   refine ⟨fun h => h,?_⟩
   conv => whnf
   refine ⟨fun h0 h => by first | exact h | (rw [h]; rfl) | (rw [h0,h]; rfl),?_⟩
   conv => whnf
   refine Tri.cond _ rfl (fun hc => ?_) (fun hc => ?_)
   ·refine Tri.region ti_ok ?_
    conv => whnf
    refine ⟨[.str s,.str [46]],_,fun _ => F172 s [46] (by omega),⟨.refl _,.refl _,trivial⟩,?_⟩
    conv => whnf
    refine Tri.seq ?_
    refine Tri.region ti_ok ?_
    conv => whnf
    refine Tri.ret ?_
    conv => whnf
    have h2' : v = 0 ∧ (1 : Int) < s.length:=by rw [bif_and] at hc; simpa using hc
    have h2 : v = 0 ∧ 1 < s.length:=⟨h2'.1,by omega⟩
    have h1 : cutS v s dir = (Lib.trimSuffix s [46],[]):=by rw [cutS,if_neg hdir,if_neg (by rw [hcut]; simp),if_pos h2]
    rw [h1]
    exact ⟨.refl _,.refl _,trivial⟩
   ·refine Tri.skip ?_
    conv => whnf
    refine Tri.seq ?_
    refine Tri.region ti_ok ?_
    conv => whnf
    refine Tri.ret ?_
    conv => whnf
    have h2' : v = 0 → (s.length : Int) ≤ 1:=by rw [bif_and] at hc; simpa using hc
    have h2 : ¬ (v = 0 ∧ 1 < s.length):=fun ⟨h3,h4⟩ => by have:=h2' h3; omega
    have h1 : cutS v s dir = (s,[]):=by rw [cutS,if_neg hdir,if_neg (by rw [hcut]; simp),if_neg h2]
    rw [h1]
    exact ⟨.refl _,.refl _,trivial⟩

theorem map_set (f : Int → Int) (l : List Int) {i : Nat} (h : i < l.length) : (((l.take i).map f ++ l.drop i).map (D.int .i32)).set i (.int .i32 (f l[i])) = ((l.take (i + 1)).map f ++ l.drop (i + 1)).map (D.int .i32):=by
 have e : l.drop i = l[i]::l.drop (i + 1):=List.drop_eq_getElem_cons h
 have e2 : l.take (i + 1) = l.take i ++ [l[i]]:=by rw [List.take_add_one,List.getElem?_eq_getElem h]; rfl
 rw [e,e2]
 simp only [List.map_append,List.map_cons,List.map_nil,List.append_assoc,List.singleton_append]
 rw [List.set_append_right _ _ (by simp; omega)]
 have : i - (List.map (D.int .i32) (List.map f (List.take i l))).length = 0:=by simp; omega
 rw [this]; rfl
theorem F142 (s : List UInt8) (fid : Nat) (f : Int → Int) (hs : s.length < 1000000000) (hf : ∀ r ∈ runesI s,DFun Tryz.prog W0 fid [.int .i32 r] (.int .i32 (f r))) : DFun Tryz.prog W0 126 [.str s,.fn (.func fid) [] []] (.sl .none 1 (ints32 ((runesI s).map f))):=by
 refine DFun.intro ti_ok Tryz.func126 rfl (by decide +kernel) Tryz.ntmps126 rfl fun Γ => ?_
 refine Tri.seq ?_
 refine Tri.region ti_ok ?_
 conv => whnf
 refine Tri.seq ?_
 refine Tri.regionX ti_ok ?_
 conv => whnf
 refine .inr (XOp.runesRow ti_ok rfl rfl rfl rfl rfl rfl rfl (by omega) fun aa cap => ?_)
 conv => whnf
 refine Tri.seq ?_
 refine Tri.seq ?_
 refine Tri.region ti_ok ?_
 conv => whnf
 refine Tri.block ?_
 have hrl:=runesI_len s
 generalize hL : runesI s = L at *
 refine Tri.loopK (α:={ i : Nat // i ≤ L.length }) (fun x => [(1,.fn (.func fid) [] []),(5,.raw (.slice aa L.length cap)),(10,.raw (.slice aa L.length cap)),(11,.int .i64 L.length),(12,.int .i64 x.1)]) (fun x => [(9,.row (.slice aa L.length cap) (((L.take x.1).map f ++ L.drop x.1).map (D.int .i32)) 1 21)]) (fun x => L.length - x.1) ⟨0,by omega⟩ [(9,9)]
  ⟨⟨.refl _,.refl _,.refl _,.refl _,.refl _,trivial⟩,rfl,rfl,rfl,trivial⟩ ?_
 rintro ⟨i,hi⟩
 dsimp only
 refine Tri.seq ?_
 refine Tri.region ti_ok ?_
 conv => whnf
 refine Tri.seq ?_
 refine Tri.cond _ rfl (fun hc => ?_) (fun hc => ?_)
 ·refine Tri.skip ?_
  have hia : i < L.length:=by simpa using hc
  have hlen : (((L.take i).map f ++ L.drop i).map (D.int .i32)).length = L.length:=by simp; omega
  have hget : (((L.take i).map f ++ L.drop i).map (D.int .i32))[i]? = some (.int .i32 L[i]):=by
   rw [List.getElem?_map,List.getElem?_append_right (by simp; omega)]
   have : i - (List.map f (List.take i L)).length = 0:=by simp; omega
   rw [this]
   simp [hia]
  conv => whnf
  refine Tri.seq ?_
  refine Tri.block ?_
  refine Tri.seq ?_
  refine Tri.regionX ti_ok ?_
  conv => whnf
  refine .inr (XOp.rowIndex ti_ok 9 rfl rfl rfl rfl rfl rfl rfl (by omega) (by rw [hlen]; omega) ?_)
  conv => whnf
  refine .inr (XOp.rowLoad ti_ok 9 (i:=i) (by rw [Int.toNat_natCast]; rfl) rfl rfl hget ?_)
  conv => whnf
  refine Tri.regionX ti_ok ?_
  conv => whnf
  refine .inl ?_
  conv => whnf
  refine ⟨[.int .i32 L[i]],_,fun _ => hf _ (List.getElem_mem hia),⟨.refl _,trivial⟩,?_⟩
  conv => whnf
  refine .inr (XOp.rowIndex ti_ok 9 rfl rfl rfl rfl rfl rfl rfl (by omega) (by rw [hlen]; omega) ?_)
  conv => whnf
  refine .inr (XOp.rowStore ti_ok 9 (i:=i) (by rw [Int.toNat_natCast]; rfl) rfl rfl rfl (by rw [hlen]; omega) rfl ?_)
  conv => whnf
  refine Tri.region ti_ok ?_
  conv => whnf
  refine .inl ⟨fun _ => by simp [InR]; omega,?_⟩
  conv => whnf
  exact ⟨⟨i + 1,by omega⟩,[(9,9)],by show _ - (i + 1) < _ - i; omega,⟨.refl _,.refl _,.refl _,.refl _,.refl _,trivial⟩,rfl,rfl,congrArg (fun z => some (HObj.row (.slice aa L.length cap) z 1 21)) (map_set f L hia),trivial⟩
 ·refine Tri.exit ?_
  conv => whnf
  have hin : i = L.length:=by simp at hc; omega
  have hrow : ((L.take i).map f ++ L.drop i).map (D.int .i32) = ints32 (L.map f):=by subst hin; simp [ints32]
  rw [hrow]
  refine Tri.forgetK [(5,.raw (.slice aa L.length cap))] [(9,.row (.slice aa L.length cap) (ints32 (L.map f)) 1 21)] [(9,9)] ⟨⟨.refl _,trivial⟩,rfl,rfl,rfl,trivial⟩ ?_
  refine Tri.commitSt 9 5 rfl ?_
  refine Tri.seq ?_
  refine Tri.region ti_ok ?_
  conv => whnf
  refine Tri.ret ?_
  conv => whnf
  exact .refl _
end Go.Tame.V
/- Characters and points. No program's code. -/
namespace Go.Tame.V
open Go Go.Proofs
set_option maxRecDepth 10000
set_option linter.unusedVariables false
set_option linter.unusedSimpArgs false

theorem dec_enc (n : Nat) (h : n ≤ 65533) (hs : n < 55296 ∨ 57343 < n) (rest : List UInt8) : dec ((Utf8.encode (n : Int)).data.toList ++ rest) = (n,(Utf8.encode (n : Int)).data.toList.length):=by
 have hv : Utf8.valid (n : Int) = true:=by simp [Utf8.valid]; omega
 have hU : ∀ x : Nat,x < 256 → (UInt8.ofNat x).toNat = x:=fun x hx => by rw [UInt8.toNat_ofNat']; omega
 by_cases h1 : n < 128
 ·have e : (Utf8.encode (n : Int)).data.toList = [UInt8.ofNat n]:=by
   unfold Utf8.encode; simp only [hv,if_true,Int.toNat_natCast]; rw [if_pos h1]
  rw [e,dec_eq (by simp)]
  simp only [List.singleton_append,List.length_cons,List.getD_cons_zero,List.length_nil,decN]
  rw [hU n (by omega),if_pos h1]
 ·by_cases h2 : n < 2048
  ·have e : (Utf8.encode (n : Int)).data.toList = [UInt8.ofNat (192 + n / 64),UInt8.ofNat (128 + n % 64)]:=by
    unfold Utf8.encode; simp only [hv,if_true,Int.toNat_natCast]; rw [if_neg h1,if_pos h2]
   rw [e,dec_eq (by simp)]
   simp only [List.cons_append,List.nil_append,List.length_cons,List.getD_cons_zero,List.getD_cons_succ,List.length_nil,decN]
   rw [hU (192 + n / 64) (by omega),hU (128 + n % 64) (by omega)]
   rw [if_neg (by omega),if_pos ⟨by omega,by omega,by omega⟩,if_pos (by omega)]
   exact Prod.ext (by dsimp only; omega) rfl
  ·have e : (Utf8.encode (n : Int)).data.toList = [UInt8.ofNat (224 + n / 4096),UInt8.ofNat (128 + n / 64 % 64),UInt8.ofNat (128 + n % 64)]:=by
    unfold Utf8.encode; simp only [hv,if_true,Int.toNat_natCast]; rw [if_neg h1,if_neg h2,if_pos (by omega)]
   rw [e,dec_eq (by simp)]
   simp only [List.cons_append,List.nil_append,List.length_cons,List.getD_cons_zero,List.getD_cons_succ,List.length_nil,decN]
   rw [hU (224 + n / 4096) (by omega),hU (128 + n / 64 % 64) (by omega),hU (128 + n % 64) (by omega)]
   rw [if_neg (by omega),if_neg (by omega),if_pos ⟨by omega,⟨by omega,by omega⟩,by omega,by omega⟩,if_pos ⟨by omega,by omega⟩]
   exact Prod.ext (by dsimp only; omega) rfl
theorem enc_ne (r : Int) : (Utf8.encode r).data.toList ≠ []:=by
 intro h
 unfold Utf8.encode at h
 dsimp only at h
 generalize (if Utf8.valid r = true then r.toNat else Utf8.runeError) = c at h
 by_cases h1 : c < 128
 ·rw [if_pos h1] at h; cases h
 ·rw [if_neg h1] at h
  by_cases h2 : c < 2048
  ·rw [if_pos h2] at h; cases h
  ·rw [if_neg h2] at h
   by_cases h3 : c < 65536
   ·rw [if_pos h3] at h; cases h
   ·rw [if_neg h3] at h; cases h
theorem charsP_of : ∀ (l : List Int),(∀ r ∈ l,isChar r = true) → charsP (runesB l) = some l
 | [],_ => rfl
 | r::l,h => by
  obtain ⟨h1,h2,h3⟩:=(isChar_iff r).1 (h r List.mem_cons_self)
  have ih:=charsP_of l fun x hx => h x (List.mem_cons_of_mem _ hx)
  obtain ⟨n,rfl⟩ : ∃ n : Nat,r = n:=⟨r.toNat,by omega⟩
  have hd:=dec_enc n (by omega) (by omega) (runesB l)
  have e : runesB ((n : Int)::l) = (Utf8.encode (n : Int)).data.toList ++ runesB l:=by simp [runesB]
  rw [e]
  have hne : (Utf8.encode (n : Int)).data.toList ++ runesB l ≠ []:=fun h => enc_ne _ (List.append_eq_nil_iff.1 h).1
  rw [charsP_cons hne,hd]
  have hb : badAt ((Utf8.encode (n : Int)).data.toList ++ runesB l) = false:=by
   simp only [badAt,hd,h (n : Int) List.mem_cons_self,Bool.not_true,Bool.false_or,Bool.and_eq_false_iff,beq_eq_false_iff_ne]
   by_cases h5 : n = 65533
   ·subst h5; right; decide +kernel
   ·left; exact h5
  rw [hb]
  simp [ih]

theorem enc_dot {r : Int} (h : isChar r = true) {i : Nat} (hi : (Utf8.encode r).data.toList[i]? = some 46) : r = 46 ∧ i = 0:=by
 obtain ⟨h1,h2,h3⟩:=(isChar_iff r).1 h
 obtain ⟨n,rfl⟩ : ∃ n : Nat,r = n:=⟨r.toNat,by omega⟩
 have hU : ∀ x : Nat,x < 256 → (UInt8.ofNat x).toNat = x:=fun x hx => by rw [UInt8.toNat_ofNat']; omega
 have hne : ∀ x : Nat,x < 256 → 128 ≤ x → UInt8.ofNat x ≠ 46:=fun x hx h128 e => by
  have:=congrArg UInt8.toNat e
  rw [hU x hx] at this
  have e46 : (46 : UInt8).toNat = 46:=rfl
  omega
 have hv : Utf8.valid (n : Int) = true:=by simp [Utf8.valid]; omega
 by_cases h1' : n < 128
 ·have e : (Utf8.encode (n : Int)).data.toList = [UInt8.ofNat n]:=by
   unfold Utf8.encode; simp only [hv,if_true,Int.toNat_natCast]; rw [if_pos h1']
  rw [e] at hi
  match i,hi with
  | 0,hi =>
   have : UInt8.ofNat n = 46:=by simpa using hi
   have:=congrArg UInt8.toNat this
   rw [hU n (by omega)] at this
   have e46 : (46 : UInt8).toNat = 46:=rfl
   exact ⟨by omega,rfl⟩
  | i + 1,hi => simp at hi
 ·exfalso
  by_cases h2 : n < 2048
  ·have e : (Utf8.encode (n : Int)).data.toList = [UInt8.ofNat (192 + n / 64),UInt8.ofNat (128 + n % 64)]:=by
    unfold Utf8.encode; simp only [hv,if_true,Int.toNat_natCast]; rw [if_neg h1',if_pos h2]
   rw [e] at hi
   match i,hi with
   | 0,hi => exact hne (192 + n / 64) (by omega) (by omega) (by simpa using hi)
   | 1,hi => exact hne (128 + n % 64) (by omega) (by omega) (by simpa using hi)
   | i + 2,hi => simp at hi
  ·have e : (Utf8.encode (n : Int)).data.toList = [UInt8.ofNat (224 + n / 4096),UInt8.ofNat (128 + n / 64 % 64),UInt8.ofNat (128 + n % 64)]:=by
    unfold Utf8.encode; simp only [hv,if_true,Int.toNat_natCast]; rw [if_neg h1',if_neg h2,if_pos (by omega)]
   rw [e] at hi
   match i,hi with
   | 0,hi => exact hne (224 + n / 4096) (by omega) (by omega) (by simpa using hi)
   | 1,hi => exact hne (128 + n / 64 % 64) (by omega) (by omega) (by simpa using hi)
   | 2,hi => exact hne (128 + n % 64) (by omega) (by omega) (by simpa using hi)
   | i + 3,hi => simp at hi
theorem byte_dot : ∀ (l : List Int),(∀ r ∈ l,isChar r = true) → ∀ i,(runesB l)[i]? = some 46 → ∃ l1 l2,l = l1 ++ 46::l2 ∧ (runesB l1).length = i
 | [],_,i,h => by simp [runesB] at h
 | r::l,hl,i,h => by
  have e : runesB (r::l) = (Utf8.encode r).data.toList ++ runesB l:=by simp [runesB]
  rw [e,List.getElem?_append] at h
  split at h
  ·obtain ⟨rfl,rfl⟩:=enc_dot (hl r List.mem_cons_self) h
   exact ⟨[],l,rfl,rfl⟩
  ·rename_i hi
   obtain ⟨l1,l2,rfl,hlen⟩:=byte_dot l (fun x hx => hl x (List.mem_cons_of_mem _ hx)) _ h
   refine ⟨r::l1,l2,rfl,?_⟩
   have e : runesB (r::l1) = (Utf8.encode r).data.toList ++ runesB l1:=by simp [runesB]
   rw [e,List.length_append,hlen]; omega
theorem enc46 : (Utf8.encode 46).data.toList = [46]:=by decide +kernel
/-- The last point,by bytes and by characters. -/
theorem dot_split {s : List UInt8} {l : List Int} (hc : charsP s = some l) :
  (lastDot s = -1 ∧ (46 : Int) ∉ l) ∨ ∃ l1 l2,l = l1 ++ 46::l2 ∧ (46 : Int) ∉ l2 ∧ lastDot s = (runesB l1).length ∧ s = runesB l1 ++ 46::runesB l2:=by
 obtain ⟨hb,hch⟩:=chars_bytes s.length s l (Nat.le_refl _) hc
 have hmem : ∀ l1 l2 : List Int,l = l1 ++ 46::l2 → s = runesB l1 ++ 46::runesB l2:=fun l1 l2 e => by
  rw [← hb,e,runesB_append]
  have : runesB (46::l2) = (Utf8.encode 46).data.toList ++ runesB l2:=by simp [runesB]
  rw [this,enc46]; rfl
 have hget : ∀ j,(hj : j < s.length) → (⟨⟨s⟩⟩ : ByteArray).data[j]! = s[j]:=fun j hj => by
  simp [hj]
 have hsz : (⟨⟨s⟩⟩ : ByteArray).size = s.length:=rfl
 rcases Lib.lastIndexByte_spec ⟨⟨s⟩⟩ 46 with ⟨h1,h2⟩ | ⟨i,hi,h1,h2,h3⟩
 ·refine .inl ⟨h1,fun h => ?_⟩
  obtain ⟨l1,l2,e⟩:=List.append_of_mem h
  have hs:=hmem l1 l2 e
  have hlt : (runesB l1).length < s.length:=by rw [hs]; simp
  have:=h2 (runesB l1).length (by rw [hsz]; exact hlt)
  rw [hget _ hlt] at this
  apply this
  have : s[(runesB l1).length] = 46:=by simp [hs]
  rw [this]; rfl
 ·rw [hsz] at hi
  rw [hget i hi] at h2
  have hi46 : s[i]? = some 46:=by
   rw [List.getElem?_eq_getElem hi]
   congr 1
   apply UInt8.toNat_inj.1
   have e46 : (46 : UInt8).toNat = 46:=rfl
   omega
  rw [← hb] at hi46
  obtain ⟨l1,l2,e,hlen⟩:=byte_dot l hch i hi46
  have hs:=hmem l1 l2 e
  refine .inr ⟨l1,l2,e,fun h => ?_,by rw [lastDot,h1,hlen],hs⟩
  obtain ⟨l3,l4,e2⟩:=List.append_of_mem h
  have hs2:=hmem (l1 ++ 46::l3) l4 (by rw [e,e2]; simp)
  have hlt : (runesB (l1 ++ 46::l3)).length < s.length:=by rw [hs2]; simp
  have hgt : i < (runesB (l1 ++ 46::l3)).length:=by
   rw [runesB_append,List.length_append,hlen]
   have : runesB (46::l3) = (Utf8.encode 46).data.toList ++ runesB l3:=by simp [runesB]
   rw [this,enc46]; simp
  have:=h3 _ hgt (by rw [hsz]; exact hlt)
  rw [hget _ hlt] at this
  apply this
  have : s[(runesB (l1 ++ 46::l3)).length] = 46:=by
   have : s[(runesB (l1 ++ 46::l3)).length]? = some 46:=by rw [hs2]; simp
   rw [List.getElem?_eq_getElem hlt] at this
   exact Option.some.inj this
  rw [this]; rfl
end Go.Tame.V
/- The parts of a name,by bytes and by characters. No program's code. -/
namespace Go.Tame.V
open Go Go.Proofs
set_option maxRecDepth 10000
set_option linter.unusedVariables false
set_option linter.unusedSimpArgs false

/-- The place of the last point,or -1. -/
def dotI : List Int → Int
 | [] => -1
 | x::r => if 0 ≤ dotI r then dotI r + 1 else if x = 46 then 0 else -1
theorem dotI_none : ∀ {l : List Int},(46 : Int) ∉ l → dotI l = -1
 | [],_ => rfl
 | x::r,h => by
  have ih:=dotI_none (l:=r) fun h' => h (List.mem_cons_of_mem _ h')
  simp only [dotI]
  rw [ih,if_neg (by omega),if_neg (fun e => h (by rw [e]; exact List.mem_cons_self))]
theorem dotI_some : ∀ (l1 : List Int) {l2 : List Int},(46 : Int) ∉ l2 → dotI (l1 ++ 46::l2) = l1.length
 | [],l2,h => by simp [dotI,dotI_none h]
 | x::l1,l2,h => by
  have ih:=dotI_some l1 h
  simp only [List.cons_append,dotI,ih,List.length_cons]
  rw [if_pos (by omega)]; omega
/-- The stem and the extension,in characters. -/
def partsC (v : Int) (l : List Int) (dir : Bool) : List Int × List Int :=
 if dir = false ∧ 0 < dotI l ∧ dotI l < (l.length : Int) - 1 ∧ (v = 0 ∨ (l.length : Int) - 1 - dotI l ≤ 16) then (l.take (dotI l).toNat,l.drop (dotI l + 1).toNat)
 else if dir = false ∧ v = 0 ∧ 0 < dotI l ∧ dotI l = (l.length : Int) - 1 then (l.take (dotI l).toNat,[]) else (l,[])
theorem runesB_nil {l : List Int} : runesB l = [] ↔ l = []:=by
 cases l with
 | nil => simp [runesB]
 | cons r l =>
  have : runesB (r::l) = (Utf8.encode r).data.toList ++ runesB l:=by simp [runesB]
  rw [this]
  simp only [List.append_eq_nil_iff,reduceCtorEq,iff_false]
  exact fun h => enc_ne r h.1
theorem suffix_dot (a : List UInt8) : Lib.trimSuffix (a ++ [46]) [46] = a:=by
 simp [Lib.trimSuffix,Lib.hasSuffix]
theorem no_suffix {s : List UInt8} (h : ∀ a,s ≠ a ++ [46]) : Lib.trimSuffix s [46] = s:=by
 unfold Lib.trimSuffix
 rw [if_neg]
 intro hs
 have : ([46] : List UInt8) <:+ s:=by
  simp only [Lib.hasSuffix] at hs
  exact List.isSuffixOf_iff_suffix.1 hs
 obtain ⟨a,ha⟩:=this
 exact h a ha.symm

theorem cut_chars (v : Int) {s : List UInt8} {l : List Int} (hc : charsP s = some l) (dir : Bool) :
  runesI (cutS v s dir).1 = (partsC v l dir).1 ∧ runesI (cutS v s dir).2 = (partsC v l dir).2 ∧ ((cutS v s dir).2 = [] ↔ (partsC v l dir).2 = []):=by
 have hr:=runes_chars hc
 have h0 : runesI [] = []:=rfl
 obtain ⟨hb,hch⟩:=chars_bytes s.length s l (Nat.le_refl _) hc
 cases dir with
 | true =>
  simp only [cutS,partsC,if_true,Bool.true_eq_false,false_and,if_false,hr,h0,and_self,iff_self]
 | false =>
  rcases dot_split hc with ⟨h1,h2⟩ | ⟨l1,l2,e,h2,h3,h4⟩
  ·have hd:=dotI_none h2
   have hcb : cutB v s = false:=by simp [cutB,h1]
   have ht : Lib.trimSuffix s [46] = s:=no_suffix fun a ha => by
    have : (runesB l)[a.length]? = some 46:=by rw [hb,ha]; simp
    obtain ⟨l1,l2,e,_⟩:=byte_dot l hch _ this
    exact h2 (by rw [e]; simp)
   have hp : partsC v l false = (l,[]):=by simp [partsC,hd]
   rw [hp]
   simp only [cutS,Bool.false_eq_true,if_false,hcb,ht]
   split <;> simp [hr,h0]
  ·have hd:=dotI_some l1 h2
   rw [← e] at hd
   have hc1 : ∀ r ∈ l1,isChar r = true:=fun r hr => hch r (by rw [e]; simp [hr])
   have hc2 : ∀ r ∈ l2,isChar r = true:=fun r hr => hch r (by rw [e]; simp [hr])
   have hr1 : runesI (runesB l1) = l1:=runes_chars (charsP_of l1 hc1)
   have hr2 : runesI (runesB l2) = l2:=runes_chars (charsP_of l2 hc2)
   have hll : l.length = l1.length + 1 + l2.length:=by rw [e]; simp; omega
   have hsl : s.length = (runesB l1).length + 1 + (runesB l2).length:=by rw [h4]; simp; omega
   have p1 : 0 < (runesB l1).length ↔ 0 < l1.length:=by
    rw [List.length_pos_iff,List.length_pos_iff]; exact not_congr runesB_nil
   have p2 : 0 < (runesB l2).length ↔ 0 < l2.length:=by
    rw [List.length_pos_iff,List.length_pos_iff]; exact not_congr runesB_nil
   have htk : s.take (lastDot s).toNat = runesB l1:=by rw [h3,h4]; simp
   have hdr : s.drop (lastDot s + 1).toNat = runesB l2:=by
    have : (lastDot s + 1).toNat = (runesB l1).length + 1:=by omega
    rw [this,h4]
    simp
   have ltk : l.take (dotI l).toNat = l1:=by rw [hd,e]; simp
   have ldr : l.drop (dotI l + 1).toNat = l2:=by
    have : (dotI l + 1).toNat = l1.length + 1:=by omega
    rw [this,e]; simp
   have hcb : cutB v s = true ↔ (0 < l1.length ∧ 0 < l2.length ∧ (v = 0 ∨ (l2.length : Int) ≤ 16)):=by
    simp only [cutB,hdr,hr2,Bool.and_eq_true,decide_eq_true_eq,Bool.or_eq_true,beq_iff_eq]
    constructor
    ·rintro ⟨⟨a,b⟩,c⟩; exact ⟨p1.1 (by omega),p2.1 (by omega),c⟩
    ·rintro ⟨a,b,c⟩; have:=p1.2 a; have:=p2.2 b; exact ⟨⟨by omega,by omega⟩,c⟩
   by_cases h5 : 0 < l1.length ∧ 0 < l2.length ∧ (v = 0 ∨ (l2.length : Int) ≤ 16)
   ·have hP : partsC v l false = (l1,l2):=by
     rw [partsC,if_pos ⟨rfl,by omega,by omega,by rcases h5.2.2 with h | h; exact .inl h; exact .inr (by omega)⟩,ltk,ldr]
    have hC : cutS v s false = (runesB l1,runesB l2):=by
     rw [cutS,if_neg (by simp),if_pos (hcb.2 h5),htk,hdr]
    rw [hP,hC]
    exact ⟨hr1,hr2,runesB_nil⟩
   ·have hcb' : ¬ cutB v s = true:=fun h => h5 (hcb.1 h)
    have hP0 : ¬ (false = false ∧ 0 < dotI l ∧ dotI l < (l.length : Int) - 1 ∧ (v = 0 ∨ (l.length : Int) - 1 - dotI l ≤ 16)):=by
     rintro ⟨_,a,b,c⟩
     exact h5 ⟨by omega,by omega,by rcases c with c | c; exact .inl c; exact .inr (by omega)⟩
    by_cases h6 : v = 0 ∧ 0 < l1.length ∧ l2 = []
    ·obtain ⟨hv,hl1,rfl⟩:=h6
     have hP : partsC v l false = (l1,[]):=by
      rw [partsC,if_neg hP0,if_pos ⟨rfl,hv,by omega,by simp at hll; omega⟩,ltk]
     have hC : cutS v s false = (runesB l1,[]):=by
      have:=p1.2 hl1
      rw [cutS,if_neg (by simp),if_neg hcb',if_pos ⟨hv,by omega⟩]
      have : s = runesB l1 ++ [46]:=by rw [h4]; rfl
      rw [this,suffix_dot]
     rw [hP,hC]
     exact ⟨hr1,h0,by simp⟩
    ·have hP : partsC v l false = (l,[]):=by
      rw [partsC,if_neg hP0,if_neg]
      rintro ⟨_,a,b,c⟩
      exact h6 ⟨a,by omega,List.eq_nil_of_length_eq_zero (by omega)⟩
     have hC : cutS v s false = (s,[]):=by
      rw [cutS,if_neg (by simp),if_neg hcb']
      split
      ·rename_i h7
       have : Lib.trimSuffix s [46] = s:=no_suffix fun a ha => by
        by_cases hl2 : l2 = []
        ·subst hl2
         have hl1 : ¬ 0 < l1.length:=fun h => h6 ⟨h7.1,h,rfl⟩
         have : l1 = []:=List.eq_nil_of_length_eq_zero (by omega)
         subst this
         simp [runesB] at hsl
         omega
        ·have h8 : 0 < (runesB l2).length:=p2.2 (List.length_pos_iff.2 hl2)
         have : (runesB l2)[(runesB l2).length - 1]? = some 46:=by
          have h9 : s[s.length - 1]? = some 46:=by rw [ha]; simp
          rw [h4] at h9
          simp only [List.length_append,List.length_cons] at h9
          rw [List.getElem?_append_right (by omega)] at h9
          have : (runesB l1).length + ((runesB l2).length + 1) - 1 - (runesB l1).length = (runesB l2).length - 1 + 1:=by omega
          rw [this] at h9
          simpa using h9
         obtain ⟨l3,l4,e3,_⟩:=byte_dot l2 hc2 _ this
         exact h2 (by rw [e3]; simp)
       rw [this]
      ·rfl
     rw [hP,hC]
     exact ⟨hr,h0,by simp⟩
end Go.Tame.V
/- Contracts: the wanted name and the numbered name. By program (mk40.py,mk.py). -/
namespace Go.Tame.V
open Go Go.Proofs
variable {W0 : World}
set_option maxRecDepth 10000
set_option linter.unusedVariables false
set_option linter.unusedSimpArgs false

def mapC (v : Int) (r : Int) : Int:=if v = 0 then isoC r else jolC r
def mostC (v : Int) : Nat:=if v = 0 then 3 else 64
def wantS (v : Int) (s : List UInt8) (dir : Bool) : List Int × List Int :=
 ((runesI (cutS v s dir).1).map (mapC v),if (cutS v s dir).2 = [] then [] else 46::((runesI (cutS v s dir).2).map (mapC v)).take (mostC v))
theorem mapC_ok (v r : Int) (h : isChar r = true) : DFun Tryz.prog W0 (bif v == 0 then 124 else 123) [.int .i32 r] (.int .i32 (mapC v r)):=by
 obtain ⟨h1,h2,h3⟩:=(isChar_iff r).1 h
 cases hv : (v == 0) with
 | true =>
  have : v = 0:=by simpa using hv
  rw [mapC,if_pos this]; exact F140 r (by omega) (by omega)
 | false =>
  have : ¬ v = 0:=by simpa using hv
  rw [mapC,if_neg this]; exact F139 r h
theorem parts_char {v : Int} {l : List Int} {dir : Bool} (h : ∀ r ∈ l,isChar r = true) : (∀ r ∈ (partsC v l dir).1,isChar r = true) ∧ ∀ r ∈ (partsC v l dir).2,isChar r = true:=by
 unfold partsC
 split
 ·exact ⟨fun r hr => h r (List.mem_of_mem_take hr),fun r hr => h r (List.mem_of_mem_drop hr)⟩
 ·split
  ·exact ⟨fun r hr => h r (List.mem_of_mem_take hr),fun r hr => by cases hr⟩
  ·exact ⟨h,fun r hr => by cases hr⟩
theorem trim_len (s p : List UInt8) : (Lib.trimSuffix s p).length ≤ s.length:=by
 unfold Lib.trimSuffix; split <;> simp
theorem cutS_len (v : Int) (s : List UInt8) (dir : Bool) : (cutS v s dir).1.length ≤ s.length ∧ (cutS v s dir).2.length ≤ s.length:=by
 unfold cutS
 split
 ·simp
 ·split
  ·simp; omega
  ·split
   ·have:=trim_len s [46]; simp; omega
   ·simp
def wantD (st ex : List Int) : D:=.agg [.sl .none 1 (ints32 st),.sl .none 1 (ints32 ex)]

theorem F125 (v : Int) (s : List UInt8) (l : List Int) (dir : Bool) (hs : s.length < 1000000) (hc : charsP s = some l) : DFun Tryz.prog W0 79 [.int .i64 v,.str s,.bool dir] (wantD (wantS v s dir).1 (wantS v s dir).2):=by
 have hch:=(chars_bytes s.length s l (Nat.le_refl _) hc).2
 obtain ⟨q1,q2,q3⟩:=cut_chars v hc dir
 have hpc:=parts_char (v:=v) (dir:=dir) hch
 have hcl:=cutS_len v s dir
 refine DFun.intro ti_ok Tryz.func79 rfl (by decide +kernel) Tryz.ntmps79 rfl fun Γ => ?_
 refine Tri.seq ?_
 refine Tri.region ti_ok ?_
 conv => whnf
 intro b6
 conv => whnf
 refine Tri.seq ?_
 refine Tri.region ti_ok ?_
 conv => whnf
 refine Tri.joinK (α:=Unit) (fun x => [(0,.int .i64 v),(1,.str s),(2,.bool dir),(6,.box 6 b6 0),(7,.fn (.func (bif v == 0 then 124 else 123)) [] []),(8,.int .i64 (bif v == 0 then 3 else 64))]) (fun x => [(6,.box b6 [.nils,.nils])]) ?_ ?_
 ·refine Tri.seq ?_
  refine Tri.region ti_ok ?_
  conv => whnf
  refine Tri.cond _ rfl (fun hc => ?_) (fun hc => ?_)
  ·refine Tri.region ti_ok ?_
   conv => whnf
   exact ⟨(),[(6,6)],⟨.refl _,.refl _,.refl _,.refl _,DLe.of_eq (congrArg (fun z => D.fn (.func (bif z then 124 else 123)) [] []) hc.symm),DLe.of_eq (congrArg (fun z => D.int .i64 (bif z then 3 else 64)) hc.symm),trivial⟩,rfl,rfl,rfl,trivial⟩
  ·refine Tri.skip ?_
   conv => whnf
   exact ⟨(),[(6,6)],⟨.refl _,.refl _,.refl _,.refl _,DLe.of_eq (congrArg (fun z => D.fn (.func (bif z then 124 else 123)) [] []) hc.symm),DLe.of_eq (congrArg (fun z => D.int .i64 (bif z then 3 else 64)) hc.symm),trivial⟩,rfl,rfl,rfl,trivial⟩
 ·rintro ⟨⟩
  refine Tri.seq ?_
  refine Tri.region ti_ok ?_
  conv => whnf
  refine ⟨[.int .i64 v,.str s,.bool dir],_,fun _ => F141 v s dir (by omega),⟨.refl _,.refl _,.refl _,trivial⟩,?_⟩
  conv => whnf
  refine Tri.seq ?_
  refine Tri.region ti_ok ?_
  conv => whnf
  refine ⟨[.str (cutS v s dir).1,.fn (.func (bif v == 0 then 124 else 123)) [] []],_,fun _ => F142 (cutS v s dir).1 _ (mapC v) (by omega) (fun r hr => mapC_ok v r (hpc.1 r (by rw [← q1]; exact hr))),⟨.refl _,.refl _,trivial⟩,?_⟩
  conv => whnf
  intro b11
  conv => whnf
  refine ⟨rfl,?_⟩
  conv => whnf
  refine Tri.seq ?_
  refine Tri.seq ?_
  refine Tri.region ti_ok ?_
  conv => whnf
  refine Tri.cond _ rfl (fun hc => ?_) (fun hc => ?_)
  ·refine Tri.seq ?_
   refine Tri.region ti_ok ?_
   conv => whnf
   refine ⟨[.str (cutS v s dir).2,.fn (.func (bif v == 0 then 124 else 123)) [] []],_,fun _ => F142 (cutS v s dir).2 _ (mapC v) (by omega) (fun r hr => mapC_ok v r (hpc.2 r (by rw [← q2]; exact hr))),⟨.refl _,.refl _,trivial⟩,?_⟩
   conv => whnf
   have hrl:=runesI_len (cutS v s dir).2
   generalize hX : (runesI (cutS v s dir).2).map (mapC v) = X
   have hXl : X.length ≤ 1000000:=by rw [← hX]; simp; omega
   have hm0 : (0 : Int) ≤ (bif v == 0 then 3 else 64):=by cases (v == 0) <;> simp
   refine Tri.region ti_ok ?_
   conv => whnf
   refine ⟨trivial,?_⟩
   conv => whnf
   have hmin : (0 : Int) ≤ (if (bif v == 0 then (3 : Int) else 64) < ((ints32 X).length : Int) then (bif v == 0 then (3 : Int) else 64) else ((ints32 X).length : Int)) ∧ (if (bif v == 0 then (3 : Int) else 64) < ((ints32 X).length : Int) then (bif v == 0 then (3 : Int) else 64) else ((ints32 X).length : Int)) ≤ ((ints32 X).length : Int):=by split <;> omega
   have hmint : (X.take (mostC v)) = X.take (if (bif v == 0 then (3 : Int) else 64) < ((ints32 X).length : Int) then (bif v == 0 then (3 : Int) else 64) else ((ints32 X).length : Int)).toNat:=by
    have e : ((bif v == 0 then (3 : Int) else 64)).toNat = mostC v:=by
     unfold mostC
     cases hv : (v == 0) with
     | true => rw [if_pos (by simpa using hv)]; rfl
     | false => rw [if_neg (by simpa using hv)]; rfl
    split
    ·rw [e]
    ·rename_i hlt
     have : X.length ≤ mostC v:=by rw [← e]; simp [ints32] at hlt; omega
     rw [List.take_of_length_le this,List.take_of_length_le (by simp [ints32])]
   refine ⟨fun _ => ⟨Int.le_refl _,hmin.1,hmin.2⟩,?_⟩
   conv => whnf
   refine ⟨by show (_ + _) * 4 ≤ _; simp [ints32]; omega,by show _ + _ ≤ _; simp [ints32]; omega,(fun h => by cases h),fun w => ?_⟩
   conv => whnf
   refine ⟨rfl,?_⟩
   conv => whnf
   refine Tri.seq ?_
   refine Tri.region ti_ok ?_
   conv => whnf
   refine ⟨rfl,?_⟩
   conv => whnf
   refine ⟨rfl,?_⟩
   conv => whnf
   refine Tri.ret ?_
   conv => whnf
   refine ⟨rfl,?_⟩
   conv => whnf
   have hne : ¬ (cutS v s dir).2 = []:=by simpa using hc
   refine DLe.agg ?_
   refine ⟨.refl _,⟨fun w' C' u h => ?_⟩,trivial⟩
   have h2:=(DLe.unown (t:=.own 38 w)).le w' C' u h
   have e : ([D.int .i32 46] ++ (List.drop (Int.toNat 0) ((ints32 X).take (if (bif v == 0 then (3 : Int) else 64) < ((ints32 X).length : Int) then (bif v == 0 then (3 : Int) else 64) else ((ints32 X).length : Int)).toNat))) = ints32 (wantS v s dir).2:=by
    simp only [wantS]
    rw [if_neg hne,hX,hmint]
    simp [ints32]
   rw [← e]
   exact h2
  ·refine Tri.skip ?_
   conv => whnf
   refine Tri.seq ?_
   refine Tri.region ti_ok ?_
   conv => whnf
   refine ⟨rfl,?_⟩
   conv => whnf
   refine ⟨rfl,?_⟩
   conv => whnf
   refine Tri.ret ?_
   conv => whnf
   refine ⟨rfl,?_⟩
   conv => whnf
   have hne : (cutS v s dir).2 = []:=by simpa using hc
   have e : (wantS v s dir).2 = []:=by simp only [wantS]; rw [if_pos hne]
   refine DLe.agg ?_
   refine ⟨.refl _,?_,trivial⟩
   rw [e]; exact DLe.nil

theorem digs_len : ∀ k,k < 100 → (Lib.decDigits k).length ≤ 2:=by
 intro k hk
 rw [Lib.decDigits]
 split
 ·simp
 ·rw [Lib.decDigits,dif_pos (by omega)]; simp
def sufI (k : Nat) : List Int:=if 0 < k then runesI (Lib.decDigits k) else []
theorem sufI_len {k : Nat} (hk : k < 100) : (sufI k).length ≤ 2:=by
 unfold sufI; split
 ·have:=runesI_len (Lib.decDigits k); have:=digs_len k hk; omega
 ·simp
def roomI (v : Int) (ex : List Int) (k : Nat) : Int:=bif v == 1 then 64 - (ex.length : Int) - ((sufI k).length : Int) else 8 - ((sufI k).length : Int)
/-- How many characters of the stem stay. -/
def stemN (v : Int) (st ex : List Int) (k : Nat) : Nat:=(if (if roomI v ex k < (st.length : Int) then roomI v ex k else (st.length : Int)) > 0 then (if roomI v ex k < (st.length : Int) then roomI v ex k else (st.length : Int)) else 0).toNat
def numS (v : Int) (st ex : List Int) (k : Nat) : List UInt8:=runesB (st.take (stemN v st ex k) ++ sufI k ++ ex)

theorem F126 (v : Int) (st ex : List Int) (k : Nat) (hk : k < 100) (hst : st.length < 1000000) (hex : ex.length < 1000000) : DFun Tryz.prog W0 80 [wantD st ex,.int .i64 v,.int .i64 (k : Nat)] (.str (numS v st ex k)):=by
 have hsl:=sufI_len hk
 refine DFun.intro ti_ok Tryz.func80 rfl (by decide +kernel) Tryz.ntmps80 rfl fun Γ => ?_
 refine Tri.seq ?_
 refine Tri.region ti_ok ?_
 conv => whnf
 intro b3
 conv => whnf
 refine Tri.seq ?_
 refine Tri.region ti_ok ?_
 conv => whnf
 refine ⟨trivial,?_⟩
 conv => whnf
 refine Tri.joinK (α:=Unit) (fun x => [(1,.int .i64 v),(3,.box 3 b3 0),(7,.sl .none 1 (ints32 (sufI k)))]) (fun x => [(3,.box b3 [.sl .none 1 (ints32 st),.sl .none 1 (ints32 ex)])]) ?_ ?_
 ·refine Tri.seq ?_
  refine Tri.region ti_ok ?_
  conv => whnf
  refine Tri.cond _ rfl (fun hc => ?_) (fun hc => ?_)
  ·refine Tri.region ti_ok ?_
   conv => whnf
   refine ⟨[.int .i64 (k : Nat)],_,fun _ => F143 k hk,⟨.refl _,trivial⟩,?_⟩
   conv => whnf
   refine ⟨by have:=digs_len k hk; omega,?_⟩
   conv => whnf
   have h0 : 0 < k:=by simpa using hc
   exact ⟨(),[(3,3)],⟨.refl _,.refl _,DLe.of_eq (congrArg (D.sl .none 1) (by rw [sufI,if_pos h0]; rfl)),trivial⟩,rfl,rfl,rfl,trivial⟩
  ·refine Tri.skip ?_
   conv => whnf
   have h0 : ¬ 0 < k:=by simpa using hc
   exact ⟨(),[(3,3)],⟨.refl _,.refl _,⟨fun w C u h => by rw [sufI,if_neg h0]; exact h.untag⟩,trivial⟩,rfl,rfl,rfl,trivial⟩
 ·rintro ⟨⟩
  generalize hSk : sufI k = S at *
  refine Tri.seq ?_
  refine Tri.region ti_ok ?_
  conv => whnf
  refine .inl ⟨fun _ => by simp only [InR,ints32,List.length_map]; omega,?_⟩
  conv => whnf
  refine Tri.joinK (α:=Unit) (fun x => [(1,.int .i64 v),(3,.box 3 b3 0),(7,.sl .none 1 (ints32 S)),(8,.int .i64 (roomI v ex k))]) (fun x => [(3,.box b3 [.sl .none 1 (ints32 st),.sl .none 1 (ints32 ex)])]) ?_ ?_
  ·refine Tri.seq ?_
   refine Tri.region ti_ok ?_
   conv => whnf
   refine Tri.cond _ rfl (fun hc => ?_) (fun hc => ?_)
   ·refine Tri.region ti_ok ?_
    conv => whnf
    refine ⟨rfl,?_⟩
    conv => whnf
    refine .inl ⟨fun _ => by simp only [InR,ints32,List.length_map]; omega,?_⟩
    conv => whnf
    refine .inl ⟨fun _ => by simp only [InR,ints32,List.length_map]; omega,?_⟩
    conv => whnf
    exact ⟨(),[(3,3)],⟨.refl _,.refl _,.refl _,DLe.of_eq (congrArg (D.int .i64) (by rw [roomI,hc,hSk]; simp [ints32])),trivial⟩,rfl,rfl,rfl,trivial⟩
   ·refine Tri.skip ?_
    conv => whnf
    exact ⟨(),[(3,3)],⟨.refl _,.refl _,.refl _,DLe.of_eq (congrArg (D.int .i64) (by rw [roomI,hc,hSk]; simp [ints32])),trivial⟩,rfl,rfl,rfl,trivial⟩
  ·rintro ⟨⟩
   refine Tri.seq ?_
   refine Tri.regionX ti_ok ?_
   conv => whnf
   refine ⟨trivial,?_⟩
   conv => whnf
   refine .inl ?_
   conv => whnf
   refine ⟨rfl,?_⟩
   conv => whnf
   refine .inl ?_
   conv => whnf
   refine ⟨rfl,?_⟩
   conv => whnf
   have hle : (if roomI v ex k < ((ints32 st).length : Int) then roomI v ex k else ((ints32 st).length : Int)) ≤ ((ints32 st).length : Int):=by split <;> omega
   generalize hM : (if roomI v ex k < ((ints32 st).length : Int) then roomI v ex k else ((ints32 st).length : Int)) = M at *
   refine .inl ?_
   conv => whnf
   refine ⟨fun _ => ⟨Int.le_refl _,by split <;> omega,by split <;> omega⟩,?_⟩
   conv => whnf
   refine .inl ?_
   conv => whnf
   refine ⟨by show (_ + _) * 4 ≤ _; simp [ints32]; omega,by show _ + _ ≤ _; simp [ints32]; omega,(fun h => by cases h),fun v9 => ?_⟩
   conv => whnf
   have hA : ([] ++ List.drop (Int.toNat 0) ((ints32 st).take (if M > 0 then M else 0).toNat)) = ints32 (st.take (stemN v st ex k)):=by
    have e : stemN v st ex k = (if M > 0 then M else 0).toNat:=by
     rw [← hM]; simp only [stemN,ints32,List.length_map]
    rw [e]; simp [ints32]
   rw [List.map_nil,hA]
   have hAl : (st.take (stemN v st ex k)).length ≤ 1000000:=by simp; omega
   generalize hAA : st.take (stemN v st ex k) = A at *
   generalize hvv : v9 = v' at *
   refine Tri.seq ?_
   have hself : ∀ (x : Value × Value) (b2 b5 : Bool) (σ : DSt),σ.H = look ((3,.box b3 [.sl .none 1 (ints32 st),.sl .none 1 (ints32 ex)])::(bif b2 then (bif b5 then [(44,.own x.2 (A ++ S ++ ex).length 1 21)] else [(41,.own x.1 (A ++ S).length 1 21)]) else [(38,.own v' A.length 1 21)])) →
     SubH σ ((3,.box b3 [.sl .none 1 (ints32 st),.sl .none 1 (ints32 ex)])::(bif b2 then (bif b5 then [(44,.own x.2 (A ++ S ++ ex).length 1 21)] else [(41,.own x.1 (A ++ S).length 1 21)]) else [(38,.own v' A.length 1 21)])):=by
    intro x b2 b5 σ h
    cases b2 <;> cases b5 <;> exact ⟨by rw [h]; rfl,by rw [h]; rfl,trivial⟩
   have hown : ∀ (x : Value × Value) (b2 b5 : Bool),b2 = true → b5 = false → ∀ σ : DSt,σ.H 3 = some (.box b3 [.sl .none 1 (ints32 st),.sl .none 1 (ints32 ex)]) → σ.H 41 = some (.own x.1 (A ++ S).length 1 21) →
     SubH σ ((3,.box b3 [.sl .none 1 (ints32 st),.sl .none 1 (ints32 ex)])::(bif b2 then (bif b5 then [(44,.own x.2 (A ++ S ++ ex).length 1 21)] else [(41,.own x.1 (A ++ S).length 1 21)]) else [(38,.own v' A.length 1 21)])):=by
    intro x b2 b5 h2 h5 σ g1 g2
    subst h2 h5
    exact ⟨g1,g2,trivial⟩
   refine Tri.bitsI ti_ok mixed (α:=Value × Value) (fun x f => [(3,.box 3 b3 0),(7,.sl .none 1 (ints32 S)),(9,.sl (.own 38 v') 1 (ints32 A)),(39,bif f 0 then .sl (.own 38 v') 1 (ints32 A) else .any),(40,bif f 1 then .sl .none 1 (ints32 S) else .any),(41,bif f 2 then .sl (.own 41 x.1) 1 (ints32 (A ++ S)) else .any),(42,bif f 3 then .box 3 b3 1 else .any),(43,bif f 4 then .sl .none 1 (ints32 ex) else .any),(44,bif f 5 then .sl (.own 44 x.2) 1 (ints32 (A ++ S ++ ex)) else .any),(45,bif f 6 then .str (runesB (A ++ S ++ ex)) else .any),(6,bif f 7 then .str (runesB (A ++ S ++ ex)) else .any)])
    (fun x f => (3,.box b3 [.sl .none 1 (ints32 st),.sl .none 1 (ints32 ex)])::(bif f 2 then (bif f 5 then [(44,.own x.2 (A ++ S ++ ex).length 1 21)] else [(41,.own x.1 (A ++ S).length 1 21)]) else [(38,.own v' A.length 1 21)])) (by decide +kernel) (v',v') ?_ ?_ ?_ ?_
   ·exact ⟨.refl _,.refl _,.refl _,.any _,.any _,.any _,.any _,.any _,.any _,.any _,.any _,trivial⟩
   ·exact ⟨rfl,congrArg (fun z => some (HObj.own v' z 1 21)) (by have:=congrArg List.length hA; simpa [ints32] using this),trivial⟩
   ·conv => whnf
    refine ⟨fun x f hI => ?_,?_⟩
    ·conv => whnf
     refine ⟨x,⟨.refl _,.refl _,.refl _,.refl _,.refl _,.refl _,.refl _,.refl _,.refl _,.refl _,.refl _,trivial⟩,hself x _ _ _ rfl⟩
    refine ⟨fun x f hI => ?_,?_⟩
    ·conv => whnf
     refine ⟨x,⟨.refl _,.refl _,.refl _,.refl _,.refl _,.refl _,.refl _,.refl _,.refl _,.refl _,.refl _,trivial⟩,hself x _ _ _ rfl⟩
    refine ⟨fun x f hI => ?_,?_⟩
    ·conv => whnf
     refine .inl ?_
     conv => whnf
     refine ⟨rfl,by simp [ints32],?_⟩
     conv => whnf
     refine ⟨by show (_ + _) * 4 ≤ _; simp [ints32]; omega,by show _ + _ ≤ _; simp [ints32]; omega,(fun h => by cases h),fun w => ?_⟩
     refine ⟨(w,x.2),⟨.refl _,.refl _,.refl _,.refl _,.refl _,DLe.of_eq (congrArg (D.sl _ 1) (by simp [ints32])),.refl _,.refl _,.refl _,.refl _,.refl _,trivial⟩,?_⟩
     exact hown (w,x.2) _ _ rfl (hI.no 5 2 rfl rfl) _ rfl (congrArg (fun z => some (HObj.own w z 1 21)) (by simp [ints32]))
    refine ⟨fun x f hI => ?_,?_⟩
    ·conv => whnf
     refine ⟨x,⟨.refl _,.refl _,.refl _,.refl _,.refl _,.refl _,.refl _,.refl _,.refl _,.refl _,.refl _,trivial⟩,hself x _ _ _ rfl⟩
    refine ⟨fun x f hI => ?_,?_⟩
    ·conv => whnf
     refine .inl ?_
     conv => whnf
     refine ⟨rfl,?_⟩
     conv => whnf
     refine ⟨x,⟨.refl _,.refl _,.refl _,.refl _,.refl _,.refl _,.refl _,.refl _,.refl _,.refl _,.refl _,trivial⟩,hself x _ _ _ rfl⟩
    refine ⟨fun x f hI => ?_,?_⟩
    ·conv => whnf
     refine .inl ?_
     conv => whnf
     refine ⟨rfl,by simp [ints32],?_⟩
     conv => whnf
     refine ⟨by show (_ + _) * 4 ≤ _; simp [ints32]; omega,by show _ + _ ≤ _; simp [ints32]; omega,(fun h => by cases h),fun w => ?_⟩
     refine ⟨(x.1,w),⟨.refl _,.refl _,.refl _,.refl _,.refl _,.refl _,.refl _,.refl _,DLe.of_eq (congrArg (D.sl _ 1) (by simp [ints32])),.refl _,.refl _,trivial⟩,?_⟩
     exact ⟨rfl,congrArg (fun z => some (HObj.own w z 1 21)) (by simp [ints32,Nat.add_assoc]),trivial⟩
    refine ⟨fun x f hI => ?_,?_⟩
    ·conv => whnf
     refine .inl ?_
     conv => whnf
     refine ⟨A ++ S ++ ex,rfl,?_⟩
     conv => whnf
     refine ⟨x,⟨.refl _,.refl _,.refl _,.refl _,.refl _,.refl _,.refl _,.refl _,.refl _,.refl _,.refl _,trivial⟩,hself x _ _ _ rfl⟩
    refine ⟨fun x f hI => ?_,?_⟩
    ·conv => whnf
     refine ⟨x,⟨.refl _,.refl _,.refl _,.refl _,.refl _,.refl _,.refl _,.refl _,.refl _,.refl _,.refl _,trivial⟩,hself x _ _ _ rfl⟩
    exact trivial
   ·intro x f hf
    have e7:=hf 7 (by decide +kernel)
    refine Tri.ret ?_
    conv => whnf
    rw [e7]
    exact DLe.of_eq (congrArg D.str (by rw [numS,hSk,hAA]))
end Go.Tame.V
/- The names at the views 0 and 1: a free number below 100 is always there. No program's code. -/
namespace Go.Tame.V
open Go Go.Proofs
set_option maxRecDepth 10000
set_option linter.unusedVariables false
set_option linter.unusedSimpArgs false

theorem dig2 {k : Nat} (h1 : 10 ≤ k) (h2 : k < 100) : Lib.decDigits k = [UInt8.ofNat (48 + k / 10),UInt8.ofNat (48 + k % 10)]:=by
 rw [Lib.decDigits,dif_neg (by omega),Lib.decDigits,dif_pos (by omega)]
 rfl
theorem charsP_ascii : ∀ (s : List UInt8),(∀ b ∈ s,32 ≤ b.toNat ∧ b.toNat < 127) → charsP s = some (s.map fun b => (b.toNat : Int))
 | [],_ => rfl
 | b::s,h => by
  have hb:=h b List.mem_cons_self
  have ih:=charsP_ascii s fun x hx => h x (List.mem_cons_of_mem _ hx)
  have:=charsP_of ((b::s).map fun b => (b.toNat : Int)) (by
   intro r hr
   obtain ⟨c,hc,rfl⟩:=List.mem_map.1 hr
   have:=h c hc
   exact (isChar_iff _).2 ⟨by omega,by omega,by omega⟩)
  have e : ∀ l : List UInt8,(∀ b ∈ l,32 ≤ b.toNat ∧ b.toNat < 127) → runesB (l.map fun b => (b.toNat : Int)) = l:=by
   intro l
   induction l with
   | nil => intro _; rfl
   | cons c l ih =>
    intro hl
    have e : runesB ((c::l).map fun b => (b.toNat : Int)) = (Utf8.encode (c.toNat : Int)).data.toList ++ runesB (l.map fun b => (b.toNat : Int)):=by simp [runesB]
    rw [e,ih fun x hx => hl x (List.mem_cons_of_mem _ hx)]
    have hc:=hl c List.mem_cons_self
    have e1 : (Utf8.encode (c.toNat : Int)).data.toList = [UInt8.ofNat c.toNat]:=by
     unfold Utf8.encode
     simp only [show Utf8.valid (c.toNat : Int) = true by simp [Utf8.valid]; omega,if_true,Int.toNat_natCast]; rw [if_pos (by omega)]
    rw [e1]; simp
  rw [e (b::s) h] at this
  exact this
theorem dig2_rng {k : Nat} (h1 : 10 ≤ k) (h2 : k < 100) : ∀ b ∈ Lib.decDigits k,32 ≤ b.toNat ∧ b.toNat < 127:=by
 rw [dig2 h1 h2]
 have hU : ∀ x : Nat,x < 256 → (UInt8.ofNat x).toNat = x:=fun x hx => by rw [UInt8.toNat_ofNat']; omega
 intro b hb
 simp only [List.mem_cons,List.not_mem_nil,or_false] at hb
 rcases hb with rfl | rfl
 ·rw [hU _ (by omega)]; omega
 ·rw [hU _ (by omega)]; omega
theorem suf2 {k : Nat} (h1 : 10 ≤ k) (h2 : k < 100) : sufI k = [48 + ((k / 10 : Nat) : Int),48 + ((k % 10 : Nat) : Int)]:=by
 have hU : ∀ x : Nat,x < 256 → (UInt8.ofNat x).toNat = x:=fun x hx => by rw [UInt8.toNat_ofNat']; omega
 rw [sufI,if_pos (by omega),runes_chars (charsP_ascii _ (dig2_rng h1 h2)),dig2 h1 h2]
 simp only [List.map_cons,List.map_nil]
 rw [hU _ (by omega),hU _ (by omega)]
 rfl
theorem suf2_char {k : Nat} (h1 : 10 ≤ k) (h2 : k < 100) : ∀ r ∈ sufI k,isChar r = true:=by
 rw [suf2 h1 h2]
 intro r hr
 simp only [List.mem_cons,List.not_mem_nil,or_false] at hr
 rcases hr with rfl | rfl <;> exact (isChar_iff _).2 ⟨by omega,by omega,by omega⟩

theorem runesB_inj {a b : List Int} (ha : ∀ r ∈ a,isChar r = true) (hb : ∀ r ∈ b,isChar r = true) (h : runesB a = runesB b) : a = b:=by
 have h1:=charsP_of a ha
 rw [h,charsP_of b hb] at h1
 exact (Option.some.inj h1).symm
theorem num_inj (v : Int) (st ex : List Int) {j k : Nat} (hj1 : 10 ≤ j) (hj2 : j < 100) (hk1 : 10 ≤ k) (hk2 : k < 100) (h : numS v st ex j = numS v st ex k) : j = k:=by
 have hs : stemN v st ex j = stemN v st ex k:=by simp only [stemN,roomI,suf2 hj1 hj2,suf2 hk1 hk2,List.length_cons,List.length_nil]
 simp only [numS,hs] at h
 rw [runesB_append,runesB_append,runesB_append,runesB_append] at h
 have h:=List.append_cancel_left (List.append_cancel_right h)
 have:=runesB_inj (suf2_char hj1 hj2) (suf2_char hk1 hk2) h
 rw [suf2 hj1 hj2,suf2 hk1 hk2] at this
 simp only [List.cons.injEq,and_true] at this
 omega

/-- The least number whose name is free. -/
def freshK (v : Int) (used : List (List UInt8)) (st ex : List Int) : Nat:=((List.range 100).find? fun k => decide (numS v st ex k ∉ used)).getD 0
theorem fresh_ok (v : Int) (used : List (List UInt8)) (st ex : List Int) (hu : used.length ≤ 64) :
  freshK v used st ex < 100 ∧ numS v st ex (freshK v used st ex) ∉ used ∧ ∀ j,j < freshK v used st ex → numS v st ex j ∈ used:=by
 unfold freshK
 cases h : (List.range 100).find? fun k => decide (numS v st ex k ∉ used) with
 | none =>
  exfalso
  rw [List.find?_eq_none] at h
  have hn : (((List.range 90).map (fun i => i + 10)).map (numS v st ex)).Nodup:=by
   rw [List.nodup_iff_pairwise_ne,List.pairwise_map,List.pairwise_map]
   refine List.Pairwise.imp_of_mem (R:=(· ≠ ·)) ?_ (List.nodup_iff_pairwise_ne.1 List.nodup_range)
   intro a b ha hb hab he
   simp only [List.mem_range] at ha hb
   have:=num_inj v st ex (by omega) (by omega) (by omega) (by omega) he
   omega
  have hsub : ((List.range 90).map (fun i => i + 10)).map (numS v st ex) ⊆ used:=by
   intro x hx
   obtain ⟨y,hy,rfl⟩:=List.mem_map.1 hx
   obtain ⟨i,hi,rfl⟩:=List.mem_map.1 hy
   have:=h (i + 10) (by simp at hi ⊢; omega)
   simpa using this
  have:=hn.length_le_of_subset hsub
  simp at this; omega
 | some k =>
  obtain ⟨h1,h2,h3⟩:=List.find?_range_eq_some.1 h
  simp only [Option.getD_some]
  refine ⟨by simpa using h2,by simpa using h1,fun j hj => by simpa using h3 j hj⟩

def pickN (v : Int) (u : List (List UInt8)) (k : NV) : List UInt8 :=
 numS v (wantS v k.name (k.kind == 0)).1 (wantS v k.name (k.kind == 0)).2 (freshK v u (wantS v k.name (k.kind == 0)).1 (wantS v k.name (k.kind == 0)).2)
/-- The names in use after the children. The last one ahead. -/
def usedOf (v : Int) (ks : List NV) : List (List UInt8):=ks.foldl (fun u k => pickN v u k::u) []
def namesA (v : Int) (ks : List NV) : List (List UInt8):=(usedOf v ks).reverse
theorem usedOf_snoc (v : Int) (ks : List NV) (k : NV) : usedOf v (ks ++ [k]) = pickN v (usedOf v ks) k::usedOf v ks:=by simp [usedOf]
theorem snoc_rec {α : Type} {p : List α → Prop} (h0 : p []) (h1 : ∀ l x,p l → p (l ++ [x])) : ∀ l,p l:=by
 intro l
 have : ∀ r : List α,p r.reverse:=by
  intro r
  induction r with
  | nil => exact h0
  | cons x r ih => rw [List.reverse_cons]; exact h1 _ _ ih
 have:=this l.reverse
 rwa [List.reverse_reverse] at this
theorem usedOf_len (v : Int) (ks : List NV) : (usedOf v ks).length = ks.length:=by
 refine snoc_rec (p:=fun ks => (usedOf v ks).length = ks.length) rfl (fun l x ih => ?_) ks
 rw [usedOf_snoc]; simp [ih]
theorem pick_notin (v : Int) (u : List (List UInt8)) (k : NV) (hu : u.length ≤ 64) : pickN v u k ∉ u:=(fresh_ok v u _ _ hu).2.1
theorem usedOf_nodup (v : Int) (ks : List NV) : ks.length ≤ 64 → (usedOf v ks).Nodup:=by
 refine snoc_rec (p:=fun ks => ks.length ≤ 64 → (usedOf v ks).Nodup) (fun _ => List.nodup_nil) (fun l x ih hl => ?_) ks
 simp only [List.length_append,List.length_cons,List.length_nil] at hl
 rw [usedOf_snoc,List.nodup_cons]
 exact ⟨pick_notin v _ x (by rw [usedOf_len]; omega),ih (by omega)⟩
theorem enc_len (r : Int) : (Utf8.encode r).data.toList.length ≤ 4:=by
 unfold Utf8.encode
 dsimp only
 generalize (if Utf8.valid r = true then r.toNat else Utf8.runeError) = c
 split
 ·simp
 ·split
  ·simp
  ·split <;> simp
theorem runesB_len : ∀ l : List Int,(runesB l).length ≤ 4 * l.length
 | [] => by simp [runesB]
 | r::l => by
  have e : runesB (r::l) = (Utf8.encode r).data.toList ++ runesB l:=by simp [runesB]
  have:=enc_len r; have:=runesB_len l
  rw [e,List.length_append,List.length_cons]; omega
theorem most_le (v : Int) : mostC v ≤ 64:=by unfold mostC; split <;> omega
theorem numS_len {v : Int} {st ex : List Int} {k : Nat} (hk : k < 100) (hex : ex.length ≤ 65) : (numS v st ex k).length ≤ 1100:=by
 have h1:=runesB_len (st.take (stemN v st ex k) ++ sufI k ++ ex)
 have h2:=sufI_len hk
 have h3 : stemN v st ex k ≤ 64:=by
  have hr : roomI v ex k ≤ 64:=by unfold roomI; cases (v == 1) <;> simp only [cond_true,cond_false] <;> omega
  unfold stemN
  generalize roomI v ex k = R at *
  split <;> split <;> omega
 have h4 : (st.take (stemN v st ex k)).length ≤ 64:=by simp; omega
 have h5 : (st.take (stemN v st ex k) ++ sufI k ++ ex).length ≤ 131:=by
  rw [List.length_append,List.length_append]; omega
 show (runesB _).length ≤ _
 omega
theorem want_len (v : Int) (s : List UInt8) (d : Bool) : (wantS v s d).2.length ≤ 65 ∧ (wantS v s d).1.length ≤ s.length ∧ (wantS v s d).2.length ≤ s.length + 1:=by
 have h:=cutS_len v s d
 have h1:=runesI_len (cutS v s d).1
 have h2:=runesI_len (cutS v s d).2
 have h3:=most_le v
 unfold wantS
 refine ⟨?_,by simp; omega,?_⟩
 ·dsimp only; split
  ·simp
  ·simp; omega
 ·dsimp only; split
  ·simp
  ·simp; omega
theorem pick_len (v : Int) (u : List (List UInt8)) (k : NV) (hu : u.length ≤ 64) : (pickN v u k).length ≤ 1100 :=
 numS_len (fresh_ok v u _ _ hu).1 (want_len v _ _).1
theorem usedOf_short (v : Int) (ks : List NV) : ks.length ≤ 64 → ∀ m ∈ usedOf v ks,m.length ≤ 1100:=by
 refine snoc_rec (p:=fun ks => ks.length ≤ 64 → ∀ m ∈ usedOf v ks,m.length ≤ 1100) (fun _ m hm => by cases hm) (fun l x ih hl => ?_) ks
 simp only [List.length_append,List.length_cons,List.length_nil] at hl
 rw [usedOf_snoc]
 intro m hm
 rcases List.mem_cons.1 hm with rfl | hm
 ·exact pick_len v _ x (by rw [usedOf_len]; omega)
 ·exact ih (by omega) m hm
theorem usedOf_take {v : Int} {ks : List NV} {t : Nat} (h : t < ks.length) : usedOf v (ks.take (t + 1)) = pickN v (usedOf v (ks.take t)) ks[t]::usedOf v (ks.take t):=by
 rw [List.take_succ_eq_append_getElem h,usedOf_snoc]
theorem strs_setA {v : Int} {kids : List NV} {t : Nat} (h : t < kids.length) (z : D) : (strs (usedOf v (kids.take t)).reverse ++ List.replicate (kids.length - t) z).set t (.str (pickN v (usedOf v (kids.take t)) kids[t])) = strs (usedOf v (kids.take (t + 1))).reverse ++ List.replicate (kids.length - (t + 1)) z:=by
 rw [usedOf_take h]
 have hl : (strs (usedOf v (kids.take t)).reverse).length = t:=by simp [strs,usedOf_len]; omega
 rw [List.set_append_right _ _ (by omega),hl,Nat.sub_self,show kids.length - t = (kids.length - (t + 1)) + 1 by omega,List.replicate_succ]
 simp [strs]
end Go.Tame.V
/- Contracts: Names at the views that make names. By program (mk42.py,mk.py). -/
namespace Go.Tame.V
open Go Go.Proofs
variable {W0 : World}
set_option maxRecDepth 10000
set_option linter.unusedVariables false
set_option linter.unusedSimpArgs false

theorem F105a (hL : LibOk W0) (v : Int) (hv : v = 0 ∨ v = 1) (kids : List NV) (h64 : kids.length ≤ 64) (hok : ∀ k ∈ kids,nameOk k.name = true ∧ k.name.length < 1000000000) (hinc : inc kids) : DFun Tryz.prog W0 29 [.int .i64 v,.sl .none 12 (kids.map enc)] (.tup [.sl .none 1 (strs (namesA v kids)),.int .i64 0]):=by
 refine DFun.intro ti_ok Tryz.func29 rfl (by decide +kernel) Tryz.ntmps29 rfl fun Γ => ?_
 refine Tri.seq ?_
 refine Tri.region ti_ok ?_
 conv => whnf
 intro bk
 conv => whnf
 refine Tri.seq ?_
 refine Tri.seq ?_
 refine Tri.region ti_ok ?_
 conv => whnf
 refine ⟨[.int .i64 v],_,fun _ => F91 v,⟨.refl _,trivial⟩,?_⟩
 conv => whnf
 refine Tri.cond _ rfl (fun hc => ?_) (fun hc => ?_)
 ·refine Tri.seq ?_
  refine Tri.region ti_ok ?_
  conv => whnf
  refine Tri.ret ?_
  conv => whnf
  exfalso
  have : viewOk v = true:=by rcases hv with rfl | rfl <;> rfl
  rw [this] at hc; cases hc
 ·refine Tri.skip ?_
  conv => whnf
  refine Tri.seq ?_
  refine Tri.seq ?_
  refine Tri.region ti_ok ?_
  conv => whnf
  refine ⟨rfl,?_⟩
  conv => whnf
  refine Tri.cond _ rfl (fun hc => ?_) (fun hc => ?_)
  ·refine Tri.seq ?_
   refine Tri.region ti_ok ?_
   conv => whnf
   refine Tri.ret ?_
   conv => whnf
   exfalso
   simp at hc; omega
  ·refine Tri.skip ?_
   conv => whnf
   refine Tri.seq ?_
   refine Tri.regionX ti_ok ?_
   conv => whnf
   refine .inl ?_
   conv => whnf
   refine ⟨rfl,?_⟩
   conv => whnf
   refine .inr (XOp.makeRow ti_ok (n:=kids.length) (k1:=.i64) (k2:=.i64) (z:=.int .i64 0) rfl rfl rfl rfl rfl ?_ ?_ (by show 8 * _ ≤ _; omega) (by omega) fun rv => ?_)
   ·show D.int _ _ = _; simp
   ·show D.int _ _ = _; simp
   conv => whnf
   refine Tri.seq ?_
   refine Tri.seq ?_
   refine Tri.region ti_ok ?_
   conv => whnf
   refine ⟨rfl,?_⟩
   conv => whnf
   refine Tri.block ?_
   refine Tri.loopK (α:={ i : Nat // i ≤ kids.length }) (fun x => [(0,.int .i64 v),(3,.box 3 bk 0),(6,.raw rv),(25,.sl .none 12 (kids.map enc)),(26,.int .i64 (kids.map enc).length),(27,.int .i64 x.1)])
    (fun x => [(24,.row rv (places x.1 ++ List.replicate (kids.length - x.1) (.int .i64 0)) 1 3),(3,.box bk [.sl .none 12 (kids.map enc)])]) (fun x => kids.length - x.1) ⟨0,by omega⟩ [(24,24),(3,3)]
    ⟨⟨.refl _,.refl _,.refl _,.refl _,.refl _,.refl _,trivial⟩,rfl,rfl,rfl,rfl,rfl,trivial⟩ ?_
   rintro ⟨i,hi⟩
   dsimp only
   refine Tri.seq ?_
   refine Tri.region ti_ok ?_
   conv => whnf
   refine Tri.seq ?_
   refine Tri.cond _ rfl (fun hc => ?_) (fun hc => ?_)
   ·refine Tri.skip ?_
    conv => whnf
    have hia : i < kids.length:=by simpa using hc
    have hpl : (places i).length = i:=by simp [places]
    refine Tri.seq ?_
    refine Tri.block ?_
    refine Tri.seq ?_
    refine Tri.region ti_ok ?_
    conv => whnf
    refine ⟨fun _ => by simp; omega,?_⟩
    conv => whnf
    refine ⟨encTop kids[i],fun _ => get_kids hia,?_⟩
    conv => whnf
    intro b8
    conv => whnf
    refine ⟨rfl,?_⟩
    conv => whnf
    refine Tri.seq ?_
    refine Tri.seq ?_
    refine Tri.region ti_ok ?_
    conv => whnf
    refine ⟨rfl,?_⟩
    conv => whnf
    refine ⟨[.str kids[i].name],_,fun _ => F100 hL _ (hok _ (List.getElem_mem hia)).2,⟨.refl _,trivial⟩,?_⟩
    conv => whnf
    refine Tri.cond _ rfl (fun hc => ?_) (fun hc => ?_)
    ·refine Tri.seq ?_
     refine Tri.region ti_ok ?_
     conv => whnf
     refine Tri.ret ?_
     conv => whnf
     exfalso
     rw [(hok _ (List.getElem_mem hia)).1] at hc; cases hc
    ·refine Tri.skip ?_
     conv => whnf
     refine Tri.regionX ti_ok ?_
     conv => whnf
     refine .inr (XOp.rowIndex ti_ok 24 rfl rfl rfl rfl rfl rfl rfl (by omega) (by simp [hpl]; omega) ?_)
     conv => whnf
     conv => whnf
     refine .inr (XOp.rowStore ti_ok 24 (i:=i) (by rw [Int.toNat_natCast]; rfl) rfl rfl rfl (by simp [hpl]; omega) rfl ?_)
     conv => whnf
     conv => whnf
     refine Tri.region ti_ok ?_
     conv => whnf
     refine .inl ⟨fun _ => by simp [InR]; omega,?_⟩
     conv => whnf
     exact ⟨⟨i + 1,by omega⟩,[(24,24),(3,3)],by show _ - (i + 1) < _ - i; omega,⟨.refl _,.refl _,.refl _,.refl _,.refl _,.refl _,trivial⟩,rfl,rfl,congrArg (fun z => some (HObj.row rv z 1 3)) (places_set hia _),rfl,rfl,trivial⟩
   ·refine Tri.exit ?_
    conv => whnf
    refine Tri.seq ?_
    have hin : i = kids.length:=by simp at hc; omega
    have hrow : places i ++ List.replicate (kids.length - i) (D.int .i64 0) = places kids.length:=by subst hin; simp
    rw [hrow]
    refine Tri.regionX ti_ok ?_
    conv => whnf
    refine .inr (XOp.call rfl [.raw rv,.fn (.func 77) [] [.box 2000 bk 0]] [(2001,24),(2000,3)] (sort_places kids hinc (by omega) bk rv) rfl ⟨.refl _,DLe.fn trivial ⟨DLe.box,trivial⟩,trivial⟩ ?_)
    rintro d H' ⟨rfl,rfl⟩
    refine ⟨_,.refl _,?_⟩
    conv => whnf
    refine Tri.forgetK [(6,.raw rv),(0,.int .i64 v),(3,.box 3 bk 0)] [(24,.row rv (places kids.length) 1 3),(3,.box bk [.sl .none 12 (kids.map enc)])] [(24,24),(3,3)] ⟨⟨.refl _,.refl _,.refl _,trivial⟩,rfl,rfl,rfl,rfl,rfl,trivial⟩ ?_
    refine Tri.commitSt 24 6 rfl ?_
    refine Tri.seq ?_
    refine Tri.regionX ti_ok ?_
    conv => whnf
    refine .inl ?_
    conv => whnf
    refine ⟨rfl,?_⟩
    conv => whnf
    refine .inr (XOp.makeRow ti_ok (n:=kids.length) (k1:=.i64) (k2:=.i64) (z:=.str []) rfl rfl rfl rfl rfl ?_ ?_ (by show 16 * _ ≤ _; omega) (by omega) fun nv => ?_)
    ·show D.int _ _ = _; simp
    ·show D.int _ _ = _; simp
    conv => whnf
    refine .inr (XOp.makeMap fun mb => ?_)
    conv => whnf
    refine Tri.seq ?_
    refine Tri.seq ?_
    refine Tri.region ti_ok ?_
    conv => whnf
    refine Tri.block ?_
    refine Tri.loopK (α:={ i : Nat // i ≤ kids.length }) (fun x => [(0,.int .i64 v),(3,.box 3 bk 0),(6,.sl .none 1 (places kids.length)),(48,.sl .none 1 (places kids.length)),(49,.int .i64 (places kids.length).length),(50,.int .i64 x.1),(9,.raw nv),(10,.raw (.map (some mb)))])
     (fun x => [(46,.row nv (strs (usedOf v (kids.take x.1)).reverse ++ List.replicate (kids.length - x.1) (.str [])) 1 9),(47,.set mb (usedOf v (kids.take x.1))),(3,.box bk [.sl .none 12 (kids.map enc)])]) (fun x => kids.length - x.1) ⟨0,by omega⟩ [(46,46),(47,47),(3,3)]
     ⟨⟨.refl _,.refl _,.refl _,.refl _,.refl _,.refl _,.refl _,.refl _,trivial⟩,rfl,rfl,rfl,rfl,rfl,rfl,rfl,trivial⟩ ?_
    rintro ⟨t,ht⟩
    dsimp only
    refine Tri.seq ?_
    refine Tri.region ti_ok ?_
    conv => whnf
    refine Tri.seq ?_
    refine Tri.cond _ rfl (fun hc => ?_) (fun hc => ?_)
    ·refine Tri.skip ?_
     conv => whnf
     have hta : t < kids.length:=by simp [places] at hc; omega
     have hkd : ∀ j,j < kids.length → (kids.map enc)[j]? = some (encTop (kids.getD j default)):=fun j hj => by rw [get_kids hj]; simp [List.getD,hj]
     refine Tri.seq ?_
     refine Tri.block ?_
     refine Tri.seq ?_
     refine Tri.region ti_ok ?_
     conv => whnf
     refine ⟨fun _ => by simp [places]; omega,?_⟩
     conv => whnf
     refine ⟨.int .i64 (t : Nat),fun _ => by simp [places,hta],?_⟩
     conv => whnf
     refine Tri.seq ?_
     refine Tri.seq ?_
     refine Tri.draw ti_ok mixed (by kernel_rfl) ?_
     conv => whnf
     refine ⟨rfl,?_⟩
     conv => whnf
     refine ⟨fun h => h,?_⟩
     conv => whnf
     refine .inl ⟨fun h => by simp only [InR]; omega,?_⟩
     conv => whnf
     refine ⟨fun h => h,?_⟩
     conv => whnf
     refine ⟨fun h => h,?_⟩
     conv => whnf
     refine ⟨fun h => by simp at h; simp [places]; omega,?_⟩
     conv => whnf
     refine ⟨fun h => h,?_⟩
     conv => whnf
     refine ⟨.int .i64 ((t - 1 : Nat) : Int),fun h => by rw [pred_toNat (by simpa using h)]; simp [places,show t - 1 < kids.length by omega],?_⟩
     conv => whnf
     refine ⟨fun h => h,?_⟩
     conv => whnf
     refine ⟨fun h => h,?_⟩
     conv => whnf
     refine ⟨fun h => by simp; omega,?_⟩
     conv => whnf
     refine ⟨fun h => h,?_⟩
     conv => whnf
     refine ⟨fun h => h,?_⟩
     conv => whnf
     refine ⟨encTop (kids.getD (t - 1) default),fun h => hkd (t - 1) (by omega),?_⟩
     conv => whnf
     refine ⟨rfl,?_⟩
     conv => whnf
     refine ⟨fun h => h,?_⟩
     conv => whnf
     refine ⟨fun h => h,?_⟩
     conv => whnf
     refine ⟨fun h => by simp; omega,?_⟩
     conv => whnf
     refine ⟨fun h => h,?_⟩
     conv => whnf
     refine ⟨fun h => h,?_⟩
     conv => whnf
     refine ⟨encTop kids[t],fun h => get_kids hta,?_⟩
     conv => whnf
     refine ⟨fun h => h,?_⟩
     conv => whnf
     refine ⟨fun h => h,?_⟩
     conv => whnf
     refine ⟨fun h0 h => by first | exact h | (rw [h]; rfl) | (rw [h0,h]; rfl),?_⟩
     conv => whnf
     refine Tri.cond _ rfl (fun hc => ?_) (fun hc => ?_)
     ·refine Tri.seq ?_
      refine Tri.region ti_ok ?_
      conv => whnf
      refine Tri.ret ?_
      conv => whnf
      exfalso
      cases h0 : decide ((0 : Int) < t) with
      | false => rw [h0] at hc; cases hc
      | true =>
       have ht0 : 0 < t:=by simpa using h0
       have hne:=bl_ne (inc_get hinc (show t - 1 < t by omega) hta)
       rw [h0] at hc
       have hc2 : ((kids.getD (t - 1) default).name == kids[t].name) = true:=hc
       have : (kids.getD (t - 1) default).name = kids[t].name:=by simpa using hc2
       apply hne
       rw [← this]; simp [List.getD,show t - 1 < kids.length by omega]
     ·refine Tri.skip ?_
      conv => whnf
      refine Tri.seq ?_
      refine Tri.region ti_ok ?_
      conv => whnf
      refine ⟨rfl,?_⟩
      conv => whnf
      refine ⟨fun _ => by simp; omega,?_⟩
      conv => whnf
      refine ⟨encTop kids[t],fun _ => get_kids hta,?_⟩
      conv => whnf
      refine Tri.seq ?_
      refine Tri.seq ?_
      refine Tri.region ti_ok ?_
      conv => whnf
      refine ⟨fun h => h,?_⟩
      conv => whnf
      refine ⟨fun h0 h => by first | exact h | (rw [h]; rfl) | (rw [h0,h]; rfl),?_⟩
      conv => whnf
      refine Tri.cond _ rfl (fun hc => ?_) (fun hc => ?_)
      ·refine Tri.seq ?_
       have hnl:=name_len (hok _ (List.getElem_mem hta)).1
       obtain ⟨l,hl,_,_,_,_⟩:=name_chars (hok _ (List.getElem_mem hta)).1
       have hcalled:=F125 (W0:=W0) v kids[t].name l (kids[t].kind == 0) (by omega) hl
       have hwl:=want_len v kids[t].name (kids[t].kind == 0)
       have hpk : pickN v (usedOf v (kids.take t)) kids[t] = numS v (wantS v kids[t].name (kids[t].kind == 0)).1 (wantS v kids[t].name (kids[t].kind == 0)).2 (freshK v (usedOf v (kids.take t)) (wantS v kids[t].name (kids[t].kind == 0)).1 (wantS v kids[t].name (kids[t].kind == 0)).2):=rfl
       have hus:=usedOf_take (v:=v) hta
       have hset:=strs_setA (v:=v) hta (.str [])
       have hfr:=fresh_ok v (usedOf v (kids.take t)) (wantS v kids[t].name (kids[t].kind == 0)).1 (wantS v kids[t].name (kids[t].kind == 0)).2 (by rw [usedOf_len]; simp; omega)
       generalize (wantS v kids[t].name (kids[t].kind == 0)).1 = st at *
       generalize (wantS v kids[t].name (kids[t].kind == 0)).2 = ex at *
       have hUl : (usedOf v (kids.take t)).length = t:=by rw [usedOf_len]; simp; omega
       generalize usedOf v (kids.take t) = U at *
       generalize hK : freshK v U st ex = K at *
       refine Tri.region ti_ok ?_
       conv => whnf
       refine ⟨rfl,?_⟩
       conv => whnf
       refine ⟨fun _ => by simp; omega,?_⟩
       conv => whnf
       refine ⟨encTop kids[t],fun _ => get_kids hta,?_⟩
       conv => whnf
       refine ⟨[.int .i64 v,.str kids[t].name,.bool (kids[t].kind == 0)],_,fun _ => hcalled,⟨.refl _,.refl _,.refl _,trivial⟩,?_⟩
       conv => whnf
       intro b14
       conv => whnf
       refine ⟨rfl,?_⟩
       conv => whnf
       refine Tri.seq ?_
       refine Tri.region ti_ok ?_
       conv => whnf
       refine ⟨rfl,?_⟩
       conv => whnf
       refine ⟨[wantD st ex,.int .i64 v,.int .i64 (0 : Nat)],_,fun _ => F126 v st ex 0 (by omega) (by omega) (by omega),⟨.refl _,.refl _,.refl _,trivial⟩,?_⟩
       conv => whnf
       refine Tri.seq ?_
       refine Tri.region ti_ok ?_
       conv => whnf
       refine Tri.block ?_
       refine Tri.loopK (α:={ j : Nat // j ≤ K }) (fun x => [(0,.int .i64 v),(3,.box 3 bk 0),(6,.sl .none 1 (places kids.length)),(48,.sl .none 1 (places kids.length)),(49,.int .i64 (places kids.length).length),(50,.int .i64 t),(9,.raw nv),(10,.raw (.map (some mb))),(12,.int .i64 t),(13,.str (numS v st ex x.1)),(14,.box 14 b14 0),(15,.int .i64 ((x.1 + 1 : Nat) : Int))])
        (fun x => [(46,.row nv (strs U.reverse ++ List.replicate (kids.length - t) (.str [])) 1 9),(47,.set mb U),(3,.box bk [.sl .none 12 (kids.map enc)]),(14,.box b14 [.sl .none 1 (ints32 st),.sl .none 1 (ints32 ex)])]) (fun x => K - x.1) ⟨0,by omega⟩ [(46,46),(47,47),(3,3),(14,14)]
        ⟨⟨.refl _,.refl _,.refl _,.refl _,.refl _,.refl _,.refl _,.refl _,.refl _,.refl _,.refl _,.refl _,trivial⟩,rfl,rfl,rfl,rfl,rfl,rfl,rfl,rfl,rfl,trivial⟩ ?_
       rintro ⟨j,hj⟩
       dsimp only
       refine Tri.seq ?_
       refine Tri.seq ?_
       refine Tri.regionX ti_ok ?_
       conv => whnf
       refine .inr (XOp.setLookup 47 (kt:=9) (et:=4) rfl rfl (fun w => rfl) rfl rfl rfl ?_)
       refine Tri.cond _ rfl (fun hc => ?_) (fun hc => ?_)
       ·refine Tri.skip ?_
        conv => whnf
        refine Tri.seq ?_
        refine Tri.block ?_
        refine Tri.region ti_ok ?_
        have hjU : numS v st ex j ∈ U:=of_decide_eq_true hc
        have hjK : j < K:=by
         rcases Nat.lt_or_ge j K with h | h
         ·exact h
         ·have : j = K:=by omega
          subst this; exact absurd hjU hfr.2.1
        conv => whnf
        refine ⟨rfl,?_⟩
        conv => whnf
        refine ⟨[wantD st ex,.int .i64 v,.int .i64 ((j + 1 : Nat) : Int)],_,fun _ => F126 v st ex (j + 1) (by omega) (by omega) (by omega),⟨.refl _,.refl _,.refl _,trivial⟩,?_⟩
        conv => whnf
        refine Tri.region ti_ok ?_
        conv => whnf
        refine .inl ⟨fun _ => by simp only [InR]; omega,?_⟩
        conv => whnf
        exact ⟨⟨j + 1,by omega⟩,[(46,46),(47,47),(3,3),(14,14)],by show K - (j + 1) < K - j; omega,⟨.refl _,.refl _,.refl _,.refl _,.refl _,.refl _,.refl _,.refl _,.refl _,.refl _,.refl _,.refl _,trivial⟩,rfl,rfl,rfl,rfl,rfl,rfl,rfl,rfl,rfl,trivial⟩
       ·refine Tri.exit ?_
        conv => whnf
        refine Tri.regionX ti_ok ?_
        have hjU : numS v st ex j ∉ U:=of_decide_eq_false hc
        have hjK : j = K:=by
         rcases Nat.lt_or_ge j K with h | h
         ·exact absurd (hfr.2.2 j h) hjU
         ·omega
        subst hjK
        conv => whnf
        refine .inr (XOp.setUpdate 47 (kt:=9) (et:=4) rfl rfl rfl rfl rfl rfl ?_)
        conv => whnf
        refine .inr (XOp.rowIndex ti_ok 46 rfl rfl rfl rfl rfl rfl rfl (by omega) (by simp [strs,hUl]; omega) ?_)
        conv => whnf
        conv => whnf
        refine .inr (XOp.rowStore ti_ok 46 (i:=t) (by rw [Int.toNat_natCast]; rfl) rfl rfl rfl (by simp [strs,hUl]; omega) rfl ?_)
        conv => whnf
        conv => whnf
        refine Tri.region ti_ok ?_
        conv => whnf
        refine .inl ⟨fun _ => by simp only [InR]; omega,?_⟩
        conv => whnf
        exact ⟨⟨t + 1,by omega⟩,[(46,46),(47,47),(3,3)],by show _ - (t + 1) < _ - t; omega,⟨.refl _,.refl _,.refl _,.refl _,.refl _,.refl _,.refl _,.refl _,trivial⟩,rfl,rfl,congrArg (fun z => some (HObj.row nv z 1 9)) (by rw [← hpk]; exact hset),rfl,
         congrArg (fun z => some (HObj.set mb z)) (by dsimp only; rw [hus,hpk]),rfl,rfl,trivial⟩
      ·refine Tri.skip ?_
       conv => whnf
       exfalso
       rcases hv with rfl | rfl <;> cases hc
    ·refine Tri.exit ?_
     conv => whnf
     have htn : t = kids.length:=by simp [places] at hc; omega
     have hrow2 : strs (usedOf v (kids.take t)).reverse ++ List.replicate (kids.length - t) (D.str []) = strs (namesA v kids):=by
      subst htn; rw [List.take_of_length_le (Nat.le_refl _)]; simp [namesA]
     rw [hrow2]
     refine Tri.forgetK [(9,.raw nv)] [(46,.row nv (strs (namesA v kids)) 1 9)] [(46,46)] ⟨⟨.refl _,trivial⟩,rfl,rfl,rfl,trivial⟩ ?_
     refine Tri.commitSt 46 9 rfl ?_
     refine Tri.seq ?_
     refine Tri.region ti_ok ?_
     conv => whnf
     refine Tri.ret ?_
     conv => whnf
     exact ⟨.refl _,.refl _,trivial⟩
theorem names01 (hL : LibOk W0) {v : Int} (hv : v = 0 ∨ v = 1) : NamesOk W0 v (namesA v) :=
 ⟨fun ks h64 hinc hok => ⟨F105a hL v hv ks h64 hok hinc,by simp [namesA,usedOf_len],by
  rw [namesA,List.nodup_iff_pairwise_ne,List.pairwise_reverse]; exact (List.nodup_iff_pairwise_ne.1 (usedOf_nodup v ks h64)).imp Ne.symm,fun m hm => usedOf_short v ks h64 m (List.mem_reverse.1 hm)⟩⟩
end Go.Tame.V
/- Contracts: the other way of names: characters. By program (mk.py). -/
namespace Go.Tame.V
open Go Go.Proofs
variable {W0 : World}
set_option maxRecDepth 10000
set_option linter.unusedVariables false
set_option linter.unusedSimpArgs false

theorem F179 (c : Int) : DFun Tryz.prog W0 255 [.int .u8 c] (.bool (dB c)):=by
 refine DFun.intro ti_ok Tryz.func255 rfl (by decide +kernel) Tryz.ntmps255 rfl fun Γ => ?_
 refine Tri.seq ?_
 refine Tri.region ti_ok ?_
 conv => whnf
 refine Tri.seq ?_
 refine Tri.region ti_ok ?_
 conv => whnf
 refine ⟨fun h => h,?_⟩
 conv => whnf
 refine ⟨fun h0 h => by first | exact h | (rw [h]; rfl) | (rw [h0,h]; rfl),?_⟩
 conv => whnf
 refine ⟨fun h => h,?_⟩
 conv => whnf
 refine ⟨fun h => h,?_⟩
 conv => whnf
 refine ⟨fun h => h,?_⟩
 conv => whnf
 refine ⟨fun h => h,?_⟩
 conv => whnf
 refine ⟨fun h0 h => by first | exact h | (rw [h]; rfl) | (rw [h0,h]; rfl),?_⟩
 conv => whnf
 refine ⟨fun h0 h => by first | exact h | (rw [h]; rfl) | (rw [h0,h]; rfl),?_⟩
 conv => whnf
 refine ⟨fun h => h,?_⟩
 conv => whnf
 refine ⟨fun h0 h => by first | exact h | (rw [h]; rfl) | (rw [h0,h]; rfl),?_⟩
 conv => whnf
 refine Tri.ret ?_
 conv => whnf
 exact DLe.of_eq (congrArg D.bool (by simp only [bif_and,bif_or]; rfl))
theorem F180 (r : Int) : DFun Tryz.prog W0 198 [.int .i64 r] (.bool (special r)):=by
 refine DFun.intro ti_ok Tryz.func198 rfl (by decide +kernel) Tryz.ntmps198 rfl fun Γ => ?_
 refine Tri.seq ?_
 refine Tri.region ti_ok ?_
 conv => whnf
 refine Tri.seq ?_
 refine Tri.region ti_ok ?_
 conv => whnf
 refine ⟨fun h => h,?_⟩
 conv => whnf
 refine ⟨fun h0 h => by first | exact h | (rw [h]; rfl) | (rw [h0,h]; rfl),?_⟩
 conv => whnf
 refine ⟨fun h => h,?_⟩
 conv => whnf
 refine ⟨fun h0 h => by first | exact h | (rw [h]; rfl) | (rw [h0,h]; rfl),?_⟩
 conv => whnf
 refine ⟨fun h => h,?_⟩
 conv => whnf
 refine ⟨fun h0 h => by first | exact h | (rw [h]; rfl) | (rw [h0,h]; rfl),?_⟩
 conv => whnf
 refine ⟨fun h => h,?_⟩
 conv => whnf
 refine ⟨fun h0 h => by first | exact h | (rw [h]; rfl) | (rw [h0,h]; rfl),?_⟩
 conv => whnf
 refine ⟨fun h => h,?_⟩
 conv => whnf
 refine ⟨fun h0 h => by first | exact h | (rw [h]; rfl) | (rw [h0,h]; rfl),?_⟩
 conv => whnf
 refine Tri.ret ?_
 conv => whnf
 exact DLe.of_eq (congrArg D.bool (by simp only [bif_and,bif_or]; rfl))
theorem jolC_char {r : Int} (h : isChar r = true) : isChar (jolC r) = true:=by
 unfold jolC; split
 ·decide
 ·exact h
theorem isoC_char {r : Int} (h : isChar r = true) : isChar (isoC r) = true:=by
 obtain ⟨h1,h2,h3⟩:=(isChar_iff r).1 h
 unfold isoC; split
 ·exact (isChar_iff _).2 ⟨by omega,by omega,by omega⟩
 ·split
  ·exact h
  ·decide
theorem mapC_char {v r : Int} (h : isChar r = true) : isChar (mapC v r) = true:=by
 unfold mapC; split
 ·exact isoC_char h
 ·exact jolC_char h
theorem F157 (v r : Int) (h : isChar r = true) : DFun Tryz.prog W0 254 [.int .i64 v,.int .i64 r] (.int .i64 (mapC v r)):=by
 obtain ⟨q1,q2,q3⟩:=(isChar_iff r).1 h
 refine DFun.intro ti_ok Tryz.func254 rfl (by decide +kernel) Tryz.ntmps254 rfl fun Γ => ?_
 refine Tri.seq ?_
 refine Tri.region ti_ok ?_
 conv => whnf
 refine Tri.seq ?_
 refine Tri.seq ?_
 refine Tri.region ti_ok ?_
 conv => whnf
 refine Tri.cond _ rfl (fun hc => ?_) (fun hc => ?_)
 ·refine Tri.seq ?_
  refine Tri.seq ?_
  refine Tri.region ti_ok ?_
  have hv : v = 0:=by simpa using hc
  conv => whnf
  refine ⟨fun h => h,?_⟩
  conv => whnf
  refine ⟨fun h0 h => by first | exact h | (rw [h]; rfl) | (rw [h0,h]; rfl),?_⟩
  conv => whnf
  refine Tri.cond _ rfl (fun hc => ?_) (fun hc => ?_)
  ·refine Tri.seq ?_
   refine Tri.region ti_ok ?_
   conv => whnf
   refine .inl ⟨fun _ => by simp only [InR]; omega,?_⟩
   conv => whnf
   refine .inl ⟨fun _ => by simp only [InR]; omega,?_⟩
   conv => whnf
   refine Tri.ret ?_
   conv => whnf
   have h97 : 97 ≤ r ∧ r ≤ 122:=by
    rw [bif_and] at hc
    simpa using hc
   exact DLe.of_eq (congrArg (D.int .i64) (by rw [mapC,if_pos hv,isoC,if_pos h97]))
  ·refine Tri.skip ?_
   conv => whnf
   refine Tri.seq ?_
   refine Tri.seq ?_
   refine Tri.region ti_ok ?_
   have h97 : ¬ (97 ≤ r ∧ r ≤ 122):=by
    rw [bif_and] at hc
    simpa using hc
   conv => whnf
   refine ⟨fun h => h,?_⟩
   conv => whnf
   refine .inr ?_
   conv => whnf
   conv => whnf
   refine ⟨fun h => h,?_⟩
   conv => whnf
   refine ⟨[.int .u8 (IntKind.u8.wrap r)],.bool (dB r),fun h => by
    have h2 : r < 128:=by simp at h; omega
    rw [wrap_id (by simp only [InR]; omega)]; exact F179 r,⟨.refl _,trivial⟩,?_⟩
   conv => whnf
   refine ⟨fun h => h,?_⟩
   conv => whnf
   refine ⟨fun h0 h => by first | exact h | (rw [h]; rfl) | (rw [h0,h]; rfl),?_⟩
   conv => whnf
   refine Tri.cond _ rfl (fun hc => ?_) (fun hc => ?_)
   ·refine Tri.seq ?_
    refine Tri.region ti_ok ?_
    conv => whnf
    refine Tri.ret ?_
    conv => whnf
    have h2 : ¬ (r < 128 ∧ dB r = true):=by
     rw [bif_or] at hc
     simp at hc
     intro ⟨h3,h4⟩
     rw [h4] at hc; simp at hc; omega
    exact DLe.of_eq (congrArg (D.int .i64) (by rw [mapC,if_pos hv,isoC,if_neg h97,if_neg h2]))
   ·refine Tri.skip ?_
    conv => whnf
    refine Tri.seq ?_
    refine Tri.region ti_ok ?_
    conv => whnf
    refine Tri.ret ?_
    conv => whnf
    have h2 : r < 128 ∧ dB r = true:=by
     rw [bif_or] at hc
     simp at hc
     exact ⟨by omega,hc.2⟩
    exact DLe.of_eq (congrArg (D.int .i64) (by rw [mapC,if_pos hv,isoC,if_neg h97,if_pos h2]))
 ·refine Tri.skip ?_
  conv => whnf
  refine Tri.seq ?_
  refine Tri.seq ?_
  refine Tri.region ti_ok ?_
  have hv : ¬ v = 0:=by simpa using hc
  conv => whnf
  refine ⟨[.int .i64 r],_,fun _ => F180 r,⟨.refl _,trivial⟩,?_⟩
  conv => whnf
  refine Tri.cond _ rfl (fun hc => ?_) (fun hc => ?_)
  ·refine Tri.seq ?_
   refine Tri.region ti_ok ?_
   conv => whnf
   refine Tri.ret ?_
   conv => whnf
   exact DLe.of_eq (congrArg (D.int .i64) (by rw [mapC,if_neg hv,jolC,if_pos hc]))
  ·refine Tri.skip ?_
   conv => whnf
   refine Tri.seq ?_
   refine Tri.region ti_ok ?_
   conv => whnf
   refine Tri.ret ?_
   conv => whnf
   exact DLe.of_eq (congrArg (D.int .i64) (by rw [mapC,if_neg hv,jolC,if_neg (by rw [hc]; simp)]))
theorem F131 (v : Int) (l : List Int) (hl : l.length ≤ 1000000) (h : ∀ r ∈ l,isChar r = true) : DFun Tryz.prog W0 231 [.int .i64 v,.sl .none 1 (encInts .i64 l)] (.sl .none 1 (encInts .i64 (l.map (mapC v)))):=by
 refine DFun.intro ti_ok Tryz.func231 rfl (by decide +kernel) Tryz.ntmps231 rfl fun Γ => ?_
 refine Tri.seq ?_
 refine Tri.region ti_ok ?_
 conv => whnf
 refine Tri.seq ?_
 refine Tri.region ti_ok ?_
 conv => whnf
 refine ⟨trivial,?_⟩
 conv => whnf
 refine Tri.seq ?_
 refine Tri.seq ?_
 refine Tri.region ti_ok ?_
 skip
 conv => whnf
 refine Tri.block ?_
 refine Tri.own 5 1000 1 3 rfl (fun w => ?_)
 refine Tri.loopK (α:={ i : Nat // i ≤ l.length } × Value) (fun x => [(0,.int .i64 v),(1,.sl .none 1 (encInts .i64 l)),(5,.sl (.own 1000 x.2) 1 (encInts .i64 ((l.take x.1).map (mapC v)))),(6,.int .i64 x.1.1)])
  (fun x => [(1000,.own x.2 (encInts .i64 ((l.take x.1).map (mapC v))).length 1 3)]) (fun x => l.length - x.1) (⟨0,by omega⟩,w) [(1000,1000)]
  ⟨⟨.refl _,.refl _,.refl _,.refl _,trivial⟩,rfl,rfl,rfl,trivial⟩ ?_
 rintro ⟨⟨i,hi⟩,w⟩
 dsimp only
 refine Tri.seq ?_
 refine Tri.seq ?_
 refine Tri.region ti_ok ?_
 conv => whnf
 refine Tri.cond _ rfl (fun hc => ?_) (fun hc => ?_)
 skip
 ·refine Tri.skip ?_
  conv => whnf
  refine Tri.seq ?_
  refine Tri.block ?_
  refine Tri.region ti_ok ?_
  have hia : i < l.length:=by simpa [encInts] using hc
  conv => whnf
  refine ⟨fun _ => by simp [encInts]; omega,?_⟩
  conv => whnf
  refine ⟨.int .i64 l[i],fun _ => by simp [encInts,hia],?_⟩
  conv => whnf
  refine ⟨[.int .i64 v,.int .i64 l[i]],_,fun _ => F157 v l[i] (h _ (List.getElem_mem hia)),⟨.refl _,.refl _,trivial⟩,?_⟩
  conv => whnf
  refine ⟨trivial,?_⟩
  conv => whnf
  refine ⟨rfl,rfl,?_⟩
  conv => whnf
  refine ⟨by show (_ + 1) * 8 ≤ _; simp [encInts]; omega,by show _ + 1 ≤ _; simp [encInts]; omega,(fun h => by cases h),fun w => ?_⟩
  conv => whnf
  refine Tri.region ti_ok ?_
  conv => whnf
  refine .inl ⟨fun _ => by simp only [InR]; omega,?_⟩
  conv => whnf
  exact ⟨(⟨i + 1,by omega⟩,w),[(1000,22)],by show l.length - (i + 1) < l.length - i; omega,⟨.refl _,.refl _,DLe.ownEq (by simp only [encInts,List.take_succ_eq_append_getElem hia,List.map_append,List.map_cons,List.map_nil,List.length_append,List.length_cons,List.length_nil]; rfl),.refl _,trivial⟩,rfl,rfl,ownH (by simp only [encInts,List.take_succ_eq_append_getElem hia,List.map_append,List.map_cons,List.map_nil,List.length_append,List.length_cons,List.length_nil]),trivial⟩
 ·refine Tri.exit ?_
  conv => whnf
  refine Tri.seq ?_
  refine Tri.region ti_ok ?_
  have hin : i = l.length:=by simp [encInts] at hc; omega
  subst hin
  rw [List.take_of_length_le (Nat.le_refl _)]
  conv => whnf
  refine Tri.ret ?_
  conv => whnf
  exact DLe.unown
end Go.Tame.V
/- Contracts: the other way of names: text,first,decimal. By program (mk.py). -/
namespace Go.Tame.V
open Go Go.Proofs
variable {W0 : World}
set_option maxRecDepth 10000
set_option linter.unusedVariables false
set_option linter.unusedSimpArgs false

theorem enc17_char {r : Int} (h : isChar r = true) : enc17s r = (Utf8.encode r).data.toList:=by
 obtain ⟨h1,h2,h3⟩:=(isChar_iff r).1 h
 obtain ⟨n,rfl⟩ : ∃ n : Nat,r = n:=⟨r.toNat,by omega⟩
 have hv : Utf8.valid (n : Int) = true:=by simp [Utf8.valid]; omega
 have e1:=tdiv_eq (v:=(n : Int)) (k:=64) (by omega) (by omega)
 have e2:=tmod_eq (v:=(n : Int)) (k:=64) (by omega)
 have e3:=tdiv_eq (v:=(n : Int)) (k:=4096) (by omega) (by omega)
 have e4:=tmod_eq (v:=(n : Int).tdiv 64) (k:=64) (by omega)
 unfold enc17s enc17 Utf8.encode
 simp only [hv,if_true,Int.toNat_natCast]
 by_cases h128 : n < 128
 ·rw [if_pos (by omega),if_pos h128]; simp [u8i]
 ·rw [if_neg (by omega),if_neg h128]
  by_cases h2048 : n < 2048
  ·rw [if_pos (by omega),if_pos h2048,e1,e2]
   simp only [List.map_cons,List.map_nil,u8i]
   rw [show (192 + (n : Int) / 64).toNat = 192 + n / 64 by omega,show (128 + (n : Int) % 64).toNat = 128 + n % 64 by omega]
  ·rw [if_neg (by omega),if_neg h2048,if_pos (by omega),e4,e1,e2,e3]
   simp only [List.map_cons,List.map_nil,u8i]
   rw [show (224 + (n : Int) / 4096).toNat = 224 + n / 4096 by omega,show (128 + (n : Int) / 64 % 64).toNat = 128 + n / 64 % 64 by omega,show (128 + (n : Int) % 64).toNat = 128 + n % 64 by omega]
def bsD (bs : List UInt8) : List D:=bs.map fun c => D.int .u8 c.toNat
theorem runesB_snoc (l : List Int) (r : Int) : runesB (l ++ [r]) = runesB l ++ (Utf8.encode r).data.toList:=by rw [runesB_append]; simp [runesB]

theorem F132 (l : List Int) (hl : l.length ≤ 21845) (h : ∀ r ∈ l,isChar r = true) : DFun Tryz.prog W0 232 [.sl .none 1 (encInts .i64 l)] (.tup [.str (runesB l),.int .i64 0]):=by
 refine DFun.intro ti_ok Tryz.func232 rfl (by decide +kernel) Tryz.ntmps232 rfl fun Γ => ?_
 refine Tri.seq ?_
 refine Tri.region ti_ok ?_
 conv => whnf
 refine Tri.seq ?_
 refine Tri.seq ?_
 refine Tri.region ti_ok ?_
 conv => whnf
 refine Tri.cond _ rfl (fun hc => ?_) (fun hc => ?_)
 ·refine Tri.seq ?_
  exfalso
  simp [encInts] at hc; omega
 ·refine Tri.skip ?_
  conv => whnf
  refine Tri.seq ?_
  refine Tri.region ti_ok ?_
  conv => whnf
  refine Tri.seq ?_
  refine Tri.seq ?_
  refine Tri.region ti_ok ?_
  conv => whnf
  refine Tri.block ?_
  refine Tri.own 4 1000 1 5 rfl (fun w => ?_)
  refine Tri.loopK (α:={ i : Nat // i ≤ l.length } × Value) (fun x => [(0,.sl .none 1 (encInts .i64 l)),(4,.sl (.own 1000 x.2) 1 (bsD (runesB (l.take x.1)))),(5,.int .i64 x.1.1)])
   (fun x => [(1000,.own x.2 (bsD (runesB (l.take x.1))).length 1 5)]) (fun x => l.length - x.1) (⟨0,by omega⟩,w) [(1000,1000)]
   ⟨⟨.refl _,.refl _,.refl _,trivial⟩,rfl,rfl,rfl,trivial⟩ ?_
  rintro ⟨⟨i,hi⟩,w⟩
  dsimp only
  refine Tri.seq ?_
  refine Tri.seq ?_
  refine Tri.region ti_ok ?_
  conv => whnf
  refine Tri.cond _ rfl (fun hc => ?_) (fun hc => ?_)
  ·refine Tri.skip ?_
   conv => whnf
   refine Tri.seq ?_
   refine Tri.block ?_
   refine Tri.seq ?_
   refine Tri.seq ?_
   refine Tri.region ti_ok ?_
   have hia : i < l.length:=by simpa [encInts] using hc
   have hch:=h _ (List.getElem_mem hia)
   obtain ⟨q1,q2,q3⟩:=(isChar_iff _).1 hch
   have hrl:=runesB_len (l.take i)
   have htl : (l.take i).length = i:=by simp; omega
   have hbl : (bsD (runesB (l.take i))).length = (runesB (l.take i)).length:=by simp [bsD]
   have hel:=enc_len l[i]
   have he17:=enc17_char hch
   have hsn : bsD (runesB (l.take (i + 1))) = bsD (runesB (l.take i)) ++ bsD (enc17s l[i]):=by
    rw [List.take_succ_eq_append_getElem hia,runesB_snoc,he17]; simp [bsD]
   conv => whnf
   refine ⟨fun _ => by simp [encInts]; omega,?_⟩
   conv => whnf
   refine ⟨.int .i64 l[i],fun _ => by simp [encInts,hia],?_⟩
   conv => whnf
   refine ⟨[.int .i64 l[i]],_,fun _ => F155 l[i],⟨.refl _,trivial⟩,?_⟩
   conv => whnf
   refine Tri.cond _ rfl (fun hc => ?_) (fun hc => ?_)
   ·refine Tri.seq ?_
    exfalso
    rw [hch] at hc; cases hc
   ·refine Tri.skip ?_
    conv => whnf
    refine Tri.regionX ti_ok ?_
    conv => whnf
    refine .inl ?_
    conv => whnf
    refine ⟨fun _ => by simp [encInts]; omega,?_⟩
    conv => whnf
    refine .inl ?_
    conv => whnf
    refine ⟨.int .i64 l[i],fun _ => by simp [encInts,hia],?_⟩
    conv => whnf
    refine .inl ?_
    conv => whnf
    refine ⟨[.int .i64 l[i]],_,fun _ => F156 l[i] (by omega) (by omega),⟨.refl _,trivial⟩,?_⟩
    conv => whnf
    refine .inr (XOp.appendStr ti_ok 1000 rfl rfl rfl (fun h => by cases h) rfl rfl rfl rfl rfl (by rw [hbl,he17]; show _ * 1 ≤ _; omega) (by rw [hbl,he17]; omega) fun w => ?_)
    conv => whnf
    refine Tri.region ti_ok ?_
    conv => whnf
    refine .inl ⟨fun _ => by simp only [InR]; omega,?_⟩
    conv => whnf
    exact ⟨(⟨i + 1,by omega⟩,w),[(1000,27)],by show l.length - (i + 1) < l.length - i; omega,⟨.refl _,DLe.ownEq (by rw [hsn]; rfl),.refl _,trivial⟩,rfl,rfl,ownH (by dsimp only; rw [hsn]; simp [bsD]),trivial⟩
  ·refine Tri.exit ?_
   conv => whnf
   refine Tri.seq ?_
   refine Tri.regionX ti_ok ?_
   have hin : i = l.length:=by simp [encInts] at hc; omega
   subst hin
   rw [List.take_of_length_le (Nat.le_refl _)]
   conv => whnf
   refine .inr (XOp.bytesStr ti_ok (bs:=runesB l) (tg:=.own 1000 w) rfl rfl rfl rfl rfl rfl rfl ?_)
   conv => whnf
   refine Tri.ret ?_
   conv => whnf
   exact ⟨.refl _,.refl _,trivial⟩
theorem F117 (l : List Int) (hl : l.length ≤ 21845) (h : ∀ r ∈ l,isChar r = true) : DFun Tryz.prog W0 196 [.sl .none 1 (encInts .i64 l)] (.str (runesB l)):=by
 refine DFun.intro ti_ok Tryz.func196 rfl (by decide +kernel) Tryz.ntmps196 rfl fun Γ => ?_
 refine Tri.seq ?_
 refine Tri.region ti_ok ?_
 conv => whnf
 refine Tri.seq ?_
 refine Tri.region ti_ok ?_
 conv => whnf
 refine ⟨[.sl .none 1 (encInts .i64 l)],_,fun _ => F132 l hl h,⟨.refl _,trivial⟩,?_⟩
 conv => whnf
 refine Tri.seq ?_
 refine Tri.region ti_ok ?_
 conv => whnf
 refine Tri.ret ?_
 conv => whnf
 exact .refl _
theorem F116 (l : List Int) (n : Int) : DFun Tryz.prog W0 195 [.sl .none 1 (encInts .i64 l),.int .i64 n] (.sl .none 1 (encInts .i64 (l.take n.toNat))):=by
 refine DFun.intro ti_ok Tryz.func195 rfl (by decide +kernel) Tryz.ntmps195 rfl fun Γ => ?_
 refine Tri.seq ?_
 refine Tri.region ti_ok ?_
 conv => whnf
 refine Tri.seq ?_
 refine Tri.region ti_ok ?_
 conv => whnf
 refine ⟨fun _ => by simp only [encInts,List.length_map]; split <;> split <;> omega,?_⟩
 conv => whnf
 refine Tri.ret ?_
 conv => whnf
 refine DLe.of_eq (congrArg (D.sl _ 1) ?_)
 simp only [encInts,List.length_map,List.map_take,Int.toNat_zero,List.drop_zero]
 have e : ∀ m : Nat,l.length ≤ m → (l.map (D.int .i64)).take m = l.map (D.int .i64):=fun m hm => List.take_of_length_le (by simpa using hm)
 split
 ·split
  ·rw [e _ (by omega),e n.toNat (by omega)]
  ·show List.take 0 _ = _
   rw [e 0 (by omega),e n.toNat (by omega)]
 ·split
  ·rfl
  ·rw [show n.toNat = 0 by omega]; rfl
theorem F118 (k : Nat) (hk : k < 100) (ih : ∀ j : Nat,j < k → DFun Tryz.prog W0 53 [.int .i64 (j : Nat)] (.str (Lib.decDigits j))) : DFun Tryz.prog W0 53 [.int .i64 (k : Nat)] (.str (Lib.decDigits k)):=by
 refine DFun.intro ti_ok Tryz.func53 rfl (by decide +kernel) Tryz.ntmps53 rfl fun Γ => ?_
 refine Tri.seq ?_
 refine Tri.region ti_ok ?_
 conv => whnf
 refine Tri.seq ?_
 refine Tri.seq ?_
 refine Tri.region ti_ok ?_
 conv => whnf
 refine Tri.cond _ rfl (fun hc => ?_) (fun hc => ?_)
 ·refine Tri.seq ?_
  exfalso
  simp at hc; omega
 ·refine Tri.skip ?_
  conv => whnf
  refine Tri.seq ?_
  refine Tri.seq ?_
  refine Tri.region ti_ok ?_
  conv => whnf
  refine Tri.cond _ rfl (fun hc => ?_) (fun hc => ?_)
  ·refine Tri.seq ?_
   refine Tri.regionX ti_ok ?_
   skip
   conv => whnf
   refine .inl ⟨fun _ => by simp at hc; simp only [InR]; omega,?_⟩
   conv => whnf
   refine .inl ?_
   conv => whnf
   refine .inl ⟨by simp at hc; simp only [InR]; omega,?_⟩
   conv => whnf
   refine ⟨trivial,?_⟩
   conv => whnf
   refine .inr (XOp.bytesStr ti_ok (bs:=[u8i (48 + (k : Nat))]) (tg:=.full) rfl rfl rfl rfl rfl rfl (congrArg (D.sl .full 1) (u8_row [48 + (k : Nat)] (by simp at hc ⊢; omega))) ?_)
   conv => whnf
   refine Tri.ret ?_
   conv => whnf
   have hk10 : k < 10:=by simp at hc; omega
   refine DLe.of_eq (congrArg D.str ?_)
   rw [Lib.decDigits,dif_pos hk10]
   rfl
  ·refine Tri.skip ?_
   conv => whnf
   refine Tri.seq ?_
   refine Tri.region ti_ok ?_
   have hk10 : 10 ≤ k:=by simp at hc; omega
   conv => whnf
   refine ⟨fun _ => by omega,?_⟩ -- quo
   conv => whnf
   refine .inl ⟨fun _ => by rw [tdiv_eq (by omega) (by omega)]; simp only [InR]; omega,?_⟩
   conv => whnf
   refine ⟨[.int .i64 ((k / 10 : Nat) : Int)],_,fun _ => ih (k / 10) (by omega),⟨DLe.of_eq (congrArg (D.int .i64) (by rw [tdiv_eq (by omega) (by omega)]; omega)),trivial⟩,?_⟩
   conv => whnf
   refine ⟨fun _ => by omega,?_⟩ -- rem
   conv => whnf
   refine ⟨[.int .i64 ((k % 10 : Nat) : Int)],_,fun _ => ih (k % 10) (by omega),⟨DLe.of_eq (congrArg (D.int .i64) (by rw [tmod_eq (by omega)]; omega)),trivial⟩,?_⟩
   conv => whnf
   refine ⟨fun _ => by have:=digs_len (k / 10) (by omega); have:=digs_len (k % 10) (by omega); omega,?_⟩
   conv => whnf
   refine Tri.ret ?_
   conv => whnf
   refine DLe.of_eq (congrArg D.str ?_)
   rw [Lib.decDigits.eq_1 (k % 10),dif_pos (by omega),Lib.decDigits.eq_1 k,dif_neg (by omega)]
theorem F118r (k : Nat) (hk : k < 100) : DFun Tryz.prog W0 53 [.int .i64 (k : Nat)] (.str (Lib.decDigits k)):=by
 refine F118 k hk fun j hj => ?_
 refine F118 j (by omega) fun j2 hj2 => ?_
 exact F118r j2 (by omega)
termination_by k
end Go.Tame.V
/- Contracts: the other way of names: parts,used. By program (mk.py). -/
namespace Go.Tame.V
open Go Go.Proofs
variable {W0 : World}
set_option maxRecDepth 10000
set_option linter.unusedVariables false
set_option linter.unusedSimpArgs false

theorem dotI_ge : ∀ l : List Int,-1 ≤ dotI l
 | [] => by simp [dotI]
 | x::l => by
  have:=dotI_ge l
  simp only [dotI]; split
  ·omega
  ·split <;> omega
theorem dotI_lt : ∀ l : List Int,dotI l < l.length
 | [] => by simp [dotI]
 | x::l => by
  have:=dotI_lt l
  simp only [dotI,List.length_cons]; split
  ·omega
  ·split <;> omega
theorem dotI_snoc (x : Int) : ∀ l : List Int,dotI (l ++ [x]) = if x = 46 then (l.length : Int) else dotI l
 | [] => by
  have h0 : ¬ (0 : Int) ≤ -1:=by omega
  simp only [List.nil_append,dotI,if_neg h0]; rfl
 | y::l => by
  have ih:=dotI_snoc x l
  simp only [List.cons_append,dotI,ih,List.length_cons]
  split
  ·rw [if_pos (by omega)]; omega
  ·rfl
theorem F115 (v : Int) (s : List UInt8) (l : List Int) (dir : Bool) (hs : s.length < 1000000000) (hch : (chars s).1 = l) (hc0 : ∀ r ∈ l,isChar r = true) (hll : l.length ≤ 64) : DFun Tryz.prog W0 194 [.int .i64 v,.str s,.bool dir] (.tup [.sl .none 1 (encInts .i64 ((partsC v l dir).1.map (mapC v))),.sl .none 1 (encInts .i64 ((partsC v l dir).2.map (mapC v)))]):=by
 refine DFun.intro ti_ok Tryz.func194 rfl (by decide +kernel) Tryz.ntmps194 rfl fun Γ => ?_
 refine Tri.seq ?_
 refine Tri.region ti_ok ?_
 conv => whnf
 refine Tri.seq ?_
 refine Tri.region ti_ok ?_
 conv => whnf
 refine ⟨[.str s],_,fun _ => F114 s hs,⟨.refl _,trivial⟩,?_⟩
 rw [hch]
 conv => whnf
 refine Tri.seq ?_
 refine Tri.region ti_ok ?_
 conv => whnf
 refine Tri.seq ?_
 refine Tri.seq ?_
 refine Tri.region ti_ok ?_
 conv => whnf
 refine Tri.block ?_
 refine Tri.loop (α:={ i : Nat // i ≤ l.length }) (fun x => [(0,.int .i64 v),(2,.bool dir),(8,.sl .none 1 (encInts .i64 l)),(10,.int .i64 (dotI (l.take x.1))),(11,.int .i64 x.1)]) (fun _ => []) (fun x => l.length - x.1) ⟨0,by omega⟩ ⟨.refl _,.refl _,.refl _,.refl _,.refl _,trivial⟩ trivial ?_
 rintro ⟨i,hi⟩
 dsimp only
 refine Tri.seq ?_
 refine Tri.seq ?_
 refine Tri.region ti_ok ?_
 conv => whnf
 refine Tri.cond _ rfl (fun hc => ?_) (fun hc => ?_)
 ·refine Tri.skip ?_
  conv => whnf
  refine Tri.seq ?_
  refine Tri.block ?_
  refine Tri.seq ?_
  refine Tri.region ti_ok ?_
  have hia : i < l.length:=by simpa [encInts] using hc
  have hsn:=dotI_snoc l[i] (l.take i)
  rw [← List.take_succ_eq_append_getElem hia] at hsn
  have htl : (l.take i).length = i:=by simp; omega
  rw [htl] at hsn
  conv => whnf
  refine ⟨fun _ => by simp [encInts]; omega,?_⟩
  conv => whnf
  refine ⟨.int .i64 l[i],fun _ => by simp [encInts,hia],?_⟩
  conv => whnf
  refine Tri.cond _ rfl (fun hc => ?_) (fun hc => ?_)
  ·refine Tri.region ti_ok ?_
   conv => whnf
   refine Tri.region ti_ok ?_
   conv => whnf
   refine .inl ⟨fun _ => by simp only [InR]; omega,?_⟩
   conv => whnf
   have h46 : l[i] = 46:=by simpa using hc
   exact ⟨⟨i + 1,by omega⟩,by show l.length - (i + 1) < l.length - i; omega,⟨.refl _,.refl _,.refl _,DLe.of_eq (congrArg (D.int .i64) (by rw [hsn,if_pos h46])),.refl _,trivial⟩,trivial⟩
  ·refine Tri.skip ?_
   conv => whnf
   refine Tri.region ti_ok ?_
   conv => whnf
   refine .inl ⟨fun _ => by simp only [InR]; omega,?_⟩
   conv => whnf
   have h46 : ¬ l[i] = 46:=by simpa using hc
   exact ⟨⟨i + 1,by omega⟩,by show l.length - (i + 1) < l.length - i; omega,⟨.refl _,.refl _,.refl _,DLe.of_eq (congrArg (D.int .i64) (by rw [hsn,if_neg h46])),.refl _,trivial⟩,trivial⟩
 ·refine Tri.exit ?_
  conv => whnf
  refine Tri.seq ?_
  refine Tri.region ti_ok ?_
  have hin : i = l.length:=by simp [encInts] at hc; omega
  subst hin
  rw [List.take_of_length_le (Nat.le_refl _)]
  have hd1:=dotI_ge l
  have hd2:=dotI_lt l
  have hel : (encInts .i64 l).length = l.length:=by simp [encInts]
  rw [hel]
  conv => whnf
  refine .inl ⟨fun _ => by simp only [InR]; omega,?_⟩
  conv => whnf
  refine Tri.seq ?_
  refine Tri.seq ?_
  refine Tri.region ti_ok ?_
  conv => whnf
  refine ⟨fun h => h,?_⟩
  conv => whnf
  refine ⟨fun h0 h => by first | exact h | (rw [h]; rfl) | (rw [h0,h]; rfl),?_⟩
  conv => whnf
  refine ⟨fun h => h,?_⟩
  conv => whnf
  refine ⟨fun h => h,?_⟩
  conv => whnf
  refine ⟨fun h0 h => by first | exact h | (rw [h]; rfl) | (rw [h0,h]; rfl),?_⟩
  conv => whnf
  refine ⟨fun h => h,?_⟩
  conv => whnf
  refine ⟨fun h => h,?_⟩
  conv => whnf
  refine ⟨fun h => h,?_⟩
  conv => whnf
  refine ⟨fun h => h,?_⟩
  conv => whnf
  refine .inl ⟨fun _ => by simp only [InR]; omega,?_⟩
  conv => whnf
  refine ⟨fun h => h,?_⟩
  conv => whnf
  refine ⟨fun h => h,?_⟩
  conv => whnf
  refine ⟨fun h0 h => by first | exact h | (rw [h]; rfl) | (rw [h0,h]; rfl),?_⟩
  conv => whnf
  refine ⟨fun h0 h => by first | exact h | (rw [h]; rfl) | (rw [h0,h]; rfl),?_⟩
  conv => whnf
  refine Tri.cond _ rfl (fun hc => ?_) (fun hc => ?_)
  ·refine Tri.seq ?_
   refine Tri.draw ti_ok mixed (by kernel_rfl) ?_
   skip
   conv => whnf
   have hp : dir = false ∧ 0 < dotI l ∧ dotI l < (l.length : Int) - 1 ∧ (v = 0 ∨ (l.length : Int) - 1 - dotI l ≤ 16):=by
    simp only [bif_and,bif_or,hel] at hc
    simp at hc
    exact ⟨hc.1.1.1,hc.1.1.2,hc.1.2,hc.2⟩
   have hpc : partsC v l dir = (l.take (dotI l).toNat,l.drop (dotI l + 1).toNat):=by rw [partsC,if_pos hp]
   rw [hpc]
   refine ⟨fun _ => by simp [encInts]; omega,?_⟩
   conv => whnf
   refine ⟨[.int .i64 v,.sl .none 1 (encInts .i64 (l.take (dotI l).toNat))],_,fun _ => F131 v _ (by simp; omega) (fun r hr => hc0 r (List.mem_of_mem_take hr)),⟨.refl _,DLe.of_eq (congrArg (D.sl .none 1) (by simp [encInts])),trivial⟩,?_⟩
   conv => whnf
   refine .inl ⟨fun _ => by simp only [InR]; omega,?_⟩
   conv => whnf
   refine ⟨fun _ => by simp [encInts]; omega,?_⟩
   conv => whnf
   refine ⟨[.int .i64 v,.sl .none 1 (encInts .i64 (l.drop (dotI l + 1).toNat))],_,fun _ => F131 v _ (by simp; omega) (fun r hr => hc0 r (List.mem_of_mem_drop hr)),⟨.refl _,DLe.of_eq (congrArg (D.sl .none 1) (by simp [encInts]; rw [List.take_of_length_le (by simp)])),trivial⟩,?_⟩
   conv => whnf
   refine Tri.ret ?_
   conv => whnf
   exact ⟨.refl _,.refl _,trivial⟩
  ·refine Tri.skip ?_
   conv => whnf
   refine Tri.seq ?_
   refine Tri.seq ?_
   refine Tri.region ti_ok ?_
   conv => whnf
   refine ⟨fun h => h,?_⟩
   conv => whnf
   refine ⟨fun h0 h => by first | exact h | (rw [h]; rfl) | (rw [h0,h]; rfl),?_⟩
   conv => whnf
   refine ⟨fun h => h,?_⟩
   conv => whnf
   refine ⟨fun h0 h => by first | exact h | (rw [h]; rfl) | (rw [h0,h]; rfl),?_⟩
   conv => whnf
   refine ⟨fun h => h,?_⟩
   conv => whnf
   refine ⟨fun h => h,?_⟩
   conv => whnf
   refine ⟨fun h0 h => by first | exact h | (rw [h]; rfl) | (rw [h0,h]; rfl),?_⟩
   conv => whnf
   refine Tri.cond _ rfl (fun hc => ?_) (fun hc => ?_)
   ·refine Tri.seq ?_
    refine Tri.region ti_ok ?_
    conv => whnf
    have hp : dir = false ∧ v = 0 ∧ 0 < dotI l ∧ dotI l = (l.length : Int) - 1:=by
     simp only [bif_and,bif_or,hel] at hc
     simp at hc
     exact ⟨hc.1.1.1,hc.1.1.2,hc.1.2,hc.2⟩
    have hpc : partsC v l dir = (l.take (dotI l).toNat,[]):=by rw [partsC,if_neg (fun g => by have:=g.2.2.1; have:=hp.2.2.2; omega),if_pos hp]
    rw [hpc]
    refine ⟨fun _ => by simp [encInts]; omega,?_⟩
    conv => whnf
    refine ⟨[.int .i64 v,.sl .none 1 (encInts .i64 (l.take (dotI l).toNat))],_,fun _ => F131 v _ (by simp; omega) (fun r hr => hc0 r (List.mem_of_mem_take hr)),⟨.refl _,DLe.of_eq (congrArg (D.sl .none 1) (by simp [encInts])),trivial⟩,?_⟩
    conv => whnf
    refine Tri.ret ?_
    conv => whnf
    exact ⟨.refl _,DLe.nil,trivial⟩
   ·refine Tri.skip ?_
    conv => whnf
    refine Tri.seq ?_
    refine Tri.region ti_ok ?_
    have hp1 : ¬ (dir = false ∧ v = 0 ∧ 0 < dotI l ∧ dotI l = (l.length : Int) - 1):=by
     simp only [bif_and,bif_or,hel] at hc
     simp at hc
     intro ⟨g1,g2,g3,g4⟩
     have:=hc g1 g2
     omega
    have hp2 : ¬ (dir = false ∧ 0 < dotI l ∧ dotI l < (l.length : Int) - 1 ∧ (v = 0 ∨ (l.length : Int) - 1 - dotI l ≤ 16)):=by
     rename_i hc0'
     simp only [bif_and,bif_or,hel] at hc0'
     simp at hc0'
     intro ⟨g1,g2,g3,g4⟩
     have:=hc0' g1 g2 g3
     omega
    have hpc : partsC v l dir = (l,[]):=by rw [partsC,if_neg hp2,if_neg hp1]
    rw [hpc]
    conv => whnf
    refine ⟨[.int .i64 v,.sl .none 1 (encInts .i64 l)],_,fun _ => F131 v _ (by omega) hc0,⟨.refl _,.refl _,trivial⟩,?_⟩
    conv => whnf
    refine Tri.ret ?_
    conv => whnf
    exact ⟨.refl _,DLe.nil,trivial⟩
theorem F97 (ks : List (List UInt8)) (q : List UInt8) (hk : ks.length < 1000000) : DFun Tryz.prog W0 138 [.sl .none 1 (strs ks),.str q] (.bool (decide (q ∈ ks))):=by
 refine DFun.intro ti_ok Tryz.func138 rfl (by decide +kernel) Tryz.ntmps138 rfl fun Γ => ?_
 refine Tri.seq ?_
 refine Tri.region ti_ok ?_
 conv => whnf
 refine Tri.seq ?_
 refine Tri.seq ?_
 refine Tri.region ti_ok ?_
 conv => whnf
 refine Tri.block ?_
 refine Tri.loop (α:={ i : Nat // i ≤ ks.length ∧ q ∉ ks.take i }) (fun x => [(0,.sl .none 1 (strs ks)),(1,.str q),(5,.int .i64 x.1)]) (fun _ => []) (fun x => ks.length - x.1) ⟨0,by simp⟩ ⟨.refl _,.refl _,.refl _,trivial⟩ trivial ?_
 rintro ⟨i,hi,hq⟩
 dsimp only
 refine Tri.seq ?_
 refine Tri.seq ?_
 refine Tri.region ti_ok ?_
 conv => whnf
 refine Tri.cond _ rfl (fun hc => ?_) (fun hc => ?_)
 ·refine Tri.skip ?_
  conv => whnf
  refine Tri.seq ?_
  refine Tri.block ?_
  refine Tri.seq ?_
  refine Tri.region ti_ok ?_
  have hia : i < ks.length:=by simpa [strs] using hc
  conv => whnf
  refine ⟨fun _ => by simp [strs]; omega,?_⟩
  conv => whnf
  refine ⟨.str ks[i],fun _ => by simp [strs,hia],?_⟩
  conv => whnf
  refine Tri.cond _ rfl (fun hc => ?_) (fun hc => ?_)
  ·refine Tri.seq ?_
   refine Tri.region ti_ok ?_
   conv => whnf
   refine Tri.ret ?_
   conv => whnf
   have he : ks[i] = q:=by simpa using hc
   exact DLe.of_eq (congrArg D.bool (by symm; rw [decide_eq_true_eq,← he]; exact List.getElem_mem hia))
  ·refine Tri.skip ?_
   conv => whnf
   refine Tri.region ti_ok ?_
   conv => whnf
   refine .inl ⟨fun _ => by simp only [InR]; omega,?_⟩
   conv => whnf
   have he : ¬ ks[i] = q:=by simpa using hc
   exact ⟨⟨i + 1,by omega,by rw [List.take_succ_eq_append_getElem hia,List.mem_append]; rintro (h | h); exact hq h; exact he (List.mem_singleton.1 h).symm⟩,by show ks.length - (i + 1) < ks.length - i; omega,⟨.refl _,.refl _,.refl _,trivial⟩,trivial⟩
 ·refine Tri.exit ?_
  conv => whnf
  refine Tri.seq ?_
  refine Tri.region ti_ok ?_
  have hin : i = ks.length:=by simp [strs] at hc; omega
  rw [hin,List.take_of_length_le (Nat.le_refl _)] at hq
  conv => whnf
  refine Tri.ret ?_
  conv => whnf
  exact DLe.of_eq (congrArg D.bool (by symm; rw [decide_eq_false_iff_not]; exact hq))
end Go.Tame.V
/- Contracts: the other way of names: the candidate. By program (mk.py). -/
namespace Go.Tame.V
open Go Go.Proofs
variable {W0 : World}
set_option maxRecDepth 10000
set_option linter.unusedVariables false
set_option linter.unusedSimpArgs false

theorem dig_rng {k : Nat} (h2 : k < 100) : ∀ b ∈ Lib.decDigits k,32 ≤ b.toNat ∧ b.toNat < 127:=by
 by_cases h1 : 10 ≤ k
 ·exact dig2_rng h1 h2
 ·have e : Lib.decDigits k = [UInt8.ofNat (48 + k)]:=by rw [Lib.decDigits,dif_pos (by omega)]
  rw [e]
  have hU : ∀ x : Nat,x < 256 → (UInt8.ofNat x).toNat = x:=fun x hx => by rw [UInt8.toNat_ofNat']; omega
  intro b hb
  rw [List.mem_singleton.1 hb,hU _ (by omega)]; omega
def sufB (k : Nat) : List UInt8:=if 0 < k then Lib.decDigits k else []
theorem suf_eq {k : Nat} (h : k < 100) : runesB (sufI k) = sufB k ∧ (sufI k).length = (sufB k).length ∧ (sufB k).length ≤ 2:=by
 unfold sufI sufB
 split
 ·have hc:=charsP_ascii _ (dig_rng h)
  rw [runes_chars hc]
  exact ⟨(chars_bytes _ _ _ (Nat.le_refl _) hc).1,by simp,digs_len k h⟩
 ·exact ⟨rfl,rfl,by simp⟩
theorem runesB_cons (r : Int) (l : List Int) : runesB (r::l) = (Utf8.encode r).data.toList ++ runesB l:=by simp [runesB]
def exC (v : Int) (l : List Int) (dir : Bool) : List Int:=if (partsC v l dir).2 = [] then [] else 46::((partsC v l dir).2.map (mapC v)).take (mostC v)
theorem want_chars (v : Int) {s : List UInt8} {l : List Int} (hc : charsP s = some l) (dir : Bool) : wantS v s dir = ((partsC v l dir).1.map (mapC v),exC v l dir):=by
 obtain ⟨h1,h2,h3⟩:=cut_chars v hc dir
 unfold wantS exC
 rw [h1,h2]
 by_cases h : (partsC v l dir).2 = []
 ·rw [if_pos h,if_pos (h3.2 h)]
 ·rw [if_neg h,if_neg (fun g => h (h3.1 g))]
theorem partsC_len (v : Int) (l : List Int) (dir : Bool) : (partsC v l dir).1.length ≤ l.length ∧ (partsC v l dir).2.length ≤ l.length:=by
 unfold partsC
 split
 ·simp; omega
 ·split
  ·simp; omega
  ·simp

theorem F96 (v : Int) (hv : v = 0 ∨ v = 1) (s : List UInt8) (l : List Int) (dir : Bool) (k : Nat) (hk : k < 100) (hs : s.length < 1000000000) (hcp : charsP s = some l) (hch : (chars s).1 = l) (hll : l.length ≤ 64) : DFun Tryz.prog W0 137 [.int .i64 v,.str s,.bool dir,.int .i64 (k : Nat)] (.str (numS v (wantS v s dir).1 (wantS v s dir).2 k)):=by
 have hcs:=(chars_bytes s.length s l (Nat.le_refl _) hcp).2
 rw [want_chars v hcp dir]
 have hpl:=partsC_len v l dir
 have hpc:=parts_char (v:=v) (dir:=dir) hcs
 have hcall:=F115 (W0:=W0) v s l dir hs hch hcs hll
 have hexC : exC v l dir = if ((partsC v l dir).2.map (mapC v)).take (mostC v) = [] then [] else 46::((partsC v l dir).2.map (mapC v)).take (mostC v):=by
  unfold exC
  have hm : mostC v ≠ 0:=by unfold mostC; split <;> omega
  by_cases h : (partsC v l dir).2 = []
  ·rw [if_pos h,h]; simp
  ·rw [if_neg h,if_neg (by simp [h,hm])]
 have hst : ∀ r ∈ (partsC v l dir).1.map (mapC v),isChar r = true:=fun r hr => by obtain ⟨x,hx,rfl⟩:=List.mem_map.1 hr; exact mapC_char (hpc.1 x hx)
 have hex : ∀ r ∈ (partsC v l dir).2.map (mapC v),isChar r = true:=fun r hr => by obtain ⟨x,hx,rfl⟩:=List.mem_map.1 hr; exact mapC_char (hpc.2 x hx)
 have hl1 : ((partsC v l dir).1.map (mapC v)).length ≤ 64:=by simp; omega
 have hl2 : ((partsC v l dir).2.map (mapC v)).length ≤ 64:=by simp; omega
 generalize (partsC v l dir).1.map (mapC v) = P1 at *
 generalize (partsC v l dir).2.map (mapC v) = P2 at *
 have hE : ∀ r ∈ P2.take (mostC v),isChar r = true:=fun r hr => hex r (List.mem_of_mem_take hr)
 have hEl : (P2.take (mostC v)).length ≤ 64:=by simp; omega
 have hE0 : v = 0 → P2.take 3 = P2.take (mostC v):=fun h => by rw [mostC,if_pos h]
 have hE1 : ¬ v = 0 → P2 = P2.take (mostC v):=fun h => by rw [mostC,if_neg h,List.take_of_length_le hl2]
 rw [hexC]
 generalize P2.take (mostC v) = E at *
 obtain ⟨hs1,hs2,hs3⟩:=suf_eq hk
 refine DFun.intro ti_ok Tryz.func137 rfl (by decide +kernel) Tryz.ntmps137 rfl fun Γ => ?_
 refine Tri.seq ?_
 refine Tri.region ti_ok ?_
 conv => whnf
 refine Tri.seq ?_
 refine Tri.region ti_ok ?_
 conv => whnf
 refine ⟨[.int .i64 v,.str s,.bool dir],_,fun _ => hcall,⟨.refl _,.refl _,.refl _,trivial⟩,?_⟩
 conv => whnf
 refine Tri.seq ?_
 refine Tri.region ti_ok ?_
 conv => whnf
 refine Tri.seq ?_
 refine Tri.region ti_ok ?_
 conv => whnf
 refine Tri.joinK (α:=Unit) (fun x => [(0,.int .i64 v),(3,.int .i64 (k : Nat)),(9,.sl .none 1 (encInts .i64 P1)),(10,.sl .none 1 (encInts .i64 E)),(11,.str []),(12,.int .i64 (bif v == 0 then 8 else 64))]) (fun x => []) ?_ ?_
 ·refine Tri.seq ?_
  refine Tri.region ti_ok ?_
  conv => whnf
  refine Tri.cond _ rfl (fun hc => ?_) (fun hc => ?_)
  ·refine Tri.seq ?_
   refine Tri.region ti_ok ?_
   conv => whnf
   refine ⟨[.sl .none 1 (encInts .i64 P2),.int .i64 3],_,fun _ => F116 P2 3,⟨.refl _,.refl _,trivial⟩,?_⟩
   conv => whnf
   refine Tri.region ti_ok ?_
   conv => whnf
   have h0 : v = 0:=by simpa using hc
   exact ⟨(),[],⟨.refl _,.refl _,.refl _,DLe.of_eq (congrArg (fun z => D.sl .none 1 (encInts .i64 z)) (hE0 h0)),.refl _,DLe.of_eq (congrArg (D.int .i64) (by rw [hc]; rfl)),trivial⟩,rfl,trivial⟩
  ·refine Tri.skip ?_
   conv => whnf
   have h0 : ¬ v = 0:=by simpa using hc
   exact ⟨(),[],⟨.refl _,.refl _,.refl _,DLe.of_eq (congrArg (fun z => D.sl .none 1 (encInts .i64 z)) (hE1 h0)),.refl _,DLe.of_eq (congrArg (D.int .i64) (by rw [hc]; rfl)),trivial⟩,rfl,trivial⟩
 ·rintro ⟨⟩
  have hei : (encInts .i64 E).length = E.length:=by simp [encInts]
  have hrb:=runesB_len E
  have hr46 : runesB (46::E) = [46] ++ runesB E:=by rw [runesB_cons,enc46]
  refine Tri.joinK (α:=Unit) (fun x => [(3,.int .i64 (k : Nat)),(9,.sl .none 1 (encInts .i64 P1)),(11,.str (runesB (if E = [] then [] else 46::E))),(12,.int .i64 (bif v == 1 then 64 - ((if E = [] then [] else 46::E : List Int).length : Int) else 8))]) (fun x => []) ?_ ?_
  ·refine Tri.seq ?_
   refine Tri.region ti_ok ?_
   conv => whnf
   refine Tri.cond _ rfl (fun hc => ?_) (fun hc => ?_)
   ·refine Tri.seq ?_
    refine Tri.region ti_ok ?_
    conv => whnf
    refine ⟨[.sl .none 1 (encInts .i64 E)],_,fun _ => F117 E (by omega) hE,⟨.refl _,trivial⟩,?_⟩
    conv => whnf
    refine ⟨fun _ => by simp; omega,?_⟩
    conv => whnf
    refine Tri.seq ?_
    refine Tri.region ti_ok ?_
    conv => whnf
    refine Tri.cond _ rfl (fun hc => ?_) (fun hc => ?_)
    ·refine Tri.region ti_ok ?_
     conv => whnf
     refine .inl ⟨fun _ => by simp only [InR]; omega,?_⟩
     conv => whnf
     have h1 : v = 1:=by simpa using hc
     have hne : E ≠ []:=by rename_i hc0; intro h; subst h; simp [encInts] at hc0
     exact ⟨(),[],⟨.refl _,.refl _,DLe.of_eq (congrArg D.str (by rw [if_neg hne,hr46])),DLe.of_eq (congrArg (D.int .i64) (by rw [hc,if_neg hne,hei]; simp; omega)),trivial⟩,rfl,trivial⟩
    ·refine Tri.skip ?_
     conv => whnf
     have h1 : v = 0:=hv.resolve_right (by simpa using hc)
     have hne : E ≠ []:=by rename_i hc0; intro h; subst h; simp [encInts] at hc0
     exact ⟨(),[],⟨.refl _,.refl _,DLe.of_eq (congrArg D.str (by rw [if_neg hne,hr46])),DLe.of_eq (congrArg (D.int .i64) (by subst h1; rfl)),trivial⟩,rfl,trivial⟩
   ·refine Tri.skip ?_
    conv => whnf
    have hne : E = []:=by rw [hei] at hc; simp at hc; exact hc
    exact ⟨(),[],⟨.refl _,.refl _,DLe.of_eq (congrArg D.str (by rw [if_pos hne]; rfl)),DLe.of_eq (congrArg (D.int .i64) (by rw [if_pos hne]; rcases hv with rfl | rfl <;> rfl)),trivial⟩,rfl,trivial⟩
  ·rintro ⟨⟩
   have hxl : (if E = [] then [] else 46::E : List Int).length ≤ 65:=by split <;> simp; omega
   have hrx:=runesB_len (if E = [] then [] else 46::E)
   generalize (if E = [] then [] else 46::E : List Int) = X at *
   refine Tri.seq ?_
   refine Tri.region ti_ok ?_
   conv => whnf
   refine Tri.joinK (α:=Unit) (fun x => [(9,.sl .none 1 (encInts .i64 P1)),(11,.str (runesB X)),(12,.int .i64 (bif v == 1 then 64 - (X.length : Int) else 8)),(13,.str (sufB k))]) (fun x => []) ?_ ?_
   ·refine Tri.seq ?_
    refine Tri.region ti_ok ?_
    conv => whnf
    refine Tri.cond _ rfl (fun hc => ?_) (fun hc => ?_)
    ·refine Tri.region ti_ok ?_
     conv => whnf
     refine ⟨[.int .i64 (k : Nat)],_,fun _ => F118r k hk,⟨.refl _,trivial⟩,?_⟩
     conv => whnf
     have h0 : 0 < k:=by simpa using hc
     exact ⟨(),[],⟨.refl _,.refl _,.refl _,DLe.of_eq (congrArg D.str (by rw [sufB,if_pos h0])),trivial⟩,rfl,trivial⟩
    ·refine Tri.skip ?_
     conv => whnf
     have h0 : ¬ 0 < k:=by simpa using hc
     exact ⟨(),[],⟨.refl _,.refl _,.refl _,DLe.of_eq (congrArg D.str (by rw [sufB,if_neg h0])),trivial⟩,rfl,trivial⟩
   ·rintro ⟨⟩
    have hroom : (bif v == 1 then 64 - (X.length : Int) else 8) - ((sufB k).length : Int) = roomI v X k:=by
     rw [roomI,hs2]; cases (v == 1) <;> rfl
    have hrr : -100 ≤ (bif v == 1 then 64 - (X.length : Int) else 8) ∧ (bif v == 1 then 64 - (X.length : Int) else 8) ≤ 64:=by cases (v == 1) <;> simp only [cond_true,cond_false] <;> omega
    refine Tri.seq ?_
    refine Tri.region ti_ok ?_
    conv => whnf
    refine .inl ⟨fun _ => by simp only [InR]; omega,?_⟩
    conv => whnf
    refine ⟨[.sl .none 1 (encInts .i64 P1),.int .i64 (roomI v X k)],_,fun _ => F116 P1 (roomI v X k),⟨.refl _,DLe.of_eq (congrArg (D.int .i64) hroom),trivial⟩,?_⟩
    conv => whnf
    have htk:=runesB_len (P1.take (roomI v X k).toNat)
    have htl : (P1.take (roomI v X k).toNat).length ≤ 64:=by simp; omega
    refine ⟨[.sl .none 1 (encInts .i64 (P1.take (roomI v X k).toNat))],_,fun _ => F117 _ (by omega) (fun r hr => hst r (List.mem_of_mem_take hr)),⟨.refl _,trivial⟩,?_⟩
    conv => whnf
    refine ⟨fun _ => by omega,?_⟩
    conv => whnf
    refine ⟨fun _ => by simp; omega,?_⟩
    conv => whnf
    refine Tri.ret ?_
    conv => whnf
    refine DLe.of_eq (congrArg D.str ?_)
    have htake : P1.take (stemN v P1 X k) = P1.take (roomI v X k).toNat:=by
     unfold stemN
     generalize roomI v X k = R
     split
     ·split
      ·rfl
      ·rw [show R.toNat = 0 by omega]; rfl
     ·split
      ·rw [List.take_of_length_le (by omega),List.take_of_length_le (by omega)]
      ·rw [List.take_of_length_le (by omega),List.take_of_length_le (by omega)]
    show runesB (P1.take (roomI v X k).toNat) ++ sufB k ++ runesB X = numS v P1 X k
    rw [numS,htake,runesB_append,runesB_append,hs1]
end Go.Tame.V
/- Contracts: the other way of names: the order. By program (mk.py). -/
namespace Go.Tame.V
open Go Go.Proofs
variable {W0 : World}
set_option maxRecDepth 10000
set_option linter.unusedVariables false
set_option linter.unusedSimpArgs false

theorem off (f : Nat → Bool) (k : Nat) (h : f k = false) : ∃ g : Nat → Bool,f = fun j => _root_.cond (Nat.beq j k) false (g j) :=
 ⟨f,funext fun j => by cases hb : Nat.beq j k with | false => rfl | true => rw [beq_true hb]; exact h⟩
theorem on (f : Nat → Bool) (k : Nat) (h : f k = true) : ∃ g : Nat → Bool,f = fun j => _root_.cond (Nat.beq j k) true (g j) :=
 ⟨f,funext fun j => by cases hb : Nat.beq j k with | false => rfl | true => rw [beq_true hb]; exact h⟩
theorem F53 (v : Int) : DFun Tryz.prog W0 63 [.int .i64 v] (.bool (viewOk v)):=by
 refine DFun.intro ti_ok Tryz.func63 rfl (by decide +kernel) Tryz.ntmps63 rfl fun Γ => ?_
 refine Tri.seq ?_
 refine Tri.region ti_ok ?_
 conv => whnf
 refine Tri.seq ?_
 refine Tri.region ti_ok ?_
 conv => whnf
 refine ⟨fun h => h,?_⟩
 conv => whnf
 refine ⟨fun h0 h => by first | exact h | (rw [h]; rfl) | (rw [h0,h]; rfl),?_⟩
 conv => whnf
 refine Tri.ret ?_
 conv => whnf
 exact DLe.of_eq (congrArg D.bool (by simp only [bif_and]; rfl))
theorem F95 (kids : List NV) (hinc : inc kids) (h64 : kids.length ≤ 64) : DFun Tryz.prog W0 136 [.sl .none 12 (kids.map enc)] (.sl .none 1 (places kids.length)):=by
 refine DFun.intro ti_ok Tryz.func136 rfl (by decide +kernel) Tryz.ntmps136 rfl fun Γ => ?_
 refine Tri.seq ?_
 refine Tri.region ti_ok ?_
 conv => whnf
 refine Tri.seq ?_
 refine Tri.region ti_ok ?_
 conv => whnf
 refine ⟨trivial,?_⟩
 conv => whnf
 refine Tri.seq ?_
 refine Tri.seq ?_
 refine Tri.region ti_ok ?_
 conv => whnf
 refine Tri.block ?_
 refine Tri.own 3 1000 1 3 rfl (fun w => ?_)
 refine Tri.loopK (α:={ i : Nat // i ≤ kids.length } × Value) (fun x => [(0,.sl .none 12 (kids.map enc)),(3,.sl (.own 1000 x.2) 1 (places x.1)),(4,.int .i64 x.1.1)])
  (fun x => [(1000,.own x.2 (places x.1).length 1 3)]) (fun x => kids.length - x.1) (⟨0,by omega⟩,w) [(1000,1000)]
  ⟨⟨.refl _,.refl _,.refl _,trivial⟩,rfl,rfl,rfl,trivial⟩ ?_
 rintro ⟨⟨i,hi⟩,w⟩
 dsimp only
 have hpl : (places i).length = i:=by simp [places]
 refine Tri.seq ?_
 refine Tri.seq ?_
 refine Tri.region ti_ok ?_
 conv => whnf
 refine Tri.cond _ rfl (fun hc => ?_) (fun hc => ?_)
 ·refine Tri.skip ?_
  conv => whnf
  refine Tri.seq ?_
  refine Tri.block ?_
  refine Tri.seq ?_
  refine Tri.region ti_ok ?_
  have hia : i < kids.length:=by simpa using hc
  have hkd : ∀ j,j < kids.length → (kids.map enc)[j]? = some (encTop (kids.getD j default)):=fun j hj => by rw [get_kids hj]; simp [List.getD,hj]
  conv => whnf
  refine Tri.seq ?_
  refine Tri.block ?_
  refine Tri.loopK (α:=Unit) (fun x => [(0,.sl .none 12 (kids.map enc)),(3,.sl (.own 1000 w) 1 (places i)),(4,.int .i64 i),(5,.int .i64 i)])
   (fun x => [(1000,.own w (places i).length 1 3)]) (fun x => 0) () [(1000,1000)]
   ⟨⟨.refl _,.refl _,.refl _,DLe.of_eq (congrArg (D.int .i64) (by rw [hpl])),trivial⟩,rfl,rfl,rfl,trivial⟩ ?_
  rintro ⟨⟩
  refine Tri.seq ?_
  refine Tri.seq ?_
  refine Tri.draw ti_ok mixed (by kernel_rfl) ?_
  conv => whnf
  refine ⟨fun h => h,?_⟩
  conv => whnf
  refine .inl ⟨fun h => by simp only [InR]; omega,?_⟩
  conv => whnf
  refine ⟨fun h => h,?_⟩
  conv => whnf
  refine ⟨fun h => h,?_⟩
  conv => whnf
  refine ⟨fun h => by simp at h; rw [hpl]; omega,?_⟩
  conv => whnf
  refine ⟨fun h => h,?_⟩
  conv => whnf
  refine ⟨.int .i64 ((i - 1 : Nat) : Int),fun h => by rw [pred_toNat (by simpa using h)]; simp [places,show i - 1 < i by simp at h; omega],?_⟩
  conv => whnf
  refine ⟨fun h => h,?_⟩
  conv => whnf
  refine ⟨fun h => h,?_⟩
  conv => whnf
  refine ⟨fun h => by simp; omega,?_⟩
  conv => whnf
  refine ⟨fun h => h,?_⟩
  conv => whnf
  refine ⟨fun h => h,?_⟩
  conv => whnf
  refine ⟨encTop (kids.getD (i - 1) default),fun h => hkd (i - 1) (by omega),?_⟩
  conv => whnf
  refine ⟨fun h => h,?_⟩
  conv => whnf
  refine ⟨fun h => h,?_⟩
  conv => whnf
  refine ⟨fun h => by simp; omega,?_⟩
  conv => whnf
  refine ⟨fun h => h,?_⟩
  conv => whnf
  refine ⟨fun h => h,?_⟩
  conv => whnf
  refine ⟨encTop kids[i],fun h => get_kids hia,?_⟩
  conv => whnf
  refine ⟨fun h => h,?_⟩
  conv => whnf
  refine ⟨fun h => h,?_⟩
  conv => whnf
  refine ⟨fun h0 h => by first | exact h | (rw [h]; rfl) | (rw [h0,h]; rfl),?_⟩
  conv => whnf
  refine Tri.cond _ rfl (fun hc => ?_) (fun hc => ?_)
  ·refine Tri.skip ?_
   conv => whnf
   refine Tri.block ?_
   exfalso
   cases h0 : decide ((0 : Int) < i) with
   | false => rw [h0] at hc; cases hc
   | true =>
    have ht0 : 0 < i:=by simpa using h0
    have hlt:=inc_get hinc (show i - 1 < i by omega) hia
    rw [h0] at hc
    have e : (kids.getD (i - 1) default) = kids[i - 1]:=by simp [List.getD,show i - 1 < kids.length by omega]
    rw [e] at hc
    have hc2 : (!(Op.bytesLess kids[i - 1].name kids[i].name || kids[i - 1].name == kids[i].name)) = true:=hc
    simp [hlt] at hc2
  ·refine Tri.exit ?_
   conv => whnf
   have hself : ∀ (x : Value) (b : Bool) (σ : DSt),σ.H 1000 = some (.own w (places i).length 1 3) → (b = true → σ.H 46 = some (.own x (places (i + 1)).length 1 3)) →
     SubH σ ((1000,.own w (places i).length 1 3)::(bif b then [(46,.own x (places (i + 1)).length 1 3)] else [])):=by
    intro x b σ h1 h2
    cases b with
    | true => exact ⟨h1,h2 rfl,trivial⟩
    | false => exact ⟨h1,trivial⟩
   have hlook : ∀ (x : Value) (b : Bool),b = true → look ((1000,HObj.own w (places i).length 1 3)::(bif b then [(46,.own x (places (i + 1)).length 1 3)] else [])) 46 = some (.own x (places (i + 1)).length 1 3):=by
    intro x b h; subst h; rfl
   have htake : ((places i).take ((i : Nat) : Int).toNat).drop (Int.toNat 0) = places i:=by
    show (places i).take ((i : Nat) : Int).toNat = _
    rw [List.take_of_length_le (by rw [hpl]; omega)]
   have hdrop : ((places i).take (((places i).length : Nat) : Int).toNat).drop ((i : Nat) : Int).toNat = []:=by
    rw [List.drop_eq_nil_iff]; simp [hpl]
   have hsn : places i ++ [D.int .i64 (i : Nat)] = places (i + 1):=by simp [places,List.range_succ]
   refine Tri.bitsI ti_ok mixed (α:=Value) (fun x f => [(0,.sl .none 12 (kids.map enc)),(4,.int .i64 i),(5,.int .i64 i),(3,bif f 11 then .sl (.own 46 x) 1 (places (i + 1)) else .sl (.own 1000 w) 1 (places i)),(36,bif f 0 then .sl (.own 1000 w) 1 (places i) else .any),(37,bif f 1 then .int .i64 i else .any),(38,bif f 2 then .int .i64 i else .any),(39,bif f 3 then .sl .full 1 (places i) else .any),(40,bif f 4 then .int .i64 i else .any),(41,bif f 5 then .sl .full 1 [.int .i64 i] else .any),(42,bif f 6 then .sl (.own 1000 w) 1 (places i) else .any),(43,bif f 7 then .int .i64 i else .any),(44,bif f 8 then .sl .none 1 [] else .any),(45,bif f 9 then .sl .none 1 [.int .i64 i] else .any),(46,bif f 10 then .sl (.own 46 x) 1 (places (i + 1)) else .any)])
    (fun x f => (1000,.own w (places i).length 1 3)::(bif f 10 then [(46,.own x (places (i + 1)).length 1 3)] else [])) (by decide +kernel) w ?_ ?_ ?_ ?_
   ·exact ⟨.refl _,.refl _,.refl _,.refl _,.any _,.any _,.any _,.any _,.any _,.any _,.any _,.any _,.any _,.any _,.any _,trivial⟩
   ·exact ⟨rfl,trivial⟩
   ·conv => whnf
    refine ⟨fun x f hI => ?_,?_⟩
    ·obtain ⟨f,rfl⟩:=off f 11 (hI.no 11 0 rfl rfl)
     conv => whnf
     refine ⟨x,⟨.refl _,.refl _,.refl _,.refl _,.refl _,.refl _,.refl _,.refl _,.refl _,.refl _,.refl _,.refl _,.refl _,.refl _,.refl _,trivial⟩,hself x _ _ rfl (fun h => hlook x _ h)⟩
    refine ⟨fun x f hI => ?_,?_⟩
    ·obtain ⟨f,rfl⟩:=off f 11 (hI.no 11 1 rfl rfl)
     conv => whnf
     refine ⟨x,⟨.refl _,.refl _,.refl _,.refl _,.refl _,.refl _,.refl _,.refl _,.refl _,.refl _,.refl _,.refl _,.refl _,.refl _,.refl _,trivial⟩,hself x _ _ rfl (fun h => hlook x _ h)⟩
    refine ⟨fun x f hI => ?_,?_⟩
    ·obtain ⟨f,rfl⟩:=off f 11 (hI.no 11 2 rfl rfl)
     conv => whnf
     refine ⟨x,⟨.refl _,.refl _,.refl _,.refl _,.refl _,.refl _,.refl _,.refl _,.refl _,.refl _,.refl _,.refl _,.refl _,.refl _,.refl _,trivial⟩,hself x _ _ rfl (fun h => hlook x _ h)⟩
    refine ⟨fun x f hI => ?_,?_⟩
    ·obtain ⟨f,rfl⟩:=off f 11 (hI.no 11 3 rfl rfl)
     conv => whnf
     refine .inl ?_
     conv => whnf
     refine ⟨fun _ => ⟨rfl,by omega,by omega,by rw [hpl]; omega⟩,?_⟩
     conv => whnf
     refine ⟨x,⟨.refl _,.refl _,.refl _,.refl _,.refl _,.refl _,.refl _,DLe.of_eq (congrArg (D.sl .full 1) htake),.refl _,.refl _,.refl _,.refl _,.refl _,.refl _,.refl _,trivial⟩,hself x _ _ rfl (fun h => hlook x _ h)⟩
    refine ⟨fun x f hI => ?_,?_⟩
    ·obtain ⟨f,rfl⟩:=off f 11 (hI.no 11 4 rfl rfl)
     conv => whnf
     refine ⟨x,⟨.refl _,.refl _,.refl _,.refl _,.refl _,.refl _,.refl _,.refl _,.refl _,.refl _,.refl _,.refl _,.refl _,.refl _,.refl _,trivial⟩,hself x _ _ rfl (fun h => hlook x _ h)⟩
    refine ⟨fun x f hI => ?_,?_⟩
    ·obtain ⟨f,rfl⟩:=off f 11 (hI.no 11 5 rfl rfl)
     conv => whnf
     refine ⟨trivial,?_⟩
     conv => whnf
     refine ⟨x,⟨.refl _,.refl _,.refl _,.refl _,.refl _,.refl _,.refl _,.refl _,.refl _,.refl _,.refl _,.refl _,.refl _,.refl _,.refl _,trivial⟩,hself x _ _ rfl (fun h => hlook x _ h)⟩
    refine ⟨fun x f hI => ?_,?_⟩
    ·obtain ⟨f,rfl⟩:=off f 11 (hI.no 11 6 rfl rfl)
     conv => whnf
     refine ⟨x,⟨.refl _,.refl _,.refl _,.refl _,.refl _,.refl _,.refl _,.refl _,.refl _,.refl _,.refl _,.refl _,.refl _,.refl _,.refl _,trivial⟩,hself x _ _ rfl (fun h => hlook x _ h)⟩
    refine ⟨fun x f hI => ?_,?_⟩
    ·obtain ⟨f,rfl⟩:=off f 11 (hI.no 11 7 rfl rfl)
     conv => whnf
     refine ⟨x,⟨.refl _,.refl _,.refl _,.refl _,.refl _,.refl _,.refl _,.refl _,.refl _,.refl _,.refl _,.refl _,.refl _,.refl _,.refl _,trivial⟩,hself x _ _ rfl (fun h => hlook x _ h)⟩
    refine ⟨fun x f hI => ?_,?_⟩
    ·obtain ⟨f,rfl⟩:=off f 11 (hI.no 11 8 rfl rfl)
     conv => whnf
     refine .inl ?_
     conv => whnf
     refine ⟨fun _ => by rw [hpl]; omega,?_⟩
     conv => whnf
     refine ⟨x,⟨.refl _,.refl _,.refl _,.refl _,.refl _,.refl _,.refl _,.refl _,.refl _,.refl _,.refl _,.refl _,DLe.of_eq (congrArg (D.sl .none 1) hdrop),.refl _,.refl _,trivial⟩,hself x _ _ rfl (fun h => hlook x _ h)⟩
    refine ⟨fun x f hI => ?_,?_⟩
    ·obtain ⟨f,rfl⟩:=off f 11 (hI.no 11 9 rfl rfl)
     obtain ⟨f,rfl⟩:=off f 10 (hI.no 10 9 rfl rfl)
     conv => whnf
     refine .inl ?_
     conv => whnf
     refine ⟨by show (_ + _) * 8 ≤ _; simp,by show _ + _ ≤ _; simp,(fun h => by cases h),fun w1 => ?_⟩
     refine ⟨x,⟨.refl _,.refl _,.refl _,.refl _,.refl _,.refl _,.refl _,.refl _,.refl _,.refl _,.refl _,.refl _,.refl _,DLe.unown,.refl _,trivial⟩,hself x _ _ rfl (fun h => by cases h)⟩
    refine ⟨fun x f hI => ?_,?_⟩
    ·obtain ⟨f,rfl⟩:=off f 11 (hI.no 11 10 rfl rfl)
     conv => whnf
     refine .inl ?_
     conv => whnf
     refine ⟨by show (_ + _) * 8 ≤ _; simp [places]; omega,by show _ + _ ≤ _; simp [places]; omega,(fun h => by cases h),fun w2 => ?_⟩
     refine ⟨w2,⟨.refl _,.refl _,.refl _,.refl _,.refl _,.refl _,.refl _,.refl _,.refl _,.refl _,.refl _,.refl _,.refl _,.refl _,DLe.ownEq hsn,trivial⟩,hself w2 _ _ rfl (fun h => ownH (by rw [← hsn]; simp))⟩
    refine ⟨fun x f hI => ?_,?_⟩
    ·conv => whnf
     refine ⟨x,⟨.refl _,.refl _,.refl _,.refl _,.refl _,.refl _,.refl _,.refl _,.refl _,.refl _,.refl _,.refl _,.refl _,.refl _,.refl _,trivial⟩,hself x _ _ rfl (fun h => hlook x _ h)⟩
    exact trivial
   ·intro x f hf
    obtain ⟨f,rfl⟩:=on f 11 (hf 11 (by decide +kernel))
    obtain ⟨f,rfl⟩:=on f 10 (hf 10 (by decide +kernel))
    conv => whnf
    refine Tri.region ti_ok ?_
    conv => whnf
    refine .inl ⟨fun _ => by simp only [InR]; omega,?_⟩
    conv => whnf
    exact ⟨(⟨i + 1,by omega⟩,x),[(1000,46)],by show kids.length - (i + 1) < kids.length - i; omega,⟨.refl _,DLe.ownEq rfl,.refl _,trivial⟩,rfl,rfl,rfl,trivial⟩
 ·refine Tri.exit ?_
  conv => whnf
  refine Tri.seq ?_
  refine Tri.region ti_ok ?_
  have hin : i = kids.length:=by simp at hc; omega
  subst hin
  conv => whnf
  refine Tri.ret ?_
  conv => whnf
  exact DLe.unown
end Go.Tame.V
/- Contracts: the other way of names: Names. By program (mk.py). -/
namespace Go.Tame.V
open Go Go.Proofs
variable {W0 : World}
set_option maxRecDepth 10000
set_option linter.unusedVariables false
set_option linter.unusedSimpArgs false

def pickG (v : Int) (u : List (List UInt8)) (k : NV) : List UInt8:=if v = 0 ∨ v = 1 then pickN v u k else k.name
/-- The names at any view,the last one ahead. -/
def usedG (v : Int) (ks : List NV) : List (List UInt8):=ks.foldl (fun u k => pickG v u k::u) []
def namesG (v : Int) (ks : List NV) : List (List UInt8):=(usedG v ks).reverse
theorem usedG_snoc (v : Int) (ks : List NV) (k : NV) : usedG v (ks ++ [k]) = pickG v (usedG v ks) k::usedG v ks:=by simp [usedG]
theorem usedG_len (v : Int) (ks : List NV) : (usedG v ks).length = ks.length:=by
 refine snoc_rec (p:=fun ks => (usedG v ks).length = ks.length) rfl (fun l x ih => ?_) ks
 rw [usedG_snoc]; simp [ih]
theorem usedG_take {v : Int} {ks : List NV} {t : Nat} (h : t < ks.length) : usedG v (ks.take (t + 1)) = pickG v (usedG v (ks.take t)) ks[t]::usedG v (ks.take t):=by
 rw [List.take_succ_eq_append_getElem h,usedG_snoc]
theorem strs_setG {v : Int} {kids : List NV} {t : Nat} (h : t < kids.length) (z : D) : (strs (usedG v (kids.take t)).reverse ++ List.replicate (kids.length - t) z).set t (.str (pickG v (usedG v (kids.take t)) kids[t])) = strs (usedG v (kids.take (t + 1))).reverse ++ List.replicate (kids.length - (t + 1)) z:=by
 rw [usedG_take h]
 have hl : (strs (usedG v (kids.take t)).reverse).length = t:=by simp [strs,usedG_len]; omega
 rw [List.set_append_right _ _ (by omega),hl,Nat.sub_self,show kids.length - t = (kids.length - (t + 1)) + 1 by omega,List.replicate_succ]
 simp [strs]
def cellsN (n : NV) : List D:=[.str n.name,.int .i64 n.kind,.str n.text,.str n.target,.int .i64 n.n1,.int .i64 n.n2,.int .i64 n.n3,.int .i64 n.n4,.int .i64 n.n5,.int .i64 n.n6,.sl .none 12 (n.kids.map enc),.sl .none 2 (n.streams.map encS)]

theorem F72 (v : Int) (hv : viewOk v = true) (kids : List NV) (h64 : kids.length ≤ 64) (hok : ∀ k ∈ kids,nameOk k.name = true ∧ k.name.length < 1000000000) (hinc : inc kids) : DFun Tryz.prog W0 97 [.int .i64 v,.sl .none 12 (kids.map enc)] (.tup [.sl .none 1 (strs (namesG v kids)),.int .i64 0]):=by
 refine DFun.intro ti_ok Tryz.func97 rfl (by decide +kernel) Tryz.ntmps97 rfl fun Γ => ?_
 refine Tri.seq ?_
 refine Tri.region ti_ok ?_
 conv => whnf
 refine Tri.seq ?_
 refine Tri.seq ?_
 refine Tri.region ti_ok ?_
 conv => whnf
 refine ⟨[.int .i64 v],_,fun _ => F53 v,⟨.refl _,trivial⟩,?_⟩
 conv => whnf
 refine Tri.cond _ rfl (fun hc => ?_) (fun hc => ?_)
 ·refine Tri.seq ?_
  exfalso
  rw [hv] at hc; cases hc
 ·refine Tri.skip ?_
  conv => whnf
  refine Tri.seq ?_
  refine Tri.seq ?_
  refine Tri.region ti_ok ?_
  conv => whnf
  refine Tri.cond _ rfl (fun hc => ?_) (fun hc => ?_)
  ·refine Tri.seq ?_
   exfalso
   simp at hc; omega
  ·refine Tri.skip ?_
   conv => whnf
   refine Tri.seq ?_
   refine Tri.seq ?_
   refine Tri.region ti_ok ?_
   conv => whnf
   refine Tri.block ?_
   refine Tri.loop (α:={ i : Nat // i ≤ kids.length }) (fun x => [(0,.int .i64 v),(1,.sl .none 12 (kids.map enc)),(6,.int .i64 x.1)]) (fun _ => []) (fun x => kids.length - x.1) ⟨0,by omega⟩ ⟨.refl _,.refl _,.refl _,trivial⟩ trivial ?_
   rintro ⟨i,hi⟩
   dsimp only
   refine Tri.seq ?_
   refine Tri.seq ?_
   refine Tri.region ti_ok ?_
   conv => whnf
   refine Tri.cond _ rfl (fun hc => ?_) (fun hc => ?_)
   ·refine Tri.skip ?_
    conv => whnf
    refine Tri.seq ?_
    refine Tri.block ?_
    refine Tri.seq ?_
    refine Tri.region ti_ok ?_
    have hia : i < kids.length:=by simpa using hc
    conv => whnf
    refine ⟨fun _ => by simp; omega,?_⟩
    conv => whnf
    refine ⟨encTop kids[i],fun _ => get_kids hia,?_⟩
    conv => whnf
    refine ⟨[.str kids[i].name],_,fun _ => F94 _ (hok _ (List.getElem_mem hia)).2,⟨.refl _,trivial⟩,?_⟩
    conv => whnf
    refine Tri.cond _ rfl (fun hc => ?_) (fun hc => ?_)
    ·refine Tri.seq ?_
     exfalso
     rw [(hok _ (List.getElem_mem hia)).1] at hc; cases hc
    ·refine Tri.skip ?_
     conv => whnf
     refine Tri.region ti_ok ?_
     conv => whnf
     refine .inl ⟨fun _ => by simp only [InR]; omega,?_⟩
     conv => whnf
     exact ⟨⟨i + 1,by omega⟩,by show kids.length - (i + 1) < kids.length - i; omega,⟨.refl _,.refl _,.refl _,trivial⟩,trivial⟩
   ·refine Tri.exit ?_
    conv => whnf
    refine Tri.seq ?_
    refine Tri.seq ?_
    refine Tri.region ti_ok ?_
    conv => whnf
    refine Tri.block ?_
    refine Tri.loop (α:={ i : Nat // i ≤ kids.length }) (fun x => [(0,.int .i64 v),(1,.sl .none 12 (kids.map enc)),(7,.int .i64 x.1)]) (fun _ => []) (fun x => kids.length - x.1) ⟨0,by omega⟩ ⟨.refl _,.refl _,.refl _,trivial⟩ trivial ?_
    rintro ⟨i,hi⟩
    dsimp only
    refine Tri.seq ?_
    refine Tri.seq ?_
    refine Tri.region ti_ok ?_
    conv => whnf
    refine Tri.cond _ rfl (fun hc => ?_) (fun hc => ?_)
    ·refine Tri.skip ?_
     conv => whnf
     refine Tri.seq ?_
     refine Tri.block ?_
     refine Tri.seq ?_
     refine Tri.region ti_ok ?_
     have hia : i < kids.length:=by simpa using hc
     conv => whnf
     refine Tri.block ?_
     refine Tri.loop (α:={ j : Nat // j ≤ i }) (fun x => [(0,.int .i64 v),(1,.sl .none 12 (kids.map enc)),(7,.int .i64 i),(8,.int .i64 x.1)]) (fun _ => []) (fun x => i - x.1) ⟨0,by omega⟩ ⟨.refl _,.refl _,.refl _,.refl _,trivial⟩ trivial ?_
     rintro ⟨j,hj⟩
     dsimp only
     refine Tri.seq ?_
     refine Tri.seq ?_
     refine Tri.region ti_ok ?_
     conv => whnf
     refine Tri.cond _ rfl (fun hc => ?_) (fun hc => ?_)
     ·refine Tri.skip ?_
      conv => whnf
      refine Tri.seq ?_
      refine Tri.block ?_
      refine Tri.seq ?_
      refine Tri.draw ti_ok mixed (by kernel_rfl) ?_
      have hja : j < i:=by simpa using hc
      conv => whnf
      refine ⟨fun _ => by simp; omega,?_⟩
      conv => whnf
      refine ⟨encTop kids[i],fun _ => get_kids hia,?_⟩
      conv => whnf
      refine ⟨fun _ => by simp; omega,?_⟩
      conv => whnf
      refine ⟨encTop kids[j],fun _ => get_kids (by omega),?_⟩
      conv => whnf
      refine Tri.cond _ rfl (fun hc => ?_) (fun hc => ?_)
      ·refine Tri.seq ?_
       exfalso
       have hne:=bl_ne (inc_get hinc hja hia)
       have : kids[i].name = kids[j].name:=by simpa using hc
       exact hne this.symm
      ·refine Tri.skip ?_
       conv => whnf
       refine Tri.region ti_ok ?_
       conv => whnf
       refine .inl ⟨fun _ => by simp only [InR]; omega,?_⟩
       conv => whnf
       exact ⟨⟨j + 1,by omega⟩,by show i - (j + 1) < i - j; omega,⟨.refl _,.refl _,.refl _,.refl _,trivial⟩,trivial⟩
     ·refine Tri.exit ?_
      conv => whnf
      refine Tri.region ti_ok ?_
      conv => whnf
      refine .inl ⟨fun _ => by simp only [InR]; omega,?_⟩
      conv => whnf
      exact ⟨⟨i + 1,by omega⟩,by show kids.length - (i + 1) < kids.length - i; omega,⟨.refl _,.refl _,.refl _,trivial⟩,trivial⟩
    ·refine Tri.exit ?_
     conv => whnf
     refine Tri.seq ?_
     refine Tri.regionX ti_ok ?_
     conv => whnf
     refine .inr (XOp.makeRow ti_ok (n:=kids.length) (k1:=.i64) (k2:=.i64) (z:=.str []) rfl rfl rfl rfl rfl ?_ ?_ (by show 16 * _ ≤ _; omega) (by omega) fun nv => ?_)
     ·show D.int _ _ = _; simp
     ·show D.int _ _ = _; simp
     conv => whnf
     refine Tri.seq ?_
     refine Tri.region ti_ok ?_
     conv => whnf
     refine ⟨trivial,?_⟩
     conv => whnf
     refine Tri.seq ?_
     refine Tri.region ti_ok ?_
     conv => whnf
     refine ⟨[.sl .none 12 (kids.map enc)],_,fun _ => F95 kids hinc h64,⟨.refl _,trivial⟩,?_⟩
     conv => whnf
     refine Tri.seq ?_
     refine Tri.seq ?_
     refine Tri.region ti_ok ?_
     conv => whnf
     refine Tri.block ?_
     refine Tri.own 10 1000 1 9 rfl (fun w => ?_)
     refine Tri.loopK (α:={ t : Nat // t ≤ kids.length } × Value) (fun x => [(0,.int .i64 v),(1,.sl .none 12 (kids.map enc)),(9,.raw nv),(10,.sl (.own 1000 x.2) 1 (strs (usedG v (kids.take x.1)).reverse)),(11,.sl .none 1 (places kids.length)),(12,.int .i64 x.1.1)])
      (fun x => [(59,.row nv (strs (usedG v (kids.take x.1)).reverse ++ List.replicate (kids.length - x.1) (.str [])) 1 9),(1000,.own x.2 (strs (usedG v (kids.take x.1)).reverse).length 1 9)]) (fun x => kids.length - x.1) (⟨0,by omega⟩,w) [(59,59),(1000,1000)]
      ⟨⟨.refl _,.refl _,.refl _,.refl _,.refl _,.refl _,trivial⟩,rfl,rfl,rfl,rfl,rfl,trivial⟩ ?_
     rintro ⟨⟨t,ht⟩,w⟩
     dsimp only
     refine Tri.seq ?_
     refine Tri.seq ?_
     refine Tri.region ti_ok ?_
     conv => whnf
     refine Tri.cond _ rfl (fun hc => ?_) (fun hc => ?_)
     ·refine Tri.skip ?_
      conv => whnf
      refine Tri.seq ?_
      refine Tri.block ?_
      refine Tri.seq ?_
      refine Tri.region ti_ok ?_
      have hta : t < kids.length:=by simp [places] at hc; omega
      have hnl:=name_len (hok _ (List.getElem_mem hta)).1
      obtain ⟨l,hl,hch,_,_,hl64⟩:=name_chars (hok _ (List.getElem_mem hta)).1
      have hcalled:=fun (hv : v = 0 ∨ v = 1) (k : Nat) (hk : k < 100) => F96 (W0:=W0) v hv kids[t].name l (kids[t].kind == 0) k hk (by omega) hl hch hl64
      have hus:=usedG_take (v:=v) hta
      have hset:=strs_setG (v:=v) hta (.str [])
      have hUl : (usedG v (kids.take t)).length = t:=by rw [usedG_len]; simp; omega
      have hfr:=fresh_ok v (usedG v (kids.take t)) (wantS v kids[t].name (kids[t].kind == 0)).1 (wantS v kids[t].name (kids[t].kind == 0)).2 (by omega)
      have hpk : v = 0 ∨ v = 1 → pickG v (usedG v (kids.take t)) kids[t] = numS v (wantS v kids[t].name (kids[t].kind == 0)).1 (wantS v kids[t].name (kids[t].kind == 0)).2 (freshK v (usedG v (kids.take t)) (wantS v kids[t].name (kids[t].kind == 0)).1 (wantS v kids[t].name (kids[t].kind == 0)).2):=fun h => by rw [pickG,if_pos h]; rfl
      have hpn : ¬ (v = 0 ∨ v = 1) → pickG v (usedG v (kids.take t)) kids[t] = kids[t].name:=fun h => by rw [pickG,if_neg h]
      generalize (wantS v kids[t].name (kids[t].kind == 0)).1 = st at *
      generalize (wantS v kids[t].name (kids[t].kind == 0)).2 = ex at *
      generalize usedG v (kids.take t) = U at *
      generalize hK : freshK v U st ex = K at *
      have hsU : (strs U.reverse).length = t:=by simp [strs,hUl]
      conv => whnf
      refine ⟨fun _ => by simp [places]; omega,?_⟩
      conv => whnf
      refine ⟨.int .i64 (t : Nat),fun _ => by simp [places,hta],?_⟩
      conv => whnf
      refine ⟨fun _ => by simp; omega,?_⟩
      conv => whnf
      refine ⟨encTop kids[t],fun _ => get_kids hta,?_⟩
      conv => whnf
      intro b13
      conv => whnf
      refine ⟨rfl,?_⟩
      conv => whnf
      refine Tri.seq ?_
      refine Tri.region ti_ok ?_
      conv => whnf
      refine ⟨rfl,?_⟩
      conv => whnf
      refine Tri.joinK (α:=Unit) (fun x => [(0,.int .i64 v),(1,.sl .none 12 (kids.map enc)),(9,.raw nv),(10,.sl (.own 1000 w) 1 (strs U.reverse)),(11,.sl .none 1 (places kids.length)),(12,.int .i64 t),(14,.str (pickG v U kids[t]))])
       (fun x => [(59,.row nv (strs U.reverse ++ List.replicate (kids.length - t) (.str [])) 1 9),(1000,.own w (strs U.reverse).length 1 9)]) ?_ ?_
      ·refine Tri.seq ?_
       refine Tri.region ti_ok ?_
       conv => whnf
       refine ⟨fun h => h,?_⟩
       conv => whnf
       refine ⟨fun h0 h => by first | exact h | (rw [h]; rfl) | (rw [h0,h]; rfl),?_⟩
       conv => whnf
       refine Tri.cond _ rfl (fun hc => ?_) (fun hc => ?_)
       ·refine Tri.seq ?_
        refine Tri.region ti_ok ?_
        have hv01 : v = 0 ∨ v = 1:=by rw [bif_or] at hc; simpa using hc
        conv => whnf
        refine Tri.seq ?_
        refine Tri.region ti_ok ?_
        conv => whnf
        refine ⟨rfl,?_⟩
        conv => whnf
        refine ⟨rfl,?_⟩
        conv => whnf
        refine ⟨[.int .i64 v,.str kids[t].name,.bool (kids[t].kind == 0),.int .i64 (0 : Nat)],_,fun _ => hcalled hv01 0 (by omega),⟨.refl _,.refl _,.refl _,.refl _,trivial⟩,?_⟩
        conv => whnf
        refine Tri.block ?_
        refine Tri.loopK (α:={ j : Nat // j ≤ K }) (fun x => [(0,.int .i64 v),(1,.sl .none 12 (kids.map enc)),(9,.raw nv),(10,.sl (.own 1000 w) 1 (strs U.reverse)),(11,.sl .none 1 (places kids.length)),(12,.int .i64 t),(13,.box 13 b13 0),(14,.str (numS v st ex x.1)),(15,.int .i64 (x.1 : Nat))])
         (fun x => [(59,.row nv (strs U.reverse ++ List.replicate (kids.length - t) (.str [])) 1 9),(1000,.own w (strs U.reverse).length 1 9),(13,.box b13 (cellsN kids[t]))]) (fun x => K - x.1) ⟨0,by omega⟩ [(59,59),(1000,1000),(13,13)]
         ⟨⟨.refl _,.refl _,.refl _,.refl _,.refl _,.refl _,.refl _,.refl _,.refl _,trivial⟩,rfl,rfl,rfl,rfl,rfl,rfl,rfl,trivial⟩ ?_
        rintro ⟨j,hj⟩
        dsimp only
        refine Tri.seq ?_
        refine Tri.seq ?_
        refine Tri.region ti_ok ?_
        conv => whnf
        refine ⟨[.sl .none 1 (strs U.reverse),.str (numS v st ex j)],_,fun _ => F97 _ _ (by simp [hUl]; omega),⟨DLe.unown,.refl _,trivial⟩,?_⟩
        conv => whnf
        refine Tri.cond _ rfl (fun hc => ?_) (fun hc => ?_)
        ·refine Tri.skip ?_
         conv => whnf
         refine Tri.block ?_
         refine Tri.seq ?_
         refine Tri.region ti_ok ?_
         have hjU : numS v st ex j ∈ U:=by simpa using hc
         have hjK : j < K:=by
          rcases Nat.lt_or_ge j K with h | h
          ·exact h
          ·have : j = K:=by omega
           subst this; exact absurd hjU hfr.2.1
         conv => whnf
         refine .inl ⟨fun _ => by simp only [InR]; omega,?_⟩
         conv => whnf
         refine Tri.region ti_ok ?_
         conv => whnf
         refine ⟨rfl,?_⟩
         conv => whnf
         refine ⟨rfl,?_⟩
         conv => whnf
         refine ⟨[.int .i64 v,.str kids[t].name,.bool (kids[t].kind == 0),.int .i64 ((j + 1 : Nat) : Int)],_,fun _ => hcalled hv01 (j + 1) (by omega),⟨.refl _,.refl _,.refl _,.refl _,trivial⟩,?_⟩
         conv => whnf
         exact ⟨⟨j + 1,by omega⟩,[(59,59),(1000,1000),(13,13)],by show K - (j + 1) < K - j; omega,⟨.refl _,.refl _,.refl _,.refl _,.refl _,.refl _,.refl _,.refl _,.refl _,trivial⟩,rfl,rfl,rfl,rfl,rfl,rfl,rfl,trivial⟩
        ·refine Tri.exit ?_
         conv => whnf
         have hjU : numS v st ex j ∉ U:=by simpa using hc
         have hjK : j = K:=by
          rcases Nat.lt_or_ge j K with h | h
          ·exact absurd (hfr.2.2 j h) hjU
          ·omega
         exact ⟨(),[(59,59),(1000,1000)],⟨.refl _,.refl _,.refl _,.refl _,.refl _,.refl _,DLe.of_eq (congrArg D.str (by rw [hpk hv01,hjK])),trivial⟩,rfl,rfl,rfl,rfl,rfl,trivial⟩
       ·refine Tri.skip ?_
        conv => whnf
        have hv23 : ¬ (v = 0 ∨ v = 1):=by rw [bif_or] at hc; simpa using hc
        exact ⟨(),[(59,59),(1000,1000)],⟨.refl _,.refl _,.refl _,.refl _,.refl _,.refl _,DLe.of_eq (congrArg D.str (by rw [hpn hv23])),trivial⟩,rfl,rfl,rfl,rfl,rfl,trivial⟩
      ·rintro ⟨⟩
       refine Tri.seq ?_
       refine Tri.region ti_ok ?_
       conv => whnf
       refine ⟨trivial,?_⟩
       conv => whnf
       refine ⟨rfl,rfl,?_⟩
       conv => whnf
       refine ⟨by show (_ + 1) * 16 ≤ _; omega,by show _ + 1 ≤ _; omega,(fun h => by cases h),fun w => ?_⟩
       conv => whnf
       refine Tri.regionX ti_ok ?_
       conv => whnf
       refine .inl ?_
       conv => whnf
       refine ⟨fun _ => by simp [places]; omega,?_⟩
       conv => whnf
       refine .inl ?_
       conv => whnf
       refine ⟨.int .i64 (t : Nat),fun _ => by simp [places,hta],?_⟩
       conv => whnf
       refine .inr (XOp.rowIndex ti_ok 59 rfl rfl rfl rfl rfl rfl rfl (by omega) (by simp [hsU]; omega) ?_)
       conv => whnf
       conv => whnf
       refine .inr (XOp.rowStore ti_ok 59 (i:=t) (by rw [Int.toNat_natCast]; rfl) rfl rfl rfl (by simp [hsU]; omega) rfl ?_)
       conv => whnf
       conv => whnf
       refine Tri.region ti_ok ?_
       conv => whnf
       refine .inl ⟨fun _ => by simp only [InR]; omega,?_⟩
       conv => whnf
       exact ⟨(⟨t + 1,by omega⟩,w),[(59,59),(1000,108)],by show _ - (t + 1) < _ - t; omega,⟨.refl _,.refl _,.refl _,DLe.ownEq (by dsimp only; rw [hus]; simp [strs]; rfl),.refl _,.refl _,trivial⟩,rfl,rfl,congrArg (fun z => some (HObj.row nv z 1 9)) hset,rfl,ownH (by dsimp only; rw [hus]; simp [strs]),trivial⟩
     ·refine Tri.exit ?_
      conv => whnf
      have htn : t = kids.length:=by simp [places] at hc; omega
      have hrow2 : strs (usedG v (kids.take t)).reverse ++ List.replicate (kids.length - t) (D.str []) = strs (namesG v kids):=by
       subst htn; rw [List.take_of_length_le (Nat.le_refl _)]; simp [namesG]
      rw [hrow2]
      refine Tri.forgetK [(9,.raw nv)] [(59,.row nv (strs (namesG v kids)) 1 9)] [(59,59)] ⟨⟨.refl _,trivial⟩,rfl,rfl,rfl,trivial⟩ ?_
      refine Tri.commitSt 59 9 rfl ?_
      refine Tri.seq ?_
      refine Tri.region ti_ok ?_
      conv => whnf
      refine Tri.ret ?_
      conv => whnf
      exact ⟨.refl _,.refl _,trivial⟩
end Go.Tame.V
/- Contracts: the other way of views: shown. By program (mk.py). -/
namespace Go.Tame.V
open Go Go.Proofs
variable {W0 : World}
set_option maxRecDepth 10000
set_option linter.unusedVariables false
set_option linter.unusedSimpArgs false

theorem shown_alt (v : Int) (n : NV) (l : Int) : shown v n l = (if !viewOk v || hiddenAt n.n6 v then false else if (n.kind == 2 && (v == 0 || v == 1)) then false else ((!(v == 0) || !(n.kind == 0)) || decide (l ≤ 8))):=by
 unfold shown
 split
 ·rfl
 ·rename_i h
  have hv : viewOk v = true:=by cases hh : viewOk v with | true => rfl | false => rw [hh] at h; simp at h
  have hv4 : v = 0 ∨ v = 1 ∨ v = 2 ∨ v = 3:=by simp [viewOk] at hv; omega
  have hl : decide (l ≤ 8) = !decide (8 < l):=by rw [← decide_not]; congr 1; simp
  rw [hl]
  generalize decide (8 < l) = b
  by_cases h2 : n.kind = 2
  ·rcases hv4 with rfl | rfl | rfl | rfl <;> cases b <;> simp [h2]
  ·by_cases h0 : n.kind = 0
   ·rcases hv4 with rfl | rfl | rfl | rfl <;> cases b <;> simp [h0]
   ·have e0 : (n.kind == 0) = false:=by simpa using h0
    have e2 : (n.kind == 2) = false:=by simpa using h2
    rw [e0,e2]
    rcases hv4 with rfl | rfl | rfl | rfl <;> cases b <;> rfl
theorem F73 (v : Int) (n : NV) (l : Int) : DFun Tryz.prog W0 114 [.int .i64 v,encTop n,.int .i64 l] (.bool (shown v n l)):=by
 refine DFun.intro ti_ok Tryz.func114 rfl (by decide +kernel) Tryz.ntmps114 rfl fun Γ => ?_
 refine Tri.seq ?_
 refine Tri.region ti_ok ?_
 conv => whnf
 intro b
 conv => whnf
 refine Tri.seq ?_
 refine Tri.seq ?_
 refine Tri.region ti_ok ?_
 conv => whnf
 refine ⟨[.int .i64 v],_,fun _ => F53 v,⟨.refl _,trivial⟩,?_⟩
 conv => whnf
 refine ⟨fun h => h,?_⟩
 conv => whnf
 refine ⟨rfl,?_⟩
 conv => whnf
 refine ⟨fun h => h,?_⟩
 conv => whnf
 refine ⟨fun h => h,?_⟩
 conv => whnf
 refine ⟨fun h => by unfold viewOk at h; simp at h; omega,?_⟩
 conv => whnf
 refine ⟨fun h => h,?_⟩
 conv => whnf
 refine ⟨fun h => h,?_⟩
 conv => whnf
 refine ⟨fun h0 h => by first | exact h | (rw [h]; rfl) | (rw [h0,h]; rfl),?_⟩
 conv => whnf
 refine Tri.cond (!viewOk v || hiddenAt n.n6 v) (by simp only [← bif_or]; rfl) (fun hc => ?_) (fun hc => ?_)
 ·refine Tri.seq ?_
  refine Tri.region ti_ok ?_
  conv => whnf
  refine Tri.ret ?_
  conv => whnf
  exact DLe.of_eq (congrArg D.bool (by rw [shown_alt,if_pos hc]))
 ·refine Tri.skip ?_
  have hc1:=hc
  conv => whnf
  refine Tri.seq ?_
  refine Tri.seq ?_
  refine Tri.region ti_ok ?_
  conv => whnf
  refine ⟨rfl,?_⟩
  conv => whnf
  refine ⟨fun h => h,?_⟩
  conv => whnf
  refine ⟨fun h => h,?_⟩
  conv => whnf
  refine ⟨fun h => h,?_⟩
  conv => whnf
  refine ⟨fun h => h,?_⟩
  conv => whnf
  refine ⟨fun h0 h => by first | exact h | (rw [h]; rfl) | (rw [h0,h]; rfl),?_⟩
  conv => whnf
  refine ⟨fun h0 h => by first | exact h | (rw [h]; rfl) | (rw [h0,h]; rfl),?_⟩
  conv => whnf
  refine Tri.cond (n.kind == 2 && (v == 0 || v == 1)) (by simp only [← bif_and,← bif_or]; rfl) (fun hc => ?_) (fun hc => ?_)
  ·refine Tri.seq ?_
   refine Tri.region ti_ok ?_
   conv => whnf
   refine Tri.ret ?_
   conv => whnf
   exact DLe.of_eq (congrArg D.bool (by rw [shown_alt,if_neg (by rw [hc1]; simp),if_pos hc]))
  ·refine Tri.skip ?_
   conv => whnf
   refine Tri.seq ?_
   refine Tri.region ti_ok ?_
   conv => whnf
   refine ⟨fun h => h,?_⟩
   conv => whnf
   refine ⟨rfl,?_⟩
   conv => whnf
   refine ⟨fun h => h,?_⟩
   conv => whnf
   refine ⟨fun h0 h => by first | exact h | (rw [h]; rfl) | (rw [h0,h]; rfl),?_⟩
   conv => whnf
   refine ⟨fun h => h,?_⟩
   conv => whnf
   refine ⟨fun h0 h => by first | exact h | (rw [h]; rfl) | (rw [h0,h]; rfl),?_⟩
   conv => whnf
   refine Tri.ret ?_
   conv => whnf
   refine DLe.of_eq (congrArg D.bool ?_)
   rw [shown_alt,if_neg (by rw [hc1]; simp),if_neg (by rw [hc]; simp)]
   simp only [← bif_or]
   rfl
end Go.Tame.V
/- Contracts: the other way of views: one node. By program (mk50.py,mk.py). -/
namespace Go.Tame.V
open Go Go.Proofs
variable {W0 : World}
set_option maxRecDepth 10000
set_option linter.unusedVariables false
set_option linter.unusedSimpArgs false

def oneD (v : Int) (n : NV) (m : List UInt8) : D:=.agg [.str m,.int .i64 n.kind,.str n.text,.str n.target,.int .i64 (if keeps v then n.n1 else 0),.int .i64 (if keeps v then n.n2 else 0),.int .i64 (if keeps v then n.n3 else 0),.int .i64 n.n4,.int .i64 0,.int .i64 0,.nils,.sl .none 2 ((if v = 3 then n.streams else []).map encS)]
theorem F71 (v : Int) (n : NV) (m : List UInt8) (hs : n.streams.length < 1000000000) : DFun Tryz.prog W0 113 [.int .i64 v,encTop n,.str m] (oneD v n m):=by
 refine DFun.intro ti_ok Tryz.func113 rfl (by decide +kernel) Tryz.ntmps113 rfl fun Γ => ?_
 refine Tri.seq ?_
 refine Tri.region ti_ok ?_
 conv => whnf
 intro b4
 conv => whnf
 intro b6
 conv => whnf
 refine Tri.seq ?_
 refine Tri.region ti_ok ?_
 conv => whnf
 refine ⟨rfl,?_⟩
 conv => whnf
 refine ⟨rfl,?_⟩
 conv => whnf
 refine ⟨rfl,?_⟩
 conv => whnf
 refine ⟨rfl,?_⟩
 conv => whnf
 intro b7
 conv => whnf
 refine ⟨rfl,?_⟩
 conv => whnf
 have hx : ∀ x : Int,keeps v = true → (if keeps v then x else 0) = x:=fun x h => by rw [if_pos h]
 have hy : ∀ x : Int,keeps v = false → (if keeps v then x else 0) = 0:=fun x h => by rw [if_neg (by rw [h]; simp)]
 have hend : ∀ d : D,DLe d (.sl .none 2 ((if v = 3 then n.streams else []).map encS)) → DLe (.agg [.str m,.int .i64 n.kind,.str n.text,.str n.target,.int .i64 (if keeps v then n.n1 else 0),.int .i64 (if keeps v then n.n2 else 0),.int .i64 (if keeps v then n.n3 else 0),.int .i64 n.n4,.int .i64 0,.int .i64 0,.nils,d]) (oneD v n m):=fun d h =>
  DLe.agg ⟨.refl _,.refl _,.refl _,.refl _,.refl _,.refl _,.refl _,.refl _,.refl _,.refl _,.refl _,h,trivial⟩
 have hx1:=hx n.n1; have hx2:=hx n.n2; have hx3:=hx n.n3; have hy1:=hy n.n1; have hy2:=hy n.n2; have hy3:=hy n.n3
 generalize (if keeps v then n.n1 else 0) = x1 at *
 generalize (if keeps v then n.n2 else 0) = x2 at *
 generalize (if keeps v then n.n3 else 0) = x3 at *
 refine Tri.joinK (α:=Unit) (fun x => [(0,.int .i64 v),(4,.box 4 b4 0),(6,.box 6 b6 0),(7,.box 7 b7 0)]) (fun x => [(4,.box b4 (cellsN n)),(6,.box b6 [.str [],.int .i64 0,.str [],.str [],.int .i64 0,.int .i64 0,.int .i64 0,.int .i64 0,.int .i64 0,.int .i64 0,.nils,.nils]),(7,.box b7 [.str m,.int .i64 n.kind,.str n.text,.str n.target,.int .i64 x1,.int .i64 x2,.int .i64 x3,.int .i64 n.n4,.int .i64 0,.int .i64 0,.nils,.nils])]) ?_ ?_
 ·refine Tri.seq ?_
  refine Tri.region ti_ok ?_
  conv => whnf
  refine ⟨fun h => h,?_⟩
  conv => whnf
  refine ⟨fun h0 h => by first | exact h | (rw [h]; rfl) | (rw [h0,h]; rfl),?_⟩
  conv => whnf
  refine Tri.cond _ rfl (fun hc => ?_) (fun hc => ?_)
  ·have hk : keeps v = true:=by rw [bif_or] at hc; exact hc
   refine Tri.bits ti_ok mixed (fun f => [(0,.int .i64 v),(4,.box 4 b4 0),(6,.box 6 b6 0),(7,.box 7 b7 0),(24,bif f 0 then .box 4 b4 4 else .any),(25,bif f 1 then .int .i64 n.n1 else .any),(26,bif f 2 then .box 4 b4 5 else .any),(27,bif f 3 then .int .i64 n.n2 else .any),(28,bif f 4 then .box 4 b4 6 else .any),(29,bif f 5 then .int .i64 n.n3 else .any),(30,bif f 6 then .box 7 b7 4 else .any),(31,bif f 8 then .box 7 b7 5 else .any),(32,bif f 10 then .box 7 b7 6 else .any)])
    (fun f => [(4,.box b4 (cellsN n)),(6,.box b6 [.str [],.int .i64 0,.str [],.str [],.int .i64 0,.int .i64 0,.int .i64 0,.int .i64 0,.int .i64 0,.int .i64 0,.nils,.nils]),(7,.box b7 [.str m,.int .i64 n.kind,.str n.text,.str n.target,bif f 7 then .int .i64 n.n1 else .int .i64 0,bif f 9 then .int .i64 n.n2 else .int .i64 0,bif f 11 then .int .i64 n.n3 else .int .i64 0,.int .i64 n.n4,.int .i64 0,.int .i64 0,.nils,.nils])]) (by decide +kernel) ?_ ?_ ?_ ?_
   ·exact ⟨.refl _,.refl _,.refl _,.refl _,.any _,.any _,.any _,.any _,.any _,.any _,.any _,.any _,.any _,trivial⟩
   ·exact ⟨rfl,rfl,rfl,trivial⟩
   ·conv => whnf
    refine ⟨fun f => ?_,?_⟩
    ·conv => whnf
     exact ⟨⟨.refl _,.refl _,.refl _,.refl _,.refl _,.refl _,.refl _,.refl _,.refl _,.refl _,.refl _,.refl _,.refl _,trivial⟩,rfl,rfl,rfl,trivial⟩
    refine ⟨fun f => ?_,?_⟩
    ·conv => whnf
     refine ⟨rfl,?_⟩
     conv => whnf
     exact ⟨⟨.refl _,.refl _,.refl _,.refl _,.refl _,.refl _,.refl _,.refl _,.refl _,.refl _,.refl _,.refl _,.refl _,trivial⟩,rfl,rfl,rfl,trivial⟩
    refine ⟨fun f => ?_,?_⟩
    ·conv => whnf
     exact ⟨⟨.refl _,.refl _,.refl _,.refl _,.refl _,.refl _,.refl _,.refl _,.refl _,.refl _,.refl _,.refl _,.refl _,trivial⟩,rfl,rfl,rfl,trivial⟩
    refine ⟨fun f => ?_,?_⟩
    ·conv => whnf
     refine ⟨rfl,?_⟩
     conv => whnf
     exact ⟨⟨.refl _,.refl _,.refl _,.refl _,.refl _,.refl _,.refl _,.refl _,.refl _,.refl _,.refl _,.refl _,.refl _,trivial⟩,rfl,rfl,rfl,trivial⟩
    refine ⟨fun f => ?_,?_⟩
    ·conv => whnf
     exact ⟨⟨.refl _,.refl _,.refl _,.refl _,.refl _,.refl _,.refl _,.refl _,.refl _,.refl _,.refl _,.refl _,.refl _,trivial⟩,rfl,rfl,rfl,trivial⟩
    refine ⟨fun f => ?_,?_⟩
    ·conv => whnf
     refine ⟨rfl,?_⟩
     conv => whnf
     exact ⟨⟨.refl _,.refl _,.refl _,.refl _,.refl _,.refl _,.refl _,.refl _,.refl _,.refl _,.refl _,.refl _,.refl _,trivial⟩,rfl,rfl,rfl,trivial⟩
    refine ⟨fun f => ?_,?_⟩
    ·conv => whnf
     exact ⟨⟨.refl _,.refl _,.refl _,.refl _,.refl _,.refl _,.refl _,.refl _,.refl _,.refl _,.refl _,.refl _,.refl _,trivial⟩,rfl,rfl,rfl,trivial⟩
    refine ⟨fun f => ?_,?_⟩
    ·conv => whnf
     refine ⟨rfl,?_⟩
     conv => whnf
     exact ⟨⟨.refl _,.refl _,.refl _,.refl _,.refl _,.refl _,.refl _,.refl _,.refl _,.refl _,.refl _,.refl _,.refl _,trivial⟩,rfl,rfl,rfl,trivial⟩
    refine ⟨fun f => ?_,?_⟩
    ·conv => whnf
     exact ⟨⟨.refl _,.refl _,.refl _,.refl _,.refl _,.refl _,.refl _,.refl _,.refl _,.refl _,.refl _,.refl _,.refl _,trivial⟩,rfl,rfl,rfl,trivial⟩
    refine ⟨fun f => ?_,?_⟩
    ·conv => whnf
     refine ⟨rfl,?_⟩
     conv => whnf
     exact ⟨⟨.refl _,.refl _,.refl _,.refl _,.refl _,.refl _,.refl _,.refl _,.refl _,.refl _,.refl _,.refl _,.refl _,trivial⟩,rfl,rfl,rfl,trivial⟩
    refine ⟨fun f => ?_,?_⟩
    ·conv => whnf
     exact ⟨⟨.refl _,.refl _,.refl _,.refl _,.refl _,.refl _,.refl _,.refl _,.refl _,.refl _,.refl _,.refl _,.refl _,trivial⟩,rfl,rfl,rfl,trivial⟩
    refine ⟨fun f => ?_,?_⟩
    ·conv => whnf
     refine ⟨rfl,?_⟩
     conv => whnf
     exact ⟨⟨.refl _,.refl _,.refl _,.refl _,.refl _,.refl _,.refl _,.refl _,.refl _,.refl _,.refl _,.refl _,.refl _,trivial⟩,rfl,rfl,rfl,trivial⟩
    exact trivial
   ·intro f hf
    have e7:=hf 7 (by decide +kernel)
    have e9:=hf 9 (by decide +kernel)
    have e11:=hf 11 (by decide +kernel)
    refine ⟨(),[(4,4),(6,6),(7,7)],⟨.refl _,.refl _,.refl _,.refl _,trivial⟩,rfl,rfl,rfl,rfl,rfl,rfl,?_,trivial⟩
    show some (HObj.box b7 _) = some (HObj.box b7 _)
    rw [e7,e9,e11,hx1 hk,hx2 hk,hx3 hk]
    rfl
  ·refine Tri.skip ?_
   conv => whnf
   have hk : keeps v = false:=by rw [bif_or] at hc; exact hc
   rw [hy1 hk,hy2 hk,hy3 hk]
   exact ⟨(),[(4,4),(6,6),(7,7)],⟨.refl _,.refl _,.refl _,.refl _,trivial⟩,rfl,rfl,rfl,rfl,rfl,rfl,rfl,trivial⟩
 ·rintro ⟨⟩
  refine Tri.seq ?_
  refine Tri.seq ?_
  refine Tri.region ti_ok ?_
  conv => whnf
  refine Tri.cond _ rfl (fun hc => ?_) (fun hc => ?_)
  ·refine Tri.region ti_ok ?_
   conv => whnf
   refine ⟨trivial,?_⟩
   conv => whnf
   refine ⟨rfl,?_⟩
   conv => whnf
   refine ⟨by show (_ + _) * _ ≤ _; simp; omega,by show _ + _ ≤ _; simp; omega,(fun h => by cases h),fun w => ?_⟩
   conv => whnf
   refine ⟨rfl,?_⟩
   conv => whnf
   refine Tri.seq ?_
   refine Tri.region ti_ok ?_
   conv => whnf
   refine ⟨rfl,?_⟩
   conv => whnf
   refine ⟨rfl,?_⟩
   conv => whnf
   refine Tri.ret ?_
   conv => whnf
   have h3 : v = 3:=by simpa using hc
   refine ⟨rfl,?_⟩
   conv => whnf
   refine hend _ ?_
   rw [if_pos h3]; exact DLe.unown
  ·refine Tri.skip ?_
   conv => whnf
   refine Tri.seq ?_
   refine Tri.region ti_ok ?_
   conv => whnf
   refine ⟨rfl,?_⟩
   conv => whnf
   refine ⟨rfl,?_⟩
   conv => whnf
   refine Tri.ret ?_
   conv => whnf
   have h3 : ¬ v = 3:=by simpa using hc
   refine ⟨rfl,?_⟩
   conv => whnf
   refine hend _ ?_
   rw [if_neg h3]; exact DLe.nil
end Go.Tame.V
/- Insertion,in the order of names. Plain. -/
namespace Go.Tame.V
open Go Go.Proofs
set_option maxRecDepth 10000
set_option linter.unusedVariables false
set_option linter.unusedSimpArgs false
variable {α : Type} (key : α → List UInt8)

/-- Where x goes among the first p of out,looked for from behind. -/
def posN (out : List α) (x : α) : Nat → Nat
 | 0 => 0
 | p + 1 => match out[p]? with
  | some y => if Op.bytesLess (key x) (key y) then posN out x p else p + 1
  | none => posN out x p
def insS (out : List α) (x : α) : List α:=out.take (posN key out x out.length) ++ x::out.drop (posN key out x out.length)
def isort (l : List α) : List α:=l.foldl (insS key) []
theorem posN_le (out : List α) (x : α) : ∀ p,posN key out x p ≤ p
 | 0 => Nat.le_refl _
 | p + 1 => by
  have:=posN_le out x p
  simp only [posN]
  split
  ·split <;> omega
  ·omega
def LeK (a b : α) : Prop:=Op.bytesLess (key b) (key a) = false
theorem le_tr {a b c : List UInt8} (h1 : Op.bytesLess b a = false) (h2 : Op.bytesLess c b = false) : Op.bytesLess c a = false:=by
 cases h : Op.bytesLess c a with
 | false => rfl
 | true =>
  cases h3 : Op.bytesLess a b with
  | false => rw [bl_total _ _ h3 h1] at h; rw [h] at h2; cases h2
  | true => rw [bl_trans _ _ _ h h3] at h2; cases h2
theorem posN_spec {out : List α} {x : α} (hs : out.Pairwise (LeK key)) :
  ∀ p,(hp : p ≤ out.length) → (∀ j,j < posN key out x p → (hj : j < out.length) → LeK key out[j] x) ∧ ∀ j,posN key out x p ≤ j → (hj : j < p) → LeK key x (out[j]'(by omega))
 | 0,_ => ⟨fun j h hj => by simp [posN] at h,fun j h hj => by omega⟩
 | p + 1,hp => by
  have ih:=posN_spec (x:=x) hs p (by omega)
  have hget : out[p]? = some (out[p]'(by omega)):=List.getElem?_eq_getElem (by omega)
  by_cases hb : Op.bytesLess (key x) (key (out[p]'(by omega))) = true
  ·have e : posN key out x (p + 1) = posN key out x p:=by simp only [posN,hget,hb,if_true]
   refine ⟨fun j hj hl => ih.1 j (by omega) hl,fun j h1 h2 => ?_⟩
   by_cases hj : j < p
   ·exact ih.2 j (by omega) hj
   ·have : j = p:=by omega
    subst this
    exact bl_asymm hb
  ·have e : posN key out x (p + 1) = p + 1:=by simp only [posN,hget]; rw [if_neg hb]
   refine ⟨fun j hj hl => ?_,fun j h1 h2 => by omega⟩
   have hpx : LeK key (out[p]'(by omega)) x:=by simpa [LeK] using hb
   by_cases hj' : j < p
   ·have:=List.pairwise_iff_getElem.1 hs j p (by omega) (by omega) hj'
    exact le_tr this hpx
   ·have : j = p:=by omega
    subst this; exact hpx
theorem insS_perm (out : List α) (x : α) : (insS key out x).Perm (x::out):=by
 unfold insS
 have h:=List.perm_middle (a:=x) (l₁:=out.take (posN key out x out.length)) (l₂:=out.drop (posN key out x out.length))
 rwa [List.take_append_drop] at h
theorem insS_sorted {out : List α} {x : α} (hs : out.Pairwise (LeK key)) : (insS key out x).Pairwise (LeK key):=by
 obtain ⟨h1,h2⟩:=posN_spec key (x:=x) hs out.length (Nat.le_refl _)
 have hle:=posN_le key out x out.length
 unfold insS
 generalize posN key out x out.length = p at *
 have ha : ∀ a ∈ out.take p,LeK key a x:=fun a ha => by
  obtain ⟨j,hj,rfl⟩:=List.mem_iff_getElem.1 ha
  rw [List.getElem_take]
  exact h1 j (by simp at hj; omega) (by simp at hj; omega)
 have hb : ∀ b ∈ out.drop p,LeK key x b:=fun b hb => by
  obtain ⟨j,hj,rfl⟩:=List.mem_iff_getElem.1 hb
  rw [List.getElem_drop]
  exact h2 (p + j) (by omega) (by simp at hj; omega)
 have hs':=hs
 rw [← List.take_append_drop p out,List.pairwise_append] at hs'
 rw [List.pairwise_append,List.pairwise_cons]
 refine ⟨hs'.1,⟨hb,hs'.2.1⟩,fun a h b h' => ?_⟩
 rcases List.mem_cons.1 h' with rfl | h'
 ·exact ha a h
 ·exact hs'.2.2 a h b h'
theorem isort_snoc (l : List α) (x : α) : isort key (l ++ [x]) = insS key (isort key l) x:=by simp [isort]
theorem isort_spec (l : List α) : (isort key l).Perm l ∧ (isort key l).Pairwise (LeK key):=by
 refine snoc_rec (p:=fun l => (isort key l).Perm l ∧ (isort key l).Pairwise (LeK key)) ⟨.refl _,List.Pairwise.nil⟩ (fun l x ih => ?_) l
 rw [isort_snoc]
 refine ⟨(insS_perm key _ x).trans ?_,insS_sorted key ih.2⟩
 exact (List.Perm.cons x ih.1).trans (List.perm_append_comm (l₁:=[x]) (l₂:=l))
theorem isort_len (l : List α) : (isort key l).length = l.length:=by
 refine snoc_rec (p:=fun l => (isort key l).length = l.length) rfl (fun l x ih => ?_) l
 rw [isort_snoc,(insS_perm key _ x).length_eq]; simp [ih]
end Go.Tame.V
/- The sorted tree. Plain. -/
namespace Go.Tame.V
open Go Go.Proofs
set_option maxRecDepth 10000
set_option linter.unusedVariables false

mutual
def srtT : NV → NV
 | .mk a b c t e f g h i j ks ss => .mk a b c t e f g h i j (isort NV.name (srtTL ks)) (isort SV.name ss)
def srtTL : List NV → List NV
 | [] => []
 | k::r => srtT k::srtTL r
end
theorem srtTL_map : ∀ l : List NV,srtTL l = l.map srtT
 | [] => rfl
 | k::r => by simp only [srtTL,List.map_cons,srtTL_map r]
theorem srtT_eq (n : NV) : srtT n = ⟨n.name,n.kind,n.text,n.target,n.n1,n.n2,n.n3,n.n4,n.n5,n.n6,isort NV.name (n.kids.map srtT),isort SV.name n.streams⟩:=by
 cases n; simp only [srtT,srtTL_map]
theorem srtT_named (n : NV) (m : List UInt8) : srtT (n.named m) = (srtT n).named m:=by simp only [srtT_eq,NV.named]

theorem isort_id {α : Type} (key : α → List UInt8) (l : List α) : l.Pairwise (fun a b => Op.bytesLess (key a) (key b) = true) → isort key l = l:=by
 refine snoc_rec (p:=fun l => l.Pairwise (fun a b => Op.bytesLess (key a) (key b) = true) → isort key l = l) (fun _ => rfl) (fun l x ih h => ?_) l
 rw [List.pairwise_append] at h
 rw [isort_snoc,ih h.1]
 have hp : posN key l x l.length = l.length:=by
  cases hl : l.length with
  | zero => rfl
  | succ p =>
   have hg : l[p]? = some (l[p]'(by omega)):=List.getElem?_eq_getElem (by omega)
   simp only [posN,hg]
   rw [if_neg]
   have:=h.2.2 _ (List.getElem_mem (by omega : p < l.length)) x (by simp)
   rw [bl_asymm this]; simp
 rw [insS,hp]; simp

theorem isort_sortN {l : List NV} (h : (l.map NV.name).Nodup) : isort NV.name l = sortN l :=
 sorted_nodes (sortN_inc h) ((isort_spec NV.name l).1.trans (sortN_perm l).symm) fun i j hi hj hij => List.pairwise_iff_getElem.1 (isort_spec NV.name l).2 i j hi hj hij

mutual
/-- The streams of all nodes rise. -/
def okS : NV → Prop
 | .mk _ _ _ _ _ _ _ _ _ _ ks ss => ss.Pairwise (fun a b => Op.bytesLess a.name b.name = true) ∧ okSL ks
def okSL : List NV → Prop
 | [] => True
 | k::r => okS k ∧ okSL r
end
theorem okS_eq (n : NV) : okS n ↔ n.streams.Pairwise (fun a b => Op.bytesLess a.name b.name = true) ∧ okSL n.kids:=by cases n; simp only [okS]
theorem okSL_get : ∀ {l : List NV} (_ : okSL l) {k : NV} (_ : k ∈ l),okS k
 | x::r,h,k,hk => by
  simp only [okSL] at h
  rcases List.mem_cons.1 hk with rfl | hk
  ·exact h.1
  ·exact okSL_get h.2 hk

def NamesNd (nm : List NV → List (List UInt8)) : Prop:=∀ ks : List NV,ks.length ≤ 64 → inc ks → (∀ k ∈ ks,nameOk k.name = true ∧ k.name.length < 1000000000) → (nm ks).Nodup

theorem showGL_nd (nm : List NV → List (List UInt8)) (v : Int) (hn : NamesNd nm) {ks : List NV} (d : Int) (h64 : ks.length ≤ 64) (hinc : inc ks) (hok : okL ks) : ((showGL nm v d ks (nm ks)).map NV.name).Nodup :=
 (showGL_names nm v d ks (nm ks)).nodup (hn ks h64 hinc fun k hk => (okL_get hok hk).1)
mutual
theorem srtT_show (nm : List NV → List (List UInt8)) (v : Int) (hn : NamesNd nm) : ∀ (n : NV) (d : Int),okT n → okS n → srtT (showG nm v d n) = showG nm v d n
 | .mk a b c t e f g h i j ks ss,d,h1,h2 => by
  simp only [okT] at h1
  simp only [okS] at h2
  have ih:=srtTL_show nm v hn ks (nm ks) (d + 1) h1.2.2.2 h2.2
  have hnd:=showGL_nd nm v hn (d + 1) h1.1 h1.2.2.1 h1.2.2.2
  have hs:=sortN_perm (showGL nm v (d + 1) ks (nm ks))
  have e1 : (sortN (showGL nm v (d + 1) ks (nm ks))).map srtT = sortN (showGL nm v (d + 1) ks (nm ks)) :=
   (List.map_congr_left fun x hx => ih x (hs.subset hx)).trans (List.map_id' _)
  have e2 : isort SV.name (if v = 3 then ss else []) = if v = 3 then ss else []:=by
   split
   ·exact isort_id _ _ h2.1
   ·rfl
  simp only [showG,srtT,srtTL_map]
  rw [e1,isort_id NV.name _ (List.pairwise_iff_getElem.2 fun i j hi hj hij => inc_get (sortN_inc hnd) hij hj),e2]
theorem srtTL_show (nm : List NV → List (List UInt8)) (v : Int) (hn : NamesNd nm) : ∀ (l : List NV) (ms : List (List UInt8)) (d : Int),okL l → okSL l → ∀ x ∈ showGL nm v d l ms,srtT x = x
 | [],ms,d,_,_ => by simp [showGL]
 | k::r,[],d,_,_ => by simp [showGL]
 | k::r,m::ms,d,h1,h2 => by
  simp only [okL] at h1
  simp only [okSL] at h2
  intro x hx
  have ih:=srtTL_show nm v hn r ms d h1.2 h2.2
  simp only [showGL] at hx
  split at hx
  ·rcases List.mem_cons.1 hx with rfl | hx
   ·rw [srtT_named,srtT_show nm v hn k d h1.1.2 h2.1]
   ·exact ih x hx
  ·exact ih x hx
end
/-- The node that is built,sorted. -/
theorem srtT_out (nm : List NV → List (List UInt8)) (v : Int) (hn : NamesNd nm) (n : NV) (d : Int) (m : List UInt8) (h1 : okT n) (h2 : okS n) :
  srtT ⟨m,n.kind,n.text,n.target,if keeps v then n.n1 else 0,if keeps v then n.n2 else 0,if keeps v then n.n3 else 0,n.n4,0,0,showGL nm v (d + 1) n.kids (nm n.kids),if v = 3 then n.streams else []⟩ = (showG nm v d n).named m:=by
 obtain ⟨h64,hsn,hinc,hokl⟩:=(okT_eq n).1 h1
 obtain ⟨hs1,hs2⟩:=(okS_eq n).1 h2
 have hnd:=showGL_nd nm v hn (d + 1) h64 hinc hokl
 have ih:=srtTL_show nm v hn n.kids (nm n.kids) (d + 1) hokl hs2
 have e1 : (showGL nm v (d + 1) n.kids (nm n.kids)).map srtT = showGL nm v (d + 1) n.kids (nm n.kids) :=
  (List.map_congr_left fun x hx => ih x hx).trans (List.map_id' _)
 have e2 : isort SV.name (if v = 3 then n.streams else []) = if v = 3 then n.streams else []:=by
  split
  ·exact isort_id _ _ hs1
  ·rfl
 rw [srtT_eq,showG_eq]
 simp only [NV.named]
 rw [e1,isort_sortN hnd,e2]

mutual
theorem good_okS : ∀ (n : NV) (l : Int),goodB n l = true → okS n
 | .mk a b c d e f g h i j ks ss,l,hg => by
  obtain ⟨h1,h2⟩:=goodB_good hg
  simp only [okS]
  have hs : ∀ i,i + 1 < ss.length → Op.bytesLess (ss.getD i default).name (ss.getD (i + 1) default).name = true:=fun i hi => by
   have h3:=(h1.streams (i + 1) (by simpa using hi)).2
   simp only [fS,stAt,Nat.add_sub_cancel,ordE] at h3
   rw [if_pos (Nat.succ_pos i)] at h3
   split at h3
   ·by_cases h4 : (ss.getD i default).name = (ss.getD (i + 1) default).name
    ·rw [if_pos h4] at h3; cases h3
    ·rw [if_neg h4] at h3
     by_cases h5 : Op.bytesLess (ss.getD (i + 1) default).name (ss.getD i default).name = true
     ·rw [if_pos h5] at h3; cases h3
     ·cases h6 : Op.bytesLess (ss.getD i default).name (ss.getD (i + 1) default).name with
      | true => rfl
      | false => exact absurd (bl_total _ _ h6 (by simpa using h5)) h4
   ·cases h3
  have hlt : ∀ (j i : Nat),i < j → j < ss.length → Op.bytesLess (ss.getD i default).name (ss.getD j default).name = true:=by
   intro j
   induction j with
   | zero => intro i h; omega
   | succ j ih =>
    intro i hij hj
    by_cases e : i = j
    ·subst e; exact hs i hj
    ·exact bl_trans _ _ _ (ih i (by omega) (by omega)) (hs j hj)
  refine ⟨List.pairwise_iff_getElem.2 fun i j hi hj hij => ?_,good_okSL ks (l + 1) h2⟩
  have:=hlt j i hij hj
  simpa [List.getD,hi,hj] using this
theorem good_okSL : ∀ (ks : List NV) (l : Int),goodL ks l = true → okSL ks
 | [],l,hg => trivial
 | k::r,l,hg => by
  simp only [goodL,Bool.and_eq_true] at hg
  simp only [okSL]
  exact ⟨good_okS k l hg.1,good_okSL r l hg.2⟩
end
theorem valid_okS {n : NV} (h : valid n = true) : okS n:=by
 rw [valid_good,Bool.and_eq_true] at h
 exact good_okS n 1 h.2
end Go.Tame.V
/- Contracts: the other way of trees: Sort. By program (mk53.py,mk.py). -/
namespace Go.Tame.V
open Go Go.Proofs
variable {W0 : World}
set_option maxRecDepth 10000
set_option linter.unusedVariables false
set_option linter.unusedSimpArgs false

mutual
/-- Few kids,and few streams,everywhere. -/
def okZ : NV → Prop
 | .mk _ _ _ _ _ _ _ _ _ _ ks ss => ks.length ≤ 64 ∧ ss.length < 1000000000 ∧ okZL ks
def okZL : List NV → Prop
 | [] => True
 | k::r => okZ k ∧ okZL r
end
theorem okZ_eq (n : NV) : okZ n ↔ n.kids.length ≤ 64 ∧ n.streams.length < 1000000000 ∧ okZL n.kids:=by cases n; simp only [okZ]
theorem okZL_mem : ∀ {l : List NV},okZL l ↔ ∀ k ∈ l,okZ k
 | [] => by simp [okZL]
 | x::r => by simp only [okZL,okZL_mem (l:=r),List.forall_mem_cons]
theorem posN_first {α : Type} {key : α → List UInt8} {out : List α} {x : α} {p : Nat} (h : p < out.length) (hb : Op.bytesLess (key x) (key out[p]) = true) : posN key out x (p + 1) = posN key out x p:=by
 simp only [posN,List.getElem?_eq_getElem h,hb,if_true]
theorem posN_stop {α : Type} {key : α → List UInt8} {out : List α} {x : α} {p : Nat} (h : p < out.length) (hb : Op.bytesLess (key x) (key out[p]) = false) : posN key out x (p + 1) = p + 1:=by
 simp only [posN,List.getElem?_eq_getElem h]; rw [if_neg (by rw [hb]; simp)]
theorem insS_split {α : Type} {key : α → List UInt8} {out : List α} {x : α} {p : Nat} (h : posN key out x out.length = p) : insS key out x = out.take p ++ x::out.drop p:=by subst h; rfl
theorem isort_take {α β : Type} {key : α → List UInt8} {f : β → α} {l : List β} {i : Nat} (h : i < l.length) : isort key ((l.take (i + 1)).map f) = insS key (isort key ((l.take i).map f)) (f l[i]):=by
 rw [List.take_succ_eq_append_getElem h,List.map_append,List.map_cons,List.map_nil,isort_snoc]

theorem F74 : ∀ (N : Nat) (n : NV),sz n < N → okZ n → DFun Tryz.prog W0 115 [encTop n] (encTop (srtT n)):=by
 refine fun N => Nat.rec (fun n h => absurd h (Nat.not_lt_zero _)) (fun N ih n hN hok => ?_) N
 obtain ⟨h64,hsn,hokl⟩:=(okZ_eq n).1 hok
 rw [okZL_mem] at hokl
 refine DFun.intro ti_ok Tryz.func115 rfl (by decide +kernel) Tryz.ntmps115 rfl fun Γ => ?_
 refine Tri.seq ?_
 refine Tri.region ti_ok ?_
 conv => whnf
 intro b1
 conv => whnf
 intro b2
 conv => whnf
 refine Tri.seq ?_
 refine Tri.region ti_ok ?_
 conv => whnf
 refine ⟨trivial,?_⟩
 conv => whnf
 refine Tri.seq ?_
 refine Tri.seq ?_
 refine Tri.region ti_ok ?_
 conv => whnf
 refine Tri.block ?_
 refine Tri.loopK (α:={ i : Nat // i ≤ n.kids.length }) (fun y => [(1,.box 1 b1 0),(2,.box 2 b2 0),(3,.sl .none 12 ((isort NV.name ((n.kids.take y.1).map srtT)).map encTop)),(4,.int .i64 y.1)]) (fun _ => [(1,.box b1 (cellsN n)),(2,.box b2 [.str [],.int .i64 0,.str [],.str [],.int .i64 0,.int .i64 0,.int .i64 0,.int .i64 0,.int .i64 0,.int .i64 0,.nils,.nils])]) (fun y => n.kids.length - y.1) ⟨0,Nat.zero_le _⟩ [(1,1),(2,2)]
  ⟨⟨.refl _,.refl _,DLe.full,.refl _,trivial⟩,rfl,rfl,rfl,rfl,rfl,trivial⟩ ?_
 rintro ⟨i,hi⟩
 dsimp only at hi ⊢
 refine Tri.seq ?_
 refine Tri.seq ?_
 refine Tri.region ti_ok ?_
 conv => whnf
 refine ⟨rfl,?_⟩
 conv => whnf
 refine Tri.cond _ rfl (fun hc => ?_) (fun hc => ?_)
 ·refine Tri.skip ?_
  conv => whnf
  have hia : i < n.kids.length:=by simpa using hc
  have hkz:=kid_sz hia
  have hOl : (isort NV.name ((n.kids.take i).map srtT)).length = i:=by rw [isort_len]; simp; omega
  have hst:=isort_take (key:=NV.name) (f:=srtT) hia
  generalize hOO : isort NV.name ((n.kids.take i).map srtT) = O at *
  refine Tri.seq ?_
  refine Tri.block ?_
  refine Tri.seq ?_
  refine Tri.region ti_ok ?_
  conv => whnf
  refine ⟨rfl,?_⟩
  conv => whnf
  refine ⟨fun _ => by simp; omega,?_⟩
  conv => whnf
  refine ⟨encTop n.kids[i],fun _ => get_kids hia,?_⟩
  conv => whnf
  refine ⟨[encTop n.kids[i]],_,fun _ => ih n.kids[i] (by omega) (hokl _ (List.getElem_mem hia)),⟨.refl _,trivial⟩,?_⟩
  conv => whnf
  generalize hxx : srtT n.kids[i] = x at *
  intro b5
  conv => whnf
  refine ⟨rfl,?_⟩
  conv => whnf
  refine Tri.seq ?_
  refine Tri.region ti_ok ?_
  conv => whnf
  refine Tri.seq ?_
  refine Tri.block ?_
  refine Tri.loopK (α:={ p : Nat // p ≤ i ∧ posN NV.name O x O.length = posN NV.name O x p }) (fun y => [(1,.box 1 b1 0),(2,.box 2 b2 0),(3,.sl .none 12 (O.map encTop)),(4,.int .i64 i),(5,.box 5 b5 0),(6,.int .i64 y.1)]) (fun _ => [(1,.box b1 (cellsN n)),(2,.box b2 [.str [],.int .i64 0,.str [],.str [],.int .i64 0,.int .i64 0,.int .i64 0,.int .i64 0,.int .i64 0,.int .i64 0,.nils,.nils]),(5,.box b5 (cellsN x))]) (fun y => y.1) ⟨i,Nat.le_refl _,by rw [hOl]⟩ [(1,1),(2,2),(5,5)]
   ⟨⟨.refl _,.refl _,.refl _,.refl _,.refl _,DLe.of_eq (congrArg (D.int .i64) (by simp [hOl])),trivial⟩,rfl,rfl,rfl,rfl,rfl,rfl,rfl,trivial⟩ ?_
  rintro ⟨p,hp,hpos⟩
  dsimp only at hp hpos ⊢
  have hgo : ∀ j,(h : j < O.length) → (O.map encTop)[j]? = some (encTop O[j]):=fun j h => by simp [h]
  refine Tri.seq ?_
  refine Tri.seq ?_
  refine Tri.draw ti_ok mixed (by kernel_rfl) ?_
  conv => whnf
  refine ⟨fun h => h,?_⟩
  conv => whnf
  refine .inl ⟨fun h => by simp only [InR]; omega,?_⟩
  conv => whnf
  refine ⟨fun h => h,?_⟩
  conv => whnf
  refine ⟨fun h => h,?_⟩
  conv => whnf
  refine ⟨fun h => by simp at h; simp; omega,?_⟩
  conv => whnf
  refine ⟨fun h => h,?_⟩
  conv => whnf
  refine ⟨fun h => h,?_⟩
  conv => whnf
  refine ⟨encTop (O.getD (p - 1) default),fun h => by
   have h0 : 0 < p:=by simpa using h
   rw [pred_toNat h0,hgo (p - 1) (by omega)]; simp [List.getD,show p - 1 < O.length by omega],?_⟩
  conv => whnf
  refine ⟨fun h => h,?_⟩
  conv => whnf
  refine ⟨rfl,?_⟩
  conv => whnf
  refine ⟨fun h => h,?_⟩
  conv => whnf
  refine ⟨fun h => h,?_⟩
  conv => whnf
  refine ⟨fun h0 h => by first | exact h | (rw [h]; rfl) | (rw [h0,h]; rfl),?_⟩
  conv => whnf
  refine Tri.cond _ rfl (fun hc => ?_) (fun hc => ?_)
  ·have h0 : 0 < p:=by
    cases h0 : decide ((0 : Int) < p) with
    | false => rw [h0] at hc; cases hc
    | true => simpa using h0
   have hb : Op.bytesLess x.name (O[p - 1]'(by omega)).name = true:=by
    have h1 : decide ((0 : Int) < p) = true:=by simpa using h0
    rw [h1] at hc
    have e : O.getD (p - 1) default = O[p - 1]'(by omega):=by simp [List.getD,show p - 1 < O.length by omega]
    rw [e] at hc
    have hc2 : (!(Op.bytesLess (O[p - 1]'(by omega)).name x.name || (O[p - 1]'(by omega)).name == x.name)) = true:=hc
    simp only [Bool.not_eq_true',Bool.or_eq_false_iff,beq_eq_false_iff_ne] at hc2
    cases h3 : Op.bytesLess x.name (O[p - 1]'(by omega)).name with
    | true => rfl
    | false => exact absurd (bl_total _ _ hc2.1 h3) hc2.2
   refine Tri.skip ?_
   conv => whnf
   refine Tri.block ?_
   refine Tri.region ti_ok ?_
   conv => whnf
   refine .inl ⟨fun _ => by simp only [InR]; omega,?_⟩
   conv => whnf
   exact ⟨⟨p - 1,by omega,by
    have:=posN_first (key:=NV.name) (x:=x) (p:=p - 1) (by omega) hb
    rw [show p - 1 + 1 = p by omega] at this
    rw [hpos,this]⟩,[(1,1),(2,2),(5,5)],by show p - 1 < p; omega,⟨.refl _,.refl _,.refl _,.refl _,.refl _,DLe.of_eq (congrArg (D.int .i64) (by show (p : Int) - 1 = ((p - 1 : Nat) : Int); omega)),trivial⟩,rfl,rfl,rfl,rfl,rfl,rfl,rfl,trivial⟩
  ·refine Tri.exit ?_
   conv => whnf
   have hps : posN NV.name O x O.length = p:=by
    rw [hpos]
    cases p with
    | zero => rfl
    | succ p =>
     have hpl : p < O.length:=by omega
     have h1 : decide ((0 : Int) < (p + 1 : Nat)) = true:=by simp
     rw [h1] at hc
     have e : O.getD (p + 1 - 1) default = O[p]:=by simp [List.getD,hpl]
     rw [e] at hc
     have hc2 : (!(Op.bytesLess O[p].name x.name || O[p].name == x.name)) = false:=hc
     refine posN_stop hpl ?_
     cases h3 : Op.bytesLess x.name O[p].name with
     | false => rfl
     | true => rw [bl_asymm h3,beq_eq_false_iff_ne.2 (bl_ne h3).symm] at hc2; simp at hc2
   have hins:=insS_split hps
   have hT : (List.take ((p : Nat) : Int).toNat (O.map encTop)).drop (Int.toNat 0) = (O.take p).map encTop:=by simp
   have hD : (List.take (((O.map encTop).length : Nat) : Int).toNat (O.map encTop)).drop ((p : Nat) : Int).toNat = (O.drop p).map encTop:=by rw [List.take_of_length_le (by simp)]; simp
   have hN : ∀ w : Value,DLe (.sl (.own 51 w) 12 ((O.take p).map encTop ++ ([encTop x] ++ (O.drop p).map encTop))) (.sl .none 12 ((insS NV.name O x).map encTop)):=fun w => by
    rw [hins]; simp only [List.map_append,List.map_cons,List.singleton_append]; exact DLe.unown
   refine Tri.bitsI ti_ok mixed (α:=Unit) (fun _ f => [(1,.box 1 b1 0),(2,.box 2 b2 0),(4,.int .i64 i),(5,.box 5 b5 0),(6,.int .i64 p),(3,bif f 11 then .sl .none 12 ((insS NV.name O x).map encTop) else .sl .none 12 (O.map encTop)),(41,bif f 0 then .sl .none 12 (O.map encTop) else .any),(42,bif f 1 then .int .i64 p else .any),(43,bif f 2 then .int .i64 p else .any),(44,bif f 3 then .sl .full 12 ((O.take p).map encTop) else .any),(45,bif f 4 then encTop x else .any),(46,bif f 5 then .sl .full 12 [encTop x] else .any),(47,bif f 6 then .sl .none 12 (O.map encTop) else .any),(48,bif f 7 then .int .i64 p else .any),(49,bif f 8 then .sl .none 12 ((O.drop p).map encTop) else .any),(50,bif f 9 then .sl .none 12 ([encTop x] ++ (O.drop p).map encTop) else .any),(51,bif f 10 then .sl .none 12 ((insS NV.name O x).map encTop) else .any)])
    (fun _ f => [(1,.box b1 (cellsN n)),(2,.box b2 [.str [],.int .i64 0,.str [],.str [],.int .i64 0,.int .i64 0,.int .i64 0,.int .i64 0,.int .i64 0,.int .i64 0,.nils,.nils]),(5,.box b5 (cellsN x))]) (by decide +kernel) () ?_ ?_ ?_ ?_
   ·exact ⟨.refl _,.refl _,.refl _,.refl _,.refl _,.refl _,.any _,.any _,.any _,.any _,.any _,.any _,.any _,.any _,.any _,.any _,.any _,trivial⟩
   ·exact ⟨rfl,rfl,rfl,trivial⟩
   ·conv => whnf
    refine ⟨fun _ f hI => ?_,?_⟩
    ·obtain ⟨f,rfl⟩:=off f 11 (hI.no 11 0 rfl rfl)
     conv => whnf
     exact ⟨(),⟨.refl _,.refl _,.refl _,.refl _,.refl _,.refl _,.refl _,.refl _,.refl _,.refl _,.refl _,.refl _,.refl _,.refl _,.refl _,.refl _,.refl _,trivial⟩,rfl,rfl,rfl,trivial⟩
    refine ⟨fun _ f hI => ?_,?_⟩
    ·obtain ⟨f,rfl⟩:=off f 11 (hI.no 11 1 rfl rfl)
     conv => whnf
     exact ⟨(),⟨.refl _,.refl _,.refl _,.refl _,.refl _,.refl _,.refl _,.refl _,.refl _,.refl _,.refl _,.refl _,.refl _,.refl _,.refl _,.refl _,.refl _,trivial⟩,rfl,rfl,rfl,trivial⟩
    refine ⟨fun _ f hI => ?_,?_⟩
    ·obtain ⟨f,rfl⟩:=off f 11 (hI.no 11 2 rfl rfl)
     conv => whnf
     exact ⟨(),⟨.refl _,.refl _,.refl _,.refl _,.refl _,.refl _,.refl _,.refl _,.refl _,.refl _,.refl _,.refl _,.refl _,.refl _,.refl _,.refl _,.refl _,trivial⟩,rfl,rfl,rfl,trivial⟩
    refine ⟨fun _ f hI => ?_,?_⟩
    ·obtain ⟨f,rfl⟩:=off f 11 (hI.no 11 3 rfl rfl)
     conv => whnf
     refine .inl ?_
     conv => whnf
     refine ⟨fun _ => ⟨rfl,by omega,by omega,by simp; omega⟩,?_⟩
     conv => whnf
     exact ⟨(),⟨.refl _,.refl _,.refl _,.refl _,.refl _,.refl _,.refl _,.refl _,.refl _,DLe.of_eq (congrArg (D.sl .full _) hT),.refl _,.refl _,.refl _,.refl _,.refl _,.refl _,.refl _,trivial⟩,rfl,rfl,rfl,trivial⟩
    refine ⟨fun _ f hI => ?_,?_⟩
    ·obtain ⟨f,rfl⟩:=off f 11 (hI.no 11 4 rfl rfl)
     conv => whnf
     refine .inl ?_
     conv => whnf
     refine ⟨rfl,?_⟩
     conv => whnf
     exact ⟨(),⟨.refl _,.refl _,.refl _,.refl _,.refl _,.refl _,.refl _,.refl _,.refl _,.refl _,.refl _,.refl _,.refl _,.refl _,.refl _,.refl _,.refl _,trivial⟩,rfl,rfl,rfl,trivial⟩
    refine ⟨fun _ f hI => ?_,?_⟩
    ·obtain ⟨f,rfl⟩:=off f 11 (hI.no 11 5 rfl rfl)
     conv => whnf
     refine ⟨trivial,?_⟩
     conv => whnf
     exact ⟨(),⟨.refl _,.refl _,.refl _,.refl _,.refl _,.refl _,.refl _,.refl _,.refl _,.refl _,.refl _,.refl _,.refl _,.refl _,.refl _,.refl _,.refl _,trivial⟩,rfl,rfl,rfl,trivial⟩
    refine ⟨fun _ f hI => ?_,?_⟩
    ·obtain ⟨f,rfl⟩:=off f 11 (hI.no 11 6 rfl rfl)
     conv => whnf
     exact ⟨(),⟨.refl _,.refl _,.refl _,.refl _,.refl _,.refl _,.refl _,.refl _,.refl _,.refl _,.refl _,.refl _,.refl _,.refl _,.refl _,.refl _,.refl _,trivial⟩,rfl,rfl,rfl,trivial⟩
    refine ⟨fun _ f hI => ?_,?_⟩
    ·obtain ⟨f,rfl⟩:=off f 11 (hI.no 11 7 rfl rfl)
     conv => whnf
     exact ⟨(),⟨.refl _,.refl _,.refl _,.refl _,.refl _,.refl _,.refl _,.refl _,.refl _,.refl _,.refl _,.refl _,.refl _,.refl _,.refl _,.refl _,.refl _,trivial⟩,rfl,rfl,rfl,trivial⟩
    refine ⟨fun _ f hI => ?_,?_⟩
    ·obtain ⟨f,rfl⟩:=off f 11 (hI.no 11 8 rfl rfl)
     conv => whnf
     refine .inl ?_
     conv => whnf
     refine ⟨fun _ => by simp; omega,?_⟩
     conv => whnf
     exact ⟨(),⟨.refl _,.refl _,.refl _,.refl _,.refl _,.refl _,.refl _,.refl _,.refl _,.refl _,.refl _,.refl _,.refl _,.refl _,DLe.of_eq (congrArg (D.sl .none _) hD),.refl _,.refl _,trivial⟩,rfl,rfl,rfl,trivial⟩
    refine ⟨fun _ f hI => ?_,?_⟩
    ·obtain ⟨f,rfl⟩:=off f 11 (hI.no 11 9 rfl rfl)
     conv => whnf
     refine .inl ?_
     conv => whnf
     refine ⟨by show (_ + _) * _ ≤ _; simp; omega,by show _ + _ ≤ _; simp; omega,(fun h => by cases h),fun w1 => ?_⟩
     exact ⟨(),⟨.refl _,.refl _,.refl _,.refl _,.refl _,.refl _,.refl _,.refl _,.refl _,.refl _,.refl _,.refl _,.refl _,.refl _,.refl _,DLe.unown,.refl _,trivial⟩,rfl,rfl,rfl,trivial⟩
    refine ⟨fun _ f hI => ?_,?_⟩
    ·obtain ⟨f,rfl⟩:=off f 11 (hI.no 11 10 rfl rfl)
     conv => whnf
     refine .inl ?_
     conv => whnf
     refine ⟨by show (_ + _) * _ ≤ _; simp; omega,by show _ + _ ≤ _; simp; omega,(fun h => by cases h),fun w1 => ?_⟩
     exact ⟨(),⟨.refl _,.refl _,.refl _,.refl _,.refl _,.refl _,.refl _,.refl _,.refl _,.refl _,.refl _,.refl _,.refl _,.refl _,.refl _,.refl _,hN _,trivial⟩,rfl,rfl,rfl,trivial⟩
    refine ⟨fun _ f hI => ?_,?_⟩
    ·conv => whnf
     exact ⟨(),⟨.refl _,.refl _,.refl _,.refl _,.refl _,.refl _,.refl _,.refl _,.refl _,.refl _,.refl _,.refl _,.refl _,.refl _,.refl _,.refl _,.refl _,trivial⟩,rfl,rfl,rfl,trivial⟩
    exact trivial
   ·intro _ f hf
    obtain ⟨f,rfl⟩:=on f 11 (hf 11 (by decide +kernel))
    conv => whnf
    refine Tri.region ti_ok ?_
    conv => whnf
    refine .inl ⟨fun _ => by simp only [InR]; omega,?_⟩
    conv => whnf
    exact ⟨⟨i + 1,hia⟩,[(1,1),(2,2)],by show n.kids.length - (i + 1) < n.kids.length - i; omega,⟨.refl _,.refl _,DLe.of_eq (congrArg (D.sl .none 12) (by rw [hst])),.refl _,trivial⟩,rfl,rfl,rfl,rfl,rfl,trivial⟩
 ·refine Tri.exit ?_
  conv => whnf
  have hin : i = n.kids.length:=by simp at hc; omega
  have hall : (n.kids.take i).map srtT = n.kids.map srtT:=by rw [List.take_of_length_le (by omega)]
  rw [hall]
  refine Tri.seq ?_
  refine Tri.region ti_ok ?_
  conv => whnf
  refine ⟨trivial,?_⟩
  conv => whnf
  refine Tri.seq ?_
  refine Tri.seq ?_
  refine Tri.region ti_ok ?_
  conv => whnf
  refine Tri.block ?_
  refine Tri.loopK (α:={ i : Nat // i ≤ n.streams.length }) (fun y => [(1,.box 1 b1 0),(2,.box 2 b2 0),(3,.sl .none 12 ((isort NV.name (n.kids.map srtT)).map encTop)),(7,.sl .none 2 ((isort SV.name (n.streams.take y.1)).map encS)),(8,.int .i64 y.1)]) (fun _ => [(1,.box b1 (cellsN n)),(2,.box b2 [.str [],.int .i64 0,.str [],.str [],.int .i64 0,.int .i64 0,.int .i64 0,.int .i64 0,.int .i64 0,.int .i64 0,.nils,.nils])]) (fun y => n.streams.length - y.1) ⟨0,Nat.zero_le _⟩ [(1,1),(2,2)]
   ⟨⟨.refl _,.refl _,.refl _,DLe.full,.refl _,trivial⟩,rfl,rfl,rfl,rfl,rfl,trivial⟩ ?_
  rintro ⟨i,hi⟩
  dsimp only at hi ⊢
  refine Tri.seq ?_
  refine Tri.seq ?_
  refine Tri.region ti_ok ?_
  conv => whnf
  refine ⟨rfl,?_⟩
  conv => whnf
  refine Tri.cond _ rfl (fun hc => ?_) (fun hc => ?_)
  ·refine Tri.skip ?_
   conv => whnf
   have hia : i < n.streams.length:=by simpa using hc
   have hQl : (isort SV.name (n.streams.take i)).length = i:=by rw [isort_len]; simp; omega
   have hst : isort SV.name (n.streams.take (i + 1)) = insS SV.name (isort SV.name (n.streams.take i)) n.streams[i]:=by
    rw [List.take_succ_eq_append_getElem hia,isort_snoc]
   generalize hQQ : isort SV.name (n.streams.take i) = Q at *
   have hgs : (n.streams.map encS)[((i : Nat) : Int).toNat]? = some (encS n.streams[i]):=by simp [hia]
   refine Tri.seq ?_
   refine Tri.block ?_
   refine Tri.seq ?_
   refine Tri.region ti_ok ?_
   conv => whnf
   refine Tri.seq ?_
   refine Tri.block ?_
   refine Tri.loopK (α:={ p : Nat // p ≤ i ∧ posN SV.name Q n.streams[i] Q.length = posN SV.name Q n.streams[i] p }) (fun y => [(1,.box 1 b1 0),(2,.box 2 b2 0),(3,.sl .none 12 ((isort NV.name (n.kids.map srtT)).map encTop)),(7,.sl .none 2 (Q.map encS)),(8,.int .i64 i),(9,.int .i64 y.1)]) (fun _ => [(1,.box b1 (cellsN n)),(2,.box b2 [.str [],.int .i64 0,.str [],.str [],.int .i64 0,.int .i64 0,.int .i64 0,.int .i64 0,.int .i64 0,.int .i64 0,.nils,.nils])]) (fun y => y.1) ⟨i,Nat.le_refl _,by rw [hQl]⟩ [(1,1),(2,2)]
    ⟨⟨.refl _,.refl _,.refl _,.refl _,.refl _,DLe.of_eq (congrArg (D.int .i64) (by simp [hQl])),trivial⟩,rfl,rfl,rfl,rfl,rfl,trivial⟩ ?_
   rintro ⟨p,hp,hpos⟩
   dsimp only at hp hpos ⊢
   have hgo : ∀ j,(h : j < Q.length) → (Q.map encS)[j]? = some (encS Q[j]):=fun j h => by simp [h]
   refine Tri.seq ?_
   refine Tri.seq ?_
   refine Tri.draw ti_ok mixed (by kernel_rfl) ?_
   conv => whnf
   refine ⟨fun h => h,?_⟩
   conv => whnf
   refine .inl ⟨fun h => by simp only [InR]; omega,?_⟩
   conv => whnf
   refine ⟨fun h => h,?_⟩
   conv => whnf
   refine ⟨fun h => h,?_⟩
   conv => whnf
   refine ⟨fun h => by simp at h; simp; omega,?_⟩
   conv => whnf
   refine ⟨fun h => h,?_⟩
   conv => whnf
   refine ⟨fun h => h,?_⟩
   conv => whnf
   refine ⟨encS (Q.getD (p - 1) default),fun h => by
    have h0 : 0 < p:=by simpa using h
    rw [pred_toNat h0,hgo (p - 1) (by omega)]; simp [List.getD,show p - 1 < Q.length by omega],?_⟩
   conv => whnf
   refine ⟨fun h => h,?_⟩
   conv => whnf
   refine ⟨rfl,?_⟩
   conv => whnf
   refine ⟨fun h => h,?_⟩
   conv => whnf
   refine ⟨fun h => h,?_⟩
   conv => whnf
   refine ⟨fun h => by simp; omega,?_⟩
   conv => whnf
   refine ⟨fun h => h,?_⟩
   conv => whnf
   refine ⟨fun h => h,?_⟩
   conv => whnf
   refine ⟨encS n.streams[i],fun h => hgs,?_⟩
   conv => whnf
   refine ⟨fun h => h,?_⟩
   conv => whnf
   refine ⟨fun h => h,?_⟩
   conv => whnf
   refine ⟨fun h0 h => by first | exact h | (rw [h]; rfl) | (rw [h0,h]; rfl),?_⟩
   conv => whnf
   refine Tri.cond _ rfl (fun hc => ?_) (fun hc => ?_)
   ·have h0 : 0 < p:=by
     cases h0 : decide ((0 : Int) < p) with
     | false => rw [h0] at hc; cases hc
     | true => simpa using h0
    have hb : Op.bytesLess n.streams[i].name (Q[p - 1]'(by omega)).name = true:=by
     have h1 : decide ((0 : Int) < p) = true:=by simpa using h0
     rw [h1] at hc
     have e : Q.getD (p - 1) default = Q[p - 1]'(by omega):=by simp [List.getD,show p - 1 < Q.length by omega]
     rw [e] at hc
     have hc2 : (!(Op.bytesLess (Q[p - 1]'(by omega)).name n.streams[i].name || (Q[p - 1]'(by omega)).name == n.streams[i].name)) = true:=hc
     simp only [Bool.not_eq_true',Bool.or_eq_false_iff,beq_eq_false_iff_ne] at hc2
     cases h3 : Op.bytesLess n.streams[i].name (Q[p - 1]'(by omega)).name with
     | true => rfl
     | false => exact absurd (bl_total _ _ hc2.1 h3) hc2.2
    refine Tri.skip ?_
    conv => whnf
    refine Tri.block ?_
    refine Tri.region ti_ok ?_
    conv => whnf
    refine .inl ⟨fun _ => by simp only [InR]; omega,?_⟩
    conv => whnf
    exact ⟨⟨p - 1,by omega,by
     have:=posN_first (key:=SV.name) (x:=n.streams[i]) (p:=p - 1) (by omega) hb
     rw [show p - 1 + 1 = p by omega] at this
     rw [hpos,this]⟩,[(1,1),(2,2)],by show p - 1 < p; omega,⟨.refl _,.refl _,.refl _,.refl _,.refl _,DLe.of_eq (congrArg (D.int .i64) (by show (p : Int) - 1 = ((p - 1 : Nat) : Int); omega)),trivial⟩,rfl,rfl,rfl,rfl,rfl,trivial⟩
   ·refine Tri.exit ?_
    conv => whnf
    have hps : posN SV.name Q n.streams[i] Q.length = p:=by
     rw [hpos]
     cases p with
     | zero => rfl
     | succ p =>
      have hpl : p < Q.length:=by omega
      have h1 : decide ((0 : Int) < (p + 1 : Nat)) = true:=by simp
      rw [h1] at hc
      have e : Q.getD (p + 1 - 1) default = Q[p]:=by simp [List.getD,hpl]
      rw [e] at hc
      have hc2 : (!(Op.bytesLess Q[p].name n.streams[i].name || Q[p].name == n.streams[i].name)) = false:=hc
      refine posN_stop hpl ?_
      cases h3 : Op.bytesLess n.streams[i].name Q[p].name with
      | false => rfl
      | true => rw [bl_asymm h3,beq_eq_false_iff_ne.2 (bl_ne h3).symm] at hc2; simp at hc2
    have hins:=insS_split hps
    have hT : (List.take ((p : Nat) : Int).toNat (Q.map encS)).drop (Int.toNat 0) = (Q.take p).map encS:=by simp
    have hD : (List.take (((Q.map encS).length : Nat) : Int).toNat (Q.map encS)).drop ((p : Nat) : Int).toNat = (Q.drop p).map encS:=by rw [List.take_of_length_le (by simp)]; simp
    have hN : ∀ w : Value,DLe (.sl (.own 95 w) 2 ((Q.take p).map encS ++ ([encS n.streams[i]] ++ (Q.drop p).map encS))) (.sl .none 2 ((insS SV.name Q n.streams[i]).map encS)):=fun w => by
     rw [hins]; simp only [List.map_append,List.map_cons,List.singleton_append]; exact DLe.unown
    refine Tri.bitsI ti_ok mixed (α:=Unit) (fun _ f => [(1,.box 1 b1 0),(2,.box 2 b2 0),(3,.sl .none 12 ((isort NV.name (n.kids.map srtT)).map encTop)),(8,.int .i64 i),(9,.int .i64 p),(7,bif f 15 then .sl .none 2 ((insS SV.name Q n.streams[i]).map encS) else .sl .none 2 (Q.map encS)),(81,bif f 0 then .sl .none 2 (Q.map encS) else .any),(82,bif f 1 then .int .i64 p else .any),(83,bif f 2 then .int .i64 p else .any),(84,bif f 3 then .sl .full 2 ((Q.take p).map encS) else .any),(85,bif f 4 then .box 1 b1 11 else .any),(86,bif f 5 then .sl .none 2 (n.streams.map encS) else .any),(87,bif f 6 then .int .i64 i else .any),(88,bif f 7 then .elm 2 (n.streams.map encS) i 0 else .any),(89,bif f 8 then encS n.streams[i] else .any),(90,bif f 9 then .sl .full 2 [encS n.streams[i]] else .any),(91,bif f 10 then .sl .none 2 (Q.map encS) else .any),(92,bif f 11 then .int .i64 p else .any),(93,bif f 12 then .sl .none 2 ((Q.drop p).map encS) else .any),(94,bif f 13 then .sl .none 2 ([encS n.streams[i]] ++ (Q.drop p).map encS) else .any),(95,bif f 14 then .sl .none 2 ((insS SV.name Q n.streams[i]).map encS) else .any)])
     (fun _ f => [(1,.box b1 (cellsN n)),(2,.box b2 [.str [],.int .i64 0,.str [],.str [],.int .i64 0,.int .i64 0,.int .i64 0,.int .i64 0,.int .i64 0,.int .i64 0,.nils,.nils])]) (by decide +kernel) () ?_ ?_ ?_ ?_
    ·exact ⟨.refl _,.refl _,.refl _,.refl _,.refl _,.refl _,.any _,.any _,.any _,.any _,.any _,.any _,.any _,.any _,.any _,.any _,.any _,.any _,.any _,.any _,.any _,trivial⟩
    ·exact ⟨rfl,rfl,trivial⟩
    ·conv => whnf
     refine ⟨fun _ f hI => ?_,?_⟩
     ·obtain ⟨f,rfl⟩:=off f 15 (hI.no 15 0 rfl rfl)
      conv => whnf
      exact ⟨(),⟨.refl _,.refl _,.refl _,.refl _,.refl _,.refl _,.refl _,.refl _,.refl _,.refl _,.refl _,.refl _,.refl _,.refl _,.refl _,.refl _,.refl _,.refl _,.refl _,.refl _,.refl _,trivial⟩,rfl,rfl,trivial⟩
     refine ⟨fun _ f hI => ?_,?_⟩
     ·obtain ⟨f,rfl⟩:=off f 15 (hI.no 15 1 rfl rfl)
      conv => whnf
      exact ⟨(),⟨.refl _,.refl _,.refl _,.refl _,.refl _,.refl _,.refl _,.refl _,.refl _,.refl _,.refl _,.refl _,.refl _,.refl _,.refl _,.refl _,.refl _,.refl _,.refl _,.refl _,.refl _,trivial⟩,rfl,rfl,trivial⟩
     refine ⟨fun _ f hI => ?_,?_⟩
     ·obtain ⟨f,rfl⟩:=off f 15 (hI.no 15 2 rfl rfl)
      conv => whnf
      exact ⟨(),⟨.refl _,.refl _,.refl _,.refl _,.refl _,.refl _,.refl _,.refl _,.refl _,.refl _,.refl _,.refl _,.refl _,.refl _,.refl _,.refl _,.refl _,.refl _,.refl _,.refl _,.refl _,trivial⟩,rfl,rfl,trivial⟩
     refine ⟨fun _ f hI => ?_,?_⟩
     ·obtain ⟨f,rfl⟩:=off f 15 (hI.no 15 3 rfl rfl)
      conv => whnf
      refine .inl ?_
      conv => whnf
      refine ⟨fun _ => ⟨rfl,by omega,by omega,by simp; omega⟩,?_⟩
      conv => whnf
      exact ⟨(),⟨.refl _,.refl _,.refl _,.refl _,.refl _,.refl _,.refl _,.refl _,.refl _,DLe.of_eq (congrArg (D.sl .full _) hT),.refl _,.refl _,.refl _,.refl _,.refl _,.refl _,.refl _,.refl _,.refl _,.refl _,.refl _,trivial⟩,rfl,rfl,trivial⟩
     refine ⟨fun _ f hI => ?_,?_⟩
     ·obtain ⟨f,rfl⟩:=off f 15 (hI.no 15 4 rfl rfl)
      conv => whnf
      exact ⟨(),⟨.refl _,.refl _,.refl _,.refl _,.refl _,.refl _,.refl _,.refl _,.refl _,.refl _,.refl _,.refl _,.refl _,.refl _,.refl _,.refl _,.refl _,.refl _,.refl _,.refl _,.refl _,trivial⟩,rfl,rfl,trivial⟩
     refine ⟨fun _ f hI => ?_,?_⟩
     ·obtain ⟨f,rfl⟩:=off f 15 (hI.no 15 5 rfl rfl)
      conv => whnf
      refine .inl ?_
      conv => whnf
      refine ⟨rfl,?_⟩
      conv => whnf
      exact ⟨(),⟨.refl _,.refl _,.refl _,.refl _,.refl _,.refl _,.refl _,.refl _,.refl _,.refl _,.refl _,.refl _,.refl _,.refl _,.refl _,.refl _,.refl _,.refl _,.refl _,.refl _,.refl _,trivial⟩,rfl,rfl,trivial⟩
     refine ⟨fun _ f hI => ?_,?_⟩
     ·obtain ⟨f,rfl⟩:=off f 15 (hI.no 15 6 rfl rfl)
      conv => whnf
      exact ⟨(),⟨.refl _,.refl _,.refl _,.refl _,.refl _,.refl _,.refl _,.refl _,.refl _,.refl _,.refl _,.refl _,.refl _,.refl _,.refl _,.refl _,.refl _,.refl _,.refl _,.refl _,.refl _,trivial⟩,rfl,rfl,trivial⟩
     refine ⟨fun _ f hI => ?_,?_⟩
     ·obtain ⟨f,rfl⟩:=off f 15 (hI.no 15 7 rfl rfl)
      conv => whnf
      refine .inl ?_
      conv => whnf
      refine ⟨fun _ => by simp; omega,?_⟩
      conv => whnf
      exact ⟨(),⟨.refl _,.refl _,.refl _,.refl _,.refl _,.refl _,.refl _,.refl _,.refl _,.refl _,.refl _,.refl _,.refl _,.refl _,.refl _,.refl _,.refl _,.refl _,.refl _,.refl _,.refl _,trivial⟩,rfl,rfl,trivial⟩
     refine ⟨fun _ f hI => ?_,?_⟩
     ·obtain ⟨f,rfl⟩:=off f 15 (hI.no 15 8 rfl rfl)
      conv => whnf
      refine .inl ?_
      conv => whnf
      refine ⟨encS n.streams[i],fun _ => hgs,?_⟩
      conv => whnf
      exact ⟨(),⟨.refl _,.refl _,.refl _,.refl _,.refl _,.refl _,.refl _,.refl _,.refl _,.refl _,.refl _,.refl _,.refl _,.refl _,.refl _,.refl _,.refl _,.refl _,.refl _,.refl _,.refl _,trivial⟩,rfl,rfl,trivial⟩
     refine ⟨fun _ f hI => ?_,?_⟩
     ·obtain ⟨f,rfl⟩:=off f 15 (hI.no 15 9 rfl rfl)
      conv => whnf
      refine ⟨trivial,?_⟩
      conv => whnf
      exact ⟨(),⟨.refl _,.refl _,.refl _,.refl _,.refl _,.refl _,.refl _,.refl _,.refl _,.refl _,.refl _,.refl _,.refl _,.refl _,.refl _,.refl _,.refl _,.refl _,.refl _,.refl _,.refl _,trivial⟩,rfl,rfl,trivial⟩
     refine ⟨fun _ f hI => ?_,?_⟩
     ·obtain ⟨f,rfl⟩:=off f 15 (hI.no 15 10 rfl rfl)
      conv => whnf
      exact ⟨(),⟨.refl _,.refl _,.refl _,.refl _,.refl _,.refl _,.refl _,.refl _,.refl _,.refl _,.refl _,.refl _,.refl _,.refl _,.refl _,.refl _,.refl _,.refl _,.refl _,.refl _,.refl _,trivial⟩,rfl,rfl,trivial⟩
     refine ⟨fun _ f hI => ?_,?_⟩
     ·obtain ⟨f,rfl⟩:=off f 15 (hI.no 15 11 rfl rfl)
      conv => whnf
      exact ⟨(),⟨.refl _,.refl _,.refl _,.refl _,.refl _,.refl _,.refl _,.refl _,.refl _,.refl _,.refl _,.refl _,.refl _,.refl _,.refl _,.refl _,.refl _,.refl _,.refl _,.refl _,.refl _,trivial⟩,rfl,rfl,trivial⟩
     refine ⟨fun _ f hI => ?_,?_⟩
     ·obtain ⟨f,rfl⟩:=off f 15 (hI.no 15 12 rfl rfl)
      conv => whnf
      refine .inl ?_
      conv => whnf
      refine ⟨fun _ => by simp; omega,?_⟩
      conv => whnf
      exact ⟨(),⟨.refl _,.refl _,.refl _,.refl _,.refl _,.refl _,.refl _,.refl _,.refl _,.refl _,.refl _,.refl _,.refl _,.refl _,.refl _,.refl _,.refl _,.refl _,DLe.of_eq (congrArg (D.sl .none _) hD),.refl _,.refl _,trivial⟩,rfl,rfl,trivial⟩
     refine ⟨fun _ f hI => ?_,?_⟩
     ·obtain ⟨f,rfl⟩:=off f 15 (hI.no 15 13 rfl rfl)
      conv => whnf
      refine .inl ?_
      conv => whnf
      refine ⟨by show (_ + _) * _ ≤ _; simp; omega,by show _ + _ ≤ _; simp; omega,(fun h => by cases h),fun w1 => ?_⟩
      exact ⟨(),⟨.refl _,.refl _,.refl _,.refl _,.refl _,.refl _,.refl _,.refl _,.refl _,.refl _,.refl _,.refl _,.refl _,.refl _,.refl _,.refl _,.refl _,.refl _,.refl _,DLe.unown,.refl _,trivial⟩,rfl,rfl,trivial⟩
     refine ⟨fun _ f hI => ?_,?_⟩
     ·obtain ⟨f,rfl⟩:=off f 15 (hI.no 15 14 rfl rfl)
      conv => whnf
      refine .inl ?_
      conv => whnf
      refine ⟨by show (_ + _) * _ ≤ _; simp; omega,by show _ + _ ≤ _; simp; omega,(fun h => by cases h),fun w1 => ?_⟩
      exact ⟨(),⟨.refl _,.refl _,.refl _,.refl _,.refl _,.refl _,.refl _,.refl _,.refl _,.refl _,.refl _,.refl _,.refl _,.refl _,.refl _,.refl _,.refl _,.refl _,.refl _,.refl _,hN _,trivial⟩,rfl,rfl,trivial⟩
     refine ⟨fun _ f hI => ?_,?_⟩
     ·conv => whnf
      exact ⟨(),⟨.refl _,.refl _,.refl _,.refl _,.refl _,.refl _,.refl _,.refl _,.refl _,.refl _,.refl _,.refl _,.refl _,.refl _,.refl _,.refl _,.refl _,.refl _,.refl _,.refl _,.refl _,trivial⟩,rfl,rfl,trivial⟩
     exact trivial
    ·intro _ f hf
     obtain ⟨f,rfl⟩:=on f 15 (hf 15 (by decide +kernel))
     conv => whnf
     refine Tri.region ti_ok ?_
     conv => whnf
     refine .inl ⟨fun _ => by simp only [InR]; omega,?_⟩
     conv => whnf
     exact ⟨⟨i + 1,hia⟩,[(1,1),(2,2)],by show n.streams.length - (i + 1) < n.streams.length - i; omega,⟨.refl _,.refl _,.refl _,DLe.of_eq (congrArg (D.sl .none 2) (by rw [hst])),.refl _,trivial⟩,rfl,rfl,rfl,rfl,rfl,trivial⟩
  ·refine Tri.exit ?_
   conv => whnf
   have hin : i = n.streams.length:=by simp at hc; omega
   have hall : n.streams.take i = n.streams:=List.take_of_length_le (by omega)
   rw [hall]
   refine Tri.seq ?_
   refine Tri.region ti_ok ?_
   conv => whnf
   refine ⟨rfl,?_⟩
   conv => whnf
   refine ⟨rfl,?_⟩
   conv => whnf
   refine Tri.seq ?_
   refine Tri.region ti_ok ?_
   conv => whnf
   refine ⟨rfl,?_⟩
   conv => whnf
   refine ⟨rfl,?_⟩
   conv => whnf
   refine Tri.ret ?_
   conv => whnf
   refine ⟨rfl,?_⟩
   conv => whnf
   have hfin : encTop (srtT n) = .agg [.str n.name,.int .i64 n.kind,.str n.text,.str n.target,.int .i64 n.n1,.int .i64 n.n2,.int .i64 n.n3,.int .i64 n.n4,.int .i64 n.n5,.int .i64 n.n6,.sl .none 12 ((isort NV.name (n.kids.map srtT)).map encTop),.sl .none 2 ((isort SV.name n.streams).map encS)]:=by
    rw [srtT_eq,encTop,show enc = encTop from funext enc_eq]
   refine DLe.of_eq ?_
   rw [hfin]; rfl
end Go.Tame.V
