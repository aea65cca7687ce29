/- A program logic of my own over the model, and contracts of this program's functions by it: part 6. No conditions of its own: each theorem states its own. -/
import Derived.Test.YtgaeiadnclmadaaGreatDoorL5
import Derived.Test.YtgaeiadnclmadaaGreatDoorShelf
import Derived.Test.YtgaeiadnclmadaaGreatDoorCards
import Derived.Test.YtgaeiadnclmadaaGreatDoorTie
import Derived.ProofKit
import Derived.OpenShut
import Derived.Deep.DeepHandedRow
import Derived.Lib.LaidTab
import Derived.Lib.LaidU8
import Derived.Stop.LaidErr
set_option linter.unnecessarySimpa false
set_option linter.unusedSimpArgs false
set_option linter.unusedVariables false
/- Contracts: the library's,and characters. By program (mk.py). -/
namespace Go.Tame.V
open Go Go.Proofs
variable {W0 : World}
set_option maxRecDepth 10000
set_option linter.unusedVariables false

/-- What the library's start-up has laid. -/
structure LibOk (W0 : World) : Prop where
 utf8 : Lib.Utf8Tabs 1 2 W0
 maxlen : ∃ m,W0.cell? ⟨0,0,none⟩ = some (.int .i64 m)
 pow10 : Lib.TabIs Tryz.prog W0 "internal/strconv.uint64pow10" .u64 Lib.pow10Tab

theorem cell_base {w : World} (hb : Base W0 w) {a : Addr} {v : Value} (h : W0.cell? a = some v) : w.cell? a = some v:=by
 have hlt : a.block < W0.heap.size:=by
  simp only [World.cell?] at h
  rcases Nat.lt_or_ge a.block W0.heap.size with h1 | h1
  ·exact h1
  ·rw [Array.getElem?_eq_none h1] at h; cases h
 rw [← h]; simp only [World.cell?,hb.block _ hlt]
theorem utf8_base {w : World} (hb : Base W0 w) (h : Lib.Utf8Tabs 1 2 W0) : Lib.Utf8Tabs 1 2 w :=
 ⟨fun c hc => cell_base hb (h.1 c hc),fun i hi => ⟨cell_base hb (h.2 i hi).1,cell_base hb (h.2 i hi).2⟩⟩

theorem callable {f : FuncId} {fn : Func} (h : Tryz.prog.funcs[f]? = some fn) (hb : fn.body.isSome = true) (hn : (fn.name == "runtime.NumGoroutine") = false) : Callable Tryz.prog f := ⟨fn, h, hb, hn⟩

def dec (s : List UInt8) : Nat × Nat:=Lib.decodeGo ⟨⟨s⟩⟩
theorem F134 (hL : LibOk W0) (s : List UInt8) : DFun Tryz.prog W0 143 [.str s] (.tup [.int .i32 (dec s).1,.int .i64 (dec s).2]) :=
 .lift (callable Tryz.func143 rfl (by decide +kernel)) rfl fun w hb => (Tryz.utf8_DecodeRuneInString ⟨⟨s⟩⟩ w (utf8_base hb hL.utf8)).mono fun e w' ⟨he,hw⟩ =>
  ⟨_,he,fun C => .tup _ _ rfl fun i d v hd hv => by
   match i with
   | 0 => cases hd; cases hv; exact .int _ _
   | 1 => cases hd; cases hv; exact .int _ _
   | i + 2 => simp at hd,hw⟩
theorem F110 (a b : List UInt8) : DFun Tryz.prog W0 73 [.str a,.str b] (.int .i64 (Lib.compareBytes a b)) :=
 .pure (callable Tryz.func73 rfl (by decide +kernel)) rfl rfl fun w _ => Tryz.strings_Compare ⟨⟨a⟩⟩ ⟨⟨b⟩⟩ w
theorem F119 (s : List UInt8) (c : UInt8) : DFun Tryz.prog W0 121 [.str s,.str [c]] (.bool (decide (0 ≤ Lib.indexByte s c))) :=
 .pure (callable Tryz.func121 rfl (by decide +kernel)) rfl rfl fun w _ => Tryz.strings_Contains_one ⟨⟨s⟩⟩ c w
theorem F122 (s p : List UInt8) : DFun Tryz.prog W0 123 [.str s,.str p] (.str (Lib.trimPrefix s p)) :=
 .pure (callable Tryz.func123 rfl (by decide +kernel)) rfl rfl fun w _ => Tryz.strings_TrimPrefix ⟨⟨s⟩⟩ ⟨⟨p⟩⟩ w
def isChar (r : Int) : Bool:=decide (32 ≤ r) && (decide (r ≤ 65533) && (decide (r < 55296) || decide (57343 < r)))
theorem F135 (r : Int) : DFun Tryz.prog W0 144 [.int .i64 r] (.bool (isChar r)):=by
 refine DFun.intro ti_ok Tryz.func144 rfl (by decide +kernel) Tryz.ntmps144 rfl fun Γ => ?_
 refine Tri.seq ?_
 refine Tri.region ti_ok ?_
 conv => whnf
 refine Tri.seq ?_
 refine Tri.region ti_ok ?_
 conv => whnf
 refine ⟨fun h => h,?_⟩
 conv => whnf
 refine ⟨fun h0 h => by first | exact h | (rw [h]; rfl) | (rw [h0,h]; rfl),?_⟩
 conv => whnf
 refine ⟨fun h => h,?_⟩
 conv => whnf
 refine ⟨fun h => h,?_⟩
 conv => whnf
 refine ⟨fun h => h,?_⟩
 conv => whnf
 refine ⟨fun h => h,?_⟩
 conv => whnf
 refine ⟨fun h0 h => by first | exact h | (rw [h]; rfl) | (rw [h0,h]; rfl),?_⟩
 conv => whnf
 refine ⟨fun h0 h => by first | exact h | (rw [h]; rfl) | (rw [h0,h]; rfl),?_⟩
 conv => whnf
 refine Tri.ret ?_
 conv => whnf
 refine DLe.of_eq (congrArg D.bool ?_)
 unfold isChar
 by_cases h1 : 32 ≤ r <;> by_cases h2 : r ≤ 65533 <;> by_cases h3 : r < 55296 <;> simp [h1,h2,h3]
theorem F155 (r : Int) : DFun Tryz.prog W0 183 [.int .i64 r] (.bool (isChar r)):=by
 refine DFun.intro ti_ok Tryz.func183 rfl (by decide +kernel) Tryz.ntmps183 rfl fun Γ => ?_
 refine Tri.seq ?_
 refine Tri.region ti_ok ?_
 conv => whnf
 refine Tri.seq ?_
 refine Tri.region ti_ok ?_
 conv => whnf
 refine ⟨fun h => h,?_⟩
 conv => whnf
 refine ⟨fun h0 h => by first | exact h | (rw [h]; rfl) | (rw [h0,h]; rfl),?_⟩
 conv => whnf
 refine ⟨fun h => h,?_⟩
 conv => whnf
 refine ⟨fun h => h,?_⟩
 conv => whnf
 refine ⟨fun h => h,?_⟩
 conv => whnf
 refine ⟨fun h => h,?_⟩
 conv => whnf
 refine ⟨fun h0 h => by first | exact h | (rw [h]; rfl) | (rw [h0,h]; rfl),?_⟩
 conv => whnf
 refine ⟨fun h0 h => by first | exact h | (rw [h]; rfl) | (rw [h0,h]; rfl),?_⟩
 conv => whnf
 refine Tri.ret ?_
 conv => whnf
 refine DLe.of_eq (congrArg D.bool ?_)
 unfold isChar
 by_cases h1 : 32 ≤ r <;> by_cases h2 : r ≤ 65533 <;> by_cases h3 : r < 55296 <;> simp [h1,h2,h3]

theorem decode_size (s : List UInt8) (h : s ≠ []) : 1 ≤ (dec s).2 ∧ (dec s).2 ≤ s.length ∧ (dec s).2 ≤ 4 ∧ (dec s).1 ≤ 1114111:=by
 have h0 : ¬ (⟨⟨s⟩⟩ : ByteArray).size = 0:=fun e => h (List.eq_nil_of_length_eq_zero e)
 have hl : (⟨⟨s⟩⟩ : ByteArray).size = s.length:=rfl
 have hp : 0 < s.length:=List.length_pos_iff.2 h
 unfold dec Lib.decodeGo
 rw [if_neg h0]
 unfold Utf8.decode
 dsimp only
 rw [hl]
 have hre : Utf8.runeError = 65533:=rfl
 repeat' split
 all_goals simp only [hre,Bool.and_eq_true,Bool.or_eq_true,decide_eq_true_eq,ge_iff_le,Utf8.valid] at *
 all_goals omega
def badAt (s : List UInt8) : Bool:=!isChar (dec s).1 || ((dec s).1 == 65533 && (dec s).2 == 1)
theorem badAt_eq (s : List UInt8) : badAt s = (bif !isChar ((dec s).1 : Nat) then true else bif (((dec s).1 : Nat) : Int) == 65533 then (((dec s).2 : Nat) : Int) == 1 else false):=by
 unfold badAt
 have h1 : ((((dec s).1 : Nat) : Int) == 65533) = ((dec s).1 == 65533):=by rw [Bool.eq_iff_iff]; simp; omega
 have h2 : ((((dec s).2 : Nat) : Int) == 1) = ((dec s).2 == 1):=by rw [Bool.eq_iff_iff]; simp; omega
 rw [h1,h2]
 cases isChar ((dec s).1 : Nat) <;> cases (dec s).1 == 65533 <;> rfl
def charsGo : Nat → List UInt8 → Option (List Int)
 | 0,s => if s = [] then some [] else none
 | f + 1,s => if s = [] then some [] else if badAt s then none else (charsGo f (s.drop (dec s).2)).map (((dec s).1 : Int)::·)
theorem charsGo_fuel : ∀ (f : Nat) (s : List UInt8),s.length ≤ f → charsGo f s = charsGo s.length s
 | 0,s,h => by have : s = []:=List.eq_nil_of_length_eq_zero (by omega); subst this; rfl
 | f + 1,s,h => by
  by_cases hs : s = []
  ·subst hs; rfl
  ·obtain ⟨h1,h2,_⟩:=decode_size s hs
   have hp : 0 < s.length:=List.length_pos_iff.2 hs
   obtain ⟨n,hn⟩ : ∃ n,s.length = n + 1:=⟨s.length - 1,by omega⟩
   rw [hn]
   simp only [charsGo,hs,if_false]
   have hdl : (s.drop (dec s).2).length = s.length - (dec s).2:=by simp
   rw [charsGo_fuel f (s.drop (dec s).2) (by omega),charsGo_fuel n (s.drop (dec s).2) (by omega)]
def charsP (s : List UInt8) : Option (List Int):=charsGo s.length s
theorem charsP_cons {s : List UInt8} (hs : s ≠ []) : charsP s = if badAt s then none else (charsP (s.drop (dec s).2)).map (((dec s).1 : Int)::·):=by
 obtain ⟨h1,h2,_⟩:=decode_size s hs
 have hp : 0 < s.length:=List.length_pos_iff.2 hs
 obtain ⟨n,hn⟩ : ∃ n,s.length = n + 1:=⟨s.length - 1,by omega⟩
 have hdl : (s.drop (dec s).2).length = s.length - (dec s).2:=by simp
 rw [charsP,hn]
 simp only [charsGo,hs,if_false]
 rw [charsGo_fuel n _ (by omega)]; rfl
theorem charsP_len : ∀ (n : Nat) (s : List UInt8),s.length ≤ n → ∀ l,charsP s = some l → l.length ≤ s.length ∧ s.length ≤ 4 * l.length
 | 0,s,h,l,hl => by
  have : s = []:=List.eq_nil_of_length_eq_zero (by omega)
  subst this; cases hl; simp
 | n + 1,s,h,l,hl => by
  by_cases hs : s = []
  ·subst hs; cases hl; simp
  ·obtain ⟨h1,h2,h3,_⟩:=decode_size s hs
   rw [charsP_cons hs] at hl
   split at hl
   ·cases hl
   ·cases hd : charsP (s.drop (dec s).2) with
    | none => rw [hd] at hl; cases hl
    | some l' =>
     rw [hd] at hl; cases hl
     have hdl : (s.drop (dec s).2).length = s.length - (dec s).2:=by simp
     have:=charsP_len n (s.drop (dec s).2) (by omega) l' hd
     simp only [List.length_cons]; omega
/-- The characters of a text,and the error. -/
def chars (s : List UInt8) : List Int × Int:=if 65536 < s.length then ([],7) else match charsP s with | some l => (l,0) | none => ([],3)
def encInts (k : IntKind) (l : List Int) : List D:=l.map (D.int k)

theorem F120 (hL : LibOk W0) (s : List UInt8) (hs : s.length < 1000000000) : DFun Tryz.prog W0 122 [.str s] (.tup [.sl .none 1 (encInts .i64 (chars s).1),.int .i64 (chars s).2]):=by
 refine DFun.intro ti_ok Tryz.func122 rfl (by decide +kernel) Tryz.ntmps122 rfl fun Γ => ?_
 refine Tri.seq ?_
 refine Tri.region ti_ok ?_
 conv => whnf
 refine Tri.seq ?_
 refine Tri.seq ?_
 refine Tri.region ti_ok ?_
 conv => whnf
 refine Tri.cond _ rfl (fun hc => ?_) (fun hc => ?_)
 ·refine Tri.seq ?_
  refine Tri.region ti_ok ?_
  conv => whnf
  refine Tri.ret ?_
  conv => whnf
  have : chars s = ([],7):=by rw [chars,if_pos (by simp at hc; omega)]
  rw [this]
  exact ⟨DLe.nil,.refl _,trivial⟩
 ·refine Tri.skip ?_
  conv => whnf
  have hs2 : ¬ 65536 < s.length:=by simp at hc; omega
  refine Tri.seq ?_
  refine Tri.regionX ti_ok ?_
  conv => whnf
  refine .inr (XOp.makeOwn ti_ok (n:=s.length) (k1:=.i64) (k2:=.i64) rfl rfl rfl rfl rfl rfl (by show 8 * _ ≤ _; omega) (by omega) fun v => ?_)
  conv => whnf
  refine Tri.seq ?_
  refine Tri.block ?_
  refine Tri.loopK (α:={ x : List UInt8 × List Int // charsP s = (charsP x.1).map (x.2 ++ ·) ∧ x.1.length + x.2.length ≤ s.length } × Value)
   (fun x => [(0,.str x.1.1.1),(4,.sl (.own 1000 x.2) 1 (encInts .i64 x.1.1.2))]) (fun x => [(1000,.own x.2 (encInts .i64 x.1.1.2).length 1 3)]) (fun x => x.1.1.1.length) (⟨(s,[]),by simp,by simp⟩,v) [(1000,12)]
   ⟨⟨.refl _,DLe.own _ _,trivial⟩,rfl,rfl,rfl,trivial⟩ ?_
  rintro ⟨⟨⟨r,acc⟩,hch,hlen⟩,v⟩
  dsimp only at hch hlen ⊢
  refine Tri.seq ?_
  refine Tri.seq ?_
  refine Tri.region ti_ok ?_
  conv => whnf
  refine Tri.cond _ rfl (fun hc => ?_) (fun hc => ?_)
  ·refine Tri.skip ?_
   conv => whnf
   have hr : r ≠ []:=by intro e; subst e; simp at hc
   obtain ⟨hd1,hd2,hd3,hd4⟩:=decode_size r hr
   have hal : (encInts .i64 acc).length = acc.length:=by simp [encInts]
   refine Tri.block ?_
   refine Tri.seq ?_
   refine Tri.region ti_ok ?_
   conv => whnf
   refine ⟨_,_,fun _ => F134 hL r,⟨.refl _,trivial⟩,?_⟩
   conv => whnf
   refine Tri.seq ?_
   refine Tri.seq ?_
   refine Tri.region ti_ok ?_
   conv => whnf
   refine .inl ⟨by simp [InR]; omega,?_⟩
   conv => whnf
   refine ⟨_,_,fun _ => F135 _,⟨.refl _,trivial⟩,?_⟩
   conv => whnf
   refine ⟨fun h => h,?_⟩
   conv => whnf
   refine ⟨fun h => h,?_⟩
   conv => whnf
   refine ⟨fun h => h,?_⟩
   conv => whnf
   refine ⟨fun h => h,?_⟩
   conv => whnf
   refine ⟨fun h0 h => by first | exact h | (rw [h]; rfl) | (rw [h0,h]; rfl),?_⟩
   conv => whnf
   refine ⟨fun h0 h => by first | exact h | (rw [h]; rfl) | (rw [h0,h]; rfl),?_⟩
   conv => whnf
   refine Tri.cond _ rfl (fun hc => ?_) (fun hc => ?_)
   ·refine Tri.seq ?_
    refine Tri.region ti_ok ?_
    conv => whnf
    refine Tri.ret ?_
    conv => whnf
    have hbad : badAt r = true:=by rw [badAt_eq]; exact hc
    have : chars s = ([],3):=by rw [chars,if_neg hs2,hch,charsP_cons hr,if_pos hbad]; rfl
    rw [this]
    exact ⟨DLe.nil,.refl _,trivial⟩
   ·refine Tri.skip ?_
    have hbad : badAt r = false:=by rw [badAt_eq]; exact hc
    conv => whnf
    refine Tri.seq ?_
    refine Tri.regionX ti_ok ?_
    conv => whnf
    refine .inl ?_
    conv => whnf
    refine .inl ⟨by simp [InR]; omega,?_⟩
    conv => whnf
    refine ⟨trivial,?_⟩
    conv => whnf
    refine .inl ?_
    conv => whnf
    refine ⟨rfl,rfl,?_⟩
    conv => whnf
    refine ⟨by show (_ + 1) * 8 ≤ _; omega,by show _ + 1 ≤ _; omega,(fun h => by cases h),fun v => ?_⟩
    conv => whnf
    refine Tri.region ti_ok ?_
    conv => whnf
    refine ⟨fun _ => by simp; omega,?_⟩
    conv => whnf
    exact ⟨(⟨(r.drop (dec r).2,acc ++ [((dec r).1 : Int)]),by rw [hch,charsP_cons hr,hbad]; simp [Function.comp_def],by simp; omega⟩,v),[(1000,37)],by show (r.drop (dec r).2).length < r.length; simp; omega,⟨DLe.of_eq (congrArg D.str (by simp)),DLe.ownEq (by simp [encInts]; rfl),trivial⟩,rfl,rfl,ownH (by simp [encInts]),trivial⟩
  ·refine Tri.exit ?_
   conv => whnf
   refine Tri.seq ?_
   refine Tri.region ti_ok ?_
   conv => whnf
   refine Tri.ret ?_
   conv => whnf
   have hr : r = []:=by simpa using hc
   subst hr
   have : chars s = (acc,0):=by rw [chars,if_neg hs2,hch]; simp [charsP,charsGo]
   rw [this]
   exact ⟨DLe.unown,.refl _,trivial⟩
end Go.Tame.V
/- Contracts: the reference's characters. By program (mk.py). -/
namespace Go.Tame.V
open Go Go.Proofs
variable {W0 : World}
set_option maxRecDepth 10000
set_option linter.unusedVariables false
set_option linter.unusedSimpArgs false

def u8i (n : Int) : UInt8:=UInt8.ofNat n.toNat
theorem u8_row (l : List Int) (h : ∀ n ∈ l,0 ≤ n ∧ n ≤ 255) : l.map (D.int .u8) = (l.map u8i).map fun c => D.int .u8 c.toNat:=by
 rw [List.map_map]
 apply List.map_congr_left
 intro n hn
 have:=h n hn
 simp only [Function.comp,u8i]
 congr 1
 simp; omega
def enc17 (v : Int) : List Int :=
 if v < 128 then [v] else if v < 2048 then [192 + v.tdiv 64,128 + v.tmod 64] else [224 + v.tdiv 4096,128 + (v.tdiv 64).tmod 64,128 + v.tmod 64]
def enc17s (v : Int) : List UInt8:=(enc17 v).map u8i
theorem tdiv_eq {v k : Int} (h : 0 ≤ v) (hk : 0 < k) : v.tdiv k = v / k:=Int.tdiv_eq_ediv_of_nonneg h
theorem tmod_eq {v k : Int} (h : 0 ≤ v) : v.tmod k = v % k:=Int.tmod_eq_emod_of_nonneg h

theorem F156 (v : Int) (h0 : 0 ≤ v) (h1 : v ≤ 65535) : DFun Tryz.prog W0 184 [.int .i64 v] (.str (enc17s v)):=by
 refine DFun.intro ti_ok Tryz.func184 rfl (by decide +kernel) Tryz.ntmps184 rfl fun Γ => ?_
 refine Tri.seq ?_
 refine Tri.region ti_ok ?_
 conv => whnf
 refine Tri.seq ?_
 refine Tri.seq ?_
 refine Tri.region ti_ok ?_
 conv => whnf
 refine Tri.cond _ rfl (fun hc => ?_) (fun hc => ?_)
 ·refine Tri.seq ?_
  refine Tri.regionX ti_ok ?_
  conv => whnf
  refine .inl ?_
  conv => whnf
  refine .inl ⟨by simp at hc; simp [InR]; omega,?_⟩
  conv => whnf
  refine ⟨trivial,?_⟩
  conv => whnf
  refine .inr (XOp.bytesStr ti_ok (bs:=[v].map u8i) (tg:=.full) rfl rfl rfl rfl rfl rfl (congrArg (D.sl .full 1) (u8_row [v] (by simp at hc ⊢; omega))) ?_)
  conv => whnf
  refine Tri.ret ?_
  conv => whnf
  exact DLe.of_eq (congrArg D.str (by rw [enc17s,enc17,if_pos (by simpa using hc)]))
 ·refine Tri.skip ?_
  conv => whnf
  refine Tri.seq ?_
  refine Tri.seq ?_
  refine Tri.region ti_ok ?_
  conv => whnf
  have e1:=tdiv_eq h0 (k:=64) (by omega)
  have e2:=tmod_eq (k:=64) h0
  have e3:=tdiv_eq h0 (k:=4096) (by omega)
  have e4:=tmod_eq (v:=v.tdiv 64) (k:=64) (by omega)
  refine Tri.cond _ rfl (fun hc => ?_) (fun hc => ?_)
  ·refine Tri.seq ?_
   refine Tri.regionX ti_ok ?_
   conv => whnf
   refine ⟨fun _ => by simp,?_⟩
   conv => whnf
   refine .inl ⟨fun _ => by simp at hc; simp only [InR]; omega,?_⟩
   conv => whnf
   refine .inl ⟨fun _ => by simp at hc; simp only [InR]; omega,?_⟩
   conv => whnf
   refine .inl ?_
   conv => whnf
   refine .inl ⟨by simp at hc; simp only [InR]; omega,?_⟩
   conv => whnf
   refine ⟨fun _ => by simp,?_⟩
   conv => whnf
   refine .inl ⟨fun _ => by simp at hc; simp only [InR]; omega,?_⟩
   conv => whnf
   refine .inl ?_
   conv => whnf
   refine .inl ⟨by simp at hc; simp only [InR]; omega,?_⟩
   conv => whnf
   refine ⟨trivial,?_⟩
   conv => whnf
   refine .inr (XOp.bytesStr ti_ok (bs:=[192 + v.tdiv 64,128 + v.tmod 64].map u8i) (tg:=.full) rfl rfl rfl rfl rfl rfl (congrArg (D.sl .full 1) (u8_row [192 + v.tdiv 64,128 + v.tmod 64] (by simp at hc ⊢; omega))) ?_)
   conv => whnf
   refine Tri.ret ?_
   conv => whnf
   exact DLe.of_eq (congrArg D.str (by simp only [decide_eq_true_eq,decide_eq_false_iff_not] at *; rw [enc17s,enc17,if_neg (by assumption),if_pos (by assumption)]))
  ·refine Tri.skip ?_
   conv => whnf
   refine Tri.seq ?_
   refine Tri.regionX ti_ok ?_
   conv => whnf
   refine ⟨fun _ => by simp,?_⟩
   conv => whnf
   refine .inl ⟨fun _ => by simp at hc; simp only [InR]; omega,?_⟩
   conv => whnf
   refine .inl ⟨fun _ => by simp at hc; simp only [InR]; omega,?_⟩
   conv => whnf
   refine .inl ?_
   conv => whnf
   refine .inl ⟨by simp at hc; simp only [InR]; omega,?_⟩
   conv => whnf
   refine ⟨fun _ => by simp,?_⟩
   conv => whnf
   refine .inl ⟨fun _ => by simp at hc; simp only [InR]; omega,?_⟩
   conv => whnf
   refine ⟨fun _ => by simp,?_⟩
   conv => whnf
   refine .inl ⟨fun _ => by simp at hc; simp only [InR]; omega,?_⟩
   conv => whnf
   refine .inl ?_
   conv => whnf
   refine .inl ⟨by simp at hc; simp only [InR]; omega,?_⟩
   conv => whnf
   refine ⟨fun _ => by simp,?_⟩
   conv => whnf
   refine .inl ⟨fun _ => by simp at hc; simp only [InR]; omega,?_⟩
   conv => whnf
   refine .inl ?_
   conv => whnf
   refine .inl ⟨by simp at hc; simp only [InR]; omega,?_⟩
   conv => whnf
   refine ⟨trivial,?_⟩
   conv => whnf
   refine .inr (XOp.bytesStr ti_ok (bs:=[224 + v.tdiv 4096,128 + (v.tdiv 64).tmod 64,128 + v.tmod 64].map u8i) (tg:=.full) rfl rfl rfl rfl rfl rfl (congrArg (D.sl .full 1) (u8_row [224 + v.tdiv 4096,128 + (v.tdiv 64).tmod 64,128 + v.tmod 64] (by simp at hc ⊢; omega))) ?_)
   conv => whnf
   refine Tri.ret ?_
   conv => whnf
   exact DLe.of_eq (congrArg D.str (by simp only [decide_eq_true_eq,decide_eq_false_iff_not] at *; rw [enc17s,enc17,if_neg (by assumption),if_neg (by assumption)]))

def bA (s : List UInt8) (k : Nat) : Int:=((s.getD k 0).toNat : Nat)
def val12 (s : List UInt8) (i : Nat) : Int:=if i = 2 then (bA s 0 - 192) * 64 + bA s 1 - 128 else bA s 0
def valN (s : List UInt8) (i : Nat) : Int:=if i = 3 then (bA s 0 - 224) * 4096 + (bA s 1 - 128) * 64 + bA s 2 - 128 else val12 s i
def hit (s : List UInt8) (i : Nat) : Bool:=isChar (valN s i) && enc17s (valN s i) == s.take i
theorem bA_le (s : List UInt8) (k : Nat) : 0 ≤ bA s k ∧ bA s k ≤ 255:=by
 unfold bA; have:=(s.getD k 0).toNat_lt; omega
theorem bA_get (s : List UInt8) {k : Nat} (h : k < s.length) : s[k]? = some (s.getD k 0):=by simp [List.getD,h]
/-- What 'first' hands back: the first of three tries that fits. -/
def first (s : List UInt8) : Int × Int:=if 1 ≤ s.length ∧ hit s 1 = true then (valN s 1,1) else if 2 ≤ s.length ∧ hit s 2 = true then (valN s 2,2) else if 3 ≤ s.length ∧ hit s 3 = true then (valN s 3,3) else (0,0)
theorem isChar_in {r : Int} (h : isChar r = true) : 32 ≤ r ∧ r ≤ 65533:=by
 unfold isChar at h; simp only [Bool.and_eq_true,decide_eq_true_eq] at h; exact ⟨h.1,h.2.1⟩
theorem first_hit {s : List UInt8} {i : Nat} (h1 : 1 ≤ i) (h3 : i ≤ 3) (hl : i ≤ s.length) (hh : hit s i = true) (hno : ∀ m,1 ≤ m → m < i → hit s m = false) : first s = (valN s i,(i : Int)):=by
 unfold first
 match i,h1,h3 with
 | 1,_,_ => rw [if_pos ⟨hl,hh⟩]; rfl
 | 2,_,_ => rw [if_neg (by rw [hno 1 (by omega) (by omega)]; simp),if_pos ⟨hl,hh⟩]; rfl
 | 3,_,_ => rw [if_neg (by rw [hno 1 (by omega) (by omega)]; simp),if_neg (by rw [hno 2 (by omega) (by omega)]; simp),if_pos ⟨hl,hh⟩]; rfl
theorem first_none {s : List UInt8} {i : Nat} (hi : 3 < i ∨ s.length < i) (hno : ∀ m,1 ≤ m → m < i → hit s m = false) : first s = (0,0):=by
 unfold first
 rw [if_neg,if_neg,if_neg]
 all_goals rintro ⟨h1,h2⟩
 ·rw [hno 3 (by omega) (by omega)] at h2; cases h2
 ·rw [hno 2 (by omega) (by omega)] at h2; cases h2
 ·rw [hno 1 (by omega) (by omega)] at h2; cases h2

theorem F130 (s : List UInt8) (hs : s.length < 1000000000) : DFun Tryz.prog W0 167 [.str s] (.tup [.int .i64 (first s).1,.int .i64 (first s).2]):=by
 refine DFun.intro ti_ok Tryz.func167 rfl (by decide +kernel) Tryz.ntmps167 rfl fun Γ => ?_
 refine Tri.seq ?_
 refine Tri.region ti_ok ?_
 conv => whnf
 refine Tri.seq ?_
 refine Tri.seq ?_
 refine Tri.region ti_ok ?_
 conv => whnf
 refine Tri.block ?_
 refine Tri.loop (α:={ i : Nat // 1 ≤ i ∧ i ≤ 4 ∧ ∀ m,1 ≤ m → m < i → hit s m = false }) (fun x => [(0,.str s),(4,.int .i64 x.1)]) (fun _ => []) (fun x => 4 - x.1) ⟨1,by omega,by omega,fun m h1 h2 => by omega⟩ ⟨.refl _,.refl _,trivial⟩ trivial ?_
 rintro ⟨i,hi1,hi4,hno⟩
 dsimp only
 refine Tri.seq ?_
 refine Tri.seq ?_
 refine Tri.region ti_ok ?_
 conv => whnf
 refine ⟨fun h => h,?_⟩
 conv => whnf
 refine ⟨fun h => h,?_⟩
 conv => whnf
 refine ⟨fun h => h,?_⟩
 conv => whnf
 refine ⟨fun h0 h => by first | exact h | (rw [h]; rfl) | (rw [h0,h]; rfl),?_⟩
 conv => whnf
 refine Tri.cond _ rfl (fun hc => ?_) (fun hc => ?_)
 ·refine Tri.skip ?_
  conv => whnf
  have hi : i ≤ 3 ∧ i ≤ s.length:=by
   cases h3 : decide ((i : Int) ≤ 3) <;> rw [h3] at hc <;> simp at h3 hc <;> omega
  have hb0:=bA_le s 0
  have hb1:=bA_le s 1
  have hb2:=bA_le s 2
  refine Tri.seq ?_
  refine Tri.block ?_
  refine Tri.seq ?_
  refine Tri.region ti_ok ?_
  conv => whnf
  refine ⟨s.getD 0 0,fun _ => ⟨by omega,bA_get s (by omega)⟩,?_⟩
  conv => whnf
  refine .inl ⟨by have:=(s.getD 0 0).toNat_lt; simp only [InR]; omega,?_⟩
  conv => whnf
  refine Tri.joinK (α:=Unit) (fun x => [(0,.str s),(4,.int .i64 i),(5,.int .i64 (val12 s i))]) (fun x => []) ?_ ?_
  ·refine Tri.seq ?_
   refine Tri.region ti_ok ?_
   conv => whnf
   refine Tri.cond _ rfl (fun hc => ?_) (fun hc => ?_)
   ·refine Tri.draw ti_ok mixed (by kernel_rfl) ?_
    conv => whnf
    refine ⟨s.getD 0 0,fun _ => ⟨by omega,bA_get s (by omega)⟩,?_⟩
    conv => whnf
    refine .inl ⟨by have:=(s.getD 0 0).toNat_lt; simp only [InR]; omega,?_⟩
    conv => whnf
    refine .inl ⟨fun _ => by have:=(s.getD 0 0).toNat_lt; simp only [InR]; omega,?_⟩
    conv => whnf
    refine .inl ⟨fun _ => by have:=(s.getD 0 0).toNat_lt; simp only [InR]; omega,?_⟩
    conv => whnf
    refine ⟨s.getD 1 0,fun _ => ⟨by omega,bA_get s (by simp at hc; omega)⟩,?_⟩
    conv => whnf
    refine .inl ⟨by have:=(s.getD 1 0).toNat_lt; simp only [InR]; omega,?_⟩
    conv => whnf
    refine .inl ⟨fun _ => by have:=(s.getD 0 0).toNat_lt; have:=(s.getD 1 0).toNat_lt; simp only [InR]; omega,?_⟩
    conv => whnf
    refine .inl ⟨fun _ => by have:=(s.getD 0 0).toNat_lt; have:=(s.getD 1 0).toNat_lt; simp only [InR]; omega,?_⟩
    conv => whnf
    have h2 : i = 2:=by simp at hc; omega
    exact ⟨(),[],⟨.refl _,.refl _,intDLe (by rw [val12,if_pos h2]; rfl),trivial⟩,rfl,trivial⟩
   ·refine Tri.skip ?_
    conv => whnf
    have h2 : i ≠ 2:=by simp at hc; omega
    exact ⟨(),[],⟨.refl _,.refl _,intDLe (by rw [val12,if_neg h2]; rfl),trivial⟩,rfl,trivial⟩
  ·rintro ⟨⟩
   refine Tri.joinK (α:=Unit) (fun x => [(0,.str s),(4,.int .i64 i),(5,.int .i64 (valN s i))]) (fun x => []) ?_ ?_
   ·refine Tri.seq ?_
    refine Tri.region ti_ok ?_
    conv => whnf
    refine Tri.cond _ rfl (fun hc => ?_) (fun hc => ?_)
    ·refine Tri.draw ti_ok mixed (by kernel_rfl) ?_
     conv => whnf
     refine ⟨s.getD 0 0,fun _ => ⟨by omega,bA_get s (by omega)⟩,?_⟩
     conv => whnf
     have hu0:=(s.getD 0 0).toNat_lt
     have hu1:=(s.getD 1 0).toNat_lt
     have hu2:=(s.getD 2 0).toNat_lt
     refine .inl ⟨by simp only [InR]; omega,?_⟩
     conv => whnf
     refine .inl ⟨fun _ => by simp only [InR]; omega,?_⟩
     conv => whnf
     refine .inl ⟨fun _ => by simp only [InR]; omega,?_⟩
     conv => whnf
     refine ⟨s.getD 1 0,fun _ => ⟨by omega,bA_get s (by simp at hc; omega)⟩,?_⟩
     conv => whnf
     refine .inl ⟨by simp only [InR]; omega,?_⟩
     conv => whnf
     refine .inl ⟨fun _ => by simp only [InR]; omega,?_⟩
     conv => whnf
     refine .inl ⟨fun _ => by simp only [InR]; omega,?_⟩
     conv => whnf
     refine .inl ⟨fun _ => by simp only [InR]; omega,?_⟩
     conv => whnf
     refine ⟨s.getD 2 0,fun _ => ⟨by omega,bA_get s (by simp at hc; omega)⟩,?_⟩
     conv => whnf
     refine .inl ⟨by simp only [InR]; omega,?_⟩
     conv => whnf
     refine .inl ⟨fun _ => by simp only [InR]; omega,?_⟩
     conv => whnf
     refine .inl ⟨fun _ => by simp only [InR]; omega,?_⟩
     conv => whnf
     have h2 : i = 3:=by simp at hc; omega
     exact ⟨(),[],⟨.refl _,.refl _,intDLe (by rw [valN,if_pos h2]; rfl),trivial⟩,rfl,trivial⟩
    ·refine Tri.skip ?_
     conv => whnf
     have h2 : i ≠ 3:=by simp at hc; omega
     exact ⟨(),[],⟨.refl _,.refl _,intDLe (by rw [valN,if_neg h2]),trivial⟩,rfl,trivial⟩
   ·rintro ⟨⟩
    refine Tri.seq ?_
    refine Tri.draw ti_ok mixed (by kernel_rfl) ?_
    conv => whnf
    refine ⟨_,_,fun _ => F155 _,⟨.refl _,trivial⟩,?_⟩
    conv => whnf
    refine ⟨fun h => h,?_⟩
    conv => whnf
    refine ⟨[.int .i64 (valN s i)],_,fun h => F156 _ (by have:=isChar_in h; omega) (by have:=isChar_in h; omega),⟨.refl _,trivial⟩,?_⟩
    conv => whnf
    refine ⟨fun h => h,?_⟩
    conv => whnf
    refine ⟨fun h => h,?_⟩
    conv => whnf
    refine ⟨fun h => by omega,?_⟩
    conv => whnf
    refine ⟨fun h => h,?_⟩
    conv => whnf
    refine ⟨fun h => h,?_⟩
    conv => whnf
    refine ⟨fun h0 h => by first | exact h | (rw [h]; rfl) | (rw [h0,h]; rfl),?_⟩
    conv => whnf
    have hhit : hit s i = (bif isChar (valN s i) then enc17s (valN s i) == (s.take (i : Int).toNat).drop (Int.toNat 0) else false):=by
     rw [hit,Int.toNat_natCast]; cases isChar (valN s i) <;> rfl
    refine Tri.cond _ rfl (fun hc => ?_) (fun hc => ?_)
    ·refine Tri.seq ?_
     refine Tri.region ti_ok ?_
     conv => whnf
     refine Tri.ret ?_
     conv => whnf
     have:=first_hit hi1 hi.1 hi.2 (hhit.trans hc) hno
     exact ⟨intDLe (by rw [this]),intDLe (by rw [this]),trivial⟩
    ·refine Tri.skip ?_
     conv => whnf
     refine Tri.region ti_ok ?_
     conv => whnf
     refine .inl ⟨fun _ => by simp [InR]; omega,?_⟩
     conv => whnf
     exact ⟨⟨i + 1,by omega,by omega,fun m h1 h2 => (Nat.lt_succ_iff_lt_or_eq.1 h2).elim (hno m h1) fun e => by subst e; exact hhit.trans hc⟩,by show 4 - (i + 1) < 4 - i; omega,⟨.refl _,.refl _,trivial⟩,trivial⟩
 ·refine Tri.exit ?_
  conv => whnf
  refine Tri.seq ?_
  refine Tri.region ti_ok ?_
  conv => whnf
  refine Tri.ret ?_
  conv => whnf
  have hi : 3 < i ∨ s.length < i:=by
   cases h3 : decide ((i : Int) ≤ 3) <;> rw [h3] at hc <;> simp at h3 hc <;> omega
  have:=first_none hi hno
  exact ⟨intDLe (by rw [this]),intDLe (by rw [this]),trivial⟩
end Go.Tame.V
/- Plain laws of characters; contracts: the reference's characters,names. By program (mk.py). -/
namespace Go.Tame.V
open Go Go.Proofs
variable {W0 : World}
set_option maxRecDepth 10000
set_option linter.unusedVariables false
set_option linter.unusedSimpArgs false

theorem take1 {s : List UInt8} (h : 1 ≤ s.length) : s.take 1 = [s.getD 0 0]:=by match s,h with | a::t,_ => rfl
theorem take2 {s : List UInt8} (h : 2 ≤ s.length) : s.take 2 = [s.getD 0 0,s.getD 1 0]:=by match s,h with | a::b::t,_ => rfl
theorem take3 {s : List UInt8} (h : 3 ≤ s.length) : s.take 3 = [s.getD 0 0,s.getD 1 0,s.getD 2 0]:=by match s,h with | a::b::c::t,_ => rfl
theorem get_bang (s : List UInt8) (k : Nat) : (⟨⟨s⟩⟩ : ByteArray).get! k = s.getD k 0:=by
 show (⟨s⟩ : Array UInt8)[k]! = _
 rw [getElem!_def]
 simp [List.getD]
 cases h : s[k]? <;> rfl
/-- The decoder,said of bytes as numbers. -/
def decN (n b0 b1 b2 b3 : Nat) : Nat × Nat :=
 if b0 < 128 then (b0,1)
 else if b0 / 32 = 6 ∧ 1 < n ∧ b1 / 64 = 2 then
  if (b0 % 32) * 64 + b1 % 64 ≥ 128 then ((b0 % 32) * 64 + b1 % 64,2) else (65533,1)
 else if b0 / 16 = 14 ∧ (1 < n ∧ b1 / 64 = 2) ∧ 2 < n ∧ b2 / 64 = 2 then
  if (b0 % 16) * 4096 + (b1 % 64) * 64 + b2 % 64 ≥ 2048 ∧ ((b0 % 16) * 4096 + (b1 % 64) * 64 + b2 % 64 < 55296 ∨ 57344 ≤ (b0 % 16) * 4096 + (b1 % 64) * 64 + b2 % 64)
  then ((b0 % 16) * 4096 + (b1 % 64) * 64 + b2 % 64,3) else (65533,1)
 else if b0 / 8 = 30 ∧ (1 < n ∧ b1 / 64 = 2) ∧ (2 < n ∧ b2 / 64 = 2) ∧ 3 < n ∧ b3 / 64 = 2 then
  if (b0 % 8) * 262144 + (b1 % 64) * 4096 + (b2 % 64) * 64 + b3 % 64 ≥ 65536 ∧ (b0 % 8) * 262144 + (b1 % 64) * 4096 + (b2 % 64) * 64 + b3 % 64 ≤ 1114111
  then ((b0 % 8) * 262144 + (b1 % 64) * 4096 + (b2 % 64) * 64 + b3 % 64,4) else (65533,1)
 else (65533,1)
theorem dec_eq {s : List UInt8} (h : s ≠ []) : dec s = decN s.length (s.getD 0 0).toNat (s.getD 1 0).toNat (s.getD 2 0).toNat (s.getD 3 0).toNat:=by
 have h0 : ¬ (⟨⟨s⟩⟩ : ByteArray).size = 0:=fun e => h (List.eq_nil_of_length_eq_zero e)
 have hl : (⟨⟨s⟩⟩ : ByteArray).size = s.length:=rfl
 unfold dec Lib.decodeGo
 rw [if_neg h0]
 unfold Utf8.decode
 dsimp only
 simp only [get_bang,Nat.zero_add,hl]
 have hu0:=(s.getD 0 0).toNat_lt
 generalize (s.getD 0 0).toNat = b0 at *
 generalize (s.getD 1 0).toNat = b1
 generalize (s.getD 2 0).toNat = b2
 generalize (s.getD 3 0).toNat = b3
 unfold decN
 have hre : Utf8.runeError = 65533:=rfl
 simp only [hre,Bool.and_eq_true,Bool.or_eq_true,decide_eq_true_eq,ge_iff_le,Utf8.valid,beq_iff_eq,and_assoc]
 repeat' split
 all_goals first | rfl | (exfalso; omega) | skip

def bytesOf (v : Int) (b0 b1 b2 : Int) : Nat → Prop
 | 1 => v < 128 ∧ b0 = v
 | 2 => 128 ≤ v ∧ v < 2048 ∧ b0 = 192 + v / 64 ∧ b1 = 128 + v % 64
 | 3 => 2048 ≤ v ∧ b0 = 224 + v / 4096 ∧ b1 = 128 + v / 64 % 64 ∧ b2 = 128 + v % 64
 | _ => False
theorem u8i_eq {n : Int} {b : UInt8} (h0 : 0 ≤ n) (h1 : n ≤ 255) : u8i n = b ↔ ((b.toNat : Nat) : Int) = n:=by
 unfold u8i
 rw [← UInt8.toNat_inj]
 have hb:=b.toNat_lt
 simp
 omega
theorem enc_take {s : List UInt8} {i : Nat} {v : Int} (h0 : 0 ≤ v) (h1 : v ≤ 65535) (hi : 1 ≤ i) (hi3 : i ≤ 3) (hl : i ≤ s.length) : enc17s v = s.take i ↔ bytesOf v (bA s 0) (bA s 1) (bA s 2) i:=by
 have e1:=tdiv_eq h0 (k:=64) (by omega)
 have e2:=tmod_eq (k:=64) h0
 have e3:=tdiv_eq h0 (k:=4096) (by omega)
 have e4:=tmod_eq (v:=v.tdiv 64) (k:=64) (by omega)
 unfold enc17s enc17
 match i,hi,hi3 with
 | 1,_,_ =>
  rw [take1 hl]
  unfold bytesOf bA
  split
  ·simp only [List.map_cons,List.map_nil,List.cons.injEq,and_true]
   rw [u8i_eq (by omega) (by omega)]; omega
  ·split <;> simp <;> omega
 | 2,_,_ =>
  rw [take2 hl]
  unfold bytesOf bA
  split
  ·simp; omega
  ·split
   ·simp only [List.map_cons,List.map_nil,List.cons.injEq,and_true]
    rw [u8i_eq (by omega) (by omega),u8i_eq (by omega) (by omega)]; omega
   ·simp; omega
 | 3,_,_ =>
  rw [take3 hl]
  unfold bytesOf bA
  split
  ·simp; omega
  ·split
   ·simp; omega
   ·simp only [List.map_cons,List.map_nil,List.cons.injEq,and_true]
    rw [u8i_eq (by omega) (by omega),u8i_eq (by omega) (by omega),u8i_eq (by omega) (by omega)]; omega
theorem hit_iff {s : List UInt8} {i : Nat} (hi : 1 ≤ i) (hi3 : i ≤ 3) (hl : i ≤ s.length) : hit s i = true ↔ isChar (valN s i) = true ∧ bytesOf (valN s i) (bA s 0) (bA s 1) (bA s 2) i:=by
 unfold hit
 rw [Bool.and_eq_true,beq_iff_eq]
 constructor
 ·rintro ⟨h1,h2⟩
  have:=isChar_in h1
  exact ⟨h1,(enc_take (by omega) (by omega) hi hi3 hl).1 h2⟩
 ·rintro ⟨h1,h2⟩
  have:=isChar_in h1
  exact ⟨h1,(enc_take (by omega) (by omega) hi hi3 hl).2 h2⟩
theorem dec_hit {s : List UInt8} (hs : s ≠ []) {i : Nat} (hi : 1 ≤ i) (hi3 : i ≤ 3) (hl : i ≤ s.length) (h : hit s i = true) : ((dec s).1 : Int) = valN s i ∧ (dec s).2 = i:=by
 obtain ⟨h1,h2⟩:=(hit_iff hi hi3 hl).1 h
 rw [dec_eq hs]
 unfold isChar at h1
 simp only [Bool.and_eq_true,Bool.or_eq_true,decide_eq_true_eq] at h1
 unfold valN val12 bA at *
 have hu0:=(s.getD 0 0).toNat_lt
 have hu1:=(s.getD 1 0).toNat_lt
 have hu2:=(s.getD 2 0).toNat_lt
 generalize (s.getD 0 0).toNat = b0 at *
 generalize (s.getD 1 0).toNat = b1 at *
 generalize (s.getD 2 0).toNat = b2 at *
 generalize (s.getD 3 0).toNat = b3 at *
 unfold decN
 match i,hi,hi3 with
 | 1,_,_ =>
  simp only [Nat.reduceEqDiff,if_false,if_true,bytesOf] at h1 h2 ⊢
  rw [if_pos (by omega)]; simp
 | 2,_,_ =>
  simp only [Nat.reduceEqDiff,if_false,if_true,bytesOf] at h1 h2 ⊢
  rw [if_neg (by omega),if_pos (by omega),if_pos (by omega)]
  simp; omega
 | 3,_,_ =>
  simp only [Nat.reduceEqDiff,if_false,if_true,bytesOf] at h1 h2 ⊢
  rw [if_neg (by omega),if_neg (by omega),if_pos (by omega),if_pos (by omega)]
  simp; omega
theorem hit_dec {s : List UInt8} (hs : s ≠ []) (h : badAt s = false) : (dec s).2 ≤ 3 ∧ hit s (dec s).2 = true ∧ ((dec s).1 : Int) = valN s (dec s).2:=by
 obtain ⟨h1,h2,h3,h4⟩:=decode_size s hs
 have hb : isChar ((dec s).1 : Nat) = true ∧ ¬ ((dec s).1 = 65533 ∧ (dec s).2 = 1):=by
  unfold badAt at h
  simp only [Bool.or_eq_false_iff,Bool.not_eq_false',Bool.and_eq_false_iff,beq_eq_false_iff_ne] at h
  exact ⟨h.1,by omega⟩
 obtain ⟨hc,hn⟩:=hb
 have hci:=isChar_in hc
 have key : (dec s).2 ≤ 3 ∧ bytesOf ((dec s).1 : Nat) (bA s 0) (bA s 1) (bA s 2) (dec s).2 ∧ ((dec s).1 : Int) = valN s (dec s).2:=by
  unfold valN val12 bA
  rw [dec_eq hs] at *
  have hu0:=(s.getD 0 0).toNat_lt
  have hu1:=(s.getD 1 0).toNat_lt
  have hu2:=(s.getD 2 0).toNat_lt
  generalize (s.getD 0 0).toNat = b0 at *
  generalize (s.getD 1 0).toNat = b1 at *
  generalize (s.getD 2 0).toNat = b2 at *
  generalize (s.getD 3 0).toNat = b3 at *
  unfold decN at *
  repeat' split
  all_goals simp_all [bytesOf]
  all_goals omega
 refine ⟨key.1,?_,key.2.2⟩
 rw [hit_iff h1 key.1 h2,← key.2.2]
 exact ⟨hc,key.2.1⟩
theorem first_eq {s : List UInt8} (hs : s ≠ []) : first s = if badAt s then (0,0) else (((dec s).1 : Int),((dec s).2 : Int)):=by
 obtain ⟨h1,h2,h3,h4⟩:=decode_size s hs
 have hp : 0 < s.length:=List.length_pos_iff.2 hs
 cases hb : badAt s with
 | true =>
  rw [if_pos rfl]
  have hno : ∀ m,1 ≤ m → m < 4 → m ≤ s.length → hit s m = false:=fun m hm1 hm2 hml => by
   rw [Bool.eq_false_iff]; intro hh
   obtain ⟨e1,e2⟩:=dec_hit hs hm1 (by omega) hml hh
   obtain ⟨c1,c2⟩:=(hit_iff hm1 (by omega) hml).1 hh
   unfold badAt at hb
   simp only [Bool.or_eq_true,Bool.not_eq_true',Bool.and_eq_true,beq_iff_eq] at hb
   rw [e1] at hb
   rcases hb with hb | ⟨b1,b2⟩
   ·rw [hb] at c1; cases c1
   ·have hm : m = 1:=by omega
    subst hm
    simp only [bytesOf] at c2
    omega
  unfold first
  rw [if_neg,if_neg,if_neg]
  all_goals rintro ⟨g1,g2⟩
  ·rw [hno 3 (by omega) (by omega) g1] at g2; cases g2
  ·rw [hno 2 (by omega) (by omega) g1] at g2; cases g2
  ·rw [hno 1 (by omega) (by omega) g1] at g2; cases g2
 | false =>
  rw [if_neg (by simp)]
  obtain ⟨g1,g2,g3⟩:=hit_dec hs hb
  rw [g3]
  refine first_hit h1 g1 h2 g2 fun m hm1 hm2 => ?_
  rw [Bool.eq_false_iff]; intro hh
  have:=(dec_hit hs hm1 (by omega) (by omega) hh).2
  omega
end Go.Tame.V
/- Contracts: names. By program (mk.py). -/
namespace Go.Tame.V
open Go Go.Proofs
variable {W0 : World}
set_option maxRecDepth 10000
set_option linter.unusedVariables false
set_option linter.unusedSimpArgs false

theorem F114 (s : List UInt8) (hs : s.length < 1000000000) : DFun Tryz.prog W0 146 [.str s] (.tup [.sl .none 1 (encInts .i64 (chars s).1),.int .i64 (chars s).2]):=by
 refine DFun.intro ti_ok Tryz.func146 rfl (by decide +kernel) Tryz.ntmps146 rfl fun Γ => ?_
 refine Tri.seq ?_
 refine Tri.region ti_ok ?_
 conv => whnf
 refine Tri.seq ?_
 refine Tri.seq ?_
 refine Tri.region ti_ok ?_
 conv => whnf
 refine Tri.cond _ rfl (fun hc => ?_) (fun hc => ?_)
 ·refine Tri.seq ?_
  refine Tri.region ti_ok ?_
  conv => whnf
  refine Tri.ret ?_
  conv => whnf
  have : chars s = ([],7):=by rw [chars,if_pos (by simp at hc; omega)]
  rw [this]
  exact ⟨DLe.nil,.refl _,trivial⟩
 ·refine Tri.skip ?_
  conv => whnf
  have hs2 : ¬ 65536 < s.length:=by simp at hc; omega
  refine Tri.seq ?_
  refine Tri.region ti_ok ?_
  conv => whnf
  refine Tri.seq ?_
  refine Tri.own 4 1000 1 3 rfl (fun v => ?_)
  refine Tri.block ?_
  refine Tri.loopK (α:={ x : List UInt8 × List Int // charsP s = (charsP x.1).map (x.2 ++ ·) ∧ x.1.length + x.2.length ≤ s.length } × Value)
   (fun x => [(0,.str x.1.1.1),(4,.sl (.own 1000 x.2) 1 (encInts .i64 x.1.1.2))]) (fun x => [(1000,.own x.2 (encInts .i64 x.1.1.2).length 1 3)]) (fun x => x.1.1.1.length) (⟨(s,[]),by simp,by simp⟩,v) [(1000,1000)]
   ⟨⟨.refl _,.refl _,trivial⟩,rfl,rfl,rfl,trivial⟩ ?_
  rintro ⟨⟨⟨r,acc⟩,hch,hlen⟩,v⟩
  dsimp only at hch hlen ⊢
  refine Tri.seq ?_
  refine Tri.seq ?_
  refine Tri.region ti_ok ?_
  conv => whnf
  refine Tri.cond _ rfl (fun hc => ?_) (fun hc => ?_)
  ·refine Tri.skip ?_
   conv => whnf
   have hr : r ≠ []:=by intro e; subst e; simp at hc
   obtain ⟨hd1,hd2,hd3,hd4⟩:=decode_size r hr
   have hal : (encInts .i64 acc).length = acc.length:=by simp [encInts]
   have hfe:=first_eq hr
   refine Tri.block ?_
   refine Tri.seq ?_
   refine Tri.region ti_ok ?_
   conv => whnf
   refine ⟨_,_,fun _ => F130 r (by omega),⟨.refl _,trivial⟩,?_⟩
   conv => whnf
   refine Tri.seq ?_
   refine Tri.seq ?_
   refine Tri.region ti_ok ?_
   conv => whnf
   refine Tri.cond _ rfl (fun hc => ?_) (fun hc => ?_)
   ·refine Tri.seq ?_
    refine Tri.region ti_ok ?_
    conv => whnf
    refine Tri.ret ?_
    conv => whnf
    have hbad : badAt r = true:=by
     cases hb : badAt r with
     | true => rfl
     | false => rw [hb,if_neg (by simp)] at hfe; rw [hfe] at hc; simp at hc; omega
    have : chars s = ([],3):=by rw [chars,if_neg hs2,hch,charsP_cons hr,if_pos hbad]; rfl
    rw [this]
    exact ⟨DLe.nil,.refl _,trivial⟩
   ·refine Tri.skip ?_
    conv => whnf
    have hbad : badAt r = false:=by
     cases hb : badAt r with
     | false => rfl
     | true => rw [hb,if_pos rfl] at hfe; rw [hfe] at hc; simp at hc
    rw [hbad,if_neg (by simp)] at hfe
    refine Tri.seq ?_
    refine Tri.region ti_ok ?_
    conv => whnf
    refine ⟨trivial,?_⟩
    conv => whnf
    refine ⟨rfl,rfl,?_⟩
    conv => whnf
    refine ⟨by show (_ + 1) * 8 ≤ _; omega,by show _ + 1 ≤ _; omega,(fun h => by cases h),fun v => ?_⟩
    conv => whnf
    refine Tri.region ti_ok ?_
    conv => whnf
    refine ⟨fun _ => by rw [hfe]; simp; omega,?_⟩
    conv => whnf
    exact ⟨(⟨(r.drop (dec r).2,acc ++ [((dec r).1 : Int)]),by rw [hch,charsP_cons hr,hbad]; simp [Function.comp_def],by simp; omega⟩,v),[(1000,23)],by show (r.drop (dec r).2).length < r.length; simp; omega,⟨DLe.of_eq (congrArg D.str (by rw [hfe]; simp)),DLe.ownEq (by rw [hfe]; simp [encInts]; rfl),trivial⟩,rfl,rfl,ownH (by simp [encInts]),trivial⟩
  ·refine Tri.exit ?_
   conv => whnf
   refine Tri.seq ?_
   refine Tri.region ti_ok ?_
   conv => whnf
   refine Tri.ret ?_
   conv => whnf
   have hr : r = []:=by simpa using hc
   subst hr
   have : chars s = (acc,0):=by rw [chars,if_neg hs2,hch]; simp [charsP,charsGo]
   rw [this]
   exact ⟨DLe.unown,.refl _,trivial⟩

def nameOk (s : List UInt8) : Bool :=
 if s = [46] ∨ s = [46,46] ∨ (47 : UInt8) ∈ s then false else (chars s).2 == 0 && (decide (1 ≤ (chars s).1.length) && decide ((chars s).1.length ≤ 64))
theorem index_mem (c : UInt8) : ∀ s : List UInt8,decide (0 ≤ Lib.indexByte s c) = decide (c ∈ s)
 | [] => by simp [Lib.indexByte]
 | b::l => by
  have ih:=index_mem c l
  have hge:=Lib.indexByte_ge l c
  rw [decide_eq_decide] at ih ⊢
  unfold Lib.indexByte
  by_cases hb : b = c
  ·subst hb; simp
  ·rw [if_neg (by simpa using hb)]
   have : c ∈ b::l ↔ c ∈ l:=by simp [Ne.symm hb]
   rw [this,← ih]
   cases hm : Lib.indexByte l c == -1 with
   | true => rw [if_pos rfl]; have:=eq_of_beq hm; omega
   | false => rw [if_neg (by simp)]; have : Lib.indexByte l c ≠ -1 := fun e => by rw [e] at hm; simp at hm
              omega

theorem F100 (hL : LibOk W0) (s : List UInt8) (hs : s.length < 1000000000) : DFun Tryz.prog W0 105 [.str s] (.bool (nameOk s)):=by
 refine DFun.intro ti_ok Tryz.func105 rfl (by decide +kernel) Tryz.ntmps105 rfl fun Γ => ?_
 refine Tri.seq ?_
 refine Tri.region ti_ok ?_
 conv => whnf
 refine Tri.seq ?_
 refine Tri.seq ?_
 refine Tri.region ti_ok ?_
 conv => whnf
 refine ⟨fun h => h,?_⟩
 conv => whnf
 refine ⟨fun h0 h => by first | exact h | (rw [h]; rfl) | (rw [h0,h]; rfl),?_⟩
 conv => whnf
 refine ⟨fun h => h,?_⟩
 conv => whnf
 refine ⟨_,_,fun h => F119 s 47,⟨.refl _,.refl _,trivial⟩,?_⟩
 conv => whnf
 refine ⟨fun h0 h => by first | exact h | (rw [h]; rfl) | (rw [h0,h]; rfl),?_⟩
 conv => whnf
 have hcc : (bif bif s == [46] then true else s == [46,46] then true else decide (0 ≤ Lib.indexByte s 47)) = decide (s = [46] ∨ s = [46,46] ∨ (47 : UInt8) ∈ s):=by
  rw [index_mem]
  by_cases h1 : s = [46]
  ·simp [h1]
  ·by_cases h2 : s = [46,46] <;> simp [h1,h2]
 refine Tri.cond _ rfl (fun hc => ?_) (fun hc => ?_)
 ·refine Tri.seq ?_
  refine Tri.region ti_ok ?_
  conv => whnf
  refine Tri.ret ?_
  conv => whnf
  exact DLe.of_eq (congrArg D.bool (by rw [nameOk,if_pos (of_decide_eq_true (hcc.symm.trans hc))]))
 ·refine Tri.skip ?_
  conv => whnf
  refine Tri.seq ?_
  refine Tri.region ti_ok ?_
  conv => whnf
  refine ⟨_,_,fun _ => F120 hL s hs,⟨.refl _,trivial⟩,?_⟩
  conv => whnf
  refine Tri.seq ?_
  refine Tri.region ti_ok ?_
  conv => whnf
  refine ⟨fun h => h,?_⟩
  conv => whnf
  refine ⟨fun h => h,?_⟩
  conv => whnf
  refine ⟨fun h0 h => by first | exact h | (rw [h]; rfl) | (rw [h0,h]; rfl),?_⟩
  conv => whnf
  refine ⟨fun h => h,?_⟩
  conv => whnf
  refine ⟨fun h => h,?_⟩
  conv => whnf
  refine ⟨fun h0 h => by first | exact h | (rw [h]; rfl) | (rw [h0,h]; rfl),?_⟩
  conv => whnf
  refine Tri.ret ?_
  conv => whnf
  refine DLe.of_eq (congrArg D.bool ?_)
  rw [nameOk,if_neg (of_decide_eq_false (hcc.symm.trans hc))]
  have hlen : (encInts .i64 (chars s).1).length = (chars s).1.length:=by simp [encInts]
  rw [hlen]
  cases (chars s).2 == 0
  ·rfl
  ·by_cases h1 : 1 ≤ (chars s).1.length <;> by_cases h2 : (chars s).1.length ≤ 64 <;> simp [h1,h2] <;> omega
end Go.Tame.V
/- Contracts: parts of texts,targets. By program (mk.py). -/
namespace Go.Tame.V
open Go Go.Proofs
variable {W0 : World}
set_option maxRecDepth 10000
set_option linter.unusedVariables false
set_option linter.unusedSimpArgs false

/-- The parts of a text between the bytes c; p: what stands ahead. -/
def splitG (c : UInt8) : List UInt8 → List UInt8 → List (List UInt8)
 | p,[] => [p]
 | p,b::r => if b = c then p::splitG c [] r else splitG c (p ++ [b]) r
theorem splitG_no {c : UInt8} : ∀ (s p : List UInt8),c ∉ s → splitG c p s = [p ++ s]
 | [],p,_ => by simp [splitG]
 | b::r,p,h => by
  have hb : b ≠ c:=fun e => h (by simp [e])
  have hr : c ∉ r:=fun e => h (by simp [e])
  rw [splitG,if_neg hb,splitG_no r _ hr]; simp
theorem splitG_at {c : UInt8} : ∀ (a p r : List UInt8),c ∉ a → splitG c p (a ++ c::r) = (p ++ a)::splitG c [] r
 | [],p,r,_ => by simp [splitG]
 | b::a,p,r,h => by
  have hb : b ≠ c:=fun e => h (by simp [e])
  have hr : c ∉ a:=fun e => h (by simp [e])
  rw [List.cons_append,splitG,if_neg hb,splitG_at a _ r hr]; simp
theorem splitG_len {c : UInt8} : ∀ (s p : List UInt8),(splitG c p s).length ≤ s.length + 1 ∧ ∀ x ∈ splitG c p s,x.length ≤ p.length + s.length
 | [],p => by simp [splitG]
 | b::r,p => by
  have h1:=splitG_len (c:=c) r []
  have h2:=splitG_len (c:=c) r (p ++ [b])
  rw [splitG]
  split
  ·refine ⟨by simp; omega,fun x hx => ?_⟩
   rcases List.mem_cons.1 hx with rfl | hx
   ·simp
   ·have:=h1.2 x hx; simp at this ⊢; omega
  ·refine ⟨by simp at h2 ⊢; omega,fun x hx => ?_⟩
   have:=h2.2 x hx; simp at this ⊢; omega
theorem splitB_eq (c : UInt8) : ∀ (n : Nat) (s : List UInt8),s.length ≤ n → (Lib.splitB ⟨⟨[c]⟩⟩ 0 (Lib.countB ⟨⟨s⟩⟩ ⟨⟨[c]⟩⟩) ⟨⟨s⟩⟩).map (fun b => b.data.toList) = splitG c [] s:=by
 intro n
 induction n with
 | zero =>
  intro s h
  have : s = []:=List.eq_nil_of_length_eq_zero (by omega)
  subst this
  rw [Lib.countB_miss _ _ (by rfl)]; rfl
 | succ n ih =>
  intro s h
  have hix : Lib.indexB ⟨⟨s⟩⟩ ⟨⟨[c]⟩⟩ = Lib.indexByte s c:=Lib.index_one s c
  have hge:=Lib.indexByte_ge s c
  by_cases hm : Lib.indexByte s c = -1
  ·have hno : c ∉ s:=fun hc => by
    obtain ⟨k,hk⟩:=List.mem_iff_getElem?.1 hc
    exact Lib.indexByte_none hm k hk
   rw [Lib.countB_miss _ _ (hix.trans hm),Lib.splitB_zero,splitG_no s [] hno]; rfl
  ·obtain ⟨i,hi⟩ : ∃ i : Nat,Lib.indexByte s c = i:=⟨(Lib.indexByte s c).toNat,by omega⟩
   obtain ⟨h1,h2⟩:=Lib.indexByte_some hi
   have hil : i < s.length:=by
    rcases Nat.lt_or_ge i s.length with h | h
    ·exact h
    ·rw [List.getElem?_eq_none h] at h1; cases h1
   have hsz : (⟨⟨[c]⟩⟩ : ByteArray).size = 1:=rfl
   have hss : (⟨⟨s⟩⟩ : ByteArray).size = s.length:=rfl
   have e0 : s.take s.length = s:=List.take_length
   rw [Lib.countB_hit _ _ i (by rw [hsz]; omega) (hix.trans hi),Nat.add_comm 1,Lib.splitB_hit _ _ _ _ i (hix.trans hi),hsz,hss,bytes_extract,bytes_extract,e0]
   have hs : s = s.take i ++ c::s.drop (i + 1):=by
    have:=List.getElem?_eq_some_iff.1 h1
    obtain ⟨_,he⟩:=this
    have h3:=List.drop_eq_getElem_cons hil
    rw [he] at h3
    rw [← h3,List.take_append_drop]
   have hno : c ∉ s.take i:=fun hc => by
    obtain ⟨k,hk⟩:=List.mem_iff_getElem?.1 hc
    rw [List.getElem?_take] at hk
    split at hk
    ·rename_i hlt; exact h2 k hlt hk
    ·cases hk
   rw [List.map_cons,ih (s.drop (i + 1)) (by simp; omega)]
   conv => rhs; rw [hs,splitG_at _ _ _ hno]
   simp
def strs (l : List (List UInt8)) : List D:=l.map D.str
theorem F121 (hL : LibOk W0) (s : List UInt8) (c : UInt8) (hs : s.length < 1000000000) : DFun Tryz.prog W0 96 [.str s,.str [c]] (.sl .full 1 (strs (splitG c [] s))):=by
 obtain ⟨m,hm⟩:=hL.maxlen
 have heq:=splitB_eq c s.length s (Nat.le_refl _)
 have hlen:=(splitG_len (c:=c) s []).1
 have hcl : Lib.countB ⟨⟨s⟩⟩ ⟨⟨[c]⟩⟩ + 1 = (strs (splitG c [] s)).length:=by
  have:=Lib.splitB_all (⟨⟨[c]⟩⟩ : ByteArray) (Nat.le_refl 1) 0 _ (⟨⟨s⟩⟩ : ByteArray) rfl
  rw [← this,strs,List.length_map,← heq,List.length_map]
 have hcells : ∀ x ∈ strs (splitG c [] s),x.cells = [x]:=fun x hx => by obtain ⟨y,_,rfl⟩:=List.mem_map.1 hx; rfl
 have hval : (Lib.splitB ⟨⟨[c]⟩⟩ 0 (Lib.countB ⟨⟨s⟩⟩ ⟨⟨[c]⟩⟩) ⟨⟨s⟩⟩).map Value.string = (splitG c [] s).map fun x => Value.string ⟨⟨x⟩⟩:=by
  rw [← heq,List.map_map]; rfl
 refine .newRow (us:=(splitG c [] s).map fun x => Value.string ⟨⟨x⟩⟩) (e:=9) (callable Tryz.func96 rfl (by decide +kernel)) rfl (fun x hx => by rw [hcells x hx]; rfl) (by simp only [strs,List.length_map,maxLen] at *; omega)
  (fun w C => ?_) (fun u hu => by obtain ⟨y,_,rfl⟩:=List.mem_map.1 hu; rfl) fun w hb => (Tryz.strings_Split ⟨⟨s⟩⟩ ⟨⟨[c]⟩⟩ m w (by show s.length < _; omega) (cell_base hb hm) (Nat.le_refl 1)).mono fun e w' ⟨he,hw⟩ => ?_
 ·rw [flat_one hcells]
  exact ⟨by simp [strs],fun i d v hd hv => by
   simp only [strs,List.getElem?_map] at hd hv
   cases hx : (splitG c [] s)[i]? with
   | none => rw [hx] at hd; cases hd
   | some x => rw [hx] at hd hv; cases hd; cases hv; exact .str _⟩
 ·rw [← hcl]
  exact ⟨he,by rw [hw,hval]⟩

def cutSlash (s : List UInt8) : List UInt8:=match s with | b::r => if b = 47 then r else b::r | [] => []
theorem trim_slash (s : List UInt8) : Lib.trimPrefix s [47] = cutSlash s:=by
 unfold Lib.trimPrefix Lib.hasPrefix cutSlash
 match s with
 | [] => rfl
 | b::r =>
  by_cases h : b = 47
  ·simp [h,List.isPrefixOf]
  ·have h' : ¬ (47 : UInt8) = b:=fun e => h e.symm
   simp [h,h',List.isPrefixOf]
theorem cutSlash_len (s : List UInt8) : (cutSlash s).length ≤ s.length:=by
 unfold cutSlash; split
 ·split <;> simp
 ·simp
def partOk (p : List UInt8) : Bool:=p == [46] || (p == [46,46] || nameOk p)
def targetOk (s : List UInt8) : Bool:=if s.length < 1 ∨ 128 < s.length then false else if s = [47] then true else (splitG 47 [] (cutSlash s)).all partOk
theorem all_false {α : Type} {q : α → Bool} {l : List α} {i : Nat} (h : i < l.length) (hq : q l[i] = false) : l.all q = false:=by
 rw [Bool.eq_false_iff]; intro ha
 have:=List.all_eq_true.1 ha l[i] (List.getElem_mem h)
 rw [hq] at this; cases this
theorem all_true {α : Type} {q : α → Bool} {l : List α} {i : Nat} (h : ¬ i < l.length) (hq : ∀ j (hj : j < l.length),j < i → q l[j] = true) : l.all q = true :=
 List.all_eq_true.2 fun x hx => by
  obtain ⟨j,hj,rfl⟩:=List.mem_iff_getElem.1 hx
  exact hq j hj (by omega)
theorem below_next {α : Type} {q : α → Bool} {l : List α} {i : Nat} {hi : i < l.length} (h : q l[i] = true) (hq : ∀ j (hj : j < l.length),j < i → q l[j] = true) : ∀ j (hj : j < l.length),j < i + 1 → q l[j] = true:=fun j hj hlt =>
 (Nat.lt_succ_iff_lt_or_eq.1 hlt).elim (hq j hj) fun e => by subst e; exact h
theorem part_cc (p : List UInt8) : (bif (bif !(p == [46]) then !(p == [46,46]) else false) then !nameOk p else false) = !partOk p:=by
 unfold partOk; cases p == [46] <;> cases p == [46,46] <;> cases nameOk p <;> rfl

theorem F101 (hL : LibOk W0) (s : List UInt8) (hs : s.length < 1000000000) : DFun Tryz.prog W0 106 [.str s] (.bool (targetOk s)):=by
 refine DFun.intro ti_ok Tryz.func106 rfl (by decide +kernel) Tryz.ntmps106 rfl fun Γ => ?_
 refine Tri.seq ?_
 refine Tri.region ti_ok ?_
 conv => whnf
 refine Tri.seq ?_
 refine Tri.seq ?_
 refine Tri.region ti_ok ?_
 conv => whnf
 refine ⟨fun h => h,?_⟩
 conv => whnf
 refine ⟨fun h => h,?_⟩
 conv => whnf
 refine ⟨fun h0 h => by first | exact h | (rw [h]; rfl) | (rw [h0,h]; rfl),?_⟩
 conv => whnf
 refine Tri.cond _ rfl (fun hc => ?_) (fun hc => ?_)
 ·refine Tri.seq ?_
  refine Tri.region ti_ok ?_
  conv => whnf
  refine Tri.ret ?_
  conv => whnf
  refine DLe.of_eq (congrArg D.bool ?_)
  rw [targetOk,if_pos]
  by_cases h1 : s.length < 1
  ·exact .inl h1
  ·right; have h1' : ¬ (s.length : Int) < 1:=by omega
   simp [h1'] at hc; omega
 ·refine Tri.skip ?_
  have h1 : ¬ (s.length < 1 ∨ 128 < s.length):=by
   by_cases h1 : (s.length : Int) < 1
   ·simp [h1] at hc
   ·simp [h1] at hc; omega
  conv => whnf
  refine Tri.seq ?_
  refine Tri.seq ?_
  refine Tri.region ti_ok ?_
  conv => whnf
  refine Tri.cond _ rfl (fun hc => ?_) (fun hc => ?_)
  ·refine Tri.seq ?_
   refine Tri.region ti_ok ?_
   conv => whnf
   refine Tri.ret ?_
   conv => whnf
   exact DLe.of_eq (congrArg D.bool (by rw [targetOk,if_neg h1,if_pos (by simpa using hc)]))
  ·refine Tri.skip ?_
   have h2 : s ≠ [47]:=by simpa using hc
   have hT : targetOk s = (splitG 47 [] (cutSlash s)).all partOk:=by rw [targetOk,if_neg h1,if_neg h2]
   have hcl:=cutSlash_len s
   obtain ⟨hgl,hgp⟩:=splitG_len (c:=47) (cutSlash s) []
   conv => whnf
   refine Tri.seq ?_
   refine Tri.seq ?_
   refine Tri.region ti_ok ?_
   conv => whnf
   refine ⟨_,_,fun _ => F122 s [47],⟨.refl _,.refl _,trivial⟩,?_⟩
   conv => whnf
   refine ⟨[.str (cutSlash s),.str [47]],_,fun _ => F121 hL (cutSlash s) 47 (by omega),⟨DLe.of_eq (congrArg D.str (trim_slash s)),.refl _,trivial⟩,?_⟩
   conv => whnf
   refine Tri.block ?_
   refine Tri.loop (α:={ i : Nat // i ≤ (splitG 47 [] (cutSlash s)).length ∧ ∀ j (h : j < (splitG 47 [] (cutSlash s)).length),j < i → partOk (splitG 47 [] (cutSlash s))[j] = true })
    (fun x => [(17,.sl .full 1 (strs (splitG 47 [] (cutSlash s)))),(18,.int .i64 (strs (splitG 47 [] (cutSlash s))).length),(19,.int .i64 x.1)]) (fun _ => []) (fun x => (splitG 47 [] (cutSlash s)).length - x.1) ⟨0,by simp⟩ ⟨.refl _,.refl _,.refl _,trivial⟩ trivial ?_
   rintro ⟨i,hi,hp⟩
   dsimp only
   refine Tri.seq ?_
   refine Tri.region ti_ok ?_
   conv => whnf
   refine Tri.seq ?_
   refine Tri.cond _ rfl (fun hc => ?_) (fun hc => ?_)
   ·refine Tri.skip ?_
    conv => whnf
    have hia : i < (splitG 47 [] (cutSlash s)).length:=by simpa [strs] using hc
    have hpl:=hgp _ (List.getElem_mem hia)
    refine Tri.seq ?_
    refine Tri.block ?_
    refine Tri.seq ?_
    refine Tri.region ti_ok ?_
    conv => whnf
    refine ⟨fun _ => by simp [strs]; omega,?_⟩
    conv => whnf
    refine ⟨.str (splitG 47 [] (cutSlash s))[i],fun _ => get_map _ hia,?_⟩
    conv => whnf
    refine Tri.seq ?_
    refine Tri.region ti_ok ?_
    conv => whnf
    refine ⟨fun h => h,?_⟩
    conv => whnf
    refine ⟨fun h0 h => by first | exact h | (rw [h]; rfl) | (rw [h0,h]; rfl),?_⟩
    conv => whnf
    refine ⟨fun h => h,?_⟩
    conv => whnf
    refine ⟨[.str (splitG 47 [] (cutSlash s))[i]],_,fun h => F100 hL _ (by simp at hpl; omega),⟨.refl _,trivial⟩,?_⟩
    conv => whnf
    refine ⟨fun h => h,?_⟩
    conv => whnf
    refine ⟨fun h0 h => by first | exact h | (rw [h]; rfl) | (rw [h0,h]; rfl),?_⟩
    conv => whnf
    have hcc:=part_cc (splitG 47 [] (cutSlash s))[i]
    refine Tri.cond _ rfl (fun hc => ?_) (fun hc => ?_)
    ·refine Tri.seq ?_
     refine Tri.region ti_ok ?_
     conv => whnf
     refine Tri.ret ?_
     conv => whnf
     exact DLe.of_eq (congrArg D.bool (by rw [hT,all_false hia (by simpa using hcc.symm.trans hc)]))
    ·refine Tri.skip ?_
     conv => whnf
     refine Tri.region ti_ok ?_
     conv => whnf
     refine .inl ⟨fun _ => by simp [InR]; omega,?_⟩
     conv => whnf
     exact ⟨⟨i + 1,by omega,below_next (hi:=hia) (by simpa using hcc.symm.trans hc) hp⟩,by show _ - (i + 1) < _ - i; omega,⟨.refl _,.refl _,.refl _,trivial⟩,trivial⟩
   ·refine Tri.exit ?_
    conv => whnf
    refine Tri.seq ?_
    refine Tri.region ti_ok ?_
    conv => whnf
    refine Tri.ret ?_
    conv => whnf
    exact DLe.of_eq (congrArg D.bool (by rw [hT,all_true (by simpa [strs] using hc) hp]))

theorem nameOk_long {s : List UInt8} (h : 300 < s.length) : nameOk s = false:=by
 unfold nameOk chars
 split
 ·rfl
 ·split
  ·rfl
  ·cases hp : charsP s with
   | none => rfl
   | some l =>
    have:=charsP_len s.length s (Nat.le_refl _) l hp
    have h1 : ¬ l.length ≤ 64:=by omega
    simp [h1]

theorem F94 (s : List UInt8) (hs : s.length < 1000000000) : DFun Tryz.prog W0 124 [.str s] (.bool (nameOk s)):=by
 refine DFun.intro ti_ok Tryz.func124 rfl (by decide +kernel) Tryz.ntmps124 rfl fun Γ => ?_
 refine Tri.seq ?_
 refine Tri.region ti_ok ?_
 conv => whnf
 refine Tri.seq ?_
 refine Tri.seq ?_
 refine Tri.region ti_ok ?_
 conv => whnf
 refine ⟨fun h => h,?_⟩
 conv => whnf
 refine ⟨fun h0 h => by first | exact h | (rw [h]; rfl) | (rw [h0,h]; rfl),?_⟩
 conv => whnf
 refine ⟨fun h => h,?_⟩
 conv => whnf
 refine ⟨fun h => h,?_⟩
 conv => whnf
 refine ⟨fun h0 h => by first | exact h | (rw [h]; rfl) | (rw [h0,h]; rfl),?_⟩
 conv => whnf
 have hcc : (bif bif s == [46] then true else s == [46,46] then true else decide (300 < (s.length : Int))) = decide (s = [46] ∨ s = [46,46] ∨ 300 < s.length):=by
  by_cases h1 : s = [46]
  ·simp [h1]
  ·by_cases h2 : s = [46,46]
   ·simp [h2]
   ·have e1 : (s == [46]) = false:=by simpa using h1
    have e2 : (s == [46,46]) = false:=by simpa using h2
    rw [e1,e2]; simp [h1,h2]; omega
 refine Tri.cond _ rfl (fun hc => ?_) (fun hc => ?_)
 ·refine Tri.seq ?_
  refine Tri.region ti_ok ?_
  conv => whnf
  refine Tri.ret ?_
  conv => whnf
  refine DLe.of_eq (congrArg D.bool ?_)
  have:=of_decide_eq_true (hcc.symm.trans hc)
  by_cases h3 : 300 < s.length
  ·rw [nameOk_long h3]
  ·rw [nameOk,if_pos (by rcases this with h | h | h; exact .inl h; exact .inr (.inl h); exact absurd h h3)]
 ·refine Tri.skip ?_
  have hn:=of_decide_eq_false (hcc.symm.trans hc)
  conv => whnf
  refine Tri.seq ?_
  refine Tri.seq ?_
  refine Tri.region ti_ok ?_
  conv => whnf
  refine Tri.block ?_
  refine Tri.loop (α:={ i : Nat // i ≤ s.length ∧ ∀ j (h : j < s.length),j < i → (s[j] != 47) = true }) (fun x => [(0,.str s),(3,.int .i64 x.1)]) (fun _ => []) (fun x => s.length - x.1) ⟨0,by simp⟩ ⟨.refl _,.refl _,trivial⟩ trivial ?_
  rintro ⟨i,hi,hp⟩
  dsimp only
  refine Tri.seq ?_
  refine Tri.seq ?_
  refine Tri.region ti_ok ?_
  conv => whnf
  refine Tri.cond _ rfl (fun hc => ?_) (fun hc => ?_)
  ·refine Tri.skip ?_
   have hia : i < s.length:=by simpa using hc
   conv => whnf
   refine Tri.seq ?_
   refine Tri.block ?_
   refine Tri.seq ?_
   refine Tri.region ti_ok ?_
   conv => whnf
   refine ⟨s[i],fun _ => ⟨by omega,by simp [hia]⟩,?_⟩
   conv => whnf
   have hbe:=byte_eq s[i] 47 (by decide)
   refine Tri.cond _ rfl (fun hc => ?_) (fun hc => ?_)
   ·refine Tri.seq ?_
    refine Tri.region ti_ok ?_
    conv => whnf
    refine Tri.ret ?_
    conv => whnf
    refine DLe.of_eq (congrArg D.bool ?_)
    have h47 : s[i] = 47:=by have:=hbe.symm.trans hc; simpa using this
    rw [nameOk,if_pos (.inr (.inr (h47 ▸ List.getElem_mem hia)))]
   ·refine Tri.skip ?_
    conv => whnf
    refine Tri.region ti_ok ?_
    conv => whnf
    refine .inl ⟨fun _ => by simp [InR]; omega,?_⟩
    conv => whnf
    exact ⟨⟨i + 1,by omega,below_next (q:=fun b => b != 47) (hi:=hia) (by have:=hbe.symm.trans hc; simpa [bne] using this) hp⟩,by show s.length - (i + 1) < s.length - i; omega,⟨.refl _,.refl _,trivial⟩,trivial⟩
  ·refine Tri.exit ?_
   conv => whnf
   refine Tri.seq ?_
   refine Tri.region ti_ok ?_
   conv => whnf
   refine ⟨_,_,fun _ => F114 s hs,⟨.refl _,trivial⟩,?_⟩
   conv => whnf
   refine Tri.seq ?_
   refine Tri.region ti_ok ?_
   conv => whnf
   refine ⟨fun h => h,?_⟩
   conv => whnf
   refine ⟨fun h => h,?_⟩
   conv => whnf
   refine ⟨fun h0 h => by first | exact h | (rw [h]; rfl) | (rw [h0,h]; rfl),?_⟩
   conv => whnf
   refine ⟨fun h => h,?_⟩
   conv => whnf
   refine ⟨fun h => h,?_⟩
   conv => whnf
   refine ⟨fun h0 h => by first | exact h | (rw [h]; rfl) | (rw [h0,h]; rfl),?_⟩
   conv => whnf
   refine Tri.ret ?_
   conv => whnf
   refine DLe.of_eq (congrArg D.bool ?_)
   have hno : (47 : UInt8) ∉ s:=fun h => by
    have:=all_true (q:=fun b : UInt8 => b != 47) (by simpa using hc) hp
    have:=List.all_eq_true.1 this 47 h
    simp at this
   rw [nameOk,if_neg (by rintro (h | h | h); exact hn (.inl h); exact hn (.inr (.inl h)); exact hno h)]
   have hlen : (encInts .i64 (chars s).1).length = (chars s).1.length:=by simp [encInts]
   rw [hlen]
   cases (chars s).2 == 0
   ·rfl
   ·by_cases h1 : 1 ≤ (chars s).1.length <;> by_cases h2 : (chars s).1.length ≤ 64 <;> simp [h1,h2] <;> omega
end Go.Tame.V
/- Contracts: options of a disc,lists of boot entries. By program (mk.py). -/
namespace Go.Tame.V
open Go Go.Proofs
variable {W0 : World}
set_option maxRecDepth 10000
set_option linter.unusedVariables false
set_option linter.unusedSimpArgs false

end Go.Tame.V
/- Contracts: Clone and DeleteFunc of boot entries. By program (mk.py). -/
namespace Go.Tame.V
open Go Go.Proofs
variable {W0 : World}
set_option maxRecDepth 10000
set_option linter.unusedVariables false
set_option linter.unusedSimpArgs false

theorem DCall.heapK {f : FuncId} {ds : List D} {Q : D → Heap → Prop} {H : Heap} {k s : Nat} {o : HObj} (h : H s = some o) (hc : DCall Tryz.prog W0 f ds (look [(k,o)]) Q) : DCall Tryz.prog W0 f ds (handed H [(k,s)]) Q:=by
 have e : handed H [(k,s)] = look [(k,o)]:=by
  funext j
  simp only [handed,look]
  cases Nat.beq j k with
  | true => exact h
  | false => rfl
 rw [e]; exact hc

end Go.Tame.V
/- Contracts: the reference's parts of texts,targets; the rules of a node. By program (mk.py). -/
namespace Go.Tame.V
open Go Go.Proofs
variable {W0 : World}
set_option maxRecDepth 10000
set_option linter.unusedVariables false
set_option linter.unusedSimpArgs false

theorem slice1 {s : List UInt8} {i : Nat} (h : i < s.length) : (s.take (i + 1)).drop i = [s[i]]:=by
 rw [List.take_add_one,List.getElem?_eq_getElem h]
 simp only [Option.toList_some]
 rw [List.drop_append_of_le_length (by simp; omega),List.drop_of_length_le (by simp; omega)]; rfl

theorem F44 (s : List UInt8) (c : UInt8) (hs : s.length < 1000000000) : DFun Tryz.prog W0 92 [.str s,.int .u8 c.toNat] (.sl .none 1 (strs (splitG c [] s))):=by
 refine DFun.intro ti_ok Tryz.func92 rfl (by decide +kernel) Tryz.ntmps92 rfl fun Γ => ?_
 refine Tri.seq ?_
 refine Tri.region ti_ok ?_
 conv => whnf
 refine Tri.seq ?_
 refine Tri.region ti_ok ?_
 conv => whnf
 refine ⟨trivial,?_⟩
 conv => whnf
 refine Tri.seq ?_
 refine Tri.region ti_ok ?_
 conv => whnf
 refine Tri.seq ?_
 refine Tri.seq ?_
 refine Tri.region ti_ok ?_
 conv => whnf
 refine Tri.own 5 1000 1 9 rfl (fun v => ?_)
 refine Tri.block ?_
 refine Tri.loopK (α:={ x : Nat × List (List UInt8) × List UInt8 // x.1 ≤ s.length ∧ splitG c [] s = x.2.1 ++ splitG c x.2.2 (s.drop x.1) ∧ x.2.1.length + x.2.2.length ≤ x.1 } × Value)
  (fun x => [(0,.str s),(1,.int .u8 c.toNat),(7,.int .i64 x.1.1.1),(6,.str x.1.1.2.2),(5,.sl (.own 1000 x.2) 1 (strs x.1.1.2.1))]) (fun x => [(1000,.own x.2 (strs x.1.1.2.1).length 1 9)]) (fun x => s.length - x.1.1.1)
  (⟨(0,[],[]),by simp,by simp,by simp⟩,v) [(1000,1000)] ⟨⟨.refl _,.refl _,.refl _,.refl _,.refl _,trivial⟩,rfl,rfl,rfl,trivial⟩ ?_
 rintro ⟨⟨⟨i,ws,part⟩,hi,hsp,hlen⟩,v⟩
 dsimp only at hi hsp hlen ⊢
 refine Tri.seq ?_
 refine Tri.seq ?_
 refine Tri.region ti_ok ?_
 conv => whnf
 refine Tri.cond _ rfl (fun hc => ?_) (fun hc => ?_)
 ·refine Tri.skip ?_
  conv => whnf
  have hia : i < s.length:=by simpa using hc
  have hwl : (strs ws).length = ws.length:=by simp [strs]
  have hdr:=List.drop_eq_getElem_cons hia
  refine Tri.seq ?_
  refine Tri.block ?_
  refine Tri.seq ?_
  refine Tri.region ti_ok ?_
  conv => whnf
  refine ⟨s[i],fun _ => ⟨by omega,by simp [hia]⟩,?_⟩
  conv => whnf
  have hbe : (((s[i].toNat : Nat) : Int) == (c.toNat : Nat)) = (s[i] == c):=by
   rw [Bool.eq_iff_iff]; simp only [beq_iff_eq]
   constructor
   ·intro h; exact UInt8.toNat.inj (by omega)
   ·intro h; rw [h]
  refine Tri.cond _ rfl (fun hc => ?_) (fun hc => ?_)
  ·refine Tri.seq ?_
   refine Tri.region ti_ok ?_
   conv => whnf
   refine ⟨trivial,?_⟩
   conv => whnf
   refine ⟨rfl,rfl,?_⟩
   conv => whnf
   refine ⟨by show (_ + 1) * 16 ≤ _; omega,by show _ + 1 ≤ _; omega,(fun h => by cases h),fun v => ?_⟩
   conv => whnf
   refine Tri.region ti_ok ?_
   conv => whnf
   refine Tri.region ti_ok ?_
   conv => whnf
   refine .inl ⟨fun _ => by simp [InR]; omega,?_⟩
   conv => whnf
   have hsc : s[i] = c:=by simpa using hbe.symm.trans hc
   exact ⟨(⟨(i + 1,ws ++ [part],[]),by omega,by rw [hsp,hdr,splitG,if_pos hsc]; simp,by simp; omega⟩,v),[(1000,23)],by show s.length - (i + 1) < s.length - i; omega,⟨.refl _,.refl _,.refl _,.refl _,DLe.ownEq (by simp [strs]; rfl),trivial⟩,rfl,rfl,ownH (by simp [strs]),trivial⟩
  ·refine Tri.region ti_ok ?_
   conv => whnf
   refine .inl ⟨fun _ => by simp [InR]; omega,?_⟩
   conv => whnf
   refine ⟨fun _ => by omega,?_⟩
   conv => whnf
   refine ⟨fun _ => by simp; omega,?_⟩
   conv => whnf
   refine Tri.region ti_ok ?_
   conv => whnf
   refine .inl ⟨fun _ => by simp [InR]; omega,?_⟩
   conv => whnf
   have hsc : s[i] ≠ c:=by simpa using hbe.symm.trans hc
   have hs1 : (s.take ((i : Int) + 1).toNat).drop (i : Int).toNat = [s[i]]:=by
    rw [show ((i : Int) + 1).toNat = i + 1 by omega,Int.toNat_natCast]; exact slice1 hia
   exact ⟨(⟨(i + 1,ws,part ++ [s[i]]),by omega,by rw [hsp,hdr,splitG,if_neg hsc],by simp; omega⟩,v),[(1000,1000)],by show s.length - (i + 1) < s.length - i; omega,⟨.refl _,.refl _,.refl _,DLe.of_eq (congrArg D.str (by rw [hs1])),.refl _,trivial⟩,rfl,rfl,rfl,trivial⟩
 ·refine Tri.exit ?_
  conv => whnf
  refine Tri.seq ?_
  refine Tri.region ti_ok ?_
  conv => whnf
  refine ⟨trivial,?_⟩
  conv => whnf
  refine ⟨rfl,rfl,?_⟩
  conv => whnf
  have hwl : (strs ws).length = ws.length:=by simp [strs]
  refine ⟨by show (_ + 1) * 16 ≤ _; omega,by show _ + 1 ≤ _; omega,(fun h => by cases h),fun v => ?_⟩
  conv => whnf
  refine Tri.ret ?_
  conv => whnf
  have hia : ¬ i < s.length:=by simpa using hc
  rw [hsp,List.drop_of_length_le (by omega),splitG]
  exact DLe.trans (DLe.of_eq (congrArg (D.sl _ 1) (by simp [strs]; rfl))) DLe.unown

theorem F111 (s : List UInt8) (hs : s.length < 1000000000) : DFun Tryz.prog W0 125 [.str s] (.bool (targetOk s)):=by
 refine DFun.intro ti_ok Tryz.func125 rfl (by decide +kernel) Tryz.ntmps125 rfl fun Γ => ?_
 refine Tri.seq ?_
 refine Tri.region ti_ok ?_
 conv => whnf
 refine Tri.seq ?_
 refine Tri.seq ?_
 refine Tri.region ti_ok ?_
 conv => whnf
 refine ⟨fun h => h,?_⟩
 conv => whnf
 refine ⟨fun h => h,?_⟩
 conv => whnf
 refine ⟨fun h0 h => by first | exact h | (rw [h]; rfl) | (rw [h0,h]; rfl),?_⟩
 conv => whnf
 refine Tri.cond _ rfl (fun hc => ?_) (fun hc => ?_)
 ·refine Tri.seq ?_
  refine Tri.region ti_ok ?_
  conv => whnf
  refine Tri.ret ?_
  conv => whnf
  refine DLe.of_eq (congrArg D.bool ?_)
  rw [targetOk,if_pos]
  by_cases h1 : s.length < 1
  ·exact .inl h1
  ·right; have h1' : ¬ (s.length : Int) < 1:=by omega
   simp [h1'] at hc; omega
 ·refine Tri.skip ?_
  have h1 : ¬ (s.length < 1 ∨ 128 < s.length):=by
   by_cases h1 : (s.length : Int) < 1
   ·simp [h1] at hc
   ·simp [h1] at hc; omega
  conv => whnf
  refine Tri.seq ?_
  refine Tri.seq ?_
  refine Tri.region ti_ok ?_
  conv => whnf
  refine Tri.cond _ rfl (fun hc => ?_) (fun hc => ?_)
  ·refine Tri.seq ?_
   refine Tri.region ti_ok ?_
   conv => whnf
   refine Tri.ret ?_
   conv => whnf
   exact DLe.of_eq (congrArg D.bool (by rw [targetOk,if_neg h1,if_pos (by simpa using hc)]))
  ·refine Tri.skip ?_
   have h2 : s ≠ [47]:=by simpa using hc
   have hT : targetOk s = (splitG 47 [] (cutSlash s)).all partOk:=by rw [targetOk,if_neg h1,if_neg h2]
   have hcl:=cutSlash_len s
   obtain ⟨hgl,hgp⟩:=splitG_len (c:=47) (cutSlash s) []
   conv => whnf
   refine Tri.joinK (α:=Unit) (fun x => [(0,.str (cutSlash s))]) (fun x => []) ?_ ?_
   ·refine Tri.seq ?_
    refine Tri.region ti_ok ?_
    conv => whnf
    refine ⟨s.getD 0 0,fun _ => ⟨by omega,bA_get s (by omega)⟩,?_⟩
    conv => whnf
    have hbe:=byte_eq (s.getD 0 0) 47 (by decide)
    refine Tri.cond _ rfl (fun hc => ?_) (fun hc => ?_)
    ·refine Tri.region ti_ok ?_
     conv => whnf
     refine ⟨fun _ => by simp; omega,?_⟩
     conv => whnf
     have hcs : cutSlash s = (s.take (s.length : Int).toNat).drop (1 : Int).toNat:=by
      have h47 : s.getD 0 0 = 47:=by simpa using hbe.symm.trans hc
      rw [Int.toNat_natCast,List.take_length,show (1 : Int).toNat = 1 from rfl]
      cases s with
      | nil => simp at h1
      | cons b r => simp at h47; simp [cutSlash,h47]
     exact ⟨(),[],⟨DLe.of_eq (congrArg D.str hcs.symm),trivial⟩,rfl,trivial⟩
    ·refine Tri.skip ?_
     conv => whnf
     have hcs : cutSlash s = s:=by
      have h47 : s.getD 0 0 ≠ 47:=by simpa using hbe.symm.trans hc
      cases s with
      | nil => rfl
      | cons b r => simp at h47; simp [cutSlash,h47]
     exact ⟨(),[],⟨DLe.of_eq (congrArg D.str hcs.symm),trivial⟩,rfl,trivial⟩
   ·rintro ⟨⟩
    refine Tri.seq ?_
    refine Tri.region ti_ok ?_
    conv => whnf
    refine ⟨[.str (cutSlash s),.int .u8 (47 : UInt8).toNat],_,fun _ => F44 _ 47 (by omega),⟨.refl _,.refl _,trivial⟩,?_⟩
    conv => whnf
    refine Tri.seq ?_
    refine Tri.seq ?_
    refine Tri.region ti_ok ?_
    conv => whnf
    refine Tri.block ?_
    refine Tri.loop (α:={ i : Nat // i ≤ (splitG 47 [] (cutSlash s)).length ∧ ∀ j (h : j < (splitG 47 [] (cutSlash s)).length),j < i → partOk (splitG 47 [] (cutSlash s))[j] = true })
     (fun x => [(3,.sl .none 1 (strs (splitG 47 [] (cutSlash s)))),(4,.int .i64 x.1)]) (fun _ => []) (fun x => (splitG 47 [] (cutSlash s)).length - x.1) ⟨0,by simp⟩ ⟨.refl _,.refl _,trivial⟩ trivial ?_
    rintro ⟨i,hi,hp⟩
    dsimp only
    refine Tri.seq ?_
    refine Tri.seq ?_
    refine Tri.region ti_ok ?_
    conv => whnf
    refine Tri.cond _ rfl (fun hc => ?_) (fun hc => ?_)
    ·refine Tri.skip ?_
     have hia : i < (splitG 47 [] (cutSlash s)).length:=by simpa [strs] using hc
     have hpl:=hgp _ (List.getElem_mem hia)
     conv => whnf
     refine Tri.seq ?_
     refine Tri.block ?_
     refine Tri.seq ?_
     refine Tri.region ti_ok ?_
     conv => whnf
     refine ⟨fun _ => by simp [strs]; omega,?_⟩
     conv => whnf
     refine ⟨.str (splitG 47 [] (cutSlash s))[i],fun _ => get_map _ hia,?_⟩
     conv => whnf
     refine ⟨fun h => h,?_⟩
     conv => whnf
     refine ⟨fun h => h,?_⟩
     conv => whnf
     refine ⟨fun _ => by simp [strs]; omega,?_⟩
     conv => whnf
     refine ⟨fun h => h,?_⟩
     conv => whnf
     refine ⟨.str (splitG 47 [] (cutSlash s))[i],fun _ => get_map _ hia,?_⟩
     conv => whnf
     refine ⟨fun h => h,?_⟩
     conv => whnf
     refine ⟨fun h0 h => by first | exact h | (rw [h]; rfl) | (rw [h0,h]; rfl),?_⟩
     conv => whnf
     refine ⟨fun h => h,?_⟩
     conv => whnf
     refine ⟨fun h => h,?_⟩
     conv => whnf
     refine ⟨fun _ => by simp [strs]; omega,?_⟩
     conv => whnf
     refine ⟨fun h => h,?_⟩
     conv => whnf
     refine ⟨.str (splitG 47 [] (cutSlash s))[i],fun _ => get_map _ hia,?_⟩
     conv => whnf
     refine ⟨fun h => h,?_⟩
     conv => whnf
     refine ⟨[.str (splitG 47 [] (cutSlash s))[i]],_,fun h => F94 _ (by simp at hpl; omega),⟨.refl _,trivial⟩,?_⟩
     conv => whnf
     refine ⟨fun h => h,?_⟩
     conv => whnf
     refine ⟨fun h0 h => by first | exact h | (rw [h]; rfl) | (rw [h0,h]; rfl),?_⟩
     conv => whnf
     have hcc:=part_cc (splitG 47 [] (cutSlash s))[i]
     refine Tri.cond _ rfl (fun hc => ?_) (fun hc => ?_)
     ·refine Tri.seq ?_
      refine Tri.region ti_ok ?_
      conv => whnf
      refine Tri.ret ?_
      conv => whnf
      exact DLe.of_eq (congrArg D.bool (by rw [hT,all_false hia (by simpa using hcc.symm.trans hc)]))
     ·refine Tri.skip ?_
      conv => whnf
      refine Tri.region ti_ok ?_
      conv => whnf
      refine .inl ⟨fun _ => by simp [InR]; omega,?_⟩
      conv => whnf
      exact ⟨⟨i + 1,by omega,below_next (hi:=hia) (by simpa using hcc.symm.trans hc) hp⟩,by show _ - (i + 1) < _ - i; omega,⟨.refl _,.refl _,trivial⟩,trivial⟩
    ·refine Tri.exit ?_
     conv => whnf
     refine Tri.seq ?_
     refine Tri.region ti_ok ?_
     conv => whnf
     refine Tri.ret ?_
     conv => whnf
     exact DLe.of_eq (congrArg D.bool (by rw [hT,all_true (by simpa [strs] using hc) hp]))
end Go.Tame.V
/- Contracts: the rules of a node. By program (mk.py). -/
namespace Go.Tame.V
open Go Go.Proofs
variable {W0 : World}
set_option maxRecDepth 10000
set_option linter.unusedVariables false
set_option linter.unusedSimpArgs false

theorem bif_or (a b : Bool) : (bif a then true else b) = (a || b):=by cases a <;> rfl
theorem bif_and (a b : Bool) : (bif a then b else false) = (a && b):=by cases a <;> rfl

/-- The first of f i,f (i + 1),.. (k of them) that is not zero. -/
def firstNZ (f : Nat → Int) : Nat → Nat → Int
 | _,0 => 0
 | i,k + 1 => if f i = 0 then firstNZ f (i + 1) k else f i
theorem nz_hit {f : Nat → Int} {i n : Nat} (h : i < n) (hf : f i ≠ 0) : firstNZ f i (n - i) = f i:=by
 obtain ⟨k,hk⟩ : ∃ k,n - i = k + 1:=⟨n - i - 1,by omega⟩
 rw [hk,firstNZ,if_neg hf]
theorem nz_miss {f : Nat → Int} {i n : Nat} (h : i < n) (hf : f i = 0) : firstNZ f i (n - i) = firstNZ f (i + 1) (n - (i + 1)):=by
 obtain ⟨k,hk⟩ : ∃ k,n - i = k + 1:=⟨n - i - 1,by omega⟩
 rw [hk,firstNZ,if_pos hf,show n - (i + 1) = k by omega]
theorem nz_end {f : Nat → Int} {i n : Nat} (h : ¬ i < n) : firstNZ f i (n - i) = 0:=by rw [show n - i = 0 by omega]; rfl

def ruleD (n : NV) (l : Int) : D:=.agg [.str n.name,.int .i64 n.kind,.str n.text,.str n.target,.int .i64 n.n1,.int .i64 n.n2,.int .i64 n.n3,.int .i64 n.n4,.int .i64 n.n5,.int .i64 n.n6,.sl .none 12 (n.kids.map enc),.sl .none 2 (n.streams.map encS),.int .i64 l]

def cKind (n : NV) (l : Int) : Bool:=(decide (n.kind < 0) || decide (2 < n.kind)) || (l == 1 && !(n.kind == 0))
def rKind (n : NV) (l : Int) : Int:=if cKind n l then 1 else 0
theorem F78 (n : NV) (l : Int) : DFun Tryz.prog W0 82 [ruleD n l] (.int .i64 (rKind n l)):=by
 refine DFun.intro ti_ok Tryz.func82 rfl (by decide +kernel) Tryz.ntmps82 rfl fun Γ => ?_
 refine Tri.seq ?_
 refine Tri.region ti_ok ?_
 conv => whnf
 intro b
 conv => whnf
 refine Tri.seq ?_
 refine Tri.seq ?_
 refine Tri.region ti_ok ?_
 conv => whnf
 refine ⟨rfl,?_⟩
 conv => whnf
 refine ⟨fun h => h,?_⟩
 conv => whnf
 refine ⟨fun h => h,?_⟩
 conv => whnf
 refine ⟨rfl,?_⟩
 conv => whnf
 refine ⟨fun h => h,?_⟩
 conv => whnf
 refine ⟨fun h0 h => by first | exact h | (rw [h]; rfl) | (rw [h0,h]; rfl),?_⟩
 conv => whnf
 refine ⟨fun h => h,?_⟩
 conv => whnf
 refine ⟨rfl,?_⟩
 conv => whnf
 refine ⟨fun h => h,?_⟩
 conv => whnf
 refine ⟨fun h => h,?_⟩
 conv => whnf
 refine ⟨fun h => h,?_⟩
 conv => whnf
 refine ⟨fun h => h,?_⟩
 conv => whnf
 refine ⟨rfl,?_⟩
 conv => whnf
 refine ⟨fun h => h,?_⟩
 conv => whnf
 refine ⟨fun h => h,?_⟩
 conv => whnf
 refine ⟨fun h0 h => by first | exact h | (rw [h]; rfl) | (rw [h0,h]; rfl),?_⟩
 conv => whnf
 refine ⟨fun h0 h => by first | exact h | (rw [h]; rfl) | (rw [h0,h]; rfl),?_⟩
 conv => whnf
 refine Tri.cond (cKind n l) (by simp only [cKind,← bif_or,← bif_and]; rfl) (fun hc => ?_) (fun hc => ?_)
 ·refine Tri.seq ?_
  refine Tri.region ti_ok ?_
  conv => whnf
  refine Tri.ret ?_
  conv => whnf
  exact intDLe (by rw [rKind,hc]; rfl)
 ·refine Tri.skip ?_
  conv => whnf
  refine Tri.seq ?_
  refine Tri.region ti_ok ?_
  conv => whnf
  refine Tri.ret ?_
  conv => whnf
  exact intDLe (by rw [rKind,hc]; rfl)

def cName (n : NV) (l : Int) : Bool:=(l == 1 && !(n.name == [])) || (decide (1 < l) && !nameOk n.name)
def rName (n : NV) (l : Int) : Int:=if cName n l then 4 else 0
theorem F79 (hL : LibOk W0) (n : NV) (l : Int) (hn : n.name.length < 1000000000) : DFun Tryz.prog W0 83 [ruleD n l] (.int .i64 (rName n l)):=by
 refine DFun.intro ti_ok Tryz.func83 rfl (by decide +kernel) Tryz.ntmps83 rfl fun Γ => ?_
 refine Tri.seq ?_
 refine Tri.region ti_ok ?_
 conv => whnf
 intro b
 conv => whnf
 refine Tri.seq ?_
 refine Tri.seq ?_
 refine Tri.region ti_ok ?_
 conv => whnf
 refine ⟨rfl,?_⟩
 conv => whnf
 refine ⟨fun h => h,?_⟩
 conv => whnf
 refine ⟨fun h => h,?_⟩
 conv => whnf
 refine ⟨rfl,?_⟩
 conv => whnf
 refine ⟨fun h => h,?_⟩
 conv => whnf
 refine ⟨fun h0 h => by first | exact h | (rw [h]; rfl) | (rw [h0,h]; rfl),?_⟩
 conv => whnf
 refine ⟨fun h => h,?_⟩
 conv => whnf
 refine ⟨rfl,?_⟩
 conv => whnf
 refine ⟨fun h => h,?_⟩
 conv => whnf
 refine ⟨fun h => h,?_⟩
 conv => whnf
 refine ⟨fun h => h,?_⟩
 conv => whnf
 refine ⟨fun h => h,?_⟩
 conv => whnf
 refine ⟨rfl,?_⟩
 conv => whnf
 refine ⟨fun h => h,?_⟩
 conv => whnf
 refine ⟨[.str n.name],_,fun h => F100 hL _ hn,⟨.refl _,trivial⟩,?_⟩
 conv => whnf
 refine ⟨fun h => h,?_⟩
 conv => whnf
 refine ⟨fun h => h,?_⟩
 conv => whnf
 refine ⟨fun h0 h => by first | exact h | (rw [h]; rfl) | (rw [h0,h]; rfl),?_⟩
 conv => whnf
 refine ⟨fun h0 h => by first | exact h | (rw [h]; rfl) | (rw [h0,h]; rfl),?_⟩
 conv => whnf
 refine Tri.cond (cName n l) (by simp only [cName,← bif_or,← bif_and]; rfl) (fun hc => ?_) (fun hc => ?_)
 ·refine Tri.seq ?_
  refine Tri.region ti_ok ?_
  conv => whnf
  refine Tri.ret ?_
  conv => whnf
  exact intDLe (by rw [rName,hc]; rfl)
 ·refine Tri.skip ?_
  conv => whnf
  refine Tri.seq ?_
  refine Tri.region ti_ok ?_
  conv => whnf
  refine Tri.ret ?_
  conv => whnf
  exact intDLe (by rw [rName,hc]; rfl)

def cParts (n : NV) : Bool:=((!(n.kind == 1) && (!(n.text == []) || decide (0 < (n.streams.length : Int)))) || (!(n.kind == 2) && !(n.target == []))) || (!(n.kind == 0) && decide (0 < (n.kids.length : Int)))
def rParts (n : NV) : Int:=if cParts n then 1 else 0
theorem F80 (n : NV) (l : Int) : DFun Tryz.prog W0 84 [ruleD n l] (.int .i64 (rParts n)):=by
 refine DFun.intro ti_ok Tryz.func84 rfl (by decide +kernel) Tryz.ntmps84 rfl fun Γ => ?_
 refine Tri.seq ?_
 refine Tri.region ti_ok ?_
 conv => whnf
 intro b
 conv => whnf
 refine Tri.seq ?_
 refine Tri.region ti_ok ?_
 conv => whnf
 refine ⟨rfl,?_⟩
 conv => whnf
 intro b2
 conv => whnf
 refine ⟨rfl,?_⟩
 conv => whnf
 refine Tri.seq ?_
 refine Tri.seq ?_
 refine Tri.region ti_ok ?_
 conv => whnf
 refine ⟨rfl,?_⟩
 conv => whnf
 refine ⟨fun h => h,?_⟩
 conv => whnf
 refine ⟨rfl,?_⟩
 conv => whnf
 refine ⟨fun h => h,?_⟩
 conv => whnf
 refine ⟨fun h => h,?_⟩
 conv => whnf
 refine ⟨fun h => h,?_⟩
 conv => whnf
 refine ⟨rfl,?_⟩
 conv => whnf
 refine ⟨fun h => h,?_⟩
 conv => whnf
 refine ⟨fun h => h,?_⟩
 conv => whnf
 refine ⟨fun h => h,?_⟩
 conv => whnf
 refine ⟨fun h0 h => by first | exact h | (rw [h]; rfl) | (rw [h0,h]; rfl),?_⟩
 conv => whnf
 refine ⟨fun h0 h => by first | exact h | (rw [h]; rfl) | (rw [h0,h]; rfl),?_⟩
 conv => whnf
 refine ⟨fun h => h,?_⟩
 conv => whnf
 refine ⟨rfl,?_⟩
 conv => whnf
 refine ⟨fun h => h,?_⟩
 conv => whnf
 refine ⟨fun h => h,?_⟩
 conv => whnf
 refine ⟨fun h => h,?_⟩
 conv => whnf
 refine ⟨rfl,?_⟩
 conv => whnf
 refine ⟨fun h => h,?_⟩
 conv => whnf
 refine ⟨fun h => h,?_⟩
 conv => whnf
 refine ⟨fun h0 h => by first | exact h | (rw [h]; rfl) | (rw [h0,h]; rfl),?_⟩
 conv => whnf
 refine ⟨fun h0 h => by first | exact h | (rw [h]; rfl) | (rw [h0,h]; rfl),?_⟩
 conv => whnf
 refine ⟨fun h => h,?_⟩
 conv => whnf
 refine ⟨rfl,?_⟩
 conv => whnf
 refine ⟨fun h => h,?_⟩
 conv => whnf
 refine ⟨fun h => h,?_⟩
 conv => whnf
 refine ⟨fun h => h,?_⟩
 conv => whnf
 refine ⟨rfl,?_⟩
 conv => whnf
 refine ⟨fun h => h,?_⟩
 conv => whnf
 refine ⟨fun h => h,?_⟩
 conv => whnf
 refine ⟨fun h => h,?_⟩
 conv => whnf
 refine ⟨fun h0 h => by first | exact h | (rw [h]; rfl) | (rw [h0,h]; rfl),?_⟩
 conv => whnf
 refine ⟨fun h0 h => by first | exact h | (rw [h]; rfl) | (rw [h0,h]; rfl),?_⟩
 conv => whnf
 refine Tri.cond (cParts n) ?_ (fun hc => ?_) (fun hc => ?_)
 ·simp only [cParts,← bif_or,← bif_and]
  rw [show n.streams.length = (n.streams.map encS).length by simp,show n.kids.length = (n.kids.map enc).length by simp]; rfl
 ·refine Tri.seq ?_
  refine Tri.region ti_ok ?_
  conv => whnf
  refine Tri.ret ?_
  conv => whnf
  exact intDLe (by rw [rParts,hc]; rfl)
 ·refine Tri.skip ?_
  conv => whnf
  refine Tri.seq ?_
  refine Tri.region ti_ok ?_
  conv => whnf
  refine Tri.ret ?_
  conv => whnf
  exact intDLe (by rw [rParts,hc]; rfl)

def cTarget (n : NV) : Bool:=n.kind == 2 && !targetOk n.target
def rTarget (n : NV) : Int:=if cTarget n then 4 else 0
theorem F81 (hL : LibOk W0) (n : NV) (l : Int) (hn : n.target.length < 1000000000) : DFun Tryz.prog W0 85 [ruleD n l] (.int .i64 (rTarget n)):=by
 refine DFun.intro ti_ok Tryz.func85 rfl (by decide +kernel) Tryz.ntmps85 rfl fun Γ => ?_
 refine Tri.seq ?_
 refine Tri.region ti_ok ?_
 conv => whnf
 intro b
 conv => whnf
 refine Tri.seq ?_
 refine Tri.seq ?_
 refine Tri.region ti_ok ?_
 conv => whnf
 refine ⟨rfl,?_⟩
 conv => whnf
 refine ⟨fun h => h,?_⟩
 conv => whnf
 refine ⟨fun h => h,?_⟩
 conv => whnf
 refine ⟨rfl,?_⟩
 conv => whnf
 refine ⟨fun h => h,?_⟩
 conv => whnf
 refine ⟨[.str n.target],_,fun h => F101 hL _ hn,⟨.refl _,trivial⟩,?_⟩
 conv => whnf
 refine ⟨fun h => h,?_⟩
 conv => whnf
 refine ⟨fun h0 h => by first | exact h | (rw [h]; rfl) | (rw [h0,h]; rfl),?_⟩
 conv => whnf
 refine Tri.cond (cTarget n) (by simp only [cTarget,← bif_or,← bif_and]; rfl) (fun hc => ?_) (fun hc => ?_)
 ·refine Tri.seq ?_
  refine Tri.region ti_ok ?_
  conv => whnf
  refine Tri.ret ?_
  conv => whnf
  exact intDLe (by rw [rTarget,hc]; rfl)
 ·refine Tri.skip ?_
  conv => whnf
  refine Tri.seq ?_
  refine Tri.region ti_ok ?_
  conv => whnf
  refine Tri.ret ?_
  conv => whnf
  exact intDLe (by rw [rTarget,hc]; rfl)

def within (n a b : Int) : Bool:=decide (a ≤ n) && decide (n ≤ b)
theorem F102 (n a b : Int) : DFun Tryz.prog W0 107 [.int .i64 n,.int .i64 a,.int .i64 b] (.bool (within n a b)):=by
 refine DFun.intro ti_ok Tryz.func107 rfl (by decide +kernel) Tryz.ntmps107 rfl fun Γ => ?_
 refine Tri.seq ?_
 refine Tri.region ti_ok ?_
 conv => whnf
 refine Tri.seq ?_
 refine Tri.region ti_ok ?_
 conv => whnf
 refine ⟨fun h => h,?_⟩
 conv => whnf
 refine ⟨fun h => h,?_⟩
 conv => whnf
 refine ⟨fun h0 h => by first | exact h | (rw [h]; rfl) | (rw [h0,h]; rfl),?_⟩
 conv => whnf
 refine Tri.ret ?_
 conv => whnf
 exact DLe.of_eq (congrArg D.bool (bif_and _ _))
def cNumbers (n : NV) : Bool:=((((!within n.n1 0 4095 || !within n.n2 0 65535) || !within n.n3 0 65535) || !within n.n4 315532800 4102444799) || !within n.n5 (-1048576) 1048576) || !within n.n6 0 15
def rNumbers (n : NV) : Int:=if cNumbers n then 2 else 0
theorem F82 (n : NV) (l : Int) : DFun Tryz.prog W0 86 [ruleD n l] (.int .i64 (rNumbers n)):=by
 refine DFun.intro ti_ok Tryz.func86 rfl (by decide +kernel) Tryz.ntmps86 rfl fun Γ => ?_
 refine Tri.seq ?_
 refine Tri.region ti_ok ?_
 conv => whnf
 intro b
 conv => whnf
 refine Tri.seq ?_
 refine Tri.region ti_ok ?_
 conv => whnf
 refine ⟨rfl,?_⟩
 conv => whnf
 intro b2
 conv => whnf
 refine ⟨rfl,?_⟩
 conv => whnf
 refine Tri.seq ?_
 refine Tri.region ti_ok ?_
 conv => whnf
 refine Tri.seq ?_
 refine Tri.seq ?_
 refine Tri.region ti_ok ?_
 conv => whnf
 refine ⟨rfl,?_⟩
 conv => whnf
 refine ⟨[.int .i64 n.n1,.int .i64 0,.int .i64 4095],_,fun h => F102 _ _ _,⟨.refl _,.refl _,.refl _,trivial⟩,?_⟩
 conv => whnf
 refine ⟨fun h => h,?_⟩
 conv => whnf
 refine ⟨rfl,?_⟩
 conv => whnf
 refine ⟨fun h => h,?_⟩
 conv => whnf
 refine ⟨fun h => h,?_⟩
 conv => whnf
 refine ⟨[.int .i64 n.n2,.int .i64 0,.int .i64 65535],_,fun h => F102 _ _ _,⟨.refl _,.refl _,.refl _,trivial⟩,?_⟩
 conv => whnf
 refine ⟨fun h => h,?_⟩
 conv => whnf
 refine ⟨fun h0 h => by first | exact h | (rw [h]; rfl) | (rw [h0,h]; rfl),?_⟩
 conv => whnf
 refine ⟨fun h => h,?_⟩
 conv => whnf
 refine ⟨rfl,?_⟩
 conv => whnf
 refine ⟨fun h => h,?_⟩
 conv => whnf
 refine ⟨fun h => h,?_⟩
 conv => whnf
 refine ⟨[.int .i64 n.n3,.int .i64 0,.int .i64 65535],_,fun h => F102 _ _ _,⟨.refl _,.refl _,.refl _,trivial⟩,?_⟩
 conv => whnf
 refine ⟨fun h => h,?_⟩
 conv => whnf
 refine ⟨fun h0 h => by first | exact h | (rw [h]; rfl) | (rw [h0,h]; rfl),?_⟩
 conv => whnf
 refine ⟨fun h => h,?_⟩
 conv => whnf
 refine ⟨rfl,?_⟩
 conv => whnf
 refine ⟨fun h => h,?_⟩
 conv => whnf
 refine ⟨fun h => h,?_⟩
 conv => whnf
 refine ⟨[.int .i64 n.n4,.int .i64 315532800,.int .i64 4102444799],_,fun h => F102 _ _ _,⟨.refl _,.refl _,.refl _,trivial⟩,?_⟩
 conv => whnf
 refine ⟨fun h => h,?_⟩
 conv => whnf
 refine ⟨fun h0 h => by first | exact h | (rw [h]; rfl) | (rw [h0,h]; rfl),?_⟩
 conv => whnf
 refine ⟨fun h => h,?_⟩
 conv => whnf
 refine ⟨rfl,?_⟩
 conv => whnf
 refine ⟨fun h => h,?_⟩
 conv => whnf
 refine ⟨fun h => h,?_⟩
 conv => whnf
 refine ⟨[.int .i64 n.n5,.int .i64 (-1048576),.int .i64 1048576],_,fun h => F102 _ _ _,⟨.refl _,.refl _,.refl _,trivial⟩,?_⟩
 conv => whnf
 refine ⟨fun h => h,?_⟩
 conv => whnf
 refine ⟨fun h0 h => by first | exact h | (rw [h]; rfl) | (rw [h0,h]; rfl),?_⟩
 conv => whnf
 refine ⟨fun h => h,?_⟩
 conv => whnf
 refine ⟨rfl,?_⟩
 conv => whnf
 refine ⟨fun h => h,?_⟩
 conv => whnf
 refine ⟨fun h => h,?_⟩
 conv => whnf
 refine ⟨[.int .i64 n.n6,.int .i64 0,.int .i64 15],_,fun h => F102 _ _ _,⟨.refl _,.refl _,.refl _,trivial⟩,?_⟩
 conv => whnf
 refine ⟨fun h => h,?_⟩
 conv => whnf
 refine ⟨fun h0 h => by first | exact h | (rw [h]; rfl) | (rw [h0,h]; rfl),?_⟩
 conv => whnf
 refine Tri.cond (cNumbers n) (by simp only [cNumbers,← bif_or]; rfl) (fun hc => ?_) (fun hc => ?_)
 ·refine Tri.seq ?_
  refine Tri.region ti_ok ?_
  conv => whnf
  refine Tri.ret ?_
  conv => whnf
  exact intDLe (by rw [rNumbers,hc]; rfl)
 ·refine Tri.skip ?_
  conv => whnf
  refine Tri.seq ?_
  refine Tri.region ti_ok ?_
  conv => whnf
  refine Tri.ret ?_
  conv => whnf
  exact intDLe (by rw [rNumbers,hc]; rfl)
theorem F112 (n : NV) : DFun Tryz.prog W0 126 [encTop n] (.bool (!cNumbers n)):=by
 refine DFun.intro ti_ok Tryz.func126 rfl (by decide +kernel) Tryz.ntmps126 rfl fun Γ => ?_
 refine Tri.seq ?_
 refine Tri.region ti_ok ?_
 conv => whnf
 intro b
 conv => whnf
 refine Tri.seq ?_
 refine Tri.region ti_ok ?_
 conv => whnf
 refine ⟨rfl,?_⟩
 conv => whnf
 refine ⟨fun h => h,?_⟩
 conv => whnf
 refine ⟨rfl,?_⟩
 conv => whnf
 refine ⟨fun h => h,?_⟩
 conv => whnf
 refine ⟨fun h0 h => by first | exact h | (rw [h]; rfl) | (rw [h0,h]; rfl),?_⟩
 conv => whnf
 refine ⟨fun h => h,?_⟩
 conv => whnf
 refine ⟨rfl,?_⟩
 conv => whnf
 refine ⟨fun h => h,?_⟩
 conv => whnf
 refine ⟨fun h0 h => by first | exact h | (rw [h]; rfl) | (rw [h0,h]; rfl),?_⟩
 conv => whnf
 refine ⟨fun h => h,?_⟩
 conv => whnf
 refine ⟨rfl,?_⟩
 conv => whnf
 refine ⟨fun h => h,?_⟩
 conv => whnf
 refine ⟨fun h0 h => by first | exact h | (rw [h]; rfl) | (rw [h0,h]; rfl),?_⟩
 conv => whnf
 refine ⟨fun h => h,?_⟩
 conv => whnf
 refine ⟨rfl,?_⟩
 conv => whnf
 refine ⟨fun h => h,?_⟩
 conv => whnf
 refine ⟨fun h0 h => by first | exact h | (rw [h]; rfl) | (rw [h0,h]; rfl),?_⟩
 conv => whnf
 refine ⟨fun h => h,?_⟩
 conv => whnf
 refine ⟨rfl,?_⟩
 conv => whnf
 refine ⟨fun h => h,?_⟩
 conv => whnf
 refine ⟨fun h0 h => by first | exact h | (rw [h]; rfl) | (rw [h0,h]; rfl),?_⟩
 conv => whnf
 refine ⟨fun h => h,?_⟩
 conv => whnf
 refine ⟨rfl,?_⟩
 conv => whnf
 refine ⟨fun h => h,?_⟩
 conv => whnf
 refine ⟨fun h0 h => by first | exact h | (rw [h]; rfl) | (rw [h0,h]; rfl),?_⟩
 conv => whnf
 refine ⟨fun h => h,?_⟩
 conv => whnf
 refine ⟨rfl,?_⟩
 conv => whnf
 refine ⟨fun h => h,?_⟩
 conv => whnf
 refine ⟨fun h0 h => by first | exact h | (rw [h]; rfl) | (rw [h0,h]; rfl),?_⟩
 conv => whnf
 refine ⟨fun h => h,?_⟩
 conv => whnf
 refine ⟨rfl,?_⟩
 conv => whnf
 refine ⟨fun h => h,?_⟩
 conv => whnf
 refine ⟨fun h0 h => by first | exact h | (rw [h]; rfl) | (rw [h0,h]; rfl),?_⟩
 conv => whnf
 refine ⟨fun h => h,?_⟩
 conv => whnf
 refine ⟨rfl,?_⟩
 conv => whnf
 refine ⟨fun h => h,?_⟩
 conv => whnf
 refine ⟨fun h0 h => by first | exact h | (rw [h]; rfl) | (rw [h0,h]; rfl),?_⟩
 conv => whnf
 refine ⟨fun h => h,?_⟩
 conv => whnf
 refine ⟨rfl,?_⟩
 conv => whnf
 refine ⟨fun h => h,?_⟩
 conv => whnf
 refine ⟨fun h0 h => by first | exact h | (rw [h]; rfl) | (rw [h0,h]; rfl),?_⟩
 conv => whnf
 refine ⟨fun h => h,?_⟩
 conv => whnf
 refine ⟨rfl,?_⟩
 conv => whnf
 refine ⟨fun h => h,?_⟩
 conv => whnf
 refine ⟨fun h0 h => by first | exact h | (rw [h]; rfl) | (rw [h0,h]; rfl),?_⟩
 conv => whnf
 refine Tri.ret ?_
 conv => whnf
 refine DLe.of_eq (congrArg D.bool ?_)
 simp only [cNumbers,within,Bool.not_or,Bool.not_not,← bif_and]
 simp only [bif_and,Bool.and_assoc]
end Go.Tame.V
/- Contracts: the rules of a node,with loops. By program (mk.py). -/
namespace Go.Tame.V
open Go Go.Proofs
variable {W0 : World}
set_option maxRecDepth 10000
set_option linter.unusedVariables false
set_option linter.unusedSimpArgs false

theorem cmp_zero : ∀ a b : List UInt8,Lib.compareBytes a b = 0 ↔ a = b
 | [],[] => by simp [Lib.compareBytes]
 | [],_::_ => by simp [Lib.compareBytes]
 | _::_,[] => by simp [Lib.compareBytes]
 | a::xs,b::bs => by
  have ih:=cmp_zero xs bs
  simp only [Lib.compareBytes,List.cons.injEq]
  by_cases h1 : a < b
  ·rw [if_pos h1]
   exact ⟨fun h => by simp at h,fun h => by rw [h.1] at h1; exact absurd h1 (UInt8.lt_irrefl _)⟩
  ·rw [if_neg h1]
   by_cases h2 : b < a
   ·rw [if_pos h2]
    exact ⟨fun h => by simp at h,fun h => by rw [h.1] at h2; exact absurd h2 (UInt8.lt_irrefl _)⟩
   ·rw [if_neg h2,ih]
    have : a = b:=UInt8.le_antisymm (UInt8.not_lt.1 h2) (UInt8.not_lt.1 h1)
    simp [this]
theorem cmp_one : ∀ a b : List UInt8,Lib.compareBytes a b = 1 ↔ Op.bytesLess b a = true
 | [],[] => by simp [Lib.compareBytes,Op.bytesLess]
 | [],_::_ => by simp [Lib.compareBytes,Op.bytesLess]
 | _::_,[] => by simp [Lib.compareBytes,Op.bytesLess]
 | a::xs,b::bs => by
  have ih:=cmp_one xs bs
  simp only [Lib.compareBytes,Op.bytesLess,Bool.or_eq_true,Bool.and_eq_true,decide_eq_true_eq,beq_iff_eq]
  by_cases h1 : a < b
  ·rw [if_pos h1]
   refine ⟨fun h => by simp at h,fun h => ?_⟩
   rcases h with h | ⟨h,_⟩
   ·exact absurd (UInt8.lt_trans h h1) (UInt8.lt_irrefl _)
   ·rw [h] at h1; exact absurd h1 (UInt8.lt_irrefl _)
  ·rw [if_neg h1]
   by_cases h2 : b < a
   ·rw [if_pos h2]; simp [h2]
   ·rw [if_neg h2,ih]
    have : b = a:=UInt8.le_antisymm (UInt8.not_lt.1 h1) (UInt8.not_lt.1 h2)
    simp [this,UInt8.lt_irrefl]
theorem cmp_range : ∀ a b : List UInt8,Lib.compareBytes a b = -1 ∨ Lib.compareBytes a b = 0 ∨ Lib.compareBytes a b = 1
 | [],[] => by simp [Lib.compareBytes]
 | [],_::_ => by simp [Lib.compareBytes]
 | _::_,[] => by simp [Lib.compareBytes]
 | a::xs,b::bs => by
  have ih:=cmp_range xs bs
  simp only [Lib.compareBytes]
  split
  ·simp
  ·split
   ·simp
   ·exact ih
def ordE (a b : List UInt8) : Int:=if a = b then 5 else if Op.bytesLess b a then 1 else 0
theorem F103 (a b : List UInt8) : DFun Tryz.prog W0 108 [.str a,.str b] (.int .i64 (ordE a b)):=by
 refine DFun.intro ti_ok Tryz.func108 rfl (by decide +kernel) Tryz.ntmps108 rfl fun Γ => ?_
 refine Tri.seq ?_
 refine Tri.region ti_ok ?_
 conv => whnf
 refine Tri.seq ?_
 refine Tri.seq ?_
 refine Tri.region ti_ok ?_
 conv => whnf
 refine ⟨_,_,fun _ => F110 a b,⟨.refl _,.refl _,trivial⟩,?_⟩
 conv => whnf
 refine Tri.block ?_
 refine Tri.seq ?_
 refine Tri.region ti_ok ?_
 conv => whnf
 refine Tri.cond _ rfl (fun hc => ?_) (fun hc => ?_)
 ·refine Tri.seq ?_
  refine Tri.region ti_ok ?_
  conv => whnf
  refine Tri.ret ?_
  conv => whnf
  exact intDLe (by rw [ordE,if_pos ((cmp_zero a b).1 (by simpa using hc))])
 ·refine Tri.seq ?_
  have h0 : a ≠ b:=fun e => by have:=(cmp_zero a b).2 e; rw [this] at hc; simp at hc
  refine Tri.region ti_ok ?_
  conv => whnf
  refine Tri.cond _ rfl (fun hc => ?_) (fun hc => ?_)
  ·refine Tri.seq ?_
   refine Tri.region ti_ok ?_
   conv => whnf
   refine Tri.ret ?_
   conv => whnf
   exact intDLe (by rw [ordE,if_neg h0,if_pos ((cmp_one a b).1 (by simpa using hc))])
  ·refine Tri.skip ?_
   conv => whnf
   refine Tri.seq ?_
   refine Tri.region ti_ok ?_
   conv => whnf
   refine Tri.ret ?_
   conv => whnf
   exact intDLe (by rw [ordE,if_neg h0,if_neg]; intro e; have:=(cmp_one a b).2 e; rw [this] at hc; simp at hc)

def stAt (n : NV) (i : Nat) : SV:=n.streams.getD i default
def kAt (n : NV) (i : Nat) : NV:=n.kids.getD i default
theorem get_st (n : NV) {i : Nat} (h : i < n.streams.length) : (n.streams.map encS)[i]? = some (encS (stAt n i)):=by simp [stAt,List.getD,h]
theorem get_kk (n : NV) {i : Nat} (h : i < n.kids.length) : (n.kids.map enc)[i]? = some (encTop (kAt n i)):=by rw [← enc_eq]; simp [kAt,List.getD,h]
theorem pred_toNat {i : Nat} (h : 0 < i) : ((i : Int) - 1).toNat = i - 1:=by omega
theorem st_sz (n : NV) {i : Nat} (h : i < n.streams.length) : (stAt n i).name.length + (stAt n i).target.length + 2 ≤ sz n:=by
 have h1:=szS_get h
 have h2:=sz_eq n
 have : stAt n i = n.streams[i]:=by simp [stAt,List.getD,h]
 rw [this]; omega
theorem streams_len (n : NV) : 2 * n.streams.length + 2 ≤ sz n:=by have:=szS_len n.streams; have:=sz_eq n; omega

def cSizes (n : NV) (l : Int) : Bool:=((decide (16 < l) || decide (262144 < (n.text.length : Int))) || decide (64 < (n.kids.length : Int))) || decide (4 < (n.streams.length : Int))
def fZ (n : NV) (i : Nat) : Int:=if decide (262144 < ((stAt n i).target.length : Int)) then 7 else 0
def rSizes (n : NV) (l : Int) : Int:=if cSizes n l then 7 else firstNZ (fZ n) 0 n.streams.length
theorem F83 (n : NV) (l : Int) (hz : sz n < 1000000000) : DFun Tryz.prog W0 87 [ruleD n l] (.int .i64 (rSizes n l)):=by
 refine DFun.intro ti_ok Tryz.func87 rfl (by decide +kernel) Tryz.ntmps87 rfl fun Γ => ?_
 refine Tri.seq ?_
 refine Tri.region ti_ok ?_
 conv => whnf
 intro b
 conv => whnf
 refine Tri.seq ?_
 refine Tri.region ti_ok ?_
 conv => whnf
 refine ⟨rfl,?_⟩
 conv => whnf
 intro b2
 conv => whnf
 refine ⟨rfl,?_⟩
 conv => whnf
 refine Tri.seq ?_
 refine Tri.seq ?_
 refine Tri.region ti_ok ?_
 conv => whnf
 refine ⟨rfl,?_⟩
 conv => whnf
 refine ⟨fun h => h,?_⟩
 conv => whnf
 refine ⟨rfl,?_⟩
 conv => whnf
 refine ⟨fun h => h,?_⟩
 conv => whnf
 refine ⟨fun h => h,?_⟩
 conv => whnf
 refine ⟨fun h0 h => by first | exact h | (rw [h]; rfl) | (rw [h0,h]; rfl),?_⟩
 conv => whnf
 refine ⟨fun h => h,?_⟩
 conv => whnf
 refine ⟨rfl,?_⟩
 conv => whnf
 refine ⟨fun h => h,?_⟩
 conv => whnf
 refine ⟨fun h => h,?_⟩
 conv => whnf
 refine ⟨fun h0 h => by first | exact h | (rw [h]; rfl) | (rw [h0,h]; rfl),?_⟩
 conv => whnf
 refine ⟨fun h => h,?_⟩
 conv => whnf
 refine ⟨rfl,?_⟩
 conv => whnf
 refine ⟨fun h => h,?_⟩
 conv => whnf
 refine ⟨fun h => h,?_⟩
 conv => whnf
 refine ⟨fun h0 h => by first | exact h | (rw [h]; rfl) | (rw [h0,h]; rfl),?_⟩
 conv => whnf
 refine Tri.cond (cSizes n l) ?_ (fun hc => ?_) (fun hc => ?_)
 ·simp only [cSizes,← bif_or,← bif_and]
  rw [show n.streams.length = (n.streams.map encS).length by simp,show n.kids.length = (n.kids.map enc).length by simp]; rfl
 ·refine Tri.seq ?_
  refine Tri.region ti_ok ?_
  conv => whnf
  refine Tri.ret ?_
  conv => whnf
  exact intDLe (by rw [rSizes,hc]; rfl)
 ·refine Tri.skip ?_
  have hR : rSizes n l = firstNZ (fZ n) 0 (n.streams.length - 0):=by rw [rSizes,hc]; rfl
  have hsl:=streams_len n
  conv => whnf
  refine Tri.seq ?_
  refine Tri.seq ?_
  refine Tri.region ti_ok ?_
  conv => whnf
  refine ⟨rfl,?_⟩
  conv => whnf
  refine Tri.block ?_
  refine Tri.loop (α:={ i : Nat // i ≤ n.streams.length ∧ rSizes n l = firstNZ (fZ n) i (n.streams.length - i) }) (fun x => [(30,.sl .none 2 (n.streams.map encS)),(31,.int .i64 (n.streams.map encS).length),(32,.int .i64 x.1)]) (fun _ => []) (fun x => n.streams.length - x.1) ⟨0,by omega,hR⟩ ⟨.refl _,.refl _,.refl _,trivial⟩ trivial ?_
  rintro ⟨i,hi,hp⟩
  dsimp only
  refine Tri.seq ?_
  refine Tri.region ti_ok ?_
  conv => whnf
  refine Tri.seq ?_
  refine Tri.cond _ rfl (fun hc => ?_) (fun hc => ?_)
  ·refine Tri.skip ?_
   conv => whnf
   have hia : i < n.streams.length:=by simpa using hc
   refine Tri.seq ?_
   refine Tri.block ?_
   refine Tri.seq ?_
   refine Tri.region ti_ok ?_
   conv => whnf
   refine ⟨fun _ => by simp; omega,?_⟩
   conv => whnf
   refine ⟨encS (stAt n i),fun _ => get_st n hia,?_⟩
   conv => whnf
   intro b3
   conv => whnf
   refine ⟨rfl,?_⟩
   conv => whnf
   refine Tri.seq ?_
   refine Tri.region ti_ok ?_
   conv => whnf
   refine ⟨rfl,?_⟩
   conv => whnf
   refine Tri.cond _ rfl (fun hc => ?_) (fun hc => ?_)
   ·refine Tri.seq ?_
    refine Tri.region ti_ok ?_
    conv => whnf
    refine Tri.ret ?_
    conv => whnf
    have hf : fZ n i = 7:=by rw [fZ,if_pos hc]
    exact intDLe (by rw [hp,nz_hit hia (by rw [hf]; decide),hf])
   ·refine Tri.skip ?_
    conv => whnf
    refine Tri.region ti_ok ?_
    conv => whnf
    refine .inl ⟨fun _ => by simp [InR]; omega,?_⟩
    conv => whnf
    exact ⟨⟨i + 1,by omega,by rw [hp,nz_miss hia (by rw [fZ,hc]; rfl)]⟩,by show _ - (i + 1) < _ - i; omega,⟨.refl _,.refl _,.refl _,trivial⟩,trivial⟩
  ·refine Tri.exit ?_
   conv => whnf
   refine Tri.seq ?_
   refine Tri.region ti_ok ?_
   conv => whnf
   refine Tri.ret ?_
   conv => whnf
   exact intDLe (by rw [hp,nz_end (by simpa using hc)])
theorem F113 (n : NV) (l : Int) (hz : sz n < 1000000000) : DFun Tryz.prog W0 127 [encTop n,.int .i64 l] (.bool (!(rSizes n l == 0))):=by
 refine DFun.intro ti_ok Tryz.func127 rfl (by decide +kernel) Tryz.ntmps127 rfl fun Γ => ?_
 refine Tri.seq ?_
 refine Tri.region ti_ok ?_
 conv => whnf
 intro b
 conv => whnf
 refine Tri.seq ?_
 refine Tri.seq ?_
 refine Tri.region ti_ok ?_
 conv => whnf
 refine ⟨fun h => h,?_⟩
 conv => whnf
 refine ⟨rfl,?_⟩
 conv => whnf
 refine ⟨fun h => h,?_⟩
 conv => whnf
 refine ⟨fun h => h,?_⟩
 conv => whnf
 refine ⟨fun h0 h => by first | exact h | (rw [h]; rfl) | (rw [h0,h]; rfl),?_⟩
 conv => whnf
 refine ⟨fun h => h,?_⟩
 conv => whnf
 refine ⟨rfl,?_⟩
 conv => whnf
 refine ⟨fun h => h,?_⟩
 conv => whnf
 refine ⟨fun h => h,?_⟩
 conv => whnf
 refine ⟨fun h0 h => by first | exact h | (rw [h]; rfl) | (rw [h0,h]; rfl),?_⟩
 conv => whnf
 refine ⟨fun h => h,?_⟩
 conv => whnf
 refine ⟨rfl,?_⟩
 conv => whnf
 refine ⟨fun h => h,?_⟩
 conv => whnf
 refine ⟨fun h => h,?_⟩
 conv => whnf
 refine ⟨fun h0 h => by first | exact h | (rw [h]; rfl) | (rw [h0,h]; rfl),?_⟩
 conv => whnf
 refine Tri.cond (cSizes n l) ?_ (fun hc => ?_) (fun hc => ?_)
 ·simp only [cSizes,← bif_or,← bif_and]
  rw [show n.streams.length = (n.streams.map encS).length by simp,show n.kids.length = (n.kids.map enc).length by simp]; rfl
 ·refine Tri.seq ?_
  refine Tri.region ti_ok ?_
  conv => whnf
  refine Tri.ret ?_
  conv => whnf
  exact DLe.of_eq (congrArg D.bool (by rw [rSizes,hc]; rfl))
 ·refine Tri.skip ?_
  have hR : rSizes n l = firstNZ (fZ n) 0 (n.streams.length - 0):=by rw [rSizes,hc]; rfl
  have hsl:=streams_len n
  conv => whnf
  refine Tri.seq ?_
  refine Tri.seq ?_
  refine Tri.region ti_ok ?_
  conv => whnf
  refine Tri.block ?_
  refine Tri.loop (α:={ i : Nat // i ≤ n.streams.length ∧ rSizes n l = firstNZ (fZ n) i (n.streams.length - i) }) (fun x => [(2,.box 2 b 0),(5,.int .i64 x.1)]) (fun _ => [(2,.box b [.str n.name,.int .i64 n.kind,.str n.text,.str n.target,.int .i64 n.n1,.int .i64 n.n2,.int .i64 n.n3,.int .i64 n.n4,.int .i64 n.n5,.int .i64 n.n6,.sl .none 12 (n.kids.map enc),.sl .none 2 (n.streams.map encS)])]) (fun x => n.streams.length - x.1) ⟨0,by omega,hR⟩ ⟨.refl _,.refl _,trivial⟩ ⟨rfl,trivial⟩ ?_
  rintro ⟨i,hi,hp⟩
  dsimp only
  refine Tri.seq ?_
  refine Tri.seq ?_
  refine Tri.region ti_ok ?_
  conv => whnf
  refine ⟨rfl,?_⟩
  conv => whnf
  refine Tri.cond _ rfl (fun hc => ?_) (fun hc => ?_)
  ·refine Tri.skip ?_
   conv => whnf
   have hia : i < n.streams.length:=by simpa using hc
   refine Tri.seq ?_
   refine Tri.block ?_
   refine Tri.seq ?_
   refine Tri.region ti_ok ?_
   conv => whnf
   refine ⟨rfl,?_⟩
   conv => whnf
   refine ⟨fun _ => by simp; omega,?_⟩
   conv => whnf
   refine ⟨encS (stAt n i),fun _ => get_st n hia,?_⟩
   conv => whnf
   refine Tri.cond _ rfl (fun hc => ?_) (fun hc => ?_)
   ·refine Tri.seq ?_
    refine Tri.region ti_ok ?_
    conv => whnf
    refine Tri.ret ?_
    conv => whnf
    have hf : fZ n i = 7:=by rw [fZ,if_pos hc]
    exact DLe.of_eq (congrArg D.bool (by rw [hp,nz_hit hia (by rw [hf]; decide),hf]; rfl))
   ·refine Tri.skip ?_
    conv => whnf
    refine Tri.region ti_ok ?_
    conv => whnf
    refine .inl ⟨fun _ => by simp [InR]; omega,?_⟩
    conv => whnf
    exact ⟨⟨i + 1,by omega,by rw [hp,nz_miss hia (by rw [fZ,hc]; rfl)]⟩,by show _ - (i + 1) < _ - i; omega,⟨.refl _,.refl _,trivial⟩,⟨rfl,trivial⟩⟩
  ·refine Tri.exit ?_
   conv => whnf
   refine Tri.seq ?_
   refine Tri.region ti_ok ?_
   conv => whnf
   refine Tri.ret ?_
   conv => whnf
   exact DLe.of_eq (congrArg D.bool (by rw [hp,nz_end (by simpa using hc)]; rfl))

def fS (n : NV) (i : Nat) : Int:=if nameOk (stAt n i).name then (if 0 < i then ordE (stAt n (i - 1)).name (stAt n i).name else 0) else 4
def rStreams (n : NV) : Int:=firstNZ (fS n) 0 n.streams.length
theorem F84 (hL : LibOk W0) (n : NV) (l : Int) (hz : sz n < 1000000000) : DFun Tryz.prog W0 88 [ruleD n l] (.int .i64 (rStreams n)):=by
 refine DFun.intro ti_ok Tryz.func88 rfl (by decide +kernel) Tryz.ntmps88 rfl fun Γ => ?_
 refine Tri.seq ?_
 refine Tri.region ti_ok ?_
 conv => whnf
 intro b
 conv => whnf
 refine Tri.seq ?_
 refine Tri.seq ?_
 refine Tri.region ti_ok ?_
 conv => whnf
 refine ⟨rfl,?_⟩
 conv => whnf

 have hsl:=streams_len n
 refine Tri.block ?_
 refine Tri.loop (α:={ i : Nat // i ≤ n.streams.length ∧ rStreams n = firstNZ (fS n) i (n.streams.length - i) }) (fun x => [(1,.box 1 b 0),(8,.sl .none 2 (n.streams.map encS)),(9,.int .i64 (n.streams.map encS).length),(10,.int .i64 x.1)])
  (fun _ => [(1,.box b [.str n.name,.int .i64 n.kind,.str n.text,.str n.target,.int .i64 n.n1,.int .i64 n.n2,.int .i64 n.n3,.int .i64 n.n4,.int .i64 n.n5,.int .i64 n.n6,.sl .none 12 (n.kids.map enc),.sl .none 2 (n.streams.map encS),.int .i64 l])]) (fun x => n.streams.length - x.1) ⟨0,by omega,rfl⟩ ⟨.refl _,.refl _,.refl _,.refl _,trivial⟩ ⟨rfl,trivial⟩ ?_
 rintro ⟨i,hi,hp⟩
 dsimp only
 refine Tri.seq ?_
 refine Tri.region ti_ok ?_
 conv => whnf
 refine Tri.seq ?_
 refine Tri.cond _ rfl (fun hc => ?_) (fun hc => ?_)
 ·refine Tri.skip ?_
  conv => whnf
  have hia : i < n.streams.length:=by simpa using hc
  have hss:=st_sz n hia
  refine Tri.seq ?_
  refine Tri.block ?_
  refine Tri.seq ?_
  refine Tri.region ti_ok ?_
  conv => whnf
  refine ⟨fun _ => by simp; omega,?_⟩
  conv => whnf
  refine ⟨encS (stAt n i),fun _ => get_st n hia,?_⟩
  conv => whnf
  intro b3
  conv => whnf
  refine ⟨rfl,?_⟩
  conv => whnf
  refine Tri.seq ?_
  refine Tri.seq ?_
  refine Tri.region ti_ok ?_
  conv => whnf
  refine ⟨rfl,?_⟩
  conv => whnf
  refine ⟨[.str (stAt n i).name],_,fun _ => F100 hL _ (by omega),⟨.refl _,trivial⟩,?_⟩
  conv => whnf
  refine Tri.cond _ rfl (fun hc => ?_) (fun hc => ?_)
  ·refine Tri.seq ?_
   refine Tri.region ti_ok ?_
   conv => whnf
   refine Tri.ret ?_
   conv => whnf
   have hf : fS n i = 4:=by rw [fS,if_neg (by simpa using hc)]
   exact intDLe (by rw [hp,nz_hit hia (by rw [hf]; decide),hf])
  ·refine Tri.skip ?_
   have hok : nameOk (stAt n i).name = true:=by simpa using hc
   conv => whnf
   refine Tri.seq ?_
   refine Tri.region ti_ok ?_
   conv => whnf
   refine Tri.cond _ rfl (fun hc => ?_) (fun hc => ?_)
   ·refine Tri.seq ?_
    have hi0 : 0 < i:=by simpa using hc
    have hf : fS n i = ordE (stAt n (i - 1)).name (stAt n i).name:=by rw [fS,if_pos hok,if_pos hi0]
    refine Tri.draw ti_ok mixed (by kernel_rfl) ?_
    conv => whnf
    refine ⟨rfl,?_⟩
    conv => whnf
    refine .inl ⟨fun _ => by simp [InR]; omega,?_⟩
    conv => whnf
    refine ⟨fun _ => by simp; omega,?_⟩
    conv => whnf
    refine ⟨encS (stAt n (i - 1)),fun _ => by rw [pred_toNat hi0]; exact get_st n (by omega),?_⟩
    conv => whnf
    refine ⟨rfl,?_⟩
    conv => whnf
    refine ⟨[.str (stAt n (i - 1)).name,.str (stAt n i).name],_,fun _ => F103 _ _,⟨.refl _,.refl _,trivial⟩,?_⟩
    conv => whnf
    refine Tri.seq ?_
    refine Tri.region ti_ok ?_
    conv => whnf
    refine Tri.cond _ rfl (fun hc => ?_) (fun hc => ?_)
    ·refine Tri.seq ?_
     refine Tri.region ti_ok ?_
     conv => whnf
     refine Tri.ret ?_
     conv => whnf
     exact intDLe (by rw [hp,nz_hit hia (by rw [hf]; simpa using hc),hf])
    ·refine Tri.skip ?_
     conv => whnf
     refine Tri.region ti_ok ?_
     conv => whnf
     refine .inl ⟨fun _ => by simp [InR]; omega,?_⟩
     conv => whnf
     exact ⟨⟨i + 1,by omega,by rw [hp,nz_miss hia (by rw [hf]; simpa using hc)]⟩,by show _ - (i + 1) < _ - i; omega,⟨.refl _,.refl _,.refl _,.refl _,trivial⟩,⟨rfl,trivial⟩⟩
   ·refine Tri.skip ?_
    conv => whnf
    refine Tri.region ti_ok ?_
    conv => whnf
    refine .inl ⟨fun _ => by simp [InR]; omega,?_⟩
    conv => whnf
    have hf : fS n i = 0:=by rw [fS,if_pos hok,if_neg (by simpa using hc)]
    exact ⟨⟨i + 1,by omega,by rw [hp,nz_miss hia hf]⟩,by show _ - (i + 1) < _ - i; omega,⟨.refl _,.refl _,.refl _,.refl _,trivial⟩,⟨rfl,trivial⟩⟩
 ·refine Tri.exit ?_
  conv => whnf
  refine Tri.seq ?_
  refine Tri.region ti_ok ?_
  conv => whnf
  refine Tri.ret ?_
  conv => whnf
  exact intDLe (by rw [hp,nz_end (by simpa using hc)])

def fK (n : NV) (i : Nat) : Int:=ordE (kAt n (i - 1)).name (kAt n i).name
def rKids (n : NV) : Int:=firstNZ (fK n) 1 (n.kids.length - 1)
theorem F85 (n : NV) (l : Int) (hz : sz n < 1000000000) : DFun Tryz.prog W0 89 [ruleD n l] (.int .i64 (rKids n)):=by
 refine DFun.intro ti_ok Tryz.func89 rfl (by decide +kernel) Tryz.ntmps89 rfl fun Γ => ?_
 refine Tri.seq ?_
 refine Tri.region ti_ok ?_
 conv => whnf
 intro b
 conv => whnf
 refine Tri.seq ?_
 refine Tri.seq ?_
 refine Tri.region ti_ok ?_
 conv => whnf
 have hsl:=kids_len n
 refine Tri.block ?_
 refine Tri.loop (α:={ i : Nat // 1 ≤ i ∧ i ≤ n.kids.length + 1 ∧ rKids n = firstNZ (fK n) i (n.kids.length - i) }) (fun x => [(1,.box 1 b 0),(3,.int .i64 x.1)])
  (fun _ => [(1,.box b [.str n.name,.int .i64 n.kind,.str n.text,.str n.target,.int .i64 n.n1,.int .i64 n.n2,.int .i64 n.n3,.int .i64 n.n4,.int .i64 n.n5,.int .i64 n.n6,.sl .none 12 (n.kids.map enc),.sl .none 2 (n.streams.map encS),.int .i64 l])]) (fun x => n.kids.length + 1 - x.1) ⟨1,by omega,by omega,rfl⟩ ⟨.refl _,.refl _,trivial⟩ ⟨rfl,trivial⟩ ?_
 rintro ⟨i,hi1,hi,hp⟩
 dsimp only
 refine Tri.seq ?_
 refine Tri.seq ?_
 refine Tri.region ti_ok ?_
 conv => whnf
 refine ⟨rfl,?_⟩
 conv => whnf
 refine Tri.cond _ rfl (fun hc => ?_) (fun hc => ?_)
 ·refine Tri.skip ?_
  conv => whnf
  have hia : i < n.kids.length:=by simpa using hc
  refine Tri.seq ?_
  refine Tri.block ?_
  refine Tri.seq ?_
  refine Tri.draw ti_ok mixed (by kernel_rfl) ?_
  conv => whnf
  refine ⟨rfl,?_⟩
  conv => whnf
  refine .inl ⟨fun _ => by simp only [InR]; omega,?_⟩
  conv => whnf
  refine ⟨fun _ => by simp; omega,?_⟩
  conv => whnf
  refine ⟨encTop (kAt n (i - 1)),fun _ => by rw [pred_toNat (by omega)]; exact get_kk n (by omega),?_⟩
  conv => whnf
  refine ⟨rfl,?_⟩
  conv => whnf
  refine ⟨fun _ => by simp; omega,?_⟩
  conv => whnf
  refine ⟨encTop (kAt n i),fun _ => get_kk n hia,?_⟩
  conv => whnf
  refine ⟨[.str (kAt n (i - 1)).name,.str (kAt n i).name],_,fun _ => F103 _ _,⟨.refl _,.refl _,trivial⟩,?_⟩
  conv => whnf
  refine Tri.seq ?_
  refine Tri.region ti_ok ?_
  conv => whnf
  refine Tri.cond _ rfl (fun hc => ?_) (fun hc => ?_)
  ·refine Tri.seq ?_
   refine Tri.region ti_ok ?_
   conv => whnf
   refine Tri.ret ?_
   conv => whnf
   exact intDLe (by rw [hp,nz_hit hia (by rw [fK]; simpa using hc),fK])
  ·refine Tri.skip ?_
   conv => whnf
   refine Tri.region ti_ok ?_
   conv => whnf
   refine .inl ⟨fun _ => by simp [InR]; omega,?_⟩
   conv => whnf
   exact ⟨⟨i + 1,by omega,by omega,by rw [hp,nz_miss hia (by rw [fK]; simpa using hc)]⟩,by show _ + 1 - (i + 1) < _ + 1 - i; omega,⟨.refl _,.refl _,trivial⟩,⟨rfl,trivial⟩⟩
 ·refine Tri.exit ?_
  conv => whnf
  refine Tri.seq ?_
  refine Tri.region ti_ok ?_
  conv => whnf
  refine Tri.ret ?_
  conv => whnf
  exact intDLe (by rw [hp,nz_end (by simpa using hc)])
end Go.Tame.V
/- Contracts: Check and Valid of a tree. By program (mk.py). -/
namespace Go.Tame.V
open Go Go.Proofs
variable {W0 : World}
set_option maxRecDepth 10000
set_option linter.unusedVariables false
set_option linter.unusedSimpArgs false

def ruleI (n : NV) (l : Int) : Nat → Int
 | 0 => rKind n l
 | 1 => rName n l
 | 2 => rParts n
 | 3 => rTarget n
 | 4 => rNumbers n
 | 5 => rSizes n l
 | 6 => rStreams n
 | _ => rKids n
def one (n : NV) (l : Int) : Int:=firstNZ (ruleI n l) 0 8
theorem rule_ok (hL : LibOk W0) (n : NV) (l : Int) (hz : sz n + n.name.length < 1000000000) {i : Nat} (hi : i < 8) : DFun Tryz.prog W0 (82 + i) [ruleD n l] (.int .i64 (ruleI n l i)):=by
 have ht:=sz_eq n
 match i,hi with
 | 0,_ => exact F78 n l
 | 1,_ => exact F79 hL n l (by omega)
 | 2,_ => exact F80 n l
 | 3,_ => exact F81 hL n l (by omega)
 | 4,_ => exact F82 n l
 | 5,_ => exact F83 n l (by omega)
 | 6,_ => exact F84 hL n l (by omega)
 | 7,_ => exact F85 n l (by omega)
def fnsD (n : NV) (l : Int) : List D:=(List.range 8).map fun i => .fn (.func (82 + i)) [ruleD n l] []
theorem fnsD_get (n : NV) (l : Int) {i : Nat} (hi : i < 8) : (fnsD n l)[i]? = some (.fn (.func (82 + i)) [ruleD n l] []):=by simp [fnsD,hi]
def chkA (be bp : Nat) : WS (Int × List UInt8):=⟨fun s => .box be [.int .i64 s.1],fun s => .box bp [.str s.2]⟩
def checkF (n : NV) (p : List UInt8) (l : Int) (s : Int × List UInt8) : Bool × (Int × List UInt8):=if one n l = 0 then (true,(0,s.2)) else (false,(one n l,p))

theorem F77 (hL : LibOk W0) (be bp : Nat) (n : NV) (p : List UInt8) (l : Int) (s : Int × List UInt8) (hz : sz n + n.name.length < 1000000000) : DCall Tryz.prog W0 81 ([encTop n,.str p,.int .i64 l] ++ [.box 2000 be 0,.box 2001 bp 0]) ((chkA be bp).H s) fun d H' => d = .bool (checkF n p l s).1 ∧ H' = (chkA be bp).H (checkF n p l s).2:=by
 refine DCall.intro ti_ok Tryz.func81 rfl (by decide +kernel) Tryz.ntmps81 rfl fun Γ => ?_
 refine Tri.seq ?_
 refine Tri.region ti_ok ?_
 conv => whnf
 intro b
 conv => whnf
 refine Tri.seq ?_
 refine Tri.region ti_ok ?_
 conv => whnf
 refine ⟨rfl,?_⟩
 conv => whnf
 intro b2
 conv => whnf
 refine ⟨rfl,?_⟩
 conv => whnf
 refine Tri.seq ?_
 refine Tri.seq ?_
 refine Tri.region ti_ok ?_
 conv => whnf
 refine ⟨rfl,?_⟩
 conv => whnf
 refine ⟨rfl,?_⟩
 conv => whnf
 refine ⟨rfl,?_⟩
 conv => whnf
 refine ⟨rfl,?_⟩
 conv => whnf
 refine ⟨rfl,?_⟩
 conv => whnf
 refine ⟨rfl,?_⟩
 conv => whnf
 refine ⟨rfl,?_⟩
 conv => whnf
 refine ⟨rfl,?_⟩
 conv => whnf
 refine ⟨trivial,?_⟩
 conv => whnf
 refine Tri.block ?_
 refine Tri.loop (α:={ x : Nat × Int // x.1 ≤ 8 ∧ (0 < x.1 → x.2 = 0) ∧ one n l = firstNZ (ruleI n l) x.1 (8 - x.1) })
  (fun x => [(1,.str p),(3,.box 2000 be 0),(4,.box 2001 bp 0),(31,.sl .full 1 (fnsD n l)),(32,.int .i64 (fnsD n l).length),(33,.int .i64 x.1.1)]) (fun x => [(2000,.box be [.int .i64 x.1.2]),(2001,.box bp [.str s.2])]) (fun x => 8 - x.1.1)
  ⟨(0,s.1),by omega,by simp,rfl⟩ ⟨.refl _,.refl _,.refl _,.refl _,.refl _,.refl _,trivial⟩ ⟨rfl,rfl,trivial⟩ ?_
 rintro ⟨⟨i,e⟩,hi,he,hp⟩
 dsimp only at hi he hp ⊢
 refine Tri.seq ?_
 refine Tri.region ti_ok ?_
 conv => whnf
 refine Tri.seq ?_
 refine Tri.cond _ rfl (fun hc => ?_) (fun hc => ?_)
 ·refine Tri.skip ?_
  conv => whnf
  have hia : i < 8:=by simp [fnsD] at hc; omega
  refine Tri.seq ?_
  refine Tri.block ?_
  refine Tri.seq ?_
  refine Tri.region ti_ok ?_
  conv => whnf
  refine ⟨fun _ => by simp [fnsD]; omega,?_⟩
  conv => whnf
  refine ⟨.fn (.func (82 + i)) [ruleD n l] [],fun _ => fnsD_get n l hia,?_⟩
  conv => whnf
  refine Tri.seq ?_
  refine Tri.region ti_ok ?_
  conv => whnf
  refine ⟨[ruleD n l],_,fun _ => rule_ok hL n l hz hia,⟨.refl _,trivial⟩,?_⟩
  conv => whnf
  refine ⟨rfl,?_⟩
  conv => whnf
  refine Tri.seq ?_
  refine Tri.region ti_ok ?_
  conv => whnf
  refine ⟨rfl,?_⟩
  conv => whnf
  refine Tri.cond _ rfl (fun hc => ?_) (fun hc => ?_)
  ·refine Tri.seq ?_
   refine Tri.region ti_ok ?_
   conv => whnf
   refine ⟨rfl,?_⟩
   conv => whnf
   refine Tri.seq ?_
   refine Tri.region ti_ok ?_
   conv => whnf
   have hne : ruleI n l i ≠ 0:=by simpa using hc
   have h1 : one n l = ruleI n l i:=by rw [hp,nz_hit hia hne]
   have hF : checkF n p l s = (false,(ruleI n l i,p)):=by rw [checkF,if_neg (by rw [h1]; exact hne),h1]
   refine Tri.retK [(8,.bool false)] [(2000,.box be [.int .i64 (ruleI n l i)]),(2001,.box bp [.str p])] [(2000,2000),(2001,2001)] ⟨⟨.refl _,trivial⟩,rfl,rfl,rfl,rfl,rfl,trivial⟩ ?_
   conv => whnf
   exact ⟨_,.refl _,by rw [hF]; rfl,by rw [hF]; rfl⟩
  ·refine Tri.skip ?_
   conv => whnf
   refine Tri.region ti_ok ?_
   conv => whnf
   refine .inl ⟨fun _ => by simp [InR]; omega,?_⟩
   conv => whnf
   have h0 : ruleI n l i = 0:=by simpa using hc
   exact ⟨⟨(i + 1,0),by omega,fun _ => rfl,by rw [hp,nz_miss hia h0]⟩,by show 8 - (i + 1) < 8 - i; omega,⟨.refl _,.refl _,.refl _,.refl _,.refl _,.refl _,trivial⟩,⟨congrArg (fun z => some (HObj.box be [D.int .i64 z])) h0,rfl,trivial⟩⟩
 ·refine Tri.exit ?_
  conv => whnf
  refine Tri.seq ?_
  refine Tri.region ti_ok ?_
  conv => whnf
  have h8 : ¬ i < 8:=by simp [fnsD] at hc; omega
  have h1 : one n l = 0:=by rw [hp,nz_end h8]
  have he0 : e = 0:=he (by omega)
  subst he0
  have hF : checkF n p l s = (true,(0,s.2)):=by rw [checkF,if_pos h1]
  refine Tri.retK [(8,.bool true)] [(2000,.box be [.int .i64 0]),(2001,.box bp [.str s.2])] [(2000,2000),(2001,2001)] ⟨⟨.refl _,trivial⟩,rfl,rfl,rfl,rfl,rfl,trivial⟩ ?_
  conv => whnf
  exact ⟨_,.refl _,by rw [hF]; rfl,by rw [hF]; rfl⟩

/-- What Check hands back: the path,the error. -/
def check (n : NV) : List UInt8 × Int:=if (256 : Int) < cnt n then ([],7) else ((walk checkF n [] 1 (0,[])).2.2,(walk checkF n [] 1 (0,[])).2.1)
theorem F59 (hL : LibOk W0) (n : NV) (hz : sz n + n.name.length < 10000000) : DFun Tryz.prog W0 45 [encTop n] (.tup [.str (check n).1,.int .i64 (check n).2]):=by
 refine DFun.intro ti_ok Tryz.func45 rfl (by decide +kernel) Tryz.ntmps45 rfl fun Γ => ?_
 refine Tri.seq ?_
 refine Tri.region ti_ok ?_
 conv => whnf
 intro b
 conv => whnf
 refine Tri.seq ?_
 refine Tri.seq ?_
 refine Tri.region ti_ok ?_
 conv => whnf
 refine ⟨rfl,?_⟩
 conv => whnf
 refine ⟨[encTop n],_,fun _ => F75 n hz,⟨.refl _,trivial⟩,?_⟩
 conv => whnf
 refine Tri.cond _ rfl (fun hc => ?_) (fun hc => ?_)
 ·refine Tri.seq ?_
  refine Tri.region ti_ok ?_
  conv => whnf
  refine Tri.ret ?_
  conv => whnf
  exact ⟨DLe.of_eq (by rw [check,if_pos (by simpa using hc)]; rfl),intDLe (by rw [check,if_pos (by simpa using hc)]),trivial⟩
 ·refine Tri.skip ?_
  conv => whnf
  refine Tri.seq ?_
  refine Tri.region ti_ok ?_
  conv => whnf
  intro bp
  conv => whnf
  intro be
  conv => whnf
  refine ⟨rfl,?_⟩
  conv => whnf
  refine ⟨rfl,?_⟩
  conv => whnf
  refine Tri.seq ?_
  refine Tri.regionX ti_ok ?_
  conv => whnf
  refine .inl ?_
  conv => whnf
  refine ⟨rfl,?_⟩
  conv => whnf
  refine .inr (XOp.call rfl [encTop n,.str [],.int .i64 1,.fn (.func 81) [] [.box 2000 be 0,.box 2001 bp 0]] [(2000,5),(2001,4)]
   (F76 (chkA be bp) checkF 81 [.box 2000 be 0,.box 2001 bp 0] (fun n p l s hb hl => F77 hL be bp n p l s (by omega)) _ n [] 1 (0,[]) (Nat.lt_succ_self _) (by simp; omega) (by omega)) rfl ⟨.refl _,.refl _,.refl _,DLe.fn trivial ⟨DLe.box,DLe.box,trivial⟩,trivial⟩ ?_)
  rintro d H' ⟨rfl,rfl⟩
  refine ⟨_,.refl _,?_⟩
  conv => whnf
  refine Tri.seq ?_
  refine Tri.draw ti_ok mixed (by kernel_rfl) ?_
  conv => whnf
  refine ⟨rfl,?_⟩
  conv => whnf
  refine ⟨rfl,?_⟩
  conv => whnf
  refine Tri.ret ?_
  conv => whnf
  exact ⟨DLe.of_eq (by rw [check,if_neg (by simpa using hc)]; rfl),intDLe (by rw [check,if_neg (by simpa using hc)]),trivial⟩
def valid (n : NV) : Bool:=(check n).2 == 0
theorem F39 (hL : LibOk W0) (n : NV) (hz : sz n + n.name.length < 10000000) : DFun Tryz.prog W0 29 [encTop n] (.bool (valid n)):=by
 refine DFun.intro ti_ok Tryz.func29 rfl (by decide +kernel) Tryz.ntmps29 rfl fun Γ => ?_
 refine Tri.seq ?_
 refine Tri.region ti_ok ?_
 conv => whnf
 intro b
 conv => whnf
 refine Tri.seq ?_
 refine Tri.region ti_ok ?_
 conv => whnf
 refine ⟨rfl,?_⟩
 conv => whnf
 refine ⟨[encTop n],_,fun _ => F59 hL n hz,⟨.refl _,trivial⟩,?_⟩
 conv => whnf
 refine Tri.seq ?_
 refine Tri.region ti_ok ?_
 conv => whnf
 refine Tri.ret ?_
 conv => whnf
 exact .refl _
end Go.Tame.V
/- Contracts: the reference's Check and Valid of a tree. By program (mk.py). -/
namespace Go.Tame.V
open Go Go.Proofs
variable {W0 : World}
set_option maxRecDepth 10000
set_option linter.unusedVariables false
set_option linter.unusedSimpArgs false

def topCells (n : NV) : List D:=[.str n.name,.int .i64 n.kind,.str n.text,.str n.target,.int .i64 n.n1,.int .i64 n.n2,.int .i64 n.n3,.int .i64 n.n4,.int .i64 n.n5,.int .i64 n.n6,.sl .none 12 (n.kids.map enc),.sl .none 2 (n.streams.map encS)]
theorem one0 (n : NV) (l : Int) : one n l = firstNZ (ruleI n l) 0 (8 - 0):=rfl

theorem sizes_seven (n : NV) : ∀ {k i : Nat},firstNZ (fZ n) i k ≠ 0 → firstNZ (fZ n) i k = 7
 | 0,i,h => absurd rfl h
 | k + 1,i,h => by
  unfold firstNZ at h ⊢
  split
  ·rename_i h0; rw [if_pos h0] at h; exact sizes_seven n h
  ·rename_i h0; unfold fZ at h0 ⊢; split
   ·rfl
   ·rename_i h1; rw [if_neg h1] at h0; exact absurd rfl h0

theorem F93 (n : NV) (l : Int) (hz : sz n + n.name.length < 10000000) : DFun Tryz.prog W0 109 [encTop n,.int .i64 l] (.int .i64 (one n l)):=by
 refine DFun.intro ti_ok Tryz.func109 rfl (by decide +kernel) Tryz.ntmps109 rfl fun Γ => ?_
 refine Tri.seq ?_
 refine Tri.region ti_ok ?_
 conv => whnf
 intro b
 have ht:=sz_eq n
 have hkl:=kids_len n
 have hsl:=streams_len n
 conv => whnf
 refine Tri.seq ?_
 refine Tri.seq ?_
 refine Tri.region ti_ok ?_
 conv => whnf
 refine ⟨rfl,?_⟩
 conv => whnf
 refine ⟨fun h => h,?_⟩
 conv => whnf
 refine ⟨rfl,?_⟩
 conv => whnf
 refine ⟨fun h => h,?_⟩
 conv => whnf
 refine ⟨fun h0 h => by first | exact h | (rw [h]; rfl) | (rw [h0,h]; rfl),?_⟩
 conv => whnf
 refine ⟨fun h => h,?_⟩
 conv => whnf
 refine ⟨fun h => h,?_⟩
 conv => whnf
 refine ⟨fun h => h,?_⟩
 conv => whnf
 refine ⟨rfl,?_⟩
 conv => whnf
 refine ⟨fun h => h,?_⟩
 conv => whnf
 refine ⟨fun h => h,?_⟩
 conv => whnf
 refine ⟨fun h0 h => by first | exact h | (rw [h]; rfl) | (rw [h0,h]; rfl),?_⟩
 conv => whnf
 refine ⟨fun h0 h => by first | exact h | (rw [h]; rfl) | (rw [h0,h]; rfl),?_⟩
 conv => whnf
 refine Tri.cond (cKind n l) (by simp only [cKind,← bif_or,← bif_and]; rfl) (fun hc => ?_) (fun hc => ?_)
 ·refine Tri.seq ?_
  refine Tri.region ti_ok ?_
  conv => whnf
  refine Tri.ret ?_
  conv => whnf
  have hr : ruleI n l 0 = 1:=by rw [ruleI,rKind,hc]; rfl
  exact intDLe (by rw [one0,nz_hit (by omega) (by rw [hr]; decide),hr])
 ·refine Tri.skip ?_
  have hp1 : one n l = firstNZ (ruleI n l) 1 (8 - 1):=by rw [one0,nz_miss (by omega) (by rw [ruleI,rKind,hc]; rfl)]
  conv => whnf
  refine Tri.seq ?_
  refine Tri.seq ?_
  refine Tri.region ti_ok ?_
  conv => whnf
  refine ⟨fun h => h,?_⟩
  conv => whnf
  refine ⟨rfl,?_⟩
  conv => whnf
  refine ⟨fun h => h,?_⟩
  conv => whnf
  refine ⟨fun h0 h => by first | exact h | (rw [h]; rfl) | (rw [h0,h]; rfl),?_⟩
  conv => whnf
  refine ⟨fun h => h,?_⟩
  conv => whnf
  refine ⟨fun h => h,?_⟩
  conv => whnf
  refine ⟨fun h => h,?_⟩
  conv => whnf
  refine ⟨rfl,?_⟩
  conv => whnf
  refine ⟨fun h => h,?_⟩
  conv => whnf
  refine ⟨[.str n.name],_,fun h => F94 _ (by omega),⟨.refl _,trivial⟩,?_⟩
  conv => whnf
  refine ⟨fun h => h,?_⟩
  conv => whnf
  refine ⟨fun h => h,?_⟩
  conv => whnf
  refine ⟨fun h0 h => by first | exact h | (rw [h]; rfl) | (rw [h0,h]; rfl),?_⟩
  conv => whnf
  refine ⟨fun h0 h => by first | exact h | (rw [h]; rfl) | (rw [h0,h]; rfl),?_⟩
  conv => whnf
  refine Tri.cond (cName n l) (by simp only [cName,← bif_or,← bif_and]; rfl) (fun hc => ?_) (fun hc => ?_)
  ·refine Tri.seq ?_
   refine Tri.region ti_ok ?_
   conv => whnf
   refine Tri.ret ?_
   conv => whnf
   have hr : ruleI n l 1 = 4:=by rw [ruleI,rName,hc]; rfl
   exact intDLe (by rw [hp1,nz_hit (by omega) (by rw [hr]; decide),hr])
  ·refine Tri.skip ?_
   have hp2 : one n l = firstNZ (ruleI n l) 2 (8 - 2):=by rw [hp1,nz_miss (by omega) (by rw [ruleI,rName,hc]; rfl)]
   conv => whnf
   refine Tri.seq ?_
   refine Tri.seq ?_
   refine Tri.region ti_ok ?_
   conv => whnf
   refine ⟨rfl,?_⟩
   conv => whnf
   refine ⟨fun h => h,?_⟩
   conv => whnf
   refine ⟨rfl,?_⟩
   conv => whnf
   refine ⟨fun h => h,?_⟩
   conv => whnf
   refine ⟨fun h => h,?_⟩
   conv => whnf
   refine ⟨fun h => h,?_⟩
   conv => whnf
   refine ⟨rfl,?_⟩
   conv => whnf
   refine ⟨fun h => h,?_⟩
   conv => whnf
   refine ⟨fun h => h,?_⟩
   conv => whnf
   refine ⟨fun h => h,?_⟩
   conv => whnf
   refine ⟨fun h0 h => by first | exact h | (rw [h]; rfl) | (rw [h0,h]; rfl),?_⟩
   conv => whnf
   refine ⟨fun h0 h => by first | exact h | (rw [h]; rfl) | (rw [h0,h]; rfl),?_⟩
   conv => whnf
   refine ⟨fun h => h,?_⟩
   conv => whnf
   refine ⟨rfl,?_⟩
   conv => whnf
   refine ⟨fun h => h,?_⟩
   conv => whnf
   refine ⟨fun h => h,?_⟩
   conv => whnf
   refine ⟨fun h => h,?_⟩
   conv => whnf
   refine ⟨rfl,?_⟩
   conv => whnf
   refine ⟨fun h => h,?_⟩
   conv => whnf
   refine ⟨fun h => h,?_⟩
   conv => whnf
   refine ⟨fun h0 h => by first | exact h | (rw [h]; rfl) | (rw [h0,h]; rfl),?_⟩
   conv => whnf
   refine ⟨fun h0 h => by first | exact h | (rw [h]; rfl) | (rw [h0,h]; rfl),?_⟩
   conv => whnf
   refine ⟨fun h => h,?_⟩
   conv => whnf
   refine ⟨rfl,?_⟩
   conv => whnf
   refine ⟨fun h => h,?_⟩
   conv => whnf
   refine ⟨fun h => h,?_⟩
   conv => whnf
   refine ⟨fun h => h,?_⟩
   conv => whnf
   refine ⟨rfl,?_⟩
   conv => whnf
   refine ⟨fun h => h,?_⟩
   conv => whnf
   refine ⟨fun h => h,?_⟩
   conv => whnf
   refine ⟨fun h => h,?_⟩
   conv => whnf
   refine ⟨fun h0 h => by first | exact h | (rw [h]; rfl) | (rw [h0,h]; rfl),?_⟩
   conv => whnf
   refine ⟨fun h0 h => by first | exact h | (rw [h]; rfl) | (rw [h0,h]; rfl),?_⟩
   conv => whnf
   refine Tri.cond (cParts n) ?_ (fun hc => ?_) (fun hc => ?_)
   ·simp only [cParts,← bif_or,← bif_and]
    rw [show n.streams.length = (n.streams.map encS).length by simp,show n.kids.length = (n.kids.map enc).length by simp]; rfl
   ·refine Tri.seq ?_
    refine Tri.region ti_ok ?_
    conv => whnf
    refine Tri.ret ?_
    conv => whnf
    have hr : ruleI n l 2 = 1:=by rw [ruleI,rParts,hc]; rfl
    exact intDLe (by rw [hp2,nz_hit (by omega) (by rw [hr]; decide),hr])
   ·refine Tri.skip ?_
    have hp3 : one n l = firstNZ (ruleI n l) 3 (8 - 3):=by rw [hp2,nz_miss (by omega) (by rw [ruleI,rParts,hc]; rfl)]
    conv => whnf
    refine Tri.seq ?_
    refine Tri.seq ?_
    refine Tri.region ti_ok ?_
    conv => whnf
    refine ⟨rfl,?_⟩
    conv => whnf
    refine ⟨fun h => h,?_⟩
    conv => whnf
    refine ⟨rfl,?_⟩
    conv => whnf
    refine ⟨fun h => h,?_⟩
    conv => whnf
    refine ⟨[.str n.target],_,fun h => F111 _ (by omega),⟨.refl _,trivial⟩,?_⟩
    conv => whnf
    refine ⟨fun h => h,?_⟩
    conv => whnf
    refine ⟨fun h0 h => by first | exact h | (rw [h]; rfl) | (rw [h0,h]; rfl),?_⟩
    conv => whnf
    refine Tri.cond (cTarget n) (by simp only [cTarget,← bif_or,← bif_and]; rfl) (fun hc => ?_) (fun hc => ?_)
    ·refine Tri.seq ?_
     refine Tri.region ti_ok ?_
     conv => whnf
     refine Tri.ret ?_
     conv => whnf
     have hr : ruleI n l 3 = 4:=by rw [ruleI,rTarget,hc]; rfl
     exact intDLe (by rw [hp3,nz_hit (by omega) (by rw [hr]; decide),hr])
    ·refine Tri.skip ?_
     have hp4 : one n l = firstNZ (ruleI n l) 4 (8 - 4):=by rw [hp3,nz_miss (by omega) (by rw [ruleI,rTarget,hc]; rfl)]
     conv => whnf
     refine Tri.seq ?_
     refine Tri.seq ?_
     refine Tri.region ti_ok ?_
     conv => whnf
     refine ⟨rfl,?_⟩
     conv => whnf
     refine ⟨[encTop n],_,fun _ => F112 n,⟨.refl _,trivial⟩,?_⟩
     conv => whnf
     refine Tri.cond (cNumbers n) ((show _ = D.bool (!(!cNumbers n)) from rfl).trans (congrArg D.bool (Bool.not_not _))) (fun hc => ?_) (fun hc => ?_)
     ·refine Tri.seq ?_
      refine Tri.region ti_ok ?_
      conv => whnf
      refine Tri.ret ?_
      conv => whnf
      have hr : ruleI n l 4 = 2:=by rw [ruleI,rNumbers,hc]; rfl
      exact intDLe (by rw [hp4,nz_hit (by omega) (by rw [hr]; decide),hr])
     ·refine Tri.skip ?_
      have hp5 : one n l = firstNZ (ruleI n l) 5 (8 - 5):=by rw [hp4,nz_miss (by omega) (by rw [ruleI,rNumbers,hc]; rfl)]
      conv => whnf
      refine Tri.seq ?_
      refine Tri.seq ?_
      refine Tri.region ti_ok ?_
      conv => whnf
      refine ⟨rfl,?_⟩
      conv => whnf
      refine ⟨[encTop n,.int .i64 l],_,fun _ => F113 n l (by omega),⟨.refl _,.refl _,trivial⟩,?_⟩
      conv => whnf
      refine Tri.cond _ rfl (fun hc => ?_) (fun hc => ?_)
      ·refine Tri.seq ?_
       refine Tri.region ti_ok ?_
       conv => whnf
       refine Tri.ret ?_
       conv => whnf
       have hr : ruleI n l 5 = 7:=by
        rw [ruleI]
        have hc' : rSizes n l ≠ 0:=by simpa using hc
        unfold rSizes at hc' ⊢
        split
        ·rfl
        ·rename_i h; rw [if_neg h] at hc'; exact sizes_seven n hc'
       exact intDLe (by rw [hp5,nz_hit (by omega) (by rw [hr]; decide),hr])
      ·refine Tri.skip ?_
       have hp6 : one n l = firstNZ (ruleI n l) 6 (8 - 6):=by rw [hp5,nz_miss (by omega) (by rw [ruleI]; simpa using hc)]
       conv => whnf
       refine Tri.seq ?_
       refine Tri.seq ?_
       refine Tri.region ti_ok ?_
       conv => whnf
       refine Tri.block ?_
       refine Tri.loop (α:={ i : Nat // i ≤ n.streams.length ∧ rStreams n = firstNZ (fS n) i (n.streams.length - i) }) (fun x => [(2,.box 2 b 0),(5,.int .i64 x.1)]) (fun _ => [(2,.box b (topCells n))]) (fun x => n.streams.length - x.1) ⟨0,by omega,rfl⟩ ⟨.refl _,.refl _,trivial⟩ ⟨rfl,trivial⟩ ?_
       rintro ⟨i,hi,hp⟩
       dsimp only
       refine Tri.seq ?_
       refine Tri.seq ?_
       refine Tri.region ti_ok ?_
       conv => whnf
       refine ⟨rfl,?_⟩
       conv => whnf
       refine Tri.cond _ rfl (fun hc => ?_) (fun hc => ?_)
       ·refine Tri.skip ?_
        conv => whnf
        have hia : i < n.streams.length:=by simpa using hc
        have hss:=st_sz n hia
        have hit7 : ∀ e,fS n i = e → e ≠ 0 → one n l = e:=fun e he h0 => by
         have h1 : ruleI n l 6 = e:=by rw [ruleI,hp,nz_hit hia (by rw [he]; exact h0),he]
         rw [hp6,nz_hit (by omega) (by rw [h1]; exact h0),h1]
        refine Tri.seq ?_
        refine Tri.block ?_
        refine Tri.seq ?_
        refine Tri.seq ?_
        refine Tri.region ti_ok ?_
        conv => whnf
        refine ⟨rfl,?_⟩
        conv => whnf
        refine ⟨fun _ => by simp; omega,?_⟩
        conv => whnf
        refine ⟨encS (stAt n i),fun _ => get_st n hia,?_⟩
        conv => whnf
        refine ⟨[.str (stAt n i).name],_,fun _ => F94 _ (by omega),⟨.refl _,trivial⟩,?_⟩
        conv => whnf
        refine Tri.cond _ rfl (fun hc => ?_) (fun hc => ?_)
        ·refine Tri.seq ?_
         refine Tri.region ti_ok ?_
         conv => whnf
         refine Tri.ret ?_
         conv => whnf
         exact intDLe (hit7 4 (by rw [fS,if_neg (by simpa using hc)]) (by decide)).symm
        ·refine Tri.skip ?_
         have hok : nameOk (stAt n i).name = true:=by simpa using hc
         conv => whnf
         refine Tri.seq ?_
         refine Tri.seq ?_
         refine Tri.draw ti_ok mixed (by kernel_rfl) ?_
         conv => whnf
         refine ⟨fun h => h,?_⟩
         conv => whnf
         refine ⟨rfl,?_⟩
         conv => whnf
         refine ⟨fun h => h,?_⟩
         conv => whnf
         refine ⟨fun h => h,?_⟩
         conv => whnf
         refine ⟨fun h => by simp at h ⊢; omega,?_⟩
         conv => whnf
         refine ⟨fun h => h,?_⟩
         conv => whnf
         refine ⟨fun h => h,?_⟩
         conv => whnf
         refine ⟨encS (stAt n i),fun _ => get_st n hia,?_⟩
         conv => whnf
         refine ⟨fun h => h,?_⟩
         conv => whnf
         refine ⟨rfl,?_⟩
         conv => whnf
         refine ⟨fun h => h,?_⟩
         conv => whnf
         refine .inl ⟨fun h => by simp only [InR]; omega,?_⟩
         conv => whnf
         refine ⟨fun h => h,?_⟩
         conv => whnf
         refine ⟨fun h => h,?_⟩
         conv => whnf
         refine ⟨fun h => by simp at h ⊢; omega,?_⟩
         conv => whnf
         refine ⟨fun h => h,?_⟩
         conv => whnf
         refine ⟨fun h => h,?_⟩
         conv => whnf
         refine ⟨encS (stAt n (i - 1)),fun h => by rw [pred_toNat (by simpa using h)]; exact get_st n (by omega),?_⟩
         conv => whnf
         refine ⟨fun h => h,?_⟩
         conv => whnf
         refine ⟨fun h => h,?_⟩
         conv => whnf
         refine ⟨fun h0 h => by first | exact h | (rw [h]; rfl) | (rw [h0,h]; rfl),?_⟩
         conv => whnf
         refine Tri.cond _ rfl (fun hc => ?_) (fun hc => ?_)
         ·refine Tri.seq ?_
          refine Tri.region ti_ok ?_
          conv => whnf
          refine Tri.ret ?_
          conv => whnf
          have h2 : 0 < i ∧ (stAt n i).name = (stAt n (i - 1)).name:=by
           cases h0 : decide ((0 : Int) < i) <;> rw [h0] at hc <;> simp at h0 hc
           exact ⟨by omega,hc⟩
          exact intDLe (hit7 5 (by rw [fS,if_pos hok,if_pos h2.1,ordE,if_pos h2.2.symm]) (by decide)).symm
         ·refine Tri.skip ?_
          have hne : 0 < i → (stAt n (i - 1)).name ≠ (stAt n i).name:=fun h0 e => by
           have h0' : decide ((0 : Int) < i) = true:=by simp; omega
           rw [h0',e] at hc; simp at hc
          conv => whnf
          refine Tri.seq ?_
          refine Tri.draw ti_ok mixed (by kernel_rfl) ?_
          conv => whnf
          refine ⟨fun h => h,?_⟩
          conv => whnf
          refine ⟨rfl,?_⟩
          conv => whnf
          refine ⟨fun h => h,?_⟩
          conv => whnf
          refine ⟨fun h => h,?_⟩
          conv => whnf
          refine ⟨fun h => by simp at h ⊢; omega,?_⟩
          conv => whnf
          refine ⟨fun h => h,?_⟩
          conv => whnf
          refine ⟨fun h => h,?_⟩
          conv => whnf
          refine ⟨encS (stAt n i),fun _ => get_st n hia,?_⟩
          conv => whnf
          refine ⟨fun h => h,?_⟩
          conv => whnf
          refine ⟨rfl,?_⟩
          conv => whnf
          refine ⟨fun h => h,?_⟩
          conv => whnf
          refine .inl ⟨fun h => by simp only [InR]; omega,?_⟩
          conv => whnf
          refine ⟨fun h => h,?_⟩
          conv => whnf
          refine ⟨fun h => h,?_⟩
          conv => whnf
          refine ⟨fun h => by simp at h ⊢; omega,?_⟩
          conv => whnf
          refine ⟨fun h => h,?_⟩
          conv => whnf
          refine ⟨fun h => h,?_⟩
          conv => whnf
          refine ⟨encS (stAt n (i - 1)),fun h => by rw [pred_toNat (by simpa using h)]; exact get_st n (by omega),?_⟩
          conv => whnf
          refine ⟨fun h => h,?_⟩
          conv => whnf
          refine ⟨fun h => h,?_⟩
          conv => whnf
          refine ⟨fun h0 h => by first | exact h | (rw [h]; rfl) | (rw [h0,h]; rfl),?_⟩
          conv => whnf
          refine Tri.cond _ rfl (fun hc => ?_) (fun hc => ?_)
          ·refine Tri.seq ?_
           refine Tri.region ti_ok ?_
           conv => whnf
           refine Tri.ret ?_
           conv => whnf
           have h2 : 0 < i ∧ Op.bytesLess (stAt n i).name (stAt n (i - 1)).name = true:=by
            cases h0 : decide ((0 : Int) < i) <;> rw [h0] at hc <;> simp at h0 hc
            exact ⟨by omega,hc⟩
           exact intDLe (hit7 1 (by rw [fS,if_pos hok,if_pos h2.1,ordE,if_neg (hne h2.1),if_pos h2.2]) (by decide)).symm
          ·refine Tri.skip ?_
           conv => whnf
           refine Tri.region ti_ok ?_
           conv => whnf
           refine .inl ⟨fun _ => by simp [InR]; omega,?_⟩
           conv => whnf
           have hf : fS n i = 0:=by
            rw [fS,if_pos hok]
            by_cases h0 : 0 < i
            ·have h0' : decide ((0 : Int) < i) = true:=by simp; omega
             rw [h0'] at hc
             rw [if_pos h0,ordE,if_neg (hne h0),if_neg (by simpa using hc)]
            ·rw [if_neg h0]
           exact ⟨⟨i + 1,by omega,by rw [hp,nz_miss hia hf]⟩,by show _ - (i + 1) < _ - i; omega,⟨.refl _,.refl _,trivial⟩,⟨rfl,trivial⟩⟩
       ·refine Tri.exit ?_
        conv => whnf
        refine Tri.seq ?_
        have hp7 : one n l = firstNZ (ruleI n l) 7 (8 - 7):=by rw [hp6,nz_miss (by omega) (by rw [ruleI,hp,nz_end (by simpa using hc)])]
        refine Tri.seq ?_
        refine Tri.region ti_ok ?_
        conv => whnf
        refine Tri.block ?_
        refine Tri.loop (α:={ i : Nat // 1 ≤ i ∧ i ≤ n.kids.length + 1 ∧ rKids n = firstNZ (fK n) i (n.kids.length - i) }) (fun x => [(2,.box 2 b 0),(6,.int .i64 x.1)]) (fun _ => [(2,.box b (topCells n))]) (fun x => n.kids.length + 1 - x.1) ⟨1,by omega,by omega,rfl⟩ ⟨.refl _,.refl _,trivial⟩ ⟨rfl,trivial⟩ ?_
        rintro ⟨i,hi1,hi,hp⟩
        dsimp only
        refine Tri.seq ?_
        refine Tri.seq ?_
        refine Tri.region ti_ok ?_
        conv => whnf
        refine ⟨rfl,?_⟩
        conv => whnf
        refine Tri.cond _ rfl (fun hc => ?_) (fun hc => ?_)
        ·refine Tri.skip ?_
         conv => whnf
         have hia : i < n.kids.length:=by simpa using hc
         have hit8 : ∀ e,fK n i = e → e ≠ 0 → one n l = e:=fun e he h0 => by
          have h1 : ruleI n l 7 = e:=by show rKids n = e; rw [hp,nz_hit hia (by rw [he]; exact h0),he]
          rw [hp7,nz_hit (by omega) (by rw [h1]; exact h0),h1]
         refine Tri.seq ?_
         refine Tri.block ?_
         refine Tri.seq ?_
         refine Tri.seq ?_
         refine Tri.draw ti_ok mixed (by kernel_rfl) ?_
         conv => whnf
         refine ⟨rfl,?_⟩
         conv => whnf
         refine ⟨fun _ => by simp; omega,?_⟩
         conv => whnf
         refine ⟨encTop (kAt n i),fun _ => get_kk n hia,?_⟩
         conv => whnf
         refine ⟨rfl,?_⟩
         conv => whnf
         refine .inl ⟨fun _ => by simp only [InR]; omega,?_⟩
         conv => whnf
         refine ⟨fun _ => by simp; omega,?_⟩
         conv => whnf
         refine ⟨encTop (kAt n (i - 1)),fun _ => by rw [pred_toNat (by omega)]; exact get_kk n (by omega),?_⟩
         conv => whnf
         refine Tri.cond _ rfl (fun hc => ?_) (fun hc => ?_)
         ·refine Tri.seq ?_
          refine Tri.region ti_ok ?_
          conv => whnf
          refine Tri.ret ?_
          conv => whnf
          exact intDLe (hit8 5 (by rw [fK,ordE,if_pos (by have:=hc; simp at this; exact this.symm)]) (by decide)).symm
         ·refine Tri.skip ?_
          have hne : (kAt n (i - 1)).name ≠ (kAt n i).name:=fun e => by rw [e] at hc; simp at hc
          conv => whnf
          refine Tri.seq ?_
          refine Tri.draw ti_ok mixed (by kernel_rfl) ?_
          conv => whnf
          refine ⟨rfl,?_⟩
          conv => whnf
          refine ⟨fun _ => by simp; omega,?_⟩
          conv => whnf
          refine ⟨encTop (kAt n i),fun _ => get_kk n hia,?_⟩
          conv => whnf
          refine ⟨rfl,?_⟩
          conv => whnf
          refine .inl ⟨fun _ => by simp only [InR]; omega,?_⟩
          conv => whnf
          refine ⟨fun _ => by simp; omega,?_⟩
          conv => whnf
          refine ⟨encTop (kAt n (i - 1)),fun _ => by rw [pred_toNat (by omega)]; exact get_kk n (by omega),?_⟩
          conv => whnf
          refine Tri.cond _ rfl (fun hc => ?_) (fun hc => ?_)
          ·refine Tri.seq ?_
           refine Tri.region ti_ok ?_
           conv => whnf
           refine Tri.ret ?_
           conv => whnf
           exact intDLe (hit8 1 (by rw [fK,ordE,if_neg hne,if_pos hc]) (by decide)).symm
          ·refine Tri.skip ?_
           conv => whnf
           refine Tri.region ti_ok ?_
           conv => whnf
           refine .inl ⟨fun _ => by simp [InR]; omega,?_⟩
           conv => whnf
           have hf : fK n i = 0:=by rw [fK,ordE,if_neg hne,if_neg (by rw [hc]; simp)]
           exact ⟨⟨i + 1,by omega,by omega,by rw [hp,nz_miss hia hf]⟩,by show _ + 1 - (i + 1) < _ + 1 - i; omega,⟨.refl _,.refl _,trivial⟩,⟨rfl,trivial⟩⟩
        ·refine Tri.exit ?_
         conv => whnf
         refine Tri.seq ?_
         refine Tri.region ti_ok ?_
         conv => whnf
         refine Tri.ret ?_
         conv => whnf
         exact intDLe (by rw [hp7,nz_miss (by omega) (by show rKids n = 0; rw [hp,nz_end (by simpa using hc)])]; rfl)
end Go.Tame.V
/- Contracts: the reference's Count,Check and Valid of a tree. By program (mk.py). -/
namespace Go.Tame.V
open Go Go.Proofs
variable {W0 : World}
set_option maxRecDepth 10000
set_option linter.unusedVariables false
set_option linter.unusedSimpArgs false

theorem cntL_append : ∀ a b : List NV,cntL (a ++ b) = cntL a + cntL b
 | [],b => by simp [cntL]
 | n::r,b => by simp only [List.cons_append,cntL]; rw [cntL_append r b]; omega
theorem cntL_next {l : List NV} {i : Nat} (h : i < l.length) : cntL (l.take (i + 1)) = cntL (l.take i) + cnt l[i]:=by
 rw [List.take_add_one,List.getElem?_eq_getElem h,cntL_append]; simp [cntL]
theorem cntL_take : ∀ (l : List NV) (i : Nat),cntL (l.take i) ≤ cntL l
 | [],i => by simp [cntL]
 | n::r,0 => by simp [cntL]
 | n::r,i + 1 => by simp only [List.take_succ_cons,cntL]; have:=cntL_take r i; omega

theorem F47 : ∀ (N : Nat) (n : NV),sz n < N → sz n < 100000000 → DFun Tryz.prog W0 59 [encTop n] (.int .i64 (cnt n)):=by
 refine fun N => Nat.rec (fun n h => absurd h (Nat.not_lt_zero _)) (fun N ih n hN hb => ?_) N
 have hkl:=kids_len n
 have hcs:=cntL_sz n.kids
 have hse:=sz_eq n
 refine DFun.intro ti_ok Tryz.func59 rfl (by decide +kernel) Tryz.ntmps59 rfl fun Γ => ?_
 refine Tri.seq ?_
 refine Tri.region ti_ok ?_
 conv => whnf
 intro b
 conv => whnf
 refine Tri.seq ?_
 refine Tri.region ti_ok ?_
 conv => whnf
 refine Tri.seq ?_
 refine Tri.seq ?_
 refine Tri.region ti_ok ?_
 conv => whnf
 refine Tri.block ?_
 refine Tri.loop (α:={ i : Nat // i ≤ n.kids.length }) (fun x => [(1,.box 1 b 0),(3,.int .i64 ((1 + cntL (n.kids.take x.1) : Nat) : Int)),(4,.int .i64 x.1)]) (fun _ => [(1,.box b (topCells n))]) (fun x => n.kids.length - x.1) ⟨0,by omega⟩ ⟨.refl _,.refl _,.refl _,trivial⟩ ⟨rfl,trivial⟩ ?_
 rintro ⟨i,hi⟩
 dsimp only
 refine Tri.seq ?_
 refine Tri.seq ?_
 refine Tri.region ti_ok ?_
 conv => whnf
 refine ⟨rfl,?_⟩
 conv => whnf
 refine Tri.cond _ rfl (fun hc => ?_) (fun hc => ?_)
 ·refine Tri.skip ?_
  conv => whnf
  have hia : i < n.kids.length:=by simpa using hc
  have hks:=kid_sz hia
  have hct:=cntL_take n.kids i
  have hcz:=cnt_sz n.kids[i]
  refine Tri.seq ?_
  refine Tri.block ?_
  refine Tri.region ti_ok ?_
  conv => whnf
  refine ⟨rfl,?_⟩
  conv => whnf
  refine ⟨fun _ => by simp; omega,?_⟩
  conv => whnf
  refine ⟨encTop n.kids[i],fun _ => get_kid hia,?_⟩
  conv => whnf
  refine ⟨[encTop n.kids[i]],_,fun _ => ih _ (by omega) (by omega),⟨.refl _,trivial⟩,?_⟩
  conv => whnf
  refine .inl ⟨fun _ => by simp only [InR]; omega,?_⟩
  conv => whnf
  refine Tri.region ti_ok ?_
  conv => whnf
  refine .inl ⟨fun _ => by simp [InR]; omega,?_⟩
  conv => whnf
  exact ⟨⟨i + 1,by omega⟩,by show _ - (i + 1) < _ - i; omega,⟨.refl _,intDLe (by rw [cntL_next hia]; omega),.refl _,trivial⟩,⟨rfl,trivial⟩⟩
 ·refine Tri.exit ?_
  conv => whnf
  refine Tri.seq ?_
  refine Tri.region ti_ok ?_
  conv => whnf
  refine Tri.ret ?_
  conv => whnf
  exact intDLe (by rw [cnt_eq,List.take_of_length_le (by simp at hc; omega)])

mutual
theorem wchk : ∀ (n : NV) (p : List UInt8) (l : Int),walk checkF n p l (0,[]) = (true,(0,[])) ∨ ((walk checkF n p l (0,[])).1 = false ∧ (walk checkF n p l (0,[])).2.1 ≠ 0)
 | .mk a b c d e f g h i j ks ss,p,l => by
  simp only [walk]
  unfold checkF
  split
  ·rename_i s' heq
   split at heq
   ·cases heq
   ·rename_i h0; cases heq; exact .inr ⟨rfl,h0⟩
  ·rename_i s' heq
   split at heq
   ·cases heq; exact wchkL ks p l
   ·cases heq
theorem wchkL : ∀ (ks : List NV) (p : List UInt8) (l : Int),walkL checkF ks p l (0,[]) = (true,(0,[])) ∨ ((walkL checkF ks p l (0,[])).1 = false ∧ (walkL checkF ks p l (0,[])).2.1 ≠ 0)
 | [],p,l => .inl rfl
 | k::r,p,l => by
  simp only [walkL]
  rcases wchk k (below p k.name (l + 1)) (l + 1) with h | ⟨h1,h2⟩
  ·rw [h]; exact wchkL r p l
  ·generalize walk checkF k (below p k.name (l + 1)) (l + 1) (0,[]) = r at h1 h2
   obtain ⟨x,y⟩:=r
   simp only at h1 h2
   subst h1
   exact .inr ⟨rfl,h2⟩
end
def rchk (n : NV) (p : List UInt8) (l : Int) : List UInt8 × Int:=if (walk checkF n p l (0,[])).1 then ([],0) else ((walk checkF n p l (0,[])).2.2,(walk checkF n p l (0,[])).2.1)

theorem F67 : ∀ (N : Nat) (n : NV) (p : List UInt8) (l : Int),sz n < N → p.length + sz n + l.toNat + n.name.length < 10000000 → 1 ≤ l → DFun Tryz.prog W0 91 [encTop n,.str p,.int .i64 l] (.tup [.str (rchk n p l).1,.int .i64 (rchk n p l).2]):=by
 refine fun N => Nat.rec (fun n p l h => absurd h (Nat.not_lt_zero _)) (fun N ih n p l hN hb hl => ?_) N
 have hkl:=kids_len n
 refine DFun.intro ti_ok Tryz.func91 rfl (by decide +kernel) Tryz.ntmps91 rfl fun Γ => ?_
 refine Tri.seq ?_
 refine Tri.region ti_ok ?_
 conv => whnf
 intro b
 conv => whnf
 refine Tri.seq ?_
 refine Tri.seq ?_
 refine Tri.region ti_ok ?_
 conv => whnf
 refine ⟨rfl,?_⟩
 conv => whnf
 refine ⟨[encTop n,.int .i64 l],_,fun _ => F93 n l (by omega),⟨.refl _,.refl _,trivial⟩,?_⟩
 conv => whnf
 refine Tri.seq ?_
 refine Tri.region ti_ok ?_
 conv => whnf
 refine Tri.cond _ rfl (fun hc => ?_) (fun hc => ?_)
 ·refine Tri.seq ?_
  refine Tri.region ti_ok ?_
  conv => whnf
  refine Tri.ret ?_
  conv => whnf
  have hne : one n l ≠ 0:=by simpa using hc
  have hw : walk checkF n p l (0,[]) = (false,(one n l,p)):=by rw [walk_eq,checkF,if_neg hne]
  have hR : rchk n p l = (p,one n l):=by rw [rchk,hw]; rfl
  rw [hR]
  exact ⟨.refl _,.refl _,trivial⟩
 ·refine Tri.skip ?_
  have h0 : one n l = 0:=by simpa using hc
  have hw : walk checkF n p l (0,[]) = walkL checkF n.kids p l (0,[]):=by rw [walk_eq,checkF,if_pos h0]
  conv => whnf
  refine Tri.seq ?_
  refine Tri.seq ?_
  refine Tri.region ti_ok ?_
  conv => whnf
  refine Tri.block ?_
  refine Tri.loop (α:={ i : Nat // i ≤ n.kids.length ∧ walk checkF n p l (0,[]) = walkL checkF (n.kids.drop i) p l (0,[]) }) (fun x => [(1,.str p),(2,.int .i64 l),(3,.box 3 b 0),(9,.int .i64 x.1)]) (fun _ => [(3,.box b (topCells n))]) (fun x => n.kids.length - x.1) ⟨0,by omega,hw⟩ ⟨.refl _,.refl _,.refl _,.refl _,trivial⟩ ⟨rfl,trivial⟩ ?_
  rintro ⟨i,hi,hp⟩
  dsimp only
  refine Tri.seq ?_
  refine Tri.seq ?_
  refine Tri.region ti_ok ?_
  conv => whnf
  refine ⟨rfl,?_⟩
  conv => whnf
  refine Tri.cond _ rfl (fun hc => ?_) (fun hc => ?_)
  ·refine Tri.skip ?_
   conv => whnf
   have hia : i < n.kids.length:=by simpa using hc
   have hks:=kid_sz hia
   have hbl:=below_len p n.kids[i].name (l + 1)
   have hdr:=List.drop_eq_getElem_cons hia
   have hwk:=wchk n.kids[i] (below p n.kids[i].name (l + 1)) (l + 1)
   refine Tri.seq ?_
   refine Tri.block ?_
   refine Tri.seq ?_
   refine Tri.draw ti_ok mixed (by kernel_rfl) ?_
   conv => whnf
   refine ⟨rfl,?_⟩
   conv => whnf
   refine ⟨fun _ => by simp; omega,?_⟩
   conv => whnf
   refine ⟨encTop n.kids[i],fun _ => get_kid hia,?_⟩
   conv => whnf
   refine ⟨rfl,?_⟩
   conv => whnf
   refine ⟨fun _ => by simp; omega,?_⟩
   conv => whnf
   refine ⟨encTop n.kids[i],fun _ => get_kid hia,?_⟩
   conv => whnf
   refine ⟨[.str p,.str n.kids[i].name,.int .i64 l],_,fun _ => F68 p _ l (by omega) hl,⟨.refl _,.refl _,.refl _,trivial⟩,?_⟩
   conv => whnf
   refine .inl ⟨fun _ => by simp [InR]; omega,?_⟩
   conv => whnf
   refine ⟨[encTop n.kids[i],.str (below p n.kids[i].name (l + 1)),.int .i64 (l + 1)],_,fun _ => ih n.kids[i] (below p n.kids[i].name (l + 1)) (l + 1) (by omega) (by omega) (by omega),⟨.refl _,.refl _,.refl _,trivial⟩,?_⟩
   conv => whnf
   refine Tri.seq ?_
   refine Tri.region ti_ok ?_
   conv => whnf
   refine Tri.cond _ rfl (fun hc => ?_) (fun hc => ?_)
   ·refine Tri.seq ?_
    refine Tri.region ti_ok ?_
    conv => whnf
    refine Tri.ret ?_
    conv => whnf
    have hne : (rchk n.kids[i] (below p n.kids[i].name (l + 1)) (l + 1)).2 ≠ 0:=by simpa using hc
    have hR : rchk n p l = rchk n.kids[i] (below p n.kids[i].name (l + 1)) (l + 1):=by
     unfold rchk at hne ⊢
     rw [hp,hdr,walkL]
     rcases hwk with h | ⟨h1,h2⟩
     ·rw [h] at hne; exact absurd rfl hne
     ·generalize walk checkF n.kids[i] (below p n.kids[i].name (l + 1)) (l + 1) (0,[]) = r at *
      obtain ⟨x,y⟩:=r
      simp only at h1; subst h1; rfl
    rw [hR]
    exact ⟨.refl _,.refl _,trivial⟩
   ·refine Tri.skip ?_
    conv => whnf
    refine Tri.region ti_ok ?_
    conv => whnf
    refine .inl ⟨fun _ => by simp [InR]; omega,?_⟩
    conv => whnf
    have h0 : (rchk n.kids[i] (below p n.kids[i].name (l + 1)) (l + 1)).2 = 0:=by simpa using hc
    have hk : walk checkF n.kids[i] (below p n.kids[i].name (l + 1)) (l + 1) (0,[]) = (true,(0,[])):=by
     rcases hwk with h | ⟨h1,h2⟩
     ·exact h
     ·unfold rchk at h0; rw [h1] at h0; exact absurd h0 h2
    exact ⟨⟨i + 1,by omega,by rw [hp,hdr,walkL,hk]⟩,by show _ - (i + 1) < _ - i; omega,⟨.refl _,.refl _,.refl _,.refl _,trivial⟩,⟨rfl,trivial⟩⟩
  ·refine Tri.exit ?_
   conv => whnf
   refine Tri.seq ?_
   refine Tri.region ti_ok ?_
   conv => whnf
   refine Tri.ret ?_
   conv => whnf
   have hR : rchk n p l = ([],0):=by rw [rchk,hp,List.drop_of_length_le (by simp at hc; omega)]; rfl
   rw [hR]
   exact ⟨.refl _,.refl _,trivial⟩

theorem rchk_check (n : NV) : (if (256 : Int) < cnt n then ([],7) else rchk n [] 1) = check n:=by
 unfold check rchk
 split
 ·rfl
 ·rcases wchk n [] 1 with h | ⟨h1,h2⟩
  ·rw [h]; rfl
  ·rw [h1]; rfl
theorem F43 (n : NV) (hz : sz n + n.name.length < 2200000) : DFun Tryz.prog W0 47 [encTop n] (.tup [.str (check n).1,.int .i64 (check n).2]):=by
 refine DFun.intro ti_ok Tryz.func47 rfl (by decide +kernel) Tryz.ntmps47 rfl fun Γ => ?_
 refine Tri.seq ?_
 refine Tri.region ti_ok ?_
 conv => whnf
 intro b
 conv => whnf
 refine Tri.seq ?_
 refine Tri.seq ?_
 refine Tri.region ti_ok ?_
 conv => whnf
 refine ⟨rfl,?_⟩
 conv => whnf
 refine ⟨[encTop n],_,fun _ => F47 _ n (Nat.lt_succ_self _) (by omega),⟨.refl _,trivial⟩,?_⟩
 conv => whnf
 refine Tri.cond _ rfl (fun hc => ?_) (fun hc => ?_)
 ·refine Tri.seq ?_
  refine Tri.region ti_ok ?_
  conv => whnf
  refine Tri.ret ?_
  conv => whnf
  rw [← rchk_check,if_pos (by simpa using hc)]
  exact ⟨.refl _,.refl _,trivial⟩
 ·refine Tri.skip ?_
  conv => whnf
  refine Tri.seq ?_
  refine Tri.region ti_ok ?_
  conv => whnf
  refine ⟨rfl,?_⟩
  conv => whnf
  refine ⟨[encTop n,.str [],.int .i64 1],_,fun _ => F67 _ n [] 1 (Nat.lt_succ_self _) (by simp; omega) (by omega),⟨.refl _,.refl _,.refl _,trivial⟩,?_⟩
  conv => whnf
  refine Tri.ret ?_
  conv => whnf
  rw [← rchk_check,if_neg (by simpa using hc)]
  exact ⟨.refl _,.refl _,trivial⟩
theorem F20 (n : NV) (hz : sz n + n.name.length < 2200000) : DFun Tryz.prog W0 31 [encTop n] (.bool (valid n)):=by
 refine DFun.intro ti_ok Tryz.func31 rfl (by decide +kernel) Tryz.ntmps31 rfl fun Γ => ?_
 refine Tri.seq ?_
 refine Tri.region ti_ok ?_
 conv => whnf
 intro b
 conv => whnf
 refine Tri.seq ?_
 refine Tri.region ti_ok ?_
 conv => whnf
 refine ⟨rfl,?_⟩
 conv => whnf
 refine ⟨[encTop n],_,fun _ => F43 n hz,⟨.refl _,trivial⟩,?_⟩
 conv => whnf
 refine Tri.seq ?_
 refine Tri.region ti_ok ?_
 conv => whnf
 refine Tri.ret ?_
 conv => whnf
 exact .refl _
end Go.Tame.V
/- Contracts: Compare's parts. By program (mk.py). -/
namespace Go.Tame.V
open Go Go.Proofs
variable {W0 : World}
set_option maxRecDepth 10000
set_option linter.unusedVariables false
set_option linter.unusedSimpArgs false

def joinP (p n : List UInt8) : List UInt8:=if p = [] then n else p ++ [47] ++ n
def fieldDiff (a b : NV) : Nat → Bool
 | 0 => !(a.text == b.text)
 | 1 => !(a.target == b.target)
 | 2 => (!(a.n1 == b.n1) || !(a.n2 == b.n2)) || !(a.n3 == b.n3)
 | 3 => !(a.n4 == b.n4)
 | _ => !decide (a.streams = b.streams)
def fieldDiffs (p : List UInt8) (a b : NV) (i : Nat) : List DV:=((List.range i).filter (fieldDiff a b)).map fun i => ⟨((3 + i : Nat) : Int),p⟩
mutual
/-- What Compare hands back of two nodes at a path. -/
def cmpT (p : List UInt8) (a b : NV) : List DV:=if a.kind = b.kind then fieldDiffs p a b 5 ++ mrg p a.kids b.kids else [⟨2,p⟩]
termination_by sz a + sz b
decreasing_by have h1:=sz_eq a; have h2:=sz_eq b; omega
def mrg (p : List UInt8) : List NV → List NV → List DV
 | [],[] => []
 | x::xs,[] => ⟨0,joinP p x.name⟩::mrg p xs []
 | [],y::ys => ⟨1,joinP p y.name⟩::mrg p [] ys
 | x::xs,y::ys =>
  if Op.bytesLess x.name y.name then ⟨0,joinP p x.name⟩::mrg p xs (y::ys)
  else if x.name = y.name then cmpT (joinP p x.name) x y ++ mrg p xs ys
  else ⟨1,joinP p y.name⟩::mrg p (x::xs) ys
termination_by xs ys => szL xs + szL ys
decreasing_by all_goals simp only [szL]; omega
end
end Go.Tame.V
/- Contracts: Compare. By program (mk.py). -/
namespace Go.Tame.V
open Go Go.Proofs
variable {W0 : World}
set_option maxRecDepth 10000
set_option linter.unusedVariables false
set_option linter.unusedSimpArgs false

end Go.Tame.V
/- Contracts: Compare and Same; few. By program (mk.py). -/
namespace Go.Tame.V
open Go Go.Proofs
variable {W0 : World}
set_option maxRecDepth 10000
set_option linter.unusedVariables false
set_option linter.unusedSimpArgs false

def Fits (n : NV) : Prop:=sz n + n.name.length < 2200000
def compare (a b : NV) : List DV × Int:=if valid a && valid b then (cmpT [] a b,0) else ([],1)
def same (a b : NV) : Bool:=(compare a b).2 == 0 && (compare a b).1.length == 0
mutual
def levels : NV → Nat
 | .mk _ _ _ _ _ _ _ _ _ _ ks _ => levelsL ks + 1
def levelsL : List NV → Nat
 | [] => 0
 | n::r => max (levels n) (levelsL r)
end
theorem levels_eq (n : NV) : levels n = levelsL n.kids + 1:=by cases n; simp only [levels]
theorem levelsL_append : ∀ a b : List NV,levelsL (a ++ b) = max (levelsL a) (levelsL b)
 | [],b => by simp [levelsL]
 | n::r,b => by simp only [List.cons_append,levelsL]; rw [levelsL_append r b]; omega
theorem levelsL_next {l : List NV} {i : Nat} (h : i < l.length) : levelsL (l.take (i + 1)) = max (levelsL (l.take i)) (levels l[i]):=by
 rw [List.take_add_one,List.getElem?_eq_getElem h,levelsL_append]; simp [levelsL]
mutual
theorem levels_sz : ∀ n : NV,levels n ≤ sz n
 | .mk a b c d e f g h i j ks ss => by have:=levelsL_sz ks; simp only [levels,sz]; omega
theorem levelsL_sz : ∀ l : List NV,levelsL l ≤ szL l
 | [] => by simp [levelsL,szL]
 | n::r => by have:=levels_sz n; have:=levelsL_sz r; simp only [levelsL,szL]; omega
end
theorem F48 : ∀ (N : Nat) (n : NV),sz n < N → sz n < 100000000 → DFun Tryz.prog W0 60 [encTop n] (.int .i64 (levels n)):=by
 refine fun N => Nat.rec (fun n h => absurd h (Nat.not_lt_zero _)) (fun N ih n hN hb => ?_) N
 have hkl:=kids_len n
 have hcs:=levelsL_sz n.kids
 have hse:=sz_eq n
 refine DFun.intro ti_ok Tryz.func60 rfl (by decide +kernel) Tryz.ntmps60 rfl fun Γ => ?_
 refine Tri.seq ?_
 refine Tri.region ti_ok ?_
 conv => whnf
 intro b
 conv => whnf
 refine Tri.seq ?_
 refine Tri.region ti_ok ?_
 conv => whnf
 refine Tri.seq ?_
 refine Tri.seq ?_
 refine Tri.region ti_ok ?_
 conv => whnf
 refine Tri.block ?_
 refine Tri.loop (α:={ i : Nat // i ≤ n.kids.length }) (fun x => [(1,.box 1 b 0),(3,.int .i64 (levelsL (n.kids.take x.1) : Nat)),(4,.int .i64 x.1)]) (fun _ => [(1,.box b (topCells n))]) (fun x => n.kids.length - x.1) ⟨0,by omega⟩ ⟨.refl _,.refl _,.refl _,trivial⟩ ⟨rfl,trivial⟩ ?_
 rintro ⟨i,hi⟩
 dsimp only
 refine Tri.seq ?_
 refine Tri.seq ?_
 refine Tri.region ti_ok ?_
 conv => whnf
 refine ⟨rfl,?_⟩
 conv => whnf
 refine Tri.cond _ rfl (fun hc => ?_) (fun hc => ?_)
 ·refine Tri.skip ?_
  conv => whnf
  have hia : i < n.kids.length:=by simpa using hc
  have hks:=kid_sz hia
  refine Tri.seq ?_
  refine Tri.block ?_
  refine Tri.region ti_ok ?_
  conv => whnf
  refine ⟨rfl,?_⟩
  conv => whnf
  refine ⟨fun _ => by simp; omega,?_⟩
  conv => whnf
  refine ⟨encTop n.kids[i],fun _ => get_kid hia,?_⟩
  conv => whnf
  refine ⟨[encTop n.kids[i]],_,fun _ => ih _ (by omega) (by omega),⟨.refl _,trivial⟩,?_⟩
  conv => whnf
  refine Tri.region ti_ok ?_
  conv => whnf
  refine .inl ⟨fun _ => by simp [InR]; omega,?_⟩
  conv => whnf
  exact ⟨⟨i + 1,by omega⟩,by show _ - (i + 1) < _ - i; omega,⟨.refl _,intDLe (by rw [levelsL_next hia]; split <;> omega),.refl _,trivial⟩,⟨rfl,trivial⟩⟩
 ·refine Tri.exit ?_
  conv => whnf
  refine Tri.seq ?_
  refine Tri.region ti_ok ?_
  conv => whnf
  have hll : n.kids.take i = n.kids:=List.take_of_length_le (by simp at hc; omega)
  refine .inl ⟨fun _ => by simp only [InR]; rw [hll]; omega,?_⟩
  conv => whnf
  refine Tri.ret ?_
  conv => whnf
  exact intDLe (by rw [levels_eq,hll]; omega)
end Go.Tame.V
/- Contracts: few; the reference's Kid,Join. By program (mk.py). -/
namespace Go.Tame.V
open Go Go.Proofs
variable {W0 : World}
set_option maxRecDepth 10000
set_option linter.unusedVariables false
set_option linter.unusedSimpArgs false

def ssize : List SV → Nat
 | [] => 0
 | s::r => 20 + s.name.length + s.target.length + ssize r
mutual
def tsize : NV → Nat
 | .mk a _ c d _ _ _ _ _ _ ks ss => 20 + a.length + c.length + d.length + ssize ss + tsizeL ks
def tsizeL : List NV → Nat
 | [] => 0
 | n::r => tsize n + tsizeL r
end
theorem tsize_eq (n : NV) : tsize n = 20 + n.name.length + n.text.length + n.target.length + ssize n.streams + tsizeL n.kids:=by cases n; simp only [tsize]
theorem ssize_sz : ∀ l : List SV,ssize l ≤ 10 * szS l
 | [] => by simp [ssize,szS]
 | s::r => by have:=ssize_sz r; simp only [ssize,szS]; omega
mutual
theorem tsize_sz : ∀ n : NV,tsize n ≤ n.name.length + 10 * sz n
 | .mk a b c d e f g h i j ks ss => by have:=tsizeL_sz ks; have:=ssize_sz ss; simp only [tsize,sz]; omega
theorem tsizeL_sz : ∀ l : List NV,tsizeL l ≤ 10 * szL l
 | [] => by simp [tsizeL,szL]
 | n::r => by have:=tsize_sz n; have:=tsizeL_sz r; simp only [tsizeL,szL]; omega
end
theorem ssize_append : ∀ a b : List SV,ssize (a ++ b) = ssize a + ssize b
 | [],b => by simp [ssize]
 | n::r,b => by simp only [List.cons_append,ssize]; rw [ssize_append r b]; omega
theorem ssize_next (n : NV) {i : Nat} (h : i < n.streams.length) : ssize (n.streams.take (i + 1)) = ssize (n.streams.take i) + (20 + (stAt n i).name.length + (stAt n i).target.length):=by
 rw [List.take_add_one,List.getElem?_eq_getElem h,ssize_append]; simp [ssize,stAt,List.getD,h]
theorem ssize_take : ∀ (l : List SV) (i : Nat),ssize (l.take i) ≤ ssize l
 | [],i => by simp [ssize]
 | n::r,0 => by simp [ssize]
 | n::r,i + 1 => by simp only [List.take_succ_cons,ssize]; have:=ssize_take r i; omega
theorem tsizeL_append : ∀ a b : List NV,tsizeL (a ++ b) = tsizeL a + tsizeL b
 | [],b => by simp [tsizeL]
 | n::r,b => by simp only [List.cons_append,tsizeL]; rw [tsizeL_append r b]; omega
theorem tsizeL_next {l : List NV} {i : Nat} (h : i < l.length) : tsizeL (l.take (i + 1)) = tsizeL (l.take i) + tsize l[i]:=by
 rw [List.take_add_one,List.getElem?_eq_getElem h,tsizeL_append]; simp [tsizeL]
theorem tsizeL_take : ∀ (l : List NV) (i : Nat),tsizeL (l.take i) ≤ tsizeL l
 | [],i => by simp [tsizeL]
 | n::r,0 => by simp [tsizeL]
 | n::r,i + 1 => by simp only [List.take_succ_cons,tsizeL]; have:=tsizeL_take r i; omega

theorem F49 : ∀ (N : Nat) (n : NV),sz n < N → sz n + n.name.length < 10000000 → DFun Tryz.prog W0 61 [encTop n] (.int .i64 (tsize n)):=by
 refine fun N => Nat.rec (fun n h => absurd h (Nat.not_lt_zero _)) (fun N ih n hN hb => ?_) N
 have hkl:=kids_len n
 have hsl:=streams_len n
 have hts:=tsize_sz n
 have hte:=tsize_eq n
 refine DFun.intro ti_ok Tryz.func61 rfl (by decide +kernel) Tryz.ntmps61 rfl fun Γ => ?_
 refine Tri.seq ?_
 refine Tri.region ti_ok ?_
 conv => whnf
 intro b
 conv => whnf
 refine Tri.seq ?_
 refine Tri.region ti_ok ?_
 conv => whnf
 refine ⟨rfl,?_⟩
 conv => whnf
 refine .inl ⟨fun _ => by simp only [InR]; omega,?_⟩
 conv => whnf
 refine ⟨rfl,?_⟩
 conv => whnf
 refine .inl ⟨fun _ => by simp only [InR]; omega,?_⟩
 conv => whnf
 refine ⟨rfl,?_⟩
 conv => whnf
 refine .inl ⟨fun _ => by simp only [InR]; omega,?_⟩
 conv => whnf
 refine Tri.seq ?_
 refine Tri.seq ?_
 refine Tri.region ti_ok ?_
 conv => whnf
 refine Tri.block ?_
 refine Tri.loop (α:={ i : Nat // i ≤ n.streams.length }) (fun x => [(1,.box 1 b 0),(3,.int .i64 ((20 + n.name.length + n.text.length + n.target.length + ssize (n.streams.take x.1) : Nat) : Int)),(4,.int .i64 x.1)]) (fun _ => [(1,.box b (topCells n))]) (fun x => n.streams.length - x.1) ⟨0,by omega⟩ ⟨.refl _,intDLe (by simp [ssize]),.refl _,trivial⟩ ⟨rfl,trivial⟩ ?_
 rintro ⟨i,hi⟩
 dsimp only
 refine Tri.seq ?_
 refine Tri.seq ?_
 refine Tri.region ti_ok ?_
 conv => whnf
 refine ⟨rfl,?_⟩
 conv => whnf
 refine Tri.cond _ rfl (fun hc => ?_) (fun hc => ?_)
 ·refine Tri.skip ?_
  conv => whnf
  have hia : i < n.streams.length:=by simpa using hc
  have htk:=ssize_take n.streams (i + 1)
  have hnx:=ssize_next n hia
  refine Tri.seq ?_
  refine Tri.block ?_
  refine Tri.draw ti_ok mixed (by kernel_rfl) ?_
  conv => whnf
  refine .inl ⟨fun _ => by simp only [InR]; omega,?_⟩
  conv => whnf
  refine ⟨rfl,?_⟩
  conv => whnf
  refine ⟨fun _ => by simp; omega,?_⟩
  conv => whnf
  refine ⟨encS (stAt n i),fun _ => get_st n hia,?_⟩
  conv => whnf
  refine .inl ⟨fun _ => by simp only [InR]; omega,?_⟩
  conv => whnf
  refine ⟨rfl,?_⟩
  conv => whnf
  refine ⟨fun _ => by simp; omega,?_⟩
  conv => whnf
  refine ⟨encS (stAt n i),fun _ => get_st n hia,?_⟩
  conv => whnf
  refine .inl ⟨fun _ => by simp only [InR]; omega,?_⟩
  conv => whnf
  refine Tri.region ti_ok ?_
  conv => whnf
  refine .inl ⟨fun _ => by simp [InR]; omega,?_⟩
  conv => whnf
  exact ⟨⟨i + 1,by omega⟩,by show _ - (i + 1) < _ - i; omega,⟨.refl _,intDLe (by rw [hnx]; omega),.refl _,trivial⟩,⟨rfl,trivial⟩⟩
 ·refine Tri.exit ?_
  conv => whnf
  have hall : n.streams.take i = n.streams:=List.take_of_length_le (by simp at hc; omega)
  refine Tri.seq ?_
  refine Tri.seq ?_
  refine Tri.region ti_ok ?_
  conv => whnf
  refine Tri.block ?_
  refine Tri.loop (α:={ i : Nat // i ≤ n.kids.length }) (fun x => [(1,.box 1 b 0),(3,.int .i64 ((20 + n.name.length + n.text.length + n.target.length + ssize n.streams + tsizeL (n.kids.take x.1) : Nat) : Int)),(5,.int .i64 x.1)]) (fun _ => [(1,.box b (topCells n))]) (fun x => n.kids.length - x.1) ⟨0,by omega⟩ ⟨.refl _,intDLe (by rw [hall]; simp [tsizeL]),.refl _,trivial⟩ ⟨rfl,trivial⟩ ?_
  rintro ⟨i,hi⟩
  dsimp only
  refine Tri.seq ?_
  refine Tri.seq ?_
  refine Tri.region ti_ok ?_
  conv => whnf
  refine ⟨rfl,?_⟩
  conv => whnf
  refine Tri.cond _ rfl (fun hc => ?_) (fun hc => ?_)
  ·refine Tri.skip ?_
   conv => whnf
   have hia : i < n.kids.length:=by simpa using hc
   have hks:=kid_sz hia
   have htk:=tsizeL_take n.kids (i + 1)
   have hnx:=tsizeL_next hia
   refine Tri.seq ?_
   refine Tri.block ?_
   refine Tri.region ti_ok ?_
   conv => whnf
   refine ⟨rfl,?_⟩
   conv => whnf
   refine ⟨fun _ => by simp; omega,?_⟩
   conv => whnf
   refine ⟨encTop n.kids[i],fun _ => get_kid hia,?_⟩
   conv => whnf
   refine ⟨[encTop n.kids[i]],_,fun _ => ih _ (by omega) (by omega),⟨.refl _,trivial⟩,?_⟩
   conv => whnf
   refine .inl ⟨fun _ => by simp only [InR]; omega,?_⟩
   conv => whnf
   refine Tri.region ti_ok ?_
   conv => whnf
   refine .inl ⟨fun _ => by simp [InR]; omega,?_⟩
   conv => whnf
   exact ⟨⟨i + 1,by omega⟩,by show _ - (i + 1) < _ - i; omega,⟨.refl _,intDLe (by rw [hnx]; omega),.refl _,trivial⟩,⟨rfl,trivial⟩⟩
  ·refine Tri.exit ?_
   conv => whnf
   refine Tri.seq ?_
   refine Tri.region ti_ok ?_
   conv => whnf
   refine Tri.ret ?_
   conv => whnf
   exact intDLe (by rw [hte,List.take_of_length_le (by simp at hc; omega)])

def few1 (n : NV) (s : Int) : Bool:=(decide ((cnt n : Int) ≤ 40) && decide ((levels n : Int) ≤ 20)) && decide ((tsize n : Int) ≤ s)
theorem F26 (n : NV) (s : Int) (hn : Fits n) : DFun Tryz.prog W0 28 [encTop n,.int .i64 s] (.bool (few1 n s)):=by
 refine DFun.intro ti_ok Tryz.func28 rfl (by decide +kernel) Tryz.ntmps28 rfl fun Γ => ?_
 refine Tri.seq ?_
 refine Tri.region ti_ok ?_
 conv => whnf
 intro b
 conv => whnf
 refine Tri.seq ?_
 refine Tri.region ti_ok ?_
 conv => whnf
 refine ⟨rfl,?_⟩
 conv => whnf
 unfold Fits at hn
 refine ⟨[encTop n],_,fun _ => F47 _ n (Nat.lt_succ_self _) (by omega),⟨.refl _,trivial⟩,?_⟩
 conv => whnf
 refine ⟨rfl,?_⟩
 conv => whnf
 refine ⟨fun h => h,?_⟩
 conv => whnf
 refine ⟨[encTop n],_,fun h => F48 _ n (Nat.lt_succ_self _) (by omega),⟨.refl _,trivial⟩,?_⟩
 conv => whnf
 refine ⟨fun h => h,?_⟩
 conv => whnf
 refine ⟨fun h0 h => by first | exact h | (rw [h]; rfl) | (rw [h0,h]; rfl),?_⟩
 conv => whnf
 refine ⟨rfl,?_⟩
 conv => whnf
 refine ⟨fun h => h,?_⟩
 conv => whnf
 refine ⟨[encTop n],_,fun h => F49 _ n (Nat.lt_succ_self _) (by omega),⟨.refl _,trivial⟩,?_⟩
 conv => whnf
 refine ⟨fun h => h,?_⟩
 conv => whnf
 refine ⟨fun h => h,?_⟩
 conv => whnf
 refine ⟨fun h0 h => by first | exact h | (rw [h]; rfl) | (rw [h0,h]; rfl),?_⟩
 conv => whnf
 refine Tri.ret ?_
 conv => whnf
 exact DLe.of_eq (congrArg D.bool (by simp only [few1,← bif_and]))
/-- Which child has this name? -/
def kidIx (n : NV) (q : List UInt8) : Int:=firstIdx (fun k : NV => k.name == q) n.kids
theorem F45 (n : NV) (q : List UInt8) (hn : Fits n) : DFun Tryz.prog W0 69 [encTop n,.str q] (.int .i64 (kidIx n q)):=by
 refine DFun.intro ti_ok Tryz.func69 rfl (by decide +kernel) Tryz.ntmps69 rfl fun Γ => ?_
 refine Tri.seq ?_
 refine Tri.region ti_ok ?_
 conv => whnf
 intro b
 conv => whnf
 refine Tri.seq ?_
 refine Tri.seq ?_
 refine Tri.region ti_ok ?_
 conv => whnf
 refine Tri.block ?_
 have hkl:=kids_len n
 unfold Fits at hn
 refine Tri.loop (α:={ i : Nat // i ≤ n.kids.length ∧ ∀ j (h : j < n.kids.length),j < i → ((n.kids[j]).name == q) = false }) (fun x => [(1,.str q),(2,.box 2 b 0),(5,.int .i64 x.1)]) (fun _ => [(2,.box b (topCells n))]) (fun x => n.kids.length - x.1) ⟨0,by simp⟩ ⟨.refl _,.refl _,.refl _,trivial⟩ ⟨rfl,trivial⟩ ?_
 rintro ⟨i,hi,hp⟩
 dsimp only
 refine Tri.seq ?_
 refine Tri.seq ?_
 refine Tri.region ti_ok ?_
 conv => whnf
 refine ⟨rfl,?_⟩
 conv => whnf
 refine Tri.cond _ rfl (fun hc => ?_) (fun hc => ?_)
 ·refine Tri.skip ?_
  conv => whnf
  have hia : i < n.kids.length:=by simpa using hc
  refine Tri.seq ?_
  refine Tri.block ?_
  refine Tri.seq ?_
  refine Tri.region ti_ok ?_
  conv => whnf
  refine ⟨rfl,?_⟩
  conv => whnf
  refine ⟨fun _ => by simp; omega,?_⟩
  conv => whnf
  refine ⟨encTop n.kids[i],fun _ => get_kid hia,?_⟩
  conv => whnf
  refine Tri.cond _ rfl (fun hc => ?_) (fun hc => ?_)
  ·refine Tri.seq ?_
   refine Tri.region ti_ok ?_
   conv => whnf
   refine Tri.ret ?_
   conv => whnf
   exact intDLe (firstIdx_some (p:=fun k : NV => k.name == q) hia hp hc).symm
  ·refine Tri.skip ?_
   conv => whnf
   refine Tri.region ti_ok ?_
   conv => whnf
   refine .inl ⟨fun _ => by simp [InR]; omega,?_⟩
   conv => whnf
   exact ⟨⟨i + 1,by omega,fun j hj hlt => (Nat.lt_succ_iff_lt_or_eq.1 hlt).elim (hp j hj) fun e => by subst e; exact hc⟩,by show _ - (i + 1) < _ - i; omega,⟨.refl _,.refl _,.refl _,trivial⟩,⟨rfl,trivial⟩⟩
 ·refine Tri.exit ?_
  conv => whnf
  refine Tri.seq ?_
  refine Tri.region ti_ok ?_
  conv => whnf
  refine Tri.ret ?_
  conv => whnf
  exact intDLe (firstIdx_none (p:=fun k : NV => k.name == q) fun j hj => hp j hj (by simp at hc; omega)).symm
end Go.Tame.V
/- The order of texts; contracts: the reference's names. By program (mk.py). -/
namespace Go.Tame.V
open Go Go.Proofs
variable {W0 : World}
set_option maxRecDepth 10000
set_option linter.unusedVariables false
set_option linter.unusedSimpArgs false

theorem bl_irrefl : ∀ a : List UInt8,Op.bytesLess a a = false
 | [] => rfl
 | a::xs => by simp [Op.bytesLess,bl_irrefl xs,UInt8.lt_irrefl]
theorem bl_total : ∀ a b : List UInt8,Op.bytesLess a b = false → Op.bytesLess b a = false → a = b
 | [],[],_,_ => rfl
 | [],_::_,h,_ => by simp [Op.bytesLess] at h
 | _::_,[],_,h => by simp [Op.bytesLess] at h
 | a::xs,b::ys,h,h' => by
  simp only [Op.bytesLess,Bool.or_eq_false_iff,decide_eq_false_iff_not,Bool.and_eq_false_iff,beq_eq_false_iff_ne] at h h'
  have hab : a = b:=UInt8.le_antisymm (UInt8.not_lt.1 h'.1) (UInt8.not_lt.1 h.1)
  subst hab
  rw [bl_total xs ys (by rcases h.2 with h | h; exact absurd rfl h; exact h) (by rcases h'.2 with h | h; exact absurd rfl h; exact h)]
theorem bl_trans : ∀ a b c : List UInt8,Op.bytesLess a b = true → Op.bytesLess b c = true → Op.bytesLess a c = true
 | _,[],_,h,_ => by cases h' : (‹List UInt8› : List UInt8) <;> simp_all [Op.bytesLess]
 | _,_::_,[],_,h => by simp [Op.bytesLess] at h
 | [],_::_,_::_,_,_ => rfl
 | a::xs,b::ys,c::zs,h,h' => by
  simp only [Op.bytesLess,Bool.or_eq_true,decide_eq_true_eq,Bool.and_eq_true,beq_iff_eq] at h h' ⊢
  rcases h with h | ⟨rfl,h⟩
  ·rcases h' with h' | ⟨rfl,h'⟩
   ·exact .inl (UInt8.lt_trans h h')
   ·exact .inl h
  ·rcases h' with h' | ⟨rfl,h'⟩
   ·exact .inl h'
   ·exact .inr ⟨rfl,bl_trans xs ys zs h h'⟩
theorem bl_asymm {a b : List UInt8} (h : Op.bytesLess a b = true) : Op.bytesLess b a = false:=by
 cases hb : Op.bytesLess b a with
 | false => rfl
 | true => have:=bl_trans a b a h hb; rw [bl_irrefl] at this; cases this
theorem bl_ne {a b : List UInt8} (h : Op.bytesLess a b = true) : a ≠ b:=fun e => by rw [e,bl_irrefl] at h; cases h

end Go.Tame.V
/- Contracts: the reference's Compare. By program (mk.py). -/
namespace Go.Tame.V
open Go Go.Proofs
variable {W0 : World}
set_option maxRecDepth 10000
set_option linter.unusedVariables false
set_option linter.unusedSimpArgs false

def inc (l : List NV) : Prop:=∀ i,i + 1 < l.length → Op.bytesLess (l.getD i default).name (l.getD (i + 1) default).name = true
mutual
def srt : NV → Prop
 | .mk _ _ _ _ _ _ _ _ _ _ ks _ => inc ks ∧ srtL ks
def srtL : List NV → Prop
 | [] => True
 | n::r => srt n ∧ srtL r
end
theorem srt_eq (n : NV) : srt n ↔ inc n.kids ∧ srtL n.kids:=by cases n; simp only [srt]
theorem inc_lt {l : List NV} (h : inc l) : ∀ {d i : Nat},i + d + 1 < l.length → Op.bytesLess (l.getD i default).name (l.getD (i + d + 1) default).name = true
 | 0,i,hi => h i hi
 | d + 1,i,hi => bl_trans _ _ _ (inc_lt h (d:=d) (i:=i) (by omega)) (h (i + d + 1) hi)
theorem inc_lt' {l : List NV} (h : inc l) {i j : Nat} (hij : i < j) (hj : j < l.length) : Op.bytesLess (l.getD i default).name (l.getD j default).name = true:=by
 have:=inc_lt h (d:=j - i - 1) (i:=i) (by omega)
 rwa [show i + (j - i - 1) + 1 = j by omega] at this
end Go.Tame.V
/- Contracts: the reference's Compare. By program (mk.py). -/
namespace Go.Tame.V
open Go Go.Proofs
variable {W0 : World}
set_option maxRecDepth 10000
set_option linter.unusedVariables false
set_option linter.unusedSimpArgs false

end Go.Tame.V
/- A valid tree is sorted; contracts: the reference's Compare and Same. By program (mk.py). -/
namespace Go.Tame.V
open Go Go.Proofs
variable {W0 : World}
set_option maxRecDepth 10000
set_option linter.unusedVariables false
set_option linter.unusedSimpArgs false

end Go.Tame.V
/- Two laws,given that the first thing that they ask ('awake') answers true. By program (mk.py). -/
namespace Go.Tame.V
open Go Go.Proofs
variable {W0 : World}
set_option maxRecDepth 10000
set_option linter.unusedVariables false
set_option linter.unusedSimpArgs false

end Go.Tame.V
/- Contracts: naming,small ones; the example. By program (mk.py). -/
namespace Go.Tame.V
open Go Go.Proofs
variable {W0 : World}
set_option maxRecDepth 10000
set_option linter.unusedVariables false
set_option linter.unusedSimpArgs false

def leaf (nm tx : List UInt8) : NV:=⟨nm,1,tx,[],0,0,0,315532800,0,0,[],[]⟩
end Go.Tame.V
/- What trees want of names: rising children. Taken together by program. -/
namespace Go.Tame.V
open Go Go.Proofs
set_option linter.unusedVariables false

theorem inc_get {l : List NV} (h : inc l) {i j : Nat} (hij : i < j) (hj : j < l.length) : Op.bytesLess (l[i]'(by omega)).name (l[j]).name = true:=by
 have:=inc_lt' h hij hj
 simpa [List.getD,hj,show i < l.length by omega] using this
theorem inc_pairwise {l : List NV} (h : inc l) : l.Pairwise fun a b => Op.bytesLess b.name a.name = false :=
 List.pairwise_iff_getElem.2 fun i j hi hj hij => bl_asymm (inc_get h hij hj)
mutual
def goodB : NV → Int → Bool
 | .mk a b c d e f g h i j ks ss,l => one (.mk a b c d e f g h i j ks ss) l == 0 && goodL ks (l + 1)
def goodL : List NV → Int → Bool
 | [],_ => true
 | k::r,l => goodB k l && goodL r l
end
theorem goodB_eq (n : NV) (l : Int) : goodB n l = (one n l == 0 && goodL n.kids (l + 1)):=by cases n; simp only [goodB]
mutual
theorem walk_good : ∀ (n : NV) (p : List UInt8) (l : Int) (q : List UInt8),
  (goodB n l = true → walk checkF n p l (0,q) = (true,(0,q))) ∧ (goodB n l = false → (walk checkF n p l (0,q)).1 = false ∧ (walk checkF n p l (0,q)).2.1 ≠ 0)
 | .mk a b c d e f g h i j ks ss,p,l,q => by
  have ih:=walkL_good ks p l q
  simp only [walk,goodB,checkF]
  by_cases h1 : one (.mk a b c d e f g h i j ks ss) l = 0
  ·simp only [h1,if_true,beq_self_eq_true,Bool.true_and]
   exact ih
  ·simp only [h1,if_false]
   refine ⟨fun hh => ?_,fun _ => ⟨by simp,by simpa using h1⟩⟩
   simp [h1] at hh
theorem walkL_good : ∀ (ks : List NV) (p : List UInt8) (l : Int) (q : List UInt8),
  (goodL ks (l + 1) = true → walkL checkF ks p l (0,q) = (true,(0,q))) ∧ (goodL ks (l + 1) = false → (walkL checkF ks p l (0,q)).1 = false ∧ (walkL checkF ks p l (0,q)).2.1 ≠ 0)
 | [],p,l,q => by simp [walkL,goodL]
 | k::r,p,l,q => by
  have h1:=walk_good k (below p k.name (l + 1)) (l + 1) q
  have h2:=walkL_good r p l q
  simp only [walkL,goodL]
  cases hk : goodB k (l + 1) with
  | true =>
   rw [h1.1 hk]
   simpa using h2
  | false =>
   have h3:=h1.2 hk
   generalize hx : walk checkF k (below p k.name (l + 1)) (l + 1) (0,q) = x at h3
   obtain ⟨x1,x2⟩:=x
   obtain ⟨h4,h5⟩:=h3
   simp only at h4 h5
   subst h4
   simp [h5]
end
theorem valid_good (n : NV) : valid n = (decide (cnt n ≤ 256) && goodB n 1):=by
 simp only [valid,check]
 by_cases h : (256 : Int) < cnt n
 ·rw [if_pos h]
  have : decide (cnt n ≤ 256) = false:=by simp; omega
  rw [this]; rfl
 ·rw [if_neg h]
  have h1 : decide (cnt n ≤ 256) = true:=by simp; omega
  rw [h1,Bool.true_and]
  have hw:=walk_good n [] 1 []
  cases hg : goodB n 1 with
  | true => rw [hw.1 hg]; rfl
  | false => simpa using (hw.2 hg).2
theorem nz_all {f : Nat → Int} : ∀ {k i : Nat},firstNZ f i k = 0 → ∀ j,i ≤ j → j < i + k → f j = 0
 | 0,i,_,j,h1,h2 => by omega
 | k + 1,i,h,j,h1,h2 => by
  simp only [firstNZ] at h
  split at h
  ·rename_i h0
   by_cases e : j = i
   ·rw [e]; exact h0
   ·exact nz_all h j (by omega) (by omega)
  ·rename_i h0; exact absurd h h0
/-- What the rules say of a node at a level. -/
structure Good (n : NV) (l : Int) : Prop where
 kind0 : 0 ≤ n.kind ∧ n.kind ≤ 2
 kind1 : l = 1 → n.kind = 0
 name1 : l = 1 → n.name = []
 name2 : 1 < l → nameOk n.name = true
 file : n.kind ≠ 1 → n.text = [] ∧ n.streams = []
 link : n.kind ≠ 2 → n.target = []
 dir : n.kind ≠ 0 → n.kids = []
 target : n.kind = 2 → targetOk n.target = true
 n1 : 0 ≤ n.n1 ∧ n.n1 ≤ 4095
 n2 : 0 ≤ n.n2 ∧ n.n2 ≤ 65535
 n3 : 0 ≤ n.n3 ∧ n.n3 ≤ 65535
 n4 : 315532800 ≤ n.n4 ∧ n.n4 ≤ 4102444799
 n5 : -1048576 ≤ n.n5 ∧ n.n5 ≤ 1048576
 n6 : 0 ≤ n.n6 ∧ n.n6 ≤ 15
 level : l ≤ 16
 size : n.text.length ≤ 262144
 kids64 : n.kids.length ≤ 64
 streams4 : n.streams.length ≤ 4
 streams : ∀ i,i < n.streams.length → (stAt n i).target.length ≤ 262144 ∧ fS n i = 0
 inc : inc n.kids
theorem good_of {n : NV} {l : Int} (h : one n l = 0) : Good n l:=by
 have hr:=nz_all h
 have r0 : cKind n l = false:=by have:=hr 0 (by omega) (by omega); simp only [ruleI,rKind] at this; split at this <;> simp_all
 have r1 : cName n l = false:=by have:=hr 1 (by omega) (by omega); simp only [ruleI,rName] at this; split at this <;> simp_all
 have r2 : cParts n = false:=by have:=hr 2 (by omega) (by omega); simp only [ruleI,rParts] at this; split at this <;> simp_all
 have r3 : cTarget n = false:=by have:=hr 3 (by omega) (by omega); simp only [ruleI,rTarget] at this; split at this <;> simp_all
 have r4 : cNumbers n = false:=by have:=hr 4 (by omega) (by omega); simp only [ruleI,rNumbers] at this; split at this <;> simp_all
 have r5':=hr 5 (by omega) (by omega)
 simp only [ruleI,rSizes] at r5'
 have r5 : cSizes n l = false:=by split at r5' <;> simp_all
 rw [if_neg (by rw [r5]; simp)] at r5'
 have r6:=hr 6 (by omega) (by omega)
 simp only [ruleI,rStreams] at r6
 have r7:=hr 7 (by omega) (by omega)
 simp only [ruleI,rKids] at r7
 simp only [cKind,cName,cParts,cTarget,cNumbers,cSizes,within,Bool.or_eq_false_iff,Bool.and_eq_false_iff,decide_eq_false_iff_not,Bool.not_eq_false',beq_eq_false_iff_ne,beq_iff_eq,Bool.not_eq_eq_eq_not,Bool.not_true,Bool.not_false,Bool.and_eq_true,decide_eq_true_eq] at r0 r1 r2 r3 r4 r5
 obtain ⟨⟨r2a,r2b⟩,r2c⟩:=r2
 obtain ⟨⟨⟨⟨⟨ra,rb⟩,rc⟩,rd⟩,re⟩,rf⟩:=r4
 have hk : inc n.kids:=fun i hi => by
  have:=nz_all r7 (i + 1) (by omega) (by omega)
  simp only [fK,ordE,kAt,Nat.add_sub_cancel] at this
  by_cases h1 : (n.kids.getD i default).name = (n.kids.getD (i + 1) default).name
  ·rw [if_pos h1] at this; cases this
  ·rw [if_neg h1] at this
   by_cases h2 : Op.bytesLess (n.kids.getD (i + 1) default).name (n.kids.getD i default).name = true
   ·rw [if_pos h2] at this; cases this
   ·cases h3 : Op.bytesLess (n.kids.getD i default).name (n.kids.getD (i + 1) default).name with
    | true => rfl
    | false => exact absurd (bl_total _ _ h3 (by simpa using h2)) h1
 exact {
  kind0:=by omega
  kind1:=fun e => by rcases r0.2 with h1 | h1 <;> first | exact absurd e h1 | exact h1
  name1:=fun e => by rcases r1.1 with h1 | h1 <;> first | exact absurd e h1 | exact h1
  name2:=fun e => by rcases r1.2 with h1 | h1 <;> first | (exact absurd e h1) | exact h1
  file:=fun e => by
   rcases r2a with h1 | ⟨h1,h2⟩
   ·exact absurd h1 e
   ·exact ⟨h1,List.eq_nil_of_length_eq_zero (by omega)⟩
  link:=fun e => by rcases r2b with h1 | h1 <;> first | exact absurd h1 e | exact h1
  dir:=fun e => by
   rcases r2c with h1 | h1
   ·exact absurd h1 e
   ·exact List.eq_nil_of_length_eq_zero (by omega)
  target:=fun e => by rcases r3 with h1 | h1 <;> first | exact absurd e h1 | exact h1
  n1:=ra,n2:=rb,n3:=rc,n4:=rd,n5:=re,n6:=rf
  level:=by omega
  size:=by omega
  kids64:=by omega
  streams4:=by omega
  streams:=fun i hi => ⟨by
   have:=nz_all r5' i (by omega) (by omega)
   simp only [fZ] at this
   split at this
   ·cases this
   ·rename_i h1; simp at h1; omega,nz_all r6 i (by omega) (by omega)⟩
  inc:=hk }
theorem goodB_good {n : NV} {l : Int} (h : goodB n l = true) : Good n l ∧ goodL n.kids (l + 1) = true:=by
 rw [goodB_eq,Bool.and_eq_true] at h
 exact ⟨good_of (by simpa using h.1),h.2⟩
theorem snoc_rec {α : Type} {p : List α → Prop} (h0 : p []) (h1 : ∀ l x,p l → p (l ++ [x])) : ∀ l,p l:=by
 intro l
 have : ∀ r : List α,p r.reverse:=by
  intro r
  induction r with
  | nil => exact h0
  | cons x r ih => rw [List.reverse_cons]; exact h1 _ _ ih
 have:=this l.reverse
 rwa [List.reverse_reverse] at this
def zeroN : NV:=⟨[],0,[],[],0,0,0,0,0,0,[],[]⟩
theorem zeroD : DLe (.agg [.str [],.int .i64 0,.str [],.str [],.int .i64 0,.int .i64 0,.int .i64 0,.int .i64 0,.int .i64 0,.int .i64 0,.nils,.nils]) (encTop zeroN) :=
 DLe.agg ⟨.refl _,.refl _,.refl _,.refl _,.refl _,.refl _,.refl _,.refl _,.refl _,.refl _,DLe.nil,DLe.nil,trivial⟩
end Go.Tame.V
/- Contracts: naming,Clone. By program (mk.py). -/
namespace Go.Tame.V
open Go Go.Proofs
variable {W0 : World}
set_option maxRecDepth 10000
set_option linter.unusedVariables false
set_option linter.unusedSimpArgs false

theorem F104 (ss : List SV) (h : ss.length < 1000000000) : DFun Tryz.prog W0 62 [.sl .none 2 (ss.map encS)] (.sl .none 2 (ss.map encS)):=by
 refine DFun.intro ti_ok Tryz.func62 rfl (by decide +kernel) Tryz.ntmps62 rfl fun Γ => ?_
 refine Tri.seq ?_
 refine Tri.region ti_ok ?_
 conv => whnf
 refine Tri.seq ?_
 refine Tri.seq ?_
 refine Tri.regionX ti_ok ?_
 conv => whnf
 refine .inr (XOp.nilEq (el:=71) ti_ok rfl rfl rfl fun nb hnb => ?_)
 conv => whnf
 refine Tri.cond _ rfl (fun hc => ?_) (fun hc => ?_)
 ·refine Tri.seq ?_
  refine Tri.region ti_ok ?_
  conv => whnf
  refine Tri.ret ?_
  conv => whnf
  have hnil:=hnb hc
  rw [hnil]
  exact DLe.nil
 ·refine Tri.skip ?_
  conv => whnf
  refine Tri.seq ?_
  refine Tri.region ti_ok ?_
  conv => whnf
  refine ⟨trivial,?_⟩
  conv => whnf
  refine ⟨by show (0 + (ss.map encS).length) * 32 ≤ _; simp; omega,by show 0 + (ss.map encS).length ≤ _; simp; omega,(fun h => by cases h),fun v => ?_⟩
  conv => whnf
  refine Tri.ret ?_
  conv => whnf
  exact DLe.trans (DLe.of_eq (congrArg (D.sl _ 2) (List.nil_append _))) DLe.unown
end Go.Tame.V
/- Paths of a tree by lists of names; trees that do not differ. Plain. -/
namespace Go.Tame.V
open Go Go.Proofs
set_option maxRecDepth 10000
set_option linter.unusedVariables false
set_option linter.unusedSimpArgs false

def findK (q : List UInt8) (ks : List NV) : Option NV:=ks.find? fun k => k.name == q
def getN : NV → List (List UInt8) → Option NV
 | n,[] => some n
 | n,m::ms => match findK m n.kids with
  | some k => getN k ms
  | none => none
theorem findK_name {ks : List NV} {q : List UInt8} {k : NV} (h : findK q ks = some k) : k ∈ ks ∧ k.name = q :=
 ⟨List.mem_of_find?_eq_some h,by simpa using List.find?_some h⟩
/-- Alike apart from the name,the weight and the hidden bits. -/
def fieldsEq (a b : NV) : Prop:=a.kind = b.kind ∧ a.text = b.text ∧ a.target = b.target ∧ a.n1 = b.n1 ∧ a.n2 = b.n2 ∧ a.n3 = b.n3 ∧ a.n4 = b.n4 ∧ a.streams = b.streams
mutual
def sim : NV → NV → Prop
 | .mk a b c t e f g h i j ks ss,n => fieldsEq (.mk a b c t e f g h i j ks ss) n ∧ simL ks n.kids
def simL : List NV → List NV → Prop
 | [],l => l = []
 | k::r,l => ∃ y ys,l = y::ys ∧ k.name = y.name ∧ sim k y ∧ simL r ys
end

end Go.Tame.V
/- Contracts: the other way of trees: paths,Get,Equal. By program (mk.py). -/
namespace Go.Tame.V
open Go Go.Proofs
variable {W0 : World}
set_option maxRecDepth 10000
set_option linter.unusedVariables false
set_option linter.unusedSimpArgs false

/-- The node at a path,or none and the error's number. -/
def getR (n : NV) (s : List UInt8) : NV × Int :=
 if s = [] then (n,0) else match getN n (splitG 47 [] s) with
  | some x => (x,0)
  | none => (zeroN,6)
theorem kid_find (n : NV) (q : List UInt8) : (kidIx n q = -1 ∧ findK q n.kids = none) ∨ ∃ (i : Nat) (h : i < n.kids.length),kidIx n q = i ∧ findK q n.kids = some n.kids[i]:=by
 cases hf : findK q n.kids with
 | none =>
  refine .inl ⟨?_,rfl⟩
  unfold findK at hf
  exact firstIdx_none fun j hj => by simpa using List.find?_eq_none.1 hf _ (List.getElem_mem hj)
 | some k =>
  unfold findK at hf
  obtain ⟨h1,i,h2,h3,h4⟩:=List.find?_eq_some_iff_getElem.1 hf
  refine .inr ⟨i,h2,?_,by rw [h3]⟩
  exact firstIdx_some (p:=fun k : NV => k.name == q) h2 (fun j hj hji => by simpa using h4 j hji) (by rw [h3]; exact h1)
theorem fits_kid {n k : NV} (hn : Fits n) (hk : k ∈ n.kids) : Fits k:=by
 obtain ⟨i,hi,rfl⟩:=List.mem_iff_getElem.1 hk
 have:=kid_sz hi
 unfold Fits at hn ⊢
 omega

theorem F21 (n : NV) (s : List UInt8) (hn : Fits n) (hv : valid n = true) (hs : s.length < 1000000000) : DFun Tryz.prog W0 50 [encTop n,.str s] (.tup [encTop (getR n s).1,.int .i64 (getR n s).2]):=by
 refine DFun.intro ti_ok Tryz.func50 rfl (by decide +kernel) Tryz.ntmps50 rfl fun Γ => ?_
 refine Tri.seq ?_
 refine Tri.region ti_ok ?_
 conv => whnf
 intro b2
 conv => whnf
 intro b4
 conv => whnf
 refine Tri.seq ?_
 refine Tri.seq ?_
 refine Tri.region ti_ok ?_
 conv => whnf
 refine ⟨rfl,?_⟩
 conv => whnf
 refine ⟨[encTop n],_,fun _ => F20 n hn,⟨.refl _,trivial⟩,?_⟩
 conv => whnf
 refine Tri.cond _ rfl (fun hc => ?_) (fun hc => ?_)
 ·refine Tri.seq ?_
  exfalso
  rw [hv] at hc; cases hc
 ·refine Tri.skip ?_
  conv => whnf
  refine Tri.seq ?_
  refine Tri.seq ?_
  refine Tri.region ti_ok ?_
  conv => whnf
  refine Tri.cond _ rfl (fun hc => ?_) (fun hc => ?_)
  ·refine Tri.seq ?_
   refine Tri.region ti_ok ?_
   conv => whnf
   refine ⟨rfl,?_⟩
   conv => whnf
   refine ⟨rfl,?_⟩
   conv => whnf
   refine Tri.ret ?_
   conv => whnf
   have h0 : s = []:=by simpa using hc
   have hR : getR n s = (n,0):=by rw [getR,if_pos h0]
   rw [hR]
   refine ⟨rfl,?_⟩
   conv => whnf
   exact ⟨.refl _,.refl _,trivial⟩
  ·refine Tri.skip ?_
   conv => whnf
   have h0 : ¬ s = []:=by simpa using hc
   refine Tri.seq ?_
   refine Tri.region ti_ok ?_
   conv => whnf
   refine ⟨[.str s,.int .u8 47],_,fun _ => F44 s 47 hs,⟨.refl _,.refl _,trivial⟩,?_⟩
   conv => whnf
   refine Tri.seq ?_
   have hLl:=(splitG_len (c:=47) s []).1
   generalize hL : splitG 47 [] s = L at *
   refine Tri.seq ?_
   refine Tri.region ti_ok ?_
   conv => whnf
   refine Tri.block ?_
   refine Tri.loopK (α:={ x : Nat × NV // x.1 ≤ L.length ∧ getN n L = getN x.2 (L.drop x.1) ∧ Fits x.2 }) (fun x => [(1,.str s),(2,.box 2 b2 0),(4,.box 4 b4 0),(6,.sl .none 1 (strs L)),(7,.int .i64 x.1.1)]) (fun x => [(2,.box b2 [.str x.1.2.name,.int .i64 x.1.2.kind,.str x.1.2.text,.str x.1.2.target,.int .i64 x.1.2.n1,.int .i64 x.1.2.n2,.int .i64 x.1.2.n3,.int .i64 x.1.2.n4,.int .i64 x.1.2.n5,.int .i64 x.1.2.n6,.sl .none 12 (x.1.2.kids.map enc),.sl .none 2 (x.1.2.streams.map encS)]),(4,.box b4 [.str [],.int .i64 0,.str [],.str [],.int .i64 0,.int .i64 0,.int .i64 0,.int .i64 0,.int .i64 0,.int .i64 0,.nils,.nils])]) (fun x => L.length - x.1.1) ⟨(0,n),Nat.zero_le _,rfl,hn⟩ [(2,2),(4,4)]
    ⟨⟨.refl _,.refl _,.refl _,.refl _,.refl _,trivial⟩,rfl,rfl,rfl,rfl,rfl,trivial⟩ ?_
   rintro ⟨⟨i,m⟩,hi,hg,hm⟩
   dsimp only at hi hg hm ⊢
   refine Tri.seq ?_
   refine Tri.seq ?_
   refine Tri.region ti_ok ?_
   conv => whnf
   refine Tri.cond _ rfl (fun hc => ?_) (fun hc => ?_)
   ·refine Tri.skip ?_
    conv => whnf
    have hia : i < L.length:=by simpa [strs] using hc
    have hd : L.drop i = L[i]::L.drop (i + 1):=List.drop_eq_getElem_cons hia
    refine Tri.seq ?_
    refine Tri.block ?_
    refine Tri.seq ?_
    refine Tri.draw ti_ok mixed (by kernel_rfl) ?_
    conv => whnf
    refine ⟨rfl,?_⟩
    conv => whnf
    refine ⟨fun _ => by simp [strs]; omega,?_⟩
    conv => whnf
    refine ⟨.str L[i],fun _ => by simp [strs,hia],?_⟩
    conv => whnf
    refine ⟨[encTop m,.str L[i]],_,fun _ => F45 m L[i] hm,⟨.refl _,.refl _,trivial⟩,?_⟩
    conv => whnf
    refine Tri.seq ?_
    refine Tri.seq ?_
    refine Tri.region ti_ok ?_
    conv => whnf
    refine Tri.cond _ rfl (fun hc => ?_) (fun hc => ?_)
    ·refine Tri.seq ?_
     refine Tri.region ti_ok ?_
     conv => whnf
     refine ⟨rfl,?_⟩
     conv => whnf
     refine Tri.ret ?_
     conv => whnf
     have hR : getR n s = (zeroN,6):=by
      rcases kid_find m L[i] with ⟨h1,h2⟩ | ⟨j,hj,h1,h2⟩
      ·rw [getR,if_neg h0,hL,hg,hd]; simp only [getN,h2]
      ·rw [h1] at hc; simp at hc; omega
     rw [hR]
     refine ⟨rfl,?_⟩
     conv => whnf
     exact ⟨zeroD,.refl _,trivial⟩
    ·obtain ⟨j,hj,h1,h2⟩ : ∃ (j : Nat) (h : j < m.kids.length),kidIx m L[i] = j ∧ findK L[i] m.kids = some m.kids[j]:=by
      rcases kid_find m L[i] with ⟨h1,h2⟩ | h
      ·rw [h1] at hc; simp at hc
      ·exact h
     refine Tri.skip ?_
     conv => whnf
     refine Tri.region ti_ok ?_
     conv => whnf
     refine ⟨rfl,?_⟩
     conv => whnf
     rw [h1]
     refine ⟨fun _ => by simp; omega,?_⟩
     conv => whnf
     refine ⟨encTop m.kids[j],fun _ => get_kids hj,?_⟩
     conv => whnf
     refine ⟨rfl,?_⟩
     conv => whnf
     refine Tri.region ti_ok ?_
     conv => whnf
     refine .inl ⟨fun _ => by simp only [InR]; omega,?_⟩
     conv => whnf
     exact ⟨⟨(i + 1,m.kids[j]),hia,by rw [hg,hd]; simp only [getN,h2],fits_kid hm (List.getElem_mem hj)⟩,[(2,2),(4,4)],by show L.length - (i + 1) < L.length - i; omega,⟨.refl _,.refl _,.refl _,.refl _,.refl _,trivial⟩,rfl,rfl,rfl,rfl,rfl,trivial⟩
   ·refine Tri.exit ?_
    conv => whnf
    refine Tri.seq ?_
    refine Tri.region ti_ok ?_
    conv => whnf
    refine ⟨rfl,?_⟩
    conv => whnf
    refine ⟨rfl,?_⟩
    conv => whnf
    refine Tri.ret ?_
    conv => whnf
    have hin : L.drop i = []:=by
     have : ¬ i < L.length:=by simpa [strs] using hc
     exact List.drop_eq_nil_of_le (by omega)
    have hR : getR n s = (m,0):=by rw [getR,if_neg h0,hL,hg,hin]; rfl
    rw [hR]
    refine ⟨rfl,?_⟩
    conv => whnf
    exact ⟨.refl _,.refl _,trivial⟩
end Go.Tame.V
/- Contracts: Equal of trees; the law ViewdiffEquals. By program (mk.py). -/

namespace Go.Tame.V
open Go Go.Proofs
variable {W0 : World}
set_option maxRecDepth 10000
set_option linter.unusedVariables false
set_option linter.unusedSimpArgs false

noncomputable def eqT (a b : NV) : Bool:=@decide (a = b) (Classical.propDecidable _)
theorem eqT_iff {a b : NV} : eqT a b = true ↔ a = b:=@decide_eq_true_iff _ (Classical.propDecidable _)
theorem eqT_ne {a b : NV} (h : a ≠ b) : eqT a b = false:=@decide_eq_false _ (Classical.propDecidable _) h
theorem eqT_rfl (a : NV) : eqT a a = true:=eqT_iff.2 rfl

theorem F25 : ∀ (N : Nat) (a b : NV),sz a < N → sz a < 100000000 → DFun Tryz.prog W0 13 [encTop a,encTop b] (.bool (eqT a b)):=by
 refine fun N => Nat.rec (fun a b h => absurd h (Nat.not_lt_zero _)) (fun N ih a b hN hz => ?_) N
 have hsze:=sz_eq a
 have hkk:=szL_len a.kids
 have hss:=szS_len a.streams
 refine DFun.intro ti_ok Tryz.func13 rfl (by decide +kernel) Tryz.ntmps13 rfl fun Γ => ?_
 refine Tri.seq ?_
 refine Tri.region ti_ok ?_
 conv => whnf
 intro b2
 conv => whnf
 intro b3
 conv => whnf
 refine Tri.seq ?_
 refine Tri.seq ?_
 refine Tri.region ti_ok ?_
 conv => whnf
 refine ⟨rfl,?_⟩
 conv => whnf
 refine ⟨rfl,?_⟩
 conv => whnf
 refine ⟨fun h => h,?_⟩
 conv => whnf
 refine ⟨rfl,?_⟩
 conv => whnf
 refine ⟨fun h => h,?_⟩
 conv => whnf
 refine ⟨rfl,?_⟩
 conv => whnf
 refine ⟨fun h => h,?_⟩
 conv => whnf
 refine ⟨fun h => h,?_⟩
 conv => whnf
 refine ⟨fun h0 h => by first | exact h | (rw [h]; rfl) | (rw [h0,h]; rfl),?_⟩
 conv => whnf
 refine ⟨fun h => h,?_⟩
 conv => whnf
 refine ⟨rfl,?_⟩
 conv => whnf
 refine ⟨fun h => h,?_⟩
 conv => whnf
 refine ⟨rfl,?_⟩
 conv => whnf
 refine ⟨fun h => h,?_⟩
 conv => whnf
 refine ⟨fun h => h,?_⟩
 conv => whnf
 refine ⟨fun h0 h => by first | exact h | (rw [h]; rfl) | (rw [h0,h]; rfl),?_⟩
 conv => whnf
 refine ⟨fun h => h,?_⟩
 conv => whnf
 refine ⟨rfl,?_⟩
 conv => whnf
 refine ⟨fun h => h,?_⟩
 conv => whnf
 refine ⟨rfl,?_⟩
 conv => whnf
 refine ⟨fun h => h,?_⟩
 conv => whnf
 refine ⟨fun h => h,?_⟩
 conv => whnf
 refine ⟨fun h0 h => by first | exact h | (rw [h]; rfl) | (rw [h0,h]; rfl),?_⟩
 conv => whnf
 refine ⟨fun h => h,?_⟩
 conv => whnf
 refine ⟨rfl,?_⟩
 conv => whnf
 refine ⟨fun h => h,?_⟩
 conv => whnf
 refine ⟨rfl,?_⟩
 conv => whnf
 refine ⟨fun h => h,?_⟩
 conv => whnf
 refine ⟨fun h => h,?_⟩
 conv => whnf
 refine ⟨fun h0 h => by first | exact h | (rw [h]; rfl) | (rw [h0,h]; rfl),?_⟩
 conv => whnf
 refine ⟨fun h => h,?_⟩
 conv => whnf
 refine ⟨rfl,?_⟩
 conv => whnf
 refine ⟨fun h => h,?_⟩
 conv => whnf
 refine ⟨rfl,?_⟩
 conv => whnf
 refine ⟨fun h => h,?_⟩
 conv => whnf
 refine ⟨fun h => h,?_⟩
 conv => whnf
 refine ⟨fun h0 h => by first | exact h | (rw [h]; rfl) | (rw [h0,h]; rfl),?_⟩
 conv => whnf
 refine ⟨fun h => h,?_⟩
 conv => whnf
 refine ⟨rfl,?_⟩
 conv => whnf
 refine ⟨fun h => h,?_⟩
 conv => whnf
 refine ⟨rfl,?_⟩
 conv => whnf
 refine ⟨fun h => h,?_⟩
 conv => whnf
 refine ⟨fun h => h,?_⟩
 conv => whnf
 refine ⟨fun h0 h => by first | exact h | (rw [h]; rfl) | (rw [h0,h]; rfl),?_⟩
 conv => whnf
 refine ⟨fun h => h,?_⟩
 conv => whnf
 refine ⟨rfl,?_⟩
 conv => whnf
 refine ⟨fun h => h,?_⟩
 conv => whnf
 refine ⟨rfl,?_⟩
 conv => whnf
 refine ⟨fun h => h,?_⟩
 conv => whnf
 refine ⟨fun h => h,?_⟩
 conv => whnf
 refine ⟨fun h0 h => by first | exact h | (rw [h]; rfl) | (rw [h0,h]; rfl),?_⟩
 conv => whnf
 refine ⟨fun h => h,?_⟩
 conv => whnf
 refine ⟨rfl,?_⟩
 conv => whnf
 refine ⟨fun h => h,?_⟩
 conv => whnf
 refine ⟨rfl,?_⟩
 conv => whnf
 refine ⟨fun h => h,?_⟩
 conv => whnf
 refine ⟨fun h => h,?_⟩
 conv => whnf
 refine ⟨fun h0 h => by first | exact h | (rw [h]; rfl) | (rw [h0,h]; rfl),?_⟩
 conv => whnf
 refine ⟨fun h => h,?_⟩
 conv => whnf
 refine ⟨rfl,?_⟩
 conv => whnf
 refine ⟨fun h => h,?_⟩
 conv => whnf
 refine ⟨rfl,?_⟩
 conv => whnf
 refine ⟨fun h => h,?_⟩
 conv => whnf
 refine ⟨fun h => h,?_⟩
 conv => whnf
 refine ⟨fun h0 h => by first | exact h | (rw [h]; rfl) | (rw [h0,h]; rfl),?_⟩
 conv => whnf
 refine ⟨fun h => h,?_⟩
 conv => whnf
 refine ⟨rfl,?_⟩
 conv => whnf
 refine ⟨fun h => h,?_⟩
 conv => whnf
 refine ⟨fun h => h,?_⟩
 conv => whnf
 refine ⟨rfl,?_⟩
 conv => whnf
 refine ⟨fun h => h,?_⟩
 conv => whnf
 refine ⟨fun h => h,?_⟩
 conv => whnf
 refine ⟨fun h => h,?_⟩
 conv => whnf
 refine ⟨fun h0 h => by first | exact h | (rw [h]; rfl) | (rw [h0,h]; rfl),?_⟩
 conv => whnf
 refine ⟨fun h => h,?_⟩
 conv => whnf
 refine ⟨rfl,?_⟩
 conv => whnf
 refine ⟨fun h => h,?_⟩
 conv => whnf
 refine ⟨fun h => h,?_⟩
 conv => whnf
 refine ⟨rfl,?_⟩
 conv => whnf
 refine ⟨fun h => h,?_⟩
 conv => whnf
 refine ⟨fun h => h,?_⟩
 conv => whnf
 refine ⟨fun h => h,?_⟩
 conv => whnf
 refine ⟨fun h0 h => by first | exact h | (rw [h]; rfl) | (rw [h0,h]; rfl),?_⟩
 conv => whnf
 refine Tri.cond _ rfl (fun hc => ?_) (fun hc => ?_)
 ·refine Tri.seq ?_
  refine Tri.region ti_ok ?_
  conv => whnf
  refine Tri.ret ?_
  conv => whnf
  refine DLe.of_eq (congrArg D.bool (eqT_ne fun e => ?_).symm)
  subst e
  simp at hc
 ·refine Tri.skip ?_
  conv => whnf
  simp only [bif_or,Bool.or_eq_false_iff,Bool.not_eq_false',beq_iff_eq,List.length_map,Int.ofNat_inj,bne_eq_false_iff_eq] at hc
  obtain ⟨⟨⟨⟨⟨⟨⟨⟨⟨⟨⟨e1,e2⟩,e3⟩,e4⟩,e5⟩,e6⟩,e7⟩,e8⟩,e9⟩,e10⟩,e11⟩,e12⟩:=hc
  refine Tri.seq ?_
  refine Tri.seq ?_
  refine Tri.region ti_ok ?_
  conv => whnf
  refine Tri.block ?_
  refine Tri.loopK (α:={ i : Nat // i ≤ a.streams.length ∧ a.streams.take i = b.streams.take i }) (fun x => [(2,.box 2 b2 0),(3,.box 3 b3 0),(5,.int .i64 x.1)]) (fun x => [(2,.box b2 [.str a.name,.int .i64 a.kind,.str a.text,.str a.target,.int .i64 a.n1,.int .i64 a.n2,.int .i64 a.n3,.int .i64 a.n4,.int .i64 a.n5,.int .i64 a.n6,.sl .none 12 (a.kids.map enc),.sl .none 2 (a.streams.map encS)]),(3,.box b3 [.str b.name,.int .i64 b.kind,.str b.text,.str b.target,.int .i64 b.n1,.int .i64 b.n2,.int .i64 b.n3,.int .i64 b.n4,.int .i64 b.n5,.int .i64 b.n6,.sl .none 12 (b.kids.map enc),.sl .none 2 (b.streams.map encS)])]) (fun x => a.streams.length - x.1) ⟨0,Nat.zero_le _,rfl⟩ [(2,2),(3,3)]
   ⟨⟨.refl _,.refl _,.refl _,trivial⟩,rfl,rfl,rfl,rfl,rfl,trivial⟩ ?_
  rintro ⟨i,hi,hp⟩
  dsimp only at hi hp ⊢
  refine Tri.seq ?_
  refine Tri.seq ?_
  refine Tri.region ti_ok ?_
  conv => whnf
  refine ⟨rfl,?_⟩
  conv => whnf
  refine Tri.cond _ rfl (fun hc => ?_) (fun hc => ?_)
  ·refine Tri.skip ?_
   conv => whnf
   have hia : i < a.streams.length:=by simpa using hc
   have hib : i < b.streams.length:=by omega
   refine Tri.seq ?_
   refine Tri.block ?_
   refine Tri.seq ?_
   refine Tri.draw ti_ok mixed (by kernel_rfl) ?_
   conv => whnf
   refine ⟨rfl,?_⟩
   conv => whnf
   refine ⟨fun _ => by simp; omega,?_⟩
   conv => whnf
   refine ⟨encS a.streams[i],fun _ => get_map _ hia,?_⟩
   conv => whnf
   refine ⟨rfl,?_⟩
   conv => whnf
   refine ⟨fun _ => by simp; omega,?_⟩
   conv => whnf
   refine ⟨encS b.streams[i],fun _ => get_map _ hib,?_⟩
   conv => whnf
   refine Tri.cond _ rfl (fun hc => ?_) (fun hc => ?_)
   ·refine Tri.seq ?_
    refine Tri.region ti_ok ?_
    conv => whnf
    refine Tri.ret ?_
    conv => whnf
    refine DLe.of_eq (congrArg D.bool (eqT_ne fun e => ?_).symm)
    subst e
    simp at hc
   ·refine Tri.skip ?_
    conv => whnf
    have he : a.streams[i] = b.streams[i]:=by
     simp at hc
     cases h1 : a.streams[i]; cases h2 : b.streams[i]; simp_all
    refine Tri.region ti_ok ?_
    conv => whnf
    refine .inl ⟨fun _ => by simp only [InR]; omega,?_⟩
    conv => whnf
    exact ⟨⟨i + 1,hia,take_next hia hib hp he⟩,[(2,2),(3,3)],by show a.streams.length - (i + 1) < a.streams.length - i; omega,⟨.refl _,.refl _,.refl _,trivial⟩,rfl,rfl,rfl,rfl,rfl,trivial⟩
  ·refine Tri.exit ?_
   conv => whnf
   have hst : a.streams = b.streams:=of_decide_eq_true (eq_of_take e12 (by simpa using hc) hp).symm
   refine Tri.seq ?_
   refine Tri.seq ?_
   refine Tri.region ti_ok ?_
   conv => whnf
   refine Tri.block ?_
   refine Tri.loopK (α:={ i : Nat // i ≤ a.kids.length ∧ a.kids.take i = b.kids.take i }) (fun x => [(2,.box 2 b2 0),(3,.box 3 b3 0),(6,.int .i64 x.1)]) (fun x => [(2,.box b2 [.str a.name,.int .i64 a.kind,.str a.text,.str a.target,.int .i64 a.n1,.int .i64 a.n2,.int .i64 a.n3,.int .i64 a.n4,.int .i64 a.n5,.int .i64 a.n6,.sl .none 12 (a.kids.map enc),.sl .none 2 (a.streams.map encS)]),(3,.box b3 [.str b.name,.int .i64 b.kind,.str b.text,.str b.target,.int .i64 b.n1,.int .i64 b.n2,.int .i64 b.n3,.int .i64 b.n4,.int .i64 b.n5,.int .i64 b.n6,.sl .none 12 (b.kids.map enc),.sl .none 2 (b.streams.map encS)])]) (fun x => a.kids.length - x.1) ⟨0,Nat.zero_le _,rfl⟩ [(2,2),(3,3)]
    ⟨⟨.refl _,.refl _,.refl _,trivial⟩,rfl,rfl,rfl,rfl,rfl,trivial⟩ ?_
   rintro ⟨i,hi,hp⟩
   dsimp only at hi hp ⊢
   refine Tri.seq ?_
   refine Tri.seq ?_
   refine Tri.region ti_ok ?_
   conv => whnf
   refine ⟨rfl,?_⟩
   conv => whnf
   refine Tri.cond _ rfl (fun hc => ?_) (fun hc => ?_)
   ·refine Tri.skip ?_
    conv => whnf
    have hia : i < a.kids.length:=by simpa using hc
    have hib : i < b.kids.length:=by omega
    have hkz:=kid_sz hia
    refine Tri.seq ?_
    refine Tri.block ?_
    refine Tri.seq ?_
    refine Tri.draw ti_ok mixed (by kernel_rfl) ?_
    conv => whnf
    refine ⟨rfl,?_⟩
    conv => whnf
    refine ⟨fun _ => by simp; omega,?_⟩
    conv => whnf
    refine ⟨encTop a.kids[i],fun _ => get_kids hia,?_⟩
    conv => whnf
    refine ⟨rfl,?_⟩
    conv => whnf
    refine ⟨fun _ => by simp; omega,?_⟩
    conv => whnf
    refine ⟨encTop b.kids[i],fun _ => get_kids hib,?_⟩
    conv => whnf
    refine ⟨[encTop a.kids[i],encTop b.kids[i]],_,fun _ => ih a.kids[i] b.kids[i] (by omega) (by omega),⟨.refl _,.refl _,trivial⟩,?_⟩
    conv => whnf
    refine Tri.cond _ rfl (fun hc => ?_) (fun hc => ?_)
    ·refine Tri.seq ?_
     refine Tri.region ti_ok ?_
     conv => whnf
     refine Tri.ret ?_
     conv => whnf
     refine DLe.of_eq (congrArg D.bool (eqT_ne fun e => ?_).symm)
     subst e
     rw [eqT_rfl] at hc
     cases hc
    ·refine Tri.skip ?_
     conv => whnf
     have he : a.kids[i] = b.kids[i]:=by
      refine eqT_iff.1 ?_
      cases h : eqT a.kids[i] b.kids[i] with
      | true => rfl
      | false => rw [h] at hc; cases hc
     refine Tri.region ti_ok ?_
     conv => whnf
     refine .inl ⟨fun _ => by simp only [InR]; omega,?_⟩
     conv => whnf
     exact ⟨⟨i + 1,hia,take_next hia hib hp he⟩,[(2,2),(3,3)],by show a.kids.length - (i + 1) < a.kids.length - i; omega,⟨.refl _,.refl _,.refl _,trivial⟩,rfl,rfl,rfl,rfl,rfl,trivial⟩
   ·refine Tri.exit ?_
    conv => whnf
    refine Tri.seq ?_
    refine Tri.region ti_ok ?_
    conv => whnf
    refine Tri.ret ?_
    conv => whnf
    have hin : ¬ i < a.kids.length:=by simpa using hc
    have hkd : a.kids = b.kids:=by
     rw [List.take_of_length_le (by omega),List.take_of_length_le (by omega)] at hp
     exact hp
    refine DLe.of_eq (congrArg D.bool (eqT_iff.2 ?_).symm)
    cases a; cases b
    simp_all

theorem getN_sz : ∀ (q : List (List UInt8)) (n x : NV),getN n q = some x → sz x ≤ sz n
 | [],n,x,h => by simp only [getN,Option.some.injEq] at h; subst h; exact Nat.le_refl _
 | m::q,n,x,h => by
  simp only [getN] at h
  cases hf : findK m n.kids with
  | none => rw [hf] at h; cases h
  | some k =>
   rw [hf] at h
   obtain ⟨i,hi,e⟩:=List.mem_iff_getElem.1 (findK_name hf).1
   have h1:=kid_sz hi
   have h2:=getN_sz q k x h
   rw [e] at h1
   omega
end Go.Tame.V
/- Contracts: sourcetree's clone. By program (mkn4.py,mk.py). -/
namespace Go.Tame.V
open Go Go.Proofs
variable {W0 : World}
set_option maxRecDepth 10000
set_option linter.unusedVariables false
set_option linter.unusedSimpArgs false

theorem kids_next {l : List NV} {i : Nat} (h : i < l.length) : (l.take i).map encTop ++ [encTop l[i]] = (l.take (i + 1)).map encTop:=by
 rw [List.take_add_one,List.getElem?_eq_getElem h,List.map_append]; rfl

theorem G117 : ∀ (N : Nat) (n : NV),sz n < N → sz n < 1000000000 → DFun Tryz.prog W0 67 [encTop n] (encTop n):=by
 refine fun N => Nat.rec (fun n h => absurd h (Nat.not_lt_zero _)) (fun N ih n hN hz => ?_) N
 have hss : 2 * n.streams.length ≤ sz n:=by have:=szS_len n.streams; have:=sz_eq n; omega
 have hkl : 2 * n.kids.length ≤ sz n:=by have:=szL_len n.kids; have:=sz_eq n; omega
 refine DFun.intro ti_ok Tryz.func67 rfl (by decide +kernel) Tryz.ntmps67 rfl fun Γ => ?_
 refine Tri.seq ?_
 refine Tri.region ti_ok ?_
 conv => whnf
 intro b1
 conv => whnf
 intro b2
 conv => whnf
 refine Tri.seq ?_
 refine Tri.region ti_ok ?_
 conv => whnf
 refine ⟨rfl,?_⟩
 conv => whnf
 refine ⟨[.sl .none 2 (n.streams.map encS)],_,fun _ => F104 n.streams (by omega),⟨.refl _,trivial⟩,?_⟩
 conv => whnf
 refine ⟨rfl,?_⟩
 conv => whnf
 refine Tri.seq ?_
 refine Tri.region ti_ok ?_
 conv => whnf
 refine ⟨rfl,?_⟩
 conv => whnf
 refine Tri.seq ?_
 refine Tri.region ti_ok ?_
 conv => whnf
 refine ⟨rfl,?_⟩
 conv => whnf
 refine Tri.seq ?_
 refine Tri.seq ?_
 refine Tri.region ti_ok ?_
 conv => whnf
 refine Tri.block ?_
 refine Tri.boxLe 1 (cs':=[.str n.name,.int .i64 n.kind,.str n.text,.str n.target,.int .i64 n.n1,.int .i64 n.n2,.int .i64 n.n3,.int .i64 n.n4,.int .i64 n.n5,.int .i64 n.n6,.raw (.slice none 0 0),.sl .none 2 (n.streams.map encS)]) rfl ⟨.refl _,.refl _,.refl _,.refl _,.refl _,.refl _,.refl _,.refl _,.refl _,.refl _,DLe.nilRaw,.refl _,trivial⟩ ?_
 refine Tri.rowNil 109 12 25 ?_
 refine Tri.loopK (α:={ x : Nat × Value // x.1 ≤ n.kids.length }) (fun x => [(1,.box 1 b1 0),(2,.box 2 b2 0),(13,.sl .none 12 (n.kids.map enc)),(14,.int .i64 (n.kids.map enc).length),(15,.int .i64 x.1.1)]) (fun x => [(2,.box b2 [.str [],.int .i64 0,.str [],.str [],.int .i64 0,.int .i64 0,.int .i64 0,.int .i64 0,.int .i64 0,.int .i64 0,.nils,.nils]),(1,.box b1 [.str n.name,.int .i64 n.kind,.str n.text,.str n.target,.int .i64 n.n1,.int .i64 n.n2,.int .i64 n.n3,.int .i64 n.n4,.int .i64 n.n5,.int .i64 n.n6,.raw x.1.2,.sl .none 2 (n.streams.map encS)]),(109,.row x.1.2 ((n.kids.take x.1.1).map encTop) 12 25)]) (fun x => n.kids.length - x.1.1) ⟨(0,.slice none 0 0),Nat.zero_le _⟩ [(2,2),(1,1),(109,109)]
  ⟨⟨.refl _,.refl _,.refl _,.refl _,.refl _,trivial⟩,rfl,rfl,rfl,rfl,rfl,rfl,congrArg (fun z => some (HObj.row (.slice none 0 0) z 12 25)) (by simp),trivial⟩ ?_
 rintro ⟨⟨i,rv⟩,hi⟩
 dsimp only at hi ⊢
 refine Tri.seq ?_
 refine Tri.region ti_ok ?_
 conv => whnf
 refine Tri.seq ?_
 refine Tri.cond (decide ((i : Int) < (n.kids.map enc).length)) rfl (fun hc => ?_) (fun hc => ?_)
 ·refine Tri.skip ?_
  conv => whnf
  refine Tri.seq ?_
  refine Tri.block ?_
  refine Tri.seq ?_
  refine Tri.region ti_ok ?_
  have hia : i < n.kids.length:=by simpa using hc
  have hkz:=kid_sz hia
  conv => whnf
  refine ⟨fun _ => by simp; omega,?_⟩
  conv => whnf
  refine ⟨encTop n.kids[i],fun _ => get_kid hia,?_⟩
  conv => whnf
  intro b5
  conv => whnf
  refine ⟨rfl,?_⟩
  conv => whnf
  refine Tri.drawTailX ti_ok 5 mixed (by kernel_rfl) ?_
  conv => whnf
  refine ⟨rfl,?_⟩
  conv => whnf
  refine ⟨rfl,?_⟩
  conv => whnf
  refine ⟨[encTop n.kids[i]],_,fun _ => ih n.kids[i] (by omega) (by omega),⟨.refl _,trivial⟩,?_⟩
  conv => whnf
  refine ⟨trivial,?_⟩
  conv => whnf
  refine .inr (XOp.rowAppend ti_ok 109 rfl rfl rfl (fun h => by cases h) rfl rfl rfl (Nat.zero_lt_one) ?_ ?_ fun aa mm cap => ?_)
  ·show (_ + 1) * 152 ≤ _
   simp; omega
  ·show _ + 1 ≤ _
   simp; omega
  refine .inl ?_
  conv => whnf
  refine ⟨rfl,?_⟩
  conv => whnf
  refine Tri.region ti_ok ?_
  conv => whnf
  refine .inl ⟨fun _ => by simp only [InR]; omega,?_⟩
  conv => whnf
  exact ⟨⟨(i + 1,.slice aa mm cap),hia⟩,[(2,2),(1,1),(109,24)],by show _ - (i + 1) < _ - i; omega,⟨.refl _,.refl _,.refl _,.refl _,.refl _,trivial⟩,rfl,rfl,rfl,rfl,rfl,rfl,congrArg (fun z => some (HObj.row (.slice aa mm cap) z 12 25)) (by exact kids_next hia),trivial⟩
 ·refine Tri.exit ?_
  have hin : i = n.kids.length:=by simp at hc; omega
  have hrow : (n.kids.take i).map encTop = n.kids.map enc:=by
   subst hin; rw [List.take_length,show enc = encTop from funext enc_eq]
  rw [hrow]
  refine Tri.commitBox 109 1 10 rfl rfl (by decide) rfl ?_
  conv => whnf
  refine Tri.seq ?_
  refine Tri.region ti_ok ?_
  conv => whnf
  refine ⟨rfl,?_⟩
  conv => whnf
  refine ⟨rfl,?_⟩
  conv => whnf
  refine Tri.ret ?_
  conv => whnf
  refine ⟨rfl,?_⟩
  conv => whnf
  exact DLe.of_eq rfl
end Go.Tame.V
/- Contracts: sourcetree's find and Get. By program (mk.py). -/
namespace Go.Tame.V
open Go Go.Proofs
variable {W0 : World}
set_option maxRecDepth 10000
set_option linter.unusedVariables false
set_option linter.unusedSimpArgs false

theorem G160 (k : NV) (q : List UInt8) : DFun Tryz.prog W0 97 [encTop k,.elm 1 [.str q] 0 0] (.bool (k.name == q)):=by
 refine DFun.intro ti_ok Tryz.func97 rfl (by decide +kernel) Tryz.ntmps97 rfl fun Γ => ?_
 refine Tri.seq ?_
 refine Tri.region ti_ok ?_
 conv => whnf
 intro b
 conv => whnf
 refine Tri.seq ?_
 refine Tri.region ti_ok ?_
 conv => whnf
 refine ⟨rfl,?_⟩
 conv => whnf
 refine ⟨.str q,fun _ => rfl,?_⟩
 conv => whnf
 refine Tri.ret ?_
 conv => whnf
 exact .refl _
theorem G96 (l : List NV) (q : List UInt8) (hl : l.length < 1000000000) : DFun Tryz.prog W0 48 [.sl .none 12 (l.map enc),.fn (.func 97) [] [.elm 1 [.str q] 0 0]] (.int .i64 (firstIdx (fun k : NV => k.name == q) l)):=by
 refine DFun.intro ti_ok Tryz.func48 rfl (by decide +kernel) Tryz.ntmps48 rfl fun Γ => ?_
 refine Tri.seq ?_
 refine Tri.region ti_ok ?_
 conv => whnf
 refine Tri.seq ?_
 refine Tri.seq ?_
 refine Tri.region ti_ok ?_
 conv => whnf
 refine Tri.block ?_
 refine Tri.loop (α:={ i : Nat // i ≤ l.length ∧ ∀ j (h : j < l.length),j < i → ((l[j]).name == q) = false }) (fun x => [(0,.sl .none 12 (l.map enc)),(1,.fn (.func 97) [] [.elm 1 [.str q] 0 0]),(7,.int .i64 (l.map enc).length),(8,.int .i64 x.1)]) (fun _ => []) (fun x => l.length - x.1) ⟨0,by simp⟩ ⟨.refl _,.refl _,.refl _,.refl _,trivial⟩ trivial ?_
 rintro ⟨i,hi,hp⟩
 dsimp only
 refine Tri.seq ?_
 refine Tri.region ti_ok ?_
 conv => whnf
 refine Tri.seq ?_
 refine Tri.cond (decide ((i : Int) < (l.map enc).length)) rfl (fun hc => ?_) (fun hc => ?_)
 ·refine Tri.skip ?_
  conv => whnf
  refine Tri.seq ?_
  refine Tri.block ?_
  refine Tri.seq ?_
  refine Tri.region ti_ok ?_
  have hia : i < l.length:=by simpa using hc
  conv => whnf
  refine Tri.seq ?_
  refine Tri.region ti_ok ?_
  conv => whnf
  refine ⟨fun _ => by simp; omega,?_⟩
  conv => whnf
  refine ⟨encTop l[i],fun _ => get_kids hia,?_⟩
  conv => whnf
  refine ⟨[encTop l[i],.elm 1 [.str q] 0 0],_,fun _ => G160 l[i] q,⟨.refl _,.refl _,trivial⟩,?_⟩
  conv => whnf
  refine Tri.cond _ rfl (fun hc => ?_) (fun hc => ?_)
  ·refine Tri.seq ?_
   refine Tri.region ti_ok ?_
   conv => whnf
   refine Tri.ret ?_
   conv => whnf
   exact intDLe (firstIdx_some (p:=fun k : NV => k.name == q) hia hp hc).symm
  ·refine Tri.skip ?_
   conv => whnf
   refine Tri.region ti_ok ?_
   conv => whnf
   refine .inl ⟨fun _ => by simp [InR]; omega,?_⟩
   conv => whnf
   exact ⟨⟨i + 1,by omega,fun j hj hlt => (Nat.lt_succ_iff_lt_or_eq.1 hlt).elim (hp j hj) fun e => by subst e; exact hc⟩,by show _ - (i + 1) < _ - i; omega,⟨.refl _,.refl _,.refl _,.refl _,trivial⟩,trivial⟩
 ·refine Tri.exit ?_
  conv => whnf
  refine Tri.seq ?_
  refine Tri.region ti_ok ?_
  conv => whnf
  refine Tri.ret ?_
  conv => whnf
  exact intDLe (firstIdx_none (p:=fun k : NV => k.name == q) fun j hj => hp j hj (by simp at hc; omega)).symm
/-- The place that find returns: of node n at index j of a row,behind these names. -/
def findD : List D → Nat → NV → List (List UInt8) → D
 | xs,j,n,[] => .elm 12 xs j 0
 | xs,j,n,m::r => if kidIx n m < 0 then .raw (.pointer none) else match n.kids[(kidIx n m).toNat]? with
  | some k => findD (n.kids.map enc) (kidIx n m).toNat k r
  | none => .raw (.pointer none)
theorem findD_getN : ∀ (r : List (List UInt8)) (xs : List D) (j : Nat) (n : NV),xs[j]? = some (encTop n) → (getN n r = none ∧ findD xs j n r = .raw (.pointer none)) ∨ ∃ m ys i,getN n r = some m ∧ findD xs j n r = .elm 12 ys i 0 ∧ ys[i]? = some (encTop m)
 | [],xs,j,n,h => .inr ⟨n,xs,j,rfl,rfl,h⟩
 | m::r,xs,j,n,h => by
  simp only [getN,findD]
  rcases kid_find n m with ⟨h1,h2⟩ | ⟨i,hi,h1,h2⟩
  ·rw [h1,h2]; exact .inl ⟨rfl,if_pos (by decide)⟩
  ·rw [h1,h2,if_neg (by omega),show ((i : Nat) : Int).toNat = i from rfl,List.getElem?_eq_getElem hi]
   exact findD_getN r _ i _ (get_kid hi)

theorem G116 (hL : LibOk W0) (s : List UInt8) (hs : s.length < 1000000000) (xs : List D) (j : Nat) (n : NV) (hj : xs[j]? = some (encTop n)) (hz : sz n < 1000000000) : DFun Tryz.prog W0 66 [.elm 12 xs j 0,.str s] (if s = [] then .elm 12 xs j 0 else findD xs j n (splitG 47 [] s)):=by
 refine DFun.intro ti_ok Tryz.func66 rfl (by decide +kernel) Tryz.ntmps66 rfl fun Γ => ?_
 refine Tri.seq ?_
 refine Tri.region ti_ok ?_
 conv => whnf
 refine Tri.seq ?_
 refine Tri.seq ?_
 refine Tri.region ti_ok ?_
 conv => whnf
 refine Tri.cond _ rfl (fun hc => ?_) (fun hc => ?_)
 ·refine Tri.seq ?_
  refine Tri.region ti_ok ?_
  conv => whnf
  refine Tri.ret ?_
  conv => whnf
  exact DLe.of_eq (if_pos (by simpa using hc)).symm
 ·refine Tri.skip ?_
  conv => whnf
  refine Tri.seq ?_
  refine Tri.seq ?_
  refine Tri.region ti_ok ?_
  have hne : s ≠ []:=by simpa using hc
  conv => whnf
  refine ⟨[.str s,.str [47]],_,fun _ => F121 hL s 47 hs,⟨.refl _,.refl _,trivial⟩,?_⟩
  conv => whnf
  refine Tri.block ?_
  refine Tri.loop (α:={ x : Nat × List D × Nat × NV // x.1 ≤ (splitG 47 [] s).length ∧ x.2.1[x.2.2.1]? = some (encTop x.2.2.2) ∧ findD x.2.1 x.2.2.1 x.2.2.2 ((splitG 47 [] s).drop x.1) = findD xs j n (splitG 47 [] s) ∧ sz x.2.2.2 < 1000000000 }) (fun x => [(0,.elm 12 x.1.2.1 x.1.2.2.1 0),(12,.sl .none 1 (strs (splitG 47 [] s))),(13,.int .i64 (strs (splitG 47 [] s)).length),(14,.int .i64 x.1.1)]) (fun _ => []) (fun x => (splitG 47 [] s).length - x.1.1) ⟨(0,xs,j,n),Nat.zero_le _,hj,rfl,hz⟩ ⟨.refl _,DLe.full,.refl _,.refl _,trivial⟩ trivial ?_
  rintro ⟨⟨i,ys,jj,m⟩,hi,hm,hd,hzm⟩
  obtain ⟨hsl,_⟩:=splitG_len (c:=47) s []
  dsimp only at hi hm hd hzm ⊢
  refine Tri.seq ?_
  refine Tri.region ti_ok ?_
  conv => whnf
  refine Tri.seq ?_
  refine Tri.cond (decide ((i : Int) < (strs (splitG 47 [] s)).length)) rfl (fun hc => ?_) (fun hc => ?_)
  ·refine Tri.skip ?_
   conv => whnf
   refine Tri.seq ?_
   refine Tri.block ?_
   refine Tri.seq ?_
   refine Tri.region ti_ok ?_
   have hia : i < (splitG 47 [] s).length:=by simpa [strs] using hc
   have hkl:=kids_len m
   have hdr : (splitG 47 [] s).drop i = (splitG 47 [] s)[i]::(splitG 47 [] s).drop (i + 1):=List.drop_eq_getElem_cons hia
   conv => whnf
   refine ⟨fun _ => by simp [strs]; omega,?_⟩
   conv => whnf
   refine ⟨.str (splitG 47 [] s)[i],fun _ => by simp [strs,hia],?_⟩
   conv => whnf
   intro b
   conv => whnf
   refine ⟨rfl,?_⟩
   conv => whnf
   refine Tri.seq ?_
   refine Tri.boxElm 6 6 (.str (splitG 47 [] s)[i]) rfl rfl rfl rfl ?_
   refine Tri.regionG ti_ok ?_
   conv => whnf
   refine ⟨rfl,trivial,.inl ?_⟩
   conv => whnf
   refine ⟨rfl,trivial,.inr (XOp.checkElm rfl ?_)⟩
   conv => whnf
   refine ⟨rfl,trivial,.inl ?_⟩
   conv => whnf
   refine ⟨rfl,trivial,.inl ⟨encTop m,fun _ => hm,?_⟩⟩
   conv => whnf
   refine ⟨rfl,trivial,.inl ?_⟩
   conv => whnf
   refine ⟨rfl,trivial,.inl ⟨[.sl .none 12 (m.kids.map enc),.fn (.func 97) [] [.elm 1 [.str (splitG 47 [] s)[i]] 0 0]],_,fun _ => G96 m.kids _ (by omega),⟨.refl _,.refl _,trivial⟩,?_⟩⟩
   conv => whnf
   refine ⟨rfl,trivial,.inl ?_⟩

   conv => whnf
   refine Tri.seq ?_
   refine Tri.seq ?_
   refine Tri.region ti_ok ?_
   conv => whnf
   refine Tri.cond (decide (kidIx m (splitG 47 [] s)[i] < 0)) rfl (fun hc => ?_) (fun hc => ?_)
   ·refine Tri.seq ?_
    refine Tri.region ti_ok ?_
    conv => whnf
    refine Tri.ret ?_
    conv => whnf
    refine DLe.of_eq ?_
    rw [if_neg hne,← hd,hdr]
    exact (if_pos (by simpa using hc)).symm
   ·refine Tri.skip ?_
    conv => whnf
    have hix : ∃ (i' : Nat) (h : i' < m.kids.length),kidIx m (splitG 47 [] s)[i] = i' ∧ findK (splitG 47 [] s)[i] m.kids = some m.kids[i']:=by
     rcases kid_find m (splitG 47 [] s)[i] with ⟨h1,_⟩ | h
     ·rw [h1] at hc; simp at hc
     ·exact h
    obtain ⟨i',hi',he,_⟩:=hix
    have hks:=kid_sz hi'
    rw [show firstIdx (fun k : NV => k.name == (splitG 47 [] s)[i]) m.kids = (i' : Int) from he]
    refine Tri.regionG ti_ok ?_
    conv => whnf
    refine ⟨rfl,trivial,.inl ?_⟩
    conv => whnf
    refine ⟨rfl,trivial,.inr (XOp.checkElm rfl ?_)⟩
    conv => whnf
    refine ⟨rfl,trivial,.inl ?_⟩
    conv => whnf
    refine ⟨rfl,trivial,.inl ⟨encTop m,fun _ => hm,?_⟩⟩
    conv => whnf
    refine ⟨rfl,trivial,.inl ?_⟩
    conv => whnf
    refine ⟨rfl,trivial,.inl ⟨fun _ => by simp; omega,?_⟩⟩
    conv => whnf
    refine ⟨rfl,trivial,.inl ?_⟩

    conv => whnf
    refine Tri.region ti_ok ?_
    conv => whnf
    refine .inl ⟨fun _ => by simp [InR]; omega,?_⟩
    conv => whnf
    exact ⟨⟨(i + 1,m.kids.map enc,i',m.kids[i']),hia,get_kid hi',by rw [← hd,hdr]; simp only [findD,he]; rw [if_neg (by omega),show ((i' : Nat) : Int).toNat = i' from rfl,List.getElem?_eq_getElem hi'],by show sz m.kids[i'] < _; omega⟩,by show _ - (i + 1) < _ - i; omega,⟨.refl _,.refl _,.refl _,.refl _,trivial⟩,trivial⟩
  ·refine Tri.exit ?_
   conv => whnf
   refine Tri.seq ?_
   refine Tri.region ti_ok ?_
   conv => whnf
   refine Tri.ret ?_
   conv => whnf
   refine DLe.of_eq ?_
   have hin : i = (splitG 47 [] s).length:=by simp [strs] at hc; omega
   rw [if_neg hne,← hd,hin,List.drop_length]
   rfl
theorem G66 (hL : LibOk W0) (s : List UInt8) (hs : s.length < 1000000000) (n : NV) (hn : Fits n) (hv : valid n = true) : DFun Tryz.prog W0 35 [encTop n,.str s] (.tup [encTop (getR n s).1,.int .i64 (getR n s).2]):=by
 refine DFun.intro ti_ok Tryz.func35 rfl (by decide +kernel) Tryz.ntmps35 rfl fun Γ => ?_
 have hz:=hn
 unfold Fits at hz
 refine Tri.seq ?_
 refine Tri.region ti_ok ?_
 conv => whnf
 intro b2
 conv => whnf
 intro b4
 conv => whnf
 refine Tri.seq ?_
 refine Tri.seq ?_
 refine Tri.region ti_ok ?_
 conv => whnf
 refine ⟨rfl,?_⟩
 conv => whnf
 refine ⟨[encTop n],_,fun _ => F39 hL n (by omega),⟨.refl _,trivial⟩,?_⟩
 conv => whnf
 refine Tri.cond _ rfl (fun hc => ?_) (fun hc => ?_)
 ·refine Tri.seq ?_
  exfalso
  rw [hv] at hc; cases hc
 ·refine Tri.skip ?_
  conv => whnf
  refine Tri.seq ?_
  refine Tri.boxElm 2 2 (encTop n) rfl rfl rfl rfl ?_
  have hform : ∃ d,DFun Tryz.prog W0 66 [.elm 12 [encTop n] 0 0,.str s] d ∧ ((d = .raw (.pointer none) ∧ getR n s = (zeroN,6)) ∨ ∃ m ys i,d = .elm 12 ys i 0 ∧ ys[i]? = some (encTop m) ∧ getR n s = (m,0) ∧ sz m ≤ sz n):=by
   refine ⟨_,G116 hL s hs [encTop n] 0 n rfl (by omega),?_⟩
   by_cases h0 : s = []
   ·rw [if_pos h0]
    exact .inr ⟨n,_,_,rfl,rfl,by rw [getR,if_pos h0],Nat.le_refl _⟩
   ·rw [if_neg h0,getR,if_neg h0]
    rcases findD_getN (splitG 47 [] s) [encTop n] 0 n rfl with ⟨h1,h2⟩ | ⟨m,ys,i,h1,h2,h3⟩
    ·rw [h1,h2]; exact .inl ⟨rfl,rfl⟩
    ·rw [h1,h2]; exact .inr ⟨m,ys,i,rfl,h3,rfl,getN_sz _ _ _ h1⟩
  obtain ⟨d,hG,⟨rfl,hR⟩ | ⟨m,ys,i,rfl,hi,hR,hsm⟩⟩:=hform
  ·refine Tri.region ti_ok ?_
   conv => whnf
   refine ⟨[.elm 12 [encTop n] 0 0,.str s],_,fun _ => hG,⟨.refl _,.refl _,trivial⟩,?_⟩
   conv => whnf
   refine Tri.seq ?_
   refine Tri.seq ?_
   refine Tri.regionG ti_ok ?_
   conv => whnf
   refine ⟨rfl,trivial,.inl ?_⟩
   conv => whnf
   refine ⟨rfl,trivial,.inr (XOp.nilNil rfl rfl ?_)⟩
   conv => whnf
   refine Tri.cond true rfl (fun hc => ?_) (fun hc => by cases hc)
   refine Tri.seq ?_
   refine Tri.region ti_ok ?_
   conv => whnf
   refine ⟨rfl,?_⟩
   conv => whnf
   refine Tri.ret ?_
   conv => whnf
   refine ⟨rfl,?_⟩
   conv => whnf
   rw [hR]
   exact ⟨zeroD,.refl _,trivial⟩
  ·refine Tri.region ti_ok ?_
   conv => whnf
   refine ⟨[.elm 12 [encTop n] 0 0,.str s],_,fun _ => hG,⟨.refl _,.refl _,trivial⟩,?_⟩
   conv => whnf
   refine Tri.seq ?_
   refine Tri.seq ?_
   refine Tri.regionG ti_ok ?_
   conv => whnf
   refine ⟨rfl,trivial,.inl ?_⟩
   conv => whnf
   refine ⟨rfl,trivial,.inr (XOp.nilElm rfl rfl ?_)⟩
   conv => whnf
   refine Tri.cond false rfl (fun hc => by cases hc) (fun hc => ?_)
   refine Tri.skip ?_
   conv => whnf
   refine Tri.seq ?_
   refine Tri.regionG ti_ok ?_
   conv => whnf
   refine ⟨rfl,trivial,.inl ?_⟩
   conv => whnf
   refine ⟨rfl,trivial,.inr (XOp.checkElm rfl ?_)⟩
   conv => whnf
   refine ⟨rfl,trivial,.inl ⟨encTop m,fun _ => hi,?_⟩⟩
   conv => whnf
   refine ⟨rfl,trivial,.inl ⟨[encTop m],_,fun _ => G117 _ m (Nat.lt_succ_self _) (by omega),⟨.refl _,trivial⟩,?_⟩⟩
   conv => whnf
   refine ⟨rfl,trivial,.inl ⟨rfl,?_⟩⟩
   conv => whnf
   refine ⟨rfl,trivial,.inl ?_⟩
   conv => whnf
   refine Tri.ret ?_
   conv => whnf
   refine ⟨rfl,?_⟩
   conv => whnf
   rw [hR]
   exact ⟨DLe.of_eq rfl,.refl _,trivial⟩
end Go.Tame.V
/- Contracts: the paths of a tree,gathered by a walk; items; options of discs. By program (mkk3.py,mk.py). -/
namespace Go.Tame.V
open Go Go.Proofs
variable {W0 : World}
set_option maxRecDepth 10000
set_option linter.unusedVariables false
set_option linter.unusedSimpArgs false

end Go.Tame.V
/- Contracts: options of a disc,items of a tree,options of discs. By program (mk.py). -/
namespace Go.Tame.V
open Go Go.Proofs
variable {W0 : World}
set_option maxRecDepth 10000
set_option linter.unusedVariables false
set_option linter.unusedSimpArgs false

theorem DCall.freshK {f : FuncId} {ds : List D} {Q : D → Heap → Prop} {H : Heap} {k s : Nat} (h : H s = none) (hc : DCall Tryz.prog W0 f ds Heap.none Q) : DCall Tryz.prog W0 f ds (handed H [(k,s)]) Q:=by
 have e : handed H [(k,s)] = Heap.none:=by
  funext j
  simp only [handed,Heap.none]
  cases Nat.beq j k with
  | true => exact h
  | false => rfl
 rw [e]; exact hc
def fewT (l : List NV) (s : Int) : Bool:=l.all fun n => few1 n s
theorem K17 (l : List NV) (s : Int) (hl : l.length < 1000000000) (hf : ∀ n ∈ l,Fits n) : DFun Tryz.prog W0 17 [.sl .none 12 (l.map enc),.int .i64 s] (.bool (fewT l s && decide (l.length ≤ 10))):=by
 refine DFun.intro ti_ok Tryz.func17 rfl (by decide +kernel) Tryz.ntmps17 rfl fun Γ => ?_
 refine Tri.seq ?_
 refine Tri.region ti_ok ?_
 conv => whnf
 refine Tri.seq ?_
 refine Tri.seq ?_
 refine Tri.region ti_ok ?_
 conv => whnf
 refine Tri.block ?_
 refine Tri.loop (α:={ i : Nat // i ≤ l.length ∧ ∀ j (h : j < l.length),j < i → few1 l[j] s = true }) (fun x => [(0,.sl .none 12 (l.map enc)),(1,.int .i64 s),(5,.int .i64 x.1)]) (fun _ => []) (fun x => l.length - x.1) ⟨0,by simp⟩ ⟨.refl _,.refl _,.refl _,trivial⟩ trivial ?_
 rintro ⟨i,hi,hp⟩
 dsimp only
 refine Tri.seq ?_
 refine Tri.seq ?_
 refine Tri.region ti_ok ?_
 conv => whnf
 refine Tri.cond _ rfl (fun hc => ?_) (fun hc => ?_)
 ·refine Tri.skip ?_
  conv => whnf
  have hia : i < l.length:=by simpa using hc
  refine Tri.seq ?_
  refine Tri.block ?_
  refine Tri.seq ?_
  refine Tri.region ti_ok ?_
  conv => whnf
  refine ⟨fun _ => by simp; omega,?_⟩
  conv => whnf
  refine ⟨encTop l[i],fun _ => get_kids hia,?_⟩
  conv => whnf
  refine ⟨[encTop l[i],.int .i64 s],_,fun _ => F26 l[i] s (hf _ (List.getElem_mem hia)),⟨.refl _,.refl _,trivial⟩,?_⟩
  conv => whnf
  refine Tri.cond _ rfl (fun hc => ?_) (fun hc => ?_)
  ·refine Tri.seq ?_
   refine Tri.region ti_ok ?_
   conv => whnf
   refine Tri.ret ?_
   conv => whnf
   have hx : fewT l s = false:=by
    rw [fewT,List.all_eq_false]
    exact ⟨l[i],List.getElem_mem hia,by simpa using hc⟩
   rw [hx]
   exact .refl _
  ·refine Tri.skip ?_
   conv => whnf
   refine Tri.region ti_ok ?_
   conv => whnf
   refine .inl ⟨fun _ => by simp [InR]; omega,?_⟩
   conv => whnf
   exact ⟨⟨i + 1,by omega,fun j hj hlt => (Nat.lt_succ_iff_lt_or_eq.1 hlt).elim (hp j hj) fun e => by subst e; simpa using hc⟩,by show _ - (i + 1) < _ - i; omega,⟨.refl _,.refl _,.refl _,trivial⟩,trivial⟩
 ·refine Tri.exit ?_
  conv => whnf
  refine Tri.seq ?_
  refine Tri.region ti_ok ?_
  conv => whnf
  refine Tri.ret ?_
  conv => whnf
  have hx : fewT l s = true:=by
   rw [fewT,List.all_eq_true]
   intro n hn
   obtain ⟨j,hj,rfl⟩:=List.mem_iff_getElem.1 hn
   exact hp j hj (by simp at hc; omega)
  rw [hx]
  refine DLe.of_eq (congrArg D.bool ?_)
  by_cases h10 : l.length ≤ 10
  ·simp [h10]; omega
  ·simp [h10]; omega

end Go.Tame.V
/- Contracts: the options of the discs of a set; the law DiscsetNumbers. By program (mk.py). -/
namespace Go.Tame.V
open Go Go.Proofs
variable {W0 : World}
set_option maxRecDepth 10000
set_option linter.unusedVariables false
set_option linter.unusedSimpArgs false

theorem off (f : Nat → Bool) (k : Nat) (h : f k = false) : ∃ g : Nat → Bool,f = fun j => _root_.cond (Nat.beq j k) false (g j) :=
 ⟨f,funext fun j => by cases hb : Nat.beq j k with | false => rfl | true => rw [beq_true hb]; exact h⟩
end Go.Tame.V
/- Contracts: the law DiscsetNumbers,given its example. By program (mk.py). -/
namespace Go.Tame.V
open Go Go.Proofs
variable {W0 : World}
set_option maxRecDepth 10000
set_option linter.unusedVariables false
set_option linter.unusedSimpArgs false

end Go.Tame.V
/- The readings of this seat's arguments,as data by value; what is laid. -/
namespace Go.Tame.V
open Go Go.Proofs Go.RowKit Go.ChangeShapes Go.Deep Go.WideShapes Go.ChangeAt
open YtgaeiadnclmadaaGreatDoor (Rows.uptoBulk Rows.uptoBulkAll)
set_option maxRecDepth 100000
variable {H : Type} {enc0 : TypeId × Value → H} {W : World}

abbrev bulk (d : DataW H) : Nat:=YtgaeiadnclmadaaGreatDoor.Rows.uptoBulk d
abbrev bulkA (d : List (DataW H)) : Nat:=YtgaeiadnclmadaaGreatDoor.Rows.uptoBulkAll d

theorem sum_good {α : Type} {m : α → Nat} {c : Nat} : ∀ {l : List α} {ds : List (DataW H)},ds.length = l.length → (∀ (i : Nat) a y,l[i]? = some a → ds[i]? = some y → m a ≤ c * bulk y) → (l.map m).sum ≤ c * bulkA ds
 | [],[],_,_ => by simp
 | a::l,y::ds,hl,h => by
  have h1:=h 0 a y rfl rfl
  have h2:=sum_good (l:=l) (ds:=ds) (by simpa using hl) fun i a y h3 h4 => h (i + 1) a y (by simpa using h3) (by simpa using h4)
  have h3 : c * bulkA (y::ds) = c * bulk y + c * bulkA ds:=by simp only [bulkA,bulk,YtgaeiadnclmadaaGreatDoor.Rows.uptoBulkAll,Nat.mul_add]
  rw [h3,List.map_cons,List.sum_cons]
  omega
theorem sum_goodS {α : Type} {m : α → Nat} {c : Nat} {l : List α} {d : DataW H} (h : goodS (fun a y => m a ≤ c * bulk y) l d) : (l.map m).sum ≤ c * bulk d:=by
 rcases h with ⟨rfl,rfl⟩ | ⟨ds,sp,rfl,hl,hg⟩
 ·simp
 ·have:=sum_good hl hg
  have h3 : c * bulk (.slice ds sp) = c * bulkA ds + c * bulkA sp + c * 1:=by simp only [bulkA,bulk,YtgaeiadnclmadaaGreatDoor.Rows.uptoBulk,Nat.mul_add]
  rw [h3]
  omega
theorem szS_sum : ∀ l : List SV,szS l = (l.map fun s => 2 + s.name.length + s.target.length).sum
 | [] => rfl
 | s::r => by simp only [szS,List.map_cons,List.sum_cons,szS_sum r]
theorem szL_sum : ∀ l : List NV,szL l = (l.map fun n => 2 * n.name.length + 2 + sz n).sum
 | [] => by simp [szL]
 | s::r => by simp only [szL,List.map_cons,List.sum_cons,szL_sum r]

theorem rd_stream (n : Nat) : Rd enc0 Tryz.prog W n 71 encS (fun s d => 2 + s.name.length + s.target.length ≤ 1 * bulk d):=by
 intro cs x h
 obtain ⟨xs,m,rfl,hx,hcl,hxl,hf⟩:=trod_fields Tryz.underlying71 (by kernel_rfl) (by kernel_rfl) h
 match cs,hcl,xs,hxl with
 | [c0,c1],_,[y0,y1],_ =>
  obtain ⟨s0,r0,e0,_⟩:=Rd.str (enc:=enc0) (W:=W) (n:=m) Tryz.underlying9 [c0] y0 (hf 0 _ c0 y0 rfl rfl rfl)
  obtain ⟨s1,r1,e1,_⟩:=Rd.str (enc:=enc0) (W:=W) (n:=m) Tryz.underlying9 [c1] y1 (hf 1 _ c1 y1 rfl rfl rfl)
  refine ⟨⟨s0,s1⟩,.cons r0.head (.cons r1.head (.nil _ _)),?_⟩
  rw [hx]
  simp only [List.map_cons,List.map_nil,e0,e1,bulk,YtgaeiadnclmadaaGreatDoor.Rows.uptoBulk,YtgaeiadnclmadaaGreatDoor.Rows.uptoBulkAll]
  omega

theorem rd_node : ∀ (N n : Nat),n < N → Rd enc0 Tryz.prog W n 25 enc (fun s d => 2 * s.name.length + 2 + sz s ≤ 2 * bulk d)
 | 0,n,hn => absurd hn (Nat.not_lt_zero _)
 | N + 1,n,hn => by
  intro cs x h
  obtain ⟨xs,m,rfl,hx,hcl,hxl,hf⟩:=trod_fields Tryz.underlying25 (by kernel_rfl) (by kernel_rfl) h
  match cs,hcl,xs,hxl with
  | [c0,c1,c2,c3,c4,c5,c6,c7,c8,c9,c10,c11],_,[y0,y1,y2,y3,y4,y5,y6,y7,y8,y9,y10,y11],_ =>
   obtain ⟨s0,r0,e0,_⟩:=Rd.str (enc:=enc0) (W:=W) (n:=m) Tryz.underlying9 [c0] y0 (hf 0 _ c0 y0 rfl rfl rfl)
   obtain ⟨s1,r1,e1,_⟩:=Rd.int (enc:=enc0) (W:=W) (n:=m) Tryz.underlying3 [c1] y1 (hf 1 _ c1 y1 rfl rfl rfl)
   obtain ⟨s2,r2,e2,_⟩:=Rd.str (enc:=enc0) (W:=W) (n:=m) Tryz.underlying9 [c2] y2 (hf 2 _ c2 y2 rfl rfl rfl)
   obtain ⟨s3,r3,e3,_⟩:=Rd.str (enc:=enc0) (W:=W) (n:=m) Tryz.underlying9 [c3] y3 (hf 3 _ c3 y3 rfl rfl rfl)
   obtain ⟨s4,r4,e4,_⟩:=Rd.int (enc:=enc0) (W:=W) (n:=m) Tryz.underlying3 [c4] y4 (hf 4 _ c4 y4 rfl rfl rfl)
   obtain ⟨s5,r5,e5,_⟩:=Rd.int (enc:=enc0) (W:=W) (n:=m) Tryz.underlying3 [c5] y5 (hf 5 _ c5 y5 rfl rfl rfl)
   obtain ⟨s6,r6,e6,_⟩:=Rd.int (enc:=enc0) (W:=W) (n:=m) Tryz.underlying3 [c6] y6 (hf 6 _ c6 y6 rfl rfl rfl)
   obtain ⟨s7,r7,e7,_⟩:=Rd.int (enc:=enc0) (W:=W) (n:=m) Tryz.underlying3 [c7] y7 (hf 7 _ c7 y7 rfl rfl rfl)
   obtain ⟨s8,r8,e8,_⟩:=Rd.int (enc:=enc0) (W:=W) (n:=m) Tryz.underlying3 [c8] y8 (hf 8 _ c8 y8 rfl rfl rfl)
   obtain ⟨s9,r9,e9,_⟩:=Rd.int (enc:=enc0) (W:=W) (n:=m) Tryz.underlying3 [c9] y9 (hf 9 _ c9 y9 rfl rfl rfl)
   obtain ⟨ks,r10,e10⟩:=Rd.slice (enc:=enc0) (W:=W) (fuel:=m) Tryz.underlying22 (k:=12) (f:=enc) (by kernel_rfl) (by omega) (fun a => by rw [enc_eq]; exact ⟨rfl,rfl⟩) (fun m' hm' => rd_node N m' (by omega)) [c10] y10 (hf 10 _ c10 y10 rfl rfl rfl)
   obtain ⟨ss,r11,e11⟩:=Rd.slice (enc:=enc0) (W:=W) (fuel:=m) Tryz.underlying23 (k:=2) (f:=encS) (by kernel_rfl) (by omega) (fun a => ⟨rfl,rfl⟩) (fun m' _ => rd_stream m') [c11] y11 (hf 11 _ c11 y11 rfl rfl rfl)
   refine ⟨⟨s0,s1,s2,s3,s4,s5,s6,s7,s8,s9,ks,ss⟩,?_,?_⟩
   ·rw [enc_eq]
    exact .cons r0.head (.cons r1.head (.cons r2.head (.cons r3.head (.cons r4.head (.cons r5.head (.cons r6.head (.cons r7.head (.cons r8.head (.cons r9.head (.cons r10.head (.cons r11.head (.nil _ _))))))))))))
   ·have h10:=sum_goodS e10
    have h11:=sum_goodS e11
    rw [← szL_sum] at h10
    rw [← szS_sum] at h11
    rw [hx]
    dsimp only
    rw [sz_eq]
    simp only [List.map_cons,List.map_nil,e0,e1,e2,e3,e4,e5,e6,e7,e8,e9,bulk,YtgaeiadnclmadaaGreatDoor.Rows.uptoBulk,YtgaeiadnclmadaaGreatDoor.Rows.uptoBulkAll] at h10 h11 ⊢
    omega

theorem callsTrue {f : Nat} {ds : List D} {args : Array Value} (h : DFun Tryz.prog W f ds (.bool true)) (hr : RepL W (allC W) ds args.toList) :
  Calls Tryz.prog f args W fun e w' => e = .returned (.bool true) ∧ Below W.heap.size W w':=by
 obtain ⟨l⟩:=args
 refine (h.2 W (allC W) l (Below.refl _ _) hr).mono ?_
 rintro e w' ⟨v,C',rfl,hv,hs⟩
 rw [hv.bool_inv]
 exact ⟨rfl,Base.step (Below.refl _ _) hs fun _ h => h.elim⟩

theorem laidOut : laidOutB Tryz.prog = true:=by kernel_rfl
theorem stays_all {W' : World} (hb : Below W.heap.size W W') {sp : Nat → Bool} : ∀ {ts : List TypeId} {vs : List Value} {ds : List (DataW H)} {ps : List MemPlace},
  (∀ t ∈ ts,Tryz.prog.readableRec t = true ∧ t < Tryz.prog.types.size) → DataW.TrodAll enc0 Tryz.prog W 0 (fun _ => true) true ts vs ds ps → (∀ x ∈ ps,x.block < W.heap.size) → (∀ x ∈ ps,sp x.block = true) →
  DataW.TrodAll enc0 Tryz.prog W' 0 sp true ts vs ds ps
 | [],[],[],_,_,h,_,_ => h
 | t::ts,v::vs,d::ds,_,ht,⟨p,q,h1,h2,e⟩,hlt,hsp => by
  subst e
  exact ⟨p,q,stays laidOut (ht t List.mem_cons_self).1 (ht t List.mem_cons_self).2 h1 hb (fun x hx => hlt x (by simp [hx])) sp (fun x hx => hsp x (by simp [hx])),
   stays_all hb (fun t h => ht t (List.mem_cons_of_mem _ h)) h2 (fun x hx => hlt x (by simp [hx])) (fun x hx => hsp x (by simp [hx])),rfl⟩

def laidList : List (String × DataW Unit):=YtgaeiadnclmadaaGreatDoor.Rows.discsetNumbersRow.laid
theorem libOk (hL : laidMetH Tryz.prog laidList W) (hsh : W.ShapedOpen Tryz.prog) : LibOk W:=by
 have hL' : laidMet Tryz.prog laidList W:=hL
 refine ⟨utf8Tabs_of_reads (ρ:=Tryz.lays260_ren) Tryz.lays260 ⟨by kernel_rfl,by kernel_rfl,by kernel_rfl,by kernel_rfl,by kernel_rfl,by kernel_rfl,by kernel_rfl⟩
  (Lib.laidMet.reads hL' (.tail _ (.tail _ (.tail _ (.tail _ (.head _)))))) (Lib.laidMet.reads hL' (.tail _ (.tail _ (.tail _ (.head _))))),?_,?_⟩
 ·obtain ⟨h1,_⟩:=hsh
  obtain ⟨cs,hcs,hsz,hrow⟩:=h1 0 #[.int .i64 0] 3 (by decide +kernel) (by kernel_rfl)
  obtain ⟨ts,hts,_,hcell⟩:=hrow (by kernel_rfl)
  have hts' : ts = [3]:=by
   have : Tryz.prog.cellTypes Tryz.prog.depth 3 = some [3]:=by kernel_rfl
   exact Option.some.inj (hts.symm.trans this)
  subst hts'
  have h0 : cs[0]? = some (cs[0]'(by rw [hsz]; decide)):=Array.getElem?_eq_getElem _
  obtain ⟨u,hu,hok⟩:=hcell 0 _ h0
  have hu' : u = 3:=by simpa using hu.symm
  subst hu'
  have hc : W.cell? ⟨0,0,none⟩ = some (cs[0]'(by rw [hsz]; decide)):=by
   simp only [World.cell?,hcs]
   simpa using h0
  generalize cs[0]'(by rw [hsz]; decide) = v at hok hc
  unfold Cell.ok at hok
  rw [Tryz.underlying3] at hok
  cases v with
  | int k n => obtain ⟨rfl,_⟩:=hok; exact ⟨n,hc⟩
  | _ => exact hok.elim
 ·exact Lib.tabIs_of_head (rest:=_) (g:=3) (t:=427) (e:=379) (n:=20) (by kernel_rfl) (by kernel_rfl) (by kernel_rfl) (by kernel_rfl) (by kernel_rfl) (by kernel_rfl) hL'.tail.tail
theorem rd_nodes (n : Nat) : Rd enc0 Tryz.prog W n 22 (fun l : List NV => .sl .none 12 (l.map enc)) (goodS fun s d => 2 * s.name.length + 2 + sz s ≤ 2 * bulk d) :=
 Rd.slice (f:=enc) (k:=12) Tryz.underlying22 (by kernel_rfl) (by omega) (fun a => by rw [enc_eq]; exact ⟨rfl,rfl⟩) fun m _ => rd_node (m + 1) m (Nat.lt_succ_self _)
theorem szL_mem2 {l : List NV} {k : NV} (h : k ∈ l) : 2 * k.name.length + 2 + sz k ≤ szL l:=by
 induction l with
 | nil => cases h
 | cons a r ih =>
  simp only [szL]
  rcases List.mem_cons.1 h with rfl | h
  ·omega
  ·have:=ih h; omega
/-- Nodes that came in. -/
theorem open_nodes {v : Value} {d : DataW H} {p : List MemPlace} {base : Nat} (hv : Value.okWide Tryz.prog W .any base 22 v) (h : DataW.Trod enc0 Tryz.prog W 0 (fun _ => true) true 22 v d p) :
  ∃ l : List NV,Rep W (allC W) (.sl .none 12 (l.map enc)) v ∧ 2 * l.length ≤ 2 * bulk d ∧ szL l ≤ 2 * bulk d:=by
 obtain ⟨fuel,hf⟩:=h
 obtain ⟨a,l,c,rfl⟩:=okWide_slice Tryz.underlying22 hv
 obtain ⟨l,hr,hg⟩:=rd_nodes fuel _ _ hf
 have h1:=sum_goodS hg
 rw [← szL_sum] at h1
 replace h1 : szL l ≤ 2 * bulk d:=h1
 have h2:=szL_len l
 exact ⟨l,hr.head,by omega,h1⟩

/-! ### options of a disc -/
theorem own : ownKnob Tryz.prog.godebug = none:=by kernel_rfl

/-- A world that holds what is laid. -/
noncomputable def laidWorld (os : Os) : World :=
 let w0:=World.holding Tryz.prog os ⟨#[],#[],[]⟩
 let put (h : Array Obj) (g : Nat) (cs : Array Value) : Array Obj:=h.modify g fun
  | .cells _ t frozen => .cells cs t frozen
  | o => o
 let h1:=put w0.heap 1 (Lib.firstTab.map fun z => Value.int .u8 z).toArray
 let h2:=put h1 2 ((List.range 16).flatMap fun i => [Value.int .u8 (Lib.accLo i),Value.int .u8 (Lib.accHi i)]).toArray
 let h3:=put h2 3 (Lib.pow10Tab.map fun z => Value.int .u64 z).toArray
 let h4:=put h3 4 ([0,1,28,2,29,14,24,3,30,22,20,15,25,17,4,8,31,27,13,23,21,19,16,7,26,12,18,6,11,5,10,9].map fun z => Value.int .u8 z).toArray
 let h5:=put h4 5 ([0,1,56,2,57,49,28,3,61,58,42,50,38,29,17,4,62,47,59,36,45,43,51,22,53,39,33,30,24,18,12,5,63,55,48,27,60,41,37,16,46,35,44,21,52,32,23,11,54,26,40,15,34,20,31,10,25,14,19,9,13,8,7,6].map fun z => Value.int .u8 z).toArray
 { w0 with heap:=h5 }
theorem laid_met (os : Os) (args : Array Value) : laidMet Tryz.prog laidList ((laidWorld os).forCall (fun _ _ => 0) ⟨#[],args,[]⟩).memory :=
 laidMet_of_run' 8 (by kernel_rfl) (by kernel_rfl)
end Go.Tame.V
