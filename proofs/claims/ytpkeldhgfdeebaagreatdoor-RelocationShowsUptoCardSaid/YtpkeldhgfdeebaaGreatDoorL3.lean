/- A program logic of my own over the model, and contracts of this program's functions by it: part 3. No conditions of its own: each theorem states its own. -/
import Derived.Test.YtpkeldhgfdeebaaGreatDoorL2
import Derived.Test.YtpkeldhgfdeebaaGreatDoorShelf
import Derived.BigQuiet
import Derived.Sort.Grow
set_option linter.unnecessarySimpa false
set_option linter.unusedSimpArgs false
set_option linter.unusedVariables false
/- Contracts: the library's,and characters. By program (mk.py). -/
namespace Go.Tame.V
open Go Go.Proofs
variable {W0 : World}
set_option maxRecDepth 10000
set_option linter.unusedVariables false

/-- What the library's start-up has laid. -/
structure LibOk (W0 : World) : Prop where
 utf8 : Lib.Utf8Tabs 1 2 W0
 maxlen : ∃ m,W0.cell? ⟨0,0,none⟩ = some (.int .i64 m)
 pow10 : Lib.TabIs Tryz.prog W0 "internal/strconv.uint64pow10" .u64 Lib.pow10Tab

theorem cell_base {w : World} (hb : Base W0 w) {a : Addr} {v : Value} (h : W0.cell? a = some v) : w.cell? a = some v:=by
 have hlt : a.block < W0.heap.size:=by
  simp only [World.cell?] at h
  rcases Nat.lt_or_ge a.block W0.heap.size with h1 | h1
  ·exact h1
  ·rw [Array.getElem?_eq_none h1] at h; cases h
 rw [← h]; simp only [World.cell?,hb.block _ hlt]
theorem utf8_base {w : World} (hb : Base W0 w) (h : Lib.Utf8Tabs 1 2 W0) : Lib.Utf8Tabs 1 2 w :=
 ⟨fun c hc => cell_base hb (h.1 c hc),fun i hi => ⟨cell_base hb (h.2 i hi).1,cell_base hb (h.2 i hi).2⟩⟩

theorem callable {f : FuncId} {fn : Func} (h : Tryz.prog.funcs[f]? = some fn) (hb : fn.body.isSome = true) (hn : (fn.name == "runtime.NumGoroutine") = false) : Callable Tryz.prog f := ⟨fn, h, hb, hn⟩

def dec (s : List UInt8) : Nat × Nat:=Lib.decodeGo ⟨⟨s⟩⟩
theorem F134 (hL : LibOk W0) (s : List UInt8) : DFun Tryz.prog W0 162 [.str s] (.tup [.int .i32 (dec s).1,.int .i64 (dec s).2]) :=
 .lift (callable Tryz.func162 rfl (by decide +kernel)) rfl fun w hb => (Tryz.utf8_DecodeRuneInString ⟨⟨s⟩⟩ w (utf8_base hb hL.utf8)).mono fun e w' ⟨he,hw⟩ =>
  ⟨_,he,fun C => .tup _ _ rfl fun i d v hd hv => by
   match i with
   | 0 => cases hd; cases hv; exact .int _ _
   | 1 => cases hd; cases hv; exact .int _ _
   | i + 2 => simp at hd,hw⟩
theorem F110 (a b : List UInt8) : DFun Tryz.prog W0 78 [.str a,.str b] (.int .i64 (Lib.compareBytes a b)) :=
 .pure (callable Tryz.func78 rfl (by decide +kernel)) rfl rfl fun w _ => Tryz.strings_Compare ⟨⟨a⟩⟩ ⟨⟨b⟩⟩ w
theorem F119 (s : List UInt8) (c : UInt8) : DFun Tryz.prog W0 84 [.str s,.str [c]] (.bool (decide (0 ≤ Lib.indexByte s c))) :=
 .pure (callable Tryz.func84 rfl (by decide +kernel)) rfl rfl fun w _ => Tryz.strings_Contains_one ⟨⟨s⟩⟩ c w
theorem F122 (s p : List UInt8) : DFun Tryz.prog W0 247 [.str s,.str p] (.str (Lib.trimPrefix s p)) :=
 .pure (callable Tryz.func247 rfl (by decide +kernel)) rfl rfl fun w _ => Tryz.strings_TrimPrefix ⟨⟨s⟩⟩ ⟨⟨p⟩⟩ w
theorem F27 (s : List UInt8) (c : Int) (hs : s.length < 4611686018427387904) : DFun Tryz.prog W0 174 [.str s,.int .u8 c] (.int .i64 (Lib.lastIndexByte ⟨⟨s⟩⟩ c)) :=
 .pure (callable Tryz.func174 rfl (by decide +kernel)) rfl rfl fun w _ => Tryz.strings_LastIndexByte ⟨⟨s⟩⟩ c hs w

def isChar (r : Int) : Bool:=decide (32 ≤ r) && (decide (r ≤ 65533) && (decide (r < 55296) || decide (57343 < r)))
theorem F135 (r : Int) : DFun Tryz.prog W0 163 [.int .i64 r] (.bool (isChar r)):=by
 refine DFun.intro ti_ok Tryz.func163 rfl (by decide +kernel) Tryz.ntmps163 rfl fun Γ => ?_
 refine Tri.seq ?_
 refine Tri.region ti_ok ?_
 conv => whnf
 refine Tri.seq ?_
 refine Tri.region ti_ok ?_
 conv => whnf
 refine ⟨fun h => h,?_⟩
 conv => whnf
 refine ⟨fun h0 h => by first | exact h | (rw [h]; rfl) | (rw [h0,h]; rfl),?_⟩
 conv => whnf
 refine ⟨fun h => h,?_⟩
 conv => whnf
 refine ⟨fun h => h,?_⟩
 conv => whnf
 refine ⟨fun h => h,?_⟩
 conv => whnf
 refine ⟨fun h => h,?_⟩
 conv => whnf
 refine ⟨fun h0 h => by first | exact h | (rw [h]; rfl) | (rw [h0,h]; rfl),?_⟩
 conv => whnf
 refine ⟨fun h0 h => by first | exact h | (rw [h]; rfl) | (rw [h0,h]; rfl),?_⟩
 conv => whnf
 refine Tri.ret ?_
 conv => whnf
 refine DLe.of_eq (congrArg D.bool ?_)
 unfold isChar
 by_cases h1 : 32 ≤ r <;> by_cases h2 : r ≤ 65533 <;> by_cases h3 : r < 55296 <;> simp [h1,h2,h3]
theorem F155 (r : Int) : DFun Tryz.prog W0 252 [.int .i64 r] (.bool (isChar r)):=by
 refine DFun.intro ti_ok Tryz.func252 rfl (by decide +kernel) Tryz.ntmps252 rfl fun Γ => ?_
 refine Tri.seq ?_
 refine Tri.region ti_ok ?_
 conv => whnf
 refine Tri.seq ?_
 refine Tri.region ti_ok ?_
 conv => whnf
 refine ⟨fun h => h,?_⟩
 conv => whnf
 refine ⟨fun h0 h => by first | exact h | (rw [h]; rfl) | (rw [h0,h]; rfl),?_⟩
 conv => whnf
 refine ⟨fun h => h,?_⟩
 conv => whnf
 refine ⟨fun h => h,?_⟩
 conv => whnf
 refine ⟨fun h => h,?_⟩
 conv => whnf
 refine ⟨fun h => h,?_⟩
 conv => whnf
 refine ⟨fun h0 h => by first | exact h | (rw [h]; rfl) | (rw [h0,h]; rfl),?_⟩
 conv => whnf
 refine ⟨fun h0 h => by first | exact h | (rw [h]; rfl) | (rw [h0,h]; rfl),?_⟩
 conv => whnf
 refine Tri.ret ?_
 conv => whnf
 refine DLe.of_eq (congrArg D.bool ?_)
 unfold isChar
 by_cases h1 : 32 ≤ r <;> by_cases h2 : r ≤ 65533 <;> by_cases h3 : r < 55296 <;> simp [h1,h2,h3]

theorem decode_size (s : List UInt8) (h : s ≠ []) : 1 ≤ (dec s).2 ∧ (dec s).2 ≤ s.length ∧ (dec s).2 ≤ 4 ∧ (dec s).1 ≤ 1114111:=by
 have h0 : ¬ (⟨⟨s⟩⟩ : ByteArray).size = 0:=fun e => h (List.eq_nil_of_length_eq_zero e)
 have hl : (⟨⟨s⟩⟩ : ByteArray).size = s.length:=rfl
 have hp : 0 < s.length:=List.length_pos_iff.2 h
 unfold dec Lib.decodeGo
 rw [if_neg h0]
 unfold Utf8.decode
 dsimp only
 rw [hl]
 have hre : Utf8.runeError = 65533:=rfl
 repeat' split
 all_goals simp only [hre,Bool.and_eq_true,Bool.or_eq_true,decide_eq_true_eq,ge_iff_le,Utf8.valid] at *
 all_goals omega
def badAt (s : List UInt8) : Bool:=!isChar (dec s).1 || ((dec s).1 == 65533 && (dec s).2 == 1)
theorem badAt_eq (s : List UInt8) : badAt s = (bif !isChar ((dec s).1 : Nat) then true else bif (((dec s).1 : Nat) : Int) == 65533 then (((dec s).2 : Nat) : Int) == 1 else false):=by
 unfold badAt
 have h1 : ((((dec s).1 : Nat) : Int) == 65533) = ((dec s).1 == 65533):=by rw [Bool.eq_iff_iff]; simp; omega
 have h2 : ((((dec s).2 : Nat) : Int) == 1) = ((dec s).2 == 1):=by rw [Bool.eq_iff_iff]; simp; omega
 rw [h1,h2]
 cases isChar ((dec s).1 : Nat) <;> cases (dec s).1 == 65533 <;> rfl
def charsGo : Nat → List UInt8 → Option (List Int)
 | 0,s => if s = [] then some [] else none
 | f + 1,s => if s = [] then some [] else if badAt s then none else (charsGo f (s.drop (dec s).2)).map (((dec s).1 : Int)::·)
theorem charsGo_fuel : ∀ (f : Nat) (s : List UInt8),s.length ≤ f → charsGo f s = charsGo s.length s
 | 0,s,h => by have : s = []:=List.eq_nil_of_length_eq_zero (by omega); subst this; rfl
 | f + 1,s,h => by
  by_cases hs : s = []
  ·subst hs; rfl
  ·obtain ⟨h1,h2,_⟩:=decode_size s hs
   have hp : 0 < s.length:=List.length_pos_iff.2 hs
   obtain ⟨n,hn⟩ : ∃ n,s.length = n + 1:=⟨s.length - 1,by omega⟩
   rw [hn]
   simp only [charsGo,hs,if_false]
   have hdl : (s.drop (dec s).2).length = s.length - (dec s).2:=by simp
   rw [charsGo_fuel f (s.drop (dec s).2) (by omega),charsGo_fuel n (s.drop (dec s).2) (by omega)]
def charsP (s : List UInt8) : Option (List Int):=charsGo s.length s
theorem charsP_cons {s : List UInt8} (hs : s ≠ []) : charsP s = if badAt s then none else (charsP (s.drop (dec s).2)).map (((dec s).1 : Int)::·):=by
 obtain ⟨h1,h2,_⟩:=decode_size s hs
 have hp : 0 < s.length:=List.length_pos_iff.2 hs
 obtain ⟨n,hn⟩ : ∃ n,s.length = n + 1:=⟨s.length - 1,by omega⟩
 have hdl : (s.drop (dec s).2).length = s.length - (dec s).2:=by simp
 rw [charsP,hn]
 simp only [charsGo,hs,if_false]
 rw [charsGo_fuel n _ (by omega)]; rfl
theorem charsP_len : ∀ (n : Nat) (s : List UInt8),s.length ≤ n → ∀ l,charsP s = some l → l.length ≤ s.length ∧ s.length ≤ 4 * l.length
 | 0,s,h,l,hl => by
  have : s = []:=List.eq_nil_of_length_eq_zero (by omega)
  subst this; cases hl; simp
 | n + 1,s,h,l,hl => by
  by_cases hs : s = []
  ·subst hs; cases hl; simp
  ·obtain ⟨h1,h2,h3,_⟩:=decode_size s hs
   rw [charsP_cons hs] at hl
   split at hl
   ·cases hl
   ·cases hd : charsP (s.drop (dec s).2) with
    | none => rw [hd] at hl; cases hl
    | some l' =>
     rw [hd] at hl; cases hl
     have hdl : (s.drop (dec s).2).length = s.length - (dec s).2:=by simp
     have:=charsP_len n (s.drop (dec s).2) (by omega) l' hd
     simp only [List.length_cons]; omega
/-- The characters of a text,and the error. -/
def chars (s : List UInt8) : List Int × Int:=if 65536 < s.length then ([],7) else match charsP s with | some l => (l,0) | none => ([],3)
def encInts (k : IntKind) (l : List Int) : List D:=l.map (D.int k)

theorem F120 (hL : LibOk W0) (s : List UInt8) (hs : s.length < 1000000000) : DFun Tryz.prog W0 120 [.str s] (.tup [.sl .none 1 (encInts .i64 (chars s).1),.int .i64 (chars s).2]):=by
 refine DFun.intro ti_ok Tryz.func120 rfl (by decide +kernel) Tryz.ntmps120 rfl fun Γ => ?_
 refine Tri.seq ?_
 refine Tri.region ti_ok ?_
 conv => whnf
 refine Tri.seq ?_
 refine Tri.seq ?_
 refine Tri.region ti_ok ?_
 conv => whnf
 refine Tri.cond _ rfl (fun hc => ?_) (fun hc => ?_)
 ·refine Tri.seq ?_
  refine Tri.region ti_ok ?_
  conv => whnf
  refine Tri.ret ?_
  conv => whnf
  have : chars s = ([],7):=by rw [chars,if_pos (by simp at hc; omega)]
  rw [this]
  exact ⟨DLe.nil,.refl _,trivial⟩
 ·refine Tri.skip ?_
  conv => whnf
  have hs2 : ¬ 65536 < s.length:=by simp at hc; omega
  refine Tri.seq ?_
  refine Tri.regionX ti_ok ?_
  conv => whnf
  refine .inr (XOp.makeOwn ti_ok (n:=s.length) (k1:=.i64) (k2:=.i64) rfl rfl rfl rfl rfl rfl (by show 8 * _ ≤ _; omega) (by omega) fun v => ?_)
  conv => whnf
  refine Tri.seq ?_
  refine Tri.block ?_
  refine Tri.loopK (α:={ x : List UInt8 × List Int // charsP s = (charsP x.1).map (x.2 ++ ·) ∧ x.1.length + x.2.length ≤ s.length } × Value)
   (fun x => [(0,.str x.1.1.1),(4,.sl (.own 1000 x.2) 1 (encInts .i64 x.1.1.2))]) (fun x => [(1000,.own x.2 (encInts .i64 x.1.1.2).length 1 3)]) (fun x => x.1.1.1.length) (⟨(s,[]),by simp,by simp⟩,v) [(1000,12)]
   ⟨⟨.refl _,DLe.own _ _,trivial⟩,rfl,rfl,rfl,trivial⟩ ?_
  rintro ⟨⟨⟨r,acc⟩,hch,hlen⟩,v⟩
  dsimp only at hch hlen ⊢
  refine Tri.seq ?_
  refine Tri.seq ?_
  refine Tri.region ti_ok ?_
  conv => whnf
  refine Tri.cond _ rfl (fun hc => ?_) (fun hc => ?_)
  ·refine Tri.skip ?_
   conv => whnf
   have hr : r ≠ []:=by intro e; subst e; simp at hc
   obtain ⟨hd1,hd2,hd3,hd4⟩:=decode_size r hr
   have hal : (encInts .i64 acc).length = acc.length:=by simp [encInts]
   refine Tri.block ?_
   refine Tri.seq ?_
   refine Tri.region ti_ok ?_
   conv => whnf
   refine ⟨_,_,fun _ => F134 hL r,⟨.refl _,trivial⟩,?_⟩
   conv => whnf
   refine Tri.seq ?_
   refine Tri.seq ?_
   refine Tri.region ti_ok ?_
   conv => whnf
   refine .inl ⟨by simp [InR]; omega,?_⟩
   conv => whnf
   refine ⟨_,_,fun _ => F135 _,⟨.refl _,trivial⟩,?_⟩
   conv => whnf
   refine ⟨fun h => h,?_⟩
   conv => whnf
   refine ⟨fun h => h,?_⟩
   conv => whnf
   refine ⟨fun h => h,?_⟩
   conv => whnf
   refine ⟨fun h => h,?_⟩
   conv => whnf
   refine ⟨fun h0 h => by first | exact h | (rw [h]; rfl) | (rw [h0,h]; rfl),?_⟩
   conv => whnf
   refine ⟨fun h0 h => by first | exact h | (rw [h]; rfl) | (rw [h0,h]; rfl),?_⟩
   conv => whnf
   refine Tri.cond _ rfl (fun hc => ?_) (fun hc => ?_)
   ·refine Tri.seq ?_
    refine Tri.region ti_ok ?_
    conv => whnf
    refine Tri.ret ?_
    conv => whnf
    have hbad : badAt r = true:=by rw [badAt_eq]; exact hc
    have : chars s = ([],3):=by rw [chars,if_neg hs2,hch,charsP_cons hr,if_pos hbad]; rfl
    rw [this]
    exact ⟨DLe.nil,.refl _,trivial⟩
   ·refine Tri.skip ?_
    have hbad : badAt r = false:=by rw [badAt_eq]; exact hc
    conv => whnf
    refine Tri.seq ?_
    refine Tri.regionX ti_ok ?_
    conv => whnf
    refine .inl ?_
    conv => whnf
    refine .inl ⟨by simp [InR]; omega,?_⟩
    conv => whnf
    refine ⟨trivial,?_⟩
    conv => whnf
    refine .inl ?_
    conv => whnf
    refine ⟨rfl,rfl,?_⟩
    conv => whnf
    refine ⟨by show (_ + 1) * 8 ≤ _; omega,by show _ + 1 ≤ _; omega,(fun h => by cases h),fun v => ?_⟩
    conv => whnf
    refine Tri.region ti_ok ?_
    conv => whnf
    refine ⟨fun _ => by simp; omega,?_⟩
    conv => whnf
    exact ⟨(⟨(r.drop (dec r).2,acc ++ [((dec r).1 : Int)]),by rw [hch,charsP_cons hr,hbad]; simp [Function.comp_def],by simp; omega⟩,v),[(1000,37)],by show (r.drop (dec r).2).length < r.length; simp; omega,⟨DLe.of_eq (congrArg D.str (by simp)),DLe.ownEq (by simp [encInts]; rfl),trivial⟩,rfl,rfl,ownH (by simp [encInts]),trivial⟩
  ·refine Tri.exit ?_
   conv => whnf
   refine Tri.seq ?_
   refine Tri.region ti_ok ?_
   conv => whnf
   refine Tri.ret ?_
   conv => whnf
   have hr : r = []:=by simpa using hc
   subst hr
   have : chars s = (acc,0):=by rw [chars,if_neg hs2,hch]; simp [charsP,charsGo]
   rw [this]
   exact ⟨DLe.unown,.refl _,trivial⟩
end Go.Tame.V
/- Contracts: the reference's characters. By program (mk.py). -/
namespace Go.Tame.V
open Go Go.Proofs
variable {W0 : World}
set_option maxRecDepth 10000
set_option linter.unusedVariables false
set_option linter.unusedSimpArgs false

def u8i (n : Int) : UInt8:=UInt8.ofNat n.toNat
theorem u8_row (l : List Int) (h : ∀ n ∈ l,0 ≤ n ∧ n ≤ 255) : l.map (D.int .u8) = (l.map u8i).map fun c => D.int .u8 c.toNat:=by
 rw [List.map_map]
 apply List.map_congr_left
 intro n hn
 have:=h n hn
 simp only [Function.comp,u8i]
 congr 1
 simp; omega
def enc17 (v : Int) : List Int :=
 if v < 128 then [v] else if v < 2048 then [192 + v.tdiv 64,128 + v.tmod 64] else [224 + v.tdiv 4096,128 + (v.tdiv 64).tmod 64,128 + v.tmod 64]
def enc17s (v : Int) : List UInt8:=(enc17 v).map u8i
theorem tdiv_eq {v k : Int} (h : 0 ≤ v) (hk : 0 < k) : v.tdiv k = v / k:=Int.tdiv_eq_ediv_of_nonneg h
theorem tmod_eq {v k : Int} (h : 0 ≤ v) : v.tmod k = v % k:=Int.tmod_eq_emod_of_nonneg h

theorem F156 (v : Int) (h0 : 0 ≤ v) (h1 : v ≤ 65535) : DFun Tryz.prog W0 253 [.int .i64 v] (.str (enc17s v)):=by
 refine DFun.intro ti_ok Tryz.func253 rfl (by decide +kernel) Tryz.ntmps253 rfl fun Γ => ?_
 refine Tri.seq ?_
 refine Tri.region ti_ok ?_
 conv => whnf
 refine Tri.seq ?_
 refine Tri.seq ?_
 refine Tri.region ti_ok ?_
 conv => whnf
 refine Tri.cond _ rfl (fun hc => ?_) (fun hc => ?_)
 ·refine Tri.seq ?_
  refine Tri.regionX ti_ok ?_
  conv => whnf
  refine .inl ?_
  conv => whnf
  refine .inl ⟨by simp at hc; simp [InR]; omega,?_⟩
  conv => whnf
  refine ⟨trivial,?_⟩
  conv => whnf
  refine .inr (XOp.bytesStr ti_ok (bs:=[v].map u8i) (tg:=.full) rfl rfl rfl rfl rfl rfl (congrArg (D.sl .full 1) (u8_row [v] (by simp at hc ⊢; omega))) ?_)
  conv => whnf
  refine Tri.ret ?_
  conv => whnf
  exact DLe.of_eq (congrArg D.str (by rw [enc17s,enc17,if_pos (by simpa using hc)]))
 ·refine Tri.skip ?_
  conv => whnf
  refine Tri.seq ?_
  refine Tri.seq ?_
  refine Tri.region ti_ok ?_
  conv => whnf
  have e1:=tdiv_eq h0 (k:=64) (by omega)
  have e2:=tmod_eq (k:=64) h0
  have e3:=tdiv_eq h0 (k:=4096) (by omega)
  have e4:=tmod_eq (v:=v.tdiv 64) (k:=64) (by omega)
  refine Tri.cond _ rfl (fun hc => ?_) (fun hc => ?_)
  ·refine Tri.seq ?_
   refine Tri.regionX ti_ok ?_
   conv => whnf
   refine ⟨fun _ => by simp,?_⟩
   conv => whnf
   refine .inl ⟨fun _ => by simp at hc; simp only [InR]; omega,?_⟩
   conv => whnf
   refine .inl ⟨fun _ => by simp at hc; simp only [InR]; omega,?_⟩
   conv => whnf
   refine .inl ?_
   conv => whnf
   refine .inl ⟨by simp at hc; simp only [InR]; omega,?_⟩
   conv => whnf
   refine ⟨fun _ => by simp,?_⟩
   conv => whnf
   refine .inl ⟨fun _ => by simp at hc; simp only [InR]; omega,?_⟩
   conv => whnf
   refine .inl ?_
   conv => whnf
   refine .inl ⟨by simp at hc; simp only [InR]; omega,?_⟩
   conv => whnf
   refine ⟨trivial,?_⟩
   conv => whnf
   refine .inr (XOp.bytesStr ti_ok (bs:=[192 + v.tdiv 64,128 + v.tmod 64].map u8i) (tg:=.full) rfl rfl rfl rfl rfl rfl (congrArg (D.sl .full 1) (u8_row [192 + v.tdiv 64,128 + v.tmod 64] (by simp at hc ⊢; omega))) ?_)
   conv => whnf
   refine Tri.ret ?_
   conv => whnf
   exact DLe.of_eq (congrArg D.str (by simp only [decide_eq_true_eq,decide_eq_false_iff_not] at *; rw [enc17s,enc17,if_neg (by assumption),if_pos (by assumption)]))
  ·refine Tri.skip ?_
   conv => whnf
   refine Tri.seq ?_
   refine Tri.regionX ti_ok ?_
   conv => whnf
   refine ⟨fun _ => by simp,?_⟩
   conv => whnf
   refine .inl ⟨fun _ => by simp at hc; simp only [InR]; omega,?_⟩
   conv => whnf
   refine .inl ⟨fun _ => by simp at hc; simp only [InR]; omega,?_⟩
   conv => whnf
   refine .inl ?_
   conv => whnf
   refine .inl ⟨by simp at hc; simp only [InR]; omega,?_⟩
   conv => whnf
   refine ⟨fun _ => by simp,?_⟩
   conv => whnf
   refine .inl ⟨fun _ => by simp at hc; simp only [InR]; omega,?_⟩
   conv => whnf
   refine ⟨fun _ => by simp,?_⟩
   conv => whnf
   refine .inl ⟨fun _ => by simp at hc; simp only [InR]; omega,?_⟩
   conv => whnf
   refine .inl ?_
   conv => whnf
   refine .inl ⟨by simp at hc; simp only [InR]; omega,?_⟩
   conv => whnf
   refine ⟨fun _ => by simp,?_⟩
   conv => whnf
   refine .inl ⟨fun _ => by simp at hc; simp only [InR]; omega,?_⟩
   conv => whnf
   refine .inl ?_
   conv => whnf
   refine .inl ⟨by simp at hc; simp only [InR]; omega,?_⟩
   conv => whnf
   refine ⟨trivial,?_⟩
   conv => whnf
   refine .inr (XOp.bytesStr ti_ok (bs:=[224 + v.tdiv 4096,128 + (v.tdiv 64).tmod 64,128 + v.tmod 64].map u8i) (tg:=.full) rfl rfl rfl rfl rfl rfl (congrArg (D.sl .full 1) (u8_row [224 + v.tdiv 4096,128 + (v.tdiv 64).tmod 64,128 + v.tmod 64] (by simp at hc ⊢; omega))) ?_)
   conv => whnf
   refine Tri.ret ?_
   conv => whnf
   exact DLe.of_eq (congrArg D.str (by simp only [decide_eq_true_eq,decide_eq_false_iff_not] at *; rw [enc17s,enc17,if_neg (by assumption),if_neg (by assumption)]))

def bA (s : List UInt8) (k : Nat) : Int:=((s.getD k 0).toNat : Nat)
def val12 (s : List UInt8) (i : Nat) : Int:=if i = 2 then (bA s 0 - 192) * 64 + bA s 1 - 128 else bA s 0
def valN (s : List UInt8) (i : Nat) : Int:=if i = 3 then (bA s 0 - 224) * 4096 + (bA s 1 - 128) * 64 + bA s 2 - 128 else val12 s i
def hit (s : List UInt8) (i : Nat) : Bool:=isChar (valN s i) && enc17s (valN s i) == s.take i
theorem bA_le (s : List UInt8) (k : Nat) : 0 ≤ bA s k ∧ bA s k ≤ 255:=by
 unfold bA; have:=(s.getD k 0).toNat_lt; omega
theorem bA_get (s : List UInt8) {k : Nat} (h : k < s.length) : s[k]? = some (s.getD k 0):=by simp [List.getD,h]
/-- What 'first' hands back: the first of three tries that fits. -/
def first (s : List UInt8) : Int × Int:=if 1 ≤ s.length ∧ hit s 1 = true then (valN s 1,1) else if 2 ≤ s.length ∧ hit s 2 = true then (valN s 2,2) else if 3 ≤ s.length ∧ hit s 3 = true then (valN s 3,3) else (0,0)
theorem isChar_in {r : Int} (h : isChar r = true) : 32 ≤ r ∧ r ≤ 65533:=by
 unfold isChar at h; simp only [Bool.and_eq_true,decide_eq_true_eq] at h; exact ⟨h.1,h.2.1⟩
theorem first_hit {s : List UInt8} {i : Nat} (h1 : 1 ≤ i) (h3 : i ≤ 3) (hl : i ≤ s.length) (hh : hit s i = true) (hno : ∀ m,1 ≤ m → m < i → hit s m = false) : first s = (valN s i,(i : Int)):=by
 unfold first
 match i,h1,h3 with
 | 1,_,_ => rw [if_pos ⟨hl,hh⟩]; rfl
 | 2,_,_ => rw [if_neg (by rw [hno 1 (by omega) (by omega)]; simp),if_pos ⟨hl,hh⟩]; rfl
 | 3,_,_ => rw [if_neg (by rw [hno 1 (by omega) (by omega)]; simp),if_neg (by rw [hno 2 (by omega) (by omega)]; simp),if_pos ⟨hl,hh⟩]; rfl
theorem first_none {s : List UInt8} {i : Nat} (hi : 3 < i ∨ s.length < i) (hno : ∀ m,1 ≤ m → m < i → hit s m = false) : first s = (0,0):=by
 unfold first
 rw [if_neg,if_neg,if_neg]
 all_goals rintro ⟨h1,h2⟩
 ·rw [hno 3 (by omega) (by omega)] at h2; cases h2
 ·rw [hno 2 (by omega) (by omega)] at h2; cases h2
 ·rw [hno 1 (by omega) (by omega)] at h2; cases h2

theorem F130 (s : List UInt8) (hs : s.length < 1000000000) : DFun Tryz.prog W0 230 [.str s] (.tup [.int .i64 (first s).1,.int .i64 (first s).2]):=by
 refine DFun.intro ti_ok Tryz.func230 rfl (by decide +kernel) Tryz.ntmps230 rfl fun Γ => ?_
 refine Tri.seq ?_
 refine Tri.region ti_ok ?_
 conv => whnf
 refine Tri.seq ?_
 refine Tri.seq ?_
 refine Tri.region ti_ok ?_
 conv => whnf
 refine Tri.block ?_
 refine Tri.loop (α:={ i : Nat // 1 ≤ i ∧ i ≤ 4 ∧ ∀ m,1 ≤ m → m < i → hit s m = false }) (fun x => [(0,.str s),(4,.int .i64 x.1)]) (fun _ => []) (fun x => 4 - x.1) ⟨1,by omega,by omega,fun m h1 h2 => by omega⟩ ⟨.refl _,.refl _,trivial⟩ trivial ?_
 rintro ⟨i,hi1,hi4,hno⟩
 dsimp only
 refine Tri.seq ?_
 refine Tri.seq ?_
 refine Tri.region ti_ok ?_
 conv => whnf
 refine ⟨fun h => h,?_⟩
 conv => whnf
 refine ⟨fun h => h,?_⟩
 conv => whnf
 refine ⟨fun h => h,?_⟩
 conv => whnf
 refine ⟨fun h0 h => by first | exact h | (rw [h]; rfl) | (rw [h0,h]; rfl),?_⟩
 conv => whnf
 refine Tri.cond _ rfl (fun hc => ?_) (fun hc => ?_)
 ·refine Tri.skip ?_
  conv => whnf
  have hi : i ≤ 3 ∧ i ≤ s.length:=by
   cases h3 : decide ((i : Int) ≤ 3) <;> rw [h3] at hc <;> simp at h3 hc <;> omega
  have hb0:=bA_le s 0
  have hb1:=bA_le s 1
  have hb2:=bA_le s 2
  refine Tri.seq ?_
  refine Tri.block ?_
  refine Tri.seq ?_
  refine Tri.region ti_ok ?_
  conv => whnf
  refine ⟨s.getD 0 0,fun _ => ⟨by omega,bA_get s (by omega)⟩,?_⟩
  conv => whnf
  refine .inl ⟨by have:=(s.getD 0 0).toNat_lt; simp only [InR]; omega,?_⟩
  conv => whnf
  refine Tri.joinK (α:=Unit) (fun x => [(0,.str s),(4,.int .i64 i),(5,.int .i64 (val12 s i))]) (fun x => []) ?_ ?_
  ·refine Tri.seq ?_
   refine Tri.region ti_ok ?_
   conv => whnf
   refine Tri.cond _ rfl (fun hc => ?_) (fun hc => ?_)
   ·refine Tri.draw ti_ok mixed (by kernel_rfl) ?_
    conv => whnf
    refine ⟨s.getD 0 0,fun _ => ⟨by omega,bA_get s (by omega)⟩,?_⟩
    conv => whnf
    refine .inl ⟨by have:=(s.getD 0 0).toNat_lt; simp only [InR]; omega,?_⟩
    conv => whnf
    refine .inl ⟨fun _ => by have:=(s.getD 0 0).toNat_lt; simp only [InR]; omega,?_⟩
    conv => whnf
    refine .inl ⟨fun _ => by have:=(s.getD 0 0).toNat_lt; simp only [InR]; omega,?_⟩
    conv => whnf
    refine ⟨s.getD 1 0,fun _ => ⟨by omega,bA_get s (by simp at hc; omega)⟩,?_⟩
    conv => whnf
    refine .inl ⟨by have:=(s.getD 1 0).toNat_lt; simp only [InR]; omega,?_⟩
    conv => whnf
    refine .inl ⟨fun _ => by have:=(s.getD 0 0).toNat_lt; have:=(s.getD 1 0).toNat_lt; simp only [InR]; omega,?_⟩
    conv => whnf
    refine .inl ⟨fun _ => by have:=(s.getD 0 0).toNat_lt; have:=(s.getD 1 0).toNat_lt; simp only [InR]; omega,?_⟩
    conv => whnf
    have h2 : i = 2:=by simp at hc; omega
    exact ⟨(),[],⟨.refl _,.refl _,intDLe (by rw [val12,if_pos h2]; rfl),trivial⟩,rfl,trivial⟩
   ·refine Tri.skip ?_
    conv => whnf
    have h2 : i ≠ 2:=by simp at hc; omega
    exact ⟨(),[],⟨.refl _,.refl _,intDLe (by rw [val12,if_neg h2]; rfl),trivial⟩,rfl,trivial⟩
  ·rintro ⟨⟩
   refine Tri.joinK (α:=Unit) (fun x => [(0,.str s),(4,.int .i64 i),(5,.int .i64 (valN s i))]) (fun x => []) ?_ ?_
   ·refine Tri.seq ?_
    refine Tri.region ti_ok ?_
    conv => whnf
    refine Tri.cond _ rfl (fun hc => ?_) (fun hc => ?_)
    ·refine Tri.draw ti_ok mixed (by kernel_rfl) ?_
     conv => whnf
     refine ⟨s.getD 0 0,fun _ => ⟨by omega,bA_get s (by omega)⟩,?_⟩
     conv => whnf
     have hu0:=(s.getD 0 0).toNat_lt
     have hu1:=(s.getD 1 0).toNat_lt
     have hu2:=(s.getD 2 0).toNat_lt
     refine .inl ⟨by simp only [InR]; omega,?_⟩
     conv => whnf
     refine .inl ⟨fun _ => by simp only [InR]; omega,?_⟩
     conv => whnf
     refine .inl ⟨fun _ => by simp only [InR]; omega,?_⟩
     conv => whnf
     refine ⟨s.getD 1 0,fun _ => ⟨by omega,bA_get s (by simp at hc; omega)⟩,?_⟩
     conv => whnf
     refine .inl ⟨by simp only [InR]; omega,?_⟩
     conv => whnf
     refine .inl ⟨fun _ => by simp only [InR]; omega,?_⟩
     conv => whnf
     refine .inl ⟨fun _ => by simp only [InR]; omega,?_⟩
     conv => whnf
     refine .inl ⟨fun _ => by simp only [InR]; omega,?_⟩
     conv => whnf
     refine ⟨s.getD 2 0,fun _ => ⟨by omega,bA_get s (by simp at hc; omega)⟩,?_⟩
     conv => whnf
     refine .inl ⟨by simp only [InR]; omega,?_⟩
     conv => whnf
     refine .inl ⟨fun _ => by simp only [InR]; omega,?_⟩
     conv => whnf
     refine .inl ⟨fun _ => by simp only [InR]; omega,?_⟩
     conv => whnf
     have h2 : i = 3:=by simp at hc; omega
     exact ⟨(),[],⟨.refl _,.refl _,intDLe (by rw [valN,if_pos h2]; rfl),trivial⟩,rfl,trivial⟩
    ·refine Tri.skip ?_
     conv => whnf
     have h2 : i ≠ 3:=by simp at hc; omega
     exact ⟨(),[],⟨.refl _,.refl _,intDLe (by rw [valN,if_neg h2]),trivial⟩,rfl,trivial⟩
   ·rintro ⟨⟩
    refine Tri.seq ?_
    refine Tri.draw ti_ok mixed (by kernel_rfl) ?_
    conv => whnf
    refine ⟨_,_,fun _ => F155 _,⟨.refl _,trivial⟩,?_⟩
    conv => whnf
    refine ⟨fun h => h,?_⟩
    conv => whnf
    refine ⟨[.int .i64 (valN s i)],_,fun h => F156 _ (by have:=isChar_in h; omega) (by have:=isChar_in h; omega),⟨.refl _,trivial⟩,?_⟩
    conv => whnf
    refine ⟨fun h => h,?_⟩
    conv => whnf
    refine ⟨fun h => h,?_⟩
    conv => whnf
    refine ⟨fun h => by omega,?_⟩
    conv => whnf
    refine ⟨fun h => h,?_⟩
    conv => whnf
    refine ⟨fun h => h,?_⟩
    conv => whnf
    refine ⟨fun h0 h => by first | exact h | (rw [h]; rfl) | (rw [h0,h]; rfl),?_⟩
    conv => whnf
    have hhit : hit s i = (bif isChar (valN s i) then enc17s (valN s i) == (s.take (i : Int).toNat).drop (Int.toNat 0) else false):=by
     rw [hit,Int.toNat_natCast]; cases isChar (valN s i) <;> rfl
    refine Tri.cond _ rfl (fun hc => ?_) (fun hc => ?_)
    ·refine Tri.seq ?_
     refine Tri.region ti_ok ?_
     conv => whnf
     refine Tri.ret ?_
     conv => whnf
     have:=first_hit hi1 hi.1 hi.2 (hhit.trans hc) hno
     exact ⟨intDLe (by rw [this]),intDLe (by rw [this]),trivial⟩
    ·refine Tri.skip ?_
     conv => whnf
     refine Tri.region ti_ok ?_
     conv => whnf
     refine .inl ⟨fun _ => by simp [InR]; omega,?_⟩
     conv => whnf
     exact ⟨⟨i + 1,by omega,by omega,fun m h1 h2 => (Nat.lt_succ_iff_lt_or_eq.1 h2).elim (hno m h1) fun e => by subst e; exact hhit.trans hc⟩,by show 4 - (i + 1) < 4 - i; omega,⟨.refl _,.refl _,trivial⟩,trivial⟩
 ·refine Tri.exit ?_
  conv => whnf
  refine Tri.seq ?_
  refine Tri.region ti_ok ?_
  conv => whnf
  refine Tri.ret ?_
  conv => whnf
  have hi : 3 < i ∨ s.length < i:=by
   cases h3 : decide ((i : Int) ≤ 3) <;> rw [h3] at hc <;> simp at h3 hc <;> omega
  have:=first_none hi hno
  exact ⟨intDLe (by rw [this]),intDLe (by rw [this]),trivial⟩
end Go.Tame.V
/- Plain laws of characters; contracts: the reference's characters,names. By program (mk.py). -/
namespace Go.Tame.V
open Go Go.Proofs
variable {W0 : World}
set_option maxRecDepth 10000
set_option linter.unusedVariables false
set_option linter.unusedSimpArgs false

theorem take1 {s : List UInt8} (h : 1 ≤ s.length) : s.take 1 = [s.getD 0 0]:=by match s,h with | a::t,_ => rfl
theorem take2 {s : List UInt8} (h : 2 ≤ s.length) : s.take 2 = [s.getD 0 0,s.getD 1 0]:=by match s,h with | a::b::t,_ => rfl
theorem take3 {s : List UInt8} (h : 3 ≤ s.length) : s.take 3 = [s.getD 0 0,s.getD 1 0,s.getD 2 0]:=by match s,h with | a::b::c::t,_ => rfl
theorem get_bang (s : List UInt8) (k : Nat) : (⟨⟨s⟩⟩ : ByteArray).get! k = s.getD k 0:=by
 show (⟨s⟩ : Array UInt8)[k]! = _
 rw [getElem!_def]
 simp [List.getD]
 cases h : s[k]? <;> rfl
/-- The decoder,said of bytes as numbers. -/
def decN (n b0 b1 b2 b3 : Nat) : Nat × Nat :=
 if b0 < 128 then (b0,1)
 else if b0 / 32 = 6 ∧ 1 < n ∧ b1 / 64 = 2 then
  if (b0 % 32) * 64 + b1 % 64 ≥ 128 then ((b0 % 32) * 64 + b1 % 64,2) else (65533,1)
 else if b0 / 16 = 14 ∧ (1 < n ∧ b1 / 64 = 2) ∧ 2 < n ∧ b2 / 64 = 2 then
  if (b0 % 16) * 4096 + (b1 % 64) * 64 + b2 % 64 ≥ 2048 ∧ ((b0 % 16) * 4096 + (b1 % 64) * 64 + b2 % 64 < 55296 ∨ 57344 ≤ (b0 % 16) * 4096 + (b1 % 64) * 64 + b2 % 64)
  then ((b0 % 16) * 4096 + (b1 % 64) * 64 + b2 % 64,3) else (65533,1)
 else if b0 / 8 = 30 ∧ (1 < n ∧ b1 / 64 = 2) ∧ (2 < n ∧ b2 / 64 = 2) ∧ 3 < n ∧ b3 / 64 = 2 then
  if (b0 % 8) * 262144 + (b1 % 64) * 4096 + (b2 % 64) * 64 + b3 % 64 ≥ 65536 ∧ (b0 % 8) * 262144 + (b1 % 64) * 4096 + (b2 % 64) * 64 + b3 % 64 ≤ 1114111
  then ((b0 % 8) * 262144 + (b1 % 64) * 4096 + (b2 % 64) * 64 + b3 % 64,4) else (65533,1)
 else (65533,1)
theorem dec_eq {s : List UInt8} (h : s ≠ []) : dec s = decN s.length (s.getD 0 0).toNat (s.getD 1 0).toNat (s.getD 2 0).toNat (s.getD 3 0).toNat:=by
 have h0 : ¬ (⟨⟨s⟩⟩ : ByteArray).size = 0:=fun e => h (List.eq_nil_of_length_eq_zero e)
 have hl : (⟨⟨s⟩⟩ : ByteArray).size = s.length:=rfl
 unfold dec Lib.decodeGo
 rw [if_neg h0]
 unfold Utf8.decode
 dsimp only
 simp only [get_bang,Nat.zero_add,hl]
 have hu0:=(s.getD 0 0).toNat_lt
 generalize (s.getD 0 0).toNat = b0 at *
 generalize (s.getD 1 0).toNat = b1
 generalize (s.getD 2 0).toNat = b2
 generalize (s.getD 3 0).toNat = b3
 unfold decN
 have hre : Utf8.runeError = 65533:=rfl
 simp only [hre,Bool.and_eq_true,Bool.or_eq_true,decide_eq_true_eq,ge_iff_le,Utf8.valid,beq_iff_eq,and_assoc]
 repeat' split
 all_goals first | rfl | (exfalso; omega) | skip

def bytesOf (v : Int) (b0 b1 b2 : Int) : Nat → Prop
 | 1 => v < 128 ∧ b0 = v
 | 2 => 128 ≤ v ∧ v < 2048 ∧ b0 = 192 + v / 64 ∧ b1 = 128 + v % 64
 | 3 => 2048 ≤ v ∧ b0 = 224 + v / 4096 ∧ b1 = 128 + v / 64 % 64 ∧ b2 = 128 + v % 64
 | _ => False
theorem u8i_eq {n : Int} {b : UInt8} (h0 : 0 ≤ n) (h1 : n ≤ 255) : u8i n = b ↔ ((b.toNat : Nat) : Int) = n:=by
 unfold u8i
 rw [← UInt8.toNat_inj]
 have hb:=b.toNat_lt
 simp
 omega
theorem enc_take {s : List UInt8} {i : Nat} {v : Int} (h0 : 0 ≤ v) (h1 : v ≤ 65535) (hi : 1 ≤ i) (hi3 : i ≤ 3) (hl : i ≤ s.length) : enc17s v = s.take i ↔ bytesOf v (bA s 0) (bA s 1) (bA s 2) i:=by
 have e1:=tdiv_eq h0 (k:=64) (by omega)
 have e2:=tmod_eq (k:=64) h0
 have e3:=tdiv_eq h0 (k:=4096) (by omega)
 have e4:=tmod_eq (v:=v.tdiv 64) (k:=64) (by omega)
 unfold enc17s enc17
 match i,hi,hi3 with
 | 1,_,_ =>
  rw [take1 hl]
  unfold bytesOf bA
  split
  ·simp only [List.map_cons,List.map_nil,List.cons.injEq,and_true]
   rw [u8i_eq (by omega) (by omega)]; omega
  ·split <;> simp <;> omega
 | 2,_,_ =>
  rw [take2 hl]
  unfold bytesOf bA
  split
  ·simp; omega
  ·split
   ·simp only [List.map_cons,List.map_nil,List.cons.injEq,and_true]
    rw [u8i_eq (by omega) (by omega),u8i_eq (by omega) (by omega)]; omega
   ·simp; omega
 | 3,_,_ =>
  rw [take3 hl]
  unfold bytesOf bA
  split
  ·simp; omega
  ·split
   ·simp; omega
   ·simp only [List.map_cons,List.map_nil,List.cons.injEq,and_true]
    rw [u8i_eq (by omega) (by omega),u8i_eq (by omega) (by omega),u8i_eq (by omega) (by omega)]; omega
theorem hit_iff {s : List UInt8} {i : Nat} (hi : 1 ≤ i) (hi3 : i ≤ 3) (hl : i ≤ s.length) : hit s i = true ↔ isChar (valN s i) = true ∧ bytesOf (valN s i) (bA s 0) (bA s 1) (bA s 2) i:=by
 unfold hit
 rw [Bool.and_eq_true,beq_iff_eq]
 constructor
 ·rintro ⟨h1,h2⟩
  have:=isChar_in h1
  exact ⟨h1,(enc_take (by omega) (by omega) hi hi3 hl).1 h2⟩
 ·rintro ⟨h1,h2⟩
  have:=isChar_in h1
  exact ⟨h1,(enc_take (by omega) (by omega) hi hi3 hl).2 h2⟩
theorem dec_hit {s : List UInt8} (hs : s ≠ []) {i : Nat} (hi : 1 ≤ i) (hi3 : i ≤ 3) (hl : i ≤ s.length) (h : hit s i = true) : ((dec s).1 : Int) = valN s i ∧ (dec s).2 = i:=by
 obtain ⟨h1,h2⟩:=(hit_iff hi hi3 hl).1 h
 rw [dec_eq hs]
 unfold isChar at h1
 simp only [Bool.and_eq_true,Bool.or_eq_true,decide_eq_true_eq] at h1
 unfold valN val12 bA at *
 have hu0:=(s.getD 0 0).toNat_lt
 have hu1:=(s.getD 1 0).toNat_lt
 have hu2:=(s.getD 2 0).toNat_lt
 generalize (s.getD 0 0).toNat = b0 at *
 generalize (s.getD 1 0).toNat = b1 at *
 generalize (s.getD 2 0).toNat = b2 at *
 generalize (s.getD 3 0).toNat = b3 at *
 unfold decN
 match i,hi,hi3 with
 | 1,_,_ =>
  simp only [Nat.reduceEqDiff,if_false,if_true,bytesOf] at h1 h2 ⊢
  rw [if_pos (by omega)]; simp
 | 2,_,_ =>
  simp only [Nat.reduceEqDiff,if_false,if_true,bytesOf] at h1 h2 ⊢
  rw [if_neg (by omega),if_pos (by omega),if_pos (by omega)]
  simp; omega
 | 3,_,_ =>
  simp only [Nat.reduceEqDiff,if_false,if_true,bytesOf] at h1 h2 ⊢
  rw [if_neg (by omega),if_neg (by omega),if_pos (by omega),if_pos (by omega)]
  simp; omega
theorem hit_dec {s : List UInt8} (hs : s ≠ []) (h : badAt s = false) : (dec s).2 ≤ 3 ∧ hit s (dec s).2 = true ∧ ((dec s).1 : Int) = valN s (dec s).2:=by
 obtain ⟨h1,h2,h3,h4⟩:=decode_size s hs
 have hb : isChar ((dec s).1 : Nat) = true ∧ ¬ ((dec s).1 = 65533 ∧ (dec s).2 = 1):=by
  unfold badAt at h
  simp only [Bool.or_eq_false_iff,Bool.not_eq_false',Bool.and_eq_false_iff,beq_eq_false_iff_ne] at h
  exact ⟨h.1,by omega⟩
 obtain ⟨hc,hn⟩:=hb
 have hci:=isChar_in hc
 have key : (dec s).2 ≤ 3 ∧ bytesOf ((dec s).1 : Nat) (bA s 0) (bA s 1) (bA s 2) (dec s).2 ∧ ((dec s).1 : Int) = valN s (dec s).2:=by
  unfold valN val12 bA
  rw [dec_eq hs] at *
  have hu0:=(s.getD 0 0).toNat_lt
  have hu1:=(s.getD 1 0).toNat_lt
  have hu2:=(s.getD 2 0).toNat_lt
  generalize (s.getD 0 0).toNat = b0 at *
  generalize (s.getD 1 0).toNat = b1 at *
  generalize (s.getD 2 0).toNat = b2 at *
  generalize (s.getD 3 0).toNat = b3 at *
  unfold decN at *
  repeat' split
  all_goals simp_all [bytesOf]
  all_goals omega
 refine ⟨key.1,?_,key.2.2⟩
 rw [hit_iff h1 key.1 h2,← key.2.2]
 exact ⟨hc,key.2.1⟩
theorem first_eq {s : List UInt8} (hs : s ≠ []) : first s = if badAt s then (0,0) else (((dec s).1 : Int),((dec s).2 : Int)):=by
 obtain ⟨h1,h2,h3,h4⟩:=decode_size s hs
 have hp : 0 < s.length:=List.length_pos_iff.2 hs
 cases hb : badAt s with
 | true =>
  rw [if_pos rfl]
  have hno : ∀ m,1 ≤ m → m < 4 → m ≤ s.length → hit s m = false:=fun m hm1 hm2 hml => by
   rw [Bool.eq_false_iff]; intro hh
   obtain ⟨e1,e2⟩:=dec_hit hs hm1 (by omega) hml hh
   obtain ⟨c1,c2⟩:=(hit_iff hm1 (by omega) hml).1 hh
   unfold badAt at hb
   simp only [Bool.or_eq_true,Bool.not_eq_true',Bool.and_eq_true,beq_iff_eq] at hb
   rw [e1] at hb
   rcases hb with hb | ⟨b1,b2⟩
   ·rw [hb] at c1; cases c1
   ·have hm : m = 1:=by omega
    subst hm
    simp only [bytesOf] at c2
    omega
  unfold first
  rw [if_neg,if_neg,if_neg]
  all_goals rintro ⟨g1,g2⟩
  ·rw [hno 3 (by omega) (by omega) g1] at g2; cases g2
  ·rw [hno 2 (by omega) (by omega) g1] at g2; cases g2
  ·rw [hno 1 (by omega) (by omega) g1] at g2; cases g2
 | false =>
  rw [if_neg (by simp)]
  obtain ⟨g1,g2,g3⟩:=hit_dec hs hb
  rw [g3]
  refine first_hit h1 g1 h2 g2 fun m hm1 hm2 => ?_
  rw [Bool.eq_false_iff]; intro hh
  have:=(dec_hit hs hm1 (by omega) (by omega) hh).2
  omega
end Go.Tame.V
/- Contracts: names. By program (mk.py). -/
namespace Go.Tame.V
open Go Go.Proofs
variable {W0 : World}
set_option maxRecDepth 10000
set_option linter.unusedVariables false
set_option linter.unusedSimpArgs false

theorem F114 (s : List UInt8) (hs : s.length < 1000000000) : DFun Tryz.prog W0 193 [.str s] (.tup [.sl .none 1 (encInts .i64 (chars s).1),.int .i64 (chars s).2]):=by
 refine DFun.intro ti_ok Tryz.func193 rfl (by decide +kernel) Tryz.ntmps193 rfl fun Γ => ?_
 refine Tri.seq ?_
 refine Tri.region ti_ok ?_
 conv => whnf
 refine Tri.seq ?_
 refine Tri.seq ?_
 refine Tri.region ti_ok ?_
 conv => whnf
 refine Tri.cond _ rfl (fun hc => ?_) (fun hc => ?_)
 ·refine Tri.seq ?_
  refine Tri.region ti_ok ?_
  conv => whnf
  refine Tri.ret ?_
  conv => whnf
  have : chars s = ([],7):=by rw [chars,if_pos (by simp at hc; omega)]
  rw [this]
  exact ⟨DLe.nil,.refl _,trivial⟩
 ·refine Tri.skip ?_
  conv => whnf
  have hs2 : ¬ 65536 < s.length:=by simp at hc; omega
  refine Tri.seq ?_
  refine Tri.region ti_ok ?_
  conv => whnf
  refine Tri.seq ?_
  refine Tri.own 4 1000 1 3 rfl (fun v => ?_)
  refine Tri.block ?_
  refine Tri.loopK (α:={ x : List UInt8 × List Int // charsP s = (charsP x.1).map (x.2 ++ ·) ∧ x.1.length + x.2.length ≤ s.length } × Value)
   (fun x => [(0,.str x.1.1.1),(4,.sl (.own 1000 x.2) 1 (encInts .i64 x.1.1.2))]) (fun x => [(1000,.own x.2 (encInts .i64 x.1.1.2).length 1 3)]) (fun x => x.1.1.1.length) (⟨(s,[]),by simp,by simp⟩,v) [(1000,1000)]
   ⟨⟨.refl _,.refl _,trivial⟩,rfl,rfl,rfl,trivial⟩ ?_
  rintro ⟨⟨⟨r,acc⟩,hch,hlen⟩,v⟩
  dsimp only at hch hlen ⊢
  refine Tri.seq ?_
  refine Tri.seq ?_
  refine Tri.region ti_ok ?_
  conv => whnf
  refine Tri.cond _ rfl (fun hc => ?_) (fun hc => ?_)
  ·refine Tri.skip ?_
   conv => whnf
   have hr : r ≠ []:=by intro e; subst e; simp at hc
   obtain ⟨hd1,hd2,hd3,hd4⟩:=decode_size r hr
   have hal : (encInts .i64 acc).length = acc.length:=by simp [encInts]
   have hfe:=first_eq hr
   refine Tri.block ?_
   refine Tri.seq ?_
   refine Tri.region ti_ok ?_
   conv => whnf
   refine ⟨_,_,fun _ => F130 r (by omega),⟨.refl _,trivial⟩,?_⟩
   conv => whnf
   refine Tri.seq ?_
   refine Tri.seq ?_
   refine Tri.region ti_ok ?_
   conv => whnf
   refine Tri.cond _ rfl (fun hc => ?_) (fun hc => ?_)
   ·refine Tri.seq ?_
    refine Tri.region ti_ok ?_
    conv => whnf
    refine Tri.ret ?_
    conv => whnf
    have hbad : badAt r = true:=by
     cases hb : badAt r with
     | true => rfl
     | false => rw [hb,if_neg (by simp)] at hfe; rw [hfe] at hc; simp at hc; omega
    have : chars s = ([],3):=by rw [chars,if_neg hs2,hch,charsP_cons hr,if_pos hbad]; rfl
    rw [this]
    exact ⟨DLe.nil,.refl _,trivial⟩
   ·refine Tri.skip ?_
    conv => whnf
    have hbad : badAt r = false:=by
     cases hb : badAt r with
     | false => rfl
     | true => rw [hb,if_pos rfl] at hfe; rw [hfe] at hc; simp at hc
    rw [hbad,if_neg (by simp)] at hfe
    refine Tri.seq ?_
    refine Tri.region ti_ok ?_
    conv => whnf
    refine ⟨trivial,?_⟩
    conv => whnf
    refine ⟨rfl,rfl,?_⟩
    conv => whnf
    refine ⟨by show (_ + 1) * 8 ≤ _; omega,by show _ + 1 ≤ _; omega,(fun h => by cases h),fun v => ?_⟩
    conv => whnf
    refine Tri.region ti_ok ?_
    conv => whnf
    refine ⟨fun _ => by rw [hfe]; simp; omega,?_⟩
    conv => whnf
    exact ⟨(⟨(r.drop (dec r).2,acc ++ [((dec r).1 : Int)]),by rw [hch,charsP_cons hr,hbad]; simp [Function.comp_def],by simp; omega⟩,v),[(1000,23)],by show (r.drop (dec r).2).length < r.length; simp; omega,⟨DLe.of_eq (congrArg D.str (by rw [hfe]; simp)),DLe.ownEq (by rw [hfe]; simp [encInts]; rfl),trivial⟩,rfl,rfl,ownH (by simp [encInts]),trivial⟩
  ·refine Tri.exit ?_
   conv => whnf
   refine Tri.seq ?_
   refine Tri.region ti_ok ?_
   conv => whnf
   refine Tri.ret ?_
   conv => whnf
   have hr : r = []:=by simpa using hc
   subst hr
   have : chars s = (acc,0):=by rw [chars,if_neg hs2,hch]; simp [charsP,charsGo]
   rw [this]
   exact ⟨DLe.unown,.refl _,trivial⟩

def nameOk (s : List UInt8) : Bool :=
 if s = [46] ∨ s = [46,46] ∨ (47 : UInt8) ∈ s then false else (chars s).2 == 0 && (decide (1 ≤ (chars s).1.length) && decide ((chars s).1.length ≤ 64))
theorem index_mem (c : UInt8) : ∀ s : List UInt8,decide (0 ≤ Lib.indexByte s c) = decide (c ∈ s)
 | [] => by simp [Lib.indexByte]
 | b::l => by
  have ih:=index_mem c l
  have hge:=Lib.indexByte_ge l c
  rw [decide_eq_decide] at ih ⊢
  unfold Lib.indexByte
  by_cases hb : b = c
  ·subst hb; simp
  ·rw [if_neg (by simpa using hb)]
   have : c ∈ b::l ↔ c ∈ l:=by simp [Ne.symm hb]
   rw [this,← ih]
   cases hm : Lib.indexByte l c == -1 with
   | true => rw [if_pos rfl]; have:=eq_of_beq hm; omega
   | false => rw [if_neg (by simp)]; have : Lib.indexByte l c ≠ -1 := fun e => by rw [e] at hm; simp at hm
              omega

theorem F100 (hL : LibOk W0) (s : List UInt8) (hs : s.length < 1000000000) : DFun Tryz.prog W0 75 [.str s] (.bool (nameOk s)):=by
 refine DFun.intro ti_ok Tryz.func75 rfl (by decide +kernel) Tryz.ntmps75 rfl fun Γ => ?_
 refine Tri.seq ?_
 refine Tri.region ti_ok ?_
 conv => whnf
 refine Tri.seq ?_
 refine Tri.seq ?_
 refine Tri.region ti_ok ?_
 conv => whnf
 refine ⟨fun h => h,?_⟩
 conv => whnf
 refine ⟨fun h0 h => by first | exact h | (rw [h]; rfl) | (rw [h0,h]; rfl),?_⟩
 conv => whnf
 refine ⟨fun h => h,?_⟩
 conv => whnf
 refine ⟨_,_,fun h => F119 s 47,⟨.refl _,.refl _,trivial⟩,?_⟩
 conv => whnf
 refine ⟨fun h0 h => by first | exact h | (rw [h]; rfl) | (rw [h0,h]; rfl),?_⟩
 conv => whnf
 have hcc : (bif bif s == [46] then true else s == [46,46] then true else decide (0 ≤ Lib.indexByte s 47)) = decide (s = [46] ∨ s = [46,46] ∨ (47 : UInt8) ∈ s):=by
  rw [index_mem]
  by_cases h1 : s = [46]
  ·simp [h1]
  ·by_cases h2 : s = [46,46] <;> simp [h1,h2]
 refine Tri.cond _ rfl (fun hc => ?_) (fun hc => ?_)
 ·refine Tri.seq ?_
  refine Tri.region ti_ok ?_
  conv => whnf
  refine Tri.ret ?_
  conv => whnf
  exact DLe.of_eq (congrArg D.bool (by rw [nameOk,if_pos (of_decide_eq_true (hcc.symm.trans hc))]))
 ·refine Tri.skip ?_
  conv => whnf
  refine Tri.seq ?_
  refine Tri.region ti_ok ?_
  conv => whnf
  refine ⟨_,_,fun _ => F120 hL s hs,⟨.refl _,trivial⟩,?_⟩
  conv => whnf
  refine Tri.seq ?_
  refine Tri.region ti_ok ?_
  conv => whnf
  refine ⟨fun h => h,?_⟩
  conv => whnf
  refine ⟨fun h => h,?_⟩
  conv => whnf
  refine ⟨fun h0 h => by first | exact h | (rw [h]; rfl) | (rw [h0,h]; rfl),?_⟩
  conv => whnf
  refine ⟨fun h => h,?_⟩
  conv => whnf
  refine ⟨fun h => h,?_⟩
  conv => whnf
  refine ⟨fun h0 h => by first | exact h | (rw [h]; rfl) | (rw [h0,h]; rfl),?_⟩
  conv => whnf
  refine Tri.ret ?_
  conv => whnf
  refine DLe.of_eq (congrArg D.bool ?_)
  rw [nameOk,if_neg (of_decide_eq_false (hcc.symm.trans hc))]
  have hlen : (encInts .i64 (chars s).1).length = (chars s).1.length:=by simp [encInts]
  rw [hlen]
  cases (chars s).2 == 0
  ·rfl
  ·by_cases h1 : 1 ≤ (chars s).1.length <;> by_cases h2 : (chars s).1.length ≤ 64 <;> simp [h1,h2] <;> omega
end Go.Tame.V
/- Contracts: parts of texts,targets. By program (mk.py). -/
namespace Go.Tame.V
open Go Go.Proofs
variable {W0 : World}
set_option maxRecDepth 10000
set_option linter.unusedVariables false
set_option linter.unusedSimpArgs false

/-- The parts of a text between the bytes c; p: what stands ahead. -/
def splitG (c : UInt8) : List UInt8 → List UInt8 → List (List UInt8)
 | p,[] => [p]
 | p,b::r => if b = c then p::splitG c [] r else splitG c (p ++ [b]) r
theorem splitG_no {c : UInt8} : ∀ (s p : List UInt8),c ∉ s → splitG c p s = [p ++ s]
 | [],p,_ => by simp [splitG]
 | b::r,p,h => by
  have hb : b ≠ c:=fun e => h (by simp [e])
  have hr : c ∉ r:=fun e => h (by simp [e])
  rw [splitG,if_neg hb,splitG_no r _ hr]; simp
theorem splitG_at {c : UInt8} : ∀ (a p r : List UInt8),c ∉ a → splitG c p (a ++ c::r) = (p ++ a)::splitG c [] r
 | [],p,r,_ => by simp [splitG]
 | b::a,p,r,h => by
  have hb : b ≠ c:=fun e => h (by simp [e])
  have hr : c ∉ a:=fun e => h (by simp [e])
  rw [List.cons_append,splitG,if_neg hb,splitG_at a _ r hr]; simp
theorem splitG_len {c : UInt8} : ∀ (s p : List UInt8),(splitG c p s).length ≤ s.length + 1 ∧ ∀ x ∈ splitG c p s,x.length ≤ p.length + s.length
 | [],p => by simp [splitG]
 | b::r,p => by
  have h1:=splitG_len (c:=c) r []
  have h2:=splitG_len (c:=c) r (p ++ [b])
  rw [splitG]
  split
  ·refine ⟨by simp; omega,fun x hx => ?_⟩
   rcases List.mem_cons.1 hx with rfl | hx
   ·simp
   ·have:=h1.2 x hx; simp at this ⊢; omega
  ·refine ⟨by simp at h2 ⊢; omega,fun x hx => ?_⟩
   have:=h2.2 x hx; simp at this ⊢; omega
theorem splitB_eq (c : UInt8) : ∀ (n : Nat) (s : List UInt8),s.length ≤ n → (Lib.splitB ⟨⟨[c]⟩⟩ 0 (Lib.countB ⟨⟨s⟩⟩ ⟨⟨[c]⟩⟩) ⟨⟨s⟩⟩).map (fun b => b.data.toList) = splitG c [] s:=by
 intro n
 induction n with
 | zero =>
  intro s h
  have : s = []:=List.eq_nil_of_length_eq_zero (by omega)
  subst this
  rw [Lib.countB_miss _ _ (by rfl)]; rfl
 | succ n ih =>
  intro s h
  have hix : Lib.indexB ⟨⟨s⟩⟩ ⟨⟨[c]⟩⟩ = Lib.indexByte s c:=Lib.index_one s c
  have hge:=Lib.indexByte_ge s c
  by_cases hm : Lib.indexByte s c = -1
  ·have hno : c ∉ s:=fun hc => by
    obtain ⟨k,hk⟩:=List.mem_iff_getElem?.1 hc
    exact Lib.indexByte_none hm k hk
   rw [Lib.countB_miss _ _ (hix.trans hm),Lib.splitB_zero,splitG_no s [] hno]; rfl
  ·obtain ⟨i,hi⟩ : ∃ i : Nat,Lib.indexByte s c = i:=⟨(Lib.indexByte s c).toNat,by omega⟩
   obtain ⟨h1,h2⟩:=Lib.indexByte_some hi
   have hil : i < s.length:=by
    rcases Nat.lt_or_ge i s.length with h | h
    ·exact h
    ·rw [List.getElem?_eq_none h] at h1; cases h1
   have hsz : (⟨⟨[c]⟩⟩ : ByteArray).size = 1:=rfl
   have hss : (⟨⟨s⟩⟩ : ByteArray).size = s.length:=rfl
   have e0 : s.take s.length = s:=List.take_length
   rw [Lib.countB_hit _ _ i (by rw [hsz]; omega) (hix.trans hi),Nat.add_comm 1,Lib.splitB_hit _ _ _ _ i (hix.trans hi),hsz,hss,bytes_extract,bytes_extract,e0]
   have hs : s = s.take i ++ c::s.drop (i + 1):=by
    have:=List.getElem?_eq_some_iff.1 h1
    obtain ⟨_,he⟩:=this
    have h3:=List.drop_eq_getElem_cons hil
    rw [he] at h3
    rw [← h3,List.take_append_drop]
   have hno : c ∉ s.take i:=fun hc => by
    obtain ⟨k,hk⟩:=List.mem_iff_getElem?.1 hc
    rw [List.getElem?_take] at hk
    split at hk
    ·rename_i hlt; exact h2 k hlt hk
    ·cases hk
   rw [List.map_cons,ih (s.drop (i + 1)) (by simp; omega)]
   conv => rhs; rw [hs,splitG_at _ _ _ hno]
   simp
def strs (l : List (List UInt8)) : List D:=l.map D.str
theorem F121 (hL : LibOk W0) (s : List UInt8) (c : UInt8) (hs : s.length < 1000000000) : DFun Tryz.prog W0 159 [.str s,.str [c]] (.sl .full 1 (strs (splitG c [] s))):=by
 obtain ⟨m,hm⟩:=hL.maxlen
 have heq:=splitB_eq c s.length s (Nat.le_refl _)
 have hlen:=(splitG_len (c:=c) s []).1
 have hcl : Lib.countB ⟨⟨s⟩⟩ ⟨⟨[c]⟩⟩ + 1 = (strs (splitG c [] s)).length:=by
  have:=Lib.splitB_all (⟨⟨[c]⟩⟩ : ByteArray) (Nat.le_refl 1) 0 _ (⟨⟨s⟩⟩ : ByteArray) rfl
  rw [← this,strs,List.length_map,← heq,List.length_map]
 have hcells : ∀ x ∈ strs (splitG c [] s),x.cells = [x]:=fun x hx => by obtain ⟨y,_,rfl⟩:=List.mem_map.1 hx; rfl
 have hval : (Lib.splitB ⟨⟨[c]⟩⟩ 0 (Lib.countB ⟨⟨s⟩⟩ ⟨⟨[c]⟩⟩) ⟨⟨s⟩⟩).map Value.string = (splitG c [] s).map fun x => Value.string ⟨⟨x⟩⟩:=by
  rw [← heq,List.map_map]; rfl
 refine .newRow (us:=(splitG c [] s).map fun x => Value.string ⟨⟨x⟩⟩) (e:=9) (callable Tryz.func159 rfl (by decide +kernel)) rfl (fun x hx => by rw [hcells x hx]; rfl) (by simp only [strs,List.length_map,maxLen] at *; omega)
  (fun w C => ?_) (fun u hu => by obtain ⟨y,_,rfl⟩:=List.mem_map.1 hu; rfl) fun w hb => (Tryz.strings_Split ⟨⟨s⟩⟩ ⟨⟨[c]⟩⟩ m w (by show s.length < _; omega) (cell_base hb hm) (Nat.le_refl 1)).mono fun e w' ⟨he,hw⟩ => ?_
 ·rw [flat_one hcells]
  exact ⟨by simp [strs],fun i d v hd hv => by
   simp only [strs,List.getElem?_map] at hd hv
   cases hx : (splitG c [] s)[i]? with
   | none => rw [hx] at hd; cases hd
   | some x => rw [hx] at hd hv; cases hd; cases hv; exact .str _⟩
 ·rw [← hcl]
  exact ⟨he,by rw [hw,hval]⟩

def cutSlash (s : List UInt8) : List UInt8:=match s with | b::r => if b = 47 then r else b::r | [] => []
theorem trim_slash (s : List UInt8) : Lib.trimPrefix s [47] = cutSlash s:=by
 unfold Lib.trimPrefix Lib.hasPrefix cutSlash
 match s with
 | [] => rfl
 | b::r =>
  by_cases h : b = 47
  ·simp [h,List.isPrefixOf]
  ·have h' : ¬ (47 : UInt8) = b:=fun e => h e.symm
   simp [h,h',List.isPrefixOf]
theorem cutSlash_len (s : List UInt8) : (cutSlash s).length ≤ s.length:=by
 unfold cutSlash; split
 ·split <;> simp
 ·simp
def partOk (p : List UInt8) : Bool:=p == [46] || (p == [46,46] || nameOk p)
def targetOk (s : List UInt8) : Bool:=if s.length < 1 ∨ 128 < s.length then false else if s = [47] then true else (splitG 47 [] (cutSlash s)).all partOk
theorem all_false {α : Type} {q : α → Bool} {l : List α} {i : Nat} (h : i < l.length) (hq : q l[i] = false) : l.all q = false:=by
 rw [Bool.eq_false_iff]; intro ha
 have:=List.all_eq_true.1 ha l[i] (List.getElem_mem h)
 rw [hq] at this; cases this
theorem all_true {α : Type} {q : α → Bool} {l : List α} {i : Nat} (h : ¬ i < l.length) (hq : ∀ j (hj : j < l.length),j < i → q l[j] = true) : l.all q = true :=
 List.all_eq_true.2 fun x hx => by
  obtain ⟨j,hj,rfl⟩:=List.mem_iff_getElem.1 hx
  exact hq j hj (by omega)
theorem below_next {α : Type} {q : α → Bool} {l : List α} {i : Nat} {hi : i < l.length} (h : q l[i] = true) (hq : ∀ j (hj : j < l.length),j < i → q l[j] = true) : ∀ j (hj : j < l.length),j < i + 1 → q l[j] = true:=fun j hj hlt =>
 (Nat.lt_succ_iff_lt_or_eq.1 hlt).elim (hq j hj) fun e => by subst e; exact h
theorem part_cc (p : List UInt8) : (bif (bif !(p == [46]) then !(p == [46,46]) else false) then !nameOk p else false) = !partOk p:=by
 unfold partOk; cases p == [46] <;> cases p == [46,46] <;> cases nameOk p <;> rfl

theorem F101 (hL : LibOk W0) (s : List UInt8) (hs : s.length < 1000000000) : DFun Tryz.prog W0 223 [.str s] (.bool (targetOk s)):=by
 refine DFun.intro ti_ok Tryz.func223 rfl (by decide +kernel) Tryz.ntmps223 rfl fun Γ => ?_
 refine Tri.seq ?_
 refine Tri.region ti_ok ?_
 conv => whnf
 refine Tri.seq ?_
 refine Tri.seq ?_
 refine Tri.region ti_ok ?_
 conv => whnf
 refine ⟨fun h => h,?_⟩
 conv => whnf
 refine ⟨fun h => h,?_⟩
 conv => whnf
 refine ⟨fun h0 h => by first | exact h | (rw [h]; rfl) | (rw [h0,h]; rfl),?_⟩
 conv => whnf
 refine Tri.cond _ rfl (fun hc => ?_) (fun hc => ?_)
 ·refine Tri.seq ?_
  refine Tri.region ti_ok ?_
  conv => whnf
  refine Tri.ret ?_
  conv => whnf
  refine DLe.of_eq (congrArg D.bool ?_)
  rw [targetOk,if_pos]
  by_cases h1 : s.length < 1
  ·exact .inl h1
  ·right; have h1' : ¬ (s.length : Int) < 1:=by omega
   simp [h1'] at hc; omega
 ·refine Tri.skip ?_
  have h1 : ¬ (s.length < 1 ∨ 128 < s.length):=by
   by_cases h1 : (s.length : Int) < 1
   ·simp [h1] at hc
   ·simp [h1] at hc; omega
  conv => whnf
  refine Tri.seq ?_
  refine Tri.seq ?_
  refine Tri.region ti_ok ?_
  conv => whnf
  refine Tri.cond _ rfl (fun hc => ?_) (fun hc => ?_)
  ·refine Tri.seq ?_
   refine Tri.region ti_ok ?_
   conv => whnf
   refine Tri.ret ?_
   conv => whnf
   exact DLe.of_eq (congrArg D.bool (by rw [targetOk,if_neg h1,if_pos (by simpa using hc)]))
  ·refine Tri.skip ?_
   have h2 : s ≠ [47]:=by simpa using hc
   have hT : targetOk s = (splitG 47 [] (cutSlash s)).all partOk:=by rw [targetOk,if_neg h1,if_neg h2]
   have hcl:=cutSlash_len s
   obtain ⟨hgl,hgp⟩:=splitG_len (c:=47) (cutSlash s) []
   conv => whnf
   refine Tri.seq ?_
   refine Tri.seq ?_
   refine Tri.region ti_ok ?_
   conv => whnf
   refine ⟨_,_,fun _ => F122 s [47],⟨.refl _,.refl _,trivial⟩,?_⟩
   conv => whnf
   refine ⟨[.str (cutSlash s),.str [47]],_,fun _ => F121 hL (cutSlash s) 47 (by omega),⟨DLe.of_eq (congrArg D.str (trim_slash s)),.refl _,trivial⟩,?_⟩
   conv => whnf
   refine Tri.block ?_
   refine Tri.loop (α:={ i : Nat // i ≤ (splitG 47 [] (cutSlash s)).length ∧ ∀ j (h : j < (splitG 47 [] (cutSlash s)).length),j < i → partOk (splitG 47 [] (cutSlash s))[j] = true })
    (fun x => [(17,.sl .full 1 (strs (splitG 47 [] (cutSlash s)))),(18,.int .i64 (strs (splitG 47 [] (cutSlash s))).length),(19,.int .i64 x.1)]) (fun _ => []) (fun x => (splitG 47 [] (cutSlash s)).length - x.1) ⟨0,by simp⟩ ⟨.refl _,.refl _,.refl _,trivial⟩ trivial ?_
   rintro ⟨i,hi,hp⟩
   dsimp only
   refine Tri.seq ?_
   refine Tri.region ti_ok ?_
   conv => whnf
   refine Tri.seq ?_
   refine Tri.cond _ rfl (fun hc => ?_) (fun hc => ?_)
   ·refine Tri.skip ?_
    conv => whnf
    have hia : i < (splitG 47 [] (cutSlash s)).length:=by simpa [strs] using hc
    have hpl:=hgp _ (List.getElem_mem hia)
    refine Tri.seq ?_
    refine Tri.block ?_
    refine Tri.seq ?_
    refine Tri.region ti_ok ?_
    conv => whnf
    refine ⟨fun _ => by simp [strs]; omega,?_⟩
    conv => whnf
    refine ⟨.str (splitG 47 [] (cutSlash s))[i],fun _ => get_map _ hia,?_⟩
    conv => whnf
    refine Tri.seq ?_
    refine Tri.region ti_ok ?_
    conv => whnf
    refine ⟨fun h => h,?_⟩
    conv => whnf
    refine ⟨fun h0 h => by first | exact h | (rw [h]; rfl) | (rw [h0,h]; rfl),?_⟩
    conv => whnf
    refine ⟨fun h => h,?_⟩
    conv => whnf
    refine ⟨[.str (splitG 47 [] (cutSlash s))[i]],_,fun h => F100 hL _ (by simp at hpl; omega),⟨.refl _,trivial⟩,?_⟩
    conv => whnf
    refine ⟨fun h => h,?_⟩
    conv => whnf
    refine ⟨fun h0 h => by first | exact h | (rw [h]; rfl) | (rw [h0,h]; rfl),?_⟩
    conv => whnf
    have hcc:=part_cc (splitG 47 [] (cutSlash s))[i]
    refine Tri.cond _ rfl (fun hc => ?_) (fun hc => ?_)
    ·refine Tri.seq ?_
     refine Tri.region ti_ok ?_
     conv => whnf
     refine Tri.ret ?_
     conv => whnf
     exact DLe.of_eq (congrArg D.bool (by rw [hT,all_false hia (by simpa using hcc.symm.trans hc)]))
    ·refine Tri.skip ?_
     conv => whnf
     refine Tri.region ti_ok ?_
     conv => whnf
     refine .inl ⟨fun _ => by simp [InR]; omega,?_⟩
     conv => whnf
     exact ⟨⟨i + 1,by omega,below_next (hi:=hia) (by simpa using hcc.symm.trans hc) hp⟩,by show _ - (i + 1) < _ - i; omega,⟨.refl _,.refl _,.refl _,trivial⟩,trivial⟩
   ·refine Tri.exit ?_
    conv => whnf
    refine Tri.seq ?_
    refine Tri.region ti_ok ?_
    conv => whnf
    refine Tri.ret ?_
    conv => whnf
    exact DLe.of_eq (congrArg D.bool (by rw [hT,all_true (by simpa [strs] using hc) hp]))

theorem nameOk_long {s : List UInt8} (h : 300 < s.length) : nameOk s = false:=by
 unfold nameOk chars
 split
 ·rfl
 ·split
  ·rfl
  ·cases hp : charsP s with
   | none => rfl
   | some l =>
    have:=charsP_len s.length s (Nat.le_refl _) l hp
    have h1 : ¬ l.length ≤ 64:=by omega
    simp [h1]

theorem F94 (s : List UInt8) (hs : s.length < 1000000000) : DFun Tryz.prog W0 135 [.str s] (.bool (nameOk s)):=by
 refine DFun.intro ti_ok Tryz.func135 rfl (by decide +kernel) Tryz.ntmps135 rfl fun Γ => ?_
 refine Tri.seq ?_
 refine Tri.region ti_ok ?_
 conv => whnf
 refine Tri.seq ?_
 refine Tri.seq ?_
 refine Tri.region ti_ok ?_
 conv => whnf
 refine ⟨fun h => h,?_⟩
 conv => whnf
 refine ⟨fun h0 h => by first | exact h | (rw [h]; rfl) | (rw [h0,h]; rfl),?_⟩
 conv => whnf
 refine ⟨fun h => h,?_⟩
 conv => whnf
 refine ⟨fun h => h,?_⟩
 conv => whnf
 refine ⟨fun h0 h => by first | exact h | (rw [h]; rfl) | (rw [h0,h]; rfl),?_⟩
 conv => whnf
 have hcc : (bif bif s == [46] then true else s == [46,46] then true else decide (300 < (s.length : Int))) = decide (s = [46] ∨ s = [46,46] ∨ 300 < s.length):=by
  by_cases h1 : s = [46]
  ·simp [h1]
  ·by_cases h2 : s = [46,46]
   ·simp [h2]
   ·have e1 : (s == [46]) = false:=by simpa using h1
    have e2 : (s == [46,46]) = false:=by simpa using h2
    rw [e1,e2]; simp [h1,h2]; omega
 refine Tri.cond _ rfl (fun hc => ?_) (fun hc => ?_)
 ·refine Tri.seq ?_
  refine Tri.region ti_ok ?_
  conv => whnf
  refine Tri.ret ?_
  conv => whnf
  refine DLe.of_eq (congrArg D.bool ?_)
  have:=of_decide_eq_true (hcc.symm.trans hc)
  by_cases h3 : 300 < s.length
  ·rw [nameOk_long h3]
  ·rw [nameOk,if_pos (by rcases this with h | h | h; exact .inl h; exact .inr (.inl h); exact absurd h h3)]
 ·refine Tri.skip ?_
  have hn:=of_decide_eq_false (hcc.symm.trans hc)
  conv => whnf
  refine Tri.seq ?_
  refine Tri.seq ?_
  refine Tri.region ti_ok ?_
  conv => whnf
  refine Tri.block ?_
  refine Tri.loop (α:={ i : Nat // i ≤ s.length ∧ ∀ j (h : j < s.length),j < i → (s[j] != 47) = true }) (fun x => [(0,.str s),(3,.int .i64 x.1)]) (fun _ => []) (fun x => s.length - x.1) ⟨0,by simp⟩ ⟨.refl _,.refl _,trivial⟩ trivial ?_
  rintro ⟨i,hi,hp⟩
  dsimp only
  refine Tri.seq ?_
  refine Tri.seq ?_
  refine Tri.region ti_ok ?_
  conv => whnf
  refine Tri.cond _ rfl (fun hc => ?_) (fun hc => ?_)
  ·refine Tri.skip ?_
   have hia : i < s.length:=by simpa using hc
   conv => whnf
   refine Tri.seq ?_
   refine Tri.block ?_
   refine Tri.seq ?_
   refine Tri.region ti_ok ?_
   conv => whnf
   refine ⟨s[i],fun _ => ⟨by omega,by simp [hia]⟩,?_⟩
   conv => whnf
   have hbe:=byte_eq s[i] 47 (by decide)
   refine Tri.cond _ rfl (fun hc => ?_) (fun hc => ?_)
   ·refine Tri.seq ?_
    refine Tri.region ti_ok ?_
    conv => whnf
    refine Tri.ret ?_
    conv => whnf
    refine DLe.of_eq (congrArg D.bool ?_)
    have h47 : s[i] = 47:=by have:=hbe.symm.trans hc; simpa using this
    rw [nameOk,if_pos (.inr (.inr (h47 ▸ List.getElem_mem hia)))]
   ·refine Tri.skip ?_
    conv => whnf
    refine Tri.region ti_ok ?_
    conv => whnf
    refine .inl ⟨fun _ => by simp [InR]; omega,?_⟩
    conv => whnf
    exact ⟨⟨i + 1,by omega,below_next (q:=fun b => b != 47) (hi:=hia) (by have:=hbe.symm.trans hc; simpa [bne] using this) hp⟩,by show s.length - (i + 1) < s.length - i; omega,⟨.refl _,.refl _,trivial⟩,trivial⟩
  ·refine Tri.exit ?_
   conv => whnf
   refine Tri.seq ?_
   refine Tri.region ti_ok ?_
   conv => whnf
   refine ⟨_,_,fun _ => F114 s hs,⟨.refl _,trivial⟩,?_⟩
   conv => whnf
   refine Tri.seq ?_
   refine Tri.region ti_ok ?_
   conv => whnf
   refine ⟨fun h => h,?_⟩
   conv => whnf
   refine ⟨fun h => h,?_⟩
   conv => whnf
   refine ⟨fun h0 h => by first | exact h | (rw [h]; rfl) | (rw [h0,h]; rfl),?_⟩
   conv => whnf
   refine ⟨fun h => h,?_⟩
   conv => whnf
   refine ⟨fun h => h,?_⟩
   conv => whnf
   refine ⟨fun h0 h => by first | exact h | (rw [h]; rfl) | (rw [h0,h]; rfl),?_⟩
   conv => whnf
   refine Tri.ret ?_
   conv => whnf
   refine DLe.of_eq (congrArg D.bool ?_)
   have hno : (47 : UInt8) ∉ s:=fun h => by
    have:=all_true (q:=fun b : UInt8 => b != 47) (by simpa using hc) hp
    have:=List.all_eq_true.1 this 47 h
    simp at this
   rw [nameOk,if_neg (by rintro (h | h | h); exact hn (.inl h); exact hn (.inr (.inl h)); exact hno h)]
   have hlen : (encInts .i64 (chars s).1).length = (chars s).1.length:=by simp [encInts]
   rw [hlen]
   cases (chars s).2 == 0
   ·rfl
   ·by_cases h1 : 1 ≤ (chars s).1.length <;> by_cases h2 : (chars s).1.length ≤ 64 <;> simp [h1,h2] <;> omega
end Go.Tame.V
/- Contracts: the reference's parts of texts,targets; the rules of a node. By program (mk.py). -/
namespace Go.Tame.V
open Go Go.Proofs
variable {W0 : World}
set_option maxRecDepth 10000
set_option linter.unusedVariables false
set_option linter.unusedSimpArgs false

theorem slice1 {s : List UInt8} {i : Nat} (h : i < s.length) : (s.take (i + 1)).drop i = [s[i]]:=by
 rw [List.take_add_one,List.getElem?_eq_getElem h]
 simp only [Option.toList_some]
 rw [List.drop_append_of_le_length (by simp; omega),List.drop_of_length_le (by simp; omega)]; rfl

theorem F44 (s : List UInt8) (c : UInt8) (hs : s.length < 1000000000) : DFun Tryz.prog W0 71 [.str s,.int .u8 c.toNat] (.sl .none 1 (strs (splitG c [] s))):=by
 refine DFun.intro ti_ok Tryz.func71 rfl (by decide +kernel) Tryz.ntmps71 rfl fun Γ => ?_
 refine Tri.seq ?_
 refine Tri.region ti_ok ?_
 conv => whnf
 refine Tri.seq ?_
 refine Tri.region ti_ok ?_
 conv => whnf
 refine ⟨trivial,?_⟩
 conv => whnf
 refine Tri.seq ?_
 refine Tri.region ti_ok ?_
 conv => whnf
 refine Tri.seq ?_
 refine Tri.seq ?_
 refine Tri.region ti_ok ?_
 conv => whnf
 refine Tri.own 5 1000 1 9 rfl (fun v => ?_)
 refine Tri.block ?_
 refine Tri.loopK (α:={ x : Nat × List (List UInt8) × List UInt8 // x.1 ≤ s.length ∧ splitG c [] s = x.2.1 ++ splitG c x.2.2 (s.drop x.1) ∧ x.2.1.length + x.2.2.length ≤ x.1 } × Value)
  (fun x => [(0,.str s),(1,.int .u8 c.toNat),(7,.int .i64 x.1.1.1),(6,.str x.1.1.2.2),(5,.sl (.own 1000 x.2) 1 (strs x.1.1.2.1))]) (fun x => [(1000,.own x.2 (strs x.1.1.2.1).length 1 9)]) (fun x => s.length - x.1.1.1)
  (⟨(0,[],[]),by simp,by simp,by simp⟩,v) [(1000,1000)] ⟨⟨.refl _,.refl _,.refl _,.refl _,.refl _,trivial⟩,rfl,rfl,rfl,trivial⟩ ?_
 rintro ⟨⟨⟨i,ws,part⟩,hi,hsp,hlen⟩,v⟩
 dsimp only at hi hsp hlen ⊢
 refine Tri.seq ?_
 refine Tri.seq ?_
 refine Tri.region ti_ok ?_
 conv => whnf
 refine Tri.cond _ rfl (fun hc => ?_) (fun hc => ?_)
 ·refine Tri.skip ?_
  conv => whnf
  have hia : i < s.length:=by simpa using hc
  have hwl : (strs ws).length = ws.length:=by simp [strs]
  have hdr:=List.drop_eq_getElem_cons hia
  refine Tri.seq ?_
  refine Tri.block ?_
  refine Tri.seq ?_
  refine Tri.region ti_ok ?_
  conv => whnf
  refine ⟨s[i],fun _ => ⟨by omega,by simp [hia]⟩,?_⟩
  conv => whnf
  have hbe : (((s[i].toNat : Nat) : Int) == (c.toNat : Nat)) = (s[i] == c):=by
   rw [Bool.eq_iff_iff]; simp only [beq_iff_eq]
   constructor
   ·intro h; exact UInt8.toNat.inj (by omega)
   ·intro h; rw [h]
  refine Tri.cond _ rfl (fun hc => ?_) (fun hc => ?_)
  ·refine Tri.seq ?_
   refine Tri.region ti_ok ?_
   conv => whnf
   refine ⟨trivial,?_⟩
   conv => whnf
   refine ⟨rfl,rfl,?_⟩
   conv => whnf
   refine ⟨by show (_ + 1) * 16 ≤ _; omega,by show _ + 1 ≤ _; omega,(fun h => by cases h),fun v => ?_⟩
   conv => whnf
   refine Tri.region ti_ok ?_
   conv => whnf
   refine Tri.region ti_ok ?_
   conv => whnf
   refine .inl ⟨fun _ => by simp [InR]; omega,?_⟩
   conv => whnf
   have hsc : s[i] = c:=by simpa using hbe.symm.trans hc
   exact ⟨(⟨(i + 1,ws ++ [part],[]),by omega,by rw [hsp,hdr,splitG,if_pos hsc]; simp,by simp; omega⟩,v),[(1000,23)],by show s.length - (i + 1) < s.length - i; omega,⟨.refl _,.refl _,.refl _,.refl _,DLe.ownEq (by simp [strs]; rfl),trivial⟩,rfl,rfl,ownH (by simp [strs]),trivial⟩
  ·refine Tri.region ti_ok ?_
   conv => whnf
   refine .inl ⟨fun _ => by simp [InR]; omega,?_⟩
   conv => whnf
   refine ⟨fun _ => by omega,?_⟩
   conv => whnf
   refine ⟨fun _ => by simp; omega,?_⟩
   conv => whnf
   refine Tri.region ti_ok ?_
   conv => whnf
   refine .inl ⟨fun _ => by simp [InR]; omega,?_⟩
   conv => whnf
   have hsc : s[i] ≠ c:=by simpa using hbe.symm.trans hc
   have hs1 : (s.take ((i : Int) + 1).toNat).drop (i : Int).toNat = [s[i]]:=by
    rw [show ((i : Int) + 1).toNat = i + 1 by omega,Int.toNat_natCast]; exact slice1 hia
   exact ⟨(⟨(i + 1,ws,part ++ [s[i]]),by omega,by rw [hsp,hdr,splitG,if_neg hsc],by simp; omega⟩,v),[(1000,1000)],by show s.length - (i + 1) < s.length - i; omega,⟨.refl _,.refl _,.refl _,DLe.of_eq (congrArg D.str (by rw [hs1])),.refl _,trivial⟩,rfl,rfl,rfl,trivial⟩
 ·refine Tri.exit ?_
  conv => whnf
  refine Tri.seq ?_
  refine Tri.region ti_ok ?_
  conv => whnf
  refine ⟨trivial,?_⟩
  conv => whnf
  refine ⟨rfl,rfl,?_⟩
  conv => whnf
  have hwl : (strs ws).length = ws.length:=by simp [strs]
  refine ⟨by show (_ + 1) * 16 ≤ _; omega,by show _ + 1 ≤ _; omega,(fun h => by cases h),fun v => ?_⟩
  conv => whnf
  refine Tri.ret ?_
  conv => whnf
  have hia : ¬ i < s.length:=by simpa using hc
  rw [hsp,List.drop_of_length_le (by omega),splitG]
  exact DLe.trans (DLe.of_eq (congrArg (D.sl _ 1) (by simp [strs]; rfl))) DLe.unown

theorem F111 (s : List UInt8) (hs : s.length < 1000000000) : DFun Tryz.prog W0 212 [.str s] (.bool (targetOk s)):=by
 refine DFun.intro ti_ok Tryz.func212 rfl (by decide +kernel) Tryz.ntmps212 rfl fun Γ => ?_
 refine Tri.seq ?_
 refine Tri.region ti_ok ?_
 conv => whnf
 refine Tri.seq ?_
 refine Tri.seq ?_
 refine Tri.region ti_ok ?_
 conv => whnf
 refine ⟨fun h => h,?_⟩
 conv => whnf
 refine ⟨fun h => h,?_⟩
 conv => whnf
 refine ⟨fun h0 h => by first | exact h | (rw [h]; rfl) | (rw [h0,h]; rfl),?_⟩
 conv => whnf
 refine Tri.cond _ rfl (fun hc => ?_) (fun hc => ?_)
 ·refine Tri.seq ?_
  refine Tri.region ti_ok ?_
  conv => whnf
  refine Tri.ret ?_
  conv => whnf
  refine DLe.of_eq (congrArg D.bool ?_)
  rw [targetOk,if_pos]
  by_cases h1 : s.length < 1
  ·exact .inl h1
  ·right; have h1' : ¬ (s.length : Int) < 1:=by omega
   simp [h1'] at hc; omega
 ·refine Tri.skip ?_
  have h1 : ¬ (s.length < 1 ∨ 128 < s.length):=by
   by_cases h1 : (s.length : Int) < 1
   ·simp [h1] at hc
   ·simp [h1] at hc; omega
  conv => whnf
  refine Tri.seq ?_
  refine Tri.seq ?_
  refine Tri.region ti_ok ?_
  conv => whnf
  refine Tri.cond _ rfl (fun hc => ?_) (fun hc => ?_)
  ·refine Tri.seq ?_
   refine Tri.region ti_ok ?_
   conv => whnf
   refine Tri.ret ?_
   conv => whnf
   exact DLe.of_eq (congrArg D.bool (by rw [targetOk,if_neg h1,if_pos (by simpa using hc)]))
  ·refine Tri.skip ?_
   have h2 : s ≠ [47]:=by simpa using hc
   have hT : targetOk s = (splitG 47 [] (cutSlash s)).all partOk:=by rw [targetOk,if_neg h1,if_neg h2]
   have hcl:=cutSlash_len s
   obtain ⟨hgl,hgp⟩:=splitG_len (c:=47) (cutSlash s) []
   conv => whnf
   refine Tri.joinK (α:=Unit) (fun x => [(0,.str (cutSlash s))]) (fun x => []) ?_ ?_
   ·refine Tri.seq ?_
    refine Tri.region ti_ok ?_
    conv => whnf
    refine ⟨s.getD 0 0,fun _ => ⟨by omega,bA_get s (by omega)⟩,?_⟩
    conv => whnf
    have hbe:=byte_eq (s.getD 0 0) 47 (by decide)
    refine Tri.cond _ rfl (fun hc => ?_) (fun hc => ?_)
    ·refine Tri.region ti_ok ?_
     conv => whnf
     refine ⟨fun _ => by simp; omega,?_⟩
     conv => whnf
     have hcs : cutSlash s = (s.take (s.length : Int).toNat).drop (1 : Int).toNat:=by
      have h47 : s.getD 0 0 = 47:=by simpa using hbe.symm.trans hc
      rw [Int.toNat_natCast,List.take_length,show (1 : Int).toNat = 1 from rfl]
      cases s with
      | nil => simp at h1
      | cons b r => simp at h47; simp [cutSlash,h47]
     exact ⟨(),[],⟨DLe.of_eq (congrArg D.str hcs.symm),trivial⟩,rfl,trivial⟩
    ·refine Tri.skip ?_
     conv => whnf
     have hcs : cutSlash s = s:=by
      have h47 : s.getD 0 0 ≠ 47:=by simpa using hbe.symm.trans hc
      cases s with
      | nil => rfl
      | cons b r => simp at h47; simp [cutSlash,h47]
     exact ⟨(),[],⟨DLe.of_eq (congrArg D.str hcs.symm),trivial⟩,rfl,trivial⟩
   ·rintro ⟨⟩
    refine Tri.seq ?_
    refine Tri.region ti_ok ?_
    conv => whnf
    refine ⟨[.str (cutSlash s),.int .u8 (47 : UInt8).toNat],_,fun _ => F44 _ 47 (by omega),⟨.refl _,.refl _,trivial⟩,?_⟩
    conv => whnf
    refine Tri.seq ?_
    refine Tri.seq ?_
    refine Tri.region ti_ok ?_
    conv => whnf
    refine Tri.block ?_
    refine Tri.loop (α:={ i : Nat // i ≤ (splitG 47 [] (cutSlash s)).length ∧ ∀ j (h : j < (splitG 47 [] (cutSlash s)).length),j < i → partOk (splitG 47 [] (cutSlash s))[j] = true })
     (fun x => [(3,.sl .none 1 (strs (splitG 47 [] (cutSlash s)))),(4,.int .i64 x.1)]) (fun _ => []) (fun x => (splitG 47 [] (cutSlash s)).length - x.1) ⟨0,by simp⟩ ⟨.refl _,.refl _,trivial⟩ trivial ?_
    rintro ⟨i,hi,hp⟩
    dsimp only
    refine Tri.seq ?_
    refine Tri.seq ?_
    refine Tri.region ti_ok ?_
    conv => whnf
    refine Tri.cond _ rfl (fun hc => ?_) (fun hc => ?_)
    ·refine Tri.skip ?_
     have hia : i < (splitG 47 [] (cutSlash s)).length:=by simpa [strs] using hc
     have hpl:=hgp _ (List.getElem_mem hia)
     conv => whnf
     refine Tri.seq ?_
     refine Tri.block ?_
     refine Tri.seq ?_
     refine Tri.region ti_ok ?_
     conv => whnf
     refine ⟨fun _ => by simp [strs]; omega,?_⟩
     conv => whnf
     refine ⟨.str (splitG 47 [] (cutSlash s))[i],fun _ => get_map _ hia,?_⟩
     conv => whnf
     refine ⟨fun h => h,?_⟩
     conv => whnf
     refine ⟨fun h => h,?_⟩
     conv => whnf
     refine ⟨fun _ => by simp [strs]; omega,?_⟩
     conv => whnf
     refine ⟨fun h => h,?_⟩
     conv => whnf
     refine ⟨.str (splitG 47 [] (cutSlash s))[i],fun _ => get_map _ hia,?_⟩
     conv => whnf
     refine ⟨fun h => h,?_⟩
     conv => whnf
     refine ⟨fun h0 h => by first | exact h | (rw [h]; rfl) | (rw [h0,h]; rfl),?_⟩
     conv => whnf
     refine ⟨fun h => h,?_⟩
     conv => whnf
     refine ⟨fun h => h,?_⟩
     conv => whnf
     refine ⟨fun _ => by simp [strs]; omega,?_⟩
     conv => whnf
     refine ⟨fun h => h,?_⟩
     conv => whnf
     refine ⟨.str (splitG 47 [] (cutSlash s))[i],fun _ => get_map _ hia,?_⟩
     conv => whnf
     refine ⟨fun h => h,?_⟩
     conv => whnf
     refine ⟨[.str (splitG 47 [] (cutSlash s))[i]],_,fun h => F94 _ (by simp at hpl; omega),⟨.refl _,trivial⟩,?_⟩
     conv => whnf
     refine ⟨fun h => h,?_⟩
     conv => whnf
     refine ⟨fun h0 h => by first | exact h | (rw [h]; rfl) | (rw [h0,h]; rfl),?_⟩
     conv => whnf
     have hcc:=part_cc (splitG 47 [] (cutSlash s))[i]
     refine Tri.cond _ rfl (fun hc => ?_) (fun hc => ?_)
     ·refine Tri.seq ?_
      refine Tri.region ti_ok ?_
      conv => whnf
      refine Tri.ret ?_
      conv => whnf
      exact DLe.of_eq (congrArg D.bool (by rw [hT,all_false hia (by simpa using hcc.symm.trans hc)]))
     ·refine Tri.skip ?_
      conv => whnf
      refine Tri.region ti_ok ?_
      conv => whnf
      refine .inl ⟨fun _ => by simp [InR]; omega,?_⟩
      conv => whnf
      exact ⟨⟨i + 1,by omega,below_next (hi:=hia) (by simpa using hcc.symm.trans hc) hp⟩,by show _ - (i + 1) < _ - i; omega,⟨.refl _,.refl _,trivial⟩,trivial⟩
    ·refine Tri.exit ?_
     conv => whnf
     refine Tri.seq ?_
     refine Tri.region ti_ok ?_
     conv => whnf
     refine Tri.ret ?_
     conv => whnf
     exact DLe.of_eq (congrArg D.bool (by rw [hT,all_true (by simpa [strs] using hc) hp]))
end Go.Tame.V
/- Contracts: the rules of a node. By program (mk.py). -/
namespace Go.Tame.V
open Go Go.Proofs
variable {W0 : World}
set_option maxRecDepth 10000
set_option linter.unusedVariables false
set_option linter.unusedSimpArgs false

theorem bif_or (a b : Bool) : (bif a then true else b) = (a || b):=by cases a <;> rfl
theorem bif_and (a b : Bool) : (bif a then b else false) = (a && b):=by cases a <;> rfl

/-- The first of f i,f (i + 1),.. (k of them) that is not zero. -/
def firstNZ (f : Nat → Int) : Nat → Nat → Int
 | _,0 => 0
 | i,k + 1 => if f i = 0 then firstNZ f (i + 1) k else f i
theorem nz_hit {f : Nat → Int} {i n : Nat} (h : i < n) (hf : f i ≠ 0) : firstNZ f i (n - i) = f i:=by
 obtain ⟨k,hk⟩ : ∃ k,n - i = k + 1:=⟨n - i - 1,by omega⟩
 rw [hk,firstNZ,if_neg hf]
theorem nz_miss {f : Nat → Int} {i n : Nat} (h : i < n) (hf : f i = 0) : firstNZ f i (n - i) = firstNZ f (i + 1) (n - (i + 1)):=by
 obtain ⟨k,hk⟩ : ∃ k,n - i = k + 1:=⟨n - i - 1,by omega⟩
 rw [hk,firstNZ,if_pos hf,show n - (i + 1) = k by omega]
theorem nz_end {f : Nat → Int} {i n : Nat} (h : ¬ i < n) : firstNZ f i (n - i) = 0:=by rw [show n - i = 0 by omega]; rfl

def ruleD (n : NV) (l : Int) : D:=.agg [.str n.name,.int .i64 n.kind,.str n.text,.str n.target,.int .i64 n.n1,.int .i64 n.n2,.int .i64 n.n3,.int .i64 n.n4,.int .i64 n.n5,.int .i64 n.n6,.sl .none 12 (n.kids.map enc),.sl .none 2 (n.streams.map encS),.int .i64 l]

def cKind (n : NV) (l : Int) : Bool:=(decide (n.kind < 0) || decide (2 < n.kind)) || (l == 1 && !(n.kind == 0))
def rKind (n : NV) (l : Int) : Int:=if cKind n l then 1 else 0
theorem F78 (n : NV) (l : Int) : DFun Tryz.prog W0 184 [ruleD n l] (.int .i64 (rKind n l)):=by
 refine DFun.intro ti_ok Tryz.func184 rfl (by decide +kernel) Tryz.ntmps184 rfl fun Γ => ?_
 refine Tri.seq ?_
 refine Tri.region ti_ok ?_
 conv => whnf
 intro b
 conv => whnf
 refine Tri.seq ?_
 refine Tri.seq ?_
 refine Tri.region ti_ok ?_
 conv => whnf
 refine ⟨rfl,?_⟩
 conv => whnf
 refine ⟨fun h => h,?_⟩
 conv => whnf
 refine ⟨fun h => h,?_⟩
 conv => whnf
 refine ⟨rfl,?_⟩
 conv => whnf
 refine ⟨fun h => h,?_⟩
 conv => whnf
 refine ⟨fun h0 h => by first | exact h | (rw [h]; rfl) | (rw [h0,h]; rfl),?_⟩
 conv => whnf
 refine ⟨fun h => h,?_⟩
 conv => whnf
 refine ⟨rfl,?_⟩
 conv => whnf
 refine ⟨fun h => h,?_⟩
 conv => whnf
 refine ⟨fun h => h,?_⟩
 conv => whnf
 refine ⟨fun h => h,?_⟩
 conv => whnf
 refine ⟨fun h => h,?_⟩
 conv => whnf
 refine ⟨rfl,?_⟩
 conv => whnf
 refine ⟨fun h => h,?_⟩
 conv => whnf
 refine ⟨fun h => h,?_⟩
 conv => whnf
 refine ⟨fun h0 h => by first | exact h | (rw [h]; rfl) | (rw [h0,h]; rfl),?_⟩
 conv => whnf
 refine ⟨fun h0 h => by first | exact h | (rw [h]; rfl) | (rw [h0,h]; rfl),?_⟩
 conv => whnf
 refine Tri.cond (cKind n l) (by simp only [cKind,← bif_or,← bif_and]; rfl) (fun hc => ?_) (fun hc => ?_)
 ·refine Tri.seq ?_
  refine Tri.region ti_ok ?_
  conv => whnf
  refine Tri.ret ?_
  conv => whnf
  exact intDLe (by rw [rKind,hc]; rfl)
 ·refine Tri.skip ?_
  conv => whnf
  refine Tri.seq ?_
  refine Tri.region ti_ok ?_
  conv => whnf
  refine Tri.ret ?_
  conv => whnf
  exact intDLe (by rw [rKind,hc]; rfl)

def cName (n : NV) (l : Int) : Bool:=(l == 1 && !(n.name == [])) || (decide (1 < l) && !nameOk n.name)
def rName (n : NV) (l : Int) : Int:=if cName n l then 4 else 0
theorem F79 (hL : LibOk W0) (n : NV) (l : Int) (hn : n.name.length < 1000000000) : DFun Tryz.prog W0 185 [ruleD n l] (.int .i64 (rName n l)):=by
 refine DFun.intro ti_ok Tryz.func185 rfl (by decide +kernel) Tryz.ntmps185 rfl fun Γ => ?_
 refine Tri.seq ?_
 refine Tri.region ti_ok ?_
 conv => whnf
 intro b
 conv => whnf
 refine Tri.seq ?_
 refine Tri.seq ?_
 refine Tri.region ti_ok ?_
 conv => whnf
 refine ⟨rfl,?_⟩
 conv => whnf
 refine ⟨fun h => h,?_⟩
 conv => whnf
 refine ⟨fun h => h,?_⟩
 conv => whnf
 refine ⟨rfl,?_⟩
 conv => whnf
 refine ⟨fun h => h,?_⟩
 conv => whnf
 refine ⟨fun h0 h => by first | exact h | (rw [h]; rfl) | (rw [h0,h]; rfl),?_⟩
 conv => whnf
 refine ⟨fun h => h,?_⟩
 conv => whnf
 refine ⟨rfl,?_⟩
 conv => whnf
 refine ⟨fun h => h,?_⟩
 conv => whnf
 refine ⟨fun h => h,?_⟩
 conv => whnf
 refine ⟨fun h => h,?_⟩
 conv => whnf
 refine ⟨fun h => h,?_⟩
 conv => whnf
 refine ⟨rfl,?_⟩
 conv => whnf
 refine ⟨fun h => h,?_⟩
 conv => whnf
 refine ⟨[.str n.name],_,fun h => F100 hL _ hn,⟨.refl _,trivial⟩,?_⟩
 conv => whnf
 refine ⟨fun h => h,?_⟩
 conv => whnf
 refine ⟨fun h => h,?_⟩
 conv => whnf
 refine ⟨fun h0 h => by first | exact h | (rw [h]; rfl) | (rw [h0,h]; rfl),?_⟩
 conv => whnf
 refine ⟨fun h0 h => by first | exact h | (rw [h]; rfl) | (rw [h0,h]; rfl),?_⟩
 conv => whnf
 refine Tri.cond (cName n l) (by simp only [cName,← bif_or,← bif_and]; rfl) (fun hc => ?_) (fun hc => ?_)
 ·refine Tri.seq ?_
  refine Tri.region ti_ok ?_
  conv => whnf
  refine Tri.ret ?_
  conv => whnf
  exact intDLe (by rw [rName,hc]; rfl)
 ·refine Tri.skip ?_
  conv => whnf
  refine Tri.seq ?_
  refine Tri.region ti_ok ?_
  conv => whnf
  refine Tri.ret ?_
  conv => whnf
  exact intDLe (by rw [rName,hc]; rfl)

def cParts (n : NV) : Bool:=((!(n.kind == 1) && (!(n.text == []) || decide (0 < (n.streams.length : Int)))) || (!(n.kind == 2) && !(n.target == []))) || (!(n.kind == 0) && decide (0 < (n.kids.length : Int)))
def rParts (n : NV) : Int:=if cParts n then 1 else 0
theorem F80 (n : NV) (l : Int) : DFun Tryz.prog W0 186 [ruleD n l] (.int .i64 (rParts n)):=by
 refine DFun.intro ti_ok Tryz.func186 rfl (by decide +kernel) Tryz.ntmps186 rfl fun Γ => ?_
 refine Tri.seq ?_
 refine Tri.region ti_ok ?_
 conv => whnf
 intro b
 conv => whnf
 refine Tri.seq ?_
 refine Tri.region ti_ok ?_
 conv => whnf
 refine ⟨rfl,?_⟩
 conv => whnf
 intro b2
 conv => whnf
 refine ⟨rfl,?_⟩
 conv => whnf
 refine Tri.seq ?_
 refine Tri.seq ?_
 refine Tri.region ti_ok ?_
 conv => whnf
 refine ⟨rfl,?_⟩
 conv => whnf
 refine ⟨fun h => h,?_⟩
 conv => whnf
 refine ⟨rfl,?_⟩
 conv => whnf
 refine ⟨fun h => h,?_⟩
 conv => whnf
 refine ⟨fun h => h,?_⟩
 conv => whnf
 refine ⟨fun h => h,?_⟩
 conv => whnf
 refine ⟨rfl,?_⟩
 conv => whnf
 refine ⟨fun h => h,?_⟩
 conv => whnf
 refine ⟨fun h => h,?_⟩
 conv => whnf
 refine ⟨fun h => h,?_⟩
 conv => whnf
 refine ⟨fun h0 h => by first | exact h | (rw [h]; rfl) | (rw [h0,h]; rfl),?_⟩
 conv => whnf
 refine ⟨fun h0 h => by first | exact h | (rw [h]; rfl) | (rw [h0,h]; rfl),?_⟩
 conv => whnf
 refine ⟨fun h => h,?_⟩
 conv => whnf
 refine ⟨rfl,?_⟩
 conv => whnf
 refine ⟨fun h => h,?_⟩
 conv => whnf
 refine ⟨fun h => h,?_⟩
 conv => whnf
 refine ⟨fun h => h,?_⟩
 conv => whnf
 refine ⟨rfl,?_⟩
 conv => whnf
 refine ⟨fun h => h,?_⟩
 conv => whnf
 refine ⟨fun h => h,?_⟩
 conv => whnf
 refine ⟨fun h0 h => by first | exact h | (rw [h]; rfl) | (rw [h0,h]; rfl),?_⟩
 conv => whnf
 refine ⟨fun h0 h => by first | exact h | (rw [h]; rfl) | (rw [h0,h]; rfl),?_⟩
 conv => whnf
 refine ⟨fun h => h,?_⟩
 conv => whnf
 refine ⟨rfl,?_⟩
 conv => whnf
 refine ⟨fun h => h,?_⟩
 conv => whnf
 refine ⟨fun h => h,?_⟩
 conv => whnf
 refine ⟨fun h => h,?_⟩
 conv => whnf
 refine ⟨rfl,?_⟩
 conv => whnf
 refine ⟨fun h => h,?_⟩
 conv => whnf
 refine ⟨fun h => h,?_⟩
 conv => whnf
 refine ⟨fun h => h,?_⟩
 conv => whnf
 refine ⟨fun h0 h => by first | exact h | (rw [h]; rfl) | (rw [h0,h]; rfl),?_⟩
 conv => whnf
 refine ⟨fun h0 h => by first | exact h | (rw [h]; rfl) | (rw [h0,h]; rfl),?_⟩
 conv => whnf
 refine Tri.cond (cParts n) ?_ (fun hc => ?_) (fun hc => ?_)
 ·simp only [cParts,← bif_or,← bif_and]
  rw [show n.streams.length = (n.streams.map encS).length by simp,show n.kids.length = (n.kids.map enc).length by simp]; rfl
 ·refine Tri.seq ?_
  refine Tri.region ti_ok ?_
  conv => whnf
  refine Tri.ret ?_
  conv => whnf
  exact intDLe (by rw [rParts,hc]; rfl)
 ·refine Tri.skip ?_
  conv => whnf
  refine Tri.seq ?_
  refine Tri.region ti_ok ?_
  conv => whnf
  refine Tri.ret ?_
  conv => whnf
  exact intDLe (by rw [rParts,hc]; rfl)

def cTarget (n : NV) : Bool:=n.kind == 2 && !targetOk n.target
def rTarget (n : NV) : Int:=if cTarget n then 4 else 0
theorem F81 (hL : LibOk W0) (n : NV) (l : Int) (hn : n.target.length < 1000000000) : DFun Tryz.prog W0 187 [ruleD n l] (.int .i64 (rTarget n)):=by
 refine DFun.intro ti_ok Tryz.func187 rfl (by decide +kernel) Tryz.ntmps187 rfl fun Γ => ?_
 refine Tri.seq ?_
 refine Tri.region ti_ok ?_
 conv => whnf
 intro b
 conv => whnf
 refine Tri.seq ?_
 refine Tri.seq ?_
 refine Tri.region ti_ok ?_
 conv => whnf
 refine ⟨rfl,?_⟩
 conv => whnf
 refine ⟨fun h => h,?_⟩
 conv => whnf
 refine ⟨fun h => h,?_⟩
 conv => whnf
 refine ⟨rfl,?_⟩
 conv => whnf
 refine ⟨fun h => h,?_⟩
 conv => whnf
 refine ⟨[.str n.target],_,fun h => F101 hL _ hn,⟨.refl _,trivial⟩,?_⟩
 conv => whnf
 refine ⟨fun h => h,?_⟩
 conv => whnf
 refine ⟨fun h0 h => by first | exact h | (rw [h]; rfl) | (rw [h0,h]; rfl),?_⟩
 conv => whnf
 refine Tri.cond (cTarget n) (by simp only [cTarget,← bif_or,← bif_and]; rfl) (fun hc => ?_) (fun hc => ?_)
 ·refine Tri.seq ?_
  refine Tri.region ti_ok ?_
  conv => whnf
  refine Tri.ret ?_
  conv => whnf
  exact intDLe (by rw [rTarget,hc]; rfl)
 ·refine Tri.skip ?_
  conv => whnf
  refine Tri.seq ?_
  refine Tri.region ti_ok ?_
  conv => whnf
  refine Tri.ret ?_
  conv => whnf
  exact intDLe (by rw [rTarget,hc]; rfl)

def within (n a b : Int) : Bool:=decide (a ≤ n) && decide (n ≤ b)
theorem F102 (n a b : Int) : DFun Tryz.prog W0 224 [.int .i64 n,.int .i64 a,.int .i64 b] (.bool (within n a b)):=by
 refine DFun.intro ti_ok Tryz.func224 rfl (by decide +kernel) Tryz.ntmps224 rfl fun Γ => ?_
 refine Tri.seq ?_
 refine Tri.region ti_ok ?_
 conv => whnf
 refine Tri.seq ?_
 refine Tri.region ti_ok ?_
 conv => whnf
 refine ⟨fun h => h,?_⟩
 conv => whnf
 refine ⟨fun h => h,?_⟩
 conv => whnf
 refine ⟨fun h0 h => by first | exact h | (rw [h]; rfl) | (rw [h0,h]; rfl),?_⟩
 conv => whnf
 refine Tri.ret ?_
 conv => whnf
 exact DLe.of_eq (congrArg D.bool (bif_and _ _))
def cNumbers (n : NV) : Bool:=((((!within n.n1 0 4095 || !within n.n2 0 65535) || !within n.n3 0 65535) || !within n.n4 315532800 4102444799) || !within n.n5 (-1048576) 1048576) || !within n.n6 0 15
def rNumbers (n : NV) : Int:=if cNumbers n then 2 else 0
theorem F82 (n : NV) (l : Int) : DFun Tryz.prog W0 188 [ruleD n l] (.int .i64 (rNumbers n)):=by
 refine DFun.intro ti_ok Tryz.func188 rfl (by decide +kernel) Tryz.ntmps188 rfl fun Γ => ?_
 refine Tri.seq ?_
 refine Tri.region ti_ok ?_
 conv => whnf
 intro b
 conv => whnf
 refine Tri.seq ?_
 refine Tri.region ti_ok ?_
 conv => whnf
 refine ⟨rfl,?_⟩
 conv => whnf
 intro b2
 conv => whnf
 refine ⟨rfl,?_⟩
 conv => whnf
 refine Tri.seq ?_
 refine Tri.region ti_ok ?_
 conv => whnf
 refine Tri.seq ?_
 refine Tri.seq ?_
 refine Tri.region ti_ok ?_
 conv => whnf
 refine ⟨rfl,?_⟩
 conv => whnf
 refine ⟨[.int .i64 n.n1,.int .i64 0,.int .i64 4095],_,fun h => F102 _ _ _,⟨.refl _,.refl _,.refl _,trivial⟩,?_⟩
 conv => whnf
 refine ⟨fun h => h,?_⟩
 conv => whnf
 refine ⟨rfl,?_⟩
 conv => whnf
 refine ⟨fun h => h,?_⟩
 conv => whnf
 refine ⟨fun h => h,?_⟩
 conv => whnf
 refine ⟨[.int .i64 n.n2,.int .i64 0,.int .i64 65535],_,fun h => F102 _ _ _,⟨.refl _,.refl _,.refl _,trivial⟩,?_⟩
 conv => whnf
 refine ⟨fun h => h,?_⟩
 conv => whnf
 refine ⟨fun h0 h => by first | exact h | (rw [h]; rfl) | (rw [h0,h]; rfl),?_⟩
 conv => whnf
 refine ⟨fun h => h,?_⟩
 conv => whnf
 refine ⟨rfl,?_⟩
 conv => whnf
 refine ⟨fun h => h,?_⟩
 conv => whnf
 refine ⟨fun h => h,?_⟩
 conv => whnf
 refine ⟨[.int .i64 n.n3,.int .i64 0,.int .i64 65535],_,fun h => F102 _ _ _,⟨.refl _,.refl _,.refl _,trivial⟩,?_⟩
 conv => whnf
 refine ⟨fun h => h,?_⟩
 conv => whnf
 refine ⟨fun h0 h => by first | exact h | (rw [h]; rfl) | (rw [h0,h]; rfl),?_⟩
 conv => whnf
 refine ⟨fun h => h,?_⟩
 conv => whnf
 refine ⟨rfl,?_⟩
 conv => whnf
 refine ⟨fun h => h,?_⟩
 conv => whnf
 refine ⟨fun h => h,?_⟩
 conv => whnf
 refine ⟨[.int .i64 n.n4,.int .i64 315532800,.int .i64 4102444799],_,fun h => F102 _ _ _,⟨.refl _,.refl _,.refl _,trivial⟩,?_⟩
 conv => whnf
 refine ⟨fun h => h,?_⟩
 conv => whnf
 refine ⟨fun h0 h => by first | exact h | (rw [h]; rfl) | (rw [h0,h]; rfl),?_⟩
 conv => whnf
 refine ⟨fun h => h,?_⟩
 conv => whnf
 refine ⟨rfl,?_⟩
 conv => whnf
 refine ⟨fun h => h,?_⟩
 conv => whnf
 refine ⟨fun h => h,?_⟩
 conv => whnf
 refine ⟨[.int .i64 n.n5,.int .i64 (-1048576),.int .i64 1048576],_,fun h => F102 _ _ _,⟨.refl _,.refl _,.refl _,trivial⟩,?_⟩
 conv => whnf
 refine ⟨fun h => h,?_⟩
 conv => whnf
 refine ⟨fun h0 h => by first | exact h | (rw [h]; rfl) | (rw [h0,h]; rfl),?_⟩
 conv => whnf
 refine ⟨fun h => h,?_⟩
 conv => whnf
 refine ⟨rfl,?_⟩
 conv => whnf
 refine ⟨fun h => h,?_⟩
 conv => whnf
 refine ⟨fun h => h,?_⟩
 conv => whnf
 refine ⟨[.int .i64 n.n6,.int .i64 0,.int .i64 15],_,fun h => F102 _ _ _,⟨.refl _,.refl _,.refl _,trivial⟩,?_⟩
 conv => whnf
 refine ⟨fun h => h,?_⟩
 conv => whnf
 refine ⟨fun h0 h => by first | exact h | (rw [h]; rfl) | (rw [h0,h]; rfl),?_⟩
 conv => whnf
 refine Tri.cond (cNumbers n) (by simp only [cNumbers,← bif_or]; rfl) (fun hc => ?_) (fun hc => ?_)
 ·refine Tri.seq ?_
  refine Tri.region ti_ok ?_
  conv => whnf
  refine Tri.ret ?_
  conv => whnf
  exact intDLe (by rw [rNumbers,hc]; rfl)
 ·refine Tri.skip ?_
  conv => whnf
  refine Tri.seq ?_
  refine Tri.region ti_ok ?_
  conv => whnf
  refine Tri.ret ?_
  conv => whnf
  exact intDLe (by rw [rNumbers,hc]; rfl)
theorem F112 (n : NV) : DFun Tryz.prog W0 213 [encTop n] (.bool (!cNumbers n)):=by
 refine DFun.intro ti_ok Tryz.func213 rfl (by decide +kernel) Tryz.ntmps213 rfl fun Γ => ?_
 refine Tri.seq ?_
 refine Tri.region ti_ok ?_
 conv => whnf
 intro b
 conv => whnf
 refine Tri.seq ?_
 refine Tri.region ti_ok ?_
 conv => whnf
 refine ⟨rfl,?_⟩
 conv => whnf
 refine ⟨fun h => h,?_⟩
 conv => whnf
 refine ⟨rfl,?_⟩
 conv => whnf
 refine ⟨fun h => h,?_⟩
 conv => whnf
 refine ⟨fun h0 h => by first | exact h | (rw [h]; rfl) | (rw [h0,h]; rfl),?_⟩
 conv => whnf
 refine ⟨fun h => h,?_⟩
 conv => whnf
 refine ⟨rfl,?_⟩
 conv => whnf
 refine ⟨fun h => h,?_⟩
 conv => whnf
 refine ⟨fun h0 h => by first | exact h | (rw [h]; rfl) | (rw [h0,h]; rfl),?_⟩
 conv => whnf
 refine ⟨fun h => h,?_⟩
 conv => whnf
 refine ⟨rfl,?_⟩
 conv => whnf
 refine ⟨fun h => h,?_⟩
 conv => whnf
 refine ⟨fun h0 h => by first | exact h | (rw [h]; rfl) | (rw [h0,h]; rfl),?_⟩
 conv => whnf
 refine ⟨fun h => h,?_⟩
 conv => whnf
 refine ⟨rfl,?_⟩
 conv => whnf
 refine ⟨fun h => h,?_⟩
 conv => whnf
 refine ⟨fun h0 h => by first | exact h | (rw [h]; rfl) | (rw [h0,h]; rfl),?_⟩
 conv => whnf
 refine ⟨fun h => h,?_⟩
 conv => whnf
 refine ⟨rfl,?_⟩
 conv => whnf
 refine ⟨fun h => h,?_⟩
 conv => whnf
 refine ⟨fun h0 h => by first | exact h | (rw [h]; rfl) | (rw [h0,h]; rfl),?_⟩
 conv => whnf
 refine ⟨fun h => h,?_⟩
 conv => whnf
 refine ⟨rfl,?_⟩
 conv => whnf
 refine ⟨fun h => h,?_⟩
 conv => whnf
 refine ⟨fun h0 h => by first | exact h | (rw [h]; rfl) | (rw [h0,h]; rfl),?_⟩
 conv => whnf
 refine ⟨fun h => h,?_⟩
 conv => whnf
 refine ⟨rfl,?_⟩
 conv => whnf
 refine ⟨fun h => h,?_⟩
 conv => whnf
 refine ⟨fun h0 h => by first | exact h | (rw [h]; rfl) | (rw [h0,h]; rfl),?_⟩
 conv => whnf
 refine ⟨fun h => h,?_⟩
 conv => whnf
 refine ⟨rfl,?_⟩
 conv => whnf
 refine ⟨fun h => h,?_⟩
 conv => whnf
 refine ⟨fun h0 h => by first | exact h | (rw [h]; rfl) | (rw [h0,h]; rfl),?_⟩
 conv => whnf
 refine ⟨fun h => h,?_⟩
 conv => whnf
 refine ⟨rfl,?_⟩
 conv => whnf
 refine ⟨fun h => h,?_⟩
 conv => whnf
 refine ⟨fun h0 h => by first | exact h | (rw [h]; rfl) | (rw [h0,h]; rfl),?_⟩
 conv => whnf
 refine ⟨fun h => h,?_⟩
 conv => whnf
 refine ⟨rfl,?_⟩
 conv => whnf
 refine ⟨fun h => h,?_⟩
 conv => whnf
 refine ⟨fun h0 h => by first | exact h | (rw [h]; rfl) | (rw [h0,h]; rfl),?_⟩
 conv => whnf
 refine ⟨fun h => h,?_⟩
 conv => whnf
 refine ⟨rfl,?_⟩
 conv => whnf
 refine ⟨fun h => h,?_⟩
 conv => whnf
 refine ⟨fun h0 h => by first | exact h | (rw [h]; rfl) | (rw [h0,h]; rfl),?_⟩
 conv => whnf
 refine Tri.ret ?_
 conv => whnf
 refine DLe.of_eq (congrArg D.bool ?_)
 simp only [cNumbers,within,Bool.not_or,Bool.not_not,← bif_and]
 simp only [bif_and,Bool.and_assoc]
end Go.Tame.V
/- Contracts: the rules of a node,with loops. By program (mk.py). -/
namespace Go.Tame.V
open Go Go.Proofs
variable {W0 : World}
set_option maxRecDepth 10000
set_option linter.unusedVariables false
set_option linter.unusedSimpArgs false

theorem cmp_zero : ∀ a b : List UInt8,Lib.compareBytes a b = 0 ↔ a = b
 | [],[] => by simp [Lib.compareBytes]
 | [],_::_ => by simp [Lib.compareBytes]
 | _::_,[] => by simp [Lib.compareBytes]
 | a::xs,b::bs => by
  have ih:=cmp_zero xs bs
  simp only [Lib.compareBytes,List.cons.injEq]
  by_cases h1 : a < b
  ·rw [if_pos h1]
   exact ⟨fun h => by simp at h,fun h => by rw [h.1] at h1; exact absurd h1 (UInt8.lt_irrefl _)⟩
  ·rw [if_neg h1]
   by_cases h2 : b < a
   ·rw [if_pos h2]
    exact ⟨fun h => by simp at h,fun h => by rw [h.1] at h2; exact absurd h2 (UInt8.lt_irrefl _)⟩
   ·rw [if_neg h2,ih]
    have : a = b:=UInt8.le_antisymm (UInt8.not_lt.1 h2) (UInt8.not_lt.1 h1)
    simp [this]
theorem cmp_one : ∀ a b : List UInt8,Lib.compareBytes a b = 1 ↔ Op.bytesLess b a = true
 | [],[] => by simp [Lib.compareBytes,Op.bytesLess]
 | [],_::_ => by simp [Lib.compareBytes,Op.bytesLess]
 | _::_,[] => by simp [Lib.compareBytes,Op.bytesLess]
 | a::xs,b::bs => by
  have ih:=cmp_one xs bs
  simp only [Lib.compareBytes,Op.bytesLess,Bool.or_eq_true,Bool.and_eq_true,decide_eq_true_eq,beq_iff_eq]
  by_cases h1 : a < b
  ·rw [if_pos h1]
   refine ⟨fun h => by simp at h,fun h => ?_⟩
   rcases h with h | ⟨h,_⟩
   ·exact absurd (UInt8.lt_trans h h1) (UInt8.lt_irrefl _)
   ·rw [h] at h1; exact absurd h1 (UInt8.lt_irrefl _)
  ·rw [if_neg h1]
   by_cases h2 : b < a
   ·rw [if_pos h2]; simp [h2]
   ·rw [if_neg h2,ih]
    have : b = a:=UInt8.le_antisymm (UInt8.not_lt.1 h1) (UInt8.not_lt.1 h2)
    simp [this,UInt8.lt_irrefl]
theorem cmp_range : ∀ a b : List UInt8,Lib.compareBytes a b = -1 ∨ Lib.compareBytes a b = 0 ∨ Lib.compareBytes a b = 1
 | [],[] => by simp [Lib.compareBytes]
 | [],_::_ => by simp [Lib.compareBytes]
 | _::_,[] => by simp [Lib.compareBytes]
 | a::xs,b::bs => by
  have ih:=cmp_range xs bs
  simp only [Lib.compareBytes]
  split
  ·simp
  ·split
   ·simp
   ·exact ih
def ordE (a b : List UInt8) : Int:=if a = b then 5 else if Op.bytesLess b a then 1 else 0
theorem F103 (a b : List UInt8) : DFun Tryz.prog W0 225 [.str a,.str b] (.int .i64 (ordE a b)):=by
 refine DFun.intro ti_ok Tryz.func225 rfl (by decide +kernel) Tryz.ntmps225 rfl fun Γ => ?_
 refine Tri.seq ?_
 refine Tri.region ti_ok ?_
 conv => whnf
 refine Tri.seq ?_
 refine Tri.seq ?_
 refine Tri.region ti_ok ?_
 conv => whnf
 refine ⟨_,_,fun _ => F110 a b,⟨.refl _,.refl _,trivial⟩,?_⟩
 conv => whnf
 refine Tri.block ?_
 refine Tri.seq ?_
 refine Tri.region ti_ok ?_
 conv => whnf
 refine Tri.cond _ rfl (fun hc => ?_) (fun hc => ?_)
 ·refine Tri.seq ?_
  refine Tri.region ti_ok ?_
  conv => whnf
  refine Tri.ret ?_
  conv => whnf
  exact intDLe (by rw [ordE,if_pos ((cmp_zero a b).1 (by simpa using hc))])
 ·refine Tri.seq ?_
  have h0 : a ≠ b:=fun e => by have:=(cmp_zero a b).2 e; rw [this] at hc; simp at hc
  refine Tri.region ti_ok ?_
  conv => whnf
  refine Tri.cond _ rfl (fun hc => ?_) (fun hc => ?_)
  ·refine Tri.seq ?_
   refine Tri.region ti_ok ?_
   conv => whnf
   refine Tri.ret ?_
   conv => whnf
   exact intDLe (by rw [ordE,if_neg h0,if_pos ((cmp_one a b).1 (by simpa using hc))])
  ·refine Tri.skip ?_
   conv => whnf
   refine Tri.seq ?_
   refine Tri.region ti_ok ?_
   conv => whnf
   refine Tri.ret ?_
   conv => whnf
   exact intDLe (by rw [ordE,if_neg h0,if_neg]; intro e; have:=(cmp_one a b).2 e; rw [this] at hc; simp at hc)

def stAt (n : NV) (i : Nat) : SV:=n.streams.getD i default
def kAt (n : NV) (i : Nat) : NV:=n.kids.getD i default
theorem get_st (n : NV) {i : Nat} (h : i < n.streams.length) : (n.streams.map encS)[i]? = some (encS (stAt n i)):=by simp [stAt,List.getD,h]
theorem get_kk (n : NV) {i : Nat} (h : i < n.kids.length) : (n.kids.map enc)[i]? = some (encTop (kAt n i)):=by rw [← enc_eq]; simp [kAt,List.getD,h]
theorem pred_toNat {i : Nat} (h : 0 < i) : ((i : Int) - 1).toNat = i - 1:=by omega
theorem st_sz (n : NV) {i : Nat} (h : i < n.streams.length) : (stAt n i).name.length + (stAt n i).target.length + 2 ≤ sz n:=by
 have h1:=szS_get h
 have h2:=sz_eq n
 have : stAt n i = n.streams[i]:=by simp [stAt,List.getD,h]
 rw [this]; omega
theorem streams_len (n : NV) : 2 * n.streams.length + 2 ≤ sz n:=by have:=szS_len n.streams; have:=sz_eq n; omega

def cSizes (n : NV) (l : Int) : Bool:=((decide (16 < l) || decide (262144 < (n.text.length : Int))) || decide (64 < (n.kids.length : Int))) || decide (4 < (n.streams.length : Int))
def fZ (n : NV) (i : Nat) : Int:=if decide (262144 < ((stAt n i).target.length : Int)) then 7 else 0
def rSizes (n : NV) (l : Int) : Int:=if cSizes n l then 7 else firstNZ (fZ n) 0 n.streams.length
theorem F83 (n : NV) (l : Int) (hz : sz n < 1000000000) : DFun Tryz.prog W0 189 [ruleD n l] (.int .i64 (rSizes n l)):=by
 refine DFun.intro ti_ok Tryz.func189 rfl (by decide +kernel) Tryz.ntmps189 rfl fun Γ => ?_
 refine Tri.seq ?_
 refine Tri.region ti_ok ?_
 conv => whnf
 intro b
 conv => whnf
 refine Tri.seq ?_
 refine Tri.region ti_ok ?_
 conv => whnf
 refine ⟨rfl,?_⟩
 conv => whnf
 intro b2
 conv => whnf
 refine ⟨rfl,?_⟩
 conv => whnf
 refine Tri.seq ?_
 refine Tri.seq ?_
 refine Tri.region ti_ok ?_
 conv => whnf
 refine ⟨rfl,?_⟩
 conv => whnf
 refine ⟨fun h => h,?_⟩
 conv => whnf
 refine ⟨rfl,?_⟩
 conv => whnf
 refine ⟨fun h => h,?_⟩
 conv => whnf
 refine ⟨fun h => h,?_⟩
 conv => whnf
 refine ⟨fun h0 h => by first | exact h | (rw [h]; rfl) | (rw [h0,h]; rfl),?_⟩
 conv => whnf
 refine ⟨fun h => h,?_⟩
 conv => whnf
 refine ⟨rfl,?_⟩
 conv => whnf
 refine ⟨fun h => h,?_⟩
 conv => whnf
 refine ⟨fun h => h,?_⟩
 conv => whnf
 refine ⟨fun h0 h => by first | exact h | (rw [h]; rfl) | (rw [h0,h]; rfl),?_⟩
 conv => whnf
 refine ⟨fun h => h,?_⟩
 conv => whnf
 refine ⟨rfl,?_⟩
 conv => whnf
 refine ⟨fun h => h,?_⟩
 conv => whnf
 refine ⟨fun h => h,?_⟩
 conv => whnf
 refine ⟨fun h0 h => by first | exact h | (rw [h]; rfl) | (rw [h0,h]; rfl),?_⟩
 conv => whnf
 refine Tri.cond (cSizes n l) ?_ (fun hc => ?_) (fun hc => ?_)
 ·simp only [cSizes,← bif_or,← bif_and]
  rw [show n.streams.length = (n.streams.map encS).length by simp,show n.kids.length = (n.kids.map enc).length by simp]; rfl
 ·refine Tri.seq ?_
  refine Tri.region ti_ok ?_
  conv => whnf
  refine Tri.ret ?_
  conv => whnf
  exact intDLe (by rw [rSizes,hc]; rfl)
 ·refine Tri.skip ?_
  have hR : rSizes n l = firstNZ (fZ n) 0 (n.streams.length - 0):=by rw [rSizes,hc]; rfl
  have hsl:=streams_len n
  conv => whnf
  refine Tri.seq ?_
  refine Tri.seq ?_
  refine Tri.region ti_ok ?_
  conv => whnf
  refine ⟨rfl,?_⟩
  conv => whnf
  refine Tri.block ?_
  refine Tri.loop (α:={ i : Nat // i ≤ n.streams.length ∧ rSizes n l = firstNZ (fZ n) i (n.streams.length - i) }) (fun x => [(30,.sl .none 2 (n.streams.map encS)),(31,.int .i64 (n.streams.map encS).length),(32,.int .i64 x.1)]) (fun _ => []) (fun x => n.streams.length - x.1) ⟨0,by omega,hR⟩ ⟨.refl _,.refl _,.refl _,trivial⟩ trivial ?_
  rintro ⟨i,hi,hp⟩
  dsimp only
  refine Tri.seq ?_
  refine Tri.region ti_ok ?_
  conv => whnf
  refine Tri.seq ?_
  refine Tri.cond _ rfl (fun hc => ?_) (fun hc => ?_)
  ·refine Tri.skip ?_
   conv => whnf
   have hia : i < n.streams.length:=by simpa using hc
   refine Tri.seq ?_
   refine Tri.block ?_
   refine Tri.seq ?_
   refine Tri.region ti_ok ?_
   conv => whnf
   refine ⟨fun _ => by simp; omega,?_⟩
   conv => whnf
   refine ⟨encS (stAt n i),fun _ => get_st n hia,?_⟩
   conv => whnf
   intro b3
   conv => whnf
   refine ⟨rfl,?_⟩
   conv => whnf
   refine Tri.seq ?_
   refine Tri.region ti_ok ?_
   conv => whnf
   refine ⟨rfl,?_⟩
   conv => whnf
   refine Tri.cond _ rfl (fun hc => ?_) (fun hc => ?_)
   ·refine Tri.seq ?_
    refine Tri.region ti_ok ?_
    conv => whnf
    refine Tri.ret ?_
    conv => whnf
    have hf : fZ n i = 7:=by rw [fZ,if_pos hc]
    exact intDLe (by rw [hp,nz_hit hia (by rw [hf]; decide),hf])
   ·refine Tri.skip ?_
    conv => whnf
    refine Tri.region ti_ok ?_
    conv => whnf
    refine .inl ⟨fun _ => by simp [InR]; omega,?_⟩
    conv => whnf
    exact ⟨⟨i + 1,by omega,by rw [hp,nz_miss hia (by rw [fZ,hc]; rfl)]⟩,by show _ - (i + 1) < _ - i; omega,⟨.refl _,.refl _,.refl _,trivial⟩,trivial⟩
  ·refine Tri.exit ?_
   conv => whnf
   refine Tri.seq ?_
   refine Tri.region ti_ok ?_
   conv => whnf
   refine Tri.ret ?_
   conv => whnf
   exact intDLe (by rw [hp,nz_end (by simpa using hc)])
theorem F113 (n : NV) (l : Int) (hz : sz n < 1000000000) : DFun Tryz.prog W0 214 [encTop n,.int .i64 l] (.bool (!(rSizes n l == 0))):=by
 refine DFun.intro ti_ok Tryz.func214 rfl (by decide +kernel) Tryz.ntmps214 rfl fun Γ => ?_
 refine Tri.seq ?_
 refine Tri.region ti_ok ?_
 conv => whnf
 intro b
 conv => whnf
 refine Tri.seq ?_
 refine Tri.seq ?_
 refine Tri.region ti_ok ?_
 conv => whnf
 refine ⟨fun h => h,?_⟩
 conv => whnf
 refine ⟨rfl,?_⟩
 conv => whnf
 refine ⟨fun h => h,?_⟩
 conv => whnf
 refine ⟨fun h => h,?_⟩
 conv => whnf
 refine ⟨fun h0 h => by first | exact h | (rw [h]; rfl) | (rw [h0,h]; rfl),?_⟩
 conv => whnf
 refine ⟨fun h => h,?_⟩
 conv => whnf
 refine ⟨rfl,?_⟩
 conv => whnf
 refine ⟨fun h => h,?_⟩
 conv => whnf
 refine ⟨fun h => h,?_⟩
 conv => whnf
 refine ⟨fun h0 h => by first | exact h | (rw [h]; rfl) | (rw [h0,h]; rfl),?_⟩
 conv => whnf
 refine ⟨fun h => h,?_⟩
 conv => whnf
 refine ⟨rfl,?_⟩
 conv => whnf
 refine ⟨fun h => h,?_⟩
 conv => whnf
 refine ⟨fun h => h,?_⟩
 conv => whnf
 refine ⟨fun h0 h => by first | exact h | (rw [h]; rfl) | (rw [h0,h]; rfl),?_⟩
 conv => whnf
 refine Tri.cond (cSizes n l) ?_ (fun hc => ?_) (fun hc => ?_)
 ·simp only [cSizes,← bif_or,← bif_and]
  rw [show n.streams.length = (n.streams.map encS).length by simp,show n.kids.length = (n.kids.map enc).length by simp]; rfl
 ·refine Tri.seq ?_
  refine Tri.region ti_ok ?_
  conv => whnf
  refine Tri.ret ?_
  conv => whnf
  exact DLe.of_eq (congrArg D.bool (by rw [rSizes,hc]; rfl))
 ·refine Tri.skip ?_
  have hR : rSizes n l = firstNZ (fZ n) 0 (n.streams.length - 0):=by rw [rSizes,hc]; rfl
  have hsl:=streams_len n
  conv => whnf
  refine Tri.seq ?_
  refine Tri.seq ?_
  refine Tri.region ti_ok ?_
  conv => whnf
  refine Tri.block ?_
  refine Tri.loop (α:={ i : Nat // i ≤ n.streams.length ∧ rSizes n l = firstNZ (fZ n) i (n.streams.length - i) }) (fun x => [(2,.box 2 b 0),(5,.int .i64 x.1)]) (fun _ => [(2,.box b [.str n.name,.int .i64 n.kind,.str n.text,.str n.target,.int .i64 n.n1,.int .i64 n.n2,.int .i64 n.n3,.int .i64 n.n4,.int .i64 n.n5,.int .i64 n.n6,.sl .none 12 (n.kids.map enc),.sl .none 2 (n.streams.map encS)])]) (fun x => n.streams.length - x.1) ⟨0,by omega,hR⟩ ⟨.refl _,.refl _,trivial⟩ ⟨rfl,trivial⟩ ?_
  rintro ⟨i,hi,hp⟩
  dsimp only
  refine Tri.seq ?_
  refine Tri.seq ?_
  refine Tri.region ti_ok ?_
  conv => whnf
  refine ⟨rfl,?_⟩
  conv => whnf
  refine Tri.cond _ rfl (fun hc => ?_) (fun hc => ?_)
  ·refine Tri.skip ?_
   conv => whnf
   have hia : i < n.streams.length:=by simpa using hc
   refine Tri.seq ?_
   refine Tri.block ?_
   refine Tri.seq ?_
   refine Tri.region ti_ok ?_
   conv => whnf
   refine ⟨rfl,?_⟩
   conv => whnf
   refine ⟨fun _ => by simp; omega,?_⟩
   conv => whnf
   refine ⟨encS (stAt n i),fun _ => get_st n hia,?_⟩
   conv => whnf
   refine Tri.cond _ rfl (fun hc => ?_) (fun hc => ?_)
   ·refine Tri.seq ?_
    refine Tri.region ti_ok ?_
    conv => whnf
    refine Tri.ret ?_
    conv => whnf
    have hf : fZ n i = 7:=by rw [fZ,if_pos hc]
    exact DLe.of_eq (congrArg D.bool (by rw [hp,nz_hit hia (by rw [hf]; decide),hf]; rfl))
   ·refine Tri.skip ?_
    conv => whnf
    refine Tri.region ti_ok ?_
    conv => whnf
    refine .inl ⟨fun _ => by simp [InR]; omega,?_⟩
    conv => whnf
    exact ⟨⟨i + 1,by omega,by rw [hp,nz_miss hia (by rw [fZ,hc]; rfl)]⟩,by show _ - (i + 1) < _ - i; omega,⟨.refl _,.refl _,trivial⟩,⟨rfl,trivial⟩⟩
  ·refine Tri.exit ?_
   conv => whnf
   refine Tri.seq ?_
   refine Tri.region ti_ok ?_
   conv => whnf
   refine Tri.ret ?_
   conv => whnf
   exact DLe.of_eq (congrArg D.bool (by rw [hp,nz_end (by simpa using hc)]; rfl))

def fS (n : NV) (i : Nat) : Int:=if nameOk (stAt n i).name then (if 0 < i then ordE (stAt n (i - 1)).name (stAt n i).name else 0) else 4
def rStreams (n : NV) : Int:=firstNZ (fS n) 0 n.streams.length
theorem F84 (hL : LibOk W0) (n : NV) (l : Int) (hz : sz n < 1000000000) : DFun Tryz.prog W0 190 [ruleD n l] (.int .i64 (rStreams n)):=by
 refine DFun.intro ti_ok Tryz.func190 rfl (by decide +kernel) Tryz.ntmps190 rfl fun Γ => ?_
 refine Tri.seq ?_
 refine Tri.region ti_ok ?_
 conv => whnf
 intro b
 conv => whnf
 refine Tri.seq ?_
 refine Tri.seq ?_
 refine Tri.region ti_ok ?_
 conv => whnf
 refine ⟨rfl,?_⟩
 conv => whnf

 have hsl:=streams_len n
 refine Tri.block ?_
 refine Tri.loop (α:={ i : Nat // i ≤ n.streams.length ∧ rStreams n = firstNZ (fS n) i (n.streams.length - i) }) (fun x => [(1,.box 1 b 0),(8,.sl .none 2 (n.streams.map encS)),(9,.int .i64 (n.streams.map encS).length),(10,.int .i64 x.1)])
  (fun _ => [(1,.box b [.str n.name,.int .i64 n.kind,.str n.text,.str n.target,.int .i64 n.n1,.int .i64 n.n2,.int .i64 n.n3,.int .i64 n.n4,.int .i64 n.n5,.int .i64 n.n6,.sl .none 12 (n.kids.map enc),.sl .none 2 (n.streams.map encS),.int .i64 l])]) (fun x => n.streams.length - x.1) ⟨0,by omega,rfl⟩ ⟨.refl _,.refl _,.refl _,.refl _,trivial⟩ ⟨rfl,trivial⟩ ?_
 rintro ⟨i,hi,hp⟩
 dsimp only
 refine Tri.seq ?_
 refine Tri.region ti_ok ?_
 conv => whnf
 refine Tri.seq ?_
 refine Tri.cond _ rfl (fun hc => ?_) (fun hc => ?_)
 ·refine Tri.skip ?_
  conv => whnf
  have hia : i < n.streams.length:=by simpa using hc
  have hss:=st_sz n hia
  refine Tri.seq ?_
  refine Tri.block ?_
  refine Tri.seq ?_
  refine Tri.region ti_ok ?_
  conv => whnf
  refine ⟨fun _ => by simp; omega,?_⟩
  conv => whnf
  refine ⟨encS (stAt n i),fun _ => get_st n hia,?_⟩
  conv => whnf
  intro b3
  conv => whnf
  refine ⟨rfl,?_⟩
  conv => whnf
  refine Tri.seq ?_
  refine Tri.seq ?_
  refine Tri.region ti_ok ?_
  conv => whnf
  refine ⟨rfl,?_⟩
  conv => whnf
  refine ⟨[.str (stAt n i).name],_,fun _ => F100 hL _ (by omega),⟨.refl _,trivial⟩,?_⟩
  conv => whnf
  refine Tri.cond _ rfl (fun hc => ?_) (fun hc => ?_)
  ·refine Tri.seq ?_
   refine Tri.region ti_ok ?_
   conv => whnf
   refine Tri.ret ?_
   conv => whnf
   have hf : fS n i = 4:=by rw [fS,if_neg (by simpa using hc)]
   exact intDLe (by rw [hp,nz_hit hia (by rw [hf]; decide),hf])
  ·refine Tri.skip ?_
   have hok : nameOk (stAt n i).name = true:=by simpa using hc
   conv => whnf
   refine Tri.seq ?_
   refine Tri.region ti_ok ?_
   conv => whnf
   refine Tri.cond _ rfl (fun hc => ?_) (fun hc => ?_)
   ·refine Tri.seq ?_
    have hi0 : 0 < i:=by simpa using hc
    have hf : fS n i = ordE (stAt n (i - 1)).name (stAt n i).name:=by rw [fS,if_pos hok,if_pos hi0]
    refine Tri.draw ti_ok mixed (by kernel_rfl) ?_
    conv => whnf
    refine ⟨rfl,?_⟩
    conv => whnf
    refine .inl ⟨fun _ => by simp [InR]; omega,?_⟩
    conv => whnf
    refine ⟨fun _ => by simp; omega,?_⟩
    conv => whnf
    refine ⟨encS (stAt n (i - 1)),fun _ => by rw [pred_toNat hi0]; exact get_st n (by omega),?_⟩
    conv => whnf
    refine ⟨rfl,?_⟩
    conv => whnf
    refine ⟨[.str (stAt n (i - 1)).name,.str (stAt n i).name],_,fun _ => F103 _ _,⟨.refl _,.refl _,trivial⟩,?_⟩
    conv => whnf
    refine Tri.seq ?_
    refine Tri.region ti_ok ?_
    conv => whnf
    refine Tri.cond _ rfl (fun hc => ?_) (fun hc => ?_)
    ·refine Tri.seq ?_
     refine Tri.region ti_ok ?_
     conv => whnf
     refine Tri.ret ?_
     conv => whnf
     exact intDLe (by rw [hp,nz_hit hia (by rw [hf]; simpa using hc),hf])
    ·refine Tri.skip ?_
     conv => whnf
     refine Tri.region ti_ok ?_
     conv => whnf
     refine .inl ⟨fun _ => by simp [InR]; omega,?_⟩
     conv => whnf
     exact ⟨⟨i + 1,by omega,by rw [hp,nz_miss hia (by rw [hf]; simpa using hc)]⟩,by show _ - (i + 1) < _ - i; omega,⟨.refl _,.refl _,.refl _,.refl _,trivial⟩,⟨rfl,trivial⟩⟩
   ·refine Tri.skip ?_
    conv => whnf
    refine Tri.region ti_ok ?_
    conv => whnf
    refine .inl ⟨fun _ => by simp [InR]; omega,?_⟩
    conv => whnf
    have hf : fS n i = 0:=by rw [fS,if_pos hok,if_neg (by simpa using hc)]
    exact ⟨⟨i + 1,by omega,by rw [hp,nz_miss hia hf]⟩,by show _ - (i + 1) < _ - i; omega,⟨.refl _,.refl _,.refl _,.refl _,trivial⟩,⟨rfl,trivial⟩⟩
 ·refine Tri.exit ?_
  conv => whnf
  refine Tri.seq ?_
  refine Tri.region ti_ok ?_
  conv => whnf
  refine Tri.ret ?_
  conv => whnf
  exact intDLe (by rw [hp,nz_end (by simpa using hc)])

def fK (n : NV) (i : Nat) : Int:=ordE (kAt n (i - 1)).name (kAt n i).name
def rKids (n : NV) : Int:=firstNZ (fK n) 1 (n.kids.length - 1)
theorem F85 (n : NV) (l : Int) (hz : sz n < 1000000000) : DFun Tryz.prog W0 191 [ruleD n l] (.int .i64 (rKids n)):=by
 refine DFun.intro ti_ok Tryz.func191 rfl (by decide +kernel) Tryz.ntmps191 rfl fun Γ => ?_
 refine Tri.seq ?_
 refine Tri.region ti_ok ?_
 conv => whnf
 intro b
 conv => whnf
 refine Tri.seq ?_
 refine Tri.seq ?_
 refine Tri.region ti_ok ?_
 conv => whnf
 have hsl:=kids_len n
 refine Tri.block ?_
 refine Tri.loop (α:={ i : Nat // 1 ≤ i ∧ i ≤ n.kids.length + 1 ∧ rKids n = firstNZ (fK n) i (n.kids.length - i) }) (fun x => [(1,.box 1 b 0),(3,.int .i64 x.1)])
  (fun _ => [(1,.box b [.str n.name,.int .i64 n.kind,.str n.text,.str n.target,.int .i64 n.n1,.int .i64 n.n2,.int .i64 n.n3,.int .i64 n.n4,.int .i64 n.n5,.int .i64 n.n6,.sl .none 12 (n.kids.map enc),.sl .none 2 (n.streams.map encS),.int .i64 l])]) (fun x => n.kids.length + 1 - x.1) ⟨1,by omega,by omega,rfl⟩ ⟨.refl _,.refl _,trivial⟩ ⟨rfl,trivial⟩ ?_
 rintro ⟨i,hi1,hi,hp⟩
 dsimp only
 refine Tri.seq ?_
 refine Tri.seq ?_
 refine Tri.region ti_ok ?_
 conv => whnf
 refine ⟨rfl,?_⟩
 conv => whnf
 refine Tri.cond _ rfl (fun hc => ?_) (fun hc => ?_)
 ·refine Tri.skip ?_
  conv => whnf
  have hia : i < n.kids.length:=by simpa using hc
  refine Tri.seq ?_
  refine Tri.block ?_
  refine Tri.seq ?_
  refine Tri.draw ti_ok mixed (by kernel_rfl) ?_
  conv => whnf
  refine ⟨rfl,?_⟩
  conv => whnf
  refine .inl ⟨fun _ => by simp only [InR]; omega,?_⟩
  conv => whnf
  refine ⟨fun _ => by simp; omega,?_⟩
  conv => whnf
  refine ⟨encTop (kAt n (i - 1)),fun _ => by rw [pred_toNat (by omega)]; exact get_kk n (by omega),?_⟩
  conv => whnf
  refine ⟨rfl,?_⟩
  conv => whnf
  refine ⟨fun _ => by simp; omega,?_⟩
  conv => whnf
  refine ⟨encTop (kAt n i),fun _ => get_kk n hia,?_⟩
  conv => whnf
  refine ⟨[.str (kAt n (i - 1)).name,.str (kAt n i).name],_,fun _ => F103 _ _,⟨.refl _,.refl _,trivial⟩,?_⟩
  conv => whnf
  refine Tri.seq ?_
  refine Tri.region ti_ok ?_
  conv => whnf
  refine Tri.cond _ rfl (fun hc => ?_) (fun hc => ?_)
  ·refine Tri.seq ?_
   refine Tri.region ti_ok ?_
   conv => whnf
   refine Tri.ret ?_
   conv => whnf
   exact intDLe (by rw [hp,nz_hit hia (by rw [fK]; simpa using hc),fK])
  ·refine Tri.skip ?_
   conv => whnf
   refine Tri.region ti_ok ?_
   conv => whnf
   refine .inl ⟨fun _ => by simp [InR]; omega,?_⟩
   conv => whnf
   exact ⟨⟨i + 1,by omega,by omega,by rw [hp,nz_miss hia (by rw [fK]; simpa using hc)]⟩,by show _ + 1 - (i + 1) < _ + 1 - i; omega,⟨.refl _,.refl _,trivial⟩,⟨rfl,trivial⟩⟩
 ·refine Tri.exit ?_
  conv => whnf
  refine Tri.seq ?_
  refine Tri.region ti_ok ?_
  conv => whnf
  refine Tri.ret ?_
  conv => whnf
  exact intDLe (by rw [hp,nz_end (by simpa using hc)])
end Go.Tame.V
/- Contracts: Check and Valid of a tree. By program (mk.py). -/
namespace Go.Tame.V
open Go Go.Proofs
variable {W0 : World}
set_option maxRecDepth 10000
set_option linter.unusedVariables false
set_option linter.unusedSimpArgs false

def ruleI (n : NV) (l : Int) : Nat → Int
 | 0 => rKind n l
 | 1 => rName n l
 | 2 => rParts n
 | 3 => rTarget n
 | 4 => rNumbers n
 | 5 => rSizes n l
 | 6 => rStreams n
 | _ => rKids n
def one (n : NV) (l : Int) : Int:=firstNZ (ruleI n l) 0 8
theorem rule_ok (hL : LibOk W0) (n : NV) (l : Int) (hz : sz n + n.name.length < 1000000000) {i : Nat} (hi : i < 8) : DFun Tryz.prog W0 (184 + i) [ruleD n l] (.int .i64 (ruleI n l i)):=by
 have ht:=sz_eq n
 match i,hi with
 | 0,_ => exact F78 n l
 | 1,_ => exact F79 hL n l (by omega)
 | 2,_ => exact F80 n l
 | 3,_ => exact F81 hL n l (by omega)
 | 4,_ => exact F82 n l
 | 5,_ => exact F83 n l (by omega)
 | 6,_ => exact F84 hL n l (by omega)
 | 7,_ => exact F85 n l (by omega)
def fnsD (n : NV) (l : Int) : List D:=(List.range 8).map fun i => .fn (.func (184 + i)) [ruleD n l] []
theorem fnsD_get (n : NV) (l : Int) {i : Nat} (hi : i < 8) : (fnsD n l)[i]? = some (.fn (.func (184 + i)) [ruleD n l] []):=by simp [fnsD,hi]
def chkA (be bp : Nat) : WS (Int × List UInt8):=⟨fun s => .box be [.int .i64 s.1],fun s => .box bp [.str s.2]⟩
def checkF (n : NV) (p : List UInt8) (l : Int) (s : Int × List UInt8) : Bool × (Int × List UInt8):=if one n l = 0 then (true,(0,s.2)) else (false,(one n l,p))

theorem F77 (hL : LibOk W0) (be bp : Nat) (n : NV) (p : List UInt8) (l : Int) (s : Int × List UInt8) (hz : sz n + n.name.length < 1000000000) : DCall Tryz.prog W0 183 ([encTop n,.str p,.int .i64 l] ++ [.box 2000 be 0,.box 2001 bp 0]) ((chkA be bp).H s) fun d H' => d = .bool (checkF n p l s).1 ∧ H' = (chkA be bp).H (checkF n p l s).2:=by
 refine DCall.intro ti_ok Tryz.func183 rfl (by decide +kernel) Tryz.ntmps183 rfl fun Γ => ?_
 refine Tri.seq ?_
 refine Tri.region ti_ok ?_
 conv => whnf
 intro b
 conv => whnf
 refine Tri.seq ?_
 refine Tri.region ti_ok ?_
 conv => whnf
 refine ⟨rfl,?_⟩
 conv => whnf
 intro b2
 conv => whnf
 refine ⟨rfl,?_⟩
 conv => whnf
 refine Tri.seq ?_
 refine Tri.seq ?_
 refine Tri.region ti_ok ?_
 conv => whnf
 refine ⟨rfl,?_⟩
 conv => whnf
 refine ⟨rfl,?_⟩
 conv => whnf
 refine ⟨rfl,?_⟩
 conv => whnf
 refine ⟨rfl,?_⟩
 conv => whnf
 refine ⟨rfl,?_⟩
 conv => whnf
 refine ⟨rfl,?_⟩
 conv => whnf
 refine ⟨rfl,?_⟩
 conv => whnf
 refine ⟨rfl,?_⟩
 conv => whnf
 refine ⟨trivial,?_⟩
 conv => whnf
 refine Tri.block ?_
 refine Tri.loop (α:={ x : Nat × Int // x.1 ≤ 8 ∧ (0 < x.1 → x.2 = 0) ∧ one n l = firstNZ (ruleI n l) x.1 (8 - x.1) })
  (fun x => [(1,.str p),(3,.box 2000 be 0),(4,.box 2001 bp 0),(31,.sl .full 1 (fnsD n l)),(32,.int .i64 (fnsD n l).length),(33,.int .i64 x.1.1)]) (fun x => [(2000,.box be [.int .i64 x.1.2]),(2001,.box bp [.str s.2])]) (fun x => 8 - x.1.1)
  ⟨(0,s.1),by omega,by simp,rfl⟩ ⟨.refl _,.refl _,.refl _,.refl _,.refl _,.refl _,trivial⟩ ⟨rfl,rfl,trivial⟩ ?_
 rintro ⟨⟨i,e⟩,hi,he,hp⟩
 dsimp only at hi he hp ⊢
 refine Tri.seq ?_
 refine Tri.region ti_ok ?_
 conv => whnf
 refine Tri.seq ?_
 refine Tri.cond _ rfl (fun hc => ?_) (fun hc => ?_)
 ·refine Tri.skip ?_
  conv => whnf
  have hia : i < 8:=by simp [fnsD] at hc; omega
  refine Tri.seq ?_
  refine Tri.block ?_
  refine Tri.seq ?_
  refine Tri.region ti_ok ?_
  conv => whnf
  refine ⟨fun _ => by simp [fnsD]; omega,?_⟩
  conv => whnf
  refine ⟨.fn (.func (184 + i)) [ruleD n l] [],fun _ => fnsD_get n l hia,?_⟩
  conv => whnf
  refine Tri.seq ?_
  refine Tri.region ti_ok ?_
  conv => whnf
  refine ⟨[ruleD n l],_,fun _ => rule_ok hL n l hz hia,⟨.refl _,trivial⟩,?_⟩
  conv => whnf
  refine ⟨rfl,?_⟩
  conv => whnf
  refine Tri.seq ?_
  refine Tri.region ti_ok ?_
  conv => whnf
  refine ⟨rfl,?_⟩
  conv => whnf
  refine Tri.cond _ rfl (fun hc => ?_) (fun hc => ?_)
  ·refine Tri.seq ?_
   refine Tri.region ti_ok ?_
   conv => whnf
   refine ⟨rfl,?_⟩
   conv => whnf
   refine Tri.seq ?_
   refine Tri.region ti_ok ?_
   conv => whnf
   have hne : ruleI n l i ≠ 0:=by simpa using hc
   have h1 : one n l = ruleI n l i:=by rw [hp,nz_hit hia hne]
   have hF : checkF n p l s = (false,(ruleI n l i,p)):=by rw [checkF,if_neg (by rw [h1]; exact hne),h1]
   refine Tri.retK [(8,.bool false)] [(2000,.box be [.int .i64 (ruleI n l i)]),(2001,.box bp [.str p])] [(2000,2000),(2001,2001)] ⟨⟨.refl _,trivial⟩,rfl,rfl,rfl,rfl,rfl,trivial⟩ ?_
   conv => whnf
   exact ⟨_,.refl _,by rw [hF]; rfl,by rw [hF]; rfl⟩
  ·refine Tri.skip ?_
   conv => whnf
   refine Tri.region ti_ok ?_
   conv => whnf
   refine .inl ⟨fun _ => by simp [InR]; omega,?_⟩
   conv => whnf
   have h0 : ruleI n l i = 0:=by simpa using hc
   exact ⟨⟨(i + 1,0),by omega,fun _ => rfl,by rw [hp,nz_miss hia h0]⟩,by show 8 - (i + 1) < 8 - i; omega,⟨.refl _,.refl _,.refl _,.refl _,.refl _,.refl _,trivial⟩,⟨congrArg (fun z => some (HObj.box be [D.int .i64 z])) h0,rfl,trivial⟩⟩
 ·refine Tri.exit ?_
  conv => whnf
  refine Tri.seq ?_
  refine Tri.region ti_ok ?_
  conv => whnf
  have h8 : ¬ i < 8:=by simp [fnsD] at hc; omega
  have h1 : one n l = 0:=by rw [hp,nz_end h8]
  have he0 : e = 0:=he (by omega)
  subst he0
  have hF : checkF n p l s = (true,(0,s.2)):=by rw [checkF,if_pos h1]
  refine Tri.retK [(8,.bool true)] [(2000,.box be [.int .i64 0]),(2001,.box bp [.str s.2])] [(2000,2000),(2001,2001)] ⟨⟨.refl _,trivial⟩,rfl,rfl,rfl,rfl,rfl,trivial⟩ ?_
  conv => whnf
  exact ⟨_,.refl _,by rw [hF]; rfl,by rw [hF]; rfl⟩

/-- What Check hands back: the path,the error. -/
def check (n : NV) : List UInt8 × Int:=if (256 : Int) < cnt n then ([],7) else ((walk checkF n [] 1 (0,[])).2.2,(walk checkF n [] 1 (0,[])).2.1)
theorem F59 (hL : LibOk W0) (n : NV) (hz : sz n + n.name.length < 10000000) : DFun Tryz.prog W0 132 [encTop n] (.tup [.str (check n).1,.int .i64 (check n).2]):=by
 refine DFun.intro ti_ok Tryz.func132 rfl (by decide +kernel) Tryz.ntmps132 rfl fun Γ => ?_
 refine Tri.seq ?_
 refine Tri.region ti_ok ?_
 conv => whnf
 intro b
 conv => whnf
 refine Tri.seq ?_
 refine Tri.seq ?_
 refine Tri.region ti_ok ?_
 conv => whnf
 refine ⟨rfl,?_⟩
 conv => whnf
 refine ⟨[encTop n],_,fun _ => F75 n hz,⟨.refl _,trivial⟩,?_⟩
 conv => whnf
 refine Tri.cond _ rfl (fun hc => ?_) (fun hc => ?_)
 ·refine Tri.seq ?_
  refine Tri.region ti_ok ?_
  conv => whnf
  refine Tri.ret ?_
  conv => whnf
  exact ⟨DLe.of_eq (by rw [check,if_pos (by simpa using hc)]; rfl),intDLe (by rw [check,if_pos (by simpa using hc)]),trivial⟩
 ·refine Tri.skip ?_
  conv => whnf
  refine Tri.seq ?_
  refine Tri.region ti_ok ?_
  conv => whnf
  intro bp
  conv => whnf
  intro be
  conv => whnf
  refine ⟨rfl,?_⟩
  conv => whnf
  refine ⟨rfl,?_⟩
  conv => whnf
  refine Tri.seq ?_
  refine Tri.regionX ti_ok ?_
  conv => whnf
  refine .inl ?_
  conv => whnf
  refine ⟨rfl,?_⟩
  conv => whnf
  refine .inr (XOp.call rfl [encTop n,.str [],.int .i64 1,.fn (.func 183) [] [.box 2000 be 0,.box 2001 bp 0]] [(2000,5),(2001,4)]
   (F76 (chkA be bp) checkF 183 [.box 2000 be 0,.box 2001 bp 0] (fun n p l s hb hl => F77 hL be bp n p l s (by omega)) _ n [] 1 (0,[]) (Nat.lt_succ_self _) (by simp; omega) (by omega)) rfl ⟨.refl _,.refl _,.refl _,DLe.fn trivial ⟨DLe.box,DLe.box,trivial⟩,trivial⟩ ?_)
  rintro d H' ⟨rfl,rfl⟩
  refine ⟨_,.refl _,?_⟩
  conv => whnf
  refine Tri.seq ?_
  refine Tri.draw ti_ok mixed (by kernel_rfl) ?_
  conv => whnf
  refine ⟨rfl,?_⟩
  conv => whnf
  refine ⟨rfl,?_⟩
  conv => whnf
  refine Tri.ret ?_
  conv => whnf
  exact ⟨DLe.of_eq (by rw [check,if_neg (by simpa using hc)]; rfl),intDLe (by rw [check,if_neg (by simpa using hc)]),trivial⟩
def valid (n : NV) : Bool:=(check n).2 == 0
theorem F39 (hL : LibOk W0) (n : NV) (hz : sz n + n.name.length < 10000000) : DFun Tryz.prog W0 88 [encTop n] (.bool (valid n)):=by
 refine DFun.intro ti_ok Tryz.func88 rfl (by decide +kernel) Tryz.ntmps88 rfl fun Γ => ?_
 refine Tri.seq ?_
 refine Tri.region ti_ok ?_
 conv => whnf
 intro b
 conv => whnf
 refine Tri.seq ?_
 refine Tri.region ti_ok ?_
 conv => whnf
 refine ⟨rfl,?_⟩
 conv => whnf
 refine ⟨[encTop n],_,fun _ => F59 hL n hz,⟨.refl _,trivial⟩,?_⟩
 conv => whnf
 refine Tri.seq ?_
 refine Tri.region ti_ok ?_
 conv => whnf
 refine Tri.ret ?_
 conv => whnf
 exact .refl _
end Go.Tame.V
/- Contracts: the reference's Check and Valid of a tree. By program (mk.py). -/
namespace Go.Tame.V
open Go Go.Proofs
variable {W0 : World}
set_option maxRecDepth 10000
set_option linter.unusedVariables false
set_option linter.unusedSimpArgs false

def topCells (n : NV) : List D:=[.str n.name,.int .i64 n.kind,.str n.text,.str n.target,.int .i64 n.n1,.int .i64 n.n2,.int .i64 n.n3,.int .i64 n.n4,.int .i64 n.n5,.int .i64 n.n6,.sl .none 12 (n.kids.map enc),.sl .none 2 (n.streams.map encS)]
theorem one0 (n : NV) (l : Int) : one n l = firstNZ (ruleI n l) 0 (8 - 0):=rfl

theorem sizes_seven (n : NV) : ∀ {k i : Nat},firstNZ (fZ n) i k ≠ 0 → firstNZ (fZ n) i k = 7
 | 0,i,h => absurd rfl h
 | k + 1,i,h => by
  unfold firstNZ at h ⊢
  split
  ·rename_i h0; rw [if_pos h0] at h; exact sizes_seven n h
  ·rename_i h0; unfold fZ at h0 ⊢; split
   ·rfl
   ·rename_i h1; rw [if_neg h1] at h0; exact absurd rfl h0

theorem F93 (n : NV) (l : Int) (hz : sz n + n.name.length < 10000000) : DFun Tryz.prog W0 161 [encTop n,.int .i64 l] (.int .i64 (one n l)):=by
 refine DFun.intro ti_ok Tryz.func161 rfl (by decide +kernel) Tryz.ntmps161 rfl fun Γ => ?_
 refine Tri.seq ?_
 refine Tri.region ti_ok ?_
 conv => whnf
 intro b
 have ht:=sz_eq n
 have hkl:=kids_len n
 have hsl:=streams_len n
 conv => whnf
 refine Tri.seq ?_
 refine Tri.seq ?_
 refine Tri.region ti_ok ?_
 conv => whnf
 refine ⟨rfl,?_⟩
 conv => whnf
 refine ⟨fun h => h,?_⟩
 conv => whnf
 refine ⟨rfl,?_⟩
 conv => whnf
 refine ⟨fun h => h,?_⟩
 conv => whnf
 refine ⟨fun h0 h => by first | exact h | (rw [h]; rfl) | (rw [h0,h]; rfl),?_⟩
 conv => whnf
 refine ⟨fun h => h,?_⟩
 conv => whnf
 refine ⟨fun h => h,?_⟩
 conv => whnf
 refine ⟨fun h => h,?_⟩
 conv => whnf
 refine ⟨rfl,?_⟩
 conv => whnf
 refine ⟨fun h => h,?_⟩
 conv => whnf
 refine ⟨fun h => h,?_⟩
 conv => whnf
 refine ⟨fun h0 h => by first | exact h | (rw [h]; rfl) | (rw [h0,h]; rfl),?_⟩
 conv => whnf
 refine ⟨fun h0 h => by first | exact h | (rw [h]; rfl) | (rw [h0,h]; rfl),?_⟩
 conv => whnf
 refine Tri.cond (cKind n l) (by simp only [cKind,← bif_or,← bif_and]; rfl) (fun hc => ?_) (fun hc => ?_)
 ·refine Tri.seq ?_
  refine Tri.region ti_ok ?_
  conv => whnf
  refine Tri.ret ?_
  conv => whnf
  have hr : ruleI n l 0 = 1:=by rw [ruleI,rKind,hc]; rfl
  exact intDLe (by rw [one0,nz_hit (by omega) (by rw [hr]; decide),hr])
 ·refine Tri.skip ?_
  have hp1 : one n l = firstNZ (ruleI n l) 1 (8 - 1):=by rw [one0,nz_miss (by omega) (by rw [ruleI,rKind,hc]; rfl)]
  conv => whnf
  refine Tri.seq ?_
  refine Tri.seq ?_
  refine Tri.region ti_ok ?_
  conv => whnf
  refine ⟨fun h => h,?_⟩
  conv => whnf
  refine ⟨rfl,?_⟩
  conv => whnf
  refine ⟨fun h => h,?_⟩
  conv => whnf
  refine ⟨fun h0 h => by first | exact h | (rw [h]; rfl) | (rw [h0,h]; rfl),?_⟩
  conv => whnf
  refine ⟨fun h => h,?_⟩
  conv => whnf
  refine ⟨fun h => h,?_⟩
  conv => whnf
  refine ⟨fun h => h,?_⟩
  conv => whnf
  refine ⟨rfl,?_⟩
  conv => whnf
  refine ⟨fun h => h,?_⟩
  conv => whnf
  refine ⟨[.str n.name],_,fun h => F94 _ (by omega),⟨.refl _,trivial⟩,?_⟩
  conv => whnf
  refine ⟨fun h => h,?_⟩
  conv => whnf
  refine ⟨fun h => h,?_⟩
  conv => whnf
  refine ⟨fun h0 h => by first | exact h | (rw [h]; rfl) | (rw [h0,h]; rfl),?_⟩
  conv => whnf
  refine ⟨fun h0 h => by first | exact h | (rw [h]; rfl) | (rw [h0,h]; rfl),?_⟩
  conv => whnf
  refine Tri.cond (cName n l) (by simp only [cName,← bif_or,← bif_and]; rfl) (fun hc => ?_) (fun hc => ?_)
  ·refine Tri.seq ?_
   refine Tri.region ti_ok ?_
   conv => whnf
   refine Tri.ret ?_
   conv => whnf
   have hr : ruleI n l 1 = 4:=by rw [ruleI,rName,hc]; rfl
   exact intDLe (by rw [hp1,nz_hit (by omega) (by rw [hr]; decide),hr])
  ·refine Tri.skip ?_
   have hp2 : one n l = firstNZ (ruleI n l) 2 (8 - 2):=by rw [hp1,nz_miss (by omega) (by rw [ruleI,rName,hc]; rfl)]
   conv => whnf
   refine Tri.seq ?_
   refine Tri.seq ?_
   refine Tri.region ti_ok ?_
   conv => whnf
   refine ⟨rfl,?_⟩
   conv => whnf
   refine ⟨fun h => h,?_⟩
   conv => whnf
   refine ⟨rfl,?_⟩
   conv => whnf
   refine ⟨fun h => h,?_⟩
   conv => whnf
   refine ⟨fun h => h,?_⟩
   conv => whnf
   refine ⟨fun h => h,?_⟩
   conv => whnf
   refine ⟨rfl,?_⟩
   conv => whnf
   refine ⟨fun h => h,?_⟩
   conv => whnf
   refine ⟨fun h => h,?_⟩
   conv => whnf
   refine ⟨fun h => h,?_⟩
   conv => whnf
   refine ⟨fun h0 h => by first | exact h | (rw [h]; rfl) | (rw [h0,h]; rfl),?_⟩
   conv => whnf
   refine ⟨fun h0 h => by first | exact h | (rw [h]; rfl) | (rw [h0,h]; rfl),?_⟩
   conv => whnf
   refine ⟨fun h => h,?_⟩
   conv => whnf
   refine ⟨rfl,?_⟩
   conv => whnf
   refine ⟨fun h => h,?_⟩
   conv => whnf
   refine ⟨fun h => h,?_⟩
   conv => whnf
   refine ⟨fun h => h,?_⟩
   conv => whnf
   refine ⟨rfl,?_⟩
   conv => whnf
   refine ⟨fun h => h,?_⟩
   conv => whnf
   refine ⟨fun h => h,?_⟩
   conv => whnf
   refine ⟨fun h0 h => by first | exact h | (rw [h]; rfl) | (rw [h0,h]; rfl),?_⟩
   conv => whnf
   refine ⟨fun h0 h => by first | exact h | (rw [h]; rfl) | (rw [h0,h]; rfl),?_⟩
   conv => whnf
   refine ⟨fun h => h,?_⟩
   conv => whnf
   refine ⟨rfl,?_⟩
   conv => whnf
   refine ⟨fun h => h,?_⟩
   conv => whnf
   refine ⟨fun h => h,?_⟩
   conv => whnf
   refine ⟨fun h => h,?_⟩
   conv => whnf
   refine ⟨rfl,?_⟩
   conv => whnf
   refine ⟨fun h => h,?_⟩
   conv => whnf
   refine ⟨fun h => h,?_⟩
   conv => whnf
   refine ⟨fun h => h,?_⟩
   conv => whnf
   refine ⟨fun h0 h => by first | exact h | (rw [h]; rfl) | (rw [h0,h]; rfl),?_⟩
   conv => whnf
   refine ⟨fun h0 h => by first | exact h | (rw [h]; rfl) | (rw [h0,h]; rfl),?_⟩
   conv => whnf
   refine Tri.cond (cParts n) ?_ (fun hc => ?_) (fun hc => ?_)
   ·simp only [cParts,← bif_or,← bif_and]
    rw [show n.streams.length = (n.streams.map encS).length by simp,show n.kids.length = (n.kids.map enc).length by simp]; rfl
   ·refine Tri.seq ?_
    refine Tri.region ti_ok ?_
    conv => whnf
    refine Tri.ret ?_
    conv => whnf
    have hr : ruleI n l 2 = 1:=by rw [ruleI,rParts,hc]; rfl
    exact intDLe (by rw [hp2,nz_hit (by omega) (by rw [hr]; decide),hr])
   ·refine Tri.skip ?_
    have hp3 : one n l = firstNZ (ruleI n l) 3 (8 - 3):=by rw [hp2,nz_miss (by omega) (by rw [ruleI,rParts,hc]; rfl)]
    conv => whnf
    refine Tri.seq ?_
    refine Tri.seq ?_
    refine Tri.region ti_ok ?_
    conv => whnf
    refine ⟨rfl,?_⟩
    conv => whnf
    refine ⟨fun h => h,?_⟩
    conv => whnf
    refine ⟨rfl,?_⟩
    conv => whnf
    refine ⟨fun h => h,?_⟩
    conv => whnf
    refine ⟨[.str n.target],_,fun h => F111 _ (by omega),⟨.refl _,trivial⟩,?_⟩
    conv => whnf
    refine ⟨fun h => h,?_⟩
    conv => whnf
    refine ⟨fun h0 h => by first | exact h | (rw [h]; rfl) | (rw [h0,h]; rfl),?_⟩
    conv => whnf
    refine Tri.cond (cTarget n) (by simp only [cTarget,← bif_or,← bif_and]; rfl) (fun hc => ?_) (fun hc => ?_)
    ·refine Tri.seq ?_
     refine Tri.region ti_ok ?_
     conv => whnf
     refine Tri.ret ?_
     conv => whnf
     have hr : ruleI n l 3 = 4:=by rw [ruleI,rTarget,hc]; rfl
     exact intDLe (by rw [hp3,nz_hit (by omega) (by rw [hr]; decide),hr])
    ·refine Tri.skip ?_
     have hp4 : one n l = firstNZ (ruleI n l) 4 (8 - 4):=by rw [hp3,nz_miss (by omega) (by rw [ruleI,rTarget,hc]; rfl)]
     conv => whnf
     refine Tri.seq ?_
     refine Tri.seq ?_
     refine Tri.region ti_ok ?_
     conv => whnf
     refine ⟨rfl,?_⟩
     conv => whnf
     refine ⟨[encTop n],_,fun _ => F112 n,⟨.refl _,trivial⟩,?_⟩
     conv => whnf
     refine Tri.cond (cNumbers n) ((show _ = D.bool (!(!cNumbers n)) from rfl).trans (congrArg D.bool (Bool.not_not _))) (fun hc => ?_) (fun hc => ?_)
     ·refine Tri.seq ?_
      refine Tri.region ti_ok ?_
      conv => whnf
      refine Tri.ret ?_
      conv => whnf
      have hr : ruleI n l 4 = 2:=by rw [ruleI,rNumbers,hc]; rfl
      exact intDLe (by rw [hp4,nz_hit (by omega) (by rw [hr]; decide),hr])
     ·refine Tri.skip ?_
      have hp5 : one n l = firstNZ (ruleI n l) 5 (8 - 5):=by rw [hp4,nz_miss (by omega) (by rw [ruleI,rNumbers,hc]; rfl)]
      conv => whnf
      refine Tri.seq ?_
      refine Tri.seq ?_
      refine Tri.region ti_ok ?_
      conv => whnf
      refine ⟨rfl,?_⟩
      conv => whnf
      refine ⟨[encTop n,.int .i64 l],_,fun _ => F113 n l (by omega),⟨.refl _,.refl _,trivial⟩,?_⟩
      conv => whnf
      refine Tri.cond _ rfl (fun hc => ?_) (fun hc => ?_)
      ·refine Tri.seq ?_
       refine Tri.region ti_ok ?_
       conv => whnf
       refine Tri.ret ?_
       conv => whnf
       have hr : ruleI n l 5 = 7:=by
        rw [ruleI]
        have hc' : rSizes n l ≠ 0:=by simpa using hc
        unfold rSizes at hc' ⊢
        split
        ·rfl
        ·rename_i h; rw [if_neg h] at hc'; exact sizes_seven n hc'
       exact intDLe (by rw [hp5,nz_hit (by omega) (by rw [hr]; decide),hr])
      ·refine Tri.skip ?_
       have hp6 : one n l = firstNZ (ruleI n l) 6 (8 - 6):=by rw [hp5,nz_miss (by omega) (by rw [ruleI]; simpa using hc)]
       conv => whnf
       refine Tri.seq ?_
       refine Tri.seq ?_
       refine Tri.region ti_ok ?_
       conv => whnf
       refine Tri.block ?_
       refine Tri.loop (α:={ i : Nat // i ≤ n.streams.length ∧ rStreams n = firstNZ (fS n) i (n.streams.length - i) }) (fun x => [(2,.box 2 b 0),(5,.int .i64 x.1)]) (fun _ => [(2,.box b (topCells n))]) (fun x => n.streams.length - x.1) ⟨0,by omega,rfl⟩ ⟨.refl _,.refl _,trivial⟩ ⟨rfl,trivial⟩ ?_
       rintro ⟨i,hi,hp⟩
       dsimp only
       refine Tri.seq ?_
       refine Tri.seq ?_
       refine Tri.region ti_ok ?_
       conv => whnf
       refine ⟨rfl,?_⟩
       conv => whnf
       refine Tri.cond _ rfl (fun hc => ?_) (fun hc => ?_)
       ·refine Tri.skip ?_
        conv => whnf
        have hia : i < n.streams.length:=by simpa using hc
        have hss:=st_sz n hia
        have hit7 : ∀ e,fS n i = e → e ≠ 0 → one n l = e:=fun e he h0 => by
         have h1 : ruleI n l 6 = e:=by rw [ruleI,hp,nz_hit hia (by rw [he]; exact h0),he]
         rw [hp6,nz_hit (by omega) (by rw [h1]; exact h0),h1]
        refine Tri.seq ?_
        refine Tri.block ?_
        refine Tri.seq ?_
        refine Tri.seq ?_
        refine Tri.region ti_ok ?_
        conv => whnf
        refine ⟨rfl,?_⟩
        conv => whnf
        refine ⟨fun _ => by simp; omega,?_⟩
        conv => whnf
        refine ⟨encS (stAt n i),fun _ => get_st n hia,?_⟩
        conv => whnf
        refine ⟨[.str (stAt n i).name],_,fun _ => F94 _ (by omega),⟨.refl _,trivial⟩,?_⟩
        conv => whnf
        refine Tri.cond _ rfl (fun hc => ?_) (fun hc => ?_)
        ·refine Tri.seq ?_
         refine Tri.region ti_ok ?_
         conv => whnf
         refine Tri.ret ?_
         conv => whnf
         exact intDLe (hit7 4 (by rw [fS,if_neg (by simpa using hc)]) (by decide)).symm
        ·refine Tri.skip ?_
         have hok : nameOk (stAt n i).name = true:=by simpa using hc
         conv => whnf
         refine Tri.seq ?_
         refine Tri.seq ?_
         refine Tri.draw ti_ok mixed (by kernel_rfl) ?_
         conv => whnf
         refine ⟨fun h => h,?_⟩
         conv => whnf
         refine ⟨rfl,?_⟩
         conv => whnf
         refine ⟨fun h => h,?_⟩
         conv => whnf
         refine ⟨fun h => h,?_⟩
         conv => whnf
         refine ⟨fun h => by simp at h ⊢; omega,?_⟩
         conv => whnf
         refine ⟨fun h => h,?_⟩
         conv => whnf
         refine ⟨fun h => h,?_⟩
         conv => whnf
         refine ⟨encS (stAt n i),fun _ => get_st n hia,?_⟩
         conv => whnf
         refine ⟨fun h => h,?_⟩
         conv => whnf
         refine ⟨rfl,?_⟩
         conv => whnf
         refine ⟨fun h => h,?_⟩
         conv => whnf
         refine .inl ⟨fun h => by simp only [InR]; omega,?_⟩
         conv => whnf
         refine ⟨fun h => h,?_⟩
         conv => whnf
         refine ⟨fun h => h,?_⟩
         conv => whnf
         refine ⟨fun h => by simp at h ⊢; omega,?_⟩
         conv => whnf
         refine ⟨fun h => h,?_⟩
         conv => whnf
         refine ⟨fun h => h,?_⟩
         conv => whnf
         refine ⟨encS (stAt n (i - 1)),fun h => by rw [pred_toNat (by simpa using h)]; exact get_st n (by omega),?_⟩
         conv => whnf
         refine ⟨fun h => h,?_⟩
         conv => whnf
         refine ⟨fun h => h,?_⟩
         conv => whnf
         refine ⟨fun h0 h => by first | exact h | (rw [h]; rfl) | (rw [h0,h]; rfl),?_⟩
         conv => whnf
         refine Tri.cond _ rfl (fun hc => ?_) (fun hc => ?_)
         ·refine Tri.seq ?_
          refine Tri.region ti_ok ?_
          conv => whnf
          refine Tri.ret ?_
          conv => whnf
          have h2 : 0 < i ∧ (stAt n i).name = (stAt n (i - 1)).name:=by
           cases h0 : decide ((0 : Int) < i) <;> rw [h0] at hc <;> simp at h0 hc
           exact ⟨by omega,hc⟩
          exact intDLe (hit7 5 (by rw [fS,if_pos hok,if_pos h2.1,ordE,if_pos h2.2.symm]) (by decide)).symm
         ·refine Tri.skip ?_
          have hne : 0 < i → (stAt n (i - 1)).name ≠ (stAt n i).name:=fun h0 e => by
           have h0' : decide ((0 : Int) < i) = true:=by simp; omega
           rw [h0',e] at hc; simp at hc
          conv => whnf
          refine Tri.seq ?_
          refine Tri.draw ti_ok mixed (by kernel_rfl) ?_
          conv => whnf
          refine ⟨fun h => h,?_⟩
          conv => whnf
          refine ⟨rfl,?_⟩
          conv => whnf
          refine ⟨fun h => h,?_⟩
          conv => whnf
          refine ⟨fun h => h,?_⟩
          conv => whnf
          refine ⟨fun h => by simp at h ⊢; omega,?_⟩
          conv => whnf
          refine ⟨fun h => h,?_⟩
          conv => whnf
          refine ⟨fun h => h,?_⟩
          conv => whnf
          refine ⟨encS (stAt n i),fun _ => get_st n hia,?_⟩
          conv => whnf
          refine ⟨fun h => h,?_⟩
          conv => whnf
          refine ⟨rfl,?_⟩
          conv => whnf
          refine ⟨fun h => h,?_⟩
          conv => whnf
          refine .inl ⟨fun h => by simp only [InR]; omega,?_⟩
          conv => whnf
          refine ⟨fun h => h,?_⟩
          conv => whnf
          refine ⟨fun h => h,?_⟩
          conv => whnf
          refine ⟨fun h => by simp at h ⊢; omega,?_⟩
          conv => whnf
          refine ⟨fun h => h,?_⟩
          conv => whnf
          refine ⟨fun h => h,?_⟩
          conv => whnf
          refine ⟨encS (stAt n (i - 1)),fun h => by rw [pred_toNat (by simpa using h)]; exact get_st n (by omega),?_⟩
          conv => whnf
          refine ⟨fun h => h,?_⟩
          conv => whnf
          refine ⟨fun h => h,?_⟩
          conv => whnf
          refine ⟨fun h0 h => by first | exact h | (rw [h]; rfl) | (rw [h0,h]; rfl),?_⟩
          conv => whnf
          refine Tri.cond _ rfl (fun hc => ?_) (fun hc => ?_)
          ·refine Tri.seq ?_
           refine Tri.region ti_ok ?_
           conv => whnf
           refine Tri.ret ?_
           conv => whnf
           have h2 : 0 < i ∧ Op.bytesLess (stAt n i).name (stAt n (i - 1)).name = true:=by
            cases h0 : decide ((0 : Int) < i) <;> rw [h0] at hc <;> simp at h0 hc
            exact ⟨by omega,hc⟩
           exact intDLe (hit7 1 (by rw [fS,if_pos hok,if_pos h2.1,ordE,if_neg (hne h2.1),if_pos h2.2]) (by decide)).symm
          ·refine Tri.skip ?_
           conv => whnf
           refine Tri.region ti_ok ?_
           conv => whnf
           refine .inl ⟨fun _ => by simp [InR]; omega,?_⟩
           conv => whnf
           have hf : fS n i = 0:=by
            rw [fS,if_pos hok]
            by_cases h0 : 0 < i
            ·have h0' : decide ((0 : Int) < i) = true:=by simp; omega
             rw [h0'] at hc
             rw [if_pos h0,ordE,if_neg (hne h0),if_neg (by simpa using hc)]
            ·rw [if_neg h0]
           exact ⟨⟨i + 1,by omega,by rw [hp,nz_miss hia hf]⟩,by show _ - (i + 1) < _ - i; omega,⟨.refl _,.refl _,trivial⟩,⟨rfl,trivial⟩⟩
       ·refine Tri.exit ?_
        conv => whnf
        refine Tri.seq ?_
        have hp7 : one n l = firstNZ (ruleI n l) 7 (8 - 7):=by rw [hp6,nz_miss (by omega) (by rw [ruleI,hp,nz_end (by simpa using hc)])]
        refine Tri.seq ?_
        refine Tri.region ti_ok ?_
        conv => whnf
        refine Tri.block ?_
        refine Tri.loop (α:={ i : Nat // 1 ≤ i ∧ i ≤ n.kids.length + 1 ∧ rKids n = firstNZ (fK n) i (n.kids.length - i) }) (fun x => [(2,.box 2 b 0),(6,.int .i64 x.1)]) (fun _ => [(2,.box b (topCells n))]) (fun x => n.kids.length + 1 - x.1) ⟨1,by omega,by omega,rfl⟩ ⟨.refl _,.refl _,trivial⟩ ⟨rfl,trivial⟩ ?_
        rintro ⟨i,hi1,hi,hp⟩
        dsimp only
        refine Tri.seq ?_
        refine Tri.seq ?_
        refine Tri.region ti_ok ?_
        conv => whnf
        refine ⟨rfl,?_⟩
        conv => whnf
        refine Tri.cond _ rfl (fun hc => ?_) (fun hc => ?_)
        ·refine Tri.skip ?_
         conv => whnf
         have hia : i < n.kids.length:=by simpa using hc
         have hit8 : ∀ e,fK n i = e → e ≠ 0 → one n l = e:=fun e he h0 => by
          have h1 : ruleI n l 7 = e:=by show rKids n = e; rw [hp,nz_hit hia (by rw [he]; exact h0),he]
          rw [hp7,nz_hit (by omega) (by rw [h1]; exact h0),h1]
         refine Tri.seq ?_
         refine Tri.block ?_
         refine Tri.seq ?_
         refine Tri.seq ?_
         refine Tri.draw ti_ok mixed (by kernel_rfl) ?_
         conv => whnf
         refine ⟨rfl,?_⟩
         conv => whnf
         refine ⟨fun _ => by simp; omega,?_⟩
         conv => whnf
         refine ⟨encTop (kAt n i),fun _ => get_kk n hia,?_⟩
         conv => whnf
         refine ⟨rfl,?_⟩
         conv => whnf
         refine .inl ⟨fun _ => by simp only [InR]; omega,?_⟩
         conv => whnf
         refine ⟨fun _ => by simp; omega,?_⟩
         conv => whnf
         refine ⟨encTop (kAt n (i - 1)),fun _ => by rw [pred_toNat (by omega)]; exact get_kk n (by omega),?_⟩
         conv => whnf
         refine Tri.cond _ rfl (fun hc => ?_) (fun hc => ?_)
         ·refine Tri.seq ?_
          refine Tri.region ti_ok ?_
          conv => whnf
          refine Tri.ret ?_
          conv => whnf
          exact intDLe (hit8 5 (by rw [fK,ordE,if_pos (by have:=hc; simp at this; exact this.symm)]) (by decide)).symm
         ·refine Tri.skip ?_
          have hne : (kAt n (i - 1)).name ≠ (kAt n i).name:=fun e => by rw [e] at hc; simp at hc
          conv => whnf
          refine Tri.seq ?_
          refine Tri.draw ti_ok mixed (by kernel_rfl) ?_
          conv => whnf
          refine ⟨rfl,?_⟩
          conv => whnf
          refine ⟨fun _ => by simp; omega,?_⟩
          conv => whnf
          refine ⟨encTop (kAt n i),fun _ => get_kk n hia,?_⟩
          conv => whnf
          refine ⟨rfl,?_⟩
          conv => whnf
          refine .inl ⟨fun _ => by simp only [InR]; omega,?_⟩
          conv => whnf
          refine ⟨fun _ => by simp; omega,?_⟩
          conv => whnf
          refine ⟨encTop (kAt n (i - 1)),fun _ => by rw [pred_toNat (by omega)]; exact get_kk n (by omega),?_⟩
          conv => whnf
          refine Tri.cond _ rfl (fun hc => ?_) (fun hc => ?_)
          ·refine Tri.seq ?_
           refine Tri.region ti_ok ?_
           conv => whnf
           refine Tri.ret ?_
           conv => whnf
           exact intDLe (hit8 1 (by rw [fK,ordE,if_neg hne,if_pos hc]) (by decide)).symm
          ·refine Tri.skip ?_
           conv => whnf
           refine Tri.region ti_ok ?_
           conv => whnf
           refine .inl ⟨fun _ => by simp [InR]; omega,?_⟩
           conv => whnf
           have hf : fK n i = 0:=by rw [fK,ordE,if_neg hne,if_neg (by rw [hc]; simp)]
           exact ⟨⟨i + 1,by omega,by omega,by rw [hp,nz_miss hia hf]⟩,by show _ + 1 - (i + 1) < _ + 1 - i; omega,⟨.refl _,.refl _,trivial⟩,⟨rfl,trivial⟩⟩
        ·refine Tri.exit ?_
         conv => whnf
         refine Tri.seq ?_
         refine Tri.region ti_ok ?_
         conv => whnf
         refine Tri.ret ?_
         conv => whnf
         exact intDLe (by rw [hp7,nz_miss (by omega) (by show rKids n = 0; rw [hp,nz_end (by simpa using hc)])]; rfl)
end Go.Tame.V
/- Contracts: the reference's Count,Check and Valid of a tree. By program (mk.py). -/
namespace Go.Tame.V
open Go Go.Proofs
variable {W0 : World}
set_option maxRecDepth 10000
set_option linter.unusedVariables false
set_option linter.unusedSimpArgs false

theorem cntL_append : ∀ a b : List NV,cntL (a ++ b) = cntL a + cntL b
 | [],b => by simp [cntL]
 | n::r,b => by simp only [List.cons_append,cntL]; rw [cntL_append r b]; omega
theorem cntL_next {l : List NV} {i : Nat} (h : i < l.length) : cntL (l.take (i + 1)) = cntL (l.take i) + cnt l[i]:=by
 rw [List.take_add_one,List.getElem?_eq_getElem h,cntL_append]; simp [cntL]
theorem cntL_take : ∀ (l : List NV) (i : Nat),cntL (l.take i) ≤ cntL l
 | [],i => by simp [cntL]
 | n::r,0 => by simp [cntL]
 | n::r,i + 1 => by simp only [List.take_succ_cons,cntL]; have:=cntL_take r i; omega

theorem F47 : ∀ (N : Nat) (n : NV),sz n < N → sz n < 100000000 → DFun Tryz.prog W0 27 [encTop n] (.int .i64 (cnt n)):=by
 refine fun N => Nat.rec (fun n h => absurd h (Nat.not_lt_zero _)) (fun N ih n hN hb => ?_) N
 have hkl:=kids_len n
 have hcs:=cntL_sz n.kids
 have hse:=sz_eq n
 refine DFun.intro ti_ok Tryz.func27 rfl (by decide +kernel) Tryz.ntmps27 rfl fun Γ => ?_
 refine Tri.seq ?_
 refine Tri.region ti_ok ?_
 conv => whnf
 intro b
 conv => whnf
 refine Tri.seq ?_
 refine Tri.region ti_ok ?_
 conv => whnf
 refine Tri.seq ?_
 refine Tri.seq ?_
 refine Tri.region ti_ok ?_
 conv => whnf
 refine Tri.block ?_
 refine Tri.loop (α:={ i : Nat // i ≤ n.kids.length }) (fun x => [(1,.box 1 b 0),(3,.int .i64 ((1 + cntL (n.kids.take x.1) : Nat) : Int)),(4,.int .i64 x.1)]) (fun _ => [(1,.box b (topCells n))]) (fun x => n.kids.length - x.1) ⟨0,by omega⟩ ⟨.refl _,.refl _,.refl _,trivial⟩ ⟨rfl,trivial⟩ ?_
 rintro ⟨i,hi⟩
 dsimp only
 refine Tri.seq ?_
 refine Tri.seq ?_
 refine Tri.region ti_ok ?_
 conv => whnf
 refine ⟨rfl,?_⟩
 conv => whnf
 refine Tri.cond _ rfl (fun hc => ?_) (fun hc => ?_)
 ·refine Tri.skip ?_
  conv => whnf
  have hia : i < n.kids.length:=by simpa using hc
  have hks:=kid_sz hia
  have hct:=cntL_take n.kids i
  have hcz:=cnt_sz n.kids[i]
  refine Tri.seq ?_
  refine Tri.block ?_
  refine Tri.region ti_ok ?_
  conv => whnf
  refine ⟨rfl,?_⟩
  conv => whnf
  refine ⟨fun _ => by simp; omega,?_⟩
  conv => whnf
  refine ⟨encTop n.kids[i],fun _ => get_kid hia,?_⟩
  conv => whnf
  refine ⟨[encTop n.kids[i]],_,fun _ => ih _ (by omega) (by omega),⟨.refl _,trivial⟩,?_⟩
  conv => whnf
  refine .inl ⟨fun _ => by simp only [InR]; omega,?_⟩
  conv => whnf
  refine Tri.region ti_ok ?_
  conv => whnf
  refine .inl ⟨fun _ => by simp [InR]; omega,?_⟩
  conv => whnf
  exact ⟨⟨i + 1,by omega⟩,by show _ - (i + 1) < _ - i; omega,⟨.refl _,intDLe (by rw [cntL_next hia]; omega),.refl _,trivial⟩,⟨rfl,trivial⟩⟩
 ·refine Tri.exit ?_
  conv => whnf
  refine Tri.seq ?_
  refine Tri.region ti_ok ?_
  conv => whnf
  refine Tri.ret ?_
  conv => whnf
  exact intDLe (by rw [cnt_eq,List.take_of_length_le (by simp at hc; omega)])

mutual
theorem wchk : ∀ (n : NV) (p : List UInt8) (l : Int),walk checkF n p l (0,[]) = (true,(0,[])) ∨ ((walk checkF n p l (0,[])).1 = false ∧ (walk checkF n p l (0,[])).2.1 ≠ 0)
 | .mk a b c d e f g h i j ks ss,p,l => by
  simp only [walk]
  unfold checkF
  split
  ·rename_i s' heq
   split at heq
   ·cases heq
   ·rename_i h0; cases heq; exact .inr ⟨rfl,h0⟩
  ·rename_i s' heq
   split at heq
   ·cases heq; exact wchkL ks p l
   ·cases heq
theorem wchkL : ∀ (ks : List NV) (p : List UInt8) (l : Int),walkL checkF ks p l (0,[]) = (true,(0,[])) ∨ ((walkL checkF ks p l (0,[])).1 = false ∧ (walkL checkF ks p l (0,[])).2.1 ≠ 0)
 | [],p,l => .inl rfl
 | k::r,p,l => by
  simp only [walkL]
  rcases wchk k (below p k.name (l + 1)) (l + 1) with h | ⟨h1,h2⟩
  ·rw [h]; exact wchkL r p l
  ·generalize walk checkF k (below p k.name (l + 1)) (l + 1) (0,[]) = r at h1 h2
   obtain ⟨x,y⟩:=r
   simp only at h1 h2
   subst h1
   exact .inr ⟨rfl,h2⟩
end
def rchk (n : NV) (p : List UInt8) (l : Int) : List UInt8 × Int:=if (walk checkF n p l (0,[])).1 then ([],0) else ((walk checkF n p l (0,[])).2.2,(walk checkF n p l (0,[])).2.1)

theorem F67 : ∀ (N : Nat) (n : NV) (p : List UInt8) (l : Int),sz n < N → p.length + sz n + l.toNat + n.name.length < 10000000 → 1 ≤ l → DFun Tryz.prog W0 119 [encTop n,.str p,.int .i64 l] (.tup [.str (rchk n p l).1,.int .i64 (rchk n p l).2]):=by
 refine fun N => Nat.rec (fun n p l h => absurd h (Nat.not_lt_zero _)) (fun N ih n p l hN hb hl => ?_) N
 have hkl:=kids_len n
 refine DFun.intro ti_ok Tryz.func119 rfl (by decide +kernel) Tryz.ntmps119 rfl fun Γ => ?_
 refine Tri.seq ?_
 refine Tri.region ti_ok ?_
 conv => whnf
 intro b
 conv => whnf
 refine Tri.seq ?_
 refine Tri.seq ?_
 refine Tri.region ti_ok ?_
 conv => whnf
 refine ⟨rfl,?_⟩
 conv => whnf
 refine ⟨[encTop n,.int .i64 l],_,fun _ => F93 n l (by omega),⟨.refl _,.refl _,trivial⟩,?_⟩
 conv => whnf
 refine Tri.seq ?_
 refine Tri.region ti_ok ?_
 conv => whnf
 refine Tri.cond _ rfl (fun hc => ?_) (fun hc => ?_)
 ·refine Tri.seq ?_
  refine Tri.region ti_ok ?_
  conv => whnf
  refine Tri.ret ?_
  conv => whnf
  have hne : one n l ≠ 0:=by simpa using hc
  have hw : walk checkF n p l (0,[]) = (false,(one n l,p)):=by rw [walk_eq,checkF,if_neg hne]
  have hR : rchk n p l = (p,one n l):=by rw [rchk,hw]; rfl
  rw [hR]
  exact ⟨.refl _,.refl _,trivial⟩
 ·refine Tri.skip ?_
  have h0 : one n l = 0:=by simpa using hc
  have hw : walk checkF n p l (0,[]) = walkL checkF n.kids p l (0,[]):=by rw [walk_eq,checkF,if_pos h0]
  conv => whnf
  refine Tri.seq ?_
  refine Tri.seq ?_
  refine Tri.region ti_ok ?_
  conv => whnf
  refine Tri.block ?_
  refine Tri.loop (α:={ i : Nat // i ≤ n.kids.length ∧ walk checkF n p l (0,[]) = walkL checkF (n.kids.drop i) p l (0,[]) }) (fun x => [(1,.str p),(2,.int .i64 l),(3,.box 3 b 0),(9,.int .i64 x.1)]) (fun _ => [(3,.box b (topCells n))]) (fun x => n.kids.length - x.1) ⟨0,by omega,hw⟩ ⟨.refl _,.refl _,.refl _,.refl _,trivial⟩ ⟨rfl,trivial⟩ ?_
  rintro ⟨i,hi,hp⟩
  dsimp only
  refine Tri.seq ?_
  refine Tri.seq ?_
  refine Tri.region ti_ok ?_
  conv => whnf
  refine ⟨rfl,?_⟩
  conv => whnf
  refine Tri.cond _ rfl (fun hc => ?_) (fun hc => ?_)
  ·refine Tri.skip ?_
   conv => whnf
   have hia : i < n.kids.length:=by simpa using hc
   have hks:=kid_sz hia
   have hbl:=below_len p n.kids[i].name (l + 1)
   have hdr:=List.drop_eq_getElem_cons hia
   have hwk:=wchk n.kids[i] (below p n.kids[i].name (l + 1)) (l + 1)
   refine Tri.seq ?_
   refine Tri.block ?_
   refine Tri.seq ?_
   refine Tri.draw ti_ok mixed (by kernel_rfl) ?_
   conv => whnf
   refine ⟨rfl,?_⟩
   conv => whnf
   refine ⟨fun _ => by simp; omega,?_⟩
   conv => whnf
   refine ⟨encTop n.kids[i],fun _ => get_kid hia,?_⟩
   conv => whnf
   refine ⟨rfl,?_⟩
   conv => whnf
   refine ⟨fun _ => by simp; omega,?_⟩
   conv => whnf
   refine ⟨encTop n.kids[i],fun _ => get_kid hia,?_⟩
   conv => whnf
   refine ⟨[.str p,.str n.kids[i].name,.int .i64 l],_,fun _ => F68 p _ l (by omega) hl,⟨.refl _,.refl _,.refl _,trivial⟩,?_⟩
   conv => whnf
   refine .inl ⟨fun _ => by simp [InR]; omega,?_⟩
   conv => whnf
   refine ⟨[encTop n.kids[i],.str (below p n.kids[i].name (l + 1)),.int .i64 (l + 1)],_,fun _ => ih n.kids[i] (below p n.kids[i].name (l + 1)) (l + 1) (by omega) (by omega) (by omega),⟨.refl _,.refl _,.refl _,trivial⟩,?_⟩
   conv => whnf
   refine Tri.seq ?_
   refine Tri.region ti_ok ?_
   conv => whnf
   refine Tri.cond _ rfl (fun hc => ?_) (fun hc => ?_)
   ·refine Tri.seq ?_
    refine Tri.region ti_ok ?_
    conv => whnf
    refine Tri.ret ?_
    conv => whnf
    have hne : (rchk n.kids[i] (below p n.kids[i].name (l + 1)) (l + 1)).2 ≠ 0:=by simpa using hc
    have hR : rchk n p l = rchk n.kids[i] (below p n.kids[i].name (l + 1)) (l + 1):=by
     unfold rchk at hne ⊢
     rw [hp,hdr,walkL]
     rcases hwk with h | ⟨h1,h2⟩
     ·rw [h] at hne; exact absurd rfl hne
     ·generalize walk checkF n.kids[i] (below p n.kids[i].name (l + 1)) (l + 1) (0,[]) = r at *
      obtain ⟨x,y⟩:=r
      simp only at h1; subst h1; rfl
    rw [hR]
    exact ⟨.refl _,.refl _,trivial⟩
   ·refine Tri.skip ?_
    conv => whnf
    refine Tri.region ti_ok ?_
    conv => whnf
    refine .inl ⟨fun _ => by simp [InR]; omega,?_⟩
    conv => whnf
    have h0 : (rchk n.kids[i] (below p n.kids[i].name (l + 1)) (l + 1)).2 = 0:=by simpa using hc
    have hk : walk checkF n.kids[i] (below p n.kids[i].name (l + 1)) (l + 1) (0,[]) = (true,(0,[])):=by
     rcases hwk with h | ⟨h1,h2⟩
     ·exact h
     ·unfold rchk at h0; rw [h1] at h0; exact absurd h0 h2
    exact ⟨⟨i + 1,by omega,by rw [hp,hdr,walkL,hk]⟩,by show _ - (i + 1) < _ - i; omega,⟨.refl _,.refl _,.refl _,.refl _,trivial⟩,⟨rfl,trivial⟩⟩
  ·refine Tri.exit ?_
   conv => whnf
   refine Tri.seq ?_
   refine Tri.region ti_ok ?_
   conv => whnf
   refine Tri.ret ?_
   conv => whnf
   have hR : rchk n p l = ([],0):=by rw [rchk,hp,List.drop_of_length_le (by simp at hc; omega)]; rfl
   rw [hR]
   exact ⟨.refl _,.refl _,trivial⟩

theorem rchk_check (n : NV) : (if (256 : Int) < cnt n then ([],7) else rchk n [] 1) = check n:=by
 unfold check rchk
 split
 ·rfl
 ·rcases wchk n [] 1 with h | ⟨h1,h2⟩
  ·rw [h]; rfl
  ·rw [h1]; rfl
theorem F43 (n : NV) (hz : sz n + n.name.length < 2200000) : DFun Tryz.prog W0 69 [encTop n] (.tup [.str (check n).1,.int .i64 (check n).2]):=by
 refine DFun.intro ti_ok Tryz.func69 rfl (by decide +kernel) Tryz.ntmps69 rfl fun Γ => ?_
 refine Tri.seq ?_
 refine Tri.region ti_ok ?_
 conv => whnf
 intro b
 conv => whnf
 refine Tri.seq ?_
 refine Tri.seq ?_
 refine Tri.region ti_ok ?_
 conv => whnf
 refine ⟨rfl,?_⟩
 conv => whnf
 refine ⟨[encTop n],_,fun _ => F47 _ n (Nat.lt_succ_self _) (by omega),⟨.refl _,trivial⟩,?_⟩
 conv => whnf
 refine Tri.cond _ rfl (fun hc => ?_) (fun hc => ?_)
 ·refine Tri.seq ?_
  refine Tri.region ti_ok ?_
  conv => whnf
  refine Tri.ret ?_
  conv => whnf
  rw [← rchk_check,if_pos (by simpa using hc)]
  exact ⟨.refl _,.refl _,trivial⟩
 ·refine Tri.skip ?_
  conv => whnf
  refine Tri.seq ?_
  refine Tri.region ti_ok ?_
  conv => whnf
  refine ⟨rfl,?_⟩
  conv => whnf
  refine ⟨[encTop n,.str [],.int .i64 1],_,fun _ => F67 _ n [] 1 (Nat.lt_succ_self _) (by simp; omega) (by omega),⟨.refl _,.refl _,.refl _,trivial⟩,?_⟩
  conv => whnf
  refine Tri.ret ?_
  conv => whnf
  rw [← rchk_check,if_neg (by simpa using hc)]
  exact ⟨.refl _,.refl _,trivial⟩
theorem F20 (n : NV) (hz : sz n + n.name.length < 2200000) : DFun Tryz.prog W0 24 [encTop n] (.bool (valid n)):=by
 refine DFun.intro ti_ok Tryz.func24 rfl (by decide +kernel) Tryz.ntmps24 rfl fun Γ => ?_
 refine Tri.seq ?_
 refine Tri.region ti_ok ?_
 conv => whnf
 intro b
 conv => whnf
 refine Tri.seq ?_
 refine Tri.region ti_ok ?_
 conv => whnf
 refine ⟨rfl,?_⟩
 conv => whnf
 refine ⟨[encTop n],_,fun _ => F43 n hz,⟨.refl _,trivial⟩,?_⟩
 conv => whnf
 refine Tri.seq ?_
 refine Tri.region ti_ok ?_
 conv => whnf
 refine Tri.ret ?_
 conv => whnf
 exact .refl _
end Go.Tame.V
/- Contracts: Compare's parts. By program (mk.py). -/
namespace Go.Tame.V
open Go Go.Proofs
variable {W0 : World}
set_option maxRecDepth 10000
set_option linter.unusedVariables false
set_option linter.unusedSimpArgs false

def joinP (p n : List UInt8) : List UInt8:=if p = [] then n else p ++ [47] ++ n
def fieldDiff (a b : NV) : Nat → Bool
 | 0 => !(a.text == b.text)
 | 1 => !(a.target == b.target)
 | 2 => (!(a.n1 == b.n1) || !(a.n2 == b.n2)) || !(a.n3 == b.n3)
 | 3 => !(a.n4 == b.n4)
 | _ => !decide (a.streams = b.streams)
def fieldDiffs (p : List UInt8) (a b : NV) (i : Nat) : List DV:=((List.range i).filter (fieldDiff a b)).map fun i => ⟨((3 + i : Nat) : Int),p⟩
mutual
/-- What Compare hands back of two nodes at a path. -/
def cmpT (p : List UInt8) (a b : NV) : List DV:=if a.kind = b.kind then fieldDiffs p a b 5 ++ mrg p a.kids b.kids else [⟨2,p⟩]
termination_by sz a + sz b
decreasing_by have h1:=sz_eq a; have h2:=sz_eq b; omega
def mrg (p : List UInt8) : List NV → List NV → List DV
 | [],[] => []
 | x::xs,[] => ⟨0,joinP p x.name⟩::mrg p xs []
 | [],y::ys => ⟨1,joinP p y.name⟩::mrg p [] ys
 | x::xs,y::ys =>
  if Op.bytesLess x.name y.name then ⟨0,joinP p x.name⟩::mrg p xs (y::ys)
  else if x.name = y.name then cmpT (joinP p x.name) x y ++ mrg p xs ys
  else ⟨1,joinP p y.name⟩::mrg p (x::xs) ys
termination_by xs ys => szL xs + szL ys
decreasing_by all_goals simp only [szL]; omega
end
end Go.Tame.V
/- Contracts: Compare. By program (mk.py). -/
namespace Go.Tame.V
open Go Go.Proofs
variable {W0 : World}
set_option maxRecDepth 10000
set_option linter.unusedVariables false
set_option linter.unusedSimpArgs false

end Go.Tame.V
/- Contracts: Compare and Same; few. By program (mk.py). -/
namespace Go.Tame.V
open Go Go.Proofs
variable {W0 : World}
set_option maxRecDepth 10000
set_option linter.unusedVariables false
set_option linter.unusedSimpArgs false

def Fits (n : NV) : Prop:=sz n + n.name.length < 2200000
def compare (a b : NV) : List DV × Int:=if valid a && valid b then (cmpT [] a b,0) else ([],1)
def same (a b : NV) : Bool:=(compare a b).2 == 0 && (compare a b).1.length == 0
mutual
def levels : NV → Nat
 | .mk _ _ _ _ _ _ _ _ _ _ ks _ => levelsL ks + 1
def levelsL : List NV → Nat
 | [] => 0
 | n::r => max (levels n) (levelsL r)
end
theorem levels_eq (n : NV) : levels n = levelsL n.kids + 1:=by cases n; simp only [levels]
theorem levelsL_append : ∀ a b : List NV,levelsL (a ++ b) = max (levelsL a) (levelsL b)
 | [],b => by simp [levelsL]
 | n::r,b => by simp only [List.cons_append,levelsL]; rw [levelsL_append r b]; omega
theorem levelsL_next {l : List NV} {i : Nat} (h : i < l.length) : levelsL (l.take (i + 1)) = max (levelsL (l.take i)) (levels l[i]):=by
 rw [List.take_add_one,List.getElem?_eq_getElem h,levelsL_append]; simp [levelsL]
mutual
theorem levels_sz : ∀ n : NV,levels n ≤ sz n
 | .mk a b c d e f g h i j ks ss => by have:=levelsL_sz ks; simp only [levels,sz]; omega
theorem levelsL_sz : ∀ l : List NV,levelsL l ≤ szL l
 | [] => by simp [levelsL,szL]
 | n::r => by have:=levels_sz n; have:=levelsL_sz r; simp only [levelsL,szL]; omega
end
theorem F48 : ∀ (N : Nat) (n : NV),sz n < N → sz n < 100000000 → DFun Tryz.prog W0 59 [encTop n] (.int .i64 (levels n)):=by
 refine fun N => Nat.rec (fun n h => absurd h (Nat.not_lt_zero _)) (fun N ih n hN hb => ?_) N
 have hkl:=kids_len n
 have hcs:=levelsL_sz n.kids
 have hse:=sz_eq n
 refine DFun.intro ti_ok Tryz.func59 rfl (by decide +kernel) Tryz.ntmps59 rfl fun Γ => ?_
 refine Tri.seq ?_
 refine Tri.region ti_ok ?_
 conv => whnf
 intro b
 conv => whnf
 refine Tri.seq ?_
 refine Tri.region ti_ok ?_
 conv => whnf
 refine Tri.seq ?_
 refine Tri.seq ?_
 refine Tri.region ti_ok ?_
 conv => whnf
 refine Tri.block ?_
 refine Tri.loop (α:={ i : Nat // i ≤ n.kids.length }) (fun x => [(1,.box 1 b 0),(3,.int .i64 (levelsL (n.kids.take x.1) : Nat)),(4,.int .i64 x.1)]) (fun _ => [(1,.box b (topCells n))]) (fun x => n.kids.length - x.1) ⟨0,by omega⟩ ⟨.refl _,.refl _,.refl _,trivial⟩ ⟨rfl,trivial⟩ ?_
 rintro ⟨i,hi⟩
 dsimp only
 refine Tri.seq ?_
 refine Tri.seq ?_
 refine Tri.region ti_ok ?_
 conv => whnf
 refine ⟨rfl,?_⟩
 conv => whnf
 refine Tri.cond _ rfl (fun hc => ?_) (fun hc => ?_)
 ·refine Tri.skip ?_
  conv => whnf
  have hia : i < n.kids.length:=by simpa using hc
  have hks:=kid_sz hia
  refine Tri.seq ?_
  refine Tri.block ?_
  refine Tri.region ti_ok ?_
  conv => whnf
  refine ⟨rfl,?_⟩
  conv => whnf
  refine ⟨fun _ => by simp; omega,?_⟩
  conv => whnf
  refine ⟨encTop n.kids[i],fun _ => get_kid hia,?_⟩
  conv => whnf
  refine ⟨[encTop n.kids[i]],_,fun _ => ih _ (by omega) (by omega),⟨.refl _,trivial⟩,?_⟩
  conv => whnf
  refine Tri.region ti_ok ?_
  conv => whnf
  refine .inl ⟨fun _ => by simp [InR]; omega,?_⟩
  conv => whnf
  exact ⟨⟨i + 1,by omega⟩,by show _ - (i + 1) < _ - i; omega,⟨.refl _,intDLe (by rw [levelsL_next hia]; split <;> omega),.refl _,trivial⟩,⟨rfl,trivial⟩⟩
 ·refine Tri.exit ?_
  conv => whnf
  refine Tri.seq ?_
  refine Tri.region ti_ok ?_
  conv => whnf
  have hll : n.kids.take i = n.kids:=List.take_of_length_le (by simp at hc; omega)
  refine .inl ⟨fun _ => by simp only [InR]; rw [hll]; omega,?_⟩
  conv => whnf
  refine Tri.ret ?_
  conv => whnf
  exact intDLe (by rw [levels_eq,hll]; omega)
end Go.Tame.V
/- Contracts: few; the reference's Kid,Join. By program (mk.py). -/
namespace Go.Tame.V
open Go Go.Proofs
variable {W0 : World}
set_option maxRecDepth 10000
set_option linter.unusedVariables false
set_option linter.unusedSimpArgs false

def ssize : List SV → Nat
 | [] => 0
 | s::r => 20 + s.name.length + s.target.length + ssize r
mutual
def tsize : NV → Nat
 | .mk a _ c d _ _ _ _ _ _ ks ss => 20 + a.length + c.length + d.length + ssize ss + tsizeL ks
def tsizeL : List NV → Nat
 | [] => 0
 | n::r => tsize n + tsizeL r
end
theorem tsize_eq (n : NV) : tsize n = 20 + n.name.length + n.text.length + n.target.length + ssize n.streams + tsizeL n.kids:=by cases n; simp only [tsize]
theorem ssize_sz : ∀ l : List SV,ssize l ≤ 10 * szS l
 | [] => by simp [ssize,szS]
 | s::r => by have:=ssize_sz r; simp only [ssize,szS]; omega
mutual
theorem tsize_sz : ∀ n : NV,tsize n ≤ n.name.length + 10 * sz n
 | .mk a b c d e f g h i j ks ss => by have:=tsizeL_sz ks; have:=ssize_sz ss; simp only [tsize,sz]; omega
theorem tsizeL_sz : ∀ l : List NV,tsizeL l ≤ 10 * szL l
 | [] => by simp [tsizeL,szL]
 | n::r => by have:=tsize_sz n; have:=tsizeL_sz r; simp only [tsizeL,szL]; omega
end
theorem ssize_append : ∀ a b : List SV,ssize (a ++ b) = ssize a + ssize b
 | [],b => by simp [ssize]
 | n::r,b => by simp only [List.cons_append,ssize]; rw [ssize_append r b]; omega
theorem ssize_next (n : NV) {i : Nat} (h : i < n.streams.length) : ssize (n.streams.take (i + 1)) = ssize (n.streams.take i) + (20 + (stAt n i).name.length + (stAt n i).target.length):=by
 rw [List.take_add_one,List.getElem?_eq_getElem h,ssize_append]; simp [ssize,stAt,List.getD,h]
theorem ssize_take : ∀ (l : List SV) (i : Nat),ssize (l.take i) ≤ ssize l
 | [],i => by simp [ssize]
 | n::r,0 => by simp [ssize]
 | n::r,i + 1 => by simp only [List.take_succ_cons,ssize]; have:=ssize_take r i; omega
theorem tsizeL_append : ∀ a b : List NV,tsizeL (a ++ b) = tsizeL a + tsizeL b
 | [],b => by simp [tsizeL]
 | n::r,b => by simp only [List.cons_append,tsizeL]; rw [tsizeL_append r b]; omega
theorem tsizeL_next {l : List NV} {i : Nat} (h : i < l.length) : tsizeL (l.take (i + 1)) = tsizeL (l.take i) + tsize l[i]:=by
 rw [List.take_add_one,List.getElem?_eq_getElem h,tsizeL_append]; simp [tsizeL]
theorem tsizeL_take : ∀ (l : List NV) (i : Nat),tsizeL (l.take i) ≤ tsizeL l
 | [],i => by simp [tsizeL]
 | n::r,0 => by simp [tsizeL]
 | n::r,i + 1 => by simp only [List.take_succ_cons,tsizeL]; have:=tsizeL_take r i; omega

theorem F49 : ∀ (N : Nat) (n : NV),sz n < N → sz n + n.name.length < 10000000 → DFun Tryz.prog W0 60 [encTop n] (.int .i64 (tsize n)):=by
 refine fun N => Nat.rec (fun n h => absurd h (Nat.not_lt_zero _)) (fun N ih n hN hb => ?_) N
 have hkl:=kids_len n
 have hsl:=streams_len n
 have hts:=tsize_sz n
 have hte:=tsize_eq n
 refine DFun.intro ti_ok Tryz.func60 rfl (by decide +kernel) Tryz.ntmps60 rfl fun Γ => ?_
 refine Tri.seq ?_
 refine Tri.region ti_ok ?_
 conv => whnf
 intro b
 conv => whnf
 refine Tri.seq ?_
 refine Tri.region ti_ok ?_
 conv => whnf
 refine ⟨rfl,?_⟩
 conv => whnf
 refine .inl ⟨fun _ => by simp only [InR]; omega,?_⟩
 conv => whnf
 refine ⟨rfl,?_⟩
 conv => whnf
 refine .inl ⟨fun _ => by simp only [InR]; omega,?_⟩
 conv => whnf
 refine ⟨rfl,?_⟩
 conv => whnf
 refine .inl ⟨fun _ => by simp only [InR]; omega,?_⟩
 conv => whnf
 refine Tri.seq ?_
 refine Tri.seq ?_
 refine Tri.region ti_ok ?_
 conv => whnf
 refine Tri.block ?_
 refine Tri.loop (α:={ i : Nat // i ≤ n.streams.length }) (fun x => [(1,.box 1 b 0),(3,.int .i64 ((20 + n.name.length + n.text.length + n.target.length + ssize (n.streams.take x.1) : Nat) : Int)),(4,.int .i64 x.1)]) (fun _ => [(1,.box b (topCells n))]) (fun x => n.streams.length - x.1) ⟨0,by omega⟩ ⟨.refl _,intDLe (by simp [ssize]),.refl _,trivial⟩ ⟨rfl,trivial⟩ ?_
 rintro ⟨i,hi⟩
 dsimp only
 refine Tri.seq ?_
 refine Tri.seq ?_
 refine Tri.region ti_ok ?_
 conv => whnf
 refine ⟨rfl,?_⟩
 conv => whnf
 refine Tri.cond _ rfl (fun hc => ?_) (fun hc => ?_)
 ·refine Tri.skip ?_
  conv => whnf
  have hia : i < n.streams.length:=by simpa using hc
  have htk:=ssize_take n.streams (i + 1)
  have hnx:=ssize_next n hia
  refine Tri.seq ?_
  refine Tri.block ?_
  refine Tri.draw ti_ok mixed (by kernel_rfl) ?_
  conv => whnf
  refine .inl ⟨fun _ => by simp only [InR]; omega,?_⟩
  conv => whnf
  refine ⟨rfl,?_⟩
  conv => whnf
  refine ⟨fun _ => by simp; omega,?_⟩
  conv => whnf
  refine ⟨encS (stAt n i),fun _ => get_st n hia,?_⟩
  conv => whnf
  refine .inl ⟨fun _ => by simp only [InR]; omega,?_⟩
  conv => whnf
  refine ⟨rfl,?_⟩
  conv => whnf
  refine ⟨fun _ => by simp; omega,?_⟩
  conv => whnf
  refine ⟨encS (stAt n i),fun _ => get_st n hia,?_⟩
  conv => whnf
  refine .inl ⟨fun _ => by simp only [InR]; omega,?_⟩
  conv => whnf
  refine Tri.region ti_ok ?_
  conv => whnf
  refine .inl ⟨fun _ => by simp [InR]; omega,?_⟩
  conv => whnf
  exact ⟨⟨i + 1,by omega⟩,by show _ - (i + 1) < _ - i; omega,⟨.refl _,intDLe (by rw [hnx]; omega),.refl _,trivial⟩,⟨rfl,trivial⟩⟩
 ·refine Tri.exit ?_
  conv => whnf
  have hall : n.streams.take i = n.streams:=List.take_of_length_le (by simp at hc; omega)
  refine Tri.seq ?_
  refine Tri.seq ?_
  refine Tri.region ti_ok ?_
  conv => whnf
  refine Tri.block ?_
  refine Tri.loop (α:={ i : Nat // i ≤ n.kids.length }) (fun x => [(1,.box 1 b 0),(3,.int .i64 ((20 + n.name.length + n.text.length + n.target.length + ssize n.streams + tsizeL (n.kids.take x.1) : Nat) : Int)),(5,.int .i64 x.1)]) (fun _ => [(1,.box b (topCells n))]) (fun x => n.kids.length - x.1) ⟨0,by omega⟩ ⟨.refl _,intDLe (by rw [hall]; simp [tsizeL]),.refl _,trivial⟩ ⟨rfl,trivial⟩ ?_
  rintro ⟨i,hi⟩
  dsimp only
  refine Tri.seq ?_
  refine Tri.seq ?_
  refine Tri.region ti_ok ?_
  conv => whnf
  refine ⟨rfl,?_⟩
  conv => whnf
  refine Tri.cond _ rfl (fun hc => ?_) (fun hc => ?_)
  ·refine Tri.skip ?_
   conv => whnf
   have hia : i < n.kids.length:=by simpa using hc
   have hks:=kid_sz hia
   have htk:=tsizeL_take n.kids (i + 1)
   have hnx:=tsizeL_next hia
   refine Tri.seq ?_
   refine Tri.block ?_
   refine Tri.region ti_ok ?_
   conv => whnf
   refine ⟨rfl,?_⟩
   conv => whnf
   refine ⟨fun _ => by simp; omega,?_⟩
   conv => whnf
   refine ⟨encTop n.kids[i],fun _ => get_kid hia,?_⟩
   conv => whnf
   refine ⟨[encTop n.kids[i]],_,fun _ => ih _ (by omega) (by omega),⟨.refl _,trivial⟩,?_⟩
   conv => whnf
   refine .inl ⟨fun _ => by simp only [InR]; omega,?_⟩
   conv => whnf
   refine Tri.region ti_ok ?_
   conv => whnf
   refine .inl ⟨fun _ => by simp [InR]; omega,?_⟩
   conv => whnf
   exact ⟨⟨i + 1,by omega⟩,by show _ - (i + 1) < _ - i; omega,⟨.refl _,intDLe (by rw [hnx]; omega),.refl _,trivial⟩,⟨rfl,trivial⟩⟩
  ·refine Tri.exit ?_
   conv => whnf
   refine Tri.seq ?_
   refine Tri.region ti_ok ?_
   conv => whnf
   refine Tri.ret ?_
   conv => whnf
   exact intDLe (by rw [hte,List.take_of_length_le (by simp at hc; omega)])

def few1 (n : NV) (s : Int) : Bool:=(decide ((cnt n : Int) ≤ 40) && decide ((levels n : Int) ≤ 20)) && decide ((tsize n : Int) ≤ s)
theorem F26 (n : NV) (s : Int) (hn : Fits n) : DFun Tryz.prog W0 16 [encTop n,.int .i64 s] (.bool (few1 n s)):=by
 refine DFun.intro ti_ok Tryz.func16 rfl (by decide +kernel) Tryz.ntmps16 rfl fun Γ => ?_
 refine Tri.seq ?_
 refine Tri.region ti_ok ?_
 conv => whnf
 intro b
 conv => whnf
 refine Tri.seq ?_
 refine Tri.region ti_ok ?_
 conv => whnf
 refine ⟨rfl,?_⟩
 conv => whnf
 unfold Fits at hn
 refine ⟨[encTop n],_,fun _ => F47 _ n (Nat.lt_succ_self _) (by omega),⟨.refl _,trivial⟩,?_⟩
 conv => whnf
 refine ⟨rfl,?_⟩
 conv => whnf
 refine ⟨fun h => h,?_⟩
 conv => whnf
 refine ⟨[encTop n],_,fun h => F48 _ n (Nat.lt_succ_self _) (by omega),⟨.refl _,trivial⟩,?_⟩
 conv => whnf
 refine ⟨fun h => h,?_⟩
 conv => whnf
 refine ⟨fun h0 h => by first | exact h | (rw [h]; rfl) | (rw [h0,h]; rfl),?_⟩
 conv => whnf
 refine ⟨rfl,?_⟩
 conv => whnf
 refine ⟨fun h => h,?_⟩
 conv => whnf
 refine ⟨[encTop n],_,fun h => F49 _ n (Nat.lt_succ_self _) (by omega),⟨.refl _,trivial⟩,?_⟩
 conv => whnf
 refine ⟨fun h => h,?_⟩
 conv => whnf
 refine ⟨fun h => h,?_⟩
 conv => whnf
 refine ⟨fun h0 h => by first | exact h | (rw [h]; rfl) | (rw [h0,h]; rfl),?_⟩
 conv => whnf
 refine Tri.ret ?_
 conv => whnf
 exact DLe.of_eq (congrArg D.bool (by simp only [few1,← bif_and]))
end Go.Tame.V
/- The order of texts; contracts: the reference's names. By program (mk.py). -/
namespace Go.Tame.V
open Go Go.Proofs
variable {W0 : World}
set_option maxRecDepth 10000
set_option linter.unusedVariables false
set_option linter.unusedSimpArgs false

theorem bl_irrefl : ∀ a : List UInt8,Op.bytesLess a a = false
 | [] => rfl
 | a::xs => by simp [Op.bytesLess,bl_irrefl xs,UInt8.lt_irrefl]
theorem bl_total : ∀ a b : List UInt8,Op.bytesLess a b = false → Op.bytesLess b a = false → a = b
 | [],[],_,_ => rfl
 | [],_::_,h,_ => by simp [Op.bytesLess] at h
 | _::_,[],_,h => by simp [Op.bytesLess] at h
 | a::xs,b::ys,h,h' => by
  simp only [Op.bytesLess,Bool.or_eq_false_iff,decide_eq_false_iff_not,Bool.and_eq_false_iff,beq_eq_false_iff_ne] at h h'
  have hab : a = b:=UInt8.le_antisymm (UInt8.not_lt.1 h'.1) (UInt8.not_lt.1 h.1)
  subst hab
  rw [bl_total xs ys (by rcases h.2 with h | h; exact absurd rfl h; exact h) (by rcases h'.2 with h | h; exact absurd rfl h; exact h)]
theorem bl_trans : ∀ a b c : List UInt8,Op.bytesLess a b = true → Op.bytesLess b c = true → Op.bytesLess a c = true
 | _,[],_,h,_ => by cases h' : (‹List UInt8› : List UInt8) <;> simp_all [Op.bytesLess]
 | _,_::_,[],_,h => by simp [Op.bytesLess] at h
 | [],_::_,_::_,_,_ => rfl
 | a::xs,b::ys,c::zs,h,h' => by
  simp only [Op.bytesLess,Bool.or_eq_true,decide_eq_true_eq,Bool.and_eq_true,beq_iff_eq] at h h' ⊢
  rcases h with h | ⟨rfl,h⟩
  ·rcases h' with h' | ⟨rfl,h'⟩
   ·exact .inl (UInt8.lt_trans h h')
   ·exact .inl h
  ·rcases h' with h' | ⟨rfl,h'⟩
   ·exact .inl h'
   ·exact .inr ⟨rfl,bl_trans xs ys zs h h'⟩
theorem bl_asymm {a b : List UInt8} (h : Op.bytesLess a b = true) : Op.bytesLess b a = false:=by
 cases hb : Op.bytesLess b a with
 | false => rfl
 | true => have:=bl_trans a b a h hb; rw [bl_irrefl] at this; cases this
theorem bl_ne {a b : List UInt8} (h : Op.bytesLess a b = true) : a ≠ b:=fun e => by rw [e,bl_irrefl] at h; cases h

end Go.Tame.V
/- Contracts: the reference's Compare. By program (mk.py). -/
namespace Go.Tame.V
open Go Go.Proofs
variable {W0 : World}
set_option maxRecDepth 10000
set_option linter.unusedVariables false
set_option linter.unusedSimpArgs false

def inc (l : List NV) : Prop:=∀ i,i + 1 < l.length → Op.bytesLess (l.getD i default).name (l.getD (i + 1) default).name = true
theorem inc_lt {l : List NV} (h : inc l) : ∀ {d i : Nat},i + d + 1 < l.length → Op.bytesLess (l.getD i default).name (l.getD (i + d + 1) default).name = true
 | 0,i,hi => h i hi
 | d + 1,i,hi => bl_trans _ _ _ (inc_lt h (d:=d) (i:=i) (by omega)) (h (i + d + 1) hi)
theorem inc_lt' {l : List NV} (h : inc l) {i j : Nat} (hij : i < j) (hj : j < l.length) : Op.bytesLess (l.getD i default).name (l.getD j default).name = true:=by
 have:=inc_lt h (d:=j - i - 1) (i:=i) (by omega)
 rwa [show i + (j - i - 1) + 1 = j by omega] at this
end Go.Tame.V
/- Contracts: the reference's Compare. By program (mk.py). -/
namespace Go.Tame.V
open Go Go.Proofs
variable {W0 : World}
set_option maxRecDepth 10000
set_option linter.unusedVariables false
set_option linter.unusedSimpArgs false

end Go.Tame.V
/- A valid tree is sorted; contracts: the reference's Compare and Same. By program (mk.py). -/
namespace Go.Tame.V
open Go Go.Proofs
variable {W0 : World}
set_option maxRecDepth 10000
set_option linter.unusedVariables false
set_option linter.unusedSimpArgs false

end Go.Tame.V
/- Two laws,given that the first thing that they ask ('awake') answers true. By program (mk.py). -/
namespace Go.Tame.V
open Go Go.Proofs
variable {W0 : World}
set_option maxRecDepth 10000
set_option linter.unusedVariables false
set_option linter.unusedSimpArgs false

end Go.Tame.V
/- Contracts: naming,small ones; the example. By program (mk.py). -/
namespace Go.Tame.V
open Go Go.Proofs
variable {W0 : World}
set_option maxRecDepth 10000
set_option linter.unusedVariables false
set_option linter.unusedSimpArgs false

def viewOk (v : Int) : Bool:=decide (0 ≤ v) && decide (v < 4)
theorem F91 (v : Int) : DFun Tryz.prog W0 74 [.int .i64 v] (.bool (viewOk v)):=by
 refine DFun.intro ti_ok Tryz.func74 rfl (by decide +kernel) Tryz.ntmps74 rfl fun Γ => ?_
 refine Tri.seq ?_
 refine Tri.region ti_ok ?_
 conv => whnf
 refine Tri.seq ?_
 refine Tri.region ti_ok ?_
 conv => whnf
 refine ⟨fun h => h,?_⟩
 conv => whnf
 refine ⟨fun h0 h => by first | exact h | (rw [h]; rfl) | (rw [h0,h]; rfl),?_⟩
 conv => whnf
 refine Tri.ret ?_
 conv => whnf
 exact DLe.of_eq (congrArg D.bool (bif_and _ _))
def hiddenAt (h v : Int) : Bool:=bitI .and .i64 (h.fdiv (2 ^ min v.toNat IntKind.i64.bits)) 1 == 1
def shown (v : Int) (n : NV) (l : Int) : Bool :=
 if !viewOk v || hiddenAt n.n6 v then false else if (v == 0 && n.kind == 0) && decide (8 < l) then false else (!(n.kind == 2) || v == 2) || v == 3
theorem F106 (v : Int) (n : NV) (l : Int) : DFun Tryz.prog W0 58 [.int .i64 v,encTop n,.int .i64 l] (.bool (shown v n l)):=by
 refine DFun.intro ti_ok Tryz.func58 rfl (by decide +kernel) Tryz.ntmps58 rfl fun Γ => ?_
 refine Tri.seq ?_
 refine Tri.region ti_ok ?_
 conv => whnf
 intro b
 conv => whnf
 refine Tri.seq ?_
 refine Tri.seq ?_
 refine Tri.region ti_ok ?_
 conv => whnf
 refine ⟨[.int .i64 v],_,fun _ => F91 v,⟨.refl _,trivial⟩,?_⟩
 conv => whnf
 refine ⟨fun h => h,?_⟩
 conv => whnf
 refine ⟨rfl,?_⟩
 conv => whnf
 refine ⟨fun h => h,?_⟩
 conv => whnf
 refine ⟨fun h => h,?_⟩
 conv => whnf
 refine ⟨fun h => by unfold viewOk at h; simp at h; omega,?_⟩
 conv => whnf
 refine ⟨fun h => h,?_⟩
 conv => whnf
 refine ⟨fun h => h,?_⟩
 conv => whnf
 refine ⟨fun h0 h => by first | exact h | (rw [h]; rfl) | (rw [h0,h]; rfl),?_⟩
 conv => whnf
 refine Tri.cond (!viewOk v || hiddenAt n.n6 v) (by simp only [← bif_or]; rfl) (fun hc => ?_) (fun hc => ?_)
 ·refine Tri.seq ?_
  refine Tri.region ti_ok ?_
  conv => whnf
  refine Tri.ret ?_
  conv => whnf
  exact DLe.of_eq (congrArg D.bool (by rw [shown,if_pos hc]))
 ·refine Tri.skip ?_
  have hc1:=hc
  conv => whnf
  refine Tri.seq ?_
  refine Tri.seq ?_
  refine Tri.region ti_ok ?_
  conv => whnf
  refine ⟨fun h => h,?_⟩
  conv => whnf
  refine ⟨rfl,?_⟩
  conv => whnf
  refine ⟨fun h => h,?_⟩
  conv => whnf
  refine ⟨fun h0 h => by first | exact h | (rw [h]; rfl) | (rw [h0,h]; rfl),?_⟩
  conv => whnf
  refine ⟨fun h => h,?_⟩
  conv => whnf
  refine ⟨fun h0 h => by first | exact h | (rw [h]; rfl) | (rw [h0,h]; rfl),?_⟩
  conv => whnf
  refine Tri.cond ((v == 0 && n.kind == 0) && decide (8 < l)) (by simp only [← bif_and]; rfl) (fun hc => ?_) (fun hc => ?_)
  ·refine Tri.seq ?_
   refine Tri.region ti_ok ?_
   conv => whnf
   refine Tri.ret ?_
   conv => whnf
   exact DLe.of_eq (congrArg D.bool (by rw [shown,if_neg (by rw [hc1]; simp),if_pos hc]))
  ·refine Tri.skip ?_
   conv => whnf
   refine Tri.seq ?_
   refine Tri.region ti_ok ?_
   conv => whnf
   refine ⟨rfl,?_⟩
   conv => whnf
   refine ⟨fun h => h,?_⟩
   conv => whnf
   refine ⟨fun h0 h => by first | exact h | (rw [h]; rfl) | (rw [h0,h]; rfl),?_⟩
   conv => whnf
   refine ⟨fun h => h,?_⟩
   conv => whnf
   refine ⟨fun h0 h => by first | exact h | (rw [h]; rfl) | (rw [h0,h]; rfl),?_⟩
   conv => whnf
   refine Tri.ret ?_
   conv => whnf
   refine DLe.of_eq (congrArg D.bool ?_)
   rw [shown,if_neg (by rw [hc1]; simp),if_neg (by rw [hc]; simp)]
   simp only [← bif_or]
   rfl
end Go.Tame.V
namespace Go.Tame.V
open Go Go.Proofs Go.RowKit
set_option maxRecDepth 100000
theorem cmp124 (bb b o n cap i j : Nat) (x y : ByteArray) (w : World) (hbox : w.cell? ⟨bb,0,none⟩ = some (.slice (some ⟨b,o,none⟩) n cap)) (hi : i < n) (hj : j < n)
  (hx : w.cell? ⟨b,o + i * 12,none⟩ = some (.string x)) (hy : w.cell? ⟨b,o + j * 12,none⟩ = some (.string y)) :
  Calls Tryz.prog 77 #[.int .i64 i,.int .i64 j,.pointer (some ⟨bb,0,none⟩)] w
   fun e w' => e = .returned (.int .i64 (Lib.compareBytes x.data.toList y.data.toList)) ∧ ∃ q os',w' = Sort.grow (w.drewN q) os':=by
 go_enter Tryz.func77,Tryz.ntmps77
 go_wp2_with (first
  | (go_at_call 78; refine (Tryz.strings_Compare _ _ _).mono ?_; rintro e w' ⟨rfl,rfl⟩)
  | go_in)
 go_quiet ((go_at_call 78; refine Calls.quiet_of_same (Tryz.strings_Compare _ _ _)))
 go_wp2
 go_ret
 exact ⟨rfl,_,#[],(Sort.grow_empty _).symm⟩
end Go.Tame.V
/- The sort of a row of small numbers by the names that they stand for. -/
namespace Go.Tame.V
open Go Go.Proofs Go.RowKit Go.Sort Go.Lib
variable {W0 : World}
set_option linter.unusedVariables false
set_option linter.unusedSimpArgs false

theorem sortWorld_other {α : Type} [Inhabited α] (enc : α → Value) (w : World) (blk off n : Nat) (d : Array α) (os : Array Obj) {b : Nat} (hb : b < w.heap.size) (hne : b ≠ blk) : (sortWorld enc w blk off n d os).heap[b]? = w.heap[b]?:=by
 simp only [sortWorld,Sort.grow,putRow,mapBlock,ahead]
 rw [Array.getElem?_append_left (by simpa using hb),Array.getElem?_modify,if_neg (Ne.symm hne)]
 rfl
theorem sortWorld_row {α : Type} [Inhabited α] (enc : α → Value) (w : World) (blk off n : Nat) (d : Array α) (os : Array Obj) {vs : Array Value} {e : TypeId} {fz : Nat × Nat} (hb : w.heap[blk]? = some (.cells vs e fz)) :
  (sortWorld enc w blk off n d os).heap[blk]? = some (.cells (putCells enc off d vs) e fz):=by
 have hlt:=lt_of_heap hb
 simp only [sortWorld,Sort.grow,putRow,mapBlock,ahead]
 rw [Array.getElem?_append_left (by simpa using hlt),Array.getElem?_modify,if_pos rfl]
 show Option.map _ w.heap[blk]? = _
 rw [hb]; rfl
theorem sortWorld_cell {α : Type} [Inhabited α] (enc : α → Value) (w : World) (blk off n : Nat) (d : Array α) (os : Array Obj) {b o : Nat} {u : Value} (hne : b ≠ blk) (h : w.cell? ⟨b,o,none⟩ = some u) : (sortWorld enc w blk off n d os).cell? ⟨b,o,none⟩ = some u:=by
 have hlt : b < w.heap.size:=by
  simp only [World.cell?] at h
  rcases Nat.lt_or_ge b w.heap.size with h1 | h1
  ·exact h1
  ·rw [Array.getElem?_eq_none h1] at h; cases h
 rw [← h]; simp only [World.cell?,sortWorld_other enc w blk off n d os hlt hne]
theorem sortWorld_size {α : Type} [Inhabited α] (enc : α → Value) (w : World) (blk off n : Nat) (d : Array α) (os : Array Obj) : w.heap.size ≤ (sortWorld enc w blk off n d os).heap.size:=by
 simp [sortWorld,Sort.grow,putRow,mapBlock,ahead]
theorem Step.sort {α : Type} [Inhabited α] (enc : α → Value) (w : World) (C : Nat → Nat) (blk off n : Nat) (d : Array α) (os : Array Obj) (hC : C blk = 0) : Step (fun x => x = blk) w C (sortWorld enc w blk off n d os) C :=
 ⟨⟨sortWorld_size ..,fun _ _ => Nat.le_refl _,fun b o hb ho => by
   have hne : b ≠ blk:=fun e => by subst e; omega
   simp only [World.cell?,sortWorld_other enc w blk off n d os hb hne]⟩,rfl,rfl,rfl,fun b hb hne => ⟨sortWorld_other enc w blk off n d os hb hne,rfl⟩⟩

theorem lt_names {α : Type} (nm : α → List UInt8) (x y : α) : ltOf (fun x y : α => Lib.compareBytes (nm x) (nm y)) x y = Op.bytesLess (nm x) (nm y):=by
 unfold ltOf
 show decide (Lib.compareBytes (nm x) (nm y) < 0) = _
 rcases cmp_range (nm x) (nm y) with h | h | h
 ·rw [h]
  cases hb : Op.bytesLess (nm x) (nm y) with
  | true => rfl
  | false =>
   cases hb2 : Op.bytesLess (nm y) (nm x) with
   | true => rw [(cmp_one (nm x) (nm y)).2 hb2] at h; cases h
   | false => have:=bl_total _ _ hb hb2; rw [(cmp_zero (nm x) (nm y)).2 this] at h; cases h
 ·rw [h]; have:=(cmp_zero (nm x) (nm y)).1 h; rw [this,bl_irrefl]; rfl
 ·rw [h]; rw [bl_asymm ((cmp_one (nm x) (nm y)).1 h)]; rfl
theorem swo_names {α : Type} (nm : α → List UInt8) : SWO (ltOf fun x y : α => Lib.compareBytes (nm x) (nm y)):=by
 have key:=lt_names nm
 refine ⟨fun x => by rw [key,bl_irrefl],fun x y z h1 h2 => ?_,fun x y z h1 h2 => ?_⟩
 ·rw [key] at *; exact bl_trans _ _ _ h1 h2
 ·rw [key] at *
  cases hb : Op.bytesLess (nm x) (nm z) with
  | false => rfl
  | true =>
   cases h3 : Op.bytesLess (nm z) (nm y) with
   | true => rw [bl_trans _ _ _ hb h3] at h1; cases h1
   | false => have:=bl_total _ _ h2 h3; rw [this] at h1; rw [hb] at h1; cases h1


def encI (i : Nat) : D:=.int .i64 (i : Nat)
def encIV (n : Nat) (x : Fin n) : Value:=.int .i64 ((x.1 : Nat) : Int)

theorem look2 {a b : Nat} {o1 o2 o : HObj} {s : Nat} (h : look [(a,o1),(b,o2)] s = some o) : (s = a ∧ o = o1) ∨ (s = b ∧ o = o2):=by
 simp only [look] at h
 cases h1 : Nat.beq s a with
 | true => rw [h1] at h; cases h; exact .inl ⟨beq_true h1,rfl⟩
 | false =>
  rw [h1] at h
  cases h2 : Nat.beq s b with
  | true => rw [h2] at h; cases h; exact .inr ⟨beq_true h2,rfl⟩
  | false => rw [h2] at h; cases h

/-- The sort of no place. -/
theorem F123_nil (v : Value) (fd : D) (o : HObj) : DCall Tryz.prog W0 76 [.raw v,fd] (look [(2001,.row v [] 1 3),(2000,o)]) fun d H' => d = .tup [] ∧ H' = look [(2001,.row v [] 1 3),(2000,o)]:=by
 refine ⟨callable Tryz.func76 rfl (by decide +kernel),fun w C args Ft hbase hlow hH hr => ?_⟩
 obtain ⟨hl,hr⟩:=hr
 match args,hl with
 | [a0,a1],_ =>
  have h0:=(hr 0 _ a0 rfl rfl).raw_inv
  subst h0
  obtain ⟨a,cap,hv,_⟩ : RowV w C a0 [] 1 3:=hH.obj 2001 _ rfl
  subst hv
  refine (AnyF.slices_SortFunc_none Tryz.laysSlF0_f76 a cap a1 w).mono ?_
  rintro e w' ⟨rfl,rfl⟩
  exact ⟨.tuple #[],.tup [],C,_,rfl,⟨rfl,rfl⟩,.tup [] [] rfl (fun i d v hd _ => by simp at hd),.refl _ _ _,⟨hH.obj,hH.inj,fun s o b ho hu => .inl (hH.foot s o b ho hu)⟩⟩

/-- **The sort of a row of places by the names of the children there.** -/
theorem F123 (kids : List NV) (hn : 0 < kids.length) (hlen : kids.length < 1000000) (bb : Nat) (v : Value) (ds : List (Fin kids.length)) (hd0 : 0 < ds.length) (hd : ds.length < 1000000) :
  DCall Tryz.prog W0 76 [.raw v,.fn (.func 77) [] [.box 2000 bb 0]] (look [(2001,.row v (ds.map fun x => encI x.1) 1 3),(2000,.box bb [.sl .none 12 (kids.map enc)])]) fun d H' =>
   d = .tup [] ∧ ∃ ds' : List (Fin kids.length),ds'.Perm ds ∧ (∀ (i j : Nat) (hi : i < ds'.length) (hj : j < ds'.length),i < j → Op.bytesLess (kids[ds'[j].1]).name (kids[ds'[i].1]).name = false) ∧
    H' = look [(2001,.row v (ds'.map fun x => encI x.1) 1 3),(2000,.box bb [.sl .none 12 (kids.map enc)])]:=by
 refine ⟨callable Tryz.func76 rfl (by decide +kernel),fun w C args Ft hbase hlow hH hr => ?_⟩
 obtain ⟨hl,hr⟩:=hr
 match args,hl with
 | [a0,a1],_ =>
  have h0:=(hr 0 _ a0 rfl rfl).raw_inv
  obtain ⟨vf,vc,h1,h2,h3⟩:=(hr 1 _ a1 rfl rfl).fn_inv
  subst h0
  have hvf : vf = []:=List.eq_nil_of_length_eq_zero h2.1.symm
  subst hvf
  have hvc : vc = [.pointer (some ⟨bb,0,none⟩)]:=by
   obtain ⟨hl3,h3⟩:=h3
   match vc,hl3 with
   | [u],_ => rw [(h3 0 _ u rfl rfl).box_inv]
  subst hvc
  subst h1
  have hrow : RowV w C a0 (ds.map fun x => encI x.1) 1 3:=hH.obj 2001 _ rfl
  obtain ⟨uv,ue,hbb,hbr,hbC⟩ : ORel w C (.box bb [.sl .none 12 (kids.map enc)]):=hH.obj 2000 _ rfl
  obtain ⟨u,rfl⟩ : ∃ u,uv = [u]:=by
   match uv,hbr.1 with
   | [u],_ => exact ⟨u,rfl⟩
  have hu:=hbr.2 0 _ u rfl rfl
  obtain ⟨b,cap,vs,hv,hc,hm,hk,hb,hvs,hC,hcells⟩:=RowV.pos hrow (i:=0) (by simpa using hd0)
  have hcap : 0 < cap:=by simp at hc; omega
  have hone : ∀ x ∈ ds.map (fun x => encI x.1),x.cells = [x]:=fun x hx => by obtain ⟨y,_,rfl⟩:=List.mem_map.1 hx; rfl
  rw [flat_one hone] at hcells
  have hkl : 0 < (kids.map enc).length:=by simpa using hn
  rcases hu.sl_inv with ⟨he,_⟩ | ⟨kb,o,kcap,g,rfl,_,hkb,_,_,hkk,hkC,hkcell,_,hkrep⟩
  ·rw [he] at hkl; cases hkl
  have hkne : kb ≠ b:=fun e => by rw [e] at hkC; omega
  have hbne : bb ≠ b:=fun e => by
   subst e
   exact hH.inj 2000 2001 _ _ bb (by decide) rfl rfl rfl ⟨_,cap,hv,hcap⟩
  have hml : (kids.map enc).length = kids.length:=by simp
  have hboxc : w.cell? ⟨bb,0,none⟩ = some (.slice (some ⟨kb,o,none⟩) kids.length kcap):=by
   have : w.cell? ⟨bb,0,none⟩ = some (.slice (some ⟨kb,o,none⟩) (kids.map enc).length kcap):=by simp only [World.cell?,hbb]; rfl
   rwa [hml] at this
  have hkid : ∀ i : Fin kids.length,w.cell? ⟨kb,o + i.1 * 12,none⟩ = some (.string ⟨⟨(kids[i.1]).name⟩⟩):=fun i => by
   have hf : (flat (kids.map enc))[i.1 * 12 + 0]? = some (.str (kids[i.1]).name):=by rw [flat_get hkk (get_kids i.2) (by omega)]; rfl
   have h4:=hkcell _ _ hf
   rw [(hkrep _ _ hf).str_inv] at h4
   simpa using h4
  haveI : Inhabited (Fin kids.length):=⟨⟨0,hn⟩⟩
  have hget : ∀ (l : List (Fin kids.length)) (j : Nat) (hj : j < l.length),l.toArray[j]! = l[j]:=fun l j hj => by simp [hj]
  have heg : ∀ args w,(callFunc 77 args).run Tryz.prog w = .ok (.enter 77 args) w:=fun args w => by
   obtain ⟨fn,hfn,hbody,hname⟩:=callable Tryz.func77 rfl (by decide +kernel)
   have hbn : fn.body.isNone = false:=by cases hb : fn.body <;> simp [hb] at hbody ⊢
   simp only [callFunc,Sem.run_bind,run_program,Result.andThen_ok,hfn,hname,hbn,Bool.false_eq_true,if_false,Sem.run_pure]
  have hsort:=Tryz.slices_SortFunc (encIV kids.length) (fun _ => rfl) (fun x y => Lib.compareBytes (kids[x.1]).name (kids[y.1]).name) (swo_names fun x : Fin kids.length => (kids[x.1]).name) 77 #[.pointer (some ⟨bb,0,none⟩)] b 0 cap ds.toArray w
   heg (fun m os dk hdk x y => (cmp124 bb kb o kids.length kcap x.1 y.1 ⟨⟨(kids[x.1]).name⟩⟩ ⟨⟨(kids[y.1]).name⟩⟩ _ (sortWorld_cell _ _ _ _ _ _ _ hbne hboxc) x.2 y.2
    (sortWorld_cell _ _ _ _ _ _ _ hkne (hkid x)) (sortWorld_cell _ _ _ _ _ _ _ hkne (hkid y))))
   (fun j hj => by
    have hj' : j < ds.length:=by simpa using hj
    obtain ⟨z,h5,h6,_⟩:=hcells j (encI ds[j].1) (by simp [hj'])
    refine ⟨?_,by simp [World.frozen?,hb]⟩
    rw [hget ds j hj']
    simp only [World.cell?,hb,Nat.zero_add]
    simp [h5,h6.int_inv,encIV]) (lt_of_heap hb) (by simp; omega)
  subst hv
  have hsz : (ds.map fun x => encI x.1).length = ds.toArray.size:=by simp
  have huse : ∀ (xs : List D),HObj.uses (.row (.slice (some ⟨b,0,none⟩) (ds.map fun x => encI x.1).length cap) xs 1 3) b:=fun xs => ⟨_,cap,rfl,hcap⟩
  have hFb:=hH.foot 2001 _ b rfl (huse _)
  have hFbb:=hH.foot 2000 _ bb rfl rfl
  rw [hsz] at huse ⊢
  refine hsort.mono ?_
  rintro e w' ⟨rfl,d',m,os,hp,hs,rfl⟩
  obtain ⟨hp1,_,hp3⟩:=hp
  have hdl : d'.toList.length = ds.length:=by simpa using hp1
  have hst:=Step.sort (encIV kids.length) w C b 0 m d' os hC
  refine ⟨.tuple #[],.tup [],C,_,rfl,⟨rfl,d'.toList,?_,?_,rfl⟩,.tup [] [] rfl (fun i d v hd _ => by simp at hd),?_,⟨fun s o ho => ?_,fun s s' o o' x hne h1 h2 hu hu' => ?_,fun s o x ho hu => ?_⟩⟩
  ·have e1 : (d'.extract 0 ds.toArray.size).toList = d'.toList:=by rw [← hp1]; simp
   have e2 : (ds.toArray.extract 0 ds.toArray.size).toList = ds:=by simp
   rw [e1,e2] at hp3; exact hp3
  ·intro i j hi hj hij
   have h7:=hs i j (Nat.zero_le _) hij (by rw [← hp1]; simpa using hj)
   rw [lt_names fun x : Fin kids.length => (kids[x.1]).name] at h7
   have g1 : d'[j]! = d'.toList[j]:=by rw [getElem!_pos d' j (by simpa using hj)]; simp
   have g2 : d'[i]! = d'.toList[i]:=by rw [getElem!_pos d' i (by simpa using hi)]; simp
   rw [g1,g2] at h7; exact h7
  ·exact ⟨hst.ext,hst.os,hst.tape,hst.output,fun x hx hF => hst.keep x hx fun e => by subst e; exact hF hFb⟩
  ·rcases look2 ho with ⟨rfl,rfl⟩ | ⟨rfl,rfl⟩
   ·have hone' : ∀ x ∈ d'.toList.map (fun x => encI x.1),x.cells = [x]:=fun x hx => by obtain ⟨y,_,rfl⟩:=List.mem_map.1 hx; rfl
    refine ⟨some ⟨b,0,none⟩,cap,by simp [hp1],by simp only [List.length_map] at hc ⊢; omega,hm,fun x hx => by rw [hone' x hx]; rfl,fun ad had => ⟨b,by cases had; rfl,Nat.lt_of_lt_of_le (lt_of_heap hb) hst.ext.size⟩,
     fun _ => ⟨b,_,rfl,sortWorld_row _ _ _ _ _ _ _ hb,by simp only [putCells,Array.size_mapIdx]; exact hvs,hC,fun j d hd => ?_⟩⟩
    rw [flat_one hone'] at hd
    have hj : j < d'.size:=by have:=lt_of_get hd; simpa using this
    have hjv : j < vs.size:=by have:=hp1; simp at this hvs hc; omega
    have hde : d = encI d'[j].1:=by simp [hj] at hd; exact hd.symm
    subst hde
    refine ⟨encIV kids.length d'[j],?_,.int _ _,rfl⟩
    simp only [putCells,Array.getElem?_mapIdx,Array.getElem?_eq_getElem hjv,Option.map_some,Nat.zero_le,true_and,Nat.zero_add,hj,if_true,Nat.sub_zero]
    rw [getElem!_pos d' j hj]
   ·exact (hH.obj 2000 _ rfl).keep hst.ext fun x hx => hst.keep x (by cases hx; exact lt_of_heap hbb) (by cases hx; exact hbne)
  ·rcases look2 h1 with ⟨rfl,rfl⟩ | ⟨rfl,rfl⟩ <;> rcases look2 h2 with ⟨rfl,rfl⟩ | ⟨rfl,rfl⟩
   ·exact hne rfl
   ·obtain ⟨n',c',h8,_⟩:=hu
    have:=slice_uses h8; subst this
    exact hbne hu'.symm
   ·obtain ⟨n',c',h8,_⟩:=hu'
    have:=slice_uses h8; subst this
    exact hbne hu.symm
   ·exact hne rfl
  ·rcases look2 ho with ⟨rfl,rfl⟩ | ⟨rfl,rfl⟩
   ·obtain ⟨n',c',h8,_⟩:=hu
    have:=slice_uses h8; subst this
    exact .inl hFb
   ·cases hu; exact .inl hFbb

end Go.Tame.V
/- Contracts: naming,Clone. By program (mk.py). -/
namespace Go.Tame.V
open Go Go.Proofs
variable {W0 : World}
set_option maxRecDepth 10000
set_option linter.unusedVariables false
set_option linter.unusedSimpArgs false

end Go.Tame.V
/- The sort of a row of nodes by their names. -/
namespace Go.Tame.V
open Go Go.Proofs Go.RowKit Go.Sort Go.Lib
variable {W0 : World}
set_option linter.unusedVariables false
set_option linter.unusedSimpArgs false

end Go.Tame.V
/- What is sorted already,sorted: the same. Plain. -/
namespace Go.Tame.V
open Go Go.Proofs
set_option linter.unusedVariables false

theorem inc_get {l : List NV} (h : inc l) {i j : Nat} (hij : i < j) (hj : j < l.length) : Op.bytesLess (l[i]'(by omega)).name (l[j]).name = true:=by
 have:=inc_lt' h hij hj
 simpa [List.getD,hj,show i < l.length by omega] using this
theorem inc_pairwise {l : List NV} (h : inc l) : l.Pairwise fun a b => Op.bytesLess b.name a.name = false :=
 List.pairwise_iff_getElem.2 fun i j hi hj hij => bl_asymm (inc_get h hij hj)

/-- A rising list of nodes,permuted and sorted,is itself. -/
theorem sorted_nodes {l l' : List NV} (h : inc l) (hp : l'.Perm l) (hs : ∀ (i j : Nat) (hi : i < l'.length) (hj : j < l'.length),i < j → Op.bytesLess (l'[j]).name (l'[i]).name = false) : l' = l:=by
 refine List.Perm.eq_of_pairwise (le:=fun a b => Op.bytesLess b.name a.name = false) (fun a b ha hb h1 h2 => ?_) (List.pairwise_iff_getElem.2 fun i j hi hj hij => hs i j hi hj hij) (inc_pairwise h) hp
 have hname:=bl_total _ _ h2 h1
 obtain ⟨i,hi,rfl⟩:=List.mem_iff_getElem.1 (hp.subset ha)
 obtain ⟨j,hj,rfl⟩:=List.mem_iff_getElem.1 hb
 rcases Nat.lt_trichotomy i j with e | e | e
 ·exact absurd hname (bl_ne (inc_get h e hj))
 ·subst e; rfl
 ·exact absurd hname.symm (bl_ne (inc_get h e hi))

/-- The places of a rising list,sorted by the names there: in their order. -/
theorem sorted_places {kids : List NV} (h : inc kids) {l : List (Fin kids.length)} (hp : l.Perm (List.finRange kids.length))
  (hs : ∀ (i j : Nat) (hi : i < l.length) (hj : j < l.length),i < j → Op.bytesLess (kids[l[j].1]).name (kids[l[i].1]).name = false) : l = List.finRange kids.length:=by
 refine List.Perm.eq_of_pairwise (le:=fun a b => Op.bytesLess (kids[b.1]).name (kids[a.1]).name = false) (fun a b ha hb h1 h2 => ?_) (List.pairwise_iff_getElem.2 fun i j hi hj hij => hs i j hi hj hij)
  ((List.pairwise_lt_finRange _).imp fun {a b} hab => bl_asymm (inc_get h hab b.2)) hp
 have hname:=bl_total _ _ h2 h1
 rcases Nat.lt_trichotomy a.1 b.1 with e | e | e
 ·exact absurd hname (bl_ne (inc_get h e b.2))
 ·exact Fin.ext e
 ·exact absurd hname.symm (bl_ne (inc_get h e a.2))
end Go.Tame.V
/- The sort of the places of a rising list; a row that stands from here on. -/
namespace Go.Tame
open Go Go.RowKit
variable {P : Program} {W0 : World} {nt : Nat} {Γ : Ctx P W0 nt} {K : DExit → DSt → Prop}

/-- The row in slot j (kept under key s) stands from here on. -/
theorem Tri.commitSt (s j : Nat) {v : Value} {xs : List D} {k e : Nat} {r : List (Nat × D)} {hs : List (Nat × HObj)} {c : Code} (hsn : look hs s = none)
  (h : Tri Γ c (St ((j,.sl .none k xs)::r) hs) K) : Tri Γ c (St ((j,.raw v)::r) ((s,.row v xs k e)::hs)) K:=by
 have hnb : Nat.beq s s = true:=Nat.beq_refl s
 refine Tri.commit s (v:=v) (xs:=xs) (k:=k) (e:=e) (by simp only [St,look,hnb,cond_true]) (St ((j,.sl .none k xs)::r) hs) (fun w C hr i u hi => ?_) (fun i o ho => ?_) h
 ·simp only [St,look] at hi ⊢
  cases hb : Nat.beq i j with
  | true =>
   rw [hb] at hi
   simp only [cond_true,Option.getD_some] at hi ⊢
   rw [hi.raw_inv]; exact hr.untag
  | false => rw [hb] at hi; exact hi
 ·refine .inr ⟨fun e => (by subst e; simp only [St] at ho; rw [hsn] at ho; cases ho),?_⟩
  simp only [St,look] at ho ⊢
  cases hb : Nat.beq i s with
  | true => have:=beq_true hb; subst this; rw [hsn] at ho; cases ho
  | false => simpa using ho
end Go.Tame
namespace Go.Tame.V
open Go Go.Proofs
variable {W0 : World}
set_option linter.unusedVariables false

def places (n : Nat) : List D:=(List.range n).map fun i => .int .i64 (i : Nat)
theorem places_fin (n : Nat) : (List.finRange n).map (fun x => encI x.1) = places n:=by
 apply List.ext_getElem?
 intro j
 by_cases hj : j < n
 ·simp [places,encI,hj]
 ·rw [List.getElem?_eq_none (by simp; omega),List.getElem?_eq_none (by simp [places]; omega)]

theorem sort_places (kids : List NV) (h : inc kids) (hlen : kids.length < 1000000) (bb : Nat) (v : Value) :
  DCall Tryz.prog W0 76 [.raw v,.fn (.func 77) [] [.box 2000 bb 0]] (look [(2001,.row v (places kids.length) 1 3),(2000,.box bb [.sl .none 12 (kids.map enc)])]) fun d H' =>
   d = .tup [] ∧ H' = look [(2001,.row v (places kids.length) 1 3),(2000,.box bb [.sl .none 12 (kids.map enc)])]:=by
 by_cases h0 : 0 < kids.length
 ·have hc:=F123 (W0:=W0) kids h0 hlen bb v (List.finRange kids.length) (by simpa using h0) (by simpa using hlen)
  rw [places_fin] at hc
  refine hc.mono ?_
  rintro d H' ⟨rfl,ds',hp,hs,rfl⟩
  rw [sorted_places h hp hs,places_fin]
  exact ⟨rfl,rfl⟩
 ·have hn : kids.length = 0:=by omega
  rw [hn]
  exact F123_nil v _ _
end Go.Tame.V
/- Contracts: Names at the views that keep names. By program (mk.py). -/
namespace Go.Tame.V
open Go Go.Proofs
variable {W0 : World}
set_option maxRecDepth 10000
set_option linter.unusedVariables false
set_option linter.unusedSimpArgs false

theorem places_set {n i : Nat} (h : i < n) (z : D) : (places i ++ List.replicate (n - i) z).set i (.int .i64 (i : Nat)) = places (i + 1) ++ List.replicate (n - (i + 1)) z:=by
 apply List.ext_getElem?
 intro j
 have hpl : ∀ m,(places m).length = m:=fun m => by simp [places]
 rw [List.getElem?_set]
 rcases Nat.lt_trichotomy i j with e | e | e
 ·rw [if_neg (by omega),List.getElem?_append_right (by rw [hpl]; omega),List.getElem?_append_right (by rw [hpl]; omega),hpl,hpl]
  simp only [List.getElem?_replicate]
  split <;> split <;> first | rfl | omega
 ·subst e
  rw [if_pos rfl,if_pos (by simp [hpl]; omega),List.getElem?_append_left (by rw [hpl]; omega)]
  simp [places]
 ·rw [if_neg (by omega),List.getElem?_append_left (by rw [hpl]; omega),List.getElem?_append_left (by rw [hpl]; omega)]
  simp [places,show j < i by omega,show j < i + 1 by omega]

theorem strs_set {kids : List NV} {t : Nat} (h : t < kids.length) (z : D) : (strs ((kids.map NV.name).take t) ++ List.replicate (kids.length - t) z).set t (.str kids[t].name) = strs ((kids.map NV.name).take (t + 1)) ++ List.replicate (kids.length - (t + 1)) z:=by
 have hpl : ∀ m,m ≤ kids.length → (strs ((kids.map NV.name).take m)).length = m:=fun m hm => by simp [strs]; omega
 apply List.ext_getElem?
 intro j
 rw [List.getElem?_set]
 rcases Nat.lt_trichotomy t j with e | e | e
 ·rw [if_neg (by omega),List.getElem?_append_right (by rw [hpl _ (by omega)]; omega),List.getElem?_append_right (by rw [hpl _ (by omega)]; omega),hpl _ (by omega),hpl _ (by omega)]
  simp only [List.getElem?_replicate]
  split <;> split <;> first | rfl | omega
 ·subst e
  rw [if_pos rfl,if_pos (by simp [strs]; omega),List.getElem?_append_left (by rw [hpl _ (by omega)]; omega)]
  simp [strs,h,List.getElem?_take]
 ·rw [if_neg (by omega),List.getElem?_append_left (by rw [hpl _ (by omega)]; omega),List.getElem?_append_left (by rw [hpl _ (by omega)]; omega)]
  simp [strs,List.getElem?_take,show j < t by omega,show j < t + 1 by omega]

theorem F105 (hL : LibOk W0) (v : Int) (hv : v = 2 ∨ v = 3) (kids : List NV) (h64 : kids.length ≤ 64) (hok : ∀ k ∈ kids,nameOk k.name = true ∧ k.name.length < 1000000000) (hinc : inc kids) : DFun Tryz.prog W0 29 [.int .i64 v,.sl .none 12 (kids.map enc)] (.tup [.sl .none 1 (strs (kids.map NV.name)),.int .i64 0]):=by
 refine DFun.intro ti_ok Tryz.func29 rfl (by decide +kernel) Tryz.ntmps29 rfl fun Γ => ?_
 refine Tri.seq ?_
 refine Tri.region ti_ok ?_
 conv => whnf
 intro bk
 conv => whnf
 refine Tri.seq ?_
 refine Tri.seq ?_
 refine Tri.region ti_ok ?_
 conv => whnf
 refine ⟨[.int .i64 v],_,fun _ => F91 v,⟨.refl _,trivial⟩,?_⟩
 conv => whnf
 refine Tri.cond _ rfl (fun hc => ?_) (fun hc => ?_)
 ·refine Tri.seq ?_
  refine Tri.region ti_ok ?_
  conv => whnf
  refine Tri.ret ?_
  conv => whnf
  exfalso
  have : viewOk v = true:=by rcases hv with rfl | rfl <;> rfl
  rw [this] at hc; cases hc
 ·refine Tri.skip ?_
  conv => whnf
  refine Tri.seq ?_
  refine Tri.seq ?_
  refine Tri.region ti_ok ?_
  conv => whnf
  refine ⟨rfl,?_⟩
  conv => whnf
  refine Tri.cond _ rfl (fun hc => ?_) (fun hc => ?_)
  ·refine Tri.seq ?_
   refine Tri.region ti_ok ?_
   conv => whnf
   refine Tri.ret ?_
   conv => whnf
   exfalso
   simp at hc; omega
  ·refine Tri.skip ?_
   conv => whnf
   refine Tri.seq ?_
   refine Tri.regionX ti_ok ?_
   conv => whnf
   refine .inl ?_
   conv => whnf
   refine ⟨rfl,?_⟩
   conv => whnf
   refine .inr (XOp.makeRow ti_ok (n:=kids.length) (k1:=.i64) (k2:=.i64) (z:=.int .i64 0) rfl rfl rfl rfl rfl ?_ ?_ (by show 8 * _ ≤ _; omega) (by omega) fun rv => ?_)
   ·show D.int _ _ = _; simp
   ·show D.int _ _ = _; simp
   conv => whnf
   refine Tri.seq ?_
   refine Tri.seq ?_
   refine Tri.region ti_ok ?_
   conv => whnf
   refine ⟨rfl,?_⟩
   conv => whnf
   refine Tri.block ?_
   refine Tri.loopK (α:={ i : Nat // i ≤ kids.length }) (fun x => [(0,.int .i64 v),(3,.box 3 bk 0),(6,.raw rv),(25,.sl .none 12 (kids.map enc)),(26,.int .i64 (kids.map enc).length),(27,.int .i64 x.1)])
    (fun x => [(24,.row rv (places x.1 ++ List.replicate (kids.length - x.1) (.int .i64 0)) 1 3),(3,.box bk [.sl .none 12 (kids.map enc)])]) (fun x => kids.length - x.1) ⟨0,by omega⟩ [(24,24),(3,3)]
    ⟨⟨.refl _,.refl _,.refl _,.refl _,.refl _,.refl _,trivial⟩,rfl,rfl,rfl,rfl,rfl,trivial⟩ ?_
   rintro ⟨i,hi⟩
   dsimp only
   refine Tri.seq ?_
   refine Tri.region ti_ok ?_
   conv => whnf
   refine Tri.seq ?_
   refine Tri.cond _ rfl (fun hc => ?_) (fun hc => ?_)
   ·refine Tri.skip ?_
    conv => whnf
    have hia : i < kids.length:=by simpa using hc
    have hpl : (places i).length = i:=by simp [places]
    refine Tri.seq ?_
    refine Tri.block ?_
    refine Tri.seq ?_
    refine Tri.region ti_ok ?_
    conv => whnf
    refine ⟨fun _ => by simp; omega,?_⟩
    conv => whnf
    refine ⟨encTop kids[i],fun _ => get_kids hia,?_⟩
    conv => whnf
    intro b8
    conv => whnf
    refine ⟨rfl,?_⟩
    conv => whnf
    refine Tri.seq ?_
    refine Tri.seq ?_
    refine Tri.region ti_ok ?_
    conv => whnf
    refine ⟨rfl,?_⟩
    conv => whnf
    refine ⟨[.str kids[i].name],_,fun _ => F100 hL _ (hok _ (List.getElem_mem hia)).2,⟨.refl _,trivial⟩,?_⟩
    conv => whnf
    refine Tri.cond _ rfl (fun hc => ?_) (fun hc => ?_)
    ·refine Tri.seq ?_
     refine Tri.region ti_ok ?_
     conv => whnf
     refine Tri.ret ?_
     conv => whnf
     exfalso
     rw [(hok _ (List.getElem_mem hia)).1] at hc; cases hc
    ·refine Tri.skip ?_
     conv => whnf
     refine Tri.regionX ti_ok ?_
     conv => whnf
     refine .inr (XOp.rowIndex ti_ok 24 rfl rfl rfl rfl rfl rfl rfl (by omega) (by simp [hpl]; omega) ?_)
     conv => whnf
     conv => whnf
     refine .inr (XOp.rowStore ti_ok 24 (i:=i) (by rw [Int.toNat_natCast]; rfl) rfl rfl rfl (by simp [hpl]; omega) rfl ?_)
     conv => whnf
     conv => whnf
     refine Tri.region ti_ok ?_
     conv => whnf
     refine .inl ⟨fun _ => by simp [InR]; omega,?_⟩
     conv => whnf
     exact ⟨⟨i + 1,by omega⟩,[(24,24),(3,3)],by show _ - (i + 1) < _ - i; omega,⟨.refl _,.refl _,.refl _,.refl _,.refl _,.refl _,trivial⟩,rfl,rfl,congrArg (fun z => some (HObj.row rv z 1 3)) (places_set hia _),rfl,rfl,trivial⟩
   ·refine Tri.exit ?_
    conv => whnf
    refine Tri.seq ?_
    have hin : i = kids.length:=by simp at hc; omega
    have hrow : places i ++ List.replicate (kids.length - i) (D.int .i64 0) = places kids.length:=by subst hin; simp
    rw [hrow]
    refine Tri.regionX ti_ok ?_
    conv => whnf
    refine .inr (XOp.call rfl [.raw rv,.fn (.func 77) [] [.box 2000 bk 0]] [(2001,24),(2000,3)] (sort_places kids hinc (by omega) bk rv) rfl ⟨.refl _,DLe.fn trivial ⟨DLe.box,trivial⟩,trivial⟩ ?_)
    rintro d H' ⟨rfl,rfl⟩
    refine ⟨_,.refl _,?_⟩
    conv => whnf
    refine Tri.forgetK [(6,.raw rv),(0,.int .i64 v),(3,.box 3 bk 0)] [(24,.row rv (places kids.length) 1 3),(3,.box bk [.sl .none 12 (kids.map enc)])] [(24,24),(3,3)] ⟨⟨.refl _,.refl _,.refl _,trivial⟩,rfl,rfl,rfl,rfl,rfl,trivial⟩ ?_
    refine Tri.commitSt 24 6 rfl ?_
    refine Tri.seq ?_
    refine Tri.regionX ti_ok ?_
    conv => whnf
    refine .inl ?_
    conv => whnf
    refine ⟨rfl,?_⟩
    conv => whnf
    refine .inr (XOp.makeRow ti_ok (n:=kids.length) (k1:=.i64) (k2:=.i64) (z:=.str []) rfl rfl rfl rfl rfl ?_ ?_ (by show 16 * _ ≤ _; omega) (by omega) fun nv => ?_)
    ·show D.int _ _ = _; simp
    ·show D.int _ _ = _; simp
    conv => whnf
    refine .inr (XOp.makeMap fun mb => ?_)
    conv => whnf
    refine Tri.seq ?_
    refine Tri.seq ?_
    refine Tri.region ti_ok ?_
    conv => whnf
    refine Tri.block ?_
    refine Tri.loopK (α:={ i : Nat // i ≤ kids.length }) (fun x => [(0,.int .i64 v),(3,.box 3 bk 0),(6,.sl .none 1 (places kids.length)),(48,.sl .none 1 (places kids.length)),(49,.int .i64 (places kids.length).length),(50,.int .i64 x.1),(9,.raw nv),(10,.raw (.map (some mb)))])
     (fun x => [(46,.row nv (strs ((kids.map NV.name).take x.1) ++ List.replicate (kids.length - x.1) (.str [])) 1 9),(47,.set mb (((kids.map NV.name).take x.1).reverse)),(3,.box bk [.sl .none 12 (kids.map enc)])]) (fun x => kids.length - x.1) ⟨0,by omega⟩ [(46,46),(47,47),(3,3)]
     ⟨⟨.refl _,.refl _,.refl _,.refl _,.refl _,.refl _,.refl _,.refl _,trivial⟩,rfl,rfl,rfl,rfl,rfl,rfl,rfl,trivial⟩ ?_
    rintro ⟨t,ht⟩
    dsimp only
    refine Tri.seq ?_
    refine Tri.region ti_ok ?_
    conv => whnf
    refine Tri.seq ?_
    refine Tri.cond _ rfl (fun hc => ?_) (fun hc => ?_)
    ·refine Tri.skip ?_
     conv => whnf
     have hta : t < kids.length:=by simp [places] at hc; omega
     have hkd : ∀ j,j < kids.length → (kids.map enc)[j]? = some (encTop (kids.getD j default)):=fun j hj => by rw [get_kids hj]; simp [List.getD,hj]
     refine Tri.seq ?_
     refine Tri.block ?_
     refine Tri.seq ?_
     refine Tri.region ti_ok ?_
     conv => whnf
     refine ⟨fun _ => by simp [places]; omega,?_⟩
     conv => whnf
     refine ⟨.int .i64 (t : Nat),fun _ => by simp [places,hta],?_⟩
     conv => whnf
     refine Tri.seq ?_
     refine Tri.seq ?_
     refine Tri.draw ti_ok mixed (by kernel_rfl) ?_
     conv => whnf
     refine ⟨rfl,?_⟩
     conv => whnf
     refine ⟨fun h => h,?_⟩
     conv => whnf
     refine .inl ⟨fun h => by simp only [InR]; omega,?_⟩
     conv => whnf
     refine ⟨fun h => h,?_⟩
     conv => whnf
     refine ⟨fun h => h,?_⟩
     conv => whnf
     refine ⟨fun h => by simp at h; simp [places]; omega,?_⟩
     conv => whnf
     refine ⟨fun h => h,?_⟩
     conv => whnf
     refine ⟨.int .i64 ((t - 1 : Nat) : Int),fun h => by rw [pred_toNat (by simpa using h)]; simp [places,show t - 1 < kids.length by omega],?_⟩
     conv => whnf
     refine ⟨fun h => h,?_⟩
     conv => whnf
     refine ⟨fun h => h,?_⟩
     conv => whnf
     refine ⟨fun h => by simp; omega,?_⟩
     conv => whnf
     refine ⟨fun h => h,?_⟩
     conv => whnf
     refine ⟨fun h => h,?_⟩
     conv => whnf
     refine ⟨encTop (kids.getD (t - 1) default),fun h => hkd (t - 1) (by omega),?_⟩
     conv => whnf
     refine ⟨rfl,?_⟩
     conv => whnf
     refine ⟨fun h => h,?_⟩
     conv => whnf
     refine ⟨fun h => h,?_⟩
     conv => whnf
     refine ⟨fun h => by simp; omega,?_⟩
     conv => whnf
     refine ⟨fun h => h,?_⟩
     conv => whnf
     refine ⟨fun h => h,?_⟩
     conv => whnf
     refine ⟨encTop kids[t],fun h => get_kids hta,?_⟩
     conv => whnf
     refine ⟨fun h => h,?_⟩
     conv => whnf
     refine ⟨fun h => h,?_⟩
     conv => whnf
     refine ⟨fun h0 h => by first | exact h | (rw [h]; rfl) | (rw [h0,h]; rfl),?_⟩
     conv => whnf
     refine Tri.cond _ rfl (fun hc => ?_) (fun hc => ?_)
     ·refine Tri.seq ?_
      refine Tri.region ti_ok ?_
      conv => whnf
      refine Tri.ret ?_
      conv => whnf
      exfalso
      cases h0 : decide ((0 : Int) < t) with
      | false => rw [h0] at hc; cases hc
      | true =>
       have ht0 : 0 < t:=by simpa using h0
       have hne:=bl_ne (inc_get hinc (show t - 1 < t by omega) hta)
       rw [h0] at hc
       have hc2 : ((kids.getD (t - 1) default).name == kids[t].name) = true:=hc
       have : (kids.getD (t - 1) default).name = kids[t].name:=by simpa using hc2
       apply hne
       rw [← this]; simp [List.getD,show t - 1 < kids.length by omega]
     ·refine Tri.skip ?_
      conv => whnf
      refine Tri.seq ?_
      refine Tri.region ti_ok ?_
      conv => whnf
      refine ⟨rfl,?_⟩
      conv => whnf
      refine ⟨fun _ => by simp; omega,?_⟩
      conv => whnf
      refine ⟨encTop kids[t],fun _ => get_kids hta,?_⟩
      conv => whnf
      refine Tri.seq ?_
      refine Tri.seq ?_
      refine Tri.region ti_ok ?_
      conv => whnf
      refine ⟨fun h => h,?_⟩
      conv => whnf
      refine ⟨fun h0 h => by first | exact h | (rw [h]; rfl) | (rw [h0,h]; rfl),?_⟩
      conv => whnf
      refine Tri.cond _ rfl (fun hc => ?_) (fun hc => ?_)
      ·exfalso
       rcases hv with rfl | rfl <;> cases hc
      ·refine Tri.skip ?_
       conv => whnf
       refine Tri.regionX ti_ok ?_
       conv => whnf
       refine .inr (XOp.setUpdate 47 (kt:=9) (et:=4) rfl rfl rfl rfl rfl rfl ?_)
       conv => whnf
       refine .inr (XOp.rowIndex ti_ok 46 rfl rfl rfl rfl rfl rfl rfl (by omega) (by simp [strs]; omega) ?_)
       conv => whnf
       refine .inr (XOp.rowStore ti_ok 46 (i:=t) (by rw [Int.toNat_natCast]; rfl) rfl rfl rfl (by simp [strs]; omega) rfl ?_)
       conv => whnf
       refine Tri.region ti_ok ?_
       conv => whnf
       refine .inl ⟨fun _ => by simp [InR]; omega,?_⟩
       conv => whnf
       exact ⟨⟨t + 1,by omega⟩,[(46,46),(47,47),(3,3)],by show _ - (t + 1) < _ - t; omega,⟨.refl _,.refl _,.refl _,.refl _,.refl _,.refl _,.refl _,.refl _,trivial⟩,rfl,rfl,congrArg (fun z => some (HObj.row nv z 1 9)) (strs_set hta _),rfl,
        congrArg (fun z => some (HObj.set mb z)) (by rw [List.take_add_one]; simp [hta]),rfl,rfl,trivial⟩
    ·refine Tri.exit ?_
     conv => whnf
     have htn : t = kids.length:=by simp [places] at hc; omega
     have hrow2 : strs ((kids.map NV.name).take t) ++ List.replicate (kids.length - t) (D.str []) = strs (kids.map NV.name):=by
      subst htn; rw [List.take_of_length_le (by simp)]; simp
     rw [hrow2]
     refine Tri.forgetK [(9,.raw nv)] [(46,.row nv (strs (kids.map NV.name)) 1 9)] [(46,46)] ⟨⟨.refl _,trivial⟩,rfl,rfl,rfl,trivial⟩ ?_
     refine Tri.commitSt 46 9 rfl ?_
     refine Tri.seq ?_
     refine Tri.region ti_ok ?_
     conv => whnf
     refine Tri.ret ?_
     conv => whnf
     exact ⟨.refl _,.refl _,trivial⟩
end Go.Tame.V
/- What show leaves of a tree at the views that keep names; View$1. By program (mk.py). -/
namespace Go.Tame.V
open Go Go.Proofs
variable {W0 : World}
set_option maxRecDepth 10000
set_option linter.unusedVariables false
set_option linter.unusedSimpArgs false

theorem inc_pw {l : List NV} (h : inc l) : l.Pairwise fun a b => Op.bytesLess a.name b.name = true :=
 List.pairwise_iff_getElem.2 fun i j hi hj hij => inc_get h hij hj
theorem pw_inc {l : List NV} (h : l.Pairwise fun a b => Op.bytesLess a.name b.name = true) : inc l:=fun i hi => by
 have:=List.pairwise_iff_getElem.1 h i (i + 1) (by omega) hi (by omega)
 simpa [List.getD,hi,show i < l.length by omega] using this
end Go.Tame.V
/- naming.show,given the names of the kids. By program (mk.py). -/
namespace Go.Tame.V
open Go Go.Proofs
variable {W0 : World}
set_option maxRecDepth 10000
set_option linter.unusedVariables false
set_option linter.unusedSimpArgs false

def NV.named (n : NV) (s : List UInt8) : NV:={ n with name:=s }
def keeps (v : Int) : Bool:=v == 2 || v == 3
/-- In the order of the names. -/
def sortN (l : List NV) : List NV:=l.mergeSort fun a b => !Op.bytesLess b.name a.name
mutual
/-- The node of a view v: nm gives the names of a node's kids; d is the depth. -/
def showG (nm : List NV → List (List UInt8)) (v d : Int) : NV → NV
 | .mk a b c t e f g h _ _ ks ss => .mk a b c t (if keeps v then e else 0) (if keeps v then f else 0) (if keeps v then g else 0) h 0 0 (sortN (showGL nm v (d + 1) ks (nm ks))) (if v = 3 then ss else [])
def showGL (nm : List NV → List (List UInt8)) (v d : Int) : List NV → List (List UInt8) → List NV
 | k::r,m::ms => if shown v k d then (showG nm v d k).named m::showGL nm v d r ms else showGL nm v d r ms
 | _,_ => []
end
section
variable (nm : List NV → List (List UInt8)) (v d : Int)
theorem showG_eq (n : NV) : showG nm v d n = ⟨n.name,n.kind,n.text,n.target,if keeps v then n.n1 else 0,if keeps v then n.n2 else 0,if keeps v then n.n3 else 0,n.n4,0,0,sortN (showGL nm v (d + 1) n.kids (nm n.kids)),if v = 3 then n.streams else []⟩:=by cases n; simp only [showG]
theorem showG_named (n : NV) (m : List UInt8) : showG nm v d (n.named m) = (showG nm v d n).named m:=by cases n; simp only [NV.named,showG]
theorem sz_named (n : NV) (m : List UInt8) : sz (n.named m) = sz n:=by cases n; simp only [NV.named,sz]
theorem showGL_next : ∀ {l : List NV} {ms : List (List UInt8)} {i : Nat} (h : i < l.length) (h' : i < ms.length),
  showGL nm v d (l.take (i + 1)) (ms.take (i + 1)) = showGL nm v d (l.take i) (ms.take i) ++ (if shown v l[i] d then [showG nm v d (l[i].named ms[i])] else [])
 | k::r,m::ms,0,_,_ => by simp [showGL,showG_named]
 | k::r,m::ms,i + 1,h,h' => by
  have:=showGL_next (l:=r) (ms:=ms) (i:=i) (by simpa using h) (by simpa using h')
  simp only [List.take_succ_cons,showGL,List.getElem_cons_succ]
  rw [this]
  split <;> simp
theorem showGL_len : ∀ (l : List NV) (ms : List (List UInt8)),(showGL nm v d l ms).length ≤ l.length
 | [],ms => by simp [showGL]
 | k::r,[] => by simp [showGL]
 | k::r,m::ms => by
  have:=showGL_len r ms
  simp only [showGL]
  split <;> simp <;> omega
theorem showGL_names : ∀ (l : List NV) (ms : List (List UInt8)),((showGL nm v d l ms).map NV.name).Sublist ms
 | [],ms => by simp [showGL]
 | k::r,[] => by simp [showGL]
 | k::r,m::ms => by
  have:=showGL_names r ms
  simp only [showGL]
  split
  ·simp only [List.map_cons]
   exact this.cons_cons m
  ·exact this.cons m
end
theorem sortN_perm (l : List NV) : (sortN l).Perm l:=List.mergeSort_perm l _
theorem sortN_sorted (l : List NV) : (sortN l).Pairwise fun a b => Op.bytesLess b.name a.name = false:=by
 have h:=List.pairwise_mergeSort (le:=fun a b : NV => !Op.bytesLess b.name a.name) (fun a b c h1 h2 => by
  have h3 : Op.bytesLess b.name a.name = false:=by simpa using h1
  have h4 : Op.bytesLess c.name b.name = false:=by simpa using h2
  have : Op.bytesLess c.name a.name = false:=by
   cases h5 : Op.bytesLess c.name a.name with
   | false => rfl
   | true =>
    exfalso
    cases h6 : Op.bytesLess a.name b.name with
    | true => rw [bl_trans _ _ _ h5 h6] at h4; cases h4
    | false => rw [bl_total _ _ h6 h3] at h5; rw [h5] at h4; cases h4
  simpa using this) (fun a b => by
  cases h1 : Op.bytesLess b.name a.name with
  | false => rfl
  | true => simp [bl_asymm h1]) l
 exact h.imp fun {a b} h => by simpa using h
theorem sortN_inc {l : List NV} (h : (l.map NV.name).Nodup) : inc (sortN l):=by
 have h1:=sortN_sorted l
 have h2 : ((sortN l).map NV.name).Nodup:=((sortN_perm l).map _).nodup_iff.2 h
 apply pw_inc
 have h3:=List.pairwise_map.1 (List.nodup_iff_pairwise_ne.1 h2)
 exact (h1.and h3).imp fun {a b} ⟨h4,h5⟩ => by
  cases h6 : Op.bytesLess a.name b.name with
  | true => rfl
  | false => exact absurd (bl_total _ _ h6 h4) h5
theorem sortN_id {l : List NV} (h : inc l) : sortN l = l :=
 sorted_nodes h (sortN_perm l) fun i j hi hj hij => List.pairwise_iff_getElem.1 (sortN_sorted l) i j hi hj hij

mutual
def okT : NV → Prop
 | .mk _ _ _ _ _ _ _ _ _ _ ks ss => ks.length ≤ 64 ∧ ss.length < 1000000000 ∧ inc ks ∧ okL ks
def okL : List NV → Prop
 | [] => True
 | k::r => ((nameOk k.name = true ∧ k.name.length < 1000000000) ∧ okT k) ∧ okL r
end
theorem okL_get : ∀ {l : List NV} (_ : okL l) {k : NV} (_ : k ∈ l),(nameOk k.name = true ∧ k.name.length < 1000000000) ∧ okT k
 | x::r,h,k,hk => by
  simp only [okL] at h
  rcases List.mem_cons.1 hk with rfl | hk
  ·exact h.1
  ·exact okL_get h.2 hk
theorem okT_eq (n : NV) : okT n ↔ n.kids.length ≤ 64 ∧ n.streams.length < 1000000000 ∧ inc n.kids ∧ okL n.kids:=by cases n; simp only [okT]
/-- The names of kids at a view. -/
structure NamesOk (W0 : World) (v : Int) (nm : List NV → List (List UInt8)) : Prop where
 call : ∀ ks : List NV,ks.length ≤ 64 → inc ks → (∀ k ∈ ks,nameOk k.name = true ∧ k.name.length < 1000000000) →
  DFun Tryz.prog W0 29 [.int .i64 v,.sl .none 12 (ks.map enc)] (.tup [.sl .none 1 (strs (nm ks)),.int .i64 0]) ∧ (nm ks).length = ks.length ∧ (nm ks).Nodup ∧ ∀ m ∈ nm ks,m.length ≤ 1100

def joinQ (p m : List UInt8) (b : Bool) : List UInt8:=if b = true then m else p ++ [47] ++ m
end Go.Tame.V
/- What a valid tree is,node by node. No program's code. -/
namespace Go.Tame.V
open Go Go.Proofs
variable {W0 : World}
set_option linter.unusedVariables false

mutual
def goodB : NV → Int → Bool
 | .mk a b c d e f g h i j ks ss,l => one (.mk a b c d e f g h i j ks ss) l == 0 && goodL ks (l + 1)
def goodL : List NV → Int → Bool
 | [],_ => true
 | k::r,l => goodB k l && goodL r l
end
theorem goodB_eq (n : NV) (l : Int) : goodB n l = (one n l == 0 && goodL n.kids (l + 1)):=by cases n; simp only [goodB]

mutual
theorem walk_good : ∀ (n : NV) (p : List UInt8) (l : Int) (q : List UInt8),
  (goodB n l = true → walk checkF n p l (0,q) = (true,(0,q))) ∧ (goodB n l = false → (walk checkF n p l (0,q)).1 = false ∧ (walk checkF n p l (0,q)).2.1 ≠ 0)
 | .mk a b c d e f g h i j ks ss,p,l,q => by
  have ih:=walkL_good ks p l q
  simp only [walk,goodB,checkF]
  by_cases h1 : one (.mk a b c d e f g h i j ks ss) l = 0
  ·simp only [h1,if_true,beq_self_eq_true,Bool.true_and]
   exact ih
  ·simp only [h1,if_false]
   refine ⟨fun hh => ?_,fun _ => ⟨by simp,by simpa using h1⟩⟩
   simp [h1] at hh
theorem walkL_good : ∀ (ks : List NV) (p : List UInt8) (l : Int) (q : List UInt8),
  (goodL ks (l + 1) = true → walkL checkF ks p l (0,q) = (true,(0,q))) ∧ (goodL ks (l + 1) = false → (walkL checkF ks p l (0,q)).1 = false ∧ (walkL checkF ks p l (0,q)).2.1 ≠ 0)
 | [],p,l,q => by simp [walkL,goodL]
 | k::r,p,l,q => by
  have h1:=walk_good k (below p k.name (l + 1)) (l + 1) q
  have h2:=walkL_good r p l q
  simp only [walkL,goodL]
  cases hk : goodB k (l + 1) with
  | true =>
   rw [h1.1 hk]
   simpa using h2
  | false =>
   have h3:=h1.2 hk
   generalize hx : walk checkF k (below p k.name (l + 1)) (l + 1) (0,q) = x at h3
   obtain ⟨x1,x2⟩:=x
   obtain ⟨h4,h5⟩:=h3
   simp only at h4 h5
   subst h4
   simp [h5]
end
theorem valid_good (n : NV) : valid n = (decide (cnt n ≤ 256) && goodB n 1):=by
 simp only [valid,check]
 by_cases h : (256 : Int) < cnt n
 ·rw [if_pos h]
  have : decide (cnt n ≤ 256) = false:=by simp; omega
  rw [this]; rfl
 ·rw [if_neg h]
  have h1 : decide (cnt n ≤ 256) = true:=by simp; omega
  rw [h1,Bool.true_and]
  have hw:=walk_good n [] 1 []
  cases hg : goodB n 1 with
  | true => rw [hw.1 hg]; rfl
  | false => simpa using (hw.2 hg).2

theorem nz_all {f : Nat → Int} : ∀ {k i : Nat},firstNZ f i k = 0 → ∀ j,i ≤ j → j < i + k → f j = 0
 | 0,i,_,j,h1,h2 => by omega
 | k + 1,i,h,j,h1,h2 => by
  simp only [firstNZ] at h
  split at h
  ·rename_i h0
   by_cases e : j = i
   ·rw [e]; exact h0
   ·exact nz_all h j (by omega) (by omega)
  ·rename_i h0; exact absurd h h0

theorem name_len {s : List UInt8} (h : nameOk s = true) : s.length ≤ 256:=by
 simp only [nameOk] at h
 split at h
 ·cases h
 ·simp only [Bool.and_eq_true,decide_eq_true_eq,beq_iff_eq] at h
  obtain ⟨h1,h2,h3⟩:=h
  simp only [chars] at h1 h3
  split at h1
  ·cases h1
  ·rename_i hl
   rw [if_neg hl] at h3
   cases hc : charsP s with
   | none => rw [hc] at h1; cases h1
   | some l =>
    rw [hc] at h3
    have:=charsP_len s.length s (Nat.le_refl _) l hc
    simp only at h3
    omega
theorem name_ne {s : List UInt8} (h : nameOk s = true) : s ≠ []:=by
 intro e; subst e; revert h; decide +kernel

/-- What the rules say of a node at a level. -/
structure Good (n : NV) (l : Int) : Prop where
 kind0 : 0 ≤ n.kind ∧ n.kind ≤ 2
 kind1 : l = 1 → n.kind = 0
 name1 : l = 1 → n.name = []
 name2 : 1 < l → nameOk n.name = true
 file : n.kind ≠ 1 → n.text = [] ∧ n.streams = []
 link : n.kind ≠ 2 → n.target = []
 dir : n.kind ≠ 0 → n.kids = []
 target : n.kind = 2 → targetOk n.target = true
 n1 : 0 ≤ n.n1 ∧ n.n1 ≤ 4095
 n2 : 0 ≤ n.n2 ∧ n.n2 ≤ 65535
 n3 : 0 ≤ n.n3 ∧ n.n3 ≤ 65535
 n4 : 315532800 ≤ n.n4 ∧ n.n4 ≤ 4102444799
 n5 : -1048576 ≤ n.n5 ∧ n.n5 ≤ 1048576
 n6 : 0 ≤ n.n6 ∧ n.n6 ≤ 15
 level : l ≤ 16
 size : n.text.length ≤ 262144
 kids64 : n.kids.length ≤ 64
 streams4 : n.streams.length ≤ 4
 streams : ∀ i,i < n.streams.length → (stAt n i).target.length ≤ 262144 ∧ fS n i = 0
 inc : inc n.kids

theorem good_of {n : NV} {l : Int} (h : one n l = 0) : Good n l:=by
 have hr:=nz_all h
 have r0 : cKind n l = false:=by have:=hr 0 (by omega) (by omega); simp only [ruleI,rKind] at this; split at this <;> simp_all
 have r1 : cName n l = false:=by have:=hr 1 (by omega) (by omega); simp only [ruleI,rName] at this; split at this <;> simp_all
 have r2 : cParts n = false:=by have:=hr 2 (by omega) (by omega); simp only [ruleI,rParts] at this; split at this <;> simp_all
 have r3 : cTarget n = false:=by have:=hr 3 (by omega) (by omega); simp only [ruleI,rTarget] at this; split at this <;> simp_all
 have r4 : cNumbers n = false:=by have:=hr 4 (by omega) (by omega); simp only [ruleI,rNumbers] at this; split at this <;> simp_all
 have r5':=hr 5 (by omega) (by omega)
 simp only [ruleI,rSizes] at r5'
 have r5 : cSizes n l = false:=by split at r5' <;> simp_all
 rw [if_neg (by rw [r5]; simp)] at r5'
 have r6:=hr 6 (by omega) (by omega)
 simp only [ruleI,rStreams] at r6
 have r7:=hr 7 (by omega) (by omega)
 simp only [ruleI,rKids] at r7
 simp only [cKind,cName,cParts,cTarget,cNumbers,cSizes,within,Bool.or_eq_false_iff,Bool.and_eq_false_iff,decide_eq_false_iff_not,Bool.not_eq_false',beq_eq_false_iff_ne,beq_iff_eq,Bool.not_eq_eq_eq_not,Bool.not_true,Bool.not_false,Bool.and_eq_true,decide_eq_true_eq] at r0 r1 r2 r3 r4 r5
 obtain ⟨⟨r2a,r2b⟩,r2c⟩:=r2
 obtain ⟨⟨⟨⟨⟨ra,rb⟩,rc⟩,rd⟩,re⟩,rf⟩:=r4
 have hk : inc n.kids:=fun i hi => by
  have:=nz_all r7 (i + 1) (by omega) (by omega)
  simp only [fK,ordE,kAt,Nat.add_sub_cancel] at this
  by_cases h1 : (n.kids.getD i default).name = (n.kids.getD (i + 1) default).name
  ·rw [if_pos h1] at this; cases this
  ·rw [if_neg h1] at this
   by_cases h2 : Op.bytesLess (n.kids.getD (i + 1) default).name (n.kids.getD i default).name = true
   ·rw [if_pos h2] at this; cases this
   ·cases h3 : Op.bytesLess (n.kids.getD i default).name (n.kids.getD (i + 1) default).name with
    | true => rfl
    | false => exact absurd (bl_total _ _ h3 (by simpa using h2)) h1
 exact {
  kind0:=by omega
  kind1:=fun e => by rcases r0.2 with h1 | h1 <;> first | exact absurd e h1 | exact h1
  name1:=fun e => by rcases r1.1 with h1 | h1 <;> first | exact absurd e h1 | exact h1
  name2:=fun e => by rcases r1.2 with h1 | h1 <;> first | (exact absurd e h1) | exact h1
  file:=fun e => by
   rcases r2a with h1 | ⟨h1,h2⟩
   ·exact absurd h1 e
   ·exact ⟨h1,List.eq_nil_of_length_eq_zero (by omega)⟩
  link:=fun e => by rcases r2b with h1 | h1 <;> first | exact absurd h1 e | exact h1
  dir:=fun e => by
   rcases r2c with h1 | h1
   ·exact absurd h1 e
   ·exact List.eq_nil_of_length_eq_zero (by omega)
  target:=fun e => by rcases r3 with h1 | h1 <;> first | exact absurd e h1 | exact h1
  n1:=ra,n2:=rb,n3:=rc,n4:=rd,n5:=re,n6:=rf
  level:=by omega
  size:=by omega
  kids64:=by omega
  streams4:=by omega
  streams:=fun i hi => ⟨by
   have:=nz_all r5' i (by omega) (by omega)
   simp only [fZ] at this
   split at this
   ·cases this
   ·rename_i h1; simp at h1; omega,nz_all r6 i (by omega) (by omega)⟩
  inc:=hk }

theorem goodB_good {n : NV} {l : Int} (h : goodB n l = true) : Good n l ∧ goodL n.kids (l + 1) = true:=by
 rw [goodB_eq,Bool.and_eq_true] at h
 exact ⟨good_of (by simpa using h.1),h.2⟩
theorem goodL_of : ∀ {ks : List NV} {l : Int},(∀ k ∈ ks,goodB k l = true) → goodL ks l = true
 | [],l,h => rfl
 | x::r,l,h => by
  simp only [goodL,Bool.and_eq_true]
  exact ⟨h x List.mem_cons_self,goodL_of fun k hk => h k (List.mem_cons_of_mem _ hk)⟩

mutual
theorem good_okT : ∀ (n : NV) (l : Int),1 ≤ l → goodB n l = true → okT n
 | .mk a b c d e f g h i j ks ss,l,hl,hg => by
  obtain ⟨h1,h2⟩:=goodB_good hg
  simp only [okT]
  have h64 : ks.length ≤ 64:=h1.kids64
  have hs4 : ss.length ≤ 4:=h1.streams4
  exact ⟨h64,by omega,h1.inc,good_okL ks (l + 1) (by omega) h2⟩
theorem good_okL : ∀ (ks : List NV) (l : Int),2 ≤ l → goodL ks l = true → okL ks
 | [],l,hl,hg => trivial
 | k::r,l,hl,hg => by
  simp only [goodL,Bool.and_eq_true] at hg
  simp only [okL]
  have hn:=(goodB_good hg.1).1.name2 (by omega)
  have:=name_len hn
  exact ⟨⟨⟨hn,by omega⟩,good_okT k l (by omega) hg.1⟩,good_okL r l hl hg.2⟩
end
theorem valid_okT {n : NV} (h : valid n = true) : okT n:=by
 rw [valid_good,Bool.and_eq_true] at h
 exact good_okT n 1 (Int.le_refl _) h.2

/-- At the views 2 and 3 the names stay. -/
theorem names23 (hL : LibOk W0) {v : Int} (hv : v = 2 ∨ v = 3) : NamesOk W0 v (fun ks => ks.map NV.name) :=
 ⟨fun ks h64 hinc hok => ⟨F105 hL v hv ks h64 hok hinc,by simp,by
  have:=inc_pw hinc
  rw [List.nodup_iff_pairwise_ne,List.pairwise_map]
  exact this.imp fun h => bl_ne h,fun m hm => by
  obtain ⟨k,hk,rfl⟩:=List.mem_map.1 hm
  have:=name_len (hok k hk).1
  omega⟩⟩
end Go.Tame.V
/- Contracts: tree,View,Check,given the names of the kids. By program (mk.py). -/
namespace Go.Tame.V
open Go Go.Proofs
variable {W0 : World}
set_option maxRecDepth 10000
set_option linter.unusedVariables false
set_option linter.unusedSimpArgs false


def zeroN : NV:=⟨[],0,[],[],0,0,0,0,0,0,[],[]⟩
def viewR (nm : List NV → List (List UInt8)) (v : Int) (n : NV) : NV × Int :=
 if viewOk v = false then (zeroN,2) else if valid n = false then (zeroN,1) else (showG nm v 1 n,0)
theorem zeroD : DLe (.agg [.str [],.int .i64 0,.str [],.str [],.int .i64 0,.int .i64 0,.int .i64 0,.int .i64 0,.int .i64 0,.int .i64 0,.nils,.nils]) (encTop zeroN) :=
 DLe.agg ⟨.refl _,.refl _,.refl _,.refl _,.refl _,.refl _,.refl _,.refl _,.refl _,.refl _,DLe.nil,DLe.nil,trivial⟩

end Go.Tame.V
/- The example's values. -/
namespace Go.Tame.V
open Go Go.Proofs
variable {W0 : World}
set_option maxRecDepth 10000
end Go.Tame.V
/- The contract of awake. By program (mk.py). -/
namespace Go.Tame.V
open Go Go.Proofs
variable {W0 : World}
set_option maxRecDepth 10000
set_option linter.unusedVariables false
set_option linter.unusedSimpArgs false

end Go.Tame.V
/- Mirrored trees. By program (mk.py). -/
namespace Go.Tame.V
open Go Go.Proofs
variable {W0 : World}
set_option maxRecDepth 10000
set_option linter.unusedVariables false
set_option linter.unusedSimpArgs false

end Go.Tame.V
