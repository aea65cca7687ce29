/- A program logic of my own over the model, and contracts of this program's functions by it: part 6. No conditions of its own: each theorem states its own. -/
import Derived.Test.YtppjigbglfglnaaGreatDoorL5
import Derived.Test.YtppjigbglfglnaaGreatDoorShelf
import Derived.BigQuiet
import Derived.Lib.Builder
import Derived.Lib.FrozenHead
import Derived.Lib.UnsafeStr
import Derived.Laws.Externs
import Derived.WalkKit
import Derived.RegionTactic
import Derived.OwnWalk
set_option linter.unnecessarySimpa false
set_option linter.unusedSimpArgs false
set_option linter.unusedVariables false
set_option maxRecDepth 100000
set_option maxHeartbeats 16000000
namespace Go.Tame.V
open Go Go.Proofs
variable {W0:World}
structure LibOk (W0:World):Prop where
 utf8:Lib.Utf8Tabs 3 4 W0
 maxlen:∃ m,W0.cell? ⟨0,0,none⟩=some (.int .i64 m)
 pow10 : Lib.TabIs Tryz.prog W0 "internal/strconv.uint64pow10" .u64 Lib.pow10Tab
theorem cell_base {w:World} (hb:Base W0 w) {a:Addr} {v:Value} (h:W0.cell? a=some v):w.cell? a=some v:=by
 have hlt:a.block<W0.heap.size:=by
  simp only [World.cell?] at h
  rcases Nat.lt_or_ge a.block W0.heap.size with h1|h1
  ·exact h1
  rw [Array.getElem?_eq_none h1] at h; cases h
 rw [← h]; simp only [World.cell?,hb.block _ hlt]
theorem utf8_base {w:World} (hb:Base W0 w) (h:Lib.Utf8Tabs 3 4 W0):Lib.Utf8Tabs 3 4 w :=
 ⟨fun c hc=>cell_base hb (h.1 c hc),fun i hi=>⟨cell_base hb (h.2 i hi).1,cell_base hb (h.2 i hi).2⟩⟩
theorem callable {f : FuncId} {fn : Func} (h : Tryz.prog.funcs[f]? = some fn) (hb : fn.body.isSome = true) (hn : (fn.name == "runtime.NumGoroutine") = false) : Callable Tryz.prog f := ⟨fn, h, hb, hn⟩
def dec (s:List UInt8):Nat×Nat:=Lib.decodeGo ⟨⟨s⟩⟩
theorem F134 (hL:LibOk W0) (s:List UInt8):DFun Tryz.prog W0 355 [.str s] (.tup [.int .i32 (dec s).1,Iv (dec s).2]) :=
 .lift (callable Tryz.func355 rfl (by decide +kernel)) rfl fun w hb=>(Tryz.utf8_DecodeRuneInString ⟨⟨s⟩⟩ w (utf8_base hb hL.utf8)).mono fun e w' ⟨he,hw⟩ =>
  ⟨_,he,fun C=>.tup _ _ rfl fun i d v hd hv=>by
   match i with
   | 0=>cases hd; cases hv; exact .int _ _
   | 1=>cases hd; cases hv; exact .int _ _
   | i+2=>simp at hd,hw⟩
theorem F110 (a b:List UInt8):DFun Tryz.prog W0 212 [.str a,.str b] (Iv (Lib.compareBytes a b)) :=
 .pure (callable Tryz.func212 rfl (by decide +kernel)) rfl rfl fun w _=>Tryz.strings_Compare ⟨⟨a⟩⟩ ⟨⟨b⟩⟩ w
theorem F119 (s:List UInt8) (c:UInt8):DFun Tryz.prog W0 297 [.str s,.str [c]] (.bool (decide (0≤Lib.indexByte s c))) :=
 .pure (callable Tryz.func297 rfl (by decide +kernel)) rfl rfl fun w _=>Tryz.strings_Contains_one ⟨⟨s⟩⟩ c w
theorem F122 (s p:List UInt8):DFun Tryz.prog W0 300 [.str s,.str p] (.str (Lib.trimPrefix s p)) :=
 .pure (callable Tryz.func300 rfl (by decide +kernel)) rfl rfl fun w _=>Tryz.strings_TrimPrefix ⟨⟨s⟩⟩ ⟨⟨p⟩⟩ w
def isChar (r:Int):Bool:=decide (32≤r)&&(decide (r≤65533)&&(decide (r<55296)||decide (57343<r)))
theorem F135 (r:Int):DFun Tryz.prog W0 275 [Iv r] (.bool (isChar r)):=by
 refine Fi Tryz.func275 rfl Tryz.ntmps275 fun Γ=>?_
 apply Sr;apply Sr;apply Hh;refine Pk ?_;apply Hh;apply Hh;apply Hh;apply Hh;refine Pk ?_;refine Pk ?_;apply Rt;(conv=>whnf);refine DLe.of_eq (congrArg D.bool ?_)
 unfold isChar
 by_cases h1:32≤r<;>by_cases h2:r≤65533<;>by_cases h3:r<55296<;>simp [h1,h2,h3]
theorem F155 (r:Int):DFun Tryz.prog W0 310 [Iv r] (.bool (isChar r)):=by
 refine Fi Tryz.func310 rfl Tryz.ntmps310 fun Γ=>?_
 apply Sr;apply Sr;apply Hh;refine Pk ?_;apply Hh;apply Hh;apply Hh;apply Hh;refine Pk ?_;refine Pk ?_;apply Rt;(conv=>whnf);refine DLe.of_eq (congrArg D.bool ?_)
 unfold isChar
 by_cases h1:32≤r<;>by_cases h2:r≤65533<;>by_cases h3:r<55296<;>simp [h1,h2,h3]
theorem decode_size (s:List UInt8) (h:s≠[]):1≤(dec s).2∧(dec s).2≤s.length∧(dec s).2≤4∧(dec s).1≤1114111:=by
 have h0:¬ (⟨⟨s⟩⟩:ByteArray).size=0:=fun e=>h (List.eq_nil_of_length_eq_zero e)
 have hl:(⟨⟨s⟩⟩:ByteArray).size=s.length:=rfl
 have hp:0<s.length:=List.length_pos_iff.2 h
 unfold dec Lib.decodeGo
 rw [if_neg h0]
 unfold Utf8.decode
 dsimp only;rw [hl]
 have hre:Utf8.runeError=65533:=rfl
 repeat' split
 all_goals simp only [hre,Bool.and_eq_true,Bool.or_eq_true,decide_eq_true_eq,ge_iff_le,Utf8.valid] at *
 all_goals omega
def badAt (s:List UInt8):Bool:=!isChar (dec s).1||((dec s).1==65533&&(dec s).2==1)
theorem badAt_eq (s:List UInt8):badAt s=(bif !isChar ((dec s).1:Nat) then true else bif (((dec s).1:Nat):Int)==65533 then (((dec s).2:Nat):Int)==1 else false):=by
 unfold badAt
 have h1:((((dec s).1:Nat):Int)==65533)=((dec s).1==65533):=by rw [Bool.eq_iff_iff]; simp; omega
 have h2:((((dec s).2:Nat):Int)==1)=((dec s).2==1):=by rw [Bool.eq_iff_iff]; simp; omega
 rw [h1,h2]
 cases isChar ((dec s).1:Nat)<;>cases (dec s).1==65533<;>rfl
def charsGo:Nat→List UInt8→Option (List Int)
 | 0,s=>if s=[] then some [] else none
 | f+1,s=>if s=[] then some [] else if badAt s then none else (charsGo f (s.drop (dec s).2)).map (((dec s).1:Int)::·)
theorem charsGo_fuel:∀ (f:Nat) (s:List UInt8),s.length≤f→charsGo f s=charsGo s.length s
 | 0,s,h=>by have:s=[]:=List.eq_nil_of_length_eq_zero (by omega); subst this; rfl
 | f+1,s,h=>by
  by_cases hs:s=[]
  ·subst hs; rfl
  obtain ⟨h1,h2,_⟩:=decode_size s hs
  have hp:0<s.length:=List.length_pos_iff.2 hs
  obtain ⟨n,hn⟩:∃ n,s.length=n+1:=⟨s.length-1,by omega⟩;rw [hn];simp only [charsGo,hs,if_false]
  have hdl:(s.drop (dec s).2).length=s.length-(dec s).2:=by simp
  rw [charsGo_fuel f (s.drop (dec s).2) (by omega),charsGo_fuel n (s.drop (dec s).2) (by omega)]
def charsP (s:List UInt8):Option (List Int):=charsGo s.length s
theorem charsP_cons {s:List UInt8} (hs:s≠[]):charsP s=if badAt s then none else (charsP (s.drop (dec s).2)).map (((dec s).1:Int)::·):=by
 obtain ⟨h1,h2,_⟩:=decode_size s hs
 have hp:0<s.length:=List.length_pos_iff.2 hs
 obtain ⟨n,hn⟩:∃ n,s.length=n+1:=⟨s.length-1,by omega⟩
 have hdl:(s.drop (dec s).2).length=s.length-(dec s).2:=by simp
 rw [charsP,hn];simp only [charsGo,hs,if_false]
 rw [charsGo_fuel n _ (by omega)]; rfl
theorem charsP_len:∀ (n:Nat) (s:List UInt8),s.length≤n→∀ l,charsP s=some l→l.length≤s.length∧s.length≤4*l.length
 | 0,s,h,l,hl=>by
  have:s=[]:=List.eq_nil_of_length_eq_zero (by omega)
  subst this; cases hl; simp
 | n+1,s,h,l,hl=>by
  by_cases hs:s=[]
  ·subst hs; cases hl; simp
  obtain ⟨h1,h2,h3,_⟩:=decode_size s hs;rw [charsP_cons hs] at hl
  split at hl
  ·cases hl
  cases hd:charsP (s.drop (dec s).2) with
  | none=>rw [hd] at hl; cases hl
  | some l' =>
   rw [hd] at hl; cases hl
   have hdl:(s.drop (dec s).2).length=s.length-(dec s).2:=by simp
   have:=charsP_len n (s.drop (dec s).2) (by omega) l' hd
   simp only [List.length_cons]; omega
def chars (s:List UInt8):List Int×Int:=if 65536<s.length then ([],7) else match charsP s with|some l=>(l,0)|none=>([],3)
def encInts (k:IntKind) (l:List Int):List D:=l.map (D.int k)
theorem F120 (hL:LibOk W0) (s:List UInt8) (hs:s.length<1000000000):DFun Tryz.prog W0 298 [.str s] (.tup [.sl .none 1 (encInts .i64 (chars s).1),Iv (chars s).2]):=by
 refine Fi Tryz.func298 rfl Tryz.ntmps298 fun Γ=>?_
 apply Sr;apply Sq;apply Sr;refine Cd _ rfl (fun hc=>?_) (fun hc=>?_)
 ·apply Sr;apply Rt;(conv=>whnf)
  have:chars s=([],7):=by rw [chars,if_pos (by simp at hc; omega)]
  rw [this];exact ⟨DLe.nil,.refl _,trivial⟩
 apply Sk;(conv=>whnf)
 have hs2:¬ 65536<s.length:=by simp at hc; omega
 apply Sq;refine Tri.regionX ti_ok ?_;(conv=>whnf)
 refine .inr (XOp.makeOwn ti_ok (n:=s.length) (k1:=.i64) (k2:=.i64) rfl rfl rfl rfl rfl rfl (by show 8*_≤_; omega) (by omega) fun v=>?_)
 apply Sq;apply Bk
 refine Tri.loopK (α:={ x:List UInt8×List Int // charsP s=(charsP x.1).map (x.2++·)∧x.1.length+x.2.length≤s.length }×Value)
  (fun x=>[(0,.str x.1.1.1),(4,.sl (.own 1000 x.2) 1 (encInts .i64 x.1.1.2))]) (fun x=>[(1000,.own x.2 (encInts .i64 x.1.1.2).length 1 3)]) (fun x=>x.1.1.1.length) (⟨(s,[]),by simp,by simp⟩,v) [(1000,12)]
  ⟨⟨.refl _,DLe.own _ _,trivial⟩,rfl,Y⟩ ?_
 rintro ⟨⟨⟨r,acc⟩,hch,hlen⟩,v⟩;dsimp only at hch hlen ⊢;apply Sq;apply Sr;refine Cd _ rfl (fun hc=>?_) (fun hc=>?_)
 ·apply Sk;(conv=>whnf)
  have hr:r≠[]:=by intro e; subst e; simp at hc
  obtain ⟨hd1,hd2,hd3,hd4⟩:=decode_size r hr
  have hal:(encInts .i64 acc).length=acc.length:=by simp [encInts]
  apply Bk;apply Sr;(conv=>whnf);refine ⟨_,_,fun _=>F134 hL r,Z,?_⟩;apply Sq;apply Sr;(conv=>whnf)
  refine .inl ⟨by simp [InR]; omega,?_⟩
  (conv=>whnf);refine ⟨_,_,fun _=>F135 _,Z,?_⟩;apply Hh;apply Hh;apply Hh;apply Hh;refine Pk ?_;refine Pk ?_;refine Cd _ rfl (fun hc=>?_) (fun hc=>?_)
  ·apply Sr;apply Rt;(conv=>whnf)
   have hbad:badAt r=true:=by rw [badAt_eq]; exact hc
   have:chars s=([],3):=by rw [chars,if_neg hs2,hch,charsP_cons hr,if_pos hbad]; rfl
   rw [this];exact ⟨DLe.nil,.refl _,trivial⟩
  apply Sk
  have hbad:badAt r=false:=by rw [badAt_eq]; exact hc
  apply Sq;refine Tri.regionX ti_ok ?_;apply Il;(conv=>whnf)
  refine .inl ⟨by simp [InR]; omega,?_⟩
  (conv=>whnf);refine ⟨trivial,?_⟩;apply Il;(conv=>whnf);refine ⟨rfl,rfl,?_⟩;(conv=>whnf)
  refine ⟨by show (_+1)*8≤_; omega,by show _+1≤_; omega,(fun h=>by cases h),fun v=>?_⟩
  apply Rg;(conv=>whnf);refine Sp ?_;(conv=>whnf)
  exact ⟨(⟨(r.drop (dec r).2,acc++[((dec r).1:Int)]),by rw [hch,charsP_cons hr,hbad]; simp [Function.comp_def],by simp; omega⟩,v),[(1000,37)],by show (r.drop (dec r).2).length<r.length; simp; omega,⟨DLe.of_eq (congrArg D.str (by simp)),DLe.ownEq (by simp [encInts]; rfl),trivial⟩,rfl,rfl,ownH (by simp [encInts]),trivial⟩
 refine Tri.exit ?_;apply Sr;apply Rt;(conv=>whnf)
 have hr:r=[]:=by simpa using hc
 subst hr
 have:chars s=(acc,0):=by rw [chars,if_neg hs2,hch]; simp [charsP,charsGo]
 rw [this];exact ⟨DLe.unown,.refl _,trivial⟩
def u8i (n:Int):UInt8:=UInt8.ofNat n.toNat
theorem u8_row (l:List Int) (h:∀ n∈l,0≤n∧n≤255):l.map (D.int .u8)=(l.map u8i).map fun c=>D.int .u8 c.toNat:=by
 rw [List.map_map];apply List.map_congr_left;intro n hn
 have:=h n hn
 simp only [Function.comp,u8i]
 congr 1
 simp; omega
def enc17 (v:Int):List Int :=
 if v<128 then [v] else if v<2048 then [192+v.tdiv 64,128+v.tmod 64] else [224+v.tdiv 4096,128+(v.tdiv 64).tmod 64,128+v.tmod 64]
def enc17s (v:Int):List UInt8:=(enc17 v).map u8i
theorem tdiv_eq {v k:Int} (h:0≤v) (hk:0<k):v.tdiv k=v/k:=Int.tdiv_eq_ediv_of_nonneg h
theorem tmod_eq {v k:Int} (h:0≤v):v.tmod k=v%k:=Int.tmod_eq_emod_of_nonneg h
theorem F156 (v:Int) (h0:0≤v) (h1:v≤65535):DFun Tryz.prog W0 311 [Iv v] (.str (enc17s v)):=by
 refine Fi Tryz.func311 rfl Tryz.ntmps311 fun Γ=>?_
 apply Sr;apply Sq;apply Sr;refine Cd _ rfl (fun hc=>?_) (fun hc=>?_)
 ·apply Sq;refine Tri.regionX ti_ok ?_;apply Il;(conv=>whnf)
  refine .inl ⟨by simp at hc; simp [InR]; omega,?_⟩
  (conv=>whnf);refine ⟨trivial,?_⟩;(conv=>whnf)
  refine .inr (XOp.bytesStr ti_ok (bs:=[v].map u8i) (tg:=.full) rfl rfl rfl rfl rfl rfl (congrArg (D.sl .full 1) (u8_row [v] (by simp at hc ⊢; omega))) ?_)
  apply Rt;(conv=>whnf);exact DLe.of_eq (congrArg D.str (by rw [enc17s,enc17,if_pos (by simpa using hc)]))
 apply Sk;apply Sq;apply Sr;(conv=>whnf)
 have e1:=tdiv_eq h0 (k:=64) (by omega)
 have e2:=tmod_eq (k:=64) h0
 have e3:=tdiv_eq h0 (k:=4096) (by omega)
 have e4:=tmod_eq (v:=v.tdiv 64) (k:=64) (by omega)
 refine Cd _ rfl (fun hc=>?_) (fun hc=>?_)
 ·apply Sq;refine Tri.regionX ti_ok ?_;(conv=>whnf);refine Sp ?_;(conv=>whnf)
  refine .inl ⟨fun _=>by simp at hc; simp only [InR]; omega,?_⟩
  conv=>whnf
  refine .inl ⟨fun _=>by simp at hc; simp only [InR]; omega,?_⟩
  apply Il;(conv=>whnf)
  refine .inl ⟨by simp at hc; simp only [InR]; omega,?_⟩
  (conv=>whnf);refine Sp ?_;(conv=>whnf)
  refine .inl ⟨fun _=>by simp at hc; simp only [InR]; omega,?_⟩
  apply Il;(conv=>whnf)
  refine .inl ⟨by simp at hc; simp only [InR]; omega,?_⟩
  (conv=>whnf);refine ⟨trivial,?_⟩;(conv=>whnf)
  refine .inr (XOp.bytesStr ti_ok (bs:=[192+v.tdiv 64,128+v.tmod 64].map u8i) (tg:=.full) rfl rfl rfl rfl rfl rfl (congrArg (D.sl .full 1) (u8_row [192+v.tdiv 64,128+v.tmod 64] (by simp at hc ⊢; omega))) ?_)
  apply Rt;(conv=>whnf)
  exact DLe.of_eq (congrArg D.str (by simp only [decide_eq_true_eq,decide_eq_false_iff_not] at *; rw [enc17s,enc17,if_neg (by assumption),if_pos (by assumption)]))
 apply Sk;apply Sq;refine Tri.regionX ti_ok ?_;(conv=>whnf);refine Sp ?_;(conv=>whnf)
 refine .inl ⟨fun _=>by simp at hc; simp only [InR]; omega,?_⟩
 conv=>whnf
 refine .inl ⟨fun _=>by simp at hc; simp only [InR]; omega,?_⟩
 apply Il;(conv=>whnf)
 refine .inl ⟨by simp at hc; simp only [InR]; omega,?_⟩
 (conv=>whnf);refine Sp ?_;(conv=>whnf)
 refine .inl ⟨fun _=>by simp at hc; simp only [InR]; omega,?_⟩
 (conv=>whnf);refine Sp ?_;(conv=>whnf)
 refine .inl ⟨fun _=>by simp at hc; simp only [InR]; omega,?_⟩
 apply Il;(conv=>whnf)
 refine .inl ⟨by simp at hc; simp only [InR]; omega,?_⟩
 (conv=>whnf);refine Sp ?_;(conv=>whnf)
 refine .inl ⟨fun _=>by simp at hc; simp only [InR]; omega,?_⟩
 apply Il;(conv=>whnf)
 refine .inl ⟨by simp at hc; simp only [InR]; omega,?_⟩
 (conv=>whnf);refine ⟨trivial,?_⟩;(conv=>whnf)
 refine .inr (XOp.bytesStr ti_ok (bs:=[224+v.tdiv 4096,128+(v.tdiv 64).tmod 64,128+v.tmod 64].map u8i) (tg:=.full) rfl rfl rfl rfl rfl rfl (congrArg (D.sl .full 1) (u8_row [224+v.tdiv 4096,128+(v.tdiv 64).tmod 64,128+v.tmod 64] (by simp at hc ⊢; omega))) ?_)
 apply Rt;(conv=>whnf)
 exact DLe.of_eq (congrArg D.str (by simp only [decide_eq_true_eq,decide_eq_false_iff_not] at *; rw [enc17s,enc17,if_neg (by assumption),if_neg (by assumption)]))
def bA (s:List UInt8) (k:Nat):Int:=((s.getD k 0).toNat:Nat)
def val12 (s:List UInt8) (i:Nat):Int:=if i=2 then (bA s 0-192)*64+bA s 1-128 else bA s 0
def valN (s:List UInt8) (i:Nat):Int:=if i=3 then (bA s 0-224)*4096+(bA s 1-128)*64+bA s 2-128 else val12 s i
def hit (s:List UInt8) (i:Nat):Bool:=isChar (valN s i)&&enc17s (valN s i)==s.take i
theorem bA_le (s:List UInt8) (k:Nat):0≤bA s k∧bA s k≤255:=by
 unfold bA; have:=(s.getD k 0).toNat_lt; omega
theorem bA_get (s:List UInt8) {k:Nat} (h:k<s.length):s[k]? = some (s.getD k 0):=by simp [List.getD,h]
def first (s:List UInt8):Int×Int:=if 1≤s.length∧hit s 1=true then (valN s 1,1) else if 2≤s.length∧hit s 2=true then (valN s 2,2) else if 3≤s.length∧hit s 3=true then (valN s 3,3) else (0,0)
theorem isChar_in {r:Int} (h:isChar r=true):32≤r∧r≤65533:=by
 unfold isChar at h; simp only [Bool.and_eq_true,decide_eq_true_eq] at h; exact ⟨h.1,h.2.1⟩
theorem first_hit {s:List UInt8} {i:Nat} (h1:1≤i) (h3:i≤3) (hl:i≤s.length) (hh:hit s i=true) (hno:∀ m,1≤m→m<i→hit s m=false):first s=(valN s i,(i:Int)):=by
 unfold first
 match i,h1,h3 with
 | 1,_,_=>rw [if_pos ⟨hl,hh⟩]; rfl
 | 2,_,_=>rw [if_neg (by rw [hno 1 (by omega) (by omega)]; simp),if_pos ⟨hl,hh⟩]; rfl
 | 3,_,_=>rw [if_neg (by rw [hno 1 (by omega) (by omega)]; simp),if_neg (by rw [hno 2 (by omega) (by omega)]; simp),if_pos ⟨hl,hh⟩]; rfl
theorem first_none {s:List UInt8} {i:Nat} (hi:3<i∨s.length<i) (hno:∀ m,1≤m→m<i→hit s m=false):first s=(0,0):=by
 unfold first
 rw [if_neg,if_neg,if_neg]
 all_goals rintro ⟨h1,h2⟩
 ·rw [hno 3 (by omega) (by omega)] at h2; cases h2
 ·rw [hno 2 (by omega) (by omega)] at h2; cases h2
 rw [hno 1 (by omega) (by omega)] at h2; cases h2
theorem F130 (s:List UInt8) (hs:s.length<1000000000):DFun Tryz.prog W0 250 [.str s] (.tup [Iv (first s).1,Iv (first s).2]):=by
 refine Fi Tryz.func250 rfl Tryz.ntmps250 fun Γ=>?_
 apply Sr;apply Sq;apply Sr;apply Bk;refine Tri.loop (α:={ i:Nat // 1≤i∧i≤4∧∀ m,1≤m→m<i→hit s m=false }) (fun x=>[(0,.str s),(4,Iv x.1)]) (fun _=>[]) (fun x=>4-x.1) ⟨1,by omega,by omega,fun m h1 h2=>by omega⟩ Z trivial ?_;rintro ⟨i,hi1,hi4,hno⟩;dsimp only;apply Sq;apply Sr;apply Hh;apply Hh;apply Hh;refine Pk ?_;refine Cd _ rfl (fun hc=>?_) (fun hc=>?_)
 ·apply Sk;(conv=>whnf)
  have hi:i≤3∧i≤s.length:=by
   cases h3:decide ((i:Int)≤3)<;>rw [h3] at hc<;>simp at h3 hc<;>omega
  have hb0:=bA_le s 0
  have hb1:=bA_le s 1
  have hb2:=bA_le s 2
  apply Sq;apply Bk;apply Sr;(conv=>whnf);refine ⟨s.getD 0 0,fun _=>⟨by omega,bA_get s (by omega)⟩,?_⟩;(conv=>whnf)
  refine .inl ⟨by have:=(s.getD 0 0).toNat_lt; simp only [InR]; omega,?_⟩
  (conv=>whnf);refine Tri.joinK (α:=Unit) (fun x=>[(0,.str s),(4,Iv i),(5,Iv (val12 s i))]) (fun x=>[]) ?_ ?_
  ·apply Sr;refine Cd _ rfl (fun hc=>?_) (fun hc=>?_)
   ·refine Tri.draw ti_ok mixed (by kernel_rfl) ?_;(conv=>whnf);refine ⟨s.getD 0 0,fun _=>⟨by omega,bA_get s (by omega)⟩,?_⟩;(conv=>whnf)
    refine .inl ⟨by have:=(s.getD 0 0).toNat_lt; simp only [InR]; omega,?_⟩
    conv=>whnf
    refine .inl ⟨fun _=>by have:=(s.getD 0 0).toNat_lt; simp only [InR]; omega,?_⟩
    conv=>whnf
    refine .inl ⟨fun _=>by have:=(s.getD 0 0).toNat_lt; simp only [InR]; omega,?_⟩
    conv=>whnf
    refine ⟨s.getD 1 0,fun _=>⟨by omega,bA_get s (by simp at hc; omega)⟩,?_⟩
    conv=>whnf
    refine .inl ⟨by have:=(s.getD 1 0).toNat_lt; simp only [InR]; omega,?_⟩
    conv=>whnf
    refine .inl ⟨fun _=>by have:=(s.getD 0 0).toNat_lt; have:=(s.getD 1 0).toNat_lt; simp only [InR]; omega,?_⟩
    conv=>whnf
    refine .inl ⟨fun _=>by have:=(s.getD 0 0).toNat_lt; have:=(s.getD 1 0).toNat_lt; simp only [InR]; omega,?_⟩
    conv=>whnf
    have h2:i=2:=by simp at hc; omega
    exact ⟨(),[],⟨.refl _,.refl _,intDLe (by rw [val12,if_pos h2]; rfl),trivial⟩,rfl,trivial⟩
   apply Sk;(conv=>whnf)
   have h2:i≠2:=by simp at hc; omega
   exact ⟨(),[],⟨.refl _,.refl _,intDLe (by rw [val12,if_neg h2]; rfl),trivial⟩,rfl,trivial⟩
  rintro ⟨⟩;refine Tri.joinK (α:=Unit) (fun x=>[(0,.str s),(4,Iv i),(5,Iv (valN s i))]) (fun x=>[]) ?_ ?_
  ·apply Sr;refine Cd _ rfl (fun hc=>?_) (fun hc=>?_)
   ·refine Tri.draw ti_ok mixed (by kernel_rfl) ?_;(conv=>whnf);refine ⟨s.getD 0 0,fun _=>⟨by omega,bA_get s (by omega)⟩,?_⟩;(conv=>whnf)
    have hu0:=(s.getD 0 0).toNat_lt
    have hu1:=(s.getD 1 0).toNat_lt
    have hu2:=(s.getD 2 0).toNat_lt
    refine .inl ⟨by simp only [InR]; omega,?_⟩
    refine Ir ?_;refine Ir ?_;(conv=>whnf)
    refine ⟨s.getD 1 0,fun _=>⟨by omega,bA_get s (by simp at hc; omega)⟩,?_⟩
    conv=>whnf
    refine .inl ⟨by simp only [InR]; omega,?_⟩
    refine Ir ?_;refine Ir ?_;refine Ir ?_;(conv=>whnf)
    refine ⟨s.getD 2 0,fun _=>⟨by omega,bA_get s (by simp at hc; omega)⟩,?_⟩
    conv=>whnf
    refine .inl ⟨by simp only [InR]; omega,?_⟩
    refine Ir ?_;refine Ir ?_;(conv=>whnf)
    have h2:i=3:=by simp at hc; omega
    exact ⟨(),[],⟨.refl _,.refl _,intDLe (by rw [valN,if_pos h2]; rfl),trivial⟩,rfl,trivial⟩
   apply Sk;(conv=>whnf)
   have h2:i≠3:=by simp at hc; omega
   exact ⟨(),[],⟨.refl _,.refl _,intDLe (by rw [valN,if_neg h2]),trivial⟩,rfl,trivial⟩
  rintro ⟨⟩;apply Sq;refine Tri.draw ti_ok mixed (by kernel_rfl) ?_;(conv=>whnf);refine ⟨_,_,fun _=>F155 _,Z,?_⟩;apply Hh;(conv=>whnf)
  refine ⟨[Iv (valN s i)],_,fun h=>F156 _ (by have:=isChar_in h; omega) (by have:=isChar_in h; omega),Z,?_⟩
  apply Hh;apply Hh;(conv=>whnf);refine ⟨fun h=>by omega,?_⟩;apply Hh;apply Hh;refine Pk ?_;(conv=>whnf)
  have hhit:hit s i=(bif isChar (valN s i) then enc17s (valN s i)==(s.take (i:Int).toNat).drop (Int.toNat 0) else false):=by
   rw [hit,Int.toNat_natCast]; cases isChar (valN s i)<;>rfl
  refine Cd _ rfl (fun hc=>?_) (fun hc=>?_)
  ·apply Sr;apply Rt;(conv=>whnf)
   have:=first_hit hi1 hi.1 hi.2 (hhit.trans hc) hno
   exact ⟨intDLe (by rw [this]),intDLe (by rw [this]),trivial⟩
  apply Sk;apply Rg;refine Ir ?_;(conv=>whnf)
  exact ⟨⟨i+1,by omega,by omega,fun m h1 h2=>(Nat.lt_succ_iff_lt_or_eq.1 h2).elim (hno m h1) fun e=>by subst e; exact hhit.trans hc⟩,by show 4-(i+1)<4-i; omega,Z,trivial⟩
 refine Tri.exit ?_;apply Sr;apply Rt;(conv=>whnf)
 have hi:3<i∨s.length<i:=by
  cases h3:decide ((i:Int)≤3)<;>rw [h3] at hc<;>simp at h3 hc<;>omega
 have:=first_none hi hno
 exact ⟨intDLe (by rw [this]),intDLe (by rw [this]),trivial⟩
theorem take1 {s:List UInt8} (h:1≤s.length):s.take 1=[s.getD 0 0]:=by match s,h with|a::t,_=>rfl
theorem take2 {s:List UInt8} (h:2≤s.length):s.take 2=[s.getD 0 0,s.getD 1 0]:=by match s,h with|a::b::t,_=>rfl
theorem take3 {s:List UInt8} (h:3≤s.length):s.take 3=[s.getD 0 0,s.getD 1 0,s.getD 2 0]:=by match s,h with|a::b::c::t,_=>rfl
theorem get_bang (s:List UInt8) (k:Nat):(⟨⟨s⟩⟩:ByteArray).get! k=s.getD k 0:=by
 show (⟨s⟩:Array UInt8)[k]! = _
 rw [getElem!_def]
 simp [List.getD]
 cases h:s[k]?<;>rfl
def decN (n b0 b1 b2 b3:Nat):Nat×Nat :=
 if b0<128 then (b0,1)
 else if b0/32=6∧1<n∧b1/64=2 then
  if (b0%32)*64+b1%64≥128 then ((b0%32)*64+b1%64,2) else (65533,1)
 else if b0/16=14∧(1<n∧b1/64=2)∧2<n∧b2/64=2 then
  if (b0%16)*4096+(b1%64)*64+b2%64≥2048∧((b0%16)*4096+(b1%64)*64+b2%64<55296∨57344≤(b0%16)*4096+(b1%64)*64+b2%64)
  then ((b0%16)*4096+(b1%64)*64+b2%64,3) else (65533,1)
 else if b0/8=30∧(1<n∧b1/64=2)∧(2<n∧b2/64=2)∧3<n∧b3/64=2 then
  if (b0%8)*262144+(b1%64)*4096+(b2%64)*64+b3%64≥65536∧(b0%8)*262144+(b1%64)*4096+(b2%64)*64+b3%64≤1114111
  then ((b0%8)*262144+(b1%64)*4096+(b2%64)*64+b3%64,4) else (65533,1)
 else (65533,1)
theorem dec_eq {s:List UInt8} (h:s≠[]):dec s=decN s.length (s.getD 0 0).toNat (s.getD 1 0).toNat (s.getD 2 0).toNat (s.getD 3 0).toNat:=by
 have h0:¬ (⟨⟨s⟩⟩:ByteArray).size=0:=fun e=>h (List.eq_nil_of_length_eq_zero e)
 have hl:(⟨⟨s⟩⟩:ByteArray).size=s.length:=rfl
 unfold dec Lib.decodeGo
 rw [if_neg h0]
 unfold Utf8.decode
 dsimp only;simp only [get_bang,Nat.zero_add,hl]
 have hu0:=(s.getD 0 0).toNat_lt
 generalize (s.getD 0 0).toNat=b0 at *;generalize (s.getD 1 0).toNat=b1;generalize (s.getD 2 0).toNat=b2;generalize (s.getD 3 0).toNat=b3
 unfold decN
 have hre:Utf8.runeError=65533:=rfl
 simp only [hre,Bool.and_eq_true,Bool.or_eq_true,decide_eq_true_eq,ge_iff_le,Utf8.valid,beq_iff_eq,and_assoc]
 repeat' split
 all_goals first|rfl|(exfalso; omega)|skip
def bytesOf (v:Int) (b0 b1 b2:Int):Nat→Prop
 | 1=>v<128∧b0=v
 | 2=>128≤v∧v<2048∧b0=192+v/64∧b1=128+v%64
 | 3=>2048≤v∧b0=224+v/4096∧b1=128+v/64%64∧b2=128+v%64
 | _=>False
theorem u8i_eq {n:Int} {b:UInt8} (h0:0≤n) (h1:n≤255):u8i n=b↔((b.toNat:Nat):Int)=n:=by
 unfold u8i
 rw [← UInt8.toNat_inj]
 have hb:=b.toNat_lt
 simp
 omega
theorem enc_take {s:List UInt8} {i:Nat} {v:Int} (h0:0≤v) (h1:v≤65535) (hi:1≤i) (hi3:i≤3) (hl:i≤s.length):enc17s v=s.take i↔bytesOf v (bA s 0) (bA s 1) (bA s 2) i:=by
 have e1:=tdiv_eq h0 (k:=64) (by omega)
 have e2:=tmod_eq (k:=64) h0
 have e3:=tdiv_eq h0 (k:=4096) (by omega)
 have e4:=tmod_eq (v:=v.tdiv 64) (k:=64) (by omega)
 unfold enc17s enc17
 match i,hi,hi3 with
 | 1,_,_ =>
  rw [take1 hl]
  unfold bytesOf bA
  split
  ·simp only [List.map_cons,List.map_nil,List.cons.injEq,and_true]
   rw [u8i_eq (by omega) (by omega)]; omega
  split<;>simp<;>omega
 | 2,_,_ =>
  rw [take2 hl]
  unfold bytesOf bA
  split
  ·simp; omega
  split
  ·simp only [List.map_cons,List.map_nil,List.cons.injEq,and_true]
   rw [u8i_eq (by omega) (by omega),u8i_eq (by omega) (by omega)]; omega
  simp; omega
 | 3,_,_ =>
  rw [take3 hl]
  unfold bytesOf bA
  split
  ·simp; omega
  split
  ·simp; omega
  simp only [List.map_cons,List.map_nil,List.cons.injEq,and_true]
  rw [u8i_eq (by omega) (by omega),u8i_eq (by omega) (by omega),u8i_eq (by omega) (by omega)]; omega
theorem hit_iff {s:List UInt8} {i:Nat} (hi:1≤i) (hi3:i≤3) (hl:i≤s.length):hit s i=true↔isChar (valN s i)=true∧bytesOf (valN s i) (bA s 0) (bA s 1) (bA s 2) i:=by
 unfold hit
 rw [Bool.and_eq_true,beq_iff_eq]
 constructor
 ·rintro ⟨h1,h2⟩
  have:=isChar_in h1
  exact ⟨h1,(enc_take (by omega) (by omega) hi hi3 hl).1 h2⟩
 rintro ⟨h1,h2⟩
 have:=isChar_in h1
 exact ⟨h1,(enc_take (by omega) (by omega) hi hi3 hl).2 h2⟩
theorem dec_hit {s:List UInt8} (hs:s≠[]) {i:Nat} (hi:1≤i) (hi3:i≤3) (hl:i≤s.length) (h:hit s i=true):((dec s).1:Int)=valN s i∧(dec s).2=i:=by
 obtain ⟨h1,h2⟩:=(hit_iff hi hi3 hl).1 h;rw [dec_eq hs]
 unfold isChar at h1
 simp only [Bool.and_eq_true,Bool.or_eq_true,decide_eq_true_eq] at h1
 unfold valN val12 bA at *
 have hu0:=(s.getD 0 0).toNat_lt
 have hu1:=(s.getD 1 0).toNat_lt
 have hu2:=(s.getD 2 0).toNat_lt
 generalize (s.getD 0 0).toNat=b0 at *;generalize (s.getD 1 0).toNat=b1 at *;generalize (s.getD 2 0).toNat=b2 at *;generalize (s.getD 3 0).toNat=b3 at *
 unfold decN
 match i,hi,hi3 with
 | 1,_,_ =>
  simp only [Nat.reduceEqDiff,if_false,if_true,bytesOf] at h1 h2 ⊢
  rw [if_pos (by omega)]; simp
 | 2,_,_ =>
  simp only [Nat.reduceEqDiff,if_false,if_true,bytesOf] at h1 h2 ⊢;rw [if_neg (by omega),if_pos (by omega),if_pos (by omega)]
  simp; omega
 | 3,_,_ =>
  simp only [Nat.reduceEqDiff,if_false,if_true,bytesOf] at h1 h2 ⊢;rw [if_neg (by omega),if_neg (by omega),if_pos (by omega),if_pos (by omega)]
  simp; omega
theorem hit_dec {s:List UInt8} (hs:s≠[]) (h:badAt s=false):(dec s).2≤3∧hit s (dec s).2=true∧((dec s).1:Int)=valN s (dec s).2:=by
 obtain ⟨h1,h2,h3,h4⟩:=decode_size s hs
 have hb:isChar ((dec s).1:Nat)=true∧¬ ((dec s).1=65533∧(dec s).2=1):=by
  unfold badAt at h
  simp only [Bool.or_eq_false_iff,Bool.not_eq_false',Bool.and_eq_false_iff,beq_eq_false_iff_ne] at h;exact ⟨h.1,by omega⟩
 obtain ⟨hc,hn⟩:=hb
 have hci:=isChar_in hc
 have key:(dec s).2≤3∧bytesOf ((dec s).1:Nat) (bA s 0) (bA s 1) (bA s 2) (dec s).2∧((dec s).1:Int)=valN s (dec s).2:=by
  unfold valN val12 bA
  rw [dec_eq hs] at *
  have hu0:=(s.getD 0 0).toNat_lt
  have hu1:=(s.getD 1 0).toNat_lt
  have hu2:=(s.getD 2 0).toNat_lt
  generalize (s.getD 0 0).toNat=b0 at *;generalize (s.getD 1 0).toNat=b1 at *;generalize (s.getD 2 0).toNat=b2 at *;generalize (s.getD 3 0).toNat=b3 at *
  unfold decN at *
  repeat' split
  all_goals simp_all [bytesOf]
  all_goals omega
 refine ⟨key.1,?_,key.2.2⟩;rw [hit_iff h1 key.1 h2,← key.2.2];exact ⟨hc,key.2.1⟩
theorem first_eq {s:List UInt8} (hs:s≠[]):first s=if badAt s then (0,0) else (((dec s).1:Int),((dec s).2:Int)):=by
 obtain ⟨h1,h2,h3,h4⟩:=decode_size s hs
 have hp:0<s.length:=List.length_pos_iff.2 hs
 cases hb:badAt s with
 | true =>
  rw [if_pos rfl]
  have hno:∀ m,1≤m→m<4→m≤s.length→hit s m=false:=fun m hm1 hm2 hml=>by
   rw [Bool.eq_false_iff]; intro hh
   obtain ⟨e1,e2⟩:=dec_hit hs hm1 (by omega) hml hh;obtain ⟨c1,c2⟩:=(hit_iff hm1 (by omega) hml).1 hh
   unfold badAt at hb
   simp only [Bool.or_eq_true,Bool.not_eq_true',Bool.and_eq_true,beq_iff_eq] at hb;rw [e1] at hb
   rcases hb with hb|⟨b1,b2⟩
   ·rw [hb] at c1; cases c1
   have hm:m=1:=by omega
   subst hm;simp only [bytesOf] at c2
   omega
  unfold first
  rw [if_neg,if_neg,if_neg]
  all_goals rintro ⟨g1,g2⟩
  ·rw [hno 3 (by omega) (by omega) g1] at g2; cases g2
  ·rw [hno 2 (by omega) (by omega) g1] at g2; cases g2
  rw [hno 1 (by omega) (by omega) g1] at g2; cases g2
 | false =>
  rw [if_neg (by simp)];obtain ⟨g1,g2,g3⟩:=hit_dec hs hb;rw [g3]
  refine first_hit h1 g1 h2 g2 fun m hm1 hm2=>?_
  rw [Bool.eq_false_iff]; intro hh
  have:=(dec_hit hs hm1 (by omega) (by omega) hh).2
  omega
theorem F114 (s:List UInt8) (hs:s.length<1000000000):DFun Tryz.prog W0 176 [.str s] (.tup [.sl .none 1 (encInts .i64 (chars s).1),Iv (chars s).2]):=by
 refine Fi Tryz.func176 rfl Tryz.ntmps176 fun Γ=>?_
 apply Sr;apply Sq;apply Sr;refine Cd _ rfl (fun hc=>?_) (fun hc=>?_)
 ·apply Sr;apply Rt;(conv=>whnf)
  have:chars s=([],7):=by rw [chars,if_pos (by simp at hc; omega)]
  rw [this];exact ⟨DLe.nil,.refl _,trivial⟩
 apply Sk;(conv=>whnf)
 have hs2:¬ 65536<s.length:=by simp at hc; omega
 apply Sr;apply Sq;refine Tri.own 4 1000 1 3 rfl (fun v=>?_);apply Bk
 refine Tri.loopK (α:={ x:List UInt8×List Int // charsP s=(charsP x.1).map (x.2++·)∧x.1.length+x.2.length≤s.length }×Value)
  (fun x=>[(0,.str x.1.1.1),(4,.sl (.own 1000 x.2) 1 (encInts .i64 x.1.1.2))]) (fun x=>[(1000,.own x.2 (encInts .i64 x.1.1.2).length 1 3)]) (fun x=>x.1.1.1.length) (⟨(s,[]),by simp,by simp⟩,v) [(1000,1000)]
  ⟨Z,rfl,Y⟩ ?_
 rintro ⟨⟨⟨r,acc⟩,hch,hlen⟩,v⟩;dsimp only at hch hlen ⊢;apply Sq;apply Sr;refine Cd _ rfl (fun hc=>?_) (fun hc=>?_)
 ·apply Sk;(conv=>whnf)
  have hr:r≠[]:=by intro e; subst e; simp at hc
  obtain ⟨hd1,hd2,hd3,hd4⟩:=decode_size r hr
  have hal:(encInts .i64 acc).length=acc.length:=by simp [encInts]
  have hfe:=first_eq hr
  apply Bk;apply Sr;(conv=>whnf);refine ⟨_,_,fun _=>F130 r (by omega),Z,?_⟩;apply Sq;apply Sr;refine Cd _ rfl (fun hc=>?_) (fun hc=>?_)
  ·apply Sr;apply Rt;(conv=>whnf)
   have hbad:badAt r=true:=by
    cases hb:badAt r with
    | true=>rfl
    | false=>rw [hb,if_neg (by simp)] at hfe; rw [hfe] at hc; simp at hc; omega
   have:chars s=([],3):=by rw [chars,if_neg hs2,hch,charsP_cons hr,if_pos hbad]; rfl
   rw [this];exact ⟨DLe.nil,.refl _,trivial⟩
  apply Sk;(conv=>whnf)
  have hbad:badAt r=false:=by
   cases hb:badAt r with
   | false=>rfl
   | true=>rw [hb,if_pos rfl] at hfe; rw [hfe] at hc; simp at hc
  rw [hbad,if_neg (by simp)] at hfe;apply Sr;(conv=>whnf);refine ⟨trivial,?_⟩;(conv=>whnf);refine ⟨rfl,rfl,?_⟩;(conv=>whnf)
  refine ⟨by show (_+1)*8≤_; omega,by show _+1≤_; omega,(fun h=>by cases h),fun v=>?_⟩
  apply Rg;(conv=>whnf)
  refine ⟨fun _=>by rw [hfe]; simp; omega,?_⟩
  conv=>whnf
  exact ⟨(⟨(r.drop (dec r).2,acc++[((dec r).1:Int)]),by rw [hch,charsP_cons hr,hbad]; simp [Function.comp_def],by simp; omega⟩,v),[(1000,23)],by show (r.drop (dec r).2).length<r.length; simp; omega,⟨DLe.of_eq (congrArg D.str (by rw [hfe]; simp)),DLe.ownEq (by rw [hfe]; simp [encInts]; rfl),trivial⟩,rfl,rfl,ownH (by simp [encInts]),trivial⟩
 refine Tri.exit ?_;apply Sr;apply Rt;(conv=>whnf)
 have hr:r=[]:=by simpa using hc
 subst hr
 have:chars s=(acc,0):=by rw [chars,if_neg hs2,hch]; simp [charsP,charsGo]
 rw [this];exact ⟨DLe.unown,.refl _,trivial⟩
def nameOk (s:List UInt8):Bool :=
 if s=[46]∨s=[46,46]∨(47:UInt8)∈s then false else (chars s).2==0&&(decide (1≤(chars s).1.length)&&decide ((chars s).1.length≤64))
theorem index_mem (c:UInt8):∀ s:List UInt8,decide (0≤Lib.indexByte s c)=decide (c∈s)
 | []=>by simp [Lib.indexByte]
 | b::l=>by
  have ih:=index_mem c l
  have hge:=Lib.indexByte_ge l c
  rw [decide_eq_decide] at ih ⊢
  unfold Lib.indexByte
  by_cases hb:b=c
  ·subst hb; simp
  rw [if_neg (by simpa using hb)]
  have:c∈b::l↔c∈l:=by simp [Ne.symm hb]
  rw [this,← ih]
  cases hm:Lib.indexByte l c==-1 with
  | true=>rw [if_pos rfl]; have:=eq_of_beq hm; omega
  | false => rw [if_neg (by simp)]; have : Lib.indexByte l c ≠ -1 := fun e => by rw [e] at hm; simp at hm
             omega
theorem F100 (hL:LibOk W0) (s:List UInt8) (hs:s.length<1000000000):DFun Tryz.prog W0 220 [.str s] (.bool (nameOk s)):=by
 refine Fi Tryz.func220 rfl Tryz.ntmps220 fun Γ=>?_
 apply Sr;apply Sq;apply Sr;apply Hh;refine Pk ?_;apply Hh;(conv=>whnf);refine ⟨_,_,fun h=>F119 s 47,Z,?_⟩;refine Pk ?_;(conv=>whnf)
 have hcc:(bif bif s==[46] then true else s==[46,46] then true else decide (0≤Lib.indexByte s 47))=decide (s=[46]∨s=[46,46]∨(47:UInt8)∈s):=by
  rw [index_mem]
  by_cases h1:s=[46]
  ·simp [h1]
  by_cases h2:s=[46,46]<;>simp [h1,h2]
 refine Cd _ rfl (fun hc=>?_) (fun hc=>?_)
 ·apply Sr;apply Rt;(conv=>whnf);exact DLe.of_eq (congrArg D.bool (by rw [nameOk,if_pos (of_decide_eq_true (hcc.symm.trans hc))]))
 apply Sk;apply Sr;(conv=>whnf);refine ⟨_,_,fun _=>F120 hL s hs,Z,?_⟩;apply Sr;apply Hh;apply Hh;refine Pk ?_;apply Hh;apply Hh;refine Pk ?_;apply Rt;(conv=>whnf);refine DLe.of_eq (congrArg D.bool ?_);rw [nameOk,if_neg (of_decide_eq_false (hcc.symm.trans hc))]
 have hlen:(encInts .i64 (chars s).1).length=(chars s).1.length:=by simp [encInts]
 rw [hlen]
 cases (chars s).2==0
 ·rfl
 by_cases h1:1≤(chars s).1.length<;>by_cases h2:(chars s).1.length≤64<;>simp [h1,h2]<;>omega
def splitG (c:UInt8):List UInt8→List UInt8→List (List UInt8)
 | p,[]=>[p]
 | p,b::r=>if b=c then p::splitG c [] r else splitG c (p++[b]) r
theorem splitG_no {c:UInt8}:∀ (s p:List UInt8),c∉s→splitG c p s=[p++s]
 | [],p,_=>by simp [splitG]
 | b::r,p,h=>by
  have hb:b≠c:=fun e=>h (by simp [e])
  have hr:c∉r:=fun e=>h (by simp [e])
  rw [splitG,if_neg hb,splitG_no r _ hr]; simp
theorem splitG_at {c:UInt8}:∀ (a p r:List UInt8),c∉a→splitG c p (a++c::r)=(p++a)::splitG c [] r
 | [],p,r,_=>by simp [splitG]
 | b::a,p,r,h=>by
  have hb:b≠c:=fun e=>h (by simp [e])
  have hr:c∉a:=fun e=>h (by simp [e])
  rw [List.cons_append,splitG,if_neg hb,splitG_at a _ r hr]; simp
theorem splitG_len {c:UInt8}:∀ (s p:List UInt8),(splitG c p s).length≤s.length+1∧∀ x∈splitG c p s,x.length≤p.length+s.length
 | [],p=>by simp [splitG]
 | b::r,p=>by
  have h1:=splitG_len (c:=c) r []
  have h2:=splitG_len (c:=c) r (p++[b])
  rw [splitG]
  split
  ·refine ⟨by simp; omega,fun x hx=>?_⟩
   rcases List.mem_cons.1 hx with rfl|hx
   ·simp
   have:=h1.2 x hx; simp at this ⊢; omega
  refine ⟨by simp at h2 ⊢; omega,fun x hx=>?_⟩
  have:=h2.2 x hx; simp at this ⊢; omega
theorem splitB_eq (c:UInt8):∀ (n:Nat) (s:List UInt8),s.length≤n→(Lib.splitB ⟨⟨[c]⟩⟩ 0 (Lib.countB ⟨⟨s⟩⟩ ⟨⟨[c]⟩⟩) ⟨⟨s⟩⟩).map (fun b=>b.data.toList)=splitG c [] s:=by
 intro n
 induction n with
 | zero =>
  intro s h
  have:s=[]:=List.eq_nil_of_length_eq_zero (by omega)
  subst this
  rw [Lib.countB_miss _ _ (by rfl)]; rfl
 | succ n ih =>
  intro s h
  have hix:Lib.indexB ⟨⟨s⟩⟩ ⟨⟨[c]⟩⟩=Lib.indexByte s c:=Lib.index_one s c
  have hge:=Lib.indexByte_ge s c
  by_cases hm:Lib.indexByte s c=-1
  ·have hno:c∉s:=fun hc=>by
    obtain ⟨k,hk⟩:=List.mem_iff_getElem?.1 hc;exact Lib.indexByte_none hm k hk
   rw [Lib.countB_miss _ _ (hix.trans hm),Lib.splitB_zero,splitG_no s [] hno]; rfl
  obtain ⟨i,hi⟩:∃ i:Nat,Lib.indexByte s c=i:=⟨(Lib.indexByte s c).toNat,by omega⟩;obtain ⟨h1,h2⟩:=Lib.indexByte_some hi
  have hil:i<s.length:=by
   rcases Nat.lt_or_ge i s.length with h|h
   ·exact h
   rw [List.getElem?_eq_none h] at h1; cases h1
  have hsz:(⟨⟨[c]⟩⟩:ByteArray).size=1:=rfl
  have hss:(⟨⟨s⟩⟩:ByteArray).size=s.length:=rfl
  have e0:s.take s.length=s:=List.take_length
  rw [Lib.countB_hit _ _ i (by rw [hsz]; omega) (hix.trans hi),Nat.add_comm 1,Lib.splitB_hit _ _ _ _ i (hix.trans hi),hsz,hss,bytes_extract,bytes_extract,e0]
  have hs:s=s.take i++c::s.drop (i+1):=by
   have:=List.getElem?_eq_some_iff.1 h1
   obtain ⟨_,he⟩:=this
   have h3:=List.drop_eq_getElem_cons hil
   rw [he] at h3;rw [← h3,List.take_append_drop]
  have hno:c∉s.take i:=fun hc=>by
   obtain ⟨k,hk⟩:=List.mem_iff_getElem?.1 hc;rw [List.getElem?_take] at hk
   split at hk
   ·rename_i hlt; exact h2 k hlt hk
   cases hk
  rw [List.map_cons,ih (s.drop (i+1)) (by simp; omega)]
  conv=>rhs; rw [hs,splitG_at _ _ _ hno]
  simp
def strs (l:List (List UInt8)):List D:=l.map D.str
theorem F121 (hL:LibOk W0) (s:List UInt8) (c:UInt8) (hs:s.length<1000000000):DFun Tryz.prog W0 299 [.str s,.str [c]] (.sl .full 1 (strs (splitG c [] s))):=by
 obtain ⟨m,hm⟩:=hL.maxlen
 have heq:=splitB_eq c s.length s (Nat.le_refl _)
 have hlen:=(splitG_len (c:=c) s []).1
 have hcl:Lib.countB ⟨⟨s⟩⟩ ⟨⟨[c]⟩⟩+1=(strs (splitG c [] s)).length:=by
  have:=Lib.splitB_all (⟨⟨[c]⟩⟩:ByteArray) (Nat.le_refl 1) 0 _ (⟨⟨s⟩⟩:ByteArray) rfl
  rw [← this,strs,List.length_map,← heq,List.length_map]
 have hcells:∀ x∈strs (splitG c [] s),x.cells=[x]:=fun x hx=>by obtain ⟨y,_,rfl⟩:=List.mem_map.1 hx; rfl
 have hval:(Lib.splitB ⟨⟨[c]⟩⟩ 0 (Lib.countB ⟨⟨s⟩⟩ ⟨⟨[c]⟩⟩) ⟨⟨s⟩⟩).map Value.string=(splitG c [] s).map fun x=>Value.string ⟨⟨x⟩⟩:=by
  rw [← heq,List.map_map]; rfl
 refine .newRow (us:=(splitG c [] s).map fun x=>Value.string ⟨⟨x⟩⟩) (e:=9) (callable Tryz.func299 rfl (by decide +kernel)) rfl (fun x hx=>by rw [hcells x hx]; rfl) (by simp only [strs,List.length_map,maxLen] at *; omega)
  (fun w C=>?_) (fun u hu=>by obtain ⟨y,_,rfl⟩:=List.mem_map.1 hu; rfl) fun w hb=>(Tryz.strings_Split ⟨⟨s⟩⟩ ⟨⟨[c]⟩⟩ m w (by show s.length<_; omega) (cell_base hb hm) (Nat.le_refl 1)).mono fun e w' ⟨he,hw⟩=>?_
 ·rw [flat_one hcells]
  exact ⟨by simp [strs],fun i d v hd hv=>by
   simp only [strs,List.getElem?_map] at hd hv
   cases hx:(splitG c [] s)[i]? with
   | none=>rw [hx] at hd; cases hd
   | some x=>rw [hx] at hd hv; cases hd; cases hv; exact .str _⟩
 rw [← hcl];exact ⟨he,by rw [hw,hval]⟩
def cutSlash (s:List UInt8):List UInt8:=match s with|b::r=>if b=47 then r else b::r|[]=>[]
theorem trim_slash (s:List UInt8):Lib.trimPrefix s [47]=cutSlash s:=by
 unfold Lib.trimPrefix Lib.hasPrefix cutSlash
 match s with
 | []=>rfl
 | b::r =>
  by_cases h:b=47
  ·simp [h,List.isPrefixOf]
  have h':¬ (47:UInt8)=b:=fun e=>h e.symm
  simp [h,h',List.isPrefixOf]
theorem cutSlash_len (s:List UInt8):(cutSlash s).length≤s.length:=by
 unfold cutSlash; split
 ·split<;>simp
 simp
def partOk (p:List UInt8):Bool:=p==[46]||(p==[46,46]||nameOk p)
def targetOk (s:List UInt8):Bool:=if s.length<1∨128<s.length then false else if s=[47] then true else (splitG 47 [] (cutSlash s)).all partOk
theorem all_false {α:Type} {q:α→Bool} {l:List α} {i:Nat} (h:i<l.length) (hq:q l[i]=false):l.all q=false:=by
 rw [Bool.eq_false_iff]; intro ha
 have:=List.all_eq_true.1 ha l[i] (List.getElem_mem h)
 rw [hq] at this; cases this
theorem all_true {α:Type} {q:α→Bool} {l:List α} {i:Nat} (h:¬ i<l.length) (hq:∀ j (hj:j<l.length),j<i→q l[j]=true):l.all q=true :=
 List.all_eq_true.2 fun x hx=>by
  obtain ⟨j,hj,rfl⟩:=List.mem_iff_getElem.1 hx;exact hq j hj (by omega)
theorem below_next {α:Type} {q:α→Bool} {l:List α} {i:Nat} {hi:i<l.length} (h:q l[i]=true) (hq:∀ j (hj:j<l.length),j<i→q l[j]=true):∀ j (hj:j<l.length),j<i+1→q l[j]=true:=fun j hj hlt =>
 (Nat.lt_succ_iff_lt_or_eq.1 hlt).elim (hq j hj) fun e=>by subst e; exact h
theorem part_cc (p:List UInt8):(bif (bif !(p==[46]) then !(p==[46,46]) else false) then !nameOk p else false)=!partOk p:=by
 unfold partOk; cases p==[46]<;>cases p==[46,46]<;>cases nameOk p<;>rfl
theorem F101 (hL:LibOk W0) (s:List UInt8) (hs:s.length<1000000000):DFun Tryz.prog W0 221 [.str s] (.bool (targetOk s)):=by
 refine Fi Tryz.func221 rfl Tryz.ntmps221 fun Γ=>?_
 apply Sr;apply Sq;apply Sr;apply Hh;apply Hh;refine Pk ?_;refine Cd _ rfl (fun hc=>?_) (fun hc=>?_)
 ·apply Sr;apply Rt;(conv=>whnf);refine DLe.of_eq (congrArg D.bool ?_);rw [targetOk,if_pos]
  by_cases h1:s.length<1
  ·exact .inl h1
  right; have h1':¬ (s.length:Int)<1:=by omega
  simp [h1'] at hc; omega
 apply Sk
 have h1:¬ (s.length<1∨128<s.length):=by
  by_cases h1:(s.length:Int)<1
  ·simp [h1] at hc
  simp [h1] at hc; omega
 apply Sq;apply Sr;refine Cd _ rfl (fun hc=>?_) (fun hc=>?_)
 ·apply Sr;apply Rt;(conv=>whnf);exact DLe.of_eq (congrArg D.bool (by rw [targetOk,if_neg h1,if_pos (by simpa using hc)]))
 apply Sk
 have h2:s≠[47]:=by simpa using hc
 have hT:targetOk s=(splitG 47 [] (cutSlash s)).all partOk:=by rw [targetOk,if_neg h1,if_neg h2]
 have hcl:=cutSlash_len s
 obtain ⟨hgl,hgp⟩:=splitG_len (c:=47) (cutSlash s) [];apply Sq;apply Sr;(conv=>whnf);refine ⟨_,_,fun _=>F122 s [47],Z,?_⟩;(conv=>whnf);refine ⟨[.str (cutSlash s),.str [47]],_,fun _=>F121 hL (cutSlash s) 47 (by omega),⟨DLe.of_eq (congrArg D.str (trim_slash s)),.refl _,trivial⟩,?_⟩;apply Bk
 refine Tri.loop (α:={ i:Nat // i≤(splitG 47 [] (cutSlash s)).length∧∀ j (h:j<(splitG 47 [] (cutSlash s)).length),j<i→partOk (splitG 47 [] (cutSlash s))[j]=true })
  (fun x=>[(17,.sl .full 1 (strs (splitG 47 [] (cutSlash s)))),(18,Iv (strs (splitG 47 [] (cutSlash s))).length),(19,Iv x.1)]) (fun _=>[]) (fun x=>(splitG 47 [] (cutSlash s)).length-x.1) ⟨0,by simp⟩ Z trivial ?_
 rintro ⟨i,hi,hp⟩;dsimp only;apply Sr;apply Sq;refine Cd _ rfl (fun hc=>?_) (fun hc=>?_)
 ·apply Sk;(conv=>whnf)
  have hia:i<(splitG 47 [] (cutSlash s)).length:=by simpa [strs] using hc
  have hpl:=hgp _ (List.getElem_mem hia)
  apply Sq;apply Bk;apply Sr;(conv=>whnf)
  refine ⟨fun _=>by simp [strs]; omega,?_⟩
  (conv=>whnf);refine ⟨.str (splitG 47 [] (cutSlash s))[i],fun _=>get_map _ hia,?_⟩;apply Sr;apply Hh;refine Pk ?_;apply Hh;(conv=>whnf)
  refine ⟨[.str (splitG 47 [] (cutSlash s))[i]],_,fun h=>F100 hL _ (by simp at hpl; omega),Z,?_⟩
  apply Hh;refine Pk ?_;(conv=>whnf)
  have hcc:=part_cc (splitG 47 [] (cutSlash s))[i]
  refine Cd _ rfl (fun hc=>?_) (fun hc=>?_)
  ·apply Sr;apply Rt;(conv=>whnf);exact DLe.of_eq (congrArg D.bool (by rw [hT,all_false hia (by simpa using hcc.symm.trans hc)]))
  apply Sk;apply Rg;refine Ir ?_;(conv=>whnf)
  exact ⟨⟨i+1,by omega,below_next (hi:=hia) (by simpa using hcc.symm.trans hc) hp⟩,by show _-(i+1)<_-i; omega,Z,trivial⟩
 refine Tri.exit ?_;apply Sr;apply Rt;(conv=>whnf);exact DLe.of_eq (congrArg D.bool (by rw [hT,all_true (by simpa [strs] using hc) hp]))
theorem nameOk_long {s:List UInt8} (h:300<s.length):nameOk s=false:=by
 unfold nameOk chars
 split
 ·rfl
 split
 ·rfl
 cases hp:charsP s with
 | none=>rfl
 | some l =>
  have:=charsP_len s.length s (Nat.le_refl _) l hp
  have h1:¬ l.length≤64:=by omega
  simp [h1]
theorem F94 (s:List UInt8) (hs:s.length<1000000000):DFun Tryz.prog W0 172 [.str s] (.bool (nameOk s)):=by
 refine Fi Tryz.func172 rfl Tryz.ntmps172 fun Γ=>?_
 apply Sr;apply Sq;apply Sr;apply Hh;refine Pk ?_;apply Hh;apply Hh;refine Pk ?_;(conv=>whnf)
 have hcc:(bif bif s==[46] then true else s==[46,46] then true else decide (300<(s.length:Int)))=decide (s=[46]∨s=[46,46]∨300<s.length):=by
  by_cases h1:s=[46]
  ·simp [h1]
  by_cases h2:s=[46,46]
  ·simp [h2]
  have e1:(s==[46])=false:=by simpa using h1
  have e2:(s==[46,46])=false:=by simpa using h2
  rw [e1,e2]; simp [h1,h2]; omega
 refine Cd _ rfl (fun hc=>?_) (fun hc=>?_)
 ·apply Sr;apply Rt;(conv=>whnf);refine DLe.of_eq (congrArg D.bool ?_)
  have:=of_decide_eq_true (hcc.symm.trans hc)
  by_cases h3:300<s.length
  ·rw [nameOk_long h3]
  rw [nameOk,if_pos (by rcases this with h|h|h; exact .inl h; exact .inr (.inl h); exact absurd h h3)]
 apply Sk
 have hn:=of_decide_eq_false (hcc.symm.trans hc)
 apply Sq;apply Sr;apply Bk;refine Tri.loop (α:={ i:Nat // i≤s.length∧∀ j (h:j<s.length),j<i→(s[j]!=47)=true }) (fun x=>[(0,.str s),(3,Iv x.1)]) (fun _=>[]) (fun x=>s.length-x.1) ⟨0,by simp⟩ Z trivial ?_;rintro ⟨i,hi,hp⟩;dsimp only;apply Sq;apply Sr;refine Cd _ rfl (fun hc=>?_) (fun hc=>?_)
 ·apply Sk
  have hia:i<s.length:=by simpa using hc
  apply Sq;apply Bk;apply Sr;(conv=>whnf);refine ⟨s[i],fun _=>⟨by omega,by simp [hia]⟩,?_⟩;(conv=>whnf)
  have hbe:=byte_eq s[i] 47 (by decide)
  refine Cd _ rfl (fun hc=>?_) (fun hc=>?_)
  ·apply Sr;apply Rt;(conv=>whnf);refine DLe.of_eq (congrArg D.bool ?_)
   have h47:s[i]=47:=by have:=hbe.symm.trans hc; simpa using this
   rw [nameOk,if_pos (.inr (.inr (h47 ▸ List.getElem_mem hia)))]
  apply Sk;apply Rg;refine Ir ?_;(conv=>whnf)
  exact ⟨⟨i+1,by omega,below_next (q:=fun b=>b !=47) (hi:=hia) (by have:=hbe.symm.trans hc; simpa [bne] using this) hp⟩,by show s.length-(i+1)<s.length-i; omega,Z,trivial⟩
 refine Tri.exit ?_;apply Sr;(conv=>whnf);refine ⟨_,_,fun _=>F114 s hs,Z,?_⟩;apply Sr;apply Hh;apply Hh;refine Pk ?_;apply Hh;apply Hh;refine Pk ?_;apply Rt;(conv=>whnf);refine DLe.of_eq (congrArg D.bool ?_)
 have hno:(47:UInt8)∉s:=fun h=>by
  have:=all_true (q:=fun b:UInt8=>b !=47) (by simpa using hc) hp
  have:=List.all_eq_true.1 this 47 h
  simp at this
 rw [nameOk,if_neg (by rintro (h|h|h); exact hn (.inl h); exact hn (.inr (.inl h)); exact hno h)]
 have hlen:(encInts .i64 (chars s).1).length=(chars s).1.length:=by simp [encInts]
 rw [hlen]
 cases (chars s).2==0
 ·rfl
 by_cases h1:1≤(chars s).1.length<;>by_cases h2:(chars s).1.length≤64<;>simp [h1,h2]<;>omega
theorem slice1 {s:List UInt8} {i:Nat} (h:i<s.length):(s.take (i+1)).drop i=[s[i]]:=by
 rw [List.take_add_one,List.getElem?_eq_getElem h];simp only [Option.toList_some]
 rw [List.drop_append_of_le_length (by simp; omega),List.drop_of_length_le (by simp; omega)]; rfl
theorem F44 (s:List UInt8) (c:UInt8) (hs:s.length<1000000000):DFun Tryz.prog W0 114 [.str s,.int .u8 c.toNat] (.sl .none 1 (strs (splitG c [] s))):=by
 refine Fi Tryz.func114 rfl Tryz.ntmps114 fun Γ=>?_
 apply Sr;apply Sr;(conv=>whnf);refine ⟨trivial,?_⟩;apply Sr;apply Sq;apply Sr;(conv=>whnf);refine Tri.own 5 1000 1 9 rfl (fun v=>?_);apply Bk
 refine Tri.loopK (α:={ x:Nat×List (List UInt8)×List UInt8 // x.1≤s.length∧splitG c [] s=x.2.1++splitG c x.2.2 (s.drop x.1)∧x.2.1.length+x.2.2.length≤x.1 }×Value)
  (fun x=>[(0,.str s),(1,.int .u8 c.toNat),(7,Iv x.1.1.1),(6,.str x.1.1.2.2),(5,.sl (.own 1000 x.2) 1 (strs x.1.1.2.1))]) (fun x=>[(1000,.own x.2 (strs x.1.1.2.1).length 1 9)]) (fun x=>s.length-x.1.1.1)
  (⟨(0,[],[]),by simp,by simp,by simp⟩,v) [(1000,1000)] ⟨Z,rfl,Y⟩ ?_
 rintro ⟨⟨⟨i,ws,part⟩,hi,hsp,hlen⟩,v⟩;dsimp only at hi hsp hlen ⊢;apply Sq;apply Sr;refine Cd _ rfl (fun hc=>?_) (fun hc=>?_)
 ·apply Sk;(conv=>whnf)
  have hia:i<s.length:=by simpa using hc
  have hwl:(strs ws).length=ws.length:=by simp [strs]
  have hdr:=List.drop_eq_getElem_cons hia
  apply Sq;apply Bk;apply Sr;(conv=>whnf);refine ⟨s[i],fun _=>⟨by omega,by simp [hia]⟩,?_⟩;(conv=>whnf)
  have hbe:(((s[i].toNat:Nat):Int)==(c.toNat:Nat))=(s[i]==c):=by
   rw [Bool.eq_iff_iff]; simp only [beq_iff_eq]
   constructor
   ·intro h; exact UInt8.toNat.inj (by omega)
   intro h; rw [h]
  refine Cd _ rfl (fun hc=>?_) (fun hc=>?_)
  ·apply Sr;(conv=>whnf);refine ⟨trivial,?_⟩;(conv=>whnf);refine ⟨rfl,rfl,?_⟩;(conv=>whnf)
   refine ⟨by show (_+1)*16≤_; omega,by show _+1≤_; omega,(fun h=>by cases h),fun v=>?_⟩
   apply Rg;apply Rg;refine Ir ?_;(conv=>whnf)
   have hsc:s[i]=c:=by simpa using hbe.symm.trans hc
   exact ⟨(⟨(i+1,ws++[part],[]),by omega,by rw [hsp,hdr,splitG,if_pos hsc]; simp,by simp; omega⟩,v),[(1000,23)],by show s.length-(i+1)<s.length-i; omega,⟨.refl _,.refl _,.refl _,.refl _,DLe.ownEq (by simp [strs]; rfl),trivial⟩,rfl,rfl,ownH (by simp [strs]),trivial⟩
  apply Rg;refine Ir ?_;(conv=>whnf);refine ⟨fun _=>by omega,?_⟩;(conv=>whnf);refine Sp ?_;apply Rg;refine Ir ?_;(conv=>whnf)
  have hsc:s[i]≠c:=by simpa using hbe.symm.trans hc
  have hs1:(s.take ((i:Int)+1).toNat).drop (i:Int).toNat=[s[i]]:=by
   rw [show ((i:Int)+1).toNat=i+1 by omega,Int.toNat_natCast]; exact slice1 hia
  exact ⟨(⟨(i+1,ws,part++[s[i]]),by omega,by rw [hsp,hdr,splitG,if_neg hsc],by simp; omega⟩,v),[(1000,1000)],by show s.length-(i+1)<s.length-i; omega,⟨.refl _,.refl _,.refl _,DLe.of_eq (congrArg D.str (by rw [hs1])),.refl _,trivial⟩,rfl,Y⟩
 refine Tri.exit ?_;apply Sr;(conv=>whnf);refine ⟨trivial,?_⟩;(conv=>whnf);refine ⟨rfl,rfl,?_⟩;(conv=>whnf)
 have hwl:(strs ws).length=ws.length:=by simp [strs]
 refine ⟨by show (_+1)*16≤_; omega,by show _+1≤_; omega,(fun h=>by cases h),fun v=>?_⟩
 apply Rt;(conv=>whnf)
 have hia:¬ i<s.length:=by simpa using hc
 rw [hsp,List.drop_of_length_le (by omega),splitG]
 exact DLe.trans (DLe.of_eq (congrArg (D.sl _ 1) (by simp [strs]; rfl))) DLe.unown
theorem F111 (s:List UInt8) (hs:s.length<1000000000):DFun Tryz.prog W0 301 [.str s] (.bool (targetOk s)):=by
 refine Fi Tryz.func301 rfl Tryz.ntmps301 fun Γ=>?_
 apply Sr;apply Sq;apply Sr;apply Hh;apply Hh;refine Pk ?_;refine Cd _ rfl (fun hc=>?_) (fun hc=>?_)
 ·apply Sr;apply Rt;(conv=>whnf);refine DLe.of_eq (congrArg D.bool ?_);rw [targetOk,if_pos]
  by_cases h1:s.length<1
  ·exact .inl h1
  right; have h1':¬ (s.length:Int)<1:=by omega
  simp [h1'] at hc; omega
 apply Sk
 have h1:¬ (s.length<1∨128<s.length):=by
  by_cases h1:(s.length:Int)<1
  ·simp [h1] at hc
  simp [h1] at hc; omega
 apply Sq;apply Sr;refine Cd _ rfl (fun hc=>?_) (fun hc=>?_)
 ·apply Sr;apply Rt;(conv=>whnf);exact DLe.of_eq (congrArg D.bool (by rw [targetOk,if_neg h1,if_pos (by simpa using hc)]))
 apply Sk
 have h2:s≠[47]:=by simpa using hc
 have hT:targetOk s=(splitG 47 [] (cutSlash s)).all partOk:=by rw [targetOk,if_neg h1,if_neg h2]
 have hcl:=cutSlash_len s
 obtain ⟨hgl,hgp⟩:=splitG_len (c:=47) (cutSlash s) [];(conv=>whnf);refine Tri.joinK (α:=Unit) (fun x=>[(0,.str (cutSlash s))]) (fun x=>[]) ?_ ?_
 ·apply Sr;(conv=>whnf);refine ⟨s.getD 0 0,fun _=>⟨by omega,bA_get s (by omega)⟩,?_⟩;(conv=>whnf)
  have hbe:=byte_eq (s.getD 0 0) 47 (by decide)
  refine Cd _ rfl (fun hc=>?_) (fun hc=>?_)
  ·apply Rg;(conv=>whnf);refine Sp ?_;(conv=>whnf)
   have hcs:cutSlash s=(s.take (s.length:Int).toNat).drop (1:Int).toNat:=by
    have h47:s.getD 0 0=47:=by simpa using hbe.symm.trans hc
    rw [Int.toNat_natCast,List.take_length,show (1:Int).toNat=1 from rfl]
    cases s with
    | nil=>simp at h1
    | cons b r=>simp at h47; simp [cutSlash,h47]
   exact ⟨(),[],⟨DLe.of_eq (congrArg D.str hcs.symm),trivial⟩,rfl,trivial⟩
  apply Sk;(conv=>whnf)
  have hcs:cutSlash s=s:=by
   have h47:s.getD 0 0≠47:=by simpa using hbe.symm.trans hc
   cases s with
   | nil=>rfl
   | cons b r=>simp at h47; simp [cutSlash,h47]
  exact ⟨(),[],⟨DLe.of_eq (congrArg D.str hcs.symm),trivial⟩,rfl,trivial⟩
 rintro ⟨⟩;apply Sr;(conv=>whnf);refine ⟨[.str (cutSlash s),.int .u8 (47:UInt8).toNat],_,fun _=>F44 _ 47 (by omega),Z,?_⟩;apply Sq;apply Sr;apply Bk
 refine Tri.loop (α:={ i:Nat // i≤(splitG 47 [] (cutSlash s)).length∧∀ j (h:j<(splitG 47 [] (cutSlash s)).length),j<i→partOk (splitG 47 [] (cutSlash s))[j]=true })
  (fun x=>[(3,.sl .none 1 (strs (splitG 47 [] (cutSlash s)))),(4,Iv x.1)]) (fun _=>[]) (fun x=>(splitG 47 [] (cutSlash s)).length-x.1) ⟨0,by simp⟩ Z trivial ?_
 rintro ⟨i,hi,hp⟩;dsimp only;apply Sq;apply Sr;refine Cd _ rfl (fun hc=>?_) (fun hc=>?_)
 ·apply Sk
  have hia:i<(splitG 47 [] (cutSlash s)).length:=by simpa [strs] using hc
  have hpl:=hgp _ (List.getElem_mem hia)
  apply Sq;apply Bk;apply Sr;(conv=>whnf)
  refine ⟨fun _=>by simp [strs]; omega,?_⟩
  (conv=>whnf);refine ⟨.str (splitG 47 [] (cutSlash s))[i],fun _=>get_map _ hia,?_⟩;apply Hh;apply Hh;(conv=>whnf)
  refine ⟨fun _=>by simp [strs]; omega,?_⟩
  apply Hh;(conv=>whnf);refine ⟨.str (splitG 47 [] (cutSlash s))[i],fun _=>get_map _ hia,?_⟩;apply Hh;refine Pk ?_;apply Hh;apply Hh;(conv=>whnf)
  refine ⟨fun _=>by simp [strs]; omega,?_⟩
  apply Hh;(conv=>whnf);refine ⟨.str (splitG 47 [] (cutSlash s))[i],fun _=>get_map _ hia,?_⟩;apply Hh;(conv=>whnf)
  refine ⟨[.str (splitG 47 [] (cutSlash s))[i]],_,fun h=>F94 _ (by simp at hpl; omega),Z,?_⟩
  apply Hh;refine Pk ?_;(conv=>whnf)
  have hcc:=part_cc (splitG 47 [] (cutSlash s))[i]
  refine Cd _ rfl (fun hc=>?_) (fun hc=>?_)
  ·apply Sr;apply Rt;(conv=>whnf);exact DLe.of_eq (congrArg D.bool (by rw [hT,all_false hia (by simpa using hcc.symm.trans hc)]))
  apply Sk;apply Rg;refine Ir ?_;(conv=>whnf)
  exact ⟨⟨i+1,by omega,below_next (hi:=hia) (by simpa using hcc.symm.trans hc) hp⟩,by show _-(i+1)<_-i; omega,Z,trivial⟩
 refine Tri.exit ?_;apply Sr;apply Rt;(conv=>whnf);exact DLe.of_eq (congrArg D.bool (by rw [hT,all_true (by simpa [strs] using hc) hp]))
theorem bif_or (a b:Bool):(bif a then true else b)=(a||b):=by cases a<;>rfl
theorem bif_and (a b:Bool):(bif a then b else false)=(a&&b):=by cases a<;>rfl
def firstNZ (f:Nat→Int):Nat→Nat→Int
 | _,0=>0
 | i,k+1=>if f i=0 then firstNZ f (i+1) k else f i
theorem nz_hit {f:Nat→Int} {i n:Nat} (h:i<n) (hf:f i≠0):firstNZ f i (n-i)=f i:=by
 obtain ⟨k,hk⟩:∃ k,n-i=k+1:=⟨n-i-1,by omega⟩;rw [hk,firstNZ,if_neg hf]
theorem nz_miss {f:Nat→Int} {i n:Nat} (h:i<n) (hf:f i=0):firstNZ f i (n-i)=firstNZ f (i+1) (n-(i+1)):=by
 obtain ⟨k,hk⟩:∃ k,n-i=k+1:=⟨n-i-1,by omega⟩;rw [hk,firstNZ,if_pos hf,show n-(i+1)=k by omega]
theorem nz_end {f:Nat→Int} {i n:Nat} (h:¬ i<n):firstNZ f i (n-i)=0:=by rw [show n-i=0 by omega]; rfl
def ruleD (n:NV) (l:Int):D:=.agg [.str n.name,Iv n.kind,.str n.text,.str n.target,Iv n.n1,Iv n.n2,Iv n.n3,Iv n.n4,Iv n.n5,Iv n.n6,.sl .none 12 (n.kids.map enc),.sl .none 2 (n.streams.map encS),Iv l]
def cKind (n:NV) (l:Int):Bool:=(decide (n.kind<0)||decide (2<n.kind))||(l==1&&!(n.kind==0))
def rKind (n:NV) (l:Int):Int:=if cKind n l then 1 else 0
theorem F78 (n:NV) (l:Int):DFun Tryz.prog W0 137 [ruleD n l] (Iv (rKind n l)):=by
 refine Fi Tryz.func137 rfl Tryz.ntmps137 fun Γ=>?_
 apply Sr;(conv=>whnf);intro b;apply Sq;apply Sr;apply Rl;apply Hh;apply Hh;apply Rl;apply Hh;refine Pk ?_;apply Hh;apply Rl;apply Hh;apply Hh;apply Hh;apply Hh;apply Rl;apply Hh;apply Hh;refine Pk ?_;refine Pk ?_
 refine Cd (cKind n l) (by simp only [cKind,← bif_or,← bif_and]; rfl) (fun hc=>?_) (fun hc=>?_)
 ·apply Sr;apply Rt;(conv=>whnf)
  exact intDLe (by rw [rKind,hc]; rfl)
 apply Sk;apply Sr;apply Rt;(conv=>whnf)
 exact intDLe (by rw [rKind,hc]; rfl)
def cName (n:NV) (l:Int):Bool:=(l==1&&!(n.name==[]))||(decide (1<l)&&!nameOk n.name)
def rName (n:NV) (l:Int):Int:=if cName n l then 4 else 0
theorem F79 (hL:LibOk W0) (n:NV) (l:Int) (hn:n.name.length<1000000000):DFun Tryz.prog W0 138 [ruleD n l] (Iv (rName n l)):=by
 refine Fi Tryz.func138 rfl Tryz.ntmps138 fun Γ=>?_
 apply Sr;(conv=>whnf);intro b;apply Sq;apply Sr;apply Rl;apply Hh;apply Hh;apply Rl;apply Hh;refine Pk ?_;apply Hh;apply Rl;apply Hh;apply Hh;apply Hh;apply Hh;apply Rl;apply Hh;(conv=>whnf);refine ⟨[.str n.name],_,fun h=>F100 hL _ hn,Z,?_⟩;apply Hh;apply Hh;refine Pk ?_;refine Pk ?_
 refine Cd (cName n l) (by simp only [cName,← bif_or,← bif_and]; rfl) (fun hc=>?_) (fun hc=>?_)
 ·apply Sr;apply Rt;(conv=>whnf)
  exact intDLe (by rw [rName,hc]; rfl)
 apply Sk;apply Sr;apply Rt;(conv=>whnf)
 exact intDLe (by rw [rName,hc]; rfl)
def cParts (n:NV):Bool:=((!(n.kind==1)&&(!(n.text==[])||decide (0<(n.streams.length:Int))))||(!(n.kind==2)&&!(n.target==[])))||(!(n.kind==0)&&decide (0<(n.kids.length:Int)))
def rParts (n:NV):Int:=if cParts n then 1 else 0
theorem F80 (n:NV) (l:Int):DFun Tryz.prog W0 139 [ruleD n l] (Iv (rParts n)):=by
 refine Fi Tryz.func139 rfl Tryz.ntmps139 fun Γ=>?_
 apply Sr;(conv=>whnf);intro b;apply Sr;apply Rl;(conv=>whnf);intro b2;apply Rl;apply Sq;apply Sr;apply Rl;apply Hh;apply Rl;apply Hh;apply Hh;apply Hh;apply Rl;apply Hh;apply Hh;apply Hh;refine Pk ?_;refine Pk ?_;apply Hh;apply Rl;apply Hh;apply Hh;apply Hh;apply Rl;apply Hh;apply Hh;refine Pk ?_;refine Pk ?_;apply Hh;apply Rl;apply Hh;apply Hh;apply Hh;apply Rl;apply Hh;apply Hh;apply Hh;refine Pk ?_;refine Pk ?_;refine Cd (cParts n) ?_ (fun hc=>?_) (fun hc=>?_)
 ·simp only [cParts,← bif_or,← bif_and]
  rw [show n.streams.length=(n.streams.map encS).length by simp,show n.kids.length=(n.kids.map enc).length by simp]; rfl
 ·apply Sr;apply Rt;(conv=>whnf)
  exact intDLe (by rw [rParts,hc]; rfl)
 apply Sk;apply Sr;apply Rt;(conv=>whnf)
 exact intDLe (by rw [rParts,hc]; rfl)
def cTarget (n:NV):Bool:=n.kind==2&&!targetOk n.target
def rTarget (n:NV):Int:=if cTarget n then 4 else 0
theorem F81 (hL:LibOk W0) (n:NV) (l:Int) (hn:n.target.length<1000000000):DFun Tryz.prog W0 140 [ruleD n l] (Iv (rTarget n)):=by
 refine Fi Tryz.func140 rfl Tryz.ntmps140 fun Γ=>?_
 apply Sr;(conv=>whnf);intro b;apply Sq;apply Sr;apply Rl;apply Hh;apply Hh;apply Rl;apply Hh;(conv=>whnf);refine ⟨[.str n.target],_,fun h=>F101 hL _ hn,Z,?_⟩;apply Hh;refine Pk ?_
 refine Cd (cTarget n) (by simp only [cTarget,← bif_or,← bif_and]; rfl) (fun hc=>?_) (fun hc=>?_)
 ·apply Sr;apply Rt;(conv=>whnf)
  exact intDLe (by rw [rTarget,hc]; rfl)
 apply Sk;apply Sr;apply Rt;(conv=>whnf)
 exact intDLe (by rw [rTarget,hc]; rfl)
def within (n a b:Int):Bool:=decide (a≤n)&&decide (n≤b)
theorem F102 (n a b:Int):DFun Tryz.prog W0 222 [Iv n,Iv a,Iv b] (.bool (within n a b)):=by
 refine Fi Tryz.func222 rfl Tryz.ntmps222 fun Γ=>?_
 apply Sr;apply Sr;apply Hh;apply Hh;refine Pk ?_;apply Rt;(conv=>whnf);exact DLe.of_eq (congrArg D.bool (bif_and _ _))
def cNumbers (n:NV):Bool:=((((!within n.n1 0 4095||!within n.n2 0 65535)||!within n.n3 0 65535)||!within n.n4 315532800 4102444799)||!within n.n5 (-1048576) 1048576)||!within n.n6 0 15
def rNumbers (n:NV):Int:=if cNumbers n then 2 else 0
theorem F82 (n:NV) (l:Int):DFun Tryz.prog W0 141 [ruleD n l] (Iv (rNumbers n)):=by
 refine Fi Tryz.func141 rfl Tryz.ntmps141 fun Γ=>?_
 apply Sr;(conv=>whnf);intro b;apply Sr;apply Rl;(conv=>whnf);intro b2;apply Rl;apply Sr;apply Sq;apply Sr;apply Rl;(conv=>whnf);refine ⟨[Iv n.n1,Iv 0,Iv 4095],_,fun h=>F102 _ _ _,Z,?_⟩;apply Hh;apply Rl;apply Hh;apply Hh;(conv=>whnf);refine ⟨[Iv n.n2,Iv 0,Iv 65535],_,fun h=>F102 _ _ _,Z,?_⟩;apply Hh;refine Pk ?_;apply Hh;apply Rl;apply Hh;apply Hh;(conv=>whnf);refine ⟨[Iv n.n3,Iv 0,Iv 65535],_,fun h=>F102 _ _ _,Z,?_⟩;apply Hh;refine Pk ?_;apply Hh;apply Rl;apply Hh;apply Hh;(conv=>whnf);refine ⟨[Iv n.n4,Iv 315532800,Iv 4102444799],_,fun h=>F102 _ _ _,Z,?_⟩;apply Hh;refine Pk ?_;apply Hh;apply Rl;apply Hh;apply Hh;(conv=>whnf);refine ⟨[Iv n.n5,Iv (-1048576),Iv 1048576],_,fun h=>F102 _ _ _,Z,?_⟩;apply Hh;refine Pk ?_;apply Hh;apply Rl;apply Hh;apply Hh;(conv=>whnf);refine ⟨[Iv n.n6,Iv 0,Iv 15],_,fun h=>F102 _ _ _,Z,?_⟩;apply Hh;refine Pk ?_
 refine Cd (cNumbers n) (by simp only [cNumbers,← bif_or]; rfl) (fun hc=>?_) (fun hc=>?_)
 ·apply Sr;apply Rt;(conv=>whnf)
  exact intDLe (by rw [rNumbers,hc]; rfl)
 apply Sk;apply Sr;apply Rt;(conv=>whnf)
 exact intDLe (by rw [rNumbers,hc]; rfl)
theorem F112 (n:NV):DFun Tryz.prog W0 302 [encTop n] (.bool (!cNumbers n)):=by
 refine Fi Tryz.func302 rfl Tryz.ntmps302 fun Γ=>?_
 apply Sr;(conv=>whnf);intro b;apply Sr;apply Rl;apply Hh;apply Rl;apply Hh;refine Pk ?_;apply Hh;apply Rl;apply Hh;refine Pk ?_;apply Hh;apply Rl;apply Hh;refine Pk ?_;apply Hh;apply Rl;apply Hh;refine Pk ?_;apply Hh;apply Rl;apply Hh;refine Pk ?_;apply Hh;apply Rl;apply Hh;refine Pk ?_;apply Hh;apply Rl;apply Hh;refine Pk ?_;apply Hh;apply Rl;apply Hh;refine Pk ?_;apply Hh;apply Rl;apply Hh;refine Pk ?_;apply Hh;apply Rl;apply Hh;refine Pk ?_;apply Hh;apply Rl;apply Hh;refine Pk ?_;apply Rt;(conv=>whnf);refine DLe.of_eq (congrArg D.bool ?_);simp only [cNumbers,within,Bool.not_or,Bool.not_not,← bif_and];simp only [bif_and,Bool.and_assoc]
theorem cmp_zero:∀ a b:List UInt8,Lib.compareBytes a b=0↔a=b
 | [],[]=>by simp [Lib.compareBytes]
 | [],_::_=>by simp [Lib.compareBytes]
 | _::_,[]=>by simp [Lib.compareBytes]
 | a::xs,b::bs=>by
  have ih:=cmp_zero xs bs
  simp only [Lib.compareBytes,List.cons.injEq]
  by_cases h1:a<b
  ·rw [if_pos h1]
   exact ⟨fun h=>by simp at h,fun h=>by rw [h.1] at h1; exact absurd h1 (UInt8.lt_irrefl _)⟩
  rw [if_neg h1]
  by_cases h2:b<a
  ·rw [if_pos h2]
   exact ⟨fun h=>by simp at h,fun h=>by rw [h.1] at h2; exact absurd h2 (UInt8.lt_irrefl _)⟩
  rw [if_neg h2,ih]
  have:a=b:=UInt8.le_antisymm (UInt8.not_lt.1 h2) (UInt8.not_lt.1 h1)
  simp [this]
theorem cmp_one:∀ a b:List UInt8,Lib.compareBytes a b=1↔Op.bytesLess b a=true
 | [],[]=>by simp [Lib.compareBytes,Op.bytesLess]
 | [],_::_=>by simp [Lib.compareBytes,Op.bytesLess]
 | _::_,[]=>by simp [Lib.compareBytes,Op.bytesLess]
 | a::xs,b::bs=>by
  have ih:=cmp_one xs bs
  simp only [Lib.compareBytes,Op.bytesLess,Bool.or_eq_true,Bool.and_eq_true,decide_eq_true_eq,beq_iff_eq]
  by_cases h1:a<b
  ·rw [if_pos h1];refine ⟨fun h=>by simp at h,fun h=>?_⟩
   rcases h with h|⟨h,_⟩
   ·exact absurd (UInt8.lt_trans h h1) (UInt8.lt_irrefl _)
   rw [h] at h1; exact absurd h1 (UInt8.lt_irrefl _)
  rw [if_neg h1]
  by_cases h2:b<a
  ·rw [if_pos h2]; simp [h2]
  rw [if_neg h2,ih]
  have:b=a:=UInt8.le_antisymm (UInt8.not_lt.1 h1) (UInt8.not_lt.1 h2)
  simp [this,UInt8.lt_irrefl]
def ordE (a b:List UInt8):Int:=if a=b then 5 else if Op.bytesLess b a then 1 else 0
theorem F103 (a b:List UInt8):DFun Tryz.prog W0 223 [.str a,.str b] (Iv (ordE a b)):=by
 refine Fi Tryz.func223 rfl Tryz.ntmps223 fun Γ=>?_
 apply Sr;apply Sq;apply Sr;(conv=>whnf);refine ⟨_,_,fun _=>F110 a b,Z,?_⟩;apply Bk;apply Sr;refine Cd _ rfl (fun hc=>?_) (fun hc=>?_)
 ·apply Sr;apply Rt;(conv=>whnf);exact intDLe (by rw [ordE,if_pos ((cmp_zero a b).1 (by simpa using hc))])
 apply Sq
 have h0:a≠b:=fun e=>by have:=(cmp_zero a b).2 e; rw [this] at hc; simp at hc
 apply Rg;refine Cd _ rfl (fun hc=>?_) (fun hc=>?_)
 ·apply Sr;apply Rt;(conv=>whnf);exact intDLe (by rw [ordE,if_neg h0,if_pos ((cmp_one a b).1 (by simpa using hc))])
 apply Sk;apply Sr;apply Rt;(conv=>whnf)
 exact intDLe (by rw [ordE,if_neg h0,if_neg]; intro e; have:=(cmp_one a b).2 e; rw [this] at hc; simp at hc)
def stAt (n:NV) (i:Nat):SV:=n.streams.getD i default
def kAt (n:NV) (i:Nat):NV:=n.kids.getD i default
theorem get_st (n:NV) {i:Nat} (h:i<n.streams.length):(n.streams.map encS)[i]? = some (encS (stAt n i)):=by simp [stAt,List.getD,h]
theorem get_kk (n:NV) {i:Nat} (h:i<n.kids.length):(n.kids.map enc)[i]? = some (encTop (kAt n i)):=by rw [← enc_eq]; simp [kAt,List.getD,h]
theorem pred_toNat {i:Nat} (h:0<i):((i:Int)-1).toNat=i-1:=by omega
theorem st_sz (n:NV) {i:Nat} (h:i<n.streams.length):(stAt n i).name.length+(stAt n i).target.length+2≤sz n:=by
 have h1:=szS_get h
 have h2:=sz_eq n
 have:stAt n i=n.streams[i]:=by simp [stAt,List.getD,h]
 rw [this]; omega
theorem streams_len (n:NV):2*n.streams.length+2≤sz n:=by have:=szS_len n.streams; have:=sz_eq n; omega
def cSizes (n:NV) (l:Int):Bool:=((decide (16<l)||decide (262144<(n.text.length:Int)))||decide (64<(n.kids.length:Int)))||decide (4<(n.streams.length:Int))
def fZ (n:NV) (i:Nat):Int:=if decide (262144<((stAt n i).target.length:Int)) then 7 else 0
def rSizes (n:NV) (l:Int):Int:=if cSizes n l then 7 else firstNZ (fZ n) 0 n.streams.length
theorem F83 (n:NV) (l:Int) (hz:sz n<1000000000):DFun Tryz.prog W0 142 [ruleD n l] (Iv (rSizes n l)):=by
 refine Fi Tryz.func142 rfl Tryz.ntmps142 fun Γ=>?_
 apply Sr;(conv=>whnf);intro b;apply Sr;apply Rl;(conv=>whnf);intro b2;apply Rl;apply Sq;apply Sr;apply Rl;apply Hh;apply Rl;apply Hh;apply Hh;refine Pk ?_;apply Hh;apply Rl;apply Hh;apply Hh;refine Pk ?_;apply Hh;apply Rl;apply Hh;apply Hh;refine Pk ?_;refine Cd (cSizes n l) ?_ (fun hc=>?_) (fun hc=>?_)
 ·simp only [cSizes,← bif_or,← bif_and]
  rw [show n.streams.length=(n.streams.map encS).length by simp,show n.kids.length=(n.kids.map enc).length by simp]; rfl
 ·apply Sr;apply Rt;(conv=>whnf)
  exact intDLe (by rw [rSizes,hc]; rfl)
 apply Sk
 have hR:rSizes n l=firstNZ (fZ n) 0 (n.streams.length-0):=by rw [rSizes,hc]; rfl
 have hsl:=streams_len n
 apply Sq;apply Sr;apply Rl;apply Bk;refine Tri.loop (α:={ i:Nat // i≤n.streams.length∧rSizes n l=firstNZ (fZ n) i (n.streams.length-i) }) (fun x=>[(30,.sl .none 2 (n.streams.map encS)),(31,Iv (n.streams.map encS).length),(32,Iv x.1)]) (fun _=>[]) (fun x=>n.streams.length-x.1) ⟨0,by omega,hR⟩ Z trivial ?_;rintro ⟨i,hi,hp⟩;dsimp only;apply Sr;apply Sq;refine Cd _ rfl (fun hc=>?_) (fun hc=>?_)
 ·apply Sk;(conv=>whnf)
  have hia:i<n.streams.length:=by simpa using hc
  apply Sq;apply Bk;apply Sr;(conv=>whnf);refine Sp ?_;(conv=>whnf);refine ⟨encS (stAt n i),fun _=>get_st n hia,?_⟩;(conv=>whnf);intro b3;apply Rl;apply Sr;apply Rl;refine Cd _ rfl (fun hc=>?_) (fun hc=>?_)
  ·apply Sr;apply Rt;(conv=>whnf)
   have hf:fZ n i=7:=by rw [fZ,if_pos hc]
   exact intDLe (by rw [hp,nz_hit hia (by rw [hf]; decide),hf])
  apply Sk;apply Rg;refine Ir ?_;(conv=>whnf)
  exact ⟨⟨i+1,by omega,by rw [hp,nz_miss hia (by rw [fZ,hc]; rfl)]⟩,by show _-(i+1)<_-i; omega,Z,trivial⟩
 refine Tri.exit ?_;apply Sr;apply Rt;(conv=>whnf);exact intDLe (by rw [hp,nz_end (by simpa using hc)])
theorem F113 (n:NV) (l:Int) (hz:sz n<1000000000):DFun Tryz.prog W0 303 [encTop n,Iv l] (.bool (!(rSizes n l==0))):=by
 refine Fi Tryz.func303 rfl Tryz.ntmps303 fun Γ=>?_
 apply Sr;(conv=>whnf);intro b;apply Sq;apply Sr;apply Hh;apply Rl;apply Hh;apply Hh;refine Pk ?_;apply Hh;apply Rl;apply Hh;apply Hh;refine Pk ?_;apply Hh;apply Rl;apply Hh;apply Hh;refine Pk ?_;refine Cd (cSizes n l) ?_ (fun hc=>?_) (fun hc=>?_)
 ·simp only [cSizes,← bif_or,← bif_and]
  rw [show n.streams.length=(n.streams.map encS).length by simp,show n.kids.length=(n.kids.map enc).length by simp]; rfl
 ·apply Sr;apply Rt;(conv=>whnf)
  exact DLe.of_eq (congrArg D.bool (by rw [rSizes,hc]; rfl))
 apply Sk
 have hR:rSizes n l=firstNZ (fZ n) 0 (n.streams.length-0):=by rw [rSizes,hc]; rfl
 have hsl:=streams_len n
 apply Sq;apply Sr;apply Bk;refine Tri.loop (α:={ i:Nat // i≤n.streams.length∧rSizes n l=firstNZ (fZ n) i (n.streams.length-i) }) (fun x=>[(2,.box 2 b 0),(5,Iv x.1)]) (fun _=>[(2,.box b [.str n.name,Iv n.kind,.str n.text,.str n.target,Iv n.n1,Iv n.n2,Iv n.n3,Iv n.n4,Iv n.n5,Iv n.n6,.sl .none 12 (n.kids.map enc),.sl .none 2 (n.streams.map encS)])]) (fun x=>n.streams.length-x.1) ⟨0,by omega,hR⟩ Z ⟨rfl,trivial⟩ ?_;rintro ⟨i,hi,hp⟩;dsimp only;apply Sq;apply Sr;apply Rl;refine Cd _ rfl (fun hc=>?_) (fun hc=>?_)
 ·apply Sk;(conv=>whnf)
  have hia:i<n.streams.length:=by simpa using hc
  apply Sq;apply Bk;apply Sr;apply Rl;(conv=>whnf);refine Sp ?_;(conv=>whnf);refine ⟨encS (stAt n i),fun _=>get_st n hia,?_⟩;refine Cd _ rfl (fun hc=>?_) (fun hc=>?_)
  ·apply Sr;apply Rt;(conv=>whnf)
   have hf:fZ n i=7:=by rw [fZ,if_pos hc]
   exact DLe.of_eq (congrArg D.bool (by rw [hp,nz_hit hia (by rw [hf]; decide),hf]; rfl))
  apply Sk;apply Rg;refine Ir ?_;(conv=>whnf)
  exact ⟨⟨i+1,by omega,by rw [hp,nz_miss hia (by rw [fZ,hc]; rfl)]⟩,by show _-(i+1)<_-i; omega,Z,⟨rfl,trivial⟩⟩
 refine Tri.exit ?_;apply Sr;apply Rt;(conv=>whnf)
 exact DLe.of_eq (congrArg D.bool (by rw [hp,nz_end (by simpa using hc)]; rfl))
def fS (n:NV) (i:Nat):Int:=if nameOk (stAt n i).name then (if 0<i then ordE (stAt n (i-1)).name (stAt n i).name else 0) else 4
def rStreams (n:NV):Int:=firstNZ (fS n) 0 n.streams.length
theorem F84 (hL:LibOk W0) (n:NV) (l:Int) (hz:sz n<1000000000):DFun Tryz.prog W0 143 [ruleD n l] (Iv (rStreams n)):=by
 refine Fi Tryz.func143 rfl Tryz.ntmps143 fun Γ=>?_
 apply Sr;(conv=>whnf);intro b;apply Sq;apply Sr;apply Rl;(conv=>whnf)
 have hsl:=streams_len n
 apply Bk
 refine Tri.loop (α:={ i:Nat // i≤n.streams.length∧rStreams n=firstNZ (fS n) i (n.streams.length-i) }) (fun x=>[(1,.box 1 b 0),(8,.sl .none 2 (n.streams.map encS)),(9,Iv (n.streams.map encS).length),(10,Iv x.1)])
  (fun _=>[(1,.box b [.str n.name,Iv n.kind,.str n.text,.str n.target,Iv n.n1,Iv n.n2,Iv n.n3,Iv n.n4,Iv n.n5,Iv n.n6,.sl .none 12 (n.kids.map enc),.sl .none 2 (n.streams.map encS),Iv l])]) (fun x=>n.streams.length-x.1) ⟨0,by omega,rfl⟩ Z ⟨rfl,trivial⟩ ?_
 rintro ⟨i,hi,hp⟩;dsimp only;apply Sr;apply Sq;refine Cd _ rfl (fun hc=>?_) (fun hc=>?_)
 ·apply Sk;(conv=>whnf)
  have hia:i<n.streams.length:=by simpa using hc
  have hss:=st_sz n hia
  apply Sq;apply Bk;apply Sr;(conv=>whnf);refine Sp ?_;(conv=>whnf);refine ⟨encS (stAt n i),fun _=>get_st n hia,?_⟩;(conv=>whnf);intro b3;apply Rl;apply Sq;apply Sr;apply Rl;(conv=>whnf);refine ⟨[.str (stAt n i).name],_,fun _=>F100 hL _ (by omega),Z,?_⟩;refine Cd _ rfl (fun hc=>?_) (fun hc=>?_)
  ·apply Sr;apply Rt;(conv=>whnf)
   have hf:fS n i=4:=by rw [fS,if_neg (by simpa using hc)]
   exact intDLe (by rw [hp,nz_hit hia (by rw [hf]; decide),hf])
  apply Sk
  have hok:nameOk (stAt n i).name=true:=by simpa using hc
  apply Sr;refine Cd _ rfl (fun hc=>?_) (fun hc=>?_)
  ·apply Sq
   have hi0:0<i:=by simpa using hc
   have hf:fS n i=ordE (stAt n (i-1)).name (stAt n i).name:=by rw [fS,if_pos hok,if_pos hi0]
   refine Tri.draw ti_ok mixed (by kernel_rfl) ?_;apply Rl;refine Ir ?_;(conv=>whnf);refine Sp ?_;(conv=>whnf)
   refine ⟨encS (stAt n (i-1)),fun _=>by rw [pred_toNat hi0]; exact get_st n (by omega),?_⟩
   apply Rl;(conv=>whnf);refine ⟨[.str (stAt n (i-1)).name,.str (stAt n i).name],_,fun _=>F103 _ _,Z,?_⟩;apply Sr;refine Cd _ rfl (fun hc=>?_) (fun hc=>?_)
   ·apply Sr;apply Rt;(conv=>whnf)
    exact intDLe (by rw [hp,nz_hit hia (by rw [hf]; simpa using hc),hf])
   apply Sk;apply Rg;refine Ir ?_;(conv=>whnf)
   exact ⟨⟨i+1,by omega,by rw [hp,nz_miss hia (by rw [hf]; simpa using hc)]⟩,by show _-(i+1)<_-i; omega,Z,⟨rfl,trivial⟩⟩
  apply Sk;apply Rg;refine Ir ?_;(conv=>whnf)
  have hf:fS n i=0:=by rw [fS,if_pos hok,if_neg (by simpa using hc)]
  exact ⟨⟨i+1,by omega,by rw [hp,nz_miss hia hf]⟩,by show _-(i+1)<_-i; omega,Z,⟨rfl,trivial⟩⟩
 refine Tri.exit ?_;apply Sr;apply Rt;(conv=>whnf);exact intDLe (by rw [hp,nz_end (by simpa using hc)])
def fK (n:NV) (i:Nat):Int:=ordE (kAt n (i-1)).name (kAt n i).name
def rKids (n:NV):Int:=firstNZ (fK n) 1 (n.kids.length-1)
theorem F85 (n:NV) (l:Int) (hz:sz n<1000000000):DFun Tryz.prog W0 144 [ruleD n l] (Iv (rKids n)):=by
 refine Fi Tryz.func144 rfl Tryz.ntmps144 fun Γ=>?_
 apply Sr;(conv=>whnf);intro b;apply Sq;apply Sr;(conv=>whnf)
 have hsl:=kids_len n
 apply Bk
 refine Tri.loop (α:={ i:Nat // 1≤i∧i≤n.kids.length+1∧rKids n=firstNZ (fK n) i (n.kids.length-i) }) (fun x=>[(1,.box 1 b 0),(3,Iv x.1)])
  (fun _=>[(1,.box b [.str n.name,Iv n.kind,.str n.text,.str n.target,Iv n.n1,Iv n.n2,Iv n.n3,Iv n.n4,Iv n.n5,Iv n.n6,.sl .none 12 (n.kids.map enc),.sl .none 2 (n.streams.map encS),Iv l])]) (fun x=>n.kids.length+1-x.1) ⟨1,by omega,by omega,rfl⟩ Z ⟨rfl,trivial⟩ ?_
 rintro ⟨i,hi1,hi,hp⟩;dsimp only;apply Sq;apply Sr;apply Rl;refine Cd _ rfl (fun hc=>?_) (fun hc=>?_)
 ·apply Sk;(conv=>whnf)
  have hia:i<n.kids.length:=by simpa using hc
  apply Sq;apply Bk;apply Sq;refine Tri.draw ti_ok mixed (by kernel_rfl) ?_;apply Rl;refine Ir ?_;(conv=>whnf);refine Sp ?_;(conv=>whnf)
  refine ⟨encTop (kAt n (i-1)),fun _=>by rw [pred_toNat (by omega)]; exact get_kk n (by omega),?_⟩
  apply Rl;(conv=>whnf);refine Sp ?_;(conv=>whnf);refine ⟨encTop (kAt n i),fun _=>get_kk n hia,?_⟩;(conv=>whnf);refine ⟨[.str (kAt n (i-1)).name,.str (kAt n i).name],_,fun _=>F103 _ _,Z,?_⟩;apply Sr;refine Cd _ rfl (fun hc=>?_) (fun hc=>?_)
  ·apply Sr;apply Rt;(conv=>whnf)
   exact intDLe (by rw [hp,nz_hit hia (by rw [fK]; simpa using hc),fK])
  apply Sk;apply Rg;refine Ir ?_;(conv=>whnf)
  exact ⟨⟨i+1,by omega,by omega,by rw [hp,nz_miss hia (by rw [fK]; simpa using hc)]⟩,by show _+1-(i+1)<_+1-i; omega,Z,⟨rfl,trivial⟩⟩
 refine Tri.exit ?_;apply Sr;apply Rt;(conv=>whnf);exact intDLe (by rw [hp,nz_end (by simpa using hc)])
def ruleI (n:NV) (l:Int):Nat→Int
 | 0=>rKind n l
 | 1=>rName n l
 | 2=>rParts n
 | 3=>rTarget n
 | 4=>rNumbers n
 | 5=>rSizes n l
 | 6=>rStreams n
 | _=>rKids n
def one (n:NV) (l:Int):Int:=firstNZ (ruleI n l) 0 8
theorem rule_ok (hL:LibOk W0) (n:NV) (l:Int) (hz:sz n+n.name.length<1000000000) {i:Nat} (hi:i<8):DFun Tryz.prog W0 (137+i) [ruleD n l] (Iv (ruleI n l i)):=by
 have ht:=sz_eq n
 match i,hi with
 | 0,_=>exact F78 n l
 | 1,_=>exact F79 hL n l (by omega)
 | 2,_=>exact F80 n l
 | 3,_=>exact F81 hL n l (by omega)
 | 4,_=>exact F82 n l
 | 5,_=>exact F83 n l (by omega)
 | 6,_=>exact F84 hL n l (by omega)
 | 7,_=>exact F85 n l (by omega)
def fnsD (n:NV) (l:Int):List D:=(List.range 8).map fun i=>.fn (.func (137+i)) [ruleD n l] []
theorem fnsD_get (n:NV) (l:Int) {i:Nat} (hi:i<8):(fnsD n l)[i]? = some (.fn (.func (137+i)) [ruleD n l] []):=by simp [fnsD,hi]
def chkA (be bp:Nat):WS (Int×List UInt8):=⟨fun s=>.box be [Iv s.1],fun s=>.box bp [.str s.2]⟩
def checkF (n:NV) (p:List UInt8) (l:Int) (s:Int×List UInt8):Bool×(Int×List UInt8):=if one n l=0 then (true,(0,s.2)) else (false,(one n l,p))
theorem F77 (hL:LibOk W0) (be bp:Nat) (n:NV) (p:List UInt8) (l:Int) (s:Int×List UInt8) (hz:sz n+n.name.length<1000000000):DCall Tryz.prog W0 136 ([encTop n,.str p,Iv l]++[.box 2000 be 0,.box 2001 bp 0]) ((chkA be bp).H s) fun d H'=>d=.bool (checkF n p l s).1∧H'=(chkA be bp).H (checkF n p l s).2:=by
 refine DCall.intro ti_ok Tryz.func136 rfl (by decide +kernel) Tryz.ntmps136 rfl fun Γ=>?_
 apply Sr;(conv=>whnf);intro b;apply Sr;apply Rl;(conv=>whnf);intro b2;apply Rl;apply Sq;apply Sr;apply Rl;apply Rl;apply Rl;apply Rl;apply Rl;apply Rl;apply Rl;apply Rl;(conv=>whnf);refine ⟨trivial,?_⟩;apply Bk
 refine Tri.loop (α:={ x:Nat×Int // x.1≤8∧(0<x.1→x.2=0)∧one n l=firstNZ (ruleI n l) x.1 (8-x.1) })
  (fun x=>[(1,.str p),(3,.box 2000 be 0),(4,.box 2001 bp 0),(31,.sl .full 1 (fnsD n l)),(32,Iv (fnsD n l).length),(33,Iv x.1.1)]) (fun x=>[(2000,.box be [Iv x.1.2]),(2001,.box bp [.str s.2])]) (fun x=>8-x.1.1)
  ⟨(0,s.1),by omega,by simp,rfl⟩ Z ⟨rfl,Y⟩ ?_
 rintro ⟨⟨i,e⟩,hi,he,hp⟩;dsimp only at hi he hp ⊢;apply Sr;apply Sq;refine Cd _ rfl (fun hc=>?_) (fun hc=>?_)
 ·apply Sk;(conv=>whnf)
  have hia:i<8:=by simp [fnsD] at hc; omega
  apply Sq;apply Bk;apply Sr;(conv=>whnf)
  refine ⟨fun _=>by simp [fnsD]; omega,?_⟩
  (conv=>whnf);refine ⟨.fn (.func (137+i)) [ruleD n l] [],fun _=>fnsD_get n l hia,?_⟩;apply Sr;(conv=>whnf);refine ⟨[ruleD n l],_,fun _=>rule_ok hL n l hz hia,Z,?_⟩;apply Rl;apply Sr;apply Rl;refine Cd _ rfl (fun hc=>?_) (fun hc=>?_)
  ·apply Sr;apply Rl;apply Sr;(conv=>whnf)
   have hne:ruleI n l i≠0:=by simpa using hc
   have h1:one n l=ruleI n l i:=by rw [hp,nz_hit hia hne]
   have hF:checkF n p l s=(false,(ruleI n l i,p)):=by rw [checkF,if_neg (by rw [h1]; exact hne),h1]
   refine Tri.retK [(8,.bool false)] [(2000,.box be [Iv (ruleI n l i)]),(2001,.box bp [.str p])] [(2000,2000),(2001,2001)] ⟨Z,rfl,Y⟩ ?_;(conv=>whnf)
   exact ⟨_,.refl _,by rw [hF]; rfl,by rw [hF]; rfl⟩
  apply Sk;apply Rg;refine Ir ?_;(conv=>whnf)
  have h0:ruleI n l i=0:=by simpa using hc
  exact ⟨⟨(i+1,0),by omega,fun _=>rfl,by rw [hp,nz_miss hia h0]⟩,by show 8-(i+1)<8-i; omega,Z,⟨congrArg (fun z=>some (HObj.box be [Iv z])) h0,rfl,trivial⟩⟩
 refine Tri.exit ?_;apply Sr;(conv=>whnf)
 have h8:¬ i<8:=by simp [fnsD] at hc; omega
 have h1:one n l=0:=by rw [hp,nz_end h8]
 have he0:e=0:=he (by omega)
 subst he0
 have hF:checkF n p l s=(true,(0,s.2)):=by rw [checkF,if_pos h1]
 refine Tri.retK [(8,.bool true)] [(2000,.box be [Iv 0]),(2001,.box bp [.str s.2])] [(2000,2000),(2001,2001)] ⟨Z,rfl,Y⟩ ?_;(conv=>whnf)
 exact ⟨_,.refl _,by rw [hF]; rfl,by rw [hF]; rfl⟩
def check (n:NV):List UInt8×Int:=if (256:Int)<cnt n then ([],7) else ((walk checkF n [] 1 (0,[])).2.2,(walk checkF n [] 1 (0,[])).2.1)
theorem F59 (hL:LibOk W0) (n:NV) (hz:sz n+n.name.length<10000000):DFun Tryz.prog W0 67 [encTop n] (.tup [.str (check n).1,Iv (check n).2]):=by
 refine Fi Tryz.func67 rfl Tryz.ntmps67 fun Γ=>?_
 apply Sr;(conv=>whnf);intro b;apply Sq;apply Sr;apply Rl;(conv=>whnf);refine ⟨[encTop n],_,fun _=>F75 n hz,Z,?_⟩;refine Cd _ rfl (fun hc=>?_) (fun hc=>?_)
 ·apply Sr;apply Rt;(conv=>whnf)
  exact ⟨DLe.of_eq (by rw [check,if_pos (by simpa using hc)]; rfl),intDLe (by rw [check,if_pos (by simpa using hc)]),trivial⟩
 apply Sk;apply Sr;(conv=>whnf);intro bp;(conv=>whnf);intro be;apply Rl;apply Rl;apply Sq;refine Tri.regionX ti_ok ?_;apply Il;apply Rl;(conv=>whnf)
 refine .inr (XOp.call rfl [encTop n,.str [],Iv 1,.fn (.func 136) [] [.box 2000 be 0,.box 2001 bp 0]] [(2000,5),(2001,4)]
  (F76 (chkA be bp) checkF 136 [.box 2000 be 0,.box 2001 bp 0] (fun n p l s hb hl=>F77 hL be bp n p l s (by omega)) _ n [] 1 (0,[]) (Nat.lt_succ_self _) (by simp; omega) (by omega)) rfl ⟨.refl _,.refl _,.refl _,DLe.fn trivial ⟨DLe.box,DLe.box,trivial⟩,trivial⟩ ?_)
 rintro d H' ⟨rfl,rfl⟩;refine ⟨_,.refl _,?_⟩;apply Sq;refine Tri.draw ti_ok mixed (by kernel_rfl) ?_;apply Rl;apply Rl;apply Rt;(conv=>whnf)
 exact ⟨DLe.of_eq (by rw [check,if_neg (by simpa using hc)]; rfl),intDLe (by rw [check,if_neg (by simpa using hc)]),trivial⟩
def valid (n:NV):Bool:=(check n).2==0
theorem F39 (hL:LibOk W0) (n:NV) (hz:sz n+n.name.length<10000000):DFun Tryz.prog W0 29 [encTop n] (.bool (valid n)):=by
 refine Fi Tryz.func29 rfl Tryz.ntmps29 fun Γ=>?_
 apply Sr;(conv=>whnf);intro b;apply Sr;apply Rl;(conv=>whnf);refine ⟨[encTop n],_,fun _=>F59 hL n hz,Z,?_⟩;apply Sr;apply Rt;(conv=>whnf);exact .refl _
def topCells (n:NV):List D:=[.str n.name,Iv n.kind,.str n.text,.str n.target,Iv n.n1,Iv n.n2,Iv n.n3,Iv n.n4,Iv n.n5,Iv n.n6,.sl .none 12 (n.kids.map enc),.sl .none 2 (n.streams.map encS)]
theorem one0 (n:NV) (l:Int):one n l=firstNZ (ruleI n l) 0 (8-0):=rfl
theorem sizes_seven (n:NV):∀ {k i:Nat},firstNZ (fZ n) i k≠0→firstNZ (fZ n) i k=7
 | 0,i,h=>absurd rfl h
 | k+1,i,h=>by
  unfold firstNZ at h ⊢
  split
  ·rename_i h0; rw [if_pos h0] at h; exact sizes_seven n h
  rename_i h0; unfold fZ at h0 ⊢; split
  ·rfl
  rename_i h1; rw [if_neg h1] at h0; exact absurd rfl h0
theorem F93 (n:NV) (l:Int) (hz:sz n+n.name.length<10000000):DFun Tryz.prog W0 224 [encTop n,Iv l] (Iv (one n l)):=by
 refine Fi Tryz.func224 rfl Tryz.ntmps224 fun Γ=>?_
 apply Sr;(conv=>whnf);intro b
 have ht:=sz_eq n
 have hkl:=kids_len n
 have hsl:=streams_len n
 apply Sq;apply Sr;apply Rl;apply Hh;apply Rl;apply Hh;refine Pk ?_;apply Hh;apply Hh;apply Hh;apply Rl;apply Hh;apply Hh;refine Pk ?_;refine Pk ?_
 refine Cd (cKind n l) (by simp only [cKind,← bif_or,← bif_and]; rfl) (fun hc=>?_) (fun hc=>?_)
 ·apply Sr;apply Rt;(conv=>whnf)
  have hr:ruleI n l 0=1:=by rw [ruleI,rKind,hc]; rfl
  exact intDLe (by rw [one0,nz_hit (by omega) (by rw [hr]; decide),hr])
 apply Sk
 have hp1:one n l=firstNZ (ruleI n l) 1 (8-1):=by rw [one0,nz_miss (by omega) (by rw [ruleI,rKind,hc]; rfl)]
 apply Sq;apply Sr;apply Hh;apply Rl;apply Hh;refine Pk ?_;apply Hh;apply Hh;apply Hh;apply Rl;apply Hh;(conv=>whnf);refine ⟨[.str n.name],_,fun h=>F94 _ (by omega),Z,?_⟩;apply Hh;apply Hh;refine Pk ?_;refine Pk ?_
 refine Cd (cName n l) (by simp only [cName,← bif_or,← bif_and]; rfl) (fun hc=>?_) (fun hc=>?_)
 ·apply Sr;apply Rt;(conv=>whnf)
  have hr:ruleI n l 1=4:=by rw [ruleI,rName,hc]; rfl
  exact intDLe (by rw [hp1,nz_hit (by omega) (by rw [hr]; decide),hr])
 apply Sk
 have hp2:one n l=firstNZ (ruleI n l) 2 (8-2):=by rw [hp1,nz_miss (by omega) (by rw [ruleI,rName,hc]; rfl)]
 apply Sq;apply Sr;apply Rl;apply Hh;apply Rl;apply Hh;apply Hh;apply Hh;apply Rl;apply Hh;apply Hh;apply Hh;refine Pk ?_;refine Pk ?_;apply Hh;apply Rl;apply Hh;apply Hh;apply Hh;apply Rl;apply Hh;apply Hh;refine Pk ?_;refine Pk ?_;apply Hh;apply Rl;apply Hh;apply Hh;apply Hh;apply Rl;apply Hh;apply Hh;apply Hh;refine Pk ?_;refine Pk ?_;refine Cd (cParts n) ?_ (fun hc=>?_) (fun hc=>?_)
 ·simp only [cParts,← bif_or,← bif_and]
  rw [show n.streams.length=(n.streams.map encS).length by simp,show n.kids.length=(n.kids.map enc).length by simp]; rfl
 ·apply Sr;apply Rt;(conv=>whnf)
  have hr:ruleI n l 2=1:=by rw [ruleI,rParts,hc]; rfl
  exact intDLe (by rw [hp2,nz_hit (by omega) (by rw [hr]; decide),hr])
 apply Sk
 have hp3:one n l=firstNZ (ruleI n l) 3 (8-3):=by rw [hp2,nz_miss (by omega) (by rw [ruleI,rParts,hc]; rfl)]
 apply Sq;apply Sr;apply Rl;apply Hh;apply Rl;apply Hh;(conv=>whnf);refine ⟨[.str n.target],_,fun h=>F111 _ (by omega),Z,?_⟩;apply Hh;refine Pk ?_
 refine Cd (cTarget n) (by simp only [cTarget,← bif_or,← bif_and]; rfl) (fun hc=>?_) (fun hc=>?_)
 ·apply Sr;apply Rt;(conv=>whnf)
  have hr:ruleI n l 3=4:=by rw [ruleI,rTarget,hc]; rfl
  exact intDLe (by rw [hp3,nz_hit (by omega) (by rw [hr]; decide),hr])
 apply Sk
 have hp4:one n l=firstNZ (ruleI n l) 4 (8-4):=by rw [hp3,nz_miss (by omega) (by rw [ruleI,rTarget,hc]; rfl)]
 apply Sq;apply Sr;apply Rl;(conv=>whnf);refine ⟨[encTop n],_,fun _=>F112 n,Z,?_⟩;refine Cd (cNumbers n) ((show _=D.bool (!(!cNumbers n)) from rfl).trans (congrArg D.bool (Bool.not_not _))) (fun hc=>?_) (fun hc=>?_)
 ·apply Sr;apply Rt;(conv=>whnf)
  have hr:ruleI n l 4=2:=by rw [ruleI,rNumbers,hc]; rfl
  exact intDLe (by rw [hp4,nz_hit (by omega) (by rw [hr]; decide),hr])
 apply Sk
 have hp5:one n l=firstNZ (ruleI n l) 5 (8-5):=by rw [hp4,nz_miss (by omega) (by rw [ruleI,rNumbers,hc]; rfl)]
 apply Sq;apply Sr;apply Rl;(conv=>whnf);refine ⟨[encTop n,Iv l],_,fun _=>F113 n l (by omega),Z,?_⟩;refine Cd _ rfl (fun hc=>?_) (fun hc=>?_)
 ·apply Sr;apply Rt;(conv=>whnf)
  have hr:ruleI n l 5=7:=by
   rw [ruleI]
   have hc':rSizes n l≠0:=by simpa using hc
   unfold rSizes at hc' ⊢
   split
   ·rfl
   rename_i h; rw [if_neg h] at hc'; exact sizes_seven n hc'
  exact intDLe (by rw [hp5,nz_hit (by omega) (by rw [hr]; decide),hr])
 apply Sk
 have hp6:one n l=firstNZ (ruleI n l) 6 (8-6):=by rw [hp5,nz_miss (by omega) (by rw [ruleI]; simpa using hc)]
 apply Sq;apply Sr;apply Bk;refine Tri.loop (α:={ i:Nat // i≤n.streams.length∧rStreams n=firstNZ (fS n) i (n.streams.length-i) }) (fun x=>[(2,.box 2 b 0),(5,Iv x.1)]) (fun _=>[(2,.box b (topCells n))]) (fun x=>n.streams.length-x.1) ⟨0,by omega,rfl⟩ Z ⟨rfl,trivial⟩ ?_;rintro ⟨i,hi,hp⟩;dsimp only;apply Sq;apply Sr;apply Rl;refine Cd _ rfl (fun hc=>?_) (fun hc=>?_)
 ·apply Sk;(conv=>whnf)
  have hia:i<n.streams.length:=by simpa using hc
  have hss:=st_sz n hia
  have hit7:∀ e,fS n i=e→e≠0→one n l=e:=fun e he h0=>by
   have h1:ruleI n l 6=e:=by rw [ruleI,hp,nz_hit hia (by rw [he]; exact h0),he]
   rw [hp6,nz_hit (by omega) (by rw [h1]; exact h0),h1]
  apply Sq;apply Bk;apply Sq;apply Sr;apply Rl;(conv=>whnf);refine Sp ?_;(conv=>whnf);refine ⟨encS (stAt n i),fun _=>get_st n hia,?_⟩;(conv=>whnf);refine ⟨[.str (stAt n i).name],_,fun _=>F94 _ (by omega),Z,?_⟩;refine Cd _ rfl (fun hc=>?_) (fun hc=>?_)
  ·apply Sr;apply Rt;(conv=>whnf);exact intDLe (hit7 4 (by rw [fS,if_neg (by simpa using hc)]) (by decide)).symm
  apply Sk
  have hok:nameOk (stAt n i).name=true:=by simpa using hc
  apply S2;refine Tri.draw ti_ok mixed (by kernel_rfl) ?_;apply Hh;apply Rl;apply Hh;apply Hh;(conv=>whnf)
  refine ⟨fun h=>by simp at h ⊢; omega,?_⟩
  apply Hh;apply Hh;(conv=>whnf);refine ⟨encS (stAt n i),fun _=>get_st n hia,?_⟩;apply Hh;apply Rl;apply Hh;refine Ir ?_;apply Hh;apply Hh;(conv=>whnf)
  refine ⟨fun h=>by simp at h ⊢; omega,?_⟩
  apply Hh;apply Hh;(conv=>whnf)
  refine ⟨encS (stAt n (i-1)),fun h=>by rw [pred_toNat (by simpa using h)]; exact get_st n (by omega),?_⟩
  apply Hh;apply Hh;refine Pk ?_;refine Cd _ rfl (fun hc=>?_) (fun hc=>?_)
  ·apply Sr;apply Rt;(conv=>whnf)
   have h2:0<i∧(stAt n i).name=(stAt n (i-1)).name:=by
    cases h0:decide ((0:Int)<i)<;>rw [h0] at hc<;>simp at h0 hc
    exact ⟨by omega,hc⟩
   exact intDLe (hit7 5 (by rw [fS,if_pos hok,if_pos h2.1,ordE,if_pos h2.2.symm]) (by decide)).symm
  apply Sk
  have hne:0<i→(stAt n (i-1)).name≠(stAt n i).name:=fun h0 e=>by
   have h0':decide ((0:Int)<i)=true:=by simp; omega
   rw [h0',e] at hc; simp at hc
  apply Sq;refine Tri.draw ti_ok mixed (by kernel_rfl) ?_;apply Hh;apply Rl;apply Hh;apply Hh;(conv=>whnf)
  refine ⟨fun h=>by simp at h ⊢; omega,?_⟩
  apply Hh;apply Hh;(conv=>whnf);refine ⟨encS (stAt n i),fun _=>get_st n hia,?_⟩;apply Hh;apply Rl;apply Hh;refine Ir ?_;apply Hh;apply Hh;(conv=>whnf)
  refine ⟨fun h=>by simp at h ⊢; omega,?_⟩
  apply Hh;apply Hh;(conv=>whnf)
  refine ⟨encS (stAt n (i-1)),fun h=>by rw [pred_toNat (by simpa using h)]; exact get_st n (by omega),?_⟩
  apply Hh;apply Hh;refine Pk ?_;refine Cd _ rfl (fun hc=>?_) (fun hc=>?_)
  ·apply Sr;apply Rt;(conv=>whnf)
   have h2:0<i∧Op.bytesLess (stAt n i).name (stAt n (i-1)).name=true:=by
    cases h0:decide ((0:Int)<i)<;>rw [h0] at hc<;>simp at h0 hc
    exact ⟨by omega,hc⟩
   exact intDLe (hit7 1 (by rw [fS,if_pos hok,if_pos h2.1,ordE,if_neg (hne h2.1),if_pos h2.2]) (by decide)).symm
  apply Sk;apply Rg;refine Ir ?_;(conv=>whnf)
  have hf:fS n i=0:=by
   rw [fS,if_pos hok]
   by_cases h0:0<i
   ·have h0':decide ((0:Int)<i)=true:=by simp; omega
    rw [h0'] at hc;rw [if_pos h0,ordE,if_neg (hne h0),if_neg (by simpa using hc)]
   rw [if_neg h0]
  exact ⟨⟨i+1,by omega,by rw [hp,nz_miss hia hf]⟩,by show _-(i+1)<_-i; omega,Z,⟨rfl,trivial⟩⟩
 refine Tri.exit ?_;apply Sq
 have hp7:one n l=firstNZ (ruleI n l) 7 (8-7):=by rw [hp6,nz_miss (by omega) (by rw [ruleI,hp,nz_end (by simpa using hc)])]
 apply Sr;apply Bk;refine Tri.loop (α:={ i:Nat // 1≤i∧i≤n.kids.length+1∧rKids n=firstNZ (fK n) i (n.kids.length-i) }) (fun x=>[(2,.box 2 b 0),(6,Iv x.1)]) (fun _=>[(2,.box b (topCells n))]) (fun x=>n.kids.length+1-x.1) ⟨1,by omega,by omega,rfl⟩ Z ⟨rfl,trivial⟩ ?_;rintro ⟨i,hi1,hi,hp⟩;dsimp only;apply Sq;apply Sr;apply Rl;refine Cd _ rfl (fun hc=>?_) (fun hc=>?_)
 ·apply Sk;(conv=>whnf)
  have hia:i<n.kids.length:=by simpa using hc
  have hit8:∀ e,fK n i=e→e≠0→one n l=e:=fun e he h0=>by
   have h1:ruleI n l 7=e:=by show rKids n=e; rw [hp,nz_hit hia (by rw [he]; exact h0),he]
   rw [hp7,nz_hit (by omega) (by rw [h1]; exact h0),h1]
  apply Sq;apply Bk;apply S2;refine Tri.draw ti_ok mixed (by kernel_rfl) ?_;apply Rl;(conv=>whnf);refine Sp ?_;(conv=>whnf);refine ⟨encTop (kAt n i),fun _=>get_kk n hia,?_⟩;apply Rl;refine Ir ?_;(conv=>whnf);refine Sp ?_;(conv=>whnf)
  refine ⟨encTop (kAt n (i-1)),fun _=>by rw [pred_toNat (by omega)]; exact get_kk n (by omega),?_⟩
  refine Cd _ rfl (fun hc=>?_) (fun hc=>?_)
  ·apply Sr;apply Rt;(conv=>whnf)
   exact intDLe (hit8 5 (by rw [fK,ordE,if_pos (by have:=hc; simp at this; exact this.symm)]) (by decide)).symm
  apply Sk
  have hne:(kAt n (i-1)).name≠(kAt n i).name:=fun e=>by rw [e] at hc; simp at hc
  apply Sq;refine Tri.draw ti_ok mixed (by kernel_rfl) ?_;apply Rl;(conv=>whnf);refine Sp ?_;(conv=>whnf);refine ⟨encTop (kAt n i),fun _=>get_kk n hia,?_⟩;apply Rl;refine Ir ?_;(conv=>whnf);refine Sp ?_;(conv=>whnf)
  refine ⟨encTop (kAt n (i-1)),fun _=>by rw [pred_toNat (by omega)]; exact get_kk n (by omega),?_⟩
  refine Cd _ rfl (fun hc=>?_) (fun hc=>?_)
  ·apply Sr;apply Rt;(conv=>whnf);exact intDLe (hit8 1 (by rw [fK,ordE,if_neg hne,if_pos hc]) (by decide)).symm
  apply Sk;apply Rg;refine Ir ?_;(conv=>whnf)
  have hf:fK n i=0:=by rw [fK,ordE,if_neg hne,if_neg (by rw [hc]; simp)]
  exact ⟨⟨i+1,by omega,by omega,by rw [hp,nz_miss hia hf]⟩,by show _+1-(i+1)<_+1-i; omega,Z,⟨rfl,trivial⟩⟩
 refine Tri.exit ?_;apply Sr;apply Rt;(conv=>whnf)
 exact intDLe (by rw [hp7,nz_miss (by omega) (by show rKids n=0; rw [hp,nz_end (by simpa using hc)])]; rfl)
theorem cntL_append:∀ a b:List NV,cntL (a++b)=cntL a+cntL b
 | [],b=>by simp [cntL]
 | n::r,b=>by simp only [List.cons_append,cntL]; rw [cntL_append r b]; omega
theorem cntL_next {l:List NV} {i:Nat} (h:i<l.length):cntL (l.take (i+1))=cntL (l.take i)+cnt l[i]:=by
 rw [List.take_add_one,List.getElem?_eq_getElem h,cntL_append]; simp [cntL]
theorem cntL_take:∀ (l:List NV) (i:Nat),cntL (l.take i)≤cntL l
 | [],i=>by simp [cntL]
 | n::r,0=>by simp [cntL]
 | n::r,i+1=>by simp only [List.take_succ_cons,cntL]; have:=cntL_take r i; omega
theorem F47:∀ (N:Nat) (n:NV),sz n<N→sz n<100000000→DFun Tryz.prog W0 59 [encTop n] (Iv (cnt n)):=by
 refine fun N=>Nat.rec (fun n h=>absurd h (Nat.not_lt_zero _)) (fun N ih n hN hb=>?_) N
 have hkl:=kids_len n
 have hcs:=cntL_sz n.kids
 have hse:=sz_eq n
 refine Fi Tryz.func59 rfl Tryz.ntmps59 fun Γ=>?_
 apply Sr;(conv=>whnf);intro b;apply Sr;apply Sq;apply Sr;apply Bk;refine Tri.loop (α:={ i:Nat // i≤n.kids.length }) (fun x=>[(1,.box 1 b 0),(3,Iv ((1+cntL (n.kids.take x.1):Nat):Int)),(4,Iv x.1)]) (fun _=>[(1,.box b (topCells n))]) (fun x=>n.kids.length-x.1) ⟨0,by omega⟩ Z ⟨rfl,trivial⟩ ?_;rintro ⟨i,hi⟩;dsimp only;apply Sq;apply Sr;apply Rl;refine Cd _ rfl (fun hc=>?_) (fun hc=>?_)
 ·apply Sk;(conv=>whnf)
  have hia:i<n.kids.length:=by simpa using hc
  have hks:=kid_sz hia
  have hct:=cntL_take n.kids i
  have hcz:=cnt_sz n.kids[i]
  apply Sq;apply Bk;apply Rg;apply Rl;(conv=>whnf);refine Sp ?_;(conv=>whnf);refine ⟨encTop n.kids[i],fun _=>get_kid hia,?_⟩;(conv=>whnf);refine ⟨[encTop n.kids[i]],_,fun _=>ih _ (by omega) (by omega),Z,?_⟩;refine Ir ?_;apply Rg;refine Ir ?_;(conv=>whnf)
  exact ⟨⟨i+1,by omega⟩,by show _-(i+1)<_-i; omega,⟨.refl _,intDLe (by rw [cntL_next hia]; omega),.refl _,trivial⟩,⟨rfl,trivial⟩⟩
 refine Tri.exit ?_;apply Sr;apply Rt;(conv=>whnf)
 exact intDLe (by rw [cnt_eq,List.take_of_length_le (by simp at hc; omega)])
mutual
theorem wchk:∀ (n:NV) (p:List UInt8) (l:Int),walk checkF n p l (0,[])=(true,(0,[]))∨((walk checkF n p l (0,[])).1=false∧(walk checkF n p l (0,[])).2.1≠0)
 | .mk a b c d e f g h i j ks ss,p,l=>by
  simp only [walk]
  unfold checkF
  split
  ·rename_i s' heq
   split at heq
   ·cases heq
   rename_i h0; cases heq; exact .inr ⟨rfl,h0⟩
  rename_i s' heq
  split at heq
  ·cases heq; exact wchkL ks p l
  cases heq
theorem wchkL:∀ (ks:List NV) (p:List UInt8) (l:Int),walkL checkF ks p l (0,[])=(true,(0,[]))∨((walkL checkF ks p l (0,[])).1=false∧(walkL checkF ks p l (0,[])).2.1≠0)
 | [],p,l=>.inl rfl
 | k::r,p,l=>by
  simp only [walkL]
  rcases wchk k (below p k.name (l+1)) (l+1) with h|⟨h1,h2⟩
  ·rw [h]; exact wchkL r p l
  generalize walk checkF k (below p k.name (l+1)) (l+1) (0,[])=r at h1 h2;obtain ⟨x,y⟩:=r;simp only at h1 h2;subst h1;exact .inr ⟨rfl,h2⟩
end
def rchk (n:NV) (p:List UInt8) (l:Int):List UInt8×Int:=if (walk checkF n p l (0,[])).1 then ([],0) else ((walk checkF n p l (0,[])).2.2,(walk checkF n p l (0,[])).2.1)
theorem F67:∀ (N:Nat) (n:NV) (p:List UInt8) (l:Int),sz n<N→p.length+sz n+l.toNat+n.name.length<10000000→1≤l→DFun Tryz.prog W0 145 [encTop n,.str p,Iv l] (.tup [.str (rchk n p l).1,Iv (rchk n p l).2]):=by
 refine fun N=>Nat.rec (fun n p l h=>absurd h (Nat.not_lt_zero _)) (fun N ih n p l hN hb hl=>?_) N
 have hkl:=kids_len n
 refine Fi Tryz.func145 rfl Tryz.ntmps145 fun Γ=>?_
 apply Sr;(conv=>whnf);intro b;apply Sq;apply Sr;apply Rl;(conv=>whnf);refine ⟨[encTop n,Iv l],_,fun _=>F93 n l (by omega),Z,?_⟩;apply Sr;refine Cd _ rfl (fun hc=>?_) (fun hc=>?_)
 ·apply Sr;apply Rt;(conv=>whnf)
  have hne:one n l≠0:=by simpa using hc
  have hw:walk checkF n p l (0,[])=(false,(one n l,p)):=by rw [walk_eq,checkF,if_neg hne]
  have hR:rchk n p l=(p,one n l):=by rw [rchk,hw]; rfl
  rw [hR];exact Z
 apply Sk
 have h0:one n l=0:=by simpa using hc
 have hw:walk checkF n p l (0,[])=walkL checkF n.kids p l (0,[]):=by rw [walk_eq,checkF,if_pos h0]
 apply Sq;apply Sr;apply Bk;refine Tri.loop (α:={ i:Nat // i≤n.kids.length∧walk checkF n p l (0,[])=walkL checkF (n.kids.drop i) p l (0,[]) }) (fun x=>[(1,.str p),(2,Iv l),(3,.box 3 b 0),(9,Iv x.1)]) (fun _=>[(3,.box b (topCells n))]) (fun x=>n.kids.length-x.1) ⟨0,by omega,hw⟩ Z ⟨rfl,trivial⟩ ?_;rintro ⟨i,hi,hp⟩;dsimp only;apply Sq;apply Sr;apply Rl;refine Cd _ rfl (fun hc=>?_) (fun hc=>?_)
 ·apply Sk;(conv=>whnf)
  have hia:i<n.kids.length:=by simpa using hc
  have hks:=kid_sz hia
  have hbl:=below_len p n.kids[i].name (l+1)
  have hdr:=List.drop_eq_getElem_cons hia
  have hwk:=wchk n.kids[i] (below p n.kids[i].name (l+1)) (l+1)
  apply Sq;apply Bk;apply Sq;refine Tri.draw ti_ok mixed (by kernel_rfl) ?_;apply Rl;(conv=>whnf);refine Sp ?_;(conv=>whnf);refine ⟨encTop n.kids[i],fun _=>get_kid hia,?_⟩;apply Rl;(conv=>whnf);refine Sp ?_;(conv=>whnf);refine ⟨encTop n.kids[i],fun _=>get_kid hia,?_⟩;(conv=>whnf);refine ⟨[.str p,.str n.kids[i].name,Iv l],_,fun _=>F68 p _ l (by omega) hl,Z,?_⟩;refine Ir ?_;(conv=>whnf);refine ⟨[encTop n.kids[i],.str (below p n.kids[i].name (l+1)),Iv (l+1)],_,fun _=>ih n.kids[i] (below p n.kids[i].name (l+1)) (l+1) (by omega) (by omega) (by omega),Z,?_⟩;apply Sr;refine Cd _ rfl (fun hc=>?_) (fun hc=>?_)
  ·apply Sr;apply Rt;(conv=>whnf)
   have hne:(rchk n.kids[i] (below p n.kids[i].name (l+1)) (l+1)).2≠0:=by simpa using hc
   have hR:rchk n p l=rchk n.kids[i] (below p n.kids[i].name (l+1)) (l+1):=by
    unfold rchk at hne ⊢
    rw [hp,hdr,walkL]
    rcases hwk with h|⟨h1,h2⟩
    ·rw [h] at hne; exact absurd rfl hne
    generalize walk checkF n.kids[i] (below p n.kids[i].name (l+1)) (l+1) (0,[])=r at *;obtain ⟨x,y⟩:=r
    simp only at h1; subst h1; rfl
   rw [hR];exact Z
  apply Sk;apply Rg;refine Ir ?_;(conv=>whnf)
  have h0:(rchk n.kids[i] (below p n.kids[i].name (l+1)) (l+1)).2=0:=by simpa using hc
  have hk:walk checkF n.kids[i] (below p n.kids[i].name (l+1)) (l+1) (0,[])=(true,(0,[])):=by
   rcases hwk with h|⟨h1,h2⟩
   ·exact h
   unfold rchk at h0; rw [h1] at h0; exact absurd h0 h2
  exact ⟨⟨i+1,by omega,by rw [hp,hdr,walkL,hk]⟩,by show _-(i+1)<_-i; omega,Z,⟨rfl,trivial⟩⟩
 refine Tri.exit ?_;apply Sr;apply Rt;(conv=>whnf)
 have hR:rchk n p l=([],0):=by rw [rchk,hp,List.drop_of_length_le (by simp at hc; omega)]; rfl
 rw [hR];exact Z
theorem rchk_check (n:NV):(if (256:Int)<cnt n then ([],7) else rchk n [] 1)=check n:=by
 unfold check rchk
 split
 ·rfl
 rcases wchk n [] 1 with h|⟨h1,h2⟩
 ·rw [h]; rfl
 rw [h1]; rfl
theorem F43 (n:NV) (hz:sz n+n.name.length<2200000):DFun Tryz.prog W0 68 [encTop n] (.tup [.str (check n).1,Iv (check n).2]):=by
 refine Fi Tryz.func68 rfl Tryz.ntmps68 fun Γ=>?_
 apply Sr;(conv=>whnf);intro b;apply Sq;apply Sr;apply Rl;(conv=>whnf);refine ⟨[encTop n],_,fun _=>F47 _ n (Nat.lt_succ_self _) (by omega),Z,?_⟩;refine Cd _ rfl (fun hc=>?_) (fun hc=>?_)
 ·apply Sr;apply Rt;(conv=>whnf);rw [← rchk_check,if_pos (by simpa using hc)];exact Z
 apply Sk;apply Sr;apply Rl;(conv=>whnf)
 refine ⟨[encTop n,.str [],Iv 1],_,fun _=>F67 _ n [] 1 (Nat.lt_succ_self _) (by simp; omega) (by omega),Z,?_⟩
 apply Rt;(conv=>whnf);rw [← rchk_check,if_neg (by simpa using hc)];exact Z
theorem F20 (n:NV) (hz:sz n+n.name.length<2200000):DFun Tryz.prog W0 33 [encTop n] (.bool (valid n)):=by
 refine Fi Tryz.func33 rfl Tryz.ntmps33 fun Γ=>?_
 apply Sr;(conv=>whnf);intro b;apply Sr;apply Rl;(conv=>whnf);refine ⟨[encTop n],_,fun _=>F43 n hz,Z,?_⟩;apply Sr;apply Rt;(conv=>whnf);exact .refl _
def joinP (p n:List UInt8):List UInt8:=if p=[] then n else p++[47]++n
def fieldDiff (a b:NV):Nat→Bool
 | 0=>!(a.text==b.text)
 | 1=>!(a.target==b.target)
 | 2=>(!(a.n1==b.n1)||!(a.n2==b.n2))||!(a.n3==b.n3)
 | 3=>!(a.n4==b.n4)
 | _=>!decide (a.streams=b.streams)
def fieldDiffs (p:List UInt8) (a b:NV) (i:Nat):List DV:=((List.range i).filter (fieldDiff a b)).map fun i=>⟨((3+i:Nat):Int),p⟩
mutual
def cmpT (p:List UInt8) (a b:NV):List DV:=if a.kind=b.kind then fieldDiffs p a b 5++mrg p a.kids b.kids else [⟨2,p⟩]
termination_by sz a+sz b
decreasing_by have h1:=sz_eq a; have h2:=sz_eq b; omega
def mrg (p:List UInt8):List NV→List NV→List DV
 | [],[]=>[]
 | x::xs,[]=>⟨0,joinP p x.name⟩::mrg p xs []
 | [],y::ys=>⟨1,joinP p y.name⟩::mrg p [] ys
 | x::xs,y::ys =>
  if Op.bytesLess x.name y.name then ⟨0,joinP p x.name⟩::mrg p xs (y::ys)
  else if x.name=y.name then cmpT (joinP p x.name) x y++mrg p xs ys
  else ⟨1,joinP p y.name⟩::mrg p (x::xs) ys
termination_by xs ys=>szL xs+szL ys
decreasing_by all_goals simp only [szL]; omega
end
end Go.Tame.V

namespace Go.Tame.V
open Go Go.Proofs
variable {W0:World}
def Fits (n:NV):Prop:=sz n+n.name.length<2200000
def compare (a b:NV):List DV×Int:=if valid a&&valid b then (cmpT [] a b,0) else ([],1)
def same (a b:NV):Bool:=(compare a b).2==0&&(compare a b).1.length==0
mutual
def levels:NV→Nat
 | .mk _ _ _ _ _ _ _ _ _ _ ks _=>levelsL ks+1
def levelsL:List NV→Nat
 | []=>0
 | n::r=>max (levels n) (levelsL r)
end
theorem levels_eq (n:NV):levels n=levelsL n.kids+1:=by cases n; simp only [levels]
theorem levelsL_append:∀ a b:List NV,levelsL (a++b)=max (levelsL a) (levelsL b)
 | [],b=>by simp [levelsL]
 | n::r,b=>by simp only [List.cons_append,levelsL]; rw [levelsL_append r b]; omega
theorem levelsL_next {l:List NV} {i:Nat} (h:i<l.length):levelsL (l.take (i+1))=max (levelsL (l.take i)) (levels l[i]):=by
 rw [List.take_add_one,List.getElem?_eq_getElem h,levelsL_append]; simp [levelsL]
mutual
theorem levels_sz:∀ n:NV,levels n≤sz n
 | .mk a b c d e f g h i j ks ss=>by have:=levelsL_sz ks; simp only [levels,sz]; omega
theorem levelsL_sz:∀ l:List NV,levelsL l≤szL l
 | []=>by simp [levelsL,szL]
 | n::r=>by have:=levels_sz n; have:=levelsL_sz r; simp only [levelsL,szL]; omega
end
theorem F48:∀ (N:Nat) (n:NV),sz n<N→sz n<100000000→DFun Tryz.prog W0 60 [encTop n] (Iv (levels n)):=by
 refine fun N=>Nat.rec (fun n h=>absurd h (Nat.not_lt_zero _)) (fun N ih n hN hb=>?_) N
 have hkl:=kids_len n
 have hcs:=levelsL_sz n.kids
 have hse:=sz_eq n
 refine Fi Tryz.func60 rfl Tryz.ntmps60 fun Γ=>?_
 apply Sr;(conv=>whnf);intro b;apply Sr;apply Sq;apply Sr;apply Bk;refine Tri.loop (α:={ i:Nat // i≤n.kids.length }) (fun x=>[(1,.box 1 b 0),(3,Iv (levelsL (n.kids.take x.1):Nat)),(4,Iv x.1)]) (fun _=>[(1,.box b (topCells n))]) (fun x=>n.kids.length-x.1) ⟨0,by omega⟩ Z ⟨rfl,trivial⟩ ?_;rintro ⟨i,hi⟩;dsimp only;apply Sq;apply Sr;apply Rl;refine Cd _ rfl (fun hc=>?_) (fun hc=>?_)
 ·apply Sk;(conv=>whnf)
  have hia:i<n.kids.length:=by simpa using hc
  have hks:=kid_sz hia
  apply Sq;apply Bk;apply Rg;apply Rl;(conv=>whnf);refine Sp ?_;(conv=>whnf);refine ⟨encTop n.kids[i],fun _=>get_kid hia,?_⟩;(conv=>whnf);refine ⟨[encTop n.kids[i]],_,fun _=>ih _ (by omega) (by omega),Z,?_⟩;apply Rg;refine Ir ?_;(conv=>whnf)
  exact ⟨⟨i+1,by omega⟩,by show _-(i+1)<_-i; omega,⟨.refl _,intDLe (by rw [levelsL_next hia]; split<;>omega),.refl _,trivial⟩,⟨rfl,trivial⟩⟩
 refine Tri.exit ?_;apply Sr;(conv=>whnf)
 have hll:n.kids.take i=n.kids:=List.take_of_length_le (by simp at hc; omega)
 refine .inl ⟨fun _=>by simp only [InR]; rw [hll]; omega,?_⟩
 apply Rt;(conv=>whnf)
 exact intDLe (by rw [levels_eq,hll]; omega)
def ssize:List SV→Nat
 | []=>0
 | s::r=>20+s.name.length+s.target.length+ssize r
mutual
def tsize:NV→Nat
 | .mk a _ c d _ _ _ _ _ _ ks ss=>20+a.length+c.length+d.length+ssize ss+tsizeL ks
def tsizeL:List NV→Nat
 | []=>0
 | n::r=>tsize n+tsizeL r
end
theorem tsize_eq (n:NV):tsize n=20+n.name.length+n.text.length+n.target.length+ssize n.streams+tsizeL n.kids:=by cases n; simp only [tsize]
theorem ssize_sz:∀ l:List SV,ssize l≤10*szS l
 | []=>by simp [ssize,szS]
 | s::r=>by have:=ssize_sz r; simp only [ssize,szS]; omega
mutual
theorem tsize_sz:∀ n:NV,tsize n≤n.name.length+10*sz n
 | .mk a b c d e f g h i j ks ss=>by have:=tsizeL_sz ks; have:=ssize_sz ss; simp only [tsize,sz]; omega
theorem tsizeL_sz:∀ l:List NV,tsizeL l≤10*szL l
 | []=>by simp [tsizeL,szL]
 | n::r=>by have:=tsize_sz n; have:=tsizeL_sz r; simp only [tsizeL,szL]; omega
end
theorem ssize_append:∀ a b:List SV,ssize (a++b)=ssize a+ssize b
 | [],b=>by simp [ssize]
 | n::r,b=>by simp only [List.cons_append,ssize]; rw [ssize_append r b]; omega
theorem ssize_next (n:NV) {i:Nat} (h:i<n.streams.length):ssize (n.streams.take (i+1))=ssize (n.streams.take i)+(20+(stAt n i).name.length+(stAt n i).target.length):=by
 rw [List.take_add_one,List.getElem?_eq_getElem h,ssize_append]; simp [ssize,stAt,List.getD,h]
theorem ssize_take:∀ (l:List SV) (i:Nat),ssize (l.take i)≤ssize l
 | [],i=>by simp [ssize]
 | n::r,0=>by simp [ssize]
 | n::r,i+1=>by simp only [List.take_succ_cons,ssize]; have:=ssize_take r i; omega
theorem tsizeL_append:∀ a b:List NV,tsizeL (a++b)=tsizeL a+tsizeL b
 | [],b=>by simp [tsizeL]
 | n::r,b=>by simp only [List.cons_append,tsizeL]; rw [tsizeL_append r b]; omega
theorem tsizeL_next {l:List NV} {i:Nat} (h:i<l.length):tsizeL (l.take (i+1))=tsizeL (l.take i)+tsize l[i]:=by
 rw [List.take_add_one,List.getElem?_eq_getElem h,tsizeL_append]; simp [tsizeL]
theorem tsizeL_take:∀ (l:List NV) (i:Nat),tsizeL (l.take i)≤tsizeL l
 | [],i=>by simp [tsizeL]
 | n::r,0=>by simp [tsizeL]
 | n::r,i+1=>by simp only [List.take_succ_cons,tsizeL]; have:=tsizeL_take r i; omega
theorem F49:∀ (N:Nat) (n:NV),sz n<N→sz n+n.name.length<10000000→DFun Tryz.prog W0 61 [encTop n] (Iv (tsize n)):=by
 refine fun N=>Nat.rec (fun n h=>absurd h (Nat.not_lt_zero _)) (fun N ih n hN hb=>?_) N
 have hkl:=kids_len n
 have hsl:=streams_len n
 have hts:=tsize_sz n
 have hte:=tsize_eq n
 refine Fi Tryz.func61 rfl Tryz.ntmps61 fun Γ=>?_
 apply Sr;(conv=>whnf);intro b;apply Sr;apply Rl;refine Ir ?_;apply Rl;refine Ir ?_;apply Rl;refine Ir ?_;apply Sq;apply Sr;apply Bk;refine Tri.loop (α:={ i:Nat // i≤n.streams.length }) (fun x=>[(1,.box 1 b 0),(3,Iv ((20+n.name.length+n.text.length+n.target.length+ssize (n.streams.take x.1):Nat):Int)),(4,Iv x.1)]) (fun _=>[(1,.box b (topCells n))]) (fun x=>n.streams.length-x.1) ⟨0,by omega⟩ ⟨.refl _,intDLe (by simp [ssize]),.refl _,trivial⟩ ⟨rfl,trivial⟩ ?_;rintro ⟨i,hi⟩;dsimp only;apply Sq;apply Sr;apply Rl;refine Cd _ rfl (fun hc=>?_) (fun hc=>?_)
 ·apply Sk;(conv=>whnf)
  have hia:i<n.streams.length:=by simpa using hc
  have htk:=ssize_take n.streams (i+1)
  have hnx:=ssize_next n hia
  apply Sq;apply Bk;refine Tri.draw ti_ok mixed (by kernel_rfl) ?_;refine Ir ?_;apply Rl;(conv=>whnf);refine Sp ?_;(conv=>whnf);refine ⟨encS (stAt n i),fun _=>get_st n hia,?_⟩;refine Ir ?_;apply Rl;(conv=>whnf);refine Sp ?_;(conv=>whnf);refine ⟨encS (stAt n i),fun _=>get_st n hia,?_⟩;refine Ir ?_;apply Rg;refine Ir ?_;(conv=>whnf)
  exact ⟨⟨i+1,by omega⟩,by show _-(i+1)<_-i; omega,⟨.refl _,intDLe (by rw [hnx]; omega),.refl _,trivial⟩,⟨rfl,trivial⟩⟩
 refine Tri.exit ?_;(conv=>whnf)
 have hall:n.streams.take i=n.streams:=List.take_of_length_le (by simp at hc; omega)
 apply Sq;apply Sr;apply Bk
 refine Tri.loop (α:={ i:Nat // i≤n.kids.length }) (fun x=>[(1,.box 1 b 0),(3,Iv ((20+n.name.length+n.text.length+n.target.length+ssize n.streams+tsizeL (n.kids.take x.1):Nat):Int)),(5,Iv x.1)]) (fun _=>[(1,.box b (topCells n))]) (fun x=>n.kids.length-x.1) ⟨0,by omega⟩ ⟨.refl _,intDLe (by rw [hall]; simp [tsizeL]),.refl _,trivial⟩ ⟨rfl,trivial⟩ ?_
 rintro ⟨i,hi⟩;dsimp only;apply Sq;apply Sr;apply Rl;refine Cd _ rfl (fun hc=>?_) (fun hc=>?_)
 ·apply Sk;(conv=>whnf)
  have hia:i<n.kids.length:=by simpa using hc
  have hks:=kid_sz hia
  have htk:=tsizeL_take n.kids (i+1)
  have hnx:=tsizeL_next hia
  apply Sq;apply Bk;apply Rg;apply Rl;(conv=>whnf);refine Sp ?_;(conv=>whnf);refine ⟨encTop n.kids[i],fun _=>get_kid hia,?_⟩;(conv=>whnf);refine ⟨[encTop n.kids[i]],_,fun _=>ih _ (by omega) (by omega),Z,?_⟩;refine Ir ?_;apply Rg;refine Ir ?_;(conv=>whnf)
  exact ⟨⟨i+1,by omega⟩,by show _-(i+1)<_-i; omega,⟨.refl _,intDLe (by rw [hnx]; omega),.refl _,trivial⟩,⟨rfl,trivial⟩⟩
 refine Tri.exit ?_;apply Sr;apply Rt;(conv=>whnf)
 exact intDLe (by rw [hte,List.take_of_length_le (by simp at hc; omega)])
def few1 (n:NV) (s:Int):Bool:=(decide ((cnt n:Int)≤40)&&decide ((levels n:Int)≤20))&&decide ((tsize n:Int)≤s)
theorem F26 (n:NV) (s:Int) (hn:Fits n):DFun Tryz.prog W0 20 [encTop n,Iv s] (.bool (few1 n s)):=by
 refine Fi Tryz.func20 rfl Tryz.ntmps20 fun Γ=>?_
 apply Sr;(conv=>whnf);intro b;apply Sr;apply Rl;(conv=>whnf)
 unfold Fits at hn
 refine ⟨[encTop n],_,fun _=>F47 _ n (Nat.lt_succ_self _) (by omega),Z,?_⟩;apply Rl;apply Hh;(conv=>whnf);refine ⟨[encTop n],_,fun h=>F48 _ n (Nat.lt_succ_self _) (by omega),Z,?_⟩;apply Hh;refine Pk ?_;apply Rl;apply Hh;(conv=>whnf);refine ⟨[encTop n],_,fun h=>F49 _ n (Nat.lt_succ_self _) (by omega),Z,?_⟩;apply Hh;apply Hh;refine Pk ?_;apply Rt;(conv=>whnf);exact DLe.of_eq (congrArg D.bool (by simp only [few1,← bif_and]))
theorem bl_total:∀ a b:List UInt8,Op.bytesLess a b=false→Op.bytesLess b a=false→a=b
 | [],[],_,_=>rfl
 | [],_::_,h,_=>by simp [Op.bytesLess] at h
 | _::_,[],_,h=>by simp [Op.bytesLess] at h
 | a::xs,b::ys,h,h'=>by
  simp only [Op.bytesLess,Bool.or_eq_false_iff,decide_eq_false_iff_not,Bool.and_eq_false_iff,beq_eq_false_iff_ne] at h h'
  have hab:a=b:=UInt8.le_antisymm (UInt8.not_lt.1 h'.1) (UInt8.not_lt.1 h.1)
  subst hab
  rw [bl_total xs ys (by rcases h.2 with h|h; exact absurd rfl h; exact h) (by rcases h'.2 with h|h; exact absurd rfl h; exact h)]
def inc (l:List NV):Prop:=∀ i,i+1<l.length→Op.bytesLess (l.getD i default).name (l.getD (i+1) default).name=true
end Go.Tame.V



namespace Go.Tame.V
open Go Go.Proofs
variable {W0:World}
def leaf (nm tx:List UInt8):NV:=⟨nm,1,tx,[],0,0,0,315532800,0,0,[],[]⟩
noncomputable def eqT (a b:NV):Bool:=@decide (a=b) (Classical.propDecidable _)
theorem eqT_iff {a b:NV}:eqT a b=true↔a=b:=@decide_eq_true_iff _ (Classical.propDecidable _)
theorem eqT_ne {a b:NV} (h:a≠b):eqT a b=false:=@decide_eq_false _ (Classical.propDecidable _) h
theorem eqT_rfl (a:NV):eqT a a=true:=eqT_iff.2 rfl
theorem F25:∀ (N:Nat) (a b:NV),sz a<N→sz a<100000000→DFun Tryz.prog W0 11 [encTop a,encTop b] (.bool (eqT a b)):=by
 refine fun N=>Nat.rec (fun a b h=>absurd h (Nat.not_lt_zero _)) (fun N ih a b hN hz=>?_) N
 have hsze:=sz_eq a
 have hkk:=szL_len a.kids
 have hss:=szS_len a.streams
 refine Fi Tryz.func11 rfl Tryz.ntmps11 fun Γ=>?_
 apply Sr;(conv=>whnf);intro b2;(conv=>whnf);intro b3;apply Sq;apply Sr;apply Rl;apply Rl;apply Hh;apply Rl;apply Hh;apply Rl;apply Hh;apply Hh;refine Pk ?_;apply Hh;apply Rl;apply Hh;apply Rl;apply Hh;apply Hh;refine Pk ?_;apply Hh;apply Rl;apply Hh;apply Rl;apply Hh;apply Hh;refine Pk ?_;apply Hh;apply Rl;apply Hh;apply Rl;apply Hh;apply Hh;refine Pk ?_;apply Hh;apply Rl;apply Hh;apply Rl;apply Hh;apply Hh;refine Pk ?_;apply Hh;apply Rl;apply Hh;apply Rl;apply Hh;apply Hh;refine Pk ?_;apply Hh;apply Rl;apply Hh;apply Rl;apply Hh;apply Hh;refine Pk ?_;apply Hh;apply Rl;apply Hh;apply Rl;apply Hh;apply Hh;refine Pk ?_;apply Hh;apply Rl;apply Hh;apply Rl;apply Hh;apply Hh;refine Pk ?_;apply Hh;apply Rl;apply Hh;apply Hh;apply Rl;apply Hh;apply Hh;apply Hh;refine Pk ?_;apply Hh;apply Rl;apply Hh;apply Hh;apply Rl;apply Hh;apply Hh;apply Hh;refine Pk ?_;refine Cd _ rfl (fun hc=>?_) (fun hc=>?_)
 ·apply Sr;apply Rt;(conv=>whnf);refine DLe.of_eq (congrArg D.bool (eqT_ne fun e=>?_).symm);subst e
  simp at hc
 apply Sk;(conv=>whnf);simp only [bif_or,Bool.or_eq_false_iff,Bool.not_eq_false',beq_iff_eq,List.length_map,Int.ofNat_inj,bne_eq_false_iff_eq] at hc;obtain ⟨⟨⟨⟨⟨⟨⟨⟨⟨⟨⟨e1,e2⟩,e3⟩,e4⟩,e5⟩,e6⟩,e7⟩,e8⟩,e9⟩,e10⟩,e11⟩,e12⟩:=hc;apply Sq;apply Sr;apply Bk
 refine Tri.loopK (α:={ i:Nat // i≤a.streams.length∧a.streams.take i=b.streams.take i }) (fun x=>[(2,.box 2 b2 0),(3,.box 3 b3 0),(5,Iv x.1)]) (fun x=>[(2,.box b2 [.str a.name,Iv a.kind,.str a.text,.str a.target,Iv a.n1,Iv a.n2,Iv a.n3,Iv a.n4,Iv a.n5,Iv a.n6,.sl .none 12 (a.kids.map enc),.sl .none 2 (a.streams.map encS)]),(3,.box b3 [.str b.name,Iv b.kind,.str b.text,.str b.target,Iv b.n1,Iv b.n2,Iv b.n3,Iv b.n4,Iv b.n5,Iv b.n6,.sl .none 12 (b.kids.map enc),.sl .none 2 (b.streams.map encS)])]) (fun x=>a.streams.length-x.1) ⟨0,Nat.zero_le _,rfl⟩ [(2,2),(3,3)]
  ⟨Z,rfl,Y⟩ ?_
 rintro ⟨i,hi,hp⟩;dsimp only at hi hp ⊢;apply Sq;apply Sr;apply Rl;refine Cd _ rfl (fun hc=>?_) (fun hc=>?_)
 ·apply Sk;(conv=>whnf)
  have hia:i<a.streams.length:=by simpa using hc
  have hib:i<b.streams.length:=by omega
  apply Sq;apply Bk;apply Sq;refine Tri.draw ti_ok mixed (by kernel_rfl) ?_;apply Rl;(conv=>whnf);refine Sp ?_;(conv=>whnf);refine ⟨encS a.streams[i],fun _=>get_map _ hia,?_⟩;apply Rl;(conv=>whnf);refine Sp ?_;(conv=>whnf);refine ⟨encS b.streams[i],fun _=>get_map _ hib,?_⟩;refine Cd _ rfl (fun hc=>?_) (fun hc=>?_)
  ·apply Sr;apply Rt;(conv=>whnf);refine DLe.of_eq (congrArg D.bool (eqT_ne fun e=>?_).symm);subst e
   simp at hc
  apply Sk;(conv=>whnf)
  have he:a.streams[i]=b.streams[i]:=by
   simp at hc
   cases h1:a.streams[i]; cases h2:b.streams[i]; simp_all
  apply Rg;refine Ir ?_;(conv=>whnf)
  exact ⟨⟨i+1,hia,take_next hia hib hp he⟩,[(2,2),(3,3)],by show a.streams.length-(i+1)<a.streams.length-i; omega,Z,rfl,Y⟩
 refine Tri.exit ?_;(conv=>whnf)
 have hst:a.streams=b.streams:=of_decide_eq_true (eq_of_take e12 (by simpa using hc) hp).symm
 apply Sq;apply Sr;apply Bk
 refine Tri.loopK (α:={ i:Nat // i≤a.kids.length∧a.kids.take i=b.kids.take i }) (fun x=>[(2,.box 2 b2 0),(3,.box 3 b3 0),(6,Iv x.1)]) (fun x=>[(2,.box b2 [.str a.name,Iv a.kind,.str a.text,.str a.target,Iv a.n1,Iv a.n2,Iv a.n3,Iv a.n4,Iv a.n5,Iv a.n6,.sl .none 12 (a.kids.map enc),.sl .none 2 (a.streams.map encS)]),(3,.box b3 [.str b.name,Iv b.kind,.str b.text,.str b.target,Iv b.n1,Iv b.n2,Iv b.n3,Iv b.n4,Iv b.n5,Iv b.n6,.sl .none 12 (b.kids.map enc),.sl .none 2 (b.streams.map encS)])]) (fun x=>a.kids.length-x.1) ⟨0,Nat.zero_le _,rfl⟩ [(2,2),(3,3)]
  ⟨Z,rfl,Y⟩ ?_
 rintro ⟨i,hi,hp⟩;dsimp only at hi hp ⊢;apply Sq;apply Sr;apply Rl;refine Cd _ rfl (fun hc=>?_) (fun hc=>?_)
 ·apply Sk;(conv=>whnf)
  have hia:i<a.kids.length:=by simpa using hc
  have hib:i<b.kids.length:=by omega
  have hkz:=kid_sz hia
  apply Sq;apply Bk;apply Sq;refine Tri.draw ti_ok mixed (by kernel_rfl) ?_;apply Rl;(conv=>whnf);refine Sp ?_;(conv=>whnf);refine ⟨encTop a.kids[i],fun _=>get_kids hia,?_⟩;apply Rl;(conv=>whnf);refine Sp ?_;(conv=>whnf);refine ⟨encTop b.kids[i],fun _=>get_kids hib,?_⟩;(conv=>whnf);refine ⟨[encTop a.kids[i],encTop b.kids[i]],_,fun _=>ih a.kids[i] b.kids[i] (by omega) (by omega),Z,?_⟩;refine Cd _ rfl (fun hc=>?_) (fun hc=>?_)
  ·apply Sr;apply Rt;(conv=>whnf);refine DLe.of_eq (congrArg D.bool (eqT_ne fun e=>?_).symm);subst e;rw [eqT_rfl] at hc
   cases hc
  apply Sk;(conv=>whnf)
  have he:a.kids[i]=b.kids[i]:=by
   refine eqT_iff.1 ?_
   cases h:eqT a.kids[i] b.kids[i] with
   | true=>rfl
   | false=>rw [h] at hc; cases hc
  apply Rg;refine Ir ?_;(conv=>whnf)
  exact ⟨⟨i+1,hia,take_next hia hib hp he⟩,[(2,2),(3,3)],by show a.kids.length-(i+1)<a.kids.length-i; omega,Z,rfl,Y⟩
 refine Tri.exit ?_;apply Sr;apply Rt;(conv=>whnf)
 have hin:¬ i<a.kids.length:=by simpa using hc
 have hkd:a.kids=b.kids:=by
  rw [List.take_of_length_le (by omega),List.take_of_length_le (by omega)] at hp;exact hp
 refine DLe.of_eq (congrArg D.bool (eqT_iff.2 ?_).symm)
 cases a; cases b
 simp_all
theorem F104 (ss:List SV) (h:ss.length<1000000000):DFun Tryz.prog W0 62 [.sl .none 2 (ss.map encS)] (.sl .none 2 (ss.map encS)):=by
 refine Fi Tryz.func62 rfl Tryz.ntmps62 fun Γ=>?_
 apply Sr;apply S2;refine Tri.regionX ti_ok ?_;(conv=>whnf);refine .inr (XOp.nilEq (el:=70) ti_ok rfl rfl rfl fun nb hnb=>?_);refine Cd _ rfl (fun hc=>?_) (fun hc=>?_)
 ·apply Sr;apply Rt;(conv=>whnf)
  have hnil:=hnb hc
  rw [hnil];exact DLe.nil
 apply Sk;apply Sr;(conv=>whnf);refine ⟨trivial,?_⟩;(conv=>whnf)
 refine ⟨by show (0+(ss.map encS).length)*32≤_; simp; omega,by show 0+(ss.map encS).length≤_; simp; omega,(fun h=>by cases h),fun v=>?_⟩
 apply Rt;(conv=>whnf);exact DLe.trans (DLe.of_eq (congrArg (D.sl _ 2) (List.nil_append _))) DLe.unown
def encI (im:List (List UInt8)):D:=.sl .none 1 (im.map D.str)
def at0 (im:List (List UInt8)) (a:Int):List UInt8:=(im[a.toNat]?).getD []
def blk (im:List (List UInt8)) (a:Int):Option (List UInt8):=if 0≤a∧a<im.length∧(at0 im a).length=2048 then some (at0 im a) else none
theorem at0_get {im:List (List UInt8)} {a:Int} (h0:0≤a) (h1:a<im.length):(im.map D.str)[a.toNat]? = some (.str (at0 im a)):=by
 have h:a.toNat<im.length:=by omega
 simp [at0,List.getElem?_map,List.getElem?_eq_getElem h]
theorem blk_is (im:List (List UInt8)) (a:Int):(blk im a).isSome=(decide (0≤a)&&(decide (a<im.length)&&((at0 im a).length==2048))):=by
 unfold blk
 by_cases h:0≤a∧a<im.length∧(at0 im a).length=2048
 ·rw [if_pos h]; simp [h.1,h.2.1,h.2.2]
 rw [if_neg h]
 cases h1:(decide (0≤a)&&(decide (a<im.length)&&((at0 im a).length==2048))) with
 | false=>rfl
 | true=>simp at h1; exact absurd h1 h
theorem F57 (im:List (List UInt8)) (a:Int) (hl:im.length<1000000000):DFun Tryz.prog W0 57 [encI im,Iv a] (.bool (blk im a).isSome):=by
 refine Fi Tryz.func57 rfl Tryz.ntmps57 fun Γ=>?_
 apply Sr;apply Sr;apply Hh;apply Hh;apply Hh;refine Pk ?_;apply Hh;apply Hh;(conv=>whnf)
 refine ⟨fun h=>by simp at h ⊢; omega,?_⟩
 apply Hh;(conv=>whnf)
 refine ⟨.str (at0 im a),fun h=>by simp at h; exact at0_get (by omega) (by omega),?_⟩
 apply Hh;apply Hh;refine Pk ?_;apply Rt;(conv=>whnf);refine DLe.of_eq (congrArg D.bool ?_);rw [blk_is,List.length_map]
 have e:(((at0 im a).length:Int)==2048)=((at0 im a).length==2048):=by rw [Bool.eq_iff_iff]; simp; omega
 rw [e]; cases decide (0≤a)<;>cases decide (a<(im.length:Int))<;>rfl
theorem F66 (im:List (List UInt8)) (a:Int) (hl:im.length<1000000000):DFun Tryz.prog W0 66 [encI im,Iv a] (.tup [.str ((blk im a).getD []),.bool (blk im a).isSome]):=by
 refine Fi Tryz.func66 rfl Tryz.ntmps66 fun Γ=>?_
 apply Sr;apply Sq;apply Sr;apply Hh;apply Hh;apply Hh;refine Pk ?_;apply Hh;apply Hh;(conv=>whnf)
 refine ⟨fun h=>by simp at h ⊢; omega,?_⟩
 apply Hh;(conv=>whnf)
 refine ⟨.str (at0 im a),fun h=>by simp at h; exact at0_get (by omega) (by omega),?_⟩
 apply Hh;apply Hh;refine Pk ?_;refine Cd _ rfl (fun hc=>?_) (fun hc=>?_)
 ·apply Sr;apply Rt;(conv=>whnf)
  have hb:blk im a=none:=by unfold blk; exact if_neg (by simp at hc; omega)
  rw [hb]; exact Z
 apply Sk;apply Sq
 have hb:0≤a∧a<im.length∧(at0 im a).length=2048:=by simp at hc; omega
 apply Rg;(conv=>whnf);refine Sp ?_;(conv=>whnf);refine ⟨.str (at0 im a),fun _=>at0_get (by omega) (by omega),?_⟩;apply Rt;(conv=>whnf)
 have hs:blk im a=some (at0 im a):=by unfold blk; exact if_pos hb
 rw [hs]; exact Z
theorem F28 (n:Int) (h0:0≤n) (h1:n≤1000000000):DFun Tryz.prog W0 28 [Iv n] (Iv ((n+2047)/2048)):=by
 refine Fi Tryz.func28 rfl Tryz.ntmps28 fun Γ=>?_
 apply Sr;apply Sr;refine Ir ?_;refine Ir ?_;(conv=>whnf);refine ⟨fun _=>by omega,?_⟩;(conv=>whnf)
 refine .inl ⟨fun _=>by rw [Int.tdiv_eq_ediv_of_nonneg (by omega)]; simp only [InR]; omega,?_⟩
 apply Rt;(conv=>whnf)
 exact DLe.of_eq (congrArg (D.int .i64) (by rw [Int.tdiv_eq_ediv_of_nonneg (by omega)]; omega))
def okBlk (s:List UInt8):Bool:=(s.length==2048)||(s==[])||(s==[33])
def imOk (im:List (List UInt8)) (m:Int):Bool:=decide ((im.length:Int)≤m)&&im.all okBlk
theorem F5 (im:List (List UInt8)) (m:Int) (hl:im.length<1000000000):DFun Tryz.prog W0 5 [encI im,Iv m] (.bool (imOk im m)):=by
 refine Fi Tryz.func5 rfl Tryz.ntmps5 fun Γ=>?_
 apply Sr;apply Sq;apply Sr;refine Cd _ rfl (fun hc=>?_) (fun hc=>?_)
 ·apply Sr;apply Rt;(conv=>whnf)
  have hm:¬ (im.length:Int)≤m:=by simp at hc; omega
  refine DLe.of_eq (congrArg D.bool ?_)
  rw [imOk,decide_eq_false hm]; rfl
 apply Sk;apply S2
 have hm:(im.length:Int)≤m:=by simp at hc; omega
 apply Rg;apply Bk;refine Tri.loop (α:={ i:Nat // i≤im.length∧(im.take i).all okBlk=true }) (fun x=>[(0,encI im),(5,Iv x.1)]) (fun _=>[]) (fun x=>im.length-x.1) ⟨0,Nat.zero_le _,rfl⟩ Z trivial ?_;rintro ⟨i,hi,hp⟩;dsimp only at hi hp ⊢;apply Sq;apply Sr;refine Cd _ rfl (fun hc=>?_) (fun hc=>?_)
 ·apply Sk;apply Sq;apply Bk
  have hi2:i<im.length:=by simpa using hc
  have hg:(im.map D.str)[i]? = some (.str im[i]):=by simp [hi2]
  apply Sr;(conv=>whnf);refine Sp ?_;(conv=>whnf);refine ⟨.str im[i],fun _=>hg,?_⟩;apply Hh;apply Hh;(conv=>whnf);refine Sp ?_;apply Hh;(conv=>whnf);refine ⟨.str im[i],fun _=>hg,?_⟩;apply Hh;refine Pk ?_;apply Hh;apply Hh;(conv=>whnf);refine Sp ?_;apply Hh;(conv=>whnf);refine ⟨.str im[i],fun _=>hg,?_⟩;apply Hh;refine Pk ?_;refine Cd _ rfl (fun hc=>?_) (fun hc=>?_)
  ·apply Sr;apply Rt;(conv=>whnf)
   have hk:okBlk im[i]=false:=by
    simp at hc; simp [okBlk]; exact ⟨⟨by omega,hc.1.2⟩,hc.2⟩
   refine DLe.of_eq (congrArg D.bool ?_)
   have hn:im.all okBlk=false:=by
    rw [List.all_eq_false]; exact ⟨im[i],List.getElem_mem hi2,by simp [hk]⟩
   rw [imOk,hn,Bool.and_false]
  apply Sk
  have hk:okBlk im[i]=true:=by
   simp at hc; simp [okBlk]
   by_cases h1:im[i].length=2048
   ·exact .inl (.inl h1)
   by_cases h2:im[i]=[]
   ·exact .inl (.inr h2)
   exact .inr (hc (by omega) h2)
  apply Rg;refine Ir ?_;(conv=>whnf)
  exact ⟨⟨i+1,hi2,by rw [List.take_succ_eq_append_getElem hi2,List.all_append,hp]; simp [hk]⟩,by show im.length-(i+1)<im.length-i; omega,Z,trivial⟩
 refine Tri.exit ?_
 have hi2:i=im.length:=by simp at hc; omega
 apply Sr;apply Rt;(conv=>whnf);refine DLe.of_eq (congrArg D.bool ?_);subst hi2
 rw [imOk,decide_eq_true hm]; rw [List.take_length] at hp; rw [hp]; rfl
structure FV where
 path:List UInt8
 start:Int
 len:Int
 deriving DecidableEq,Inhabited
def encF (f:FV):D:=.agg [.str f.path,Iv f.start,Iv f.len]
def encFs (l:List FV):D:=.sl .none 3 (l.map encF)
theorem F12 (a b:List FV) (ha:a.length<1000000000) (hb:b.length<1000000000):DFun Tryz.prog W0 12 [encFs a,encFs b] (.bool (decide (a=b))):=by
 refine Fi Tryz.func12 rfl Tryz.ntmps12 fun Γ=>?_
 apply Sr;apply Sq;apply Sr;refine Cd _ rfl (fun hc=>?_) (fun hc=>?_)
 ·apply Sr;apply Rt;(conv=>whnf)
  have hm:a≠b:=by rintro rfl; simp at hc
  exact DLe.of_eq (congrArg D.bool (decide_eq_false hm).symm)
 apply Sk;apply S2
 have hm:a.length=b.length:=by simp at hc; omega
 apply Rg;apply Bk;refine Tri.loop (α:={ i:Nat // i≤a.length∧a.take i=b.take i }) (fun x=>[(0,encFs a),(1,encFs b),(5,Iv x.1)]) (fun _=>[]) (fun x=>a.length-x.1) ⟨0,Nat.zero_le _,rfl⟩ Z trivial ?_;rintro ⟨i,hi,hp⟩;dsimp only at hi hp ⊢;apply Sq;apply Sr;refine Cd _ rfl (fun hc=>?_) (fun hc=>?_)
 ·apply Sk;apply Sq;apply Bk
  have hi2:i<a.length:=by simpa using hc
  have hi3:i<b.length:=by omega
  apply Sq;refine Tri.draw ti_ok mixed (by kernel_rfl) ?_;(conv=>whnf);refine Sp ?_;(conv=>whnf);refine ⟨encF a[i],fun _=>get_map _ hi2,?_⟩;(conv=>whnf);refine Sp ?_;(conv=>whnf);refine ⟨encF b[i],fun _=>get_map _ hi3,?_⟩;refine Cd _ rfl (fun hc=>?_) (fun hc=>?_)
  ·apply Sr;apply Rt;(conv=>whnf)
   have hm:a≠b:=by rintro rfl; simp at hc
   exact DLe.of_eq (congrArg D.bool (decide_eq_false hm).symm)
  apply Sk
  have he:a[i]=b[i]:=by
   simp at hc
   cases h1:a[i]; cases h2:b[i]; simp_all
  apply Rg;refine Ir ?_;(conv=>whnf)
  exact ⟨⟨i+1,hi2,take_next hi2 hi3 hp he⟩,by show a.length-(i+1)<a.length-i; omega,Z,trivial⟩
 refine Tri.exit ?_
 have hi2:i=a.length:=by simp at hc; omega
 apply Sr;apply Rt;(conv=>whnf);refine DLe.of_eq (congrArg D.bool ?_);subst hi2;rw [List.take_length,hm,List.take_length] at hp;exact (decide_eq_true hp).symm
open Go.RowKit
set_option maxRecDepth 100000
theorem u127 : Tryz.prog.underlying 127 = some (.pointer 130):=by kernel_rfl
theorem u324 : Tryz.prog.underlying 324 = some .unsafePointer:=by kernel_rfl
theorem u128 : Tryz.prog.underlying 128 = some (.slice 5):=by kernel_rfl
theorem u9 : Tryz.prog.underlying 9 = some .string:=by kernel_rfl
theorem s130 : (Tryz.prog.info? 130).map (·.size) = some 2:=by kernel_rfl
theorem i5 : (Tryz.prog.info? 5).map (fun i => (i.zero,i.size,i.bytes)) = some (some (.int .u8 0),1,1):=by kernel_rfl
theorem l130 : liesAt Tryz.prog Tryz.prog.depth 130 (2 / Tryz.prog.cellsOf 130) 0 130 1 = true:=by kernel_rfl
set_option maxHeartbeats 1000000 in
theorem cc_used (b : Nat) (w : World) (h0 : w.cell? ⟨b,0,none⟩ = some (.pointer (some ⟨b,0,none⟩))) :
  Calls Tryz.prog 133 #[.pointer (some ⟨b,0,none⟩)] w fun e w' => e = .returned (.tuple #[]) ∧ w' = w:=by
 obtain ⟨j,hj,_⟩:=Option.map_eq_some_iff.1 s130
 go_enter Tryz.func133,Tryz.ntmps133
 go_wp2
 rw [Lib.run_neq_ptr_same w _ u127 hj]
 go_wp2
 go_end0
 exact ⟨rfl,rfl⟩
set_option maxHeartbeats 1000000 in
theorem cc_fresh (b : Nat) (w : World) (h0 : w.cell? ⟨b,0,none⟩ = some (.pointer none)) (hsh : w.shape? b = some (130,2)) (hfz : w.frozen? ⟨b,0,none⟩ = false) :
  Calls Tryz.prog 133 #[.pointer (some ⟨b,0,none⟩)] w fun e w' => e = .returned (.tuple #[]) ∧ w' = w.setCell ⟨b,0,none⟩ (.pointer (some ⟨b,0,none⟩)):=by
 obtain ⟨j,hj,hjs⟩:=Option.map_eq_some_iff.1 s130
 go_enter Tryz.func133,Tryz.ntmps133
 go_wp2
 rw [Lib.run_to_unsafe w ⟨b,0,none⟩ u127 u324 hj (by rw [hjs]; decide) hsh (Nat.zero_lt_succ 1)]
 simp only [Result.andThen]
 rw [Oper.upon_value]
 go_wp2
 rw [run_callFunc_extern Tryz.func217 (by kernel_rfl) (by kernel_rfl) (by kernel_rfl) (e:=Extern.AbiNoEscape.same) (by kernel_rfl)]
 rw [Lib.run_noEscape]
 simp only [Result.andThen]
 rw [Oper.upon_value]
 go_wp2
 rw [Lib.run_from_unsafe w ⟨b,0,none⟩ u324 u127 hj hsh l130]
 simp only [Result.andThen]
 rw [Oper.upon_value]
 go_wp2
 go_end0
 exact ⟨rfl,rfl⟩
theorem cc_any (B b : Nat) (bs : List Value) (w : World) (h : Lib.IsBuilderF 130 5 B b bs w) :
  Calls Tryz.prog 133 #[.pointer (some ⟨b,0,none⟩)] w fun e w' => e = .returned (.tuple #[]) ∧ Lib.BuilderAtF 130 5 B b (.pointer (some ⟨b,0,none⟩)) bs w' ∧ Below B w w':=by
 rcases h with h | h
 ·have h0:=h
  obtain ⟨hB,v,hbk,hown,hne⟩:=h
  refine (cc_fresh b w (by rw [Lib.cell_of_heap hbk]; rfl) (by simp [World.shape?,hbk]) (Lib.frozen_of_heap hbk 0)).mono ?_
  rintro e w' ⟨rfl,rfl⟩
  exact ⟨rfl,Lib.BuilderAtF.used h0 _,(Below.refl _ _).setCell hB _⟩
 ·have h':=h
  obtain ⟨hB,v,hbk,hown,hne⟩:=h
  refine (cc_used b w (by rw [Lib.cell_of_heap hbk]; rfl)).mono ?_
  rintro e w' ⟨rfl,rfl⟩
  exact ⟨rfl,h',.refl _ _⟩
set_option maxHeartbeats 2000000 in
theorem bWrite (B b : Nat) (bs : List Value) (s : ByteArray) (w : World) (h : Lib.IsBuilderF 130 5 B b bs w) (hlen : bs.length + s.size ≤ 140737488355328) (hBw : B ≤ w.heap.size) :
  Calls Tryz.prog 64 #[.pointer (some ⟨b,0,none⟩),.string s] w fun e w' => e = .returned (.tuple #[.int .i64 s.size,.nilIface]) ∧ Lib.BuilderAtF 130 5 B b (.pointer (some ⟨b,0,none⟩)) (bs ++ Lib.strCells s) w' ∧ Below B w w':=by
 obtain ⟨i0,hi,hi2⟩:=Option.map_eq_some_iff.1 i5
 have hz0 : i0.zero = some (.int .u8 0):=congrArg (·.1) hi2
 have hz1 : i0.size = 1:=congrArg (·.2.1) hi2
 have hz2 : i0.bytes = 1:=congrArg (·.2.2) hi2
 go_enter Tryz.func64,Tryz.ntmps64
 go_wp2_with (go_at_call 133; refine (cc_any B b bs _ h).mono ?_)
 rintro e w1 ⟨rfl,h1,hb1⟩
 obtain ⟨hB,v,hbk,hown,hne⟩:=h1
 have c1 : w1.cell? ⟨b,1,none⟩ = some v:=by rw [Lib.cell_of_heap hbk]; rfl
 go_wp2_with (at_builtin; refine Lib.wpList_append_own_stringF _ rfl _ _ 128 9 rfl B 5 i0 u128 u9 hi hz0 hz1 hz2 _ _ _ rfl hown s rfl ?c3 ?c4 ?c5 ?_)
 case c3 => unfold maxLen; omega
 case c4 => omega
 case c5 => have:=hb1.size; omega
 intro v' w2 hown' hgrow _
 have hlt : b < w1.heap.size:=by
  rcases Nat.lt_or_ge b w1.heap.size with h' | h'
  ·exact h'
  ·simp [Array.getElem?_eq_none h'] at hbk
 have hb2 : w2.heap[b]? = some (.cells #[.pointer (some ⟨b,0,none⟩),v] 130 (0,0)):=by
  rw [hgrow.block b hlt (fun e => hne e.symm)]
  exact hbk
 have d1 : w2.cell? ⟨b,1,none⟩ = some v:=by rw [Lib.cell_of_heap hb2]; rfl
 have f1 : w2.frozen? ⟨b,1,none⟩ = false:=Lib.frozen_of_heap hb2 1
 obtain ⟨ao,n',cap,rfl⟩ : ∃ ao n' cap,v' = .slice ao n' cap:=by
  rcases hown'.2 with ⟨hv,_⟩ | ⟨g,cap,cur,fz,hv,_⟩
  ·exact ⟨_,_,_,hv⟩
  ·exact ⟨_,_,_,hv⟩
 go_wp2
 go_ret2
 refine ⟨rfl,?_,?_⟩
 ·exact Lib.BuilderAtF.put (T:=130) (e:=5) hB hb2 (bs':=bs ++ Lib.strCells s) (by simpa [Lib.strCells_length] using hown') (by decide)
 ·exact (hb1.grown hgrow (by have:=hb1.size; omega) (fun k hk => (hown.lt k hk).1)).setCell (p:=⟨b,1,none⟩) hB _
set_option maxRecDepth 100000
set_option linter.unusedVariables false
def bad (im : List (List UInt8)) (a : Int) : Nat → Option Int
 | 0 => none
 | k + 1 => match bad im a k with
  | some x => some x
  | none => if (blk im (a + k)).isSome then none else some (a + k)
def cat (im : List (List UInt8)) (a : Int) : Nat → List UInt8
 | 0 => []
 | k + 1 => cat im a k ++ at0 im (a + k)
theorem bad_mono {im : List (List UInt8)} {a : Int} {x : Int} : ∀ {i k : Nat},i ≤ k → bad im a i = some x → bad im a k = some x
 | i, 0, h, hb => by obtain rfl : i = 0 := by omega
                     exact hb
 | i,k + 1,h,hb => by
  rcases Nat.lt_or_ge i (k + 1) with h1 | h1
  ·have:=bad_mono (k:=k) (by omega) hb
   simp only [bad,this]
  ·obtain rfl : i = k + 1:=by omega
   exact hb
theorem blk_some {im : List (List UInt8)} {a : Int} (h : (blk im a).isSome = true) : 0 ≤ a ∧ a < im.length ∧ (at0 im a).length = 2048:=by
 unfold blk at h
 by_cases h1 : 0 ≤ a ∧ a < im.length ∧ (at0 im a).length = 2048
 ·exact h1
 ·rw [if_neg h1] at h; cases h
theorem bad_step {im : List (List UInt8)} {a : Int} {k : Nat} (h : bad im a k = none) (hs : (blk im (a + k)).isSome = true) : bad im a (k + 1) = none:=by
 simp only [bad,h,hs,if_true]
theorem bad_hit {im : List (List UInt8)} {a : Int} {k : Nat} (h : bad im a k = none) (hs : (blk im (a + k)).isSome = false) : bad im a (k + 1) = some (a + k):=by
 simp only [bad,h,hs]; rfl
theorem bad_prev {im : List (List UInt8)} {a : Int} {k : Nat} (h : bad im a (k + 1) = none) : bad im a k = none ∧ (blk im (a + k)).isSome = true:=by
 simp only [bad] at h
 cases hb : bad im a k with
 | some x => rw [hb] at h; cases h
 | none =>
  rw [hb] at h
  cases hs : (blk im (a + k)).isSome with
  | true => exact ⟨rfl,rfl⟩
  | false => rw [hs] at h; cases h
theorem bad_end {im : List (List UInt8)} {a : Int} : ∀ {k : Nat},bad im a k = none → 0 < k → 0 ≤ a ∧ a + k ≤ im.length
 | k + 1,h,_ => by
  obtain ⟨h1,h2⟩:=bad_prev h
  obtain ⟨h3,h4,_⟩:=blk_some h2
  rcases Nat.eq_zero_or_pos k with rfl | hk
  ·constructor <;> omega
  ·have:=bad_end h1 hk; constructor <;> omega
theorem cat_len {im : List (List UInt8)} {a : Int} : ∀ {k : Nat},bad im a k = none → (cat im a k).length = 2048 * k
 | 0,_ => rfl
 | k + 1,h => by
  obtain ⟨h1,h2⟩:=bad_prev h
  simp only [cat,List.length_append,cat_len h1,(blk_some h2).2.2]; omega
def nblk (n : Int) : Nat:=((n + 2047) / 2048).toNat
theorem cellI {w : World} {C : Nat → Nat} {im : List (List UInt8)} {img : Value} (hr : Rep w C (encI im) img) {i : Nat} (h : i < im.length) :
  ∃ b o cap,img = .slice (some ⟨b,o,none⟩) im.length cap ∧ b < w.heap.size ∧ w.cell? ⟨b,o + i,none⟩ = some (.string ⟨⟨im[i]⟩⟩):=by
 rcases hr.sl_inv with ⟨he,_⟩ | ⟨b,o,cap,g,rfl,h1,h2,h3,h4,h5,h6,h7,h8,h9⟩
 ·exfalso; simp at he; subst he; simp at h
 ·have hf : (flat (im.map D.str))[i]? = some (.str im[i]):=by
   rw [flat_one (fun x hx => by obtain ⟨s,_,rfl⟩:=List.mem_map.1 hx; rfl)]
   simp [h]
  refine ⟨b,o,cap,by rw [List.length_map],h2,?_⟩
  rw [h7 i _ hf,(h9 i _ hf).str_inv]
theorem c57 {w wr : World} {C : Nat → Nat} {im : List (List UInt8)} {img : Value} (hr : Rep w C (encI im) img) (hl : im.length < 1000000000) (hb : Below w.heap.size w wr) (x : Int) :
  Calls Tryz.prog 57 #[img,.int .i64 x] wr fun e w2 => e = .returned (.bool (blk im x).isSome) ∧ Below wr.heap.size wr w2:=by
 refine ((F57 (W0:=w) im x hl).2 wr C [img,.int .i64 x] hb (.cons (hr.ext (Step.below hb).ext) (.cons (.int _ _) (.nil _ _)))).mono ?_
 rintro e w2 ⟨v,C',rfl,hv,hs⟩
 rw [hv.bool_inv]
 exact ⟨rfl,Base.step (Below.refl _ _) hs fun _ h => h.elim⟩
theorem bld_keep {T e : TypeId} {B b : Nat} {bs : List Value} {w w2 : World} (h : Lib.IsBuilderF T e B b bs w) (hb : Below w.heap.size w w2) : Lib.IsBuilderF T e B b bs w2:=by
 have key : ∀ p,Lib.BuilderAtF T e B b p bs w → Lib.BuilderAtF T e B b p bs w2:=by
  rintro p ⟨hB,v,hbk,⟨hl,hown⟩,hne⟩
  have up : ∀ {k : Nat} {o : Obj},w.heap[k]? = some o → w2.heap[k]? = some o:=fun {k o} hk => by
   have hlt : k < w.heap.size:=by
    rcases Nat.lt_or_ge k w.heap.size with h' | h'
    ·exact h'
    ·rw [Array.getElem?_eq_none h'] at hk; cases hk
   rw [hb.block _ hlt]; exact hk
  refine ⟨hB,v,up hbk,⟨hl,?_⟩,hne⟩
  rcases hown with hn | ⟨g,cap,cur,fz,e1,e2,e3,rest⟩
  ·exact .inl hn
  ·exact .inr ⟨g,cap,cur,fz,e1,e2,up e3,rest⟩
 rcases h with h | h
 ·exact .inl (key _ h)
 ·exact .inr (key _ h)
theorem ext_take (l : List UInt8) (n : Nat) : (⟨l.toArray⟩ : ByteArray).extract 0 n = ⟨(l.take n).toArray⟩:=bytes_extract l 0 n
def Cpost (im : List (List UInt8)) (a n : Int) (w : World) (e : Ending) (w' : World) : Prop :=
 Below w.heap.size w w' ∧ match bad im a (nblk n) with
  | none => e = .returned (.tuple #[.string ⟨⟨(cat im a (nblk n)).take n.toNat⟩⟩,.pointer none])
  | some x => ∃ p,e = .returned (.tuple #[.string ⟨#[]⟩,.pointer (some ⟨p,0,none⟩)]) ∧ w'.cell? ⟨p,0,none⟩ = some (.int .i64 x) ∧ w'.cell? ⟨p,1,none⟩ = some (.int .i64 9)
theorem at0_eq {im : List (List UInt8)} {a : Int} (h : a.toNat < im.length) : at0 im a = im[a.toNat]:=by
 simp [at0,List.getElem?_eq_getElem h]
set_option maxHeartbeats 4000000 in
theorem c26 {w : World} {C : Nat → Nat} {im : List (List UInt8)} {img : Value} (hr : Rep w C (encI im) img) (hl : im.length < 1000000) (a n : Int) (h0 : 0 ≤ a) (h1 : a ≤ 9223372036854775807) (h2 : 0 ≤ n) (h3 : n ≤ 1000000) :
  Calls Tryz.prog 26 #[img,.int .i64 a,.int .i64 n] w fun e w' => Cpost im a n w e w':=by
 go_enter Tryz.func26,Tryz.ntmps26
 go_wp2
 go_loopw [9] (fun i wr => ∃ k : Nat,k ≤ nblk n ∧ i = .int .i64 (a + k) ∧ Lib.IsBuilderF 130 5 w.heap.size w.heap.size (Lib.byteCells (cat im a k)) wr ∧ Below w.heap.size w wr ∧ bad im a k = none)
  (fun i _ => (a + nblk n - intOf i).toNat)
 case atStart =>
  refine ⟨0,Nat.zero_le _,by simp,.inl ?_,(Below.refl _ _).alloc (Nat.le_refl _) _,rfl⟩
  refine ⟨Nat.le_refl _,.slice none 0 0,?_,⟨rfl,.inl ⟨rfl,rfl⟩⟩,by intro h; cases h⟩
  exact heap_alloc_new' w _
 case round =>
  obtain ⟨k,hk,rfl,hB,hbl,hbad⟩:=hrel
  have hlen : (Lib.byteCells (cat im a k)).length = 2048 * k:=by rw [← cat_len hbad]; simp [Lib.byteCells]
  go_wp2_with (go_at_call 63; refine (Tryz.Builder_Len_f _ _ _ _ hB).mono ?_)
  rintro e w1 ⟨rfl,rfl⟩
  rw [hlen]
  go_wp2_with (go_at_call 57; refine (c57 hr (by omega) hbl (a + k)).mono ?_)
  ·rintro e w2 ⟨rfl,hb2⟩
   have hk2 : k + 1 ≤ nblk n:=by unfold nblk; omega
   have hbl2 : Below w.heap.size w w2:=hbl.trans (hb2.mono hbl.size)
   have hB2:=bld_keep hB hb2
   cases hs : (blk im (a + k)).isSome with
   | false =>
    have hx:=bad_mono hk2 (bad_hit hbad hs)
    go_wp2
    go_ret2
    unfold Cpost
    rw [hx]
    refine ⟨hbl2.alloc hbl2.size _,_,rfl,?_,?_⟩
    ·simp only [World.cell?]; rw [heap_alloc_new']; rfl
    ·simp only [World.cell?]; rw [heap_alloc_new']; rfl
   | true =>
    obtain ⟨g0,g1,g2⟩:=blk_some hs
    have hlt : (a + k).toNat < im.length:=by omega
    have ha0:=at0_eq hlt
    obtain ⟨b,o,cap,rfl,hblt,hcell⟩:=cellI hr hlt
    have hcell2 : w2.cell? ⟨b,o + (a + k).toNat,none⟩ = some (.string ⟨⟨im[(a + k).toNat]⟩⟩):=(hbl2.cell (by exact hblt)).trans hcell
    have hsz : (⟨⟨im[(a + k).toNat]⟩⟩ : ByteArray).size = 2048:=by rw [← ha0]; exact g2
    have hkk : k ≤ 1000:=by unfold nblk at hk; omega
    go_wp2_with (go_at_call 64; refine (bWrite _ _ _ _ _ hB2 (by rw [hlen,hsz]; omega) hbl2.size).mono ?_)
    rintro e w3 ⟨rfl,hB3,hb3⟩
    go_wp2
    go_roundw
    case rel =>
     refine ⟨k + 1,hk2,by rw [show a + ((k + 1 : Nat) : Int) = a + k + 1 by push_cast; omega],.inr ?_,hbl2.trans hb3,bad_step hbad hs⟩
     have e1 : Lib.byteCells (cat im a (k + 1)) = Lib.byteCells (cat im a k) ++ Lib.strCells ⟨⟨im[(a + k).toNat]⟩⟩:=by
      simp [cat,ha0,Lib.byteCells,Lib.strCells]
     rw [e1]; exact hB3
    case measure => show (a + nblk n - (a + k + 1)).toNat < (a + nblk n - (a + k)).toNat; omega
  ·have hkk : k = nblk n:=by unfold nblk at hk ⊢; omega
   subst hkk
   have hcl:=cat_len hbad
   have hnn : n ≤ (cat im a (nblk n)).length:=by omega
   go_wp2_with (go_at_call 65; refine (Tryz.Builder_String_any_f _ _ _ _ hB hbl.size).mono ?_)
   rintro e w3 ⟨rfl,hB3,hb3⟩
   go_wp2
   ·go_ret2
    unfold Cpost
    rw [hbad]
    refine ⟨hbl.trans hb3,?_⟩
    show Ending.returned _ = Ending.returned _
    rw [ext_take]
    rfl
set_option maxRecDepth 100000
set_option linter.unusedVariables false
variable {W0 : World}
def contV (im : List (List UInt8)) (f : FV) : List UInt8 × Int × Int :=
 if f.start < 0 ∨ f.len < 0 ∨ 262144 < f.len then ([],0,1) else match bad im f.start (nblk f.len) with
  | some x => ([],x,9)
  | none => ((cat im f.start (nblk f.len)).take f.len.toNat,0,0)
def encR (r : List UInt8 × Int × Int) : D:=.tup [.str r.1,.int .i64 r.2.1,.int .i64 r.2.2]
def C13post (im : List (List UInt8)) (a n : Int) (w : World) (e : Ending) (w' : World) : Prop :=
 Below w.heap.size w w' ∧ e = .returned (.tuple #[.string ⟨⟨(contV im ⟨[],a,n⟩).1⟩⟩,.int .i64 (contV im ⟨[],a,n⟩).2.1,.int .i64 (contV im ⟨[],a,n⟩).2.2])
theorem c13w {im : List (List UInt8)} {a n : Int} (hc : a < 0 ∨ n < 0 ∨ 262144 < n) (w : World) (o : Obj) : C13post im a n w (.returned (.tuple #[.string ⟨#[]⟩,.int .i64 0,.int .i64 1])) (w.alloc o):=by
 refine ⟨(Below.refl _ _).alloc (Nat.le_refl _) _,?_⟩
 have e : contV im ⟨[],a,n⟩ = ([],0,1):=by unfold contV; exact if_pos hc
 rw [e]
set_option maxHeartbeats 4000000 in
theorem c13e {w : World} {C : Nat → Nat} {im : List (List UInt8)} {img : Value} (p : ByteArray) (a n : Int) (hc : a < 0 ∨ n < 0 ∨ 262144 < n) :
  Calls Tryz.prog 13 #[img,.agg #[.string p,.int .i64 a,.int .i64 n]] w fun e w' => C13post im a n w e w':=by
 have hd:=c13w (im:=im) hc w (.cells #[.string p,.int .i64 a,.int .i64 n] 39)
 by_cases h1 : a < 0
 ·go_enter Tryz.func13,Tryz.ntmps13
  go_wp2
  go_ret3
  exact hd
 ·by_cases h2 : n < 0
  ·go_enter Tryz.func13,Tryz.ntmps13
   go_wp2
   go_ret3
   exact hd
  ·have h3 : 262144 < n:=by omega
   go_enter Tryz.func13,Tryz.ntmps13
   go_wp2
   go_ret3
   exact hd
set_option maxHeartbeats 4000000 in
theorem c13o {w : World} {C : Nat → Nat} {im : List (List UInt8)} {img : Value} (hr : Rep w C (encI im) img) (hl : im.length < 1000000) (p : ByteArray) (a n : Int) (h1 : a ≤ 9223372036854775807) (h0 : 0 ≤ a) (h2 : 0 ≤ n) (h3 : n ≤ 262144) :
  Calls Tryz.prog 13 #[img,.agg #[.string p,.int .i64 a,.int .i64 n]] w fun e w' => C13post im a n w e w':=by
 have e1 : ¬ (a < 0 ∨ n < 0 ∨ 262144 < n):=by omega
 have hal:=(Below.refl w.heap.size w).alloc (Nat.le_refl _) (.cells #[.string p,.int .i64 a,.int .i64 n] 39)
 go_enter Tryz.func13,Tryz.ntmps13
 go_wp2_with (go_at_call 26; refine (c26 (hr.ext (Step.below hal).ext) hl a n (by omega) (by omega) (by omega) (by omega)).mono ?_)
 rintro e w2 ⟨hb,hm⟩
 have hbl : Below w.heap.size w w2:=hal.trans (hb.mono hal.size)
 cases hx : bad im a (nblk n) with
 | none =>
  rw [hx] at hm
  subst hm
  have e : contV im ⟨[],a,n⟩ = ((cat im a (nblk n)).take n.toNat,0,0):=by simp only [contV,if_neg e1,hx]
  have hd : C13post im a n w (.returned (.tuple #[.string ⟨⟨(cat im a (nblk n)).take n.toNat⟩⟩,.int .i64 0,.int .i64 0])) w2:=⟨hbl,by rw [e]⟩
  go_wp2
  go_ret3
  exact hd
 | some x =>
  rw [hx] at hm
  obtain ⟨q,rfl,q1,q2⟩:=hm
  have e : contV im ⟨[],a,n⟩ = ([],x,9):=by simp only [contV,if_neg e1,hx]
  have hd : ∀ w3,Below w2.heap.size w2 w3 → C13post im a n w (.returned (.tuple #[.string ⟨#[]⟩,.int .i64 x,.int .i64 9])) w3:=fun w3 h => ⟨hbl.trans (h.mono hbl.size),by rw [e]⟩
  go_wp2
  go_region
  all_goals go_wp2
  all_goals go_ret3
  all_goals exact hd _ (by first | exact .refl _ _ | exact (Below.refl _ _).drew)
theorem F13 (im : List (List UInt8)) (f : FV) (hl : im.length < 1000000) (h1 : f.start ≤ 9223372036854775807) : DFun Tryz.prog W0 13 [encI im,encF f] (encR (contV im f)):=by
 refine ⟨callable Tryz.func13 rfl (by decide +kernel),fun w C args hb hr => ?_⟩
 obtain ⟨hln,hr⟩:=hr
 match args,hln with
 | [img,fv],_ =>
  have hi:=hr 0 _ img rfl rfl
  obtain ⟨vs,rfl,hl2,hg⟩:=(hr 1 _ fv rfl rfl).agg_inv
  match vs,hl2 with
  | [x0,x1,x2],_ =>
   have e0:=(hg 0 _ x0 rfl rfl).str_inv
   have e1:=(hg 1 _ x1 rfl rfl).int_inv
   have e2:=(hg 2 _ x2 rfl rfl).int_inv
   subst e0 e1 e2
   have key : Calls Tryz.prog 13 #[img,.agg #[.string ⟨⟨f.path⟩⟩,.int .i64 f.start,.int .i64 f.len]] w fun e w' => C13post im f.start f.len w e w':=by
    by_cases hc : f.start < 0 ∨ f.len < 0 ∨ 262144 < f.len
    ·exact c13e (C:=C) ⟨⟨f.path⟩⟩ f.start f.len hc
    ·exact c13o hi hl ⟨⟨f.path⟩⟩ f.start f.len h1 (by omega) (by omega) (by omega)
   refine key.mono ?_
   rintro e w' ⟨hbl,rfl⟩
   have ec : contV im ⟨[],f.start,f.len⟩ = contV im f:=rfl
   refine ⟨_,C,rfl,.tup _ _ rfl fun i d v hd hv => ?_,Step.below hbl⟩
   match i with
   | 0 => cases hd; cases hv; exact .str _
   | 1 => cases hd; cases hv; exact .int _ _
   | 2 => cases hd; cases hv; exact .int _ _
   | i + 3 => simp at hd
variable {W0:World}
def btsV (im:List (List UInt8)) (a:Int) (k:Nat):List UInt8×Int×Bool:=match bad im a k with
 | some x=>([],x,false)
 | none=>(cat im a k,0,true)
theorem F27 (im:List (List UInt8)) (a:Int) (k:Nat) (hl:im.length<1000000) (h0:0≤a) (h1:a≤9223372036854775807) (hk:k≤1000):DFun Tryz.prog W0 27 [encI im,Iv a,Iv (k:Nat)] (.tup [.str (btsV im a k).1,Iv (btsV im a k).2.1,.bool (btsV im a k).2.2]):=by
 refine Fi Tryz.func27 rfl Tryz.ntmps27 fun Γ=>?_
 apply Sr;apply Sr;apply Sq;apply Sr;apply Bk;refine Tri.loop (α:={ i:Nat // i≤k∧bad im a i=none }) (fun x=>[(0,encI im),(1,Iv a),(2,Iv (k:Nat)),(9,.str (cat im a x.1)),(10,Iv x.1)]) (fun _=>[]) (fun x=>k-x.1) ⟨0,Nat.zero_le _,rfl⟩ Z trivial ?_;rintro ⟨i,hi,hp⟩
 have hai:(i:Int)=0∨a+i≤im.length:=by
  rcases Nat.eq_zero_or_pos i with h|h
  ·left; omega
  right; exact (bad_end hp h).2
 dsimp only at hi hp ⊢;apply Sq;apply Sr;refine Cd _ rfl (fun hc=>?_) (fun hc=>?_)
 ·apply Sk
  have hi2:i<k:=by simp at hc; omega
  apply Sq;apply Bk;apply Sr;refine Ir ?_;(conv=>whnf);refine ⟨_,_,fun _=>F66 im (a+i) (by omega),Z,?_⟩;apply Sq;apply Sr;refine Cd _ rfl (fun hc=>?_) (fun hc=>?_)
  ·apply Sq
   have hs:(blk im (a+i)).isSome=false:=by simpa using hc
   apply Rg;refine Ir ?_;apply Rt;(conv=>whnf)
   have hx:=bad_mono (show i+1≤k by omega) (bad_hit hp hs)
   have e:btsV im a k=([],a+i,false):=by simp only [btsV,hx]
   rw [e];exact Z
  apply Sk
  have hs:(blk im (a+i)).isSome=true:=by simpa using hc
  obtain ⟨g0,g1,g2⟩:=blk_some hs
  have hb:blk im (a+i)=some (at0 im (a+i)):=by unfold blk; exact if_pos ⟨g0,g1,g2⟩
  have hcl:=cat_len hp
  apply Rg;(conv=>whnf)
  refine ⟨fun _=>by rw [hb]; simp [hcl,g2]; omega,?_⟩
  apply Rg;refine Ir ?_;(conv=>whnf)
  exact ⟨⟨i+1,by omega,bad_step hp hs⟩,by show k-(i+1)<k-i; omega,⟨.refl _,.refl _,.refl _,DLe.of_eq (congrArg D.str (by rw [hb]; rfl)),.refl _,trivial⟩,trivial⟩
 refine Tri.exit ?_
 have hi2:i=k:=by simp at hc; omega
 apply Sr;apply Rt;(conv=>whnf);subst hi2
 have e:btsV im a i=(cat im a i,0,true):=by simp only [btsV,hp]
 rw [e];exact Z
theorem F14 (im:List (List UInt8)) (f:FV) (hl:im.length<1000000) (h1:f.start≤9223372036854775807):DFun Tryz.prog W0 14 [encI im,encF f] (encR (contV im f)):=by
 refine Fi Tryz.func14 rfl Tryz.ntmps14 fun Γ=>?_
 apply Sr;(conv=>whnf);intro b;apply Sq;apply Sr;apply Rl;apply Hh;apply Rl;apply Hh;refine Pk ?_;apply Hh;apply Rl;apply Hh;refine Pk ?_;refine Cd _ rfl (fun hc=>?_) (fun hc=>?_)
 ·apply Sq
  have hb:f.start<0∨f.len<0∨262144<f.len:=by simp at hc; omega
  apply Rg;apply Rt;(conv=>whnf)
  have e:contV im f=([],0,1):=by unfold contV; exact if_pos hb
  rw [e]; exact Z
 apply Sk
 have hb:¬ (f.start<0∨f.len<0∨262144<f.len):=by simp at hc; omega
 apply Sq;refine Tri.draw ti_ok mixed (by kernel_rfl) ?_;apply Rl;apply Rl;(conv=>whnf);refine ⟨_,_,fun _=>F28 f.len (by omega) (by omega),Z,?_⟩;(conv=>whnf)
 refine ⟨[encI im,Iv f.start,Iv (nblk f.len:Nat)],_,fun _=>F27 im f.start (nblk f.len) hl (by omega) h1 (by unfold nblk; omega),⟨.refl _,.refl _,DLe.of_eq (congrArg (D.int .i64) (by unfold nblk; omega)),trivial⟩,?_⟩
 apply Sq;apply Sr;refine Cd _ rfl (fun hc=>?_) (fun hc=>?_)
 ·apply Sq
  obtain ⟨x,hx⟩:∃ x,bad im f.start (nblk f.len)=some x:=by
   cases hx:bad im f.start (nblk f.len) with
   | some x=>exact ⟨x,rfl⟩
   | none=>simp only [btsV,hx] at hc; cases hc
  have e1:btsV im f.start (nblk f.len)=([],x,false):=by simp only [btsV,hx]
  have e:contV im f=([],x,9):=by simp only [contV,if_neg hb,hx]
  apply Rg;apply Rt;(conv=>whnf)
  rw [e1,e]; exact Z
 apply Sk
 have hx:bad im f.start (nblk f.len)=none:=by
  cases hx:bad im f.start (nblk f.len) with
  | none=>rfl
  | some x=>simp only [btsV,hx] at hc; cases hc
 have e1:btsV im f.start (nblk f.len)=(cat im f.start (nblk f.len),0,true):=by simp only [btsV,hx]
 have e:contV im f=((cat im f.start (nblk f.len)).take f.len.toNat,0,0):=by simp only [contV,if_neg hb,hx]
 have hcl:=cat_len hx
 apply Sr;apply Rl;(conv=>whnf)
 refine ⟨fun _=>⟨by omega,by omega,by rw [e1]; show f.len≤((cat im f.start (nblk f.len)).length:Nat); rw [hcl]; unfold nblk; omega⟩,?_⟩
 apply Rt;(conv=>whnf)
 rw [e1,e]; exact Z
structure BI where
 a:Int
 b:Int
 c:Int
 d:Int
 e:Int
 g:Bool
def encBI (x:BI):D:=.agg [Iv x.a,Iv x.b,Iv x.c,Iv x.d,Iv x.e,.bool x.g]
structure IV where
 a0:Int
 a1:Int
 a2:Int
 t0:List UInt8
 t1:List UInt8
 t2:List UInt8
 t3:List UInt8
 t4:List UInt8
 a3:Int
 a4:Int
 a5:Int
 views:Int
 l0:NV
 l1:NV
 l2:NV
 f0:List FV
 f1:List FV
 f2:List FV
 boot:List BI
def ndC (n:NV):List D:=[.str n.name,Iv n.kind,.str n.text,.str n.target,Iv n.n1,Iv n.n2,Iv n.n3,Iv n.n4,Iv n.n5,Iv n.n6,.sl .none 12 (n.kids.map enc),.sl .none 2 (n.streams.map encS)]
def encIV (v:IV):D:=.agg ([Iv v.a0,Iv v.a1,Iv v.a2,.str v.t0,.str v.t1,.str v.t2,.str v.t3,.str v.t4,Iv v.a3,Iv v.a4,Iv v.a5,Iv v.views]++(ndC v.l0++(ndC v.l1++(ndC v.l2++[encFs v.f0,encFs v.f1,encFs v.f2,.sl .none 6 (v.boot.map encBI)]))))
def lst (v:IV) (i:Int):NV:=if i=0 then v.l0 else if i=1 then v.l1 else v.l2
def fls (v:IV) (i:Int):List FV:=if i=0 then v.f0 else if i=1 then v.f1 else v.f2
def hasV (v:IV) (i:Int):Int:=if i<0∨2<i then 2 else if bitI .and .i64 (v.views.fdiv (2 ^ min i.toNat IntKind.i64.bits)) 1=0 then 6 else 0
theorem hasV_ok {v:IV} {i:Int} (h:hasV v i=0):i=0∨i=1∨i=2:=by
 unfold hasV at h
 by_cases h1:i<0∨2<i
 ·rw [if_pos h1] at h; cases h
 omega
def zN:NV:=⟨[],0,[],[],0,0,0,0,0,0,[],[]⟩
def listV (v:IV) (i:Int):NV×Int:=if hasV v i=0 then (lst v i,0) else (zN,hasV v i)
def filesV (v:IV) (i:Int):List FV×Int:=if hasV v i=0 then (fls v i,0) else ([],hasV v i)
theorem F24 (v:IV) (i:Int):DFun Tryz.prog W0 24 [encIV v,Iv i] (Iv (hasV v i)):=by
 refine Fi Tryz.func24 rfl Tryz.ntmps24 fun Γ=>?_
 apply Sr;(conv=>whnf);intro b;apply Sq;apply Sr;apply Hh;refine Pk ?_;refine Cd _ rfl (fun hc=>?_) (fun hc=>?_)
 ·apply Sr;apply Rt;(conv=>whnf)
  exact DLe.of_eq (congrArg (D.int .i64) (if_pos (by simp at hc; omega)).symm)
 apply Sk
 have h1:¬ (i<0∨2<i):=by simp at hc; omega
 apply Sq;apply Sr;apply Rl;(conv=>whnf);refine ⟨fun _=>by omega,?_⟩;refine Cd _ rfl (fun hc=>?_) (fun hc=>?_)
 ·apply Sr;apply Rt;(conv=>whnf)
  exact DLe.of_eq (congrArg (D.int .i64) (by unfold hasV; rw [if_neg h1,if_pos (by simpa using hc)]))
 apply Sk;apply Sr;apply Rt;(conv=>whnf)
 exact DLe.of_eq (congrArg (D.int .i64) (by unfold hasV; rw [if_neg h1,if_neg (by simpa using hc)]))
theorem F21 (v:IV) (i:Int):DFun Tryz.prog W0 21 [encIV v,Iv i] (Iv (hasV v i)):=by
 refine Fi Tryz.func21 rfl Tryz.ntmps21 fun Γ=>?_
 apply Sr;(conv=>whnf);intro b;apply Sq;apply Bk;apply Sr;apply Hh;refine Pk ?_;refine Cd _ rfl (fun hc=>?_) (fun hc=>?_)
 ·apply Sr;apply Rt;(conv=>whnf)
  exact DLe.of_eq (congrArg (D.int .i64) (if_pos (by simp at hc; omega)).symm)
 apply Sq
 have h1:¬ (i<0∨2<i):=by simp at hc; omega
 apply Rg;apply Rl;(conv=>whnf);refine ⟨fun _=>by omega,?_⟩;refine Cd _ rfl (fun hc=>?_) (fun hc=>?_)
 ·apply Sr;apply Rt;(conv=>whnf)
  exact DLe.of_eq (congrArg (D.int .i64) (by unfold hasV; rw [if_neg h1,if_pos (by simpa using hc)]))
 apply Sk;apply Sr;apply Rt;(conv=>whnf)
 exact DLe.of_eq (congrArg (D.int .i64) (by unfold hasV; rw [if_neg h1,if_neg (by simpa using hc)]))
theorem F10 (v:IV) (i:Int):DFun Tryz.prog W0 10 [encIV v,Iv i] (.tup [encFs (filesV v i).1,Iv (filesV v i).2]):=by
 refine Fi Tryz.func10 rfl Tryz.ntmps10 fun Γ=>?_
 apply Sr;(conv=>whnf);intro b;apply Sq;apply Sr;apply Rl;(conv=>whnf);refine ⟨[encIV v,Iv i],_,fun _=>F24 v i,Z,?_⟩;apply Sr;refine Cd _ rfl (fun hc=>?_) (fun hc=>?_)
 ·apply Sr;apply Rt;(conv=>whnf)
  have e:filesV v i=([],hasV v i):=if_neg (by simpa using hc)
  rw [e]; exact ⟨DLe.nil,.refl _,trivial⟩
 apply Sk
 have h0:hasV v i=0:=by simpa using hc
 have h3:=hasV_ok h0
 apply Sq;refine Tri.regionX ti_ok ?_;(conv=>whnf);refine .inr (XOp.arrIndex rfl rfl rfl rfl (by omega) (by omega) ?_);(conv=>whnf)
 refine .inr (XOp.boxLoadAt ti_ok (d:=encFs (fls v i)) rfl rfl rfl rfl (by rcases h3 with rfl|rfl|rfl<;>rfl) ?_)
 apply Rt;(conv=>whnf)
 have e:filesV v i=(fls v i,0):=if_pos h0
 rw [e]; exact Z
theorem F25f (l:List FV) (hl:l.length<1000000000):DFun Tryz.prog W0 25 [encFs l] (encFs l):=by
 refine Fi Tryz.func25 rfl Tryz.ntmps25 fun Γ=>?_
 apply Sr;apply S2;refine Tri.regionX ti_ok ?_;(conv=>whnf);refine .inr (XOp.nilEq (el:=39) ti_ok rfl rfl rfl fun nb hnb=>?_);refine Cd _ rfl (fun hc=>?_) (fun hc=>?_)
 ·apply Sr;apply Rt;(conv=>whnf)
  have hnil:=hnb hc
  unfold encFs
  rw [hnil];exact DLe.nil
 apply Sk;apply Sr;(conv=>whnf);refine ⟨trivial,?_⟩;(conv=>whnf)
 refine ⟨by show (0+(l.map encF).length)*32≤_; simp; omega,by show 0+(l.map encF).length≤_; simp; omega,(fun h=>by cases h),fun v=>?_⟩
 (conv=>whnf);apply Rt;(conv=>whnf);exact DLe.trans (DLe.of_eq (congrArg (D.sl _ 3) (List.nil_append _))) DLe.unown
theorem F9 (v:IV) (i:Int) (hf:∀ i,(fls v i).length<1000000000):DFun Tryz.prog W0 9 [encIV v,Iv i] (.tup [encFs (filesV v i).1,Iv (filesV v i).2]):=by
 refine Fi Tryz.func9 rfl Tryz.ntmps9 fun Γ=>?_
 apply Sr;(conv=>whnf);intro b;apply Sq;apply Sr;apply Rl;(conv=>whnf);refine ⟨[encIV v,Iv i],_,fun _=>F21 v i,Z,?_⟩;apply Sr;refine Cd _ rfl (fun hc=>?_) (fun hc=>?_)
 ·apply Sr;apply Rt;(conv=>whnf)
  have e:filesV v i=([],hasV v i):=if_neg (by simpa using hc)
  rw [e]; exact ⟨DLe.nil,.refl _,trivial⟩
 apply Sk
 have h0:hasV v i=0:=by simpa using hc
 have h3:=hasV_ok h0
 apply Sq;refine Tri.regionX ti_ok ?_;(conv=>whnf);refine .inr (XOp.arrIndex rfl rfl rfl rfl (by omega) (by omega) ?_);(conv=>whnf)
 refine .inr (XOp.boxLoadAt ti_ok (d:=encFs (fls v i)) rfl rfl rfl rfl (by rcases h3 with rfl|rfl|rfl<;>rfl) ?_)
 (conv=>whnf);refine .inl ⟨[encFs (fls v i)],_,fun _=>F25f _ (hf i),Z,?_⟩;apply Rt;(conv=>whnf)
 have e:filesV v i=(fls v i,0):=if_pos h0
 rw [e]; exact Z
theorem _root_.Go.Tame.XOp.boxLoadAgg {P:Program} {nt:Nat} {σ:DSt} {dst:Option Tmp} {K:DSt→Prop} {ti:List TEnt} (hT:TOk P ti) {t:Nat} {x:Operand} {s b off:Nat} {cs ds:List D} {te:TEnt} (hx:σ.ev x=.box s b off) (hs:σ.H s=some (.box b cs)) (ht:tget ti t=some te) (ha:te.agg=true) (h0:0<off) (hl:off+te.sz≤cs.length)
  (hd:(cs.drop off).take te.sz=ds) (hK:K (σ.put dst (.agg ds))):XOp P W0 nt σ dst (.load t x) K :=
 XOp.plain hT (by
  show opn true (σ.ev x) fun x=>loadD ti σ true t x fun d=>K (σ.put dst d)
  rw [hx]
  show loadD ti σ true t (.box s b off) fun d=>K (σ.put dst d)
  unfold loadD
  rw [ht]
  have e1:Nat.beq off 0=false:=by cases off with|zero=>omega|succ n=>rfl
  have e2:Nat.ble (off+te.sz) cs.length=true:=Nat.ble_eq_true_of_le hl
  subst hd;simp only [hs,partC,ha,e1,e2,Bool.false_and]
  exact ⟨trivial,hK⟩)
theorem zN_le:DLe (.agg [.str [],Iv 0,.str [],.str [],Iv 0,Iv 0,Iv 0,Iv 0,Iv 0,Iv 0,.nils,.nils]) (encTop zN) :=
 DLe.agg ⟨.refl _,.refl _,.refl _,.refl _,.refl _,.refl _,.refl _,.refl _,.refl _,.refl _,DLe.nil,DLe.nil,trivial⟩
theorem F8 (v:IV) (i:Int):DFun Tryz.prog W0 8 [encIV v,Iv i] (.tup [encTop (listV v i).1,Iv (listV v i).2]):=by
 refine Fi Tryz.func8 rfl Tryz.ntmps8 fun Γ=>?_
 apply Sr;(conv=>whnf);intro b2;(conv=>whnf);intro b4;apply Sq;apply Sr;apply Rl;(conv=>whnf);refine ⟨[encIV v,Iv i],_,fun _=>F24 v i,Z,?_⟩;apply Sr;refine Cd _ rfl (fun hc=>?_) (fun hc=>?_)
 ·apply Sr;apply Rl;apply Rt;(conv=>whnf)
  have e:listV v i=(zN,hasV v i):=if_neg (by simpa using hc)
  apply Rl;(conv=>whnf)
  rw [e]; exact ⟨zN_le,.refl _,trivial⟩
 apply Sk
 have h0:hasV v i=0:=by simpa using hc
 have h3:=hasV_ok h0
 apply Sq;refine Tri.regionX ti_ok ?_;(conv=>whnf);refine .inr (XOp.arrIndex rfl rfl rfl rfl (by omega) (by omega) ?_);(conv=>whnf)
 refine .inr (XOp.boxLoadAgg ti_ok (ds:=ndC (lst v i)) rfl rfl rfl rfl (Nat.lt_of_lt_of_le (by decide) (Nat.le_add_right 12 _)) (by rcases h3 with rfl|rfl|rfl<;>exact Nat.le_of_ble_eq_true rfl) (by rcases h3 with rfl|rfl|rfl<;>rfl) ?_)
 (conv=>whnf);refine .inl ⟨rfl,?_⟩;apply Rt;(conv=>whnf)
 have e:listV v i=(lst v i,0):=if_pos h0
 apply Rl;(conv=>whnf)
 rw [e]; exact Z
theorem F23 (n:NV) (p:List UInt8):DFun Tryz.prog W0 23 [encTop n,.str p] (encTop n):=by
 refine Fi Tryz.func23 rfl Tryz.ntmps23 fun Γ=>?_
 apply Sr;(conv=>whnf);intro b2;(conv=>whnf);intro b4;apply Sr;apply Rl;apply Rl;apply Rt;apply Rl;(conv=>whnf);exact .refl _
theorem F22i:∀ (N:Nat) (n:NV),sz n<N→sz n<100000000→∀ (p:List UInt8) (root:Bool),p.length+sz n<1000000000→DFun Tryz.prog W0 22 [encTop n,.fn (.func 23) [] [],.str p,.bool root] (encTop n):=by
 refine fun N=>Nat.rec (fun n h=>absurd h (Nat.not_lt_zero _)) (fun N ih n hN hz p root hp=>?_) N
 have hsze:=sz_eq n
 have hkk:=szL_len n.kids
 have hss:=szS_len n.streams
 refine Fi Tryz.func22 rfl Tryz.ntmps22 fun Γ=>?_
 apply Sr;(conv=>whnf);intro b4;(conv=>whnf);intro b8;apply Sr;apply Rl;apply Sr;apply Rl;(conv=>whnf);refine ⟨[encTop n,.str p],_,fun _=>F23 n p,Z,?_⟩;apply Rl;apply Sr;apply Rl;(conv=>whnf);refine ⟨[.sl .none 2 (n.streams.map encS)],_,fun _=>F104 n.streams (by omega),Z,?_⟩;apply Rl;apply Rl;apply Sq;apply Sr;apply Bk;refine Tri.boxLe 4 (cs':=[.str n.name,Iv n.kind,.str n.text,.str n.target,Iv n.n1,Iv n.n2,Iv n.n3,Iv n.n4,Iv n.n5,Iv n.n6,.raw (.slice none 0 0),.sl .none 2 (n.streams.map encS)]) rfl ⟨.refl _,.refl _,.refl _,.refl _,.refl _,.refl _,.refl _,.refl _,.refl _,.refl _,DLe.nilRaw,.refl _,trivial⟩ ?_;refine Tri.rowNil 45 12 31 ?_
 refine Tri.loopK (α:={ x:Nat×Value // x.1≤n.kids.length }) (fun x=>[(1,.fn (.func 23) [] []),(2,.str p),(3,.bool root),(4,.box 4 b4 0),(8,.box 8 b8 0),(24,.sl .none 12 (n.kids.map enc)),(25,Iv (n.kids.map enc).length),(26,Iv x.1.1)]) (fun x=>[(4,.box b4 [.str n.name,Iv n.kind,.str n.text,.str n.target,Iv n.n1,Iv n.n2,Iv n.n3,Iv n.n4,Iv n.n5,Iv n.n6,.raw x.1.2,.sl .none 2 (n.streams.map encS)]),(8,.box b8 [.str [],Iv 0,.str [],.str [],Iv 0,Iv 0,Iv 0,Iv 0,Iv 0,Iv 0,.nils,.nils]),(45,.row x.1.2 ((n.kids.take x.1.1).map encTop) 12 31)]) (fun x=>n.kids.length-x.1.1) ⟨(0,.slice none 0 0),Nat.zero_le _⟩ [(4,4),(8,8),(45,45)]
  ⟨Z,rfl,Y⟩ ?_
 rintro ⟨⟨i,rv⟩,hi⟩;dsimp only at hi ⊢;apply Sr;apply Sq;refine Cd _ rfl (fun hc=>?_) (fun hc=>?_)
 ·apply Sk
  have hia:i<n.kids.length:=by simpa using hc
  have hkz:=kid_sz hia
  apply Sq;apply Bk;apply Sr;(conv=>whnf);refine Sp ?_;(conv=>whnf);refine ⟨encTop n.kids[i],fun _=>get_kid hia,?_⟩;(conv=>whnf);intro b11;apply Rl;apply Sr;apply Rl;(conv=>whnf);refine Tri.joinK (α:={ q:List UInt8 // q.length≤p.length+1+n.kids[i].name.length }) (fun x=>[(1,.fn (.func 23) [] []),(2,.str p),(3,.bool root),(4,.box 4 b4 0),(8,.box 8 b8 0),(11,.box 11 b11 0),(12,.str x.1),(24,.sl .none 12 (n.kids.map enc)),(25,Iv (n.kids.map enc).length),(26,Iv i)]) (fun x=>[(4,.box b4 [.str n.name,Iv n.kind,.str n.text,.str n.target,Iv n.n1,Iv n.n2,Iv n.n3,Iv n.n4,Iv n.n5,Iv n.n6,.raw rv,.sl .none 2 (n.streams.map encS)]),(8,.box b8 [.str [],Iv 0,.str [],.str [],Iv 0,Iv 0,Iv 0,Iv 0,Iv 0,Iv 0,.nils,.nils]),(11,.box b11 (ndC n.kids[i])),(45,.row rv ((n.kids.take i).map encTop) 12 31)]) ?_ ?_
  ·apply Sr;refine Cd _ rfl (fun hc=>?_) (fun hc=>?_)
   ·apply Rg;(conv=>whnf);refine Sp ?_;(conv=>whnf);refine Sp ?_;(conv=>whnf)
    exact ⟨⟨p++[47]++n.kids[i].name,by simp; omega⟩,[(4,4),(8,8),(11,11),(45,45)],Z,rfl,Y⟩
   apply Sk;(conv=>whnf);exact ⟨⟨n.kids[i].name,by omega⟩,[(4,4),(8,8),(11,11),(45,45)],Z,rfl,Y⟩
  rintro ⟨q,hq⟩;refine Tri.drawTailX ti_ok 7 mixed (by kernel_rfl) ?_;apply Rl;apply Rl;(conv=>whnf);refine ⟨[encTop n.kids[i],.fn (.func 23) [] [],.str q,.bool false],_,fun _=>ih n.kids[i] (by omega) (by omega) q false (by omega),Z,?_⟩;(conv=>whnf);refine ⟨trivial,?_⟩;(conv=>whnf);refine .inr (XOp.rowAppend ti_ok 45 rfl rfl rfl (fun h=>by cases h) rfl rfl rfl (Nat.zero_lt_one) ?_ ?_ fun aa m cap=>?_)
  ·show (_+1)*152≤_
   simp; omega
  ·show _+1≤_
   simp; omega
  apply Il;apply Rl;apply Rg;refine Ir ?_;(conv=>whnf)
  exact ⟨⟨(i+1,.slice aa m cap),hia⟩,[(4,4),(8,8),(45,45)],by show _-(i+1)<_-i; omega,Z,rfl,rfl,rfl,rfl,rfl,rfl,congrArg (fun z=>some (HObj.row (.slice aa m cap) z 12 31)) (by rw [List.take_succ_eq_append_getElem hia,List.map_append]; rfl),trivial⟩
 refine Tri.exit ?_
 have hin:i=n.kids.length:=by simp at hc; omega
 subst hin;refine Tri.commitBox 45 4 10 rfl rfl (by decide) rfl ?_;apply Sr;apply Rl;apply Rl;apply Rt;apply Rl;(conv=>whnf);rw [List.take_length];refine DLe.agg ?_;refine ⟨.refl _,.refl _,.refl _,.refl _,.refl _,.refl _,.refl _,.refl _,.refl _,.refl _,DLe.of_eq (congrArg (D.sl .none 12) ?_),DLe.refl _,trivial⟩
 exact List.map_congr_left fun k _=>(enc_eq k).symm
theorem F7 (v:IV) (i:Int) (hz:∀ i,sz (lst v i)<100000000):DFun Tryz.prog W0 7 [encIV v,Iv i] (.tup [encTop (listV v i).1,Iv (listV v i).2]):=by
 refine Fi Tryz.func7 rfl Tryz.ntmps7 fun Γ=>?_
 apply Sr;(conv=>whnf);intro b2;(conv=>whnf);intro b4;apply Sq;apply Sr;apply Rl;(conv=>whnf);refine ⟨[encIV v,Iv i],_,fun _=>F21 v i,Z,?_⟩;apply Sr;refine Cd _ rfl (fun hc=>?_) (fun hc=>?_)
 ·apply Sr;apply Rl;apply Rt;(conv=>whnf)
  have e:listV v i=(zN,hasV v i):=if_neg (by simpa using hc)
  apply Rl;(conv=>whnf)
  rw [e]; exact ⟨zN_le,.refl _,trivial⟩
 apply Sk
 have h0:hasV v i=0:=by simpa using hc
 have h3:=hasV_ok h0
 apply Sq;refine Tri.regionX ti_ok ?_;(conv=>whnf);refine .inr (XOp.arrIndex rfl rfl rfl rfl (by omega) (by omega) ?_);(conv=>whnf)
 refine .inr (XOp.boxLoadAgg ti_ok (ds:=ndC (lst v i)) rfl rfl rfl rfl (Nat.lt_of_lt_of_le (by decide) (Nat.le_add_right 12 _)) (by rcases h3 with rfl|rfl|rfl<;>exact Nat.le_of_ble_eq_true rfl) (by rcases h3 with rfl|rfl|rfl<;>rfl) ?_)
 conv=>whnf
 refine .inl ⟨[encTop (lst v i),.fn (.func 23) [] [],.str [],.bool true],_,fun _=>F22i _ (lst v i) (Nat.lt_succ_self _) (hz i) [] true (by have:=hz i; simp; omega),Z,?_⟩
 (conv=>whnf);refine .inl ⟨rfl,?_⟩;apply Rt;(conv=>whnf)
 have e:listV v i=(lst v i,0):=if_pos h0
 apply Rl;(conv=>whnf)
 rw [e]; exact Z
section
variable (im:List (List UInt8)) (fs:List FV)
mutual
def fillT:NV→List UInt8→Int→NV×Int×Int
 | .mk a b c d e f g h i j ks ss,p,l =>
  if b=1 then (match fs.find? (fun x=>x.path==p) with
   | some x=>(.mk a b (contV im x).1 d e f g h i j ks ss,(contV im x).2)
   | none=>(.mk a b c d e f g h i j ks ss,0,6))
  else if (fillL ks p l).2.2=0 then (.mk a b c d e f g h i j (fillL ks p l).1 ss,0,0) else (.mk a b c d e f g h i j ks ss,(fillL ks p l).2)
def fillL:List NV→List UInt8→Int→List NV×Int×Int
 | [],_,_=>([],0,0)
 | k::r,p,l=>if (fillT k (below p k.name (l+1)) (l+1)).2.2=0 then ((fillT k (below p k.name (l+1)) (l+1)).1::(fillL r p l).1,(fillL r p l).2) else ([],(fillT k (below p k.name (l+1)) (l+1)).2)
end
theorem fillT_some {n:NV} {p:List UInt8} {l:Int} {x:FV} (h:n.kind=1) (hx:fs.find? (fun x=>x.path==p)=some x):fillT im fs n p l=({ n with text:=(contV im x).1 },(contV im x).2):=by
 cases n; simp only at h; simp only [fillT,h,if_true,hx]
theorem fillT_none {n:NV} {p:List UInt8} {l:Int} (h:n.kind=1) (hx:fs.find? (fun x=>x.path==p)=none):fillT im fs n p l=(n,0,6):=by
 cases n; simp only at h; simp only [fillT,h,if_true,hx]
theorem fillT_ok {n:NV} {p:List UInt8} {l:Int} (h:n.kind≠1) (hx:(fillL im fs n.kids p l).2.2=0):fillT im fs n p l=({ n with kids:=(fillL im fs n.kids p l).1 },0,0):=by
 cases n; simp only at h hx; simp only [fillT,if_neg h,if_pos hx]
theorem fillT_bad {n:NV} {p:List UInt8} {l:Int} (h:n.kind≠1) (hx:(fillL im fs n.kids p l).2.2≠0):fillT im fs n p l=(n,(fillL im fs n.kids p l).2):=by
 cases n; simp only at h hx; simp only [fillT,if_neg h,if_neg hx]
end
theorem find_at {α:Type} {l:List α} {q:α→Bool} {i:Nat} (h:i<l.length) (hn:(l.take i).find? q=none) (hq:q l[i]=true):l.find? q=some l[i]:=by
 have e:l.find? q=(l.take i++l.drop i).find? q:=by rw [List.take_append_drop]
 rw [e,List.find?_append,hn,List.drop_eq_getElem_cons h,List.find?_cons_of_pos hq]; rfl
theorem find_next {α:Type} {l:List α} {q:α→Bool} {i:Nat} (h:i<l.length) (hn:(l.take i).find? q=none) (hq:q l[i]=false):(l.take (i+1)).find? q=none:=by
 rw [List.take_succ_eq_append_getElem h,List.find?_append,hn,List.find?_cons_of_neg (by simp [hq])]; rfl
theorem below_le (p n:List UInt8) (l:Int):(below p n l).length≤p.length+1+n.length:=by
 unfold below; split
 ·omega
 simp; omega
theorem set_row {ks M:List NV} {i:Nat} {k r:NV} (hM:M.length=i) (hd:ks.drop i=k::ks.drop (i+1)):((M++ks.drop i).map encTop).set i (.agg (encTop r).cells)=((M++[r])++ks.drop (i+1)).map encTop:=by
 rw [hd];subst hM;rw [List.map_append,List.set_append,if_neg (by simp)]
 simp
 rfl
theorem F34 (im:List (List UInt8)) (fs:List FV) (hl:im.length<1000000) (hf:fs.length<1000000000) (hs:∀ f∈fs,f.start≤9223372036854775807):∀ (N:Nat) (n:NV),sz n<N→sz n<10000000→∀ (p:List UInt8) (l:Int),1≤l→l+sz n<1000000000→p.length+sz n<500000000→DFun Tryz.prog W0 34 [encI im,encTop n,encFs fs,.str p,Iv l] (.tup [encTop (fillT im fs n p l).1,Iv (fillT im fs n p l).2.1,Iv (fillT im fs n p l).2.2]):=by
 refine fun N=>Nat.rec (fun n h=>absurd h (Nat.not_lt_zero _)) (fun N ih n hN hz p l h1 hl2 hp=>?_) N
 have hsze:=sz_eq n
 have hkk:=szL_len n.kids
 have hss:=szS_len n.streams
 have he:n.kids.map enc=n.kids.map encTop:=by rw [show enc=encTop from funext enc_eq]
 refine Fi Tryz.func34 rfl Tryz.ntmps34 fun Γ=>?_
 apply Sr;(conv=>whnf);intro b6;(conv=>whnf);intro b10;apply Sq;apply Sr;apply Rl;refine Cd _ rfl (fun hc=>?_) (fun hc=>?_)
 ·apply Sq
  have hk1:n.kind=1:=by simpa using hc
  apply Sr;apply Bk
  refine Tri.loopK (α:={ i:Nat // i≤fs.length∧(fs.take i).find? (fun x=>x.path==p)=none }) (fun x=>[(0,encI im),(2,encFs fs),(3,.str p),(6,.box 6 b6 0),(10,.box 10 b10 0),(13,Iv x.1)]) (fun x=>[(6,.box b6 [.str n.name,Iv n.kind,.str n.text,.str n.target,Iv n.n1,Iv n.n2,Iv n.n3,Iv n.n4,Iv n.n5,Iv n.n6,.sl .none 12 (n.kids.map enc),.sl .none 2 (n.streams.map encS)]),(10,.box b10 [.str [],Iv 0,.str [],.str [],Iv 0,Iv 0,Iv 0,Iv 0,Iv 0,Iv 0,.nils,.nils])]) (fun x=>fs.length-x.1) ⟨0,Nat.zero_le _,rfl⟩ [(6,6),(10,10)]
   ⟨Z,rfl,Y⟩ ?_
  rintro ⟨i,hi,hnf⟩;dsimp only at hi hnf ⊢;apply Sq;apply Sr;refine Cd _ rfl (fun hc=>?_) (fun hc=>?_)
  ·apply Sk
   have hi2:i<fs.length:=by simpa using hc
   apply Sq;apply Bk;apply Sq;refine Tri.regionX ti_ok ?_;(conv=>whnf)
   refine .inl ⟨fun _=>by simp; omega,?_⟩
   (conv=>whnf);refine .inl ⟨encF fs[i],fun _=>get_map _ hi2,?_⟩;refine Cd _ rfl (fun hc=>?_) (fun hc=>?_)
   ·apply Sr;(conv=>whnf);refine Sp ?_;(conv=>whnf);refine ⟨encF fs[i],fun _=>get_map _ hi2,?_⟩;(conv=>whnf);refine ⟨[encI im,encF fs[i]],_,fun _=>F14 im fs[i] hl (hs _ (List.getElem_mem hi2)),Z,?_⟩;apply Sr;apply Rl;apply Sr;apply Rl;apply Rl;apply Rt;(conv=>whnf)
    have e:=fillT_some im fs (l:=l) hk1 (find_at hi2 hnf (by simpa using hc))
    apply Rl;(conv=>whnf);rw [e];exact Z
   apply Sk;apply Rg;refine Ir ?_;(conv=>whnf)
   exact ⟨⟨i+1,hi2,find_next hi2 hnf (by simpa using hc)⟩,[(6,6),(10,10)],by show fs.length-(i+1)<fs.length-i; omega,Z,rfl,Y⟩
  refine Tri.exit ?_
  have hi2:i=fs.length:=by simp at hc; omega
  apply Sr;apply Rl;apply Rl;apply Rt;(conv=>whnf)
  have e:=fillT_none im fs (l:=l) hk1 (by rw [hi2,List.take_length] at hnf; exact hnf)
  apply Rl;(conv=>whnf);rw [e];exact Z
 have hk1:n.kind≠1:=by simpa using hc
 apply Sk;(conv=>whnf);refine Tri.joinK (α:=Option Addr×Nat×Nat) (fun x=>[(0,encI im),(2,encFs fs),(3,.str p),(4,Iv l),(6,.box 6 b6 0),(10,.box 10 b10 0),(17,.raw (.slice x.1 x.2.1 x.2.2))]) (fun x=>[(6,.box b6 [.str n.name,Iv n.kind,.str n.text,.str n.target,Iv n.n1,Iv n.n2,Iv n.n3,Iv n.n4,Iv n.n5,Iv n.n6,.sl .none 12 (n.kids.map enc),.sl .none 2 (n.streams.map encS)]),(10,.box b10 [.str [],Iv 0,.str [],.str [],Iv 0,Iv 0,Iv 0,Iv 0,Iv 0,Iv 0,.nils,.nils]),(57,.row (.slice x.1 x.2.1 x.2.2) (n.kids.map encTop) 12 31)]) ?_ ?_
 ·refine Tri.regionG ti_ok ?_;(conv=>whnf);refine ⟨rfl,trivial,.inr (XOp.buildRowS (q:=100) ti_ok rfl rfl rfl rfl rfl rfl ?_)⟩;(conv=>whnf);refine ⟨rfl,trivial,fun q0=>?_⟩;apply Tj;apply Tj;apply Rl;(conv=>whnf)
  by_cases h0:0<(n.kids.map enc).length
  ·refine ⟨rfl,trivial,.inr (XOp.rowAppend ti_ok 100 rfl rfl rfl (fun h=>by cases h) rfl rfl rfl h0 (by show (0+_)*152≤_; rw [List.length_map]; omega) (by show 0+_≤_; rw [List.length_map]; omega) fun aa m cap=>?_)⟩
   apply Tj;(conv=>whnf)
   exact ⟨(aa,m,cap),[(6,6),(10,10),(57,57)],Z,rfl,rfl,rfl,rfl,rfl,rfl,congrArg (fun z=>some (HObj.row (.slice aa m cap) z 12 31)) (by rw [← he]; exact List.nil_append _),trivial⟩
  have hx:n.kids.map enc=[]:=List.eq_nil_of_length_eq_zero (by omega)
  refine ⟨rfl,trivial,.inr (XOp.rowAppendNone ti_ok 100 rfl rfl rfl rfl rfl rfl hx ?_)⟩;apply Tj;(conv=>whnf)
  exact ⟨(some ⟨q0,0,none⟩,0,0),[(6,6),(10,10),(57,100)],Z,rfl,rfl,rfl,rfl,rfl,rfl,congrArg (fun z=>some (HObj.row (.slice (some ⟨q0,0,none⟩) 0 0) z 12 31)) (by rw [← he,hx]; rfl),trivial⟩
 rintro ⟨aa,m,cap⟩;dsimp only;apply Sq;apply Sr;apply Bk
 refine Tri.loopK (α:={ x:Nat×List NV // x.1≤n.kids.length∧x.2.length=x.1∧fillL im fs n.kids p l=(x.2++(fillL im fs (n.kids.drop x.1) p l).1,(fillL im fs (n.kids.drop x.1) p l).2) }) (fun x=>[(0,encI im),(2,encFs fs),(3,.str p),(4,Iv l),(6,.box 6 b6 0),(10,.box 10 b10 0),(17,.raw (.slice aa m cap)),(18,Iv (x.1.1:Nat))]) (fun x=>[(6,.box b6 [.str n.name,Iv n.kind,.str n.text,.str n.target,Iv n.n1,Iv n.n2,Iv n.n3,Iv n.n4,Iv n.n5,Iv n.n6,.sl .none 12 (n.kids.map enc),.sl .none 2 (n.streams.map encS)]),(10,.box b10 [.str [],Iv 0,.str [],.str [],Iv 0,Iv 0,Iv 0,Iv 0,Iv 0,Iv 0,.nils,.nils]),(57,.row (.slice aa m cap) ((x.1.2++n.kids.drop x.1.1).map encTop) 12 31)]) (fun x=>n.kids.length-x.1.1) ⟨(0,[]),Nat.zero_le _,rfl,rfl⟩ [(6,6),(10,10),(57,57)]
  ⟨Z,rfl,Y⟩ ?_
 rintro ⟨⟨i,M⟩,hi,hM,hfl⟩;dsimp only at hi hM hfl ⊢;apply S2;refine Tri.regionG ti_ok ?_;apply Tj;apply Tj;(conv=>whnf);refine ⟨rfl,trivial,.inr (XOp.rowLen ti_ok 57 rfl rfl rfl rfl ?_)⟩;apply Tj;refine Cd _ rfl (fun hc=>?_) (fun hc=>?_)
 ·apply Sk
  have hi2:i<n.kids.length:=by simp at hc; omega
  obtain ⟨k,hk⟩:∃ k,k=n.kids[i]:=⟨_,rfl⟩
  have hkz:=kid_sz hi2
  rw [← hk] at hkz
  have hml:(M++n.kids.drop i).length=n.kids.length:=by simp; omega
  have hdk:n.kids.drop i=k::n.kids.drop (i+1):=by rw [List.drop_eq_getElem_cons hi2,hk]
  have hgk:((M++n.kids.drop i).map encTop)[i]? = some (encTop k):=by
   rw [List.getElem?_map,List.getElem?_append_right (by omega),hM,Nat.sub_self,hdk]; rfl
  have hbl:=below_le p k.name (l+1)
  have hrec:=ih k (by omega) (by omega) (below p k.name (l+1)) (l+1) (by omega) (by omega) (by omega)
  have hcons:fillL im fs (n.kids.drop i) p l=if (fillT im fs k (below p k.name (l+1)) (l+1)).2.2=0 then ((fillT im fs k (below p k.name (l+1)) (l+1)).1::(fillL im fs (n.kids.drop (i+1)) p l).1,(fillL im fs (n.kids.drop (i+1)) p l).2) else ([],(fillT im fs k (below p k.name (l+1)) (l+1)).2):=by
   rw [hdk]; simp only [fillL]
  generalize fillT im fs k (below p k.name (l+1)) (l+1)=R at hrec hcons;obtain ⟨R1,R2,R3⟩:=R;dsimp only at hrec hcons;apply Sq;apply Bk;apply Sq
  refine Tri.bitsG ti_ok mixed (α:=Nat) (fun b19 f=>[(0,encI im),(2,encFs fs),(3,.str p),(4,Iv l),(6,.box 6 b6 0),(10,.box 10 b10 0),(17,.raw (.slice aa m cap)),(18,Iv (i:Nat)),(65,bif f 0 then encI im else .any),(66,bif f 1 then .raw (.slice aa m cap) else .any),(67,bif f 2 then Iv (i:Nat) else .any),(68,bif f 3 then .raw (rowPtr (.slice aa m cap) ((i:Int).toNat*12)) else .any),(69,bif f 4 then encTop k else .any),(70,bif f 5 then encFs fs else .any),(71,bif f 6 then .str p else .any),(72,bif f 7 then .raw (.slice aa m cap) else .any),(73,bif f 8 then Iv (i:Nat) else .any),(74,bif f 9 then .raw (rowPtr (.slice aa m cap) ((i:Int).toNat*12)) else .any),(75,bif f 10 then .raw (rowPtr (.slice aa m cap) (i*12+0)) else .any),(76,bif f 11 then .str k.name else .any),(77,bif f 12 then Iv l else .any),(78,bif f 13 then .str (below p k.name (l+1)) else .any),(79,bif f 14 then Iv l else .any),(80,bif f 15 then Iv (l+1) else .any),(81,bif f 16 then .tup [encTop R1,Iv R2,Iv R3] else .any),(64,bif f 17 then .tup [encTop R1,Iv R2,Iv R3] else .any),(82,bif f 18 then encTop R1 else .any),(83,bif f 19 then Iv R2 else .any),(84,bif f 20 then Iv R3 else .any),(19,bif f 21 then .box 19 b19 0 else .any),(20,bif f 23 then Iv R2 else .any),(21,bif f 24 then Iv R3 else .any)])
   (fun b19 f=>look ([(6,.box b6 [.str n.name,Iv n.kind,.str n.text,.str n.target,Iv n.n1,Iv n.n2,Iv n.n3,Iv n.n4,Iv n.n5,Iv n.n6,.sl .none 12 (n.kids.map enc),.sl .none 2 (n.streams.map encS)]),(10,.box b10 [.str [],Iv 0,.str [],.str [],Iv 0,Iv 0,Iv 0,Iv 0,Iv 0,Iv 0,.nils,.nils]),(57,.row (.slice aa m cap) ((M++n.kids.drop i).map encTop) 12 31)]++(bif f 22 then [(19,.box b19 (encTop R1).cells)] else (bif f 21 then [(19,.box b19 [.str [],Iv 0,.str [],.str [],Iv 0,Iv 0,Iv 0,Iv 0,Iv 0,Iv 0,.nils,.nils])] else [])))) (by decide +kernel) 0 ?_ ?_ ?_ ?_
  ·exact ⟨.refl _,.refl _,.refl _,.refl _,.refl _,.refl _,.refl _,.refl _,.any _,.any _,.any _,.any _,.any _,.any _,.any _,.any _,.any _,.any _,.any _,.any _,.any _,.any _,.any _,.any _,.any _,.any _,.any _,.any _,.any _,.any _,.any _,.any _,trivial⟩
  ·exact SubHF.of (hs:=[(6,.box b6 [.str n.name,Iv n.kind,.str n.text,.str n.target,Iv n.n1,Iv n.n2,Iv n.n3,Iv n.n4,Iv n.n5,Iv n.n6,.sl .none 12 (n.kids.map enc),.sl .none 2 (n.streams.map encS)]),(10,.box b10 [.str [],Iv 0,.str [],.str [],Iv 0,Iv 0,Iv 0,Iv 0,Iv 0,Iv 0,.nils,.nils]),(57,.row (.slice aa m cap) ((M++n.kids.drop i).map encTop) 12 31)]) ⟨rfl,Y⟩
  ·(conv=>whnf);refine Qo ?_;refine Qo ?_;refine Qo ?_;refine ⟨fun b19 f hI=>?_,?_⟩
   ·obtain ⟨f,rfl⟩:= hI.o f 22 3;apply Tk
    refine XOp.rowIndex ti_ok 57 rfl rfl rfl rfl rfl rfl rfl (by omega) (by rw [List.length_map]; omega) ?_
    (conv=>whnf);exact Ex b19
   refine ⟨fun b19 f hI=>?_,?_⟩
   ·obtain ⟨f,rfl⟩:= hI.o f 22 4;apply Tk
    refine XOp.rowLoad ti_ok 57 (i:=i) (by rw [Int.toNat_natCast]; rfl) rfl rfl hgk ?_
    (conv=>whnf);exact Ex b19
   refine Qo ?_;refine Qo ?_;refine Qo ?_;refine Qo ?_;refine ⟨fun b19 f hI=>?_,?_⟩
   ·obtain ⟨f,rfl⟩:= hI.o f 22 9;apply Tk
    refine XOp.rowIndex ti_ok 57 rfl rfl rfl rfl rfl rfl rfl (by omega) (by rw [List.length_map]; omega) ?_
    (conv=>whnf);exact Ex b19
   refine ⟨fun b19 f hI=>?_,?_⟩
   ·obtain ⟨f,rfl⟩:= hI.o f 22 10;apply Tk
    refine XOp.rowField ti_ok 57 (i:=i) (by rw [Int.toNat_natCast]; rfl) rfl (by rw [List.length_map]; omega) rfl rfl rfl (by decide) ?_
    (conv=>whnf);exact Ex b19
   refine ⟨fun b19 f hI=>?_,?_⟩
   ·obtain ⟨f,rfl⟩:= hI.o f 22 11;apply Tk;refine XOp.rowLoadF ti_ok 57 (i:=i) (j:=0) (y:=encTop k) rfl rfl rfl hgk ?_;(conv=>whnf);exact Ex b19
   refine Qo ?_;refine ⟨fun b19 f hI=>?_,?_⟩
   ·obtain ⟨f,rfl⟩:= hI.o f 22 13;apply Ti;(conv=>whnf);refine ⟨[.str p,.str k.name,Iv l],_,fun _=>F68 p k.name l (by omega) (by omega),Z,?_⟩;(conv=>whnf);exact Ex b19
   refine Qo ?_;refine ⟨fun b19 f hI=>?_,?_⟩
   ·obtain ⟨f,rfl⟩:= hI.o f 22 15;apply Ti;refine Ir ?_;(conv=>whnf);exact Ex b19
   refine ⟨fun b19 f hI=>?_,?_⟩
   ·obtain ⟨f,rfl⟩:= hI.o f 22 16;apply Ti;(conv=>whnf);refine ⟨[encI im,encTop k,encFs fs,.str (below p k.name (l+1)),Iv (l+1)],_,fun _=>hrec,Z,?_⟩;(conv=>whnf);exact Ex b19
   refine Qo ?_;refine Qo ?_;refine Qo ?_;refine Qo ?_;refine ⟨fun b19 f hI=>?_,?_⟩
   ·obtain ⟨f,rfl⟩:= hI.o f 22 21;apply Ti;(conv=>whnf);intro pnb;(conv=>whnf);exact Ex pnb (SubHF.of (hs:=[(6,.box b6 [.str n.name,Iv n.kind,.str n.text,.str n.target,Iv n.n1,Iv n.n2,Iv n.n3,Iv n.n4,Iv n.n5,Iv n.n6,.sl .none 12 (n.kids.map enc),.sl .none 2 (n.streams.map encS)]),(10,.box b10 [.str [],Iv 0,.str [],.str [],Iv 0,Iv 0,Iv 0,Iv 0,Iv 0,Iv 0,.nils,.nils]),(57,.row (.slice aa m cap) ((M++n.kids.drop i).map encTop) 12 31),(19,.box pnb [.str [],Iv 0,.str [],.str [],Iv 0,Iv 0,Iv 0,Iv 0,Iv 0,Iv 0,.nils,.nils])]) (by exact ⟨rfl,Y⟩))
   refine ⟨fun b19 f hI=>?_,?_⟩
   ·(conv=>whnf);apply Ti;apply Rl;(conv=>whnf);exact Ex b19 (SubHF.of (hs:=[(6,.box b6 [.str n.name,Iv n.kind,.str n.text,.str n.target,Iv n.n1,Iv n.n2,Iv n.n3,Iv n.n4,Iv n.n5,Iv n.n6,.sl .none 12 (n.kids.map enc),.sl .none 2 (n.streams.map encS)]),(10,.box b10 [.str [],Iv 0,.str [],.str [],Iv 0,Iv 0,Iv 0,Iv 0,Iv 0,Iv 0,.nils,.nils]),(57,.row (.slice aa m cap) ((M++n.kids.drop i).map encTop) 12 31),(19,.box b19 (encTop R1).cells)]) (by exact ⟨rfl,Y⟩))
   refine Qo ?_;refine Qo ?_;exact trivial
  intro b19 f hfl;obtain ⟨f,rfl⟩:=onAll f 25 (by exact hfl);clear hfl;(conv=>whnf);refine Tri.forgetG [(0,encI im),(2,encFs fs),(3,.str p),(4,Iv l),(6,.box 6 b6 0),(10,.box 10 b10 0),(17,.raw (.slice aa m cap)),(18,Iv (i:Nat)),(19,.box 19 b19 0),(20,Iv R2),(21,Iv R3)] (look [(6,.box b6 [.str n.name,Iv n.kind,.str n.text,.str n.target,Iv n.n1,Iv n.n2,Iv n.n3,Iv n.n4,Iv n.n5,Iv n.n6,.sl .none 12 (n.kids.map enc),.sl .none 2 (n.streams.map encS)]),(10,.box b10 [.str [],Iv 0,.str [],.str [],Iv 0,Iv 0,Iv 0,Iv 0,Iv 0,Iv 0,.nils,.nils]),(57,.row (.slice aa m cap) ((M++n.kids.drop i).map encTop) 12 31),(19,.box b19 (encTop R1).cells)]) (.same (by exact Z) (SubHF.of (hs:=[(6,.box b6 [.str n.name,Iv n.kind,.str n.text,.str n.target,Iv n.n1,Iv n.n2,Iv n.n3,Iv n.n4,Iv n.n5,Iv n.n6,.sl .none 12 (n.kids.map enc),.sl .none 2 (n.streams.map encS)]),(10,.box b10 [.str [],Iv 0,.str [],.str [],Iv 0,Iv 0,Iv 0,Iv 0,Iv 0,Iv 0,.nils,.nils]),(57,.row (.slice aa m cap) ((M++n.kids.drop i).map encTop) 12 31),(19,.box b19 (encTop R1).cells)]) (by exact ⟨rfl,Y⟩))) ?_;apply Sq;apply Sr;refine Cd _ rfl (fun hc=>?_) (fun hc=>?_)
  ·apply Sr;apply Rl;apply Rl;apply Rt;(conv=>whnf)
   have h3:R3≠0:=by simpa using hc
   have e:=fillT_bad im fs (l:=l) (p:=p) hk1 (by rw [hfl,hcons,if_neg h3]; exact h3)
   apply Rl;(conv=>whnf);rw [e,hfl,hcons,if_neg h3];exact Z
  apply Sk
  have h3:R3=0:=by simpa using hc
  (conv=>whnf);refine Tri.regionX ti_ok ?_;apply Il;apply Rl;(conv=>whnf)
  refine .inr (XOp.rowIndex ti_ok 57 rfl rfl rfl rfl rfl rfl rfl (by omega) (by rw [List.length_map]; omega) ?_)
  conv=>whnf
  refine .inr (XOp.rowStoreS ti_ok 57 (i:=i) (by rw [Int.toNat_natCast]; rfl) rfl rfl rfl (by rw [List.length_map]; omega) (cs:=(encTop R1).cells) rfl rfl rfl ?_)
  apply Rg;refine Ir ?_;(conv=>whnf)
  exact ⟨⟨(i+1,M++[R1]),hi2,by simp; omega,by rw [hfl,hcons,if_pos h3]; simp⟩,[(6,6),(10,10),(57,57)],by show n.kids.length-(i+1)<n.kids.length-i; omega,Z,rfl,rfl,rfl,rfl,rfl,rfl,congrArg (fun z=>some (HObj.row (.slice aa m cap) z 12 31)) (set_row hM hdk),trivial⟩
 refine Tri.exit ?_
 have hi2:i=n.kids.length:=by simp at hc; omega
 have hd0:n.kids.drop i=[]:=by rw [hi2]; exact List.drop_length
 rw [hd0] at hfl
 have hrow:(M++n.kids.drop i).map encTop=M.map encTop:=by rw [hd0,List.append_nil]
 rw [hrow]
 have hfl2:fillL im fs n.kids p l=(M,0,0):=by rw [hfl]; simp [fillL]
 apply Sr;apply Rl;apply Sq;refine Tri.commitBox 57 6 10 rfl rfl (by decide) rfl ?_;apply Rg;apply Rl;apply Rl;apply Rt;(conv=>whnf)
 have e:=fillT_ok im fs (l:=l) (p:=p) hk1 (by rw [hfl2])
 apply Rl;(conv=>whnf);rw [e,hfl2];refine ⟨DLe.agg ⟨.refl _,.refl _,.refl _,.refl _,.refl _,.refl _,.refl _,.refl _,.refl _,.refl _,DLe.of_eq (congrArg (D.sl .none 12) ?_),.refl _,trivial⟩,.refl _,.refl _,trivial⟩
 exact List.map_congr_left fun k _=>(enc_eq k).symm
theorem _root_.Go.Tame.XOp.arrAt {P:Program} {nt:Nat} {σ:DSt} {dst:Option Tmp} {K:DSt→Prop} {t el n:Nat} {x ix:Operand} {s b off:Nat} {ik:IntKind} {i:Int} (k:Nat) (hu:P.underlying t=some (.array n el)) (hs:(P.info? el).map (·.size)=some k) (hx:σ.ev x=.box s b off) (hix:σ.ev ix=.int ik i)
  (h0:0≤i) (h1:i<n) (hK:K (σ.put dst (.box s b (off+i.toNat*k)))):XOp P W0 nt σ dst (.indexAddr t x ix) K:=by
 obtain ⟨inf,hi,rfl⟩:=Option.map_eq_some_iff.1 hs;exact XOp.arrIndex hu hi hx hix h0 h1 hK
def treeR (im:List (List UInt8)) (v:IV) (i:Int):NV×Int×Int :=
 if hasV v i=0 then
  if valid (lst v i)=true then
   if (fillT im (fls v i) (lst v i) [] 1).2.2=0 then ((fillT im (fls v i) (lst v i) [] 1).1,0,0) else (zN,(fillT im (fls v i) (lst v i) [] 1).2)
  else (zN,0,1)
 else (zN,0,hasV v i)
def encT (r:NV×Int×Int):D:=.tup [encTop r.1,Iv r.2.1,Iv r.2.2]
theorem F8o (v:IV) (i:Int) (h0:hasV v i=0):DFun Tryz.prog W0 8 [encIV v,Iv i] (.tup [encTop (lst v i),Iv 0]):=by
 have:=F8 (W0:=W0) v i
 rw [show listV v i=(lst v i,0) from if_pos h0] at this; exact this
theorem F8n (v:IV) (i:Int) (h0:hasV v i≠0):DFun Tryz.prog W0 8 [encIV v,Iv i] (.tup [encTop zN,Iv (hasV v i)]):=by
 have:=F8 (W0:=W0) v i
 rw [show listV v i=(zN,hasV v i) from if_neg h0] at this; exact this
theorem F16n (im:List (List UInt8)) (v:IV) (i:Int) (h0:hasV v i≠0):DFun Tryz.prog W0 16 [encI im,encIV v,Iv i] (encT (treeR im v i)):=by
 refine Fi Tryz.func16 rfl Tryz.ntmps16 fun Γ=>?_
 apply Sr;(conv=>whnf);intro b4;(conv=>whnf);intro b6;apply Sr;apply Rl;(conv=>whnf);refine ⟨[encIV v,Iv i],_,fun _=>F8n v i h0,Z,?_⟩;(conv=>whnf);intro b9;apply Rl;apply Sq;apply Sr;refine Cd _ rfl (fun hc=>?_) (fun hc=>?_)
 ·apply Sr;apply Rl;apply Rt;(conv=>whnf)
  have e:treeR im v i=(zN,0,hasV v i):=if_neg h0
  apply Rl;(conv=>whnf)
  rw [e]; exact ⟨zN_le,.refl _,.refl _,trivial⟩
 exfalso
 simp at hc; exact h0 hc
theorem F16o (im:List (List UInt8)) (v:IV) (i:Int) (h0:hasV v i=0) (hl:im.length<1000000) (hz:Fits (lst v i)) (hf:(fls v i).length<1000000000) (hs:∀ f∈fls v i,f.start≤9223372036854775807):DFun Tryz.prog W0 16 [encI im,encIV v,Iv i] (encT (treeR im v i)):=by
 have h3:=hasV_ok h0
 have hz2:sz (lst v i)<2200000:=by unfold Fits at hz; omega
 refine Fi Tryz.func16 rfl Tryz.ntmps16 fun Γ=>?_
 apply Sr;(conv=>whnf);intro b4;(conv=>whnf);intro b6;apply Sr;apply Rl;(conv=>whnf);refine ⟨[encIV v,Iv i],_,fun _=>F8o v i h0,Z,?_⟩;(conv=>whnf);intro b9;apply Rl;apply Sq;apply Sr;refine Cd _ rfl (fun hc=>?_) (fun hc=>?_)
 ··exfalso
   simp at hc
 apply Sk;apply Sq;apply Sr;apply Rl;(conv=>whnf);refine ⟨[encTop (lst v i)],_,fun _=>F20 (lst v i) hz,Z,?_⟩;refine Cd _ rfl (fun hc=>?_) (fun hc=>?_)
 ·apply Sr;apply Rl;apply Rt;(conv=>whnf)
  have hv:¬ valid (lst v i)=true:=by simpa using hc
  have e:treeR im v i=(zN,0,1):=by unfold treeR; rw [if_pos h0,if_neg hv]
  apply Rl;(conv=>whnf)
  rw [e]; exact ⟨zN_le,.refl _,.refl _,trivial⟩
 apply Sk
 have hv:valid (lst v i)=true:=by simpa using hc
 have hrec:=F34 (W0:=W0) im (fls v i) hl hf hs _ (lst v i) (Nat.lt_succ_self _) (by omega) [] 1 (by omega) (by omega) (by simp; omega)
 have e:treeR im v i=if (fillT im (fls v i) (lst v i) [] 1).2.2=0 then ((fillT im (fls v i) (lst v i) [] 1).1,0,0) else (zN,(fillT im (fls v i) (lst v i) [] 1).2):=by
  unfold treeR; rw [if_pos h0,if_pos hv]
 generalize fillT im (fls v i) (lst v i) [] 1=R at hrec e;obtain ⟨R1,R2,R3⟩:=R;dsimp only at hrec e;apply Sq
 refine Tri.bitsG ti_ok mixed (α:=Nat) (fun b11 f=>[(0,encI im),(2,Iv i),(4,.box 4 b4 0),(6,.box 6 b6 0),(9,.box 9 b9 0),(28,bif f 0 then encI im else .any),(29,bif f 1 then encTop (lst v i) else .any),(30,bif f 2 then Iv i else .any),(31,bif f 3 then .box 4 b4 48 else .any),(32,bif f 4 then .box 4 b4 (48+i.toNat*1) else .any),(33,bif f 5 then encFs (fls v i) else .any),(34,bif f 6 then .tup [encTop R1,Iv R2,Iv R3] else .any),(27,bif f 7 then .tup [encTop R1,Iv R2,Iv R3] else .any),(35,bif f 8 then encTop R1 else .any),(36,bif f 9 then Iv R2 else .any),(37,bif f 10 then Iv R3 else .any),(11,bif f 11 then .box 11 b11 0 else .any),(12,bif f 13 then Iv R2 else .any),(10,bif f 14 then Iv R3 else .any)])
  (fun b11 f=>look ([(4,.box b4 (encIV v).cells),(6,.box b6 [.str [],Iv 0,.str [],.str [],Iv 0,Iv 0,Iv 0,Iv 0,Iv 0,Iv 0,.nils,.nils]),(9,.box b9 (encTop (lst v i)).cells)]++(bif f 12 then [(11,.box b11 (encTop R1).cells)] else (bif f 11 then [(11,.box b11 [.str [],Iv 0,.str [],.str [],Iv 0,Iv 0,Iv 0,Iv 0,Iv 0,Iv 0,.nils,.nils])] else [])))) (by decide +kernel) 0 ?_ ?_ ?_ ?_
 ·exact ⟨.refl _,.refl _,.refl _,.refl _,.refl _,.any _,.any _,.any _,.any _,.any _,.any _,.any _,.any _,.any _,.any _,.any _,.any _,.any _,.any _,trivial⟩
 ·exact SubHF.of (hs:=[(4,.box b4 (encIV v).cells),(6,.box b6 [.str [],Iv 0,.str [],.str [],Iv 0,Iv 0,Iv 0,Iv 0,Iv 0,Iv 0,.nils,.nils]),(9,.box b9 (encTop (lst v i)).cells)]) ⟨rfl,Y⟩
 ·(conv=>whnf);refine Qo ?_;refine ⟨fun b11 f hI=>?_,?_⟩
  ·obtain ⟨f,rfl⟩:= hI.o f 12 1;apply Ti;apply Rl;(conv=>whnf);exact Ex b11
  refine Qo ?_;refine Qo ?_;refine ⟨fun b11 f hI=>?_,?_⟩
  ·obtain ⟨f,rfl⟩:= hI.o f 12 4;apply Tk;refine XOp.arrAt 1 rfl (by kernel_rfl) rfl rfl (by omega) (by omega) ?_;(conv=>whnf);exact Ex b11
  refine ⟨fun b11 f hI=>?_,?_⟩
  ·obtain ⟨f,rfl⟩:= hI.o f 12 5;apply Tk
   refine XOp.boxLoadAt ti_ok (d:=encFs (fls v i)) rfl rfl rfl rfl (by rcases h3 with rfl|rfl|rfl<;>rfl) ?_
   (conv=>whnf);exact Ex b11
  refine ⟨fun b11 f hI=>?_,?_⟩
  ·obtain ⟨f,rfl⟩:= hI.o f 12 6;apply Ti;(conv=>whnf);refine ⟨[encI im,encTop (lst v i),encFs (fls v i),.str [],Iv 1],_,fun _=>hrec,Z,?_⟩;(conv=>whnf);exact Ex b11
  refine Qo ?_;refine Qo ?_;refine Qo ?_;refine Qo ?_;refine ⟨fun b11 f hI=>?_,?_⟩
  ·obtain ⟨f,rfl⟩:= hI.o f 12 11;apply Ti;(conv=>whnf);intro pnb;(conv=>whnf);exact Ex pnb (SubHF.of (hs:=[(4,.box b4 (encIV v).cells),(6,.box b6 [.str [],Iv 0,.str [],.str [],Iv 0,Iv 0,Iv 0,Iv 0,Iv 0,Iv 0,.nils,.nils]),(9,.box b9 (encTop (lst v i)).cells),(11,.box pnb [.str [],Iv 0,.str [],.str [],Iv 0,Iv 0,Iv 0,Iv 0,Iv 0,Iv 0,.nils,.nils])]) (by exact ⟨rfl,Y⟩))
  refine ⟨fun b11 f hI=>?_,?_⟩
  ·(conv=>whnf);apply Ti;apply Rl;(conv=>whnf);exact Ex b11 (SubHF.of (hs:=[(4,.box b4 (encIV v).cells),(6,.box b6 [.str [],Iv 0,.str [],.str [],Iv 0,Iv 0,Iv 0,Iv 0,Iv 0,Iv 0,.nils,.nils]),(9,.box b9 (encTop (lst v i)).cells),(11,.box b11 (encTop R1).cells)]) (by exact ⟨rfl,Y⟩))
  refine Qo ?_;refine Qo ?_;exact trivial
 intro b11 f hfl;obtain ⟨f,rfl⟩:=onAll f 15 (by exact hfl);clear hfl;(conv=>whnf);refine Tri.forgetG [(6,.box 6 b6 0),(10,Iv R3),(11,.box 11 b11 0),(12,Iv R2)] (look [(6,.box b6 [.str [],Iv 0,.str [],.str [],Iv 0,Iv 0,Iv 0,Iv 0,Iv 0,Iv 0,.nils,.nils]),(11,.box b11 (encTop R1).cells)]) (.same (by exact Z) (SubHF.of (hs:=[(6,.box b6 [.str [],Iv 0,.str [],.str [],Iv 0,Iv 0,Iv 0,Iv 0,Iv 0,Iv 0,.nils,.nils]),(11,.box b11 (encTop R1).cells)]) (by exact ⟨rfl,Y⟩))) ?_;apply Sq;apply Sr;refine Cd _ rfl (fun hc=>?_) (fun hc=>?_)
 ·apply Sr;apply Rl;apply Rt;(conv=>whnf)
  have h4:R3≠0:=by simpa using hc
  rw [if_neg h4] at e;apply Rl;(conv=>whnf)
  rw [e]; exact ⟨zN_le,.refl _,.refl _,trivial⟩
 apply Sk
 have h4:R3=0:=by simpa using hc
 apply Sr;apply Rl;apply Rl;apply Rt;(conv=>whnf);rw [if_pos h4] at e;apply Rl;(conv=>whnf)
 rw [e]; exact Z
theorem F16 (im:List (List UInt8)) (v:IV) (i:Int) (hl:im.length<1000000) (hz:Fits (lst v i)) (hf:(fls v i).length<1000000000) (hs:∀ f∈fls v i,f.start≤9223372036854775807):DFun Tryz.prog W0 16 [encI im,encIV v,Iv i] (encT (treeR im v i)):=by
 by_cases h0:hasV v i=0
 ·exact F16o im v i h0 hl hz hf hs
 exact F16n im v i h0
def ixF (l:List FV) (p:List UInt8):Int:=if l.findIdx (fun x=>x.path==p)<l.length then (l.findIdx (fun x=>x.path==p):Nat) else -1
theorem ixF_hit {l:List FV} {p:List UInt8} {i:Nat} (h:i<l.length) (hn:∀ j (hj:j<l.length),j<i→(l[j].path==p)=false) (hq:(l[i].path==p)=true):ixF l p=i:=by
 have e:l.findIdx (fun x=>x.path==p)=i:=(List.findIdx_eq h).2 ⟨hq,fun j hj=>hn j (by omega) hj⟩
 unfold ixF; rw [e,if_pos h]
theorem ixF_none {l:List FV} {p:List UInt8} (hn:∀ j (hj:j<l.length),(l[j].path==p)=false):ixF l p=-1:=by
 have e:l.findIdx (fun x=>x.path==p)=l.length:=List.findIdx_eq_length.2 fun x hx=>by
  obtain ⟨j,hj,rfl⟩:=List.mem_iff_getElem.1 hx; exact hn j hj
 unfold ixF; rw [e,if_neg (Nat.lt_irrefl _)]
theorem F32 (f:FV) (p:List UInt8):DFun Tryz.prog W0 32 [encF f,.elm 1 [.str p] 0 0] (.bool (f.path==p)):=by
 refine Fi Tryz.func32 rfl Tryz.ntmps32 fun Γ=>?_
 apply Sr;(conv=>whnf);intro b2;apply Sr;apply Rl;refine Lo (.str p) ?_;apply Rt;(conv=>whnf);exact .refl _
theorem F31 (l:List FV) (p:List UInt8) (hl:l.length<1000000000):DFun Tryz.prog W0 31 [encFs l,.fn (.func 32) [] [.elm 1 [.str p] 0 0]] (Iv (ixF l p)):=by
 refine Fi Tryz.func31 rfl Tryz.ntmps31 fun Γ=>?_
 apply Sr;apply Sq;apply Sr;apply Bk;refine Tri.loop (α:={ i:Nat // i≤l.length∧∀ j (hj:j<l.length),j<i→(l[j].path==p)=false }) (fun x=>[(0,encFs l),(1,.fn (.func 32) [] [.elm 1 [.str p] 0 0]),(7,Iv l.length),(8,Iv x.1)]) (fun _=>[]) (fun x=>l.length-x.1) ⟨0,Nat.zero_le _,fun j hj h=>by omega⟩ ⟨.refl _,.refl _,DLe.of_eq (congrArg (D.int .i64) (by rw [List.length_map])),.refl _,trivial⟩ trivial ?_;rintro ⟨i,hi,hn⟩;dsimp only at hi hn ⊢;apply Sr;apply Sq;refine Cd _ rfl (fun hc=>?_) (fun hc=>?_)
 ·apply Sk
  have hi2:i<l.length:=by simpa using hc
  apply Sq;apply Bk;apply Sr;apply Sr;(conv=>whnf);refine Sp ?_;(conv=>whnf);refine ⟨encF l[i],fun _=>get_map _ hi2,?_⟩;(conv=>whnf);refine ⟨[encF l[i],.elm 1 [.str p] 0 0],_,fun _=>F32 l[i] p,Z,?_⟩;refine Cd _ rfl (fun hc=>?_) (fun hc=>?_)
  ·apply Sr;apply Rt;(conv=>whnf);exact DLe.of_eq (congrArg (D.int .i64) (ixF_hit hi2 hn (by simpa using hc)).symm)
  apply Sk;apply Rg;refine Ir ?_;(conv=>whnf)
  exact ⟨⟨i+1,hi2,fun j hj h=>by
   rcases Nat.lt_or_ge j i with h2|h2
   ·exact hn j hj h2
   obtain rfl:j=i:=by omega
   simpa using hc⟩,by show l.length-(i+1)<l.length-i; omega,Z,trivial⟩
 refine Tri.exit ?_
 have hi2:i=l.length:=by simp at hc; omega
 apply Sr;apply Rt;(conv=>whnf);exact DLe.of_eq (congrArg (D.int .i64) (ixF_none fun j hj=>hn j hj (by omega)).symm)
theorem _root_.Go.Tame.XOp.arrElm {P:Program} {nt:Nat} {σ:DSt} {dst:Option Tmp} {K:DSt→Prop} {t el n:Nat} {x ix:Operand} {m j off:Nat} {xs:List D} {ik:IntKind} {i:Int} (k:Nat) (hu:P.underlying t=some (.array n el)) (hs:(P.info? el).map (·.size)=some k) (hx:σ.ev x=.elm m xs j off) (hix:σ.ev ix=.int ik i)
  (h0:0≤i) (h1:i<n) (hK:K (σ.put dst (.elm m xs j (off+i.toNat*k)))):XOp P W0 nt σ dst (.indexAddr t x ix) K :=
 .val fun Γ w C a hf type pos after=>by
  obtain ⟨inf,hi,rfl⟩:=Option.map_eq_some_iff.1 hs
  have hv:=act_ev hf.tmps x; rw [hx] at hv
  have hvi:=act_ev hf.tmps ix; rw [hix] at hvi
  cases hv':a.eval x with
  | pointer ad =>
   rw [hv'] at hv
   cases hv with
   | elm _ _ _ _ b o cap h =>
    refine ⟨.pointer (some ⟨b,o+j*m+(off+i.toNat*inf.size),none⟩),w,C,σ,_,?_,hf,.elm _ _ _ _ b o cap h,hK⟩
    simp [execOp,Instr.indexAt,hv',hvi.int_inv,asIntOf,run_underlying hu,Instr.sureAddr,h0,h1,run_sizeOf hi,addr_add,Nat.add_assoc]
  | _=>rw [hv'] at hv; cases hv
theorem _root_.Go.Tame.XOp.elmLoadAt {P:Program} {nt:Nat} {σ:DSt} {dst:Option Tmp} {K:DSt→Prop} {ti:List TEnt} (hT:TOk P ti) {t:Nat} {x:Operand} {k off:Nat} {cs:List D} {d:D} {te:TEnt} (hx:σ.ev x=.elm k [.agg cs] 0 off) (ht:tget ti t=some te) (ha:te.agg=false) (hc:cs[off]? = some d)
  (hK:K (σ.put dst d)):XOp P W0 nt σ dst (.load t x) K :=
 XOp.plain hT (by
  show opn true (σ.ev x) fun x=>loadD ti σ true t x fun d=>K (σ.put dst d)
  rw [hx]
  show loadD ti σ true t (.elm k [.agg cs] 0 off) fun d=>K (σ.put dst d)
  unfold loadD
  rw [ht];refine Lo (.agg cs) ?_;simp only [loadX,ha,hc]
  exact hK)
theorem ix_neg {l:List FV} {p:List UInt8} (h:ixF l p<0):l.find? (fun x=>x.path==p)=none:=by
 unfold ixF at h
 by_cases h1:l.findIdx (fun x=>x.path==p)<l.length
 ·rw [if_pos h1] at h; omega
 rw [List.find?_eq_getElem?_findIdx,List.getElem?_eq_none (by omega)]
theorem ix_pos {l:List FV} {p:List UInt8} (h:¬ ixF l p<0):∃ hlt:(ixF l p).toNat<l.length,l.find? (fun x=>x.path==p)=some (l[(ixF l p).toNat]):=by
 unfold ixF at h ⊢
 by_cases h1:l.findIdx (fun x=>x.path==p)<l.length
 ·simp only [if_pos h1,Int.toNat_natCast];exact ⟨h1,by rw [List.find?_eq_getElem?_findIdx,List.getElem?_eq_getElem h1]⟩
 rw [if_neg h1] at h; omega
def chgV (im:List (List UInt8)) (fs:List FV) (n:NV) (p:List UInt8) (s:Int×Int):NV×(Int×Int) :=
 if n.kind≠1∨s.1≠0 then (n,s) else match fs.find? (fun x=>x.path==p) with
  | some x=>({ n with text:=(contV im x).1 },(contV im x).2.2,(contV im x).2.1)
  | none=>(n,6,s.2)
def chA (be bb:Nat):WS (Int×Int):=⟨fun s=>.box be [Iv s.1],fun s=>.box bb [Iv s.2]⟩
theorem F30 (im:List (List UInt8)) (v:IV) (i:Int) (h3:i=0∨i=1∨i=2) (hl:im.length<1000000) (hf:(fls v i).length<1000000000) (hs:∀ f∈fls v i,f.start≤9223372036854775807) (be bb:Nat) (n:NV) (p:List UInt8) (e b:Int):DCall Tryz.prog W0 30 [encTop n,.str p,.box 2000 be 0,.elm 52 [encIV v] 0 0,.elm 1 [Iv i] 0 0,.elm 1 [encI im] 0 0,.box 2001 bb 0] ((chA be bb).H (e,b)) fun d H'=>d=encTop (chgV im (fls v i) n p (e,b)).1∧H' 2000=some ((chA be bb).o1 (chgV im (fls v i) n p (e,b)).2)∧H' 2001=some ((chA be bb).o2 (chgV im (fls v i) n p (e,b)).2):=by
 refine DCall.intro ti_ok Tryz.func30 rfl (by decide +kernel) Tryz.ntmps30 rfl fun Γ=>?_
 apply Sr;(conv=>whnf);intro b7;(conv=>whnf);intro b8;(conv=>whnf);intro b9;apply Sq;apply Sr;apply Rl;apply Rl;apply Hh;refine Pk ?_;refine Cd _ rfl (fun hc=>?_) (fun hc=>?_)
 ·apply Sq
  have hF:chgV im (fls v i) n p (e,b)=(n,e,b):=if_pos (by simp at hc; show n.kind≠1∨e≠0; omega)
  apply Rg;apply Rl;apply Rl;(conv=>whnf);refine Tri.retK [(9,.box 9 b9 0)] [(2000,.box be [Iv e]),(2001,.box bb [Iv b]),(9,.box b9 [.str n.name,Iv n.kind,.str n.text,.str n.target,Iv n.n1,Iv n.n2,Iv n.n3,Iv n.n4,Iv n.n5,Iv n.n6,.sl .none 12 (n.kids.map enc),.sl .none 2 (n.streams.map encS)])] [(2000,2000),(2001,2001),(9,9)] ⟨Z,rfl,Y⟩ ?_;(conv=>whnf);rw [hF];exact ⟨_,⟨rfl,.refl _⟩,rfl,rfl,rfl⟩
 apply Sk
 have hk:¬ (n.kind≠1∨e≠0):=by simp at hc; omega
 (conv=>whnf);refine Tri.boxElm 8 8 (.str p) rfl rfl rfl rfl ?_;apply Sq;refine Tri.regionX ti_ok ?_;(conv=>whnf);refine .inl ⟨Iv i,fun _=>rfl,?_⟩;(conv=>whnf);refine .inr (XOp.arrElm 1 rfl (by kernel_rfl) rfl rfl (by omega) (by omega) ?_);(conv=>whnf)
 refine .inr (XOp.elmLoadAt ti_ok (d:=encFs (fls v i)) rfl rfl rfl (by rcases h3 with rfl|rfl|rfl<;>rfl) ?_)
 (conv=>whnf);refine .inl ⟨[encFs (fls v i),.fn (.func 32) [] [.elm 1 [.str p] 0 0]],_,fun _=>F31 _ p hf,Z,?_⟩;apply Sq;apply Sr;refine Cd _ rfl (fun hc=>?_) (fun hc=>?_)
 ·apply Sq
  have hneg:ixF (fls v i) p<0:=by simpa using hc
  have hF:chgV im (fls v i) n p (e,b)=(n,6,b):=by unfold chgV; rw [if_neg hk,ix_neg hneg]
  apply Rg;apply Rl;apply Sr;apply Rl;apply Rl;(conv=>whnf);refine Tri.retK [(9,.box 9 b9 0)] [(2000,.box be [Iv 6]),(2001,.box bb [Iv b]),(9,.box b9 [.str n.name,Iv n.kind,.str n.text,.str n.target,Iv n.n1,Iv n.n2,Iv n.n3,Iv n.n4,Iv n.n5,Iv n.n6,.sl .none 12 (n.kids.map enc),.sl .none 2 (n.streams.map encS)])] [(2000,2000),(2001,2001),(9,9)] ⟨Z,rfl,Y⟩ ?_;(conv=>whnf);rw [hF];exact ⟨_,⟨rfl,.refl _⟩,rfl,rfl,rfl⟩
 apply Sk
 have hneg:¬ ixF (fls v i) p<0:=by simpa using hc
 obtain ⟨hlt,hfd⟩:=ix_pos hneg
 have hgx:((fls v i).map encF)[(ixF (fls v i) p).toNat]? = some (encF (fls v i)[(ixF (fls v i) p).toNat]):=get_map _ hlt
 have hst:=hs _ (List.getElem_mem hlt)
 generalize (fls v i)[(ixF (fls v i) p).toNat]=x at hgx hfd hst
 have hcon:=F13 (W0:=W0) im x hl hst
 have hF:chgV im (fls v i) n p (e,b)=({ n with text:=(contV im x).1 },(contV im x).2.2,(contV im x).2.1):=by unfold chgV; rw [if_neg hk,hfd]
 generalize contV im x=R at hcon hF;obtain ⟨T1,T2,T3⟩:=R;dsimp only at hF;apply Sq
 refine Tri.bitsG ti_ok mixed (α:=Unit) (fun _ f=>[(2,.box 2000 be 0),(3,.elm 52 [encIV v] 0 0),(4,.elm 1 [Iv i] 0 0),(5,.elm 1 [encI im] 0 0),(6,.box 2001 bb 0),(7,.box 7 b7 0),(9,.box 9 b9 0),(10,Iv (ixF (fls v i) p)),(29,bif f 0 then encI im else .any),(30,bif f 1 then Iv i else .any),(31,bif f 2 then .elm 52 [encIV v] 0 48 else .any),(32,bif f 3 then .elm 52 [encIV v] 0 (48+i.toNat*1) else .any),(33,bif f 4 then encFs (fls v i) else .any),(34,bif f 5 then Iv (ixF (fls v i) p) else .any),(35,bif f 6 then .elm 3 ((fls v i).map encF) (ixF (fls v i) p).toNat 0 else .any),(36,bif f 7 then encF x else .any),(37,bif f 8 then .tup [.str T1,Iv T2,Iv T3] else .any),(28,bif f 9 then .tup [.str T1,Iv T2,Iv T3] else .any),(38,bif f 10 then .str T1 else .any),(39,bif f 11 then Iv T2 else .any),(40,bif f 12 then Iv T3 else .any),(41,bif f 13 then .box 7 b7 2 else .any)])
  (fun _ f=>look [(2000,.box be (bif f 16 then [Iv T3] else [Iv e])),(2001,.box bb (bif f 15 then [Iv T2] else [Iv b])),(7,.box b7 (bif f 14 then [.str n.name,Iv n.kind,.str T1,.str n.target,Iv n.n1,Iv n.n2,Iv n.n3,Iv n.n4,Iv n.n5,Iv n.n6,.sl .none 12 (n.kids.map enc),.sl .none 2 (n.streams.map encS)] else [.str n.name,Iv n.kind,.str n.text,.str n.target,Iv n.n1,Iv n.n2,Iv n.n3,Iv n.n4,Iv n.n5,Iv n.n6,.sl .none 12 (n.kids.map enc),.sl .none 2 (n.streams.map encS)])),(9,.box b9 [.str [],Iv 0,.str [],.str [],Iv 0,Iv 0,Iv 0,Iv 0,Iv 0,Iv 0,.nils,.nils])]) (by decide +kernel) () ?_ ?_ ?_ ?_
 ·exact ⟨.refl _,.refl _,.refl _,.refl _,.refl _,.refl _,.refl _,.refl _,.any _,.any _,.any _,.any _,.any _,.any _,.any _,.any _,.any _,.any _,.any _,.any _,.any _,.any _,trivial⟩
 ·exact SubHF.of (hs:=[(2000,.box be [Iv e]),(2001,.box bb [Iv b]),(7,.box b7 [.str n.name,Iv n.kind,.str n.text,.str n.target,Iv n.n1,Iv n.n2,Iv n.n3,Iv n.n4,Iv n.n5,Iv n.n6,.sl .none 12 (n.kids.map enc),.sl .none 2 (n.streams.map encS)]),(9,.box b9 [.str [],Iv 0,.str [],.str [],Iv 0,Iv 0,Iv 0,Iv 0,Iv 0,Iv 0,.nils,.nils])]) ⟨rfl,Y⟩
 ·(conv=>whnf);refine ⟨fun _ f hI=>?_,?_⟩
  ·obtain ⟨f,rfl⟩:= hI.o f 14 0;obtain ⟨f,rfl⟩:= hI.o f 15 0;obtain ⟨f,rfl⟩:= hI.o f 16 0;apply Ti;refine Lo (encI im) ?_;(conv=>whnf);exact Ex ()
  refine ⟨fun _ f hI=>?_,?_⟩
  ·obtain ⟨f,rfl⟩:= hI.o f 14 1;obtain ⟨f,rfl⟩:= hI.o f 15 1;obtain ⟨f,rfl⟩:= hI.o f 16 1;apply Ti;refine Lo (Iv i) ?_;(conv=>whnf);exact Ex ()
  refine Qo ?_;refine ⟨fun _ f hI=>?_,?_⟩
  ·obtain ⟨f,rfl⟩:= hI.o f 14 3;obtain ⟨f,rfl⟩:= hI.o f 15 3;obtain ⟨f,rfl⟩:= hI.o f 16 3;apply Tk;refine XOp.arrElm 1 rfl (by kernel_rfl) rfl rfl (by omega) (by omega) ?_;(conv=>whnf);exact Ex ()
  refine ⟨fun _ f hI=>?_,?_⟩
  ·obtain ⟨f,rfl⟩:= hI.o f 14 4;obtain ⟨f,rfl⟩:= hI.o f 15 4;obtain ⟨f,rfl⟩:= hI.o f 16 4;apply Tk
   refine XOp.elmLoadAt ti_ok (d:=encFs (fls v i)) rfl rfl rfl (by rcases h3 with rfl|rfl|rfl<;>rfl) ?_
   (conv=>whnf);exact Ex ()
  refine Qo ?_;refine ⟨fun _ f hI=>?_,?_⟩
  ·obtain ⟨f,rfl⟩:= hI.o f 14 6;obtain ⟨f,rfl⟩:= hI.o f 15 6;obtain ⟨f,rfl⟩:= hI.o f 16 6;apply Ti;(conv=>whnf)
   refine ⟨fun _=>by rw [List.length_map]; omega,?_⟩
   (conv=>whnf);exact Ex ()
  refine ⟨fun _ f hI=>?_,?_⟩
  ·obtain ⟨f,rfl⟩:= hI.o f 14 7;obtain ⟨f,rfl⟩:= hI.o f 15 7;obtain ⟨f,rfl⟩:= hI.o f 16 7;apply Ti;(conv=>whnf);refine ⟨encF x,fun _=>hgx,?_⟩;(conv=>whnf);exact Ex ()
  refine ⟨fun _ f hI=>?_,?_⟩
  ·obtain ⟨f,rfl⟩:= hI.o f 14 8;obtain ⟨f,rfl⟩:= hI.o f 15 8;obtain ⟨f,rfl⟩:= hI.o f 16 8;apply Ti;(conv=>whnf);refine ⟨[encI im,encF x],_,fun _=>hcon,Z,?_⟩;(conv=>whnf);exact Ex ()
  refine Qo ?_;refine Qo ?_;refine Qo ?_;refine Qo ?_;refine Qo ?_;refine ⟨fun _ f hI=>?_,?_⟩
  ·obtain ⟨f,rfl⟩:= hI.o f 15 14;obtain ⟨f,rfl⟩:= hI.o f 16 14;apply Ti;apply Rl;(conv=>whnf);exact Ex () (SubHF.of (hs:=[(2000,.box be [Iv e]),(2001,.box bb [Iv b]),(7,.box b7 [.str n.name,Iv n.kind,.str T1,.str n.target,Iv n.n1,Iv n.n2,Iv n.n3,Iv n.n4,Iv n.n5,Iv n.n6,.sl .none 12 (n.kids.map enc),.sl .none 2 (n.streams.map encS)]),(9,.box b9 [.str [],Iv 0,.str [],.str [],Iv 0,Iv 0,Iv 0,Iv 0,Iv 0,Iv 0,.nils,.nils])]) (by exact ⟨rfl,Y⟩))
  refine ⟨fun _ f hI=>?_,?_⟩
  ·obtain ⟨f,rfl⟩:= hI.o f 16 15;apply Ti;apply Rl;(conv=>whnf);exact Ex () (SubHF.of (hs:=[(2000,.box be [Iv e]),(2001,.box bb [Iv T2]),(7,.box b7 [.str n.name,Iv n.kind,.str T1,.str n.target,Iv n.n1,Iv n.n2,Iv n.n3,Iv n.n4,Iv n.n5,Iv n.n6,.sl .none 12 (n.kids.map enc),.sl .none 2 (n.streams.map encS)]),(9,.box b9 [.str [],Iv 0,.str [],.str [],Iv 0,Iv 0,Iv 0,Iv 0,Iv 0,Iv 0,.nils,.nils])]) (by exact ⟨rfl,Y⟩))
  refine ⟨fun _ f hI=>?_,?_⟩
  ·(conv=>whnf);apply Ti;apply Rl;(conv=>whnf);exact Ex () (SubHF.of (hs:=[(2000,.box be [Iv T3]),(2001,.box bb [Iv T2]),(7,.box b7 [.str n.name,Iv n.kind,.str T1,.str n.target,Iv n.n1,Iv n.n2,Iv n.n3,Iv n.n4,Iv n.n5,Iv n.n6,.sl .none 12 (n.kids.map enc),.sl .none 2 (n.streams.map encS)]),(9,.box b9 [.str [],Iv 0,.str [],.str [],Iv 0,Iv 0,Iv 0,Iv 0,Iv 0,Iv 0,.nils,.nils])]) (by exact ⟨rfl,Y⟩))
  exact trivial
 intro _ f hfl;obtain ⟨f,rfl⟩:=onAll f 17 (by exact hfl);clear hfl;(conv=>whnf);refine Tri.forgetG [(2,.box 2000 be 0),(6,.box 2001 bb 0),(7,.box 7 b7 0),(9,.box 9 b9 0)] (look [(2000,.box be [Iv T3]),(2001,.box bb [Iv T2]),(7,.box b7 [.str n.name,Iv n.kind,.str T1,.str n.target,Iv n.n1,Iv n.n2,Iv n.n3,Iv n.n4,Iv n.n5,Iv n.n6,.sl .none 12 (n.kids.map enc),.sl .none 2 (n.streams.map encS)]),(9,.box b9 [.str [],Iv 0,.str [],.str [],Iv 0,Iv 0,Iv 0,Iv 0,Iv 0,Iv 0,.nils,.nils])]) (.same (by exact Z) (SubHF.of (hs:=[(2000,.box be [Iv T3]),(2001,.box bb [Iv T2]),(7,.box b7 [.str n.name,Iv n.kind,.str T1,.str n.target,Iv n.n1,Iv n.n2,Iv n.n3,Iv n.n4,Iv n.n5,Iv n.n6,.sl .none 12 (n.kids.map enc),.sl .none 2 (n.streams.map encS)]),(9,.box b9 [.str [],Iv 0,.str [],.str [],Iv 0,Iv 0,Iv 0,Iv 0,Iv 0,Iv 0,.nils,.nils])]) (by exact ⟨rfl,Y⟩))) ?_;apply Sr;apply Rl;apply Rl;(conv=>whnf);refine Tri.retK [(9,.box 9 b9 0)] [(2000,.box be [Iv T3]),(2001,.box bb [Iv T2]),(9,.box b9 [.str n.name,Iv n.kind,.str T1,.str n.target,Iv n.n1,Iv n.n2,Iv n.n3,Iv n.n4,Iv n.n5,Iv n.n6,.sl .none 12 (n.kids.map enc),.sl .none 2 (n.streams.map encS)])] [(2000,2000),(2001,2001),(9,9)] ⟨Z,rfl,Y⟩ ?_;(conv=>whnf);rw [hF];exact ⟨_,⟨rfl,.refl _⟩,rfl,rfl,rfl⟩
def bq (p m:List UInt8) (root:Bool):List UInt8:=if root=true then m else p++[47]++m
section
variable {S:Type} (chg:NV→List UInt8→S→NV×S)
mutual
def clT:NV→List UInt8→Bool→S→NV×S
 | .mk a b c d e f g h i j ks ss,p,root,s =>
  ({ (chg (.mk a b c d e f g h i j ks ss) p s).1 with kids:=(clL ks p root (chg (.mk a b c d e f g h i j ks ss) p s).2).1 },(clL ks p root (chg (.mk a b c d e f g h i j ks ss) p s).2).2)
def clL:List NV→List UInt8→Bool→S→List NV×S
 | [],_,_,s=>([],s)
 | k::r,p,root,s=>((clT k (bq p k.name root) false s).1::(clL r p root (clT k (bq p k.name root) false s).2).1,(clL r p root (clT k (bq p k.name root) false s).2).2)
end
theorem clT_eq (n:NV) (p:List UInt8) (root:Bool) (s:S):clT chg n p root s=({ (chg n p s).1 with kids:=(clL chg n.kids p root (chg n p s).2).1 },(clL chg n.kids p root (chg n p s).2).2):=by
 cases n; simp only [clT]
end
def ChgOk {S:Type} (W0:World) (A:WS S) (chg:NV→List UInt8→S→NV×S) (fid:Nat) (caps:List D):Prop :=
 ∀ (n:NV) (p:List UInt8) (s:S),DCall Tryz.prog W0 fid ([encTop n,.str p]++caps) (A.H s) fun r H'=>r=encTop (chg n p s).1∧H' 2000=some (A.o1 (chg n p s).2)∧H' 2001=some (A.o2 (chg n p s).2)
theorem F22s {S:Type} (A:WS S) (chg:NV→List UInt8→S→NV×S) (fid:Nat) (caps:List D) (hchg:ChgOk W0 A chg fid caps) (hst:∀ n p s,(chg n p s).1.streams=n.streams):∀ (N:Nat) (n:NV),sz n<N→sz n<100000000→∀ (p:List UInt8) (root:Bool) (s:S),p.length+sz n<1000000000→DCall Tryz.prog W0 22 [encTop n,.fn (.func fid) [] caps,.str p,.bool root] (A.H s) fun r H'=>r=encTop (clT chg n p root s).1∧H' 2000=some (A.o1 (clT chg n p root s).2)∧H' 2001=some (A.o2 (clT chg n p root s).2):=by
 refine fun N=>Nat.rec (fun n h=>absurd h (Nat.not_lt_zero _)) (fun N ih n hN hz p root s0 hp=>?_) N
 have hsze:=sz_eq n
 have hkk:=szL_len n.kids
 have hss:=szS_len n.streams
 refine DCall.intro ti_ok Tryz.func22 rfl (by decide +kernel) Tryz.ntmps22 rfl fun Γ=>?_
 apply Sr;(conv=>whnf);intro b4;(conv=>whnf);intro b8;apply Sr;apply Rl;apply Sq;refine Tri.regionX ti_ok ?_;(conv=>whnf);refine .inl ⟨rfl,?_⟩;(conv=>whnf);refine .inr (XOp.call rfl ([encTop n,.str p]++caps) [(2000,2000),(2001,2001)] (hchg n p s0) rfl ⟨.refl _,.refl _,LeL.refl _⟩ ?_);rintro d' H' ⟨rfl,e1,e2⟩;refine ⟨_,.refl _,?_⟩;(conv=>whnf);refine .inl ⟨rfl,?_⟩;(conv=>whnf);refine Tri.forgetK [(1,.fn (.func fid) [] caps),(2,.str p),(3,.bool root),(4,.box 4 b4 0),(8,.box 8 b8 0),(9,.sl .none 12 (n.kids.map enc))] [(2000,A.o1 (chg n p s0).2),(2001,A.o2 (chg n p s0).2),(4,.box b4 (ndC (chg n p s0).1)),(8,.box b8 [.str [],Iv 0,.str [],.str [],Iv 0,Iv 0,Iv 0,Iv 0,Iv 0,Iv 0,.nils,.nils])] [(2000,2000),(2001,2001),(4,4),(8,8)] ⟨Z,rfl,rfl,e1,rfl,e2,rfl,Y⟩ ?_
 have hcl:=clT_eq chg n p root s0
 have hst0:=hst n p s0
 generalize chg n p s0=r0 at hcl hst0;obtain ⟨m,s1⟩:=r0;dsimp only at hcl hst0;apply Sr;apply Rl;(conv=>whnf)
 refine ⟨[.sl .none 2 (m.streams.map encS)],_,fun _=>F104 m.streams (by rw [hst0]; omega),Z,?_⟩
 apply Rl;apply Rl;apply Sq;apply Sr;apply Bk;refine Tri.boxLe 4 (cs':=[.str m.name,Iv m.kind,.str m.text,.str m.target,Iv m.n1,Iv m.n2,Iv m.n3,Iv m.n4,Iv m.n5,Iv m.n6,.raw (.slice none 0 0),.sl .none 2 (m.streams.map encS)]) rfl ⟨.refl _,.refl _,.refl _,.refl _,.refl _,.refl _,.refl _,.refl _,.refl _,.refl _,DLe.nilRaw,.refl _,trivial⟩ ?_;refine Tri.rowNil 45 12 31 ?_
 refine Tri.loopK (α:={ x:(Nat×S×List NV)×Value // x.1.1≤n.kids.length∧x.1.2.2.length=x.1.1∧clL chg n.kids p root s1=(x.1.2.2++(clL chg (n.kids.drop x.1.1) p root x.1.2.1).1,(clL chg (n.kids.drop x.1.1) p root x.1.2.1).2) }) (fun x=>[(1,.fn (.func fid) [] caps),(2,.str p),(3,.bool root),(4,.box 4 b4 0),(8,.box 8 b8 0),(24,.sl .none 12 (n.kids.map enc)),(25,Iv ((n.kids.map enc).length:Nat)),(26,Iv (x.1.1.1:Nat))]) (fun x=>[(2000,A.o1 x.1.1.2.1),(2001,A.o2 x.1.1.2.1),(4,.box b4 [.str m.name,Iv m.kind,.str m.text,.str m.target,Iv m.n1,Iv m.n2,Iv m.n3,Iv m.n4,Iv m.n5,Iv m.n6,.raw x.1.2,.sl .none 2 (m.streams.map encS)]),(8,.box b8 [.str [],Iv 0,.str [],.str [],Iv 0,Iv 0,Iv 0,Iv 0,Iv 0,Iv 0,.nils,.nils]),(45,.row x.1.2 (x.1.1.2.2.map encTop) 12 31)]) (fun x=>n.kids.length-x.1.1.1) ⟨((0,s1,[]),.slice none 0 0),Nat.zero_le _,rfl,rfl⟩ [(2000,2000),(2001,2001),(4,4),(8,8),(45,45)]
  ⟨Z,rfl,Y⟩ ?_
 rintro ⟨⟨⟨i,s,X⟩,rv⟩,hi,hX,hfl⟩;dsimp only at hi hX hfl ⊢;apply Sr;apply Sq;refine Cd _ rfl (fun hc=>?_) (fun hc=>?_)
 ·apply Sk
  have hia:i<n.kids.length:=by simpa using hc
  have hkz:=kid_sz hia
  have hgk:(n.kids.map enc)[i]? = some (encTop n.kids[i]):=get_kid hia
  have hdk:n.kids.drop i=n.kids[i]::n.kids.drop (i+1):=List.drop_eq_getElem_cons hia
  generalize n.kids[i]=k at hkz hgk hdk;apply Sq;apply Bk;apply Sr;(conv=>whnf);refine Sp ?_;(conv=>whnf);refine ⟨encTop k,fun _=>hgk,?_⟩;(conv=>whnf);intro b11;apply Rl;apply Sr;apply Rl;(conv=>whnf);refine Tri.joinK (α:={ q:List UInt8 // q=bq p k.name root }) (fun x=>[(1,.fn (.func fid) [] caps),(2,.str p),(3,.bool root),(4,.box 4 b4 0),(8,.box 8 b8 0),(11,.box 11 b11 0),(12,.str x.1),(24,.sl .none 12 (n.kids.map enc)),(25,Iv ((n.kids.map enc).length:Nat)),(26,Iv (i:Nat))]) (fun x=>[(2000,A.o1 s),(2001,A.o2 s),(4,.box b4 [.str m.name,Iv m.kind,.str m.text,.str m.target,Iv m.n1,Iv m.n2,Iv m.n3,Iv m.n4,Iv m.n5,Iv m.n6,.raw rv,.sl .none 2 (m.streams.map encS)]),(8,.box b8 [.str [],Iv 0,.str [],.str [],Iv 0,Iv 0,Iv 0,Iv 0,Iv 0,Iv 0,.nils,.nils]),(11,.box b11 (ndC k)),(45,.row rv (X.map encTop) 12 31)]) ?_ ?_
  ·apply Sr;refine Cd _ rfl (fun hc=>?_) (fun hc=>?_)
   ·apply Rg;(conv=>whnf);refine Sp ?_;(conv=>whnf);refine Sp ?_;(conv=>whnf)
    exact ⟨⟨p++[47]++k.name,by unfold bq; rw [if_neg (by simpa using hc)]⟩,[(2000,2000),(2001,2001),(4,4),(8,8),(11,11),(45,45)],Z,rfl,Y⟩
   apply Sk;(conv=>whnf)
   exact ⟨⟨k.name,by unfold bq; rw [if_pos (by simpa using hc)]⟩,[(2000,2000),(2001,2001),(4,4),(8,8),(11,11),(45,45)],Z,rfl,Y⟩
  rintro ⟨q,hq⟩;dsimp only
  have hql:q.length≤p.length+1+k.name.length:=by
   rw [hq]; unfold bq; split
   ·omega
   simp; omega
  have hrec:=ih k (by omega) (by omega) q false s (by omega)
  have hnx:clL chg (n.kids.drop i) p root s=((clT chg k q false s).1::(clL chg (n.kids.drop (i+1)) p root (clT chg k q false s).2).1,(clL chg (n.kids.drop (i+1)) p root (clT chg k q false s).2).2):=by
   rw [hdk,hq]; simp only [clL]
  generalize clT chg k q false s=R at hrec hnx;obtain ⟨R1,R2⟩:=R;dsimp only at hrec hnx
  refine Tri.bitsG ti_ok mixed (α:=(Option Addr×Nat×Nat)) (fun yv f=>[(1,.fn (.func fid) [] caps),(2,.str p),(3,.bool root),(4,.box 4 b4 0),(8,.box 8 b8 0),(11,.box 11 b11 0),(12,.str q),(24,.sl .none 12 (n.kids.map enc)),(25,Iv ((n.kids.map enc).length:Nat)),(26,Iv (i:Nat)),(38,bif f 0 then .box 4 b4 10 else .any),(39,bif f 1 then .raw rv else .any),(40,bif f 2 then encTop k else .any),(41,bif f 3 then .fn (.func fid) [] caps else .any),(42,bif f 4 then .str q else .any),(43,bif f 5 then encTop R1 else .any),(44,bif f 6 then .sl .full 12 [encTop R1] else .any),(45,bif f 7 then .raw (.slice yv.1 yv.2.1 yv.2.2) else .any),(46,bif f 8 then .box 4 b4 10 else .any)])
   (fun yv f=>look ([(4,.box b4 (bif f 9 then [.str m.name,Iv m.kind,.str m.text,.str m.target,Iv m.n1,Iv m.n2,Iv m.n3,Iv m.n4,Iv m.n5,Iv m.n6,.raw (.slice yv.1 yv.2.1 yv.2.2),.sl .none 2 (m.streams.map encS)] else [.str m.name,Iv m.kind,.str m.text,.str m.target,Iv m.n1,Iv m.n2,Iv m.n3,Iv m.n4,Iv m.n5,Iv m.n6,.raw rv,.sl .none 2 (m.streams.map encS)])),(8,.box b8 [.str [],Iv 0,.str [],.str [],Iv 0,Iv 0,Iv 0,Iv 0,Iv 0,Iv 0,.nils,.nils]),(11,.box b11 (ndC k))]++(bif f 5 then [(2000,A.o1 R2)] else [(2000,A.o1 s)])++(bif f 5 then [(2001,A.o2 R2)] else [(2001,A.o2 s)])++(bif f 7 then [(45,.row (.slice yv.1 yv.2.1 yv.2.2) (X.map encTop++[encTop R1]) 12 31)] else [(45,.row rv (X.map encTop) 12 31)]))) (by decide +kernel) (none,0,0) ?_ ?_ ?_ ?_
  ·exact ⟨.refl _,.refl _,.refl _,.refl _,.refl _,.refl _,.refl _,.refl _,.refl _,.refl _,.any _,.any _,.any _,.any _,.any _,.any _,.any _,.any _,.any _,trivial⟩
  ·exact SubHF.of (hs:=[(4,.box b4 [.str m.name,Iv m.kind,.str m.text,.str m.target,Iv m.n1,Iv m.n2,Iv m.n3,Iv m.n4,Iv m.n5,Iv m.n6,.raw rv,.sl .none 2 (m.streams.map encS)]),(8,.box b8 [.str [],Iv 0,.str [],.str [],Iv 0,Iv 0,Iv 0,Iv 0,Iv 0,Iv 0,.nils,.nils]),(11,.box b11 (ndC k)),(2000,A.o1 s),(2001,A.o2 s),(45,.row rv (X.map encTop) 12 31)]) ⟨rfl,Y⟩
  ·(conv=>whnf);refine Qo ?_;refine ⟨fun yv f hI=>?_,?_⟩
   ·obtain ⟨f,rfl⟩:= hI.o f 7 1;obtain ⟨f,rfl⟩:= hI.o f 9 1;apply Ti;apply Rl;(conv=>whnf);exact Ex yv
   refine ⟨fun yv f hI=>?_,?_⟩
   ·obtain ⟨f,rfl⟩:= hI.o f 5 2;obtain ⟨f,rfl⟩:= hI.o f 7 5 (hI.n 5 2);obtain ⟨f,rfl⟩:= hI.o f 9 2;apply Ti;apply Rl;(conv=>whnf);exact Ex yv
   refine Qo ?_;refine Qo ?_;refine ⟨fun yv f hI=>?_,?_⟩
   ·obtain ⟨f,rfl⟩:= hI.o f 7 5;obtain ⟨f,rfl⟩:= hI.o f 9 5;apply Tk;refine XOp.call rfl [encTop k,.fn (.func fid) [] caps,.str q,.bool false] [(2000,2000),(2001,2001)] hrec rfl Z ?_;rintro d' H' ⟨rfl,e1,e2⟩;refine ⟨_,.refl _,?_⟩;(conv=>whnf);exact Ex yv (SubHF.of (hs:=[(4,.box b4 [.str m.name,Iv m.kind,.str m.text,.str m.target,Iv m.n1,Iv m.n2,Iv m.n3,Iv m.n4,Iv m.n5,Iv m.n6,.raw rv,.sl .none 2 (m.streams.map encS)]),(8,.box b8 [.str [],Iv 0,.str [],.str [],Iv 0,Iv 0,Iv 0,Iv 0,Iv 0,Iv 0,.nils,.nils]),(11,.box b11 (ndC k)),(2000,A.o1 R2),(2001,A.o2 R2),(45,.row rv (X.map encTop) 12 31)]) (by exact ⟨rfl,rfl,rfl,e1,e2,rfl,trivial⟩))
   refine ⟨fun yv f hI=>?_,?_⟩
   ·obtain ⟨f,rfl⟩:= hI.o f 7 6;obtain ⟨f,rfl⟩:= hI.o f 9 6;apply Ti;(conv=>whnf);refine ⟨trivial,?_⟩;(conv=>whnf);exact Ex yv
   refine ⟨fun yv f hI=>?_,?_⟩
   ·obtain ⟨f,rfl⟩:= hI.o f 9 7;apply Tk
    refine XOp.rowAppend ti_ok 45 rfl rfl rfl (fun h=>by cases h) rfl rfl rfl (Nat.zero_lt_one) (by show (_+1)*152≤_; rw [List.length_map]; omega) (by show _+1≤_; rw [List.length_map]; omega) fun aa nn cap=>?_
    (conv=>whnf);exact Ex (aa,nn,cap) (SubHF.of (hs:=[(4,.box b4 [.str m.name,Iv m.kind,.str m.text,.str m.target,Iv m.n1,Iv m.n2,Iv m.n3,Iv m.n4,Iv m.n5,Iv m.n6,.raw rv,.sl .none 2 (m.streams.map encS)]),(8,.box b8 [.str [],Iv 0,.str [],.str [],Iv 0,Iv 0,Iv 0,Iv 0,Iv 0,Iv 0,.nils,.nils]),(11,.box b11 (ndC k)),(2000,A.o1 R2),(2001,A.o2 R2),(45,.row (.slice (aa,nn,cap).1 (aa,nn,cap).2.1 (aa,nn,cap).2.2) (X.map encTop++[encTop R1]) 12 31)]) (by exact ⟨rfl,Y⟩))
   refine Qo ?_;refine ⟨fun yv f hI=>?_,?_⟩
   ·(conv=>whnf);apply Ti;apply Rl;(conv=>whnf);exact Ex yv (SubHF.of (hs:=[(4,.box b4 [.str m.name,Iv m.kind,.str m.text,.str m.target,Iv m.n1,Iv m.n2,Iv m.n3,Iv m.n4,Iv m.n5,Iv m.n6,.raw (.slice yv.1 yv.2.1 yv.2.2),.sl .none 2 (m.streams.map encS)]),(8,.box b8 [.str [],Iv 0,.str [],.str [],Iv 0,Iv 0,Iv 0,Iv 0,Iv 0,Iv 0,.nils,.nils]),(11,.box b11 (ndC k)),(2000,A.o1 R2),(2001,A.o2 R2),(45,.row (.slice yv.1 yv.2.1 yv.2.2) (X.map encTop++[encTop R1]) 12 31)]) (by exact ⟨rfl,Y⟩))
   exact trivial
  intro yv f hfl;obtain ⟨f,rfl⟩:=onAll f 10 (by exact hfl);clear hfl;obtain ⟨aa,nn,cap⟩:=yv;(conv=>whnf);refine Tri.forgetG [(1,.fn (.func fid) [] caps),(2,.str p),(3,.bool root),(4,.box 4 b4 0),(8,.box 8 b8 0),(24,.sl .none 12 (n.kids.map enc)),(25,Iv ((n.kids.map enc).length:Nat)),(26,Iv (i:Nat))] (look [(4,.box b4 [.str m.name,Iv m.kind,.str m.text,.str m.target,Iv m.n1,Iv m.n2,Iv m.n3,Iv m.n4,Iv m.n5,Iv m.n6,.raw (.slice aa nn cap),.sl .none 2 (m.streams.map encS)]),(8,.box b8 [.str [],Iv 0,.str [],.str [],Iv 0,Iv 0,Iv 0,Iv 0,Iv 0,Iv 0,.nils,.nils]),(2000,A.o1 R2),(2001,A.o2 R2),(45,.row (.slice aa nn cap) (X.map encTop++[encTop R1]) 12 31)]) (.same (by exact Z) (SubHF.of (hs:=[(4,.box b4 [.str m.name,Iv m.kind,.str m.text,.str m.target,Iv m.n1,Iv m.n2,Iv m.n3,Iv m.n4,Iv m.n5,Iv m.n6,.raw (.slice aa nn cap),.sl .none 2 (m.streams.map encS)]),(8,.box b8 [.str [],Iv 0,.str [],.str [],Iv 0,Iv 0,Iv 0,Iv 0,Iv 0,Iv 0,.nils,.nils]),(2000,A.o1 R2),(2001,A.o2 R2),(45,.row (.slice aa nn cap) (X.map encTop++[encTop R1]) 12 31)]) (by exact ⟨rfl,Y⟩))) ?_;apply Rg;refine Ir ?_;(conv=>whnf)
  exact ⟨⟨((i+1,R2,X++[R1]),.slice aa nn cap),hia,by simp; omega,by rw [hfl,hnx]; simp⟩,[(2000,2000),(2001,2001),(4,4),(8,8),(45,45)],by show n.kids.length-(i+1)<n.kids.length-i; omega,Z,rfl,rfl,rfl,rfl,rfl,rfl,rfl,rfl,rfl,rfl,congrArg (fun z=>some (HObj.row (.slice aa nn cap) z 12 31)) (by rw [List.map_append]; rfl),trivial⟩
 refine Tri.exit ?_
 have hin:i=n.kids.length:=by simp at hc; omega
 have hd0:n.kids.drop i=[]:=by rw [hin]; exact List.drop_length
 rw [hd0] at hfl
 have hfl2:clL chg n.kids p root s1=(X,s):=by rw [hfl]; simp [clL]
 rw [hfl2] at hcl;refine Tri.commitBox 45 4 10 rfl rfl (by decide) rfl ?_;apply Sr;apply Rl;apply Rl;apply Rt;(conv=>whnf);rw [hcl];refine ⟨encTop { m with kids:=X },⟨rfl,?_⟩,rfl,rfl,rfl⟩;refine DLe.agg ?_;refine ⟨.refl _,.refl _,.refl _,.refl _,.refl _,.refl _,.refl _,.refl _,.refl _,.refl _,DLe.of_eq (congrArg (D.sl .none 12) ?_),DLe.refl _,trivial⟩
 exact List.map_congr_left fun k _=>(enc_eq k).symm
def treeI (im:List (List UInt8)) (v:IV) (i:Int):NV×Int×Int :=
 if hasV v i=0 then
  if valid (lst v i)=true then
   if (clT (chgV im (fls v i)) (lst v i) [] true ((0:Int),(0:Int))).2.1=0 then ((clT (chgV im (fls v i)) (lst v i) [] true ((0:Int),(0:Int))).1,0,0)
   else (zN,(clT (chgV im (fls v i)) (lst v i) [] true ((0:Int),(0:Int))).2.2,(clT (chgV im (fls v i)) (lst v i) [] true ((0:Int),(0:Int))).2.1)
  else (zN,0,1)
 else (zN,0,hasV v i)
theorem F7o (v:IV) (i:Int) (hz:∀ i,sz (lst v i)<100000000) (h0:hasV v i=0):DFun Tryz.prog W0 7 [encIV v,Iv i] (.tup [encTop (lst v i),Iv 0]):=by
 have:=F7 (W0:=W0) v i hz
 rw [show listV v i=(lst v i,0) from if_pos h0] at this; exact this
theorem F7n (v:IV) (i:Int) (hz:∀ i,sz (lst v i)<100000000) (h0:hasV v i≠0):DFun Tryz.prog W0 7 [encIV v,Iv i] (.tup [encTop zN,Iv (hasV v i)]):=by
 have:=F7 (W0:=W0) v i hz
 rw [show listV v i=(zN,hasV v i) from if_neg h0] at this; exact this
theorem chgV_streams (im:List (List UInt8)) (fs:List FV) (n:NV) (p:List UInt8) (s:Int×Int):(chgV im fs n p s).1.streams=n.streams:=by
 unfold chgV
 split
 ·rfl
 split<;>rfl
theorem F15n (im:List (List UInt8)) (v:IV) (i:Int) (hz:∀ i,sz (lst v i)<100000000) (h0:hasV v i≠0):DFun Tryz.prog W0 15 [encI im,encIV v,Iv i] (encT (treeI im v i)):=by
 refine Fi Tryz.func15 rfl Tryz.ntmps15 fun Γ=>?_
 apply Sr;(conv=>whnf);intro b3;(conv=>whnf);intro b4;(conv=>whnf);intro b5;(conv=>whnf);intro b6;apply Sr;apply Rl;apply Rl;(conv=>whnf);refine ⟨[encIV v,Iv i],_,fun _=>F7n v i hz h0,Z,?_⟩;(conv=>whnf);intro b9;apply Rl;apply Sq;apply Sr;refine Cd _ rfl (fun hc=>?_) (fun hc=>?_)
 ·apply Sr;apply Rl;apply Rt;(conv=>whnf)
  have e:treeI im v i=(zN,0,hasV v i):=if_neg h0
  apply Rl;(conv=>whnf)
  rw [e]; exact ⟨zN_le,.refl _,.refl _,trivial⟩
 exfalso
 simp at hc; exact h0 hc
theorem F15o (hL:LibOk W0) (im:List (List UInt8)) (v:IV) (i:Int) (h0:hasV v i=0) (hl:im.length<1000000) (hz:∀ i,Fits (lst v i)) (hf:(fls v i).length<1000000000) (hs:∀ f∈fls v i,f.start≤9223372036854775807):DFun Tryz.prog W0 15 [encI im,encIV v,Iv i] (encT (treeI im v i)):=by
 have h3:=hasV_ok h0
 have hz2:sz (lst v i)+(lst v i).name.length<2200000:=hz i
 refine Fi Tryz.func15 rfl Tryz.ntmps15 fun Γ=>?_
 apply Sr;(conv=>whnf);intro b3;(conv=>whnf);intro b4;(conv=>whnf);intro b5;(conv=>whnf);intro b6;apply Sr;apply Rl;apply Rl;(conv=>whnf)
 refine ⟨[encIV v,Iv i],_,fun _=>F7o v i (fun j=>by have:=hz j; unfold Fits at this; omega) h0,Z,?_⟩
 (conv=>whnf);intro b9;apply Rl;apply Sq;apply Sr;refine Cd _ rfl (fun hc=>?_) (fun hc=>?_)
 ··exfalso
   simp at hc
 apply Sk;apply Sq;apply Sr;apply Rl;(conv=>whnf);refine ⟨[encTop (lst v i)],_,fun _=>F39 hL (lst v i) (by omega),Z,?_⟩;refine Cd _ rfl (fun hc=>?_) (fun hc=>?_)
 ·apply Sr;apply Rl;apply Rt;(conv=>whnf)
  have hv:¬ valid (lst v i)=true:=by simpa using hc
  have e:treeI im v i=(zN,0,1):=by unfold treeI; rw [if_pos h0,if_neg hv]
  apply Rl;(conv=>whnf)
  rw [e]; exact ⟨zN_le,.refl _,.refl _,trivial⟩
 apply Sk
 have hv:valid (lst v i)=true:=by simpa using hc
 have e:treeI im v i=if (clT (chgV im (fls v i)) (lst v i) [] true ((0:Int),(0:Int))).2.1=0 then ((clT (chgV im (fls v i)) (lst v i) [] true ((0:Int),(0:Int))).1,0,0)
   else (zN,(clT (chgV im (fls v i)) (lst v i) [] true ((0:Int),(0:Int))).2.2,(clT (chgV im (fls v i)) (lst v i) [] true ((0:Int),(0:Int))).2.1):=by
  unfold treeI; rw [if_pos h0,if_pos hv]
 apply Sr;(conv=>whnf);intro b11;(conv=>whnf);intro b12;apply Rl;apply Rl;(conv=>whnf);refine Tri.boxElm 4 4 (encIV v) rfl rfl rfl rfl ?_;refine Tri.boxElm 5 5 (Iv i) rfl rfl rfl rfl ?_;refine Tri.boxElm 3 3 (encI im) rfl rfl rfl rfl ?_
 have hrec:=F22s (W0:=W0) (chA b12 b11) (chgV im (fls v i)) 30 [.box 2000 b12 0,.elm 52 [encIV v] 0 0,.elm 1 [Iv i] 0 0,.elm 1 [encI im] 0 0,.box 2001 b11 0] (fun n p s=>F30 im v i h3 hl hf hs b12 b11 n p s.1 s.2) (chgV_streams im (fls v i)) _ (lst v i) (Nat.lt_succ_self _) (by omega) [] true ((0:Int),(0:Int)) (by simp; omega)
 generalize clT (chgV im (fls v i)) (lst v i) [] true ((0:Int),(0:Int))=R at hrec e;obtain ⟨R1,R2,R3⟩:=R;dsimp only at hrec e;apply Sq;refine Tri.regionX ti_ok ?_;(conv=>whnf);refine .inl ⟨rfl,?_⟩;(conv=>whnf);refine .inr (XOp.call rfl [encTop (lst v i),.fn (.func 30) [] [.box 2000 b12 0,.elm 52 [encIV v] 0 0,.elm 1 [Iv i] 0 0,.elm 1 [encI im] 0 0,.box 2001 b11 0],.str [],.bool true] [(2000,12),(2001,11)] hrec rfl ⟨.refl _,DLe.fn trivial ⟨DLe.box,.refl _,.refl _,.refl _,DLe.box,trivial⟩,.refl _,.refl _,trivial⟩ ?_);rintro d' H' ⟨rfl,e1,e2⟩;refine ⟨_,.refl _,?_⟩;(conv=>whnf);intro b13;(conv=>whnf);refine .inl ⟨rfl,?_⟩;(conv=>whnf);refine Tri.forgetK [(6,.box 6 b6 0),(11,.box 11 b11 0),(12,.box 12 b12 0),(13,.box 13 b13 0)] [(6,.box b6 [.str [],Iv 0,.str [],.str [],Iv 0,Iv 0,Iv 0,Iv 0,Iv 0,Iv 0,.nils,.nils]),(11,.box b11 [Iv R3]),(12,.box b12 [Iv R2]),(13,.box b13 (encTop R1).cells)] [(6,6),(11,11),(12,12),(13,13)] ⟨Z,rfl,rfl,rfl,rfl,e2,rfl,e1,rfl,Y⟩ ?_;apply Sq;apply Sr;apply Rl;refine Cd _ rfl (fun hc=>?_) (fun hc=>?_)
 ·apply Sq
  refine Tri.bitsG ti_ok mixed (α:=Unit) (fun _ f=>[(6,.box 6 b6 0),(11,.box 11 b11 0),(12,.box 12 b12 0),(13,.box 13 b13 0),(33,bif f 0 then .agg [.str [],Iv 0,.str [],.str [],Iv 0,Iv 0,Iv 0,Iv 0,Iv 0,Iv 0,.nils,.nils] else .any),(34,bif f 1 then Iv R3 else .any),(35,bif f 2 then Iv R2 else .any),(7,bif f 4 then Iv R3 else .any),(8,bif f 5 then Iv R2 else .any)])
   (fun _ f=>look [(6,.box b6 (bif f 3 then [.str [],Iv 0,.str [],.str [],Iv 0,Iv 0,Iv 0,Iv 0,Iv 0,Iv 0,.nils,.nils] else [.str [],Iv 0,.str [],.str [],Iv 0,Iv 0,Iv 0,Iv 0,Iv 0,Iv 0,.nils,.nils])),(11,.box b11 [Iv R3]),(12,.box b12 [Iv R2])]) (by decide +kernel) () ?_ ?_ ?_ ?_
  ·exact ⟨.refl _,.refl _,.refl _,.refl _,.any _,.any _,.any _,.any _,.any _,trivial⟩
  ·exact SubHF.of (hs:=[(6,.box b6 [.str [],Iv 0,.str [],.str [],Iv 0,Iv 0,Iv 0,Iv 0,Iv 0,Iv 0,.nils,.nils]),(11,.box b11 [Iv R3]),(12,.box b12 [Iv R2])]) ⟨rfl,Y⟩
  ·(conv=>whnf);refine Qo ?_;refine ⟨fun _ f hI=>?_,?_⟩
   ·(conv=>whnf);apply Ti;apply Rl;(conv=>whnf);exact Ex ()
   refine ⟨fun _ f hI=>?_,?_⟩
   ·(conv=>whnf);apply Ti;apply Rl;(conv=>whnf);exact Ex ()
   refine ⟨fun _ f hI=>?_,?_⟩
   ·(conv=>whnf);apply Ti;apply Rl;(conv=>whnf);exact Ex () (SubHF.of (hs:=[(6,.box b6 [.str [],Iv 0,.str [],.str [],Iv 0,Iv 0,Iv 0,Iv 0,Iv 0,Iv 0,.nils,.nils]),(11,.box b11 [Iv R3]),(12,.box b12 [Iv R2])]) (by exact ⟨rfl,Y⟩))
   refine Qo ?_;refine Qo ?_;exact trivial
  intro _ f hfl;obtain ⟨f,rfl⟩:=onAll f 6 (by exact hfl);clear hfl;(conv=>whnf);refine Tri.forgetG [(6,.box 6 b6 0),(7,Iv R3),(8,Iv R2)] (look [(6,.box b6 [.str [],Iv 0,.str [],.str [],Iv 0,Iv 0,Iv 0,Iv 0,Iv 0,Iv 0,.nils,.nils])]) (.same (by exact Z) (SubHF.of (hs:=[(6,.box b6 [.str [],Iv 0,.str [],.str [],Iv 0,Iv 0,Iv 0,Iv 0,Iv 0,Iv 0,.nils,.nils])]) (by exact ⟨rfl,trivial⟩))) ?_;apply Rt;(conv=>whnf)
  have h4:R2≠0:=by simpa using hc
  rw [if_neg h4] at e;apply Rl;(conv=>whnf)
  rw [e]; exact ⟨zN_le,.refl _,.refl _,trivial⟩
 apply Sk;apply Sr;apply Rl;apply Rl;apply Rt;(conv=>whnf)
 have h4:R2=0:=by simpa using hc
 rw [if_pos h4] at e;apply Rl;(conv=>whnf)
 rw [e]; exact Z
theorem F15 (hL:LibOk W0) (im:List (List UInt8)) (v:IV) (i:Int) (hl:im.length<1000000) (hz:∀ i,Fits (lst v i)) (hf:(fls v i).length<1000000000) (hs:∀ f∈fls v i,f.start≤9223372036854775807):DFun Tryz.prog W0 15 [encI im,encIV v,Iv i] (encT (treeI im v i)):=by
 by_cases h0:hasV v i=0
 ·exact F15o hL im v i h0 hl hz hf hs
 exact F15n im v i (fun j=>by have:=hz j; unfold Fits at this; omega) h0
mutual
def goodB:NV→Int→Bool
 | .mk a b c d e f g h i j ks ss,l=>one (.mk a b c d e f g h i j ks ss) l==0&&goodL ks (l+1)
def goodL:List NV→Int→Bool
 | [],_=>true
 | k::r,l=>goodB k l&&goodL r l
end
theorem goodB_eq (n:NV) (l:Int):goodB n l=(one n l==0&&goodL n.kids (l+1)):=by cases n; simp only [goodB]
mutual
theorem walk_good:∀ (n:NV) (p:List UInt8) (l:Int) (q:List UInt8),
  (goodB n l=true→walk checkF n p l (0,q)=(true,(0,q)))∧(goodB n l=false→(walk checkF n p l (0,q)).1=false∧(walk checkF n p l (0,q)).2.1≠0)
 | .mk a b c d e f g h i j ks ss,p,l,q=>by
  have ih:=walkL_good ks p l q
  simp only [walk,goodB,checkF]
  by_cases h1:one (.mk a b c d e f g h i j ks ss) l=0
  ·simp only [h1,if_true,beq_self_eq_true,Bool.true_and];exact ih
  simp only [h1,if_false];refine ⟨fun hh=>?_,fun _=>⟨by simp,by simpa using h1⟩⟩
  simp [h1] at hh
theorem walkL_good:∀ (ks:List NV) (p:List UInt8) (l:Int) (q:List UInt8),
  (goodL ks (l+1)=true→walkL checkF ks p l (0,q)=(true,(0,q)))∧(goodL ks (l+1)=false→(walkL checkF ks p l (0,q)).1=false∧(walkL checkF ks p l (0,q)).2.1≠0)
 | [],p,l,q=>by simp [walkL,goodL]
 | k::r,p,l,q=>by
  have h1:=walk_good k (below p k.name (l+1)) (l+1) q
  have h2:=walkL_good r p l q
  simp only [walkL,goodL]
  cases hk:goodB k (l+1) with
  | true =>
   rw [h1.1 hk]
   simpa using h2
  | false =>
   have h3:=h1.2 hk
   generalize hx:walk checkF k (below p k.name (l+1)) (l+1) (0,q)=x at h3;obtain ⟨x1,x2⟩:=x;obtain ⟨h4,h5⟩:=h3;simp only at h4 h5;subst h4
   simp [h5]
end
theorem valid_good (n:NV):valid n=(decide (cnt n≤256)&&goodB n 1):=by
 simp only [valid,check]
 by_cases h:(256:Int)<cnt n
 ·rw [if_pos h]
  have:decide (cnt n≤256)=false:=by simp; omega
  rw [this]; rfl
 rw [if_neg h]
 have h1:decide (cnt n≤256)=true:=by simp; omega
 rw [h1,Bool.true_and]
 have hw:=walk_good n [] 1 []
 cases hg:goodB n 1 with
 | true=>rw [hw.1 hg]; rfl
 | false=>simpa using (hw.2 hg).2
theorem nz_all {f:Nat→Int}:∀ {k i:Nat},firstNZ f i k=0→∀ j,i≤j→j<i+k→f j=0
 | 0,i,_,j,h1,h2=>by omega
 | k+1,i,h,j,h1,h2=>by
  simp only [firstNZ] at h
  split at h
  ·rename_i h0
   by_cases e:j=i
   ·rw [e]; exact h0
   exact nz_all h j (by omega) (by omega)
  rename_i h0; exact absurd h h0
structure Good (n:NV) (l:Int):Prop where
 kind0:0≤n.kind∧n.kind≤2
 kind1:l=1→n.kind=0
 name1:l=1→n.name=[]
 name2:1<l→nameOk n.name=true
 file:n.kind≠1→n.text=[]∧n.streams=[]
 link:n.kind≠2→n.target=[]
 dir:n.kind≠0→n.kids=[]
 target:n.kind=2→targetOk n.target=true
 n1:0≤n.n1∧n.n1≤4095
 n2:0≤n.n2∧n.n2≤65535
 n3:0≤n.n3∧n.n3≤65535
 n4:315532800≤n.n4∧n.n4≤4102444799
 n5:-1048576≤n.n5∧n.n5≤1048576
 n6:0≤n.n6∧n.n6≤15
 level:l≤16
 size:n.text.length≤262144
 kids64:n.kids.length≤64
 streams4:n.streams.length≤4
 streams:∀ i,i<n.streams.length→(stAt n i).target.length≤262144∧fS n i=0
 inc:inc n.kids
theorem good_of {n:NV} {l:Int} (h:one n l=0):Good n l:=by
 have hr:=nz_all h
 have r0:cKind n l=false:=by have:=hr 0 (by omega) (by omega); simp only [ruleI,rKind] at this; split at this<;>simp_all
 have r1:cName n l=false:=by have:=hr 1 (by omega) (by omega); simp only [ruleI,rName] at this; split at this<;>simp_all
 have r2:cParts n=false:=by have:=hr 2 (by omega) (by omega); simp only [ruleI,rParts] at this; split at this<;>simp_all
 have r3:cTarget n=false:=by have:=hr 3 (by omega) (by omega); simp only [ruleI,rTarget] at this; split at this<;>simp_all
 have r4:cNumbers n=false:=by have:=hr 4 (by omega) (by omega); simp only [ruleI,rNumbers] at this; split at this<;>simp_all
 have r5':=hr 5 (by omega) (by omega)
 simp only [ruleI,rSizes] at r5'
 have r5:cSizes n l=false:=by split at r5'<;>simp_all
 rw [if_neg (by rw [r5]; simp)] at r5'
 have r6:=hr 6 (by omega) (by omega)
 simp only [ruleI,rStreams] at r6
 have r7:=hr 7 (by omega) (by omega)
 simp only [ruleI,rKids] at r7;simp only [cKind,cName,cParts,cTarget,cNumbers,cSizes,within,Bool.or_eq_false_iff,Bool.and_eq_false_iff,decide_eq_false_iff_not,Bool.not_eq_false',beq_eq_false_iff_ne,beq_iff_eq,Bool.not_eq_eq_eq_not,Bool.not_true,Bool.not_false,Bool.and_eq_true,decide_eq_true_eq] at r0 r1 r2 r3 r4 r5;obtain ⟨⟨r2a,r2b⟩,r2c⟩:=r2;obtain ⟨⟨⟨⟨⟨ra,rb⟩,rc⟩,rd⟩,re⟩,rf⟩:=r4
 have hk:inc n.kids:=fun i hi=>by
  have:=nz_all r7 (i+1) (by omega) (by omega)
  simp only [fK,ordE,kAt,Nat.add_sub_cancel] at this
  by_cases h1:(n.kids.getD i default).name=(n.kids.getD (i+1) default).name
  ·rw [if_pos h1] at this; cases this
  rw [if_neg h1] at this
  by_cases h2:Op.bytesLess (n.kids.getD (i+1) default).name (n.kids.getD i default).name=true
  ·rw [if_pos h2] at this; cases this
  cases h3:Op.bytesLess (n.kids.getD i default).name (n.kids.getD (i+1) default).name with
  | true=>rfl
  | false=>exact absurd (bl_total _ _ h3 (by simpa using h2)) h1
 exact {
  kind0:=by omega
  kind1:=fun e=>by rcases r0.2 with h1|h1<;>first|exact absurd e h1|exact h1
  name1:=fun e=>by rcases r1.1 with h1|h1<;>first|exact absurd e h1|exact h1
  name2:=fun e=>by rcases r1.2 with h1|h1<;>first|(exact absurd e h1)|exact h1
  file:=fun e=>by
   rcases r2a with h1|⟨h1,h2⟩
   ·exact absurd h1 e
   exact ⟨h1,List.eq_nil_of_length_eq_zero (by omega)⟩
  link:=fun e=>by rcases r2b with h1|h1<;>first|exact absurd h1 e|exact h1
  dir:=fun e=>by
   rcases r2c with h1|h1
   ·exact absurd h1 e
   exact List.eq_nil_of_length_eq_zero (by omega)
  target:=fun e=>by rcases r3 with h1|h1<;>first|exact absurd e h1|exact h1
  n1:=ra,n2:=rb,n3:=rc,n4:=rd,n5:=re,n6:=rf
  level:=by omega
  size:=by omega
  kids64:=by omega
  streams4:=by omega
  streams:=fun i hi=>⟨by
   have:=nz_all r5' i (by omega) (by omega)
   simp only [fZ] at this
   split at this
   ·cases this
   rename_i h1; simp at h1; omega,nz_all r6 i (by omega) (by omega)⟩
  inc:=hk }
theorem goodB_good {n:NV} {l:Int} (h:goodB n l=true):Good n l∧goodL n.kids (l+1)=true:=by
 rw [goodB_eq,Bool.and_eq_true] at h;exact ⟨good_of (by simpa using h.1),h.2⟩
theorem contV_lba {im:List (List UInt8)} {x:FV} (h:(contV im x).2.2=0):(contV im x).2.1=0:=by
 unfold contV at h ⊢
 split
 ·rfl
 rename_i hc
 rw [if_neg hc] at h
 cases hb:bad im x.start (nblk x.len) with
 | none=>rfl
 | some y=>rw [hb] at h; cases h
section
variable (im:List (List UInt8)) (fs:List FV)
theorem chgV_err {n:NV} {p:List UInt8} {e b:Int} (h:e≠0):chgV im fs n p (e,b)=(n,e,b):=if_pos (.inr h)
mutual
theorem clT_err:∀ (n:NV) (p:List UInt8) (root:Bool) (e b:Int),e≠0→(clT (chgV im fs) n p root (e,b)).2=(e,b)
 | .mk a b' c d e' f g h i j ks ss,p,root,e,b,he=>by
  rw [clT_eq,chgV_err im fs he];exact clL_err ks p root e b he
theorem clL_err:∀ (ks:List NV) (p:List UInt8) (root:Bool) (e b:Int),e≠0→(clL (chgV im fs) ks p root (e,b)).2=(e,b)
 | [],p,root,e,b,he=>by simp only [clL]
 | k::r,p,root,e,b,he=>by
  simp only [clL];rw [clT_err k _ _ e b he];exact clL_err r p root e b he
end
theorem bq_below (p m:List UInt8) (root:Bool) (l:Int) (h1:1≤l) (hr:root=true↔l=1):bq p m root=below p m (l+1):=by
 unfold bq below
 by_cases h:l=1
 ·rw [if_pos (hr.2 h),if_pos (by omega)]
 rw [if_neg (fun h2=>h (hr.1 h2)),if_neg (by omega)]
mutual
theorem cl_fillT:∀ (n:NV) (p:List UInt8) (root:Bool) (l:Int),1≤l→(root=true↔l=1)→goodB n l=true →
  ((fillT im fs n p l).2.2=0→(fillT im fs n p l).2.1=0∧clT (chgV im fs) n p root (0,0)=((fillT im fs n p l).1,0,0)) ∧
  ((fillT im fs n p l).2.2≠0→(clT (chgV im fs) n p root (0,0)).2=((fillT im fs n p l).2.2,(fillT im fs n p l).2.1))
 | .mk a k c d e f g h i j ks ss,p,root,l,h1,hr,hg=>by
  obtain ⟨hG,hK⟩:=goodB_good hg
  have hK:goodL ks (l+1)=true:=hK
  rw [clT_eq]
  by_cases hk:k=1
  ·have hd:ks=[]:=hG.dir (by show k≠0; omega)
   subst hd
   cases hx:fs.find? (fun x=>x.path==p) with
   | none =>
    rw [fillT_none im fs (by exact hk) hx]
    have hc:chgV im fs (.mk a k c d e f g h i j [] ss) p (0,0)=(.mk a k c d e f g h i j [] ss,6,0):=by
     unfold chgV; rw [if_neg (by simp [hk]),hx]
    rw [hc];exact ⟨fun h=>(by cases h),fun _=>(by simp only [clL])⟩
   | some x =>
    rw [fillT_some im fs (by exact hk) hx]
    have hc:chgV im fs (.mk a k c d e f g h i j [] ss) p (0,0)=(.mk a k (contV im x).1 d e f g h i j [] ss,(contV im x).2.2,(contV im x).2.1):=by
     unfold chgV; rw [if_neg (by simp [hk]),hx]
    rw [hc];refine ⟨fun h=>⟨contV_lba h,?_⟩,fun _=>by simp only [clL]⟩;simp only [clL];rw [contV_lba h]
    have h:(contV im x).2.2=0:=h
    rw [h]
  have hc:chgV im fs (.mk a k c d e f g h i j ks ss) p (0,0)=(.mk a k c d e f g h i j ks ss,0,0):=if_pos (.inl hk)
  rw [hc]
  have ih:=cl_fillL ks p root l h1 hr hK
  by_cases h0:(fillL im fs ks p l).2.2=0
  ·rw [fillT_ok im fs (by exact hk) (by exact h0)];refine ⟨fun _=>⟨rfl,?_⟩,fun h=>absurd rfl h⟩
   show (_,_)=_
   rw [show clL (chgV im fs) (NV.mk a k c d e f g h i j ks ss).kids p root (0,0)=((fillL im fs ks p l).1,0,0) from (ih.1 h0).2]
  rw [fillT_bad im fs (by exact hk) (by exact h0)];exact ⟨fun h=>absurd h h0,fun _=>ih.2 h0⟩
theorem cl_fillL:∀ (ks:List NV) (p:List UInt8) (root:Bool) (l:Int),1≤l→(root=true↔l=1)→goodL ks (l+1)=true →
  ((fillL im fs ks p l).2.2=0→(fillL im fs ks p l).2.1=0∧clL (chgV im fs) ks p root (0,0)=((fillL im fs ks p l).1,0,0)) ∧
  ((fillL im fs ks p l).2.2≠0→(clL (chgV im fs) ks p root (0,0)).2=((fillL im fs ks p l).2.2,(fillL im fs ks p l).2.1))
 | [],p,root,l,h1,hr,hg=>by
  simp [fillL,clL]
 | k::r,p,root,l,h1,hr,hg=>by
  simp only [goodL,Bool.and_eq_true] at hg
  have ik:=cl_fillT k (bq p k.name root) false (l+1) (by omega) ⟨fun h=>(by cases h),fun h=>(by omega)⟩ hg.1
  have ir:=cl_fillL r p root l h1 hr hg.2
  simp only [fillL,clL];rw [← bq_below p k.name root l h1 hr]
  by_cases h0:(fillT im fs k (bq p k.name root) (l+1)).2.2=0
  ·rw [if_pos h0,(ik.1 h0).2];dsimp only;refine ⟨fun h=>⟨(ir.1 h).1,?_⟩,fun h=>ir.2 h⟩;rw [(ir.1 h).2]
  rw [if_neg h0];refine ⟨fun h=>absurd h h0,fun _=>?_⟩
  have h2:=ik.2 h0
  dsimp only;rw [h2];exact clL_err im fs r p root _ _ h0
end
end
theorem trees_eq (im:List (List UInt8)) (v:IV) (i:Int):treeI im v i=treeR im v i:=by
 unfold treeI treeR
 by_cases h0:hasV v i=0
 ·rw [if_pos h0,if_pos h0]
  by_cases hv:valid (lst v i)=true
  ·rw [if_pos hv,if_pos hv]
   have hg:goodB (lst v i) 1=true:=by rw [valid_good,Bool.and_eq_true] at hv; exact hv.2
   have key:=cl_fillT im (fls v i) (lst v i) [] true 1 (by omega) ⟨fun _=>rfl,fun _=>rfl⟩ hg
   by_cases h1:(fillT im (fls v i) (lst v i) [] 1).2.2=0
   ·rw [if_pos h1,(key.1 h1).2]; rfl
   have h2:=key.2 h1
   rw [if_neg h1,h2];rw [if_neg h1]
  rw [if_neg hv,if_neg hv]
 rw [if_neg h0,if_neg h0]
end Go.Tame.V
