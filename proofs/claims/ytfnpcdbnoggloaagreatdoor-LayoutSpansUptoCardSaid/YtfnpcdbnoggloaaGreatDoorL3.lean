/- A program logic of my own over the model, and contracts of this program's functions by it: part 3. No conditions of its own: each theorem states its own. -/
import Derived.Test.YtfnpcdbnoggloaaGreatDoorL2
import Derived.Test.YtfnpcdbnoggloaaGreatDoorShelf
import Derived.BigQuiet
import Derived.Sort.Grow
import Derived.Test.YtfnpcdbnoggloaaGreatDoorCards
import Derived.Test.YtfnpcdbnoggloaaGreatDoorTie
import Derived.ProofKit
import Derived.OpenShut
import Derived.Deep.DeepHandedRow
import Derived.Lib.LaidTab
import Derived.Lib.LaidU8
import Derived.Stop.LaidErr
set_option linter.unnecessarySimpa false
set_option linter.unusedSimpArgs false
set_option linter.unusedVariables false
set_option maxRecDepth 100000
set_option maxHeartbeats 16000000
namespace Go.Tame.V
open Go Go.Proofs
variable {W0:World}
structure LibOk (W0:World):Prop where
 utf8:Lib.Utf8Tabs 1 2 W0
 maxlen:∃ m,W0.cell? ⟨0,0,none⟩=some (.int .i64 m)
 pow10 : Lib.TabIs Tryz.prog W0 "internal/strconv.uint64pow10" .u64 Lib.pow10Tab
theorem cell_base {w:World} (hb:Base W0 w) {a:Addr} {v:Value} (h:W0.cell? a=some v):w.cell? a=some v:=by
 have hlt:a.block<W0.heap.size:=by
  simp only [World.cell?] at h
  rcases Nat.lt_or_ge a.block W0.heap.size with h1|h1
  ·exact h1
  rw [Array.getElem?_eq_none h1] at h; cases h
 rw [← h]; simp only [World.cell?,hb.block _ hlt]
theorem utf8_base {w:World} (hb:Base W0 w) (h:Lib.Utf8Tabs 1 2 W0):Lib.Utf8Tabs 1 2 w :=
 ⟨fun c hc=>cell_base hb (h.1 c hc),fun i hi=>⟨cell_base hb (h.2 i hi).1,cell_base hb (h.2 i hi).2⟩⟩
theorem callable {f : FuncId} {fn : Func} (h : Tryz.prog.funcs[f]? = some fn) (hb : fn.body.isSome = true) (hn : (fn.name == "runtime.NumGoroutine") = false) : Callable Tryz.prog f := ⟨fn, h, hb, hn⟩
def dec (s:List UInt8):Nat×Nat:=Lib.decodeGo ⟨⟨s⟩⟩
theorem F134 (hL:LibOk W0) (s:List UInt8):DFun Tryz.prog W0 261 [.str s] (.tup [.int .i32 (dec s).1,Iv (dec s).2]) :=
 .lift (callable Tryz.func261 rfl (by decide +kernel)) rfl fun w hb=>(Tryz.utf8_DecodeRuneInString ⟨⟨s⟩⟩ w (utf8_base hb hL.utf8)).mono fun e w' ⟨he,hw⟩ =>
  ⟨_,he,fun C=>.tup _ _ rfl fun i d v hd hv=>by
   match i with
   | 0=>cases hd; cases hv; exact .int _ _
   | 1=>cases hd; cases hv; exact .int _ _
   | i+2=>simp at hd,hw⟩
theorem F110 (a b:List UInt8):DFun Tryz.prog W0 249 [.str a,.str b] (Iv (Lib.compareBytes a b)) :=
 .pure (callable Tryz.func249 rfl (by decide +kernel)) rfl rfl fun w _=>Tryz.strings_Compare ⟨⟨a⟩⟩ ⟨⟨b⟩⟩ w
theorem F119 (s:List UInt8) (c:UInt8):DFun Tryz.prog W0 259 [.str s,.str [c]] (.bool (decide (0≤Lib.indexByte s c))) :=
 .pure (callable Tryz.func259 rfl (by decide +kernel)) rfl rfl fun w _=>Tryz.strings_Contains_one ⟨⟨s⟩⟩ c w
theorem F122 (s p:List UInt8):DFun Tryz.prog W0 260 [.str s,.str p] (.str (Lib.trimPrefix s p)) :=
 .pure (callable Tryz.func260 rfl (by decide +kernel)) rfl rfl fun w _=>Tryz.strings_TrimPrefix ⟨⟨s⟩⟩ ⟨⟨p⟩⟩ w
theorem F27 (s:List UInt8) (c:Int) (hs:s.length<4611686018427387904):DFun Tryz.prog W0 24 [.str s,.int .u8 c] (Iv (Lib.lastIndexByte ⟨⟨s⟩⟩ c)) :=
 .pure (callable Tryz.func24 rfl (by decide +kernel)) rfl rfl fun w _=>Tryz.strings_LastIndexByte ⟨⟨s⟩⟩ c hs w
def isChar (r:Int):Bool:=decide (32≤r)&&(decide (r≤65533)&&(decide (r<55296)||decide (57343<r)))
theorem F135 (r:Int):DFun Tryz.prog W0 302 [Iv r] (.bool (isChar r)):=by
 refine Fi Tryz.func302 rfl Tryz.ntmps302 fun Γ=>?_
 apply Sr;apply Sr;apply Hh;refine Pk ?_;apply Hh;apply Hh;apply Hh;apply Hh;refine Pk ?_;refine Pk ?_;apply Rt;(conv=>whnf);refine DLe.of_eq (congrArg D.bool ?_)
 unfold isChar
 by_cases h1:32≤r<;>by_cases h2:r≤65533<;>by_cases h3:r<55296<;>simp [h1,h2,h3]
theorem decode_size (s:List UInt8) (h:s≠[]):1≤(dec s).2∧(dec s).2≤s.length∧(dec s).2≤4∧(dec s).1≤1114111:=by
 have h0:¬ (⟨⟨s⟩⟩:ByteArray).size=0:=fun e=>h (List.eq_nil_of_length_eq_zero e)
 have hl:(⟨⟨s⟩⟩:ByteArray).size=s.length:=rfl
 have hp:0<s.length:=List.length_pos_iff.2 h
 unfold dec Lib.decodeGo
 rw [if_neg h0]
 unfold Utf8.decode
 dsimp only;rw [hl]
 have hre:Utf8.runeError=65533:=rfl
 repeat' split
 all_goals simp only [hre,Bool.and_eq_true,Bool.or_eq_true,decide_eq_true_eq,ge_iff_le,Utf8.valid] at *
 all_goals omega
def badAt (s:List UInt8):Bool:=!isChar (dec s).1||((dec s).1==65533&&(dec s).2==1)
theorem badAt_eq (s:List UInt8):badAt s=(bif !isChar ((dec s).1:Nat) then true else bif (((dec s).1:Nat):Int)==65533 then (((dec s).2:Nat):Int)==1 else false):=by
 unfold badAt
 have h1:((((dec s).1:Nat):Int)==65533)=((dec s).1==65533):=by rw [Bool.eq_iff_iff]; simp; omega
 have h2:((((dec s).2:Nat):Int)==1)=((dec s).2==1):=by rw [Bool.eq_iff_iff]; simp; omega
 rw [h1,h2]
 cases isChar ((dec s).1:Nat)<;>cases (dec s).1==65533<;>rfl
def charsGo:Nat→List UInt8→Option (List Int)
 | 0,s=>if s=[] then some [] else none
 | f+1,s=>if s=[] then some [] else if badAt s then none else (charsGo f (s.drop (dec s).2)).map (((dec s).1:Int)::·)
theorem charsGo_fuel:∀ (f:Nat) (s:List UInt8),s.length≤f→charsGo f s=charsGo s.length s
 | 0,s,h=>by have:s=[]:=List.eq_nil_of_length_eq_zero (by omega); subst this; rfl
 | f+1,s,h=>by
  by_cases hs:s=[]
  ·subst hs; rfl
  obtain ⟨h1,h2,_⟩:=decode_size s hs
  have hp:0<s.length:=List.length_pos_iff.2 hs
  obtain ⟨n,hn⟩:∃ n,s.length=n+1:=⟨s.length-1,by omega⟩;rw [hn];simp only [charsGo,hs,if_false]
  have hdl:(s.drop (dec s).2).length=s.length-(dec s).2:=by simp
  rw [charsGo_fuel f (s.drop (dec s).2) (by omega),charsGo_fuel n (s.drop (dec s).2) (by omega)]
def charsP (s:List UInt8):Option (List Int):=charsGo s.length s
theorem charsP_cons {s:List UInt8} (hs:s≠[]):charsP s=if badAt s then none else (charsP (s.drop (dec s).2)).map (((dec s).1:Int)::·):=by
 obtain ⟨h1,h2,_⟩:=decode_size s hs
 have hp:0<s.length:=List.length_pos_iff.2 hs
 obtain ⟨n,hn⟩:∃ n,s.length=n+1:=⟨s.length-1,by omega⟩
 have hdl:(s.drop (dec s).2).length=s.length-(dec s).2:=by simp
 rw [charsP,hn];simp only [charsGo,hs,if_false]
 rw [charsGo_fuel n _ (by omega)]; rfl
theorem charsP_len:∀ (n:Nat) (s:List UInt8),s.length≤n→∀ l,charsP s=some l→l.length≤s.length∧s.length≤4*l.length
 | 0,s,h,l,hl=>by
  have:s=[]:=List.eq_nil_of_length_eq_zero (by omega)
  subst this; cases hl; simp
 | n+1,s,h,l,hl=>by
  by_cases hs:s=[]
  ·subst hs; cases hl; simp
  obtain ⟨h1,h2,h3,_⟩:=decode_size s hs;rw [charsP_cons hs] at hl
  split at hl
  ·cases hl
  cases hd:charsP (s.drop (dec s).2) with
  | none=>rw [hd] at hl; cases hl
  | some l' =>
   rw [hd] at hl; cases hl
   have hdl:(s.drop (dec s).2).length=s.length-(dec s).2:=by simp
   have:=charsP_len n (s.drop (dec s).2) (by omega) l' hd
   simp only [List.length_cons]; omega
def chars (s:List UInt8):List Int×Int:=if 65536<s.length then ([],7) else match charsP s with|some l=>(l,0)|none=>([],3)
def encInts (k:IntKind) (l:List Int):List D:=l.map (D.int k)
theorem F120 (hL:LibOk W0) (s:List UInt8) (hs:s.length<1000000000):DFun Tryz.prog W0 257 [.str s] (.tup [.sl .none 1 (encInts .i64 (chars s).1),Iv (chars s).2]):=by
 refine Fi Tryz.func257 rfl Tryz.ntmps257 fun Γ=>?_
 apply Sr;apply Sq;apply Sr;refine Cd _ rfl (fun hc=>?_) (fun hc=>?_)
 ·apply Sr;apply Rt;(conv=>whnf)
  have:chars s=([],7):=by rw [chars,if_pos (by simp at hc; omega)]
  rw [this];exact ⟨DLe.nil,.refl _,trivial⟩
 apply Sk;(conv=>whnf)
 have hs2:¬ 65536<s.length:=by simp at hc; omega
 apply Sq;refine Tri.regionX ti_ok ?_;(conv=>whnf)
 refine .inr (XOp.makeOwn ti_ok (n:=s.length) (k1:=.i64) (k2:=.i64) rfl rfl rfl rfl rfl rfl (by show 8*_≤_; omega) (by omega) fun v=>?_)
 apply Sq;apply Bk
 refine Tri.loopK (α:={ x:List UInt8×List Int // charsP s=(charsP x.1).map (x.2++·)∧x.1.length+x.2.length≤s.length }×Value)
  (fun x=>[(0,.str x.1.1.1),(4,.sl (.own 1000 x.2) 1 (encInts .i64 x.1.1.2))]) (fun x=>[(1000,.own x.2 (encInts .i64 x.1.1.2).length 1 3)]) (fun x=>x.1.1.1.length) (⟨(s,[]),by simp,by simp⟩,v) [(1000,12)]
  ⟨⟨.refl _,DLe.own _ _,trivial⟩,rfl,Y⟩ ?_
 rintro ⟨⟨⟨r,acc⟩,hch,hlen⟩,v⟩;dsimp only at hch hlen ⊢;apply Sq;apply Sr;refine Cd _ rfl (fun hc=>?_) (fun hc=>?_)
 ·apply Sk;(conv=>whnf)
  have hr:r≠[]:=by intro e; subst e; simp at hc
  obtain ⟨hd1,hd2,hd3,hd4⟩:=decode_size r hr
  have hal:(encInts .i64 acc).length=acc.length:=by simp [encInts]
  apply Bk;apply Sr;(conv=>whnf);refine ⟨_,_,fun _=>F134 hL r,Z,?_⟩;apply Sq;apply Sr;(conv=>whnf)
  refine .inl ⟨by simp [InR]; omega,?_⟩
  (conv=>whnf);refine ⟨_,_,fun _=>F135 _,Z,?_⟩;apply Hh;apply Hh;apply Hh;apply Hh;refine Pk ?_;refine Pk ?_;refine Cd _ rfl (fun hc=>?_) (fun hc=>?_)
  ·apply Sr;apply Rt;(conv=>whnf)
   have hbad:badAt r=true:=by rw [badAt_eq]; exact hc
   have:chars s=([],3):=by rw [chars,if_neg hs2,hch,charsP_cons hr,if_pos hbad]; rfl
   rw [this];exact ⟨DLe.nil,.refl _,trivial⟩
  apply Sk
  have hbad:badAt r=false:=by rw [badAt_eq]; exact hc
  apply Sq;refine Tri.regionX ti_ok ?_;apply Il;(conv=>whnf)
  refine .inl ⟨by simp [InR]; omega,?_⟩
  (conv=>whnf);refine ⟨trivial,?_⟩;apply Il;(conv=>whnf);refine ⟨rfl,rfl,?_⟩;(conv=>whnf)
  refine ⟨by show (_+1)*8≤_; omega,by show _+1≤_; omega,(fun h=>by cases h),fun v=>?_⟩
  apply Rg;(conv=>whnf);refine Sp ?_;(conv=>whnf)
  exact ⟨(⟨(r.drop (dec r).2,acc++[((dec r).1:Int)]),by rw [hch,charsP_cons hr,hbad]; simp [Function.comp_def],by simp; omega⟩,v),[(1000,37)],by show (r.drop (dec r).2).length<r.length; simp; omega,⟨DLe.of_eq (congrArg D.str (by simp)),DLe.ownEq (by simp [encInts]; rfl),trivial⟩,rfl,rfl,ownH (by simp [encInts]),trivial⟩
 refine Tri.exit ?_;apply Sr;apply Rt;(conv=>whnf)
 have hr:r=[]:=by simpa using hc
 subst hr
 have:chars s=(acc,0):=by rw [chars,if_neg hs2,hch]; simp [charsP,charsGo]
 rw [this];exact ⟨DLe.unown,.refl _,trivial⟩
def u8i (n:Int):UInt8:=UInt8.ofNat n.toNat
theorem u8_row (l:List Int) (h:∀ n∈l,0≤n∧n≤255):l.map (D.int .u8)=(l.map u8i).map fun c=>D.int .u8 c.toNat:=by
 rw [List.map_map];apply List.map_congr_left;intro n hn
 have:=h n hn
 simp only [Function.comp,u8i]
 congr 1
 simp; omega
def enc17 (v:Int):List Int :=
 if v<128 then [v] else if v<2048 then [192+v.tdiv 64,128+v.tmod 64] else [224+v.tdiv 4096,128+(v.tdiv 64).tmod 64,128+v.tmod 64]
def enc17s (v:Int):List UInt8:=(enc17 v).map u8i
def bA (s:List UInt8) (k:Nat):Int:=((s.getD k 0).toNat:Nat)
def val12 (s:List UInt8) (i:Nat):Int:=if i=2 then (bA s 0-192)*64+bA s 1-128 else bA s 0
def valN (s:List UInt8) (i:Nat):Int:=if i=3 then (bA s 0-224)*4096+(bA s 1-128)*64+bA s 2-128 else val12 s i
def hit (s:List UInt8) (i:Nat):Bool:=isChar (valN s i)&&enc17s (valN s i)==s.take i
def first (s:List UInt8):Int×Int:=if 1≤s.length∧hit s 1=true then (valN s 1,1) else if 2≤s.length∧hit s 2=true then (valN s 2,2) else if 3≤s.length∧hit s 3=true then (valN s 3,3) else (0,0)
theorem get_bang (s:List UInt8) (k:Nat):(⟨⟨s⟩⟩:ByteArray).get! k=s.getD k 0:=by
 show (⟨s⟩:Array UInt8)[k]! = _
 rw [getElem!_def]
 simp [List.getD]
 cases h:s[k]?<;>rfl
def decN (n b0 b1 b2 b3:Nat):Nat×Nat :=
 if b0<128 then (b0,1)
 else if b0/32=6∧1<n∧b1/64=2 then
  if (b0%32)*64+b1%64≥128 then ((b0%32)*64+b1%64,2) else (65533,1)
 else if b0/16=14∧(1<n∧b1/64=2)∧2<n∧b2/64=2 then
  if (b0%16)*4096+(b1%64)*64+b2%64≥2048∧((b0%16)*4096+(b1%64)*64+b2%64<55296∨57344≤(b0%16)*4096+(b1%64)*64+b2%64)
  then ((b0%16)*4096+(b1%64)*64+b2%64,3) else (65533,1)
 else if b0/8=30∧(1<n∧b1/64=2)∧(2<n∧b2/64=2)∧3<n∧b3/64=2 then
  if (b0%8)*262144+(b1%64)*4096+(b2%64)*64+b3%64≥65536∧(b0%8)*262144+(b1%64)*4096+(b2%64)*64+b3%64≤1114111
  then ((b0%8)*262144+(b1%64)*4096+(b2%64)*64+b3%64,4) else (65533,1)
 else (65533,1)
theorem dec_eq {s:List UInt8} (h:s≠[]):dec s=decN s.length (s.getD 0 0).toNat (s.getD 1 0).toNat (s.getD 2 0).toNat (s.getD 3 0).toNat:=by
 have h0:¬ (⟨⟨s⟩⟩:ByteArray).size=0:=fun e=>h (List.eq_nil_of_length_eq_zero e)
 have hl:(⟨⟨s⟩⟩:ByteArray).size=s.length:=rfl
 unfold dec Lib.decodeGo
 rw [if_neg h0]
 unfold Utf8.decode
 dsimp only;simp only [get_bang,Nat.zero_add,hl]
 have hu0:=(s.getD 0 0).toNat_lt
 generalize (s.getD 0 0).toNat=b0 at *;generalize (s.getD 1 0).toNat=b1;generalize (s.getD 2 0).toNat=b2;generalize (s.getD 3 0).toNat=b3
 unfold decN
 have hre:Utf8.runeError=65533:=rfl
 simp only [hre,Bool.and_eq_true,Bool.or_eq_true,decide_eq_true_eq,ge_iff_le,Utf8.valid,beq_iff_eq,and_assoc]
 repeat' split
 all_goals first|rfl|(exfalso; omega)|skip
def nameOk (s:List UInt8):Bool :=
 if s=[46]∨s=[46,46]∨(47:UInt8)∈s then false else (chars s).2==0&&(decide (1≤(chars s).1.length)&&decide ((chars s).1.length≤64))
theorem index_mem (c:UInt8):∀ s:List UInt8,decide (0≤Lib.indexByte s c)=decide (c∈s)
 | []=>by simp [Lib.indexByte]
 | b::l=>by
  have ih:=index_mem c l
  have hge:=Lib.indexByte_ge l c
  rw [decide_eq_decide] at ih ⊢
  unfold Lib.indexByte
  by_cases hb:b=c
  ·subst hb; simp
  rw [if_neg (by simpa using hb)]
  have:c∈b::l↔c∈l:=by simp [Ne.symm hb]
  rw [this,← ih]
  cases hm:Lib.indexByte l c==-1 with
  | true=>rw [if_pos rfl]; have:=eq_of_beq hm; omega
  | false => rw [if_neg (by simp)]; have : Lib.indexByte l c ≠ -1 := fun e => by rw [e] at hm; simp at hm
             omega
theorem F100 (hL:LibOk W0) (s:List UInt8) (hs:s.length<1000000000):DFun Tryz.prog W0 193 [.str s] (.bool (nameOk s)):=by
 refine Fi Tryz.func193 rfl Tryz.ntmps193 fun Γ=>?_
 apply Sr;apply Sq;apply Sr;apply Hh;refine Pk ?_;apply Hh;(conv=>whnf);refine ⟨_,_,fun h=>F119 s 47,Z,?_⟩;refine Pk ?_;(conv=>whnf)
 have hcc:(bif bif s==[46] then true else s==[46,46] then true else decide (0≤Lib.indexByte s 47))=decide (s=[46]∨s=[46,46]∨(47:UInt8)∈s):=by
  rw [index_mem]
  by_cases h1:s=[46]
  ·simp [h1]
  by_cases h2:s=[46,46]<;>simp [h1,h2]
 refine Cd _ rfl (fun hc=>?_) (fun hc=>?_)
 ·apply Sr;apply Rt;(conv=>whnf);exact DLe.of_eq (congrArg D.bool (by rw [nameOk,if_pos (of_decide_eq_true (hcc.symm.trans hc))]))
 apply Sk;apply Sr;(conv=>whnf);refine ⟨_,_,fun _=>F120 hL s hs,Z,?_⟩;apply Sr;apply Hh;apply Hh;refine Pk ?_;apply Hh;apply Hh;refine Pk ?_;apply Rt;(conv=>whnf);refine DLe.of_eq (congrArg D.bool ?_);rw [nameOk,if_neg (of_decide_eq_false (hcc.symm.trans hc))]
 have hlen:(encInts .i64 (chars s).1).length=(chars s).1.length:=by simp [encInts]
 rw [hlen]
 cases (chars s).2==0
 ·rfl
 by_cases h1:1≤(chars s).1.length<;>by_cases h2:(chars s).1.length≤64<;>simp [h1,h2]<;>omega
def splitG (c:UInt8):List UInt8→List UInt8→List (List UInt8)
 | p,[]=>[p]
 | p,b::r=>if b=c then p::splitG c [] r else splitG c (p++[b]) r
theorem splitG_no {c:UInt8}:∀ (s p:List UInt8),c∉s→splitG c p s=[p++s]
 | [],p,_=>by simp [splitG]
 | b::r,p,h=>by
  have hb:b≠c:=fun e=>h (by simp [e])
  have hr:c∉r:=fun e=>h (by simp [e])
  rw [splitG,if_neg hb,splitG_no r _ hr]; simp
theorem splitG_at {c:UInt8}:∀ (a p r:List UInt8),c∉a→splitG c p (a++c::r)=(p++a)::splitG c [] r
 | [],p,r,_=>by simp [splitG]
 | b::a,p,r,h=>by
  have hb:b≠c:=fun e=>h (by simp [e])
  have hr:c∉a:=fun e=>h (by simp [e])
  rw [List.cons_append,splitG,if_neg hb,splitG_at a _ r hr]; simp
theorem splitG_len {c:UInt8}:∀ (s p:List UInt8),(splitG c p s).length≤s.length+1∧∀ x∈splitG c p s,x.length≤p.length+s.length
 | [],p=>by simp [splitG]
 | b::r,p=>by
  have h1:=splitG_len (c:=c) r []
  have h2:=splitG_len (c:=c) r (p++[b])
  rw [splitG]
  split
  ·refine ⟨by simp; omega,fun x hx=>?_⟩
   rcases List.mem_cons.1 hx with rfl|hx
   ·simp
   have:=h1.2 x hx; simp at this ⊢; omega
  refine ⟨by simp at h2 ⊢; omega,fun x hx=>?_⟩
  have:=h2.2 x hx; simp at this ⊢; omega
theorem splitB_eq (c:UInt8):∀ (n:Nat) (s:List UInt8),s.length≤n→(Lib.splitB ⟨⟨[c]⟩⟩ 0 (Lib.countB ⟨⟨s⟩⟩ ⟨⟨[c]⟩⟩) ⟨⟨s⟩⟩).map (fun b=>b.data.toList)=splitG c [] s:=by
 intro n
 induction n with
 | zero =>
  intro s h
  have:s=[]:=List.eq_nil_of_length_eq_zero (by omega)
  subst this
  rw [Lib.countB_miss _ _ (by rfl)]; rfl
 | succ n ih =>
  intro s h
  have hix:Lib.indexB ⟨⟨s⟩⟩ ⟨⟨[c]⟩⟩=Lib.indexByte s c:=Lib.index_one s c
  have hge:=Lib.indexByte_ge s c
  by_cases hm:Lib.indexByte s c=-1
  ·have hno:c∉s:=fun hc=>by
    obtain ⟨k,hk⟩:=List.mem_iff_getElem?.1 hc;exact Lib.indexByte_none hm k hk
   rw [Lib.countB_miss _ _ (hix.trans hm),Lib.splitB_zero,splitG_no s [] hno]; rfl
  obtain ⟨i,hi⟩:∃ i:Nat,Lib.indexByte s c=i:=⟨(Lib.indexByte s c).toNat,by omega⟩;obtain ⟨h1,h2⟩:=Lib.indexByte_some hi
  have hil:i<s.length:=by
   rcases Nat.lt_or_ge i s.length with h|h
   ·exact h
   rw [List.getElem?_eq_none h] at h1; cases h1
  have hsz:(⟨⟨[c]⟩⟩:ByteArray).size=1:=rfl
  have hss:(⟨⟨s⟩⟩:ByteArray).size=s.length:=rfl
  have e0:s.take s.length=s:=List.take_length
  rw [Lib.countB_hit _ _ i (by rw [hsz]; omega) (hix.trans hi),Nat.add_comm 1,Lib.splitB_hit _ _ _ _ i (hix.trans hi),hsz,hss,bytes_extract,bytes_extract,e0]
  have hs:s=s.take i++c::s.drop (i+1):=by
   have:=List.getElem?_eq_some_iff.1 h1
   obtain ⟨_,he⟩:=this
   have h3:=List.drop_eq_getElem_cons hil
   rw [he] at h3;rw [← h3,List.take_append_drop]
  have hno:c∉s.take i:=fun hc=>by
   obtain ⟨k,hk⟩:=List.mem_iff_getElem?.1 hc;rw [List.getElem?_take] at hk
   split at hk
   ·rename_i hlt; exact h2 k hlt hk
   cases hk
  rw [List.map_cons,ih (s.drop (i+1)) (by simp; omega)]
  conv=>rhs; rw [hs,splitG_at _ _ _ hno]
  simp
def strs (l:List (List UInt8)):List D:=l.map D.str
theorem F121 (hL:LibOk W0) (s:List UInt8) (c:UInt8) (hs:s.length<1000000000):DFun Tryz.prog W0 83 [.str s,.str [c]] (.sl .full 1 (strs (splitG c [] s))):=by
 obtain ⟨m,hm⟩:=hL.maxlen
 have heq:=splitB_eq c s.length s (Nat.le_refl _)
 have hlen:=(splitG_len (c:=c) s []).1
 have hcl:Lib.countB ⟨⟨s⟩⟩ ⟨⟨[c]⟩⟩+1=(strs (splitG c [] s)).length:=by
  have:=Lib.splitB_all (⟨⟨[c]⟩⟩:ByteArray) (Nat.le_refl 1) 0 _ (⟨⟨s⟩⟩:ByteArray) rfl
  rw [← this,strs,List.length_map,← heq,List.length_map]
 have hcells:∀ x∈strs (splitG c [] s),x.cells=[x]:=fun x hx=>by obtain ⟨y,_,rfl⟩:=List.mem_map.1 hx; rfl
 have hval:(Lib.splitB ⟨⟨[c]⟩⟩ 0 (Lib.countB ⟨⟨s⟩⟩ ⟨⟨[c]⟩⟩) ⟨⟨s⟩⟩).map Value.string=(splitG c [] s).map fun x=>Value.string ⟨⟨x⟩⟩:=by
  rw [← heq,List.map_map]; rfl
 refine .newRow (us:=(splitG c [] s).map fun x=>Value.string ⟨⟨x⟩⟩) (e:=9) (callable Tryz.func83 rfl (by decide +kernel)) rfl (fun x hx=>by rw [hcells x hx]; rfl) (by simp only [strs,List.length_map,maxLen] at *; omega)
  (fun w C=>?_) (fun u hu=>by obtain ⟨y,_,rfl⟩:=List.mem_map.1 hu; rfl) fun w hb=>(Tryz.strings_Split ⟨⟨s⟩⟩ ⟨⟨[c]⟩⟩ m w (by show s.length<_; omega) (cell_base hb hm) (Nat.le_refl 1)).mono fun e w' ⟨he,hw⟩=>?_
 ·rw [flat_one hcells]
  exact ⟨by simp [strs],fun i d v hd hv=>by
   simp only [strs,List.getElem?_map] at hd hv
   cases hx:(splitG c [] s)[i]? with
   | none=>rw [hx] at hd; cases hd
   | some x=>rw [hx] at hd hv; cases hd; cases hv; exact .str _⟩
 rw [← hcl];exact ⟨he,by rw [hw,hval]⟩
def cutSlash (s:List UInt8):List UInt8:=match s with|b::r=>if b=47 then r else b::r|[]=>[]
theorem trim_slash (s:List UInt8):Lib.trimPrefix s [47]=cutSlash s:=by
 unfold Lib.trimPrefix Lib.hasPrefix cutSlash
 match s with
 | []=>rfl
 | b::r =>
  by_cases h:b=47
  ·simp [h,List.isPrefixOf]
  have h':¬ (47:UInt8)=b:=fun e=>h e.symm
  simp [h,h',List.isPrefixOf]
theorem cutSlash_len (s:List UInt8):(cutSlash s).length≤s.length:=by
 unfold cutSlash; split
 ·split<;>simp
 simp
def partOk (p:List UInt8):Bool:=p==[46]||(p==[46,46]||nameOk p)
def targetOk (s:List UInt8):Bool:=if s.length<1∨128<s.length then false else if s=[47] then true else (splitG 47 [] (cutSlash s)).all partOk
theorem all_false {α:Type} {q:α→Bool} {l:List α} {i:Nat} (h:i<l.length) (hq:q l[i]=false):l.all q=false:=by
 rw [Bool.eq_false_iff]; intro ha
 have:=List.all_eq_true.1 ha l[i] (List.getElem_mem h)
 rw [hq] at this; cases this
theorem all_true {α:Type} {q:α→Bool} {l:List α} {i:Nat} (h:¬ i<l.length) (hq:∀ j (hj:j<l.length),j<i→q l[j]=true):l.all q=true :=
 List.all_eq_true.2 fun x hx=>by
  obtain ⟨j,hj,rfl⟩:=List.mem_iff_getElem.1 hx;exact hq j hj (by omega)
theorem below_next {α:Type} {q:α→Bool} {l:List α} {i:Nat} {hi:i<l.length} (h:q l[i]=true) (hq:∀ j (hj:j<l.length),j<i→q l[j]=true):∀ j (hj:j<l.length),j<i+1→q l[j]=true:=fun j hj hlt =>
 (Nat.lt_succ_iff_lt_or_eq.1 hlt).elim (hq j hj) fun e=>by subst e; exact h
theorem part_cc (p:List UInt8):(bif (bif !(p==[46]) then !(p==[46,46]) else false) then !nameOk p else false)=!partOk p:=by
 unfold partOk; cases p==[46]<;>cases p==[46,46]<;>cases nameOk p<;>rfl
theorem F101 (hL:LibOk W0) (s:List UInt8) (hs:s.length<1000000000):DFun Tryz.prog W0 194 [.str s] (.bool (targetOk s)):=by
 refine Fi Tryz.func194 rfl Tryz.ntmps194 fun Γ=>?_
 apply Sr;apply Sq;apply Sr;apply Hh;apply Hh;refine Pk ?_;refine Cd _ rfl (fun hc=>?_) (fun hc=>?_)
 ·apply Sr;apply Rt;(conv=>whnf);refine DLe.of_eq (congrArg D.bool ?_);rw [targetOk,if_pos]
  by_cases h1:s.length<1
  ·exact .inl h1
  right; have h1':¬ (s.length:Int)<1:=by omega
  simp [h1'] at hc; omega
 apply Sk
 have h1:¬ (s.length<1∨128<s.length):=by
  by_cases h1:(s.length:Int)<1
  ·simp [h1] at hc
  simp [h1] at hc; omega
 apply Sq;apply Sr;refine Cd _ rfl (fun hc=>?_) (fun hc=>?_)
 ·apply Sr;apply Rt;(conv=>whnf);exact DLe.of_eq (congrArg D.bool (by rw [targetOk,if_neg h1,if_pos (by simpa using hc)]))
 apply Sk
 have h2:s≠[47]:=by simpa using hc
 have hT:targetOk s=(splitG 47 [] (cutSlash s)).all partOk:=by rw [targetOk,if_neg h1,if_neg h2]
 have hcl:=cutSlash_len s
 obtain ⟨hgl,hgp⟩:=splitG_len (c:=47) (cutSlash s) [];apply Sq;apply Sr;(conv=>whnf);refine ⟨_,_,fun _=>F122 s [47],Z,?_⟩;(conv=>whnf);refine ⟨[.str (cutSlash s),.str [47]],_,fun _=>F121 hL (cutSlash s) 47 (by omega),⟨DLe.of_eq (congrArg D.str (trim_slash s)),.refl _,trivial⟩,?_⟩;apply Bk
 refine Tri.loop (α:={ i:Nat // i≤(splitG 47 [] (cutSlash s)).length∧∀ j (h:j<(splitG 47 [] (cutSlash s)).length),j<i→partOk (splitG 47 [] (cutSlash s))[j]=true })
  (fun x=>[(17,.sl .full 1 (strs (splitG 47 [] (cutSlash s)))),(18,Iv (strs (splitG 47 [] (cutSlash s))).length),(19,Iv x.1)]) (fun _=>[]) (fun x=>(splitG 47 [] (cutSlash s)).length-x.1) ⟨0,by simp⟩ Z trivial ?_
 rintro ⟨i,hi,hp⟩;dsimp only;apply Sr;apply Sq;refine Cd _ rfl (fun hc=>?_) (fun hc=>?_)
 ·apply Sk;(conv=>whnf)
  have hia:i<(splitG 47 [] (cutSlash s)).length:=by simpa [strs] using hc
  have hpl:=hgp _ (List.getElem_mem hia)
  apply Sq;apply Bk;apply Sr;(conv=>whnf)
  refine ⟨fun _=>by simp [strs]; omega,?_⟩
  (conv=>whnf);refine ⟨.str (splitG 47 [] (cutSlash s))[i],fun _=>get_map _ hia,?_⟩;apply Sr;apply Hh;refine Pk ?_;apply Hh;(conv=>whnf)
  refine ⟨[.str (splitG 47 [] (cutSlash s))[i]],_,fun h=>F100 hL _ (by simp at hpl; omega),Z,?_⟩
  apply Hh;refine Pk ?_;(conv=>whnf)
  have hcc:=part_cc (splitG 47 [] (cutSlash s))[i]
  refine Cd _ rfl (fun hc=>?_) (fun hc=>?_)
  ·apply Sr;apply Rt;(conv=>whnf);exact DLe.of_eq (congrArg D.bool (by rw [hT,all_false hia (by simpa using hcc.symm.trans hc)]))
  apply Sk;apply Rg;refine Ir ?_;(conv=>whnf)
  exact ⟨⟨i+1,by omega,below_next (hi:=hia) (by simpa using hcc.symm.trans hc) hp⟩,by show _-(i+1)<_-i; omega,Z,trivial⟩
 refine Tri.exit ?_;apply Sr;apply Rt;(conv=>whnf);exact DLe.of_eq (congrArg D.bool (by rw [hT,all_true (by simpa [strs] using hc) hp]))
structure BE where
 path:List UInt8
 plat:Int
 media:Int
 seg:Int
 sect:Int
 boot:Bool
 deriving DecidableEq
def encB (b:BE):D:=.agg [.str b.path,Iv b.plat,Iv b.media,Iv b.seg,Iv b.sect,.bool b.boot]
structure MV where
 name:List UInt8
 set:List UInt8
 pub:List UInt8
 prep:List UInt8
 app:List UInt8
 num:Int
 discs:Int
 time:Int
 views:Int
 zone:Int
 boot:List BE
 udf:Int
 share:Bool
 deriving DecidableEq
def encM (m:MV):D:=.agg [.str m.name,.str m.set,.str m.pub,.str m.prep,.str m.app,Iv m.num,Iv m.discs,Iv m.time,Iv m.views,Iv m.zone,.sl .none 6 (m.boot.map encB),Iv m.udf,.bool m.share]
def fewM (m:MV):Bool:=decide (m.boot.length≤4)&&decide (m.name.length+m.set.length+m.pub.length+m.prep.length+m.app.length≤2000)
theorem K22 (m:MV) (h:m.name.length+m.set.length+m.pub.length+m.prep.length+m.app.length<1000000000):DFun Tryz.prog W0 10 [encM m] (.bool (fewM m)):=by
 refine Fi Tryz.func10 rfl Tryz.ntmps10 fun Γ=>?_
 apply Sr;(conv=>whnf);intro b;apply Sr;apply Rl;(conv=>whnf);intro b;apply Rl;apply Sr;apply Rl;apply Hh;apply Rl;apply Hh;apply Hh;apply Rl;apply Hh;apply Hh;apply Hh;(conv=>whnf)
 refine .inl ⟨fun h=>by simp [InR]; omega,?_⟩
 apply Hh;apply Rl;apply Hh;apply Hh;apply Hh;(conv=>whnf)
 refine .inl ⟨fun h=>by simp [InR]; omega,?_⟩
 apply Hh;apply Rl;apply Hh;apply Hh;apply Hh;(conv=>whnf)
 refine .inl ⟨fun h=>by simp [InR]; omega,?_⟩
 apply Hh;apply Rl;apply Hh;apply Hh;apply Hh;(conv=>whnf)
 refine .inl ⟨fun h=>by simp [InR]; omega,?_⟩
 apply Hh;refine Pk ?_;apply Rt;(conv=>whnf);refine DLe.of_eq (congrArg D.bool (a₂:=fewM m) ?_)
 unfold fewM
 by_cases h1:m.boot.length≤4
 ·by_cases h2:m.name.length+m.set.length+m.pub.length+m.prep.length+m.app.length≤2000
  ·simp [h1,h2]; omega
  simp [h1,h2]; omega
 simp [h1]; omega
theorem DCall.heapK {f:FuncId} {ds:List D} {Q:D→Heap→Prop} {H:Heap} {k s:Nat} {o:HObj} (h:H s=some o) (hc:DCall Tryz.prog W0 f ds (look [(k,o)]) Q):DCall Tryz.prog W0 f ds (handed H [(k,s)]) Q:=by
 have e:handed H [(k,s)]=look [(k,o)]:=by
  funext j
  simp only [handed,look]
  cases Nat.beq j k with
  | true=>exact h
  | false=>rfl
 rw [e]; exact hc
theorem K39 (l:List BE) (h:l.length<1000000):DFun Tryz.prog W0 78 [.sl .none 6 (l.map encB)] (.sl .none 6 (l.map encB)):=by
 refine Fi Tryz.func78 rfl Tryz.ntmps78 fun Γ=>?_
 apply Sr;apply S2;refine Tri.regionX ti_ok ?_;(conv=>whnf);refine .inr (XOp.nilEq (el:=140) ti_ok rfl rfl rfl fun nb hnb=>?_);refine Cd _ rfl (fun hc=>?_) (fun hc=>?_)
 ·apply Sr;apply Rt;(conv=>whnf)
  have hnil:=hnb hc
  rw [hnil];exact DLe.nil
 apply Sk;apply Sr;(conv=>whnf);refine ⟨trivial,?_⟩;(conv=>whnf)
 refine ⟨by show (0+(l.map encB).length)*56≤_; simp; omega,by show 0+(l.map encB).length≤_; simp; omega,(fun h=>by cases h),fun v=>?_⟩
 apply Rt;(conv=>whnf);exact DLe.trans (DLe.of_eq (congrArg (D.sl _ 6) (List.nil_append _))) DLe.unown
theorem firstIdx_or {α:Type} (p:α→Bool) (l:List α):(firstIdx p l=-1∧∀ j (h:j<l.length),p l[j]=false)∨∃ (i:Nat) (h:i<l.length),firstIdx p l=i∧p l[i]=true∧∀ j (h:j<l.length),j<i→p l[j]=false:=by
 unfold firstIdx
 cases hf:l.findIdx? p with
 | none=>exact .inl ⟨rfl,fun j hj=>by simpa using List.findIdx?_eq_none_iff.1 hf _ (List.getElem_mem hj)⟩
 | some i =>
  obtain ⟨h1,h2,h3⟩:=List.findIdx?_eq_some_iff_getElem.1 hf;exact .inr ⟨i,h1,rfl,h2,fun j hj hji=>by simpa using h3 j hji⟩
theorem off (f:Nat→Bool) (k:Nat) (h:f k=false):∃ g:Nat→Bool,f=fun j=>_root_.cond (Nat.beq j k) false (g j) :=
 ⟨f,funext fun j=>by cases hb:Nat.beq j k with|false=>rfl|true=>rw [beq_true hb]; exact h⟩
def hasV (v k:Int):Bool:=bitI .and .i64 (v.fdiv (2 ^ min k.toNat IntKind.i64.bits)) 1==1
theorem H35 (v k:Int) (hk:0≤k):DFun Tryz.prog W0 35 [Iv v,Iv k] (.bool (hasV v k)):=by
 refine Fi Tryz.func35 rfl Tryz.ntmps35 fun Γ=>?_
 apply Sr;apply Sr;(conv=>whnf);refine ⟨fun _=>hk,?_⟩;apply Rt;(conv=>whnf);exact .refl _
theorem H42 (v k:Int) (hk:0≤k):DFun Tryz.prog W0 42 [Iv v,Iv k] (.bool (hasV v k)):=by
 refine Fi Tryz.func42 rfl Tryz.ntmps42 fun Γ=>?_
 apply Sr;apply Sr;(conv=>whnf);refine ⟨fun _=>hk,?_⟩;apply Rt;(conv=>whnf);exact .refl _
def noIso (m:MV):Bool:=bif !hasV m.views 0 then (bif (bif hasV m.views 1 then true else hasV m.views 2) then true else decide ((0:Int)<((m.boot.map encB).length:Nat))) else false
def validM (m:MV):Bool :=
 if (bif decide (m.views<1) then true else decide (15<m.views))=true then false else if noIso m=true then false else if hasV m.views 3=true then (bif m.udf==0 then true else m.udf==3) else m.udf==0
theorem H32 (m:MV):DFun Tryz.prog W0 32 [encM m] (.bool (validM m)):=by
 refine Fi Tryz.func32 rfl Tryz.ntmps32 fun Γ=>?_
 apply Sr;(conv=>whnf);intro b1;apply Sq;refine Tri.draw ti_ok mixed (by kernel_rfl) ?_;apply Rl;(conv=>whnf);refine ⟨[Iv m.views,Iv 0],_,fun _=>H35 m.views 0 (by decide),Z,?_⟩;apply Rl;(conv=>whnf);refine ⟨[Iv m.views,Iv 3],_,fun _=>H35 m.views 3 (by decide),Z,?_⟩;apply Sq;apply Bk;apply Sr;apply Rl;apply Hh;apply Rl;apply Hh;refine Pk ?_;refine Cd _ rfl (fun hc=>?_) (fun hc=>?_)
 ·apply Sr;apply Rt;(conv=>whnf);exact DLe.of_eq (congrArg D.bool (by rw [validM,if_pos hc]))
 apply Sq
 have h1:¬ (bif decide (m.views<1) then true else decide (15<m.views))=true:=by rw [hc]; decide
 apply Rg;apply Hh;apply Rl;apply Hh;(conv=>whnf);refine ⟨[Iv m.views,Iv 1],_,fun h=>H35 m.views 1 (by decide),Z,?_⟩;apply Hh;apply Hh;apply Rl;apply Hh;(conv=>whnf);refine ⟨[Iv m.views,Iv 2],_,fun h=>H35 m.views 2 (by decide),Z,?_⟩;apply Hh;refine Pk ?_;apply Hh;apply Hh;apply Rl;apply Hh;apply Hh;apply Hh;refine Pk ?_;refine Pk ?_;refine Cd (noIso m) rfl (fun hc=>?_) (fun hc=>?_)
 ·apply Sr;apply Rt;(conv=>whnf);exact DLe.of_eq (congrArg D.bool (by rw [validM,if_neg h1,if_pos hc]))
 apply Sq
 have h2:¬ noIso m=true:=by rw [hc]; decide
 apply Rg;refine Cd (hasV m.views 3) rfl (fun hc=>?_) (fun hc=>?_)
 ·apply Sr;apply Rl;apply Hh;apply Rl;apply Hh;refine Pk ?_;apply Rt;(conv=>whnf);exact DLe.of_eq (congrArg D.bool (by rw [validM,if_neg h1,if_neg h2,if_pos hc]))
 apply Sk;apply Sr;apply Rl;apply Rt;(conv=>whnf)
 exact DLe.of_eq (congrArg D.bool (by rw [validM,if_neg h1,if_neg h2,if_neg (by rw [hc]; decide)]))
theorem H41 (m:MV):DFun Tryz.prog W0 41 [encM m] (.bool (validM m)):=by
 refine Fi Tryz.func41 rfl Tryz.ntmps41 fun Γ=>?_
 apply Sr;(conv=>whnf);intro b1;apply Sq;apply Sr;apply Rl;apply Hh;apply Rl;apply Hh;refine Pk ?_;refine Cd _ rfl (fun hc=>?_) (fun hc=>?_)
 ·apply Sr;apply Rt;(conv=>whnf)
  exact DLe.of_eq (congrArg D.bool (by rw [validM,if_pos]; revert hc; cases decide (m.views<1)<;>simp; omega))
 apply Sk
 have h1:¬ (bif decide (m.views<1) then true else decide (15<m.views))=true:=by revert hc; cases decide (m.views<1)<;>simp; omega
 apply Sq;refine Tri.draw ti_ok mixed (by kernel_rfl) ?_;apply Rl;(conv=>whnf);refine ⟨[Iv m.views,Iv 0],_,fun _=>H42 m.views 0 (by decide),Z,?_⟩;apply Rl;(conv=>whnf);refine ⟨[Iv m.views,Iv 3],_,fun _=>H42 m.views 3 (by decide),Z,?_⟩;apply Sq;apply Sr;apply Hh;apply Rl;apply Hh;(conv=>whnf);refine ⟨[Iv m.views,Iv 1],_,fun h=>H42 m.views 1 (by decide),Z,?_⟩;apply Hh;apply Hh;apply Rl;apply Hh;(conv=>whnf);refine ⟨[Iv m.views,Iv 2],_,fun h=>H42 m.views 2 (by decide),Z,?_⟩;apply Hh;refine Pk ?_;apply Hh;apply Hh;apply Rl;apply Hh;apply Hh;apply Hh;refine Pk ?_;refine Pk ?_;refine Cd (noIso m) rfl (fun hc=>?_) (fun hc=>?_)
 ·apply Sr;apply Rt;(conv=>whnf);exact DLe.of_eq (congrArg D.bool (by rw [validM,if_neg h1,if_pos hc]))
 apply Sk
 have h2:¬ noIso m=true:=by rw [hc]; decide
 apply Sr;apply Rl;apply Hh;apply Hh;apply Rl;apply Hh;apply Hh;refine Pk ?_;refine Pk ?_;apply Rt;(conv=>whnf)
 exact DLe.of_eq (congrArg D.bool (by rw [validM,if_neg h1,if_neg h2]; cases hasV m.views 3<;>cases m.udf==0<;>simp))
structure OV where
 jol:Bool
 rock:Bool
 zone:Int
 boot:List BE
 deriving DecidableEq
def encO (o:OV):D:=.agg [.bool o.jol,.bool o.rock,Iv o.zone,.sl .none 6 (o.boot.map encB)]
def optM (m:MV):OV:=if validM m=true∧hasV m.views 0=true then ⟨hasV m.views 1,hasV m.views 2,m.zone,m.boot⟩ else ⟨false,false,0,[]⟩
def descV (o:OV):Int:=(if o.jol=true then 3 else 2)+(if 0<o.boot.length then 1 else 0)
theorem H37 (m:MV) (hb:m.boot.length<1000000):DFun Tryz.prog W0 37 [encM m] (encO (optM m)):=by
 refine Fi Tryz.func37 rfl Tryz.ntmps37 fun Γ=>?_
 apply Sr;(conv=>whnf);intro b1;(conv=>whnf);intro b2;apply Sq;apply Sr;apply Rl;(conv=>whnf);refine ⟨[encM m],_,fun _=>H32 m,Z,?_⟩;apply Hh;apply Rl;apply Hh;(conv=>whnf);refine ⟨[Iv m.views,Iv 0],_,fun h=>H35 m.views 0 (by decide),Z,?_⟩;apply Hh;refine Pk ?_
 refine Cd (!(validM m&&hasV m.views 0)) (congrArg D.bool (by cases validM m<;>cases hasV m.views 0<;>rfl)) (fun hc=>?_) (fun hc=>?_)
 ·apply Sr;apply Rl;apply Rt;(conv=>whnf)
  have h:¬ (validM m=true∧hasV m.views 0=true):=by revert hc; cases validM m<;>cases hasV m.views 0<;>simp
  apply Rl;(conv=>whnf);rw [optM,if_neg h];exact DLe.agg ⟨.refl _,.refl _,.refl _,DLe.nil,trivial⟩
 apply Sk;apply Sq;refine Tri.drawTail ti_ok 11 mixed (by kernel_rfl) ?_;apply Rl;(conv=>whnf);refine ⟨[Iv m.views,Iv 1],_,fun _=>H35 m.views 1 (by decide),Z,?_⟩;apply Rl;(conv=>whnf);refine ⟨[Iv m.views,Iv 2],_,fun _=>H35 m.views 2 (by decide),Z,?_⟩;apply Rl;apply Rl;(conv=>whnf);refine ⟨[.sl .none 6 (m.boot.map encB)],_,fun _=>K39 m.boot hb,Z,?_⟩;apply Rl;apply Rt;(conv=>whnf)
 have h:validM m=true∧hasV m.views 0=true:=by revert hc; cases validM m<;>cases hasV m.views 0<;>simp
 apply Rl;(conv=>whnf);rw [optM,if_pos h];exact .refl _
theorem H44 (m:MV) (hb:m.boot.length<1000000):DFun Tryz.prog W0 44 [encM m] (encO (optM m)):=by
 refine Fi Tryz.func44 rfl Tryz.ntmps44 fun Γ=>?_
 apply Sr;(conv=>whnf);intro b1;(conv=>whnf);intro b2;apply Sq;apply Sr;apply Rl;(conv=>whnf);refine ⟨[encM m],_,fun _=>H41 m,Z,?_⟩;apply Hh;apply Rl;apply Hh;(conv=>whnf);refine ⟨[Iv m.views,Iv 0],_,fun h=>H42 m.views 0 (by decide),Z,?_⟩;apply Hh;refine Pk ?_
 refine Cd (!(validM m&&hasV m.views 0)) (congrArg D.bool (by cases validM m<;>cases hasV m.views 0<;>rfl)) (fun hc=>?_) (fun hc=>?_)
 ·apply Sr;apply Rl;apply Rt;(conv=>whnf)
  have h:¬ (validM m=true∧hasV m.views 0=true):=by revert hc; cases validM m<;>cases hasV m.views 0<;>simp
  apply Rl;(conv=>whnf);rw [optM,if_neg h];exact DLe.agg ⟨.refl _,.refl _,.refl _,DLe.nil,trivial⟩
 apply Sk;apply Sq
 refine Tri.bitsG ti_ok mixed (α:=Value) (fun y f=>[(1,.box 1 b1 0),(2,.box 2 b2 0),(13,bif f 0 then .box 1 b1 8 else .any),(14,bif f 1 then Iv m.views else .any),(15,bif f 2 then .bool (hasV m.views 1) else .any),(16,bif f 3 then .box 1 b1 8 else .any),(17,bif f 4 then Iv m.views else .any),(18,bif f 5 then .bool (hasV m.views 2) else .any),(19,bif f 6 then .box 1 b1 9 else .any),(20,bif f 7 then Iv m.zone else .any),(21,bif f 8 then .sl .full 6 [] else .any),(22,bif f 9 then .box 1 b1 10 else .any),(23,bif f 10 then .sl .none 6 (m.boot.map encB) else .any),(24,bif f 11 then .sl (.own 24 y) 6 (m.boot.map encB) else .any),(25,bif f 12 then .agg [.bool (hasV m.views 1),.bool (hasV m.views 2),Iv m.zone,.sl .none 6 (m.boot.map encB)] else .any)])
  (fun y f=>look ([(1,.box b1 (encM m).cells),(2,.box b2 (bif f 13 then [.bool (hasV m.views 1),.bool (hasV m.views 2),Iv m.zone,.sl .none 6 (m.boot.map encB)] else [.bool false,.bool false,Iv 0,.nils]))]++(bif f 11 then [(24,.own y (0+(m.boot.map encB).length) 6 140)] else []))) (by decide +kernel) Value.nilFunc ?_ ?_ ?_ ?_
 ·exact ⟨.refl _,.refl _,.any _,.any _,.any _,.any _,.any _,.any _,.any _,.any _,.any _,.any _,.any _,.any _,.any _,trivial⟩
 ·exact SubHF.of (hs:=[(1,.box b1 (encM m).cells),(2,.box b2 [.bool false,.bool false,Iv 0,.nils])]) ⟨rfl,Y⟩
 ·(conv=>whnf);refine Qo ?_;refine ⟨fun y f hI=>?_,?_⟩
  ·obtain ⟨f,rfl⟩:= hI.o f 11 5 (hI.n 5 2 (hI.n 2 1));obtain ⟨f,rfl⟩:= hI.o f 13 1;apply Ti;apply Rl;(conv=>whnf);exact Ex y
  refine ⟨fun y f hI=>?_,?_⟩
  ·obtain ⟨f,rfl⟩:= hI.o f 11 5 (hI.n 5 2);obtain ⟨f,rfl⟩:= hI.o f 13 2;apply Ti;(conv=>whnf);refine ⟨[Iv m.views,Iv 1],_,fun _=>H42 m.views 1 (by decide),Z,?_⟩;(conv=>whnf);exact Ex y
  refine Qo ?_;refine ⟨fun y f hI=>?_,?_⟩
  ·obtain ⟨f,rfl⟩:= hI.o f 11 5 (hI.n 5 4);obtain ⟨f,rfl⟩:= hI.o f 13 4;apply Ti;apply Rl;(conv=>whnf);exact Ex y
  refine ⟨fun y f hI=>?_,?_⟩
  ·obtain ⟨f,rfl⟩:= hI.o f 11 5;obtain ⟨f,rfl⟩:= hI.o f 13 5;apply Ti;(conv=>whnf);refine ⟨[Iv m.views,Iv 2],_,fun _=>H42 m.views 2 (by decide),Z,?_⟩;(conv=>whnf);exact Ex y
  refine Qo ?_;refine ⟨fun y f hI=>?_,?_⟩
  ·obtain ⟨f,rfl⟩:= hI.o f 13 7;apply Ti;apply Rl;(conv=>whnf);exact Ex y
  refine ⟨fun y f hI=>?_,?_⟩
  ·obtain ⟨f,rfl⟩:= hI.o f 11 8;obtain ⟨f,rfl⟩:= hI.o f 13 8;apply Ti;(conv=>whnf);refine ⟨trivial,?_⟩;(conv=>whnf);exact Ex y
  refine Qo ?_;refine ⟨fun y f hI=>?_,?_⟩
  ·obtain ⟨f,rfl⟩:= hI.o f 11 10;obtain ⟨f,rfl⟩:= hI.o f 13 10;apply Ti;apply Rl;(conv=>whnf);exact Ex y
  refine ⟨fun y f hI=>?_,?_⟩
  ·obtain ⟨f,rfl⟩:= hI.o f 13 11;apply Ti;(conv=>whnf)
   refine ⟨by simp; omega,by simp; omega,(fun h=>by cases h),fun v=>?_⟩
   (conv=>whnf);exact Ex v (SubHF.of (hs:=[(1,.box b1 (encM m).cells),(2,.box b2 [.bool false,.bool false,Iv 0,.nils]),(24,.own v (0+(m.boot.map encB).length) 6 140)]) ⟨rfl,Y⟩)
  refine Qo ?_;refine ⟨fun y f hI=>?_,?_⟩
  ·(conv=>whnf);apply Ti;apply Rl;(conv=>whnf);exact Ex y (SubHF.of (hs:=[(1,.box b1 (encM m).cells),(2,.box b2 [.bool (hasV m.views 1),.bool (hasV m.views 2),Iv m.zone,.sl .none 6 (m.boot.map encB)]),(24,.own y (0+(m.boot.map encB).length) 6 140)]) ⟨rfl,Y⟩)
  exact trivial
 intro y f hfl;(conv=>whnf);refine Tri.forgetG [(1,.box 1 b1 0),(2,.box 2 b2 0)] (look [(1,.box b1 (encM m).cells),(2,.box b2 [.bool (hasV m.views 1),.bool (hasV m.views 2),Iv m.zone,.sl .none 6 (m.boot.map encB)])]) (.same Z (SubHF.of ⟨rfl,?_,trivial⟩)) ?_
 ·show some (HObj.box b2 (bif f 13 then _ else _))=_
  rw [hfl 13 (by decide +kernel)]; rfl
 apply Rt;apply Rl;(conv=>whnf)
 have h:validM m=true∧hasV m.views 0=true:=by revert hc; cases validM m<;>cases hasV m.views 0<;>simp
 rw [optM,if_pos h];exact .refl _
theorem H36 (o:OV):DFun Tryz.prog W0 36 [encO o] (Iv (descV o)):=by
 refine Fi Tryz.func36 rfl Tryz.ntmps36 fun Γ=>?_
 apply Sr;(conv=>whnf);intro b1;apply Sr;(conv=>whnf);refine Tri.joinK (α:=Unit) (fun x=>[(1,.box 1 b1 0),(3,Iv (if o.jol=true then 3 else 2))]) (fun x=>[(1,.box b1 (encO o).cells)]) ?_ ?_
 ·apply Sr;apply Rl;refine Cd o.jol rfl (fun hc=>?_) (fun hc=>?_)
  ·apply Rg;refine Ir ?_;(conv=>whnf)
   exact ⟨(),[(1,1)],⟨.refl _,DLe.of_eq (congrArg (D.int .i64) (by rw [if_pos hc]; rfl)),trivial⟩,rfl,Y⟩
  apply Sk;(conv=>whnf)
  exact ⟨(),[(1,1)],⟨.refl _,DLe.of_eq (congrArg (D.int .i64) (by rw [if_neg (by rw [hc]; decide)])),trivial⟩,rfl,Y⟩
 rintro ⟨⟩;apply Sq;apply Sr;apply Rl;refine Cd _ rfl (fun hc=>?_) (fun hc=>?_)
 ·apply Rg;(conv=>whnf)
  refine .inl ⟨fun _=>by simp only [InR]; split<;>omega,?_⟩
  apply Sr;apply Rt;(conv=>whnf)
  have h:0<o.boot.length:=by simpa using hc
  exact DLe.of_eq (congrArg (D.int .i64) (by rw [descV,if_pos h]))
 apply Sk;apply Sr;apply Rt;(conv=>whnf)
 have h:¬ 0<o.boot.length:=by simpa using hc
 exact DLe.of_eq (congrArg (D.int .i64) (by rw [descV,if_neg h]; simp))
theorem H43 (o:OV):DFun Tryz.prog W0 43 [encO o] (Iv (descV o)):=by
 refine Fi Tryz.func43 rfl Tryz.ntmps43 fun Γ=>?_
 apply Sr;(conv=>whnf);intro b1;apply Sr;(conv=>whnf);refine Tri.joinK (α:=Unit) (fun x=>[(1,.box 1 b1 0),(3,Iv (if o.jol=true then 3 else 2))]) (fun x=>[(1,.box b1 (encO o).cells)]) ?_ ?_
 ·apply Sr;apply Rl;refine Cd o.jol rfl (fun hc=>?_) (fun hc=>?_)
  ·apply Rg;refine Ir ?_;(conv=>whnf)
   exact ⟨(),[(1,1)],⟨.refl _,DLe.of_eq (congrArg (D.int .i64) (by rw [if_pos hc]; rfl)),trivial⟩,rfl,Y⟩
  apply Sk;(conv=>whnf)
  exact ⟨(),[(1,1)],⟨.refl _,DLe.of_eq (congrArg (D.int .i64) (by rw [if_neg (by rw [hc]; decide)])),trivial⟩,rfl,Y⟩
 rintro ⟨⟩;apply Sq;apply Sr;apply Rl;refine Cd _ rfl (fun hc=>?_) (fun hc=>?_)
 ·apply Rg;(conv=>whnf)
  refine .inl ⟨fun _=>by simp only [InR]; split<;>omega,?_⟩
  apply Sr;apply Rt;(conv=>whnf)
  have h:0<o.boot.length:=by simpa using hc
  exact DLe.of_eq (congrArg (D.int .i64) (by rw [descV,if_pos h]))
 apply Sk;apply Sr;apply Rt;(conv=>whnf)
 have h:¬ 0<o.boot.length:=by simpa using hc
 exact DLe.of_eq (congrArg (D.int .i64) (by rw [descV,if_neg h]; simp))
def blkV (n:Int):Int:=if 0<n.tmod 2048 then n.tdiv 2048+1 else n.tdiv 2048
theorem H40 (n:Int) (h1:0≤n) (h2:n≤9223372036854775807):DFun Tryz.prog W0 40 [Iv n] (Iv (blkV n)):=by
 refine Fi Tryz.func40 rfl Tryz.ntmps40 fun Γ=>?_
 apply Sr;apply Sr;(conv=>whnf);refine ⟨fun _=>by decide,?_⟩;(conv=>whnf)
 have hq:0≤n.tdiv 2048∧n.tdiv 2048≤9223372036854775806:=by rw [Int.tdiv_eq_ediv_of_nonneg h1]; omega
 refine Ir ?_;apply Sq;apply Sr;(conv=>whnf);refine ⟨fun _=>by decide,?_⟩;refine Cd _ rfl (fun hc=>?_) (fun hc=>?_)
 ·apply Rg;refine Ir ?_;apply Sr;apply Rt;(conv=>whnf);exact DLe.of_eq (congrArg (D.int .i64) (by rw [blkV,if_pos (of_decide_eq_true hc)]))
 apply Sk;apply Sr;apply Rt;(conv=>whnf);exact DLe.of_eq (congrArg (D.int .i64) (by rw [blkV,if_neg (of_decide_eq_false hc)]))
def encSpan (x:Int×Int):D:=.agg [Iv x.1,Iv x.2]
def bls (u:List Bool):List D:=u.map D.bool
def setR (u:List Bool) (a:Nat):Nat→List Bool
 | 0=>u
 | k+1=>(setR u a k).set (a+k) true
theorem setR_len (u:List Bool) (a:Nat):∀ k,(setR u a k).length=u.length
 | 0=>rfl
 | k+1=>by rw [setR,List.length_set,setR_len u a k]
def outS (S C st n:Int):Bool:=bif (bif (bif decide (st<S) then true else decide (n<1)) then true else decide (S+C<st)) then true else decide (S+C-st<n)
def markV (S C:Int) (u:List Bool) (st n:Int):List Bool:=if outS S C st n=true then u else setR u (st-S).toNat n.toNat
theorem markV_len (S C:Int) (u:List Bool) (st n:Int):(markV S C u st n).length=u.length:=by
 unfold markV
 split
 ·rfl
 exact setR_len _ _ _
theorem outS_no {S C st n:Int} (h:outS S C st n=false):S≤st∧1≤n∧st≤S+C∧n≤S+C-st:=by
 unfold outS at h
 cases h1:decide (st<S)<;>cases h2:decide (n<1)<;>cases h3:decide (S+C<st)<;>cases h4:decide (S+C-st<n)<;>rw [h1,h2,h3,h4] at h<;>first|(cases h; done)|(simp at h1 h2 h3 h4; omega)
theorem outS_iff {S C st n:Int}:outS S C st n=true↔st<S∨n<1∨S+C<st∨S+C-st<n:=by
 constructor
 ·intro h
  by_cases h1:st<S∨n<1∨S+C<st∨S+C-st<n
  ·exact h1
  exfalso
  unfold outS at h
  rw [decide_eq_false (fun e=>h1 (.inl e)),decide_eq_false (fun e=>h1 (.inr (.inl e))),decide_eq_false (fun e=>h1 (.inr (.inr (.inl e)))),decide_eq_false (fun e=>h1 (.inr (.inr (.inr e))))] at h
  cases h
 intro h
 cases hb:outS S C st n with
 | true=>rfl
 | false=>have:=outS_no hb; omega
def foldM (S C:Int) (u:List Bool) (l:List (Int×Int)):List Bool:=l.foldl (fun u x=>markV S C u x.1 x.2) u
theorem foldM_len (S C:Int):∀ (l:List (Int×Int)) (u:List Bool),(foldM S C u l).length=u.length
 | [],u=>rfl
 | x::l,u=>by rw [foldM,List.foldl_cons,← foldM,foldM_len S C l,markV_len]
theorem foldM_next (S C:Int) (u:List Bool) {l:List (Int×Int)} {i:Nat} (h:i<l.length):foldM S C u (l.take (i+1))=markV S C (foldM S C u (l.take i)) l[i].1 l[i].2:=by
 rw [foldM,List.take_succ_eq_append_getElem h,List.foldl_append]; rfl
theorem H34 (S C:Int) (hS:0≤S) (hS2:S≤4096) (hC:1≤C) (hC2:C≤4096) (l:List (Int×Int)) (hl:l.length<1000000) (u:List Bool) (hu:(u.length:Int)=C) (a:Option Addr) (n cap:Nat) (b5 b6:Nat):DCall Tryz.prog W0 34 [.sl .none 2 (l.map encSpan),.box 3005 b5 0,.box 3006 b6 0] (look [(3005,.box b5 [Iv S,Iv C]),(3006,.box b6 [.raw (.slice a n cap)]),(3007,.row (.slice a n cap) (bls u) 1 4)]) fun d H'=>d=.tup []∧H'=look [(3005,.box b5 [Iv S,Iv C]),(3006,.box b6 [.raw (.slice a n cap)]),(3007,.row (.slice a n cap) (bls (foldM S C u l)) 1 4)]:=by
 refine DCall.intro ti_ok Tryz.func34 rfl (by decide +kernel) Tryz.ntmps34 rfl fun Γ=>?_
 apply Sr;apply Bk
 refine Tri.loopK (α:={ i:Nat // i≤l.length }) (fun x=>[(1,.box 3005 b5 0),(2,.box 3006 b6 0),(7,.sl .none 2 (l.map encSpan)),(8,Iv (l.map encSpan).length),(9,Iv x.1)])
  (fun x=>[(3005,.box b5 [Iv S,Iv C]),(3006,.box b6 [.raw (.slice a n cap)]),(3007,.row (.slice a n cap) (bls (foldM S C u (l.take x.1))) 1 4)]) (fun x=>l.length-x.1) ⟨0,Nat.zero_le _⟩ [(3005,3005),(3006,3006),(3007,3007)]
  ⟨Z,rfl,Y⟩ ?_
 rintro ⟨i,hi⟩;dsimp only at hi ⊢
 have hU:=foldM_len S C (l.take i) u
 generalize hUe:foldM S C u (l.take i)=U at *;apply Sr;apply Sq;refine Cd (decide ((i:Int)<(l.map encSpan).length)) rfl (fun hc=>?_) (fun hc=>?_)
 ·apply Sk
  have hia:i<l.length:=by simpa using hc
  have hnx:=foldM_next S C u hia
  rw [hUe] at hnx
  have hget:(l.map encSpan)[i]? = some (encSpan l[i]):=by simp [hia]
  obtain ⟨st,ct⟩:Int×Int:=l[i];generalize hxe:l[i]=x at *;obtain ⟨st,ct⟩:=x;apply Sq;apply Bk;apply Sr;(conv=>whnf);refine Sp ?_;(conv=>whnf)
  refine ⟨encSpan (st,ct),fun _=>by rw [Int.toNat_natCast]; exact hget,?_⟩
  (conv=>whnf);intro b;apply Rl;apply Sq;apply Sr;apply Rl;apply Rl;apply Hh;apply Rl;apply Hh;refine Pk ?_;apply Hh;apply Rl;apply Hh;apply Rl;apply Hh;apply Rl;apply Hh;apply Hh;refine Ir ?_;apply Hh;apply Hh;refine Pk ?_;apply Hh;apply Rl;apply Hh;apply Rl;apply Hh;apply Rl;apply Hh;apply Hh;refine Ir ?_;apply Hh;apply Rl;apply Hh;apply Hh;(conv=>whnf)
  refine .inl ⟨fun h=>by simp only [InR]; revert h; cases h1:decide (st<S)<;>cases h2:decide (ct<1)<;>cases h3:decide (S+C<st)<;>simp<;>simp at h1 h2 h3<;>omega,?_⟩
  apply Hh;apply Hh;refine Pk ?_;refine Cd (outS S C st ct) rfl (fun hc=>?_) (fun hc=>?_)
  ·refine Tri.exit ?_;apply Rg;refine Ir ?_;(conv=>whnf)
   have hm:markV S C U st ct=U:=by rw [markV,if_pos hc]
   exact ⟨⟨i+1,hia⟩,[(3005,3005),(3006,3006),(3007,3007)],by show l.length-(i+1)<l.length-i; omega,Z,rfl,rfl,rfl,rfl,rfl,rfl,congrArg (fun z=>some (HObj.row (.slice a n cap) (bls z) 1 4)) (by rw [hnx]; exact hm.symm),trivial⟩
  apply Sk;obtain ⟨ho1,ho2,ho3,ho4⟩:=outS_no hc
  have hm:markV S C U st ct=setR U (st-S).toNat ct.toNat:=by rw [markV,if_neg (by rw [hc]; decide)]
  apply Sr;apply Rl;apply Bk
  refine Tri.loopK (α:={ k:Nat // (k:Int)≤ct }) (fun x=>[(1,.box 3005 b5 0),(2,.box 3006 b6 0),(7,.sl .none 2 (l.map encSpan)),(8,Iv (l.map encSpan).length),(9,Iv (i:Int)),(5,.box 5 b 0),(47,Iv ct),(48,Iv (x.1:Int))])
   (fun x=>[(3005,.box b5 [Iv S,Iv C]),(3006,.box b6 [.raw (.slice a n cap)]),(3007,.row (.slice a n cap) (bls (setR U (st-S).toNat x.1)) 1 4),(5,.box b [Iv st,Iv ct])]) (fun x=>ct.toNat-x.1) ⟨0,by omega⟩ [(3005,3005),(3006,3006),(3007,3007),(5,5)]
   ⟨Z,rfl,Y⟩ ?_
  rintro ⟨k,hk⟩;dsimp only at hk ⊢
  have hsl:=setR_len U (st-S).toNat k
  have hbl:(bls (setR U (st-S).toNat k)).length=u.length:=by rw [bls,List.length_map,hsl,hU]
  apply Sr;apply Sq;refine Cd (decide ((k:Int)<ct)) rfl (fun hc=>?_) (fun hc=>?_)
  ·apply Sk
   have hk2:(k:Int)<ct:=of_decide_eq_true hc
   apply Sq;apply Bk;apply Sr;(conv=>whnf);refine Tri.regionX ti_ok ?_;(conv=>whnf);refine .inl ⟨rfl,?_⟩;(conv=>whnf);refine .inl ⟨rfl,?_⟩;(conv=>whnf);refine .inl ⟨rfl,?_⟩;refine Ir ?_;refine Ir ?_;(conv=>whnf)
   refine .inr (XOp.rowIndex ti_ok 3007 rfl rfl rfl rfl rfl rfl rfl (by omega) (by rw [hbl]; omega) ?_)
   conv=>whnf
   have hix:(st-S+(k:Int)).toNat=(st-S).toNat+k:=by omega
   refine .inr (XOp.rowStore ti_ok 3007 (i:=(st-S).toNat+k) (by rw [hix]; rfl) rfl rfl rfl (by rw [hbl]; omega) rfl ?_)
   apply Rg;refine Ir ?_;(conv=>whnf)
   exact ⟨⟨k+1,by omega⟩,[(3005,3005),(3006,3006),(3007,3007),(5,5)],by show ct.toNat-(k+1)<ct.toNat-k; omega,Z,rfl,rfl,rfl,rfl,rfl,rfl,congrArg (fun z=>some (HObj.row (.slice a n cap) z 1 4)) (by show (bls _).set _ (.bool true)=_; rw [bls,bls,setR,List.map_set]),rfl,Y⟩
  refine Tri.exit ?_
  have hke:ct.toNat=k:=by have:=of_decide_eq_false hc; omega
  apply Rg;refine Ir ?_;(conv=>whnf)
  exact ⟨⟨i+1,hia⟩,[(3005,3005),(3006,3006),(3007,3007)],by show l.length-(i+1)<l.length-i; omega,Z,rfl,rfl,rfl,rfl,rfl,rfl,congrArg (fun z=>some (HObj.row (.slice a n cap) (bls z) 1 4)) (by rw [hnx]; show setR U (st-S).toNat k=markV S C U st ct; rw [hm,hke]),trivial⟩
 refine Tri.exit ?_
 have hin:i=l.length:=by simp at hc; omega
 have e:U=foldM S C u l:=by rw [← hUe,List.take_of_length_le (by omega)]
 rw [e];(conv=>whnf);exact ⟨.tup [],trivial,rfl,rfl⟩
def intsD (l:List Int):List D:=l.map (D.int .i64)
def outR (S C st n:Int):Bool:=bif (bif (bif decide (st<S) then true else decide (n<0)) then true else decide (C<n)) then true else decide (C-n<st-S)
theorem outR_no {S C st n:Int} (h:outR S C st n=false):S≤st∧0≤n∧n≤C∧st-S≤C-n:=by
 unfold outR at h
 cases h1:decide (st<S)<;>cases h2:decide (n<0)<;>cases h3:decide (C<n)<;>cases h4:decide (C-n<st-S)<;>rw [h1,h2,h3,h4] at h<;>first|(cases h; done)|(simp at h1 h2 h3 h4; omega)
theorem outR_yes {S C st n:Int} (h:outR S C st n=true):outS S C st n=true:=by
 rw [outS_iff]
 by_cases h1:st<S∨n<1∨S+C<st∨S+C-st<n
 ·exact h1
 exfalso
 unfold outR at h
 rw [decide_eq_false (show ¬ st<S by omega),decide_eq_false (show ¬ n<0 by omega),decide_eq_false (show ¬ C<n by omega),decide_eq_false (show ¬ C-n<st-S by omega)] at h
 cases h
theorem H46 (S C st ct:Int) (hS:0≤S) (hS2:S≤4096) (hC:1≤C) (hC2:C≤4096) (hst:st≤9223372036854775807) (u:List Bool) (hu:(u.length:Int)=C) (a:Option Addr) (n cap:Nat):DCall Tryz.prog W0 46 [.raw (.slice a n cap),encSpan (S,C),Iv st,Iv ct] (look [(3007,.row (.slice a n cap) (bls u) 1 4)]) fun d H'=>d=.tup []∧H'=look [(3007,.row (.slice a n cap) (bls (markV S C u st ct)) 1 4)]:=by
 refine DCall.intro ti_ok Tryz.func46 rfl (by decide +kernel) Tryz.ntmps46 rfl fun Γ=>?_
 apply Sr;(conv=>whnf);intro b5;apply Sq;apply Sr;apply Rl;apply Hh;refine Pk ?_;apply Hh;apply Rl;apply Hh;apply Hh;refine Pk ?_;apply Hh;apply Rl;apply Hh;apply Hh;(conv=>whnf)
 refine .inl ⟨fun h=>by simp only [InR]; revert h; cases h1:decide (st<S)<;>cases h2:decide (ct<0)<;>cases h3:decide (C<ct)<;>simp<;>simp at h1 h2 h3<;>omega,?_⟩
 apply Hh;apply Rl;apply Hh;apply Hh;(conv=>whnf)
 refine .inl ⟨fun h=>by simp only [InR]; revert h; cases h1:decide (st<S)<;>cases h2:decide (ct<0)<;>cases h3:decide (C<ct)<;>simp<;>simp at h1 h2 h3<;>omega,?_⟩
 apply Hh;apply Hh;refine Pk ?_;refine Cd (outR S C st ct) rfl (fun hc=>?_) (fun hc=>?_)
 ·have hm:markV S C u st ct=u:=by rw [markV,if_pos (outR_yes hc)]
  rw [hm];refine Tri.retK [] [(3007,.row (.slice a n cap) (bls u) 1 4)] [(3007,3007)] ⟨trivial,rfl,Y⟩ ?_;(conv=>whnf);exact ⟨.tup [],trivial,rfl,rfl⟩
 apply Sk;obtain ⟨ho1,ho2,ho3,ho4⟩:=outR_no hc
 have hm:markV S C u st ct=setR u (st-S).toNat ct.toNat:=by
  unfold markV
  split
  ·rename_i h
   rw [outS_iff] at h
   have:ct.toNat=0:=by omega
   rw [this]; rfl
  rfl
 apply Sr;apply Bk
 refine Tri.loopK (α:={ k:Nat // (k:Int)≤ct }) (fun x=>[(0,.raw (.slice a n cap)),(2,Iv st),(3,Iv ct),(5,.box 5 b5 0),(8,Iv (st+(x.1:Int)))])
  (fun x=>[(3007,.row (.slice a n cap) (bls (setR u (st-S).toNat x.1)) 1 4),(5,.box b5 [Iv S,Iv C])]) (fun x=>ct.toNat-x.1) ⟨0,by omega⟩ [(3007,3007),(5,5)]
  ⟨⟨.refl _,.refl _,.refl _,.refl _,intDLe (by simp),trivial⟩,rfl,Y⟩ ?_
 rintro ⟨k,hk⟩;dsimp only at hk ⊢
 have hsl:=setR_len u (st-S).toNat k
 have hbl:(bls (setR u (st-S).toNat k)).length=u.length:=by rw [bls,List.length_map,hsl]
 apply Sq;apply Sr;refine Ir ?_;refine Cd (decide (st+(k:Int)<st+ct)) rfl (fun hc=>?_) (fun hc=>?_)
 ·apply Sk
  have hk2:st+(k:Int)<st+ct:=of_decide_eq_true hc
  apply Sq;apply Bk;refine Tri.regionX ti_ok ?_;(conv=>whnf);refine .inl ⟨rfl,?_⟩;refine Ir ?_;(conv=>whnf)
  refine .inr (XOp.rowIndex ti_ok 3007 rfl rfl rfl rfl rfl rfl rfl (by omega) (by rw [hbl]; omega) ?_)
  conv=>whnf
  have hix:(st+(k:Int)-S).toNat=(st-S).toNat+k:=by omega
  refine .inr (XOp.rowStore ti_ok 3007 (i:=(st-S).toNat+k) (by rw [hix]; rfl) rfl rfl rfl (by rw [hbl]; omega) rfl ?_)
  apply Rg;refine Ir ?_;(conv=>whnf)
  exact ⟨⟨k+1,by omega⟩,[(3007,3007),(5,5)],by show ct.toNat-(k+1)<ct.toNat-k; omega,⟨.refl _,.refl _,.refl _,.refl _,intDLe (by show _=st+((k+1:Nat):Int); omega),trivial⟩,rfl,rfl,congrArg (fun z=>some (HObj.row (.slice a n cap) z 1 4)) (by show (bls _).set _ (.bool true)=_; rw [bls,bls,setR,List.map_set]),rfl,Y⟩
 have hke:ct.toNat=k:=by have:=of_decide_eq_false hc; omega
 rw [hm,hke];refine Tri.forgetK [] [(3007,.row (.slice a n cap) (bls (setR u (st-S).toNat k)) 1 4)] [(3007,3007)] ⟨trivial,rfl,Y⟩ ?_;refine Tri.exit ?_;(conv=>whnf);exact ⟨.tup [],trivial,rfl,rfl⟩
theorem H48 (n:Int) (h1:0≤n) (h2:n≤1000000000000):DFun Tryz.prog W0 48 [Iv n] (Iv (blkV n)):=by
 refine Fi Tryz.func48 rfl Tryz.ntmps48 fun Γ=>?_
 apply Sr;apply Sr;refine Ir ?_;refine Ir ?_;(conv=>whnf);refine ⟨fun _=>by decide,?_⟩;(conv=>whnf)
 have e1:(n+2048-1).tdiv 2048=(n+2048-1)/2048:=Int.tdiv_eq_ediv_of_nonneg (by omega)
 have e2:n.tdiv 2048=n/2048:=Int.tdiv_eq_ediv_of_nonneg h1
 have e3:n.tmod 2048=n%2048:=Int.tmod_eq_emod_of_nonneg h1
 refine .inl ⟨fun _=>by simp only [InR]; rw [e1]; omega,?_⟩
 apply Rt;(conv=>whnf)
 exact intDLe (by rw [blkV,e1,e2,e3]; split<;>omega)
def sessOk (S C:Int):Bool:=bif (bif (bif decide (0≤S) then decide (1≤C) else false) then decide (S≤4096) else false) then decide (C≤4096-S) else false
theorem sessOk_iff {S C:Int}:sessOk S C=true↔0≤S∧1≤C∧S≤4096∧C≤4096-S:=by
 unfold sessOk
 cases h1:decide (0≤S)<;>cases h2:decide (1≤C)<;>cases h3:decide (S≤4096)<;>cases h4:decide (C≤4096-S)<;>simp at h1 h2 h3 h4<;>simp<;>omega
theorem H112 (S C:Int):DFun Tryz.prog W0 112 [encSpan (S,C)] (.bool (sessOk S C)):=by
 refine Fi Tryz.func112 rfl Tryz.ntmps112 fun Γ=>?_
 apply Sr;(conv=>whnf);intro b1;apply Sr;apply Rl;apply Hh;apply Rl;apply Hh;refine Pk ?_;apply Hh;apply Rl;apply Hh;refine Pk ?_;apply Hh;apply Rl;apply Hh;apply Rl;apply Hh;(conv=>whnf)
 refine .inl ⟨fun h=>by simp only [InR]; revert h; cases h1:decide (0≤S)<;>cases h2:decide (1≤C)<;>cases h3:decide (S≤4096)<;>simp<;>simp at h1 h2 h3<;>omega,?_⟩
 apply Hh;apply Hh;refine Pk ?_;apply Rt;(conv=>whnf);exact .refl _
def anchK (S L k:Int):Bool:=bif k==S+256 then true else bif k==L-256 then true else k==L
def anchL (S L:Int) (i:Nat):List Int:=((List.range i).map fun (j:Nat)=>S+(j:Int)).filter (anchK S L)
def anchV (S C:Int):List Int:=if sessOk S C=true then anchL S (S+C-1) C.toNat else []
theorem anchL_next (S L:Int) (i:Nat):anchL S L (i+1)=anchL S L i++(if anchK S L (S+(i:Int))=true then [S+(i:Int)] else []):=by
 rw [anchL,List.range_succ,List.map_append,List.filter_append,← anchL,List.map_singleton,List.filter_cons]
 split<;>rfl
theorem anchL_len (S L:Int) (i:Nat):(anchL S L i).length≤i:=by
 have:=List.length_filter_le (anchK S L) ((List.range i).map fun (j:Nat)=>S+(j:Int))
 rw [List.length_map,List.length_range] at this;exact this
theorem H79 (S C:Int):DFun Tryz.prog W0 79 [encSpan (S,C),.bool false] (.sl .none 1 (intsD (anchV S C))):=by
 refine Fi Tryz.func79 rfl Tryz.ntmps79 fun Γ=>?_
 apply Sr;(conv=>whnf);intro b2;apply Sq;apply Sr;apply Rl;(conv=>whnf);refine ⟨[encSpan (S,C)],_,fun _=>H112 S C,Z,?_⟩;refine Cd (!sessOk S C) rfl (fun hc=>?_) (fun hc=>?_)
 ·apply Sr;apply Rt;(conv=>whnf)
  have h:¬ sessOk S C=true:=by simpa using hc
  rw [anchV,if_neg h];exact DLe.nil
 apply Sk
 have h:sessOk S C=true:=by simpa using hc
 obtain ⟨h1,h2,h3,h4⟩:=sessOk_iff.1 h;apply Sr;apply Rl;apply Rl;refine Ir ?_;refine Ir ?_;apply Sr;(conv=>whnf);refine ⟨trivial,?_⟩;apply Sq;apply Sr;apply Rl;(conv=>whnf);refine Tri.own 6 1000 1 3 rfl (fun w=>?_);apply Bk
 refine Tri.loopK (α:={ i:Nat // (i:Int)≤C }×Value) (fun x=>[(1,.bool false),(2,.box 2 b2 0),(5,Iv (S+C-1)),(6,.sl (.own 1000 x.2) 1 (intsD (anchL S (S+C-1) x.1.1))),(7,Iv (S+(x.1.1:Int)))])
  (fun x=>[(2,.box b2 [Iv S,Iv C]),(1000,.own x.2 (intsD (anchL S (S+C-1) x.1.1)).length 1 3)]) (fun x=>C.toNat-x.1.1) (⟨0,by omega⟩,w) [(2,2),(1000,1000)]
  ⟨⟨.refl _,.refl _,.refl _,.refl _,intDLe (by simp),trivial⟩,rfl,Y⟩ ?_
 rintro ⟨⟨i,hi⟩,w⟩;dsimp only at hi ⊢
 have hal:=anchL_len S (S+C-1) i
 have hnx:=anchL_next S (S+C-1) i
 generalize hAL:anchL S (S+C-1) i=AL at *
 have hel:(intsD AL).length=AL.length:=by simp [intsD]
 apply Sq;apply Sr;refine Cd (decide (S+(i:Int)≤S+C-1)) rfl (fun hc=>?_) (fun hc=>?_)
 ·apply Sk
  have hia:=of_decide_eq_true hc
  apply Sq;apply Bk;apply Sr;apply Rl;refine Ir ?_;apply Hh;apply Hh;apply Hh;refine Ir ?_;apply Hh;apply Hh;apply Hh;apply Hh;apply Hh;apply Hh;refine Pk ?_;apply Hh;refine Pk ?_;refine Pk ?_;refine Cd (anchK S (S+C-1) (S+(i:Int))) rfl (fun hc=>?_) (fun hc=>?_)
  ·apply Rg;(conv=>whnf);refine ⟨trivial,?_⟩;(conv=>whnf);refine ⟨rfl,rfl,?_⟩;(conv=>whnf)
   refine ⟨by show (_+1)*8≤_; omega,by show _+1≤_; omega,(fun h=>by cases h),fun w2=>?_⟩
   apply Rg;refine Ir ?_;(conv=>whnf);rw [if_pos hc] at hnx
   have he:intsD AL++[Iv (S+(i:Int))]=intsD (anchL S (S+C-1) (i+1)):=by rw [hnx]; simp [intsD]
   exact ⟨(⟨i+1,by omega⟩,w2),[(2,2),(1000,48)],by show C.toNat-(i+1)<C.toNat-i; omega,⟨.refl _,.refl _,.refl _,DLe.ownEq he,intDLe (by show _=S+((i+1:Nat):Int); omega),trivial⟩,rfl,rfl,rfl,rfl,ownH (by rw [← he]; simp),trivial⟩
  apply Sk;apply Rg;refine Ir ?_;(conv=>whnf)
  rw [if_neg (by rw [hc]; decide),List.append_nil] at hnx
  exact ⟨(⟨i+1,by omega⟩,w),[(2,2),(1000,1000)],by show C.toNat-(i+1)<C.toNat-i; omega,⟨.refl _,.refl _,.refl _,DLe.ownEq (by rw [hnx]),intDLe (by show _=S+((i+1:Nat):Int); omega),trivial⟩,rfl,rfl,rfl,rfl,ownH (by rw [hnx]),trivial⟩
 refine Tri.exit ?_
 have hin:i=C.toNat:=by have:=of_decide_eq_false hc; omega
 have e:AL=anchV S C:=by rw [anchV,if_pos h,← hAL,hin]
 apply Sr;apply Rt;(conv=>whnf)
 rw [e]; exact DLe.unown
def rsvV (m:MV) (S C:Int):List Int:=if hasV m.views 3=true then anchV S C else []
theorem H47 (m:MV) (S C:Int):DFun Tryz.prog W0 47 [encM m,encSpan (S,C)] (.sl .none 1 (intsD (rsvV m S C))):=by
 refine Fi Tryz.func47 rfl Tryz.ntmps47 fun Γ=>?_
 apply Sr;(conv=>whnf);intro b2;(conv=>whnf);intro b3;apply Sq;apply Sr;apply Rl;(conv=>whnf);refine ⟨[Iv m.views,Iv 3],_,fun _=>H42 m.views 3 (by decide),Z,?_⟩;refine Cd (!hasV m.views 3) rfl (fun hc=>?_) (fun hc=>?_)
 ·apply Sr;apply Rt;(conv=>whnf)
  rw [rsvV,if_neg (by simpa using hc)]; exact DLe.nil
 apply Sk;apply Sr;apply Rl;(conv=>whnf);refine ⟨[encSpan (S,C),.bool false],_,fun _=>H79 S C,Z,?_⟩;apply Rt;(conv=>whnf)
 rw [rsvV,if_pos (by simpa using hc)]; exact .refl _
def encSz (d i u:Int):D:=.agg [Iv d,Iv i,Iv u]
def firstV (m:MV) (d S:Int):Int:=if hasV m.views 3=true then S+66+2 else S+16+d
theorem H45 (m:MV) (d i u S:Int) (h1:0≤S) (h2:S≤4096) (h3:0≤d) (h4:d≤100):DFun Tryz.prog W0 45 [encM m,encSz d i u,Iv S] (Iv (firstV m d S)):=by
 refine Fi Tryz.func45 rfl Tryz.ntmps45 fun Γ=>?_
 apply Sr;(conv=>whnf);intro b3;(conv=>whnf);intro b4;apply Sq;apply Sr;apply Rl;(conv=>whnf);refine ⟨[Iv m.views,Iv 3],_,fun _=>H42 m.views 3 (by decide),Z,?_⟩;refine Cd (hasV m.views 3) rfl (fun hc=>?_) (fun hc=>?_)
 ·apply Sr;refine Ir ?_;refine Ir ?_;apply Rt;(conv=>whnf)
  rw [firstV,if_pos hc]; exact .refl _
 apply Sk;apply Sr;refine Ir ?_;apply Rl;refine Ir ?_;apply Rt;(conv=>whnf)
 rw [firstV,if_neg (by rw [hc]; decide)]; exact .refl _
end Go.Tame.V

namespace Go.Tame.V
open Go Go.Proofs
variable {W0:World}
theorem bif_or (a b:Bool):(bif a then true else b)=(a||b):=by cases a<;>rfl
theorem bif_and (a b:Bool):(bif a then b else false)=(a&&b):=by cases a<;>rfl
def firstNZ (f:Nat→Int):Nat→Nat→Int
 | _,0=>0
 | i,k+1=>if f i=0 then firstNZ f (i+1) k else f i
theorem nz_hit {f:Nat→Int} {i n:Nat} (h:i<n) (hf:f i≠0):firstNZ f i (n-i)=f i:=by
 obtain ⟨k,hk⟩:∃ k,n-i=k+1:=⟨n-i-1,by omega⟩;rw [hk,firstNZ,if_neg hf]
theorem nz_miss {f:Nat→Int} {i n:Nat} (h:i<n) (hf:f i=0):firstNZ f i (n-i)=firstNZ f (i+1) (n-(i+1)):=by
 obtain ⟨k,hk⟩:∃ k,n-i=k+1:=⟨n-i-1,by omega⟩;rw [hk,firstNZ,if_pos hf,show n-(i+1)=k by omega]
theorem nz_end {f:Nat→Int} {i n:Nat} (h:¬ i<n):firstNZ f i (n-i)=0:=by rw [show n-i=0 by omega]; rfl
def ruleD (n:NV) (l:Int):D:=.agg [.str n.name,Iv n.kind,.str n.text,.str n.target,Iv n.n1,Iv n.n2,Iv n.n3,Iv n.n4,Iv n.n5,Iv n.n6,.sl .none 12 (n.kids.map enc),.sl .none 2 (n.streams.map encS),Iv l]
def cKind (n:NV) (l:Int):Bool:=(decide (n.kind<0)||decide (2<n.kind))||(l==1&&!(n.kind==0))
def rKind (n:NV) (l:Int):Int:=if cKind n l then 1 else 0
theorem F78 (n:NV) (l:Int):DFun Tryz.prog W0 127 [ruleD n l] (Iv (rKind n l)):=by
 refine Fi Tryz.func127 rfl Tryz.ntmps127 fun Γ=>?_
 apply Sr;(conv=>whnf);intro b;apply Sq;apply Sr;apply Rl;apply Hh;apply Hh;apply Rl;apply Hh;refine Pk ?_;apply Hh;apply Rl;apply Hh;apply Hh;apply Hh;apply Hh;apply Rl;apply Hh;apply Hh;refine Pk ?_;refine Pk ?_
 refine Cd (cKind n l) (by simp only [cKind,← bif_or,← bif_and]; rfl) (fun hc=>?_) (fun hc=>?_)
 ·apply Sr;apply Rt;(conv=>whnf)
  exact intDLe (by rw [rKind,hc]; rfl)
 apply Sk;apply Sr;apply Rt;(conv=>whnf)
 exact intDLe (by rw [rKind,hc]; rfl)
def cName (n:NV) (l:Int):Bool:=(l==1&&!(n.name==[]))||(decide (1<l)&&!nameOk n.name)
def rName (n:NV) (l:Int):Int:=if cName n l then 4 else 0
theorem F79 (hL:LibOk W0) (n:NV) (l:Int) (hn:n.name.length<1000000000):DFun Tryz.prog W0 128 [ruleD n l] (Iv (rName n l)):=by
 refine Fi Tryz.func128 rfl Tryz.ntmps128 fun Γ=>?_
 apply Sr;(conv=>whnf);intro b;apply Sq;apply Sr;apply Rl;apply Hh;apply Hh;apply Rl;apply Hh;refine Pk ?_;apply Hh;apply Rl;apply Hh;apply Hh;apply Hh;apply Hh;apply Rl;apply Hh;(conv=>whnf);refine ⟨[.str n.name],_,fun h=>F100 hL _ hn,Z,?_⟩;apply Hh;apply Hh;refine Pk ?_;refine Pk ?_
 refine Cd (cName n l) (by simp only [cName,← bif_or,← bif_and]; rfl) (fun hc=>?_) (fun hc=>?_)
 ·apply Sr;apply Rt;(conv=>whnf)
  exact intDLe (by rw [rName,hc]; rfl)
 apply Sk;apply Sr;apply Rt;(conv=>whnf)
 exact intDLe (by rw [rName,hc]; rfl)
def cParts (n:NV):Bool:=((!(n.kind==1)&&(!(n.text==[])||decide (0<(n.streams.length:Int))))||(!(n.kind==2)&&!(n.target==[])))||(!(n.kind==0)&&decide (0<(n.kids.length:Int)))
def rParts (n:NV):Int:=if cParts n then 1 else 0
theorem F80 (n:NV) (l:Int):DFun Tryz.prog W0 129 [ruleD n l] (Iv (rParts n)):=by
 refine Fi Tryz.func129 rfl Tryz.ntmps129 fun Γ=>?_
 apply Sr;(conv=>whnf);intro b;apply Sr;apply Rl;(conv=>whnf);intro b2;apply Rl;apply Sq;apply Sr;apply Rl;apply Hh;apply Rl;apply Hh;apply Hh;apply Hh;apply Rl;apply Hh;apply Hh;apply Hh;refine Pk ?_;refine Pk ?_;apply Hh;apply Rl;apply Hh;apply Hh;apply Hh;apply Rl;apply Hh;apply Hh;refine Pk ?_;refine Pk ?_;apply Hh;apply Rl;apply Hh;apply Hh;apply Hh;apply Rl;apply Hh;apply Hh;apply Hh;refine Pk ?_;refine Pk ?_;refine Cd (cParts n) ?_ (fun hc=>?_) (fun hc=>?_)
 ·simp only [cParts,← bif_or,← bif_and]
  rw [show n.streams.length=(n.streams.map encS).length by simp,show n.kids.length=(n.kids.map enc).length by simp]; rfl
 ·apply Sr;apply Rt;(conv=>whnf)
  exact intDLe (by rw [rParts,hc]; rfl)
 apply Sk;apply Sr;apply Rt;(conv=>whnf)
 exact intDLe (by rw [rParts,hc]; rfl)
def cTarget (n:NV):Bool:=n.kind==2&&!targetOk n.target
def rTarget (n:NV):Int:=if cTarget n then 4 else 0
theorem F81 (hL:LibOk W0) (n:NV) (l:Int) (hn:n.target.length<1000000000):DFun Tryz.prog W0 130 [ruleD n l] (Iv (rTarget n)):=by
 refine Fi Tryz.func130 rfl Tryz.ntmps130 fun Γ=>?_
 apply Sr;(conv=>whnf);intro b;apply Sq;apply Sr;apply Rl;apply Hh;apply Hh;apply Rl;apply Hh;(conv=>whnf);refine ⟨[.str n.target],_,fun h=>F101 hL _ hn,Z,?_⟩;apply Hh;refine Pk ?_
 refine Cd (cTarget n) (by simp only [cTarget,← bif_or,← bif_and]; rfl) (fun hc=>?_) (fun hc=>?_)
 ·apply Sr;apply Rt;(conv=>whnf)
  exact intDLe (by rw [rTarget,hc]; rfl)
 apply Sk;apply Sr;apply Rt;(conv=>whnf)
 exact intDLe (by rw [rTarget,hc]; rfl)
def within (n a b:Int):Bool:=decide (a≤n)&&decide (n≤b)
theorem F102 (n a b:Int):DFun Tryz.prog W0 195 [Iv n,Iv a,Iv b] (.bool (within n a b)):=by
 refine Fi Tryz.func195 rfl Tryz.ntmps195 fun Γ=>?_
 apply Sr;apply Sr;apply Hh;apply Hh;refine Pk ?_;apply Rt;(conv=>whnf);exact DLe.of_eq (congrArg D.bool (bif_and _ _))
def cNumbers (n:NV):Bool:=((((!within n.n1 0 4095||!within n.n2 0 65535)||!within n.n3 0 65535)||!within n.n4 315532800 4102444799)||!within n.n5 (-1048576) 1048576)||!within n.n6 0 15
def rNumbers (n:NV):Int:=if cNumbers n then 2 else 0
theorem F82 (n:NV) (l:Int):DFun Tryz.prog W0 131 [ruleD n l] (Iv (rNumbers n)):=by
 refine Fi Tryz.func131 rfl Tryz.ntmps131 fun Γ=>?_
 apply Sr;(conv=>whnf);intro b;apply Sr;apply Rl;(conv=>whnf);intro b2;apply Rl;apply Sr;apply Sq;apply Sr;apply Rl;(conv=>whnf);refine ⟨[Iv n.n1,Iv 0,Iv 4095],_,fun h=>F102 _ _ _,Z,?_⟩;apply Hh;apply Rl;apply Hh;apply Hh;(conv=>whnf);refine ⟨[Iv n.n2,Iv 0,Iv 65535],_,fun h=>F102 _ _ _,Z,?_⟩;apply Hh;refine Pk ?_;apply Hh;apply Rl;apply Hh;apply Hh;(conv=>whnf);refine ⟨[Iv n.n3,Iv 0,Iv 65535],_,fun h=>F102 _ _ _,Z,?_⟩;apply Hh;refine Pk ?_;apply Hh;apply Rl;apply Hh;apply Hh;(conv=>whnf);refine ⟨[Iv n.n4,Iv 315532800,Iv 4102444799],_,fun h=>F102 _ _ _,Z,?_⟩;apply Hh;refine Pk ?_;apply Hh;apply Rl;apply Hh;apply Hh;(conv=>whnf);refine ⟨[Iv n.n5,Iv (-1048576),Iv 1048576],_,fun h=>F102 _ _ _,Z,?_⟩;apply Hh;refine Pk ?_;apply Hh;apply Rl;apply Hh;apply Hh;(conv=>whnf);refine ⟨[Iv n.n6,Iv 0,Iv 15],_,fun h=>F102 _ _ _,Z,?_⟩;apply Hh;refine Pk ?_
 refine Cd (cNumbers n) (by simp only [cNumbers,← bif_or]; rfl) (fun hc=>?_) (fun hc=>?_)
 ·apply Sr;apply Rt;(conv=>whnf)
  exact intDLe (by rw [rNumbers,hc]; rfl)
 apply Sk;apply Sr;apply Rt;(conv=>whnf)
 exact intDLe (by rw [rNumbers,hc]; rfl)
theorem cmp_zero:∀ a b:List UInt8,Lib.compareBytes a b=0↔a=b
 | [],[]=>by simp [Lib.compareBytes]
 | [],_::_=>by simp [Lib.compareBytes]
 | _::_,[]=>by simp [Lib.compareBytes]
 | a::xs,b::bs=>by
  have ih:=cmp_zero xs bs
  simp only [Lib.compareBytes,List.cons.injEq]
  by_cases h1:a<b
  ·rw [if_pos h1]
   exact ⟨fun h=>by simp at h,fun h=>by rw [h.1] at h1; exact absurd h1 (UInt8.lt_irrefl _)⟩
  rw [if_neg h1]
  by_cases h2:b<a
  ·rw [if_pos h2]
   exact ⟨fun h=>by simp at h,fun h=>by rw [h.1] at h2; exact absurd h2 (UInt8.lt_irrefl _)⟩
  rw [if_neg h2,ih]
  have:a=b:=UInt8.le_antisymm (UInt8.not_lt.1 h2) (UInt8.not_lt.1 h1)
  simp [this]
theorem cmp_one:∀ a b:List UInt8,Lib.compareBytes a b=1↔Op.bytesLess b a=true
 | [],[]=>by simp [Lib.compareBytes,Op.bytesLess]
 | [],_::_=>by simp [Lib.compareBytes,Op.bytesLess]
 | _::_,[]=>by simp [Lib.compareBytes,Op.bytesLess]
 | a::xs,b::bs=>by
  have ih:=cmp_one xs bs
  simp only [Lib.compareBytes,Op.bytesLess,Bool.or_eq_true,Bool.and_eq_true,decide_eq_true_eq,beq_iff_eq]
  by_cases h1:a<b
  ·rw [if_pos h1];refine ⟨fun h=>by simp at h,fun h=>?_⟩
   rcases h with h|⟨h,_⟩
   ·exact absurd (UInt8.lt_trans h h1) (UInt8.lt_irrefl _)
   rw [h] at h1; exact absurd h1 (UInt8.lt_irrefl _)
  rw [if_neg h1]
  by_cases h2:b<a
  ·rw [if_pos h2]; simp [h2]
  rw [if_neg h2,ih]
  have:b=a:=UInt8.le_antisymm (UInt8.not_lt.1 h1) (UInt8.not_lt.1 h2)
  simp [this,UInt8.lt_irrefl]
theorem cmp_range:∀ a b:List UInt8,Lib.compareBytes a b=-1∨Lib.compareBytes a b=0∨Lib.compareBytes a b=1
 | [],[]=>by simp [Lib.compareBytes]
 | [],_::_=>by simp [Lib.compareBytes]
 | _::_,[]=>by simp [Lib.compareBytes]
 | a::xs,b::bs=>by
  have ih:=cmp_range xs bs
  simp only [Lib.compareBytes]
  split
  ·simp
  split
  ·simp
  exact ih
def ordE (a b:List UInt8):Int:=if a=b then 5 else if Op.bytesLess b a then 1 else 0
theorem F103 (a b:List UInt8):DFun Tryz.prog W0 196 [.str a,.str b] (Iv (ordE a b)):=by
 refine Fi Tryz.func196 rfl Tryz.ntmps196 fun Γ=>?_
 apply Sr;apply Sq;apply Sr;(conv=>whnf);refine ⟨_,_,fun _=>F110 a b,Z,?_⟩;apply Bk;apply Sr;refine Cd _ rfl (fun hc=>?_) (fun hc=>?_)
 ·apply Sr;apply Rt;(conv=>whnf);exact intDLe (by rw [ordE,if_pos ((cmp_zero a b).1 (by simpa using hc))])
 apply Sq
 have h0:a≠b:=fun e=>by have:=(cmp_zero a b).2 e; rw [this] at hc; simp at hc
 apply Rg;refine Cd _ rfl (fun hc=>?_) (fun hc=>?_)
 ·apply Sr;apply Rt;(conv=>whnf);exact intDLe (by rw [ordE,if_neg h0,if_pos ((cmp_one a b).1 (by simpa using hc))])
 apply Sk;apply Sr;apply Rt;(conv=>whnf)
 exact intDLe (by rw [ordE,if_neg h0,if_neg]; intro e; have:=(cmp_one a b).2 e; rw [this] at hc; simp at hc)
def stAt (n:NV) (i:Nat):SV:=n.streams.getD i default
def kAt (n:NV) (i:Nat):NV:=n.kids.getD i default
theorem get_st (n:NV) {i:Nat} (h:i<n.streams.length):(n.streams.map encS)[i]? = some (encS (stAt n i)):=by simp [stAt,List.getD,h]
theorem get_kk (n:NV) {i:Nat} (h:i<n.kids.length):(n.kids.map enc)[i]? = some (encTop (kAt n i)):=by rw [← enc_eq]; simp [kAt,List.getD,h]
theorem pred_toNat {i:Nat} (h:0<i):((i:Int)-1).toNat=i-1:=by omega
theorem st_sz (n:NV) {i:Nat} (h:i<n.streams.length):(stAt n i).name.length+(stAt n i).target.length+2≤sz n:=by
 have h1:=szS_get h
 have h2:=sz_eq n
 have:stAt n i=n.streams[i]:=by simp [stAt,List.getD,h]
 rw [this]; omega
theorem streams_len (n:NV):2*n.streams.length+2≤sz n:=by have:=szS_len n.streams; have:=sz_eq n; omega
def cSizes (n:NV) (l:Int):Bool:=((decide (16<l)||decide (262144<(n.text.length:Int)))||decide (64<(n.kids.length:Int)))||decide (4<(n.streams.length:Int))
def fZ (n:NV) (i:Nat):Int:=if decide (262144<((stAt n i).target.length:Int)) then 7 else 0
def rSizes (n:NV) (l:Int):Int:=if cSizes n l then 7 else firstNZ (fZ n) 0 n.streams.length
theorem F83 (n:NV) (l:Int) (hz:sz n<1000000000):DFun Tryz.prog W0 132 [ruleD n l] (Iv (rSizes n l)):=by
 refine Fi Tryz.func132 rfl Tryz.ntmps132 fun Γ=>?_
 apply Sr;(conv=>whnf);intro b;apply Sr;apply Rl;(conv=>whnf);intro b2;apply Rl;apply Sq;apply Sr;apply Rl;apply Hh;apply Rl;apply Hh;apply Hh;refine Pk ?_;apply Hh;apply Rl;apply Hh;apply Hh;refine Pk ?_;apply Hh;apply Rl;apply Hh;apply Hh;refine Pk ?_;refine Cd (cSizes n l) ?_ (fun hc=>?_) (fun hc=>?_)
 ·simp only [cSizes,← bif_or,← bif_and]
  rw [show n.streams.length=(n.streams.map encS).length by simp,show n.kids.length=(n.kids.map enc).length by simp]; rfl
 ·apply Sr;apply Rt;(conv=>whnf)
  exact intDLe (by rw [rSizes,hc]; rfl)
 apply Sk
 have hR:rSizes n l=firstNZ (fZ n) 0 (n.streams.length-0):=by rw [rSizes,hc]; rfl
 have hsl:=streams_len n
 apply Sq;apply Sr;apply Rl;apply Bk;refine Tri.loop (α:={ i:Nat // i≤n.streams.length∧rSizes n l=firstNZ (fZ n) i (n.streams.length-i) }) (fun x=>[(30,.sl .none 2 (n.streams.map encS)),(31,Iv (n.streams.map encS).length),(32,Iv x.1)]) (fun _=>[]) (fun x=>n.streams.length-x.1) ⟨0,by omega,hR⟩ Z trivial ?_;rintro ⟨i,hi,hp⟩;dsimp only;apply Sr;apply Sq;refine Cd _ rfl (fun hc=>?_) (fun hc=>?_)
 ·apply Sk;(conv=>whnf)
  have hia:i<n.streams.length:=by simpa using hc
  apply Sq;apply Bk;apply Sr;(conv=>whnf);refine Sp ?_;(conv=>whnf);refine ⟨encS (stAt n i),fun _=>get_st n hia,?_⟩;(conv=>whnf);intro b3;apply Rl;apply Sr;apply Rl;refine Cd _ rfl (fun hc=>?_) (fun hc=>?_)
  ·apply Sr;apply Rt;(conv=>whnf)
   have hf:fZ n i=7:=by rw [fZ,if_pos hc]
   exact intDLe (by rw [hp,nz_hit hia (by rw [hf]; decide),hf])
  apply Sk;apply Rg;refine Ir ?_;(conv=>whnf)
  exact ⟨⟨i+1,by omega,by rw [hp,nz_miss hia (by rw [fZ,hc]; rfl)]⟩,by show _-(i+1)<_-i; omega,Z,trivial⟩
 refine Tri.exit ?_;apply Sr;apply Rt;(conv=>whnf);exact intDLe (by rw [hp,nz_end (by simpa using hc)])
def fS (n:NV) (i:Nat):Int:=if nameOk (stAt n i).name then (if 0<i then ordE (stAt n (i-1)).name (stAt n i).name else 0) else 4
def rStreams (n:NV):Int:=firstNZ (fS n) 0 n.streams.length
theorem F84 (hL:LibOk W0) (n:NV) (l:Int) (hz:sz n<1000000000):DFun Tryz.prog W0 133 [ruleD n l] (Iv (rStreams n)):=by
 refine Fi Tryz.func133 rfl Tryz.ntmps133 fun Γ=>?_
 apply Sr;(conv=>whnf);intro b;apply Sq;apply Sr;apply Rl;(conv=>whnf)
 have hsl:=streams_len n
 apply Bk
 refine Tri.loop (α:={ i:Nat // i≤n.streams.length∧rStreams n=firstNZ (fS n) i (n.streams.length-i) }) (fun x=>[(1,.box 1 b 0),(8,.sl .none 2 (n.streams.map encS)),(9,Iv (n.streams.map encS).length),(10,Iv x.1)])
  (fun _=>[(1,.box b [.str n.name,Iv n.kind,.str n.text,.str n.target,Iv n.n1,Iv n.n2,Iv n.n3,Iv n.n4,Iv n.n5,Iv n.n6,.sl .none 12 (n.kids.map enc),.sl .none 2 (n.streams.map encS),Iv l])]) (fun x=>n.streams.length-x.1) ⟨0,by omega,rfl⟩ Z ⟨rfl,trivial⟩ ?_
 rintro ⟨i,hi,hp⟩;dsimp only;apply Sr;apply Sq;refine Cd _ rfl (fun hc=>?_) (fun hc=>?_)
 ·apply Sk;(conv=>whnf)
  have hia:i<n.streams.length:=by simpa using hc
  have hss:=st_sz n hia
  apply Sq;apply Bk;apply Sr;(conv=>whnf);refine Sp ?_;(conv=>whnf);refine ⟨encS (stAt n i),fun _=>get_st n hia,?_⟩;(conv=>whnf);intro b3;apply Rl;apply Sq;apply Sr;apply Rl;(conv=>whnf);refine ⟨[.str (stAt n i).name],_,fun _=>F100 hL _ (by omega),Z,?_⟩;refine Cd _ rfl (fun hc=>?_) (fun hc=>?_)
  ·apply Sr;apply Rt;(conv=>whnf)
   have hf:fS n i=4:=by rw [fS,if_neg (by simpa using hc)]
   exact intDLe (by rw [hp,nz_hit hia (by rw [hf]; decide),hf])
  apply Sk
  have hok:nameOk (stAt n i).name=true:=by simpa using hc
  apply Sr;refine Cd _ rfl (fun hc=>?_) (fun hc=>?_)
  ·apply Sq
   have hi0:0<i:=by simpa using hc
   have hf:fS n i=ordE (stAt n (i-1)).name (stAt n i).name:=by rw [fS,if_pos hok,if_pos hi0]
   refine Tri.draw ti_ok mixed (by kernel_rfl) ?_;apply Rl;refine Ir ?_;(conv=>whnf);refine Sp ?_;(conv=>whnf)
   refine ⟨encS (stAt n (i-1)),fun _=>by rw [pred_toNat hi0]; exact get_st n (by omega),?_⟩
   apply Rl;(conv=>whnf);refine ⟨[.str (stAt n (i-1)).name,.str (stAt n i).name],_,fun _=>F103 _ _,Z,?_⟩;apply Sr;refine Cd _ rfl (fun hc=>?_) (fun hc=>?_)
   ·apply Sr;apply Rt;(conv=>whnf)
    exact intDLe (by rw [hp,nz_hit hia (by rw [hf]; simpa using hc),hf])
   apply Sk;apply Rg;refine Ir ?_;(conv=>whnf)
   exact ⟨⟨i+1,by omega,by rw [hp,nz_miss hia (by rw [hf]; simpa using hc)]⟩,by show _-(i+1)<_-i; omega,Z,⟨rfl,trivial⟩⟩
  apply Sk;apply Rg;refine Ir ?_;(conv=>whnf)
  have hf:fS n i=0:=by rw [fS,if_pos hok,if_neg (by simpa using hc)]
  exact ⟨⟨i+1,by omega,by rw [hp,nz_miss hia hf]⟩,by show _-(i+1)<_-i; omega,Z,⟨rfl,trivial⟩⟩
 refine Tri.exit ?_;apply Sr;apply Rt;(conv=>whnf);exact intDLe (by rw [hp,nz_end (by simpa using hc)])
def fK (n:NV) (i:Nat):Int:=ordE (kAt n (i-1)).name (kAt n i).name
def rKids (n:NV):Int:=firstNZ (fK n) 1 (n.kids.length-1)
theorem F85 (n:NV) (l:Int) (hz:sz n<1000000000):DFun Tryz.prog W0 134 [ruleD n l] (Iv (rKids n)):=by
 refine Fi Tryz.func134 rfl Tryz.ntmps134 fun Γ=>?_
 apply Sr;(conv=>whnf);intro b;apply Sq;apply Sr;(conv=>whnf)
 have hsl:=kids_len n
 apply Bk
 refine Tri.loop (α:={ i:Nat // 1≤i∧i≤n.kids.length+1∧rKids n=firstNZ (fK n) i (n.kids.length-i) }) (fun x=>[(1,.box 1 b 0),(3,Iv x.1)])
  (fun _=>[(1,.box b [.str n.name,Iv n.kind,.str n.text,.str n.target,Iv n.n1,Iv n.n2,Iv n.n3,Iv n.n4,Iv n.n5,Iv n.n6,.sl .none 12 (n.kids.map enc),.sl .none 2 (n.streams.map encS),Iv l])]) (fun x=>n.kids.length+1-x.1) ⟨1,by omega,by omega,rfl⟩ Z ⟨rfl,trivial⟩ ?_
 rintro ⟨i,hi1,hi,hp⟩;dsimp only;apply Sq;apply Sr;apply Rl;refine Cd _ rfl (fun hc=>?_) (fun hc=>?_)
 ·apply Sk;(conv=>whnf)
  have hia:i<n.kids.length:=by simpa using hc
  apply Sq;apply Bk;apply Sq;refine Tri.draw ti_ok mixed (by kernel_rfl) ?_;apply Rl;refine Ir ?_;(conv=>whnf);refine Sp ?_;(conv=>whnf)
  refine ⟨encTop (kAt n (i-1)),fun _=>by rw [pred_toNat (by omega)]; exact get_kk n (by omega),?_⟩
  apply Rl;(conv=>whnf);refine Sp ?_;(conv=>whnf);refine ⟨encTop (kAt n i),fun _=>get_kk n hia,?_⟩;(conv=>whnf);refine ⟨[.str (kAt n (i-1)).name,.str (kAt n i).name],_,fun _=>F103 _ _,Z,?_⟩;apply Sr;refine Cd _ rfl (fun hc=>?_) (fun hc=>?_)
  ·apply Sr;apply Rt;(conv=>whnf)
   exact intDLe (by rw [hp,nz_hit hia (by rw [fK]; simpa using hc),fK])
  apply Sk;apply Rg;refine Ir ?_;(conv=>whnf)
  exact ⟨⟨i+1,by omega,by omega,by rw [hp,nz_miss hia (by rw [fK]; simpa using hc)]⟩,by show _+1-(i+1)<_+1-i; omega,Z,⟨rfl,trivial⟩⟩
 refine Tri.exit ?_;apply Sr;apply Rt;(conv=>whnf);exact intDLe (by rw [hp,nz_end (by simpa using hc)])
def ruleI (n:NV) (l:Int):Nat→Int
 | 0=>rKind n l
 | 1=>rName n l
 | 2=>rParts n
 | 3=>rTarget n
 | 4=>rNumbers n
 | 5=>rSizes n l
 | 6=>rStreams n
 | _=>rKids n
def one (n:NV) (l:Int):Int:=firstNZ (ruleI n l) 0 8
theorem rule_ok (hL:LibOk W0) (n:NV) (l:Int) (hz:sz n+n.name.length<1000000000) {i:Nat} (hi:i<8):DFun Tryz.prog W0 (127+i) [ruleD n l] (Iv (ruleI n l i)):=by
 have ht:=sz_eq n
 match i,hi with
 | 0,_=>exact F78 n l
 | 1,_=>exact F79 hL n l (by omega)
 | 2,_=>exact F80 n l
 | 3,_=>exact F81 hL n l (by omega)
 | 4,_=>exact F82 n l
 | 5,_=>exact F83 n l (by omega)
 | 6,_=>exact F84 hL n l (by omega)
 | 7,_=>exact F85 n l (by omega)
def fnsD (n:NV) (l:Int):List D:=(List.range 8).map fun i=>.fn (.func (127+i)) [ruleD n l] []
theorem fnsD_get (n:NV) (l:Int) {i:Nat} (hi:i<8):(fnsD n l)[i]? = some (.fn (.func (127+i)) [ruleD n l] []):=by simp [fnsD,hi]
def chkA (be bp:Nat):WS (Int×List UInt8):=⟨fun s=>.box be [Iv s.1],fun s=>.box bp [.str s.2]⟩
def checkF (n:NV) (p:List UInt8) (l:Int) (s:Int×List UInt8):Bool×(Int×List UInt8):=if one n l=0 then (true,(0,s.2)) else (false,(one n l,p))
theorem F77 (hL:LibOk W0) (be bp:Nat) (n:NV) (p:List UInt8) (l:Int) (s:Int×List UInt8) (hz:sz n+n.name.length<1000000000):DCall Tryz.prog W0 126 ([encTop n,.str p,Iv l]++[.box 2000 be 0,.box 2001 bp 0]) ((chkA be bp).H s) fun d H'=>d=.bool (checkF n p l s).1∧H'=(chkA be bp).H (checkF n p l s).2:=by
 refine DCall.intro ti_ok Tryz.func126 rfl (by decide +kernel) Tryz.ntmps126 rfl fun Γ=>?_
 apply Sr;(conv=>whnf);intro b;apply Sr;apply Rl;(conv=>whnf);intro b2;apply Rl;apply Sq;apply Sr;apply Rl;apply Rl;apply Rl;apply Rl;apply Rl;apply Rl;apply Rl;apply Rl;(conv=>whnf);refine ⟨trivial,?_⟩;apply Bk
 refine Tri.loop (α:={ x:Nat×Int // x.1≤8∧(0<x.1→x.2=0)∧one n l=firstNZ (ruleI n l) x.1 (8-x.1) })
  (fun x=>[(1,.str p),(3,.box 2000 be 0),(4,.box 2001 bp 0),(31,.sl .full 1 (fnsD n l)),(32,Iv (fnsD n l).length),(33,Iv x.1.1)]) (fun x=>[(2000,.box be [Iv x.1.2]),(2001,.box bp [.str s.2])]) (fun x=>8-x.1.1)
  ⟨(0,s.1),by omega,by simp,rfl⟩ Z ⟨rfl,Y⟩ ?_
 rintro ⟨⟨i,e⟩,hi,he,hp⟩;dsimp only at hi he hp ⊢;apply Sr;apply Sq;refine Cd _ rfl (fun hc=>?_) (fun hc=>?_)
 ·apply Sk;(conv=>whnf)
  have hia:i<8:=by simp [fnsD] at hc; omega
  apply Sq;apply Bk;apply Sr;(conv=>whnf)
  refine ⟨fun _=>by simp [fnsD]; omega,?_⟩
  (conv=>whnf);refine ⟨.fn (.func (127+i)) [ruleD n l] [],fun _=>fnsD_get n l hia,?_⟩;apply Sr;(conv=>whnf);refine ⟨[ruleD n l],_,fun _=>rule_ok hL n l hz hia,Z,?_⟩;apply Rl;apply Sr;apply Rl;refine Cd _ rfl (fun hc=>?_) (fun hc=>?_)
  ·apply Sr;apply Rl;apply Sr;(conv=>whnf)
   have hne:ruleI n l i≠0:=by simpa using hc
   have h1:one n l=ruleI n l i:=by rw [hp,nz_hit hia hne]
   have hF:checkF n p l s=(false,(ruleI n l i,p)):=by rw [checkF,if_neg (by rw [h1]; exact hne),h1]
   refine Tri.retK [(8,.bool false)] [(2000,.box be [Iv (ruleI n l i)]),(2001,.box bp [.str p])] [(2000,2000),(2001,2001)] ⟨Z,rfl,Y⟩ ?_;(conv=>whnf)
   exact ⟨_,.refl _,by rw [hF]; rfl,by rw [hF]; rfl⟩
  apply Sk;apply Rg;refine Ir ?_;(conv=>whnf)
  have h0:ruleI n l i=0:=by simpa using hc
  exact ⟨⟨(i+1,0),by omega,fun _=>rfl,by rw [hp,nz_miss hia h0]⟩,by show 8-(i+1)<8-i; omega,Z,⟨congrArg (fun z=>some (HObj.box be [Iv z])) h0,rfl,trivial⟩⟩
 refine Tri.exit ?_;apply Sr;(conv=>whnf)
 have h8:¬ i<8:=by simp [fnsD] at hc; omega
 have h1:one n l=0:=by rw [hp,nz_end h8]
 have he0:e=0:=he (by omega)
 subst he0
 have hF:checkF n p l s=(true,(0,s.2)):=by rw [checkF,if_pos h1]
 refine Tri.retK [(8,.bool true)] [(2000,.box be [Iv 0]),(2001,.box bp [.str s.2])] [(2000,2000),(2001,2001)] ⟨Z,rfl,Y⟩ ?_;(conv=>whnf)
 exact ⟨_,.refl _,by rw [hF]; rfl,by rw [hF]; rfl⟩
def check (n:NV):List UInt8×Int:=if (256:Int)<cnt n then ([],7) else ((walk checkF n [] 1 (0,[])).2.2,(walk checkF n [] 1 (0,[])).2.1)
theorem F59 (hL:LibOk W0) (n:NV) (hz:sz n+n.name.length<10000000):DFun Tryz.prog W0 82 [encTop n] (.tup [.str (check n).1,Iv (check n).2]):=by
 refine Fi Tryz.func82 rfl Tryz.ntmps82 fun Γ=>?_
 apply Sr;(conv=>whnf);intro b;apply Sq;apply Sr;apply Rl;(conv=>whnf);refine ⟨[encTop n],_,fun _=>F75 n hz,Z,?_⟩;refine Cd _ rfl (fun hc=>?_) (fun hc=>?_)
 ·apply Sr;apply Rt;(conv=>whnf)
  exact ⟨DLe.of_eq (by rw [check,if_pos (by simpa using hc)]; rfl),intDLe (by rw [check,if_pos (by simpa using hc)]),trivial⟩
 apply Sk;apply Sr;(conv=>whnf);intro bp;(conv=>whnf);intro be;apply Rl;apply Rl;apply Sq;refine Tri.regionX ti_ok ?_;apply Il;apply Rl;(conv=>whnf)
 refine .inr (XOp.call rfl [encTop n,.str [],Iv 1,.fn (.func 126) [] [.box 2000 be 0,.box 2001 bp 0]] [(2000,5),(2001,4)]
  (F76 (chkA be bp) checkF 126 [.box 2000 be 0,.box 2001 bp 0] (fun n p l s hb hl=>F77 hL be bp n p l s (by omega)) _ n [] 1 (0,[]) (Nat.lt_succ_self _) (by simp; omega) (by omega)) rfl ⟨.refl _,.refl _,.refl _,DLe.fn trivial ⟨DLe.box,DLe.box,trivial⟩,trivial⟩ ?_)
 rintro d H' ⟨rfl,rfl⟩;refine ⟨_,.refl _,?_⟩;apply Sq;refine Tri.draw ti_ok mixed (by kernel_rfl) ?_;apply Rl;apply Rl;apply Rt;(conv=>whnf)
 exact ⟨DLe.of_eq (by rw [check,if_neg (by simpa using hc)]; rfl),intDLe (by rw [check,if_neg (by simpa using hc)]),trivial⟩
def valid (n:NV):Bool:=(check n).2==0
theorem F39 (hL:LibOk W0) (n:NV) (hz:sz n+n.name.length<10000000):DFun Tryz.prog W0 51 [encTop n] (.bool (valid n)):=by
 refine Fi Tryz.func51 rfl Tryz.ntmps51 fun Γ=>?_
 apply Sr;(conv=>whnf);intro b;apply Sr;apply Rl;(conv=>whnf);refine ⟨[encTop n],_,fun _=>F59 hL n hz,Z,?_⟩;apply Sr;apply Rt;(conv=>whnf);exact .refl _
end Go.Tame.V


namespace Go.Tame.V
open Go Go.Proofs
variable {W0:World}
def joinP (p n:List UInt8):List UInt8:=if p=[] then n else p++[47]++n
def fieldDiff (a b:NV):Nat→Bool
 | 0=>!(a.text==b.text)
 | 1=>!(a.target==b.target)
 | 2=>(!(a.n1==b.n1)||!(a.n2==b.n2))||!(a.n3==b.n3)
 | 3=>!(a.n4==b.n4)
 | _=>!decide (a.streams=b.streams)
def fieldDiffs (p:List UInt8) (a b:NV) (i:Nat):List DV:=((List.range i).filter (fieldDiff a b)).map fun i=>⟨((3+i:Nat):Int),p⟩
mutual
def cmpT (p:List UInt8) (a b:NV):List DV:=if a.kind=b.kind then fieldDiffs p a b 5++mrg p a.kids b.kids else [⟨2,p⟩]
termination_by sz a+sz b
decreasing_by have h1:=sz_eq a; have h2:=sz_eq b; omega
def mrg (p:List UInt8):List NV→List NV→List DV
 | [],[]=>[]
 | x::xs,[]=>⟨0,joinP p x.name⟩::mrg p xs []
 | [],y::ys=>⟨1,joinP p y.name⟩::mrg p [] ys
 | x::xs,y::ys =>
  if Op.bytesLess x.name y.name then ⟨0,joinP p x.name⟩::mrg p xs (y::ys)
  else if x.name=y.name then cmpT (joinP p x.name) x y++mrg p xs ys
  else ⟨1,joinP p y.name⟩::mrg p (x::xs) ys
termination_by xs ys=>szL xs+szL ys
decreasing_by all_goals simp only [szL]; omega
end
end Go.Tame.V

namespace Go.Tame.V
open Go Go.Proofs
variable {W0:World}
def Fits (n:NV):Prop:=sz n+n.name.length<2200000
def compare (a b:NV):List DV×Int:=if valid a&&valid b then (cmpT [] a b,0) else ([],1)
def same (a b:NV):Bool:=(compare a b).2==0&&(compare a b).1.length==0
def kidIx (n:NV) (q:List UInt8):Int:=firstIdx (fun k:NV=>k.name==q) n.kids
theorem bl_irrefl:∀ a:List UInt8,Op.bytesLess a a=false
 | []=>rfl
 | a::xs=>by simp [Op.bytesLess,bl_irrefl xs,UInt8.lt_irrefl]
theorem bl_total:∀ a b:List UInt8,Op.bytesLess a b=false→Op.bytesLess b a=false→a=b
 | [],[],_,_=>rfl
 | [],_::_,h,_=>by simp [Op.bytesLess] at h
 | _::_,[],_,h=>by simp [Op.bytesLess] at h
 | a::xs,b::ys,h,h'=>by
  simp only [Op.bytesLess,Bool.or_eq_false_iff,decide_eq_false_iff_not,Bool.and_eq_false_iff,beq_eq_false_iff_ne] at h h'
  have hab:a=b:=UInt8.le_antisymm (UInt8.not_lt.1 h'.1) (UInt8.not_lt.1 h.1)
  subst hab
  rw [bl_total xs ys (by rcases h.2 with h|h; exact absurd rfl h; exact h) (by rcases h'.2 with h|h; exact absurd rfl h; exact h)]
theorem bl_trans:∀ a b c:List UInt8,Op.bytesLess a b=true→Op.bytesLess b c=true→Op.bytesLess a c=true
 | _,[],_,h,_=>by cases h':(‹List UInt8›:List UInt8)<;>simp_all [Op.bytesLess]
 | _,_::_,[],_,h=>by simp [Op.bytesLess] at h
 | [],_::_,_::_,_,_=>rfl
 | a::xs,b::ys,c::zs,h,h'=>by
  simp only [Op.bytesLess,Bool.or_eq_true,decide_eq_true_eq,Bool.and_eq_true,beq_iff_eq] at h h' ⊢
  rcases h with h|⟨rfl,h⟩
  ·rcases h' with h'|⟨rfl,h'⟩
   ·exact .inl (UInt8.lt_trans h h')
   exact .inl h
  rcases h' with h'|⟨rfl,h'⟩
  ·exact .inl h'
  exact .inr ⟨rfl,bl_trans xs ys zs h h'⟩
theorem bl_asymm {a b:List UInt8} (h:Op.bytesLess a b=true):Op.bytesLess b a=false:=by
 cases hb:Op.bytesLess b a with
 | false=>rfl
 | true=>have:=bl_trans a b a h hb; rw [bl_irrefl] at this; cases this
theorem bl_ne {a b:List UInt8} (h:Op.bytesLess a b=true):a≠b:=fun e=>by rw [e,bl_irrefl] at h; cases h
def inc (l:List NV):Prop:=∀ i,i+1<l.length→Op.bytesLess (l.getD i default).name (l.getD (i+1) default).name=true
theorem inc_lt {l:List NV} (h:inc l):∀ {d i:Nat},i+d+1<l.length→Op.bytesLess (l.getD i default).name (l.getD (i+d+1) default).name=true
 | 0,i,hi=>h i hi
 | d+1,i,hi=>bl_trans _ _ _ (inc_lt h (d:=d) (i:=i) (by omega)) (h (i+d+1) hi)
theorem inc_lt' {l:List NV} (h:inc l) {i j:Nat} (hij:i<j) (hj:j<l.length):Op.bytesLess (l.getD i default).name (l.getD j default).name=true:=by
 have:=inc_lt h (d:=j-i-1) (i:=i) (by omega)
 rwa [show i+(j-i-1)+1=j by omega] at this
end Go.Tame.V



namespace Go.Tame.V
open Go Go.Proofs
variable {W0:World}
def viewOk (v:Int):Bool:=decide (0≤v)&&decide (v<4)
theorem F91 (v:Int):DFun Tryz.prog W0 252 [Iv v] (.bool (viewOk v)):=by
 refine Fi Tryz.func252 rfl Tryz.ntmps252 fun Γ=>?_
 apply Sr;apply Sr;apply Hh;refine Pk ?_;apply Rt;(conv=>whnf);exact DLe.of_eq (congrArg D.bool (bif_and _ _))
def hiddenAt (h v:Int):Bool:=bitI .and .i64 (h.fdiv (2 ^ min v.toNat IntKind.i64.bits)) 1==1
def shown (v:Int) (n:NV) (l:Int):Bool :=
 if !viewOk v||hiddenAt n.n6 v then false else if (v==0&&n.kind==0)&&decide (8<l) then false else (!(n.kind==2)||v==2)||v==3
theorem F106 (v:Int) (n:NV) (l:Int):DFun Tryz.prog W0 183 [Iv v,encTop n,Iv l] (.bool (shown v n l)):=by
 refine Fi Tryz.func183 rfl Tryz.ntmps183 fun Γ=>?_
 apply Sr;(conv=>whnf);intro b;apply Sq;apply Sr;(conv=>whnf);refine ⟨[Iv v],_,fun _=>F91 v,Z,?_⟩;apply Hh;apply Rl;apply Hh;apply Hh;(conv=>whnf)
 refine ⟨fun h=>by unfold viewOk at h; simp at h; omega,?_⟩
 apply Hh;apply Hh;refine Pk ?_
 refine Cd (!viewOk v||hiddenAt n.n6 v) (by simp only [← bif_or]; rfl) (fun hc=>?_) (fun hc=>?_)
 ·apply Sr;apply Rt;(conv=>whnf);exact DLe.of_eq (congrArg D.bool (by rw [shown,if_pos hc]))
 apply Sk
 have hc1:=hc
 apply Sq;apply Sr;apply Hh;apply Rl;apply Hh;refine Pk ?_;apply Hh;refine Pk ?_
 refine Cd ((v==0&&n.kind==0)&&decide (8<l)) (by simp only [← bif_and]; rfl) (fun hc=>?_) (fun hc=>?_)
 ·apply Sr;apply Rt;(conv=>whnf)
  exact DLe.of_eq (congrArg D.bool (by rw [shown,if_neg (by rw [hc1]; simp),if_pos hc]))
 apply Sk;apply Sr;apply Rl;apply Hh;refine Pk ?_;apply Hh;refine Pk ?_;apply Rt;(conv=>whnf);refine DLe.of_eq (congrArg D.bool ?_)
 rw [shown,if_neg (by rw [hc1]; simp),if_neg (by rw [hc]; simp)]
 simp only [← bif_or]
 rfl
theorem F107 (p n:List UInt8) (top:Bool) (h:p.length+n.length<1000000000):DFun Tryz.prog W0 349 [.str p,.str n,.bool top] (.str (if top then n else p++[47]++n)):=by
 refine Fi Tryz.func349 rfl Tryz.ntmps349 fun Γ=>?_
 apply Sr;apply Sq;apply Sr;refine Cd _ rfl (fun hc=>?_) (fun hc=>?_)
 ·apply Sr;apply Rt;(conv=>whnf);exact DLe.of_eq (congrArg D.str (by rw [if_pos hc]))
 apply Sk;apply Sr;(conv=>whnf);refine Sp ?_;(conv=>whnf);refine Sp ?_;apply Rt;(conv=>whnf)
 exact DLe.of_eq (congrArg D.str (by rw [if_neg (by rw [hc]; simp)]))
open Go.RowKit
theorem cmp109 (a b:ByteArray) (k1 k2 k3 k4 k5 k6 k7 k8 k9 k10 k11 j1 j2 j3 j4 j5 j6 j7 j8 j9 j10 j11:Value) (w:World) :
  Calls Tryz.prog 351 #[.agg #[.string a,k1,k2,k3,k4,k5,k6,k7,k8,k9,k10,k11],.agg #[.string b,j1,j2,j3,j4,j5,j6,j7,j8,j9,j10,j11]] w
   fun e w'=>e=.returned (.int .i64 (Lib.compareBytes a.data.toList b.data.toList))∧∃ q os',w'=Sort.grow (w.drewN q) os':=by
 go_enter Tryz.func351,Tryz.ntmps351
 go_wp2_with (first
  | (go_at_call 249; refine (Tryz.strings_Compare _ _ _).mono ?_; rintro e w' ⟨rfl,rfl⟩)
  | go_in)
 go_ret
 refine ⟨rfl,0,#[.cells #[.string a,k1,k2,k3,k4,k5,k6,k7,k8,k9,k10,k11] 44,.cells #[.string b,j1,j2,j3,j4,j5,j6,j7,j8,j9,j10,j11] 44],?_⟩;simp only [Sort.grow,World.drewN,World.alloc,Nat.add_zero]
 congr 1
theorem cmp124 (bb b o n cap i j:Nat) (x y:ByteArray) (w:World) (hbox:w.cell? ⟨bb,0,none⟩=some (.slice (some ⟨b,o,none⟩) n cap)) (hi:i<n) (hj:j<n)
  (hx:w.cell? ⟨b,o+i*12,none⟩=some (.string x)) (hy:w.cell? ⟨b,o+j*12,none⟩=some (.string y)) :
  Calls Tryz.prog 254 #[.int .i64 i,.int .i64 j,.pointer (some ⟨bb,0,none⟩)] w
   fun e w'=>e=.returned (.int .i64 (Lib.compareBytes x.data.toList y.data.toList))∧∃ q os',w'=Sort.grow (w.drewN q) os':=by
 go_enter Tryz.func254,Tryz.ntmps254
 go_wp2_with (first
  | (go_at_call 249; refine (Tryz.strings_Compare _ _ _).mono ?_; rintro e w' ⟨rfl,rfl⟩)
  | go_in)
 go_quiet ((go_at_call 249; refine Calls.quiet_of_same (Tryz.strings_Compare _ _ _)))
 go_wp2
 go_ret
 exact ⟨rfl,_,#[],(Sort.grow_empty _).symm⟩
open Go.Sort Go.Lib
theorem sortWorld_other {α:Type} [Inhabited α] (enc:α→Value) (w:World) (blk off n:Nat) (d:Array α) (os:Array Obj) {b:Nat} (hb:b<w.heap.size) (hne:b≠blk):(sortWorld enc w blk off n d os).heap[b]? = w.heap[b]?:=by
 simp only [sortWorld,Sort.grow,putRow,mapBlock,ahead];rw [Array.getElem?_append_left (by simpa using hb),Array.getElem?_modify,if_neg (Ne.symm hne)]
 rfl
theorem sortWorld_row {α:Type} [Inhabited α] (enc:α→Value) (w:World) (blk off n:Nat) (d:Array α) (os:Array Obj) {vs:Array Value} {e:TypeId} {fz:Nat×Nat} (hb:w.heap[blk]? = some (.cells vs e fz)) :
  (sortWorld enc w blk off n d os).heap[blk]? = some (.cells (putCells enc off d vs) e fz):=by
 have hlt:=lt_of_heap hb
 simp only [sortWorld,Sort.grow,putRow,mapBlock,ahead];rw [Array.getElem?_append_left (by simpa using hlt),Array.getElem?_modify,if_pos rfl]
 show Option.map _ w.heap[blk]? = _
 rw [hb]; rfl
theorem sortWorld_cell {α:Type} [Inhabited α] (enc:α→Value) (w:World) (blk off n:Nat) (d:Array α) (os:Array Obj) {b o:Nat} {u:Value} (hne:b≠blk) (h:w.cell? ⟨b,o,none⟩=some u):(sortWorld enc w blk off n d os).cell? ⟨b,o,none⟩=some u:=by
 have hlt:b<w.heap.size:=by
  simp only [World.cell?] at h
  rcases Nat.lt_or_ge b w.heap.size with h1|h1
  ·exact h1
  rw [Array.getElem?_eq_none h1] at h; cases h
 rw [← h]; simp only [World.cell?,sortWorld_other enc w blk off n d os hlt hne]
theorem sortWorld_size {α:Type} [Inhabited α] (enc:α→Value) (w:World) (blk off n:Nat) (d:Array α) (os:Array Obj):w.heap.size≤(sortWorld enc w blk off n d os).heap.size:=by
 simp [sortWorld,Sort.grow,putRow,mapBlock,ahead]
theorem Step.sort {α:Type} [Inhabited α] (enc:α→Value) (w:World) (C:Nat→Nat) (blk off n:Nat) (d:Array α) (os:Array Obj) (hC:C blk=0):Step (fun x=>x=blk) w C (sortWorld enc w blk off n d os) C :=
 ⟨⟨sortWorld_size ..,fun _ _=>Nat.le_refl _,fun b o hb ho=>by
   have hne:b≠blk:=fun e=>by subst e; omega
   simp only [World.cell?,sortWorld_other enc w blk off n d os hb hne]⟩,rfl,rfl,rfl,fun b hb hne=>⟨sortWorld_other enc w blk off n d os hb hne,rfl⟩⟩
theorem lt_names {α:Type} (nm:α→List UInt8) (x y:α):ltOf (fun x y:α=>Lib.compareBytes (nm x) (nm y)) x y=Op.bytesLess (nm x) (nm y):=by
 unfold ltOf
 show decide (Lib.compareBytes (nm x) (nm y)<0)=_
 rcases cmp_range (nm x) (nm y) with h|h|h
 ·rw [h]
  cases hb:Op.bytesLess (nm x) (nm y) with
  | true=>rfl
  | false =>
   cases hb2:Op.bytesLess (nm y) (nm x) with
   | true=>rw [(cmp_one (nm x) (nm y)).2 hb2] at h; cases h
   | false=>have:=bl_total _ _ hb hb2; rw [(cmp_zero (nm x) (nm y)).2 this] at h; cases h
 ·rw [h]; have:=(cmp_zero (nm x) (nm y)).1 h; rw [this,bl_irrefl]; rfl
 rw [h]; rw [bl_asymm ((cmp_one (nm x) (nm y)).1 h)]; rfl
theorem swo_names {α:Type} (nm:α→List UInt8):SWO (ltOf fun x y:α=>Lib.compareBytes (nm x) (nm y)):=by
 have key:=lt_names nm
 refine ⟨fun x=>by rw [key,bl_irrefl],fun x y z h1 h2=>?_,fun x y z h1 h2=>?_⟩
 ·rw [key] at *; exact bl_trans _ _ _ h1 h2
 rw [key] at *
 cases hb:Op.bytesLess (nm x) (nm z) with
 | false=>rfl
 | true =>
  cases h3:Op.bytesLess (nm z) (nm y) with
  | true=>rw [bl_trans _ _ _ hb h3] at h1; cases h1
  | false=>have:=bl_total _ _ h2 h3; rw [this] at h1; rw [hb] at h1; cases h1
def encI (i:Nat):D:=Iv (i:Nat)
def encIV (n:Nat) (x:Fin n):Value:=.int .i64 ((x.1:Nat):Int)
theorem look2 {a b:Nat} {o1 o2 o:HObj} {s:Nat} (h:look [(a,o1),(b,o2)] s=some o):(s=a∧o=o1)∨(s=b∧o=o2):=by
 simp only [look] at h
 cases h1:Nat.beq s a with
 | true=>rw [h1] at h; cases h; exact .inl ⟨beq_true h1,rfl⟩
 | false =>
  rw [h1] at h
  cases h2:Nat.beq s b with
  | true=>rw [h2] at h; cases h; exact .inr ⟨beq_true h2,rfl⟩
  | false=>rw [h2] at h; cases h
theorem F123_nil (v:Value) (fd:D) (o:HObj):DCall Tryz.prog W0 253 [.raw v,fd] (look [(2001,.row v [] 1 3),(2000,o)]) fun d H'=>d=.tup []∧H'=look [(2001,.row v [] 1 3),(2000,o)]:=by
 refine ⟨callable Tryz.func253 rfl (by decide +kernel),fun w C args Ft hbase hlow hH hr=>?_⟩;obtain ⟨hl,hr⟩:=hr
 match args,hl with
 | [a0,a1],_ =>
  have h0:=(hr 0 _ a0 rfl rfl).raw_inv
  subst h0;obtain ⟨a,cap,hv,_⟩:RowV w C a0 [] 1 3:=hH.obj 2001 _ rfl;subst hv;refine (AnyF.slices_SortFunc_none Tryz.laysSlF0_f253 a cap a1 w).mono ?_;rintro e w' ⟨rfl,rfl⟩;exact ⟨.tuple #[],.tup [],C,_,rfl,⟨rfl,rfl⟩,.tup [] [] rfl (fun i d v hd _=>by simp at hd),.refl _ _ _,⟨hH.obj,hH.inj,fun s o b ho hu=>.inl (hH.foot s o b ho hu)⟩⟩
theorem F123 (kids:List NV) (hn:0<kids.length) (hlen:kids.length<1000000) (bb:Nat) (v:Value) (ds:List (Fin kids.length)) (hd0:0<ds.length) (hd:ds.length<1000000) :
  DCall Tryz.prog W0 253 [.raw v,.fn (.func 254) [] [.box 2000 bb 0]] (look [(2001,.row v (ds.map fun x=>encI x.1) 1 3),(2000,.box bb [.sl .none 12 (kids.map enc)])]) fun d H' =>
   d=.tup []∧∃ ds':List (Fin kids.length),ds'.Perm ds∧(∀ (i j:Nat) (hi:i<ds'.length) (hj:j<ds'.length),i<j→Op.bytesLess (kids[ds'[j].1]).name (kids[ds'[i].1]).name=false) ∧
    H'=look [(2001,.row v (ds'.map fun x=>encI x.1) 1 3),(2000,.box bb [.sl .none 12 (kids.map enc)])]:=by
 refine ⟨callable Tryz.func253 rfl (by decide +kernel),fun w C args Ft hbase hlow hH hr=>?_⟩;obtain ⟨hl,hr⟩:=hr
 match args,hl with
 | [a0,a1],_ =>
  have h0:=(hr 0 _ a0 rfl rfl).raw_inv
  obtain ⟨vf,vc,h1,h2,h3⟩:=(hr 1 _ a1 rfl rfl).fn_inv;subst h0
  have hvf:vf=[]:=List.eq_nil_of_length_eq_zero h2.1.symm
  subst hvf
  have hvc:vc=[.pointer (some ⟨bb,0,none⟩)]:=by
   obtain ⟨hl3,h3⟩:=h3
   match vc,hl3 with
   | [u],_=>rw [(h3 0 _ u rfl rfl).box_inv]
  subst hvc;subst h1
  have hrow:RowV w C a0 (ds.map fun x=>encI x.1) 1 3:=hH.obj 2001 _ rfl
  obtain ⟨uv,ue,hbb,hbr,hbC⟩:ORel w C (.box bb [.sl .none 12 (kids.map enc)]):=hH.obj 2000 _ rfl
  obtain ⟨u,rfl⟩:∃ u,uv=[u]:=by
   match uv,hbr.1 with
   | [u],_=>exact ⟨u,rfl⟩
  have hu:=hbr.2 0 _ u rfl rfl
  obtain ⟨b,cap,vs,hv,hc,hm,hk,hb,hvs,hC,hcells⟩:=RowV.pos hrow (i:=0) (by simpa using hd0)
  have hcap:0<cap:=by simp at hc; omega
  have hone:∀ x∈ds.map (fun x=>encI x.1),x.cells=[x]:=fun x hx=>by obtain ⟨y,_,rfl⟩:=List.mem_map.1 hx; rfl
  rw [flat_one hone] at hcells
  have hkl:0<(kids.map enc).length:=by simpa using hn
  rcases hu.sl_inv with ⟨he,_⟩|⟨kb,o,kcap,g,rfl,_,hkb,_,_,hkk,hkC,hkcell,_,hkrep⟩
  ·rw [he] at hkl; cases hkl
  have hkne:kb≠b:=fun e=>by rw [e] at hkC; omega
  have hbne:bb≠b:=fun e=>by
   subst e;exact hH.inj 2000 2001 _ _ bb (by decide) rfl rfl rfl ⟨_,cap,hv,hcap⟩
  have hml:(kids.map enc).length=kids.length:=by simp
  have hboxc:w.cell? ⟨bb,0,none⟩=some (.slice (some ⟨kb,o,none⟩) kids.length kcap):=by
   have:w.cell? ⟨bb,0,none⟩=some (.slice (some ⟨kb,o,none⟩) (kids.map enc).length kcap):=by simp only [World.cell?,hbb]; rfl
   rwa [hml] at this
  have hkid:∀ i:Fin kids.length,w.cell? ⟨kb,o+i.1*12,none⟩=some (.string ⟨⟨(kids[i.1]).name⟩⟩):=fun i=>by
   have hf:(flat (kids.map enc))[i.1*12+0]? = some (.str (kids[i.1]).name):=by rw [flat_get hkk (get_kids i.2) (by omega)]; rfl
   have h4:=hkcell _ _ hf
   rw [(hkrep _ _ hf).str_inv] at h4
   simpa using h4
  haveI:Inhabited (Fin kids.length):=⟨⟨0,hn⟩⟩
  have hget:∀ (l:List (Fin kids.length)) (j:Nat) (hj:j<l.length),l.toArray[j]! = l[j]:=fun l j hj=>by simp [hj]
  have heg:∀ args w,(callFunc 254 args).run Tryz.prog w=.ok (.enter 254 args) w:=fun args w=>by
   obtain ⟨fn,hfn,hbody,hname⟩:=callable Tryz.func254 rfl (by decide +kernel)
   have hbn:fn.body.isNone=false:=by cases hb:fn.body<;>simp [hb] at hbody ⊢
   simp only [callFunc,Sem.run_bind,run_program,Result.andThen_ok,hfn,hname,hbn,Bool.false_eq_true,if_false,Sem.run_pure]
  have hsort:=Tryz.slices_SortFunc (encIV kids.length) (fun _=>rfl) (fun x y=>Lib.compareBytes (kids[x.1]).name (kids[y.1]).name) (swo_names fun x:Fin kids.length=>(kids[x.1]).name) 254 #[.pointer (some ⟨bb,0,none⟩)] b 0 cap ds.toArray w
   heg (fun m os dk hdk x y=>(cmp124 bb kb o kids.length kcap x.1 y.1 ⟨⟨(kids[x.1]).name⟩⟩ ⟨⟨(kids[y.1]).name⟩⟩ _ (sortWorld_cell _ _ _ _ _ _ _ hbne hboxc) x.2 y.2
    (sortWorld_cell _ _ _ _ _ _ _ hkne (hkid x)) (sortWorld_cell _ _ _ _ _ _ _ hkne (hkid y))))
   (fun j hj=>by
    have hj':j<ds.length:=by simpa using hj
    obtain ⟨z,h5,h6,_⟩:=hcells j (encI ds[j].1) (by simp [hj']);refine ⟨?_,by simp [World.frozen?,hb]⟩;rw [hget ds j hj'];simp only [World.cell?,hb,Nat.zero_add]
    simp [h5,h6.int_inv,encIV]) (lt_of_heap hb) (by simp; omega)
  subst hv
  have hsz:(ds.map fun x=>encI x.1).length=ds.toArray.size:=by simp
  have huse:∀ (xs:List D),HObj.uses (.row (.slice (some ⟨b,0,none⟩) (ds.map fun x=>encI x.1).length cap) xs 1 3) b:=fun xs=>⟨_,cap,rfl,hcap⟩
  have hFb:=hH.foot 2001 _ b rfl (huse _)
  have hFbb:=hH.foot 2000 _ bb rfl rfl
  rw [hsz] at huse ⊢;refine hsort.mono ?_;rintro e w' ⟨rfl,d',m,os,hp,hs,rfl⟩;obtain ⟨hp1,_,hp3⟩:=hp
  have hdl:d'.toList.length=ds.length:=by simpa using hp1
  have hst:=Step.sort (encIV kids.length) w C b 0 m d' os hC
  refine ⟨.tuple #[],.tup [],C,_,rfl,⟨rfl,d'.toList,?_,?_,rfl⟩,.tup [] [] rfl (fun i d v hd _=>by simp at hd),?_,⟨fun s o ho=>?_,fun s s' o o' x hne h1 h2 hu hu'=>?_,fun s o x ho hu=>?_⟩⟩
  ·have e1:(d'.extract 0 ds.toArray.size).toList=d'.toList:=by rw [← hp1]; simp
   have e2:(ds.toArray.extract 0 ds.toArray.size).toList=ds:=by simp
   rw [e1,e2] at hp3; exact hp3
  ·intro i j hi hj hij
   have h7:=hs i j (Nat.zero_le _) hij (by rw [← hp1]; simpa using hj)
   rw [lt_names fun x:Fin kids.length=>(kids[x.1]).name] at h7
   have g1:d'[j]! = d'.toList[j]:=by rw [getElem!_pos d' j (by simpa using hj)]; simp
   have g2:d'[i]! = d'.toList[i]:=by rw [getElem!_pos d' i (by simpa using hi)]; simp
   rw [g1,g2] at h7; exact h7
  ·exact ⟨hst.ext,hst.os,hst.tape,hst.output,fun x hx hF=>hst.keep x hx fun e=>by subst e; exact hF hFb⟩
  ·rcases look2 ho with ⟨rfl,rfl⟩|⟨rfl,rfl⟩
   ·have hone':∀ x∈d'.toList.map (fun x=>encI x.1),x.cells=[x]:=fun x hx=>by obtain ⟨y,_,rfl⟩:=List.mem_map.1 hx; rfl
    refine ⟨some ⟨b,0,none⟩,cap,by simp [hp1],by simp only [List.length_map] at hc ⊢; omega,hm,fun x hx=>by rw [hone' x hx]; rfl,fun ad had=>⟨b,by cases had; rfl,Nat.lt_of_lt_of_le (lt_of_heap hb) hst.ext.size⟩,
     fun _=>⟨b,_,rfl,sortWorld_row _ _ _ _ _ _ _ hb,by simp only [putCells,Array.size_mapIdx]; exact hvs,hC,fun j d hd=>?_⟩⟩
    rw [flat_one hone'] at hd
    have hj:j<d'.size:=by have:=lt_of_get hd; simpa using this
    have hjv:j<vs.size:=by have:=hp1; simp at this hvs hc; omega
    have hde:d=encI d'[j].1:=by simp [hj] at hd; exact hd.symm
    subst hde;refine ⟨encIV kids.length d'[j],?_,.int _ _,rfl⟩;simp only [putCells,Array.getElem?_mapIdx,Array.getElem?_eq_getElem hjv,Option.map_some,Nat.zero_le,true_and,Nat.zero_add,hj,if_true,Nat.sub_zero];rw [getElem!_pos d' j hj]
   exact (hH.obj 2000 _ rfl).keep hst.ext fun x hx=>hst.keep x (by cases hx; exact lt_of_heap hbb) (by cases hx; exact hbne)
  ·rcases look2 h1 with ⟨rfl,rfl⟩|⟨rfl,rfl⟩<;>rcases look2 h2 with ⟨rfl,rfl⟩|⟨rfl,rfl⟩
   ·exact hne rfl
   ·obtain ⟨n',c',h8,_⟩:=hu
    have:=slice_uses h8; subst this
    exact hbne hu'.symm
   ·obtain ⟨n',c',h8,_⟩:=hu'
    have:=slice_uses h8; subst this
    exact hbne hu.symm
   exact hne rfl
  rcases look2 ho with ⟨rfl,rfl⟩|⟨rfl,rfl⟩
  ·obtain ⟨n',c',h8,_⟩:=hu
   have:=slice_uses h8; subst this
   exact .inl hFb
  cases hu; exact .inl hFbb
def sortI (L:List Int):List Int:=L.mergeSort fun x y=>decide (x≤y)
theorem look1I {a:Nat} {o1 o:HObj} {s:Nat} (h:look [(a,o1)] s=some o):s=a∧o=o1:=by
 simp only [look] at h
 cases h1:Nat.beq s a with
 | true=>rw [h1] at h; cases h; exact ⟨beq_true h1,rfl⟩
 | false=>rw [h1] at h; cases h
theorem ints_one (L:List Int):∀ x∈intsD L,x.cells=[x]:=fun x hx=>by obtain ⟨y,_,rfl⟩:=List.mem_map.1 hx; rfl
theorem put_row {Ft:Nat→Prop} {w:World} {C:Nat→Nat} {b cap:Nat} {L M:List Int} (hH:HRel Ft w C (look [(2000,.row (.slice (some ⟨b,0,none⟩) L.length cap) (intsD L) 1 3)])) (h0:0<L.length) (hM:M.length=L.length) (q:Nat) (os:Array Obj) (m:Nat) (hm:m≤L.length) :
  Step Ft w C (sortWorld (Value.int .i64) w b 0 q M.toArray os) C∧HRel (fun x=>Ft x∨w.heap.size≤x) (sortWorld (Value.int .i64) w b 0 q M.toArray os) C (look [(2000,.row (.slice (some ⟨b,0,none⟩) m cap) (intsD (M.take m)) 1 3)]):=by
 have hsl:∀ M:List Int,(intsD M).length=M.length:=fun M=>by simp [intsD]
 have hrow:RowV w C (.slice (some ⟨b,0,none⟩) L.length cap) (intsD L) 1 3:=hH.obj 2000 _ rfl
 obtain ⟨b',cap',vs,hv',hc,hmx,hk,hb,hvs,hC,hcells⟩:=RowV.pos hrow (i:=0) (by rw [hsl]; omega)
 simp only [Value.slice.injEq,Option.some.injEq,Addr.mk.injEq] at hv';obtain ⟨⟨rfl,_⟩,_,rfl⟩:=hv';rw [hsl] at hc
 have hFb:=hH.foot 2000 _ b rfl ⟨_,cap,rfl,by omega⟩
 have hst:=Step.sort (Value.int .i64) w C b 0 q M.toArray os hC
 have hml:(M.take m).length=m:=by rw [List.length_take]; omega
 refine ⟨⟨hst.ext,hst.os,hst.tape,hst.output,fun x hx hF=>hst.keep x hx fun e=>by subst e; exact hF hFb⟩,⟨fun s ob ho=>?_,fun s s' ob ob' x hne h1 h2 hu hu'=>?_,fun s ob x ho hu=>?_⟩⟩
 ·obtain ⟨rfl,rfl⟩:=look1I ho
  refine ⟨some ⟨b,0,none⟩,cap,by rw [hsl,hml],by rw [hsl,hml]; omega,hmx,fun x hx=>by rw [ints_one _ x hx]; rfl,fun ad had=>⟨b,by cases had; rfl,Nat.lt_of_lt_of_le (lt_of_heap hb) hst.ext.size⟩,
   fun _=>⟨b,_,rfl,sortWorld_row _ _ _ _ _ _ _ hb,by simp only [putCells,Array.size_mapIdx]; exact hvs,hC,fun j d hd=>?_⟩⟩
  rw [Go.Tame.flat_one (ints_one _)] at hd
  have hj:j<m:=by have:=lt_of_get hd; rwa [hsl,hml] at this
  have hjM:j<M.length:=by omega
  have hjv:j<vs.size:=by simp at hvs; omega
  have hde:d=.int .i64 M[j]:=by simp [intsD,hj,hjM] at hd; exact hd.symm
  subst hde;refine ⟨.int .i64 M[j],?_,.int _ _,rfl⟩;simp only [putCells,Array.getElem?_mapIdx,Array.getElem?_eq_getElem hjv,Option.map_some]
  rw [if_pos ⟨Nat.zero_le _,by simpa using hjM⟩,Nat.sub_zero,getElem!_pos M.toArray j (by simpa using hjM)]; rfl
 ·obtain ⟨rfl,_⟩:=look1I h1;obtain ⟨rfl,_⟩:=look1I h2;exact hne rfl
 obtain ⟨rfl,rfl⟩:=look1I ho;obtain ⟨n',c',h8,_⟩:=hu
 have:=slice_uses h8; subst this
 exact .inl hFb
theorem row_holds {Ft:Nat→Prop} {w:World} {C:Nat→Nat} {a:Option Addr} {cap:Nat} {L:List Int} (hH:HRel Ft w C (look [(2000,.row (.slice a L.length cap) (intsD L) 1 3)])) (h0:0<L.length) :
  ∃ b,a=some ⟨b,0,none⟩∧b<w.heap.size∧L.length≤cap∧Holds (Value.int .i64) w b 0 L.toArray:=by
 have hsl:∀ M:List Int,(intsD M).length=M.length:=fun M=>by simp [intsD]
 have hrow:RowV w C (.slice a L.length cap) (intsD L) 1 3:=hH.obj 2000 _ rfl
 obtain ⟨b,cap',vs,hv',hc,hmx,hk,hb,hvs,hC,hcells⟩:=RowV.pos hrow (i:=0) (by rw [hsl]; omega)
 simp only [Value.slice.injEq] at hv';obtain ⟨rfl,_,rfl⟩:=hv';rw [hsl] at hc;rw [Go.Tame.flat_one (ints_one _)] at hcells;refine ⟨b,rfl,lt_of_heap hb,hc,fun j hj=>?_⟩
 have hj':j<L.length:=by simpa using hj
 obtain ⟨z,h5,h6,_⟩:=hcells j (Iv L[j]) (by simp [intsD,hj']);refine ⟨?_,by simp [World.frozen?,hb]⟩
 have hg:L.toArray[j]! = L[j]:=by simp [hj']
 rw [hg];simp only [World.cell?,hb,Nat.zero_add]
 simp [h5,h6.int_inv]
theorem sortI_len (L:List Int):(sortI L).length=L.length:=List.length_mergeSort _
theorem H49 (L:List Int) (a:Option Addr) (n cap:Nat) (hn:n=L.length) (hl:L.length<1000000) :
  DCall Tryz.prog W0 49 [.raw (.slice a n cap)] (look [(2000,.row (.slice a n cap) (intsD L) 1 3)]) fun d H'=>d=.tup []∧H'=look [(2000,.row (.slice a n cap) (intsD (sortI L)) 1 3)]:=by
 subst hn;refine ⟨callable Tryz.func49 rfl (by decide +kernel),fun w C args Ft hbase hlow hH hr=>?_⟩;obtain ⟨hln,hr⟩:=hr
 match args,hln with
 | [a0],_ =>
  have h1:=(hr 0 _ a0 rfl rfl).raw_inv
  subst h1
  rcases Nat.eq_zero_or_pos L.length with h0|h0
  ·have hL:L=[]:=List.eq_nil_of_length_eq_zero h0
   subst hL;refine (Tryz.slices_Sort_int_none a cap w).mono ?_;rintro e w' ⟨rfl,rfl⟩;refine ⟨.tuple #[],.tup [],C,_,rfl,⟨rfl,rfl⟩,.tup [] [] rfl (fun i d v hd _=>by simp at hd),.refl _ _ _,?_⟩;rw [show sortI []=[] by simp [sortI]];exact ⟨hH.obj,hH.inj,fun s ob x ho hu=>.inl (hH.foot s ob x ho hu)⟩
  obtain ⟨b,rfl,hb,hc,hh⟩:=row_holds hH h0;refine (Tryz.slices_Sort_int b 0 cap L w hh hb (by omega)).mono ?_;rintro e w' ⟨rfl,q,os,rfl⟩;obtain ⟨h1,h2⟩:=put_row hH h0 (sortI_len L) q os L.length (Nat.le_refl _)
  rw [List.take_of_length_le (by rw [sortI_len]; exact Nat.le_refl _)] at h2
  exact ⟨.tuple #[],.tup [],C,_,rfl,⟨rfl,rfl⟩,.tup [] [] rfl (fun i d v hd _=>by simp at hd),h1,h2⟩
theorem compact_len (L:List Int):(Lib.compact L).length≤L.length:=by
 rw [Lib.compact,Lib.compactUpTo,List.length_map]
 have:=List.length_filter_le (Lib.keeps L.toArray) (List.range L.length)
 simpa using this
theorem H50 (L:List Int) (a:Option Addr) (n cap:Nat) (hn:n=L.length) (hl:L.length<1000000) :
  DCall Tryz.prog W0 50 [.raw (.slice a n cap)] (look [(2000,.row (.slice a n cap) (intsD L) 1 3)]) fun d H'=>∃ m,m=(Lib.compact L).length∧d=.raw (.slice a m cap)∧H'=look [(2000,.row (.slice a m cap) (intsD (Lib.compact L)) 1 3)]:=by
 subst hn;refine ⟨callable Tryz.func50 rfl (by decide +kernel),fun w C args Ft hbase hlow hH hr=>?_⟩;obtain ⟨hln,hr⟩:=hr
 match args,hln with
 | [a0],_ =>
  have h1:=(hr 0 _ a0 rfl rfl).raw_inv
  subst h1
  rcases Nat.eq_zero_or_pos L.length with h0|h0
  ·have hL:L=[]:=List.eq_nil_of_length_eq_zero h0
   subst hL;refine (Tryz.slices_Compact_int_empty a cap w).mono ?_;rintro e w' ⟨rfl,rfl⟩;refine ⟨_,_,C,_,rfl,⟨_,rfl,rfl,rfl⟩,.raw _,.refl _ _ _,?_⟩;exact ⟨hH.obj,hH.inj,fun s ob x ho hu=>.inl (hH.foot s ob x ho hu)⟩
  obtain ⟨b,rfl,hb,hc,hh⟩:=row_holds hH h0;refine (Tryz.slices_Compact_int b 0 cap L w hh (by omega) hc).mono ?_;rintro e w' ⟨rfl,q,rfl⟩
  have hcl:=compact_len L
  obtain ⟨h1,h2⟩:=put_row (M:=Lib.compact L++List.replicate (L.length-(Lib.compact L).length) 0) hH h0 (by simp; omega) q #[] (Lib.compact L).length hcl
  rw [List.take_left'  rfl] at h2
  have e1:sortWorld (Value.int .i64) w b 0 q (Lib.compact L++List.replicate (L.length-(Lib.compact L).length) 0).toArray #[]=putRow (Value.int .i64) (Sort.ahead w q) b 0 (Lib.compact L++List.replicate (L.length-(Lib.compact L).length) 0).toArray:=by
   rw [sortWorld,grow_empty]
  rw [e1] at h1 h2;exact ⟨_,_,C,_,rfl,⟨_,rfl,rfl,rfl⟩,.raw _,h1,h2⟩
theorem F104 (ss:List SV) (h:ss.length<1000000000):DFun Tryz.prog W0 86 [.sl .none 2 (ss.map encS)] (.sl .none 2 (ss.map encS)):=by
 refine Fi Tryz.func86 rfl Tryz.ntmps86 fun Γ=>?_
 apply Sr;apply S2;refine Tri.regionX ti_ok ?_;(conv=>whnf);refine .inr (XOp.nilEq (el:=147) ti_ok rfl rfl rfl fun nb hnb=>?_);refine Cd _ rfl (fun hc=>?_) (fun hc=>?_)
 ·apply Sr;apply Rt;(conv=>whnf)
  have hnil:=hnb hc
  rw [hnil];exact DLe.nil
 apply Sk;apply Sr;(conv=>whnf);refine ⟨trivial,?_⟩;(conv=>whnf)
 refine ⟨by show (0+(ss.map encS).length)*32≤_; simp; omega,by show 0+(ss.map encS).length≤_; simp; omega,(fun h=>by cases h),fun v=>?_⟩
 apply Rt;(conv=>whnf);exact DLe.trans (DLe.of_eq (congrArg (D.sl _ 2) (List.nil_append _))) DLe.unown
def nodeCells (ns:List NV) (vs:Array Value) (p:Fin ns.length):List Value:=.string ⟨⟨(ns[p.1]).name⟩⟩::(List.range 11).map fun c=>vs.getD (p.1*12+(c+1)) undef
theorem nodeCells_len (ns:List NV) (vs:Array Value) (p:Fin ns.length):(nodeCells ns vs p).length=12:=rfl
theorem topCells_len (n:NV):(encTop n).cells.length=12:=rfl
theorem nodeCells_get {w:World} {C:Nat→Nat} {ns:List NV} {vs:Array Value} (h:∀ (j:Nat) d,(flat (ns.map encTop))[j]? = some d→∃ u,vs[j]? = some u∧Rep w C d u∧u.oneCell'=true) (p:Fin ns.length) {c:Nat} (hc:c<12) :
  ∃ d u,(encTop ns[p.1]).cells[c]? = some d∧vs[p.1*12+c]? = some u∧Rep w C d u∧u.oneCell'=true∧(nodeCells ns vs p)[c]? = some u:=by
 have hk:∀ x∈ns.map encTop,x.cells.length=12:=fun x hx=>by obtain ⟨y,_,rfl⟩:=List.mem_map.1 hx; rfl
 have hx:(ns.map encTop)[p.1]? = some (encTop ns[p.1]):=by simp
 obtain ⟨d,hd⟩:=getElem?_of_lt (l:=(encTop ns[p.1]).cells) (i:=c) (by rw [topCells_len]; exact hc)
 obtain ⟨u,h1,h2,h3⟩:=h (p.1*12+c) d (by rw [flat_get hk hx hc]; exact hd)
 refine ⟨d,u,hd,h1,h2,h3,?_⟩
 cases c with
 | zero =>
  have:d=.str (ns[p.1]).name:=by cases hd; rfl
  subst this
  rw [h2.str_inv]; rfl
 | succ c =>
  simp only [nodeCells,List.getElem?_cons_succ,List.getElem?_map,List.getElem?_range (show c<11 by omega),Option.map_some]
  simp [Array.getD_eq_getD_getElem?,h1]
theorem F108 (ns:List NV) (hn:0<ns.length) (hlen:ns.length<1000000) (v:Value) :
  DCall Tryz.prog W0 350 [.raw v,.fn (.func 351) [] []] (look [(2001,.row v (ns.map encTop) 12 44)]) fun d H' =>
   d=.tup []∧∃ ns':List NV,ns'.Perm ns∧(∀ (i j:Nat) (hi:i<ns'.length) (hj:j<ns'.length),i<j→Op.bytesLess (ns'[j]).name (ns'[i]).name=false)∧H'=look [(2001,.row v (ns'.map encTop) 12 44)]:=by
 refine ⟨callable Tryz.func350 rfl (by decide +kernel),fun w C args Ft hbase hlow hH hr=>?_⟩;obtain ⟨hl,hr⟩:=hr
 match args,hl with
 | [a0,a1],_ =>
  have h0:=(hr 0 _ a0 rfl rfl).raw_inv
  obtain ⟨vf,vc,h1,h2,h3⟩:=(hr 1 _ a1 rfl rfl).fn_inv;subst h0
  have hvf:vf=[]:=List.eq_nil_of_length_eq_zero h2.1.symm
  have hvc:vc=[]:=List.eq_nil_of_length_eq_zero h3.1.symm
  subst hvf hvc h1
  have hrow:RowV w C a0 (ns.map encTop) 12 44:=hH.obj 2001 _ rfl
  obtain ⟨b,cap,vs,hv,hc,hm,hk,hb,hvs,hC,hcells⟩:=RowV.pos hrow (i:=0) (by simpa using hn)
  have hcap:0<cap:=by simp at hc; omega
  haveI:Inhabited (Fin ns.length):=⟨⟨0,hn⟩⟩
  have heg:∀ args w,(callFunc 351 args).run Tryz.prog w=.ok (.enter 351 args) w:=fun args w=>by
   obtain ⟨fn,hfn,hbody,hname⟩:=callable Tryz.func351 rfl (by decide +kernel)
   have hbn:fn.body.isNone=false:=by cases hb:fn.body<;>simp [hb] at hbody ⊢
   simp only [callFunc,Sem.run_bind,run_program,Result.andThen_ok,hfn,hname,hbn,Bool.false_eq_true,if_false,Sem.run_pure]
  have hdl:(Array.ofFn (n:=ns.length) id).size=ns.length:=by simp
  have hdg:∀ (p:Nat) (hp:p<ns.length),(Array.ofFn (n:=ns.length) id)[p]! = ⟨p,hp⟩:=fun p hp=>by
   rw [getElem!_pos _ p (by simpa using hp)]; simp
  have hfk:∀ (d:Array (Fin ns.length)) (j:Nat),j<d.size*12→(flatK (nodeCells ns vs) 12 d)[j]! = ((nodeCells ns vs d[j/12]!)[j%12]!):=fun d j hj=>get_flatK _ _ _ _ hj
  have hsort:=AnyQ.slices_SortFunc Tryz.laysSlF0_f350 12 (fun w=>by kernel_rfl) (fun w=>by kernel_rfl) (nodeCells ns vs) (nodeCells_len ns vs) (fun p u hu=>by
    obtain ⟨c,hcu⟩:=List.mem_iff_getElem?.1 hu
    have hc12:c<12:=by have:=lt_of_get hcu; rwa [nodeCells_len] at this
    obtain ⟨d,u',_,_,_,h9,h10⟩:=nodeCells_get hcells p hc12
    rw [h10] at hcu; cases hcu; exact h9)
   (fun x y=>Lib.compareBytes (ns[x.1]).name (ns[y.1]).name) (swo_names fun x:Fin ns.length=>(ns[x.1]).name) 351 #[] b 0 cap (Array.ofFn (n:=ns.length) id) w heg
   (fun m os dk hdk x y=>cmp109 ⟨⟨(ns[x.1]).name⟩⟩ ⟨⟨(ns[y.1]).name⟩⟩ _ _ _ _ _ _ _ _ _ _ _ _ _ _ _ _ _ _ _ _ _ _ _)
   (fun j hj=>by
    rw [size_flatK,hdl] at hj
    have hp:j/12<ns.length:=by omega
    obtain ⟨d,u,_,h6,_,_,h10⟩:=nodeCells_get hcells ⟨j/12,hp⟩ (c:=j%12) (by omega)
    have hj':j/12*12+j%12=j:=by omega
    rw [hj'] at h6;refine ⟨?_,by simp [World.frozen?,hb]⟩
    rw [hfk _ j (by rw [hdl]; exact hj),hdg _ hp]
    simp only [World.cell?,hb,Nat.zero_add,id];rw [h6]
    congr 1
    simp [h10,List.getElem!_eq_getElem?_getD]) (lt_of_heap hb) (by rw [hdl]; omega)
  subst hv
  have hsz:(ns.map encTop).length=(Array.ofFn (n:=ns.length) id).size:=by simp
  have huse:∀ (xs:List D),HObj.uses (.row (.slice (some ⟨b,0,none⟩) (ns.map encTop).length cap) xs 12 44) b:=fun xs=>⟨_,cap,rfl,hcap⟩
  have hFb:=hH.foot 2001 _ b rfl (huse _)
  rw [hsz] at huse ⊢;refine hsort.mono ?_;rintro e w' ⟨rfl,d',m,os,hp,hs,rfl⟩;obtain ⟨hp1,_,hp3⟩:=hp
  have hd'n:d'.size=ns.length:=by rw [hp1,hdl]
  have hst:Step (fun x=>x=b) w C (sortWorldK (nodeCells ns vs) 12 w b 0 m d' os) C:=Step.sort id w C b 0 m (flatK (nodeCells ns vs) 12 d') os hC
  have hwb:(sortWorldK (nodeCells ns vs) 12 w b 0 m d' os).heap[b]? = some (.cells (putCells id 0 (flatK (nodeCells ns vs) 12 d') vs) 44 (0,0)):=sortWorld_row id w b 0 m (flatK (nodeCells ns vs) 12 d') os hb
  have hlook:∀ {s o} (l:HObj),look [(2001,l)] s=some o→s=2001∧o=l:=fun {s o} l h=>by
   simp only [look] at h
   cases h1:Nat.beq s 2001 with
   | true=>rw [h1] at h; cases h; exact ⟨beq_true h1,rfl⟩
   | false=>rw [h1] at h; cases h
  have hperm:d'.toList.Perm (List.finRange ns.length):=by
   have e1:(d'.extract 0 (Array.ofFn (n:=ns.length) id).size).toList=d'.toList:=by rw [← hp1]; simp
   have e2:((Array.ofFn (n:=ns.length) id).extract 0 (Array.ofFn (n:=ns.length) id).size).toList=List.finRange ns.length:=by
    simp only [Array.extract_size,Array.toList_ofFn]
    rfl
   rw [e1,e2] at hp3; exact hp3
  have hmapfin:(List.finRange ns.length).map (fun p=>ns[p.1])=ns:=by
   apply List.ext_getElem?;intro j
   by_cases hj:j<ns.length
   ·simp [hj]
   simp [List.getElem?_eq_none (Nat.le_of_not_lt hj)]; omega
  refine ⟨.tuple #[],.tup [],C,_,rfl,⟨rfl,d'.toList.map (fun p=>ns[p.1]),?_,?_,rfl⟩,.tup [] [] rfl (fun i d v hd _=>by simp at hd),?_,⟨fun s o ho=>?_,fun s s' o o' x hne h1 h2 hu hu'=>?_,fun s o x ho hu=>?_⟩⟩
  ·have:=hperm.map fun p=>ns[p.1]
   rwa [hmapfin] at this
  ·intro i j hi hj hij
   have hi':i<d'.size:=by simpa using hi
   have hj':j<d'.size:=by simpa using hj
   have h7:=hs i j (Nat.zero_le _) hij (by rw [← hp1]; exact hj')
   rw [lt_names fun x:Fin ns.length=>(ns[x.1]).name] at h7;rw [getElem!_pos d' j hj',getElem!_pos d' i hi'] at h7
   simpa using h7
  ·exact ⟨hst.ext,hst.os,hst.tape,hst.output,fun x hx hF=>hst.keep x hx fun e=>by subst e; exact hF hFb⟩
  ·obtain ⟨rfl,rfl⟩:=hlook _ ho
   have hk':∀ x∈(d'.toList.map (fun p=>ns[p.1])).map encTop,x.cells.length=12:=fun x hx=>by obtain ⟨y,_,rfl⟩:=List.mem_map.1 hx; rfl
   refine ⟨some ⟨b,0,none⟩,cap,by simp [hd'n],by simp at hc ⊢; omega,hm,hk',fun ad had=>⟨b,by cases had; rfl,Nat.lt_of_lt_of_le (lt_of_heap hb) hst.ext.size⟩,
    fun _=>⟨b,_,rfl,hwb,by simp only [putCells,Array.size_mapIdx]; exact hvs,hC,fun j d hd=>?_⟩⟩
   have hj:j<d'.size*12:=by have:=lt_of_get hd; rw [flat_length hk'] at this; simpa using this
   have hq:j/12<d'.size:=by omega
   have hjv:j<vs.size:=by rw [hvs]; simp at hc; omega
   have hx:((d'.toList.map (fun p=>ns[p.1])).map encTop)[j/12]? = some (encTop ns[(d'[j/12]).1]):=by simp [hq]
   have hjj:j/12*12+j%12=j:=by omega
   have hd2:=flat_get hk' hx (j:=j%12) (by omega)
   rw [hjj,hd] at hd2;obtain ⟨d2,u,h5,h6,h7,h8,h9⟩:=nodeCells_get hcells d'[j/12] (c:=j%12) (by omega);rw [h5] at hd2
   cases hd2
   refine ⟨u,?_,h7.ext hst.ext,h8⟩;simp only [putCells,Array.getElem?_mapIdx,Array.getElem?_eq_getElem hjv,Option.map_some,Nat.zero_le,true_and,Nat.zero_add,size_flatK,hj,if_true,Nat.sub_zero,id];rw [hfk d' j hj,getElem!_pos d' _ hq]
   simp [h9,List.getElem!_eq_getElem?_getD]
  ·obtain ⟨rfl,rfl⟩:=hlook _ h1;obtain ⟨rfl,rfl⟩:=hlook _ h2;exact hne rfl
  obtain ⟨rfl,rfl⟩:=hlook _ ho;obtain ⟨n',c',h8,_⟩:=hu
  have:=slice_uses h8; subst this
  exact .inl hFb
theorem inc_get {l:List NV} (h:inc l) {i j:Nat} (hij:i<j) (hj:j<l.length):Op.bytesLess (l[i]'(by omega)).name (l[j]).name=true:=by
 have:=inc_lt' h hij hj
 simpa [List.getD,hj,show i<l.length by omega] using this
theorem inc_pairwise {l:List NV} (h:inc l):l.Pairwise fun a b=>Op.bytesLess b.name a.name=false :=
 List.pairwise_iff_getElem.2 fun i j hi hj hij=>bl_asymm (inc_get h hij hj)
theorem sorted_nodes {l l':List NV} (h:inc l) (hp:l'.Perm l) (hs:∀ (i j:Nat) (hi:i<l'.length) (hj:j<l'.length),i<j→Op.bytesLess (l'[j]).name (l'[i]).name=false):l'=l:=by
 refine List.Perm.eq_of_pairwise (le:=fun a b=>Op.bytesLess b.name a.name=false) (fun a b ha hb h1 h2=>?_) (List.pairwise_iff_getElem.2 fun i j hi hj hij=>hs i j hi hj hij) (inc_pairwise h) hp
 have hname:=bl_total _ _ h2 h1
 obtain ⟨i,hi,rfl⟩:=List.mem_iff_getElem.1 (hp.subset ha);obtain ⟨j,hj,rfl⟩:=List.mem_iff_getElem.1 hb
 rcases Nat.lt_trichotomy i j with e|e|e
 ·exact absurd hname (bl_ne (inc_get h e hj))
 ·subst e; rfl
 exact absurd hname.symm (bl_ne (inc_get h e hi))
theorem sorted_places {kids:List NV} (h:inc kids) {l:List (Fin kids.length)} (hp:l.Perm (List.finRange kids.length))
  (hs:∀ (i j:Nat) (hi:i<l.length) (hj:j<l.length),i<j→Op.bytesLess (kids[l[j].1]).name (kids[l[i].1]).name=false):l=List.finRange kids.length:=by
 refine List.Perm.eq_of_pairwise (le:=fun a b=>Op.bytesLess (kids[b.1]).name (kids[a.1]).name=false) (fun a b ha hb h1 h2=>?_) (List.pairwise_iff_getElem.2 fun i j hi hj hij=>hs i j hi hj hij)
  ((List.pairwise_lt_finRange _).imp fun {a b} hab=>bl_asymm (inc_get h hab b.2)) hp
 have hname:=bl_total _ _ h2 h1
 rcases Nat.lt_trichotomy a.1 b.1 with e|e|e
 ·exact absurd hname (bl_ne (inc_get h e b.2))
 ·exact Fin.ext e
 exact absurd hname.symm (bl_ne (inc_get h e a.2))
end Go.Tame.V
namespace Go.Tame
open Go Go.RowKit
variable {P:Program} {W0:World} {nt:Nat} {Γ:Ctx P W0 nt} {K:DExit→DSt→Prop}
theorem Tri.commitSt (s j:Nat) {v:Value} {xs:List D} {k e:Nat} {r:List (Nat×D)} {hs:List (Nat×HObj)} {c:Code} (hsn:look hs s=none)
  (h:Tri Γ c (St ((j,.sl .none k xs)::r) hs) K):Tri Γ c (St ((j,.raw v)::r) ((s,.row v xs k e)::hs)) K:=by
 have hnb:Nat.beq s s=true:=Nat.beq_refl s
 refine Tri.commit s (v:=v) (xs:=xs) (k:=k) (e:=e) (by simp only [St,look,hnb,cond_true]) (St ((j,.sl .none k xs)::r) hs) (fun w C hr i u hi=>?_) (fun i o ho=>?_) h
 ·simp only [St,look] at hi ⊢
  cases hb:Nat.beq i j with
  | true =>
   rw [hb] at hi;simp only [cond_true,Option.getD_some] at hi ⊢
   rw [hi.raw_inv]; exact hr.untag
  | false=>rw [hb] at hi; exact hi
 refine .inr ⟨fun e=>(by subst e; simp only [St] at ho; rw [hsn] at ho; cases ho),?_⟩
 simp only [St,look] at ho ⊢
 cases hb:Nat.beq i s with
 | true=>have:=beq_true hb; subst this; rw [hsn] at ho; cases ho
 | false=>simpa using ho
end Go.Tame
namespace Go.Tame.V
open Go Go.Proofs
variable {W0:World}
def places (n:Nat):List D:=(List.range n).map fun i=>Iv (i:Nat)
theorem places_fin (n:Nat):(List.finRange n).map (fun x=>encI x.1)=places n:=by
 apply List.ext_getElem?;intro j
 by_cases hj:j<n
 ·simp [places,encI,hj]
 rw [List.getElem?_eq_none (by simp; omega),List.getElem?_eq_none (by simp [places]; omega)]
theorem sort_places (kids:List NV) (h:inc kids) (hlen:kids.length<1000000) (bb:Nat) (v:Value) :
  DCall Tryz.prog W0 253 [.raw v,.fn (.func 254) [] [.box 2000 bb 0]] (look [(2001,.row v (places kids.length) 1 3),(2000,.box bb [.sl .none 12 (kids.map enc)])]) fun d H' =>
   d=.tup []∧H'=look [(2001,.row v (places kids.length) 1 3),(2000,.box bb [.sl .none 12 (kids.map enc)])]:=by
 by_cases h0:0<kids.length
 ·have hc:=F123 (W0:=W0) kids h0 hlen bb v (List.finRange kids.length) (by simpa using h0) (by simpa using hlen)
  rw [places_fin] at hc;refine hc.mono ?_;rintro d H' ⟨rfl,ds',hp,hs,rfl⟩;rw [sorted_places h hp hs,places_fin];exact ⟨rfl,rfl⟩
 have hn:kids.length=0:=by omega
 rw [hn];exact F123_nil v _ _
theorem _root_.Go.Tame.DCall.heapD {f:FuncId} {ds:List D} {Q:D→Heap→Prop} {H:Heap} {k s:Nat} {o:HObj} (h:H s=some o) (hc:DCall Tryz.prog W0 f ds (look [(k,o)]) Q):DCall Tryz.prog W0 f ds (handed H [(k,s)]) Q:=by
 have e:handed H [(k,s)]=look [(k,o)]:=by
  funext j
  simp only [handed,look]
  cases Nat.beq j k with
  | true=>exact h
  | false=>rfl
 rw [e]; exact hc
theorem comp3:∀ (l:List Int),l.length≤3→l.Pairwise (·≤·)→(Lib.compact l).Pairwise (·<·)∧∀ x,x∈Lib.compact l↔x∈l
 | [],_,_=>by simp [Lib.compact,Lib.compactUpTo]
 | [a],_,_=>by simp [Lib.compact,Lib.compactUpTo,Lib.keeps,List.range_succ]
 | [a,b],_,h=>by
  simp at h
  by_cases h1:a=b
  ·subst h1; simp [Lib.compact,Lib.compactUpTo,Lib.keeps,List.range_succ]
  have:¬ b=a:=fun e=>h1 e.symm
  simp [Lib.compact,Lib.compactUpTo,Lib.keeps,List.range_succ,List.filter_cons,h1,this]
  omega
 | [a,b,c],_,h=>by
  simp at h
  by_cases h1:b=a<;>by_cases h2:c=b
  ·subst h1; subst h2; simp [Lib.compact,Lib.compactUpTo,Lib.keeps,List.range_succ,List.filter_cons]
  ·subst h1; simp [Lib.compact,Lib.compactUpTo,Lib.keeps,List.range_succ,List.filter_cons,h2]; omega
  ·subst h2; simp [Lib.compact,Lib.compactUpTo,Lib.keeps,List.range_succ,List.filter_cons,h1]; omega
  simp [Lib.compact,Lib.compactUpTo,Lib.keeps,List.range_succ,List.filter_cons,h1,h2]; omega
 | _::_::_::_::_,h,_=>by simp at h
theorem inc_eq {a b:List Int} (ha:a.Pairwise (·<·)) (hb:b.Pairwise (·<·)) (h:∀ x,x∈a↔x∈b):a=b:=by
 have na:a.Nodup:=ha.imp fun h=>by omega
 have nb:b.Nodup:=hb.imp fun h=>by omega
 exact List.Perm.eq_of_pairwise (le:=fun x y:Int=>x<y) (fun x y _ _ h1 h2=>by omega) ha hb ((List.perm_ext_iff_of_nodup na nb).2 h)
theorem sortI_inc (l:List Int):(sortI l).Pairwise (·≤·):=by
 have:=List.pairwise_mergeSort (le:=fun x y:Int=>decide (x≤y)) (fun x y z h1 h2=>by simp only [decide_eq_true_eq] at *; omega) (fun x y=>by simp only [Bool.or_eq_true,decide_eq_true_eq]; omega) l
 exact this.imp fun h=>by simpa using h
theorem sortI_mem (l:List Int) (x:Int):x∈sortI l↔x∈l:=(List.mergeSort_perm l _).mem_iff
def anA (S L:Int):List Int:=[S+256,L-256,L]
def anK (S L k:Int):Bool:=bif decide (S≤k) then decide (k≤L) else false
def anO (S L:Int) (i:Nat):List Int:=((anA S L).take i).filter (anK S L)
theorem anO_len (S L:Int) (i:Nat):(anO S L i).length≤3:=by
 have h1:=List.length_filter_le (anK S L) ((anA S L).take i)
 rw [List.length_take] at h1
 have:(anA S L).length=3:=rfl
 have h2:(anO S L i).length≤_:=h1
 omega
theorem anO_next (S L:Int) {i:Nat} (h:i<(anA S L).length):anO S L (i+1)=anO S L i++(if anK S L ((anA S L)[i]'h)=true then [(anA S L)[i]'h] else []):=by
 rw [anO,List.take_succ_eq_append_getElem h,List.filter_append,← anO,List.filter_cons,List.filter_nil]
theorem anchL_inc (S L:Int) (n:Nat):(anchL S L n).Pairwise (·<·):=by
 rw [anchL];refine List.Pairwise.sublist List.filter_sublist ?_;rw [List.pairwise_map]
 exact (List.pairwise_lt_range).imp fun h=>by omega
theorem anch_eq {S C:Int} (h:sessOk S C=true):Lib.compact (sortI (anO S (S+C-1) 3))=anchV S C:=by
 obtain ⟨h1,h2,h3,h4⟩:=sessOk_iff.1 h
 obtain ⟨h5,h6⟩:=comp3 (sortI (anO S (S+C-1) 3)) (by rw [sortI_len]; exact anO_len _ _ _) (sortI_inc _)
 rw [anchV,if_pos h]
 refine inc_eq h5 (anchL_inc _ _ _) fun x=>?_
 rw [h6,sortI_mem,anO,anchL,List.mem_filter,List.mem_filter,List.mem_map]
 have hk:anK S (S+C-1) x=true↔S≤x∧x≤S+C-1:=by
  unfold anK
  cases h7:decide (S≤x)<;>simp at h7<;>simp<;>omega
 have hc:anchK S (S+C-1) x=true↔x=S+256∨x=S+C-1-256∨x=S+C-1:=by
  unfold anchK
  cases h7:x==S+256<;>cases h8:x==S+C-1-256<;>simp at h7 h8<;>simp<;>omega
 rw [hk,hc]
 have hm:x∈(anA S (S+C-1)).take 3↔x=S+256∨x=S+C-1-256∨x=S+C-1:=by simp [anA]
 rw [hm]
 constructor
 ·rintro ⟨h7,h8,h9⟩;exact ⟨⟨(x-S).toNat,List.mem_range.2 (by omega),by omega⟩,h7⟩
 rintro ⟨⟨j,hj,rfl⟩,h7⟩
 have:=List.mem_range.1 hj
 exact ⟨h7,by omega,by omega⟩
def sessBad (S C:Int):Bool:=bif (bif (bif decide (S<0) then true else decide (C<1)) then true else decide (4096<S)) then true else decide (4096-S<C)
theorem sessBad_iff (S C:Int):sessBad S C=!sessOk S C:=by
 unfold sessBad sessOk
 cases h1:decide (S<0)<;>cases h2:decide (C<1)<;>cases h3:decide (4096<S)<;>cases h4:decide (4096-S<C)<;>simp at h1 h2 h3 h4<;>simp<;>omega
theorem H16 (S C:Int):DFun Tryz.prog W0 16 [encSpan (S,C),.bool false] (.sl .none 1 (intsD (anchV S C))):=by
 refine Fi Tryz.func16 rfl Tryz.ntmps16 fun Γ=>?_
 apply Sr;(conv=>whnf);intro b2;apply Sq;apply Sr;apply Rl;apply Hh;apply Rl;apply Hh;refine Pk ?_;apply Hh;apply Rl;apply Hh;refine Pk ?_;apply Hh;apply Rl;apply Hh;apply Rl;apply Hh;(conv=>whnf)
 refine .inl ⟨fun h=>by simp only [InR]; revert h; cases h1:decide (S<0)<;>cases h2:decide (C<1)<;>cases h3:decide (4096<S)<;>simp<;>simp at h1 h2 h3<;>omega,?_⟩
 apply Hh;apply Hh;refine Pk ?_;refine Cd (sessBad S C) rfl (fun hc=>?_) (fun hc=>?_)
 ·apply Sr;apply Rt;(conv=>whnf)
  have h:¬ sessOk S C=true:=by rw [sessBad_iff] at hc; simpa using hc
  rw [anchV,if_neg h];exact DLe.nil
 apply Sk
 have h:sessOk S C=true:=by rw [sessBad_iff] at hc; simpa using hc
 obtain ⟨h1,h2,h3,h4⟩:=sessOk_iff.1 h;apply Sr;apply Rl;apply Rl;refine Ir ?_;refine Ir ?_;apply Sr;apply Rl;refine Ir ?_;refine Ir ?_;(conv=>whnf);refine ⟨trivial,?_⟩;(conv=>whnf);refine Tri.joinK (α:=Unit) (fun x=>[(2,.box 2 b2 0),(5,Iv (S+C-1)),(6,.sl .none 1 (intsD (anA S (S+C-1))))]) (fun x=>[(2,.box b2 [Iv S,Iv C])]) ?_ ?_
 ·apply Sr;refine Cd false rfl (fun hc=>?_) (fun hc=>?_)
  ·cases hc
  apply Sk;(conv=>whnf);exact ⟨(),[(2,2)],⟨.refl _,.refl _,DLe.untag _,trivial⟩,rfl,Y⟩
 rintro ⟨⟩;apply Sr;apply Sq;apply Sr;(conv=>whnf);refine Tri.rowNil 1000 1 3 ?_;apply Bk
 refine Tri.loopK (α:={ i:Nat // i≤3 }×Option Addr×Nat×Nat) (fun x=>[(2,.box 2 b2 0),(5,Iv (S+C-1)),(7,.raw (.slice x.2.1 x.2.2.1 x.2.2.2)),(47,.sl .none 1 (intsD (anA S (S+C-1)))),(48,Iv 3),(49,Iv x.1.1)])
  (fun x=>[(2,.box b2 [Iv S,Iv C]),(1000,.row (.slice x.2.1 x.2.2.1 x.2.2.2) (intsD (anO S (S+C-1) x.1.1)) 1 3)]) (fun x=>3-x.1.1) (⟨0,by omega⟩,none,0,0) [(2,2),(1000,1000)]
  ⟨⟨.refl _,.refl _,DLe.nilRaw,.refl _,.refl _,.refl _,trivial⟩,rfl,Y⟩ ?_
 rintro ⟨⟨i,hi⟩,aa,n1,cap⟩;dsimp only at hi ⊢
 have hol:=anO_len S (S+C-1) i
 have hAl:(anA S (S+C-1)).length=3:=rfl
 apply Sr;apply Sq;refine Cd (decide ((i:Int)<3)) rfl (fun hc=>?_) (fun hc=>?_)
 ·apply Sk
  have hia:i<3:=by have:=of_decide_eq_true hc; omega
  have hia':i<(anA S (S+C-1)).length:=hia
  have hnx:=anO_next S (S+C-1) hia'
  have hget:(intsD (anA S (S+C-1)))[i]? = some (.int .i64 ((anA S (S+C-1))[i]'hia')):=by rw [intsD,List.getElem?_map,List.getElem?_eq_getElem hia']; rfl
  generalize (anA S (S+C-1))[i]'hia'=kk at *;generalize hAO:anO S (S+C-1) i=AO at *
  have hel:(intsD AO).length=AO.length:=by simp [intsD]
  apply Sq;apply Bk;apply Sr;(conv=>whnf)
  refine ⟨fun _=>by simp [intsD]; omega,?_⟩
  conv=>whnf
  refine ⟨Iv kk,fun _=>by rw [Int.toNat_natCast]; exact hget,?_⟩
  apply Sr;apply Rl;apply Hh;apply Hh;refine Pk ?_;refine Cd (anK S (S+C-1) kk) rfl (fun hc=>?_) (fun hc=>?_)
  ·refine Tri.regionX ti_ok ?_;(conv=>whnf);refine ⟨trivial,?_⟩;(conv=>whnf)
   refine .inr (XOp.rowAppend ti_ok 1000 rfl rfl rfl (fun h=>by cases h) rfl rfl rfl (Nat.zero_lt_one) (by show (_+1)*8≤_; omega) (by show _+1≤_; omega) fun aa2 m2 cap2=>?_)
   apply Rg;refine Ir ?_;(conv=>whnf);rw [if_pos hc] at hnx
   have he:intsD AO++[Iv kk]=intsD (anO S (S+C-1) (i+1)):=by rw [hnx]; simp [intsD]
   exact ⟨(⟨i+1,by omega⟩,aa2,m2,cap2),[(2,2),(1000,65)],by show 3-(i+1)<3-i; omega,Z,rfl,rfl,rfl,rfl,congrArg (fun z=>some (HObj.row (.slice aa2 m2 cap2) z 1 3)) he,trivial⟩
  apply Sk;apply Rg;refine Ir ?_;(conv=>whnf)
  rw [if_neg (by rw [hc]; decide),List.append_nil] at hnx
  exact ⟨(⟨i+1,by omega⟩,aa,n1,cap),[(2,2),(1000,1000)],by show 3-(i+1)<3-i; omega,Z,rfl,rfl,rfl,rfl,congrArg (fun z=>some (HObj.row (.slice aa n1 cap) (intsD z) 1 3)) hnx.symm,trivial⟩
 have hin:i=3:=by have:=of_decide_eq_false hc; omega
 subst hin
 refine Tri.rowKnow0 1000 rfl fun a3 cap3 hv hcc hmm=>?_
 simp only [Value.slice.injEq] at hv;obtain ⟨rfl,hn1,rfl⟩:=hv
 have hn2:n1=(anO S (S+C-1) 3).length:=by rw [hn1]; simp [intsD]
 refine Tri.exit ?_;apply Sq;refine Tri.regionX ti_ok ?_;(conv=>whnf);refine .inr (XOp.call rfl [.raw (.slice aa n1 cap)] [(2000,1000)] (DCall.heapD rfl (H49 (anO S (S+C-1) 3) aa n1 cap hn2 (by omega))) rfl Z ?_);rintro d H' ⟨rfl,rfl⟩;refine ⟨_,.refl _,?_⟩;apply Sq;refine Tri.regionX ti_ok ?_;(conv=>whnf)
 refine .inr (XOp.call rfl [.raw (.slice aa n1 cap)] [(2000,1000)] (DCall.heapD rfl (H50 (sortI (anO S (S+C-1) 3)) aa n1 cap (by rw [sortI_len]; exact hn2) (by rw [sortI_len]; omega))) rfl Z ?_)
 rintro d H' ⟨m,hm,rfl,rfl⟩;rw [anch_eq h];refine ⟨_,.refl _,?_⟩;(conv=>whnf);refine Tri.forgetK [(4,.raw (.slice aa m cap))] [(1000,.row (.slice aa m cap) (intsD (anchV S C)) 1 3)] [(1000,1000)] ⟨Z,rfl,Y⟩ ?_;refine Tri.commitSt 1000 4 rfl ?_;apply Rt;(conv=>whnf);exact .refl _
theorem H39 (m:MV) (S C:Int):DFun Tryz.prog W0 39 [encM m,encSpan (S,C)] (.sl .none 1 (intsD (rsvV m S C))):=by
 refine Fi Tryz.func39 rfl Tryz.ntmps39 fun Γ=>?_
 apply Sr;(conv=>whnf);intro b2;(conv=>whnf);intro b3;apply Sq;apply Sr;apply Rl;(conv=>whnf);refine ⟨[Iv m.views,Iv 3],_,fun _=>H35 m.views 3 (by decide),Z,?_⟩;refine Cd (!hasV m.views 3) rfl (fun hc=>?_) (fun hc=>?_)
 ·apply Sr;apply Rt;(conv=>whnf)
  rw [rsvV,if_neg (by simpa using hc)]; exact DLe.nil
 apply Sk;apply Sr;apply Rl;(conv=>whnf);refine ⟨[encSpan (S,C),.bool false],_,fun _=>H16 S C,Z,?_⟩;apply Rt;(conv=>whnf)
 rw [rsvV,if_pos (by simpa using hc)]; exact .refl _
structure FV where
 path:List UInt8
 start:Int
 len:Int
def encF (f:FV):D:=.agg [.str f.path,Iv f.start,Iv f.len]
structure LV where
 S:Int
 C:Int
 iS:Int
 iC:Int
 kind:Int
 opn:Bool
 uS:Int
 uC:Int
 recg:Int
 pS:Int
 pC:Int
 blocks:List Int
 commit:Int
 spS:Int
 spC:Int
 files:List FV
def encLay (l:LV):D:=.agg [Iv l.S,Iv l.C,Iv l.iS,Iv l.iC,Iv l.kind,.bool l.opn,Iv l.uS,Iv l.uC,Iv l.recg,Iv l.pS,Iv l.pC,.sl .none 1 (intsD l.blocks),Iv l.commit,Iv l.spS,Iv l.spC,.sl .none 3 (l.files.map encF)]
def okLay (m:MV) (S C:Int):Bool:=validM m&&sessOk S C
def badR (m:MV) (S C:Int):Bool:=bif (bif (bif (bif !validM m then true else decide (S<0)) then true else decide (C<1)) then true else decide (4096<S)) then true else decide (4096-S<C)
def badP (m:MV) (S C:Int):Bool:=bif (bif (bif (bif !validM m then true else decide (S<0)) then true else decide (4096<S)) then true else decide (C<1)) then true else decide (4096-S<C)
theorem badR_iff (m:MV) (S C:Int):badR m S C=!okLay m S C:=by
 unfold badR okLay sessOk
 cases validM m<;>cases h1:decide (S<0)<;>cases h2:decide (C<1)<;>cases h3:decide (4096<S)<;>cases h4:decide (4096-S<C)<;>simp at h1 h2 h3 h4<;>simp<;>omega
theorem badP_iff (m:MV) (S C:Int):badP m S C=!okLay m S C:=by
 unfold badP okLay sessOk
 cases validM m<;>cases h1:decide (S<0)<;>cases h2:decide (C<1)<;>cases h3:decide (4096<S)<;>cases h4:decide (4096-S<C)<;>simp at h1 h2 h3 h4<;>simp<;>omega
theorem okLay_iff {m:MV} {S C:Int}:okLay m S C=true↔validM m=true∧0≤S∧1≤C∧S≤4096∧C≤4096-S:=by
 unfold okLay; rw [Bool.and_eq_true,sessOk_iff]
def descM (m:MV):Int:=if hasV m.views 0=true then descV (optM m) else 0
def fileOk (f:FV):Bool:=bif decide (0<f.len) then decide (f.len≤8388608) else false
def blkM (S C:Int) (u:List Bool) (l:List Int):List Bool:=foldM S C u (l.map fun b=>(b,1))
def filS (S C:Int) (u:List Bool) (f:FV):List Bool:=if fileOk f=true then markV S C u f.start (blkV f.len) else u
def filM (S C:Int) (u:List Bool) (l:List FV):List Bool:=l.foldl (filS S C) u
def usedV (l:LV) (m:MV):List Bool :=
 filM l.S l.C (blkM l.S l.C (markV l.S l.C (markV l.S l.C (List.replicate l.C.toNat false) l.S (min (firstV m (descM m) l.S-l.S) l.C)) l.iS l.iC) (l.blocks++rsvV m l.S l.C)) l.files
def bump (l:List (Int×Int)):List (Int×Int):=l.set (l.length-1) ((l.getD (l.length-1) (0,0)).1,(l.getD (l.length-1) (0,0)).2+1)
def runStep (S:Int) (u:List Bool) (i:Nat) (l:List (Int×Int)):List (Int×Int) :=
 if u.getD i false=false then l else if 0<i∧u.getD (i-1) false=true then bump l else l++[(S+(i:Int),1)]
def runsV (S:Int) (u:List Bool):Nat→List (Int×Int)
 | 0=>[]
 | i+1=>runStep S u i (runsV S u i)
def spansV (l:LV) (m:MV):List (Int×Int):=if okLay m l.S l.C=true then runsV l.S (usedV l m) l.C.toNat else []
theorem blkM_len (S C:Int) (u:List Bool) (l:List Int):(blkM S C u l).length=u.length:=foldM_len _ _ _ _
theorem blkM_next (S C:Int) (u:List Bool) {l:List Int} {i:Nat} (h:i<l.length):blkM S C u (l.take (i+1))=markV S C (blkM S C u (l.take i)) l[i] 1:=by
 unfold blkM
 rw [List.map_take,List.map_take,foldM_next S C u (i:=i) (by rw [List.length_map]; exact h)]
 simp
theorem filS_len (S C:Int) (u:List Bool) (f:FV):(filS S C u f).length=u.length:=by
 unfold filS
 split
 ·exact markV_len _ _ _ _ _
 rfl
theorem filM_len (S C:Int):∀ (l:List FV) (u:List Bool),(filM S C u l).length=u.length
 | [],u=>rfl
 | x::l,u=>by rw [filM,List.foldl_cons,← filM,filM_len S C l,filS_len]
theorem filM_next (S C:Int) (u:List Bool) {l:List FV} {i:Nat} (h:i<l.length):filM S C u (l.take (i+1))=filS S C (filM S C u (l.take i)) l[i]:=by
 rw [filM,List.take_succ_eq_append_getElem h,List.foldl_append]; rfl
theorem runStep_len (S:Int) (u:List Bool) (i:Nat) (l:List (Int×Int)):(runStep S u i l).length≤l.length+1:=by
 unfold runStep bump
 split
 ·omega
 split
 ·rw [List.length_set]; omega
 simp
theorem runs_len (S:Int) (u:List Bool):∀ i,(runsV S u i).length≤i
 | 0=>Nat.le_refl _
 | i+1=>by have:=runs_len S u i; have:=runStep_len S u i (runsV S u i); rw [runsV]; omega
theorem runs_ne (S:Int) (u:List Bool):∀ {i:Nat},u.getD i false=true→0<(runsV S u (i+1)).length
 | 0,h=>by rw [runsV,runStep,if_neg (by rw [h]; decide),if_neg (by omega)]; simp
 | i+1,h=>by
  rw [runsV,runStep,if_neg (by rw [h]; decide)]
  split
  ·rename_i h2
   have:=runs_ne S u (i:=i) (by simpa using h2.2)
   rw [bump,List.length_set]; exact this
  simp
theorem runs_cnt (S:Int) (u:List Bool):∀ (i:Nat) x,x∈runsV S u i→1≤x.2∧x.2≤i
 | 0,x,h=>by cases h
 | i+1,x,h=>by
  have ih:=runs_cnt S u i
  rw [runsV,runStep] at h
  split at h
  ·have:=ih x h; omega
  split at h
  ·rename_i h1 h2
   have hne:=runs_ne S u h2.2
   rw [show i-1+1=i by omega] at hne
   rcases List.mem_or_eq_of_mem_set h with h3|h3
   ·have:=ih x h3; omega
   subst h3
   have hm:(runsV S u i).getD ((runsV S u i).length-1) (0,0)∈runsV S u i:=by
    rw [List.getD_eq_getElem?_getD,List.getElem?_eq_getElem (by omega),Option.getD_some]; exact List.getElem_mem _
   have:=ih _ hm
   show 1≤_+1∧_+1≤_
   omega
  rcases List.mem_append.1 h with h3|h3
  ·have:=ih x h3; omega
  simp at h3; subst h3; show (1:Int)≤1∧(1:Int)≤_; omega
theorem encSpan_get {l:List (Int×Int)} {i:Nat} (h:i<l.length):(l.map encSpan)[((i:Int)).toNat]? = some (encSpan l[i]):=by simp [h]
theorem H11 (a b:List (Int×Int)) (ha:a.length<1000000) (hb:b.length<1000000):DFun Tryz.prog W0 11 [.sl .none 2 (a.map encSpan),.sl .none 2 (b.map encSpan)] (.bool (a==b)):=by
 refine Fi Tryz.func11 rfl Tryz.ntmps11 fun Γ=>?_
 apply Sr;apply Sq;apply Sr;refine Cd _ rfl (fun hc=>?_) (fun hc=>?_)
 ·apply Sr;apply Rt;(conv=>whnf)
  exact DLe.of_eq (congrArg D.bool (Eq.symm (by
   rw [beq_eq_false_iff_ne]; intro e; subst e; simp at hc)))
 apply Sk
 have hlen:a.length=b.length:=by simp at hc; omega
 apply Sq;apply Sr;apply Bk;refine Tri.loop (α:={ i:Nat // i≤a.length∧a.take i=b.take i }) (fun x=>[(0,.sl .none 2 (a.map encSpan)),(1,.sl .none 2 (b.map encSpan)),(12,Iv (a.map encSpan).length),(13,Iv x.1)]) (fun _=>[]) (fun x=>a.length-x.1) ⟨0,by omega,rfl⟩ Z trivial ?_;rintro ⟨i,hi,hti⟩;dsimp only at hi hti ⊢;apply Sr;apply Sq;refine Cd (decide ((i:Int)<(a.map encSpan).length)) rfl (fun hc=>?_) (fun hc=>?_)
 ·apply Sk
  have hia:i<a.length:=by simpa using hc
  have hib:i<b.length:=by omega
  apply Sq;apply Bk;apply Sr;apply Sq;refine Tri.draw ti_ok mixed (by kernel_rfl) ?_;(conv=>whnf);refine Sp ?_;(conv=>whnf);refine ⟨encSpan a[i],fun _=>encSpan_get hia,?_⟩;(conv=>whnf);refine Sp ?_;(conv=>whnf);refine ⟨encSpan b[i],fun _=>encSpan_get hib,?_⟩;refine Cd _ rfl (fun hc=>?_) (fun hc=>?_)
  ·apply Sr;apply Rt;(conv=>whnf)
   exact DLe.of_eq (congrArg D.bool (Eq.symm (by
    rw [beq_eq_false_iff_ne]; intro e; subst e; simp at hc)))
  apply Sk;apply Rg;refine Ir ?_;(conv=>whnf)
  have hxy:a[i]=b[i]:=by
   generalize a[i]=x at *; generalize b[i]=y at *
   obtain ⟨x1,x2⟩:=x; obtain ⟨y1,y2⟩:=y
   simp at hc; rw [hc.1,hc.2]
  exact ⟨⟨i+1,hia,by rw [List.take_succ_eq_append_getElem hia,List.take_succ_eq_append_getElem hib,hti,hxy]⟩,by show a.length-(i+1)<a.length-i; omega,Z,trivial⟩
 refine Tri.exit ?_;apply Sr;apply Rt;(conv=>whnf)
 exact DLe.of_eq (congrArg D.bool (Eq.symm (by
  have hin:i=a.length:=by simp at hc; omega
  rw [List.take_of_length_le (by omega),List.take_of_length_le (by omega)] at hti
  rw [hti]; simp)))
theorem descM_range (m:MV):0≤descM m∧descM m≤100:=by
 unfold descM
 split
 ·unfold descV; split<;>split<;>omega
 omega
theorem encF_get {l:List FV} {i:Nat} (h:i<l.length):(l.map encF)[((i:Int)).toNat]? = some (encF l[i]):=by simp [h]
theorem ints_get {l:List Int} {i:Nat} (h:i<l.length):(intsD l)[((i:Int)).toNat]? = some (.int .i64 l[i]):=by simp [intsD,h]
theorem firstV_range (m:MV) (d S:Int) (h:0≤d) (h2:d≤100):S+16≤firstV m d S∧firstV m d S≤S+200:=by
 unfold firstV; split<;>omega
theorem rsv_len (m:MV) (S C:Int):(rsvV m S C).length≤C.toNat:=by
 unfold rsvV
 split
 ·unfold anchV
  split
  ·exact anchL_len _ _ _
  simp
 simp
theorem rsv_mem {m:MV} {S C b:Int} (h:b∈rsvV m S C):S≤b∧b≤8192:=by
 unfold rsvV at h
 split at h
 ·unfold anchV at h
  split at h
  ·rename_i h1 h2
   obtain ⟨h3,h4,h5,h6⟩:=sessOk_iff.1 h2;rw [anchL,List.mem_filter,List.mem_map] at h;obtain ⟨⟨j,hj,rfl⟩,_⟩:=h
   have:=List.mem_range.1 hj
   omega
  cases h
 cases h
abbrev runRow (S:Int) (u:List Bool) (i:Nat):List D:=(runsV S u i).map encSpan
theorem H13 (l:LV) (m:MV) (hfn:l.files.length≤50) (hbn:l.blocks.length≤300) (hmb:m.boot.length<1000000) (h1:l.iS≤9223372036854775807) (h2:∀ b∈l.blocks,b≤9223372036854775807) (h3:∀ f∈l.files,f.start≤9223372036854775807):DFun Tryz.prog W0 13 [encLay l,encM m] (.sl .none 2 ((spansV l m).map encSpan)):=by
 refine Fi Tryz.func13 rfl Tryz.ntmps13 fun Γ=>?_
 obtain ⟨S,C,iS,iC,kind,opn,uS,uC,recg,pS,pC,blocks,commit,spS,spC,files⟩:=l;dsimp only at hfn hbn h1 h2 h3
 have hdr:=descM_range m
 have hfr:=firstV_range m (descM m) S hdr.1 hdr.2
 apply Sr;(conv=>whnf);intro b2;(conv=>whnf);intro b3;apply Sr;apply Rl;(conv=>whnf);intro b5;apply Rl;apply Sq;apply Sr;apply Rl;(conv=>whnf);refine ⟨[encM m],_,fun _=>H41 m,Z,?_⟩;apply Hh;apply Rl;apply Hh;refine Pk ?_;apply Hh;apply Rl;apply Hh;refine Pk ?_;apply Hh;apply Rl;apply Hh;refine Pk ?_;apply Hh;apply Rl;apply Hh;apply Rl;apply Hh;(conv=>whnf)
 refine .inl ⟨fun h=>by simp only [InR]; revert h; cases validM m<;>cases h1:decide (S<0)<;>cases h2:decide (C<1)<;>cases h3:decide (4096<S)<;>simp<;>simp at h1 h2 h3<;>omega,?_⟩
 apply Hh;apply Hh;refine Pk ?_;refine Cd (badR m S C) rfl (fun hc=>?_) (fun hc=>?_)
 ·apply Sr;apply Rt;(conv=>whnf);rw [badR_iff] at hc
  rw [spansV,if_neg (by simpa using hc)]; exact DLe.nil
 apply Sk;rw [badR_iff] at hc
 have hok:okLay m S C=true:=by simpa using hc
 obtain ⟨hv,hS,hC,hS2,hC2⟩:=okLay_iff.1 hok;obtain ⟨N,rfl⟩:∃ N:Nat,C=N:=⟨C.toNat,by omega⟩;rw [spansV,if_pos hok]
 have hrl:(intsD (rsvV m S N)).length≤N:=by rw [intsD,List.length_map]; have:=rsv_len m S N; omega
 have hbl:(intsD blocks).length=blocks.length:=by simp [intsD]
 apply Sq;refine Tri.regionX ti_ok ?_;apply Il;apply Rl;(conv=>whnf)
 refine .inr (XOp.makeRow ti_ok (n:=N) rfl rfl rfl rfl rfl rfl rfl (by show 1*N≤_; omega) (by omega) fun uv=>?_)
 conv=>whnf
 refine Tri.rowKnow0 44 rfl fun ua ucap huv huc hum=>?_
 rw [List.length_replicate] at huv;subst huv;apply Sr;(conv=>whnf);intro b7;(conv=>whnf);refine Tri.joinK (α:=Unit) (fun x=>[(2,.box 2 b2 0),(3,.box 3 b3 0),(5,.box 5 b5 0),(6,.raw (.slice ua N ucap)),(7,.box 7 b7 0)]) (fun x=>[(2,.box b2 (encLay ⟨S,N,iS,iC,kind,opn,uS,uC,recg,pS,pC,blocks,commit,spS,spC,files⟩).cells),(3,.box b3 (encM m).cells),(5,.box b5 [Iv S,Iv N]),(44,.row (.slice ua N ucap) (bls (List.replicate N false)) 1 4),(7,.box b7 [Iv (descM m),Iv 0,Iv 0])]) ?_ ?_
 ·apply Sr;apply Rl;(conv=>whnf);refine ⟨[Iv m.views,Iv 0],_,fun _=>H42 m.views 0 (by decide),Z,?_⟩;refine Cd (hasV m.views 0) rfl (fun hc=>?_) (fun hc=>?_)
  ·apply Rg;apply Rl;(conv=>whnf);refine ⟨[encM m],_,fun _=>H44 m hmb,Z,?_⟩;(conv=>whnf);refine ⟨[encO (optM m)],_,fun _=>H43 (optM m),Z,?_⟩;apply Rl;(conv=>whnf);exact ⟨(),[(2,2),(3,3),(5,5),(44,44),(7,7)],Z,rfl,rfl,rfl,rfl,rfl,rfl,rfl,rfl,congrArg (fun z=>some (HObj.row (.slice ua N ucap) z 1 4)) (by simp [bls]),rfl,congrArg (fun z=>some (HObj.box b7 [Iv z,Iv 0,Iv 0])) (by rw [descM,if_pos hc]),trivial⟩
  apply Sk;(conv=>whnf)
  exact ⟨(),[(2,2),(3,3),(5,5),(44,44),(7,7)],Z,rfl,rfl,rfl,rfl,rfl,rfl,rfl,rfl,congrArg (fun z=>some (HObj.row (.slice ua N ucap) z 1 4)) (by simp [bls]),rfl,congrArg (fun z=>some (HObj.box b7 [Iv z,Iv 0,Iv 0])) (by rw [descM,if_neg (by rw [hc]; decide)]),trivial⟩
 rintro ⟨⟩;apply Sr;apply Rl;apply Rl;apply Rl;(conv=>whnf);refine ⟨[encM m,encSz (descM m) 0 0,Iv S],_,fun _=>H45 m (descM m) 0 0 S hS hS2 hdr.1 hdr.2,Z,?_⟩;apply Sq;refine Tri.regionX ti_ok ?_;apply Il;apply Rl;apply Il;apply Rl;apply Il;apply Rl;refine Ir ?_;apply Il;apply Rl;(conv=>whnf)
 refine .inr (XOp.call rfl [.raw (.slice ua N ucap),encSpan (S,N),Iv S,Iv (min (firstV m (descM m) S-S) N)] [(3007,44)] (DCall.heapD rfl (H46 S N S (min (firstV m (descM m) S-S) N) hS hS2 hC (by omega) (by omega) (List.replicate N false) (by simp) ua N ucap)) rfl ⟨.refl _,.refl _,.refl _,intDLe (by rw [Int.min_def]; split<;>split<;>omega),trivial⟩ ?_)
 rintro d H' ⟨rfl,rfl⟩;refine ⟨_,.refl _,?_⟩;apply Sq;refine Tri.regionX ti_ok ?_;apply Il;apply Rl;apply Il;apply Rl;apply Il;apply Rl;(conv=>whnf)
 refine .inr (XOp.call rfl [.raw (.slice ua N ucap),encSpan (S,N),Iv iS,Iv iC] [(3007,44)] (DCall.heapD rfl (H46 S N iS iC hS hS2 hC (by omega) h1 (markV S N (List.replicate N false) S (min (firstV m (descM m) S-S) N)) (by rw [markV_len]; simp) ua N ucap)) rfl Z ?_)
 rintro d H' ⟨rfl,rfl⟩;refine ⟨_,.refl _,?_⟩;apply Sq
 refine Tri.bitsG ti_ok mixed (α:=Value×Value) (fun y f=>[(2,.box 2 b2 0),(5,.box 5 b5 0),(3,.box 3 b3 0),(6,.raw (.slice ua N ucap)),(78,bif f 0 then .sl .full 1 [] else .any),(79,bif f 1 then .box 2 b2 4 else .any),(80,bif f 2 then .box 2 b2 11 else .any),(81,bif f 3 then .sl .none 1 (intsD blocks) else .any),(82,bif f 4 then .sl (.own 82 y.1) 1 (intsD blocks) else .any),(83,bif f 5 then encM m else .any),(84,bif f 6 then encSpan (S,N) else .any),(85,bif f 7 then .sl .none 1 (intsD (rsvV m S N)) else .any),(86,bif f 8 then .sl (.own 86 y.2) 1 (intsD blocks++intsD (rsvV m S N)) else .any),(9,bif f 9 then .sl (.own 86 y.2) 1 (intsD blocks++intsD (rsvV m S N)) else .any)])
  (fun y f=>look ([(2,.box b2 (encLay ⟨S,N,iS,iC,kind,opn,uS,uC,recg,pS,pC,blocks,commit,spS,spC,files⟩).cells),(3,.box b3 (encM m).cells),(5,.box b5 [Iv S,Iv N]),(44,.row (.slice ua N ucap) (bls (markV S N (markV S N (List.replicate N false) S (min (firstV m (descM m) S-S) N)) iS iC)) 1 4)]++(bif f 8 then [(86,.own y.2 ((intsD blocks).length+(intsD (rsvV m S N)).length) 1 3)] else bif f 4 then [(82,.own y.1 (0+(intsD blocks).length) 1 3)] else []))) (by decide +kernel) (Value.nilFunc,Value.nilFunc) ?_ ?_ ?_ ?_
 ·exact ⟨.refl _,.refl _,.refl _,.refl _,.any _,.any _,.any _,.any _,.any _,.any _,.any _,.any _,.any _,.any _,trivial⟩
 ·exact SubHF.of (hs:=[(2,.box b2 (encLay ⟨S,N,iS,iC,kind,opn,uS,uC,recg,pS,pC,blocks,commit,spS,spC,files⟩).cells),(3,.box b3 (encM m).cells),(5,.box b5 [Iv S,Iv N]),(44,.row (.slice ua N ucap) (bls (markV S N (markV S N (List.replicate N false) S (min (firstV m (descM m) S-S) N)) iS iC)) 1 4)]) ⟨rfl,Y⟩
 ·(conv=>whnf);refine ⟨fun y f hI=>?_,?_⟩
  ·obtain ⟨f,rfl⟩:= hI.o f 4 0;obtain ⟨f,rfl⟩:= hI.o f 8 4 (hI.n 4 0);obtain ⟨f,rfl⟩:= hI.o f 9 0;apply Ti;(conv=>whnf);refine ⟨trivial,?_⟩;(conv=>whnf);exact Ex y
  refine Qo ?_;refine Qo ?_;refine ⟨fun y f hI=>?_,?_⟩
  ·obtain ⟨f,rfl⟩:= hI.o f 4 3;obtain ⟨f,rfl⟩:= hI.o f 8 4 (hI.n 4 3);obtain ⟨f,rfl⟩:= hI.o f 9 3;apply Ti;apply Rl;(conv=>whnf);exact Ex y
  refine ⟨fun y f hI=>?_,?_⟩
  ·obtain ⟨f,rfl⟩:= hI.o f 8 4;obtain ⟨f,rfl⟩:= hI.o f 9 4;apply Ti;(conv=>whnf)
   refine ⟨by show (0+(intsD blocks).length)*8≤_; rw [hbl]; omega,by show 0+(intsD blocks).length≤_; rw [hbl]; omega,(fun h=>by cases h),fun v=>?_⟩
   (conv=>whnf);exact Ex (v,y.2) (SubHF.of (hs:=[(2,.box b2 (encLay ⟨S,N,iS,iC,kind,opn,uS,uC,recg,pS,pC,blocks,commit,spS,spC,files⟩).cells),(3,.box b3 (encM m).cells),(5,.box b5 [Iv S,Iv N]),(44,.row (.slice ua N ucap) (bls (markV S N (markV S N (List.replicate N false) S (min (firstV m (descM m) S-S) N)) iS iC)) 1 4),(82,.own v (0+(intsD blocks).length) 1 3)]) ⟨rfl,Y⟩)
  refine ⟨fun y f hI=>?_,?_⟩
  ·obtain ⟨f,rfl⟩:= hI.o f 8 7 (hI.n 7 5);obtain ⟨f,rfl⟩:= hI.o f 9 5;apply Ti;apply Rl;(conv=>whnf);exact Ex y
  refine ⟨fun y f hI=>?_,?_⟩
  ·obtain ⟨f,rfl⟩:= hI.o f 8 7 (hI.n 7 6);obtain ⟨f,rfl⟩:= hI.o f 9 6;apply Ti;apply Rl;(conv=>whnf);exact Ex y
  refine ⟨fun y f hI=>?_,?_⟩
  ·obtain ⟨f,rfl⟩:= hI.o f 8 7;obtain ⟨f,rfl⟩:= hI.o f 9 7;apply Ti;(conv=>whnf);refine ⟨[encM m,encSpan (S,N)],_,fun _=>H47 m S N,Z,?_⟩;(conv=>whnf);exact Ex y
  refine ⟨fun y f hI=>?_,?_⟩
  ·obtain ⟨f,rfl⟩:= hI.o f 9 8;apply Ti;(conv=>whnf);refine ⟨rfl,by simp,?_⟩;(conv=>whnf)
   refine ⟨by show ((intsD blocks).length+(intsD (rsvV m S N)).length)*8≤_; rw [hbl]; omega,by show (intsD blocks).length+(intsD (rsvV m S N)).length≤_; rw [hbl]; omega,(fun h=>by cases h),fun v=>?_⟩
   (conv=>whnf);exact Ex (y.1,v) (SubHF.of (hs:=[(2,.box b2 (encLay ⟨S,N,iS,iC,kind,opn,uS,uC,recg,pS,pC,blocks,commit,spS,spC,files⟩).cells),(3,.box b3 (encM m).cells),(5,.box b5 [Iv S,Iv N]),(44,.row (.slice ua N ucap) (bls (markV S N (markV S N (List.replicate N false) S (min (firstV m (descM m) S-S) N)) iS iC)) 1 4),(86,.own v ((intsD blocks).length+(intsD (rsvV m S N)).length) 1 3)]) ⟨rfl,Y⟩)
  refine Qo ?_;exact trivial
 intro y f hfl;(conv=>whnf);refine Tri.forgetG [(2,.box 2 b2 0),(5,.box 5 b5 0),(6,.raw (.slice ua N ucap)),(9,.sl .none 1 (intsD (blocks++rsvV m S N)))] (look [(2,.box b2 (encLay ⟨S,N,iS,iC,kind,opn,uS,uC,recg,pS,pC,blocks,commit,spS,spC,files⟩).cells),(5,.box b5 [Iv S,Iv N]),(44,.row (.slice ua N ucap) (bls (markV S N (markV S N (List.replicate N false) S (min (firstV m (descM m) S-S) N)) iS iC)) 1 4)]) (.same ⟨.refl _,.refl _,.refl _,?_,trivial⟩ (SubHF.of ⟨rfl,Y⟩)) ?_
 ·show DLe (bif f 9 then _ else _) _
  rw [hfl 9 (by decide +kernel)]; exact (DLe.of_eq (congrArg (D.sl (.own 86 y.2) 1) (by simp [intsD]))).trans DLe.unown
 have hU2l:(markV S N (markV S N (List.replicate N false) S (min (firstV m (descM m) S-S) N)) iS iC).length=N:=by rw [markV_len,markV_len]; simp
 generalize hU2:(markV S N (markV S N (List.replicate N false) S (min (firstV m (descM m) S-S) N)) iS iC)=U2 at *
 have hmore:∀ b∈(blocks++rsvV m S N),b≤9223372036854775807:=fun b hb=>by
  rcases List.mem_append.1 hb with h|h
  ·exact h2 b h
  have:=rsv_mem h; omega
 have hml:(blocks++rsvV m S N).length≤5000:=by rw [List.length_append]; have:=rsv_len m S N; omega
 have hus:usedV ⟨S,N,iS,iC,kind,opn,uS,uC,recg,pS,pC,blocks,commit,spS,spC,files⟩ m=filM S N (blkM S N U2 (blocks++rsvV m S N)) files:=by rw [← hU2]; rfl
 rw [hus];generalize hMO:(blocks++rsvV m S N)=more at *;apply Sq;apply Sr;apply Bk
 refine Tri.loopK (α:={ i:Nat // i≤more.length }) (fun x=>[(2,.box 2 b2 0),(5,.box 5 b5 0),(6,.raw (.slice ua N ucap)),(9,.sl .none 1 (intsD more)),(10,Iv x.1)])
  (fun x=>[(2,.box b2 (encLay ⟨S,N,iS,iC,kind,opn,uS,uC,recg,pS,pC,blocks,commit,spS,spC,files⟩).cells),(5,.box b5 [Iv S,Iv N]),(44,.row (.slice ua N ucap) (bls (blkM S N U2 (more.take x.1))) 1 4)]) (fun x=>more.length-x.1) ⟨0,by omega⟩ [(2,2),(5,5),(44,44)]
  ⟨Z,rfl,Y⟩ ?_
 rintro ⟨i,hi⟩;dsimp only at hi ⊢
 have hUl:(blkM S N U2 (more.take i)).length=N:=by rw [blkM_len,hU2l]
 apply Sq;apply Sr;refine Cd (decide ((i:Int)<(intsD more).length)) rfl (fun hc=>?_) (fun hc=>?_)
 ·apply Sk
  have hia:i<more.length:=by simpa [intsD] using hc
  have hnx:=blkM_next S N U2 hia
  have hbx:=hmore more[i] (List.getElem_mem _)
  apply Sq;apply Bk;refine Tri.drawTailX ti_ok 6 mixed (by kernel_rfl) ?_;apply Rl;(conv=>whnf)
  refine ⟨fun _=>by simp [intsD]; omega,?_⟩
  (conv=>whnf);refine ⟨Iv more[i],fun _=>ints_get hia,?_⟩;(conv=>whnf);refine .inr (XOp.call rfl [.raw (.slice ua N ucap),encSpan (S,N),Iv more[i],Iv 1] [(3007,44)] (DCall.heapD rfl (H46 S N more[i] 1 hS hS2 hC (by omega) hbx (blkM S N U2 (more.take i)) (by rw [hUl]) ua N ucap)) rfl Z ?_);rintro d H' ⟨rfl,rfl⟩;refine ⟨_,.refl _,?_⟩;apply Rg;refine Ir ?_;(conv=>whnf)
  exact ⟨⟨i+1,hia⟩,[(2,2),(5,5),(44,44)],by show more.length-(i+1)<more.length-i; omega,Z,rfl,rfl,rfl,rfl,rfl,rfl,congrArg (fun z=>some (HObj.row (.slice ua N ucap) (bls z) 1 4)) hnx.symm,trivial⟩
 have hin:i=more.length:=by simp [intsD] at hc; omega
 subst hin;rw [List.take_length];rw [List.take_length] at hUl;generalize hU3:blkM S N U2 more=U3 at *;refine Tri.exit ?_;apply Sq;apply Sr;apply Bk
 refine Tri.loopK (α:={ i:Nat // i≤files.length }) (fun x=>[(2,.box 2 b2 0),(5,.box 5 b5 0),(6,.raw (.slice ua N ucap)),(11,Iv x.1)])
  (fun x=>[(2,.box b2 (encLay ⟨S,N,iS,iC,kind,opn,uS,uC,recg,pS,pC,blocks,commit,spS,spC,files⟩).cells),(5,.box b5 [Iv S,Iv N]),(44,.row (.slice ua N ucap) (bls (filM S N U3 (files.take x.1))) 1 4)]) (fun x=>files.length-x.1) ⟨0,by omega⟩ [(2,2),(5,5),(44,44)]
  ⟨Z,rfl,Y⟩ ?_
 rintro ⟨i,hi⟩;dsimp only at hi ⊢
 have hVl:(filM S N U3 (files.take i)).length=N:=by rw [filM_len,hUl]
 apply Sq;apply Sr;apply Rl;refine Cd (decide ((i:Int)<(files.map encF).length)) rfl (fun hc=>?_) (fun hc=>?_)
 ·apply Sk
  have hia:i<files.length:=by simpa using hc
  have hnx:=filM_next S N U3 hia
  have hfx:=h3 files[i] (List.getElem_mem _)
  apply Sq;apply Bk;apply Sr;apply Rl;(conv=>whnf);refine Sp ?_;(conv=>whnf);refine ⟨encF files[i],fun _=>encF_get hia,?_⟩;apply Hh;apply Rl;apply Hh;apply Hh;(conv=>whnf);refine Sp ?_;apply Hh;apply Hh;(conv=>whnf);refine ⟨encF files[i],fun h=>encF_get hia,?_⟩;apply Hh;refine Pk ?_;refine Cd (fileOk files[i]) rfl (fun hc=>?_) (fun hc=>?_)
  ·refine Tri.drawTailX ti_ok 15 mixed (by kernel_rfl) ?_
   have hfl0:0<files[i].len∧files[i].len≤8388608:=by
    unfold fileOk at hc
    cases h4:decide (0<files[i].len)<;>rw [h4] at hc<;>simp at hc h4<;>omega
   apply Rl;apply Rl;(conv=>whnf);refine Sp ?_;(conv=>whnf);refine ⟨encF files[i],fun _=>encF_get hia,?_⟩;apply Rl;(conv=>whnf);refine Sp ?_;(conv=>whnf);refine ⟨encF files[i],fun _=>encF_get hia,?_⟩;(conv=>whnf);refine ⟨[Iv files[i].len],_,fun _=>H48 files[i].len (by omega) (by omega),Z,?_⟩;(conv=>whnf);refine .inr (XOp.call rfl [.raw (.slice ua N ucap),encSpan (S,N),Iv files[i].start,Iv (blkV files[i].len)] [(3007,44)] (DCall.heapD rfl (H46 S N files[i].start (blkV files[i].len) hS hS2 hC (by omega) hfx (filM S N U3 (files.take i)) (by rw [hVl]) ua N ucap)) rfl Z ?_);rintro d H' ⟨rfl,rfl⟩;refine ⟨_,.refl _,?_⟩;apply Rg;refine Ir ?_;(conv=>whnf);rw [filS,if_pos hc] at hnx
   exact ⟨⟨i+1,hia⟩,[(2,2),(5,5),(44,44)],by show files.length-(i+1)<files.length-i; omega,Z,rfl,rfl,rfl,rfl,rfl,rfl,congrArg (fun z=>some (HObj.row (.slice ua N ucap) (bls z) 1 4)) hnx.symm,trivial⟩
  apply Sk;apply Rg;refine Ir ?_;(conv=>whnf)
  rw [filS,if_neg (by rw [hc]; decide)] at hnx
  exact ⟨⟨i+1,hia⟩,[(2,2),(5,5),(44,44)],by show files.length-(i+1)<files.length-i; omega,Z,rfl,rfl,rfl,rfl,rfl,rfl,congrArg (fun z=>some (HObj.row (.slice ua N ucap) (bls z) 1 4)) hnx.symm,trivial⟩
 have hin:i=files.length:=by simp at hc; omega
 subst hin;rw [List.take_length];rw [List.take_length] at hVl;generalize hU4:filM S N U3 files=U4 at *;refine Tri.exit ?_;apply Sr;apply Sq;apply Sr;(conv=>whnf);refine Tri.rowNil 12 2 23 ?_;apply Bk
 refine Tri.loopK (α:={ i:Nat // i≤N }×Option Addr×Nat×Nat) (fun x=>[(5,.box 5 b5 0),(6,.raw (.slice ua N ucap)),(12,.raw (.slice x.2.1 x.2.2.1 x.2.2.2)),(13,Iv x.1.1)])
  (fun x=>[(5,.box b5 [Iv S,Iv N]),(44,.row (.slice ua N ucap) (bls U4) 1 4),(12,.row (.slice x.2.1 x.2.2.1 x.2.2.2) (runRow S U4 x.1.1) 2 23)]) (fun x=>N-x.1.1) (⟨0,by omega⟩,none,0,0) [(5,5),(44,44),(12,12)]
  ⟨⟨.refl _,.refl _,DLe.nilRaw,.refl _,trivial⟩,rfl,Y⟩ ?_
 rintro ⟨⟨i,hi⟩,oa,on,ocap⟩;dsimp only at hi ⊢
 have hol:=runs_len S U4 i
 refine Tri.rowKnow0 12 rfl fun oa2 ocap2 hov _ _=>?_
 simp only [Value.slice.injEq] at hov;obtain ⟨rfl,hon,rfl⟩:=hov
 have hrl2:(runRow S U4 i).length=(runsV S U4 i).length:=by simp [runRow]
 rw [hrl2] at hon
 have hUb:(bls U4).length=N:=by rw [bls,List.length_map]; exact hVl
 apply Sq;apply Sr;refine Cd (decide ((i:Int)<(N:Int))) rfl (fun hc=>?_) (fun hc=>?_)
 ·apply Sk
  have hia:i<N:=by have:=of_decide_eq_true hc; omega
  have hgi:(bls U4)[i]? = some (.bool (U4.getD i false)):=by simp [bls,List.getD,hVl,hia]
  have hstep:runsV S U4 (i+1)=runStep S U4 i (runsV S U4 i):=rfl
  apply Sq;apply Bk;apply Bk;apply Sq;refine Tri.regionX ti_ok ?_;(conv=>whnf)
  refine .inr (XOp.rowIndex ti_ok 44 rfl rfl rfl rfl rfl rfl rfl (by omega) (by rw [hUb]; omega) ?_)
  conv=>whnf
  refine .inr (XOp.rowLoad ti_ok 44 (i:=i) (by rw [Int.toNat_natCast]; rfl) rfl rfl hgi ?_)
  (conv=>whnf);refine Cd (!(U4.getD i false)) rfl (fun hc=>?_) (fun hc=>?_)
  ·apply Sk
   have hgf:U4.getD i false=false:=by simpa using hc
   rw [runStep,if_pos hgf] at hstep;apply Rg;refine Ir ?_;(conv=>whnf)
   exact ⟨(⟨i+1,hia⟩,oa,on,ocap),[(5,5),(44,44),(12,12)],by show N-(i+1)<N-i; omega,Z,rfl,rfl,rfl,rfl,rfl,rfl,congrArg (fun z=>some (HObj.row _ z 2 23)) (by show runRow S U4 i=runRow S U4 (i+1); rw [runRow,runRow,hstep]),trivial⟩
  apply Sq
  have hgt:U4.getD i false=true:=by simpa using hc
  rw [runStep,if_neg (by rw [hgt]; decide)] at hstep
  by_cases hp:0<i
  ·have hgp:(bls U4)[i-1]? = some (.bool (U4.getD (i-1) false)):=by simp [bls,List.getD,hVl,show i-1<N by omega]
   refine Tri.regionH ti_ok ?_;(conv=>whnf);refine ⟨rfl,.inl ?_⟩;(conv=>whnf);refine ⟨rfl,.inl ?_⟩;(conv=>whnf);refine ⟨rfl,.inl ?_⟩;(conv=>whnf);refine ⟨rfl,_,_,rfl,rfl,.inl ⟨by simpa using hp,.inl ?_⟩⟩;(conv=>whnf);refine ⟨rfl,_,_,rfl,rfl,.inl ⟨by simpa using hp,.inl ?_⟩⟩;(conv=>whnf);refine ⟨rfl,_,_,rfl,rfl,.inl ⟨by simpa using hp,.inl ?_⟩⟩;refine Ir ?_;(conv=>whnf)
   refine ⟨rfl,_,_,rfl,rfl,.inl ⟨by simpa using hp,.inr (XOp.rowIndex ti_ok 44 rfl rfl rfl rfl rfl rfl rfl (by omega) (by rw [hUb]; omega) ?_)⟩⟩
   conv=>whnf
   refine ⟨rfl,_,_,rfl,rfl,.inl ⟨by simpa using hp,.inr (XOp.rowLoad ti_ok 44 (i:=i-1) (by rw [show ((i:Int)-1).toNat=i-1 by omega]; rfl) rfl rfl hgp ?_)⟩⟩
   (conv=>whnf);refine ⟨rfl,.inr (XOp.pickT rfl (by simpa using hp) ?_)⟩;(conv=>whnf);refine ⟨rfl,.inl ?_⟩;refine Cd (U4.getD (i-1) false) rfl (fun hc2=>?_) (fun hc2=>?_)
   ·rw [if_pos ⟨hp,hc2⟩] at hstep
    have hne:=runs_ne S U4 hc2
    rw [show i-1+1=i by omega] at hne
    have hcnt:=runs_cnt S U4 i
    obtain ⟨q,hq⟩:∃ q,q=(runsV S U4 i).length-1:=⟨_,rfl⟩
    have hql:q<(runsV S U4 i).length:=by omega
    have hxc:=hcnt ((runsV S U4 i)[q]) (List.getElem_mem _)
    have hxg:(runRow S U4 i)[q]? = some (encSpan (runsV S U4 i)[q]):=by simp [runRow,hql]
    have honq:((on:Int)-1).toNat=q:=by omega
    have hxd:(runsV S U4 i).getD ((runsV S U4 i).length-1) (0,0)=(runsV S U4 i)[q]:=by rw [← hq,List.getD_eq_getElem?_getD,List.getElem?_eq_getElem hql]; rfl
    rw [bump,hxd,← hq] at hstep;generalize hX:(runsV S U4 i)[q]=X at *;obtain ⟨X1,X2⟩:=X;dsimp only at hxc;refine Tri.regionH ti_ok ?_;(conv=>whnf);refine ⟨rfl,.inl ?_⟩;(conv=>whnf);refine ⟨rfl,.inl ?_⟩;(conv=>whnf);refine ⟨rfl,.inl ?_⟩;(conv=>whnf);refine ⟨rfl,.inl ?_⟩;refine Ir ?_;(conv=>whnf)
    refine ⟨rfl,.inr (XOp.rowIndex ti_ok 12 rfl rfl rfl rfl rfl rfl rfl (by omega) (by rw [hrl2]; omega) ?_)⟩
    conv=>whnf
    refine ⟨rfl,.inr (XOp.rowField ti_ok 12 (i:=q) rfl rfl (by rw [hrl2]; omega) rfl rfl rfl (by decide) ?_)⟩
    conv=>whnf
    refine ⟨rfl,.inr (XOp.rowLoadF ti_ok 12 (i:=q) (j:=1) (y:=encSpan (X1,X2)) (by rw [honq]; rfl) rfl rfl hxg ?_)⟩
    (conv=>whnf);refine ⟨rfl,.inl ?_⟩;refine Ir ?_;(conv=>whnf)
    refine ⟨rfl,.inr (XOp.rowIndex ti_ok 12 rfl rfl rfl rfl rfl rfl rfl (by omega) (by rw [hrl2]; omega) ?_)⟩
    conv=>whnf
    refine ⟨rfl,.inr (XOp.rowField ti_ok 12 (i:=q) rfl rfl (by rw [hrl2]; omega) rfl rfl rfl (by decide) ?_)⟩
    conv=>whnf
    refine ⟨rfl,.inr (XOp.rowStoreF ti_ok 12 (i:=q) (j:=1) (by rw [honq]; rfl) rfl rfl rfl hxg (by decide) rfl ?_)⟩
    apply Rg;refine Ir ?_;(conv=>whnf)
    exact ⟨(⟨i+1,hia⟩,oa,on,ocap),[(5,5),(44,44),(12,12)],by show N-(i+1)<N-i; omega,Z,rfl,rfl,rfl,rfl,rfl,rfl,congrArg (fun z=>some (HObj.row _ z 2 23)) (by show (runRow S U4 i).set q (encSpan (X1,X2+1))=runRow S U4 (i+1); rw [runRow,runRow,hstep,List.map_set]),trivial⟩
   rw [if_neg (by rw [hc2]; simp)] at hstep
   refine Tri.regionX ti_ok ?_;apply Il;apply Rl;refine Ir ?_;(conv=>whnf);refine ⟨trivial,?_⟩;(conv=>whnf)
   refine .inr (XOp.rowAppend ti_ok 12 rfl rfl rfl (fun h=>by cases h) rfl rfl rfl (Nat.zero_lt_one) (by show (_+1)*16≤_; rw [hrl2]; omega) (by show _+1≤_; rw [hrl2]; omega) fun aa2 m2 cap2=>?_)
   apply Rg;refine Ir ?_;(conv=>whnf)
   exact ⟨(⟨i+1,hia⟩,aa2,m2,cap2),[(5,5),(44,44),(12,152)],by show N-(i+1)<N-i; omega,Z,rfl,rfl,rfl,rfl,rfl,rfl,congrArg (fun z=>some (HObj.row _ z 2 23)) (by show runRow S U4 i++[encSpan (S+(i:Int),1)]=runRow S U4 (i+1); rw [runRow,runRow,hstep,List.map_append]; rfl),trivial⟩
  refine Tri.regionH ti_ok ?_;(conv=>whnf);refine ⟨rfl,.inl ?_⟩;(conv=>whnf);refine ⟨rfl,.inl ?_⟩;(conv=>whnf);refine ⟨rfl,.inl ?_⟩;(conv=>whnf);refine ⟨rfl,_,_,rfl,rfl,.inr ⟨by simpa using hp,?_⟩⟩;(conv=>whnf);refine ⟨rfl,_,_,rfl,rfl,.inr ⟨by simpa using hp,?_⟩⟩;(conv=>whnf);refine ⟨rfl,_,_,rfl,rfl,.inr ⟨by simpa using hp,?_⟩⟩;(conv=>whnf);refine ⟨rfl,_,_,rfl,rfl,.inr ⟨by simpa using hp,?_⟩⟩;(conv=>whnf);refine ⟨rfl,_,_,rfl,rfl,.inr ⟨by simpa using hp,?_⟩⟩;(conv=>whnf);refine ⟨rfl,.inr (XOp.pickF rfl (by simpa using hp) ?_)⟩;(conv=>whnf);refine ⟨rfl,.inl ?_⟩;refine Cd false rfl (fun hc2=>?_) (fun hc2=>?_)
  ·cases hc2
  rw [if_neg (by omega)] at hstep;refine Tri.regionX ti_ok ?_;apply Il;apply Rl;refine Ir ?_;(conv=>whnf);refine ⟨trivial,?_⟩;(conv=>whnf)
  refine .inr (XOp.rowAppend ti_ok 12 rfl rfl rfl (fun h=>by cases h) rfl rfl rfl (Nat.zero_lt_one) (by show (_+1)*16≤_; rw [hrl2]; omega) (by show _+1≤_; rw [hrl2]; omega) fun aa2 m2 cap2=>?_)
  apply Rg;refine Ir ?_;(conv=>whnf)
  exact ⟨(⟨i+1,hia⟩,aa2,m2,cap2),[(5,5),(44,44),(12,152)],by show N-(i+1)<N-i; omega,Z,rfl,rfl,rfl,rfl,rfl,rfl,congrArg (fun z=>some (HObj.row _ z 2 23)) (by show runRow S U4 i++[encSpan (S+(i:Int),1)]=runRow S U4 (i+1); rw [runRow,runRow,hstep,List.map_append]; rfl),trivial⟩
 have hin:i=N:=by have:=of_decide_eq_false hc; omega
 subst hin;refine Tri.exit ?_;apply Sr;(conv=>whnf);refine Tri.forgetK [(4,.raw (.slice oa on ocap))] [(12,.row (.slice oa on ocap) (runRow S U4 i) 2 23)] [(12,12)] ⟨Z,rfl,Y⟩ ?_;refine Tri.commitSt 12 4 rfl ?_;apply Rt;(conv=>whnf);exact .refl _
theorem H38a (xs:List D) (h:xs.length<1000000):DCall Tryz.prog W0 38 [.sl .none 1 xs] Heap.none fun d H'=>∃ v,d=.raw v∧H'=look [(2000,.row v xs 1 3)]:=by
 refine DCall.intro ti_ok Tryz.func38 rfl (by decide +kernel) Tryz.ntmps38 rfl fun Γ=>?_
 apply Sr;apply S2;refine Tri.regionX ti_ok ?_;(conv=>whnf);refine .inr (XOp.nilEq (el:=3) ti_ok rfl rfl rfl fun nb hnb=>?_);refine Cd _ rfl (fun hc=>?_) (fun hc=>?_)
 ·apply Sr;(conv=>whnf);refine Tri.rowNil 2000 1 3 ?_;refine Tri.retK [(2,.raw (.slice none 0 0))] [(2000,.row (.slice none 0 0) xs 1 3)] [(2000,2000)] ⟨⟨DLe.nilRaw,trivial⟩,rfl,rfl,congrArg (fun z=>some (HObj.row (.slice none 0 0) z 1 3)) (hnb hc).symm,trivial⟩ ?_;(conv=>whnf);exact ⟨_,.refl _,_,rfl,rfl⟩
 apply Sk;apply Sq;refine Tri.regionG ti_ok ?_;(conv=>whnf);refine ⟨rfl,trivial,.inr (XOp.buildRow (q:=100) ti_ok rfl rfl rfl rfl rfl rfl ?_)⟩;(conv=>whnf);refine ⟨rfl,trivial,fun v0=>?_⟩;apply Tj;(conv=>whnf)
 by_cases h0:0<xs.length
 ·refine ⟨rfl,trivial,.inr (XOp.rowAppend ti_ok 100 rfl rfl rfl (fun h=>by cases h) rfl rfl rfl h0 (by show (0+_)*8≤_; omega) (by show 0+_≤_; omega) fun aa m cap=>?_)⟩
  apply Tj;refine Tri.retK [(2,.raw (.slice aa m cap))] [(2000,.row (.slice aa m cap) xs 1 3)] [(2000,7)] ⟨Z,rfl,rfl,congrArg (fun z=>some (HObj.row (.slice aa m cap) z 1 3)) (List.nil_append _),trivial⟩ ?_;(conv=>whnf);exact ⟨_,.refl _,_,rfl,rfl⟩
 have hx:xs=[]:=List.eq_nil_of_length_eq_zero (by omega)
 refine ⟨rfl,trivial,.inr (XOp.rowAppendNone ti_ok 100 rfl rfl rfl rfl rfl rfl hx ?_)⟩;apply Tj;refine Tri.retK [(2,.raw v0)] [(2000,.row v0 xs 1 3)] [(2000,100)] ⟨Z,rfl,rfl,congrArg (fun z=>some (HObj.row v0 z 1 3)) hx.symm,trivial⟩ ?_;(conv=>whnf);exact ⟨_,.refl _,_,rfl,rfl⟩
theorem H38 (xs:List D) (h:xs.length<1000000):DCall Tryz.prog W0 38 [.sl .none 1 xs] Heap.none fun d H'=>∃ a m c,m=xs.length∧d=.raw (.slice a m c)∧H'=look [(2000,.row (.slice a m c) xs 1 3)] :=
 (H38a xs h).rowShape
theorem _root_.Go.Tame.DCall.freshD {f:FuncId} {ds:List D} {Q:D→Heap→Prop} {H:Heap} {k s:Nat} (h:H s=none) (hc:DCall Tryz.prog W0 f ds Heap.none Q):DCall Tryz.prog W0 f ds (handed H [(k,s)]) Q:=by
 have e:handed H [(k,s)]=Heap.none:=by
  funext j
  simp only [handed]
  cases Nat.beq j k with
  | true=>exact h
  | false=>rfl
 rw [e]; exact hc
theorem _root_.Go.Tame.DCall.heapD3 {f:FuncId} {ds:List D} {Q:D→Heap→Prop} {H:Heap} {k1 s1 k2 s2 k3 s3:Nat} {o1 o2 o3:HObj} (h1:H s1=some o1) (h2:H s2=some o2) (h3:H s3=some o3) (hc:DCall Tryz.prog W0 f ds (look [(k1,o1),(k2,o2),(k3,o3)]) Q):DCall Tryz.prog W0 f ds (handed H [(k1,s1),(k2,s2),(k3,s3)]) Q:=by
 have e:handed H [(k1,s1),(k2,s2),(k3,s3)]=look [(k1,o1),(k2,o2),(k3,o3)]:=by
  funext j
  simp only [handed,look]
  cases Nat.beq j k1 with
  | true=>exact h1
  | false =>
   cases Nat.beq j k2 with
   | true=>exact h2
   | false =>
    cases Nat.beq j k3 with
    | true=>exact h3
    | false=>rfl
 rw [e]; exact hc
theorem blk_big {n:Int} (h:8388608<n):4096<blkV n:=by
 unfold blkV
 have e2:n.tdiv 2048=n/2048:=Int.tdiv_eq_ediv_of_nonneg (by omega)
 have e3:n.tmod 2048=n%2048:=Int.tmod_eq_emod_of_nonneg (by omega)
 rw [e2,e3]
 split<;>omega
theorem fil_eq {S C:Int} (hS:0≤S) (hC:C≤4096-S) (u:List Bool) (f:FV) (h:0<f.len):foldM S C u [(f.start,blkV f.len)]=filS S C u f:=by
 show markV S C u f.start (blkV f.len)=_
 unfold filS
 split
 ·rfl
 rename_i h1
 have h2:8388608<f.len:=by
  unfold fileOk at h1
  rw [decide_eq_true h] at h1
  simp at h1; omega
 have:=blk_big h2
 rw [markV,if_pos];rw [outS_iff]
 omega
theorem iso_of (m:MV) (hv:validM m=true) (h:hasV m.views 3=false):hasV m.views 0=true:=by
 unfold validM at hv
 split at hv
 ·cases hv
 rename_i h1
 split at hv
 ·cases hv
 rename_i h2
 cases h0:hasV m.views 0 with
 | true=>rfl
 | false =>
  exfalso
  have hb:1≤m.views∧m.views≤15:=by
   cases h4:decide (m.views<1)<;>cases h5:decide (15<m.views)<;>rw [h4,h5] at h1<;>simp at h1 h4 h5<;>omega
  unfold noIso at h2
  rw [h0] at h2
  have h6:hasV m.views 1=false∧hasV m.views 2=false:=by
   cases h7:hasV m.views 1<;>cases h8:hasV m.views 2<;>rw [h7,h8] at h2<;>simp at h2<;>exact ⟨rfl,rfl⟩
  have:m.views=1∨m.views=2∨m.views=3∨m.views=4∨m.views=5∨m.views=6∨m.views=7∨m.views=8∨m.views=9∨m.views=10∨m.views=11∨m.views=12∨m.views=13∨m.views=14∨m.views=15:=by omega
  revert h h0 h6
  rcases this with e|e|e|e|e|e|e|e|e|e|e|e|e|e|e<;>rw [e]<;>decide
theorem H12 (l:LV) (m:MV) (hfn:l.files.length≤50) (hbn:l.blocks.length≤300) (hmb:m.boot.length<1000000) (h3:∀ f∈l.files,f.len≤9223372036854775807):DFun Tryz.prog W0 12 [encLay l,encM m] (.sl .none 2 ((spansV l m).map encSpan)):=by
 refine Fi Tryz.func12 rfl Tryz.ntmps12 fun Γ=>?_
 obtain ⟨S,C,iS,iC,kind,opn,uS,uC,recg,pS,pC,blocks,commit,spS,spC,files⟩:=l;dsimp only at hfn hbn h3
 have hdr:=descM_range m
 have hfr:=firstV_range m (descM m) S hdr.1 hdr.2
 apply Sr;(conv=>whnf);intro b2;(conv=>whnf);intro b3;apply Sr;apply Rl;(conv=>whnf);intro b5;apply Rl;apply Sq;apply Sr;apply Rl;(conv=>whnf);refine ⟨[encM m],_,fun _=>H32 m,Z,?_⟩;apply Hh;apply Rl;apply Hh;refine Pk ?_;apply Hh;apply Rl;apply Hh;refine Pk ?_;apply Hh;apply Rl;apply Hh;refine Pk ?_;apply Hh;apply Rl;apply Hh;apply Rl;apply Hh;(conv=>whnf)
 refine .inl ⟨fun h=>by simp only [InR]; revert h; cases validM m<;>cases h1:decide (S<0)<;>cases h2:decide (4096<S)<;>cases h3:decide (C<1)<;>simp<;>simp at h1 h2 h3<;>omega,?_⟩
 apply Hh;apply Hh;refine Pk ?_;refine Cd (badP m S C) rfl (fun hc=>?_) (fun hc=>?_)
 ·apply Sr;apply Rt;(conv=>whnf);rw [badP_iff] at hc
  rw [spansV,if_neg (by simpa using hc)]; exact DLe.nil
 apply Sk;rw [badP_iff] at hc
 have hok:okLay m S C=true:=by simpa using hc
 obtain ⟨hv,hS,hC,hS2,hC2⟩:=okLay_iff.1 hok;obtain ⟨N,rfl⟩:∃ N:Nat,C=N:=⟨C.toNat,by omega⟩;rw [spansV,if_pos hok]
 have hrl:(intsD (rsvV m S N)).length≤N:=by rw [intsD,List.length_map]; have:=rsv_len m S N; omega
 have hbl:(intsD blocks).length=blocks.length:=by simp [intsD]
 apply Sq;refine Tri.regionX ti_ok ?_;apply Il;apply Rl;(conv=>whnf)
 refine .inr (XOp.makeRowS ti_ok (n:=N) rfl rfl rfl rfl rfl rfl rfl (by show 1*N≤_; omega) (by omega) fun ub=>?_)
 (conv=>whnf);intro b6;apply Il;apply Rl;(conv=>whnf);generalize hua:(some ⟨ub,0,none⟩:Option Addr)=ua;apply Sr;apply Sr;(conv=>whnf);refine Tri.joinK (α:=Unit) (fun x=>[(2,.box 2 b2 0),(3,.box 3 b3 0),(5,.box 5 b5 0),(6,.box 6 b6 0),(7,.fn (.func 34) [] [.box 5 b5 0,.box 6 b6 0]),(8,Iv (firstV m (descM m) S-S))]) (fun x=>[(2,.box b2 (encLay ⟨S,N,iS,iC,kind,opn,uS,uC,recg,pS,pC,blocks,commit,spS,spC,files⟩).cells),(3,.box b3 (encM m).cells),(5,.box b5 [Iv S,Iv N]),(6,.box b6 [.raw (.slice ua N N)]),(46,.row (.slice ua N N) (bls (List.replicate N false)) 1 4)]) ?_ ?_
 ·apply Sr;apply Rl;(conv=>whnf);refine ⟨[Iv m.views,Iv 3],_,fun _=>H35 m.views 3 (by decide),Z,?_⟩;refine Cd (!hasV m.views 3) rfl (fun hc=>?_) (fun hc=>?_)
  ·apply Rg
   have hc3:hasV m.views 3=false:=by simpa using hc
   have hde:descM m=descV (optM m):=by rw [descM,if_pos (iso_of m hv hc3)]
   apply Rl;(conv=>whnf);refine ⟨[encM m],_,fun _=>H37 m hmb,Z,?_⟩;(conv=>whnf);refine ⟨[encO (optM m)],_,fun _=>H36 (optM m),Z,?_⟩;refine Ir ?_;(conv=>whnf)
   exact ⟨(),[(2,2),(3,3),(5,5),(6,6),(46,46)],⟨.refl _,.refl _,.refl _,.refl _,.refl _,intDLe (by rw [firstV,if_neg (by rw [hc3]; decide),hde]; omega),trivial⟩,rfl,rfl,rfl,rfl,rfl,rfl,rfl,rfl,rfl,rfl,congrArg (fun z=>some (HObj.row (.slice ua N N) z 1 4)) (by simp [bls]),trivial⟩
  apply Sk;(conv=>whnf)
  exact ⟨(),[(2,2),(3,3),(5,5),(6,6),(46,46)],⟨.refl _,.refl _,.refl _,.refl _,.refl _,intDLe (by rw [firstV,if_pos (by simpa using hc)]; omega),trivial⟩,rfl,rfl,rfl,rfl,rfl,rfl,rfl,rfl,rfl,rfl,congrArg (fun z=>some (HObj.row (.slice ua N N) z 1 4)) (by simp [bls]),trivial⟩
 rintro ⟨⟩
 have hmn:(if (N:Int)<firstV m (descM m) S-S then (N:Int) else firstV m (descM m) S-S)=min (firstV m (descM m) S-S) N:=by rw [Int.min_def]; split<;>split<;>omega
 apply Sq;refine Tri.regionX ti_ok ?_;apply Il;apply Rl;apply Il;apply Rl;apply Il;apply Rl;(conv=>whnf);refine ⟨trivial,?_⟩;(conv=>whnf)
 refine .inr (XOp.call rfl [.sl .none 2 ([(S,min (firstV m (descM m) S-S) N),(iS,iC)].map encSpan),.box 3005 b5 0,.box 3006 b6 0] [(3005,5),(3006,6),(3007,46)] (DCall.heapD3 rfl rfl rfl (H34 S N hS hS2 hC (by omega) [(S,min (firstV m (descM m) S-S) N),(iS,iC)] (by simp) (List.replicate N false) (by simp) ua N N b5 b6)) rfl ⟨(DLe.untag _).trans (DLe.of_eq (congrArg (D.sl .none 2) (by rw [hmn]; rfl))),DLe.box,DLe.box,trivial⟩ ?_)
 rintro d H' ⟨rfl,rfl⟩;refine ⟨_,.refl _,?_⟩;apply Sq;refine Tri.joinK (α:=Option Addr×Nat×Nat) (fun x=>[(75,.raw (.slice x.1 x.2.1 x.2.2)),(2,.box 2 b2 0),(5,.box 5 b5 0),(6,.box 6 b6 0),(7,.fn (.func 34) [] [.box 5 b5 0,.box 6 b6 0]),(76,Iv (x.2.1:Nat)),(77,Iv 0)]) (fun x=>[(75,.row (.slice x.1 x.2.1 x.2.2) (intsD (blocks++rsvV m S N)) 1 3),(2,.box b2 (encLay ⟨S,N,iS,iC,kind,opn,uS,uC,recg,pS,pC,blocks,commit,spS,spC,files⟩).cells),(5,.box b5 [Iv S,Iv N]),(6,.box b6 [.raw (.slice ua N N)]),(46,.row (.slice ua N N) (bls (markV S N (markV S N (List.replicate N false) S (min (firstV m (descM m) S-S) N)) iS iC)) 1 4)]) ?_ ?_
 ·by_cases hr0:0<(intsD (rsvV m S N)).length
  ·refine Tri.forgetK [(2,.box 2 b2 0),(3,.box 3 b3 0),(5,.box 5 b5 0),(6,.box 6 b6 0),(7,.fn (.func 34) [] [.box 5 b5 0,.box 6 b6 0])] [(2,.box b2 (encLay ⟨S,N,iS,iC,kind,opn,uS,uC,recg,pS,pC,blocks,commit,spS,spC,files⟩).cells),(3,.box b3 (encM m).cells),(5,.box b5 [Iv S,Iv N]),(6,.box b6 [.raw (.slice ua N N)]),(46,.row (.slice ua N N) (bls (markV S N (markV S N (List.replicate N false) S (min (firstV m (descM m) S-S) N)) iS iC)) 1 4)] [(2,2),(3,3),(5,5),(6,6),(46,46)] ⟨Z,rfl,Y⟩ ?_
   refine Tri.bitsG ti_ok mixed (α:=Option Addr×Nat×Nat×Option Addr×Nat×Nat) (fun y f=>[(2,.box 2 b2 0),(3,.box 3 b3 0),(5,.box 5 b5 0),(6,.box 6 b6 0),(7,.fn (.func 34) [] [.box 5 b5 0,.box 6 b6 0]),(68,bif f 0 then .box 2 b2 4 else .any),(69,bif f 1 then .box 2 b2 11 else .any),(70,bif f 2 then .sl .none 1 (intsD blocks) else .any),(71,bif f 3 then .raw (.slice y.1 y.2.1 y.2.2.1) else .any),(72,bif f 4 then encM m else .any),(73,bif f 5 then encSpan (S,N) else .any),(74,bif f 6 then .sl .none 1 (intsD (rsvV m S N)) else .any),(75,bif f 7 then .raw (.slice y.2.2.2.1 y.2.2.2.2.1 y.2.2.2.2.2) else .any),(76,bif f 8 then Iv (y.2.2.2.2.1:Nat) else .any),(77,bif f 9 then Iv 0 else .any)])
    (fun y f=>look ([(2,.box b2 (encLay ⟨S,N,iS,iC,kind,opn,uS,uC,recg,pS,pC,blocks,commit,spS,spC,files⟩).cells),(3,.box b3 (encM m).cells),(5,.box b5 [Iv S,Iv N]),(6,.box b6 [.raw (.slice ua N N)]),(46,.row (.slice ua N N) (bls (markV S N (markV S N (List.replicate N false) S (min (firstV m (descM m) S-S) N)) iS iC)) 1 4)]++(bif f 7 then [(75,.row (.slice y.2.2.2.1 y.2.2.2.2.1 y.2.2.2.2.2) (intsD blocks++intsD (rsvV m S N)) 1 3)] else bif f 3 then [(71,.row (.slice y.1 y.2.1 y.2.2.1) (intsD blocks) 1 3)] else []))) (by decide +kernel) (none,0,0,none,0,0) ?_ ?_ ?_ ?_
   ·exact ⟨.refl _,.refl _,.refl _,.refl _,.refl _,.any _,.any _,.any _,.any _,.any _,.any _,.any _,.any _,.any _,.any _,trivial⟩
   ·exact SubHF.of (hs:=[(2,.box b2 (encLay ⟨S,N,iS,iC,kind,opn,uS,uC,recg,pS,pC,blocks,commit,spS,spC,files⟩).cells),(3,.box b3 (encM m).cells),(5,.box b5 [Iv S,Iv N]),(6,.box b6 [.raw (.slice ua N N)]),(46,.row (.slice ua N N) (bls (markV S N (markV S N (List.replicate N false) S (min (firstV m (descM m) S-S) N)) iS iC)) 1 4)]) ⟨rfl,Y⟩
   ·(conv=>whnf);refine Qo ?_;refine Qo ?_;refine ⟨fun y f hI=>?_,?_⟩
    ·obtain ⟨f,rfl⟩:= hI.o f 3 2;obtain ⟨f,rfl⟩:= hI.o f 7 3 (hI.n 3 2);obtain ⟨f,rfl⟩:= hI.o f 8 7 (hI.n 7 3 (hI.n 3 2));apply Ti;apply Rl;(conv=>whnf);exact Ex y
    refine ⟨fun y f hI=>?_,?_⟩
    ·obtain ⟨f,rfl⟩:= hI.o f 7 3;obtain ⟨f,rfl⟩:= hI.o f 8 7 (hI.n 7 3);apply Tk
     refine XOp.call rfl [.sl .none 1 (intsD blocks)] [(2000,71)] (DCall.freshD rfl (H38 (intsD blocks) (by rw [hbl]; omega))) rfl Z ?_
     rintro d H' ⟨c1,c2,c3,hc2,rfl,rfl⟩;refine ⟨_,.refl _,?_⟩;exact Ex (c1,c2,c3,y.2.2.2) (SubHF.of (hs:=[(2,.box b2 (encLay ⟨S,N,iS,iC,kind,opn,uS,uC,recg,pS,pC,blocks,commit,spS,spC,files⟩).cells),(3,.box b3 (encM m).cells),(5,.box b5 [Iv S,Iv N]),(6,.box b6 [.raw (.slice ua N N)]),(46,.row (.slice ua N N) (bls (markV S N (markV S N (List.replicate N false) S (min (firstV m (descM m) S-S) N)) iS iC)) 1 4),(71,.row (.slice c1 c2 c3) (intsD blocks) 1 3)]) ⟨rfl,Y⟩)
    refine ⟨fun y f hI=>?_,?_⟩
    ·obtain ⟨f,rfl⟩:= hI.o f 7 6 (hI.n 6 4);obtain ⟨f,rfl⟩:= hI.o f 8 7 (hI.n 7 6 (hI.n 6 4));apply Ti;apply Rl;(conv=>whnf);exact Ex y
    refine ⟨fun y f hI=>?_,?_⟩
    ·obtain ⟨f,rfl⟩:= hI.o f 7 6 (hI.n 6 5);obtain ⟨f,rfl⟩:= hI.o f 8 7 (hI.n 7 6 (hI.n 6 5));apply Ti;apply Rl;(conv=>whnf);exact Ex y
    refine ⟨fun y f hI=>?_,?_⟩
    ·obtain ⟨f,rfl⟩:= hI.o f 7 6;obtain ⟨f,rfl⟩:= hI.o f 8 7 (hI.n 7 6);apply Ti;(conv=>whnf);refine ⟨[encM m,encSpan (S,N)],_,fun _=>H39 m S N,Z,?_⟩;(conv=>whnf);exact Ex y
    refine ⟨fun y f hI=>?_,?_⟩
    ·obtain ⟨f,rfl⟩:= hI.o f 8 7;apply Tk
     refine XOp.rowAppend ti_ok 71 rfl rfl rfl (fun h=>by cases h) rfl rfl rfl hr0 (by show (_+_)*8≤_; rw [hbl]; omega) (by show _+_≤_; rw [hbl]; omega) fun c1 c2 c3=>?_
     exact Ex (y.1,y.2.1,y.2.2.1,c1,c2,c3) (SubHF.of (hs:=[(2,.box b2 (encLay ⟨S,N,iS,iC,kind,opn,uS,uC,recg,pS,pC,blocks,commit,spS,spC,files⟩).cells),(3,.box b3 (encM m).cells),(5,.box b5 [Iv S,Iv N]),(6,.box b6 [.raw (.slice ua N N)]),(46,.row (.slice ua N N) (bls (markV S N (markV S N (List.replicate N false) S (min (firstV m (descM m) S-S) N)) iS iC)) 1 4),(75,.row (.slice c1 c2 c3) (intsD blocks++intsD (rsvV m S N)) 1 3)]) ⟨rfl,Y⟩)
    refine Qo ?_;refine Qo ?_;exact trivial
   intro y f hfl;(conv=>whnf);refine ⟨(y.2.2.2.1,y.2.2.2.2.1,y.2.2.2.2.2),[(75,75),(2,2),(5,5),(6,6),(46,46)],⟨?_,.refl _,.refl _,.refl _,.refl _,?_,?_,trivial⟩,rfl,rfl,?_,rfl,Y⟩
   ·show DLe (bif f 7 then _ else _) _
    rw [hfl 7 (by decide +kernel)]; exact .refl _
   ·show DLe (bif f 8 then _ else _) _
    rw [hfl 8 (by decide +kernel)]; exact .refl _
   ·show DLe (bif f 9 then _ else _) _
    rw [hfl 9 (by decide +kernel)]; exact .refl _
   show look (([(2,_),(3,_),(5,_),(6,_),(46,_)]:List (Nat×HObj))++(bif f 7 then _ else _)) 75=_
   rw [hfl 7 (by decide +kernel)];exact congrArg (fun z=>some (HObj.row _ z 1 3)) (by simp [intsD])
  have hr1:intsD (rsvV m S N)=[]:=List.eq_nil_of_length_eq_zero (by omega)
  refine Tri.forgetK [(2,.box 2 b2 0),(3,.box 3 b3 0),(5,.box 5 b5 0),(6,.box 6 b6 0),(7,.fn (.func 34) [] [.box 5 b5 0,.box 6 b6 0])] [(2,.box b2 (encLay ⟨S,N,iS,iC,kind,opn,uS,uC,recg,pS,pC,blocks,commit,spS,spC,files⟩).cells),(3,.box b3 (encM m).cells),(5,.box b5 [Iv S,Iv N]),(6,.box b6 [.raw (.slice ua N N)]),(46,.row (.slice ua N N) (bls (markV S N (markV S N (List.replicate N false) S (min (firstV m (descM m) S-S) N)) iS iC)) 1 4)] [(2,2),(3,3),(5,5),(6,6),(46,46)] ⟨Z,rfl,Y⟩ ?_
  refine Tri.bitsG ti_ok mixed (α:=Option Addr×Nat×Nat×Option Addr×Nat×Nat) (fun y f=>[(2,.box 2 b2 0),(3,.box 3 b3 0),(5,.box 5 b5 0),(6,.box 6 b6 0),(7,.fn (.func 34) [] [.box 5 b5 0,.box 6 b6 0]),(68,bif f 0 then .box 2 b2 4 else .any),(69,bif f 1 then .box 2 b2 11 else .any),(70,bif f 2 then .sl .none 1 (intsD blocks) else .any),(71,bif f 3 then .raw (.slice y.1 y.2.1 y.2.2.1) else .any),(72,bif f 4 then encM m else .any),(73,bif f 5 then encSpan (S,N) else .any),(74,bif f 6 then .sl .none 1 (intsD (rsvV m S N)) else .any),(75,bif f 7 then .raw (.slice y.1 y.2.1 y.2.2.1) else .any),(76,bif f 8 then Iv (y.2.1:Nat) else .any),(77,bif f 9 then Iv 0 else .any)])
   (fun y f=>look ([(2,.box b2 (encLay ⟨S,N,iS,iC,kind,opn,uS,uC,recg,pS,pC,blocks,commit,spS,spC,files⟩).cells),(3,.box b3 (encM m).cells),(5,.box b5 [Iv S,Iv N]),(6,.box b6 [.raw (.slice ua N N)]),(46,.row (.slice ua N N) (bls (markV S N (markV S N (List.replicate N false) S (min (firstV m (descM m) S-S) N)) iS iC)) 1 4)]++(bif f 3 then [(71,.row (.slice y.1 y.2.1 y.2.2.1) (intsD blocks) 1 3)] else []))) (by decide +kernel) (none,0,0,none,0,0) ?_ ?_ ?_ ?_
  ·exact ⟨.refl _,.refl _,.refl _,.refl _,.refl _,.any _,.any _,.any _,.any _,.any _,.any _,.any _,.any _,.any _,.any _,trivial⟩
  ·exact SubHF.of (hs:=[(2,.box b2 (encLay ⟨S,N,iS,iC,kind,opn,uS,uC,recg,pS,pC,blocks,commit,spS,spC,files⟩).cells),(3,.box b3 (encM m).cells),(5,.box b5 [Iv S,Iv N]),(6,.box b6 [.raw (.slice ua N N)]),(46,.row (.slice ua N N) (bls (markV S N (markV S N (List.replicate N false) S (min (firstV m (descM m) S-S) N)) iS iC)) 1 4)]) ⟨rfl,Y⟩
  ·(conv=>whnf);refine Qo ?_;refine Qo ?_;refine ⟨fun y f hI=>?_,?_⟩
   ·obtain ⟨f,rfl⟩:= hI.o f 3 2;obtain ⟨f,rfl⟩:= hI.o f 7 3 (hI.n 3 2);obtain ⟨f,rfl⟩:= hI.o f 8 7 (hI.n 7 3 (hI.n 3 2));apply Ti;apply Rl;(conv=>whnf);exact Ex y
   refine ⟨fun y f hI=>?_,?_⟩
   ·obtain ⟨f,rfl⟩:= hI.o f 7 3;obtain ⟨f,rfl⟩:= hI.o f 8 7 (hI.n 7 3);apply Tk
    refine XOp.call rfl [.sl .none 1 (intsD blocks)] [(2000,71)] (DCall.freshD rfl (H38 (intsD blocks) (by rw [hbl]; omega))) rfl Z ?_
    rintro d H' ⟨c1,c2,c3,hc2,rfl,rfl⟩;refine ⟨_,.refl _,?_⟩;exact Ex (c1,c2,c3,y.2.2.2) (SubHF.of (hs:=[(2,.box b2 (encLay ⟨S,N,iS,iC,kind,opn,uS,uC,recg,pS,pC,blocks,commit,spS,spC,files⟩).cells),(3,.box b3 (encM m).cells),(5,.box b5 [Iv S,Iv N]),(6,.box b6 [.raw (.slice ua N N)]),(46,.row (.slice ua N N) (bls (markV S N (markV S N (List.replicate N false) S (min (firstV m (descM m) S-S) N)) iS iC)) 1 4),(71,.row (.slice c1 c2 c3) (intsD blocks) 1 3)]) ⟨rfl,Y⟩)
   refine ⟨fun y f hI=>?_,?_⟩
   ·obtain ⟨f,rfl⟩:= hI.o f 7 6 (hI.n 6 4);obtain ⟨f,rfl⟩:= hI.o f 8 7 (hI.n 7 6 (hI.n 6 4));apply Ti;apply Rl;(conv=>whnf);exact Ex y
   refine ⟨fun y f hI=>?_,?_⟩
   ·obtain ⟨f,rfl⟩:= hI.o f 7 6 (hI.n 6 5);obtain ⟨f,rfl⟩:= hI.o f 8 7 (hI.n 7 6 (hI.n 6 5));apply Ti;apply Rl;(conv=>whnf);exact Ex y
   refine ⟨fun y f hI=>?_,?_⟩
   ·obtain ⟨f,rfl⟩:= hI.o f 7 6;obtain ⟨f,rfl⟩:= hI.o f 8 7 (hI.n 7 6);apply Ti;(conv=>whnf);refine ⟨[encM m,encSpan (S,N)],_,fun _=>H39 m S N,Z,?_⟩;(conv=>whnf);exact Ex y
   refine ⟨fun y f hI=>?_,?_⟩
   ·obtain ⟨f,rfl⟩:= hI.o f 8 7;apply Tk;refine XOp.rowAppendNone ti_ok 71 rfl rfl rfl rfl rfl rfl hr1 ?_;exact Ex y
   refine Qo ?_;refine Qo ?_;exact trivial
  intro y f hfl;(conv=>whnf);refine ⟨(y.1,y.2.1,y.2.2.1),[(75,71),(2,2),(5,5),(6,6),(46,46)],⟨?_,.refl _,.refl _,.refl _,.refl _,?_,?_,trivial⟩,rfl,rfl,?_,rfl,Y⟩
  ·show DLe (bif f 7 then _ else _) _
   rw [hfl 7 (by decide +kernel)]; exact .refl _
  ·show DLe (bif f 8 then _ else _) _
   rw [hfl 8 (by decide +kernel)]; exact .refl _
  ·show DLe (bif f 9 then _ else _) _
   rw [hfl 9 (by decide +kernel)]; exact .refl _
  show look (([(2,_),(3,_),(5,_),(6,_),(46,_)]:List (Nat×HObj))++(bif f 3 then _ else _)) 71=_
  rw [hfl 3 (by decide +kernel)]
  exact congrArg (fun z=>some (HObj.row _ z 1 3)) (by simp only [intsD,List.map_append] at hr1 ⊢; rw [hr1,List.append_nil])
 rintro ⟨ma,mn,mc⟩;dsimp only
 refine Tri.rowKnow0 75 rfl fun ma2 mc2 hmv _ _=>?_
 simp only [Value.slice.injEq] at hmv;obtain ⟨rfl,rfl,rfl⟩:=hmv;refine Tri.commitSt 75 75 rfl ?_
 have hU2l:(markV S N (markV S N (List.replicate N false) S (min (firstV m (descM m) S-S) N)) iS iC).length=N:=by rw [markV_len,markV_len]; simp
 generalize hU2:(markV S N (markV S N (List.replicate N false) S (min (firstV m (descM m) S-S) N)) iS iC)=U2 at *
 have hml:(blocks++rsvV m S N).length≤5000:=by rw [List.length_append]; have:=rsv_len m S N; omega
 have hus:usedV ⟨S,N,iS,iC,kind,opn,uS,uC,recg,pS,pC,blocks,commit,spS,spC,files⟩ m=filM S N (blkM S N U2 (blocks++rsvV m S N)) files:=by rw [← hU2]; rfl
 rw [hus];generalize hMO:(blocks++rsvV m S N)=more at *;apply Bk
 refine Tri.loopK (α:={ i:Nat // i≤more.length }) (fun x=>[(2,.box 2 b2 0),(5,.box 5 b5 0),(6,.box 6 b6 0),(7,.fn (.func 34) [] [.box 5 b5 0,.box 6 b6 0]),(75,.sl .none 1 (intsD more)),(76,Iv ((intsD more).length:Nat)),(77,Iv x.1)])
  (fun x=>[(2,.box b2 (encLay ⟨S,N,iS,iC,kind,opn,uS,uC,recg,pS,pC,blocks,commit,spS,spC,files⟩).cells),(5,.box b5 [Iv S,Iv N]),(6,.box b6 [.raw (.slice ua N N)]),(46,.row (.slice ua N N) (bls (blkM S N U2 (more.take x.1))) 1 4)]) (fun x=>more.length-x.1) ⟨0,by omega⟩ [(2,2),(5,5),(6,6),(46,46)]
  ⟨Z,rfl,Y⟩ ?_
 rintro ⟨i,hi⟩;dsimp only at hi ⊢
 have hUl:(blkM S N U2 (more.take i)).length=N:=by rw [blkM_len,hU2l]
 apply Sr;apply Sq;refine Cd (decide ((i:Int)<((intsD more).length:Nat))) rfl (fun hc=>?_) (fun hc=>?_)
 ·apply Sk
  have hia:i<more.length:=by simpa [intsD] using hc
  have hnx:=blkM_next S N U2 hia
  apply Sq;apply Bk;apply Sr;(conv=>whnf)
  refine ⟨fun _=>by simp [intsD]; omega,?_⟩
  (conv=>whnf);refine ⟨Iv more[i],fun _=>ints_get hia,?_⟩;(conv=>whnf);refine Tri.regionX ti_ok ?_;(conv=>whnf);refine ⟨trivial,?_⟩;(conv=>whnf);refine .inr (XOp.call rfl [.sl .none 2 ([(more[i],1)].map encSpan),.box 3005 b5 0,.box 3006 b6 0] [(3005,5),(3006,6),(3007,46)] (DCall.heapD3 rfl rfl rfl (H34 S N hS hS2 hC (by omega) [(more[i],1)] (by simp) (blkM S N U2 (more.take i)) (by rw [hUl]) ua N N b5 b6)) rfl ⟨DLe.untag _,DLe.box,DLe.box,trivial⟩ ?_);rintro d H' ⟨rfl,rfl⟩;refine ⟨_,.refl _,?_⟩;apply Rg;refine Ir ?_;(conv=>whnf)
  exact ⟨⟨i+1,hia⟩,[(2,2),(5,5),(6,6),(46,46)],by show more.length-(i+1)<more.length-i; omega,Z,rfl,rfl,rfl,rfl,rfl,rfl,rfl,rfl,congrArg (fun z=>some (HObj.row (.slice ua N N) (bls z) 1 4)) hnx.symm,trivial⟩
 have hin:i=more.length:=by simp [intsD] at hc; omega
 subst hin;rw [List.take_length];rw [List.take_length] at hUl;generalize hU3:blkM S N U2 more=U3 at *;refine Tri.exit ?_;apply Sq;apply Sr;apply Rl;apply Bk
 refine Tri.loopK (α:={ i:Nat // i≤files.length }) (fun x=>[(5,.box 5 b5 0),(6,.box 6 b6 0),(7,.fn (.func 34) [] [.box 5 b5 0,.box 6 b6 0]),(88,.sl .none 3 (files.map encF)),(89,Iv ((files.map encF).length:Nat)),(90,Iv x.1)])
  (fun x=>[(5,.box b5 [Iv S,Iv N]),(6,.box b6 [.raw (.slice ua N N)]),(46,.row (.slice ua N N) (bls (filM S N U3 (files.take x.1))) 1 4)]) (fun x=>files.length-x.1) ⟨0,by omega⟩ [(5,5),(6,6),(46,46)]
  ⟨Z,rfl,Y⟩ ?_
 rintro ⟨i,hi⟩;dsimp only at hi ⊢
 have hVl:(filM S N U3 (files.take i)).length=N:=by rw [filM_len,hUl]
 apply Sr;apply Sq;refine Cd (decide ((i:Int)<((files.map encF).length:Nat))) rfl (fun hc=>?_) (fun hc=>?_)
 ·apply Sk
  have hia:i<files.length:=by simpa using hc
  have hnx:=filM_next S N U3 hia
  apply Sq;apply Bk;apply Sr;(conv=>whnf);refine Sp ?_;(conv=>whnf);refine ⟨encF files[i],fun _=>encF_get hia,?_⟩;(conv=>whnf);intro b12;apply Rl;apply Sr;apply Rl;refine Cd (decide (0<files[i].len)) rfl (fun hc=>?_) (fun hc=>?_)
  ·refine Tri.drawTailX ti_ok 8 mixed (by kernel_rfl) ?_
   have hfl0:0<files[i].len:=of_decide_eq_true hc
   have hfe:=fil_eq hS hC2 (filM S N U3 (files.take i)) files[i] hfl0
   apply Rl;apply Rl;(conv=>whnf);refine ⟨[Iv files[i].len],_,fun _=>H40 files[i].len (by omega) (h3 files[i] (List.getElem_mem _)),Z,?_⟩;(conv=>whnf);refine ⟨trivial,?_⟩;(conv=>whnf);refine .inr (XOp.call rfl [.sl .none 2 ([(files[i].start,blkV files[i].len)].map encSpan),.box 3005 b5 0,.box 3006 b6 0] [(3005,5),(3006,6),(3007,46)] (DCall.heapD3 rfl rfl rfl (H34 S N hS hS2 hC (by omega) [(files[i].start,blkV files[i].len)] (by simp) (filM S N U3 (files.take i)) (by rw [hVl]) ua N N b5 b6)) rfl ⟨DLe.untag _,DLe.box,DLe.box,trivial⟩ ?_);rintro d H' ⟨rfl,rfl⟩;refine ⟨_,.refl _,?_⟩;apply Rg;refine Ir ?_;(conv=>whnf)
   exact ⟨⟨i+1,hia⟩,[(5,5),(6,6),(46,46)],by show files.length-(i+1)<files.length-i; omega,Z,rfl,rfl,rfl,rfl,rfl,rfl,congrArg (fun z=>some (HObj.row (.slice ua N N) (bls z) 1 4)) (hfe.trans hnx.symm),trivial⟩
  apply Sk;apply Rg;refine Ir ?_;(conv=>whnf)
  have hno:fileOk files[i]=false:=by unfold fileOk; rw [hc]; rfl
  rw [filS,if_neg (by rw [hno]; decide)] at hnx
  exact ⟨⟨i+1,hia⟩,[(5,5),(6,6),(46,46)],by show files.length-(i+1)<files.length-i; omega,Z,rfl,rfl,rfl,rfl,rfl,rfl,congrArg (fun z=>some (HObj.row (.slice ua N N) (bls z) 1 4)) hnx.symm,trivial⟩
 have hin:i=files.length:=by simp at hc; omega
 subst hin;rw [List.take_length];rw [List.take_length] at hVl;generalize hU4:filM S N U3 files=U4 at *;refine Tri.exit ?_;apply Sr;apply Sq;apply Sr;apply Rl;(conv=>whnf);refine Tri.rowNil 12 2 23 ?_;apply Bk
 refine Tri.loopK (α:={ i:Nat // i≤N }×Option Addr×Nat×Nat) (fun x=>[(5,.box 5 b5 0),(6,.box 6 b6 0),(13,.raw (.slice x.2.1 x.2.2.1 x.2.2.2)),(107,.raw (.slice ua N N)),(108,Iv (N:Nat)),(109,Iv x.1.1)])
  (fun x=>[(5,.box b5 [Iv S,Iv N]),(6,.box b6 [.raw (.slice ua N N)]),(46,.row (.slice ua N N) (bls U4) 1 4),(12,.row (.slice x.2.1 x.2.2.1 x.2.2.2) (runRow S U4 x.1.1) 2 23)]) (fun x=>N-x.1.1) (⟨0,by omega⟩,none,0,0) [(5,5),(6,6),(46,46),(12,12)]
  ⟨⟨.refl _,.refl _,DLe.nilRaw,.refl _,.refl _,.refl _,trivial⟩,rfl,Y⟩ ?_
 rintro ⟨⟨i,hi⟩,oa,on,ocap⟩;dsimp only at hi ⊢
 have hol:=runs_len S U4 i
 refine Tri.rowKnow0 12 rfl fun oa2 ocap2 hov _ _=>?_
 simp only [Value.slice.injEq] at hov;obtain ⟨rfl,hon,rfl⟩:=hov
 have hrl2:(runRow S U4 i).length=(runsV S U4 i).length:=by simp [runRow]
 rw [hrl2] at hon
 have hUb:(bls U4).length=N:=by rw [bls,List.length_map]; exact hVl
 apply Sr;apply Sq;refine Cd (decide ((i:Int)<(N:Nat))) rfl (fun hc=>?_) (fun hc=>?_)
 ·apply Sk
  have hia:i<N:=by have:=of_decide_eq_true hc; omega
  have hgi:(bls U4)[i]? = some (.bool (U4.getD i false)):=by simp [bls,List.getD,hVl,hia]
  have hstep:runsV S U4 (i+1)=runStep S U4 i (runsV S U4 i):=rfl
  apply Sq;apply Bk;apply Sq;refine Tri.regionX ti_ok ?_;(conv=>whnf)
  refine .inr (XOp.rowIndex ti_ok 46 rfl rfl rfl rfl rfl rfl rfl (by omega) (by rw [hUb]; omega) ?_)
  conv=>whnf
  refine .inr (XOp.rowLoad ti_ok 46 (i:=i) (by rw [Int.toNat_natCast]; rfl) rfl rfl hgi ?_)
  (conv=>whnf);apply Bk;apply Sr;refine Cd (!(U4.getD i false)) rfl (fun hc=>?_) (fun hc=>?_)
  ·apply Sk
   have hgf:U4.getD i false=false:=by simpa using hc
   rw [runStep,if_pos hgf] at hstep;apply Rg;refine Ir ?_;(conv=>whnf)
   exact ⟨(⟨i+1,hia⟩,oa,on,ocap),[(5,5),(6,6),(46,46),(12,12)],by show N-(i+1)<N-i; omega,Z,rfl,rfl,rfl,rfl,rfl,rfl,rfl,rfl,congrArg (fun z=>some (HObj.row _ z 2 23)) (by show runRow S U4 i=runRow S U4 (i+1); rw [runRow,runRow,hstep]),trivial⟩
  apply Sq
  have hgt:U4.getD i false=true:=by simpa using hc
  rw [runStep,if_neg (by rw [hgt]; decide)] at hstep
  by_cases hp:0<i
  ·have hgp:(bls U4)[i-1]? = some (.bool (U4.getD (i-1) false)):=by simp [bls,List.getD,hVl,show i-1<N by omega]
   refine Tri.regionH ti_ok ?_;(conv=>whnf);refine ⟨rfl,.inl ?_⟩;(conv=>whnf);refine ⟨rfl,.inl ?_⟩;(conv=>whnf);refine ⟨rfl,.inl ?_⟩;(conv=>whnf);refine ⟨rfl,_,_,rfl,rfl,.inl ⟨by simpa using hp,.inl ?_⟩⟩;apply Rl;(conv=>whnf);refine ⟨rfl,_,_,rfl,rfl,.inl ⟨by simpa using hp,.inl ?_⟩⟩;(conv=>whnf);refine ⟨rfl,_,_,rfl,rfl,.inl ⟨by simpa using hp,.inl ?_⟩⟩;refine Ir ?_;(conv=>whnf)
   refine ⟨rfl,_,_,rfl,rfl,.inl ⟨by simpa using hp,.inr (XOp.rowIndex ti_ok 46 rfl rfl rfl rfl rfl rfl rfl (by omega) (by rw [hUb]; omega) ?_)⟩⟩
   conv=>whnf
   refine ⟨rfl,_,_,rfl,rfl,.inl ⟨by simpa using hp,.inr (XOp.rowLoad ti_ok 46 (i:=i-1) (by rw [show ((i:Int)-1).toNat=i-1 by omega]; rfl) rfl rfl hgp ?_)⟩⟩
   (conv=>whnf);refine ⟨rfl,.inr (XOp.pickT rfl (by simpa using hp) ?_)⟩;(conv=>whnf);refine ⟨rfl,.inl ?_⟩;refine Cd (U4.getD (i-1) false) rfl (fun hc2=>?_) (fun hc2=>?_)
   ·rw [if_pos ⟨hp,hc2⟩] at hstep
    have hne:=runs_ne S U4 hc2
    rw [show i-1+1=i by omega] at hne
    have hcnt:=runs_cnt S U4 i
    obtain ⟨q,hq⟩:∃ q,q=(runsV S U4 i).length-1:=⟨_,rfl⟩
    have hql:q<(runsV S U4 i).length:=by omega
    have hxc:=hcnt ((runsV S U4 i)[q]) (List.getElem_mem _)
    have hxg:(runRow S U4 i)[q]? = some (encSpan (runsV S U4 i)[q]):=by simp [runRow,hql]
    have honq:((on:Int)-1).toNat=q:=by omega
    have hxd:(runsV S U4 i).getD ((runsV S U4 i).length-1) (0,0)=(runsV S U4 i)[q]:=by rw [← hq,List.getD_eq_getElem?_getD,List.getElem?_eq_getElem hql]; rfl
    rw [bump,hxd,← hq] at hstep;generalize hX:(runsV S U4 i)[q]=X at *;obtain ⟨X1,X2⟩:=X;dsimp only at hxc;refine Tri.regionH ti_ok ?_;(conv=>whnf);refine ⟨rfl,.inl ?_⟩;(conv=>whnf);refine ⟨rfl,.inl ?_⟩;(conv=>whnf);refine ⟨rfl,.inl ?_⟩;(conv=>whnf);refine ⟨rfl,.inl ?_⟩;refine Ir ?_;(conv=>whnf)
    refine ⟨rfl,.inr (XOp.rowIndex ti_ok 12 rfl rfl rfl rfl rfl rfl rfl (by omega) (by rw [hrl2]; omega) ?_)⟩
    conv=>whnf
    refine ⟨rfl,.inr (XOp.rowField ti_ok 12 (i:=q) rfl rfl (by rw [hrl2]; omega) rfl rfl rfl (by decide) ?_)⟩
    conv=>whnf
    refine ⟨rfl,.inr (XOp.rowLoadF ti_ok 12 (i:=q) (j:=1) (y:=encSpan (X1,X2)) (by rw [honq]; rfl) rfl rfl hxg ?_)⟩
    (conv=>whnf);refine ⟨rfl,.inl ?_⟩;refine Ir ?_;(conv=>whnf)
    refine ⟨rfl,.inr (XOp.rowIndex ti_ok 12 rfl rfl rfl rfl rfl rfl rfl (by omega) (by rw [hrl2]; omega) ?_)⟩
    conv=>whnf
    refine ⟨rfl,.inr (XOp.rowField ti_ok 12 (i:=q) rfl rfl (by rw [hrl2]; omega) rfl rfl rfl (by decide) ?_)⟩
    conv=>whnf
    refine ⟨rfl,.inr (XOp.rowStoreF ti_ok 12 (i:=q) (j:=1) (by rw [honq]; rfl) rfl rfl rfl hxg (by decide) rfl ?_)⟩
    apply Rg;refine Ir ?_;(conv=>whnf)
    exact ⟨(⟨i+1,hia⟩,oa,on,ocap),[(5,5),(6,6),(46,46),(12,12)],by show N-(i+1)<N-i; omega,Z,rfl,rfl,rfl,rfl,rfl,rfl,rfl,rfl,congrArg (fun z=>some (HObj.row _ z 2 23)) (by show (runRow S U4 i).set q (encSpan (X1,X2+1))=runRow S U4 (i+1); rw [runRow,runRow,hstep,List.map_set]),trivial⟩
   rw [if_neg (by rw [hc2]; simp)] at hstep
   refine Tri.regionX ti_ok ?_;apply Il;apply Rl;refine Ir ?_;(conv=>whnf);refine ⟨trivial,?_⟩;(conv=>whnf)
   refine .inr (XOp.rowAppend ti_ok 12 rfl rfl rfl (fun h=>by cases h) rfl rfl rfl (Nat.zero_lt_one) (by show (_+1)*16≤_; rw [hrl2]; omega) (by show _+1≤_; rw [hrl2]; omega) fun aa2 m2 cap2=>?_)
   apply Rg;refine Ir ?_;(conv=>whnf)
   exact ⟨(⟨i+1,hia⟩,aa2,m2,cap2),[(5,5),(6,6),(46,46),(12,121)],by show N-(i+1)<N-i; omega,Z,rfl,rfl,rfl,rfl,rfl,rfl,rfl,rfl,congrArg (fun z=>some (HObj.row _ z 2 23)) (by show runRow S U4 i++[encSpan (S+(i:Int),1)]=runRow S U4 (i+1); rw [runRow,runRow,hstep,List.map_append]; rfl),trivial⟩
  refine Tri.regionH ti_ok ?_;(conv=>whnf);refine ⟨rfl,.inl ?_⟩;(conv=>whnf);refine ⟨rfl,.inl ?_⟩;(conv=>whnf);refine ⟨rfl,.inl ?_⟩;(conv=>whnf);refine ⟨rfl,_,_,rfl,rfl,.inr ⟨by simpa using hp,?_⟩⟩;(conv=>whnf);refine ⟨rfl,_,_,rfl,rfl,.inr ⟨by simpa using hp,?_⟩⟩;(conv=>whnf);refine ⟨rfl,_,_,rfl,rfl,.inr ⟨by simpa using hp,?_⟩⟩;(conv=>whnf);refine ⟨rfl,_,_,rfl,rfl,.inr ⟨by simpa using hp,?_⟩⟩;(conv=>whnf);refine ⟨rfl,_,_,rfl,rfl,.inr ⟨by simpa using hp,?_⟩⟩;(conv=>whnf);refine ⟨rfl,.inr (XOp.pickF rfl (by simpa using hp) ?_)⟩;(conv=>whnf);refine ⟨rfl,.inl ?_⟩;refine Cd false rfl (fun hc2=>?_) (fun hc2=>?_)
  ·cases hc2
  rw [if_neg (by omega)] at hstep;refine Tri.regionX ti_ok ?_;apply Il;apply Rl;refine Ir ?_;(conv=>whnf);refine ⟨trivial,?_⟩;(conv=>whnf)
  refine .inr (XOp.rowAppend ti_ok 12 rfl rfl rfl (fun h=>by cases h) rfl rfl rfl (Nat.zero_lt_one) (by show (_+1)*16≤_; rw [hrl2]; omega) (by show _+1≤_; rw [hrl2]; omega) fun aa2 m2 cap2=>?_)
  apply Rg;refine Ir ?_;(conv=>whnf)
  exact ⟨(⟨i+1,hia⟩,aa2,m2,cap2),[(5,5),(6,6),(46,46),(12,121)],by show N-(i+1)<N-i; omega,Z,rfl,rfl,rfl,rfl,rfl,rfl,rfl,rfl,congrArg (fun z=>some (HObj.row _ z 2 23)) (by show runRow S U4 i++[encSpan (S+(i:Int),1)]=runRow S U4 (i+1); rw [runRow,runRow,hstep,List.map_append]; rfl),trivial⟩
 have hin:i=N:=by have:=of_decide_eq_false hc; omega
 subst hin;refine Tri.exit ?_;apply Sr;(conv=>whnf);refine Tri.forgetK [(4,.raw (.slice oa on ocap))] [(12,.row (.slice oa on ocap) (runRow S U4 i) 2 23)] [(12,12)] ⟨Z,rfl,Y⟩ ?_;refine Tri.commitSt 12 4 rfl ?_;apply Rt;(conv=>whnf);exact .refl _
theorem runsV_small (S:Int) (u:List Bool) (i:Nat) (h:i≤4096):(runsV S u i).length<1000000:=by have:=runs_len S u i; omega
theorem spans_len (l:LV) (m:MV):(spansV l m).length<1000000:=by
 unfold spansV
 split
 ·rename_i h
  obtain ⟨_,h1,h2,h3,h4⟩:=okLay_iff.1 h;exact runsV_small _ _ _ (by omega)
 show (0:Nat)<1000000; omega
theorem H3 (hA:DFun Tryz.prog W0 9 [] (.bool true)) (l:LV) (m:MV) (hms:m.name.length+m.set.length+m.pub.length+m.prep.length+m.app.length<1000000000) (h1:l.iS≤9223372036854775807) (h2:∀ b∈l.blocks,b≤9223372036854775807) (h3:∀ f∈l.files,f.start≤9223372036854775807) (h4:∀ f∈l.files,f.len≤9223372036854775807):DFun Tryz.prog W0 3 [encLay l,encM m] (.bool true):=by
 refine Fi Tryz.func3 rfl Tryz.ntmps3 fun Γ=>?_
 apply Sr;(conv=>whnf);intro b2;(conv=>whnf);intro b3;apply Sq;apply Sr;(conv=>whnf);refine ⟨[],_,fun _=>hA,trivial,?_⟩;refine Cd false rfl (fun hc=>?_) (fun hc=>?_)
 ··cases hc
 apply Sk;apply Sq;apply Sr;apply Rl;apply Hh;apply Hh;apply Rl;apply Hh;apply Hh;refine Pk ?_;apply Rl;apply Hh;(conv=>whnf);refine ⟨[encM m],_,fun h=>K22 m hms,Z,?_⟩;apply Hh;refine Pk ?_;refine Cd _ rfl (fun hc=>?_) (fun hc=>?_)
 ·apply Sr;apply Rt;(conv=>whnf);exact .refl _
 apply Sk
 have hg:l.files.length≤50∧l.blocks.length≤300∧fewM m=true:=by
  revert hc
  cases h5:decide (50<((l.files.map encF).length:Int))<;>cases h6:decide (300<((intsD l.blocks).length:Int))<;>cases h7:fewM m<;>simp [intsD] at h5 h6<;>simp<;>omega
 obtain ⟨hg1,hg2,hg3⟩:=hg
 have hmb:m.boot.length<1000000:=by
  unfold fewM at hg3
  simp at hg3; omega
 apply Sq;refine Tri.draw ti_ok mixed (by kernel_rfl) ?_;apply Rl;apply Rl;(conv=>whnf);refine ⟨[encLay l,encM m],_,fun _=>H12 l m hg1 hg2 hmb h4,Z,?_⟩;apply Rl;apply Rl;(conv=>whnf);refine ⟨[encLay l,encM m],_,fun _=>H13 l m hg1 hg2 hmb h1 h2 h3,Z,?_⟩;(conv=>whnf);refine ⟨[.sl .none 2 ((spansV l m).map encSpan),.sl .none 2 ((spansV l m).map encSpan)],_,fun _=>H11 (spansV l m) (spansV l m) (spans_len l m) (spans_len l m),Z,?_⟩;apply Rt;(conv=>whnf);exact DLe.of_eq (congrArg D.bool (by simp))
open Go.RowKit Go.ChangeShapes Go.Deep Go.WideShapes Go.ChangeAt
open YtfnpcdbnoggloaaGreatDoor (Rows.uptoBulk Rows.uptoBulkAll)
variable {H:Type} {enc0:TypeId×Value→H} {W:World}
abbrev bulk (d:DataW H):Nat:=YtfnpcdbnoggloaaGreatDoor.Rows.uptoBulk d
abbrev bulkA (d:List (DataW H)):Nat:=YtfnpcdbnoggloaaGreatDoor.Rows.uptoBulkAll d
theorem sum_good {α:Type} {m:α→Nat} {c:Nat}:∀ {l:List α} {ds:List (DataW H)},ds.length=l.length→(∀ (i:Nat) a y,l[i]? = some a→ds[i]? = some y→m a≤c*bulk y)→(l.map m).sum≤c*bulkA ds
 | [],[],_,_=>by simp
 | a::l,y::ds,hl,h=>by
  have h1:=h 0 a y rfl rfl
  have h2:=sum_good (l:=l) (ds:=ds) (by simpa using hl) fun i a y h3 h4=>h (i+1) a y (by simpa using h3) (by simpa using h4)
  have h3:c*bulkA (y::ds)=c*bulk y+c*bulkA ds:=by simp only [bulkA,bulk,YtfnpcdbnoggloaaGreatDoor.Rows.uptoBulkAll,Nat.mul_add]
  rw [h3,List.map_cons,List.sum_cons]
  omega
theorem sum_goodS {α:Type} {m:α→Nat} {c:Nat} {l:List α} {d:DataW H} (h:goodS (fun a y=>m a≤c*bulk y) l d):(l.map m).sum≤c*bulk d:=by
 rcases h with ⟨rfl,rfl⟩|⟨ds,sp,rfl,hl,hg⟩
 ·simp
 have:=sum_good hl hg
 have h3:c*bulk (.slice ds sp)=c*bulkA ds+c*bulkA sp+c*1:=by simp only [bulkA,bulk,YtfnpcdbnoggloaaGreatDoor.Rows.uptoBulk,Nat.mul_add]
 rw [h3]
 omega
theorem callsTrue {f:Nat} {ds:List D} {args:Array Value} (h:DFun Tryz.prog W f ds (.bool true)) (hr:RepL W (allC W) ds args.toList) :
  Calls Tryz.prog f args W fun e w'=>e=.returned (.bool true)∧Below W.heap.size W w':=by
 obtain ⟨l⟩:=args;refine (h.2 W (allC W) l (Below.refl _ _) hr).mono ?_;rintro e w' ⟨v,C',rfl,hv,hs⟩;rw [hv.bool_inv];exact ⟨rfl,Base.step (Below.refl _ _) hs fun _ h=>h.elim⟩
theorem laidOut:laidOutB Tryz.prog=true:=by kernel_rfl
theorem stays_all {W':World} (hb:Below W.heap.size W W') {sp:Nat→Bool}:∀ {ts:List TypeId} {vs:List Value} {ds:List (DataW H)} {ps:List MemPlace},
  (∀ t∈ts,Tryz.prog.readableRec t=true∧t<Tryz.prog.types.size)→DataW.TrodAll enc0 Tryz.prog W 0 (fun _=>true) true ts vs ds ps→(∀ x∈ps,x.block<W.heap.size)→(∀ x∈ps,sp x.block=true) →
  DataW.TrodAll enc0 Tryz.prog W' 0 sp true ts vs ds ps
 | [],[],[],_,_,h,_,_=>h
 | t::ts,v::vs,d::ds,_,ht,⟨p,q,h1,h2,e⟩,hlt,hsp=>by
  subst e
  exact ⟨p,q,stays laidOut (ht t List.mem_cons_self).1 (ht t List.mem_cons_self).2 h1 hb (fun x hx=>hlt x (by simp [hx])) sp (fun x hx=>hsp x (by simp [hx])),
   stays_all hb (fun t h=>ht t (List.mem_cons_of_mem _ h)) h2 (fun x hx=>hlt x (by simp [hx])) (fun x hx=>hsp x (by simp [hx])),rfl⟩
def laidList:List (String×DataW Unit):=YtfnpcdbnoggloaaGreatDoor.Rows.layoutSpansRow.laid
theorem libOk (hL:laidMetH Tryz.prog laidList W) (hsh:W.ShapedOpen Tryz.prog):LibOk W:=by
 have hL':laidMet Tryz.prog laidList W:=hL
 refine ⟨utf8Tabs_of_reads (ρ:=Tryz.lays260_ren) Tryz.lays260 ⟨by kernel_rfl,by kernel_rfl,by kernel_rfl,by kernel_rfl,by kernel_rfl,by kernel_rfl,by kernel_rfl⟩
  (Lib.laidMet.reads hL' (.tail _ (.tail _ (.tail _ (.tail _ (.head _)))))) (Lib.laidMet.reads hL' (.tail _ (.tail _ (.tail _ (.head _))))),?_,?_⟩
 ·obtain ⟨h1,_⟩:=hsh;obtain ⟨cs,hcs,hsz,hrow⟩:=h1 0 #[.int .i64 0] 3 (by decide +kernel) (by kernel_rfl);obtain ⟨ts,hts,_,hcell⟩:=hrow (by kernel_rfl)
  have hts':ts=[3]:=by
   have:Tryz.prog.cellTypes Tryz.prog.depth 3=some [3]:=by kernel_rfl
   exact Option.some.inj (hts.symm.trans this)
  subst hts'
  have h0:cs[0]? = some (cs[0]'(by rw [hsz]; decide)):=Array.getElem?_eq_getElem _
  obtain ⟨u,hu,hok⟩:=hcell 0 _ h0
  have hu':u=3:=by simpa using hu.symm
  subst hu'
  have hc:W.cell? ⟨0,0,none⟩=some (cs[0]'(by rw [hsz]; decide)):=by
   simp only [World.cell?,hcs]
   simpa using h0
  generalize cs[0]'(by rw [hsz]; decide)=v at hok hc
  unfold Cell.ok at hok
  rw [Tryz.underlying3] at hok
  cases v with
  | int k n=>obtain ⟨rfl,_⟩:=hok; exact ⟨n,hc⟩
  | _=>exact hok.elim
 exact Lib.tabIs_of_head (rest:=_) (g:=3) (t:=423) (e:=190) (n:=20) (by kernel_rfl) (by kernel_rfl) (by kernel_rfl) (by kernel_rfl) (by kernel_rfl) (by kernel_rfl) hL'.tail.tail
structure VolV where
 name:List UInt8
 set:List UInt8
 pub:List UInt8
 prep:List UInt8
 app:List UInt8
 num:Int
 discs:Int
 time:Int
def encVol (v:VolV):D:=.agg [.str v.name,.str v.set,.str v.pub,.str v.prep,.str v.app,.int .i64 v.num,.int .i64 v.discs,.int .i64 v.time]
theorem rd_be (n:Nat):Rd enc0 Tryz.prog W n 140 encB (fun _ d=>1≤1*bulk d):=by
 intro cs x h;obtain ⟨xs,m,rfl,hx,hcl,hxl,hf⟩:=trod_fields Tryz.underlying140 (by kernel_rfl) (by kernel_rfl) h
 match cs,hcl,xs,hxl with
 | [c0,c1,c2,c3,c4,c5],_,[y0,y1,y2,y3,y4,y5],_ =>
  obtain ⟨s0,r0,_⟩:=Rd.str (enc:=enc0) (W:=W) (n:=m) Tryz.underlying9 [c0] y0 (hf 0 _ c0 y0 rfl rfl rfl);obtain ⟨s1,r1,_⟩:=Rd.int (enc:=enc0) (W:=W) (n:=m) Tryz.underlying3 [c1] y1 (hf 1 _ c1 y1 rfl rfl rfl);obtain ⟨s2,r2,_⟩:=Rd.int (enc:=enc0) (W:=W) (n:=m) Tryz.underlying3 [c2] y2 (hf 2 _ c2 y2 rfl rfl rfl);obtain ⟨s3,r3,_⟩:=Rd.int (enc:=enc0) (W:=W) (n:=m) Tryz.underlying3 [c3] y3 (hf 3 _ c3 y3 rfl rfl rfl);obtain ⟨s4,r4,_⟩:=Rd.int (enc:=enc0) (W:=W) (n:=m) Tryz.underlying3 [c4] y4 (hf 4 _ c4 y4 rfl rfl rfl);obtain ⟨s5,r5,_⟩:=Rd.bool (enc:=enc0) (W:=W) (n:=m) Tryz.underlying4 [c5] y5 (hf 5 _ c5 y5 rfl rfl rfl);refine ⟨⟨s0,s1,s2,s3,s4,s5⟩,.cons r0.head (.cons r1.head (.cons r2.head (.cons r3.head (.cons r4.head (.cons r5.head (.nil _ _)))))),?_⟩;rw [hx];simp only [bulk,YtfnpcdbnoggloaaGreatDoor.Rows.uptoBulk]
  omega
theorem rd_vol (n:Nat):Rd enc0 Tryz.prog W n 31 encVol (fun v d=>v.name.length+v.set.length+v.pub.length+v.prep.length+v.app.length≤bulk d):=by
 intro cs x h;obtain ⟨xs,m,rfl,hx,hcl,hxl,hf⟩:=trod_fields Tryz.underlying31 (by kernel_rfl) (by kernel_rfl) h
 match cs,hcl,xs,hxl with
 | [c0,c1,c2,c3,c4,c5,c6,c7],_,[y0,y1,y2,y3,y4,y5,y6,y7],_ =>
  obtain ⟨s0,r0,e0,_⟩:=Rd.str (enc:=enc0) (W:=W) (n:=m) Tryz.underlying9 [c0] y0 (hf 0 _ c0 y0 rfl rfl rfl);obtain ⟨s1,r1,e1,_⟩:=Rd.str (enc:=enc0) (W:=W) (n:=m) Tryz.underlying9 [c1] y1 (hf 1 _ c1 y1 rfl rfl rfl);obtain ⟨s2,r2,e2,_⟩:=Rd.str (enc:=enc0) (W:=W) (n:=m) Tryz.underlying9 [c2] y2 (hf 2 _ c2 y2 rfl rfl rfl);obtain ⟨s3,r3,e3,_⟩:=Rd.str (enc:=enc0) (W:=W) (n:=m) Tryz.underlying9 [c3] y3 (hf 3 _ c3 y3 rfl rfl rfl);obtain ⟨s4,r4,e4,_⟩:=Rd.str (enc:=enc0) (W:=W) (n:=m) Tryz.underlying9 [c4] y4 (hf 4 _ c4 y4 rfl rfl rfl);obtain ⟨s5,r5,e5,_⟩:=Rd.int (enc:=enc0) (W:=W) (n:=m) Tryz.underlying3 [c5] y5 (hf 5 _ c5 y5 rfl rfl rfl);obtain ⟨s6,r6,e6,_⟩:=Rd.int (enc:=enc0) (W:=W) (n:=m) Tryz.underlying3 [c6] y6 (hf 6 _ c6 y6 rfl rfl rfl);obtain ⟨s7,r7,e7,_⟩:=Rd.int (enc:=enc0) (W:=W) (n:=m) Tryz.underlying3 [c7] y7 (hf 7 _ c7 y7 rfl rfl rfl);refine ⟨⟨s0,s1,s2,s3,s4,s5,s6,s7⟩,.cons r0.head (.cons r1.head (.cons r2.head (.cons r3.head (.cons r4.head (.cons r5.head (.cons r6.head (.cons r7.head (.nil _ _)))))))),?_⟩;rw [hx];simp only [List.map_cons,List.map_nil,e0,e1,e2,e3,e4,e5,e6,e7,bulk,YtfnpcdbnoggloaaGreatDoor.Rows.uptoBulk,YtfnpcdbnoggloaaGreatDoor.Rows.uptoBulkAll]
  omega
theorem rd_master (n:Nat):Rd enc0 Tryz.prog W n 34 encM (fun m d=>m.name.length+m.set.length+m.pub.length+m.prep.length+m.app.length≤bulk d∧m.boot.length≤bulk d):=by
 intro cs x h;obtain ⟨xs,m,rfl,rfl,hl,hxl,hf⟩:=DataW.trod_struct Tryz.underlying34 h
 have hC:Tryz.prog.cellsOf 34=13:=by kernel_rfl
 have g28:Tryz.prog.cellsOf 31=8:=by kernel_rfl
 have g3:Tryz.prog.cellsOf 3=1:=by kernel_rfl
 have g29:Tryz.prog.cellsOf 32=1:=by kernel_rfl
 have g4:Tryz.prog.cellsOf 4=1:=by kernel_rfl
 match cs,hl.trans hC,xs,hxl with
 | [c0,c1,c2,c3,c4,c5,c6,c7,c8,c9,c10,c11,c12],_,[y0,y1,y2,y3,y4,y5],_ =>
  have h0:DataW.trod enc0 Tryz.prog W 0 (fun _=>true) true m 31 (List.take (Tryz.prog.cellsOf 31) (List.drop 0 [c0,c1,c2,c3,c4,c5,c6,c7,c8,c9,c10,c11,c12]))=some y0:=hf 0 _ rfl
  have h1:DataW.trod enc0 Tryz.prog W 0 (fun _=>true) true m 3 (List.take (Tryz.prog.cellsOf 3) (List.drop 8 [c0,c1,c2,c3,c4,c5,c6,c7,c8,c9,c10,c11,c12]))=some y1:=hf 1 _ rfl
  have h2:DataW.trod enc0 Tryz.prog W 0 (fun _=>true) true m 3 (List.take (Tryz.prog.cellsOf 3) (List.drop 9 [c0,c1,c2,c3,c4,c5,c6,c7,c8,c9,c10,c11,c12]))=some y2:=hf 2 _ rfl
  have h3:DataW.trod enc0 Tryz.prog W 0 (fun _=>true) true m 32 (List.take (Tryz.prog.cellsOf 32) (List.drop 10 [c0,c1,c2,c3,c4,c5,c6,c7,c8,c9,c10,c11,c12]))=some y3:=hf 3 _ rfl
  have h4:DataW.trod enc0 Tryz.prog W 0 (fun _=>true) true m 3 (List.take (Tryz.prog.cellsOf 3) (List.drop 11 [c0,c1,c2,c3,c4,c5,c6,c7,c8,c9,c10,c11,c12]))=some y4:=hf 4 _ rfl
  have h5:DataW.trod enc0 Tryz.prog W 0 (fun _=>true) true m 4 (List.take (Tryz.prog.cellsOf 4) (List.drop 12 [c0,c1,c2,c3,c4,c5,c6,c7,c8,c9,c10,c11,c12]))=some y5:=hf 5 _ rfl
  rw [g28] at h0; rw [g3] at h1 h2 h4; rw [g29] at h3; rw [g4] at h5
  obtain ⟨⟨s0,s1,s2,s3,s4,s5,s6,s7⟩,r0,e0⟩:=rd_vol m [c0,c1,c2,c3,c4,c5,c6,c7] y0 h0;obtain ⟨s8,r1,e1,_⟩:=Rd.int (enc:=enc0) (W:=W) (n:=m) Tryz.underlying3 [c8] y1 h1;obtain ⟨s9,r2,e2,_⟩:=Rd.int (enc:=enc0) (W:=W) (n:=m) Tryz.underlying3 [c9] y2 h2;obtain ⟨bs,r3,e3⟩:=Rd.slice (enc:=enc0) (W:=W) (fuel:=m) Tryz.underlying32 (k:=6) (f:=encB) (by kernel_rfl) (by omega) (fun a=>⟨rfl,rfl⟩) (fun m' _=>rd_be m') [c10] y3 h3;obtain ⟨s11,r4,e4,_⟩:=Rd.int (enc:=enc0) (W:=W) (n:=m) Tryz.underlying3 [c11] y4 h4;obtain ⟨s12,r5,e5⟩:=Rd.bool (enc:=enc0) (W:=W) (n:=m) Tryz.underlying4 [c12] y5 h5;refine ⟨⟨s0,s1,s2,s3,s4,s5,s6,s7,s8,s9,bs,s11,s12⟩,RepL.append r0 (.cons r1.head (.cons r2.head (.cons r3.head (.cons r4.head (.cons r5.head (.nil _ _)))))),?_⟩
  have hb:=sum_goodS (m:=fun _=>1) e3
  simp only [List.map_const',List.sum_replicate_nat,Nat.mul_one,Nat.one_mul] at hb;simp only [List.map_cons,List.map_nil,bulk,YtfnpcdbnoggloaaGreatDoor.Rows.uptoBulk,YtfnpcdbnoggloaaGreatDoor.Rows.uptoBulkAll] at e0 hb ⊢
  constructor<;>omega
theorem open_master {v:Value} {d:DataW H} {p:List MemPlace} {base:Nat} (hv:Value.okWide Tryz.prog W .any base 34 v) (h:DataW.Trod enc0 Tryz.prog W 0 (fun _=>true) true 34 v d p) :
  ∃ m:MV,Rep W (allC W) (encM m) v∧m.name.length+m.set.length+m.pub.length+m.prep.length+m.app.length≤bulk d∧m.boot.length≤bulk d:=by
 obtain ⟨fuel,hf⟩:=h;obtain ⟨cs,rfl,_⟩:=okWide_struct Tryz.underlying34 hv;obtain ⟨m,hr,hg⟩:=rd_master (enc0:=enc0) (W:=W) fuel _ _ hf;obtain ⟨l⟩:=cs;exact ⟨m,.agg _ _ hr.1 hr.2,hg⟩
theorem wf64 {k:Int} (h:(Lit.int .i64 k).wf=true):k≤9223372036854775807:=by
 simp [Lit.wf,IntKind.wrap,IntKind.bits,IntKind.signed] at h
 omega
def mx:Int:=9223372036854775807
theorem rd_span (n:Nat):Rd enc0 Tryz.prog W n 23 encSpan (fun p d=>p.1≤mx∧p.2≤mx):=by
 intro cs x h;obtain ⟨xs,m,rfl,hx,hcl,hxl,hf⟩:=trod_fields Tryz.underlying23 (by kernel_rfl) (by kernel_rfl) h
 match cs,hcl,xs,hxl with
 | [c0,c1],_,[y0,y1],_ =>
  obtain ⟨s0,r0,e0,w0⟩:=Rd.int (enc:=enc0) (W:=W) (n:=m) Tryz.underlying3 [c0] y0 (hf 0 _ c0 y0 rfl rfl rfl);obtain ⟨s1,r1,e1,w1⟩:=Rd.int (enc:=enc0) (W:=W) (n:=m) Tryz.underlying3 [c1] y1 (hf 1 _ c1 y1 rfl rfl rfl);exact ⟨(s0,s1),.cons r0.head (.cons r1.head (.nil _ _)),wf64 w0,wf64 w1⟩
theorem rd_file (n:Nat):Rd enc0 Tryz.prog W n 53 encF (fun f d=>f.start≤mx∧f.len≤mx):=by
 intro cs x h;obtain ⟨xs,m,rfl,hx,hcl,hxl,hf⟩:=trod_fields Tryz.underlying53 (by kernel_rfl) (by kernel_rfl) h
 match cs,hcl,xs,hxl with
 | [c0,c1,c2],_,[y0,y1,y2],_ =>
  obtain ⟨s0,r0,e0,_⟩:=Rd.str (enc:=enc0) (W:=W) (n:=m) Tryz.underlying9 [c0] y0 (hf 0 _ c0 y0 rfl rfl rfl);obtain ⟨s1,r1,e1,w1⟩:=Rd.int (enc:=enc0) (W:=W) (n:=m) Tryz.underlying3 [c1] y1 (hf 1 _ c1 y1 rfl rfl rfl);obtain ⟨s2,r2,e2,w2⟩:=Rd.int (enc:=enc0) (W:=W) (n:=m) Tryz.underlying3 [c2] y2 (hf 2 _ c2 y2 rfl rfl rfl);exact ⟨⟨s0,s1,s2⟩,.cons r0.head (.cons r1.head (.cons r2.head (.nil _ _))),wf64 w1,wf64 w2⟩
theorem goodS_mem {α:Type} {p:α→Prop} {l:List α} {d:DataW H} (h:goodS (fun a _=>p a) l d):∀ a∈l,p a:=by
 intro a ha
 rcases h with ⟨rfl,rfl⟩|⟨ds,sp,rfl,hl,hg⟩
 ·cases ha
 obtain ⟨i,hi,rfl⟩:=List.mem_iff_getElem.1 ha;exact hg i l[i] (ds[i]'(by omega)) (List.getElem?_eq_getElem hi) (List.getElem?_eq_getElem _)
structure UL where
 kind:Int
 opn:Bool
 uS:Int
 uC:Int
 recg:Int
 pS:Int
 pC:Int
 blocks:List Int
 commit:Int
 spS:Int
 spC:Int
def encUL (u:UL):D:=.agg [.int .i64 u.kind,.bool u.opn,.int .i64 u.uS,.int .i64 u.uC,.int .i64 u.recg,.int .i64 u.pS,.int .i64 u.pC,.sl .none 1 (u.blocks.map (D.int .i64)),.int .i64 u.commit,.int .i64 u.spS,.int .i64 u.spC]
theorem rd_udfL (n:Nat):Rd enc0 Tryz.prog W n 26 encUL (fun u d=>∀ b∈u.blocks,b≤mx):=by
 intro cs x h;obtain ⟨xs,m,rfl,rfl,hl,hxl,hf⟩:=DataW.trod_struct Tryz.underlying26 h
 have hC:Tryz.prog.cellsOf 26=11:=by kernel_rfl
 have g3:Tryz.prog.cellsOf 3=1:=by kernel_rfl
 have g4:Tryz.prog.cellsOf 4=1:=by kernel_rfl
 have g23:Tryz.prog.cellsOf 23=2:=by kernel_rfl
 have g24:Tryz.prog.cellsOf 24=1:=by kernel_rfl
 match cs,hl.trans hC,xs,hxl with
 | [c0,c1,c2,c3,c4,c5,c6,c7,c8,c9,c10],_,[y0,y1,y2,y3,y4,y5,y6,y7],_ =>
  have h0:DataW.trod enc0 Tryz.prog W 0 (fun _=>true) true m 3 (List.take (Tryz.prog.cellsOf 3) (List.drop 0 [c0,c1,c2,c3,c4,c5,c6,c7,c8,c9,c10]))=some y0:=hf 0 _ rfl
  have h1:DataW.trod enc0 Tryz.prog W 0 (fun _=>true) true m 4 (List.take (Tryz.prog.cellsOf 4) (List.drop 1 [c0,c1,c2,c3,c4,c5,c6,c7,c8,c9,c10]))=some y1:=hf 1 _ rfl
  have h2:DataW.trod enc0 Tryz.prog W 0 (fun _=>true) true m 23 (List.take (Tryz.prog.cellsOf 23) (List.drop 2 [c0,c1,c2,c3,c4,c5,c6,c7,c8,c9,c10]))=some y2:=hf 2 _ rfl
  have h3:DataW.trod enc0 Tryz.prog W 0 (fun _=>true) true m 3 (List.take (Tryz.prog.cellsOf 3) (List.drop 4 [c0,c1,c2,c3,c4,c5,c6,c7,c8,c9,c10]))=some y3:=hf 3 _ rfl
  have h4:DataW.trod enc0 Tryz.prog W 0 (fun _=>true) true m 23 (List.take (Tryz.prog.cellsOf 23) (List.drop 5 [c0,c1,c2,c3,c4,c5,c6,c7,c8,c9,c10]))=some y4:=hf 4 _ rfl
  have h5:DataW.trod enc0 Tryz.prog W 0 (fun _=>true) true m 24 (List.take (Tryz.prog.cellsOf 24) (List.drop 7 [c0,c1,c2,c3,c4,c5,c6,c7,c8,c9,c10]))=some y5:=hf 5 _ rfl
  have h6:DataW.trod enc0 Tryz.prog W 0 (fun _=>true) true m 3 (List.take (Tryz.prog.cellsOf 3) (List.drop 8 [c0,c1,c2,c3,c4,c5,c6,c7,c8,c9,c10]))=some y6:=hf 6 _ rfl
  have h7:DataW.trod enc0 Tryz.prog W 0 (fun _=>true) true m 23 (List.take (Tryz.prog.cellsOf 23) (List.drop 9 [c0,c1,c2,c3,c4,c5,c6,c7,c8,c9,c10]))=some y7:=hf 7 _ rfl
  rw [g3] at h0 h3 h6; rw [g4] at h1; rw [g23] at h2 h4 h7; rw [g24] at h5
  obtain ⟨s0,r0,_⟩:=Rd.int (enc:=enc0) (W:=W) (n:=m) Tryz.underlying3 [c0] y0 h0;obtain ⟨s1,r1,_⟩:=Rd.bool (enc:=enc0) (W:=W) (n:=m) Tryz.underlying4 [c1] y1 h1;obtain ⟨⟨s2,s3⟩,r2,_⟩:=rd_span m [c2,c3] y2 h2;obtain ⟨s4,r3,_⟩:=Rd.int (enc:=enc0) (W:=W) (n:=m) Tryz.underlying3 [c4] y3 h3;obtain ⟨⟨s5,s6⟩,r4,_⟩:=rd_span m [c5,c6] y4 h4
  obtain ⟨bs,r5,e5⟩:=Rd.slice (enc:=enc0) (W:=W) (fuel:=m) Tryz.underlying24 (k:=1) (f:=D.int .i64) (good:=fun a _=>a≤mx) (by kernel_rfl) (by omega) (fun a=>⟨rfl,rfl⟩) (fun m' _ cs x h=>by obtain ⟨a,r,e,w⟩:=Rd.int (enc:=enc0) (W:=W) (n:=m') Tryz.underlying3 cs x h; exact ⟨a,r,wf64 w⟩) [c7] y5 h5
  obtain ⟨s8,r6,_⟩:=Rd.int (enc:=enc0) (W:=W) (n:=m) Tryz.underlying3 [c8] y6 h6;obtain ⟨⟨s9,s10⟩,r7,_⟩:=rd_span m [c9,c10] y7 h7;refine ⟨⟨s0,s1,s2,s3,s4,s5,s6,bs,s8,s9,s10⟩,RepL.append r0 (RepL.append r1 (RepL.append r2 (RepL.append r3 (RepL.append r4 (RepL.append r5 (RepL.append r6 r7)))))),goodS_mem e5⟩
theorem rd_lay (n:Nat):Rd enc0 Tryz.prog W n 29 encLay (fun l d=>l.iS≤mx∧(∀ b∈l.blocks,b≤mx)∧∀ f∈l.files,f.start≤mx∧f.len≤mx):=by
 intro cs x h;obtain ⟨xs,m,rfl,rfl,hl,hxl,hf⟩:=DataW.trod_struct Tryz.underlying29 h
 have hC:Tryz.prog.cellsOf 29=16:=by kernel_rfl
 have g23:Tryz.prog.cellsOf 23=2:=by kernel_rfl
 have g26:Tryz.prog.cellsOf 26=11:=by kernel_rfl
 have g27:Tryz.prog.cellsOf 27=1:=by kernel_rfl
 match cs,hl.trans hC,xs,hxl with
 | [c0,c1,c2,c3,c4,c5,c6,c7,c8,c9,c10,c11,c12,c13,c14,c15],_,[y0,y1,y2,y3],_ =>
  have h0:DataW.trod enc0 Tryz.prog W 0 (fun _=>true) true m 23 (List.take (Tryz.prog.cellsOf 23) (List.drop 0 [c0,c1,c2,c3,c4,c5,c6,c7,c8,c9,c10,c11,c12,c13,c14,c15]))=some y0:=hf 0 _ rfl
  have h1:DataW.trod enc0 Tryz.prog W 0 (fun _=>true) true m 23 (List.take (Tryz.prog.cellsOf 23) (List.drop 2 [c0,c1,c2,c3,c4,c5,c6,c7,c8,c9,c10,c11,c12,c13,c14,c15]))=some y1:=hf 1 _ rfl
  have h2:DataW.trod enc0 Tryz.prog W 0 (fun _=>true) true m 26 (List.take (Tryz.prog.cellsOf 26) (List.drop 4 [c0,c1,c2,c3,c4,c5,c6,c7,c8,c9,c10,c11,c12,c13,c14,c15]))=some y2:=hf 2 _ rfl
  have h3:DataW.trod enc0 Tryz.prog W 0 (fun _=>true) true m 27 (List.take (Tryz.prog.cellsOf 27) (List.drop 15 [c0,c1,c2,c3,c4,c5,c6,c7,c8,c9,c10,c11,c12,c13,c14,c15]))=some y3:=hf 3 _ rfl
  rw [g23] at h0 h1; rw [g26] at h2; rw [g27] at h3
  obtain ⟨⟨s0,s1⟩,r0,_⟩:=rd_span m [c0,c1] y0 h0;obtain ⟨⟨s2,s3⟩,r1,e1,_⟩:=rd_span m [c2,c3] y1 h1;obtain ⟨⟨u0,u1,u2,u3,u4,u5,u6,bs,u8,u9,u10⟩,r2,e2⟩:=rd_udfL m [c4,c5,c6,c7,c8,c9,c10,c11,c12,c13,c14] y2 h2;obtain ⟨fs,r3,e3⟩:=Rd.slice (enc:=enc0) (W:=W) (fuel:=m) Tryz.underlying27 (k:=3) (f:=encF) (good:=fun f _=>f.start≤mx∧f.len≤mx) (by kernel_rfl) (by omega) (fun a=>⟨rfl,rfl⟩) (fun m' _=>rd_file m') [c15] y3 h3;exact ⟨⟨s0,s1,s2,s3,u0,u1,u2,u3,u4,u5,u6,bs,u8,u9,u10,fs⟩,RepL.append r0 (RepL.append r1 (RepL.append r2 r3)),e1,e2,goodS_mem e3⟩
theorem open_layout {v:Value} {d:DataW H} {p:List MemPlace} {base:Nat} (hv:Value.okWide Tryz.prog W .any base 29 v) (h:DataW.Trod enc0 Tryz.prog W 0 (fun _=>true) true 29 v d p) :
  ∃ l:LV,Rep W (allC W) (encLay l) v∧l.iS≤mx∧(∀ b∈l.blocks,b≤mx)∧∀ f∈l.files,f.start≤mx∧f.len≤mx:=by
 obtain ⟨fuel,hf⟩:=h;obtain ⟨cs,rfl,_⟩:=okWide_struct Tryz.underlying29 hv;obtain ⟨m,hr,hg⟩:=rd_lay (enc0:=enc0) (W:=W) fuel _ _ hf;obtain ⟨l⟩:=cs;exact ⟨m,.agg _ _ hr.1 hr.2,hg⟩
theorem own:ownKnob Tryz.prog.godebug=none:=by kernel_rfl
noncomputable def laidWorld (os:Os):World :=
 let w0:=World.holding Tryz.prog os ⟨#[],#[],[]⟩
 let put (h:Array Obj) (g:Nat) (cs:Array Value):Array Obj:=h.modify g fun
  | .cells _ t frozen=>.cells cs t frozen
  | o=>o
 let h1:=put w0.heap 1 (Lib.firstTab.map fun z=>Value.int .u8 z).toArray
 let h2:=put h1 2 ((List.range 16).flatMap fun i=>[Value.int .u8 (Lib.accLo i),Value.int .u8 (Lib.accHi i)]).toArray
 let h3:=put h2 3 (Lib.pow10Tab.map fun z=>Value.int .u64 z).toArray
 let h4:=put h3 4 ([0,1,28,2,29,14,24,3,30,22,20,15,25,17,4,8,31,27,13,23,21,19,16,7,26,12,18,6,11,5,10,9].map fun z=>Value.int .u8 z).toArray
 let h5:=put h4 5 ([0,1,56,2,57,49,28,3,61,58,42,50,38,29,17,4,62,47,59,36,45,43,51,22,53,39,33,30,24,18,12,5,63,55,48,27,60,41,37,16,46,35,44,21,52,32,23,11,54,26,40,15,34,20,31,10,25,14,19,9,13,8,7,6].map fun z=>Value.int .u8 z).toArray
 { w0 with heap:=h5 }
theorem laid_met (os:Os) (args:Array Value):laidMet Tryz.prog laidList ((laidWorld os).forCall (fun _ _=>0) ⟨#[],args,[]⟩).memory :=
 laidMet_of_run' 8 (by kernel_rfl) (by kernel_rfl)
end Go.Tame.V
