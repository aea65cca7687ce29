/- A program logic of my own over the model, and contracts of this program's functions by it: part 4. No conditions of its own: each theorem states its own. -/
import Derived.Test.YtfnpcdbnoggloaaGreatDoorL3
import Derived.Lib.MapLaws
import Derived.Lib.TrimUEq
set_option linter.unnecessarySimpa false
set_option linter.unusedSimpArgs false
set_option linter.unusedVariables false
set_option maxRecDepth 100000
set_option maxHeartbeats 16000000
namespace Go.Tame.V
open Go Go.Proofs
variable {W0:World}
def udfBlk (n:Int):Int:=(n+2048-1).tdiv 2048
def outerV (n:Int):Int:=if n≤1872 then 0 else udfBlk n
def rndV (n:Int):Int:=if (bif decide (n<0) then true else decide (4096<n))=true then 0 else (n+8-1).tdiv 8*8
def rnd4 (n:Int):Int:=(n+3).tdiv 4*4
def wordV (n:Int):Bool:=bif decide (0≤n) then decide (n<4294967296) else false
def knownV (n:Int):Bool:=bif decide (0≤n) then decide (n≤3) else false
theorem H314 (n:Int) (h0:0≤n) (h1:n<1000000000000):DFun Tryz.prog W0 314 [Iv n] (Iv (udfBlk n)):=by
 refine Fi Tryz.func314 rfl Tryz.ntmps314 fun Γ=>?_
 apply Sr;apply Sr;refine Ir ?_;refine Ir ?_;(conv=>whnf);refine ⟨fun _=>by omega,?_⟩;(conv=>whnf)
 have hq:(n+2048-1).tdiv 2048=(n+2048-1)/2048:=Int.tdiv_eq_ediv_of_nonneg (by omega)
 refine Ir ?_;apply Rt;(conv=>whnf);exact .refl _
theorem H271 (n:Int) (h0:0≤n) (h1:n<1000000000000):DFun Tryz.prog W0 271 [Iv n] (Iv (outerV n)):=by
 refine Fi Tryz.func271 rfl Tryz.ntmps271 fun Γ=>?_
 apply Sr;apply Sq;apply Sr;refine Cd _ rfl (fun hc=>?_) (fun hc=>?_)
 ·apply Sr;apply Rt;(conv=>whnf)
  rw [outerV,if_pos (by simpa using hc)]; exact .refl _
 apply Sk;apply Sr;(conv=>whnf);refine ⟨[Iv n],_,fun _=>H314 n h0 h1,Z,?_⟩;apply Rt;(conv=>whnf)
 rw [outerV,if_neg (by simpa using hc)]; exact .refl _
theorem H272 (n:Int):DFun Tryz.prog W0 272 [Iv n] (Iv (rndV n)):=by
 refine Fi Tryz.func272 rfl Tryz.ntmps272 fun Γ=>?_
 apply Sr;apply Sq;apply Sr;apply Hh;refine Pk ?_;refine Cd _ rfl (fun hc=>?_) (fun hc=>?_)
 ·apply Sr;apply Rt;(conv=>whnf)
  rw [rndV,if_pos hc]; exact .refl _
 apply Sk
 have hc2:=hc
 rw [rndV,if_neg (by rw [hc2]; decide)]
 have h0:0≤n∧n≤4096:=by
  revert hc; cases h:decide (n<0)<;>simp at h ⊢<;>omega
 apply Sr;refine Ir ?_;refine Ir ?_;(conv=>whnf);refine ⟨fun _=>by omega,?_⟩;(conv=>whnf)
 have hq:(n+8-1).tdiv 8=(n+8-1)/8:=Int.tdiv_eq_ediv_of_nonneg (by omega)
 refine Ir ?_;refine Ir ?_;apply Rt;(conv=>whnf);exact .refl _
theorem H313 (n:Int) (h0:0≤n) (h1:n<1000000000000):DFun Tryz.prog W0 313 [Iv n] (Iv (rnd4 n)):=by
 refine Fi Tryz.func313 rfl Tryz.ntmps313 fun Γ=>?_
 apply Sr;apply Sr;refine Ir ?_;(conv=>whnf);refine ⟨fun _=>by omega,?_⟩;(conv=>whnf)
 have hq:(n+3).tdiv 4=(n+3)/4:=Int.tdiv_eq_ediv_of_nonneg (by omega)
 refine Ir ?_;refine Ir ?_;apply Rt;(conv=>whnf);exact .refl _
theorem H354 (n:Int):DFun Tryz.prog W0 354 [Iv n] (.bool (wordV n)):=by
 refine Fi Tryz.func354 rfl Tryz.ntmps354 fun Γ=>?_
 apply Sr;apply Sr;apply Hh;refine Pk ?_;apply Rt;(conv=>whnf);exact .refl _
theorem H139 (n:Int):DFun Tryz.prog W0 139 [Iv n] (.bool (knownV n)):=by
 refine Fi Tryz.func139 rfl Tryz.ntmps139 fun Γ=>?_
 apply Sr;apply Sr;apply Hh;refine Pk ?_;apply Rt;(conv=>whnf);exact .refl _
def maxI (l:List Int):Int:=(l.drop 1).foldl (fun m x=>if x>m then x else m) (l.headD 0)
theorem maxI_next {l:List Int} {i:Nat} (h:0<i) (hi:i<l.length):maxI (l.take (i+1))=if l[i]>maxI (l.take i) then l[i] else maxI (l.take i):=by
 rw [maxI,maxI,List.take_succ_eq_append_getElem hi,List.drop_append_of_le_length (by rw [List.length_take]; omega),List.foldl_append]
 have e:(l.take i++[l[i]]).headD 0=(l.take i).headD 0:=by
  cases l with
  | nil=>simp at hi
  | cons a r=>cases i with
   | zero=>omega
   | succ i=>rfl
 rw [e]; rfl
theorem H352 (l:List Int) (h0:0<l.length) (hl:l.length<1000000000):DFun Tryz.prog W0 352 [.sl .none 1 (encInts .i64 l)] (Iv (maxI l)):=by
 refine Fi Tryz.func352 rfl Tryz.ntmps352 fun Γ=>?_
 apply Sr;(conv=>whnf);refine Tri.joinK (α:=Unit) (fun x=>[(0,.sl .none 1 (encInts .i64 l))]) (fun x=>[]) ?_ ?_
 ·apply Sr;refine Cd _ rfl (fun hc=>?_) (fun hc=>?_)
  ·exfalso
   simp [encInts] at hc; omega
  apply Sk;(conv=>whnf);exact ⟨(),[],Z,rfl,trivial⟩
 rintro ⟨⟩;apply Sr;(conv=>whnf)
 refine ⟨fun _=>by simp [encInts]; omega,?_⟩
 (conv=>whnf);refine ⟨Iv l[0],fun _=>by simp [encInts,h0],?_⟩;apply Sq;apply Sr;apply Bk;refine Tri.loop (α:={ i:Nat // 1≤i∧i≤l.length }) (fun x=>[(0,.sl .none 1 (encInts .i64 l)),(3,Iv (maxI (l.take x.1))),(4,Iv x.1)]) (fun _=>[]) (fun x=>l.length-x.1) ⟨1,by omega⟩ ⟨.refl _,DLe.of_eq (congrArg (D.int .i64) (by cases l with|nil=>simp at h0|cons a r=>rfl)),.refl _,trivial⟩ trivial ?_;rintro ⟨i,hi1,hi⟩;dsimp only at hi hi1 ⊢;apply Sq;apply Sr;refine Cd (decide ((i:Int)<((encInts .i64 l).length:Nat))) rfl (fun hc=>?_) (fun hc=>?_)
 ·apply Sk;apply Sq;apply Bk
  have hia:i<l.length:=by simpa [encInts] using hc
  apply Rg;(conv=>whnf)
  refine ⟨fun _=>by simp [encInts]; omega,?_⟩
  (conv=>whnf);refine ⟨Iv l[i],fun _=>by simp [encInts,hia],?_⟩;apply Rg;refine Ir ?_;(conv=>whnf)
  exact ⟨⟨i+1,by omega,hia⟩,by show l.length-(i+1)<l.length-i; omega,⟨.refl _,DLe.of_eq (congrArg (D.int .i64) (maxI_next hi1 hia).symm),.refl _,trivial⟩,trivial⟩
 refine Tri.exit ?_
 have hin:i=l.length:=by simp [encInts] at hc; omega
 subst hin;apply Sr;apply Rt;(conv=>whnf)
 rw [List.take_length]; exact .refl _
def compI1 (size:Nat) (c:Int) (k:Nat):Int:=IntKind.wrap .u8 (c.fdiv (2 ^ min (8*((size:Int)-1-(k:Int))).toNat IntKind.i64.bits))
def compI (size:Nat) (l:List Int):List Int:=(8*(size:Int))::l.flatMap fun c=>(List.range size).map (compI1 size c)
def compV (size:Nat) (l:List Int):List UInt8:=(compI size l).map u8i
theorem compI_next {size:Nat} {l:List Int} {i:Nat} (h:i<l.length):compI size (l.take (i+1))=compI size (l.take i)++(List.range size).map (compI1 size l[i]):=by
 rw [compI,compI,List.take_succ_eq_append_getElem h,List.flatMap_append]; simp
theorem range_next (f:Nat→Int) (k:Nat):(List.range (k+1)).map f=(List.range k).map f++[f k]:=by rw [List.range_succ,List.map_append]; rfl
theorem wrap8 (n:Int):0≤IntKind.wrap .u8 n∧IntKind.wrap .u8 n≤255:=by
 unfold IntKind.wrap
 dsimp only [IntKind.bits,IntKind.signed];simp only [Bool.false_and,Bool.false_eq_true,if_false]
 omega
theorem compI_r {size:Nat} (hs:size=1∨size=2) (l:List Int):∀ n∈compI size l,0≤n∧n≤255:=fun n hn=>by
 simp only [compI,List.mem_cons,List.mem_flatMap,List.mem_map] at hn
 rcases hn with rfl|⟨c,_,k,_,rfl⟩
 ·omega
 exact wrap8 _
theorem flat_len (size:Nat):∀ l:List Int,(l.flatMap fun c=>(List.range size).map (compI1 size c)).length=l.length*size
 | []=>by simp
 | c::r=>by rw [List.flatMap_cons,List.length_append,flat_len size r,List.length_map,List.length_range,List.length_cons,Nat.succ_mul]; omega
theorem compI_len (size:Nat) (l:List Int):(compI size l).length=l.length*size+1:=by rw [compI,List.length_cons,flat_len]
theorem compV_len (size:Nat) (l:List Int):(compV size l).length=l.length*size+1:=by rw [compV,List.length_map,compI_len]
abbrev u8s (l:List Int):List D:=l.map (D.int .u8)
theorem H353 (l:List Int) (size:Nat) (hs:size=1∨size=2) (hl:l.length<1000000):DFun Tryz.prog W0 353 [.sl .none 1 (encInts .i64 l),Iv (size:Nat)] (.str (compV size l)):=by
 refine Fi Tryz.func353 rfl Tryz.ntmps353 fun Γ=>?_
 apply Sr;apply Sr;refine Ir ?_;(conv=>whnf)
 refine .inl ⟨by simp only [InR]; omega,?_⟩
 (conv=>whnf);refine ⟨trivial,?_⟩;apply Sq;apply Sr;(conv=>whnf);refine Tri.own 5 1000 1 5 rfl (fun w=>?_);apply Bk
 refine Tri.loopK (α:={ i:Nat // i≤l.length }×Value) (fun x=>[(1,Iv (size:Nat)),(5,.sl (.own 1000 x.2) 1 (u8s (compI size (l.take x.1.1)))),(13,.sl .none 1 (encInts .i64 l)),(14,Iv ((encInts .i64 l).length:Nat)),(15,Iv x.1.1)])
  (fun x=>[(1000,.own x.2 (u8s (compI size (l.take x.1.1))).length 1 5)]) (fun x=>l.length-x.1.1) (⟨0,by omega⟩,w) [(1000,1000)]
  ⟨Z,rfl,Y⟩ ?_
 rintro ⟨⟨i,hi⟩,w⟩;dsimp only at hi ⊢;apply Sr;apply Sq;refine Cd (decide ((i:Int)<((encInts .i64 l).length:Nat))) rfl (fun hc=>?_) (fun hc=>?_)
 ·apply Sk
  have hia:i<l.length:=by simpa [encInts] using hc
  have hnx:=compI_next (size:=size) hia
  have hll:(compI size (l.take i)).length≤i*size+1:=by rw [compI_len,List.length_take,Nat.min_eq_left hi]; omega
  have his:i*size≤2*i:=by rcases hs with rfl|rfl<;>omega
  generalize compI size (l.take i)=L at *;apply Sq;apply Bk;apply Sr;(conv=>whnf)
  refine ⟨fun _=>by simp [encInts]; omega,?_⟩
  (conv=>whnf);refine ⟨Iv l[i],fun _=>by simp [encInts,hia],?_⟩;apply Sr;apply Bk
  refine Tri.loopK (α:={ k:Nat // k≤size }×Value) (fun x=>[(1,Iv (size:Nat)),(5,.sl (.own 1000 x.2) 1 (u8s (L++(List.range x.1.1).map (compI1 size l[i])))),(7,Iv l[i]),(13,.sl .none 1 (encInts .i64 l)),(14,Iv ((encInts .i64 l).length:Nat)),(15,Iv i),(19,Iv (size:Nat)),(20,Iv x.1.1)])
   (fun x=>[(1000,.own x.2 (u8s (L++(List.range x.1.1).map (compI1 size l[i]))).length 1 5)]) (fun x=>size-x.1.1) (⟨0,by omega⟩,w) [(1000,1000)]
   ⟨⟨.refl _,DLe.ownEq (by simp),.refl _,.refl _,.refl _,.refl _,.refl _,.refl _,trivial⟩,rfl,rfl,ownH (by simp),trivial⟩ ?_
  rintro ⟨⟨k,hk⟩,w⟩;dsimp only at hk ⊢;apply Sr;apply Sq;refine Cd (decide ((k:Int)<(size:Nat))) rfl (fun hc2=>?_) (fun hc2=>?_)
  ·apply Sk
   have hka:k<size:=by simpa using hc2
   have hrn:=range_next (compI1 size l[i]) k
   have hlk:(L++(List.range k).map (compI1 size l[i])).length≤2*i+1+k:=by simp; omega
   generalize hM:L++(List.range k).map (compI1 size l[i])=M at *
   have hM2:L++(List.range (k+1)).map (compI1 size l[i])=M++[compI1 size l[i] k]:=by rw [hrn,← List.append_assoc,hM]
   apply Sq;apply Bk;apply Sr;apply Rg;refine Ir ?_;refine Ir ?_;refine Ir ?_;(conv=>whnf);refine ⟨fun _=>by omega,?_⟩;(conv=>whnf);refine .inr ?_;(conv=>whnf);refine ⟨trivial,?_⟩;(conv=>whnf);refine ⟨rfl,rfl,?_⟩;(conv=>whnf)
   refine ⟨by simp only [u8s,List.length_map,List.length_cons,List.length_nil]; omega,by simp only [u8s,List.length_map,List.length_cons,List.length_nil]; omega,(fun h=>by cases h),fun w2=>?_⟩
   apply Rg;refine Ir ?_;(conv=>whnf)
   exact ⟨(⟨k+1,hka⟩,w2),[(1000,33)],by show size-(k+1)<size-k; omega,⟨.refl _,DLe.ownEq (by rw [hM2,u8s,u8s,List.map_append]; rfl),.refl _,.refl _,.refl _,.refl _,.refl _,.refl _,trivial⟩,rfl,rfl,ownH (by rw [hM2]; simp),trivial⟩
  refine Tri.exit ?_
  have hkn:k=size:=by simp at hc2; omega
  subst hkn;apply Rg;refine Ir ?_;(conv=>whnf)
  exact ⟨(⟨i+1,hia⟩,w),[(1000,1000)],by show l.length-(i+1)<l.length-i; omega,⟨.refl _,DLe.ownEq (by rw [hnx]),.refl _,.refl _,.refl _,trivial⟩,rfl,rfl,ownH (by rw [hnx]),trivial⟩
 refine Tri.exit ?_
 have hin:i=l.length:=by simp [encInts] at hc; omega
 subst hin;rw [List.take_length];apply Sq;refine Tri.regionX ti_ok ?_;(conv=>whnf);refine .inr (XOp.bytesStr ti_ok (bs:=compV size l) (tg:=.own 1000 w) rfl rfl rfl rfl rfl rfl (congrArg (D.sl (.own 1000 w) 1) (u8_row (compI size l) (compI_r hs l))) ?_);apply Rt;(conv=>whnf);exact .refl _
def cmpr (s:List UInt8):List UInt8×Int :=
 if (65536:Int)<(s.length:Nat) then ([],7) else if (chars s).2≠0 then ([],3) else if (chars s).1=[] then ([],0) else if maxI (chars s).1≤255 then (compV 1 (chars s).1,0) else (compV 2 (chars s).1,0)
theorem chars_len (s:List UInt8):(chars s).1.length≤65536:=by
 unfold chars
 split
 ·simp
 split
 ·rename_i l h
  have:=(charsP_len s.length s (Nat.le_refl _) l h).1
  simp only; omega
 simp
theorem H311 (hL:LibOk W0) (s:List UInt8) (hs:s.length<1000000000):DFun Tryz.prog W0 311 [.str s] (.tup [.str (cmpr s).1,Iv (cmpr s).2]):=by
 refine Fi Tryz.func311 rfl Tryz.ntmps311 fun Γ=>?_
 apply Sr;apply Sq;apply Sr;refine Cd (decide ((65536:Int)<(s.length:Nat))) rfl (fun hc=>?_) (fun hc=>?_)
 ·apply Sr;apply Rt;(conv=>whnf)
  rw [cmpr,if_pos (by simpa using hc)]; exact Z
 apply Sk
 have h1:¬ (65536:Int)<(s.length:Nat):=by simpa using hc
 rw [cmpr,if_neg h1]
 have hcl:=chars_len s
 apply Sr;(conv=>whnf);refine ⟨[.str s],_,fun _=>F120 hL s hs,Z,?_⟩;apply Sq;apply Sr;refine Cd ((chars s).2 !=0) rfl (fun hc=>?_) (fun hc=>?_)
 ·apply Sr;apply Rt;(conv=>whnf)
  rw [if_pos (by simpa using hc)]; exact Z
 apply Sk
 have h2:¬ (chars s).2≠0:=by simpa using hc
 rw [if_neg h2];generalize (chars s).1=l at *;apply Sq;apply Bk;apply Sr;refine Cd ((((encInts .i64 l).length:Nat):Int)==0) rfl (fun hc=>?_) (fun hc=>?_)
 ·apply Sr;apply Rt;(conv=>whnf)
  rw [if_pos (by simpa [encInts] using hc)]; exact Z
 apply Sq
 have h3:¬ l=[]:=by simpa [encInts] using hc
 rw [if_neg h3]
 have hl0:0<l.length:=List.length_pos_iff.2 h3
 apply Rg;(conv=>whnf);refine ⟨[.sl .none 1 (encInts .i64 l)],_,fun _=>H352 l hl0 (by omega),Z,?_⟩;refine Cd (decide (maxI l≤255)) rfl (fun hc=>?_) (fun hc=>?_)
 ·apply Sr;(conv=>whnf);refine ⟨[.sl .none 1 (encInts .i64 l),Iv (1:Nat)],_,fun _=>H353 l 1 (.inl rfl) (by omega),Z,?_⟩;apply Rt;(conv=>whnf)
  rw [if_pos (by simpa using hc)]; exact Z
 apply Sk;apply Sr;(conv=>whnf);refine ⟨[.sl .none 1 (encInts .i64 l),Iv (2:Nat)],_,fun _=>H353 l 2 (.inr rfl) (by omega),Z,?_⟩;apply Rt;(conv=>whnf)
 rw [if_neg (by simpa using hc)]; exact Z
def encFid (s:List UInt8) (dir par:Bool):D:=.agg [.str s,.bool false,.bool dir,.bool false,.bool par,.bool false,Iv 0,Iv 0,Iv 0]
def fidName (s:List UInt8) (dir par:Bool):List UInt8×Bool :=
 if par=true then ([],bif dir then s==[] else false) else ((cmpr s).1,bif (bif (cmpr s).2==0 then !(s==[]) else false) then decide ((((cmpr s).1.length:Nat):Int)≤255) else false)
theorem H312 (hL:LibOk W0) (s:List UInt8) (dir par:Bool) (hs:s.length<1000000000):DFun Tryz.prog W0 312 [encFid s dir par] (.tup [.str (fidName s dir par).1,.bool (fidName s dir par).2]):=by
 refine Fi Tryz.func312 rfl Tryz.ntmps312 fun Γ=>?_
 apply Sr;(conv=>whnf);intro b1;apply Sq;apply Sr;apply Rl;(conv=>whnf);refine ⟨[Iv 0],_,fun _=>H354 0,Z,?_⟩;apply Hh;apply Hh;apply Rl;apply Hh;refine Pk ?_;apply Hh;apply Hh;apply Rl;apply Hh;refine Pk ?_;apply Hh;apply Rl;apply Hh;(conv=>whnf);refine ⟨[Iv 0],_,fun h=>H354 0,Z,?_⟩;apply Hh;refine Pk ?_;refine Cd false rfl (fun hc=>?_) (fun hc=>?_)
 ·cases hc
 apply Sk;apply Sq;apply Sr;apply Rl;refine Cd par rfl (fun hc=>?_) (fun hc=>?_)
 ·apply Sq;refine Tri.draw ti_ok mixed (by kernel_rfl) ?_;apply Rl;apply Hh;apply Rl;apply Hh;refine Pk ?_;apply Rt;(conv=>whnf)
  rw [fidName,if_pos hc]; exact Z
 apply Sk;apply Sr;apply Rl;(conv=>whnf);refine ⟨[.str s],_,fun _=>H311 hL s hs,Z,?_⟩;apply Sr;apply Hh;apply Rl;apply Hh;refine Pk ?_;apply Hh;apply Hh;refine Pk ?_;apply Rt;(conv=>whnf)
 rw [fidName,if_neg (by rw [hc]; decide)]; exact Z
def fidSz (s:List UInt8) (dir par:Bool):Int×Int:=if (fidName s dir par).2=true then (rnd4 (38+((fidName s dir par).1.length:Nat)),0) else (0,1)
theorem cmpr_len (s:List UInt8):(cmpr s).1.length≤131073:=by
 have:=chars_len s
 unfold cmpr
 split
 ·simp
 split
 ·simp
 split
 ·simp
 split<;>simp only [compV_len]<;>omega
theorem fidName_len (s:List UInt8) (dir par:Bool):(fidName s dir par).1.length≤131073:=by
 have:=cmpr_len s
 unfold fidName; split
 ·simp
 exact this
theorem H270 (hL:LibOk W0) (s:List UInt8) (dir par:Bool) (hs:s.length<1000000000):DFun Tryz.prog W0 270 [encFid s dir par] (.tup [Iv (fidSz s dir par).1,Iv (fidSz s dir par).2]):=by
 refine Fi Tryz.func270 rfl Tryz.ntmps270 fun Γ=>?_
 apply Sr;(conv=>whnf);intro b1;apply Sr;apply Rl;(conv=>whnf);refine ⟨[encFid s dir par],_,fun _=>H312 hL s dir par hs,Z,?_⟩;apply Sq;apply Sr;refine Cd (!(fidName s dir par).2) rfl (fun hc=>?_) (fun hc=>?_)
 ·apply Sr;apply Rt;(conv=>whnf)
  rw [fidSz,if_neg (by simpa using hc)]; exact Z
 apply Sk
 have hfl:=fidName_len s dir par
 apply Sr;refine Ir ?_;(conv=>whnf);refine ⟨[Iv (38+((fidName s dir par).1.length:Nat))],_,fun _=>H313 _ (by omega) (by omega),Z,?_⟩;apply Rt;(conv=>whnf)
 rw [fidSz,if_pos (by simpa using hc)]; exact Z
def leapV (y:Int):Bool:=bif y.tmod 400==0 then true else (bif y.tmod 4==0 then y.tmod 100 !=0 else false)
def yearD (y:Int):Int:=if leapV y=true then 366 else 365
def monthT (m:Int):Int:=([31,28,31,30,31,30,31,31,30,31,30,31]:List Int).getD (m-1).toNat 31
def monthD (y m:Int):Int:=if (bif m==2 then leapV y else false)=true then 29 else monthT m
def isTimeV (t:Int):Bool:=bif decide (315532800≤t) then decide (t≤4102444799) else false
def isZoneV (z:Int):Bool:=bif decide (-1440≤z) then decide (z≤1440) else false
def isQuarV (z:Int):Bool:=bif (bif z.tmod 15==0 then decide (-720≤z) else false) then decide (z≤780) else false
theorem H274 (y:Int):DFun Tryz.prog W0 274 [Iv y] (.bool (leapV y)):=by
 refine Fi Tryz.func274 rfl Tryz.ntmps274 fun Γ=>?_
 apply Sr;apply Sr;(conv=>whnf);refine ⟨fun _=>by omega,?_⟩;apply Hh;(conv=>whnf);refine ⟨fun h=>by omega,?_⟩;apply Hh;apply Hh;apply Hh;(conv=>whnf);refine ⟨fun h=>by omega,?_⟩;apply Hh;apply Hh;refine Pk ?_;refine Pk ?_;apply Rt;(conv=>whnf);exact .refl _
theorem H222 (y:Int):DFun Tryz.prog W0 222 [Iv y] (Iv (yearD y)):=by
 refine Fi Tryz.func222 rfl Tryz.ntmps222 fun Γ=>?_
 apply Sr;apply Sq;apply Sr;(conv=>whnf);refine ⟨[Iv y],_,fun _=>H274 y,Z,?_⟩;refine Cd _ rfl (fun hc=>?_) (fun hc=>?_)
 ·apply Sr;apply Rt;(conv=>whnf)
  rw [yearD,if_pos hc]; exact .refl _
 apply Sk;apply Sr;apply Rt;(conv=>whnf)
 rw [yearD,if_neg (by rw [hc]; decide)]; exact .refl _
theorem month_at (m:Int) (h1:1≤m) (h2:m≤12):([D.int .i64 31,D.int .i64 28,D.int .i64 31,D.int .i64 30,D.int .i64 31,D.int .i64 30,D.int .i64 31,D.int .i64 31,D.int .i64 30,D.int .i64 31,D.int .i64 30,D.int .i64 31])[0+(m-1).toNat*1]? = some (.int .i64 (monthT m)):=by
 have hm:(m-1).toNat<12:=by omega
 unfold monthT
 rw [Nat.zero_add,Nat.mul_one];generalize (m-1).toNat=k at *
 match k,hm with
 | 0,_=>rfl
 | 1,_=>rfl
 | 2,_=>rfl
 | 3,_=>rfl
 | 4,_=>rfl
 | 5,_=>rfl
 | 6,_=>rfl
 | 7,_=>rfl
 | 8,_=>rfl
 | 9,_=>rfl
 | 10,_=>rfl
 | 11,_=>rfl
theorem H223 (y m:Int) (h1:1≤m) (h2:m≤12):DFun Tryz.prog W0 223 [Iv y,Iv m] (Iv (monthD y m)):=by
 refine Fi Tryz.func223 rfl Tryz.ntmps223 fun Γ=>?_
 apply Sr;apply Sq;refine Tri.regionG ti_ok ?_;apply Tl;refine XOp.buildArr12 rfl rfl rfl (fun w=>rfl) rfl rfl rfl rfl rfl rfl rfl rfl rfl rfl rfl rfl ?_;apply Tj;(conv=>whnf);intro b5;apply Tj;apply Rl;apply Sq;apply Sr;apply Hh;(conv=>whnf);refine ⟨[Iv y],_,fun _=>H274 y,Z,?_⟩;refine Pk ?_;refine Cd (bif m==2 then leapV y else false) rfl (fun hc=>?_) (fun hc=>?_)
 ·apply Sr;apply Rt;(conv=>whnf)
  rw [monthD,if_pos hc]; exact .refl _
 apply Sk;apply Sq;refine Tri.regionG ti_ok ?_;apply Tj;apply Tj;refine Ir ?_;(conv=>whnf);refine ⟨rfl,trivial,.inr (XOp.arrIndex rfl rfl rfl rfl (by omega) (by omega) ?_)⟩;(conv=>whnf);refine ⟨rfl,trivial,.inr (XOp.boxLoadAt ti_ok rfl rfl rfl rfl (month_at m h1 h2) ?_)⟩;apply Tj;apply Rt;(conv=>whnf)
 rw [monthD,if_neg (by rw [hc]; decide)]; exact .refl _
theorem H220 (t:Int):DFun Tryz.prog W0 220 [Iv t] (.bool (isTimeV t)):=by
 refine Fi Tryz.func220 rfl Tryz.ntmps220 fun Γ=>?_
 apply Sr;apply Sr;apply Hh;refine Pk ?_;apply Rt;(conv=>whnf);exact .refl _
theorem H221 (t:Int):DFun Tryz.prog W0 221 [Iv t] (.bool (isZoneV t)):=by
 refine Fi Tryz.func221 rfl Tryz.ntmps221 fun Γ=>?_
 apply Sr;apply Sr;apply Hh;refine Pk ?_;apply Rt;(conv=>whnf);exact .refl _
theorem H157 (t:Int):DFun Tryz.prog W0 157 [Iv t] (.bool (isQuarV t)):=by
 refine Fi Tryz.func157 rfl Tryz.ntmps157 fun Γ=>?_
 apply Sr;apply Sr;(conv=>whnf);refine ⟨fun _=>by omega,?_⟩;apply Hh;refine Pk ?_;apply Hh;refine Pk ?_;apply Rt;(conv=>whnf);exact .refl _
theorem yearD_pos (y:Int):365≤yearD y∧yearD y≤366:=by unfold yearD; split<;>omega
theorem monthD_r (y m:Int) (h1:1≤m) (h2:m≤12):28≤monthD y m∧monthD y m≤31:=by
 unfold monthD monthT
 split
 ·omega
 have hm:(m-1).toNat<12:=by omega
 generalize (m-1).toNat=k at *
 match k,hm with
 | 0,_=>decide
 | 1,_=>decide
 | 2,_=>decide
 | 3,_=>decide
 | 4,_=>decide
 | 5,_=>decide
 | 6,_=>decide
 | 7,_=>decide
 | 8,_=>decide
 | 9,_=>decide
 | 10,_=>decide
 | 11,_=>decide
def cumM (y m:Int):Int:=([0,31,59,90,120,151,181,212,243,273,304,334]:List Int).getD (m-1).toNat 0+(if (decide (2<m)&&leapV y)=true then 1 else 0)
theorem cum_next (y m:Int) (h1:1≤m) (h2:m<12):cumM y (m+1)=cumM y m+monthD y m:=by
 obtain ⟨k,hk,rfl⟩:∃ k:Nat,k<11∧m=(k:Int)+1:=⟨(m-1).toNat,by omega,by omega⟩
 unfold cumM monthD monthT
 match k,hk with
 | 0,_=>cases leapV y<;>decide
 | 1,_=>cases leapV y<;>decide
 | 2,_=>cases leapV y<;>decide
 | 3,_=>cases leapV y<;>decide
 | 4,_=>cases leapV y<;>decide
 | 5,_=>cases leapV y<;>decide
 | 6,_=>cases leapV y<;>decide
 | 7,_=>cases leapV y<;>decide
 | 8,_=>cases leapV y<;>decide
 | 9,_=>cases leapV y<;>decide
 | 10,_=>cases leapV y<;>decide
theorem cum_r (y m:Int) (h1:1≤m) (h2:m≤12):0≤cumM y m:=by
 obtain ⟨k,hk,rfl⟩:∃ k:Nat,k<12∧m=(k:Int)+1:=⟨(m-1).toNat,by omega,by omega⟩
 unfold cumM
 match k,hk with
 | 0,_=>cases leapV y<;>decide
 | 1,_=>cases leapV y<;>decide
 | 2,_=>cases leapV y<;>decide
 | 3,_=>cases leapV y<;>decide
 | 4,_=>cases leapV y<;>decide
 | 5,_=>cases leapV y<;>decide
 | 6,_=>cases leapV y<;>decide
 | 7,_=>cases leapV y<;>decide
 | 8,_=>cases leapV y<;>decide
 | 9,_=>cases leapV y<;>decide
 | 10,_=>cases leapV y<;>decide
 | 11,_=>cases leapV y<;>decide
theorem cum_last (y:Int):cumM y 12+monthD y 12=yearD y:=by
 unfold cumM monthD monthT yearD
 cases leapV y<;>decide
def yrs (d y:Int):Int×Int:=if h:yearD y≤d then yrs (d-yearD y) (y+1) else (d,y)
termination_by d.toNat
decreasing_by have:=yearD_pos y; omega
def mns (n:Nat) (y d m:Int):Int×Int:=match n with
 | 0=>(d,m)
 | n+1=>if monthD y m≤d then mns n y (d-monthD y m) (m+1) else (d,m)
theorem mns_stop {n:Nat} {y d m:Int} (h:¬ monthD y m≤d):mns n y d m=(d,m):=by
 cases n with
 | zero=>rfl
 | succ n=>rw [mns,if_neg h]
def clock4 (y:Int) (b:Int×Int) (E:Int):List Int:=[y,b.2,b.1+1,E.tdiv 3600,(E.tdiv 60).tmod 60,E.tmod 60]
def clock3 (a:Int×Int) (E:Int):List Int:=clock4 a.2 (mns 12 a.2 a.1 1) E
def clock2 (D E:Int):List Int:=clock3 (yrs D 1970) E
def clockV (t z:Int):List Int:=clock2 ((t+60*z).tdiv 86400) ((t+60*z).tmod 86400)
def splitOk (t z:Int):Bool:=!(bif !isTimeV t then true else !isZoneV z)
def clkV (t z:Int):List Int:=if splitOk t z=true then clockV t z else [0,0,0,0,0,0]
def encClk (l:List Int):D:=.agg (l.map (D.int .i64))
theorem H156 (t z:Int):DFun Tryz.prog W0 156 [Iv t,Iv z] (.tup [encClk (clkV t z),Iv (if splitOk t z=true then 0 else 2)]):=by
 refine Fi Tryz.func156 rfl Tryz.ntmps156 fun Γ=>?_
 apply Sr;(conv=>whnf);intro b4;apply Sq;apply Sr;(conv=>whnf);refine ⟨[Iv t],_,fun _=>H220 t,Z,?_⟩;apply Hh;(conv=>whnf);refine ⟨[Iv z],_,fun h=>H221 z,Z,?_⟩;apply Hh;refine Pk ?_;refine Cd (bif !isTimeV t then true else !isZoneV z) rfl (fun hc=>?_) (fun hc=>?_)
 ·apply Sr;apply Rl;apply Rt;(conv=>whnf)
  have hs:¬ splitOk t z=true:=by unfold splitOk; rw [hc]; decide
  rw [clkV,if_neg hs,if_neg hs];apply Rl;(conv=>whnf);exact Z
 have hs:splitOk t z=true:=by unfold splitOk; rw [hc]; rfl
 have hr:315532800≤t∧t≤4102444799∧-1440≤z∧z≤1440:=by
  revert hc; unfold isTimeV isZoneV
  cases h1:decide (315532800≤t)<;>cases h2:decide (t≤4102444799)<;>cases h3:decide (-1440≤z)<;>cases h4:decide (z≤1440)<;>simp at h1 h2 h3 h4 ⊢<;>omega
 rw [clkV,if_pos hs,if_pos hs,clockV]
 have hq1:(t+60*z).tdiv 86400=(t+60*z)/86400:=Int.tdiv_eq_ediv_of_nonneg (by omega)
 have hq2:(t+60*z).tmod 86400=(t+60*z)%86400:=Int.tmod_eq_emod_of_nonneg (by omega)
 apply Sk;apply Sr;refine Ir ?_;refine Ir ?_;apply Sr;(conv=>whnf);refine ⟨fun _=>by omega,?_⟩;refine Ir ?_;(conv=>whnf);refine ⟨fun _=>by omega,?_⟩;(conv=>whnf);generalize hD:(t+60*z).tdiv 86400=D0 at *;generalize hE:(t+60*z).tmod 86400=E at *
 have hD0:0≤D0∧D0<60000:=by omega
 have hE0:0≤E∧E<86400:=by omega
 have hq3:E.tdiv 3600=E/3600:=Int.tdiv_eq_ediv_of_nonneg (by omega)
 have hq4:E.tdiv 60=E/60:=Int.tdiv_eq_ediv_of_nonneg (by omega)
 apply Sr;(conv=>whnf);refine ⟨fun _=>by omega,?_⟩;refine Ir ?_;(conv=>whnf);refine ⟨fun _=>by omega,?_⟩;refine Ir ?_;(conv=>whnf);refine ⟨fun _=>by omega,?_⟩;(conv=>whnf);refine ⟨fun _=>by omega,?_⟩;(conv=>whnf);intro b9;(conv=>whnf)
 unfold clock2
 generalize hY:yrs D0 1970=YY at *;generalize hC:clock3 YY E=CC at *;apply Rl;apply Sq;apply Bk
 refine Tri.loopK (α:={ p:Int×Int // yrs p.1 p.2=YY∧0≤p.1∧p.1≤D0∧1970≤p.2∧p.2≤1970+(D0-p.1) }) (fun x=>[(4,.box 4 b4 0),(7,Iv x.1.1),(9,.box 9 b9 0)])
  (fun x=>[(4,.box b4 [Iv 0,Iv 0,Iv 0,Iv 0,Iv 0,Iv 0]),(9,.box b9 [Iv x.1.2,Iv 1,Iv 0,Iv (E.tdiv 3600),Iv ((E.tdiv 60).tmod 60),Iv (E.tmod 60)])]) (fun x=>x.1.1.toNat) ⟨(D0,1970),hY,hD0.1,Int.le_refl _,Int.le_refl _,by omega⟩ [(4,4),(9,9)]
  ⟨Z,rfl,Y⟩ ?_
 rintro ⟨⟨d,y⟩,hy,hd0,hd1,hy0,hy1⟩;dsimp only at hy hd0 hd1 hy0 hy1 ⊢
 have hyp:=yearD_pos y
 apply Sq;apply Sr;apply Rl;(conv=>whnf);refine ⟨[Iv y],_,fun _=>H222 y,Z,?_⟩;refine Cd (decide (yearD y≤d)) rfl (fun hc2=>?_) (fun hc2=>?_)
 ·apply Sk
  have hle:yearD y≤d:=by simpa using hc2
  apply Bk;apply Sr;apply Rl;(conv=>whnf);refine ⟨[Iv y],_,fun _=>H222 y,Z,?_⟩;refine Ir ?_;apply Rg;apply Rl;refine Ir ?_;apply Rl;(conv=>whnf)
  exact ⟨⟨(d-yearD y,y+1),by rw [← hy]; conv=>{ rhs; rw [yrs,dif_pos hle] },by show 0≤d-yearD y; omega,by show d-yearD y≤D0; omega,by show 1970≤y+1; omega,by show y+1≤1970+(D0-(d-yearD y)); omega⟩,[(4,4),(9,9)],by show (d-yearD y).toNat<d.toNat; omega,Z,rfl,Y⟩
 have hyf:YY=(d,y):=by rw [← hy,yrs,dif_neg (by simpa using hc2)]
 have hlt : d < yearD y := by have : ¬ yearD y ≤ d := by simpa using hc2
                              omega
 refine Tri.exit ?_;apply Sq;apply Bk
 refine Tri.loopK (α:={ p:Int×Int×Nat // mns p.2.2 y p.1 p.2.1=mns 12 y d 1∧0≤p.1∧1≤p.2.1∧p.2.1≤12∧p.1+cumM y p.2.1=d∧(p.2.2:Int)+p.2.1=13 }) (fun x=>[(4,.box 4 b4 0),(7,Iv x.1.1),(9,.box 9 b9 0)])
  (fun x=>[(4,.box b4 [Iv 0,Iv 0,Iv 0,Iv 0,Iv 0,Iv 0]),(9,.box b9 [Iv y,Iv x.1.2.1,Iv 0,Iv (E.tdiv 3600),Iv ((E.tdiv 60).tmod 60),Iv (E.tmod 60)])]) (fun x=>x.1.1.toNat) ⟨(d,1,12),rfl,hd0,by show (1:Int)≤1; decide,by show (1:Int)≤12; decide,by show d+cumM y 1=d; rw [show cumM y 1=0 from by unfold cumM; cases leapV y<;>decide]; omega,by show ((12:Nat):Int)+1=13; decide⟩ [(4,4),(9,9)]
  ⟨Z,rfl,Y⟩ ?_
 rintro ⟨⟨e,m,n⟩,hm,he0,hm1,hm2,hcm,hnm⟩;dsimp only at hm he0 hm1 hm2 hcm hnm ⊢
 have hmr:=monthD_r y m hm1 hm2
 have hcr:=cum_r y m hm1 hm2
 apply Sq;apply Sr;apply Rl;apply Rl;(conv=>whnf);refine ⟨[Iv y,Iv m],_,fun _=>H223 y m hm1 hm2,Z,?_⟩;refine Cd (decide (monthD y m≤e)) rfl (fun hc3=>?_) (fun hc3=>?_)
 ·apply Sk
  have hle:monthD y m≤e:=by simpa using hc3
  have hm12:m<12:=by
   rcases Int.lt_or_le m 12 with h|h
   ·exact h
   have:m=12:=by omega
   subst this
   have:=cum_last y; omega
  obtain ⟨n,rfl⟩:∃ k,n=k+1:=⟨n-1,by omega⟩;apply Bk;apply Sr;apply Rl;apply Rl;(conv=>whnf);refine ⟨[Iv y,Iv m],_,fun _=>H223 y m hm1 hm2,Z,?_⟩;refine Ir ?_;apply Rg;apply Rl;refine Ir ?_;apply Rl;(conv=>whnf)
  exact ⟨⟨(e-monthD y m,m+1,n),by rw [← hm]; conv=>{ rhs; rw [mns,if_pos hle] },by show 0≤e-monthD y m; omega,by show 1≤m+1; omega,by show m+1≤12; omega,by show e-monthD y m+cumM y (m+1)=d; rw [cum_next y m hm1 hm12]; omega,by show (n:Int)+(m+1)=13; omega⟩,[(4,4),(9,9)],by show (e-monthD y m).toNat<e.toNat; omega,Z,rfl,Y⟩
 have hmf:mns 12 y d 1=(e,m):=by rw [← hm]; exact mns_stop (by simpa using hc3)
 have hCC:CC=[y,m,e+1,E.tdiv 3600,(E.tdiv 60).tmod 60,E.tmod 60]:=by rw [← hC,hyf]; show clock4 y (mns 12 y d 1) E=_; rw [hmf]; rfl
 subst hCC
 have he1:e<1000000:=by omega
 refine Tri.exit ?_;apply Sr;refine Ir ?_;apply Rl;apply Sr;apply Rl;apply Rl;apply Rt;apply Rl;(conv=>whnf);exact Z
def recOk (t z:Int):Bool:=splitOk t z&&isQuarV z
def recI (t z:Int):List Int:=[IntKind.wrap .u8 (IntKind.wrap .i64 ((clkV t z).getD 0 0-1900)),IntKind.wrap .u8 ((clkV t z).getD 1 0),IntKind.wrap .u8 ((clkV t z).getD 2 0),IntKind.wrap .u8 ((clkV t z).getD 3 0),IntKind.wrap .u8 ((clkV t z).getD 4 0),IntKind.wrap .u8 ((clkV t z).getD 5 0),IntKind.wrap .u8 (IntKind.wrap .i8 (IntKind.wrap .i64 (z.tdiv 15)))]
def recT (t z:Int):List UInt8×Int:=if recOk t z=true then ((recI t z).map u8i,0) else ([],2)
theorem recI_r (t z:Int):∀ n∈recI t z,0≤n∧n≤255:=fun n hn=>by
 simp only [recI,List.mem_cons,List.mem_nil_iff,or_false] at hn
 rcases hn with rfl|rfl|rfl|rfl|rfl|rfl|rfl<;>exact wrap8 _
theorem clk_eq (t z:Int):encClk (clkV t z)=.agg [Iv ((clkV t z).getD 0 0),Iv ((clkV t z).getD 1 0),Iv ((clkV t z).getD 2 0),Iv ((clkV t z).getD 3 0),Iv ((clkV t z).getD 4 0),Iv ((clkV t z).getD 5 0)]:=by
 unfold clkV; split<;>rfl
theorem H108 (t z:Int):DFun Tryz.prog W0 108 [Iv t,Iv z] (.tup [.str (recT t z).1,Iv (recT t z).2]):=by
 refine Fi Tryz.func108 rfl Tryz.ntmps108 fun Γ=>?_
 apply Sr;apply Sr;(conv=>whnf);refine ⟨[Iv t,Iv z],_,fun _=>H156 t z,Z,?_⟩;rw [clk_eq];(conv=>whnf);intro b6;apply Rl;apply Sq;apply Sr;apply Hh;(conv=>whnf);refine ⟨[Iv z],_,fun h=>H157 z,Z,?_⟩;apply Hh;refine Pk ?_
 refine Cd (!recOk t z) (congrArg D.bool (by unfold recOk; cases splitOk t z<;>cases isQuarV z<;>rfl)) (fun hc=>?_) (fun hc=>?_)
 ·apply Sr;apply Rt;(conv=>whnf)
  have hs:¬ recOk t z=true:=by simpa using hc
  rw [recT,if_neg hs]; exact Z
 apply Sk;apply Sq;refine Tri.regionX ti_ok ?_;apply Il;apply Rl;(conv=>whnf);refine .inr ?_;apply Il;(conv=>whnf);refine .inr ?_;apply Il;apply Rl;apply Il;(conv=>whnf);refine .inr ?_;apply Il;apply Rl;apply Il;(conv=>whnf);refine .inr ?_;apply Il;apply Rl;apply Il;(conv=>whnf);refine .inr ?_;apply Il;apply Rl;apply Il;(conv=>whnf);refine .inr ?_;apply Il;apply Rl;apply Il;(conv=>whnf);refine .inr ?_;(conv=>whnf);refine ⟨fun _=>by omega,?_⟩;(conv=>whnf);refine .inr ?_;apply Il;(conv=>whnf);refine .inr ?_;apply Il;(conv=>whnf);refine .inr ?_;(conv=>whnf);refine ⟨trivial,?_⟩;(conv=>whnf);refine .inr (XOp.bytesStr ti_ok (bs:=(recI t z).map u8i) (tg:=.full) rfl rfl rfl rfl rfl rfl (congrArg (D.sl .full 1) (u8_row (recI t z) (recI_r t z))) ?_);apply Rt;(conv=>whnf)
 have hs:recOk t z=true:=by simpa using hc
 rw [recT,if_pos hs]; exact Z
def chkV (n:NV) (o:OV):Int:=if (!valid n)=true then 1 else if (32:Int)<((o.boot.map encB).length:Nat) then 7 else (recT 315619200 o.zone).2
theorem H75 (hL:LibOk W0) (n:NV) (o:OV) (hz:sz n+n.name.length<10000000):DFun Tryz.prog W0 75 [encTop n,encO o] (Iv (chkV n o)):=by
 refine Fi Tryz.func75 rfl Tryz.ntmps75 fun Γ=>?_
 apply Sr;(conv=>whnf);intro b2;(conv=>whnf);intro b3;apply Sq;apply Bk;apply Sr;apply Rl;(conv=>whnf);refine ⟨[encTop n],_,fun _=>F39 hL n hz,Z,?_⟩;refine Cd (!valid n) rfl (fun hc=>?_) (fun hc=>?_)
 ·apply Sr;apply Rt;(conv=>whnf)
  rw [chkV,if_pos hc]; exact .refl _
 apply Sq
 rw [chkV,if_neg (by rw [hc]; decide)]
 apply Rg;apply Rl;refine Cd (decide ((32:Int)<((o.boot.map encB).length:Nat))) rfl (fun hc=>?_) (fun hc=>?_)
 ·apply Sr;apply Rt;(conv=>whnf)
  rw [if_pos (by simpa using hc)]; exact .refl _
 apply Sk;rw [if_neg (by simpa using hc)];apply Sr;apply Rl;(conv=>whnf);refine ⟨[Iv 315619200,Iv o.zone],_,fun _=>H108 315619200 o.zone,Z,?_⟩;apply Sr;apply Rt;(conv=>whnf);exact .refl _
def padV (n:Int):Int:=(33+n+1).tdiv 2*2
def evenV (n:Int):Int:=(n+1).tdiv 2*2
def drBad (i u:Int):Bool:=bif (bif (bif (bif decide (i<1) then true else decide (254<i)) then true else decide (u<0)) then true else decide (254<u)) then true else u.tmod 2 !=0
def drSz (i u:Int):Int:=if drBad i u=true then 0 else if padV i+u≤254 then padV i+u else 0
theorem H242 (n:Int) (h0:0≤n) (h1:n<1000000000000):DFun Tryz.prog W0 242 [Iv n] (Iv (padV n)):=by
 refine Fi Tryz.func242 rfl Tryz.ntmps242 fun Γ=>?_
 apply Sr;apply Sr;refine Ir ?_;refine Ir ?_;(conv=>whnf);refine ⟨fun _=>by omega,?_⟩;(conv=>whnf)
 have hq:(33+n+1).tdiv 2=(33+n+1)/2:=Int.tdiv_eq_ediv_of_nonneg (by omega)
 refine Ir ?_;refine Ir ?_;apply Rt;(conv=>whnf);exact .refl _
theorem H250 (n:Int) (h0:0≤n) (h1:n<1000000000000):DFun Tryz.prog W0 250 [Iv n] (Iv (evenV n)):=by
 refine Fi Tryz.func250 rfl Tryz.ntmps250 fun Γ=>?_
 apply Sr;apply Sr;refine Ir ?_;(conv=>whnf);refine ⟨fun _=>by omega,?_⟩;(conv=>whnf)
 have hq:(n+1).tdiv 2=(n+1)/2:=Int.tdiv_eq_ediv_of_nonneg (by omega)
 refine Ir ?_;refine Ir ?_;apply Rt;(conv=>whnf);exact .refl _
theorem H171 (n:Int) (h0:0≤n) (h1:n<1000000000000):DFun Tryz.prog W0 171 [Iv n] (Iv (udfBlk n)):=by
 refine Fi Tryz.func171 rfl Tryz.ntmps171 fun Γ=>?_
 apply Sr;apply Sr;refine Ir ?_;refine Ir ?_;(conv=>whnf);refine ⟨fun _=>by omega,?_⟩;(conv=>whnf)
 have hq:(n+2048-1).tdiv 2048=(n+2048-1)/2048:=Int.tdiv_eq_ediv_of_nonneg (by omega)
 refine Ir ?_;apply Rt;(conv=>whnf);exact .refl _
theorem drBad_no {i u:Int} (h:drBad i u=false):1≤i∧i≤254∧0≤u∧u≤254:=by
 revert h; unfold drBad
 cases h1:decide (i<1)<;>cases h2:decide (254<i)<;>cases h3:decide (u<0)<;>cases h4:decide (254<u)<;>simp at h1 h2 h3 h4 ⊢<;>omega
theorem padV_r {i:Int} (h0:0≤i) (h1:i≤1000):33≤padV i∧padV i≤1100:=by
 unfold padV; rw [Int.tdiv_eq_ediv_of_nonneg (by omega)]; omega
theorem H174 (i u:Int):DFun Tryz.prog W0 174 [Iv i,Iv u] (Iv (drSz i u)):=by
 refine Fi Tryz.func174 rfl Tryz.ntmps174 fun Γ=>?_
 apply Sr;apply Sq;apply Sr;apply Hh;refine Pk ?_;apply Hh;refine Pk ?_;apply Hh;refine Pk ?_;apply Hh;(conv=>whnf);refine ⟨fun h=>by omega,?_⟩;apply Hh;refine Pk ?_;refine Cd (drBad i u) rfl (fun hc=>?_) (fun hc=>?_)
 ·apply Sr;apply Rt;(conv=>whnf)
  rw [drSz,if_pos hc]; exact .refl _
 apply Sk;obtain ⟨hr1,hr2,hr3,hr4⟩:=drBad_no hc
 have hp:=padV_r (i:=i) (by omega) (by omega)
 rw [drSz,if_neg (by rw [hc]; decide)]
 apply Sq;apply Sr;(conv=>whnf);refine ⟨[Iv i],_,fun _=>H242 i (by omega) (by omega),Z,?_⟩;refine Ir ?_;apply Sr;refine Cd _ rfl (fun hc=>?_) (fun hc=>?_)
 ·apply Sr;apply Rt;(conv=>whnf)
  rw [if_pos (by simpa using hc)]; exact .refl _
 apply Sk;apply Sr;apply Rt;(conv=>whnf)
 rw [if_neg (by simpa using hc)]; exact .refl _
theorem H229 (fid:Nat):DFun Tryz.prog W0 229 [.fn (.func fid) [] []] (.sl .none 3 []):=by
 refine Fi Tryz.func229 rfl Tryz.ntmps229 fun Γ=>?_
 apply Sr;apply Sr;apply Rt;(conv=>whnf);exact DLe.nil
def badSz (n:Int):Bool:=bif (bif decide (n<34) then true else decide (254<n)) then true else n.tmod 2 !=0
def plAt (at' n:Int):Int:=if 2048-at'.tmod 2048<n then at'+(2048-at'.tmod 2048) else at'
def plStep (q:List Int×Int) (n:Int):List Int×Int:=(q.1++[plAt q.2 n],plAt q.2 n+n)
def plF (l:List Int):List Int×Int:=l.foldl plStep ([],0)
def placV (l:List Int):List Int×Int×Bool:=if l.any badSz=true then ([],0,false) else ((plF l).1,(plF l).2,true)
theorem plF_next {l:List Int} {i:Nat} (h:i<l.length):plF (l.take (i+1))=plStep (plF (l.take i)) l[i]:=by
 rw [plF,plF,List.take_succ_eq_append_getElem h,List.foldl_append]; rfl
theorem plAt_r (a n:Int) (h0:0≤a) (hn:n≤254):a≤plAt a n∧plAt a n≤a+2048:=by
 unfold plAt
 rw [Int.tmod_eq_emod_of_nonneg h0]; split<;>omega
theorem badSz_no {n:Int} (h:badSz n=false):34≤n∧n≤254:=by
 revert h; unfold badSz
 cases h1:decide (n<34)<;>cases h2:decide (254<n)<;>simp at h1 h2 ⊢<;>omega
theorem plF_r {l:List Int} (hl:∀ j (hj:j<l.length),badSz l[j]=false):∀ k,k≤l.length→(plF (l.take k)).1.length=k∧0≤(plF (l.take k)).2∧(plF (l.take k)).2≤2302*(k:Int)
 | 0,_=>by simp [plF]
 | k+1,hk=>by
  have hk':k<l.length:=by omega
  obtain ⟨h1,h2,h3⟩:=plF_r hl k (by omega)
  have h4:=badSz_no (hl k hk')
  have h5:=plAt_r (plF (l.take k)).2 l[k] h2 h4.2
  rw [plF_next hk'];simp only [plStep,List.length_append,List.length_cons,List.length_nil]
  omega
theorem H251 (l:List Int) (hl:l.length<1000000):DFun Tryz.prog W0 251 [.sl .none 1 (intsD l)] (.tup [.sl .none 1 (intsD (placV l).1),Iv (placV l).2.1,.bool (placV l).2.2]):=by
 refine Fi Tryz.func251 rfl Tryz.ntmps251 fun Γ=>?_
 apply Sr;apply Sr;apply Sr;apply Sq;apply Sr;(conv=>whnf);refine Tri.own 5 1000 1 3 rfl (fun w=>?_);apply Bk
 refine Tri.loopK (α:={ i:Nat // i≤l.length∧∀ j (hj:j<l.length),j<i→badSz l[j]=false }×Value) (fun x=>[(5,.sl (.own 1000 x.2) 1 (intsD (plF (l.take x.1.1)).1)),(6,Iv (plF (l.take x.1.1)).2),(10,.sl .none 1 (intsD l)),(11,Iv ((intsD l).length:Nat)),(12,Iv x.1.1)])
  (fun x=>[(1000,.own x.2 (intsD (plF (l.take x.1.1)).1).length 1 3)]) (fun x=>l.length-x.1.1) (⟨0,by omega,fun j _ h=>by omega⟩,w) [(1000,1000)]
  ⟨Z,rfl,Y⟩ ?_
 rintro ⟨⟨i,hi,hok⟩,w⟩;dsimp only at hi hok ⊢;apply Sr;apply Sq;refine Cd (decide ((i:Int)<((intsD l).length:Nat))) rfl (fun hc=>?_) (fun hc=>?_)
 ·apply Sk
  have hia:i<l.length:=by simpa [intsD] using hc
  have hnx:=plF_next hia
  have htl:(l.take i).length=i:=by rw [List.length_take]; omega
  have hpr:=plF_r (l:=l.take i) (fun j hj=>by rw [List.getElem_take]; exact hok j (by omega) (by omega)) i (by omega)
  rw [List.take_take,Nat.min_self] at hpr;obtain ⟨hp1,hp2,hp3⟩:=hpr;generalize hP:plF (l.take i)=Pq at *;obtain ⟨out,at'⟩:=Pq;dsimp only at hp1 hp2 hp3;apply Sq;apply Bk;apply Sr;(conv=>whnf)
  refine ⟨fun _=>by simp [intsD]; omega,?_⟩
  (conv=>whnf);refine ⟨Iv l[i],fun _=>by simp [intsD,hia],?_⟩;apply Sq;apply Sr;apply Hh;refine Pk ?_;apply Hh;(conv=>whnf);refine ⟨fun h=>by omega,?_⟩;apply Hh;refine Pk ?_;refine Cd (badSz l[i]) rfl (fun hc2=>?_) (fun hc2=>?_)
  ·apply Sr;apply Rt;(conv=>whnf)
   have hb:l.any badSz=true:=List.any_eq_true.2 ⟨l[i],List.getElem_mem hia,hc2⟩
   rw [placV,if_pos hb];exact ⟨DLe.nil,.refl _,.refl _,trivial⟩
  apply Sk
  have hsr:=badSz_no hc2
  have hpa:=plAt_r at' l[i] hp2 hsr.2
  have hq:at'.tmod 2048=at'%2048:=Int.tmod_eq_emod_of_nonneg hp2
  (conv=>whnf);refine Tri.joinK (α:=Unit) (fun x=>[(5,.sl (.own 1000 w) 1 (intsD out)),(6,Iv (plAt at' l[i])),(8,Iv l[i]),(10,.sl .none 1 (intsD l)),(11,Iv ((intsD l).length:Nat)),(12,Iv i)]) (fun x=>[(1000,.own w (intsD out).length 1 3)]) ?_ ?_
  ·apply Sr;(conv=>whnf);refine ⟨fun _=>by omega,?_⟩;refine Ir ?_;apply Sr;refine Cd (decide (2048-at'.tmod 2048<l[i])) rfl (fun hc3=>?_) (fun hc3=>?_)
   ·apply Rg;refine Ir ?_;(conv=>whnf);exact ⟨(),[(1000,1000)],⟨.refl _,DLe.of_eq (congrArg (D.int .i64) (by rw [plAt,if_pos (by simpa using hc3)])),.refl _,.refl _,.refl _,.refl _,trivial⟩,rfl,Y⟩
   apply Sk;(conv=>whnf);exact ⟨(),[(1000,1000)],⟨.refl _,DLe.of_eq (congrArg (D.int .i64) (by rw [plAt,if_neg (by simpa using hc3)])),.refl _,.refl _,.refl _,.refl _,trivial⟩,rfl,Y⟩
  rintro ⟨⟩
  have hil:(intsD out).length=i:=by rw [intsD,List.length_map,hp1]
  apply Sr;(conv=>whnf);refine ⟨trivial,?_⟩;(conv=>whnf);refine ⟨rfl,rfl,?_⟩;(conv=>whnf)
  refine ⟨by show (_+1)*8≤_; omega,by show _+1≤_; omega,(fun h=>by cases h),fun w2=>?_⟩
  apply Rg;refine Ir ?_;apply Rg;refine Ir ?_;(conv=>whnf)
  have he:(plF (l.take (i+1))).1=out++[plAt at' l[i]]:=by rw [hnx]; rfl
  have he2:(plF (l.take (i+1))).2=plAt at' l[i]+l[i]:=by rw [hnx]; rfl
  exact ⟨(⟨i + 1, hia, fun j hj h => by rcases Nat.lt_or_ge j i with hj2 | hj2
                                        ·exact hok j hj hj2
                                        have:j=i:=by omega
                                        subst this; exact hc2⟩,w2),[(1000,39)],by show l.length-(i+1)<l.length-i; omega,⟨DLe.ownEq (by rw [he,intsD,intsD,List.map_append]; rfl),DLe.of_eq (congrArg (D.int .i64) he2.symm),.refl _,.refl _,.refl _,trivial⟩,rfl,rfl,ownH (by rw [he,intsD,intsD,List.map_append]; simp),trivial⟩
 have hin:i=l.length:=by simp [intsD] at hc; omega
 subst hin
 have hb:¬ l.any badSz=true:=by
  rw [List.any_eq_true];rintro ⟨x,hx,hbx⟩;obtain ⟨j,hj,rfl⟩:=List.mem_iff_getElem.1 hx
  rw [hok j hj hj] at hbx; cases hbx
 rw [List.take_length,placV,if_neg hb];refine Tri.exit ?_;apply Sr;apply Rt;(conv=>whnf);exact ⟨DLe.unown,.refl _,.refl _,trivial⟩
def dirBl (l:List Int):Int:=((placV l).2.1+2048-1).tdiv 2048
theorem placV_r (l:List Int) (hl:l.length<1000000):0≤(placV l).2.1∧(placV l).2.1≤2302000000:=by
 unfold placV; split
 ·decide
 rename_i h
 have:=plF_r (l:=l) (fun j hj=>by
  cases hb:badSz l[j] with
  | false=>rfl
  | true=>exact absurd (List.any_eq_true.2 ⟨l[j],List.getElem_mem hj,hb⟩) h) l.length (Nat.le_refl _)
 rw [List.take_length] at this
 simp only; omega
theorem H180 (l:List Int) (hl:l.length<1000000):DFun Tryz.prog W0 180 [.sl .none 1 (intsD l)] (Iv (dirBl l)):=by
 refine Fi Tryz.func180 rfl Tryz.ntmps180 fun Γ=>?_
 apply Sr;(conv=>whnf)
 have hpr:=placV_r l hl
 have hq:((placV l).2.1+2048-1).tdiv 2048=((placV l).2.1+2048-1)/2048:=Int.tdiv_eq_ediv_of_nonneg (by omega)
 apply Sr;(conv=>whnf);refine ⟨[.sl .none 1 (intsD l)],_,fun _=>H251 l hl,Z,?_⟩;apply Sr;refine Ir ?_;refine Ir ?_;(conv=>whnf);refine ⟨fun _=>by omega,?_⟩;refine Ir ?_;apply Rt;(conv=>whnf);exact .refl _
end Go.Tame.V

namespace Go.Tame.V
open Go Go.Proofs
variable {W0:World}
theorem places_set {n i:Nat} (h:i<n) (z:D):(places i++List.replicate (n-i) z).set i (Iv (i:Nat))=places (i+1)++List.replicate (n-(i+1)) z:=by
 apply List.ext_getElem?;intro j
 have hpl:∀ m,(places m).length=m:=fun m=>by simp [places]
 rw [List.getElem?_set]
 rcases Nat.lt_trichotomy i j with e|e|e
 ·rw [if_neg (by omega),List.getElem?_append_right (by rw [hpl]; omega),List.getElem?_append_right (by rw [hpl]; omega),hpl,hpl]
  simp only [List.getElem?_replicate]
  split<;>split<;>first|rfl|omega
 ·subst e
  rw [if_pos rfl,if_pos (by simp [hpl]; omega),List.getElem?_append_left (by rw [hpl]; omega)]
  simp [places]
 rw [if_neg (by omega),List.getElem?_append_left (by rw [hpl]; omega),List.getElem?_append_left (by rw [hpl]; omega)]
 simp [places,show j<i by omega,show j<i+1 by omega]
theorem strs_set {kids:List NV} {t:Nat} (h:t<kids.length) (z:D):(strs ((kids.map NV.name).take t)++List.replicate (kids.length-t) z).set t (.str kids[t].name)=strs ((kids.map NV.name).take (t+1))++List.replicate (kids.length-(t+1)) z:=by
 have hpl:∀ m,m≤kids.length→(strs ((kids.map NV.name).take m)).length=m:=fun m hm=>by simp [strs]; omega
 apply List.ext_getElem?;intro j;rw [List.getElem?_set]
 rcases Nat.lt_trichotomy t j with e|e|e
 ·rw [if_neg (by omega),List.getElem?_append_right (by rw [hpl _ (by omega)]; omega),List.getElem?_append_right (by rw [hpl _ (by omega)]; omega),hpl _ (by omega),hpl _ (by omega)]
  simp only [List.getElem?_replicate]
  split<;>split<;>first|rfl|omega
 ·subst e
  rw [if_pos rfl,if_pos (by simp [strs]; omega),List.getElem?_append_left (by rw [hpl _ (by omega)]; omega)]
  simp [strs,h,List.getElem?_take]
 rw [if_neg (by omega),List.getElem?_append_left (by rw [hpl _ (by omega)]; omega),List.getElem?_append_left (by rw [hpl _ (by omega)]; omega)]
 simp [strs,List.getElem?_take,show j<t by omega,show j<t+1 by omega]
theorem F105 (hL:LibOk W0) (v:Int) (hv:v=2∨v=3) (kids:List NV) (h64:kids.length≤64) (hok:∀ k∈kids,nameOk k.name=true∧k.name.length<1000000000) (hinc:inc kids):DFun Tryz.prog W0 182 [Iv v,.sl .none 12 (kids.map enc)] (.tup [.sl .none 1 (strs (kids.map NV.name)),Iv 0]):=by
 refine Fi Tryz.func182 rfl Tryz.ntmps182 fun Γ=>?_
 apply Sr;(conv=>whnf);intro bk;apply Sq;apply Sr;(conv=>whnf);refine ⟨[Iv v],_,fun _=>F91 v,Z,?_⟩;refine Cd _ rfl (fun hc=>?_) (fun hc=>?_)
 ·apply Sr;apply Rt;(conv=>whnf)
  exfalso
  have:viewOk v=true:=by rcases hv with rfl|rfl<;>rfl
  rw [this] at hc; cases hc
 apply Sk;apply Sq;apply Sr;apply Rl;refine Cd _ rfl (fun hc=>?_) (fun hc=>?_)
 ·apply Sr;apply Rt;(conv=>whnf)
  exfalso
  simp at hc; omega
 apply Sk;apply Sq;refine Tri.regionX ti_ok ?_;apply Il;apply Rl;(conv=>whnf)
 refine .inr (XOp.makeRow ti_ok (n:=kids.length) (k1:=.i64) (k2:=.i64) (z:=Iv 0) rfl rfl rfl rfl rfl ?_ ?_ (by show 8*_≤_; omega) (by omega) fun rv=>?_)
 ·show D.int _ _=_; simp
 ·show D.int _ _=_; simp
 apply Sq;apply Sr;apply Rl;apply Bk
 refine Tri.loopK (α:={ i:Nat // i≤kids.length }) (fun x=>[(0,Iv v),(3,.box 3 bk 0),(6,.raw rv),(25,.sl .none 12 (kids.map enc)),(26,Iv (kids.map enc).length),(27,Iv x.1)])
  (fun x=>[(24,.row rv (places x.1++List.replicate (kids.length-x.1) (Iv 0)) 1 3),(3,.box bk [.sl .none 12 (kids.map enc)])]) (fun x=>kids.length-x.1) ⟨0,by omega⟩ [(24,24),(3,3)]
  ⟨Z,rfl,Y⟩ ?_
 rintro ⟨i,hi⟩;dsimp only;apply Sr;apply Sq;refine Cd _ rfl (fun hc=>?_) (fun hc=>?_)
 ·apply Sk;(conv=>whnf)
  have hia:i<kids.length:=by simpa using hc
  have hpl:(places i).length=i:=by simp [places]
  apply Sq;apply Bk;apply Sr;(conv=>whnf);refine Sp ?_;(conv=>whnf);refine ⟨encTop kids[i],fun _=>get_kids hia,?_⟩;(conv=>whnf);intro b8;apply Rl;apply Sq;apply Sr;apply Rl;(conv=>whnf);refine ⟨[.str kids[i].name],_,fun _=>F100 hL _ (hok _ (List.getElem_mem hia)).2,Z,?_⟩;refine Cd _ rfl (fun hc=>?_) (fun hc=>?_)
  ·apply Sr;apply Rt;(conv=>whnf)
   exfalso
   rw [(hok _ (List.getElem_mem hia)).1] at hc; cases hc
  apply Sk;(conv=>whnf);refine Tri.regionX ti_ok ?_;(conv=>whnf)
  refine .inr (XOp.rowIndex ti_ok 24 rfl rfl rfl rfl rfl rfl rfl (by omega) (by simp [hpl]; omega) ?_)
  (conv=>whnf);(conv=>whnf)
  refine .inr (XOp.rowStore ti_ok 24 (i:=i) (by rw [Int.toNat_natCast]; rfl) rfl rfl rfl (by simp [hpl]; omega) rfl ?_)
  (conv=>whnf);apply Rg;refine Ir ?_;(conv=>whnf)
  exact ⟨⟨i+1,by omega⟩,[(24,24),(3,3)],by show _-(i+1)<_-i; omega,Z,rfl,rfl,congrArg (fun z=>some (HObj.row rv z 1 3)) (places_set hia _),rfl,Y⟩
 refine Tri.exit ?_;apply Sq
 have hin:i=kids.length:=by simp at hc; omega
 have hrow:places i++List.replicate (kids.length-i) (Iv 0)=places kids.length:=by subst hin; simp
 rw [hrow];refine Tri.regionX ti_ok ?_;(conv=>whnf);refine .inr (XOp.call rfl [.raw rv,.fn (.func 254) [] [.box 2000 bk 0]] [(2001,24),(2000,3)] (sort_places kids hinc (by omega) bk rv) rfl ⟨.refl _,DLe.fn trivial ⟨DLe.box,trivial⟩,trivial⟩ ?_);rintro d H' ⟨rfl,rfl⟩;refine ⟨_,.refl _,?_⟩;(conv=>whnf);refine Tri.forgetK [(6,.raw rv),(0,Iv v),(3,.box 3 bk 0)] [(24,.row rv (places kids.length) 1 3),(3,.box bk [.sl .none 12 (kids.map enc)])] [(24,24),(3,3)] ⟨Z,rfl,Y⟩ ?_;refine Tri.commitSt 24 6 rfl ?_;apply Sq;refine Tri.regionX ti_ok ?_;apply Il;apply Rl;(conv=>whnf)
 refine .inr (XOp.makeRow ti_ok (n:=kids.length) (k1:=.i64) (k2:=.i64) (z:=.str []) rfl rfl rfl rfl rfl ?_ ?_ (by show 16*_≤_; omega) (by omega) fun nv=>?_)
 ·show D.int _ _=_; simp
 ·show D.int _ _=_; simp
 (conv=>whnf);refine .inr (XOp.makeMap fun mb=>?_);apply Sq;apply Sr;apply Bk
 refine Tri.loopK (α:={ i:Nat // i≤kids.length }) (fun x=>[(0,Iv v),(3,.box 3 bk 0),(6,.sl .none 1 (places kids.length)),(48,.sl .none 1 (places kids.length)),(49,Iv (places kids.length).length),(50,Iv x.1),(9,.raw nv),(10,.raw (.map (some mb)))])
  (fun x=>[(46,.row nv (strs ((kids.map NV.name).take x.1)++List.replicate (kids.length-x.1) (.str [])) 1 9),(47,.set mb (((kids.map NV.name).take x.1).reverse)),(3,.box bk [.sl .none 12 (kids.map enc)])]) (fun x=>kids.length-x.1) ⟨0,by omega⟩ [(46,46),(47,47),(3,3)]
  ⟨Z,rfl,Y⟩ ?_
 rintro ⟨t,ht⟩;dsimp only;apply Sr;apply Sq;refine Cd _ rfl (fun hc=>?_) (fun hc=>?_)
 ·apply Sk;(conv=>whnf)
  have hta:t<kids.length:=by simp [places] at hc; omega
  have hkd:∀ j,j<kids.length→(kids.map enc)[j]? = some (encTop (kids.getD j default)):=fun j hj=>by rw [get_kids hj]; simp [List.getD,hj]
  apply Sq;apply Bk;apply Sr;(conv=>whnf)
  refine ⟨fun _=>by simp [places]; omega,?_⟩
  (conv=>whnf);refine ⟨Iv (t:Nat),fun _=>by simp [places,hta],?_⟩;apply S2;refine Tri.draw ti_ok mixed (by kernel_rfl) ?_;apply Rl;apply Hh;refine Ir ?_;apply Hh;apply Hh;(conv=>whnf)
  refine ⟨fun h=>by simp at h; simp [places]; omega,?_⟩
  apply Hh;(conv=>whnf)
  refine ⟨Iv ((t-1:Nat):Int),fun h=>by rw [pred_toNat (by simpa using h)]; simp [places,show t-1<kids.length by omega],?_⟩
  apply Hh;apply Hh;(conv=>whnf);refine Sp ?_;apply Hh;apply Hh;(conv=>whnf);refine ⟨encTop (kids.getD (t-1) default),fun h=>hkd (t-1) (by omega),?_⟩;apply Rl;apply Hh;apply Hh;(conv=>whnf);refine Sp ?_;apply Hh;apply Hh;(conv=>whnf);refine ⟨encTop kids[t],fun h=>get_kids hta,?_⟩;apply Hh;apply Hh;refine Pk ?_;refine Cd _ rfl (fun hc=>?_) (fun hc=>?_)
  ·apply Sr;apply Rt;(conv=>whnf)
   exfalso
   cases h0:decide ((0:Int)<t) with
   | false=>rw [h0] at hc; cases hc
   | true =>
    have ht0:0<t:=by simpa using h0
    have hne:=bl_ne (inc_get hinc (show t-1<t by omega) hta)
    rw [h0] at hc
    have hc2:((kids.getD (t-1) default).name==kids[t].name)=true:=hc
    have:(kids.getD (t-1) default).name=kids[t].name:=by simpa using hc2
    apply hne
    rw [← this]; simp [List.getD,show t-1<kids.length by omega]
  apply Sk;apply Sr;apply Rl;(conv=>whnf);refine Sp ?_;(conv=>whnf);refine ⟨encTop kids[t],fun _=>get_kids hta,?_⟩;apply Sq;apply Sr;apply Hh;refine Pk ?_;refine Cd _ rfl (fun hc=>?_) (fun hc=>?_)
  ·exfalso
   rcases hv with rfl|rfl<;>cases hc
  apply Sk;(conv=>whnf);refine Tri.regionX ti_ok ?_;(conv=>whnf);refine .inr (XOp.setUpdate 47 (kt:=9) (et:=4) rfl rfl rfl rfl rfl rfl ?_);(conv=>whnf)
  refine .inr (XOp.rowIndex ti_ok 46 rfl rfl rfl rfl rfl rfl rfl (by omega) (by simp [strs]; omega) ?_)
  conv=>whnf
  refine .inr (XOp.rowStore ti_ok 46 (i:=t) (by rw [Int.toNat_natCast]; rfl) rfl rfl rfl (by simp [strs]; omega) rfl ?_)
  apply Rg;refine Ir ?_;(conv=>whnf)
  exact ⟨⟨t+1,by omega⟩,[(46,46),(47,47),(3,3)],by show _-(t+1)<_-t; omega,Z,rfl,rfl,congrArg (fun z=>some (HObj.row nv z 1 9)) (strs_set hta _),rfl,
   congrArg (fun z=>some (HObj.set mb z)) (by rw [List.take_add_one]; simp [hta]),rfl,Y⟩
 refine Tri.exit ?_;(conv=>whnf)
 have htn:t=kids.length:=by simp [places] at hc; omega
 have hrow2:strs ((kids.map NV.name).take t)++List.replicate (kids.length-t) (D.str [])=strs (kids.map NV.name):=by
  subst htn; rw [List.take_of_length_le (by simp)]; simp
 rw [hrow2];refine Tri.forgetK [(9,.raw nv)] [(46,.row nv (strs (kids.map NV.name)) 1 9)] [(46,46)] ⟨Z,rfl,Y⟩ ?_;refine Tri.commitSt 46 9 rfl ?_;apply Sr;apply Rt;(conv=>whnf);exact Z
def encQ (n:NV) (p q:List UInt8):D:=.agg [.str n.name,Iv n.kind,.str n.text,.str n.target,Iv n.n1,Iv n.n2,Iv n.n3,Iv n.n4,Iv n.n5,Iv n.n6,.sl .none 12 (n.kids.map enc),.sl .none 2 (n.streams.map encS),.str p,.str q]
theorem F66 (n:NV) (p q:List UInt8):DFun Tryz.prog W0 268 [encQ n p q] (.tup []):=by
 refine Fi Tryz.func268 rfl Tryz.ntmps268 fun Γ=>?_
 apply Rg;(conv=>whnf);intro b;(conv=>whnf);exact trivial
theorem inc_pw {l:List NV} (h:inc l):l.Pairwise fun a b=>Op.bytesLess a.name b.name=true :=
 List.pairwise_iff_getElem.2 fun i j hi hj hij=>inc_get h hij hj
theorem pw_inc {l:List NV} (h:l.Pairwise fun a b=>Op.bytesLess a.name b.name=true):inc l:=fun i hi=>by
 have:=List.pairwise_iff_getElem.1 h i (i+1) (by omega) hi (by omega)
 simpa [List.getD,hi,show i<l.length by omega] using this
theorem F108_nil (v:Value) (fd:D):DCall Tryz.prog W0 350 [.raw v,fd] (look [(2001,.row v [] 12 44)]) fun d H'=>d=.tup []∧H'=look [(2001,.row v [] 12 44)]:=by
 refine ⟨callable Tryz.func350 rfl (by decide +kernel),fun w C args Ft hbase hlow hH hr=>?_⟩;obtain ⟨hl,hr⟩:=hr
 match args,hl with
 | [a0,a1],_ =>
  have h0:=(hr 0 _ a0 rfl rfl).raw_inv
  subst h0;obtain ⟨a,cap,hv,_⟩:RowV w C a0 [] 12 44:=hH.obj 2001 _ rfl;subst hv;refine (AnyF.slices_SortFunc_none Tryz.laysSlF0_f350 a cap a1 w).mono ?_;rintro e w' ⟨rfl,rfl⟩;exact ⟨.tuple #[],.tup [],C,_,rfl,⟨rfl,rfl⟩,.tup [] [] rfl (fun i d v hd _=>by simp at hd),.refl _ _ _,⟨hH.obj,hH.inj,fun s o b ho hu=>.inl (hH.foot s o b ho hu)⟩⟩
def NV.named (n:NV) (s:List UInt8):NV:={ n with name:=s }
def keeps (v:Int):Bool:=v==2||v==3
def sortN (l:List NV):List NV:=l.mergeSort fun a b=>!Op.bytesLess b.name a.name
mutual
def showG (nm:List NV→List (List UInt8)) (v d:Int):NV→NV
 | .mk a b c t e f g h _ _ ks ss=>.mk a b c t (if keeps v then e else 0) (if keeps v then f else 0) (if keeps v then g else 0) h 0 0 (sortN (showGL nm v (d+1) ks (nm ks))) (if v=3 then ss else [])
def showGL (nm:List NV→List (List UInt8)) (v d:Int):List NV→List (List UInt8)→List NV
 | k::r,m::ms=>if shown v k d then (showG nm v d k).named m::showGL nm v d r ms else showGL nm v d r ms
 | _,_=>[]
end
section
variable (nm:List NV→List (List UInt8)) (v d:Int)
theorem showG_eq (n:NV):showG nm v d n=⟨n.name,n.kind,n.text,n.target,if keeps v then n.n1 else 0,if keeps v then n.n2 else 0,if keeps v then n.n3 else 0,n.n4,0,0,sortN (showGL nm v (d+1) n.kids (nm n.kids)),if v=3 then n.streams else []⟩:=by cases n; simp only [showG]
theorem showG_named (n:NV) (m:List UInt8):showG nm v d (n.named m)=(showG nm v d n).named m:=by cases n; simp only [NV.named,showG]
theorem sz_named (n:NV) (m:List UInt8):sz (n.named m)=sz n:=by cases n; simp only [NV.named,sz]
theorem showGL_next:∀ {l:List NV} {ms:List (List UInt8)} {i:Nat} (h:i<l.length) (h':i<ms.length),
  showGL nm v d (l.take (i+1)) (ms.take (i+1))=showGL nm v d (l.take i) (ms.take i)++(if shown v l[i] d then [showG nm v d (l[i].named ms[i])] else [])
 | k::r,m::ms,0,_,_=>by simp [showGL,showG_named]
 | k::r,m::ms,i+1,h,h'=>by
  have:=showGL_next (l:=r) (ms:=ms) (i:=i) (by simpa using h) (by simpa using h')
  simp only [List.take_succ_cons,showGL,List.getElem_cons_succ];rw [this]
  split<;>simp
theorem showGL_len:∀ (l:List NV) (ms:List (List UInt8)),(showGL nm v d l ms).length≤l.length
 | [],ms=>by simp [showGL]
 | k::r,[]=>by simp [showGL]
 | k::r,m::ms=>by
  have:=showGL_len r ms
  simp only [showGL]
  split<;>simp<;>omega
theorem showGL_names:∀ (l:List NV) (ms:List (List UInt8)),((showGL nm v d l ms).map NV.name).Sublist ms
 | [],ms=>by simp [showGL]
 | k::r,[]=>by simp [showGL]
 | k::r,m::ms=>by
  have:=showGL_names r ms
  simp only [showGL]
  split
  ·simp only [List.map_cons];exact this.cons_cons m
  exact this.cons m
end
theorem sortN_perm (l:List NV):(sortN l).Perm l:=List.mergeSort_perm l _
theorem sortN_sorted (l:List NV):(sortN l).Pairwise fun a b=>Op.bytesLess b.name a.name=false:=by
 have h:=List.pairwise_mergeSort (le:=fun a b:NV=>!Op.bytesLess b.name a.name) (fun a b c h1 h2=>by
  have h3:Op.bytesLess b.name a.name=false:=by simpa using h1
  have h4:Op.bytesLess c.name b.name=false:=by simpa using h2
  have:Op.bytesLess c.name a.name=false:=by
   cases h5:Op.bytesLess c.name a.name with
   | false=>rfl
   | true =>
    exfalso
    cases h6:Op.bytesLess a.name b.name with
    | true=>rw [bl_trans _ _ _ h5 h6] at h4; cases h4
    | false=>rw [bl_total _ _ h6 h3] at h5; rw [h5] at h4; cases h4
  simpa using this) (fun a b=>by
  cases h1:Op.bytesLess b.name a.name with
  | false=>rfl
  | true=>simp [bl_asymm h1]) l
 exact h.imp fun {a b} h=>by simpa using h
theorem sortN_inc {l:List NV} (h:(l.map NV.name).Nodup):inc (sortN l):=by
 have h1:=sortN_sorted l
 have h2:((sortN l).map NV.name).Nodup:=((sortN_perm l).map _).nodup_iff.2 h
 apply pw_inc
 have h3:=List.pairwise_map.1 (List.nodup_iff_pairwise_ne.1 h2)
 exact (h1.and h3).imp fun {a b} ⟨h4,h5⟩=>by
  cases h6:Op.bytesLess a.name b.name with
  | true=>rfl
  | false=>exact absurd (bl_total _ _ h6 h4) h5
theorem sort_names (ns:List NV) (h:(ns.map NV.name).Nodup) (hlen:ns.length<1000000) (v:Value) :
  DCall Tryz.prog W0 350 [.raw v,.fn (.func 351) [] []] (look [(2001,.row v (ns.map encTop) 12 44)]) fun d H' =>
   d=.tup []∧H'=look [(2001,.row v ((sortN ns).map encTop) 12 44)]:=by
 by_cases h0:0<ns.length
 ·refine (F108 (W0:=W0) ns h0 hlen v).mono ?_;rintro d H' ⟨rfl,ns',hp,hs,rfl⟩;rw [sorted_nodes (sortN_inc h) (hp.trans (sortN_perm ns).symm) hs];exact ⟨rfl,rfl⟩
 have hn:ns=[]:=List.eq_nil_of_length_eq_zero (by omega)
 subst hn
 have:sortN []=[]:=by simp [sortN]
 rw [this];exact F108_nil v _
mutual
def okT:NV→Prop
 | .mk _ _ _ _ _ _ _ _ _ _ ks ss=>ks.length≤64∧ss.length<1000000000∧inc ks∧okL ks
def okL:List NV→Prop
 | []=>True
 | k::r=>((nameOk k.name=true∧k.name.length<1000000000)∧okT k)∧okL r
end
theorem okL_get:∀ {l:List NV} (_:okL l) {k:NV} (_:k∈l),(nameOk k.name=true∧k.name.length<1000000000)∧okT k
 | x::r,h,k,hk=>by
  simp only [okL] at h
  rcases List.mem_cons.1 hk with rfl|hk
  ·exact h.1
  exact okL_get h.2 hk
theorem okT_eq (n:NV):okT n↔n.kids.length≤64∧n.streams.length<1000000000∧inc n.kids∧okL n.kids:=by cases n; simp only [okT]
theorem okT_named (n:NV) (m:List UInt8):okT (n.named m)↔okT n:=by simp only [okT_eq,NV.named]
structure NamesOk (W0:World) (v:Int) (nm:List NV→List (List UInt8)):Prop where
 call:∀ ks:List NV,ks.length≤64→inc ks→(∀ k∈ks,nameOk k.name=true∧k.name.length<1000000000) →
  DFun Tryz.prog W0 182 [Iv v,.sl .none 12 (ks.map enc)] (.tup [.sl .none 1 (strs (nm ks)),Iv 0])∧(nm ks).length=ks.length∧(nm ks).Nodup∧∀ m∈nm ks,m.length≤1100
def joinQ (p m:List UInt8) (b:Bool):List UInt8:=if b=true then m else p++[47]++m
theorem joinQ_len (p m:List UInt8) (b:Bool):(joinQ p m b).length≤p.length+1+m.length:=by
 simp only [joinQ]; split<;>simp<;>omega
theorem F92 (nm:List NV→List (List UInt8)) (v:Int) (hnm:NamesOk W0 v nm):∀ (N:Nat) (n:NV),sz n<N→okT n→∀ (p q:List UInt8) (d:Int),0≤d→d+sz n<1000000000→p.length+1200*sz n<1000000000→q.length+sz n<1000000000→DFun Tryz.prog W0 310 [Iv v,encQ n p q,Iv d,.fn (.func 268) [] []] (encTop (showG nm v d n)):=by
 refine fun N=>Nat.rec (fun n h=>absurd h (Nat.not_lt_zero _)) (fun N ih n hN hok p q d hd hd2 hp hq=>?_) N
 obtain ⟨h64,hsn,hinc,hokl⟩:=(okT_eq n).1 hok
 have hks:∀ k∈n.kids,nameOk k.name=true∧k.name.length<1000000000:=fun k hk=>(okL_get hokl hk).1
 obtain ⟨hcall,hnl,hnd,hnb⟩:=hnm.call n.kids h64 hinc hks
 refine Fi Tryz.func310 rfl Tryz.ntmps310 fun Γ=>?_
 apply Sr;(conv=>whnf);intro b5;(conv=>whnf);intro b8;apply Sr;apply Rl;(conv=>whnf);intro b9;apply Rl;apply Sr;apply Rl;apply Rl;apply Rl;apply Rl;apply Rl;(conv=>whnf);intro b10;apply Rl;(conv=>whnf);refine Tri.joinK (α:=Unit) (fun x=>[(0,Iv v),(2,Iv d),(3,.fn (.func 268) [] []),(5,.box 5 b5 0),(8,.box 8 b8 0),(9,.box 9 b9 0),(10,.box 10 b10 0)]) (fun x=>[(5,.box b5 [.str n.name,Iv n.kind,.str n.text,.str n.target,Iv n.n1,Iv n.n2,Iv n.n3,Iv n.n4,Iv n.n5,Iv n.n6,.sl .none 12 (n.kids.map enc),.sl .none 2 (n.streams.map encS),.str p,.str q]),(8,.box b8 [.str [],Iv 0,.str [],.str [],Iv 0,Iv 0,Iv 0,Iv 0,Iv 0,Iv 0,.nils,.nils]),(9,.box b9 [.str n.name,Iv n.kind,.str n.text,.str n.target,Iv n.n1,Iv n.n2,Iv n.n3,Iv n.n4,Iv n.n5,Iv n.n6,.sl .none 12 (n.kids.map enc),.sl .none 2 (n.streams.map encS)]),(10,.box b10 [.str n.name,Iv n.kind,.str n.text,.str n.target,Iv (if keeps v then n.n1 else 0),Iv (if keeps v then n.n2 else 0),Iv (if keeps v then n.n3 else 0),Iv n.n4,Iv 0,Iv 0,.nils,.nils])]) ?_ ?_
 ·apply Sr;apply Hh;refine Pk ?_;refine Cd _ rfl (fun hc=>?_) (fun hc=>?_)
  ·have hk:keeps v=true:=by
    cases h1:(v==2) with
    | true=>simp only [keeps,h1,Bool.true_or]
    | false =>
     rw [h1] at hc
     simpa [keeps,h1] using hc
   rw [hk]
   refine Tri.bits ti_ok mixed (fun f=>[(0,Iv v),(2,Iv d),(3,.fn (.func 268) [] []),(5,.box 5 b5 0),(8,.box 8 b8 0),(9,.box 9 b9 0),(10,.box 10 b10 0),
    (35,bif f 0 then .box 9 b9 4 else .any),(36,bif f 1 then Iv n.n1 else .any),(37,bif f 2 then .box 9 b9 5 else .any),(38,bif f 3 then Iv n.n2 else .any),(39,bif f 4 then .box 9 b9 6 else .any),(40,bif f 5 then Iv n.n3 else .any),(41,bif f 6 then .box 10 b10 4 else .any),(42,bif f 8 then .box 10 b10 5 else .any),(43,bif f 10 then .box 10 b10 6 else .any)])
    (fun f=>[(5,.box b5 [.str n.name,Iv n.kind,.str n.text,.str n.target,Iv n.n1,Iv n.n2,Iv n.n3,Iv n.n4,Iv n.n5,Iv n.n6,.sl .none 12 (n.kids.map enc),.sl .none 2 (n.streams.map encS),.str p,.str q]),(8,.box b8 [.str [],Iv 0,.str [],.str [],Iv 0,Iv 0,Iv 0,Iv 0,Iv 0,Iv 0,.nils,.nils]),(9,.box b9 [.str n.name,Iv n.kind,.str n.text,.str n.target,Iv n.n1,Iv n.n2,Iv n.n3,Iv n.n4,Iv n.n5,Iv n.n6,.sl .none 12 (n.kids.map enc),.sl .none 2 (n.streams.map encS)]),(10,.box b10 [.str n.name,Iv n.kind,.str n.text,.str n.target,bif f 7 then Iv n.n1 else Iv 0,bif f 9 then Iv n.n2 else Iv 0,bif f 11 then Iv n.n3 else Iv 0,Iv n.n4,Iv 0,Iv 0,.nils,.nils])]) (by decide +kernel) ?_ ?_ ?_ ?_
   ·exact ⟨.refl _,.refl _,.refl _,.refl _,.refl _,.refl _,.refl _,.any _,.any _,.any _,.any _,.any _,.any _,.any _,.any _,.any _,trivial⟩
   ·exact ⟨rfl,Y⟩
   ·(conv=>whnf);refine ⟨fun f=>?_,?_⟩
    ·(conv=>whnf);exact ⟨Z,rfl,Y⟩
    refine ⟨fun f=>?_,?_⟩
    ·(conv=>whnf);apply Rl;(conv=>whnf);exact ⟨Z,rfl,Y⟩
    refine ⟨fun f=>?_,?_⟩
    ·(conv=>whnf);exact ⟨Z,rfl,Y⟩
    refine ⟨fun f=>?_,?_⟩
    ·(conv=>whnf);apply Rl;(conv=>whnf);exact ⟨Z,rfl,Y⟩
    refine ⟨fun f=>?_,?_⟩
    ·(conv=>whnf);exact ⟨Z,rfl,Y⟩
    refine ⟨fun f=>?_,?_⟩
    ·(conv=>whnf);apply Rl;(conv=>whnf);exact ⟨Z,rfl,Y⟩
    refine ⟨fun f=>?_,?_⟩
    ·(conv=>whnf);exact ⟨Z,rfl,Y⟩
    refine ⟨fun f=>?_,?_⟩
    ·(conv=>whnf);apply Rl;(conv=>whnf);exact ⟨Z,rfl,Y⟩
    refine ⟨fun f=>?_,?_⟩
    ·(conv=>whnf);exact ⟨Z,rfl,Y⟩
    refine ⟨fun f=>?_,?_⟩
    ·(conv=>whnf);apply Rl;(conv=>whnf);exact ⟨Z,rfl,Y⟩
    refine ⟨fun f=>?_,?_⟩
    ·(conv=>whnf);exact ⟨Z,rfl,Y⟩
    refine ⟨fun f=>?_,?_⟩
    ·(conv=>whnf);apply Rl;(conv=>whnf);exact ⟨Z,rfl,Y⟩
    exact trivial
   intro f hf
   have e7:=hf 7 (by decide +kernel)
   have e9:=hf 9 (by decide +kernel)
   have e11:=hf 11 (by decide +kernel)
   refine ⟨(),[(5,5),(8,8),(9,9),(10,10)],Z,rfl,rfl,rfl,rfl,rfl,rfl,rfl,rfl,?_,trivial⟩
   show some (HObj.box b10 [.str n.name,Iv n.kind,.str n.text,.str n.target,bif f 7 then Iv n.n1 else Iv 0,bif f 9 then Iv n.n2 else Iv 0,bif f 11 then Iv n.n3 else Iv 0,Iv n.n4,Iv 0,Iv 0,.nils,.nils])=_
   rw [e7,e9,e11]; rfl
  apply Sk;(conv=>whnf)
  have hk:keeps v=false:=by
   cases h1:(v==2) with
   | true=>rw [h1] at hc; cases hc
   | false =>
    rw [h1] at hc
    simpa [keeps,h1] using hc
  rw [hk];exact ⟨(),[(5,5),(8,8),(9,9),(10,10)],Z,rfl,Y⟩
 rintro ⟨⟩;refine Tri.joinK (α:={ x:D // DLe x (.sl .none 2 ((if v=3 then n.streams else []).map encS)) }) (fun x=>[(0,Iv v),(2,Iv d),(3,.fn (.func 268) [] []),(5,.box 5 b5 0),(8,.box 8 b8 0),(9,.box 9 b9 0),(10,.box 10 b10 0)]) (fun x=>[(5,.box b5 [.str n.name,Iv n.kind,.str n.text,.str n.target,Iv n.n1,Iv n.n2,Iv n.n3,Iv n.n4,Iv n.n5,Iv n.n6,.sl .none 12 (n.kids.map enc),.sl .none 2 (n.streams.map encS),.str p,.str q]),(8,.box b8 [.str [],Iv 0,.str [],.str [],Iv 0,Iv 0,Iv 0,Iv 0,Iv 0,Iv 0,.nils,.nils]),(9,.box b9 [.str n.name,Iv n.kind,.str n.text,.str n.target,Iv n.n1,Iv n.n2,Iv n.n3,Iv n.n4,Iv n.n5,Iv n.n6,.sl .none 12 (n.kids.map enc),.sl .none 2 (n.streams.map encS)]),(10,.box b10 [.str n.name,Iv n.kind,.str n.text,.str n.target,Iv (if keeps v then n.n1 else 0),Iv (if keeps v then n.n2 else 0),Iv (if keeps v then n.n3 else 0),Iv n.n4,Iv 0,Iv 0,.nils,x.1])]) ?_ ?_
 ·apply Sr;refine Cd _ rfl (fun hc=>?_) (fun hc=>?_)
  ·apply Rg;apply Rl;(conv=>whnf);refine ⟨[.sl .none 2 (n.streams.map encS)],_,fun _=>F104 n.streams hsn,Z,?_⟩;apply Rl;(conv=>whnf)
   have hv3:v=3:=by simpa using hc
   exact ⟨⟨.sl .none 2 (n.streams.map encS),by rw [if_pos hv3]; exact .refl _⟩,[(5,5),(8,8),(9,9),(10,10)],Z,rfl,Y⟩
  apply Sk;(conv=>whnf)
  have hv3:¬ v=3:=by simpa using hc
  exact ⟨⟨.nils,by rw [if_neg hv3]; exact .nil⟩,[(5,5),(8,8),(9,9),(10,10)],Z,rfl,Y⟩
 rintro ⟨sd,hsd⟩;refine Tri.boxLe 10 (cs':=[.str n.name,Iv n.kind,.str n.text,.str n.target,Iv (if keeps v then n.n1 else 0),Iv (if keeps v then n.n2 else 0),Iv (if keeps v then n.n3 else 0),Iv n.n4,Iv 0,Iv 0,.nils,.sl .none 2 ((if v=3 then n.streams else []).map encS)]) rfl ⟨.refl _,.refl _,.refl _,.refl _,.refl _,.refl _,.refl _,.refl _,.refl _,.refl _,.refl _,hsd,trivial⟩ ?_;apply Sr;apply Rl;(conv=>whnf);refine ⟨[encQ n p q],_,fun _=>F66 n p q,Z,?_⟩;apply Sr;apply Rl;(conv=>whnf);refine ⟨[Iv v,.sl .none 12 (n.kids.map enc)],_,fun _=>hcall,Z,?_⟩;apply Sq;apply Sr;apply Rl;apply Bk;refine Tri.boxLe 10 (cs':=[.str n.name,Iv n.kind,.str n.text,.str n.target,Iv (if keeps v then n.n1 else 0),Iv (if keeps v then n.n2 else 0),Iv (if keeps v then n.n3 else 0),Iv n.n4,Iv 0,Iv 0,.raw (.slice none 0 0),.sl .none 2 ((if v=3 then n.streams else []).map encS)]) rfl ⟨.refl _,.refl _,.refl _,.refl _,.refl _,.refl _,.refl _,.refl _,.refl _,.refl _,DLe.nilRaw,.refl _,trivial⟩ ?_;refine Tri.rowNil 109 12 44 ?_
 refine Tri.loopK (α:={ x:Nat×Value // x.1≤n.kids.length }) (fun x=>[(0,Iv v),(2,Iv d),(3,.fn (.func 268) [] []),(5,.box 5 b5 0),(8,.box 8 b8 0),(9,.box 9 b9 0),(10,.box 10 b10 0),(11,.sl .none 1 (strs (nm n.kids))),(61,.sl .none 12 (n.kids.map enc)),(62,Iv (n.kids.map enc).length),(63,Iv x.1.1)]) (fun x=>[(5,.box b5 [.str n.name,Iv n.kind,.str n.text,.str n.target,Iv n.n1,Iv n.n2,Iv n.n3,Iv n.n4,Iv n.n5,Iv n.n6,.sl .none 12 (n.kids.map enc),.sl .none 2 (n.streams.map encS),.str p,.str q]),(8,.box b8 [.str [],Iv 0,.str [],.str [],Iv 0,Iv 0,Iv 0,Iv 0,Iv 0,Iv 0,.nils,.nils]),(9,.box b9 [.str n.name,Iv n.kind,.str n.text,.str n.target,Iv n.n1,Iv n.n2,Iv n.n3,Iv n.n4,Iv n.n5,Iv n.n6,.sl .none 12 (n.kids.map enc),.sl .none 2 (n.streams.map encS)]),(10,.box b10 [.str n.name,Iv n.kind,.str n.text,.str n.target,Iv (if keeps v then n.n1 else 0),Iv (if keeps v then n.n2 else 0),Iv (if keeps v then n.n3 else 0),Iv n.n4,Iv 0,Iv 0,.raw x.1.2,.sl .none 2 ((if v=3 then n.streams else []).map encS)]),(109,.row x.1.2 ((showGL nm v (d+1) (n.kids.take x.1.1) ((nm n.kids).take x.1.1)).map encTop) 12 44)]) (fun x=>n.kids.length-x.1.1) ⟨(0,.slice none 0 0),Nat.zero_le _⟩ [(5,5),(8,8),(9,9),(10,10),(109,109)]
  ⟨Z,rfl,rfl,rfl,rfl,rfl,rfl,rfl,rfl,rfl,rfl,congrArg (fun z=>some (HObj.row (.slice none 0 0) z 12 44)) (by simp [showGL]),trivial⟩ ?_
 rintro ⟨⟨i,rv⟩,hi⟩;dsimp only at hi ⊢;apply Sr;apply Sq;refine Cd _ rfl (fun hc=>?_) (fun hc=>?_)
 ·apply Sk;(conv=>whnf)
  have hia:i<n.kids.length:=by simpa using hc
  have hin:i<(nm n.kids).length:=by omega
  have hkz:=kid_sz hia
  have hmb:=hnb _ (List.getElem_mem hin)
  have hj1:=joinQ_len p (nm n.kids)[i] (d==1)
  have hj2:=joinQ_len q n.kids[i].name (d==1)
  apply Sq;apply Bk;apply Sr;(conv=>whnf);refine Sp ?_;(conv=>whnf);refine ⟨encTop n.kids[i],fun _=>get_kid hia,?_⟩;(conv=>whnf);intro b14;apply Rl;apply Sr;apply Rl;apply Hh;refine Ir ?_;apply Hh;apply Hh;apply Hh;(conv=>whnf);refine ⟨[Iv v,encTop n.kids[i],Iv (d+1)],_,fun h=>F106 v _ _,Z,?_⟩;refine Pk ?_;refine Cd _ rfl (fun hc=>?_) (fun hc=>?_)
  ·apply Sq
   have hs:shown v n.kids[i] (d+1)=true:=by
    cases h1:decide ((i:Int)<((strs (nm n.kids)).length:Int)) with
    | true=>rw [h1] at hc; exact hc
    | false=>rw [h1] at hc; cases hc
   apply Rg;apply Rl;apply Rl;(conv=>whnf);refine ⟨[.str q,.str n.kids[i].name,.bool (d==1)],_,fun _=>F107 _ _ _ (by omega),Z,?_⟩;apply Sr;(conv=>whnf)
   refine ⟨fun _=>by simp [strs]; omega,?_⟩
   (conv=>whnf);refine ⟨.str (nm n.kids)[i],fun _=>by simp [strs,hin],?_⟩;apply Rl;(conv=>whnf);refine Tri.drawTailX ti_ok 18 mixed (by kernel_rfl) ?_;apply Rl;apply Rl;apply Rl;apply Rl;(conv=>whnf);refine ⟨[.str p,.str (nm n.kids)[i],.bool (d==1)],_,fun _=>F107 _ _ _ (by omega),Z,?_⟩;refine Ir ?_;(conv=>whnf)
   refine ⟨[Iv v,encQ (n.kids[i].named (nm n.kids)[i]) (joinQ p (nm n.kids)[i] (d==1)) (joinQ q n.kids[i].name (d==1)),Iv (d+1),.fn (.func 268) [] []],_,
    fun _=>ih (n.kids[i].named (nm n.kids)[i]) (by rw [sz_named]; omega) ((okT_named _ _).2 (okL_get hokl (List.getElem_mem hia)).2) (joinQ p (nm n.kids)[i] (d==1)) (joinQ q n.kids[i].name (d==1)) (d+1) (by omega) (by rw [sz_named]; omega)
     (by rw [sz_named]; omega) (by rw [sz_named]; omega),Z,?_⟩
   (conv=>whnf);refine ⟨trivial,?_⟩;(conv=>whnf);refine .inr (XOp.rowAppend ti_ok 109 rfl rfl rfl (fun h=>by cases h) rfl rfl rfl (Nat.zero_lt_one) ?_ ?_ fun aa m cap=>?_)
   ·have:=showGL_len nm v (d+1) (n.kids.take i) ((nm n.kids).take i)
    show (_+1)*152≤_
    simp at this ⊢; omega
   ·have:=showGL_len nm v (d+1) (n.kids.take i) ((nm n.kids).take i)
    show _+1≤_
    simp at this ⊢; omega
   apply Il;apply Rl;apply Rg;refine Ir ?_;(conv=>whnf)
   exact ⟨⟨(i+1,.slice aa m cap),hia⟩,[(5,5),(8,8),(9,9),(10,10),(109,109)],by show _-(i+1)<_-i; omega,Z,rfl,rfl,rfl,rfl,rfl,rfl,rfl,rfl,rfl,rfl,congrArg (fun z=>some (HObj.row (.slice aa m cap) z 12 44)) (by rw [showGL_next nm v (d+1) hia hin,if_pos hs]; simp; rfl),trivial⟩
  have hs:shown v n.kids[i] (d+1)=false:=by
   have h1:decide ((i:Int)<((strs (nm n.kids)).length:Int))=true:=by simp [strs]; omega
   rw [h1] at hc; exact hc
  apply Sk;apply Rg;refine Ir ?_;(conv=>whnf)
  exact ⟨⟨(i+1,rv),hia⟩,[(5,5),(8,8),(9,9),(10,10),(109,109)],by show _-(i+1)<_-i; omega,Z,rfl,rfl,rfl,rfl,rfl,rfl,rfl,rfl,rfl,rfl,congrArg (fun z=>some (HObj.row rv z 12 44)) (by rw [showGL_next nm v (d+1) hia hin,hs]; simp),trivial⟩
 refine Tri.exit ?_;(conv=>whnf)
 have hin:i=n.kids.length:=by simp at hc; omega
 have hrow:(showGL nm v (d+1) (n.kids.take i) ((nm n.kids).take i)).map encTop=(showGL nm v (d+1) n.kids (nm n.kids)).map encTop:=by
  subst hin; rw [List.take_length,List.take_of_length_le (by omega)]
 rw [hrow]
 have hlen:=showGL_len nm v (d+1) n.kids (nm n.kids)
 have hnodup:((showGL nm v (d+1) n.kids (nm n.kids)).map NV.name).Nodup:=(showGL_names nm v (d+1) n.kids (nm n.kids)).nodup hnd
 apply Sq;refine Tri.regionX ti_ok ?_;apply Il;apply Rl;(conv=>whnf);refine .inr (XOp.call rfl [.raw rv,.fn (.func 351) [] []] [(2001,109)] (sort_names _ hnodup (by omega) rv) rfl Z ?_);rintro d' H' ⟨rfl,rfl⟩;refine ⟨_,.refl _,?_⟩;(conv=>whnf);refine Tri.forgetK [(113,.raw rv),(8,.box 8 b8 0),(10,.box 10 b10 0)] [(109,.row rv ((sortN (showGL nm v (d+1) n.kids (nm n.kids))).map encTop) 12 44),(8,.box b8 [.str [],Iv 0,.str [],.str [],Iv 0,Iv 0,Iv 0,Iv 0,Iv 0,Iv 0,.nils,.nils]),(10,.box b10 [.str n.name,Iv n.kind,.str n.text,.str n.target,Iv (if keeps v then n.n1 else 0),Iv (if keeps v then n.n2 else 0),Iv (if keeps v then n.n3 else 0),Iv n.n4,Iv 0,Iv 0,.raw rv,.sl .none 2 ((if v=3 then n.streams else []).map encS)])] [(109,109),(8,8),(10,10)] ⟨Z,rfl,Y⟩ ?_;refine Tri.commitOwn 109 113 rfl ?_;refine Tri.boxOf 10 113 (cs':=[.str n.name,Iv n.kind,.str n.text,.str n.target,Iv (if keeps v then n.n1 else 0),Iv (if keeps v then n.n2 else 0),Iv (if keeps v then n.n3 else 0),Iv n.n4,Iv 0,Iv 0,.sl .none 12 ((sortN (showGL nm v (d+1) n.kids (nm n.kids))).map encTop),.sl .none 2 ((if v=3 then n.streams else []).map encS)]) rfl rfl (fun w C hr us h=>RepL.cell (i:=10) h fun u hu=>(h.raw_get (i:=10) rfl hu) ▸ hr) ?_;apply Sr;apply Rl;apply Rl;apply Rt;apply Rl;(conv=>whnf);rw [showG_eq];refine DLe.agg ?_;refine ⟨.refl _,.refl _,.refl _,.refl _,.refl _,.refl _,.refl _,.refl _,.refl _,.refl _,DLe.of_eq (congrArg (D.sl .none 12) ?_),DLe.refl _,trivial⟩
 exact List.map_congr_left fun k _=>(enc_eq k).symm
mutual
def goodB:NV→Int→Bool
 | .mk a b c d e f g h i j ks ss,l=>one (.mk a b c d e f g h i j ks ss) l==0&&goodL ks (l+1)
def goodL:List NV→Int→Bool
 | [],_=>true
 | k::r,l=>goodB k l&&goodL r l
end
theorem goodB_eq (n:NV) (l:Int):goodB n l=(one n l==0&&goodL n.kids (l+1)):=by cases n; simp only [goodB]
mutual
theorem walk_good:∀ (n:NV) (p:List UInt8) (l:Int) (q:List UInt8),
  (goodB n l=true→walk checkF n p l (0,q)=(true,(0,q)))∧(goodB n l=false→(walk checkF n p l (0,q)).1=false∧(walk checkF n p l (0,q)).2.1≠0)
 | .mk a b c d e f g h i j ks ss,p,l,q=>by
  have ih:=walkL_good ks p l q
  simp only [walk,goodB,checkF]
  by_cases h1:one (.mk a b c d e f g h i j ks ss) l=0
  ·simp only [h1,if_true,beq_self_eq_true,Bool.true_and];exact ih
  simp only [h1,if_false];refine ⟨fun hh=>?_,fun _=>⟨by simp,by simpa using h1⟩⟩
  simp [h1] at hh
theorem walkL_good:∀ (ks:List NV) (p:List UInt8) (l:Int) (q:List UInt8),
  (goodL ks (l+1)=true→walkL checkF ks p l (0,q)=(true,(0,q)))∧(goodL ks (l+1)=false→(walkL checkF ks p l (0,q)).1=false∧(walkL checkF ks p l (0,q)).2.1≠0)
 | [],p,l,q=>by simp [walkL,goodL]
 | k::r,p,l,q=>by
  have h1:=walk_good k (below p k.name (l+1)) (l+1) q
  have h2:=walkL_good r p l q
  simp only [walkL,goodL]
  cases hk:goodB k (l+1) with
  | true =>
   rw [h1.1 hk]
   simpa using h2
  | false =>
   have h3:=h1.2 hk
   generalize hx:walk checkF k (below p k.name (l+1)) (l+1) (0,q)=x at h3;obtain ⟨x1,x2⟩:=x;obtain ⟨h4,h5⟩:=h3;simp only at h4 h5;subst h4
   simp [h5]
end
theorem valid_good (n:NV):valid n=(decide (cnt n≤256)&&goodB n 1):=by
 simp only [valid,check]
 by_cases h:(256:Int)<cnt n
 ·rw [if_pos h]
  have:decide (cnt n≤256)=false:=by simp; omega
  rw [this]; rfl
 rw [if_neg h]
 have h1:decide (cnt n≤256)=true:=by simp; omega
 rw [h1,Bool.true_and]
 have hw:=walk_good n [] 1 []
 cases hg:goodB n 1 with
 | true=>rw [hw.1 hg]; rfl
 | false=>simpa using (hw.2 hg).2
theorem nz_all {f:Nat→Int}:∀ {k i:Nat},firstNZ f i k=0→∀ j,i≤j→j<i+k→f j=0
 | 0,i,_,j,h1,h2=>by omega
 | k+1,i,h,j,h1,h2=>by
  simp only [firstNZ] at h
  split at h
  ·rename_i h0
   by_cases e:j=i
   ·rw [e]; exact h0
   exact nz_all h j (by omega) (by omega)
  rename_i h0; exact absurd h h0
theorem name_len {s:List UInt8} (h:nameOk s=true):s.length≤256:=by
 simp only [nameOk] at h
 split at h
 ·cases h
 simp only [Bool.and_eq_true,decide_eq_true_eq,beq_iff_eq] at h;obtain ⟨h1,h2,h3⟩:=h;simp only [chars] at h1 h3
 split at h1
 ·cases h1
 rename_i hl
 rw [if_neg hl] at h3
 cases hc:charsP s with
 | none=>rw [hc] at h1; cases h1
 | some l =>
  rw [hc] at h3
  have:=charsP_len s.length s (Nat.le_refl _) l hc
  simp only at h3
  omega
structure Good (n:NV) (l:Int):Prop where
 kind0:0≤n.kind∧n.kind≤2
 kind1:l=1→n.kind=0
 name1:l=1→n.name=[]
 name2:1<l→nameOk n.name=true
 file:n.kind≠1→n.text=[]∧n.streams=[]
 link:n.kind≠2→n.target=[]
 dir:n.kind≠0→n.kids=[]
 target:n.kind=2→targetOk n.target=true
 n1:0≤n.n1∧n.n1≤4095
 n2:0≤n.n2∧n.n2≤65535
 n3:0≤n.n3∧n.n3≤65535
 n4:315532800≤n.n4∧n.n4≤4102444799
 n5:-1048576≤n.n5∧n.n5≤1048576
 n6:0≤n.n6∧n.n6≤15
 level:l≤16
 size:n.text.length≤262144
 kids64:n.kids.length≤64
 streams4:n.streams.length≤4
 streams:∀ i,i<n.streams.length→(stAt n i).target.length≤262144∧fS n i=0
 inc:inc n.kids
theorem good_of {n:NV} {l:Int} (h:one n l=0):Good n l:=by
 have hr:=nz_all h
 have r0:cKind n l=false:=by have:=hr 0 (by omega) (by omega); simp only [ruleI,rKind] at this; split at this<;>simp_all
 have r1:cName n l=false:=by have:=hr 1 (by omega) (by omega); simp only [ruleI,rName] at this; split at this<;>simp_all
 have r2:cParts n=false:=by have:=hr 2 (by omega) (by omega); simp only [ruleI,rParts] at this; split at this<;>simp_all
 have r3:cTarget n=false:=by have:=hr 3 (by omega) (by omega); simp only [ruleI,rTarget] at this; split at this<;>simp_all
 have r4:cNumbers n=false:=by have:=hr 4 (by omega) (by omega); simp only [ruleI,rNumbers] at this; split at this<;>simp_all
 have r5':=hr 5 (by omega) (by omega)
 simp only [ruleI,rSizes] at r5'
 have r5:cSizes n l=false:=by split at r5'<;>simp_all
 rw [if_neg (by rw [r5]; simp)] at r5'
 have r6:=hr 6 (by omega) (by omega)
 simp only [ruleI,rStreams] at r6
 have r7:=hr 7 (by omega) (by omega)
 simp only [ruleI,rKids] at r7;simp only [cKind,cName,cParts,cTarget,cNumbers,cSizes,within,Bool.or_eq_false_iff,Bool.and_eq_false_iff,decide_eq_false_iff_not,Bool.not_eq_false',beq_eq_false_iff_ne,beq_iff_eq,Bool.not_eq_eq_eq_not,Bool.not_true,Bool.not_false,Bool.and_eq_true,decide_eq_true_eq] at r0 r1 r2 r3 r4 r5;obtain ⟨⟨r2a,r2b⟩,r2c⟩:=r2;obtain ⟨⟨⟨⟨⟨ra,rb⟩,rc⟩,rd⟩,re⟩,rf⟩:=r4
 have hk:inc n.kids:=fun i hi=>by
  have:=nz_all r7 (i+1) (by omega) (by omega)
  simp only [fK,ordE,kAt,Nat.add_sub_cancel] at this
  by_cases h1:(n.kids.getD i default).name=(n.kids.getD (i+1) default).name
  ·rw [if_pos h1] at this; cases this
  rw [if_neg h1] at this
  by_cases h2:Op.bytesLess (n.kids.getD (i+1) default).name (n.kids.getD i default).name=true
  ·rw [if_pos h2] at this; cases this
  cases h3:Op.bytesLess (n.kids.getD i default).name (n.kids.getD (i+1) default).name with
  | true=>rfl
  | false=>exact absurd (bl_total _ _ h3 (by simpa using h2)) h1
 exact {
  kind0:=by omega
  kind1:=fun e=>by rcases r0.2 with h1|h1<;>first|exact absurd e h1|exact h1
  name1:=fun e=>by rcases r1.1 with h1|h1<;>first|exact absurd e h1|exact h1
  name2:=fun e=>by rcases r1.2 with h1|h1<;>first|(exact absurd e h1)|exact h1
  file:=fun e=>by
   rcases r2a with h1|⟨h1,h2⟩
   ·exact absurd h1 e
   exact ⟨h1,List.eq_nil_of_length_eq_zero (by omega)⟩
  link:=fun e=>by rcases r2b with h1|h1<;>first|exact absurd h1 e|exact h1
  dir:=fun e=>by
   rcases r2c with h1|h1
   ·exact absurd h1 e
   exact List.eq_nil_of_length_eq_zero (by omega)
  target:=fun e=>by rcases r3 with h1|h1<;>first|exact absurd e h1|exact h1
  n1:=ra,n2:=rb,n3:=rc,n4:=rd,n5:=re,n6:=rf
  level:=by omega
  size:=by omega
  kids64:=by omega
  streams4:=by omega
  streams:=fun i hi=>⟨by
   have:=nz_all r5' i (by omega) (by omega)
   simp only [fZ] at this
   split at this
   ·cases this
   rename_i h1; simp at h1; omega,nz_all r6 i (by omega) (by omega)⟩
  inc:=hk }
theorem goodB_good {n:NV} {l:Int} (h:goodB n l=true):Good n l∧goodL n.kids (l+1)=true:=by
 rw [goodB_eq,Bool.and_eq_true] at h;exact ⟨good_of (by simpa using h.1),h.2⟩
mutual
theorem good_okT:∀ (n:NV) (l:Int),1≤l→goodB n l=true→okT n
 | .mk a b c d e f g h i j ks ss,l,hl,hg=>by
  obtain ⟨h1,h2⟩:=goodB_good hg;simp only [okT]
  have h64:ks.length≤64:=h1.kids64
  have hs4:ss.length≤4:=h1.streams4
  exact ⟨h64,by omega,h1.inc,good_okL ks (l+1) (by omega) h2⟩
theorem good_okL:∀ (ks:List NV) (l:Int),2≤l→goodL ks l=true→okL ks
 | [],l,hl,hg=>trivial
 | k::r,l,hl,hg=>by
  simp only [goodL,Bool.and_eq_true] at hg;simp only [okL]
  have hn:=(goodB_good hg.1).1.name2 (by omega)
  have:=name_len hn
  exact ⟨⟨⟨hn,by omega⟩,good_okT k l (by omega) hg.1⟩,good_okL r l hl hg.2⟩
end
theorem valid_okT {n:NV} (h:valid n=true):okT n:=by
 rw [valid_good,Bool.and_eq_true] at h;exact good_okT n 1 (Int.le_refl _) h.2
theorem names23 (hL:LibOk W0) {v:Int} (hv:v=2∨v=3):NamesOk W0 v (fun ks=>ks.map NV.name) :=
 ⟨fun ks h64 hinc hok=>⟨F105 hL v hv ks h64 hok hinc,by simp,by
  have:=inc_pw hinc
  rw [List.nodup_iff_pairwise_ne,List.pairwise_map]
  exact this.imp fun h=>bl_ne h,fun m hm=>by
  obtain ⟨k,hk,rfl⟩:=List.mem_map.1 hm
  have:=name_len (hok k hk).1
  omega⟩⟩
def zeroN:NV:=⟨[],0,[],[],0,0,0,0,0,0,[],[]⟩
def viewR (nm:List NV→List (List UInt8)) (v:Int) (n:NV):NV×Int :=
 if viewOk v=false then (zeroN,2) else if valid n=false then (zeroN,1) else (showG nm v 1 n,0)
theorem zeroD:DLe (.agg [.str [],Iv 0,.str [],.str [],Iv 0,Iv 0,Iv 0,Iv 0,Iv 0,Iv 0,.nils,.nils]) (encTop zeroN) :=
 DLe.agg ⟨.refl _,.refl _,.refl _,.refl _,.refl _,.refl _,.refl _,.refl _,.refl _,.refl _,DLe.nil,DLe.nil,trivial⟩
theorem F65 (hL:LibOk W0) (nm:List NV→List (List UInt8)) (v:Int) (hnm:viewOk v=true→NamesOk W0 v nm) (n:NV) (hz:sz n+n.name.length<10000000) (hv:valid n=true→sz n<800000):DFun Tryz.prog W0 267 [Iv v,encTop n,.fn (.func 268) [] []] (.tup [encTop (viewR nm v n).1,Iv (viewR nm v n).2]):=by
 refine Fi Tryz.func267 rfl Tryz.ntmps267 fun Γ=>?_
 apply Sr;(conv=>whnf);intro b4;(conv=>whnf);intro b6;apply Sq;apply Sr;(conv=>whnf);refine ⟨[Iv v],_,fun _=>F91 v,Z,?_⟩;refine Cd _ rfl (fun hc=>?_) (fun hc=>?_)
 ·apply Sr;apply Rl;apply Rt;(conv=>whnf)
  have h1:viewOk v=false:=by simpa using hc
  have h2:viewR nm v n=(zeroN,2):=by rw [viewR,if_pos h1]
  rw [h2];apply Rl;(conv=>whnf);exact ⟨zeroD,.refl _,trivial⟩
 apply Sk;apply Sq;apply Sr;apply Rl;(conv=>whnf);refine ⟨[encTop n],_,fun _=>F39 hL n hz,Z,?_⟩;refine Cd _ rfl (fun hc=>?_) (fun hc=>?_)
 ·apply Sr;apply Rl;apply Rt;(conv=>whnf)
  have h1:¬ viewOk v=false:=by intro h; rename_i h0; rw [h] at h0; cases h0
  have h3:valid n=false:=by simpa using hc
  have h2:viewR nm v n=(zeroN,1):=by rw [viewR,if_neg h1,if_pos h3]
  rw [h2];apply Rl;(conv=>whnf);exact ⟨zeroD,.refl _,trivial⟩
 apply Sk;apply Sr;apply Rl;(conv=>whnf)
 have h1:viewOk v=true:=by rename_i h0; simpa using h0
 have h3:valid n=true:=by simpa using hc
 have h4:=hv h3
 refine ⟨[Iv v,encQ n [] [],Iv 1,.fn (.func 268) [] []],_,fun _=>F92 nm v (hnm h1) _ n (Nat.lt_succ_self _) (valid_okT h3) [] [] 1 (by omega) (by omega) (by simp only [List.length_nil]; omega) (by simp only [List.length_nil]; omega),Z,?_⟩
 apply Rl;apply Rt;(conv=>whnf)
 have h2:viewR nm v n=(showG nm v 1 n,0):=by rw [viewR,if_neg (by rw [h1]; simp),if_neg (by rw [h3]; simp)]
 rw [h2];apply Rl;(conv=>whnf);exact Z
theorem F42 (hL:LibOk W0) (nm:List NV→List (List UInt8)) (v:Int) (hnm:viewOk v=true→NamesOk W0 v nm) (n:NV) (hz:sz n+n.name.length<10000000) (hv:valid n=true→sz n<800000):DFun Tryz.prog W0 208 [Iv v,encTop n] (.tup [encTop (viewR nm v n).1,Iv (viewR nm v n).2]):=by
 refine Fi Tryz.func208 rfl Tryz.ntmps208 fun Γ=>?_
 apply Sr;(conv=>whnf);intro b3;(conv=>whnf);intro b4;apply Sr;apply Rl;(conv=>whnf);refine ⟨[Iv v,encTop n,.fn (.func 268) [] []],_,fun _=>F65 hL nm v hnm n hz hv,Z,?_⟩;apply Rl;apply Rt;apply Rl;(conv=>whnf);exact Z
end Go.Tame.V



namespace Go.Tame.V
open Go Go.Proofs
variable {W0:World}
theorem F199 (s:List UInt8) (c:Int):DFun Tryz.prog W0 365 [.str s,.int .u8 c] (Iv (Lib.indexByte s c.toNat.toUInt8)) :=
 .pure (callable Tryz.func365 rfl (by decide +kernel)) rfl rfl fun w _=>Tryz.strings_IndexByte ⟨⟨s⟩⟩ c w
theorem F200 (r:Int):DFun Tryz.prog W0 366 [.int .i32 r] (.bool (Lib.validRune r)) :=
 .pure (callable Tryz.func366 rfl (by decide +kernel)) rfl rfl fun w _=>Tryz.utf8_ValidRune r w
theorem F172 (s p:List UInt8) (hs:s.length≤9223372036854775807):DFun Tryz.prog W0 346 [.str s,.str p] (.str (Lib.trimSuffix s p)) :=
 .pure (callable Tryz.func346 rfl (by decide +kernel)) rfl rfl fun w _=>Tryz.strings_TrimSuffix ⟨⟨s⟩⟩ ⟨⟨p⟩⟩ w hs
theorem F143 (i:Nat) (hi:i<100):DFun Tryz.prog W0 226 [Iv (i:Nat)] (.str (Lib.decDigits i)) :=
 .pure (callable Tryz.func226 rfl (by decide +kernel)) rfl rfl fun w _=>Tryz.strconv_Itoa_small i hi w
def forb:List UInt8:=[42,47,58,59,63,92]
theorem idx_none {c:UInt8}:∀ {l:List UInt8},(∀ b∈l,b≠c)→Lib.indexByte l c=-1
 | [],_=>rfl
 | b::l,h=>by
  have ih:=idx_none (l:=l) fun x hx=>h x (List.mem_cons_of_mem _ hx)
  unfold Lib.indexByte
  rw [if_neg (by simpa using h b List.mem_cons_self),ih]; rfl
theorem forb_small:∀ b∈forb,b.toNat<128:=by decide +kernel
theorem dec_forb:∀ p,p<6→(Utf8.decode ⟨⟨forb⟩⟩ p).2=1∧(Utf8.decode ⟨⟨forb⟩⟩ p).1<128:=by decide +kernel
theorem enc_last (r:Int) (h0:128≤r) (h1:r≤65533) (hs:r<55296∨57343<r):∃ (e:List UInt8) (c:UInt8),(Utf8.encode r).data.toList=e∧2≤e.length∧e.length≤4∧e[e.length-1]? = some c∧128≤c.toNat:=by
 have hv:Utf8.valid r=true:=by simp [Utf8.valid]; omega
 obtain ⟨h2,h3,h4⟩:=encode_facts r hv h0
 have hsz:(Utf8.encode r).size=(Utf8.encode r).data.toList.length:=rfl
 have hlt:(Utf8.encode r).size-1<(Utf8.encode r).size:=by omega
 refine ⟨_,_,rfl,by omega,by omega,?_,h4 hlt⟩;rw [← hsz,List.getElem?_eq_getElem (by omega)]
 rfl
theorem F190 (r:Int) (h0:128≤r) (h1:r≤65533) (hs:r<55296∨57343<r):DFun Tryz.prog W0 330 [.str forb,.int .i32 r] (Iv (-1)):=by
 refine Fi Tryz.func330 rfl Tryz.ntmps330 fun Γ=>?_
 apply Sr;apply Bk;apply Sr;apply Hh;refine Pk ?_;refine Cd _ rfl (fun hc=>?_) (fun hc=>?_)
 ·exfalso
  have:decide (r<128)=false:=by simp; omega
  cases h2:decide ((0:Int)≤r)<;>rw [h2] at hc<;>first|(cases hc; done)|(rw [this] at hc; cases hc)
 apply Sr;refine Cd _ rfl (fun hc=>?_) (fun hc=>?_)
 ·apply S2;refine Tri.regionX ti_ok ?_;(conv=>whnf);refine .inr (XOp.rangeStr rfl rfl fun bi=>?_);apply Bk;refine Tri.loopK (α:={ p:Nat // p≤6 }) (fun x=>[(175,.raw (.pointer (some ⟨bi,0,none⟩)))]) (fun x=>[(175,.obj bi (.stringIter ⟨⟨forb⟩⟩ x.1))]) (fun x=>6-x.1) ⟨0,by omega⟩ [(175,175)] ⟨Z,rfl,Y⟩ ?_;rintro ⟨p,hp⟩;apply Sq;refine Tri.regionX ti_ok ?_;(conv=>whnf);refine .inr (XOp.nextStr 175 rfl rfl (fun hlt=>?_) (fun hlt=>?_))
  ·have hp6:p<6:=hlt
   obtain ⟨hd1,hd2⟩:=dec_forb p hp6;apply Sq;refine Cd _ rfl (fun hc=>?_) (fun hc=>?_)
   ·apply Sk;apply Bk;apply Sr;apply Sr;refine Cd _ rfl (fun hc=>?_) (fun hc=>?_)
    ·exfalso
     have:(((Utf8.decode ⟨⟨forb⟩⟩ p).1:Nat):Int)=65533:=by simpa using hc
     omega
    apply Sk;(conv=>whnf)
    refine ⟨⟨p+1,by omega⟩,[(175,175)],by show 6-(p+1)<6-p; omega,Z,rfl,rfl,?_,trivial⟩
    exact congrArg (fun z=>some (HObj.obj bi (.stringIter ⟨⟨forb⟩⟩ (p+z)))) hd1
   cases hc
  (conv=>whnf);apply Sq;refine Cd _ rfl (fun hc=>?_) (fun hc=>?_)
  ·cases hc
  refine Tri.exit ?_;apply Sr;apply Rt;(conv=>whnf);exact .refl _
 apply Sr;(conv=>whnf);refine ⟨[.int .i32 r],_,fun _=>F200 r,Z,?_⟩;refine Cd _ rfl (fun hc=>?_) (fun hc=>?_)
 ·exfalso
  have:Lib.validRune r=true:=by simp [Lib.validRune]; omega
  rw [this] at hc; cases hc
 refine Tri.scope ?_;obtain ⟨e,c,he,hl2,hl4,hec,hc128⟩:=enc_last r h0 h1 hs;apply Sr;(conv=>whnf);rw [he];apply Sr;refine Ir ?_;apply Sr;apply Sr;apply Sq;apply Bk
 have hfl:forb.length=6:=rfl
 refine Tri.loop (α:=Unit) (fun x=>[(0,.str forb),(7,.str e),(8,Iv ((e.length:Int)-1)),(9,Iv ((e.length:Int)-1))]) (fun _=>[]) (fun x=>0) () Z trivial ?_;rintro ⟨⟩
 have hpos:((e.length:Int)-1).toNat=e.length-1:=by omega
 have hfb:forb[e.length-1]? = some (forb[e.length-1]'(by omega)):=List.getElem?_eq_getElem (by omega)
 have hfs:=forb_small _ (List.getElem_mem (l:=forb) (n:=e.length-1) (by omega))
 apply Sq;apply Sr;refine Cd _ rfl (fun hc=>?_) (fun hc=>?_)
 ·apply Sk
  have hc6:(e.length:Int)-1<6:=by omega
  apply Bk;refine Tri.scope ?_;apply Sq;apply Sq;refine Tri.draw ti_ok mixed (by kernel_rfl) ?_;(conv=>whnf)
  refine ⟨forb[e.length-1]'(by omega),fun _=>⟨by omega,by rw [hpos]; exact hfb⟩,?_⟩
  conv=>whnf
  refine ⟨c,fun _=>⟨by omega,by rw [hpos]; exact hec⟩,?_⟩
  refine Cd _ rfl (fun hc=>?_) (fun hc=>?_)
  ·apply Sq;refine Tri.draw ti_ok mixed (by kernel_rfl) ?_;refine Ir ?_;(conv=>whnf)
   refine ⟨fun _=>by rw [hfl]; omega,?_⟩
   conv=>whnf
   refine ⟨c,fun _=>⟨by omega,by rw [hpos]; exact hec⟩,?_⟩
   conv=>whnf
   refine ⟨[.str ((forb.take ((forb.length:Nat):Int).toNat).drop ((e.length:Int)-1+1).toNat),.int .u8 c.toNat],Iv (-1),fun _=>by
    have:=F199 (W0:=W0) ((forb.take ((forb.length:Nat):Int).toNat).drop ((e.length:Int)-1+1).toNat) c.toNat
    rw [idx_none (fun b hb hbc=>by
     have h2:=forb_small b (List.mem_of_mem_take (List.mem_of_mem_drop hb))
     rw [hbc] at h2
     have h3:((c.toNat:Int).toNat.toUInt8).toNat=c.toNat:=by simp
     omega)] at this
    exact this,Z,?_⟩
   apply Sq;apply Sr;refine Cd _ rfl (fun hc=>?_) (fun hc=>?_)
   ·apply Sr;apply Rt;(conv=>whnf);exact .refl _
   cases hc
  exfalso
  have:((forb[e.length-1]'(by omega)).toNat:Int)=(c.toNat:Int):=by simpa using hc
  omega
 exfalso
 rw [hfl] at hc
 simp at hc
 omega
def special (r:Int):Bool:=r==42||r==47||r==58||r==59||r==63||r==92
theorem special_tab:∀ n:Nat,n<128→decide (0≤Lib.indexByte forb ((n:Int).toNat.toUInt8))=special n:=by decide +kernel
theorem isChar_iff (r:Int):isChar r=true↔32≤r∧r≤65533∧(r<55296∨57343<r):=by simp [isChar]
theorem F170 (r:Int) (h:isChar r=true):DFun Tryz.prog W0 344 [.str forb,.int .i32 r] (.bool (special r)):=by
 obtain ⟨h1,h2,h3⟩:=(isChar_iff r).1 h
 by_cases h128:r<128
 ·have hn:r=(r.toNat:Int):=by omega
  have:=special_tab r.toNat (by omega)
  rw [← hn] at this;rw [← this]
  exact .pure (callable Tryz.func344 rfl (by decide +kernel)) rfl rfl fun w _=>Tryz.strings_ContainsRune_ascii ⟨⟨forb⟩⟩ r w (by omega) h128
 have hsp:special r=false:=by simp [special]; omega
 rw [hsp]
 refine Fi Tryz.func344 rfl Tryz.ntmps344 fun Γ=>?_
 apply Sr;apply Sr;(conv=>whnf);refine ⟨[.str forb,.int .i32 r],_,fun _=>F190 r (by omega) h2 h3,Z,?_⟩;apply Rt;(conv=>whnf);exact .refl _
def jolC (r:Int):Int:=if special r then 95 else r
theorem F139 (r:Int) (h:isChar r=true):DFun Tryz.prog W0 298 [.int .i32 r] (.int .i32 (jolC r)):=by
 refine Fi Tryz.func298 rfl Tryz.ntmps298 fun Γ=>?_
 apply Sr;apply Sq;apply Sr;(conv=>whnf);refine ⟨[.str forb,.int .i32 r],_,fun _=>F170 r h,Z,?_⟩;refine Cd _ rfl (fun hc=>?_) (fun hc=>?_)
 ·apply Sr;apply Rt;(conv=>whnf);exact DLe.of_eq (congrArg (D.int .i32) (by rw [jolC,if_pos hc]))
 apply Sk;apply Sr;apply Rt;(conv=>whnf)
 exact DLe.of_eq (congrArg (D.int .i32) (by rw [jolC,if_neg (by rw [hc]; simp)]))
def dB (c:Int):Bool:=((decide (65≤c)&&decide (c≤90))||(decide (48≤c)&&decide (c≤57)))||c==95
theorem F192 (c:Int):DFun Tryz.prog W0 371 [.int .u8 c] (.bool (dB c)):=by
 refine Fi Tryz.func371 rfl Tryz.ntmps371 fun Γ=>?_
 apply Sr;apply Sr;apply Hh;refine Pk ?_;apply Hh;apply Hh;apply Hh;apply Hh;refine Pk ?_;refine Pk ?_;apply Hh;refine Pk ?_;apply Rt;(conv=>whnf)
 exact DLe.of_eq (congrArg D.bool (by simp only [bif_and,bif_or]; rfl))
def dU (c:UInt8):Bool:=dB c.toNat
def dStr (s:List UInt8):Bool:=decide (s.length≤65536)&&s.all dU
theorem F191 (s:List UInt8):DFun Tryz.prog W0 370 [.str s,.sl .full 1 [.fn (.func 371) [] []]] (.bool (dStr s)):=by
 refine Fi Tryz.func370 rfl Tryz.ntmps370 fun Γ=>?_
 apply Sr;apply Sq;apply Sr;refine Cd _ rfl (fun hc=>?_) (fun hc=>?_)
 ·apply Sr;apply Rt;(conv=>whnf)
  have h1:decide (s.length≤65536)=false:=by simp at hc ⊢; omega
  exact DLe.of_eq (congrArg D.bool (by rw [dStr,h1]; rfl))
 apply Sk
 have h1:s.length≤65536:=by simp at hc; omega
 apply Sq;apply Sr;apply Bk;refine Tri.loop (α:={ i:Nat // i≤s.length∧(s.take i).all dU=true }) (fun x=>[(0,.str s),(1,.sl .full 1 [.fn (.func 371) [] []]),(13,Iv s.length),(14,Iv x.1)]) (fun _=>[]) (fun x=>s.length-x.1) ⟨0,by simp⟩ Z trivial ?_;rintro ⟨i,hi,hall⟩;apply Sr;apply Sq;refine Cd _ rfl (fun hc=>?_) (fun hc=>?_)
 ·apply Sk
  have hia:i<s.length:=by simpa using hc
  have hnext:s.take (i+1)=s.take i++[s[i]]:=by rw [List.take_add_one,List.getElem?_eq_getElem hia]; rfl
  apply Sq;apply Bk;apply Sr;apply Sr;apply Sq;apply Sr;apply Bk;refine Tri.loop (α:={ y:Nat // y≤1 }) (fun y=>[(0,.str s),(1,.sl .full 1 [.fn (.func 371) [] []]),(13,Iv s.length),(14,Iv i),(5,Iv i),(6,.bool (decide (y.1=1)&&dU s[i])),(17,.sl .full 1 [.fn (.func 371) [] []]),(18,Iv 1),(19,Iv y.1)]) (fun _=>[]) (fun y=>1-y.1) ⟨0,by omega⟩ Z trivial ?_;rintro ⟨y,hy⟩;apply Sr;apply Sq;refine Cd _ rfl (fun hc=>?_) (fun hc=>?_)
  ·apply Sk
   have hy0:y=0:=by simp at hc; omega
   subst hy0;apply Sq;apply Bk;apply Sr;(conv=>whnf);refine Sp ?_;refine Lo (.fn (.func 371) [] []) ?_;apply Rg;apply Hh;apply Hh;(conv=>whnf);refine ⟨s[i],fun h=>⟨by omega,by simp [hia]⟩,?_⟩;apply Hh;apply Hh;(conv=>whnf);refine ⟨[.int .u8 s[i].toNat],_,fun h=>F192 _,Z,?_⟩;refine Pk ?_;apply Rg;refine Ir ?_;(conv=>whnf)
   exact ⟨⟨1,Nat.le_refl _⟩,by show 1-1<1-0; omega,Z,trivial⟩
  refine Tri.exit ?_
  have hy1:y=1:=by simp at hc; omega
  subst hy1;apply Sr;refine Cd _ rfl (fun hc=>?_) (fun hc=>?_)
  ·apply Sr;apply Rt;(conv=>whnf)
   have h2:dU s[i]=false:=by simpa using hc
   have h3:s.all dU=false:=by
    rw [List.all_eq_false]
    exact ⟨s[i],List.getElem_mem hia,by rw [h2]; simp⟩
   exact DLe.of_eq (congrArg D.bool (by rw [dStr,h3,Bool.and_false]))
  apply Sk;apply Rg;refine Ir ?_;(conv=>whnf)
  have h2:dU s[i]=true:=by simpa using hc
  exact ⟨⟨i+1,hia,by rw [hnext,List.all_append,hall]; simp [h2]⟩,by show _-(i+1)<_-i; omega,Z,trivial⟩
 refine Tri.exit ?_;apply Sr;apply Rt;(conv=>whnf)
 have hin:i=s.length:=by simp at hc; omega
 subst hin;rw [List.take_length] at hall
 exact DLe.of_eq (congrArg D.bool (by rw [dStr,hall]; simp [h1]))
theorem F171 (s:List UInt8):DFun Tryz.prog W0 345 [.str s] (.bool (dStr s)):=by
 refine Fi Tryz.func345 rfl Tryz.ntmps345 fun Γ=>?_
 apply Sr;apply Sr;(conv=>whnf);refine ⟨trivial,?_⟩;(conv=>whnf);refine ⟨[.str s,.sl .full 1 [.fn (.func 371) [] []]],_,fun _=>F191 s,Z,?_⟩;apply Rt;(conv=>whnf);exact .refl _
theorem enc_ascii (r:Int) (h0:0≤r) (h1:r<128):(Utf8.encode r).data.toList=[UInt8.ofNat r.toNat]:=by
 have hv:Utf8.valid r=true:=by simp [Utf8.valid]; omega
 unfold Utf8.encode
 simp only [hv,if_true];rw [if_pos (by omega)]
def isoC (r:Int):Int:=if 97≤r∧r≤122 then r-97+65 else if r<128∧dB r=true then r else 95
theorem F140 (r:Int) (h0:0≤r) (hr:r≤1114111):DFun Tryz.prog W0 299 [.int .i32 r] (.int .i32 (isoC r)):=by
 refine Fi Tryz.func299 rfl Tryz.ntmps299 fun Γ=>?_
 apply Sr;apply Sq;apply Bk;apply Sr;apply Hh;refine Pk ?_;refine Cd _ rfl (fun hc=>?_) (fun hc=>?_)
 ·apply Sr
  have h97:97≤r∧r≤122:=by
   rw [bif_and] at hc
   simpa using hc
  refine Ir ?_;refine Ir ?_;apply Rt;(conv=>whnf);exact DLe.of_eq (congrArg (D.int .i32) (by rw [isoC,if_pos h97]))
 apply Sr;skip;apply Hh;apply Hh;(conv=>whnf)
 refine ⟨[.str (Utf8.encode r).data.toList],.bool (dB r),fun h=>by
  have hlt:r<128:=by simpa using h
  have:=F171 (W0:=W0) (Utf8.encode r).data.toList
  have e:dStr (Utf8.encode r).data.toList=dB r:=by
   rw [enc_ascii r h0 hlt];simp only [dStr,dU,List.all_cons,List.all_nil,Bool.and_true,List.length_singleton]
   have:((UInt8.ofNat r.toNat).toNat:Int)=r:=by
    rw [UInt8.toNat_ofNat']; omega
   rw [this]; simp
  rw [e] at this
  exact this,Z,?_⟩
 refine Pk ?_;refine Cd _ rfl (fun hc=>?_) (fun hc=>?_)
 ·apply Sr;apply Rt;(conv=>whnf)
  have h97:¬ (97≤r∧r≤122):=by
   rename_i hc0
   rw [bif_and] at hc0
   simpa using hc0
  have h2:r<128∧dB r=true:=by rw [bif_and] at hc; simpa using hc
  exact DLe.of_eq (congrArg (D.int .i32) (by rw [isoC,if_neg h97,if_pos h2]))
 apply Sk;apply Sr;apply Rt;(conv=>whnf)
 have h97:¬ (97≤r∧r≤122):=by
  rename_i hc0
  rw [bif_and] at hc0
  simpa using hc0
 have h2:¬ (r<128∧dB r=true):=by rw [bif_and] at hc; simpa using hc
 exact DLe.of_eq (congrArg (D.int .i32) (by rw [isoC,if_neg h97,if_neg h2]))
theorem encR (n:Nat) (h:n≤65533) (hs:n<55296∨57343<n):(Utf8.encode (n:Int)).data.toList=Lib.encodeRune n:=by
 have hv:Utf8.valid (n:Int)=true:=by simp [Utf8.valid]; omega
 unfold Utf8.encode Lib.encodeRune Lib.encodeRuneZ
 simp only [hv,if_true,Int.toNat_natCast]
 have hz:∀ a b:Nat,UInt8.ofNat (a+b)=((a:Int)+(b:Int)).toNat.toUInt8:=fun a b=>by
  have:((a:Int)+(b:Int)).toNat=a+b:=by omega
  rw [this]
 by_cases h1:n<128
 ·rw [if_pos h1,if_pos (show 0≤(n:Int)∧(n:Int)≤127 by omega)]; simp
 rw [if_neg h1,if_neg (show ¬ (0≤(n:Int)∧(n:Int)≤127) by omega)]
 by_cases h2:n<2048
 ·rw [if_pos h2,if_pos (show 128≤(n:Int)∧(n:Int)≤2047 by omega)]
  show [UInt8.ofNat (192+n/64),UInt8.ofNat (128+n%64)]=_
  rw [hz,hz]; simp
 rw [if_neg h2,if_neg (show ¬ (128≤(n:Int)∧(n:Int)≤2047) by omega),if_pos (show n<65536 by omega),if_pos (show 2048≤(n:Int)∧(n:Int)<55296∨57343<(n:Int)∧(n:Int)≤65535 by omega)]
 show [UInt8.ofNat (224+n/4096),UInt8.ofNat (128+n/64%64),UInt8.ofNat (128+n%64)]=_
 rw [hz,hz,hz]; simp
theorem dec_L {s:List UInt8} (hs:s≠[]):dec s=Lib.decodeL s:=by
 unfold dec Lib.decodeGo Lib.decodeL
 rw [if_neg (show ¬ (⟨⟨s⟩⟩:ByteArray).size=0 from fun e=>hs (List.eq_nil_of_length_eq_zero e))]
theorem decode_at_drop (s:List UInt8) (i:Nat) (h:i<s.length):Utf8.decode ⟨⟨s⟩⟩ i=dec (s.drop i):=by
 have hne:s.drop i≠[]:=fun e=>by have:=congrArg List.length e; simp at this; omega
 rw [dec_L hne];exact (Lib.decodeL_drop ⟨⟨s⟩⟩ i).symm
theorem notBad {s:List UInt8} (h:badAt s=false):isChar (dec s).1=true∧¬ ((dec s).1=65533∧(dec s).2=1):=by
 simp only [badAt,Bool.or_eq_false_iff,Bool.not_eq_false',Bool.and_eq_false_iff,beq_eq_false_iff_ne] at h
 exact ⟨h.1,fun ⟨h1,h2⟩=>by rcases h.2 with h3|h3<;>contradiction⟩
theorem enc_dec {s:List UInt8} (hs:s≠[]) (h:badAt s=false):(Utf8.encode ((dec s).1:Int)).data.toList=s.take (dec s).2:=by
 obtain ⟨h1,h2⟩:=notBad h;obtain ⟨h3,h4,h5⟩:=(isChar_iff _).1 h1
 rw [encR _ (by omega) (by omega),dec_L hs,Lib.encode_decode s hs (by rw [← dec_L hs]; exact h2)]
theorem chars_bytes:∀ (n:Nat) (s:List UInt8) (l:List Int),s.length≤n→charsP s=some l→runesB l=s∧∀ r∈l,isChar r=true
 | 0,s,l,hn,hc=>by
  have:s=[]:=List.eq_nil_of_length_eq_zero (by omega)
  subst this; cases hc; exact ⟨rfl,fun r hr=>by cases hr⟩
 | n+1,s,l,hn,hc=>by
  by_cases hs:s=[]
  ·subst hs; cases hc; exact ⟨rfl,fun r hr=>by cases hr⟩
  obtain ⟨h1,h2,_⟩:=decode_size s hs;rw [charsP_cons hs] at hc
  cases hb:badAt s with
  | true=>rw [hb] at hc; cases hc
  | false =>
   rw [hb] at hc;simp only [Bool.false_eq_true,if_false,Option.map_eq_some_iff] at hc;obtain ⟨l',hl',rfl⟩:=hc
   have ih:=chars_bytes n (s.drop (dec s).2) l' (by simp; omega) hl'
   refine ⟨?_,fun r hr=>?_⟩
   ·simp only [runesB,List.flatMap_cons];rw [enc_dec hs hb]
    have:runesB l'=s.drop (dec s).2:=ih.1
    simp only [runesB] at this;rw [this,List.take_append_drop]
   rcases List.mem_cons.1 hr with rfl|hr
   ·exact (notBad hb).1
   exact ih.2 r hr
theorem runeGo_chars (s:List UInt8):∀ (f i:Nat) (l:List Int),i≤s.length→s.length-i≤f→charsP (s.drop i)=some l→runeGo ⟨⟨s⟩⟩ f i=l
 | 0,i,l,hi,hf,hc=>by
  have:s.drop i=[]:=List.drop_eq_nil_of_le (by omega)
  rw [this] at hc; cases hc; rfl
 | f+1,i,l,hi,hf,hc=>by
  have hsz:(⟨⟨s⟩⟩:ByteArray).size=s.length:=rfl
  simp only [runeGo,hsz]
  by_cases hlt:i<s.length
  ·have hne:s.drop i≠[]:=fun e=>by have:=congrArg List.length e; simp at this; omega
   obtain ⟨h1,h2,_⟩:=decode_size (s.drop i) hne;rw [charsP_cons hne] at hc
   cases hb:badAt (s.drop i) with
   | true=>rw [hb] at hc; cases hc
   | false =>
    rw [hb] at hc;simp only [Bool.false_eq_true,if_false,Option.map_eq_some_iff] at hc;obtain ⟨l',hl',rfl⟩:=hc;rw [if_pos hlt,decode_at_drop s i hlt];rw [List.length_drop] at h2;rw [List.drop_drop] at hl';rw [runeGo_chars s f (i+(dec (s.drop i)).2) l' (by omega) (by omega) hl']
    rfl
  have:s.drop i=[]:=List.drop_eq_nil_of_le (by omega)
  rw [this] at hc; cases hc
  rw [if_neg hlt]
theorem runes_chars {s:List UInt8} {l:List Int} (h:charsP s=some l):runesI s=l :=
 runeGo_chars s s.length 0 l (Nat.zero_le _) (by omega) (by simpa using h)
theorem name_chars {s:List UInt8} (h:nameOk s=true):∃ l,charsP s=some l∧(chars s).1=l∧(chars s).2=0∧1≤l.length∧l.length≤64:=by
 simp only [nameOk] at h
 split at h
 ·cases h
 simp only [Bool.and_eq_true,decide_eq_true_eq,beq_iff_eq] at h;obtain ⟨h1,h2,h3⟩:=h;simp only [chars] at h1 h2 h3 ⊢
 split at h1
 ·cases h1
 rename_i hl
 rw [if_neg hl] at h2 h3
 cases hc:charsP s with
 | none=>rw [hc] at h1; cases h1
 | some l=>rw [hc] at h2 h3; exact ⟨l,rfl,by rw [if_neg hl],by rw [if_neg hl],h2,h3⟩
theorem runesB_append (a b:List Int):runesB (a++b)=runesB a++runesB b:=by simp [runesB]
def ints32 (l:List Int):List D:=l.map (D.int .i32)
def lastDot (s:List UInt8):Int:=Lib.lastIndexByte ⟨⟨s⟩⟩ 46
def cutB (v:Int) (s:List UInt8):Bool:=(decide (0<lastDot s)&&decide (lastDot s<(s.length:Int)-1))&&(v==0||decide (((runesI (s.drop (lastDot s+1).toNat)).length:Int)≤16))
def cutS (v:Int) (s:List UInt8) (dir:Bool):List UInt8×List UInt8 :=
 if dir=true then (s,[]) else if cutB v s=true then (s.take (lastDot s).toNat,s.drop (lastDot s+1).toNat)
 else if v=0∧1<s.length then (Lib.trimSuffix s [46],[]) else (s,[])
theorem drop_all (s:List UInt8) (i:Nat):(s.take ((s.length:Nat):Int).toNat).drop i=s.drop i:=by simp
theorem runes_len (s:List UInt8):∀ f i,(runeGo ⟨⟨s⟩⟩ f i).length≤f
 | 0,_=>by simp [runeGo]
 | f+1,i=>by
  simp only [runeGo]
  split
  ·have:=runes_len s f (i+(Utf8.decode ⟨⟨s⟩⟩ i).2); simp; omega
  simp
theorem runesI_len (s:List UInt8):(runesI s).length≤s.length:=runes_len s _ _
theorem F141 (v:Int) (s:List UInt8) (dir:Bool) (hs:s.length<1000000000):DFun Tryz.prog W0 300 [Iv v,.str s,.bool dir] (.tup [.str (cutS v s dir).1,.str (cutS v s dir).2]):=by
 refine Fi Tryz.func300 rfl Tryz.ntmps300 fun Γ=>?_
 apply Sr;apply Sq;apply Sr;refine Cd _ rfl (fun hc=>?_) (fun hc=>?_)
 ·apply Sr;apply Rt;(conv=>whnf)
  have h1:cutS v s dir=(s,[]):=by rw [cutS,if_pos hc]
  rw [h1];exact Z
 apply Sk
 have hdir:¬ dir=true:=by rw [hc]; simp
 (conv=>whnf);refine Tri.joinK (α:={ x:Unit // cutB v s=false }) (fun x=>[(0,Iv v),(1,.str s)]) (fun x=>[]) ?_ ?_
 ·apply Sr;(conv=>whnf);refine ⟨[.str s,.int .u8 46],Iv (lastDot s),fun _=>F27 s 46 (by omega),Z,?_⟩;apply Sr;apply Hh;apply Hh;refine Ir ?_;apply Hh;apply Hh;refine Pk ?_;refine Cd _ rfl (fun hc=>?_) (fun hc=>?_)
  ·apply Sq
   have hb:(decide (0<lastDot s)&&decide (lastDot s<(s.length:Int)-1))=true:=by rw [bif_and] at hc; exact hc
   have hb1:0<lastDot s∧lastDot s<(s.length:Int)-1:=by simpa using hb
   apply Rg;refine Ir ?_;(conv=>whnf);refine ⟨fun _=>by omega,?_⟩;apply Sr;apply Hh;(conv=>whnf)
   refine ⟨by simp; omega,?_⟩
   apply Hh;apply Hh;refine Pk ?_;refine Cd _ rfl (fun hc=>?_) (fun hc=>?_)
   ·apply Sq
    have hcut:cutB v s=true:=by
     rw [cutB,hb,Bool.true_and,← bif_or];rw [drop_all] at hc
     simpa using hc
    apply Rg;(conv=>whnf);refine ⟨fun _=>by omega,?_⟩;apply Rt;(conv=>whnf);rw [drop_all]
    have h1:cutS v s dir=(s.take (lastDot s).toNat,s.drop (lastDot s+1).toNat):=by rw [cutS,if_neg hdir,if_pos hcut]
    rw [h1];exact Z
   apply Sk;(conv=>whnf)
   have hcut:cutB v s=false:=by
    rw [cutB,hb,Bool.true_and,← bif_or];rw [drop_all] at hc
    simpa using hc
   exact ⟨⟨(),hcut⟩,[],Z,rfl,trivial⟩
  apply Sk;(conv=>whnf)
  have hcut:cutB v s=false:=by
   rw [bif_and] at hc
   have hb:(decide (0<lastDot s)&&decide (lastDot s<(s.length:Int)-1))=false:=hc
   rw [cutB,hb,Bool.false_and]
  exact ⟨⟨(),hcut⟩,[],Z,rfl,trivial⟩
 rintro ⟨_,hcut⟩;apply Sq;apply Sr;apply Hh;apply Hh;refine Pk ?_;refine Cd _ rfl (fun hc=>?_) (fun hc=>?_)
 ·apply Rg;(conv=>whnf);refine ⟨[.str s,.str [46]],_,fun _=>F172 s [46] (by omega),Z,?_⟩;apply Sr;apply Rt;(conv=>whnf)
  have h2':v=0∧(1:Int)<s.length:=by rw [bif_and] at hc; simpa using hc
  have h2:v=0∧1<s.length:=⟨h2'.1,by omega⟩
  have h1:cutS v s dir=(Lib.trimSuffix s [46],[]):=by rw [cutS,if_neg hdir,if_neg (by rw [hcut]; simp),if_pos h2]
  rw [h1];exact Z
 apply Sk;apply Sr;apply Rt;(conv=>whnf)
 have h2':v=0→(s.length:Int)≤1:=by rw [bif_and] at hc; simpa using hc
 have h2:¬ (v=0∧1<s.length):=fun ⟨h3,h4⟩=>by have:=h2' h3; omega
 have h1:cutS v s dir=(s,[]):=by rw [cutS,if_neg hdir,if_neg (by rw [hcut]; simp),if_neg h2]
 rw [h1];exact Z
theorem map_set (f:Int→Int) (l:List Int) {i:Nat} (h:i<l.length):(((l.take i).map f++l.drop i).map (D.int .i32)).set i (.int .i32 (f l[i]))=((l.take (i+1)).map f++l.drop (i+1)).map (D.int .i32):=by
 have e:l.drop i=l[i]::l.drop (i+1):=List.drop_eq_getElem_cons h
 have e2:l.take (i+1)=l.take i++[l[i]]:=by rw [List.take_add_one,List.getElem?_eq_getElem h]; rfl
 rw [e,e2];simp only [List.map_append,List.map_cons,List.map_nil,List.append_assoc,List.singleton_append]
 rw [List.set_append_right _ _ (by simp; omega)]
 have:i-(List.map (D.int .i32) (List.map f (List.take i l))).length=0:=by simp; omega
 rw [this]; rfl
theorem F142 (s:List UInt8) (fid:Nat) (f:Int→Int) (hs:s.length<1000000000) (hf:∀ r∈runesI s,DFun Tryz.prog W0 fid [.int .i32 r] (.int .i32 (f r))):DFun Tryz.prog W0 301 [.str s,.fn (.func fid) [] []] (.sl .none 1 (ints32 ((runesI s).map f))):=by
 refine Fi Tryz.func301 rfl Tryz.ntmps301 fun Γ=>?_
 apply Sr;apply Sq;refine Tri.regionX ti_ok ?_;(conv=>whnf);refine .inr (XOp.runesRow ti_ok rfl rfl rfl rfl rfl rfl rfl (by omega) fun aa cap=>?_);apply Sq;apply Sr;apply Bk
 have hrl:=runesI_len s
 generalize hL:runesI s=L at *
 refine Tri.loopK (α:={ i:Nat // i≤L.length }) (fun x=>[(1,.fn (.func fid) [] []),(5,.raw (.slice aa L.length cap)),(10,.raw (.slice aa L.length cap)),(11,Iv L.length),(12,Iv x.1)]) (fun x=>[(9,.row (.slice aa L.length cap) (((L.take x.1).map f++L.drop x.1).map (D.int .i32)) 1 21)]) (fun x=>L.length-x.1) ⟨0,by omega⟩ [(9,9)]
  ⟨Z,rfl,Y⟩ ?_
 rintro ⟨i,hi⟩;dsimp only;apply Sr;apply Sq;refine Cd _ rfl (fun hc=>?_) (fun hc=>?_)
 ·apply Sk
  have hia:i<L.length:=by simpa using hc
  have hlen:(((L.take i).map f++L.drop i).map (D.int .i32)).length=L.length:=by simp; omega
  have hget:(((L.take i).map f++L.drop i).map (D.int .i32))[i]? = some (.int .i32 L[i]):=by
   rw [List.getElem?_map,List.getElem?_append_right (by simp; omega)]
   have:i-(List.map f (List.take i L)).length=0:=by simp; omega
   rw [this]
   simp [hia]
  apply Sq;apply Bk;apply Sq;refine Tri.regionX ti_ok ?_;(conv=>whnf)
  refine .inr (XOp.rowIndex ti_ok 9 rfl rfl rfl rfl rfl rfl rfl (by omega) (by rw [hlen]; omega) ?_)
  conv=>whnf
  refine .inr (XOp.rowLoad ti_ok 9 (i:=i) (by rw [Int.toNat_natCast]; rfl) rfl rfl hget ?_)
  (conv=>whnf);refine Tri.regionX ti_ok ?_;apply Il;(conv=>whnf);refine ⟨[.int .i32 L[i]],_,fun _=>hf _ (List.getElem_mem hia),Z,?_⟩;(conv=>whnf)
  refine .inr (XOp.rowIndex ti_ok 9 rfl rfl rfl rfl rfl rfl rfl (by omega) (by rw [hlen]; omega) ?_)
  conv=>whnf
  refine .inr (XOp.rowStore ti_ok 9 (i:=i) (by rw [Int.toNat_natCast]; rfl) rfl rfl rfl (by rw [hlen]; omega) rfl ?_)
  apply Rg;refine Ir ?_;(conv=>whnf)
  exact ⟨⟨i+1,by omega⟩,[(9,9)],by show _-(i+1)<_-i; omega,Z,rfl,rfl,congrArg (fun z=>some (HObj.row (.slice aa L.length cap) z 1 21)) (map_set f L hia),trivial⟩
 refine Tri.exit ?_;(conv=>whnf)
 have hin:i=L.length:=by simp at hc; omega
 have hrow:((L.take i).map f++L.drop i).map (D.int .i32)=ints32 (L.map f):=by subst hin; simp [ints32]
 rw [hrow];refine Tri.forgetK [(5,.raw (.slice aa L.length cap))] [(9,.row (.slice aa L.length cap) (ints32 (L.map f)) 1 21)] [(9,9)] ⟨Z,rfl,Y⟩ ?_;refine Tri.commitSt 9 5 rfl ?_;apply Sr;apply Rt;(conv=>whnf);exact .refl _
theorem dec_enc (n:Nat) (h:n≤65533) (hs:n<55296∨57343<n) (rest:List UInt8):dec ((Utf8.encode (n:Int)).data.toList++rest)=(n,(Utf8.encode (n:Int)).data.toList.length):=by
 have hv:Utf8.valid (n:Int)=true:=by simp [Utf8.valid]; omega
 have hU:∀ x:Nat,x<256→(UInt8.ofNat x).toNat=x:=fun x hx=>by rw [UInt8.toNat_ofNat']; omega
 by_cases h1:n<128
 ·have e:(Utf8.encode (n:Int)).data.toList=[UInt8.ofNat n]:=by
   unfold Utf8.encode; simp only [hv,if_true,Int.toNat_natCast]; rw [if_pos h1]
  rw [e,dec_eq (by simp)];simp only [List.singleton_append,List.length_cons,List.getD_cons_zero,List.length_nil,decN];rw [hU n (by omega),if_pos h1]
 by_cases h2:n<2048
 ·have e:(Utf8.encode (n:Int)).data.toList=[UInt8.ofNat (192+n/64),UInt8.ofNat (128+n%64)]:=by
   unfold Utf8.encode; simp only [hv,if_true,Int.toNat_natCast]; rw [if_neg h1,if_pos h2]
  rw [e,dec_eq (by simp)];simp only [List.cons_append,List.nil_append,List.length_cons,List.getD_cons_zero,List.getD_cons_succ,List.length_nil,decN];rw [hU (192+n/64) (by omega),hU (128+n%64) (by omega)];rw [if_neg (by omega),if_pos ⟨by omega,by omega,by omega⟩,if_pos (by omega)]
  exact Prod.ext (by dsimp only; omega) rfl
 have e:(Utf8.encode (n:Int)).data.toList=[UInt8.ofNat (224+n/4096),UInt8.ofNat (128+n/64%64),UInt8.ofNat (128+n%64)]:=by
  unfold Utf8.encode; simp only [hv,if_true,Int.toNat_natCast]; rw [if_neg h1,if_neg h2,if_pos (by omega)]
 rw [e,dec_eq (by simp)];simp only [List.cons_append,List.nil_append,List.length_cons,List.getD_cons_zero,List.getD_cons_succ,List.length_nil,decN];rw [hU (224+n/4096) (by omega),hU (128+n/64%64) (by omega),hU (128+n%64) (by omega)];rw [if_neg (by omega),if_neg (by omega),if_pos ⟨by omega,⟨by omega,by omega⟩,by omega,by omega⟩,if_pos ⟨by omega,by omega⟩]
 exact Prod.ext (by dsimp only; omega) rfl
theorem enc_ne (r:Int):(Utf8.encode r).data.toList≠[]:=by
 intro h
 unfold Utf8.encode at h
 dsimp only at h;generalize (if Utf8.valid r=true then r.toNat else Utf8.runeError)=c at h
 by_cases h1:c<128
 ·rw [if_pos h1] at h; cases h
 rw [if_neg h1] at h
 by_cases h2:c<2048
 ·rw [if_pos h2] at h; cases h
 rw [if_neg h2] at h
 by_cases h3:c<65536
 ·rw [if_pos h3] at h; cases h
 rw [if_neg h3] at h; cases h
theorem charsP_of:∀ (l:List Int),(∀ r∈l,isChar r=true)→charsP (runesB l)=some l
 | [],_=>rfl
 | r::l,h=>by
  obtain ⟨h1,h2,h3⟩:=(isChar_iff r).1 (h r List.mem_cons_self)
  have ih:=charsP_of l fun x hx=>h x (List.mem_cons_of_mem _ hx)
  obtain ⟨n,rfl⟩:∃ n:Nat,r=n:=⟨r.toNat,by omega⟩
  have hd:=dec_enc n (by omega) (by omega) (runesB l)
  have e:runesB ((n:Int)::l)=(Utf8.encode (n:Int)).data.toList++runesB l:=by simp [runesB]
  rw [e]
  have hne:(Utf8.encode (n:Int)).data.toList++runesB l≠[]:=fun h=>enc_ne _ (List.append_eq_nil_iff.1 h).1
  rw [charsP_cons hne,hd]
  have hb:badAt ((Utf8.encode (n:Int)).data.toList++runesB l)=false:=by
   simp only [badAt,hd,h (n:Int) List.mem_cons_self,Bool.not_true,Bool.false_or,Bool.and_eq_false_iff,beq_eq_false_iff_ne]
   by_cases h5:n=65533
   ·subst h5; right; decide +kernel
   left; exact h5
  rw [hb]
  simp [ih]
theorem enc_dot {r:Int} (h:isChar r=true) {i:Nat} (hi:(Utf8.encode r).data.toList[i]? = some 46):r=46∧i=0:=by
 obtain ⟨h1,h2,h3⟩:=(isChar_iff r).1 h;obtain ⟨n,rfl⟩:∃ n:Nat,r=n:=⟨r.toNat,by omega⟩
 have hU:∀ x:Nat,x<256→(UInt8.ofNat x).toNat=x:=fun x hx=>by rw [UInt8.toNat_ofNat']; omega
 have hne:∀ x:Nat,x<256→128≤x→UInt8.ofNat x≠46:=fun x hx h128 e=>by
  have:=congrArg UInt8.toNat e
  rw [hU x hx] at this
  have e46:(46:UInt8).toNat=46:=rfl
  omega
 have hv:Utf8.valid (n:Int)=true:=by simp [Utf8.valid]; omega
 by_cases h1':n<128
 ·have e:(Utf8.encode (n:Int)).data.toList=[UInt8.ofNat n]:=by
   unfold Utf8.encode; simp only [hv,if_true,Int.toNat_natCast]; rw [if_pos h1']
  rw [e] at hi
  match i,hi with
  | 0,hi =>
   have:UInt8.ofNat n=46:=by simpa using hi
   have:=congrArg UInt8.toNat this
   rw [hU n (by omega)] at this
   have e46:(46:UInt8).toNat=46:=rfl
   exact ⟨by omega,rfl⟩
  | i+1,hi=>simp at hi
 exfalso
 by_cases h2:n<2048
 ·have e:(Utf8.encode (n:Int)).data.toList=[UInt8.ofNat (192+n/64),UInt8.ofNat (128+n%64)]:=by
   unfold Utf8.encode; simp only [hv,if_true,Int.toNat_natCast]; rw [if_neg h1',if_pos h2]
  rw [e] at hi
  match i,hi with
  | 0,hi=>exact hne (192+n/64) (by omega) (by omega) (by simpa using hi)
  | 1,hi=>exact hne (128+n%64) (by omega) (by omega) (by simpa using hi)
  | i+2,hi=>simp at hi
 have e:(Utf8.encode (n:Int)).data.toList=[UInt8.ofNat (224+n/4096),UInt8.ofNat (128+n/64%64),UInt8.ofNat (128+n%64)]:=by
  unfold Utf8.encode; simp only [hv,if_true,Int.toNat_natCast]; rw [if_neg h1',if_neg h2,if_pos (by omega)]
 rw [e] at hi
 match i,hi with
 | 0,hi=>exact hne (224+n/4096) (by omega) (by omega) (by simpa using hi)
 | 1,hi=>exact hne (128+n/64%64) (by omega) (by omega) (by simpa using hi)
 | 2,hi=>exact hne (128+n%64) (by omega) (by omega) (by simpa using hi)
 | i+3,hi=>simp at hi
theorem byte_dot:∀ (l:List Int),(∀ r∈l,isChar r=true)→∀ i,(runesB l)[i]? = some 46→∃ l1 l2,l=l1++46::l2∧(runesB l1).length=i
 | [],_,i,h=>by simp [runesB] at h
 | r::l,hl,i,h=>by
  have e:runesB (r::l)=(Utf8.encode r).data.toList++runesB l:=by simp [runesB]
  rw [e,List.getElem?_append] at h
  split at h
  ·obtain ⟨rfl,rfl⟩:=enc_dot (hl r List.mem_cons_self) h;exact ⟨[],l,rfl,rfl⟩
  rename_i hi
  obtain ⟨l1,l2,rfl,hlen⟩:=byte_dot l (fun x hx=>hl x (List.mem_cons_of_mem _ hx)) _ h;refine ⟨r::l1,l2,rfl,?_⟩
  have e:runesB (r::l1)=(Utf8.encode r).data.toList++runesB l1:=by simp [runesB]
  rw [e,List.length_append,hlen]; omega
theorem enc46:(Utf8.encode 46).data.toList=[46]:=by decide +kernel
theorem dot_split {s:List UInt8} {l:List Int} (hc:charsP s=some l) :
  (lastDot s=-1∧(46:Int)∉l)∨∃ l1 l2,l=l1++46::l2∧(46:Int)∉l2∧lastDot s=(runesB l1).length∧s=runesB l1++46::runesB l2:=by
 obtain ⟨hb,hch⟩:=chars_bytes s.length s l (Nat.le_refl _) hc
 have hmem:∀ l1 l2:List Int,l=l1++46::l2→s=runesB l1++46::runesB l2:=fun l1 l2 e=>by
  rw [← hb,e,runesB_append]
  have:runesB (46::l2)=(Utf8.encode 46).data.toList++runesB l2:=by simp [runesB]
  rw [this,enc46]; rfl
 have hget:∀ j,(hj:j<s.length)→(⟨⟨s⟩⟩:ByteArray).data[j]! = s[j]:=fun j hj=>by
  simp [hj]
 have hsz:(⟨⟨s⟩⟩:ByteArray).size=s.length:=rfl
 rcases Lib.lastIndexByte_spec ⟨⟨s⟩⟩ 46 with ⟨h1,h2⟩|⟨i,hi,h1,h2,h3⟩
 ·refine .inl ⟨h1,fun h=>?_⟩;obtain ⟨l1,l2,e⟩:=List.append_of_mem h
  have hs:=hmem l1 l2 e
  have hlt:(runesB l1).length<s.length:=by rw [hs]; simp
  have:=h2 (runesB l1).length (by rw [hsz]; exact hlt)
  rw [hget _ hlt] at this;apply this
  have:s[(runesB l1).length]=46:=by simp [hs]
  rw [this]; rfl
 rw [hsz] at hi;rw [hget i hi] at h2
 have hi46:s[i]? = some 46:=by
  rw [List.getElem?_eq_getElem hi]
  congr 1
  apply UInt8.toNat_inj.1
  have e46:(46:UInt8).toNat=46:=rfl
  omega
 rw [← hb] at hi46;obtain ⟨l1,l2,e,hlen⟩:=byte_dot l hch i hi46
 have hs:=hmem l1 l2 e
 refine .inr ⟨l1,l2,e,fun h=>?_,by rw [lastDot,h1,hlen],hs⟩;obtain ⟨l3,l4,e2⟩:=List.append_of_mem h
 have hs2:=hmem (l1++46::l3) l4 (by rw [e,e2]; simp)
 have hlt:(runesB (l1++46::l3)).length<s.length:=by rw [hs2]; simp
 have hgt:i<(runesB (l1++46::l3)).length:=by
  rw [runesB_append,List.length_append,hlen]
  have:runesB (46::l3)=(Utf8.encode 46).data.toList++runesB l3:=by simp [runesB]
  rw [this,enc46]; simp
 have:=h3 _ hgt (by rw [hsz]; exact hlt)
 rw [hget _ hlt] at this;apply this
 have:s[(runesB (l1++46::l3)).length]=46:=by
  have:s[(runesB (l1++46::l3)).length]? = some 46:=by rw [hs2]; simp
  rw [List.getElem?_eq_getElem hlt] at this;exact Option.some.inj this
 rw [this]; rfl
def dotI:List Int→Int
 | []=>-1
 | x::r=>if 0≤dotI r then dotI r+1 else if x=46 then 0 else -1
theorem dotI_none:∀ {l:List Int},(46:Int)∉l→dotI l=-1
 | [],_=>rfl
 | x::r,h=>by
  have ih:=dotI_none (l:=r) fun h'=>h (List.mem_cons_of_mem _ h')
  simp only [dotI]
  rw [ih,if_neg (by omega),if_neg (fun e=>h (by rw [e]; exact List.mem_cons_self))]
theorem dotI_some:∀ (l1:List Int) {l2:List Int},(46:Int)∉l2→dotI (l1++46::l2)=l1.length
 | [],l2,h=>by simp [dotI,dotI_none h]
 | x::l1,l2,h=>by
  have ih:=dotI_some l1 h
  simp only [List.cons_append,dotI,ih,List.length_cons]
  rw [if_pos (by omega)]; omega
def partsC (v:Int) (l:List Int) (dir:Bool):List Int×List Int :=
 if dir=false∧0<dotI l∧dotI l<(l.length:Int)-1∧(v=0∨(l.length:Int)-1-dotI l≤16) then (l.take (dotI l).toNat,l.drop (dotI l+1).toNat)
 else if dir=false∧v=0∧0<dotI l∧dotI l=(l.length:Int)-1 then (l.take (dotI l).toNat,[]) else (l,[])
theorem runesB_nil {l:List Int}:runesB l=[]↔l=[]:=by
 cases l with
 | nil=>simp [runesB]
 | cons r l =>
  have:runesB (r::l)=(Utf8.encode r).data.toList++runesB l:=by simp [runesB]
  rw [this];simp only [List.append_eq_nil_iff,reduceCtorEq,iff_false]
  exact fun h=>enc_ne r h.1
theorem suffix_dot (a:List UInt8):Lib.trimSuffix (a++[46]) [46]=a:=by
 simp [Lib.trimSuffix,Lib.hasSuffix]
theorem no_suffix {s:List UInt8} (h:∀ a,s≠a++[46]):Lib.trimSuffix s [46]=s:=by
 unfold Lib.trimSuffix
 rw [if_neg];intro hs
 have:([46]:List UInt8) <:+ s:=by
  simp only [Lib.hasSuffix] at hs;exact List.isSuffixOf_iff_suffix.1 hs
 obtain ⟨a,ha⟩:=this;exact h a ha.symm
theorem cut_chars (v:Int) {s:List UInt8} {l:List Int} (hc:charsP s=some l) (dir:Bool) :
  runesI (cutS v s dir).1=(partsC v l dir).1∧runesI (cutS v s dir).2=(partsC v l dir).2∧((cutS v s dir).2=[]↔(partsC v l dir).2=[]):=by
 have hr:=runes_chars hc
 have h0:runesI []=[]:=rfl
 obtain ⟨hb,hch⟩:=chars_bytes s.length s l (Nat.le_refl _) hc
 cases dir with
 | true =>
  simp only [cutS,partsC,if_true,Bool.true_eq_false,false_and,if_false,hr,h0,and_self,iff_self]
 | false =>
  rcases dot_split hc with ⟨h1,h2⟩|⟨l1,l2,e,h2,h3,h4⟩
  ·have hd:=dotI_none h2
   have hcb:cutB v s=false:=by simp [cutB,h1]
   have ht:Lib.trimSuffix s [46]=s:=no_suffix fun a ha=>by
    have:(runesB l)[a.length]? = some 46:=by rw [hb,ha]; simp
    obtain ⟨l1,l2,e,_⟩:=byte_dot l hch _ this
    exact h2 (by rw [e]; simp)
   have hp:partsC v l false=(l,[]):=by simp [partsC,hd]
   rw [hp];simp only [cutS,Bool.false_eq_true,if_false,hcb,ht]
   split<;>simp [hr,h0]
  have hd:=dotI_some l1 h2
  rw [← e] at hd
  have hc1:∀ r∈l1,isChar r=true:=fun r hr=>hch r (by rw [e]; simp [hr])
  have hc2:∀ r∈l2,isChar r=true:=fun r hr=>hch r (by rw [e]; simp [hr])
  have hr1:runesI (runesB l1)=l1:=runes_chars (charsP_of l1 hc1)
  have hr2:runesI (runesB l2)=l2:=runes_chars (charsP_of l2 hc2)
  have hll:l.length=l1.length+1+l2.length:=by rw [e]; simp; omega
  have hsl:s.length=(runesB l1).length+1+(runesB l2).length:=by rw [h4]; simp; omega
  have p1:0<(runesB l1).length↔0<l1.length:=by
   rw [List.length_pos_iff,List.length_pos_iff]; exact not_congr runesB_nil
  have p2:0<(runesB l2).length↔0<l2.length:=by
   rw [List.length_pos_iff,List.length_pos_iff]; exact not_congr runesB_nil
  have htk:s.take (lastDot s).toNat=runesB l1:=by rw [h3,h4]; simp
  have hdr:s.drop (lastDot s+1).toNat=runesB l2:=by
   have:(lastDot s+1).toNat=(runesB l1).length+1:=by omega
   rw [this,h4]
   simp
  have ltk:l.take (dotI l).toNat=l1:=by rw [hd,e]; simp
  have ldr:l.drop (dotI l+1).toNat=l2:=by
   have:(dotI l+1).toNat=l1.length+1:=by omega
   rw [this,e]; simp
  have hcb:cutB v s=true↔(0<l1.length∧0<l2.length∧(v=0∨(l2.length:Int)≤16)):=by
   simp only [cutB,hdr,hr2,Bool.and_eq_true,decide_eq_true_eq,Bool.or_eq_true,beq_iff_eq]
   constructor
   ·rintro ⟨⟨a,b⟩,c⟩; exact ⟨p1.1 (by omega),p2.1 (by omega),c⟩
   rintro ⟨a,b,c⟩; have:=p1.2 a; have:=p2.2 b; exact ⟨⟨by omega,by omega⟩,c⟩
  by_cases h5:0<l1.length∧0<l2.length∧(v=0∨(l2.length:Int)≤16)
  ·have hP:partsC v l false=(l1,l2):=by
    rw [partsC,if_pos ⟨rfl,by omega,by omega,by rcases h5.2.2 with h|h; exact .inl h; exact .inr (by omega)⟩,ltk,ldr]
   have hC:cutS v s false=(runesB l1,runesB l2):=by
    rw [cutS,if_neg (by simp),if_pos (hcb.2 h5),htk,hdr]
   rw [hP,hC];exact ⟨hr1,hr2,runesB_nil⟩
  have hcb':¬ cutB v s=true:=fun h=>h5 (hcb.1 h)
  have hP0:¬ (false=false∧0<dotI l∧dotI l<(l.length:Int)-1∧(v=0∨(l.length:Int)-1-dotI l≤16)):=by
   rintro ⟨_,a,b,c⟩
   exact h5 ⟨by omega,by omega,by rcases c with c|c; exact .inl c; exact .inr (by omega)⟩
  by_cases h6:v=0∧0<l1.length∧l2=[]
  ·obtain ⟨hv,hl1,rfl⟩:=h6
   have hP:partsC v l false=(l1,[]):=by
    rw [partsC,if_neg hP0,if_pos ⟨rfl,hv,by omega,by simp at hll; omega⟩,ltk]
   have hC:cutS v s false=(runesB l1,[]):=by
    have:=p1.2 hl1
    rw [cutS,if_neg (by simp),if_neg hcb',if_pos ⟨hv,by omega⟩]
    have:s=runesB l1++[46]:=by rw [h4]; rfl
    rw [this,suffix_dot]
   rw [hP,hC];exact ⟨hr1,h0,by simp⟩
  have hP:partsC v l false=(l,[]):=by
   rw [partsC,if_neg hP0,if_neg];rintro ⟨_,a,b,c⟩;exact h6 ⟨a,by omega,List.eq_nil_of_length_eq_zero (by omega)⟩
  have hC:cutS v s false=(s,[]):=by
   rw [cutS,if_neg (by simp),if_neg hcb']
   split
   ·rename_i h7
    have:Lib.trimSuffix s [46]=s:=no_suffix fun a ha=>by
     by_cases hl2:l2=[]
     ·subst hl2
      have hl1:¬ 0<l1.length:=fun h=>h6 ⟨h7.1,h,rfl⟩
      have:l1=[]:=List.eq_nil_of_length_eq_zero (by omega)
      subst this
      simp [runesB] at hsl
      omega
     have h8:0<(runesB l2).length:=p2.2 (List.length_pos_iff.2 hl2)
     have:(runesB l2)[(runesB l2).length-1]? = some 46:=by
      have h9:s[s.length-1]? = some 46:=by rw [ha]; simp
      rw [h4] at h9;simp only [List.length_append,List.length_cons] at h9;rw [List.getElem?_append_right (by omega)] at h9
      have:(runesB l1).length+((runesB l2).length+1)-1-(runesB l1).length=(runesB l2).length-1+1:=by omega
      rw [this] at h9
      simpa using h9
     obtain ⟨l3,l4,e3,_⟩:=byte_dot l2 hc2 _ this
     exact h2 (by rw [e3]; simp)
    rw [this]
   rfl
  rw [hP,hC];exact ⟨hr,h0,by simp⟩
def mapC (v:Int) (r:Int):Int:=if v=0 then isoC r else jolC r
def mostC (v:Int):Nat:=if v=0 then 3 else 64
def wantS (v:Int) (s:List UInt8) (dir:Bool):List Int×List Int :=
 ((runesI (cutS v s dir).1).map (mapC v),if (cutS v s dir).2=[] then [] else 46::((runesI (cutS v s dir).2).map (mapC v)).take (mostC v))
theorem mapC_ok (v r:Int) (h:isChar r=true):DFun Tryz.prog W0 (bif v==0 then 299 else 298) [.int .i32 r] (.int .i32 (mapC v r)):=by
 obtain ⟨h1,h2,h3⟩:=(isChar_iff r).1 h
 cases hv:(v==0) with
 | true =>
  have:v=0:=by simpa using hv
  rw [mapC,if_pos this]; exact F140 r (by omega) (by omega)
 | false =>
  have:¬ v=0:=by simpa using hv
  rw [mapC,if_neg this]; exact F139 r h
theorem parts_char {v:Int} {l:List Int} {dir:Bool} (h:∀ r∈l,isChar r=true):(∀ r∈(partsC v l dir).1,isChar r=true)∧∀ r∈(partsC v l dir).2,isChar r=true:=by
 unfold partsC
 split
 ·exact ⟨fun r hr=>h r (List.mem_of_mem_take hr),fun r hr=>h r (List.mem_of_mem_drop hr)⟩
 split
 ·exact ⟨fun r hr=>h r (List.mem_of_mem_take hr),fun r hr=>by cases hr⟩
 exact ⟨h,fun r hr=>by cases hr⟩
theorem trim_len (s p:List UInt8):(Lib.trimSuffix s p).length≤s.length:=by
 unfold Lib.trimSuffix; split<;>simp
theorem cutS_len (v:Int) (s:List UInt8) (dir:Bool):(cutS v s dir).1.length≤s.length∧(cutS v s dir).2.length≤s.length:=by
 unfold cutS
 split
 ·simp
 split
 ·simp; omega
 split
 ·have:=trim_len s [46]; simp; omega
 simp
def wantD (st ex:List Int):D:=.agg [.sl .none 1 (ints32 st),.sl .none 1 (ints32 ex)]
theorem F125 (v:Int) (s:List UInt8) (l:List Int) (dir:Bool) (hs:s.length<1000000) (hc:charsP s=some l):DFun Tryz.prog W0 255 [Iv v,.str s,.bool dir] (wantD (wantS v s dir).1 (wantS v s dir).2):=by
 have hch:=(chars_bytes s.length s l (Nat.le_refl _) hc).2
 obtain ⟨q1,q2,q3⟩:=cut_chars v hc dir
 have hpc:=parts_char (v:=v) (dir:=dir) hch
 have hcl:=cutS_len v s dir
 refine Fi Tryz.func255 rfl Tryz.ntmps255 fun Γ=>?_
 apply Sr;(conv=>whnf);intro b6;apply Sr;(conv=>whnf);refine Tri.joinK (α:=Unit) (fun x=>[(0,Iv v),(1,.str s),(2,.bool dir),(6,.box 6 b6 0),(7,.fn (.func (bif v==0 then 299 else 298)) [] []),(8,Iv (bif v==0 then 3 else 64))]) (fun x=>[(6,.box b6 [.nils,.nils])]) ?_ ?_
 ·apply Sr;refine Cd _ rfl (fun hc=>?_) (fun hc=>?_)
  ·apply Rg;(conv=>whnf);exact ⟨(),[(6,6)],⟨.refl _,.refl _,.refl _,.refl _,DLe.of_eq (congrArg (fun z=>D.fn (.func (bif z then 299 else 298)) [] []) hc.symm),DLe.of_eq (congrArg (fun z=>Iv (bif z then 3 else 64)) hc.symm),trivial⟩,rfl,Y⟩
  apply Sk;(conv=>whnf);exact ⟨(),[(6,6)],⟨.refl _,.refl _,.refl _,.refl _,DLe.of_eq (congrArg (fun z=>D.fn (.func (bif z then 299 else 298)) [] []) hc.symm),DLe.of_eq (congrArg (fun z=>Iv (bif z then 3 else 64)) hc.symm),trivial⟩,rfl,Y⟩
 rintro ⟨⟩;apply Sr;(conv=>whnf);refine ⟨[Iv v,.str s,.bool dir],_,fun _=>F141 v s dir (by omega),Z,?_⟩;apply Sr;(conv=>whnf)
 refine ⟨[.str (cutS v s dir).1,.fn (.func (bif v==0 then 299 else 298)) [] []],_,fun _=>F142 (cutS v s dir).1 _ (mapC v) (by omega) (fun r hr=>mapC_ok v r (hpc.1 r (by rw [← q1]; exact hr))),Z,?_⟩
 (conv=>whnf);intro b11;apply Rl;apply Sq;apply Sr;refine Cd _ rfl (fun hc=>?_) (fun hc=>?_)
 ·apply Sr;(conv=>whnf)
  refine ⟨[.str (cutS v s dir).2,.fn (.func (bif v==0 then 299 else 298)) [] []],_,fun _=>F142 (cutS v s dir).2 _ (mapC v) (by omega) (fun r hr=>mapC_ok v r (hpc.2 r (by rw [← q2]; exact hr))),Z,?_⟩
  conv=>whnf
  have hrl:=runesI_len (cutS v s dir).2
  generalize hX:(runesI (cutS v s dir).2).map (mapC v)=X
  have hXl:X.length≤1000000:=by rw [← hX]; simp; omega
  have hm0:(0:Int)≤(bif v==0 then 3 else 64):=by cases (v==0)<;>simp
  apply Rg;(conv=>whnf);refine ⟨trivial,?_⟩;(conv=>whnf)
  have hmin:(0:Int)≤(if (bif v==0 then (3:Int) else 64)<((ints32 X).length:Int) then (bif v==0 then (3:Int) else 64) else ((ints32 X).length:Int))∧(if (bif v==0 then (3:Int) else 64)<((ints32 X).length:Int) then (bif v==0 then (3:Int) else 64) else ((ints32 X).length:Int))≤((ints32 X).length:Int):=by split<;>omega
  have hmint:(X.take (mostC v))=X.take (if (bif v==0 then (3:Int) else 64)<((ints32 X).length:Int) then (bif v==0 then (3:Int) else 64) else ((ints32 X).length:Int)).toNat:=by
   have e:((bif v==0 then (3:Int) else 64)).toNat=mostC v:=by
    unfold mostC
    cases hv:(v==0) with
    | true=>rw [if_pos (by simpa using hv)]; rfl
    | false=>rw [if_neg (by simpa using hv)]; rfl
   split
   ·rw [e]
   rename_i hlt
   have:X.length≤mostC v:=by rw [← e]; simp [ints32] at hlt; omega
   rw [List.take_of_length_le this,List.take_of_length_le (by simp [ints32])]
  refine ⟨fun _=>⟨Int.le_refl _,hmin.1,hmin.2⟩,?_⟩;(conv=>whnf)
  refine ⟨by show (_+_)*4≤_; simp [ints32]; omega,by show _+_≤_; simp [ints32]; omega,(fun h=>by cases h),fun w=>?_⟩
  apply Rl;apply Sr;apply Rl;apply Rl;apply Rt;apply Rl;(conv=>whnf)
  have hne:¬ (cutS v s dir).2=[]:=by simpa using hc
  refine DLe.agg ?_;refine ⟨.refl _,⟨fun w' C' u h=>?_⟩,trivial⟩
  have h2:=(DLe.unown (t:=.own 38 w)).le w' C' u h
  have e:([D.int .i32 46]++(List.drop (Int.toNat 0) ((ints32 X).take (if (bif v==0 then (3:Int) else 64)<((ints32 X).length:Int) then (bif v==0 then (3:Int) else 64) else ((ints32 X).length:Int)).toNat)))=ints32 (wantS v s dir).2:=by
   simp only [wantS];rw [if_neg hne,hX,hmint]
   simp [ints32]
  rw [← e];exact h2
 apply Sk;apply Sr;apply Rl;apply Rl;apply Rt;apply Rl;(conv=>whnf)
 have hne:(cutS v s dir).2=[]:=by simpa using hc
 have e:(wantS v s dir).2=[]:=by simp only [wantS]; rw [if_pos hne]
 refine DLe.agg ?_;refine ⟨.refl _,?_,trivial⟩
 rw [e]; exact DLe.nil
theorem digs_len:∀ k,k<100→(Lib.decDigits k).length≤2:=by
 intro k hk;rw [Lib.decDigits]
 split
 ·simp
 rw [Lib.decDigits,dif_pos (by omega)]; simp
def sufI (k:Nat):List Int:=if 0<k then runesI (Lib.decDigits k) else []
theorem sufI_len {k:Nat} (hk:k<100):(sufI k).length≤2:=by
 unfold sufI; split
 ·have:=runesI_len (Lib.decDigits k); have:=digs_len k hk; omega
 simp
def roomI (v:Int) (ex:List Int) (k:Nat):Int:=bif v==1 then 64-(ex.length:Int)-((sufI k).length:Int) else 8-((sufI k).length:Int)
def stemN (v:Int) (st ex:List Int) (k:Nat):Nat:=(if (if roomI v ex k<(st.length:Int) then roomI v ex k else (st.length:Int))>0 then (if roomI v ex k<(st.length:Int) then roomI v ex k else (st.length:Int)) else 0).toNat
def numS (v:Int) (st ex:List Int) (k:Nat):List UInt8:=runesB (st.take (stemN v st ex k)++sufI k++ex)
theorem F126 (v:Int) (st ex:List Int) (k:Nat) (hk:k<100) (hst:st.length<1000000) (hex:ex.length<1000000):DFun Tryz.prog W0 256 [wantD st ex,Iv v,Iv (k:Nat)] (.str (numS v st ex k)):=by
 have hsl:=sufI_len hk
 refine Fi Tryz.func256 rfl Tryz.ntmps256 fun Γ=>?_
 apply Sr;(conv=>whnf);intro b3;apply Sr;(conv=>whnf);refine ⟨trivial,?_⟩;(conv=>whnf);refine Tri.joinK (α:=Unit) (fun x=>[(1,Iv v),(3,.box 3 b3 0),(7,.sl .none 1 (ints32 (sufI k)))]) (fun x=>[(3,.box b3 [.sl .none 1 (ints32 st),.sl .none 1 (ints32 ex)])]) ?_ ?_
 ·apply Sr;refine Cd _ rfl (fun hc=>?_) (fun hc=>?_)
  ·apply Rg;(conv=>whnf);refine ⟨[Iv (k:Nat)],_,fun _=>F143 k hk,Z,?_⟩;(conv=>whnf)
   refine ⟨by have:=digs_len k hk; omega,?_⟩
   conv=>whnf
   have h0:0<k:=by simpa using hc
   exact ⟨(),[(3,3)],⟨.refl _,.refl _,DLe.of_eq (congrArg (D.sl .none 1) (by rw [sufI,if_pos h0]; rfl)),trivial⟩,rfl,Y⟩
  apply Sk;(conv=>whnf)
  have h0:¬ 0<k:=by simpa using hc
  exact ⟨(),[(3,3)],⟨.refl _,.refl _,⟨fun w C u h=>by rw [sufI,if_neg h0]; exact h.untag⟩,trivial⟩,rfl,Y⟩
 rintro ⟨⟩;generalize hSk:sufI k=S at *;apply Sr;(conv=>whnf)
 refine .inl ⟨fun _=>by simp only [InR,ints32,List.length_map]; omega,?_⟩
 (conv=>whnf);refine Tri.joinK (α:=Unit) (fun x=>[(1,Iv v),(3,.box 3 b3 0),(7,.sl .none 1 (ints32 S)),(8,Iv (roomI v ex k))]) (fun x=>[(3,.box b3 [.sl .none 1 (ints32 st),.sl .none 1 (ints32 ex)])]) ?_ ?_
 ·apply Sr;refine Cd _ rfl (fun hc=>?_) (fun hc=>?_)
  ·apply Rg;apply Rl;(conv=>whnf)
   refine .inl ⟨fun _=>by simp only [InR,ints32,List.length_map]; omega,?_⟩
   conv=>whnf
   refine .inl ⟨fun _=>by simp only [InR,ints32,List.length_map]; omega,?_⟩
   conv=>whnf
   exact ⟨(),[(3,3)],⟨.refl _,.refl _,.refl _,DLe.of_eq (congrArg (D.int .i64) (by rw [roomI,hc,hSk]; simp [ints32])),trivial⟩,rfl,Y⟩
  apply Sk;(conv=>whnf)
  exact ⟨(),[(3,3)],⟨.refl _,.refl _,.refl _,DLe.of_eq (congrArg (D.int .i64) (by rw [roomI,hc,hSk]; simp [ints32])),trivial⟩,rfl,Y⟩
 rintro ⟨⟩;apply Sq;refine Tri.regionX ti_ok ?_;(conv=>whnf);refine ⟨trivial,?_⟩;apply Il;apply Rl;apply Il;apply Rl;(conv=>whnf)
 have hle:(if roomI v ex k<((ints32 st).length:Int) then roomI v ex k else ((ints32 st).length:Int))≤((ints32 st).length:Int):=by split<;>omega
 generalize hM:(if roomI v ex k<((ints32 st).length:Int) then roomI v ex k else ((ints32 st).length:Int))=M at *;apply Il;(conv=>whnf)
 refine ⟨fun _=>⟨Int.le_refl _,by split<;>omega,by split<;>omega⟩,?_⟩
 apply Il;(conv=>whnf)
 refine ⟨by show (_+_)*4≤_; simp [ints32]; omega,by show _+_≤_; simp [ints32]; omega,(fun h=>by cases h),fun v9=>?_⟩
 conv=>whnf
 have hA:([]++List.drop (Int.toNat 0) ((ints32 st).take (if M>0 then M else 0).toNat))=ints32 (st.take (stemN v st ex k)):=by
  have e:stemN v st ex k=(if M>0 then M else 0).toNat:=by
   rw [← hM]; simp only [stemN,ints32,List.length_map]
  rw [e]; simp [ints32]
 rw [List.map_nil,hA]
 have hAl:(st.take (stemN v st ex k)).length≤1000000:=by simp; omega
 generalize hAA:st.take (stemN v st ex k)=A at *;generalize hvv:v9=v' at *;apply Sq
 have hself:∀ (x:Value×Value) (b2 b5:Bool) (σ:DSt),σ.H=look ((3,.box b3 [.sl .none 1 (ints32 st),.sl .none 1 (ints32 ex)])::(bif b2 then (bif b5 then [(44,.own x.2 (A++S++ex).length 1 21)] else [(41,.own x.1 (A++S).length 1 21)]) else [(38,.own v' A.length 1 21)])) →
   SubH σ ((3,.box b3 [.sl .none 1 (ints32 st),.sl .none 1 (ints32 ex)])::(bif b2 then (bif b5 then [(44,.own x.2 (A++S++ex).length 1 21)] else [(41,.own x.1 (A++S).length 1 21)]) else [(38,.own v' A.length 1 21)])):=by
  intro x b2 b5 σ h
  cases b2<;>cases b5<;>exact ⟨by rw [h]; rfl,by rw [h]; rfl,trivial⟩
 have hown:∀ (x:Value×Value) (b2 b5:Bool),b2=true→b5=false→∀ σ:DSt,σ.H 3=some (.box b3 [.sl .none 1 (ints32 st),.sl .none 1 (ints32 ex)])→σ.H 41=some (.own x.1 (A++S).length 1 21) →
   SubH σ ((3,.box b3 [.sl .none 1 (ints32 st),.sl .none 1 (ints32 ex)])::(bif b2 then (bif b5 then [(44,.own x.2 (A++S++ex).length 1 21)] else [(41,.own x.1 (A++S).length 1 21)]) else [(38,.own v' A.length 1 21)])):=by
  intro x b2 b5 h2 h5 σ g1 g2;subst h2 h5;exact ⟨g1,g2,trivial⟩
 refine Tri.bitsI ti_ok mixed (α:=Value×Value) (fun x f=>[(3,.box 3 b3 0),(7,.sl .none 1 (ints32 S)),(9,.sl (.own 38 v') 1 (ints32 A)),(39,bif f 0 then .sl (.own 38 v') 1 (ints32 A) else .any),(40,bif f 1 then .sl .none 1 (ints32 S) else .any),(41,bif f 2 then .sl (.own 41 x.1) 1 (ints32 (A++S)) else .any),(42,bif f 3 then .box 3 b3 1 else .any),(43,bif f 4 then .sl .none 1 (ints32 ex) else .any),(44,bif f 5 then .sl (.own 44 x.2) 1 (ints32 (A++S++ex)) else .any),(45,bif f 6 then .str (runesB (A++S++ex)) else .any),(6,bif f 7 then .str (runesB (A++S++ex)) else .any)])
  (fun x f=>(3,.box b3 [.sl .none 1 (ints32 st),.sl .none 1 (ints32 ex)])::(bif f 2 then (bif f 5 then [(44,.own x.2 (A++S++ex).length 1 21)] else [(41,.own x.1 (A++S).length 1 21)]) else [(38,.own v' A.length 1 21)])) (by decide +kernel) (v',v') ?_ ?_ ?_ ?_
 ·exact ⟨.refl _,.refl _,.refl _,.any _,.any _,.any _,.any _,.any _,.any _,.any _,.any _,trivial⟩
 ·exact ⟨rfl,congrArg (fun z=>some (HObj.own v' z 1 21)) (by have:=congrArg List.length hA; simpa [ints32] using this),trivial⟩
 ·(conv=>whnf);refine ⟨fun x f hI=>?_,?_⟩
  ·(conv=>whnf);refine ⟨x,Z,hself x _ _ _ rfl⟩
  refine ⟨fun x f hI=>?_,?_⟩
  ·(conv=>whnf);refine ⟨x,Z,hself x _ _ _ rfl⟩
  refine ⟨fun x f hI=>?_,?_⟩
  ·(conv=>whnf);apply Il;(conv=>whnf);refine ⟨rfl,by simp [ints32],?_⟩;(conv=>whnf)
   refine ⟨by show (_+_)*4≤_; simp [ints32]; omega,by show _+_≤_; simp [ints32]; omega,(fun h=>by cases h),fun w=>?_⟩
   refine ⟨(w,x.2),⟨.refl _,.refl _,.refl _,.refl _,.refl _,DLe.of_eq (congrArg (D.sl _ 1) (by simp [ints32])),.refl _,.refl _,.refl _,.refl _,.refl _,trivial⟩,?_⟩;exact hown (w,x.2) _ _ rfl (hI.n 5 2) _ rfl (congrArg (fun z=>some (HObj.own w z 1 21)) (by simp [ints32]))
  refine ⟨fun x f hI=>?_,?_⟩
  ·(conv=>whnf);refine ⟨x,Z,hself x _ _ _ rfl⟩
  refine ⟨fun x f hI=>?_,?_⟩
  ·(conv=>whnf);apply Il;apply Rl;(conv=>whnf);refine ⟨x,Z,hself x _ _ _ rfl⟩
  refine ⟨fun x f hI=>?_,?_⟩
  ·(conv=>whnf);apply Il;(conv=>whnf);refine ⟨rfl,by simp [ints32],?_⟩;(conv=>whnf)
   refine ⟨by show (_+_)*4≤_; simp [ints32]; omega,by show _+_≤_; simp [ints32]; omega,(fun h=>by cases h),fun w=>?_⟩
   refine ⟨(x.1,w),⟨.refl _,.refl _,.refl _,.refl _,.refl _,.refl _,.refl _,.refl _,DLe.of_eq (congrArg (D.sl _ 1) (by simp [ints32])),.refl _,.refl _,trivial⟩,?_⟩;exact ⟨rfl,congrArg (fun z=>some (HObj.own w z 1 21)) (by simp [ints32,Nat.add_assoc]),trivial⟩
  refine ⟨fun x f hI=>?_,?_⟩
  ·(conv=>whnf);apply Il;(conv=>whnf);refine ⟨A++S++ex,rfl,?_⟩;(conv=>whnf);refine ⟨x,Z,hself x _ _ _ rfl⟩
  refine ⟨fun x f hI=>?_,?_⟩
  ·(conv=>whnf);refine ⟨x,Z,hself x _ _ _ rfl⟩
  exact trivial
 intro x f hf
 have e7:=hf 7 (by decide +kernel)
 apply Rt;(conv=>whnf);rw [e7];exact DLe.of_eq (congrArg D.str (by rw [numS,hSk,hAA]))
theorem dig2 {k:Nat} (h1:10≤k) (h2:k<100):Lib.decDigits k=[UInt8.ofNat (48+k/10),UInt8.ofNat (48+k%10)]:=by
 rw [Lib.decDigits,dif_neg (by omega),Lib.decDigits,dif_pos (by omega)]
 rfl
theorem charsP_ascii:∀ (s:List UInt8),(∀ b∈s,32≤b.toNat∧b.toNat<127)→charsP s=some (s.map fun b=>(b.toNat:Int))
 | [],_=>rfl
 | b::s,h=>by
  have hb:=h b List.mem_cons_self
  have ih:=charsP_ascii s fun x hx=>h x (List.mem_cons_of_mem _ hx)
  have:=charsP_of ((b::s).map fun b=>(b.toNat:Int)) (by
   intro r hr;obtain ⟨c,hc,rfl⟩:=List.mem_map.1 hr
   have:=h c hc
   exact (isChar_iff _).2 ⟨by omega,by omega,by omega⟩)
  have e:∀ l:List UInt8,(∀ b∈l,32≤b.toNat∧b.toNat<127)→runesB (l.map fun b=>(b.toNat:Int))=l:=by
   intro l
   induction l with
   | nil=>intro _; rfl
   | cons c l ih =>
    intro hl
    have e:runesB ((c::l).map fun b=>(b.toNat:Int))=(Utf8.encode (c.toNat:Int)).data.toList++runesB (l.map fun b=>(b.toNat:Int)):=by simp [runesB]
    rw [e,ih fun x hx=>hl x (List.mem_cons_of_mem _ hx)]
    have hc:=hl c List.mem_cons_self
    have e1:(Utf8.encode (c.toNat:Int)).data.toList=[UInt8.ofNat c.toNat]:=by
     unfold Utf8.encode
     simp only [show Utf8.valid (c.toNat:Int)=true by simp [Utf8.valid]; omega,if_true,Int.toNat_natCast]; rw [if_pos (by omega)]
    rw [e1]; simp
  rw [e (b::s) h] at this;exact this
theorem dig2_rng {k:Nat} (h1:10≤k) (h2:k<100):∀ b∈Lib.decDigits k,32≤b.toNat∧b.toNat<127:=by
 rw [dig2 h1 h2]
 have hU:∀ x:Nat,x<256→(UInt8.ofNat x).toNat=x:=fun x hx=>by rw [UInt8.toNat_ofNat']; omega
 intro b hb;simp only [List.mem_cons,List.not_mem_nil,or_false] at hb
 rcases hb with rfl|rfl
 ·rw [hU _ (by omega)]; omega
 rw [hU _ (by omega)]; omega
theorem suf2 {k:Nat} (h1:10≤k) (h2:k<100):sufI k=[48+((k/10:Nat):Int),48+((k%10:Nat):Int)]:=by
 have hU:∀ x:Nat,x<256→(UInt8.ofNat x).toNat=x:=fun x hx=>by rw [UInt8.toNat_ofNat']; omega
 rw [sufI,if_pos (by omega),runes_chars (charsP_ascii _ (dig2_rng h1 h2)),dig2 h1 h2];simp only [List.map_cons,List.map_nil];rw [hU _ (by omega),hU _ (by omega)]
 rfl
theorem suf2_char {k:Nat} (h1:10≤k) (h2:k<100):∀ r∈sufI k,isChar r=true:=by
 rw [suf2 h1 h2];intro r hr;simp only [List.mem_cons,List.not_mem_nil,or_false] at hr
 rcases hr with rfl|rfl<;>exact (isChar_iff _).2 ⟨by omega,by omega,by omega⟩
theorem runesB_inj {a b:List Int} (ha:∀ r∈a,isChar r=true) (hb:∀ r∈b,isChar r=true) (h:runesB a=runesB b):a=b:=by
 have h1:=charsP_of a ha
 rw [h,charsP_of b hb] at h1;exact (Option.some.inj h1).symm
theorem num_inj (v:Int) (st ex:List Int) {j k:Nat} (hj1:10≤j) (hj2:j<100) (hk1:10≤k) (hk2:k<100) (h:numS v st ex j=numS v st ex k):j=k:=by
 have hs:stemN v st ex j=stemN v st ex k:=by simp only [stemN,roomI,suf2 hj1 hj2,suf2 hk1 hk2,List.length_cons,List.length_nil]
 simp only [numS,hs] at h;rw [runesB_append,runesB_append,runesB_append,runesB_append] at h
 have h:=List.append_cancel_left (List.append_cancel_right h)
 have:=runesB_inj (suf2_char hj1 hj2) (suf2_char hk1 hk2) h
 rw [suf2 hj1 hj2,suf2 hk1 hk2] at this;simp only [List.cons.injEq,and_true] at this
 omega
def freshK (v:Int) (used:List (List UInt8)) (st ex:List Int):Nat:=((List.range 100).find? fun k=>decide (numS v st ex k∉used)).getD 0
theorem fresh_ok (v:Int) (used:List (List UInt8)) (st ex:List Int) (hu:used.length≤64) :
  freshK v used st ex<100∧numS v st ex (freshK v used st ex)∉used∧∀ j,j<freshK v used st ex→numS v st ex j∈used:=by
 unfold freshK
 cases h:(List.range 100).find? fun k=>decide (numS v st ex k∉used) with
 | none =>
  exfalso
  rw [List.find?_eq_none] at h
  have hn:(((List.range 90).map (fun i=>i+10)).map (numS v st ex)).Nodup:=by
   rw [List.nodup_iff_pairwise_ne,List.pairwise_map,List.pairwise_map];refine List.Pairwise.imp_of_mem (R:=(·≠·)) ?_ (List.nodup_iff_pairwise_ne.1 List.nodup_range);intro a b ha hb hab he;simp only [List.mem_range] at ha hb
   have:=num_inj v st ex (by omega) (by omega) (by omega) (by omega) he
   omega
  have hsub:((List.range 90).map (fun i=>i+10)).map (numS v st ex) ⊆ used:=by
   intro x hx;obtain ⟨y,hy,rfl⟩:=List.mem_map.1 hx;obtain ⟨i,hi,rfl⟩:=List.mem_map.1 hy
   have:=h (i+10) (by simp at hi ⊢; omega)
   simpa using this
  have:=hn.length_le_of_subset hsub
  simp at this; omega
 | some k =>
  obtain ⟨h1,h2,h3⟩:=List.find?_range_eq_some.1 h;simp only [Option.getD_some];refine ⟨by simpa using h2,by simpa using h1,fun j hj=>by simpa using h3 j hj⟩
def pickN (v:Int) (u:List (List UInt8)) (k:NV):List UInt8 :=
 numS v (wantS v k.name (k.kind==0)).1 (wantS v k.name (k.kind==0)).2 (freshK v u (wantS v k.name (k.kind==0)).1 (wantS v k.name (k.kind==0)).2)
def usedOf (v:Int) (ks:List NV):List (List UInt8):=ks.foldl (fun u k=>pickN v u k::u) []
def namesA (v:Int) (ks:List NV):List (List UInt8):=(usedOf v ks).reverse
theorem usedOf_snoc (v:Int) (ks:List NV) (k:NV):usedOf v (ks++[k])=pickN v (usedOf v ks) k::usedOf v ks:=by simp [usedOf]
theorem snoc_rec {α:Type} {p:List α→Prop} (h0:p []) (h1:∀ l x,p l→p (l++[x])):∀ l,p l:=by
 intro l
 have:∀ r:List α,p r.reverse:=by
  intro r
  induction r with
  | nil=>exact h0
  | cons x r ih=>rw [List.reverse_cons]; exact h1 _ _ ih
 have:=this l.reverse
 rwa [List.reverse_reverse] at this
theorem usedOf_len (v:Int) (ks:List NV):(usedOf v ks).length=ks.length:=by
 refine snoc_rec (p:=fun ks=>(usedOf v ks).length=ks.length) rfl (fun l x ih=>?_) ks
 rw [usedOf_snoc]; simp [ih]
theorem pick_notin (v:Int) (u:List (List UInt8)) (k:NV) (hu:u.length≤64):pickN v u k∉u:=(fresh_ok v u _ _ hu).2.1
theorem usedOf_nodup (v:Int) (ks:List NV):ks.length≤64→(usedOf v ks).Nodup:=by
 refine snoc_rec (p:=fun ks=>ks.length≤64→(usedOf v ks).Nodup) (fun _=>List.nodup_nil) (fun l x ih hl=>?_) ks;simp only [List.length_append,List.length_cons,List.length_nil] at hl;rw [usedOf_snoc,List.nodup_cons]
 exact ⟨pick_notin v _ x (by rw [usedOf_len]; omega),ih (by omega)⟩
theorem enc_len (r:Int):(Utf8.encode r).data.toList.length≤4:=by
 unfold Utf8.encode
 dsimp only;generalize (if Utf8.valid r=true then r.toNat else Utf8.runeError)=c
 split
 ·simp
 split
 ·simp
 split<;>simp
theorem runesB_len:∀ l:List Int,(runesB l).length≤4*l.length
 | []=>by simp [runesB]
 | r::l=>by
  have e:runesB (r::l)=(Utf8.encode r).data.toList++runesB l:=by simp [runesB]
  have:=enc_len r; have:=runesB_len l
  rw [e,List.length_append,List.length_cons]; omega
theorem most_le (v:Int):mostC v≤64:=by unfold mostC; split<;>omega
theorem numS_len {v:Int} {st ex:List Int} {k:Nat} (hk:k<100) (hex:ex.length≤65):(numS v st ex k).length≤1100:=by
 have h1:=runesB_len (st.take (stemN v st ex k)++sufI k++ex)
 have h2:=sufI_len hk
 have h3:stemN v st ex k≤64:=by
  have hr:roomI v ex k≤64:=by unfold roomI; cases (v==1)<;>simp only [cond_true,cond_false]<;>omega
  unfold stemN
  generalize roomI v ex k=R at *
  split<;>split<;>omega
 have h4:(st.take (stemN v st ex k)).length≤64:=by simp; omega
 have h5:(st.take (stemN v st ex k)++sufI k++ex).length≤131:=by
  rw [List.length_append,List.length_append]; omega
 show (runesB _).length≤_
 omega
theorem want_len (v:Int) (s:List UInt8) (d:Bool):(wantS v s d).2.length≤65∧(wantS v s d).1.length≤s.length∧(wantS v s d).2.length≤s.length+1:=by
 have h:=cutS_len v s d
 have h1:=runesI_len (cutS v s d).1
 have h2:=runesI_len (cutS v s d).2
 have h3:=most_le v
 unfold wantS
 refine ⟨?_,by simp; omega,?_⟩
 ·dsimp only; split
  ·simp
  simp; omega
 dsimp only; split
 ·simp
 simp; omega
theorem pick_len (v:Int) (u:List (List UInt8)) (k:NV) (hu:u.length≤64):(pickN v u k).length≤1100 :=
 numS_len (fresh_ok v u _ _ hu).1 (want_len v _ _).1
theorem usedOf_short (v:Int) (ks:List NV):ks.length≤64→∀ m∈usedOf v ks,m.length≤1100:=by
 refine snoc_rec (p:=fun ks=>ks.length≤64→∀ m∈usedOf v ks,m.length≤1100) (fun _ m hm=>by cases hm) (fun l x ih hl=>?_) ks;simp only [List.length_append,List.length_cons,List.length_nil] at hl;rw [usedOf_snoc];intro m hm
 rcases List.mem_cons.1 hm with rfl|hm
 ·exact pick_len v _ x (by rw [usedOf_len]; omega)
 exact ih (by omega) m hm
theorem usedOf_take {v:Int} {ks:List NV} {t:Nat} (h:t<ks.length):usedOf v (ks.take (t+1))=pickN v (usedOf v (ks.take t)) ks[t]::usedOf v (ks.take t):=by
 rw [List.take_succ_eq_append_getElem h,usedOf_snoc]
theorem strs_setA {v:Int} {kids:List NV} {t:Nat} (h:t<kids.length) (z:D):(strs (usedOf v (kids.take t)).reverse++List.replicate (kids.length-t) z).set t (.str (pickN v (usedOf v (kids.take t)) kids[t]))=strs (usedOf v (kids.take (t+1))).reverse++List.replicate (kids.length-(t+1)) z:=by
 rw [usedOf_take h]
 have hl:(strs (usedOf v (kids.take t)).reverse).length=t:=by simp [strs,usedOf_len]; omega
 rw [List.set_append_right _ _ (by omega),hl,Nat.sub_self,show kids.length-t=(kids.length-(t+1))+1 by omega,List.replicate_succ]
 simp [strs]
theorem F105a (hL:LibOk W0) (v:Int) (hv:v=0∨v=1) (kids:List NV) (h64:kids.length≤64) (hok:∀ k∈kids,nameOk k.name=true∧k.name.length<1000000000) (hinc:inc kids):DFun Tryz.prog W0 182 [Iv v,.sl .none 12 (kids.map enc)] (.tup [.sl .none 1 (strs (namesA v kids)),Iv 0]):=by
 refine Fi Tryz.func182 rfl Tryz.ntmps182 fun Γ=>?_
 apply Sr;(conv=>whnf);intro bk;apply Sq;apply Sr;(conv=>whnf);refine ⟨[Iv v],_,fun _=>F91 v,Z,?_⟩;refine Cd _ rfl (fun hc=>?_) (fun hc=>?_)
 ·apply Sr;apply Rt;(conv=>whnf)
  exfalso
  have:viewOk v=true:=by rcases hv with rfl|rfl<;>rfl
  rw [this] at hc; cases hc
 apply Sk;apply Sq;apply Sr;apply Rl;refine Cd _ rfl (fun hc=>?_) (fun hc=>?_)
 ·apply Sr;apply Rt;(conv=>whnf)
  exfalso
  simp at hc; omega
 apply Sk;apply Sq;refine Tri.regionX ti_ok ?_;apply Il;apply Rl;(conv=>whnf)
 refine .inr (XOp.makeRow ti_ok (n:=kids.length) (k1:=.i64) (k2:=.i64) (z:=Iv 0) rfl rfl rfl rfl rfl ?_ ?_ (by show 8*_≤_; omega) (by omega) fun rv=>?_)
 ·show D.int _ _=_; simp
 ·show D.int _ _=_; simp
 apply Sq;apply Sr;apply Rl;apply Bk
 refine Tri.loopK (α:={ i:Nat // i≤kids.length }) (fun x=>[(0,Iv v),(3,.box 3 bk 0),(6,.raw rv),(25,.sl .none 12 (kids.map enc)),(26,Iv (kids.map enc).length),(27,Iv x.1)])
  (fun x=>[(24,.row rv (places x.1++List.replicate (kids.length-x.1) (Iv 0)) 1 3),(3,.box bk [.sl .none 12 (kids.map enc)])]) (fun x=>kids.length-x.1) ⟨0,by omega⟩ [(24,24),(3,3)]
  ⟨Z,rfl,Y⟩ ?_
 rintro ⟨i,hi⟩;dsimp only;apply Sr;apply Sq;refine Cd _ rfl (fun hc=>?_) (fun hc=>?_)
 ·apply Sk;(conv=>whnf)
  have hia:i<kids.length:=by simpa using hc
  have hpl:(places i).length=i:=by simp [places]
  apply Sq;apply Bk;apply Sr;(conv=>whnf);refine Sp ?_;(conv=>whnf);refine ⟨encTop kids[i],fun _=>get_kids hia,?_⟩;(conv=>whnf);intro b8;apply Rl;apply Sq;apply Sr;apply Rl;(conv=>whnf);refine ⟨[.str kids[i].name],_,fun _=>F100 hL _ (hok _ (List.getElem_mem hia)).2,Z,?_⟩;refine Cd _ rfl (fun hc=>?_) (fun hc=>?_)
  ·apply Sr;apply Rt;(conv=>whnf)
   exfalso
   rw [(hok _ (List.getElem_mem hia)).1] at hc; cases hc
  apply Sk;(conv=>whnf);refine Tri.regionX ti_ok ?_;(conv=>whnf)
  refine .inr (XOp.rowIndex ti_ok 24 rfl rfl rfl rfl rfl rfl rfl (by omega) (by simp [hpl]; omega) ?_)
  (conv=>whnf);(conv=>whnf)
  refine .inr (XOp.rowStore ti_ok 24 (i:=i) (by rw [Int.toNat_natCast]; rfl) rfl rfl rfl (by simp [hpl]; omega) rfl ?_)
  (conv=>whnf);apply Rg;refine Ir ?_;(conv=>whnf)
  exact ⟨⟨i+1,by omega⟩,[(24,24),(3,3)],by show _-(i+1)<_-i; omega,Z,rfl,rfl,congrArg (fun z=>some (HObj.row rv z 1 3)) (places_set hia _),rfl,Y⟩
 refine Tri.exit ?_;apply Sq
 have hin:i=kids.length:=by simp at hc; omega
 have hrow:places i++List.replicate (kids.length-i) (Iv 0)=places kids.length:=by subst hin; simp
 rw [hrow];refine Tri.regionX ti_ok ?_;(conv=>whnf);refine .inr (XOp.call rfl [.raw rv,.fn (.func 254) [] [.box 2000 bk 0]] [(2001,24),(2000,3)] (sort_places kids hinc (by omega) bk rv) rfl ⟨.refl _,DLe.fn trivial ⟨DLe.box,trivial⟩,trivial⟩ ?_);rintro d H' ⟨rfl,rfl⟩;refine ⟨_,.refl _,?_⟩;(conv=>whnf);refine Tri.forgetK [(6,.raw rv),(0,Iv v),(3,.box 3 bk 0)] [(24,.row rv (places kids.length) 1 3),(3,.box bk [.sl .none 12 (kids.map enc)])] [(24,24),(3,3)] ⟨Z,rfl,Y⟩ ?_;refine Tri.commitSt 24 6 rfl ?_;apply Sq;refine Tri.regionX ti_ok ?_;apply Il;apply Rl;(conv=>whnf)
 refine .inr (XOp.makeRow ti_ok (n:=kids.length) (k1:=.i64) (k2:=.i64) (z:=.str []) rfl rfl rfl rfl rfl ?_ ?_ (by show 16*_≤_; omega) (by omega) fun nv=>?_)
 ·show D.int _ _=_; simp
 ·show D.int _ _=_; simp
 (conv=>whnf);refine .inr (XOp.makeMap fun mb=>?_);apply Sq;apply Sr;apply Bk
 refine Tri.loopK (α:={ i:Nat // i≤kids.length }) (fun x=>[(0,Iv v),(3,.box 3 bk 0),(6,.sl .none 1 (places kids.length)),(48,.sl .none 1 (places kids.length)),(49,Iv (places kids.length).length),(50,Iv x.1),(9,.raw nv),(10,.raw (.map (some mb)))])
  (fun x=>[(46,.row nv (strs (usedOf v (kids.take x.1)).reverse++List.replicate (kids.length-x.1) (.str [])) 1 9),(47,.set mb (usedOf v (kids.take x.1))),(3,.box bk [.sl .none 12 (kids.map enc)])]) (fun x=>kids.length-x.1) ⟨0,by omega⟩ [(46,46),(47,47),(3,3)]
  ⟨Z,rfl,Y⟩ ?_
 rintro ⟨t,ht⟩;dsimp only;apply Sr;apply Sq;refine Cd _ rfl (fun hc=>?_) (fun hc=>?_)
 ·apply Sk;(conv=>whnf)
  have hta:t<kids.length:=by simp [places] at hc; omega
  have hkd:∀ j,j<kids.length→(kids.map enc)[j]? = some (encTop (kids.getD j default)):=fun j hj=>by rw [get_kids hj]; simp [List.getD,hj]
  apply Sq;apply Bk;apply Sr;(conv=>whnf)
  refine ⟨fun _=>by simp [places]; omega,?_⟩
  (conv=>whnf);refine ⟨Iv (t:Nat),fun _=>by simp [places,hta],?_⟩;apply S2;refine Tri.draw ti_ok mixed (by kernel_rfl) ?_;apply Rl;apply Hh;refine Ir ?_;apply Hh;apply Hh;(conv=>whnf)
  refine ⟨fun h=>by simp at h; simp [places]; omega,?_⟩
  apply Hh;(conv=>whnf)
  refine ⟨Iv ((t-1:Nat):Int),fun h=>by rw [pred_toNat (by simpa using h)]; simp [places,show t-1<kids.length by omega],?_⟩
  apply Hh;apply Hh;(conv=>whnf);refine Sp ?_;apply Hh;apply Hh;(conv=>whnf);refine ⟨encTop (kids.getD (t-1) default),fun h=>hkd (t-1) (by omega),?_⟩;apply Rl;apply Hh;apply Hh;(conv=>whnf);refine Sp ?_;apply Hh;apply Hh;(conv=>whnf);refine ⟨encTop kids[t],fun h=>get_kids hta,?_⟩;apply Hh;apply Hh;refine Pk ?_;refine Cd _ rfl (fun hc=>?_) (fun hc=>?_)
  ·apply Sr;apply Rt;(conv=>whnf)
   exfalso
   cases h0:decide ((0:Int)<t) with
   | false=>rw [h0] at hc; cases hc
   | true =>
    have ht0:0<t:=by simpa using h0
    have hne:=bl_ne (inc_get hinc (show t-1<t by omega) hta)
    rw [h0] at hc
    have hc2:((kids.getD (t-1) default).name==kids[t].name)=true:=hc
    have:(kids.getD (t-1) default).name=kids[t].name:=by simpa using hc2
    apply hne
    rw [← this]; simp [List.getD,show t-1<kids.length by omega]
  apply Sk;apply Sr;apply Rl;(conv=>whnf);refine Sp ?_;(conv=>whnf);refine ⟨encTop kids[t],fun _=>get_kids hta,?_⟩;apply Sq;apply Sr;apply Hh;refine Pk ?_;refine Cd _ rfl (fun hc=>?_) (fun hc=>?_)
  ·apply Sq
   have hnl:=name_len (hok _ (List.getElem_mem hta)).1
   obtain ⟨l,hl,_,_,_,_⟩:=name_chars (hok _ (List.getElem_mem hta)).1
   have hcalled:=F125 (W0:=W0) v kids[t].name l (kids[t].kind==0) (by omega) hl
   have hwl:=want_len v kids[t].name (kids[t].kind==0)
   have hpk:pickN v (usedOf v (kids.take t)) kids[t]=numS v (wantS v kids[t].name (kids[t].kind==0)).1 (wantS v kids[t].name (kids[t].kind==0)).2 (freshK v (usedOf v (kids.take t)) (wantS v kids[t].name (kids[t].kind==0)).1 (wantS v kids[t].name (kids[t].kind==0)).2):=rfl
   have hus:=usedOf_take (v:=v) hta
   have hset:=strs_setA (v:=v) hta (.str [])
   have hfr:=fresh_ok v (usedOf v (kids.take t)) (wantS v kids[t].name (kids[t].kind==0)).1 (wantS v kids[t].name (kids[t].kind==0)).2 (by rw [usedOf_len]; simp; omega)
   generalize (wantS v kids[t].name (kids[t].kind==0)).1=st at *;generalize (wantS v kids[t].name (kids[t].kind==0)).2=ex at *
   have hUl:(usedOf v (kids.take t)).length=t:=by rw [usedOf_len]; simp; omega
   generalize usedOf v (kids.take t)=U at *;generalize hK:freshK v U st ex=K at *;apply Rg;apply Rl;(conv=>whnf);refine Sp ?_;(conv=>whnf);refine ⟨encTop kids[t],fun _=>get_kids hta,?_⟩;(conv=>whnf);refine ⟨[Iv v,.str kids[t].name,.bool (kids[t].kind==0)],_,fun _=>hcalled,Z,?_⟩;(conv=>whnf);intro b14;apply Rl;apply Sr;apply Rl;(conv=>whnf);refine ⟨[wantD st ex,Iv v,Iv (0:Nat)],_,fun _=>F126 v st ex 0 (by omega) (by omega) (by omega),Z,?_⟩;apply Sr;apply Bk
   refine Tri.loopK (α:={ j:Nat // j≤K }) (fun x=>[(0,Iv v),(3,.box 3 bk 0),(6,.sl .none 1 (places kids.length)),(48,.sl .none 1 (places kids.length)),(49,Iv (places kids.length).length),(50,Iv t),(9,.raw nv),(10,.raw (.map (some mb))),(12,Iv t),(13,.str (numS v st ex x.1)),(14,.box 14 b14 0),(15,Iv ((x.1+1:Nat):Int))])
    (fun x=>[(46,.row nv (strs U.reverse++List.replicate (kids.length-t) (.str [])) 1 9),(47,.set mb U),(3,.box bk [.sl .none 12 (kids.map enc)]),(14,.box b14 [.sl .none 1 (ints32 st),.sl .none 1 (ints32 ex)])]) (fun x=>K-x.1) ⟨0,by omega⟩ [(46,46),(47,47),(3,3),(14,14)]
    ⟨Z,rfl,Y⟩ ?_
   rintro ⟨j,hj⟩;dsimp only;apply S2;refine Tri.regionX ti_ok ?_;(conv=>whnf);refine .inr (XOp.setLookup 47 (kt:=9) (et:=4) rfl rfl (fun w=>rfl) rfl rfl rfl ?_);refine Cd _ rfl (fun hc=>?_) (fun hc=>?_)
   ·apply Sk;apply Sq;apply Bk;apply Rg
    have hjU:numS v st ex j∈U:=of_decide_eq_true hc
    have hjK:j<K:=by
     rcases Nat.lt_or_ge j K with h|h
     ·exact h
     have:j=K:=by omega
     subst this; exact absurd hjU hfr.2.1
    apply Rl;(conv=>whnf);refine ⟨[wantD st ex,Iv v,Iv ((j+1:Nat):Int)],_,fun _=>F126 v st ex (j+1) (by omega) (by omega) (by omega),Z,?_⟩;apply Rg;refine Ir ?_;(conv=>whnf)
    exact ⟨⟨j+1,by omega⟩,[(46,46),(47,47),(3,3),(14,14)],by show K-(j+1)<K-j; omega,Z,rfl,Y⟩
   refine Tri.exit ?_;(conv=>whnf);refine Tri.regionX ti_ok ?_
   have hjU:numS v st ex j∉U:=of_decide_eq_false hc
   have hjK:j=K:=by
    rcases Nat.lt_or_ge j K with h|h
    ·exact absurd (hfr.2.2 j h) hjU
    omega
   subst hjK;(conv=>whnf);refine .inr (XOp.setUpdate 47 (kt:=9) (et:=4) rfl rfl rfl rfl rfl rfl ?_);(conv=>whnf)
   refine .inr (XOp.rowIndex ti_ok 46 rfl rfl rfl rfl rfl rfl rfl (by omega) (by simp [strs,hUl]; omega) ?_)
   (conv=>whnf);(conv=>whnf)
   refine .inr (XOp.rowStore ti_ok 46 (i:=t) (by rw [Int.toNat_natCast]; rfl) rfl rfl rfl (by simp [strs,hUl]; omega) rfl ?_)
   (conv=>whnf);apply Rg;refine Ir ?_;(conv=>whnf)
   exact ⟨⟨t+1,by omega⟩,[(46,46),(47,47),(3,3)],by show _-(t+1)<_-t; omega,Z,rfl,rfl,congrArg (fun z=>some (HObj.row nv z 1 9)) (by rw [← hpk]; exact hset),rfl,
    congrArg (fun z=>some (HObj.set mb z)) (by dsimp only; rw [hus,hpk]),rfl,Y⟩
  apply Sk;(conv=>whnf)
  exfalso
  rcases hv with rfl|rfl<;>cases hc
 refine Tri.exit ?_;(conv=>whnf)
 have htn:t=kids.length:=by simp [places] at hc; omega
 have hrow2:strs (usedOf v (kids.take t)).reverse++List.replicate (kids.length-t) (D.str [])=strs (namesA v kids):=by
  subst htn; rw [List.take_of_length_le (Nat.le_refl _)]; simp [namesA]
 rw [hrow2];refine Tri.forgetK [(9,.raw nv)] [(46,.row nv (strs (namesA v kids)) 1 9)] [(46,46)] ⟨Z,rfl,Y⟩ ?_;refine Tri.commitSt 46 9 rfl ?_;apply Sr;apply Rt;(conv=>whnf);exact Z
theorem names01 (hL:LibOk W0) {v:Int} (hv:v=0∨v=1):NamesOk W0 v (namesA v) :=
 ⟨fun ks h64 hinc hok=>⟨F105a hL v hv ks h64 hok hinc,by simp [namesA,usedOf_len],by
  rw [namesA,List.nodup_iff_pairwise_ne,List.pairwise_reverse]; exact (List.nodup_iff_pairwise_ne.1 (usedOf_nodup v ks h64)).imp Ne.symm,fun m hm=>usedOf_short v ks h64 m (List.mem_reverse.1 hm)⟩⟩
theorem jolC_char {r:Int} (h:isChar r=true):isChar (jolC r)=true:=by
 unfold jolC; split
 ·decide
 exact h
theorem isoC_char {r:Int} (h:isChar r=true):isChar (isoC r)=true:=by
 obtain ⟨h1,h2,h3⟩:=(isChar_iff r).1 h
 unfold isoC; split
 ·exact (isChar_iff _).2 ⟨by omega,by omega,by omega⟩
 split
 ·exact h
 decide
theorem mapC_char {v r:Int} (h:isChar r=true):isChar (mapC v r)=true:=by
 unfold mapC; split
 ·exact isoC_char h
 exact jolC_char h
end Go.Tame.V


namespace Go.Tame.V
open Go Go.Proofs
variable {W0:World}
theorem runesB_cons (r:Int) (l:List Int):runesB (r::l)=(Utf8.encode r).data.toList++runesB l:=by simp [runesB]
theorem on (f:Nat→Bool) (k:Nat) (h:f k=true):∃ g:Nat→Bool,f=fun j=>_root_.cond (Nat.beq j k) true (g j) :=
 ⟨f,funext fun j=>by cases hb:Nat.beq j k with|false=>rfl|true=>rw [beq_true hb]; exact h⟩
def pickG (v:Int) (u:List (List UInt8)) (k:NV):List UInt8:=if v=0∨v=1 then pickN v u k else k.name
def usedG (v:Int) (ks:List NV):List (List UInt8):=ks.foldl (fun u k=>pickG v u k::u) []
def namesG (v:Int) (ks:List NV):List (List UInt8):=(usedG v ks).reverse
theorem usedG_snoc (v:Int) (ks:List NV) (k:NV):usedG v (ks++[k])=pickG v (usedG v ks) k::usedG v ks:=by simp [usedG]
theorem usedG_len (v:Int) (ks:List NV):(usedG v ks).length=ks.length:=by
 refine snoc_rec (p:=fun ks=>(usedG v ks).length=ks.length) rfl (fun l x ih=>?_) ks
 rw [usedG_snoc]; simp [ih]
theorem usedG_take {v:Int} {ks:List NV} {t:Nat} (h:t<ks.length):usedG v (ks.take (t+1))=pickG v (usedG v (ks.take t)) ks[t]::usedG v (ks.take t):=by
 rw [List.take_succ_eq_append_getElem h,usedG_snoc]
def cellsN (n:NV):List D:=[.str n.name,Iv n.kind,.str n.text,.str n.target,Iv n.n1,Iv n.n2,Iv n.n3,Iv n.n4,Iv n.n5,Iv n.n6,.sl .none 12 (n.kids.map enc),.sl .none 2 (n.streams.map encS)]
end Go.Tame.V





namespace Go.Tame.V
open Go Go.Proofs
variable {W0:World}
theorem namesG_len (v:Int) (ks:List NV):(namesG v ks).length=ks.length:=by simp [namesG,usedG_len]
end Go.Tame.V

namespace Go.Tame.V
open Go Go.Proofs
variable {W0:World}
theorem namesG01 {v:Int} (hv:v=0∨v=1):namesG v=namesA v:=by
 funext ks
 rw [namesG,namesA]
 congr 1
 refine snoc_rec (p:=fun ks=>usedG v ks=usedOf v ks) rfl (fun l x ih=>?_) ks;rw [usedG_snoc,usedOf_snoc,ih,pickG,if_pos hv]
theorem namesG23 {v:Int} (hv:v=2∨v=3):namesG v=fun ks=>ks.map NV.name:=by
 funext ks
 rw [namesG];refine snoc_rec (p:=fun ks=>(usedG v ks).reverse=ks.map NV.name) rfl (fun l x ih=>?_) ks
 rw [usedG_snoc,pickG,if_neg (by omega),List.reverse_cons,ih]; simp
theorem view4 {v:Int} (h:viewOk v=true):v=0∨v=1∨v=2∨v=3:=by simp [viewOk] at h; omega
theorem namesGok (hL:LibOk W0) {v:Int} (h:viewOk v=true):NamesOk W0 v (namesG v):=by
 rcases view4 h with h|h|h|h
 ·rw [namesG01 (.inl h)]; exact names01 hL (.inl h)
 ·rw [namesG01 (.inr h)]; exact names01 hL (.inr h)
 ·rw [namesG23 (.inl h)]; exact names23 hL (.inl h)
 rw [namesG23 (.inr h)]; exact names23 hL (.inr h)
section
variable {S:Type} (upd:List UInt8→List UInt8→S→S) (nm:List NV→List (List UInt8)) (v:Int)
end
end Go.Tame.V

namespace Go.Tame.V
open Go Go.Proofs
variable {W0:World}
structure WS3 (S:Type) where
 o1:S→HObj
 o2:S→HObj
 o3:S→HObj
def WS3.H {S:Type} (A:WS3 S) (s:S):Heap:=look [(2000,A.o1 s),(2001,A.o2 s),(2002,A.o3 s)]
end Go.Tame.V


namespace Go.Tame.V
open Go Go.Proofs
variable {W0:World}
theorem kids_next {l:List NV} {i:Nat} (h:i<l.length):(l.take i).map encTop++[encTop l[i]]=(l.take (i+1)).map encTop:=by
 rw [List.take_add_one,List.getElem?_eq_getElem h,List.map_append]; rfl
theorem G117:∀ (N:Nat) (n:NV),sz n<N→sz n<1000000000→DFun Tryz.prog W0 53 [encTop n] (encTop n):=by
 refine fun N=>Nat.rec (fun n h=>absurd h (Nat.not_lt_zero _)) (fun N ih n hN hz=>?_) N
 have hss:2*n.streams.length≤sz n:=by have:=szS_len n.streams; have:=sz_eq n; omega
 have hkl:2*n.kids.length≤sz n:=by have:=szL_len n.kids; have:=sz_eq n; omega
 refine Fi Tryz.func53 rfl Tryz.ntmps53 fun Γ=>?_
 apply Sr;(conv=>whnf);intro b1;(conv=>whnf);intro b2;apply Sr;apply Rl;(conv=>whnf);refine ⟨[.sl .none 2 (n.streams.map encS)],_,fun _=>F104 n.streams (by omega),Z,?_⟩;apply Rl;apply Sr;apply Rl;apply Sr;apply Rl;apply Sq;apply Sr;apply Bk;refine Tri.boxLe 1 (cs':=[.str n.name,Iv n.kind,.str n.text,.str n.target,Iv n.n1,Iv n.n2,Iv n.n3,Iv n.n4,Iv n.n5,Iv n.n6,.raw (.slice none 0 0),.sl .none 2 (n.streams.map encS)]) rfl ⟨.refl _,.refl _,.refl _,.refl _,.refl _,.refl _,.refl _,.refl _,.refl _,.refl _,DLe.nilRaw,.refl _,trivial⟩ ?_;refine Tri.rowNil 109 12 44 ?_
 refine Tri.loopK (α:={ x:Nat×Value // x.1≤n.kids.length }) (fun x=>[(1,.box 1 b1 0),(2,.box 2 b2 0),(13,.sl .none 12 (n.kids.map enc)),(14,Iv (n.kids.map enc).length),(15,Iv x.1.1)]) (fun x=>[(2,.box b2 [.str [],Iv 0,.str [],.str [],Iv 0,Iv 0,Iv 0,Iv 0,Iv 0,Iv 0,.nils,.nils]),(1,.box b1 [.str n.name,Iv n.kind,.str n.text,.str n.target,Iv n.n1,Iv n.n2,Iv n.n3,Iv n.n4,Iv n.n5,Iv n.n6,.raw x.1.2,.sl .none 2 (n.streams.map encS)]),(109,.row x.1.2 ((n.kids.take x.1.1).map encTop) 12 44)]) (fun x=>n.kids.length-x.1.1) ⟨(0,.slice none 0 0),Nat.zero_le _⟩ [(2,2),(1,1),(109,109)]
  ⟨Z,rfl,rfl,rfl,rfl,rfl,rfl,congrArg (fun z=>some (HObj.row (.slice none 0 0) z 12 44)) (by simp),trivial⟩ ?_
 rintro ⟨⟨i,rv⟩,hi⟩;dsimp only at hi ⊢;apply Sr;apply Sq;refine Cd (decide ((i:Int)<(n.kids.map enc).length)) rfl (fun hc=>?_) (fun hc=>?_)
 ·apply Sk;apply Sq;apply Bk;apply Sr
  have hia:i<n.kids.length:=by simpa using hc
  have hkz:=kid_sz hia
  (conv=>whnf);refine Sp ?_;(conv=>whnf);refine ⟨encTop n.kids[i],fun _=>get_kid hia,?_⟩;(conv=>whnf);intro b5;apply Rl;(conv=>whnf);refine Tri.drawTailX ti_ok 5 mixed (by kernel_rfl) ?_;apply Rl;apply Rl;(conv=>whnf);refine ⟨[encTop n.kids[i]],_,fun _=>ih n.kids[i] (by omega) (by omega),Z,?_⟩;(conv=>whnf);refine ⟨trivial,?_⟩;(conv=>whnf);refine .inr (XOp.rowAppend ti_ok 109 rfl rfl rfl (fun h=>by cases h) rfl rfl rfl (Nat.zero_lt_one) ?_ ?_ fun aa mm cap=>?_)
  ·show (_+1)*152≤_
   simp; omega
  ·show _+1≤_
   simp; omega
  apply Il;apply Rl;apply Rg;refine Ir ?_;(conv=>whnf)
  exact ⟨⟨(i+1,.slice aa mm cap),hia⟩,[(2,2),(1,1),(109,24)],by show _-(i+1)<_-i; omega,Z,rfl,rfl,rfl,rfl,rfl,rfl,congrArg (fun z=>some (HObj.row (.slice aa mm cap) z 12 44)) (by exact kids_next hia),trivial⟩
 refine Tri.exit ?_
 have hin:i=n.kids.length:=by simp at hc; omega
 have hrow:(n.kids.take i).map encTop=n.kids.map enc:=by
  subst hin; rw [List.take_length,show enc=encTop from funext enc_eq]
 rw [hrow];refine Tri.commitBox 109 1 10 rfl rfl (by decide) rfl ?_;apply Sr;apply Rl;apply Rl;apply Rt;apply Rl;(conv=>whnf);exact DLe.of_eq rfl
def findK (q:List UInt8) (ks:List NV):Option NV:=ks.find? fun k=>k.name==q
def getN:NV→List (List UInt8)→Option NV
 | n,[]=>some n
 | n,m::ms=>match findK m n.kids with
  | some k=>getN k ms
  | none=>none
theorem findK_name {ks:List NV} {q:List UInt8} {k:NV} (h:findK q ks=some k):k∈ks∧k.name=q :=
 ⟨List.mem_of_find?_eq_some h,by simpa using List.find?_some h⟩
mutual
def pathsS:NV→List UInt8→Int→List (List UInt8)
 | .mk _ _ _ _ _ _ _ _ _ _ ks _,p,l=>p::pathsSL ks p l
def pathsSL:List NV→List UInt8→Int→List (List UInt8)
 | [],_,_=>[]
 | k::r,p,l=>pathsS k (below p k.name (l+1)) (l+1)++pathsSL r p l
end
theorem pathsS_eq (n:NV) (p:List UInt8) (l:Int):pathsS n p l=p::pathsSL n.kids p l:=by cases n; simp only [pathsS]
mutual
theorem pathsS_len:∀ (n:NV) (p:List UInt8) (l:Int),(pathsS n p l).length=cnt n
 | .mk _ _ _ _ _ _ _ _ _ _ ks _,p,l=>by
  have:=pathsSL_len ks p l
  simp only [pathsS,cnt,List.length_cons]; omega
theorem pathsSL_len:∀ (ks:List NV) (p:List UInt8) (l:Int),(pathsSL ks p l).length=cntL ks
 | [],p,l=>rfl
 | k::r,p,l=>by
  have h1:=pathsS_len k (below p k.name (l+1)) (l+1)
  have h2:=pathsSL_len r p l
  simp only [pathsSL,cntL,List.length_append]; omega
end
theorem pathsSL_next:∀ {ks:List NV} {i:Nat} (h:i<ks.length) (p:List UInt8) (l:Int),pathsSL (ks.take (i+1)) p l=pathsSL (ks.take i) p l++pathsS ks[i] (below p ks[i].name (l+1)) (l+1)
 | k::r,0,_,p,l=>by simp [pathsSL]
 | k::r,i+1,h,p,l=>by
  have:=pathsSL_next (ks:=r) (i:=i) (by simpa using h) p l
  simp only [List.take_succ_cons,pathsSL,List.getElem_cons_succ]
  rw [this]; simp
def getR (n:NV) (s:List UInt8):NV×Int :=
 if s=[] then (n,0) else match getN n (splitG 47 [] s) with
  | some x=>(x,0)
  | none=>(zeroN,6)
theorem kid_find (n:NV) (q:List UInt8):(kidIx n q=-1∧findK q n.kids=none)∨∃ (i:Nat) (h:i<n.kids.length),kidIx n q=i∧findK q n.kids=some n.kids[i]:=by
 cases hf:findK q n.kids with
 | none =>
  refine .inl ⟨?_,rfl⟩
  unfold findK at hf
  exact firstIdx_none fun j hj=>by simpa using List.find?_eq_none.1 hf _ (List.getElem_mem hj)
 | some k =>
  unfold findK at hf
  obtain ⟨h1,i,h2,h3,h4⟩:=List.find?_eq_some_iff_getElem.1 hf;refine .inr ⟨i,h2,?_,by rw [h3]⟩
  exact firstIdx_some (p:=fun k:NV=>k.name==q) h2 (fun j hj hji=>by simpa using h4 j hji) (by rw [h3]; exact h1)
theorem getN_sz:∀ (q:List (List UInt8)) (n x:NV),getN n q=some x→sz x≤sz n
 | [],n,x,h=>by simp only [getN,Option.some.injEq] at h; subst h; exact Nat.le_refl _
 | m::q,n,x,h=>by
  simp only [getN] at h
  cases hf:findK m n.kids with
  | none=>rw [hf] at h; cases h
  | some k =>
   rw [hf] at h;obtain ⟨i,hi,e⟩:=List.mem_iff_getElem.1 (findK_name hf).1
   have h1:=kid_sz hi
   have h2:=getN_sz q k x h
   rw [e] at h1
   omega
theorem G160 (k:NV) (q:List UInt8):DFun Tryz.prog W0 85 [encTop k,.elm 1 [.str q] 0 0] (.bool (k.name==q)):=by
 refine Fi Tryz.func85 rfl Tryz.ntmps85 fun Γ=>?_
 apply Sr;(conv=>whnf);intro b;apply Sr;apply Rl;refine Lo (.str q) ?_;apply Rt;(conv=>whnf);exact .refl _
theorem G96 (l:List NV) (q:List UInt8) (hl:l.length<1000000000):DFun Tryz.prog W0 84 [.sl .none 12 (l.map enc),.fn (.func 85) [] [.elm 1 [.str q] 0 0]] (Iv (firstIdx (fun k:NV=>k.name==q) l)):=by
 refine Fi Tryz.func84 rfl Tryz.ntmps84 fun Γ=>?_
 apply Sr;apply Sq;apply Sr;apply Bk;refine Tri.loop (α:={ i:Nat // i≤l.length∧∀ j (h:j<l.length),j<i→((l[j]).name==q)=false }) (fun x=>[(0,.sl .none 12 (l.map enc)),(1,.fn (.func 85) [] [.elm 1 [.str q] 0 0]),(7,Iv (l.map enc).length),(8,Iv x.1)]) (fun _=>[]) (fun x=>l.length-x.1) ⟨0,by simp⟩ Z trivial ?_;rintro ⟨i,hi,hp⟩;dsimp only;apply Sr;apply Sq;refine Cd (decide ((i:Int)<(l.map enc).length)) rfl (fun hc=>?_) (fun hc=>?_)
 ·apply Sk;apply Sq;apply Bk;apply Sr
  have hia:i<l.length:=by simpa using hc
  apply Sr;(conv=>whnf);refine Sp ?_;(conv=>whnf);refine ⟨encTop l[i],fun _=>get_kids hia,?_⟩;(conv=>whnf);refine ⟨[encTop l[i],.elm 1 [.str q] 0 0],_,fun _=>G160 l[i] q,Z,?_⟩;refine Cd _ rfl (fun hc=>?_) (fun hc=>?_)
  ·apply Sr;apply Rt;(conv=>whnf);exact intDLe (firstIdx_some (p:=fun k:NV=>k.name==q) hia hp hc).symm
  apply Sk;apply Rg;refine Ir ?_;(conv=>whnf)
  exact ⟨⟨i+1,by omega,fun j hj hlt=>(Nat.lt_succ_iff_lt_or_eq.1 hlt).elim (hp j hj) fun e=>by subst e; exact hc⟩,by show _-(i+1)<_-i; omega,Z,trivial⟩
 refine Tri.exit ?_;apply Sr;apply Rt;(conv=>whnf)
 exact intDLe (firstIdx_none (p:=fun k:NV=>k.name==q) fun j hj=>hp j hj (by simp at hc; omega)).symm
def findD:List D→Nat→NV→List (List UInt8)→D
 | xs,j,n,[]=>.elm 12 xs j 0
 | xs,j,n,m::r=>if kidIx n m<0 then .raw (.pointer none) else match n.kids[(kidIx n m).toNat]? with
  | some k=>findD (n.kids.map enc) (kidIx n m).toNat k r
  | none=>.raw (.pointer none)
theorem findD_getN:∀ (r:List (List UInt8)) (xs:List D) (j:Nat) (n:NV),xs[j]? = some (encTop n)→(getN n r=none∧findD xs j n r=.raw (.pointer none))∨∃ m ys i,getN n r=some m∧findD xs j n r=.elm 12 ys i 0∧ys[i]? = some (encTop m)
 | [],xs,j,n,h=>.inr ⟨n,xs,j,rfl,rfl,h⟩
 | m::r,xs,j,n,h=>by
  simp only [getN,findD]
  rcases kid_find n m with ⟨h1,h2⟩|⟨i,hi,h1,h2⟩
  ·rw [h1,h2]; exact .inl ⟨rfl,if_pos (by decide)⟩
  rw [h1,h2,if_neg (by omega),show ((i:Nat):Int).toNat=i from rfl,List.getElem?_eq_getElem hi];exact findD_getN r _ i _ (get_kid hi)
theorem G116 (hL:LibOk W0) (s:List UInt8) (hs:s.length<1000000000) (xs:List D) (j:Nat) (n:NV) (hj:xs[j]? = some (encTop n)) (hz:sz n<1000000000):DFun Tryz.prog W0 52 [.elm 12 xs j 0,.str s] (if s=[] then .elm 12 xs j 0 else findD xs j n (splitG 47 [] s)):=by
 refine Fi Tryz.func52 rfl Tryz.ntmps52 fun Γ=>?_
 apply Sr;apply Sq;apply Sr;refine Cd _ rfl (fun hc=>?_) (fun hc=>?_)
 ·apply Sr;apply Rt;(conv=>whnf);exact DLe.of_eq (if_pos (by simpa using hc)).symm
 apply Sk;apply Sq;apply Sr
 have hne:s≠[]:=by simpa using hc
 (conv=>whnf);refine ⟨[.str s,.str [47]],_,fun _=>F121 hL s 47 hs,Z,?_⟩;apply Bk;refine Tri.loop (α:={ x:Nat×List D×Nat×NV // x.1≤(splitG 47 [] s).length∧x.2.1[x.2.2.1]? = some (encTop x.2.2.2)∧findD x.2.1 x.2.2.1 x.2.2.2 ((splitG 47 [] s).drop x.1)=findD xs j n (splitG 47 [] s)∧sz x.2.2.2<1000000000 }) (fun x=>[(0,.elm 12 x.1.2.1 x.1.2.2.1 0),(12,.sl .none 1 (strs (splitG 47 [] s))),(13,Iv (strs (splitG 47 [] s)).length),(14,Iv x.1.1)]) (fun _=>[]) (fun x=>(splitG 47 [] s).length-x.1.1) ⟨(0,xs,j,n),Nat.zero_le _,hj,rfl,hz⟩ ⟨.refl _,DLe.full,.refl _,.refl _,trivial⟩ trivial ?_;rintro ⟨⟨i,ys,jj,m⟩,hi,hm,hd,hzm⟩;obtain ⟨hsl,_⟩:=splitG_len (c:=47) s [];dsimp only at hi hm hd hzm ⊢;apply Sr;apply Sq;refine Cd (decide ((i:Int)<(strs (splitG 47 [] s)).length)) rfl (fun hc=>?_) (fun hc=>?_)
 ·apply Sk;apply Sq;apply Bk;apply Sr
  have hia:i<(splitG 47 [] s).length:=by simpa [strs] using hc
  have hkl:=kids_len m
  have hdr:(splitG 47 [] s).drop i=(splitG 47 [] s)[i]::(splitG 47 [] s).drop (i+1):=List.drop_eq_getElem_cons hia
  conv=>whnf
  refine ⟨fun _=>by simp [strs]; omega,?_⟩
  (conv=>whnf);refine ⟨.str (splitG 47 [] s)[i],fun _=>by simp [strs,hia],?_⟩;(conv=>whnf);intro b;apply Rl;apply Sq;refine Tri.boxElm 6 6 (.str (splitG 47 [] s)[i]) rfl rfl rfl rfl ?_;refine Tri.regionG ti_ok ?_;apply Tj;(conv=>whnf);refine ⟨rfl,trivial,.inr (XOp.checkElm rfl ?_)⟩;apply Tj;(conv=>whnf);refine ⟨rfl,trivial,.inl ⟨encTop m,fun _=>hm,?_⟩⟩;apply Tj;(conv=>whnf);refine ⟨rfl,trivial,.inl ⟨[.sl .none 12 (m.kids.map enc),.fn (.func 85) [] [.elm 1 [.str (splitG 47 [] s)[i]] 0 0]],_,fun _=>G96 m.kids _ (by omega),Z,?_⟩⟩;apply Tj;apply Sq;apply Sr;refine Cd (decide (kidIx m (splitG 47 [] s)[i]<0)) rfl (fun hc=>?_) (fun hc=>?_)
  ·apply Sr;apply Rt;(conv=>whnf);refine DLe.of_eq ?_;rw [if_neg hne,← hd,hdr];exact (if_pos (by simpa using hc)).symm
  apply Sk;(conv=>whnf)
  have hix:∃ (i':Nat) (h:i'<m.kids.length),kidIx m (splitG 47 [] s)[i]=i'∧findK (splitG 47 [] s)[i] m.kids=some m.kids[i']:=by
   rcases kid_find m (splitG 47 [] s)[i] with ⟨h1,_⟩|h
   ·rw [h1] at hc; simp at hc
   exact h
  obtain ⟨i',hi',he,_⟩:=hix
  have hks:=kid_sz hi'
  rw [show firstIdx (fun k:NV=>k.name==(splitG 47 [] s)[i]) m.kids=(i':Int) from he];refine Tri.regionG ti_ok ?_;apply Tj;(conv=>whnf);refine ⟨rfl,trivial,.inr (XOp.checkElm rfl ?_)⟩;apply Tj;(conv=>whnf);refine ⟨rfl,trivial,.inl ⟨encTop m,fun _=>hm,?_⟩⟩;apply Tj;(conv=>whnf)
  refine ⟨rfl,trivial,.inl ⟨fun _=>by simp; omega,?_⟩⟩
  apply Tj;apply Rg;refine Ir ?_;(conv=>whnf)
  exact ⟨⟨(i+1,m.kids.map enc,i',m.kids[i']),hia,get_kid hi',by rw [← hd,hdr]; simp only [findD,he]; rw [if_neg (by omega),show ((i':Nat):Int).toNat=i' from rfl,List.getElem?_eq_getElem hi'],by show sz m.kids[i']<_; omega⟩,by show _-(i+1)<_-i; omega,Z,trivial⟩
 refine Tri.exit ?_;apply Sr;apply Rt;(conv=>whnf);refine DLe.of_eq ?_
 have hin:i=(splitG 47 [] s).length:=by simp [strs] at hc; omega
 rw [if_neg hne,← hd,hin,List.drop_length]
 rfl
theorem G66 (hL:LibOk W0) (s:List UInt8) (hs:s.length<1000000000) (n:NV) (hn:Fits n) (hv:valid n=true):DFun Tryz.prog W0 17 [encTop n,.str s] (.tup [encTop (getR n s).1,Iv (getR n s).2]):=by
 refine Fi Tryz.func17 rfl Tryz.ntmps17 fun Γ=>?_
 have hz:=hn
 unfold Fits at hz
 apply Sr;(conv=>whnf);intro b2;(conv=>whnf);intro b4;apply Sq;apply Sr;apply Rl;(conv=>whnf);refine ⟨[encTop n],_,fun _=>F39 hL n (by omega),Z,?_⟩;refine Cd _ rfl (fun hc=>?_) (fun hc=>?_)
 ·apply Sq
  exfalso
  rw [hv] at hc; cases hc
 apply Sk;apply Sq;refine Tri.boxElm 2 2 (encTop n) rfl rfl rfl rfl ?_
 have hform:∃ d,DFun Tryz.prog W0 52 [.elm 12 [encTop n] 0 0,.str s] d∧((d=.raw (.pointer none)∧getR n s=(zeroN,6))∨∃ m ys i,d=.elm 12 ys i 0∧ys[i]? = some (encTop m)∧getR n s=(m,0)∧sz m≤sz n):=by
  refine ⟨_,G116 hL s hs [encTop n] 0 n rfl (by omega),?_⟩
  by_cases h0:s=[]
  ·rw [if_pos h0];exact .inr ⟨n,_,_,rfl,rfl,by rw [getR,if_pos h0],Nat.le_refl _⟩
  rw [if_neg h0,getR,if_neg h0]
  rcases findD_getN (splitG 47 [] s) [encTop n] 0 n rfl with ⟨h1,h2⟩|⟨m,ys,i,h1,h2,h3⟩
  ·rw [h1,h2]; exact .inl ⟨rfl,rfl⟩
  rw [h1,h2]; exact .inr ⟨m,ys,i,rfl,h3,rfl,getN_sz _ _ _ h1⟩
 obtain ⟨d,hG,⟨rfl,hR⟩|⟨m,ys,i,rfl,hi,hR,hsm⟩⟩:=hform
 ·apply Rg;(conv=>whnf);refine ⟨[.elm 12 [encTop n] 0 0,.str s],_,fun _=>hG,Z,?_⟩;apply S2;refine Tri.regionG ti_ok ?_;apply Tj;(conv=>whnf);refine ⟨rfl,trivial,.inr (XOp.nilNil rfl rfl ?_)⟩;refine Tri.cond true rfl (fun hc=>?_) (fun hc=>by cases hc);apply Sr;apply Rl;apply Rt;apply Rl;(conv=>whnf);rw [hR];exact ⟨zeroD,.refl _,trivial⟩
 apply Rg;(conv=>whnf);refine ⟨[.elm 12 [encTop n] 0 0,.str s],_,fun _=>hG,Z,?_⟩;apply S2;refine Tri.regionG ti_ok ?_;apply Tj;(conv=>whnf);refine ⟨rfl,trivial,.inr (XOp.nilElm rfl rfl ?_)⟩;refine Tri.cond false rfl (fun hc=>by cases hc) (fun hc=>?_);apply Sk;apply Sq;refine Tri.regionG ti_ok ?_;apply Tj;(conv=>whnf);refine ⟨rfl,trivial,.inr (XOp.checkElm rfl ?_)⟩;(conv=>whnf);refine ⟨rfl,trivial,.inl ⟨encTop m,fun _=>hi,?_⟩⟩;(conv=>whnf);refine ⟨rfl,trivial,.inl ⟨[encTop m],_,fun _=>G117 _ m (Nat.lt_succ_self _) (by omega),Z,?_⟩⟩;(conv=>whnf);refine ⟨rfl,trivial,.inl ⟨rfl,?_⟩⟩;apply Tj;apply Rt;apply Rl;(conv=>whnf);rw [hR];exact ⟨DLe.of_eq rfl,.refl _,trivial⟩
section
variable (nm:List NV→List (List UInt8)) (v:Int)
end
end Go.Tame.V


namespace Go.Tame.V
open Go Go.Proofs
variable {W0:World}
structure Order (kids:List NV) (L:List Nat):Prop where
 perm:L.Perm (List.range kids.length)
 sorted:∀ (i j:Nat) (hi:i<L.length) (hj:j<L.length),i<j→Op.bytesLess (kids.getD L[j] default).name (kids.getD L[i] default).name=false
section
variable {kids:List NV} {L:List Nat}
theorem Order.len (h:Order kids L):L.length=kids.length:=by rw [h.perm.length_eq]; simp
theorem Order.lt (h:Order kids L) {t:Nat} (ht:t<L.length):L[t]<kids.length:=List.mem_range.1 (h.perm.subset (List.getElem_mem ht))
theorem Order.nodup (h:Order kids L):L.Nodup:=h.perm.nodup_iff.2 List.nodup_range
end
theorem suf_digs {k:Nat} (hk:k<100):∀ r∈sufI k,48≤r∧r≤57:=by
 revert k
 have:∀ k:Fin 100,∀ r∈sufI k.1,48≤r∧r≤57:=by decide +kernel
 intro k hk;exact this ⟨k,hk⟩
theorem dotI_le:∀ l:List Int,dotI l<l.length∧-1≤dotI l
 | []=>by simp [dotI]
 | x::r=>by
  have:=dotI_le r
  simp only [dotI,List.length_cons]
  split
  ·omega
  split<;>omega
theorem want_runes (v:Int) {l:List Int} (h:∀ r∈l,isChar r=true) (dir:Bool) :
  wantS v (runesB l) dir=((partsC v l dir).1.map (mapC v),if (partsC v l dir).2=[] then [] else 46::((partsC v l dir).2.map (mapC v)).take (mostC v)):=by
 obtain ⟨q1,q2,q3⟩:=cut_chars v (charsP_of l h) dir
 unfold wantS
 rw [q1,q2]
 by_cases h:(partsC v l dir).2=[]
 ·rw [if_pos (q3.2 h),if_pos h]
 rw [if_neg (fun e=>h (q3.1 e)),if_neg h]
def jolOk (l:List Int):Prop:=(∀ r∈l,isChar r=true∧jolC r=r)∧l.length≤64
structure IsoOk (dir:Bool) (l:List Int) (a b:List Int):Prop where
 a1:1≤a.length
 a8:a.length≤8
 b3:b.length≤3
 ca:∀ r∈a,isChar r=true∧isoC r=r
 cb:∀ r∈b,isChar r=true∧isoC r=r
 dir:dir=true→b=[]
 eq:l=if b=[] then a else a++46::b
theorem iso_idem {r:Int} (h:isChar r=true):isoC (isoC r)=isoC r:=by
 obtain ⟨h1,_,_⟩:=(isChar_iff r).1 h
 by_cases h2:97≤r∧r≤122
 ·have e:isoC r=r-97+65:=by rw [isoC,if_pos h2]
  rw [e,isoC,if_neg (by omega),if_pos ⟨by omega,by simp [dB]; omega⟩]
 by_cases h3:r<128∧dB r=true
 ·have e:isoC r=r:=by rw [isoC,if_neg h2,if_pos h3]
  rw [e,e]
 have e:isoC r=95:=by rw [isoC,if_neg h2,if_neg h3]
 rw [e]; decide
theorem jol_idem (r:Int):jolC (jolC r)=jolC r:=by
 by_cases h:special r=true
 ·have e:jolC r=95:=by rw [jolC,if_pos h]
  rw [e]; decide
 have e:jolC r=r:=by rw [jolC,if_neg h]
 rw [e,e]
theorem digit_fix {r:Int} (h:48≤r∧r≤57):isChar r=true∧isoC r=r∧jolC r=r:=by
 refine ⟨(isChar_iff r).2 (by omega),?_,?_⟩
 ·rw [isoC,if_neg (by omega),if_pos ⟨by omega,by simp [dB]; omega⟩]
 rw [jolC,if_neg]
 simp [special]; omega
theorem made_shape {v:Int} (hv:v=0∨v=1) {s:List UInt8} (hs:nameOk s=true) (dir:Bool) {k:Nat} (hk:k<100) :
  ∃ l,numS v (wantS v s dir).1 (wantS v s dir).2 k=runesB l∧(v=0→∃ a b,IsoOk dir l a b)∧jolOk l:=by
 obtain ⟨l,hc,_,_,hl1,hl2⟩:=name_chars hs;obtain ⟨hb,hch⟩:=chars_bytes s.length s l (Nat.le_refl _) hc;obtain ⟨pc1,pc2⟩:=parts_char (v:=v) (dir:=dir) hch
 have hw:=want_runes v hch dir
 rw [hb] at hw
 have hparts:1≤(partsC v l dir).1.length∧(v=1→(partsC v l dir).2.length≤16)∧(dir=true→(partsC v l dir).2=[]):=by
  have hd:=dotI_le l
  unfold partsC
  split
  ·rename_i h
   refine ⟨by simp; omega,fun h1=>?_,fun h2=>?_⟩
   ·rcases h.2.2.2 with h3|h3
    ·omega
    simp; omega
   rw [h.1] at h2; cases h2
  split
  ·rename_i h
   exact ⟨by simp; omega,fun _=>by simp,fun _=>rfl⟩
  exact ⟨hl1,fun _=>by simp,fun _=>rfl⟩
 rw [hw];generalize (partsC v l dir).1=a at *;generalize (partsC v l dir).2=b at *;obtain ⟨ha1,hb16,hdir⟩:=hparts;dsimp only;refine ⟨_,rfl,fun h0=>?_,?_⟩
 ·subst h0
  have hS:=suf_digs hk
  have hSl:=sufI_len hk
  have hst:stemN 0 (a.map (mapC 0)) (if b=[] then [] else 46::(b.map (mapC 0)).take (mostC 0)) k+(sufI k).length≤8∧1≤stemN 0 (a.map (mapC 0)) (if b=[] then [] else 46::(b.map (mapC 0)).take (mostC 0)) k:=by
   unfold stemN roomI
   rw [List.length_map,show ((0:Int)==1)=false from rfl,cond_false]
   refine ⟨by split<;>split<;>omega,by split<;>split<;>omega⟩
  generalize stemN 0 (a.map (mapC 0)) (if b=[] then [] else 46::(b.map (mapC 0)).take (mostC 0)) k=N at *
  have hmost:mostC 0=3:=by decide
  rw [hmost]
  have hfix:∀ x:List Int,(∀ r∈x,isChar r=true)→∀ r∈x.map (mapC 0),isChar r=true∧isoC r=r:=fun x hx r hr=>by
   obtain ⟨y,hy,rfl⟩:=List.mem_map.1 hr
   have e:mapC 0 y=isoC y:=by simp [mapC]
   rw [e]
   exact ⟨by have:=mapC_char (v:=0) (hx y hy); rwa [e] at this,iso_idem (hx y hy)⟩
  refine ⟨(a.map (mapC 0)).take N++sufI k,(b.map (mapC 0)).take 3,?_⟩
  refine ⟨by simp; omega,by simp; omega,by simp; omega,fun r hr=>?_,fun r hr=>hfix b pc2 r (List.mem_of_mem_take hr),fun hd=>by rw [hdir hd]; rfl,?_⟩
  ·rcases List.mem_append.1 hr with hr|hr
   ·exact hfix a pc1 r (List.mem_of_mem_take hr)
   have:=digit_fix (hS r hr)
   exact ⟨this.1,this.2.1⟩
  by_cases hbn:b=[]
  ·subst hbn; simp
  have hb3:¬ (b.map (mapC 0)).take 3=[]:=by
   cases b with
   | nil=>exact absurd rfl hbn
   | cons x r=>simp
  rw [if_neg hbn,if_neg hb3]
 have hS:=suf_digs hk
 have hSl:=sufI_len hk
 have hfix:∀ x:List Int,(∀ r∈x,isChar r=true)→∀ r∈x.map (mapC v),isChar r=true∧jolC r=r:=fun x hx r hr=>by
  obtain ⟨y,hy,rfl⟩:=List.mem_map.1 hr;refine ⟨mapC_char (hx y hy),?_⟩
  unfold mapC
  split
  ·
   have h1:=iso_idem (hx y hy)
   rw [jolC,if_neg];intro hsp;generalize isoC y=z at *
   have hz:z=42∨z=47∨z=58∨z=59∨z=63∨z=92:=by simp [special] at hsp; omega
   rcases hz with rfl|rfl|rfl|rfl|rfl|rfl<;>revert h1<;>decide
  exact jol_idem y
 have hex:∀ r∈(if b=[] then [] else 46::(b.map (mapC v)).take (mostC v)),isChar r=true∧jolC r=r:=fun r hr=>by
  split at hr
  ·cases hr
  rcases List.mem_cons.1 hr with rfl|hr
  ·exact ⟨by decide,by decide⟩
  exact hfix b pc2 r (List.mem_of_mem_take hr)
 have hexl:(if b=[] then [] else 46::(b.map (mapC v)).take (mostC v)).length≤17∧(v=0→(if b=[] then [] else 46::(b.map (mapC v)).take (mostC v)).length≤4):=by
  split
  ·simp
  refine ⟨?_,fun h0=>?_⟩
  ·rcases hv with h0|h1
   ·have:mostC v=3:=by unfold mostC; rw [if_pos h0]
    simp; omega
   have:=hb16 h1
   simp; omega
  have:mostC v=3:=by unfold mostC; rw [if_pos h0]
  simp; omega
 generalize (if b=[] then [] else 46::(b.map (mapC v)).take (mostC v))=ex at *
 have hst:stemN v (a.map (mapC v)) ex k+(sufI k).length+ex.length≤64:=by
  unfold stemN roomI
  rw [List.length_map]
  rcases hv with rfl|rfl
  ·have:=hexl.2 rfl
   rw [show ((0:Int)==1)=false from rfl,cond_false]
   split<;>split<;>omega
  rw [show ((1:Int)==1)=true from rfl,cond_true]
  split<;>split<;>omega
 refine ⟨fun r hr=>?_,by simp; omega⟩
 rcases List.mem_append.1 hr with hr|hr
 ·rcases List.mem_append.1 hr with hr|hr
  ·exact hfix a pc1 r (List.mem_of_mem_take hr)
  have:=digit_fix (hS r hr)
  exact ⟨this.1,this.2.2⟩
 exact hex r hr
theorem namesG_at {v:Int} {ks:List NV} {t:Nat} (ht:t<ks.length):(namesG v ks)[t]'(by rw [namesG_len]; exact ht)=pickG v (usedG v (ks.take t)) ks[t]:=by
 have e:∀ ks:List NV,∀ m,m≤ks.length→(usedG v ks).reverse.take m=(usedG v (ks.take m)).reverse:=by
  intro ks
  refine snoc_rec (p:=fun ks=>∀ m,m≤ks.length→(usedG v ks).reverse.take m=(usedG v (ks.take m)).reverse) (fun m hm=>by simp at hm; subst hm; rfl) (fun l x ih m hm=>?_) ks
  rw [usedG_snoc,List.reverse_cons]
  by_cases hml:m≤l.length
  ·rw [List.take_append_of_le_length (by simp [usedG_len]; exact hml),ih m hml,List.take_append_of_le_length hml]
  have hm':m=l.length+1:=by simp at hm; omega
  subst hm';rw [List.take_of_length_le (by simp [usedG_len]),List.take_of_length_le (by simp),usedG_snoc,List.reverse_cons]
 have h2:=e ks (t+1) (by omega)
 have h3:(namesG v ks)[t]? = ((namesG v ks).take (t+1))[t]?:=by rw [List.getElem?_take,if_pos (by omega)]
 have h4:(namesG v ks).take (t+1)=(usedG v (ks.take (t+1))).reverse:=h2
 rw [h4,usedG_take ht,List.reverse_cons,List.getElem?_append_right (by simp [usedG_len]; omega)] at h3
 have h5:(usedG v (ks.take t)).reverse.length=t:=by simp [usedG_len]; omega
 rw [h5,Nat.sub_self,List.getElem?_eq_getElem (by rw [namesG_len]; exact ht)] at h3
 simpa using h3
section
variable (nm:List NV→List (List UInt8)) (v:Int)
end
end Go.Tame.V


namespace Go.Tame.V
open Go Go.Proofs
variable {W0:World}
theorem G81 (hL:LibOk W0) (s p:List UInt8) (hs:s.length<4294967281):DFun Tryz.prog W0 295 [.str s,.str p] (.tup [.str (Lib.cut s p).1,.str (Lib.cut s p).2.1,.bool (Lib.cut s p).2.2]):=by
 obtain ⟨m,hm⟩:=hL.maxlen
 exact .lift (callable Tryz.func295 rfl (by decide +kernel)) rfl fun w hb=>(Tryz.strings_Cut ⟨⟨s⟩⟩ ⟨⟨p⟩⟩ m w hs (cell_base hb hm)).mono fun e w' ⟨he,n,hw⟩=>by
  subst hw
  exact ⟨_,he,fun C=>.tup _ _ rfl fun i d v hd hv=>by
   match i with
   | 0=>cases hd; cases hv; exact .str _
   | 1=>cases hd; cases hv; exact .str _
   | 2=>cases hd; cases hv; exact .bool _
   | i+3=>simp at hd,⟨rfl,rfl,rfl,Nat.le_refl _,fun _ _=>rfl⟩⟩
def cutSuf (s p:List UInt8):List UInt8×Bool:=if Lib.hasSuffix s p then (s.take (s.length-p.length),true) else (s,false)
def isDB (s:List UInt8) (m:Int):Bool:=decide ((1:Int)≤s.length)&&(decide ((s.length:Int)≤m)&&dStr s)
theorem G82 (s:List UInt8) (m:Int):DFun Tryz.prog W0 316 [.str s,Iv m] (.bool (isDB s m)):=by
 refine Fi Tryz.func316 rfl Tryz.ntmps316 fun Γ=>?_
 apply Sr;apply Sr;apply Hh;apply Hh;apply Hh;refine Pk ?_;apply Hh;(conv=>whnf);refine ⟨[.str s],_,fun h=>F171 s,Z,?_⟩;refine Pk ?_;apply Rt;(conv=>whnf);refine DLe.of_eq (congrArg D.bool ?_)
 unfold isDB
 by_cases h1:(1:Int)≤s.length<;>by_cases h2:(s.length:Int)≤m<;>simp [h1,h2]
def validI (s:List UInt8) (dir:Bool):Bool:=!((Lib.cut s [46]).2.2&&(dir||!isDB (Lib.cut s [46]).2.1 3))&&isDB (Lib.cut s [46]).1 8
theorem G31 (hL:LibOk W0) (s:List UInt8) (dir:Bool) (hs:s.length<1000000000):DFun Tryz.prog W0 275 [Iv 0,.str s,.bool dir] (.bool (validI s dir)):=by
 refine Fi Tryz.func275 rfl Tryz.ntmps275 fun Γ=>?_
 apply Sr;apply Sq;apply Sr;apply Bk;apply Sr;refine Tri.cond true rfl (fun hc=>?_) (fun hc=>by cases hc);apply Sr;(conv=>whnf);refine ⟨[.str s,.str [46]],_,fun _=>G81 hL s [46] (by omega),Z,?_⟩;apply Sq;apply Sr;apply Hh;apply Hh;(conv=>whnf);refine ⟨[.str (Lib.cut s [46]).2.1,Iv 3],_,fun h=>G82 _ 3,Z,?_⟩;apply Hh;apply Hh;refine Pk ?_;refine Pk ?_;refine Cd _ rfl (fun hc=>?_) (fun hc=>?_)
 ·apply Sr;apply Rt;(conv=>whnf)
  have hc':((Lib.cut s [46]).2.2&&(dir||!isDB (Lib.cut s [46]).2.1 3))=true:=by revert hc; cases (Lib.cut s [46]).2.2<;>cases dir<;>simp
  refine DLe.of_eq (congrArg D.bool ?_)
  rw [validI,hc']; rfl
 apply Sk;apply Sr;(conv=>whnf);refine ⟨[.str (Lib.cut s [46]).1,Iv 8],_,fun _=>G82 _ 8,Z,?_⟩;apply Rt;(conv=>whnf)
 have hc':((Lib.cut s [46]).2.2&&(dir||!isDB (Lib.cut s [46]).2.1 3))=false:=by revert hc; cases (Lib.cut s [46]).2.2<;>cases dir<;>simp
 refine DLe.of_eq (congrArg D.bool ?_)
 rw [validI,hc']; rfl
def hasDot (s:List UInt8):Bool:=decide (0≤Lib.indexByte s 46)
def identI (s:List UInt8) (dir:Bool):List UInt8×Int :=
 if validI s dir=true then if dir=true then (s,0) else if hasDot s=true then (s++[59,49],0) else (s++[46,59,49],0) else ([],4)
theorem G32 (hL:LibOk W0) (s:List UInt8) (dir:Bool) (hs:s.length<1000000000):DFun Tryz.prog W0 225 [.str s,.bool dir] (.tup [.str (identI s dir).1,Iv (identI s dir).2]):=by
 refine Fi Tryz.func225 rfl Tryz.ntmps225 fun Γ=>?_
 apply Sr;apply Sq;apply Sr;(conv=>whnf);refine ⟨[Iv 0,.str s,.bool dir],_,fun _=>G31 hL s dir hs,Z,?_⟩;refine Cd _ rfl (fun hc=>?_) (fun hc=>?_)
 ·apply Sr;apply Rt;(conv=>whnf)
  have h:¬ validI s dir=true:=by simpa using hc
  rw [identI,if_neg h];exact Z
 apply Sk;apply Sq;apply Bk;apply Sq
 have h:validI s dir=true:=by simpa using hc
 apply Rg;refine Tri.cond dir rfl (fun hd=>?_) (fun hd=>?_)
 ·apply Sr;apply Rt;(conv=>whnf);rw [identI,if_pos h,if_pos hd];exact Z
 apply Sr;(conv=>whnf);refine ⟨[.str s,.str [46]],_,fun _=>F119 s 46,Z,?_⟩;refine Tri.cond (hasDot s) rfl (fun h2=>?_) (fun h2=>?_)
 ·apply Sr;(conv=>whnf);refine Sp ?_;apply Rt;(conv=>whnf)
  rw [identI,if_pos h,if_neg (by rw [hd]; simp),if_pos h2]
  exact Z
 apply Sk;apply Sr;(conv=>whnf);refine Sp ?_;apply Rt;(conv=>whnf)
 rw [identI,if_pos h,if_neg (by rw [hd]; simp),if_neg (by rw [h2]; simp)]
 exact Z
def chkI (id m:List UInt8) (dir:Bool):List UInt8×Int:=if (identI m dir).2=0∧(identI m dir).1=id then (m,0) else ([],4)
def nameI (id:List UInt8) (dir:Bool):List UInt8×Int :=
 if dir=true then chkI id id dir else if (cutSuf id [59,49]).2=true then chkI id (Lib.trimSuffix (cutSuf id [59,49]).1 [46]) dir else ([],4)
theorem upto {p:Nat→Prop} {i:Nat} (h0:∀ j,j<i→p j) (h:p i):∀ j,j<i+1→p j:=fun j hj=>(Nat.lt_succ_iff_lt_or_eq.1 hj).elim (h0 j) (fun e=>e ▸ h)
def cmpI (x y:Int):Int:=if x<y then -1 else if y<x then 1 else 0
theorem H190 (n:Int):DFun Tryz.prog W0 190 [Iv n] (.bool false):=by
 refine Fi Tryz.func190 rfl Tryz.ntmps190 fun Γ=>?_
 apply Sr;apply Sr;apply Rt;(conv=>whnf);exact DLe.of_eq (congrArg D.bool (by simp))
theorem H244 (x y:Int):DFun Tryz.prog W0 244 [Iv x,Iv y] (Iv (cmpI x y)):=by
 refine Fi Tryz.func244 rfl Tryz.ntmps244 fun Γ=>?_
 apply Sr;apply Sr;(conv=>whnf);refine ⟨[Iv x],_,fun _=>H190 x,Z,?_⟩;apply Sr;(conv=>whnf);refine ⟨[Iv y],_,fun _=>H190 y,Z,?_⟩;apply Sq;apply Sr;refine Cd false rfl (fun hc=>?_) (fun hc=>?_)
 ·cases hc
 apply Sk;apply Sq;apply Sr;refine Cd false rfl (fun hc=>?_) (fun hc=>?_)
 ·cases hc
 apply Sk;apply Sq;apply Sr;refine Cd (decide (x<y)) rfl (fun hc=>?_) (fun hc=>?_)
 ·apply Sr;apply Rt;(conv=>whnf)
  rw [cmpI,if_pos (by simpa using hc)]; exact .refl _
 apply Sk;rw [cmpI,if_neg (by simpa using hc)];apply Sq;apply Sr;refine Cd (decide (y<x)) rfl (fun hc=>?_) (fun hc=>?_)
 ·apply Sr;apply Rt;(conv=>whnf)
  rw [if_pos (by simpa using hc)]; exact .refl _
 apply Sk;apply Sr;apply Rt;(conv=>whnf)
 rw [if_neg (by simpa using hc)]; exact .refl _
def rankV (s:List UInt8):Int:=if (s==[0])=true then 0 else if (s==[1])=true then 1 else 2
theorem H245 (s:List UInt8):DFun Tryz.prog W0 245 [.str s] (Iv (rankV s)):=by
 refine Fi Tryz.func245 rfl Tryz.ntmps245 fun Γ=>?_
 apply Sr;apply Sq;apply Sr;apply Bk;apply Sr;refine Cd (s==[0]) rfl (fun hc=>?_) (fun hc=>?_)
 ·apply Sr;apply Rt;(conv=>whnf)
  rw [rankV,if_pos hc]; exact .refl _
 apply Sq
 rw [rankV,if_neg (by rw [hc]; decide)]
 apply Rg;refine Cd (s==[1]) rfl (fun hc=>?_) (fun hc=>?_)
 ·apply Sr;apply Rt;(conv=>whnf)
  rw [if_pos hc]; exact .refl _
 apply Sk;apply Sr;apply Rt;(conv=>whnf)
 rw [if_neg (by rw [hc]; decide)]; exact .refl _
end Go.Tame.V

namespace Go.Tame.V
open Go Go.Proofs
variable {W0:World}
def PA (bb:Nat) (acc:List (List UInt8)) (v:Value):Heap:=look [(2000,.box bb [.sl (.own 2001 v) 1 (strs acc)]),(2001,.own v (strs acc).length 1 9)]
theorem K65 (bb:Nat) (n:NV) (p:List UInt8) (l:Int) (acc:List (List UInt8)) (v:Value) (hacc:acc.length<10000000):DCall Tryz.prog W0 148 ([encTop n,.str p,Iv l]++[.box 2000 bb 0]) (PA bb acc v) fun d H'=>∃ v',d=.bool true∧H'=PA bb (acc++[p]) v':=by
 refine DCall.intro ti_ok Tryz.func148 rfl (by decide +kernel) Tryz.ntmps148 rfl fun Γ=>?_
 apply Sr;(conv=>whnf);intro b;apply Sr;apply Rl;(conv=>whnf);refine ⟨trivial,?_⟩;(conv=>whnf);refine ⟨rfl,rfl,?_⟩;(conv=>whnf)
 refine ⟨by show (_+1)*16≤_; simp [strs]; omega,by show _+1≤_; simp [strs]; omega,(fun h=>by cases h),fun v1=>?_⟩
 apply Rl;apply Sr;(conv=>whnf)
 have he:strs acc++[D.str p]=strs (acc++[p]):=by simp [strs]
 refine Tri.boxLe 2000 (cs':=[.sl (.own 2001 v1) 1 (strs (acc++[p]))]) rfl ⟨DLe.trans (DLe.of_eq (congrArg (D.sl (.own 11 v1) 1) he)) (DLe.own 11 2001),trivial⟩ ?_;refine Tri.retK [(7,.bool true)] [(2000,.box bb [.sl (.own 2001 v1) 1 (strs (acc++[p]))]),(2001,.own v1 (strs (acc++[p])).length 1 9)] [(2000,2000),(2001,11)] ⟨Z,rfl,rfl,rfl,rfl,congrArg (fun z=>some (HObj.own v1 z 1 9)) (by simp [strs]),trivial⟩ ?_;(conv=>whnf);exact ⟨_,.refl _,v1,rfl,rfl⟩
theorem szL_split:∀ {l:List NV} {i:Nat} (h:i<l.length),szL (l.take i)+sz l[i]≤szL l
 | k::r,0,_=>by simp only [List.take_zero,szL,List.getElem_cons_zero]; omega
 | k::r,i+1,h=>by
  have:=szL_split (l:=r) (i:=i) (by simpa using h)
  simp only [List.take_succ_cons,szL,List.getElem_cons_succ]; omega
theorem K64 (bb:Nat):∀ (N:Nat) (n:NV) (p:List UInt8) (l:Int) (acc:List (List UInt8)) (v:Value),sz n<N→p.length+sz n+l.toNat+n.name.length<100000000→1≤l→acc.length+sz n<10000000 →
  DCall Tryz.prog W0 125 [encTop n,.str p,Iv l,.fn (.func 148) [] [.box 2000 bb 0]] (PA bb acc v) fun d H'=>∃ v',d=.bool true∧H'=PA bb (acc++pathsS n p l) v':=by
 refine fun N=>Nat.rec (fun n p l acc v h=>absurd h (Nat.not_lt_zero _)) (fun N ih n p l acc v hN hb hl hacc=>?_) N
 refine DCall.intro ti_ok Tryz.func125 rfl (by decide +kernel) Tryz.ntmps125 rfl fun Γ=>?_
 apply Sr;(conv=>whnf);intro b;apply S2;refine Tri.regionE ti_ok ?_;apply Rl;(conv=>whnf);refine .inr ?_;(conv=>whnf);refine ⟨_,[(2000,2000),(2001,2001)],_,K65 bb n p l acc v (by omega),rfl,⟨.refl _,.refl _,.refl _,?_⟩,?_⟩
 ·exact LeL.refl _
 rintro d H' ⟨v1,rfl,rfl⟩;refine ⟨_,.refl _,?_⟩;refine Cd _ rfl (fun hc=>?_) (fun hc=>?_)
 ·exact absurd hc (by simp)
 apply Sk;apply Sq;apply Sr;apply Rl;apply Bk
 have h0:acc++[p]++pathsSL (n.kids.take 0) p l=acc++[p]:=by simp [pathsSL]
 refine Tri.loopK (α:={ x:Nat×Value // x.1≤n.kids.length })
  (fun x=>[(1,.str p),(2,Iv l),(3,.fn (.func 148) [] [.box 2000 bb 0]),(18,.sl .none 12 (n.kids.map enc)),(19,Iv (n.kids.map enc).length),(20,Iv x.1.1)])
  (fun x=>[(2000,.box bb [.sl (.own 2001 x.1.2) 1 (strs (acc++[p]++pathsSL (n.kids.take x.1.1) p l))]),(2001,.own x.1.2 (strs (acc++[p]++pathsSL (n.kids.take x.1.1) p l)).length 1 9)]) (fun x=>n.kids.length-x.1.1) ⟨(0,v1),by simp⟩ [(2000,2000),(2001,2001)]
  ⟨Z,rfl,rfl,congrArg (fun z=>some (HObj.box bb [.sl (.own 2001 v1) 1 (strs z)])) h0.symm,rfl,congrArg (fun z=>some (HObj.own v1 (strs z).length 1 9)) h0.symm,trivial⟩ ?_
 rintro ⟨⟨i,v2⟩,hi⟩;dsimp only at hi ⊢;apply Sr;apply Sq;refine Cd _ rfl (fun hc=>?_) (fun hc=>?_)
 ·apply Sk;(conv=>whnf)
  have hik:i<n.kids.length:=by simpa using hc
  have hks:=kid_sz hik
  have hbl:=below_len p n.kids[i].name (l+1)
  have hkl:=kids_len n
  have hnx:=pathsSL_next hik p l
  have hll:=pathsSL_len (n.kids.take i) p l
  have hlt:=szL_split hik
  have hcz:=cntL_sz (n.kids.take i)
  have hsze:=sz_eq n
  apply Sq;apply Bk;apply Sr;(conv=>whnf);refine Sp ?_;(conv=>whnf);refine ⟨encTop n.kids[i],fun _=>get_kid hik,?_⟩;(conv=>whnf);intro b;apply Rl;apply Sq;refine Tri.drawTailE ti_ok 10 mixed (by kernel_rfl) ?_;apply Rl;apply Rl;refine Ir ?_;(conv=>whnf);refine ⟨[.str p,.str n.kids[i].name,Iv (l+1)],_,fun _=>F99 p n.kids[i].name (l+1) (by omega),Z,?_⟩;refine Ir ?_;(conv=>whnf);refine .inr ?_;(conv=>whnf)
  refine ⟨_,[(2000,2000),(2001,2001)],_,ih n.kids[i] (below p n.kids[i].name (l+1)) (l+1) (acc++[p]++pathsSL (n.kids.take i) p l) v2 (by omega) (by omega) (by omega) (by simp only [List.length_append,List.length_cons,List.length_nil]; omega),rfl,Z,?_⟩
  rintro d H' ⟨v3,rfl,rfl⟩;refine ⟨_,.refl _,?_⟩;refine Cd _ rfl (fun hc=>?_) (fun hc=>?_)
  ·exact absurd hc (by simp)
  apply Sk;apply Rg;refine Ir ?_;(conv=>whnf)
  have he:acc++[p]++pathsSL (n.kids.take i) p l++pathsS n.kids[i] (below p n.kids[i].name (l+1)) (l+1)=acc++[p]++pathsSL (n.kids.take (i+1)) p l:=by rw [hnx,List.append_assoc]
  exact ⟨⟨(i+1,v3),by omega⟩,[(2000,2000),(2001,2001)],by show n.kids.length-(i+1)<n.kids.length-i; omega,Z,rfl,rfl,congrArg (fun z=>some (HObj.box bb [.sl (.own 2001 v3) 1 (strs z)])) he,rfl,congrArg (fun z=>some (HObj.own v3 (strs z).length 1 9)) he,trivial⟩
 refine Tri.exit ?_
 have hin:i=n.kids.length:=by simp at hc; omega
 have he:acc++[p]++pathsSL (n.kids.take i) p l=acc++pathsS n p l:=by
  rw [hin,List.take_length,pathsS_eq,List.append_assoc]; rfl
 apply Sr;(conv=>whnf);refine Tri.retK [(8,.bool true)] [(2000,.box bb [.sl (.own 2001 v2) 1 (strs (acc++pathsS n p l))]),(2001,.own v2 (strs (acc++pathsS n p l)).length 1 9)] [(2000,2000),(2001,2001)] ⟨Z,rfl,rfl,congrArg (fun z=>some (HObj.box bb [.sl (.own 2001 v2) 1 (strs z)])) he,rfl,congrArg (fun z=>some (HObj.own v2 (strs z).length 1 9)) he,trivial⟩ ?_;(conv=>whnf);exact ⟨_,.refl _,v2,rfl,rfl⟩
theorem K34 (hL:LibOk W0) (n:NV) (hn:Fits n):DFun Tryz.prog W0 96 [encTop n] (.sl .none 1 (strs (if valid n then pathsS n [] 1 else []))):=by
 refine Fi Tryz.func96 rfl Tryz.ntmps96 fun Γ=>?_
 apply Sr;(conv=>whnf);intro b;apply Sq;apply Sr;apply Rl;(conv=>whnf)
 refine ⟨[encTop n],_,fun _=>F39 hL n (by unfold Fits at hn; omega),Z,?_⟩
 refine Cd _ rfl (fun hc=>?_) (fun hc=>?_)
 ·apply Sr;apply Rt;(conv=>whnf)
  have hv:valid n=false:=by simpa using hc
  rw [hv];exact DLe.nil
 apply Sk
 have hv:valid n=true:=by simpa using hc
 rw [if_pos hv];apply Sr;(conv=>whnf);intro b;apply Sq;refine Tri.ownNil 2001 1 9 ?_;refine Tri.boxLe 3 (cs':=[.sl (.own 2001 (.slice none 0 0)) 1 []]) rfl ⟨DLe.nilOwn,trivial⟩ ?_;refine Tri.regionX ti_ok ?_;apply Il;apply Rl;(conv=>whnf)
 refine .inr (XOp.call rfl [encTop n,.str [],Iv 1,.fn (.func 148) [] [.box 2000 b 0]] [(2000,3),(2001,2001)] (K64 b _ n [] 1 [] (.slice none 0 0) (Nat.lt_succ_self _) (by simp; unfold Fits at hn; omega) (by omega) (by simp; unfold Fits at hn; omega)) rfl ⟨.refl _,.refl _,.refl _,DLe.fn trivial ⟨DLe.box,trivial⟩,trivial⟩ ?_)
 rintro d H' ⟨v',rfl,rfl⟩;refine ⟨_,.refl _,?_⟩;apply Sr;apply Rl;apply Rt;(conv=>whnf);exact DLe.unown
structure PF where
 path:List UInt8
 data:List UInt8
 deriving DecidableEq
def encPF (f:PF):D:=.agg [.str f.path,.str f.data]
def isFile (n:NV) (p:List UInt8):Bool:=bif (getR n p).2==0 then (getR n p).1.kind==1 else false
def fileAt (n:NV) (p:List UInt8):Option PF:=if isFile n p=true then some ⟨p,(getR n p).1.text⟩ else none
def filesV (n:NV):List PF:=(if valid n then pathsS n [] 1 else []).filterMap (fileAt n)
theorem fm_next {α β:Type} (f:α→Option β) {l:List α} {i:Nat} (h:i<l.length):(l.take (i+1)).filterMap f=(l.take i).filterMap f++(f l[i]).toList:=by
 rw [List.take_succ_eq_append_getElem h,List.filterMap_append]
 simp [List.filterMap_cons]
 cases f l[i]<;>rfl
theorem strs_get {l:List (List UInt8)} {i:Nat} (h:i<l.length):(strs l)[((i:Int)).toNat]? = some (.str l[i]):=by simp [strs,h]
mutual
theorem pathsS_pl:∀ (n:NV) (q:List UInt8) (l:Int),∀ p∈pathsS n q l,p.length≤q.length+sz n
 | .mk _ _ _ _ _ _ _ _ _ _ ks ss,q,l,p,hp=>by
  simp only [pathsS,List.mem_cons] at hp
  rcases hp with rfl|hp
  ·omega
  have:=pathsSL_pl ks q l p hp
  simp only [sz]; omega
theorem pathsSL_pl:∀ (ks:List NV) (q:List UInt8) (l:Int),∀ p∈pathsSL ks q l,p.length≤q.length+szL ks
 | [],q,l,p,hp=>by cases hp
 | k::r,q,l,p,hp=>by
  simp only [pathsSL,List.mem_append] at hp;simp only [szL]
  rcases hp with hp|hp
  ·have:=pathsS_pl k _ _ p hp
   have:=below_len q k.name (l+1)
   omega
  have:=pathsSL_pl r q l p hp
  omega
end
theorem H65 (hL:LibOk W0) (n:NV) (hn:Fits n):DFun Tryz.prog W0 65 [encTop n] (.sl .none 2 ((filesV n).map encPF)):=by
 refine Fi Tryz.func65 rfl Tryz.ntmps65 fun Γ=>?_
 apply Sr;(conv=>whnf);intro b1;apply Sr;apply Sq;apply Sr;apply Rl;(conv=>whnf);refine ⟨[encTop n],_,fun _=>K34 hL n hn,Z,?_⟩;(conv=>whnf)
 have hfv:filesV n=(if valid n then pathsS n [] 1 else []).filterMap (fileAt n):=rfl
 have hval:∀ p∈(if valid n then pathsS n [] 1 else []),valid n=true∧p.length<1000000000:=by
  intro p hp
  split at hp
  ·rename_i hv
   have:=pathsS_pl n [] 1 p hp
   simp at this
   unfold Fits at hn
   exact ⟨hv,by omega⟩
  cases hp
 have hln:(if valid n then pathsS n [] 1 else []).length<100000000:=by
  split
  ·rw [pathsS_len]; have:=cnt_sz n; unfold Fits at hn; omega
  show (0:Nat)<100000000; omega
 rw [hfv];generalize (if valid n then pathsS n [] 1 else [])=P at *;refine Tri.own 3 1000 2 121 rfl (fun w=>?_);apply Bk
 refine Tri.loopK (α:={ i:Nat // i≤P.length }×Value) (fun x=>[(1,.box 1 b1 0),(3,.sl (.own 1000 x.2) 2 (((P.take x.1.1).filterMap (fileAt n)).map encPF)),(9,.sl .none 1 (strs P)),(10,Iv ((strs P).length:Nat)),(11,Iv x.1.1)])
  (fun x=>[(1,.box b1 (encTop n).cells),(1000,.own x.2 (((P.take x.1.1).filterMap (fileAt n)).map encPF).length 2 121)]) (fun x=>P.length-x.1.1) (⟨0,by omega⟩,w) [(1,1),(1000,1000)]
  ⟨Z,rfl,Y⟩ ?_
 rintro ⟨⟨i,hi⟩,w⟩;dsimp only at hi ⊢
 have hsl:(strs P).length=P.length:=by simp [strs]
 apply Sr;apply Sq;refine Cd (decide ((i:Int)<((strs P).length:Nat))) rfl (fun hc=>?_) (fun hc=>?_)
 ·apply Sk
  have hia:i<P.length:=by have:=of_decide_eq_true hc; omega
  have hnx:=fm_next (fileAt n) hia
  have hll:(((P.take i).filterMap (fileAt n)).map encPF).length≤i:=by
   rw [List.length_map]; have:=List.length_filterMap_le (fileAt n) (P.take i); rw [List.length_take] at this; omega
  obtain ⟨hv,hpl⟩:=hval P[i] (List.getElem_mem _);generalize (P.take i).filterMap (fileAt n)=L at *;apply Sq;apply Bk;apply Sr;(conv=>whnf)
  refine ⟨fun _=>by simp [strs]; omega,?_⟩
  (conv=>whnf);refine ⟨.str P[i],fun _=>strs_get hia,?_⟩;apply Sr;apply Rl;(conv=>whnf);refine ⟨[encTop n,.str P[i]],_,fun _=>G66 hL P[i] hpl n hn hv,Z,?_⟩;(conv=>whnf);intro b6;apply Rl;apply Sr;apply Hh;apply Rl;apply Hh;refine Pk ?_;refine Cd (isFile n P[i]) rfl (fun hc=>?_) (fun hc=>?_)
  ·apply Rg;apply Rl;(conv=>whnf);refine ⟨trivial,?_⟩;(conv=>whnf);refine ⟨rfl,rfl,?_⟩;(conv=>whnf)
   refine ⟨by show (_+1)*32≤_; omega,by show _+1≤_; omega,(fun h=>by cases h),fun w2=>?_⟩
   apply Rg;refine Ir ?_;(conv=>whnf)
   have he:L.map encPF++[encPF ⟨P[i],(getR n P[i]).1.text⟩]=((P.take (i+1)).filterMap (fileAt n)).map encPF:=by rw [hnx,fileAt,if_pos hc]; simp
   exact ⟨(⟨i+1,hia⟩,w2),[(1,1),(1000,34)],by show P.length-(i+1)<P.length-i; omega,⟨.refl _,DLe.ownEq he,.refl _,.refl _,.refl _,trivial⟩,rfl,rfl,rfl,rfl,ownH (by rw [← he]; simp),trivial⟩
  apply Sk;apply Rg;refine Ir ?_;(conv=>whnf)
  have he:L=(P.take (i+1)).filterMap (fileAt n):=by rw [hnx,fileAt,if_neg (by rw [hc]; decide)]; simp
  exact ⟨(⟨i+1,hia⟩,w),[(1,1),(1000,1000)],by show P.length-(i+1)<P.length-i; omega,⟨.refl _,DLe.ownEq (by rw [← he]),.refl _,.refl _,.refl _,trivial⟩,rfl,rfl,rfl,rfl,ownH (by rw [← he]),trivial⟩
 have hin:i=P.length:=by have:=of_decide_eq_false hc; omega
 subst hin;rw [List.take_length];refine Tri.exit ?_;apply Sr;apply Rt;(conv=>whnf);exact DLe.unown
theorem _root_.Go.Tame.DCall.heapD2 {f:FuncId} {ds:List D} {Q:D→Heap→Prop} {H:Heap} {k1 s1 k2 s2:Nat} {o1 o2:HObj} (h1:H s1=some o1) (h2:H s2=some o2) (hc:DCall Tryz.prog W0 f ds (look [(k1,o1),(k2,o2)]) Q):DCall Tryz.prog W0 f ds (handed H [(k1,s1),(k2,s2)]) Q:=by
 have e:handed H [(k1,s1),(k2,s2)]=look [(k1,o1),(k2,o2)]:=by
  funext j
  simp only [handed,look]
  cases Nat.beq j k1 with
  | true=>exact h1
  | false =>
   cases Nat.beq j k2 with
   | true=>exact h2
   | false=>rfl
 rw [e]; exact hc
def hitAt (at' n k:Int):Bool:=bif decide (at'≤k) then decide (k<at'+n) else false
def findV (T:List Int) (n:Int):Nat→Int→Int
 | 0,a=>a
 | f+1,a=>if firstIdx (hitAt a n) T<0 then a else findV T n f (T.getD (firstIdx (hitAt a n) T).toNat 0+1)
def cntGe (T:List Int) (a:Int):Nat:=(T.filter fun k=>decide (a≤k)).length
def findW (T:List Int) (n a:Int):Int:=findV T n (cntGe T a) a
theorem cntGe_lt {T:List Int} {a k:Int} (hm:k∈T) (h:a≤k):cntGe T (k+1)<cntGe T a:=by
 unfold cntGe
 have hsub:∀ l:List Int,(l.filter fun x=>decide (k+1≤x)).length≤(l.filter fun x=>decide (a≤x)).length:=by
  intro l
  induction l with
  | nil=>exact Nat.le_refl _
  | cons x r ih =>
   rw [List.filter_cons,List.filter_cons]
   cases h1:decide (k+1≤x)<;>cases h2:decide (a≤x)<;>simp at h1 h2 ⊢<;>omega
 induction T with
 | nil=>cases hm
 | cons x r ih =>
  rw [List.filter_cons,List.filter_cons]
  rcases List.mem_cons.1 hm with rfl|hm
  ·have:=hsub r
   rw [if_neg (by simp; omega),if_pos (by simpa using h)]; simp; omega
  have:=ih hm
  cases h1:decide (k+1≤x)<;>cases h2:decide (a≤x)<;>simp at h1 h2 ⊢<;>omega
theorem hit_ge {a n k:Int} (h:hitAt a n k=true):a≤k∧k<a+n:=by
 unfold hitAt at h
 cases h1:decide (a≤k)<;>rw [h1] at h<;>simp at h h1
 exact ⟨h1,h⟩
theorem findV_none {T:List Int} {n a:Int} (h:firstIdx (hitAt a n) T<0):∀ f,findV T n f a=a
 | 0=>rfl
 | f+1=>by rw [findV,if_pos h]
theorem getD_hit {T:List Int} {n a:Int} {i:Nat} (hi:i<T.length) (e:firstIdx (hitAt a n) T=i):T.getD (firstIdx (hitAt a n) T).toNat 0=T[i]:=by rw [e]; simp [List.getD,hi]
theorem findV_succ {T:List Int} {n:Int}:∀ (f:Nat) (a:Int),cntGe T a≤f→findV T n (f+1) a=findV T n f a
 | 0,a,h=>by
  rcases firstIdx_or (hitAt a n) T with ⟨e,_⟩|⟨i,hi,e,hp,_⟩
  ·have hn:firstIdx (hitAt a n) T<0:=by omega
   rw [findV_none hn,findV_none hn]
  have:=cntGe_lt (List.getElem_mem hi) (hit_ge hp).1; omega
 | f+1,a,h=>by
  rcases firstIdx_or (hitAt a n) T with ⟨e,_⟩|⟨i,hi,e,hp,_⟩
  ·have hn:firstIdx (hitAt a n) T<0:=by omega
   rw [findV_none hn,findV_none hn]
  have:=cntGe_lt (List.getElem_mem hi) (hit_ge hp).1
  have hn:¬ firstIdx (hitAt a n) T<0:=by omega
  rw [findV,if_neg hn,getD_hit hi e,findV_succ f _ (by omega),findV,if_neg hn,getD_hit hi e]
theorem findV_add {T:List Int} {n a:Int}:∀ d,findV T n (cntGe T a+d) a=findW T n a
 | 0=>rfl
 | d+1=>by rw [← Nat.add_assoc,findV_succ _ _ (by omega),findV_add d]
theorem findV_more {T:List Int} {n:Int} (f:Nat) (a:Int) (h:cntGe T a≤f):findV T n f a=findW T n a:=by
 have:=findV_add (T:=T) (n:=n) (a:=a) (f-cntGe T a)
 rwa [show cntGe T a+(f-cntGe T a)=f by omega] at this
theorem findW_none {T:List Int} {n a:Int} (h:firstIdx (hitAt a n) T<0):findW T n a=a:=findV_none h _
theorem findW_hit {T:List Int} {n a:Int} {i:Nat} (hi:i<T.length) (e:firstIdx (hitAt a n) T=i) (hp:hitAt a n T[i]=true):findW T n a=findW T n (T[i]+1):=by
 have:=cntGe_lt (List.getElem_mem hi) (hit_ge hp).1
 have hn:¬ firstIdx (hitAt a n) T<0:=by omega
 rw [← findV_more (cntGe T a+1) a (by omega),findV,if_neg hn,getD_hit hi e,findV_more _ _ (by omega)]
theorem findV_range {T:List Int} {n B:Int} (hT:∀ k∈T,k≤B):∀ (f:Nat) (a:Int),a≤findV T n f a∧(findV T n f a≤a∨findV T n f a≤B+1)
 | 0,a=>⟨Int.le_refl _,.inl (Int.le_refl _)⟩
 | f+1,a=>by
  rcases firstIdx_or (hitAt a n) T with ⟨e,_⟩|⟨i,hi,e,hp,_⟩
  ·have hn:firstIdx (hitAt a n) T<0:=by omega
   rw [findV_none hn]; omega
  have hn:¬ firstIdx (hitAt a n) T<0:=by omega
  rw [findV,if_neg hn,getD_hit hi e]
  have h1:=findV_range (n:=n) hT f (T[i]+1)
  have h2:=(hit_ge hp).1
  have h3:=hT _ (List.getElem_mem hi)
  omega
theorem findW_range {T:List Int} {n B:Int} (hT:∀ k∈T,k≤B) (a:Int):a≤findW T n a∧(findW T n a≤a∨findW T n a≤B+1):=findV_range hT _ _
theorem H144 (a n k:Int) (ha:-1000000000000≤a) (ha2:a≤1000000000000) (hn:0≤n) (hn2:n≤1000000000000) (b1 b2:Nat):DCall Tryz.prog W0 144 [Iv k,.box 4101 b1 0,.box 4102 b2 0] (look [(4101,.box b1 [Iv a]),(4102,.box b2 [Iv n])]) fun d H'=>d=.bool (hitAt a n k)∧H'=look [(4101,.box b1 [Iv a]),(4102,.box b2 [Iv n])]:=by
 refine DCall.intro ti_ok Tryz.func144 rfl (by decide +kernel) Tryz.ntmps144 rfl fun Γ=>?_
 apply Sr;apply Sr;apply Rl;apply Rl;apply Rl;apply Hh;apply Hh;refine Ir ?_;apply Hh;apply Hh;refine Pk ?_;(conv=>whnf);refine Tri.retK [(4,.bool (hitAt a n k))] [(4101,.box b1 [Iv a]),(4102,.box b2 [Iv n])] [(4101,4101),(4102,4102)] ⟨Z,rfl,Y⟩ ?_;(conv=>whnf);exact ⟨_,.refl _,rfl,rfl⟩
theorem H143 (T:List Int) (hT:T.length<1000000) (fid:Nat) (caps:List D) (o1 o2:HObj) (p:Int→Bool) (hp0:∀ k∈T,DCall Tryz.prog W0 fid (Iv k::caps) (look [(4101,o1),(4102,o2)]) fun d H'=>d=.bool (p k)∧H'=look [(4101,o1),(4102,o2)]):DCall Tryz.prog W0 143 [.sl .none 1 (intsD T),.fn (.func fid) [] caps] (look [(4101,o1),(4102,o2)]) fun d H'=>d=Iv (firstIdx p T)∧H'=look [(4101,o1),(4102,o2)]:=by
 refine DCall.intro ti_ok Tryz.func143 rfl (by decide +kernel) Tryz.ntmps143 rfl fun Γ=>?_
 apply Sr;apply Sq;apply Sr;apply Bk;refine Tri.loopK (α:={ i:Nat // i≤T.length∧∀ j (h:j<T.length),j<i→p (T[j])=false }) (fun x=>[(0,.sl .none 1 (intsD T)),(1,.fn (.func fid) [] caps),(7,Iv (intsD T).length),(8,Iv x.1)]) (fun _=>[(4101,o1),(4102,o2)]) (fun x=>T.length-x.1) ⟨0,by simp⟩ [(4101,4101),(4102,4102)] ⟨Z,rfl,Y⟩ ?_;rintro ⟨i,hi,hp⟩;dsimp only;apply Sr;apply Sq;refine Cd (decide ((i:Int)<(intsD T).length)) rfl (fun hc=>?_) (fun hc=>?_)
 ·apply Sk
  have hia:i<T.length:=by simpa [intsD] using hc
  apply Sq;apply Bk;apply Sr;apply Sq;refine Tri.regionX ti_ok ?_;(conv=>whnf)
  refine .inl ⟨fun _=>by simp [intsD]; omega,?_⟩
  (conv=>whnf);refine .inl ⟨Iv T[i],fun _=>ints_get hia,?_⟩;(conv=>whnf);refine .inr (XOp.call rfl (Iv T[i]::caps) [(4101,4101),(4102,4102)] (DCall.heapD2 rfl rfl (hp0 T[i] (List.getElem_mem hia))) rfl ⟨.refl _,LeL.refl _⟩ ?_);rintro d H' ⟨rfl,rfl⟩;refine ⟨_,.refl _,?_⟩;refine Cd (p T[i]) rfl (fun hc=>?_) (fun hc=>?_)
  ·apply Sr;(conv=>whnf);refine Tri.retK [(4,Iv (firstIdx p T))] [(4101,o1),(4102,o2)] [(4101,4101),(4102,4102)] ⟨⟨intDLe (firstIdx_some (p:=p) hia hp hc).symm,trivial⟩,rfl,Y⟩ ?_;(conv=>whnf);exact ⟨_,.refl _,rfl,rfl⟩
  apply Sk;apply Rg;refine Ir ?_;(conv=>whnf)
  exact ⟨⟨i+1,hia,fun j h hj=>by
   by_cases hji:j=i
   ·subst hji; exact hc
   exact hp j h (by omega)⟩,[(4101,4101),(4102,4102)],by show T.length-(i+1)<T.length-i; omega,Z,rfl,Y⟩
 have hin:i=T.length:=by simp [intsD] at hc; omega
 refine Tri.exit ?_;apply Sr;(conv=>whnf);refine Tri.retK [(4,Iv (firstIdx p T))] [(4101,o1),(4102,o2)] [(4101,4101),(4102,4102)] ⟨⟨intDLe (firstIdx_none (p:=p) fun j h=>hp j h (by omega)).symm,trivial⟩,rfl,Y⟩ ?_;(conv=>whnf);exact ⟨_,.refl _,rfl,rfl⟩
theorem H142 (T:List Int) (hT:T.length<1000000) (hT2:∀ k∈T,k≤1000000) (a n:Int) (ha:0≤a) (ha2:a≤100000000000) (hn:0≤n) (hn2:n≤100000000000) (b7 b8:Nat):DCall Tryz.prog W0 142 [Iv n,.box 4201 b7 0,.box 4202 b8 0] (look [(4201,.box b7 [.sl .none 1 (intsD T)]),(4202,.box b8 [Iv a])]) fun d H'=>d=Iv (findW T n a)∧H'=look [(4201,.box b7 [.sl .none 1 (intsD T)]),(4202,.box b8 [Iv (findW T n a+n)])]:=by
 refine DCall.intro ti_ok Tryz.func142 rfl (by decide +kernel) Tryz.ntmps142 rfl fun Γ=>?_
 apply Sr;(conv=>whnf);intro b3;apply Bk;refine Tri.loopK (α:={ x:Int // findW T n x=findW T n a∧a≤x∧(x≤a∨x≤1000001) }) (fun x=>[(1,.box 4201 b7 0),(2,.box 4202 b8 0),(3,.box 3 b3 0)]) (fun x=>[(4201,.box b7 [.sl .none 1 (intsD T)]),(4202,.box b8 [Iv x.1]),(3,.box b3 [Iv n])]) (fun x=>cntGe T x.1) ⟨a,rfl,Int.le_refl _,.inl (Int.le_refl _)⟩ [(4201,4201),(4202,4202),(3,3)] ⟨Z,rfl,Y⟩ ?_;rintro ⟨x,hx,hx1,hx2⟩;dsimp only at hx hx1 hx2 ⊢;apply Bk;apply Sq;refine Tri.regionX ti_ok ?_;(conv=>whnf);refine .inl ⟨rfl,?_⟩;(conv=>whnf);refine .inr (XOp.call rfl [.sl .none 1 (intsD T),.fn (.func 144) [] [.box 4101 b8 0,.box 4102 b3 0]] [(4101,4202),(4102,3)] (DCall.heapD2 rfl rfl (H143 T hT 144 [.box 4101 b8 0,.box 4102 b3 0] _ _ (hitAt x n) (fun k hk=>H144 x n k (by omega) (by omega) hn (by omega) b8 b3))) rfl ⟨.refl _,DLe.fn trivial ⟨DLe.box,DLe.box,trivial⟩,trivial⟩ ?_);rintro d H' ⟨rfl,rfl⟩;refine ⟨_,.refl _,?_⟩;apply Sq;apply Sr;refine Cd (decide (firstIdx (hitAt x n) T<0)) rfl (fun hc=>?_) (fun hc=>?_)
 ·apply Sq
  have hf:findW T n x=x:=findW_none (of_decide_eq_true hc)
  apply Rg;apply Rl;apply Sr;apply Rl;apply Rl;refine Ir ?_;apply Rl;apply Sr;(conv=>whnf);refine Tri.retK [(4,Iv x)] [(4201,.box b7 [.sl .none 1 (intsD T)]),(4202,.box b8 [Iv (x+n)])] [(4201,4201),(4202,4202)] ⟨Z,rfl,Y⟩ ?_;(conv=>whnf)
  have hfa:findW T n a=x:=by rw [← hx,hf]
  rw [hfa];exact ⟨_,.refl _,rfl,rfl⟩
 have hge:¬ firstIdx (hitAt x n) T<0:=of_decide_eq_false hc
 obtain ⟨i,hi,e,hp⟩:∃ (i:Nat) (h:i<T.length),firstIdx (hitAt x n) T=i∧hitAt x n T[i]=true:=by
  rcases firstIdx_or (hitAt x n) T with ⟨e,_⟩|⟨i,hi,e,hp,_⟩
  ·omega
  exact ⟨i,hi,e,hp⟩
 have hnx:=findW_hit hi e hp
 have hlt:=cntGe_lt (List.getElem_mem hi) (hit_ge hp).1
 have hh:=hit_ge hp
 have hk:=hT2 _ (List.getElem_mem hi)
 rw [e];apply Sk;apply Rg;apply Rl;(conv=>whnf)
 refine ⟨fun _=>by simp [intsD]; omega,?_⟩
 (conv=>whnf);refine ⟨Iv T[i],fun _=>ints_get hi,?_⟩;refine Ir ?_;apply Rl;(conv=>whnf);exact ⟨⟨T[i]+1,by rw [← hnx,hx],by omega,.inr (by omega)⟩,[(4201,4201),(4202,4202),(3,3)],hlt,Z,rfl,Y⟩
section
variable {α:Type}
def aget (l:List (List UInt8×α)) (k:List UInt8):Option α:=(l.find? fun x=>x.1==k).map (·.2)
def aset (l:List (List UInt8×α)) (k:List UInt8) (v:α):List (List UInt8×α) :=
 match aget l k with
 | some _=>l.map fun x=>if x.1==k then (x.1,v) else x
 | none=>l++[(k,v)]
def encMap (enc:α→D) (l:List (List UInt8×α)):List (D×D):=l.map fun x=>(.str x.1,enc x.2)
theorem mget_enc (enc:α→D) (l:List (List UInt8×α)) (k:List UInt8):mget (encMap enc l) (.str k)=(aget l k).map enc:=by
 unfold mget aget encMap
 induction l with
 | nil=>rfl
 | cons x r ih =>
  rw [List.map_cons,List.find?_cons,List.find?_cons]
  show (match x.1==k with|true=>_|false=>_:Option (D×D)).map _=_
  cases h:x.1==k with
  | true=>rfl
  | false=>exact ih
theorem mset_enc (enc:α→D) (l:List (List UInt8×α)) (k:List UInt8) (v:α):mset (encMap enc l) (.str k) (enc v)=encMap enc (aset l k v):=by
 unfold mset aset
 rw [mget_enc]
 cases h:aget l k with
 | none=>simp [encMap]
 | some y =>
  simp only [Option.map_some,encMap,List.map_map]
  congr 1
  funext x
  show (if x.1==k then _ else _)=_
  simp only [Function.comp]
  split<;>rfl
theorem encMap_keys (enc:α→D) (l:List (List UInt8×α)):∀ x∈encMap enc l,keyD .string x.1=true:=by
 intro x hx;obtain ⟨y,_,rfl⟩:=List.mem_map.1 hx
 rfl
theorem aget_cons (x:List UInt8×α) (r:List (List UInt8×α)) (q:List UInt8):aget (x::r) q=if x.1=q then some x.2 else aget r q:=by
 unfold aget
 rw [List.find?_cons]
 by_cases h:x.1=q
 ·rw [if_pos h]; simp [h]
 rw [if_neg h]
 have:(x.1==q)=false:=by simpa using h
 rw [this]
theorem aget_map (k:List UInt8) (v:α) (q:List UInt8):∀ l:List (List UInt8×α),aget (l.map fun x=>if x.1==k then (x.1,v) else x) q=if q=k then (aget l k).map (fun _=>v) else aget l q
 | []=>by split<;>rfl
 | x::r=>by
  rw [List.map_cons,aget_cons,aget_map k v q r,aget_cons,aget_cons]
  by_cases h:x.1=k
  ·by_cases hq:q=k
   ·subst hq; simp [h]
   have:¬ k=q:=fun e=>hq e.symm
   simp [h,hq,this]
  by_cases hq:q=k
  ·subst hq; simp [h]
  simp [h,hq]
theorem aget_aset (l:List (List UInt8×α)) (k:List UInt8) (v:α) (q:List UInt8):aget (aset l k v) q=if q=k then some v else aget l q:=by
 unfold aset
 cases h:aget l k with
 | none =>
  simp only [aget,List.find?_append]
  by_cases hq:q=k
  ·subst hq;rw [if_pos rfl]
   have:l.find? (fun x=>x.1==q)=none:=by simpa [aget] using h
   rw [this]; simp
  rw [if_neg hq]
  have:((k==q)=false):=by simpa using fun e=>hq e.symm
  cases l.find? (fun x=>x.1==q)<;>simp [this]
 | some y=>rw [aget_map,h]; rfl
end
variable {P:Program} {nt:Nat} {σ:DSt} {dst:Option Tmp} {K:DSt→Prop}
theorem _root_.Go.Tame.XOp.mpGet {t kt et:TypeId} {m x:Operand} {ok:Bool} (s:Nat) {b:Nat} {α:Type} {enc:α→D} {l:List (List UInt8×α)} {k:List UInt8} {z:α} {zv:Value} (hm:P.underlying t=some (.map kt et)) (hd:P.underlying kt=some .string)
  (hx:σ.ev m=.raw (.map (some b))) (hs:σ.H s=some (.mp b (encMap enc l))) (hq:σ.ev x=.str k)
  (hz:∀ w,(zeroValue et).run P w=.ok zv w) (hzr:∀ w C,Rep w C (enc z) zv)
  (hK:K (σ.put dst (if ok then .tup [enc ((aget l k).getD z),.bool (aget l k).isSome] else enc ((aget l k).getD z)))):XOp P W0 nt σ dst (.lookup t m x ok) K:=by
 cases hg:aget l k with
 | some y =>
  rw [hg] at hK
  exact XOp.mpHit s hm hd hx hs hq rfl (encMap_keys enc l) (by rw [mget_enc,hg]; rfl) hK
 | none =>
  rw [hg] at hK
  exact XOp.mpMiss s hm hd hx hs hq rfl (encMap_keys enc l) (by rw [mget_enc,hg]; rfl) hz hzr hK
theorem _root_.Go.Tame.XOp.mpSet {t kt et:TypeId} {m x y:Operand} (s:Nat) {b:Nat} {α:Type} {enc:α→D} {l:List (List UInt8×α)} {k:List UInt8} {v:α} (hm:P.underlying t=some (.map kt et)) (hd:P.underlying kt=some .string)
  (hx:σ.ev m=.raw (.map (some b))) (hs:σ.H s=some (.mp b (encMap enc l))) (hq:σ.ev x=.str k) (hy:σ.ev y=enc v)
  (hK:K ((σ.setH s (some (.mp b (encMap enc (aset l k v))))).put dst .undef)):XOp P W0 nt σ dst (.mapUpdate t m x y) K :=
 XOp.mpPut s hm hd hx hs hq rfl (encMap_keys enc l) (by rw [hy,mset_enc]; exact hK)
structure PV where
 m:MV
 files:List PF
 order:List (List UInt8)
 given:List (List UInt8×FV)
 start:Int
 iso:Int
 udf:Int
 desc:Int
 free:Int
def planC (p:PV) (bg:Nat):List D:=(encM p.m).cells++[.sl .none 2 (p.files.map encPF),.sl .none 1 (strs p.order),.raw (.map (some bg)),Iv p.start,Iv p.iso,Iv p.udf,Iv p.desc,Iv p.free]
def zF:FV:=⟨[],0,0⟩
structure XS where
 data:List (List UInt8×List UInt8)
 own:List (List UInt8×FV)
 sh:List (List UInt8×FV)
def xs1 (p:PV) (s:XS) (f:PF):XS :=
 if (aget p.given f.path).isSome=true then
  { data:=aset s.data f.path f.data,own:=aset s.own f.path ((aget p.given f.path).getD zF),
    sh:=if (bif p.m.share then !(aget s.sh f.data).isSome else false)=true then aset s.sh f.data ((aget p.given f.path).getD zF) else s.sh }
 else { s with data:=aset s.data f.path f.data }
def xs1s (p:PV) (l:List PF):XS:=l.foldl (xs1 p) ⟨[],[],[]⟩
theorem xs1s_next (p:PV) {l:List PF} {i:Nat} (h:i<l.length):xs1s p (l.take (i+1))=xs1 p (xs1s p (l.take i)) l[i]:=by
 rw [xs1s,List.take_succ_eq_append_getElem h,List.foldl_append]; rfl
structure YS where
 own:List (List UInt8×FV)
 sh:List (List UInt8×FV)
 a:Int
def xs2 (p:PV) (T:List Int) (data:List (List UInt8×List UInt8)) (s:YS) (path:List UInt8):YS :=
 if (aget s.sh ((aget data path).getD [])).isSome=true then s else
  { own:=aset s.own path ⟨path,findW T (blkV ((aget data path).getD []).length) s.a,((aget data path).getD []).length⟩,
    sh:=if p.m.share=true then aset s.sh ((aget data path).getD []) ⟨path,findW T (blkV ((aget data path).getD []).length) s.a,((aget data path).getD []).length⟩ else s.sh,
    a:=findW T (blkV ((aget data path).getD []).length) s.a+blkV ((aget data path).getD []).length }
def xs2s (p:PV) (T:List Int) (data:List (List UInt8×List UInt8)) (s:YS) (l:List (List UInt8)):YS:=l.foldl (xs2 p T data) s
theorem xs2s_next (p:PV) (T:List Int) (data:List (List UInt8×List UInt8)) (s:YS) {l:List (List UInt8)} {i:Nat} (h:i<l.length):xs2s p T data s (l.take (i+1))=xs2 p T data (xs2s p T data s (l.take i)) l[i]:=by
 rw [xs2s,List.take_succ_eq_append_getElem h,List.foldl_append]; rfl
def extV (p:PV) (T:List Int) (a:Int):YS:=xs2s p T (xs1s p p.files).data ⟨(xs1s p p.files).own,(xs1s p p.files).sh,a⟩ p.order
end Go.Tame.V
