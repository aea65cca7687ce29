/- A program logic of my own over the model, and contracts of this program's functions by it: part 7. No conditions of its own: each theorem states its own. -/
import Derived.Test.YtppjigbglfglnaaGreatDoorL6
import Derived.Test.YtppjigbglfglnaaGreatDoorCards
import Derived.Test.YtppjigbglfglnaaGreatDoorTie
import Derived.ProofKit
import Derived.OpenShut
import Derived.Deep.DeepHandedRow
import Derived.Lib.LaidTab
import Derived.Lib.LaidU8
import Derived.Stop.LaidErr
import Derived.Lib.AtoiErrMem
import Derived.Lib.ItoaMem
import Derived.RegionTactic
import Derived.OwnWalk
import Derived.Handy
set_option linter.unnecessarySimpa false
set_option linter.unusedSimpArgs false
set_option linter.unusedVariables false
set_option maxRecDepth 100000
set_option maxHeartbeats 16000000
namespace Go.Tame.V
open Go Go.Proofs
variable {W0:World}
def fewA (v:IV) (i:Int):Bool:=few1 (lst v i) 30000&&decide (((fls v i).length:Int)≤60)
def fewV (v:IV):Bool:=fewA v 0&&(fewA v 1&&fewA v 2)
theorem fewV_no {v:IV} {i:Nat} (h:i<3) (hn:fewA v i=false):fewV v=false:=by
 unfold fewV
 match i,h with
 | 0,_=>rw [show fewA v 0=false from hn]; rfl
 | 1,_=>rw [show fewA v 1=false from hn]; cases fewA v 0<;>rfl
 | 2,_=>rw [show fewA v 2=false from hn]; cases fewA v 0<;>cases fewA v 1<;>rfl
theorem F6 (v:IV) (hz:∀ i,Fits (lst v i)) (hf:∀ i,(fls v i).length<1000000000):DFun Tryz.prog W0 6 [encIV v] (.bool (fewV v)):=by
 refine Fi Tryz.func6 rfl Tryz.ntmps6 fun Γ=>?_
 apply Sr;(conv=>whnf);intro b1;apply Sq;apply Sr;apply Bk;refine Tri.loopK (α:={ i:Nat // i≤3∧∀ j:Nat,j<i→fewA v j=true }) (fun x=>[(1,.box 1 b1 0),(4,Iv x.1)]) (fun x=>[(1,.box b1 (encIV v).cells)]) (fun x=>3-x.1) ⟨0,Nat.zero_le _,fun j h=>by omega⟩ [(1,1)] ⟨Z,rfl,Y⟩ ?_;rintro ⟨i,hi,hn⟩;dsimp only at hi hn ⊢;apply Sr;apply Sq;refine Cd _ rfl (fun hc=>?_) (fun hc=>?_)
 ·apply Sk
  have hi2:i<3:=by simp at hc; omega
  have h3:(i:Int)=0∨(i:Int)=1∨(i:Int)=2:=by omega
  apply Sq;apply Bk;apply Sr;apply Sq;refine Tri.regionH ti_ok ?_;(conv=>whnf);refine ⟨rfl,.inl ?_⟩;(conv=>whnf);refine ⟨rfl,.inl ?_⟩;(conv=>whnf);refine ⟨rfl,.inr (XOp.arrAt 12 rfl (by kernel_rfl) rfl rfl (by omega) (by omega) ?_)⟩;(conv=>whnf)
  refine ⟨rfl,.inr (XOp.boxLoadAgg ti_ok (ds:=ndC (lst v i)) rfl rfl rfl rfl (Nat.lt_of_lt_of_le (by decide) (Nat.le_add_right 12 _)) (by rcases h3 with h|h|h<;>rw [h]<;>exact Nat.le_of_ble_eq_true rfl) (by rcases h3 with h|h|h<;>rw [h]<;>rfl) ?_)⟩
  (conv=>whnf);refine ⟨rfl,.inl ⟨[encTop (lst v i),Iv 30000],_,fun _=>F26 (lst v i) 30000 (hz i),Z,?_⟩⟩;(conv=>whnf);refine ⟨rfl,.inl ?_⟩;(conv=>whnf);refine ⟨rfl,.inl ?_⟩;(conv=>whnf)
  cases hF:few1 (lst v i) 30000 with
  | false =>
   have hno:fewA v i=false:=by unfold fewA; rw [hF]; rfl
   refine ⟨rfl,_,_,rfl,rfl,.inr ⟨rfl,?_⟩⟩;(conv=>whnf);refine ⟨rfl,_,_,rfl,rfl,.inr ⟨rfl,?_⟩⟩;(conv=>whnf);refine ⟨rfl,_,_,rfl,rfl,.inr ⟨rfl,?_⟩⟩;(conv=>whnf);refine ⟨rfl,_,_,rfl,rfl,.inr ⟨rfl,?_⟩⟩;(conv=>whnf);refine ⟨rfl,_,_,rfl,rfl,.inr ⟨rfl,?_⟩⟩;(conv=>whnf);refine ⟨rfl,_,_,rfl,rfl,.inr ⟨rfl,?_⟩⟩;(conv=>whnf);refine ⟨rfl,.inr (XOp.pickT (g:=true) rfl rfl ?_)⟩;refine Tri.cond true rfl (fun hc=>?_) (fun hc=>by cases hc);apply Sr;apply Rt;(conv=>whnf);exact DLe.of_eq (congrArg D.bool (fewV_no hi2 hno).symm)
  | true =>
   refine ⟨rfl,_,_,rfl,rfl,.inl ⟨rfl,.inl ?_⟩⟩;(conv=>whnf);refine ⟨rfl,_,_,rfl,rfl,.inl ⟨rfl,.inl ?_⟩⟩;(conv=>whnf);refine ⟨rfl,_,_,rfl,rfl,.inl ⟨rfl,.inr (XOp.arrAt 1 rfl (by kernel_rfl) rfl rfl (by omega) (by omega) ?_)⟩⟩;(conv=>whnf)
   refine ⟨rfl,_,_,rfl,rfl,.inl ⟨rfl,.inr (XOp.boxLoadAt ti_ok (d:=encFs (fls v i)) rfl rfl rfl rfl (by rcases h3 with h|h|h<;>rw [h]<;>rfl) ?_)⟩⟩
   (conv=>whnf);refine ⟨rfl,_,_,rfl,rfl,.inl ⟨rfl,.inl ?_⟩⟩;(conv=>whnf);refine ⟨rfl,_,_,rfl,rfl,.inl ⟨rfl,.inl ?_⟩⟩;(conv=>whnf);refine ⟨rfl,.inr (XOp.pickF (g:=false) rfl rfl ?_)⟩;refine Cd _ rfl (fun hc=>?_) (fun hc=>?_)
   ·have hno:fewA v i=false:=by unfold fewA; rw [hF]; simp at hc ⊢; omega
    apply Sr;apply Rt;(conv=>whnf);exact DLe.of_eq (congrArg D.bool (fewV_no hi2 hno).symm)
   have hyes:fewA v i=true:=by unfold fewA; rw [hF]; simp at hc ⊢; omega
   apply Sk;apply Rg;refine Ir ?_;(conv=>whnf)
   exact ⟨⟨i+1,by omega,fun j h=>by
    rcases Nat.lt_or_ge j i with h2|h2
    ·exact hn j h2
    obtain rfl:j=i:=by omega
    exact hyes⟩,[(1,1)],by show 3-(i+1)<3-i; omega,Z,rfl,Y⟩
 refine Tri.exit ?_
 have hi2:i=3:=by simp at hc; omega
 apply Sr;apply Rt;(conv=>whnf)
 have e:fewV v=true:=by
  subst hi2
  unfold fewV
  rw [show fewA v 0=true from hn 0 (by omega),show fewA v 1=true from hn 1 (by omega),show fewA v 2=true from hn 2 (by omega)]; rfl
 rw [e]; exact .refl _
theorem contV_len (im:List (List UInt8)) (x:FV):(contV im x).1.length≤262144:=by
 unfold contV
 split
 ·simp
 rename_i hc
 cases hb:bad im x.start (nblk x.len) with
 | some y=>simp
 | none=>simp; omega
section
variable (im:List (List UInt8)) (fs:List FV)
mutual
theorem fillT_sz:∀ (n:NV) (p:List UInt8) (l:Int),sz (fillT im fs n p l).1≤sz n+262144*cnt n∧(fillT im fs n p l).1.name=n.name
 | .mk a k c d e f g h i j ks ss,p,l=>by
  by_cases hk:k=1
  ·cases hx:fs.find? (fun x=>x.path==p) with
   | none=>rw [fillT_none im fs (by exact hk) hx]; exact ⟨Nat.le_add_right _ _,rfl⟩
   | some x =>
    rw [fillT_some im fs (by exact hk) hx]
    have h1:=contV_len im x
    refine ⟨?_,rfl⟩;simp only [sz,cnt]
    omega
  by_cases h0:(fillL im fs ks p l).2.2=0
  ·rw [fillT_ok im fs (by exact hk) (by exact h0)]
   have h1:=fillL_sz ks p l
   refine ⟨?_,rfl⟩;simp only [sz,cnt]
   omega
  rw [fillT_bad im fs (by exact hk) (by exact h0)]; exact ⟨Nat.le_add_right _ _,rfl⟩
theorem fillL_sz:∀ (ks:List NV) (p:List UInt8) (l:Int),szL (fillL im fs ks p l).1≤szL ks+262144*cntL ks
 | [],p,l=>by simp [fillL,szL]
 | k::r,p,l=>by
  have h1:=fillT_sz k (below p k.name (l+1)) (l+1)
  have h2:=fillL_sz r p l
  simp only [fillL]
  split
  ·simp only [szL,cntL,h1.2]
   omega
  simp only [szL]; omega
end
end
theorem few_cnt {v:IV} {i:Int} (h3:i=0∨i=1∨i=2) (h:fewV v=true):cnt (lst v i)≤40:=by
 unfold fewV at h
 simp only [Bool.and_eq_true] at h
 have key:∀ j,fewA v j=true→cnt (lst v j)≤40:=fun j hj=>by
  unfold fewA few1 at hj
  simp only [Bool.and_eq_true,decide_eq_true_eq] at hj
  omega
 rcases h3 with rfl|rfl|rfl
 ·exact key _ h.1
 ·exact key _ h.2.1
 exact key _ h.2.2
theorem F3 (hA:DFun Tryz.prog W0 4 [] (.bool true)) (hL:LibOk W0) (im:List (List UInt8)) (v:IV) (i:Int) (f:FV) (hl:im.length<1000000000) (hz:∀ i,Fits (lst v i)) (hf:∀ i,(fls v i).length<1000000000) (hs:∀ i,∀ f∈fls v i,f.start≤9223372036854775807) (hf1:f.start≤9223372036854775807):DFun Tryz.prog W0 3 [encI im,encIV v,Iv i,encF f] (.bool true):=by
 have hzL:sz (listV v i).1<100000000:=by
  unfold listV
  split
  ·have:=hz i; unfold Fits at this; show sz (lst v i)<_; omega
  show sz zN<_; decide
 have hfL:(filesV v i).1.length<1000000000:=by
  unfold filesV
  split
  ·exact hf i
  show ([]:List FV).length<_; decide
 refine Fi Tryz.func3 rfl Tryz.ntmps3 fun Γ=>?_
 apply Sr;(conv=>whnf);intro b5;(conv=>whnf);intro b7;apply Sq;apply Sr;(conv=>whnf);refine ⟨[],_,fun _=>hA,trivial,?_⟩;refine Cd _ rfl (fun hc=>?_) (fun hc=>?_)
 ··exfalso
   simp at hc
 apply Sk;apply Sq;apply Sr;(conv=>whnf);refine ⟨[encI im,Iv 512],_,fun _=>F5 im 512 hl,Z,?_⟩;apply Rl;apply Hh;(conv=>whnf);refine ⟨[encIV v],_,fun h=>F6 v hz hf,Z,?_⟩;apply Hh;refine Pk ?_;refine Cd _ rfl (fun hc=>?_) (fun hc=>?_)
 ·apply Sr;apply Rt;(conv=>whnf);exact .refl _
 apply Sk
 have hok:imOk im 512=true∧fewV v=true:=by simpa using hc
 have hl2:im.length<1000000:=by
  have h1:=hok.1
  simp only [imOk,Bool.and_eq_true,decide_eq_true_eq] at h1
  omega
 apply Sr;apply Rl;(conv=>whnf)
 refine ⟨[encIV v,Iv i],_,fun _=>F7 v i (fun j=>by have:=hz j; unfold Fits at this; omega),Z,?_⟩
 (conv=>whnf);intro b9;apply Rl;apply Sr;apply Rl;(conv=>whnf);refine ⟨[encIV v,Iv i],_,fun _=>F8 v i,Z,?_⟩;(conv=>whnf);intro b11;apply Rl;apply Sr;apply Rl;(conv=>whnf);refine ⟨[encIV v,Iv i],_,fun _=>F9 v i hf,Z,?_⟩;apply Sr;apply Rl;(conv=>whnf);refine ⟨[encIV v,Iv i],_,fun _=>F10 v i,Z,?_⟩;apply Sq;apply Sr;apply Rl;apply Rl;(conv=>whnf);refine ⟨[encTop (listV v i).1,encTop (listV v i).1],_,fun _=>F25 _ (listV v i).1 (listV v i).1 (Nat.lt_succ_self _) hzL,Z,?_⟩;apply Hh;apply Hh;refine Pk ?_;apply Hh;apply Hh;(conv=>whnf);refine ⟨[encFs (filesV v i).1,encFs (filesV v i).1],_,fun h=>F12 _ _ hfL hfL,Z,?_⟩;apply Hh;refine Pk ?_;apply Hh;apply Hh;refine Pk ?_;refine Cd _ rfl (fun hc=>?_) (fun hc=>?_)
 ··exfalso
   simp [eqT_rfl] at hc
 apply Sk;apply Sr;apply Rl;(conv=>whnf);refine ⟨[encI im,encF f],_,fun _=>F13 im f hl2 hf1,Z,?_⟩;apply Sr;apply Rl;(conv=>whnf);refine ⟨[encI im,encF f],_,fun _=>F14 im f hl2 hf1,Z,?_⟩;apply Sq;apply Sr;apply Hh;apply Hh;refine Pk ?_;apply Hh;apply Hh;refine Pk ?_;refine Cd _ rfl (fun hc=>?_) (fun hc=>?_)
 ··exfalso
   simp at hc
 apply Sk;apply Sr;apply Rl;(conv=>whnf);refine ⟨[encI im,encIV v,Iv i],_,fun _=>F15 hL im v i hl2 hz (hf i) (hs i),Z,?_⟩;apply Rl;apply Sr;apply Rl;(conv=>whnf);refine ⟨[encI im,encIV v,Iv i],_,fun _=>F16 im v i hl2 (hz i) (hf i) (hs i),Z,?_⟩;apply Rl;apply Sq
 have hte:=trees_eq im v i
 have hzT:sz (treeR im v i).1<100000000:=by
  unfold treeR
  split
  ·rename_i h0
   split
   ·split
    ·have h1:=fillT_sz im (fls v i) (lst v i) [] 1
     have h2:=few_cnt (hasV_ok h0) hok.2
     have h3:=hz i
     unfold Fits at h3
     show sz (fillT im (fls v i) (lst v i) [] 1).1<_
     omega
    show sz zN<_; decide
   show sz zN<_; decide
  show sz zN<_; decide
 apply Rg;apply Rl;apply Rl;(conv=>whnf)
 refine ⟨[encTop (treeI im v i).1,encTop (treeR im v i).1],_,fun _=>F25 _ (treeI im v i).1 (treeR im v i).1 (Nat.lt_succ_self _) (by rw [hte]; exact hzT),Z,?_⟩
 apply Hh;apply Hh;refine Pk ?_;apply Hh;apply Hh;refine Pk ?_;apply Rt;(conv=>whnf);refine DLe.of_eq (congrArg D.bool ?_);rw [hte,eqT_rfl]
 simp
open Go.RowKit Go.ChangeShapes Go.Deep Go.WideShapes Go.ChangeAt
open YtppjigbglfglnaaGreatDoor (Rows.uptoBulk Rows.uptoBulkAll)
variable {H:Type} {enc0:TypeId×Value→H} {W:World}
abbrev bulk (d:DataW H):Nat:=YtppjigbglfglnaaGreatDoor.Rows.uptoBulk d
abbrev bulkA (d:List (DataW H)):Nat:=YtppjigbglfglnaaGreatDoor.Rows.uptoBulkAll d
theorem sum_good {α:Type} {m:α→Nat} {c:Nat}:∀ {l:List α} {ds:List (DataW H)},ds.length=l.length→(∀ (i:Nat) a y,l[i]? = some a→ds[i]? = some y→m a≤c*bulk y)→(l.map m).sum≤c*bulkA ds
 | [],[],_,_=>by simp
 | a::l,y::ds,hl,h=>by
  have h1:=h 0 a y rfl rfl
  have h2:=sum_good (l:=l) (ds:=ds) (by simpa using hl) fun i a y h3 h4=>h (i+1) a y (by simpa using h3) (by simpa using h4)
  have h3:c*bulkA (y::ds)=c*bulk y+c*bulkA ds:=by simp only [bulkA,bulk,YtppjigbglfglnaaGreatDoor.Rows.uptoBulkAll,Nat.mul_add]
  rw [h3,List.map_cons,List.sum_cons]
  omega
theorem sum_goodS {α:Type} {m:α→Nat} {c:Nat} {l:List α} {d:DataW H} (h:goodS (fun a y=>m a≤c*bulk y) l d):(l.map m).sum≤c*bulk d:=by
 rcases h with ⟨rfl,rfl⟩|⟨ds,sp,rfl,hl,hg⟩
 ·simp
 have:=sum_good hl hg
 have h3:c*bulk (.slice ds sp)=c*bulkA ds+c*bulkA sp+c*1:=by simp only [bulkA,bulk,YtppjigbglfglnaaGreatDoor.Rows.uptoBulk,Nat.mul_add]
 rw [h3]
 omega
theorem szS_sum:∀ l:List SV,szS l=(l.map fun s=>2+s.name.length+s.target.length).sum
 | []=>rfl
 | s::r=>by simp only [szS,List.map_cons,List.sum_cons,szS_sum r]
theorem szL_sum:∀ l:List NV,szL l=(l.map fun n=>2*n.name.length+2+sz n).sum
 | []=>by simp [szL]
 | s::r=>by simp only [szL,List.map_cons,List.sum_cons,szL_sum r]
theorem rd_stream (n:Nat):Rd enc0 Tryz.prog W n 70 encS (fun s d=>2+s.name.length+s.target.length≤1*bulk d):=by
 intro cs x h;obtain ⟨xs,m,rfl,hx,hcl,hxl,hf⟩:=trod_fields Tryz.underlying70 (by kernel_rfl) (by kernel_rfl) h
 match cs,hcl,xs,hxl with
 | [c0,c1],_,[y0,y1],_ =>
  obtain ⟨s0,r0,e0,_⟩:=Rd.str (enc:=enc0) (W:=W) (n:=m) Tryz.underlying9 [c0] y0 (hf 0 _ c0 y0 rfl rfl rfl);obtain ⟨s1,r1,e1,_⟩:=Rd.str (enc:=enc0) (W:=W) (n:=m) Tryz.underlying9 [c1] y1 (hf 1 _ c1 y1 rfl rfl rfl);refine ⟨⟨s0,s1⟩,.cons r0.head (.cons r1.head (.nil _ _)),?_⟩;rw [hx];simp only [List.map_cons,List.map_nil,e0,e1,bulk,YtppjigbglfglnaaGreatDoor.Rows.uptoBulk,YtppjigbglfglnaaGreatDoor.Rows.uptoBulkAll]
  omega
theorem rd_node:∀ (N n:Nat),n<N→Rd enc0 Tryz.prog W n 31 enc (fun s d=>2*s.name.length+2+sz s≤2*bulk d)
 | 0,n,hn=>absurd hn (Nat.not_lt_zero _)
 | N+1,n,hn=>by
  intro cs x h;obtain ⟨xs,m,rfl,hx,hcl,hxl,hf⟩:=trod_fields Tryz.underlying31 (by kernel_rfl) (by kernel_rfl) h
  match cs,hcl,xs,hxl with
  | [c0,c1,c2,c3,c4,c5,c6,c7,c8,c9,c10,c11],_,[y0,y1,y2,y3,y4,y5,y6,y7,y8,y9,y10,y11],_ =>
   obtain ⟨s0,r0,e0,_⟩:=Rd.str (enc:=enc0) (W:=W) (n:=m) Tryz.underlying9 [c0] y0 (hf 0 _ c0 y0 rfl rfl rfl);obtain ⟨s1,r1,e1,_⟩:=Rd.int (enc:=enc0) (W:=W) (n:=m) Tryz.underlying3 [c1] y1 (hf 1 _ c1 y1 rfl rfl rfl);obtain ⟨s2,r2,e2,_⟩:=Rd.str (enc:=enc0) (W:=W) (n:=m) Tryz.underlying9 [c2] y2 (hf 2 _ c2 y2 rfl rfl rfl);obtain ⟨s3,r3,e3,_⟩:=Rd.str (enc:=enc0) (W:=W) (n:=m) Tryz.underlying9 [c3] y3 (hf 3 _ c3 y3 rfl rfl rfl);obtain ⟨s4,r4,e4,_⟩:=Rd.int (enc:=enc0) (W:=W) (n:=m) Tryz.underlying3 [c4] y4 (hf 4 _ c4 y4 rfl rfl rfl);obtain ⟨s5,r5,e5,_⟩:=Rd.int (enc:=enc0) (W:=W) (n:=m) Tryz.underlying3 [c5] y5 (hf 5 _ c5 y5 rfl rfl rfl);obtain ⟨s6,r6,e6,_⟩:=Rd.int (enc:=enc0) (W:=W) (n:=m) Tryz.underlying3 [c6] y6 (hf 6 _ c6 y6 rfl rfl rfl);obtain ⟨s7,r7,e7,_⟩:=Rd.int (enc:=enc0) (W:=W) (n:=m) Tryz.underlying3 [c7] y7 (hf 7 _ c7 y7 rfl rfl rfl);obtain ⟨s8,r8,e8,_⟩:=Rd.int (enc:=enc0) (W:=W) (n:=m) Tryz.underlying3 [c8] y8 (hf 8 _ c8 y8 rfl rfl rfl);obtain ⟨s9,r9,e9,_⟩:=Rd.int (enc:=enc0) (W:=W) (n:=m) Tryz.underlying3 [c9] y9 (hf 9 _ c9 y9 rfl rfl rfl)
   obtain ⟨ks,r10,e10⟩:=Rd.slice (enc:=enc0) (W:=W) (fuel:=m) Tryz.underlying28 (k:=12) (f:=enc) (by kernel_rfl) (by omega) (fun a=>by rw [enc_eq]; exact ⟨rfl,rfl⟩) (fun m' hm'=>rd_node N m' (by omega)) [c10] y10 (hf 10 _ c10 y10 rfl rfl rfl)
   obtain ⟨ss,r11,e11⟩:=Rd.slice (enc:=enc0) (W:=W) (fuel:=m) Tryz.underlying29 (k:=2) (f:=encS) (by kernel_rfl) (by omega) (fun a=>⟨rfl,rfl⟩) (fun m' _=>rd_stream m') [c11] y11 (hf 11 _ c11 y11 rfl rfl rfl);refine ⟨⟨s0,s1,s2,s3,s4,s5,s6,s7,s8,s9,ks,ss⟩,?_,?_⟩
   ·rw [enc_eq];exact .cons r0.head (.cons r1.head (.cons r2.head (.cons r3.head (.cons r4.head (.cons r5.head (.cons r6.head (.cons r7.head (.cons r8.head (.cons r9.head (.cons r10.head (.cons r11.head (.nil _ _))))))))))))
   have h10:=sum_goodS e10
   have h11:=sum_goodS e11
   rw [← szL_sum] at h10;rw [← szS_sum] at h11;rw [hx];dsimp only;rw [sz_eq];simp only [List.map_cons,List.map_nil,e0,e1,e2,e3,e4,e5,e6,e7,e8,e9,bulk,YtppjigbglfglnaaGreatDoor.Rows.uptoBulk,YtppjigbglfglnaaGreatDoor.Rows.uptoBulkAll] at h10 h11 ⊢
   omega
theorem callsTrue {f:Nat} {ds:List D} {args:Array Value} (h:DFun Tryz.prog W f ds (.bool true)) (hr:RepL W (allC W) ds args.toList) :
  Calls Tryz.prog f args W fun e w'=>e=.returned (.bool true)∧Below W.heap.size W w':=by
 obtain ⟨l⟩:=args;refine (h.2 W (allC W) l (Below.refl _ _) hr).mono ?_;rintro e w' ⟨v,C',rfl,hv,hs⟩;rw [hv.bool_inv];exact ⟨rfl,Base.step (Below.refl _ _) hs fun _ h=>h.elim⟩
theorem laidOut:laidOutB Tryz.prog=true:=by kernel_rfl
theorem stays_all {W':World} (hb:Below W.heap.size W W') {sp:Nat→Bool}:∀ {ts:List TypeId} {vs:List Value} {ds:List (DataW H)} {ps:List MemPlace},
  (∀ t∈ts,Tryz.prog.readableRec t=true∧t<Tryz.prog.types.size)→DataW.TrodAll enc0 Tryz.prog W 0 (fun _=>true) true ts vs ds ps→(∀ x∈ps,x.block<W.heap.size)→(∀ x∈ps,sp x.block=true) →
  DataW.TrodAll enc0 Tryz.prog W' 0 sp true ts vs ds ps
 | [],[],[],_,_,h,_,_=>h
 | t::ts,v::vs,d::ds,_,ht,⟨p,q,h1,h2,e⟩,hlt,hsp=>by
  subst e
  exact ⟨p,q,stays laidOut (ht t List.mem_cons_self).1 (ht t List.mem_cons_self).2 h1 hb (fun x hx=>hlt x (by simp [hx])) sp (fun x hx=>hsp x (by simp [hx])),
   stays_all hb (fun t h=>ht t (List.mem_cons_of_mem _ h)) h2 (fun x hx=>hlt x (by simp [hx])) (fun x hx=>hsp x (by simp [hx])),rfl⟩
theorem wf64 {k:Int} (h:(Lit.int .i64 k).wf=true):k≤9223372036854775807:=by
 simp [Lit.wf,IntKind.wrap,IntKind.bits,IntKind.signed] at h
 omega
def mx:Int:=9223372036854775807
theorem goodS_mem {α:Type} {p:α→Prop} {l:List α} {d:DataW H} (h:goodS (fun a _=>p a) l d):∀ a∈l,p a:=by
 intro a ha
 rcases h with ⟨rfl,rfl⟩|⟨ds,sp,rfl,hl,hg⟩
 ·cases ha
 obtain ⟨i,hi,rfl⟩:=List.mem_iff_getElem.1 ha;exact hg i l[i] (ds[i]'(by omega)) (List.getElem?_eq_getElem hi) (List.getElem?_eq_getElem _)
theorem rd_file (n:Nat):Rd enc0 Tryz.prog W n 39 encF (fun f d=>1≤1*bulk d∧f.start≤mx):=by
 intro cs x h;obtain ⟨xs,m,rfl,hx,hcl,hxl,hf⟩:=trod_fields Tryz.underlying39 (by kernel_rfl) (by kernel_rfl) h
 match cs,hcl,xs,hxl with
 | [c0,c1,c2],_,[y0,y1,y2],_ =>
  obtain ⟨s0,r0,e0,_⟩:=Rd.str (enc:=enc0) (W:=W) (n:=m) Tryz.underlying9 [c0] y0 (hf 0 _ c0 y0 rfl rfl rfl);obtain ⟨s1,r1,e1,w1⟩:=Rd.int (enc:=enc0) (W:=W) (n:=m) Tryz.underlying3 [c1] y1 (hf 1 _ c1 y1 rfl rfl rfl);obtain ⟨s2,r2,e2,w2⟩:=Rd.int (enc:=enc0) (W:=W) (n:=m) Tryz.underlying3 [c2] y2 (hf 2 _ c2 y2 rfl rfl rfl);refine ⟨⟨s0,s1,s2⟩,.cons r0.head (.cons r1.head (.cons r2.head (.nil _ _))),?_,wf64 w1⟩;rw [hx];simp only [bulk,YtppjigbglfglnaaGreatDoor.Rows.uptoBulk]
  omega
theorem rd_files (n:Nat):Rd enc0 Tryz.prog W n 33 encFs (fun l d=>l.length≤bulk d∧∀ f∈l,f.start≤mx):=by
 intro cs x h;obtain ⟨l,hr,hg⟩:=Rd.slice (enc:=enc0) (W:=W) (fuel:=n) Tryz.underlying33 (k:=3) (f:=encF) (good:=fun f d=>1≤1*bulk d∧f.start≤mx) (by kernel_rfl) (by omega) (fun a=>⟨rfl,rfl⟩) (fun m _=>rd_file m) cs x h
 have hg1:goodS (fun (_:FV) y=>1≤1*bulk y) l x.1:=by
  rcases hg with h|⟨ds,sp,e1,e2,e3⟩
  ·exact .inl h
  exact .inr ⟨ds,sp,e1,e2,fun i a y h1 h2=>(e3 i a y h1 h2).1⟩
 have hg2:goodS (fun (f:FV) _=>f.start≤mx) l x.1:=by
  rcases hg with h|⟨ds,sp,e1,e2,e3⟩
  ·exact .inl h
  exact .inr ⟨ds,sp,e1,e2,fun i a y h1 h2=>(e3 i a y h1 h2).2⟩
 have h1:=sum_goodS (m:=fun _=>1) hg1
 simp only [List.map_const',List.sum_replicate_nat,Nat.mul_one,Nat.one_mul] at h1;exact ⟨l,hr,h1,goodS_mem hg2⟩
theorem rd_txt (n:Nat):Rd enc0 Tryz.prog W n 9 (fun s:List UInt8=>D.str s) (fun _ d=>1≤1*bulk d):=by
 intro cs x h;obtain ⟨s,hr,e,_⟩:=Rd.str (enc:=enc0) (W:=W) (n:=n) Tryz.underlying9 cs x h;refine ⟨s,hr,?_⟩
 rw [e]; simp only [bulk,YtppjigbglfglnaaGreatDoor.Rows.uptoBulk]; omega
theorem open_image {v:Value} {d:DataW H} {p:List MemPlace} {base:Nat} (hv:Value.okWide Tryz.prog W .any base 23 v) (h:DataW.Trod enc0 Tryz.prog W 0 (fun _=>true) true 23 v d p) :
  ∃ im:List (List UInt8),Rep W (allC W) (encI im) v∧im.length≤bulk d:=by
 obtain ⟨fuel,hf⟩:=h;obtain ⟨a,l,c,rfl⟩:=okWide_slice Tryz.underlying23 hv;obtain ⟨l,hr,hg⟩:=Rd.slice (enc:=enc0) (W:=W) (fuel:=fuel) Tryz.underlying23 (k:=1) (f:=fun s:List UInt8=>D.str s) (by kernel_rfl) (by omega) (fun a=>⟨rfl,rfl⟩) (fun m _=>rd_txt m) _ _ hf
 have h1:=sum_goodS (m:=fun _=>1) hg
 simp only [List.map_const',List.sum_replicate_nat,Nat.mul_one,Nat.one_mul] at h1;exact ⟨l,hr.head,h1⟩
theorem open_file {v:Value} {d:DataW H} {p:List MemPlace} {base:Nat} (hv:Value.okWide Tryz.prog W .any base 39 v) (h:DataW.Trod enc0 Tryz.prog W 0 (fun _=>true) true 39 v d p) :
  ∃ f:FV,Rep W (allC W) (encF f) v∧f.start≤9223372036854775807:=by
 obtain ⟨fuel,hf⟩:=h;obtain ⟨cs,rfl,_⟩:=okWide_struct Tryz.underlying39 hv;obtain ⟨f,hr,hg⟩:=rd_file (enc0:=enc0) (W:=W) fuel _ _ hf;obtain ⟨l⟩:=cs;exact ⟨f,.agg _ _ hr.1 hr.2,hg.2⟩
theorem rd_span (n:Nat):Rd enc0 Tryz.prog W n 25 (fun p:Int×Int=>.agg [Iv p.1,Iv p.2]) (fun _ _=>True):=by
 intro cs x h;obtain ⟨xs,m,rfl,hx,hcl,hxl,hf⟩:=trod_fields Tryz.underlying25 (by kernel_rfl) (by kernel_rfl) h
 match cs,hcl,xs,hxl with
 | [c0,c1],_,[y0,y1],_ =>
  obtain ⟨s0,r0,_⟩:=Rd.int (enc:=enc0) (W:=W) (n:=m) Tryz.underlying3 [c0] y0 (hf 0 _ c0 y0 rfl rfl rfl);obtain ⟨s1,r1,_⟩:=Rd.int (enc:=enc0) (W:=W) (n:=m) Tryz.underlying3 [c1] y1 (hf 1 _ c1 y1 rfl rfl rfl);exact ⟨(s0,s1),.cons r0.head (.cons r1.head (.nil _ _)),trivial⟩
structure VolV where
 name:List UInt8
 set:List UInt8
 pub:List UInt8
 prep:List UInt8
 app:List UInt8
 num:Int
 discs:Int
 time:Int
def encVol (v:VolV):D:=.agg [.str v.name,.str v.set,.str v.pub,.str v.prep,.str v.app,Iv v.num,Iv v.discs,Iv v.time]
theorem rd_be (n:Nat):Rd enc0 Tryz.prog W n 200 encBI (fun _ d=>1≤1*bulk d):=by
 intro cs x h;obtain ⟨xs,m,rfl,hx,hcl,hxl,hf⟩:=trod_fields Tryz.underlying200 (by kernel_rfl) (by kernel_rfl) h
 match cs,hcl,xs,hxl with
 | [c0,c1,c2,c3,c4,c5],_,[y0,y1,y2,y3,y4,y5],_ =>
  obtain ⟨s0,r0,_⟩:=Rd.int (enc:=enc0) (W:=W) (n:=m) Tryz.underlying3 [c0] y0 (hf 0 _ c0 y0 rfl rfl rfl);obtain ⟨s1,r1,_⟩:=Rd.int (enc:=enc0) (W:=W) (n:=m) Tryz.underlying3 [c1] y1 (hf 1 _ c1 y1 rfl rfl rfl);obtain ⟨s2,r2,_⟩:=Rd.int (enc:=enc0) (W:=W) (n:=m) Tryz.underlying3 [c2] y2 (hf 2 _ c2 y2 rfl rfl rfl);obtain ⟨s3,r3,_⟩:=Rd.int (enc:=enc0) (W:=W) (n:=m) Tryz.underlying3 [c3] y3 (hf 3 _ c3 y3 rfl rfl rfl);obtain ⟨s4,r4,_⟩:=Rd.int (enc:=enc0) (W:=W) (n:=m) Tryz.underlying3 [c4] y4 (hf 4 _ c4 y4 rfl rfl rfl);obtain ⟨s5,r5,_⟩:=Rd.bool (enc:=enc0) (W:=W) (n:=m) Tryz.underlying4 [c5] y5 (hf 5 _ c5 y5 rfl rfl rfl);refine ⟨⟨s0,s1,s2,s3,s4,s5⟩,.cons r0.head (.cons r1.head (.cons r2.head (.cons r3.head (.cons r4.head (.cons r5.head (.nil _ _)))))),?_⟩;rw [hx];simp only [bulk,YtppjigbglfglnaaGreatDoor.Rows.uptoBulk]
  omega
theorem rd_vol (n:Nat):Rd enc0 Tryz.prog W n 27 encVol (fun _ _=>True):=by
 intro cs x h;obtain ⟨xs,m,rfl,hx,hcl,hxl,hf⟩:=trod_fields Tryz.underlying27 (by kernel_rfl) (by kernel_rfl) h
 match cs,hcl,xs,hxl with
 | [c0,c1,c2,c3,c4,c5,c6,c7],_,[y0,y1,y2,y3,y4,y5,y6,y7],_ =>
  obtain ⟨s0,r0,e0,_⟩:=Rd.str (enc:=enc0) (W:=W) (n:=m) Tryz.underlying9 [c0] y0 (hf 0 _ c0 y0 rfl rfl rfl);obtain ⟨s1,r1,e1,_⟩:=Rd.str (enc:=enc0) (W:=W) (n:=m) Tryz.underlying9 [c1] y1 (hf 1 _ c1 y1 rfl rfl rfl);obtain ⟨s2,r2,e2,_⟩:=Rd.str (enc:=enc0) (W:=W) (n:=m) Tryz.underlying9 [c2] y2 (hf 2 _ c2 y2 rfl rfl rfl);obtain ⟨s3,r3,e3,_⟩:=Rd.str (enc:=enc0) (W:=W) (n:=m) Tryz.underlying9 [c3] y3 (hf 3 _ c3 y3 rfl rfl rfl);obtain ⟨s4,r4,e4,_⟩:=Rd.str (enc:=enc0) (W:=W) (n:=m) Tryz.underlying9 [c4] y4 (hf 4 _ c4 y4 rfl rfl rfl);obtain ⟨s5,r5,e5,_⟩:=Rd.int (enc:=enc0) (W:=W) (n:=m) Tryz.underlying3 [c5] y5 (hf 5 _ c5 y5 rfl rfl rfl);obtain ⟨s6,r6,e6,_⟩:=Rd.int (enc:=enc0) (W:=W) (n:=m) Tryz.underlying3 [c6] y6 (hf 6 _ c6 y6 rfl rfl rfl);obtain ⟨s7,r7,e7,_⟩:=Rd.int (enc:=enc0) (W:=W) (n:=m) Tryz.underlying3 [c7] y7 (hf 7 _ c7 y7 rfl rfl rfl);exact ⟨⟨s0,s1,s2,s3,s4,s5,s6,s7⟩,.cons r0.head (.cons r1.head (.cons r2.head (.cons r3.head (.cons r4.head (.cons r5.head (.cons r6.head (.cons r7.head (.nil _ _)))))))),trivial⟩
theorem ndC_enc (n:NV):(enc n).cells=ndC n:=by rw [enc_eq]; rfl
structure IvOk (v:IV) (b:Nat):Prop where
 l0:2*v.l0.name.length+2+sz v.l0≤2*b
 l1:2*v.l1.name.length+2+sz v.l1≤2*b
 l2:2*v.l2.name.length+2+sz v.l2≤2*b
 f0:v.f0.length≤b∧∀ f∈v.f0,f.start≤mx
 f1:v.f1.length≤b∧∀ f∈v.f1,f.start≤mx
 f2:v.f2.length≤b∧∀ f∈v.f2,f.start≤mx
theorem rd_iv (n:Nat):Rd enc0 Tryz.prog W n 37 encIV (fun v d=>IvOk v (bulk d)):=by
 intro cs x h;obtain ⟨xs,m,rfl,hx,hl,hxl,hf⟩:=DataW.trod_struct Tryz.underlying37 h
 have hC:Tryz.prog.cellsOf 37=52:=by kernel_rfl
 have g25:Tryz.prog.cellsOf 25=2:=by kernel_rfl
 have g3:Tryz.prog.cellsOf 3=1:=by kernel_rfl
 have g27:Tryz.prog.cellsOf 27=8:=by kernel_rfl
 have g32:Tryz.prog.cellsOf 32=36:=by kernel_rfl
 have g34:Tryz.prog.cellsOf 34=3:=by kernel_rfl
 have g35:Tryz.prog.cellsOf 35=1:=by kernel_rfl
 have g31:Tryz.prog.cellsOf 31=12:=by kernel_rfl
 have g33:Tryz.prog.cellsOf 33=1:=by kernel_rfl
 match cs,hl.trans hC,xs,hxl with
 | c0::c1::c2::c3::c4::c5::c6::c7::c8::c9::c10::c11::c12::c13::c14::c15::c16::c17::c18::c19::c20::c21::c22::c23::c24::c25::c26::c27::c28::c29::c30::c31::c32::c33::c34::c35::c36::c37::c38::c39::c40::c41::c42::c43::c44::c45::c46::c47::c48::c49::c50::c51::[],_,[y0,y1,y2,y3,y4,y5,y6],_ =>
  have h0:DataW.trod enc0 Tryz.prog W 0 (fun _=>true) true m 25 (List.take (Tryz.prog.cellsOf 25) (List.drop 0 [c0,c1,c2,c3,c4,c5,c6,c7,c8,c9,c10,c11,c12,c13,c14,c15,c16,c17,c18,c19,c20,c21,c22,c23,c24,c25,c26,c27,c28,c29,c30,c31,c32,c33,c34,c35,c36,c37,c38,c39,c40,c41,c42,c43,c44,c45,c46,c47,c48,c49,c50,c51]))=some y0:=hf 0 _ rfl
  have h1:DataW.trod enc0 Tryz.prog W 0 (fun _=>true) true m 3 (List.take (Tryz.prog.cellsOf 3) (List.drop 2 [c0,c1,c2,c3,c4,c5,c6,c7,c8,c9,c10,c11,c12,c13,c14,c15,c16,c17,c18,c19,c20,c21,c22,c23,c24,c25,c26,c27,c28,c29,c30,c31,c32,c33,c34,c35,c36,c37,c38,c39,c40,c41,c42,c43,c44,c45,c46,c47,c48,c49,c50,c51]))=some y1:=hf 1 _ rfl
  have h2:DataW.trod enc0 Tryz.prog W 0 (fun _=>true) true m 27 (List.take (Tryz.prog.cellsOf 27) (List.drop 3 [c0,c1,c2,c3,c4,c5,c6,c7,c8,c9,c10,c11,c12,c13,c14,c15,c16,c17,c18,c19,c20,c21,c22,c23,c24,c25,c26,c27,c28,c29,c30,c31,c32,c33,c34,c35,c36,c37,c38,c39,c40,c41,c42,c43,c44,c45,c46,c47,c48,c49,c50,c51]))=some y2:=hf 2 _ rfl
  have h3:DataW.trod enc0 Tryz.prog W 0 (fun _=>true) true m 3 (List.take (Tryz.prog.cellsOf 3) (List.drop 11 [c0,c1,c2,c3,c4,c5,c6,c7,c8,c9,c10,c11,c12,c13,c14,c15,c16,c17,c18,c19,c20,c21,c22,c23,c24,c25,c26,c27,c28,c29,c30,c31,c32,c33,c34,c35,c36,c37,c38,c39,c40,c41,c42,c43,c44,c45,c46,c47,c48,c49,c50,c51]))=some y3:=hf 3 _ rfl
  have h4:DataW.trod enc0 Tryz.prog W 0 (fun _=>true) true m 32 (List.take (Tryz.prog.cellsOf 32) (List.drop 12 [c0,c1,c2,c3,c4,c5,c6,c7,c8,c9,c10,c11,c12,c13,c14,c15,c16,c17,c18,c19,c20,c21,c22,c23,c24,c25,c26,c27,c28,c29,c30,c31,c32,c33,c34,c35,c36,c37,c38,c39,c40,c41,c42,c43,c44,c45,c46,c47,c48,c49,c50,c51]))=some y4:=hf 4 _ rfl
  have h5:DataW.trod enc0 Tryz.prog W 0 (fun _=>true) true m 34 (List.take (Tryz.prog.cellsOf 34) (List.drop 48 [c0,c1,c2,c3,c4,c5,c6,c7,c8,c9,c10,c11,c12,c13,c14,c15,c16,c17,c18,c19,c20,c21,c22,c23,c24,c25,c26,c27,c28,c29,c30,c31,c32,c33,c34,c35,c36,c37,c38,c39,c40,c41,c42,c43,c44,c45,c46,c47,c48,c49,c50,c51]))=some y5:=hf 5 _ rfl
  have h6:DataW.trod enc0 Tryz.prog W 0 (fun _=>true) true m 35 (List.take (Tryz.prog.cellsOf 35) (List.drop 51 [c0,c1,c2,c3,c4,c5,c6,c7,c8,c9,c10,c11,c12,c13,c14,c15,c16,c17,c18,c19,c20,c21,c22,c23,c24,c25,c26,c27,c28,c29,c30,c31,c32,c33,c34,c35,c36,c37,c38,c39,c40,c41,c42,c43,c44,c45,c46,c47,c48,c49,c50,c51]))=some y6:=hf 6 _ rfl
  rw [g25] at h0; rw [g3] at h1 h3; rw [g27] at h2; rw [g32] at h4; rw [g34] at h5; rw [g35] at h6
  obtain ⟨⟨a0,a1⟩,r0,_⟩:=rd_span m [c0,c1] y0 h0;obtain ⟨a2,r1,_⟩:=Rd.int (enc:=enc0) (W:=W) (n:=m) Tryz.underlying3 [c2] y1 h1;obtain ⟨⟨t0,t1,t2,t3,t4,a3,a4,a5⟩,r2,_⟩:=rd_vol m [c3,c4,c5,c6,c7,c8,c9,c10] y2 h2;obtain ⟨a6,r3,_⟩:=Rd.int (enc:=enc0) (W:=W) (n:=m) Tryz.underlying3 [c11] y3 h3;obtain ⟨us,m4,rfl,ex4,_,hul,hu⟩:=DataW.trod_array Tryz.underlying32 h4;obtain ⟨vs,m5,e5,ex5,_,hvl,hv⟩:=DataW.trod_array Tryz.underlying34 h5
  obtain rfl:m4=m5:=by omega
  obtain ⟨bs,r6,_⟩:=Rd.slice (enc:=enc0) (W:=W) (fuel:=m4+1) Tryz.underlying35 (k:=6) (f:=encBI) (good:=fun _ _=>True) (by kernel_rfl) (by omega) (fun a=>⟨rfl,rfl⟩) (fun m' _ cs x h=>by obtain ⟨a,r,_⟩:=rd_be m' cs x h; exact ⟨a,r,trivial⟩) [c51] y6 h6
  match us,hul,vs,hvl with
  | [u0,u1,u2],_,[w0,w1,w2],_ =>
   have p0:DataW.trod enc0 Tryz.prog W 0 (fun _=>true) true m4 31 (List.take (Tryz.prog.cellsOf 31) (List.drop (0*Tryz.prog.cellsOf 31) [c12,c13,c14,c15,c16,c17,c18,c19,c20,c21,c22,c23,c24,c25,c26,c27,c28,c29,c30,c31,c32,c33,c34,c35,c36,c37,c38,c39,c40,c41,c42,c43,c44,c45,c46,c47]))=some u0:=hu 0 (by decide)
   have p1:DataW.trod enc0 Tryz.prog W 0 (fun _=>true) true m4 31 (List.take (Tryz.prog.cellsOf 31) (List.drop (1*Tryz.prog.cellsOf 31) [c12,c13,c14,c15,c16,c17,c18,c19,c20,c21,c22,c23,c24,c25,c26,c27,c28,c29,c30,c31,c32,c33,c34,c35,c36,c37,c38,c39,c40,c41,c42,c43,c44,c45,c46,c47]))=some u1:=hu 1 (by decide)
   have p2:DataW.trod enc0 Tryz.prog W 0 (fun _=>true) true m4 31 (List.take (Tryz.prog.cellsOf 31) (List.drop (2*Tryz.prog.cellsOf 31) [c12,c13,c14,c15,c16,c17,c18,c19,c20,c21,c22,c23,c24,c25,c26,c27,c28,c29,c30,c31,c32,c33,c34,c35,c36,c37,c38,c39,c40,c41,c42,c43,c44,c45,c46,c47]))=some u2:=hu 2 (by decide)
   have q0:DataW.trod enc0 Tryz.prog W 0 (fun _=>true) true m4 33 (List.take (Tryz.prog.cellsOf 33) (List.drop (0*Tryz.prog.cellsOf 33) [c48,c49,c50]))=some w0:=hv 0 (by decide)
   have q1:DataW.trod enc0 Tryz.prog W 0 (fun _=>true) true m4 33 (List.take (Tryz.prog.cellsOf 33) (List.drop (1*Tryz.prog.cellsOf 33) [c48,c49,c50]))=some w1:=hv 1 (by decide)
   have q2:DataW.trod enc0 Tryz.prog W 0 (fun _=>true) true m4 33 (List.take (Tryz.prog.cellsOf 33) (List.drop (2*Tryz.prog.cellsOf 33) [c48,c49,c50]))=some w2:=hv 2 (by decide)
   rw [g31] at p0 p1 p2; rw [g33] at q0 q1 q2
   obtain ⟨n0,rn0,gn0⟩:=rd_node (m4+1) m4 (Nat.lt_succ_self _) [c12,c13,c14,c15,c16,c17,c18,c19,c20,c21,c22,c23] u0 p0;obtain ⟨n1,rn1,gn1⟩:=rd_node (m4+1) m4 (Nat.lt_succ_self _) [c24,c25,c26,c27,c28,c29,c30,c31,c32,c33,c34,c35] u1 p1;obtain ⟨n2,rn2,gn2⟩:=rd_node (m4+1) m4 (Nat.lt_succ_self _) [c36,c37,c38,c39,c40,c41,c42,c43,c44,c45,c46,c47] u2 p2;obtain ⟨f0,rf0,gf0⟩:=rd_files m4 [c48] w0 q0;obtain ⟨f1,rf1,gf1⟩:=rd_files m4 [c49] w1 q1;obtain ⟨f2,rf2,gf2⟩:=rd_files m4 [c50] w2 q2;rw [ndC_enc] at rn0 rn1 rn2;subst ex4 ex5
   have hb4:bulk (DataW.agg (List.map (·.1) [u0,u1,u2]))=bulk u0.1+(bulk u1.1+(bulk u2.1+0))+1:=rfl
   refine ⟨⟨a0,a1,a2,t0,t1,t2,t3,t4,a3,a4,a5,a6,n0,n1,n2,f0,f1,f2,bs⟩,RepL.append (RepL.append r0 (RepL.append r1 (RepL.append r2 r3))) (RepL.append rn0 (RepL.append rn1 (RepL.append rn2 (.cons rf0.head (.cons rf1.head (.cons rf2.head r6)))))),?_⟩;rw [hx];simp only [bulk,List.map_cons,List.map_nil,YtppjigbglfglnaaGreatDoor.Rows.uptoBulk,YtppjigbglfglnaaGreatDoor.Rows.uptoBulkAll] at gn0 gn1 gn2 gf0 gf1 gf2 ⊢
   refine ⟨?_,?_,?_,⟨?_,gf0.2⟩,⟨?_,gf1.2⟩,⟨?_,gf2.2⟩⟩<;>dsimp only<;>omega
theorem open_iv {v:Value} {d:DataW H} {p:List MemPlace} {base:Nat} (hv:Value.okWide Tryz.prog W .any base 37 v) (h:DataW.Trod enc0 Tryz.prog W 0 (fun _=>true) true 37 v d p) :
  ∃ m:IV,Rep W (allC W) (encIV m) v∧IvOk m (bulk d):=by
 obtain ⟨fuel,hf⟩:=h;obtain ⟨cs,rfl,_⟩:=okWide_struct Tryz.underlying37 hv;obtain ⟨m,hr,hg⟩:=rd_iv (enc0:=enc0) (W:=W) fuel _ _ hf;obtain ⟨l⟩:=cs;exact ⟨m,.agg _ _ hr.1 hr.2,hg⟩
def laidList:List (String×DataW Unit):=YtppjigbglfglnaaGreatDoor.Rows.isomountReadsRow.laid
theorem libOk (hL:laidMetH Tryz.prog laidList W) (hsh:W.ShapedOpen Tryz.prog):LibOk W:=by
 have hL':laidMet Tryz.prog laidList W:=hL
 refine ⟨utf8Tabs_of_reads (ρ:=Tryz.lays260_ren) Tryz.lays260 ⟨by kernel_rfl,by kernel_rfl,by kernel_rfl,by kernel_rfl,by kernel_rfl,by kernel_rfl,by kernel_rfl⟩
  (Lib.laidMet.reads hL' (.tail _ (.tail _ (.tail _ (.tail _ (.tail _ (.tail _ (.head _)))))))) (Lib.laidMet.reads hL' (.tail _ (.tail _ (.tail _ (.head _))))),?_,?_⟩
 ·obtain ⟨h1,_⟩:=hsh;obtain ⟨cs,hcs,hsz,hrow⟩:=h1 0 #[.int .i64 0] 3 (by decide +kernel) (by kernel_rfl);obtain ⟨ts,hts,_,hcell⟩:=hrow (by kernel_rfl)
  have hts':ts=[3]:=by
   have:Tryz.prog.cellTypes Tryz.prog.depth 3=some [3]:=by kernel_rfl
   exact Option.some.inj (hts.symm.trans this)
  subst hts'
  have h0:cs[0]? = some (cs[0]'(by rw [hsz]; decide)):=Array.getElem?_eq_getElem _
  obtain ⟨u,hu,hok⟩:=hcell 0 _ h0
  have hu':u=3:=by simpa using hu.symm
  subst hu'
  have hc:W.cell? ⟨0,0,none⟩=some (cs[0]'(by rw [hsz]; decide)):=by
   simp only [World.cell?,hcs]
   simpa using h0
  generalize cs[0]'(by rw [hsz]; decide)=v at hok hc
  unfold Cell.ok at hok
  rw [Tryz.underlying3] at hok
  cases v with
  | int k n=>obtain ⟨rfl,_⟩:=hok; exact ⟨n,hc⟩
  | _=>exact hok.elim
 exact Lib.tabIs_of_head (rest:=_) (g:=5) (t:=452) (e:=385) (n:=20) (by kernel_rfl) (by kernel_rfl) (by kernel_rfl) (by kernel_rfl) (by kernel_rfl) (by kernel_rfl) hL'.tail.tail
theorem iv_facts {v:IV} {b:Nat} (h:IvOk v b) (hb:b≤1048576):(∀ i,Fits (lst v i))∧(∀ i,(fls v i).length<1000000000)∧∀ i,∀ f∈fls v i,f.start≤9223372036854775807:=by
 obtain ⟨h0,h1,h2,h3,h4,h5⟩:=h;refine ⟨fun i=>?_,fun i=>?_,fun i=>?_⟩
 ·unfold Fits lst; split
  ·omega
  split<;>omega
 ·unfold fls; split
  ·omega
  split<;>omega
 unfold fls; split
 ·exact h3.2
 split
 ·exact h4.2
 exact h5.2
theorem own:ownKnob Tryz.prog.godebug=none:=by kernel_rfl
abbrev synS:ByteArray:={ data:=#[105,110,118,97,108,105,100,32,115,121,110,116,97,120] }
abbrev rngS:ByteArray:={ data:=#[118,97,108,117,101,32,111,117,116,32,111,102,32,114,97,110,103,101] }
noncomputable def laidWorld (os:Os):World :=
 let w0:=World.holding Tryz.prog os ⟨#[.cells #[.string synS] 441,.cells #[.string rngS] 441],#[],[]⟩
 let put (h:Array Obj) (g:Nat) (cs:Array Value):Array Obj:=h.modify g fun
  | .cells _ t frozen=>.cells cs t frozen
  | o=>o
 let h1:=put w0.heap 3 (Lib.firstTab.map fun z=>Value.int .u8 z).toArray
 let h2:=put h1 4 ((List.range 16).flatMap fun i=>[Value.int .u8 (Lib.accLo i),Value.int .u8 (Lib.accHi i)]).toArray
 let h3:=put h2 5 (Lib.pow10Tab.map fun z=>Value.int .u64 z).toArray
 let h4:=put h3 6 ([0,1,28,2,29,14,24,3,30,22,20,15,25,17,4,8,31,27,13,23,21,19,16,7,26,12,18,6,11,5,10,9].map fun z=>Value.int .u8 z).toArray
 let h5:=put h4 7 ([0,1,56,2,57,49,28,3,61,58,42,50,38,29,17,4,62,47,59,36,45,43,51,22,53,39,33,30,24,18,12,5,63,55,48,27,60,41,37,16,46,35,44,21,52,32,23,11,54,26,40,15,34,20,31,10,25,14,19,9,13,8,7,6].map fun z=>Value.int .u8 z).toArray
 let h6:=put h5 1 #[.iface 439 (.pointer (some ⟨13,0,none⟩))]
 let h7:=put h6 2 #[.iface 439 (.pointer (some ⟨14,0,none⟩))]
 { w0 with heap:=h7 }
theorem laid_met (os:Os) (args:Array Value):laidMet Tryz.prog laidList ((laidWorld os).forCall (fun _ _=>0) ⟨#[],args,[]⟩).memory :=
 laidMet_of_run' 8 (by kernel_rfl) (by kernel_rfl)
def bsD (bs:List UInt8):List D:=bs.map fun c=>D.int .u8 c.toNat
theorem Q65 (c:UInt8) (n:Nat) (hn:n≤1000000):DFun Tryz.prog W0 95 [.int .u8 c.toNat,Iv (n:Int)] (.str (List.replicate n c)):=by
 refine Fi Tryz.func95 rfl Tryz.ntmps95 fun Γ=>?_
 apply Sr;apply Sr;(conv=>whnf);refine ⟨trivial,?_⟩;apply Sq;apply Sr;apply Bk;refine Tri.own 5 1000 1 5 rfl (fun w=>?_);refine Tri.loopK (α:={ i:Nat // i≤n }×Value) (fun x=>[(0,.int .u8 c.toNat),(1,Iv (n:Int)),(5,.sl (.own 1000 x.2) 1 (bsD (List.replicate x.1.1 c))),(6,Iv x.1.1)]) (fun x=>[(1000,.own x.2 (bsD (List.replicate x.1.1 c)).length 1 5)]) (fun x=>n-x.1) (⟨0,by omega⟩,w) [(1000,1000)] ⟨Z,rfl,Y⟩ ?_;rintro ⟨⟨i,hi⟩,w⟩;dsimp only
 have hbl:(bsD (List.replicate i c)).length=i:=by simp [bsD]
 have hsn:bsD (List.replicate (i+1) c)=bsD (List.replicate i c)++[.int .u8 c.toNat]:=by rw [List.replicate_succ']; simp [bsD]
 apply Sq;apply Sr;refine Cd _ rfl (fun hc=>?_) (fun hc=>?_)
 ·apply Sk
  have hia:i<n:=by simpa using hc
  apply Sq;apply Bk;apply Rg;(conv=>whnf);refine ⟨trivial,?_⟩;(conv=>whnf);refine ⟨rfl,rfl,?_⟩;(conv=>whnf)
  refine ⟨by rw [hbl]; show (i+1)*1≤140737488355328; omega,by rw [hbl]; show i+1≤_; omega,(fun h=>by cases h),fun v=>?_⟩
  apply Rg;refine Ir ?_;(conv=>whnf)
  exact ⟨(⟨i+1,by omega⟩,v),[(1000,16)],by show n-(i+1)<n-i; omega,⟨.refl _,.refl _,Go.Tame.V.DLe.ownEq (by rw [hsn]; rfl),.refl _,trivial⟩,rfl,rfl,ownH (by dsimp only; rw [hsn]; simp [bsD]),trivial⟩
 refine Tri.exit ?_;apply Sq
 have hin:i=n:=by simp at hc; omega
 subst hin;refine Tri.regionX ti_ok ?_;(conv=>whnf);refine .inr (XOp.bytesStr ti_ok (bs:=List.replicate i c) (tg:=.own 1000 w) rfl rfl rfl rfl rfl rfl rfl ?_);apply Rt;(conv=>whnf);exact DLe.of_eq rfl
theorem Q251 (s:List UInt8) (n:Nat) (hn:n≤10000) (hs:s.length≤10000):DFun Tryz.prog W0 253 [.str s,Iv (n:Int)] (.str (List.replicate n s).flatten):=by
 refine Fi Tryz.func253 rfl Tryz.ntmps253 fun Γ=>?_
 apply Sr;apply Sr;apply Sq;apply Sr;apply Bk;refine Tri.own 5 1000 1 5 rfl (fun w=>?_);refine Tri.loopK (α:={ i:Nat // i≤n }×Value) (fun x=>[(0,.str s),(1,Iv (n:Int)),(5,.sl (.own 1000 x.2) 1 (bsD (List.replicate x.1.1 s).flatten)),(6,Iv x.1.1)]) (fun x=>[(1000,.own x.2 (bsD (List.replicate x.1.1 s).flatten).length 1 5)]) (fun x=>n-x.1) (⟨0,by omega⟩,w) [(1000,1000)] ⟨Z,rfl,Y⟩ ?_;rintro ⟨⟨i,hi⟩,w⟩;dsimp only
 have hbl:(bsD (List.replicate i s).flatten).length=i*s.length:=by simp [bsD]
 have hbb:i*s.length≤10000*10000:=Nat.mul_le_mul (by omega) hs
 have hsn:bsD (List.replicate (i+1) s).flatten=bsD (List.replicate i s).flatten++bsD s:=by rw [List.replicate_succ',List.flatten_append]; simp [bsD]
 apply Sq;apply Sr;refine Cd _ rfl (fun hc=>?_) (fun hc=>?_)
 ·apply Sk
  have hia:i<n:=by simpa using hc
  apply Sq;apply Bk;refine Tri.regionX ti_ok ?_;(conv=>whnf)
  refine .inr (XOp.appendStr ti_ok 1000 rfl rfl rfl (fun h=>by cases h) rfl rfl rfl rfl rfl (by rw [hbl]; show _*1≤_; omega) (by rw [hbl]; omega) fun v=>?_)
  apply Rg;refine Ir ?_;(conv=>whnf)
  exact ⟨(⟨i+1,by omega⟩,v),[(1000,14)],by show n-(i+1)<n-i; omega,⟨.refl _,.refl _,Go.Tame.V.DLe.ownEq (by rw [hsn]; rfl),.refl _,trivial⟩,rfl,rfl,ownH (by dsimp only; rw [hsn]; simp [bsD]),trivial⟩
 refine Tri.exit ?_;apply Sq
 have hin:i=n:=by simp at hc; omega
 subst hin;refine Tri.regionX ti_ok ?_;(conv=>whnf);refine .inr (XOp.bytesStr ti_ok (bs:=(List.replicate i s).flatten) (tg:=.own 1000 w) rfl rfl rfl rfl rfl rfl rfl ?_);apply Rt;(conv=>whnf);exact DLe.of_eq rfl
open Go.Ev
variable {W:World}
theorem below_grow (w:World) (k:Nat) (os:Array Obj):Below w.heap.size w (Sort.grow (w.drewN k) os) :=
 ⟨rfl,rfl,rfl,by simp [Sort.grow,World.drewN],fun b hb=>by simp only [Sort.grow,World.drewN]; exact Array.getElem?_append_left hb⟩
theorem tab_base {W0 w:World} (hb:Base W0 w) {nm:String} {k:IntKind} {zs:List Int} (h:Lib.TabIs Tryz.prog W0 nm k zs):Lib.TabIs Tryz.prog w nm k zs:=by
 unfold Lib.TabIs World.var? at h ⊢
 cases hg:Tryz.prog.globalNamed nm with
 | none=>rw [hg] at h; cases h
 | some g =>
  rw [hg] at h;simp only [Option.bind_some] at h ⊢
  have hlt:g<W0.heap.size:=by
   rcases Nat.lt_or_ge g W0.heap.size with h1|h1
   ·exact h1
   rw [Array.getElem?_eq_none h1] at h; cases h
  rw [hb.block _ hlt]; exact h
theorem Q12 {W0:World} (hL:LibOk W0) (n:Int) (h0:-9223372036854775808≤n) (h1:n≤9223372036854775807):DFun Tryz.prog W0 380 [Iv n] (.str (Lib.itoa n)) :=
 .lift (callable Tryz.func380 rfl (by decide +kernel)) rfl fun w hb=>(Tryz.strconv_Itoa n h0 h1 w (tab_base hb hL.pow10)).mono fun e w' ⟨he,k,os,hw⟩ =>
  ⟨_,he,fun C=>.str _,by subst hw; exact below_grow _ _ _⟩
theorem hasB {f : FuncId} {fn : Func} (h : Tryz.prog.funcs[f]? = some fn) (hb : fn.body.isSome = true) (hn : (fn.name == "runtime.NumGoroutine") = false) : HasBody Tryz.prog f := ⟨fn, h, hb, hn⟩
noncomputable def qCmp:List D→Option D
 | [.str s,.str p]=>some (.int .i64 (Lib.compareBytes s p))
 | _=>none
noncomputable def qContains:List D→Option D
 | [.str s,.str [c]]=>some (.bool (decide (0≤Lib.indexByte s c)))
 | _=>none
noncomputable def qTrimPrefix:List D→Option D
 | [.str s,.str p]=>some (.str (Lib.trimPrefix s p))
 | _=>none
noncomputable def qTrimSuffix:List D→Option D
 | [.str s,.str p]=>match Nat.ble s.length 100000 with|true=>some (.str (Lib.trimSuffix s p))|false=>none
 | _=>none
noncomputable def qCount:List D→Option D
 | [.str s,.str [c]]=>some (.int .i64 ((Lib.countByte s c:Nat):Int))
 | _=>none
noncomputable def digs:Nat→Nat→List UInt8→List UInt8
 | 0,_,acc=>acc
 | f+1,n,acc=>match Nat.blt n 10 with
  | true=>UInt8.ofNat (48+n)::acc
  | false=>digs f (n/10) (UInt8.ofNat (48+n%10)::acc)
theorem digs_eq:∀ f n acc,n<10 ^ (f+1)→digs (f+1) n acc=Lib.decDigits n++acc
 | f,n,acc,h=>by
  rw [Lib.decDigits.eq_1];simp only [digs]
  cases hb:Nat.blt n 10 with
  | true =>
   have h1:n<10:=Nat.le_of_ble_eq_true hb
   rw [dif_pos h1]; rfl
  | false =>
   have h1:¬ n<10:=fun h1=>by
    have:Nat.blt n 10=true:=Nat.ble_eq_true_of_le h1
    rw [hb] at this; cases this
   rw [dif_neg h1]
   cases f with
   | zero=>exact absurd (by simpa using h) h1
   | succ f =>
    show digs (f+1) (n/10) _=_
    rw [digs_eq f (n/10) _ (by rw [Nat.pow_succ] at h; omega)]
    simp
noncomputable def qItoa:List D→Option D
 | [.int .i64 (.ofNat i)]=>match Nat.blt i 1000000000000000000 with|true=>some (.str (digs 18 i []))|false=>none
 | _=>none
noncomputable def qIndexB:List D→Option D
 | [.str s,.int .u8 c]=>some (.int .i64 (Lib.indexByte s c.toNat.toUInt8))
 | _=>none
noncomputable def qIndex:List D→Option D
 | [.str s,.str p]=>match Nat.blt s.length 100000 with|true=>some (.int .i64 (Lib.index s p))|false=>none
 | _=>none
noncomputable def qRepB:List D→Option D
 | [.int .u8 (.ofNat b),.int .i64 (.ofNat n)]=>match Nat.blt b 256&&Nat.ble n 100000 with|true=>some (.str (List.replicate n b.toUInt8))|false=>none
 | _=>none
noncomputable def qRepS:List D→Option D
 | [.str s,.int .i64 (.ofNat n)]=>match Nat.ble s.length 10000&&Nat.ble n 10000 with|true=>some (.str (List.replicate n s).flatten)|false=>none
 | _=>none
theorem qCmp_ok:∀ ds d,qCmp ds=some d→DFun Tryz.prog W 212 ds d:=by
 intro ds d h
 unfold qCmp at h
 split at h
 ·cases h; exact .pure (callable Tryz.func212 rfl (by decide +kernel)) rfl rfl fun w _=>Tryz.strings_Compare ⟨⟨_⟩⟩ ⟨⟨_⟩⟩ w
 cases h
theorem qContains_ok:∀ ds d,qContains ds=some d→DFun Tryz.prog W 297 ds d:=by
 intro ds d h
 unfold qContains at h
 split at h
 ·cases h; exact .pure (callable Tryz.func297 rfl (by decide +kernel)) rfl rfl fun w _=>Tryz.strings_Contains_one ⟨⟨_⟩⟩ _ w
 cases h
theorem qTrimPrefix_ok:∀ ds d,qTrimPrefix ds=some d→DFun Tryz.prog W 300 ds d:=by
 intro ds d h
 unfold qTrimPrefix at h
 split at h
 ·cases h; exact .pure (callable Tryz.func300 rfl (by decide +kernel)) rfl rfl fun w _=>Tryz.strings_TrimPrefix ⟨⟨_⟩⟩ ⟨⟨_⟩⟩ w
 cases h
theorem qTrimSuffix_ok:∀ ds d,qTrimSuffix ds=some d→DFun Tryz.prog W 273 ds d:=by
 intro ds d h
 unfold qTrimSuffix at h
 split at h
 ·rename_i s p
  split at h
  ·rename_i hl
   have:=Nat.le_of_ble_eq_true hl
   cases h; exact .pure (callable Tryz.func273 rfl (by decide +kernel)) rfl rfl fun w _=>Tryz.strings_TrimSuffix ⟨⟨s⟩⟩ ⟨⟨p⟩⟩ w (by show s.length≤_; omega)
  cases h
 cases h
theorem qCount_ok:∀ ds d,qCount ds=some d→DFun Tryz.prog W 392 ds d:=by
 intro ds d h
 unfold qCount at h
 split at h
 ·rename_i s c
  cases h
  exact .pure (callable Tryz.func392 rfl (by decide +kernel)) rfl rfl fun w _=>Tryz.strings_Count_one ⟨⟨s⟩⟩ c w
 cases h
theorem qItoa_ok (hL:LibOk W):∀ ds d,qItoa ds=some d→DFun Tryz.prog W 380 ds d:=by
 intro ds d h
 unfold qItoa at h
 split at h
 ·rename_i i
  split at h
  ·rename_i hl
   have hl:=Nat.le_of_ble_eq_true hl
   cases h
   rw [digs_eq 17 i [] (by omega),List.append_nil,← Lib.itoa_nonneg];exact Q12 hL i (by omega) (by omega)
  cases h
 cases h
theorem qIndexB_ok:∀ ds d,qIndexB ds=some d→DFun Tryz.prog W 256 ds d:=by
 intro ds d h
 unfold qIndexB at h
 split at h
 ·rename_i s c
  cases h
  exact .pure (callable Tryz.func256 rfl (by decide +kernel)) rfl rfl fun w _=>Tryz.stringslite_IndexByte ⟨⟨s⟩⟩ c w
 cases h
theorem qIndexB2_ok:∀ ds d,qIndexB ds=some d→DFun Tryz.prog W 197 ds d:=by
 intro ds d h
 unfold qIndexB at h
 split at h
 ·rename_i s c
  cases h
  exact .pure (callable Tryz.func197 rfl (by decide +kernel)) rfl rfl fun w _=>Tryz.strings_IndexByte ⟨⟨s⟩⟩ c w
 cases h
theorem qIndex_ok (hL:LibOk W):∀ ds d,qIndex ds=some d→DFun Tryz.prog W 385 ds d:=by
 intro ds d h
 unfold qIndex at h
 split at h
 ·rename_i s p
  split at h
  ·rename_i hl
   cases h
   obtain ⟨m,hm⟩:=hL.maxlen
   have hlt:=Nat.le_of_ble_eq_true hl
   exact .pure (callable Tryz.func385 rfl (by decide +kernel)) rfl rfl fun w hb=>Tryz.stringslite_Index ⟨⟨s⟩⟩ ⟨⟨p⟩⟩ m w (by show s.length<_; omega) (cell_base hb hm)
  cases h
 cases h
theorem qIndex2_ok (hL:LibOk W):∀ ds d,qIndex ds=some d→DFun Tryz.prog W 354 ds d:=by
 intro ds d h
 unfold qIndex at h
 split at h
 ·rename_i s p
  split at h
  ·rename_i hl
   cases h
   obtain ⟨m,hm⟩:=hL.maxlen
   have hlt:=Nat.le_of_ble_eq_true hl
   exact .pure (callable Tryz.func354 rfl (by decide +kernel)) rfl rfl fun w hb=>Tryz.strings_Index ⟨⟨s⟩⟩ ⟨⟨p⟩⟩ m w (by show s.length<_; omega) (cell_base hb hm)
  cases h
 cases h
theorem qRepB_ok:∀ ds d,qRepB ds=some d→DFun Tryz.prog W 95 ds d:=by
 intro ds d h
 unfold qRepB at h
 split at h
 ·rename_i b n
  split at h
  ·rename_i hl
   rw [Bool.and_eq_true] at hl
   have h1:=Nat.le_of_ble_eq_true hl.1
   have h2:=Nat.le_of_ble_eq_true hl.2
   cases h
   have e:b.toUInt8.toNat=b:=by
    show (UInt8.ofNat b).toNat=b
    rw [UInt8.toNat_ofNat']; exact Nat.mod_eq_of_lt (by omega)
   have:=Q65 (W0:=W) b.toUInt8 n (by omega)
   rw [e] at this; exact this
  cases h
 cases h
theorem qRepS_ok:∀ ds d,qRepS ds=some d→DFun Tryz.prog W 253 ds d:=by
 intro ds d h
 unfold qRepS at h
 split at h
 ·rename_i s n
  split at h
  ·rename_i hl
   rw [Bool.and_eq_true] at hl
   cases h
   exact Q251 s n (Nat.le_of_ble_eq_true hl.2) (Nat.le_of_ble_eq_true hl.1)
  cases h
 cases h
noncomputable def qAtoi (args:List AV) (_:Go.Ev.St):Option AV:=match args with
 | [.str l v]=>match Nat.ble l 18 with
  | true=>match Lib.atoi (unpH 12 l v []) with
   | some n=>some (.tup [.int .i64 n,.undef])
   | none=>none
  | false=>none
 | _=>none
theorem qAtoi_ok {W0:WX}:OraPure Tryz.prog W0 264 qAtoi:=by
 intro args s v hv
 unfold qAtoi at hv
 split at hv
 ·rename_i l x
  split at hv
  ·rename_i hl
   split at hv
   ·rename_i n hn
    cases hv
    refine ⟨hasB Tryz.func264 rfl (by decide +kernel),fun ε D w us hs _ hu=>?_⟩;obtain ⟨u,us',rfl,hu1,hu2⟩:=VRL.cons_inv hu
    have:=VRL.nil_inv hu2; subst this
    obtain ⟨rfl,_⟩:=hu1.str_inv;rw [unpH_nil] at hn
    refine (Tryz.strconv_Atoi ⟨⟨unp l x⟩⟩ n (by show (unp l x).length≤_; rw [unp_len]; exact Nat.le_of_ble_eq_true hl) hn w).mono ?_
    rintro e w' ⟨rfl,t,rfl⟩
    have hb:=Lib.bytesWorld_below w 5 t
    refine ⟨_,rfl,.tup _ _ rfl fun i d v hd hv=>?_,hb.os,hb.tape,hb.output,hb.size,hb.block⟩
    match i with
    | 0=>cases hd; cases hv; exact .int _ _
    | 1=>cases hd; cases hv; exact .nif
    | i+2=>simp at hd
   cases hv
  cases hv
 cases hv
noncomputable def ccO (args:List AV) (s:Go.Ev.St):Option (AV×Go.Ev.St):=match args with
 | [x]=>isP x fun b off=>gd (Nat.beq off 0) (isC (s.look b) fun d m t ty k o=>gd (Nat.beq ty 130&&(Nat.beq k 0&&(Nat.beq m 2&&(!o&&!(Nat.blt b s.frz))))) (ob (Tr.get d t 0) fun c=>match c with
   | .ptr0=>Tr.force (lay d [.ptr b 0] 0 t) fun t'=>Tr.force (Tr.set (.cells d m t' ty k o) hDep s.heap b) fun h=>some (.tup [],⟨h,s.next,s.hid,s.frz⟩)
   | .ptr b' o'=>gd (Nat.beq b b'&&Nat.beq o' 0) (some (.tup [],s))
   | _=>none))
 | _=>none
theorem tup0 (ε:Env):VR ε (.tup []) (.tuple #[]):=.tup _ _ rfl fun i d v h=>by simp at h
theorem ccO_ok {W0:WX}:OraOk Tryz.prog W0 133 ccO:=by
 intro args s v s' hv;refine ⟨hasB Tryz.func133 rfl (by decide +kernel),?_⟩
 unfold ccO at hv
 split at hv
 ·rename_i x
  obtain ⟨b,off,rfl,h1⟩:=isP_eq hv;obtain ⟨h0,h1⟩:=gd_eq h1
  have h0:=Nat.eq_of_beq_eq_true h0; subst h0
  obtain ⟨d,m,t,ty,k,o,hl,h2⟩:=isC_eq h1;obtain ⟨h3,h4⟩:=gd_eq h2;simp only [Bool.and_eq_true,Bool.not_eq_true'] at h3;obtain ⟨e1,e2,e3,e4,e5⟩:=h3
  have e1:=Nat.eq_of_beq_eq_true e1
  have e2:=Nat.eq_of_beq_eq_true e2
  have e3:=Nat.eq_of_beq_eq_true e3
  subst e1 e2 e3 e4;obtain ⟨c,hc,h5⟩:=ob_eq h4
  split at h5
  ·rw [Tr.force_eq,Tr.force_eq] at h5
   cases h5
   refine ⟨fun D ε w us hs hvis hu _=>?_,fun hf hn=>.setB hn (look_lt hl) (not_blt e5) _⟩;obtain ⟨u,us',rfl,hu1,hu2⟩:=VRL.cons_inv hu
   have:=VRL.nil_inv hu2; subst this
   obtain ⟨hD,hat⟩:=hvis.look hl;obtain ⟨r,c,vs,fz,g1,g2,g3,g4,g5,g6,g7,g8⟩:=hs.blk b _ hD hat;obtain ⟨r',c',hr',hp⟩:=hu1.ptr_inv
   rw [g1] at hr'; cases hr'
   subst hp;obtain ⟨x,y,x1,x2,x3,x4⟩:=g8 0 (by decide)
   rw [hc] at x1; cases x1
   have hy:y=.pointer none:=by cases x3; rfl
   subst hy
   have hvl:vs.length=2:=g6 rfl
   have hfz:fz=(0,0):=by rcases g3 with h|h; exact h; exact absurd h.1 (by decide)
   subst hfz
   obtain ⟨r2,c2,q1,q2,q3⟩:=write_ok (P:=Tryz.prog) hs hvis hl e5 (off:=0) (ds:=[.ptr b 0]) (us:=[.pointer (some ⟨r,0,none⟩)]) (by show 0+1≤2; omega) (.cons (.ptr _ _ _ _ g1) (.nil _)) (by intro u hu; simp at hu; subst hu; rfl)
   rw [g1] at q1; cases q1
   refine (cc_fresh r w (by simp [World.cell?,g2,x2]) (by simp [World.shape?,g2,hvl]) (by simp [World.frozen?,g2])).mono ?_;rintro e w' ⟨rfl,rfl⟩;exact ⟨ε,_,rfl,tup0 ε,q3⟩
  ·rename_i b' o'
   obtain ⟨h6,h7⟩:=gd_eq h5
   cases h7
   rw [Bool.and_eq_true] at h6
   have h8:=Nat.eq_of_beq_eq_true h6.1; subst h8
   have h9:=Nat.eq_of_beq_eq_true h6.2; subst h9
   refine ⟨fun D ε w us hs hvis hu _=>?_,fun hf hn=>.refl hn⟩;obtain ⟨u,us',rfl,hu1,hu2⟩:=VRL.cons_inv hu
   have:=VRL.nil_inv hu2; subst this
   obtain ⟨hD,hat⟩:=hvis.look hl;obtain ⟨r,c,vs,fz,g1,g2,g3,g4,g5,g6,g7,g8⟩:=hs.blk b _ hD hat;obtain ⟨r',c',hr',hp⟩:=hu1.ptr_inv
   rw [g1] at hr'; cases hr'
   subst hp;obtain ⟨x,y,x1,x2,x3,x4⟩:=g8 0 (by decide)
   rw [hc] at x1; cases x1
   obtain ⟨r',c',hr',hy⟩:=x3.ptr_inv
   rw [g1] at hr'; cases hr'
   subst hy;refine (cc_used r w (by simp [World.cell?,g2,x2])).mono ?_;rintro e w' ⟨rfl,rfl⟩;exact ⟨ε,_,rfl,tup0 ε,.refl hs hvis⟩
  cases h5
 cases hv
noncomputable def libL:List (Nat×(List AV→Go.Ev.St→Option (AV×Go.Ev.St))):=[(212,puO (oraD qCmp)),(297,puO (oraD qContains)),(300,puO (oraD qTrimPrefix)),(273,puO (oraD qTrimSuffix)),(392,puO (oraD qCount)),(380,puO (oraD qItoa)),(256,puO (oraD qIndexB)),(197,puO (oraD qIndexB)),(385,puO (oraD qIndex)),(354,puO (oraD qIndex)),(95,puO (oraD qRepB)),(253,puO (oraD qRepS)),(264,puO qAtoi),(133,ccO)]
theorem libL_ok {W0:WX} (hL:LibOk W0.base):∀ p∈libL,OraOk Tryz.prog W0 p.1 p.2:=by
 intro p hp;simp only [libL,List.mem_cons,List.not_mem_nil,or_false] at hp
 rcases hp with rfl|rfl|rfl|rfl|rfl|rfl|rfl|rfl|rfl|rfl|rfl|rfl|rfl|rfl
 ·exact (oraD_ok qCmp_ok).ok
 ·exact (oraD_ok qContains_ok).ok
 ·exact (oraD_ok qTrimPrefix_ok).ok
 ·exact (oraD_ok qTrimSuffix_ok).ok
 ·exact (oraD_ok qCount_ok).ok
 ·exact (oraD_ok (qItoa_ok hL)).ok
 ·exact (oraD_ok qIndexB_ok).ok
 ·exact (oraD_ok qIndexB2_ok).ok
 ·exact (oraD_ok (qIndex_ok hL)).ok
 ·exact (oraD_ok (qIndex2_ok hL)).ok
 ·exact (oraD_ok qRepB_ok).ok
 ·exact (oraD_ok qRepS_ok).ok
 ·exact qAtoi_ok.ok
 exact ccO_ok
set_option maxRecDepth 100000
set_option linter.unusedVariables false
theorem end124 (w : World) (o1 o2 o3 o4 : Obj) : Below w.heap.size w (((((w.alloc o1).alloc o2).alloc o3).alloc o4).drew.drew) ∧ w.heap.size ≤ w.heap.size + 1 + 1 + 1 ∧
  (((((w.alloc o1).alloc o2).alloc o3).alloc o4).drew.drew).heap[w.heap.size + 1 + 1 + 1]? = some o4:=by
 have q : ∀ (w : World) o,(w.alloc o).heap = w.heap.push o:=fun _ _ => rfl
 have d : ∀ (w : World),w.drew.heap = w.heap:=fun _ => rfl
 have s1 : w.heap.size ≤ (w.alloc o1).heap.size:=by rw [q,Array.size_push]; omega
 have s2 : w.heap.size ≤ ((w.alloc o1).alloc o2).heap.size:=by rw [q,Array.size_push]; omega
 have s3 : w.heap.size ≤ (((w.alloc o1).alloc o2).alloc o3).heap.size:=by rw [q,Array.size_push]; omega
 refine ⟨((((((Below.refl _ _).alloc (Nat.le_refl _) _).alloc s1 _).alloc s2 _).alloc s3 _).drew).drew,by omega,?_⟩
 have z : w.heap.size + 1 + 1 + 1 = (((w.alloc o1).alloc o2).alloc o3).heap.size:=by rw [q,q,q,Array.size_push,Array.size_push,Array.size_push]
 rw [d,d,z,q _ o4]
 exact Array.getElem?_push_size
set_option maxHeartbeats 4000000 in
theorem leaf124 (w : World) (b off : Nat) (p : ByteArray) (r : Bool) (s0 s2 s3 : ByteArray) (k4 k5 k6 k7 k8 k9 : Int) (q10 q11 : Option Addr) (n10 c10 n11 c11 : Nat) (st ln : Int)
  (h0 : w.cell? ⟨b,off,none⟩ = some (.string s0)) (h1 : w.cell? ⟨b,off + 1,none⟩ = some (.int .i64 1)) (h2 : w.cell? ⟨b,off + 2,none⟩ = some (.string s2)) (h3 : w.cell? ⟨b,off + 3,none⟩ = some (.string s3))
  (h4 : w.cell? ⟨b,off + 4,none⟩ = some (.int .i64 k4)) (h5 : w.cell? ⟨b,off + 5,none⟩ = some (.int .i64 k5)) (h6 : w.cell? ⟨b,off + 6,none⟩ = some (.int .i64 k6)) (h7 : w.cell? ⟨b,off + 7,none⟩ = some (.int .i64 k7))
  (h8 : w.cell? ⟨b,off + 8,none⟩ = some (.int .i64 k8)) (h9 : w.cell? ⟨b,off + 9,none⟩ = some (.int .i64 k9)) (h10 : w.cell? ⟨b,off + 10,none⟩ = some (.slice q10 n10 c10)) (h11 : w.cell? ⟨b,off + 11,none⟩ = some (.slice q11 n11 c11))
  (h12 : w.cell? ⟨b,off + 12,none⟩ = some (.int .i64 st)) (h13 : w.cell? ⟨b,off + 13,none⟩ = some (.int .i64 ln)) :
  Calls Tryz.prog 124 #[.pointer (some ⟨b,off,none⟩),.string p,.bool r] w fun e w' => ∃ sb,e = .returned (.tuple #[.agg #[.string s0,.int .i64 1,.string s2,.string s3,.int .i64 k4,.int .i64 k5,.int .i64 k6,.int .i64 k7,.int .i64 k8,.int .i64 k9,.slice q10 n10 c10,.slice q11 n11 c11],.slice (some ⟨sb,0,none⟩) 1 1]) ∧ Below w.heap.size w w' ∧ w.heap.size ≤ sb ∧
   w'.heap[sb]? = some (.cells #[.string p,.int .i64 (if ln = 0 then 0 else st),.int .i64 ln] 39 (0,0)):=by
 have a0 : ∀ o1,(w.alloc o1).cell? ⟨b,off,none⟩ = some (.string s0):=fun o1 => cell?_alloc_old o1 h0
 have a1 : ∀ o1,(w.alloc o1).cell? ⟨b,off + 1,none⟩ = some (.int .i64 1):=fun o1 => cell?_alloc_old o1 h1
 have a2 : ∀ o1,(w.alloc o1).cell? ⟨b,off + 2,none⟩ = some (.string s2):=fun o1 => cell?_alloc_old o1 h2
 have a3 : ∀ o1,(w.alloc o1).cell? ⟨b,off + 3,none⟩ = some (.string s3):=fun o1 => cell?_alloc_old o1 h3
 have a4 : ∀ o1,(w.alloc o1).cell? ⟨b,off + 4,none⟩ = some (.int .i64 k4):=fun o1 => cell?_alloc_old o1 h4
 have a5 : ∀ o1,(w.alloc o1).cell? ⟨b,off + 5,none⟩ = some (.int .i64 k5):=fun o1 => cell?_alloc_old o1 h5
 have a6 : ∀ o1,(w.alloc o1).cell? ⟨b,off + 6,none⟩ = some (.int .i64 k6):=fun o1 => cell?_alloc_old o1 h6
 have a7 : ∀ o1,(w.alloc o1).cell? ⟨b,off + 7,none⟩ = some (.int .i64 k7):=fun o1 => cell?_alloc_old o1 h7
 have a8 : ∀ o1,(w.alloc o1).cell? ⟨b,off + 8,none⟩ = some (.int .i64 k8):=fun o1 => cell?_alloc_old o1 h8
 have a9 : ∀ o1,(w.alloc o1).cell? ⟨b,off + 9,none⟩ = some (.int .i64 k9):=fun o1 => cell?_alloc_old o1 h9
 have a10 : ∀ o1,(w.alloc o1).cell? ⟨b,off + 10,none⟩ = some (.slice q10 n10 c10):=fun o1 => cell?_alloc_old o1 h10
 have a11 : ∀ o1,(w.alloc o1).cell? ⟨b,off + 11,none⟩ = some (.slice q11 n11 c11):=fun o1 => cell?_alloc_old o1 h11
 have a12 : ∀ o1,(w.alloc o1).cell? ⟨b,off + 12,none⟩ = some (.int .i64 st):=fun o1 => cell?_alloc_old o1 h12
 have a13 : ∀ o1,(w.alloc o1).cell? ⟨b,off + 13,none⟩ = some (.int .i64 ln):=fun o1 => cell?_alloc_old o1 h13
 have b0 : ∀ o1 o2,((w.alloc o1).alloc o2).cell? ⟨b,off,none⟩ = some (.string s0):=fun o1 o2 => cell?_alloc_old o2 (a0 o1)
 have b1 : ∀ o1 o2,((w.alloc o1).alloc o2).cell? ⟨b,off + 1,none⟩ = some (.int .i64 1):=fun o1 o2 => cell?_alloc_old o2 (a1 o1)
 have b2 : ∀ o1 o2,((w.alloc o1).alloc o2).cell? ⟨b,off + 2,none⟩ = some (.string s2):=fun o1 o2 => cell?_alloc_old o2 (a2 o1)
 have b3 : ∀ o1 o2,((w.alloc o1).alloc o2).cell? ⟨b,off + 3,none⟩ = some (.string s3):=fun o1 o2 => cell?_alloc_old o2 (a3 o1)
 have b4 : ∀ o1 o2,((w.alloc o1).alloc o2).cell? ⟨b,off + 4,none⟩ = some (.int .i64 k4):=fun o1 o2 => cell?_alloc_old o2 (a4 o1)
 have b5 : ∀ o1 o2,((w.alloc o1).alloc o2).cell? ⟨b,off + 5,none⟩ = some (.int .i64 k5):=fun o1 o2 => cell?_alloc_old o2 (a5 o1)
 have b6 : ∀ o1 o2,((w.alloc o1).alloc o2).cell? ⟨b,off + 6,none⟩ = some (.int .i64 k6):=fun o1 o2 => cell?_alloc_old o2 (a6 o1)
 have b7 : ∀ o1 o2,((w.alloc o1).alloc o2).cell? ⟨b,off + 7,none⟩ = some (.int .i64 k7):=fun o1 o2 => cell?_alloc_old o2 (a7 o1)
 have b8 : ∀ o1 o2,((w.alloc o1).alloc o2).cell? ⟨b,off + 8,none⟩ = some (.int .i64 k8):=fun o1 o2 => cell?_alloc_old o2 (a8 o1)
 have b9 : ∀ o1 o2,((w.alloc o1).alloc o2).cell? ⟨b,off + 9,none⟩ = some (.int .i64 k9):=fun o1 o2 => cell?_alloc_old o2 (a9 o1)
 have b10 : ∀ o1 o2,((w.alloc o1).alloc o2).cell? ⟨b,off + 10,none⟩ = some (.slice q10 n10 c10):=fun o1 o2 => cell?_alloc_old o2 (a10 o1)
 have b11 : ∀ o1 o2,((w.alloc o1).alloc o2).cell? ⟨b,off + 11,none⟩ = some (.slice q11 n11 c11):=fun o1 o2 => cell?_alloc_old o2 (a11 o1)
 have b12 : ∀ o1 o2,((w.alloc o1).alloc o2).cell? ⟨b,off + 12,none⟩ = some (.int .i64 st):=fun o1 o2 => cell?_alloc_old o2 (a12 o1)
 have b13 : ∀ o1 o2,((w.alloc o1).alloc o2).cell? ⟨b,off + 13,none⟩ = some (.int .i64 ln):=fun o1 o2 => cell?_alloc_old o2 (a13 o1)
 have c12 : ∀ o1 o2 o3,(((w.alloc o1).alloc o2).alloc o3).cell? ⟨b,off + 12,none⟩ = some (.int .i64 st):=fun o1 o2 o3 => cell?_alloc_old o3 (b12 o1 o2)
 have c13 : ∀ o1 o2 o3,(((w.alloc o1).alloc o2).alloc o3).cell? ⟨b,off + 13,none⟩ = some (.int .i64 ln):=fun o1 o2 o3 => cell?_alloc_old o3 (b13 o1 o2)
 by_cases hz : ln = 0
 ·subst hz
  go_enter Tryz.func124,Tryz.ntmps124
  go_wp2
  go_region
  go_wp2
  go_region
  go_wp2
  go_returns
  exact ⟨_,rfl,(end124 w _ _ _ _).1,by omega,(end124 w _ _ _ _).2.2⟩
 ·have hz' : (ln == 0) = false:=by simp [hz]
  go_enter Tryz.func124,Tryz.ntmps124
  go_wp2
  go_region
  go_wp2
  go_region
  go_wp2
  go_returns
  refine ⟨_,rfl,(end124 w _ _ _ _).1,by omega,?_⟩
  first | exact (end124 w _ _ _ _).2.2 | (rw [if_neg hz]; exact (end124 w _ _ _ _).2.2)
end Go.Tame.V
namespace Go.Ev
open Go Go.RowKit
set_option linter.unusedVariables false
variable {W0 : WX}
theorem Out.place {ε : Env} {s : St} {D : Nat → Prop} {w w' : World} (h : Sim W0 ε s.at D w) (hv : Vis s D) (hf : ε s.next = none) (hn : s.next < hMax) (x : AB) {sb c : Nat}
  (hb : Below w.heap.size w w') (hge : w.heap.size ≤ sb) (hlt : sb < w'.heap.size) (hbr : BR W0 (ext ε s.next sb c) w' s.next x) : Out W0 ε s D w (ext ε s.next sb c) (s.push x) w':=by
 have hk : ∀ r,r < w.heap.size → w'.heap[r]? = w.heap[r]?:=hb.block
 have hle:=ext_le sb c hf
 have hat : ∀ b,D b → (s.push x).at b = s.at b:=fun b hb => by
  have:=(hv.1 b hb).1
  rw [St.push_at hn x (Nat.lt_of_lt_of_le this hv.2.2.1),if_neg (by omega)]
 have hD : ∀ b,(D b ∨ (s.next ≤ b ∧ b < s.next + 1)) → (D b ∧ b ≠ s.next) ∨ b = s.next:=fun b hb => by
  rcases hb with hb | hb
  ·have:=(hv.1 b hb).1; exact .inl ⟨hb,by omega⟩
  ·exact .inr (by omega)
 refine ⟨hle,fun b a1 a2 => ?_,⟨?_,fun b y hb hy => ?_,fun b b' y y' r e e' hb hb' hy hy' ha ha' he he' => ?_,fun b r e he => ?_,fun b r e he => ?_⟩,hb.os,hb.tape,hb.output,hb.size,fun r hr _ => hk r hr,fun b y r e hb hy ha he => ?_,Nat.le_succ _,rfl,rfl,fun b hm hb => ?_,hn,fun r hr => by
  have hlt : r < w.heap.size:=(Array.getElem?_eq_some_iff.1 hr).1
  rw [hk r hlt]; exact hr⟩
 ·by_cases e : b = s.next
  ·subst e; exact ⟨Nat.le_refl _,Nat.lt_succ_self _⟩
  ·rw [ext_ne _ _ _ e] at a2; exact absurd a1 a2
 ·exact Below.of h.base hb.os hb.tape hb.output hb.size fun r hr => hk r (Nat.lt_of_lt_of_le hr h.base.size)
 ·rcases hD b hb with ⟨hb,_⟩ | rfl
  ·rw [hat b hb] at hy
   exact (h.blk b y hb hy).mono hle fun _ r e he => hk r (h.lt b r e he)
  ·rw [St.push_at hn x hn,if_pos rfl] at hy
   cases hy; exact hbr
 ·rcases hD b hb with ⟨hb,hne⟩ | rfl <;> rcases hD b' hb' with ⟨hb',hne'⟩ | rfl
  ·rw [hat b hb] at hy; rw [hat b' hb'] at hy'
   rw [ext_ne _ _ _ hne] at he; rw [ext_ne _ _ _ hne'] at he'
   exact h.inj b b' y y' r e e' hb hb' hy hy' ha ha' he he'
  ·rw [ext_ne _ _ _ hne] at he
   rw [ext_same] at he'
   have:=h.lt b r e he
   cases he'; omega
  ·rw [ext_ne _ _ _ hne'] at he'
   rw [ext_same] at he
   have:=h.lt b' r e' he'
   cases he; omega
  ·rfl
 ·by_cases hb1 : b = s.next
  ·subst hb1; rw [ext_same] at he; cases he; exact hlt
  ·rw [ext_ne _ _ _ hb1] at he; exact Nat.lt_of_lt_of_le (h.lt b r e he) hb.size
 ·by_cases hb1 : b = s.next
  ·subst hb1; rw [ext_same] at he; cases he; exact Nat.le_trans h.base.size hge
  ·rw [ext_ne _ _ _ hb1] at he; exact h.low b r e he
 ·rcases hD b hb with ⟨hb,hne⟩ | rfl
  ·rw [hat b hb] at hy
   rw [ext_ne _ _ _ hne] at he
   exact .inr ⟨b,y,e,hb,hy,ha,he⟩
  ·rw [ext_same] at he; cases he; exact .inl hge
 ·rcases hb with hb | hb
  ·have:=hv.2.2.2.1
   rw [St.push_at hn x (by omega),if_neg (by omega)]
  ·by_cases hbn : s.next ≤ b
   ·rw [hv.2.2.2.2 b hbn] at hb; cases hb
   ·rw [St.push_at hn x (by omega),if_neg (by omega)]
end Go.Ev
namespace Go.Tame.V
open Go Go.Proofs Go.Ev Go.RowKit
set_option linter.unusedVariables false
variable {W0 : WX}
def isStrA : AV → Bool | .str _ _ => true | _ => false
def isI64A : AV → Bool | .int .i64 _ => true | _ => false
def isSlA : AV → Bool | .sl0 => true | .slE => true | .sl _ _ _ _ => true | _ => false
def zA : AV → Bool | .int _ (.ofNat n) => Nat.beq n 0 | _ => false
def oneA : AV → Bool | .int .i64 (.ofNat n) => Nat.beq n 1 | _ => false
theorem isStrA_ok {ε : Env} {x : AV} {u : Value} (h : isStrA x = true) (hu : VR ε x u) : ∃ s,u = .string s:=by
 cases x <;> first | (cases h; done) | exact ⟨_,hu.str_inv.1⟩
theorem isI64A_ok {ε : Env} {x : AV} {u : Value} (h : isI64A x = true) (hu : VR ε x u) : ∃ n,u = .int .i64 n ∧ x = .int .i64 n:=by
 cases x <;> first | (cases h; done) | skip
 rename_i k n
 cases k <;> first | (cases h; done) | exact ⟨n,hu.int_inv,rfl⟩
theorem isSlA_ok {ε : Env} {x : AV} {u : Value} (h : isSlA x = true) (hu : VR ε x u) : ∃ q n c,u = .slice q n c:=by
 cases x <;> first | (cases h; done) | skip
 ·exact ⟨_,_,_,hu.sl0_inv⟩
 ·obtain ⟨a,n,e⟩:=hu.slE_inv; exact ⟨_,_,_,e⟩
 ·obtain ⟨r,c,n,_,e,_⟩:=hu.sl_inv; exact ⟨_,_,_,e⟩
theorem zA_eq (k : IntKind) (n : Int) : zA (.int k n) = decide (n = 0):=by
 cases n with
 | ofNat n =>
  show Nat.beq n 0 = _
  rw [Bool.eq_iff_iff,Nat.beq_eq,decide_eq_true_iff]; simp only [Int.ofNat_eq_natCast]; omega
 | negSucc n =>
  show false = _
  symm; rw [decide_eq_false_iff_not]; omega
theorem oneA_ok {ε : Env} {x : AV} {u : Value} (h : oneA x = true) (hu : VR ε x u) : u = .int .i64 1:=by
 cases x <;> first | (cases h; done) | skip
 rename_i k n
 cases k <;> first | (cases h; done) | skip
 cases n with
 | ofNat n =>
  have h : Nat.beq n 1 = true:=h
  have:=Nat.eq_of_beq_eq_true h; subst this
  exact hu.int_inv
 | negSucc n => cases h
noncomputable def leafK (pl pv : Nat) (s : Go.Ev.St) (cs : List AV) (ln st' : AV) : Option (AV × Go.Ev.St) :=
 mkB s 1 3 (lay 1 [.str pl pv,st',ln] 0 .nil) 39 0 false fun b => .tup [.agg cs,.sl b 0 1 (.known 1)]
noncomputable def leafO (args : List AV) (s : Go.Ev.St) : Option (AV × Go.Ev.St):=match args with
 | [x0,.str pl pv,.bool _] => isP x0 fun b off => isC (s.look b) fun d n t _ _ _ => gd (Nat.ble (off + 14) n) (ob (rng d t 14 off) fun cs => match cs with
  | [c0,c1,c2,c3,c4,c5,c6,c7,c8,c9,c10,c11,c12,c13] => gd (isStrA c0 && (oneA c1 && (isStrA c2 && (isStrA c3 && (isI64A c4 && (isI64A c5 && (isI64A c6 && (isI64A c7 && (isI64A c8 && (isI64A c9 && (isSlA c10 && (isSlA c11 && (isI64A c12 && isI64A c13))))))))))))) (match zA c13 with
   | true => leafK pl pv s [c0,c1,c2,c3,c4,c5,c6,c7,c8,c9,c10,c11] c13 (.int .i64 (.ofNat 0))
   | false => leafK pl pv s [c0,c1,c2,c3,c4,c5,c6,c7,c8,c9,c10,c11] c13 c12)
  | _ => none)
 | _ => none
theorem leafK_ok {ε : Env} {s : Go.Ev.St} {D : Nat → Prop} {w w' : World} (hs : Sim W0 ε s.at D w) (hv : Vis s D) (hf : ε s.next = none) (hn : s.next < hMax) {pl pv : Nat} (hp : pv < 256 ^ pl) {cs : List AV} {us : List Value} (hc : VRL ε cs us) {st ln : Int} {sb : Nat}
  (hb : Below w.heap.size w w') (hge : w.heap.size ≤ sb) (hbk : w'.heap[sb]? = some (.cells #[.string ⟨⟨unp pl pv⟩⟩,.int .i64 st,.int .i64 ln] 39 (0,0))) :
  ∃ ε' u,Ending.returned (.tuple #[.agg ⟨us⟩,.slice (some ⟨sb,0,none⟩) 1 1]) = .returned u ∧ VR ε' (.tup [.agg cs,.sl s.next 0 1 (.known 1)]) u ∧ Out W0 ε s D w ε' (s.push (.cells 1 3 (lay 1 [.str pl pv,.int .i64 st,.int .i64 ln] 0 .nil) 39 0 false)) w':=by
 have hle:=ext_le sb 0 hf
 have hlt : sb < w'.heap.size:=(Array.getElem?_eq_some_iff.1 hbk).1
 refine ⟨ext ε s.next sb 0,_,rfl,?_,Out.place hs hv hf hn _ hb hge hlt ?_⟩
 ·have h2 : VRL (ext ε s.next sb 0) [.agg cs,.sl s.next 0 1 (.known 1)] [.agg ⟨us⟩,.slice (some ⟨sb,0,none⟩) 1 1] :=
   .cons (.agg _ _ (hc.mono hle).1 (hc.mono hle).2) (.cons (.slK _ _ _ _ _ 0 (ext_same ..) (Nat.le_refl _)) (.nil _))
  exact .tup _ _ h2.1 h2.2
 ·refine BR.mk (ext_same ..) (us:=[.string ⟨⟨unp pl pv⟩⟩,.int .i64 st,.int .i64 ln]) (tail:=[]) (fz:=(0,0)) hbk (.inl rfl) (.cons (.str _ _ hp) (.cons (.int _ _) (.cons (.int _ _) (.nil _)))) ?_ (by show 3 ≤ 8; omega) (fun _ => rfl) (fun h => by cases h) rfl
  intro u hu
  simp only [List.mem_cons,List.not_mem_nil,or_false] at hu
  rcases hu with rfl | rfl | rfl <;> rfl
theorem leafO_ok : OraOk Tryz.prog W0 124 leafO:=by
 intro args s v s' h
 refine ⟨hasB Tryz.func124 rfl (by decide +kernel),?_⟩
 unfold leafO at h
 split at h
 ·rename_i x0 pl pv rr
  obtain ⟨b,off,rfl,h⟩:=isP_eq h
  obtain ⟨d,n,t,ty,k,o,hl,h⟩:=isC_eq h
  obtain ⟨hle,h⟩:=gd_eq h
  have hle:=Nat.le_of_ble_eq_true hle
  obtain ⟨cs,hc,h⟩:=ob_eq h
  split at h
  ·rename_i c0 c1 c2 c3 c4 c5 c6 c7 c8 c9 c10 c11 c12 c13
   obtain ⟨hg,h⟩:=gd_eq h
   simp only [Bool.and_eq_true] at hg
   obtain ⟨g0,g1,g2,g3,g4,g5,g6,g7,g8,g9,g10,g11,g12,g13⟩:=hg
   have key : ∀ D ε w us,Sim W0 ε s.at D w → Vis s D → VRL ε [.ptr b off,.str pl pv,.bool rr] us → ∃ (vs : List Value) (st ln : Int) (us0 : List Value),us = us0 ∧ c12 = .int .i64 st ∧ c13 = .int .i64 ln ∧ VRL ε [c0,c1,c2,c3,c4,c5,c6,c7,c8,c9,c10,c11] vs ∧ pv < 256 ^ pl ∧
     Calls Tryz.prog 124 ⟨us0⟩ w fun e w' => ∃ sb,e = .returned (.tuple #[.agg ⟨vs⟩,.slice (some ⟨sb,0,none⟩) 1 1]) ∧ Below w.heap.size w w' ∧ w.heap.size ≤ sb ∧ w'.heap[sb]? = some (.cells #[.string ⟨⟨unp pl pv⟩⟩,.int .i64 (if ln = 0 then 0 else st),.int .i64 ln] 39 (0,0)):=by
    intro D ε w us hs hv hu
    obtain ⟨u0,us1,rfl,hu0,hu⟩:=VRL.cons_inv hu
    obtain ⟨u1,us2,rfl,hu1,hu⟩:=VRL.cons_inv hu
    obtain ⟨u2,us3,rfl,hu2,hu⟩:=VRL.cons_inv hu
    have:=VRL.nil_inv hu; subst this
    obtain ⟨hD,hat⟩:=hv.look hl
    obtain ⟨r,c,hr,rfl⟩:=hu0.ptr_inv
    obtain ⟨rfl,hpv⟩:=hu1.str_inv
    have hu2:=hu2.bool_inv; subst hu2
    obtain ⟨vs,hlen,hvr,hcell,_⟩:=(hs.blk b _ hD hat).rng hr hle hc
    have hvr0:=hvr
    obtain ⟨v0,t0,rfl,d0,hvr⟩:=VRL.cons_inv hvr
    obtain ⟨v1,t1,rfl,d1,hvr⟩:=VRL.cons_inv hvr
    obtain ⟨v2,t2,rfl,d2,hvr⟩:=VRL.cons_inv hvr
    obtain ⟨v3,t3,rfl,d3,hvr⟩:=VRL.cons_inv hvr
    obtain ⟨v4,t4,rfl,d4,hvr⟩:=VRL.cons_inv hvr
    obtain ⟨v5,t5,rfl,d5,hvr⟩:=VRL.cons_inv hvr
    obtain ⟨v6,t6,rfl,d6,hvr⟩:=VRL.cons_inv hvr
    obtain ⟨v7,t7,rfl,d7,hvr⟩:=VRL.cons_inv hvr
    obtain ⟨v8,t8,rfl,d8,hvr⟩:=VRL.cons_inv hvr
    obtain ⟨v9,t9,rfl,d9,hvr⟩:=VRL.cons_inv hvr
    obtain ⟨v10,t10,rfl,d10,hvr⟩:=VRL.cons_inv hvr
    obtain ⟨v11,t11,rfl,d11,hvr⟩:=VRL.cons_inv hvr
    obtain ⟨v12,t12,rfl,d12,hvr⟩:=VRL.cons_inv hvr
    obtain ⟨v13,t13,rfl,d13,hvr⟩:=VRL.cons_inv hvr
    have:=VRL.nil_inv hvr; subst this
    obtain ⟨s0,rfl⟩:=isStrA_ok g0 d0
    obtain ⟨s2,rfl⟩:=isStrA_ok g2 d2
    obtain ⟨s3,rfl⟩:=isStrA_ok g3 d3
    have:=oneA_ok g1 d1; subst this
    obtain ⟨k4,rfl,e4⟩:=isI64A_ok g4 d4
    obtain ⟨k5,rfl,e5⟩:=isI64A_ok g5 d5
    obtain ⟨k6,rfl,e6⟩:=isI64A_ok g6 d6
    obtain ⟨k7,rfl,e7⟩:=isI64A_ok g7 d7
    obtain ⟨k8,rfl,e8⟩:=isI64A_ok g8 d8
    obtain ⟨k9,rfl,e9⟩:=isI64A_ok g9 d9
    obtain ⟨k12,rfl,e12⟩:=isI64A_ok g12 d12
    obtain ⟨k13,rfl,e13⟩:=isI64A_ok g13 d13
    obtain ⟨q10,n10,m10,rfl⟩:=isSlA_ok g10 d10
    obtain ⟨q11,n11,m11,rfl⟩:=isSlA_ok g11 d11
    refine ⟨_,k12,k13,_,rfl,e12,e13,.cons d0 (.cons d1 (.cons d2 (.cons d3 (.cons d4 (.cons d5 (.cons d6 (.cons d7 (.cons d8 (.cons d9 (.cons d10 (.cons d11 (.nil _)))))))))))),hpv,leaf124 w r off ⟨⟨unp pl pv⟩⟩ rr s0 s2 s3 k4 k5 k6 k7 k8 k9 q10 q11 n10 m10 n11 m11 k12 k13 (hcell 0 _ rfl) (hcell 1 _ rfl) (hcell 2 _ rfl) (hcell 3 _ rfl) (hcell 4 _ rfl) (hcell 5 _ rfl) (hcell 6 _ rfl) (hcell 7 _ rfl) (hcell 8 _ rfl) (hcell 9 _ rfl) (hcell 10 _ rfl) (hcell 11 _ rfl) (hcell 12 _ rfl) (hcell 13 _ rfl)⟩
   have fin : ∀ (a : AV),(∀ st ln : Int,c12 = .int .i64 st → c13 = .int .i64 ln → a = .int .i64 (if ln = 0 then 0 else st)) → leafK pl pv s [c0,c1,c2,c3,c4,c5,c6,c7,c8,c9,c10,c11] c13 a = some (v,s') → (∀ (D : Nat → Prop) (ε : Env) (w : World) (us : List Value),Sim W0 ε s.at D w → Vis s D → VRL ε [.ptr b off,.str pl pv,.bool rr] us → (∀ b,s.next ≤ b → b < s'.next → ε b = none) →
     Calls Tryz.prog 124 ⟨us⟩ w fun e w' => ∃ ε' u,e = .returned u ∧ VR ε' v u ∧ Out W0 ε s D w ε' s' w') ∧ (s.frz ≤ s.next → s.next ≤ hMax → Kp s s'):=by
    intro a ha h
    refine ⟨fun D ε w us hs hv hu hfr => ?_,fun hf _ => mkB_kp hf h⟩
    obtain ⟨h1,h2,rfl,rfl⟩:=mkB_eq h
    obtain ⟨vs,st,ln,us0,rfl,e12,e13,hvr,hpv,hcalls⟩:=key D ε w us hs hv hu
    have:=ha st ln e12 e13; subst this
    subst e13
    refine hcalls.mono ?_
    rintro e w' ⟨sb,rfl,hb,hge,hbk⟩
    exact leafK_ok hs hv (hfr s.next (Nat.le_refl _) (Nat.lt_succ_self _)) h1 hpv hvr hb hge hbk
   split at h
   ·rename_i hz
    exact fin _ (fun st ln _ e => by subst e; rw [zA_eq,decide_eq_true_iff] at hz; rw [if_pos hz]; rfl) h
   ·rename_i hz
    exact fin _ (fun st ln e e' => by subst e'; rw [zA_eq,decide_eq_false_iff_not] at hz; rw [if_neg hz]; exact e) h
  ·cases h
 ·cases h
noncomputable def libN : List (Nat × (List AV → Go.Ev.St → Option (AV × Go.Ev.St))):=(124,leafO)::libL
theorem libN_ok (hL : LibOk W0.base) : ∀ p ∈ libN,OraOk Tryz.prog W0 p.1 p.2:=by
 intro p hp
 rcases List.mem_cons.1 hp with rfl | hp
 ·exact leafO_ok
 ·exact libL_ok hL p hp
end Go.Tame.V
