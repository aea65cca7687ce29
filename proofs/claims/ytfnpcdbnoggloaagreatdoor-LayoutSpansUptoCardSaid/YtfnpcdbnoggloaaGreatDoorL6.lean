/- A program logic of my own over the model, and contracts of this program's functions by it: part 6. No conditions of its own: each theorem states its own. -/
import Derived.Test.YtfnpcdbnoggloaaGreatDoorL5
set_option linter.unnecessarySimpa false
set_option linter.unusedSimpArgs false
set_option linter.unusedVariables false
set_option maxRecDepth 100000
set_option maxHeartbeats 16000000
namespace Go.Tame.V
open Go Go.Proofs
variable {W0:World}
def lnN (x:LnV):D:=lnD x.id x.time x.zone x.fl x.leads .nils
def rowsP (ls:List LnV) (i:Nat):List D:=ls.mapIdx fun k x=>if k<i then encLnV x else lnN x
theorem rowsP_len (ls:List LnV) (i:Nat):(rowsP ls i).length=ls.length:=by simp [rowsP]
theorem rowsP_0 (ls:List LnV):rowsP ls 0=ls.map lnN:=by
 apply List.ext_getElem? ; intro j; simp [rowsP,List.getElem?_mapIdx]
theorem rowsP_all (ls:List LnV):rowsP ls ls.length=ls.map encLnV:=by
 apply List.ext_getElem? ; intro j
 simp only [rowsP,List.getElem?_mapIdx,List.getElem?_map]
 cases h:ls[j]? with
 | none=>rfl
 | some x=>have:=(List.getElem?_eq_some_iff.1 h).1; simp [this]
theorem rowsP_at {ls:List LnV} {i:Nat} (h:i<ls.length):(rowsP ls i)[i]? = some (lnN ls[i]):=by
 simp [rowsP,List.getElem?_mapIdx,h]
theorem rowsP_set {ls:List LnV} {i:Nat} (h:i<ls.length):(rowsP ls i).set i (encLnV ls[i])=rowsP ls (i+1):=by
 apply List.ext_getElem? ; intro j
 rw [List.getElem?_set];simp only [rowsP,List.getElem?_mapIdx,List.length_mapIdx]
 by_cases hij:i=j
 ·subst hij; simp [h]
 rw [if_neg hij]
 cases hx:ls[j]? with
 | none=>rfl
 | some x =>
  show some (if j<i then _ else _)=some (if j<i+1 then _ else _)
  have:(j<i)=(j<i+1):=by simp; omega
  simp only [this]
def szsL (ls:List LnV):List Int:=ls.map fun x=>lnSz x.id [0]
theorem szsL_next {ls:List LnV} {i:Nat} (h:i<ls.length):szsL (ls.take (i+1))=szsL (ls.take i)++[lnSz ls[i].id [0]]:=by
 rw [szsL,List.take_succ_eq_append_getElem h,List.map_append]; rfl
theorem H110 (ls:List LnV) (hl:ls.length≤19) (hlen:∀ x∈ls,x.lens=[0]) (N:Int) (hN:dirBl (szsL ls)=N) (hN0:0≤N) (hN1:N<1000000) (hid:∀ x∈ls,x.id.length<1000000∧0≤drSz (x.id.length:Nat) 0∧drSz (x.id.length:Nat) 0≤254) (fa:Option Addr) (fm fc:Nat) (la:Option Addr) (lm lc:Nat) (cv:Nat→Nat→Int) (hcmp:∀ i j (hij:i<j) (hj:j<ls.length),DFun Tryz.prog W0 177 (encLnV ls[j]::encLnV (ls[i]'(by omega))::[.elm 1 [.elm 5 [hD false (.slice fa fm fc) 10 1 2] 0 0] 0 0]) (Iv (cv j i))∧0≤cv j i) (bh:Nat):DCall Tryz.prog W0 110 [.box 4110 bh 0,Iv 1] (look [(4110,.box bh [.bool false,.raw (.slice fa fm fc),Iv 0,Iv 0,Iv 0]),(4111,.row (.slice fa fm fc) [fldD [0] 0 (.slice la lm lc) 0 0] 5 249),(4112,.row (.slice la lm lc) (ls.map lnN) 12 234)]) fun d H'=>d=.tup [Iv (3+N),Iv 0]:=by
 refine DCall.intro ti_ok Tryz.func110 rfl (by decide +kernel) Tryz.ntmps110 rfl fun Γ=>?_
 apply Sr;(conv=>whnf);intro b2;(conv=>whnf)
 have h169:DFun Tryz.prog W0 169 [.sl .none 3 [encPE ⟨[0],0,1⟩]] (Iv 10):=H169 [⟨[0],0,1⟩] (by simp) (by simp)
 have h171:DFun Tryz.prog W0 171 [Iv 10] (Iv 1):=H171 10 (by decide) (by decide)
 have h1710:DFun Tryz.prog W0 171 [Iv 0] (Iv 0):=H171 0 (by decide) (by decide)
 have h175:DFun Tryz.prog W0 175 [.sl .none 1 [.sl .none 3 []]] (.sl .none 1 (intsD [0])):=H175n
 apply Sq
 refine Tri.bitsG ti_ok mixed (α:=Unit) (fun _ f=>[(1,Iv 1),(2,.box 2 b2 0),(5,Iv 0),(23,bif f 0 then .box 4110 bh 0 else .any),(24,bif f 1 then .box 4110 bh 0 else .any),(25,bif f 2 then .sl .none 3 [encPE ⟨[0],0,1⟩] else .any),(26,bif f 3 then Iv 10 else .any),(27,bif f 4 then .box 4110 bh 0 else .any),(28,bif f 5 then .box 4110 bh 2 else .any)])
  (fun _ f=>look [(2,.box b2 [.box 4110 bh 0]),(4110,.box bh (bif f 6 then [.bool false,.raw (.slice fa fm fc),Iv 10,Iv 0,Iv 0] else [.bool false,.raw (.slice fa fm fc),Iv 0,Iv 0,Iv 0])),(4111,.row (.slice fa fm fc) [fldD [0] 0 (.slice la lm lc) 0 0] 5 249),(4112,.row (.slice la lm lc) (ls.map lnN) 12 234)]) (by decide +kernel) () ?_ ?_ ?_ ?_
 ·exact ⟨.refl _,.refl _,.refl _,.any _,.any _,.any _,.any _,.any _,.any _,trivial⟩
 ·exact SubHF.of (hs:=[(2,.box b2 [.box 4110 bh 0]),(4110,.box bh [.bool false,.raw (.slice fa fm fc),Iv 0,Iv 0,Iv 0]),(4111,.row (.slice fa fm fc) [fldD [0] 0 (.slice la lm lc) 0 0] 5 249),(4112,.row (.slice la lm lc) (ls.map lnN) 12 234)]) ⟨rfl,Y⟩
 ·(conv=>whnf);refine ⟨fun _ f hI=>?_,?_⟩
  ·obtain ⟨f,rfl⟩:= hI.o f 6 0;apply Ti;apply Rl;(conv=>whnf);exact Ex ()
  refine ⟨fun _ f hI=>?_,?_⟩
  ·obtain ⟨f,rfl⟩:= hI.o f 6 1;apply Ti;apply Rl;(conv=>whnf);exact Ex ()
  refine ⟨fun _ f hI=>?_,?_⟩
  ·obtain ⟨f,rfl⟩:= hI.o f 6 2;apply Tk;refine XOp.callSame rfl [.box 4110 bh 0] [(4110,4110),(4111,4111)] (hs:=[(4110,.box bh [.bool false,.raw (.slice fa fm fc),Iv 0,Iv 0,Iv 0]),(4111,.row (.slice fa fm fc) [fldD [0] 0 (.slice la lm lc) 0 0] 5 249)]) (by exact ⟨rfl,Y⟩) (H170 false (.slice fa fm fc) la lm lc 0 0 0 0 0 bh (by decide) (by decide)) rfl Z (.refl _) ?_;(conv=>whnf);exact Ex ()
  refine ⟨fun _ f hI=>?_,?_⟩
  ·obtain ⟨f,rfl⟩:= hI.o f 6 3;apply Ti;(conv=>whnf);refine ⟨[.sl .none 3 [encPE ⟨[0],0,1⟩]],_,fun _=>h169,Z,?_⟩;(conv=>whnf);exact Ex ()
  refine Qo ?_;refine Qo ?_;refine ⟨fun _ f hI=>?_,?_⟩
  ·(conv=>whnf);apply Ti;apply Rl;(conv=>whnf);exact Ex () (SubHF.of (hs:=[(2,.box b2 [.box 4110 bh 0]),(4110,.box bh [.bool false,.raw (.slice fa fm fc),Iv 10,Iv 0,Iv 0]),(4111,.row (.slice fa fm fc) [fldD [0] 0 (.slice la lm lc) 0 0] 5 249),(4112,.row (.slice la lm lc) (ls.map lnN) 12 234)]) (by exact ⟨rfl,Y⟩))
  exact trivial
 intro _ f hfl;obtain ⟨f,rfl⟩:=onAll f 7 (by exact hfl);clear hfl;(conv=>whnf);refine Tri.forgetG [(1,Iv 1),(2,.box 2 b2 0)] (look [(2,.box b2 [.box 4110 bh 0]),(4110,.box bh [.bool false,.raw (.slice fa fm fc),Iv 10,Iv 0,Iv 0]),(4111,.row (.slice fa fm fc) [fldD [0] 0 (.slice la lm lc) 0 0] 5 249),(4112,.row (.slice la lm lc) (ls.map lnN) 12 234)]) (.same (by exact Z) (SubHF.of (hs:=[(2,.box b2 [.box 4110 bh 0]),(4110,.box bh [.bool false,.raw (.slice fa fm fc),Iv 10,Iv 0,Iv 0]),(4111,.row (.slice fa fm fc) [fldD [0] 0 (.slice la lm lc) 0 0] 5 249),(4112,.row (.slice la lm lc) (ls.map lnN) 12 234)]) (by exact ⟨rfl,Y⟩))) ?_;apply Sr;apply Rl;apply Rl;apply Sq
 refine Tri.bitsG ti_ok mixed (α:=Unit) (fun _ f=>[(1,Iv 1),(2,.box 2 b2 0),(33,bif f 0 then .box 4110 bh 0 else .any),(34,bif f 1 then Iv 1 else .any),(35,bif f 2 then .box 4110 bh 0 else .any),(36,bif f 3 then .box 4110 bh 0 else .any),(37,bif f 4 then .box 4110 bh 2 else .any),(38,bif f 5 then Iv 10 else .any),(39,bif f 6 then Iv 1 else .any),(40,bif f 7 then Iv 2 else .any),(41,bif f 8 then .box 4110 bh 0 else .any),(42,bif f 9 then .box 4110 bh 4 else .any)])
  (fun _ f=>look [(2,.box b2 [.box 4110 bh 0]),(4110,.box bh (bif f 10 then [.bool false,.raw (.slice fa fm fc),Iv 10,Iv 1,Iv 2] else [.bool false,.raw (.slice fa fm fc),Iv 10,Iv 1,Iv 0])),(4111,.row (.slice fa fm fc) [fldD [0] 0 (.slice la lm lc) 0 0] 5 249),(4112,.row (.slice la lm lc) (ls.map lnN) 12 234)]) (by decide +kernel) () ?_ ?_ ?_ ?_
 ·exact ⟨.refl _,.refl _,.any _,.any _,.any _,.any _,.any _,.any _,.any _,.any _,.any _,.any _,trivial⟩
 ·exact SubHF.of (hs:=[(2,.box b2 [.box 4110 bh 0]),(4110,.box bh [.bool false,.raw (.slice fa fm fc),Iv 10,Iv 1,Iv 0]),(4111,.row (.slice fa fm fc) [fldD [0] 0 (.slice la lm lc) 0 0] 5 249),(4112,.row (.slice la lm lc) (ls.map lnN) 12 234)]) ⟨rfl,Y⟩
 ·(conv=>whnf);refine ⟨fun _ f hI=>?_,?_⟩
  ·obtain ⟨f,rfl⟩:= hI.o f 10 0;apply Ti;apply Rl;(conv=>whnf);exact Ex ()
  refine Qo ?_;refine ⟨fun _ f hI=>?_,?_⟩
  ·obtain ⟨f,rfl⟩:= hI.o f 10 2;apply Ti;apply Rl;(conv=>whnf);exact Ex ()
  refine Qo ?_;refine Qo ?_;refine ⟨fun _ f hI=>?_,?_⟩
  ·obtain ⟨f,rfl⟩:= hI.o f 10 5;apply Ti;apply Rl;(conv=>whnf);exact Ex ()
  refine ⟨fun _ f hI=>?_,?_⟩
  ·obtain ⟨f,rfl⟩:= hI.o f 10 6;apply Ti;(conv=>whnf);refine ⟨[Iv 10],_,fun _=>h171,Z,?_⟩;(conv=>whnf);exact Ex ()
  refine ⟨fun _ f hI=>?_,?_⟩
  ·obtain ⟨f,rfl⟩:= hI.o f 10 7;apply Ti;refine Ir ?_;(conv=>whnf);exact Ex ()
  refine Qo ?_;refine Qo ?_;refine ⟨fun _ f hI=>?_,?_⟩
  ·(conv=>whnf);apply Ti;apply Rl;(conv=>whnf);exact Ex () (SubHF.of (hs:=[(2,.box b2 [.box 4110 bh 0]),(4110,.box bh [.bool false,.raw (.slice fa fm fc),Iv 10,Iv 1,Iv 2]),(4111,.row (.slice fa fm fc) [fldD [0] 0 (.slice la lm lc) 0 0] 5 249),(4112,.row (.slice la lm lc) (ls.map lnN) 12 234)]) (by exact ⟨rfl,Y⟩))
  exact trivial
 intro _ f hfl;obtain ⟨f,rfl⟩:=onAll f 11 (by exact hfl);clear hfl;(conv=>whnf);refine Tri.forgetG [(1,Iv 1),(2,.box 2 b2 0)] (look [(2,.box b2 [.box 4110 bh 0]),(4110,.box bh [.bool false,.raw (.slice fa fm fc),Iv 10,Iv 1,Iv 2]),(4111,.row (.slice fa fm fc) [fldD [0] 0 (.slice la lm lc) 0 0] 5 249),(4112,.row (.slice la lm lc) (ls.map lnN) 12 234)]) (.same (by exact Z) (SubHF.of (hs:=[(2,.box b2 [.box 4110 bh 0]),(4110,.box bh [.bool false,.raw (.slice fa fm fc),Iv 10,Iv 1,Iv 2]),(4111,.row (.slice fa fm fc) [fldD [0] 0 (.slice la lm lc) 0 0] 5 249),(4112,.row (.slice la lm lc) (ls.map lnN) 12 234)]) (by exact ⟨rfl,Y⟩))) ?_;apply Sq
 refine Tri.bitsG ti_ok mixed (α:=Unit) (fun _ f=>[(2,.box 2 b2 0),(43,bif f 0 then .box 4110 bh 0 else .any),(44,bif f 1 then .box 4110 bh 0 else .any),(45,bif f 2 then .box 4110 bh 4 else .any),(46,bif f 3 then Iv 2 else .any),(47,bif f 4 then .box 4110 bh 0 else .any),(48,bif f 5 then .box 4110 bh 0 else .any),(49,bif f 6 then .box 4110 bh 2 else .any),(50,bif f 7 then Iv 10 else .any),(51,bif f 8 then Iv 1 else .any),(52,bif f 9 then Iv 3 else .any),(1,bif f 10 then Iv 3 else Iv 1)])
  (fun _ f=>look [(2,.box b2 [.box 4110 bh 0]),(4110,.box bh [.bool false,.raw (.slice fa fm fc),Iv 10,Iv 1,Iv 2]),(4111,.row (.slice fa fm fc) [fldD [0] 0 (.slice la lm lc) 0 0] 5 249),(4112,.row (.slice la lm lc) (ls.map lnN) 12 234)]) (by decide +kernel) () ?_ ?_ ?_ ?_
 ·exact ⟨.refl _,.any _,.any _,.any _,.any _,.any _,.any _,.any _,.any _,.any _,.any _,.refl _,trivial⟩
 ·exact SubHF.of (hs:=[(2,.box b2 [.box 4110 bh 0]),(4110,.box bh [.bool false,.raw (.slice fa fm fc),Iv 10,Iv 1,Iv 2]),(4111,.row (.slice fa fm fc) [fldD [0] 0 (.slice la lm lc) 0 0] 5 249),(4112,.row (.slice la lm lc) (ls.map lnN) 12 234)]) ⟨rfl,Y⟩
 ·(conv=>whnf);refine ⟨fun _ f hI=>?_,?_⟩
  ·(conv=>whnf);apply Ti;apply Rl;(conv=>whnf);exact Ex ()
  refine Qo ?_;refine Qo ?_;refine ⟨fun _ f hI=>?_,?_⟩
  ·(conv=>whnf);apply Ti;apply Rl;(conv=>whnf);exact Ex ()
  refine ⟨fun _ f hI=>?_,?_⟩
  ·(conv=>whnf);apply Ti;apply Rl;(conv=>whnf);exact Ex ()
  refine Qo ?_;refine Qo ?_;refine ⟨fun _ f hI=>?_,?_⟩
  ·(conv=>whnf);apply Ti;apply Rl;(conv=>whnf);exact Ex ()
  refine ⟨fun _ f hI=>?_,?_⟩
  ·(conv=>whnf);apply Ti;(conv=>whnf);refine ⟨[Iv 10],_,fun _=>h171,Z,?_⟩;(conv=>whnf);exact Ex ()
  refine ⟨fun _ f hI=>?_,?_⟩
  ·(conv=>whnf);apply Ti;refine Ir ?_;(conv=>whnf);exact Ex ()
  refine Qo ?_;exact trivial
 intro _ f hfl;obtain ⟨f,rfl⟩:=onAll f 11 (by exact hfl);clear hfl;(conv=>whnf);refine Tri.forgetG [(1,Iv 3),(2,.box 2 b2 0)] (look [(2,.box b2 [.box 4110 bh 0]),(4110,.box bh [.bool false,.raw (.slice fa fm fc),Iv 10,Iv 1,Iv 2]),(4111,.row (.slice fa fm fc) [fldD [0] 0 (.slice la lm lc) 0 0] 5 249),(4112,.row (.slice la lm lc) (ls.map lnN) 12 234)]) (.same (by exact Z) (SubHF.of (hs:=[(2,.box b2 [.box 4110 bh 0]),(4110,.box bh [.bool false,.raw (.slice fa fm fc),Iv 10,Iv 1,Iv 2]),(4111,.row (.slice fa fm fc) [fldD [0] 0 (.slice la lm lc) 0 0] 5 249),(4112,.row (.slice la lm lc) (ls.map lnN) 12 234)]) (by exact ⟨rfl,Y⟩))) ?_;(conv=>whnf);refine Tri.boxElmQ 4110 2 (hD false (.slice fa fm fc) 10 1 2) rfl rfl (by decide) rfl rfl ?_;refine Tri.boxElm 2 2 (.elm 5 [hD false (.slice fa fm fc) 10 1 2] 0 0) rfl rfl rfl rfl ?_;refine Tri.forgetK [(1,Iv 3),(2,.elm 1 [.elm 5 [hD false (.slice fa fm fc) 10 1 2] 0 0] 0 0)] [(4111,.row (.slice fa fm fc) [fldD [0] 0 (.slice la lm lc) 0 0] 5 249),(4112,.row (.slice la lm lc) (ls.map lnN) 12 234)] [(4111,4111),(4112,4112)] (by exact ⟨Z,rfl,Y⟩) ?_;apply S2;refine Tri.regionG ti_ok ?_;apply Tj;refine Lo (.elm 5 [hD false (.slice fa fm fc) 10 1 2] 0 0) ?_;apply Tj;apply Tj;apply Tj;refine Lo (hD false (.slice fa fm fc) 10 1 2) ?_;apply Tl;refine XOp.rowLen ti_ok 4111 rfl rfl rfl rfl ?_;apply Tj;(conv=>whnf);refine Tri.forgetK [(1,Iv 3),(2,.elm 1 [.elm 5 [hD false (.slice fa fm fc) 10 1 2] 0 0] 0 0),(57,Iv 1),(58,Iv 0)] [(4111,.row (.slice fa fm fc) [fldD [0] 0 (.slice la lm lc) 0 0] 5 249),(4112,.row (.slice la lm lc) (ls.map lnN) 12 234)] [(4111,4111),(4112,4112)] (by exact ⟨Z,rfl,Y⟩) ?_
 apply Bk
 refine Tri.loopK (α:=Bool) (fun x=>[(1,Iv (bif x then 3+N else 3)),(2,.elm 1 [.elm 5 [hD false (.slice fa fm fc) 10 1 2] 0 0] 0 0),(57,Iv 1),(58,Iv (bif x then 1 else 0))])
   (fun x=>[(4111,.row (.slice fa fm fc) [fldD [0] 0 (.slice la lm lc) (bif x then 3 else 0) (bif x then N*2048 else 0)] 5 249),(4112,.row (.slice la lm lc) (bif x then ls.map encLnV else ls.map lnN) 12 234)]) (fun x=>bif x then 0 else 1) false [(4111,4111),(4112,4112)]
   ⟨Z,rfl,Y⟩ ?_
 rintro q
 try dsimp only
 apply Sr;apply Sq;refine Cd (decide ((bif q then (1:Int) else 0)<1)) rfl (fun hc=>?_) (fun hc=>?_)
 ·apply Sk
  have hq:q=false:=by cases q<;>simp at hc ⊢
  subst hq;apply Sq;apply Bk;apply Sr;apply Sq;refine Tri.regionG ti_ok ?_;apply Tj;refine Lo (.elm 5 [hD false (.slice fa fm fc) 10 1 2] 0 0) ?_;apply Tj;apply Tj;apply Tj;refine Lo (hD false (.slice fa fm fc) 10 1 2) ?_;apply Tj;apply Tl;refine XOp.rowIndex ti_ok 4111 rfl rfl rfl rfl rfl rfl rfl (by simp) (by simp) ?_;apply Tj;(conv=>whnf);refine Tri.forgetK [(1,Iv 3),(2,.elm 1 [.elm 5 [hD false (.slice fa fm fc) 10 1 2] 0 0] 0 0),(57,Iv 1),(58,Iv 0),(6,Iv 0),(7,.raw (rowPtr (.slice fa fm fc) 0))] [(4111,.row (.slice fa fm fc) [fldD [0] 0 (.slice la lm lc) 0 0] 5 249),(4112,.row (.slice la lm lc) (ls.map lnN) 12 234)] [(4111,4111),(4112,4112)] (by exact ⟨Z,rfl,Y⟩) ?_;apply Sr;apply S2;refine Tri.regionG ti_ok ?_;apply Tj;apply Tl;refine XOp.rowCheck 4111 (i:=0) rfl rfl (by simp) ?_;apply Tl;refine XOp.rowField ti_ok 4111 (i:=0) rfl rfl (by simp) rfl rfl rfl (by decide) ?_;apply Tl;refine XOp.rowLoadF ti_ok 4111 (i:=0) (j:=2) rfl rfl rfl rfl ?_;apply Tl;refine XOp.rowLen ti_ok 4112 rfl rfl rfl rfl ?_;apply Tj;(conv=>whnf);refine Tri.forgetK [(1,Iv 3),(2,.elm 1 [.elm 5 [hD false (.slice fa fm fc) 10 1 2] 0 0] 0 0),(57,Iv 1),(58,Iv 0),(7,.raw (rowPtr (.slice fa fm fc) 0)),(8,.nils),(71,Iv ((ls.map lnN).length:Nat)),(72,Iv 0)] [(4111,.row (.slice fa fm fc) [fldD [0] 0 (.slice la lm lc) 0 0] 5 249),(4112,.row (.slice la lm lc) (ls.map lnN) 12 234)] [(4111,4111),(4112,4112)] (by exact ⟨Z,rfl,Y⟩) ?_;apply Bk
  refine Tri.loopK (α:={ i:Nat // i≤ls.length }) (fun x=>[(1,Iv 3),(2,.elm 1 [.elm 5 [hD false (.slice fa fm fc) 10 1 2] 0 0] 0 0),(57,Iv 1),(58,Iv 0),(7,.raw (rowPtr (.slice fa fm fc) 0)),(8,.nils),(71,Iv ((ls.map lnN).length:Nat)),(72,Iv ((x.1:Nat):Int))])
    (fun x=>[(4111,.row (.slice fa fm fc) [fldD [0] 0 (.slice la lm lc) 0 0] 5 249),(4112,.row (.slice la lm lc) (rowsP ls x.1) 12 234)]) (fun x=>ls.length-x.1) ⟨0,by omega⟩ [(4111,4111),(4112,4112)]
    ⟨Z,rfl,rfl,rfl,rfl,congrArg (fun z=>some (HObj.row (.slice la lm lc) z 12 234)) (rowsP_0 ls).symm,trivial⟩ ?_
  rintro ⟨i,hi⟩
  try dsimp only at hi
  try dsimp only
  apply Sr;apply Sq;refine Cd (decide ((i:Int)<((ls.map lnN).length:Nat))) rfl (fun hc=>?_) (fun hc=>?_)
  ·apply Sk
   have hia:i<ls.length:=by simpa using hc
   have hrl:i<(rowsP ls i).length:=by rw [rowsP_len]; exact hia
   have hge:=rowsP_at hia
   have hst:=rowsP_set hia
   have hxl:=hlen _ (List.getElem_mem hia)
   obtain ⟨hx1,hx2,hx3⟩:=hid _ (List.getElem_mem hia);generalize ls[i]=xx at *;obtain ⟨id,time,zone,fl,leads,lens⟩:=xx
   replace hxl:lens=[0]:=hxl
   replace hx1:id.length<1000000:=hx1
   replace hx2:0≤drSz (id.length:Nat) 0:=hx2
   replace hx3:drSz (id.length:Nat) 0≤254:=hx3
   subst hxl
   have h172:DFun Tryz.prog W0 172 [.sl .none 3 [],Iv (254-drSz (id.length:Nat) 0)] (.tup [.sl .none 1 [.sl .none 3 []],Iv 0]):=H172n _ (by omega) (by omega)
   apply Sq;apply Bk;apply Sr;apply Sq;refine Tri.regionG ti_ok ?_;apply Tj;apply Tl;refine XOp.rowCheck 4111 (i:=0) rfl rfl (by simp) ?_;apply Tl;refine XOp.rowField ti_ok 4111 (i:=0) rfl rfl (by simp) rfl rfl rfl (by decide) ?_;apply Tl;refine XOp.rowLoadF ti_ok 4111 (i:=0) (j:=2) rfl rfl rfl rfl ?_;apply Tj;apply Tl;refine XOp.rowIndex ti_ok 4112 rfl rfl rfl rfl rfl rfl rfl (by omega) (Int.ofNat_lt.2 hrl) ?_;apply Tj;(conv=>whnf);refine Tri.forgetK [(1,Iv 3),(2,.elm 1 [.elm 5 [hD false (.slice fa fm fc) 10 1 2] 0 0] 0 0),(57,Iv 1),(58,Iv 0),(7,.raw (rowPtr (.slice fa fm fc) 0)),(8,.nils),(71,Iv ((ls.map lnN).length:Nat)),(72,Iv ((i:Nat):Int)),(10,.raw (rowPtr (.slice la lm lc) (((i:Nat):Int).toNat*12)))] [(4111,.row (.slice fa fm fc) [fldD [0] 0 (.slice la lm lc) 0 0] 5 249),(4112,.row (.slice la lm lc) (rowsP ls i) 12 234)] [(4111,4111),(4112,4112)] (by exact ⟨Z,rfl,Y⟩) ?_;apply Sq
   refine Tri.bitsG ti_ok mixed (α:=Unit) (fun _ f=>[(1,Iv 3),(2,.elm 1 [.elm 5 [hD false (.slice fa fm fc) 10 1 2] 0 0] 0 0),(57,Iv 1),(58,Iv 0),(7,.raw (rowPtr (.slice fa fm fc) 0)),(8,.nils),(71,Iv ((ls.map lnN).length:Nat)),(72,Iv ((i:Nat):Int)),(10,.raw (rowPtr (.slice la lm lc) (((i:Nat):Int).toNat*12))),(82,bif f 0 then .raw (rowPtr (.slice la lm lc) (((i:Nat):Int).toNat*12)) else .any),(83,bif f 1 then .raw (rowPtr (.slice la lm lc) (((i:Nat):Int).toNat*12)) else .any),(84,bif f 2 then .raw (rowPtr (.slice la lm lc) (((i:Nat):Int).toNat*12+9)) else .any),(85,bif f 3 then .fn (.func 229) [] [] else .any),(86,bif f 4 then .sl .none 3 [] else .any),(87,bif f 5 then .raw (rowPtr (.slice la lm lc) (((i:Nat):Int).toNat*12)) else .any),(88,bif f 6 then .raw (rowPtr (.slice la lm lc) (((i:Nat):Int).toNat*12)) else .any),(89,bif f 7 then .raw (rowPtr (.slice la lm lc) (((i:Nat):Int).toNat*12+0)) else .any),(90,bif f 8 then .raw (rowPtr (.slice la lm lc) (((i:Nat):Int).toNat*12+0+0)) else .any),(91,bif f 9 then .str id else .any),(92,bif f 10 then Iv ((id.length:Nat):Int) else .any),(93,bif f 11 then Iv (drSz (id.length:Nat) 0) else .any),(94,bif f 12 then Iv (254-(drSz (id.length:Nat) 0)) else .any),(95,bif f 13 then .tup [.sl .none 1 [.sl .none 3 []],Iv 0] else .any),(81,bif f 14 then .tup [.sl .none 1 [.sl .none 3 []],Iv 0] else .any),(96,bif f 15 then .sl .none 1 [.sl .none 3 []] else .any),(97,bif f 16 then Iv 0 else .any),(11,bif f 17 then .sl .none 1 [.sl .none 3 []] else .any),(12,bif f 18 then Iv 0 else .any)])
    (fun _ f=>look [(4111,.row (.slice fa fm fc) [fldD [0] 0 (.slice la lm lc) 0 0] 5 249),(4112,.row (.slice la lm lc) (rowsP ls i) 12 234)]) (by decide +kernel) () ?_ ?_ ?_ ?_
   ·exact ⟨.refl _,.refl _,.refl _,.refl _,.refl _,.refl _,.refl _,.refl _,.refl _,.any _,.any _,.any _,.any _,.any _,.any _,.any _,.any _,.any _,.any _,.any _,.any _,.any _,.any _,.any _,.any _,.any _,.any _,.any _,trivial⟩
   ·exact SubHF.of (hs:=[(4111,.row (.slice fa fm fc) [fldD [0] 0 (.slice la lm lc) 0 0] 5 249),(4112,.row (.slice la lm lc) (rowsP ls i) 12 234)]) ⟨rfl,Y⟩
   ·(conv=>whnf);refine Qo ?_;refine ⟨fun _ f hI=>?_,?_⟩
    ·(conv=>whnf);apply Tk;refine XOp.rowCheck 4112 (i:=i) rfl rfl hrl ?_;(conv=>whnf);exact Ex ()
    refine ⟨fun _ f hI=>?_,?_⟩
    ·(conv=>whnf);apply Tk;refine XOp.rowField ti_ok 4112 (i:=i) rfl rfl hrl rfl rfl rfl (by decide) ?_;(conv=>whnf);exact Ex ()
    refine ⟨fun _ f hI=>?_,?_⟩
    ·(conv=>whnf);apply Tk
     refine XOp.rowLoadF ti_ok 4112 (i:=i) (j:=9) (by rw [Int.toNat_natCast]; rfl) rfl rfl hge ?_
     (conv=>whnf);exact Ex ()
    refine ⟨fun _ f hI=>?_,?_⟩
    ·(conv=>whnf);apply Ti;(conv=>whnf);refine ⟨[.fn (.func 173) [] []],_,fun _=>H229 173,Z,?_⟩;(conv=>whnf);exact Ex ()
    refine Qo ?_;refine ⟨fun _ f hI=>?_,?_⟩
    ·(conv=>whnf);apply Tk;refine XOp.rowCheck 4112 (i:=i) rfl rfl hrl ?_;(conv=>whnf);exact Ex ()
    refine ⟨fun _ f hI=>?_,?_⟩
    ·(conv=>whnf);apply Tk;refine XOp.rowField ti_ok 4112 (i:=i) rfl rfl hrl rfl rfl rfl (by decide) ?_;(conv=>whnf);exact Ex ()
    refine ⟨fun _ f hI=>?_,?_⟩
    ·(conv=>whnf);apply Tk;refine XOp.rowField ti_ok 4112 (i:=i) rfl rfl hrl rfl rfl rfl (by decide) ?_;(conv=>whnf);exact Ex ()
    refine ⟨fun _ f hI=>?_,?_⟩
    ·(conv=>whnf);apply Tk
     refine XOp.rowLoadF ti_ok 4112 (i:=i) (j:=0) (by rw [Int.toNat_natCast]; rfl) rfl rfl hge ?_
     (conv=>whnf);exact Ex ()
    refine Qo ?_;refine ⟨fun _ f hI=>?_,?_⟩
    ·(conv=>whnf);apply Ti;(conv=>whnf);refine ⟨[Iv ((id.length:Nat):Int),Iv 0],_,fun _=>H174 _ 0,Z,?_⟩;(conv=>whnf);exact Ex ()
    refine ⟨fun _ f hI=>?_,?_⟩
    ·(conv=>whnf);apply Ti;refine Ir ?_;(conv=>whnf);exact Ex ()
    refine ⟨fun _ f hI=>?_,?_⟩
    ·(conv=>whnf);apply Ti;(conv=>whnf);refine ⟨[.sl .none 3 [],Iv (254-(drSz (id.length:Nat) 0))],_,fun _=>h172,Z,?_⟩;(conv=>whnf);exact Ex ()
    refine Qo ?_;refine Qo ?_;refine Qo ?_;refine Qo ?_;refine Qo ?_;exact trivial
   intro _ f hfl;obtain ⟨f,rfl⟩:=onAll f 19 (by exact hfl);clear hfl;(conv=>whnf);refine Tri.forgetG [(1,Iv 3),(2,.elm 1 [.elm 5 [hD false (.slice fa fm fc) 10 1 2] 0 0] 0 0),(57,Iv 1),(58,Iv 0),(7,.raw (rowPtr (.slice fa fm fc) 0)),(8,.nils),(71,Iv ((ls.map lnN).length:Nat)),(72,Iv ((i:Nat):Int)),(10,.raw (rowPtr (.slice la lm lc) (((i:Nat):Int).toNat*12))),(11,.sl .none 1 [.sl .none 3 []]),(12,Iv 0)] (look [(4111,.row (.slice fa fm fc) [fldD [0] 0 (.slice la lm lc) 0 0] 5 249),(4112,.row (.slice la lm lc) (rowsP ls i) 12 234)]) (.same (by exact Z) (SubHF.of (hs:=[(4111,.row (.slice fa fm fc) [fldD [0] 0 (.slice la lm lc) 0 0] 5 249),(4112,.row (.slice la lm lc) (rowsP ls i) 12 234)]) (by exact ⟨rfl,Y⟩))) ?_;apply Sq;apply Sr;refine Cd false rfl (fun hc=>?_) (fun hc=>?_)
   ·cases hc
   apply Sk;(conv=>whnf);refine Tri.regionG ti_ok ?_;apply Tj;apply Tj;apply Tj;(conv=>whnf);refine ⟨[.sl .none 1 [.sl .none 3 []]],_,fun _=>h175,Z,?_⟩;apply Tl;refine XOp.rowCheck 4112 (i:=i) rfl rfl hrl ?_;apply Tl;refine XOp.rowField ti_ok 4112 (i:=i) rfl rfl hrl rfl rfl rfl (by decide) ?_;apply Tl
   refine XOp.rowStoreF ti_ok 4112 (i:=i) (j:=10) (by rw [Int.toNat_natCast]; rfl) rfl rfl rfl hge (by decide) rfl ?_
   (conv=>whnf);refine Tri.forgetK [(1,Iv 3),(2,.elm 1 [.elm 5 [hD false (.slice fa fm fc) 10 1 2] 0 0] 0 0),(57,Iv 1),(58,Iv 0),(7,.raw (rowPtr (.slice fa fm fc) 0)),(8,.nils),(71,Iv ((ls.map lnN).length:Nat)),(72,Iv ((i:Nat):Int))] [(4111,.row (.slice fa fm fc) [fldD [0] 0 (.slice la lm lc) 0 0] 5 249),(4112,.row (.slice la lm lc) ((rowsP ls i).set i (lnD id time zone fl leads (.sl .none 1 (intsD [0])))) 12 234)] [(4111,4111),(4112,4112)] (by exact ⟨Z,rfl,Y⟩) ?_;apply Rg;refine Ir ?_;(conv=>whnf)
   exact ⟨⟨i+1,hia⟩,[(4111,4111),(4112,4112)],by show ls.length-(i+1)<ls.length-i; omega,Z,rfl,rfl,rfl,rfl,congrArg (fun z=>some (HObj.row (.slice la lm lc) z 12 234)) hst,trivial⟩
  have hin:i=ls.length:=by simp at hc; omega
  subst hin;rw [rowsP_all];refine Tri.exit ?_;apply Sq;refine Tri.regionG ti_ok ?_;apply Tj;apply Tl;refine XOp.rowCheck 4111 (i:=0) rfl rfl (by simp) ?_;apply Tl;refine XOp.rowField ti_ok 4111 (i:=0) rfl rfl (by simp) rfl rfl rfl (by decide) ?_;apply Tl;refine XOp.rowLoadF ti_ok 4111 (i:=0) (j:=2) rfl rfl rfl rfl ?_;apply Tj;apply Tl;refine XOp.callSame rfl [.raw (.slice la lm lc),.fn (.func 177) [] [.elm 1 [.elm 5 [hD false (.slice fa fm fc) 10 1 2] 0 0] 0 0]] [(4112,4112)] (hs:=[(4112,.row (.slice la lm lc) (ls.map encLnV) 12 234)]) (by exact ⟨rfl,Y⟩) (DCall.borrow (fun w w' C C' u h=>h.moveT (fun d hd=>by cases hd)) (H176 ls 177 [.elm 1 [.elm 5 [hD false (.slice fa fm fc) 10 1 2] 0 0] 0 0] cv hcmp hl)) rfl Z (.refl _) ?_;(conv=>whnf);refine Tri.forgetK [(1,Iv 3),(2,.elm 1 [.elm 5 [hD false (.slice fa fm fc) 10 1 2] 0 0] 0 0),(57,Iv 1),(58,Iv 0),(7,.raw (rowPtr (.slice fa fm fc) 0)),(8,.nils)] [(4111,.row (.slice fa fm fc) [fldD [0] 0 (.slice la lm lc) 0 0] 5 249),(4112,.row (.slice la lm lc) (ls.map encLnV) 12 234)] [(4111,4111),(4112,4112)] (by exact ⟨Z,rfl,Y⟩) ?_;apply S2;refine Tri.regionG ti_ok ?_;apply Tj;apply Tl;refine XOp.rowCheck 4111 (i:=0) rfl rfl (by simp) ?_;apply Tl;refine XOp.rowField ti_ok 4111 (i:=0) rfl rfl (by simp) rfl rfl rfl (by decide) ?_;apply Tl;refine XOp.rowLoadF ti_ok 4111 (i:=0) (j:=2) rfl rfl rfl rfl ?_;apply Tl;refine XOp.rowLen ti_ok 4112 rfl rfl rfl rfl ?_;apply Tj;(conv=>whnf);refine Tri.forgetK [(1,Iv 3),(2,.elm 1 [.elm 5 [hD false (.slice fa fm fc) 10 1 2] 0 0] 0 0),(57,Iv 1),(58,Iv 0),(7,.raw (rowPtr (.slice fa fm fc) 0)),(8,.nils),(116,.raw (.slice la lm lc)),(117,Iv ((ls.map encLnV).length:Nat)),(118,Iv 0)] [(4111,.row (.slice fa fm fc) [fldD [0] 0 (.slice la lm lc) 0 0] 5 249),(4112,.row (.slice la lm lc) (ls.map encLnV) 12 234)] [(4111,4111),(4112,4112)] (by exact ⟨Z,rfl,Y⟩) ?_
  apply Bk;refine Tri.own 8 1000 1 3 rfl (fun w0=>?_)
  refine Tri.loopK (α:={ i:Nat // i≤ls.length }×Value) (fun x=>[(1,Iv 3),(2,.elm 1 [.elm 5 [hD false (.slice fa fm fc) 10 1 2] 0 0] 0 0),(57,Iv 1),(58,Iv 0),(7,.raw (rowPtr (.slice fa fm fc) 0)),(8,.sl (.own 1000 x.2) 1 (intsD (szsL (ls.take x.1.1)))),(116,.raw (.slice la lm lc)),(117,Iv ((ls.map encLnV).length:Nat)),(118,Iv ((x.1.1:Nat):Int))])
    (fun x=>[(4111,.row (.slice fa fm fc) [fldD [0] 0 (.slice la lm lc) 0 0] 5 249),(4112,.row (.slice la lm lc) (ls.map encLnV) 12 234),(1000,.own x.2 (intsD (szsL (ls.take x.1.1))).length 1 3)]) (fun x=>ls.length-x.1.1) (⟨0,by omega⟩,w0) [(4111,4111),(4112,4112),(1000,1000)]
    ⟨Z,rfl,Y⟩ ?_
  rintro ⟨⟨i,hi⟩,w⟩
  try dsimp only at hi
  try dsimp only
  apply Sr;apply Sq;refine Cd (decide ((i:Int)<((ls.map encLnV).length:Nat))) rfl (fun hc=>?_) (fun hc=>?_)
  ·apply Sk
   have hia:i<ls.length:=by simpa using hc
   have hrl:i<(ls.map encLnV).length:=by rw [List.length_map]; exact hia
   have hge:(ls.map encLnV)[i]? = some (encLnV ls[i]):=by simp [hia]
   have hxl:=hlen _ (List.getElem_mem hia)
   have hnx:=szsL_next hia
   have hsl:(szsL (ls.take i)).length≤i:=by simp [szsL]; omega
   generalize szsL (ls.take i)=S at *;generalize ls[i]=xx at *;obtain ⟨id,time,zone,fl,leads,lens⟩:=xx
   replace hxl:lens=[0]:=hxl
   replace hnx:szsL (ls.take (i+1))=S++[lnSz id [0]]:=hnx
   subst hxl;apply Sq;apply Bk;apply Sq;refine Tri.regionX ti_ok ?_;(conv=>whnf);refine .inr (XOp.rowIndex ti_ok 4112 rfl rfl rfl rfl rfl rfl rfl (by omega) (Int.ofNat_lt.2 hrl) ?_);(conv=>whnf)
   refine .inr (XOp.rowLoad ti_ok 4112 (i:=i) (y:=encLnV ⟨id,time,zone,fl,leads,[0]⟩) (by rw [Int.toNat_natCast]; rfl) rfl rfl hge ?_)
   (conv=>whnf);intro b14;apply Il;apply Rl;apply Rg;apply Rl;(conv=>whnf);refine ⟨[lnD id time zone fl leads (.sl .none 1 (intsD [0]))],_,fun _=>H179 id time zone fl leads 0 [] (by decide) (by decide),Z,?_⟩;(conv=>whnf);refine ⟨trivial,?_⟩;(conv=>whnf);refine ⟨rfl,rfl,?_⟩;(conv=>whnf)
   refine ⟨by show (_+1)*8≤_; simp only [intsD,List.length_map]; omega,by show _+1≤_; simp only [intsD,List.length_map]; omega,(fun h=>by cases h),fun w2=>?_⟩
   apply Rg;refine Ir ?_;(conv=>whnf)
   have he:intsD S++[Iv (lnSz id [0])]=intsD (szsL (ls.take (i+1))):=by rw [hnx]; simp [intsD]
   exact ⟨(⟨i+1,hia⟩,w2),[(4111,4111),(4112,4112),(1000,126)],by show ls.length-(i+1)<ls.length-i; omega,⟨.refl _,.refl _,.refl _,.refl _,.refl _,DLe.ownEq he,.refl _,.refl _,.refl _,trivial⟩,rfl,rfl,rfl,rfl,rfl,rfl,ownH (by rw [← he]; simp),trivial⟩
  have hin:i=ls.length:=by simp at hc; omega
  subst hin;rw [List.take_length];refine Tri.exit ?_;apply Sr;(conv=>whnf)
  refine ⟨[.sl .none 1 (intsD (szsL ls))],Iv N,fun _=>hN ▸ H180 (szsL ls) (by simp [szsL]; omega),⟨DLe.unown,trivial⟩,?_⟩
  apply Sq;refine Tri.regionG ti_ok ?_;apply Tj;apply Tj;apply Tj;apply Tj;apply Tj;refine Ir ?_;apply Tl;refine XOp.rowCheck 4111 (i:=0) rfl rfl (by simp) ?_;apply Tl;refine XOp.rowField ti_ok 4111 (i:=0) rfl rfl (by simp) rfl rfl rfl (by decide) ?_;apply Tl;refine XOp.rowStoreF ti_ok 4111 (i:=0) (j:=3) rfl rfl rfl rfl rfl (by decide) rfl ?_;apply Tl;refine XOp.rowCheck 4111 (i:=0) rfl rfl (by simp) ?_;apply Tl;refine XOp.rowField ti_ok 4111 (i:=0) rfl rfl (by simp) rfl rfl rfl (by decide) ?_;apply Tl;refine XOp.rowStoreF ti_ok 4111 (i:=0) (j:=4) rfl rfl rfl rfl rfl (by decide) rfl ?_;(conv=>whnf);refine Tri.forgetK [(1,Iv 3),(2,.elm 1 [.elm 5 [hD false (.slice fa fm fc) 10 1 2] 0 0] 0 0),(57,Iv 1),(58,Iv 0),(15,Iv N)] [(4111,.row (.slice fa fm fc) [fldD [0] 0 (.slice la lm lc) 3 (N*2048)] 5 249),(4112,.row (.slice la lm lc) (ls.map encLnV) 12 234)] [(4111,4111),(4112,4112)] (by exact ⟨Z,rfl,Y⟩) ?_;apply Rg;refine Ir ?_;apply Rg;refine Ir ?_;(conv=>whnf);exact ⟨true,[(4111,4111),(4112,4112)],Nat.zero_lt_one,Z,rfl,Y⟩
 have hq:q=true:=by cases q<;>simp at hc ⊢
 subst hq;refine Tri.exit ?_;apply Sr;apply S2;refine Tri.regionG ti_ok ?_;apply Tj;refine Lo (.elm 5 [hD false (.slice fa fm fc) 10 1 2] 0 0) ?_;apply Tj;apply Tj;apply Tj;refine Lo (hD false (.slice fa fm fc) 10 1 2) ?_;apply Tl;refine XOp.rowLen ti_ok 4111 rfl rfl rfl rfl ?_;apply Tj;(conv=>whnf);refine Tri.forgetK [(1,Iv (3+N)),(2,.elm 1 [.elm 5 [hD false (.slice fa fm fc) 10 1 2] 0 0] 0 0),(16,Iv 0),(147,Iv 1),(148,Iv 0)] [(4111,.row (.slice fa fm fc) [fldD [0] 0 (.slice la lm lc) 3 (N*2048)] 5 249),(4112,.row (.slice la lm lc) (ls.map encLnV) 12 234)] [(4111,4111),(4112,4112)] (by exact ⟨Z,rfl,Y⟩) ?_;apply Bk
 refine Tri.loopK (α:=Bool) (fun x=>[(1,Iv (3+N)),(2,.elm 1 [.elm 5 [hD false (.slice fa fm fc) 10 1 2] 0 0] 0 0),(16,Iv 0),(147,Iv 1),(148,Iv (bif x then 1 else 0))])
   (fun x=>[(4111,.row (.slice fa fm fc) [fldD [0] 0 (.slice la lm lc) 3 (N*2048)] 5 249),(4112,.row (.slice la lm lc) (ls.map encLnV) 12 234)]) (fun x=>bif x then 0 else 1) false [(4111,4111),(4112,4112)]
   ⟨Z,rfl,Y⟩ ?_
 rintro q
 try dsimp only
 apply Sr;apply Sq;refine Cd (decide ((bif q then (1:Int) else 0)<1)) rfl (fun hc=>?_) (fun hc=>?_)
 ·apply Sk
  have hq:q=false:=by cases q<;>simp at hc ⊢
  subst hq;apply Sq;apply Bk;apply Sr;apply Sq;refine Tri.regionG ti_ok ?_;apply Tj;refine Lo (.elm 5 [hD false (.slice fa fm fc) 10 1 2] 0 0) ?_;apply Tj;apply Tj;apply Tj;refine Lo (hD false (.slice fa fm fc) 10 1 2) ?_;apply Tj;apply Tl;refine XOp.rowIndex ti_ok 4111 rfl rfl rfl rfl rfl rfl rfl (by simp) (by simp) ?_;apply Tl;refine XOp.rowField ti_ok 4111 (i:=0) rfl rfl (by simp) rfl rfl rfl (by decide) ?_;apply Tl;refine XOp.rowLoadF ti_ok 4111 (i:=0) (j:=2) rfl rfl rfl rfl ?_;apply Tl;refine XOp.rowLen ti_ok 4112 rfl rfl rfl rfl ?_;apply Tj;(conv=>whnf);refine Tri.forgetK [(1,Iv (3+N)),(2,.elm 1 [.elm 5 [hD false (.slice fa fm fc) 10 1 2] 0 0] 0 0),(16,Iv 0),(147,Iv 1),(148,Iv 0),(17,Iv 0),(159,Iv ((ls.map encLnV).length:Nat)),(160,Iv 0)] [(4111,.row (.slice fa fm fc) [fldD [0] 0 (.slice la lm lc) 3 (N*2048)] 5 249),(4112,.row (.slice la lm lc) (ls.map encLnV) 12 234)] [(4111,4111),(4112,4112)] (by exact ⟨Z,rfl,Y⟩) ?_;apply Bk
  refine Tri.loopK (α:={ i:Nat // i≤ls.length }) (fun x=>[(1,Iv (3+N)),(2,.elm 1 [.elm 5 [hD false (.slice fa fm fc) 10 1 2] 0 0] 0 0),(16,Iv 0),(147,Iv 1),(148,Iv 0),(17,Iv 0),(159,Iv ((ls.map encLnV).length:Nat)),(160,Iv ((x.1:Nat):Int))])
    (fun x=>[(4111,.row (.slice fa fm fc) [fldD [0] 0 (.slice la lm lc) 3 (N*2048)] 5 249),(4112,.row (.slice la lm lc) (ls.map encLnV) 12 234)]) (fun x=>ls.length-x.1) ⟨0,by omega⟩ [(4111,4111),(4112,4112)]
    ⟨Z,rfl,Y⟩ ?_
  rintro ⟨i,hi⟩
  try dsimp only at hi
  try dsimp only
  apply Sr;apply Sq;refine Cd (decide ((i:Int)<((ls.map encLnV).length:Nat))) rfl (fun hc=>?_) (fun hc=>?_)
  ·apply Sk
   have hia:i<ls.length:=by simpa using hc
   have hrl:i<(ls.map encLnV).length:=by rw [List.length_map]; exact hia
   have hge:(ls.map encLnV)[i]? = some (encLnV ls[i]):=by simp [hia]
   have hxl:=hlen _ (List.getElem_mem hia)
   generalize ls[i]=xx at *;obtain ⟨id,time,zone,fl,leads,lens⟩:=xx
   replace hxl:lens=[0]:=hxl
   subst hxl;apply Sq;apply Bk;apply Sr;apply Sq;refine Tri.regionG ti_ok ?_;apply Tj;refine Lo (.elm 5 [hD false (.slice fa fm fc) 10 1 2] 0 0) ?_;apply Tj;apply Tj;apply Tj;refine Lo (hD false (.slice fa fm fc) 10 1 2) ?_;apply Tj;apply Tl;refine XOp.rowIndex ti_ok 4111 rfl rfl rfl rfl rfl rfl rfl (by simp) (by simp) ?_;apply Tl;refine XOp.rowField ti_ok 4111 (i:=0) rfl rfl (by simp) rfl rfl rfl (by decide) ?_;apply Tl;refine XOp.rowLoadF ti_ok 4111 (i:=0) (j:=2) rfl rfl rfl rfl ?_;apply Tj;apply Tl;refine XOp.rowIndex ti_ok 4112 rfl rfl rfl rfl rfl rfl rfl (by omega) (Int.ofNat_lt.2 hrl) ?_;apply Tj;(conv=>whnf);refine Tri.forgetK [(1,Iv (3+N)),(2,.elm 1 [.elm 5 [hD false (.slice fa fm fc) 10 1 2] 0 0] 0 0),(16,Iv 0),(147,Iv 1),(148,Iv 0),(17,Iv 0),(159,Iv ((ls.map encLnV).length:Nat)),(160,Iv ((i:Nat):Int)),(19,.raw (rowPtr (.slice la lm lc) (((i:Nat):Int).toNat*12)))] [(4111,.row (.slice fa fm fc) [fldD [0] 0 (.slice la lm lc) 3 (N*2048)] 5 249),(4112,.row (.slice la lm lc) (ls.map encLnV) 12 234)] [(4111,4111),(4112,4112)] (by exact ⟨Z,rfl,Y⟩) ?_;apply Sq;refine Tri.regionG ti_ok ?_;apply Tj;apply Tl;refine XOp.rowCheck 4112 (i:=i) rfl rfl hrl ?_;apply Tl;refine XOp.rowField ti_ok 4112 (i:=i) rfl rfl hrl rfl rfl rfl (by decide) ?_;apply Tl
   refine XOp.rowLoadF ti_ok 4112 (i:=i) (j:=10) (by rw [Int.toNat_natCast]; rfl) rfl rfl hge ?_
   apply Tj;(conv=>whnf);refine ⟨fun _=>by simp [intsD],?_⟩;apply Tj;apply Tj;(conv=>whnf);refine Tri.forgetK [(1,Iv (3+N)),(2,.elm 1 [.elm 5 [hD false (.slice fa fm fc) 10 1 2] 0 0] 0 0),(16,Iv 0),(147,Iv 1),(148,Iv 0),(17,Iv 0),(159,Iv ((ls.map encLnV).length:Nat)),(160,Iv ((i:Nat):Int)),(178,Iv 0),(179,Iv 0)] [(4111,.row (.slice fa fm fc) [fldD [0] 0 (.slice la lm lc) 3 (N*2048)] 5 249),(4112,.row (.slice la lm lc) (ls.map encLnV) 12 234)] [(4111,4111),(4112,4112)] (by exact ⟨Z,rfl,Y⟩) ?_;apply Bk
   refine Tri.loopK (α:=Unit) (fun _=>[(1,Iv (3+N)),(2,.elm 1 [.elm 5 [hD false (.slice fa fm fc) 10 1 2] 0 0] 0 0),(16,Iv 0),(147,Iv 1),(148,Iv 0),(17,Iv 0),(159,Iv ((ls.map encLnV).length:Nat)),(160,Iv ((i:Nat):Int)),(178,Iv 0),(179,Iv 0)])
     (fun _=>[(4111,.row (.slice fa fm fc) [fldD [0] 0 (.slice la lm lc) 3 (N*2048)] 5 249),(4112,.row (.slice la lm lc) (ls.map encLnV) 12 234)]) (fun _=>0) () [(4111,4111),(4112,4112)]
     ⟨Z,rfl,Y⟩ ?_
   rintro ⟨⟩;apply Sr;apply Sq;refine Cd _ rfl (fun hc=>?_) (fun hc=>?_)
   ·exact absurd hc (by decide)
   refine Tri.exit ?_;apply Rg;refine Ir ?_;(conv=>whnf)
   exact ⟨⟨i+1,hia⟩,[(4111,4111),(4112,4112)],by show ls.length-(i+1)<ls.length-i; omega,Z,rfl,Y⟩
  refine Tri.exit ?_;apply Rg;refine Ir ?_;(conv=>whnf);exact ⟨true,[(4111,4111),(4112,4112)],Nat.zero_lt_one,Z,rfl,Y⟩
 refine Tri.exit ?_;apply Sr;(conv=>whnf);refine ⟨[Iv 0],_,fun _=>h1710,Z,?_⟩;refine Ir ?_;(conv=>whnf);refine Tri.retK [(4,Iv (3+N)),(5,Iv 0)] [] [] ⟨⟨intDLe (by omega),.refl _,trivial⟩,rfl,trivial⟩ ?_;(conv=>whnf);exact ⟨.tup [Iv (3+N),Iv 0],(show LeL [_,_] [_,_] from Z),rfl⟩
end Go.Tame.V
namespace Go.Tame
open Go Go.RowKit
def MixL (H:Heap):List (Nat×Nat)→List (Nat×HObj)→Prop
 | m,[]=>NoneL H m
 | (k,s)::m,(k',o)::hs=>k=k'∧H s=some o∧MixL H m hs
 | [],_::_=>False
theorem mixL_look {H:Heap}:∀ {m:List (Nat×Nat)} {hs:List (Nat×HObj)},MixL H m hs→∀ j,handed H m j=look hs j
 | [],[],h,j=>noneL_look h j
 | _::_,[],h,j=>noneL_look h j
 | (k,s)::m,(k',o)::hs,h,j=>by
  obtain ⟨rfl,h1,h2⟩:=h
  have ih:=mixL_look h2 j
  simp only [handed,look] at ih ⊢
  cases Nat.beq j k with
  | true=>exact h1
  | false=>exact ih
theorem DCall.mixL {P:Program} {W0:World} {f:FuncId} {ds:List D} {Q:D→Heap→Prop} {H:Heap} {m:List (Nat×Nat)} {hs:List (Nat×HObj)} (h:MixL H m hs) (hc:DCall P W0 f ds (look hs) Q):DCall P W0 f ds (handed H m) Q:=by
 rw [show handed H m=look hs from funext (mixL_look h)]; exact hc
theorem DCall.freeze {P:Program} {W0:World} {f:FuncId} (s:Nat) {s' b:Nat} {x:D} {cs ds:List D} {H:Heap} {Q:D→Heap→Prop} (hs:H s=some (.box b cs)) (hx:x.cells=cs) (hone:cs.all D.one=true)
  (h:DCall P W0 f (.elm cs.length [x] 0 0::ds) (fun i=>_root_.cond (Nat.beq i s) none (H i)) Q):DCall P W0 f (.box s' b 0::ds) H Q:=by
 refine ⟨h.1,fun w C args Ft hb hlow hH hargs=>?_⟩;obtain ⟨vs,e,h1,h2,h3⟩:=hH.obj s _ hs
 have hfb:Ft b:=hH.foot s _ b hs rfl
 have hext:Ext w C w (upd C b cs.length):=⟨Nat.le_refl _,fun x _=>upd_le C b _ (by omega) x,fun _ _ _ _=>rfl⟩
 have hst:Step Ft w C w (upd C b cs.length):=⟨hext,rfl,rfl,rfl,fun y _ hy=>⟨rfl,upd_ne _ _ (fun e=>hy (e ▸ hfb))⟩⟩
 have hr2:=h2.ext hext
 have hrow:Rep w (upd C b cs.length) (.sl .none cs.length [x]) (.slice (some ⟨b,0,none⟩) 1 1) :=
  rep_row (xs:=[x]) (vs:=vs) (fz:=(0,0)) (e:=e) h1 (fun y hy=>by rw [List.mem_singleton.1 hy,hx]) (Nat.le_refl _) (by decide) (by rw [upd_same]; simp) (fun i d hd=>by
   have hd':cs[i]? = some d:=by simpa [flat,hx] using hd
   obtain ⟨u,hu⟩:=getElem?_of_lt (l:=vs) (i:=i) (by rw [← h2.1]; exact lt_of_get hd')
   exact ⟨u,hu,hr2.2 i d u hd' hu,h2.one hone u (List.mem_iff_getElem?.2 ⟨i,hu⟩)⟩) trivial
 have hne:∀ {j:Nat} {o:HObj},_root_.cond (Nat.beq j s) none (H j)=some o→j≠s∧H j=some o:=fun {j o} ho=>by
  cases hj:Nat.beq j s with
  | true=>rw [hj] at ho; cases ho
  | false=>rw [hj] at ho; exact ⟨(fun e=>(by subst e; rw [Nat.beq_refl] at hj; cases hj)),ho⟩
 have hH2:HRel Ft w (upd C b cs.length) (fun i=>_root_.cond (Nat.beq i s) none (H i)):=by
  refine ⟨fun j o ho=>?_,fun j j' o o' y hn h4 h5 hu hu'=>hH.inj j j' o o' y hn (hne h4).2 (hne h5).2 hu hu',fun j o y ho hu=>hH.foot j o y (hne ho).2 hu⟩;obtain ⟨hj,ho'⟩:=hne ho
  exact (hH.obj j o ho').keep hext fun y hy=>⟨rfl,upd_ne _ _ (fun e=>by subst e; exact hH.inj s j _ o y (Ne.symm hj) hs ho' rfl hy)⟩
 have hargs2:RepL w (upd C b cs.length) (.elm cs.length [x] 0 0::ds) args:=by
  refine ⟨by have:=hargs.1; simpa using this,fun i d v h4 h5=>?_⟩
  cases i with
  | zero =>
   simp at h4
   subst h4
   have h6:=hargs.2 0 _ v rfl h5
   have h7:v=.pointer (some ⟨b,0,none⟩):=by cases h6; rfl
   rw [h7]
   have:=Rep.elm cs.length [x] 0 0 b 0 1 hrow
   simpa using this
  | succ i=>exact (hargs.2 (i+1) d v (by simpa using h4) h5).ext hext
 refine (h.2 w _ args Ft hb hlow hH2 hargs2).mono ?_;rintro e w' ⟨v,d,C',H',he,hq,hr,hst2,hH'⟩;exact ⟨v,d,C',H',he,hq,hr,hst.trans hst2 (fun _ _ h=>h),hH'⟩
end Go.Tame
namespace Go.Tame.V
open Go Go.Proofs
variable {W0:World}
def linesV (zone t m:Int) (xid:List UInt8):List LnV:=[⟨[0],t,zone,2,0,[0]⟩,⟨[1],t,zone,2,0,[0]⟩,⟨xid,m,zone,0,-1,[0]⟩]
structure Small (xid:List UInt8) (N:Int):Prop where
 len:xid.length<1000000
 r01:(bif cmpI (rankV [1]) (rankV [0])!=0 then true else decide (rankV [1]<2))=true
 r02:(bif cmpI (rankV xid) (rankV [0])!=0 then true else decide (rankV xid<2))=true
 r12:(bif cmpI (rankV xid) (rankV [1])!=0 then true else decide (rankV xid<2))=true
 c01:0≤cmpI (rankV [1]) (rankV [0])
 c02:0≤cmpI (rankV xid) (rankV [0])
 c12:0≤cmpI (rankV xid) (rankV [1])
 d:0≤drSz (xid.length:Nat) 0∧drSz (xid.length:Nat) 0≤254
 n:dirBl [lnSz [0] [0],lnSz [1] [0],lnSz xid [0]]=N
 n0:0≤N
 n1:N<1000000
theorem linesV_place {xid:List UInt8} {N:Int} (hS:Small xid N) (zone t m:Int) (fa:Option Addr) (fm fc:Nat) (la:Option Addr) (lm lc:Nat) (bh:Nat) :
  DCall Tryz.prog W0 110 [.box 4110 bh 0,Iv 1] (look [(4110,.box bh [.bool false,.raw (.slice fa fm fc),Iv 0,Iv 0,Iv 0]),(4111,.row (.slice fa fm fc) [fldD [0] 0 (.slice la lm lc) 0 0] 5 249),(4112,.row (.slice la lm lc) ((linesV zone t m xid).map lnN) 12 234)]) fun d H'=>d=.tup [Iv (3+N),Iv 0]:=by
 have hd1:drSz (1:Int) 0=34:=by decide
 have h34:0≤drSz (1:Int) 0∧drSz (1:Int) 0≤254:=by rw [hd1]; decide
 refine H110 (linesV zone t m xid) (by simp [linesV]) (fun x hx=>?_) N hS.n hS.n0 hS.n1 (fun x hx=>?_) fa fm fc la lm lc (fun j i=>cmpI (rankV ((linesV zone t m xid).getD j default).id) (rankV ((linesV zone t m xid).getD i default).id)) (fun i j hij hj=>?_) bh
 ·simp only [linesV,List.mem_cons,List.mem_nil_iff,or_false] at hx
  rcases hx with rfl|rfl|rfl<;>rfl
 ·simp only [linesV,List.mem_cons,List.mem_nil_iff,or_false] at hx
  rcases hx with rfl|rfl|rfl
  ·exact ⟨by simp,h34⟩
  ·exact ⟨by simp,h34⟩
  exact ⟨hS.len,hS.d⟩
 have hj3:j<3:=by simpa [linesV] using hj
 have:(i=0∧j=1)∨(i=0∧j=2)∨(i=1∧j=2):=by omega
 rcases this with ⟨rfl,rfl⟩|⟨rfl,rfl⟩|⟨rfl,rfl⟩
 ·exact ⟨H177 _ _ false (.slice fa fm fc) 10 1 2 hS.r01,hS.c01⟩
 ·exact ⟨H177 _ _ false (.slice fa fm fc) 10 1 2 hS.r02,hS.c02⟩
 exact ⟨H177 _ _ false (.slice fa fm fc) 10 1 2 hS.r12,hS.c12⟩
theorem H77 (hL:LibOk W0) (zone:Int) (n:NV) (bn be:Nat) (M:List (List UInt8×NV)) (xp xid:List UInt8) (N:Int) (hS:Small xid N) (hPl:DFun Tryz.prog W0 158 [encTop n,.bool false] (.tup [.sl .none 6 [(encDir ⟨[],[0],1,0,0,false⟩)],.sl .none 7 [(encEnt ⟨xp,xid,0,-1,false,false,false⟩)],Iv 0])):DCall Tryz.prog W0 77 [(.elm 26 [bD (⟨false,false,zone,[]⟩:OV) n bn be] 0 0),Iv 1] (look [(4103,.mp bn (encMap encTop M)),(4104,.mp be (encMap encF []))]) fun d H'=>∃ b32,d=.tup [.agg [.box 4110 b32 0,.raw (.pointer none),Iv (3+N),Iv (3+N)],Iv 0]:=by
 refine DCall.intro ti_ok Tryz.func77 rfl (by decide +kernel) Tryz.ntmps77 rfl fun Γ=>?_
 have hn0:=hS.n0
 have hn1:=hS.n1
 apply Sr;(conv=>whnf);intro b4;apply Sq;refine Tri.regionX ti_ok ?_;(conv=>whnf);refine .inr (XOp.call rfl [(.elm 26 [bD (⟨false,false,zone,[]⟩:OV) n bn be] 0 0)] [(4103,4103),(4104,4104),(4110,4110),(4111,4111),(4112,4112)] (DCall.mixL (by exact ⟨rfl,Y⟩) (H109 false zone [] n bn be M xp xid hPl)) rfl Z ?_);rintro d H' ⟨b32,fa,fm,fc,ka,kn,kc,rfl,rfl⟩;refine ⟨_,.refl _,?_⟩;(conv=>whnf);intro b6;apply Il;apply Rl;apply Sq;refine Tri.regionX ti_ok ?_;apply Il;apply Rl;(conv=>whnf);refine .inr (XOp.call rfl [.box 4110 b32 0,Iv 1] [(4110,4110),(4111,4111),(4112,4112)] (DCall.heapL (by exact ⟨rfl,Y⟩) (linesV_place hS zone ((aget M []).getD zN).n4 ((aget M xp).getD zN).n4 fa fm fc ka kn kc b32)) rfl Z ?_);rintro d H' rfl;refine ⟨_,.refl _,?_⟩;(conv=>whnf);refine Tri.joinK (α:=Unit) (fun _=>[(0,(.elm 26 [bD (⟨false,false,zone,[]⟩:OV) n bn be] 0 0)),(4,.box 4 b4 0),(6,.box 6 b6 0),(7,Iv (3+N)),(8,Iv 0)]) (fun _=>[(4,.box b4 [.raw (.pointer none),.raw (.pointer none),Iv 0,Iv 0]),(6,.box b6 [.box 4110 b32 0,.raw (.pointer none),Iv 0,Iv 0])]) ?_ ?_
 ·apply Sr;apply Hh;apply Hh;apply Hh;apply Hh;(conv=>whnf);refine ⟨bD (⟨false,false,zone,[]⟩:OV) n bn be,fun h=>rfl,?_⟩;refine Pk ?_;refine Cd false rfl (fun hc=>?_) (fun hc=>?_)
  ·cases hc
  apply Sk;(conv=>whnf);exact ⟨(),[(4,4),(6,6)],Z,rfl,Y⟩
 rintro ⟨⟩;apply Sr;apply Rl;apply Sq;apply Sr;refine Lo (bD (⟨false,false,zone,[]⟩:OV) n bn be) ?_;refine Cd false rfl (fun hc=>?_) (fun hc=>?_)
 ·cases hc
 apply Sk;apply Sr;apply Rl;apply Sr;apply Rl;apply Rl;(conv=>whnf);refine Tri.retK [(4,.box 4 b4 0),(5,Iv 0)] [(4,.box b4 [.box 4110 b32 0,.raw (.pointer none),Iv (3+N),Iv (3+N)])] [(4,4)] ⟨Z,rfl,Y⟩ ?_;(conv=>whnf);refine ⟨.tup [.agg [.box 4110 b32 0,.raw (.pointer none),Iv (3+N),Iv (3+N)],Iv 0],?_,b32,rfl⟩;apply Rl;(conv=>whnf);exact Z
theorem H30o (hL:LibOk W0) (zone:Int) (n:NV) (hz:sz n+n.name.length<10000000) (hck:chkV n (⟨false,false,zone,[]⟩:OV)=0) (G:List UInt8→NV×Int) (ps:List (List UInt8)) (hps:ps.length<1000000) (hP:DFun Tryz.prog W0 96 [encTop n] (.sl .none 1 (strs ps))) (hG:∀ p∈ps,DFun Tryz.prog W0 17 [encTop n,.str p] (.tup [encTop (G p).1,Iv (G p).2])) (xp xid:List UInt8) (N:Int) (hS:Small xid N) (hPl:DFun Tryz.prog W0 158 [encTop n,.bool false] (.tup [.sl .none 6 [(encDir ⟨[],[0],1,0,0,false⟩)],.sl .none 7 [(encEnt ⟨xp,xid,0,-1,false,false,false⟩)],Iv 0])):DFun Tryz.prog W0 30 [encTop n,encO (⟨false,false,zone,[]⟩:OV)] (.tup [Iv (2+N),Iv 0]):=by
 refine Fi Tryz.func30 rfl Tryz.ntmps30 fun Γ=>?_
 have hn0:=hS.n0
 have hn1:=hS.n1
 apply Sr;(conv=>whnf);intro b2;(conv=>whnf);intro b3;apply Sq;apply Sr;apply Rl;apply Rl;(conv=>whnf);refine ⟨[encTop n,encO (⟨false,false,zone,[]⟩:OV)],Iv 0,fun _=>hck ▸ H75 hL n (⟨false,false,zone,[]⟩:OV) hz,Z,?_⟩;apply Sr;refine Cd false rfl (fun hc=>?_) (fun hc=>?_)
 ·cases hc
 apply Sk;apply Sq
 have hfun:∀ bb bn be:Nat,DCall Tryz.prog W0 77 (.elm (bD (⟨false,false,zone,[]⟩:OV) n bn be).cells.length [bD (⟨false,false,zone,[]⟩:OV) n bn be] 0 0::[Iv 1]) (fun i=>_root_.cond (Nat.beq i 4102) none (look (bH bb bn be (⟨false,false,zone,[]⟩:OV) n (nodesF G n ps)) i)) (fun d H'=>∃ b32,d=.tup [.agg [.box 4110 b32 0,.raw (.pointer none),Iv (3+N),Iv (3+N)],Iv 0]):=fun bb bn be=>by
  have h:=H77 hL zone n bn be (nodesF G n ps) xp xid N hS hPl
  have e:(fun i=>_root_.cond (Nat.beq i 4102) none (look (bH bb bn be (⟨false,false,zone,[]⟩:OV) n (nodesF G n ps)) i))=look [(4103,.mp bn (encMap encTop (nodesF G n ps))),(4104,.mp be (encMap encF []))]:=by
   funext i
   simp only [bH,look]
   cases h1:Nat.beq i 4102 with
   | true=>have:=beq_true h1; subst this; rfl
   | false=>rfl
  rw [e]; exact h
 refine Tri.regionX ti_ok ?_;apply Il;apply Rl;apply Il;apply Rl;(conv=>whnf);refine .inr (XOp.call rfl [volD,encTop n,.nils,encO (⟨false,false,zone,[]⟩:OV)] [(4102,4102),(4103,4103),(4104,4104)] (DCall.noneL (by exact ⟨rfl,Y⟩) (H76 G n (⟨false,false,zone,[]⟩:OV) ps hps hP hG)) rfl Z ?_);rintro d H' ⟨bb,bn,be,rfl,rfl⟩;refine ⟨_,.refl _,?_⟩;(conv=>whnf);refine .inr (XOp.call rfl [.box 4102 bb 0,Iv 1] [(4102,4102),(4103,4103),(4104,4104)] (DCall.heapL (by exact ⟨rfl,Y⟩) (DCall.freeze 4102 (x:=bD (⟨false,false,zone,[]⟩:OV) n bn be) (cs:=(bD (⟨false,false,zone,[]⟩:OV) n bn be).cells) rfl rfl rfl (hfun bb bn be))) rfl Z ?_);rintro d H' ⟨b32,rfl⟩;refine ⟨_,.refl _,?_⟩;(conv=>whnf);intro b7;apply Il;apply Rl;apply Sq;apply Sr;refine Cd false rfl (fun hc=>?_) (fun hc=>?_)
 ·cases hc
 apply Sk;apply Sr;apply Rl;refine Ir ?_;apply Rt;(conv=>whnf);exact ⟨intDLe (by omega),.refl _,trivial⟩
def gIx (fs:List PF) (g:FV):Int:=firstIdx (fun f:PF=>f.path==g.path) fs
def gDl (fs:List PF) (g:FV):Int:=((fs.getD (gIx fs g).toNat ⟨[],[]⟩).data.length:Nat)
def badG (fs:List PF) (start:Int) (g:FV):Bool:=bif (bif (bif (bif (bif decide (gIx fs g<0) then true else g.len==0) then true else g.len !=gDl fs g) then true else decide (g.start<0)) then true else decide (start<g.start)) then true else decide (start-g.start<blkV g.len)
def openStep (fs:List PF) (start:Int) (o:Option (List (List UInt8×FV))) (g:FV):Option (List (List UInt8×FV)) :=
 o.bind fun mp=>if badG fs start g=true then none else if (aget mp g.path).isSome=true then none else some (aset mp g.path g)
def openS (fs:List PF) (start:Int) (l:List FV):Option (List (List UInt8×FV)):=l.foldl (openStep fs start) (some [])
def badO (n:NV) (m:MV) (start:Int):Bool:=bif (bif (bif !valid n then true else !validM m) then true else decide (start<0)) then true else decide (4096<start)
def openV (n:NV) (m:MV) (given:List FV) (start:Int):Option (List (List UInt8×FV)):=if badO n m start=true then none else openS (filesV n) start given
theorem openS_next (fs:List PF) (start:Int) {l:List FV} {i:Nat} (h:i<l.length):openS fs start (l.take (i+1))=openStep fs start (openS fs start (l.take i)) l[i]:=by
 rw [openS,List.take_succ_eq_append_getElem h,List.foldl_append]; rfl
theorem openS_none (fs:List PF) (start:Int):∀ l:List FV,l.foldl (openStep fs start) none=none
 | []=>rfl
 | g::l=>openS_none fs start l
theorem openS_stop {fs:List PF} {start:Int} {l:List FV} {i:Nat} (h:openS fs start (l.take i)=none):openS fs start l=none:=by
 rw [openS,← List.take_append_drop i l,List.foldl_append,← openS,h];exact openS_none _ _ _
theorem bif2 {a b:Bool} (h:(bif a then true else b)=false):a=false∧b=false:=by cases a<;>cases b<;>simp at h ⊢
theorem nb {b:Bool} (h:(!b)=true):b=false:=by cases b<;>simp at h ⊢
theorem gIx_get {fs:List PF} {g:FV} (h:decide (gIx fs g<0)=false):∃ hi:(gIx fs g).toNat<fs.length,0≤gIx fs g∧(fs.map encPF)[(gIx fs g).toNat]? = some (encPF (fs.getD (gIx fs g).toNat ⟨[],[]⟩)):=by
 have h:=of_decide_eq_false h
 unfold gIx at *
 rcases firstIdx_or (fun f:PF=>f.path==g.path) fs with ⟨e,_⟩|⟨i,hi,e,_,_⟩
 ·omega
 rw [e];exact ⟨by simpa using hi,by omega,by simp [List.getD,hi]⟩
theorem H57 (hL:LibOk W0) (n:NV) (m:MV) (given:List FV) (start:Int) (hn:Fits n) (hg:given.length<1000000) (hg1:∀ g∈given,g.len≤9223372036854775807) (hfil:(filesV n).length<1000000):DCall Tryz.prog W0 57 [encTop n,encM m,.sl .none 3 (given.map encF),Iv start] Heap.none fun d H'=>match openV n m given start with|none=>d=.tup [.any,Iv 1]|some mp=>∃ bp bg,d=.tup [.box 4102 bp 0,Iv 0]∧H'=look [(4102,.box bp (planC (⟨m,filesV n,[],mp,start,0,0,0,0⟩:PV) bg)),(4001,.mp bg (encMap encF mp))]:=by
 refine DCall.intro ti_ok Tryz.func57 rfl (by decide +kernel) Tryz.ntmps57 rfl fun Γ=>?_
 apply Sr;(conv=>whnf);intro b4;(conv=>whnf);intro b5;apply Sq;apply Sr;apply Rl;(conv=>whnf)
 refine ⟨[encTop n],_,fun _=>F39 hL n (by unfold Fits at hn; omega),Z,?_⟩
 apply Rl;apply Hh;(conv=>whnf);refine ⟨[encM m],_,fun h=>H32 m,Z,?_⟩;apply Hh;refine Pk ?_;apply Hh;refine Pk ?_;apply Hh;refine Pk ?_;refine Cd (badO n m start) rfl (fun hc=>?_) (fun hc=>?_)
 ·apply Sr;(conv=>whnf)
  have hO:openV n m given start=none:=by rw [openV,if_pos hc]
  rw [hO];refine Tri.retK [(9,Iv 1)] [] [] ⟨Z,rfl,trivial⟩ ?_;(conv=>whnf);exact ⟨.tup [.any,Iv 1],(show LeL [_,_] [_,_] from ⟨.any _,.refl _,trivial⟩),rfl⟩
 apply Sk
 have hO:openV n m given start=openS (filesV n) start given:=by rw [openV,if_neg (by rw [hc]; decide)]
 have hst:0≤start∧start≤4096:=by
  obtain ⟨h1,h2⟩:=bif2 hc;obtain ⟨h3,h4⟩:=bif2 h1
  have:=of_decide_eq_false h2; have:=of_decide_eq_false h4; omega
 rw [hO];apply Sq;refine Tri.forgetK [(2,.sl .none 3 (given.map encF)),(3,Iv start),(4,.box 4 b4 0),(5,.box 5 b5 0)] [(4,.box b4 (encTop n).cells),(5,.box b5 (encM m).cells)] [(4,4),(5,5)] ⟨Z,rfl,Y⟩ ?_
 refine Tri.bitsG ti_ok mixed (α:=Nat×Nat) (fun y f=>[(2,.sl .none 3 (given.map encF)),(3,Iv start),(4,.box 4 b4 0),(5,.box 5 b5 0),(32,bif f 0 then encM m else .any),(33,bif f 1 then encTop n else .any),(34,bif f 2 then .sl .none 2 ((filesV n).map encPF) else .any),(35,bif f 3 then .raw (.map (some y.1)) else .any),(36,bif f 4 then Iv start else .any),(37,bif f 5 then .agg [.str m.name,.str m.set,.str m.pub,.str m.prep,.str m.app,Iv m.num,Iv m.discs,Iv m.time,Iv m.views,Iv m.zone,.sl .none 6 (m.boot.map encB),Iv m.udf,.bool m.share,.sl .none 2 ((filesV n).map encPF),.nils,.raw (.map (some y.1)),Iv start,Iv 0,Iv 0,Iv 0,Iv 0] else .any),(38,bif f 6 then .box 38 y.2 0 else .any),(10,bif f 7 then .box 38 y.2 0 else .any)])
  (fun y f=>look ([(4,.box b4 (encTop n).cells),(5,.box b5 (encM m).cells)]++(bif f 6 then [(35,.mp y.1 []),(38,.box y.2 [.str m.name,.str m.set,.str m.pub,.str m.prep,.str m.app,Iv m.num,Iv m.discs,Iv m.time,Iv m.views,Iv m.zone,.sl .none 6 (m.boot.map encB),Iv m.udf,.bool m.share,.sl .none 2 ((filesV n).map encPF),.nils,.raw (.map (some y.1)),Iv start,Iv 0,Iv 0,Iv 0,Iv 0])] else bif f 5 then [(35,.mp y.1 [])] else bif f 3 then [(35,.mp y.1 [])] else []))) (by decide +kernel) (0,0) ?_ ?_ ?_ ?_
 ·exact ⟨.refl _,.refl _,.refl _,.refl _,.any _,.any _,.any _,.any _,.any _,.any _,.any _,.any _,trivial⟩
 ·exact SubHF.of (hs:=[(4,.box b4 (encTop n).cells),(5,.box b5 (encM m).cells)]) ⟨rfl,Y⟩
 ·(conv=>whnf);refine ⟨fun y f hI=>?_,?_⟩
  ·obtain ⟨f,rfl⟩:= hI.o f 5 0;obtain ⟨f,rfl⟩:= hI.o f 6 5 (hI.n 5 0);obtain ⟨f,rfl⟩:= hI.o f 7 0;apply Ti;apply Rl;(conv=>whnf);exact Ex y
  refine ⟨fun y f hI=>?_,?_⟩
  ·obtain ⟨f,rfl⟩:= hI.o f 5 2 (hI.n 2 1);obtain ⟨f,rfl⟩:= hI.o f 6 5 (hI.n 5 2 (hI.n 2 1));obtain ⟨f,rfl⟩:= hI.o f 7 1;apply Ti;apply Rl;(conv=>whnf);exact Ex y
  refine ⟨fun y f hI=>?_,?_⟩
  ·obtain ⟨f,rfl⟩:= hI.o f 5 2;obtain ⟨f,rfl⟩:= hI.o f 6 5 (hI.n 5 2);obtain ⟨f,rfl⟩:= hI.o f 7 2;apply Ti;(conv=>whnf);refine ⟨[encTop n],_,fun _=>H65 hL n hn,Z,?_⟩;(conv=>whnf);exact Ex y
  refine ⟨fun y f hI=>?_,?_⟩
  ·obtain ⟨f,rfl⟩:= hI.o f 5 3;obtain ⟨f,rfl⟩:= hI.o f 6 5 (hI.n 5 3);obtain ⟨f,rfl⟩:= hI.o f 7 3;apply Tk
   refine XOp.mpMake fun v=>?_
   exact Ex (v,y.2) (SubHF.of (hs:=[(4,.box b4 (encTop n).cells),(5,.box b5 (encM m).cells),(35,.mp v [])]) ⟨rfl,Y⟩)
  refine Qo ?_;refine ⟨fun y f hI=>?_,?_⟩
  ·obtain ⟨f,rfl⟩:= hI.o f 6 5;obtain ⟨f,rfl⟩:= hI.o f 7 5;apply Ti;(conv=>whnf);exact Ex y (SubHF.of (hs:=[(4,.box b4 (encTop n).cells),(5,.box b5 (encM m).cells),(35,.mp y.1 [])]) ⟨rfl,Y⟩)
  refine ⟨fun y f hI=>?_,?_⟩
  ·obtain ⟨f,rfl⟩:= hI.o f 7 6;apply Ti;(conv=>whnf);intro nb;(conv=>whnf);exact Ex (y.1,nb) (SubHF.of (hs:=[(4,.box b4 (encTop n).cells),(5,.box b5 (encM m).cells),(35,.mp y.1 []),(38,.box nb [.str m.name,.str m.set,.str m.pub,.str m.prep,.str m.app,Iv m.num,Iv m.discs,Iv m.time,Iv m.views,Iv m.zone,.sl .none 6 (m.boot.map encB),Iv m.udf,.bool m.share,.sl .none 2 ((filesV n).map encPF),.nils,.raw (.map (some y.1)),Iv start,Iv 0,Iv 0,Iv 0,Iv 0])]) ⟨rfl,Y⟩)
  refine Qo ?_;exact trivial
 intro y f hfl;obtain ⟨bg,bp⟩:=y;(conv=>whnf);refine Tri.forgetG [(2,.sl .none 3 (given.map encF)),(3,Iv start),(10,.box 38 bp 0)] (look [(35,.mp bg []),(38,.box bp [.str m.name,.str m.set,.str m.pub,.str m.prep,.str m.app,Iv m.num,Iv m.discs,Iv m.time,Iv m.views,Iv m.zone,.sl .none 6 (m.boot.map encB),Iv m.udf,.bool m.share,.sl .none 2 ((filesV n).map encPF),.nils,.raw (.map (some bg)),Iv start,Iv 0,Iv 0,Iv 0,Iv 0])]) (.same ⟨.refl _,.refl _,?_,trivial⟩ (SubHF.of ⟨?_,?_,trivial⟩)) ?_
 ·show DLe (bif f 7 then _ else _) _
  rw [hfl 7 (by decide +kernel)]; exact .refl _
 ·show look (([(4,_),(5,_)]:List (Nat×HObj))++(bif f 6 then _ else _)) 35=_
  rw [hfl 6 (by decide +kernel)]; rfl
 ·show look (([(4,_),(5,_)]:List (Nat×HObj))++(bif f 6 then _ else _)) 38=_
  rw [hfl 6 (by decide +kernel)]; rfl
 refine Tri.boxLe 38 (cs':=planC (⟨m,filesV n,[],[],start,0,0,0,0⟩:PV) bg) rfl ⟨.refl _,.refl _,.refl _,.refl _,.refl _,.refl _,.refl _,.refl _,.refl _,.refl _,.refl _,.refl _,.refl _,.refl _,DLe.nil,.refl _,.refl _,.refl _,.refl _,.refl _,.refl _,trivial⟩ ?_;refine Tri.forgetK [(2,.sl .none 3 (given.map encF)),(3,Iv start),(10,.box 4102 bp 0)] [(4102,.box bp (planC (⟨m,filesV n,[],[],start,0,0,0,0⟩:PV) bg)),(4001,.mp bg (encMap encF []))] [(4102,38),(4001,35)] ⟨⟨.refl _,.refl _,DLe.box,trivial⟩,rfl,Y⟩ ?_;apply Sq;apply Sr;apply Bk
 refine Tri.loopK (α:={ x:Nat×List (List UInt8×FV) // x.1≤given.length∧openS (filesV n) start (given.take x.1)=some x.2 }) (fun x=>[(3,Iv start),(10,.box 4102 bp 0),(39,.sl .none 3 (given.map encF)),(40,Iv ((given.map encF).length:Nat)),(41,Iv x.1.1)]) (fun x=>[(4102,.box bp (planC (⟨m,filesV n,[],x.1.2,start,0,0,0,0⟩:PV) bg)),(4001,.mp bg (encMap encF x.1.2))]) (fun x=>given.length-x.1.1) ⟨(0,[]),Nat.zero_le _,rfl⟩ [(4102,4102),(4001,4001)]
  ⟨Z,rfl,Y⟩ ?_
 rintro ⟨⟨i,mp⟩,hi,hop⟩;dsimp only at hi hop ⊢;apply Sr;apply Sq;refine Cd (decide ((i:Int)<((given.map encF).length:Nat))) rfl (fun hc2=>?_) (fun hc2=>?_)
 ·apply Sk
  have hia:i<given.length:=by simpa using hc2
  have hget:=encF_get hia
  have hnx:=openS_next (filesV n) start hia
  have hgl:=hg1 given[i] (List.getElem_mem _)
  rw [hop] at hnx;generalize given[i]=g at *
  have hpr:∀ h:(bif (bif (bif (bif decide (gIx (filesV n) g<0) then true else g.len==0) then true else g.len !=gDl (filesV n) g) then true else decide (g.start<0)) then true else decide (start<g.start))=false,0≤g.len∧0≤g.start:=fun h=>by
   have h1:=(bif2 h).1
   have h2:=bif2 h1
   have h3:=(bif2 h2.1).2
   have h4:=of_decide_eq_false h2.2
   have h5:g.len=gDl (filesV n) g:=by simpa using h3
   rw [h5]; unfold gDl; omega
  apply Sq;apply Bk;apply Sr;(conv=>whnf)
  refine ⟨fun _=>by rw [List.length_map]; omega,?_⟩
  (conv=>whnf);refine ⟨encF g,fun _=>hget,?_⟩;(conv=>whnf);intro b12;apply Rl;apply Sq;refine Tri.regionX ti_ok ?_;apply Il;apply Rl;(conv=>whnf);refine .inr (XOp.call rfl [.sl .none 2 ((filesV n).map encPF),.fn (.func 90) [] [.box 4101 b12 0]] [(4101,12)] (DCall.heap1 rfl (H89 (filesV n) hfil 90 [.box 4101 b12 0] _ (fun f=>f.path==g.path) (fun k hk=>H90 k g b12))) rfl ⟨.refl _,DLe.fn trivial ⟨DLe.box,trivial⟩,trivial⟩ ?_);rintro d H' ⟨rfl,rfl⟩;refine ⟨_,.refl _,?_⟩;apply S2;rw [show firstIdx (fun f:PF=>f.path==g.path) (filesV n)=gIx (filesV n) g from rfl];refine Tri.draw ti_ok mixed (by kernel_rfl) ?_;apply Hh;apply Rl;apply Hh;refine Pk ?_;apply Hh;apply Rl;apply Hh;apply Hh;apply Hh;apply Rl;apply Hh;apply Hh;(conv=>whnf)
  refine ⟨fun h=>by
   obtain ⟨h2,h3,_⟩:=gIx_get (bif2 (nb h)).1
   have h4:((filesV n).map encPF).length=(filesV n).length:=List.length_map _
   show 0≤gIx (filesV n) g∧gIx (filesV n) g<(((filesV n).map encPF).length:Nat)
   omega,?_⟩
  apply Hh;apply Hh;(conv=>whnf);refine ⟨encPF ((filesV n).getD (gIx (filesV n) g).toNat ⟨[],[]⟩),fun h=>(gIx_get (bif2 (nb h)).1).elim fun _ h=>h.2,?_⟩;apply Hh;apply Hh;apply Hh;refine Pk ?_;apply Hh;apply Rl;apply Hh;refine Pk ?_;apply Hh;apply Rl;apply Hh;apply Hh;refine Pk ?_;apply Hh;apply Rl;apply Hh;(conv=>whnf);refine ⟨[Iv g.len],_,fun h=>H40 g.len (hpr (nb h)).1 hgl,Z,?_⟩;apply Hh;apply Rl;apply Hh;apply Hh;(conv=>whnf)
  refine .inl ⟨fun h=>by have:=(hpr (nb h)).2; simp only [InR]; have:=of_decide_eq_false (bif2 (nb h)).2; omega,?_⟩
  apply Hh;apply Hh;refine Pk ?_;refine Cd (badG (filesV n) start g) rfl (fun hc3=>?_) (fun hc3=>?_)
  ·apply Sr;(conv=>whnf)
   have hN:openS (filesV n) start given=none:=openS_stop (i:=i+1) (by rw [hnx]; simp [openStep,hc3])
   rw [hN];refine Tri.retK [(9,Iv 1)] [] [] ⟨Z,rfl,trivial⟩ ?_;(conv=>whnf);exact ⟨.tup [.any,Iv 1],(show LeL [_,_] [_,_] from ⟨.any _,.refl _,trivial⟩),rfl⟩
  apply Sk;apply S2;refine Tri.forgetK [(3,Iv start),(10,.box 4102 bp 0),(39,.sl .none 3 (given.map encF)),(40,Iv ((given.map encF).length:Nat)),(41,Iv (i:Int)),(12,.box 12 b12 0)] [(4102,.box bp (planC (⟨m,filesV n,[],mp,start,0,0,0,0⟩:PV) bg)),(4001,.mp bg (encMap encF mp)),(12,.box b12 (encF g).cells)] [(4102,4102),(4001,4001),(12,12)] ⟨Z,rfl,Y⟩ ?_
  refine Tri.bitsG ti_ok mixed (α:=Nat) (fun q f=>[(3,Iv start),(10,.box 4102 bp 0),(39,.sl .none 3 (given.map encF)),(40,Iv ((given.map encF).length:Nat)),(41,Iv (i:Int)),(12,.box 12 b12 0),(94,bif f 0 then .box 4102 bp 0 else .any),(95,bif f 1 then .box 4102 bp 0 else .any),(96,bif f 2 then .box 4102 bp 15 else .any),(97,bif f 3 then .raw (.map (some bg)) else .any),(98,bif f 4 then .box 12 b12 0 else .any),(99,bif f 5 then .str g.path else .any),(100,bif f 6 then .tup [encF ((aget mp g.path).getD zF),.bool (aget mp g.path).isSome] else .any),(93,bif f 7 then .tup [encF ((aget mp g.path).getD zF),.bool (aget mp g.path).isSome] else .any),(101,bif f 8 then encF ((aget mp g.path).getD zF) else .any),(102,bif f 9 then .bool (aget mp g.path).isSome else .any),(14,bif f 10 then .box 14 q 0 else .any),(15,bif f 12 then .bool (aget mp g.path).isSome else .any)])
   (fun q f=>look ([(4102,.box bp (planC (⟨m,filesV n,[],mp,start,0,0,0,0⟩:PV) bg)),(4001,.mp bg (encMap encF mp)),(12,.box b12 (encF g).cells)]++(bif f 10 then [(14,.box q (bif f 11 then (encF ((aget mp g.path).getD zF)).cells else [.str [],Iv 0,Iv 0]))] else []))) (by decide +kernel) 0 ?_ ?_ ?_ ?_
  ·exact ⟨.refl _,.refl _,.refl _,.refl _,.refl _,.refl _,.any _,.any _,.any _,.any _,.any _,.any _,.any _,.any _,.any _,.any _,.any _,.any _,trivial⟩
  ·exact SubHF.of (hs:=[(4102,.box bp (planC (⟨m,filesV n,[],mp,start,0,0,0,0⟩:PV) bg)),(4001,.mp bg (encMap encF mp)),(12,.box b12 (encF g).cells)]) ⟨rfl,Y⟩
  ·(conv=>whnf);refine Qo ?_;refine Qo ?_;refine Qo ?_;refine ⟨fun q f hI=>?_,?_⟩
   ·obtain ⟨f,rfl⟩:= hI.o f 11 3;apply Ti;apply Rl;(conv=>whnf);exact Ex q
   refine Qo ?_;refine ⟨fun q f hI=>?_,?_⟩
   ·obtain ⟨f,rfl⟩:= hI.o f 11 5;apply Ti;apply Rl;(conv=>whnf);exact Ex q
   refine ⟨fun q f hI=>?_,?_⟩
   ·obtain ⟨f,rfl⟩:= hI.o f 11 6;apply Tk;refine XOp.mpGet 4001 (kt:=9) (et:=53) (enc:=encF) (z:=zF) rfl rfl rfl rfl rfl (fun w=>rfl) (fun w C=>zF_rep w C) ?_;exact Ex q
   refine Qo ?_;refine Qo ?_;refine Qo ?_;refine ⟨fun q f hI=>?_,?_⟩
   ·obtain ⟨f,rfl⟩:= hI.o f 11 10;apply Ti;(conv=>whnf);intro nb;(conv=>whnf);exact Ex nb (SubHF.of (hs:=[(4102,.box bp (planC (⟨m,filesV n,[],mp,start,0,0,0,0⟩:PV) bg)),(4001,.mp bg (encMap encF mp)),(12,.box b12 (encF g).cells),(14,.box nb [.str [],Iv 0,Iv 0])]) ⟨rfl,Y⟩)
   refine ⟨fun q f hI=>?_,?_⟩
   ·(conv=>whnf);apply Ti;apply Rl;(conv=>whnf);exact Ex q (SubHF.of (hs:=[(4102,.box bp (planC (⟨m,filesV n,[],mp,start,0,0,0,0⟩:PV) bg)),(4001,.mp bg (encMap encF mp)),(12,.box b12 (encF g).cells),(14,.box q (encF ((aget mp g.path).getD zF)).cells)]) ⟨rfl,Y⟩)
   refine Qo ?_;exact trivial
  intro q f hf;(conv=>whnf);refine Tri.forgetG [(3,Iv start),(10,.box 4102 bp 0),(39,.sl .none 3 (given.map encF)),(40,Iv ((given.map encF).length:Nat)),(41,Iv (i:Int)),(12,.box 12 b12 0),(15,.bool (aget mp g.path).isSome)] (look [(4102,.box bp (planC (⟨m,filesV n,[],mp,start,0,0,0,0⟩:PV) bg)),(4001,.mp bg (encMap encF mp)),(12,.box b12 (encF g).cells)]) (.same ⟨.refl _,.refl _,.refl _,.refl _,.refl _,.refl _,?_,trivial⟩ (SubHF.of ⟨rfl,Y⟩)) ?_
  ·show DLe (bif f 12 then _ else _) _
   rw [hf 12 (by decide +kernel)]; exact .refl _
  apply Sr;refine Cd (aget mp g.path).isSome rfl (fun hc4=>?_) (fun hc4=>?_)
  ·apply Sr;(conv=>whnf)
   have hN:openS (filesV n) start given=none:=openS_stop (i:=i+1) (by rw [hnx]; simp [openStep,hc3,hc4])
   rw [hN];refine Tri.retK [(9,Iv 1)] [] [] ⟨Z,rfl,trivial⟩ ?_;(conv=>whnf);exact ⟨.tup [.any,Iv 1],(show LeL [_,_] [_,_] from ⟨.any _,.refl _,trivial⟩),rfl⟩
  apply Sk;(conv=>whnf);refine Tri.drawTailX ti_ok 7 mixed (by kernel_rfl) ?_;apply Rl;apply Rl;apply Rl;(conv=>whnf);refine .inr (XOp.mpSet 4001 (kt:=9) (et:=53) (enc:=encF) (v:=g) rfl rfl rfl rfl rfl rfl ?_);apply Rg;refine Ir ?_;(conv=>whnf)
  exact ⟨⟨(i+1,aset mp g.path g),hia,by rw [hnx]; simp [openStep,hc3,hc4]⟩,[(4102,4102),(4001,4001)],by show given.length-(i+1)<given.length-i; omega,Z,rfl,Y⟩
 have hin:i=given.length:=by simp at hc2; omega
 subst hin;rw [List.take_length] at hop;rw [hop];refine Tri.exit ?_;apply Sr;(conv=>whnf);refine Tri.retK [(8,.box 4102 bp 0),(9,Iv 0)] [(4102,.box bp (planC (⟨m,filesV n,[],mp,start,0,0,0,0⟩:PV) bg)),(4001,.mp bg (encMap encF mp))] [(4102,4102),(4001,4001)] ⟨Z,rfl,Y⟩ ?_;(conv=>whnf);exact ⟨.tup [.box 4102 bp 0,Iv 0],(show LeL [_,_] [_,_] from Z),bp,bg,rfl,rfl⟩
abbrev planP (n:NV) (m:MV) (mp:List (List UInt8×FV)) (start:Int) (order:List (List UInt8)):PV:=⟨m,filesV n,order,mp,start,0,0,0,0⟩
def planQ (n:NV) (m:MV) (mp:List (List UInt8×FV)) (start:Int):PV:=planP n m mp start (placL (planP n m mp start []) (filesV n))
def countV (p:PV) (s u:Int×Int):Int×Int:=if (measV p s u).2=0 then ((fitV (measV p s u).1 4096).1.C,(fitV (measV p s u).1 4096).2) else (0,(measV p s u).2)
theorem _root_.Go.Tame.DCall.none2 {f:FuncId} {ds:List D} {Q:D→Heap→Prop} {H:Heap} {k1 s1 k2 s2:Nat} (h1:H s1=none) (h2:H s2=none) (hc:DCall Tryz.prog W0 f ds Heap.none Q):DCall Tryz.prog W0 f ds (handed H [(k1,s1),(k2,s2)]) Q:=by
 have e:handed H [(k1,s1),(k2,s2)]=Heap.none:=by
  funext j
  simp only [handed]
  cases Nat.beq j k1 with
  | true=>exact h1
  | false =>
   cases Nat.beq j k2 with
   | true=>exact h2
   | false=>rfl
 rw [e]; exact hc
theorem open_ok {n:NV} {m:MV} {given:List FV} {start:Int} {mp:List (List UInt8×FV)} (h:openV n m given start=some mp):0≤start∧start≤4096:=by
 unfold openV at h
 split at h
 ·cases h
 rename_i hc
 have hc:badO n m start=false:=by simpa using hc
 obtain ⟨h1,h2⟩:=bif2 hc;obtain ⟨h3,h4⟩:=bif2 h1
 have:=of_decide_eq_false h2; have:=of_decide_eq_false h4; omega
theorem measV_given (p:PV) (s u:Int×Int):(measV p s u).1.given=p.given:=by
 have h2:(meas2 p s).given=p.given:=by unfold meas2 meas1; split<;>rfl
 unfold measV
 split
 ·rfl
 split
 ·exact h2
 exact h2
theorem H20s (hL:LibOk W0) (n:NV) (m:MV) (given:List FV) (start:Int) (hn:Fits n) (hg:given.length<1000000) (hg1:∀ g∈given,g.len≤9223372036854775807) (hfil:(filesV n).length<1000000) (hmb:m.boot.length<1000000) (mp:List (List UInt8×FV)) (hO:openV n m given start=some mp) (s u:Int×Int) (hI:hasV m.views 0=true→DFun Tryz.prog W0 30 [encTop n,encO (optM m)] (.tup [Iv s.1,Iv s.2])) (hU:hasV m.views 3=true→DFun Tryz.prog W0 94 [encTop n,Iv m.udf] (.tup [Iv u.1,Iv u.2])) (hpl:(measV (planQ n m mp start) s u).2=0→Plan0 (measV (planQ n m mp start) s u).1):DFun Tryz.prog W0 20 [encTop n,encM m,.sl .none 3 (given.map encF),Iv start] (.tup [Iv (countV (planQ n m mp start) s u).1,Iv (countV (planQ n m mp start) s u).2]):=by
 refine Fi Tryz.func20 rfl Tryz.ntmps20 fun Γ=>?_
 have hst:=open_ok hO
 apply Sr;(conv=>whnf);intro b4;(conv=>whnf);intro b5;apply Sq;refine Tri.regionX ti_ok ?_;apply Il;apply Rl;apply Il;apply Rl;(conv=>whnf);refine .inr (XOp.call rfl [encTop n,encM m,.sl .none 3 (given.map encF),Iv start] [(4102,4102),(4001,4001)] (DCall.none2 rfl rfl (H57 hL n m given start hn hg hg1 hfil)) rfl Z ?_);rintro d H' hq;rw [hO] at hq;obtain ⟨bp,bg,rfl,rfl⟩:=hq;refine ⟨_,.refl _,?_⟩;apply Sq;apply Sr;refine Cd false rfl (fun hc=>?_) (fun hc=>?_)
 ·cases hc
 apply Sk;apply Sq;refine Tri.regionX ti_ok ?_;(conv=>whnf);refine .inr (XOp.call rfl [.box 4102 bp 0] [(4102,4102),(4001,4001)] (DCall.heapD2 rfl rfl (H60 (planP n m mp start []) hfil bp bg)) rfl Z ?_);rintro d H' ⟨rfl,rfl⟩;refine ⟨_,.refl _,?_⟩;apply Il;apply Rl;apply S2;refine Tri.regionX ti_ok ?_;apply Il;apply Rl;(conv=>whnf);refine .inr (XOp.call rfl [.box 4102 bp 0,encTop n] [(4102,4102)] (DCall.heap1 rfl (H61 (planQ n m mp start) n s u hst.1 hst.2 (show (0:Int)≤0 by decide) (show (0:Int)≤100 by decide) hmb hI hU bp bg)) rfl Z ?_);rintro d H' ⟨rfl,rfl⟩;refine ⟨_,.refl _,?_⟩;apply Sr;refine Cd ((measV (planQ n m mp start) s u).2 !=0) rfl (fun hc2=>?_) (fun hc2=>?_)
 ·apply Sr;apply Rt;(conv=>whnf)
  have hne:¬ (measV (planQ n m mp start) s u).2=0:=by simpa using hc2
  have hcv:countV (planQ n m mp start) s u=(0,(measV (planQ n m mp start) s u).2):=by rw [countV,if_neg hne]
  rw [hcv];exact Z
 apply Sk
 have he:(measV (planQ n m mp start) s u).2=0:=by simpa using hc2
 have hcv:countV (planQ n m mp start) s u=((fitV (measV (planQ n m mp start) s u).1 4096).1.C,(fitV (measV (planQ n m mp start) s u).1 4096).2):=by rw [countV,if_pos he]
 have hmg:(measV (planQ n m mp start) s u).1.given=mp:=measV_given _ _ _
 apply Sq;refine Tri.regionX ti_ok ?_;(conv=>whnf);refine .inr (XOp.call rfl [.box 4102 bp 0,Iv 4096] [(4102,4102),(4001,4001)] (DCall.heapD2 rfl (congrArg (fun q=>some (HObj.mp bg (encMap encF q))) hmg.symm) (H62 (measV (planQ n m mp start) s u).1 (hpl he) 4096 (by decide) (by decide) bp bg)) rfl Z ?_);rintro d H' ⟨rfl,b9,cs9,rfl⟩;refine ⟨_,.refl _,?_⟩;(conv=>whnf);intro b13;apply Il;apply Rl;apply Sr;apply Rl;apply Rt;(conv=>whnf);rw [hcv];exact Z
theorem H33 (a b:List (List UInt8)) (ha:a.length<1000000) (hb:b.length<1000000):DFun Tryz.prog W0 33 [.sl .none 1 (strs a),.sl .none 1 (strs b)] (.bool (a==b)):=by
 refine Fi Tryz.func33 rfl Tryz.ntmps33 fun Γ=>?_
 apply Sr;apply Sq;apply Sr;refine Cd _ rfl (fun hc=>?_) (fun hc=>?_)
 ·apply Sr;apply Rt;(conv=>whnf)
  exact DLe.of_eq (congrArg D.bool (Eq.symm (by
   rw [beq_eq_false_iff_ne]; intro e; subst e; simp at hc)))
 apply Sk
 have hlen:a.length=b.length:=by simp [strs] at hc; omega
 apply Sq;apply Sr;apply Bk;refine Tri.loop (α:={ i:Nat // i≤a.length∧a.take i=b.take i }) (fun x=>[(0,.sl .none 1 (strs a)),(1,.sl .none 1 (strs b)),(12,Iv (strs a).length),(13,Iv x.1)]) (fun _=>[]) (fun x=>a.length-x.1) ⟨0,by omega,rfl⟩ Z trivial ?_;rintro ⟨i,hi,hti⟩;dsimp only at hi hti ⊢;apply Sr;apply Sq;refine Cd (decide ((i:Int)<(strs a).length)) rfl (fun hc=>?_) (fun hc=>?_)
 ·apply Sk
  have hia:i<a.length:=by simpa [strs] using hc
  have hib:i<b.length:=by omega
  apply Sq;apply Bk;apply Sr;apply Sq;refine Tri.draw ti_ok mixed (by kernel_rfl) ?_;(conv=>whnf)
  refine ⟨fun _=>by simp [strs]; omega,?_⟩
  (conv=>whnf);refine ⟨.str a[i],fun _=>strs_get hia,?_⟩;(conv=>whnf)
  refine ⟨fun _=>by simp [strs]; omega,?_⟩
  (conv=>whnf);refine ⟨.str b[i],fun _=>strs_get hib,?_⟩;refine Cd (a[i]!=b[i]) rfl (fun hc=>?_) (fun hc=>?_)
  ·apply Sr;apply Rt;(conv=>whnf)
   exact DLe.of_eq (congrArg D.bool (Eq.symm (by
    rw [beq_eq_false_iff_ne]; intro e; subst e; simp at hc)))
  apply Sk;apply Rg;refine Ir ?_;(conv=>whnf)
  have hxy:a[i]=b[i]:=by simpa using hc
  exact ⟨⟨i+1,hia,by rw [List.take_succ_eq_append_getElem hia,List.take_succ_eq_append_getElem hib,hti,hxy]⟩,by show a.length-(i+1)<a.length-i; omega,Z,trivial⟩
 refine Tri.exit ?_;apply Sr;apply Rt;(conv=>whnf)
 exact DLe.of_eq (congrArg D.bool (Eq.symm (by
  have hin:i=a.length:=by simp [strs] at hc; omega
  rw [List.take_of_length_le (by omega),List.take_of_length_le (by omega)] at hti
  rw [hti]; simp)))
abbrev valF (l:List (List UInt8)):D:=.fn (.func 93) [] [.elm 1 [.sl .none 1 (strs l)] 0 0]
def planV (p:PV) (s u:Int×Int) (cap:Int):LV×Int:=if (measV p s u).2=0 then fitV (measV p s u).1 cap else (zL,(measV p s u).2)
theorem zL_le:DLe (.agg Z16) (encLay zL):=DLe.agg (a:=Z16) (a':=(encLay zL).cells) ⟨.refl _,.refl _,.refl _,.refl _,.refl _,.refl _,.refl _,.refl _,.refl _,.refl _,.refl _,DLe.nil,.refl _,.refl _,.refl _,DLe.nil,trivial⟩
theorem H19s (hL:LibOk W0) (n:NV) (m:MV) (order:List (List UInt8)) (given:List FV) (start cap:Int) (hn:Fits n) (hg:given.length<1000000) (hg1:∀ g∈given,g.len≤9223372036854775807) (hfil:(filesV n).length<1000000) (hmb:m.boot.length<1000000) (hol:order.length<1000000) (mp:List (List UInt8×FV)) (hO:openV n m given start=some mp) (hb1:¬ cap<start) (hb2:¬ 4096<cap) (s u:Int×Int) (hI:hasV m.views 0=true→DFun Tryz.prog W0 30 [encTop n,encO (optM m)] (.tup [Iv s.1,Iv s.2])) (hU:hasV m.views 3=true→DFun Tryz.prog W0 94 [encTop n,Iv m.udf] (.tup [Iv u.1,Iv u.2])) (hpl:(measV (planP n m mp start order) s u).2=0→Plan0 (measV (planP n m mp start order) s u).1) (o1 o2:List (List UInt8)) (hV:∀ l:List (List UInt8),DFun Tryz.prog W0 59 [.sl .none 1 (strs l)] (valF l)) (hS1:DFun Tryz.prog W0 58 [valF order] (.sl .none 1 (strs o1))) (hS2:DFun Tryz.prog W0 58 [valF (placL (planP n m mp start []) (filesV n))] (.sl .none 1 (strs o2))) (ho1:o1.length<1000000) (ho2:o2.length<1000000) (hso:(o1==o2)=true):DFun Tryz.prog W0 19 [encTop n,encM m,.sl .none 1 (strs order),.sl .none 3 (given.map encF),Iv start,Iv cap] (.tup [encLay (planV (planP n m mp start order) s u cap).1,Iv (planV (planP n m mp start order) s u cap).2]):=by
 refine Fi Tryz.func19 rfl Tryz.ntmps19 fun Γ=>?_
 have hst:=open_ok hO
 have hpl0:(placL (planP n m mp start []) (filesV n)).length<1000000:=by have:=placL_len (planP n m mp start []) (filesV n); omega
 apply Sr;(conv=>whnf);intro b6;(conv=>whnf);intro b7;(conv=>whnf);intro b12;apply Sq;refine Tri.regionX ti_ok ?_;apply Il;apply Rl;apply Il;apply Rl;(conv=>whnf);refine .inr (XOp.call rfl [encTop n,encM m,.sl .none 3 (given.map encF),Iv start] [(4102,4102),(4001,4001)] (DCall.none2 rfl rfl (H57 hL n m given start hn hg hg1 hfil)) rfl Z ?_);rintro d H' hq;rw [hO] at hq;obtain ⟨bp,bg,rfl,rfl⟩:=hq;refine ⟨_,.refl _,?_⟩;apply S2;refine Tri.regionH ti_ok ?_;(conv=>whnf);refine ⟨rfl,.inl ?_⟩;(conv=>whnf);refine ⟨rfl,.inl ?_⟩;(conv=>whnf);refine ⟨rfl,.inl ?_⟩;(conv=>whnf);refine ⟨rfl,_,_,rfl,rfl,.inl ⟨rfl,.inl ?_⟩⟩;(conv=>whnf);refine ⟨rfl,_,_,rfl,rfl,.inl ⟨rfl,.inl ?_⟩⟩;(conv=>whnf);refine ⟨rfl,_,_,rfl,rfl,.inl ⟨rfl,.inl ?_⟩⟩;(conv=>whnf);refine ⟨rfl,.inr (XOp.pickF rfl (rfl) ?_)⟩;(conv=>whnf);refine ⟨rfl,.inl ?_⟩;(conv=>whnf);refine ⟨rfl,_,_,rfl,rfl,.inl ⟨decide_eq_false hb1,.inl ?_⟩⟩;(conv=>whnf);refine ⟨rfl,_,_,rfl,rfl,.inl ⟨decide_eq_false hb1,.inl ?_⟩⟩;(conv=>whnf);refine ⟨rfl,.inr (XOp.pickF rfl (decide_eq_false hb1) ?_)⟩;(conv=>whnf);refine ⟨rfl,.inl ?_⟩;(conv=>whnf);refine ⟨rfl,_,_,rfl,rfl,.inl ⟨decide_eq_false hb2,.inl ?_⟩⟩;(conv=>whnf);refine ⟨rfl,_,_,rfl,rfl,.inl ⟨decide_eq_false hb2,.inl ?_⟩⟩;(conv=>whnf);refine ⟨[.sl .none 1 (strs order)],_,fun _=>hV order,Z,?_⟩;(conv=>whnf);refine ⟨rfl,_,_,rfl,rfl,.inl ⟨decide_eq_false hb2,.inl ?_⟩⟩;(conv=>whnf);refine ⟨[valF order],_,fun _=>hS1,Z,?_⟩;(conv=>whnf);refine ⟨rfl,_,_,rfl,rfl,.inl ⟨decide_eq_false hb2,.inl ?_⟩⟩;(conv=>whnf)
 refine ⟨rfl,_,_,rfl,rfl,.inl ⟨decide_eq_false hb2,.inr (XOp.call rfl [.box 4102 bp 0] [(4102,4102),(4001,4001)] (DCall.heapD2 rfl rfl (H60 (planP n m mp start []) hfil bp bg)) rfl Z ?_)⟩⟩;rintro d H' ⟨rfl,rfl⟩;refine ⟨_,.refl _,?_⟩;(conv=>whnf);refine ⟨rfl,_,_,rfl,rfl,.inl ⟨decide_eq_false hb2,.inl ?_⟩⟩;(conv=>whnf);refine ⟨[.sl .none 1 (strs (placL (planP n m mp start []) (filesV n)))],_,fun _=>hV _,Z,?_⟩;(conv=>whnf);refine ⟨rfl,_,_,rfl,rfl,.inl ⟨decide_eq_false hb2,.inl ?_⟩⟩;(conv=>whnf);refine ⟨[valF (placL (planP n m mp start []) (filesV n))],_,fun _=>hS2,Z,?_⟩;(conv=>whnf);refine ⟨rfl,_,_,rfl,rfl,.inl ⟨decide_eq_false hb2,.inl ?_⟩⟩;(conv=>whnf);refine ⟨[.sl .none 1 (strs o1),.sl .none 1 (strs o2)],_,fun _=>H33 _ _ ho1 ho2,Z,?_⟩;(conv=>whnf);refine ⟨rfl,_,_,rfl,rfl,.inl ⟨decide_eq_false hb2,.inl ?_⟩⟩;(conv=>whnf);refine ⟨rfl,.inr (XOp.pickF rfl (decide_eq_false hb2) ?_)⟩;refine Cd (!(o1==o2)) rfl (fun hc=>?_) (fun hc=>?_)
 ·rw [hso] at hc; cases hc
 apply Sk;apply Sr;apply Rl;apply S2;refine Tri.regionX ti_ok ?_;apply Il;apply Rl;(conv=>whnf);refine .inr (XOp.call rfl [.box 4102 bp 0,encTop n] [(4102,4102)] (DCall.heap1 rfl (H61 (planP n m mp start order) n s u hst.1 hst.2 (show (0:Int)≤0 by decide) (show (0:Int)≤100 by decide) hmb hI hU bp bg)) rfl Z ?_);rintro d H' ⟨rfl,rfl⟩;refine ⟨_,.refl _,?_⟩;apply Sr;refine Cd ((measV (planP n m mp start order) s u).2 !=0) rfl (fun hc2=>?_) (fun hc2=>?_)
 ·apply Sr;apply Rl;(conv=>whnf)
  have hne:¬ (measV (planP n m mp start order) s u).2=0:=by simpa using hc2
  have hcv:planV (planP n m mp start order) s u cap=(zL,(measV (planP n m mp start order) s u).2):=by rw [planV,if_neg hne]
  rw [hcv];apply Rt;apply Rl;(conv=>whnf);exact ⟨zL_le,.refl _,trivial⟩
 apply Sk
 have he:(measV (planP n m mp start order) s u).2=0:=by simpa using hc2
 have hcv:planV (planP n m mp start order) s u cap=fitV (measV (planP n m mp start order) s u).1 cap:=by rw [planV,if_pos he]
 have hmg:(measV (planP n m mp start order) s u).1.given=mp:=measV_given _ _ _
 rw [hcv];apply Sq;refine Tri.regionX ti_ok ?_;(conv=>whnf);refine .inr (XOp.call rfl [.box 4102 bp 0,Iv cap] [(4102,4102),(4001,4001)] (DCall.heapD2 rfl (congrArg (fun q=>some (HObj.mp bg (encMap encF q))) hmg.symm) (H62 (measV (planP n m mp start order) s u).1 (hpl he) cap (by omega) (by omega) bp bg)) rfl Z ?_);rintro d H' ⟨rfl,b9,cs9,rfl⟩;refine ⟨_,.refl _,?_⟩;apply Il;apply Rl;apply Rt;apply Rl;(conv=>whnf);exact Z
theorem getR_text (n:NV) (s:List UInt8):(getR n s).1.text.length≤sz n:=by
 unfold getR
 split
 ·have:=sz_eq n; show n.text.length≤_; omega
 split
 ·rename_i x hx
  have h1:=getN_sz _ _ _ hx
  have h2:=sz_eq x
  show x.text.length≤_; omega
 exact Nat.zero_le _
theorem filesV_data {n:NV}:∀ f∈filesV n,f.data.length≤sz n:=by
 intro f hf
 unfold filesV at hf
 obtain ⟨p,_,hp⟩:=List.mem_filterMap.1 hf
 unfold fileAt at hp
 split at hp
 ·cases hp; exact getR_text n p
 cases hp
theorem filesV_len (n:NV):(filesV n).length≤sz n:=by
 unfold filesV
 have h:=List.length_filterMap_le (fileAt n) (if valid n then pathsS n [] 1 else [])
 have h2:(if valid n then pathsS n [] 1 else []).length≤cnt n:=by
  split
  ·rw [pathsS_len]; exact Nat.le_refl _
  exact Nat.zero_le _
 have:=cnt_sz n
 omega
theorem openS_starts {fs:List PF} {start:Int}:∀ (l:List FV) (o:Option (List (List UInt8×FV))),(∀ mp,o=some mp→starts mp)→∀ mp,l.foldl (openStep fs start) o=some mp→starts mp
 | [],o,h,mp,hm=>h mp hm
 | g::l,o,h,mp,hm=>by
  refine openS_starts l (openStep fs start o g) (fun mq hq=>?_) mp hm
  cases o with
  | none=>cases hq
  | some m0 =>
   have hq:(if badG fs start g=true then none else if (aget m0 g.path).isSome=true then none else some (aset m0 g.path g))=some mq:=hq
   split at hq
   ·cases hq
   rename_i hb
   split at hq
   ·cases hq
   cases hq
   have hb:badG fs start g=false:=by simpa using hb
   have h1:=(bif2 (bif2 (bif2 hb).1).1).2
   have:=of_decide_eq_false h1
   exact starts_set (h m0 rfl) (by omega)
theorem open_starts {n:NV} {m:MV} {given:List FV} {start:Int} {mp:List (List UInt8×FV)} (h:openV n m given start=some mp):starts mp:=by
 unfold openV at h
 split at h
 ·cases h
 exact openS_starts given (some []) (fun mq hq=>by cases hq; exact starts_nil) mp h
theorem meas_plan {n:NV} {m:MV} {given:List FV} {start:Int} {mp:List (List UInt8×FV)} (hn:Fits n) (hO:openV n m given start=some mp) {order:List (List UInt8)} (ho:order.length≤100000) {s u:Int×Int}
  (hs:0≤s.1∧s.1≤1000000000) (hu:0≤u.1∧u.1≤1000000) (h0:(measV (planP n m mp start order) s u).2=0) (hsz:sz n<1000000):Plan0 (measV (planP n m mp start order) s u).1:=by
 have hst:=open_ok hO
 have hgs:=open_starts hO
 have hfl:=filesV_len n
 have hfd:∀ f∈filesV n,f.data.length≤100000000:=fun f hf=>by have:=filesV_data f hf; omega
 have hd:0≤descV (optM m)∧descV (optM m)≤100:=by unfold descV; split<;>split<;>omega
 unfold measV at h0 ⊢
 split at h0
 ·rename_i hc; exact absurd h0 hc.2
 rename_i hc
 rw [if_neg hc]
 unfold meas2 meas1
 unfold Plan0
 split<;>split<;>refine ⟨?_,?_,?_,?_,?_,?_,?_,?_,?_,?_,ho,by show (filesV n).length<_; omega,hfd,hgs⟩<;>first|(show (0:Int)≤0; decide)|(show (0:Int)≤1000000000; decide)|(show (0:Int)≤1000000; decide)|(show (0:Int)≤100; decide)|exact hst.1|exact hst.2|exact hs.1|exact hs.2|exact hu.1|exact hu.2|exact hd.1|exact hd.2|(show 0≤start+66+2; omega)|(show start+66+2≤(100000:Int); omega)|(show 0≤start+16+descV (optM m); omega)|(show start+16+descV (optM m)≤100000; omega)|(show 0≤start+16+(0:Int); omega)|(show start+16+(0:Int)≤100000; omega)
end Go.Tame.V

namespace Go.Tame.V
open Go Go.Proofs
variable {W0:World}
def pathsF (l:List PF):List (List UInt8):=l.map (·.path)
theorem pathsF_next {l:List PF} {i:Nat} (h:i<l.length):pathsF (l.take (i+1))=pathsF (l.take i)++[l[i].path]:=by
 rw [pathsF,List.take_succ_eq_append_getElem h,List.map_append]; rfl
theorem H28 (hL:LibOk W0) (n:NV) (hn:Fits n):DFun Tryz.prog W0 28 [encTop n] (.sl .none 1 (strs (pathsF (filesV n)))):=by
 refine Fi Tryz.func28 rfl Tryz.ntmps28 fun Γ=>?_
 apply Sr;(conv=>whnf);intro b1;apply Sr;apply Sq;apply Sr;apply Rl;(conv=>whnf);refine ⟨[encTop n],_,fun _=>H65 hL n hn,Z,?_⟩;(conv=>whnf)
 have hln:(filesV n).length<10000000:=by have:=filesV_len n; unfold Fits at hn; omega
 generalize filesV n=P at *;refine Tri.own 3 1000 1 9 rfl (fun w=>?_);apply Bk
 refine Tri.loopK (α:={ i:Nat // i≤P.length }×Value) (fun x=>[(3,.sl (.own 1000 x.2) 1 (strs (pathsF (P.take x.1.1)))),(7,.sl .none 2 (P.map encPF)),(8,Iv ((P.map encPF).length:Nat)),(9,Iv x.1.1)])
  (fun x=>[(1000,.own x.2 (strs (pathsF (P.take x.1.1))).length 1 9)]) (fun x=>P.length-x.1.1) (⟨0,by omega⟩,w) [(1000,1000)]
  ⟨Z,rfl,Y⟩ ?_
 rintro ⟨⟨i,hi⟩,w⟩;dsimp only at hi ⊢;apply Sr;apply Sq;refine Cd (decide ((i:Int)<((P.map encPF).length:Nat))) rfl (fun hc=>?_) (fun hc=>?_)
 ·apply Sk
  have hia:i<P.length:=by simpa using hc
  have hget:=pfs_get hia
  have hnx:=pathsF_next hia
  have hll:(strs (pathsF (P.take i))).length≤i:=by simp [strs,pathsF]; omega
  generalize pathsF (P.take i)=L at *;generalize P[i]=pf at *;apply Sq;apply Bk;apply Sr;(conv=>whnf)
  refine ⟨fun _=>by rw [List.length_map]; omega,?_⟩
  (conv=>whnf);refine ⟨encPF pf,fun _=>hget,?_⟩;(conv=>whnf);intro b5;apply Rl;apply Rg;apply Rl;(conv=>whnf);refine ⟨trivial,?_⟩;(conv=>whnf);refine ⟨rfl,rfl,?_⟩;(conv=>whnf)
  refine ⟨by show (_+1)*16≤_; omega,by show _+1≤_; omega,(fun h=>by cases h),fun w2=>?_⟩
  apply Rg;refine Ir ?_;(conv=>whnf)
  have he:strs L++[.str pf.path]=strs (pathsF (P.take (i+1))):=by rw [hnx]; simp [strs]
  exact ⟨(⟨i+1,hia⟩,w2),[(1000,17)],by show P.length-(i+1)<P.length-i; omega,⟨DLe.ownEq he,.refl _,.refl _,.refl _,trivial⟩,rfl,rfl,ownH (by rw [← he]; simp),trivial⟩
 have hin:i=P.length:=by simp at hc; omega
 subst hin;rw [List.take_length];refine Tri.exit ?_;apply Sr;apply Rt;(conv=>whnf);exact DLe.unown
deriving instance DecidableEq for FV
theorem H31 (a b:List FV) (ha:a.length<1000000) (hb:b.length<1000000):DFun Tryz.prog W0 31 [.sl .none 3 (a.map encF),.sl .none 3 (b.map encF)] (.bool (a==b)):=by
 refine Fi Tryz.func31 rfl Tryz.ntmps31 fun Γ=>?_
 apply Sr;apply Sq;apply Sr;refine Cd _ rfl (fun hc=>?_) (fun hc=>?_)
 ·apply Sr;apply Rt;(conv=>whnf)
  exact DLe.of_eq (congrArg D.bool (Eq.symm (by
   rw [beq_eq_false_iff_ne]; intro e; subst e; simp at hc)))
 apply Sk
 have hlen:a.length=b.length:=by simp at hc; omega
 apply Sq;apply Sr;apply Bk;refine Tri.loop (α:={ i:Nat // i≤a.length∧a.take i=b.take i }) (fun x=>[(0,.sl .none 3 (a.map encF)),(1,.sl .none 3 (b.map encF)),(12,Iv (a.map encF).length),(13,Iv x.1)]) (fun _=>[]) (fun x=>a.length-x.1) ⟨0,by omega,rfl⟩ Z trivial ?_;rintro ⟨i,hi,hti⟩;dsimp only at hi hti ⊢;apply Sr;apply Sq;refine Cd (decide ((i:Int)<(a.map encF).length)) rfl (fun hc=>?_) (fun hc=>?_)
 ·apply Sk
  have hia:i<a.length:=by simpa using hc
  have hib:i<b.length:=by omega
  apply Sq;apply Bk;apply Sr;apply Sq;refine Tri.draw ti_ok mixed (by kernel_rfl) ?_;(conv=>whnf);refine Sp ?_;(conv=>whnf);refine ⟨encF a[i],fun _=>encF_get hia,?_⟩;(conv=>whnf);refine Sp ?_;(conv=>whnf);refine ⟨encF b[i],fun _=>encF_get hib,?_⟩;refine Cd _ rfl (fun hc=>?_) (fun hc=>?_)
  ·apply Sr;apply Rt;(conv=>whnf)
   exact DLe.of_eq (congrArg D.bool (Eq.symm (by
    rw [beq_eq_false_iff_ne]; intro e; subst e; simp at hc)))
  apply Sk;apply Rg;refine Ir ?_;(conv=>whnf)
  have hxy:a[i]=b[i]:=by
   generalize a[i]=x at *; generalize b[i]=y at *
   obtain ⟨x1,x2,x3⟩:=x; obtain ⟨y1,y2,y3⟩:=y
   simp at hc; rw [hc.1,hc.2.1,hc.2.2]
  exact ⟨⟨i+1,hia,by rw [List.take_succ_eq_append_getElem hia,List.take_succ_eq_append_getElem hib,hti,hxy]⟩,by show a.length-(i+1)<a.length-i; omega,Z,trivial⟩
 refine Tri.exit ?_;apply Sr;apply Rt;(conv=>whnf)
 exact DLe.of_eq (congrArg D.bool (Eq.symm (by
  have hin:i=a.length:=by simp at hc; omega
  rw [List.take_of_length_le (by omega),List.take_of_length_le (by omega)] at hti
  rw [hti]; simp)))
theorem H22o (n:NV) (p d:List UInt8) (hd:d≠[]) (hF:DFun Tryz.prog W0 65 [encTop n] (.sl .none 2 [encPF ⟨p,d⟩])):DFun Tryz.prog W0 22 [encTop n] (.sl .none 1 []):=by
 refine Fi Tryz.func22 rfl Tryz.ntmps22 fun Γ=>?_
 apply Sr;(conv=>whnf);intro b1;apply Sq;refine Tri.regionX ti_ok ?_;(conv=>whnf);refine .inr (XOp.mpMake (fun bm=>?_));apply Sr;apply Rl;(conv=>whnf);refine ⟨[encTop n],_,fun _=>hF,Z,?_⟩;apply Sq;apply Sr;apply Bk
 refine Tri.loopK (α:=Bool×Value) (fun x=>[(3,.raw (.map (some bm))),(14,.sl .none 2 [encPF ⟨p,d⟩]),(15,Iv 1),(16,Iv (bif x.1 then 1 else 0)),(4,.sl .none 2 [encPF ⟨p,d⟩])])
   (fun x=>[(11,.mp bm (bif x.1 then [(D.str d,D.sl (.own 33 x.2) 1 [.str p])] else []))]) (fun x=>bif x.1 then 0 else 1) (false,Value.nilFunc) [(11,11)]
   ⟨Z,rfl,Y⟩ ?_
 rintro ⟨q,w⟩
 try dsimp only
 apply Sr;apply Sq;refine Cd (decide ((bif q then (1:Int) else 0)<1)) rfl (fun hc=>?_) (fun hc=>?_)
 ·apply Sk
  have hq:q=false:=by cases q<;>simp at hc ⊢
  subst hq;apply Sq;apply Bk;apply Sr;(conv=>whnf);refine Sp ?_;refine Lo (encPF ⟨p,d⟩) ?_;(conv=>whnf);intro b6;apply Rl;apply Sr;apply Rl;refine Cd (d !=[]) rfl (fun hc2=>?_) (fun hc2=>?_)
  ·refine Tri.ownNil 5000 1 9 ?_
   refine Tri.bitsG ti_ok mixed (α:=Value) (fun z f=>[(3,.raw (.map (some bm))),(6,.box 6 b6 0),(14,.sl .none 2 [encPF ⟨p,d⟩]),(15,Iv 1),(16,Iv 0),(4,.sl .none 2 [encPF ⟨p,d⟩]),(23,bif f 0 then .raw (.map (some bm)) else .any),(24,bif f 1 then .box 6 b6 1 else .any),(25,bif f 2 then .str d else .any),(26,bif f 3 then .raw (.map (some bm)) else .any),(27,bif f 4 then .box 6 b6 1 else .any),(28,bif f 5 then .str d else .any),(29,bif f 6 then .sl (.own 5000 (.slice none 0 0)) 1 [] else .any),(30,bif f 7 then .box 6 b6 0 else .any),(31,bif f 8 then .str p else .any),(32,bif f 9 then .sl .full 1 [.str p] else .any),(33,bif f 10 then .sl (.own 33 z) 1 ([.str p]) else .any)])
    (fun z f=>look ([(6,.box b6 [.str p,.str d])]++(bif f 11 then [(11,.mp bm [(.str d,.sl (.own 33 z) 1 [.str p])])] else [(11,.mp bm [])])++(bif f 10 then [] else [(5000,.own (.slice none 0 0) 0 1 9)])++(bif f 10 then [(33,.own z (1) 1 9)] else []))) (by decide +kernel) Value.nilFunc ?_ ?_ ?_ ?_
   ·exact ⟨.refl _,.refl _,.refl _,.refl _,.refl _,.refl _,.any _,.any _,.any _,.any _,.any _,.any _,.any _,.any _,.any _,.any _,.any _,trivial⟩
   ·exact SubHF.of (hs:=[(6,.box b6 [.str p,.str d]),(11,.mp bm []),(5000,.own (.slice none 0 0) 0 1 9)]) ⟨rfl,Y⟩
   ·(conv=>whnf);refine Qo ?_;refine Qo ?_;refine ⟨fun z f hI=>?_,?_⟩
    ·obtain ⟨f,rfl⟩:= hI.o f 11 2;apply Ti;apply Rl;(conv=>whnf);exact Ex z
    refine Qo ?_;refine Qo ?_;refine ⟨fun z f hI=>?_,?_⟩
    ·obtain ⟨f,rfl⟩:= hI.o f 10 6 (hI.n 6 5);obtain ⟨f,rfl⟩:= hI.o f 11 5;apply Ti;apply Rl;(conv=>whnf);exact Ex z
    refine ⟨fun z f hI=>?_,?_⟩
    ·obtain ⟨f,rfl⟩:= hI.o f 10 6;obtain ⟨f,rfl⟩:= hI.o f 11 6;apply Tk;refine XOp.mpMiss 11 (kt:=9) (et:=59) (k:=.str d) (z:=.sl (.own 5000 (.slice none 0 0)) 1 []) (zv:=.slice none 0 0) rfl rfl rfl rfl rfl rfl (by simp) rfl (fun w=>rfl) (fun w C=>.sl0 _ 1 none rfl) ?_;(conv=>whnf);exact Ex z
    refine Qo ?_;refine ⟨fun z f hI=>?_,?_⟩
    ·obtain ⟨f,rfl⟩:= hI.o f 10 9 (hI.n 9 8);obtain ⟨f,rfl⟩:= hI.o f 11 8;apply Ti;apply Rl;(conv=>whnf);exact Ex z
    refine ⟨fun z f hI=>?_,?_⟩
    ·obtain ⟨f,rfl⟩:= hI.o f 10 9;obtain ⟨f,rfl⟩:= hI.o f 11 9;apply Ti;(conv=>whnf);refine ⟨trivial,?_⟩;(conv=>whnf);exact Ex z
    refine ⟨fun z f hI=>?_,?_⟩
    ·obtain ⟨f,rfl⟩:= hI.o f 11 10;apply Ti;(conv=>whnf);refine ⟨rfl,rfl,?_⟩;(conv=>whnf);refine ⟨by simp,by simp,(fun h=>by cases h),fun pnv=>?_⟩;(conv=>whnf);exact Ex pnv (SubHF.of (hs:=[(6,.box b6 [.str p,.str d]),(11,.mp bm []),(33,.own pnv (1) 1 9)]) (by exact ⟨rfl,Y⟩))
    refine ⟨fun z f hI=>?_,?_⟩
    ·(conv=>whnf);apply Tk;refine XOp.mpPut 11 (kt:=9) (et:=59) (k:=.str d) rfl rfl rfl rfl rfl rfl (by simp) ?_;(conv=>whnf);exact Ex z (SubHF.of (hs:=[(6,.box b6 [.str p,.str d]),(11,.mp bm [(.str d,.sl (.own 33 z) 1 [.str p])]),(33,.own z (1) 1 9)]) (by exact ⟨rfl,Y⟩))
    exact trivial
   intro z f hfl;obtain ⟨f,rfl⟩:=onAll f 12 (by exact hfl);clear hfl;(conv=>whnf);refine Tri.forgetG [(3,.raw (.map (some bm))),(14,.sl .none 2 [encPF ⟨p,d⟩]),(15,Iv 1),(16,Iv 0),(4,.sl .none 2 [encPF ⟨p,d⟩])] (look [(11,.mp bm [(.str d,.sl (.own 33 z) 1 [.str p])])]) (.same (by exact Z) (SubHF.of (hs:=[(11,.mp bm [(.str d,.sl (.own 33 z) 1 [.str p])])]) (by exact ⟨rfl,trivial⟩))) ?_;(conv=>whnf);skip;apply Rg;refine Ir ?_;(conv=>whnf);exact ⟨(true,z),[(11,11)],Nat.zero_lt_one,Z,rfl,Y⟩
  exact absurd hc2 (by simpa using hd)
 have hq:q=true:=by cases q<;>simp at hc ⊢
 subst hq;refine Tri.exit ?_;apply Sr;apply Sq;apply Sr;apply Bk
 refine Tri.loopK (α:=Bool) (fun x=>[(3,.raw (.map (some bm))),(7,.nils),(35,.sl .none 2 [encPF ⟨p,d⟩]),(36,Iv 1),(37,Iv (bif x then 1 else 0))])
  (fun x=>[(11,.mp bm [(D.str d,D.sl (.own 33 w) 1 [.str p])])]) (fun x=>bif x then 0 else 1) false [(11,11)]
  ⟨Z,rfl,Y⟩ ?_
 rintro q
 try dsimp only
 apply Sr;apply Sq;refine Cd (decide ((bif q then (1:Int) else 0)<1)) rfl (fun hc=>?_) (fun hc=>?_)
 ·apply Sk
  have hq:q=false:=by cases q<;>simp at hc ⊢
  subst hq;apply Sq;apply Bk;apply Sr;(conv=>whnf);refine Sp ?_;refine Lo (encPF ⟨p,d⟩) ?_;(conv=>whnf);intro b9;apply Rl;apply Sq;refine Tri.regionX ti_ok ?_;apply Il;apply Rl;(conv=>whnf);refine .inr (XOp.mpHit 11 (kt:=9) (et:=59) (k:=.str d) (d:=.sl (.own 33 w) 1 [.str p]) rfl rfl rfl rfl rfl rfl (by simp [keyD]) (by simp [mget,keyEq]) ?_);apply Sq;refine Tri.draw ti_ok mixed (by kernel_rfl) ?_;apply Hh;(conv=>whnf);refine ⟨fun h=>by simp at h,?_⟩;apply Hh;(conv=>whnf);refine ⟨.str p,fun h=>rfl,?_⟩;apply Hh;apply Rl;apply Hh;apply Hh;refine Pk ?_;refine Cd _ rfl (fun hc2=>?_) (fun hc2=>?_)
  ·exact absurd hc2 (by simp)
  apply Sk;apply Rg;refine Ir ?_;(conv=>whnf);exact ⟨true,[(11,11)],Nat.zero_lt_one,Z,rfl,Y⟩
 have hq:q=true:=by cases q<;>simp at hc ⊢
 subst hq;refine Tri.exit ?_;apply Sr;apply Rt;(conv=>whnf);exact DLe.nil
structure IsoForm (m:List UInt8) (dir:Bool) (A B:List UInt8):Prop where
 a:isDB A 8=true
 na:(46:UInt8)∉A
 nb:(46:UInt8)∉B
 eq:(B=[]∧m=A)∨(B≠[]∧dir=false∧isDB B 3=true∧m=A++46::B)
theorem IsoForm.name {m A B:List UInt8} {dir:Bool} (h:IsoForm m dir A B):IsoName m dir:=isoName_of h.a h.na h.nb h.eq
theorem IsoForm.file {m A B:List UInt8} {dir:Bool} (h:IsoForm m dir A B):IsoForm m false A B:=⟨h.a,h.na,h.nb,by
 rcases h.eq with h|⟨h1,h2,h3,h4⟩
 ·exact .inl h
 exact .inr ⟨h1,rfl,h3,h4⟩⟩
theorem isDB_len {s:List UInt8} {m:Int} (h:isDB s m=true):(s.length:Int)≤m:=by
 simp [isDB] at h; exact h.2.1
theorem IsoForm.len {m A B:List UInt8} {dir:Bool} (h:IsoForm m dir A B):m.length≤12:=by
 have:=isDB_len h.a
 rcases h.eq with ⟨_,rfl⟩|⟨_,_,h3,rfl⟩
 ·omega
 have:=isDB_len h3; simp; omega
theorem made_form {s:List UInt8} (hs:nameOk s=true) (dir:Bool) {k:Nat} (hk:k<100):∃ A B,IsoForm (numS 0 (wantS 0 s dir).1 (wantS 0 s dir).2 k) dir A B:=by
 obtain ⟨l,e,h0,h1⟩:=made_shape (.inl rfl) hs dir hk;obtain ⟨a,b,h⟩:=h0 rfl;rw [e]
 have hd46:dU 46=false:=by decide
 refine ⟨runesB a,runesB b,iso_isDB (m:=8) h.ca h.a1 h.a8 (by decide),iso_no h.ca hd46,iso_no h.cb hd46,?_⟩
 have hq:=h.eq
 by_cases hb:b=[]
 ·rw [if_pos hb] at hq
  exact .inl ⟨by rw [hb]; rfl,by rw [hq]⟩
 rw [if_neg hb] at hq;refine .inr ⟨fun e=>hb (runesB_nil.1 e),?_,iso_isDB (m:=3) h.cb ?_ h.b3 (by decide),?_⟩
 ·cases dir with
  | false=>rfl
  | true=>exact absurd (h.dir rfl) hb
 ·cases b with
  | nil=>exact absurd rfl hb
  | cons x r=>simp
 rw [hq,runesB_append,runesB_cons,enc_ascii 46 (by decide) (by decide)]; rfl
theorem names_form {ks:List NV} (h64:ks.length≤64) (h:∀ k∈ks,nameOk k.name=true) {i:Nat} (hi:i<ks.length):∃ A B,IsoForm ((namesG 0 ks)[i]'(by rw [namesG_len]; exact hi)) (ks[i].kind==0) A B:=by
 rw [namesG_at hi]
 obtain ⟨j,hj,e⟩:=pick_numS (.inl rfl) (usedG 0 (ks.take i)) ks[i] (by rw [usedG_len,List.length_take]; omega)
 rw [e];exact made_form (h _ (List.getElem_mem hi)) _ hj
theorem rr_dec (i:Nat):[82,82,95,77,79,86]++Lib.decDigits (i+1)=rrN (i+1):=by rw [rrN,if_neg (by omega)]
theorem dig_len:∀ k,k<100→(Lib.decDigits k).length≤2:=by decide +kernel
theorem G92 (hL:LibOk W0) (kids:List NV) (h64:kids.length≤64) (hok:∀ k∈kids,nameOk k.name=true∧k.name.length<1000000000) (hinc:inc kids):DFun Tryz.prog W0 228 [.sl .none 12 (kids.map enc)] (.str (rrN (rrK (namesG 0 kids)))):=by
 obtain ⟨r1,r2,r3⟩:=rr_ok (U:=namesG 0 kids) (by rw [namesG_len]; exact h64)
 have hU:=namesG_len 0 kids
 refine Fi Tryz.func228 rfl Tryz.ntmps228 fun Γ=>?_
 apply Sr;apply Sr;(conv=>whnf);refine ⟨[Iv 0,.sl .none 12 (kids.map enc)],_,fun _=>((namesGok hL (v:=0) (by decide)).call kids h64 hinc hok).1,Z,?_⟩;apply Sq;refine Tri.regionX ti_ok ?_;(conv=>whnf);refine .inr (XOp.makeMap fun mb=>?_);apply Sq;apply Sr;apply Bk;refine Tri.loopK (α:={ i:Nat // i≤kids.length }×List (List UInt8)) (fun x=>[(5,.raw (.map (some mb))),(16,.sl .none 1 (strs (namesG 0 kids))),(17,Iv (strs (namesG 0 kids)).length),(18,Iv x.1.1)]) (fun x=>[(15,.set mb ((namesG 0 kids).take x.1.1).reverse)]) (fun x=>kids.length-x.1.1) (⟨0,Nat.zero_le _⟩,[]) [(15,15)] ⟨Z,rfl,Y⟩ ?_;rintro ⟨⟨i,hi⟩,_⟩;dsimp only;apply Sr;apply Sq;refine Cd (decide ((i:Int)<(strs (namesG 0 kids)).length)) rfl (fun hc=>?_) (fun hc=>?_)
 ·apply Sk;(conv=>whnf)
  have hia:i<kids.length:=by simpa [strs,hU] using hc
  have hiu:i<(namesG 0 kids).length:=by omega
  apply Sq;apply Bk;apply Sr;(conv=>whnf)
  refine ⟨fun _=>by simp [strs]; omega,?_⟩
  (conv=>whnf);refine ⟨.str (namesG 0 kids)[i],fun _=>by simp [strs,hiu],?_⟩;(conv=>whnf);refine Tri.regionX ti_ok ?_;(conv=>whnf);refine .inr (XOp.setUpdate 15 (kt:=9) (et:=4) rfl rfl rfl rfl rfl rfl ?_);apply Rg;refine Ir ?_;(conv=>whnf)
  exact ⟨(⟨i+1,hia⟩,[]),[(15,15)],by show _-(i+1)<_-i; omega,Z,rfl,rfl,congrArg (fun z=>some (HObj.set mb z)) (by rw [List.take_succ_eq_append_getElem hiu,List.reverse_append]; rfl),trivial⟩
 refine Tri.exit ?_;(conv=>whnf)
 have hin:i=kids.length:=by simp [strs,hU] at hc; omega
 have hall:(namesG 0 kids).take i=namesG 0 kids:=List.take_of_length_le (by omega)
 rw [hall];apply Sr;apply Sq;apply Sr;apply Bk;refine Tri.loopK (α:={ i:Nat // i≤rrK (namesG 0 kids) }) (fun x=>[(5,.raw (.map (some mb))),(8,.str (rrN x.1)),(9,Iv ((x.1:Int)+1))]) (fun x=>[(15,.set mb (namesG 0 kids).reverse)]) (fun x=>rrK (namesG 0 kids)-x.1) ⟨0,Nat.zero_le _⟩ [(15,15)] ⟨Z,rfl,Y⟩ ?_;rintro ⟨i,hi⟩;dsimp only;apply S2;refine Tri.regionX ti_ok ?_;(conv=>whnf);refine .inr (XOp.setLookup 15 (kt:=9) (et:=4) rfl rfl (fun w=>rfl) rfl rfl rfl ?_);refine Cd _ rfl (fun hc=>?_) (fun hc=>?_)
 ·apply Sk;(conv=>whnf)
  have hm:rrN i∈namesG 0 kids:=by simpa using hc
  have hia:i<rrK (namesG 0 kids):=by
   rcases Nat.lt_or_ge i (rrK (namesG 0 kids)) with h|h
   ·exact h
   have:i=rrK (namesG 0 kids):=by omega
   subst this; exact absurd hm r2
  have hdl:=dig_len (i+1) (by omega)
  apply Sq;apply Bk;apply Rg;(conv=>whnf);refine ⟨[Iv ((i+1:Nat):Int)],_,fun _=>F143 (i+1) (by omega),Z,?_⟩;(conv=>whnf);refine Sp ?_;apply Rg;refine Ir ?_;(conv=>whnf)
  exact ⟨⟨i+1,hia⟩,[(15,15)],by show _-(i+1)<_-i; omega,⟨.refl _,DLe.of_eq (congrArg D.str (rr_dec i)),.refl _,trivial⟩,rfl,Y⟩
 refine Tri.exit ?_;apply Sr;apply Rt;(conv=>whnf)
 have hm:rrN i∉namesG 0 kids:=by simpa using hc
 have:i=rrK (namesG 0 kids):=by
  rcases Nat.lt_or_ge i (rrK (namesG 0 kids)) with h|h
  ·exact absurd (r3 i h) hm
  omega
 subst this; exact .refl _
theorem G91 (i:Int) (s:Nat) (hi:-1≤i∧i<1000000) (hs:s≤1):DFun Tryz.prog W0 227 [Iv i,.elm 1 [Iv (s:Int)] 0 0] (Iv (if i≤0 then i else i+s)):=by
 refine Fi Tryz.func227 rfl Tryz.ntmps227 fun Γ=>?_
 apply Sr;apply Sq;apply Sr;refine Cd _ rfl (fun hc=>?_) (fun hc=>?_)
 ·apply Sr;apply Rt;(conv=>whnf)
  have h0:i≤0:=by simpa using hc
  rw [if_pos h0]; exact .refl _
 apply Sk;apply Sr;refine Lo (Iv (s:Int)) ?_;refine Ir ?_;apply Rt;(conv=>whnf)
 have h0:¬ i≤0:=by simpa using hc
 rw [if_neg h0]; exact .refl _
theorem spL_next (x:RXS):∀ {ks:List NV} {ms:List (List UInt8)} {i:Nat} (h:i<ks.length) (h':i<ms.length) (c:Cn),
  spL (ks.take (i+1)) (ms.take (i+1)) x c=spL (ks.take i) (ms.take i) x c++(if (child x ks[i] ms[i] (c.addL (spL (ks.take i) (ms.take i) x c))).any then child x ks[i] ms[i] (c.addL (spL (ks.take i) (ms.take i) x c))::spT ks[i] (child x ks[i] ms[i] (c.addL (spL (ks.take i) (ms.take i) x c))) ((c.addL (spL (ks.take i) (ms.take i) x c)).add (child x ks[i] ms[i] (c.addL (spL (ks.take i) (ms.take i) x c)))) else [])
 | k::r,m::ms,0,_,_,c=>by
  simp only [List.take_succ_cons,List.take_zero,spL,Cn.addL_nil,List.getElem_cons_zero,List.append_nil,List.nil_append]
 | k::r,m::ms,i+1,h,h',c=>by
  have hi:i<r.length:=by simpa using h
  have hm:i<ms.length:=by simpa using h'
  simp only [List.take_succ_cons,spL,List.getElem_cons_succ]
  by_cases ha:(child x k m c).any=true
  ·rw [if_pos ha,if_pos ha]
   have ih:=spL_next x hi hm ((c.add (child x k m c)).addL (spT k (child x k m c) (c.add (child x k m c))))
   have e:c.addL (child x k m c::(spT k (child x k m c) (c.add (child x k m c))++spL (r.take i) (ms.take i) x ((c.add (child x k m c)).addL (spT k (child x k m c) (c.add (child x k m c))))))=((c.add (child x k m c)).addL (spT k (child x k m c) (c.add (child x k m c)))).addL (spL (r.take i) (ms.take i) x ((c.add (child x k m c)).addL (spT k (child x k m c) (c.add (child x k m c))))):=by
    rw [Cn.addL_cons,Cn.addL_append]
   rw [e,ih,List.cons_append,List.append_assoc]
  rw [if_neg ha,if_neg ha];exact spL_next x hi hm c
mutual
theorem spT_len:∀ (n:NV) (x:RXS) (c:Cn),(spT n x c).length+1≤cnt n
 | .mk _ _ _ _ _ _ _ _ _ _ ks _,x,c=>by
  have:=spL_len ks (namesG 0 ks) x c
  simp only [spT,cnt]; omega
theorem spL_len:∀ (ks:List NV) (ms:List (List UInt8)) (x:RXS) (c:Cn),(spL ks ms x c).length≤cntL ks
 | [],_,_,_=>by simp [spL]
 | k::r,[],_,_=>by simp [spL]
 | k::r,m::ms,x,c=>by
  simp only [spL,cntL]
  split
  ·have h1:=spT_len k (child x k m c) (c.add (child x k m c))
   have h2:=spL_len r ms x ((c.add (child x k m c)).addL (spT k (child x k m c) (c.add (child x k m c))))
   simp only [List.length_cons,List.length_append]; omega
  have:=spL_len r ms x c; omega
end
theorem kid_cnt:∀ {ks:List NV} {i:Nat} (h:i<ks.length),cntL (ks.take i)+cnt ks[i]≤cntL ks
 | k::r,0,_=>by simp [cntL]
 | k::r,i+1,h=>by have:=kid_cnt (ks:=r) (i:=i) (by simpa using h); simp only [List.take_succ_cons,cntL,List.getElem_cons_succ]; omega
mutual
def okD:NV→Prop
 | .mk _ kd _ _ _ _ _ _ _ _ ks _=>(kd≠0→ks=[])∧okDL ks
def okDL:List NV→Prop
 | []=>True
 | k::r=>okD k∧okDL r
end
theorem okD_eq (n:NV):okD n↔(n.kind≠0→n.kids=[])∧okDL n.kids:=by cases n; simp only [okD]
theorem okDL_get:∀ {l:List NV} (_:okDL l) {k:NV} (_:k∈l),okD k
 | x::r,h,k,hk=>by
  simp only [okDL] at h
  rcases List.mem_cons.1 hk with rfl|hk
  ·exact h.1
  exact okDL_get h.2 hk
structure StepOk (l:List RXS) (s:RXS) (p:RXS):Prop where
 si:s.si=l.length
 ab:s.ab<l.length
 par:l[s.ab]? = some p
 dir:p.isDir=true
 fi:s.fi=p.di
 any:s.any=true
 iso:s.iso=true→p.iso=true
 rock:s.rock=true→p.rock=true
 lv:s.lv=p.lv+1
 path:s.path=below p.path s.n.name (p.lv+1)
 kid:s.n∈p.n.kids
 lev:s.lev=if s.isDir then (if p.lev+1=9 then 3 else p.lev+1) else 0
 mv:s.mv=(s.isDir&&p.lev+1==9)
 di:s.di=(dirsX l).length
 mno:s.mno=(movX l).length+1
inductive Built (rr:Bool) (n:NV):List RXS→Prop
 | root (h0:n.kind=0):Built rr n [rootX rr n]
 | snoc {l:List RXS} {s p:RXS} (h:Built rr n l) (hs:StepOk l s p):Built rr n (l++[s])
theorem filter_snoc {α:Type} (f:α→Bool) (l:List α) (s:α):((l++[s]).filter f).length=if f s then (l.filter f).length+1 else (l.filter f).length:=by
 rw [List.filter_append,List.length_append]
 cases h:f s<;>simp [h]
def CnOk (c:Cn) (l:List RXS):Prop:=c.ns=l.length∧c.nf=(dirsX l).length∧c.nm=(movX l).length
theorem CnOk.add {c:Cn} {l:List RXS} (h:CnOk c l) (s:RXS):CnOk (c.add s) (l++[s]):=by
 obtain ⟨h1,h2,h3⟩:=h;refine ⟨by simp [Cn.add,h1],?_,?_⟩
 ·simp only [Cn.add,dirsX,filter_snoc]; split<;>simp [h2,dirsX]
 simp only [Cn.add,movX,filter_snoc]; split<;>simp [h3,movX]
theorem CnOk.addL:∀ {m:List RXS} {c:Cn} {l:List RXS} (h:CnOk c l),CnOk (c.addL m) (l++m)
 | [],c,l,h=>by rw [List.append_nil]; exact h
 | s::r,c,l,h=>by
  have:=(h.add s).addL (m:=r)
  rw [List.append_assoc,List.singleton_append] at this;exact this
theorem child_step {l:List RXS} {x:RXS} {k:NV} {m:List UInt8} {c:Cn} (hx:l[x.si]? = some x) (hd:x.isDir=true) (hc:CnOk c l) (hk:k∈x.n.kids) (ha:(child x k m c).any=true):StepOk l (child x k m c) x:=by
 obtain ⟨h1,h2,h3⟩:=hc
 have hlt:x.si<l.length:=by
  rcases Nat.lt_or_ge x.si l.length with h|h
  ·exact h
  rw [List.getElem?_eq_none h] at hx; cases hx
 refine ⟨h1,hlt,hx,hd,rfl,ha,fun h=>?_,fun h=>?_,rfl,rfl,hk,rfl,rfl,h2,by show c.nm+1=_; rw [h3]⟩
 ·simp only [child,Bool.and_eq_true] at h; exact h.1
 simp only [child,Bool.and_eq_true] at h; exact h.1
mutual
theorem built_T (rr:Bool) (r0:NV):∀ (n:NV) (x:RXS) (c:Cn) (l:List RXS),Built rr r0 l→x.n=n→okD n→l[x.si]? = some x→CnOk c l→Built rr r0 (l++spT n x c)
 | .mk nm kd t tg a1 a2 a3 a4 a5 a6 ks ss,x,c,l,hb,hxn,hok,hx,hc=>by
  simp only [spT]
  have hok':=(okD_eq _).1 hok
  by_cases hd:kd=0
  ·refine built_L rr r0 ks (namesG 0 ks) x c l hb (by rw [RXS.isDir,hxn,hd]; rfl) (fun k hk=>?_) hok'.2 hx hc
   rw [hxn]; exact hk
  have:ks=[]:=hok'.1 hd
  subst this
  simpa [spL] using hb
theorem built_L (rr:Bool) (r0:NV):∀ (ks:List NV) (ms:List (List UInt8)) (x:RXS) (c:Cn) (l:List RXS),Built rr r0 l→x.isDir=true→(∀ k∈ks,k∈x.n.kids)→okDL ks→l[x.si]? = some x→CnOk c l→Built rr r0 (l++spL ks ms x c)
 | [],_,x,c,l,hb,_,_,_,_,_=>by simpa [spL] using hb
 | k::r,[],x,c,l,hb,_,_,_,_,_=>by simpa [spL] using hb
 | k::r,m::ms,x,c,l,hb,hd,hks,hok,hx,hc=>by
  simp only [okDL] at hok;simp only [spL]
  split
  ·rename_i ha
   have hst:=child_step (m:=m) hx hd hc (hks k List.mem_cons_self) ha
   have hb1:=hb.snoc hst
   have hc1:=hc.add (child x k m c)
   have hx1:(l++[child x k m c])[(child x k m c).si]? = some (child x k m c):=by
    rw [hst.si]; simp
   have hb2:=built_T rr r0 k (child x k m c) (c.add (child x k m c)) (l++[child x k m c]) hb1 rfl hok.1 hx1 hc1
   have hc2:=hc1.addL (m:=spT k (child x k m c) (c.add (child x k m c)))
   have hlt:x.si<l.length:=by
    rcases Nat.lt_or_ge x.si l.length with h|h
    ·exact h
    rw [List.getElem?_eq_none h] at hx; cases hx
   have hx2:(l++[child x k m c]++spT k (child x k m c) (c.add (child x k m c)))[x.si]? = some x:=by
    rw [List.append_assoc,List.getElem?_append_left hlt]; exact hx
   have hb3:=built_L rr r0 r ms x _ _ hb2 hd (fun k' hk'=>hks k' (List.mem_cons_of_mem _ hk')) hok.2 hx2 hc2
   simpa using hb3
  exact built_L rr r0 r ms x c l hb hd (fun k' hk'=>hks k' (List.mem_cons_of_mem _ hk')) hok.2 hx hc
end
theorem built_spots (rr:Bool) {n:NV} (hok:okD n) (h0:n.kind=0):Built rr n (spots rr n):=by
 have:=built_T rr n n (rootX rr n) ⟨1,1,0⟩ [rootX rr n] (.root h0) rfl hok rfl (by
  refine ⟨rfl,?_,?_⟩
  ·simp [dirsX,RXS.isDir,rootX,h0]
  simp [movX,rootX])
 exact this
theorem Built.root0 {rr:Bool} {n:NV} {l:List RXS} (h:Built rr n l):l[0]? = some (rootX rr n)∧0<l.length:=by
 induction h with
 | root h0=>exact ⟨rfl,by simp⟩
 | snoc h hs ih=>exact ⟨by rw [List.getElem?_append_left ih.2]; exact ih.1,by simp⟩
theorem Built.kind {rr:Bool} {n:NV} {l:List RXS} (h:Built rr n l):n.kind=0:=by
 induction h with
 | root h0=>exact h0
 | snoc h hs ih=>exact ih
theorem Built.at {rr:Bool} {n:NV} {l:List RXS} (h:Built rr n l):∀ {i:Nat} {s:RXS},0<i→l[i]? = some s→∃ p,StepOk (l.take i) s p:=by
 induction h with
 | root h0=>intro i s hi hs; rw [List.getElem?_eq_none (by simp; omega)] at hs; cases hs
 | @snoc l s p h hst ih =>
  intro i t hi ht
  rcases Nat.lt_or_ge i l.length with hl|hl
  ·rw [List.getElem?_append_left hl] at ht;rw [List.take_append_of_le_length (by omega)];exact ih hi ht
  rcases Nat.lt_or_ge l.length i with hg|hg
  ·rw [List.getElem?_eq_none (by simp; omega)] at ht; cases ht
  have:i=l.length:=by omega
  subst this;rw [List.getElem?_concat_length] at ht
  cases ht
  rw [List.take_append_of_le_length (Nat.le_refl _),List.take_length];exact ⟨p,hst⟩
theorem Built.si {rr:Bool} {n:NV} {l:List RXS} (h:Built rr n l) {i:Nat} {s:RXS} (hs:l[i]? = some s):s.si=i:=by
 rcases Nat.eq_zero_or_pos i with rfl|hi
 ·rw [h.root0.1] at hs; cases hs; rfl
 obtain ⟨p,hst⟩:=h.at hi hs
 have hlt:i<l.length:=by
  rcases Nat.lt_or_ge i l.length with h|h
  ·exact h
  rw [List.getElem?_eq_none h] at hs; cases hs
 rw [hst.si,List.length_take]; omega
theorem Built.lev {rr:Bool} {n:NV} {l:List RXS} (hb:Built rr n l):∀ (i:Nat) (s:RXS),l[i]? = some s→0≤s.lev∧s.lev≤8∧(s.isDir=true→1≤s.lev)∧(s.isDir=false→s.lev=0∧s.mv=false):=by
 intro i
 induction i using Nat.strongRecOn with
 | _ i ih =>
  intro s hs
  rcases Nat.eq_zero_or_pos i with rfl|hi
  ·rw [hb.root0.1] at hs; cases hs
   have hk:=hb.kind
   refine ⟨by show (0:Int)≤1; decide,by show (1:Int)≤8; decide,fun _=>by show (1:Int)≤1; decide,fun h=>?_⟩
   rw [RXS.isDir,rootX,hk] at h; cases h
  obtain ⟨p,hst⟩:=hb.at hi hs
  have hlt:=hst.ab
  rw [List.length_take] at hlt
  have hp:l[s.ab]? = some p:=by
   have:=hst.par
   rwa [List.getElem?_take,if_pos (by omega)] at this
  obtain ⟨h1,h2,h3,h4⟩:=ih s.ab (by omega) p hp
  have hl:=hst.lev
  have hm:=hst.mv
  have h5:=h3 hst.dir
  cases hd:s.isDir with
  | true =>
   rw [hd,if_pos rfl] at hl
   split at hl<;>exact ⟨by omega,by omega,fun _=>by omega,fun h=>(by cases h)⟩
  | false =>
   rw [hd] at hl hm;rw [if_neg (by decide)] at hl
   exact ⟨by omega,by omega,fun h=>(by cases h),fun _=>⟨hl,by rw [hm]; rfl⟩⟩
section
variable {α:Type} {f:α→D} {z:D} {L:List α} {i:Nat}
end
theorem take_nxt {α:Type} {T:List α} {t:Nat} {s:α} (h:T[t]? = some s):T.take (t+1)=T.take t++[s]:=by
 obtain ⟨hl,rfl⟩:=List.getElem?_eq_some_iff.1 h;exact List.take_succ_eq_append_getElem hl
def preR (sh:Nat) (rn:List UInt8) (k:Nat):List EntV:=if k=0∧sh≠0 then [⟨[47],rn,0,1,true,false,false⟩] else []
theorem Built.dis {rr:Bool} {n:NV} {l:List RXS} (h:Built rr n l):∀ (j:Nat) (s:RXS),(dirsX l)[j]? = some s→s.di=j:=by
 induction h with
 | root h0 =>
  intro j s hs
  have e:dirsX [rootX rr n]=[rootX rr n]:=by simp [dirsX,RXS.isDir,rootX,h0]
  rw [e] at hs
  cases j with
  | zero=>cases hs; rfl
  | succ j=>cases hs
 | @snoc l t p h hst ih =>
  intro j s hs
  cases hd:t.isDir with
  | false =>
   have e:dirsX (l++[t])=dirsX l:=by rw [dirsX,List.filter_append]; simp [dirsX,hd]
   rw [e] at hs; exact ih j s hs
  | true =>
   have e:dirsX (l++[t])=dirsX l++[t]:=by rw [dirsX,List.filter_append]; simp [dirsX,hd]
   rw [e] at hs
   rcases Nat.lt_or_ge j (dirsX l).length with hj|hj
   ·rw [List.getElem?_append_left hj] at hs; exact ih j s hs
   rcases Nat.lt_or_ge (dirsX l).length j with hg|hg
   ·rw [List.getElem?_eq_none (by simp; omega)] at hs; cases hs
   have:j=(dirsX l).length:=by omega
   subst this;rw [List.getElem?_concat_length] at hs
   cases hs; exact hst.di
theorem recsAt_len (s:Nat) (T:List RXS) (i:Nat):(recsAt s T i).length=(T.filter fun x=>x.fi==i).length:=by rw [recsAt,List.length_map]
theorem filter_take_le {α:Type} (f:α→Bool) (l:List α) (t:Nat):((l.take t).filter f).length≤(l.filter f).length:=((List.take_sublist t l).filter f).length_le
mutual
theorem good_okD:∀ (n:NV) (l:Int),goodB n l=true→okD n
 | .mk a b c d e f g h i j ks ss,l,hg=>by
  obtain ⟨h1,h2⟩:=goodB_good hg;simp only [okD];exact ⟨h1.dir,good_okDL ks (l+1) h2⟩
theorem good_okDL:∀ (ks:List NV) (l:Int),goodL ks l=true→okDL ks
 | [],l,hg=>trivial
 | k::r,l,hg=>by
  simp only [goodL,Bool.and_eq_true] at hg;simp only [okDL];exact ⟨good_okD k l hg.1,good_okDL r l hg.2⟩
end
theorem valid_okD {n:NV} (h:valid n=true):okD n∧n.kind=0:=by
 rw [valid_good,Bool.and_eq_true] at h
 exact ⟨good_okD n 1 h.2,(goodB_good (l:=1) (by cases n; exact h.2)).1.kind1 rfl⟩
def fdC (s:RXS):List D:=[.str s.path,.str (if s.si=0 then [0] else if s.mv then 68::Lib.decDigits s.mno else s.id),Iv s.lev,Iv (if s.mv then -1 else (s.fi:Int)),Iv (s.fi:Int),.bool s.mv]
def recC (s:RXS):List D:=[.str s.path,.str (if s.mv then s.file else s.id),Iv 0,Iv (-1),.bool (!s.iso),.bool s.rock,.bool s.mv,Iv (if s.isDir then (s.di:Int) else -1)]
def recD (s:RXS):D:=.agg (recC s)
def inF (l:List RXS) (i:Nat):List RXS:=(l.drop 1).filter fun x=>x.fi==i
def recsD (l:List RXS) (i:Nat):List D:=(inF l i).map recD
def folD (vs:Nat→Value) (lr:List RXS) (i:Nat) (s:RXS):D:=.agg (fdC s++[.sl (.own 0 (vs i)) 8 (recsD lr i)])
def folsG (vs:Nat→Value) (ld lr:List RXS):List D:=(dirsX ld).mapIdx fun i s=>folD vs lr i s
def movD (l:List RXS):List D:=(movX l).map fun s=>Iv (s.di:Int)
def dynG (vs:Nat→Value) (ld lr:List RXS):Heap:=fun k=>if 300≤k∧k<300+(dirsX ld).length then some (.own (vs (k-300)) (recsD lr (k-300)).length 8 310) else none
def walkFn (bf bm bw:Nat):D:=.fn (.func 224) [] [.box 200 bf 0,.box 201 bm 0,.box 202 bw 0]
def statG (bf bm bw:Nat) (fv mv:Value) (fs ms:List D):List (Nat×HObj) :=
 [(200,.box bf [.raw fv]),(201,.box bm [.sl (.own 204 mv) 1 ms]),(202,.box bw [walkFn bf bm bw]),(203,.row fv fs 7 305),(204,.own mv ms.length 1 3)]
def walkH (bf bm bw:Nat) (fv mv:Value) (vs:Nat→Value) (ld lr:List RXS):Heap:=withL (statG bf bm bw fv mv (folsG vs ld lr) (movD ld)) (dynG vs ld lr)
theorem folsG_len (vs:Nat→Value) (ld lr:List RXS):(folsG vs ld lr).length=(dirsX ld).length:=by simp [folsG]
theorem folsG_get {vs:Nat→Value} {ld lr:List RXS} {i:Nat} {s:RXS} (h:(dirsX ld)[i]? = some s):(folsG vs ld lr)[i]? = some (folD vs lr i s):=by
 rw [folsG,List.getElem?_mapIdx,h]; rfl
theorem dyn_at {vs:Nat→Value} {ld lr:List RXS} {i:Nat} (h:i<(dirsX ld).length):dynG vs ld lr (i+300)=some (.own (vs i) (recsD lr i).length 8 310):=by
 rw [dynG,if_pos (by omega),Nat.add_sub_cancel]
theorem dyn_inv {vs:Nat→Value} {ld lr:List RXS} {k:Nat} {o:HObj} (h:dynG vs ld lr k=some o):∃ i,k=i+300∧i<(dirsX ld).length∧o=.own (vs i) (recsD lr i).length 8 310:=by
 unfold dynG at h
 split at h
 ·rename_i h1
  refine ⟨k-300,by omega,by omega,?_⟩;exact (Option.some.inj h).symm
 cases h
theorem stat_none {bf bm bw:Nat} {fv mv:Value} {fs ms:List D} {k:Nat} (h:k<200∨300≤k):look (statG bf bm bw fv mv fs ms) k=none:=by
 refine look_none fun p hp=>?_
 simp only [statG,List.mem_cons,List.mem_nil_iff,or_false] at hp
 rcases hp with rfl|rfl|rfl|rfl|rfl<;>simp<;>omega
theorem walk_low {bf bm bw:Nat} {fv mv:Value} {vs:Nat→Value} {ld lr:List RXS} {k:Nat} (h:k<200):walkH bf bm bw fv mv vs ld lr k=none:=by
 rw [walkH,withL_none (stat_none (.inl h)),dynG,if_neg (by omega)]
def vsNew (vs:Nat→Value) (i:Nat) (v:Value):Nat→Value:=fun j=>if j=i then v else vs j
theorem vsNew_at (vs:Nat→Value) (i:Nat) (v:Value):vsNew vs i v i=v:=if_pos rfl
theorem vsNew_ne {vs:Nat→Value} {i j:Nat} {v:Value} (h:j≠i):vsNew vs i v j=vs j:=if_neg h
theorem dirsX_snoc {l:List RXS} {s:RXS} (h:s.isDir=true):dirsX (l++[s])=dirsX l++[s]:=by rw [dirsX,List.filter_append]; simp [dirsX,h]
theorem dirsX_file {l:List RXS} {s:RXS} (h:s.isDir=false):dirsX (l++[s])=dirsX l:=by rw [dirsX,List.filter_append]; simp [dirsX,h]
theorem movX_snoc {l:List RXS} {s:RXS} (h:s.mv=true):movX (l++[s])=movX l++[s]:=by rw [movX,List.filter_append]; simp [movX,h]
theorem movX_stay {l:List RXS} {s:RXS} (h:s.mv=false):movX (l++[s])=movX l:=by rw [movX,List.filter_append]; simp [movX,h]
theorem inF_none {l:List RXS} {i:Nat} (h:∀ x∈l,x.fi<i):recsD l i=[]:=by
 rw [recsD,inF,List.filter_eq_nil_iff.2]
 ·rfl
 intro x hx
 have:=h x (List.mem_of_mem_drop hx)
 simp; omega
theorem recs_add {l:List RXS} {s:RXS} (h0:0<l.length) (i:Nat):recsD (l++[s]) i=if s.fi=i then recsD l i++[recD s] else recsD l i:=by
 rw [recsD,recsD,inF,inF,List.drop_append_of_le_length (by omega),List.filter_append]
 by_cases h:s.fi=i<;>simp [h]
theorem fols_new {vs:Nat→Value} {l lr:List RXS} {s:RXS} {v:Value} (h:s.isDir=true) (hr:recsD lr (dirsX l).length=[]) :
  folsG vs l lr++[.agg (fdC s++[.sl (.own 0 v) 8 []])]=folsG (vsNew vs (dirsX l).length v) (l++[s]) lr:=by
 apply List.ext_getElem?;intro i
 rcases Nat.lt_or_ge i (dirsX l).length with hi|hi
 ·rw [List.getElem?_append_left (by rw [folsG_len]; exact hi),folsG,folsG,List.getElem?_mapIdx,List.getElem?_mapIdx,dirsX_snoc h,List.getElem?_append_left hi,List.getElem?_eq_getElem hi]
  simp only [Option.map_some,folD,vsNew_ne (show i≠(dirsX l).length by omega)]
 rcases Nat.lt_or_ge (dirsX l).length i with hg|hg
 ·rw [List.getElem?_eq_none (by simp [folsG_len]; omega),List.getElem?_eq_none (by rw [folsG_len,dirsX_snoc h]; simp; omega)]
 have:i=(dirsX l).length:=by omega
 subst this
 have e:(folsG vs l lr).length=(dirsX l).length:=folsG_len _ _ _
 rw [List.getElem?_append_right (by omega),e,Nat.sub_self,folsG_get (s:=s) (by rw [dirsX_snoc h,List.getElem?_concat_length])];simp only [List.getElem?_cons_zero,folD,vsNew_at,hr]
theorem flat_app (a b:List D):flat (a++b)=flat a++flat b:=by simp [flat]
theorem folsG_cells {vs:Nat→Value} {ld lr:List RXS}:∀ y∈folsG vs ld lr,y.cells.length=7:=fun y hy=>by
 obtain ⟨i,hi⟩:=List.mem_iff_getElem?.1 hy;rw [folsG,List.getElem?_mapIdx] at hi
 cases h:(dirsX ld)[i]? with
 | none=>rw [h] at hi; cases hi
 | some s=>rw [h] at hi; cases hi; rfl
theorem Built.folder {rr:Bool} {n:NV} {l:List RXS} (hb:Built rr n l) {s:RXS} (hs:l[s.si]? = some s) (hd:s.isDir=true):(dirsX l)[s.di]? = some s∧s.di<(dirsX l).length:=by
 obtain ⟨j,hj⟩:=List.mem_iff_getElem?.1 (List.mem_filter.2 ⟨List.mem_of_getElem? hs,hd⟩:s∈dirsX l)
 have:=hb.dis j s hj
 subst this;refine ⟨hj,?_⟩
 rcases Nat.lt_or_ge s.di (dirsX l).length with h|h
 ·exact h
 exact absurd ((List.getElem?_eq_none h).symm.trans hj) (by simp)
theorem Built.lv {rr:Bool} {n:NV} {l:List RXS} (hb:Built rr n l):∀ (i:Nat) (s:RXS),l[i]? = some s→1≤s.lv∧(i=0→s.lv=1)∧(0<i→2≤s.lv)∧(0<i→s.isDir=true→0<s.di):=by
 intro i
 induction i using Nat.strongRecOn with
 | _ i ih =>
  intro s hs
  rcases Nat.eq_zero_or_pos i with rfl|hi
  ·rw [hb.root0.1] at hs; cases hs
   exact ⟨Int.le_refl _,fun _=>rfl,fun h=>by omega,fun h=>by omega⟩
  obtain ⟨p,hst⟩:=hb.at hi hs
  have hlt:=hst.ab
  rw [List.length_take] at hlt
  have hp:l[s.ab]? = some p:=by
   have:=hst.par
   rwa [List.getElem?_take,if_pos (by omega)] at this
  obtain ⟨h1,_,_,_⟩:=ih s.ab (by omega) p hp
  have hl:=hst.lv
  refine ⟨by omega,fun h=>by omega,fun _=>by omega,fun _ hd=>?_⟩;rw [hst.di]
  have h0:=hb.root0.1
  have hk:=hb.kind
  have:rootX rr n∈l.take i:=by
   have:=List.mem_of_getElem? (l:=l.take i) (i:=0) (a:=rootX rr n) (by rw [List.getElem?_take,if_pos hi]; exact h0)
   exact this
  exact List.length_pos_of_mem (List.mem_filter.2 ⟨this,by rw [RXS.isDir,rootX,hk]; rfl⟩)
theorem Built.fi_lt {rr:Bool} {n:NV} {l:List RXS} (hb:Built rr n l):∀ x∈l,x.fi<(dirsX l).length:=fun x hx=>by
 obtain ⟨i,hi⟩:=List.mem_iff_getElem?.1 hx
 rcases Nat.eq_zero_or_pos i with rfl|h0
 ·rw [hb.root0.1] at hi
  cases hi
  have:=hb.kind
  exact List.length_pos_of_mem (List.mem_filter.2 ⟨List.mem_of_getElem? hb.root0.1,by rw [RXS.isDir,rootX,this]; rfl⟩)
 obtain ⟨p,hst⟩:=hb.at h0 hi
 have hlt:=hst.ab
 rw [List.length_take] at hlt
 have hp:l[x.ab]? = some p:=by
  have:=hst.par
  rwa [List.getElem?_take,if_pos (by omega)] at this
 rw [hst.fi]
 have hps:=hb.si hp
 exact (hb.folder (by rw [hps]; exact hp) hst.dir).2
theorem fols_lt {b:Bool} {i k:Nat} {d:D} {xs:List D} (h:k<xs.length):(k:Int)<((bif b then xs.set i d else xs).length:Int):=by
 cases b<;>simp only [cond_true,cond_false,List.length_set]<;>exact Int.ofNat_lt.2 h
theorem fols_lt' {b:Bool} {i k:Nat} {d:D} {xs:List D} (h:k<xs.length):k<(bif b then xs.set i d else xs).length:=by
 cases b<;>simp only [cond_true,cond_false,List.length_set]<;>exact h
theorem withL_hi {L:List (Nat×HObj)} {dyn:Heap} (hL:(L.all fun p=>Nat.blt p.1 300)=true) {k:Nat} (hk:300≤k):withL L dyn k=dyn k :=
 withL_none (look_none fun p hp=>by
  have:=List.all_eq_true.1 hL p hp
  have:p.1<300:=by simpa using this
  omega)
def dynX (d:Nat) (dyn:Heap):Heap:=fun k=>if k=d+300 then none else dyn k
theorem dynX_inv {d:Nat} {vs:Nat→Value} {ld lr:List RXS} {k:Nat} {o:HObj} (h:dynX d (dynG vs ld lr) k=some o):k≠d+300∧300≤k∧dynG vs ld lr k=some o:=by
 unfold dynX at h
 split at h
 ·cases h
 rename_i h1
 obtain ⟨i,rfl,_,_⟩:=dyn_inv h;exact ⟨h1,by omega,h⟩
theorem dyn_ge {vs:Nat→Value} {ld lr:List RXS} {k:Nat} {o:HObj} (h:dynG vs ld lr k=some o):300≤k:=by
 obtain ⟨i,rfl,_,_⟩:=dyn_inv h; omega
theorem fols_le {vs:Nat→Value} {l:List RXS} {s x:RXS} {v:Value} (hxf:(dirsX (l++[s]))[x.di]? = some x) (hsf:s.fi=x.di) (hl0:0<l.length) :
  ∀ (i:Nat) (a b:D),((folsG vs (l++[s]) l).set x.di (.agg (setAt (fdC x++[.sl (.own 0 (vs x.di)) 8 (recsD l x.di)]) 6 (.sl (.own 148 v) 8 (recsD l x.di++[recD s])))))[i]? = some a →
   (folsG (vsNew vs x.di v) (l++[s]) (l++[s]))[i]? = some b→LeL a.cells b.cells:=fun i a b ha hb=>by
 have hlt:x.di<(dirsX (l++[s])).length:=by
  rcases Nat.lt_or_ge x.di (dirsX (l++[s])).length with h|h
  ·exact h
  rw [List.getElem?_eq_none h] at hxf; cases hxf
 by_cases hi:x.di=i
 ·subst hi
  rw [List.getElem?_set_self (by rw [folsG_len]; exact hlt)] at ha
  rw [folsG_get hxf] at hb
  cases ha; cases hb
  simp only [folD,vsNew_at,recs_add hl0,if_pos hsf];exact ⟨.refl _,.refl _,.refl _,.refl _,.refl _,.refl _,DLe.own _ _,trivial⟩
 rw [List.getElem?_set_ne hi] at ha;rw [folsG,List.getElem?_mapIdx] at ha hb
 cases h:(dirsX (l++[s]))[i]? with
 | none=>rw [h] at ha; cases ha
 | some y =>
  rw [h] at ha hb
  cases ha; cases hb
  simp only [folD,vsNew_ne (show i≠x.di from fun e=>hi e.symm),recs_add hl0,if_neg (show ¬ s.fi=i by omega)];exact LeL.refl _
theorem key_inj {H:Heap} {d:Nat} (h148:H 148=none):∀ k k' o o',H k=some o→H k'=some o'→(if k=d+300 then 148 else k)=(if k'=d+300 then 148 else k')→k=k':=fun k k' o o' h h' e=>by
 by_cases h1:k=d+300<;>by_cases h2:k'=d+300
 ·omega
 ·rw [if_pos h1,if_neg h2] at e; rw [← e,h148] at h'; cases h'
 ·rw [if_neg h1,if_pos h2] at e; rw [e,h148] at h; cases h
 rw [if_neg h1,if_neg h2] at e; exact e
theorem key_at {σ:DSt} {L:List (Nat×HObj)} {vs:Nat→Value} {l:List RXS} {s x:RXS} {v:Value} (hL:(L.all fun p=>Nat.blt p.1 300)=true) (hS:SubH σ L) (hv:σ.H 148=some (.own v ((recsD l x.di).length+1) 8 310))
  (hd:∀ k o,dynX x.di (dynG vs (l++[s]) l) k=some o→σ.H k=some o) (hsf:s.fi=x.di) (hl0:0<l.length) :
  ∀ k o,withL L (dynG (vsNew vs x.di v) (l++[s]) (l++[s])) k=some o→σ.H (if k=x.di+300 then 148 else k)=some o:=fun k o h=>by
 unfold withL at h
 cases hl:look L k with
 | some o' =>
  rw [hl] at h; cases h
  have hk:k<300:=by
   rcases Nat.lt_or_ge k 300 with h1|h1
   ·exact h1
   have:look L k=none:=look_none fun p hp=>by
    have:=List.all_eq_true.1 hL p hp
    have:p.1<300:=by simpa using this
    omega
   rw [this] at hl; cases hl
  rw [if_neg (by omega)];exact hS.look k _ hl
 | none =>
  rw [hl] at h;obtain ⟨i,rfl,hi,rfl⟩:=dyn_inv h
  by_cases hii:i=x.di
  ·subst hii
   rw [if_pos rfl,hv,vsNew_at,recs_add hl0,if_pos hsf]; simp
  rw [if_neg (by omega)];refine hd _ _ ?_;rw [dynX,if_neg (by omega),dyn_at hi,vsNew_ne hii,recs_add hl0,if_neg (by omega)]
def walkKeys:Keys:=Keys.same fun k=>Nat.ble 200 k
theorem handed_walk {H:Heap} {bf bm bw:Nat} {fv mv:Value} {vs:Nat→Value} {ld lr:List RXS} (h:∀ k,200≤k→H k=walkH bf bm bw fv mv vs ld lr k):handedG H walkKeys=walkH bf bm bw fv mv vs ld lr:=by
 funext k
 unfold handedG walkKeys Keys.same
 cases hk:Nat.ble 200 k with
 | true=>simp only [hk,cond_true]; exact h k (Nat.le_of_ble_eq_true hk)
 | false =>
  simp only [hk,cond_false]
  have:k<200:=by
   rcases Nat.lt_or_ge k 200 with h1|h1
   ·exact h1
   rw [Nat.ble_eq_true_of_le h1] at hk; cases hk
  exact (walk_low this).symm
theorem back_walk {H H':Heap} {k:Nat} (hk:200≤k):backG H H' walkKeys k=H' k:=by
 unfold backG walkKeys Keys.same
 simp only [Nat.ble_eq_true_of_le hk,cond_true]
theorem walk_ge {bf bm bw:Nat} {fv mv:Value} {vs:Nat→Value} {ld lr:List RXS} {k:Nat} {o:HObj} (h:walkH bf bm bw fv mv vs ld lr k=some o):200≤k:=by
 rcases Nat.lt_or_ge k 200 with h1|h1
 ·rw [walk_low h1] at h; cases h
 exact h1
theorem withL_two {a b:Nat×HObj} {L:List (Nat×HObj)} {dyn:Heap} {k:Nat} (ha:a.1<200) (hb:b.1<200) (hk:200≤k):withL (a::b::L) dyn k=withL L dyn k:=by
 obtain ⟨i,o⟩:=a;obtain ⟨j,o'⟩:=b
 have h1:Nat.beq k i=false:=by
  cases h:Nat.beq k i with
  | false=>rfl
  | true=>have:=Nat.eq_of_beq_eq_true h; simp at ha; omega
 have h2:Nat.beq k j=false:=by
  cases h:Nat.beq k j with
  | false=>rfl
  | true=>have:=Nat.eq_of_beq_eq_true h; simp at hb; omega
 unfold withL
 simp only [look,h1,h2,cond_false]
theorem recC_file {s:RXS} (hd:s.isDir=false) (hm:s.mv=false):recC s=[.str s.path,.str s.id,Iv 0,Iv (-1),.bool (!s.iso),.bool s.rock,.bool false,Iv (-1)]:=by
 rw [recC,hd,hm]; rfl
theorem recC_dir {s:RXS} (hd:s.isDir=true) (hm:s.mv=false):recC s=[.str s.path,.str s.id,Iv 0,Iv (-1),.bool (!s.iso),.bool s.rock,.bool false,Iv (s.di:Int)]:=by
 rw [recC,hd,hm]; rfl
theorem recC_mv {s:RXS} (hd:s.isDir=true) (hm:s.mv=true):recC s=[.str s.path,.str s.file,Iv 0,Iv (-1),.bool (!s.iso),.bool s.rock,.bool true,Iv (s.di:Int)]:=by
 rw [recC,hd,hm]; rfl
theorem fdC_dir {s:RXS} (hs:s.si≠0) (hm:s.mv=false):fdC s=[.str s.path,.str s.id,Iv s.lev,Iv (s.fi:Int),Iv (s.fi:Int),.bool false]:=by
 rw [fdC,if_neg hs,hm]; rfl
theorem fdC_mv {s:RXS} (hs:s.si≠0) (hm:s.mv=true):fdC s=[.str s.path,.str (68::Lib.decDigits s.mno),Iv s.lev,Iv (-1),Iv (s.fi:Int),.bool true]:=by
 rw [fdC,if_neg hs,hm]; rfl
theorem fols_file {vs:Nat→Value} {l lr:List RXS} {s:RXS} (h:s.isDir=false):folsG vs (l++[s]) lr=folsG vs l lr:=by rw [folsG,folsG,dirsX_file h]
theorem dyn_file {vs:Nat→Value} {l lr:List RXS} {s:RXS} (h:s.isDir=false):dynG vs (l++[s]) lr=dynG vs l lr:=by
 funext k; rw [dynG,dynG,dirsX_file h]
theorem dyn_new {vs:Nat→Value} {l lr:List RXS} {s:RXS} {v:Value} (h:s.isDir=true) {k:Nat} {o:HObj} (hk:dynG (vsNew vs (dirsX l).length v) (l++[s]) lr k=some o) :
  (k=(dirsX l).length+300∧o=.own v (recsD lr (dirsX l).length).length 8 310)∨(k≠(dirsX l).length+300∧dynG vs l lr k=some o):=by
 obtain ⟨i,rfl,hi,rfl⟩:=dyn_inv hk;rw [dirsX_snoc h,List.length_append] at hi
 by_cases e:i=(dirsX l).length
 ·subst e; rw [vsNew_at]; exact .inl ⟨rfl,rfl⟩
 rw [vsNew_ne e,dyn_at (by simp at hi; omega)]; exact .inr ⟨by omega,rfl⟩
theorem lookup_mem:∀ {m:List (Nat×Nat)} {k s:Nat},keysOk m=true→(k,s)∈m→m.lookup k=some s
 | (a,b)::r,k,s,hm,h=>by
  rcases List.mem_cons.1 h with e|h'
  ·cases e; simp [List.lookup]
  have h1:=keysOk_spec hm a b k s List.mem_cons_self h
  have hr:keysOk r=true:=by
   simp only [keysOk,Bool.and_eq_true] at hm; exact hm.2
  have hne:(k==a)=false:=by
   rw [beq_eq_false_iff_ne];intro e
   have h2:=h1.1 e.symm
   simp only [keysOk,Bool.and_eq_true,List.all_eq_true,Bool.not_eq_true'] at hm
   have h3:=(hm.1 (k,s) h').1
   rw [e,Nat.beq_refl] at h3; cases h3
  rw [List.lookup,hne];exact lookup_mem hr h'
theorem SubG.ofM {σ:DSt} {l:List (Nat×D)} {L:List (Nat×HObj)} {dyn:Heap} {m:List (Nat×Nat)} (h1:SubT σ l) (ok:keysOk m=true) (hM:SubM σ m L) (hm:(m.all fun p=>Nat.blt p.1 300&&Nat.blt p.2 300)=true)
  (hd:∀ k o,dyn k=some o→300≤k∧σ.H k=some o):SubG σ l (withL L dyn):=by
 have hlt:∀ k s,(k,s)∈m→k<300∧s<300:=fun k s h=>by
  have:=List.all_eq_true.1 hm _ h
  simpa using this
 have key:∀ k o,withL L dyn k=some o→(∃ s,(k,s)∈m∧σ.H s=some o)∨(300≤k∧σ.H k=some o):=fun k o h=>by
  unfold withL at h
  cases hl:look L k with
  | some o'=>rw [hl] at h; cases h; exact .inl (hM.look k _ hl)
  | none=>rw [hl] at h; exact .inr (hd k o h)
 refine ⟨h1,fun k=>if 300≤k then k else (m.lookup k).getD 0,fun k k' o o' h h' e=>?_,fun k o h=>?_⟩
 ·dsimp only at e
  rcases key k o h with ⟨s,hs,_⟩|⟨h2,_⟩<;>rcases key k' o' h' with ⟨s',hs',_⟩|⟨h2',_⟩
  ·have h3:=(hlt k s hs).1
   have h3':=(hlt k' s' hs').1
   rw [if_neg (by omega),if_neg (by omega),lookup_mem ok hs,lookup_mem ok hs'] at e;exact (keysOk_spec ok k s k' s' hs hs').2 e
  ·have h3:=hlt k s hs
   rw [if_neg (by omega),if_pos h2',lookup_mem ok hs] at e
   simp at e; omega
  ·have h3:=hlt k' s' hs'
   rw [if_pos h2,if_neg (by omega),lookup_mem ok hs'] at e
   simp at e; omega
  rw [if_pos h2,if_pos h2'] at e; exact e
 dsimp only
 rcases key k o h with ⟨s,hs,h3⟩|⟨h2,h3⟩
 ·have h4:=(hlt k s hs).1
  rw [if_neg (by omega),lookup_mem ok hs]; exact h3
 rw [if_pos h2]; exact h3
theorem Tri.ghost {nt:Nat} {Γ:Ctx Tryz.prog W0 nt} {σ:DSt} {K:DExit→DSt→Prop} {c:Code} {α:Type} (l:α→List (Nat×D)) (H:α→Heap) (h:∀ z,Tri Γ c (StG (l z) (H z)) K) (g:(∀ z,Tri Γ c (StG (l z) (H z)) K)→Tri Γ c σ K):Tri Γ c σ K:=g h
theorem DCall.walk {f:FuncId} {ds:List D} {Q:D→Heap→Prop} {H:Heap} {bf bm bw:Nat} {fv mv:Value} {vs:Nat→Value} {ld lr:List RXS} (h:∀ k,200≤k→H k=walkH bf bm bw fv mv vs ld lr k) (hc:DCall Tryz.prog W0 f ds (walkH bf bm bw fv mv vs ld lr) Q):DCall Tryz.prog W0 f ds (handedG H walkKeys) Q:=by
 rw [handed_walk h]; exact hc
theorem okDL_of:∀ {l:List NV},(∀ k∈l,okD k)→okDL l
 | [],_=>trivial
 | k::r,h=>⟨h k List.mem_cons_self,okDL_of fun x hx=>h x (List.mem_cons_of_mem _ hx)⟩
theorem identI_len (m:List UInt8) (b:Bool):(identI m b).1.length≤m.length+3:=by
 unfold identI
 split
 ·split
  ·simp
  split<;>simp
 simp
theorem G89 (hL:LibOk W0) (rr:Bool) (n0:NV):∀ (N:Nat) (n:NV),sz n<N→okT n→okD n→∀ (x:RXS) (c:Cn) (l0:List RXS) (bf bm bw:Nat) (fv mv:Value) (vs:Nat→Value),x.n=n→Built rr n0 l0→l0[x.si]? = some x→x.isDir=true→CnOk c l0→l0.length+cnt n<100→x.path.length+1200*sz n<1000000000→x.lv+sz n<1000000000→DCall Tryz.prog W0 224 [encTop n,Iv (x.di:Int),Iv x.lv,.bool x.iso,.bool x.rock,.box 200 bf 0,.box 201 bm 0,.box 202 bw 0] (walkH bf bm bw fv mv vs l0 l0) fun d H'=>d=.tup []∧∃ fv' mv' vs',H'=walkH bf bm bw fv' mv' vs' (l0++spT n x c) (l0++spT n x c):=by
 refine fun N=>Nat.rec (fun n h=>absurd h (Nat.not_lt_zero _)) (fun N ih n hN hok hokd x c l0 bf bm bw fv mv vs hxn hb hx hxd hc0 hlen hpl hlv=>?_) N
 obtain ⟨h64,_,hinc,hokl⟩:=(okT_eq n).1 hok
 have hokd2:=((okD_eq n).1 hokd).2
 have hnk:∀ k∈n.kids,nameOk k.name=true∧k.name.length<1000000000:=fun k hk=>(okL_get hokl hk).1
 have hnl:=namesG_len 0 n.kids
 have hcnt:=cnt_eq n
 obtain ⟨hlv1,_⟩:=hb.lv _ _ hx
 have hxl0:x.si<l0.length:=by
  rcases Nat.lt_or_ge x.si l0.length with h|h
  ·exact h
  rw [List.getElem?_eq_none h] at hx; cases hx
 have h0eq:l0++spL (n.kids.take 0) ((namesG 0 n.kids).take 0) x c=l0:=by simp [spL]
 refine DCall.intro ti_ok Tryz.func224 rfl (by decide +kernel) Tryz.ntmps224 rfl fun Γ=>?_
 apply Sr;(conv=>whnf);intro b8;apply Sr;apply Rl;(conv=>whnf);refine ⟨[Iv 0,.sl .none 12 (n.kids.map enc)],_,fun _=>((namesGok hL (v:=0) (by decide)).call n.kids h64 hinc hnk).1,Z,?_⟩;apply Sr;apply Rl;apply Bk
 refine Tri.loopG (α:={ i:Nat // i≤n.kids.length }×Value×Value×(Nat→Value)) (fun z=>[(1,Iv (x.di:Int)),(2,Iv x.lv),(3,.bool x.iso),(4,.bool x.rock),(5,.box 200 bf 0),(6,.box 201 bm 0),(7,.box 202 bw 0),(13,.sl .none 1 (strs (namesG 0 n.kids))),(33,.sl .none 12 (n.kids.map enc)),(34,Iv (n.kids.map enc).length),(35,Iv (z.1.1:Int))])
  (fun z=>walkH bf bm bw z.2.1 z.2.2.1 z.2.2.2 (l0++spL (n.kids.take z.1.1) ((namesG 0 n.kids).take z.1.1) x c) (l0++spL (n.kids.take z.1.1) ((namesG 0 n.kids).take z.1.1) x c)) (fun z=>n.kids.length-z.1.1) (⟨0,Nat.zero_le _⟩,fv,mv,vs)
  (.same Z (fun q o h=>by rw [h0eq] at h; exact (setH_ne _ _ (by have:=walk_ge h; omega)).trans h)) ?_
 rintro ⟨⟨i,hi⟩,fv,mv,vs⟩
 try dsimp only
 apply Sr;apply Sq;refine Cd (decide ((i:Int)<(n.kids.map enc).length)) rfl (fun hc=>?_) (fun hc=>?_)
 ·apply Sk;(conv=>whnf)
  have hia:i<n.kids.length:=by simpa using hc
  have hiu:i<(namesG 0 n.kids).length:=by omega
  obtain ⟨A,B,hform⟩:=names_form h64 (fun k hk=>(hnk k hk).1) hia
  have hkz:=kid_sz hia
  have hkc:=kid_cnt hia
  have hsl:=spL_len (n.kids.take i) ((namesG 0 n.kids).take i) x c
  have hnx:=congrArg (fun z=>l0++z) (spL_next x hia hiu c)
  try dsimp only at hnx
  rw [← List.append_assoc] at hnx
  have hkm:=List.getElem_mem hia
  have hbl:Built rr n0 (l0++spL (n.kids.take i) ((namesG 0 n.kids).take i) x c):=built_L rr n0 _ _ x c l0 hb hxd (fun k hk=>by rw [hxn]; exact List.mem_of_mem_take hk) (okDL_of fun k hk=>okDL_get hokd2 (List.mem_of_mem_take hk)) hx hc0
  have hcn2:=hc0.addL (m:=spL (n.kids.take i) ((namesG 0 n.kids).take i) x c)
  have hxl:(l0++spL (n.kids.take i) ((namesG 0 n.kids).take i) x c)[x.si]? = some x:=by rw [List.getElem?_append_left hxl0]; exact hx
  have hll:(l0++spL (n.kids.take i) ((namesG 0 n.kids).take i) x c).length≤l0.length+cntL (n.kids.take i):=by rw [List.length_append]; omega
  have hkd:(n.kids.map enc)[i]? = some (encTop n.kids[i]):=get_kid hia
  have hkt:okT n.kids[i]:=(okL_get hokl hkm).2
  have hkd0:okD n.kids[i]:=okDL_get hokd2 hkm
  have hkn:=(hnk _ hkm).2
  have hkin:n.kids[i]∈x.n.kids:=by rw [hxn]; exact hkm
  have hstep:=child_step (k:=n.kids[i]) (m:=(namesG 0 n.kids)[i]) hxl hxd hcn2 hkin
  have hform2:=hform.len
  have hmd:(strs (namesG 0 n.kids))[i]? = some (.str (namesG 0 n.kids)[i]):=by simp [strs,hiu]
  generalize n.kids[i]=k at *;generalize (namesG 0 n.kids)[i]=m at *;generalize l0++spL (n.kids.take i) ((namesG 0 n.kids).take i) x c=l at *;generalize c.addL (spL (n.kids.take i) ((namesG 0 n.kids).take i) x c)=c2 at *
  have hsn:(child x k m c2).n=k:=rfl
  have hspath:(child x k m c2).path=below x.path k.name (x.lv+1):=rfl
  have hsid:(child x k m c2).id=(identI m (k.kind==0)).1:=rfl
  have hsfile:(child x k m c2).file=(identI m false).1:=rfl
  have hsiso:(child x k m c2).iso=(x.iso&&shown 0 k (x.lv+1)):=rfl
  have hsrock:(child x k m c2).rock=(x.rock&&shown 2 k (x.lv+1)):=rfl
  have hslv:(child x k m c2).lv=x.lv+1:=rfl
  have hsdir:(child x k m c2).isDir=(k.kind==0):=rfl
  have hsany:(child x k m c2).any=((child x k m c2).iso||(child x k m c2).rock):=rfl
  generalize child x k m c2=s at *
  have hblen:=below_len x.path k.name (x.lv+1)
  have hidl:=identI_len m (k.kind==0)
  have hfil:=identI_len m false
  obtain ⟨hxf,hxlt⟩:=hbl.folder hxl hxd
  have hl0:0<l.length:=hbl.root0.2
  have hxlev:=hbl.lev _ _ hxl
  apply Sq;apply Bk;apply Sr;(conv=>whnf);refine Sp ?_;(conv=>whnf);refine ⟨encTop k,fun _=>hkd,?_⟩;(conv=>whnf);intro b16;apply Rl;apply Sr;apply Rl;apply Hh;(conv=>whnf)
  refine .inl ⟨fun h=>by simp [InR]; omega,?_⟩
  apply Hh;apply Hh;(conv=>whnf);refine ⟨[Iv 0,encTop k,Iv (x.lv+1)],_,fun h=>F106 0 k (x.lv+1),Z,?_⟩;refine Pk ?_;apply Sr;apply Rl;apply Hh;(conv=>whnf)
  refine .inl ⟨fun h=>by simp [InR]; omega,?_⟩
  apply Hh;apply Hh;(conv=>whnf);refine ⟨[Iv 2,encTop k,Iv (x.lv+1)],_,fun h=>F106 2 k (x.lv+1),Z,?_⟩;refine Pk ?_;(conv=>whnf);rw [show (bif x.iso then shown 0 k (x.lv+1) else false)=s.iso by rw [bif_and,hsiso],show (bif x.rock then shown 2 k (x.lv+1) else false)=s.rock by rw [bif_and,hsrock]];apply Sq;apply Sr;apply Hh;refine Pk ?_;refine Cd _ rfl (fun hc=>?_) (fun hc=>?_)
  ·refine Tri.exit ?_;apply Rg;refine Ir ?_;(conv=>whnf)
   have hno:¬ s.any=true:=by
    rw [hsany]
    cases h1:s.iso<;>cases h2:s.rock<;>rw [h1,h2] at hc<;>first|(cases hc; done)|decide
   rw [if_neg hno,List.append_nil] at hnx
   exact ⟨(⟨i+1,hia⟩,fv,mv,vs),by show _-(i+1)<_-i; omega,.same Z (fun q o h=>by dsimp only at h; rw [hnx] at h; have:=walk_ge h; exact (setH_ne _ _ (by omega)).trans ((setH_ne _ _ (by omega)).trans h))⟩
  apply Sk;(conv=>whnf)
  have hany:s.any=true:=by
   rw [hsany]
   cases h1:s.iso<;>cases h2:s.rock<;>rw [h1,h2] at hc<;>first|(cases hc; done)|decide
  rw [if_pos hany] at hnx
  have hnx2:l0++spL (List.take (i+1) n.kids) (List.take (i+1) (namesG 0 n.kids)) x c=(l++[s])++spT k s (c2.add s):=by rw [hnx]; simp
  clear hnx
  have hnx:=hnx2
  clear hnx2
  have hst:=hstep hany
  have hbs:=hbl.snoc hst
  have hsat:(l++[s])[s.si]? = some s:=by rw [hst.si]; simp
  have hkk:¬ k.kind=0→k.kids=[]:=((okD_eq k).1 hkd0).1
  have hlfi:=hbl.fi_lt
  apply Sq;refine Tri.regionG ti_ok ?_;apply Tj;apply Rl;apply Tj;(conv=>whnf)
  refine ⟨rfl,trivial,.inr (XOp.rowIndex ti_ok 203 rfl rfl rfl rfl rfl rfl rfl (by omega) (by rw [folsG_len]; exact Int.ofNat_lt.2 hxlt) ?_)⟩
  conv=>whnf
  refine ⟨rfl,trivial,.inr (XOp.rowField ti_ok 203 (i:=x.di) rfl rfl (by rw [folsG_len]; exact hxlt) rfl rfl rfl (by decide) ?_)⟩
  conv=>whnf
  refine ⟨rfl,trivial,.inr (XOp.rowLoad ti_ok 203 (i:=x.di) (by rw [Int.toNat_natCast]; rfl) rfl rfl (folsG_get hxf) ?_)⟩
  apply Tj;(conv=>whnf);intro b19;apply Tj;apply Rl;apply Sr;apply Rl;(conv=>whnf);refine Tri.joinG (α:=Unit) (fun _=>[(1,Iv (x.di:Int)),(2,Iv x.lv),(3,.bool x.iso),(4,.bool x.rock),(5,.box 200 bf 0),(6,.box 201 bm 0),(7,.box 202 bw 0),(13,.sl .none 1 (strs (namesG 0 n.kids))),(33,.sl .none 12 (n.kids.map enc)),(34,Iv (n.kids.map enc).length),(35,Iv (i:Int)),(15,Iv (i:Int)),(16,.box 16 b16 0),(17,.bool s.iso),(18,.bool s.rock),(19,.box 19 b19 0),(20,.str s.path)]) (fun _=>withL [(16,.box b16 [.str k.name,Iv k.kind,.str k.text,.str k.target,Iv k.n1,Iv k.n2,Iv k.n3,Iv k.n4,Iv k.n5,Iv k.n6,.sl .none 12 (k.kids.map enc),.sl .none 2 (k.streams.map encS)]),(19,.box b19 (fdC x)),(200,.box bf [.raw fv]),(201,.box bm [.sl (.own 204 mv) 1 (movD l)]),(202,.box bw [walkFn bf bm bw]),(203,.row fv (folsG vs l l) 7 305),(204,.own mv (movD l).length 1 3)] (dynG vs l l)) ?_ ?_
  ·apply Sr;refine Cd (decide ((0:Int)<(x.di:Int))) rfl (fun hc=>?_) (fun hc=>?_)
   ·apply Rg;apply Rl;(conv=>whnf);refine Sp ?_;apply Rl;(conv=>whnf);refine Sp ?_;(conv=>whnf)
    have hxd0:0<x.di:=by simpa using hc
    have hlv2:¬ x.lv+1≤2:=by
     rcases Nat.eq_zero_or_pos x.si with h|h
     ·rw [h,hbl.root0.1] at hxl
      cases hxl
      exact absurd hxd0 (Nat.lt_irrefl 0)
     have:=(hbl.lv _ _ hxl).2.2.1 h; omega
    exact ⟨(),SubG.ofM (m:=[(16,16),(19,19),(200,200),(201,201),(202,202),(203,203),(204,204)]) ⟨.refl _,.refl _,.refl _,.refl _,.refl _,.refl _,.refl _,.refl _,.refl _,.refl _,.refl _,.refl _,.refl _,.refl _,.refl _,.refl _,DLe.of_eq (congrArg D.str (by rw [hspath,below,if_neg hlv2])),trivial⟩ rfl ⟨rfl,Y⟩ rfl (fun q o h=>by obtain ⟨j,rfl,_,_⟩:=dyn_inv h; exact ⟨by omega,h⟩)⟩
   apply Sk;(conv=>whnf)
   have hxd0:x.di=0:=by simp at hc; omega
   have hlv2:x.lv+1≤2:=by
    rcases Nat.eq_zero_or_pos x.si with h|h
    ·have:=(hbl.lv _ _ hxl).2.1 h; omega
    have:=(hbl.lv _ _ hxl).2.2.2 h hxd; omega
   exact ⟨(),SubG.ofM (m:=[(16,16),(19,19),(200,200),(201,201),(202,202),(203,203),(204,204)]) ⟨.refl _,.refl _,.refl _,.refl _,.refl _,.refl _,.refl _,.refl _,.refl _,.refl _,.refl _,.refl _,.refl _,.refl _,.refl _,.refl _,DLe.of_eq (congrArg D.str (by rw [hspath,below,if_pos hlv2])),trivial⟩ rfl ⟨rfl,Y⟩ rfl (fun q o h=>by obtain ⟨j,rfl,_,_⟩:=dyn_inv h; exact ⟨by omega,h⟩)⟩
  rintro ⟨⟩;apply Sr;apply Rl;(conv=>whnf);rw [← hsdir];apply Sr;(conv=>whnf)
  refine ⟨fun _=>by simp [strs]; omega,?_⟩
  (conv=>whnf);refine ⟨.str m,fun _=>hmd,?_⟩;(conv=>whnf);refine ⟨[.str m,.bool (k.kind==0)],_,fun _=>G32 hL m _ (by omega),⟨.refl _,DLe.of_eq (congrArg D.bool hsdir),trivial⟩,?_⟩;(conv=>whnf);rw [← hsid];apply Sr;(conv=>whnf);intro b24;apply Rl;(conv=>whnf);refine Tri.joinG (α:=Value×Value×Nat) (fun _=>[(1,Iv (x.di:Int)),(2,Iv x.lv),(3,.bool x.iso),(4,.bool x.rock),(5,.box 200 bf 0),(6,.box 201 bm 0),(7,.box 202 bw 0),(13,.sl .none 1 (strs (namesG 0 n.kids))),(33,.sl .none 12 (n.kids.map enc)),(34,Iv (n.kids.map enc).length),(35,Iv (i:Int)),(15,Iv (i:Int)),(16,.box 16 b16 0),(17,.bool s.iso),(18,.bool s.rock),(21,.bool s.isDir),(24,.box 24 b24 0)]) (fun z=>withL [(16,.box b16 [.str k.name,Iv k.kind,.str k.text,.str k.target,Iv k.n1,Iv k.n2,Iv k.n3,Iv k.n4,Iv k.n5,Iv k.n6,.sl .none 12 (k.kids.map enc),.sl .none 2 (k.streams.map encS)]),(24,.box b24 (recC s)),(200,.box bf [.raw z.1]),(201,.box bm [.sl (.own z.2.2 z.2.1) 1 (movD (l++[s]))]),(202,.box bw [walkFn bf bm bw]),(203,.row z.1 (if s.isDir then folsG vs l l++[.agg (fdC s++[.nils])] else folsG vs l l) 7 305),(204,.own z.2.1 (movD (l++[s])).length 1 3)] (dynG vs l l)) ?_ ?_
  ·apply Sr;refine Tri.cond s.isDir rfl (fun hd=>?_) (fun hd=>?_)
   ·apply Sr;apply Rl;refine Ir ?_;(conv=>whnf);intro b25;apply Rl;apply Sq;refine Tri.regionG ti_ok ?_;apply Tj;apply Rl;(conv=>whnf);refine ⟨rfl,trivial,.inr (XOp.rowLen ti_ok 203 rfl rfl rfl rfl ?_)⟩;apply Tj;apply Tj;apply Rl;(conv=>whnf)
    have hfl:((folsG vs l l).length:Int)=(s.di:Int):=by rw [folsG_len,hst.di]
    rw [hfl];apply Sq;apply Sr;apply Rl;refine Cd (decide ((8:Int)<x.lev+1)) rfl (fun hc=>?_) (fun hc=>?_)
    ·apply Sr;apply Rl;apply Rl;(conv=>whnf);refine ⟨trivial,?_⟩;(conv=>whnf);refine ⟨rfl,rfl,?_⟩;(conv=>whnf)
     refine ⟨by show (_+_)*8≤_; rw [movD,List.length_map]; have:=List.length_filter_le RXS.mv l; simp only [List.map_cons,List.map_nil,List.length_cons,List.length_nil]; unfold movX; omega,by show _+_≤_; rw [movD,List.length_map]; have:=List.length_filter_le RXS.mv l; simp only [List.map_cons,List.map_nil,List.length_cons,List.length_nil]; unfold movX; omega,(fun h=>by cases h),fun v=>?_⟩
     apply Rl;apply Sr;apply Rl;(conv=>whnf)
     have hmno:((movD l++[Iv (s.di:Int)]).length:Int)=(s.mno:Int):=by rw [List.length_append,movD,List.length_map,hst.mno]; rfl
     have hmnl:s.mno<100:=by rw [hst.mno]; have:=List.length_filter_le RXS.mv l; unfold movX; omega
     have hdgl:=dig_len s.mno hmnl
     refine ⟨[Iv (s.mno:Int)],_,fun _=>F143 s.mno hmnl,⟨intDLe hmno,trivial⟩,?_⟩;(conv=>whnf);refine Sp ?_;apply Rl;apply Rl;apply Rl;apply Rl;apply Sr;(conv=>whnf)
     refine ⟨fun _=>by simp [strs]; omega,?_⟩
     (conv=>whnf);refine ⟨.str m,fun _=>hmd,?_⟩;(conv=>whnf);refine ⟨[.str m,.bool false],_,fun _=>G32 hL m _ (by omega),Z,?_⟩;apply Rl;apply Rg;apply Rl;(conv=>whnf);refine Tri.regionG ti_ok ?_;apply Tj;apply Rl;apply Tj;apply Rl;apply Tj;apply Tj;(conv=>whnf);refine ⟨trivial,?_⟩;(conv=>whnf)
     refine ⟨rfl,trivial,.inr (XOp.rowAppend ti_ok 203 rfl rfl rfl (fun h=>by cases h) rfl rfl rfl (Nat.zero_lt_one) (by show (_+1)*88≤_; rw [folsG_len]; have:=List.length_filter_le RXS.isDir l; unfold dirsX; omega) (by show _+1≤_; rw [folsG_len]; have:=List.length_filter_le RXS.isDir l; unfold dirsX; omega) fun aa mm cap=>?_)⟩
     apply Tj;apply Rl;(conv=>whnf)
     have h8:x.lev=8:=by have h9:(8:Int)<x.lev+1:=(by simpa using hc); omega
     have hmv:s.mv=true:=by rw [hst.mv,hd,h8]; rfl
     have hslev:s.lev=3:=by rw [hst.lev,hd,if_pos rfl,if_pos (by omega)]
     have hsi0:s.si≠0:=by rw [hst.si]; omega
     have hmvd:movD l++[Iv (s.di:Int)]=movD (l++[s]):=by rw [movD,movD,movX_snoc hmv,List.map_append]; rfl
     exact ⟨(.slice aa mm cap,v,113),SubG.ofM (m:=[(16,16),(24,24),(200,200),(201,201),(202,202),(203,138),(204,113)]) Z rfl
      ⟨rfl,rfl,rfl,congrArg (fun z=>some (HObj.box b24 z)) (by rw [recC_mv hd hmv,hsfile]; rfl),rfl,rfl,rfl,congrArg (fun z=>some (HObj.box bm [.sl (.own 113 v) 1 z])) hmvd,rfl,rfl,rfl,congrArg (fun z=>some (HObj.row (.slice aa mm cap) z 7 305)) (by rw [if_pos hd,fdC_mv hsi0 hmv,hslev,hst.fi]; rfl),rfl,congrArg (fun z:Nat=>some (HObj.own v z 1 3)) (by rw [← hmvd,List.length_append]; rfl),trivial⟩ rfl (fun q o h=>by obtain ⟨j,rfl,_,_⟩:=dyn_inv h; exact ⟨by omega,h⟩)⟩
    apply Sk;(conv=>whnf);refine Tri.regionG ti_ok ?_;apply Tj;apply Rl;apply Tj;apply Rl;apply Tj;apply Tj;(conv=>whnf);refine ⟨trivial,?_⟩;(conv=>whnf)
    refine ⟨rfl,trivial,.inr (XOp.rowAppend ti_ok 203 rfl rfl rfl (fun h=>by cases h) rfl rfl rfl (Nat.zero_lt_one) (by show (_+1)*88≤_; rw [folsG_len]; have:=List.length_filter_le RXS.isDir l; unfold dirsX; omega) (by show _+1≤_; rw [folsG_len]; have:=List.length_filter_le RXS.isDir l; unfold dirsX; omega) fun aa mm cap=>?_)⟩
    apply Tj;apply Rl;(conv=>whnf)
    have h8:x.lev+1≠9:=by have h9:¬ (8:Int)<x.lev+1:=(by simpa using hc); omega
    have hmv:s.mv=false:=by rw [hst.mv,hd,Bool.true_and,beq_eq_false_iff_ne]; exact h8
    have hslev:s.lev=x.lev+1:=by rw [hst.lev,hd,if_pos rfl,if_neg h8]
    have hsi0:s.si≠0:=by rw [hst.si]; omega
    have hmvd:movD l=movD (l++[s]):=by rw [movD,movD,movX_stay hmv]
    exact ⟨(.slice aa mm cap,mv,204),SubG.ofM (m:=[(16,16),(24,24),(200,200),(201,201),(202,202),(203,138),(204,204)]) Z rfl
     ⟨rfl,rfl,rfl,congrArg (fun z=>some (HObj.box b24 z)) (by rw [recC_dir hd hmv]; rfl),rfl,rfl,rfl,congrArg (fun z=>some (HObj.box bm [.sl (.own 204 mv) 1 z])) hmvd,rfl,rfl,rfl,congrArg (fun z=>some (HObj.row (.slice aa mm cap) z 7 305)) (by rw [if_pos hd,fdC_dir hsi0 hmv,hslev,hst.fi]; rfl),rfl,congrArg (fun z:List D=>some (HObj.own mv z.length 1 3)) hmvd,trivial⟩ rfl (fun q o h=>by obtain ⟨j,rfl,_,_⟩:=dyn_inv h; exact ⟨by omega,h⟩)⟩
   apply Sk;(conv=>whnf)
   have hmv:s.mv=false:=by rw [hst.mv,hd]; rfl
   have hmvd:movD l=movD (l++[s]):=by rw [movD,movD,movX_stay hmv]
   exact ⟨(fv,mv,204),SubG.ofM (m:=[(16,16),(24,24),(200,200),(201,201),(202,202),(203,203),(204,204)]) Z rfl
    ⟨rfl,rfl,rfl,congrArg (fun z=>some (HObj.box b24 z)) (by rw [recC_file hd hmv]; rfl),rfl,rfl,rfl,congrArg (fun z=>some (HObj.box bm [.sl (.own 204 mv) 1 z])) hmvd,rfl,rfl,rfl,congrArg (fun z=>some (HObj.row fv z 7 305)) (by rw [if_neg (by rw [hd]; decide)]),rfl,congrArg (fun z:List D=>some (HObj.own mv z.length 1 3)) hmvd,trivial⟩ rfl (fun q o h=>by obtain ⟨j,rfl,_,_⟩:=dyn_inv h; exact ⟨by omega,h⟩)⟩
  rintro ⟨fv1,mv1,q0⟩
  have hxf0:=hxf
  refine Tri.ghost (α:={ vs1:Nat→Value // (dirsX (l++[s]))[x.di]? = some x∧x.di<(dirsX (l++[s])).length }) (fun _=>[(1,Iv (x.di:Int)),(2,Iv x.lv),(3,.bool x.iso),(4,.bool x.rock),(5,.box 200 bf 0),(6,.box 201 bm 0),(7,.box 202 bw 0),(13,.sl .none 1 (strs (namesG 0 n.kids))),(33,.sl .none 12 (n.kids.map enc)),(34,Iv (n.kids.map enc).length),(35,Iv (i:Int)),(15,Iv (i:Int)),(16,.box 16 b16 0),(17,.bool s.iso),(18,.bool s.rock),(21,.bool s.isDir),(24,.box 24 b24 0)]) (fun z=>withL [(16,.box b16 [.str k.name,Iv k.kind,.str k.text,.str k.target,Iv k.n1,Iv k.n2,Iv k.n3,Iv k.n4,Iv k.n5,Iv k.n6,.sl .none 12 (k.kids.map enc),.sl .none 2 (k.streams.map encS)]),(24,.box b24 (recC s)),(200,.box bf [.raw fv1]),(201,.box bm [.sl (.own 204 mv1) 1 (movD (l++[s]))]),(202,.box bw [walkFn bf bm bw]),(203,.row fv1 (folsG z.1 (l++[s]) l) 7 305),(204,.own mv1 (movD (l++[s])).length 1 3)] (dynG z.1 (l++[s]) l)) ?_ (fun hcont=>?_)
  rotate_left
  ·refine Tri.boxLe 201 (cs':=[.sl (.own 204 mv1) 1 (movD (l++[s]))]) rfl ⟨DLe.own _ _,trivial⟩ ?_
   by_cases hd:s.isDir=true
   ·have hrec0:recsD l (dirsX l).length=[]:=inF_none hlfi
    have hfn:=fols_new (vs:=vs) (l:=l) (lr:=l) (s:=s) (v:=.slice none 0 0) hd hrec0
    refine Tri.rowLe 203 (ys:=folsG (vsNew vs (dirsX l).length (.slice none 0 0)) (l++[s]) l) rfl (by rw [if_pos hd,← hfn,List.length_append,List.length_append]; rfl) folsG_cells (by
     rw [if_pos hd,← hfn,flat_app,flat_app]
     exact LeL.app (LeL.refl _) ⟨.refl _,.refl _,.refl _,.refl _,.refl _,.refl _,DLe.nilOwn,trivial⟩) ?_
    refine Tri.ownNil ((dirsX l).length+300) 8 310 ?_
    refine Tri.forgetG _ _ ?_ (hcont ⟨vsNew vs (dirsX l).length (.slice none 0 0),by rw [dirsX_snoc hd,List.getElem?_append_left hxlt]; exact hxf,by rw [dirsX_snoc hd,List.length_append]; omega⟩)
    refine SubG.ofM (m:=[(16,16),(24,24),(200,200),(201,201),(202,202),(203,203),(204,204)]) Z rfl ⟨rfl,Y⟩ rfl (fun q o h=>?_)
    rcases dyn_new hd h with ⟨rfl,rfl⟩|⟨hne,h⟩
    ·refine ⟨by omega,?_⟩
     rw [setH_same,hrec0]; rfl
    obtain ⟨j,rfl,_,_⟩:=dyn_inv h;exact ⟨by omega,(setH_ne _ _ hne).trans h⟩
   have hd':s.isDir=false:=by simpa using hd
   refine Tri.forgetG _ _ ?_ (hcont ⟨vs,by rw [dirsX_file hd']; exact hxf,by rw [dirsX_file hd']; exact hxlt⟩)
   refine SubG.ofM (m:=[(16,16),(24,24),(200,200),(201,201),(202,202),(203,203),(204,204)]) Z rfl ⟨rfl,rfl,rfl,rfl,rfl,rfl,rfl,rfl,rfl,rfl,rfl,congrArg (fun z=>some (HObj.row fv1 z 7 305)) (by rw [if_neg hd,fols_file hd']),rfl,Y⟩ rfl (fun q o h=>?_);rw [dyn_file hd'] at h;obtain ⟨j,rfl,_,_⟩:=dyn_inv h;exact ⟨by omega,h⟩
  rintro ⟨vs1,hxf,hxl⟩
  try dsimp only
  have hsf:s.fi=x.di:=hst.fi
  have hrl:(recsD l x.di).length≤l.length:=by
   rw [recsD,List.length_map,inF];exact Nat.le_trans (List.length_filter_le _ _) (by simp)
  apply Sq
  refine Tri.bitsG ti_ok mixed (α:=Value) (fun v f=>[(1,Iv (x.di:Int)),(2,Iv x.lv),(3,.bool x.iso),(4,.bool x.rock),(5,.box 200 bf 0),(6,.box 201 bm 0),(7,.box 202 bw 0),(13,.sl .none 1 (strs (namesG 0 n.kids))),(33,.sl .none 12 (n.kids.map enc)),(34,Iv (n.kids.map enc).length),(35,Iv (i:Int)),(15,Iv (i:Int)),(16,.box 16 b16 0),(17,.bool s.iso),(18,.bool s.rock),(21,.bool s.isDir),(24,.box 24 b24 0),(139,bif f 0 then .raw fv1 else .any),(140,bif f 1 then Iv (x.di:Int) else .any),(141,bif f 2 then .raw fv1 else .any),(142,bif f 3 then Iv (x.di:Int) else .any),(143,bif f 4 then .raw (rowPtr fv1 (((x.di:Nat):Int).toNat*7)) else .any),(144,bif f 5 then .raw (rowPtr fv1 (((x.di:Nat):Int).toNat*7+6)) else .any),(145,bif f 6 then .sl (.own 0 (vs1 x.di)) 8 (recsD l x.di) else .any),(146,bif f 7 then recD s else .any),(147,bif f 8 then .sl .full 8 [recD s] else .any),(148,bif f 9 then .sl (.own 148 v) 8 (recsD l x.di++[recD s]) else .any),(149,bif f 10 then .raw (rowPtr fv1 (((x.di:Nat):Int).toNat*7)) else .any),(150,bif f 11 then .raw (rowPtr fv1 (((x.di:Nat):Int).toNat*7+6)) else .any)])
   (fun v f=>withL ([(16,.box b16 [.str k.name,Iv k.kind,.str k.text,.str k.target,Iv k.n1,Iv k.n2,Iv k.n3,Iv k.n4,Iv k.n5,Iv k.n6,.sl .none 12 (k.kids.map enc),.sl .none 2 (k.streams.map encS)]),(24,.box b24 (recC s)),(200,.box bf [.raw fv1]),(201,.box bm [.sl (.own 204 mv1) 1 (movD (l++[s]))]),(202,.box bw [walkFn bf bm bw]),(203,.row fv1 (bif f 12 then ((folsG vs1 (l++[s]) l).set x.di (.agg (setAt (fdC x++[.sl (.own 0 (vs1 x.di)) 8 (recsD l x.di)]) 6 (.sl (.own 148 v) 8 (recsD l x.di++[recD s]))))) else (folsG vs1 (l++[s]) l)) 7 305),(204,.own mv1 (movD (l++[s])).length 1 3)]++(bif f 9 then [(148,.own v ((recsD l x.di).length+1) 8 310)] else [])) (bif f 9 then (dynX x.di (dynG vs1 (l++[s]) l)) else dynG vs1 (l++[s]) l)) (by decide +kernel) (.bool true) ?_ ?_ ?_ ?_
  ·exact ⟨.refl _,.refl _,.refl _,.refl _,.refl _,.refl _,.refl _,.refl _,.refl _,.refl _,.refl _,.refl _,.refl _,.refl _,.refl _,.refl _,.refl _,.any _,.any _,.any _,.any _,.any _,.any _,.any _,.any _,.any _,.any _,.any _,.any _,trivial⟩
  ·exact SubHF.ofL ⟨rfl,Y⟩ (fun k o h=>(withL_hi rfl (dyn_ge h)).trans h)
  ·(conv=>whnf);refine ⟨fun v f hI=>?_,?_⟩
   ·obtain ⟨f,rfl⟩:= hI.o f 12 0;apply Ti;apply Rl;(conv=>whnf);exact Ex v
   refine Qo ?_;refine ⟨fun v f hI=>?_,?_⟩
   ·obtain ⟨f,rfl⟩:= hI.o f 9 6 (hI.n 6 5 (hI.n 5 4 (hI.n 4 2)));obtain ⟨f,rfl⟩:= hI.o f 12 2;apply Ti;apply Rl;(conv=>whnf);exact Ex v
   refine Qo ?_;refine ⟨fun v f hI=>?_,?_⟩
   ·obtain ⟨f,rfl⟩:= hI.o f 9 6 (hI.n 6 5 (hI.n 5 4));obtain ⟨f,rfl⟩:= hI.o f 12 4;apply Tk
    refine XOp.rowIndex ti_ok 203 rfl rfl rfl rfl rfl rfl rfl (by omega) (fols_lt (by rw [folsG_len]; exact hxl)) ?_
    exact Ex v
   refine ⟨fun v f hI=>?_,?_⟩
   ·obtain ⟨f,rfl⟩:= hI.o f 9 6 (hI.n 6 5);obtain ⟨f,rfl⟩:= hI.o f 12 5;apply Tk
    refine XOp.rowField ti_ok 203 (i:=x.di) rfl rfl (fols_lt' (by rw [folsG_len]; exact hxl)) rfl rfl rfl (by decide) ?_
    exact Ex v
   refine ⟨fun v f hI=>?_,?_⟩
   ·obtain ⟨f,rfl⟩:= hI.o f 9 6;obtain ⟨f,rfl⟩:= hI.o f 12 6;apply Tk
    refine XOp.rowLoadF ti_ok 203 (i:=x.di) (j:=6) (by rw [Int.toNat_natCast]; rfl) rfl rfl (folsG_get hxf) ?_
    (conv=>whnf);exact Ex v
   refine ⟨fun v f hI=>?_,?_⟩
   ·obtain ⟨f,rfl⟩:= hI.o f 9 8 (hI.n 8 7);obtain ⟨f,rfl⟩:= hI.o f 12 7;apply Ti;apply Rl;(conv=>whnf);exact Ex v
   refine ⟨fun v f hI=>?_,?_⟩
   ·obtain ⟨f,rfl⟩:= hI.o f 9 8;obtain ⟨f,rfl⟩:= hI.o f 12 8;apply Ti;(conv=>whnf);refine ⟨trivial,?_⟩;(conv=>whnf);exact Ex v
   refine ⟨fun v f hI=>?_,?_⟩
   ·obtain ⟨f,rfl⟩:= hI.o f 12 9;apply Tk
    refine XOp.ownAppendQ ti_ok (x.di+300) 0 rfl rfl rfl (fun h=>by cases h) rfl (dyn_at hxl) rfl (by show (_+1)*64≤_; omega) (by show _+1≤_; omega) (fun v2=>?_)
    exact Ex v2 (SubHF.ofL ⟨rfl,Y⟩ (fun k o h=>by obtain ⟨h1,h2,h3⟩:=dynX_inv h; exact (setH_ne _ _ (by omega)).trans ((setH_ne _ _ h1).trans ((withL_hi rfl h2).trans h3))))
   refine ⟨fun v f hI=>?_,?_⟩
   ·obtain ⟨f,rfl⟩:= hI.o f 12 11 (hI.n 11 10);apply Tk
    refine XOp.rowIndex ti_ok 203 rfl rfl rfl rfl rfl rfl rfl (by omega) (fols_lt (by rw [folsG_len]; exact hxl)) ?_
    exact Ex v
   refine ⟨fun v f hI=>?_,?_⟩
   ·obtain ⟨f,rfl⟩:= hI.o f 12 11;apply Tk
    refine XOp.rowField ti_ok 203 (i:=x.di) rfl rfl (fols_lt' (by rw [folsG_len]; exact hxl)) rfl rfl rfl (by decide) ?_
    exact Ex v
   refine ⟨fun v f hI=>?_,?_⟩
   ·(conv=>whnf);apply Tk
    refine XOp.rowStoreF ti_ok 203 (i:=x.di) (j:=6) (by rw [Int.toNat_natCast]; rfl) rfl rfl rfl (folsG_get hxf) (by decide) rfl ?_
    exact Ex v (SubHF.ofL ⟨rfl,Y⟩ (fun k o h=>by obtain ⟨h1,h2,h3⟩:=dynX_inv h; exact (setH_ne _ _ (by omega)).trans ((withL_hi rfl h2).trans h)))
   exact trivial
  intro v f hf;(conv=>whnf);refine Tri.forgetG [(1,Iv (x.di:Int)),(2,Iv x.lv),(3,.bool x.iso),(4,.bool x.rock),(5,.box 200 bf 0),(6,.box 201 bm 0),(7,.box 202 bw 0),(13,.sl .none 1 (strs (namesG 0 n.kids))),(33,.sl .none 12 (n.kids.map enc)),(34,Iv (n.kids.map enc).length),(35,Iv (i:Int)),(15,Iv (i:Int)),(16,.box 16 b16 0),(17,.bool s.iso),(18,.bool s.rock),(21,.bool s.isDir),(24,.box 24 b24 0)] (withL [(16,.box b16 [.str k.name,Iv k.kind,.str k.text,.str k.target,Iv k.n1,Iv k.n2,Iv k.n3,Iv k.n4,Iv k.n5,Iv k.n6,.sl .none 12 (k.kids.map enc),.sl .none 2 (k.streams.map encS)]),(24,.box b24 (recC s)),(200,.box bf [.raw fv1]),(201,.box bm [.sl (.own 204 mv1) 1 (movD (l++[s]))]),(202,.box bw [walkFn bf bm bw]),(203,.row fv1 ((folsG vs1 (l++[s]) l).set x.di (.agg (setAt (fdC x++[.sl (.own 0 (vs1 x.di)) 8 (recsD l x.di)]) 6 (.sl (.own 148 v) 8 (recsD l x.di++[recD s]))))) 7 305),(204,.own mv1 (movD (l++[s])).length 1 3),(148,.own v ((recsD l x.di).length+1) 8 310)] (dynX x.di (dynG vs1 (l++[s]) l))) (.same Z (fun k o h=>?_)) ?_
  ·show withL (_++(bif f 9 then _ else _)) (bif f 9 then _ else _) k=_
   rw [hf 9 (by decide +kernel),hf 12 (by decide +kernel)]; exact h
  refine Tri.rowLe 203 (ys:=folsG (vsNew vs1 x.di v) (l++[s]) (l++[s])) rfl (by rw [List.length_set,folsG_len,folsG_len]) folsG_cells (LeL.flat (by rw [List.length_set,folsG_len,folsG_len]) (fols_le hxf hsf hl0)) ?_;refine Tri.forgetG [(1,Iv (x.di:Int)),(2,Iv x.lv),(3,.bool x.iso),(4,.bool x.rock),(5,.box 200 bf 0),(6,.box 201 bm 0),(7,.box 202 bw 0),(13,.sl .none 1 (strs (namesG 0 n.kids))),(33,.sl .none 12 (n.kids.map enc)),(34,Iv (n.kids.map enc).length),(35,Iv (i:Int)),(15,Iv (i:Int)),(16,.box 16 b16 0),(17,.bool s.iso),(18,.bool s.rock),(21,.bool s.isDir),(24,.box 24 b24 0)] (withL [(16,.box b16 [.str k.name,Iv k.kind,.str k.text,.str k.target,Iv k.n1,Iv k.n2,Iv k.n3,Iv k.n4,Iv k.n5,Iv k.n6,.sl .none 12 (k.kids.map enc),.sl .none 2 (k.streams.map encS)]),(24,.box b24 (recC s)),(200,.box bf [.raw fv1]),(201,.box bm [.sl (.own 204 mv1) 1 (movD (l++[s]))]),(202,.box bw [walkFn bf bm bw]),(203,.row fv1 (folsG (vsNew vs1 x.di v) (l++[s]) (l++[s])) 7 305),(204,.own mv1 (movD (l++[s])).length 1 3)] (dynG (vsNew vs1 x.di v) (l++[s]) (l++[s]))) ⟨Z,fun k=>if k=x.di+300 then 148 else k,?_,?_⟩ ?_
  ·exact key_inj rfl
  ·exact key_at rfl ⟨rfl,Y⟩ rfl (fun k o h=>by obtain ⟨h1,h2,h3⟩:=dynX_inv h; exact (setH_ne _ _ (by omega)).trans ((withL_hi rfl h2).trans h)) hsf hl0
  apply Sr;refine Tri.cond s.isDir rfl (fun hd=>?_) (fun hd=>?_)
  ·refine Tri.regionG ti_ok ?_;apply Tj;apply Rl;apply Tj;apply Rl;apply Tj;apply Tj;apply Rl;apply Tj;apply Tj;refine Ir ?_;apply Tj;apply Tj;(conv=>whnf)
   refine ⟨rfl,trivial,.inr (XOp.callG rfl [encTop k,Iv (s.di:Int),Iv s.lv,.bool s.iso,.bool s.rock,.box 200 bf 0,.box 201 bm 0,.box 202 bw 0] walkKeys (DCall.walk (fun q hq=>withL_two (show (16:Nat)<200 by decide) (show (24:Nat)<200 by decide) hq) (ih k (by omega) hkt hkd0 s (c2.add s) (l++[s]) bf bm bw fv1 mv1 (vsNew vs1 x.di v) hsn hbs hsat hd (hcn2.add s) (by rw [List.length_append]; simp; omega) (by rw [hspath]; omega) (by omega))) ⟨.refl _,intDLe (by rw [if_pos hd]),intDLe hslv.symm,.refl _,.refl _,.refl _,.refl _,.refl _,trivial⟩ ?_)⟩
   rintro d H' ⟨rfl,fv2,mv2,vs2,rfl⟩;refine ⟨_,.refl _,?_⟩;apply Rg;refine Ir ?_;(conv=>whnf)
   exact ⟨(⟨i+1,hia⟩,fv2,mv2,vs2),by show _-(i+1)<_-i; omega,.same Z (fun q o h=>by dsimp only at h; rw [hnx] at h; exact (back_walk (walk_ge h)).trans h)⟩
  have hsp0:spT k s (c2.add s)=[]:=by
   rw [spT_eq,hkk (by simpa using hsdir.symm.trans hd)]; rfl
  rw [hsp0,List.append_nil] at hnx;apply Sk;apply Rg;refine Ir ?_;(conv=>whnf)
  exact ⟨(⟨i+1,hia⟩,fv1,mv1,vsNew vs1 x.di v),by show _-(i+1)<_-i; omega,.same Z (fun q o h=>by dsimp only at h; rw [hnx] at h; exact (withL_two (show (16:Nat)<200 by decide) (show (24:Nat)<200 by decide) (walk_ge h)).trans h)⟩
 have hin:i=n.kids.length:=by simp at hc; omega
 have e1:spL (n.kids.take i) ((namesG 0 n.kids).take i) x c=spT n x c:=by rw [spT_eq,List.take_of_length_le (by omega),List.take_of_length_le (by omega)]
 rw [e1];refine Tri.forgetG [] (walkH bf bm bw fv mv vs (l0++spT n x c) (l0++spT n x c)) (.same trivial (fun q o h=>h)) ?_;refine Tri.exit ?_;(conv=>whnf);exact ⟨.tup [],trivial,rfl,_,_,_,rfl⟩
def preD (sh:Nat) (rn:List UInt8) (k:Nat):List DirV:=if k=0∧sh≠0 then [⟨[47],rn,2,0,0,false⟩] else []
def dirW (sh:Nat) (s:RXS):DirV:=if s.si=0 then rootDir else s.dirV sh
def dirU (sh:Nat) (rn:List UInt8) (D:List RXS):Nat→List DirV
 | 0=>[]
 | i+1=>dirU sh rn D i++(dirW sh (D.getD i default)::preD sh rn i)
theorem preD_len (sh:Nat) (rn:List UInt8) (k:Nat):(preD sh rn k).length≤1:=by unfold preD; split<;>simp
theorem preR_len (sh:Nat) (rn:List UInt8) (k:Nat):(preR sh rn k).length≤1:=by unfold preR; split<;>simp
theorem dirU_len (sh:Nat) (rn:List UInt8) (D:List RXS):∀ i,(dirU sh rn D i).length≤2*i
 | 0=>Nat.le_refl _
 | i+1=>by
  have:=dirU_len sh rn D i
  have:=preD_len sh rn i
  simp only [dirU,List.length_append,List.length_cons]; omega
theorem dirU_all {sh:Nat} {rn:List UInt8} {s0:RXS} {E:List RXS} (h0:s0.si=0) (hE:∀ s∈E,s.si≠0):∀ m,m≤E.length→dirU sh rn (s0::E) (m+1)=rootDir::(preD sh rn 0++(E.take m).map (RXS.dirV sh))
 | 0,_=>by simp [dirU,dirW,h0]
 | m+1,hm=>by
  rw [dirU,dirU_all h0 hE m (by omega)]
  have h1:(s0::E).getD (m+1) default=E[m]:=by
   rw [List.getD_eq_getElem?_getD,List.getElem?_cons_succ,List.getElem?_eq_getElem (by omega)]; rfl
  have h2:preD sh rn (m+1)=[]:=by rw [preD,if_neg (by omega)]
  rw [h1,h2,dirW,if_neg (hE _ (List.getElem_mem _)),List.take_succ_eq_append_getElem (by omega),List.map_append];simp only [List.append_assoc,List.cons_append,List.nil_append,List.map_cons,List.map_nil]
def movS (sh:Nat) (T:List RXS) (i:Nat):List EntV:=if i=0 then (movX T).map (RXS.movV sh) else []
def entU (sh:Nat) (rn:List UInt8) (T:List RXS):Nat→List EntV
 | 0=>[]
 | i+1=>entU sh rn T i++(preR sh rn i++(recsAt sh T i++movS sh T i))
theorem recsAt_le (sh:Nat) (T:List RXS) (i:Nat):(recsAt sh T i).length≤T.length:=by rw [recsAt_len]; exact List.length_filter_le _ _
theorem movS_le (sh:Nat) (T:List RXS) (i:Nat):(movS sh T i).length≤T.length:=by
 unfold movS; split
 ·rw [List.length_map]; exact List.length_filter_le _ _
 simp
theorem entU_len (sh:Nat) (rn:List UInt8) (T:List RXS):∀ i,(entU sh rn T i).length≤i*(2*T.length+1)
 | 0=>by simp [entU]
 | i+1=>by
  have:=entU_len sh rn T i
  have:=recsAt_le sh T i
  have:=movS_le sh T i
  have:=preR_len sh rn i
  rw [Nat.succ_mul]
  simp only [entU,List.length_append]; omega
theorem entU_le {sh:Nat} {rn:List UInt8} {T:List RXS} {i:Nat} (hi:i≤100) (hT:T.length≤100):(entU sh rn T i).length≤20100:=by
 have h:=entU_len sh rn T i
 have h2:i*(2*T.length+1)≤100*201:=Nat.mul_le_mul hi (by omega)
 omega
theorem entU_all (sh:Nat) (rn:List UInt8) (T:List RXS):∀ m,entU sh rn T (m+1)=preR sh rn 0++recsAt sh T 0++(movX T).map (RXS.movV sh)++((List.range m).flatMap fun i=>recsAt sh T (i+1))
 | 0=>by simp [entU,movS]
 | m+1=>by
  have h1:preR sh rn (m+1)=[]:=by rw [preR,if_neg (by omega)]
  have h2:movS sh T (m+1)=[]:=by rw [movS,if_neg (by omega)]
  rw [entU,entU_all sh rn T m,h1,h2,List.range_succ,List.flatMap_append]; simp
theorem entU_plan (rn:List UInt8) (T:List RXS):entU (shiftX T) rn T ((dirsX T).length+1)=entsP rn T:=by
 rw [entU_all,entsP,preR]
 congr 3
 by_cases h:shiftX T=0
 ·rw [if_neg (by omega),if_pos h]
 rw [if_pos ⟨rfl,h⟩,if_neg h]
theorem dirU_plan (rn:List UInt8) {T:List RXS} {s0:RXS} (h0:s0.si=0) (hE:∀ s∈dirsX T,s.si≠0):dirU (shiftX T) rn (s0::dirsX T) ((dirsX T).length+1)=dirsP rn T:=by
 rw [dirU_all h0 hE _ (Nat.le_refl _),List.take_length,dirsP,preD]
 congr 2
 by_cases h:shiftX T=0
 ·rw [if_neg (by omega),if_pos h]
 rw [if_pos ⟨rfl,h⟩,if_neg h]
def folP (L:List RXS) (i:Nat) (s:RXS):D:=.agg (fdC s++[.sl .none 8 (recsD L i)])
def folsP (L:List RXS):List D:=(dirsX L).mapIdx (folP L)
theorem folsP_len (L:List RXS):(folsP L).length=(dirsX L).length:=by simp [folsP]
theorem folsP_get {L:List RXS} {i:Nat} {s:RXS} (h:(dirsX L)[i]? = some s):(folsP L)[i]? = some (folP L i s):=by
 rw [folsP,List.getElem?_mapIdx,h]; rfl
theorem fols_unown {vs:Nat→Value} {L:List RXS}:LeL (flat (folsG vs L L)) (flat (folsP L)) :=
 LeL.flat (by rw [folsG_len,folsP_len]) fun i a b ha hb=>by
  rw [folsG,List.getElem?_mapIdx] at ha;rw [folsP,List.getElem?_mapIdx] at hb
  cases h:(dirsX L)[i]? with
  | none=>rw [h] at ha; cases ha
  | some y =>
   rw [h] at ha hb
   cases ha; cases hb
   exact ⟨.refl _,.refl _,.refl _,.refl _,.refl _,.refl _,DLe.unown,trivial⟩
theorem folsP_cells {L:List RXS}:∀ y∈folsP L,y.cells.length=7:=fun y hy=>by
 obtain ⟨i,hi⟩:=List.mem_iff_getElem?.1 hy;rw [folsP,List.getElem?_mapIdx] at hi
 cases h:(dirsX L)[i]? with
 | none=>rw [h] at hi; cases hi
 | some s=>rw [h] at hi; cases hi; rfl
def dcs (d:DirV):List D:=[.str d.path,.str d.id,Iv d.level,Iv d.parent,Iv d.above,.bool d.reloc]
def ixI (sh:Nat) (i:Int):Int:=if i≤0 then i else i+sh
theorem ixI_nat (sh i:Nat):ixI sh (i:Int)=((ixS sh i:Nat):Int):=by
 unfold ixI ixS
 split<;>split<;>omega
theorem dcs_mv {sh:Nat} {s:RXS} (hs:s.si≠0) (hm:s.mv=true) :
  ([.str s.path,.str (if s.si=0 then [0] else if s.mv then 68::Lib.decDigits s.mno else s.id),Iv s.lev,Iv 1,Iv (ixI sh (s.fi:Int)),.bool s.mv]:List D)=dcs (dirW sh s):=by
 rw [dirW,if_neg hs,if_neg hs,ixI_nat]; simp [dcs,RXS.dirV,hm]
theorem dcs_st {sh:Nat} {s:RXS} {rr:Bool} {n:NV} (h0:s.si=0→s=rootX rr n) (hm:s.mv=false) :
  ([.str s.path,.str (if s.si=0 then [0] else if s.mv then 68::Lib.decDigits s.mno else s.id),Iv s.lev,Iv (ixI sh (if s.mv then -1 else (s.fi:Int))),Iv (ixI sh (s.fi:Int)),.bool s.mv]:List D)=dcs (dirW sh s):=by
 by_cases hs:s.si=0
 ·rw [h0 hs]; rfl
 rw [dirW,if_neg hs,if_neg hs,hm];simp only [Bool.false_eq_true,if_false]
 rw [ixI_nat]; simp [dcs,RXS.dirV,hm]
theorem withL_one {a:Nat×HObj} {L:List (Nat×HObj)} {dyn:Heap} {k:Nat} (ha:a.1<200) (hk:200≤k):withL (a::L) dyn k=withL L dyn k:=by
 obtain ⟨i,o⟩:=a
 have h1:Nat.beq k i=false:=by
  cases h:Nat.beq k i with
  | false=>rfl
  | true=>have:=Nat.eq_of_beq_eq_true h; simp at ha; omega
 unfold withL
 simp only [look,h1,cond_false]
theorem G40 (hL:LibOk W0) (rr:Bool) (n:NV) (hn:Fits n) (hc0:valid n=true→cnt n<99∧sz n<800000):DFun Tryz.prog W0 158 [encTop n,.bool rr] (.tup [.sl .none 6 ((rplanV rr n).1.map encDir),.sl .none 7 ((rplanV rr n).2.1.map encEnt),Iv (rplanV rr n).2.2]):=by
 refine Fi Tryz.func158 rfl Tryz.ntmps158 fun Γ=>?_
 apply Sr;(conv=>whnf);intro b2;apply Sq;apply Sr;apply Rl;(conv=>whnf)
 refine ⟨[encTop n],_,fun _=>F39 hL n (by have:=hn; unfold Fits at this; omega),Z,?_⟩
 refine Cd _ rfl (fun hc=>?_) (fun hc=>?_)
 ·apply Sr;apply Rt;(conv=>whnf)
  have hv:¬ valid n=true:=by simpa using hc
  rw [rplanV,if_neg hv];exact ⟨DLe.nil,DLe.nil,.refl _,trivial⟩
 apply Sk;(conv=>whnf)
 have hv:valid n=true:=by simpa using hc
 obtain ⟨hcn,hsz⟩:=hc0 hv
 have hokt:=valid_okT hv
 obtain ⟨hokd,hk0⟩:=valid_okD hv
 have hb:=built_spots rr hokd hk0
 have hLT:spots rr n=rootX rr n::spT n (rootX rr n) ⟨1,1,0⟩:=rfl
 have hLT2:[rootX rr n]++spT n (rootX rr n) ⟨1,1,0⟩=spots rr n:=rfl
 have hTl:=spT_len n (rootX rr n) ⟨1,1,0⟩
 have hpl:rplanV rr n=(dirsP (rrN (rrK (namesG 0 n.kids))) (spT n (rootX rr n) ⟨1,1,0⟩),entsP (rrN (rrK (namesG 0 n.kids))) (spT n (rootX rr n) ⟨1,1,0⟩),0):=by rw [rplanV,if_pos hv]
 have hrd:(rootX rr n).isDir=true:=by rw [RXS.isDir,rootX,hk0]; rfl
 have hdr:dirsX [rootX rr n]=[rootX rr n]:=by rw [dirsX,List.filter_cons,if_pos hrd]; rfl
 have hwalk:=fun (b7 b8 b9:Nat) (vs:Nat→Value)=>G89 (W0:=W0) hL rr n (sz n+1) n (Nat.lt_succ_self _) hokt hokd (rootX rr n) ⟨1,1,0⟩ [rootX rr n] b7 b8 b9
 rw [hpl];obtain ⟨h64,_,hinc,hokl⟩:=(okT_eq n).1 hokt
 have hnk:∀ k∈n.kids,nameOk k.name=true∧k.name.length<1000000000:=fun k hk=>(okL_get hokl hk).1
 have hG92:=G92 (W0:=W0) hL n.kids h64 hnk hinc
 generalize rrN (rrK (namesG 0 n.kids))=rn at *;apply Sq;refine Tri.regionG ti_ok ?_;apply Tj;apply Tj;(conv=>whnf);refine ⟨rfl,trivial,.inr (XOp.buildRowS (q:=203) ti_ok rfl rfl rfl rfl rfl rfl ?_)⟩;(conv=>whnf);refine ⟨rfl,trivial,fun bf0=>?_⟩;apply Tj;(conv=>whnf);intro b7;apply Tj;apply Rl;apply Sr;(conv=>whnf);intro b8;apply Sr;(conv=>whnf);intro b9;apply Sr;apply Rl;(conv=>whnf)
 refine Tri.rowLe 203 (ys:=folsG (fun _=>.slice none 0 0) [rootX rr n] [rootX rr n]) rfl (by rw [folsG_len,hdr]; rfl) folsG_cells (by
  rw [folsG,hdr]
  exact ⟨.refl _,.refl _,.refl _,.refl _,.refl _,.refl _,DLe.nilOwn,trivial⟩) ?_
 refine Tri.boxLe 8 (cs':=[.sl (.own 204 (.slice none 0 0)) 1 (movD [rootX rr n])]) rfl ⟨DLe.nilOwn,trivial⟩ ?_;refine Tri.boxLe 9 (cs':=[walkFn b7 b8 b9]) rfl ⟨DLe.fn trivial ⟨DLe.box,DLe.box,DLe.box,trivial⟩,trivial⟩ ?_;refine Tri.ownNil 204 1 3 ?_;refine Tri.ownNil 300 8 310 ?_;refine Tri.forgetG [(1,.bool rr),(2,.box 2 b2 0),(7,.box 200 b7 0),(8,.box 201 b8 0),(9,.box 202 b9 0)] (withL [(2,.box b2 (cellsN n)),(200,.box b7 [.raw (.slice (some ⟨bf0,0,none⟩) 1 1)]),(201,.box b8 [.sl (.own 204 (.slice none 0 0)) 1 (movD [rootX rr n])]),(202,.box b9 [walkFn b7 b8 b9]),(203,.row (.slice (some ⟨bf0,0,none⟩) 1 1) (folsG (fun _=>.slice none 0 0) [rootX rr n] [rootX rr n]) 7 305),(204,.own (.slice none 0 0) (movD [rootX rr n]).length 1 3)] (dynG (fun _=>.slice none 0 0) [rootX rr n] [rootX rr n])) (SubG.ofM (m:=[(2,2),(200,7),(201,8),(202,9),(203,203),(204,204)]) ⟨.refl _,.refl _,DLe.box,DLe.box,DLe.box,trivial⟩ rfl ⟨rfl,Y⟩ rfl (fun q o h=>?_)) ?_
 ·obtain ⟨j,rfl,hj,rfl⟩:=dyn_inv h;rw [hdr] at hj
  have:j=0:=by simp at hj; omega
  subst this;exact ⟨by omega,rfl⟩
 apply Sq;refine Tri.regionG ti_ok ?_;apply Tj;apply Rl;apply Tj;apply Rl;apply Tj;(conv=>whnf)
 refine ⟨rfl,trivial,.inr (XOp.callG rfl [encTop n,Iv (((rootX rr n).di:Nat):Int),Iv (rootX rr n).lv,.bool (rootX rr n).iso,.bool (rootX rr n).rock,.box 200 b7 0,.box 201 b8 0,.box 202 b9 0] walkKeys (DCall.walk (fun q hq=>withL_one (show (2:Nat)<200 by decide) hq) (G89 hL rr n (sz n+1) n (Nat.lt_succ_self _) hokt hokd (rootX rr n) ⟨1,1,0⟩ [rootX rr n] b7 b8 b9 (.slice (some ⟨bf0,0,none⟩) 1 1) (.slice none 0 0) (fun _=>.slice none 0 0) rfl (.root hk0) rfl hrd ⟨rfl,by rw [hdr]; rfl,rfl⟩ (by simp; omega) (by show 0+_<_; omega) (by show (1:Int)+_<_; omega))) Z ?_)⟩
 rintro d H' ⟨rfl,fv,mv,vs,rfl⟩;refine ⟨_,.refl _,?_⟩;(conv=>whnf);rw [hLT2];clear hwalk;generalize spT n (rootX rr n) ⟨1,1,0⟩=T at *;generalize hLd:spots rr n=L at *;refine Tri.forgetG [(2,.box 2 b2 0),(7,.box 200 b7 0),(8,.box 201 b8 0)] (look [(2,.box b2 (cellsN n)),(200,.box b7 [.raw fv]),(201,.box b8 [.sl (.own 204 mv) 1 (movD L)]),(203,.row fv (folsG vs L L) 7 305)]) (.same Z (SubHF.of ⟨rfl,Y⟩)) ?_;refine Tri.rowLe 203 (ys:=folsP L) rfl (by rw [folsG_len,folsP_len]) folsP_cells fols_unown ?_;refine Tri.commitBox 203 200 0 rfl rfl (by decide) rfl ?_;refine Tri.boxLe 201 (cs':=[.sl .none 1 (movD L)]) rfl ⟨DLe.unown,trivial⟩ ?_;refine Tri.forgetK [(2,.box 2 b2 0),(7,.box 7 b7 0),(8,.box 8 b8 0)] [(2,.box b2 (cellsN n)),(7,.box b7 [.sl .none 7 (folsP L)]),(8,.box b8 [.sl .none 1 (movD L)])] [(2,2),(7,200),(8,201)] ⟨⟨.refl _,DLe.box,DLe.box,trivial⟩,rfl,Y⟩ ?_;obtain ⟨sh,hsh⟩:∃ sh,shiftX T=sh:=⟨_,rfl⟩
 have hsh1:sh≤1:=by rw [← hsh]; unfold shiftX; split<;>omega
 have hLl:L.length=T.length+1:=by rw [hLT]; rfl
 have hroot:=hb.root0.1
 have hdT:dirsX L=rootX rr n::dirsX T:=by rw [hLT,dirsX,List.filter_cons,if_pos hrd]; rfl
 have hmT:movX L=movX T:=by rw [hLT,movX,List.filter_cons,if_neg (by simp [rootX])]; rfl
 have hdl:(dirsX T).length≤T.length:=List.length_filter_le _ _
 have hml:(movX T).length≤T.length:=List.length_filter_le _ _
 have hdlen:(folsP L).length=(dirsX T).length+1:=by rw [folsP_len,hdT]; rfl
 have hmlen:(movD L).length=(movX T).length:=by rw [movD,List.length_map,hmT]
 have hmin:(if ((movD L).length:Int)<1 then ((movD L).length:Int) else 1)=(sh:Int):=by rw [← hsh,hmlen,shiftX]; split<;>split<;>omega
 have hat:∀ (t:Nat) (s:RXS),L[t]? = some s→s.si=t∧(t=0→s=rootX rr n)∧s.fi≤100∧s.di≤100:=fun t s h=>by
  have h1:=hb.si h
  refine ⟨h1,fun h2=>?_,?_,?_⟩
  ·subst h2; rw [hroot] at h; exact (Option.some.inj h).symm
  ·have:=hb.fi_lt s (List.mem_of_getElem? h)
   rw [hdT] at this; simp at this; omega
  rcases Nat.eq_zero_or_pos t with h2|h2
  ·subst h2; rw [hroot] at h; cases h; exact Nat.zero_le _
  obtain ⟨p,hst⟩:=hb.at h2 h;rw [hst.di]
  have h3:(dirsX (L.take t)).length≤(dirsX L).length:=filter_take_le _ _ _
  rw [hdT] at h3; simp at h3; omega
 have hrec:∀ i,recsD L i=(T.filter fun x=>x.fi==i).map recD:=fun i=>by rw [recsD,inF,hLT]; rfl
 apply Sr;apply Rl;(conv=>whnf);intro b10;apply Rl;(conv=>whnf);refine Tri.boxLe 10 (cs':=[Iv (sh:Int)]) rfl ⟨intDLe hmin,trivial⟩ ?_;refine Tri.boxElm 10 10 (Iv (sh:Int)) rfl rfl rfl rfl ?_;refine Tri.ownNil 500 6 228 ?_;refine Tri.ownNil 600 7 251 ?_;apply Sr;apply Sr;apply Sr;apply Sq;apply Sr;apply Rl;apply Bk
 refine Tri.loopK (α:={ i:Nat // i≤(folsP L).length }×Value×Value) (fun z=>[(2,.box 2 b2 0),(7,.box 7 b7 0),(8,.box 8 b8 0),(10,.elm 1 [Iv (sh:Int)] 0 0),(11,.fn (.func 227) [] [.elm 1 [Iv (sh:Int)] 0 0]),(12,.sl (.own 500 z.2.1) 6 ((dirU sh rn (dirsX L) z.1.1).map encDir)),(13,.sl (.own 600 z.2.2) 7 ((entU sh rn T z.1.1).map encEnt)),(39,.sl .none 7 (folsP L)),(40,Iv ((folsP L).length:Int)),(41,Iv (z.1.1:Int))]) (fun z=>[(2,.box b2 (cellsN n)),(7,.box b7 [.sl .none 7 (folsP L)]),(8,.box b8 [.sl .none 1 (movD L)]),(500,.own z.2.1 ((dirU sh rn (dirsX L) z.1.1).map encDir).length 6 228),(600,.own z.2.2 ((entU sh rn T z.1.1).map encEnt).length 7 251)]) (fun z=>(folsP L).length-z.1.1) (⟨0,Nat.zero_le _⟩,.slice none 0 0,.slice none 0 0) [(2,2),(7,7),(8,8),(500,500),(600,600)]
  ⟨⟨.refl _,.refl _,.refl _,.refl _,.refl _,DLe.nilOwn,DLe.nilOwn,.refl _,.refl _,.refl _,trivial⟩,rfl,Y⟩ ?_
 rintro ⟨⟨i,hi⟩,w1,w2⟩
 try dsimp only
 apply Sr;apply Sq;refine Cd (decide ((i:Int)<((folsP L).length:Int))) rfl (fun hc=>?_) (fun hc=>?_)
 ·apply Sk;(conv=>whnf)
  have hia:i<(folsP L).length:=by simpa using hc
  have hiL:i<(dirsX L).length:=by rw [folsP_len] at hia; exact hia
  obtain ⟨s,hs⟩:∃ s,(dirsX L)[i]? = some s:=⟨_,List.getElem?_eq_getElem hiL⟩
  have hfg:=folsP_get hs
  have hsm:=List.mem_filter.1 (List.mem_of_getElem? hs)
  obtain ⟨t,ht⟩:=List.mem_iff_getElem?.1 hsm.1;obtain ⟨hst,hs0,hfi,_⟩:=hat t s ht
  have hdis:=hb.dis i s hs
  have hr0:s.si=0→s=rootX rr n:=fun h=>hs0 (by omega)
  have hmv0:s.mv=true→s.si≠0:=fun h h2=>by rw [hr0 h2] at h; cases h
  have hgd:(dirsX L).getD i default=s:=by rw [List.getD_eq_getElem?_getD,hs]; rfl
  have hdu:=dirU_len sh rn (dirsX L) i
  have heu:=entU_le (sh:=sh) (rn:=rn) (T:=T) (i:=i) (by omega) (by omega)
  have hdl1:((dirU sh rn (dirsX L) i).map encDir).length≤202:=by rw [List.length_map]; omega
  have hdl2:((dirU sh rn (dirsX L) i++[dirW sh s]).map encDir).length≤203:=by rw [List.length_map,List.length_append]; simp; omega
  have hel1:((entU sh rn T i).map encEnt).length≤20100:=by rw [List.length_map]; omega
  apply Sq;apply Bk;apply Sr;(conv=>whnf);refine ⟨fun _=>⟨Int.natCast_nonneg _,Int.ofNat_lt.2 hia⟩,?_⟩;(conv=>whnf);refine ⟨folP L i s,fun _=>hfg,?_⟩;(conv=>whnf);intro b15;apply Rl;apply Sr;apply Rl;(conv=>whnf);intro b16;apply Rl;(conv=>whnf);refine Tri.joinK (α:=Unit) (fun _=>[(2,.box 2 b2 0),(7,.box 7 b7 0),(8,.box 8 b8 0),(10,.elm 1 [Iv (sh:Int)] 0 0),(11,.fn (.func 227) [] [.elm 1 [Iv (sh:Int)] 0 0]),(12,.sl (.own 500 w1) 6 ((dirU sh rn (dirsX L) i).map encDir)),(13,.sl (.own 600 w2) 7 ((entU sh rn T i).map encEnt)),(39,.sl .none 7 (folsP L)),(40,Iv ((folsP L).length:Int)),(41,Iv (i:Int)),(14,Iv (i:Int)),(15,.box 15 b15 0),(16,.box 16 b16 0)]) (fun _=>[(2,.box b2 (cellsN n)),(7,.box b7 [.sl .none 7 (folsP L)]),(8,.box b8 [.sl .none 1 (movD L)]),(500,.own w1 ((dirU sh rn (dirsX L) i).map encDir).length 6 228),(600,.own w2 ((entU sh rn T i).map encEnt).length 7 251),(15,.box b15 (fdC s++[.sl .none 8 (recsD L i)])),(16,.box b16 (dcs (dirW sh s)))]) ?_ ?_
  ·apply Sq;refine Tri.drawTail ti_ok 9 mixed (by kernel_rfl) ?_;apply Rl;(conv=>whnf)
   refine ⟨[Iv (if s.mv then -1 else (s.fi:Int)),.elm 1 [Iv (sh:Int)] 0 0],_,fun _=>G91 _ sh (by split<;>omega) hsh1,Z,?_⟩
   apply Rl;(conv=>whnf);refine ⟨[Iv (s.fi:Int),.elm 1 [Iv (sh:Int)] 0 0],_,fun _=>G91 _ sh (by omega) hsh1,Z,?_⟩;apply Rl;apply Rl;apply Sr;apply Rl;refine Cd s.mv rfl (fun hc=>?_) (fun hc=>?_)
   ·apply Rg;apply Rl;(conv=>whnf);exact ⟨(),[(2,2),(7,7),(8,8),(500,500),(600,600),(15,15),(16,16)],Z,rfl,rfl,rfl,rfl,rfl,rfl,rfl,rfl,rfl,rfl,rfl,rfl,rfl,rfl,congrArg (fun z=>some (HObj.box b16 z)) (dcs_mv (hmv0 hc) hc),trivial⟩
   apply Sk;(conv=>whnf);exact ⟨(),[(2,2),(7,7),(8,8),(500,500),(600,600),(15,15),(16,16)],Z,rfl,rfl,rfl,rfl,rfl,rfl,rfl,rfl,rfl,rfl,rfl,rfl,rfl,rfl,congrArg (fun z=>some (HObj.box b16 z)) (dcs_st hr0 hc),trivial⟩
  rintro ⟨⟩;apply Sr;apply Rl;(conv=>whnf);refine ⟨trivial,?_⟩;(conv=>whnf);refine ⟨rfl,rfl,?_⟩;(conv=>whnf)
  refine ⟨by show (_+1)*64≤_; omega,by show _+1≤_; omega,(fun h=>by cases h),fun w1a=>?_⟩
  conv=>whnf
  have hda:(dirU sh rn (dirsX L) i).map encDir++[encDir (dirW sh s)]=(dirU sh rn (dirsX L) i++[dirW sh s]).map encDir:=by simp
  have hdn:dirU sh rn (dirsX L) (i+1)=dirU sh rn (dirsX L) i++[dirW sh s]++preD sh rn i:=by rw [dirU,hgd]; simp
  refine Tri.joinK (α:=Value×Value) (fun z=>[(2,.box 2 b2 0),(7,.box 7 b7 0),(8,.box 8 b8 0),(10,.elm 1 [Iv (sh:Int)] 0 0),(11,.fn (.func 227) [] [.elm 1 [Iv (sh:Int)] 0 0]),(12,.sl (.own 500 z.1) 6 ((dirU sh rn (dirsX L) (i+1)).map encDir)),(13,.sl (.own 600 z.2) 7 ((entU sh rn T i++preR sh rn i).map encEnt)),(39,.sl .none 7 (folsP L)),(40,Iv ((folsP L).length:Int)),(41,Iv (i:Int)),(14,Iv (i:Int)),(15,.box 15 b15 0)]) (fun z=>[(2,.box b2 (cellsN n)),(7,.box b7 [.sl .none 7 (folsP L)]),(8,.box b8 [.sl .none 1 (movD L)]),(500,.own z.1 ((dirU sh rn (dirsX L) (i+1)).map encDir).length 6 228),(600,.own z.2 ((entU sh rn T i++preR sh rn i).map encEnt).length 7 251),(15,.box b15 (fdC s++[.sl .none 8 (recsD L i)]))]) ?_ ?_
  ·apply Sr;refine Lo (Iv (sh:Int)) ?_;apply Hh;refine Pk ?_;refine Cd (bif decide ((i:Int)=0) then decide ((0:Int)<(sh:Int)) else false) rfl (fun hc=>?_) (fun hc=>?_)
   ·apply Sr;apply Rl;(conv=>whnf);refine ⟨[.sl .none 12 (n.kids.map enc)],_,fun _=>hG92,Z,?_⟩;apply Sr;(conv=>whnf);refine ⟨trivial,?_⟩;(conv=>whnf);refine ⟨rfl,List.length_append.symm,?_⟩;(conv=>whnf)
    refine ⟨by show (_+1)*64≤_; simp only [List.length_append,List.length_map,List.length_cons,List.length_nil]; omega,by show _+1≤_; simp only [List.length_append,List.length_map,List.length_cons,List.length_nil]; omega,(fun h=>by cases h),fun w1b=>?_⟩
    apply Rg;(conv=>whnf);refine ⟨trivial,?_⟩;(conv=>whnf);refine ⟨rfl,rfl,?_⟩;(conv=>whnf)
    refine ⟨by show (_+1)*56≤_; omega,by show _+1≤_; omega,(fun h=>by cases h),fun w2b=>?_⟩
    conv=>whnf
    have hi0:i=0∧sh≠0:=by
     cases h:decide ((i:Int)=0)<;>rw [h] at hc
     ·cases hc
     have h1:=of_decide_eq_true h
     have h2:=of_decide_eq_true hc
     omega
    have hpd:preD sh rn i=[⟨[47],rn,2,0,0,false⟩]:=if_pos hi0
    have hpr:preR sh rn i=[⟨[47],rn,0,1,true,false,false⟩]:=if_pos hi0
    have e1:(dirU sh rn (dirsX L) i).map encDir++[encDir (dirW sh s)]++[encDir ⟨[47],rn,2,0,0,false⟩]=(dirU sh rn (dirsX L) (i+1)).map encDir:=by rw [hdn,hpd]; simp
    have e2:(entU sh rn T i).map encEnt++[encEnt ⟨[47],rn,0,1,true,false,false⟩]=(entU sh rn T i++preR sh rn i).map encEnt:=by rw [hpr]; simp
    exact ⟨(w1b,w2b),[(2,2),(7,7),(8,8),(500,78),(600,83),(15,15)],⟨.refl _,.refl _,.refl _,.refl _,.refl _,DLe.trans (DLe.of_eq (congrArg (D.sl (.own 78 w1b) 6) e1)) (DLe.own _ _),DLe.trans (DLe.of_eq (congrArg (D.sl (.own 83 w2b) 7) e2)) (DLe.own _ _),.refl _,.refl _,.refl _,.refl _,.refl _,trivial⟩,rfl,rfl,rfl,rfl,rfl,rfl,rfl,rfl,congrArg (fun z:Nat=>some (HObj.own w1b z 6 228)) (by rw [← e1]; exact List.length_append.symm),rfl,congrArg (fun z:Nat=>some (HObj.own w2b z 7 251)) (by rw [← e2]; exact List.length_append.symm),rfl,Y⟩
   apply Sk;(conv=>whnf)
   have hi0:¬ (i=0∧sh≠0):=fun h=>by
    obtain ⟨h1,h2⟩:=h;rw [decide_eq_true (show (i:Int)=0 by omega),decide_eq_true (show (0:Int)<(sh:Int) by omega)] at hc
    cases hc
   have hpd:preD sh rn i=[]:=if_neg hi0
   have hpr:preR sh rn i=[]:=if_neg hi0
   have e1:(dirU sh rn (dirsX L) i).map encDir++[encDir (dirW sh s)]=(dirU sh rn (dirsX L) (i+1)).map encDir:=by rw [hdn,hpd]; simp
   have e2:(entU sh rn T i).map encEnt=(entU sh rn T i++preR sh rn i).map encEnt:=by rw [hpr]; simp
   exact ⟨(w1a,w2),[(2,2),(7,7),(8,8),(500,64),(600,600),(15,15)],⟨.refl _,.refl _,.refl _,.refl _,.refl _,DLe.trans (DLe.of_eq (congrArg (D.sl (.own 64 w1a) 6) e1)) (DLe.own _ _),DLe.of_eq (congrArg (D.sl (.own 600 w2) 7) e2),.refl _,.refl _,.refl _,.refl _,.refl _,trivial⟩,rfl,rfl,rfl,rfl,rfl,rfl,rfl,rfl,congrArg (fun z:Nat=>some (HObj.own w1a z 6 228)) (by rw [← e1]; exact List.length_append.symm),rfl,congrArg (fun z:List D=>some (HObj.own w2 z.length 7 251)) e2,rfl,Y⟩
  rintro ⟨w1c,w2c⟩
  try dsimp only
  generalize hR:T.filter (fun x=>x.fi==i)=R
  have hRl:R.length≤T.length:=by rw [← hR]; exact List.length_filter_le _ _
  have hRD:recsD L i=R.map recD:=by rw [hrec,hR]
  have hRat:recsAt sh T i=R.map (RXS.entV sh):=by rw [recsAt,hR]
  have hRm:∀ x∈R,x∈T∧x.fi=i:=fun x hx=>by rw [← hR] at hx; simpa using List.mem_filter.1 hx
  rw [hRD];apply Sq;apply Sr;apply Rl;apply Bk
  refine Tri.loopK (α:={ j:Nat // j≤R.length }×Value) (fun z=>[(2,.box 2 b2 0),(7,.box 7 b7 0),(8,.box 8 b8 0),(10,.elm 1 [Iv (sh:Int)] 0 0),(11,.fn (.func 227) [] [.elm 1 [Iv (sh:Int)] 0 0]),(12,.sl (.own 500 w1c) 6 ((dirU sh rn (dirsX L) (i+1)).map encDir)),(13,.sl (.own 600 z.2) 7 ((entU sh rn T i++preR sh rn i++(R.take z.1.1).map (RXS.entV sh)).map encEnt)),(39,.sl .none 7 (folsP L)),(40,Iv ((folsP L).length:Int)),(41,Iv (i:Int)),(14,Iv (i:Int)),(85,.sl .none 8 (R.map recD)),(86,Iv ((R.map recD).length:Int)),(87,Iv (z.1.1:Int))]) (fun z=>[(2,.box b2 (cellsN n)),(7,.box b7 [.sl .none 7 (folsP L)]),(8,.box b8 [.sl .none 1 (movD L)]),(500,.own w1c ((dirU sh rn (dirsX L) (i+1)).map encDir).length 6 228),(600,.own z.2 ((entU sh rn T i++preR sh rn i++(R.take z.1.1).map (RXS.entV sh)).map encEnt).length 7 251)]) (fun z=>R.length-z.1.1) (⟨0,Nat.zero_le _⟩,w2c) [(2,2),(7,7),(8,8),(500,500),(600,600)]
   ⟨⟨.refl _,.refl _,.refl _,.refl _,.refl _,.refl _,DLe.of_eq (congrArg (fun z:List EntV=>D.sl (.own 600 w2c) 7 (z.map encEnt)) (by simp)),.refl _,.refl _,.refl _,.refl _,.refl _,.refl _,.refl _,trivial⟩,rfl,rfl,rfl,rfl,rfl,rfl,rfl,rfl,rfl,rfl,congrArg (fun z:List EntV=>some (HObj.own w2c (z.map encEnt).length 7 251)) (by simp),trivial⟩ ?_
  rintro ⟨⟨j,hj⟩,w2⟩
  try dsimp only
  apply Sr;apply Sq;refine Cd (decide ((j:Int)<((R.map recD).length:Int))) rfl (fun hc=>?_) (fun hc=>?_)
  ·apply Sk;(conv=>whnf)
   have hja:j<R.length:=by simpa using hc
   obtain ⟨x,hx⟩:∃ x,R[j]? = some x:=⟨_,List.getElem?_eq_getElem hja⟩
   have hxd:(R.map recD)[j]? = some (recD x):=by rw [List.getElem?_map,hx]; rfl
   obtain ⟨hxT,hxfi⟩:=hRm x (List.mem_of_getElem? hx)
   obtain ⟨tx,htx⟩:=List.mem_iff_getElem?.1 (show x∈L by rw [hLT]; exact List.mem_cons_of_mem _ hxT)
   obtain ⟨_,_,_,hxdi⟩:=hat tx x htx
   have hpre:=preR_len sh rn i
   have hel2:((entU sh rn T i++preR sh rn i++(R.take j).map (RXS.entV sh)).map encEnt).length≤20300:=by simp only [List.length_map,List.length_append,List.length_take]; omega
   have henx:(entU sh rn T i++preR sh rn i++(R.take j).map (RXS.entV sh)).map encEnt++[encEnt (x.entV sh)]=(entU sh rn T i++preR sh rn i++(R.take (j+1)).map (RXS.entV sh)).map encEnt:=by rw [take_nxt hx]; simp
   apply Sq;apply Bk;apply Sr;(conv=>whnf);refine ⟨fun _=>⟨Int.natCast_nonneg _,by simpa using hja⟩,?_⟩;(conv=>whnf);refine ⟨recD x,fun _=>hxd,?_⟩;(conv=>whnf);intro b19;apply Rl;apply Sr;apply Rl;(conv=>whnf);intro b20;apply Rl;apply Sr;(conv=>whnf);refine ⟨[Iv (i:Int),.elm 1 [Iv (sh:Int)] 0 0],_,fun _=>G91 _ sh (by omega) hsh1,Z,?_⟩;apply Rl;apply Sq;apply Sr;apply Rl;apply Hh;apply Rl;apply Hh;refine Pk ?_;refine Cd (bif decide ((0:Int)≤(if x.isDir then (x.di:Int) else -1)) then !x.mv else false) rfl (fun hc=>?_) (fun hc=>?_)
   ·have hxb:x.isDir=true∧x.mv=false:=by
     cases h1:x.isDir<;>cases h2:x.mv<;>rw [h1,h2] at hc<;>simp at hc ⊢
    apply Rg;apply Rl;(conv=>whnf);refine ⟨[Iv (x.di:Int),.elm 1 [Iv (sh:Int)] 0 0],_,fun _=>G91 _ sh (by omega) hsh1,⟨intDLe (by rw [if_pos hxb.1]),.refl _,trivial⟩,?_⟩;apply Rl;apply Rg;apply Rl;(conv=>whnf);refine ⟨trivial,?_⟩;(conv=>whnf);refine ⟨rfl,rfl,?_⟩;(conv=>whnf)
    refine ⟨by show (_+1)*56≤_; omega,by show _+1≤_; omega,(fun h=>by cases h),fun w2b=>?_⟩
    apply Rg;refine Ir ?_;(conv=>whnf)
    have e2:(entU sh rn T i++preR sh rn i++(R.take j).map (RXS.entV sh)).map encEnt++[.agg [.str x.path,.str (if x.mv then x.file else x.id),Iv (ixI sh (i:Int)),Iv (ixI sh (x.di:Int)),.bool (!x.iso),.bool x.rock,.bool x.mv]]=(entU sh rn T i++preR sh rn i++(R.take (j+1)).map (RXS.entV sh)).map encEnt:=by
     rw [← henx,encEnt,RXS.entV,hxfi,hxb.1,hxb.2,ixI_nat,ixI_nat]; rfl
    exact ⟨(⟨j+1,hja⟩,w2b),[(2,2),(7,7),(8,8),(500,500),(600,113)],by show _-(j+1)<_-j; omega,⟨.refl _,.refl _,.refl _,.refl _,.refl _,.refl _,DLe.trans (DLe.of_eq (congrArg (D.sl (.own 113 w2b) 7) e2)) (DLe.own _ _),.refl _,.refl _,.refl _,.refl _,.refl _,.refl _,.refl _,trivial⟩,rfl,rfl,rfl,rfl,rfl,rfl,rfl,rfl,rfl,rfl,congrArg (fun z:Nat=>some (HObj.own w2b z 7 251)) (by rw [← e2]; exact List.length_append.symm),trivial⟩
   apply Sk;apply Rg;apply Rl;(conv=>whnf);refine ⟨trivial,?_⟩;(conv=>whnf);refine ⟨rfl,rfl,?_⟩;(conv=>whnf)
   refine ⟨by show (_+1)*56≤_; omega,by show _+1≤_; omega,(fun h=>by cases h),fun w2b=>?_⟩
   apply Rg;refine Ir ?_;(conv=>whnf)
   have hxb:(x.isDir&&!x.mv)=false:=by
    cases h1:x.isDir<;>cases h2:x.mv<;>rw [h1,h2] at hc<;>first|rfl|(exfalso; simp at hc; done)
   have e2:(entU sh rn T i++preR sh rn i++(R.take j).map (RXS.entV sh)).map encEnt++[.agg [.str x.path,.str (if x.mv then x.file else x.id),Iv (ixI sh (i:Int)),Iv (-1),.bool (!x.iso),.bool x.rock,.bool x.mv]]=(entU sh rn T i++preR sh rn i++(R.take (j+1)).map (RXS.entV sh)).map encEnt:=by
    rw [← henx,encEnt,RXS.entV,hxfi,hxb,ixI_nat]; rfl
   exact ⟨(⟨j+1,hja⟩,w2b),[(2,2),(7,7),(8,8),(500,500),(600,113)],by show _-(j+1)<_-j; omega,⟨.refl _,.refl _,.refl _,.refl _,.refl _,.refl _,DLe.trans (DLe.of_eq (congrArg (D.sl (.own 113 w2b) 7) e2)) (DLe.own _ _),.refl _,.refl _,.refl _,.refl _,.refl _,.refl _,.refl _,trivial⟩,rfl,rfl,rfl,rfl,rfl,rfl,rfl,rfl,rfl,rfl,congrArg (fun z:Nat=>some (HObj.own w2b z 7 251)) (by rw [← e2]; exact List.length_append.symm),trivial⟩
  refine Tri.exit ?_;(conv=>whnf)
  have hjn:j=R.length:=by simp at hc; omega
  rw [hjn,List.take_length,← hRat];clear hjn hc hj j
  have hpre:=preR_len sh rn i
  have hra:=recsAt_le sh T i
  apply Sr;refine Cd (decide ((i:Int)=0)) rfl (fun hc=>?_) (fun hc=>?_)
  ·have hi0:i=0:=by simpa using hc
   apply Sr;apply Rl;apply Bk
   refine Tri.loopK (α:={ k:Nat // k≤(movX L).length }×Value) (fun z=>[(2,.box 2 b2 0),(7,.box 7 b7 0),(8,.box 8 b8 0),(10,.elm 1 [Iv (sh:Int)] 0 0),(11,.fn (.func 227) [] [.elm 1 [Iv (sh:Int)] 0 0]),(12,.sl (.own 500 w1c) 6 ((dirU sh rn (dirsX L) (i+1)).map encDir)),(13,.sl (.own 600 z.2) 7 ((entU sh rn T i++preR sh rn i++recsAt sh T i++((movX L).take z.1.1).map (RXS.movV sh)).map encEnt)),(39,.sl .none 7 (folsP L)),(40,Iv ((folsP L).length:Int)),(41,Iv (i:Int)),(117,.sl .none 1 (movD L)),(118,Iv ((movD L).length:Int)),(119,Iv (z.1.1:Int))]) (fun z=>[(2,.box b2 (cellsN n)),(7,.box b7 [.sl .none 7 (folsP L)]),(8,.box b8 [.sl .none 1 (movD L)]),(500,.own w1c ((dirU sh rn (dirsX L) (i+1)).map encDir).length 6 228),(600,.own z.2 ((entU sh rn T i++preR sh rn i++recsAt sh T i++((movX L).take z.1.1).map (RXS.movV sh)).map encEnt).length 7 251)]) (fun z=>(movX L).length-z.1.1) (⟨0,Nat.zero_le _⟩,w2) [(2,2),(7,7),(8,8),(500,500),(600,600)]
    ⟨⟨.refl _,.refl _,.refl _,.refl _,.refl _,.refl _,DLe.of_eq (congrArg (fun z:List EntV=>D.sl (.own 600 w2) 7 (z.map encEnt)) (by simp)),.refl _,.refl _,.refl _,.refl _,.refl _,.refl _,trivial⟩,rfl,rfl,rfl,rfl,rfl,rfl,rfl,rfl,rfl,rfl,congrArg (fun z:List EntV=>some (HObj.own w2 (z.map encEnt).length 7 251)) (by simp),trivial⟩ ?_
   rintro ⟨⟨k,hk⟩,w2d⟩
   try dsimp only
   apply Sr;apply Sq;refine Cd (decide ((k:Int)<((movD L).length:Int))) rfl (fun hc=>?_) (fun hc=>?_)
   ·apply Sk;(conv=>whnf)
    have hka:k<(movX L).length:=by rw [movD,List.length_map] at hc; simpa using hc
    obtain ⟨x,hx⟩:∃ x,(movX L)[k]? = some x:=⟨_,List.getElem?_eq_getElem hka⟩
    have hxd:(movD L)[k]? = some (.int .i64 (x.di:Int)):=by rw [movD,List.getElem?_map,hx]; rfl
    have hxm:=List.mem_filter.1 (List.mem_of_getElem? hx)
    obtain ⟨tx,htx⟩:=List.mem_iff_getElem?.1 hxm.1;obtain ⟨hxsi,hx0,_,hxdi⟩:=hat tx x htx
    have hxs0:x.si≠0:=fun h=>by rw [hx0 (by omega)] at hxm; cases hxm.2
    have hxdir:x.isDir=true:=by
     obtain ⟨p,hstp⟩:=hb.at (Nat.pos_of_ne_zero (by omega)) htx
     have:=hstp.mv
     rw [hxm.2] at this
     cases h:x.isDir with
     | true=>rfl
     | false=>rw [h] at this; cases this
    obtain ⟨hxf,hxlt⟩:=hb.folder (by rw [hxsi]; exact htx) hxdir
    have hxfg:=folsP_get hxf
    have hkb:k≤100:=by rw [hmT] at hka; omega
    have hel3:((entU sh rn T i++preR sh rn i++recsAt sh T i++((movX L).take k).map (RXS.movV sh)).map encEnt).length≤20400:=by rw [hmT] at hka ⊢; simp only [List.length_map,List.length_append,List.length_take]; omega
    have henx:(entU sh rn T i++preR sh rn i++recsAt sh T i++((movX L).take k).map (RXS.movV sh)).map encEnt++[encEnt (x.movV sh)]=(entU sh rn T i++preR sh rn i++recsAt sh T i++((movX L).take (k+1)).map (RXS.movV sh)).map encEnt:=by rw [take_nxt hx]; simp
    apply Sq;apply Bk;apply Sr;(conv=>whnf);refine ⟨fun _=>⟨Int.natCast_nonneg _,of_decide_eq_true hc⟩,?_⟩;(conv=>whnf);refine ⟨Iv (x.di:Int),fun _=>hxd,?_⟩;apply Sr;apply Rl;(conv=>whnf)
    refine ⟨fun _=>⟨Int.natCast_nonneg _,by rw [folsP_len]; exact Int.ofNat_lt.2 hxlt⟩,?_⟩
    (conv=>whnf);refine ⟨folP L x.di x,fun _=>hxfg,?_⟩;(conv=>whnf);intro b23;apply Rl;refine Tri.drawTail ti_ok 10 mixed (by kernel_rfl) ?_;apply Rl;apply Rl;(conv=>whnf);refine ⟨[Iv (x.di:Int),.elm 1 [Iv (sh:Int)] 0 0],_,fun _=>G91 _ sh (by omega) hsh1,Z,?_⟩;(conv=>whnf);refine ⟨trivial,?_⟩;(conv=>whnf);refine ⟨rfl,rfl,?_⟩;(conv=>whnf)
    refine ⟨by show (_+1)*56≤_; omega,by show _+1≤_; omega,(fun h=>by cases h),fun w2b=>?_⟩
    apply Rg;refine Ir ?_;(conv=>whnf)
    have e2:(entU sh rn T i++preR sh rn i++recsAt sh T i++((movX L).take k).map (RXS.movV sh)).map encEnt++[.agg [.str x.path,.str (if x.si=0 then [0] else if x.mv then 68::Lib.decDigits x.mno else x.id),Iv 1,Iv (ixI sh (x.di:Int)),.bool true,.bool true,.bool false]]=(entU sh rn T i++preR sh rn i++recsAt sh T i++((movX L).take (k+1)).map (RXS.movV sh)).map encEnt:=by
     rw [← henx,encEnt,RXS.movV,if_neg hxs0,if_pos hxm.2,ixI_nat]
    exact ⟨(⟨k+1,hka⟩,w2b),[(2,2),(7,7),(8,8),(500,500),(600,138)],by show _-(k+1)<_-k; omega,⟨.refl _,.refl _,.refl _,.refl _,.refl _,.refl _,DLe.trans (DLe.of_eq (congrArg (D.sl (.own 138 w2b) 7) e2)) (DLe.own _ _),.refl _,.refl _,.refl _,.refl _,.refl _,.refl _,trivial⟩,rfl,rfl,rfl,rfl,rfl,rfl,rfl,rfl,rfl,rfl,congrArg (fun z:Nat=>some (HObj.own w2b z 7 251)) (by rw [← e2]; exact List.length_append.symm),trivial⟩
   have hkn:k=(movX L).length:=by
    have h1:=of_decide_eq_false hc
    rw [movD,List.length_map] at h1; omega
   have hen:entU sh rn T (i+1)=entU sh rn T i++preR sh rn i++recsAt sh T i++((movX L).take k).map (RXS.movV sh):=by
    rw [entU,movS,if_pos hi0,hkn,List.take_length,hmT]; simp
   rw [← hen];refine Tri.exit ?_;apply Rg;refine Ir ?_;(conv=>whnf)
   exact ⟨(⟨i+1,hia⟩,w1c,w2d),[(2,2),(7,7),(8,8),(500,500),(600,600)],by show _-(i+1)<_-i; omega,Z,rfl,Y⟩
  have hi0:¬ i=0:=by simpa using hc
  have hen:entU sh rn T (i+1)=entU sh rn T i++preR sh rn i++recsAt sh T i:=by
   rw [entU,movS,if_neg hi0]; simp
  rw [← hen];apply Sk;apply Rg;refine Ir ?_;(conv=>whnf)
  exact ⟨(⟨i+1,hia⟩,w1c,w2),[(2,2),(7,7),(8,8),(500,500),(600,600)],by show _-(i+1)<_-i; omega,Z,rfl,Y⟩
 have hin:i=(dirsX T).length+1:=by simp at hc; omega
 have hdp:dirU sh rn (dirsX L) i=dirsP rn T:=by
  rw [hin,hdT,← hsh]
  refine dirU_plan rn rfl fun s hs=>?_
  have hsm:=List.mem_filter.1 hs
  obtain ⟨t,ht⟩:=List.mem_iff_getElem?.1 hsm.1
  have:=hb.si (show L[t+1]? = some s by rw [hLT]; exact ht)
  omega
 have hep:entU sh rn T i=entsP rn T:=by rw [hin,← hsh]; exact entU_plan rn T
 rw [hdp,hep];refine Tri.exit ?_;apply Sr;apply Rt;(conv=>whnf);exact ⟨DLe.unown,DLe.unown,.refl _,trivial⟩
def compS1 (s:List UInt8):List UInt8:=(([5]++[u8i (IntKind.wrap .u8 ((cmpr s).1.length:Nat))])++[0,0])++(cmpr s).1
def compSt (out s:List UInt8):List UInt8 :=
 if (s==[])=true then out else if (s==[46])=true then out++[4,0,0,0] else if (s==[46,46])=true then out++[3,0,0,0] else out++compS1 s
def out0 (t:List UInt8):List UInt8:=if [47].isPrefixOf t=true then [2,0,0,0] else []
def rest0 (t:List UInt8):List UInt8:=if [47].isPrefixOf t=true then t.drop 1 else t
def compsV (t:List UInt8):List UInt8:=(splitG 47 [] (rest0 t)).foldl compSt (out0 t)
theorem compSt_len (out s:List UInt8):(compSt out s).length≤out.length+131077:=by
 have:=cmpr_len s
 unfold compSt
 split
 ·omega
 split
 ·simp
 split
 ·simp
 simp only [compS1,List.length_append,List.length_cons,List.length_nil]; omega
theorem comps_len (t:List UInt8):∀ (l:List (List UInt8)) (o:List UInt8),(l.foldl compSt o).length≤o.length+l.length*131077
 | [],o=>by simp
 | s::r,o=>by
  have h1:=comps_len t r (compSt o s)
  have h2:=compSt_len o s
  rw [List.foldl_cons,List.length_cons,Nat.succ_mul]; omega
theorem rest0_len (t:List UInt8):(rest0 t).length≤t.length:=by
 unfold rest0; split
 ·rw [List.length_drop]; omega
 omega
theorem out0_len (t:List UInt8):(out0 t).length≤4:=by unfold out0; split<;>simp
theorem comp_next {l:List (List UInt8)} {i:Nat} (h:i<l.length) (o:List UInt8):(l.take (i+1)).foldl compSt o=compSt ((l.take i).foldl compSt o) l[i]:=by
 rw [List.take_succ_eq_append_getElem h,List.foldl_append]; rfl
theorem u8_one (n:Int):[D.int .u8 (IntKind.wrap .u8 n)]=([u8i (IntKind.wrap .u8 n)]).map fun c=>D.int .u8 c.toNat:=u8_row [IntKind.wrap .u8 n] fun m hm=>by
 rw [List.mem_singleton] at hm; subst hm; exact wrap8 n
theorem H269 (hL:LibOk W0) (t:List UInt8) (ht:t.length<1000000):DFun Tryz.prog W0 269 [.str t] (.str (compsV t)):=by
 refine Fi Tryz.func269 rfl Tryz.ntmps269 fun Γ=>?_
 apply Sr;apply Sr;(conv=>whnf);refine Tri.joinK (α:=Unit) (fun x=>[(0,.str (rest0 t)),(3,.str (out0 t))]) (fun x=>[]) ?_ ?_
 ·apply Sr;(conv=>whnf);refine ⟨[.str t,.str [47]],_,fun _=>F52 t [47],Z,?_⟩;refine Cd ([47].isPrefixOf t) rfl (fun hc=>?_) (fun hc=>?_)
  ·refine Tri.draw ti_ok mixed (by kernel_rfl) ?_;(conv=>whnf)
   have hp:1≤t.length:=by
    cases t with
    | nil=>cases hc
    | cons a r=>simp
   refine ⟨fun _=>by omega,?_⟩;(conv=>whnf)
   exact ⟨(),[],⟨DLe.of_eq (congrArg D.str (by rw [rest0,if_pos hc,Int.toNat_natCast,List.take_length]; rfl)),DLe.of_eq (congrArg D.str (by rw [out0,if_pos hc])),trivial⟩,rfl,trivial⟩
  apply Sk;(conv=>whnf)
  exact ⟨(),[],⟨DLe.of_eq (congrArg D.str (by rw [rest0,if_neg (by rw [hc]; decide)])),DLe.of_eq (congrArg D.str (by rw [out0,if_neg (by rw [hc]; decide)])),trivial⟩,rfl,trivial⟩
 rintro ⟨⟩
 have hr:=rest0_len t
 have ho:=out0_len t
 apply Sq;apply Sr;(conv=>whnf);refine ⟨[.str (rest0 t),.str [47]],_,fun _=>F121 hL (rest0 t) 47 (by omega),Z,?_⟩;(conv=>whnf)
 have hpl:=(splitG_len (c:=47) (rest0 t) []).1
 have hpm:=(splitG_len (c:=47) (rest0 t) []).2
 unfold compsV
 generalize splitG 47 [] (rest0 t)=P at *;generalize out0 t=O at *;apply Bk;refine Tri.loop (α:={ i:Nat // i≤P.length }) (fun x=>[(3,.str ((P.take x.1).foldl compSt O)),(13,.sl .none 1 (strs P)),(14,Iv ((strs P).length:Nat)),(15,Iv x.1)]) (fun _=>[]) (fun x=>P.length-x.1) ⟨0,by omega⟩ ⟨.refl _,DLe.untag _,.refl _,.refl _,trivial⟩ trivial ?_;rintro ⟨i,hi⟩;dsimp only at hi ⊢;apply Sr;apply Sq;refine Cd (decide ((i:Int)<((strs P).length:Nat))) rfl (fun hc=>?_) (fun hc=>?_)
 ·apply Sk
  have hia:i<P.length:=by simpa [strs] using hc
  have hol:=comps_len t (P.take i) O
  rw [List.length_take,Nat.min_eq_left hi] at hol
  have hnx:=comp_next hia O
  generalize hA:(P.take i).foldl compSt O=A at *;generalize hs:P[i]=s at *;apply Sq;apply Bk;apply Sr;(conv=>whnf)
  refine ⟨fun _=>by simp [strs]; omega,?_⟩
  (conv=>whnf);refine ⟨.str s,fun _=>by simp [strs,hia,hs],?_⟩;apply Sr;apply Bk;apply Sr;refine Cd (s==[]) rfl (fun hc1=>?_) (fun hc1=>?_)
  ·apply Sk;apply Rg;refine Ir ?_;(conv=>whnf)
   exact ⟨⟨i+1,hia⟩,by show P.length-(i+1)<P.length-i; omega,⟨DLe.of_eq (congrArg D.str (by rw [hnx,compSt,if_pos hc1])),.refl _,.refl _,.refl _,trivial⟩,trivial⟩
  apply Sr;refine Cd (s==[46]) rfl (fun hc2=>?_) (fun hc2=>?_)
  ·apply Rg;(conv=>whnf);refine Sp ?_;apply Rg;refine Ir ?_;(conv=>whnf)
   exact ⟨⟨i+1,hia⟩,by show P.length-(i+1)<P.length-i; omega,⟨DLe.of_eq (congrArg D.str (by rw [hnx,compSt,if_neg (by rw [hc1]; decide),if_pos hc2])),.refl _,.refl _,.refl _,trivial⟩,trivial⟩
  apply Sr;refine Cd (s==[46,46]) rfl (fun hc3=>?_) (fun hc3=>?_)
  ·apply Rg;(conv=>whnf);refine Sp ?_;apply Rg;refine Ir ?_;(conv=>whnf)
   exact ⟨⟨i+1,hia⟩,by show P.length-(i+1)<P.length-i; omega,⟨DLe.of_eq (congrArg D.str (by rw [hnx,compSt,if_neg (by rw [hc1]; decide),if_neg (by rw [hc2]; decide),if_pos hc3])),.refl _,.refl _,.refl _,trivial⟩,trivial⟩
  apply Sq
  have hsl:s.length<1000000000:=by
   have:=hpm s (hs ▸ List.getElem_mem hia)
   rw [List.length_nil] at this; omega
  have hcl:=cmpr_len s
  apply Rg;(conv=>whnf);refine ⟨[.str s],_,fun _=>H311 hL s hsl,Z,?_⟩;(conv=>whnf);refine Tri.regionX ti_ok ?_;apply Il;(conv=>whnf);refine .inr ?_;(conv=>whnf);refine ⟨trivial,?_⟩;(conv=>whnf);refine .inr (XOp.bytesStr ti_ok (bs:=[u8i (IntKind.wrap .u8 ((cmpr s).1.length:Nat))]) (tg:=.full) rfl rfl rfl rfl rfl rfl (congrArg (D.sl .full 1) (u8_one _)) ?_);(conv=>whnf);refine Sp ?_;(conv=>whnf);refine Sp ?_;(conv=>whnf);refine Sp ?_;(conv=>whnf);refine Sp ?_;apply Rg;refine Ir ?_;(conv=>whnf)
  exact ⟨⟨i+1,hia⟩,by show P.length-(i+1)<P.length-i; omega,⟨DLe.of_eq (congrArg D.str (by rw [hnx,compSt,if_neg (by rw [hc1]; decide),if_neg (by rw [hc2]; decide),if_neg (by rw [hc3]; decide)]; rfl)),.refl _,.refl _,.refl _,trivial⟩,trivial⟩
 refine Tri.exit ?_
 have hin:i=P.length:=by simp [strs] at hc; omega
 subst hin;rw [List.take_length];apply Sr;apply Rt;(conv=>whnf);exact .refl _
theorem compsV_len (t:List UInt8) (ht:t.length<1000000):(compsV t).length<132000000000:=by
 have h1:=comps_len t (splitG 47 [] (rest0 t)) (out0 t)
 have h2:=(splitG_len (c:=47) (rest0 t) []).1
 have h3:=rest0_len t
 have h4:=out0_len t
 unfold compsV; omega
def fidS (s:List UInt8):Int:=(fidSz s false false).1
def sumF (l:List NV):Int:=l.foldl (fun m k=>m+fidS k.name) (fidSz [] true true).1
def lenV (n:NV):Int:=if n.kind=2 then ((compsV n.target).length:Nat) else sumF n.kids
theorem fidSz_r (s:List UInt8) (d p:Bool):0≤(fidSz s d p).1∧(fidSz s d p).1<131200:=by
 have:=fidName_len s d p
 unfold fidSz; split
 ·simp only [rnd4]
  rw [Int.tdiv_eq_ediv_of_nonneg (by omega)]; omega
 simp
theorem sumF_r:∀ (l:List NV) (m:Int),0≤m→0≤l.foldl (fun m k=>m+fidS k.name) m∧l.foldl (fun m k=>m+fidS k.name) m≤m+131200*(l.length:Nat)
 | [],m,h=>by simp; exact h
 | k::r,m,h=>by
  have h1:=fidSz_r k.name false false
  have h2:=sumF_r r (m+fidS k.name) (by unfold fidS; omega)
  rw [List.foldl_cons,List.length_cons]
  unfold fidS at *; omega
theorem sumF_next {l:List NV} {i:Nat} (h:i<l.length):sumF (l.take (i+1))=sumF (l.take i)+fidS l[i].name:=by
 rw [sumF,sumF,List.take_succ_eq_append_getElem h,List.foldl_append]; rfl
theorem sumF_take (l:List NV) (i:Nat) (h:l.length<1000000):0≤sumF (l.take i)∧sumF (l.take i)<131200*1000002:=by
 have h1:=fidSz_r [] true true
 have h2:=sumF_r (l.take i) (fidSz [] true true).1 h1.1
 have h3:(l.take i).length≤l.length:=by rw [List.length_take]; omega
 unfold sumF; omega
theorem lenV_r (n:NV) (hk:n.kids.length<1000000) (ht:n.target.length<1000000):0≤lenV n∧lenV n<132000000000:=by
 have h1:=compsV_len n.target ht
 have h2:=sumF_take n.kids n.kids.length hk
 rw [List.take_length] at h2
 unfold lenV; split<;>omega
theorem H210 (hL:LibOk W0) (n:NV) (hk:n.kids.length<1000000) (ht:n.target.length<1000000) (hnm:∀ k∈n.kids,k.name.length<1000000000):DFun Tryz.prog W0 210 [encTop n] (Iv (lenV n)):=by
 refine Fi Tryz.func210 rfl Tryz.ntmps210 fun Γ=>?_
 apply Sr;(conv=>whnf);intro b1;apply Sq;apply Sr;apply Rl;refine Cd (n.kind==2) rfl (fun hc=>?_) (fun hc=>?_)
 ·apply Sr;apply Rl;(conv=>whnf);refine ⟨[.str n.target],_,fun _=>H269 hL n.target ht,Z,?_⟩;apply Rt;(conv=>whnf)
  rw [lenV,if_pos (by simpa using hc)]; exact .refl _
 apply Sk;rw [lenV,if_neg (by simpa using hc)];apply Sr;(conv=>whnf);refine ⟨[encFid [] true true],_,fun _=>H270 hL [] true true (by decide),Z,?_⟩;apply Sq;apply Sr;apply Rl;apply Bk;refine Tri.loopK (α:={ i:Nat // i≤n.kids.length }) (fun x=>[(3,Iv (sumF (n.kids.take x.1))),(22,.sl .none 12 (n.kids.map enc)),(23,Iv ((n.kids.map enc).length:Nat)),(24,Iv x.1)]) (fun _=>[]) (fun x=>n.kids.length-x.1) ⟨0,by omega⟩ [] ⟨Z,rfl,trivial⟩ ?_;rintro ⟨i,hi⟩;dsimp only at hi ⊢;apply Sr;apply Sq;refine Cd (decide ((i:Int)<((n.kids.map enc).length:Nat))) rfl (fun hc=>?_) (fun hc=>?_)
 ·apply Sk
  have hia:i<n.kids.length:=by simpa using hc
  have hr:=sumF_take n.kids i hk
  have hnx:=sumF_next hia
  have hkn:=hnm _ (List.getElem_mem hia)
  have hget:(n.kids.map enc)[i]? = some (encTop n.kids[i]):=by simp [hia,enc_eq]
  have hfr:=fidSz_r n.kids[i].name false false
  generalize hS:sumF (n.kids.take i)=S at *;apply Sq;apply Bk;apply Sr;(conv=>whnf)
  refine ⟨fun _=>by rw [List.length_map]; omega,?_⟩
  (conv=>whnf);refine ⟨encTop n.kids[i],fun _=>hget,?_⟩;(conv=>whnf);intro b6;apply Rl;apply Sr;apply Rl;(conv=>whnf);refine ⟨[encFid n.kids[i].name false false],_,fun _=>H270 hL n.kids[i].name false false hkn,Z,?_⟩;apply Rg;refine Ir ?_;apply Rg;refine Ir ?_;(conv=>whnf)
  exact ⟨⟨i+1,hia⟩,[],by show n.kids.length-(i+1)<n.kids.length-i; omega,⟨DLe.of_eq (congrArg (D.int .i64) hnx.symm),.refl _,.refl _,.refl _,trivial⟩,rfl,trivial⟩
 refine Tri.exit ?_
 have hin:i=n.kids.length:=by simp at hc; omega
 subst hin;rw [List.take_length];apply Sr;apply Rt;(conv=>whnf);exact .refl _
structure IT where
 kind:Int
 node:Int
 stream:Int
 first:Int
 blocks:Int
def encIT (x:IT):D:=.agg [Iv x.kind,Iv x.node,Iv x.stream,Iv x.first,Iv x.blocks]
structure OS where
 items:List IT
 count:Int
def putV (s:OS) (kind node stream contents:Int):OS:=⟨s.items++[⟨kind,node,stream,s.count,outerV contents⟩],s.count+(1+outerV contents)⟩
def outH (bo:Nat) (nv iv:Value) (s:OS):List (Nat×HObj):=[(210,.box bo [.raw nv,.sl (.own 211 iv) 5 (s.items.map encIT),Iv s.count]),(211,.own iv s.items.length 5 358)]
theorem outerV_r {n:Int} (h0:0≤n) (h1:n<1000000000000):0≤outerV n∧outerV n<1000000000:=by
 unfold outerV; split
 ·omega
 unfold udfBlk; rw [Int.tdiv_eq_ediv_of_nonneg (by omega)]; omega
theorem H211 (bo:Nat) (nv iv:Value) (s:OS) (kind node stream c:Int) (h0:0≤c) (h1:c<1000000000000) (hl:s.items.length<100000000) (hc0:0≤s.count) (hc1:s.count<1000000000000000000):DCall Tryz.prog W0 211 [.box 210 bo 0,Iv kind,Iv node,Iv stream,Iv c] (look (outH bo nv iv s)) fun d H'=>d=.tup []∧∃ iv',H'=look (outH bo nv iv' (putV s kind node stream c)):=by
 refine DCall.intro ti_ok Tryz.func211 rfl (by decide +kernel) Tryz.ntmps211 rfl fun Γ=>?_
 have hor:=outerV_r h0 h1
 apply Sq
 refine Tri.bitsG ti_ok mixed (α:=Nat) (fun c10 f=>[(0,.box 210 bo 0),(1,Iv kind),(2,Iv node),(3,Iv stream),(4,Iv c),(11,bif f 0 then Iv kind else .any),(12,bif f 1 then Iv node else .any),(13,bif f 2 then Iv stream else .any),(14,bif f 3 then .box 210 bo 0 else .any),(15,bif f 4 then .box 210 bo 0 else .any),(16,bif f 5 then .box 210 bo 2 else .any),(17,bif f 6 then Iv s.count else .any),(18,bif f 7 then Iv c else .any),(19,bif f 8 then Iv (outerV c) else .any),(20,bif f 9 then .agg [Iv kind,Iv node,Iv stream,Iv s.count,Iv (outerV c)] else .any),(10,bif f 10 then .box 10 c10 0 else .any)])
  (fun c10 f=>look ([(210,.box bo [.raw nv,.sl (.own 211 iv) 5 (s.items.map encIT),Iv s.count]),(211,.own iv s.items.length 5 358)]++(bif f 11 then [(10,.box c10 [Iv kind,Iv node,Iv stream,Iv s.count,Iv (outerV c)])] else (bif f 10 then [(10,.box c10 [Iv 0,Iv 0,Iv 0,Iv 0,Iv 0])] else [])))) (by decide +kernel) 0 ?_ ?_ ?_ ?_
 ·exact ⟨.refl _,.refl _,.refl _,.refl _,.refl _,.any _,.any _,.any _,.any _,.any _,.any _,.any _,.any _,.any _,.any _,.any _,trivial⟩
 ·exact SubHF.of (hs:=[(210,.box bo [.raw nv,.sl (.own 211 iv) 5 (s.items.map encIT),Iv s.count]),(211,.own iv s.items.length 5 358)]) ⟨rfl,Y⟩
 ·(conv=>whnf);refine Qo ?_;refine Qo ?_;refine Qo ?_;refine Qo ?_;refine Qo ?_;refine Qo ?_;refine ⟨fun c10 f hI=>?_,?_⟩
  ·obtain ⟨f,rfl⟩:= hI.o f 11 6;apply Ti;apply Rl;(conv=>whnf);exact Ex c10
  refine Qo ?_;refine ⟨fun c10 f hI=>?_,?_⟩
  ·obtain ⟨f,rfl⟩:= hI.o f 11 8;apply Ti;(conv=>whnf);refine ⟨[Iv c],_,fun _=>H271 c h0 h1,Z,?_⟩;(conv=>whnf);exact Ex c10
  refine Qo ?_;refine ⟨fun c10 f hI=>?_,?_⟩
  ·obtain ⟨f,rfl⟩:= hI.o f 11 10;apply Ti;(conv=>whnf);intro pnb;(conv=>whnf);exact Ex pnb (SubHF.of (hs:=[(210,.box bo [.raw nv,.sl (.own 211 iv) 5 (s.items.map encIT),Iv s.count]),(211,.own iv s.items.length 5 358),(10,.box pnb [Iv 0,Iv 0,Iv 0,Iv 0,Iv 0])]) (by exact ⟨rfl,Y⟩))
  refine ⟨fun c10 f hI=>?_,?_⟩
  ·(conv=>whnf);apply Ti;apply Rl;(conv=>whnf);exact Ex c10 (SubHF.of (hs:=[(210,.box bo [.raw nv,.sl (.own 211 iv) 5 (s.items.map encIT),Iv s.count]),(211,.own iv s.items.length 5 358),(10,.box c10 [Iv kind,Iv node,Iv stream,Iv s.count,Iv (outerV c)])]) (by exact ⟨rfl,Y⟩))
  exact trivial
 intro c10 f hfl;obtain ⟨f,rfl⟩:=onAll f 12 (by exact hfl);clear hfl;(conv=>whnf);refine Tri.forgetG [(0,.box 210 bo 0),(1,Iv kind),(2,Iv node),(3,Iv stream),(4,Iv c),(10,.box 10 c10 0)] (look [(210,.box bo [.raw nv,.sl (.own 211 iv) 5 (s.items.map encIT),Iv s.count]),(211,.own iv s.items.length 5 358),(10,.box c10 [Iv kind,Iv node,Iv stream,Iv s.count,Iv (outerV c)])]) (.same (by exact Z) (SubHF.of (hs:=[(210,.box bo [.raw nv,.sl (.own 211 iv) 5 (s.items.map encIT),Iv s.count]),(211,.own iv s.items.length 5 358),(10,.box c10 [Iv kind,Iv node,Iv stream,Iv s.count,Iv (outerV c)])]) (by exact ⟨rfl,Y⟩))) ?_;(conv=>whnf);apply Sq
 refine Tri.bitsG ti_ok mixed (α:=Value) (fun y f=>[(0,.box 210 bo 0),(1,Iv kind),(2,Iv node),(3,Iv stream),(4,Iv c),(10,.box 10 c10 0),(21,bif f 0 then .box 210 bo 0 else .any),(22,bif f 1 then .box 210 bo 0 else .any),(23,bif f 2 then .box 210 bo 0 else .any),(24,bif f 3 then .box 210 bo 1 else .any),(25,bif f 4 then .sl (.own 211 iv) 5 (s.items.map encIT) else .any),(26,bif f 5 then .agg [Iv kind,Iv node,Iv stream,Iv s.count,Iv (outerV c)] else .any),(27,bif f 6 then .sl .full 5 [.agg [Iv kind,Iv node,Iv stream,Iv s.count,Iv (outerV c)]] else .any),(28,bif f 7 then .sl (.own 28 y) 5 (s.items.map encIT++[D.agg [Iv kind,Iv node,Iv stream,Iv s.count,Iv (outerV c)]]) else .any),(29,bif f 8 then .box 210 bo 0 else .any),(30,bif f 9 then .box 210 bo 1 else .any)])
  (fun y f=>look ([(210,.box bo (bif f 10 then [.raw nv,.sl (.own 28 y) 5 (s.items.map encIT++[D.agg [Iv kind,Iv node,Iv stream,Iv s.count,Iv (outerV c)]]),Iv s.count] else [.raw nv,.sl (.own 211 iv) 5 (s.items.map encIT),Iv s.count])),(10,.box c10 [Iv kind,Iv node,Iv stream,Iv s.count,Iv (outerV c)])]++(bif f 7 then [] else [(211,.own iv s.items.length 5 358)])++(bif f 7 then [(28,.own y (((s.items.map encIT).length+([.agg [Iv kind,Iv node,Iv stream,Iv s.count,Iv (outerV c)]]:List D).length)) 5 358)] else []))) (by decide +kernel) Value.nilFunc ?_ ?_ ?_ ?_
 ·exact ⟨.refl _,.refl _,.refl _,.refl _,.refl _,.refl _,.any _,.any _,.any _,.any _,.any _,.any _,.any _,.any _,.any _,.any _,trivial⟩
 ·exact SubHF.of (hs:=[(210,.box bo [.raw nv,.sl (.own 211 iv) 5 (s.items.map encIT),Iv s.count]),(10,.box c10 [Iv kind,Iv node,Iv stream,Iv s.count,Iv (outerV c)]),(211,.own iv s.items.length 5 358)]) ⟨rfl,Y⟩
 ·(conv=>whnf);refine Qo ?_;refine Qo ?_;refine Qo ?_;refine Qo ?_;refine ⟨fun y f hI=>?_,?_⟩
  ·obtain ⟨f,rfl⟩:= hI.o f 7 4;obtain ⟨f,rfl⟩:= hI.o f 10 4;apply Ti;apply Rl;(conv=>whnf);exact Ex y
  refine ⟨fun y f hI=>?_,?_⟩
  ·obtain ⟨f,rfl⟩:= hI.o f 7 6 (hI.n 6 5);obtain ⟨f,rfl⟩:= hI.o f 10 5;apply Ti;apply Rl;(conv=>whnf);exact Ex y
  refine ⟨fun y f hI=>?_,?_⟩
  ·obtain ⟨f,rfl⟩:= hI.o f 7 6;obtain ⟨f,rfl⟩:= hI.o f 10 6;apply Ti;(conv=>whnf);refine ⟨trivial,?_⟩;(conv=>whnf);exact Ex y
  refine ⟨fun y f hI=>?_,?_⟩
  ·obtain ⟨f,rfl⟩:= hI.o f 10 7;apply Ti;(conv=>whnf);refine ⟨rfl,by simp,?_⟩;(conv=>whnf)
   refine ⟨by show (_+1)*40≤_; simp; omega,by show _+1≤_; simp; omega,(fun h=>by cases h),fun pnv=>?_⟩
   (conv=>whnf);exact Ex pnv (SubHF.of (hs:=[(210,.box bo [.raw nv,.sl (.own 211 iv) 5 (s.items.map encIT),Iv s.count]),(10,.box c10 [Iv kind,Iv node,Iv stream,Iv s.count,Iv (outerV c)]),(28,.own pnv (((s.items.map encIT).length+([.agg [Iv kind,Iv node,Iv stream,Iv s.count,Iv (outerV c)]]:List D).length)) 5 358)]) (by exact ⟨rfl,Y⟩))
  refine Qo ?_;refine Qo ?_;refine ⟨fun y f hI=>?_,?_⟩
  ·(conv=>whnf);apply Ti;apply Rl;(conv=>whnf);exact Ex y (SubHF.of (hs:=[(210,.box bo [.raw nv,.sl (.own 28 y) 5 (s.items.map encIT++[D.agg [Iv kind,Iv node,Iv stream,Iv s.count,Iv (outerV c)]]),Iv s.count]),(10,.box c10 [Iv kind,Iv node,Iv stream,Iv s.count,Iv (outerV c)]),(28,.own y (((s.items.map encIT).length+([.agg [Iv kind,Iv node,Iv stream,Iv s.count,Iv (outerV c)]]:List D).length)) 5 358)]) (by exact ⟨rfl,Y⟩))
  exact trivial
 intro y f hfl;obtain ⟨f,rfl⟩:=onAll f 11 (by exact hfl);clear hfl;(conv=>whnf);refine Tri.forgetG [(0,.box 210 bo 0),(10,.box 10 c10 0)] (look [(210,.box bo [.raw nv,.sl (.own 28 y) 5 (s.items.map encIT++[D.agg [Iv kind,Iv node,Iv stream,Iv s.count,Iv (outerV c)]]),Iv s.count]),(10,.box c10 [Iv kind,Iv node,Iv stream,Iv s.count,Iv (outerV c)]),(28,.own y (((s.items.map encIT).length+([.agg [Iv kind,Iv node,Iv stream,Iv s.count,Iv (outerV c)]]:List D).length)) 5 358)]) (.same (by exact Z) (SubHF.of (hs:=[(210,.box bo [.raw nv,.sl (.own 28 y) 5 (s.items.map encIT++[D.agg [Iv kind,Iv node,Iv stream,Iv s.count,Iv (outerV c)]]),Iv s.count]),(10,.box c10 [Iv kind,Iv node,Iv stream,Iv s.count,Iv (outerV c)]),(28,.own y (((s.items.map encIT).length+([.agg [Iv kind,Iv node,Iv stream,Iv s.count,Iv (outerV c)]]:List D).length)) 5 358)]) (by exact ⟨rfl,Y⟩))) ?_;(conv=>whnf);(conv=>whnf);refine Tri.boxLe 210 (cs':=[.raw nv,.sl (.own 211 y) 5 ((putV s kind node stream c).items.map encIT),Iv s.count]) rfl ⟨.refl _,DLe.ownEq (by simp [putV,encIT]),.refl _,trivial⟩ ?_;refine Tri.endsK ?_;refine Tri.drawTail ti_ok 7 mixed (by kernel_rfl) ?_;apply Rl;apply Rl;refine Ir ?_;refine Ir ?_;apply Rl;(conv=>whnf);exact ⟨[],outH bo nv y (putV s kind node stream c),[(210,210),(211,28)],⟨trivial,rfl,rfl,rfl,rfl,ownH (by simp [putV]),trivial⟩,.tup [],trivial,rfl,y,rfl⟩
mutual
def preN:NV→List NV
 | .mk a b c d e f g h i j ks ss=>.mk a b c d e f g h i j ks ss::preK ks
def preK:List NV→List NV
 | []=>[]
 | n::r=>preN n++preK r
end
theorem preN_eq (n:NV):preN n=n::preK n.kids:=by cases n; simp only [preN]
theorem preK_app:∀ a b:List NV,preK (a++b)=preK a++preK b
 | [],b=>rfl
 | n::r,b=>by simp only [List.cons_append,preK,preK_app r b,List.append_assoc]
theorem preK_next {l:List NV} {i:Nat} (h:i<l.length):preK (l.take (i+1))=preK (l.take i)++preN l[i]:=by
 rw [List.take_succ_eq_append_getElem h,preK_app]; simp only [preK,List.append_nil]
mutual
theorem preN_len:∀ n:NV,(preN n).length≤sz n
 | .mk a b c d e f g h i j ks ss=>by
  have:=preK_len ks
  simp only [preN,List.length_cons,sz]; omega
theorem preK_len:∀ l:List NV,(preK l).length≤szL l
 | []=>by simp [preK]
 | n::r=>by
  have h1:=preN_len n
  have h2:=preK_len r
  simp only [preK,List.length_append,szL]; omega
end
def entK (n:NV) (K:D):D:=.agg [.str n.name,Iv n.kind,.str n.text,.str n.target,Iv n.n1,Iv n.n2,Iv n.n3,Iv n.n4,Iv n.n5,Iv n.n6,.sl .none 12 (n.kids.map enc),.sl .none 2 (n.streams.map encS),.any,.any,K,.any]
def entA (n:NV):D:=entK n .any
theorem row_le {xs ys:List D} {a b:D} (h:LeL a.cells b.cells):LeL (flat (xs++a::ys)) (flat (xs++b::ys)):=by
 have e:∀ z:D,flat (xs++z::ys)=flat xs++(z.cells++flat ys):=fun z=>by simp [flat]
 rw [e,e];exact LeL.app (LeL.refl _) (LeL.app h (LeL.refl _))
theorem row_cells {xs ys:List D} {b:D} {k:Nat} (h1:∀ x∈xs,x.cells.length=k) (h2:b.cells.length=k) (h3:∀ x∈ys,x.cells.length=k):∀ x∈xs++b::ys,x.cells.length=k:=fun x hx=>by
 rcases List.mem_append.1 hx with h|h
 ·exact h1 x h
 rcases List.mem_cons.1 h with rfl|h
 ·exact h2
 exact h3 x h
theorem set_mid {a b:D} (xs r:List D):(xs++a::r).set xs.length b=xs++b::r:=by simp
theorem entA_cells (l:List NV):∀ x∈l.map entA,x.cells.length=16:=fun x hx=>by
 obtain ⟨n,_,rfl⟩:=List.mem_map.1 hx; rfl
def addH (bo:Nat) (nv:Value) (xs:List D):List (Nat×HObj):=[(210,.box bo [.raw nv,.nils,Iv 0]),(203,.row nv xs 16 296)]
theorem szl_at {n:NV} {i:Nat} (h:i<n.kids.length):szL (n.kids.take i)+sz n.kids[i]+1≤sz n∧sz n.kids[i]<sz n:=by
 have h1:∀ {l:List NV} {i:Nat} (h:i<l.length),szL (l.take i)+sz l[i]≤szL l:=by
  intro l
  induction l with
  | nil=>intro i h; simp at h
  | cons k r ih =>
   intro i h
   cases i with
   | zero=>simp only [List.take_zero,szL,List.getElem_cons_zero]; omega
   | succ i =>
    have:=ih (i:=i) (by simpa using h)
    simp only [List.take_succ_cons,szL,List.getElem_cons_succ]; omega
 have h2:=h1 h
 have h3:szL n.kids+1≤sz n:=by cases n; simp only [sz]; omega
 omega
theorem H209 (bo:Nat):∀ (N:Nat) (n:NV) (path:List UInt8) (parent:Int) (xs:List D) (nv:Value),sz n<N→path.length+sz n<1000000000→xs.length+sz n<10000000→(∀ x∈xs,x.cells.length=16) →    DCall Tryz.prog W0 209 [.box 210 bo 0,encTop n,.str path,Iv parent] (look (addH bo nv xs)) fun d H'=>d=Iv (xs.length:Nat)∧∃ aa pn pc,H'=look (addH bo (.slice aa pn pc) (xs++(preN n).map entA)):=by
 refine fun N=>Nat.rec (fun n path parent xs nv h=>absurd h (Nat.not_lt_zero _)) (fun N ih n path parent xs nv hN hp hx hx16=>?_) N
 refine DCall.intro ti_ok Tryz.func209 rfl (by decide +kernel) Tryz.ntmps209 rfl fun Γ=>?_
 refine Tri.rowKnow0 203 rfl (fun a cap hv _ _=>?_);subst hv;apply Sr;(conv=>whnf);intro b5;apply Sq;refine Tri.regionX ti_ok ?_;apply Il;apply Rl;apply Sq
 refine Tri.bitsG ti_ok mixed (α:=(Option Addr×Nat×Nat)) (fun yv f=>[(0,.box 210 bo 0),(2,.str path),(3,Iv parent),(5,.box 5 b5 0),(9,Iv (xs.length:Nat)),(19,bif f 0 then .box 210 bo 0 else .any),(20,bif f 1 then .box 210 bo 0 else .any),(21,bif f 2 then .box 210 bo 0 else .any),(22,bif f 3 then .box 210 bo 0 else .any),(23,bif f 4 then .raw (.slice a xs.length cap) else .any),(24,bif f 5 then encTop n else .any),(25,bif f 6 then .str path else .any),(26,bif f 7 then Iv parent else .any),(27,bif f 8 then .agg [.str n.name,Iv n.kind,.str n.text,.str n.target,Iv n.n1,Iv n.n2,Iv n.n3,Iv n.n4,Iv n.n5,Iv n.n6,.sl .none 12 (n.kids.map enc),.sl .none 2 (n.streams.map encS),.str path,Iv parent,.nils,Iv 0] else .any),(28,bif f 9 then .sl .full 16 [.agg [.str n.name,Iv n.kind,.str n.text,.str n.target,Iv n.n1,Iv n.n2,Iv n.n3,Iv n.n4,Iv n.n5,Iv n.n6,.sl .none 12 (n.kids.map enc),.sl .none 2 (n.streams.map encS),.str path,Iv parent,.nils,Iv 0]] else .any),(29,bif f 10 then .raw (.slice yv.1 yv.2.1 yv.2.2) else .any),(30,bif f 11 then .box 210 bo 0 else .any),(31,bif f 12 then .box 210 bo 0 else .any)])
  (fun yv f=>look ([(210,.box bo (bif f 13 then [.raw (.slice yv.1 yv.2.1 yv.2.2),.nils,Iv 0] else [.raw (.slice a xs.length cap),.nils,Iv 0])),(5,.box b5 (encTop n).cells)]++(bif f 10 then [] else [(203,.row (.slice a xs.length cap) xs 16 296)])++(bif f 10 then [(29,.row (.slice yv.1 yv.2.1 yv.2.2) (xs++[D.agg [.str n.name,Iv n.kind,.str n.text,.str n.target,Iv n.n1,Iv n.n2,Iv n.n3,Iv n.n4,Iv n.n5,Iv n.n6,.sl .none 12 (n.kids.map enc),.sl .none 2 (n.streams.map encS),.str path,Iv parent,.nils,Iv 0]]) 16 296)] else []))) (by decide +kernel) (none,0,0) ?_ ?_ ?_ ?_
 ·exact ⟨.refl _,.refl _,.refl _,.refl _,.refl _,.any _,.any _,.any _,.any _,.any _,.any _,.any _,.any _,.any _,.any _,.any _,.any _,.any _,trivial⟩
 ·exact SubHF.of (hs:=[(210,.box bo [.raw (.slice a xs.length cap),.nils,Iv 0]),(5,.box b5 (encTop n).cells),(203,.row (.slice a xs.length cap) xs 16 296)]) ⟨rfl,Y⟩
 ·(conv=>whnf);refine Qo ?_;refine Qo ?_;refine Qo ?_;refine Qo ?_;refine ⟨fun yv f hI=>?_,?_⟩
  ·obtain ⟨f,rfl⟩:= hI.o f 10 4;obtain ⟨f,rfl⟩:= hI.o f 13 4;apply Ti;apply Rl;(conv=>whnf);exact Ex yv
  refine ⟨fun yv f hI=>?_,?_⟩
  ·obtain ⟨f,rfl⟩:= hI.o f 10 9 (hI.n 9 8 (hI.n 8 5));obtain ⟨f,rfl⟩:= hI.o f 13 5;apply Ti;apply Rl;(conv=>whnf);exact Ex yv
  refine Qo ?_;refine Qo ?_;refine Qo ?_;refine ⟨fun yv f hI=>?_,?_⟩
  ·obtain ⟨f,rfl⟩:= hI.o f 10 9;obtain ⟨f,rfl⟩:= hI.o f 13 9;apply Ti;(conv=>whnf);refine ⟨trivial,?_⟩;(conv=>whnf);exact Ex yv
  refine ⟨fun yv f hI=>?_,?_⟩
  ·obtain ⟨f,rfl⟩:= hI.o f 13 10;apply Tk
   refine XOp.rowAppend ti_ok 203 rfl rfl rfl (fun h=>by cases h) rfl rfl rfl (by simp) (by show (_+1)*208≤_; omega) (by show _+1≤_; omega) (fun aa pn pc=>?_)
   (conv=>whnf);exact Ex (aa,pn,pc) (SubHF.of (hs:=[(210,.box bo [.raw (.slice a xs.length cap),.nils,Iv 0]),(5,.box b5 (encTop n).cells),(29,.row (.slice (aa,pn,pc).1 (aa,pn,pc).2.1 (aa,pn,pc).2.2) (xs++[D.agg [.str n.name,Iv n.kind,.str n.text,.str n.target,Iv n.n1,Iv n.n2,Iv n.n3,Iv n.n4,Iv n.n5,Iv n.n6,.sl .none 12 (n.kids.map enc),.sl .none 2 (n.streams.map encS),.str path,Iv parent,.nils,Iv 0]]) 16 296)]) (by exact ⟨rfl,Y⟩))
  refine Qo ?_;refine Qo ?_;refine ⟨fun yv f hI=>?_,?_⟩
  ·(conv=>whnf);apply Ti;apply Rl;(conv=>whnf);exact Ex yv (SubHF.of (hs:=[(210,.box bo [.raw (.slice yv.1 yv.2.1 yv.2.2),.nils,Iv 0]),(5,.box b5 (encTop n).cells),(29,.row (.slice yv.1 yv.2.1 yv.2.2) (xs++[D.agg [.str n.name,Iv n.kind,.str n.text,.str n.target,Iv n.n1,Iv n.n2,Iv n.n3,Iv n.n4,Iv n.n5,Iv n.n6,.sl .none 12 (n.kids.map enc),.sl .none 2 (n.streams.map encS),.str path,Iv parent,.nils,Iv 0]]) 16 296)]) (by exact ⟨rfl,Y⟩))
  exact trivial
 intro yv f hfl;obtain ⟨f,rfl⟩:=onAll f 14 (by exact hfl);clear hfl;obtain ⟨aa,pn,pc⟩:=yv;(conv=>whnf);refine Tri.forgetG [(0,.box 210 bo 0),(2,.str path),(5,.box 5 b5 0),(9,Iv (xs.length:Nat))] (look [(210,.box bo [.raw (.slice aa pn pc),.nils,Iv 0]),(5,.box b5 (encTop n).cells),(29,.row (.slice aa pn pc) (xs++[D.agg [.str n.name,Iv n.kind,.str n.text,.str n.target,Iv n.n1,Iv n.n2,Iv n.n3,Iv n.n4,Iv n.n5,Iv n.n6,.sl .none 12 (n.kids.map enc),.sl .none 2 (n.streams.map encS),.str path,Iv parent,.nils,Iv 0]]) 16 296)]) (.same (by exact Z) (SubHF.of (hs:=[(210,.box bo [.raw (.slice aa pn pc),.nils,Iv 0]),(5,.box b5 (encTop n).cells),(29,.row (.slice aa pn pc) (xs++[D.agg [.str n.name,Iv n.kind,.str n.text,.str n.target,Iv n.n1,Iv n.n2,Iv n.n3,Iv n.n4,Iv n.n5,Iv n.n6,.sl .none 12 (n.kids.map enc),.sl .none 2 (n.streams.map encS),.str path,Iv parent,.nils,Iv 0]]) 16 296)]) (by exact ⟨rfl,Y⟩))) ?_;(conv=>whnf)
 have hcl:=entA_cells
 refine Tri.ownNil 205 1 3 ?_;refine Tri.rowLe 29 (xs:=xs++[D.agg [.str n.name,Iv n.kind,.str n.text,.str n.target,Iv n.n1,Iv n.n2,Iv n.n3,Iv n.n4,Iv n.n5,Iv n.n6,.sl .none 12 (n.kids.map enc),.sl .none 2 (n.streams.map encS),.str path,Iv parent,.nils,Iv 0]]) (ys:=xs++[entK n (.sl (.own 205 (.slice none 0 0)) 1 [])]) rfl (by simp) (row_cells hx16 rfl (fun x hx=>by cases hx)) (row_le ⟨.refl _,.refl _,.refl _,.refl _,.refl _,.refl _,.refl _,.refl _,.refl _,.refl _,.refl _,.refl _,.any _,.any _,DLe.nilOwn,.any _,trivial⟩) ?_;apply Sq;apply Sr;apply Rl;apply Bk
 refine Tri.loopK (α:={ p:Nat×List D // p.1≤n.kids.length∧p.2.length≤p.1 }×Value×Value) (fun x=>[(0,.box 210 bo 0),(2,.str path),(9,Iv (xs.length:Nat)),(33,.sl .none 12 (n.kids.map enc)),(34,Iv ((n.kids.map enc).length:Nat)),(35,Iv (x.1.1.1:Nat))])
  (fun x=>[(210,.box bo [.raw x.2.1,.nils,Iv 0]),(203,.row x.2.1 (xs++entK n (.sl (.own 205 x.2.2) 1 x.1.1.2)::(preK (n.kids.take x.1.1.1)).map entA) 16 296),(205,.own x.2.2 x.1.1.2.length 1 3)])
  (fun x=>n.kids.length-x.1.1.1) (⟨(0,[]),by simp,by simp⟩,.slice aa pn pc,.slice none 0 0) [(210,210),(203,29),(205,205)] ⟨Z,rfl,Y⟩ ?_
 rintro ⟨⟨⟨i,ks⟩,hi,hks⟩,nv1,kv⟩;dsimp only at hi hks ⊢;apply Sr;apply Sq;refine Cd (decide ((i:Int)<((n.kids.map enc).length:Nat))) rfl (fun hc=>?_) (fun hc=>?_)
 ·apply Sk
  have hia:i<n.kids.length:=by simpa using hc
  have hget:(n.kids.map enc)[i]? = some (encTop n.kids[i]):=by simp [hia,enc_eq]
  have hszk:=szL_get hia
  have hszn:=sz_eq n
  have hszt:=szl_at hia
  have hpl:=preK_len (n.kids.take i)
  have hkl0:=szL_len n.kids
  have hnx:=preK_next hia
  have hR16:∀ x∈xs++entK n (.sl (.own 205 kv) 1 ks)::(preK (n.kids.take i)).map entA,x.cells.length=16:=row_cells hx16 rfl (entA_cells _)
  have hRl:(xs++entK n (.sl (.own 205 kv) 1 ks)::(preK (n.kids.take i)).map entA).length=xs.length+1+(preK (n.kids.take i)).length:=by simp; omega
  apply Sq;apply Bk;apply Sr;(conv=>whnf)
  refine ⟨fun _=>by rw [List.length_map]; omega,?_⟩
  (conv=>whnf);refine ⟨encTop n.kids[i],fun _=>hget,?_⟩;(conv=>whnf);intro b11;apply Rl;apply Sr;apply Rl;(conv=>whnf);generalize hkk:n.kids[i]=kk at *;refine Tri.joinK (α:={ b:List UInt8 // b.length≤path.length+1+kk.name.length }) (fun x=>[(0,.box 210 bo 0),(2,.str path),(9,Iv (xs.length:Nat)),(11,.box 11 b11 0),(12,.str x.1),(33,.sl .none 12 (n.kids.map enc)),(34,Iv ((n.kids.map enc).length:Nat)),(35,Iv (i:Nat))]) (fun x=>[(210,.box bo [.raw nv1,.nils,Iv 0]),(203,.row nv1 (xs++entK n (.sl (.own 205 kv) 1 ks)::(preK (n.kids.take i)).map entA) 16 296),(205,.own kv ks.length 1 3),(11,.box b11 (encTop kk).cells)]) ?_ ?_
  ·apply Sr;refine Cd (!(path==[])) rfl (fun hc2=>?_) (fun hc2=>?_)
   ·apply Rg;(conv=>whnf);refine Sp ?_;apply Rl;(conv=>whnf);refine Sp ?_;(conv=>whnf)
    exact ⟨⟨(path++[47])++kk.name,by simp; omega⟩,[(210,210),(203,203),(205,205),(11,11)],Z,rfl,Y⟩
   apply Sk;(conv=>whnf);exact ⟨⟨kk.name,by omega⟩,[(210,210),(203,203),(205,205),(11,11)],Z,rfl,Y⟩
  rintro ⟨below,hbel⟩;apply Sq;refine Tri.regionX ti_ok ?_;apply Il;apply Rl;(conv=>whnf);refine .inr (XOp.call rfl [.box 210 bo 0,encTop kk,.str below,Iv (xs.length:Nat)] [(210,210),(203,203)] (DCall.heapL (by exact ⟨rfl,Y⟩) (ih kk below (xs.length:Nat) (xs++entK n (.sl (.own 205 kv) 1 ks)::(preK (n.kids.take i)).map entA) nv1 (by omega) (by omega) (by omega) hR16)) rfl Z ?_);rintro d H' ⟨rfl,a2,n2,c2,rfl⟩;refine ⟨_,.refl _,?_⟩;(conv=>whnf)
  have heq:(xs++entK n (.sl (.own 205 kv) 1 ks)::(preK (n.kids.take i)).map entA)++(preN kk).map entA=xs++entK n (.sl (.own 205 kv) 1 ks)::(preK (n.kids.take (i+1))).map entA:=by rw [hnx]; simp
  have hkl:=preK_len (n.kids.take (i+1))
  refine Tri.forgetK [(0,.box 210 bo 0),(2,.str path),(9,Iv (xs.length:Nat)),(13,Iv ((xs++entK n (.sl (.own 205 kv) 1 ks)::(preK (n.kids.take i)).map entA).length:Nat)),(33,.sl .none 12 (n.kids.map enc)),(34,Iv ((n.kids.map enc).length:Nat)),(35,Iv (i:Nat))] [(210,.box bo [.raw (.slice a2 n2 c2),.nils,Iv 0]),(203,.row (.slice a2 n2 c2) (xs++entK n (.sl (.own 205 kv) 1 ks)::(preK (n.kids.take (i+1))).map entA) 16 296),(205,.own kv ks.length 1 3)] [(210,210),(203,203),(205,205)] ⟨Z,rfl,rfl,rfl,rfl,congrArg (fun z=>some (HObj.row (.slice a2 n2 c2) z 16 296)) heq,rfl,Y⟩ ?_
  have hR2:∀ x∈(preK (n.kids.take (i+1))).map entA,x.cells.length=16:=entA_cells _
  generalize hR2e:(preK (n.kids.take (i+1))).map entA=R2 at *;generalize (xs++entK n (.sl (.own 205 kv) 1 ks)::(preK (n.kids.take i)).map entA).length=kx at *
  have hlt:xs.length<(xs++entK n (.sl (.own 205 kv) 1 ks)::R2).length:=by simp
  have hge:(xs++entK n (.sl (.own 205 kv) 1 ks)::R2)[xs.length]? = some (entK n (.sl (.own 205 kv) 1 ks)):=by simp
  refine Tri.bitsG ti_ok mixed (α:=Value) (fun yk f=>[(0,.box 210 bo 0),(2,.str path),(9,Iv (xs.length:Nat)),(13,Iv (kx:Nat)),(33,.sl .none 12 (n.kids.map enc)),(34,Iv ((n.kids.map enc).length:Nat)),(35,Iv (i:Nat)),(53,bif f 0 then .box 210 bo 0 else .any),(54,bif f 1 then .box 210 bo 0 else .any),(55,bif f 2 then .box 210 bo 0 else .any),(56,bif f 3 then .raw (.slice a2 n2 c2) else .any),(57,bif f 4 then Iv (xs.length:Nat) else .any),(58,bif f 5 then .box 210 bo 0 else .any),(59,bif f 6 then .box 210 bo 0 else .any),(60,bif f 7 then .box 210 bo 0 else .any),(61,bif f 8 then .raw (.slice a2 n2 c2) else .any),(62,bif f 9 then Iv (xs.length:Nat) else .any),(63,bif f 10 then .raw (rowPtr (.slice a2 n2 c2) (((xs.length:Nat):Int).toNat*16)) else .any),(64,bif f 11 then .raw (rowPtr (.slice a2 n2 c2) (((xs.length:Nat):Int).toNat*16+14)) else .any),(65,bif f 12 then .sl (.own 205 kv) 1 ks else .any),(66,bif f 13 then Iv (kx:Nat) else .any),(67,bif f 14 then .sl .full 1 [Iv (kx:Nat)] else .any),(68,bif f 15 then .sl (.own 68 yk) 1 (ks++[Iv (kx:Nat)]) else .any),(69,bif f 16 then .raw (rowPtr (.slice a2 n2 c2) (((xs.length:Nat):Int).toNat*16)) else .any),(70,bif f 17 then .raw (rowPtr (.slice a2 n2 c2) (((xs.length:Nat):Int).toNat*16+14)) else .any)])
   (fun yk f=>look ([(210,.box bo [.raw (.slice a2 n2 c2),.nils,Iv 0])]++(bif f 18 then [(203,.row (.slice a2 n2 c2) ((xs++entK n (.sl (.own 205 kv) 1 ks)::R2).set xs.length (D.agg [.str n.name,Iv n.kind,.str n.text,.str n.target,Iv n.n1,Iv n.n2,Iv n.n3,Iv n.n4,Iv n.n5,Iv n.n6,.sl .none 12 (n.kids.map enc),.sl .none 2 (n.streams.map encS),.any,.any,.sl (.own 68 yk) 1 (ks++[Iv (kx:Nat)]),.any])) 16 296)] else [(203,.row (.slice a2 n2 c2) (xs++entK n (.sl (.own 205 kv) 1 ks)::R2) 16 296)])++(bif f 15 then [] else [(205,.own kv ks.length 1 3)])++(bif f 15 then [(68,.own yk (ks.length+[Iv (kx:Nat)].length) 1 3)] else []))) (by decide +kernel) Value.nilFunc ?_ ?_ ?_ ?_
  ·exact ⟨.refl _,.refl _,.refl _,.refl _,.refl _,.refl _,.refl _,.any _,.any _,.any _,.any _,.any _,.any _,.any _,.any _,.any _,.any _,.any _,.any _,.any _,.any _,.any _,.any _,.any _,.any _,trivial⟩
  ·exact SubHF.of (hs:=[(210,.box bo [.raw (.slice a2 n2 c2),.nils,Iv 0]),(203,.row (.slice a2 n2 c2) (xs++entK n (.sl (.own 205 kv) 1 ks)::R2) 16 296),(205,.own kv ks.length 1 3)]) ⟨rfl,Y⟩
  ·(conv=>whnf);refine Qo ?_;refine Qo ?_;refine Qo ?_;refine ⟨fun yk f hI=>?_,?_⟩
   ·obtain ⟨f,rfl⟩:= hI.o f 18 3;apply Ti;apply Rl;(conv=>whnf);exact Ex yk
   refine Qo ?_;refine Qo ?_;refine Qo ?_;refine Qo ?_;refine ⟨fun yk f hI=>?_,?_⟩
   ·obtain ⟨f,rfl⟩:= hI.o f 15 12 (hI.n 12 11 (hI.n 11 10 (hI.n 10 8)));obtain ⟨f,rfl⟩:= hI.o f 18 8;apply Ti;apply Rl;(conv=>whnf);exact Ex yk
   refine Qo ?_;refine ⟨fun yk f hI=>?_,?_⟩
   ·obtain ⟨f,rfl⟩:= hI.o f 15 12 (hI.n 12 11 (hI.n 11 10));obtain ⟨f,rfl⟩:= hI.o f 18 10;apply Tk;refine XOp.rowIndex ti_ok 203 rfl rfl rfl rfl rfl rfl rfl (by omega) (Int.ofNat_lt.2 hlt) ?_;(conv=>whnf);exact Ex yk
   refine ⟨fun yk f hI=>?_,?_⟩
   ·obtain ⟨f,rfl⟩:= hI.o f 15 12 (hI.n 12 11);obtain ⟨f,rfl⟩:= hI.o f 18 11;apply Tk;refine XOp.rowField ti_ok 203 (i:=xs.length) rfl rfl hlt rfl rfl rfl (by decide) ?_;(conv=>whnf);exact Ex yk
   refine ⟨fun yk f hI=>?_,?_⟩
   ·obtain ⟨f,rfl⟩:= hI.o f 15 12;obtain ⟨f,rfl⟩:= hI.o f 18 12;apply Tk
    refine XOp.rowLoadF ti_ok 203 (i:=xs.length) (j:=14) (by rw [Int.toNat_natCast]; rfl) rfl rfl hge ?_
    (conv=>whnf);exact Ex yk
   refine Qo ?_;refine ⟨fun yk f hI=>?_,?_⟩
   ·obtain ⟨f,rfl⟩:= hI.o f 15 14;obtain ⟨f,rfl⟩:= hI.o f 18 14;apply Ti;(conv=>whnf);refine ⟨trivial,?_⟩;(conv=>whnf);exact Ex yk
   refine ⟨fun yk f hI=>?_,?_⟩
   ·obtain ⟨f,rfl⟩:= hI.o f 18 15;apply Tk
    refine XOp.ownAppendQ ti_ok 205 205 rfl rfl rfl (fun h=>by cases h) rfl rfl rfl (by show (_+1)*8≤_; omega) (by show _+1≤_; omega) (fun pnv=>?_)
    (conv=>whnf);exact Ex pnv (SubHF.of (hs:=[(210,.box bo [.raw (.slice a2 n2 c2),.nils,Iv 0]),(203,.row (.slice a2 n2 c2) (xs++entK n (.sl (.own 205 kv) 1 ks)::R2) 16 296),(68,.own pnv (ks.length+[Iv (kx:Nat)].length) 1 3)]) (by exact ⟨rfl,Y⟩))
   refine ⟨fun yk f hI=>?_,?_⟩
   ·obtain ⟨f,rfl⟩:= hI.o f 18 17 (hI.n 17 16);apply Tk;refine XOp.rowIndex ti_ok 203 rfl rfl rfl rfl rfl rfl rfl (by omega) (Int.ofNat_lt.2 hlt) ?_;(conv=>whnf);exact Ex yk
   refine ⟨fun yk f hI=>?_,?_⟩
   ·obtain ⟨f,rfl⟩:= hI.o f 18 17;apply Tk;refine XOp.rowField ti_ok 203 (i:=xs.length) rfl rfl hlt rfl rfl rfl (by decide) ?_;(conv=>whnf);exact Ex yk
   refine ⟨fun yk f hI=>?_,?_⟩
   ·(conv=>whnf);apply Tk
    refine XOp.rowStoreF ti_ok 203 (i:=xs.length) (j:=14) (by rw [Int.toNat_natCast]; rfl) rfl rfl rfl hge (by decide) rfl ?_
    (conv=>whnf);exact Ex yk (SubHF.of (hs:=[(210,.box bo [.raw (.slice a2 n2 c2),.nils,Iv 0]),(203,.row (.slice a2 n2 c2) ((xs++entK n (.sl (.own 205 kv) 1 ks)::R2).set xs.length (D.agg [.str n.name,Iv n.kind,.str n.text,.str n.target,Iv n.n1,Iv n.n2,Iv n.n3,Iv n.n4,Iv n.n5,Iv n.n6,.sl .none 12 (n.kids.map enc),.sl .none 2 (n.streams.map encS),.any,.any,.sl (.own 68 yk) 1 (ks++[Iv (kx:Nat)]),.any])) 16 296),(68,.own yk (ks.length+[Iv (kx:Nat)].length) 1 3)]) (by exact ⟨rfl,Y⟩))
   exact trivial
  intro yk f hfl;obtain ⟨f,rfl⟩:=onAll f 19 (by exact hfl);clear hfl;(conv=>whnf);refine Tri.forgetG [(0,.box 210 bo 0),(2,.str path),(9,Iv (xs.length:Nat)),(33,.sl .none 12 (n.kids.map enc)),(34,Iv ((n.kids.map enc).length:Nat)),(35,Iv (i:Nat))] (look [(210,.box bo [.raw (.slice a2 n2 c2),.nils,Iv 0]),(203,.row (.slice a2 n2 c2) ((xs++entK n (.sl (.own 205 kv) 1 ks)::R2).set xs.length (D.agg [.str n.name,Iv n.kind,.str n.text,.str n.target,Iv n.n1,Iv n.n2,Iv n.n3,Iv n.n4,Iv n.n5,Iv n.n6,.sl .none 12 (n.kids.map enc),.sl .none 2 (n.streams.map encS),.any,.any,.sl (.own 68 yk) 1 (ks++[Iv (kx:Nat)]),.any])) 16 296),(68,.own yk (ks.length+[Iv (kx:Nat)].length) 1 3)]) (.same (by exact Z) (SubHF.of (hs:=[(210,.box bo [.raw (.slice a2 n2 c2),.nils,Iv 0]),(203,.row (.slice a2 n2 c2) ((xs++entK n (.sl (.own 205 kv) 1 ks)::R2).set xs.length (D.agg [.str n.name,Iv n.kind,.str n.text,.str n.target,Iv n.n1,Iv n.n2,Iv n.n3,Iv n.n4,Iv n.n5,Iv n.n6,.sl .none 12 (n.kids.map enc),.sl .none 2 (n.streams.map encS),.any,.any,.sl (.own 68 yk) 1 (ks++[Iv (kx:Nat)]),.any])) 16 296),(68,.own yk (ks.length+[Iv (kx:Nat)].length) 1 3)]) (by exact ⟨rfl,Y⟩))) ?_;(conv=>whnf)
  refine Tri.rowLe 203 (xs:=(xs++entK n (.sl (.own 205 kv) 1 ks)::R2).set xs.length (D.agg [.str n.name,Iv n.kind,.str n.text,.str n.target,Iv n.n1,Iv n.n2,Iv n.n3,Iv n.n4,Iv n.n5,Iv n.n6,.sl .none 12 (n.kids.map enc),.sl .none 2 (n.streams.map encS),.any,.any,.sl (.own 68 yk) 1 (ks++[Iv (kx:Nat)]),.any])) (ys:=xs++entK n (.sl (.own 205 yk) 1 (ks++[Iv (kx:Nat)]))::R2) rfl (by simp) (row_cells hx16 rfl hR2) (by rw [set_mid]; exact row_le ⟨.refl _,.refl _,.refl _,.refl _,.refl _,.refl _,.refl _,.refl _,.refl _,.refl _,.refl _,.refl _,.any _,.any _,DLe.own _ _,.any _,trivial⟩) ?_
  apply Rg;refine Ir ?_;(conv=>whnf)
  exact ⟨(⟨(i+1,ks++[Iv (kx:Nat)]),hia,by simp; omega⟩,.slice a2 n2 c2,yk),[(210,210),(203,203),(205,68)],by show n.kids.length-(i+1)<n.kids.length-i; omega,Z,rfl,rfl,rfl,rfl,congrArg (fun z=>some (HObj.row (.slice a2 n2 c2) (xs++entK n (.sl (.own 205 yk) 1 (ks++[Iv (kx:Nat)]))::z) 16 296)) hR2e.symm,rfl,ownH (by simp),trivial⟩
 have hin:i=n.kids.length:=by simp at hc; omega
 subst hin;rw [List.take_length];refine Tri.exit ?_;(conv=>whnf)
 have hpre:(preN n).map entA=entA n::(preK n.kids).map entA:=by rw [preN_eq]; rfl
 refine Tri.rowLe 203 (ys:=xs++entA n::(preK n.kids).map entA) rfl (by simp) (row_cells hx16 rfl (entA_cells _)) (row_le ⟨.refl _,.refl _,.refl _,.refl _,.refl _,.refl _,.refl _,.refl _,.refl _,.refl _,.refl _,.refl _,.any _,.any _,.any _,.any _,trivial⟩) ?_;refine Tri.rowKnow0 203 rfl (fun a3 c3 hv3 _ _=>?_);subst hv3;apply Sr;(conv=>whnf);refine Tri.retK [(8,Iv (xs.length:Nat))] (addH bo (.slice a3 _ c3) (xs++entA n::(preK n.kids).map entA)) [(210,210),(203,203)] ⟨Z,rfl,Y⟩ ?_;(conv=>whnf)
 exact ⟨_,.refl _,rfl,a3,_,c3,by rw [hpre]; rfl⟩
end Go.Tame.V
