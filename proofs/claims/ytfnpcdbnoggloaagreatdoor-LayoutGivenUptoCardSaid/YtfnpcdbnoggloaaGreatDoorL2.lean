/- Contracts of the program's functions, part 2. No conditions of its own. -/
import Derived.Test.YtfnpcdbnoggloaaGreatDoorL1
import Derived.Laws.RangeString
import Derived.Laws.BytesString
import Derived.Laws.IdiomStrings
import Derived.Laws.Cover4
import Derived.Laws.Cover3
import Derived.ChangeArms
import Derived.ChangeSame
import Derived.WideKeyArgs
import Derived.Carry
import Derived.Lib.SmallJoins
import Derived.Test.YtfnpcdbnoggloaaGreatDoorProg
import Derived.Deep.AppendSrc
import Derived.Deep.Upon
import Derived.Lib.AppendStr
import Derived.Scope
import Derived.ChangeKeysEq
import Derived.Lib.UnsafeStr
import Derived.Lib.AppendZerosOnto
import Derived.Laws.Externs
import Derived.Laws.IdiomCopy
set_option linter.unnecessarySimpa false
set_option linter.unusedSimpArgs false
set_option linter.unusedVariables false
set_option maxRecDepth 100000
set_option maxHeartbeats 16000000
namespace Go.bS
open Go Go.RowKit Go.MapKept
variable{P:Program}{B:World}{am:Nat}{z:av}{dst:Option Tmp}{K:av->Prop}{ay:List bx}
theorem af.makeMap{t:TypeId}{s:Nat}(hK:∀b,K ((z.b6 s (some (.set b []))).put (some s) (.al (.map (some b))))):af P B am z (some s) (.makeMap t none) K :=
 .val λU w C a M type pos after=>by
  refine⟨.map (some w.heap.size),_,_,_,_,?_,M.newObj s (mV:=.set w.heap.size []) (o:=.map #[] 0) ⟨#[],0,kR w _,hB _ _ _,by simp,by simp⟩ (λb F=>F),.al _,hK _⟩;simp[execOp,Instr.makeMap,Result.andThen]
variable{w:World}{C:Nat->Nat}{b:Nat}
theorem Ds.Sg{ag:List as8}(h:Ds w C b ag):∃eF iU,w.heap[b]?=some (.map eF iU)/\C b=0/\(∀x∈eF.toList,IsKey .string x.key)/\(∀x∈eF.toList,x.val=.bool true)/\(∀x∈eF.toList,∃s,x.key=.string ⟨⟨s⟩⟩)/\∀s:as8,s∈ag↔∃x∈eF.toList,x.key=.string ⟨⟨s⟩⟩:=by obtain⟨eF,iU,F,df,h1,A⟩:=h;exact⟨eF,iU,F,df,λx I=>by obtain⟨⟨s,hs⟩,_⟩:=h1 x I;rw[hs];trivial,λx I=>(h1 x I).2,λx I=>(h1 x I).1,A⟩
variable{dV ek:TypeId}{x:Operand}
theorem af.L7{t:TypeId}{m:Operand}(s:Nat){ag:List as8}{q:as8}(hm:P.underlying t=some (.map dV ek))(N:P.underlying dV=some .string)
  (bH:∀w,(zeroValue ek).run P w=.ok (.bool false) w) (I:z.ba m=.al (.map (some b))) (hs:z.H s=some (.set b ag)) (G:z.ba x=.O q) (hK:K (z.put dst (.bool (decide (q∈ag))))) :
  af P B am z dst (.lookup t m x false) K :=
 .val λU w C a M type pos after=>by
  have oH:=cI M.tmps m;rw[I]at oH
  have fU:=cI M.tmps x;rw[G]at fU
  obtain⟨eF,iU,F,df,Y,W,c9,mQ⟩:=Ds.Sg (M.heap.ch s _ hs);refine⟨.bool (decide (q∈ag)),w,C,z,_,?_,M,.bool _,hK⟩;rcases findNow_spec (d:=.string) (k:=.string ⟨⟨q⟩⟩) trivial eF.toList 0 Y with⟨h1,A⟩|⟨j,e,h1,A,Z⟩
  ·have:q∉ag:=λh=>by obtain⟨x,I,Bx⟩:=(mQ q).1 h;exact A x I Bx
   simp[execOp,oH.gb,fU.kM,Instr.lookup,run_underlying hm,Go.MapKept.run_getObj_map F,run_checkKey N (k:=.string ⟨⟨q⟩⟩) trivial,run_findKey N h1,bH,this,Result.andThen]
  have x5:=atr A;have:q∈ag:=(mQ q).2 ⟨e,x5,Z⟩;simp[execOp,oH.gb,fU.kM,Instr.lookup,run_underlying hm,Go.MapKept.run_getObj_map F,run_checkKey N (k:=.string ⟨⟨q⟩⟩) trivial,run_findKey N h1,this,Result.andThen,W e x5]
theorem da.Hu{o bL:Obj}(F:w.heap[b]?=some o)(df:C b=0):da (λx=>x=b) w C {w with heap:=w.heap.setIfInBounds b bL} C :=
 ⟨⟨by simp,λ_ _=>atg _,λx i I hi=>by
   have a6:x≠b:=λe=>by subst e;omega
   simp only[World.cell?]
   rw[show(w.heap.setIfInBounds b bL)[x]?=w.heap[x]? from(heap_set F).2 x a6]⟩,rfl,rfl,rfl,λx _ I=>⟨(heap_set F).2 x I,rfl⟩⟩
variable{y:Operand}
theorem af.D_{t:TypeId}{m:Operand}(s:Nat){ag:List as8}{q:as8}(hm:P.underlying t=some (.map dV ek))(N:P.underlying dV=some .string)
  (I:z.ba m=.al (.map (some b))) (hs:z.H s=some (.set b ag)) (G:z.ba x=.O q) (hy:z.ba y=.bool true) (hK:K ((z.b6 s (some (.set b (q::ag)))).put dst .undef)) :
  af P B am z dst (.mapUpdate t m x y) K :=
 .unit λU w C a M type pos after=>by
  have oH:=cI M.tmps m;rw[I]at oH
  have fU:=cI M.tmps x;rw[G]at fU
  have kW:=cI M.tmps y;rw[hy]at kW
  obtain⟨eF,iU,F,df,Y,W,c9,mQ⟩:=Ds.Sg (M.heap.ch s _ hs);have e_:aI.ef (.set b ag) b:=rfl
  have oF:∀oI va,(∀x∈oI.toList,(∃s,x.key=.string ⟨⟨s⟩⟩)/\x.val=.bool true)->(∀s:as8,s∈q::ag↔∃x∈oI.toList,x.key=.string ⟨⟨s⟩⟩)->
    bI U {w with heap:=w.heap.setIfInBounds b (.map oI va)} C (z.b6 s (some (.set b (q::ag)))) a:=λoI va h1 A=>by
   have a1:=da.Hu (bL:=.map oI va) F df;refine M.b6 a1 (s:=s) (λx I=>ax0) (λbq bL eo a6 c9 an nS=>?_) λV bH=>?_
   ·subst nS;exact M.heap.inj bq s bL _ eo a6 c9 hs an e_
   cases bH
   exact⟨⟨oI,va,(heap_set F).1,df,h1,A⟩,λx I=>⟨by cases I;exact M.heap.cN s _ _ hs e_,.inl I⟩⟩
  rcases findNow_spec (d:=.string) (k:=.string ⟨⟨q⟩⟩) trivial eF.toList 0 Y with⟨h1,A⟩|⟨j,e,h1,A,Z⟩
  ·refine⟨_,C,_,?_,oF (eF.push ⟨.string ⟨⟨q⟩⟩,.bool true,iU⟩) (iU+1) (λx I=>?_) (λs=>?_),hK⟩
   ·simp[execOp,oH.gb,fU.kM,kW.hW,Instr.mapUpdate,run_underlying hm,Go.MapKept.run_getObj_map F,run_checkKey N (k:=.string ⟨⟨q⟩⟩) trivial,run_findKey N h1,run_setObj_map _ F,Result.andThen]
   ·rw[Array.toList_push]at I;rcases atB.1 I with I|I
    ·exact⟨c9 x I,W x I⟩
    simp only[atW]at I;subst I;exact⟨⟨q,rfl⟩,rfl⟩
   simp only[Array.toList_push,atB,atu,mQ s];constructor
   ·rintro(rfl|⟨x,I,Bx⟩)
    ·exact⟨⟨.string ⟨⟨s⟩⟩,.bool true,iU⟩,.inr (.inl rfl),rfl⟩
    exact⟨x,.inl I,Bx⟩
   rintro⟨x,I|I,Bx⟩
   ·exact .inr ⟨x,I,Bx⟩
   left;simp only[aws,av2]at I;subst I;injection Bx with h;injection h with h;injection h with h;exact h.symm
  have ad:eF[j]?=some e:=by simpa using A
  have x5:=atr A
  have Hv:∀x∈(eF.modify j λe=>{e with key:=.string ⟨⟨q⟩⟩,val:=.bool true}).toList,x∈eF.toList\/(x.key=.string ⟨⟨q⟩⟩/\x.val=.bool true):=λx I=>by
   rcases MapFrom.mem_modify I with I|⟨oD,_,rfl⟩
   ·exact .inl I
   exact .inr ⟨rfl,rfl⟩
  refine⟨_,C,_,?_,oF (eF.modify j λe=>{e with key:=.string ⟨⟨q⟩⟩,val:=.bool true}) iU (λx I=>?_) (λs=>?_),hK⟩
  ·simp[execOp,oH.gb,fU.kM,kW.hW,Instr.mapUpdate,run_underlying hm,Go.MapKept.run_getObj_map F,run_checkKey N (k:=.string ⟨⟨q⟩⟩) trivial,run_findKey N h1,run_setObj_map _ F,Result.andThen,ad,Z,
    run_keyThatStays (d:=.string) (k:=.string ⟨⟨q⟩⟩) trivial]
  ·rcases Hv x I with I|⟨aD,bc⟩
   ·exact⟨c9 x I,W x I⟩
   exact⟨⟨q,aD⟩,bc⟩
  have ab':∀i:Nat,((eF.modify j λe=>{e with key:=.string ⟨⟨q⟩⟩,val:=.bool true})[i]?).map MapEntry.key=(eF[i]?).map MapEntry.key:=λi=>by
   rw[avB];by_cases d6:j=i
   ·subst d6;simp[ad,Z]
   simp[d6]
  have rK:∀oI:Array MapEntry,(∃x∈oI.toList,x.key=.string ⟨⟨s⟩⟩)↔∃i:Nat,(oI[i]?).map MapEntry.key=some (.string ⟨⟨s⟩⟩):=λoI=>by
   constructor
   ·rintro⟨x,I,Y⟩;obtain⟨i,hi⟩:=atz.1 I;exact⟨i,by rw[<-auE,hi];simp[Y]⟩
   rintro⟨i,hi⟩
   cases ao:oI[i]? with
   |none=>rw[ao]at hi;cases hi
   |some x=>rw[ao]at hi;simp at hi;exact⟨x,atr (by rw[auE];exact ao),hi⟩
  rw[rK];simp only[ab'];rw[<-rK,<-mQ s,atu];constructor
  ·rintro(rfl|h)
   ·exact(mQ _).2 ⟨e,x5,Z⟩
   exact h
  exact .inr
theorem rL:∀{xs:List D},(∀x∈xs,x.cells=[x])->b1 xs=xs
 |[],_=>rfl
 |x::r,h=>by have h1:=rL (xs:=r) λy hy=>h y (ato _ hy);simp only[b1,auc]at h1⊢;rw[h1,h x atk];rfl
variable{oC kS:Nat}{cc rM aF:bx}{aR:as8}{tg:iu}
theorem af.vb(hT:dh P ay){bD:Nat}(au:dv ay oC=some cc)(b5:cc.kind=.slice bD)(fr:dv ay bD=some aF)(lM:aF.kind=.int .u8)
  (N:dv ay kS=some rM) (pd:rM.kind=.O) (I:z.ba x=.Q tg 1 (aR.map λc=>.int .u8 c.toNat)) (hK:K (z.put dst (.O aR))):af P B am z dst (.convert oC kS x) K :=
 .val λU w C a M type pos after=>by
  obtain⟨c3,rfl⟩:=hT.get au;obtain⟨fo,rfl⟩:=hT.get fr;obtain⟨zJ,rfl⟩:=hT.get N;have W:=cI M.tmps x;rw[I]at W
  refine⟨.string ⟨⟨aR⟩⟩,w,C,z,_,?_,M,.O _,hK⟩;rcases W.kl with⟨h1,⟨a0,dL⟩,_⟩|⟨b,o,cap,g,W,_,_,hc,_,Y,_,ga,_,eQ⟩
  ·have:aR=[]:=by simpa using h1
   subst this
   cases a0 with
   |none =>
    have:=run_convert_bytes_string (P:=P) w cc.t rM.t aF.t none 0 0 (c3.kk b5) (fo.sC lM) (zJ.pT pd);simp only[execOp,dL,Sem.run_bind,this];rfl
   |some dF =>
    have:=run_convert_bytes_back (P:=P) w cc.t rM.t aF.t dF 0 [] (c3.kk b5) (fo.sC lM) (zJ.pT pd) (λj ad=>by simp at ad);simp only[atD]at this;simp only[execOp,dL,Sem.run_bind,this,Result.andThen_ok,Sem.run_pure]
  have hlen:(aR.map λc=>D.int .u8 c.toNat).length=aR.length:=by simp
  rw[hlen]at W
  have dm:b1 (aR.map λc=>D.int .u8 c.toNat)=aR.map λc=>D.int .u8 c.toNat:=by
   exact rL λy hy=>by obtain⟨c,_,rfl⟩:=aty.1 hy;rfl
  have:=run_convert_bytes_back (P:=P) w cc.t rM.t aF.t ⟨b,o,none⟩ cap aR (c3.kk b5) (fo.sC lM) (zJ.pT pd) (λj ad=>by
   have N:(b1 (aR.map λc=>D.int .u8 c.toNat))[j]?=some (.int .u8 (aR[j].toNat:Int)):=by rw[dm];simp[ad]
   have h1:=ga j _ N;rw[(eQ j _ N).fu]at h1
   simpa[o6]using h1)
  simp only[execOp,W,Sem.run_bind,this,Result.andThen_ok,Sem.run_pure]
theorem af.aca(hT:dh P ay){bD s:Nat}(au:dv ay oC=some cc)(b5:cc.kind=.O)(N:dv ay kS=some rM)(pd:rM.kind=.slice bD)
  (fr:dv ay bD=some aF) (lM:aF.kind=.int .i32) (I:z.ba x=.O aR) (hlen:aR.length<=70368744177664)
  (hK:∀(bQ:Option Addr) (cap:Nat),K ((z.b6 s (some (.row (.slice bQ (h' aR).length cap) ((h' aR).map (D.int .i32)) 1 bD))).put (some s) (.al (.slice bQ (h' aR).length cap)))):af P B am z (some s) (.convert oC kS x) K :=
 .val λU w C a M type pos after=>by
  obtain⟨c3,rfl⟩:=hT.get au;obtain⟨zJ,rfl⟩:=hT.get N;obtain⟨fo,rfl⟩:=hT.get fr;have W:=cI M.tmps x;rw[I]at W
  have hsz:=size_runesFrom ⟨⟨aR⟩⟩ aR.length 0 #[];have iX:(⟨⟨aR⟩⟩:ByteArray).size=aR.length:=rfl;have cY:=run_runes_of_string (P:=P) w cc.t rM.t aF.t ⟨⟨aR⟩⟩ (c3.pT b5) (zJ.kk pd) (fo.sC lM) (by rw[iX];simp at hsz;omega);rw[iX]at cY;have DJ:=Ly ⟨⟨aR⟩⟩ aR.length 0 #[]
  have tF:(Conv.runesFrom ⟨⟨aR⟩⟩ aR.length 0 #[]).size=(h' aR).length:=by
   rw[<-au0,DJ];simp[h']
  have h2:=grownCap_ge w (Conv.runesFrom ⟨⟨aR⟩⟩ aR.length 0 #[]).size 0 aF.t;have By:=grownCap_le_maxLen w (Conv.runesFrom ⟨⟨aR⟩⟩ aR.length 0 #[]).size 0 aF.t (by simp at hsz;unfold maxLen;omega);have kv:bI U w.drew C z a:=M.tJ (da.drew _ w C);have D':((h' aR).map (D.int .i32)).length=(Conv.runesFrom ⟨⟨aR⟩⟩ aR.length 0 #[]).size:=by rw[tF];simp
  refine⟨_,_,_,_,_,?_,kv.newObj s (mV:=.row (.slice (some ⟨w.heap.size,0,none⟩) (h' aR).length (grownCap w (Conv.runesFrom ⟨⟨aR⟩⟩ aR.length 0 #[]).size 0 aF.t)) ((h' aR).map (D.int .i32)) 1 aF.t)
   (o:=.cells (Conv.runesFrom ⟨⟨aR⟩⟩ aR.length 0 #[]++Array.replicate (grownCap w (Conv.runesFrom ⟨⟨aR⟩⟩ aR.length 0 #[]).size 0 aF.t-(Conv.runesFrom ⟨⟨aR⟩⟩ aR.length 0 #[]).size) (.int .i32 0)) aF.t) ?_ ?_,.al _,hK _ _⟩
  ·simp only[execOp,W.kM,Sem.run_bind,cY,Result.andThen_ok,Sem.run_pure];rw[tF]
  ·refine⟨_,_,by rw[D',tF],by rw[D'];exact h2,By,λx I=>by obtain⟨n,_,rfl⟩:=aty.1 I;rfl,λdF gc=>⟨_,by cases gc;rfl,hM (kR w.drew _)⟩,
    λ_=>⟨w.heap.size,_,rfl,kR w.drew _,by simp;omega,hB _ _ _,λj d N=>?_⟩⟩
   rw[Hg,atA,auj]at N;obtain⟨n,ax,rfl⟩:=N;refine⟨.int .i32 n,?_,.int _ _,rfl⟩;have ad:j<(h' aR).length:=(atI.1 ax).1;rw[<-auE,avi,DJ];simp only[auw];rw[atn (by simpa[h']using ad),atA];have:(sB ⟨⟨aR⟩⟩ aR.length 0)[j]?=some n:=ax;rw[this];rfl
  rintro b ⟨hX,cap,h,_⟩;exact pc h
theorem af.acb{s:Nat}{t:TypeId}(au:P.underlying t=some .string)(I:z.ba x=.O aR)
  (hK:∀b,K ((z.b6 s (some (.ch b (.stringIter ⟨⟨aR⟩⟩ 0)))).put (some s) (.al (.pointer (some ⟨b,0,none⟩))))):af P B am z (some s) (.range t x) K :=
 .val λU w C a M type pos after=>by
  have W:=cI M.tmps x;rw[I]at W
  refine⟨_,_,_,_,_,?_,M.newObj s (mV:=.ch w.heap.size (.stringIter ⟨⟨aR⟩⟩ 0)) (o:=.stringIter ⟨⟨aR⟩⟩ 0) ?_ ?_,.al _,hK _⟩
  ·simp only[execOp,W.kM,Sem.run_bind,run_range_string w t ⟨⟨aR⟩⟩ au,Result.andThen_ok,Sem.run_pure];rfl
  ·exact⟨kR w _,hB _ _ _⟩
  intro b F;exact F
theorem af.acc(s:Nat){pos:Nat}(I:z.ba x=.al (.pointer (some ⟨b,0,none⟩)))(hs:z.H s=some (.ch b (.stringIter ⟨⟨aR⟩⟩ pos)))
  (h1:pos<aR.length->K ((z.b6 s (some (.ch b (.stringIter ⟨⟨aR⟩⟩ (pos+(Utf8.decode ⟨⟨aR⟩⟩ pos).2))))).put dst (.bo [.bool true,.int .i64 pos,.int .i32 ((Utf8.decode ⟨⟨aR⟩⟩ pos).1:Nat)])))
  (A:¬pos<aR.length->K (z.put dst (.bo [.bool false]))):af P B am z dst (.next x true) K :=
 .val λU w C a M type aqQ after=>by
  have W:=cI M.tmps x;rw[I]at W
  have acd:=M.heap.ch s _ hs;obtain⟨F,df⟩:=acd;have iX:(⟨⟨aR⟩⟩:ByteArray).size=aR.length:=rfl;by_cases aw:pos<aR.length
  ·have a1:da (λx=>x=b) w C {w with heap:=w.heap.setIfInBounds b (.stringIter ⟨⟨aR⟩⟩ (pos+(Utf8.decode ⟨⟨aR⟩⟩ pos).2))} C:=da.Hu F df
   refine⟨.tuple #[.bool true,.int .i64 pos,.int .i32 ((Utf8.decode ⟨⟨aR⟩⟩ pos).1:Nat)],_,C,_,_,?_,M.b6 a1 (λx I=>by subst I;exact M.heap.cN s _ _ hs rfl)
    (λbq o eo a6 ah an qN=>by subst qN;exact M.heap.inj s bq _ o _ (Ne.symm a6) hs ah rfl an) (s:=s) (o:=some (.ch b (.stringIter ⟨⟨aR⟩⟩ (pos+(Utf8.decode ⟨⟨aR⟩⟩ pos).2)))) (λx I=>?_),?_,h1 aw⟩
   ·simp only[execOp,W.gb,Sem.run_bind]
    have:(Instr.next (.pointer (some ⟨b,0,none⟩)) true type).run P w=.ok (.tuple #[.bool true,.int .i64 pos,.int .i32 ((Utf8.decode ⟨⟨aR⟩⟩ pos).1:Nat)]) {w with heap:=w.heap.setIfInBounds b (.stringIter ⟨⟨aR⟩⟩ (pos+(Utf8.decode ⟨⟨aR⟩⟩ pos).2))}:=by
     simp[Instr.next,getObj,setObj,Sem.run_bind,Sem.run,F,Result.andThen,iX,aw,goInt]
    rw[this];rfl
   ·cases I
    refine⟨⟨by simp[hM F],df⟩,λx I=>?_⟩;cases I
    exact⟨M.heap.cN s _ _ hs rfl,.inl rfl⟩
   exact .bo _ _ rfl λi d v N W=>by
    match i with
    |0=>cases N;cases W;exact .bool _
    |1=>cases N;cases W;exact .int _ _
    |2=>cases N;cases W;exact .int _ _
    |i+3=>simp at N
  refine⟨.tuple #[.bool false],w,C,z,_,?_,M,?_,A aw⟩
  ·simp only[execOp,W.gb,Sem.run_bind]
   have:(Instr.next (.pointer (some ⟨b,0,none⟩)) true type).run P w=.ok (.tuple #[.bool false]) w:=by
    simp[Instr.next,getObj,Sem.run_bind,Sem.run,F,Result.andThen,iX,aw]
   rw[this];rfl
  exact .bo _ _ rfl λi d v N W=>by
   match i with
   |0=>cases N;cases W;exact .bool _
   |i+1=>simp at N
variable{U:b8 P B am}{K:cM->av->Prop}
def Bz:aI:=.own (.slice none 0 0) 0 0 0
theorem ace(b:Nat):¬Bz.ef b:=by rintro⟨o,cap,h,A⟩;exact axQ
theorem X.Bz(s:Nat){c:Code}(h:X U c (z.b6 s (some Go.bS.Bz)) K):X U c z K :=
 ⟨λa w C M=>h.run a w C (M.b6 (Ft:=λ_=>False) (.refl _ _ _) (λ_ M=>M.elim) (λ_ _ _ _ _ _ M=>M) (λx I=>by
  cases I
  exact⟨⟨none,0,rfl,atg _,atq _,λh=>absurd h as1⟩,λb F=>absurd F (ace b)⟩))⟩
variable{c:Code}
theorem X.tQ(s k e:Nat)(h:X U c (z.b6 s (some (.own (.slice none 0 0) 0 k e))) K):X U c z K :=
 ⟨λa w C M=>h.run a w C (M.b6 (Ft:=λ_=>False) (.refl _ _ _) (λ_ M=>M.elim) (λ_ _ _ _ _ _ M=>M) (λx I=>by
  cases I
  exact⟨⟨none,0,rfl,atg _,atq _,λh=>absurd h as1⟩,λb F=>by obtain⟨o,cap,h,A⟩:=F;exact axQ⟩))⟩
variable{k:Nat}
theorem aq.vc{s:Nat}:aq .bj (.Q (.own s (.slice none 0 0)) k []):=⟨λw C ak h=>by rw[h.xR];exact .jk _ _ none rfl⟩
theorem aq.fn{f:Fn}{a bv b eo:List D}(h:dK a bv)(bz:dK b eo):aq (.fn f a b) (.fn f bv eo) :=
 ⟨λw C v ae=>by
  obtain⟨fJ,hl,rfl,h1,A⟩:=ae.u2;have Z:=h.rD h1;have aD:=bz.rD A
  exact .fn f bv eo fJ hl Z.1 aD.1 Z.2 aD.2⟩
theorem aq.agg{a bv:List D}(h:dK a bv):aq (.agg a) (.agg bv) :=
 ⟨λw C v ae=>by
  obtain⟨vs,rfl,h1⟩:=ae.tx;have Z:=h.rD h1
  exact .agg bv vs Z.1 Z.2⟩
theorem aq.trans{a b c:D}(h:aq a b)(bz:aq b c):aq a c:=⟨λ_ _ _ ae=>bz.le _ _ _ (h.le _ _ _ ae)⟩
variable{xs:List D}
theorem aq.dR{t:iu}:aq (.Q t k xs) (.Q .none k xs):=aq.jl _
theorem dr{k:IntKind}{a b:Int}(h:a=b):aq (.int k a) (.int k b):=aq.of_eq (by rw[h])
variable{t:Nat}{rt:TypeId}
theorem af.L8{K:av->Prop}{ay:List bx}(hT:dh P ay){bD:Nat}(I:z.ba x=.Q tg k xs)(au:dv ay t=some cc)(b5:cc.kind=.slice bD)
  (hK:∀b:Bool,(b=true->xs=[])->K (z.put dst (.bool b))):af P B am z dst (.binOp .eql t x (.const (.slice none 0 0)) rt) K :=
 .val λU w C a M type pos after=>by
  obtain⟨c3,rfl⟩:=hT.get au;have an:=c3.kk b5;have W:=cI M.tmps x;rw[I]at W
  have key:∃dF l c,a.eval x=.slice dF l c/\(dF.isNone=true->xs=[]):=by
   rcases W.kl with⟨h1,⟨a0,A⟩,_⟩|⟨b,o,cap,g,A,_⟩
   ·exact⟨a0,0,0,A,λ_=>h1⟩
   exact⟨_,_,_,A,λh=>by cases h⟩
  obtain⟨dF,l,c,A,Z⟩:=key;refine⟨.bool dF.isNone,w,C,z,_,?_,M,.bool _,hK _ Z⟩;have aD:=zq (P:=P) .eql cc.t x (.const (.slice none 0 0)) (.slice dF l c) (.slice none 0 0) w as1 as1;have bc:=run_equal_slice_nil (P:=P) w cc.t bD dF l c an
  have cL:(binOp .eql cc.t (.slice dF l c) (.slice none 0 0)).run P w=.ok (.bool dF.isNone) w:=by
   simp only[binOp];simp[bc]
  have eV:a.eval (.const (.slice none 0 0))=.slice none 0 0:=rfl;simp only[execOp,A,eV,Sem.run_bind,aD,cL,Result.andThen_ok,Sem.run_pure]
variable{a:Act}{nR:iu}{a':List D}{ks:TypeId}
theorem acf(h:bI U w C z a){e:bx}(ao:e.gj P)(km:aF.gj P)(b5:e.kind=.slice aF.t)(bH:aF.zero≠none){vs bJ:Value}(wC:bh w C (.Q nR aF.aB a') bJ)(me:(xs.length+a'.length)*aF.bytes<=140737488355328)(mR:xs.length+a'.length<=9223372036854775807)(h0:0<a'.length){q dst:Nat}(hH:z.H q=some (.row vs xs aF.aB aF.t)): ∃v w' aQ,(Builtin.append_ #[e.t,e.t] ks #[vs,bJ]).run P w=.ok v w'/\bI U w' aQ ((z.b6 q none).b6 dst (some (.row v (xs++a') aF.aB aF.t))) a:=by have an:=ao.kk b5;obtain⟨i,hi,hsz,o_,nk⟩:=km.qJ;obtain⟨V,bH⟩:=av7.1 bH;obtain⟨ei,lJ,ma,jK⟩:=nk V bH;(have DO:ei.cells.size=aF.aB:=by have:=(jK w C).1;rw[ma]at this;simpa using this.symm);have M:=h.drop q;(have hlen:(xs++a').length=xs.length+a'.length:=by simp);obtain⟨bQ,cap,fK,hcap,Bl,p0,_,cH⟩:=h.heap.ch q _ hH;(have hy:∃dF sG,bJ=.slice (some dF) a'.length sG:=by rcases wC.kl with⟨rfl,_,_⟩|⟨b,o,cap,g,W,_⟩;simp at h0;exact⟨_,_,W⟩);obtain⟨dF,sG,fU⟩:=hy;subst fU;obtain⟨fp,jL,xY,xZ,sH,Bn⟩:=LK wC;(have wD:fp.length=a'.length*i.size:=by rw[jL,hsz]);(have Ea:∀x∈xs++a',x.cells.length=aF.aB:=λx I=>axy);have dm:=pN p0;(have fresh:∀(kT:List Value) (kt:Nat),kT.length=xs.length*aF.aB->(∀(j:Nat) d,(b1 xs)[j]?=some d->∃ak,kT[j]?=some ak/\bh w C d ak/\ak.oneCell'=true)->∀v,v=.slice (some ⟨w.heap.size,0,none⟩) (xs.length+a'.length) (grownCap w (xs.length+a'.length) kt aF.t)->∀w',w'=w.drew.alloc (.cells (kT.toArray++fp.toArray++Builtin.zeroCells ei.cells (grownCap w (xs.length+a'.length) kt aF.t-(xs.length+a'.length))) aF.t)->∃aQ,bI U w' aQ ((z.b6 q none).b6 dst (some (.row v (xs++a') aF.aB aF.t))) a:=awC);subst fK;by_cases ic:0<cap;obtain⟨b,ft,rfl,F,hcs,Hm,mf⟩:=cH ic;have e_:aI.ef (.row (.slice (some ⟨b,0,none⟩) xs.length cap) xs aF.aB aF.t) b:=⟨_,cap,rfl,ic⟩;(have acg:xs.length*aF.aB<=ft.size:=by rw[hcs];exact auL _ hcap);by_cases sI:xs.length+a'.length<=cap;(have gA:xs.length*i.size+fp.length<=ft.size:=by rw[hsz,jL,hcs,<-av8];exact auL _ sI);have ae:=run_append_room (P:=P) w e.t ks aF.t i an hi b xs.length cap ft F dF a'.length sG fp wD xY sH sI gA;rw[hsz]at ae gA;have a1:=da.setRow (C:=C) (n:=0) F (aA:=(ft.toList.take (xs.length*aF.aB)++fp++ft.toList.drop (xs.length*aF.aB+fp.length)).toArray) asZ (λo ah=>by omega);refine⟨_,_,_,ae,M.b6 a1 (λx I=>axZ) (λbq o eo a6 c9 cW qN=>?_) λx I=>?_⟩;subst qN;by_cases G:bq=q;subst G;rw[qL]at c9;cases c9;rw[mc z none G]at c9;exact h.heap.inj bq q o _ eo G c9 hH cW e_;cases I;refine⟨⟨_,cap,by rw[hlen],by rw[hlen];exact sI,Bl,Ea,λdF gc=>⟨b,by cases gc;rfl,atY (hM F) a1.ext.size⟩,λ_=>⟨b,_,rfl,setRow_heap w b ft _ aF.t _ F,?_,hB _ _ _,λj d N=>?_⟩⟩,λx I=>?_⟩;simp only[at6,atf,atv,aul,au0];omega;rw[xV,pZ]at N;rw[au3];split at N;obtain⟨ak,an,ae,ah⟩:=mf j d N;refine⟨ak,?_,ae.ext a1.ext,ah⟩;rw[pY _ _ _ as0,as9 asZ];simpa using an;obtain⟨ak,an,ae,ah⟩:=xZ _ d N;refine⟨ak,?_,ae.ext a1.ext,ah⟩;have:=e9 an;rw[pY _ _ _ as0,as_ ⟨by omega,by omega,by simp;omega⟩,<-dm];exact an;obtain⟨hX,hY,dL,_⟩:=I;simp only[Value.slice.injEq,atQ,Addr.mk.injEq]at dL;obtain⟨⟨rfl,_⟩,_⟩:=dL;exact⟨h.heap.cN q _ _ hH e_,.inl rfl⟩;(have Bo:∀(j:Nat) ak,(ft.toList.take (xs.length*aF.aB))[j]?=some ak->w.cell? ((⟨b,0,none⟩:Addr).add j)=some ak:=λj ak ad=>axe);have ae:=run_append_grow (P:=P) w e.t ks aF.t i ei an hi lJ ⟨b,0,none⟩ xs.length cap (ft.toList.take (xs.length*aF.aB)) (by rw[hsz];simp;omega) Bo dF a'.length sG fp wD xY asZ asZ (ax1);obtain⟨aQ,h1⟩:=fresh (ft.toList.take (xs.length*aF.aB)) cap as0 (λj d N=>aw9) _ rfl _ rfl;exact⟨_,_,aQ,ae,h1⟩;have I:xs=[]:=atm asZ;subst I;(have L9:cap=0:=by omega);subst L9;cases bQ with|none =>simp only[atD,atT]at me mR fresh;have ae:=run_append_nil (P:=P) w e.t ks aF.t i ei an hi lJ dF a'.length sG fp wD xY asZ asZ (by rw[o_];omega);obtain⟨aQ,A⟩:=fresh [] 0 as1 (λj d N=>by simp[b1]at N) _ rfl _ rfl;exact⟨_,_,aQ,ae,by simpa using A⟩|some zD =>have ae:=run_append_grow (P:=P) w e.t ks aF.t i ei an hi lJ zD 0 0 [] as1 (λj ak ad=>by simp at ad) dF a'.length sG fp wD xY asZ asZ (axB);obtain⟨aQ,A⟩:=fresh [] 0 as1 (λj d N=>by simp[b1]at N) _ rfl _ rfl;exact⟨_,_,aQ,ae,by simpa using A⟩
variable{K:av->Prop}{v:Value}
theorem af.oJ(hT:dh P ay){bD s:Nat}(q:Nat)(au:dv ay t=some cc)(b5:cc.kind=.slice bD)(fr:dv ay bD=some aF)(bH:aF.zero≠none)
  (I:z.ba x=.al v) (hH:z.H q=some (.row v xs aF.aB bD)) (hy:z.ba y=.Q tg aF.aB a') (h0:0<a'.length) (me:(xs.length+a'.length)*aF.bytes<=140737488355328) (mR:xs.length+a'.length<=9223372036854775807)
  (hK:∀(bQ:Option Addr) (n cap:Nat),K (((z.b6 q none).b6 s (some (.row (.slice bQ n cap) (xs++a') aF.aB bD))).put (some s) (.al (.slice bQ n cap)))):af P B am z (some s) (.call ⟨.builtin .append,#[x,y],#[t,t]⟩) K :=
 .val λU w C a M type pos after=>by
  obtain⟨c3,rfl⟩:=hT.get au;obtain⟨fo,rfl⟩:=hT.get fr;have fU:=cI M.tmps x;rw[I]at fU
  have kW:=cI M.tmps y;rw[hy]at kW
  obtain⟨c',w',aQ,cY,fV⟩:=acf M c3 fo b5 bH kW me mR h0 (dst:=s) (ks:=type) hH;rw[<-fU.gb]at cY;obtain⟨bQ,cap,rfl,_⟩:=fV.heap.ch s _ (qL _ _ _);refine⟨_,w',aQ,_,_,?_,fV,.al _,hK bQ _ cap⟩;simp[execOp,resolve,invoke,builtin,cY]
theorem X.p2{K:cM->av->Prop}(s k e:Nat)(h:X U c (z.b6 s (some (.row (.slice none 0 0) [] k e))) K):X U c z K :=
 ⟨λa w C M=>h.run a w C (M.b6 (Ft:=λ_=>False) (.refl _ _ _) (λ_ M=>M.elim) (λ_ _ _ _ _ _ M=>M) (λx I=>by
  cases I
  exact⟨⟨none,0,rfl,atg _,atq _,λx I=>(by cases I),λdF gc=>(by cases gc),λh=>absurd h as1⟩,λb F=>by obtain⟨n,cap,h,A⟩:=F;exact axQ⟩))⟩
theorem aq.qR:aq .bj (.al (.slice none 0 0)):=⟨λ_ _ _ h=>by rw[h.xR];exact .al _⟩
variable{ops:Array Oper}
def el(bf:Array Bool):Nat->Bool:=λi=>bf.getD i false
def hD(f:Nat->Bool)(i:Nat):Nat->Bool:=λj=>cond (Nat.beq j i) true (f j)
def wI(g:Nat->Bool):List Edge->Nat->Bool
 |[]=>g
 |e::r=>cond (Region.binds .any e) (hD (wI g r) e.on) (wI g r)
def ach(P:Program)(B:World)(ay:List bx)(l:(Nat->Bool)->List (Nat×D))(hs:(Nat->Bool)->List (Nat×aI)):List Oper->Nat->Prop
 |[],_=>True
 |o::r,i=>(∀g,nQ P B ay (hn (l (wI g o.after.toList)) (hs (wI g o.after.toList))) o.dst o.op λaz=>jI az (l (hD (wI g o.after.toList) i))/\mP az (hs (hD (wI g o.after.toList) i)))/\ach P B ay l hs r (i+1)
def BA(am:Nat):List Oper->Nat->Bool
 |[],_=>true
 |o::r,i=>o.guard.isNone&&iV am o.dst&&(o.after.toList.all λe=>!Region.binds .any e||Nat.blt e.on i)&&BA am r (i+1)
theorem Sh{l:List Oper}:∀{n:Nat},BA am l n=true->∀{i:Nat} {o:Oper},l[i]?=some o->o.guard=none/\iV am o.dst=true/\∀e∈o.after.toList,Region.binds .any e=true->e.on<n+i:=by induction l with|nil=>intro n _ i o h;simp at h|cons x r aY =>intro n h i o ah;simp only[BA,atd]at h;obtain⟨⟨⟨h1,A⟩,Z⟩,aD⟩:=h;(cases i with|zero =>simp at ah;subst ah;refine⟨by simpa using h1,A,λe ao F=>?_⟩;have:=at0.1 Z e ao;rw[F]at this;(have:=by simpa using this);omega|succ i =>have:=aY aD (i:=i) (o:=o) (by simpa using ah);refine⟨this.1,this.2.1,λe ao F=>?_⟩;have:=this.2.2 e ao F;omega)
variable{i:Nat}
theorem aci{f:Nat->Bool}(h:f i=true):hD f i=f:=by funext j;simp only[hD];cases F:Nat.beq j i with|true=>have:=atx F;subst this;exact h.symm|false=>rfl
theorem L_{f:Nat->Bool}:∀{l:List Edge},(∀e∈l,Region.binds .any e=true->f e.on=true)->wI f l=f
 |[],_=>rfl
 |e::r,aw=>by simp only[wI];rw[L_ (l:=r) λe ao=>aw e (ato _ ao)];cases F:Region.binds .any e with|true=>exact aci (aw e atk F)|false=>rfl
variable{bf:Array Bool}
theorem Eb(h:i<bf.size):el (bf.setIfInBounds i true)=hD (el bf) i:=by funext j;simp only[el,hD];cases F:Nat.beq j i with|true =>have:=atx F;subst this;simp[h]|false =>(have:i≠j:=λe=>by subst e;simp at F);simp[avM this]
theorem BB{md:Region.Mode}(h:i∈Region.ready md ops bf): ∃o,ops[i]?=some o/\i<ops.size/\bf.getD i true=false/\∀e∈o.after.toList,Region.binds md e=true->bf.getD e.on false=true:=by simp only[Region.ready,at2,auJ,atd,avr]at h;obtain⟨h1,A,Z⟩:=h;have ah:ops[i]?=some ops[i]:=auH h1;refine⟨ops[i],ah,h1,A,λe ao F=>?_⟩;rw[ah]at Z;simp only[auD,at7]at Z;have:=Array.all_eq_true'.1 Z e (by simpa using ao);simpa[F]using this
theorem acj(aw:BA am ops.toList 0=true)(hsz:bf.size=ops.size): ∀(n i:Nat),n=i->i<ops.size->bf.getD i true=false->Region.ready .any ops bf≠[]:=by intro n;induction n using Nat.strongRecOn with|_ n aY =>intro i ax hi aj;subst ax;have ah:ops[n]?=some ops[n]:=auH hi;have dj:=Sh aw (i:=n) (o:=ops[n]) (by simpa using ah);by_cases ae:∀e∈ops[n].after.toList,Region.binds Region.Mode.any e=true->bf.getD e.on false=true;intro ao;(have:n∈Region.ready Region.Mode.any ops bf:=awL);rw[ao]at this;cases this;simp only[Classical.not_forall]at ae;obtain⟨e,ao,F,a6⟩:=ae;have bi:=dj.2.2 e ao F;simp only[atT]at bi;refine aY e.on bi e.on rfl asZ ?_;(have BC:e.on<bf.size:=by omega);simp only[Array.getD,BC,auX]at a6⊢;simpa using a6
variable{K:cM->av->Prop}{aA du:List D}
theorem bI.Hw(h:bI U w C z a)(s:Nat)(hs:z.H s=some (.box b aA))
  (dS:∀dl,db w C aA dl->db w C du dl):bI U w C (z.b6 s (some (.box b du))) a :=
 h.b6 (Ft:=λx=>x=b) (.refl _ _ _) (λx I=>by subst I;exact h.heap.cN s _ x hs rfl)
  (λbq o x a6 ah an I=>by subst I;exact h.heap.inj s bq _ o x (Ne.symm a6) hs ah rfl an)
  (λx I=>by
   cases I
   obtain⟨vs,e,h1,A,Z⟩:=h.heap.ch s _ hs
   exact⟨⟨vs,e,h1,dS _ A,Z⟩,λx I=>⟨by cases I;exact h.heap.cN s _ _ hs rfl,.inl I⟩⟩)
theorem X.jp(s:Nat)(hs:z.H s=some (.box b aA))(dS:dK aA du)(h:X U c (z.b6 s (some (.box b du))) K):X U c z K :=
 ⟨λa w C M=>h.run a w C (M.Hw s hs λ_ ae=>dS.rD ae)⟩
theorem X.ack(s j:Nat){q:Nat}(hs:z.H s=some (.box b aA))(ad:z.t j=.Q (.own q v) k xs)
  (dS:∀w C,bh w C (.Q .none k xs) v->∀dl,db w C aA dl->db w C du dl) (h:X U c (z.b6 s (some (.box b du))) K):X U c z K :=
 ⟨λa w C M=>h.run a w C (M.Hw s hs λdl ae=>dS w C (by
  have h1:=M.tmps j;rw[ad]at h1;generalize a.tmps.getD j undef=ak at h1
  have A:ak=v:=by
   cases h1 with
   |jk t k a au=>exact au
   |Q t k xs b o cap g au=>exact au
  rw[A]at h1
  exact h1.jl) dl ae)⟩
variable{dl:List Value}{d:D}
theorem db.cell(h:db w C aA dl)(N:∀ak,dl[i]?=some ak->bh w C d ak):db w C (iw aA i d) dl:=by(have key:∀(aA:List D) (i:Nat),(iw aA i d).length=aA.length/\∀j,(iw aA i d)[j]?=if j=i/\i<aA.length then some d else aA[j]?:=by intro aA;induction aA with|nil=>intro i;simp[iw]|cons c r aY =>intro i;(cases i with|zero =>refine⟨rfl,λj=>?_⟩;(cases j with|zero=>simp[iw]|succ j=>simp[iw])|succ i =>refine⟨by simp[iw,(aY i).1],λj=>?_⟩;(cases j with|zero=>simp[iw]|succ j=>simp[iw,(aY i).2 j])));refine⟨by rw[(key aA i).1,h.1],λj d' v ad W=>?_⟩;rw[(key aA i).2]at ad;split at ad;rename_i fq;cases ad;obtain⟨rfl,_⟩:=fq;exact N v W;exact h.2 j d' v ad W
variable{ak:Value}
theorem db.Si(h:db w C aA dl)(hc:aA[i]?=some (.al v))(an:dl[i]?=some ak):ak=v:=(h.2 i _ ak hc an).gb
variable{e:Nat}{hs:List (Nat×aI)}
theorem X.acl(s j:Nat){r:List (Nat×D)}(pe:aK hs s=none)(h:X U c (hn ((j,.Q (.own s v) k xs)::r) hs) K):X U c (hn ((j,.al v)::r) ((s,.row v xs k e)::hs)) K:=by have pf:Nat.beq s s=true:=auB s;refine X.commit s (v:=v) (xs:=xs) (k:=k) (e:=e) (by simp only[hn,aK,pf,auS]) (hn ((j,.Q (.own s v) k xs)::r) hs) (λw C ae i ak hi=>?_) (λi o ah=>?_) h;simp only[hn,aK]at hi⊢;(cases F:Nat.beq i j with|true =>rw[F]at hi;simp only[auS,at7]at hi⊢;rw[hi.gb];exact ae|false=>rw[F]at hi;simpa using hi);refine .inr ⟨λe=>?_,?_⟩;subst e;simp only[hn]at ah;rw[pe]at ah;cases ah;simp only[hn,aK]at ah⊢;cases F:Nat.beq i s with|true =>have:=atx F;subst this;rw[pe]at ah;cases ah|false=>simpa using ah
open Go.ChangeShapes Go.Deep
variable{H:Type}{enc:TypeId×Value->H}{bl:World}
def tR(w:World):Nat->Nat:=λb=>match w.heap[b]? with
 |some (.cells vs _ _)=>vs.size
 |_=>0
theorem Sj{a:Addr}(h:w.cell? a=some v):a.spot=none/\a.block<w.heap.size/\a.off<tR w a.block:=by unfold World.cell? at h;unfold tR;split at h;rename_i c _ _ F;rw[F];split at h;cases h;rename_i hs;refine⟨by cases c9:a.spot<;>simp_all,hM F,?_⟩;exact(auW.1 h).1;cases h
variable{α:Type}
def e0(enc:TypeId×Value->H)(P:Program)(bl:World)(n:Nat)(t:TypeId)(e:α->D)(wJ:α->DataW H->Prop):Prop :=
 ∀aA x,DataW.trod enc P bl 0 (λ_=>true) true n t aA=some x->∃a,db bl (tR bl) (e a).cells aA/\wJ a x.1
theorem e0.int{n:Nat}{t:TypeId}{k:IntKind}(au:P.underlying t=some (.int k)):e0 enc P bl n t (λi:Int=>.int k i) (λi d=>d=.lit (.int k i)/\(Lit.int k i).wf=true):=by intro aA x h;obtain⟨i,rfl,rfl,cH⟩:=DataW.trod_int au h;exact⟨i,.cons (.int _ _) (.nil _ _),rfl,cH⟩
theorem e0.bool{n:Nat}{t:TypeId}(au:P.underlying t=some .bool):e0 enc P bl n t (λi:Bool=>.bool i) (λi d=>d=.lit (.bool i)):=by intro aA x h;obtain⟨i,rfl,rfl⟩:=DataW.trod_bool au h;exact⟨i,.cons (.bool _) (.nil _ _),rfl⟩
theorem e0.O{n:Nat}{t:TypeId}(au:P.underlying t=some .string):e0 enc P bl n t (λs:as8=>.O s) (λs d=>d=.lit (.string s)/\s.length<=maxLen):=by intro aA x h;obtain⟨s,rfl,rfl,hs⟩:=DataW.trod_string au h;obtain⟨⟨l⟩⟩:=s;exact⟨l,.cons (.O l) (.nil _ _),rfl,hs⟩
theorem Sk{α:Type}{a7:Nat->α->Prop}:∀n,(∀i,i<n->∃a,a7 i a)->∃l:List α,l.length=n/\∀i a,l[i]?=some a->a7 i a
 |0,_=>⟨[],rfl,λi a h=>by simp at h⟩
 |n+1,h=>by obtain⟨l,aj,G⟩:=Sk n (λi hi=>h i asZ);obtain⟨a,ha⟩:=h n asZ;refine⟨l++[a],by simp[aj],λi b F=>?_⟩;rw[awz]at F;split at F;exact G i b F;rename_i hi;(have:i-l.length=0:=by have:=(atI.1 F).1;simp at this;omega);rw[this]at F;simp at F;subst F;(have:i=n:=by omega);subst this;exact ha
theorem Sl{k:Nat}(h0:0<k):∀{xs:List D} (_:∀x∈xs,x.cells.length=k) {j:Nat} {d:D},(b1 xs)[j]?=some d->∃x,xs[j/k]?=some x/\x.cells[j%k]?=some d
 |[],_,j,d,h=>by simp[b1]at h
 |x::r,Y,j,d,h=>by have I:=Y x atk;(have e:b1 (x::r)=x.cells++b1 r:=by simp[b1]);rw[e,awz,I]at h;split at h;rename_i ad;exact⟨x,by rw[Nat.div_eq_of_lt ad];rfl,by rw[Nat.mod_eq_of_lt ad];exact h⟩;rename_i ad;obtain⟨y,h1,A⟩:=Sl h0 (xs:=r) (λy hy=>Y y (ato _ hy)) h;(have gk:j=(j-k)+k:=by omega);refine⟨y,?_,?_⟩;rw[gk,Nat.add_div_right _ h0];simpa using h1;rw[gk,Nat.add_mod_right];exact A
def Sm(wJ:α->DataW H->Prop)(l:List α)(d:DataW H):Prop :=
 (l=[]/\d=.nil)\/∃ds p3,d=.slice ds p3/\ds.length=l.length/\∀(i:Nat) a y,l[i]?=some a->ds[i]?=some y->wJ a y
theorem e0.slice{t e:TypeId}{k:Nat}{α:Type}{f:α->D}{wJ:α->DataW H->Prop}(au:P.underlying t=some (.slice e))(df:P.cellsOf e=k)(Y:0<k)
  (M:∀a,(f a).cells.length=k/\(f a).cells.all D.one=true) {iY:Nat} (aY:∀n,n<iY->e0 enc P bl n e f wJ) :
  e0 enc P bl iY t (λl:List α=>.Q .none k (l.map f)) (Sm wJ):=by
 intro aA x h;rcases DataW.trod_slice au h with⟨rfl,rfl⟩|⟨a,len,cap,elems,rest,n,rfl,rfl,rfl,F,aj,hm,hlen,fr,mh,_⟩
 ·exact⟨[],.cons (.jk .none k none trivial) (.nil _ _),Or.inl ⟨rfl,rfl⟩⟩
 rw[df]at fr mh
 obtain⟨l,mW,G⟩:=Sk (a7:=λi b=>∃du y,bl.cells? 0 (a.add (i*k)) k=some du/\db bl (tR bl) (f b).cells du/\elems[i]?=some y/\wJ b y.1) len (λi hi=>by
  have hy:elems[i]?=some elems[i]:=ata asZ;have h1:=fr i hi;rw[hy,awe]at h1;obtain⟨du,A,Z⟩:=h1;obtain⟨b,aD,bc⟩:=aY n (atX _) du _ Z
  exact⟨b,du,_,A,aD,hy,bc⟩)
 refine⟨l,.cons ?_ (.nil _ _),Or.inr ⟨_,_,rfl,by simp[hlen,mW],λi b y F hy=>?_⟩⟩
 ·have Ec:(l.map f).length=len:=by simp[mW]
  have b5:∀x∈l.map f,x.cells.length=k:=λx I=>by obtain⟨b,_,rfl⟩:=aty.1 I;exact(M b).1
  by_cases hcap:cap=0
  ·have h0:len=0:=asZ
   have:l=[]:=atm asZ;subst this;subst hcap;subst h0
   exact .jk .none k (some a) trivial
  have acm:∃v,bl.cell? ((a.add (0*k)).add 0)=some v:=by
   have h1:∃y du,bl.cells? 0 (a.add (0*k)) k=some du/\DataW.trod enc P bl 0 (λ_=>true) true n e du=some y:=by
    by_cases h0:0<len
    ·have hy:elems[0]?=some elems[0]:=ata asZ;have h1:=fr 0 h0;rw[hy,awe]at h1;obtain⟨du,A,Z⟩:=h1;exact⟨_,du,A,Z⟩
    obtain⟨A,Z⟩:=mh rfl;have aD:=Z 0 asZ;have hy:rest[0]?=some (rest[0]' asZ):=ata asZ;rw[hy,awe]at aD;obtain⟨du,bc,cL⟩:=aD;have:len+0=0:=asZ
    rw[this]at bc;exact⟨_,du,bc,cL⟩
   obtain⟨y,du,A,_⟩:=h1;obtain⟨_,Z,aD⟩:=World.cells?_some A;have:=aD 0 Y;rw[this];exact⟨_,ata asZ⟩
  obtain⟨v0,pb⟩:=acm;have lO:(a.add (0*k)).add 0=a:=by simp[Addr.add]
  rw[lO]at pb;obtain⟨dt,rN,L'⟩:=Sj pb;obtain⟨b,o,p3⟩:=a;simp only at dt rN L';subst dt
  have Hx:∀(j:Nat) d,(b1 (l.map f))[j]?=some d->∃v,bl.cell? ⟨b,o+j,none⟩=some v/\v.oneCell'=true/\bh bl (tR bl) d v:=λj d N=>by
   obtain⟨x,I,hc⟩:=Sl Y b5 N;rw[atA,auj]at I;obtain⟨gT,Hy,rfl⟩:=I;obtain⟨du,y,A,Z,_,_⟩:=G _ _ Hy;obtain⟨_,aD,bc⟩:=World.cells?_some A;have pa:j%k<k:=Nat.mod_lt _ Y;have W:du[j%k]?=some (du[j%k]' asZ):=ata asZ;have cL:=bc (j%k) pa;rw[W]at cL;have ae:=Z.2 _ _ _ hc W;have ah:D.one d=true:=at0.1 (M gT).2 d (atr hc);refine⟨_,?_,(ae.oE ah).2,ae⟩
   have e:(Addr.add (Addr.add ⟨b,o,none⟩ (j/k*k)) (j%k))=⟨b,o+j,none⟩:=by
    rw[o6,o6];have:=Nat.div_add_mod j k;rw[Nat.mul_comm]at this;rw[au9,this]
   rw[e]at cL;exact cL
  have eQ:=bh.Q (w:=bl) (C:=tR bl) .none k (l.map f) b o cap (λj=>(bl.cell? ⟨b,o+j,none⟩).getD undef) trivial rN (by rw[Ec];exact aj) hm b5 (by
    by_cases h0:0<len*k
    ·have dm:=pN b5;rw[Ec]at dm;obtain⟨d,N⟩:=lI (l:=b1 (l.map f)) (i:=len*k-1) asZ;obtain⟨v,W,_⟩:=Hx _ d N;have:=(Sj W).2.2;simp only at this;rw[Ec];omega
    rw[Ec];omega)
   (λj d N=>by obtain⟨v,W,_⟩:=Hx j d N;rw[W];rfl)
   (λj d N=>by obtain⟨v,W,h1,_⟩:=Hx j d N;rw[W];exact h1)
   (λj d N=>by obtain⟨v,W,_,h1⟩:=Hx j d N;rw[W];exact h1)
  rw[Ec]at eQ;exact eQ
 obtain⟨_,Sn,_,_,h1,A⟩:=G _ _ F;rw[atA,h1]at hy;cases hy;exact A
theorem Ed{t:TypeId}{bG:Array Field}{iY:Nat}{aA:List Value}{x:DataW H×List MemPlace}(au:P.underlying t=some (.struct bG))(d9:oneCellFields P bG=true)(df:P.cellsOf t=bG.size)(h:DataW.trod enc P bl 0 (λ_=>true) true iY t aA=some x): ∃(xs:List (DataW H×List MemPlace)) (n:Nat),iY=n+1/\x.1=.agg (xs.map (·.1))/\aA.length=bG.size/\xs.length=bG.size/\∀(i:Nat) (f:Field) v y,bG[i]?=some f->aA[i]?=some v->xs[i]?=some y->DataW.trod enc P bl 0 (λ_=>true) true n f.type [v]=some y:=by obtain⟨xs,n,rfl,rfl,aj,I,M⟩:=DataW.trod_struct au h;refine⟨xs,n,rfl,rfl,by rw[aj,df],I,λi f v y h1 A Z=>?_⟩;obtain⟨ah,Y⟩:=hone_of d9 i f h1;have aD:=M i f h1;rw[ah,Y,Z]at aD;obtain⟨hi,rfl⟩:=atI.1 A;(have:(aA.drop i).take 1=[aA[i]]:=by rw[aue hi];rfl);rw[this]at aD;exact aD
variable{h5:World}
theorem acn{t:TypeId}(aj:laidOutB P=true)(ae:P.readableRec t=true)(dM:t<P.types.size){d:DataW H}{bT:List MemPlace}
  (h:DataW.Trod enc P bl 0 (λ_=>true) true t v d bT) (F:Below bl.heap.size bl h5) (bi:∀x∈bT,x.block<bl.heap.size) (p3:Nat->Bool) (mh:∀p∈bT,p3 p.block=true) :
  DataW.Trod enc P h5 0 p3 true t v d bT :=
 WideElems.Trod_stays aj ae dM h (λx I=>F.same (bi x I)) (λx I=>mh x I)
end Go.bS
namespace Go.bS.cj
open Go Go.Proofs
abbrev bt:D:=.int .i64 0
abbrev dW:D:=.O []
abbrev iA:D:=.bool false
abbrev tS:D:=.al (.map none)
abbrev wK:D:=.al (.pointer none)
abbrev zK:D:=.al .nilFunc
abbrev eH:rC:=.int .i64
abbrev zL:List (Nat×Nat×Bool):=[(0,1,false),(1,1,false)]
abbrev Hz:List (Nat×Nat×Bool):=[(0,1,false),(1,1,false),(2,1,false)]
abbrev HA:List (Nat×Nat×Bool):=[(0,1,false),(1,1,false),(2,1,false),(3,1,false)]
abbrev Ma:List (Nat×Nat×Bool):=[(0,1,false),(1,1,false),(2,1,false),(3,1,false),(4,1,false)]
abbrev Mb:List (Nat×Nat×Bool):=[(0,1,false),(1,1,false),(2,1,false),(3,1,false),(4,1,false),(5,1,false)]
abbrev aco:List (Nat×Nat×Bool):=[(0,1,false),(1,1,false),(2,1,false),(3,1,false),(4,1,false),(5,1,false),(6,1,false)]
abbrev So:List (Nat×Nat×Bool):=[(0,1,false),(1,1,false),(2,1,false),(3,1,false),(4,1,false),(5,1,false),(6,1,false),(7,1,false)]
abbrev acp:List (Nat×Nat×Bool):=[(0,1,false),(1,1,false),(2,1,false),(3,1,false),(4,1,false),(5,1,false),(6,1,false),(7,1,false),(8,1,false),(9,1,false),(10,1,false),(11,1,false)]
abbrev acq:List (Nat×Nat×Bool):=[(0,1,false),(1,1,false),(2,1,false),(3,1,false),(4,1,false),(5,1,false),(6,1,false),(7,1,false),(8,1,false),(9,1,false),(10,1,false),(11,1,false),(12,1,false),(13,1,false)]
abbrev j5(a b:Nat):bx:=⟨a,false,1,24,.slice b,[],some [.bj],[]⟩
abbrev mX(a:Nat)(V:D):bx:=⟨a,false,1,8,.Dy,[],some [V],[]⟩
def ay:List bx:=[⟨3,false,1,8,eH,[],some [bt],[]⟩,⟨9,false,1,16,.O,[],some [dW],[]⟩,⟨4,false,1,1,.bool,[],some [iA],[]⟩,⟨44,true,12,152,.struct,acp,some [dW,bt,dW,dW,bt,bt,bt,bt,bt,bt,.bj,.bj],[]⟩,j5 24 3,j5 59 9,j5 41 44,⟨54,false,1,8,eH,[],some [bt],[]⟩,⟨5,false,1,1,.int .u8,[],some [.int .u8 0],[]⟩,⟨23,true,2,16,.struct,zL,some [bt,bt],[eH,eH]⟩,j5 38 23,⟨53,true,3,32,.struct,Hz,some [dW,bt,bt],[.O,eH,eH]⟩,j5 27 53,⟨34,true,13,160,.struct,[(0,8,true),(8,1,false),(9,1,false),(10,1,false),(11,1,false),(12,1,false)],some [dW,dW,dW,dW,dW,bt,bt,bt,bt,bt,.bj,bt,iA],[]⟩,⟨114,true,21,256,.struct,[(0,13,true),(13,1,false),(14,1,false),(15,1,false),(16,1,false),(17,1,false),(18,1,false),(19,1,false),(20,1,false)],some [dW,dW,dW,dW,dW,bt,bt,bt,bt,bt,.bj,bt,iA,.bj,.bj,tS,bt,bt,bt,bt,bt],[]⟩,⟨121,true,2,32,.struct,zL,some [dW,dW],[.O,.O]⟩,j5 112 121,⟨29,true,16,160,.struct,[(0,2,true),(2,2,true),(4,11,true),(15,1,false)],some [bt,bt,bt,bt,bt,iA,bt,bt,bt,bt,bt,.bj,bt,bt,bt,.bj],[]⟩,⟨26,true,11,104,.struct,[(0,1,false),(1,1,false),(2,2,true),(4,1,false),(5,2,true),(7,1,false),(8,1,false),(9,2,true)],some [bt,iA,bt,bt,bt,bt,bt,.bj,bt,bt,bt],[]⟩,j5 42 147,j5 32 140,⟨140,true,6,56,.struct,Mb,some [dW,bt,bt,bt,bt,iA],[.O,eH,eH,eH,eH,.bool]⟩,⟨83,true,4,40,.struct,HA,some [iA,iA,bt,.bj],[]⟩,j5 86 4,mX 76 tS,mX 66 tS,mX 104 wK,⟨147,true,2,32,.struct,zL,some [dW,dW],[.O,.O]⟩,mX 99 wK,mX 135 wK,mX 1 zK,⟨2,false,1,8,eH,[],some [bt],[]⟩,⟨6,false,1,1,.int .u8,[],some [.int .u8 0],[]⟩,⟨7,true,4,24,.struct,HA,some [bt,bt,iA,.int .u8 0],[eH,eH,.bool,.int .u8]⟩,⟨8,true,4,24,.struct,HA,some [bt,bt,iA,.int .u8 0],[eH,eH,.bool,.int .u8]⟩,⟨10,false,1,16,.O,[],some [dW],[]⟩,⟨11,false,1,16,.O,[],some [dW],[]⟩,⟨12,false,1,8,.int .u64,[],some [.int .u64 0],[]⟩,⟨21,false,1,4,.int .i32,[],some [.int .i32 0],[]⟩,⟨31,true,8,104,.struct,So,some [dW,dW,dW,dW,dW,bt,bt,bt],[.O,.O,.O,.O,.O,eH,eH,eH]⟩,⟨49,false,1,8,.int .u64,[],some [.int .u64 0],[]⟩,mX 67 tS,j5 68 59,mX 118 tS,mX 131 wK,⟨133,true,4,32,.struct,HA,some [wK,wK,bt,bt],[]⟩,mX 161 wK,j5 162 5,⟨164,true,2,32,.struct,zL,some [wK,.bj],[]⟩,mX 173 tS,⟨175,true,26,312,.struct,[(0,4,true),(4,8,true),(12,12,true),(24,1,false),(25,1,false)],some [iA,iA,bt,.bj,dW,dW,dW,dW,dW,bt,bt,bt,dW,bt,dW,dW,bt,bt,bt,bt,bt,bt,.bj,.bj,tS,tS],[]⟩,⟨180,false,1,8,eH,[],some [bt],[]⟩,⟨188,false,1,4,.int .u32,[],some [.int .u32 0],[]⟩,⟨193,true,13,160,.struct,[(0,12,true),(12,1,false)],some [dW,bt,dW,dW,bt,bt,bt,bt,bt,bt,.bj,.bj,bt],[]⟩,mX 194 zK,j5 195 194,⟨216,true,6,48,.struct,Mb,some [bt,bt,bt,bt,bt,bt],[eH,eH,eH,eH,eH,eH]⟩,⟨219,false,1,1,.int .i8,[],some [.int .i8 0],[]⟩,j5 220 228,j5 221 251,j5 224 249,⟨226,true,5,56,.struct,Ma,some [iA,.bj,bt,bt,bt],[]⟩,⟨228,true,6,64,.struct,Mb,some [dW,dW,bt,bt,bt,iA],[.O,.O,eH,eH,eH,.bool]⟩,⟨230,true,8,80,.struct,So,some [dW,bt,bt,bt,bt,bt,bt,dW],[.O,eH,eH,eH,eH,eH,eH,.O]⟩,mX 231 zK,j5 232 269,⟨234,true,12,144,.struct,[(0,8,true),(8,1,false),(9,1,false),(10,1,false),(11,1,false)],some [dW,bt,bt,bt,bt,bt,bt,dW,bt,zK,.bj,.bj],[]⟩,j5 236 238,⟨238,true,3,40,.struct,Hz,some [dW,bt,dW],[.O,eH,.O]⟩,⟨244,true,14,128,.struct,acq,some [iA,bt,bt,bt,bt,bt,iA,dW,dW,iA,bt,bt,bt,iA],[.bool,eH,eH,eH,eH,eH,.bool,.O,.O,.bool,eH,eH,eH,.bool]⟩,j5 247 234,⟨249,true,5,64,.struct,Ma,some [dW,bt,.bj,bt,bt],[]⟩,⟨251,true,7,56,.struct,aco,some [dW,dW,bt,bt,iA,iA,iA],[.O,.O,eH,eH,.bool,.bool,.bool]⟩,j5 256 320,j5 259 236,⟨269,true,2,16,.struct,zL,some [bt,bt],[eH,eH]⟩,mX 270 zK,j5 290 296,j5 291 358,⟨293,true,3,56,.struct,Hz,some [.bj,.bj,bt],[]⟩,⟨296,true,16,208,.struct,[(0,12,true),(12,1,false),(13,1,false),(14,1,false),(15,1,false)],some [dW,bt,dW,dW,bt,bt,bt,bt,bt,bt,.bj,.bj,dW,bt,.bj,bt],[]⟩,mX 298 tS,mX 299 tS,mX 300 wK,j5 303 310,⟨305,true,7,88,.struct,[(0,6,true),(6,1,false)],some [dW,dW,bt,bt,bt,iA,.bj],[]⟩,j5 306 305,mX 307 zK,⟨310,true,8,64,.struct,[(0,7,true),(7,1,false)],some [dW,dW,bt,bt,iA,iA,iA,bt],[]⟩,⟨320,true,3,32,.struct,Hz,some [dW,bt,bt],[.O,eH,eH]⟩,j5 332 21,⟨334,true,2,48,.struct,zL,some [.bj,.bj],[]⟩,⟨349,true,14,184,.struct,[(0,12,true),(12,1,false),(13,1,false)],some [dW,bt,dW,dW,bt,bt,bt,bt,bt,bt,.bj,.bj,dW,dW],[]⟩,⟨354,true,2,16,.struct,zL,some [bt,bt],[eH,eH]⟩,⟨356,true,9,48,.struct,[(0,1,false),(1,1,false),(2,1,false),(3,1,false),(4,1,false),(5,1,false),(6,2,true),(8,1,false)],some [dW,iA,iA,iA,iA,iA,bt,bt,bt],[]⟩,⟨358,true,5,40,.struct,Ma,some [bt,bt,bt,bt,bt],[eH,eH,eH,eH,eH]⟩,⟨359,true,12,96,.array 12 3,[],some [bt,bt,bt,bt,bt,bt,bt,bt,bt,bt,bt,bt],[]⟩,⟨362,true,3,24,.array 3 3,[],some [bt,bt,bt],[]⟩,mX 367 tS,mX 390 zK,⟨393,true,256,256,.array 256 4,[],none,[]⟩,j5 426 390,⟨446,false,1,4,.int .i32,[],some [.int .i32 0],[]⟩]
theorem aM:dh Tryz.prog ay:=dh.u4 as4
theorem mixed:Tryz.prog.follows .mixedOrders=true:=by kernel_rfl
abbrev acr:=ay
theorem aqR:dh Tryz.prog acr:=aM
abbrev acs:=ay
theorem aqS:dh Tryz.prog acs:=aM
variable{q:Prop}{p:Prop}{α:Type}{f:FuncId}{body:Code}{ds:List D}{d:D}{a7:D->bF->Prop}
section
variable{B:World}{am:Nat}{U:b8 Tryz.prog B am}{id:Nat}{ops:Array Oper}{a b c:Code}{z:av}{K:cM->av->Prop}
theorem kw(h:jJ Tryz.prog B ay am ops ops.toList z (K .normal)):X U (.region id ops false) z K:=X.region aM h
theorem b2(h:jJ Tryz.prog B ay am ops ops.toList z (zi U c K .normal)):X U (.seq (.region id ops false) c) z K:=X.seq (X.region aM h)
theorem ep(h:X U a z (zi U b K)):X U (.seq a b) z K:=X.seq h
theorem nW(h:X U a z (zi U b (zi U c K))):X U (.seq (.seq a b) c) z K:=X.seq (X.seq h)
theorem cr(h:K .normal z):X U .skip z K:=X.skip h
theorem Ee(h:K .ret z):X U .ret z K:=X.ret h
theorem oK(h:X U a z (G5 id K)):X U (.block id a) z K:=X.block h
theorem aJ{o:Operand}(t:Bool)(hc:z.ba o=.bool t)(h1:t=true->X U a z K)(A:t=false->X U b z K):X U (.cond o a b) z K:=X.cond t hc h1 A
abbrev u(n:Int):D:=.int .i64 n
theorem cB{α:Sort _}{x:α}(h:q):x=x/\q:=⟨rfl,h⟩
theorem g8(h:q):(p->p)/\q:=⟨id,h⟩
theorem BD{r:Prop}(h:q):True/\(q\/r):=⟨trivial,.inl h⟩
theorem p4{r:Prop}(h:r):True/\(q\/r):=⟨trivial,.inr h⟩
theorem d_{α:Sort _}{x:α}{r:Prop}(h:q):x=x/\True/\(q\/r):=⟨rfl,trivial,.inl h⟩
theorem tT{α:Sort _}{x:α}{r:Prop}(h:r):x=x/\True/\(q\/r):=⟨rfl,trivial,.inr h⟩
theorem mi{r:Prop}(h:q):q\/r:=.inl h
theorem g9{r:Prop}(h:q)(k:p:=by intro _;first|(simp only[dg];omega)|(simp[dg];omega)|simp[dg]):(p/\q)\/r:=.inl ⟨k,h⟩
theorem tU(h:q)(k:p:=by intro h0 h;exact axM):p/\q:=⟨k,h⟩
theorem x6{α:Sort _}{cu:Prop}{bw bV:α->Prop}(y:α)(h:bV y)(k:cu->bw y:=by intro _;rfl):∃y,(cu->bw y)/\bV y:=⟨y,k,h⟩
theorem fW{α:Sort _}{bw bV:α->Prop}(y:α)(k:bV y:=by exact λ_ _ h=>h)(h:bw y:=by(repeat refine⟨.refl _,?_⟩);trivial):∃y,bw y/\bV y:=⟨y,h,k⟩
theorem Sp{eu:α->(Nat->Bool)->Prop}{S:α->(Nat->Bool)->Prop}{a7:Prop}(h:a7)(k:∀y f,eu y f->S y f:=by intro y f _;(conv=>whnf);refine BD ?_;(conv=>whnf);exact fW y):(∀y f,eu y f->S y f)/\a7:=⟨k,h⟩
theorem ar(h:p:=by(repeat refine⟨.refl _,?_⟩);trivial):p:=h
theorem bb(h:p:=by(repeat refine⟨rfl,?_⟩);trivial):p:=h
theorem nX(h:q)(k:p:=by intro _;first|(simp;omega)|simp):p/\q:=⟨k,h⟩
theorem bA{fn:Func}(M : Tryz.prog.funcs[f]?=some fn)(p1 : fn.ntmps = am)(h : ∀U : b8 Tryz.prog B am,X U body (entry ds bF.none) (LR ay fn.results.toList d))(F : fn.body = some body := by rfl)(ax : (fn.name == "runtime.NumGoroutine") = false := by decide +kernel)(aj : Nat.ble ds.length am = true := by rfl): mO Tryz.prog B f ds d := mO.intro aM M F ax p1 aj h
theorem jO{fn:Func}{H:bF}(M : Tryz.prog.funcs[f]?=some fn)(p1 : fn.ntmps = am)(h : ∀U : b8 Tryz.prog B am,X U body (entry ds H) (D3 ay fn.results.toList a7))(F : fn.body = some body := by rfl)(ax : (fn.name == "runtime.NumGoroutine") = false := by decide +kernel)(aj : Nat.ble ds.length am = true := by rfl): c7 Tryz.prog B f ds H a7 := c7.intro aM M F ax p1 aj h
end
structure e1 (p:Prop):Prop where cn:p
section
variable{B:World}{am:Nat}
theorem ck(h:q)(f:e1 q->p:=by intro V;apply b2;(conv=>whnf);exact V.cn):p:=f ⟨h⟩
theorem eB(h:q)(f:e1 q->p:=by intro V;apply cB;(conv=>whnf);exact V.cn):p:=f ⟨h⟩
theorem lb(h:q)(f:e1 q->p:=by intro V;refine g9 ?_;(conv=>whnf);exact V.cn):p:=f ⟨h⟩
theorem pg(h:q)(f:e1 q->p:=by intro V;refine⟨trivial,?_⟩;(conv=>whnf);exact V.cn):p:=f ⟨h⟩
theorem iB(h:q)(f:e1 q->p:=by intro V;apply Ee;(conv=>whnf);exact V.cn):p:=f ⟨h⟩
theorem oL(h:q)(f:e1 q->p:=by intro V;apply ep;refine X.u_ aM mixed as4 ?_;exact V.cn):p:=f ⟨h⟩
theorem tV(h:q)(f:e1 q->p:=by intro V;refine X.Mc aM ?_;apply d_;exact V.cn):p:=f ⟨h⟩
theorem p5(h:q)(f:e1 q->p:=by intro V;refine nX ?_;(conv=>whnf);exact V.cn):p:=f ⟨h⟩
theorem qS(h:q)(f:e1 q->p:=by intro V;(conv=>whnf);refine⟨rfl,_,_,rfl,rfl,.inr ⟨rfl,?_⟩⟩;exact V.cn):p:=f ⟨h⟩
theorem vd(h:q)(f:e1 q->p:=by intro V;apply ep;refine X.D6 aM ?_;exact V.cn):p:=f ⟨h⟩
theorem Md(h:q)(f:e1 q->p:=by intro V;refine⟨rfl,rfl,?_⟩;(conv=>whnf);exact V.cn):p:=f ⟨h⟩
theorem mY(h:q)(f:e1 q->p:=by intro V;apply g8;(conv=>whnf);exact V.cn):p:=f ⟨h⟩
theorem gm(h:q)(f:e1 q->p:=by intro V;apply b2;refine iB ?_;exact V.cn):p:=f ⟨h⟩
theorem ff(h:q)(f:e1 q->p:=by intro V;apply cr;(conv=>whnf);exact V.cn):p:=f ⟨h⟩
theorem Me(h:q)(f:e1 q->p:=by intro V;apply oK;refine ck ?_;exact V.cn):p:=f ⟨h⟩
theorem ie(h:q)(f:e1 q->p:=by intro V;apply g8;refine tU ?_;exact V.cn):p:=f ⟨h⟩
theorem gK(h:q)(f:e1 q->p:=by intro V;apply ep;refine Me ?_;exact V.cn):p:=f ⟨h⟩
theorem f'(h:q)(f:e1 q->p:=by intro V;apply ep;apply b2;exact V.cn):p:=f ⟨h⟩
theorem p6(h:q)(f:e1 q->p:=by intro V;refine⟨_,.refl _,?_⟩;refine go ?_;exact V.cn):p:=f ⟨h⟩
theorem rO(h:q)(f:e1 q->p:=by intro V;refine⟨_,.refl _,?_⟩;(conv=>whnf);exact V.cn):p:=f ⟨h⟩
theorem hE(h:q)(f:e1 q->p:=by intro V;apply g8;refine mY ?_;exact V.cn):p:=f ⟨h⟩
theorem np(h:q)(f:e1 q->p:=by intro V;apply kw;refine lb ?_;exact V.cn):p:=f ⟨h⟩
theorem mj(h:q)(f:e1 q->p:=by intro V;refine eB ?_;refine p5 ?_;exact V.cn):p:=f ⟨h⟩
theorem mZ(h:q)(f:e1 q->p:=by intro V;refine nX ?_;refine go ?_;exact V.cn):p:=f ⟨h⟩
theorem qT(h:q)(f:e1 q->p:=by intro V;refine X.exit ?_;refine gm ?_;exact V.cn):p:=f ⟨h⟩
theorem jq(h:q)(f:e1 q->p:=by intro V;apply d_;(conv=>whnf);exact V.cn):p:=f ⟨h⟩
theorem nr(h:q)(f:e1 q->p:=by intro V;refine pg ?_;refine Md ?_;exact V.cn):p:=f ⟨h⟩
theorem ve(h:q)(f:e1 q->p:=by intro V;(conv=>whnf);refine⟨rfl,.inl ?_⟩;exact V.cn):p:=f ⟨h⟩
theorem sM(h:q)(f:e1 q->p:=by intro V;refine X.exit ?_;refine ck ?_;exact V.cn):p:=f ⟨h⟩
theorem lc(h:q)(f:e1 q->p:=by intro V;apply b2;refine eB ?_;exact V.cn):p:=f ⟨h⟩
theorem ld(h:q)(f:e1 q->p:=by intro V;apply BD;refine go ?_;exact V.cn):p:=f ⟨h⟩
theorem wL(h:q)(f:e1 q->p:=by intro V;refine HB ?_;refine Go.bS.cj.vs ?_;exact V.cn):p:=f ⟨h⟩
theorem Ef(h:q)(f:e1 q->p:=by intro V;apply nW;refine X.u_ aM mixed as4 ?_;exact V.cn):p:=f ⟨h⟩
theorem m0(h:q)(f:e1 q->p:=by intro V;apply kw;(conv=>whnf);exact V.cn):p:=f ⟨h⟩
theorem qU(h:q)(f:e1 q->p:=by intro V;refine vd ?_;(conv=>whnf);exact V.cn):p:=f ⟨h⟩
theorem ns(h:q)(f:e1 q->p:=by intro V;refine f' ?_;apply oK;exact V.cn):p:=f ⟨h⟩
theorem nt(h:q)(f:e1 q->p:=by intro V;apply ep;refine tV ?_;exact V.cn):p:=f ⟨h⟩
theorem nY(h:q)(f:e1 q->p:=by intro V;apply g8;refine ie ?_;exact V.cn):p:=f ⟨h⟩
theorem nZ(h:q)(f:e1 q->p:=by intro V;apply mi;(conv=>whnf);exact V.cn):p:=f ⟨h⟩
theorem wM(h:q)(f:e1 q->p:=by intro V;refine X.exit ?_;(conv=>whnf);exact V.cn):p:=f ⟨h⟩
theorem iD(h:q)(f:e1 q->p:=by intro V;apply g8;apply cB;exact V.cn):p:=f ⟨h⟩
theorem i1(h:q)(f:e1 q->p:=by intro V;apply b2;apply cB;exact V.cn):p:=f ⟨h⟩
theorem ph(h:q)(f:e1 q->p:=by intro V;apply b2;refine ck ?_;exact V.cn):p:=f ⟨h⟩
theorem p7(h:q)(f:e1 q->p:=by intro V;apply ep;refine ck ?_;exact V.cn):p:=f ⟨h⟩
theorem p8(h:q)(f:e1 q->p:=by intro V;refine f' ?_;apply cB;exact V.cn):p:=f ⟨h⟩
theorem kx(h:q)(f:e1 q->p:=by intro V;apply ep;apply oK;exact V.cn):p:=f ⟨h⟩
theorem vf(h:q)(f:e1 q->p:=by intro V;refine gK ?_;refine p5 ?_;exact V.cn):p:=f ⟨h⟩
theorem vg(h:q)(f:e1 q->p:=by intro V;refine g9 ?_;refine lb ?_;exact V.cn):p:=f ⟨h⟩
theorem rP(h:q)(f:e1 q->p:=by intro V;apply cr;refine np ?_;exact V.cn):p:=f ⟨h⟩
theorem x7(h:q)(f:e1 q->p:=by intro V;refine .inr ?_;refine go ?_;exact V.cn):p:=f ⟨h⟩
theorem wN(h:q)(f:e1 q->p:=by intro V;(conv=>whnf);refine p5 ?_;exact V.cn):p:=f ⟨h⟩
theorem Mf(h:q)(f:e1 q->p:=by intro V;(conv=>whnf);refine⟨rfl,_,_,rfl,rfl,.inl ⟨rfl,.inl ?_⟩⟩;exact V.cn):p:=f ⟨h⟩
end
abbrev aU(B:World):=mO Tryz.prog B
abbrev cZ(B:World):=c7 Tryz.prog B
theorem E(h:p:=by exact .refl _):p:=h
theorem ai:True:=trivial
structure nu where
 name:as8
 target:as8
 deriving DecidableEq,Inhabited
structure aa where
 name:as8
 kind:Int
 d7:as8
 target:as8
 cx:Int
 n2:Int
 n3:Int
 n4:Int
 n5:Int
 n6:Int
 J:List aa
 bN:List nu
 deriving Inhabited
def c6(s:nu):D:=.agg [.O s.name,.O s.target]
mutual
def enc:aa->D
 |.mk a b c d e f g h i j ag cC=>.agg [.O a,.int .i64 b,.O c,.O d,.int .i64 e,.int .i64 f,.int .i64 g,.int .i64 h,.int .i64 i,.int .i64 j,.Q .none 12 (HC ag),.Q .none 2 (cC.map c6)]
def HC:List aa->List D
 |[]=>[]
 |n::r=>enc n::HC r
end
theorem Sq:∀l:List aa,HC l=l.map enc
 |[]=>rfl
 |n::r=>by simp only[HC,atG];rw[Sq r]
def aE(n:aa):D:=.agg [.O n.name,u n.kind,.O n.d7,.O n.target,u n.cx,u n.n2,u n.n3,u n.n4,u n.n5,u n.n6,.Q .none 12 (n.J.map enc),.Q .none 2 (n.bN.map c6)]
theorem rQ(n:aa):enc n=aE n:=by cases n with|mk a b c d e f g h i j ag cC=>simp only[enc,aE,Sq]
variable{B:World}{wO:Type}
section Mg
variable{a b:List α}{i:Nat}
theorem BE(f:α->wO)(h:i<a.length):(a.map f)[i]?=some (f a[i]):=by simp[h]
end Mg
theorem act{p x:as8}(h:p.length<=x.length):(x.take p.length==p)=p.isPrefixOf x:=by rw[avT,auM,List.isPrefixOf_iff_prefix,List.prefix_iff_eq_take];exact eq_comm
theorem acu{p x:as8}(h:x.length<p.length):p.isPrefixOf x=false:=by rw[avX,ne_eq,List.isPrefixOf_iff_prefix];intro bz;have:=bz.length_le;omega
theorem acv(x p:as8):(bif decide ((p.length:Int)<=x.length)then(x.take (p.length:Int).toNat).drop (Int.toNat 0)==p else false)=p.isPrefixOf x:=by by_cases h:p.length<=x.length;(have bz:(p.length:Int)<=x.length:=by omega);simp only[bz,decide_true,auS,atE];rw[show Int.toNat 0=0 from rfl,List.drop_zero,act h];(have bz:¬(p.length:Int)<=x.length:=by omega);simp only[bz,decide_false,aun];rw[acu asZ]
theorem acw(x p:as8):aU B 153 [.O x,.O p] (.bool (p.isPrefixOf x)):=by refine bA Tryz.func153 Tryz.ntmps153 λU=>?_;apply b2;apply b2;apply g8;refine hE ?_;refine⟨λh=>by simp at h⊢;omega,?_⟩;refine nY ?_;refine iB ?_;exact aq.of_eq (as' D.bool (acv x p))
theorem acx(x p:as8):aU B 103 [.O x,.O p] (.bool (p.isPrefixOf x)):=by refine bA Tryz.func103 Tryz.ntmps103 λU=>?_;refine ph ?_;refine⟨_,_,λ_=>acw x p,ar,?_⟩;refine iB ?_;exact E
theorem Sr(c:UInt8)(n:Nat)(h:n<256):((c.toNat:Int)==(n:Int))=(c==UInt8.ofNat n):=by rw[avT];simp only[auM];constructor;intro h1;apply UInt8.toNat.inj;simp;omega;intro h1;subst h1;simp;omega
def e2(p:α->Bool)(l:List α):Int:=match l.findIdx? p with|some i=>i|none=>-1
variable{i:Nat}
theorem zM{p:α->Bool}{l:List α}(hi:i<l.length)(aw:∀j (h:j<l.length),j<i->p l[j]=false)(h:p l[i]=true):e2 p l=i:=by have:l.findIdx? p=some i:=au5.2 ⟨hi,h,λj ad=>by simp[aw j asZ ad]⟩;rw[e2,this]
theorem zN{p:α->Bool}{l:List α}(aw:∀j (h:j<l.length),p l[j]=false):e2 p l=-1:=by(have:l.findIdx? p=none:=avm.2 λx I=>by obtain⟨j,ad,rfl⟩:=atP.1 I;exact aw j ad);rw[e2,this]
theorem Eg(p:α->Bool)(l:List α):decide (0<=e2 p l)=l.any p:=by unfold e2;split;rename_i i h;obtain⟨hi,h1,_⟩:=au5.1 h;have:l.any p=true:=aut.2 ⟨l[i],ate hi,h1⟩;rw[this];simp;rename_i h;(have:l.any p=false:=by rw[avX];intro A;obtain⟨x,I,Bg⟩:=aut.1 A;have:=avm.1 h x I;simp_all);rw[this];simp
variable{v:Value}{hX k e:Nat}
theorem ky{n:Nat}(h:n=hX):some (aI.own v n k e)=some (aI.own v hX k e):=by rw[h]
variable{bq:Nat}{xs a':List D}
theorem aq.j6{s:Nat}(h:xs=a'):aq (.Q (.own s v) k xs) (.Q (.own bq v) k a'):=h ▸ aq.own s bq
section fw
variable{l:List α}
end fw
end Go.bS.cj

namespace Go.bS
open Go Go.RowKit
variable{P:Program}{B:World}{am:Nat}{ops:Array Oper}{α:Type}
def fL(g:Nat->Bool)(l:List Edge)(i:Nat):Nat->Bool:=λj=>_root_.cond (Nat.beq j i) false (wI g l j)
theorem X.scope{U:b8 P B am}{z:av}{K:cM->av->Prop}{c:Code}(h:X U c z K):X U (.scope c) z K :=
 ⟨λa w C M=>wp_scope_straight (wp_mono (h.run a w C M) λe bv w' cG=>by
  obtain⟨c8,az,aQ,ao,hK,bM⟩:=cG;subst ao
  cases c8<;>exact⟨_,az,aQ,rfl,hK,bM⟩)⟩
def Eh(ops:Array Oper)(j k:Nat):Bool:=match ops.toList[j]? with
 |some o=>o.after.toList.any λe=>Region.binds .any e&&Nat.beq e.on k
 |none=>false
def p9(ops:Array Oper)(f:Nat->Bool):Prop:=∀j k,Eh ops j k=true->f j=true->f k=true
theorem p9.e3{f:Nat->Bool}(h:p9 ops f)(j k:Nat)(N:Eh ops j k=true)(Y:f k=false):f j=false:=by cases ad:f j with|false=>rfl|true=>rw[h j k N ad]at Y;cases Y
theorem p9.n{f:Nat->Bool}(h:p9 ops f)(j k:Nat)(Y:f k=false:=by rfl)(N:Eh ops j k=true:=by rfl):f j=false:=h.e3 j k N Y
theorem p9.o{ea:Nat->Bool}(h:p9 ops ea)(f:Nat->Bool)(j k:Nat)(Y:ea k=false:=by rfl)(N:Eh ops j k=true:=by rfl)(e:f j=ea j:=by rfl):∃g:Nat->Bool,f=λi=>_root_.cond (Nat.beq i j) false (g i):=⟨f,funext λi=>by cases F:Nat.beq i j with|false=>rfl|true=>rw[avb F];exact e.trans (h.e3 j k N Y)⟩
variable{bf:Array Bool}{i:Nat}
theorem p9.set(h:p9 ops (el bf)){o:Oper}(hi:i<bf.size)(ah:ops[i]?=some o)(lP:∀e∈o.after.toList,Region.binds .any e=true->bf.getD e.on false=true):p9 ops (el (bf.setIfInBounds i true)):=by intro j k N ad;rw[Eb hi]at ad⊢;by_cases Y:k=i;subst Y;simp[hD];(have fD:Nat.beq k i=false:=by cases F:Nat.beq k i with|false=>rfl|true=>exact absurd (atx F) Y);rw[show hD (el bf) i k=el bf k by simp[hD,fD]];by_cases fq:j=i;subst fq;unfold Eh at N;rw[show ops.toList[j]?=some o by simpa using ah]at N;obtain⟨e,ao,F⟩:=aut.1 N;obtain⟨mS,g6⟩:=Bool.and_eq_true_iff.1 F;have:=atx g6;subst this;exact lP e ao mS;(have gk:Nat.beq j i=false:=by cases F:Nat.beq j i with|false=>rfl|true=>exact absurd (atx F) fq);(have b':hD (el bf) i j=el bf j:=by simp[hD,gk]);rw[b']at ad;exact h j k N ad
def HD(P:Program)(B:World)(am:Nat)(ay:List bx)(all:Array Oper)(l:α->(Nat->Bool)->List (Nat×D))(hs:α->(Nat->Bool)->List (Nat×aI)):List Oper->Nat->Prop
 |[],_=>True
 |o::r,i=>(∀x g,p9 all (fL g o.after.toList i)->D5 P B am ay (hn (l x (fL g o.after.toList i)) (hs x (fL g o.after.toList i))) o.dst o.op λaz=>∃b0,jI az (l b0 (hD (fL g o.after.toList i) i))/\mP az (hs b0 (hD (fL g o.after.toList i) i)))/\HD P B am ay all l hs r (i+1)
variable{all:Array Oper}
theorem acy{ay:List bx}{l:α->(Nat->Bool)->List (Nat×D)}{hs:α->(Nat->Bool)->List (Nat×aI)}{r:List Oper}:∀{n:Nat},HD P B am ay all l hs r n->∀{i:Nat} {o:Oper},r[i]?=some o->∀x f,p9 all (fL f o.after.toList (n+i))->D5 P B am ay (hn (l x (fL f o.after.toList (n+i))) (hs x (fL f o.after.toList (n+i)))) o.dst o.op λaz=>∃b0,jI az (l b0 (hD (fL f o.after.toList (n+i)) (n+i)))/\mP az (hs b0 (hD (fL f o.after.toList (n+i)) (n+i))):=by induction r with|nil=>intro n _ i o h;simp at h|cons x r aY =>intro n h i o ah y f;exact awQ
theorem Ss{ay:List bx}(hT:dh P ay){U:b8 P B am}{a7:av->Prop}{Q':Exit->Act->World->Prop}(fE:∀z a w C,bI U w C z a->a7 z->Q' .normal a w)(aw:BA am ops.toList 0=true)(l:α->(Nat->Bool)->List (Nat×D))(hs:α->(Nat->Bool)->List (Nat×aI))(pi:∀x f,(∀i,i<ops.size->f i=true)->a7 (hn (l x f) (hs x f)))(step:HD P B am ay ops l hs ops.toList 0): ∀(n:Nat) (x:α) (bf:Array Bool) (a:Act) (w:World) (C:Nat->Nat),bf.size=ops.size->bf.toList.count false=n->bI U w C (hn (l x (el bf)) (hs x (el bf))) a->p9 ops (el bf)->wpAny P .any ops Q' n bf a w
 |0,x,bf,a,w,C,hsz,hc,M,bg=>by(have hC:∀i,i<ops.size->el bf i=true:=λi hi=>awR);refine⟨?_,fE _ _ _ _ M (pi _ _ hC)⟩;cases ae:Region.ready .any ops bf with|nil=>rfl|cons i r =>obtain⟨o,ah,hi,h1,_⟩:=BB (ae ▸ atk:i∈Region.ready .any ops bf);have A:=hC i hi;(have bi:i<bf.size:=by omega);simp only[el,Array.getD,bi,auX]at h1 A;rw[h1]at A;cases A
 |n+1,x,bf,a,w,C,hsz,hc,M,bg=>by(have p_:0<bf.toList.count false:=by omega);have mQ:=avy.1 p_;obtain⟨i,hi,F⟩:=List.getElem_of_mem mQ;(have lQ:i<bf.size:=by simpa using hi);have a6:Region.ready .any ops bf≠[]:=acj aw hsz i i rfl asZ (axJ);refine⟨λe=>absurd e a6,λi hi=>?_⟩;obtain⟨o,ah,St,qV,lP⟩:=BB hi;obtain⟨aV,N,_⟩:=Sh aw (i:=i) (o:=o) (by simpa using ah);have G:=acy step (i:=i) (o:=o) (by simpa using ah) x (el bf);rw[atT]at G;(have o8:fL (el bf) o.after.toList i=el bf:=awM);rw[o8]at G;have G:=G bg;unfold wpOp;simp only[ah];rw[as_ (by simp[Region.wanted,aV])];refine .inl (Oper.wp_mono (λbv w' cG=>?_) (Sf hT M aV N G Q'));obtain⟨az,aQ,⟨b0,h1,A⟩,Z⟩:=cG;(have ml:i<bf.size:=by omega);rw[<-Eb ml]at h1 A;refine Ss hT fE aw l hs pi step n b0 _ bv w' aQ (by simpa using hsz) ?_ (Z.G6 h1 A) (bg.set ml ah lP);exact awD
variable{U:b8 P B am}{id:Nat}{z:av}{K:cM->av->Prop}
theorem X.acz{ay:List bx}(hT:dh P ay)(hm:P.follows .mixedOrders=true)
  (l:α->(Nat->Bool)->List (Nat×D)) (hs:α->(Nat->Bool)->List (Nat×aI)) (aw:BA am ops.toList 0=true) (ez:α)
  (h1:jI z (l ez λ_=>false)) (A:mP z (hs ez λ_=>false)) (step:HD P B am ay ops l hs ops.toList 0)
  (pi:∀x f,(∀i,i<ops.size->f i=true)->K .normal (hn (l x f) (hs x f))) :
  X U (.region id ops true) z K :=
 ⟨λa w C M=>wp_region_any hm (by
  have e:el (Array.replicate ops.size false)=λ_=>false:=by
   funext i
   simp only[el,Array.getD];split<;>simp
  exact Ss hT (U:=U) (a7:=K .normal) (λz a w C bM hK=>⟨.normal,z,C,rfl,hK,bM⟩) aw l hs pi step _ ez _ _ _ C as1 as1 (by rw[e];exact M.drew.G6 h1 A) (by rw[e];exact λj k _ h=>by cases h))⟩
def Ei(P:Program)(B:World)(ay:List bx)(am:Nat)(ops:Array Oper):List Oper->av->(av->Prop)->Prop
 |[],z,K=>K z
 |⟨dst,op,_,_,_,guard⟩::rest,z,K=>iV am dst=true/\(match guard with
  |none=>True
  |some (j,ix)=>∃g,(ops[j]?).bind (·.dst)=some g/\z.t g=.bool ix)/\
  ((nQ P B ay z dst op λaz=>Ei P B ay am ops rest az K)\/af P B am z dst op λaz=>Ei P B ay am ops rest az K)
theorem Su{ay:List bx}(hT:dh P ay){U:b8 P B am}{ops:Array Oper}{a7:Exit->Act->World->Prop}{K:av->Prop}(fE:∀az bv w' aQ,K az->bI U w' aQ az bv->a7 .normal bv w'): ∀{l:List Oper} {z:av} (_:Ei P B ay am ops l z K) {a:Act} {w:World} {C:Nat->Nat} (_:bI U w C z a),wpList P ops a7 l a w
 |[],_,G,_,_,_,M=>fE _ _ _ _ G M
 |o::rest,z,G,a,w,C,M=>by obtain⟨N,aV,G⟩:=G;(have next:∀bv w',(∃az aQ,Ei P B ay am ops rest az K/\bI U w' aQ az bv)->wpList P ops a7 rest bv w':=λbv w' ⟨az,aQ,h1,A⟩=>Su hT fE h1 A);(have cH:Region.wanted o (yielded ops a.tmps)=true:=awP);unfold wpList;rw[as_ cH];rcases G with G|G;(·exact .inl (Oper.wp_mono next (tL hT M N G a7)));obtain⟨dst,op,type,pos,after,guard⟩:=o;exact .inl (Oper.wp_mono next (G.run U w C a M N type pos after a7))
theorem X.Mc{ay:List bx}(hT:dh P ay)(G:Ei P B ay am ops ops.toList z (K .normal)):X U (.region id ops false) z K :=
 ⟨λ_ _ _ M=>wp_region_list (Su hT (λaz _ _ aQ hK bM=>⟨.normal,az,aQ,rfl,hK,bM⟩) G M)⟩
variable{dst:Option Tmp}{p' oM i6:Operand}{gT a2 a3:Int}
theorem af.acA{K:av->Prop}{t e:TypeId}{i:TypeInfo}{q:IntKind}(an:P.underlying t=some (.array 3 e))(hi:P.info? e=some i)(hsz:i.size=1)
  (bH:∀w,(zeroValue t).run P w=.ok (.agg #[.int q 0,.int q 0,.int q 0]) w) (h0:z.ba p'=.int q gT) (h1:z.ba oM=.int q a2) (A:z.ba i6=.int q a3)
  (hK:K (z.put dst (.agg [.int q gT,.int q a2,.int q a3]))):af P B am z dst (.build t #[(0,p'),(1,oM),(2,i6)]) K :=
 .val λU w C a M type pos after=>by
  have v0:=cI M.tmps p';rw[h0]at v0
  have ig:=cI M.tmps oM;rw[h1]at ig
  have v2:=cI M.tmps i6;rw[A]at v2
  refine⟨.agg #[.int q gT,.int q a2,.int q a3],w,C,z,_,?_,M,.agg [.int q gT,.int q a2,.int q a3] [.int q gT,.int q a2,.int q a3] rfl (λj d v N W=>?_),hK⟩
  ·simp[execOp,v0.fu,ig.fu,v2.fu,Instr.build,bH,run_underlying an,zr hi,hsz,Result.andThen,Instr.fill,Value.cells]
  match j with
  |0=>cases N;cases W;exact .int _ _
  |1=>cases N;cases W;exact .int _ _
  |2=>cases N;cases W;exact .int _ _
  |j+3=>simp at N
variable{C:Nat->Nat}{a:Act}{w:World}{v:Value}{xs:List D}{k e:Nat}
theorem bI.commit(M:bI U w C z a)(s:Nat)(hs:z.H s=some (.row v xs k e))(az:av)(au:∀w C,bh w C (.Q (.own s v) k xs) v->∀j ak,bh w C (z.t j) ak->bh w C (az.t j) ak)(cG:∀j o,az.H j=some o->(j=s/\o=.own v xs.length k e)\/(j≠s/\z.H j=some o)): ∃aQ,bh w aQ (.Q (.own s v) k xs) v/\bI U w aQ az a:=by obtain⟨bv,cap,W,hc,hm,Y,eA,cH⟩:=M.heap.ch s _ hs;by_cases h0:0<cap;obtain⟨b,vs,rfl,F,hsz,df,ae⟩:=cH h0;have e_:aI.ef (.row v xs k e) b:=⟨_,cap,W,h0⟩;have jo:nO w C w (gz C b (xs.length*k)):=⟨atg _,λx _=>D9 C b _ asZ x,λ_ _ _ _=>rfl⟩;have a1:da (λx=>x=b) w C w (gz C b (xs.length*k)):=⟨jo,rfl,rfl,rfl,λx _ I=>⟨rfl,rE _ _ I⟩⟩;(have dM:bh w (gz C b (xs.length*k)) (.Q (.own s v) k xs) v:=by have:=xW (w:=w) (C:=gz C b (xs.length*k)) (tg:=.own s v) (k:=k) (xs:=xs) (vs:=vs.toList) (b:=b) (e:=e) (ko:=(0,0)) (cap:=cap) F Y hc hm (by rw[hB];exact atg _) (λj d N=>axp) W.symm;rw[W]at this⊢;exact this);refine⟨gz C b (xs.length*k),dM,⟨λj=>au _ _ dM j _ ((M.tmps j).ext jo),⟨λj o ah=>?_,λj ew o bL x a6 h1 A an cW=>?_,λj o x ah an=>?_⟩,M.size,M.defers,?_⟩⟩;rcases cG j o ah with⟨rfl,rfl⟩|⟨ad,ah⟩;exact⟨_,cap,W,hc,hm,λ_=>⟨b,vs,rfl,F,hsz,hB _ _ _⟩⟩;exact(M.heap.ch j o ah).iv jo λx I=>⟨rfl,rE _ _ λe=>by subst e;exact M.heap.inj j s o _ x ad ah hs I e_⟩;(have key:∀j o,az.H j=some o->o.ef x->∃dn,z.H j=some dn/\dn.ef x:=λj o ah an=>by rcases cG j o ah with⟨rfl,rfl⟩|⟨_,ah⟩;obtain⟨bL,hY,Z,aD⟩:=an;rw[W]at Z;have:=pc Z;subst this;exact⟨_,hs,e_⟩;exact⟨o,ah,an⟩);obtain⟨dn,Z,aD⟩:=key j o h1 an;obtain⟨lN,bc,cL⟩:=key ew bL A cW;exact M.heap.inj j ew dn lN x a6 Z bc aD cL;rcases cG j o ah with⟨rfl,rfl⟩|⟨_,ah⟩;obtain⟨bL,hY,Z,aD⟩:=an;rw[W]at Z;have:=pc Z;subst this;exact M.heap.cN _ _ _ hs e_;exact M.heap.cN j o x ah an;refine M.step.trans a1 λx I wH=>?_;subst wH;rcases M.heap.cN s _ _ hs e_ with h1|h1;exact h1;omega;have I:xs=[]:=atm asZ;subst I;(have hcap:cap=0:=by omega);subst hcap;(have dM:bh w C (.Q (.own s v) k []) v:=by cases bv with|none=>rw[W];exact .jk _ _ none rfl|some dF =>obtain⟨b,rfl,F⟩:=eA dF rfl;rw[W];exact .Q _ _ [] b 0 0 (λ_=>undef) rfl F (atg _) (atq _) (λx I=>by cases I) as1 (λj d N=>by simp[b1]at N) (λj d N=>by simp[b1]at N) (λj d N=>by simp[b1]at N));(have tN:∀j o x,az.H j=some o->o.ef x->j≠s/\z.H j=some o:=λj o x ah an=>by rcases cG j o ah with⟨rfl,rfl⟩|A;obtain⟨bL,hY,Z,aD⟩:=an;rw[W]at Z;simp only[Value.slice.injEq]at Z;simp at aD;omega;exact A);refine⟨C,dM,⟨λj=>au _ _ dM j _ (M.tmps j),⟨λj o ah=>?_,λj ew o bL x a6 h1 A an cW=>?_,λj o x ah an=>?_⟩,M.size,M.defers,M.step⟩⟩;rcases cG j o ah with⟨rfl,rfl⟩|⟨ad,ah⟩;exact⟨_,0,W,atg _,atq _,λh=>absurd h as1⟩;exact M.heap.ch j o ah;exact M.heap.inj j ew o bL x a6 (tN j o x h1 an).2 (tN ew bL x A cW).2 an cW;exact M.heap.cN j o x (tN j o x ah an).2 an
variable{c:Code}{aA:List D}{b:Nat}
theorem X.HE(s q i:Nat)(hs:z.H s=some (.row v xs k e))(G:z.H q=some (.box b aA))(Mh:q≠s)(hi:aA[i]?=some (.al v))
  (h:X U c ((z.b6 s none).b6 q (some (.box b (iw aA i (.Q .none k xs))))) K):X U c z K :=
 ⟨λa w C M=>by
  obtain⟨aQ,dM,fV⟩:=M.commit s hs (z.b6 s none) (λw C _ j ak ae=>ae) (λj o ah=>by
   by_cases ad:j=s
   ·subst ad;rw[qL]at ah;cases ah
   rw[mc z none ad]at ah;exact .inr ⟨ad,ah⟩)
  have u7:(z.b6 s none).H q=some (.box b aA):=by rw[mc z none Mh];exact G
  exact h.run a w aQ (fV.Hw q u7 λdl ae=>db.cell ae λak an=>(db.Si ae hi an) ▸ dM.jl)⟩
theorem X.BF(s j:Nat)(x:D)(ad:z.t j=.box s b 0)(hs:z.H s=some (.box b aA))(I:x.cells=aA)(d9:aA.all D.one=true)
  (h:X U c {t:=λi=>_root_.cond (Nat.beq i j) (.a8 aA.length [x] 0 0) (z.t i),H:=λi=>_root_.cond (Nat.beq i s) none (z.H i)} K) (aw:∀(w:World) (C:Nat->Nat) v,bh w C (.box s b 0) v->v=.pointer (some ⟨b,0,none⟩):=by intro w C v h;cases h;rfl):X U c z K :=
 ⟨λa w C M=>by
  obtain⟨vs,e,h1,A,Z⟩:=M.heap.ch s _ hs;have jo:nO w C w (gz C b aA.length):=⟨atg _,λx _=>D9 C b _ asZ x,λ_ _ _ _=>rfl⟩;have a1:da (λx=>x=b) w C w (gz C b aA.length):=⟨jo,rfl,rfl,rfl,λx _ I=>⟨rfl,rE _ _ I⟩⟩
  have fV:bI U w (gz C b aA.length) (z.b6 s none) a:=M.b6 a1 (λx I=>by subst I;exact M.heap.cN s _ x hs rfl)
   (λbq o x a6 ah an I=>axw) (λx I=>by cases I)
  have qW:=A.ext jo
  have dM:bh w (gz C b aA.length) (.Q .none aA.length [x]) (.slice (some ⟨b,0,none⟩) 1 1) :=
   xW (xs:=[x]) (vs:=vs) (ko:=(0,0)) (e:=e) h1 (λy hy=>by rw[atW.1 hy,I]) (atg _) as2 (by rw[hB];simp) (λi d N=>by
    have ho:aA[i]?=some d:=by simpa[b1,I]using N
    obtain⟨ak,an⟩:=lI (l:=vs) (i:=i) (by rw[<-A.1];exact e9 ho)
    exact⟨ak,an,qW.2 i d ak ho an,A.one d9 ak (atz.2 ⟨i,an⟩)⟩) trivial
  refine h.run a w _ ⟨λi=>?_,⟨λi o ah=>?_,λi hp o bL y a6 ha F=>?_,λi o y ah=>?_⟩,fV.size,fV.defers,fV.step⟩
  ·show bh _ _ (_root_.cond (Nat.beq i j) _ _) _
   cases hi:Nat.beq i j with
   |false=>exact fV.tmps i
   |true =>
    have:=atx hi;subst this
    have bc:=M.tmps i;rw[ad]at bc;rw[aw _ _ _ bc];have:=bh.a8 aA.length [x] 0 0 b 0 1 dM;simpa using this
  ·refine fV.heap.ch i o ?_;exact ah
  ·exact fV.heap.inj i hp o bL y a6 ha F
  exact fV.heap.cN i o y ah⟩
variable{x:Operand}
theorem af.Mi{K:av->Prop}{off:Nat}(I:z.ba x=.a8 k xs i off)(hK:K (z.put dst (.a8 k xs i off))):af P B am z dst (.nilCheck x) K :=
 .val λU w C a M type pos after=>by
  have W:=cI M.tmps x;rw[I]at W
  refine⟨a.eval x,w,C,z,_,?_,M,W,hK⟩
  have key:∃dF,a.eval x=.pointer (some dF):=by
   generalize a.eval x=ak at W
   cases W with
   |a8 k xs i off b o cap h=>exact⟨_,rfl⟩
  obtain⟨dF,h⟩:=key;simp only[execOp,h,Sem.run_pure]
variable{rt:TypeId}
theorem af.acB{K:av->Prop}{t cc:TypeId}{off:Nat}(aw:P.underlying t=some (.pointer cc))(I:z.ba x=.a8 k xs i off)(hK:K (z.put dst (.bool false))):af P B am z dst (.binOp .eql t x (.const (.pointer none)) rt) K :=
 .val λU w C a M type pos after=>by
  have W:=cI M.tmps x;rw[I]at W
  have key:∃dF,a.eval x=.pointer (some dF):=by
   generalize a.eval x=ak at W
   cases W with
   |a8 k xs i off b o cap h=>exact⟨_,rfl⟩
  obtain⟨dF,h⟩:=key;refine⟨.bool false,w,C,z,_,?_,M,.bool _,hK⟩;have eV:a.eval (.const (.pointer none))=.pointer none:=rfl;have aD:=zq (P:=P) .eql t x (.const (.pointer none)) (.pointer (some dF)) (.pointer none) w as1 as1
  have cL:(binOp .eql t (.pointer (some dF)) (.pointer none)).run P w=.ok (.bool false) w:=by
   have h:∀d:Nat,(Op.equalIn (d+1) t (.pointer (some dF)) (.pointer none)).run P w=.ok false w:=λd=>by
    simp[Op.equalIn,run_underlying aw]
   simp only[binOp];simp[Op.equal,Op.maxDepth,h 9999]
  simp only[execOp,h,eV,Sem.run_bind,aD,cL,Result.andThen_ok,Sem.run_pure]
theorem af.acC{K:av->Prop}{t cc:TypeId}(aw:P.underlying t=some (.pointer cc))(I:z.ba x=.al (.pointer none))(hK:K (z.put dst (.bool true))):af P B am z dst (.binOp .eql t x (.const (.pointer none)) rt) K :=
 .val λU w C a M type pos after=>by
  have W:=cI M.tmps x;rw[I]at W
  have h:a.eval x=.pointer none:=by
   generalize a.eval x=ak at W;cases W;rfl
  refine⟨.bool true,w,C,z,_,?_,M,.bool _,hK⟩;have eV:a.eval (.const (.pointer none))=.pointer none:=rfl;have aD:=zq (P:=P) .eql t x (.const (.pointer none)) (.pointer none) (.pointer none) w as1 as1
  have cL:(binOp .eql t (.pointer none) (.pointer none)).run P w=.ok (.bool true) w:=by
   have h:∀d:Nat,(Op.equalIn (d+1) t (.pointer none) (.pointer none)).run P w=.ok true w:=λd=>by
    simp[Op.equalIn,run_underlying aw]
   simp only[binOp];simp[Op.equal,Op.maxDepth,h 9999]
  simp only[execOp,h,eV,Sem.run_bind,aD,cL,Result.andThen_ok,Sem.run_pure]
variable{K:av->Prop}{ay:List bx}{j:Nat}{d:D}
theorem acD(Y:∀x∈xs,x.cells.length=k)(hi:xs[i]?=some (.agg aA))(ad:j<k)(m:Nat): (b1 (xs.set i (.agg (iw aA j d))))[m]?=if m=i*k+j then some d else(b1 xs)[m]?:=by have cz:=e9 hi;have hcs:aA.length=k:=Y _ (atr hi);(have hy:(D.agg (iw aA j d)).cells.length=k:=by show(iw aA j d).length=k;rw[Ls,hcs]);have dm:=pN Y;(have dS:i*k+k<=xs.length*k:=by rw[<-avj];exact auL k cz);rw[Ht Y cz hy,pY _ _ _ (by rw[dm,hy];exact dS)];by_cases h:i*k<=m/\m<i*k+k;rw[as_ ⟨h.1,by rw[hy];exact h.2,by omega⟩];show(iw aA j d)[m-i*k]?=_;rw[Lt];have A:=wz Y hi (j:=m-i*k) asZ;rw[show i*k+(m-i*k)=m by omega]at A;by_cases e:m=i*k+j;rw[as_ ⟨by omega,by omega⟩,as_ e];rw[as9 asZ,as9 e,A];rfl;rw[as9 (λcG=>h ⟨cG.1,by have:=cG.2.1;rw[hy]at this;exact this⟩),as9 asZ]
variable{t:Nat}{cc:bx}
theorem af.jr(hT:dh P ay){f:Nat}(s:Nat){m o aB:Nat}{l9:Bool}(I:z.ba x=.al (g7 v m))(hs:z.H s=some (.row v xs k e))(hi:i<xs.length)
  (au:dv ay t=some cc) (b5:cc.kind=.struct) (nP:cc.o5[f]?=some (o,aB,l9)) (hsz:aB≠0) (hK:K (z.put dst (.al (g7 v (m+o))))):af P B am z dst (.fieldAddr t x f) K :=
 .val λU w C a M type pos after=>by
  obtain⟨c3,rfl⟩:=hT.get au;have W:=cI M.tmps x;rw[I]at W
  obtain⟨b,cap,vs,rfl,_⟩:=kj.pos (i:=i) (M.heap.ch s _ hs) hi;obtain⟨bG,l_,tE,_⟩:=c3.Bf b5;obtain⟨gJ,dm,xU,⟨qK,DF,DG⟩,_,_⟩:=Hc tE nP;have Bh:bG[f]?=some gJ:=by simpa using dm
  refine⟨_,w,C,z,_,?_,M,.al _,hK⟩;simp[execOp,W.gb,g7,Instr.fieldAt,run_underlying l_,Bh,Instr.sureAddr,fieldPlace,zr DF,DG,hsz,xU,o6]
variable{y:Operand}
theorem af.vh(hT:dh P ay)(s:Nat)(I:z.ba x=.al (g7 v (i*k+j)))(hs:z.H s=some (.row v xs k e))(au:dv ay t=some cc)(hsz:cc.aB=1)
  (hi:xs[i]?=some (.agg aA)) (ad:j<k) (ah:(z.ba y).one=true) (hK:K ((z.b6 s (some (.row v (xs.set i (.agg (iw aA j (z.ba y)))) k e))).put dst .undef)):af P B am z dst (.store t x y) K :=
 .unit λU w C a M type pos after=>by
  obtain⟨c3,rfl⟩:=hT.get au;have cz:=e9 hi;have W:=cI M.tmps x;rw[I]at W
  have hy:=cI M.tmps y;obtain⟨h1,A⟩:=hy.oE ah;obtain⟨b,cap,vs,rfl,hc,hm,Y,F,fK,df,ae⟩:=kj.pos (M.heap.ch s _ hs) cz;have dS:i*k+k<=cap*k:=by rw[<-avj];exact auL k (atY cz hc)
  have gA:i*k+j+0+(a.eval y).cells.toList.length<=vs.size:=by rw[h1,fK];simp;omega
  have cY:=run_storeCells_at P b (i*k+j) e (a.eval y).cells.toList 0 vs w F gA (by rw[h1];simpa using A);simp only[avA]at cY;have a1:=da.setRow (C:=C) (n:=0) F (aA:=(vs.toList.take (i*k+j)++(a.eval y).cells.toList++vs.toList.drop (i*k+j+(a.eval y).cells.toList.length)).toArray) asZ (λo ah=>by omega);have e_:aI.ef (.row (.slice (some ⟨b,0,none⟩) xs.length cap) xs k e) b:=⟨_,cap,rfl,by omega⟩;refine⟨_,_,_,?_,M.b6 a1 (s:=s) (λx I=>ax0) (λbq bL eo a6 c9 an nS=>?_) λV bH=>?_,hK⟩
  ·simp only[g7,atT]at W;simp only[execOp,W.gb,Instr.storeAt,Instr.sureAddr,Sem.run_bind,Sem.run_pure,Result.andThen_ok,storeVar,c3.size,hsz,h1];rw[h1]at cY;rw[as9 as1];exact(as' (λr=>Result.andThen r λ_ w'=>Result.ok Next.skip w') cY).trans rfl
  ·subst nS;exact M.heap.inj bq s bL _ eo a6 c9 hs an e_
  cases bH
  refine⟨⟨_,cap,by rw[auG],by simpa using hc,hm,λV bH=>?_,λdF gc=>⟨b,by cases gc;rfl,by simpa using hM F⟩,λ_=>⟨b,_,rfl,setRow_heap w b _ _ e _ F,?_,hB _ _ _,λm d N=>?_⟩⟩,λx I=>?_⟩
  ·rcases avn bH with bH|rfl
   ·exact Y V bH
   show(iw aA j (z.ba y)).length=k;rw[Ls];exact Y _ (atr hi)
  ·simp only[at6,atf,atv,aul,au0,h1];simp;omega
  ·rw[acD Y hi ad]at N;rw[au3,pY _ _ _ (by simpa using gA)];have ku:(a.eval y).cells.toList.length=1:=by rw[h1];rfl
   rw[ku];by_cases tW:m=i*k+j
   ·rw[as_ tW]at N;simp only[atQ]at N;subst N;rw[as_ ⟨by omega,by omega,by simp;omega⟩,tW,avY];exact⟨a.eval y,by rw[h1];rfl,hy.ext (by rw[ku]at a1;exact a1.ext),A⟩
   rw[as9 tW]at N;rw[as9 asZ];obtain⟨ak,Z,aD,bc⟩:=ae m d N;exact⟨ak,by simpa using Z,aD.ext (by rw[ku]at a1;exact a1.ext),bc⟩
  obtain⟨hX,hY,dL,_⟩:=I;simp only[Value.slice.injEq,atQ,Addr.mk.injEq]at dL;obtain⟨⟨rfl,_⟩,_⟩:=dL;exact⟨M.heap.cN s _ _ hs e_,.inl rfl⟩
variable{aF:bx}
theorem Sv{e:bx}(ao:e.gj P)(km:aF.gj P)(b5:e.kind=.slice aF.t)(bH:aF.zero.isSome=true)(h0:0<aF.aB){n:Nat}(ax:n*aF.aB<=16777216){ds:List (Nat×D)}(sE:ds.length=n)(dM:tC aF.aB 0 ds){vs:List (Nat×Value)}(h1:vs.map (·.1)=ds.map (·.1))(A:db w C (ds.map (·.2)) (vs.map (·.2))): ∃dl:List Value,(Instr.buildSlice e.t n ⟨vs⟩).run P w=.ok (.slice (some ⟨w.heap.size,0,none⟩) n n) (w.alloc (.cells dl.toArray aF.t))/\dl.length=n*aF.aB/\(∀x∈ds.map (·.2),x.cells.length=aF.aB)/\∀(j:Nat) d,(b1 (ds.map (·.2)))[j]?=some d->∃ak,dl[j]?=some ak/\bh w C d ak/\ak.oneCell'=true:=by obtain⟨V,bH⟩:=avF.1 bH;obtain⟨i,hi,hs,_,nk⟩:=km.qJ;obtain⟨ei,lJ,ma,jK⟩:=nk V bH;obtain⟨tG,hcells⟩:=Lv dM;have an:=ao.kk b5;(have o7:vs.length=n:=by have:=A.1;simp only[atb]at this;omega);(have fK:vs=((vs.map (·.2)).zipIdx 0).map λx=>(x.2,x.1):=awJ);(have hsz:∀(j:Nat) d v,(ds.map (·.2))[j]?=some d->(vs.map (·.2))[j]?=some v->d.cells.length=aF.aB/\v.cells.size=aF.aB/\db w C d.cells v.cells.toList/\∀ak∈v.cells.toList,ak.oneCell'=true:=aw2);(have mQ:∀v∈vs.map (·.2),v.cells.size=aF.aB:=awV);have DK:=Great.fill_whole h0 (vs.map (·.2)) ((Array.range (n*aF.aB)).map (ei.cells[·%ei.cells.size]!)) mQ (by simp only[atb,o7,Array.size_map,Array.size_range]);rw[<-fK]at DK;(have cY:(Instr.buildSlice e.t n ⟨vs⟩).run P w=.ok (.slice (some ⟨w.heap.size,0,none⟩) n n) (w.alloc (.cells ((vs.map (·.2)).flatMap λv=>v.cells.toList).toArray aF.t)):=awF);(have aj:(ds.map (·.2)).length=n:=by simpa using sE);(have Y:∀x∈ds.map (·.2),x.cells.length=aF.aB:=awW);have dm:=Lw (w:=w) (C:=C) (ds:=ds.map (·.2)) (vs:=vs.map (·.2)) A.1 (λi d v N W=>(hsz i d v N W).2.2.1);refine⟨_,cY,?_,Y,λj d N=>?_⟩;rw[<-dm.1];show(b1 _).length=_;rw[pN Y,aj];exact awI
variable{bT:Array (Nat×Operand)}
theorem af.acE(hT:dh P ay){bD n s q:Nat}(au:dv ay t=some cc)(b5:cc.kind=.slice bD)(fr:dv ay bD=some aF)(Z:Nat.ble (n*aF.aB) 16777216=true)(aD:Nat.blt 0 aF.aB=true)(bc:aF.zero.isSome=true)
  (G:zo true z bT.toList λds=>ds.length=n/\tC aF.aB 0 ds/\∀v,K ((z.b6 q (some (.row v (ds.map (·.2)) aF.aB bD))).put (some s) (.al v))):af P B am z (some s) (.buildSlice t n bT) K :=
 .val λU w C a M type pos after=>by
  obtain⟨c3,rfl⟩:=hT.get au;obtain⟨fo,rfl⟩:=hT.get fr;obtain⟨ds,⟨sE,dM,hK⟩,tG,pV⟩:=DI G;have cL:=pV rfl w C a.eval (λx I=>cI M.tmps x.2)
  obtain⟨dl,cY,zP,Y,ae⟩:=Sv (P:=P) c3 fo b5 bc (atY (atX _) (atH aD)) (atH Z) sE dM
   (w:=w) (C:=C) (vs:=(bT.map λ(i,x)=>(i,a.eval x)).toList) (by simp[tG]) (by simpa[avE]using cL)
  have aj:(ds.map (·.2)).length=n:=by simpa using sE
  have a1:=da.alloc (λ_=>False) w C (.cells dl.toArray aF.t) 0;refine⟨_,_,_,_,_,?_,M.newObj q (mV:=.row (.slice (some ⟨w.heap.size,0,none⟩) n n) (ds.map (·.2)) aF.aB aF.t) (o:=.cells dl.toArray aF.t) ?_ ?_,.al _,hK _⟩
  ·simp only[execOp];rw[Sem.run_bind,cY];rfl
  ·refine⟨_,n,by rw[aj],by omega,?_,Y,λdF gc=>⟨_,by cases gc;rfl,hM (kR w _)⟩,λ_=>⟨w.heap.size,_,rfl,kR w _,by simpa using zP,hB _ _ _,λj d N=>?_⟩⟩
   ·simp only[maxLen];have eV:=atH Z;have fX:n<=n*aF.aB:=awf n (atY (atX _) (atH aD));omega
   obtain⟨ak,eV,fX,hF⟩:=ae j d N;exact⟨ak,by simpa using eV,fX.ext a1.ext,hF⟩
  rintro b ⟨hX,cap,h,_⟩;exact pc h
theorem dK.get:∀{ww aR:List D},dK ww aR->ww.length=aR.length/\∀(j:Nat) d',aR[j]?=some d'->∃d,ww[j]?=some d/\aq d d'
 |[],[],_=>⟨rfl,λj d' h=>by simp at h⟩
 |a::r,b::s,h=>by obtain⟨h1,A⟩:=dK.get h.2;refine⟨by simp[h1],λj d' N=>?_⟩;cases j with|zero=>cases N;exact⟨a,rfl,h.1⟩|succ j=>exact A j d' N
 |[],_::_,h=>h.elim
 |_::_,[],h=>h.elim
variable{a':List D}
theorem aq.acF{t:iu}(h:dK (b1 xs) (b1 a'))(aj:xs.length=a'.length)(Y:∀y∈a',y.cells.length=k):aq (.Q t k xs) (.Q t k a') :=
 ⟨λw C v ae=>by
  obtain⟨_,aV⟩:=h.get
  cases ae with
  |jk t k a au =>
   have:a'=[]:=atm (by simpa using aj.symm)
   subst this;exact .jk _ _ a au
  |Q t k xs b o cap g au F hc hm fD df ga d9 cG =>
   rw[aj]at au hc df⊢;refine .Q t k a' b o cap g au F hc hm Y df (λj d N=>?_) (λj d N=>?_) (λj d N=>?_)
   ·obtain⟨gU,h1,_⟩:=aV j d N;exact ga j gU h1
   ·obtain⟨gU,h1,_⟩:=aV j d N;exact d9 j gU h1
   obtain⟨gU,h1,A⟩:=aV j d N;exact A.le _ _ _ (cG j gU h1)⟩
structure pj where
 f7:Nat->Option Nat
 BG:Nat->Option Nat
 pO:∀j s,f7 j=some s↔BG s=some j
def pj.same(p:Nat->Bool):pj:=⟨λj=>bif p j then some j else none,λj=>bif p j then some j else none,λj s=>by
  by_cases e:j=s
  ·subst e;rfl
  have oD:¬s=j:=λh=>e h.symm
  cases p j<;>cases p s<;>simp[e,oD]⟩
def x8(H:bF)(m:pj):bF:=λj=>match m.f7 j with|some s=>H s|none=>none
def BH(H aO:bF)(m:pj):bF:=λs=>match m.BG s with|some j=>aO j|none=>H s
theorem HF{H:bF}{m:pj}{o:aI}(h:x8 H m j=some o):∃s,m.f7 j=some s/\H s=some o:=by unfold x8 at h;cases e:m.f7 j with|none=>rw[e]at h;cases h|some s=>rw[e]at h;exact⟨s,rfl,h⟩
variable{aO:bF}
theorem HG{H:bF}{m:pj}{s:Nat}{o:aI}(h:BH H aO m s=some o):(∃j,m.BG s=some j/\aO j=some o)\/(m.BG s=none/\H s=some o):=by unfold BH at h;cases e:m.BG s with|none=>rw[e]at h;exact .inr ⟨rfl,h⟩|some j=>rw[e]at h;exact .inl ⟨j,rfl,h⟩
theorem pj.inj{m:pj}{j ew s bq:Nat}(h:m.f7 j=some s)(bz:m.f7 ew=some bq):j=ew↔s=bq :=
 ⟨λe=>by subst e;rw[h]at bz;exact at3 bz,λe=>by
  subst e;have h1:=(m.pO j s).1 h;have A:=(m.pO ew s).1 bz
  rw[h1]at A;exact at3 A⟩
variable{f:FuncId}{ds:List D}{a7:D->bF->Prop}
theorem acG(M:bI U w C z a)(m:pj){args:List Value}(hc:c7 P B f ds (x8 z.H m) a7)(ae:db w C ds args)(N:iV am dst=true){K:av->Prop}(hK:∀d aO,a7 d aO->∃d',aq d d'/\K (({t:=z.t,H:=BH z.H aO m}:av).put dst d')): Calls P f ⟨args⟩ w λe w'=>∃v,e=.returned v/\∃az aQ,K az/\bI U w' aQ az (a.put dst v):=by let Ft:Nat->Prop:=λb=>∃k s o,m.f7 k=some s/\z.H s=some o/\o.ef b;have tM:∀b,Ft b->U.pQ b:=λb ⟨k,s,o,_,h1,A⟩=>M.heap.cN s o b h1 A;(have hH:l8 Ft w C (x8 z.H m):=by refine⟨λj o ah=>?_,λj ew o bL b a6 h1 A an cW=>?_,λj o b ah an=>?_⟩;obtain⟨s,_,h⟩:=HF ah;exact M.heap.ch s o h;obtain⟨s,hs,h⟩:=HF h1;obtain⟨bq,c9,bz⟩:=HF A;have iX:s≠bq:=λe=>a6 ((pj.inj hs c9).2 e);exact M.heap.inj s bq o bL b iX h bz an cW;obtain⟨s,hs,h⟩:=HF ah;exact⟨j,s,o,hs,h,an⟩);refine(hc.2 w C args Ft M.base (λb F=>U.Dt (tM b F)) hH ae).mono ?_;rintro e w' ⟨v,d,aQ,aO,rfl,fE,eQ,hs,no⟩;obtain⟨d',dS,hK⟩:=hK d aO fE;refine⟨v,rfl,_,aQ,hK,bI.put ?_ N (dS.le _ _ _ eQ)⟩;have qP:∀j o,m.BG j=none->z.H j=some o->∀b,o.ef b->¬Ft b/\b<w.heap.size:=λj o ad ah b F => ⟨λ⟨k,s,bL,h1,A,Z⟩=>M.heap.inj j s o bL b (λe=>by subst e;rw[(m.pO k j).1 h1]at ad;cases ad) ah A F Z,(M.heap.ch j o ah).lt F⟩;refine⟨λi=>(M.tmps i).ext hs.ext,⟨λj o ah=>?_,λj ew o bL b a6 h1 A an cW=>?_,λj o b ah an=>?_⟩,M.size,M.defers,?_⟩;rcases HG ah with⟨k,_,h⟩|⟨ad,h⟩;exact no.ch k o h;exact(M.heap.ch j o h).iv hs.ext λb F=>hs.iv b (qP j o ad h b F).2 (qP j o ad h b F).1;rcases HG h1 with⟨k,Y,h⟩|⟨ad,h⟩<;>rcases HG A with⟨bB,fD,bz⟩|⟨gk,bz⟩;exact no.inj k bB o bL b (λe=>a6 ((pj.inj ((m.pO k j).2 Y) ((m.pO bB ew).2 fD)).1 e)) h bz an cW;obtain⟨Z,aD⟩:=qP ew bL gk bz b cW;rcases no.cN k o b h an with bc|bc;exact Z bc;omega;obtain⟨Z,aD⟩:=qP j o ad h b an;rcases no.cN bB bL b bz cW with bc|bc;exact Z bc;omega;exact M.heap.inj j ew o bL b a6 h bz an cW;rcases HG ah with⟨k,_,h⟩|⟨ad,h⟩;rcases no.cN k o b h an with bc|bc;exact tM b bc;exact .inr (auC M.step.ext.size bc);exact M.heap.cN j o b h an;exact M.step.trans hs λb F bM=>axS
def rR(l:List (Nat×D))(H:bF):av:={t:=λj=>(aK l j).getD .any,H}
structure fM (z:av) (l:List (Nat×D)) (H:bF):Prop where
 t:jI z l
 h:∃f7:Nat->Nat,(∀k bB o bL,H k=some o->H bB=some bL->f7 k=f7 bB->k=bB)/\∀k o,H k=some o->z.H (f7 k)=some o
theorem fM.same{l:List (Nat×D)}{H:bF}(h1:jI z l)(A:∀k o,H k=some o->z.H k=some o):fM z l H:=⟨h1,λk=>k,λ_ _ _ _ _ _ e=>e,A⟩
section
variable{K:cM->av->Prop}
theorem bI.Ej{l:List (Nat×D)}{H:bF}(h:bI U w C z a)(Y:fM z l H):bI U w C (rR l H) a:=by
 obtain⟨f7,hi,hH⟩:=Y.h
 exact⟨λi=>(Y.t.aK i).le _ _ _ (h.tmps i),
  ⟨λs o ah=>h.heap.ch (f7 s) o (hH s o ah),λs bq o bL b ax Z aD=>h.heap.inj (f7 s) (f7 bq) o bL b (λe=>ax (hi s bq o bL Z aD e)) (hH s o Z) (hH bq bL aD),
   λs o b ah=>h.heap.cN (f7 s) o b (hH s o ah)⟩,h.size,h.defers,h.step⟩
theorem X.jP(l:List (Nat×D))(H:bF)(h1:fM z l H)(h:X U c (rR l H) K):X U c z K :=
 ⟨λa w C M=>h.run a w C (M.Ej h1)⟩
def HH(l:α->List (Nat×D))(H:α->bF)(K:cM->av->Prop):cM->av->Prop
 |.normal,z=>∃x,fM z (l x) (H x)
 |.exit id,z=>K (.exit id) z
 |.ret,z=>K .ret z
theorem X.HH{a b:Code}{α:Type}(l:α->List (Nat×D))(H:α->bF)(h:X U a z (HH l H K))(bz:∀x,X U b (rR (l x) (H x)) K):X U (.seq a b) z K :=
 .seq (h.mono λe az Y=>by
  cases e with
  |normal=>obtain⟨x,h1⟩:=Y;exact(bz x).jP _ _ h1
  |exit id=>exact Y
  |ret=>exact Y)
def HI(l:α->List (Nat×D))(H:α->bF)(fv:α->Nat)(x:α)(K:cM->av->Prop):cM->av->Prop
 |.normal,z=>∃b0,fv b0<fv x/\fM z (l b0) (H b0)
 |.exit id,z=>K (.exit id) z
 |.ret,z=>K .ret z
theorem X.HI{c:Code}{α:Type}(l:α->List (Nat×D))(H:α->bF)(fv:α->Nat)(ez:α)(h1:fM z (l ez) (H ez))
  (round:∀x,X U c (rR (l x) (H x)) (HI l H fv x K)):X U (.loop c) z K :=
 ⟨λa w C M=>by
  have nP:=M.Ej h1;intro b k aA
  have key:∀n x,fv x=n->∀a w C,bI U w C (rR (l x) (H x)) a->
    ∃e bv w',(∃c8 az aQ,e=cM.f7 c8/\K c8 az/\bI U w' aQ az bv)/\Arrives P (lone (b.at a (.code c::.inLoop c::k)) aA w) b k aA e bv w':=by
   intro n
   induction n using Nat.strongRecOn with
   |_ n aY =>
    intro x ax a w C M;obtain⟨e,tz,tA,⟨c8,xS,tB,ao,hK,bM⟩,oB⟩:=(round x).run a w C M b (.inLoop c::k) aA;subst ao
    cases c8 with
    |normal =>
     obtain⟨b0,bi,Z⟩:=hK;obtain⟨Du,a₂,Dv,Dw,Dx⟩:=aY (fv b0) (ax ▸ bi) b0 rfl tz tA tB (bM.Ej Z);exact⟨Du,a₂,Dv,Dw,.of_steps (Steps.trans oB (.one step_inLoop)) Dx⟩
    |exit id=>exact⟨_,tz,tA,⟨.exit id,xS,tB,rfl,hK,bM⟩,.pass (x:=.inLoop c) rfl (λ_ _=>.inl (by simp[cM.f7])) oB⟩
    |ret=>exact⟨_,tz,tA,⟨.ret,xS,tB,rfl,hK,bM⟩,.pass (x:=.inLoop c) rfl (λ_ _=>.inl (by simp[cM.f7])) oB⟩
  obtain⟨e,bv,w',G,oB⟩:=key _ ez rfl a w C nP
  exact⟨e,bv,w',G,.of_steps (.one step_loop) oB⟩⟩
end
variable{args:Array Operand}{mU:Array TypeId}{b7:FuncId}{ct:List D}
section
theorem af.Sw{f:Operand}{first:List D}(M:z.ba f=.fn (.func b7) first ct)
  (g5:List D) (m:pj)  (hc:c7 P B b7 g5 (x8 z.H m) a7) (dS:dK (first++args.toList.map z.ba++ct) g5)
  (hK:∀d aO,a7 d aO->∃d',aq d d'/\K (({t:=z.t,H:=BH z.H aO m}:av).put dst d')):af P B am z dst (.call ⟨.value f,args,mU⟩) K :=
 ⟨λU w C a kV N type pos after Q'=>by
  have pb:=cI kV.tmps f;rw[M]at pb;obtain⟨fJ,hl,W,h1,A⟩:=pb.u2
  have Z:db w C (args.toList.map z.ba) (args.toList.map a.eval) :=
   ⟨by simp,λi d v N W=>by
    simp only[atA]at N W
    cases I:args.toList[i]? with
    |none=>rw[I]at N;cases N
    |some x=>rw[I]at N W;cases N;cases W;exact cI kV.tmps x⟩
  have aD:=dS.rD ((h1.append Z).append A);obtain⟨fn,iz,rH,mb⟩:=hc.1;have F:fn.body.isNone=false:=by cases F:fn.body<;>simp[F]at rH⊢
  have cY:(execOp a.eval ⟨dst,.call ⟨.value f,args,mU⟩,type,pos,after,none⟩).run P w=.ok (.enter b7 ⟨fJ++args.toList.map a.eval++hl⟩) w:=by
   simp only[execOp,resolve,W,Deferred.ofValue,Sem.run_bind,Sem.run_pure,Result.andThen_ok,invoke,callFunc,run_program,iz,mb,F,auk,auU];congr 2
   apply au7;simp
  simp only[Oper.wp,cY,Oper.upon]
  exact(acG kV m hc aD N hK).mono λe w' ⟨v,ao,h⟩=>by subst ao;exact h⟩
theorem bI.acH(h:bI U w C z a)(s:Nat)(hs:z.H s=some (.row v xs k e))(aj:xs.length=a'.length)(Y:∀y∈a',y.cells.length=k)(dS:dK (b1 xs) (b1 a')): bI U w C (z.b6 s (some (.row v a' k e))) a:=by have ah:=h.heap.ch s _ hs;have Hj:∀b,(aI.row v a' k e).ef b->(aI.row v xs k e).ef b:=λb F=>F;refine h.b6 (Ft:=λb=>(aI.row v xs k e).ef b) (.refl _ _ _) (λb F=>h.heap.cN s _ b hs F) (λbq o b ax h1 A=>h.heap.inj bq s o _ b ax h1 hs A) λx I=>?_;cases I;refine⟨?_,λb F=>?_⟩;obtain⟨dF,cap,bY,b',kq,zQ,BI,Ek⟩:=ah;refine⟨dF,cap,by rw[<-aj];exact bY,by rw[<-aj];exact b',kq,Y,BI,λhc=>?_⟩;obtain⟨b,vs,oN,wP,Sx,acI,f5⟩:=Ek hc;refine⟨b,vs,oN,wP,Sx,acI,λj d ad=>?_⟩;obtain⟨gU,g1,fx⟩:=(dK.get dS).2 j d ad;obtain⟨ak,g3,g4,Mj⟩:=f5 j gU g1;exact⟨ak,g3,fx.le _ _ _ g4,Mj⟩;exact⟨h.heap.cN s _ b hs (Hj b F),.inl (Hj b F)⟩
theorem X.vi{K:cM->av->Prop}(s:Nat)(hs:z.H s=some (.row v xs k e))(aj:xs.length=a'.length)(Y:∀y∈a',y.cells.length=k)(dS:dK (b1 xs) (b1 a'))
  (h:X U c (z.b6 s (some (.row v a' k e))) K):X U c z K:=⟨λa w C M=>h.run a w C (M.acH s hs aj Y dS)⟩
end
def wQ(am:Nat):List Oper->Nat->Bool
 |[],_=>true
 |o::r,i=>iV am o.dst&&(o.after.toList.all λe=>!Region.binds .any e||Nat.blt e.on i)&&wQ am r (i+1)
theorem Mk{l:List Oper}:∀{n:Nat},wQ am l n=true->∀{i:Nat} {o:Oper},l[i]?=some o->iV am o.dst=true/\∀e∈o.after.toList,Region.binds .any e=true->e.on<n+i:=by induction l with|nil=>intro n _ i o h;simp at h|cons x r aY =>intro n h i o ah;simp only[wQ,atd]at h;obtain⟨⟨A,Z⟩,aD⟩:=h;(cases i with|zero =>simp at ah;subst ah;refine⟨A,λe ao F=>?_⟩;have:=at0.1 Z e ao;rw[F]at this;(have:=by simpa using this);omega|succ i =>have:=aY aD (i:=i) (o:=o) (by simpa using ah);refine⟨this.1,λe ao F=>?_⟩;have:=this.2 e ao F;omega)
def nv(z:av)(H:bF):Prop:=∀k o,H k=some o->z.H k=some o
variable{hs:List (Nat×aI)}
theorem nv.u4(h:mP z hs):nv z (aK hs):=λk o ah=>h.aK k o ah
def Sy(P:Program)(B:World)(am:Nat)(ay:List bx)(ops:Array Oper)(z:av)(o:Oper)(K:av->Prop):Prop :=
 (match o.guard with
  |none=>True
  |some (j,ix)=>∃g,(ops[j]?).bind (·.dst)=some g/\z.t g=.bool ix)/\(nQ P B ay z o.dst o.op K\/af P B am z o.dst o.op K)
theorem Sz(aw:wQ am ops.toList 0=true)(hsz:bf.size=ops.size): ∀(n i:Nat),n=i->i<ops.size->bf.getD i true=false->Region.ready .any ops bf≠[]:=by intro n;induction n using Nat.strongRecOn with|_ n aY =>intro i ax hi aj;subst ax;have ah:ops[n]?=some ops[n]:=auH hi;have dj:=Mk aw (i:=n) (o:=ops[n]) (by simpa using ah);by_cases ae:∀e∈ops[n].after.toList,Region.binds Region.Mode.any e=true->bf.getD e.on false=true;intro ao;(have:n∈Region.ready Region.Mode.any ops bf:=awL);rw[ao]at this;cases this;simp only[Classical.not_forall]at ae;obtain⟨e,ao,F,a6⟩:=ae;have bi:=dj.2 e ao F;simp only[atT]at bi;refine aY e.on bi e.on rfl asZ ?_;(have BC:e.on<bf.size:=by omega);simp only[Array.getD,BC,auX]at a6⊢;simpa using a6
def HJ(P:Program)(B:World)(am:Nat)(ay:List bx)(all:Array Oper)(l:α->(Nat->Bool)->List (Nat×D))(hs:α->(Nat->Bool)->bF):List Oper->Nat->Prop
 |[],_=>True
 |o::r,i=>(∀x g,p9 all (fL g o.after.toList i)->Sy P B am ay all (rR (l x (fL g o.after.toList i)) (hs x (fL g o.after.toList i))) o λaz=>∃b0,jI az (l b0 (hD (fL g o.after.toList i) i))/\nv az (hs b0 (hD (fL g o.after.toList i) i)))/\HJ P B am ay all l hs r (i+1)
theorem acJ{ay:List bx}{l:α->(Nat->Bool)->List (Nat×D)}{hs:α->(Nat->Bool)->bF}{r:List Oper}:∀{n:Nat},HJ P B am ay all l hs r n->∀{i:Nat} {o:Oper},r[i]?=some o->∀x f,p9 all (fL f o.after.toList (n+i))->Sy P B am ay all (rR (l x (fL f o.after.toList (n+i))) (hs x (fL f o.after.toList (n+i)))) o λaz=>∃b0,jI az (l b0 (hD (fL f o.after.toList (n+i)) (n+i)))/\nv az (hs b0 (hD (fL f o.after.toList (n+i)) (n+i))):=by induction r with|nil=>intro n _ i o h;simp at h|cons x r aY =>intro n h i o ah y f;exact awQ
theorem SA{ay:List bx}(hT:dh P ay){U:b8 P B am}{a7:av->Prop}{Q':Exit->Act->World->Prop}(fE:∀z a w C,bI U w C z a->a7 z->Q' .normal a w)(aw:wQ am ops.toList 0=true)(l:α->(Nat->Bool)->List (Nat×D))(hs:α->(Nat->Bool)->bF)(pi:∀x f,(∀i,i<ops.size->f i=true)->a7 (rR (l x f) (hs x f)))(step:HJ P B am ay ops l hs ops.toList 0): ∀(n:Nat) (x:α) (bf:Array Bool) (a:Act) (w:World) (C:Nat->Nat),bf.size=ops.size->bf.toList.count false=n->bI U w C (rR (l x (el bf)) (hs x (el bf))) a->p9 ops (el bf)->wpAny P .any ops Q' n bf a w
 |0,x,bf,a,w,C,hsz,hc,M,bg=>by(have hC:∀i,i<ops.size->el bf i=true:=λi hi=>awR);refine⟨?_,fE _ _ _ _ M (pi _ _ hC)⟩;cases ae:Region.ready .any ops bf with|nil=>rfl|cons i r =>obtain⟨o,ah,hi,h1,_⟩:=BB (ae ▸ atk:i∈Region.ready .any ops bf);have A:=hC i hi;(have bi:i<bf.size:=by omega);simp only[el,Array.getD,bi,auX]at h1 A;rw[h1]at A;cases A
 |n+1,x,bf,a,w,C,hsz,hc,M,bg=>by(have p_:0<bf.toList.count false:=by omega);have mQ:=avy.1 p_;obtain⟨i,hi,F⟩:=List.getElem_of_mem mQ;(have lQ:i<bf.size:=by simpa using hi);have a6:Region.ready .any ops bf≠[]:=Sz aw hsz i i rfl asZ (axJ);refine⟨λe=>absurd e a6,λi hi=>?_⟩;obtain⟨o,ah,St,qV,lP⟩:=BB hi;obtain⟨N,_⟩:=Mk aw (i:=i) (o:=o) (by simpa using ah);have G:=acJ step (i:=i) (o:=o) (by simpa using ah) x (el bf);rw[atT]at G;(have o8:fL (el bf) o.after.toList i=el bf:=awM);rw[o8]at G;have G:=G bg;unfold wpOp;simp only[ah];obtain⟨aV,G⟩:=G;(have cH:Region.wanted o (yielded ops a.tmps)=true:=awP);rw[as_ cH];(have zR:o.wp P a w (λbv w'=>∃az aQ,(∃b0,jI az (l b0 (hD (el bf) i))/\nv az (hs b0 (hD (el bf) i)))/\bI U w' aQ az bv) Q':=by rcases G with G|G;exact tL hT M N G Q';obtain⟨dst,op,type,pos,after,guard⟩:=o;exact G.run U w C a M N type pos after Q');refine .inl (Oper.wp_mono (λbv w' cG=>?_) zR);obtain⟨az,aQ,⟨b0,h1,A⟩,Z⟩:=cG;(have ml:i<bf.size:=by omega);rw[<-Eb ml]at h1 A;refine SA hT fE aw l hs pi step n b0 _ bv w' aQ (by simpa using hsz) ?_ (Z.Ej (.same h1 A)) (bg.set ml ah lP);exact awD
theorem X.SB{ay:List bx}(hT:dh P ay){K:cM->av->Prop}(hm:P.follows .mixedOrders=true)
  (l:α->(Nat->Bool)->List (Nat×D)) (hs:α->(Nat->Bool)->bF) (aw:wQ am ops.toList 0=true) (ez:α)
  (h1:jI z (l ez λ_=>false)) (A:nv z (hs ez λ_=>false)) (step:HJ P B am ay ops l hs ops.toList 0)
  (pi:∀x f,(∀i,i<ops.size->f i=true)->K .normal (rR (l x f) (hs x f))) :
  X U (.region id ops true) z K :=
 ⟨λa w C M=>wp_region_any hm (by
  have e:el (Array.replicate ops.size false)=λ_=>false:=by
   funext i
   simp only[el,Array.getD];split<;>simp
  exact SA hT (U:=U) (a7:=K .normal) (λz a w C bM hK=>⟨.normal,z,C,rfl,hK,bM⟩) aw l hs pi step _ ez _ _ _ C as1 as1 (by rw[e];exact M.drew.Ej (.same h1 A)) (by rw[e];exact λj k _ h=>by cases h))⟩
end Go.bS

namespace Go.bS
open Go Go.RowKit
variable{P:Program}{B:World}{am:Nat}{ops:Array Oper}{α:Type}{a:Act}{w:World}
theorem acK{o:Oper}{K:Act->World->Prop}{a7:Exit->Act->World->Prop}(cG:o.wp P a w K a7):
  o.wp P a w (λbv w'=>K bv w'/\∃v ds,bv=({a with defers:=ds}:Act).put o.dst v) a7:=by
 unfold Oper.wp at*;generalize(execOp a.eval o).run P w=r at*
 cases r with
 |ok n w' =>
  cases n<;>simp only[Oper.upon]at cG⊢ <;>
   first
    |exact⟨cG,_,a.defers,rfl⟩
    |exact⟨cG,_,_,rfl⟩
    |exact Calls.mono cG (λe rB ao=>by cases e<;>first|exact⟨ao,_,a.defers,rfl⟩|exact ao)
    |exact Rows.mono cG (λ_ _ ao=>⟨ao,_,a.defers,rfl⟩)
 |halt x w'=>cases x<;>simp only[Oper.upon]at cG⊢<;>exact cG
variable{dst:Option Tmp}{v:Value}{i:Nat}
theorem acL{ds:List Deferred}(h:dst≠some i):(({a with defers:=ds}:Act).put dst v).tmps.getD i undef=a.tmps.getD i undef:=by cases dst with|none=>rfl|some t =>have a6:t≠i:=λe=>h (by rw[e]);simp[Act.put,avM a6]
def x9(z vj az:av)(er:Nat->Bool)(dst:Option Tmp):av :=
 {t:=λi=>if dst=some i then az.t i else z.t i,H:=λk=>if(vj.H k).isSome||er k then az.H k else z.H k}
variable{U:b8 P B am}{C:Nat->Nat}{z:av}
theorem acM{ay:List bx}(hT:dh P ay){vj:av}(M:bI U w C z a){o:Oper}(N:iV am o.dst=true)(au:∀i,aq (z.t i) (vj.t i))(hH:∀k x,vj.H k=some x->z.H k=some x)(er:Nat->Bool){K:av->Prop}(G:nQ P B ay vj o.dst o.op K\/af P B am vj o.dst o.op K)(a7:Exit->Act->World->Prop): o.wp P a w (λbv w'=>∃az aQ,K az/\bI U w' aQ (x9 z vj az er o.dst) bv) a7:=by let iE:b8 P B am:={w0:=w,C0:=C,Ft:=λb=>∃k x,vj.H k=some x/\x.ef b,base:=M.base,low:=λb ⟨k,x,h,an⟩=>U.Dt (M.heap.cN k x b (hH k x h) an)};have fV:bI iE w C vj a:=⟨λi=>(au i).le _ _ _ (M.tmps i),⟨λk x h=>M.heap.ch k x (hH k x h),λs bq x y b ax h1 A=>M.heap.inj s bq x y b ax (hH s x h1) (hH bq y A),λk x b h an=>.inl ⟨k,x,h,an⟩⟩,M.size,M.defers,da.refl _ _ _⟩;(have h1:o.wp P a w (λbv w'=>∃az aQ,K az/\bI iE w' aQ az bv) a7:=by rcases G with G|G;exact tL hT fV N G a7;have:=G.run iE w C a fV N o.type o.pos o.after a7;obtain⟨dst,op,type,pos,after,guard⟩:=o;exact this);(have El:∀b,iE.pQ b->U.pQ b:=λb h=>by rcases h with⟨k,x,h,an⟩|h;exact M.heap.cN k x b (hH k x h) an;exact .inr (auC M.step.ext.size h));refine Oper.wp_mono (λbv w' ⟨⟨az,aQ,hK,bM⟩,v,ds,ha⟩=>⟨az,aQ,hK,?_⟩) (acK h1);(have BJ:∀k x b,((vj.H k).isSome||er k)=false->z.H k=some x->x.ef b->b<w.heap.size/\¬iE.Ft b:=λk x b W I an=>by refine⟨(M.heap.ch k x I).lt an,λ⟨bB,b0,h,cW⟩=>?_⟩;(have a6:bB≠k:=λe=>by subst e;rw[h]at W;simp at W);exact M.heap.inj bB k b0 x b a6 (hH bB b0 h) I cW an);refine⟨λi=>?_,⟨λk x I=>?_,λs bq x y b ax I hy an cW=>?_,λk x b I an=>?_⟩,bM.size,bM.defers,M.step.trans bM.step λb F zS=>?_⟩;simp only[x9];by_cases lK:o.dst=some i;rw[as_ lK];exact bM.tmps i;rw[as9 lK,ha,acL lK];exact(M.tmps i).ext bM.step.ext;simp only[x9]at I;split at I;exact bM.heap.ch k x I;rename_i W;(have W:=by simpa using W);(exact(M.heap.ch k x I).iv bM.step.ext λb F=>by have:=BJ k x b (by simpa using W) I F;exact bM.step.iv b this.1 this.2);simp only[x9]at I hy;split at I<;>split at hy;exact bM.heap.inj s bq x y b ax I hy an cW;rename_i h1 A;have:=BJ bq y b (by simpa using A) hy cW;rcases bM.heap.cN s x b I an with h|h;exact this.2 h;have Z:=this.1;change w.heap.size<=b at h;omega;rename_i h1 A;have:=BJ s x b (by simpa using h1) I an;rcases bM.heap.cN bq y b hy cW with h|h;exact this.2 h;have Z:=this.1;change w.heap.size<=b at h;omega;exact M.heap.inj s bq x y b ax I hy an cW;simp only[x9]at I;split at I;exact El b (bM.heap.cN k x b I an);exact M.heap.cN k x b I an;rcases El b (.inl zS)with h|h;exact h;omega
theorem bI.le{U:b8 P B am}{w:World}{C:Nat->Nat}{z az:av}{a:Act}(h:bI U w C z a)(au:∀i,aq (z.t i) (az.t i))(hH:∀k x,az.H k=some x->z.H k=some x):bI U w C az a :=
 ⟨λi=>(au i).le _ _ _ (h.tmps i),⟨λk x I=>h.heap.ch k x (hH k x I),λs bq x y b ax h1 A=>h.heap.inj s bq x y b ax (hH s x h1) (hH bq y A),λk x b I=>h.heap.cN k x b (hH k x I)⟩,h.size,h.defers,h.step⟩
def HK(m k:Nat):Bool:=Nat.beq (Nat.land (Nat.shiftRight m k) 1) 1
theorem HL(m k:Nat):HK m k=m.testBit k:=by unfold HK;have h1:Nat.land (Nat.shiftRight m k) 1=(m >>> k)%2:=Nat.and_one_is_mod _;rw[h1,Nat.testBit_eq_decide_div_mod_eq,Nat.shiftRight_eq_div_pow];cases h:Nat.beq (m/2 ^ k%2) 1 with|true=>have:=atx h;simp[this]|false =>(have:m/2 ^ k%2≠1:=λe=>by rw[e]at h;cases h);simp[this]
def kz(ap:List Nat)(i k:Nat):Bool:=HK (ap.getD i 0) k
def x_(ap:List Nat):List Edge->Nat
 |[]=>0
 |e::r=>cond (Region.binds .any e) (Nat.lor (Nat.lor (Nat.shiftLeft 1 e.on) (ap.getD e.on 0)) (x_ ap r)) (x_ ap r)
def BK(ap:List Nat):List Oper->Nat->Bool
 |[],_=>true
 |o::r,i=>Nat.beq (ap.getD i 0) (x_ ap o.after.toList)&&BK ap r (i+1)
theorem Ml{ap:List Nat}{k:Nat}:∀{l:List Edge},HK (x_ ap l) k=true->∃e∈l,Region.binds .any e=true/\(e.on=k\/kz ap e.on k=true)
 |[],h=>by simp[x_,HL]at h
 |e::r,h=>by simp only[x_]at h;cases F:Region.binds .any e with|false=>rw[F]at h;obtain⟨oD,h1,A⟩:=Ml (l:=r) h;exact⟨oD,.tail _ h1,A⟩|true =>rw[F]at h;(have bz:((1 <<< e.on ||| ap.getD e.on 0) ||| x_ ap r).testBit k=true:=by rw[<-HL];exact h);rw[Nat.testBit_or,Nat.testBit_or,auv,auv]at bz;rcases bz with(h1|h1)|h1;refine⟨e,.head _,F,.inl ?_⟩;rw[Nat.testBit_shiftLeft]at h1;simp only[atd,atS]at h1;have A:=h1.2;(have:k-e.on=0:=by cases bH:k-e.on with|zero=>rfl|succ n=>rw[bH]at A;simp[Nat.testBit_succ]at A);omega;exact⟨e,.head _,F,.inr (by unfold kz;rw[HL];exact h1)⟩;obtain⟨oD,A,Z⟩:=Ml (l:=r) (by rw[HL];exact h1);exact⟨oD,.tail _ A,Z⟩
theorem SC{ap:List Nat}:∀{l:List Oper} {n:Nat},BK ap l n=true->∀{i:Nat} {o:Oper},l[i]?=some o->ap.getD (n+i) 0=x_ ap o.after.toList
 |[],_,_,i,o,h=>by simp at h
 |x::r,n,h,i,o,ah=>by simp only[BK,atd]at h;cases i with|zero=>simp at ah;subst ah;exact atx h.1|succ i=>have:=SC h.2 (i:=i) (o:=o) (by simpa using ah);rw[show n+1+i=n+(i+1) by omega]at this;exact this
def Mm(ap:List Nat)(f:Nat->Bool):Prop:=∀i k,f i=true->kz ap i k=true->f k=true
def wr:List Oper->Nat->Nat->Option Nat
 |[],_,_=>none
 |o::r,i,j=>match o.dst with
  |some t=>cond (Nat.beq t j) (some i) (wr r (i+1) j)
  |none=>wr r (i+1) j
def BL:List Oper->Bool
 |[]=>true
 |o::r=>(match o.dst with
  |some t=>(wr r 0 t).isNone
  |none=>true)&&BL r
theorem HM{j:Nat}:∀{l:List Oper} {n:Nat},wr l n j=none->∀{i:Nat} {o:Oper},l[i]?=some o->o.dst≠some j
 |[],_,_,i,o,h=>by simp at h
 |x::r,n,h,i,o,ah=>by simp only[wr]at h;cases i with|zero =>simp at ah;subst ah;intro N;rw[N]at h;simp at h|succ i =>split at h;rename_i t au;(cases F:Nat.beq t j with|true=>rw[F]at h;cases h|false=>rw[F]at h;exact HM (l:=r) h (i:=i) (by simpa using ah));exact HM (l:=r) h (i:=i) (by simpa using ah)
theorem SD{j k:Nat}:∀{l:List Oper} {n:Nat},wr l n j=some k->BL l=true->n<=k/\∀{i:Nat} {o:Oper},l[i]?=some o->(o.dst=some j↔n+i=k)
 |[],_,h,_=>by simp[wr]at h
 |x::r,n,h,ah=>by simp only[BL,atd]at ah;(have Hf:wr r (n+1) j=some k->x.dst≠some j->n<=k/\∀{i:Nat} {o:Oper},(x::r)[i]?=some o->(o.dst=some j↔n+i=k):=λh I=>by obtain⟨h1,A⟩:=SD h ah.2;refine⟨by omega,λ{i o} hi=>?_⟩;cases i with|zero=>simp at hi;subst hi;exact⟨λe=>absurd e I,λe=>by omega⟩|succ i=>rw[A (i:=i) (by simpa using hi)];constructor<;>intro e<;>omega);simp only[wr]at h;split at h;rename_i t au;(cases F:Nat.beq t j with|true =>rw[F]at h;have acN:=atx F;subst acN;(have Y:n=k:=by simpa using h);subst Y;refine⟨atg _,λ{i o} hi=>?_⟩;(cases i with|zero=>simp at hi;subst hi;exact⟨λ_=>rfl,λ_=>au⟩|succ i =>have h1:=ah.1;rw[au]at h1;have:=HM (l:=r) (n:=0) (by simpa using h1) (i:=i) (by simpa using hi);exact⟨λe=>absurd e this,λe=>by omega⟩)|false =>rw[F]at h;exact Hf h (λe=>by rw[au]at e;simp only[atQ]at e;subst e;rw[auB]at F;cases F));rename_i au;exact Hf h (λe=>by rw[au]at e;cases e)
theorem Mn{j k:Nat}:∀{l:List Oper} {n:Nat},wr l n j=some k->k<n+l.length
 |[],_,h=>by simp[wr]at h
 |x::r,n,h=>by
  simp only[wr]at h;split at h
  ·rename_i t au
   cases F:Nat.beq t j with
   |true => rw[F]at h;have : n = k := by simpa using h
            simp;omega
   |false=>rw[F]at h;have:=Mn (l:=r) h;simp;omega
  have:=Mn (l:=r) h;simp;omega
def lR:List (Nat×Nat×Option aI)->(Nat->Bool)->Nat->Option (Option aI)
 |[],_,_=>none
 |(i,bB,o)::r,f,k=>match lR r f k with
  |some bL=>some bL
  |none=>cond (Nat.beq bB k&&f i) (some o) none
def bM(Mo:bF)(ba:List (Nat×Nat×Option aI))(f:Nat->Bool)(k:Nat):Option aI:=match lR ba f k with
 |some o=>o
 |none=>Mo k
def mm:List (Nat×Nat×Option aI)->List (Nat×Nat)
 |[]=>[]
 |(i,k,_)::r=>(i,k)::mm r
def x'(ap:List Nat)(n:Nat):List (Nat×Nat)->Bool
 |[]=>true
 |(i,k)::r=>Nat.blt i n&&(r.all λe=>!Nat.beq e.2 k||Nat.beq e.1 i||kz ap e.1 i)&&x' ap n r
def SE(ap:List Nat)(S:List (Nat×Nat))(i k:Nat):Bool:=S.all λe=>!Nat.beq e.2 k||(kz ap i e.1||(kz ap e.1 i||Nat.beq e.1 i))
def fY(Mo:bF)(ap:List Nat)(S:List (Nat×Nat))(ba:List (Nat×Nat×Option aI))(i k:Nat):Option aI:=cond (SE ap S i k) (bM Mo ba (kz ap i) k) none
def HN(t0:Nat->D)(l:List Oper)(ap:List Nat)(R:List D)(i j:Nat):D:=match wr l 0 j with
 |some k=>cond (kz ap i k) (R.getD k .any) (cond (Nat.beq k i||kz ap k i) (t0 j) .any)
 |none=>t0 j
def sN(ap:List Nat)(i:Nat):Nat->List D->List D
 |_,[]=>[]
 |n,d::r=>cond (Nat.beq n i||kz ap n i) .any d::sN ap i (n+1) r
def vk(ap:List Nat)(i:Nat):List (Nat×Nat×Option aI)->List (Nat×Nat×Option aI)
 |[]=>[]
 |(j,k,o)::r=>(j,k,cond (Nat.beq j i||kz ap j i) none o)::vk ap i r
def Em(S:List (Nat×Nat))(i:Nat):Bool:=S.all λe=>!Nat.beq e.1 i
def qX(S:List (Nat×Nat))(i k:Nat):Bool:=S.any λe=>Nat.beq e.1 i&&Nat.beq e.2 k
theorem HO{f g:Nat->Bool}{k:Nat}:∀{ba:List (Nat×Nat×Option aI)},(∀e∈mm ba,e.2=k->f e.1=g e.1)->lR ba f k=lR ba g k
 |[],_=>rfl
 |(i,bB,o)::r,h=>by have aY:=HO (ba:=r) λe ao=>h e (.tail _ ao);simp only[lR,aY];cases F:Nat.beq bB k with|true=>rw[h (i,bB) (.head _) (atx F)]|false=>rfl
theorem SF{ap:List Nat}{i k:Nat}{f:Nat->Bool}(M:∀j,f j=true->j≠i/\kz ap j i=false):∀{ba SG:List (Nat×Nat×Option aI)},vk ap i SG=vk ap i ba->lR SG f k=lR ba f k
 |[],[],_=>rfl
 |(j,q,o)::r,(ew,rF,bL)::acO,h=>by simp only[vk,avo,Prod.mk.injEq]at h;obtain⟨⟨rfl,rfl,ah⟩,ae⟩:=h;simp only[lR,SF M ae];cases Mp:f ew with|true=>obtain⟨h1,A⟩:=M ew Mp;rw[auZ h1,A]at ah;simp only[Bool.or_self,aun]at ah;rw[ah]|false=>simp
 |[],(_,_,_)::_,h=>by simp[vk]at h
 |(_,_,_)::_,[],h=>by simp[vk]at h
theorem SH{ap:List Nat}{i:Nat}:∀{l i7:List D} {n:Nat},sN ap i n i7=sN ap i n l->∀{k:Nat},n+k≠i->kz ap (n+k) i=false->i7.getD k .any=l.getD k .any
 |[],[],_,_,_,_,_=>rfl
 |a::r,b::acO,n,h,k,h1,A=>by simp only[sN,avo]at h;cases k with|zero =>have Z:=h.1;rw[auZ (by simpa using h1),show kz ap n i=false by simpa using A]at Z;simpa using Z|succ k=>have:=SH h.2 (k:=k) asZ (by rw[show n+1+k=n+(k+1) by omega];exact A);simpa using this
 |[],_::_,_,h,_,_,_=>by simp[sN]at h
 |_::_,[],_,h,_,_,_=>by simp[sN]at h
theorem SI{ap:List Nat}{n i k:Nat}{f:Nat->Bool}(hi:f i=true)(M:∀j,f j=true->kz ap j i=false):∀{ba:List (Nat×Nat×Option aI)},x' ap n (mm ba)=true->qX (mm ba) i k=true->∃o,(i,k,o)∈ba/\lR ba f k=some o
 |[],_,h=>by simp[mm,qX]at h
 |(j,q,o)::r,ah,h=>by simp only[mm,x',atd]at ah;simp only[mm,qX,awn,auv,atd]at h;by_cases ae:qX (mm r) i k=true;obtain⟨bL,h1,A⟩:=SI hi M ah.2 ae;exact⟨bL,.tail _ h1,by simp only[lR,A]⟩;rcases h with⟨h1,A⟩|h;have:=atx h1;subst this;have:=atx A;subst this;refine⟨o,.head _,?_⟩;(have ax:∀{l:List (Nat×Nat×Option aI)},((mm l).all λe=>!Nat.beq e.2 q||Nat.beq e.1 j||kz ap e.1 j)=true->¬qX (mm l) j q=true->lR l f q=none:=by intro l;induction l with|nil=>intro _ _;rfl|cons e l aY =>obtain⟨ew,rF,bL⟩:=e;intro ha F;simp only[mm,avO,atd,auv,avr]at ha;simp only[mm,qX,awn,auv,atd,not_or]at F;simp only[lR];rw[aY ha.2 F.2];(cases G:Nat.beq rF q with|false=>rfl|true =>rcases ha.1 with(Z|Z)|Z;rw[G]at Z;cases Z;exact absurd ⟨Z,G⟩ F.1;(cases Mp:f ew with|false=>rfl|true=>rw[M ew Mp]at Z;cases Z)));simp only[lR,ax ah.1.2 ae,auB,hi,Bool.and_self,auS];exact absurd h ae
variable{k:Nat}
theorem SJ{f:Nat->Bool}:∀{ba:List (Nat×Nat×Option aI)},qX (mm ba) i k=false->lR ba (hD f i) k=lR ba f k
 |ba,h=>HO λe ao Y=>by(have:e.1≠i:=λbY=>by have:qX (mm ba) i k=true:=aut.2 ⟨e,ao,by rw[bY,Y,auB,auB];rfl⟩;rw[h]at this;cases this);simp[hD,auZ this]
section
variable(ap:List Nat)(S:List (Nat×Nat))(t0:Nat->D)(dt:List (Nat×aI))(R:α->List D)(dU:α->List (Nat×Nat×Option aI))
def gf(ops:Array Oper)(x:α)(f:Nat->Bool):av :=
 {t:=λj=>match wr ops.toList 0 j with
   |some k=>cond (f k) ((R x).getD k .any) (t0 j)
   |none=>t0 j,H:=bM (aK dt) (dU x) f}
def tX(ops:Array Oper)(x:α)(i:Nat):av:={t:=HN t0 ops.toList ap (R x) i,H:=fY (aK dt) ap S (dU x) i}
def BM(ops:Array Oper)(x:α):av :=
 {t:=λj=>match wr ops.toList 0 j with
   |some k=>(R x).getD k .any
   |none=>t0 j,H:=λk=>match lR (dU x) (λ_=>true) k with
   |some o=>o
   |none=>aK dt k}
def HP(dst:Option Tmp)(az:av)(d:D):Prop:=match dst with
 |some t=>aq (az.t t) d
 |none=>True
def wR(i:Nat)(az:av):List (Nat×Nat×Option aI)->Prop
 |[]=>True
 |(j,k,o)::r=>cond (Nat.beq j i) (match o with
  |some o=>az.H k=some o/\wR i az r
  |none=>wR i az r) (wR i az r)
def ya(S:List (Nat×Nat))(i:Nat)(az:av)(hm:Nat->Option aI):List Nat->Prop
 |[]=>True
 |k::r=>cond (qX S i k) (ya S i az hm r) (match hm k with
  |some o=>az.H k=some o/\ya S i az hm r
  |none=>ya S i az hm r)
def jQ(x:α)(i:Nat)(dst:Option Tmp)(az:av):Prop :=
 ∃b0,sN ap i 0 (R b0)=sN ap i 0 (R x)/\vk ap i (dU b0)=vk ap i (dU x)/\HP dst az ((R b0).getD i .any)/\wR i az (dU b0)/\ya S i az (fY (aK dt) ap S (dU x) i) (dt.map (·.1)++S.map (·.2))
def Mq(P:Program)(B:World)(am:Nat)(ay:List bx)(ops:Array Oper)(x:α)(i:Nat)(o:Oper):Prop :=
 cond (Em S i) (pS P B ay (tX ap S t0 dt R dU ops x i) true o.op λd=>aq d ((R x).getD i .any)) False\/
  (nQ P B ay (tX ap S t0 dt R dU ops x i) o.dst o.op (jQ ap S dt R dU x i o.dst)\/af P B am (tX ap S t0 dt R dU ops x i) o.dst o.op (jQ ap S dt R dU x i o.dst))
def Mr(P:Program)(B:World)(am:Nat)(ay:List bx)(ops:Array Oper)(x:α)(i:Nat)(o:Oper):Prop :=
 match o.guard with
 |none=>Mq ap S t0 dt R dU P B am ay ops x i o
 |some (j,ix)=>∃g b,(ops[j]?).bind (·.dst)=some g/\HN t0 ops.toList ap (R x) i g=.bool b/\
  ((b=ix/\Mq ap S t0 dt R dU P B am ay ops x i o)\/(b=!ix/\Em S i=true/\aq .undef ((R x).getD i .any))\/
   cond (Em S i) (pS P B ay (tX ap S t0 dt R dU ops x i) (b==ix) o.op λd=>aq (.l7 (b==ix) d) ((R x).getD i .any)) False)
def En(P:Program)(B:World)(am:Nat)(ay:List bx)(ops:Array Oper):List Oper->Nat->Prop
 |[],_=>True
 |o::r,i=>(∀x,Mr ap S t0 dt R dU P B am ay ops x i o)/\En P B am ay ops r (i+1)
theorem acP{ay:List bx}{l:List Oper}:∀{n:Nat},En ap S t0 dt R dU P B am ay ops l n->∀{i:Nat} {o:Oper},l[i]?=some o->∀x,Mr ap S t0 dt R dU P B am ay ops x (n+i) o:=by induction l with|nil=>intro n _ i o h;simp at h|cons y r aY =>intro n h i o ah x;(cases i with|zero=>simp at ah;subst ah;exact h.1 x|succ i=>have:=aY h.2 (i:=i) (by simpa using ah) x;rw[show n+1+i=n+(i+1) by omega]at this;exact this)
end
theorem HQ{i k:Nat}{az:av}{o:aI}:∀{ba:List (Nat×Nat×Option aI)},wR i az ba->(i,k,some o)∈ba->az.H k=some o
 |[],_,h=>by cases h
 |(j,q,bL)::r,h,hm=>by
  rcases atu.1 hm with h1|h1
  ·simp only[Prod.mk.injEq]at h1;obtain⟨rfl,rfl,rfl⟩:=h1;simp only[wR,auB,auS]at h;exact h.1
  simp only[wR]at h
  cases F:Nat.beq j i with
  |false=>rw[F]at h;exact HQ h h1
  |true=>rw[F]at h;cases bL with
   |none=>exact HQ h h1
   |some bL=>exact HQ h.2 h1
theorem HR{S:List (Nat×Nat)}{i k:Nat}{az:av}{hm:Nat->Option aI}{o:aI}(ax:qX S i k=false)(Y:hm k=some o):∀{l:List Nat},ya S i az hm l->k∈l->az.H k=some o
 |[],_,h=>by cases h
 |q::r,h,G=>by simp only[ya]at h;rcases atu.1 G with h1|h1;subst h1;rw[ax,Y]at h;exact h.1;cases F:qX S i q with|true=>rw[F]at h;exact HR ax Y h h1|false =>rw[F]at h;simp only[aun]at h;split at h;exact HR ax Y h.2 h1;exact HR ax Y h h1
theorem SK{wO:Type}:∀{l:List (Nat×wO)} {k:Nat} {x:wO},aK l k=some x->k∈l.map (·.1)
 |[],_,_,h=>by simp[aK]at h
 |(i,d)::r,k,x,h=>by simp only[aK]at h;cases F:Nat.beq k i with|true=>have:=atx F;subst this;simp|false=>rw[F]at h;exact .tail _ (SK h)
theorem SL{f:Nat->Bool}{k:Nat}{o:Option aI}:∀{ba:List (Nat×Nat×Option aI)},lR ba f k=some o->k∈(mm ba).map (·.2)
 |[],h=>by simp[lR]at h
 |(i,q,bL)::r,h=>by simp only[lR]at h;cases aj:lR r f k with|some y=>exact .tail _ (SL aj)|none =>rw[aj]at h;(cases F:Nat.beq q k with|true=>have:=atx F;subst this;exact .head _|false=>rw[F]at h;simp at h)
variable{ap:List Nat}{S:List (Nat×Nat)}{t0:Nat->D}{dt:List (Nat×aI)}{R:α->List D}{dU:α->List (Nat×Nat×Option aI)}
theorem acQ{x:α}{f:Nat->Bool}(gV:mm (dU x)=S)(hc:Mm ap f)(BN:∀k,kz ap i k=true->f k=true)(kX:f i=false): (∀j,aq ((gf t0 dt R dU ops x f).t j) ((tX ap S t0 dt R dU ops x i).t j))/\∀k o,(tX ap S t0 dt R dU ops x i).H k=some o->(gf t0 dt R dU ops x f).H k=some o:=by constructor;intro j;simp only[gf,tX,HN];(cases cH:wr ops.toList 0 j with|none=>exact .refl _|some k =>simp only;(cases h1:kz ap i k with|true=>rw[BN k h1];exact .refl _|false =>(cases A:(Nat.beq k i||kz ap k i)with|false=>exact .any _|true =>(have:f k=false:=by cases Y:f k with|false=>rfl|true =>rcases auv _ _ ▸ A with Z|Z;have:=atx Z;subst this;rw[kX]at Y;cases Y;rw[hc k i Y Z]at kX;cases kX);rw[this];exact .refl _)));intro k o h;simp only[tX,fY]at h;cases l':SE ap S i k with|false=>rw[l']at h;cases h|true =>rw[l']at h;simp only[auS]at h;simp only[gf];unfold bM at h⊢;rw[HO (g:=f)]at h;exact h;intro e ao Y;rw[gV]at ao;have:=at0.1 l' e ao;simp only[Y,auB,Bool.not_true,Bool.false_or,auv]at this;(cases h1:kz ap i e.1 with|true=>rw[BN _ h1]|false =>rw[h1]at this;(cases fD:f e.1 with|false=>rfl|true =>rcases this with Z|Z|Z;cases Z;rw[hc _ i fD Z]at kX;cases kX;have:=atx Z;rw[this]at fD;rw[kX]at fD;cases fD))
theorem SM{ay:List bx}(hT:dh P ay){U:b8 P B am}{a7:av->Prop}{Q':Exit->Act->World->Prop}(fE:∀z a w C,bI U w C z a->a7 z->Q' .normal a w)(aw:wQ am ops.toList 0=true)(ah:BL ops.toList=true)(HS:BK ap ops.toList 0=true)(gV:∀x,mm (dU x)=S)(wS:x' ap ops.size S=true)(pi:∀x,a7 (BM t0 dt R dU ops x))(step:En ap S t0 dt R dU P B am ay ops ops.toList 0): ∀(n:Nat) (x:α) (bf:Array Bool) (a:Act) (w:World) (C:Nat->Nat),bf.size=ops.size->bf.toList.count false=n->bI U w C (gf t0 dt R dU ops x (el bf)) a->Mm ap (el bf)->wpAny P .any ops Q' n bf a w
 |0,x,bf,a,w,C,hsz,hc,M,bg=>by(have hC:∀i,i<ops.size->el bf i=true:=λi hi=>awR);(have bi:∀e∈S,e.1<ops.size:=by(have:∀{l:List (Nat×Nat)},x' ap ops.size l=true->∀e∈l,e.1<ops.size:=by intro l;induction l with|nil=>intro _ e ao;cases ao|cons y l aY =>intro h e ao;simp only[x',atd]at h;rcases atu.1 ao with rfl|ao;exact atY (atX _) (atH h.1.1);exact aY h.2 e ao);exact this wS);refine⟨?_,fE _ _ _ _ (M.le (az:=BM t0 dt R dU ops x) (λj=>?_) (λk o h=>?_)) (pi x)⟩;(cases ae:Region.ready .any ops bf with|nil=>rfl|cons i r =>obtain⟨o,ah,hi,h1,_⟩:=BB (ae ▸ atk:i∈Region.ready .any ops bf);have A:=hC i hi;(have bi:i<bf.size:=by omega);simp only[el,Array.getD,bi,auX]at h1 A;rw[h1]at A;cases A);simp only[gf,BM];(cases cH:wr ops.toList 0 j with|none=>exact .refl _|some k=>have:=Mn cH;simp only;rw[hC k (by simpa using this)];exact .refl _);simp only[BM]at h;simp only[gf,bM];rw[HO (g:=λ_=>true) (λe ao _=>hC e.1 (bi e (gV x ▸ ao)))];exact h
 |n+1,x,bf,a,w,C,hsz,hc,M,bg=>by(have p_:0<bf.toList.count false:=by omega);have mQ:=avy.1 p_;obtain⟨i,hi,F⟩:=List.getElem_of_mem mQ;(have lQ:i<bf.size:=by simpa using hi);have a6:Region.ready .any ops bf≠[]:=Sz aw hsz i i rfl asZ (axJ);refine⟨λe=>absurd e a6,λi hi=>?_⟩;obtain⟨o,tY,St,qV,lP⟩:=BB hi;(have gB:ops.toList[i]?=some o:=by simpa using tY);obtain⟨N,_⟩:=Mk aw (i:=i) (o:=o) gB;have G:=acP _ _ _ _ _ _ step gB x;rw[atT]at G;(have ml:i<bf.size:=by omega);(have kX:el bf i=false:=by simp only[el,Array.getD,ml,auX]at qV⊢;exact qV);have SN:=SC HS gB;rw[atT]at SN;(have BN:∀k,kz ap i k=true->el bf k=true:=λk Y=>by unfold kz at Y;rw[SN]at Y;obtain⟨e,ao,F,h1⟩:=Ml Y;have A:el bf e.on=true:=lP e ao F;rcases h1 with h1|h1;rw[<-h1];exact A;exact bg _ _ A h1);(have acR:Mm ap (el (bf.setIfInBounds i true)):=by rw[Eb ml];intro j k ad Y;simp only[hD]at ad⊢;cases kp:Nat.beq k i with|true=>rfl|false =>simp only[aun];(cases fq:Nat.beq j i with|true=>have:=atx fq;subst this;exact BN k Y|false=>rw[fq]at ad;exact bg j k ad Y));unfold wpOp;simp only[tY];(have HT:(bf.setIfInBounds i true).toList.count false=n:=awD);(have Ms:∀j,el bf j=true->j≠i/\kz ap j i=false:=λj ad=>by refine⟨(λe=>by rw[e,kX]at ad;cases ad),?_⟩;cases h:kz ap j i with|false=>rfl|true=>rw[bg j i ad h]at kX;cases kX);obtain⟨HU,rS⟩:=acQ (ops:=ops) (t0:=t0) (dt:=dt) (R:=R) (dU:=dU) (gV x) bg BN kX;(have tmps:∀(az:av) (b0:α),sN ap i 0 (R b0)=sN ap i 0 (R x)->(∀j,o.dst=some j->aq (az.t j) ((R b0).getD i .any))->(∀j,o.dst≠some j->az.t j=(gf t0 dt R dU ops x (el bf)).t j)->∀j,aq (az.t j) ((gf t0 dt R dU ops b0 (hD (el bf) i)).t j):=λaz b0 fF h1 A j=>by simp only[gf];cases cH:wr ops.toList 0 j with|none =>have Z:o.dst≠some j:=HM cH gB;have:=A j Z;simp only[gf,cH]at this;rw[this];exact .refl _|some k =>have aD:=(SD cH ah).2 gB;rw[atT]at aD;simp only;(cases kp:Nat.beq k i with|true =>have:=atx kp;subst this;simp only[hD,auB,auS];exact h1 j (aD.2 rfl)|false =>(have a6:i≠k:=λe=>by rw[e,auB]at kp;cases kp);have:=A j (λe=>a6 (aD.1 e));simp only[gf,cH]at this;rw[this];simp only[hD,kp,aun];(cases Y:el bf k with|false=>exact .refl _|true =>obtain⟨bc,cL⟩:=Ms k Y;have:=SH fF (k:=k) (by simpa using bc) (by simpa using cL);simp only[auS];rw[this];exact .refl _)));(have go:∀(b0:α) (az:av) (bv:Act) (w':World) (aQ:Nat->Nat),bI U w' aQ az bv->(∀j,aq (az.t j) ((gf t0 dt R dU ops b0 (hD (el bf) i)).t j))->(∀k p,(gf t0 dt R dU ops b0 (hD (el bf) i)).H k=some p->az.H k=some p)->wpAny P .any ops Q' n (bf.setIfInBounds i true) bv w':=λb0 az bv w' aQ bM h1 A=>by refine SM hT fE aw ah HS gV wS pi step n b0 _ bv w' aQ (by simpa using hsz) HT ?_ acR;rw[Eb ml];exact bM.le h1 A);(have same:Em S i=true->∀k p,(gf t0 dt R dU ops x (hD (el bf) i)).H k=some p->(gf t0 dt R dU ops x (el bf)).H k=some p:=λax k p h=>by simp only[gf,bM]at h⊢;rw[SJ]at h;exact h;cases cG:qX (mm (dU x)) i k with|false=>rfl|true =>rw[gV x]at cG;obtain⟨e,ao,h1⟩:=aut.1 cG;have:=at0.1 ax e ao;rw[atd]at h1;rw[h1.1]at this;cases this);(have quiet:∀(az:av) (bv:Act) (w':World) (aQ:Nat->Nat),Em S i=true->(∃d,aq d ((R x).getD i .any)/\az=(gf t0 dt R dU ops x (el bf)).put o.dst d)->bI U w' aQ az bv->wpAny P .any ops Q' n (bf.setIfInBounds i true) bv w':=by rintro az bv w' aQ ax ⟨d,ho,rfl⟩ bM;refine go x _ bv w' aQ bM (tmps _ x rfl (λj ad=>?_) (λj ad=>?_)) (λk p h=>?_);rw[ad];simp only[av.put,auB,auS];exact ho;exact LN λt au e=>ad (by rw[au,e]);rw[DQ];exact same ax k p h);(have wv:Mq ap S t0 dt R dU P B am ay ops x i o->o.wp P a w (λbv w'=>wpAny P .any ops Q' n (bf.setIfInBounds i true) bv w') Q':=by intro G;rcases G with G|G;replace G:=ia G;obtain⟨ax,G⟩:=G;obtain⟨d,hK,ho⟩:=Bk hT G;have zR:=zE (a7:=Q') (K:=λaz=>∃d,aq d ((R x).getD i .any)/\az=(gf t0 dt R dU ops x (el bf)).put o.dst d) M N (d:=d) ⟨d,hK,rfl⟩ (ho rfl a.eval w C U.pQ M.base ⟨λk y h=>M.heap.ch k y (rS k y h),λs bq y V b wE h1 A=>M.heap.inj s bq y V b wE (rS s y h1) (rS bq V A),λk y b h=>M.heap.cN k y b (rS k y h)⟩ (λy _=>cI (z:=tX ap S t0 dt R dU ops x i) (λj=>(HU j).le _ _ _ (M.tmps j)) y));exact Oper.wp_mono (λbv w' ⟨az,aQ,h1,A⟩=>quiet az bv w' aQ ax h1 A) zR;have zR:=acM hT M N HU rS (qX S i) G Q';refine Oper.wp_mono (λbv w' ⟨az,aQ,⟨b0,fF,m5,h1,A,Z⟩,aD⟩=>?_) zR;refine go b0 _ bv w' aQ aD (tmps _ b0 fF (λj ad=>?_) (λj ad=>?_)) (λk p h=>?_);simp only[x9];rw[as_ ad];unfold HP at h1;rw[ad]at h1;exact h1;simp only[x9];rw[as9 ad];simp only[x9];have Mt:mm (dU b0)=S:=gV b0;cases ao:qX S i k with|true =>obtain⟨BO,bc,cL⟩:=SI (ba:=dU b0) (n:=ops.size) (i:=i) (k:=k) (f:=hD (el bf) i) (by simp[hD]) (λj ad=>by cases fq:Nat.beq j i with|true =>have:=atx fq;subst this;(cases hs:kz ap j j with|false=>rfl|true=>rw[BN j hs]at kX;cases kX)|false=>simp only[hD,fq,aun]at ad;exact(Ms j ad).2) (by rw[Mt];exact wS) (by rw[Mt];exact ao);simp only[gf,bM,cL]at h;subst h;rw[as_ as1];exact HQ A bc|false =>(have bc:(gf t0 dt R dU ops x (el bf)).H k=some p:=by simp only[gf,bM]at h⊢;rw[SJ (by rw[Mt];exact ao),SF Ms m5]at h;exact h);by_cases hm:((tX ap S t0 dt R dU ops x i).H k).isSome=true;rw[as_ (by simp[hm])];obtain⟨BO,zT⟩:=avF.1 hm;have:=rS k BO zT;rw[this]at bc;simp only[atQ]at bc;subst bc;refine HR ao zT Z ?_;rw[atB];simp only[gf,bM]at this;split at this;rename_i y hy;right;have:=SL hy;rw[gV x]at this;exact this;left;exact SK this;rw[as9 (by simpa using hm)];exact bc);unfold Mr at G;cases m2:o.guard with|none =>rw[m2]at G;rw[as_ (by simp[Region.wanted,m2])];exact .inl (wv G)|some zO =>obtain⟨j,ix⟩:=zO;rw[m2]at G;obtain⟨g,b,h1,A,G⟩:=G;have jM:=(HU g).le _ _ _ (M.tmps g);change bh w C (HN t0 ops.toList ap (R x) i g) _ at jM;rw[A]at jM;have hy:=x1 h1 jM.hW;rcases G with⟨rfl,G⟩|⟨rfl,ax,G⟩|G;rw[as_ (by simp[Region.wanted,m2,hy])];exact .inl (wv G);rw[as9 (by cases ix<;>simp[Region.wanted,m2,hy])];exact quiet _ _ _ _ ax ⟨.undef,G,rfl⟩ (M.put N .undef);replace G:=ia G;obtain⟨ax,G⟩:=G;(have cH:Region.wanted o (yielded ops a.tmps)=(b==ix):=by simp only[Region.wanted,m2,hy];cases b<;>cases ix<;>rfl);rw[cH];obtain⟨d,hK,ho⟩:=Bk hT G;(cases F:(b==ix)with|false =>rw[as9 as1];rw[F]at hK;exact quiet _ _ _ _ ax ⟨_,hK,rfl⟩ (M.put N (.uZ _))|true =>rw[as_ rfl];rw[F]at hK;have Z:=ho F a.eval w C U.pQ M.base ⟨λk y h=>M.heap.ch k y (rS k y h),λs bq y V b wE h1 A=>M.heap.inj s bq y V b wE (rS s y h1) (rS bq V A),λk y b h=>M.heap.cN k y b (rS k y h)⟩ (λy _=>cI (z:=tX ap S t0 dt R dU ops x i) (λj=>(HU j).le _ _ _ (M.tmps j)) y);have zR:=zE (a7:=Q') (K:=λaz=>∃d,aq d ((R x).getD i .any)/\az=(gf t0 dt R dU ops x (el bf)).put o.dst d) M N (d:=.l7 true d) ⟨_,hK,rfl⟩ (by generalize(execOp a.eval o).run P w=r at*;cases r with|halt _ _=>exact Z|ok n w' =>(cases n with|value v=>obtain⟨aQ,ae,hs⟩:=Z;exact⟨aQ,.pM _ _ ae,hs⟩|enter f args=>exact⟨Z.1,Z.2.mono λe rB ⟨v,lH,ao,ae,hs⟩=>⟨v,lH,ao,.pM _ _ ae,hs⟩⟩|_=>exact Z));exact .inl (Oper.wp_mono (λbv w' ⟨az,aQ,h1,A⟩=>quiet az bv w' aQ ax h1 A) zR))
variable{id:Nat}{K:cM->av->Prop}
theorem X.acS{ay:List bx}(hT:dh P ay)(hm:P.follows .mixedOrders=true)(dt:List (Nat×aI))(ez:α)
  (R:α->List D) (dU:α->List (Nat×Nat×Option aI)) (ap:List Nat) (S:List (Nat×Nat)) (gd:(wQ am ops.toList 0&&(BL ops.toList&&(BK ap ops.toList 0&&x' ap ops.size S)))=true)
  (gV:∀x,mm (dU x)=S) (h0:mP z dt) (step:En ap S z.t dt R dU P B am ay ops ops.toList 0) (pi:∀x,K .normal (BM z.t dt R dU ops x)) :
  X U (.region id ops true) z K :=
 ⟨λa w C M=>wp_region_any hm (by
  simp only[atd]at gd;obtain⟨aw,ah,HS,wS⟩:=gd
  have e:el (Array.replicate ops.size false)=λ_=>false:=by
   funext i
   simp only[el,Array.getD];split<;>simp
  have acT:∀(ba:List (Nat×Nat×Option aI)) k,lR ba (λ_=>false) k=none:=λba k=>by
   induction ba with
   |nil=>rfl
   |cons e r aY=>obtain⟨i,q,o⟩:=e;simp only[lR,aY,Bool.and_false,aun]
  refine SM hT (U:=U) (a7:=K .normal) (λz a w C bM hK=>⟨.normal,z,C,rfl,hK,bM⟩) aw ah HS gV wS pi step _ ez _ _ _ C as1 as1 ?_ (by rw[e];exact λi k h _=>by cases h);rw[e];refine M.drew.le (λj=>?_) (λk o h=>?_)
  ·simp only[gf];cases wr ops.toList 0 j<;>exact .refl _
  simp only[gf,bM,acT]at h
  exact h0.aK k o h)⟩
variable{ay:List bx}{K:av->Prop}{b:Nat}{aA:List D}
theorem bI.acU{s:Nat}{e:TypeId}(h:bI U w C z a)(hs:z.H s=some (.kN b e aA)):bI U w C (z.b6 s (some (.box b aA))) a:=by have F:(z.b6 s (some (.box b aA))).H s=some (.box b aA):=qL _ _ _;(have key:∀k o,(z.b6 s (some (.box b aA))).H k=some o->∃dn,z.H k=some dn/\(∀x,o.ef x->dn.ef x)/\(ty w C dn->ty w C o):=λk o ah=>by by_cases Y:k=s;subst Y;rw[F]at ah;cases ah;exact⟨_,hs,λx I=>I,λ⟨vs,h1,A,Z⟩=>⟨vs,e,h1,A,Z⟩⟩;rw[mc _ _ Y]at ah;exact⟨o,ah,λ_ I=>I,id⟩);refine⟨h.tmps,⟨λk o ah=>?_,λk bB o bL x a6 h1 A an cW=>?_,λk o x ah an=>?_⟩,h.size,h.defers,h.step⟩;obtain⟨dn,h1,_,Z⟩:=key k o ah;exact Z (h.heap.ch k dn h1);obtain⟨dn,Z,aD,_⟩:=key k o h1;obtain⟨lN,bc,cL,_⟩:=key bB bL A;exact h.heap.inj k bB dn lN x a6 Z bc (aD x an) (cL x cW);obtain⟨dn,Z,aD,_⟩:=key k o ah;exact h.heap.cN k dn x Z (aD x an)
variable{t:Nat}{x:Operand}
theorem af.HV(hT:dh P ay){s off:Nat}{e:TypeId}(I:z.ba x=.box s b off)(hs:z.H s=some (.kN b e aA))
  (aj:zl ay (z.b6 s (some (.box b aA))) true t (.box s b off) λd=>K (z.put dst d)):af P B am z dst (.load t x) K :=
 .val λU w C a M type pos after=>by
  obtain⟨d,hK,N⟩:=RM (P:=P) hT aj;have W:=cI M.tmps x;rw[I]at W
  obtain⟨ak,an,ae⟩:=N rfl w C U.pQ _ (M.acU hs).heap W;exact⟨ak,w,C,z,d,by simp[execOp,an],M,ae,hK⟩
variable{e:Nat}{cc:bx}{V:List D}
theorem af.SO(hT:dh P ay){s:Nat}(ao:dv ay e=some cc)(bH:cc.zero=some V)(hK:∀b:Nat,K ((z.b6 s (some (.kN b e V))).put (some s) (.box s b 0))):af P B am z (some s) (.alloc e) K :=
 .val λU w C a M type pos after=>by
  obtain⟨c3,rfl⟩:=hT.get ao;obtain⟨i,hi,_,_,nk⟩:=c3.qJ;obtain⟨ei,lJ,ma,jK⟩:=nk V bH;have a1:=da.alloc (λ_=>False) w C (.cells ei.cells cc.t) 0
  refine⟨.pointer (some ⟨w.heap.size,0,none⟩),w.alloc (.cells ei.cells cc.t),_,_,_,by simp[execOp,Instr.alloc,zeroValue,typeInfo,hi,lJ,newVar,newRow],
   M.newObj s (mV:=.kN w.heap.size cc.t V) (o:=.cells ei.cells cc.t) ⟨ei.cells.toList,kR _ _,(jK w C).ext a1.ext,hB _ _ _⟩ (λb F=>F),.box _ _ _,hK w.heap.size⟩
theorem acV(h:bI U w C z a){e:bx}(ao:e.gj P){s off:Nat}{bD:TypeId}(hH:z.H s=some (.kN b bD aA)){x:D}{K:List D->Prop}(G:Bc e off aA x K)(ae:bh w C x v): ∃du w' aQ,K du/\(Instr.storeAt e.t (.pointer (some ⟨b,off,none⟩)) v).run P w=.ok () w'/\bI U w' aQ (z.b6 s (some (.kN b bD du))) a:=by obtain⟨ds,hK,dS,pV⟩:=R0 G;obtain⟨h1,A,Z⟩:=pV w C v ae;obtain⟨vs,F,hZ,df⟩:=h.heap.ch s _ hH;(have gA:off+0+v.cells.toList.length<=(⟨vs⟩:Array Value).size:=by have:=h1.1;have:=hZ.1;simp only[at6];omega);have cY:=run_storeCells_at P b off bD v.cells.toList 0 ⟨vs⟩ w F gA Z;simp only[avA]at cY;have a1:=da.setRow (C:=C) (n:=0) F (aA:=(vs.take off++v.cells.toList++vs.drop (off+v.cells.toList.length)).toArray) asZ (λo ah=>by omega);refine⟨_,_,_,hK,?_,h.b6 a1 (s:=s) (λx I=>by subst I;exact h.heap.cN s _ _ hH rfl) (λbq bL eo a6 c9 an nS=>?_) λy hy=>?_⟩;simp only[Instr.storeAt,Instr.sureAddr,Sem.run_bind,Sem.run_pure,Result.andThen_ok,storeVar,ao.size,A];simpa using cY;subst nS;exact h.heap.inj bq s bL _ eo a6 c9 hH an rfl;cases hy;refine⟨⟨_,setRow_heap w b _ _ bD _ F,?_,hB _ _ _⟩,λx I=>?_⟩;have LJ:=(hZ.ext a1.ext).laid (h1.ext a1.ext) dS (r:=(vs.take off++v.cells.toList++vs.drop (off+v.cells.toList.length)).toArray) (by simp only[at6,atf,atv,aul];simp only[at6]at gA;omega) (λk=>by rw[au3];exact pY vs v.cells.toList off (by simpa using gA) k);simpa using LJ;simp only[aI.ef]at I;subst I;exact⟨h.heap.cN s _ x hH rfl,.inl rfl⟩
variable{y:Operand}
theorem af.SP(hT:dh P ay){s off:Nat}{e:TypeId}(I:z.ba x=.box s b off)(hs:z.H s=some (.kN b e aA))(au:dv ay t=some cc)
  (G:Bc cc off aA (z.ba y) λdu=>K ((z.b6 s (some (.kN b e du))).put dst .undef)):af P B am z dst (.store t x y) K :=
 .unit λU w C a M type pos after=>by
  obtain⟨c3,rfl⟩:=hT.get au;obtain⟨du,w',aQ,hK,cY,fV⟩:=acV M c3 hs G (cI M.tmps y);have W:=cI M.tmps x;rw[I]at W;exact⟨w',aQ,_,by simp only[execOp,W.wu,Sem.run_bind,cY,Result.andThen_ok,Sem.run_pure],fV,hK⟩
variable{aF:bx}{xs a':List D}{aR:as8}{ks:TypeId}
theorem acW(h:bI U w C z a){e:bx}(ao:e.gj P)(km:aF.gj P)(b5:e.kind=.slice aF.t)(bH:aF.zero≠none)(h1:aF.aB=1){jR:TypeId}(qY:P.underlying jR=some .string){vs:Value}(Bm:a'=aR.map λc=>D.int .u8 c.toNat)(me:(xs.length+a'.length)*aF.bytes<=140737488355328)(mR:xs.length+a'.length<=9223372036854775807)(h0:0<a'.length){q dst:Nat}(hH:z.H q=some (.row vs xs aF.aB aF.t)): ∃v w' aQ,(Builtin.append_ #[e.t,jR] ks #[vs,.string ⟨⟨aR⟩⟩]).run P w=.ok v w'/\bI U w' aQ ((z.b6 q none).b6 dst (some (.row v (xs++a') aF.aB aF.t))) a:=by have an:=ao.kk b5;obtain⟨i,hi,hsz,o_,nk⟩:=km.qJ;obtain⟨V,bH⟩:=av7.1 bH;obtain⟨ei,lJ,ma,jK⟩:=nk V bH;(have DO:ei.cells.size=aF.aB:=by have:=(jK w C).1;rw[ma]at this;simpa using this.symm);have M:=h.drop q;(have hlen:(xs++a').length=xs.length+a'.length:=by simp);obtain⟨bQ,cap,fK,hcap,Bl,p0,_,cH⟩:=h.heap.ch q _ hH;(have eA:a'.length=aR.length:=by rw[Bm];simp);(have n0:i.size=1:=by omega);(have BP:Src P i.size jR (.string ⟨⟨aR⟩⟩) a'.length (byteCells ⟨⟨aR⟩⟩) w:=by have:=Src.ofString (P:=P) w qY ⟨⟨aR⟩⟩;rw[n0,eA];exact this);obtain⟨fp,HW⟩:∃fp,fp=byteCells ⟨⟨aR⟩⟩:=⟨_,rfl⟩;rw[<-HW]at BP;(have jL:fp.length=a'.length*aF.aB:=by rw[HW,eA,h1];simp[byteCells]);(have Bn:∀x∈a',x.cells.length=aF.aB:=λx I=>by rw[Bm]at I;obtain⟨c,_,rfl⟩:=aty.1 I;rw[h1];rfl);have BQ:b1 a'=a':=rL (λx I=>by rw[Bm]at I;obtain⟨c,_,rfl⟩:=aty.1 I;rfl);(have xZ:∀(j:Nat) d,(b1 a')[j]?=some d->∃ak,fp[j]?=some ak/\bh w C d ak/\ak.oneCell'=true:=λj d N=>by rw[BQ,Bm,atA]at N;obtain⟨c,hc,rfl⟩:=auj.1 N;refine⟨.int .u8 c.toNat,?_,.int .u8 _,rfl⟩;rw[HW];simp only[byteCells,atA];simp[hc]);(have wD:fp.length=a'.length*i.size:=by rw[jL,hsz]);(have Ea:∀x∈xs++a',x.cells.length=aF.aB:=λx I=>axy);have dm:=pN p0;(have fresh:∀(kT:List Value) (kt:Nat),kT.length=xs.length*aF.aB->(∀(j:Nat) d,(b1 xs)[j]?=some d->∃ak,kT[j]?=some ak/\bh w C d ak/\ak.oneCell'=true)->∀v,v=.slice (some ⟨w.heap.size,0,none⟩) (xs.length+a'.length) (grownCap w (xs.length+a'.length) kt aF.t)->∀w',w'=w.drew.alloc (.cells (kT.toArray++fp.toArray++Builtin.zeroCells ei.cells (grownCap w (xs.length+a'.length) kt aF.t-(xs.length+a'.length))) aF.t)->∃aQ,bI U w' aQ ((z.b6 q none).b6 dst (some (.row v (xs++a') aF.aB aF.t))) a:=awC);subst fK;by_cases ic:0<cap;obtain⟨b,ft,rfl,F,hcs,Hm,mf⟩:=cH ic;have e_:aI.ef (.row (.slice (some ⟨b,0,none⟩) xs.length cap) xs aF.aB aF.t) b:=⟨_,cap,rfl,ic⟩;(have acg:xs.length*aF.aB<=ft.size:=by rw[hcs];exact auL _ hcap);by_cases sI:xs.length+a'.length<=cap;(have gA:xs.length*i.size+fp.length<=ft.size:=by rw[hsz,jL,hcs,<-av8];exact auL _ sI);(have ae:(Builtin.append_ #[e.t,jR] ks #[.slice (some ⟨b,0,none⟩) xs.length cap,.string ⟨⟨aR⟩⟩]).run P w=.ok (.slice (some ⟨b,0,none⟩) (xs.length+a'.length) cap) (w.setRow b (ft.toList.take (xs.length*aF.aB)++fp++ft.toList.drop (xs.length*aF.aB+fp.length)).toArray):=by have bY:(⟨⟨aR⟩⟩:ByteArray).size=a'.length:=eA.symm;(have b':xs.length+a'.length<=ft.size:=by rw[hcs,h1];omega);have:=Lib.run_append_room_string (P:=P) w e.t jR ks aF.t i an qY hi n0 b xs.length cap ft F ⟨⟨aR⟩⟩ (by rw[bY];exact sI) (by rw[bY];exact b');rw[bY]at this;rw[jL,h1,avW,avW,HW];exact this);rw[hsz]at gA;have a1:=da.setRow (C:=C) (n:=0) F (aA:=(ft.toList.take (xs.length*aF.aB)++fp++ft.toList.drop (xs.length*aF.aB+fp.length)).toArray) asZ (λo ah=>by omega);refine⟨_,_,_,ae,M.b6 a1 (λx I=>axZ) (λbq o eo a6 c9 cW qN=>?_) λx I=>?_⟩;subst qN;by_cases G:bq=q;subst G;rw[qL]at c9;cases c9;rw[mc z none G]at c9;exact h.heap.inj bq q o _ eo G c9 hH cW e_;cases I;refine⟨⟨_,cap,by rw[hlen],by rw[hlen];exact sI,Bl,Ea,λdF gc=>⟨b,by cases gc;rfl,atY (hM F) a1.ext.size⟩,λ_=>⟨b,_,rfl,setRow_heap w b ft _ aF.t _ F,?_,hB _ _ _,λj d N=>?_⟩⟩,λx I=>?_⟩;simp only[at6,atf,atv,aul,au0];omega;rw[xV,pZ]at N;rw[au3];split at N;obtain⟨ak,an,ae,ah⟩:=mf j d N;refine⟨ak,?_,ae.ext a1.ext,ah⟩;rw[pY _ _ _ as0,as9 asZ];simpa using an;obtain⟨ak,an,ae,ah⟩:=xZ _ d N;refine⟨ak,?_,ae.ext a1.ext,ah⟩;have:=e9 an;rw[pY _ _ _ as0,as_ ⟨by omega,by omega,by simp;omega⟩,<-dm];exact an;obtain⟨hX,hY,dL,_⟩:=I;simp only[Value.slice.injEq,atQ,Addr.mk.injEq]at dL;obtain⟨⟨rfl,_⟩,_⟩:=dL;exact⟨h.heap.cN q _ _ hH e_,.inl rfl⟩;(have Bo:∀(j:Nat) ak,(ft.toList.take (xs.length*aF.aB))[j]?=some ak->w.cell? ((⟨b,0,none⟩:Addr).add j)=some ak:=λj ak ad=>axe);have ae:=run_append_grow_src (P:=P) w e.t jR ks aF.t i ei an hi lJ (some ⟨b,0,none⟩) xs.length cap (ft.toList.take (xs.length*aF.aB)) (run_firstCells_some w.drew i.size xs.length ⟨b,0,none⟩ xs.length cap _ (by rw[hsz];simp;omega) (by simpa using Bo)) _ a'.length fp BP asZ asZ (ax1);rw[show(ft.toList.take (xs.length*aF.aB)++fp).toArray=(ft.toList.take (xs.length*aF.aB)).toArray++fp.toArray by simp]at ae;obtain⟨aQ,h1⟩:=fresh (ft.toList.take (xs.length*aF.aB)) cap as0 (λj d N=>aw9) _ rfl _ rfl;exact⟨_,_,aQ,ae,h1⟩;have I:xs=[]:=atm asZ;subst I;(have L9:cap=0:=by omega);subst L9;cases bQ with|none =>simp only[atD,atT]at me mR fresh;have ae:=run_append_grow_src (P:=P) w e.t jR ks aF.t i ei an hi lJ none 0 0 [] (run_firstCells_none w.drew i.size 0 0 0) _ a'.length fp BP asZ asZ (axB);rw[show(([]:List Value)++fp).toArray=([]:List Value).toArray++fp.toArray by simp,atT]at ae;obtain⟨aQ,A⟩:=fresh [] 0 as1 (λj d N=>by simp[b1]at N) _ rfl _ rfl;exact⟨_,_,aQ,ae,by simpa using A⟩|some zD =>have ae:=run_append_grow_src (P:=P) w e.t jR ks aF.t i ei an hi lJ (some zD) 0 0 [] (run_firstCells_some w.drew i.size 0 zD 0 0 [] as1 (λj ak ad=>by simp at ad)) _ a'.length fp BP asZ asZ (axB);rw[show(([]:List Value)++fp).toArray=([]:List Value).toArray++fp.toArray by simp]at ae;obtain⟨aQ,A⟩:=fresh [] 0 as1 (λj d N=>by simp[b1]at N) _ rfl _ rfl;exact⟨_,_,aQ,ae,by simpa using A⟩
variable{jR:Nat}
theorem af.acX(hT:dh P ay){bD s:Nat}(q:Nat)(au:dv ay t=some cc)(b5:cc.kind=.slice bD)(fr:dv ay bD=some aF)(bH:aF.zero≠none)(h1:aF.aB=1)
  (qY:P.underlying jR=some .string) (I:z.ba x=.al v) (hH:z.H q=some (.row v xs 1 bD)) (hy:z.ba y=.O aR) (h0:0<aR.length) (me:(xs.length+aR.length)*aF.bytes<=140737488355328) (mR:xs.length+aR.length<=9223372036854775807)
  (hK:∀c':Value,K (((z.b6 q none).b6 s (some (.row c' (xs++aR.map λc=>D.int .u8 c.toNat) 1 bD))).put (some s) (.al c'))):af P B am z (some s) (.call ⟨.builtin .append,#[x,y],#[t,jR]⟩) K :=
 .val λU w C a M type pos after=>by
  obtain⟨c3,rfl⟩:=hT.get au;obtain⟨fo,rfl⟩:=hT.get fr;have fU:=cI M.tmps x;rw[I]at fU
  have kW:=cI M.tmps y;rw[hy]at kW
  have aj:(aR.map λc=>D.int .u8 c.toNat).length=aR.length:=by simp
  obtain⟨c',w',aQ,cY,fV⟩:=acW M c3 fo b5 bH h1 qY (xs:=xs) (a':=aR.map λc=>D.int .u8 c.toNat) (aR:=aR) (vs:=v) (q:=q) rfl (by rw[aj];exact me) (by rw[aj];exact mR) (by rw[aj];exact h0) (dst:=s) (ks:=type) (by rw[h1];exact hH);rw[h1]at fV;refine⟨c',w',aQ,_,_,?_,fV,.al c',hK c'⟩;rw[<-fU.gb,<-kW.kM]at cY;simp[execOp,resolve,invoke,builtin,cY]
variable{du:List D}{c:Code}
theorem X.SQ{K:cM->av->Prop}(s:Nat){e:TypeId}(hs:z.H s=some (.kN b e aA))(dS:dK aA du)(h:X U c (z.b6 s (some (.kN b e du))) K):X U c z K :=
 ⟨λa w C M=>h.run a w C (M.b6 (Ft:=λx=>x=b) (.refl _ _ _) (λx I=>by subst I;exact M.heap.cN s _ _ hs rfl) (λbq o x a6 ah an I=>by subst I;exact M.heap.inj bq s o _ x a6 ah hs an rfl) (λx I=>by
  cases I
  obtain⟨vs,h1,A,Z⟩:=M.heap.ch s _ hs
  exact⟨⟨vs,h1,dS.rD A,Z⟩,λy hy=>by simp only[aI.ef]at hy;subst hy;exact⟨M.heap.cN s _ _ hs rfl,.inl rfl⟩⟩))⟩
variable{cap:Nat}
theorem af.acY{t:TypeId}{n:Nat}{K:av->Prop}(I:z.ba x=.al (.slice (some ⟨b,0,none⟩) n cap))(hc:cap≠0)(hK:K (z.put dst (.al (.pointer (some ⟨b,0,none⟩))))):
  af P B am z dst (.call ⟨.builtin .unsafeSliceData,#[x],#[t]⟩) K :=
 .val λU w C a M type pos after=>by
  have W:=cI M.tmps x;rw[I]at W
  have ae:=W.gb;refine⟨_,w,C,z,_,?_,M,.al _,hK⟩;simp[execOp,resolve,invoke,builtin,ae,Lib.run_unsafeSliceData_row (P:=P) w _ _ _ _ _ hc]
theorem da.freeze{w:World}{C:Nat->Nat}{b n:Nat}(df:C b=0):da (λx=>x=b) w C (w.freeze ⟨b,0,none⟩ n) C:=by unfold World.freeze;split;exact da.refl _ _ _;(have Y:∀(f:Obj->Obj) x,x≠b->(w.heap.modify b f)[x]?=w.heap[x]?:=λf x I=>by simp only[avB];rw[as9 (λe=>I e.symm)]);refine⟨⟨by simp,λ_ _=>atg _,λx i I hi=>?_⟩,rfl,rfl,rfl,λx I ax=>⟨Y _ x ax,rfl⟩⟩;(have a6:x≠b:=λe=>by subst e;omega);simp only[World.cell?];rw[Y _ x a6]
theorem af.acZ(hT:dh P ay){bD:Nat}(q:Nat){K:av->Prop}(au:dv ay t=some cc)(b5:cc.kind=.slice bD)(fr:dv ay bD=some aF)(h1:aF.aB=1)
  (qY:P.underlying jR=some .string) (I:z.ba x=.al v) (hH:z.H q=some (.row v xs k e)) (hy:z.ba y=.O []) (hK:K (z.put dst (.al v))):af P B am z dst (.call ⟨.builtin .append,#[x,y],#[t,jR]⟩) K :=
 .val λU w C a M type pos after=>by
  obtain⟨c3,rfl⟩:=hT.get au;obtain⟨fo,rfl⟩:=hT.get fr;have an:=c3.kk b5;obtain⟨i,hi,hsz,o_,nk⟩:=fo.qJ;have fU:=cI M.tmps x;rw[I]at fU
  have kW:=cI M.tmps y;rw[hy]at kW
  obtain⟨bQ,cap,W,hc,_⟩:=M.heap.ch q _ hH;subst W;have n0:i.size=1:=asZ
  have BP:=Src.ofString (P:=P) w qY ⟨⟨[]⟩⟩
  have cY:(Builtin.append_ #[cc.t,jR] type #[.slice bQ xs.length cap,.string ⟨⟨[]⟩⟩]).run P w=.ok (.slice bQ xs.length cap) w :=
   run_append_nothing w cc.t jR type aF.t i an hi bQ xs.length cap hc _ (by rw[n0];exact BP)
  have bY:=fU.gb;have b':=kW.kM;rw[<-bY,<-b']at cY;rw[bY]at cY;refine⟨.slice bQ xs.length cap,w,C,z,_,?_,M,.al _,hK⟩;simp[execOp,resolve,invoke,builtin,bY,cY]
theorem bI.zU{q s:Nat}{o:aI}(h:bI U w C z a)(hH:z.H q=some o):bI U w C ((z.b6 q none).b6 s (some o)) a:=by refine(h.drop q).b6 (Ft:=λb=>aI.ef o b) (.refl _ _ _) (λb F=>h.heap.cN q _ b hH F) (λbq bL b a6 c9 cW F=>?_) λx I=>?_;by_cases G:bq=q;subst G;rw[qL]at c9;cases c9;rw[mc z none G]at c9;exact h.heap.inj bq q bL _ b G c9 hH cW F;cases I;exact⟨h.heap.ch q _ hH,λb F=>⟨h.heap.cN q _ b hH F,.inl F⟩⟩
theorem af.ac0(hT:dh P ay){bD s:Nat}(q:Nat){K:av->Prop}(au:dv ay t=some cc)(b5:cc.kind=.slice bD)(fr:dv ay bD=some aF)(bH:aF.zero≠none)(h1:aF.aB=1)(qY:P.underlying jR=some .string)(I:z.ba x=.al v)(hH:z.H q=some (.row v xs 1 bD))(hy:z.ba y=.O aR)(me:(xs.length+aR.length)*aF.bytes<=140737488355328)(mR:xs.length+aR.length<=9223372036854775807)(hK:∀c':Value,K (((z.b6 q none).b6 s (some (.row c' (xs++aR.map λc=>D.int .u8 c.toNat) 1 bD))).put (some s) (.al c'))):af P B am z (some s) (.call ⟨.builtin .append,#[x,y],#[t,jR]⟩) K:=by cases aR with|cons c r=>exact .acX hT q au b5 fr bH h1 qY I hH hy as1 me mR hK|nil =>have A:af P B am z (some s) (.call ⟨.builtin .append,#[x,y],#[t,jR]⟩) (λaz=>az=z.put (some s) (.al v)):=.acZ hT q au b5 fr h1 qY I hH hy rfl;have Z:=hK v;simp only[auT,aua]at Z;refine⟨λU w C a M N type pos after a7=>Oper.wp_mono (λbv w' ⟨az,aQ,ao,bM⟩=>?_) (A.run U w C a M N type pos after a7)⟩;subst ao;exact⟨_,aQ,Z,bM.zU (q:=q) (s:=s) (by rw[DQ];exact hH)⟩
theorem af.ac1(hT:dh P ay){Mu SR bD:TypeId}(q:Nat){K:av->Prop}(HX:P.underlying Mu=some (.pointer bD))(fr:dv ay bD=some aF)(h1:aF.aB=1)
  (hH:z.H q=some (.row (.slice (some ⟨b,0,none⟩) aR.length cap) (aR.map λc=>D.int .u8 c.toNat) 1 bD)) (I:z.ba x=.al (.pointer (some ⟨b,0,none⟩))) (hy:z.ba y=.int .i64 (aR.length:Nat)) (h0:0<aR.length)
  (mR:aR.length<=9223372036854775807) (hK:K ((z.b6 q none).put dst (.O aR))):af P B am z dst (.call ⟨.builtin .unsafeString,#[x,y],#[Mu,SR]⟩) K :=
 .val λU w C a M type pos after=>by
  obtain⟨fo,rfl⟩:=hT.get fr;have fU:=cI M.tmps x;rw[I]at fU
  have kW:=cI M.tmps y;rw[hy]at kW
  have mf:=M.heap.ch q _ hH;obtain⟨bQ,hY,W,hc,hm,Y,eA,cH⟩:=mf;simp only[Value.slice.injEq]at W;obtain⟨rfl,_,rfl⟩:=W;have ac2:(aR.map λc=>D.int .u8 c.toNat).length=aR.length:=by simp
  rw[ac2]at hc;obtain⟨eo,vs,qN,F,hsz,df,ae⟩:=cH asZ;cases qN
  have e_:aI.ef (.row (.slice (some ⟨b,0,none⟩) aR.length cap) (aR.map λc=>D.int .u8 c.toNat) 1 aF.t) b:=⟨_,cap,rfl,by omega⟩;have dm:b1 (aR.map λc=>D.int .u8 c.toNat)=aR.map λc=>D.int .u8 c.toNat:=rL (λx I=>by obtain⟨c,_,rfl⟩:=aty.1 I;rfl)
  have ga:∀j x,aR[j]?=some x->w.cell? ((⟨b,0,none⟩:Addr).add j)=some (.int .u8 x.toNat):=λj x ad=>by
   obtain⟨ak,Z,aD,_⟩:=ae j (.int .u8 x.toNat) (by rw[dm,atA,ad];rfl);rw[o6,atT];simp only[World.cell?,F];rw[aD.fu]at Z;simpa using Z
  have cY:=Lib.run_unsafeString_row (P:=P) w Mu SR type aF.t HX (by rw[fo.cellsOf,h1]) b (cap*1) (by simp[World.shape?,F,hsz]) aR (by intro e;subst e;simp at h0) asZ mR ga;refine⟨.string ⟨aR.toArray⟩,w.freeze ⟨b,0,none⟩ aR.length,C,z.b6 q none,.O aR,?_,M.b6 (Ft:=λx=>x=b) (da.freeze df) (λx I=>by subst I;exact M.heap.cN q _ _ hH e_) (λbq o x a6 ah an I=>by subst I;exact M.heap.inj bq q o _ x a6 ah hH an e_) (λx I=>by cases I),.O aR,hK⟩;have bY:=fU.gb;have b':=kW.fu;simp[execOp,resolve,invoke,builtin,bY,b',cY]
def cU(l:List (Nat×aI))(cv:bF):bF:=λs=>match aK l s with|some o=>some o|none=>cv s
variable{cv:bF}
theorem nv.Mv{l:List (Nat×aI)}(h:mP z l)(N:∀k o,cv k=some o->z.H k=some o):nv z (cU l cv):=λk o ah=>by
 unfold cU at ah
 cases aj:aK l k with
 |some bL=>rw[aj]at ah;cases ah;exact h.aK k _ aj
 |none=>rw[aj]at ah;exact N k o ah
theorem SS{l:List (Nat×aI)}(h:aK l k=none):cU l cv k=cv k:=by unfold cU;rw[h]
theorem HY{α:Type}:∀{l:List (Nat×α)} {k:Nat},(∀p∈l,p.1≠k)->aK l k=none
 |[],_,_=>rfl
 |(i,d)::r,k,h=>by have h1:=h (i,d) atk;simp only[aK];cases F:Nat.beq k i with|true=>exact absurd (atx F).symm h1|false=>exact HY λp aw=>h p (ato _ aw)
variable{j:Nat}{tg:iu}
section
theorem af.n1(hT:dh P ay)(s:Nat)(I:z.ba x=.al (g7 v (i*k+j)))(hs:z.H s=some (.row v xs k e))(au:dv ay t=some cc){y:D}
  (hy:xs[i]?=some y) (aj:DC cc k j y λd=>K (z.put dst d)):af P B am z dst (.load t x) K :=
 .val λU w C a M type pos after=>by
  obtain⟨c3,rfl⟩:=hT.get au;have W:=cI M.tmps x;rw[I]at W
  obtain⟨b,cap,vs,rfl,_,_,Y,F,hsz,_,ae⟩:=kj.pos (M.heap.ch s _ hs) (e9 hy);obtain⟨d,hK,N⟩:=Ln c3 aj
  obtain⟨ak,an,L0⟩:=N w C b (0+i*k) (λj=>vs.getD (i*k+j) undef) (Y y (atr hy)) (λj d N=>by
   have ad:j<k:=by rw[<-Y y (atr hy)];exact e9 N
   obtain⟨ak,h1,A,_⟩:=ae (i*k+j) d (by rw[wz Y hy ad];exact N);refine⟨?_,?_⟩
   ·simp only[World.cell?,F,atT];simp[h1,auV]
   simp[auV,h1,A])
  refine⟨ak,w,C,z,d,?_,M,L0,hK⟩;simp only[g7]at W
  have dL:a.eval x=.pointer (some ⟨b,0+i*k+j,none⟩):=by
   rw[W.gb,au9]
  simp only[execOp,dL,Sem.run_bind,an,Result.andThen_ok,Sem.run_pure]
theorem af.ST(hT:dh P ay){bD s:Nat}(q rF:Nat)(au:dv ay t=some cc)(b5:cc.kind=.slice bD)(fr:dv ay bD=some aF)(bH:aF.zero≠none)
  (I:z.ba x=.Q (.own rF v) aF.aB xs) (hH:z.H q=some (.own v xs.length aF.aB bD)) (hy:z.ba y=.Q tg aF.aB a') (me:(xs.length+a'.length)*aF.bytes<=140737488355328) (mR:xs.length+a'.length<=9223372036854775807)
  (hK:∀c':Value,K (((z.b6 q none).b6 s (some (.own c' (xs.length+a'.length) aF.aB bD))).put (some s) (.Q (.own s c') aF.aB (xs++a')))):af P B am z (some s) (.call ⟨.builtin .append,#[x,y],#[t,t]⟩) K :=
 .val λU w C a M type pos after=>by
  obtain⟨c3,rfl⟩:=hT.get au;obtain⟨fo,rfl⟩:=hT.get fr;have fU:=cI M.tmps x;rw[I]at fU
  have kW:=cI M.tmps y;rw[hy]at kW
  have lS:a.eval x=v:=by
   rcases fU.kl with⟨_,_,au⟩|⟨b,o,cap,g,_,au,_⟩
   ·exact au
   exact au
  obtain⟨c',w',aQ,cY,eQ,fV⟩:=R1 (a:=a) M c3 fo b5 bH fU kW me mR (q:=q) (dst:=s) (ks:=type) (.inr (by rw[lS];exact hH));refine⟨c',w',aQ,_,_,?_,fV,eQ,hK c'⟩;simp[execOp,resolve,invoke,builtin,cY]
end
set_option linter.unusedVariables false in
theorem dK.kY:∀{a b c d:List D},dK a b->dK c d->dK (a++c) (b++d)
 |[],[],_,_,_,A=>A
 |a0::ac3,lf::SU,c,d,h1,A=>⟨h1.1,dK.kY (a:=ac3) (b:=SU) h1.2 A⟩
theorem dK.b1:∀{xs a':List D},xs.length=a'.length->(∀(i:Nat) x y,xs[i]?=some x->a'[i]?=some y->dK x.cells y.cells)->dK (b1 xs) (b1 a')
 |[],[],_,_=>trivial
 |x::xs,y::a',aj,h=>dK.kY (h 0 x y rfl rfl) (dK.b1 (xs:=xs) (a':=a') (by simpa using aj) λi a b ha F=>h (i+1) a b ha F)
theorem X.SV{K:cM->av->Prop}(h:X U c z λe az=>∃l hs m,nV az l hs m/\K e (hn l hs)):X U c z K :=
 ⟨λa w C M=>wp_mono (h.run a w C M) λ_ _ _ ⟨c8,_,aQ,ao,⟨_,_,_,Y,hK⟩,bM⟩=>⟨c8,_,aQ,ao,hK,bM.Hs Y⟩⟩
theorem ac4(f:Nat->Bool)(n:Nat)(h:∀i,i<n->f i=true):∃g:Nat->Bool,f=λj=>_root_.cond (Nat.blt j n) true (g j) :=
 ⟨f,funext λj=>by
  cases F:Nat.blt j n with
  |false=>rfl
  |true=>exact h j (by simpa using F)⟩
theorem Eo(f:Nat->Bool)(k:Nat)(h:f k=true):∃g:Nat->Bool,f=λj=>_root_.cond (Nat.beq j k) true (g j) :=
 ⟨f,funext λj=>by cases F:Nat.beq j k with|false=>rfl|true=>rw[atx F];exact h⟩
def yb(H:bF):List (Nat×Nat)->List (Nat×aI)->Prop
 |[],[]=>True
 |(k,s)::m,(bB,o)::hs=>k=bB/\H s=some o/\yb H m hs
 |_,_=>False
theorem Mw{H:bF}:∀{m:List (Nat×Nat)} {hs:List (Nat×aI)},yb H m hs->∀j,gC H m j=aK hs j
 |[],[],_,j=>rfl
 |(k,s)::m,(bB,o)::hs,h,j=>by obtain⟨rfl,h1,A⟩:=h;have aY:=Mw A j;simp only[gC,aK]at aY⊢;cases Nat.beq j k with|true=>exact h1|false=>exact aY
variable{f:FuncId}{ds:List D}{a7:D->bF->Prop}{m:List (Nat×Nat)}{hs:List (Nat×aI)}
theorem c7.wT{H:bF}(h:yb H m hs)(hc:c7 P B f ds (aK hs) a7):c7 P B f ds (gC H m) a7:=by rw[show gC H m=aK hs from funext (Mw h)];exact hc
theorem SX{H:bF}:∀{m:List (Nat×Nat)},j4 m=true->∀p∈m,gC H m p.1=H p.2
 |(k,s)::r,hm,p,aw=>by rw[j4,atd]at hm;simp only[gC];rcases atu.1 aw with rfl|aw;simp;have h1:=at0.1 hm.1 p aw;rw[atd]at h1;(have A:Nat.beq p.1 k=false:=by simpa using h1.1);rw[A];exact SX hm.2 p aw
theorem SY{H aO:bF}:∀{m:List (Nat×Nat)},(∀p∈m,aO p.1=H p.2)->qO H aO m=H
 |[],_=>rfl
 |(k,s)::r,h=>by funext j;simp only[qO];cases F:Nat.beq j s with|true=>rw[atx F];exact h (k,s) atk|false=>exact congrFun (SY λp aw=>h p (ato _ aw)) j
variable{args:Array Operand}{mU:Array TypeId}{b7:FuncId}{ct:List D}{d':D}
theorem af.BR{K:av->Prop}{f:Operand}{first:List D}(M:z.ba f=.fn (.func b7) first ct)
  (g5:List D) (m:List (Nat×Nat))  {gU:D} (h:yb z.H m hs) (hc:c7 P B b7 g5 (aK hs) λd aO=>d=gU/\aO=aK hs) (hm:j4 m=true) (dS:dK (first++args.toList.map z.ba++ct) g5)
   (N:aq gU d') (hK:K (z.put dst d')):af P B am z dst (.call ⟨.value f,args,mU⟩) K :=
 af.call M g5 m (c7.wT h hc) hm dS λd aO G=>by
  obtain⟨rfl,rfl⟩:=G;refine⟨d',N,?_⟩;have e:aK hs=gC z.H m:=(funext (Mw h)).symm;rw[show qO z.H (aK hs) m=z.H from SY λp aw=>by rw[e];exact SX hm p aw];exact hK
theorem af.Ep{K:av->Prop}{t:TypeId}{m:Operand}(h:af P B am z dst (.mapUpdate t m x y) K):af P B am z dst (.insert t m x y) K :=
 ⟨λU w C a M N type pos after a7=>h.1 U w C a M N type pos after a7⟩
def Mx(H:bF):List (Nat×Nat)->Prop
 |[]=>True
 |(_,s)::m=>H s=none/\Mx H m
theorem SZ{H:bF}:∀{m:List (Nat×Nat)},Mx H m->∀j,gC H m j=none
 |[],_,j=>rfl
 |(k,s)::m,h,j=>by have aY:=SZ h.2 j;simp only[gC];cases Nat.beq j k with|true=>exact h.1|false=>exact aY
theorem c7.My{H:bF}(h:Mx H m)(hc:c7 P B f ds bF.none a7):c7 P B f ds (gC H m) a7:=by rw[show gC H m=bF.none from funext (SZ h)];exact hc
theorem X.ac5{K:cM->av->Prop}(s:Nat)(hs:z.H s=some (.row v xs k e))(h0:0<xs.length)
  (h:∀b cap,v=.slice (some ⟨b,0,none⟩) xs.length cap->xs.length<=cap->cap<=maxLen->X U c z K):X U c z K :=
 ⟨λa w C M=>by
  obtain⟨b,cap,vs,W,hc,hm,_⟩:=kj.pos (i:=0) (M.heap.ch s _ hs) h0
  exact(h b cap W hc hm).run a w C M⟩
variable{op:Op}
theorem af.plain(hT:dh P ay)(G:nQ P B ay z dst op K):af P B am z dst op K :=
 ⟨λU w C a M N type pos after a7=>tL hT M N G a7⟩
variable{p' oM i6:Operand}{gT a2 a3:Int}
theorem af.ac6{t e:TypeId}{Er HZ Mz MA MB MC MD ME MF:Operand}{i:TypeInfo}{q:IntKind}{a0 a4 a5 zV Es zW a9 Et Eu:Int}(an:P.underlying t=some (.array 12 e))(hi:P.info? e=some i)(hsz:i.size=1)
  (bH:∀w,(zeroValue t).run P w=.ok (.agg #[.int q 0,.int q 0,.int q 0,.int q 0,.int q 0,.int q 0,.int q 0,.int q 0,.int q 0,.int q 0,.int q 0,.int q 0]) w) (h0:z.ba p'=.int q a0) (h1:z.ba oM=.int q gT) (A:z.ba i6=.int q a2) (Z:z.ba Er=.int q a3) (aD:z.ba HZ=.int q a4) (bc:z.ba Mz=.int q a5) (cL:z.ba MA=.int q zV) (eV:z.ba MB=.int q Es) (fX:z.ba MC=.int q zW) (hF:z.ba MD=.int q a9) (sO:z.ba ME=.int q Et) (rT:z.ba MF=.int q Eu)
  (hK:K (z.put dst (.agg [.int q a0,.int q gT,.int q a2,.int q a3,.int q a4,.int q a5,.int q zV,.int q Es,.int q zW,.int q a9,.int q Et,.int q Eu]))):af P B am z dst (.build t #[(0,p'),(1,oM),(2,i6),(3,Er),(4,HZ),(5,Mz),(6,MA),(7,MB),(8,MC),(9,MD),(10,ME),(11,MF)]) K :=
 .val λU w C a M type pos after=>by
  have v0:=cI M.tmps p';rw[h0]at v0
  have ig:=cI M.tmps oM;rw[h1]at ig
  have v2:=cI M.tmps i6;rw[A]at v2
  have v3:=cI M.tmps Er;rw[Z]at v3
  have v4:=cI M.tmps HZ;rw[aD]at v4
  have v5:=cI M.tmps Mz;rw[bc]at v5
  have BS:=cI M.tmps MA;rw[cL]at BS
  have H0:=cI M.tmps MB;rw[eV]at H0
  have S0:=cI M.tmps MC;rw[fX]at S0
  have v9:=cI M.tmps MD;rw[hF]at v9
  have S1:=cI M.tmps ME;rw[sO]at S1
  have S2:=cI M.tmps MF;rw[rT]at S2
  refine⟨.agg #[.int q a0,.int q gT,.int q a2,.int q a3,.int q a4,.int q a5,.int q zV,.int q Es,.int q zW,.int q a9,.int q Et,.int q Eu],w,C,z,_,?_,M,.agg [.int q a0,.int q gT,.int q a2,.int q a3,.int q a4,.int q a5,.int q zV,.int q Es,.int q zW,.int q a9,.int q Et,.int q Eu] [.int q a0,.int q gT,.int q a2,.int q a3,.int q a4,.int q a5,.int q zV,.int q Es,.int q zW,.int q a9,.int q Et,.int q Eu] rfl (λj d v N W=>?_),hK⟩
  ·simp[execOp,v0.fu,ig.fu,v2.fu,v3.fu,v4.fu,v5.fu,BS.fu,H0.fu,S0.fu,v9.fu,S1.fu,S2.fu,Instr.build,bH,run_underlying an,zr hi,hsz,Result.andThen,Instr.fill,Value.cells]
  match j with
  |0=>cases N;cases W;exact .int _ _
  |1=>cases N;cases W;exact .int _ _
  |2=>cases N;cases W;exact .int _ _
  |3=>cases N;cases W;exact .int _ _
  |4=>cases N;cases W;exact .int _ _
  |5=>cases N;cases W;exact .int _ _
  |6=>cases N;cases W;exact .int _ _
  |7=>cases N;cases W;exact .int _ _
  |8=>cases N;cases W;exact .int _ _
  |9=>cases N;cases W;exact .int _ _
  |10=>cases N;cases W;exact .int _ _
  |11=>cases N;cases W;exact .int _ _
  |j+12=>simp at N
variable{fC:Operand}{D7:IntKind}{qK:TypeInfo}
theorem af.ac7{bD n:Nat}{s off:Nat}{i:Int}(an:P.underlying t=some (.array n bD))(hi:P.info? bD=some qK)(I:z.ba x=.box s b off)(rU:z.ba fC=.int D7 i)
  (h0:0<=i) (h1:i<n) (hK:K (z.put dst (.box s b (off+i.toNat*qK.size)))):af P B am z dst (.indexAddr t x fC) K :=
 .val λU w C a M type pos after=>by
  have W:=cI M.tmps x;rw[I]at W
  have D8:=cI M.tmps fC;rw[rU]at D8
  refine⟨.pointer (some ⟨b,off+i.toNat*qK.size,none⟩),w,C,z,_,?_,M,.box _ _ _,hK⟩;simp[execOp,Instr.indexAt,W.wu,D8.fu,asIntOf,run_underlying an,Instr.sureAddr,h0,h1,zr hi,o6]
variable{d:D}
theorem af.ac8(hT:dh P ay){s off:Nat}(I:z.ba x=.box s b off)(hs:z.H s=some (.box b aA))(au:dv ay t=some cc)(ha:cc.agg=false)(hc:aA[off]?=some d)
  (hK:K (z.put dst d)):af P B am z dst (.load t x) K :=
 af.plain hT (by
  show opn true (z.ba x) λx=>zl ay z true t x λd=>K (z.put dst d);rw[I];show zl ay z true t (.box s b off) λd=>K (z.put dst d);unfold zl;rw[au];simp only[hs,DB,ha,hc]
  exact⟨trivial,hK⟩)
variable{oC kS:Nat}{rM:bx}
theorem af.rV(hT:dh P ay){bD:Nat}(au:dv ay oC=some cc)(b5:cc.kind=.O)(N:dv ay kS=some rM)(pd:rM.kind=.slice bD)
  (fr:dv ay bD=some aF) (lM:aF.kind=.int .u8) (I:z.ba x=.O aR) (hlen:aR.length<=1000000000000)
  (hK:K (z.put dst (.Q .none 1 (aR.map λc=>D.int .u8 c.toNat)))):af P B am z dst (.convert oC kS x) K :=
 .val λU w C a M type pos after=>by
  obtain⟨c3,rfl⟩:=hT.get au;obtain⟨zJ,rfl⟩:=hT.get N;obtain⟨fo,rfl⟩:=hT.get fr;have W:=cI M.tmps x;rw[I]at W
  have iX:(⟨⟨aR⟩⟩:ByteArray).size=aR.length:=rfl;have cY:=run_bytes_of_string (P:=P) w cc.t rM.t aF.t ⟨⟨aR⟩⟩ (c3.pT b5) (zJ.kk pd) (fo.sC lM);rw[iX]at cY;have h2:=grownCap_ge w aR.length 0 aF.t;have By:=grownCap_le_maxLen w aR.length 0 aF.t (by unfold maxLen;omega);generalize hcap:grownCap w aR.length 0 aF.t=cap at*;generalize H1:((bytesRow ⟨⟨aR⟩⟩ cap).size,(bytesRow ⟨⟨aR⟩⟩ cap).size+1)=ko at*;have kv:bI U w.drew C z a:=M.tJ (da.drew _ w C);have rW:=kv.tJ (da.alloc (λ_=>False) w.drew C (.cells (bytesRow ⟨⟨aR⟩⟩ cap) aF.t ko) aR.length);have gw:(aR.map λc=>D.int .u8 c.toNat).length=aR.length:=atb ..;have d9:∀x∈(aR.map λc=>D.int .u8 c.toNat),x.cells=[x]:=λx I=>by obtain⟨c,_,rfl⟩:=aty.1 I;rfl
  have BQ:b1 (aR.map λc=>D.int .u8 c.toNat)=aR.map λc=>D.int .u8 c.toNat:=rL d9;refine⟨.slice (some ⟨w.heap.size,0,none⟩) aR.length cap,_,_,z,.Q .none 1 (aR.map λc=>D.int .u8 c.toNat),?_,rW,?_,hK⟩
  ·simp only[execOp,W.kM,Sem.run_bind,cY,Result.andThen_ok,Sem.run_pure]
  have Ev:(w.drew.alloc (.cells (bytesRow ⟨⟨aR⟩⟩ cap) aF.t ko)).heap[w.heap.size]?=some (.cells (bytesRow ⟨⟨aR⟩⟩ cap) aF.t ko):=kR w.drew _
  have h:=bh.Q (w:=w.drew.alloc (.cells (bytesRow ⟨⟨aR⟩⟩ cap) aF.t ko)) (C:=gz C w.drew.heap.size aR.length) .none 1 (aR.map λc=>D.int .u8 c.toNat) w.heap.size 0 cap (λj=>.int .u8 ((aR.getD j 0).toNat:Nat)) trivial (hM Ev) (by rw[gw];exact h2) By
   (λx I=>by rw[d9 x I];rfl) (by rw[gw];show 0+aR.length*1<=gz C w.heap.size aR.length w.heap.size;rw[hB];omega)
   (λj d N=>by
    rw[BQ,atA,auj]at N;obtain⟨c,hc,rfl⟩:=N;have ad:j<aR.length:=(atI.1 hc).1;have h4:aR.getD j 0=c:=by rw[au_,hc];rfl
    unfold World.cell?;rw[Ev];show(bytesRow ⟨⟨aR⟩⟩ cap)[0+j]?=_;rw[atT,h4];unfold bytesRow;rw[av5 (by simpa using ad)]
    simp[hc])
   (λj d N=>rfl)
   (λj d N=>by
    rw[BQ,atA,auj]at N;obtain⟨c,hc,rfl⟩:=N;have h4:aR.getD j 0=c:=by rw[au_,hc];rfl
    show bh _ _ (.int .u8 (c.toNat:Nat)) (.int .u8 ((aR.getD j 0).toNat:Nat))
    rw[h4];exact .int _ _)
  rw[gw]at h;exact h
def tZ(P:Program)(B:World)(ay:List bx)(am:Nat)(ops:Array Oper):List Oper->av->(av->Prop)->Prop
 |[],z,K=>K z
 |⟨dst,op,_,_,_,guard⟩::rest,z,K=>iV am dst=true/\(match guard with
  |none=>(nQ P B ay z dst op λaz=>tZ P B ay am ops rest az K)\/af P B am z dst op λaz=>tZ P B ay am ops rest az K
  |some (j,ix)=>∃g b,(ops[j]?).bind (·.dst)=some g/\z.t g=.bool b/\
   ((b=ix/\((nQ P B ay z dst op λaz=>tZ P B ay am ops rest az K)\/af P B am z dst op λaz=>tZ P B ay am ops rest az K))\/(b=!ix/\tZ P B ay am ops rest (z.put dst .undef) K)))
theorem S3{ay:List bx}(hT:dh P ay){U:b8 P B am}{ops:Array Oper}{a7:Exit->Act->World->Prop}{K:av->Prop}(fE:∀az bv w' aQ,K az->bI U w' aQ az bv->a7 .normal bv w'): ∀{l:List Oper} {z:av} (_:tZ P B ay am ops l z K) {a:Act} {w:World} {C:Nat->Nat} (_:bI U w C z a),wpList P ops a7 l a w
 |[],_,G,_,_,_,M=>fE _ _ _ _ G M
 |o::rest,z,G,a,w,C,M=>by obtain⟨N,G⟩:=G;(have next:∀bv w',(∃az aQ,tZ P B ay am ops rest az K/\bI U w' aQ az bv)->wpList P ops a7 rest bv w':=λbv w' ⟨az,aQ,h1,A⟩=>S3 hT fE h1 A);(have wv:((nQ P B ay z o.dst o.op λaz=>tZ P B ay am ops rest az K)\/af P B am z o.dst o.op λaz=>tZ P B ay am ops rest az K)->o.wp P a w (λbv w'=>wpList P ops a7 rest bv w') a7:=λG=>by rcases G with G|G;(·exact Oper.wp_mono next (tL hT M N G a7));obtain⟨dst,op,type,pos,after,guard⟩:=o;exact Oper.wp_mono next (G.run U w C a M N type pos after a7));unfold wpList;cases m2:o.guard with|none =>rw[m2]at G;rw[as_ (by simp[Region.wanted,m2])];exact .inl (wv G)|some zO =>obtain⟨j,ix⟩:=zO;rw[m2]at G;obtain⟨g,b,h1,A,G⟩:=G;have jM:=M.tmps g;rw[A]at jM;have hy:=x1 h1 jM.hW;rcases G with⟨rfl,G⟩|⟨rfl,G⟩;rw[as_ (by simp[Region.wanted,m2,hy])];exact .inl (wv G);rw[as9 (by cases ix<;>simp[Region.wanted,m2,hy])];(exact next _ _ ⟨_,_,G,M.put N .undef⟩)
theorem X.Ew{ay:List bx}(hT:dh P ay){K:cM->av->Prop}(G:tZ P B ay am ops ops.toList z (K .normal)):X U (.region id ops false) z K :=
 ⟨λ_ _ _ M=>wp_region_list (S3 hT (λaz _ _ aQ hK bM=>⟨.normal,az,aQ,rfl,hK,bM⟩) G M)⟩
theorem af.H2{K:av->Prop}{c a b:Operand}{g:Bool}(hc:z.ba c=.bool g)(aV:g=true)(hK:K (z.put dst (z.ba a))):af P B am z dst (.pick c a b) K :=
 .val λU w C x M type pos after=>by
  subst aV;have W:=cI M.tmps c;rw[hc]at W
  exact⟨_,w,C,z,_,by simp[execOp,W.hW,asBool],M,cI M.tmps a,hK⟩
theorem af.Ex{K:av->Prop}{c a b:Operand}{g:Bool}(hc:z.ba c=.bool g)(aV:g=false)(hK:K (z.put dst (z.ba b))):af P B am z dst (.pick c a b) K :=
 .val λU w C x M type pos after=>by
  subst aV;have W:=cI M.tmps c;rw[hc]at W
  exact⟨_,w,C,z,_,by simp[execOp,W.hW,asBool],M,cI M.tmps b,hK⟩
variable{cO d0:IntKind}
theorem af.ac9{K:av->Prop}{ay:List bx}(hT:dh P ay){l c:Operand}{bD n:Nat}{V:D}{s:Nat}(au:dv ay t=some cc)(b5:cc.kind=.slice bD)(fr:dv ay bD=some aF)(bH:aF.zero=some [V])(d9:V.one=true)
  (aj:z.ba l=.int cO n) (hc:z.ba c=.int d0 n) (F:aF.bytes*n<=281474976710656) (ax:n<=9223372036854775807)
  (hK:∀b,K ((z.b6 s (some (.row (.slice (some ⟨b,0,none⟩) n n) (List.replicate n V) 1 bD))).put (some s) (.al (.slice (some ⟨b,0,none⟩) n n)))):af P B am z (some s) (.makeSlice t l c) K :=
 .val λU w C a M type pos after=>by
  obtain⟨c3,rfl⟩:=hT.get au;obtain⟨fo,rfl⟩:=hT.get fr;have o7:=cI M.tmps l;rw[aj]at o7
  have sL:=cI M.tmps c;rw[hc]at sL
  obtain⟨ei,jK,ma,cY⟩:=L2 c3 fo b5 w cO d0 n n (atg _) F ax bH
  have L3:∃ak,ei.cells=#[ak]:=by
   have h1:=(jK w C).1;generalize ei.cells=aA at h1⊢;obtain⟨l⟩:=aA
   match l,h1 with
   |[ak],_=>exact⟨ak,rfl⟩
  obtain⟨ak,an⟩:=L3;have eQ:∀w C,bh w C V ak:=λw C=>by have:=(jK w C).2 0 V ak rfl (by rw[an];rfl);exact this
  have L4:=((eQ w C).oE d9).2;have hsz:aF.aB=1:=by rw[<-ma];rfl
  rw[an,hsz,avW]at cY;refine⟨_,_,_,_,_,?_,M.newObj s (mV:=.row (.slice (some ⟨w.heap.size,0,none⟩) n n) (List.replicate n V) 1 aF.t) (o:=.cells (madeCells #[ak] n) aF.t) ?_ ?_,.al _,hK _⟩
  ·simp only[execOp,o7.fu,sL.fu,Sem.run_bind,cY,Result.andThen_ok,Sem.run_pure]
  ·have h1:∀x∈List.replicate n V,x.cells=[x]:=λx I=>by rw[List.eq_of_mem_replicate I];exact D.oE d9
   refine⟨_,n,by simp,by simp,by simp only[maxLen];omega,λx I=>by rw[h1 x I];rfl,λdF gc=>⟨_,by cases gc;rfl,hM (kR w _)⟩,λ_=>⟨w.heap.size,_,rfl,kR w _,by simp[size_madeCells],hB _ _ _,λj d N=>?_⟩⟩;have dm:=L1 d9 n;rw[dm]at N;have ad:j<n:=by have:=e9 N;simpa using this
   have L5:d=V:=by simp[ad]at N;exact N.symm
   subst L5;refine⟨ak,?_,eQ _ _,L4⟩;rw[<-auE,toList_madeCells_one];simp[ad]
  rintro b ⟨hX,cap,h,_⟩;exact pc h
theorem af.yc(hT:dh P ay)(s:Nat)(I:z.ba x=.al (g7 v (i*k)))(hs:z.H s=some (.row v xs k e))(au:dv ay t=some cc)(hsz:cc.aB=k)
  (hi:i<xs.length) (Ey:z.ba y=.agg aA) (hcs:aA.length=k) (d9:aA.all D.one=true) (hK:K ((z.b6 s (some (.row v (xs.set i (.agg aA)) k e))).put dst .undef)):af P B am z dst (.store t x y) K :=
 .unit λU w C a M type pos after=>by
  obtain⟨c3,rfl⟩:=hT.get au;have W:=cI M.tmps x;rw[I]at W
  have hy:=cI M.tmps y;rw[Ey]at hy;obtain⟨dl,x2,hZ⟩:=hy.tx;have h1:(a.eval y).cells.toList=dl:=by rw[x2];rfl
  have zP:dl.length=k:=by rw[<-hZ.1,hcs]
  have A:∀ak∈dl,ak.oneCell'=true:=λak an=>by
   obtain⟨j,ad⟩:=atz.1 an;have tP:=e9 ad;obtain⟨d,N⟩:=lI (l:=aA) (i:=j) asZ;exact((hZ.2 j d ak N ad).oE (at0.1 d9 d (atr N))).2
  obtain⟨b,cap,vs,rfl,hc,hm,Y,F,fK,df,ae⟩:=kj.pos (M.heap.ch s _ hs) hi;have dS:i*k+k<=cap*k:=by rw[<-avj];exact auL k (atY hi hc)
  have Hi:i*k+k<=xs.length*k:=by rw[<-avj];exact auL k hi
  have gA:i*k+0+dl.length<=vs.size:=by rw[zP,fK];omega
  have cY:=run_storeCells_at P b (i*k) e dl 0 vs w F gA A;simp only[avA]at cY gA;have a1:=da.setRow (C:=C) (n:=0) F (aA:=(vs.toList.take (i*k)++dl++vs.toList.drop (i*k+dl.length)).toArray) asZ (λo ah=>by omega);have e_:aI.ef (.row (.slice (some ⟨b,0,none⟩) xs.length cap) xs k e) b:=⟨_,cap,rfl,by omega⟩;have x3:=Ht Y hi (x:=.agg aA) hcs;have dm:=pN Y;refine⟨_,_,_,?_,M.b6 a1 (s:=s) (λx I=>ax0) (λbq bL eo a6 c9 an nS=>?_) λV bH=>?_,hK⟩
  ·simp only[g7,atT]at W;have Bj:(a.eval y).cells.size=k:=by rw[<-au0,h1,zP]
   simp only[execOp,W.gb,Instr.storeAt,Instr.sureAddr,Sem.run_bind,Sem.run_pure,Result.andThen_ok,storeVar,c3.size,hsz,h1];rw[as9 (by rw[Bj];simp)];exact(as' (λr=>Result.andThen r λ_ w'=>Result.ok Next.skip w') cY).trans rfl
  ·subst nS;exact M.heap.inj bq s bL _ eo a6 c9 hs an e_
  cases bH
  refine⟨⟨_,cap,by rw[auG],by simpa using hc,hm,λV bH=>?_,λdF gc=>⟨b,by cases gc;rfl,by simpa using hM F⟩,λ_=>⟨b,_,rfl,setRow_heap w b _ _ e _ F,?_,hB _ _ _,λm d N=>?_⟩⟩,λx I=>?_⟩
  ·rcases avn bH with bH|rfl
   ·exact Y V bH
   exact hcs
  ·simp only[at6,atf,atv,aul,au0];omega
  ·rw[x3,pY _ _ _ (by rw[dm];show i*k+aA.length<=_;rw[hcs];exact Hi)]at N;rw[au3,pY _ _ _ (by simpa using gA)];have pk:(D.agg aA).cells.length=k:=hcs;rw[pk]at N
   have gw:m<xs.length*k:=by
    by_cases h:i*k<=m/\m<i*k+k/\m<(b1 xs).length
    ·rw[<-dm];exact h.2.2
    rw[as9 h]at N;have:=e9 N;omega
   by_cases h:i*k<=m/\m<i*k+k
   ·rw[as_ ⟨h.1,h.2,by rw[dm];exact gw⟩]at N;have ho:aA[m-i*k]?=some d:=N;obtain⟨ak,an⟩:=lI (l:=dl) (i:=m-i*k) asZ;rw[as_ ⟨h.1,by omega,by simp;omega⟩];exact⟨ak,an,(hZ.2 _ _ _ ho an).ext a1.ext,A ak (atr an)⟩
   rw[as9 (λcG=>h ⟨cG.1,cG.2.1⟩)]at N;rw[as9 (λcG=>h ⟨cG.1,by omega⟩)];obtain⟨ak,Z,aD,bc⟩:=ae m d N;exact⟨ak,by simpa using Z,aD.ext a1.ext,bc⟩
  obtain⟨hX,hY,dL,_⟩:=I;simp only[Value.slice.injEq,atQ,Addr.mk.injEq]at dL;obtain⟨⟨rfl,_⟩,_⟩:=dL;exact⟨M.heap.cN s _ _ hs e_,.inl rfl⟩
theorem c7.sub{H:bF}{Q':D->bF->Prop}(h:c7 P B f ds H a7)(G:∀d aO,a7 d aO->∃vl,(∀j o,vl j=some o->aO j=some o)/\Q' d vl):c7 P B f ds H Q' :=
 ⟨h.1,λw C args Ft F qQ hH kr=>(h.2 w C args Ft F qQ hH kr).mono λco w' ⟨v,d,aQ,aO,ao,fE,ae,a1,Bp⟩=>by
  obtain⟨vl,hs,ac_⟩:=G d aO fE
  exact⟨v,d,aQ,vl,ao,ac_,ae,a1,⟨λj o ah=>Bp.ch j o (hs j o ah),λj ew o bL x a6 h1 A=>Bp.inj j ew o bL x a6 (hs j o h1) (hs ew bL A),λj o x ah=>Bp.cN j o x (hs j o ah)⟩⟩⟩
theorem af.ac'(hT:dh P ay){bD:Nat}(q:Nat){d0:Nat}(au:dv ay t=some cc)(b5:cc.kind=.slice bD)(fr:dv ay bD=some aF)
  (I:z.ba x=.al v) (hH:z.H q=some (.row v xs k e)) (hy:z.ba y=.Q tg d0 a') (h0:a'=[]) (hK:K (z.put dst (.al v))):af P B am z dst (.call ⟨.builtin .append,#[x,y],#[t,t]⟩) K :=
 .val λU w C a M type pos after=>by
  subst h0;obtain⟨c3,rfl⟩:=hT.get au;obtain⟨fo,rfl⟩:=hT.get fr;have an:=c3.kk b5;obtain⟨i,hi,hsz,o_,nk⟩:=fo.qJ;have fU:=cI M.tmps x;rw[I]at fU
  have kW:=cI M.tmps y;rw[hy]at kW
  obtain⟨bv,cap,Ez,hc,_⟩:=M.heap.ch q _ hH
  have hs:Src P i.size cc.t (a.eval y) 0 [] w:=by
   rcases kW.kl with⟨_,⟨a0,W⟩,_⟩|⟨b,o,hY,g,W,_⟩
   ·rw[W]
    cases a0 with
    |none=>exact Src.ofNil w an _
    |some dF=>exact Src.ofSlice w an dF 0 _ [] as1 (λj ak h=>by simp at h) (λak h=>by simp at h)
   rw[W];exact Src.ofSlice w an _ 0 _ [] as1 (λj ak h=>by simp at h) (λak h=>by simp at h)
  have cY:=run_append_nothing (P:=P) w cc.t cc.t type aF.t i an hi bv xs.length cap hc (a.eval y) hs;rw[<-Ez,<-fU.gb]at cY;refine⟨a.eval x,w,C,z,_,?_,M,by rw[fU.gb];exact .al _,hK⟩;simp[execOp,resolve,invoke,builtin,cY]
variable{bT:Array (Nat×Operand)}
theorem af.MG(hT:dh P ay){bD n s q:Nat}(au:dv ay t=some cc)(b5:cc.kind=.slice bD)(fr:dv ay bD=some aF)(Z:Nat.ble (n*aF.aB) 16777216=true)(aD:Nat.blt 0 aF.aB=true)(bc:aF.zero.isSome=true)
  (G:zo true z bT.toList λds=>ds.length=n/\tC aF.aB 0 ds/\∀b,K ((z.b6 q (some (.row (.slice (some ⟨b,0,none⟩) n n) (ds.map (·.2)) aF.aB bD))).put (some s) (.al (.slice (some ⟨b,0,none⟩) n n)))):af P B am z (some s) (.buildSlice t n bT) K :=
 .val λU w C a M type pos after=>by
  obtain⟨c3,rfl⟩:=hT.get au;obtain⟨fo,rfl⟩:=hT.get fr;obtain⟨ds,⟨sE,dM,hK⟩,tG,pV⟩:=DI G;have cL:=pV rfl w C a.eval (λx I=>cI M.tmps x.2)
  obtain⟨dl,cY,zP,Y,ae⟩:=Sv (P:=P) c3 fo b5 bc (atY (atX _) (atH aD)) (atH Z) sE dM
   (w:=w) (C:=C) (vs:=(bT.map λ(i,x)=>(i,a.eval x)).toList) (by simp[tG]) (by simpa[avE]using cL)
  have aj:(ds.map (·.2)).length=n:=by simpa using sE
  have a1:=da.alloc (λ_=>False) w C (.cells dl.toArray aF.t) 0;refine⟨_,_,_,_,_,?_,M.newObj q (mV:=.row (.slice (some ⟨w.heap.size,0,none⟩) n n) (ds.map (·.2)) aF.aB aF.t) (o:=.cells dl.toArray aF.t) ?_ ?_,.al _,hK _⟩
  ·simp only[execOp];rw[Sem.run_bind,cY];rfl
  ·refine⟨_,n,by rw[aj],by omega,?_,Y,λdF gc=>⟨_,by cases gc;rfl,hM (kR w _)⟩,λ_=>⟨w.heap.size,_,rfl,kR w _,by simpa using zP,hB _ _ _,λj d N=>?_⟩⟩
   ·simp only[maxLen];have eV:=atH Z;have fX:n<=n*aF.aB:=awf n (atY (atX _) (atH aD));omega
   obtain⟨ak,eV,fX,hF⟩:=ae j d N;exact⟨ak,by simpa using eV,fX.ext a1.ext,hF⟩
  rintro b ⟨hX,cap,h,_⟩;exact pc h
end Go.bS

namespace Go.bS
open Go Go.RowKit
variable{P:Program}{B:World}{am:Nat}{U:b8 P B am}{K:cM->av->Prop}{v:Value}{xs:List D}{k e:Nat}{hs:List (Nat×aI)}{c:Code}
theorem X.vm(s j:Nat){r:List (Nat×D)}(pe:aK hs s=none)(h:X U c (hn ((j,.Q .none k xs)::r) hs) K):X U c (hn ((j,.al v)::r) ((s,.row v xs k e)::hs)) K:=by have pf:Nat.beq s s=true:=auB s;refine X.commit s (v:=v) (xs:=xs) (k:=k) (e:=e) (by simp only[hn,aK,pf,auS]) (hn ((j,.Q .none k xs)::r) hs) (λw C ae i ak hi=>?_) (λi o ah=>?_) h;simp only[hn,aK]at hi⊢;(cases F:Nat.beq i j with|true =>rw[F]at hi;simp only[auS,at7]at hi⊢;rw[hi.gb];exact ae.jl|false=>rw[F]at hi;exact hi);refine .inr ⟨λe=>(by subst e;simp only[hn]at ah;rw[pe]at ah;cases ah),?_⟩;simp only[hn,aK]at ah⊢;cases F:Nat.beq i s with|true=>have:=atx F;subst this;rw[pe]at ah;cases ah|false=>simpa using ah
structure lg (a7:Prop):Prop where
 cn:a7
theorem sP{a b c:Prop}(h:a)(k:b):(a/\b)\/c:=.inl ⟨h,k⟩
variable{p:Prop}{z:av}{dst:Option Tmp}{op:Op}
theorem zX{K:av->Prop}(h:p):p\/af P B am z dst op K:=.inl h
variable{args:Array Operand}{mU:Array TypeId}
theorem zY{f:Operand}{K:av->Prop}(h:p):p\/af P B am z dst (.call ⟨.value f,args,mU⟩) K:=.inl h
def S4:List Oper->Bool
 |[]=>true
 |o::r=>o.guard.isNone&&S4 r
def S5:List Oper->Bool
 |[]=>true
 |o::r=>(match o.op with
  |.call c=>match c.callee with
   |.builtin _=>true
   |_=>false
  |_=>true)&&S5 r
variable{ops:Array Oper}{id:Nat}
theorem X.ada{ay:List bx}(hT:dh P ay)(hm:P.follows .mixedOrders=true)(gd:(Ho ops&&S5 ops.toList)=true)
  (G:jJ P B ay am ops ops.toList z (K .normal)):X U (.region id ops true) z K:=.u_ hT hm (by rw[atd]at gd;exact gd.1) G
theorem X.S6{ay:List bx}(hT:dh P ay)(_:S4 ops.toList=true)(G:tZ P B ay am ops ops.toList z (K .normal)):X U (.region id ops false) z K :=
 .Ew hT G
theorem S7{K:av->Prop}(h:p):p\/af P B am z dst (.alloc 164) K:=.inl h
variable{x:Operand}
theorem S8{t:TypeId}{K:av->Prop}(_:z.ba x=.al v)(h:p):p\/af P B am z dst (.call ⟨.builtin .len,#[x],#[t]⟩) K:=.inl h
variable{α:Type}{i:Nat}
theorem zZ{l:List α}{e:α->D}{V:Int}(bH:V=(i:Nat))(h:i<l.length):(l.map e)[V.toNat]?=some (e l[i]):=by subst bH;simp[h]
inductive t1 (z:av):List Nat->List (Nat×D)->Prop
 |nil:t1 z [] []
 |cons {j:Nat} {d:D} {r:List Nat} {L:List (Nat×D)} (h:z.t j=d) (ae:t1 z r L):t1 z (j::r) ((j,d)::L)
inductive yd (z:av):List Nat->List (Nat×aI)->Prop
 |nil:yd z [] []
 |cons {j:Nat} {d:aI} {r:List Nat} {L:List (Nat×aI)} (h:z.H j=some d) (ae:yd z r L):yd z (j::r) ((j,d)::L)
theorem t1.sub{hr:List Nat}{L:List (Nat×D)}(h:t1 z hr L):jI z L:=by induction h with|nil=>trivial|cons h ae aY=>exact⟨.of_eq h,aY⟩
variable{d d':D}
theorem adb(h:Dz d λx=>x=d'):d=d':=(zk d (λx=>x=d')).1 h
variable{a':List D}
theorem rX(h:xs=a'):some (aI.row v xs k e)=some (aI.row v a' k e):=by rw[h]
variable{b:Nat}
theorem H3{xs a':List (D×D)}(h:xs=a'):some (aI.mp b xs)=some (aI.mp b a'):=by rw[h]
theorem adc(h:xs=a'):some (aI.box b xs)=some (aI.box b a'):=by rw[h]
end Go.bS
namespace Go.bS.cj
open Go Go.Proofs
variable{B:World}
theorem BT{k:IntKind}{a b:Int}(h:a=b):aq (.int k a) (.int k b):=.of_eq (by rw[h])
theorem EA{a b:Bool}(h:a=b):aq (.bool a) (.bool b):=.of_eq (by rw[h])
variable{p:Prop}
theorem sQ(h:p:=by first|exact .refl _|exact aq.box|exact aq.nil|exact .any _|exact .jl _|exact .of_eq (by assumption)|exact BT asZ|exact BT as0|exact EA (by assumption)):p:=h
theorem H4(h:p:=by first|exact rfl|exact rX (by assumption)|exact H3 (by assumption)|exact adc (by assumption)):p:=h
variable{tg:iu}{k:Nat}{xs a':List D}
theorem ade(h:xs=a'):aq (.Q tg k xs) (.Q .none k a'):=by rw[h];exact .jl _
theorem cP(h:p:=by
 repeat (first|exact trivial|(refine⟨sQ,?_⟩)|(refine⟨rfl,H4,?_⟩)|(refine⟨?_,rfl,?_⟩))):p:=h
theorem i_(h:p:=by
 repeat (first|exact trivial|exact dK.refl _|(refine⟨sQ,?_⟩))):p:=h
theorem ye(h:p:=by
 repeat (first|exact .nil|(refine' t1.cons (adb ?_) ?_;rotate_left 2;· (conv=>whnf))|(refine' t1.cons rfl ?_;rotate_left 1)|(refine' yd.cons _ _;rotate_left 2;exact rfl))):p:=h
theorem c1{a7:Prop}(q:a7)(f:lg a7->p:=by
 intro ht
 repeat (first
  |(refine And.intro (show(_:Nat)=_ from by first|(with_reducible rfl)|(simp;done)|(simp;omega)) ?_;conv=>whnf)
  |(refine And.intro rfl ?_;conv=>whnf)
  |(refine And.intro trivial ?_;conv=>whnf)
  |(refine sP (λh=>axz) ?_;conv=>whnf)
  |(refine sP (axz) ?_;conv=>whnf)
  |(refine And.intro (show _<=_ from by first|omega|(simp only[atb,ath,atD,atf]at*;omega)) ?_;conv=>whnf)
  |(refine And.intro (show _≠none from λh=>by cases h) ?_;conv=>whnf)
  |(refine⟨_,λh=>zZ rfl asZ,?_⟩;conv=>whnf)
  |(refine⟨_,λ_=>rfl,?_⟩;conv=>whnf)
  |(refine And.intro (λh=>h) ?_;conv=>whnf)
  |(refine And.intro (λh0 h=>axM) ?_;conv=>whnf)
  |(refine And.intro (λh=>by first|omega|(simp at*;omega)) ?_;conv=>whnf)
  |((fail_if_success refine zY ?_);(fail_if_success refine S8 rfl ?_);(fail_if_success refine S7 ?_);refine zX ?_;(conv=>whnf);(fail_if_success show False))
 )
 exact ht.cn):p:=f ⟨q⟩
theorem go{a7:Prop}(q:a7)(f:lg a7->p:=by
 intro ht
 repeat (first
  |(refine X.seq ?_)
  |(refine X.block ?_)
  |(refine X.scope ?_)
  |(refine X.skip ?_;conv=>whnf)
  |(refine X.exit ?_;conv=>whnf)
  |(refine X.ret ?_;conv=>whnf)
  |(refine X.S6 aM (by rfl) ?_;conv=>whnf)
  |(refine X.region aM ?_;conv=>whnf)
  |(refine X.ada aM mixed as3 ?_;(conv=>whnf);refine c1 ?_;(fail_if_success show False))
  |(refine X.cond false rfl as6 (λ_=>?_))
  |(refine X.cond true rfl (λ_=>?_) as6)
  |(refine And.intro (show(_:Nat)=_ from by first|(with_reducible rfl)|(simp;done)|(simp;omega)) ?_;conv=>whnf)
  |(refine And.intro rfl ?_;conv=>whnf)
  |(refine And.intro trivial ?_;conv=>whnf)
  |(refine sP (λh=>axz) ?_;conv=>whnf)
  |(refine sP (axz) ?_;conv=>whnf)
  |(refine And.intro (show _<=_ from by first|omega|(simp only[atb,ath,atD,atf]at*;omega)) ?_;conv=>whnf)
  |(refine And.intro (show _≠none from λh=>by cases h) ?_;conv=>whnf)
  |(refine⟨_,λh=>zZ rfl asZ,?_⟩;conv=>whnf)
  |(refine⟨_,λ_=>rfl,?_⟩;conv=>whnf)
  |(refine And.intro (λh=>h) ?_;conv=>whnf)
  |(refine And.intro (λh0 h=>axM) ?_;conv=>whnf)
  |(refine And.intro (λh=>by first|omega|(simp at*;omega)) ?_;conv=>whnf)
  |((fail_if_success refine zY ?_);(fail_if_success refine S8 rfl ?_);(fail_if_success refine S7 ?_);refine zX ?_;(conv=>whnf);(fail_if_success show False))
 )
 exact ht.cn):p:=f ⟨q⟩
theorem bp{a7 C:Prop}(c:C)(q:a7)(f:C->lg a7->p:=by
 intro RZ ht
 first|(refine zY ?_;conv=>whnf)|skip
 refine⟨_,_,λ_=>RZ,i_,?_⟩
 (conv=>whnf)
 refine go ?_
 exact ht.cn):p:=f c ⟨q⟩
theorem fn{f:FuncId}{fn:Func}{body:Code}{am:Nat}{ds:List D}{d:D}(M:Tryz.prog.funcs[f]?=some fn)(p1:fn.ntmps=am)(h:∀U:b8 Tryz.prog B am,X U body (entry ds bF.none) (LR ay fn.results.toList d))
  (F : fn.body = some body := by rfl) (ax : (fn.name == "runtime.NumGoroutine") = false := by decide +kernel) (aj : Nat.ble ds.length am = true := by rfl) : mO Tryz.prog B f ds d := mO.intro aM M F ax p1 aj h
variable{f:FuncId}{body:Code}{am:Nat}{ds:List D}{a7:D->bF->Prop}
theorem yf{fn:Func}{H:bF}(M:Tryz.prog.funcs[f]?=some fn)(p1:fn.ntmps=am)(h:∀U:b8 Tryz.prog B am,X U body (entry ds H) (D3 ay fn.results.toList a7))
  (F : fn.body = some body := by rfl) (ax : (fn.name == "runtime.NumGoroutine") = false := by decide +kernel) (aj : Nat.ble ds.length am = true := by rfl) : c7 Tryz.prog B f ds H a7 := c7.intro aM M F ax p1 aj h
def lT:List nu->Nat
 |[]=>0
 |s::r=>2+s.name.length+s.target.length+lT r
mutual
def aB:aa->Nat
 |.mk _ _ c d _ _ _ _ _ _ ag cC=>2+c.length+d.length+lT cC+eI ag
def eI:List aa->Nat
 |[]=>0
 |n::r=>2*n.name.length+2+aB n+eI r
end
theorem lU(n:aa):aB n=2+n.d7.length+n.target.length+lT n.bN+eI n.J:=by cases n;simp only[aB]
theorem EB:∀{l:List aa} {i:Nat} (h:i<l.length),2*(l[i]).name.length+2+aB l[i]<=eI l
 |n::r,0,_=>by simp only[avk,eI];omega
 |n::r,i+1,h=>by have:=EB (l:=r) (i:=i) (by simpa using h);simp only[auA,eI];omega
theorem z1:∀(l:List aa),2*l.length<=eI l
 |[]=>by simp[eI]
 |n::r=>by have:=z1 r;simp only[eI,ath];omega
theorem H5:∀{l:List nu} {i:Nat} (h:i<l.length),2+(l[i]).name.length+(l[i]).target.length<=lT l
 |n::r,0,_=>by simp only[avk,lT];omega
 |n::r,i+1,h=>by have:=H5 (l:=r) (i:=i) (by simpa using h);simp only[auA,lT];omega
theorem EC:∀(l:List nu),2*l.length<=lT l
 |[]=>by simp[lT]
 |n::r=>by have:=EC r;simp only[lT,ath];omega
variable{i:Nat}
theorem rY{n:aa}(h:i<n.J.length):2*(n.J[i]).name.length+2+aB n.J[i]+2+n.d7.length+n.target.length+lT n.bN<=aB n:=by have:=EB h;have:=lU n;omega
theorem vn(n:aa):2*n.J.length+2<=aB n:=by have:=z1 n.J;have:=lU n;omega
theorem rZ{n:aa}(h:i<n.J.length):(n.J.map enc)[i]?=some (aE n.J[i]):=by rw[BE _ h,rQ]
theorem n7{l:List aa}(h:i<l.length):(l.map enc)[i]?=some (aE l[i]):=by rw[BE _ h,rQ]
def below(p n:as8)(l:Int):as8:=if l<=2 then n else p++[47]++n
theorem S9(p n:as8)(l:Int)(h:p.length+n.length<1000000000):aU B 192 [.O p,.O n,u l] (.O (below p n l)):=by refine bA Tryz.func192 Tryz.ntmps192 λU=>?_;refine go ?_;refine aJ _ rfl ?_ ?_<;>intro hc;refine go ?_;exact aq.of_eq (as' D.O (by rw[below,as_ (by simpa using hc)]));apply cr;refine ck ?_;refine p5 ?_;refine mZ ?_;exact aq.of_eq (as' D.O (by rw[below,as9 (by simpa using hc)]))
theorem S_(p n:as8)(l:Int)(h:p.length+n.length<1000000000)(h1:1<=l):aU B 150 [.O p,.O n,u l] (.O (below p n (l+1))):=by refine bA Tryz.func150 Tryz.ntmps150 λU=>?_;refine go ?_;refine aJ _ rfl ?_ ?_<;>intro hc;refine go ?_;exact aq.of_eq (as' D.O (by simp at hc;rw[below,as_ asZ]));apply cr;refine ck ?_;refine p5 ?_;refine mZ ?_;exact aq.of_eq (as' D.O (by simp at hc;rw[below,as9 asZ]))
theorem BU(p n:as8)(l:Int):(below p n l).length<=p.length+1+n.length:=by unfold below;split<;>simp<;>omega
structure ED (S:Type) where
 dk:S->aI
 dn:S->aI
variable{S:Type}
def ED.H(bw:ED S)(s:S):bF:=aK [(2000,bw.dk s),(2001,bw.dn s)]
theorem adf{x:Bool×S}(h:(!x.1)=true):x=(false,x.2):=by obtain⟨a,b⟩:=x;cases a<;>simp_all
theorem adg{x:Bool×S}(h:(!x.1)=false):x=(true,x.2):=by obtain⟨a,b⟩:=x;cases a<;>simp_all
section fG
variable(f:aa->as8->Int->S->Bool×S)
mutual
def fG:aa->as8->Int->S->Bool×S
 |.mk a b c d e oN g h i j ag cC,p,l,s =>
  match f (.mk a b c d e oN g h i j ag cC) p l s with
  |(false,bq)=>(false,bq)
  |(true,bq)=>kA ag p l bq
def kA:List aa->as8->Int->S->Bool×S
 |[],_,_,s=>(true,s)
 |k::r,p,l,s =>
  match fG k (below p k.name (l+1)) (l+1) s with
  |(false,bq)=>(false,bq)
  |(true,bq)=>kA r p l bq
end
theorem H6(n:aa)(p:as8)(l:Int)(s:S):fG f n p l s=match f n p l s with
  |(false,bq)=>(false,bq)
  |(true,bq)=>kA f n.J p l bq:=by cases n;simp only[fG]
end fG
theorem S'(bw:ED S)(f:aa->as8->Int->S->Bool×S)(b7:Nat)(ct:List D)(DM:∀n p l s,p.length+aB n+l.toNat+n.name.length<100000000->1<=l->cZ B b7 ([aE n,.O p,u l]++ct) (bw.H s) λd aO=>d=.bool (f n p l s).1/\aO=bw.H (f n p l s).2):∀(bC:Nat) (n:aa) (p:as8) (l:Int) (s:S),aB n<bC->p.length+aB n+l.toNat+n.name.length<100000000->1<=l->cZ B 125 [aE n,.O p,u l,.fn (.func b7) [] ct] (bw.H s) λd aO=>d=.bool (fG f n p l s).1/\aO=bw.H (fG f n p l s).2:=by refine λbC=>Nat.rec (λn p l s h=>absurd h (auI _)) (λbC aY n p l s hN F aj=>?_) bC;refine jO Tryz.func125 Tryz.ntmps125 λU=>?_;refine ck ?_;intro b;apply nW;refine X.Sd aM ?_;refine go ?_;refine x7 ?_;refine⟨_,[(2000,2000),(2001,2001)],_,DM n p l s F aj,rfl,⟨E,E,E,?_⟩,?_⟩;exact dK.refl _;rintro d aO ⟨rfl,rfl⟩;refine p6 ?_;refine aJ _ rfl ?_ ?_<;>intro hc;apply ep;(have cH:fG f n p l s=(false,(f n p l s).2):=by rw[H6];cases M:f n p l s;rw[M]at hc;simp_all);refine m0 ?_;refine X.gS [(8,.bool false)] [(2000,bw.dk (f n p l s).2),(2001,bw.dn (f n p l s).2)] [(2000,2000),(2001,2001)] ⟨ar,rfl,bb⟩ ?_;refine go ?_;exact⟨_,E,by rw[cH];rfl,by rw[cH];rfl⟩;refine go ?_;(have cH:fG f n p l s=kA f n.J p l (f n p l s).2:=by rw[H6];cases M:f n p l s;rw[M]at hc;simp_all);refine go ?_;refine X.ec (α:={x:Nat×S // x.1<=n.J.length/\fG f n p l s=kA f (n.J.drop x.1) p l x.2}) (λx=>[(1,.O p),(2,u l),(3,.fn (.func b7) [] ct),(18,.Q .none 12 (n.J.map enc)),(19,u (n.J.map enc).length),(20,u x.1.1)]) (λx=>[(2000,bw.dk x.1.2),(2001,bw.dn x.1.2)]) (λx=>n.J.length-x.1.1) ⟨(0,(f n p l s).2),by omega,cH⟩ [(2000,2000),(2001,2001)] ⟨ar,rfl,bb⟩ ?_;generalize dt:s=gL at*;rintro⟨⟨i,s⟩,hi,EE⟩;dsimp only at hi EE⊢;refine go ?_;refine aJ _ rfl ?_ ?_<;>intro hc;refine ff ?_;(have n9:i<n.J.length:=by simpa using hc);have b5:=rY n9;have eA:=BU p n.J[i].name (l+1);have eR:=vn n;have lh:=aue n9;refine vf ?_;refine⟨aE n.J[i],λ_=>rZ n9,?_⟩;refine go ?_;intro b;(conv=>whnf);refine c1 ?_;apply ep;refine X.Se aM 10 mixed as4 ?_;refine go ?_;refine bp (S9 p n.J[i].name (l+1) asZ) ?_;refine x7 ?_;refine⟨_,[(2000,2000),(2001,2001)],_,aY n.J[i] (below p n.J[i].name (l+1)) (l+1) s asZ asZ asZ,rfl,ar,?_⟩;rintro d aO ⟨rfl,rfl⟩;refine p6 ?_;refine aJ _ rfl ?_ ?_<;>intro hc;apply ep;have BV:fG f n.J[i] (below p n.J[i].name (l+1)) (l+1) s=(false,(fG f n.J[i] (below p n.J[i].name (l+1)) (l+1) s).2):=adf hc;(have z6:fG f n p l gL=(false,(fG f n.J[i] (below p n.J[i].name (l+1)) (l+1) s).2):=by rw[EE,lh,kA,BV]);refine m0 ?_;refine X.gS [(8,.bool false)] [(2000,bw.dk (fG f n.J[i] (below p n.J[i].name (l+1)) (l+1) s).2),(2001,bw.dn (fG f n.J[i] (below p n.J[i].name (l+1)) (l+1) s).2)] [(2000,2000),(2001,2001)] ⟨ar,rfl,bb⟩ ?_;refine go ?_;exact⟨_,E,by rw[z6];rfl,by rw[z6];rfl⟩;refine go ?_;(have z6:fG f n p l gL=kA f (n.J.drop (i+1)) p l (fG f n.J[i] (below p n.J[i].name (l+1)) (l+1) s).2:=by rw[EE,lh,kA,adg hc]);refine go ?_;exact⟨⟨(i+1,(fG f n.J[i] (below p n.J[i].name (l+1)) (l+1) s).2),by omega,z6⟩,[(2000,2000),(2001,2001)],axN,ar,rfl,bb⟩;refine X.exit ?_;(have z6:fG f n p l gL=(true,s):=by rw[EE,avw (by simp at hc;omega),kA]);refine ck ?_;refine X.gS [(8,.bool true)] [(2000,bw.dk s),(2001,bw.dn s)] [(2000,2000),(2001,2001)] ⟨ar,rfl,bb⟩ ?_;refine go ?_;exact⟨_,E,by rw[z6];rfl,by rw[z6];rfl⟩
def wr(n:Int):Int:=IntKind.i64.wrap n
theorem adh{n:Int}(h:-9223372036854775808<=n/\n<=9223372036854775807):wr n=n:=by unfold wr;rw[IntKind.wrap_i64];omega
theorem adi(n m:Int):wr (wr n+m)=wr (n+m):=by unfold wr;simp only[IntKind.wrap_i64];omega
mutual
def fH:aa->Nat
 |.mk _ _ _ _ _ _ _ _ _ _ ag _=>1+eX ag
def eX:List aa->Nat
 |[]=>0
 |n::r=>fH n+eX r
end
theorem EF(n:aa):fH n=1+eX n.J:=by cases n;simp only[fH]
mutual
theorem BW:∀n:aa,fH n<=aB n
 |.mk a b c d e f g h i j ag cC=>by have:=EG ag;simp only[fH,aB];omega
theorem EG:∀l:List aa,eX l<=eI l
 |[]=>by simp[eX,eI]
 |n::r=>by have:=BW n;have:=EG r;simp only[eX,eI];omega
end
def BX(_:aa)(_:as8)(_:Int)(s:Int):Bool×Int:=(true,wr (s+1))
mutual
theorem Ta:∀(n:aa) (p:as8) (l:Int) (s:Int),fG BX n p l s=(true,wr (s+fH n))
 |.mk a b c d e f g h i j ag cC,p,l,s=>by
  simp only[fG,BX,fH];rw[Tb ag p l (s+1)];congr 2
  omega
theorem Tb:∀(l:List aa) (p:as8) (v:Int) (s:Int),kA BX l p v (wr s)=(true,wr (s+eX l))
 |[],p,v,s=>by simp only[kA,eX];congr 2;omega
 |n::r,p,v,s=>by
  simp only[kA,eX];rw[Ta n _ _ (wr s),adi];simp only;rw[Tb r];congr 2
  omega
end
def MH(b:Nat):ED Int:=⟨λs=>.box b [u s],λ_=>Bz⟩
theorem adj(dX:Nat)(n:aa)(p:as8)(l:Int)(s:Int):cZ B 191 ([aE n,.O p,u l]++[.box 2000 dX 0]) ((MH dX).H s) λd aO=>d=.bool (BX n p l s).1/\aO=(MH dX).H (BX n p l s).2:=by refine jO Tryz.func191 Tryz.ntmps191 λU=>?_;refine ck ?_;intro b;refine lc ?_;refine .inr ?_;apply cB;refine ck ?_;refine X.gS [(7,.bool true)] [(2000,.box dX [u (wr (s+1))]),(2001,Bz)] [(2000,2000),(2001,2001)] ⟨ar,rfl,bb⟩ ?_;exact ax6
theorem adk(n:aa)(h:aB n+n.name.length<10000000):aU B 124 [aE n] (u (fH n)):=by refine bA Tryz.func124 Tryz.ntmps124 λU=>?_;refine ck ?_;intro b;refine ck ?_;intro H7;refine eB ?_;refine X.Bz 2001 ?_;refine vd ?_;apply mi;refine eB ?_;refine .inr (af.call rfl [aE n,.O [],u 1,.fn (.func 191) [] [.box 2000 H7 0]] [(2000,3),(2001,2001)] (S' (MH H7) BX 191 [.box 2000 H7 0] (λn p l s _ _=>adj H7 n p l s) _ n [] 1 0 (atX _) as0 asZ) rfl ⟨E,E,E,aq.fn trivial ⟨aq.box,ai⟩,ai⟩ ?_);rintro d aO ⟨rfl,rfl⟩;refine⟨_,E,?_⟩;refine i1 ?_;refine iB ?_;refine dr ?_;rw[Ta];have:=BW n;exact(adh asZ).trans asZ
end Go.bS.cj


namespace Go.bS
open Go Go.RowKit
variable{P:Program}{B:World}{am:Nat}{z:av}{dst:Option Tmp}{K:av->Prop}{ay:List bx}{U:b8 P B am}{c:Code}{v:Value}{xs:List D}{k e:Nat}
theorem X.BY{K:cM->av->Prop}(s:Nat)(hs:z.H s=some (.row v xs k e))
  (h:∀a cap,v=.slice a xs.length cap->xs.length<=cap->cap<=maxLen->X U c z K):X U c z K :=
 ⟨λa w C M=>by
  obtain⟨bv,cap,W,hc,hm,_⟩:=M.heap.ch s _ hs
  exact(h bv cap W hc hm).run a w C M⟩
end Go.bS
