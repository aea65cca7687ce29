/- Contracts of the program's functions, part 2. No conditions of its own. -/
import Derived.Test.YtfnpcdbnoggloaaGreatDoorL1
import Derived.Laws.RangeString
import Derived.Laws.BytesString
import Derived.Laws.IdiomStrings
import Derived.Laws.Cover4
import Derived.Laws.Cover3
import Derived.ChangeArms
import Derived.ChangeSame
import Derived.WideKeyArgs
import Derived.Carry
import Derived.Lib.SmallJoins
import Derived.Test.YtfnpcdbnoggloaaGreatDoorProg
import Derived.Deep.AppendSrc
import Derived.Deep.Upon
import Derived.Lib.AppendStr
import Derived.Scope
import Derived.ChangeKeysEq
import Derived.Lib.UnsafeStr
import Derived.Lib.AppendZerosOnto
import Derived.Laws.Externs
import Derived.Laws.IdiomCopy
set_option linter.unnecessarySimpa false
set_option linter.unusedSimpArgs false
set_option linter.unusedVariables false
set_option maxRecDepth 100000
set_option maxHeartbeats 16000000
namespace Go.bR
open Go Go.RowKit Go.MapKept
variable{P:Program}{B:World}{am:Nat}{z:au}{dst:Option Tmp}{K:au->Prop}{ax:List bx}
theorem af.makeMap{t:TypeId}{s:Nat}(hK:∀b,K ((z.bZ s (some (.set b []))).put (some s) (.ai (.map (some b))))):af P B am z (some s) (.makeMap t none) K :=
 .val λU w C a M type pos after=>by
  refine⟨.map (some w.heap.size),_,_,_,_,?_,M.newObj s (mN:=.set w.heap.size []) (o:=.map #[] 0) ⟨#[],0,kH w _,hr _ _ _,by simp,by simp⟩ (λb I=>I),.ai _,hK _⟩;simp[execOp,Instr.makeMap,Result.andThen]
variable{w:World}{C:Nat->Nat}{b:Nat}
theorem Dv.Sc{ag:List atG}(h:Dv w C b ag):∃ew h7,w.heap[b]?=some (.map ew h7)/\C b=0/\(∀x∈ew.toList,IsKey .string x.key)/\(∀x∈ew.toList,x.val=.bool true)/\(∀x∈ew.toList,∃s,x.key=.string ⟨⟨s⟩⟩)/\∀s:atG,s∈ag↔∃x∈ew.toList,x.key=.string ⟨⟨s⟩⟩:=by obtain⟨ew,h7,I,de,h1,A⟩:=h;exact⟨ew,h7,I,de,λx F=>by obtain⟨⟨s,hs⟩,_⟩:=h1 x F;rw[hs];trivial,λx F=>(h1 x F).2,λx F=>(h1 x F).1,A⟩
variable{dS dZ:TypeId}{x:Operand}
theorem af.Hq{t:TypeId}{m:Operand}(s:Nat){ag:List atG}{q:atG}(hm:P.underlying t=some (.map dS dZ))(N:P.underlying dS=some .string)
  (bC:∀w,(zeroValue dZ).run P w=.ok (.bool false) w) (F:z.ba m=.ai (.map (some b))) (hs:z.H s=some (.set b ag)) (G:z.ba x=.O q) (hK:K (z.put dst (.bool (decide (q∈ag))))) :
  af P B am z dst (.lookup t m x false) K :=
 .val λU w C a M type pos after=>by
  have oE:=cG M.tmps m;rw[F]at oE
  have fX:=cG M.tmps x;rw[G]at fX
  obtain⟨ew,h7,I,de,Y,X,c7,lG⟩:=Dv.Sc (M.heap.cj s _ hs);refine⟨.bool (decide (q∈ag)),w,C,z,_,?_,M,.bool _,hK⟩;rcases findNow_spec (d:=.string) (k:=.string ⟨⟨q⟩⟩) trivial ew.toList 0 Y with⟨h1,A⟩|⟨j,e,h1,A,Z⟩
  ·have:q∉ag:=λh=>by obtain⟨x,F,Bz⟩:=(lG q).1 h;exact A x F Bz
   simp[execOp,oE.f4,fX.kD,Instr.lookup,run_underlying hm,Go.MapKept.run_getObj_map I,run_checkKey N (k:=.string ⟨⟨q⟩⟩) trivial,run_findKey N h1,bC,this,Result.andThen]
  have x3:=at1 A;have:q∈ag:=(lG q).2 ⟨e,x3,Z⟩;simp[execOp,oE.f4,fX.kD,Instr.lookup,run_underlying hm,Go.MapKept.run_getObj_map I,run_checkKey N (k:=.string ⟨⟨q⟩⟩) trivial,run_findKey N h1,this,Result.andThen,X e x3]
theorem c_.Hr{o bM:Obj}(I:w.heap[b]?=some o)(de:C b=0):c_ (λx=>x=b) w C {w with heap:=w.heap.setIfInBounds b bM} C :=
 ⟨⟨by simp,λ_ _=>atQ _,λx i F hi=>by
   have a7:x≠b:=λe=>by subst e;omega
   simp only[World.cell?]
   rw[show(w.heap.setIfInBounds b bM)[x]?=w.heap[x]? from(heap_set I).2 x a7]⟩,rfl,rfl,rfl,λx _ F=>⟨(heap_set I).2 x F,rfl⟩⟩
variable{y:Operand}
theorem af.BA{t:TypeId}{m:Operand}(s:Nat){ag:List atG}{q:atG}(hm:P.underlying t=some (.map dS dZ))(N:P.underlying dS=some .string)
  (F:z.ba m=.ai (.map (some b))) (hs:z.H s=some (.set b ag)) (G:z.ba x=.O q) (hy:z.ba y=.bool true) (hK:K ((z.bZ s (some (.set b (q::ag)))).put dst .undef)) :
  af P B am z dst (.mapUpdate t m x y) K :=
 .unit λU w C a M type pos after=>by
  have oE:=cG M.tmps m;rw[F]at oE
  have fX:=cG M.tmps x;rw[G]at fX
  have kM:=cG M.tmps y;rw[hy]at kM
  obtain⟨ew,h7,I,de,Y,X,c7,lG⟩:=Dv.Sc (M.heap.cj s _ hs);have e8:aJ.ef (.set b ag) b:=rfl
  have oB:∀oF vc,(∀x∈oF.toList,(∃s,x.key=.string ⟨⟨s⟩⟩)/\x.val=.bool true)->(∀s:atG,s∈q::ag↔∃x∈oF.toList,x.key=.string ⟨⟨s⟩⟩)->
    bH U {w with heap:=w.heap.setIfInBounds b (.map oF vc)} C (z.bZ s (some (.set b (q::ag)))) a:=λoF vc h1 A=>by
   have a6:=c_.Hr (bM:=.map oF vc) I de;refine M.bZ a6 (s:=s) (λx F=>ayu) (λbo bM eo a7 c7 an nQ=>?_) λV bC=>?_
   ·subst nQ;exact M.heap.inj bo s bM _ eo a7 c7 hs an e8
   cases bC
   exact⟨⟨oF,vc,(heap_set I).1,de,h1,A⟩,λx F=>⟨by cases F;exact M.heap.cI s _ _ hs e8,.inl F⟩⟩
  rcases findNow_spec (d:=.string) (k:=.string ⟨⟨q⟩⟩) trivial ew.toList 0 Y with⟨h1,A⟩|⟨j,e,h1,A,Z⟩
  ·refine⟨_,C,_,?_,oB (ew.push ⟨.string ⟨⟨q⟩⟩,.bool true,h7⟩) (h7+1) (λx F=>?_) (λs=>?_),hK⟩
   ·simp[execOp,oE.f4,fX.kD,kM.hL,Instr.mapUpdate,run_underlying hm,Go.MapKept.run_getObj_map I,run_checkKey N (k:=.string ⟨⟨q⟩⟩) trivial,run_findKey N h1,run_setObj_map _ I,Result.andThen]
   ·rw[Array.toList_push]at F;rcases aue.1 F with F|F
    ·exact⟨c7 x F,X x F⟩
    simp only[auv]at F;subst F;exact⟨⟨q,rfl⟩,rfl⟩
   simp only[Array.toList_push,aue,at5,lG s];constructor
   ·rintro(rfl|⟨x,F,Bz⟩)
    ·exact⟨⟨.string ⟨⟨s⟩⟩,.bool true,h7⟩,.inr (.inl rfl),rfl⟩
    exact⟨x,.inl F,Bz⟩
   rintro⟨x,F|F,Bz⟩
   ·exact .inr ⟨x,F,Bz⟩
   left;simp only[aw1,awB]at F;subst F;injection Bz with h;injection h with h;injection h with h;exact h.symm
  have aa:ew[j]?=some e:=by simpa using A
  have x3:=at1 A
  have Hs:∀x∈(ew.modify j λe=>{e with key:=.string ⟨⟨q⟩⟩,val:=.bool true}).toList,x∈ew.toList\/(x.key=.string ⟨⟨q⟩⟩/\x.val=.bool true):=λx F=>by
   rcases MapFrom.mem_modify F with F|⟨oy,_,rfl⟩
   ·exact .inl F
   exact .inr ⟨rfl,rfl⟩
  refine⟨_,C,_,?_,oB (ew.modify j λe=>{e with key:=.string ⟨⟨q⟩⟩,val:=.bool true}) h7 (λx F=>?_) (λs=>?_),hK⟩
  ·simp[execOp,oE.f4,fX.kD,kM.hL,Instr.mapUpdate,run_underlying hm,Go.MapKept.run_getObj_map I,run_checkKey N (k:=.string ⟨⟨q⟩⟩) trivial,run_findKey N h1,run_setObj_map _ I,Result.andThen,aa,Z,
    run_keyThatStays (d:=.string) (k:=.string ⟨⟨q⟩⟩) trivial]
  ·rcases Hs x F with F|⟨aG,bb⟩
   ·exact⟨c7 x F,X x F⟩
   exact⟨⟨q,aG⟩,bb⟩
  have ab8:∀i:Nat,((ew.modify j λe=>{e with key:=.string ⟨⟨q⟩⟩,val:=.bool true})[i]?).map MapEntry.key=(ew[i]?).map MapEntry.key:=λi=>by
   rw[awa];by_cases d9:j=i
   ·subst d9;simp[aa,Z]
   simp[d9]
  have rC:∀oF:Array MapEntry,(∃x∈oF.toList,x.key=.string ⟨⟨s⟩⟩)↔∃i:Nat,(oF[i]?).map MapEntry.key=some (.string ⟨⟨s⟩⟩):=λoF=>by
   constructor
   ·rintro⟨x,F,Y⟩;obtain⟨i,hi⟩:=auf.1 F;exact⟨i,by rw[<-ava,hi];simp[Y]⟩
   rintro⟨i,hi⟩
   cases ao:oF[i]? with
   |none=>rw[ao]at hi;cases hi
   |some x=>rw[ao]at hi;simp at hi;exact⟨x,at1 (by rw[ava];exact ao),hi⟩
  rw[rC];simp only[ab8];rw[<-rC,<-lG s,at5];constructor
  ·rintro(rfl|h)
   ·exact(lG _).2 ⟨e,x3,Z⟩
   exact h
  exact .inr
theorem rD:∀{xs:List D},(∀x∈xs,x.cells=[x])->b2 xs=xs
 |[],_=>rfl
 |x::r,h=>by have h1:=rD (xs:=r) λy hy=>h y (atY _ hy);simp only[b2,auL]at h1⊢;rw[h1,h x atU];rfl
variable{ox kI:Nat}{cc rE aF:bx}{aS:atG}{tg:iv}
theorem af.vd(hT:df P ax){bI:Nat}(av:dx ax ox=some cc)(b6:cc.kind=.slice bI)(fq:dx ax bI=some aF)(lJ:aF.kind=.int .u8)
  (N:dx ax kI=some rE) (o9:rE.kind=.O) (F:z.ba x=.Q tg 1 (aS.map λc=>.int .u8 c.toNat)) (hK:K (z.put dst (.O aS))):af P B am z dst (.convert ox kI x) K :=
 .val λU w C a M type pos after=>by
  obtain⟨c2,rfl⟩:=hT.get av;obtain⟨fo,rfl⟩:=hT.get fq;obtain⟨zM,rfl⟩:=hT.get N;have X:=cG M.tmps x;rw[F]at X
  refine⟨.string ⟨⟨aS⟩⟩,w,C,z,_,?_,M,.O _,hK⟩;rcases X.kh with⟨h1,⟨a0,dP⟩,_⟩|⟨b,o,cap,g,X,_,_,hc,_,Y,_,ga,_,eQ⟩
  ·have:aS=[]:=by simpa using h1
   subst this
   cases a0 with
   |none =>
    have:=run_convert_bytes_string (P:=P) w cc.t rE.t aF.t none 0 0 (c2.kg b6) (fo.sw lJ) (zM.pO o9);simp only[execOp,dP,Sem.run_bind,this];rfl
   |some dE =>
    have:=run_convert_bytes_back (P:=P) w cc.t rE.t aF.t dE 0 [] (c2.kg b6) (fo.sw lJ) (zM.pO o9) (λj aa=>by simp at aa);simp only[auh]at this;simp only[execOp,dP,Sem.run_bind,this,Result.andThen_ok,Sem.run_pure]
  have hlen:(aS.map λc=>D.int .u8 c.toNat).length=aS.length:=by simp
  rw[hlen]at X
  have dm:b2 (aS.map λc=>D.int .u8 c.toNat)=aS.map λc=>D.int .u8 c.toNat:=by
   exact rD λy hy=>by obtain⟨c,_,rfl⟩:=aub.1 hy;rfl
  have:=run_convert_bytes_back (P:=P) w cc.t rE.t aF.t ⟨b,o,none⟩ cap aS (c2.kg b6) (fo.sw lJ) (zM.pO o9) (λj aa=>by
   have N:(b2 (aS.map λc=>D.int .u8 c.toNat))[j]?=some (.int .u8 (aS[j].toNat:Int)):=by rw[dm];simp[aa]
   have h1:=ga j _ N;rw[(eQ j _ N).fw]at h1
   simpa[o0]using h1)
  simp only[execOp,X,Sem.run_bind,this,Result.andThen_ok,Sem.run_pure]
theorem af.ab9(hT:df P ax){bI s:Nat}(av:dx ax ox=some cc)(b6:cc.kind=.O)(N:dx ax kI=some rE)(o9:rE.kind=.slice bI)
  (fq:dx ax bI=some aF) (lJ:aF.kind=.int .i32) (F:z.ba x=.O aS) (hlen:aS.length<=70368744177664)
  (hK:∀(bJ:Option Addr) (cap:Nat),K ((z.bZ s (some (.row (.slice bJ (h9 aS).length cap) ((h9 aS).map (D.int .i32)) 1 bI))).put (some s) (.ai (.slice bJ (h9 aS).length cap)))):af P B am z (some s) (.convert ox kI x) K :=
 .val λU w C a M type pos after=>by
  obtain⟨c2,rfl⟩:=hT.get av;obtain⟨zM,rfl⟩:=hT.get N;obtain⟨fo,rfl⟩:=hT.get fq;have X:=cG M.tmps x;rw[F]at X
  have hsz:=size_runesFrom ⟨⟨aS⟩⟩ aS.length 0 #[];have iT:(⟨⟨aS⟩⟩:ByteArray).size=aS.length:=rfl;have cY:=run_runes_of_string (P:=P) w cc.t rE.t aF.t ⟨⟨aS⟩⟩ (c2.pO b6) (zM.kg o9) (fo.sw lJ) (by rw[iT];simp at hsz;omega);rw[iT]at cY;have DO:=Lg ⟨⟨aS⟩⟩ aS.length 0 #[]
  have tF:(Conv.runesFrom ⟨⟨aS⟩⟩ aS.length 0 #[]).size=(h9 aS).length:=by
   rw[<-avx,DO];simp[h9]
  have h':=grownCap_ge w (Conv.runesFrom ⟨⟨aS⟩⟩ aS.length 0 #[]).size 0 aF.t;have BB:=grownCap_le_maxLen w (Conv.runesFrom ⟨⟨aS⟩⟩ aS.length 0 #[]).size 0 aF.t (by simp at hsz;unfold maxLen;omega);have rF:bH U w.drew C z a:=M.tJ (c_.drew _ w C);have Ed:((h9 aS).map (D.int .i32)).length=(Conv.runesFrom ⟨⟨aS⟩⟩ aS.length 0 #[]).size:=by rw[tF];simp
  refine⟨_,_,_,_,_,?_,rF.newObj s (mN:=.row (.slice (some ⟨w.heap.size,0,none⟩) (h9 aS).length (grownCap w (Conv.runesFrom ⟨⟨aS⟩⟩ aS.length 0 #[]).size 0 aF.t)) ((h9 aS).map (D.int .i32)) 1 aF.t)
   (o:=.cells (Conv.runesFrom ⟨⟨aS⟩⟩ aS.length 0 #[]++Array.replicate (grownCap w (Conv.runesFrom ⟨⟨aS⟩⟩ aS.length 0 #[]).size 0 aF.t-(Conv.runesFrom ⟨⟨aS⟩⟩ aS.length 0 #[]).size) (.int .i32 0)) aF.t) ?_ ?_,.ai _,hK _ _⟩
  ·simp only[execOp,X.kD,Sem.run_bind,cY,Result.andThen_ok,Sem.run_pure];rw[tF]
  ·refine⟨_,_,by rw[Ed,tF],by rw[Ed];exact h',BB,λx F=>by obtain⟨n,_,rfl⟩:=aub.1 F;rfl,λdE gb=>⟨_,by cases gb;rfl,hD (kH w.drew _)⟩,
    λ_=>⟨w.heap.size,_,rfl,kH w.drew _,by simp;omega,hr _ _ _,λj d N=>?_⟩⟩
   rw[Hd,aud,auP]at N;obtain⟨n,aw,rfl⟩:=N;refine⟨.int .i32 n,?_,.int _ _,rfl⟩;have aa:j<(h9 aS).length:=(aun.1 aw).1;rw[<-ava,avR,DO];simp only[au6];rw[at0 (by simpa[h9]using aa),aud];have:(sv ⟨⟨aS⟩⟩ aS.length 0)[j]?=some n:=aw;rw[this];rfl
  rintro b ⟨hM,cap,h,_⟩;exact o8 h
theorem af.ab_{s:Nat}{t:TypeId}(av:P.underlying t=some .string)(F:z.ba x=.O aS)
  (hK:∀b,K ((z.bZ s (some (.cj b (.stringIter ⟨⟨aS⟩⟩ 0)))).put (some s) (.ai (.pointer (some ⟨b,0,none⟩))))):af P B am z (some s) (.range t x) K :=
 .val λU w C a M type pos after=>by
  have X:=cG M.tmps x;rw[F]at X
  refine⟨_,_,_,_,_,?_,M.newObj s (mN:=.cj w.heap.size (.stringIter ⟨⟨aS⟩⟩ 0)) (o:=.stringIter ⟨⟨aS⟩⟩ 0) ?_ ?_,.ai _,hK _⟩
  ·simp only[execOp,X.kD,Sem.run_bind,run_range_string w t ⟨⟨aS⟩⟩ av,Result.andThen_ok,Sem.run_pure];rfl
  ·exact⟨kH w _,hr _ _ _⟩
  intro b I;exact I
theorem af.ab'(s:Nat){pos:Nat}(F:z.ba x=.ai (.pointer (some ⟨b,0,none⟩)))(hs:z.H s=some (.cj b (.stringIter ⟨⟨aS⟩⟩ pos)))
  (h1:pos<aS.length->K ((z.bZ s (some (.cj b (.stringIter ⟨⟨aS⟩⟩ (pos+(Utf8.decode ⟨⟨aS⟩⟩ pos).2))))).put dst (.bp [.bool true,.int .i64 pos,.int .i32 ((Utf8.decode ⟨⟨aS⟩⟩ pos).1:Nat)])))
  (A:¬pos<aS.length->K (z.put dst (.bp [.bool false]))):af P B am z dst (.next x true) K :=
 .val λU w C a M type ark after=>by
  have X:=cG M.tmps x;rw[F]at X
  have aca:=M.heap.cj s _ hs;obtain⟨I,de⟩:=aca;have iT:(⟨⟨aS⟩⟩:ByteArray).size=aS.length:=rfl;by_cases ay:pos<aS.length
  ·have a6:c_ (λx=>x=b) w C {w with heap:=w.heap.setIfInBounds b (.stringIter ⟨⟨aS⟩⟩ (pos+(Utf8.decode ⟨⟨aS⟩⟩ pos).2))} C:=c_.Hr I de
   refine⟨.tuple #[.bool true,.int .i64 pos,.int .i32 ((Utf8.decode ⟨⟨aS⟩⟩ pos).1:Nat)],_,C,_,_,?_,M.bZ a6 (λx F=>by subst F;exact M.heap.cI s _ _ hs rfl)
    (λbo o eo a7 ah an qA=>by subst qA;exact M.heap.inj s bo _ o _ (Ne.symm a7) hs ah rfl an) (s:=s) (o:=some (.cj b (.stringIter ⟨⟨aS⟩⟩ (pos+(Utf8.decode ⟨⟨aS⟩⟩ pos).2)))) (λx F=>?_),?_,h1 ay⟩
   ·simp only[execOp,X.f4,Sem.run_bind]
    have:(Instr.next (.pointer (some ⟨b,0,none⟩)) true type).run P w=.ok (.tuple #[.bool true,.int .i64 pos,.int .i32 ((Utf8.decode ⟨⟨aS⟩⟩ pos).1:Nat)]) {w with heap:=w.heap.setIfInBounds b (.stringIter ⟨⟨aS⟩⟩ (pos+(Utf8.decode ⟨⟨aS⟩⟩ pos).2))}:=by
     simp[Instr.next,getObj,setObj,Sem.run_bind,Sem.run,I,Result.andThen,iT,ay,goInt]
    rw[this];rfl
   ·cases F
    refine⟨⟨by simp[hD I],de⟩,λx F=>?_⟩;cases F
    exact⟨M.heap.cI s _ _ hs rfl,.inl rfl⟩
   exact .bp _ _ rfl λi d v N X=>by
    match i with
    |0=>cases N;cases X;exact .bool _
    |1=>cases N;cases X;exact .int _ _
    |2=>cases N;cases X;exact .int _ _
    |i+3=>simp at N
  refine⟨.tuple #[.bool false],w,C,z,_,?_,M,?_,A ay⟩
  ·simp only[execOp,X.f4,Sem.run_bind]
   have:(Instr.next (.pointer (some ⟨b,0,none⟩)) true type).run P w=.ok (.tuple #[.bool false]) w:=by
    simp[Instr.next,getObj,Sem.run_bind,Sem.run,I,Result.andThen,iT,ay]
   rw[this];rfl
  exact .bp _ _ rfl λi d v N X=>by
   match i with
   |0=>cases N;cases X;exact .bool _
   |i+1=>simp at N
variable{U:b7 P B am}{K:cJ->au->Prop}
def BC:aJ:=.own (.slice none 0 0) 0 0 0
theorem acb(b:Nat):¬BC.ef b:=by rintro⟨o,cap,h,A⟩;exact ayk
theorem W.BC(s:Nat){c:Code}(h:W U c (z.bZ s (some Go.bR.BC)) K):W U c z K :=
 ⟨λa w C M=>h.run a w C (M.bZ (Ft:=λ_=>False) (.refl _ _ _) (λ_ M=>M.elim) (λ_ _ _ _ _ _ M=>M) (λx F=>by
  cases F
  exact⟨⟨none,0,rfl,atQ _,at4 _,λh=>absurd h aty⟩,λb I=>absurd I (acb b)⟩))⟩
variable{c:Code}
theorem W.tP(s k e:Nat)(h:W U c (z.bZ s (some (.own (.slice none 0 0) 0 k e))) K):W U c z K :=
 ⟨λa w C M=>h.run a w C (M.bZ (Ft:=λ_=>False) (.refl _ _ _) (λ_ M=>M.elim) (λ_ _ _ _ _ _ M=>M) (λx F=>by
  cases F
  exact⟨⟨none,0,rfl,atQ _,at4 _,λh=>absurd h aty⟩,λb I=>by obtain⟨o,cap,h,A⟩:=I;exact ayk⟩))⟩
variable{k:Nat}
theorem aq.ve{s:Nat}:aq .bj (.Q (.own s (.slice none 0 0)) k []):=⟨λw C aj h=>by rw[h.xP];exact .iP _ _ none rfl⟩
theorem aq.fn{f:Fn}{a bw b eo:List D}(h:dN a bw)(bB:dN b eo):aq (.fn f a b) (.fn f bw eo) :=
 ⟨λw C v ae=>by
  obtain⟨fM,he,rfl,h1,A⟩:=ae.u3;have Z:=h.rv h1;have aG:=bB.rv A
  exact .fn f bw eo fM he Z.1 aG.1 Z.2 aG.2⟩
theorem aq.agg{a bw:List D}(h:dN a bw):aq (.agg a) (.agg bw) :=
 ⟨λw C v ae=>by
  obtain⟨vs,rfl,h1⟩:=ae.tx;have Z:=h.rv h1
  exact .agg bw vs Z.1 Z.2⟩
theorem aq.trans{a b c:D}(h:aq a b)(bB:aq b c):aq a c:=⟨λ_ _ _ ae=>bB.le _ _ _ (h.le _ _ _ ae)⟩
variable{xs:List D}
theorem aq.dV{t:iv}:aq (.Q t k xs) (.Q .none k xs):=aq.iw _
theorem dt{k:IntKind}{a b:Int}(h:a=b):aq (.int k a) (.int k b):=aq.of_eq (by rw[h])
variable{t:Nat}{rt:TypeId}
theorem af.Ht{K:au->Prop}{ax:List bx}(hT:df P ax){bI:Nat}(F:z.ba x=.Q tg k xs)(av:dx ax t=some cc)(b6:cc.kind=.slice bI)
  (hK:∀b:Bool,(b=true->xs=[])->K (z.put dst (.bool b))):af P B am z dst (.binOp .eql t x (.const (.slice none 0 0)) rt) K :=
 .val λU w C a M type pos after=>by
  obtain⟨c2,rfl⟩:=hT.get av;have an:=c2.kg b6;have X:=cG M.tmps x;rw[F]at X
  have key:∃dE l c,a.eval x=.slice dE l c/\(dE.isNone=true->xs=[]):=by
   rcases X.kh with⟨h1,⟨a0,A⟩,_⟩|⟨b,o,cap,g,A,_⟩
   ·exact⟨a0,0,0,A,λ_=>h1⟩
   exact⟨_,_,_,A,λh=>by cases h⟩
  obtain⟨dE,l,c,A,Z⟩:=key;refine⟨.bool dE.isNone,w,C,z,_,?_,M,.bool _,hK _ Z⟩;have aG:=zw (P:=P) .eql cc.t x (.const (.slice none 0 0)) (.slice dE l c) (.slice none 0 0) w aty aty;have bb:=run_equal_slice_nil (P:=P) w cc.t bI dE l c an
  have cL:(binOp .eql cc.t (.slice dE l c) (.slice none 0 0)).run P w=.ok (.bool dE.isNone) w:=by
   simp only[binOp];simp[bb]
  have eV:a.eval (.const (.slice none 0 0))=.slice none 0 0:=rfl;simp only[execOp,A,eV,Sem.run_bind,aG,cL,Result.andThen_ok,Sem.run_pure]
variable{a:Act}{nP:iv}{a':List D}{km:TypeId}
theorem acc(h:bH U w C z a){e:bx}(ao:e.gh P)(ki:aF.gh P)(b6:e.kind=.slice aF.t)(bC:aF.zero≠none){vs bS:Value}(wK:bh w C (.Q nP aF.aC a') bS)(ma:(xs.length+a'.length)*aF.bytes<=140737488355328)(oA:xs.length+a'.length<=9223372036854775807)(h0:0<a'.length){q dst:Nat}(hH:z.H q=some (.row vs xs aF.aC aF.t)): ∃v w' aR,(Builtin.append_ #[e.t,e.t] km #[vs,bS]).run P w=.ok v w'/\bH U w' aR ((z.bZ q none).bZ dst (some (.row v (xs++a') aF.aC aF.t))) a:=by have an:=ao.kg b6;obtain⟨i,hi,hsz,o4,nd⟩:=ki.qx;obtain⟨V,bC⟩:=awG.1 bC;obtain⟨eh,lF,l_,jF⟩:=nd V bC;(have DT:eh.cells.size=aF.aC:=by have:=(jF w C).1;rw[l_]at this;simpa using this.symm);have M:=h.drop q;(have hlen:(xs++a').length=xs.length+a'.length:=by simp);obtain⟨bJ,cap,fy,hcap,Bn,pX,_,cz⟩:=h.heap.cj q _ hH;(have hy:∃dE sB,bS=.slice (some dE) a'.length sB:=by rcases wK.kh with⟨rfl,_,_⟩|⟨b,o,cap,g,X,_⟩;simp at h0;exact⟨_,_,X⟩);obtain⟨dE,sB,fX⟩:=hy;subst fX;obtain⟨fp,jG,xW,xX,sC,Bp⟩:=Lt wK;(have wL:fp.length=a'.length*i.size:=by rw[jG,hsz]);(have Ee:∀x∈xs++a',x.cells.length=aF.aC:=λx F=>ax4);have dm:=pI pX;(have fresh:∀(kK:List Value) (kn:Nat),kK.length=xs.length*aF.aC->(∀(j:Nat) d,(b2 xs)[j]?=some d->∃aj,kK[j]?=some aj/\bh w C d aj/\aj.oneCell'=true)->∀v,v=.slice (some ⟨w.heap.size,0,none⟩) (xs.length+a'.length) (grownCap w (xs.length+a'.length) kn aF.t)->∀w',w'=w.drew.alloc (.cells (kK.toArray++fp.toArray++Builtin.zeroCells eh.cells (grownCap w (xs.length+a'.length) kn aF.t-(xs.length+a'.length))) aF.t)->∃aR,bH U w' aR ((z.bZ q none).bZ dst (some (.row v (xs++a') aF.aC aF.t))) a:=axa);subst fy;by_cases ia:0<cap;obtain⟨b,ft,rfl,I,hcs,Hi,mb⟩:=cz ia;have e8:aJ.ef (.row (.slice (some ⟨b,0,none⟩) xs.length cap) xs aF.aC aF.t) b:=⟨_,cap,rfl,ia⟩;(have acd:xs.length*aF.aC<=ft.size:=by rw[hcs];exact avi _ hcap);by_cases sD:xs.length+a'.length<=cap;(have hS:xs.length*i.size+fp.length<=ft.size:=by rw[hsz,jG,hcs,<-awH];exact avi _ sD);have ae:=run_append_room (P:=P) w e.t km aF.t i an hi b xs.length cap ft I dE a'.length sB fp wL xW sC sD hS;rw[hsz]at ae hS;have a6:=c_.setRow (C:=C) (n:=0) I (aB:=(ft.toList.take (xs.length*aF.aC)++fp++ft.toList.drop (xs.length*aF.aC+fp.length)).toArray) atw (λo ah=>by omega);refine⟨_,_,_,ae,M.bZ a6 (λx F=>ayt) (λbo o eo a7 c7 cV qA=>?_) λx F=>?_⟩;subst qA;by_cases G:bo=q;subst G;rw[pT]at c7;cases c7;rw[k5 z none G]at c7;exact h.heap.inj bo q o _ eo G c7 hH cV e8;cases F;refine⟨⟨_,cap,by rw[hlen],by rw[hlen];exact sD,Bn,Ee,λdE gb=>⟨b,by cases gb;rfl,auz (hD I) a6.ext.size⟩,λ_=>⟨b,_,rfl,setRow_heap w b ft _ aF.t _ I,?_,hr _ _ _,λj d N=>?_⟩⟩,λx F=>?_⟩;simp only[auI,atP,at7,auV,avx];omega;rw[xT,pV]at N;rw[avA];split at N;obtain⟨aj,an,ae,ah⟩:=mb j d N;refine⟨aj,?_,ae.ext a6.ext,ah⟩;rw[pU _ _ _ atx,atH atw];simpa using an;obtain⟨aj,an,ae,ah⟩:=xX _ d N;refine⟨aj,?_,ae.ext a6.ext,ah⟩;have:=e7 an;rw[pU _ _ _ atx,atI ⟨by omega,by omega,by simp;omega⟩,<-dm];exact an;obtain⟨hM,hP,dP,_⟩:=F;simp only[Value.slice.injEq,aus,Addr.mk.injEq]at dP;obtain⟨⟨rfl,_⟩,_⟩:=dP;exact⟨h.heap.cI q _ _ hH e8,.inl rfl⟩;(have Bq:∀(j:Nat) aj,(ft.toList.take (xs.length*aF.aC))[j]?=some aj->w.cell? ((⟨b,0,none⟩:Addr).add j)=some aj:=λj aj aa=>axK);have ae:=run_append_grow (P:=P) w e.t km aF.t i eh an hi lF ⟨b,0,none⟩ xs.length cap (ft.toList.take (xs.length*aF.aC)) (by rw[hsz];simp;omega) Bq dE a'.length sB fp wL xW atw atw (ayv);obtain⟨aR,h1⟩:=fresh (ft.toList.take (xs.length*aF.aC)) cap atx (λj d N=>axF) _ rfl _ rfl;exact⟨_,_,aR,ae,h1⟩;have F:xs=[]:=atZ atw;subst F;(have LQ:cap=0:=by omega);subst LQ;cases bJ with|none =>simp only[auh,auu]at ma oA fresh;have ae:=run_append_nil (P:=P) w e.t km aF.t i eh an hi lF dE a'.length sB fp wL xW atw atw (by rw[o4];omega);obtain⟨aR,A⟩:=fresh [] 0 aty (λj d N=>by simp[b2]at N) _ rfl _ rfl;exact⟨_,_,aR,ae,by simpa using A⟩|some u9 =>have ae:=run_append_grow (P:=P) w e.t km aF.t i eh an hi lF u9 0 0 [] aty (λj aj aa=>by simp at aa) dE a'.length sB fp wL xW atw atw (ax7);obtain⟨aR,A⟩:=fresh [] 0 aty (λj d N=>by simp[b2]at N) _ rfl _ rfl;exact⟨_,_,aR,ae,by simpa using A⟩
variable{K:au->Prop}{v:Value}
theorem af.nU(hT:df P ax){bI s:Nat}(q:Nat)(av:dx ax t=some cc)(b6:cc.kind=.slice bI)(fq:dx ax bI=some aF)(bC:aF.zero≠none)
  (F:z.ba x=.ai v) (hH:z.H q=some (.row v xs aF.aC bI)) (hy:z.ba y=.Q tg aF.aC a') (h0:0<a'.length) (ma:(xs.length+a'.length)*aF.bytes<=140737488355328) (oA:xs.length+a'.length<=9223372036854775807)
  (hK:∀(bJ:Option Addr) (n cap:Nat),K (((z.bZ q none).bZ s (some (.row (.slice bJ n cap) (xs++a') aF.aC bI))).put (some s) (.ai (.slice bJ n cap)))):af P B am z (some s) (.call ⟨.builtin .append,#[x,y],#[t,t]⟩) K :=
 .val λU w C a M type pos after=>by
  obtain⟨c2,rfl⟩:=hT.get av;obtain⟨fo,rfl⟩:=hT.get fq;have fX:=cG M.tmps x;rw[F]at fX
  have kM:=cG M.tmps y;rw[hy]at kM
  obtain⟨c9,w',aR,cY,fI⟩:=acc M c2 fo b6 bC kM ma oA h0 (dst:=s) (km:=type) hH;rw[<-fX.f4]at cY;obtain⟨bJ,cap,rfl,_⟩:=fI.heap.cj s _ (pT _ _ _);refine⟨_,w',aR,_,_,?_,fI,.ai _,hK bJ _ cap⟩;simp[execOp,resolve,invoke,builtin,cY]
theorem W.qE{K:cJ->au->Prop}(s k e:Nat)(h:W U c (z.bZ s (some (.row (.slice none 0 0) [] k e))) K):W U c z K :=
 ⟨λa w C M=>h.run a w C (M.bZ (Ft:=λ_=>False) (.refl _ _ _) (λ_ M=>M.elim) (λ_ _ _ _ _ _ M=>M) (λx F=>by
  cases F
  exact⟨⟨none,0,rfl,atQ _,at4 _,λx F=>(by cases F),λdE gb=>(by cases gb),λh=>absurd h aty⟩,λb I=>by obtain⟨n,cap,h,A⟩:=I;exact ayk⟩))⟩
theorem aq.rG:aq .bj (.ai (.slice none 0 0)):=⟨λ_ _ _ h=>by rw[h.xP];exact .ai _⟩
variable{ops:Array Oper}
def ei(bg:Array Bool):Nat->Bool:=λi=>bg.getD i false
def hu(f:Nat->Bool)(i:Nat):Nat->Bool:=λj=>cond (Nat.beq j i) true (f j)
def wP(g:Nat->Bool):List Edge->Nat->Bool
 |[]=>g
 |e::r=>cond (Region.binds .any e) (hu (wP g r) e.on) (wP g r)
def ace(P:Program)(B:World)(ax:List bx)(l:(Nat->Bool)->List (Nat×D))(hs:(Nat->Bool)->List (Nat×aJ)):List Oper->Nat->Prop
 |[],_=>True
 |o::r,i=>(∀g,nO P B ax (hf (l (wP g o.after.toList)) (hs (wP g o.after.toList))) o.dst o.op λaA=>jC aA (l (hu (wP g o.after.toList) i))/\mJ aA (hs (hu (wP g o.after.toList) i)))/\ace P B ax l hs r (i+1)
def BD(am:Nat):List Oper->Nat->Bool
 |[],_=>true
 |o::r,i=>o.guard.isNone&&iQ am o.dst&&(o.after.toList.all λe=>!Region.binds .any e||Nat.blt e.on i)&&BD am r (i+1)
theorem Sd{l:List Oper}:∀{n:Nat},BD am l n=true->∀{i:Nat} {o:Oper},l[i]?=some o->o.guard=none/\iQ am o.dst=true/\∀e∈o.after.toList,Region.binds .any e=true->e.on<n+i:=by induction l with|nil=>intro n _ i o h;simp at h|cons x r aZ =>intro n h i o ah;simp only[BD,atN]at h;obtain⟨⟨⟨h1,A⟩,Z⟩,aG⟩:=h;(cases i with|zero =>simp at ah;subst ah;refine⟨by simpa using h1,A,λe ao I=>?_⟩;have:=auE.1 Z e ao;rw[I]at this;(have:=by simpa using this);omega|succ i =>have:=aZ aG (i:=i) (o:=o) (by simpa using ah);refine⟨this.1,this.2.1,λe ao I=>?_⟩;have:=this.2.2 e ao I;omega)
variable{i:Nat}
theorem acf{f:Nat->Bool}(h:f i=true):hu f i=f:=by funext j;simp only[hu];cases I:Nat.beq j i with|true=>have:=auc I;subst this;exact h.symm|false=>rfl
theorem LR{f:Nat->Bool}:∀{l:List Edge},(∀e∈l,Region.binds .any e=true->f e.on=true)->wP f l=f
 |[],_=>rfl
 |e::r,ay=>by simp only[wP];rw[LR (l:=r) λe ao=>ay e (atY _ ao)];cases I:Region.binds .any e with|true=>exact acf (ay e atU I)|false=>rfl
variable{bg:Array Bool}
theorem Ef(h:i<bg.size):ei (bg.setIfInBounds i true)=hu (ei bg) i:=by funext j;simp only[ei,hu];cases I:Nat.beq j i with|true =>have:=auc I;subst this;simp[h]|false =>(have:i≠j:=λe=>by subst e;simp at I);simp[awk this]
theorem BE{md:Region.Mode}(h:i∈Region.ready md ops bg): ∃o,ops[i]?=some o/\i<ops.size/\bg.getD i true=false/\∀e∈o.after.toList,Region.binds md e=true->bg.getD e.on false=true:=by simp only[Region.ready,auw,avg,atN,av0]at h;obtain⟨h1,A,Z⟩:=h;have ah:ops[i]?=some ops[i]:=ave h1;refine⟨ops[i],ah,h1,A,λe ao I=>?_⟩;rw[ah]at Z;simp only[au7,auJ]at Z;have:=Array.all_eq_true'.1 Z e (by simpa using ao);simpa[I]using this
theorem acg(ay:BD am ops.toList 0=true)(hsz:bg.size=ops.size): ∀(n i:Nat),n=i->i<ops.size->bg.getD i true=false->Region.ready .any ops bg≠[]:=by intro n;induction n using Nat.strongRecOn with|_ n aZ =>intro i aw hi al;subst aw;have ah:ops[n]?=some ops[n]:=ave hi;have dg:=Sd ay (i:=n) (o:=ops[n]) (by simpa using ah);by_cases ae:∀e∈ops[n].after.toList,Region.binds Region.Mode.any e=true->bg.getD e.on false=true;intro ao;(have:n∈Region.ready Region.Mode.any ops bg:=axj);rw[ao]at this;cases this;simp only[Classical.not_forall]at ae;obtain⟨e,ao,I,a7⟩:=ae;have bf:=dg.2.2 e ao I;simp only[auu]at bf;refine aZ e.on bf e.on rfl atw ?_;(have BF:e.on<bg.size:=by omega);simp only[Array.getD,BF,avw]at a7⊢;simpa using a7
variable{K:cJ->au->Prop}{aB dv:List D}
theorem bH.Hu(h:bH U w C z a)(s:Nat)(hs:z.H s=some (.box b aB))
  (dO:∀dk,c' w C aB dk->c' w C dv dk):bH U w C (z.bZ s (some (.box b dv))) a :=
 h.bZ (Ft:=λx=>x=b) (.refl _ _ _) (λx F=>by subst F;exact h.heap.cI s _ x hs rfl)
  (λbo o x a7 ah an F=>ax1)
  (λx F=>by
   cases F
   obtain⟨vs,e,h1,A,Z⟩:=h.heap.cj s _ hs
   exact⟨⟨vs,e,h1,dO _ A,Z⟩,λx F=>⟨by cases F;exact h.heap.cI s _ _ hs rfl,.inl F⟩⟩)
theorem W.jj(s:Nat)(hs:z.H s=some (.box b aB))(dO:dN aB dv)(h:W U c (z.bZ s (some (.box b dv))) K):W U c z K :=
 ⟨λa w C M=>h.run a w C (M.Hu s hs λ_ ae=>dO.rv ae)⟩
theorem W.ach(s j:Nat){q:Nat}(hs:z.H s=some (.box b aB))(aa:z.t j=.Q (.own q v) k xs)
  (dO:∀w C,bh w C (.Q .none k xs) v->∀dk,c' w C aB dk->c' w C dv dk) (h:W U c (z.bZ s (some (.box b dv))) K):W U c z K :=
 ⟨λa w C M=>h.run a w C (M.Hu s hs λdk ae=>dO w C (by
  have h1:=M.tmps j;rw[aa]at h1;generalize a.tmps.getD j undef=aj at h1
  have A:aj=v:=by
   cases h1 with
   |iP t k a av=>exact av
   |Q t k xs b o cap g av=>exact av
  rw[A]at h1
  exact h1.iw) dk ae)⟩
variable{dk:List Value}{d:D}
theorem c'.cell(h:c' w C aB dk)(N:∀aj,dk[i]?=some aj->bh w C d aj):c' w C (iy aB i d) dk:=by(have key:∀(aB:List D) (i:Nat),(iy aB i d).length=aB.length/\∀j,(iy aB i d)[j]?=if j=i/\i<aB.length then some d else aB[j]?:=by intro aB;induction aB with|nil=>intro i;simp[iy]|cons c r aZ =>intro i;(cases i with|zero =>refine⟨rfl,λj=>?_⟩;(cases j with|zero=>simp[iy]|succ j=>simp[iy])|succ i =>refine⟨by simp[iy,(aZ i).1],λj=>?_⟩;(cases j with|zero=>simp[iy]|succ j=>simp[iy,(aZ i).2 j])));refine⟨by rw[(key aB i).1,h.1],λj d' v aa X=>?_⟩;rw[(key aB i).2]at aa;split at aa;rename_i e9;cases aa;obtain⟨rfl,_⟩:=e9;exact N v X;exact h.2 j d' v aa X
variable{aj:Value}
theorem c'.Se(h:c' w C aB dk)(hc:aB[i]?=some (.ai v))(an:dk[i]?=some aj):aj=v:=(h.2 i _ aj hc an).f4
variable{e:Nat}{hs:List (Nat×aJ)}
theorem W.aci(s j:Nat){r:List (Nat×D)}(o_:aL hs s=none)(h:W U c (hf ((j,.Q (.own s v) k xs)::r) hs) K):W U c (hf ((j,.ai v)::r) ((s,.row v xs k e)::hs)) K:=by have nV:Nat.beq s s=true:=au1 s;refine W.commit s (v:=v) (xs:=xs) (k:=k) (e:=e) (by simp only[hf,aL,nV,avq]) (hf ((j,.Q (.own s v) k xs)::r) hs) (λw C ae i aj hi=>?_) (λi o ah=>?_) h;simp only[hf,aL]at hi⊢;(cases I:Nat.beq i j with|true =>rw[I]at hi;simp only[avq,auJ]at hi⊢;rw[hi.f4];exact ae|false=>rw[I]at hi;simpa using hi);refine .inr ⟨λe=>?_,?_⟩;subst e;simp only[hf]at ah;rw[o_]at ah;cases ah;simp only[hf,aL]at ah⊢;cases I:Nat.beq i s with|true =>have:=auc I;subst this;rw[o_]at ah;cases ah|false=>simpa using ah
open Go.ChangeShapes Go.Deep
variable{H:Type}{enc:TypeId×Value->H}{bq:World}
def tQ(w:World):Nat->Nat:=λb=>match w.heap[b]? with
 |some (.cells vs _ _)=>vs.size
 |_=>0
theorem Sf{a:Addr}(h:w.cell? a=some v):a.spot=none/\a.block<w.heap.size/\a.off<tQ w a.block:=by unfold World.cell? at h;unfold tQ;split at h;rename_i c _ _ I;rw[I];split at h;cases h;rename_i hs;refine⟨by cases c7:a.spot<;>simp_all,hD I,?_⟩;exact(avu.1 h).1;cases h
variable{α:Type}
def e0(enc:TypeId×Value->H)(P:Program)(bq:World)(n:Nat)(t:TypeId)(e:α->D)(wQ:α->DataW H->Prop):Prop :=
 ∀aB x,DataW.trod enc P bq 0 (λ_=>true) true n t aB=some x->∃a,c' bq (tQ bq) (e a).cells aB/\wQ a x.1
theorem e0.int{n:Nat}{t:TypeId}{k:IntKind}(av:P.underlying t=some (.int k)):e0 enc P bq n t (λi:Int=>.int k i) (λi d=>d=.lit (.int k i)/\(Lit.int k i).wf=true):=by intro aB x h;obtain⟨i,rfl,rfl,cz⟩:=DataW.trod_int av h;exact⟨i,.cons (.int _ _) (.nil _ _),rfl,cz⟩
theorem e0.bool{n:Nat}{t:TypeId}(av:P.underlying t=some .bool):e0 enc P bq n t (λi:Bool=>.bool i) (λi d=>d=.lit (.bool i)):=by intro aB x h;obtain⟨i,rfl,rfl⟩:=DataW.trod_bool av h;exact⟨i,.cons (.bool _) (.nil _ _),rfl⟩
theorem e0.O{n:Nat}{t:TypeId}(av:P.underlying t=some .string):e0 enc P bq n t (λs:atG=>.O s) (λs d=>d=.lit (.string s)/\s.length<=maxLen):=by intro aB x h;obtain⟨s,rfl,rfl,hs⟩:=DataW.trod_string av h;obtain⟨⟨l⟩⟩:=s;exact⟨l,.cons (.O l) (.nil _ _),rfl,hs⟩
theorem Sg{α:Type}{a8:Nat->α->Prop}:∀n,(∀i,i<n->∃a,a8 i a)->∃l:List α,l.length=n/\∀i a,l[i]?=some a->a8 i a
 |0,_=>⟨[],rfl,λi a h=>by simp at h⟩
 |n+1,h=>by obtain⟨l,al,G⟩:=Sg n (λi hi=>h i atw);obtain⟨a,ha⟩:=h n atw;refine⟨l++[a],by simp[al],λi b I=>?_⟩;rw[aw8]at I;split at I;exact G i b I;rename_i hi;(have:i-l.length=0:=by have:=(aun.1 I).1;simp at this;omega);rw[this]at I;simp at I;subst I;(have:i=n:=by omega);subst this;exact ha
theorem Sh{k:Nat}(h0:0<k):∀{xs:List D} (_:∀x∈xs,x.cells.length=k) {j:Nat} {d:D},(b2 xs)[j]?=some d->∃x,xs[j/k]?=some x/\x.cells[j%k]?=some d
 |[],_,j,d,h=>by simp[b2]at h
 |x::r,Y,j,d,h=>by have F:=Y x atU;(have e:b2 (x::r)=x.cells++b2 r:=by simp[b2]);rw[e,aw8,F]at h;split at h;rename_i aa;exact⟨x,by rw[Nat.div_eq_of_lt aa];rfl,by rw[Nat.mod_eq_of_lt aa];exact h⟩;rename_i aa;obtain⟨y,h1,A⟩:=Sh h0 (xs:=r) (λy hy=>Y y (atY _ hy)) h;(have gi:j=(j-k)+k:=by omega);refine⟨y,?_,?_⟩;rw[gi,Nat.add_div_right _ h0];simpa using h1;rw[gi,Nat.add_mod_right];exact A
def Si(wQ:α->DataW H->Prop)(l:List α)(d:DataW H):Prop :=
 (l=[]/\d=.nil)\/∃ds pZ,d=.slice ds pZ/\ds.length=l.length/\∀(i:Nat) a y,l[i]?=some a->ds[i]?=some y->wQ a y
theorem e0.slice{t e:TypeId}{k:Nat}{α:Type}{f:α->D}{wQ:α->DataW H->Prop}(av:P.underlying t=some (.slice e))(de:P.cellsOf e=k)(Y:0<k)
  (M:∀a,(f a).cells.length=k/\(f a).cells.all D.one=true) {iU:Nat} (aZ:∀n,n<iU->e0 enc P bq n e f wQ) :
  e0 enc P bq iU t (λl:List α=>.Q .none k (l.map f)) (Si wQ):=by
 intro aB x h;rcases DataW.trod_slice av h with⟨rfl,rfl⟩|⟨a,len,cap,elems,rest,n,rfl,rfl,rfl,I,al,hm,hlen,fq,nj,_⟩
 ·exact⟨[],.cons (.iP .none k none trivial) (.nil _ _),Or.inl ⟨rfl,rfl⟩⟩
 rw[de]at fq nj
 obtain⟨l,mO,G⟩:=Sg (a8:=λi b=>∃dv y,bq.cells? 0 (a.add (i*k)) k=some dv/\c' bq (tQ bq) (f b).cells dv/\elems[i]?=some y/\wQ b y.1) len (λi hi=>by
  have hy:elems[i]?=some elems[i]:=atK atw;have h1:=fq i hi;rw[hy,awN]at h1;obtain⟨dv,A,Z⟩:=h1;obtain⟨b,aG,bb⟩:=aZ n (auy _) dv _ Z
  exact⟨b,dv,_,A,aG,hy,bb⟩)
 refine⟨l,.cons ?_ (.nil _ _),Or.inr ⟨_,_,rfl,by simp[hlen,mO],λi b y I hy=>?_⟩⟩
 ·have Eg:(l.map f).length=len:=by simp[mO]
  have b6:∀x∈l.map f,x.cells.length=k:=λx F=>by obtain⟨b,_,rfl⟩:=aub.1 F;exact(M b).1
  by_cases hcap:cap=0
  ·have h0:len=0:=atw
   have:l=[]:=atZ atw;subst this;subst hcap;subst h0
   exact .iP .none k (some a) trivial
  have acj:∃v,bq.cell? ((a.add (0*k)).add 0)=some v:=by
   have h1:∃y dv,bq.cells? 0 (a.add (0*k)) k=some dv/\DataW.trod enc P bq 0 (λ_=>true) true n e dv=some y:=by
    by_cases h0:0<len
    ·have hy:elems[0]?=some elems[0]:=atK atw;have h1:=fq 0 h0;rw[hy,awN]at h1;obtain⟨dv,A,Z⟩:=h1;exact⟨_,dv,A,Z⟩
    obtain⟨A,Z⟩:=nj rfl;have aG:=Z 0 atw;have hy:rest[0]?=some (rest[0]' atw):=atK atw;rw[hy,awN]at aG;obtain⟨dv,bb,cL⟩:=aG;have:len+0=0:=atw
    rw[this]at bb;exact⟨_,dv,bb,cL⟩
   obtain⟨y,dv,A,_⟩:=h1;obtain⟨_,Z,aG⟩:=World.cells?_some A;have:=aG 0 Y;rw[this];exact⟨_,atK atw⟩
  obtain⟨v0,o7⟩:=acj;have lL:(a.add (0*k)).add 0=a:=by simp[Addr.add]
  rw[lL]at o7;obtain⟨dA,tR,LS⟩:=Sf o7;obtain⟨b,o,pZ⟩:=a;simp only at dA tR LS;subst dA
  have Hv:∀(j:Nat) d,(b2 (l.map f))[j]?=some d->∃v,bq.cell? ⟨b,o+j,none⟩=some v/\v.oneCell'=true/\bh bq (tQ bq) d v:=λj d N=>by
   obtain⟨x,F,hc⟩:=Sh Y b6 N;rw[aud,auP]at F;obtain⟨gR,Hw,rfl⟩:=F;obtain⟨dv,y,A,Z,_,_⟩:=G _ _ Hw;obtain⟨_,aG,bb⟩:=World.cells?_some A;have o6:j%k<k:=Nat.mod_lt _ Y;have X:dv[j%k]?=some (dv[j%k]' atw):=atK atw;have cL:=bb (j%k) o6;rw[X]at cL;have ae:=Z.2 _ _ _ hc X;have ah:D.one d=true:=auE.1 (M gR).2 d (at1 hc);refine⟨_,?_,(ae.oz ah).2,ae⟩
   have e:(Addr.add (Addr.add ⟨b,o,none⟩ (j/k*k)) (j%k))=⟨b,o+j,none⟩:=by
    rw[o0,o0];have:=Nat.div_add_mod j k;rw[Nat.mul_comm]at this;rw[avH,this]
   rw[e]at cL;exact cL
  have eQ:=bh.Q (w:=bq) (C:=tQ bq) .none k (l.map f) b o cap (λj=>(bq.cell? ⟨b,o+j,none⟩).getD undef) trivial tR (by rw[Eg];exact al) hm b6 (by
    by_cases h0:0<len*k
    ·have dm:=pI b6;rw[Eg]at dm;obtain⟨d,N⟩:=lE (l:=b2 (l.map f)) (i:=len*k-1) atw;obtain⟨v,X,_⟩:=Hv _ d N;have:=(Sf X).2.2;simp only at this;rw[Eg];omega
    rw[Eg];omega)
   (λj d N=>by obtain⟨v,X,_⟩:=Hv j d N;rw[X];rfl)
   (λj d N=>by obtain⟨v,X,h1,_⟩:=Hv j d N;rw[X];exact h1)
   (λj d N=>by obtain⟨v,X,_,h1⟩:=Hv j d N;rw[X];exact h1)
  rw[Eg]at eQ;exact eQ
 obtain⟨_,Sj,_,_,h1,A⟩:=G _ _ I;rw[aud,h1]at hy;cases hy;exact A
theorem Eh{t:TypeId}{az:Array Field}{iU:Nat}{aB:List Value}{x:DataW H×List MemPlace}(av:P.underlying t=some (.struct az))(ee:oneCellFields P az=true)(de:P.cellsOf t=az.size)(h:DataW.trod enc P bq 0 (λ_=>true) true iU t aB=some x): ∃(xs:List (DataW H×List MemPlace)) (n:Nat),iU=n+1/\x.1=.agg (xs.map (·.1))/\aB.length=az.size/\xs.length=az.size/\∀(i:Nat) (f:Field) v y,az[i]?=some f->aB[i]?=some v->xs[i]?=some y->DataW.trod enc P bq 0 (λ_=>true) true n f.type [v]=some y:=by obtain⟨xs,n,rfl,rfl,al,F,M⟩:=DataW.trod_struct av h;refine⟨xs,n,rfl,rfl,by rw[al,de],F,λi f v y h1 A Z=>?_⟩;obtain⟨ah,Y⟩:=hone_of ee i f h1;have aG:=M i f h1;rw[ah,Y,Z]at aG;obtain⟨hi,rfl⟩:=aun.1 A;(have:(aB.drop i).take 1=[aB[i]]:=by rw[auQ hi];rfl);rw[this]at aG;exact aG
variable{iW:World}
theorem ack{t:TypeId}(al:laidOutB P=true)(ae:P.readableRec t=true)(dF:t<P.types.size){d:DataW H}{bU:List MemPlace}
  (h:DataW.Trod enc P bq 0 (λ_=>true) true t v d bU) (I:Below bq.heap.size bq iW) (bf:∀x∈bU,x.block<bq.heap.size) (pZ:Nat->Bool) (nj:∀p∈bU,pZ p.block=true) :
  DataW.Trod enc P iW 0 pZ true t v d bU :=
 WideElems.Trod_stays al ae dF h (λx F=>I.same (bf x F)) (λx F=>nj x F)
end Go.bR
namespace Go.bR.ck
open Go Go.Proofs
abbrev bt:D:=.int .i64 0
abbrev d0:D:=.O []
abbrev iB:D:=.bool false
abbrev tS:D:=.ai (.map none)
abbrev wR:D:=.ai (.pointer none)
abbrev zN:D:=.ai .nilFunc
abbrev eF:ru:=.int .i64
abbrev zO:List (Nat×Nat×Bool):=[(0,1,false),(1,1,false)]
abbrev Hx:List (Nat×Nat×Bool):=[(0,1,false),(1,1,false),(2,1,false)]
abbrev Hy:List (Nat×Nat×Bool):=[(0,1,false),(1,1,false),(2,1,false),(3,1,false)]
abbrev LU:List (Nat×Nat×Bool):=[(0,1,false),(1,1,false),(2,1,false),(3,1,false),(4,1,false)]
abbrev LV:List (Nat×Nat×Bool):=[(0,1,false),(1,1,false),(2,1,false),(3,1,false),(4,1,false),(5,1,false)]
abbrev acl:List (Nat×Nat×Bool):=[(0,1,false),(1,1,false),(2,1,false),(3,1,false),(4,1,false),(5,1,false),(6,1,false)]
abbrev Sk:List (Nat×Nat×Bool):=[(0,1,false),(1,1,false),(2,1,false),(3,1,false),(4,1,false),(5,1,false),(6,1,false),(7,1,false)]
abbrev acm:List (Nat×Nat×Bool):=[(0,1,false),(1,1,false),(2,1,false),(3,1,false),(4,1,false),(5,1,false),(6,1,false),(7,1,false),(8,1,false),(9,1,false),(10,1,false),(11,1,false)]
abbrev acn:List (Nat×Nat×Bool):=[(0,1,false),(1,1,false),(2,1,false),(3,1,false),(4,1,false),(5,1,false),(6,1,false),(7,1,false),(8,1,false),(9,1,false),(10,1,false),(11,1,false),(12,1,false),(13,1,false)]
abbrev j1(a b:Nat):bx:=⟨a,false,1,24,.slice b,[],some [.bj],[]⟩
abbrev mP(a:Nat)(V:D):bx:=⟨a,false,1,8,.DB,[],some [V],[]⟩
def ax:List bx:=[⟨3,false,1,8,eF,[],some [bt],[]⟩,⟨9,false,1,16,.O,[],some [d0],[]⟩,⟨4,false,1,1,.bool,[],some [iB],[]⟩,⟨44,true,12,152,.struct,acm,some [d0,bt,d0,d0,bt,bt,bt,bt,bt,bt,.bj,.bj],[]⟩,j1 24 3,j1 59 9,j1 41 44,⟨54,false,1,8,eF,[],some [bt],[]⟩,⟨5,false,1,1,.int .u8,[],some [.int .u8 0],[]⟩,⟨23,true,2,16,.struct,zO,some [bt,bt],[eF,eF]⟩,j1 38 23,⟨53,true,3,32,.struct,Hx,some [d0,bt,bt],[.O,eF,eF]⟩,j1 27 53,⟨34,true,13,160,.struct,[(0,8,true),(8,1,false),(9,1,false),(10,1,false),(11,1,false),(12,1,false)],some [d0,d0,d0,d0,d0,bt,bt,bt,bt,bt,.bj,bt,iB],[]⟩,⟨114,true,21,256,.struct,[(0,13,true),(13,1,false),(14,1,false),(15,1,false),(16,1,false),(17,1,false),(18,1,false),(19,1,false),(20,1,false)],some [d0,d0,d0,d0,d0,bt,bt,bt,bt,bt,.bj,bt,iB,.bj,.bj,tS,bt,bt,bt,bt,bt],[]⟩,⟨121,true,2,32,.struct,zO,some [d0,d0],[.O,.O]⟩,j1 112 121,⟨29,true,16,160,.struct,[(0,2,true),(2,2,true),(4,11,true),(15,1,false)],some [bt,bt,bt,bt,bt,iB,bt,bt,bt,bt,bt,.bj,bt,bt,bt,.bj],[]⟩,⟨26,true,11,104,.struct,[(0,1,false),(1,1,false),(2,2,true),(4,1,false),(5,2,true),(7,1,false),(8,1,false),(9,2,true)],some [bt,iB,bt,bt,bt,bt,bt,.bj,bt,bt,bt],[]⟩,j1 42 147,j1 32 140,⟨140,true,6,56,.struct,LV,some [d0,bt,bt,bt,bt,iB],[.O,eF,eF,eF,eF,.bool]⟩,⟨83,true,4,40,.struct,Hy,some [iB,iB,bt,.bj],[]⟩,j1 86 4,mP 76 tS,mP 66 tS,mP 104 wR,⟨147,true,2,32,.struct,zO,some [d0,d0],[.O,.O]⟩,mP 99 wR,mP 135 wR,mP 1 zN,⟨2,false,1,8,eF,[],some [bt],[]⟩,⟨6,false,1,1,.int .u8,[],some [.int .u8 0],[]⟩,⟨7,true,4,24,.struct,Hy,some [bt,bt,iB,.int .u8 0],[eF,eF,.bool,.int .u8]⟩,⟨8,true,4,24,.struct,Hy,some [bt,bt,iB,.int .u8 0],[eF,eF,.bool,.int .u8]⟩,⟨10,false,1,16,.O,[],some [d0],[]⟩,⟨11,false,1,16,.O,[],some [d0],[]⟩,⟨12,false,1,8,.int .u64,[],some [.int .u64 0],[]⟩,⟨21,false,1,4,.int .i32,[],some [.int .i32 0],[]⟩,⟨31,true,8,104,.struct,Sk,some [d0,d0,d0,d0,d0,bt,bt,bt],[.O,.O,.O,.O,.O,eF,eF,eF]⟩,⟨49,false,1,8,.int .u64,[],some [.int .u64 0],[]⟩,mP 67 tS,j1 68 59,mP 118 tS,mP 131 wR,⟨133,true,4,32,.struct,Hy,some [wR,wR,bt,bt],[]⟩,mP 161 wR,j1 162 5,⟨164,true,2,32,.struct,zO,some [wR,.bj],[]⟩,mP 173 tS,⟨175,true,26,312,.struct,[(0,4,true),(4,8,true),(12,12,true),(24,1,false),(25,1,false)],some [iB,iB,bt,.bj,d0,d0,d0,d0,d0,bt,bt,bt,d0,bt,d0,d0,bt,bt,bt,bt,bt,bt,.bj,.bj,tS,tS],[]⟩,⟨180,false,1,8,eF,[],some [bt],[]⟩,⟨188,false,1,4,.int .u32,[],some [.int .u32 0],[]⟩,⟨193,true,13,160,.struct,[(0,12,true),(12,1,false)],some [d0,bt,d0,d0,bt,bt,bt,bt,bt,bt,.bj,.bj,bt],[]⟩,mP 194 zN,j1 195 194,⟨216,true,6,48,.struct,LV,some [bt,bt,bt,bt,bt,bt],[eF,eF,eF,eF,eF,eF]⟩,⟨219,false,1,1,.int .i8,[],some [.int .i8 0],[]⟩,j1 220 228,j1 221 251,j1 224 249,⟨226,true,5,56,.struct,LU,some [iB,.bj,bt,bt,bt],[]⟩,⟨228,true,6,64,.struct,LV,some [d0,d0,bt,bt,bt,iB],[.O,.O,eF,eF,eF,.bool]⟩,⟨230,true,8,80,.struct,Sk,some [d0,bt,bt,bt,bt,bt,bt,d0],[.O,eF,eF,eF,eF,eF,eF,.O]⟩,mP 231 zN,j1 232 269,⟨234,true,12,144,.struct,[(0,8,true),(8,1,false),(9,1,false),(10,1,false),(11,1,false)],some [d0,bt,bt,bt,bt,bt,bt,d0,bt,zN,.bj,.bj],[]⟩,j1 236 238,⟨238,true,3,40,.struct,Hx,some [d0,bt,d0],[.O,eF,.O]⟩,⟨244,true,14,128,.struct,acn,some [iB,bt,bt,bt,bt,bt,iB,d0,d0,iB,bt,bt,bt,iB],[.bool,eF,eF,eF,eF,eF,.bool,.O,.O,.bool,eF,eF,eF,.bool]⟩,j1 247 234,⟨249,true,5,64,.struct,LU,some [d0,bt,.bj,bt,bt],[]⟩,⟨251,true,7,56,.struct,acl,some [d0,d0,bt,bt,iB,iB,iB],[.O,.O,eF,eF,.bool,.bool,.bool]⟩,j1 256 320,j1 259 236,⟨269,true,2,16,.struct,zO,some [bt,bt],[eF,eF]⟩,mP 270 zN,j1 290 296,j1 291 358,⟨293,true,3,56,.struct,Hx,some [.bj,.bj,bt],[]⟩,⟨296,true,16,208,.struct,[(0,12,true),(12,1,false),(13,1,false),(14,1,false),(15,1,false)],some [d0,bt,d0,d0,bt,bt,bt,bt,bt,bt,.bj,.bj,d0,bt,.bj,bt],[]⟩,mP 298 tS,mP 299 tS,mP 300 wR,j1 303 310,⟨305,true,7,88,.struct,[(0,6,true),(6,1,false)],some [d0,d0,bt,bt,bt,iB,.bj],[]⟩,j1 306 305,mP 307 zN,⟨310,true,8,64,.struct,[(0,7,true),(7,1,false)],some [d0,d0,bt,bt,iB,iB,iB,bt],[]⟩,⟨320,true,3,32,.struct,Hx,some [d0,bt,bt],[.O,eF,eF]⟩,j1 332 21,⟨334,true,2,48,.struct,zO,some [.bj,.bj],[]⟩,⟨349,true,14,184,.struct,[(0,12,true),(12,1,false),(13,1,false)],some [d0,bt,d0,d0,bt,bt,bt,bt,bt,bt,.bj,.bj,d0,d0],[]⟩,⟨354,true,2,16,.struct,zO,some [bt,bt],[eF,eF]⟩,⟨356,true,9,48,.struct,[(0,1,false),(1,1,false),(2,1,false),(3,1,false),(4,1,false),(5,1,false),(6,2,true),(8,1,false)],some [d0,iB,iB,iB,iB,iB,bt,bt,bt],[]⟩,⟨358,true,5,40,.struct,LU,some [bt,bt,bt,bt,bt],[eF,eF,eF,eF,eF]⟩,⟨359,true,12,96,.array 12 3,[],some [bt,bt,bt,bt,bt,bt,bt,bt,bt,bt,bt,bt],[]⟩,⟨362,true,3,24,.array 3 3,[],some [bt,bt,bt],[]⟩,mP 367 tS,mP 390 zN,⟨393,true,256,256,.array 256 4,[],none,[]⟩,j1 426 390,⟨446,false,1,4,.int .i32,[],some [.int .i32 0],[]⟩]
theorem aM:df Tryz.prog ax:=df.u5 atB
theorem mixed:Tryz.prog.follows .mixedOrders=true:=by kernel_rfl
abbrev aco:=ax
theorem arl:df Tryz.prog aco:=aM
abbrev acp:=ax
theorem arm:df Tryz.prog acp:=aM
variable{q:Prop}{p:Prop}{α:Type}{f:FuncId}{body:Code}{ds:List D}{d:D}{a8:D->bE->Prop}
section
variable{B:World}{am:Nat}{U:b7 Tryz.prog B am}{id:Nat}{ops:Array Oper}{a b c:Code}{z:au}{K:cJ->au->Prop}
theorem kp(h:jD Tryz.prog B ax am ops ops.toList z (K .normal)):W U (.region id ops false) z K:=W.region aM h
theorem b4(h:jD Tryz.prog B ax am ops ops.toList z (zo U c K .normal)):W U (.seq (.region id ops false) c) z K:=W.seq (W.region aM h)
theorem el(h:W U a z (zo U b K)):W U (.seq a b) z K:=W.seq h
theorem nk(h:W U a z (zo U b (zo U c K))):W U (.seq (.seq a b) c) z K:=W.seq (W.seq h)
theorem co(h:K .normal z):W U .skip z K:=W.skip h
theorem Ei(h:K .ret z):W U .ret z K:=W.ret h
theorem oG(h:W U a z (G2 id K)):W U (.block id a) z K:=W.block h
theorem aK{o:Operand}(t:Bool)(hc:z.ba o=.bool t)(h1:t=true->W U a z K)(A:t=false->W U b z K):W U (.cond o a b) z K:=W.cond t hc h1 A
abbrev u(n:Int):D:=.int .i64 n
theorem cB{α:Sort _}{x:α}(h:q):x=x/\q:=⟨rfl,h⟩
theorem g2(h:q):(p->p)/\q:=⟨id,h⟩
theorem BG{r:Prop}(h:q):True/\(q\/r):=⟨trivial,.inl h⟩
theorem p0{r:Prop}(h:r):True/\(q\/r):=⟨trivial,.inr h⟩
theorem eb{α:Sort _}{x:α}{r:Prop}(h:q):x=x/\True/\(q\/r):=⟨rfl,trivial,.inl h⟩
theorem tT{α:Sort _}{x:α}{r:Prop}(h:r):x=x/\True/\(q\/r):=⟨rfl,trivial,.inr h⟩
theorem mf{r:Prop}(h:q):q\/r:=.inl h
theorem g5{r:Prop}(h:q)(k:p:=by intro _;first|(simp only[du];omega)|(simp[du];omega)|simp[du]):(p/\q)\/r:=.inl ⟨k,h⟩
theorem tU(h:q)(k:p:=by intro h0 h;exact ayg):p/\q:=⟨k,h⟩
theorem x4{α:Sort _}{cd:Prop}{bL bX:α->Prop}(y:α)(h:bX y)(k:cd->bL y:=by intro _;rfl):∃y,(cd->bL y)/\bX y:=⟨y,k,h⟩
theorem fY{α:Sort _}{bL bX:α->Prop}(y:α)(k:bX y:=by exact λ_ _ h=>h)(h:bL y:=by(repeat refine⟨.refl _,?_⟩);trivial):∃y,bL y/\bX y:=⟨y,h,k⟩
theorem Sl{eu:α->(Nat->Bool)->Prop}{S:α->(Nat->Bool)->Prop}{a8:Prop}(h:a8)(k:∀y f,eu y f->S y f:=by intro y f _;(conv=>whnf);refine BG ?_;(conv=>whnf);exact fY y):(∀y f,eu y f->S y f)/\a8:=⟨k,h⟩
theorem ar(h:p:=by(repeat refine⟨.refl _,?_⟩);trivial):p:=h
theorem bc(h:p:=by(repeat refine⟨rfl,?_⟩);trivial):p:=h
theorem nW(h:q)(k:p:=by intro _;first|(simp;omega)|simp):p/\q:=⟨k,h⟩
theorem bA{fn:Func}(M : Tryz.prog.funcs[f]?=some fn)(pY : fn.ntmps = am)(h : ∀U : b7 Tryz.prog B am,W U body (entry ds bE.none) (LA ax fn.results.toList d))(I : fn.body = some body := by rfl)(aw : (fn.name == "runtime.NumGoroutine") = false := by decide +kernel)(al : Nat.ble ds.length am = true := by rfl): mI Tryz.prog B f ds d := mI.intro aM M I aw pY al h
theorem jJ{fn:Func}{H:bE}(M : Tryz.prog.funcs[f]?=some fn)(pY : fn.ntmps = am)(h : ∀U : b7 Tryz.prog B am,W U body (entry ds H) (D8 ax fn.results.toList a8))(I : fn.body = some body := by rfl)(aw : (fn.name == "runtime.NumGoroutine") = false := by decide +kernel)(al : Nat.ble ds.length am = true := by rfl): c5 Tryz.prog B f ds H a8 := c5.intro aM M I aw pY al h
end
structure e1 (p:Prop):Prop where cr:p
section
variable{B:World}{am:Nat}
theorem cl(h:q)(f:e1 q->p:=by intro V;apply b4;(conv=>whnf);exact V.cr):p:=f ⟨h⟩
theorem eB(h:q)(f:e1 q->p:=by intro V;apply cB;(conv=>whnf);exact V.cr):p:=f ⟨h⟩
theorem k6(h:q)(f:e1 q->p:=by intro V;refine g5 ?_;(conv=>whnf);exact V.cr):p:=f ⟨h⟩
theorem o'(h:q)(f:e1 q->p:=by intro V;refine⟨trivial,?_⟩;(conv=>whnf);exact V.cr):p:=f ⟨h⟩
theorem iD(h:q)(f:e1 q->p:=by intro V;apply Ei;(conv=>whnf);exact V.cr):p:=f ⟨h⟩
theorem oH(h:q)(f:e1 q->p:=by intro V;apply el;refine W.u' aM mixed atB ?_;exact V.cr):p:=f ⟨h⟩
theorem tV(h:q)(f:e1 q->p:=by intro V;refine W.Hz aM ?_;apply eb;exact V.cr):p:=f ⟨h⟩
theorem p1(h:q)(f:e1 q->p:=by intro V;refine nW ?_;(conv=>whnf);exact V.cr):p:=f ⟨h⟩
theorem qF(h:q)(f:e1 q->p:=by intro V;(conv=>whnf);refine⟨rfl,_,_,rfl,rfl,.inr ⟨rfl,?_⟩⟩;exact V.cr):p:=f ⟨h⟩
theorem vf(h:q)(f:e1 q->p:=by intro V;apply el;refine W.D' aM ?_;exact V.cr):p:=f ⟨h⟩
theorem LW(h:q)(f:e1 q->p:=by intro V;refine⟨rfl,rfl,?_⟩;(conv=>whnf);exact V.cr):p:=f ⟨h⟩
theorem mQ(h:q)(f:e1 q->p:=by intro V;apply g2;(conv=>whnf);exact V.cr):p:=f ⟨h⟩
theorem gj(h:q)(f:e1 q->p:=by intro V;apply b4;refine iD ?_;exact V.cr):p:=f ⟨h⟩
theorem fg(h:q)(f:e1 q->p:=by intro V;apply co;(conv=>whnf);exact V.cr):p:=f ⟨h⟩
theorem LX(h:q)(f:e1 q->p:=by intro V;apply oG;refine cl ?_;exact V.cr):p:=f ⟨h⟩
theorem ib(h:q)(f:e1 q->p:=by intro V;apply g2;refine tU ?_;exact V.cr):p:=f ⟨h⟩
theorem gJ(h:q)(f:e1 q->p:=by intro V;apply el;refine LX ?_;exact V.cr):p:=f ⟨h⟩
theorem f_(h:q)(f:e1 q->p:=by intro V;apply el;apply b4;exact V.cr):p:=f ⟨h⟩
theorem p2(h:q)(f:e1 q->p:=by intro V;refine⟨_,.refl _,?_⟩;refine go ?_;exact V.cr):p:=f ⟨h⟩
theorem rH(h:q)(f:e1 q->p:=by intro V;refine⟨_,.refl _,?_⟩;(conv=>whnf);exact V.cr):p:=f ⟨h⟩
theorem hv(h:q)(f:e1 q->p:=by intro V;apply g2;refine mQ ?_;exact V.cr):p:=f ⟨h⟩
theorem nl(h:q)(f:e1 q->p:=by intro V;apply kp;refine k6 ?_;exact V.cr):p:=f ⟨h⟩
theorem ic(h:q)(f:e1 q->p:=by intro V;apply eb;(conv=>whnf);exact V.cr):p:=f ⟨h⟩
theorem mg(h:q)(f:e1 q->p:=by intro V;refine eB ?_;refine p1 ?_;exact V.cr):p:=f ⟨h⟩
theorem mR(h:q)(f:e1 q->p:=by intro V;refine nW ?_;refine go ?_;exact V.cr):p:=f ⟨h⟩
theorem qG(h:q)(f:e1 q->p:=by intro V;refine W.exit ?_;refine gj ?_;exact V.cr):p:=f ⟨h⟩
theorem nm(h:q)(f:e1 q->p:=by intro V;refine o' ?_;refine LW ?_;exact V.cr):p:=f ⟨h⟩
theorem vg(h:q)(f:e1 q->p:=by intro V;(conv=>whnf);refine⟨rfl,.inl ?_⟩;exact V.cr):p:=f ⟨h⟩
theorem sH(h:q)(f:e1 q->p:=by intro V;refine W.exit ?_;refine cl ?_;exact V.cr):p:=f ⟨h⟩
theorem k7(h:q)(f:e1 q->p:=by intro V;apply b4;refine eB ?_;exact V.cr):p:=f ⟨h⟩
theorem k8(h:q)(f:e1 q->p:=by intro V;apply BG;refine go ?_;exact V.cr):p:=f ⟨h⟩
theorem wS(h:q)(f:e1 q->p:=by intro V;refine Ej ?_;refine Go.bR.ck.vs ?_;exact V.cr):p:=f ⟨h⟩
theorem Ek(h:q)(f:e1 q->p:=by intro V;apply nk;refine W.u' aM mixed atB ?_;exact V.cr):p:=f ⟨h⟩
theorem mS(h:q)(f:e1 q->p:=by intro V;apply kp;(conv=>whnf);exact V.cr):p:=f ⟨h⟩
theorem qH(h:q)(f:e1 q->p:=by intro V;refine vf ?_;(conv=>whnf);exact V.cr):p:=f ⟨h⟩
theorem nn(h:q)(f:e1 q->p:=by intro V;refine f_ ?_;apply oG;exact V.cr):p:=f ⟨h⟩
theorem no(h:q)(f:e1 q->p:=by intro V;apply el;refine tV ?_;exact V.cr):p:=f ⟨h⟩
theorem nX(h:q)(f:e1 q->p:=by intro V;apply g2;refine ib ?_;exact V.cr):p:=f ⟨h⟩
theorem nY(h:q)(f:e1 q->p:=by intro V;apply mf;(conv=>whnf);exact V.cr):p:=f ⟨h⟩
theorem wT(h:q)(f:e1 q->p:=by intro V;refine W.exit ?_;(conv=>whnf);exact V.cr):p:=f ⟨h⟩
theorem iE(h:q)(f:e1 q->p:=by intro V;apply g2;apply cB;exact V.cr):p:=f ⟨h⟩
theorem iX(h:q)(f:e1 q->p:=by intro V;apply b4;apply cB;exact V.cr):p:=f ⟨h⟩
theorem pa(h:q)(f:e1 q->p:=by intro V;apply b4;refine cl ?_;exact V.cr):p:=f ⟨h⟩
theorem p3(h:q)(f:e1 q->p:=by intro V;apply el;refine cl ?_;exact V.cr):p:=f ⟨h⟩
theorem p4(h:q)(f:e1 q->p:=by intro V;refine f_ ?_;apply cB;exact V.cr):p:=f ⟨h⟩
theorem kq(h:q)(f:e1 q->p:=by intro V;apply el;apply oG;exact V.cr):p:=f ⟨h⟩
theorem vh(h:q)(f:e1 q->p:=by intro V;refine gJ ?_;refine p1 ?_;exact V.cr):p:=f ⟨h⟩
theorem vi(h:q)(f:e1 q->p:=by intro V;refine g5 ?_;refine k6 ?_;exact V.cr):p:=f ⟨h⟩
theorem rI(h:q)(f:e1 q->p:=by intro V;apply co;refine nl ?_;exact V.cr):p:=f ⟨h⟩
theorem x5(h:q)(f:e1 q->p:=by intro V;refine .inr ?_;refine go ?_;exact V.cr):p:=f ⟨h⟩
theorem wU(h:q)(f:e1 q->p:=by intro V;(conv=>whnf);refine p1 ?_;exact V.cr):p:=f ⟨h⟩
theorem LY(h:q)(f:e1 q->p:=by intro V;(conv=>whnf);refine⟨rfl,_,_,rfl,rfl,.inl ⟨rfl,.inl ?_⟩⟩;exact V.cr):p:=f ⟨h⟩
end
abbrev aU(B:World):=mI Tryz.prog B
abbrev c1(B:World):=c5 Tryz.prog B
theorem E(h:p:=by exact .refl _):p:=h
theorem ak:True:=trivial
structure np where
 name:atG
 target:atG
 deriving DecidableEq,Inhabited
structure ad where
 name:atG
 kind:Int
 dW:atG
 target:atG
 cN:Int
 n2:Int
 n3:Int
 n4:Int
 n5:Int
 n6:Int
 J:List ad
 bO:List np
 deriving Inhabited
def c4(s:np):D:=.agg [.O s.name,.O s.target]
mutual
def enc:ad->D
 |.mk a b c d e f g h i j ag cC=>.agg [.O a,.int .i64 b,.O c,.O d,.int .i64 e,.int .i64 f,.int .i64 g,.int .i64 h,.int .i64 i,.int .i64 j,.Q .none 12 (HA ag),.Q .none 2 (cC.map c4)]
def HA:List ad->List D
 |[]=>[]
 |n::r=>enc n::HA r
end
theorem Sm:∀l:List ad,HA l=l.map enc
 |[]=>rfl
 |n::r=>by simp only[HA,aui];rw[Sm r]
def aE(n:ad):D:=.agg [.O n.name,u n.kind,.O n.dW,.O n.target,u n.cN,u n.n2,u n.n3,u n.n4,u n.n5,u n.n6,.Q .none 12 (n.J.map enc),.Q .none 2 (n.bO.map c4)]
theorem rJ(n:ad):enc n=aE n:=by cases n with|mk a b c d e f g h i j ag cC=>simp only[enc,aE,Sm]
variable{B:World}{wV:Type}
section LZ
variable{a b:List α}{i:Nat}
theorem BH(f:α->wV)(h:i<a.length):(a.map f)[i]?=some (f a[i]):=by simp[h]
end LZ
theorem acq{p x:atG}(h:p.length<=x.length):(x.take p.length==p)=p.isPrefixOf x:=by rw[aws,avp,List.isPrefixOf_iff_prefix,List.prefix_iff_eq_take];exact eq_comm
theorem acr{p x:atG}(h:x.length<p.length):p.isPrefixOf x=false:=by rw[aww,ne_eq,List.isPrefixOf_iff_prefix];intro bB;have:=bB.length_le;omega
theorem acs(x p:atG):(bif decide ((p.length:Int)<=x.length)then(x.take (p.length:Int).toNat).drop (Int.toNat 0)==p else false)=p.isPrefixOf x:=by by_cases h:p.length<=x.length;(have bB:(p.length:Int)<=x.length:=by omega);simp only[bB,decide_true,avq,auj];rw[show Int.toNat 0=0 from rfl,List.drop_zero,acq h];(have bB:¬(p.length:Int)<=x.length:=by omega);simp only[bB,decide_false,auW];rw[acr atw]
theorem act(x p:atG):aU B 153 [.O x,.O p] (.bool (p.isPrefixOf x)):=by refine bA Tryz.func153 Tryz.ntmps153 λU=>?_;apply b4;apply b4;apply g2;refine hv ?_;refine⟨λh=>by simp at h⊢;omega,?_⟩;refine nX ?_;refine iD ?_;exact aq.of_eq (atJ D.bool (acs x p))
theorem acu(x p:atG):aU B 103 [.O x,.O p] (.bool (p.isPrefixOf x)):=by refine bA Tryz.func103 Tryz.ntmps103 λU=>?_;refine pa ?_;refine⟨_,_,λ_=>act x p,ar,?_⟩;refine iD ?_;exact E
theorem Sn(c:UInt8)(n:Nat)(h:n<256):((c.toNat:Int)==(n:Int))=(c==UInt8.ofNat n):=by rw[aws];simp only[avp];constructor;intro h1;apply UInt8.toNat.inj;simp;omega;intro h1;subst h1;simp;omega
def fd(p:α->Bool)(l:List α):Int:=match l.findIdx? p with|some i=>i|none=>-1
variable{i:Nat}
theorem zP{p:α->Bool}{l:List α}(hi:i<l.length)(ay:∀j (h:j<l.length),j<i->p l[j]=false)(h:p l[i]=true):fd p l=i:=by have:l.findIdx? p=some i:=avC.2 ⟨hi,h,λj aa=>by simp[ay j atw aa]⟩;rw[fd,this]
theorem zQ{p:α->Bool}{l:List α}(ay:∀j (h:j<l.length),p l[j]=false):fd p l=-1:=by(have:l.findIdx? p=none:=avU.2 λx F=>by obtain⟨j,aa,rfl⟩:=aur.1 F;exact ay j aa);rw[fd,this]
theorem El(p:α->Bool)(l:List α):decide (0<=fd p l)=l.any p:=by unfold fd;split;rename_i i h;obtain⟨hi,h1,_⟩:=avC.1 h;have:l.any p=true:=au_.2 ⟨l[i],atO hi,h1⟩;rw[this];simp;rename_i h;(have:l.any p=false:=by rw[aww];intro A;obtain⟨x,F,Bi⟩:=au_.1 A;have:=avU.1 h x F;simp_all);rw[this];simp
variable{v:Value}{hM k e:Nat}
theorem j2{n:Nat}(h:n=hM):some (aJ.own v n k e)=some (aJ.own v hM k e):=by rw[h]
variable{bo:Nat}{xs a':List D}
theorem aq.jK{s:Nat}(h:xs=a'):aq (.Q (.own s v) k xs) (.Q (.own bo v) k a'):=h ▸ aq.own s bo
section fz
variable{l:List α}
end fz
end Go.bR.ck

namespace Go.bR
open Go Go.RowKit
variable{P:Program}{B:World}{am:Nat}{ops:Array Oper}{α:Type}
def fN(g:Nat->Bool)(l:List Edge)(i:Nat):Nat->Bool:=λj=>_root_.cond (Nat.beq j i) false (wP g l j)
theorem W.scope{U:b7 P B am}{z:au}{K:cJ->au->Prop}{c:Code}(h:W U c z K):W U (.scope c) z K :=
 ⟨λa w C M=>wp_scope_straight (wp_mono (h.run a w C M) λe bw w' cF=>by
  obtain⟨c6,aA,aR,ao,hK,bN⟩:=cF;subst ao
  cases c6<;>exact⟨_,aA,aR,rfl,hK,bN⟩)⟩
def Em(ops:Array Oper)(j k:Nat):Bool:=match ops.toList[j]? with
 |some o=>o.after.toList.any λe=>Region.binds .any e&&Nat.beq e.on k
 |none=>false
def p5(ops:Array Oper)(f:Nat->Bool):Prop:=∀j k,Em ops j k=true->f j=true->f k=true
theorem p5.e2{f:Nat->Bool}(h:p5 ops f)(j k:Nat)(N:Em ops j k=true)(Y:f k=false):f j=false:=by cases aa:f j with|false=>rfl|true=>rw[h j k N aa]at Y;cases Y
theorem p5.n{f:Nat->Bool}(h:p5 ops f)(j k:Nat)(Y:f k=false:=by rfl)(N:Em ops j k=true:=by rfl):f j=false:=h.e2 j k N Y
theorem p5.o{ep:Nat->Bool}(h:p5 ops ep)(f:Nat->Bool)(j k:Nat)(Y:ep k=false:=by rfl)(N:Em ops j k=true:=by rfl)(e:f j=ep j:=by rfl):∃g:Nat->Bool,f=λi=>_root_.cond (Nat.beq i j) false (g i):=⟨f,funext λi=>by cases I:Nat.beq i j with|false=>rfl|true=>rw[avK I];exact e.trans (h.e2 j k N Y)⟩
variable{bg:Array Bool}{i:Nat}
theorem p5.set(h:p5 ops (ei bg)){o:Oper}(hi:i<bg.size)(ah:ops[i]?=some o)(lM:∀e∈o.after.toList,Region.binds .any e=true->bg.getD e.on false=true):p5 ops (ei (bg.setIfInBounds i true)):=by intro j k N aa;rw[Ef hi]at aa⊢;by_cases Y:k=i;subst Y;simp[hu];(have fH:Nat.beq k i=false:=by cases I:Nat.beq k i with|false=>rfl|true=>exact absurd (auc I) Y);rw[show hu (ei bg) i k=ei bg k by simp[hu,fH]];by_cases e9:j=i;subst e9;unfold Em at N;rw[show ops.toList[j]?=some o by simpa using ah]at N;obtain⟨e,ao,I⟩:=au_.1 N;obtain⟨mK,g0⟩:=Bool.and_eq_true_iff.1 I;have:=auc g0;subst this;exact lM e ao mK;(have gi:Nat.beq j i=false:=by cases I:Nat.beq j i with|false=>rfl|true=>exact absurd (auc I) e9);(have b9:hu (ei bg) i j=ei bg j:=by simp[hu,gi]);rw[b9]at aa;exact h j k N aa
def HB(P:Program)(B:World)(am:Nat)(ax:List bx)(all:Array Oper)(l:α->(Nat->Bool)->List (Nat×D))(hs:α->(Nat->Bool)->List (Nat×aJ)):List Oper->Nat->Prop
 |[],_=>True
 |o::r,i=>(∀x g,p5 all (fN g o.after.toList i)->D_ P B am ax (hf (l x (fN g o.after.toList i)) (hs x (fN g o.after.toList i))) o.dst o.op λaA=>∃b1,jC aA (l b1 (hu (fN g o.after.toList i) i))/\mJ aA (hs b1 (hu (fN g o.after.toList i) i)))/\HB P B am ax all l hs r (i+1)
theorem acv{ax:List bx}{all:Array Oper}{l:α->(Nat->Bool)->List (Nat×D)}{hs:α->(Nat->Bool)->List (Nat×aJ)}{r:List Oper}:∀{n:Nat},HB P B am ax all l hs r n->∀{i:Nat} {o:Oper},r[i]?=some o->∀x f,p5 all (fN f o.after.toList (n+i))->D_ P B am ax (hf (l x (fN f o.after.toList (n+i))) (hs x (fN f o.after.toList (n+i)))) o.dst o.op λaA=>∃b1,jC aA (l b1 (hu (fN f o.after.toList (n+i)) (n+i)))/\mJ aA (hs b1 (hu (fN f o.after.toList (n+i)) (n+i))):=by induction r with|nil=>intro n _ i o h;simp at h|cons x r aZ =>intro n h i o ah y f;exact axo
theorem So{ax:List bx}(hT:df P ax){U:b7 P B am}{a8:au->Prop}{Q':Exit->Act->World->Prop}(f7:∀z a w C,bH U w C z a->a8 z->Q' .normal a w)(ay:BD am ops.toList 0=true)(l:α->(Nat->Bool)->List (Nat×D))(hs:α->(Nat->Bool)->List (Nat×aJ))(pb:∀x f,(∀i,i<ops.size->f i=true)->a8 (hf (l x f) (hs x f)))(step:HB P B am ax ops l hs ops.toList 0): ∀(n:Nat) (x:α) (bg:Array Bool) (a:Act) (w:World) (C:Nat->Nat),bg.size=ops.size->bg.toList.count false=n->bH U w C (hf (l x (ei bg)) (hs x (ei bg))) a->p5 ops (ei bg)->wpAny P .any ops Q' n bg a w
 |0,x,bg,a,w,C,hsz,hc,M,bi=>by(have ht:∀i,i<ops.size->ei bg i=true:=λi hi=>axp);refine⟨?_,f7 _ _ _ _ M (pb _ _ ht)⟩;cases ae:Region.ready .any ops bg with|nil=>rfl|cons i r =>obtain⟨o,ah,hi,h1,_⟩:=BE (ae ▸ atU:i∈Region.ready .any ops bg);have A:=ht i hi;(have bf:i<bg.size:=by omega);simp only[ei,Array.getD,bf,avw]at h1 A;rw[h1]at A;cases A
 |n+1,x,bg,a,w,C,hsz,hc,M,bi=>by(have qI:0<bg.toList.count false:=by omega);have lG:=av9.1 qI;obtain⟨i,hi,I⟩:=List.getElem_of_mem lG;(have lN:i<bg.size:=by simpa using hi);have a7:Region.ready .any ops bg≠[]:=acg ay hsz i i rfl atw (ayd);refine⟨λe=>absurd e a7,λi hi=>?_⟩;obtain⟨o,ah,Sp,qJ,lM⟩:=BE hi;obtain⟨aW,N,_⟩:=Sd ay (i:=i) (o:=o) (by simpa using ah);have G:=acv step (i:=i) (o:=o) (by simpa using ah) x (ei bg);rw[auu]at G;(have o2:fN (ei bg) o.after.toList i=ei bg:=axk);rw[o2]at G;have G:=G bi;unfold wpOp;simp only[ah];rw[atI (by simp[Region.wanted,aW])];refine .inl (Oper.wp_mono (λbw w' cF=>?_) (Sb hT M aW N G Q'));obtain⟨aA,aR,⟨b1,h1,A⟩,Z⟩:=cF;(have mh:i<bg.size:=by omega);rw[<-Ef mh]at h1 A;refine So hT f7 ay l hs pb step n b1 _ bw w' aR (by simpa using hsz) ?_ (Z.G3 h1 A) (bi.set mh ah lM);exact axb
variable{U:b7 P B am}{id:Nat}{z:au}{K:cJ->au->Prop}
theorem W.acw{ax:List bx}(hT:df P ax)(hm:P.follows .mixedOrders=true)
  (l:α->(Nat->Bool)->List (Nat×D)) (hs:α->(Nat->Bool)->List (Nat×aJ)) (ay:BD am ops.toList 0=true) (ek:α)
  (h1:jC z (l ek λ_=>false)) (A:mJ z (hs ek λ_=>false)) (step:HB P B am ax ops l hs ops.toList 0)
  (pb:∀x f,(∀i,i<ops.size->f i=true)->K .normal (hf (l x f) (hs x f))) :
  W U (.region id ops true) z K :=
 ⟨λa w C M=>wp_region_any hm (by
  have e:ei (Array.replicate ops.size false)=λ_=>false:=by
   funext i
   simp only[ei,Array.getD];split<;>simp
  exact So hT (U:=U) (a8:=K .normal) (λz a w C bN hK=>⟨.normal,z,C,rfl,hK,bN⟩) ay l hs pb step _ ek _ _ _ C aty aty (by rw[e];exact M.drew.G3 h1 A) (by rw[e];exact λj k _ h=>by cases h))⟩
def En(P:Program)(B:World)(ax:List bx)(am:Nat)(ops:Array Oper):List Oper->au->(au->Prop)->Prop
 |[],z,K=>K z
 |⟨dst,op,_,_,_,guard⟩::rest,z,K=>iQ am dst=true/\(match guard with
  |none=>True
  |some (j,iz)=>∃g,(ops[j]?).bind (·.dst)=some g/\z.t g=.bool iz)/\
  ((nO P B ax z dst op λaA=>En P B ax am ops rest aA K)\/af P B am z dst op λaA=>En P B ax am ops rest aA K)
theorem Sq{ax:List bx}(hT:df P ax){U:b7 P B am}{ops:Array Oper}{a8:Exit->Act->World->Prop}{K:au->Prop}(f7:∀aA bw w' aR,K aA->bH U w' aR aA bw->a8 .normal bw w'): ∀{l:List Oper} {z:au} (_:En P B ax am ops l z K) {a:Act} {w:World} {C:Nat->Nat} (_:bH U w C z a),wpList P ops a8 l a w
 |[],_,G,_,_,_,M=>f7 _ _ _ _ G M
 |o::rest,z,G,a,w,C,M=>by obtain⟨N,aW,G⟩:=G;(have next:∀bw w',(∃aA aR,En P B ax am ops rest aA K/\bH U w' aR aA bw)->wpList P ops a8 rest bw w':=λbw w' ⟨aA,aR,h1,A⟩=>Sq hT f7 h1 A);(have cz:Region.wanted o (yielded ops a.tmps)=true:=axn);unfold wpList;rw[atI cz];rcases G with G|G;(·exact .inl (Oper.wp_mono next (tL hT M N G a8)));obtain⟨dst,op,type,pos,after,guard⟩:=o;exact .inl (Oper.wp_mono next (G.run U w C a M N type pos after a8))
theorem W.Hz{ax:List bx}(hT:df P ax)(G:En P B ax am ops ops.toList z (K .normal)):W U (.region id ops false) z K :=
 ⟨λ_ _ _ M=>wp_region_list (Sq hT (λaA _ _ aR hK bN=>⟨.normal,aA,aR,rfl,hK,bN⟩) G M)⟩
variable{dst:Option Tmp}{sI qK j3:Operand}{gR a2 a3:Int}
theorem af.acx{K:au->Prop}{t e:TypeId}{i:TypeInfo}{q:IntKind}(an:P.underlying t=some (.array 3 e))(hi:P.info? e=some i)(hsz:i.size=1)
  (bC:∀w,(zeroValue t).run P w=.ok (.agg #[.int q 0,.int q 0,.int q 0]) w) (h0:z.ba sI=.int q gR) (h1:z.ba qK=.int q a2) (A:z.ba j3=.int q a3)
  (hK:K (z.put dst (.agg [.int q gR,.int q a2,.int q a3]))):af P B am z dst (.build t #[(0,sI),(1,qK),(2,j3)]) K :=
 .val λU w C a M type pos after=>by
  have v0:=cG M.tmps sI;rw[h0]at v0
  have jk:=cG M.tmps qK;rw[h1]at jk
  have v2:=cG M.tmps j3;rw[A]at v2
  refine⟨.agg #[.int q gR,.int q a2,.int q a3],w,C,z,_,?_,M,.agg [.int q gR,.int q a2,.int q a3] [.int q gR,.int q a2,.int q a3] rfl (λj d v N X=>?_),hK⟩
  ·simp[execOp,v0.fw,jk.fw,v2.fw,Instr.build,bC,run_underlying an,zx hi,hsz,Result.andThen,Instr.fill,Value.cells]
  match j with
  |0=>cases N;cases X;exact .int _ _
  |1=>cases N;cases X;exact .int _ _
  |2=>cases N;cases X;exact .int _ _
  |j+3=>simp at N
variable{C:Nat->Nat}{a:Act}{w:World}{v:Value}{xs:List D}{k e:Nat}
theorem bH.commit(M:bH U w C z a)(s:Nat)(hs:z.H s=some (.row v xs k e))(aA:au)(av:∀w C,bh w C (.Q (.own s v) k xs) v->∀j aj,bh w C (z.t j) aj->bh w C (aA.t j) aj)(cF:∀j o,aA.H j=some o->(j=s/\o=.own v xs.length k e)\/(j≠s/\z.H j=some o)): ∃aR,bh w aR (.Q (.own s v) k xs) v/\bH U w aR aA a:=by obtain⟨bw,cap,X,hc,hm,Y,eW,cz⟩:=M.heap.cj s _ hs;by_cases h0:0<cap;obtain⟨b,vs,rfl,I,hsz,de,ae⟩:=cz h0;have e8:aJ.ef (.row v xs k e) b:=⟨_,cap,X,h0⟩;have ji:nN w C w (gv C b (xs.length*k)):=⟨atQ _,λx _=>Ec C b _ atw x,λ_ _ _ _=>rfl⟩;have a6:c_ (λx=>x=b) w C w (gv C b (xs.length*k)):=⟨ji,rfl,rfl,rfl,λx _ F=>⟨rfl,rx _ _ F⟩⟩;(have dF:bh w (gv C b (xs.length*k)) (.Q (.own s v) k xs) v:=by have:=xU (w:=w) (C:=gv C b (xs.length*k)) (tg:=.own s v) (k:=k) (xs:=xs) (vs:=vs.toList) (b:=b) (e:=e) (kj:=(0,0)) (cap:=cap) I Y hc hm (by rw[hr];exact atQ _) (λj d N=>axU) X.symm;rw[X]at this⊢;exact this);refine⟨gv C b (xs.length*k),dF,⟨λj=>av _ _ dF j _ ((M.tmps j).ext ji),⟨λj o ah=>?_,λj ex o bM x a7 h1 A an cV=>?_,λj o x ah an=>?_⟩,M.size,M.defers,?_⟩⟩;rcases cF j o ah with⟨rfl,rfl⟩|⟨aa,ah⟩;exact⟨_,cap,X,hc,hm,λ_=>⟨b,vs,rfl,I,hsz,hr _ _ _⟩⟩;exact(M.heap.cj j o ah).ix ji λx F=>⟨rfl,rx _ _ λe=>by subst e;exact M.heap.inj j s o _ x aa ah hs F e8⟩;(have key:∀j o,aA.H j=some o->o.ef x->∃dn,z.H j=some dn/\dn.ef x:=λj o ah an=>by rcases cF j o ah with⟨rfl,rfl⟩|⟨_,ah⟩;obtain⟨bM,hP,Z,aG⟩:=an;rw[X]at Z;have:=o8 Z;subst this;exact⟨_,hs,e8⟩;exact⟨o,ah,an⟩);obtain⟨dn,Z,aG⟩:=key j o h1 an;obtain⟨lK,bb,cL⟩:=key ex bM A cV;exact M.heap.inj j ex dn lK x a7 Z bb aG cL;rcases cF j o ah with⟨rfl,rfl⟩|⟨_,ah⟩;obtain⟨bM,hP,Z,aG⟩:=an;rw[X]at Z;have:=o8 Z;subst this;exact M.heap.cI _ _ _ hs e8;exact M.heap.cI j o x ah an;refine M.step.trans a6 λx F wO=>?_;subst wO;rcases M.heap.cI s _ _ hs e8 with h1|h1;exact h1;omega;have F:xs=[]:=atZ atw;subst F;(have hcap:cap=0:=by omega);subst hcap;(have dF:bh w C (.Q (.own s v) k []) v:=by cases bw with|none=>rw[X];exact .iP _ _ none rfl|some dE =>obtain⟨b,rfl,I⟩:=eW dE rfl;rw[X];exact .Q _ _ [] b 0 0 (λ_=>undef) rfl I (atQ _) (at4 _) (λx F=>by cases F) aty (λj d N=>by simp[b2]at N) (λj d N=>by simp[b2]at N) (λj d N=>by simp[b2]at N));(have tN:∀j o x,aA.H j=some o->o.ef x->j≠s/\z.H j=some o:=λj o x ah an=>by rcases cF j o ah with⟨rfl,rfl⟩|A;obtain⟨bM,hP,Z,aG⟩:=an;rw[X]at Z;simp only[Value.slice.injEq]at Z;simp at aG;omega;exact A);refine⟨C,dF,⟨λj=>av _ _ dF j _ (M.tmps j),⟨λj o ah=>?_,λj ex o bM x a7 h1 A an cV=>?_,λj o x ah an=>?_⟩,M.size,M.defers,M.step⟩⟩;rcases cF j o ah with⟨rfl,rfl⟩|⟨aa,ah⟩;exact⟨_,0,X,atQ _,at4 _,λh=>absurd h aty⟩;exact M.heap.cj j o ah;exact M.heap.inj j ex o bM x a7 (tN j o x h1 an).2 (tN ex bM x A cV).2 an cV;exact M.heap.cI j o x (tN j o x ah an).2 an
variable{c:Code}{aB:List D}{b:Nat}
theorem W.HC(s q i:Nat)(hs:z.H s=some (.row v xs k e))(G:z.H q=some (.box b aB))(Eo:q≠s)(hi:aB[i]?=some (.ai v))
  (h:W U c ((z.bZ s none).bZ q (some (.box b (iy aB i (.Q .none k xs))))) K):W U c z K :=
 ⟨λa w C M=>by
  obtain⟨aR,dF,fI⟩:=M.commit s hs (z.bZ s none) (λw C _ j aj ae=>ae) (λj o ah=>by
   by_cases aa:j=s
   ·subst aa;rw[pT]at ah;cases ah
   rw[k5 z none aa]at ah;exact .inr ⟨aa,ah⟩)
  have sz:(z.bZ s none).H q=some (.box b aB):=by rw[k5 z none Eo];exact G
  exact h.run a w aR (fI.Hu q sz λdk ae=>c'.cell ae λaj an=>(c'.Se ae hi an) ▸ dF.iw)⟩
theorem W.BI(s j:Nat)(x:D)(aa:z.t j=.box s b 0)(hs:z.H s=some (.box b aB))(F:x.cells=aB)(ee:aB.all D.one=true)
  (h:W U c {t:=λi=>_root_.cond (Nat.beq i j) (.a_ aB.length [x] 0 0) (z.t i),H:=λi=>_root_.cond (Nat.beq i s) none (z.H i)} K) (ay:∀(w:World) (C:Nat->Nat) v,bh w C (.box s b 0) v->v=.pointer (some ⟨b,0,none⟩):=by intro w C v h;cases h;rfl):W U c z K :=
 ⟨λa w C M=>by
  obtain⟨vs,e,h1,A,Z⟩:=M.heap.cj s _ hs;have ji:nN w C w (gv C b aB.length):=⟨atQ _,λx _=>Ec C b _ atw x,λ_ _ _ _=>rfl⟩;have a6:c_ (λx=>x=b) w C w (gv C b aB.length):=⟨ji,rfl,rfl,rfl,λx _ F=>⟨rfl,rx _ _ F⟩⟩
  have fI:bH U w (gv C b aB.length) (z.bZ s none) a:=M.bZ a6 (λx F=>by subst F;exact M.heap.cI s _ x hs rfl)
   (λbo o x a7 ah an F=>ax2) (λx F=>by cases F)
  have oI:=A.ext ji
  have dF:bh w (gv C b aB.length) (.Q .none aB.length [x]) (.slice (some ⟨b,0,none⟩) 1 1) :=
   xU (xs:=[x]) (vs:=vs) (kj:=(0,0)) (e:=e) h1 (λy hy=>by rw[auv.1 hy,F]) (atQ _) atz (by rw[hr];simp) (λi d N=>by
    have hg:aB[i]?=some d:=by simpa[b2,F]using N
    obtain⟨aj,an⟩:=lE (l:=vs) (i:=i) (by rw[<-A.1];exact e7 hg)
    exact⟨aj,an,oI.2 i d aj hg an,A.one ee aj (auf.2 ⟨i,an⟩)⟩) trivial
  refine h.run a w _ ⟨λi=>?_,⟨λi o ah=>?_,λi hh o bM y a7 ha I=>?_,λi o y ah=>?_⟩,fI.size,fI.defers,fI.step⟩
  ·show bh _ _ (_root_.cond (Nat.beq i j) _ _) _
   cases hi:Nat.beq i j with
   |false=>exact fI.tmps i
   |true =>
    have:=auc hi;subst this
    have bb:=M.tmps i;rw[aa]at bb;rw[ay _ _ _ bb];have:=bh.a_ aB.length [x] 0 0 b 0 1 dF;simpa using this
  ·refine fI.heap.cj i o ?_;exact ah
  ·exact fI.heap.inj i hh o bM y a7 ha I
  exact fI.heap.cI i o y ah⟩
variable{x:Operand}
theorem af.L0{K:au->Prop}{off:Nat}(F:z.ba x=.a_ k xs i off)(hK:K (z.put dst (.a_ k xs i off))):af P B am z dst (.nilCheck x) K :=
 .val λU w C a M type pos after=>by
  have X:=cG M.tmps x;rw[F]at X
  refine⟨a.eval x,w,C,z,_,?_,M,X,hK⟩
  have key:∃dE,a.eval x=.pointer (some dE):=by
   generalize a.eval x=aj at X
   cases X with
   |a_ k xs i off b o cap h=>exact⟨_,rfl⟩
  obtain⟨dE,h⟩:=key;simp only[execOp,h,Sem.run_pure]
variable{rt:TypeId}
theorem af.acy{K:au->Prop}{t cc:TypeId}{off:Nat}(ay:P.underlying t=some (.pointer cc))(F:z.ba x=.a_ k xs i off)(hK:K (z.put dst (.bool false))):af P B am z dst (.binOp .eql t x (.const (.pointer none)) rt) K :=
 .val λU w C a M type pos after=>by
  have X:=cG M.tmps x;rw[F]at X
  have key:∃dE,a.eval x=.pointer (some dE):=by
   generalize a.eval x=aj at X
   cases X with
   |a_ k xs i off b o cap h=>exact⟨_,rfl⟩
  obtain⟨dE,h⟩:=key;refine⟨.bool false,w,C,z,_,?_,M,.bool _,hK⟩;have eV:a.eval (.const (.pointer none))=.pointer none:=rfl;have aG:=zw (P:=P) .eql t x (.const (.pointer none)) (.pointer (some dE)) (.pointer none) w aty aty
  have cL:(binOp .eql t (.pointer (some dE)) (.pointer none)).run P w=.ok (.bool false) w:=by
   have h:∀d:Nat,(Op.equalIn (d+1) t (.pointer (some dE)) (.pointer none)).run P w=.ok false w:=λd=>by
    simp[Op.equalIn,run_underlying ay]
   simp only[binOp];simp[Op.equal,Op.maxDepth,h 9999]
  simp only[execOp,h,eV,Sem.run_bind,aG,cL,Result.andThen_ok,Sem.run_pure]
theorem af.acz{K:au->Prop}{t cc:TypeId}(ay:P.underlying t=some (.pointer cc))(F:z.ba x=.ai (.pointer none))(hK:K (z.put dst (.bool true))):af P B am z dst (.binOp .eql t x (.const (.pointer none)) rt) K :=
 .val λU w C a M type pos after=>by
  have X:=cG M.tmps x;rw[F]at X
  have h:a.eval x=.pointer none:=by
   generalize a.eval x=aj at X;cases X;rfl
  refine⟨.bool true,w,C,z,_,?_,M,.bool _,hK⟩;have eV:a.eval (.const (.pointer none))=.pointer none:=rfl;have aG:=zw (P:=P) .eql t x (.const (.pointer none)) (.pointer none) (.pointer none) w aty aty
  have cL:(binOp .eql t (.pointer none) (.pointer none)).run P w=.ok (.bool true) w:=by
   have h:∀d:Nat,(Op.equalIn (d+1) t (.pointer none) (.pointer none)).run P w=.ok true w:=λd=>by
    simp[Op.equalIn,run_underlying ay]
   simp only[binOp];simp[Op.equal,Op.maxDepth,h 9999]
  simp only[execOp,h,eV,Sem.run_bind,aG,cL,Result.andThen_ok,Sem.run_pure]
variable{K:au->Prop}{ax:List bx}{j:Nat}{d:D}
theorem acA(Y:∀x∈xs,x.cells.length=k)(hi:xs[i]?=some (.agg aB))(aa:j<k)(m:Nat): (b2 (xs.set i (.agg (iy aB j d))))[m]?=if m=i*k+j then some d else(b2 xs)[m]?:=by have ce:=e7 hi;have hcs:aB.length=k:=Y _ (at1 hi);(have hy:(D.agg (iy aB j d)).cells.length=k:=by show(iy aB j d).length=k;rw[Lb,hcs]);have dm:=pI Y;(have dO:i*k+k<=xs.length*k:=by rw[<-avS];exact avi k ce);rw[Hp Y ce hy,pU _ _ _ (by rw[dm,hy];exact dO)];by_cases h:i*k<=m/\m<i*k+k;rw[atI ⟨h.1,by rw[hy];exact h.2,by omega⟩];show(iy aB j d)[m-i*k]?=_;rw[Lc];have A:=wH Y hi (j:=m-i*k) atw;rw[show i*k+(m-i*k)=m by omega]at A;by_cases e:m=i*k+j;rw[atI ⟨by omega,by omega⟩,atI e];rw[atH atw,atH e,A];rfl;rw[atH (λcF=>h ⟨cF.1,by have:=cF.2.1;rw[hy]at this;exact this⟩),atH atw]
variable{t:Nat}{cc:bx}
theorem af.jl(hT:df P ax){f:Nat}(s:Nat){m o aC:Nat}{l7:Bool}(F:z.ba x=.ai (hW v m))(hs:z.H s=some (.row v xs k e))(hi:i<xs.length)
  (av:dx ax t=some cc) (b6:cc.kind=.struct) (h8:cc.oZ[f]?=some (o,aC,l7)) (hsz:aC≠0) (hK:K (z.put dst (.ai (hW v (m+o))))):af P B am z dst (.fieldAddr t x f) K :=
 .val λU w C a M type pos after=>by
  obtain⟨c2,rfl⟩:=hT.get av;have X:=cG M.tmps x;rw[F]at X
  obtain⟨b,cap,vs,rfl,_⟩:=kf.pos (i:=i) (M.heap.cj s _ hs) hi;obtain⟨az,l8,tE,_⟩:=c2.Bh b6;obtain⟨gH,dm,xS,⟨qy,DJ,DK⟩,_,_⟩:=G' tE h8;have Bj:az[f]?=some gH:=by simpa using dm
  refine⟨_,w,C,z,_,?_,M,.ai _,hK⟩;simp[execOp,X.f4,hW,Instr.fieldAt,run_underlying l8,Bj,Instr.sureAddr,fieldPlace,zx DJ,DK,hsz,xS,o0]
variable{y:Operand}
theorem af.vj(hT:df P ax)(s:Nat)(F:z.ba x=.ai (hW v (i*k+j)))(hs:z.H s=some (.row v xs k e))(av:dx ax t=some cc)(hsz:cc.aC=1)
  (hi:xs[i]?=some (.agg aB)) (aa:j<k) (ah:(z.ba y).one=true) (hK:K ((z.bZ s (some (.row v (xs.set i (.agg (iy aB j (z.ba y)))) k e))).put dst .undef)):af P B am z dst (.store t x y) K :=
 .unit λU w C a M type pos after=>by
  obtain⟨c2,rfl⟩:=hT.get av;have ce:=e7 hi;have X:=cG M.tmps x;rw[F]at X
  have hy:=cG M.tmps y;obtain⟨h1,A⟩:=hy.oz ah;obtain⟨b,cap,vs,rfl,hc,hm,Y,I,fy,de,ae⟩:=kf.pos (M.heap.cj s _ hs) ce;have dO:i*k+k<=cap*k:=by rw[<-avS];exact avi k (auz ce hc)
  have hS:i*k+j+0+(a.eval y).cells.toList.length<=vs.size:=by rw[h1,fy];simp;omega
  have cY:=run_storeCells_at P b (i*k+j) e (a.eval y).cells.toList 0 vs w I hS (by rw[h1];simpa using A);simp only[av']at cY;have a6:=c_.setRow (C:=C) (n:=0) I (aB:=(vs.toList.take (i*k+j)++(a.eval y).cells.toList++vs.toList.drop (i*k+j+(a.eval y).cells.toList.length)).toArray) atw (λo ah=>by omega);have e8:aJ.ef (.row (.slice (some ⟨b,0,none⟩) xs.length cap) xs k e) b:=⟨_,cap,rfl,by omega⟩;refine⟨_,_,_,?_,M.bZ a6 (s:=s) (λx F=>ayu) (λbo bM eo a7 c7 an nQ=>?_) λV bC=>?_,hK⟩
  ·simp only[hW,auu]at X;simp only[execOp,X.f4,Instr.storeAt,Instr.sureAddr,Sem.run_bind,Sem.run_pure,Result.andThen_ok,storeVar,c2.size,hsz,h1];rw[h1]at cY;rw[atH aty];exact(atJ (λr=>Result.andThen r λ_ w'=>Result.ok Next.skip w') cY).trans rfl
  ·subst nQ;exact M.heap.inj bo s bM _ eo a7 c7 hs an e8
  cases bC
  refine⟨⟨_,cap,by rw[avd],by simpa using hc,hm,λV bC=>?_,λdE gb=>⟨b,by cases gb;rfl,by simpa using hD I⟩,λ_=>⟨b,_,rfl,setRow_heap w b _ _ e _ I,?_,hr _ _ _,λm d N=>?_⟩⟩,λx F=>?_⟩
  ·rcases avV bC with bC|rfl
   ·exact Y V bC
   show(iy aB j (z.ba y)).length=k;rw[Lb];exact Y _ (at1 hi)
  ·simp only[auI,atP,at7,auV,avx,h1];simp;omega
  ·rw[acA Y hi aa]at N;rw[avA,pU _ _ _ (by simpa using hS)];have ko:(a.eval y).cells.toList.length=1:=by rw[h1];rfl
   rw[ko];by_cases tW:m=i*k+j
   ·rw[atI tW]at N;simp only[aus]at N;subst N;rw[atI ⟨by omega,by omega,by simp;omega⟩,tW,awx];exact⟨a.eval y,by rw[h1];rfl,hy.ext (by rw[ko]at a6;exact a6.ext),A⟩
   rw[atH tW]at N;rw[atH atw];obtain⟨aj,Z,aG,bb⟩:=ae m d N;exact⟨aj,by simpa using Z,aG.ext (by rw[ko]at a6;exact a6.ext),bb⟩
  obtain⟨hM,hP,dP,_⟩:=F;simp only[Value.slice.injEq,aus,Addr.mk.injEq]at dP;obtain⟨⟨rfl,_⟩,_⟩:=dP;exact⟨M.heap.cI s _ _ hs e8,.inl rfl⟩
variable{aF:bx}
theorem Sr{e:bx}(ao:e.gh P)(ki:aF.gh P)(b6:e.kind=.slice aF.t)(bC:aF.zero.isSome=true)(h0:0<aF.aC){n:Nat}(aw:n*aF.aC<=16777216){ds:List (Nat×D)}(sy:ds.length=n)(dF:tC aF.aC 0 ds){vs:List (Nat×Value)}(h1:vs.map (·.1)=ds.map (·.1))(A:c' w C (ds.map (·.2)) (vs.map (·.2))): ∃dk:List Value,(Instr.buildSlice e.t n ⟨vs⟩).run P w=.ok (.slice (some ⟨w.heap.size,0,none⟩) n n) (w.alloc (.cells dk.toArray aF.t))/\dk.length=n*aF.aC/\(∀x∈ds.map (·.2),x.cells.length=aF.aC)/\∀(j:Nat) d,(b2 (ds.map (·.2)))[j]?=some d->∃aj,dk[j]?=some aj/\bh w C d aj/\aj.oneCell'=true:=by obtain⟨V,bC⟩:=avB.1 bC;obtain⟨i,hi,hs,_,nd⟩:=ki.qx;obtain⟨eh,lF,l_,jF⟩:=nd V bC;obtain⟨tG,hcells⟩:=Ld dF;have an:=ao.kg b6;(have o1:vs.length=n:=by have:=A.1;simp only[atL]at this;omega);(have fy:vs=((vs.map (·.2)).zipIdx 0).map λx=>(x.2,x.1):=axh);(have hsz:∀(j:Nat) d v,(ds.map (·.2))[j]?=some d->(vs.map (·.2))[j]?=some v->d.cells.length=aF.aC/\v.cells.size=aF.aC/\c' w C d.cells v.cells.toList/\∀aj∈v.cells.toList,aj.oneCell'=true:=axy);(have lG:∀v∈vs.map (·.2),v.cells.size=aF.aC:=axs);have DP:=Great.fill_whole h0 (vs.map (·.2)) ((Array.range (n*aF.aC)).map (eh.cells[·%eh.cells.size]!)) lG (by simp only[atL,o1,Array.size_map,Array.size_range]);rw[<-fy]at DP;(have cY:(Instr.buildSlice e.t n ⟨vs⟩).run P w=.ok (.slice (some ⟨w.heap.size,0,none⟩) n n) (w.alloc (.cells ((vs.map (·.2)).flatMap λv=>v.cells.toList).toArray aF.t)):=axd);(have al:(ds.map (·.2)).length=n:=by simpa using sy);(have Y:∀x∈ds.map (·.2),x.cells.length=aF.aC:=axt);have dm:=Le (w:=w) (C:=C) (ds:=ds.map (·.2)) (vs:=vs.map (·.2)) A.1 (λi d v N X=>(hsz i d v N X).2.2.1);refine⟨_,cY,?_,Y,λj d N=>?_⟩;rw[<-dm.1];show(b2 _).length=_;rw[pI Y,al];exact axg
variable{bU:Array (Nat×Operand)}
theorem af.Ss(hT:df P ax){bI n s q:Nat}(av:dx ax t=some cc)(b6:cc.kind=.slice bI)(fq:dx ax bI=some aF)(Z:Nat.ble (n*aF.aC) 16777216=true)(aG:Nat.blt 0 aF.aC=true)(bb:aF.zero.isSome=true)
  (G:zv true z bU.toList λds=>ds.length=n/\tC aF.aC 0 ds/\∀v,K ((z.bZ q (some (.row v (ds.map (·.2)) aF.aC bI))).put (some s) (.ai v))):af P B am z (some s) (.buildSlice t n bU) K :=
 .val λU w C a M type pos after=>by
  obtain⟨c2,rfl⟩:=hT.get av;obtain⟨fo,rfl⟩:=hT.get fq;obtain⟨ds,⟨sy,dF,hK⟩,tG,pQ⟩:=DN G;have cL:=pQ rfl w C a.eval (λx F=>cG M.tmps x.2)
  obtain⟨dk,cY,zS,Y,ae⟩:=Sr (P:=P) c2 fo b6 bb (auz (auy _) (aul aG)) (aul Z) sy dF
   (w:=w) (C:=C) (vs:=(bU.map λ(i,x)=>(i,a.eval x)).toList) (by simp[tG]) (by simpa[awd]using cL)
  have al:(ds.map (·.2)).length=n:=by simpa using sy
  have a6:=c_.alloc (λ_=>False) w C (.cells dk.toArray aF.t) 0;refine⟨_,_,_,_,_,?_,M.newObj q (mN:=.row (.slice (some ⟨w.heap.size,0,none⟩) n n) (ds.map (·.2)) aF.aC aF.t) (o:=.cells dk.toArray aF.t) ?_ ?_,.ai _,hK _⟩
  ·simp only[execOp];rw[Sem.run_bind,cY];rfl
  ·refine⟨_,n,by rw[al],by omega,?_,Y,λdE gb=>⟨_,by cases gb;rfl,hD (kH w _)⟩,λ_=>⟨w.heap.size,_,rfl,kH w _,by simpa using zS,hr _ _ _,λj d N=>?_⟩⟩
   ·simp only[maxLen];have eV:=aul Z;have fZ:n<=n*aF.aC:=awO n (auz (auy _) (aul aG));omega
   obtain⟨aj,eV,fZ,hw⟩:=ae j d N;exact⟨aj,by simpa using eV,fZ.ext a6.ext,hw⟩
  rintro b ⟨hM,cap,h,_⟩;exact o8 h
theorem dN.get:∀{wE aS:List D},dN wE aS->wE.length=aS.length/\∀(j:Nat) d',aS[j]?=some d'->∃d,wE[j]?=some d/\aq d d'
 |[],[],_=>⟨rfl,λj d' h=>by simp at h⟩
 |a::r,b::s,h=>by obtain⟨h1,A⟩:=dN.get h.2;refine⟨by simp[h1],λj d' N=>?_⟩;cases j with|zero=>cases N;exact⟨a,rfl,h.1⟩|succ j=>exact A j d' N
 |[],_::_,h=>h.elim
 |_::_,[],h=>h.elim
variable{a':List D}
theorem aq.acB{t:iv}(h:dN (b2 xs) (b2 a'))(al:xs.length=a'.length)(Y:∀y∈a',y.cells.length=k):aq (.Q t k xs) (.Q t k a') :=
 ⟨λw C v ae=>by
  obtain⟨_,aW⟩:=h.get
  cases ae with
  |iP t k a av =>
   have:a'=[]:=atZ (by simpa using al.symm)
   subst this;exact .iP _ _ a av
  |Q t k xs b o cap g av I hc hm fH de ga ee cF =>
   rw[al]at av hc de⊢;refine .Q t k a' b o cap g av I hc hm Y de (λj d N=>?_) (λj d N=>?_) (λj d N=>?_)
   ·obtain⟨eX,h1,_⟩:=aW j d N;exact ga j eX h1
   ·obtain⟨eX,h1,_⟩:=aW j d N;exact ee j eX h1
   obtain⟨eX,h1,A⟩:=aW j d N;exact A.le _ _ _ (cF j eX h1)⟩
structure pc where
 f5:Nat->Option Nat
 BJ:Nat->Option Nat
 pJ:∀j s,f5 j=some s↔BJ s=some j
def pc.same(p:Nat->Bool):pc:=⟨λj=>bif p j then some j else none,λj=>bif p j then some j else none,λj s=>by
  by_cases e:j=s
  ·subst e;rfl
  have oy:¬s=j:=λh=>e h.symm
  cases p j<;>cases p s<;>simp[e,oy]⟩
def x6(H:bE)(m:pc):bE:=λj=>match m.f5 j with|some s=>H s|none=>none
def BK(H aP:bE)(m:pc):bE:=λs=>match m.BJ s with|some j=>aP j|none=>H s
theorem HD{H:bE}{m:pc}{o:aJ}(h:x6 H m j=some o):∃s,m.f5 j=some s/\H s=some o:=by unfold x6 at h;cases e:m.f5 j with|none=>rw[e]at h;cases h|some s=>rw[e]at h;exact⟨s,rfl,h⟩
variable{aP:bE}
theorem HE{H:bE}{m:pc}{s:Nat}{o:aJ}(h:BK H aP m s=some o):(∃j,m.BJ s=some j/\aP j=some o)\/(m.BJ s=none/\H s=some o):=by unfold BK at h;cases e:m.BJ s with|none=>rw[e]at h;exact .inr ⟨rfl,h⟩|some j=>rw[e]at h;exact .inl ⟨j,rfl,h⟩
theorem pc.inj{m:pc}{j ex s bo:Nat}(h:m.f5 j=some s)(bB:m.f5 ex=some bo):j=ex↔s=bo :=
 ⟨λe=>by subst e;rw[h]at bB;exact auD bB,λe=>by
  subst e;have h1:=(m.pJ j s).1 h;have A:=(m.pJ ex s).1 bB
  rw[h1]at A;exact auD A⟩
variable{f:FuncId}{ds:List D}{a8:D->bE->Prop}
theorem acC(M:bH U w C z a)(m:pc){args:List Value}(hc:c5 P B f ds (x6 z.H m) a8)(ae:c' w C ds args)(N:iQ am dst=true){K:au->Prop}(hK:∀d aP,a8 d aP->∃d',aq d d'/\K (({t:=z.t,H:=BK z.H aP m}:au).put dst d')): Calls P f ⟨args⟩ w λe w'=>∃v,e=.returned v/\∃aA aR,K aA/\bH U w' aR aA (a.put dst v):=by let Ft:Nat->Prop:=λb=>∃k s o,m.f5 k=some s/\z.H s=some o/\o.ef b;have tM:∀b,Ft b->U.pL b:=λb ⟨k,s,o,_,h1,A⟩=>M.heap.cI s o b h1 A;(have hH:l6 Ft w C (x6 z.H m):=by refine⟨λj o ah=>?_,λj ex o bM b a7 h1 A an cV=>?_,λj o b ah an=>?_⟩;obtain⟨s,_,h⟩:=HD ah;exact M.heap.cj s o h;obtain⟨s,hs,h⟩:=HD h1;obtain⟨bo,c7,bB⟩:=HD A;have iT:s≠bo:=λe=>a7 ((pc.inj hs c7).2 e);exact M.heap.inj s bo o bM b iT h bB an cV;obtain⟨s,hs,h⟩:=HD ah;exact⟨j,s,o,hs,h,an⟩);refine(hc.2 w C args Ft M.base (λb I=>U.Dw (tM b I)) hH ae).mono ?_;rintro e w' ⟨v,d,aR,aP,rfl,f7,eQ,hs,nh⟩;obtain⟨d',dO,hK⟩:=hK d aP f7;refine⟨v,rfl,_,aR,hK,bH.put ?_ N (dO.le _ _ _ eQ)⟩;have qC:∀j o,m.BJ j=none->z.H j=some o->∀b,o.ef b->¬Ft b/\b<w.heap.size:=λj o aa ah b I => ⟨λ⟨k,s,bM,h1,A,Z⟩=>M.heap.inj j s o bM b (λe=>by subst e;rw[(m.pJ k j).1 h1]at aa;cases aa) ah A I Z,(M.heap.cj j o ah).lt I⟩;refine⟨λi=>(M.tmps i).ext hs.ext,⟨λj o ah=>?_,λj ex o bM b a7 h1 A an cV=>?_,λj o b ah an=>?_⟩,M.size,M.defers,?_⟩;rcases HE ah with⟨k,_,h⟩|⟨aa,h⟩;exact nh.cj k o h;exact(M.heap.cj j o h).ix hs.ext λb I=>hs.ix b (qC j o aa h b I).2 (qC j o aa h b I).1;rcases HE h1 with⟨k,Y,h⟩|⟨aa,h⟩<;>rcases HE A with⟨bz,fH,bB⟩|⟨gi,bB⟩;exact nh.inj k bz o bM b (λe=>a7 ((pc.inj ((m.pJ k j).2 Y) ((m.pJ bz ex).2 fH)).1 e)) h bB an cV;obtain⟨Z,aG⟩:=qC ex bM gi bB b cV;rcases nh.cI k o b h an with bb|bb;exact Z bb;omega;obtain⟨Z,aG⟩:=qC j o aa h b an;rcases nh.cI bz bM b bB cV with bb|bb;exact Z bb;omega;exact M.heap.inj j ex o bM b a7 h bB an cV;rcases HE ah with⟨k,_,h⟩|⟨aa,h⟩;rcases nh.cI k o b h an with bb|bb;exact tM b bb;exact .inr (avc M.step.ext.size bb);exact M.heap.cI j o b h an;exact M.step.trans hs λb I bN=>aym
def rK(l:List (Nat×D))(H:bE):au:={t:=λj=>(aL l j).getD .any,H}
structure fB (z:au) (l:List (Nat×D)) (H:bE):Prop where
 t:jC z l
 h:∃f5:Nat->Nat,(∀k bz o bM,H k=some o->H bz=some bM->f5 k=f5 bz->k=bz)/\∀k o,H k=some o->z.H (f5 k)=some o
theorem fB.same{l:List (Nat×D)}{H:bE}(h1:jC z l)(A:∀k o,H k=some o->z.H k=some o):fB z l H:=⟨h1,λk=>k,λ_ _ _ _ _ _ e=>e,A⟩
section
variable{K:cJ->au->Prop}
theorem bH.Ep{l:List (Nat×D)}{H:bE}(h:bH U w C z a)(Y:fB z l H):bH U w C (rK l H) a:=by
 obtain⟨f5,hi,hH⟩:=Y.h
 exact⟨λi=>(Y.t.aL i).le _ _ _ (h.tmps i),
  ⟨λs o ah=>h.heap.cj (f5 s) o (hH s o ah),λs bo o bM b aw Z aG=>h.heap.inj (f5 s) (f5 bo) o bM b (λe=>aw (hi s bo o bM Z aG e)) (hH s o Z) (hH bo bM aG),
   λs o b ah=>h.heap.cI (f5 s) o b (hH s o ah)⟩,h.size,h.defers,h.step⟩
theorem W.iY(l:List (Nat×D))(H:bE)(h1:fB z l H)(h:W U c (rK l H) K):W U c z K :=
 ⟨λa w C M=>h.run a w C (M.Ep h1)⟩
def HF(l:α->List (Nat×D))(H:α->bE)(K:cJ->au->Prop):cJ->au->Prop
 |.normal,z=>∃x,fB z (l x) (H x)
 |.exit id,z=>K (.exit id) z
 |.ret,z=>K .ret z
theorem W.HF{a b:Code}{α:Type}(l:α->List (Nat×D))(H:α->bE)(h:W U a z (HF l H K))(bB:∀x,W U b (rK (l x) (H x)) K):W U (.seq a b) z K :=
 .seq (h.mono λe aA Y=>by
  cases e with
  |normal=>obtain⟨x,h1⟩:=Y;exact(bB x).iY _ _ h1
  |exit id=>exact Y
  |ret=>exact Y)
def HG(l:α->List (Nat×D))(H:α->bE)(fx:α->Nat)(x:α)(K:cJ->au->Prop):cJ->au->Prop
 |.normal,z=>∃b1,fx b1<fx x/\fB z (l b1) (H b1)
 |.exit id,z=>K (.exit id) z
 |.ret,z=>K .ret z
theorem W.HG{c:Code}{α:Type}(l:α->List (Nat×D))(H:α->bE)(fx:α->Nat)(ek:α)(h1:fB z (l ek) (H ek))
  (round:∀x,W U c (rK (l x) (H x)) (HG l H fx x K)):W U (.loop c) z K :=
 ⟨λa w C M=>by
  have h8:=M.Ep h1;intro b k aB
  have key:∀n x,fx x=n->∀a w C,bH U w C (rK (l x) (H x)) a->
    ∃e bw w',(∃c6 aA aR,e=cJ.f5 c6/\K c6 aA/\bH U w' aR aA bw)/\Arrives P (lone (b.at a (.code c::.inLoop c::k)) aB w) b k aB e bw w':=by
   intro n
   induction n using Nat.strongRecOn with
   |_ n aZ =>
    intro x aw a w C M;obtain⟨e,tz,tA,⟨c6,xQ,tB,ao,hK,bN⟩,ow⟩:=(round x).run a w C M b (.inLoop c::k) aB;subst ao
    cases c6 with
    |normal =>
     obtain⟨b1,bf,Z⟩:=hK;obtain⟨Dx,a₂,Dy,Dz,DA⟩:=aZ (fx b1) (aw ▸ bf) b1 rfl tz tA tB (bN.Ep Z);exact⟨Dx,a₂,Dy,Dz,.of_steps (Steps.trans ow (.one step_inLoop)) DA⟩
    |exit id=>exact⟨_,tz,tA,⟨.exit id,xQ,tB,rfl,hK,bN⟩,.pass (x:=.inLoop c) rfl (λ_ _=>.inl (by simp[cJ.f5])) ow⟩
    |ret=>exact⟨_,tz,tA,⟨.ret,xQ,tB,rfl,hK,bN⟩,.pass (x:=.inLoop c) rfl (λ_ _=>.inl (by simp[cJ.f5])) ow⟩
  obtain⟨e,bw,w',G,ow⟩:=key _ ek rfl a w C h8
  exact⟨e,bw,w',G,.of_steps (.one step_loop) ow⟩⟩
end
variable{args:Array Operand}{mM:Array TypeId}{b8:FuncId}{cu:List D}
section
theorem af.St{f:Operand}{first:List D}(M:z.ba f=.fn (.func b8) first cu)
  (gZ:List D) (m:pc)  (hc:c5 P B b8 gZ (x6 z.H m) a8) (dO:dN (first++args.toList.map z.ba++cu) gZ)
  (hK:∀d aP,a8 d aP->∃d',aq d d'/\K (({t:=z.t,H:=BK z.H aP m}:au).put dst d')):af P B am z dst (.call ⟨.value f,args,mM⟩) K :=
 ⟨λU w C a mc N type pos after Q'=>by
  have o7:=cG mc.tmps f;rw[M]at o7;obtain⟨fM,he,X,h1,A⟩:=o7.u3
  have Z:c' w C (args.toList.map z.ba) (args.toList.map a.eval) :=
   ⟨by simp,λi d v N X=>by
    simp only[aud]at N X
    cases F:args.toList[i]? with
    |none=>rw[F]at N;cases N
    |some x=>rw[F]at N X;cases N;cases X;exact cG mc.tmps x⟩
  have aG:=dO.rv ((h1.append Z).append A);obtain⟨fn,jg,rA,l'⟩:=hc.1;have I:fn.body.isNone=false:=by cases I:fn.body<;>simp[I]at rA⊢
  have cY:(execOp a.eval ⟨dst,.call ⟨.value f,args,mM⟩,type,pos,after,none⟩).run P w=.ok (.enter b8 ⟨fM++args.toList.map a.eval++he⟩) w:=by
   simp only[execOp,resolve,X,Deferred.ofValue,Sem.run_bind,Sem.run_pure,Result.andThen_ok,invoke,callFunc,run_program,jg,l',I,auU,avs];congr 2
   apply avF;simp
  simp only[Oper.wp,cY,Oper.upon]
  exact(acC mc m hc aG N hK).mono λe w' ⟨v,ao,h⟩=>by subst ao;exact h⟩
theorem bH.acD(h:bH U w C z a)(s:Nat)(hs:z.H s=some (.row v xs k e))(al:xs.length=a'.length)(Y:∀y∈a',y.cells.length=k)(dO:dN (b2 xs) (b2 a')): bH U w C (z.bZ s (some (.row v a' k e))) a:=by have ah:=h.heap.cj s _ hs;have Hg:∀b,(aJ.row v a' k e).ef b->(aJ.row v xs k e).ef b:=λb I=>I;refine h.bZ (Ft:=λb=>(aJ.row v xs k e).ef b) (.refl _ _ _) (λb I=>h.heap.cI s _ b hs I) (λbo o b aw h1 A=>h.heap.inj bo s o _ b aw h1 hs A) λx F=>?_;cases F;refine⟨?_,λb I=>?_⟩;obtain⟨dE,cap,bV,b9,kl,zT,BL,Er⟩:=ah;refine⟨dE,cap,by rw[<-al];exact bV,by rw[<-al];exact b9,kl,Y,BL,λhc=>?_⟩;obtain⟨b,vs,nZ,tX,acE,acF,acG⟩:=Er hc;refine⟨b,vs,nZ,tX,acE,acF,λj d aa=>?_⟩;obtain⟨eX,g1,fe⟩:=(dN.get dO).2 j d aa;obtain⟨aj,g3,g4,L1⟩:=acG j eX g1;exact⟨aj,g3,fe.le _ _ _ g4,L1⟩;exact⟨h.heap.cI s _ b hs (Hg b I),.inl (Hg b I)⟩
theorem W.vk{K:cJ->au->Prop}(s:Nat)(hs:z.H s=some (.row v xs k e))(al:xs.length=a'.length)(Y:∀y∈a',y.cells.length=k)(dO:dN (b2 xs) (b2 a'))
  (h:W U c (z.bZ s (some (.row v a' k e))) K):W U c z K:=⟨λa w C M=>h.run a w C (M.acD s hs al Y dO)⟩
end
def wW(am:Nat):List Oper->Nat->Bool
 |[],_=>true
 |o::r,i=>iQ am o.dst&&(o.after.toList.all λe=>!Region.binds .any e||Nat.blt e.on i)&&wW am r (i+1)
theorem L2{l:List Oper}:∀{n:Nat},wW am l n=true->∀{i:Nat} {o:Oper},l[i]?=some o->iQ am o.dst=true/\∀e∈o.after.toList,Region.binds .any e=true->e.on<n+i:=by induction l with|nil=>intro n _ i o h;simp at h|cons x r aZ =>intro n h i o ah;simp only[wW,atN]at h;obtain⟨⟨A,Z⟩,aG⟩:=h;(cases i with|zero =>simp at ah;subst ah;refine⟨A,λe ao I=>?_⟩;have:=auE.1 Z e ao;rw[I]at this;(have:=by simpa using this);omega|succ i =>have:=aZ aG (i:=i) (o:=o) (by simpa using ah);refine⟨this.1,λe ao I=>?_⟩;have:=this.2 e ao I;omega)
def nr(z:au)(H:bE):Prop:=∀k o,H k=some o->z.H k=some o
variable{hs:List (Nat×aJ)}
theorem nr.u5(h:mJ z hs):nr z (aL hs):=λk o ah=>h.aL k o ah
def Su(P:Program)(B:World)(am:Nat)(ax:List bx)(ops:Array Oper)(z:au)(o:Oper)(K:au->Prop):Prop :=
 (match o.guard with
  |none=>True
  |some (j,iz)=>∃g,(ops[j]?).bind (·.dst)=some g/\z.t g=.bool iz)/\(nO P B ax z o.dst o.op K\/af P B am z o.dst o.op K)
theorem Sv(ay:wW am ops.toList 0=true)(hsz:bg.size=ops.size): ∀(n i:Nat),n=i->i<ops.size->bg.getD i true=false->Region.ready .any ops bg≠[]:=by intro n;induction n using Nat.strongRecOn with|_ n aZ =>intro i aw hi al;subst aw;have ah:ops[n]?=some ops[n]:=ave hi;have dg:=L2 ay (i:=n) (o:=ops[n]) (by simpa using ah);by_cases ae:∀e∈ops[n].after.toList,Region.binds Region.Mode.any e=true->bg.getD e.on false=true;intro ao;(have:n∈Region.ready Region.Mode.any ops bg:=axj);rw[ao]at this;cases this;simp only[Classical.not_forall]at ae;obtain⟨e,ao,I,a7⟩:=ae;have bf:=dg.2 e ao I;simp only[auu]at bf;refine aZ e.on bf e.on rfl atw ?_;(have BF:e.on<bg.size:=by omega);simp only[Array.getD,BF,avw]at a7⊢;simpa using a7
def HH(P:Program)(B:World)(am:Nat)(ax:List bx)(all:Array Oper)(l:α->(Nat->Bool)->List (Nat×D))(hs:α->(Nat->Bool)->bE):List Oper->Nat->Prop
 |[],_=>True
 |o::r,i=>(∀x g,p5 all (fN g o.after.toList i)->Su P B am ax all (rK (l x (fN g o.after.toList i)) (hs x (fN g o.after.toList i))) o λaA=>∃b1,jC aA (l b1 (hu (fN g o.after.toList i) i))/\nr aA (hs b1 (hu (fN g o.after.toList i) i)))/\HH P B am ax all l hs r (i+1)
theorem acH{ax:List bx}{all:Array Oper}{l:α->(Nat->Bool)->List (Nat×D)}{hs:α->(Nat->Bool)->bE}{r:List Oper}:∀{n:Nat},HH P B am ax all l hs r n->∀{i:Nat} {o:Oper},r[i]?=some o->∀x f,p5 all (fN f o.after.toList (n+i))->Su P B am ax all (rK (l x (fN f o.after.toList (n+i))) (hs x (fN f o.after.toList (n+i)))) o λaA=>∃b1,jC aA (l b1 (hu (fN f o.after.toList (n+i)) (n+i)))/\nr aA (hs b1 (hu (fN f o.after.toList (n+i)) (n+i))):=by induction r with|nil=>intro n _ i o h;simp at h|cons x r aZ =>intro n h i o ah y f;exact axo
theorem Sw{ax:List bx}(hT:df P ax){U:b7 P B am}{a8:au->Prop}{Q':Exit->Act->World->Prop}(f7:∀z a w C,bH U w C z a->a8 z->Q' .normal a w)(ay:wW am ops.toList 0=true)(l:α->(Nat->Bool)->List (Nat×D))(hs:α->(Nat->Bool)->bE)(pb:∀x f,(∀i,i<ops.size->f i=true)->a8 (rK (l x f) (hs x f)))(step:HH P B am ax ops l hs ops.toList 0): ∀(n:Nat) (x:α) (bg:Array Bool) (a:Act) (w:World) (C:Nat->Nat),bg.size=ops.size->bg.toList.count false=n->bH U w C (rK (l x (ei bg)) (hs x (ei bg))) a->p5 ops (ei bg)->wpAny P .any ops Q' n bg a w
 |0,x,bg,a,w,C,hsz,hc,M,bi=>by(have ht:∀i,i<ops.size->ei bg i=true:=λi hi=>axp);refine⟨?_,f7 _ _ _ _ M (pb _ _ ht)⟩;cases ae:Region.ready .any ops bg with|nil=>rfl|cons i r =>obtain⟨o,ah,hi,h1,_⟩:=BE (ae ▸ atU:i∈Region.ready .any ops bg);have A:=ht i hi;(have bf:i<bg.size:=by omega);simp only[ei,Array.getD,bf,avw]at h1 A;rw[h1]at A;cases A
 |n+1,x,bg,a,w,C,hsz,hc,M,bi=>by(have qI:0<bg.toList.count false:=by omega);have lG:=av9.1 qI;obtain⟨i,hi,I⟩:=List.getElem_of_mem lG;(have lN:i<bg.size:=by simpa using hi);have a7:Region.ready .any ops bg≠[]:=Sv ay hsz i i rfl atw (ayd);refine⟨λe=>absurd e a7,λi hi=>?_⟩;obtain⟨o,ah,Sp,qJ,lM⟩:=BE hi;obtain⟨N,_⟩:=L2 ay (i:=i) (o:=o) (by simpa using ah);have G:=acH step (i:=i) (o:=o) (by simpa using ah) x (ei bg);rw[auu]at G;(have o2:fN (ei bg) o.after.toList i=ei bg:=axk);rw[o2]at G;have G:=G bi;unfold wpOp;simp only[ah];obtain⟨aW,G⟩:=G;(have cz:Region.wanted o (yielded ops a.tmps)=true:=axn);rw[atI cz];(have zU:o.wp P a w (λbw w'=>∃aA aR,(∃b1,jC aA (l b1 (hu (ei bg) i))/\nr aA (hs b1 (hu (ei bg) i)))/\bH U w' aR aA bw) Q':=by rcases G with G|G;exact tL hT M N G Q';obtain⟨dst,op,type,pos,after,guard⟩:=o;exact G.run U w C a M N type pos after Q');refine .inl (Oper.wp_mono (λbw w' cF=>?_) zU);obtain⟨aA,aR,⟨b1,h1,A⟩,Z⟩:=cF;(have mh:i<bg.size:=by omega);rw[<-Ef mh]at h1 A;refine Sw hT f7 ay l hs pb step n b1 _ bw w' aR (by simpa using hsz) ?_ (Z.Ep (.same h1 A)) (bi.set mh ah lM);exact axb
theorem W.Sx{ax:List bx}(hT:df P ax){K:cJ->au->Prop}(hm:P.follows .mixedOrders=true)
  (l:α->(Nat->Bool)->List (Nat×D)) (hs:α->(Nat->Bool)->bE) (ay:wW am ops.toList 0=true) (ek:α)
  (h1:jC z (l ek λ_=>false)) (A:nr z (hs ek λ_=>false)) (step:HH P B am ax ops l hs ops.toList 0)
  (pb:∀x f,(∀i,i<ops.size->f i=true)->K .normal (rK (l x f) (hs x f))) :
  W U (.region id ops true) z K :=
 ⟨λa w C M=>wp_region_any hm (by
  have e:ei (Array.replicate ops.size false)=λ_=>false:=by
   funext i
   simp only[ei,Array.getD];split<;>simp
  exact Sw hT (U:=U) (a8:=K .normal) (λz a w C bN hK=>⟨.normal,z,C,rfl,hK,bN⟩) ay l hs pb step _ ek _ _ _ C aty aty (by rw[e];exact M.drew.Ep (.same h1 A)) (by rw[e];exact λj k _ h=>by cases h))⟩
end Go.bR

namespace Go.bR
open Go Go.RowKit
variable{P:Program}{B:World}{am:Nat}{ops:Array Oper}{α:Type}{a:Act}{w:World}
theorem acI{o:Oper}{K:Act->World->Prop}{a8:Exit->Act->World->Prop}(cF:o.wp P a w K a8):
  o.wp P a w (λbw w'=>K bw w'/\∃v ds,bw=({a with defers:=ds}:Act).put o.dst v) a8:=by
 unfold Oper.wp at*;generalize(execOp a.eval o).run P w=r at*
 cases r with
 |ok n w' =>
  cases n<;>simp only[Oper.upon]at cF⊢ <;>
   first
    |exact⟨cF,_,a.defers,rfl⟩
    |exact⟨cF,_,_,rfl⟩
    |exact Calls.mono cF (λe rs ao=>by cases e<;>first|exact⟨ao,_,a.defers,rfl⟩|exact ao)
    |exact Rows.mono cF (λ_ _ ao=>⟨ao,_,a.defers,rfl⟩)
 |halt x w'=>cases x<;>simp only[Oper.upon]at cF⊢<;>exact cF
variable{dst:Option Tmp}{v:Value}{i:Nat}
theorem acJ{ds:List Deferred}(h:dst≠some i):(({a with defers:=ds}:Act).put dst v).tmps.getD i undef=a.tmps.getD i undef:=by cases dst with|none=>rfl|some t =>have a7:t≠i:=λe=>h (by rw[e]);simp[Act.put,awk a7]
def x7(z vl aA:au)(er:Nat->Bool)(dst:Option Tmp):au :=
 {t:=λi=>if dst=some i then aA.t i else z.t i,H:=λk=>if(vl.H k).isSome||er k then aA.H k else z.H k}
variable{U:b7 P B am}{C:Nat->Nat}{z:au}
theorem acK{ax:List bx}(hT:df P ax){vl:au}(M:bH U w C z a){o:Oper}(N:iQ am o.dst=true)(av:∀i,aq (z.t i) (vl.t i))(hH:∀k x,vl.H k=some x->z.H k=some x)(er:Nat->Bool){K:au->Prop}(G:nO P B ax vl o.dst o.op K\/af P B am vl o.dst o.op K)(a8:Exit->Act->World->Prop): o.wp P a w (λbw w'=>∃aA aR,K aA/\bH U w' aR (x7 z vl aA er o.dst) bw) a8:=by let ie:b7 P B am:={w0:=w,C0:=C,Ft:=λb=>∃k x,vl.H k=some x/\x.ef b,base:=M.base,low:=λb ⟨k,x,h,an⟩=>U.Dw (M.heap.cI k x b (hH k x h) an)};have fI:bH ie w C vl a:=⟨λi=>(av i).le _ _ _ (M.tmps i),⟨λk x h=>M.heap.cj k x (hH k x h),λs bo x y b aw h1 A=>M.heap.inj s bo x y b aw (hH s x h1) (hH bo y A),λk x b h an=>.inl ⟨k,x,h,an⟩⟩,M.size,M.defers,c_.refl _ _ _⟩;(have h1:o.wp P a w (λbw w'=>∃aA aR,K aA/\bH ie w' aR aA bw) a8:=by rcases G with G|G;exact tL hT fI N G a8;have:=G.run ie w C a fI N o.type o.pos o.after a8;obtain⟨dst,op,type,pos,after,guard⟩:=o;exact this);(have Es:∀b,ie.pL b->U.pL b:=λb h=>by rcases h with⟨k,x,h,an⟩|h;exact M.heap.cI k x b (hH k x h) an;exact .inr (avc M.step.ext.size h));refine Oper.wp_mono (λbw w' ⟨⟨aA,aR,hK,bN⟩,v,ds,ha⟩=>⟨aA,aR,hK,?_⟩) (acI h1);(have BM:∀k x b,((vl.H k).isSome||er k)=false->z.H k=some x->x.ef b->b<w.heap.size/\¬ie.Ft b:=λk x b X F an=>by refine⟨(M.heap.cj k x F).lt an,λ⟨bz,b1,h,cV⟩=>?_⟩;(have a7:bz≠k:=λe=>by subst e;rw[h]at X;simp at X);exact M.heap.inj bz k b1 x b a7 (hH bz b1 h) F cV an);refine⟨λi=>?_,⟨λk x F=>?_,λs bo x y b aw F hy an cV=>?_,λk x b F an=>?_⟩,bN.size,bN.defers,M.step.trans bN.step λb I zV=>?_⟩;simp only[x7];by_cases lH:o.dst=some i;rw[atI lH];exact bN.tmps i;rw[atH lH,ha,acJ lH];exact(M.tmps i).ext bN.step.ext;simp only[x7]at F;split at F;exact bN.heap.cj k x F;rename_i X;(have X:=by simpa using X);(exact(M.heap.cj k x F).ix bN.step.ext λb I=>by have:=BM k x b (by simpa using X) F I;exact bN.step.ix b this.1 this.2);simp only[x7]at F hy;split at F<;>split at hy;exact bN.heap.inj s bo x y b aw F hy an cV;rename_i h1 A;have:=BM bo y b (by simpa using A) hy cV;rcases bN.heap.cI s x b F an with h|h;exact this.2 h;have Z:=this.1;change w.heap.size<=b at h;omega;rename_i h1 A;have:=BM s x b (by simpa using h1) F an;rcases bN.heap.cI bo y b hy cV with h|h;exact this.2 h;have Z:=this.1;change w.heap.size<=b at h;omega;exact M.heap.inj s bo x y b aw F hy an cV;simp only[x7]at F;split at F;exact Es b (bN.heap.cI k x b F an);exact M.heap.cI k x b F an;rcases Es b (.inl zV)with h|h;exact h;omega
theorem bH.le{U:b7 P B am}{w:World}{C:Nat->Nat}{z aA:au}{a:Act}(h:bH U w C z a)(av:∀i,aq (z.t i) (aA.t i))(hH:∀k x,aA.H k=some x->z.H k=some x):bH U w C aA a :=
 ⟨λi=>(av i).le _ _ _ (h.tmps i),⟨λk x F=>h.heap.cj k x (hH k x F),λs bo x y b aw h1 A=>h.heap.inj s bo x y b aw (hH s x h1) (hH bo y A),λk x b F=>h.heap.cI k x b (hH k x F)⟩,h.size,h.defers,h.step⟩
def HI(m k:Nat):Bool:=Nat.beq (Nat.land (Nat.shiftRight m k) 1) 1
theorem HJ(m k:Nat):HI m k=m.testBit k:=by unfold HI;have h1:Nat.land (Nat.shiftRight m k) 1=(m >>> k)%2:=Nat.and_one_is_mod _;rw[h1,Nat.testBit_eq_decide_div_mod_eq,Nat.shiftRight_eq_div_pow];cases h:Nat.beq (m/2 ^ k%2) 1 with|true=>have:=auc h;simp[this]|false =>(have:m/2 ^ k%2≠1:=λe=>by rw[e]at h;cases h);simp[this]
def kr(ap:List Nat)(i k:Nat):Bool:=HI (ap.getD i 0) k
def x8(ap:List Nat):List Edge->Nat
 |[]=>0
 |e::r=>cond (Region.binds .any e) (Nat.lor (Nat.lor (Nat.shiftLeft 1 e.on) (ap.getD e.on 0)) (x8 ap r)) (x8 ap r)
def BN(ap:List Nat):List Oper->Nat->Bool
 |[],_=>true
 |o::r,i=>Nat.beq (ap.getD i 0) (x8 ap o.after.toList)&&BN ap r (i+1)
theorem L3{ap:List Nat}{k:Nat}:∀{l:List Edge},HI (x8 ap l) k=true->∃e∈l,Region.binds .any e=true/\(e.on=k\/kr ap e.on k=true)
 |[],h=>by simp[x8,HJ]at h
 |e::r,h=>by simp only[x8]at h;cases I:Region.binds .any e with|false=>rw[I]at h;obtain⟨oy,h1,A⟩:=L3 (l:=r) h;exact⟨oy,.tail _ h1,A⟩|true =>rw[I]at h;(have bB:((1 <<< e.on ||| ap.getD e.on 0) ||| x8 ap r).testBit k=true:=by rw[<-HJ];exact h);rw[Nat.testBit_or,Nat.testBit_or,au5,au5]at bB;rcases bB with(h1|h1)|h1;refine⟨e,.head _,I,.inl ?_⟩;rw[Nat.testBit_shiftLeft]at h1;simp only[atN,aut]at h1;have A:=h1.2;(have:k-e.on=0:=by cases bC:k-e.on with|zero=>rfl|succ n=>rw[bC]at A;simp[Nat.testBit_succ]at A);omega;exact⟨e,.head _,I,.inr (by unfold kr;rw[HJ];exact h1)⟩;obtain⟨oy,A,Z⟩:=L3 (l:=r) (by rw[HJ];exact h1);exact⟨oy,.tail _ A,Z⟩
theorem Sy{ap:List Nat}:∀{l:List Oper} {n:Nat},BN ap l n=true->∀{i:Nat} {o:Oper},l[i]?=some o->ap.getD (n+i) 0=x8 ap o.after.toList
 |[],_,_,i,o,h=>by simp at h
 |x::r,n,h,i,o,ah=>by simp only[BN,atN]at h;cases i with|zero=>simp at ah;subst ah;exact auc h.1|succ i=>have:=Sy h.2 (i:=i) (o:=o) (by simpa using ah);rw[show n+1+i=n+(i+1) by omega]at this;exact this
def L4(ap:List Nat)(f:Nat->Bool):Prop:=∀i k,f i=true->kr ap i k=true->f k=true
def wr:List Oper->Nat->Nat->Option Nat
 |[],_,_=>none
 |o::r,i,j=>match o.dst with
  |some t=>cond (Nat.beq t j) (some i) (wr r (i+1) j)
  |none=>wr r (i+1) j
def BO:List Oper->Bool
 |[]=>true
 |o::r=>(match o.dst with
  |some t=>(wr r 0 t).isNone
  |none=>true)&&BO r
theorem HK{j:Nat}:∀{l:List Oper} {n:Nat},wr l n j=none->∀{i:Nat} {o:Oper},l[i]?=some o->o.dst≠some j
 |[],_,_,i,o,h=>by simp at h
 |x::r,n,h,i,o,ah=>by simp only[wr]at h;cases i with|zero =>simp at ah;subst ah;intro N;rw[N]at h;simp at h|succ i =>split at h;rename_i t av;(cases I:Nat.beq t j with|true=>rw[I]at h;cases h|false=>rw[I]at h;exact HK (l:=r) h (i:=i) (by simpa using ah));exact HK (l:=r) h (i:=i) (by simpa using ah)
theorem Sz{j k:Nat}:∀{l:List Oper} {n:Nat},wr l n j=some k->BO l=true->n<=k/\∀{i:Nat} {o:Oper},l[i]?=some o->(o.dst=some j↔n+i=k)
 |[],_,h,_=>by simp[wr]at h
 |x::r,n,h,ah=>by simp only[BO,atN]at ah;(have Hc:wr r (n+1) j=some k->x.dst≠some j->n<=k/\∀{i:Nat} {o:Oper},(x::r)[i]?=some o->(o.dst=some j↔n+i=k):=λh F=>by obtain⟨h1,A⟩:=Sz h ah.2;refine⟨by omega,λ{i o} hi=>?_⟩;cases i with|zero=>simp at hi;subst hi;exact⟨λe=>absurd e F,λe=>by omega⟩|succ i=>rw[A (i:=i) (by simpa using hi)];constructor<;>intro e<;>omega);simp only[wr]at h;split at h;rename_i t av;(cases I:Nat.beq t j with|true =>rw[I]at h;have acL:=auc I;subst acL;(have Y:n=k:=by simpa using h);subst Y;refine⟨atQ _,λ{i o} hi=>?_⟩;(cases i with|zero=>simp at hi;subst hi;exact⟨λ_=>rfl,λ_=>av⟩|succ i =>have h1:=ah.1;rw[av]at h1;have:=HK (l:=r) (n:=0) (by simpa using h1) (i:=i) (by simpa using hi);exact⟨λe=>absurd e this,λe=>by omega⟩)|false =>rw[I]at h;exact Hc h (λe=>by rw[av]at e;simp only[aus]at e;subst e;rw[au1]at I;cases I));rename_i av;exact Hc h (λe=>by rw[av]at e;cases e)
theorem L5{j k:Nat}:∀{l:List Oper} {n:Nat},wr l n j=some k->k<n+l.length
 |[],_,h=>by simp[wr]at h
 |x::r,n,h=>by
  simp only[wr]at h;split at h
  ·rename_i t av
   cases I:Nat.beq t j with
   |true => rw[I]at h;have : n = k := by simpa using h
            simp;omega
   |false=>rw[I]at h;have:=L5 (l:=r) h;simp;omega
  have:=L5 (l:=r) h;simp;omega
def lO:List (Nat×Nat×Option aJ)->(Nat->Bool)->Nat->Option (Option aJ)
 |[],_,_=>none
 |(i,bz,o)::r,f,k=>match lO r f k with
  |some bM=>some bM
  |none=>cond (Nat.beq bz k&&f i) (some o) none
def bN(L6:bE)(ba:List (Nat×Nat×Option aJ))(f:Nat->Bool)(k:Nat):Option aJ:=match lO ba f k with
 |some o=>o
 |none=>L6 k
def mi:List (Nat×Nat×Option aJ)->List (Nat×Nat)
 |[]=>[]
 |(i,k,_)::r=>(i,k)::mi r
def x9(ap:List Nat)(n:Nat):List (Nat×Nat)->Bool
 |[]=>true
 |(i,k)::r=>Nat.blt i n&&(r.all λe=>!Nat.beq e.2 k||Nat.beq e.1 i||kr ap e.1 i)&&x9 ap n r
def SA(ap:List Nat)(S:List (Nat×Nat))(i k:Nat):Bool:=S.all λe=>!Nat.beq e.2 k||(kr ap i e.1||(kr ap e.1 i||Nat.beq e.1 i))
def gk(L6:bE)(ap:List Nat)(S:List (Nat×Nat))(ba:List (Nat×Nat×Option aJ))(i k:Nat):Option aJ:=cond (SA ap S i k) (bN L6 ba (kr ap i) k) none
def HL(t0:Nat->D)(l:List Oper)(ap:List Nat)(R:List D)(i j:Nat):D:=match wr l 0 j with
 |some k=>cond (kr ap i k) (R.getD k .any) (cond (Nat.beq k i||kr ap k i) (t0 j) .any)
 |none=>t0 j
def sJ(ap:List Nat)(i:Nat):Nat->List D->List D
 |_,[]=>[]
 |n,d::r=>cond (Nat.beq n i||kr ap n i) .any d::sJ ap i (n+1) r
def vm(ap:List Nat)(i:Nat):List (Nat×Nat×Option aJ)->List (Nat×Nat×Option aJ)
 |[]=>[]
 |(j,k,o)::r=>(j,k,cond (Nat.beq j i||kr ap j i) none o)::vm ap i r
def Et(S:List (Nat×Nat))(i:Nat):Bool:=S.all λe=>!Nat.beq e.1 i
def qL(S:List (Nat×Nat))(i k:Nat):Bool:=S.any λe=>Nat.beq e.1 i&&Nat.beq e.2 k
theorem HM{f g:Nat->Bool}{k:Nat}:∀{ba:List (Nat×Nat×Option aJ)},(∀e∈mi ba,e.2=k->f e.1=g e.1)->lO ba f k=lO ba g k
 |[],_=>rfl
 |(i,bz,o)::r,h=>by have aZ:=HM (ba:=r) λe ao=>h e (.tail _ ao);simp only[lO,aZ];cases I:Nat.beq bz k with|true=>rw[h (i,bz) (.head _) (auc I)]|false=>rfl
theorem SB{ap:List Nat}{i k:Nat}{f:Nat->Bool}(M:∀j,f j=true->j≠i/\kr ap j i=false):∀{ba SC:List (Nat×Nat×Option aJ)},vm ap i SC=vm ap i ba->lO SC f k=lO ba f k
 |[],[],_=>rfl
 |(j,q,o)::r,(ex,ry,bM)::acM,h=>by simp only[vm,avW,awW]at h;obtain⟨⟨rfl,rfl,ah⟩,ae⟩:=h;simp only[lO,SB M ae];cases L7:f ex with|true=>obtain⟨h1,A⟩:=M ex L7;rw[au' h1,A]at ah;simp only[Bool.or_self,auW]at ah;rw[ah]|false=>simp
 |[],(_,_,_)::_,h=>by simp[vm]at h
 |(_,_,_)::_,[],h=>by simp[vm]at h
theorem SD{ap:List Nat}{i:Nat}:∀{l iZ:List D} {n:Nat},sJ ap i n iZ=sJ ap i n l->∀{k:Nat},n+k≠i->kr ap (n+k) i=false->iZ.getD k .any=l.getD k .any
 |[],[],_,_,_,_,_=>rfl
 |a::r,b::acM,n,h,k,h1,A=>by simp only[sJ,avW]at h;cases k with|zero =>have Z:=h.1;rw[au' (by simpa using h1),show kr ap n i=false by simpa using A]at Z;simpa using Z|succ k=>have:=SD h.2 (k:=k) atw (by rw[show n+1+k=n+(k+1) by omega];exact A);simpa using this
 |[],_::_,_,h,_,_,_=>by simp[sJ]at h
 |_::_,[],_,h,_,_,_=>by simp[sJ]at h
theorem SE{ap:List Nat}{n i k:Nat}{f:Nat->Bool}(hi:f i=true)(M:∀j,f j=true->kr ap j i=false):∀{ba:List (Nat×Nat×Option aJ)},x9 ap n (mi ba)=true->qL (mi ba) i k=true->∃o,(i,k,o)∈ba/\lO ba f k=some o
 |[],_,h=>by simp[mi,qL]at h
 |(j,q,o)::r,ah,h=>by simp only[mi,x9,atN]at ah;simp only[mi,qL,awV,au5,atN]at h;by_cases ae:qL (mi r) i k=true;obtain⟨bM,h1,A⟩:=SE hi M ah.2 ae;exact⟨bM,.tail _ h1,by simp only[lO,A]⟩;rcases h with⟨h1,A⟩|h;have:=auc h1;subst this;have:=auc A;subst this;refine⟨o,.head _,?_⟩;(have aw:∀{l:List (Nat×Nat×Option aJ)},((mi l).all λe=>!Nat.beq e.2 q||Nat.beq e.1 j||kr ap e.1 j)=true->¬qL (mi l) j q=true->lO l f q=none:=by intro l;induction l with|nil=>intro _ _;rfl|cons e l aZ =>obtain⟨ex,ry,bM⟩:=e;intro ha I;simp only[mi,awm,atN,au5,av0]at ha;simp only[mi,qL,awV,au5,atN,not_or]at I;simp only[lO];rw[aZ ha.2 I.2];(cases G:Nat.beq ry q with|false=>rfl|true =>rcases ha.1 with(Z|Z)|Z;rw[G]at Z;cases Z;exact absurd ⟨Z,G⟩ I.1;(cases L7:f ex with|false=>rfl|true=>rw[M ex L7]at Z;cases Z)));simp only[lO,aw ah.1.2 ae,au1,hi,Bool.and_self,avq];exact absurd h ae
variable{k:Nat}
theorem SF{f:Nat->Bool}:∀{ba:List (Nat×Nat×Option aJ)},qL (mi ba) i k=false->lO ba (hu f i) k=lO ba f k
 |ba,h=>HM λe ao Y=>by(have:e.1≠i:=λbV=>by have:qL (mi ba) i k=true:=au_.2 ⟨e,ao,by rw[bV,Y,au1,au1];rfl⟩;rw[h]at this;cases this);simp[hu,au' this]
section
variable(ap:List Nat)(S:List (Nat×Nat))(t0:Nat->D)(dA:List (Nat×aJ))(R:α->List D)(dY:α->List (Nat×Nat×Option aJ))
def gd(ops:Array Oper)(x:α)(f:Nat->Bool):au :=
 {t:=λj=>match wr ops.toList 0 j with
   |some k=>cond (f k) ((R x).getD k .any) (t0 j)
   |none=>t0 j,H:=bN (aL dA) (dY x) f}
def tY(ops:Array Oper)(x:α)(i:Nat):au:={t:=HL t0 ops.toList ap (R x) i,H:=gk (aL dA) ap S (dY x) i}
def BP(ops:Array Oper)(x:α):au :=
 {t:=λj=>match wr ops.toList 0 j with
   |some k=>(R x).getD k .any
   |none=>t0 j,H:=λk=>match lO (dY x) (λ_=>true) k with
   |some o=>o
   |none=>aL dA k}
def HN(dst:Option Tmp)(aA:au)(d:D):Prop:=match dst with
 |some t=>aq (aA.t t) d
 |none=>True
def wX(i:Nat)(aA:au):List (Nat×Nat×Option aJ)->Prop
 |[]=>True
 |(j,k,o)::r=>cond (Nat.beq j i) (match o with
  |some o=>aA.H k=some o/\wX i aA r
  |none=>wX i aA r) (wX i aA r)
def x_(S:List (Nat×Nat))(i:Nat)(aA:au)(hm:Nat->Option aJ):List Nat->Prop
 |[]=>True
 |k::r=>cond (qL S i k) (x_ S i aA hm r) (match hm k with
  |some o=>aA.H k=some o/\x_ S i aA hm r
  |none=>x_ S i aA hm r)
def jL(x:α)(i:Nat)(dst:Option Tmp)(aA:au):Prop :=
 ∃b1,sJ ap i 0 (R b1)=sJ ap i 0 (R x)/\vm ap i (dY b1)=vm ap i (dY x)/\HN dst aA ((R b1).getD i .any)/\wX i aA (dY b1)/\x_ S i aA (gk (aL dA) ap S (dY x) i) (dA.map (·.1)++S.map (·.2))
def L8(P:Program)(B:World)(am:Nat)(ax:List bx)(ops:Array Oper)(x:α)(i:Nat)(o:Oper):Prop :=
 cond (Et S i) (pN P B ax (tY ap S t0 dA R dY ops x i) true o.op λd=>aq d ((R x).getD i .any)) False\/
  (nO P B ax (tY ap S t0 dA R dY ops x i) o.dst o.op (jL ap S dA R dY x i o.dst)\/af P B am (tY ap S t0 dA R dY ops x i) o.dst o.op (jL ap S dA R dY x i o.dst))
def L9(P:Program)(B:World)(am:Nat)(ax:List bx)(ops:Array Oper)(x:α)(i:Nat)(o:Oper):Prop :=
 match o.guard with
 |none=>L8 ap S t0 dA R dY P B am ax ops x i o
 |some (j,iz)=>∃g b,(ops[j]?).bind (·.dst)=some g/\HL t0 ops.toList ap (R x) i g=.bool b/\
  ((b=iz/\L8 ap S t0 dA R dY P B am ax ops x i o)\/(b=!iz/\Et S i=true/\aq .undef ((R x).getD i .any))\/
   cond (Et S i) (pN P B ax (tY ap S t0 dA R dY ops x i) (b==iz) o.op λd=>aq (.l5 (b==iz) d) ((R x).getD i .any)) False)
def Eu(P:Program)(B:World)(am:Nat)(ax:List bx)(ops:Array Oper):List Oper->Nat->Prop
 |[],_=>True
 |o::r,i=>(∀x,L9 ap S t0 dA R dY P B am ax ops x i o)/\Eu P B am ax ops r (i+1)
theorem acN{ax:List bx}{l:List Oper}:∀{n:Nat},Eu ap S t0 dA R dY P B am ax ops l n->∀{i:Nat} {o:Oper},l[i]?=some o->∀x,L9 ap S t0 dA R dY P B am ax ops x (n+i) o:=by induction l with|nil=>intro n _ i o h;simp at h|cons y r aZ =>intro n h i o ah x;(cases i with|zero=>simp at ah;subst ah;exact h.1 x|succ i=>have:=aZ h.2 (i:=i) (by simpa using ah) x;rw[show n+1+i=n+(i+1) by omega]at this;exact this)
end
theorem HO{i k:Nat}{aA:au}{o:aJ}:∀{ba:List (Nat×Nat×Option aJ)},wX i aA ba->(i,k,some o)∈ba->aA.H k=some o
 |[],_,h=>by cases h
 |(j,q,bM)::r,h,hm=>by
  rcases at5.1 hm with h1|h1
  ·simp only[awW]at h1;obtain⟨rfl,rfl,rfl⟩:=h1;simp only[wX,au1,avq]at h;exact h.1
  simp only[wX]at h
  cases I:Nat.beq j i with
  |false=>rw[I]at h;exact HO h h1
  |true=>rw[I]at h;cases bM with
   |none=>exact HO h h1
   |some bM=>exact HO h.2 h1
theorem HP{S:List (Nat×Nat)}{i k:Nat}{aA:au}{hm:Nat->Option aJ}{o:aJ}(aw:qL S i k=false)(Y:hm k=some o):∀{l:List Nat},x_ S i aA hm l->k∈l->aA.H k=some o
 |[],_,h=>by cases h
 |q::r,h,G=>by simp only[x_]at h;rcases at5.1 G with h1|h1;subst h1;rw[aw,Y]at h;exact h.1;cases I:qL S i q with|true=>rw[I]at h;exact HP aw Y h h1|false =>rw[I]at h;simp only[auW]at h;split at h;exact HP aw Y h.2 h1;exact HP aw Y h h1
theorem SG{wV:Type}:∀{l:List (Nat×wV)} {k:Nat} {x:wV},aL l k=some x->k∈l.map (·.1)
 |[],_,_,h=>by simp[aL]at h
 |(i,d)::r,k,x,h=>by simp only[aL]at h;cases I:Nat.beq k i with|true=>have:=auc I;subst this;simp|false=>rw[I]at h;exact .tail _ (SG h)
theorem SH{f:Nat->Bool}{k:Nat}{o:Option aJ}:∀{ba:List (Nat×Nat×Option aJ)},lO ba f k=some o->k∈(mi ba).map (·.2)
 |[],h=>by simp[lO]at h
 |(i,q,bM)::r,h=>by simp only[lO]at h;cases al:lO r f k with|some y=>exact .tail _ (SH al)|none =>rw[al]at h;(cases I:Nat.beq q k with|true=>have:=auc I;subst this;exact .head _|false=>rw[I]at h;simp at h)
variable{ap:List Nat}{S:List (Nat×Nat)}{t0:Nat->D}{dA:List (Nat×aJ)}{R:α->List D}{dY:α->List (Nat×Nat×Option aJ)}
theorem acO{x:α}{f:Nat->Bool}(gS:mi (dY x)=S)(hc:L4 ap f)(BQ:∀k,kr ap i k=true->f k=true)(kN:f i=false): (∀j,aq ((gd t0 dA R dY ops x f).t j) ((tY ap S t0 dA R dY ops x i).t j))/\∀k o,(tY ap S t0 dA R dY ops x i).H k=some o->(gd t0 dA R dY ops x f).H k=some o:=by constructor;intro j;simp only[gd,tY,HL];(cases cz:wr ops.toList 0 j with|none=>exact .refl _|some k =>simp only;(cases h1:kr ap i k with|true=>rw[BQ k h1];exact .refl _|false =>(cases A:(Nat.beq k i||kr ap k i)with|false=>exact .any _|true =>(have:f k=false:=by cases Y:f k with|false=>rfl|true =>rcases au5 _ _ ▸ A with Z|Z;have:=auc Z;subst this;rw[kN]at Y;cases Y;rw[hc k i Y Z]at kN;cases kN);rw[this];exact .refl _)));intro k o h;simp only[tY,gk]at h;cases l9:SA ap S i k with|false=>rw[l9]at h;cases h|true =>rw[l9]at h;simp only[avq]at h;simp only[gd];unfold bN at h⊢;rw[HM (g:=f)]at h;exact h;intro e ao Y;rw[gS]at ao;have:=auE.1 l9 e ao;simp only[Y,au1,Bool.not_true,Bool.false_or,au5]at this;(cases h1:kr ap i e.1 with|true=>rw[BQ _ h1]|false =>rw[h1]at this;(cases fH:f e.1 with|false=>rfl|true =>rcases this with Z|Z|Z;cases Z;rw[hc _ i fH Z]at kN;cases kN;have:=auc Z;rw[this]at fH;rw[kN]at fH;cases fH))
theorem SI{ax:List bx}(hT:df P ax){U:b7 P B am}{a8:au->Prop}{Q':Exit->Act->World->Prop}(f7:∀z a w C,bH U w C z a->a8 z->Q' .normal a w)(ay:wW am ops.toList 0=true)(ah:BO ops.toList=true)(HQ:BN ap ops.toList 0=true)(gS:∀x,mi (dY x)=S)(tZ:x9 ap ops.size S=true)(pb:∀x,a8 (BP t0 dA R dY ops x))(step:Eu ap S t0 dA R dY P B am ax ops ops.toList 0): ∀(n:Nat) (x:α) (bg:Array Bool) (a:Act) (w:World) (C:Nat->Nat),bg.size=ops.size->bg.toList.count false=n->bH U w C (gd t0 dA R dY ops x (ei bg)) a->L4 ap (ei bg)->wpAny P .any ops Q' n bg a w
 |0,x,bg,a,w,C,hsz,hc,M,bi=>by(have ht:∀i,i<ops.size->ei bg i=true:=λi hi=>axp);(have bf:∀e∈S,e.1<ops.size:=by(have:∀{l:List (Nat×Nat)},x9 ap ops.size l=true->∀e∈l,e.1<ops.size:=by intro l;induction l with|nil=>intro _ e ao;cases ao|cons y l aZ =>intro h e ao;simp only[x9,atN]at h;rcases at5.1 ao with rfl|ao;exact auz (auy _) (aul h.1.1);exact aZ h.2 e ao);exact this tZ);refine⟨?_,f7 _ _ _ _ (M.le (aA:=BP t0 dA R dY ops x) (λj=>?_) (λk o h=>?_)) (pb x)⟩;(cases ae:Region.ready .any ops bg with|nil=>rfl|cons i r =>obtain⟨o,ah,hi,h1,_⟩:=BE (ae ▸ atU:i∈Region.ready .any ops bg);have A:=ht i hi;(have bf:i<bg.size:=by omega);simp only[ei,Array.getD,bf,avw]at h1 A;rw[h1]at A;cases A);simp only[gd,BP];(cases cz:wr ops.toList 0 j with|none=>exact .refl _|some k=>have:=L5 cz;simp only;rw[ht k (by simpa using this)];exact .refl _);simp only[BP]at h;simp only[gd,bN];rw[HM (g:=λ_=>true) (λe ao _=>ht e.1 (bf e (gS x ▸ ao)))];exact h
 |n+1,x,bg,a,w,C,hsz,hc,M,bi=>by(have qI:0<bg.toList.count false:=by omega);have lG:=av9.1 qI;obtain⟨i,hi,I⟩:=List.getElem_of_mem lG;(have lN:i<bg.size:=by simpa using hi);have a7:Region.ready .any ops bg≠[]:=Sv ay hsz i i rfl atw (ayd);refine⟨λe=>absurd e a7,λi hi=>?_⟩;obtain⟨o,t1,Sp,qJ,lM⟩:=BE hi;(have gI:ops.toList[i]?=some o:=by simpa using t1);obtain⟨N,_⟩:=L2 ay (i:=i) (o:=o) gI;have G:=acN _ _ _ _ _ _ step gI x;rw[auu]at G;(have mh:i<bg.size:=by omega);(have kN:ei bg i=false:=by simp only[ei,Array.getD,mh,avw]at qJ⊢;exact qJ);have SJ:=Sy HQ gI;rw[auu]at SJ;(have BQ:∀k,kr ap i k=true->ei bg k=true:=λk Y=>by unfold kr at Y;rw[SJ]at Y;obtain⟨e,ao,I,h1⟩:=L3 Y;have A:ei bg e.on=true:=lM e ao I;rcases h1 with h1|h1;rw[<-h1];exact A;exact bi _ _ A h1);(have acP:L4 ap (ei (bg.setIfInBounds i true)):=by rw[Ef mh];intro j k aa Y;simp only[hu]at aa⊢;cases kk:Nat.beq k i with|true=>rfl|false =>simp only[auW];(cases e9:Nat.beq j i with|true=>have:=auc e9;subst this;exact BQ k Y|false=>rw[e9]at aa;exact bi j k aa Y));unfold wpOp;simp only[t1];(have L_:(bg.setIfInBounds i true).toList.count false=n:=axb);(have L':∀j,ei bg j=true->j≠i/\kr ap j i=false:=λj aa=>by refine⟨(λe=>by rw[e,kN]at aa;cases aa),?_⟩;cases h:kr ap j i with|false=>rfl|true=>rw[bi j i aa h]at kN;cases kN);obtain⟨HR,vn⟩:=acO (ops:=ops) (t0:=t0) (dA:=dA) (R:=R) (dY:=dY) (gS x) bi BQ kN;(have tmps:∀(aA:au) (b1:α),sJ ap i 0 (R b1)=sJ ap i 0 (R x)->(∀j,o.dst=some j->aq (aA.t j) ((R b1).getD i .any))->(∀j,o.dst≠some j->aA.t j=(gd t0 dA R dY ops x (ei bg)).t j)->∀j,aq (aA.t j) ((gd t0 dA R dY ops b1 (hu (ei bg) i)).t j):=λaA b1 fJ h1 A j=>by simp only[gd];cases cz:wr ops.toList 0 j with|none =>have Z:o.dst≠some j:=HK cz gI;have:=A j Z;simp only[gd,cz]at this;rw[this];exact .refl _|some k =>have aG:=(Sz cz ah).2 gI;rw[auu]at aG;simp only;(cases kk:Nat.beq k i with|true =>have:=auc kk;subst this;simp only[hu,au1,avq];exact h1 j (aG.2 rfl)|false =>(have a7:i≠k:=λe=>by rw[e,au1]at kk;cases kk);have:=A j (λe=>a7 (aG.1 e));simp only[gd,cz]at this;rw[this];simp only[hu,kk,auW];(cases Y:ei bg k with|false=>exact .refl _|true =>obtain⟨bb,cL⟩:=L' k Y;have:=SD fJ (k:=k) (by simpa using bb) (by simpa using cL);simp only[avq];rw[this];exact .refl _)));(have go:∀(b1:α) (aA:au) (bw:Act) (w':World) (aR:Nat->Nat),bH U w' aR aA bw->(∀j,aq (aA.t j) ((gd t0 dA R dY ops b1 (hu (ei bg) i)).t j))->(∀k p,(gd t0 dA R dY ops b1 (hu (ei bg) i)).H k=some p->aA.H k=some p)->wpAny P .any ops Q' n (bg.setIfInBounds i true) bw w':=λb1 aA bw w' aR bN h1 A=>by refine SI hT f7 ay ah HQ gS tZ pb step n b1 _ bw w' aR (by simpa using hsz) L_ ?_ acP;rw[Ef mh];exact bN.le h1 A);(have same:Et S i=true->∀k p,(gd t0 dA R dY ops x (hu (ei bg) i)).H k=some p->(gd t0 dA R dY ops x (ei bg)).H k=some p:=λaw k p h=>by simp only[gd,bN]at h⊢;rw[SF]at h;exact h;cases cF:qL (mi (dY x)) i k with|false=>rfl|true =>rw[gS x]at cF;obtain⟨e,ao,h1⟩:=au_.1 cF;have:=auE.1 aw e ao;rw[atN]at h1;rw[h1.1]at this;cases this);(have quiet:∀(aA:au) (bw:Act) (w':World) (aR:Nat->Nat),Et S i=true->(∃d,aq d ((R x).getD i .any)/\aA=(gd t0 dA R dY ops x (ei bg)).put o.dst d)->bH U w' aR aA bw->wpAny P .any ops Q' n (bg.setIfInBounds i true) bw w':=by rintro aA bw w' aR aw ⟨d,hg,rfl⟩ bN;refine go x _ bw w' aR bN (tmps _ x rfl (λj aa=>?_) (λj aa=>?_)) (λk p h=>?_);rw[aa];simp only[au.put,au1,avq];exact hg;exact Lw λt av e=>aa (by rw[av,e]);rw[DV];exact same aw k p h);(have wD:L8 ap S t0 dA R dY P B am ax ops x i o->o.wp P a w (λbw w'=>wpAny P .any ops Q' n (bg.setIfInBounds i true) bw w') Q':=by intro G;rcases G with G|G;replace G:=h_ G;obtain⟨aw,G⟩:=G;obtain⟨d,hK,hg⟩:=Bm hT G;have zU:=zH (a8:=Q') (K:=λaA=>∃d,aq d ((R x).getD i .any)/\aA=(gd t0 dA R dY ops x (ei bg)).put o.dst d) M N (d:=d) ⟨d,hK,rfl⟩ (hg rfl a.eval w C U.pL M.base ⟨λk y h=>M.heap.cj k y (vn k y h),λs bo y V b wM h1 A=>M.heap.inj s bo y V b wM (vn s y h1) (vn bo V A),λk y b h=>M.heap.cI k y b (vn k y h)⟩ (λy _=>cG (z:=tY ap S t0 dA R dY ops x i) (λj=>(HR j).le _ _ _ (M.tmps j)) y));exact Oper.wp_mono (λbw w' ⟨aA,aR,h1,A⟩=>quiet aA bw w' aR aw h1 A) zU;have zU:=acK hT M N HR vn (qL S i) G Q';refine Oper.wp_mono (λbw w' ⟨aA,aR,⟨b1,fJ,mU,h1,A,Z⟩,aG⟩=>?_) zU;refine go b1 _ bw w' aR aG (tmps _ b1 fJ (λj aa=>?_) (λj aa=>?_)) (λk p h=>?_);simp only[x7];rw[atI aa];unfold HN at h1;rw[aa]at h1;exact h1;simp only[x7];rw[atH aa];simp only[x7];have Ma:mi (dY b1)=S:=gS b1;cases ao:qL S i k with|true =>obtain⟨wY,bb,cL⟩:=SE (ba:=dY b1) (n:=ops.size) (i:=i) (k:=k) (f:=hu (ei bg) i) (by simp[hu]) (λj aa=>by cases e9:Nat.beq j i with|true =>have:=auc e9;subst this;(cases hs:kr ap j j with|false=>rfl|true=>rw[BQ j hs]at kN;cases kN)|false=>simp only[hu,e9,auW]at aa;exact(L' j aa).2) (by rw[Ma];exact tZ) (by rw[Ma];exact ao);simp only[gd,bN,cL]at h;subst h;rw[atI aty];exact HO A bb|false =>(have bb:(gd t0 dA R dY ops x (ei bg)).H k=some p:=by simp only[gd,bN]at h⊢;rw[SF (by rw[Ma];exact ao),SB L' mU]at h;exact h);by_cases hm:((tY ap S t0 dA R dY ops x i).H k).isSome=true;rw[atI (by simp[hm])];obtain⟨wY,zW⟩:=avB.1 hm;have:=vn k wY zW;rw[this]at bb;simp only[aus]at bb;subst bb;refine HP ao zW Z ?_;rw[aue];simp only[gd,bN]at this;split at this;rename_i y hy;right;have:=SH hy;rw[gS x]at this;exact this;left;exact SG this;rw[atH (by simpa using hm)];exact bb);unfold L9 at G;cases mT:o.guard with|none =>rw[mT]at G;rw[atI (by simp[Region.wanted,mT])];exact .inl (wD G)|some zR =>obtain⟨j,iz⟩:=zR;rw[mT]at G;obtain⟨g,b,h1,A,G⟩:=G;have jH:=(HR g).le _ _ _ (M.tmps g);change bh w C (HL t0 ops.toList ap (R x) i g) _ at jH;rw[A]at jH;have hy:=xZ h1 jH.hL;rcases G with⟨rfl,G⟩|⟨rfl,aw,G⟩|G;rw[atI (by simp[Region.wanted,mT,hy])];exact .inl (wD G);rw[atH (by cases iz<;>simp[Region.wanted,mT,hy])];exact quiet _ _ _ _ aw ⟨.undef,G,rfl⟩ (M.put N .undef);replace G:=h_ G;obtain⟨aw,G⟩:=G;(have cz:Region.wanted o (yielded ops a.tmps)=(b==iz):=by simp only[Region.wanted,mT,hy];cases b<;>cases iz<;>rfl);rw[cz];obtain⟨d,hK,hg⟩:=Bm hT G;(cases I:(b==iz)with|false =>rw[atH aty];rw[I]at hK;exact quiet _ _ _ _ aw ⟨_,hK,rfl⟩ (M.put N (.u2 _))|true =>rw[atI rfl];rw[I]at hK;have Z:=hg I a.eval w C U.pL M.base ⟨λk y h=>M.heap.cj k y (vn k y h),λs bo y V b wM h1 A=>M.heap.inj s bo y V b wM (vn s y h1) (vn bo V A),λk y b h=>M.heap.cI k y b (vn k y h)⟩ (λy _=>cG (z:=tY ap S t0 dA R dY ops x i) (λj=>(HR j).le _ _ _ (M.tmps j)) y);have zU:=zH (a8:=Q') (K:=λaA=>∃d,aq d ((R x).getD i .any)/\aA=(gd t0 dA R dY ops x (ei bg)).put o.dst d) M N (d:=.l5 true d) ⟨_,hK,rfl⟩ (by generalize(execOp a.eval o).run P w=r at*;cases r with|halt _ _=>exact Z|ok n w' =>(cases n with|value v=>obtain⟨aR,ae,hs⟩:=Z;exact⟨aR,.pH _ _ ae,hs⟩|enter f args=>exact⟨Z.1,Z.2.mono λe rs ⟨v,lD,ao,ae,hs⟩=>⟨v,lD,ao,.pH _ _ ae,hs⟩⟩|_=>exact Z));exact .inl (Oper.wp_mono (λbw w' ⟨aA,aR,h1,A⟩=>quiet aA bw w' aR aw h1 A) zU))
variable{id:Nat}{K:cJ->au->Prop}
theorem W.acQ{ax:List bx}(hT:df P ax)(hm:P.follows .mixedOrders=true)(dA:List (Nat×aJ))(ek:α)
  (R:α->List D) (dY:α->List (Nat×Nat×Option aJ)) (ap:List Nat) (S:List (Nat×Nat)) (gc:(wW am ops.toList 0&&(BO ops.toList&&(BN ap ops.toList 0&&x9 ap ops.size S)))=true)
  (gS:∀x,mi (dY x)=S) (h0:mJ z dA) (step:Eu ap S z.t dA R dY P B am ax ops ops.toList 0) (pb:∀x,K .normal (BP z.t dA R dY ops x)) :
  W U (.region id ops true) z K :=
 ⟨λa w C M=>wp_region_any hm (by
  simp only[atN]at gc;obtain⟨ay,ah,HQ,tZ⟩:=gc
  have e:ei (Array.replicate ops.size false)=λ_=>false:=by
   funext i
   simp only[ei,Array.getD];split<;>simp
  have acR:∀(ba:List (Nat×Nat×Option aJ)) k,lO ba (λ_=>false) k=none:=λba k=>by
   induction ba with
   |nil=>rfl
   |cons e r aZ=>obtain⟨i,q,o⟩:=e;simp only[lO,aZ,Bool.and_false,auW]
  refine SI hT (U:=U) (a8:=K .normal) (λz a w C bN hK=>⟨.normal,z,C,rfl,hK,bN⟩) ay ah HQ gS tZ pb step _ ek _ _ _ C aty aty ?_ (by rw[e];exact λi k h _=>by cases h);rw[e];refine M.drew.le (λj=>?_) (λk o h=>?_)
  ·simp only[gd];cases wr ops.toList 0 j<;>exact .refl _
  simp only[gd,bN,acR]at h
  exact h0.aL k o h)⟩
variable{ax:List bx}{K:au->Prop}{b:Nat}{aB:List D}
theorem bH.acS{s:Nat}{e:TypeId}(h:bH U w C z a)(hs:z.H s=some (.kE b e aB)):bH U w C (z.bZ s (some (.box b aB))) a:=by have I:(z.bZ s (some (.box b aB))).H s=some (.box b aB):=pT _ _ _;(have key:∀k o,(z.bZ s (some (.box b aB))).H k=some o->∃dn,z.H k=some dn/\(∀x,o.ef x->dn.ef x)/\(ty w C dn->ty w C o):=λk o ah=>by by_cases Y:k=s;subst Y;rw[I]at ah;cases ah;exact⟨_,hs,λx F=>F,λ⟨vs,h1,A,Z⟩=>⟨vs,e,h1,A,Z⟩⟩;rw[k5 _ _ Y]at ah;exact⟨o,ah,λ_ F=>F,id⟩);refine⟨h.tmps,⟨λk o ah=>?_,λk bz o bM x a7 h1 A an cV=>?_,λk o x ah an=>?_⟩,h.size,h.defers,h.step⟩;obtain⟨dn,h1,_,Z⟩:=key k o ah;exact Z (h.heap.cj k dn h1);obtain⟨dn,Z,aG,_⟩:=key k o h1;obtain⟨lK,bb,cL,_⟩:=key bz bM A;exact h.heap.inj k bz dn lK x a7 Z bb (aG x an) (cL x cV);obtain⟨dn,Z,aG,_⟩:=key k o ah;exact h.heap.cI k dn x Z (aG x an)
variable{t:Nat}{x:Operand}
theorem af.HS(hT:df P ax){s off:Nat}{e:TypeId}(F:z.ba x=.box s b off)(hs:z.H s=some (.kE b e aB))
  (al:zr ax (z.bZ s (some (.box b aB))) true t (.box s b off) λd=>K (z.put dst d)):af P B am z dst (.load t x) K :=
 .val λU w C a M type pos after=>by
  obtain⟨d,hK,N⟩:=RI (P:=P) hT al;have X:=cG M.tmps x;rw[F]at X
  obtain⟨aj,an,ae⟩:=N rfl w C U.pL _ (M.acS hs).heap X;exact⟨aj,w,C,z,d,by simp[execOp,an],M,ae,hK⟩
variable{e:Nat}{cc:bx}{V:List D}
theorem af.SK(hT:df P ax){s:Nat}(ao:dx ax e=some cc)(bC:cc.zero=some V)(hK:∀b:Nat,K ((z.bZ s (some (.kE b e V))).put (some s) (.box s b 0))):af P B am z (some s) (.alloc e) K :=
 .val λU w C a M type pos after=>by
  obtain⟨c2,rfl⟩:=hT.get ao;obtain⟨i,hi,_,_,nd⟩:=c2.qx;obtain⟨eh,lF,l_,jF⟩:=nd V bC;have a6:=c_.alloc (λ_=>False) w C (.cells eh.cells cc.t) 0
  refine⟨.pointer (some ⟨w.heap.size,0,none⟩),w.alloc (.cells eh.cells cc.t),_,_,_,by simp[execOp,Instr.alloc,zeroValue,typeInfo,hi,lF,newVar,newRow],
   M.newObj s (mN:=.kE w.heap.size cc.t V) (o:=.cells eh.cells cc.t) ⟨eh.cells.toList,kH _ _,(jF w C).ext a6.ext,hr _ _ _⟩ (λb I=>I),.box _ _ _,hK w.heap.size⟩
theorem acT(h:bH U w C z a){e:bx}(ao:e.gh P){s off:Nat}{bI:TypeId}(hH:z.H s=some (.kE b bI aB)){x:D}{K:List D->Prop}(G:Be e off aB x K)(ae:bh w C x v): ∃dv w' aR,K dv/\(Instr.storeAt e.t (.pointer (some ⟨b,off,none⟩)) v).run P w=.ok () w'/\bH U w' aR (z.bZ s (some (.kE b bI dv))) a:=by obtain⟨ds,hK,dO,pQ⟩:=RW G;obtain⟨h1,A,Z⟩:=pQ w C v ae;obtain⟨vs,I,hQ,de⟩:=h.heap.cj s _ hH;(have hS:off+0+v.cells.toList.length<=(⟨vs⟩:Array Value).size:=by have:=h1.1;have:=hQ.1;simp only[auI];omega);have cY:=run_storeCells_at P b off bI v.cells.toList 0 ⟨vs⟩ w I hS Z;simp only[av']at cY;have a6:=c_.setRow (C:=C) (n:=0) I (aB:=(vs.take off++v.cells.toList++vs.drop (off+v.cells.toList.length)).toArray) atw (λo ah=>by omega);refine⟨_,_,_,hK,?_,h.bZ a6 (s:=s) (λx F=>by subst F;exact h.heap.cI s _ _ hH rfl) (λbo bM eo a7 c7 an nQ=>?_) λy hy=>?_⟩;simp only[Instr.storeAt,Instr.sureAddr,Sem.run_bind,Sem.run_pure,Result.andThen_ok,storeVar,ao.size,A];simpa using cY;subst nQ;exact h.heap.inj bo s bM _ eo a7 c7 hH an rfl;cases hy;refine⟨⟨_,setRow_heap w b _ _ bI _ I,?_,hr _ _ _⟩,λx F=>?_⟩;have Ls:=(hQ.ext a6.ext).laid (h1.ext a6.ext) dO (r:=(vs.take off++v.cells.toList++vs.drop (off+v.cells.toList.length)).toArray) (by simp only[auI,atP,at7,auV];simp only[auI]at hS;omega) (λk=>by rw[avA];exact pU vs v.cells.toList off (by simpa using hS) k);simpa using Ls;simp only[aJ.ef]at F;subst F;exact⟨h.heap.cI s _ x hH rfl,.inl rfl⟩
variable{y:Operand}
theorem af.SL(hT:df P ax){s off:Nat}{e:TypeId}(F:z.ba x=.box s b off)(hs:z.H s=some (.kE b e aB))(av:dx ax t=some cc)
  (G:Be cc off aB (z.ba y) λdv=>K ((z.bZ s (some (.kE b e dv))).put dst .undef)):af P B am z dst (.store t x y) K :=
 .unit λU w C a M type pos after=>by
  obtain⟨c2,rfl⟩:=hT.get av;obtain⟨dv,w',aR,hK,cY,fI⟩:=acT M c2 hs G (cG M.tmps y);have X:=cG M.tmps x;rw[F]at X;exact⟨w',aR,_,by simp only[execOp,X.wC,Sem.run_bind,cY,Result.andThen_ok,Sem.run_pure],fI,hK⟩
variable{aF:bx}{xs a':List D}{aS:atG}{km:TypeId}
theorem acU(h:bH U w C z a){e:bx}(ao:e.gh P)(ki:aF.gh P)(b6:e.kind=.slice aF.t)(bC:aF.zero≠none)(h1:aF.aC=1){jM:TypeId}(qM:P.underlying jM=some .string){vs:Value}(Bo:a'=aS.map λc=>D.int .u8 c.toNat)(ma:(xs.length+a'.length)*aF.bytes<=140737488355328)(oA:xs.length+a'.length<=9223372036854775807)(h0:0<a'.length){q dst:Nat}(hH:z.H q=some (.row vs xs aF.aC aF.t)): ∃v w' aR,(Builtin.append_ #[e.t,jM] km #[vs,.string ⟨⟨aS⟩⟩]).run P w=.ok v w'/\bH U w' aR ((z.bZ q none).bZ dst (some (.row v (xs++a') aF.aC aF.t))) a:=by have an:=ao.kg b6;obtain⟨i,hi,hsz,o4,nd⟩:=ki.qx;obtain⟨V,bC⟩:=awG.1 bC;obtain⟨eh,lF,l_,jF⟩:=nd V bC;(have DT:eh.cells.size=aF.aC:=by have:=(jF w C).1;rw[l_]at this;simpa using this.symm);have M:=h.drop q;(have hlen:(xs++a').length=xs.length+a'.length:=by simp);obtain⟨bJ,cap,fy,hcap,Bn,pX,_,cz⟩:=h.heap.cj q _ hH;(have eW:a'.length=aS.length:=by rw[Bo];simp);(have n0:i.size=1:=by omega);(have BR:Src P i.size jM (.string ⟨⟨aS⟩⟩) a'.length (byteCells ⟨⟨aS⟩⟩) w:=by have:=Src.ofString (P:=P) w qM ⟨⟨aS⟩⟩;rw[n0,eW];exact this);obtain⟨fp,HT⟩:∃fp,fp=byteCells ⟨⟨aS⟩⟩:=⟨_,rfl⟩;rw[<-HT]at BR;(have jG:fp.length=a'.length*aF.aC:=by rw[HT,eW,h1];simp[byteCells]);(have Bp:∀x∈a',x.cells.length=aF.aC:=λx F=>by rw[Bo]at F;obtain⟨c,_,rfl⟩:=aub.1 F;rw[h1];rfl);have BS:b2 a'=a':=rD (λx F=>by rw[Bo]at F;obtain⟨c,_,rfl⟩:=aub.1 F;rfl);(have xX:∀(j:Nat) d,(b2 a')[j]?=some d->∃aj,fp[j]?=some aj/\bh w C d aj/\aj.oneCell'=true:=λj d N=>by rw[BS,Bo,aud]at N;obtain⟨c,hc,rfl⟩:=auP.1 N;refine⟨.int .u8 c.toNat,?_,.int .u8 _,rfl⟩;rw[HT];simp only[byteCells,aud];simp[hc]);(have wL:fp.length=a'.length*i.size:=by rw[jG,hsz]);(have Ee:∀x∈xs++a',x.cells.length=aF.aC:=λx F=>ax4);have dm:=pI pX;(have fresh:∀(kK:List Value) (kn:Nat),kK.length=xs.length*aF.aC->(∀(j:Nat) d,(b2 xs)[j]?=some d->∃aj,kK[j]?=some aj/\bh w C d aj/\aj.oneCell'=true)->∀v,v=.slice (some ⟨w.heap.size,0,none⟩) (xs.length+a'.length) (grownCap w (xs.length+a'.length) kn aF.t)->∀w',w'=w.drew.alloc (.cells (kK.toArray++fp.toArray++Builtin.zeroCells eh.cells (grownCap w (xs.length+a'.length) kn aF.t-(xs.length+a'.length))) aF.t)->∃aR,bH U w' aR ((z.bZ q none).bZ dst (some (.row v (xs++a') aF.aC aF.t))) a:=axa);subst fy;by_cases ia:0<cap;obtain⟨b,ft,rfl,I,hcs,Hi,mb⟩:=cz ia;have e8:aJ.ef (.row (.slice (some ⟨b,0,none⟩) xs.length cap) xs aF.aC aF.t) b:=⟨_,cap,rfl,ia⟩;(have acd:xs.length*aF.aC<=ft.size:=by rw[hcs];exact avi _ hcap);by_cases sD:xs.length+a'.length<=cap;(have hS:xs.length*i.size+fp.length<=ft.size:=by rw[hsz,jG,hcs,<-awH];exact avi _ sD);(have ae:(Builtin.append_ #[e.t,jM] km #[.slice (some ⟨b,0,none⟩) xs.length cap,.string ⟨⟨aS⟩⟩]).run P w=.ok (.slice (some ⟨b,0,none⟩) (xs.length+a'.length) cap) (w.setRow b (ft.toList.take (xs.length*aF.aC)++fp++ft.toList.drop (xs.length*aF.aC+fp.length)).toArray):=by have bV:(⟨⟨aS⟩⟩:ByteArray).size=a'.length:=eW.symm;(have b9:xs.length+a'.length<=ft.size:=by rw[hcs,h1];omega);have:=Lib.run_append_room_string (P:=P) w e.t jM km aF.t i an qM hi n0 b xs.length cap ft I ⟨⟨aS⟩⟩ (by rw[bV];exact sD) (by rw[bV];exact b9);rw[bV]at this;rw[jG,h1,awv,awv,HT];exact this);rw[hsz]at hS;have a6:=c_.setRow (C:=C) (n:=0) I (aB:=(ft.toList.take (xs.length*aF.aC)++fp++ft.toList.drop (xs.length*aF.aC+fp.length)).toArray) atw (λo ah=>by omega);refine⟨_,_,_,ae,M.bZ a6 (λx F=>ayt) (λbo o eo a7 c7 cV qA=>?_) λx F=>?_⟩;subst qA;by_cases G:bo=q;subst G;rw[pT]at c7;cases c7;rw[k5 z none G]at c7;exact h.heap.inj bo q o _ eo G c7 hH cV e8;cases F;refine⟨⟨_,cap,by rw[hlen],by rw[hlen];exact sD,Bn,Ee,λdE gb=>⟨b,by cases gb;rfl,auz (hD I) a6.ext.size⟩,λ_=>⟨b,_,rfl,setRow_heap w b ft _ aF.t _ I,?_,hr _ _ _,λj d N=>?_⟩⟩,λx F=>?_⟩;simp only[auI,atP,at7,auV,avx];omega;rw[xT,pV]at N;rw[avA];split at N;obtain⟨aj,an,ae,ah⟩:=mb j d N;refine⟨aj,?_,ae.ext a6.ext,ah⟩;rw[pU _ _ _ atx,atH atw];simpa using an;obtain⟨aj,an,ae,ah⟩:=xX _ d N;refine⟨aj,?_,ae.ext a6.ext,ah⟩;have:=e7 an;rw[pU _ _ _ atx,atI ⟨by omega,by omega,by simp;omega⟩,<-dm];exact an;obtain⟨hM,hP,dP,_⟩:=F;simp only[Value.slice.injEq,aus,Addr.mk.injEq]at dP;obtain⟨⟨rfl,_⟩,_⟩:=dP;exact⟨h.heap.cI q _ _ hH e8,.inl rfl⟩;(have Bq:∀(j:Nat) aj,(ft.toList.take (xs.length*aF.aC))[j]?=some aj->w.cell? ((⟨b,0,none⟩:Addr).add j)=some aj:=λj aj aa=>axK);have ae:=run_append_grow_src (P:=P) w e.t jM km aF.t i eh an hi lF (some ⟨b,0,none⟩) xs.length cap (ft.toList.take (xs.length*aF.aC)) (run_firstCells_some w.drew i.size xs.length ⟨b,0,none⟩ xs.length cap _ (by rw[hsz];simp;omega) (by simpa using Bq)) _ a'.length fp BR atw atw (ayv);rw[show(ft.toList.take (xs.length*aF.aC)++fp).toArray=(ft.toList.take (xs.length*aF.aC)).toArray++fp.toArray by simp]at ae;obtain⟨aR,h1⟩:=fresh (ft.toList.take (xs.length*aF.aC)) cap atx (λj d N=>axF) _ rfl _ rfl;exact⟨_,_,aR,ae,h1⟩;have F:xs=[]:=atZ atw;subst F;(have LQ:cap=0:=by omega);subst LQ;cases bJ with|none =>simp only[auh,auu]at ma oA fresh;have ae:=run_append_grow_src (P:=P) w e.t jM km aF.t i eh an hi lF none 0 0 [] (run_firstCells_none w.drew i.size 0 0 0) _ a'.length fp BR atw atw (ax7);rw[show(([]:List Value)++fp).toArray=([]:List Value).toArray++fp.toArray by simp,auu]at ae;obtain⟨aR,A⟩:=fresh [] 0 aty (λj d N=>by simp[b2]at N) _ rfl _ rfl;exact⟨_,_,aR,ae,by simpa using A⟩|some u9 =>have ae:=run_append_grow_src (P:=P) w e.t jM km aF.t i eh an hi lF (some u9) 0 0 [] (run_firstCells_some w.drew i.size 0 u9 0 0 [] aty (λj aj aa=>by simp at aa)) _ a'.length fp BR atw atw (ax7);rw[show(([]:List Value)++fp).toArray=([]:List Value).toArray++fp.toArray by simp]at ae;obtain⟨aR,A⟩:=fresh [] 0 aty (λj d N=>by simp[b2]at N) _ rfl _ rfl;exact⟨_,_,aR,ae,by simpa using A⟩
variable{jM:Nat}
theorem af.acV(hT:df P ax){bI s:Nat}(q:Nat)(av:dx ax t=some cc)(b6:cc.kind=.slice bI)(fq:dx ax bI=some aF)(bC:aF.zero≠none)(h1:aF.aC=1)
  (qM:P.underlying jM=some .string) (F:z.ba x=.ai v) (hH:z.H q=some (.row v xs 1 bI)) (hy:z.ba y=.O aS) (h0:0<aS.length) (ma:(xs.length+aS.length)*aF.bytes<=140737488355328) (oA:xs.length+aS.length<=9223372036854775807)
  (hK:∀c9:Value,K (((z.bZ q none).bZ s (some (.row c9 (xs++aS.map λc=>D.int .u8 c.toNat) 1 bI))).put (some s) (.ai c9))):af P B am z (some s) (.call ⟨.builtin .append,#[x,y],#[t,jM]⟩) K :=
 .val λU w C a M type pos after=>by
  obtain⟨c2,rfl⟩:=hT.get av;obtain⟨fo,rfl⟩:=hT.get fq;have fX:=cG M.tmps x;rw[F]at fX
  have kM:=cG M.tmps y;rw[hy]at kM
  have al:(aS.map λc=>D.int .u8 c.toNat).length=aS.length:=by simp
  obtain⟨c9,w',aR,cY,fI⟩:=acU M c2 fo b6 bC h1 qM (xs:=xs) (a':=aS.map λc=>D.int .u8 c.toNat) (aS:=aS) (vs:=v) (q:=q) rfl (by rw[al];exact ma) (by rw[al];exact oA) (by rw[al];exact h0) (dst:=s) (km:=type) (by rw[h1];exact hH);rw[h1]at fI;refine⟨c9,w',aR,_,_,?_,fI,.ai c9,hK c9⟩;rw[<-fX.f4,<-kM.kD]at cY;simp[execOp,resolve,invoke,builtin,cY]
variable{dv:List D}{c:Code}
theorem W.SM{K:cJ->au->Prop}(s:Nat){e:TypeId}(hs:z.H s=some (.kE b e aB))(dO:dN aB dv)(h:W U c (z.bZ s (some (.kE b e dv))) K):W U c z K :=
 ⟨λa w C M=>h.run a w C (M.bZ (Ft:=λx=>x=b) (.refl _ _ _) (λx F=>by subst F;exact M.heap.cI s _ _ hs rfl) (λbo o x a7 ah an F=>by subst F;exact M.heap.inj bo s o _ x a7 ah hs an rfl) (λx F=>by
  cases F
  obtain⟨vs,h1,A,Z⟩:=M.heap.cj s _ hs
  exact⟨⟨vs,h1,dO.rv A,Z⟩,λy hy=>by simp only[aJ.ef]at hy;subst hy;exact⟨M.heap.cI s _ _ hs rfl,.inl rfl⟩⟩))⟩
variable{cap:Nat}
theorem af.acW{t:TypeId}{n:Nat}{K:au->Prop}(F:z.ba x=.ai (.slice (some ⟨b,0,none⟩) n cap))(hc:cap≠0)(hK:K (z.put dst (.ai (.pointer (some ⟨b,0,none⟩))))):
  af P B am z dst (.call ⟨.builtin .unsafeSliceData,#[x],#[t]⟩) K :=
 .val λU w C a M type pos after=>by
  have X:=cG M.tmps x;rw[F]at X
  have ae:=X.f4;refine⟨_,w,C,z,_,?_,M,.ai _,hK⟩;simp[execOp,resolve,invoke,builtin,ae,Lib.run_unsafeSliceData_row (P:=P) w _ _ _ _ _ hc]
theorem c_.freeze{w:World}{C:Nat->Nat}{b n:Nat}(de:C b=0):c_ (λx=>x=b) w C (w.freeze ⟨b,0,none⟩ n) C:=by unfold World.freeze;split;exact c_.refl _ _ _;(have Y:∀(f:Obj->Obj) x,x≠b->(w.heap.modify b f)[x]?=w.heap[x]?:=λf x F=>by simp only[awa];rw[atH (λe=>F e.symm)]);refine⟨⟨by simp,λ_ _=>atQ _,λx i F hi=>?_⟩,rfl,rfl,rfl,λx F aw=>⟨Y _ x aw,rfl⟩⟩;(have a7:x≠b:=λe=>by subst e;omega);simp only[World.cell?];rw[Y _ x a7]
theorem af.acX(hT:df P ax){bI:Nat}(q:Nat){K:au->Prop}(av:dx ax t=some cc)(b6:cc.kind=.slice bI)(fq:dx ax bI=some aF)(h1:aF.aC=1)
  (qM:P.underlying jM=some .string) (F:z.ba x=.ai v) (hH:z.H q=some (.row v xs k e)) (hy:z.ba y=.O []) (hK:K (z.put dst (.ai v))):af P B am z dst (.call ⟨.builtin .append,#[x,y],#[t,jM]⟩) K :=
 .val λU w C a M type pos after=>by
  obtain⟨c2,rfl⟩:=hT.get av;obtain⟨fo,rfl⟩:=hT.get fq;have an:=c2.kg b6;obtain⟨i,hi,hsz,o4,nd⟩:=fo.qx;have fX:=cG M.tmps x;rw[F]at fX
  have kM:=cG M.tmps y;rw[hy]at kM
  obtain⟨bJ,cap,X,hc,_⟩:=M.heap.cj q _ hH;subst X;have n0:i.size=1:=atw
  have BR:=Src.ofString (P:=P) w qM ⟨⟨[]⟩⟩
  have cY:(Builtin.append_ #[cc.t,jM] type #[.slice bJ xs.length cap,.string ⟨⟨[]⟩⟩]).run P w=.ok (.slice bJ xs.length cap) w :=
   run_append_nothing w cc.t jM type aF.t i an hi bJ xs.length cap hc _ (by rw[n0];exact BR)
  have bV:=fX.f4;have b9:=kM.kD;rw[<-bV,<-b9]at cY;rw[bV]at cY;refine⟨.slice bJ xs.length cap,w,C,z,_,?_,M,.ai _,hK⟩;simp[execOp,resolve,invoke,builtin,bV,cY]
theorem bH.BT{q s:Nat}{o:aJ}(h:bH U w C z a)(hH:z.H q=some o):bH U w C ((z.bZ q none).bZ s (some o)) a:=by refine(h.drop q).bZ (Ft:=λb=>aJ.ef o b) (.refl _ _ _) (λb I=>h.heap.cI q _ b hH I) (λbo bM b a7 c7 cV I=>?_) λx F=>?_;by_cases G:bo=q;subst G;rw[pT]at c7;cases c7;rw[k5 z none G]at c7;exact h.heap.inj bo q bM _ b G c7 hH cV I;cases F;exact⟨h.heap.cj q _ hH,λb I=>⟨h.heap.cI q _ b hH I,.inl I⟩⟩
theorem af.acY(hT:df P ax){bI s:Nat}(q:Nat){K:au->Prop}(av:dx ax t=some cc)(b6:cc.kind=.slice bI)(fq:dx ax bI=some aF)(bC:aF.zero≠none)(h1:aF.aC=1)(qM:P.underlying jM=some .string)(F:z.ba x=.ai v)(hH:z.H q=some (.row v xs 1 bI))(hy:z.ba y=.O aS)(ma:(xs.length+aS.length)*aF.bytes<=140737488355328)(oA:xs.length+aS.length<=9223372036854775807)(hK:∀c9:Value,K (((z.bZ q none).bZ s (some (.row c9 (xs++aS.map λc=>D.int .u8 c.toNat) 1 bI))).put (some s) (.ai c9))):af P B am z (some s) (.call ⟨.builtin .append,#[x,y],#[t,jM]⟩) K:=by cases aS with|cons c r=>exact .acV hT q av b6 fq bC h1 qM F hH hy aty ma oA hK|nil =>have A:af P B am z (some s) (.call ⟨.builtin .append,#[x,y],#[t,jM]⟩) (λaA=>aA=z.put (some s) (.ai v)):=.acX hT q av b6 fq h1 qM F hH hy rfl;have Z:=hK v;simp only[avr,auG]at Z;refine⟨λU w C a M N type pos after a8=>Oper.wp_mono (λbw w' ⟨aA,aR,ao,bN⟩=>?_) (A.run U w C a M N type pos after a8)⟩;subst ao;exact⟨_,aR,Z,bN.BT (q:=q) (s:=s) (by rw[DV];exact hH)⟩
theorem af.acZ(hT:df P ax){Mb SN bI:TypeId}(q:Nat){K:au->Prop}(HU:P.underlying Mb=some (.pointer bI))(fq:dx ax bI=some aF)(h1:aF.aC=1)
  (hH:z.H q=some (.row (.slice (some ⟨b,0,none⟩) aS.length cap) (aS.map λc=>D.int .u8 c.toNat) 1 bI)) (F:z.ba x=.ai (.pointer (some ⟨b,0,none⟩))) (hy:z.ba y=.int .i64 (aS.length:Nat)) (h0:0<aS.length)
  (oA:aS.length<=9223372036854775807) (hK:K ((z.bZ q none).put dst (.O aS))):af P B am z dst (.call ⟨.builtin .unsafeString,#[x,y],#[Mb,SN]⟩) K :=
 .val λU w C a M type pos after=>by
  obtain⟨fo,rfl⟩:=hT.get fq;have fX:=cG M.tmps x;rw[F]at fX
  have kM:=cG M.tmps y;rw[hy]at kM
  have mb:=M.heap.cj q _ hH;obtain⟨bJ,hP,X,hc,hm,Y,eW,cz⟩:=mb;simp only[Value.slice.injEq]at X;obtain⟨rfl,_,rfl⟩:=X;have ac0:(aS.map λc=>D.int .u8 c.toNat).length=aS.length:=by simp
  rw[ac0]at hc;obtain⟨eo,vs,qA,I,hsz,de,ae⟩:=cz atw;cases qA
  have e8:aJ.ef (.row (.slice (some ⟨b,0,none⟩) aS.length cap) (aS.map λc=>D.int .u8 c.toNat) 1 aF.t) b:=⟨_,cap,rfl,by omega⟩;have dm:b2 (aS.map λc=>D.int .u8 c.toNat)=aS.map λc=>D.int .u8 c.toNat:=rD (λx F=>by obtain⟨c,_,rfl⟩:=aub.1 F;rfl)
  have ga:∀j x,aS[j]?=some x->w.cell? ((⟨b,0,none⟩:Addr).add j)=some (.int .u8 x.toNat):=λj x aa=>by
   obtain⟨aj,Z,aG,_⟩:=ae j (.int .u8 x.toNat) (by rw[dm,aud,aa];rfl);rw[o0,auu];simp only[World.cell?,I];rw[aG.fw]at Z;simpa using Z
  have cY:=Lib.run_unsafeString_row (P:=P) w Mb SN type aF.t HU (by rw[fo.cellsOf,h1]) b (cap*1) (by simp[World.shape?,I,hsz]) aS (by intro e;subst e;simp at h0) atw oA ga;refine⟨.string ⟨aS.toArray⟩,w.freeze ⟨b,0,none⟩ aS.length,C,z.bZ q none,.O aS,?_,M.bZ (Ft:=λx=>x=b) (c_.freeze de) (λx F=>by subst F;exact M.heap.cI q _ _ hH e8) (λbo o x a7 ah an F=>by subst F;exact M.heap.inj bo q o _ x a7 ah hH an e8) (λx F=>by cases F),.O aS,hK⟩;have bV:=fX.f4;have b9:=kM.fw;simp[execOp,resolve,invoke,builtin,bV,b9,cY]
def cM(l:List (Nat×aJ))(cv:bE):bE:=λs=>match aL l s with|some o=>some o|none=>cv s
variable{cv:bE}
theorem nr.Mc{l:List (Nat×aJ)}(h:mJ z l)(N:∀k o,cv k=some o->z.H k=some o):nr z (cM l cv):=λk o ah=>by
 unfold cM at ah
 cases al:aL l k with
 |some bM=>rw[al]at ah;cases ah;exact h.aL k _ al
 |none=>rw[al]at ah;exact N k o ah
theorem SO{l:List (Nat×aJ)}(h:aL l k=none):cM l cv k=cv k:=by unfold cM;rw[h]
theorem HV{α:Type}:∀{l:List (Nat×α)} {k:Nat},(∀p∈l,p.1≠k)->aL l k=none
 |[],_,_=>rfl
 |(i,d)::r,k,h=>by have h1:=h (i,d) atU;simp only[aL];cases I:Nat.beq k i with|true=>exact absurd (auc I).symm h1|false=>exact HV λp ay=>h p (atY _ ay)
variable{j:Nat}{tg:iv}
section
theorem af.n1(hT:df P ax)(s:Nat)(F:z.ba x=.ai (hW v (i*k+j)))(hs:z.H s=some (.row v xs k e))(av:dx ax t=some cc){y:D}
  (hy:xs[i]?=some y) (al:DF cc k j y λd=>K (z.put dst d)):af P B am z dst (.load t x) K :=
 .val λU w C a M type pos after=>by
  obtain⟨c2,rfl⟩:=hT.get av;have X:=cG M.tmps x;rw[F]at X
  obtain⟨b,cap,vs,rfl,_,_,Y,I,hsz,_,ae⟩:=kf.pos (M.heap.cj s _ hs) (e7 hy);obtain⟨d,hK,N⟩:=K8 c2 al
  obtain⟨aj,an,LJ⟩:=N w C b (0+i*k) (λj=>vs.getD (i*k+j) undef) (Y y (at1 hy)) (λj d N=>by
   have aa:j<k:=by rw[<-Y y (at1 hy)];exact e7 N
   obtain⟨aj,h1,A,_⟩:=ae (i*k+j) d (by rw[wH Y hy aa];exact N);refine⟨?_,?_⟩
   ·simp only[World.cell?,I,auu];simp[h1,avt]
   simp[avt,h1,A])
  refine⟨aj,w,C,z,d,?_,M,LJ,hK⟩;simp only[hW]at X
  have dP:a.eval x=.pointer (some ⟨b,0+i*k+j,none⟩):=by
   rw[X.f4,avH]
  simp only[execOp,dP,Sem.run_bind,an,Result.andThen_ok,Sem.run_pure]
theorem af.SP(hT:df P ax){bI s:Nat}(q ry:Nat)(av:dx ax t=some cc)(b6:cc.kind=.slice bI)(fq:dx ax bI=some aF)(bC:aF.zero≠none)
  (F:z.ba x=.Q (.own ry v) aF.aC xs) (hH:z.H q=some (.own v xs.length aF.aC bI)) (hy:z.ba y=.Q tg aF.aC a') (ma:(xs.length+a'.length)*aF.bytes<=140737488355328) (oA:xs.length+a'.length<=9223372036854775807)
  (hK:∀c9:Value,K (((z.bZ q none).bZ s (some (.own c9 (xs.length+a'.length) aF.aC bI))).put (some s) (.Q (.own s c9) aF.aC (xs++a')))):af P B am z (some s) (.call ⟨.builtin .append,#[x,y],#[t,t]⟩) K :=
 .val λU w C a M type pos after=>by
  obtain⟨c2,rfl⟩:=hT.get av;obtain⟨fo,rfl⟩:=hT.get fq;have fX:=cG M.tmps x;rw[F]at fX
  have kM:=cG M.tmps y;rw[hy]at kM
  have rL:a.eval x=v:=by
   rcases fX.kh with⟨_,_,av⟩|⟨b,o,cap,g,_,av,_⟩
   ·exact av
   exact av
  obtain⟨c9,w',aR,cY,eQ,fI⟩:=RX (a:=a) M c2 fo b6 bC fX kM ma oA (q:=q) (dst:=s) (km:=type) (.inr (by rw[rL];exact hH));refine⟨c9,w',aR,_,_,?_,fI,eQ,hK c9⟩;simp[execOp,resolve,invoke,builtin,cY]
end
set_option linter.unusedVariables false in
theorem dN.lP:∀{a b c d:List D},dN a b->dN c d->dN (a++c) (b++d)
 |[],[],_,_,_,A=>A
 |a0::ac1,k9::SQ,c,d,h1,A=>⟨h1.1,dN.lP (a:=ac1) (b:=SQ) h1.2 A⟩
theorem dN.b2:∀{xs a':List D},xs.length=a'.length->(∀(i:Nat) x y,xs[i]?=some x->a'[i]?=some y->dN x.cells y.cells)->dN (b2 xs) (b2 a')
 |[],[],_,_=>trivial
 |x::xs,y::a',al,h=>dN.lP (h 0 x y rfl rfl) (dN.b2 (xs:=xs) (a':=a') (by simpa using al) λi a b ha I=>h (i+1) a b ha I)
theorem W.SR{K:cJ->au->Prop}(h:W U c z λe aA=>∃l hs m,nS aA l hs m/\K e (hf l hs)):W U c z K :=
 ⟨λa w C M=>wp_mono (h.run a w C M) λ_ _ _ ⟨c6,_,aR,ao,⟨_,_,_,Y,hK⟩,bN⟩=>⟨c6,_,aR,ao,hK,bN.Ho Y⟩⟩
theorem ac2(f:Nat->Bool)(n:Nat)(h:∀i,i<n->f i=true):∃g:Nat->Bool,f=λj=>_root_.cond (Nat.blt j n) true (g j) :=
 ⟨f,funext λj=>by
  cases I:Nat.blt j n with
  |false=>rfl
  |true=>exact h j (by simpa using I)⟩
theorem Ev(f:Nat->Bool)(k:Nat)(h:f k=true):∃g:Nat->Bool,f=λj=>_root_.cond (Nat.beq j k) true (g j) :=
 ⟨f,funext λj=>by cases I:Nat.beq j k with|false=>rfl|true=>rw[auc I];exact h⟩
def x'(H:bE):List (Nat×Nat)->List (Nat×aJ)->Prop
 |[],[]=>True
 |(k,s)::m,(bz,o)::hs=>k=bz/\H s=some o/\x' H m hs
 |_,_=>False
theorem Md{H:bE}:∀{m:List (Nat×Nat)} {hs:List (Nat×aJ)},x' H m hs->∀j,gx H m j=aL hs j
 |[],[],_,j=>rfl
 |(k,s)::m,(bz,o)::hs,h,j=>by obtain⟨rfl,h1,A⟩:=h;have aZ:=Md A j;simp only[gx,aL]at aZ⊢;cases Nat.beq j k with|true=>exact h1|false=>exact aZ
variable{f:FuncId}{ds:List D}{a8:D->bE->Prop}{m:List (Nat×Nat)}{hs:List (Nat×aJ)}
theorem c5.wZ{H:bE}(h:x' H m hs)(hc:c5 P B f ds (aL hs) a8):c5 P B f ds (gx H m) a8:=by rw[show gx H m=aL hs from funext (Md h)];exact hc
theorem SS{H:bE}:∀{m:List (Nat×Nat)},j0 m=true->∀p∈m,gx H m p.1=H p.2
 |(k,s)::r,hm,p,ay=>by rw[j0,atN]at hm;simp only[gx];rcases at5.1 ay with rfl|ay;simp;have h1:=auE.1 hm.1 p ay;rw[atN]at h1;(have A:Nat.beq p.1 k=false:=by simpa using h1.1);rw[A];exact SS hm.2 p ay
theorem ST{H aP:bE}:∀{m:List (Nat×Nat)},(∀p∈m,aP p.1=H p.2)->qB H aP m=H
 |[],_=>rfl
 |(k,s)::r,h=>by funext j;simp only[qB];cases I:Nat.beq j s with|true=>rw[auc I];exact h (k,s) atU|false=>exact congrFun (ST λp ay=>h p (atY _ ay)) j
variable{args:Array Operand}{mM:Array TypeId}{b8:FuncId}{cu:List D}{d':D}
theorem af.BU{K:au->Prop}{f:Operand}{first:List D}(M:z.ba f=.fn (.func b8) first cu)
  (gZ:List D) (m:List (Nat×Nat))  {eX:D} (h:x' z.H m hs) (hc:c5 P B b8 gZ (aL hs) λd aP=>d=eX/\aP=aL hs) (hm:j0 m=true) (dO:dN (first++args.toList.map z.ba++cu) gZ)
   (N:aq eX d') (hK:K (z.put dst d')):af P B am z dst (.call ⟨.value f,args,mM⟩) K :=
 af.call M gZ m (c5.wZ h hc) hm dO λd aP G=>by
  obtain⟨rfl,rfl⟩:=G;refine⟨d',N,?_⟩;have e:aL hs=gx z.H m:=(funext (Md h)).symm;rw[show qB z.H (aL hs) m=z.H from ST λp ay=>by rw[e];exact SS hm p ay];exact hK
theorem af.Ew{K:au->Prop}{t:TypeId}{m:Operand}(h:af P B am z dst (.mapUpdate t m x y) K):af P B am z dst (.insert t m x y) K :=
 ⟨λU w C a M N type pos after a8=>h.1 U w C a M N type pos after a8⟩
def Me(H:bE):List (Nat×Nat)->Prop
 |[]=>True
 |(_,s)::m=>H s=none/\Me H m
theorem SU{H:bE}:∀{m:List (Nat×Nat)},Me H m->∀j,gx H m j=none
 |[],_,j=>rfl
 |(k,s)::m,h,j=>by have aZ:=SU h.2 j;simp only[gx];cases Nat.beq j k with|true=>exact h.1|false=>exact aZ
theorem c5.SV{H:bE}(h:Me H m)(hc:c5 P B f ds bE.none a8):c5 P B f ds (gx H m) a8:=by rw[show gx H m=bE.none from funext (SU h)];exact hc
theorem W.ac3{K:cJ->au->Prop}(s:Nat)(hs:z.H s=some (.row v xs k e))(h0:0<xs.length)
  (h:∀b cap,v=.slice (some ⟨b,0,none⟩) xs.length cap->xs.length<=cap->cap<=maxLen->W U c z K):W U c z K :=
 ⟨λa w C M=>by
  obtain⟨b,cap,vs,X,hc,hm,_⟩:=kf.pos (i:=0) (M.heap.cj s _ hs) h0
  exact(h b cap X hc hm).run a w C M⟩
variable{op:Op}
theorem af.plain(hT:df P ax)(G:nO P B ax z dst op K):af P B am z dst op K :=
 ⟨λU w C a M N type pos after a8=>tL hT M N G a8⟩
variable{sI qK j3:Operand}{gR a2 a3:Int}
theorem af.ac4{t e:TypeId}{HW Mf Mg Mh Mi Mj Mk Ml Mm:Operand}{i:TypeInfo}{q:IntKind}{a0 a4 a5 zX Ex zY a9 Ey Ez:Int}(an:P.underlying t=some (.array 12 e))(hi:P.info? e=some i)(hsz:i.size=1)
  (bC:∀w,(zeroValue t).run P w=.ok (.agg #[.int q 0,.int q 0,.int q 0,.int q 0,.int q 0,.int q 0,.int q 0,.int q 0,.int q 0,.int q 0,.int q 0,.int q 0]) w) (h0:z.ba sI=.int q a0) (h1:z.ba qK=.int q gR) (A:z.ba j3=.int q a2) (Z:z.ba HW=.int q a3) (aG:z.ba Mf=.int q a4) (bb:z.ba Mg=.int q a5) (cL:z.ba Mh=.int q zX) (eV:z.ba Mi=.int q Ex) (fZ:z.ba Mj=.int q zY) (hw:z.ba Mk=.int q a9) (sK:z.ba Ml=.int q Ey) (rM:z.ba Mm=.int q Ez)
  (hK:K (z.put dst (.agg [.int q a0,.int q gR,.int q a2,.int q a3,.int q a4,.int q a5,.int q zX,.int q Ex,.int q zY,.int q a9,.int q Ey,.int q Ez]))):af P B am z dst (.build t #[(0,sI),(1,qK),(2,j3),(3,HW),(4,Mf),(5,Mg),(6,Mh),(7,Mi),(8,Mj),(9,Mk),(10,Ml),(11,Mm)]) K :=
 .val λU w C a M type pos after=>by
  have v0:=cG M.tmps sI;rw[h0]at v0
  have jk:=cG M.tmps qK;rw[h1]at jk
  have v2:=cG M.tmps j3;rw[A]at v2
  have v3:=cG M.tmps HW;rw[Z]at v3
  have v4:=cG M.tmps Mf;rw[aG]at v4
  have v5:=cG M.tmps Mg;rw[bb]at v5
  have BV:=cG M.tmps Mh;rw[cL]at BV
  have HX:=cG M.tmps Mi;rw[eV]at HX
  have SX:=cG M.tmps Mj;rw[fZ]at SX
  have v9:=cG M.tmps Mk;rw[hw]at v9
  have SY:=cG M.tmps Ml;rw[sK]at SY
  have SZ:=cG M.tmps Mm;rw[rM]at SZ
  refine⟨.agg #[.int q a0,.int q gR,.int q a2,.int q a3,.int q a4,.int q a5,.int q zX,.int q Ex,.int q zY,.int q a9,.int q Ey,.int q Ez],w,C,z,_,?_,M,.agg [.int q a0,.int q gR,.int q a2,.int q a3,.int q a4,.int q a5,.int q zX,.int q Ex,.int q zY,.int q a9,.int q Ey,.int q Ez] [.int q a0,.int q gR,.int q a2,.int q a3,.int q a4,.int q a5,.int q zX,.int q Ex,.int q zY,.int q a9,.int q Ey,.int q Ez] rfl (λj d v N X=>?_),hK⟩
  ·simp[execOp,v0.fw,jk.fw,v2.fw,v3.fw,v4.fw,v5.fw,BV.fw,HX.fw,SX.fw,v9.fw,SY.fw,SZ.fw,Instr.build,bC,run_underlying an,zx hi,hsz,Result.andThen,Instr.fill,Value.cells]
  match j with
  |0=>cases N;cases X;exact .int _ _
  |1=>cases N;cases X;exact .int _ _
  |2=>cases N;cases X;exact .int _ _
  |3=>cases N;cases X;exact .int _ _
  |4=>cases N;cases X;exact .int _ _
  |5=>cases N;cases X;exact .int _ _
  |6=>cases N;cases X;exact .int _ _
  |7=>cases N;cases X;exact .int _ _
  |8=>cases N;cases X;exact .int _ _
  |9=>cases N;cases X;exact .int _ _
  |10=>cases N;cases X;exact .int _ _
  |11=>cases N;cases X;exact .int _ _
  |j+12=>simp at N
variable{fV:Operand}{Ea:IntKind}{qy:TypeInfo}
theorem af.ac5{bI n:Nat}{s off:Nat}{i:Int}(an:P.underlying t=some (.array n bI))(hi:P.info? bI=some qy)(F:z.ba x=.box s b off)(rN:z.ba fV=.int Ea i)
  (h0:0<=i) (h1:i<n) (hK:K (z.put dst (.box s b (off+i.toNat*qy.size)))):af P B am z dst (.indexAddr t x fV) K :=
 .val λU w C a M type pos after=>by
  have X:=cG M.tmps x;rw[F]at X
  have Eb:=cG M.tmps fV;rw[rN]at Eb
  refine⟨.pointer (some ⟨b,off+i.toNat*qy.size,none⟩),w,C,z,_,?_,M,.box _ _ _,hK⟩;simp[execOp,Instr.indexAt,X.wC,Eb.fw,asIntOf,run_underlying an,Instr.sureAddr,h0,h1,zx hi,o0]
variable{d:D}
theorem af.ac6(hT:df P ax){s off:Nat}(F:z.ba x=.box s b off)(hs:z.H s=some (.box b aB))(av:dx ax t=some cc)(ha:cc.agg=false)(hc:aB[off]?=some d)
  (hK:K (z.put dst d)):af P B am z dst (.load t x) K :=
 af.plain hT (by
  show opn true (z.ba x) λx=>zr ax z true t x λd=>K (z.put dst d);rw[F];show zr ax z true t (.box s b off) λd=>K (z.put dst d);unfold zr;rw[av];simp only[hs,DE,ha,hc]
  exact⟨trivial,hK⟩)
variable{ox kI:Nat}{rE:bx}
theorem af.rO(hT:df P ax){bI:Nat}(av:dx ax ox=some cc)(b6:cc.kind=.O)(N:dx ax kI=some rE)(o9:rE.kind=.slice bI)
  (fq:dx ax bI=some aF) (lJ:aF.kind=.int .u8) (F:z.ba x=.O aS) (hlen:aS.length<=1000000000000)
  (hK:K (z.put dst (.Q .none 1 (aS.map λc=>D.int .u8 c.toNat)))):af P B am z dst (.convert ox kI x) K :=
 .val λU w C a M type pos after=>by
  obtain⟨c2,rfl⟩:=hT.get av;obtain⟨zM,rfl⟩:=hT.get N;obtain⟨fo,rfl⟩:=hT.get fq;have X:=cG M.tmps x;rw[F]at X
  have iT:(⟨⟨aS⟩⟩:ByteArray).size=aS.length:=rfl;have cY:=run_bytes_of_string (P:=P) w cc.t rE.t aF.t ⟨⟨aS⟩⟩ (c2.pO b6) (zM.kg o9) (fo.sw lJ);rw[iT]at cY;have h':=grownCap_ge w aS.length 0 aF.t;have BB:=grownCap_le_maxLen w aS.length 0 aF.t (by unfold maxLen;omega);generalize hcap:grownCap w aS.length 0 aF.t=cap at*;generalize Mn:((bytesRow ⟨⟨aS⟩⟩ cap).size,(bytesRow ⟨⟨aS⟩⟩ cap).size+1)=kj at*;have rF:bH U w.drew C z a:=M.tJ (c_.drew _ w C);have ya:=rF.tJ (c_.alloc (λ_=>False) w.drew C (.cells (bytesRow ⟨⟨aS⟩⟩ cap) aF.t kj) aS.length);have gs:(aS.map λc=>D.int .u8 c.toNat).length=aS.length:=atL ..;have ee:∀x∈(aS.map λc=>D.int .u8 c.toNat),x.cells=[x]:=λx F=>by obtain⟨c,_,rfl⟩:=aub.1 F;rfl
  have BS:b2 (aS.map λc=>D.int .u8 c.toNat)=aS.map λc=>D.int .u8 c.toNat:=rD ee;refine⟨.slice (some ⟨w.heap.size,0,none⟩) aS.length cap,_,_,z,.Q .none 1 (aS.map λc=>D.int .u8 c.toNat),?_,ya,?_,hK⟩
  ·simp only[execOp,X.kD,Sem.run_bind,cY,Result.andThen_ok,Sem.run_pure]
  have EA:(w.drew.alloc (.cells (bytesRow ⟨⟨aS⟩⟩ cap) aF.t kj)).heap[w.heap.size]?=some (.cells (bytesRow ⟨⟨aS⟩⟩ cap) aF.t kj):=kH w.drew _
  have h:=bh.Q (w:=w.drew.alloc (.cells (bytesRow ⟨⟨aS⟩⟩ cap) aF.t kj)) (C:=gv C w.drew.heap.size aS.length) .none 1 (aS.map λc=>D.int .u8 c.toNat) w.heap.size 0 cap (λj=>.int .u8 ((aS.getD j 0).toNat:Nat)) trivial (hD EA) (by rw[gs];exact h') BB
   (λx F=>by rw[ee x F];rfl) (by rw[gs];show 0+aS.length*1<=gv C w.heap.size aS.length w.heap.size;rw[hr];omega)
   (λj d N=>by
    rw[BS,aud,auP]at N;obtain⟨c,hc,rfl⟩:=N;have aa:j<aS.length:=(aun.1 hc).1;have hU:aS.getD j 0=c:=by rw[avv,hc];rfl
    unfold World.cell?;rw[EA];show(bytesRow ⟨⟨aS⟩⟩ cap)[0+j]?=_;rw[auu,hU];unfold bytesRow;rw[awE (by simpa using aa)]
    simp[hc])
   (λj d N=>rfl)
   (λj d N=>by
    rw[BS,aud,auP]at N;obtain⟨c,hc,rfl⟩:=N;have hU:aS.getD j 0=c:=by rw[avv,hc];rfl
    show bh _ _ (.int .u8 (c.toNat:Nat)) (.int .u8 ((aS.getD j 0).toNat:Nat))
    rw[hU];exact .int _ _)
  rw[gs]at h;exact h
def t6(P:Program)(B:World)(ax:List bx)(am:Nat)(ops:Array Oper):List Oper->au->(au->Prop)->Prop
 |[],z,K=>K z
 |⟨dst,op,_,_,_,guard⟩::rest,z,K=>iQ am dst=true/\(match guard with
  |none=>(nO P B ax z dst op λaA=>t6 P B ax am ops rest aA K)\/af P B am z dst op λaA=>t6 P B ax am ops rest aA K
  |some (j,iz)=>∃g b,(ops[j]?).bind (·.dst)=some g/\z.t g=.bool b/\
   ((b=iz/\((nO P B ax z dst op λaA=>t6 P B ax am ops rest aA K)\/af P B am z dst op λaA=>t6 P B ax am ops rest aA K))\/(b=!iz/\t6 P B ax am ops rest (z.put dst .undef) K)))
theorem S0{ax:List bx}(hT:df P ax){U:b7 P B am}{ops:Array Oper}{a8:Exit->Act->World->Prop}{K:au->Prop}(f7:∀aA bw w' aR,K aA->bH U w' aR aA bw->a8 .normal bw w'): ∀{l:List Oper} {z:au} (_:t6 P B ax am ops l z K) {a:Act} {w:World} {C:Nat->Nat} (_:bH U w C z a),wpList P ops a8 l a w
 |[],_,G,_,_,_,M=>f7 _ _ _ _ G M
 |o::rest,z,G,a,w,C,M=>by obtain⟨N,G⟩:=G;(have next:∀bw w',(∃aA aR,t6 P B ax am ops rest aA K/\bH U w' aR aA bw)->wpList P ops a8 rest bw w':=λbw w' ⟨aA,aR,h1,A⟩=>S0 hT f7 h1 A);(have wD:((nO P B ax z o.dst o.op λaA=>t6 P B ax am ops rest aA K)\/af P B am z o.dst o.op λaA=>t6 P B ax am ops rest aA K)->o.wp P a w (λbw w'=>wpList P ops a8 rest bw w') a8:=λG=>by rcases G with G|G;(·exact Oper.wp_mono next (tL hT M N G a8));obtain⟨dst,op,type,pos,after,guard⟩:=o;exact Oper.wp_mono next (G.run U w C a M N type pos after a8));unfold wpList;cases mT:o.guard with|none =>rw[mT]at G;rw[atI (by simp[Region.wanted,mT])];exact .inl (wD G)|some zR =>obtain⟨j,iz⟩:=zR;rw[mT]at G;obtain⟨g,b,h1,A,G⟩:=G;have jH:=M.tmps g;rw[A]at jH;have hy:=xZ h1 jH.hL;rcases G with⟨rfl,G⟩|⟨rfl,G⟩;rw[atI (by simp[Region.wanted,mT,hy])];exact .inl (wD G);rw[atH (by cases iz<;>simp[Region.wanted,mT,hy])];(exact next _ _ ⟨_,_,G,M.put N .undef⟩)
theorem W.zZ{ax:List bx}(hT:df P ax){K:cJ->au->Prop}(G:t6 P B ax am ops ops.toList z (K .normal)):W U (.region id ops false) z K :=
 ⟨λ_ _ _ M=>wp_region_list (S0 hT (λaA _ _ aR hK bN=>⟨.normal,aA,aR,rfl,hK,bN⟩) G M)⟩
theorem af.EB{K:au->Prop}{c a b:Operand}{g:Bool}(hc:z.ba c=.bool g)(aW:g=true)(hK:K (z.put dst (z.ba a))):af P B am z dst (.pick c a b) K :=
 .val λU w C x M type pos after=>by
  subst aW;have X:=cG M.tmps c;rw[hc]at X
  exact⟨_,w,C,z,_,by simp[execOp,X.hL,asBool],M,cG M.tmps a,hK⟩
theorem af.BW{K:au->Prop}{c a b:Operand}{g:Bool}(hc:z.ba c=.bool g)(aW:g=false)(hK:K (z.put dst (z.ba b))):af P B am z dst (.pick c a b) K :=
 .val λU w C x M type pos after=>by
  subst aW;have X:=cG M.tmps c;rw[hc]at X
  exact⟨_,w,C,z,_,by simp[execOp,X.hL,asBool],M,cG M.tmps b,hK⟩
variable{cq d8:IntKind}
theorem af.ac7{K:au->Prop}{ax:List bx}(hT:df P ax){l c:Operand}{bI n:Nat}{V:D}{s:Nat}(av:dx ax t=some cc)(b6:cc.kind=.slice bI)(fq:dx ax bI=some aF)(bC:aF.zero=some [V])(ee:V.one=true)
  (al:z.ba l=.int cq n) (hc:z.ba c=.int d8 n) (I:aF.bytes*n<=281474976710656) (aw:n<=9223372036854775807)
  (hK:∀b,K ((z.bZ s (some (.row (.slice (some ⟨b,0,none⟩) n n) (List.replicate n V) 1 bI))).put (some s) (.ai (.slice (some ⟨b,0,none⟩) n n)))):af P B am z (some s) (.makeSlice t l c) K :=
 .val λU w C a M type pos after=>by
  obtain⟨c2,rfl⟩:=hT.get av;obtain⟨fo,rfl⟩:=hT.get fq;have o1:=cG M.tmps l;rw[al]at o1
  have sG:=cG M.tmps c;rw[hc]at sG
  obtain⟨eh,jF,l_,cY⟩:=LL c2 fo b6 w cq d8 n n (atQ _) I aw bC
  have LM:∃aj,eh.cells=#[aj]:=by
   have h1:=(jF w C).1;generalize eh.cells=aB at h1⊢;obtain⟨l⟩:=aB
   match l,h1 with
   |[aj],_=>exact⟨aj,rfl⟩
  obtain⟨aj,an⟩:=LM;have eQ:∀w C,bh w C V aj:=λw C=>by have:=(jF w C).2 0 V aj rfl (by rw[an];rfl);exact this
  have LN:=((eQ w C).oz ee).2;have hsz:aF.aC=1:=by rw[<-l_];rfl
  rw[an,hsz,awv]at cY;refine⟨_,_,_,_,_,?_,M.newObj s (mN:=.row (.slice (some ⟨w.heap.size,0,none⟩) n n) (List.replicate n V) 1 aF.t) (o:=.cells (madeCells #[aj] n) aF.t) ?_ ?_,.ai _,hK _⟩
  ·simp only[execOp,o1.fw,sG.fw,Sem.run_bind,cY,Result.andThen_ok,Sem.run_pure]
  ·have h1:∀x∈List.replicate n V,x.cells=[x]:=λx F=>by rw[List.eq_of_mem_replicate F];exact D.oz ee
   refine⟨_,n,by simp,by simp,by simp only[maxLen];omega,λx F=>by rw[h1 x F];rfl,λdE gb=>⟨_,by cases gb;rfl,hD (kH w _)⟩,λ_=>⟨w.heap.size,_,rfl,kH w _,by simp[size_madeCells],hr _ _ _,λj d N=>?_⟩⟩;have dm:=LK ee n;rw[dm]at N;have aa:j<n:=by have:=e7 N;simpa using this
   have LO:d=V:=by simp[aa]at N;exact N.symm
   subst LO;refine⟨aj,?_,eQ _ _,LN⟩;rw[<-ava,toList_madeCells_one];simp[aa]
  rintro b ⟨hM,cap,h,_⟩;exact o8 h
theorem af.yb(hT:df P ax)(s:Nat)(F:z.ba x=.ai (hW v (i*k)))(hs:z.H s=some (.row v xs k e))(av:dx ax t=some cc)(hsz:cc.aC=k)
  (hi:i<xs.length) (EC:z.ba y=.agg aB) (hcs:aB.length=k) (ee:aB.all D.one=true) (hK:K ((z.bZ s (some (.row v (xs.set i (.agg aB)) k e))).put dst .undef)):af P B am z dst (.store t x y) K :=
 .unit λU w C a M type pos after=>by
  obtain⟨c2,rfl⟩:=hT.get av;have X:=cG M.tmps x;rw[F]at X
  have hy:=cG M.tmps y;rw[EC]at hy;obtain⟨dk,x0,hQ⟩:=hy.tx;have h1:(a.eval y).cells.toList=dk:=by rw[x0];rfl
  have zS:dk.length=k:=by rw[<-hQ.1,hcs]
  have A:∀aj∈dk,aj.oneCell'=true:=λaj an=>by
   obtain⟨j,aa⟩:=auf.1 an;have oD:=e7 aa;obtain⟨d,N⟩:=lE (l:=aB) (i:=j) atw;exact((hQ.2 j d aj N aa).oz (auE.1 ee d (at1 N))).2
  obtain⟨b,cap,vs,rfl,hc,hm,Y,I,fy,de,ae⟩:=kf.pos (M.heap.cj s _ hs) hi;have dO:i*k+k<=cap*k:=by rw[<-avS];exact avi k (auz hi hc)
  have Hf:i*k+k<=xs.length*k:=by rw[<-avS];exact avi k hi
  have hS:i*k+0+dk.length<=vs.size:=by rw[zS,fy];omega
  have cY:=run_storeCells_at P b (i*k) e dk 0 vs w I hS A;simp only[av']at cY hS;have a6:=c_.setRow (C:=C) (n:=0) I (aB:=(vs.toList.take (i*k)++dk++vs.toList.drop (i*k+dk.length)).toArray) atw (λo ah=>by omega);have e8:aJ.ef (.row (.slice (some ⟨b,0,none⟩) xs.length cap) xs k e) b:=⟨_,cap,rfl,by omega⟩;have x1:=Hp Y hi (x:=.agg aB) hcs;have dm:=pI Y;refine⟨_,_,_,?_,M.bZ a6 (s:=s) (λx F=>ayu) (λbo bM eo a7 c7 an nQ=>?_) λV bC=>?_,hK⟩
  ·simp only[hW,auu]at X;have Bl:(a.eval y).cells.size=k:=by rw[<-avx,h1,zS]
   simp only[execOp,X.f4,Instr.storeAt,Instr.sureAddr,Sem.run_bind,Sem.run_pure,Result.andThen_ok,storeVar,c2.size,hsz,h1];rw[atH (by rw[Bl];simp)];exact(atJ (λr=>Result.andThen r λ_ w'=>Result.ok Next.skip w') cY).trans rfl
  ·subst nQ;exact M.heap.inj bo s bM _ eo a7 c7 hs an e8
  cases bC
  refine⟨⟨_,cap,by rw[avd],by simpa using hc,hm,λV bC=>?_,λdE gb=>⟨b,by cases gb;rfl,by simpa using hD I⟩,λ_=>⟨b,_,rfl,setRow_heap w b _ _ e _ I,?_,hr _ _ _,λm d N=>?_⟩⟩,λx F=>?_⟩
  ·rcases avV bC with bC|rfl
   ·exact Y V bC
   exact hcs
  ·simp only[auI,atP,at7,auV,avx];omega
  ·rw[x1,pU _ _ _ (by rw[dm];show i*k+aB.length<=_;rw[hcs];exact Hf)]at N;rw[avA,pU _ _ _ (by simpa using hS)];have pd:(D.agg aB).cells.length=k:=hcs;rw[pd]at N
   have gs:m<xs.length*k:=by
    by_cases h:i*k<=m/\m<i*k+k/\m<(b2 xs).length
    ·rw[<-dm];exact h.2.2
    rw[atH h]at N;have:=e7 N;omega
   by_cases h:i*k<=m/\m<i*k+k
   ·rw[atI ⟨h.1,h.2,by rw[dm];exact gs⟩]at N;have hg:aB[m-i*k]?=some d:=N;obtain⟨aj,an⟩:=lE (l:=dk) (i:=m-i*k) atw;rw[atI ⟨h.1,by omega,by simp;omega⟩];exact⟨aj,an,(hQ.2 _ _ _ hg an).ext a6.ext,A aj (at1 an)⟩
   rw[atH (λcF=>h ⟨cF.1,cF.2.1⟩)]at N;rw[atH (λcF=>h ⟨cF.1,by omega⟩)];obtain⟨aj,Z,aG,bb⟩:=ae m d N;exact⟨aj,by simpa using Z,aG.ext a6.ext,bb⟩
  obtain⟨hM,hP,dP,_⟩:=F;simp only[Value.slice.injEq,aus,Addr.mk.injEq]at dP;obtain⟨⟨rfl,_⟩,_⟩:=dP;exact⟨M.heap.cI s _ _ hs e8,.inl rfl⟩
theorem c5.sub{H:bE}{Q':D->bE->Prop}(h:c5 P B f ds H a8)(G:∀d aP,a8 d aP->∃vo,(∀j o,vo j=some o->aP j=some o)/\Q' d vo):c5 P B f ds H Q' :=
 ⟨h.1,λw C args Ft I qD hH kJ=>(h.2 w C args Ft I qD hH kJ).mono λcp w' ⟨v,d,aR,aP,ao,f7,ae,a6,Br⟩=>by
  obtain⟨vo,hs,ac8⟩:=G d aP f7
  exact⟨v,d,aR,vo,ao,ac8,ae,a6,⟨λj o ah=>Br.cj j o (hs j o ah),λj ex o bM x a7 h1 A=>Br.inj j ex o bM x a7 (hs j o h1) (hs ex bM A),λj o x ah=>Br.cI j o x (hs j o ah)⟩⟩⟩
theorem af.S1(hT:df P ax){bI:Nat}(q:Nat){d8:Nat}(av:dx ax t=some cc)(b6:cc.kind=.slice bI)(fq:dx ax bI=some aF)
  (F:z.ba x=.ai v) (hH:z.H q=some (.row v xs k e)) (hy:z.ba y=.Q tg d8 a') (h0:a'=[]) (hK:K (z.put dst (.ai v))):af P B am z dst (.call ⟨.builtin .append,#[x,y],#[t,t]⟩) K :=
 .val λU w C a M type pos after=>by
  subst h0;obtain⟨c2,rfl⟩:=hT.get av;obtain⟨fo,rfl⟩:=hT.get fq;have an:=c2.kg b6;obtain⟨i,hi,hsz,o4,nd⟩:=fo.qx;have fX:=cG M.tmps x;rw[F]at fX
  have kM:=cG M.tmps y;rw[hy]at kM
  obtain⟨bw,cap,ED,hc,_⟩:=M.heap.cj q _ hH
  have hs:Src P i.size cc.t (a.eval y) 0 [] w:=by
   rcases kM.kh with⟨_,⟨a0,X⟩,_⟩|⟨b,o,hP,g,X,_⟩
   ·rw[X]
    cases a0 with
    |none=>exact Src.ofNil w an _
    |some dE=>exact Src.ofSlice w an dE 0 _ [] aty (λj aj h=>by simp at h) (λaj h=>by simp at h)
   rw[X];exact Src.ofSlice w an _ 0 _ [] aty (λj aj h=>by simp at h) (λaj h=>by simp at h)
  have cY:=run_append_nothing (P:=P) w cc.t cc.t type aF.t i an hi bw xs.length cap hc (a.eval y) hs;rw[<-ED,<-fX.f4]at cY;refine⟨a.eval x,w,C,z,_,?_,M,by rw[fX.f4];exact .ai _,hK⟩;simp[execOp,resolve,invoke,builtin,cY]
variable{bU:Array (Nat×Operand)}
theorem af.Mo(hT:df P ax){bI n s q:Nat}(av:dx ax t=some cc)(b6:cc.kind=.slice bI)(fq:dx ax bI=some aF)(Z:Nat.ble (n*aF.aC) 16777216=true)(aG:Nat.blt 0 aF.aC=true)(bb:aF.zero.isSome=true)
  (G:zv true z bU.toList λds=>ds.length=n/\tC aF.aC 0 ds/\∀b,K ((z.bZ q (some (.row (.slice (some ⟨b,0,none⟩) n n) (ds.map (·.2)) aF.aC bI))).put (some s) (.ai (.slice (some ⟨b,0,none⟩) n n)))):af P B am z (some s) (.buildSlice t n bU) K :=
 .val λU w C a M type pos after=>by
  obtain⟨c2,rfl⟩:=hT.get av;obtain⟨fo,rfl⟩:=hT.get fq;obtain⟨ds,⟨sy,dF,hK⟩,tG,pQ⟩:=DN G;have cL:=pQ rfl w C a.eval (λx F=>cG M.tmps x.2)
  obtain⟨dk,cY,zS,Y,ae⟩:=Sr (P:=P) c2 fo b6 bb (auz (auy _) (aul aG)) (aul Z) sy dF
   (w:=w) (C:=C) (vs:=(bU.map λ(i,x)=>(i,a.eval x)).toList) (by simp[tG]) (by simpa[awd]using cL)
  have al:(ds.map (·.2)).length=n:=by simpa using sy
  have a6:=c_.alloc (λ_=>False) w C (.cells dk.toArray aF.t) 0;refine⟨_,_,_,_,_,?_,M.newObj q (mN:=.row (.slice (some ⟨w.heap.size,0,none⟩) n n) (ds.map (·.2)) aF.aC aF.t) (o:=.cells dk.toArray aF.t) ?_ ?_,.ai _,hK _⟩
  ·simp only[execOp];rw[Sem.run_bind,cY];rfl
  ·refine⟨_,n,by rw[al],by omega,?_,Y,λdE gb=>⟨_,by cases gb;rfl,hD (kH w _)⟩,λ_=>⟨w.heap.size,_,rfl,kH w _,by simpa using zS,hr _ _ _,λj d N=>?_⟩⟩
   ·simp only[maxLen];have eV:=aul Z;have fZ:n<=n*aF.aC:=awO n (auz (auy _) (aul aG));omega
   obtain⟨aj,eV,fZ,hw⟩:=ae j d N;exact⟨aj,by simpa using eV,fZ.ext a6.ext,hw⟩
  rintro b ⟨hM,cap,h,_⟩;exact o8 h
end Go.bR

namespace Go.bR
open Go Go.RowKit
variable{P:Program}{B:World}{am:Nat}{U:b7 P B am}{K:cJ->au->Prop}{v:Value}{xs:List D}{k e:Nat}{hs:List (Nat×aJ)}{c:Code}
theorem W.vp(s j:Nat){r:List (Nat×D)}(o_:aL hs s=none)(h:W U c (hf ((j,.Q .none k xs)::r) hs) K):W U c (hf ((j,.ai v)::r) ((s,.row v xs k e)::hs)) K:=by have nV:Nat.beq s s=true:=au1 s;refine W.commit s (v:=v) (xs:=xs) (k:=k) (e:=e) (by simp only[hf,aL,nV,avq]) (hf ((j,.Q .none k xs)::r) hs) (λw C ae i aj hi=>?_) (λi o ah=>?_) h;simp only[hf,aL]at hi⊢;(cases I:Nat.beq i j with|true =>rw[I]at hi;simp only[avq,auJ]at hi⊢;rw[hi.f4];exact ae.iw|false=>rw[I]at hi;exact hi);refine .inr ⟨λe=>(by subst e;simp only[hf]at ah;rw[o_]at ah;cases ah),?_⟩;simp only[hf,aL]at ah⊢;cases I:Nat.beq i s with|true=>have:=auc I;subst this;rw[o_]at ah;cases ah|false=>simpa using ah
structure k_ (a8:Prop):Prop where
 cr:a8
theorem sL{a b c:Prop}(h:a)(k:b):(a/\b)\/c:=.inl ⟨h,k⟩
variable{p:Prop}{z:au}{dst:Option Tmp}{op:Op}
theorem z1{K:au->Prop}(h:p):p\/af P B am z dst op K:=.inl h
variable{args:Array Operand}{mM:Array TypeId}
theorem z6{f:Operand}{K:au->Prop}(h:p):p\/af P B am z dst (.call ⟨.value f,args,mM⟩) K:=.inl h
def S2:List Oper->Bool
 |[]=>true
 |o::r=>o.guard.isNone&&S2 r
def S3:List Oper->Bool
 |[]=>true
 |o::r=>(match o.op with
  |.call c=>match c.callee with
   |.builtin _=>true
   |_=>false
  |_=>true)&&S3 r
variable{ops:Array Oper}{id:Nat}
theorem W.ac9{ax:List bx}(hT:df P ax)(hm:P.follows .mixedOrders=true)(gc:(Hk ops&&S3 ops.toList)=true)
  (G:jD P B ax am ops ops.toList z (K .normal)):W U (.region id ops true) z K:=.u' hT hm (by rw[atN]at gc;exact gc.1) G
theorem W.S4{ax:List bx}(hT:df P ax)(_:S2 ops.toList=true)(G:t6 P B ax am ops ops.toList z (K .normal)):W U (.region id ops false) z K :=
 .zZ hT G
theorem S5{K:au->Prop}(h:p):p\/af P B am z dst (.alloc 164) K:=.inl h
variable{x:Operand}
theorem S6{t:TypeId}{K:au->Prop}(_:z.ba x=.ai v)(h:p):p\/af P B am z dst (.call ⟨.builtin .len,#[x],#[t]⟩) K:=.inl h
variable{α:Type}{i:Nat}
theorem z7{l:List α}{e:α->D}{V:Int}(bC:V=(i:Nat))(h:i<l.length):(l.map e)[V.toNat]?=some (e l[i]):=by subst bC;simp[h]
inductive t7 (z:au):List Nat->List (Nat×D)->Prop
 |nil:t7 z [] []
 |cons {j:Nat} {d:D} {r:List Nat} {L:List (Nat×D)} (h:z.t j=d) (ae:t7 z r L):t7 z (j::r) ((j,d)::L)
inductive yc (z:au):List Nat->List (Nat×aJ)->Prop
 |nil:yc z [] []
 |cons {j:Nat} {d:aJ} {r:List Nat} {L:List (Nat×aJ)} (h:z.H j=some d) (ae:yc z r L):yc z (j::r) ((j,d)::L)
theorem t7.sub{hk:List Nat}{L:List (Nat×D)}(h:t7 z hk L):jC z L:=by induction h with|nil=>trivial|cons h ae aZ=>exact⟨.of_eq h,aZ⟩
variable{d d':D}
theorem ac_(h:DC d λx=>x=d'):d=d':=(zq d (λx=>x=d')).1 h
variable{a':List D}
theorem sM(h:xs=a'):some (aJ.row v xs k e)=some (aJ.row v a' k e):=by rw[h]
variable{b:Nat}
theorem EE{xs a':List (D×D)}(h:xs=a'):some (aJ.mp b xs)=some (aJ.mp b a'):=by rw[h]
theorem ac'(h:xs=a'):some (aJ.box b xs)=some (aJ.box b a'):=by rw[h]
end Go.bR
namespace Go.bR.ck
open Go Go.Proofs
variable{B:World}
theorem HY{k:IntKind}{a b:Int}(h:a=b):aq (.int k a) (.int k b):=.of_eq (by rw[h])
theorem S7{a b:Bool}(h:a=b):aq (.bool a) (.bool b):=.of_eq (by rw[h])
variable{p:Prop}
theorem sN(h:p:=by first|exact .refl _|exact aq.box|exact aq.nil|exact .any _|exact .iw _|exact .of_eq (by assumption)|exact HY atw|exact HY atx|exact S7 (by assumption)):p:=h
theorem HZ(h:p:=by first|exact rfl|exact sM (by assumption)|exact EE (by assumption)|exact ac' (by assumption)):p:=h
variable{tg:iv}{k:Nat}{xs a':List D}
theorem ada(h:xs=a'):aq (.Q tg k xs) (.Q .none k a'):=by rw[h];exact .iw _
theorem cO(h:p:=by
 repeat (first|exact trivial|(refine⟨sN,?_⟩)|(refine⟨rfl,HZ,?_⟩)|(refine⟨?_,rfl,?_⟩))):p:=h
theorem i1(h:p:=by
 repeat (first|exact trivial|exact dN.refl _|(refine⟨sN,?_⟩))):p:=h
theorem yd(h:p:=by
 repeat (first|exact .nil|(refine' t7.cons (ac_ ?_) ?_;rotate_left 2;· (conv=>whnf))|(refine' t7.cons rfl ?_;rotate_left 1)|(refine' yc.cons _ _;rotate_left 2;exact rfl))):p:=h
theorem da{a8:Prop}(q:a8)(f:k_ a8->p:=by
 intro hl
 repeat (first
  |(refine And.intro (show(_:Nat)=_ from by first|(with_reducible rfl)|(simp;done)|(simp;omega)) ?_;conv=>whnf)
  |(refine And.intro rfl ?_;conv=>whnf)
  |(refine And.intro trivial ?_;conv=>whnf)
  |(refine sL (λh=>ax5) ?_;conv=>whnf)
  |(refine sL (ax5) ?_;conv=>whnf)
  |(refine And.intro (show _<=_ from by first|omega|(simp only[atL,atT,auh,atP]at*;omega)) ?_;conv=>whnf)
  |(refine And.intro (show _≠none from λh=>by cases h) ?_;conv=>whnf)
  |(refine⟨_,λh=>z7 rfl atw,?_⟩;conv=>whnf)
  |(refine⟨_,λ_=>rfl,?_⟩;conv=>whnf)
  |(refine And.intro (λh=>h) ?_;conv=>whnf)
  |(refine And.intro (λh0 h=>ayg) ?_;conv=>whnf)
  |(refine And.intro (λh=>by first|omega|(simp at*;omega)) ?_;conv=>whnf)
  |((fail_if_success refine z6 ?_);(fail_if_success refine S6 rfl ?_);(fail_if_success refine S5 ?_);refine z1 ?_;(conv=>whnf);(fail_if_success show False))
 )
 exact hl.cr):p:=f ⟨q⟩
theorem go{a8:Prop}(q:a8)(f:k_ a8->p:=by
 intro hl
 repeat (first
  |(refine W.seq ?_)
  |(refine W.block ?_)
  |(refine W.scope ?_)
  |(refine W.skip ?_;conv=>whnf)
  |(refine W.exit ?_;conv=>whnf)
  |(refine W.ret ?_;conv=>whnf)
  |(refine W.S4 aM (by rfl) ?_;conv=>whnf)
  |(refine W.region aM ?_;conv=>whnf)
  |(refine W.ac9 aM mixed atA ?_;(conv=>whnf);refine da ?_;(fail_if_success show False))
  |(refine W.cond false rfl atD (λ_=>?_))
  |(refine W.cond true rfl (λ_=>?_) atD)
  |(refine And.intro (show(_:Nat)=_ from by first|(with_reducible rfl)|(simp;done)|(simp;omega)) ?_;conv=>whnf)
  |(refine And.intro rfl ?_;conv=>whnf)
  |(refine And.intro trivial ?_;conv=>whnf)
  |(refine sL (λh=>ax5) ?_;conv=>whnf)
  |(refine sL (ax5) ?_;conv=>whnf)
  |(refine And.intro (show _<=_ from by first|omega|(simp only[atL,atT,auh,atP]at*;omega)) ?_;conv=>whnf)
  |(refine And.intro (show _≠none from λh=>by cases h) ?_;conv=>whnf)
  |(refine⟨_,λh=>z7 rfl atw,?_⟩;conv=>whnf)
  |(refine⟨_,λ_=>rfl,?_⟩;conv=>whnf)
  |(refine And.intro (λh=>h) ?_;conv=>whnf)
  |(refine And.intro (λh0 h=>ayg) ?_;conv=>whnf)
  |(refine And.intro (λh=>by first|omega|(simp at*;omega)) ?_;conv=>whnf)
  |((fail_if_success refine z6 ?_);(fail_if_success refine S6 rfl ?_);(fail_if_success refine S5 ?_);refine z1 ?_;(conv=>whnf);(fail_if_success show False))
 )
 exact hl.cr):p:=f ⟨q⟩
theorem bs{a8 C:Prop}(c:C)(q:a8)(f:C->k_ a8->p:=by
 intro RV hl
 first|(refine z6 ?_;conv=>whnf)|skip
 refine⟨_,_,λ_=>RV,i1,?_⟩
 (conv=>whnf)
 refine go ?_
 exact hl.cr):p:=f c ⟨q⟩
theorem fn{f:FuncId}{fn:Func}{body:Code}{am:Nat}{ds:List D}{d:D}(M:Tryz.prog.funcs[f]?=some fn)(pY:fn.ntmps=am)(h:∀U:b7 Tryz.prog B am,W U body (entry ds bE.none) (LA ax fn.results.toList d))
  (I : fn.body = some body := by rfl) (aw : (fn.name == "runtime.NumGoroutine") = false := by decide +kernel) (al : Nat.ble ds.length am = true := by rfl) : mI Tryz.prog B f ds d := mI.intro aM M I aw pY al h
variable{f:FuncId}{body:Code}{am:Nat}{ds:List D}{a8:D->bE->Prop}
theorem ye{fn:Func}{H:bE}(M:Tryz.prog.funcs[f]?=some fn)(pY:fn.ntmps=am)(h:∀U:b7 Tryz.prog B am,W U body (entry ds H) (D8 ax fn.results.toList a8))
  (I : fn.body = some body := by rfl) (aw : (fn.name == "runtime.NumGoroutine") = false := by decide +kernel) (al : Nat.ble ds.length am = true := by rfl) : c5 Tryz.prog B f ds H a8 := c5.intro aM M I aw pY al h
def lQ:List np->Nat
 |[]=>0
 |s::r=>2+s.name.length+s.target.length+lQ r
mutual
def aC:ad->Nat
 |.mk _ _ c d _ _ _ _ _ _ ag cC=>2+c.length+d.length+lQ cC+eG ag
def eG:List ad->Nat
 |[]=>0
 |n::r=>2*n.name.length+2+aC n+eG r
end
theorem lR(n:ad):aC n=2+n.dW.length+n.target.length+lQ n.bO+eG n.J:=by cases n;simp only[aC]
theorem EF:∀{l:List ad} {i:Nat} (h:i<l.length),2*(l[i]).name.length+2+aC l[i]<=eG l
 |n::r,0,_=>by simp only[avT,eG];omega
 |n::r,i+1,h=>by have:=EF (l:=r) (i:=i) (by simpa using h);simp only[au9,eG];omega
theorem z8:∀(l:List ad),2*l.length<=eG l
 |[]=>by simp[eG]
 |n::r=>by have:=z8 r;simp only[eG,atT];omega
theorem H0:∀{l:List np} {i:Nat} (h:i<l.length),2+(l[i]).name.length+(l[i]).target.length<=lQ l
 |n::r,0,_=>by simp only[avT,lQ];omega
 |n::r,i+1,h=>by have:=H0 (l:=r) (i:=i) (by simpa using h);simp only[au9,lQ];omega
theorem EG:∀(l:List np),2*l.length<=lQ l
 |[]=>by simp[lQ]
 |n::r=>by have:=EG r;simp only[lQ,atT];omega
variable{i:Nat}
theorem rP{n:ad}(h:i<n.J.length):2*(n.J[i]).name.length+2+aC n.J[i]+2+n.dW.length+n.target.length+lQ n.bO<=aC n:=by have:=EF h;have:=lR n;omega
theorem vq(n:ad):2*n.J.length+2<=aC n:=by have:=z8 n.J;have:=lR n;omega
theorem rQ{n:ad}(h:i<n.J.length):(n.J.map enc)[i]?=some (aE n.J[i]):=by rw[BH _ h,rJ]
theorem n7{l:List ad}(h:i<l.length):(l.map enc)[i]?=some (aE l[i]):=by rw[BH _ h,rJ]
def below(p n:atG)(l:Int):atG:=if l<=2 then n else p++[47]++n
theorem S8(p n:atG)(l:Int)(h:p.length+n.length<1000000000):aU B 192 [.O p,.O n,u l] (.O (below p n l)):=by refine bA Tryz.func192 Tryz.ntmps192 λU=>?_;refine go ?_;refine aK _ rfl ?_ ?_<;>intro hc;refine go ?_;exact aq.of_eq (atJ D.O (by rw[below,atI (by simpa using hc)]));apply co;refine cl ?_;refine p1 ?_;refine mR ?_;exact aq.of_eq (atJ D.O (by rw[below,atH (by simpa using hc)]))
theorem S9(p n:atG)(l:Int)(h:p.length+n.length<1000000000)(h1:1<=l):aU B 150 [.O p,.O n,u l] (.O (below p n (l+1))):=by refine bA Tryz.func150 Tryz.ntmps150 λU=>?_;refine go ?_;refine aK _ rfl ?_ ?_<;>intro hc;refine go ?_;exact aq.of_eq (atJ D.O (by simp at hc;rw[below,atI atw]));apply co;refine cl ?_;refine p1 ?_;refine mR ?_;exact aq.of_eq (atJ D.O (by simp at hc;rw[below,atH atw]))
theorem BX(p n:atG)(l:Int):(below p n l).length<=p.length+1+n.length:=by unfold below;split<;>simp<;>omega
structure EH (S:Type) where
 dj:S->aJ
 dn:S->aJ
variable{S:Type}
def EH.H(bL:EH S)(s:S):bE:=aL [(2000,bL.dj s),(2001,bL.dn s)]
theorem adb{x:Bool×S}(h:(!x.1)=true):x=(false,x.2):=by obtain⟨a,b⟩:=x;cases a<;>simp_all
theorem adc{x:Bool×S}(h:(!x.1)=false):x=(true,x.2):=by obtain⟨a,b⟩:=x;cases a<;>simp_all
section fK
variable(f:ad->atG->Int->S->Bool×S)
mutual
def fK:ad->atG->Int->S->Bool×S
 |.mk a b c d e nZ g h i j ag cC,p,l,s =>
  match f (.mk a b c d e nZ g h i j ag cC) p l s with
  |(false,bo)=>(false,bo)
  |(true,bo)=>ks ag p l bo
def ks:List ad->atG->Int->S->Bool×S
 |[],_,_,s=>(true,s)
 |k::r,p,l,s =>
  match fK k (below p k.name (l+1)) (l+1) s with
  |(false,bo)=>(false,bo)
  |(true,bo)=>ks r p l bo
end
theorem H1(n:ad)(p:atG)(l:Int)(s:S):fK f n p l s=match f n p l s with
  |(false,bo)=>(false,bo)
  |(true,bo)=>ks f n.J p l bo:=by cases n;simp only[fK]
end fK
theorem S_(bL:EH S)(f:ad->atG->Int->S->Bool×S)(b8:Nat)(cu:List D)(DR:∀n p l s,p.length+aC n+l.toNat+n.name.length<100000000->1<=l->c1 B b8 ([aE n,.O p,u l]++cu) (bL.H s) λd aP=>d=.bool (f n p l s).1/\aP=bL.H (f n p l s).2):∀(bD:Nat) (n:ad) (p:atG) (l:Int) (s:S),aC n<bD->p.length+aC n+l.toNat+n.name.length<100000000->1<=l->c1 B 125 [aE n,.O p,u l,.fn (.func b8) [] cu] (bL.H s) λd aP=>d=.bool (fK f n p l s).1/\aP=bL.H (fK f n p l s).2:=by refine λbD=>Nat.rec (λn p l s h=>absurd h (avf _)) (λbD aZ n p l s hN I al=>?_) bD;refine jJ Tryz.func125 Tryz.ntmps125 λU=>?_;refine cl ?_;intro b;apply nk;refine W.R' aM ?_;refine go ?_;refine x5 ?_;refine⟨_,[(2000,2000),(2001,2001)],_,DR n p l s I al,rfl,⟨E,E,E,?_⟩,?_⟩;exact dN.refl _;rintro d aP ⟨rfl,rfl⟩;refine p2 ?_;refine aK _ rfl ?_ ?_<;>intro hc;apply el;(have cz:fK f n p l s=(false,(f n p l s).2):=by rw[H1];cases M:f n p l s;rw[M]at hc;simp_all);refine mS ?_;refine W.gQ [(8,.bool false)] [(2000,bL.dj (f n p l s).2),(2001,bL.dn (f n p l s).2)] [(2000,2000),(2001,2001)] ⟨ar,rfl,bc⟩ ?_;refine go ?_;exact⟨_,E,by rw[cz];rfl,by rw[cz];rfl⟩;refine go ?_;(have cz:fK f n p l s=ks f n.J p l (f n p l s).2:=by rw[H1];cases M:f n p l s;rw[M]at hc;simp_all);refine go ?_;refine W.ec (α:={x:Nat×S // x.1<=n.J.length/\fK f n p l s=ks f (n.J.drop x.1) p l x.2}) (λx=>[(1,.O p),(2,u l),(3,.fn (.func b8) [] cu),(18,.Q .none 12 (n.J.map enc)),(19,u (n.J.map enc).length),(20,u x.1.1)]) (λx=>[(2000,bL.dj x.1.2),(2001,bL.dn x.1.2)]) (λx=>n.J.length-x.1.1) ⟨(0,(f n p l s).2),by omega,cz⟩ [(2000,2000),(2001,2001)] ⟨ar,rfl,bc⟩ ?_;generalize dA:s=gl at*;rintro⟨⟨i,s⟩,hi,EI⟩;dsimp only at hi EI⊢;refine go ?_;refine aK _ rfl ?_ ?_<;>intro hc;refine fg ?_;(have n9:i<n.J.length:=by simpa using hc);have b6:=rP n9;have eW:=BX p n.J[i].name (l+1);have eS:=vq n;have k':=auQ n9;refine vh ?_;refine⟨aE n.J[i],λ_=>rQ n9,?_⟩;refine go ?_;intro b;(conv=>whnf);refine da ?_;apply el;refine W.Sa aM 10 mixed atB ?_;refine go ?_;refine bs (S8 p n.J[i].name (l+1) atw) ?_;refine x5 ?_;refine⟨_,[(2000,2000),(2001,2001)],_,aZ n.J[i] (below p n.J[i].name (l+1)) (l+1) s atw atw atw,rfl,ar,?_⟩;rintro d aP ⟨rfl,rfl⟩;refine p2 ?_;refine aK _ rfl ?_ ?_<;>intro hc;apply el;have BY:fK f n.J[i] (below p n.J[i].name (l+1)) (l+1) s=(false,(fK f n.J[i] (below p n.J[i].name (l+1)) (l+1) s).2):=adb hc;(have z_:fK f n p l gl=(false,(fK f n.J[i] (below p n.J[i].name (l+1)) (l+1) s).2):=by rw[EI,k',ks,BY]);refine mS ?_;refine W.gQ [(8,.bool false)] [(2000,bL.dj (fK f n.J[i] (below p n.J[i].name (l+1)) (l+1) s).2),(2001,bL.dn (fK f n.J[i] (below p n.J[i].name (l+1)) (l+1) s).2)] [(2000,2000),(2001,2001)] ⟨ar,rfl,bc⟩ ?_;refine go ?_;exact⟨_,E,by rw[z_];rfl,by rw[z_];rfl⟩;refine go ?_;(have z_:fK f n p l gl=ks f (n.J.drop (i+1)) p l (fK f n.J[i] (below p n.J[i].name (l+1)) (l+1) s).2:=by rw[EI,k',ks,adc hc]);refine go ?_;exact⟨⟨(i+1,(fK f n.J[i] (below p n.J[i].name (l+1)) (l+1) s).2),by omega,z_⟩,[(2000,2000),(2001,2001)],ayh,ar,rfl,bc⟩;refine W.exit ?_;(have z_:fK f n p l gl=(true,s):=by rw[EI,av7 (by simp at hc;omega),ks]);refine cl ?_;refine W.gQ [(8,.bool true)] [(2000,bL.dj s),(2001,bL.dn s)] [(2000,2000),(2001,2001)] ⟨ar,rfl,bc⟩ ?_;refine go ?_;exact⟨_,E,by rw[z_];rfl,by rw[z_];rfl⟩
def wr(n:Int):Int:=IntKind.i64.wrap n
theorem ade{n:Int}(h:-9223372036854775808<=n/\n<=9223372036854775807):wr n=n:=by unfold wr;rw[IntKind.wrap_i64];omega
theorem adf(n m:Int):wr (wr n+m)=wr (n+m):=by unfold wr;simp only[IntKind.wrap_i64];omega
mutual
def fC:ad->Nat
 |.mk _ _ _ _ _ _ _ _ _ _ ag _=>1+eY ag
def eY:List ad->Nat
 |[]=>0
 |n::r=>fC n+eY r
end
theorem EJ(n:ad):fC n=1+eY n.J:=by cases n;simp only[fC]
mutual
theorem BZ:∀n:ad,fC n<=aC n
 |.mk a b c d e f g h i j ag cC=>by have:=EK ag;simp only[fC,aC];omega
theorem EK:∀l:List ad,eY l<=eG l
 |[]=>by simp[eY,eG]
 |n::r=>by have:=BZ n;have:=EK r;simp only[eY,eG];omega
end
def B0(_:ad)(_:atG)(_:Int)(s:Int):Bool×Int:=(true,wr (s+1))
mutual
theorem S':∀(n:ad) (p:atG) (l:Int) (s:Int),fK B0 n p l s=(true,wr (s+fC n))
 |.mk a b c d e f g h i j ag cC,p,l,s=>by
  simp only[fK,B0,fC];rw[Ta ag p l (s+1)];congr 2
  omega
theorem Ta:∀(l:List ad) (p:atG) (v:Int) (s:Int),ks B0 l p v (wr s)=(true,wr (s+eY l))
 |[],p,v,s=>by simp only[ks,eY];congr 2;omega
 |n::r,p,v,s=>by
  simp only[ks,eY];rw[S' n _ _ (wr s),adf];simp only;rw[Ta r];congr 2
  omega
end
def Mp(b:Nat):EH Int:=⟨λs=>.box b [u s],λ_=>BC⟩
theorem adg(d6:Nat)(n:ad)(p:atG)(l:Int)(s:Int):c1 B 191 ([aE n,.O p,u l]++[.box 2000 d6 0]) ((Mp d6).H s) λd aP=>d=.bool (B0 n p l s).1/\aP=(Mp d6).H (B0 n p l s).2:=by refine jJ Tryz.func191 Tryz.ntmps191 λU=>?_;refine cl ?_;intro b;refine k7 ?_;refine .inr ?_;apply cB;refine cl ?_;refine W.gQ [(7,.bool true)] [(2000,.box d6 [u (wr (s+1))]),(2001,BC)] [(2000,2000),(2001,2001)] ⟨ar,rfl,bc⟩ ?_;exact ayA
theorem adh(n:ad)(h:aC n+n.name.length<10000000):aU B 124 [aE n] (u (fC n)):=by refine bA Tryz.func124 Tryz.ntmps124 λU=>?_;refine cl ?_;intro b;refine cl ?_;intro H2;refine eB ?_;refine W.BC 2001 ?_;refine vf ?_;apply mf;refine eB ?_;refine .inr (af.call rfl [aE n,.O [],u 1,.fn (.func 191) [] [.box 2000 H2 0]] [(2000,3),(2001,2001)] (S_ (Mp H2) B0 191 [.box 2000 H2 0] (λn p l s _ _=>adg H2 n p l s) _ n [] 1 0 (auy _) atx atw) rfl ⟨E,E,E,aq.fn trivial ⟨aq.box,ak⟩,ak⟩ ?_);rintro d aP ⟨rfl,rfl⟩;refine⟨_,E,?_⟩;refine iX ?_;refine iD ?_;refine dt ?_;rw[S'];have:=BZ n;exact(ade atw).trans atw
end Go.bR.ck


namespace Go.bR
open Go Go.RowKit
variable{P:Program}{B:World}{am:Nat}{z:au}{dst:Option Tmp}{K:au->Prop}{ax:List bx}{U:b7 P B am}{c:Code}{v:Value}{xs:List D}{k e:Nat}
theorem W.B1{K:cJ->au->Prop}(s:Nat)(hs:z.H s=some (.row v xs k e))
  (h:∀a cap,v=.slice a xs.length cap->xs.length<=cap->cap<=maxLen->W U c z K):W U c z K :=
 ⟨λa w C M=>by
  obtain⟨bw,cap,X,hc,hm,_⟩:=M.heap.cj s _ hs
  exact(h bw cap X hc hm).run a w C M⟩
end Go.bR
