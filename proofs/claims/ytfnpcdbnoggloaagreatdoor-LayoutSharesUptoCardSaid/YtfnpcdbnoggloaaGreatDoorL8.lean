/- Contracts of the program's functions, part 8. No conditions of its own. -/
import Derived.Test.YtfnpcdbnoggloaaGreatDoorL7
import Derived.Ground.GgzProg
import Derived.Shelf.SlLaysZ
import Derived.Shelf.Lay
import Derived.Test.YtfnpcdbnoggloaaGreatDoorShelf
import Derived.Shelf.Sort.Plain
import Derived.Shelf.GgSortFunc.Insertion
set_option linter.unnecessarySimpa false
set_option linter.unusedSimpArgs false
set_option linter.unusedVariables false
set_option maxRecDepth 100000
set_option maxHeartbeats 16000000
namespace Go.bR.ck
open Go Go.Proofs
variable{B:World}
def wo(aQ:Nat)(bv:atG)(k:Nat):List eM:=if k=0/\aQ≠0 then[⟨[47],bv,2,0,0,false⟩]else[]
def rj(aQ:Nat)(s:aT):eM:=if s.si=0 then y1 else s.ju aQ
def jc(aQ:Nat)(bv:atG)(D:List aT):Nat->List eM
 |0=>[]
 |i+1=>jc aQ bv D i++(rj aQ (D.getD i default)::wo aQ bv i)
theorem amW(aQ:Nat)(bv:atG)(k:Nat):(wo aQ bv k).length<=1:=by unfold wo;split<;>simp
theorem Qd(aQ:Nat)(bv:atG)(k:Nat):(it aQ bv k).length<=1:=by unfold it;split<;>simp
theorem Zk(aQ:Nat)(bv:atG)(D:List aT):∀i,(jc aQ bv D i).length<=2*i
 |0=>atQ _
 |i+1=>by have:=Zk aQ bv D i;have:=amW aQ bv i;simp only[jc,atP,atT];omega
theorem Zl{aQ:Nat}{bv:atG}{gl:aT}{er:List aT}(h0:gl.si=0)(mU:∀s∈er,s.si≠0):∀m,m<=er.length->jc aQ bv (gl::er) (m+1)=y1::(wo aQ bv 0++(er.take m).map (aT.ju aQ))
 |0,_=>by simp[jc,rj,h0]
 |m+1,hm=>by rw[jc,Zl h0 mU m atw];(have h1:(gl::er).getD (m+1) default=er[m]:=by rw[avv,List.getElem?_cons_succ,atK atw];rfl);(have A:wo aQ bv (m+1)=[]:=by rw[wo,atH atw]);rw[h1,A,rj,atH (mU _ (atO _)),atM atw,auq];simp only[aup,auS,au6,aui,avr]
def zh(aQ:Nat)(T:List aT)(i:Nat):List gq:=if i=0 then(ed T).map (aT.oo aQ)else[]
def f3(aQ:Nat)(bv:atG)(T:List aT):Nat->List gq
 |0=>[]
 |i+1=>f3 aQ bv T i++(it aQ bv i++(mz aQ T i++zh aQ T i))
theorem Zm(aQ:Nat)(T:List aT)(i:Nat):(mz aQ T i).length<=T.length:=by rw[YZ];exact aum _ _
theorem amX(aQ:Nat)(T:List aT)(i:Nat):(zh aQ T i).length<=T.length:=by unfold zh;split;rw[atL];exact aum _ _;simp
theorem Zn(aQ:Nat)(bv:atG)(T:List aT):∀i,(f3 aQ bv T i).length<=i*(2*T.length+1)
 |0=>by simp[f3]
 |i+1=>by have:=Zn aQ bv T i;have:=Zm aQ T i;have:=amX aQ T i;have:=Qd aQ bv i;rw[avS];simp only[f3,atP];omega
variable{aQ:Nat}{bv:atG}{i:Nat}
theorem amY{T:List aT}(hi:i<=100)(hT:T.length<=100):(f3 aQ bv T i).length<=20100:=by have h:=Zn aQ bv T i;have A:i*(2*T.length+1)<=100*201:=Nat.mul_le_mul hi atw;omega
theorem Zo(aQ:Nat)(bv:atG)(T:List aT):∀m,f3 aQ bv T (m+1)=it aQ bv 0++mz aQ T 0++(ed T).map (aT.oo aQ)++((List.range m).flatMap λi=>mz aQ T (i+1))
 |0=>by simp[f3,zh]
 |m+1=>by(have h1:it aQ bv (m+1)=[]:=by rw[it,atH atw]);(have A:zh aQ T (m+1)=[]:=by rw[zh,atH atw]);rw[f3,Zo aQ bv T m,h1,A,avl,avy];simp
theorem amZ(bv:atG)(T:List aT):f3 (eN T) bv T ((bP T).length+1)=ti bv T:=by rw[Zo,ti,it];congr 3;by_cases h:eN T=0;rw[atH atw,atI h];rw[atI ⟨rfl,h⟩,atH h]
theorem am0(bv:atG){T:List aT}{gl:aT}(h0:gl.si=0)(mU:∀s∈bP T,s.si≠0):jc (eN T) bv (gl::bP T) ((bP T).length+1)=lu bv T:=by rw[Zl h0 mU _ (atQ _),atX,lu,wo];congr 2;by_cases h:eN T=0;rw[atH atw,atI h];rw[atI ⟨rfl,h⟩,atH h]
def Ke(L:List aT)(i:Nat)(s:aT):D:=.agg (rg s++[.Q .none 8 (hF L i)])
def iO(L:List aT):List D:=(bP L).mapIdx (Ke L)
theorem GJ(L:List aT):(iO L).length=(bP L).length:=by simp[iO]
theorem Zp{L:List aT}{s:aT}(h:(bP L)[i]?=some s):(iO L)[i]?=some (Ke L i s):=by rw[iO,auK,h];rfl
theorem am1{vs:Nat->Value}{L:List aT}:dN (b2 (hd vs L L)) (b2 (iO L)) :=
 dN.b2 (by rw[lz,GJ]) λi a b ha I=>by
  rw[hd,auK]at ha;rw[iO,auK]at I
  cases h:(bP L)[i]? with
  |none=>rw[h]at ha;cases ha
  |some y =>
   rw[h]at ha I;cases ha;cases I
   exact⟨E,E,E,E,E,E,aq.mL,ak⟩
theorem am2{L:List aT}:∀y∈iO L,y.cells.length=7:=λy hy=>by
 obtain⟨i,hi⟩:=auf.1 hy;rw[iO,auK]at hi
 cases h:(bP L)[i]? with
 |none=>rw[h]at hi;cases hi
 |some s=>rw[h]at hi;cases hi;rfl
def GK(d:eM):List D:=[.O d.path,.O d.id,u d.bY,u d.cA,u d.CS,.bool d.jQ]
def xF(aQ:Nat)(i:Int):Int:=if i<=0 then i else i+aQ
theorem Dd(aQ i:Nat):xF aQ (i:Int)=((h4 aQ i:Nat):Int):=by unfold xF h4;split<;>split<;>omega
theorem am3{s:aT}(hs:s.si≠0)(hm:s.mv=true): ([.O s.path,.O (if s.si=0 then[0]else if s.mv then 68::Lib.decDigits s.mno else s.id),u s.lev,u 1,u (xF aQ (s.fi:Int)),.bool s.mv]:List D)=GK (rj aQ s):=by rw[rj,atH hs,atH hs,Dd];simp[GK,aT.ju,hm]
theorem am4{s:aT}{bm:Bool}{n:ad}(h0:s.si=0->s=cU bm n)(hm:s.mv=false): ([.O s.path,.O (if s.si=0 then[0]else if s.mv then 68::Lib.decDigits s.mno else s.id),u s.lev,u (xF aQ (if s.mv then -1 else(s.fi:Int))),u (xF aQ (s.fi:Int)),.bool s.mv]:List D)=GK (rj aQ s):=by by_cases hs:s.si=0;rw[h0 hs];rfl;rw[rj,atH hs,atH hs,hm];simp only[auU,avs];rw[Dd];simp[GK,aT.ju,hm]
variable{cv:bE}{k:Nat}
theorem am5{a:Nat×aJ}{L:List (Nat×aJ)}(ha:a.1<200)(Y:200<=k):cM (a::L) cv k=cM L cv k:=by obtain⟨i,o⟩:=a;(have h1:Nat.beq k i=false:=axR);unfold cM;simp only[aL,h1,auW]
theorem am6(a1:db B)(bm:Bool)(n:ad)(aw:fr n)(ia:valid n=true->fC n<99/\aC n<800000):aU B 158 [aE n,.bool bm] (.bp [.Q .none 6 ((mA bm n).1.map gC),.Q .none 7 ((mA bm n).2.1.map fl),u (mA bm n).2.2]):=by refine bA Tryz.func158 Tryz.ntmps158 λU=>?_;refine go ?_;intro cm;refine go ?_;refine bs (Ao a1 n (by have:=aw;unfold fr at this;omega)) ?_;refine aK _ rfl ?_ ?_<;>intro hc;refine go ?_;(have X:¬valid n=true:=by simpa using hc);rw[mA,atH X];exact⟨aq.nil,aq.nil,E,ak⟩;refine fg ?_;(have X:valid n=true:=by simpa using hc);obtain⟨AY,hsz⟩:=ia X;have Qe:=AH X;obtain⟨xE,jO⟩:=P2 X;have I:=YX bm xE jO;have De:Gi bm n=cU bm n::fT n (cU bm n) ⟨1,1,0⟩:=rfl;have am7:[cU bm n]++fT n (cU bm n) ⟨1,1,0⟩=Gi bm n:=rfl;have AP:=PW n (cU bm n) ⟨1,1,0⟩;(have dg:mA bm n=(lu (jb (ls (cg 0 n.J))) (fT n (cU bm n) ⟨1,1,0⟩),ti (jb (ls (cg 0 n.J))) (fT n (cU bm n) ⟨1,1,0⟩),0):=by rw[mA,atI X]);(have A8:(cU bm n).dd=true:=by rw[aT.dd,cU,jO];rfl);(have k':bP [cU bm n]=[cU bm n]:=by rw[bP,auM,atI A8];rfl);have am8:=λ(dL cE ij:Nat) (vs:Nat->Value)=>Y' (B:=B) a1 bm n (aC n+1) n (auy _) Qe xE (cU bm n) ⟨1,1,0⟩ [cU bm n] dL cE ij;rw[dg];obtain⟨hn,_,mu,xe⟩:=(s_ n).1 Qe;have GI:∀k∈n.J,dX k.name=true/\k.name.length<1000000000:=λk Y=>(qZ xe Y).1;have am9:=amm (B:=B) a1 n.J hn GI mu;generalize jb (ls (cg 0 n.J))=bv at*;refine no ?_;refine ic ?_;refine⟨rfl,ak,.inr (af.Mo (q:=203) aM rfl rfl rfl rfl rfl rfl ?_)⟩;(conv=>whnf);refine⟨rfl,ak,λQf=>?_⟩;apply eb;refine go ?_;intro dL;apply eb;refine go ?_;intro cE;refine go ?_;intro ij;apply b4;(conv=>whnf);refine da ?_;refine W.vk 203 (a':=hd (λ_=>.slice none 0 0) [cU bm n] [cU bm n]) rfl (by rw[lz,k'];rfl) P6 (by rw[hd,k'];exact⟨E,E,E,E,E,E,aq.ve,ak⟩) ?_;refine W.jj 8 (dv:=[.Q (.own 204 (.slice none 0 0)) 1 (e6 [cU bm n])]) rfl ⟨aq.ve,ak⟩ ?_;refine W.jj 9 (dv:=[xD dL cE ij]) rfl ⟨aq.fn trivial ⟨aq.box,aq.box,aq.box,ak⟩,ak⟩ ?_;refine W.tP 204 1 3 ?_;refine W.tP 300 8 310 ?_;refine W.iY [(1,.bool bm),(2,.box 2 cm 0),(7,.box 200 dL 0),(8,.box 201 cE 0),(9,.box 202 ij 0)] (cM [(2,.box cm (yV n)),(200,.box dL [.ai (.slice (some ⟨Qf,0,none⟩) 1 1)]),(201,.box cE [.Q (.own 204 (.slice none 0 0)) 1 (e6 [cU bm n])]),(202,.box ij [xD dL cE ij]),(203,.row (.slice (some ⟨Qf,0,none⟩) 1 1) (hd (λ_=>.slice none 0 0) [cU bm n] [cU bm n]) 7 305),(204,.own (.slice none 0 0) (e6 [cU bm n]).length 1 3)] (kB (λ_=>.slice none 0 0) [cU bm n] [cU bm n])) (fB.zf (m:=[(2,2),(200,7),(201,8),(202,9),(203,203),(204,204)]) ⟨E,E,aq.box,aq.box,aq.box,ak⟩ rfl ⟨rfl,bc⟩ rfl (λq o h=>?_)) ?_;obtain⟨j,rfl,aa,rfl⟩:=tr h;rw[k']at aa;(have:j=0:=by simp at aa;omega);subst this;exact⟨by omega,rfl⟩;refine no ?_;apply cB;apply eb;apply cB;refine ic ?_;refine⟨rfl,ak,.inr (af.St rfl [aE n,u (((cU bm n).di:Nat):Int),u (cU bm n).lv,.bool (cU bm n).iso,.bool (cU bm n).rock,.box 200 dL 0,.box 201 cE 0,.box 202 ij 0] A6 (c5.fK (λq G=>am5 (show(2:Nat)<200 by decide) G) (Y' a1 bm n (aC n+1) n (auy _) Qe xE (cU bm n) ⟨1,1,0⟩ [cU bm n] dL cE ij (.slice (some ⟨Qf,0,none⟩) 1 1) (.slice none 0 0) (λ_=>.slice none 0 0) rfl (.zd jO) rfl A8 ⟨rfl,by rw[k'];rfl,rfl⟩ atx (by show 0+_<_;omega) (by show(1:Int)+_<_;omega))) ar ?_)⟩;rintro d aP ⟨rfl,b5,mv,vs,rfl⟩;refine rH ?_;rw[am7];clear am8;generalize fT n (cU bm n) ⟨1,1,0⟩=T at*;generalize asy:Gi bm n=L at*;refine W.iY [(2,.box 2 cm 0),(7,.box 200 dL 0),(8,.box 201 cE 0)] (aL [(2,.box cm (yV n)),(200,.box dL [.ai b5]),(201,.box cE [.Q (.own 204 mv) 1 (e6 L)]),(203,.row b5 (hd vs L L) 7 305)]) (.same ar (nr.u5 ⟨rfl,bc⟩)) ?_;refine W.vk 203 (a':=iO L) rfl (by rw[lz,GJ]) am2 am1 ?_;refine W.HC 203 200 0 rfl rfl atz rfl ?_;refine W.jj 201 (dv:=[.Q .none 1 (e6 L)]) rfl ⟨aq.mL,ak⟩ ?_;refine W.fb [(2,.box 2 cm 0),(7,.box 7 dL 0),(8,.box 8 cE 0)] [(2,.box cm (yV n)),(7,.box dL [.Q .none 7 (iO L)]),(8,.box cE [.Q .none 1 (e6 L)])] [(2,2),(7,200),(8,201)] ⟨⟨E,aq.box,aq.box,ak⟩,rfl,bc⟩ ?_;obtain⟨aQ,je⟩:∃aQ,eN T=aQ:=⟨_,rfl⟩;(have GL:aQ<=1:=by rw[<-je];unfold eN;split<;>omega);(have aj4:L.length=T.length+1:=by rw[De];rfl);have uK:=I.tp.1;(have uO:bP L=cU bm n::bP T:=by rw[De,bP,auM,atI A8];rfl);(have Kf:ed L=ed T:=by rw[De,ed,auM,atH (by simp[cU])];rfl);have jI:(bP T).length<=T.length:=aum _ _;have gs:(ed T).length<=T.length:=aum _ _;(have asz:(iO L).length=(bP T).length+1:=by rw[GJ,uO];rfl);(have am_:(e6 L).length=(ed T).length:=by rw[e6,atL,Kf]);(have I7:(if((e6 L).length:Int)<1 then((e6 L).length:Int)else 1)=(aQ:Int):=by rw[<-je,am_,eN];split<;>split<;>omega);(have o2:∀(t:Nat) (s:aT),L[t]?=some s->s.si=t/\(t=0->s=cU bm n)/\s.fi<=100/\s.di<=100:=λt s h=>by have h1:=I.si h;refine⟨h1,λA=>?_,?_,?_⟩;subst A;rw[uK]at h;exact(auD h).symm;have:=I.Kb s (at1 h);rw[uO]at this;simp at this;omega;rcases auF t with A|A;subst A;rw[uK]at h;cases h;exact at4 _;obtain⟨p,a6⟩:=I.at A h;rw[a6.di];have Z:(bP (L.take t)).length<=(bP L).length:=amp _ _ _;rw[uO]at Z;simp at Z;omega);(have A9:∀i,hF L i=(T.filter λx=>x.fi==i).map pD:=λi=>by rw[hF,C9,De];rfl);refine go ?_;intro jR;(conv=>whnf);refine da ?_;refine W.jj 10 (dv:=[u (aQ:Int)]) rfl ⟨dt I7,ak⟩ ?_;refine W.BI 10 10 (u (aQ:Int)) rfl rfl rfl rfl ?_;refine W.tP 500 6 228 ?_;refine W.tP 600 7 251 ?_;refine go ?_;refine W.ec (α:={i:Nat // i<=(iO L).length}×Value×Value) (λV=>[(2,.box 2 cm 0),(7,.box 7 dL 0),(8,.box 8 cE 0),(10,.a_ 1 [u (aQ:Int)] 0 0),(11,.fn (.func 227) [] [.a_ 1 [u (aQ:Int)] 0 0]),(12,.Q (.own 500 V.2.1) 6 ((jc aQ bv (bP L) V.1.1).map gC)),(13,.Q (.own 600 V.2.2) 7 ((f3 aQ bv T V.1.1).map fl)),(39,.Q .none 7 (iO L)),(40,u ((iO L).length:Int)),(41,u (V.1.1:Int))]) (λV=>[(2,.box cm (yV n)),(7,.box dL [.Q .none 7 (iO L)]),(8,.box cE [.Q .none 1 (e6 L)]),(500,.own V.2.1 ((jc aQ bv (bP L) V.1.1).map gC).length 6 228),(600,.own V.2.2 ((f3 aQ bv T V.1.1).map fl).length 7 251)]) (λV=>(iO L).length-V.1.1) (⟨0,at4 _⟩,.slice none 0 0,.slice none 0 0) [(2,2),(7,7),(8,8),(500,500),(600,600)] ⟨⟨E,E,E,E,E,aq.ve,aq.ve,E,E,E,ak⟩,rfl,bc⟩ ?_;rintro⟨⟨i,hi⟩,Nq,gm⟩;(try dsimp only);refine go ?_;refine aK (decide ((i:Int)<((iO L).length:Int))) rfl ?_ ?_<;>intro hc;(·refine fg ?_;(have aI:i<(iO L).length:=by simpa using hc);(have am':i<(bP L).length:=by rw[GJ]at aI;exact aI);obtain⟨s,hs⟩:∃s,(bP L)[i]?=some s:=⟨_,atK am'⟩;have ana:=Zp hs;have AL:=auw.1 (at1 hs);obtain⟨t,av⟩:=auf.1 AL.1;obtain⟨a6,dA,kN,_⟩:=o2 t s av;have asA:=I.J8 i s hs;have tH:s.si=0->s=cU bm n:=λh=>dA atw;(have anb:s.mv=true->s.si≠0:=λh A=>by rw[tH A]at h;cases h);(have hj:(bP L).getD i default=s:=by rw[avv,hs];rfl);have asB:=Zk aQ bv (bP L) i;have asC:=amY (aQ:=aQ) (bv:=bv) (T:=T) (i:=i) atw atw;(have asD:((jc aQ bv (bP L) i).map gC).length<=202:=by rw[atL];omega);(have asE:((jc aQ bv (bP L) i++[rj aQ s]).map gC).length<=203:=by rw[atL,atP];simp;omega);(have asF:((f3 aQ bv T i).map fl).length<=20100:=by rw[atL];omega);refine gJ ?_;refine⟨λ_=>⟨awn _,av_.2 aI⟩,?_⟩;refine go ?_;refine⟨Ke L i s,λ_=>ana,?_⟩;refine go ?_;intro se;refine go ?_;intro m';(conv=>whnf);refine da ?_;refine W.lI (α:=Unit) (λ_=>[(2,.box 2 cm 0),(7,.box 7 dL 0),(8,.box 8 cE 0),(10,.a_ 1 [u (aQ:Int)] 0 0),(11,.fn (.func 227) [] [.a_ 1 [u (aQ:Int)] 0 0]),(12,.Q (.own 500 Nq) 6 ((jc aQ bv (bP L) i).map gC)),(13,.Q (.own 600 gm) 7 ((f3 aQ bv T i).map fl)),(39,.Q .none 7 (iO L)),(40,u ((iO L).length:Int)),(41,u (i:Int)),(14,u (i:Int)),(15,.box 15 se 0),(16,.box 16 m' 0)]) (λ_=>[(2,.box cm (yV n)),(7,.box dL [.Q .none 7 (iO L)]),(8,.box cE [.Q .none 1 (e6 L)]),(500,.own Nq ((jc aQ bv (bP L) i).map gC).length 6 228),(600,.own gm ((f3 aQ bv T i).map fl).length 7 251),(15,.box se (rg s++[.Q .none 8 (hF L i)])),(16,.box m' (GK (rj aQ s)))]) ?_ ?_;apply el;refine W.Bt aM 9 mixed atB ?_;refine go ?_;refine⟨[u (if s.mv then -1 else(s.fi:Int)),.a_ 1 [u (aQ:Int)] 0 0],_,λ_=>GC _ aQ (by split<;>omega) GL,ar,?_⟩;refine eB ?_;refine⟨[u (s.fi:Int),.a_ 1 [u (aQ:Int)] 0 0],_,λ_=>GC _ aQ atw GL,ar,?_⟩;apply cB;apply cB;refine iX ?_;refine aK s.mv rfl ?_ ?_<;>intro hc;refine go ?_;exact⟨(),[(2,2),(7,7),(8,8),(500,500),(600,600),(15,15),(16,16)],ar,rfl,rfl,rfl,rfl,rfl,rfl,rfl,rfl,rfl,rfl,rfl,rfl,rfl,rfl,atJ (λV=>some (aJ.box m' V)) (am3 (anb hc) hc),ak⟩;refine go ?_;exact⟨(),[(2,2),(7,7),(8,8),(500,500),(600,600),(15,15),(16,16)],ar,rfl,rfl,rfl,rfl,rfl,rfl,rfl,rfl,rfl,rfl,rfl,rfl,rfl,rfl,atJ (λV=>some (aJ.box m' V)) (am4 tH hc),ak⟩;rintro⟨⟩;refine k7 ?_;refine nm ?_;refine⟨by show(_+1)*64<=_;omega,by show _+1<=_;omega,atD,λQg=>?_⟩;(conv=>whnf);(have asG:(jc aQ bv (bP L) i).map gC++[gC (rj aQ s)]=(jc aQ bv (bP L) i++[rj aQ s]).map gC:=by simp);(have sy:jc aQ bv (bP L) (i+1)=jc aQ bv (bP L) i++[rj aQ s]++wo aQ bv i:=by rw[jc,hj];simp);refine W.lI (α:=Value×Value) (λV=>[(2,.box 2 cm 0),(7,.box 7 dL 0),(8,.box 8 cE 0),(10,.a_ 1 [u (aQ:Int)] 0 0),(11,.fn (.func 227) [] [.a_ 1 [u (aQ:Int)] 0 0]),(12,.Q (.own 500 V.1) 6 ((jc aQ bv (bP L) (i+1)).map gC)),(13,.Q (.own 600 V.2) 7 ((f3 aQ bv T i++it aQ bv i).map fl)),(39,.Q .none 7 (iO L)),(40,u ((iO L).length:Int)),(41,u (i:Int)),(14,u (i:Int)),(15,.box 15 se 0)]) (λV=>[(2,.box cm (yV n)),(7,.box dL [.Q .none 7 (iO L)]),(8,.box cE [.Q .none 1 (e6 L)]),(500,.own V.1 ((jc aQ bv (bP L) (i+1)).map gC).length 6 228),(600,.own V.2 ((f3 aQ bv T i++it aQ bv i).map fl).length 7 251),(15,.box se (rg s++[.Q .none 8 (hF L i)]))]) ?_ ?_;apply b4;refine x4 (u (aQ:Int)) ?_;refine go ?_;refine aK (bif decide ((i:Int)=0)then decide ((0:Int)<(aQ:Int))else false) rfl ?_ ?_<;>intro hc;refine k7 ?_;refine⟨[.Q .none 12 (n.J.map enc)],_,λ_=>am9,ar,?_⟩;refine cl ?_;refine o' ?_;refine⟨rfl,List.length_append.symm,?_⟩;(conv=>whnf);refine⟨by show(_+1)*64<=_;simp only[atP,atL,atT,auh];omega,by show _+1<=_;simp only[atP,atL,atT,auh];omega,atD,λQh=>?_⟩;refine mS ?_;refine nm ?_;refine⟨by show(_+1)*56<=_;omega,by show _+1<=_;omega,atD,λqs=>?_⟩;refine go ?_;(have kP:i=0/\aQ≠0:=by cases h:decide ((i:Int)=0)<;>rw[h]at hc;cases hc;have h1:=aua h;have A:=aua hc;omega);have qr:wo aQ bv i=[⟨[47],bv,2,0,0,false⟩]:=atI kP;have oS:it aQ bv i=[⟨[47],bv,0,1,true,false,false⟩]:=atI kP;(have bV:(jc aQ bv (bP L) i).map gC++[gC (rj aQ s)]++[gC ⟨[47],bv,2,0,0,false⟩]=(jc aQ bv (bP L) (i+1)).map gC:=by rw[sy,qr];simp);(have b9:(f3 aQ bv T i).map fl++[fl ⟨[47],bv,0,1,true,false,false⟩]=(f3 aQ bv T i++it aQ bv i).map fl:=by rw[oS];simp);exact⟨(Qh,qs),[(2,2),(7,7),(8,8),(500,78),(600,83),(15,15)],⟨E,E,E,E,E,aq.trans (aq.of_eq (atJ (D.Q (.own 78 Qh) 6) bV)) (aq.own _ _),aq.trans (aq.of_eq (atJ (D.Q (.own 83 qs) 7) b9)) (aq.own _ _),E,E,E,E,E,ak⟩,rfl,rfl,rfl,rfl,rfl,rfl,rfl,rfl,atJ (λV:Nat=>some (aJ.own Qh V 6 228)) (by rw[<-bV];exact List.length_append.symm),rfl,atJ (λV:Nat=>some (aJ.own qs V 7 251)) (ayl),rfl,bc⟩;refine go ?_;(have kP:¬(i=0/\aQ≠0):=λh=>by obtain⟨h1,A⟩:=h;rw[auC (show(i:Int)=0 by omega),auC (show(0:Int)<(aQ:Int) by omega)]at hc;cases hc);have qr:wo aQ bv i=[]:=atH kP;have oS:it aQ bv i=[]:=atH kP;(have bV:(jc aQ bv (bP L) i).map gC++[gC (rj aQ s)]=(jc aQ bv (bP L) (i+1)).map gC:=by rw[sy,qr];simp);(have b9:(f3 aQ bv T i).map fl=(f3 aQ bv T i++it aQ bv i).map fl:=by rw[oS];simp);exact⟨(Qg,gm),[(2,2),(7,7),(8,8),(500,64),(600,600),(15,15)],⟨E,E,E,E,E,aq.trans (aq.of_eq (atJ (D.Q (.own 64 Qg) 6) bV)) (aq.own _ _),aq.of_eq (atJ (D.Q (.own 600 gm) 7) b9),E,E,E,E,E,ak⟩,rfl,rfl,rfl,rfl,rfl,rfl,rfl,rfl,atJ (λV:Nat=>some (aJ.own Qg V 6 228)) (by rw[<-bV];exact List.length_append.symm),rfl,atJ (λV:List D=>some (aJ.own gm V.length 7 251)) b9,rfl,bc⟩;rintro⟨Df,Qi⟩;(try dsimp only);generalize fJ:T.filter (λx=>x.fi==i)=R;(have anc:R.length<=T.length:=by rw[<-fJ];exact aum _ _);(have ane:hF L i=R.map pD:=by rw[A9,fJ]);(have anf:mz aQ T i=R.map (aT.l0 aQ):=by rw[mz,fJ]);(have ang:∀x∈R,x∈T/\x.fi=i:=λx F=>by rw[<-fJ]at F;simpa using auw.1 F);rw[ane];refine go ?_;refine W.ec (α:={j:Nat // j<=R.length}×Value) (λV=>[(2,.box 2 cm 0),(7,.box 7 dL 0),(8,.box 8 cE 0),(10,.a_ 1 [u (aQ:Int)] 0 0),(11,.fn (.func 227) [] [.a_ 1 [u (aQ:Int)] 0 0]),(12,.Q (.own 500 Df) 6 ((jc aQ bv (bP L) (i+1)).map gC)),(13,.Q (.own 600 V.2) 7 ((f3 aQ bv T i++it aQ bv i++(R.take V.1.1).map (aT.l0 aQ)).map fl)),(39,.Q .none 7 (iO L)),(40,u ((iO L).length:Int)),(41,u (i:Int)),(14,u (i:Int)),(85,.Q .none 8 (R.map pD)),(86,u ((R.map pD).length:Int)),(87,u (V.1.1:Int))]) (λV=>[(2,.box cm (yV n)),(7,.box dL [.Q .none 7 (iO L)]),(8,.box cE [.Q .none 1 (e6 L)]),(500,.own Df ((jc aQ bv (bP L) (i+1)).map gC).length 6 228),(600,.own V.2 ((f3 aQ bv T i++it aQ bv i++(R.take V.1.1).map (aT.l0 aQ)).map fl).length 7 251)]) (λV=>R.length-V.1.1) (⟨0,at4 _⟩,Qi) [(2,2),(7,7),(8,8),(500,500),(600,600)] ⟨⟨E,E,E,E,E,E,aq.of_eq (atJ (λV:List gq=>D.Q (.own 600 Qi) 7 (V.map fl)) aty),E,E,E,E,E,E,E,ak⟩,rfl,rfl,rfl,rfl,rfl,rfl,rfl,rfl,rfl,rfl,atJ (λV:List gq=>some (aJ.own Qi (V.map fl).length 7 251)) aty,ak⟩ ?_;rintro⟨⟨j,aa⟩,gm⟩;(try dsimp only);refine go ?_;refine aK (decide ((j:Int)<((R.map pD).length:Int))) rfl ?_ ?_<;>intro hc;(·refine fg ?_;(have y':j<R.length:=by simpa using hc);obtain⟨x,F⟩:∃x,R[j]?=some x:=⟨_,atK y'⟩;(have zg:(R.map pD)[j]?=some (pD x):=by rw[aud,F];rfl);obtain⟨anh,Zq⟩:=ang x (at1 F);obtain⟨jM,GM⟩:=auf.1 (show x∈L by rw[De];exact atY _ anh);obtain⟨_,_,_,ani⟩:=o2 jM x GM;have lM:=Qd aQ bv i;(have asH:((f3 aQ bv T i++it aQ bv i++(R.take j).map (aT.l0 aQ)).map fl).length<=20300:=by simp only[atL,atP,at7];omega);(have Kg:(f3 aQ bv T i++it aQ bv i++(R.take j).map (aT.l0 aQ)).map fl++[fl (x.l0 aQ)]=(f3 aQ bv T i++it aQ bv i++(R.take (j+1)).map (aT.l0 aQ)).map fl:=by rw[YY F];simp);refine gJ ?_;refine⟨λ_=>⟨awn _,by simpa using y'⟩,?_⟩;(conv=>whnf);refine⟨pD x,λ_=>zg,?_⟩;refine go ?_;intro P_;apply cB;refine k7 ?_;intro q4;apply cB;refine cl ?_;refine⟨[u (i:Int),.a_ 1 [u (aQ:Int)] 0 0],_,λ_=>GC _ aQ atw GL,ar,?_⟩;apply cB;refine p4 ?_;refine iE ?_;refine ib ?_;refine aK (bif decide ((0:Int)<=(if x.dd then(x.di:Int)else -1))then !x.mv else false) rfl ?_ ?_<;>intro hc;(have wO:x.dd=true/\x.mv=false:=by cases h1:x.dd<;>cases A:x.mv<;>rw[h1,A]at hc<;>simp at hc⊢);apply kp;refine eB ?_;refine⟨[u (x.di:Int),.a_ 1 [u (aQ:Int)] 0 0],_,λ_=>GC _ aQ atw GL,⟨dt (by rw[atI wO.1]),E,ak⟩,?_⟩;apply cB;apply kp;refine eB ?_;refine nm ?_;refine⟨by show(_+1)*56<=_;omega,by show _+1<=_;omega,atD,λqs=>?_⟩;refine go ?_;(have b9:(f3 aQ bv T i++it aQ bv i++(R.take j).map (aT.l0 aQ)).map fl++[.agg [.O x.path,.O (if x.mv then x.file else x.id),u (xF aQ (i:Int)),u (xF aQ (x.di:Int)),.bool (!x.iso),.bool x.rock,.bool x.mv]]=(f3 aQ bv T i++it aQ bv i++(R.take (j+1)).map (aT.l0 aQ)).map fl:=by rw[<-Kg,fl,aT.l0,Zq,wO.1,wO.2,Dd,Dd];rfl);exact⟨(⟨j+1,y'⟩,qs),[(2,2),(7,7),(8,8),(500,500),(600,113)],by show _-(j+1)<_-j;omega,⟨E,E,E,E,E,E,aq.trans (aq.of_eq (atJ (D.Q (.own 113 qs) 7) b9)) (aq.own _ _),E,E,E,E,E,E,E,ak⟩,rfl,rfl,rfl,rfl,rfl,rfl,rfl,rfl,rfl,rfl,atJ (λV:Nat=>some (aJ.own qs V 7 251)) (ayl),ak⟩;apply co;apply kp;refine eB ?_;refine nm ?_;refine⟨by show(_+1)*56<=_;omega,by show _+1<=_;omega,atD,λqs=>?_⟩;refine go ?_;(have wO:(x.dd&&!x.mv)=false:=by cases h1:x.dd<;>cases A:x.mv<;>rw[h1,A]at hc<;>first|rfl|(exfalso;simp at hc;done));(have b9:(f3 aQ bv T i++it aQ bv i++(R.take j).map (aT.l0 aQ)).map fl++[.agg [.O x.path,.O (if x.mv then x.file else x.id),u (xF aQ (i:Int)),u (-1),.bool (!x.iso),.bool x.rock,.bool x.mv]]=(f3 aQ bv T i++it aQ bv i++(R.take (j+1)).map (aT.l0 aQ)).map fl:=by rw[<-Kg,fl,aT.l0,Zq,wO,Dd];rfl);exact⟨(⟨j+1,y'⟩,qs),[(2,2),(7,7),(8,8),(500,500),(600,113)],by show _-(j+1)<_-j;omega,⟨E,E,E,E,E,E,aq.trans (aq.of_eq (atJ (D.Q (.own 113 qs) 7) b9)) (aq.own _ _),E,E,E,E,E,E,E,ak⟩,rfl,rfl,rfl,rfl,rfl,rfl,rfl,rfl,rfl,rfl,atJ (λV:Nat=>some (aJ.own qs V 7 251)) (ayl),ak⟩);refine go ?_;(have zI:j=R.length:=by simp at hc;omega);rw[zI,atX,<-anf];clear zI hc aa j;have lM:=Qd aQ bv i;have wj:=Zm aQ T i;refine go ?_;refine aK (decide ((i:Int)=0)) rfl ?_ ?_<;>intro hc;(·(have kP:i=0:=by simpa using hc);refine go ?_;refine W.ec (α:={k:Nat // k<=(ed L).length}×Value) (λV=>[(2,.box 2 cm 0),(7,.box 7 dL 0),(8,.box 8 cE 0),(10,.a_ 1 [u (aQ:Int)] 0 0),(11,.fn (.func 227) [] [.a_ 1 [u (aQ:Int)] 0 0]),(12,.Q (.own 500 Df) 6 ((jc aQ bv (bP L) (i+1)).map gC)),(13,.Q (.own 600 V.2) 7 ((f3 aQ bv T i++it aQ bv i++mz aQ T i++((ed L).take V.1.1).map (aT.oo aQ)).map fl)),(39,.Q .none 7 (iO L)),(40,u ((iO L).length:Int)),(41,u (i:Int)),(117,.Q .none 1 (e6 L)),(118,u ((e6 L).length:Int)),(119,u (V.1.1:Int))]) (λV=>[(2,.box cm (yV n)),(7,.box dL [.Q .none 7 (iO L)]),(8,.box cE [.Q .none 1 (e6 L)]),(500,.own Df ((jc aQ bv (bP L) (i+1)).map gC).length 6 228),(600,.own V.2 ((f3 aQ bv T i++it aQ bv i++mz aQ T i++((ed L).take V.1.1).map (aT.oo aQ)).map fl).length 7 251)]) (λV=>(ed L).length-V.1.1) (⟨0,at4 _⟩,gm) [(2,2),(7,7),(8,8),(500,500),(600,600)] ⟨⟨E,E,E,E,E,E,aq.of_eq (atJ (λV:List gq=>D.Q (.own 600 gm) 7 (V.map fl)) aty),E,E,E,E,E,E,ak⟩,rfl,rfl,rfl,rfl,rfl,rfl,rfl,rfl,rfl,rfl,atJ (λV:List gq=>some (aJ.own gm (V.map fl).length 7 251)) aty,ak⟩ ?_;rintro⟨⟨k,Y⟩,anj⟩;(try dsimp only);refine go ?_;refine aK (decide ((k:Int)<((e6 L).length:Int))) rfl ?_ ?_<;>intro hc;refine fg ?_;(have iA:k<(ed L).length:=by rw[e6,atL]at hc;simpa using hc);obtain⟨x,F⟩:∃x,(ed L)[k]?=some x:=⟨_,atK iA⟩;(have zg:(e6 L)[k]?=some (.int .i64 (x.di:Int)):=by rw[e6,aud,F];rfl);have GN:=auw.1 (at1 F);obtain⟨jM,GM⟩:=auf.1 GN.1;obtain⟨ank,C6,_,ani⟩:=o2 jM x GM;(have anl:x.si≠0:=λh=>by rw[C6 atw]at GN;cases GN.2);(have anm:x.dd=true:=by obtain⟨p,ann⟩:=I.at (Nat.pos_of_ne_zero atw) GM;have:=ann.mv;rw[GN.2]at this;cases h:x.dd with|true=>rfl|false=>rw[h]at this;cases this);obtain⟨rh,A7⟩:=I.A5 (by rw[ank];exact GM) anm;have ano:=Zp rh;(have pR:k<=100:=by rw[Kf]at iA;omega);(have asI:((f3 aQ bv T i++it aQ bv i++mz aQ T i++((ed L).take k).map (aT.oo aQ)).map fl).length<=20400:=by rw[Kf]at iA⊢;simp only[atL,atP,at7];omega);(have Kg:(f3 aQ bv T i++it aQ bv i++mz aQ T i++((ed L).take k).map (aT.oo aQ)).map fl++[fl (x.oo aQ)]=(f3 aQ bv T i++it aQ bv i++mz aQ T i++((ed L).take (k+1)).map (aT.oo aQ)).map fl:=by rw[YY F];simp);refine gJ ?_;refine⟨λ_=>⟨awn _,aua hc⟩,?_⟩;refine go ?_;refine⟨u (x.di:Int),λ_=>zg,?_⟩;refine go ?_;refine⟨λ_=>⟨awn _,by rw[GJ];exact av_.2 A7⟩,?_⟩;refine go ?_;refine⟨Ke L x.di x,λ_=>ano,?_⟩;refine go ?_;intro Yf;(conv=>whnf);refine da ?_;refine W.Bt aM 10 mixed atB ?_;refine go ?_;refine⟨[u (x.di:Int),.a_ 1 [u (aQ:Int)] 0 0],_,λ_=>GC _ aQ atw GL,ar,?_⟩;(conv=>whnf);refine nm ?_;refine⟨by show(_+1)*56<=_;omega,by show _+1<=_;omega,atD,λqs=>?_⟩;refine go ?_;(have b9:(f3 aQ bv T i++it aQ bv i++mz aQ T i++((ed L).take k).map (aT.oo aQ)).map fl++[.agg [.O x.path,.O (if x.si=0 then[0]else if x.mv then 68::Lib.decDigits x.mno else x.id),u 1,u (xF aQ (x.di:Int)),.bool true,.bool true,.bool false]]=(f3 aQ bv T i++it aQ bv i++mz aQ T i++((ed L).take (k+1)).map (aT.oo aQ)).map fl:=by rw[<-Kg,fl,aT.oo,atH anl,atI GN.2,Dd]);exact⟨(⟨k+1,iA⟩,qs),[(2,2),(7,7),(8,8),(500,500),(600,138)],by show _-(k+1)<_-k;omega,⟨E,E,E,E,E,E,aq.trans (aq.of_eq (atJ (D.Q (.own 138 qs) 7) b9)) (aq.own _ _),E,E,E,E,E,E,ak⟩,rfl,rfl,rfl,rfl,rfl,rfl,rfl,rfl,rfl,rfl,atJ (λV:Nat=>some (aJ.own qs V 7 251)) (ayl),ak⟩;(have fA:k=(ed L).length:=by have h1:=at2 hc;rw[e6,atL]at h1;omega);(have tj:f3 aQ bv T (i+1)=f3 aQ bv T i++it aQ bv i++mz aQ T i++((ed L).take k).map (aT.oo aQ):=by rw[f3,zh,atI kP,fA,atX,Kf];simp);rw[<-tj];refine go ?_;exact⟨(⟨i+1,aI⟩,Df,anj),[(2,2),(7,7),(8,8),(500,500),(600,600)],by show _-(i+1)<_-i;omega,ar,rfl,bc⟩);(have kP:¬i=0:=by simpa using hc);(have tj:f3 aQ bv T (i+1)=f3 aQ bv T i++it aQ bv i++mz aQ T i:=by rw[f3,zh,atH kP];simp);rw[<-tj];refine go ?_;exact⟨(⟨i+1,aI⟩,Df,gm),[(2,2),(7,7),(8,8),(500,500),(600,600)],by show _-(i+1)<_-i;omega,ar,rfl,bc⟩);(have ci:i=(bP T).length+1:=by simp at hc;omega);(have Qj:jc aQ bv (bP L) i=lu bv T:=by rw[ci,uO,<-je];refine am0 bv rfl λs hs=>?_;have AL:=auw.1 hs;obtain⟨t,av⟩:=auf.1 AL.1;have:=I.si (show L[t+1]?=some s by rw[De];exact av);omega);(have anp:f3 aQ bv T i=ti bv T:=by rw[ci,<-je];exact amZ bv T);rw[Qj,anp];refine go ?_;exact⟨aq.mL,aq.mL,E,ak⟩
mutual
theorem Zr(P:aT->Prop)(h:∀x k m c,(b0 x k m c).any=true->P (b0 x k m c)):∀(n:ad) (x:aT) (c:e4),∀s∈fT n x c,P s
 |.mk _ _ _ _ _ _ _ _ _ _ ag _,x,c,s,hs=>by
  simp only[fT]at hs;exact Qk P h ag _ x c s hs
theorem Qk(P:aT->Prop)(h:∀x k m c,(b0 x k m c).any=true->P (b0 x k m c)):∀(ag:List ad) (cR:List atG) (x:aT) (c:e4),∀s∈fm ag cR x c,P s
 |k::r,m::cR,x,c,s,hs=>by
  simp only[fm]at hs;split at hs
  ·rename_i ha;rcases at5.1 hs with rfl|hs
   ·exact h x k m c ha
   rcases aue.1 hs with hs|hs
   ·exact Zr P h k _ _ s hs
   exact Qk P h r cR x _ s hs
  exact Qk P h r cR x c s hs
 |[],_,_,_,s,hs=>by simp[fm]at hs
 |_::_,[],_,_,s,hs=>by simp[fm]at hs
end
theorem anq(n:ad)(x:aT)(c:e4):∀s∈fT n x c,s.iso=true->lg 0 s.n s.lv=true :=
 Zr _ (λx k m c _ h=>by simp only[b0,atN]at h⊢;exact h.2) n x c
theorem anr{n:ad}{l:Int}(N:n.kind=0)(h:lg 0 n l=true):l<=8:=by unfold lg at h;rw[N]at h;rcases Int.lt_or_le 8 l with h1|h1;rw[auC h1]at h;split at h;cases h;simp at h;exact h1
structure ans (bm:Bool) (D:List eM) (i:Nat) (x:eM):Prop where
 lv:1<=x.bY/\x.bY<=8
 dr:0<i->0<=x.cA/\x.cA<i/\0<=x.CS/\x.CS<i/\(x.jQ=false->x.cA=x.CS)
 up:0<i->∃p,D[x.cA.toNat]?=some p/\p.bY=x.bY-1
 rel:x.jQ=true->bm=true/\x.bY=3/\x.cA=1/\∃p,D[1]?=some p/\p.path=[47]
variable{j:Nat}
theorem ant(h:i<j):h4 aQ i<h4 aQ j:=by unfold h4;split<;>split<;>omega
theorem Ql(bv:atG)(T:List aT):(lu bv T)[0]?=some y1:=rfl
theorem Kh(T:List aT):eN T=0\/eN T=1:=by unfold eN;split;exact .inl rfl;exact .inr rfl
theorem Qm(bv:atG)(T:List aT):(lu bv T).length=1+eN T+(bP T).length:=by rcases Kh T with h|h;rw[lu,h,atI rfl];simp;omega;rw[lu,h,atH atz];simp;omega
theorem Ki{T:List aT}{s:aT}(h:(bP T)[k]?=some s):(lu bv T)[h4 (eN T) (k+1)]?=some (s.ju (eN T)):=by rcases Kh T with h1|h1;rw[lu,h1,atI rfl,h4,atH atw];simp[h];rw[lu,h1,atH (show¬(1:Nat)=0 by decide),h4,atH atw];simp[h]
theorem Kj{T:List aT}(h:eN T=1):(lu bv T)[1]?=some ⟨[47],bv,2,0,0,false⟩:=by rw[lu,h];rfl
theorem Zs{T:List aT}{x:eM}(h:(lu bv T)[i]?=some x): (i=0/\x=y1)\/(i=1/\eN T=1/\x=⟨[47],bv,2,0,0,false⟩)\/∃k s,(bP T)[k]?=some s/\i=h4 (eN T) (k+1)/\x=s.ju (eN T):=by have al:=Qm bv T;(have bf:i<(lu bv T).length:=by rcases at3 i (lu bv T).length with h1|h1;exact h1;rw[atW h1]at h;cases h);(have je:eN T<=1:=by unfold eN;split<;>omega);rcases auF i with rfl|h0;rw[Ql]at h;exact .inl ⟨rfl,(auD h).symm⟩;by_cases h1:i=1/\eN T=1;obtain⟨rfl,A⟩:=h1;rw[Kj A]at h;exact .inr (.inl ⟨rfl,A,(auD h).symm⟩);refine .inr (.inr ?_);(have Y:i-1-eN T<(bP T).length:=by omega);have hs:=atK Y;(have hi:h4 (eN T) (i-1-eN T+1)=i:=by rw[h4,atH atw];omega);have:=Ki (bv:=bv) hs;rw[hi,h]at this;exact⟨_,_,hs,hi.symm,auD this⟩
theorem fs.anu{bm:Bool}{n:ad}{T:List aT}(I:fs bm n (cU bm n::T)){s:aT}(h:(bP T)[k]?=some s):∃t p,T[t]?=some s/\s.dd=true/\GD ((cU bm n::T).take (t+1)) s p/\(cU bm n::T)[s.ab]?=some p/\s.ab<t+1/\s.di=k+1/\p.di<k+1/\((p=cU bm n/\p.di=0)\/∃j,p.di=j+1/\(bP T)[j]?=some p):=by have hm:=auw.1 (at1 h);obtain⟨t,av⟩:=auf.1 hm.1;(have A8:(cU bm n).dd=true:=by rw[aT.dd,cU,I.kind];rfl);(have uO:bP (cU bm n::T)=cU bm n::bP T:=by rw[bP,auM,atI A8];rfl);have h1:(cU bm n::T)[t+1]?=some s:=av;obtain⟨p,a6⟩:=I.at (i:=t+1) atw h1;have A:=a6.ab;(have bf:t<T.length:=by rcases at3 t T.length with Z|Z;exact Z;rw[atW Z]at av;cases av);rw[at7,atT]at A;have Z:=a6.dr;rw[auB,atI atw]at Z;have lH:s.di=k+1:=I.J8 (k+1) s (by rw[uO];exact h);have anv:=I.si Z;obtain⟨wq,dg⟩:=I.A5 (by rw[anv];exact Z) a6.bd;(have Qn:p.di<k+1:=by have yJ:p∈bP ((cU bm n::T).take (t+1)):=auw.2 ⟨at1 a6.dr,a6.bd⟩;obtain⟨j,aa⟩:=auf.1 yJ;(have lM:bP (cU bm n::T)=bP ((cU bm n::T).take (t+1))++bP ((cU bm n::T).drop (t+1)):=by rw[bP,bP,bP,<-auY,avb]);(have oD:j<(bP ((cU bm n::T).take (t+1))).length:=by rcases at3 j (bP ((cU bm n::T).take (t+1))).length with aG|aG;exact aG;rw[atW aG]at aa;cases aa);have aG:=I.J8 j p (by rw[lM,at0 oD];exact aa);have bb:=a6.di;omega);refine⟨t,p,av,hm.2,a6,Z,by omega,lH,Qn,?_⟩;rw[uO]at wq;cases qr:p.di with|zero=>rw[qr]at wq;exact .inl ⟨(auD wq).symm,rfl⟩|succ j=>rw[qr]at wq;exact .inr ⟨j,rfl,wq⟩
theorem Zt{T:List aT}{s:aT}(hs:s∈T)(hm:s.mv=true):eN T=1:=by have:s∈ed T:=auw.2 ⟨hs,hm⟩;have:=awt this;rw[eN,atH atw]
variable{l:List aT}
theorem fs.Zu{bm:Bool}{n:ad}(I:fs bm n l):∀(i:Nat) (s:aT),l[i]?=some s->s.lev<=s.lv/\(s.rock=true->bm=true):=by intro i;induction i using Nat.strongRecOn with|_ i aZ =>intro s hs;rcases auF i with rfl|hi;rw[I.tp.1]at hs;cases hs;exact⟨auN _,λh=>h⟩;obtain⟨p,a6⟩:=I.at hi hs;have bf:=a6.ab;rw[at7]at bf;(have ay:l[s.ab]?=some p:=ays);obtain⟨h1,A⟩:=aZ s.ab atw p ay;have h0:=(I.lev _ _ ay).1;have al:=a6.lev;have X:=a6.lv;refine⟨?_,λh=>A (a6.rock h)⟩;split at al;split at al<;>omega;omega
theorem anw{bm:Bool}{n:ad}{T:List aT}(I:fs bm n (cU bm n::T))(hi:∀s∈T,s.iso=true->lg 0 s.n s.lv=true)(bv:atG): ∀i x,(lu bv T)[i]?=some x->ans bm (lu bv T) i x:=by intro i x F;rcases Zs F with⟨rfl,rfl⟩|⟨rfl,je,rfl⟩|⟨k,s,hs,rfl,rfl⟩;exact⟨⟨by decide,by decide⟩,λh=>absurd h (awY _),λh=>absurd h (awY _),λh=>by cases h⟩;exact⟨⟨by show(1:Int)<=2;decide,by show(2:Int)<=8;decide⟩,λ_=>⟨auN _,by show(0:Int)<1;decide,auN _,by show(0:Int)<1;decide,λ_=>rfl⟩,λ_=>⟨y1,rfl,rfl⟩,λh=>by cases h⟩;obtain⟨t,p,av,N,a6,ay,pW,lH,Qn,Gp⟩:=I.anu hs;have ws:=at1 av;have asJ:=I.lev _ _ ay;have Kk:=I.lev (t+1) s av;have anx:=I.Zu (t+1) s av;have asK:=I.Zu _ _ ay;have GH:=a6.lv;have al:=a6.lev;have hm:=a6.mv;rw[atI N]at al;rw[N,awF]at hm;have kN:s.fi=p.di:=a6.fi;have rN:h4 (eN T) p.di<h4 (eN T) (k+1):=ant Qn;(have anz:∃q,(lu bv T)[h4 (eN T) p.di]?=some q/\q.bY=p.lev:=by rcases Gp with⟨rfl,h0⟩|⟨j,aa,qr⟩;rw[h0];exact⟨y1,rfl,rfl⟩;rw[aa];exact⟨_,Ki qr,rfl⟩);(have asL:1<=h4 (eN T) (k+1):=by rw[h4,atH atw];omega);cases gu:s.mv with|true =>rw[gu]at hm;(have hw:p.lev+1=9:=by simpa using hm.symm);rw[atI hw]at al;have je:=Zt ws gu;(have zA:bm=true:=by have wk:=a6.any;rw[aT.any,au5]at wk;rcases wk with h|h;have h1:=anr (by simpa[aT.dd]using N) (hi s ws h);omega;exact anx.2 h);refine⟨⟨Kk.2.2.1 N,Kk.2.1⟩,λ_=>⟨?_,?_,?_,?_,?_⟩,λ_=>?_,λ_=>⟨zA,al,?_,_,Kj je,rfl⟩⟩;simp[aT.ju,gu];simp only[aT.ju,gu,auX];rw[h4,atH atw,je];omega;simp[aT.ju];simp only[aT.ju,kN];omega;simp[aT.ju,gu];refine⟨⟨[47],bv,2,0,0,false⟩,?_,?_⟩;simp only[aT.ju,gu,auX];exact Kj je;show(2:Int)=s.lev-1;omega;simp[aT.ju,gu]|false =>rw[gu]at hm;(have hw:¬p.lev+1=9:=by simpa using hm.symm);rw[atH hw]at al;refine⟨⟨Kk.2.2.1 N,Kk.2.1⟩,λ_=>⟨?_,?_,?_,?_,?_⟩,λ_=>?_,λh=>?_⟩;simp[aT.ju,gu];simp only[aT.ju,gu,kN];simp;omega;simp[aT.ju];simp only[aT.ju,kN];omega;intro _;simp[aT.ju,gu];obtain⟨q,G,lb⟩:=anz;refine⟨q,?_,?_⟩;simp only[aT.ju,gu,kN];simpa using G;show q.bY=s.lev-1;omega;simp[aT.ju,gu]at h
theorem anA{bm:Bool}{n:ad}(h:valid n=true):∃bv T,mA bm n=(lu bv T,ti bv T,0)/\fs bm n (cU bm n::T)/\T=fT n (cU bm n) ⟨1,1,0⟩/\bv=jb (ls (cg 0 n.J)):=by obtain⟨xE,jO⟩:=P2 h;exact⟨_,_,by rw[mA,atI h],YX bm xE jO,rfl,rfl⟩
theorem fs.Qo{bm:Bool}{n:ad}(aw:im n)(I:fs bm n l):∀(i:Nat) (s:aT),l[i]?=some s->im s.n/\(0<i->dX s.n.name=true):=by intro i;induction i using Nat.strongRecOn with|_ i aZ =>intro s hs;rcases auF i with rfl|hi;rw[I.tp.1]at hs;cases hs;exact⟨aw,λh=>absurd h (awY _)⟩;obtain⟨p,a6⟩:=I.at hi hs;have bf:=a6.ab;rw[at7]at bf;(have ay:l[s.ab]?=some p:=ays);obtain⟨h1,_⟩:=aZ s.ab atw p ay;obtain⟨_,_,_,Y⟩:=(s_ p.n).1 h1;have A:=qZ Y a6.PY;exact⟨A.2,λ_=>A.1.1⟩
theorem fs.dr{bm:Bool}{n:ad}(I:fs bm n l){s:aT}(hi:0<i)(hs:l[i]?=some s):∃p,GD (l.take i) s p/\l[s.ab]?=some p/\s.ab<i:=by obtain⟨p,a6⟩:=I.at hi hs;have bf:=a6.ab;rw[at7]at bf;(have ay:l[s.ab]?=some p:=ays);exact⟨p,a6,ay,by omega⟩
def wt(m:atG)(bd:Bool):atG:=if bd=true then m else if yZ m=true then m++[59,49]else m++[46,59,49]
variable{bL bX:atG}{bd:Bool}
theorem nL.ident{m:atG}(h:nL m bd bL bX):(ka m bd).1=wt m bd:=by rw[ka,atI h.name.valid,wt];split;rfl;split<;>rfl
theorem anB(m:atG):wt m false=if yZ m=true then m++[59,49]else m++[46,59,49]:=rfl
variable{s:atG}
theorem Zv{k:Int}{c:UInt8}(h:oj s k=true)(hc:q0 c=false):c∉s:=by intro hm;simp only[oj,uz,atN,auE]at h;have:=h.2.2.2 c hm;rw[hc]at this;cases this
theorem nL.anC{m:atG}(h:nL m bd bL bX):(59:UInt8)∉m:=by have h1:=Zv (c:=59) h.a atz;rcases h.eq with⟨_,rfl⟩|⟨_,_,Z,rfl⟩;exact h1;have A:=Zv (c:=59) Z atz;intro hm;rcases aue.1 hm with hm|hm;exact h1 hm;rcases at5.1 hm with hm|hm;cases hm;exact A hm
def xG(p s:aT)(j:Nat):Prop:=p.n.J[j]?=some s.n/\∃m,(cg 0 p.n.J)[j]?=some m/\s.id=(ka m (s.n.kind==0)).1/\s.file=(ka m false).1
def ts(l:List aT):Prop:=∀hh bo,0<hh->l[hh]?=some bo->∃p ex,l[bo.ab]?=some p/\p.dd=true/\bo.fi=p.di/\xG p bo ex/\∀i s,0<i->i<hh->l[i]?=some s->s.fi=bo.fi->∃j,j<ex/\xG p s j
theorem e4.anD(l:List aT):∀c:e4,c.uH<=(c.jt l).uH:=by induction l with|nil=>intro c;exact atQ _|cons s r aZ =>intro c;rw[e4.XL];refine avc ?_ (aZ _);simp only[e4.add];split<;>omega
theorem e4.Qp(c:e4)(s:aT):c.uH<=(c.add s).uH:=by simp only[e4.add];split<;>omega
mutual
theorem Zw:∀(n:ad) (x:aT) (c:e4),∀s∈fT n x c,s.fi=x.di\/c.uH<=s.fi
 |.mk _ _ _ _ _ _ _ _ _ _ ag _,x,c,s,hs=>by
  simp only[fT]at hs;exact Qq ag _ x c s hs
theorem Qq:∀(ag:List ad) (cR:List atG) (x:aT) (c:e4),∀s∈fm ag cR x c,s.fi=x.di\/c.uH<=s.fi
 |k::r,m::cR,x,c,s,hs=>by
  simp only[fm]at hs;split at hs
  ·rcases at5.1 hs with rfl|hs
   ·exact .inl rfl
   rcases aue.1 hs with hs|hs
   ·have:=e4.Qp c (b0 x k m c);rcases Zw k _ _ s hs with h|h
    ·exact .inr (by rw[h];exact atQ _)
    exact .inr atw
   have h1:=e4.Qp c (b0 x k m c);have A:=e4.anD (fT k (b0 x k m c) (c.add (b0 x k m c))) (c.add (b0 x k m c));rcases Qq r cR x _ s hs with h|h
   ·exact .inl h
   exact .inr atw
  exact Qq r cR x c s hs
 |[],_,_,_,s,hs=>by simp[fm]at hs
 |_::_,[],_,_,s,hs=>by simp[fm]at hs
end
theorem ts.wl{l:List aT}(h:ts l){s p:aT}{ex:Nat}(pW:s.ab<l.length)(ay:l[s.ab]?=some p)(N:p.dd=true)(M:s.fi=p.di)(Y:xG p s ex)(Hh:∀i t,0<i->l[i]?=some t->t.fi=s.fi->∃j,j<ex/\xG p t j):ts (l++[s]):=by intro hh bo h0 c7;rcases at3 hh l.length with al|al;rw[at0 al]at c7;obtain⟨q,j,h1,A,Z,aG,bb⟩:=h hh bo h0 c7;(have lb:bo.ab<l.length:=by rcases at3 bo.ab l.length with h|h;exact h;rw[atW h]at h1;cases h1);refine⟨q,j,by rw[at0 lb];exact h1,A,Z,aG,λi t hi Db av=>?_⟩;rw[at0 atw]at av;exact bb i t hi Db av;rcases at3 l.length hh with aW|aW;rw[atW atx]at c7;cases c7;(have:hh=l.length:=by omega);subst this;rw[avP]at c7;cases c7;refine⟨p,ex,by rw[at0 pW];exact ay,N,M,Y,λi t hi Db av=>?_⟩;rw[at0 Db]at av;exact Hh i t hi av
mutual
theorem Zx(bm:Bool)(gz:ad):∀(n:ad) (x:aT) (c:e4) (l:List aT),fs bm gz l->ts l->x.n=n->rf n->l[x.si]?=some x->tn c l->(∀i s,0<i->l[i]?=some s->s.fi≠x.di)->ts (l++fT n x c)
 |.mk aX xV t tg gR a2 a3 a4 a5 zX ag cC,x,c,l,I,hs,ze,cD,F,hc,ff=>by
  simp only[fT];have GF:=(J6 _).1 cD;by_cases N:xV=0
  ·have pX:x.n.J=ag:=atJ ad.J ze;exact Qr bm gz ag (cg 0 ag) x c l 0 I hs (by rw[aT.dd,ze,N];rfl) (by rw[pX];rfl) (by rw[pX];rfl) GF.2 F hc (λi s h0 h1 A=>absurd A (ff i s h0 h1))
  have:ag=[]:=GF.1 N;subst this;simpa[fm]using hs
theorem Qr(bm:Bool)(gz:ad):∀(ag:List ad) (cR:List atG) (x:aT) (c:e4) (l:List aT) (off:Nat),fs bm gz l->ts l->x.dd=true->x.n.J.drop off=ag->(cg 0 x.n.J).drop off=cR->tm ag->l[x.si]?=some x->tn c l->
  (∀i s,0<i->l[i]?=some s->s.fi=x.di->∃j,j<off/\xG x s j)->ts (l++fm ag cR x c)
 |[],_,x,c,l,off,I,hs,_,_,_,_,_,_,_=>by simpa[fm]using hs
 |k::r,[],x,c,l,off,I,hs,_,_,_,_,_,_,_=>by simpa[fm]using hs
 |k::r,m::cR,x,c,l,off,I,hs,N,b6,g7,cD,F,hc,hinv=>by
  simp only[tm]at cD
  have jO:x.n.J[off]?=some k:=by
   have:=atJ (λV=>V[0]?) b6;simpa using this
  have Wo:(cg 0 x.n.J)[off]?=some m:=by
   have:=atJ (λV=>V[0]?) g7;simpa using this
  have Zy:x.n.J.drop (off+1)=r:=by rw[<-List.drop_drop,b6];rfl
  have Zz:(cg 0 x.n.J).drop (off+1)=cR:=by rw[<-List.drop_drop,g7];rfl
  simp only[fm];split
  ·rename_i ha;have a6:=PZ (m:=m) F N hc (at1 jO) ha;have mK:=I.wl a6;have fc:=hc.add (b0 x k m c);have Fh:xG x (b0 x k m c) off:=⟨jO,m,Wo,rfl,rfl⟩;have hV:ts (l++[b0 x k m c]):=hs.wl a6.ab a6.dr N rfl Fh (λi t h0 h1 A=>hinv i t h0 h1 A)
   have xm:(l++[b0 x k m c])[(b0 x k m c).si]?=some (b0 x k m c):=by
    rw[a6.si];simp
   have A7:x.di<(bP l).length:=(I.A5 F N).2;have lH:(b0 x k m c).di=(bP l).length:=a6.di
   have ff:∀i s,0<i->(l++[b0 x k m c])[i]?=some s->s.fi≠(b0 x k m c).di:=λi s h0 h1=>by
    rcases aue.1 (at1 h1)with A|A
    ·have:=I.Kb s A;omega
    rw[auv]at A;subst A;have:(b0 x k m c).fi=x.di:=rfl;omega
   have jh:=Zx bm gz k (b0 x k m c) (c.add (b0 x k m c)) (l++[b0 x k m c]) mK hV rfl cD.1 xm fc ff;have g0:=P0 bm gz k (b0 x k m c) (c.add (b0 x k m c)) (l++[b0 x k m c]) mK rfl cD.1 xm fc;have bu:=fc.jt (m:=fT k (b0 x k m c) (c.add (b0 x k m c)))
   have bf:x.si<l.length:=by
    rcases at3 x.si l.length with h|h
    ·exact h
    rw[atW h]at F;cases F
   have AN:(l++[b0 x k m c]++fT k (b0 x k m c) (c.add (b0 x k m c)))[x.si]?=some x:=by
    rw[aup,at0 bf];exact F
   have anE:∀i s,0<i->(l++[b0 x k m c]++fT k (b0 x k m c) (c.add (b0 x k m c)))[i]?=some s->s.fi=x.di->∃j,j<off+1/\xG x s j:=λi s h0 h1 A=>by
    rcases at3 i l.length with hi|hi
    ·rw[aup,at0 hi]at h1;obtain⟨j,aa,Y⟩:=hinv i s h0 h1 A;exact⟨j,by omega,Y⟩
    rcases at3 l.length i with aW|aW
    ·rw[auo atx]at h1
     have AY:(bP l).length<=(c.add (b0 x k m c)).uH:=by
      have:=e4.Qp c (b0 x k m c);have:=hc.2.1;omega
     rcases Zw k _ _ s (at1 h1)with Z|Z
     ·rw[Z,lH]at A;omega
     omega
    have:i=l.length:=atw
    subst this;rw[aup,auo (atQ _),awx]at h1;simp at h1;subst h1;exact⟨off,auy _,Fh⟩
   have qi:=Qr bm gz r cR x _ _ (off+1) g0 jh N Zy Zz cD.2 AN bu anE;simpa using qi
  exact Qr bm gz r cR x c l (off+1) I hs N Zy Zz cD.2 F hc (λi s h0 h1 A=>by
   obtain⟨j,aa,Y⟩:=hinv i s h0 h1 A
   exact⟨j,by omega,Y⟩)
end
theorem anF(bm:Bool){n:ad}(cD:rf n)(h0:n.kind=0):ts (Gi bm n):=by refine Zx bm n n (cU bm n) ⟨1,1,0⟩ [cU bm n] (.zd h0) ?_ rfl cD rfl ?_ ?_;intro i s hi hs;rw[atW atx]at hs;cases hs;refine⟨rfl,?_,?_⟩;simp[bP,aT.dd,cU,h0];simp[ed,cU];intro i s hi hs;rw[atW atx]at hs;cases hs
theorem anG:∀a,a<120->(32:UInt8)∉Lib.decDigits a/\(59:UInt8)∉Lib.decDigits a:=by decide +kernel
theorem anH:∀k,k<100->(59:UInt8)∉jb k:=by decide +kernel
theorem Qs(h:(59:UInt8)∉s):Lib.hasSuffix s [59,49]=false:=by cases hs:Lib.hasSuffix s [59,49]with|false=>rfl|true =>rw[Lib.hasSuffix,awb]at hs;obtain⟨t,rfl⟩:=hs;exact absurd aty h
theorem fs.ZA{bm:Bool}{n:ad}(h:fs bm n l):∀(j:Nat) (s:aT),(ed l)[j]?=some s->s.mno=j+1:=by induction h with|zd h0 =>intro j s hs;(have e:ed [cU bm n]=[]:=by simp[ed,cU]);rw[e]at hs;simp at hs|@wl l t p h a6 aZ =>intro j s hs;(cases N:t.mv with|false=>rw[P5 N]at hs;exact aZ j s hs|true =>rw[Y3 N]at hs;rcases at3 j (ed l).length with aa|aa;rw[at0 aa]at hs;exact aZ j s hs;rcases at3 (ed l).length j with aW|aW;rw[atW atx]at hs;cases hs;(have:j=(ed l).length:=by omega);subst this;rw[avP]at hs;cases hs;exact a6.mno)
structure anI (bm:Bool) (n:ad) (T:List aT) (s:aT):Prop where
 fi:s.fi<=(bP T).length
 bd:s.dd=true->∃q,(bP T)[q]?=some s/\s.di=q+1
 asM:s.mv=true->s.dd=true
 name:∃p j m bL bX,xG p s j/\p.di=s.fi/\(cU bm n::T)[p.si]?=some p/\p.dd=true/\(cg 0 p.n.J)[j]?=some m/\nL m (s.n.kind==0) bL bX/\(if s.mv then s.file else s.id)=wt m (s.dd&&!s.mv)/\(p.di=0->p=cU bm n)
theorem anJ{s p:aT}{m:atG}(Y:xG p s j)(hm:(cg 0 p.n.J)[j]?=some m)(M:nL m (s.n.kind==0) bL bX):(if s.mv then s.file else s.id)=wt m (s.dd&&!s.mv):=by obtain⟨_,nT,tW,h1,A⟩:=Y;rw[hm]at tW;cases tW;cases X:s.mv with|true=>rw[atI rfl,A,M.file.ident];simp|false=>rw[atH atz,h1,M.ident];simp[aT.dd]
theorem Kl{bm:Bool}{n:ad}{T:List aT}(aw:im n)(I:fs bm n (cU bm n::T))(hs:ts (cU bm n::T)){s:aT}(hT:s∈T):anI bm n T s:=by obtain⟨t,av⟩:=auf.1 hT;have h1:(cU bm n::T)[t+1]?=some s:=av;(have A8:(cU bm n).dd=true:=by rw[aT.dd,cU,I.kind];rfl);(have uO:bP (cU bm n::T)=cU bm n::bP T:=by rw[bP,auM,atI A8];rfl);obtain⟨p,a6,ay,bf⟩:=I.dr (Nat.succ_pos t) h1;obtain⟨wY,j,zW,qr,kN,Y,_⟩:=hs (t+1) s (Nat.succ_pos t) h1;rw[ay]at zW;cases zW;have ZB:=I.si ay;have anK:=(I.Qo aw _ _ ay).1;obtain⟨hn,_,_,xe⟩:=(s_ p.n).1 anK;have fH:=Y;obtain⟨Km,m,hm,kF,asN⟩:=fH;(have oD:j<p.n.J.length:=by rcases at3 j p.n.J.length with h|h;exact h;rw[atW h]at Km;cases Km);obtain⟨bL,bX,M⟩:=YT hn (λk Y=>(qZ xe Y).1.1) oD;(have qQ:(cg 0 p.n.J)[j]'(by rw[oi];exact oD)=m:=by rw[atK (by rw[oi];exact oD)]at hm;exact auD hm);(have tb:p.n.J[j]=s.n:=by rw[atK oD]at Km;exact auD Km);rw[qQ,tb]at M;refine⟨?_,λN=>?_,λgu=>?_,p,j,m,bL,bX,Y,a6.fi.symm,by rw[ZB];exact ay,qr,hm,M,anJ Y hm M,λh0=>?_⟩;have:=I.Kb s (at1 h1);rw[uO]at this;simpa[Nat.lt_succ_iff]using this;obtain⟨wm,_⟩:=I.A5 (by rw[I.si h1];exact h1) N;rw[uO]at wm;(have h0:s.di≠0:=by have:=(I.lv _ _ h1).2.2.2 (Nat.succ_pos t) N;omega);obtain⟨q,G⟩:∃q,s.di=q+1:=⟨s.di-1,by omega⟩;rw[G]at wm;exact⟨q,wm,G⟩;have Z:=a6.mv;rw[gu]at Z;(cases h:s.dd with|true=>rfl|false=>rw[h]at Z;cases Z);obtain⟨wq,_⟩:=I.A5 (by rw[ZB];exact ay) qr;rw[h0,uO]at wq;exact(auD wq).symm
theorem anL(m:atG):Lib.hasSuffix (m++[46,59,49]) [59,49]=true:=by have:=Ju (m++[46]) [59,49];simpa using this
structure ZC (D:List eM) (e:gq):Prop where
 eP:0<=e.eP/\e.eP<D.length
 bd:-1<=e.bd/\e.bd<D.length
 asO:Lib.hasSuffix e.id [59,49]=decide (e.bd<0)
 asP:0<=e.bd->∃d,D[e.bd.toNat]?=some d/\d.cA=e.eP/\d.id=e.id/\d.path=e.path
theorem anM{bm:Bool}{n:ad}{T:List aT}(aw:im n)(I:fs bm n (cU bm n::T))(hs:ts (cU bm n::T))(hT:T.length<100):
  ∀e∈ti (jb (ls (cg 0 n.J))) T,ZC (lu (jb (ls (cg 0 n.J))) T) e:=by
 intro e ao;obtain⟨hn,_,_,_⟩:=(s_ n).1 aw;obtain⟨AC,oI,_⟩:=O4 (gp:=cg 0 n.J) (by rw[oi];exact hn);have al:=Qm (jb (ls (cg 0 n.J))) T
 have A9:∀i,e∈mz (eN T) T i->ZC (lu (jb (ls (cg 0 n.J))) T) e:=λi h=>by
  obtain⟨s,c7,rfl⟩:=aub.1 h;obtain⟨ws,_⟩:=auw.1 c7;obtain⟨kN,vX,uM,p,j,m,bL,bX,Y,wq,ay,qr,hm,vZ,Qt,uK⟩:=Kl aw I hs ws;have rN:h4 (eN T) s.fi<1+eN T+(bP T).length:=by unfold h4;split<;>omega
  have kF:(s.l0 (eN T)).id=wt m (s.dd&&!s.mv):=Qt;refine⟨⟨awn _,by rw[al];exact av_.2 rN⟩,?_,?_,?_⟩
  ·show -1<=(if(s.dd&&!s.mv)=true then((h4 (eN T) s.di:Nat):Int)else -1)/\(if(s.dd&&!s.mv)=true then((h4 (eN T) s.di:Nat):Int)else -1)<_;split
   ·rename_i h1;rw[atN]at h1;obtain⟨q,G,Dg⟩:=vX h1.1
    have lb:q<(bP T).length:=by
     rcases at3 q (bP T).length with h|h
     ·exact h
     rw[atW h]at G;cases G
    rw[Dg,al,h4,atH atw];omega
   omega
  ·rw[kF];show _=decide ((if(s.dd&&!s.mv)=true then((h4 (eN T) s.di:Nat):Int)else -1)<0)
   cases N:(s.dd&&!s.mv)with
   |true =>
    rw[atI rfl,auk atw,wt,atI rfl];exact Qs vZ.anC
   |false =>
    rw[atH atz,auC atz,anB];split
    ·exact Ju m [59,49]
    exact anL m
  intro h0
  have h1:(s.dd&&!s.mv)=true:=by
   cases N:(s.dd&&!s.mv)with
   |true=>rfl
   |false =>
    have:(s.l0 (eN T)).bd=-1:=by show(if(s.dd&&!s.mv)=true then _ else _)=_;rw[N];rfl
    omega
  have GO:(s.l0 (eN T)).bd=((h4 (eN T) s.di:Nat):Int):=by show(if(s.dd&&!s.mv)=true then _ else _)=_;rw[atI h1]
  rw[atN]at h1;have gu:s.mv=false:=by simpa using h1.2
  obtain⟨q,G,Dg⟩:=vX h1.1;refine⟨s.ju (eN T),by rw[GO,auj,Dg];exact Ki G,?_,?_,rfl⟩
  ·simp[aT.ju,aT.l0,gu]
  simp[aT.ju,aT.l0,gu]
 rw[ti]at ao;rcases aue.1 ao with ao|ao
 ·rcases aue.1 ao with ao|ao
  ·rcases aue.1 ao with ao|ao
   ·split at ao
    ·cases ao
    rename_i h1;rw[auv]at ao;subst ao
    have je : eN T = 1 := by rcases Kh T with h|h;· exact absurd h h1
                             exact h
    refine⟨⟨auN _,by rw[al];show(0:Int)<_;omega⟩,⟨by show(-1:Int)<=1;decide,by rw[al,je];show(1:Int)<_;omega⟩,?_,λ_=>⟨_,Kj je,rfl,rfl,rfl⟩⟩;show Lib.hasSuffix (jb (ls (cg 0 n.J))) [59,49]=_;rw[Qs (anH _ AC)];rfl
   exact A9 0 ao
  obtain⟨s,c7,rfl⟩:=aub.1 ao;obtain⟨ws,gu⟩:=auw.1 c7;obtain⟨kN,vX,uM,_⟩:=Kl aw I hs ws;obtain⟨q,G,Dg⟩:=vX (uM gu)
  have lb:q<(bP T).length:=by
   rcases at3 q (bP T).length with h|h
   ·exact h
   rw[atW h]at G;cases G
  have je:=Zt ws gu;have hm:ed (cU bm n::T)=ed T:=by rw[ed,auM,atH (by simp[cU])];rfl
  obtain⟨i,hi⟩:=auf.1 c7;have ff:=I.ZA i s (by rw[hm];exact hi)
  have ce:i<(ed T).length:=by
   rcases at3 i (ed T).length with h|h
   ·exact h
   rw[atW h]at hi;cases hi
  have gs:(ed T).length<=T.length:=aum _ _;have GO:(s.oo (eN T)).bd=((h4 (eN T) s.di:Nat):Int):=rfl;refine⟨⟨by show(0:Int)<=1;decide,by rw[al,je];show(1:Int)<_;omega⟩,⟨by rw[GO];omega,?_⟩,?_,λ_=>⟨s.ju (eN T),by rw[GO,auj,Dg];exact Ki G,?_,?_,rfl⟩⟩
  ·rw[GO,Dg,al,h4,atH atw];omega
  ·show Lib.hasSuffix (68::Lib.decDigits s.mno) [59,49]=decide (((h4 (eN T) s.di:Nat):Int)<0);rw[Qs,auk atw];intro h;rcases at5.1 h with h|h
   ·cases h
   exact(anG _ atw).2 h
  ·simp[aT.ju,aT.oo,gu]
  simp[aT.ju,aT.oo,gu]
 obtain⟨i,_,ao⟩:=avG.1 ao;exact A9 _ ao
end Go.bR.ck


namespace Go.bR.ck
open Go Go.Proofs
variable{B:World}
theorem ZD:∀(q r:List atG) (n:ad),i_ n (q++r)=(i_ n q).bind λd=>i_ d r
 |[],r,n=>rfl
 |m::q,r,n=>by simp only[auS,i_];cases py m n.J with|none=>rfl|some k=>exact ZD q r k
theorem Qu{n:ad}{l:Int}(h:one n l=0):vD n l=0/\vE n l=0/\vF n=0/\vG n=0/\vH n=0/\nv n l=0:=by
 unfold one at h;simp only[g8,eO]at h
 repeat' split at h
 all_goals first|exact⟨by assumption,by assumption,by assumption,by assumption,by assumption,by assumption⟩|(exact absurd h (by assumption))
variable{s:atG}
theorem Kn(h:dX s=true):s.length<=256:=by unfold dX at h;split at h;cases h;unfold chars at h;split at h;simp at h;cases hc:jo s with|none=>rw[hc]at h;simp at h|some l =>rw[hc]at h;have:=B_ s.length s (atQ _) l hc;simp at h;omega
theorem anN(h:kR s=true):s.length<=128:=by unfold kR at h;split at h;cases h;omega
theorem Ko{x a b:Int}(h:sY x a b=true):a<=x/\x<=b:=by unfold sY at h;simp at h;omega
theorem Kp{n:ad}{l:Int}(al:1<=l)(h:one n l=0):xv n/\n.name.length<=256/\n.target.length<=128/\n.J.length<=64/\(1<l->dX n.name=true):=by obtain⟨h1,A,Z,aG,bb,cL⟩:=Qu h;(have cq:ub n l=false:=by unfold vD at h1;split at h1<;>simp_all);(have d8:uc n l=false:=by unfold vE at A;split at A<;>simp_all);(have nu:ud n=false:=by unfold vF at Z;split at Z<;>simp_all);(have Ap:ue n=false:=by unfold vG at aG;split at aG<;>simp_all);(have ug:r0 n=false:=by unfold vH at bb;split at bb<;>simp_all);(have Ff:r1 n l=false:=by unfold nv at cL;split at cL<;>simp_all);unfold ub at cq;unfold uc at d8;unfold ud at nu;unfold ue at Ap;unfold r0 at ug;unfold r1 at Ff;simp only[avh,avk,avE,avn]at cq d8 nu Ap ug Ff;have sC:=Ko ug.1.1.1.1.1;have Fl:=Ko ug.1.1.1.1.2;have asQ:=Ko ug.1.1.1.2;have asR:=Ko ug.1.1.2;(have mt:1<l->dX n.name=true:=λnt=>by rcases d8.2 with h|h;exact absurd nt h;exact h);(have jG:n.name.length<=256:=by rcases Int.lt_or_le 1 l with nt|nt;exact Kn (mt nt);(have:l=1:=by omega);subst this;rcases d8.1 with h|h;simp at h;(have:n.name=[]:=by simpa using h);rw[this];simp);(have u7:n.target=[]\/kR n.target=true:=by rcases Ap with h|h;rcases nu.1.2 with bB|bB;rw[h]at bB;cases bB;exact .inl (by simpa using bB);exact .inr h);(have iV:n.target.length<=128:=by rcases u7 with h|h;rw[h];simp;exact anN h);(have eS:n.J.length<=64:=by omega);exact⟨⟨by omega,by omega,by omega,by omega,by omega,by omega,by omega,by omega,by omega,by omega,u7,by omega,by omega,by omega⟩,jG,iV,eS,mt⟩
theorem ZE:∀{ag:List ad} {l:Int},m6 ag l=true->∀k∈ag,iJ k l=true
 |x::r,l,h,k,Y=>by rw[m6,atN]at h;rcases at5.1 Y with e|e;subst e;exact h.1;exact ZE h.2 k e
theorem anO{n k:ad}{l:Int}(h:iJ n l=true)(Y:k∈n.J):iJ k (l+1)=true:=by rw[IW,atN]at h;exact ZE h.2 k Y
theorem Kq{n:ad}{l:Int}(h:iJ n l=true):one n l=0:=by rw[IW,atN]at h;simpa using h.1
theorem anP(q:List atG)(m:atG):nC (q++[m])=if q=[]then m else nC q++[47]++m:=by cases q with|nil=>simp[nC,ln]|cons a r =>rw[atH aty];(have:∀(r:List atG),ln (r++[m])=ln r++47::m:=λr=>by induction r with|nil=>simp[ln]|cons a r aZ=>simp[ln]);simp[nC,this]
variable{l:List aT}
theorem fs.ZF{bm:Bool}{n:ad}(aw:im n)(aW:iJ n 1=true)(I:fs bm n l):∀(i:Nat) (s:aT),l[i]?=some s->∃q,xh q/\s.path=nC q/\(q.length:Int)=s.lv-1/\i_ n q=some s.n/\iJ s.n s.lv=true:=by intro i;induction i using Nat.strongRecOn with|_ i aZ =>intro s hs;rcases auF i with rfl|hi;rw[I.tp.1]at hs;cases hs;exact⟨[],(λm hm=>by cases hm),rfl,rfl,rfl,aW⟩;obtain⟨p,a6,ay,bf⟩:=I.dr hi hs;obtain⟨q,G,Qv,lb,anQ,anR⟩:=aZ s.ab atw p ay;have ff:=(I.Qo aw i s hs).2 hi;have GP:=(I.Qo aw s.ab p ay).1;have GH:=a6.lv;refine⟨q++[s.n.name],λm hm=>?_,?_,by simp;omega,?_,?_⟩;rcases aue.1 hm with h|h;exact G m h;rw[auv]at h;rw[h];exact ff;rw[anP,a6.path,Go.bR.ck.below];by_cases h:q=[];rw[atI h,atI (by subst h;simp at lb;omega)];rw[atH h,atH (by have:=au8.2 h;omega),Qv];rw[ZD,anQ];show i_ p.n [s.n.name]=some s.n;rw[WD (Oc GP) a6.PY rfl];rfl;rw[GH];exact anO anR a6.PY
theorem ZG{α:Type}(g:atG->α):∀(bU:List atG) (m:List (atG×α)) (p:atG),bK (bU.foldl (λm p=>eD m p (g p)) m) p=if p∈bU then some (g p)else bK m p
 |[],m,p=>by simp
 |x::r,m,p=>by rw[au0,ZG g r,my];by_cases h:p∈r;rw[atI h,atI (atY _ h)];rw[atH h];by_cases A:p=x;subst A;rw[atI rfl,atI atU];rw[atH A,atH (λhc=>by rcases at5.1 hc with Z|Z;exact A Z;exact h Z)]
theorem anS{n:ad}{p:atG}(h:p∈dR n [] 1):gY (f2 (en n) n (dR n [] 1)) p=(en n p).1:=by unfold gY f2;rw[ZG (λp=>(en n p).1),atI h];rfl
theorem fs.gY{bm:Bool}{n:ad}(aw:im n)(aW:iJ n 1=true){l:List aT}(I:fs bm n l){i:Nat}{s:aT}(hs:l[i]?=some s):Go.bR.ck.gY (f2 (en n) n (dR n [] 1)) s.path=s.n/\iJ s.n s.lv=true/\1<=s.lv:=by
 obtain⟨q,G,ay,al,xH,hj⟩:=I.ZF aw aW i s hs;have hm:q∈px n:=(Od q n aw).2 ⟨_,xH⟩;have r_:s.path∈dR n [] 1:=by rw[Of,ay];exact List.mem_map_of_mem hm
 refine⟨?_,hj,by omega⟩;rw[anS r_,ay,aim G,xH]
theorem Kr{a b:atG}(h:io a)(bB:io b):io (a++b):=λc hc=>by
 rcases aue.1 hc with e|e
 ·exact h c e
 exact bB c e
theorem ZH{x:UInt8}{b:atG}(h:x.toNat<128)(bB:io b):io (x::b):=λc hc=>by
 rcases at5.1 hc with e|e
 ·subst e;exact h
 exact bB c e
theorem anT:∀c:UInt8,q0 c=true->c.toNat<128:=by
 intro c h;have:∀n,n<256->q0 (UInt8.ofNat n)=true->n<128:=by decide +kernel
 have A:=this c.toNat c.toNat_lt (by rw[UInt8.ofNat_toNat];exact h);exact A
theorem Qw{m:Int}(h:oj s m=true):io s:=λc hc=>by
 simp only[oj,uz,atN,auE]at h;exact anT c (h.2.2.2 c hc)
variable{bL bX:atG}{bd:Bool}
theorem nL.Qx{m:atG}(h:nL m bd bL bX):io m:=by rcases h.eq with⟨_,A⟩|⟨_,_,Z,aG⟩;rw[A];exact Qw h.a;rw[aG];exact Kr (Qw h.a) (ZH atz (Qw Z))
theorem anU{m:atG}(h:nL m bd bL bX)(d:Bool):io (wt m d)/\(wt m d).length<=15:=by have al:=h.len;unfold wt;split;exact⟨h.Qx,by omega⟩;split;exact⟨Kr h.Qx (by intro c hc;simp at hc;rcases hc with rfl|rfl<;>decide),by simp;omega⟩;exact⟨Kr h.Qx (by intro c hc;simp at hc;rcases hc with rfl|rfl|rfl<;>decide),by simp;omega⟩
theorem ZI:∀a,a<120->(Lib.decDigits a).length<=3/\∀c∈Lib.decDigits a,c.toNat<128:=by decide +kernel
variable{k:Nat}
theorem anV(h:k<100):io (jb k)/\(jb k).length<=9:=by have:=ZI k atw;unfold jb;split;exact⟨by intro c hc;simp at hc;rcases hc with rfl|rfl|rfl|rfl|rfl|rfl|rfl|rfl<;>decide,by decide⟩;refine⟨Kr (by intro c hc;simp at hc;rcases hc with rfl|rfl|rfl|rfl|rfl|rfl<;>decide) this.2,?_⟩;simp;omega
variable{bv:atG}
theorem ZJ{T:List aT}{e:gq}(h:e∈ti bv T):(e=⟨[47],bv,0,1,true,false,false⟩)\/(∃s∈T,e=s.l0 (eN T))\/(∃s∈ed T,e=s.oo (eN T)):=by(have A9:∀i,e∈mz (eN T) T i->∃s∈T,e=s.l0 (eN T):=λi h=>by obtain⟨s,hs,rfl⟩:=aub.1 h;exact⟨s,(auw.1 hs).1,rfl⟩);rw[ti]at h;rcases aue.1 h with h|h;rcases aue.1 h with h|h;rcases aue.1 h with h|h;split at h;cases h;rw[auv]at h;exact .inl h;exact .inr (.inl (A9 0 h));obtain⟨s,hs,rfl⟩:=aub.1 h;exact .inr (.inr ⟨s,hs,rfl⟩);obtain⟨i,_,h⟩:=avG.1 h;exact .inr (.inl (A9 _ h))
structure Ks (bm:Bool) (n:ad) (D:List eM) (er:List gq):Prop where
 J2:D.length<=103
 bI:er.length<=201
 eX:∃d,D[0]?=some d
 Gl:∀d∈D,0<=d.cA/\d.cA<(D.length:Nat)
 J3:∀e∈er,0<=e.eP/\e.eP<(D.length:Nat)
 J4:∀d∈D,d.id.length<=100/\io d.id
 anW:∀e∈er,e.id.length<=100/\io e.id
 ZK:∀e∈er,e.CT=true->∃m:ad,gY (f2 (en n) n (dR n [] 1)) e.path=m/\xv m/\dX m.name=true/\m.name.length<=256/\m.target.length<=128/\e.path.length<=100000
theorem ZL:∀{q:List atG} (_:xh q),(ln q).length<=257*q.length
 |[],_=>by simp[ln]
 |m::r,h=>by have aZ:=ZL (q:=r) λx F=>h x (atY _ F);have:=Kn (h m atU);simp only[ln,auL,atP,atT]at aZ⊢;omega
theorem anX{q:List atG}(h:xh q):(nC q).length<=257*q.length:=by cases q with|nil=>simp[nC]|cons m r =>have:=ZL (q:=r) λx F=>h x (atY _ F);have:=Kn (h m atU);simp only[nC,atP,atT];omega
theorem anY{n:ad}{l:Int}(h:one n l=0):l<=16:=axB
theorem anZ{bm:Bool}{n:ad}(X:valid n=true)(hc:fC n<99):Ks bm n (mA bm n).1 (mA bm n).2.1/\(mA bm n).2.2=0:=by have aw:=AH X;obtain⟨xE,jO⟩:=P2 X;(have aW:iJ n 1=true:=by rw[vW,atN]at X;exact X.2);obtain⟨bv,T,ay,I,hT,yE⟩:=anA (bm:=bm) X;(have Qy:ts (cU bm n::T):=by rw[hT];exact anF bm xE jO);(have AP:T.length<99:=by have:=PW n (cU bm n) ⟨1,1,0⟩;rw[<-hT]at this;omega);(have an0:∀s∈T,s.iso=true->lg 0 s.n s.lv=true:=by rw[hT];exact anq n (cU bm n) ⟨1,1,0⟩);have an1:=anw I an0 bv;have ZM:=anM aw I Qy atw;have an2:=λs (hs:s∈T)=>(Kl aw I Qy hs).name;obtain⟨hn,_,_,_⟩:=(s_ n).1 aw;obtain⟨AC,_,_⟩:=O4 (gp:=cg 0 n.J) (by rw[oi];exact hn);have wj:=anV AC;rw[<-yE]at ZM wj;have an3:∀x∈T,x.fi<=(bP T).length:=λx F=>(Kl aw I Qy F).fi;have jI:=Qm bv T;have asS:=Kh T;have asT:(bP T).length<=T.length:=aum _ _;have fq:=amo bv an3;(have Qa:∀s∈ed T,s.mno<120:=λs hs=>by(have hm:ed (cU bm n::T)=ed T:=by rw[ed,auM,atH (by simp[cU])];rfl);obtain⟨i,hi⟩:=auf.1 hs;have ff:=I.ZA i s (by rw[hm];exact hi);(have ce:i<(ed T).length:=by rcases at3 i (ed T).length with h|h;exact h;rw[atW h]at hi;cases hi);have gs:(ed T).length<=T.length:=aum _ _;omega);(have Kd:∀s∈T,io (if s.mv then s.file else s.id)/\(if s.mv then s.file else s.id).length<=15:=λs hs=>by obtain⟨p,j,m,bL,bX,Y,wq,ay,qr,hm,vZ,Qt,uK⟩:=an2 s hs;rw[Qt];exact anU (by exact(by cases N:(s.n.kind==0)with|true=>rw[N]at vZ;exact vZ|false=>rw[N]at vZ;exact vZ:nL m (s.n.kind==0) bL bX)) _);(have ZN:∀s∈ed T,io (68::Lib.decDigits s.mno)/\(68::Lib.decDigits s.mno).length<=4:=λs hs=>by have:=ZI s.mno (Qa s hs);exact⟨ZH atz this.2,by simp;omega⟩);(have ZO:∀s∈T,∃m:ad,gY (f2 (en n) n (dR n [] 1)) s.path=m/\xv m/\dX m.name=true/\m.name.length<=256/\m.target.length<=128/\s.path.length<=100000:=λs hs=>by obtain⟨t,av⟩:=auf.1 hs;have h1:(cU bm n::T)[t+1]?=some s:=av;obtain⟨ha,hj,GH⟩:=I.gY aw aW h1;obtain⟨q,G,Qv,lb,_,_⟩:=I.ZF aw aW (t+1) s h1;have A:=(I.lv (t+1) s h1).2.2.1 atw;have ah:=Kq hj;obtain⟨cq,d8,nu,Ap,ug⟩:=Kp GH ah;have asU:=anY ah;refine⟨_,ha,cq,ug atw,d8,nu,?_⟩;have:=anX G;rw[Qv];omega);rw[ay];refine⟨⟨by dsimp only;omega,by dsimp only;omega,⟨_,Ql bv T⟩,λd N=>?_,λe ao=>(ZM e ao).eP,λd N=>?_,λe ao=>?_,λe ao ha=>?_⟩,rfl⟩;obtain⟨i,hi⟩:=auf.1 N;have ce:=(aun.1 hi).1;dsimp only at hi ce⊢;rcases auF i with h0|h0;subst h0;rw[Ql]at hi;cases hi;exact⟨by decide,by show(0:Int)<_;omega⟩;have:=(an1 i d hi).dr h0;omega;obtain⟨i,hi⟩:=auf.1 N;rcases Zs hi with⟨_,rfl⟩|⟨_,_,rfl⟩|⟨k,s,hs,_,rfl⟩;exact⟨by decide,by intro c hc;simp[y1]at hc;subst hc;decide⟩;exact⟨by dsimp only;omega,wj.1⟩;have ws:s∈T:=(auw.1 (at1 hs)).1;simp only[aT.ju];split;rename_i hm;have:=ZN s (auw.2 ⟨ws,hm⟩);exact⟨by omega,this.1⟩;rename_i hm;have:=Kd s ws;rw[atH hm]at this;exact⟨by omega,this.1⟩;rcases ZJ ao with rfl|⟨s,hs,rfl⟩|⟨s,hs,rfl⟩;exact⟨by dsimp only;omega,wj.1⟩;have:=Kd s hs;exact⟨by simp only[aT.l0];omega,this.1⟩;have:=ZN s hs;exact⟨by simp only[aT.oo];omega,this.1⟩;rcases ZJ ao with rfl|⟨s,hs,rfl⟩|⟨s,hs,rfl⟩;cases ha;exact ZO s hs;exact ZO s (auw.1 hs).1
def Kt(aO:List eM)(e:gq):atG:=((aO[e.eP.toNat]?).map (·.path)).getD []
def gg(n:ad)(aO:List eM)(x:bQ):List c8:=match x.ho with
 |.e2=>[]
 |.Jx=>Jv n
 |.dr _=>Jw
 |.Jy m e=>O8 m e (Kt aO e)
variable{ap:List (atG×ad)}{aO:List eM}{cn:List gq}{i:Nat}
theorem Qz{o:f0}{x:bQ}(h:x∈e_ o ap aO cn i):(x.id=[0]/\(x.ho=.e2\/x.ho=.Jx))\/(x.id=[1]/\(x.ho=.e2\/∃d,x.ho=.dr d))\/(∃e∈cn,x.id=e.id/\(x.ho=.e2\/(e.CT=true/\x.ho=.Jy (gY ap e.path) e))):=by unfold e_ at h;split at h;rename_i d N;rcases at5.1 h with e|h;subst e;refine .inl ⟨rfl,?_⟩;unfold v_;dsimp only;split;exact .inr rfl;exact .inl rfl;rcases at5.1 h with e|h;subst e;refine .inr (.inl ⟨rfl,?_⟩);unfold v';dsimp only;split;exact .inr ⟨_,rfl⟩;exact .inl rfl;obtain⟨e,ao,rfl⟩:=aub.1 h;refine .inr (.inr ⟨e,(auw.1 ao).1,rfl,?_⟩);unfold ra;dsimp only;split;rename_i ha;exact .inr ⟨ha,rfl⟩;exact .inl rfl;cases h
variable{fG:List eM}{er:List gq}
theorem an4(a1:db B){bm:Bool}{n:ad}(bN:Ks bm n fG er)(aw:xv n)(o:f0)(bW bF bG:Nat)(b3:List (atG×Int)){x:bQ}(F:x∈e_ o (f2 (en n) n (dR n [] 1)) fG er i): AW B (.mp bG (bn (D.int .i64) b3)) (kd (.a_ 26 [dD o n bW bF] 0 0) bG fG x.ho) (gg n fG x):=by(have ff:x.ho=.e2->AW B (.mp bG (bn (D.int .i64) b3)) (kd (.a_ 26 [dD o n bW bF] 0 0) bG fG x.ho) (gg n fG x):=λh=>by unfold gg;rw[h];exact YI _);rcases Qz F with⟨_,h|h⟩|⟨_,h|⟨d,h⟩⟩|⟨e,ao,_,h|⟨ha,h⟩⟩;exact ff h;unfold gg;rw[h];exact⟨160,[],[.a_ 1 [.a_ 26 [dD o n bW bF] 0 0] 0 0],rfl,mI.PQ _ (akg a1 _ o n bW bF aw)⟩;exact ff h;unfold gg;rw[h];exact⟨165,[],[.a_ 6 [gC d] 0 0],rfl,mI.PQ _ (akh a1 d)⟩;exact ff h;unfold gg;rw[h];obtain⟨m,hm,cD,mt,_,_,dg⟩:=bN.ZK e ao ha;obtain⟨h0,h1⟩:=bN.J3 e ao;obtain⟨d,N⟩:∃d,fG[e.eP.toNat]?=some d:=⟨_,atK atw⟩;(have Qj:Kt fG e=d.path:=by unfold Kt;rw[N];rfl);rw[hm];dsimp only;rw[Qj];exact⟨167,[],_,rfl,akj a1 o n bW bF m bG b3 fG e d cD mt dg ⟨h0,N⟩⟩
theorem ZP{kind g9 j7 j8 j9:Int}{named:Bool}{name target:atG}{fh b0:Int}{jQ:Bool}(aw:name.length<=256)(av:target=[]\/kR target=true):∀y∈us kind g9 j7 j8 j9 named name target fh b0 jQ,y.qk.length<=2/\y.data.length<=30000:=λy hy=>by
 have ae:=Vq fh 0
 have I:∀l:List Int,(g_ l).length=8*l.length:=λl=>by
  unfold g_
  induction l with
  |nil=>rfl
  |cons a r aZ=>rw[auL,atP,aZ,IL,atT];omega
 unfold us at hy;rcases at5.1 hy with rfl|hy
 ·exact⟨by simp,by simp[I]⟩
 rcases aue.1 hy with hy|hy
 ·split at hy
  ·rw[auv]at hy;subst hy;exact⟨by simp,by simp;omega⟩
  cases hy
 rcases aue.1 hy with hy|hy
 ·split at hy
  ·rename_i a7;rcases av with h|h
   ·exact absurd h a7
   have:=VH target h;rw[auv]at hy;subst hy;exact⟨by simp,by simp;omega⟩
  cases hy
 rcases at5.1 hy with rfl|hy
 ·exact⟨by simp,by simp;omega⟩
 rcases aue.1 hy with hy|hy
 ·split at hy
  ·rw[auv]at hy;subst hy;exact⟨by simp,by simp[I]⟩
  cases hy
 split at hy
 ·rw[auv]at hy;subst hy;exact⟨by simp,by simp⟩
 cases hy
theorem an5{bm:Bool}{n:ad}(bN:Ks bm n fG er)(aw:xv n){o:f0}{x:bQ}(F:x∈e_ o (f2 (en n) n (dR n [] 1)) fG er i): (gg n fG x).length<=8/\∀y∈gg n fG x,y.qk.length<=2/\y.data.length<=30000:=by(have ff:x.ho=.e2->(gg n fG x).length<=8/\∀y∈gg n fG x,y.qk.length<=2/\y.data.length<=30000:=λh=>by unfold gg;rw[h];exact⟨by simp,λy hy=>by cases hy⟩);rcases Qz F with⟨_,h|h⟩|⟨_,h|⟨d,h⟩⟩|⟨e,ao,_,h|⟨ha,h⟩⟩;exact ff h;unfold gg;rw[h];dsimp only;have al:=O7 n.kind n.cN (kU n 1) n.n2 n.n3 false [] [] n.n4 0 false;unfold Jv;refine⟨by simp;omega,λy hy=>?_⟩;rcases at5.1 hy with rfl|hy;exact⟨by simp,by simp⟩;rcases aue.1 hy with hy|hy;exact ZP aty (.inl rfl) y hy;rw[auv]at hy;subst hy;exact⟨by simp,by simp⟩;exact ff h;unfold gg;rw[h];dsimp only;refine⟨by simp[Jw],λy hy=>?_⟩;unfold Jw at hy;rw[auv]at hy;subst hy;exact⟨by simp,by simp[g_,IL]⟩;exact ff h;unfold gg;rw[h];dsimp only;obtain⟨m,hm,cD,mt,jG,iV,dg⟩:=bN.ZK e ao ha;rw[hm];unfold O8;refine⟨?_,λy hy=>?_⟩;have:=O7 m.kind m.cN (kU m ((e.path.count 47:Nat)+2)) m.n2 m.n3 true m.name m.target m.n4 (if e.AT=true then 1 else 0) (Kt fG e==[47]);omega;exact ZP jG cD.tg y hy
theorem an6{bm:Bool}{n:ad}(bN:Ks bm n fG er){o:f0}{x:bQ}(F:x∈e_ o ap fG er i):x.id.length<=100/\io x.id:=by rcases Qz F with⟨h,_⟩|⟨h,_⟩|⟨e,ao,h,_⟩;rw[h];exact⟨by decide,by intro c hc;simp at hc;subst hc;decide⟩;rw[h];exact⟨by decide,by intro c hc;simp at hc;subst hc;decide⟩;rw[h];exact bN.anW e ao
theorem ZQ:∀(bD:Nat) (n:ad),oX n<bD->im n->y_ n:=by intro bD;induction bD with|zero=>intro n h;omega|succ bD aZ =>intro n h aw;obtain⟨hn,_,hi,Y⟩:=(s_ n).1 aw;have cD:∀k∈n.J,dX k.name=true:=λk hm=>(qZ Y hm).1.1;(have ae:(kX 1 n.J).1=cg 1 n.J:=by unfold kX;rw[atH atz,atH atw,atH (by rw[CG,auE.2 (λk hm=>cD k hm)];decide),atH (λh=>h (CH hi))];exact air hi);refine .mk n (by rw[ae,oi]) (λx F=>?_) λk hm=>aZ k (by have:=Ps hm;have:=A0 n;omega) (qZ Y hm).2;rw[ae]at F;have:=Kn (WT atz hn cD x F);omega
structure wu (s:k1):Prop where
 aD:∀p∈s.aD,p.1.length<=10000/\0<=p.2/\p.2<=1000000
 id:∀i,∀x∈s.be i,x.id.length<=10000
theorem wu.put{s:k1}(h:wu s)(i:Nat)(x:bQ)(F:x.id.length<=10000):wu (hE s i x):=⟨h.aD,λj y hy=>by
 simp only[hE]at hy;split at hy
 ·rcases aue.1 hy with h1|h1
  ·exact h.id j y h1
  rw[auv]at h1;subst h1;exact F
 exact h.id j y hy⟩
theorem wu.new{s:k1}(h:wu s)(id:atG)(p:Nat)(a b:bQ)(hi:id.length<=10000)(ay:p<=1000000)(ha:a.id.length<=10000)(I:b.id.length<=10000):wu (mB s id p a b):=⟨λq G=>by
 rcases aue.1 G with h1|h1
 ·exact h.aD q h1
 ·rw[auv]at h1;subst h1;exact⟨hi,by dsimp only;omega,by dsimp only;omega⟩,λj y hy=>by
 simp only[mB]at hy;split at hy
 ·simp at hy;rcases hy with rfl|rfl
  ·exact ha
  exact I
 exact h.id j y hy⟩
mutual
theorem QA(o:f0)(ap:List (atG×ad))(n:ad)(path id:atG)(cA bY:Nat)(s:k1)(kV:y_ n)(h:wu s)(nw:∀j,(s.be j).length<=66)(kF:id.length<=10000)(ay:cA<=1000000)(hc:s.aD.length+fC n<=1000000):
  wu (jx o ap n path id cA bY s)/\(∀j,((jx o ap n path id cA bY s).be j).length<=66)/\(jx o ap n path id cA bY s).aD.length<=s.aD.length+fC n:=by
 match n,kV with
 |.mk a b c d e f g bB i j ag cC,kV =>
  obtain⟨_,h1,A,Z⟩:=kV
  have asV:ag.length<=64:=by
   have mW:(kX 1 ag).1.length=ag.length:=h1;rcases at3 64 ag.length with bf|h'
   ·unfold kX at mW;rw[atH atz,atI bf]at mW;simp at mW;omega
   exact h'
  rw[jx,fC];rw[fC]at hc;have aw:=h.new id cA ⟨[0],bB,o.c3,2,(s.aD.length:Nat),.e2⟩ ⟨[1],(rc ap (.mk a b c d e f g bB i j ag cC) path bY).n4,o.c3,2,(cA:Nat),.e2⟩ kF ay aty aty;have al:(mB s id cA ⟨[0],bB,o.c3,2,(s.aD.length:Nat),.e2⟩ ⟨[1],(rc ap (.mk a b c d e f g bB i j ag cC) path bY).n4,o.c3,2,(cA:Nat),.e2⟩).aD.length=s.aD.length+1:=by simp[mB]
  have:=Ku o ap ag (kX 1 ag).1 s.aD.length path bY (mB s id cA ⟨[0],bB,o.c3,2,(s.aD.length:Nat),.e2⟩ ⟨[1],(rc ap (.mk a b c d e f g bB i j ag cC) path bY).n4,o.c3,2,(cA:Nat),.e2⟩) Z A aw (λj aa=>by
   simp only[mB];rw[atH aa];exact nw j) (by simp only[mB,auX,atT,auh];omega) (by rw[al];omega) (by rw[al];omega)
  exact⟨this.1,this.2.1,by have:=this.2.2;omega⟩
theorem Ku(o:f0)(ap:List (atG×ad))(ag:List ad)(aX:List atG)(ea:Nat)(path:atG)(bY:Nat)(s:k1)(kV:∀k∈ag,y_ k)(mt:∀x∈aX,x.length<5000)(h:wu s)(nw:∀j,j≠ea->(s.be j).length<=66)(ZR:(s.be ea).length+ag.length<=66)(ha:ea<s.aD.length)(hc:s.aD.length+eY ag<=1000000):
  wu (iN o ap ag aX ea path bY s)/\(∀j,((iN o ap ag aX ea path bY s).be j).length<=66)/\(iN o ap ag aX ea path bY s).aD.length<=s.aD.length+eY ag:=by
 match ag with
 |[] =>
  rw[iN];refine⟨h,λj=>?_,by simp[eY]⟩;by_cases aa:j=ea
  ·subst aa;simp at ZR;omega
  exact nw j aa
 |k::ag =>
  rw[iN,eY];rw[eY]at hc;rw[atT]at ZR
  have akZ:(aX.headD []).length<5000:=by
   cases aX with
   |nil=>decide
   |cons a r=>exact mt a atU
  have zS:=afE (aX.headD []);have iV:∀x∈aX.tail,x.length<5000:=λx F=>mt x (aw6 F);have C8:=EJ k;split
  ·split
   ·have ht:∀j,(s.be j).length<=66:=λj=>by
     by_cases aa:j=ea
     ·subst aa;omega
     exact nw j aa
    have h1:=QA o ap k (na path k.name bY) (fj (aX.headD [])) ea (bY+1) s (kV k atU) h ht atw atw atw;have A:=JR o ap k (na path k.name bY) (fj (aX.headD [])) ea (bY+1) s
    have aG:=Ku o ap ag aX.tail ea path bY (hE (jx o ap k (na path k.name bY) (fj (aX.headD [])) ea (bY+1) s) ea ⟨fj (aX.headD []),k.n4,o.c3,2,(s.aD.length:Nat),.e2⟩) (λk Y=>kV k (atY _ Y)) iV (h1.1.put _ _ (by dsimp only;omega)) (λj aa=>by
     simp only[hE];rw[atH aa];exact h1.2.1 j) (by simp only[hE,auX,atP];rw[A.2.2 ea ha];simp;omega) (by show ea<(jx o ap k _ _ _ _ s).aD.length;omega) (by show(jx o ap k _ _ _ _ s).aD.length+_<=_;have:=h1.2.2;omega)
    exact⟨aG.1,aG.2.1,by have bb:=aG.2.2;have cL:=h1.2.2;have eV:(hE (jx o ap k (na path k.name bY) (fj (aX.headD [])) ea (bY+1) s) ea ⟨fj (aX.headD []),k.n4,o.c3,2,(s.aD.length:Nat),.e2⟩).aD.length=(jx o ap k (na path k.name bY) (fj (aX.headD [])) ea (bY+1) s).aD.length:=rfl;omega⟩
   have aG:=Ku o ap ag aX.tail ea path bY (hE s ea ⟨fj (aX.headD []),k.n4,o.c3,0,-1,.e2⟩) (λk Y=>kV k (atY _ Y)) iV (h.put _ _ (by dsimp only;omega)) (λj aa=>by
    simp only[hE];rw[atH aa];exact nw j aa) (by simp only[hE,auX,atP];simp;omega) ha (by show s.aD.length+_<=_;omega)
   exact⟨aG.1,aG.2.1,by have bb:=aG.2.2;have eV:(hE s ea ⟨fj (aX.headD []),k.n4,o.c3,0,-1,.e2⟩).aD.length=s.aD.length:=rfl;omega⟩
  have aG:=Ku o ap ag aX.tail ea path bY s (λk Y=>kV k (atY _ Y)) iV h nw atw ha atw;exact⟨aG.1,aG.2.1,by have bb:=aG.2.2;omega⟩
end
theorem an7{o:f0}{n:ad}(aw:im n)(hc:fC n<99)(cz:oX n<1000000):PR o ap n:=by
 have kV:=ZQ _ n (auy _) aw;have h:=QA o ap n [] [0] 0 1 ⟨[],λ_=>[]⟩ kV ⟨λp ay=>(by cases ay),λi x F=>(by cases F)⟩ (λj=>by simp) aty atw atx;have al:(kA o ap n).aD.length<=99:=by have:=h.2.2;show(jx o ap n [] [0] 0 1 ⟨[],λ_=>[]⟩).aD.length<=99;simp at this;omega
 refine⟨kV,cz,by omega,h.1.aD,λi _=>by have:=h.2.1 i;exact Nat.lt_of_le_of_lt this atw,?_,λi x F=>by have:=h.1.id i x F;omega⟩;have:=CY (bD:=λi=>(((kA o ap n).be i).length:Nat)) (a:=0) (b:=66) (n:=(kA o ap n).aD.length) (λi _=>⟨by omega,by have:=h.2.1 i;exact Int.ofNat_le.2 this⟩) (kA o ap n).aD.length (atQ _);omega
theorem QB{α wV:Type}{f:α->List wV}{b:Nat}:∀{l:List α},(∀x∈l,(f x).length<=b)->(l.flatMap f).length<=b*l.length
 |[],_=>by simp
 |a::r,h=>by have h1:=h a atU;have A:=QB (f:=f) (l:=r) λx F=>h x (atY _ F);rw[auL,atP,atT,Nat.mul_succ];omega
variable{aH:bQ->List c8}{wide:Bool}{be:Nat->List bQ}
theorem an8{n c:Nat}{a:Int}(aw:n<=103)(al:∀i,i<n->(be i).length<=203):a<=y6 aH wide be n a/\y6 aH wide be n a<=a+206000000+198000000:=by unfold y6;have h1:=CY (bD:=λi=>y5 aH wide (be i)) (a:=a) (b:=2000000) (n:=n) (λi hi=>XX (by have:=al i hi;omega)) n (atQ _);(have hlen:(wd aH wide be n).length<=64*203*n:=by unfold wd;(have:=QB (f:=λi=>(oW aH wide (be i)).flatMap λx=>(gP aH x).tail) (b:=64*203) (l:=List.range n) λi hi=>by(have Z:=QB (f:=λx=>(gP aH x).tail) (b:=64) (l:=oW aH wide (be i)) λx F=>by have:=(JE (JG aH wide x F).2.2).2.1;rw[List.length_tail];omega);have aG:=JH aH wide (L:=be i);have bb:=al i (avg.1 hi);have:64*(oW aH wide (be i)).length<=64*203:=Nat.mul_le_mul_left _ atw;omega);rw[List.length_range]at this;exact this);have A:=X3 (l:=wd aH wide be n) (λv X=>by unfold wd at X;obtain⟨i,_,X⟩:=avG.1 X;obtain⟨x,F,X⟩:=avG.1 X;exact(JE (JG aH wide x F).2.2).2.2 v (aw6 X)) (o:=0) (auN _);generalize(wd aH wide be n).foldl jX 0=V at*;generalize(wd aH wide be n).length=k at*;generalize fN (λi=>y5 aH wide (be i)) a n=y at*;unfold j6;rw[at6 atw];omega
variable{aD:List (atG×Int)}
theorem ZS{a:Int}(ha:0<=a)(M:∀p∈aD,p.1.length<=10000)(aw:aD.length<=103)(al:∀i,i<aD.length->(be i).length<=203):0<=(sl aH wide aD be a).1/\(sl aH wide aD be a).1<=a+2000+404000000/\((sl aH wide aD be a).2=0->a<=(sl aH wide aD be a).1):=by unfold sl;split;have hT:=YG (mC aD λ_=>0) wide;have dg:=C3 (aD:=aD) (aY:=λ_=>0);(have ay:=X4 (l:=(nK (mC aD λ_=>0) wide).1) λx F=>by obtain⟨y,hy,ao⟩:=hT.2 x F;obtain⟨j,aa,rfl⟩:=aw'.1 hy;rw[ao];exact M aD[j] (atO _));have asW:=hT.1;generalize(nK (mC aD λ_=>0) wide).1=T at*;(have an:0<=j6 (ky T)/\j6 (ky T)<=1000:=by unfold j6;rw[at6 atw];omega);have:=an8 (aH:=aH) (wide:=wide) (be:=be) (n:=aD.length) (c:=0) (a:=a+2*j6 (ky T)) aw al;dsimp only;exact⟨by omega,by omega,λ_=>by omega⟩;rename_i h;dsimp only;exact⟨by omega,by omega,λA=>absurd A h⟩
noncomputable def jz(o:f0)(n:ad):Int×Int:=if valid n=true then xC o n (f2 (en n) n (dR n [] 1)) (mA o.rock n).1 (mA o.rock n).2.1 (gg n (mA o.rock n).1)else(0,qX n o)
theorem an9(a1:db B)(o:f0)(n:ad)(aw:fr n)(hc:valid n=true->fC n<99/\aC n<800000/\oX n<1000000):
  aU B 30 [aE n,rX o] (.bp [u (jz o n).1,u (jz o n).2])/\0<=(jz o n).1/\(jz o n).1<=1000000000:=by
 have bC:aC n+n.name.length<10000000:=by have:=aw;unfold fr at this;omega
 by_cases X:valid n=true
 ·obtain⟨fc,bu,dK⟩:=hc X;have ik:aU B 96 [aE n] (.Q .none 1 (aN (dR n [] 1))):=by have h:=OD (B:=B) a1 n aw;rw[atI X]at h;exact h
  obtain⟨bN,ob⟩:=anZ (bm:=o.rock) X fc;have Gn:=am6 (B:=B) a1 o.rock n aw (λ_=>⟨fc,bu⟩);have aW:iJ n 1=true:=by have h:=X;rw[vW,atN]at h;exact h.2
  have ff:=(Kp (auN 1) (Kq aW)).1;unfold jz;rw[atI X];generalize(mA o.rock n).1=fG at*;generalize(mA o.rock n).2.1=sn at*
  have mO:∀i,(e_ o (f2 (en n) n (dR n [] 1)) fG sn i).length<=203:=λi=>by
   have:=Gm (o:=o) (ap:=f2 (en n) n (dR n [] 1)) (aO:=fG) (cn:=sn) (i:=i);have:=bN.bI;omega
  have aa:=an7 (o:=o) (ap:=f2 (en n) n (dR n [] 1)) (AH X) fc dK
  have gB:0<=(mD o (f2 (en n) n (dR n [] 1)) fG sn (gg n fG)).1/\(mD o (f2 (en n) n (dR n [] 1)) fG sn (gg n fG)).1<=404002001/\((mD o (f2 (en n) n (dR n [] 1)) fG sn (gg n fG)).2=0->1<=(mD o (f2 (en n) n (dR n [] 1)) fG sn (gg n fG)).1):=by
   have:=ZS (aH:=gg n fG) (wide:=false) (aD:=fG.map λd=>(d.id,d.cA)) (be:=e_ o (f2 (en n) n (dR n [] 1)) fG sn) (a:=1) atz (λp ay=>by
    obtain⟨d,N,rfl⟩:=aub.1 ay
    have:=(bN.J4 d N).1;dsimp only;omega) (by rw[atL];exact bN.J2) (λi _=>mO i)
   unfold mD;exact⟨this.1,by omega,this.2.2⟩
  have j4:0<=(ly o (f2 (en n) n (dR n [] 1)) n fG sn (gg n fG)).1/\(ly o (f2 (en n) n (dR n [] 1)) n fG sn (gg n fG)).1<=850000000/\((ly o (f2 (en n) n (dR n [] 1)) n fG sn (gg n fG)).2=0->1<=(ly o (f2 (en n) n (dR n [] 1)) n fG sn (gg n fG)).1):=by
   unfold ly;split
   ·rename_i an_;have ZT:=QA o (f2 (en n) n (dR n [] 1)) n [] [0] 0 1 ⟨[],λ_=>[]⟩ (ZQ _ n (auy _) (AH X)) ⟨λp ay=>(by cases ay),λi x F=>(by cases F)⟩ (λj=>by simp) aty atw atx;have oD:(kA o (f2 (en n) n (dR n [] 1)) n).aD.length<=103:=by have:=ZT.2.2;show(jx o _ n [] [0] 0 1 ⟨[],λ_=>[]⟩).aD.length<=103;simp at this;omega
    have:=ZS (aH:=λ_=>[]) (wide:=true) (aD:=(kA o (f2 (en n) n (dR n [] 1)) n).aD) (be:=(kA o (f2 (en n) n (dR n [] 1)) n).be) (a:=(mD o (f2 (en n) n (dR n [] 1)) fG sn (gg n fG)).1) gB.1 (λp ay=>(aa.aD p ay).1) oD (λi _=>by have:=ZT.2.1 i;exact avc this atz);have h1:=gB.2.2 an_.1;exact⟨this.1,by omega,λA=>by have:=this.2.2 A;omega⟩
   exact⟨gB.1,by omega,gB.2.2⟩
  have wv:=YO (B:=B) a1 o n bC (en n) (dR n [] 1) (by rw[AK];omega) ik (λp ay=>Ol a1 p (by have:=OZ ay;omega) n aw X) fG sn (gg n fG) (λ_=>⟨⟨_,Gn⟩,by have:=bN.J2;omega,by have:=bN.bI;omega,bN.Gl,bN.J3,λd N=>by have:=bN.J4 d N;exact⟨by omega,this.2⟩,λbW bF bG i _ x F=>an4 a1 bN ff o bW bF bG _ F,
   λi _ x F=>by
    have h1:=an6 bN F;have A:=an5 bN ff F
    exact⟨by omega,h1.2,by omega,λy hy=>by have:=A.2 y hy;omega⟩,λ_=>aa,by omega,by omega⟩)
  refine⟨wv,?_⟩;unfold xC;split
  ·split
   ·rename_i A;have:=j4.2.2 A;dsimp only;split<;>omega
   exact⟨auN _,by dsimp only;omega⟩
  exact⟨auN _,by dsimp only;omega⟩
 have C8:qX n o≠0:=by
  unfold qX;rw[atI (by cases h:valid n with|true=>exact absurd h X|false=>rfl)];decide
 have ik:aU B 96 [aE n] (.Q .none 1 (aN [])):=by have h:=OD (B:=B) a1 n aw;rw[atH X]at h;exact h
 have wv:=YO (B:=B) a1 o n bC (en n) [] atz ik (λp ay=>by cases ay) [] [] (λ_=>[]) (λh=>absurd h C8);have e:xC o n (f2 (en n) n []) [] [] (λ_=>[])=(0,qX n o):=by unfold xC;rw[atH C8]
 rw[e]at wv;unfold jz;rw[atH X];exact⟨wv,auN _,by dsimp only;omega⟩
def so(az:List c0)(g:cP):Int:=fd (λf:c0=>f.path==g.path) az
def Kv(az:List c0)(g:cP):Int:=((az.getD (so az g).toNat ⟨[],[]⟩).data.length:Nat)
def Kw(az:List c0)(start:Int)(g:cP):Bool:=bif (bif (bif (bif (bif decide (so az g<0)then true else g.len==0)then true else g.len !=Kv az g)then true else decide (g.start<0))then true else decide (start<g.start))then true else decide (start-g.start<iG g.len)
def uP(az:List c0)(start:Int)(o:Option (List (atG×cP)))(g:cP):Option (List (atG×cP)) :=
 o.bind λmp=>if Kw az start g=true then none else if(bK mp g.path).isSome=true then none else some (eD mp g.path g)
def tt(az:List c0)(start:Int)(l:List cP):Option (List (atG×cP)):=l.foldl (uP az start) (some [])
def Kx(n:ad)(m:fv)(start:Int):Bool:=bif (bif (bif !valid n then true else !rW m)then true else decide (start<0))then true else decide (4096<start)
def jA(n:ad)(m:fv)(aV:List cP)(start:Int):Option (List (atG×cP)):=if Kx n m start=true then none else tt (ch n) start aV
theorem an'(az:List c0)(start:Int){l:List cP}(h:i<l.length):tt az start (l.take (i+1))=uP az start (tt az start (l.take i)) l[i]:=by rw[tt,atM h,auT];rfl
theorem QC(az:List c0)(start:Int):∀l:List cP,l.foldl (uP az start) none=none
 |[]=>rfl
 |g::l=>QC az start l
variable{az:List c0}{start:Int}
theorem ZU{l:List cP}(h:tt az start (l.take i)=none):tt az start l=none:=by rw[tt,<-avb i l,auT,<-tt,h];exact QC _ _ _
theorem sp{a b:Bool}(h:(bif a then true else b)=false):a=false/\b=false:=by cases a<;>cases b<;>simp at h⊢
theorem kt{b:Bool}(h:(!b)=true):b=false:=by cases b<;>simp at h⊢
theorem ZV{g:cP}(h:decide (so az g<0)=false):∃hi:(so az g).toNat<az.length,0<=so az g/\(az.map dG)[(so az g).toNat]?=some (dG (az.getD (so az g).toNat ⟨[],[]⟩)):=by have h:=at2 h;unfold so at*;rcases E6 (λf:c0=>f.path==g.path) az with⟨e,_⟩|⟨i,hi,e,_,_⟩;omega;rw[e];exact⟨by simpa using hi,by omega,by simp[List.getD,hi]⟩
theorem QD(a1:db B)(n:ad)(m:fv)(aV:List cP)(start:Int)(aw:fr n)(aW:aV.length<1000000)(l2:∀g∈aV,g.len<=9223372036854775807)(wn:(ch n).length<1000000):c1 B 57 [aE n,ih m,.Q .none 3 (aV.map bl),u start] bE.none λd aP=>match jA n m aV start with|none=>d=.bp [.any,u 1]|some mp=>∃b_ cs,d=.bp [.box 4102 b_ 0,u 0]/\aP=aL [(4102,.box b_ (fk (⟨m,ch n,[],mp,start,0,0,0,0⟩:dl) cs)),(4001,.mp cs (bn bl mp))]:=by refine jJ Tryz.func57 Tryz.ntmps57 λU=>?_;refine go ?_;intro cT;refine go ?_;intro cK;refine go ?_;refine bs (Ao a1 n (by unfold fr at aw;omega)) ?_;refine bs (E7 m) ?_;refine aK (Kx n m start) rfl ?_ ?_<;>intro hc;refine cl ?_;(have hO:jA n m aV start=none:=by rw[jA,atI hc]);rw[hO];refine W.gQ [(9,u 1)] [] [] ⟨ar,rfl,ak⟩ ?_;refine go ?_;exact⟨.bp [.any,u 1],(show dN [_,_] [_,_]from⟨.any _,E,ak⟩),rfl⟩;apply co;(have hO:jA n m aV start=tt (ch n) start aV:=by rw[jA,atH (by rw[hc];decide)]);(have a6:0<=start/\start<=4096:=axS);rw[hO];apply el;refine W.fb [(2,.Q .none 3 (aV.map bl)),(3,u start),(4,.box 4 cT 0),(5,.box 5 cK 0)] [(4,.box cT (aE n).cells),(5,.box cK (ih m).cells)] [(4,4),(5,5)] ⟨ar,rfl,bc⟩ ?_;have XC:=Jk (B:=B) a1 n aw;refine' eH (α:=Nat×Nat) [(4,.box cT (aE n).cells),(5,.box cK (ih m).cells)] (0,0) (λy=>[_,_,.Q .none 2 ((ch n).map dG),.ai (.map (some y.1)),_,.agg [.O m.name,.O m.set,.O m.pl,.O m.pm,.O m.lP,u m.Cc,u m.Cd,u m.fh,u m.fP,u m.c3,.Q .none 6 (m.gL.map pk),u m.dp,.bool m.pn,.Q .none 2 ((ch n).map dG),.bj,.ai (.map (some y.1)),u start,u 0,u 0,u 0,u 0],.box 38 y.2 0,.box 38 y.2 0]) (λy=>[(3,35,some (.mp y.1 [])),(6,38,some (.box y.2 [.O m.name,.O m.set,.O m.pl,.O m.pm,.O m.lP,u m.Cc,u m.Cd,u m.fh,u m.fP,u m.c3,.Q .none 6 (m.gL.map pk),u m.dp,.bool m.pn,.Q .none 2 ((ch n).map dG),.bj,.ai (.map (some y.1)),u start,u 0,u 0,u 0,u 0]))]) [0,0,2,0,0,31,63,127] [(3,35),(6,38)] ?_ ?_;rotate_left 3;refine dw ?_;refine bS (λy=>af.sQ λv=>(dh (v,y.2))) ?_;refine B2 (λy=>?_) ?_;refine go ?_;intro kt;exact dh (y.1,kt);exact trivial;intro y;obtain⟨cs,b_⟩:=y;(conv=>whnf);refine W.fb [(2,.Q .none 3 (aV.map bl)),(3,u start),(10,.box 38 b_ 0)] [(35,.mp cs []),(38,.box b_ [.O m.name,.O m.set,.O m.pl,.O m.pm,.O m.lP,u m.Cc,u m.Cd,u m.fh,u m.fP,u m.c3,.Q .none 6 (m.gL.map pk),u m.dp,.bool m.pn,.Q .none 2 ((ch n).map dG),.bj,.ai (.map (some cs)),u start,u 0,u 0,u 0,u 0])] [(35,35),(38,38)] ⟨cO,rfl,cO⟩ ?_;refine W.jj 38 (dv:=fk (⟨m,ch n,[],[],start,0,0,0,0⟩:dl) cs) rfl ⟨E,E,E,E,E,E,E,E,E,E,E,E,E,E,aq.nil,E,E,E,E,E,E,ak⟩ ?_;refine W.fb [(2,.Q .none 3 (aV.map bl)),(3,u start),(10,.box 4102 b_ 0)] [(4102,.box b_ (fk (⟨m,ch n,[],[],start,0,0,0,0⟩:dl) cs)),(4001,.mp cs (bn bl []))] [(4102,38),(4001,35)] ⟨⟨E,E,aq.box,ak⟩,rfl,bc⟩ ?_;refine go ?_;refine W.ec (α:={x:Nat×List (atG×cP) // x.1<=aV.length/\tt (ch n) start (aV.take x.1)=some x.2}) (λx=>[(3,u start),(10,.box 4102 b_ 0),(39,.Q .none 3 (aV.map bl)),(40,u ((aV.map bl).length:Nat)),(41,u x.1.1)]) (λx=>[(4102,.box b_ (fk (⟨m,ch n,[],x.1.2,start,0,0,0,0⟩:dl) cs)),(4001,.mp cs (bn bl x.1.2))]) (λx=>aV.length-x.1.1) ⟨(0,[]),at4 _,rfl⟩ [(4102,4102),(4001,4001)] ⟨ar,rfl,bc⟩ ?_;rintro⟨⟨i,mp⟩,hi,Ky⟩;dsimp only at hi Ky⊢;refine go ?_;refine aK (decide ((i:Int)<((aV.map bl).length:Nat))) rfl ?_ ?_<;>intro bu;(·apply co;(have aI:i<aV.length:=by simpa using bu);have hU:=Nl aI;have cS:=an' (ch n) start aI;have p_:=l2 aV[i] (atO _);rw[Ky]at cS;generalize aV[i]=g at*;(have oS:∀h:(bif (bif (bif (bif decide (so (ch n) g<0)then true else g.len==0)then true else g.len !=Kv (ch n) g)then true else decide (g.start<0))then true else decide (start<g.start))=false,0<=g.len/\0<=g.start:=λh=>by have h1:=(sp h).1;have A:=sp h1;have Z:=(sp A.1).2;have aG:=at2 A.2;(have bb:g.len=Kv (ch n) g:=by simpa using Z);rw[bb];unfold Kv;omega);refine gJ ?_;refine⟨λ_=>by rw[atL];omega,?_⟩;(conv=>whnf);refine⟨bl g,λ_=>hU,?_⟩;refine go ?_;intro uQ;refine go ?_;refine .inr (af.call rfl [.Q .none 2 ((ch n).map dG),.fn (.func 90) [] [.box 4101 uQ 0]] [(4101,12)] (c5.Js rfl (ajU (ch n) wn 90 [.box 4101 uQ 0] _ (λf=>f.path==g.path) (λk Y=>ajT k g uQ))) rfl ⟨E,aq.fn trivial ⟨aq.box,ak⟩,ak⟩ ?_);rintro d aP ⟨rfl,rfl⟩;refine p2 ?_;rw[show fd (λf:c0=>f.path==g.path) (ch n)=so (ch n) g from rfl];refine W.u' aM mixed atB ?_;refine go ?_;refine⟨λh=>by obtain⟨A,Z,_⟩:=ZV (sp (kt h)).1;have aG:((ch n).map dG).length=(ch n).length:=atL _;show 0<=so (ch n) g/\so (ch n) g<(((ch n).map dG).length:Nat);omega,?_⟩;refine go ?_;refine⟨dG ((ch n).getD (so (ch n) g).toNat ⟨[],[]⟩),λh=>(ZV (sp (kt h)).1).elim λ_ h=>h.2,?_⟩;refine go ?_;refine⟨[u g.len],_,λh=>MU g.len (oS (kt h)).1 p_,ar,?_⟩;refine iE ?_;refine hv ?_;refine .inl ⟨λh=>by have:=(oS (kt h)).2;simp only[du];have:=at2 (sp (kt h)).2;omega,?_⟩;refine go ?_;refine aK (Kw (ch n) start g) rfl ?_ ?_<;>intro dK;refine cl ?_;have hN:tt (ch n) start aV=none:=ZU (i:=i+1) (by rw[cS];simp[uP,dK]);rw[hN];refine W.gQ [(9,u 1)] [] [] ⟨ar,rfl,ak⟩ ?_;refine go ?_;exact⟨.bp [.any,u 1],(show dN [_,_] [_,_]from⟨.any _,E,ak⟩),rfl⟩;apply co;apply nk;refine W.fb [(3,u start),(10,.box 4102 b_ 0),(39,.Q .none 3 (aV.map bl)),(40,u ((aV.map bl).length:Nat)),(41,u (i:Int)),(12,.box 12 uQ 0)] [(4102,.box b_ (fk (⟨m,ch n,[],mp,start,0,0,0,0⟩:dl) cs)),(4001,.mp cs (bn bl mp)),(12,.box uQ (bl g).cells)] [(4102,4102),(4001,4001),(12,12)] ⟨ar,rfl,bc⟩ ?_;refine' eH (α:=Nat) [(4102,.box b_ (fk (⟨m,ch n,[],mp,start,0,0,0,0⟩:dl) cs)),(4001,.mp cs (bn bl mp)),(12,.box uQ (bl g).cells)] 0 (λq=>[_,_,_,_,_,_,.bp [bl ((bK mp g.path).getD f'),.bool (bK mp g.path).isSome],_,_,_,.box 14 q 0,.any,_]) (λq=>[(10,14,some (.box q ([.O [],u 0,u 0]))),(11,14,some (.box q ((bl ((bK mp g.path).getD f')).cells)))]) [0,1,3,7,0,16,63,127,255,255,0,1535,4095] [(10,14),(11,14)] ?_ ?_;rotate_left 10;refine dw ?_;refine bS (λq=>af.nE 4001 (dS:=9) (dZ:=53) (enc:=bl) (V:=f') rfl rfl rfl rfl rfl atE (λw C=>xn w C) (cw q)) ?_;refine wS ?_;exact trivial;intro q;(conv=>whnf);refine W.fb [(3,u start),(10,.box 4102 b_ 0),(39,.Q .none 3 (aV.map bl)),(40,u ((aV.map bl).length:Nat)),(41,u (i:Int)),(12,.box 12 uQ 0),(15,.bool (bK mp g.path).isSome)] [(4102,.box b_ (fk (⟨m,ch n,[],mp,start,0,0,0,0⟩:dl) cs)),(4001,.mp cs (bn bl mp)),(12,.box uQ (bl g).cells)] [(4102,4102),(4001,4001),(12,12)] ⟨cO,rfl,cO⟩ ?_;refine go ?_;refine aK (bK mp g.path).isSome rfl ?_ ?_<;>intro mo;refine cl ?_;have hN:tt (ch n) start aV=none:=ZU (i:=i+1) (by rw[cS];simp[uP,dK,mo]);rw[hN];refine W.gQ [(9,u 1)] [] [] ⟨ar,rfl,ak⟩ ?_;refine go ?_;exact⟨.bp [.any,u 1],(show dN [_,_] [_,_]from⟨.any _,E,ak⟩),rfl⟩;refine fg ?_;refine W.zL aM 7 mixed atB ?_;refine go ?_;refine .inr (af.v6 4001 (dS:=9) (dZ:=53) (enc:=bl) (v:=g) rfl rfl rfl rfl rfl rfl ?_);refine go ?_;exact⟨⟨(i+1,eD mp g.path g),aI,by rw[cS];simp[uP,dK,mo]⟩,[(4102,4102),(4001,4001)],by show aV.length-(i+1)<aV.length-i;omega,ar,rfl,bc⟩);(have ci:i=aV.length:=by simp at bu;omega);subst ci;rw[atX]at Ky;rw[Ky];refine sH ?_;refine W.gQ [(8,.box 4102 b_ 0),(9,u 0)] [(4102,.box b_ (fk (⟨m,ch n,[],mp,start,0,0,0,0⟩:dl) cs)),(4001,.mp cs (bn bl mp))] [(4102,4102),(4001,4001)] ⟨ar,rfl,bc⟩ ?_;refine go ?_;exact⟨.bp [.box 4102 b_ 0,u 0],(show dN [_,_] [_,_]from ar),b_,cs,rfl,rfl⟩
abbrev gF(n:ad)(m:fv)(mp:List (atG×cP))(start:Int)(cW:List atG):dl:=⟨m,ch n,cW,mp,start,0,0,0,0⟩
def hz(n:ad)(m:fv)(mp:List (atG×cP))(start:Int):dl:=gF n m mp start (lq (gF n m mp start []) (ch n))
def rk(p:dl)(s aj:Int×Int):Int×Int:=if(eL p s aj).2=0 then((q_ (eL p s aj).1 4096).1.C,(q_ (eL p s aj).1 4096).2)else(0,(eL p s aj).2)
variable{f:FuncId}{ds:List D}{a8:D->bE->Prop}{fa gw:Nat}
theorem _root_.Go.bR.c5.QE{H:bE}{cq d8:Nat}(h1:H fa=none)(A:H gw=none)(hc:c1 B f ds bE.none a8):c1 B f ds (gx H [(cq,fa),(d8,gw)]) a8:=by(have e:gx H [(cq,fa),(d8,gw)]=bE.none:=by funext j;simp only[gx];exact axE);rw[e];exact hc
variable{aV:List cP}{mp:List (atG×cP)}
theorem QF{n:ad}{m:fv}(h:jA n m aV start=some mp):0<=start/\start<=4096:=by unfold jA at h;split at h;cases h;rename_i hc;(have hc:Kx n m start=false:=by simpa using hc);exact axS
theorem ZW(p:dl)(s aj:Int×Int):(eL p s aj).1.aV=p.aV:=by(have A:(ja p s).aV=p.aV:=by unfold ja xt;split<;>rfl);unfold eL;split;rfl;split;exact A;exact A
theorem aoa(a1:db B)(n:ad)(m:fv)(aV:List cP)(start:Int)(aw:fr n)(aW:aV.length<1000000)(l2:∀g∈aV,g.len<=9223372036854775807)(wn:(ch n).length<1000000)(oN:m.gL.length<1000000)(mp:List (atG×cP))(hO:jA n m aV start=some mp)(s aj:Int×Int)(bi:ku m.fP 0=true->aU B 30 [aE n,rX (gM m)] (.bp [u s.1,u s.2]))(gn:ku m.fP 3=true->aU B 94 [aE n,u m.dp] (.bp [u aj.1,u aj.2]))(dg:(eL (hz n m mp start) s aj).2=0->CO (eL (hz n m mp start) s aj).1):aU B 20 [aE n,ih m,.Q .none 3 (aV.map bl),u start] (.bp [u (rk (hz n m mp start) s aj).1,u (rk (hz n m mp start) s aj).2]):=by refine bA Tryz.func20 Tryz.ntmps20 λU=>?_;have a6:=QF hO;refine cl ?_;intro cT;(conv=>whnf);intro cK;refine vf ?_;apply mf;apply cB;apply mf;refine eB ?_;refine .inr (af.call rfl [aE n,ih m,.Q .none 3 (aV.map bl),u start] [(4102,4102),(4001,4001)] (c5.QE rfl rfl (QD a1 n m aV start aw aW l2 wn)) rfl ar ?_);rintro d aP G;rw[hO]at G;obtain⟨b_,cs,rfl,rfl⟩:=G;refine⟨_,E,?_⟩;refine f_ ?_;refine aK false rfl ?_ ?_<;>intro hc;cases hc;refine go ?_;refine .inr (af.call rfl [.box 4102 b_ 0] [(4102,4102),(4001,4001)] (c5.xl rfl rfl (Xz (gF n m mp start []) wn b_ cs)) rfl ar ?_);rintro d aP ⟨rfl,rfl⟩;refine p2 ?_;refine .inr (af.call rfl [.box 4102 b_ 0,aE n] [(4102,4102)] (c5.Js rfl (XA (hz n m mp start) n s aj a6.1 a6.2 (show(0:Int)<=0 by decide) (show(0:Int)<=100 by decide) oN bi gn b_ cs)) rfl ar ?_);rintro d aP ⟨rfl,rfl⟩;refine p2 ?_;refine aK ((eL (hz n m mp start) s aj).2 !=0) rfl ?_ ?_<;>intro bu;refine go ?_;(have a7:¬(eL (hz n m mp start) s aj).2=0:=by simpa using bu);(have mY:rk (hz n m mp start) s aj=(0,(eL (hz n m mp start) s aj).2):=by rw[rk,atH a7]);rw[mY];exact ar;refine go ?_;(have ao:(eL (hz n m mp start) s aj).2=0:=by simpa using bu);(have mY:rk (hz n m mp start) s aj=((q_ (eL (hz n m mp start) s aj).1 4096).1.C,(q_ (eL (hz n m mp start) s aj).1 4096).2):=by rw[rk,atI ao]);have uR:(eL (hz n m mp start) s aj).1.aV=mp:=ZW _ _ _;refine go ?_;refine .inr (af.call rfl [.box 4102 b_ 0,u 4096] [(4102,4102),(4001,4001)] (c5.xl rfl (atJ (λq=>some (aJ.mp cs (bn bl q))) uR.symm) (Xy (eL (hz n m mp start) s aj).1 (dg ao) 4096 atz atz b_ cs)) rfl ar ?_);rintro d aP ⟨rfl,ij,aob,rfl⟩;refine p2 ?_;intro Xm;refine go ?_;rw[mY];exact ar
theorem ZX(a b:List atG)(ha:a.length<1000000)(I:b.length<1000000):aU B 33 [.Q .none 1 (aN a),.Q .none 1 (aN b)] (.bool (a==b)):=by refine bA Tryz.func33 Tryz.ntmps33 λU=>?_;apply b4;refine f_ ?_;refine aK _ rfl ?_ ?_<;>intro hc;refine gj ?_;exact aq.of_eq (atJ D.bool (Eq.symm (ayw)));apply co;(have hlen:a.length=b.length:=by simp[aN]at hc;omega);refine nn ?_;refine W.loop (α:={i:Nat // i<=a.length/\a.take i=b.take i}) (λx=>[(0,.Q .none 1 (aN a)),(1,.Q .none 1 (aN b)),(12,u (aN a).length),(13,u x.1)]) (λ_=>[]) (λx=>a.length-x.1) ⟨0,by omega,rfl⟩ ar trivial ?_;rintro⟨i,hi,xI⟩;dsimp only at hi xI⊢;apply b4;apply el;refine aK (decide ((i:Int)<(aN a).length)) rfl ?_ ?_<;>intro hc;apply co;(have aI:i<a.length:=by simpa[aN]using hc);(have w2:i<b.length:=by omega);refine kq ?_;apply b4;refine oH ?_;(conv=>whnf);refine⟨λ_=>by simp[aN];omega,?_⟩;(conv=>whnf);refine⟨.O a[i],λ_=>F' aI,?_⟩;(conv=>whnf);refine⟨λ_=>by simp[aN];omega,?_⟩;(conv=>whnf);refine⟨.O b[i],λ_=>F' w2,?_⟩;refine aK (a[i]!=b[i]) rfl ?_ ?_<;>intro hc;refine gj ?_;exact aq.of_eq (atJ D.bool (Eq.symm (ayw)));refine rI ?_;(have GQ:a[i]=b[i]:=by simpa using hc);exact⟨⟨i+1,aI,by rw[atM aI,atM w2,xI,GQ]⟩,by show a.length-(i+1)<a.length-i;omega,ar,ak⟩;refine qG ?_;exact aq.of_eq (atJ D.bool (Eq.symm (by(have ci:i=a.length:=by simp[aN]at hc;omega);rw[aug atw,aug atw]at xI;rw[xI];simp)))
abbrev Dh(l:List atG):D:=.fn (.func 93) [] [.a_ 1 [.Q .none 1 (aN l)] 0 0]
def rl(p:dl)(s aj:Int×Int)(cap:Int):r4×Int:=if(eL p s aj).2=0 then q_ (eL p s aj).1 cap else(q9,(eL p s aj).2)
theorem QG:aq (.agg q7) (lV q9):=aq.agg (a:=q7) (bw:=(lV q9).cells) ⟨E,E,E,E,E,E,E,E,E,E,E,aq.nil,E,E,E,aq.nil,ak⟩
theorem aoc(a1:db B)(n:ad)(m:fv)(cW:List atG)(aV:List cP)(start cap:Int)(aw:fr n)(aW:aV.length<1000000)(l2:∀g∈aV,g.len<=9223372036854775807)(wn:(ch n).length<1000000)(oN:m.gL.length<1000000)(gI:cW.length<1000000)(mp:List (atG×cP))(hO:jA n m aV start=some mp)(mK:¬cap<start)(g0:¬4096<cap)(s aj:Int×Int)(bi:ku m.fP 0=true->aU B 30 [aE n,rX (gM m)] (.bp [u s.1,u s.2]))(gn:ku m.fP 3=true->aU B 94 [aE n,u m.dp] (.bp [u aj.1,u aj.2]))(dg:(eL (gF n m mp start cW) s aj).2=0->CO (eL (gF n m mp start cW) s aj).1)(dj dn:List atG)(uT:∀l:List atG,aU B 59 [.Q .none 1 (aN l)] (Dh l))(Pd:aU B 58 [Dh cW] (.Q .none 1 (aN dj)))(Pe:aU B 58 [Dh (lq (gF n m mp start []) (ch n))] (.Q .none 1 (aN dn)))(xY:dj.length<1000000)(vV:dn.length<1000000)(xw:(dj==dn)=true):aU B 19 [aE n,ih m,.Q .none 1 (aN cW),.Q .none 3 (aV.map bl),u start,u cap] (.bp [lV (rl (gF n m mp start cW) s aj cap).1,u (rl (gF n m mp start cW) s aj cap).2]):=by refine bA Tryz.func19 Tryz.ntmps19 λU=>?_;have a6:=QF hO;(have asX:(lq (gF n m mp start []) (ch n)).length<1000000:=by have:=Jr (gF n m mp start []) (ch n);omega);refine cl ?_;intro d_;(conv=>whnf);intro dL;(conv=>whnf);intro uQ;refine vf ?_;apply mf;apply cB;apply mf;refine eB ?_;refine .inr (af.call rfl [aE n,ih m,.Q .none 3 (aV.map bl),u start] [(4102,4102),(4001,4001)] (c5.QE rfl rfl (QD a1 n m aV start aw aW l2 wn)) rfl ar ?_);rintro d aP G;rw[hO]at G;obtain⟨b_,cs,rfl,rfl⟩:=G;refine⟨_,E,?_⟩;apply nk;refine W.zZ aM ?_;refine vg ?_;refine vg ?_;refine vg ?_;refine LY ?_;refine LY ?_;refine LY ?_;(conv=>whnf);refine⟨rfl,.inr (af.BW rfl (rfl) ?_)⟩;refine vg ?_;(conv=>whnf);refine⟨rfl,_,_,rfl,rfl,.inl ⟨auk mK,.inl ?_⟩⟩;(conv=>whnf);refine⟨rfl,_,_,rfl,rfl,.inl ⟨auk mK,.inl ?_⟩⟩;(conv=>whnf);refine⟨rfl,.inr (af.BW rfl (auk mK) ?_)⟩;refine vg ?_;(conv=>whnf);refine⟨rfl,_,_,rfl,rfl,.inl ⟨auk g0,.inl ?_⟩⟩;(conv=>whnf);refine⟨rfl,_,_,rfl,rfl,.inl ⟨auk g0,.inl ?_⟩⟩;refine go ?_;refine⟨[.Q .none 1 (aN cW)],_,λ_=>uT cW,ar,?_⟩;(conv=>whnf);refine⟨rfl,_,_,rfl,rfl,.inl ⟨auk g0,.inl ?_⟩⟩;refine go ?_;refine⟨[Dh cW],_,λ_=>Pd,ar,?_⟩;(conv=>whnf);refine⟨rfl,_,_,rfl,rfl,.inl ⟨auk g0,.inl ?_⟩⟩;(conv=>whnf);refine⟨rfl,_,_,rfl,rfl,.inl ⟨auk g0,.inr (af.call rfl [.box 4102 b_ 0] [(4102,4102),(4001,4001)] (c5.xl rfl rfl (Xz (gF n m mp start []) wn b_ cs)) rfl ar ?_)⟩⟩;rintro d aP ⟨rfl,rfl⟩;refine rH ?_;refine⟨rfl,_,_,rfl,rfl,.inl ⟨auk g0,.inl ?_⟩⟩;refine go ?_;refine⟨[.Q .none 1 (aN (lq (gF n m mp start []) (ch n)))],_,λ_=>uT _,ar,?_⟩;(conv=>whnf);refine⟨rfl,_,_,rfl,rfl,.inl ⟨auk g0,.inl ?_⟩⟩;refine go ?_;refine⟨[Dh (lq (gF n m mp start []) (ch n))],_,λ_=>Pe,ar,?_⟩;(conv=>whnf);refine⟨rfl,_,_,rfl,rfl,.inl ⟨auk g0,.inl ?_⟩⟩;refine go ?_;refine⟨[.Q .none 1 (aN dj),.Q .none 1 (aN dn)],_,λ_=>ZX _ _ xY vV,ar,?_⟩;(conv=>whnf);refine⟨rfl,_,_,rfl,rfl,.inl ⟨auk g0,.inl ?_⟩⟩;(conv=>whnf);refine⟨rfl,.inr (af.BW rfl (auk g0) ?_)⟩;refine go ?_;refine aK (!(dj==dn)) rfl ?_ ?_<;>intro hc;rw[xw]at hc;cases hc;refine go ?_;refine .inr (af.call rfl [.box 4102 b_ 0,aE n] [(4102,4102)] (c5.Js rfl (XA (gF n m mp start cW) n s aj a6.1 a6.2 (show(0:Int)<=0 by decide) (show(0:Int)<=100 by decide) oN bi gn b_ cs)) rfl ar ?_);rintro d aP ⟨rfl,rfl⟩;refine p2 ?_;refine aK ((eL (gF n m mp start cW) s aj).2 !=0) rfl ?_ ?_<;>intro bu;refine go ?_;(have a7:¬(eL (gF n m mp start cW) s aj).2=0:=by simpa using bu);(have mY:rl (gF n m mp start cW) s aj cap=(q9,(eL (gF n m mp start cW) s aj).2):=by rw[rl,atH a7]);rw[mY];refine go ?_;exact⟨QG,E,ak⟩;refine go ?_;(have ao:(eL (gF n m mp start cW) s aj).2=0:=by simpa using bu);(have mY:rl (gF n m mp start cW) s aj cap=q_ (eL (gF n m mp start cW) s aj).1 cap:=by rw[rl,atI ao]);have uR:(eL (gF n m mp start cW) s aj).1.aV=mp:=ZW _ _ _;rw[mY];refine go ?_;refine .inr (af.call rfl [.box 4102 b_ 0,u cap] [(4102,4102),(4001,4001)] (c5.xl rfl (atJ (λq=>some (aJ.mp cs (bn bl q))) uR.symm) (Xy (eL (gF n m mp start cW) s aj).1 (dg ao) cap atw atw b_ cs)) rfl ar ?_);rintro d aP ⟨rfl,ij,aob,rfl⟩;refine p2 ?_;exact ar
theorem aod(n:ad)(s:atG):(en n s).1.dW.length<=aC n:=by unfold en;split;have:=lR n;show n.dW.length<=_;omega;split;rename_i x F;have h1:=Ok _ _ _ F;have A:=lR x;show x.dW.length<=_;omega;exact at4 _
theorem aoe{n:ad}:∀f∈ch n,f.data.length<=aC n:=by intro f M;unfold ch at M;obtain⟨p,_,ay⟩:=awo.1 M;unfold h2 at ay;split at ay;cases ay;exact aod n p;cases ay
theorem ZY(n:ad):(ch n).length<=aC n:=by unfold ch;have h:=avZ (h2 n) (if valid n then dR n [] 1 else[]);(have A:(if valid n then dR n [] 1 else[]).length<=fC n:=by split;rw[AK];exact atQ _;exact at4 _);have:=BZ n;omega
theorem ZZ{az:List c0}{start:Int}:∀(l:List cP) (o:Option (List (atG×cP))),(∀mp,o=some mp->kc mp)->∀mp,l.foldl (uP az start) o=some mp->kc mp
 |[],o,h,mp,hm=>h mp hm
 |g::l,o,h,mp,hm=>by refine ZZ l (uP az start o g) (λZ0 G=>?_) mp hm;cases o with|none=>cases G|some nA =>have G:(if Kw az start g=true then none else if(bK nA g.path).isSome=true then none else some (eD nA g.path g))=some Z0:=G;split at G;cases G;rename_i I;split at G;cases G;cases G;(have I:Kw az start g=false:=by simpa using I);have h1:=(sp (sp (sp I).1).1).2;have:=at2 h1;exact Gf (h nA rfl) atw
theorem aof{n:ad}{m:fv}(h:jA n m aV start=some mp):kc mp:=by unfold jA at h;split at h;cases h;exact ZZ aV (some []) (λZ0 G=>by cases G;exact ON) mp h
theorem Z1{n:ad}{m:fv}(aw:fr n)(hO:jA n m aV start=some mp){cW:List atG}(ah:cW.length<=100000){s aj:Int×Int}(hs:0<=s.1/\s.1<=1000000000)(an:0<=aj.1/\aj.1<=1000000)(h0:(eL (gF n m mp start cW) s aj).2=0)(hsz:aC n<1000000):CO (eL (gF n m mp start cW) s aj).1:=by have a6:=QF hO;have zi:=aof hO;have dm:=ZY n;(have ol:∀f∈ch n,f.data.length<=100000000:=λf M=>by have:=aoe f M;omega);(have N:0<=rY (gM m)/\rY (gM m)<=100:=by unfold rY;split<;>split<;>omega);unfold eL at h0⊢;split at h0;rename_i hc;exact absurd h0 hc.2;rename_i hc;rw[atH hc];unfold ja xt;unfold CO;split<;>split<;>refine⟨?_,?_,?_,?_,?_,?_,?_,?_,?_,?_,ah,by show(ch n).length<_;omega,ol,zi⟩<;>first|(show(0:Int)<=0;decide)|(show(0:Int)<=1000000000;decide)|(show(0:Int)<=1000000;decide)|(show(0:Int)<=100;decide)|exact a6.1|exact a6.2|exact hs.1|exact hs.2|exact an.1|exact an.2|exact N.1|exact N.2|(show 0<=start+66+2;omega)|(show start+66+2<=(100000:Int);omega)|(show 0<=start+16+rY (gM m);omega)|(show start+16+rY (gM m)<=100000;omega)|(show 0<=start+16+(0:Int);omega)|(show start+16+(0:Int)<=100000;omega)
theorem aog(a1:db B)(n:ad)(m:fv)(cW:List atG)(aV:List cP)(start cap:Int)(aw:fr n)(aW:aV.length<1000000)(l2:∀g∈aV,g.len<=9223372036854775807)(wn:(ch n).length<1000000)(hO:jA n m aV start=none):aU B 19 [aE n,ih m,.Q .none 1 (aN cW),.Q .none 3 (aV.map bl),u start,u cap] (.bp [lV q9,u 1]):=by refine bA Tryz.func19 Tryz.ntmps19 λU=>?_;refine cl ?_;intro d_;(conv=>whnf);intro dL;(conv=>whnf);intro uQ;refine vf ?_;apply mf;apply cB;apply mf;refine eB ?_;refine .inr (af.call rfl [aE n,ih m,.Q .none 3 (aV.map bl),u start] [(4102,4102),(4001,4001)] (c5.QE rfl rfl (QD a1 n m aV start aw aW l2 wn)) rfl ar ?_);rintro d aP G;rw[hO]at G;simp only at G;subst G;refine⟨_,E,?_⟩;apply nk;refine W.zZ aM ?_;refine vg ?_;refine vg ?_;refine vg ?_;refine qF ?_;refine qF ?_;refine qF ?_;(conv=>whnf);refine⟨rfl,.inr (af.EB rfl (rfl) ?_)⟩;refine vg ?_;refine qF ?_;refine qF ?_;(conv=>whnf);refine⟨rfl,.inr (af.EB rfl (rfl) ?_)⟩;refine vg ?_;refine qF ?_;refine qF ?_;refine qF ?_;refine qF ?_;refine qF ?_;refine qF ?_;refine qF ?_;refine qF ?_;refine qF ?_;(conv=>whnf);refine⟨rfl,.inr (af.EB rfl (rfl) ?_)⟩;refine aK true rfl ?_ ?_<;>intro hc;refine iX ?_;apply Ei;refine eB ?_;exact⟨QG,E,ak⟩;cases hc
def lA(l:List c0):List atG:=l.map (·.path)
theorem aoh{l:List c0}(h:i<l.length):lA (l.take (i+1))=lA (l.take i)++[l[i].path]:=by rw[lA,atM h,auq];rfl
theorem aoi(a1:db B)(n:ad)(aw:fr n):aU B 28 [aE n] (.Q .none 1 (aN (lA (ch n)))):=by refine bA Tryz.func28 Tryz.ntmps28 λU=>?_;refine cl ?_;intro dC;apply b4;refine f_ ?_;refine eB ?_;refine⟨[aE n],_,λ_=>Jk a1 n aw,ar,?_⟩;(conv=>whnf);(have nw:(ch n).length<10000000:=by have:=ZY n;unfold fr at aw;omega);generalize ch n=P at*;refine W.own 3 1000 1 9 rfl (λw=>?_);apply oG;refine W.ec (α:={i:Nat // i<=P.length}×Value) (λx=>[(3,.Q (.own 1000 x.2) 1 (aN (lA (P.take x.1.1)))),(7,.Q .none 2 (P.map dG)),(8,u ((P.map dG).length:Nat)),(9,u x.1.1)]) (λx=>[(1000,.own x.2 (aN (lA (P.take x.1.1))).length 1 9)]) (λx=>P.length-x.1.1) (⟨0,by omega⟩,w) [(1000,1000)] ⟨ar,rfl,bc⟩ ?_;rintro⟨⟨i,hi⟩,w⟩;dsimp only at hi⊢;apply b4;apply el;refine aK (decide ((i:Int)<((P.map dG).length:Nat))) rfl ?_ ?_<;>intro hc;apply co;(have aI:i<P.length:=by simpa using hc);have hU:=Jm aI;have cS:=aoh aI;(have mO:(aN (lA (P.take i))).length<=i:=by simp[aN,lA];omega);generalize lA (P.take i)=L at*;generalize P[i]=sf at*;refine gJ ?_;refine⟨λ_=>by rw[atL];omega,?_⟩;(conv=>whnf);refine⟨dG sf,λ_=>hU,?_⟩;(conv=>whnf);intro cK;apply cB;apply kp;refine eB ?_;refine nm ?_;refine⟨by show(_+1)*16<=_;omega,by show _+1<=_;omega,atD,λgm=>?_⟩;refine nl ?_;(have ao:aN L++[.O sf.path]=aN (lA (P.take (i+1))):=by rw[cS];simp[aN]);exact⟨(⟨i+1,aI⟩,gm),[(1000,17)],ayr,⟨aq.jK ao,E,E,E,ak⟩,rfl,rfl,j2 (by rw[<-ao];simp),ak⟩;(have ci:i=P.length:=by simp at hc;omega);subst ci;rw[atX];refine qG ?_;exact aq.mL
deriving instance DecidableEq for cP
theorem aoj(a b:List cP)(ha:a.length<1000000)(I:b.length<1000000):aU B 31 [.Q .none 3 (a.map bl),.Q .none 3 (b.map bl)] (.bool (a==b)):=by refine bA Tryz.func31 Tryz.ntmps31 λU=>?_;apply b4;refine f_ ?_;refine aK _ rfl ?_ ?_<;>intro hc;refine gj ?_;exact aq.of_eq (atJ D.bool (Eq.symm (ayw)));apply co;(have hlen:a.length=b.length:=by simp at hc;omega);refine nn ?_;refine W.loop (α:={i:Nat // i<=a.length/\a.take i=b.take i}) (λx=>[(0,.Q .none 3 (a.map bl)),(1,.Q .none 3 (b.map bl)),(12,u (a.map bl).length),(13,u x.1)]) (λ_=>[]) (λx=>a.length-x.1) ⟨0,by omega,rfl⟩ ar trivial ?_;rintro⟨i,hi,xI⟩;dsimp only at hi xI⊢;apply b4;apply el;refine aK (decide ((i:Int)<(a.map bl).length)) rfl ?_ ?_<;>intro hc;apply co;(have aI:i<a.length:=by simpa using hc);(have w2:i<b.length:=by omega);refine kq ?_;apply b4;refine oH ?_;refine wU ?_;refine⟨bl a[i],λ_=>Nl aI,?_⟩;refine wU ?_;refine⟨bl b[i],λ_=>Nl w2,?_⟩;refine aK _ rfl ?_ ?_<;>intro hc;refine gj ?_;exact aq.of_eq (atJ D.bool (Eq.symm (ayw)));refine rI ?_;(have GQ:a[i]=b[i]:=by generalize a[i]=x at*;generalize b[i]=y at*;obtain⟨ahk,NO,asY⟩:=x;obtain⟨oc,qf,s3⟩:=y;simp at hc;rw[hc.1,hc.2.1,hc.2.2]);exact⟨⟨i+1,aI,by rw[atM aI,atM w2,xI,GQ]⟩,by show a.length-(i+1)<a.length-i;omega,ar,ak⟩;refine qG ?_;exact aq.of_eq (atJ D.bool (Eq.symm (by(have ci:i=a.length:=by simp at hc;omega);rw[aug atw,aug atw]at xI;rw[xI];simp)))
theorem aok(t:ad)(m:atG):(s0 t m<0/\py m t.J=none)\/∃(i:Nat) (h:i<t.J.length),s0 t m=i/\py m t.J=some t.J[i]:=by unfold s0 py fd;cases h:t.J.findIdx? (λk=>k.name==m)with|none=>exact .inl ⟨by decide,by rw[avU]at h;rw[avj];intro x F;rw[h x F];decide⟩|some i =>obtain⟨hi,h1,A⟩:=avC.1 h;refine .inr ⟨i,hi,rfl,?_⟩;rw[List.find?_eq_some_iff_getElem];exact⟨h1,i,hi,rfl,λj aa=>by have:=A j aa;simpa using this⟩
theorem aol:aq (.agg [.O [],u 0,.O [],.O [],u 0,u 0,u 0,u 0,u 0,u 0,.bj,.bj]) (aE ux):=aq.agg (bw:=(aE ux).cells) ⟨E,E,E,E,E,E,E,E,E,E,aq.nil,aq.nil,ak⟩
theorem Z2(n:ad)(s:atG)(aw:fr n)(hs:s.length<1000000000):aU B 88 [aE n,.O s] (aE (en n s).1):=by refine fn Tryz.func88 Tryz.ntmps88 λU=>?_;refine go ?_;intro cm;(conv=>whnf);refine da ?_;intro cT;(conv=>whnf);refine go ?_;refine gf (λx:ad×Nat=>aC x.1+x.1.name.length<2200000/\(s=[]->x.1=n/\x.2=0)/\(s≠[]->x.2<=s.length+1/\(x.2<=s.length->i_ x.1 (cQ 47 [] (s.drop x.2))=i_ n (cQ 47 [] s))/\(x.2=s.length+1->i_ n (cQ 47 [] s)=some x.1))) [1,2,4] [4] (λx=>[(5,u x.2)]) (λx=>[(2,.box cm (aE x.1).cells)]) (λx=>s.length+1-x.2) (n,0) ⟨aw,λ_=>⟨rfl,rfl⟩,λ_=>⟨at4 _,λ_=>rfl,λh=>by cases h⟩⟩ [(4,4),(2,2)] ?_;rintro⟨t,f⟩ ⟨av,h0,h1⟩;dsimp only at av h0 h1;refine go ?_;refine cb (t:=bif !(s==[])then decide ((f:Int)<=(s.length:Nat))else false) ?_ ?_<;>intro hc;(have dA:s≠[]:=by cases h:s==[]with|true=>rw[h]at hc;cases hc|false=>simpa using h);(have dm:f<=s.length:=by rw[show(s==[])=false by simpa using dA]at hc;have:decide ((f:Int)<=(s.length:Nat))=true:=hc;have:=aua this;omega);obtain⟨_,A,_⟩:=h1 dA;have Z:=A dm;refine go ?_;refine gf (λq:Nat=>f<=q/\q<=s.length/\cQ 47 ((s.drop f).take (q-f)) (s.drop q)=cQ 47 [] (s.drop f)) [1,2,4,5] [4,2] (λq=>[(6,u q)]) (λ_=>[]) (λq=>s.length+1-q) f ⟨atQ _,dm,by rw[awx];simp⟩ [(4,4),(2,2)] ?_;rintro q ⟨Nw,Nx,IK⟩;refine go ?_;(obtain⟨c,QH⟩:∃c:UInt8,∀h:q<s.length,c=s[q]:=by by_cases h:q<s.length;exact⟨s[q],λ_=>rfl⟩;exact⟨0,λA=>absurd A h⟩);refine⟨c,λh=>⟨by omega,by(have G:q<s.length:=by have:=aua h;omega);rw[auj,atK G,QH G]⟩,?_⟩;(conv=>whnf);refine go ?_;have Z3:List.drop f (List.take q s)=(s.drop f).take (q-f):=List.drop_take;refine cb (t:=bif decide ((q:Int)<(s.length:Nat))then !((c.toNat:Int)==47)else false) ?_ ?_<;>intro bu;(have lb:q<s.length:=by cases h:decide ((q:Int)<(s.length:Nat))with|true=>have:=aua h;omega|false=>rw[h]at bu;cases bu);(have QI:s[q]≠47:=λh=>by rw[auC (by omega:(q:Int)<(s.length:Nat)),QH lb,h]at bu;cases bu);refine go ?_;refine eI (q+1) [(4,4),(2,2)] ⟨by omega,by omega,?_⟩;rw[<-IK,show q+1-f=(q-f)+1 by omega,atM (by rw[auV];omega),List.getElem_drop,auQ lb,cQ];simp only[show f+(q-f)=q by omega];rw[atH QI];(have nj:cQ 47 [] (s.drop f)=(s.drop f).take (q-f)::(if q<s.length then cQ 47 [] (s.drop (q+1))else[]):=by rw[<-IK];by_cases lb:q<s.length;(have QI:s[q]=47:=by rw[auC (by omega:(q:Int)<(s.length:Nat)),QH lb]at bu;(have bb:((s[q].toNat:Int)==47)=true:=by simpa using bu);(have cL:s[q].toNat=47:=by have:=eq_of_beq bb;omega);exact UInt8.toNat_inj.1 (cL.trans rfl));rw[atI lb,auQ lb,cQ,atI QI];have e:s.drop q=[]:=awu atw;rw[atH lb,e,cQ]);have Z4:=aeC (B:=B) t ((s.drop f).take (q-f)) (by unfold fr;omega);rw[<-Z3]at Z4;rw[<-Z3]at nj;rw[nj]at Z;refine go ?_;refine yf ?_;refine bs Z4 ?_;rcases aok t (List.drop f (List.take q s))with⟨Y,M⟩|⟨i,hi,Y,M⟩;refine vr (t:=decide (s0 t (List.drop f (List.take q s))<0)) (auC Y) ?_;(have xH:i_ n (cQ 47 [] s)=none:=by rw[<-Z,i_,M]);(have hU:(en n s).1=ux:=by unfold en;rw[atH dA,xH]);rw[hU];exact aol;rw[Y];refine z' (t:=decide ((i:Int)<0)) (auk atw) ?_;rw[rJ];(conv=>whnf);refine go ?_;have aom:=EF hi;have aon:=lR t;(have zi:i_ t.J[i] (if q<s.length then cQ 47 [] (s.drop (q+1))else[])=i_ n (cQ 47 [] s):=by rw[<-Z,i_,M]);refine eI (t.J[i],q+1) [(4,4),(2,2)] ⟨by dsimp only;omega,λh=>absurd h dA,λ_=>⟨by dsimp only;omega,λh=>?_,λh=>?_⟩⟩;dsimp only at h⊢;rw[atI atw]at zi;exact zi;dsimp only at h⊢;rw[atH atw]at zi;rw[<-zi];rfl;refine go ?_;(have hU:(en n s).1=t:=by by_cases h:s=[];rw[(h0 h).1];unfold en;rw[atI h];rw[show(s==[])=false by simpa using h]at hc;have dK:decide ((f:Int)<=(s.length:Nat))=false:=hc;have:=at2 dK;obtain⟨A,_,aG⟩:=h1 h;unfold en;rw[atH h,aG atw]);rw[hU];exact E
theorem aoo(n:ad)(s:atG)(aw:fr n)(hs:s.length<1000000000):aU B 55 [aE n,.O s] (.O (en n s).1.dW):=by have QJ:=Z2 (B:=B) n s aw hs;refine fn Tryz.func55 Tryz.ntmps55 λU=>?_;refine go ?_;intro cm;(conv=>whnf);refine go ?_;refine bs QJ ?_;exact E
theorem aop(l:List cP)(p:atG)(al:l.length<1000000000):aU B 56 [.Q .none 3 (l.map bl),.O p] (u (fd (λf:cP=>f.path==p) l)):=by have mO:(l.map bl).length=l.length:=atL _;refine fn Tryz.func56 Tryz.ntmps56 λU=>?_;refine go ?_;refine gf (λi:Nat=>i<=l.length/\∀j (h:j<l.length),j<i->(l[j].path==p)=false) [0,1] [] (λi=>[(5,u i)]) (λ_=>[]) (λi=>l.length-i) 0 ⟨at4 _,λj _ h=>absurd h (avf _)⟩ [] ?_;rintro i ⟨hi,ay⟩;refine go ?_;rw[mO];refine cb (t:=decide ((i:Int)<(l.length:Nat))) ?_ ?_<;>intro hc;(have ce:i<l.length:=by have:=aua hc;omega);refine go ?_;refine cb (t:=l[i].path==p) ?_ ?_<;>intro bu;refine go ?_;exact HY (zP (p:=λf:cP=>f.path==p) ce ay bu).symm;refine go ?_;refine eI (i+1) [] ⟨ce,λj aa h=>?_⟩;rcases at3 j i with A|A;exact ay j aa A;(have:j=i:=by omega);subst this;exact bu;refine go ?_;exact HY (zQ (p:=λf:cP=>f.path==p) λj aa=>ay j aa (by have:=at2 hc;omega)).symm
theorem aoq(n:ad)(aw:fr n):aU B 87 [aE n] (.Q .none 1 (aN (if valid n=true then dR n [] 1 else[]))):=by by_cases X:valid n=true;rw[atI X];exact ail n aw X;rw[atH X];have aor:=T_ (B:=B) n aw;refine fn Tryz.func87 Tryz.ntmps87 λU=>?_;refine go ?_;intro dC;(conv=>whnf);refine go ?_;refine bs aor ?_;refine vr (t:=!(valid n)) (by cases h:valid n with|true=>exact absurd h X|false=>rfl) ?_;exact .nil
theorem aos(n:ad)(p:atG):F_ n p=((en n p).1.kind==1):=by unfold F_ en;split;rfl;split;rfl;rfl
theorem aot(n:ad)(aw:fr n)(ay:∀p∈(if valid n=true then dR n [] 1 else[]),p.length<1000000000)(dg:(if valid n=true then dR n [] 1 else[]).length<1000000):aU B 54 [aE n] (.Q .none 1 (aN (lA (ch n)))):=by have aou:=aoq (B:=B) n aw;have xk:ch n=(if valid n=true then dR n [] 1 else[]).filterMap (h2 n):=rfl;rw[xk];generalize(if valid n=true then dR n [] 1 else[])=bU at*;(have eJ:(aN bU).length=bU.length:=by simp[aN]);have QK:∀i (h:i<bU.length),(aN bU)[(i:Int).toNat]?=some (.O bU[i]):=λi h=>F' h;generalize aN bU=Pt at*;refine fn Tryz.func54 Tryz.ntmps54 λU=>?_;refine go ?_;intro dC;(conv=>whnf);refine da ?_;refine iF 1 1 12 (aE n) ?_;refine go ?_;refine bs aou ?_;refine W.own 3 1000 1 9 rfl (λw0=>?_);refine gf (λx:Nat×Value=>x.1<=bU.length) [1,4] [] (λx=>[(3,.Q (.own 1000 x.2) 1 (aN (lA ((bU.take x.1).filterMap (h2 n))))),(5,u x.1)]) (λx=>[(1000,.own x.2 (aN (lA ((bU.take x.1).filterMap (h2 n)))).length 1 9)]) (λx=>bU.length-x.1) (0,w0) (at4 _) [(1000,1000)] ?_;rintro⟨i,w⟩ hi;dsimp only at hi⊢;refine go ?_;rw[eJ];refine cb (t:=decide ((i:Int)<(bU.length:Nat))) ?_ ?_<;>intro hc;(have ce:i<bU.length:=by have:=aua hc;omega);have qT:=QK i ce;have xp:=W' (h2 n) ce;have QJ:=Z2 (B:=B) n bU[i] aw (ay _ (atO ce));have Z5:=aos n bU[i];have dm:((bU.take i).filterMap (h2 n)).length<=i:=avc (avZ _ _) (by rw[at7];omega);generalize Gp:bU[i]=p at*;generalize(bU.take i).filterMap (h2 n)=bL at*;(have Nj:(aN (lA bL)).length=bL.length:=by simp[aN,lA]);refine go ?_;refine yf ?_;refine bI (.O p) qT ?_;refine bs QJ ?_;refine cb (t:=(en n p).1.kind==1) ?_ ?_<;>intro bu;(have lo:h2 n p=some ⟨p,(en n p).1.dW⟩:=by unfold h2;rw[Z5,bu,atI rfl]);rw[lo]at xp;refine go ?_;refine bI (.O p) qT ?_;intro gm;(conv=>whnf);refine go ?_;(have rB:aN (lA bL)++[.O p]=aN (lA ((bU.take (i+1)).filterMap (h2 n))):=by rw[xp];simp[aN,lA]);exact eI (i+1,gm) [(1000,28)] ce (A:=⟨⟨E,E,aq.jK rB,sN,ak⟩,rfl,rfl,j2 (by rw[<-rB,atP];rfl),ak⟩);(have lo:h2 n p=none:=by unfold h2;rw[Z5,bu,atH atz]);rw[lo]at xp;refine go ?_;refine eI (i+1,w) [(1000,1000)] ce (A:=?_);dsimp only;rw[xp,show bL++(none:Option c0).toList=bL by simp];exact⟨cO,rfl,cO⟩;(have ci:i=bU.length:=by have:=at2 hc;omega);subst ci;rw[atX];refine go ?_;exact .iw _
def Di(aV:List cP)(f:c0):Bool:=bif f.data !=[]then decide (fd (λg:cP=>g.path==f.path) aV<0)else false
def jB(aV:List cP)(l:List c0):List atG:=(l.filter (Di aV)).map (·.path)
theorem aov(aV:List cP){l:List c0}(h:i<l.length):jB aV (l.take (i+1))=jB aV (l.take i)++(if Di aV l[i]=true then[l[i].path]else[]):=by rw[jB,atM h,auY,auq,<-jB,auM];split<;>rfl
theorem Z6(aV:List cP)(l:List c0):(jB aV l).length<=l.length:=by rw[jB,atL];exact aum _ _
theorem aow(n:ad)(aV:List cP)(aw:fr n)(aW:aV.length<1000000)(ay:∀p∈(if valid n=true then dR n [] 1 else[]),p.length<1000000000)(dg:(if valid n=true then dR n [] 1 else[]).length<1000000): aU B 18 [aE n,.Q .none 3 (aV.map bl)] (.Q .none 1 (aN (jB aV (ch n)))):=by have aox:=aot (B:=B) n aw ay dg;(have ol:∀f∈ch n,(en n f.path).1.dW=f.data/\f.path.length<1000000000:=λf M=>by obtain⟨p,yJ,pv⟩:=awo.1 M;unfold h2 at pv;split at pv;cases pv;exact⟨rfl,ay p yJ⟩;cases pv);(have dm:(ch n).length<1000000:=by have:(ch n).length<=(if valid n=true then dR n [] 1 else[]).length:=avZ _ _;omega);generalize ch n=az at*;(have eJ:(aN (lA az)).length=az.length:=by simp[aN,lA]);(have QK:∀i (h:i<az.length),(aN (lA az))[(i:Int).toNat]?=some (.O az[i].path):=λi h=>by rw[auj];simp[aN,lA,h]);generalize aN (lA az)=Pt at*;refine fn Tryz.func18 Tryz.ntmps18 λU=>?_;refine go ?_;intro cm;(conv=>whnf);refine da ?_;refine iF 2 2 12 (aE n) ?_;refine go ?_;refine bs aox ?_;refine W.own 5 1000 1 9 rfl (λw0=>?_);refine gf (λx:Nat×Value=>x.1<=az.length) [1,2,6] [] (λx=>[(5,.Q (.own 1000 x.2) 1 (aN (jB aV (az.take x.1)))),(7,u x.1)]) (λx=>[(1000,.own x.2 (aN (jB aV (az.take x.1))).length 1 9)]) (λx=>az.length-x.1) (0,w0) (at4 _) [(1000,1000)] ?_;rintro⟨i,w⟩ hi;dsimp only at hi⊢;refine go ?_;rw[eJ];refine cb (t:=decide ((i:Int)<(az.length:Nat))) ?_ ?_<;>intro hc;(have ce:i<az.length:=by have:=aua hc;omega);have qT:=QK i ce;have Dj:=aov aV ce;have pj:=Z6 aV (az.take i);rw[at7]at pj;obtain⟨N,QL⟩:=ol _ (atO ce);have Z7:=aoo (B:=B) n az[i].path aw QL;have aoy:=aop (B:=B) aV az[i].path atw;rw[N]at Z7;have Z8:Di aV az[i]=bif az[i].data !=[]then decide (fd (λg:cP=>g.path==az[i].path) aV<0)else false:=rfl;generalize az[i]=f at*;generalize fd (λg:cP=>g.path==f.path) aV=fV at*;generalize jB aV (az.take i)=bL at*;(have Nj:(aN bL).length=bL.length:=by simp[aN]);refine go ?_;refine yf ?_;refine bI (.O f.path) qT ?_;refine bs Z7 ?_;refine bI (.O f.path) qT ?_;refine bs aoy ?_;refine cb (t:=bif f.data !=[]then decide (fV<0)else false) ?_ ?_<;>intro bu;rw[Z8,bu,atI rfl]at Dj;refine go ?_;refine bI (.O f.path) qT ?_;intro gm;(conv=>whnf);refine go ?_;(have rB:aN bL++[.O f.path]=aN (jB aV (az.take (i+1))):=by rw[Dj];simp[aN]);exact eI (i+1,gm) [(1000,38)] ce (A:=⟨⟨E,E,E,aq.jK rB,sN,ak⟩,rfl,rfl,j2 (by rw[<-rB,atP];rfl),ak⟩);rw[Z8,bu,atH atz,auG]at Dj;refine go ?_;refine eI (i+1,w) [(1000,1000)] ce (A:=?_);dsimp only;rw[Dj];exact⟨cO,rfl,cO⟩;(have ci:i=az.length:=by have:=at2 hc;omega);subst ci;rw[atX];refine go ?_;exact .iw _
def tu(n:ad)(m:fv)(cW:List atG)(aV:List cP):Bool:=bif bif bif qc n 100000 then Ir m else false then decide ((cW.length:Int)<=50)else false then decide ((aV.length:Int)<=50)else false
theorem aoz(n:ad)(m:fv)(cW:List atG)(aV:List cP)(aw:fr n)(hm:m.name.length+m.set.length+m.pl.length+m.pm.length+m.lP.length<1000000000):aU B 27 [aE n,ih m,.Q .none 1 (aN cW),.Q .none 3 (aV.map bl)] (.bool (tu n m cW aV)):=by have aoA:=aeB (B:=B) n 100000 aw;have sK:=ad3 (B:=B) m hm;(have gI:(aN cW).length=cW.length:=by simp[aN]);have p_:(aV.map bl).length=aV.length:=atL _;refine fn Tryz.func27 Tryz.ntmps27 λU=>?_;refine go ?_;intro cT;(conv=>whnf);refine da ?_;intro cK;(conv=>whnf);refine go ?_;refine bs aoA ?_;refine bs sK ?_;rw[gI,p_];exact E
end Go.bR.ck
namespace Go.Proofs
end Go.Proofs
namespace Go.bR.ck
open Go Go.Proofs Go.RowKit Go.bR Go.Sort
variable{B:World}
theorem Kz:∀l:List atG,b2 (l.map D.O)=l.map D.O
 |[]=>rfl
 |x::r=>by have:=Kz r;simp only[b2]at this⊢;rw[aui,auL,this];rfl
variable{w:World}{C:Nat->Nat}{mZ:Value}
theorem Z9{l:List atG}(h:bh w C (.Q .none 1 (l.map D.O)) mZ):fO.EX w.heap.size w mZ l:=by rcases h.kh with⟨h0,⟨a,rfl⟩,_⟩|⟨b,o,cap,g,rfl,_,bf,_,_,_,_,ga,_,eQ⟩;exact .inl ⟨⟨a,rfl⟩,by simpa using h0⟩;refine .inr ⟨b,o,cap,by rw[atL],bf,λj aa=>?_⟩;(have N:(b2 (l.map D.O))[j]?=some (.O l[j]):=by rw[Kz,aud,atK aa];rfl);rw[ga j _ N,(eQ j _ N).kD,atK aa];rfl
theorem Z_(args:Array Value)(w:World):(callFunc 93 args).run Tryz.prog w=.ok (.enter 93 args) w:=by
 have l' : (Tryz.f93.name == "runtime.NumGoroutine") = false := by decide +kernel
 have I:Tryz.f93.body.isNone=false:=rfl;simp only[callFunc,run_program,Sem.run_bind,Result.andThen_ok,Tryz.func93,l',I,auU,avs,Sem.run_pure]
theorem aoB(l:List atG)(al:l.length<=1000000):mI Tryz.prog B 91 [.fn (.func 93) [] [.a_ 1 [.Q .none 1 (l.map D.O)] 0 0]] (.Q .none 1 (l.map D.O)):=by
 refine⟨⟨_,Tryz.func91,rfl,by decide +kernel⟩,λw C args I kJ=>?_⟩
 obtain⟨v,rfl⟩:∃v,args=[v]:=by
  cases args with
  |nil=>exact absurd kJ.1 aty
  |cons v r=>cases r with
   |nil=>exact⟨v,rfl⟩
   |cons _ _=>exact absurd kJ.1 aty
 obtain⟨fM,he,rfl,h1,A⟩:=(kJ.2 0 _ v rfl rfl).u3;obtain rfl:fM=[]:=atZ h1.1.symm
 obtain⟨p,rfl⟩:∃p,he=[p]:=by
  cases he with
  |nil=>exact absurd A.1 aty
  |cons v r=>cases r with
   |nil=>exact⟨v,rfl⟩
   |cons _ _=>exact absurd A.1 aty
 have ay:=A.2 0 _ p rfl rfl
 cases ay with
 |a_ _ _ _ _ b o cap h =>
  rcases h.kh with⟨h0,_⟩|⟨eo,bM,hP,g,X,_,bf,_,_,_,_,ga,_,eQ⟩
  ·cases h0
  injection X with bV _ _
  injection bV with bV
  injection bV with bV b9 _
  subst bV;subst b9
  have ia:w.cell? ⟨b,o,none⟩=some (g 0):=ga 0 _ rfl;have QM:=fO.TF Fence.wide 8 trivial rfl atw b o w.heap.size (g 0) l atw w bf (atQ _) ia (Z9 (eQ 0 _ rfl));have hc:=fO.TJ Tryz.laysCol Fence.wide 10 trivial trivial rfl atw 93 #[.pointer (some ⟨b,o,none⟩)] trivial Z_ (λa'=>a'=l) (λpre=>pre <+: l) l.length (by simp only[maxLen];omega) atw w QM;refine(callsIn_wide.1 hc).mono λe w' ⟨v,cC,ao,hs,dF,pP,eW⟩=>?_;subst hs
  have ji:∀D:Nat,nN w C w' (λx=>if x<w.heap.size then C x else D):=λD =>
   ⟨eW.size,λx F=>by simp only[F,auX];exact atQ _,λx o F ah=>by simp only[World.cell?,eW.block x F]⟩
  refine⟨v,λx=>if x<w.heap.size then C x else cC.length,ao,?_,⟨ji _,eW.os,eW.tape,eW.output,λx F _=>⟨eW.block x F,by simp only[F,auX]⟩⟩⟩;rcases dF.2 with⟨rfl,h0⟩|⟨GR,cap,ft,rfl,pS,Dk,lh,ms,oe,qg⟩
  ·have:cC=[]:=atZ h0;subst this;exact .iP _ _ none trivial
  have:=xU (w:=w') (C:=λx=>if x<w.heap.size then C x else cC.length) (tg:=.none) (k:=1) (xs:=cC.map D.O) (vs:=ft.toList) (b:=GR) (cap:=cap) Dk (λx F=>by obtain⟨_,_,rfl⟩:=aub.1 F;rfl) (by rw[atL];exact lh) ms
   (by rw[atH atw,atL];omega)
   (λj d N=>by
    rw[Kz,aud]at N
    cases F:cC[j]? with
    |none=>rw[F]at N;cases N
    |some x =>
     rw[F]at N;cases N
     have aa:j<cC.length:=(aun.1 F).1;have GS:(ft.toList.take (cC.length*1))[j]?=some (encStr x):=by rw[qg,aud,F];rfl
     rw[auB,atI atw]at GS
     exact⟨_,GS,.O x,rfl⟩) trivial
  rw[atL]at this;exact this
theorem aoC(l:List atG)(al:l.length<=1000000):c5 Tryz.prog B 91 [.fn (.func 93) [] [.a_ 1 [.Q .none 1 (l.map D.O)] 0 0]] bE.none λd aP=>∃v,d=.ai v/\aP=aL [(2000,.row v (l.map D.O) 1 9)]:=by
 refine⟨⟨_,Tryz.func91,rfl,by decide +kernel⟩,λw C args Ft I qD hH kJ=>?_⟩
 obtain⟨v,rfl⟩:∃v,args=[v]:=by
  cases args with
  |nil=>exact absurd kJ.1 aty
  |cons v r=>cases r with
   |nil=>exact⟨v,rfl⟩
   |cons _ _=>exact absurd kJ.1 aty
 obtain⟨fM,he,rfl,h1,A⟩:=(kJ.2 0 _ v rfl rfl).u3;obtain rfl:fM=[]:=atZ h1.1.symm
 obtain⟨p,rfl⟩:∃p,he=[p]:=by
  cases he with
  |nil=>exact absurd A.1 aty
  |cons v r=>cases r with
   |nil=>exact⟨v,rfl⟩
   |cons _ _=>exact absurd A.1 aty
 have ay:=A.2 0 _ p rfl rfl
 cases ay with
 |a_ _ _ _ _ b o cap h =>
  rcases h.kh with⟨h0,_⟩|⟨eo,bM,hP,g,X,_,bf,_,_,_,_,ga,_,eQ⟩
  ·cases h0
  injection X with bV _ _
  injection bV with bV
  injection bV with bV b9 _
  subst bV;subst b9
  have ia:w.cell? ⟨b,o,none⟩=some (g 0):=ga 0 _ rfl;have QM:=fO.TF Fence.wide 8 trivial rfl atw b o w.heap.size (g 0) l atw w bf (atQ _) ia (Z9 (eQ 0 _ rfl));have hc:=fO.TJ Tryz.laysCol Fence.wide 10 trivial trivial rfl atw 93 #[.pointer (some ⟨b,o,none⟩)] trivial Z_ (λa'=>a'=l) (λpre=>pre <+: l) l.length (by simp only[maxLen];omega) atw w QM;refine(callsIn_wide.1 hc).mono λe w' ⟨v,cC,ao,hs,dF,pP,eW⟩=>?_;subst hs
  have ji:nN w C w' (λx=>if x<w.heap.size then C x else 0) :=
   ⟨eW.size,λx F=>by simp only[F,auX];exact atQ _,λx o F ah=>by simp only[World.cell?,eW.block x F]⟩
  have ee:∀x,(aJ.row v (cC.map D.O) 1 9).ef x->w.heap.size<=x:=λx F=>by
   obtain⟨n,c,Z,aG⟩:=F;rcases dF.2 with⟨rfl,h0⟩|⟨GR,cap,ft,rfl,pS,Dk,lh,ms,oe,qg⟩
   ·cases Z
   injection Z with Z;injection Z with Z;injection Z with Z;omega
  refine⟨v,.ai v,λx=>if x<w.heap.size then C x else 0,aL [(2000,.row v (cC.map D.O) 1 9)],ao,⟨v,rfl,rfl⟩,.ai v,⟨ji,eW.os,eW.tape,eW.output,λx F _=>⟨eW.block x F,by simp only[F,auX]⟩⟩,?_⟩
  have only:∀j o,aL [(2000,aJ.row v (cC.map D.O) 1 9)] j=some o->j=2000/\o=.row v (cC.map D.O) 1 9:=λj o ah=>by
   simp only[aL]at ah
   cases I:Nat.beq j 2000 with
   |true=>rw[I]at ah;exact⟨avK I,by simpa using ah.symm⟩
   |false=>rw[I]at ah;simp at ah
  refine⟨λj o ah=>?_,λj ex o bM x a7 h1 A _ _=>absurd ((only j o h1).1.trans (only ex bM A).1.symm) a7,λj o x ah an=>?_⟩
  ·obtain⟨_,rfl⟩:=only j o ah;rcases dF.2 with⟨rfl,h0⟩|⟨GR,cap,ft,rfl,pS,Dk,lh,ms,oe,qg⟩
   ·have:cC=[]:=atZ h0;subst this;exact⟨none,0,rfl,atQ _,at4 _,λx F=>(by cases F),λdE gb=>(by cases gb),λh=>absurd h aty⟩
   refine⟨_,cap,by rw[atL],by rw[atL];exact lh,ms,λx F=>by obtain⟨_,_,rfl⟩:=aub.1 F;rfl,λdE gb=>⟨GR,by cases gb;rfl,(avu.1 Dk).1⟩,λ_=>⟨GR,ft,rfl,Dk,oe,?_,λj d N=>?_⟩⟩
   ·exact atH atw
   rw[Kz,aud]at N
   cases F:cC[j]? with
   |none=>rw[F]at N;cases N
   |some x =>
    rw[F]at N;cases N
    have aa:j<cC.length:=(aun.1 F).1;have GS:(ft.toList.take (cC.length*1))[j]?=some (encStr x):=by rw[qg,aud,F];rfl
    rw[auB,atI atw]at GS;exact⟨_,by simpa using GS,.O x,rfl⟩
  obtain⟨_,rfl⟩:=only j o ah;exact .inr (ee x an)
end Go.bR.ck
namespace Go.Proofs
end Go.Proofs
namespace Go.bR.ck
open Go Go.Proofs Go.RowKit Go.Sort Go.Lib
variable{B:World}
def uU(l:List atG):List D:=l.map D.O
def mE(L:List atG):List atG:=L.mergeSort λx y=>decide (x<=y)
variable{dj:aJ}
theorem KA{a:Nat}{o:aJ}{s:Nat}(h:aL [(a,dj)] s=some o):s=a/\o=dj:=axz
theorem aoD(L:List atG)(v:Value)(h0:0<L.length)(al:L.length<1000000):
  c5 Tryz.prog B 92 [.ai v] (aL [(2000,.row v (uU L) 1 9)]) λd aP=>d=.bp []/\aP=aL [(2000,.row v (uU (mE L)) 1 9)]:=by
 refine⟨⟨_,Tryz.func92,rfl,by decide +kernel⟩,λw C args Ft pS qD hH ae=>?_⟩;obtain⟨nw,ae⟩:=ae
 match args,nw with
 |[a0],_ =>
  have h1:=(ae 0 _ a0 rfl rfl).f4;subst h1;have dF:kf w C a0 (uU L) 1 9:=hH.cj 2000 _ rfl;have eJ:∀ap:List atG,(uU ap).length=ap.length:=λap=>by simp[uU]
  obtain⟨b,cap,vs,X,hc,hm,Y,I,fy,de,hcells⟩:=kf.pos dF (i:=0) (by rw[eJ];exact h0);have hcap:0<cap:=by rw[eJ]at hc;omega
  have ee:∀ap:List atG,∀x∈uU ap,x.cells=[x]:=λap x F=>by obtain⟨y,_,rfl⟩:=aub.1 F;rfl
  rw[rD (ee L)]at hcells
  have Fi:=Any.slices_Sort_string Tryz.lays190 b 0 cap L w (λj aa=>by
    have gi:j<L.length:=by simpa using aa
    obtain⟨V,bb,cL,_⟩:=hcells j (.O L[j]) (by simp[uU,gi]);refine⟨?_,by simp[World.frozen?,I]⟩;have aW:L.toArray[j]! = L[j]:=by simp[gi]
    rw[aW];simp only[World.cell?,I,auu]
    simp[bb,cL.kD,encStr]) (hD I) atw
  subst X;rw[eJ]at dF⊢;have e8:∀(xs:List D),aJ.ef (.row (.slice (some ⟨b,0,none⟩) L.length cap) xs 1 9) b:=λxs=>⟨_,cap,rfl,hcap⟩;have s2:=hH.cI 2000 _ b rfl ⟨_,cap,rfl,hcap⟩;refine Fi.mono ?_;rintro e w' ⟨rfl,m,os,rfl⟩;have Jg:(mE L).length=L.length:=awz _;have a6:=c_.Iw encStr w C b 0 m (mE L).toArray os de;refine⟨.tuple #[],.bp [],C,_,rfl,⟨rfl,rfl⟩,.bp [] [] rfl (λi d v N _=>by simp at N),?_,⟨λs o ah=>?_,λs bo o bM x a7 h1 A an cV=>?_,λs o x ah an=>?_⟩⟩
  ·exact⟨a6.ext,a6.os,a6.tape,a6.output,λx F bN=>a6.ix x F λe=>by subst e;exact bN s2⟩
  ·obtain⟨rfl,rfl⟩:=KA ah
   refine⟨some ⟨b,0,none⟩,cap,by rw[eJ,Jg],by rw[eJ]at hc⊢;omega,hm,λx F=>by rw[ee _ x F];rfl,λdE gb=>⟨b,by cases gb;rfl,auz (hD I) a6.ext.size⟩,
    λ_=>⟨b,_,rfl,Iv _ _ _ _ _ _ _ I,ayy,de,λj d N=>?_⟩⟩
   rw[rD (ee _)]at N;have aa:j<(mE L).length:=by have:=e7 N;rwa [eJ]at this
   have Aq:j<vs.size:=by rw[eJ]at hc;simp at fy;omega
   have Fj:d=.O (mE L)[j]:=by simp[uU,aa]at N;exact N.symm
   subst Fj;refine⟨encStr (mE L)[j],?_,.O _,rfl⟩;have lj:j<(mE L).toArray.size:=by simpa using aa
   simp only[putCells,awA,ave Aq,au7,at4,true_and,auu,lj,auX,Nat.sub_zero];show some (if j<(mE L).toArray.size then encStr ((mE L).toArray[j]!)else vs[j])=_;rw[atI lj,getElem!_pos (mE L).toArray j lj];rfl
  ·obtain⟨rfl,_⟩:=KA h1;obtain⟨rfl,_⟩:=KA A;exact a7 rfl
  obtain⟨rfl,rfl⟩:=KA ah;obtain⟨hM,vb,fZ,_⟩:=an;have:=o8 fZ;subst this
  exact .inl s2
end Go.bR.ck
namespace Go.bR
open Go Go.RowKit
variable{P:Program}{B:World}{am:Nat}{U:b7 P B am}{K:cJ->au->Prop}
end Go.bR
namespace Go.bR.ck
open Go Go.Proofs
variable{B:World}{f:FuncId}{ds:List D}{a8:D->bE->Prop}{k:Nat}
theorem c5.tc{H:bE}{s:Nat}(h:H s=none)(hc:c1 B f ds bE.none a8):c1 B f ds (gx H [(k,s)]) a8:=by(have e:gx H [(k,s)]=bE.none:=by funext j;simp only[gx,bE.none];cases Nat.beq j k with|true=>exact h|false=>rfl);rw[e];exact hc
theorem aoE(xs:List D):aU B 59 [.Q .none 1 xs] (.fn (.func 93) [] [.a_ 1 [.Q .none 1 xs] 0 0]):=by refine bA Tryz.func59 Tryz.ntmps59 λU=>?_;refine cl ?_;intro dC;(conv=>whnf);refine W.BI 1 1 (.Q .none 1 xs) rfl rfl rfl rfl ?_;refine gj ?_;exact E
theorem aoF(l:List atG)(h0:0<l.length)(al:l.length<1000000):aU B 58 [.fn (.func 93) [] [.a_ 1 [.Q .none 1 (uU l)] 0 0]] (.Q .none 1 (uU (mE l))):=by refine bA Tryz.func58 Tryz.ntmps58 λU=>?_;apply b4;refine qH ?_;refine .inr (af.call rfl [.fn (.func 93) [] [.a_ 1 [.Q .none 1 (l.map D.O)] 0 0]] [(2000,70)] (c5.tc rfl (aoC l atw)) rfl ar ?_);rintro d aP ⟨v,rfl,rfl⟩;refine⟨_,E,?_⟩;refine qH ?_;refine .inr (af.call rfl [.ai v] [(2000,70)] (c5.ad4 rfl (aoD l v h0 al)) rfl ar ?_);rintro d aP ⟨rfl,rfl⟩;refine rH ?_;refine W.fb [(3,.ai v)] [(70,.row v (uU (mE l)) 1 9)] [(70,70)] ⟨ar,rfl,bc⟩ ?_;refine W.vp 70 3 rfl ?_;refine gj ?_;exact E
def Z'(s:atG):atG:=(([5]++[oP (IntKind.wrap .u8 ((s4 s).1.length:Nat))])++[0,0])++(s4 s).1
def rm(cr s:atG):atG :=
 if(s==[])=true then cr else if(s==[46])=true then cr++[4,0,0,0]else if(s==[46,46])=true then cr++[3,0,0,0]else cr++Z' s
def xJ(t:atG):atG:=if[47].isPrefixOf t=true then[2,0,0,0]else[]
def rn(t:atG):atG:=if[47].isPrefixOf t=true then t.drop 1 else t
def Dl(t:atG):atG:=(cQ 47 [] (rn t)).foldl rm (xJ t)
theorem aoG(cr s:atG):(rm cr s).length<=cr.length+131077:=by have:=Nu s;unfold rm;split;omega;split;simp;split;simp;simp only[Z',atP,atT,auh];omega
theorem KB(t:atG):∀(l:List atG) (o:atG),(l.foldl rm o).length<=o.length+l.length*131077
 |[],o=>by simp
 |s::r,o=>by have h1:=KB t r (rm o s);have A:=aoG o s;rw[au0,atT,avS];omega
theorem QN(t:atG):(rn t).length<=t.length:=by unfold rn;split;rw[auV];omega;omega
theorem QO(t:atG):(xJ t).length<=4:=by unfold xJ;split<;>simp
variable{i:Nat}
theorem aoH{l:List atG}(h:i<l.length)(o:atG):(l.take (i+1)).foldl rm o=rm ((l.take i).foldl rm o) l[i]:=by rw[atM h,auT];rfl
theorem aoI(n:Int):[D.int .u8 (IntKind.wrap .u8 n)]=([oP (IntKind.wrap .u8 n)]).map λc=>D.int .u8 c.toNat:=yt [IntKind.wrap .u8 n] λm hm=>by
 rw[auv]at hm;subst hm;exact Nt n
theorem aoJ(a1:db B)(t:atG)(av:t.length<1000000):aU B 269 [.O t] (.O (Dl t)):=by refine bA Tryz.func269 Tryz.ntmps269 λU=>?_;refine pa ?_;refine W.lI (α:=Unit) (λx=>[(0,.O (rn t)),(3,.O (xJ t))]) (λx=>[]) ?_ ?_;refine go ?_;refine bs (acu t [47]) ?_;refine aK ([47].isPrefixOf t) rfl ?_ ?_<;>intro hc;refine W.u' aM mixed atB ?_;refine go ?_;(have ay:1<=t.length:=by cases t with|nil=>cases hc|cons a r=>simp);refine⟨λ_=>by omega,?_⟩;refine go ?_;exact⟨(),[],⟨aq.of_eq (atJ D.O (by rw[rn,atI hc,auj,atX];rfl)),aq.of_eq (atJ D.O (by rw[xJ,atI hc])),ak⟩,rfl,ak⟩;refine go ?_;exact⟨(),[],⟨aq.of_eq (atJ D.O (by rw[rn,atH (by rw[hc];decide)])),aq.of_eq (atJ D.O (by rw[xJ,atH (by rw[hc];decide)])),ak⟩,rfl,ak⟩;rintro⟨⟩;have ae:=QN t;have ah:=QO t;refine go ?_;refine bs (Il a1 (rn t) 47 atw) ?_;have dg:=(sW (c:=47) (rn t) []).1;have yJ:=(sW (c:=47) (rn t) []).2;unfold Dl;generalize cQ 47 [] (rn t)=P at*;generalize xJ t=dI at*;refine go ?_;refine W.loop (α:={i:Nat // i<=P.length}) (λx=>[(3,.O ((P.take x.1).foldl rm dI)),(13,.Q .none 1 (aN P)),(14,u ((aN P).length:Nat)),(15,u x.1)]) (λ_=>[]) (λx=>P.length-x.1) ⟨0,by omega⟩ ⟨E,aq.iw _,E,E,ak⟩ trivial ?_;rintro⟨i,hi⟩;dsimp only at hi⊢;refine go ?_;refine aK (decide ((i:Int)<((aN P).length:Nat))) rfl ?_ ?_<;>intro hc;apply co;(have aI:i<P.length:=by simpa[aN]using hc);have gI:=KB t (P.take i) dI;rw[at7,awp hi]at gI;have cS:=aoH aI dI;generalize lm:(P.take i).foldl rm dI=bL at*;generalize hs:P[i]=s at*;refine gJ ?_;refine⟨λ_=>by simp[aN];omega,?_⟩;refine go ?_;refine⟨.O s,λ_=>by simp[aN,aI,hs],?_⟩;refine go ?_;refine aK (s==[]) rfl ?_ ?_<;>intro fc;refine go ?_;exact⟨⟨i+1,aI⟩,ayr,⟨aq.of_eq (atJ D.O (by rw[cS,rm,atI fc])),E,E,E,ak⟩,ak⟩;refine go ?_;refine aK (s==[46]) rfl ?_ ?_<;>intro bu;refine mS ?_;refine mR ?_;exact⟨⟨i+1,aI⟩,ayr,⟨aq.of_eq (atJ D.O (by rw[cS,rm,atH (by rw[fc];decide),atI bu])),E,E,E,ak⟩,ak⟩;refine go ?_;refine aK (s==[46,46]) rfl ?_ ?_<;>intro dK;refine mS ?_;refine mR ?_;exact⟨⟨i+1,aI⟩,ayr,⟨aq.of_eq (atJ D.O (by rw[cS,rm,atH (by rw[fc];decide),atH (by rw[bu];decide),atI dK])),E,E,E,ak⟩,ak⟩;apply el;(have eJ:s.length<1000000000:=by have:=yJ s (hs ▸ atO aI);rw[auh]at this;omega);have jE:=Nu s;refine mS ?_;refine⟨[.O s],_,λ_=>Vd a1 s eJ,ar,?_⟩;(conv=>whnf);refine W.D' aM ?_;refine nY ?_;refine .inr ?_;(conv=>whnf);refine o' ?_;refine .inr (af.vd aM (aS:=[oP (IntKind.wrap .u8 ((s4 s).1.length:Nat))]) (tg:=.dV) rfl rfl rfl rfl rfl rfl (atJ (D.Q .dV 1) (aoI _)) ?_);refine wU ?_;refine p1 ?_;refine p1 ?_;refine mR ?_;exact⟨⟨i+1,aI⟩,ayr,⟨aq.of_eq (atJ D.O (by rw[cS,rm,atH (by rw[fc];decide),atH (by rw[bu];decide),atH (by rw[dK];decide)];rfl)),E,E,E,ak⟩,ak⟩;refine go ?_;(have ci:i=P.length:=by simp[aN]at hc;omega);exact ayn
theorem aoK(t:atG)(av:t.length<1000000):(Dl t).length<132000000000:=by have h1:=KB t (cQ 47 [] (rn t)) (xJ t);have A:=(sW (c:=47) (rn t) []).1;have Z:=QN t;have aG:=QO t;unfold Dl;omega
def A_(s:atG):Int:=(uk s false false).1
def uV(l:List ad):Int:=l.foldl (λm k=>m+A_ k.name) (uk [] true true).1
def zj(n:ad):Int:=if n.kind=2 then((Dl n.target).length:Nat)else uV n.J
theorem KC(s:atG)(d p:Bool):0<=(uk s d p).1/\(uk s d p).1<131200:=by have:=Vf s d p;unfold uk;split;simp only[Ns];rw[at6 atw];omega;simp
theorem QP:∀(l:List ad) (m:Int),0<=m->0<=l.foldl (λm k=>m+A_ k.name) m/\l.foldl (λm k=>m+A_ k.name) m<=m+131200*(l.length:Nat)
 |[],m,h=>by simp;exact h
 |k::r,m,h=>by have h1:=KC k.name false false;have A:=QP r (m+A_ k.name) (by unfold A_;omega);rw[au0,atT];unfold A_ at*;omega
theorem aoL{l:List ad}(h:i<l.length):uV (l.take (i+1))=uV (l.take i)+A_ l[i].name:=by rw[uV,uV,atM h,auT];rfl
theorem aaa(l:List ad)(i:Nat)(h:l.length<1000000):0<=uV (l.take i)/\uV (l.take i)<131200*1000002:=by
 have h1:=KC [] true true;have A:=QP (l.take i) (uk [] true true).1 h1.1;have Z:(l.take i).length<=l.length:=by rw[at7];omega
 unfold uV;omega
theorem aoM(n:ad)(Y:n.J.length<1000000)(av:n.target.length<1000000):0<=zj n/\zj n<132000000000:=by have h1:=aoK n.target av;have A:=aaa n.J n.J.length Y;rw[atX]at A;unfold zj;split<;>omega
theorem aoN(a1:db B)(n:ad)(Y:n.J.length<1000000)(av:n.target.length<1000000)(mt:∀k∈n.J,k.name.length<1000000000):aU B 210 [aE n] (u (zj n)):=by refine bA Tryz.func210 Tryz.ntmps210 λU=>?_;refine go ?_;intro dC;refine go ?_;refine aK (n.kind==2) rfl ?_ ?_<;>intro hc;refine go ?_;refine bs (aoJ a1 n.target av) ?_;rw[zj,atI (by simpa using hc)];exact E;refine go ?_;rw[zj,atH (by simpa using hc)];refine go ?_;refine bs (Vg a1 [] true true atz) ?_;refine W.ec (α:={i:Nat // i<=n.J.length}) (λx=>[(3,u (uV (n.J.take x.1))),(22,.Q .none 12 (n.J.map enc)),(23,u ((n.J.map enc).length:Nat)),(24,u x.1)]) (λ_=>[]) (λx=>n.J.length-x.1) ⟨0,by omega⟩ [] ⟨ar,rfl,ak⟩ ?_;rintro⟨i,hi⟩;dsimp only at hi⊢;refine go ?_;refine aK (decide ((i:Int)<((n.J.map enc).length:Nat))) rfl ?_ ?_<;>intro hc;apply co;(have aI:i<n.J.length:=by simpa using hc);have ae:=aaa n.J i Y;have cS:=aoL aI;have fA:=mt _ (atO aI);(have hU:(n.J.map enc)[i]?=some (aE n.J[i]):=by simp[aI,rJ]);have mc:=KC n.J[i].name false false;generalize gS:uV (n.J.take i)=S at*;refine gJ ?_;refine⟨λ_=>by rw[atL];omega,?_⟩;(conv=>whnf);refine⟨aE n.J[i],λ_=>hU,?_⟩;refine go ?_;intro d_;refine go ?_;refine bs (Vg a1 n.J[i].name false false fA) ?_;exact⟨⟨i+1,aI⟩,[],ayh,⟨aq.of_eq (atJ (D.int .i64) cS.symm),E,E,E,ak⟩,rfl,ak⟩;refine go ?_;(have ci:i=n.J.length:=by simp at hc;omega);exact ayn
structure aab where
 kind:Int
 node:Int
 oq:Int
 first:Int
 At:Int
def gG(x:aab):D:=.agg [u x.kind,u x.node,u x.oq,u x.first,u x.At]
structure k2 where
 dH:List aab
 count:Int
def eZ(s:k2)(kind node oq aac:Int):k2:=⟨s.dH++[⟨kind,node,oq,s.count,kT aac⟩],s.count+(1+kT aac)⟩
def pE(ct:Nat)(dy dU:Value)(s:k2):List (Nat×aJ):=[(210,.box ct [.ai dy,.Q (.own 211 dU) 5 (s.dH.map gG),u s.count]),(211,.own dU s.dH.length 5 358)]
theorem QQ{n:Int}(h0:0<=n)(h1:n<1000000000000):0<=kT n/\kT n<1000000000:=by unfold kT;split;omega;unfold j6;rw[at6 atw];omega
theorem QR(ct:Nat)(dy dU:Value)(s:k2)(kind node oq c:Int)(h0:0<=c)(h1:c<1000000000000)(al:s.dH.length<100000000)(ia:0<=s.count)(fc:s.count<1000000000000000000):c1 B 211 [.box 210 ct 0,u kind,u node,u oq,u c] (aL (pE ct dy dU s)) λd aP=>d=.bp []/\∃aoO,aP=aL (pE ct dy aoO (eZ s kind node oq c)):=by refine jJ Tryz.func211 Tryz.ntmps211 λU=>?_;have mb:=QQ h0 h1;refine go ?_;have XC:=U7 (B:=B) c h0 h1;refine' eH (α:=Nat) [(210,.box ct [.ai dy,.Q (.own 211 dU) 5 (s.dH.map gG),u s.count]),(211,.own dU s.dH.length 5 358)] 0 (λmr=>[_,_,_,_,_,_,_,_,u (kT c),_,.box 10 mr 0,.any]) (λmr=>[(10,10,some (.box mr [u 0,u 0,u 0,u 0,u 0])),(11,10,some (.box mr [u kind,u node,u oq,u s.count,u (kT c)]))]) [0,0,0,0,8,24,56,0,128,511,0,2047] [(10,10),(11,10)] ?_ ?_;rotate_left 9;refine dw ?_;refine wS ?_;exact trivial;intro mr;(conv=>whnf);refine W.fb [(0,.box 210 ct 0),(1,u kind),(2,u node),(3,u oq),(4,u c),(10,.box 10 mr 0)] [(210,.box ct [.ai dy,.Q (.own 211 dU) 5 (s.dH.map gG),u s.count]),(211,.own dU s.dH.length 5 358),(10,.box mr [u kind,u node,u oq,u s.count,u (kT c)])] [(210,210),(211,211),(10,10)] ⟨cO,rfl,cO⟩ ?_;refine go ?_;refine' eH (α:=Value) [(210,.box ct ([.ai dy,.Q (.own 211 dU) 5 (s.dH.map gG),u s.count])),(10,.box mr [u kind,u node,u oq,u s.count,u (kT c)]),(211,.own dU s.dH.length 5 358)] Value.nilFunc (λy=>[_,_,_,_,_,_,_,.Q (.own 28 y) 5 (s.dH.map gG++[D.agg [u kind,u node,u oq,u s.count,u (kT c)]]),_,_,.any]) (λy=>[(7,211,none),(7,28,some (.own y (((s.dH.map gG).length+([.agg [u kind,u node,u oq,u s.count,u (kT c)]]:List D).length)) 5 358)),(10,210,some (.box ct ([.ai dy,.Q (.own 28 y) 5 (s.dH.map gG++[D.agg [u kind,u node,u oq,u s.count,u (kT c)]]),u s.count])))]) [0,0,2,6,14,0,32,126,255,511,1023] [(7,211),(7,28),(10,210)] ?_ ?_;rotate_left 9;refine dw ?_;refine B2 (λy=>?_) ?_;(conv=>whnf);refine⟨rfl,by simp,?_⟩;(conv=>whnf);refine⟨by show(_+1)*40<=_;simp;omega,by show _+1<=_;simp;omega,atD,λGU=>?_⟩;exact dh GU;refine Go.bR.ck.vs ?_;exact trivial;intro y;(conv=>whnf);refine W.fb [(0,.box 210 ct 0),(10,.box 10 mr 0)] [(210,.box ct [.ai dy,.Q (.own 28 y) 5 (s.dH.map gG++[D.agg [u kind,u node,u oq,u s.count,u (kT c)]]),u s.count]),(10,.box mr [u kind,u node,u oq,u s.count,u (kT c)]),(28,.own y (((s.dH.map gG).length+([.agg [u kind,u node,u oq,u s.count,u (kT c)]]:List D).length)) 5 358)] [(210,210),(10,10),(28,28)] ⟨cO,rfl,cO⟩ ?_;(conv=>whnf);(conv=>whnf);refine W.jj 210 (dv:=[.ai dy,.Q (.own 211 y) 5 ((eZ s kind node oq c).dH.map gG),u s.count]) rfl ⟨E,aq.jK (by simp[eZ,gG]),E,ak⟩ ?_;refine W.SR ?_;refine W.Bt aM 7 mixed atB ?_;refine go ?_;exact⟨[],pE ct dy y (eZ s kind node oq c),[(210,210),(211,28)],⟨ak,rfl,rfl,rfl,rfl,j2 (by simp[eZ]),ak⟩,.bp [],ak,rfl,y,rfl⟩
mutual
def hG:ad->List ad
 |.mk a b c d e f g h i j ag cC=>.mk a b c d e f g h i j ag cC::gr ag
def gr:List ad->List ad
 |[]=>[]
 |n::r=>hG n++gr r
end
theorem aoP(n:ad):hG n=n::gr n.J:=by cases n;simp only[hG]
theorem aad:∀a b:List ad,gr (a++b)=gr a++gr b
 |[],b=>rfl
 |n::r,b=>by simp only[auS,gr,aad r b,aup]
theorem aoQ{l:List ad}(h:i<l.length):gr (l.take (i+1))=gr (l.take i)++hG l[i]:=by rw[atM h,aad];simp only[gr,auG]
mutual
theorem aae:∀n:ad,(hG n).length<=aC n
 |.mk a b c d e f g h i j ag cC=>by
  have:=KD ag;simp only[hG,atT,aC];omega
theorem KD:∀l:List ad,(gr l).length<=eG l
 |[]=>by simp[gr]
 |n::r=>by
  have h1:=aae n;have A:=KD r;simp only[gr,atP,eG];omega
end
def mF(n:ad)(K:D):D:=.agg [.O n.name,u n.kind,.O n.dW,.O n.target,u n.cN,u n.n2,u n.n3,u n.n4,u n.n5,u n.n6,.Q .none 12 (n.J.map enc),.Q .none 2 (n.bO.map c4),.any,.any,K,.any]
def cH(n:ad):D:=mF n .any
variable{xs a':List D}
theorem QS{a b:D}(h:dN a.cells b.cells):dN (b2 (xs++a::a')) (b2 (xs++b::a')):=by
 have e:∀V:D,b2 (xs++V::a')=b2 xs++(V.cells++b2 a'):=λV=>by simp[b2]
 rw[e,e];exact dN.lP (dN.refl _) (dN.lP h (dN.refl _))
theorem KE{b:D}(h1:∀x∈xs,x.cells.length=k)(A:b.cells.length=k)(Z:∀x∈a',x.cells.length=k):∀x∈xs++b::a',x.cells.length=k:=λx F=>by
 rcases aue.1 F with h|h
 ·exact h1 x h
 rcases at5.1 h with rfl|h
 ·exact A
 exact Z x h
theorem aoR{a b:D}(xs r:List D):(xs++a::r).set xs.length b=xs++b::r:=by simp
theorem GV(l:List ad):∀x∈l.map cH,x.cells.length=16:=λx F=>by
 obtain⟨n,_,rfl⟩:=aub.1 F;rfl
def QT(ct:Nat)(dy:Value)(xs:List D):List (Nat×aJ):=[(210,.box ct [.ai dy,.bj,u 0]),(203,.row dy xs 16 296)]
theorem aoS{n:ad}(h:i<n.J.length):eG (n.J.take i)+aC n.J[i]+1<=aC n/\aC n.J[i]<aC n:=by(have h1:∀{l:List ad} {i:Nat} (h:i<l.length),eG (l.take i)+aC l[i]<=eG l:=by intro l;induction l with|nil=>intro i h;simp at h|cons k r aZ =>intro i h;(cases i with|zero=>simp only[av4,eG,avT];omega|succ i =>have:=aZ (i:=i) (by simpa using h);simp only[avm,eG,au9];omega));have A:=h1 h;(have Z:eG n.J+1<=aC n:=by cases n;simp only[aC];omega);omega
theorem aoT(ct:Nat):∀(bD:Nat) (n:ad) (path:atG) (cA:Int) (xs:List D) (dy:Value),aC n<bD->path.length+aC n<1000000000->xs.length+aC n<10000000->(∀x∈xs,x.cells.length=16)->   c1 B 209 [.box 210 ct 0,aE n,.O path,u cA] (aL (QT ct dy xs)) λd aP=>d=u (xs.length:Nat)/\∃bJ ro e',aP=aL (QT ct (.slice bJ ro e') (xs++(hG n).map cH)):=by refine λbD=>Nat.rec (λn path cA xs dy h=>absurd h (avf _)) (λbD aZ n path cA xs dy hN ay F KF=>?_) bD;refine jJ Tryz.func209 Tryz.ntmps209 λU=>?_;refine W.B1 203 rfl (λa cap X _ _=>?_);subst X;refine cl ?_;intro cK;refine vf ?_;apply mf;apply cB;apply el;refine' eH (α:=(Option Addr×Nat×Nat)) [(210,.box ct ([.ai (.slice a xs.length cap),.bj,u 0])),(5,.box cK (aE n).cells),(203,.row (.slice a xs.length cap) xs 16 296)] (none,0,0) (λsq=>[_,_,_,_,_,_,_,_,_,_,.ai (.slice sq.1 sq.2.1 sq.2.2),_,_,.any]) (λsq=>[(10,203,none),(10,29,some (.row (.slice sq.1 sq.2.1 sq.2.2) (xs++[D.agg [.O n.name,u n.kind,.O n.dW,.O n.target,u n.cN,u n.n2,u n.n3,u n.n4,u n.n5,u n.n6,.Q .none 12 (n.J.map enc),.Q .none 2 (n.bO.map c4),.O path,u cA,.bj,u 0]]) 16 296)),(13,210,some (.box ct ([.ai (.slice sq.1 sq.2.1 sq.2.2),.bj,u 0])))]) [0,0,2,6,14,0,0,0,224,480,1022,2047,4095,8191] [(10,203),(10,29),(13,210)] ?_ ?_;rotate_left 12;refine dw ?_;refine bS (λsq=>af.nU aM 203 rfl rfl rfl atD rfl rfl rfl aty (by show(_+1)*208<=_;omega) (by show _+1<=_;omega) (λbJ ro e'=>dh (bJ,ro,e'))) ?_;refine Go.bR.ck.vs ?_;exact trivial;intro sq;obtain⟨bJ,ro,e'⟩:=sq;(conv=>whnf);refine W.fb [(0,.box 210 ct 0),(2,.O path),(5,.box 5 cK 0),(9,u (xs.length:Nat))] [(210,.box ct [.ai (.slice bJ ro e'),.bj,u 0]),(5,.box cK (aE n).cells),(29,.row (.slice bJ ro e') (xs++[D.agg [.O n.name,u n.kind,.O n.dW,.O n.target,u n.cN,u n.n2,u n.n3,u n.n4,u n.n5,u n.n6,.Q .none 12 (n.J.map enc),.Q .none 2 (n.bO.map c4),.O path,u cA,.bj,u 0]]) 16 296)] [(210,210),(5,5),(29,29)] ⟨cO,rfl,cO⟩ ?_;refine go ?_;have jE:=GV;refine W.tP 205 1 3 ?_;refine W.vk 29 (xs:=xs++[D.agg [.O n.name,u n.kind,.O n.dW,.O n.target,u n.cN,u n.n2,u n.n3,u n.n4,u n.n5,u n.n6,.Q .none 12 (n.J.map enc),.Q .none 2 (n.bO.map c4),.O path,u cA,.bj,u 0]]) (a':=xs++[mF n (.Q (.own 205 (.slice none 0 0)) 1 [])]) rfl aty (KE KF rfl (λx F=>by cases F)) (QS ⟨E,E,E,E,E,E,E,E,E,E,E,E,.any _,.any _,aq.ve,.any _,ak⟩) ?_;refine go ?_;refine W.ec (α:={p:Nat×List D // p.1<=n.J.length/\p.2.length<=p.1}×Value×Value) (λx=>[(0,.box 210 ct 0),(2,.O path),(9,u (xs.length:Nat)),(33,.Q .none 12 (n.J.map enc)),(34,u ((n.J.map enc).length:Nat)),(35,u (x.1.1.1:Nat))]) (λx=>[(210,.box ct [.ai x.2.1,.bj,u 0]),(203,.row x.2.1 (xs++mF n (.Q (.own 205 x.2.2) 1 x.1.1.2)::(gr (n.J.take x.1.1.1)).map cH) 16 296),(205,.own x.2.2 x.1.1.2.length 1 3)]) (λx=>n.J.length-x.1.1.1) (⟨(0,[]),by simp,by simp⟩,.slice bJ ro e',.slice none 0 0) [(210,210),(203,29),(205,205)] ⟨ar,rfl,bc⟩ ?_;rintro⟨⟨⟨i,ag⟩,hi,b6⟩,QU,dh⟩;dsimp only at hi b6⊢;refine go ?_;refine aK (decide ((i:Int)<((n.J.map enc).length:Nat))) rfl ?_ ?_<;>intro hc;(·apply co;(have aI:i<n.J.length:=by simpa using hc);(have hU:(n.J.map enc)[i]?=some (aE n.J[i]):=by simp[aI,rJ]);have aom:=EF aI;have asZ:=lR n;have aon:=aoS aI;have dg:=KD (n.J.take i);have as0:=z8 n.J;have cS:=aoQ aI;have aoU:∀x∈xs++mF n (.Q (.own 205 dh) 1 ag)::(gr (n.J.take i)).map cH,x.cells.length=16:=KE KF rfl (GV _);(have anc:(xs++mF n (.Q (.own 205 dh) 1 ag)::(gr (n.J.take i)).map cH).length=xs.length+1+(gr (n.J.take i)).length:=by simp;omega);refine gJ ?_;refine⟨λ_=>by rw[atL];omega,?_⟩;(conv=>whnf);refine⟨aE n.J[i],λ_=>hU,?_⟩;refine go ?_;intro CB;apply cB;refine k7 ?_;generalize sR:n.J[i]=hB at*;refine W.lI (α:={b:atG // b.length<=path.length+1+hB.name.length}) (λx=>[(0,.box 210 ct 0),(2,.O path),(9,u (xs.length:Nat)),(11,.box 11 CB 0),(12,.O x.1),(33,.Q .none 12 (n.J.map enc)),(34,u ((n.J.map enc).length:Nat)),(35,u (i:Nat))]) (λx=>[(210,.box ct [.ai QU,.bj,u 0]),(203,.row QU (xs++mF n (.Q (.own 205 dh) 1 ag)::(gr (n.J.take i)).map cH) 16 296),(205,.own dh ag.length 1 3),(11,.box CB (aE hB).cells)]) ?_ ?_;refine go ?_;refine aK (!(path==[])) rfl ?_ ?_<;>intro bu;refine mS ?_;refine nW ?_;refine eB ?_;refine mR ?_;exact⟨⟨(path++[47])++hB.name,by simp;omega⟩,[(210,210),(203,203),(205,205),(11,11)],ar,rfl,bc⟩;refine go ?_;exact⟨⟨hB.name,by omega⟩,[(210,210),(203,203),(205,205),(11,11)],ar,rfl,bc⟩;rintro⟨below,as1⟩;refine go ?_;refine .inr (af.call rfl [.box 210 ct 0,aE hB,.O below,u (xs.length:Nat)] [(210,210),(203,203)] (c5.wZ (by exact⟨rfl,bc⟩) (aZ hB below (xs.length:Nat) (xs++mF n (.Q (.own 205 dh) 1 ag)::(gr (n.J.take i)).map cH) QU atw atw atw aoU)) rfl ar ?_);rintro d aP ⟨rfl,a2,n2,dB,rfl⟩;refine p2 ?_;(have jf:(xs++mF n (.Q (.own 205 dh) 1 ag)::(gr (n.J.take i)).map cH)++(hG hB).map cH=xs++mF n (.Q (.own 205 dh) 1 ag)::(gr (n.J.take (i+1))).map cH:=by rw[cS];simp);have eS:=KD (n.J.take (i+1));refine W.fb [(0,.box 210 ct 0),(2,.O path),(9,u (xs.length:Nat)),(13,u ((xs++mF n (.Q (.own 205 dh) 1 ag)::(gr (n.J.take i)).map cH).length:Nat)),(33,.Q .none 12 (n.J.map enc)),(34,u ((n.J.map enc).length:Nat)),(35,u (i:Nat))] [(210,.box ct [.ai (.slice a2 n2 dB),.bj,u 0]),(203,.row (.slice a2 n2 dB) (xs++mF n (.Q (.own 205 dh) 1 ag)::(gr (n.J.take (i+1))).map cH) 16 296),(205,.own dh ag.length 1 3)] [(210,210),(203,203),(205,205)] ⟨ar,rfl,rfl,rfl,rfl,atJ (λV=>some (aJ.row (.slice a2 n2 dB) V 16 296)) jf,rfl,bc⟩ ?_;have aoV:∀x∈(gr (n.J.take (i+1))).map cH,x.cells.length=16:=GV _;generalize aoW:(gr (n.J.take (i+1))).map cH=A' at*;generalize(xs++mF n (.Q (.own 205 dh) 1 ag)::(gr (n.J.take i)).map cH).length=xK at*;(have bf:xs.length<(xs++mF n (.Q (.own 205 dh) 1 ag)::A').length:=by simp);(have h':(xs++mF n (.Q (.own 205 dh) 1 ag)::A')[xs.length]?=some (mF n (.Q (.own 205 dh) 1 ag)):=by simp);refine' eH (α:=Value) [(210,.box ct [.ai (.slice a2 n2 dB),.bj,u 0]),(203,.row (.slice a2 n2 dB) (xs++mF n (.Q (.own 205 dh) 1 ag)::A') 16 296),(205,.own dh ag.length 1 3)] Value.nilFunc (λk3=>[_,_,_,_,_,_,_,_,_,_,.ai (hW (.slice a2 n2 dB) (((xs.length:Nat):Int).toNat*16)),.ai (hW (.slice a2 n2 dB) (((xs.length:Nat):Int).toNat*16+14)),.Q (.own 205 dh) 1 ag,_,_,.Q (.own 68 k3) 1 (ag++[u (xK:Nat)]),.ai (hW (.slice a2 n2 dB) (((xs.length:Nat):Int).toNat*16)),.ai (hW (.slice a2 n2 dB) (((xs.length:Nat):Int).toNat*16+14)),.any]) (λk3=>[(15,205,none),(15,68,some (.own k3 (ag.length+[u (xK:Nat)].length) 1 3)),(18,203,some (.row (.slice a2 n2 dB) ((xs++mF n (.Q (.own 205 dh) 1 ag)::A').set xs.length (D.agg [.O n.name,u n.kind,.O n.dW,.O n.target,u n.cN,u n.n2,u n.n3,u n.n4,u n.n5,u n.n6,.Q .none 12 (n.J.map enc),.Q .none 2 (n.bO.map c4),.any,.any,.Q (.own 68 k3) 1 (ag++[u (xK:Nat)]),.any])) 16 296))]) [0,1,3,7,0,0,32,96,224,0,992,2016,4064,0,8192,32736,65535,131071,262143] [(15,205),(15,68),(18,203)] ?_ ?_;rotate_left 12;refine dw ?_;refine bS (λk3=>af.ey aM 203 rfl rfl rfl rfl rfl rfl rfl atw (av_.2 bf) (cw k3)) ?_;refine bS (λk3=>af.jl aM 203 (i:=xs.length) rfl rfl bf rfl rfl rfl atz (cw k3)) ?_;refine bS (λk3=>af.n1 aM 203 (i:=xs.length) (j:=14) atC rfl rfl h' (cw k3)) ?_;refine bS (λk3=>af.SP aM 205 205 rfl rfl rfl atD rfl rfl rfl (by show(_+1)*8<=_;omega) (by show _+1<=_;omega) (λGU=>Go.bR.ck.dh GU)) ?_;refine bS (λk3=>af.ey aM 203 rfl rfl rfl rfl rfl rfl rfl atw (av_.2 bf) (cw k3)) ?_;refine bS (λk3=>af.jl aM 203 (i:=xs.length) rfl rfl bf rfl rfl rfl atz (cw k3)) ?_;refine bS (λk3=>af.vj aM 203 (i:=xs.length) (j:=14) atC rfl rfl rfl h' atz rfl (cw k3)) ?_;exact trivial;intro k3;(conv=>whnf);refine W.fb [(0,.box 210 ct 0),(2,.O path),(9,u (xs.length:Nat)),(33,.Q .none 12 (n.J.map enc)),(34,u ((n.J.map enc).length:Nat)),(35,u (i:Nat))] [(210,.box ct [.ai (.slice a2 n2 dB),.bj,u 0]),(203,.row (.slice a2 n2 dB) ((xs++mF n (.Q (.own 205 dh) 1 ag)::A').set xs.length (D.agg [.O n.name,u n.kind,.O n.dW,.O n.target,u n.cN,u n.n2,u n.n3,u n.n4,u n.n5,u n.n6,.Q .none 12 (n.J.map enc),.Q .none 2 (n.bO.map c4),.any,.any,.Q (.own 68 k3) 1 (ag++[u (xK:Nat)]),.any])) 16 296),(68,.own k3 (ag.length+[u (xK:Nat)].length) 1 3)] [(210,210),(203,203),(68,68)] ⟨cO,rfl,cO⟩ ?_;(conv=>whnf);refine W.vk 203 (xs:=(xs++mF n (.Q (.own 205 dh) 1 ag)::A').set xs.length (D.agg [.O n.name,u n.kind,.O n.dW,.O n.target,u n.cN,u n.n2,u n.n3,u n.n4,u n.n5,u n.n6,.Q .none 12 (n.J.map enc),.Q .none 2 (n.bO.map c4),.any,.any,.Q (.own 68 k3) 1 (ag++[u (xK:Nat)]),.any])) (a':=xs++mF n (.Q (.own 205 k3) 1 (ag++[u (xK:Nat)]))::A') rfl aty (KE KF rfl aoV) (by rw[aoR];exact QS ⟨E,E,E,E,E,E,E,E,E,E,E,E,.any _,.any _,aq.own _ _,.any _,ak⟩) ?_;refine go ?_;exact⟨(⟨(i+1,ag++[u (xK:Nat)]),aI,by simp;omega⟩,.slice a2 n2 dB,k3),[(210,210),(203,203),(205,68)],ayh,ar,rfl,rfl,rfl,rfl,atJ (λV=>some (aJ.row (.slice a2 n2 dB) (xs++mF n (.Q (.own 205 k3) 1 (ag++[u (xK:Nat)]))::V) 16 296)) aoW.symm,rfl,j2 aty,ak⟩);(have ci:i=n.J.length:=by simp at hc;omega);subst ci;rw[atX];refine wT ?_;(have lM:(hG n).map cH=cH n::(gr n.J).map cH:=by rw[aoP];rfl);refine W.vk 203 (a':=xs++cH n::(gr n.J).map cH) rfl aty (KE KF rfl (GV _)) (QS ⟨E,E,E,E,E,E,E,E,E,E,E,E,.any _,.any _,.any _,.any _,ak⟩) ?_;refine W.B1 203 rfl (λa3 lW Af _ _=>?_);subst Af;refine cl ?_;refine W.gQ [(8,u (xs.length:Nat))] (QT ct (.slice a3 _ lW) (xs++cH n::(gr n.J).map cH)) [(210,210),(203,203)] ⟨ar,rfl,bc⟩ ?_;refine go ?_;exact⟨_,E,rfl,a3,_,lW,by rw[lM];rfl⟩
variable{S:Type}
def uW{bL:Type}(f:S->Int->bL->S)(s:S)(l:List bL):S:=(l.foldl (λ(q:S×Int) a=>(f q.1 q.2 a,q.2+1)) (s,0)).1
theorem aaf{S bL:Type}(f:S->Int->bL->S)(s:S):∀(l:List bL) (k:Int),(l.foldl (λ(q:S×Int) a=>(f q.1 q.2 a,q.2+1)) (s,k)).2=k+(l.length:Nat)
 |[],k=>by simp
 |a::r,k=>by rw[au0,aaf f _ r,atT];omega
theorem Dm{bL:Type}(f:S->Int->bL->S)(s:S){l:List bL}(h:i<l.length):uW f s (l.take (i+1))=f (uW f s (l.take i)) (i:Nat) l[i]:=by have A:=aaf f s (l.take i) 0;rw[at7,awp atw,Int.zero_add]at A;rw[uW,uW,atM h,auT];simp only[au0,List.foldl_nil,A]
def hI(m:ad):Int:=if m.kind=1 then 0 else zj m
def rp(i:Int)(s:k2)(l:List np):k2:=uW (λs k x=>eZ s 2 i k (x.target.length:Nat)) s l
def ww(s:k2)(i:Int)(m:ad):k2:=if 0<m.bO.length then rp i (eZ (eZ s 0 i 0 (hI m)) 1 i 0 0) m.bO else eZ s 0 i 0 (hI m)
def ot(l:List ad):k2:=uW ww ⟨[],0⟩ l
structure zk (s:k2) (n:Nat):Prop where
 len:s.dH.length<=n
 hY:0<=s.count
 ev:s.count<=(s.dH.length:Nat)*1000000001
theorem zk.put{s:k2}{n:Nat}(h:zk s n){a b c d:Int}(h0:0<=d)(h1:d<1000000000000):zk (eZ s a b c d) (n+1):=by have:=QQ h0 h1;obtain⟨g1,fe,g3⟩:=h;refine⟨?_,?_,?_⟩;simp only[eZ,atP,atT,auh];omega;simp only[eZ];omega;simp only[eZ,atP,atT,auh];omega
def qt:List ad->Nat
 |[]=>0
 |n::r=>2+n.bO.length+qt r
theorem GW:∀a b:List ad,qt (a++b)=qt a+qt b
 |[],b=>by simp[qt]
 |n::r,b=>by simp only[auS,qt,GW r b];omega
mutual
theorem KG:∀n:ad,qt (hG n)<=aC n
 |.mk a b c d e f g h i j ag cC=>by
  have h1:=aag ag;have A:=EG cC;simp only[hG,qt,aC];omega
theorem aag:∀l:List ad,qt (gr l)<=eG l
 |[]=>by simp[gr,qt]
 |n::r=>by
  have h1:=KG n;have A:=aag r;simp only[gr,GW,eG];omega
end
mutual
theorem KH:∀n:ad,∀m∈hG n,aC m<=aC n
 |.mk a b c d e f g h i j ag cC,m,hm=>by
  simp only[hG,at5]at hm;rcases hm with rfl|hm
  ·exact atQ _
  have:=aah ag m hm;simp only[aC];omega
theorem aah:∀l:List ad,∀m∈gr l,aC m<=eG l
 |[],m,hm=>by simp[gr]at hm
 |n::r,m,hm=>by
  simp only[gr,aue]at hm;rcases hm with hm|hm
  ·have:=KH n m hm;simp only[eG];omega
  have:=aah r m hm;simp only[eG];omega
end
theorem QV{s:k2}{n:Nat}(h:zk s n)(i:Int){l:List np}(al:∀x∈l,(x.target.length:Int)<1000000000000):∀k,k<=l.length->zk (rp i s (l.take k)) (n+k)
 |0,_=>h
 |k+1,Y=>by rw[rp,Dm _ _ (show k<l.length by omega)];exact(QV h i al k atw).put atw (al _ (atO _))
theorem aai(m:ad)(hm:aC m<1000000):0<=hI m/\hI m<1000000000000:=by have h1:=lR m;have A:=z8 m.J;have:=aoM m atw atw;unfold hI;split<;>omega
theorem QW{m:ad}(hm:aC m<1000000):∀x∈m.bO,(x.target.length:Int)<1000000000000:=λx F=>by
 obtain⟨k,Y,rfl⟩:=aur.1 F;have h1:=H0 Y;have A:=lR m;omega
theorem aoX{s:k2}{n:Nat}(h:zk s n)(i:Int){m:ad}(hm:aC m<1000000):zk (ww s i m) (n+2+m.bO.length):=by have hc:=aai m hm;have h1:=h.put (a:=0) (b:=i) (c:=0) hc.1 hc.2;have A:=h1.put (a:=1) (b:=i) (c:=0) (d:=0) atz atz;unfold ww;split;have:=QV A i (QW hm) m.bO.length (atQ _);rw[atX]at this;exact this;exact⟨by have:=h1.len;omega,h1.hY,h1.ev⟩
theorem KI{l:List ad}(al:∀m∈l,aC m<1000000):∀k,k<=l.length->zk (ot (l.take k)) (qt (l.take k))
 |0,_=>⟨atQ _,auN _,by show(0:Int)<=_;simp[ot,uW]⟩
 |k+1,Y=>by(have fH:k<l.length:=by omega);rw[ot,Dm _ _ fH,atM fH,GW];have:=aoX (KI al k atw) (k:Nat) (al _ (atO fH));exact⟨avc this.len (by simp only[qt];omega),this.hY,this.ev⟩
def aaj(ct:Nat)(dy dU:Value)(s:k2)(xs:List D):List (Nat×aJ):=[(210,.box ct [.ai dy,.Q (.own 211 dU) 5 (s.dH.map gG),u s.count]),(211,.own dU s.dH.length 5 358),(203,.row dy xs 16 296)]
theorem aoY(a1:db B)(n ck:ad)(Dn:aU B 208 [u 3,aE n] (.bp [aE ck,u 0]))(uT:aC ck<1000000):c1 B 140 [aE n] bE.none λd aP=>∃ct dy dU,d=.box 210 ct 0/\aP=aL (pE ct dy dU (ot (hG ck))):=by refine jJ Tryz.func140 Tryz.ntmps140 λU=>?_;refine cl ?_;intro dC;refine no ?_;apply cB;refine ic ?_;refine⟨[u 3,aE n],_,λ_=>Dn,ar,?_⟩;apply eb;apply eb;apply eb;refine ic ?_;intro eR;apply eb;apply cB;refine ic ?_;refine W.fb [(3,.box 3 eR 0)] [(3,.box eR (aE ck).cells)] [(3,3)] (by exact⟨ar,rfl,bc⟩) ?_;refine no ?_;refine ic ?_;intro ej;refine ic ?_;refine W.fb [(3,.box 3 eR 0),(5,.box 17 ej 0)] [(3,.box eR (aE ck).cells),(17,.box ej [.bj,.bj,u 0])] [(3,3),(17,17)] (by exact⟨ar,rfl,bc⟩) ?_;(conv=>whnf);refine W.qE 203 16 296 ?_;refine W.jj 17 (dv:=[.ai (.slice none 0 0),.bj,u 0]) rfl ⟨aq.rG,E,E,ak⟩ ?_;refine no ?_;apply eb;apply cB;apply tT;refine af.call rfl [.box 210 ej 0,aE ck,.O [],u 0] [(210,17),(203,203)] (c5.wZ (by exact⟨rfl,bc⟩) (aoT ej (aC ck+1) ck [] 0 [] (.slice none 0 0) atw atx atx (λx F=>by cases F))) rfl ⟨aq.box,E,E,E,ak⟩ ?_;rintro d aP ⟨rfl,bJ,ro,e',rfl⟩;refine rH ?_;refine W.fb [(5,.box 17 ej 0)] [(17,.box ej [.ai (.slice bJ ro e'),.bj,u 0]),(203,.row (.slice bJ ro e') ((hG ck).map cH) 16 296)] [(17,17),(203,203)] (by exact⟨ar,rfl,bc⟩) ?_;(conv=>whnf);refine W.fb [(5,.box 210 ej 0)] [(210,.box ej [.ai (.slice bJ ro e'),.bj,u 0]),(203,.row (.slice bJ ro e') ((hG ck).map cH) 16 296)] [(210,17),(203,203)] (by exact⟨⟨aq.box,ak⟩,rfl,bc⟩) ?_;refine W.tP 211 5 358 ?_;refine W.jj 210 (dv:=[.ai (.slice bJ ro e'),.Q (.own 211 (.slice none 0 0)) 5 [],u 0]) rfl ⟨E,aq.ve,E,ak⟩ ?_;have QX:∀m∈hG ck,aC m<1000000:=λm hm=>Nat.lt_of_le_of_lt (KH ck m hm) uT;have as2:=KG ck;have Gn:=aae ck;have aoZ:∀x∈(hG ck).map cH,x.cells.length=16:=GV _;generalize hG ck=P at*;refine W.B1 203 rfl (λa4 od ao0 _ _=>?_);(obtain⟨rfl,rfl,rfl⟩:bJ=a4/\ro=(P.map cH).length/\e'=od:=by simpa using ao0);apply nk;refine tV ?_;apply eb;apply eb;apply eb;apply cB;apply eb;refine ic ?_;refine W.fb [(5,.box 210 ej 0),(25,u ((P.map cH).length:Nat)),(26,u 0)] [(210,.box ej [.ai (.slice bJ (P.map cH).length e'),.Q (.own 211 (.slice none 0 0)) 5 [],u 0]),(211,.own (.slice none 0 0) 0 5 358),(203,.row (.slice bJ (P.map cH).length e') (P.map cH) 16 296)] [(210,210),(211,211),(203,203)] (by exact⟨ar,rfl,bc⟩) ?_;apply oG;refine W.ec (α:={i:Nat // i<=P.length}×Value) (λx=>[(5,.box 210 ej 0),(25,u ((P.map cH).length:Nat)),(26,u (x.1.1:Nat))]) (λx=>aaj ej (.slice bJ (P.map cH).length e') x.2 (ot (P.take x.1.1)) (P.map cH)) (λx=>P.length-x.1.1) (⟨0,by omega⟩,.slice none 0 0) [(210,210),(211,211),(203,203)] ⟨ar,rfl,bc⟩ ?_;rintro⟨⟨i,hi⟩,dU⟩;dsimp only at hi⊢;apply b4;apply el;refine aK (decide ((i:Int)<((P.map cH).length:Nat))) rfl ?_ ?_<;>intro hc;(·apply co;(have aI:i<P.length:=by simpa using hc);have hj:=KI QX i atw;have cS:ot (P.take (i+1))=ww (ot (P.take i)) (i:Nat) P[i]:=Dm _ _ aI;have g7:=QX _ (atO aI);(have jE:qt (P.take i)+2+P[i].bO.length<=qt P:=by have h1:=GW (P.take (i+1)) (P.drop (i+1));rw[avb,atM aI,GW]at h1;simp only[qt]at h1;omega);(have h':(P.map cH)[i]?=some (cH P[i]):=by simp[aI]);(have bf:i<(P.map cH).length:=by simpa using aI);have hsz:=lR P[i];have eS:=z8 P[i].J;have iT:=EG P[i].bO;(have fA:∀k∈P[i].J,k.name.length<1000000000:=λk Y=>by obtain⟨j,aa,rfl⟩:=aur.1 Y;have:=EF aa;omega);have p_:=hj.len;have J0:=hj.hY;have l2:=hj.ev;generalize gS:ot (P.take i)=s at*;generalize gk:P[i]=m at*;refine kq ?_;refine no ?_;refine ic ?_;refine W.fb [(5,.box 210 ej 0),(6,u (i:Nat)),(25,u ((P.map cH).length:Nat)),(26,u (i:Nat))] [(210,.box ej [.ai (.slice bJ (P.map cH).length e'),.Q (.own 211 dU) 5 (s.dH.map gG),u s.count]),(211,.own dU s.dH.length 5 358),(203,.row (.slice bJ (P.map cH).length e') (P.map cH) 16 296)] [(210,210),(211,211),(203,203)] (by exact⟨ar,rfl,bc⟩) ?_;refine no ?_;apply eb;apply eb;apply eb;apply cB;apply eb;apply tT;refine af.ey aM 203 rfl rfl rfl rfl rfl rfl rfl atw (av_.2 bf) ?_;apply tT;refine af.jl aM 203 (i:=i) rfl rfl bf rfl rfl rfl atz ?_;apply tT;refine af.n1 aM 203 (i:=i) (j:=0) atC rfl rfl h' ?_;refine ic ?_;intro dL;apply eb;refine eB ?_;refine W.fb [(5,.box 210 ej 0),(6,u (i:Nat)),(7,.box 7 dL 0),(25,u ((P.map cH).length:Nat)),(26,u (i:Nat))] [(210,.box ej [.ai (.slice bJ (P.map cH).length e'),.Q (.own 211 dU) 5 (s.dH.map gG),u s.count]),(211,.own dU s.dH.length 5 358),(203,.row (.slice bJ (P.map cH).length e') (P.map cH) 16 296),(7,.box dL (aE m).cells)] [(210,210),(211,211),(203,203),(7,7)] (by exact⟨ar,rfl,bc⟩) ?_;apply el;refine' eH (α:=Unit) [(210,.box ej [.ai (.slice bJ (P.map cH).length e'),.Q (.own 211 dU) 5 (s.dH.map gG),u s.count]),(211,.own dU s.dH.length 5 358),(7,.box dL (aE m).cells),(203,.row (.slice bJ (P.map cH).length e') (P.map cH) 16 296)] () (λ_=>[_,_,_,_,_,_,_,_,_,_,.ai (hW (.slice bJ (P.map cH).length e') (((i:Nat):Int).toNat*16)),.ai (hW (.slice bJ (P.map cH).length e') (((i:Nat):Int).toNat*16+15)),.any]) (λ_=>[(12,203,some (.row (.slice bJ (P.map cH).length e') ((P.map cH).set i (D.agg [.O m.name,u m.kind,.O m.dW,.O m.target,u m.cN,u m.n2,u m.n3,u m.n4,u m.n5,u m.n6,.Q .none 12 (m.J.map enc),.Q .none 2 (m.bO.map c4),.any,.any,.any,u ((s.dH.map gG).length:Nat)])) 16 296))]) [0,1,3,7,0,0,32,96,224,480,1023,2047,4095] [(12,203)] ?_ ?_;rotate_left 10;refine dw ?_;refine bS (λ_=>af.ey aM 203 rfl rfl rfl rfl rfl rfl rfl atw (av_.2 bf) (dh ())) ?_;refine bS (λ_=>af.jl aM 203 (i:=i) rfl rfl bf rfl rfl rfl atz (dh ())) ?_;refine bS (λ_=>af.vj aM 203 (i:=i) (j:=15) atC rfl rfl rfl h' atz rfl (dh ())) ?_;exact trivial;intro _;(conv=>whnf);refine W.fb [(5,.box 210 ej 0),(6,u (i:Nat)),(7,.box 7 dL 0),(25,u ((P.map cH).length:Nat)),(26,u (i:Nat))] [(210,.box ej [.ai (.slice bJ (P.map cH).length e'),.Q (.own 211 dU) 5 (s.dH.map gG),u s.count]),(211,.own dU s.dH.length 5 358),(7,.box dL (aE m).cells),(203,.row (.slice bJ (P.map cH).length e') ((P.map cH).set i (D.agg [.O m.name,u m.kind,.O m.dW,.O m.target,u m.cN,u m.n2,u m.n3,u m.n4,u m.n5,u m.n6,.Q .none 12 (m.J.map enc),.Q .none 2 (m.bO.map c4),.any,.any,.any,u ((s.dH.map gG).length:Nat)])) 16 296)] [(210,210),(211,211),(7,7),(203,203)] ⟨cO,rfl,cO⟩ ?_;(conv=>whnf);refine W.vk 203 (a':=P.map cH) rfl aty aoZ (by(have e:P.map cH=(P.map cH).set i (cH m):=by apply au4;intro j;by_cases h:i=j;subst h;rw[h',av6 bf];rw[aw9 h]);(conv=>rhs;rw[e]);exact dN.b2 aty λj x y F hy=>by by_cases aa:i=j;subst aa;rw[av6 bf]at F hy;cases F;cases hy;exact⟨E,E,E,E,E,E,E,E,E,E,E,E,.any _,.any _,.any _,.any _,ak⟩;rw[aw9 aa]at F hy;rw[F]at hy;cases hy;exact dN.refl _) ?_;refine no ?_;(conv=>whnf);refine W.fb [(5,.box 210 ej 0),(6,u (i:Nat)),(7,.box 7 dL 0),(8,u 0),(25,u ((P.map cH).length:Nat)),(26,u (i:Nat))] [(210,.box ej [.ai (.slice bJ (P.map cH).length e'),.Q (.own 211 dU) 5 (s.dH.map gG),u s.count]),(211,.own dU s.dH.length 5 358),(203,.row (.slice bJ (P.map cH).length e') (P.map cH) 16 296),(7,.box dL (aE m).cells)] [(210,210),(211,211),(203,203),(7,7)] (by exact⟨ar,rfl,bc⟩) ?_;(conv=>whnf);refine W.lI (α:=Unit) (λx=>[(5,.box 210 ej 0),(6,u (i:Nat)),(7,.box 7 dL 0),(25,u ((P.map cH).length:Nat)),(26,u (i:Nat)),(8,u (hI m))]) (λx=>[(210,.box ej [.ai (.slice bJ (P.map cH).length e'),.Q (.own 211 dU) 5 (s.dH.map gG),u s.count]),(211,.own dU s.dH.length 5 358),(203,.row (.slice bJ (P.map cH).length e') (P.map cH) 16 296),(7,.box dL (aE m).cells)]) ?_ ?_;refine no ?_;apply eb;apply cB;refine ic ?_;refine W.fb [(5,.box 210 ej 0),(6,u (i:Nat)),(7,.box 7 dL 0),(8,u 0),(25,u ((P.map cH).length:Nat)),(26,u (i:Nat)),(51,.bool ((m.kind:Int)!=(1:Int)))] [(210,.box ej [.ai (.slice bJ (P.map cH).length e'),.Q (.own 211 dU) 5 (s.dH.map gG),u s.count]),(211,.own dU s.dH.length 5 358),(203,.row (.slice bJ (P.map cH).length e') (P.map cH) 16 296),(7,.box dL (aE m).cells)] [(210,210),(211,211),(203,203),(7,7)] (by exact⟨ar,rfl,bc⟩) ?_;refine aK (m.kind !=1) rfl ?_ ?_<;>intro bu;refine tV ?_;apply cB;refine ic ?_;refine⟨[aE m],_,λ_=>aoN a1 m atw atw fA,ar,?_⟩;refine ic ?_;exact⟨(),[(210,210),(211,211),(203,203),(7,7)],⟨E,E,E,E,E,aq.of_eq (atJ (D.int .i64) (by rw[hI,atH (by simpa using bu)])),ak⟩,rfl,bc⟩;refine fg ?_;exact⟨(),[(210,210),(211,211),(203,203),(7,7)],⟨E,E,E,E,E,aq.of_eq (atJ (D.int .i64) (by rw[hI,atI (by simpa using bu)])),ak⟩,rfl,bc⟩;rintro⟨⟩;have Fu:=aai m g7;have gB:=hj.put (a:=0) (b:=(i:Nat)) (c:=0) Fu.1 Fu.2;have ko:=gB.len;have nt:=gB.hY;have UF:=gB.ev;refine no ?_;apply eb;apply eb;apply tT;refine af.call rfl [.box 210 ej 0,u 0,u (i:Nat),u 0,u (hI m)] [(210,210),(211,211)] (c5.wZ (by exact⟨rfl,bc⟩) (QR ej (.slice bJ (P.map cH).length e') dU s 0 (i:Nat) 0 (hI m) Fu.1 Fu.2 atw atw atw)) rfl ar ?_;rintro d aP ⟨rfl,Do,rfl⟩;refine rH ?_;refine W.fb [(5,.box 210 ej 0),(6,u (i:Nat)),(7,.box 7 dL 0),(25,u ((P.map cH).length:Nat)),(26,u (i:Nat))] [(210,.box ej [.ai (.slice bJ (P.map cH).length e'),.Q (.own 211 Do) 5 ((eZ s 0 (i:Nat) 0 (hI m)).dH.map gG),u (eZ s 0 (i:Nat) 0 (hI m)).count]),(211,.own Do (eZ s 0 (i:Nat) 0 (hI m)).dH.length 5 358),(203,.row (.slice bJ (P.map cH).length e') (P.map cH) 16 296),(7,.box dL (aE m).cells)] [(210,210),(211,211),(203,203),(7,7)] (by exact⟨ar,rfl,bc⟩) ?_;refine no ?_;apply eb;apply cB;apply eb;refine ic ?_;refine W.fb [(5,.box 210 ej 0),(6,u (i:Nat)),(7,.box 7 dL 0),(25,u ((P.map cH).length:Nat)),(26,u (i:Nat)),(61,.bool (decide ((0:Int)<(((m.bO.map c4).length:Nat):Int))))] [(210,.box ej [.ai (.slice bJ (P.map cH).length e'),.Q (.own 211 Do) 5 ((eZ s 0 (i:Nat) 0 (hI m)).dH.map gG),u (eZ s 0 (i:Nat) 0 (hI m)).count]),(211,.own Do (eZ s 0 (i:Nat) 0 (hI m)).dH.length 5 358),(203,.row (.slice bJ (P.map cH).length e') (P.map cH) 16 296),(7,.box dL (aE m).cells)] [(210,210),(211,211),(203,203),(7,7)] (by exact⟨ar,rfl,bc⟩) ?_;refine aK (decide ((0:Int)<((m.bO.map c4).length:Nat))) rfl ?_ ?_<;>intro dK;have j4:=gB.put (a:=1) (b:=(i:Nat)) (c:=0) (d:=0) atz atz;have r_:=QV j4 (i:Nat) (QW g7);have kW:ww s (i:Nat) m=rp (i:Nat) (eZ (eZ s 0 (i:Nat) 0 (hI m)) 1 (i:Nat) 0 0) m.bO:=atI (by simpa using dK);refine no ?_;apply eb;apply tT;refine af.call rfl [.box 210 ej 0,u 1,u (i:Nat),u 0,u 0] [(210,210),(211,211)] (c5.wZ (by exact⟨rfl,bc⟩) (QR ej (.slice bJ (P.map cH).length e') Do (eZ s 0 (i:Nat) 0 (hI m)) 1 (i:Nat) 0 0 atz atz atw atw atw)) rfl ar ?_;rintro d aP ⟨rfl,GX,rfl⟩;refine rH ?_;refine W.fb [(5,.box 210 ej 0),(6,u (i:Nat)),(7,.box 7 dL 0),(25,u ((P.map cH).length:Nat)),(26,u (i:Nat))] [(210,.box ej [.ai (.slice bJ (P.map cH).length e'),.Q (.own 211 GX) 5 ((eZ (eZ s 0 (i:Nat) 0 (hI m)) 1 (i:Nat) 0 0).dH.map gG),u (eZ (eZ s 0 (i:Nat) 0 (hI m)) 1 (i:Nat) 0 0).count]),(211,.own GX (eZ (eZ s 0 (i:Nat) 0 (hI m)) 1 (i:Nat) 0 0).dH.length 5 358),(203,.row (.slice bJ (P.map cH).length e') (P.map cH) 16 296),(7,.box dL (aE m).cells)] [(210,210),(211,211),(203,203),(7,7)] (by exact⟨ar,rfl,bc⟩) ?_;refine no ?_;apply eb;apply cB;apply eb;refine ic ?_;refine W.fb [(5,.box 210 ej 0),(6,u (i:Nat)),(25,u ((P.map cH).length:Nat)),(26,u (i:Nat)),(66,.Q .none 2 (m.bO.map c4)),(67,u ((m.bO.map c4).length:Nat)),(68,u 0)] [(210,.box ej [.ai (.slice bJ (P.map cH).length e'),.Q (.own 211 GX) 5 ((eZ (eZ s 0 (i:Nat) 0 (hI m)) 1 (i:Nat) 0 0).dH.map gG),u (eZ (eZ s 0 (i:Nat) 0 (hI m)) 1 (i:Nat) 0 0).count]),(211,.own GX (eZ (eZ s 0 (i:Nat) 0 (hI m)) 1 (i:Nat) 0 0).dH.length 5 358),(203,.row (.slice bJ (P.map cH).length e') (P.map cH) 16 296),(7,.box dL (aE m).cells)] [(210,210),(211,211),(203,203),(7,7)] (by exact⟨ar,rfl,bc⟩) ?_;apply oG;refine W.ec (α:={k:Nat // k<=m.bO.length}×Value) (λx=>[(5,.box 210 ej 0),(6,u (i:Nat)),(25,u ((P.map cH).length:Nat)),(26,u (i:Nat)),(66,.Q .none 2 (m.bO.map c4)),(67,u ((m.bO.map c4).length:Nat)),(68,u (x.1.1:Nat))]) (λx=>aaj ej (.slice bJ (P.map cH).length e') x.2 (rp (i:Nat) (eZ (eZ s 0 (i:Nat) 0 (hI m)) 1 (i:Nat) 0 0) (m.bO.take x.1.1)) (P.map cH)) (λx=>m.bO.length-x.1.1) (⟨0,by omega⟩,GX) [(210,210),(211,211),(203,203)] ⟨ar,rfl,bc⟩ ?_;rintro⟨⟨k,Y⟩,KJ⟩;dsimp only at Y⊢;apply b4;apply el;refine aK (decide ((k:Int)<((m.bO.map c4).length:Nat))) rfl ?_ ?_<;>intro mo;apply co;(have iA:k<m.bO.length:=by simpa using mo);have QY:=r_ k Y;have o_:rp (i:Nat) (eZ (eZ s 0 (i:Nat) 0 (hI m)) 1 (i:Nat) 0 0) (m.bO.take (k+1))=_:=Dm _ _ iA;have AD:=QW g7 _ (atO iA);(have zi:(m.bO.map c4)[k]?=some (c4 m.bO[k]):=by simp[iA]);have V6:=QY.len;have as3:=QY.hY;have as4:=QY.ev;generalize hT:rp (i:Nat) (eZ (eZ s 0 (i:Nat) 0 (hI m)) 1 (i:Nat) 0 0) (m.bO.take k)=t at*;change _=eZ (rp (i:Nat) (eZ (eZ s 0 (i:Nat) 0 (hI m)) 1 (i:Nat) 0 0) (m.bO.take k)) 2 (i:Nat) (k:Nat) (m.bO[k].target.length:Nat)at o_;rw[hT]at o_;generalize m.bO[k]=mZ at*;refine kq ?_;refine no ?_;refine ic ?_;refine⟨λ_=>by rw[atL];omega,?_⟩;refine ic ?_;refine⟨c4 mZ,λ_=>zi,?_⟩;refine ic ?_;intro jR;apply eb;apply eb;refine eB ?_;refine W.fb [(5,.box 210 ej 0),(6,u (i:Nat)),(25,u ((P.map cH).length:Nat)),(26,u (i:Nat)),(66,.Q .none 2 (m.bO.map c4)),(67,u ((m.bO.map c4).length:Nat)),(68,u (k:Nat)),(9,u (k:Nat)),(10,.box 10 jR 0)] [(210,.box ej [.ai (.slice bJ (P.map cH).length e'),.Q (.own 211 KJ) 5 (t.dH.map gG),u t.count]),(211,.own KJ t.dH.length 5 358),(203,.row (.slice bJ (P.map cH).length e') (P.map cH) 16 296),(10,.box jR (c4 mZ).cells)] [(210,210),(211,211),(203,203),(10,10)] (by exact⟨ar,rfl,bc⟩) ?_;(conv=>whnf);refine tV ?_;apply eb;apply eb;apply eb;apply eb;apply cB;apply eb;apply tT;refine af.call rfl [.box 210 ej 0,u 2,u (i:Nat),u (k:Nat),u (mZ.target.length:Nat)] [(210,210),(211,211)] (c5.wZ (by exact⟨rfl,bc⟩) (QR ej (.slice bJ (P.map cH).length e') KJ t 2 (i:Nat) (k:Nat) (mZ.target.length:Nat) atw AD atw atw atw)) rfl ar ?_;rintro d aP ⟨rfl,QZ,rfl⟩;refine rH ?_;refine W.fb [(5,.box 210 ej 0),(6,u (i:Nat)),(25,u ((P.map cH).length:Nat)),(26,u (i:Nat)),(66,.Q .none 2 (m.bO.map c4)),(67,u ((m.bO.map c4).length:Nat)),(68,u (k:Nat))] [(210,.box ej [.ai (.slice bJ (P.map cH).length e'),.Q (.own 211 QZ) 5 ((eZ t 2 (i:Nat) (k:Nat) (mZ.target.length:Nat)).dH.map gG),u (eZ t 2 (i:Nat) (k:Nat) (mZ.target.length:Nat)).count]),(211,.own QZ (eZ t 2 (i:Nat) (k:Nat) (mZ.target.length:Nat)).dH.length 5 358),(203,.row (.slice bJ (P.map cH).length e') (P.map cH) 16 296),(10,.box jR (c4 mZ).cells)] [(210,210),(211,211),(203,203),(10,10)] (by exact⟨ar,rfl,bc⟩) ?_;refine nl ?_;exact⟨(⟨k+1,iA⟩,QZ),[(210,210),(211,211),(203,203)],by show m.bO.length-(k+1)<m.bO.length-k;omega,ar,rfl,rfl,(by rw[o_];rfl),rfl,(by rw[o_];rfl),rfl,bc⟩;refine W.exit ?_;(have fA:k=m.bO.length:=by simp at mo;omega);subst fA;rw[atX];refine nl ?_;exact⟨(⟨i+1,aI⟩,KJ),[(210,210),(211,211),(203,203)],ayr,ar,rfl,rfl,(by rw[cS,kW];rfl),rfl,(by rw[cS,kW];rfl),rfl,bc⟩;apply co;have kW:ww s (i:Nat) m=eZ s 0 (i:Nat) 0 (hI m):=atH (by simpa using dK);refine nl ?_;exact⟨(⟨i+1,aI⟩,Do),[(210,210),(211,211),(203,203)],ayr,ar,rfl,rfl,(by rw[cS,kW];rfl),rfl,(by rw[cS,kW];rfl),rfl,bc⟩);(have ci:i=P.length:=by simp at hc;omega);subst ci;rw[atX];refine sH ?_;refine W.gQ [(2,.box 210 ej 0)] (pE ej (.slice bJ (P.map cH).length e') dU (ot P)) [(210,210),(211,211)] ⟨ar,rfl,bc⟩ ?_;(conv=>whnf);exact⟨_,E,ej,_,dU,rfl,rfl⟩
def lB(a b c d:Bool):Nat->Bool
 |0=>a
 |1=>b
 |2=>c
 |3=>d
 |_=>false
def l4(x:List Nat)(p:Nat->Bool):List Nat:=x.filter p++[0,1,2,3].filter λk=>p k&&!x.contains k
def Ba(jL:Nat->D)(l:List Nat):List (D×D):=l.map λk=>(u (k:Nat),jL k)
def uX(jL:Nat->D)(x:List Nat)(a b c d:Bool):List (D×D):=Ba jL (l4 x (lB a b c d))
theorem Q0{x:List Nat}{p:Nat->Bool}(Y:k<4):k∈l4 x p↔p k=true:=by simp only[l4,aue,auw];constructor;rintro(⟨_,h⟩|⟨_,h⟩);exact h;rw[atN]at h;exact h.1;intro h;by_cases F:k∈x;exact .inl ⟨F,h⟩;refine .inr ⟨?_,by simp[h,F]⟩;simp only[at5,awh,awB];omega
theorem ao1{x:List Nat}{p:Nat->Bool}(h:k∈l4 x p):p k=true:=by simp only[l4,aue,auw,atN]at h;rcases h with⟨_,h⟩|⟨_,h,_⟩<;>exact h
theorem ao2{x:List Nat}{p q:Nat->Bool}(hi:i<4)(G:∀k,q k=(k==i||p k))(It:∀k,p k=true->k<4):l4 (l4 x p++[i]) q=l4 x p++[i]:=by(have h1:(l4 x p++[i]).filter q=l4 x p++[i]:=List.filter_eq_self.2 λk Y=>by rw[G];rcases aue.1 Y with h|h;rw[ao1 h];simp;simp at h;simp[h]);(have A:([0,1,2,3].filter λk=>q k&&!(l4 x p++[i]).contains k)=[]:=awR.2 λk Y=>by(have Az:k<4:=by simp at Y;omega);by_cases kk:k=i;subst kk;simp;intro h;rw[atN,G]at h;(have yU:p k=true:=by simpa[kk]using h.1);have:=(Q0 (x:=x) Az).2 yU;simp[this]at h);(conv=>lhs;rw[l4]);rw[h1,A,auG]
theorem ao3{jL:Nat->D}{l:List Nat}(h:i∉l):jm (Ba jL l) (u (i:Nat))=none:=by rw[jm,av5,avj];intro e ao;obtain⟨k,Y,rfl⟩:=aub.1 ao;have:k≠i:=λe=>h (e ▸ Y);simp only[oK];simp;omega
theorem aak{jL:Nat->D}{i:Nat}:∀{l:List Nat},i∈l->jm (Ba jL l) (u (i:Nat))=some (jL i)
 |k::r,h=>by by_cases Y:k=i;subst Y;simp[jm,Ba,oK];(have ae:i∈r:=by simpa[show¬i=k from λe=>Y e.symm]using h);have aZ:=aak (jL:=jL) ae;rw[jm]at aZ⊢;have e:Ba jL (k::r)=(u (k:Nat),jL k)::Ba jL r:=rfl;rw[e,avQ];(have a7:oK (u (k:Nat)) (u (i:Nat))=false:=by simp only[oK];simp;omega);rw[a7];exact aZ
theorem ao4{a b c d:Bool}(h:lB a b c d k=true):k<4:=by rcases at3 k 4 with aG|aG;exact aG;obtain⟨j,rfl⟩:∃j,k=j+4:=⟨k-4,by omega⟩;cases h
theorem KK(jL:Nat->D)(x:List Nat){a b c d bw eo vb d':Bool}(i:Nat)(hi:i<4)(h0:lB a b c d i=false)(G:∀k,lB bw eo vb d' k=(k==i||lB a b c d k)): ml (uX jL x a b c d) (u (i:Nat)) (jL i)=uX jL (l4 x (lB a b c d)++[i]) bw eo vb d':=by(have h1:i∉l4 x (lB a b c d):=λh=>by rw[Q0 hi]at h;rw[h0]at h;cases h);rw[ml,uX,ao3 h1,uX,ao2 hi G λk Y=>ao4 Y];simp[Ba]
theorem GY(jL:Nat->D)(x:List Nat)(a b c d:Bool):∀e∈uX jL x a b c d,mX (.int .i64) e.1=true:=λe ao=>by
 obtain⟨k,_,rfl⟩:=aub.1 ao;rfl
theorem ao5(jL:Nat->D)(x:List Nat)(kind:Int)(h0:0<=kind)(Z:kind<=3):jm (uX jL x true true true true) (u kind)=some (jL kind.toNat):=by(have e:kind=((kind.toNat:Nat):Int):=by omega);(conv=>lhs;rw[e]);refine aak ((Q0 atw).2 ?_);(have:kind.toNat<4:=by omega);match kind.toNat,this with|0,_=>rfl|1,_=>rfl|2,_=>rfl|3,_=>rfl
theorem ao6(b c d:Bool):∀k,lB true b c d k=(k==0||lB false b c d k)
 |0=>rfl
 |1=>rfl
 |2=>rfl
 |3=>rfl
 |k+4=>rfl
theorem ao7(a c d:Bool):∀k,lB a true c d k=(k==1||lB a false c d k)
 |0=>rfl
 |1=>rfl
 |2=>rfl
 |3=>rfl
 |k+4=>rfl
theorem ao8(a b d:Bool):∀k,lB a b true d k=(k==2||lB a b false d k)
 |0=>rfl
 |1=>rfl
 |2=>rfl
 |3=>rfl
 |k+4=>rfl
theorem ao9(a b c:Bool):∀k,lB a b c true k=(k==3||lB a b c false k)
 |0=>rfl
 |1=>rfl
 |2=>rfl
 |3=>rfl
 |k+4=>rfl
def wx(s:k2):Int:=kT (152+4*(1+((s.dH.map gG).length:Nat)))
def uY(s:k2):Int:=yC (1+s.count)
def tv(s:k2):Nat->Int
 |0=>1+s.count
 |1=>1+s.count+wx s
 |2=>3+s.count
 |_=>4+2*uY s
def wy(s:k2)(k:Nat):D:=u (tv s k)
theorem ao_(n:Int):0<=yC n/\yC n<=5000:=by unfold yC;split;omega;rename_i h;(have:0<=n/\n<=4096:=by revert h;cases h:decide (n<0)<;>simp at h⊢<;>omega);rw[at6 atw];omega
theorem ao'{s:k2}(h:s.dH.length<100000000):0<=wx s/\wx s<1000000000:=QQ atw (by rw[atL];omega)
theorem apa(ct:Nat)(dy dU:Value)(s:k2)(al:s.dH.length<100000000):c1 B 212 [.box 210 ct 0] (aL (pE ct dy dU s)) λd aP=>d=u (wx s)/\aP=aL (pE ct dy dU s):=by refine jJ Tryz.func212 Tryz.ntmps212 λU=>?_;apply b4;apply el;have gs:(s.dH.map gG).length=s.dH.length:=atL ..;apply kp;apply cB;refine g5 ?_;refine vi ?_;refine⟨[u (152+4*(1+((s.dH.map gG).length:Nat)))],_,λ_=>U7 _ atw atw,ar,?_⟩;(conv=>whnf);refine W.gQ [(2,u (wx s))] (pE ct dy dU s) [(210,210),(211,211)] ⟨ar,rfl,bc⟩ ?_;exact ayB
theorem apb(ct:Nat)(dy dU:Value)(s:k2)(h0:0<=s.count)(h1:s.count<1000000000000000000):c1 B 213 [.box 210 ct 0] (aL (pE ct dy dU s)) λd aP=>d=u (uY s)/\aP=aL (pE ct dy dU s):=by refine jJ Tryz.func213 Tryz.ntmps213 λU=>?_;apply b4;refine iX ?_;refine k6 ?_;refine⟨[u (1+s.count)],_,λ_=>afJ (1+s.count),ar,?_⟩;(conv=>whnf);refine W.gQ [(2,u (uY s))] (pE ct dy dU s) [(210,210),(211,211)] ⟨ar,rfl,bc⟩ ?_;exact ayB
theorem apc(ct:Nat)(dy dU:Value)(s:k2)(kind:Int)(jO:0<=kind)(MG:kind<=3)(al:s.dH.length<100000000)(h0:0<=s.count)(h1:s.count<1000000000000000000):c1 B 141 [.box 210 ct 0,u kind] (aL (pE ct dy dU s)) λd aP=>d=u (tv s kind.toNat)/\aP=aL (pE ct dy dU s):=by refine jJ Tryz.func141 Tryz.ntmps141 λU=>?_;refine cl ?_;have as5:=ao' al;have zA:=ao_ (1+s.count);apply el;refine W.Sx aM mixed (α:=Nat×List Nat) (λy f=>[(0,.box 210 ct 0),(1,u kind),(5,bif f 0 then .ai (.map (some y.1))else .any),(6,bif f 1 then .box 210 ct 0 else .any),(7,bif f 2 then .box 210 ct 0 else .any),(8,bif f 3 then .box 210 ct 2 else .any),(9,bif f 4 then u s.count else .any),(10,bif f 5 then u (1+s.count)else .any),(11,bif f 7 then .box 210 ct 0 else .any),(12,bif f 8 then .box 210 ct 0 else .any),(13,bif f 9 then .box 210 ct 2 else .any),(14,bif f 10 then u s.count else .any),(15,bif f 11 then u (1+s.count)else .any),(16,bif f 12 then .box 210 ct 0 else .any),(17,bif f 13 then u (wx s)else .any),(18,bif f 14 then u (1+s.count+wx s)else .any),(19,bif f 16 then .box 210 ct 0 else .any),(20,bif f 17 then .box 210 ct 0 else .any),(21,bif f 18 then .box 210 ct 2 else .any),(22,bif f 19 then u s.count else .any),(23,bif f 20 then u (3+s.count)else .any),(24,bif f 22 then .box 210 ct 0 else .any),(25,bif f 23 then u (uY s)else .any),(26,bif f 24 then u (2*uY s)else .any),(27,bif f 25 then u (4+2*uY s)else .any),(28,bif f 27 then .ai (.map (some y.1))else .any),(29,bif f 28 then u kind else .any),(30,bif f 29 then u (tv s kind.toNat)else .any),(4,bif f 30 then u (tv s kind.toNat)else u 0)]) (λy f=>aL ([(210,.box ct [.ai dy,.Q (.own 211 dU) 5 (s.dH.map gG),u s.count]),(211,.own dU s.dH.length 5 358)]++(bif f 0 then[(5,.mp y.1 (uX (wy s) y.2 (f 6) (f 15) (f 21) (f 26)))]else[]))) atA (0,[]) ?_ ?_ ?_ ?_;exact⟨E,E,.any _,.any _,.any _,.any _,.any _,.any _,.any _,.any _,.any _,.any _,.any _,.any _,.any _,.any _,.any _,.any _,.any _,.any _,.any _,.any _,.any _,.any _,.any _,.any _,.any _,.any _,E,ak⟩;exact nr.u5 (hs:=[(210,.box ct [.ai dy,.Q (.own 211 dU) 5 (s.dH.map gG),u s.count]),(211,.own dU s.dH.length 5 358)]) ⟨rfl,bc⟩;refine go ?_;refine⟨λy f bi=>?_,?_⟩;obtain⟨f,rfl⟩:= bi.o f 6 0;obtain⟨f,rfl⟩:= bi.o f 15 0;obtain⟨f,rfl⟩:= bi.o f 21 0;obtain⟨f,rfl⟩:= bi.o f 26 0;obtain⟨f,rfl⟩:= bi.o f 27 0;apply p0;refine af.sQ (λaal=>?_);refine go ?_;exact fY (aal,[]) (nr.u5 (hs:=[(210,.box ct [.ai dy,.Q (.own 211 dU) 5 (s.dH.map gG),u s.count]),(211,.own dU s.dH.length 5 358),(5,.mp aal [])]) (by exact⟨rfl,bc⟩));refine⟨λy f bi=>?_,?_⟩;obtain⟨f,rfl⟩:= bi.o f 6 5 (bi.n 5 4 (bi.n 4 3 (bi.n 3 2 (bi.n 2 1))));obtain⟨f,rfl⟩:= bi.o f 27 1;refine k8 ?_;exact fY y;refine⟨λy f bi=>?_,?_⟩;obtain⟨f,rfl⟩:= bi.o f 6 5 (bi.n 5 4 (bi.n 4 3 (bi.n 3 2)));obtain⟨f,rfl⟩:= bi.o f 27 2;refine k8 ?_;exact fY y;refine⟨λy f bi=>?_,?_⟩;obtain⟨f,rfl⟩:= bi.o f 6 5 (bi.n 5 4 (bi.n 4 3));obtain⟨f,rfl⟩:= bi.o f 27 3;refine k8 ?_;exact fY y;refine⟨λy f bi=>?_,?_⟩;obtain⟨f,rfl⟩:= bi.o f 6 5 (bi.n 5 4);obtain⟨f,rfl⟩:= bi.o f 27 4;refine k8 ?_;exact fY y;refine⟨λy f bi=>?_,?_⟩;obtain⟨f,rfl⟩:= bi.o f 6 5;obtain⟨f,rfl⟩:= bi.o f 27 5;refine k8 ?_;exact fY y;refine⟨λy f bi=>?_,?_⟩;obtain⟨f,rfl⟩:= bi.o f 27 6;apply p0;refine af.Ew (af.yl 5 (dS:=3) (dZ:=3) rfl rfl rfl rfl rfl rfl (GY _ _ _ _ _ _) ?_);refine go ?_;exact fY (y.1,l4 y.2 (lB false (f 15) (f 21) (f 26))++[0]) (nr.u5 (hs:=[(210,.box ct [.ai dy,.Q (.own 211 dU) 5 (s.dH.map gG),u s.count]),(211,.own dU s.dH.length 5 358),(5,.mp y.1 (uX (wy s) (l4 y.2 (lB false (f 15) (f 21) (f 26))++[0]) true (f 15) (f 21) (f 26)))]) (by exact⟨rfl,rfl,atJ (λV=>some (aJ.mp y.1 V)) (KK (wy s) y.2 0 atz rfl (ao6 (f 15) (f 21) (f 26))),ak⟩));refine⟨λy f bi=>?_,?_⟩;obtain⟨f,rfl⟩:= bi.o f 15 14 (bi.n 14 11 (bi.n 11 10 (bi.n 10 9 (bi.n 9 8 (bi.n 8 7)))));obtain⟨f,rfl⟩:= bi.o f 27 7;refine k8 ?_;exact fY y;refine⟨λy f bi=>?_,?_⟩;obtain⟨f,rfl⟩:= bi.o f 15 14 (bi.n 14 11 (bi.n 11 10 (bi.n 10 9 (bi.n 9 8))));obtain⟨f,rfl⟩:= bi.o f 27 8;refine k8 ?_;exact fY y;refine⟨λy f bi=>?_,?_⟩;obtain⟨f,rfl⟩:= bi.o f 15 14 (bi.n 14 11 (bi.n 11 10 (bi.n 10 9)));obtain⟨f,rfl⟩:= bi.o f 27 9;refine k8 ?_;exact fY y;refine⟨λy f bi=>?_,?_⟩;obtain⟨f,rfl⟩:= bi.o f 15 14 (bi.n 14 11 (bi.n 11 10));obtain⟨f,rfl⟩:= bi.o f 27 10;refine k8 ?_;exact fY y;refine⟨λy f bi=>?_,?_⟩;obtain⟨f,rfl⟩:= bi.o f 15 14 (bi.n 14 11);obtain⟨f,rfl⟩:= bi.o f 27 11;refine k8 ?_;exact fY y;refine⟨λy f bi=>?_,?_⟩;obtain⟨f,rfl⟩:= bi.o f 15 14 (bi.n 14 13 (bi.n 13 12));obtain⟨f,rfl⟩:= bi.o f 26 25 (bi.n 25 24 (bi.n 24 23 (bi.n 23 13 (bi.n 13 12))));obtain⟨f,rfl⟩:= bi.o f 27 12;refine k8 ?_;exact fY y;refine⟨λy f bi=>?_,?_⟩;obtain⟨f,rfl⟩:= bi.o f 15 14 (bi.n 14 13);obtain⟨f,rfl⟩:= bi.o f 26 25 (bi.n 25 24 (bi.n 24 23 (bi.n 23 13)));obtain⟨f,rfl⟩:= bi.o f 27 13;apply p0;refine af.BU rfl [.box 210 ct 0] [(210,210),(211,211)] (hs:=pE ct dy dU s) (by exact⟨rfl,bc⟩) (apa ct dy dU s al) rfl ar E ?_;refine go ?_;exact fY y;refine⟨λy f bi=>?_,?_⟩;obtain⟨f,rfl⟩:= bi.o f 15 14;obtain⟨f,rfl⟩:= bi.o f 27 14;refine k8 ?_;exact fY y;refine⟨λy f bi=>?_,?_⟩;obtain⟨f,rfl⟩:= bi.o f 27 15;apply p0;refine af.Ew (af.yl 5 (dS:=3) (dZ:=3) rfl rfl rfl rfl rfl rfl (GY _ _ _ _ _ _) ?_);refine go ?_;exact fY (y.1,l4 y.2 (lB (f 6) false (f 21) (f 26))++[1]) (nr.u5 (hs:=[(210,.box ct [.ai dy,.Q (.own 211 dU) 5 (s.dH.map gG),u s.count]),(211,.own dU s.dH.length 5 358),(5,.mp y.1 (uX (wy s) (l4 y.2 (lB (f 6) false (f 21) (f 26))++[1]) (f 6) true (f 21) (f 26)))]) (by exact⟨rfl,rfl,atJ (λV=>some (aJ.mp y.1 V)) (KK (wy s) y.2 1 atz rfl (ao7 (f 6) (f 21) (f 26))),ak⟩));refine⟨λy f bi=>?_,?_⟩;obtain⟨f,rfl⟩:= bi.o f 21 20 (bi.n 20 19 (bi.n 19 18 (bi.n 18 17 (bi.n 17 16))));obtain⟨f,rfl⟩:= bi.o f 27 16;refine k8 ?_;exact fY y;refine⟨λy f bi=>?_,?_⟩;obtain⟨f,rfl⟩:= bi.o f 21 20 (bi.n 20 19 (bi.n 19 18 (bi.n 18 17)));obtain⟨f,rfl⟩:= bi.o f 27 17;refine k8 ?_;exact fY y;refine⟨λy f bi=>?_,?_⟩;obtain⟨f,rfl⟩:= bi.o f 21 20 (bi.n 20 19 (bi.n 19 18));obtain⟨f,rfl⟩:= bi.o f 27 18;refine k8 ?_;exact fY y;refine⟨λy f bi=>?_,?_⟩;obtain⟨f,rfl⟩:= bi.o f 21 20 (bi.n 20 19);obtain⟨f,rfl⟩:= bi.o f 27 19;refine k8 ?_;exact fY y;refine⟨λy f bi=>?_,?_⟩;obtain⟨f,rfl⟩:= bi.o f 21 20;obtain⟨f,rfl⟩:= bi.o f 27 20;refine k8 ?_;exact fY y;refine⟨λy f bi=>?_,?_⟩;obtain⟨f,rfl⟩:= bi.o f 27 21;apply p0;refine af.Ew (af.yl 5 (dS:=3) (dZ:=3) rfl rfl rfl rfl rfl rfl (GY _ _ _ _ _ _) ?_);refine go ?_;exact fY (y.1,l4 y.2 (lB (f 6) (f 15) false (f 26))++[2]) (nr.u5 (hs:=[(210,.box ct [.ai dy,.Q (.own 211 dU) 5 (s.dH.map gG),u s.count]),(211,.own dU s.dH.length 5 358),(5,.mp y.1 (uX (wy s) (l4 y.2 (lB (f 6) (f 15) false (f 26))++[2]) (f 6) (f 15) true (f 26)))]) (by exact⟨rfl,rfl,atJ (λV=>some (aJ.mp y.1 V)) (KK (wy s) y.2 2 atz rfl (ao8 (f 6) (f 15) (f 26))),ak⟩));refine⟨λy f bi=>?_,?_⟩;obtain⟨f,rfl⟩:= bi.o f 26 25 (bi.n 25 24 (bi.n 24 23 (bi.n 23 22)));obtain⟨f,rfl⟩:= bi.o f 27 22;refine k8 ?_;exact fY y;refine⟨λy f bi=>?_,?_⟩;obtain⟨f,rfl⟩:= bi.o f 26 25 (bi.n 25 24 (bi.n 24 23));obtain⟨f,rfl⟩:= bi.o f 27 23;apply p0;refine af.BU rfl [.box 210 ct 0] [(210,210),(211,211)] (hs:=pE ct dy dU s) (by exact⟨rfl,bc⟩) (apb ct dy dU s h0 h1) rfl ar E ?_;refine go ?_;exact fY y;refine⟨λy f bi=>?_,?_⟩;obtain⟨f,rfl⟩:= bi.o f 26 25 (bi.n 25 24);obtain⟨f,rfl⟩:= bi.o f 27 24;refine k8 ?_;refine .inl ⟨λ_=>by simp only[du];unfold uY;omega,?_⟩;refine go ?_;exact fY y;refine⟨λy f bi=>?_,?_⟩;obtain⟨f,rfl⟩:= bi.o f 26 25;obtain⟨f,rfl⟩:= bi.o f 27 25;refine k8 ?_;refine .inl ⟨λ_=>by simp only[du];unfold uY;omega,?_⟩;refine go ?_;exact fY y;refine⟨λy f bi=>?_,?_⟩;obtain⟨f,rfl⟩:= bi.o f 27 26;apply p0;refine af.Ew (af.yl 5 (dS:=3) (dZ:=3) rfl rfl rfl rfl rfl rfl (GY _ _ _ _ _ _) ?_);refine go ?_;exact fY (y.1,l4 y.2 (lB (f 6) (f 15) (f 21) false)++[3]) (nr.u5 (hs:=[(210,.box ct [.ai dy,.Q (.own 211 dU) 5 (s.dH.map gG),u s.count]),(211,.own dU s.dH.length 5 358),(5,.mp y.1 (uX (wy s) (l4 y.2 (lB (f 6) (f 15) (f 21) false)++[3]) (f 6) (f 15) (f 21) true))]) (by exact⟨rfl,rfl,atJ (λV=>some (aJ.mp y.1 V)) (KK (wy s) y.2 3 atz rfl (ao9 (f 6) (f 15) (f 21))),ak⟩));refine⟨λy f bi=>?_,?_⟩;(conv=>whnf);refine k8 ?_;exact fY y;refine⟨λy f bi=>?_,?_⟩;(conv=>whnf);refine k8 ?_;exact fY y;refine⟨λy f bi=>?_,?_⟩;obtain⟨f,rfl⟩:=Ev f 0 (bi 27 0 rfl rfl);obtain⟨f,rfl⟩:=Ev f 6 (bi 27 6 rfl rfl);obtain⟨f,rfl⟩:=Ev f 15 (bi 27 15 rfl rfl);obtain⟨f,rfl⟩:=Ev f 21 (bi 27 21 rfl rfl);obtain⟨f,rfl⟩:=Ev f 26 (bi 27 26 rfl rfl);apply p0;refine af.H9 5 (dS:=3) (dZ:=3) (k:=u kind) (d:=u (tv s kind.toNat)) rfl rfl rfl rfl rfl rfl (GY _ _ _ _ _ _) (ao5 (wy s) y.2 kind jO MG) ?_;refine go ?_;exact fY y;refine⟨λy f bi=>?_,?_⟩;(conv=>whnf);refine k8 ?_;exact fY y;exact trivial;intro y f M;obtain⟨f,rfl⟩:=ac2 f 31 (by exact M);clear M;(conv=>whnf);refine W.iY [(4,u (tv s kind.toNat))] (aL [(210,.box ct [.ai dy,.Q (.own 211 dU) 5 (s.dH.map gG),u s.count]),(211,.own dU s.dH.length 5 358)]) (.same (by exact ar) (nr.u5 (hs:=[(210,.box ct [.ai dy,.Q (.own 211 dU) 5 (s.dH.map gG),u s.count]),(211,.own dU s.dH.length 5 358)]) (by exact⟨rfl,bc⟩))) ?_;(conv=>whnf);refine W.gQ [(4,u (tv s kind.toNat))] (pE ct dy dU s) [(210,210),(211,211)] ⟨ar,rfl,bc⟩ ?_;exact ayB
def jY(n:ad):ad:=jq (λag=>ag.map ad.name) 3 1 n
def iu(n:ad)(kind:Int):Int×Int:=if(bif !Ay kind then true else !valid n)=true then(0,1)else(tv (ot (hG (jY n))) kind.toNat,0)
theorem apd(a1:db B)(n:ad)(kind:Int)(bC:aC n+n.name.length<10000000)(X:valid n=true->aC n<800000/\aC (jY n)<1000000):aU B 94 [aE n,u kind] (.bp [u (iu n kind).1,u (iu n kind).2]):=by refine bA Tryz.func94 Tryz.ntmps94 λU=>?_;refine go ?_;intro cm;refine go ?_;refine bs (afL kind) ?_;refine bs (Ao a1 n bC) ?_;refine aK (bif !Ay kind then true else !valid n) rfl ?_ ?_<;>intro hc;refine go ?_;rw[iu,atI hc];exact ar;(have lc:Ay kind=true/\valid n=true:=by revert hc;cases Ay kind<;>cases valid n<;>simp);obtain⟨wi,Gy⟩:=X lc.2;(have jO:0<=kind/\kind<=3:=by have:=lc.1;unfold Ay at this;revert this;cases h:decide (0<=kind)<;>simp at h⊢<;>omega);(have Dn:aU B 208 [u 3,aE n] (.bp [aE (jY n),u 0]):=by have h:=ahv a1 (λag=>ag.map ad.name) 3 (λ_=>NS a1 (.inr rfl)) n bC (λ_=>wi);(have e:s' (λag=>ag.map ad.name) 3 n=(jY n,0):=by unfold s';rw[atH atz,atH (by rw[lc.2];decide)];rfl);rw[e]at h;exact h);have hj:=KI (l:=hG (jY n)) (λm hm=>Nat.lt_of_le_of_lt (KH _ m hm) Gy) (hG (jY n)).length (atQ _);rw[atX]at hj;have N3:=KG (jY n);have l2:=hj.len;have y7:=hj.hY;have w3:=hj.ev;refine go ?_;refine .inr (af.call rfl [aE n] [(210,210),(211,211)] (c5.SV (by exact⟨rfl,bc⟩) (aoY a1 n (jY n) Dn Gy)) rfl ar ?_);rintro d aP ⟨ct,dy,dU,rfl,rfl⟩;refine p2 ?_;refine .inr (af.call rfl [.box 210 ct 0,u kind] [(210,210),(211,211)] (c5.wZ (by exact⟨rfl,bc⟩) (apc ct dy dU (ot (hG (jY n))) kind jO.1 jO.2 atw y7 atw)) rfl ar ?_);rintro d aP ⟨rfl,rfl⟩;refine p2 ?_;rw[iu,atH (by rw[hc];decide)];refine go ?_;exact ar
theorem ape:aU B 199 [.Q .none 1 [],u 0,u 0] (.bp []):=by refine fn Tryz.func199 Tryz.ntmps199 λU=>?_;refine go ?_;refine gf (λ_:Unit=>True) [] [] (λ_=>[(6,u 1),(2,u 0)]) (λ_=>[]) (λ_=>0) () trivial [] ?_;rintro⟨⟩ _;refine go ?_;exact trivial
theorem apf:aU B 138 [.Q .none 1 [],u 0,u 0,u 0] (.bp []):=by have apg:=ape (B:=B);refine fn Tryz.func138 Tryz.ntmps138 λU=>?_;refine go ?_;refine gf (λ_:Unit=>True) [0,1,2,3] [] (λ_=>[]) (λ_=>[]) (λ_=>0) () trivial [] ?_;rintro⟨⟩ _;refine go ?_;refine bs apg ?_;exact trivial
theorem aph:aU B 92 [.Q .none 1 []] (.bp []):=by have api:=apf (B:=B);have apj:aU B 81 [.int .u64 0] (u 0):=.pure (jn Tryz.func81 rfl atA) rfl rfl λw _=>Tryz.bits_Len 0 w atz atz;refine fn Tryz.func92 Tryz.ntmps92 λU=>?_;refine go ?_;refine sL (⟨by decide,by decide⟩:du .u64 (([]:List D).length:Int)) ?_;(conv=>whnf);refine go ?_;refine bs apj ?_;refine bs api ?_;exact trivial
theorem apk:aU B 58 [.fn (.func 93) [] [.a_ 1 [.Q .none 1 []] 0 0]] (.Q .none 1 []):=by have apl:=aoB (B:=B) [] atz;have apm:=aph (B:=B);refine fn Tryz.func58 Tryz.ntmps58 λU=>?_;refine go ?_;refine bs apl ?_;refine bs apm ?_;exact E
mutual
theorem aam:∀n:ad,(hG n).length=fC n
 |.mk a b c d e f g h i j ag cC=>by rw[hG,fC,atT,aan ag];omega
theorem aan:∀l:List ad,(gr l).length=eY l
 |[]=>rfl
 |n::r=>by rw[gr,eY,atP,aam n,aan r]
end
mutual
theorem aao:∀(n:ad) (l:Int),1<=l->iJ n l=true->∀m∈hG n,∃iZ,1<=iZ/\one m iZ=0
 |.mk a b c d e f g h i j ag cC,l,al,aW,m,hm=>by
  rw[hG]at hm;rcases at5.1 hm with e|e
  ·subst e;exact⟨l,al,Kq aW⟩
  rw[iJ,atN]at aW;exact aap ag (l+1) atw aW.2 m e
theorem aap:∀(ag:List ad) (l:Int),1<=l->m6 ag l=true->∀m∈gr ag,∃iZ,1<=iZ/\one m iZ=0
 |[],l,_,_,m,hm=>by simp[gr]at hm
 |k::ag,l,al,aW,m,hm=>by
  rw[m6,atN]at aW;rw[gr]at hm;rcases aue.1 hm with e|e
  ·exact aao k l al aW.1 m e
  exact aap ag l al aW.2 m e
end
theorem Q1{n b:Int}(h0:0<=n)(h1:n<=2048*b)(I:0<=b):0<=kT n/\kT n<=b:=by unfold kT;split;omega;unfold j6;rw[at6 atw];omega
theorem aaq{s:k2}(i:Int){l:List np}(al:∀x∈l,x.target.length<300000):∀k,k<=l.length->s.count<=(rp i s (l.take k)).count/\(rp i s (l.take k)).count<=s.count+148*(k:Int)
 |0,_=>by rw[av4];simp[rp,uW]
 |k+1,Y=>by have aZ:=aaq (s:=s) i al k atw;rw[rp,Dm _ _ (show k<l.length by omega)];have e:rp i s (l.take k)=uW (λs k x=>eZ s 2 i k (x.target.length:Nat)) s (l.take k):=rfl;rw[<-e];generalize rp i s (l.take k)=V at*;have:=Q1 (n:=(l[k].target.length:Nat)) (b:=147) atw (by have:=al _ (atO (show k<l.length by omega));omega) atz;simp only[eZ];omega
theorem aar{m:ad}{l:Int}(h:one m l=0):m.J.length<=64/\m.bO.length<=4:=axB
theorem apn{m:ad}{l:Int}(h1:1<=l)(h:one m l=0):0<=hI m/\hI m<=2048*8400:=by have hs:=aar h;have av:=(Kp h1 h).2.2.1;have A:=KB m.target (cQ 47 [] (rn m.target)) (xJ m.target);have Z:=(sW (c:=47) (rn m.target) []).1;have aG:=QN m.target;have bb:=QO m.target;have bC:=KC [] true true;have M:=QP m.J (uk [] true true).1 bC.1;unfold hI zj;split;omega;split;unfold Dl;omega;unfold uV;omega
theorem apo{s:k2}(i:Int){m:ad}{l:Int}(h1:1<=l)(h:one m l=0)(bC:aC m<300000):s.count<=(ww s i m).count/\(ww s i m).count<=s.count+9000:=by have hc:=apn h1 h;have hs:=aar h;have ah:=Q1 hc.1 hc.2 atz;(have LS:kT 0=0:=by unfold kT;rw[atI atz]);unfold ww;split;have:=aaq (s:=eZ (eZ s 0 i 0 (hI m)) 1 i 0 0) i (l:=m.bO) (λx F=>by obtain⟨k,Y,rfl⟩:=aur.1 F;have h1:=H0 Y;have A:=lR m;omega) m.bO.length (atQ _);rw[atX]at this;simp only[eZ,LS]at this⊢;omega;simp only[eZ];omega
theorem aas{l:List ad}(al:∀m∈l,aC m<300000/\∃iZ,1<=iZ/\one m iZ=0):∀k,k<=l.length->0<=(ot (l.take k)).count/\(ot (l.take k)).count<=9000*(k:Int)
 |0,_=>by rw[av4];simp[ot,uW]
 |k+1,Y=>by have aZ:=aas al k atw;rw[ot,Dm _ _ (show k<l.length by omega)];have e:ot (l.take k)=uW ww ⟨[],0⟩ (l.take k):=rfl;rw[<-e];generalize ot (l.take k)=V at*;obtain⟨h1,iZ,A,Z⟩:=al _ (atO (show k<l.length by omega));have:=apo (s:=V) (k:Nat) A Z h1;omega
theorem app(a1:db B){n:ad}(M:qc n 100000=true)(kind:Int):0<=(iu n kind).1/\(iu n kind).1<=500000/\(valid n=true->aC (jY n)<300000):=by(have Dn:jY n=jq (cg 3) 3 1 n:=by unfold jY;rw[F2 (.inr rfl)]);by_cases X:valid n=true;(have hs:aC (jY n)<300000:=by rw[Dn];exact(aib (cg 3) 3 (ah' a1 atz) X M).2);(have ED:valid (jY n)=true:=by rw[Dn];exact ai5 atz X);(have aW:iJ (jY n) 1=true:=by rw[vW,atN]at ED;exact ED.2);(have AY:fC (jY n)<=40:=by have h1:=Ow (λag=>ag.map ad.name) 3 n 1;have A:=(CF M).2;unfold jY;omega);have dg:=aam (jY n);have ht:∀m∈hG (jY n),aC m<300000/\∃iZ,1<=iZ/\one m iZ=0:=λm hm=>⟨by have:=KH (jY n) m hm;omega,aao (jY n) 1 (auN _) aW m hm⟩;have I:=aas ht (hG (jY n)).length (atQ _);have hj:=KI (l:=hG (jY n)) (λm hm=>by have:=(ht m hm).1;omega) (hG (jY n)).length (atQ _);rw[atX]at I hj;have as6:=KG (jY n);have ce:=hj.len;obtain⟨dI,hO⟩:∃dI,ot (hG (jY n))=dI:=⟨_,rfl⟩;rw[hO]at I hj ce;(have as7:0<=wx dI/\wx dI<=1000:=by unfold wx;exact Q1 atw (by rw[atL];omega) atz);(have as8:0<=uY dI/\uY dI<=5000:=by unfold uY yC;split;omega;rename_i hc;(have h1:¬(4096:Int)<1+dI.count:=by intro h;rw[auk (by omega:¬1+dI.count<0),auC h]at hc;exact hc rfl);rw[at6 atw];omega);(have bC:0<=(iu n kind).1/\(iu n kind).1<=500000:=by unfold iu;split;exact⟨by decide,by decide⟩;rw[hO];dsimp only;(have as9:9000*(((hG (jY n)).length:Nat):Int)<=360000:=by rw[dg];omega);generalize kind.toNat=hB;match hB with|0=>simp only[tv];omega|1=>simp only[tv];omega|2=>simp only[tv];omega|k+3=>simp only[tv];omega);exact⟨bC.1,bC.2,λ_=>hs⟩;unfold iu;rw[atI (by cases h:valid n with|true=>exact absurd h X|false=>cases Ay kind<;>rfl)];exact⟨by decide,by decide,λh=>absurd h X⟩
end Go.bR.ck
