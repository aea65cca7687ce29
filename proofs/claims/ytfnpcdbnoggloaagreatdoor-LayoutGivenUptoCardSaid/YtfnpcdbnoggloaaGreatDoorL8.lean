/- Contracts of the program's functions, part 8. No conditions of its own. -/
import Derived.Test.YtfnpcdbnoggloaaGreatDoorL7
import Derived.Ground.GgzProg
import Derived.Shelf.SlLaysZ
import Derived.Shelf.Lay
import Derived.Test.YtfnpcdbnoggloaaGreatDoorShelf
import Derived.Shelf.Sort.Plain
import Derived.Shelf.GgSortFunc.Insertion
set_option linter.unnecessarySimpa false
set_option linter.unusedSimpArgs false
set_option linter.unusedVariables false
set_option maxRecDepth 100000
set_option maxHeartbeats 16000000
namespace Go.bS.cj
open Go Go.Proofs
variable{B:World}
def wi(aS:Nat)(bu:as8)(k:Nat):List eM:=if k=0/\aS≠0 then[⟨[47],bu,2,0,0,false⟩]else[]
def rs(aS:Nat)(s:aT):eM:=if s.si=0 then y0 else s.jB aS
def jh(aS:Nat)(bu:as8)(D:List aT):Nat->List eM
 |0=>[]
 |i+1=>jh aS bu D i++(rs aS (D.getD i default)::wi aS bu i)
theorem amR(aS:Nat)(bu:as8)(k:Nat):(wi aS bu k).length<=1:=by unfold wi;split<;>simp
theorem Qs(aS:Nat)(bu:as8)(k:Nat):(ir aS bu k).length<=1:=by unfold ir;split<;>simp
theorem Zt(aS:Nat)(bu:as8)(D:List aT):∀i,(jh aS bu D i).length<=2*i
 |0=>atg _
 |i+1=>by have:=Zt aS bu D i;have:=amR aS bu i;simp only[jh,atf,ath];omega
theorem Zu{aS:Nat}{bu:as8}{gL:aT}{er:List aT}(h0:gL.si=0)(m5:∀s∈er,s.si≠0):∀m,m<=er.length->jh aS bu (gL::er) (m+1)=y0::(wi aS bu 0++(er.take m).map (aT.jB aS))
 |0,_=>by simp[jh,rs,h0]
 |m+1,hm=>by rw[jh,Zu h0 m5 m asZ];(have h1:(gL::er).getD (m+1) default=er[m]:=by rw[au_,List.getElem?_cons_succ,ata asZ];rfl);(have A:wi aS bu (m+1)=[]:=by rw[wi,as9 asZ]);rw[h1,A,rs,as9 (m5 _ (ate _)),atc asZ,atO];simp only[atL,auh,auw,atG,auT]
def zd(aS:Nat)(T:List aT)(i:Nat):List gu:=if i=0 then(ee T).map (aT.ov aS)else[]
def f4(aS:Nat)(bu:as8)(T:List aT):Nat->List gu
 |0=>[]
 |i+1=>f4 aS bu T i++(ir aS bu i++(mF aS T i++zd aS T i))
theorem Zv(aS:Nat)(T:List aT)(i:Nat):(mF aS T i).length<=T.length:=by rw[Y8];exact atN _ _
theorem amS(aS:Nat)(T:List aT)(i:Nat):(zd aS T i).length<=T.length:=by unfold zd;split;rw[atb];exact atN _ _;simp
theorem Zw(aS:Nat)(bu:as8)(T:List aT):∀i,(f4 aS bu T i).length<=i*(2*T.length+1)
 |0=>by simp[f4]
 |i+1=>by have:=Zw aS bu T i;have:=Zv aS T i;have:=amS aS T i;have:=Qs aS bu i;rw[avj];simp only[f4,atf];omega
variable{aS:Nat}{bu:as8}{i:Nat}
theorem amT{T:List aT}(hi:i<=100)(hT:T.length<=100):(f4 aS bu T i).length<=20100:=by have h:=Zw aS bu T i;have A:i*(2*T.length+1)<=100*201:=Nat.mul_le_mul hi asZ;omega
theorem Zx(aS:Nat)(bu:as8)(T:List aT):∀m,f4 aS bu T (m+1)=ir aS bu 0++mF aS T 0++(ee T).map (aT.ov aS)++((List.range m).flatMap λi=>mF aS T (i+1))
 |0=>by simp[f4,zd]
 |m+1=>by(have h1:ir aS bu (m+1)=[]:=by rw[ir,as9 asZ]);(have A:zd aS T (m+1)=[]:=by rw[zd,as9 asZ]);rw[f4,Zx aS bu T m,h1,A,auO,au1];simp
theorem amU(bu:as8)(T:List aT):f4 (eN T) bu T ((bO T).length+1)=tk bu T:=by rw[Zx,tk,ir];congr 3;by_cases h:eN T=0;rw[as9 asZ,as_ h];rw[as_ ⟨rfl,h⟩,as9 h]
theorem amV(bu:as8){T:List aT}{gL:aT}(h0:gL.si=0)(m5:∀s∈bO T,s.si≠0):jh (eN T) bu (gL::bO T) ((bO T).length+1)=lA bu T:=by rw[Zu h0 m5 _ (atg _),ati,lA,wi];congr 2;by_cases h:eN T=0;rw[as9 asZ,as_ h];rw[as_ ⟨rfl,h⟩,as9 h]
def Kk(L:List aT)(i:Nat)(s:aT):D:=.agg (rq s++[.Q .none 8 (hS L i)])
def iR(L:List aT):List D:=(bO L).mapIdx (Kk L)
theorem GH(L:List aT):(iR L).length=(bO L).length:=by simp[iR]
theorem Zy{L:List aT}{s:aT}(h:(bO L)[i]?=some s):(iR L)[i]?=some (Kk L i s):=by rw[iR,aub,h];rfl
theorem amW{vs:Nat->Value}{L:List aT}:dK (b1 (hk vs L L)) (b1 (iR L)) :=
 dK.b1 (by rw[lF,GH]) λi a b ha F=>by
  rw[hk,aub]at ha;rw[iR,aub]at F
  cases h:(bO L)[i]? with
  |none=>rw[h]at ha;cases ha
  |some y =>
   rw[h]at ha F;cases ha;cases F
   exact⟨E,E,E,E,E,E,aq.mT,ai⟩
theorem amX{L:List aT}:∀y∈iR L,y.cells.length=7:=λy hy=>by
 obtain⟨i,hi⟩:=atz.1 hy;rw[iR,aub]at hi
 cases h:(bO L)[i]? with
 |none=>rw[h]at hi;cases hi
 |some s=>rw[h]at hi;cases hi;rfl
def GI(d:eM):List D:=[.O d.path,.O d.id,u d.bW,u d.cA,u d.CQ,.bool d.jV]
def xH(aS:Nat)(i:Int):Int:=if i<=0 then i else i+aS
theorem Dc(aS i:Nat):xH aS (i:Int)=((h9 aS i:Nat):Int):=by unfold xH h9;split<;>split<;>omega
theorem amY{s:aT}(hs:s.si≠0)(hm:s.mv=true): ([.O s.path,.O (if s.si=0 then[0]else if s.mv then 68::Lib.decDigits s.mno else s.id),u s.lev,u 1,u (xH aS (s.fi:Int)),.bool s.mv]:List D)=GI (rs aS s):=by rw[rs,as9 hs,as9 hs,Dc];simp[GI,aT.jB,hm]
theorem amZ{s:aT}{bm:Bool}{n:aa}(h0:s.si=0->s=cV bm n)(hm:s.mv=false): ([.O s.path,.O (if s.si=0 then[0]else if s.mv then 68::Lib.decDigits s.mno else s.id),u s.lev,u (xH aS (if s.mv then -1 else(s.fi:Int))),u (xH aS (s.fi:Int)),.bool s.mv]:List D)=GI (rs aS s):=by by_cases hs:s.si=0;rw[h0 hs];rfl;rw[rs,as9 hs,as9 hs,hm];simp only[auk,auU];rw[Dc];simp[GI,aT.jB,hm]
variable{cv:bF}{k:Nat}
theorem am0{a:Nat×aI}{L:List (Nat×aI)}(ha:a.1<200)(Y:200<=k):cU (a::L) cv k=cU L cv k:=by obtain⟨i,o⟩:=a;(have h1:Nat.beq k i=false:=axm);unfold cU;simp only[aK,h1,aun]
theorem am1(aW:dc B)(bm:Bool)(n:aa)(ax:eY n)(ic:valid n=true->fH n<99/\aB n<800000):aU B 158 [aE n,.bool bm] (.bo [.Q .none 6 ((mG bm n).1.map gF),.Q .none 7 ((mG bm n).2.1.map fl),u (mG bm n).2.2]):=by refine bA Tryz.func158 Tryz.ntmps158 λU=>?_;refine go ?_;intro cg;refine go ?_;refine bp (Ak aW n (by have:=ax;unfold eY at this;omega)) ?_;refine aJ _ rfl ?_ ?_<;>intro hc;refine go ?_;(have W:¬valid n=true:=by simpa using hc);rw[mG,as9 W];exact⟨aq.nil,aq.nil,E,ai⟩;refine ff ?_;(have W:valid n=true:=by simpa using hc);obtain⟨C1,hsz⟩:=ic W;have Qt:=AB W;obtain⟨xG,jT⟩:=Qe W;have F:=Y6 bm xG jT;have Dd:Gf bm n=cV bm n::fT n (cV bm n) ⟨1,1,0⟩:=rfl;have am2:[cV bm n]++fT n (cV bm n) ⟨1,1,0⟩=Gf bm n:=rfl;have AH:=P_ n (cV bm n) ⟨1,1,0⟩;(have dj:mG bm n=(lA (jg (lz (ce 0 n.J))) (fT n (cV bm n) ⟨1,1,0⟩),tk (jg (lz (ce 0 n.J))) (fT n (cV bm n) ⟨1,1,0⟩),0):=by rw[mG,as_ W]);(have A1:(cV bm n).de=true:=by rw[aT.de,cV,jT];rfl);(have lh:bO [cV bm n]=[cV bm n]:=by rw[bO,aui,as_ A1];rfl);have am3:=λ(dI cF iI:Nat) (vs:Nat->Value)=>Zi (B:=B) aW bm n (aB n+1) n (atX _) Qt xG (cV bm n) ⟨1,1,0⟩ [cV bm n] dI cF iI;rw[dj];obtain⟨gP,_,mz,xe⟩:=(tc n).1 Qt;have GG:∀k∈n.J,dQ k.name=true/\k.name.length<1000000000:=λk Y=>(q_ xe Y).1;have am4:=amh (B:=B) aW n.J gP GG mz;generalize jg (lz (ce 0 n.J))=bu at*;refine nt ?_;refine jq ?_;refine⟨rfl,ai,.inr (af.MG (q:=203) aM rfl rfl rfl rfl rfl rfl ?_)⟩;(conv=>whnf);refine⟨rfl,ai,λQu=>?_⟩;apply d_;refine go ?_;intro dI;apply d_;refine go ?_;intro cF;refine go ?_;intro iI;apply b2;(conv=>whnf);refine c1 ?_;refine X.vi 203 (a':=hk (λ_=>.slice none 0 0) [cV bm n] [cV bm n]) rfl (by rw[lF,lh];rfl) Qi (by rw[hk,lh];exact⟨E,E,E,E,E,E,aq.vc,ai⟩) ?_;refine X.jp 8 (du:=[.Q (.own 204 (.slice none 0 0)) 1 (e8 [cV bm n])]) rfl ⟨aq.vc,ai⟩ ?_;refine X.jp 9 (du:=[xF dI cF iI]) rfl ⟨aq.fn trivial ⟨aq.box,aq.box,aq.box,ai⟩,ai⟩ ?_;refine X.tQ 204 1 3 ?_;refine X.tQ 300 8 310 ?_;refine X.jP [(1,.bool bm),(2,.box 2 cg 0),(7,.box 200 dI 0),(8,.box 201 cF 0),(9,.box 202 iI 0)] (cU [(2,.box cg (yR n)),(200,.box dI [.al (.slice (some ⟨Qu,0,none⟩) 1 1)]),(201,.box cF [.Q (.own 204 (.slice none 0 0)) 1 (e8 [cV bm n])]),(202,.box iI [xF dI cF iI]),(203,.row (.slice (some ⟨Qu,0,none⟩) 1 1) (hk (λ_=>.slice none 0 0) [cV bm n] [cV bm n]) 7 305),(204,.own (.slice none 0 0) (e8 [cV bm n]).length 1 3)] (kK (λ_=>.slice none 0 0) [cV bm n] [cV bm n])) (fM.zb (m:=[(2,2),(200,7),(201,8),(202,9),(203,203),(204,204)]) ⟨E,E,aq.box,aq.box,aq.box,ai⟩ rfl ⟨rfl,bb⟩ rfl (λq o h=>?_)) ?_;obtain⟨j,rfl,ad,rfl⟩:=ts h;rw[lh]at ad;(have:j=0:=by simp at ad;omega);subst this;exact⟨by omega,rfl⟩;refine nt ?_;apply cB;apply d_;apply cB;refine jq ?_;refine⟨rfl,ai,.inr (af.Sw rfl [aE n,u (((cV bm n).di:Nat):Int),u (cV bm n).lv,.bool (cV bm n).iso,.bool (cV bm n).rock,.box 200 dI 0,.box 201 cF 0,.box 202 iI 0] AZ (c7.fG (λq G=>am0 (show(2:Nat)<200 by decide) G) (Zi aW bm n (aB n+1) n (atX _) Qt xG (cV bm n) ⟨1,1,0⟩ [cV bm n] dI cF iI (.slice (some ⟨Qu,0,none⟩) 1 1) (.slice none 0 0) (λ_=>.slice none 0 0) rfl (.y' jT) rfl A1 ⟨rfl,by rw[lh];rfl,rfl⟩ as0 (by show 0+_<_;omega) (by show(1:Int)+_<_;omega))) ar ?_)⟩;rintro d aO ⟨rfl,b4,mv,vs,rfl⟩;refine rO ?_;rw[am2];clear am3;generalize fT n (cV bm n) ⟨1,1,0⟩=T at*;generalize ar1:Gf bm n=L at*;refine X.jP [(2,.box 2 cg 0),(7,.box 200 dI 0),(8,.box 201 cF 0)] (aK [(2,.box cg (yR n)),(200,.box dI [.al b4]),(201,.box cF [.Q (.own 204 mv) 1 (e8 L)]),(203,.row b4 (hk vs L L) 7 305)]) (.same ar (nv.u4 ⟨rfl,bb⟩)) ?_;refine X.vi 203 (a':=iR L) rfl (by rw[lF,GH]) amX amW ?_;refine X.HE 203 200 0 rfl rfl as2 rfl ?_;refine X.jp 201 (du:=[.Q .none 1 (e8 L)]) rfl ⟨aq.mT,ai⟩ ?_;refine X.fb [(2,.box 2 cg 0),(7,.box 7 dI 0),(8,.box 8 cF 0)] [(2,.box cg (yR n)),(7,.box dI [.Q .none 7 (iR L)]),(8,.box cF [.Q .none 1 (e8 L)])] [(2,2),(7,200),(8,201)] ⟨⟨E,aq.box,aq.box,ai⟩,rfl,bb⟩ ?_;obtain⟨aS,hA⟩:∃aS,eN T=aS:=⟨_,rfl⟩;(have GJ:aS<=1:=by rw[<-hA];unfold eN;split<;>omega);(have ajZ:L.length=T.length+1:=by rw[Dd];rfl);have uM:=F.tq.1;(have uQ:bO L=cV bm n::bO T:=by rw[Dd,bO,aui,as_ A1];rfl);(have Kl:ee L=ee T:=by rw[Dd,ee,aui,as9 (by simp[cV])];rfl);have jN:(bO T).length<=T.length:=atN _ _;have gw:(ee T).length<=T.length:=atN _ _;(have ar2:(iR L).length=(bO T).length+1:=by rw[GH,uQ];rfl);(have am5:(e8 L).length=(ee T).length:=by rw[e8,atb,Kl]);(have I':(if((e8 L).length:Int)<1 then((e8 L).length:Int)else 1)=(aS:Int):=by rw[<-hA,am5,eN];split<;>split<;>omega);(have o8:∀(t:Nat) (s:aT),L[t]?=some s->s.si=t/\(t=0->s=cV bm n)/\s.fi<=100/\s.di<=100:=λt s h=>by have h1:=F.si h;refine⟨h1,λA=>?_,?_,?_⟩;subst A;rw[uM]at h;exact(at3 h).symm;have:=F.Kh s (atr h);rw[uQ]at this;simp at this;omega;rcases at1 t with A|A;subst A;rw[uM]at h;cases h;exact atq _;obtain⟨p,a1⟩:=F.at A h;rw[a1.di];have Z:(bO (L.take t)).length<=(bO L).length:=amk _ _ _;rw[uQ]at Z;simp at Z;omega);(have A2:∀i,hS L i=(T.filter λx=>x.fi==i).map pJ:=λi=>by rw[hS,C8,Dd];rfl);refine go ?_;intro jW;(conv=>whnf);refine c1 ?_;refine X.jp 10 (du:=[u (aS:Int)]) rfl ⟨dr I',ai⟩ ?_;refine X.BF 10 10 (u (aS:Int)) rfl rfl rfl rfl ?_;refine X.tQ 500 6 228 ?_;refine X.tQ 600 7 251 ?_;refine go ?_;refine X.ec (α:={i:Nat // i<=(iR L).length}×Value×Value) (λV=>[(2,.box 2 cg 0),(7,.box 7 dI 0),(8,.box 8 cF 0),(10,.a8 1 [u (aS:Int)] 0 0),(11,.fn (.func 227) [] [.a8 1 [u (aS:Int)] 0 0]),(12,.Q (.own 500 V.2.1) 6 ((jh aS bu (bO L) V.1.1).map gF)),(13,.Q (.own 600 V.2.2) 7 ((f4 aS bu T V.1.1).map fl)),(39,.Q .none 7 (iR L)),(40,u ((iR L).length:Int)),(41,u (V.1.1:Int))]) (λV=>[(2,.box cg (yR n)),(7,.box dI [.Q .none 7 (iR L)]),(8,.box cF [.Q .none 1 (e8 L)]),(500,.own V.2.1 ((jh aS bu (bO L) V.1.1).map gF).length 6 228),(600,.own V.2.2 ((f4 aS bu T V.1.1).map fl).length 7 251)]) (λV=>(iR L).length-V.1.1) (⟨0,atq _⟩,.slice none 0 0,.slice none 0 0) [(2,2),(7,7),(8,8),(500,500),(600,600)] ⟨⟨E,E,E,E,E,aq.vc,aq.vc,E,E,E,ai⟩,rfl,bb⟩ ?_;rintro⟨⟨i,hi⟩,NI,gN⟩;(try dsimp only);refine go ?_;refine aJ (decide ((i:Int)<((iR L).length:Int))) rfl ?_ ?_<;>intro hc;(·refine ff ?_;(have aH:i<(iR L).length:=by simpa using hc);(have am6:i<(bO L).length:=by rw[GH]at aH;exact aH);obtain⟨s,hs⟩:∃s,(bO L)[i]?=some s:=⟨_,ata am6⟩;have am7:=Zy hs;have AE:=at2.1 (atr hs);obtain⟨t,au⟩:=atz.1 AE.1;obtain⟨a1,dt,kX,_⟩:=o8 t s au;have ar3:=F.Kc i s hs;have tH:s.si=0->s=cV bm n:=λh=>dt asZ;(have am8:s.mv=true->s.si≠0:=λh A=>by rw[tH A]at h;cases h);(have ib:(bO L).getD i default=s:=by rw[au_,hs];rfl);have ar4:=Zt aS bu (bO L) i;have ar5:=amT (aS:=aS) (bu:=bu) (T:=T) (i:=i) asZ asZ;(have ar6:((jh aS bu (bO L) i).map gF).length<=202:=by rw[atb];omega);(have ar7:((jh aS bu (bO L) i++[rs aS s]).map gF).length<=203:=by rw[atb,atf];simp;omega);(have ar8:((f4 aS bu T i).map fl).length<=20100:=by rw[atb];omega);refine gK ?_;refine⟨λ_=>⟨avP _,avz.2 aH⟩,?_⟩;refine go ?_;refine⟨Kk L i s,λ_=>am7,?_⟩;refine go ?_;intro sm;refine go ?_;intro mE;(conv=>whnf);refine c1 ?_;refine X.lL (α:=Unit) (λ_=>[(2,.box 2 cg 0),(7,.box 7 dI 0),(8,.box 8 cF 0),(10,.a8 1 [u (aS:Int)] 0 0),(11,.fn (.func 227) [] [.a8 1 [u (aS:Int)] 0 0]),(12,.Q (.own 500 NI) 6 ((jh aS bu (bO L) i).map gF)),(13,.Q (.own 600 gN) 7 ((f4 aS bu T i).map fl)),(39,.Q .none 7 (iR L)),(40,u ((iR L).length:Int)),(41,u (i:Int)),(14,u (i:Int)),(15,.box 15 sm 0),(16,.box 16 mE 0)]) (λ_=>[(2,.box cg (yR n)),(7,.box dI [.Q .none 7 (iR L)]),(8,.box cF [.Q .none 1 (e8 L)]),(500,.own NI ((jh aS bu (bO L) i).map gF).length 6 228),(600,.own gN ((f4 aS bu T i).map fl).length 7 251),(15,.box sm (rq s++[.Q .none 8 (hS L i)])),(16,.box mE (GI (rs aS s)))]) ?_ ?_;apply ep;refine X.Br aM 9 mixed as4 ?_;refine go ?_;refine⟨[u (if s.mv then -1 else(s.fi:Int)),.a8 1 [u (aS:Int)] 0 0],_,λ_=>GA _ aS (by split<;>omega) GJ,ar,?_⟩;refine eB ?_;refine⟨[u (s.fi:Int),.a8 1 [u (aS:Int)] 0 0],_,λ_=>GA _ aS asZ GJ,ar,?_⟩;apply cB;apply cB;refine i1 ?_;refine aJ s.mv rfl ?_ ?_<;>intro hc;refine go ?_;exact⟨(),[(2,2),(7,7),(8,8),(500,500),(600,600),(15,15),(16,16)],ar,rfl,rfl,rfl,rfl,rfl,rfl,rfl,rfl,rfl,rfl,rfl,rfl,rfl,rfl,as' (λV=>some (aI.box mE V)) (amY (am8 hc) hc),ai⟩;refine go ?_;exact⟨(),[(2,2),(7,7),(8,8),(500,500),(600,600),(15,15),(16,16)],ar,rfl,rfl,rfl,rfl,rfl,rfl,rfl,rfl,rfl,rfl,rfl,rfl,rfl,rfl,as' (λV=>some (aI.box mE V)) (amZ tH hc),ai⟩;rintro⟨⟩;refine lc ?_;refine nr ?_;refine⟨by show(_+1)*64<=_;omega,by show _+1<=_;omega,as6,λQv=>?_⟩;(conv=>whnf);(have ar9:(jh aS bu (bO L) i).map gF++[gF (rs aS s)]=(jh aS bu (bO L) i++[rs aS s]).map gF:=by simp);(have sE:jh aS bu (bO L) (i+1)=jh aS bu (bO L) i++[rs aS s]++wi aS bu i:=by rw[jh,ib];simp);refine X.lL (α:=Value×Value) (λV=>[(2,.box 2 cg 0),(7,.box 7 dI 0),(8,.box 8 cF 0),(10,.a8 1 [u (aS:Int)] 0 0),(11,.fn (.func 227) [] [.a8 1 [u (aS:Int)] 0 0]),(12,.Q (.own 500 V.1) 6 ((jh aS bu (bO L) (i+1)).map gF)),(13,.Q (.own 600 V.2) 7 ((f4 aS bu T i++ir aS bu i).map fl)),(39,.Q .none 7 (iR L)),(40,u ((iR L).length:Int)),(41,u (i:Int)),(14,u (i:Int)),(15,.box 15 sm 0)]) (λV=>[(2,.box cg (yR n)),(7,.box dI [.Q .none 7 (iR L)]),(8,.box cF [.Q .none 1 (e8 L)]),(500,.own V.1 ((jh aS bu (bO L) (i+1)).map gF).length 6 228),(600,.own V.2 ((f4 aS bu T i++ir aS bu i).map fl).length 7 251),(15,.box sm (rq s++[.Q .none 8 (hS L i)]))]) ?_ ?_;apply b2;refine x6 (u (aS:Int)) ?_;refine go ?_;refine aJ (bif decide ((i:Int)=0)then decide ((0:Int)<(aS:Int))else false) rfl ?_ ?_<;>intro hc;refine lc ?_;refine⟨[.Q .none 12 (n.J.map enc)],_,λ_=>am4,ar,?_⟩;refine ck ?_;refine pg ?_;refine⟨rfl,List.length_append.symm,?_⟩;(conv=>whnf);refine⟨by show(_+1)*64<=_;simp only[atf,atb,ath,atD];omega,by show _+1<=_;simp only[atf,atb,ath,atD];omega,as6,λQw=>?_⟩;refine m0 ?_;refine nr ?_;refine⟨by show(_+1)*56<=_;omega,by show _+1<=_;omega,as6,λqC=>?_⟩;refine go ?_;(have lX:i=0/\aS≠0:=by cases h:decide ((i:Int)=0)<;>rw[h]at hc;cases hc;have h1:=atw h;have A:=atw hc;omega);have qB:wi aS bu i=[⟨[47],bu,2,0,0,false⟩]:=as_ lX;have ol:ir aS bu i=[⟨[47],bu,0,1,true,false,false⟩]:=as_ lX;(have bY:(jh aS bu (bO L) i).map gF++[gF (rs aS s)]++[gF ⟨[47],bu,2,0,0,false⟩]=(jh aS bu (bO L) (i+1)).map gF:=by rw[sE,qB];simp);(have b':(f4 aS bu T i).map fl++[fl ⟨[47],bu,0,1,true,false,false⟩]=(f4 aS bu T i++ir aS bu i).map fl:=by rw[ol];simp);exact⟨(Qw,qC),[(2,2),(7,7),(8,8),(500,78),(600,83),(15,15)],⟨E,E,E,E,E,aq.trans (aq.of_eq (as' (D.Q (.own 78 Qw) 6) bY)) (aq.own _ _),aq.trans (aq.of_eq (as' (D.Q (.own 83 qC) 7) b')) (aq.own _ _),E,E,E,E,E,ai⟩,rfl,rfl,rfl,rfl,rfl,rfl,rfl,rfl,as' (λV:Nat=>some (aI.own Qw V 6 228)) (by rw[<-bY];exact List.length_append.symm),rfl,as' (λV:Nat=>some (aI.own qC V 7 251)) (axR),rfl,bb⟩;refine go ?_;(have lX:¬(i=0/\aS≠0):=λh=>by obtain⟨h1,A⟩:=h;rw[aug (show(i:Int)=0 by omega),aug (show(0:Int)<(aS:Int) by omega)]at hc;cases hc);have qB:wi aS bu i=[]:=as9 lX;have ol:ir aS bu i=[]:=as9 lX;(have bY:(jh aS bu (bO L) i).map gF++[gF (rs aS s)]=(jh aS bu (bO L) (i+1)).map gF:=by rw[sE,qB];simp);(have b':(f4 aS bu T i).map fl=(f4 aS bu T i++ir aS bu i).map fl:=by rw[ol];simp);exact⟨(Qv,gN),[(2,2),(7,7),(8,8),(500,64),(600,600),(15,15)],⟨E,E,E,E,E,aq.trans (aq.of_eq (as' (D.Q (.own 64 Qv) 6) bY)) (aq.own _ _),aq.of_eq (as' (D.Q (.own 600 gN) 7) b'),E,E,E,E,E,ai⟩,rfl,rfl,rfl,rfl,rfl,rfl,rfl,rfl,as' (λV:Nat=>some (aI.own Qv V 6 228)) (by rw[<-bY];exact List.length_append.symm),rfl,as' (λV:List D=>some (aI.own gN V.length 7 251)) b',rfl,bb⟩;rintro⟨De,Qx⟩;(try dsimp only);generalize fF:T.filter (λx=>x.fi==i)=R;(have am9:R.length<=T.length:=by rw[<-fF];exact atN _ _);(have am_:hS L i=R.map pJ:=by rw[A2,fF]);(have am':mF aS T i=R.map (aT.l4 aS):=by rw[mF,fF]);(have ana:∀x∈R,x∈T/\x.fi=i:=λx I=>by rw[<-fF]at I;simpa using at2.1 I);rw[am_];refine go ?_;refine X.ec (α:={j:Nat // j<=R.length}×Value) (λV=>[(2,.box 2 cg 0),(7,.box 7 dI 0),(8,.box 8 cF 0),(10,.a8 1 [u (aS:Int)] 0 0),(11,.fn (.func 227) [] [.a8 1 [u (aS:Int)] 0 0]),(12,.Q (.own 500 De) 6 ((jh aS bu (bO L) (i+1)).map gF)),(13,.Q (.own 600 V.2) 7 ((f4 aS bu T i++ir aS bu i++(R.take V.1.1).map (aT.l4 aS)).map fl)),(39,.Q .none 7 (iR L)),(40,u ((iR L).length:Int)),(41,u (i:Int)),(14,u (i:Int)),(85,.Q .none 8 (R.map pJ)),(86,u ((R.map pJ).length:Int)),(87,u (V.1.1:Int))]) (λV=>[(2,.box cg (yR n)),(7,.box dI [.Q .none 7 (iR L)]),(8,.box cF [.Q .none 1 (e8 L)]),(500,.own De ((jh aS bu (bO L) (i+1)).map gF).length 6 228),(600,.own V.2 ((f4 aS bu T i++ir aS bu i++(R.take V.1.1).map (aT.l4 aS)).map fl).length 7 251)]) (λV=>R.length-V.1.1) (⟨0,atq _⟩,Qx) [(2,2),(7,7),(8,8),(500,500),(600,600)] ⟨⟨E,E,E,E,E,E,aq.of_eq (as' (λV:List gu=>D.Q (.own 600 Qx) 7 (V.map fl)) as1),E,E,E,E,E,E,E,ai⟩,rfl,rfl,rfl,rfl,rfl,rfl,rfl,rfl,rfl,rfl,as' (λV:List gu=>some (aI.own Qx (V.map fl).length 7 251)) as1,ai⟩ ?_;rintro⟨⟨j,ad⟩,gN⟩;(try dsimp only);refine go ?_;refine aJ (decide ((j:Int)<((R.map pJ).length:Int))) rfl ?_ ?_<;>intro hc;(·refine ff ?_;(have uK:j<R.length:=by simpa using hc);obtain⟨x,I⟩:∃x,R[j]?=some x:=⟨_,ata uK⟩;(have zc:(R.map pJ)[j]?=some (pJ x):=by rw[atA,I];rfl);obtain⟨anb,Zz⟩:=ana x (atr I);obtain⟨jR,GK⟩:=atz.1 (show x∈L by rw[Dd];exact ato _ anb);obtain⟨_,_,_,anc⟩:=o8 jR x GK;have lP:=Qs aS bu i;(have ar_:((f4 aS bu T i++ir aS bu i++(R.take j).map (aT.l4 aS)).map fl).length<=20300:=by simp only[atb,atf,atv];omega);(have Km:(f4 aS bu T i++ir aS bu i++(R.take j).map (aT.l4 aS)).map fl++[fl (x.l4 aS)]=(f4 aS bu T i++ir aS bu i++(R.take (j+1)).map (aT.l4 aS)).map fl:=by rw[Y7 I];simp);refine gK ?_;refine⟨λ_=>⟨avP _,by simpa using uK⟩,?_⟩;(conv=>whnf);refine⟨pJ x,λ_=>zc,?_⟩;refine go ?_;intro Qn;apply cB;refine lc ?_;intro rc;apply cB;refine ck ?_;refine⟨[u (i:Int),.a8 1 [u (aS:Int)] 0 0],_,λ_=>GA _ aS asZ GJ,ar,?_⟩;apply cB;refine p8 ?_;refine iD ?_;refine ie ?_;refine aJ (bif decide ((0:Int)<=(if x.de then(x.di:Int)else -1))then !x.mv else false) rfl ?_ ?_<;>intro hc;(have wH:x.de=true/\x.mv=false:=by cases h1:x.de<;>cases A:x.mv<;>rw[h1,A]at hc<;>simp at hc⊢);apply kw;refine eB ?_;refine⟨[u (x.di:Int),.a8 1 [u (aS:Int)] 0 0],_,λ_=>GA _ aS asZ GJ,⟨dr (by rw[as_ wH.1]),E,ai⟩,?_⟩;apply cB;apply kw;refine eB ?_;refine nr ?_;refine⟨by show(_+1)*56<=_;omega,by show _+1<=_;omega,as6,λqC=>?_⟩;refine go ?_;(have b':(f4 aS bu T i++ir aS bu i++(R.take j).map (aT.l4 aS)).map fl++[.agg [.O x.path,.O (if x.mv then x.file else x.id),u (xH aS (i:Int)),u (xH aS (x.di:Int)),.bool (!x.iso),.bool x.rock,.bool x.mv]]=(f4 aS bu T i++ir aS bu i++(R.take (j+1)).map (aT.l4 aS)).map fl:=by rw[<-Km,fl,aT.l4,Zz,wH.1,wH.2,Dc,Dc];rfl);exact⟨(⟨j+1,uK⟩,qC),[(2,2),(7,7),(8,8),(500,500),(600,113)],by show _-(j+1)<_-j;omega,⟨E,E,E,E,E,E,aq.trans (aq.of_eq (as' (D.Q (.own 113 qC) 7) b')) (aq.own _ _),E,E,E,E,E,E,E,ai⟩,rfl,rfl,rfl,rfl,rfl,rfl,rfl,rfl,rfl,rfl,as' (λV:Nat=>some (aI.own qC V 7 251)) (axR),ai⟩;apply cr;apply kw;refine eB ?_;refine nr ?_;refine⟨by show(_+1)*56<=_;omega,by show _+1<=_;omega,as6,λqC=>?_⟩;refine go ?_;(have wH:(x.de&&!x.mv)=false:=by cases h1:x.de<;>cases A:x.mv<;>rw[h1,A]at hc<;>first|rfl|(exfalso;simp at hc;done));(have b':(f4 aS bu T i++ir aS bu i++(R.take j).map (aT.l4 aS)).map fl++[.agg [.O x.path,.O (if x.mv then x.file else x.id),u (xH aS (i:Int)),u (-1),.bool (!x.iso),.bool x.rock,.bool x.mv]]=(f4 aS bu T i++ir aS bu i++(R.take (j+1)).map (aT.l4 aS)).map fl:=by rw[<-Km,fl,aT.l4,Zz,wH,Dc];rfl);exact⟨(⟨j+1,uK⟩,qC),[(2,2),(7,7),(8,8),(500,500),(600,113)],by show _-(j+1)<_-j;omega,⟨E,E,E,E,E,E,aq.trans (aq.of_eq (as' (D.Q (.own 113 qC) 7) b')) (aq.own _ _),E,E,E,E,E,E,E,ai⟩,rfl,rfl,rfl,rfl,rfl,rfl,rfl,rfl,rfl,rfl,as' (λV:Nat=>some (aI.own qC V 7 251)) (axR),ai⟩);refine go ?_;(have zF:j=R.length:=by simp at hc;omega);rw[zF,ati,<-am'];clear zF hc ad j;have lP:=Qs aS bu i;have CZ:=Zv aS T i;refine go ?_;refine aJ (decide ((i:Int)=0)) rfl ?_ ?_<;>intro hc;(·(have lX:i=0:=by simpa using hc);refine go ?_;refine X.ec (α:={k:Nat // k<=(ee L).length}×Value) (λV=>[(2,.box 2 cg 0),(7,.box 7 dI 0),(8,.box 8 cF 0),(10,.a8 1 [u (aS:Int)] 0 0),(11,.fn (.func 227) [] [.a8 1 [u (aS:Int)] 0 0]),(12,.Q (.own 500 De) 6 ((jh aS bu (bO L) (i+1)).map gF)),(13,.Q (.own 600 V.2) 7 ((f4 aS bu T i++ir aS bu i++mF aS T i++((ee L).take V.1.1).map (aT.ov aS)).map fl)),(39,.Q .none 7 (iR L)),(40,u ((iR L).length:Int)),(41,u (i:Int)),(117,.Q .none 1 (e8 L)),(118,u ((e8 L).length:Int)),(119,u (V.1.1:Int))]) (λV=>[(2,.box cg (yR n)),(7,.box dI [.Q .none 7 (iR L)]),(8,.box cF [.Q .none 1 (e8 L)]),(500,.own De ((jh aS bu (bO L) (i+1)).map gF).length 6 228),(600,.own V.2 ((f4 aS bu T i++ir aS bu i++mF aS T i++((ee L).take V.1.1).map (aT.ov aS)).map fl).length 7 251)]) (λV=>(ee L).length-V.1.1) (⟨0,atq _⟩,gN) [(2,2),(7,7),(8,8),(500,500),(600,600)] ⟨⟨E,E,E,E,E,E,aq.of_eq (as' (λV:List gu=>D.Q (.own 600 gN) 7 (V.map fl)) as1),E,E,E,E,E,E,ai⟩,rfl,rfl,rfl,rfl,rfl,rfl,rfl,rfl,rfl,rfl,as' (λV:List gu=>some (aI.own gN (V.map fl).length 7 251)) as1,ai⟩ ?_;rintro⟨⟨k,Y⟩,ane⟩;(try dsimp only);refine go ?_;refine aJ (decide ((k:Int)<((e8 L).length:Int))) rfl ?_ ?_<;>intro hc;refine ff ?_;(have iy:k<(ee L).length:=by rw[e8,atb]at hc;simpa using hc);obtain⟨x,I⟩:∃x,(ee L)[k]?=some x:=⟨_,ata iy⟩;(have zc:(e8 L)[k]?=some (.int .i64 (x.di:Int)):=by rw[e8,atA,I];rfl);have GL:=at2.1 (atr I);obtain⟨jR,GK⟩:=atz.1 GL.1;obtain⟨anf,C5,_,anc⟩:=o8 jR x GK;(have ang:x.si≠0:=λh=>by rw[C5 asZ]at GL;cases GL.2);(have anh:x.de=true:=by obtain⟨p,ani⟩:=F.at (Nat.pos_of_ne_zero asZ) GK;have:=ani.mv;rw[GL.2]at this;cases h:x.de with|true=>rfl|false=>rw[h]at this;cases this);obtain⟨rr,A0⟩:=F.AY (by rw[anf];exact GK) anh;have anj:=Zy rr;(have pW:k<=100:=by rw[Kl]at iy;omega);(have ar':((f4 aS bu T i++ir aS bu i++mF aS T i++((ee L).take k).map (aT.ov aS)).map fl).length<=20400:=by rw[Kl]at iy⊢;simp only[atb,atf,atv];omega);(have Km:(f4 aS bu T i++ir aS bu i++mF aS T i++((ee L).take k).map (aT.ov aS)).map fl++[fl (x.ov aS)]=(f4 aS bu T i++ir aS bu i++mF aS T i++((ee L).take (k+1)).map (aT.ov aS)).map fl:=by rw[Y7 I];simp);refine gK ?_;refine⟨λ_=>⟨avP _,atw hc⟩,?_⟩;refine go ?_;refine⟨u (x.di:Int),λ_=>zc,?_⟩;refine go ?_;refine⟨λ_=>⟨avP _,by rw[GH];exact avz.2 A0⟩,?_⟩;refine go ?_;refine⟨Kk L x.di x,λ_=>anj,?_⟩;refine go ?_;intro Ym;(conv=>whnf);refine c1 ?_;refine X.Br aM 10 mixed as4 ?_;refine go ?_;refine⟨[u (x.di:Int),.a8 1 [u (aS:Int)] 0 0],_,λ_=>GA _ aS asZ GJ,ar,?_⟩;(conv=>whnf);refine nr ?_;refine⟨by show(_+1)*56<=_;omega,by show _+1<=_;omega,as6,λqC=>?_⟩;refine go ?_;(have b':(f4 aS bu T i++ir aS bu i++mF aS T i++((ee L).take k).map (aT.ov aS)).map fl++[.agg [.O x.path,.O (if x.si=0 then[0]else if x.mv then 68::Lib.decDigits x.mno else x.id),u 1,u (xH aS (x.di:Int)),.bool true,.bool true,.bool false]]=(f4 aS bu T i++ir aS bu i++mF aS T i++((ee L).take (k+1)).map (aT.ov aS)).map fl:=by rw[<-Km,fl,aT.ov,as9 ang,as_ GL.2,Dc]);exact⟨(⟨k+1,iy⟩,qC),[(2,2),(7,7),(8,8),(500,500),(600,138)],by show _-(k+1)<_-k;omega,⟨E,E,E,E,E,E,aq.trans (aq.of_eq (as' (D.Q (.own 138 qC) 7) b')) (aq.own _ _),E,E,E,E,E,E,ai⟩,rfl,rfl,rfl,rfl,rfl,rfl,rfl,rfl,rfl,rfl,as' (λV:Nat=>some (aI.own qC V 7 251)) (axR),ai⟩;(have f_:k=(ee L).length:=by have h1:=atl hc;rw[e8,atb]at h1;omega);(have vZ:f4 aS bu T (i+1)=f4 aS bu T i++ir aS bu i++mF aS T i++((ee L).take k).map (aT.ov aS):=by rw[f4,zd,as_ lX,f_,ati,Kl];simp);rw[<-vZ];refine go ?_;exact⟨(⟨i+1,aH⟩,De,ane),[(2,2),(7,7),(8,8),(500,500),(600,600)],by show _-(i+1)<_-i;omega,ar,rfl,bb⟩);(have lX:¬i=0:=by simpa using hc);(have vZ:f4 aS bu T (i+1)=f4 aS bu T i++ir aS bu i++mF aS T i:=by rw[f4,zd,as9 lX];simp);rw[<-vZ];refine go ?_;exact⟨(⟨i+1,aH⟩,De,gN),[(2,2),(7,7),(8,8),(500,500),(600,600)],by show _-(i+1)<_-i;omega,ar,rfl,bb⟩);(have cd:i=(bO T).length+1:=by simp at hc;omega);(have Qy:jh aS bu (bO L) i=lA bu T:=by rw[cd,uQ,<-hA];refine amV bu rfl λs hs=>?_;have AE:=at2.1 hs;obtain⟨t,au⟩:=atz.1 AE.1;have:=F.si (show L[t+1]?=some s by rw[Dd];exact au);omega);(have ank:f4 aS bu T i=tk bu T:=by rw[cd,<-hA];exact amU bu T);rw[Qy,ank];refine go ?_;exact⟨aq.mT,aq.mT,E,ai⟩
mutual
theorem ZA(P:aT->Prop)(h:∀x k m c,(bX x k m c).any=true->P (bX x k m c)):∀(n:aa) (x:aT) (c:e6),∀s∈fT n x c,P s
 |.mk _ _ _ _ _ _ _ _ _ _ ag _,x,c,s,hs=>by
  simp only[fT]at hs;exact Qz P h ag _ x c s hs
theorem Qz(P:aT->Prop)(h:∀x k m c,(bX x k m c).any=true->P (bX x k m c)):∀(ag:List aa) (cS:List as8) (x:aT) (c:e6),∀s∈fm ag cS x c,P s
 |k::r,m::cS,x,c,s,hs=>by
  simp only[fm]at hs;split at hs
  ·rename_i ha;rcases atu.1 hs with rfl|hs
   ·exact h x k m c ha
   rcases atB.1 hs with hs|hs
   ·exact ZA P h k _ _ s hs
   exact Qz P h r cS x _ s hs
  exact Qz P h r cS x c s hs
 |[],_,_,_,s,hs=>by simp[fm]at hs
 |_::_,[],_,_,s,hs=>by simp[fm]at hs
end
theorem anl(n:aa)(x:aT)(c:e6):∀s∈fT n x c,s.iso=true->lo 0 s.n s.lv=true :=
 ZA _ (λx k m c _ h=>by simp only[bX,atd]at h⊢;exact h.2) n x c
theorem anm{n:aa}{l:Int}(N:n.kind=0)(h:lo 0 n l=true):l<=8:=by unfold lo at h;rw[N]at h;rcases Int.lt_or_le 8 l with h1|h1;rw[aug h1]at h;split at h;cases h;simp at h;exact h1
structure ann (bm:Bool) (D:List eM) (i:Nat) (x:eM):Prop where
 lv:1<=x.bW/\x.bW<=8
 dq:0<i->0<=x.cA/\x.cA<i/\0<=x.CQ/\x.CQ<i/\(x.jV=false->x.cA=x.CQ)
 up:0<i->∃p,D[x.cA.toNat]?=some p/\p.bW=x.bW-1
 rel:x.jV=true->bm=true/\x.bW=3/\x.cA=1/\∃p,D[1]?=some p/\p.path=[47]
variable{j:Nat}
theorem ano(h:i<j):h9 aS i<h9 aS j:=by unfold h9;split<;>split<;>omega
theorem QA(bu:as8)(T:List aT):(lA bu T)[0]?=some y0:=rfl
theorem Kn(T:List aT):eN T=0\/eN T=1:=by unfold eN;split;exact .inl rfl;exact .inr rfl
theorem QB(bu:as8)(T:List aT):(lA bu T).length=1+eN T+(bO T).length:=by rcases Kn T with h|h;rw[lA,h,as_ rfl];simp;omega;rw[lA,h,as9 as2];simp;omega
theorem Ko{T:List aT}{s:aT}(h:(bO T)[k]?=some s):(lA bu T)[h9 (eN T) (k+1)]?=some (s.jB (eN T)):=by rcases Kn T with h1|h1;rw[lA,h1,as_ rfl,h9,as9 asZ];simp[h];rw[lA,h1,as9 (show¬(1:Nat)=0 by decide),h9,as9 asZ];simp[h]
theorem Kp{T:List aT}(h:eN T=1):(lA bu T)[1]?=some ⟨[47],bu,2,0,0,false⟩:=by rw[lA,h];rfl
theorem ZB{T:List aT}{x:eM}(h:(lA bu T)[i]?=some x): (i=0/\x=y0)\/(i=1/\eN T=1/\x=⟨[47],bu,2,0,0,false⟩)\/∃k s,(bO T)[k]?=some s/\i=h9 (eN T) (k+1)/\x=s.jB (eN T):=by have aj:=QB bu T;(have bi:i<(lA bu T).length:=by rcases ats i (lA bu T).length with h1|h1;exact h1;rw[atj h1]at h;cases h);(have hA:eN T<=1:=by unfold eN;split<;>omega);rcases at1 i with rfl|h0;rw[QA]at h;exact .inl ⟨rfl,(at3 h).symm⟩;by_cases h1:i=1/\eN T=1;obtain⟨rfl,A⟩:=h1;rw[Kp A]at h;exact .inr (.inl ⟨rfl,A,(at3 h).symm⟩);refine .inr (.inr ?_);(have Y:i-1-eN T<(bO T).length:=by omega);have hs:=ata Y;(have hi:h9 (eN T) (i-1-eN T+1)=i:=by rw[h9,as9 asZ];omega);have:=Ko (bu:=bu) hs;rw[hi,h]at this;exact⟨_,_,hs,hi.symm,at3 this⟩
theorem fs.anp{bm:Bool}{n:aa}{T:List aT}(F:fs bm n (cV bm n::T)){s:aT}(h:(bO T)[k]?=some s):∃t p,T[t]?=some s/\s.de=true/\GB ((cV bm n::T).take (t+1)) s p/\(cV bm n::T)[s.ab]?=some p/\s.ab<t+1/\s.di=k+1/\p.di<k+1/\((p=cV bm n/\p.di=0)\/∃j,p.di=j+1/\(bO T)[j]?=some p):=by have hm:=at2.1 (atr h);obtain⟨t,au⟩:=atz.1 hm.1;(have A1:(cV bm n).de=true:=by rw[aT.de,cV,F.kind];rfl);(have uQ:bO (cV bm n::T)=cV bm n::bO T:=by rw[bO,aui,as_ A1];rfl);have h1:(cV bm n::T)[t+1]?=some s:=au;obtain⟨p,a1⟩:=F.at (i:=t+1) asZ h1;have A:=a1.ab;(have bi:t<T.length:=by rcases ats t T.length with Z|Z;exact Z;rw[atj Z]at au;cases au);rw[atv,ath]at A;have Z:=a1.dq;rw[atZ,as_ asZ]at Z;have lK:s.di=k+1:=F.Kc (k+1) s (by rw[uQ];exact h);have anq:=F.si Z;obtain⟨wj,dj⟩:=F.AY (by rw[anq];exact Z) a1.bd;(have QC:p.di<k+1:=by have vP:p∈bO ((cV bm n::T).take (t+1)):=at2.2 ⟨atr a1.dq,a1.bd⟩;obtain⟨j,ad⟩:=atz.1 vP;(have lP:bO (cV bm n::T)=bO ((cV bm n::T).take (t+1))++bO ((cV bm n::T).drop (t+1)):=by rw[bO,bO,bO,<-auy,auz]);(have tP:j<(bO ((cV bm n::T).take (t+1))).length:=by rcases ats j (bO ((cV bm n::T).take (t+1))).length with aD|aD;exact aD;rw[atj aD]at ad;cases ad);have aD:=F.Kc j p (by rw[lP,atn tP];exact ad);have bc:=a1.di;omega);refine⟨t,p,au,hm.2,a1,Z,by omega,lK,QC,?_⟩;rw[uQ]at wj;cases qB:p.di with|zero=>rw[qB]at wj;exact .inl ⟨(at3 wj).symm,rfl⟩|succ j=>rw[qB]at wj;exact .inr ⟨j,rfl,wj⟩
theorem ZC{T:List aT}{s:aT}(hs:s∈T)(hm:s.mv=true):eN T=1:=by have:s∈ee T:=at2.2 ⟨hs,hm⟩;have:=avU this;rw[eN,as9 asZ]
variable{l:List aT}
theorem fs.ZD{bm:Bool}{n:aa}(F:fs bm n l):∀(i:Nat) (s:aT),l[i]?=some s->s.lev<=s.lv/\(s.rock=true->bm=true):=by intro i;induction i using Nat.strongRecOn with|_ i aY =>intro s hs;rcases at1 i with rfl|hi;rw[F.tq.1]at hs;cases hs;exact⟨at5 _,λh=>h⟩;obtain⟨p,a1⟩:=F.at hi hs;have bi:=a1.ab;rw[atv]at bi;(have aw:l[s.ab]?=some p:=axY);obtain⟨h1,A⟩:=aY s.ab asZ p aw;have h0:=(F.lev _ _ aw).1;have aj:=a1.lev;have W:=a1.lv;refine⟨?_,λh=>A (a1.rock h)⟩;split at aj;split at aj<;>omega;omega
theorem anr{bm:Bool}{n:aa}{T:List aT}(F:fs bm n (cV bm n::T))(hi:∀s∈T,s.iso=true->lo 0 s.n s.lv=true)(bu:as8): ∀i x,(lA bu T)[i]?=some x->ann bm (lA bu T) i x:=by intro i x I;rcases ZB I with⟨rfl,rfl⟩|⟨rfl,hA,rfl⟩|⟨k,s,hs,rfl,rfl⟩;exact⟨⟨by decide,by decide⟩,λh=>absurd h (awp _),λh=>absurd h (awp _),λh=>by cases h⟩;exact⟨⟨by show(1:Int)<=2;decide,by show(2:Int)<=8;decide⟩,λ_=>⟨at5 _,by show(0:Int)<1;decide,at5 _,by show(0:Int)<1;decide,λ_=>rfl⟩,λ_=>⟨y0,rfl,rfl⟩,λh=>by cases h⟩;obtain⟨t,p,au,N,a1,aw,nT,lK,QC,AO⟩:=F.anp hs;have wk:=atr au;have asa:=F.lev _ _ aw;have Kq:=F.lev (t+1) s au;have ans:=F.ZD (t+1) s au;have asb:=F.ZD _ _ aw;have GF:=a1.lv;have aj:=a1.lev;have hm:=a1.mv;rw[as_ N]at aj;rw[N,av6]at hm;have kX:s.fi=p.di:=a1.fi;have rU:h9 (eN T) p.di<h9 (eN T) (k+1):=ano QC;(have ant:∃q,(lA bu T)[h9 (eN T) p.di]?=some q/\q.bW=p.lev:=by rcases AO with⟨rfl,h0⟩|⟨j,ad,qB⟩;rw[h0];exact⟨y0,rfl,rfl⟩;rw[ad];exact⟨_,Ko qB,rfl⟩);(have asc:1<=h9 (eN T) (k+1):=by rw[h9,as9 asZ];omega);cases gx:s.mv with|true =>rw[gx]at hm;(have hF:p.lev+1=9:=by simpa using hm.symm);rw[as_ hF]at aj;have hA:=ZC wk gx;(have zv:bm=true:=by have qA:=a1.any;rw[aT.any,auv]at qA;rcases qA with h|h;have h1:=anm (by simpa[aT.de]using N) (hi s wk h);omega;exact ans.2 h);refine⟨⟨Kq.2.2.1 N,Kq.2.1⟩,λ_=>⟨?_,?_,?_,?_,?_⟩,λ_=>?_,λ_=>⟨zv,aj,?_,_,Kp hA,rfl⟩⟩;simp[aT.jB,gx];simp only[aT.jB,gx,aum];rw[h9,as9 asZ,hA];omega;simp[aT.jB];simp only[aT.jB,kX];omega;simp[aT.jB,gx];refine⟨⟨[47],bu,2,0,0,false⟩,?_,?_⟩;simp only[aT.jB,gx,aum];exact Kp hA;show(2:Int)=s.lev-1;omega;simp[aT.jB,gx]|false =>rw[gx]at hm;(have hF:¬p.lev+1=9:=by simpa using hm.symm);rw[as9 hF]at aj;refine⟨⟨Kq.2.2.1 N,Kq.2.1⟩,λ_=>⟨?_,?_,?_,?_,?_⟩,λ_=>?_,λh=>?_⟩;simp[aT.jB,gx];simp only[aT.jB,gx,kX];simp;omega;simp[aT.jB];simp only[aT.jB,kX];omega;intro _;simp[aT.jB,gx];obtain⟨q,G,lj⟩:=ant;refine⟨q,?_,?_⟩;simp only[aT.jB,gx,kX];simpa using G;show q.bW=s.lev-1;omega;simp[aT.jB,gx]at h
theorem anu{bm:Bool}{n:aa}(h:valid n=true):∃bu T,mG bm n=(lA bu T,tk bu T,0)/\fs bm n (cV bm n::T)/\T=fT n (cV bm n) ⟨1,1,0⟩/\bu=jg (lz (ce 0 n.J)):=by obtain⟨xG,jT⟩:=Qe h;exact⟨_,_,by rw[mG,as_ h],Y6 bm xG jT,rfl,rfl⟩
theorem fs.QD{bm:Bool}{n:aa}(ax:il n)(F:fs bm n l):∀(i:Nat) (s:aT),l[i]?=some s->il s.n/\(0<i->dQ s.n.name=true):=by intro i;induction i using Nat.strongRecOn with|_ i aY =>intro s hs;rcases at1 i with rfl|hi;rw[F.tq.1]at hs;cases hs;exact⟨ax,λh=>absurd h (awp _)⟩;obtain⟨p,a1⟩:=F.at hi hs;have bi:=a1.ab;rw[atv]at bi;(have aw:l[s.ab]?=some p:=axY);obtain⟨h1,_⟩:=aY s.ab asZ p aw;obtain⟨_,_,_,Y⟩:=(tc p.n).1 h1;have A:=q_ Y a1.Qa;exact⟨A.2,λ_=>A.1.1⟩
theorem fs.dq{bm:Bool}{n:aa}(F:fs bm n l){s:aT}(hi:0<i)(hs:l[i]?=some s):∃p,GB (l.take i) s p/\l[s.ab]?=some p/\s.ab<i:=by obtain⟨p,a1⟩:=F.at hi hs;have bi:=a1.ab;rw[atv]at bi;(have aw:l[s.ab]?=some p:=axY);exact⟨p,a1,aw,by omega⟩
def wl(m:as8)(bd:Bool):as8:=if bd=true then m else if yW m=true then m++[59,49]else m++[46,59,49]
variable{bw bV:as8}{bd:Bool}
theorem nM.ident{m:as8}(h:nM m bd bw bV):(ke m bd).1=wl m bd:=by rw[ke,as_ h.name.valid,wl];split;rfl;split<;>rfl
theorem anv(m:as8):wl m false=if yW m=true then m++[59,49]else m++[46,59,49]:=rfl
variable{s:as8}
theorem ZE{k:Int}{c:UInt8}(h:oq s k=true)(hc:q' c=false):c∉s:=by intro hm;simp only[oq,uz,atd,at0]at h;have:=h.2.2.2 c hm;rw[hc]at this;cases this
theorem nM.anw{m:as8}(h:nM m bd bw bV):(59:UInt8)∉m:=by have h1:=ZE (c:=59) h.a as2;rcases h.eq with⟨_,rfl⟩|⟨_,_,Z,rfl⟩;exact h1;have A:=ZE (c:=59) Z as2;intro hm;rcases atB.1 hm with hm|hm;exact h1 hm;rcases atu.1 hm with hm|hm;cases hm;exact A hm
def xI(p s:aT)(j:Nat):Prop:=p.n.J[j]?=some s.n/\∃m,(ce 0 p.n.J)[j]?=some m/\s.id=(ke m (s.n.kind==0)).1/\s.file=(ke m false).1
def tt(l:List aT):Prop:=∀hp bq,0<hp->l[hp]?=some bq->∃p ew,l[bq.ab]?=some p/\p.de=true/\bq.fi=p.di/\xI p bq ew/\∀i s,0<i->i<hp->l[i]?=some s->s.fi=bq.fi->∃j,j<ew/\xI p s j
theorem e6.anx(l:List aT):∀c:e6,c.uI<=(c.jA l).uI:=by induction l with|nil=>intro c;exact atg _|cons s r aY =>intro c;rw[e6.XQ];refine auC ?_ (aY _);simp only[e6.add];split<;>omega
theorem e6.QE(c:e6)(s:aT):c.uI<=(c.add s).uI:=by simp only[e6.add];split<;>omega
mutual
theorem ZF:∀(n:aa) (x:aT) (c:e6),∀s∈fT n x c,s.fi=x.di\/c.uI<=s.fi
 |.mk _ _ _ _ _ _ _ _ _ _ ag _,x,c,s,hs=>by
  simp only[fT]at hs;exact QF ag _ x c s hs
theorem QF:∀(ag:List aa) (cS:List as8) (x:aT) (c:e6),∀s∈fm ag cS x c,s.fi=x.di\/c.uI<=s.fi
 |k::r,m::cS,x,c,s,hs=>by
  simp only[fm]at hs;split at hs
  ·rcases atu.1 hs with rfl|hs
   ·exact .inl rfl
   rcases atB.1 hs with hs|hs
   ·have:=e6.QE c (bX x k m c);rcases ZF k _ _ s hs with h|h
    ·exact .inr (by rw[h];exact atg _)
    exact .inr asZ
   have h1:=e6.QE c (bX x k m c);have A:=e6.anx (fT k (bX x k m c) (c.add (bX x k m c))) (c.add (bX x k m c));rcases QF r cS x _ s hs with h|h
   ·exact .inl h
   exact .inr asZ
  exact QF r cS x c s hs
 |[],_,_,_,s,hs=>by simp[fm]at hs
 |_::_,[],_,_,s,hs=>by simp[fm]at hs
end
theorem tt.we{l:List aT}(h:tt l){s p:aT}{ew:Nat}(nT:s.ab<l.length)(aw:l[s.ab]?=some p)(N:p.de=true)(M:s.fi=p.di)(Y:xI p s ew)(Hl:∀i t,0<i->l[i]?=some t->t.fi=s.fi->∃j,j<ew/\xI p t j):tt (l++[s]):=by intro hp bq h0 c9;rcases ats hp l.length with aj|aj;rw[atn aj]at c9;obtain⟨q,j,h1,A,Z,aD,bc⟩:=h hp bq h0 c9;(have lj:bq.ab<l.length:=by rcases ats bq.ab l.length with h|h;exact h;rw[atj h]at h1;cases h1);refine⟨q,j,by rw[atn lj];exact h1,A,Z,aD,λi t hi Da au=>?_⟩;rw[atn asZ]at au;exact bc i t hi Da au;rcases ats l.length hp with aV|aV;rw[atj as0]at c9;cases c9;(have:hp=l.length:=by omega);subst this;rw[avg]at c9;cases c9;refine⟨p,ew,by rw[atn nT];exact aw,N,M,Y,λi t hi Da au=>?_⟩;rw[atn Da]at au;exact Hl i t hi au
mutual
theorem ZG(bm:Bool)(gg:aa):∀(n:aa) (x:aT) (c:e6) (l:List aT),fs bm gg l->tt l->x.n=n->rp n->l[x.si]?=some x->tp c l->(∀i s,0<i->l[i]?=some s->s.fi≠x.di)->tt (l++fT n x c)
 |.mk aX xX t tg gT a2 a3 a4 a5 zV ag cC,x,c,l,F,hs,za,cD,I,hc,fe=>by
  simp only[fT];have GC:=(Ka _).1 cD;by_cases N:xX=0
  ·have p0:x.n.J=ag:=as' aa.J za;exact QG bm gg ag (ce 0 ag) x c l 0 F hs (by rw[aT.de,za,N];rfl) (by rw[p0];rfl) (by rw[p0];rfl) GC.2 I hc (λi s h0 h1 A=>absurd A (fe i s h0 h1))
  have:ag=[]:=GC.1 N;subst this;simpa[fm]using hs
theorem QG(bm:Bool)(gg:aa):∀(ag:List aa) (cS:List as8) (x:aT) (c:e6) (l:List aT) (off:Nat),fs bm gg l->tt l->x.de=true->x.n.J.drop off=ag->(ce 0 x.n.J).drop off=cS->tn ag->l[x.si]?=some x->tp c l->
  (∀i s,0<i->l[i]?=some s->s.fi=x.di->∃j,j<off/\xI x s j)->tt (l++fm ag cS x c)
 |[],_,x,c,l,off,F,hs,_,_,_,_,_,_,_=>by simpa[fm]using hs
 |k::r,[],x,c,l,off,F,hs,_,_,_,_,_,_,_=>by simpa[fm]using hs
 |k::r,m::cS,x,c,l,off,F,hs,N,b5,g',cD,I,hc,hinv=>by
  simp only[tn]at cD
  have jT:x.n.J[off]?=some k:=by
   have:=as' (λV=>V[0]?) b5;simpa using this
  have Wu:(ce 0 x.n.J)[off]?=some m:=by
   have:=as' (λV=>V[0]?) g';simpa using this
  have ZH:x.n.J.drop (off+1)=r:=by rw[<-List.drop_drop,b5];rfl
  have ZI:(ce 0 x.n.J).drop (off+1)=cS:=by rw[<-List.drop_drop,g'];rfl
  simp only[fm];split
  ·rename_i ha;have a1:=Qb (m:=m) I N hc (atr jT) ha;have mS:=F.we a1;have fc:=hc.add (bX x k m c);have Fe:xI x (bX x k m c) off:=⟨jT,m,Wu,rfl,rfl⟩;have hq:tt (l++[bX x k m c]):=hs.we a1.ab a1.dq N rfl Fe (λi t h0 h1 A=>hinv i t h0 h1 A)
   have CK:(l++[bX x k m c])[(bX x k m c).si]?=some (bX x k m c):=by
    rw[a1.si];simp
   have A0:x.di<(bO l).length:=(F.AY I N).2;have lK:(bX x k m c).di=(bO l).length:=a1.di
   have fe:∀i s,0<i->(l++[bX x k m c])[i]?=some s->s.fi≠(bX x k m c).di:=λi s h0 h1=>by
    rcases atB.1 (atr h1)with A|A
    ·have:=F.Kh s A;omega
    rw[atW]at A;subst A;have:(bX x k m c).fi=x.di:=rfl;omega
   have jn:=ZG bm gg k (bX x k m c) (c.add (bX x k m c)) (l++[bX x k m c]) mS hq rfl cD.1 CK fc fe;have g6:=Qc bm gg k (bX x k m c) (c.add (bX x k m c)) (l++[bX x k m c]) mS rfl cD.1 CK fc;have bs:=fc.jA (m:=fT k (bX x k m c) (c.add (bX x k m c)))
   have bi:x.si<l.length:=by
    rcases ats x.si l.length with h|h
    ·exact h
    rw[atj h]at I;cases I
   have F':(l++[bX x k m c]++fT k (bX x k m c) (c.add (bX x k m c)))[x.si]?=some x:=by
    rw[atL,atn bi];exact I
   have anz:∀i s,0<i->(l++[bX x k m c]++fT k (bX x k m c) (c.add (bX x k m c)))[i]?=some s->s.fi=x.di->∃j,j<off+1/\xI x s j:=λi s h0 h1 A=>by
    rcases ats i l.length with hi|hi
    ·rw[atL,atn hi]at h1;obtain⟨j,ad,Y⟩:=hinv i s h0 h1 A;exact⟨j,by omega,Y⟩
    rcases ats l.length i with aV|aV
    ·rw[atJ as0]at h1
     have C1:(bO l).length<=(c.add (bX x k m c)).uI:=by
      have:=e6.QE c (bX x k m c);have:=hc.2.1;omega
     rcases ZF k _ _ s (atr h1)with Z|Z
     ·rw[Z,lK]at A;omega
     omega
    have:i=l.length:=asZ
    subst this;rw[atL,atJ (atg _),avY]at h1;simp at h1;subst h1;exact⟨off,atX _,Fe⟩
   have qq:=QG bm gg r cS x _ _ (off+1) g6 jn N ZH ZI cD.2 F' bs anz;simpa using qq
  exact QG bm gg r cS x c l (off+1) F hs N ZH ZI cD.2 I hc (λi s h0 h1 A=>by
   obtain⟨j,ad,Y⟩:=hinv i s h0 h1 A
   exact⟨j,by omega,Y⟩)
end
theorem anA(bm:Bool){n:aa}(cD:rp n)(h0:n.kind=0):tt (Gf bm n):=by refine ZG bm n n (cV bm n) ⟨1,1,0⟩ [cV bm n] (.y' h0) ?_ rfl cD rfl ?_ ?_;intro i s hi hs;rw[atj as0]at hs;cases hs;refine⟨rfl,?_,?_⟩;simp[bO,aT.de,cV,h0];simp[ee,cV];intro i s hi hs;rw[atj as0]at hs;cases hs
theorem anB:∀a,a<120->(32:UInt8)∉Lib.decDigits a/\(59:UInt8)∉Lib.decDigits a:=by decide +kernel
theorem anC:∀k,k<100->(59:UInt8)∉jg k:=by decide +kernel
theorem QH(h:(59:UInt8)∉s):Lib.hasSuffix s [59,49]=false:=by cases hs:Lib.hasSuffix s [59,49]with|false=>rfl|true =>rw[Lib.hasSuffix,avC]at hs;obtain⟨t,rfl⟩:=hs;exact absurd as1 h
theorem fs.ZJ{bm:Bool}{n:aa}(h:fs bm n l):∀(j:Nat) (s:aT),(ee l)[j]?=some s->s.mno=j+1:=by induction h with|y' h0 =>intro j s hs;(have e:ee [cV bm n]=[]:=by simp[ee,cV]);rw[e]at hs;simp at hs|@we l t p h a1 aY =>intro j s hs;(cases N:t.mv with|false=>rw[Qh N]at hs;exact aY j s hs|true =>rw[Za N]at hs;rcases ats j (ee l).length with ad|ad;rw[atn ad]at hs;exact aY j s hs;rcases ats (ee l).length j with aV|aV;rw[atj as0]at hs;cases hs;(have:j=(ee l).length:=by omega);subst this;rw[avg]at hs;cases hs;exact a1.mno)
structure anD (bm:Bool) (n:aa) (T:List aT) (s:aT):Prop where
 fi:s.fi<=(bO T).length
 bd:s.de=true->∃q,(bO T)[q]?=some s/\s.di=q+1
 asd:s.mv=true->s.de=true
 name:∃p j m bw bV,xI p s j/\p.di=s.fi/\(cV bm n::T)[p.si]?=some p/\p.de=true/\(ce 0 p.n.J)[j]?=some m/\nM m (s.n.kind==0) bw bV/\(if s.mv then s.file else s.id)=wl m (s.de&&!s.mv)/\(p.di=0->p=cV bm n)
theorem anE{s p:aT}{m:as8}(Y:xI p s j)(hm:(ce 0 p.n.J)[j]?=some m)(M:nM m (s.n.kind==0) bw bV):(if s.mv then s.file else s.id)=wl m (s.de&&!s.mv):=by obtain⟨_,wG,tW,h1,A⟩:=Y;rw[hm]at tW;cases tW;cases W:s.mv with|true=>rw[as_ rfl,A,M.file.ident];simp|false=>rw[as9 as2,h1,M.ident];simp[aT.de]
theorem Kr{bm:Bool}{n:aa}{T:List aT}(ax:il n)(F:fs bm n (cV bm n::T))(hs:tt (cV bm n::T)){s:aT}(hT:s∈T):anD bm n T s:=by obtain⟨t,au⟩:=atz.1 hT;have h1:(cV bm n::T)[t+1]?=some s:=au;(have A1:(cV bm n).de=true:=by rw[aT.de,cV,F.kind];rfl);(have uQ:bO (cV bm n::T)=cV bm n::bO T:=by rw[bO,aui,as_ A1];rfl);obtain⟨p,a1,aw,bi⟩:=F.dq (Nat.succ_pos t) h1;obtain⟨BO,j,zT,qB,kX,Y,_⟩:=hs (t+1) s (Nat.succ_pos t) h1;rw[aw]at zT;cases zT;have ZK:=F.si aw;have anF:=(F.QD ax _ _ aw).1;obtain⟨gP,_,_,xe⟩:=(tc p.n).1 anF;have fD:=Y;obtain⟨Ks,m,hm,kO,ase⟩:=fD;(have tP:j<p.n.J.length:=by rcases ats j p.n.J.length with h|h;exact h;rw[atj h]at Ks;cases Ks);obtain⟨bw,bV,M⟩:=Y2 gP (λk Y=>(q_ xe Y).1.1) tP;(have s0:(ce 0 p.n.J)[j]'(by rw[oo];exact tP)=m:=by rw[ata (by rw[oo];exact tP)]at hm;exact at3 hm);(have te:p.n.J[j]=s.n:=by rw[ata tP]at Ks;exact at3 Ks);rw[s0,te]at M;refine⟨?_,λN=>?_,λgx=>?_,p,j,m,bw,bV,Y,a1.fi.symm,by rw[ZK];exact aw,qB,hm,M,anE Y hm M,λh0=>?_⟩;have:=F.Kh s (atr h1);rw[uQ]at this;simpa[Nat.lt_succ_iff]using this;obtain⟨wg,_⟩:=F.AY (by rw[F.si h1];exact h1) N;rw[uQ]at wg;(have h0:s.di≠0:=by have:=(F.lv _ _ h1).2.2.2 (Nat.succ_pos t) N;omega);obtain⟨q,G⟩:∃q,s.di=q+1:=⟨s.di-1,by omega⟩;rw[G]at wg;exact⟨q,wg,G⟩;have Z:=a1.mv;rw[gx]at Z;(cases h:s.de with|true=>rfl|false=>rw[h]at Z;cases Z);obtain⟨wj,_⟩:=F.AY (by rw[ZK];exact aw) qB;rw[h0,uQ]at wj;exact(at3 wj).symm
theorem anG(m:as8):Lib.hasSuffix (m++[46,59,49]) [59,49]=true:=by have:=Jy (m++[46]) [59,49];simpa using this
structure ZL (D:List eM) (e:gu):Prop where
 eP:0<=e.eP/\e.eP<D.length
 bd:-1<=e.bd/\e.bd<D.length
 asf:Lib.hasSuffix e.id [59,49]=decide (e.bd<0)
 asg:0<=e.bd->∃d,D[e.bd.toNat]?=some d/\d.cA=e.eP/\d.id=e.id/\d.path=e.path
theorem anH{bm:Bool}{n:aa}{T:List aT}(ax:il n)(F:fs bm n (cV bm n::T))(hs:tt (cV bm n::T))(hT:T.length<100):
  ∀e∈tk (jg (lz (ce 0 n.J))) T,ZL (lA (jg (lz (ce 0 n.J))) T) e:=by
 intro e ao;obtain⟨gP,_,_,_⟩:=(tc n).1 ax;obtain⟨Aw,qW,_⟩:=Pl (gs:=ce 0 n.J) (by rw[oo];exact gP);have aj:=QB (jg (lz (ce 0 n.J))) T
 have A2:∀i,e∈mF (eN T) T i->ZL (lA (jg (lz (ce 0 n.J))) T) e:=λi h=>by
  obtain⟨s,c9,rfl⟩:=aty.1 h;obtain⟨wk,_⟩:=at2.1 c9;obtain⟨kX,vU,uO,p,j,m,bw,bV,Y,wj,aw,qB,hm,vW,QI,uM⟩:=Kr ax F hs wk;have rU:h9 (eN T) s.fi<1+eN T+(bO T).length:=by unfold h9;split<;>omega
  have kO:(s.l4 (eN T)).id=wl m (s.de&&!s.mv):=QI;refine⟨⟨avP _,by rw[aj];exact avz.2 rU⟩,?_,?_,?_⟩
  ·show -1<=(if(s.de&&!s.mv)=true then((h9 (eN T) s.di:Nat):Int)else -1)/\(if(s.de&&!s.mv)=true then((h9 (eN T) s.di:Nat):Int)else -1)<_;split
   ·rename_i h1;rw[atd]at h1;obtain⟨q,G,Df⟩:=vU h1.1
    have lj:q<(bO T).length:=by
     rcases ats q (bO T).length with h|h
     ·exact h
     rw[atj h]at G;cases G
    rw[Df,aj,h9,as9 asZ];omega
   omega
  ·rw[kO];show _=decide ((if(s.de&&!s.mv)=true then((h9 (eN T) s.di:Nat):Int)else -1)<0)
   cases N:(s.de&&!s.mv)with
   |true =>
    rw[as_ rfl,atU asZ,wl,as_ rfl];exact QH vW.anw
   |false =>
    rw[as9 as2,aug as2,anv];split
    ·exact Jy m [59,49]
    exact anG m
  intro h0
  have h1:(s.de&&!s.mv)=true:=by
   cases N:(s.de&&!s.mv)with
   |true=>rfl
   |false =>
    have:(s.l4 (eN T)).bd=-1:=by show(if(s.de&&!s.mv)=true then _ else _)=_;rw[N];rfl
    omega
  have GM:(s.l4 (eN T)).bd=((h9 (eN T) s.di:Nat):Int):=by show(if(s.de&&!s.mv)=true then _ else _)=_;rw[as_ h1]
  rw[atd]at h1;have gx:s.mv=false:=by simpa using h1.2
  obtain⟨q,G,Df⟩:=vU h1.1;refine⟨s.jB (eN T),by rw[GM,atE,Df];exact Ko G,?_,?_,rfl⟩
  ·simp[aT.jB,aT.l4,gx]
  simp[aT.jB,aT.l4,gx]
 rw[tk]at ao;rcases atB.1 ao with ao|ao
 ·rcases atB.1 ao with ao|ao
  ·rcases atB.1 ao with ao|ao
   ·split at ao
    ·cases ao
    rename_i h1;rw[atW]at ao;subst ao
    have hA : eN T = 1 := by rcases Kn T with h|h;· exact absurd h h1
                             exact h
    refine⟨⟨at5 _,by rw[aj];show(0:Int)<_;omega⟩,⟨by show(-1:Int)<=1;decide,by rw[aj,hA];show(1:Int)<_;omega⟩,?_,λ_=>⟨_,Kp hA,rfl,rfl,rfl⟩⟩;show Lib.hasSuffix (jg (lz (ce 0 n.J))) [59,49]=_;rw[QH (anC _ Aw)];rfl
   exact A2 0 ao
  obtain⟨s,c9,rfl⟩:=aty.1 ao;obtain⟨wk,gx⟩:=at2.1 c9;obtain⟨kX,vU,uO,_⟩:=Kr ax F hs wk;obtain⟨q,G,Df⟩:=vU (uO gx)
  have lj:q<(bO T).length:=by
   rcases ats q (bO T).length with h|h
   ·exact h
   rw[atj h]at G;cases G
  have hA:=ZC wk gx;have hm:ee (cV bm n::T)=ee T:=by rw[ee,aui,as9 (by simp[cV])];rfl
  obtain⟨i,hi⟩:=atz.1 c9;have fe:=F.ZJ i s (by rw[hm];exact hi)
  have cz:i<(ee T).length:=by
   rcases ats i (ee T).length with h|h
   ·exact h
   rw[atj h]at hi;cases hi
  have gw:(ee T).length<=T.length:=atN _ _;have GM:(s.ov (eN T)).bd=((h9 (eN T) s.di:Nat):Int):=rfl;refine⟨⟨by show(0:Int)<=1;decide,by rw[aj,hA];show(1:Int)<_;omega⟩,⟨by rw[GM];omega,?_⟩,?_,λ_=>⟨s.jB (eN T),by rw[GM,atE,Df];exact Ko G,?_,?_,rfl⟩⟩
  ·rw[GM,Df,aj,h9,as9 asZ];omega
  ·show Lib.hasSuffix (68::Lib.decDigits s.mno) [59,49]=decide (((h9 (eN T) s.di:Nat):Int)<0);rw[QH,atU asZ];intro h;rcases atu.1 h with h|h
   ·cases h
   exact(anB _ asZ).2 h
  ·simp[aT.jB,aT.ov,gx]
  simp[aT.jB,aT.ov,gx]
 obtain⟨i,_,ao⟩:=au8.1 ao;exact A2 _ ao
end Go.bS.cj


namespace Go.bS.cj
open Go Go.Proofs
variable{B:World}
theorem ZM:∀(q r:List as8) (n:aa),jc n (q++r)=(jc n q).bind λd=>jc d r
 |[],r,n=>rfl
 |m::q,r,n=>by simp only[auh,jc];cases pB m n.J with|none=>rfl|some k=>exact ZM q r k
theorem QJ{n:aa}{l:Int}(h:one n l=0):vz n l=0/\vA n l=0/\vB n=0/\vC n=0/\vD n=0/\nz n l=0:=by
 unfold one at h;simp only[hb,eO]at h
 repeat' split at h
 all_goals first|exact⟨by assumption,by assumption,by assumption,by assumption,by assumption,by assumption⟩|(exact absurd h (by assumption))
variable{s:as8}
theorem Kt(h:dQ s=true):s.length<=256:=by unfold dQ at h;split at h;cases h;unfold chars at h;split at h;simp at h;cases hc:jt s with|none=>rw[hc]at h;simp at h|some l =>rw[hc]at h;have:=B8 s.length s (atg _) l hc;simp at h;omega
theorem anI(h:k0 s=true):s.length<=128:=by unfold k0 at h;split at h;cases h;omega
theorem Ku{x a b:Int}(h:s3 x a b=true):a<=x/\x<=b:=by unfold s3 at h;simp at h;omega
theorem Kv{n:aa}{l:Int}(aj:1<=l)(h:one n l=0):xx n/\n.name.length<=256/\n.target.length<=128/\n.J.length<=64/\(1<l->dQ n.name=true):=by obtain⟨h1,A,Z,aD,bc,cL⟩:=QJ h;(have cO:ua n l=false:=by unfold vz at h1;split at h1<;>simp_all);(have d0:ub n l=false:=by unfold vA at A;split at A<;>simp_all);(have mu:uc n=false:=by unfold vB at Z;split at Z<;>simp_all);(have w3:ud n=false:=by unfold vC at aD;split at aD<;>simp_all);(have uf:r8 n=false:=by unfold vD at bc;split at bc<;>simp_all);(have Fc:r9 n l=false:=by unfold nz at cL;split at cL<;>simp_all);unfold ua at cO;unfold ub at d0;unfold uc at mu;unfold ud at w3;unfold r8 at uf;unfold r9 at Fc;simp only[auK,auN,au6,auQ]at cO d0 mu w3 uf Fc;have sH:=Ku uf.1.1.1.1.1;have Fi:=Ku uf.1.1.1.1.2;have ash:=Ku uf.1.1.1.2;have asi:=Ku uf.1.1.2;(have m':1<l->dQ n.name=true:=λnx=>by rcases d0.2 with h|h;exact absurd nx h;exact h);(have jL:n.name.length<=256:=by rcases Int.lt_or_le 1 l with nx|nx;exact Kt (m' nx);(have:l=1:=by omega);subst this;rcases d0.1 with h|h;simp at h;(have:n.name=[]:=by simpa using h);rw[this];simp);(have u6:n.target=[]\/k0 n.target=true:=by rcases w3 with h|h;rcases mu.1.2 with bz|bz;rw[h]at bz;cases bz;exact .inl (by simpa using bz);exact .inr h);(have iZ:n.target.length<=128:=by rcases u6 with h|h;rw[h];simp;exact anI h);(have eR:n.J.length<=64:=by omega);exact⟨⟨by omega,by omega,by omega,by omega,by omega,by omega,by omega,by omega,by omega,by omega,u6,by omega,by omega,by omega⟩,jL,iZ,eR,m'⟩
theorem ZN:∀{ag:List aa} {l:Int},nc ag l=true->∀k∈ag,iK k l=true
 |x::r,l,h,k,Y=>by rw[nc,atd]at h;rcases atu.1 Y with e|e;subst e;exact h.1;exact ZN h.2 k e
theorem anJ{n k:aa}{l:Int}(h:iK n l=true)(Y:k∈n.J):iK k (l+1)=true:=by rw[IZ,atd]at h;exact ZN h.2 k Y
theorem Kw{n:aa}{l:Int}(h:iK n l=true):one n l=0:=by rw[IZ,atd]at h;simpa using h.1
theorem anK(q:List as8)(m:as8):nF (q++[m])=if q=[]then m else nF q++[47]++m:=by cases q with|nil=>simp[nF,lw]|cons a r =>rw[as9 as1];(have:∀(r:List as8),lw (r++[m])=lw r++47::m:=λr=>by induction r with|nil=>simp[lw]|cons a r aY=>simp[lw]);simp[nF,this]
variable{l:List aT}
theorem fs.ZO{bm:Bool}{n:aa}(ax:il n)(aV:iK n 1=true)(F:fs bm n l):∀(i:Nat) (s:aT),l[i]?=some s->∃q,xj q/\s.path=nF q/\(q.length:Int)=s.lv-1/\jc n q=some s.n/\iK s.n s.lv=true:=by intro i;induction i using Nat.strongRecOn with|_ i aY =>intro s hs;rcases at1 i with rfl|hi;rw[F.tq.1]at hs;cases hs;exact⟨[],(λm hm=>by cases hm),rfl,rfl,rfl,aV⟩;obtain⟨p,a1,aw,bi⟩:=F.dq hi hs;obtain⟨q,G,QK,lj,anL,anM⟩:=aY s.ab asZ p aw;have fe:=(F.QD ax i s hs).2 hi;have Kx:=(F.QD ax s.ab p aw).1;have GF:=a1.lv;refine⟨q++[s.n.name],λm hm=>?_,?_,by simp;omega,?_,?_⟩;rcases atB.1 hm with h|h;exact G m h;rw[atW]at h;rw[h];exact fe;rw[anK,a1.path,Go.bS.cj.below];by_cases h:q=[];rw[as_ h,as_ (by subst h;simp at lj;omega)];rw[as9 h,as9 (by have:=auq.2 h;omega),QK];rw[ZM,anL];show jc p.n [s.n.name]=some s.n;rw[WJ (Ov Kx) a1.Qa rfl];rfl;rw[GF];exact anJ anM a1.Qa
theorem ZP{α:Type}(g:as8->α):∀(bT:List as8) (m:List (as8×α)) (p:as8),bZ (bT.foldl (λm p=>fd m p (g p)) m) p=if p∈bT then some (g p)else bZ m p
 |[],m,p=>by simp
 |x::r,m,p=>by rw[auF,ZP g r,pE];by_cases h:p∈r;rw[as_ h,as_ (ato _ h)];rw[as9 h];by_cases A:p=x;subst A;rw[as_ rfl,as_ atk];rw[as9 A,as9 (λhc=>by rcases atu.1 hc with Z|Z;exact A Z;exact h Z)]
theorem anN{n:aa}{p:as8}(h:p∈dA n [] 1):g2 (f3 (eD n) n (dA n [] 1)) p=(eD n p).1:=by unfold g2 f3;rw[ZP (λp=>(eD n p).1),as_ h];rfl
theorem fs.g2{bm:Bool}{n:aa}(ax:il n)(aV:iK n 1=true){l:List aT}(F:fs bm n l){i:Nat}{s:aT}(hs:l[i]?=some s):Go.bS.cj.g2 (f3 (eD n) n (dA n [] 1)) s.path=s.n/\iK s.n s.lv=true/\1<=s.lv:=by
 obtain⟨q,G,aw,aj,Ky,ib⟩:=F.ZO ax aV i s hs;have hm:q∈pA n:=(Ow q n ax).2 ⟨_,Ky⟩;have q8:s.path∈dA n [] 1:=by rw[Oy,aw];exact List.mem_map_of_mem hm
 refine⟨?_,ib,by omega⟩;rw[anN q8,aw,aii G,Ky]
theorem Kz{a b:as8}(h:im a)(bz:im b):im (a++b):=λc hc=>by
 rcases atB.1 hc with e|e
 ·exact h c e
 exact bz c e
theorem ZQ{x:UInt8}{b:as8}(h:x.toNat<128)(bz:im b):im (x::b):=λc hc=>by
 rcases atu.1 hc with e|e
 ·subst e;exact h
 exact bz c e
theorem anO:∀c:UInt8,q' c=true->c.toNat<128:=by
 intro c h;have:∀n,n<256->q' (UInt8.ofNat n)=true->n<128:=by decide +kernel
 have A:=this c.toNat c.toNat_lt (by rw[UInt8.ofNat_toNat];exact h);exact A
theorem QL{m:Int}(h:oq s m=true):im s:=λc hc=>by
 simp only[oq,uz,atd,at0]at h;exact anO c (h.2.2.2 c hc)
variable{bw bV:as8}{bd:Bool}
theorem nM.QM{m:as8}(h:nM m bd bw bV):im m:=by rcases h.eq with⟨_,A⟩|⟨_,_,Z,aD⟩;rw[A];exact QL h.a;rw[aD];exact Kz (QL h.a) (ZQ as2 (QL Z))
theorem anP{m:as8}(h:nM m bd bw bV)(d:Bool):im (wl m d)/\(wl m d).length<=15:=by have aj:=h.len;unfold wl;split;exact⟨h.QM,by omega⟩;split;exact⟨Kz h.QM (by intro c hc;simp at hc;rcases hc with rfl|rfl<;>decide),by simp;omega⟩;exact⟨Kz h.QM (by intro c hc;simp at hc;rcases hc with rfl|rfl|rfl<;>decide),by simp;omega⟩
theorem ZR:∀a,a<120->(Lib.decDigits a).length<=3/\∀c∈Lib.decDigits a,c.toNat<128:=by decide +kernel
variable{k:Nat}
theorem anQ(h:k<100):im (jg k)/\(jg k).length<=9:=by have:=ZR k asZ;unfold jg;split;exact⟨by intro c hc;simp at hc;rcases hc with rfl|rfl|rfl|rfl|rfl|rfl|rfl|rfl<;>decide,by decide⟩;refine⟨Kz (by intro c hc;simp at hc;rcases hc with rfl|rfl|rfl|rfl|rfl|rfl<;>decide) this.2,?_⟩;simp;omega
variable{bu:as8}
theorem ZS{T:List aT}{e:gu}(h:e∈tk bu T):(e=⟨[47],bu,0,1,true,false,false⟩)\/(∃s∈T,e=s.l4 (eN T))\/(∃s∈ee T,e=s.ov (eN T)):=by(have A2:∀i,e∈mF (eN T) T i->∃s∈T,e=s.l4 (eN T):=λi h=>by obtain⟨s,hs,rfl⟩:=aty.1 h;exact⟨s,(at2.1 hs).1,rfl⟩);rw[tk]at h;rcases atB.1 h with h|h;rcases atB.1 h with h|h;rcases atB.1 h with h|h;split at h;cases h;rw[atW]at h;exact .inl h;exact .inr (.inl (A2 0 h));obtain⟨s,hs,rfl⟩:=aty.1 h;exact .inr (.inr ⟨s,hs,rfl⟩);obtain⟨i,_,h⟩:=au8.1 h;exact .inr (.inl (A2 _ h))
structure KA (bm:Bool) (n:aa) (D:List eM) (er:List gu):Prop where
 J8:D.length<=103
 bD:er.length<=201
 gU:∃d,D[0]?=some d
 Gh:∀d∈D,0<=d.cA/\d.cA<(D.length:Nat)
 J9:∀e∈er,0<=e.eP/\e.eP<(D.length:Nat)
 J_:∀d∈D,d.id.length<=100/\im d.id
 anR:∀e∈er,e.id.length<=100/\im e.id
 ZT:∀e∈er,e.CR=true->∃m:aa,g2 (f3 (eD n) n (dA n [] 1)) e.path=m/\xx m/\dQ m.name=true/\m.name.length<=256/\m.target.length<=128/\e.path.length<=100000
theorem ZU:∀{q:List as8} (_:xj q),(lw q).length<=257*q.length
 |[],_=>by simp[lw]
 |m::r,h=>by have aY:=ZU (q:=r) λx I=>h x (ato _ I);have:=Kt (h m atk);simp only[lw,auc,atf,ath]at aY⊢;omega
theorem anS{q:List as8}(h:xj q):(nF q).length<=257*q.length:=by cases q with|nil=>simp[nF]|cons m r =>have:=ZU (q:=r) λx I=>h x (ato _ I);have:=Kt (h m atk);simp only[nF,atf,ath];omega
theorem anT{n:aa}{l:Int}(h:one n l=0):l<=16:=aw5
theorem anU{bm:Bool}{n:aa}(W:valid n=true)(hc:fH n<99):KA bm n (mG bm n).1 (mG bm n).2.1/\(mG bm n).2.2=0:=by have ax:=AB W;obtain⟨xG,jT⟩:=Qe W;(have aV:iK n 1=true:=by rw[vT,atd]at W;exact W.2);obtain⟨bu,T,aw,F,hT,yC⟩:=anu (bm:=bm) W;(have QN:tt (cV bm n::T):=by rw[hT];exact anA bm xG jT);(have AH:T.length<99:=by have:=P_ n (cV bm n) ⟨1,1,0⟩;rw[<-hT]at this;omega);(have anV:∀s∈T,s.iso=true->lo 0 s.n s.lv=true:=by rw[hT];exact anl n (cV bm n) ⟨1,1,0⟩);have anW:=anr F anV bu;have ZV:=anH ax F QN asZ;have anX:=λs (hs:s∈T)=>(Kr ax F QN hs).name;obtain⟨gP,_,_,_⟩:=(tc n).1 ax;obtain⟨Aw,_,_⟩:=Pl (gs:=ce 0 n.J) (by rw[oo];exact gP);have CZ:=anQ Aw;rw[<-yC]at ZV CZ;have anY:∀x∈T,x.fi<=(bO T).length:=λx I=>(Kr ax F QN I).fi;have jN:=QB bu T;have asj:=Kn T;have ask:(bO T).length<=T.length:=atN _ _;have fr:=amj bu anY;(have Qp:∀s∈ee T,s.mno<120:=λs hs=>by(have hm:ee (cV bm n::T)=ee T:=by rw[ee,aui,as9 (by simp[cV])];rfl);obtain⟨i,hi⟩:=atz.1 hs;have fe:=F.ZJ i s (by rw[hm];exact hi);(have cz:i<(ee T).length:=by rcases ats i (ee T).length with h|h;exact h;rw[atj h]at hi;cases hi);have gw:(ee T).length<=T.length:=atN _ _;omega);(have Kj:∀s∈T,im (if s.mv then s.file else s.id)/\(if s.mv then s.file else s.id).length<=15:=λs hs=>by obtain⟨p,j,m,bw,bV,Y,wj,aw,qB,hm,vW,QI,uM⟩:=anX s hs;rw[QI];exact anP (by exact(by cases N:(s.n.kind==0)with|true=>rw[N]at vW;exact vW|false=>rw[N]at vW;exact vW:nM m (s.n.kind==0) bw bV)) _);(have ZW:∀s∈ee T,im (68::Lib.decDigits s.mno)/\(68::Lib.decDigits s.mno).length<=4:=λs hs=>by have:=ZR s.mno (Qp s hs);exact⟨ZQ as2 this.2,by simp;omega⟩);(have ZX:∀s∈T,∃m:aa,g2 (f3 (eD n) n (dA n [] 1)) s.path=m/\xx m/\dQ m.name=true/\m.name.length<=256/\m.target.length<=128/\s.path.length<=100000:=λs hs=>by obtain⟨t,au⟩:=atz.1 hs;have h1:(cV bm n::T)[t+1]?=some s:=au;obtain⟨ha,ib,GF⟩:=F.g2 ax aV h1;obtain⟨q,G,QK,lj,_,_⟩:=F.ZO ax aV (t+1) s h1;have A:=(F.lv (t+1) s h1).2.2.1 asZ;have ah:=Kw ib;obtain⟨cO,d0,mu,w3,uf⟩:=Kv GF ah;have asl:=anT ah;refine⟨_,ha,cO,uf asZ,d0,mu,?_⟩;have:=anS G;rw[QK];omega);rw[aw];refine⟨⟨by dsimp only;omega,by dsimp only;omega,⟨_,QA bu T⟩,λd N=>?_,λe ao=>(ZV e ao).eP,λd N=>?_,λe ao=>?_,λe ao ha=>?_⟩,rfl⟩;obtain⟨i,hi⟩:=atz.1 N;have cz:=(atI.1 hi).1;dsimp only at hi cz⊢;rcases at1 i with h0|h0;subst h0;rw[QA]at hi;cases hi;exact⟨by decide,by show(0:Int)<_;omega⟩;have:=(anW i d hi).dq h0;omega;obtain⟨i,hi⟩:=atz.1 N;rcases ZB hi with⟨_,rfl⟩|⟨_,_,rfl⟩|⟨k,s,hs,_,rfl⟩;exact⟨by decide,by intro c hc;simp[y0]at hc;subst hc;decide⟩;exact⟨by dsimp only;omega,CZ.1⟩;have wk:s∈T:=(at2.1 (atr hs)).1;simp only[aT.jB];split;rename_i hm;have:=ZW s (at2.2 ⟨wk,hm⟩);exact⟨by omega,this.1⟩;rename_i hm;have:=Kj s wk;rw[as9 hm]at this;exact⟨by omega,this.1⟩;rcases ZS ao with rfl|⟨s,hs,rfl⟩|⟨s,hs,rfl⟩;exact⟨by dsimp only;omega,CZ.1⟩;have:=Kj s hs;exact⟨by simp only[aT.l4];omega,this.1⟩;have:=ZW s hs;exact⟨by simp only[aT.ov];omega,this.1⟩;rcases ZS ao with rfl|⟨s,hs,rfl⟩|⟨s,hs,rfl⟩;cases ha;exact ZX s hs;exact ZX s (at2.1 hs).1
def KB(aP:List eM)(e:gu):as8:=((aP[e.eP.toNat]?).map (·.path)).getD []
def gi(n:aa)(aP:List eM)(x:bP):List c_:=match x.hu with
 |.e3=>[]
 |.JB=>Jz n
 |.dq _=>JA
 |.JC m e=>Pp m e (KB aP e)
variable{ap:List (as8×aa)}{aP:List eM}{cm:List gu}{i:Nat}
theorem QO{o:f1}{x:bP}(h:x∈e' o ap aP cm i):(x.id=[0]/\(x.hu=.e3\/x.hu=.JB))\/(x.id=[1]/\(x.hu=.e3\/∃d,x.hu=.dq d))\/(∃e∈cm,x.id=e.id/\(x.hu=.e3\/(e.CR=true/\x.hu=.JC (g2 ap e.path) e))):=by unfold e' at h;split at h;rename_i d N;rcases atu.1 h with e|h;subst e;refine .inl ⟨rfl,?_⟩;unfold v1;dsimp only;split;exact .inr rfl;exact .inl rfl;rcases atu.1 h with e|h;subst e;refine .inr (.inl ⟨rfl,?_⟩);unfold v6;dsimp only;split;exact .inr ⟨_,rfl⟩;exact .inl rfl;obtain⟨e,ao,rfl⟩:=aty.1 h;refine .inr (.inr ⟨e,(at2.1 ao).1,rfl,?_⟩);unfold rj;dsimp only;split;rename_i ha;exact .inr ⟨ha,rfl⟩;exact .inl rfl;cases h
variable{fA:List eM}{er:List gu}
theorem anZ(aW:dc B){bm:Bool}{n:aa}(bM:KA bm n fA er)(ax:xx n)(o:f1)(bU bE bK:Nat)(cy:List (as8×Int)){x:bP}(I:x∈e' o (f3 (eD n) n (dA n [] 1)) fA er i): AQ B (.mp bK (br (D.int .i64) cy)) (kh (.a8 26 [dE o n bU bE] 0 0) bK fA x.hu) (gi n fA x):=by(have fe:x.hu=.e3->AQ B (.mp bK (br (D.int .i64) cy)) (kh (.a8 26 [dE o n bU bE] 0 0) bK fA x.hu) (gi n fA x):=λh=>by unfold gi;rw[h];exact YR _);rcases QO I with⟨_,h|h⟩|⟨_,h|⟨d,h⟩⟩|⟨e,ao,_,h|⟨ha,h⟩⟩;exact fe h;unfold gi;rw[h];exact⟨160,[],[.a8 1 [.a8 26 [dE o n bU bE] 0 0] 0 0],rfl,mO.P4 _ (akb aW _ o n bU bE ax)⟩;exact fe h;unfold gi;rw[h];exact⟨165,[],[.a8 6 [gF d] 0 0],rfl,mO.P4 _ (akc aW d)⟩;exact fe h;unfold gi;rw[h];obtain⟨m,hm,cD,m',_,_,dj⟩:=bM.ZT e ao ha;obtain⟨h0,h1⟩:=bM.J9 e ao;obtain⟨d,N⟩:∃d,fA[e.eP.toNat]?=some d:=⟨_,ata asZ⟩;(have Qy:KB fA e=d.path:=by unfold KB;rw[N];rfl);rw[hm];dsimp only;rw[Qy];exact⟨167,[],_,rfl,ake aW o n bU bE m bK cy fA e d cD m' dj ⟨h0,N⟩⟩
theorem ZY{kind hf j_ j' ka:Int}{named:Bool}{name target:as8}{fh bX:Int}{jV:Bool}(ax:name.length<=256)(au:target=[]\/k0 target=true):∀y∈us kind hf j_ j' ka named name target fh bX jV,y.qs.length<=2/\y.data.length<=30000:=λy hy=>by
 have ae:=Vx fh 0
 have F:∀l:List Int,(hg l).length=8*l.length:=λl=>by
  unfold hg
  induction l with
  |nil=>rfl
  |cons a r aY=>rw[auc,atf,aY,IO,ath];omega
 unfold us at hy;rcases atu.1 hy with rfl|hy
 ·exact⟨by simp,by simp[F]⟩
 rcases atB.1 hy with hy|hy
 ·split at hy
  ·rw[atW]at hy;subst hy;exact⟨by simp,by simp;omega⟩
  cases hy
 rcases atB.1 hy with hy|hy
 ·split at hy
  ·rename_i a6;rcases au with h|h
   ·exact absurd h a6
   have:=VO target h;rw[atW]at hy;subst hy;exact⟨by simp,by simp;omega⟩
  cases hy
 rcases atu.1 hy with rfl|hy
 ·exact⟨by simp,by simp;omega⟩
 rcases atB.1 hy with hy|hy
 ·split at hy
  ·rw[atW]at hy;subst hy;exact⟨by simp,by simp[F]⟩
  cases hy
 split at hy
 ·rw[atW]at hy;subst hy;exact⟨by simp,by simp⟩
 cases hy
theorem an0{bm:Bool}{n:aa}(bM:KA bm n fA er)(ax:xx n){o:f1}{x:bP}(I:x∈e' o (f3 (eD n) n (dA n [] 1)) fA er i): (gi n fA x).length<=8/\∀y∈gi n fA x,y.qs.length<=2/\y.data.length<=30000:=by(have fe:x.hu=.e3->(gi n fA x).length<=8/\∀y∈gi n fA x,y.qs.length<=2/\y.data.length<=30000:=λh=>by unfold gi;rw[h];exact⟨by simp,λy hy=>by cases hy⟩);rcases QO I with⟨_,h|h⟩|⟨_,h|⟨d,h⟩⟩|⟨e,ao,_,h|⟨ha,h⟩⟩;exact fe h;unfold gi;rw[h];dsimp only;have aj:=Po n.kind n.cx (k3 n 1) n.n2 n.n3 false [] [] n.n4 0 false;unfold Jz;refine⟨by simp;omega,λy hy=>?_⟩;rcases atu.1 hy with rfl|hy;exact⟨by simp,by simp⟩;rcases atB.1 hy with hy|hy;exact ZY as1 (.inl rfl) y hy;rw[atW]at hy;subst hy;exact⟨by simp,by simp⟩;exact fe h;unfold gi;rw[h];dsimp only;refine⟨by simp[JA],λy hy=>?_⟩;unfold JA at hy;rw[atW]at hy;subst hy;exact⟨by simp,by simp[hg,IO]⟩;exact fe h;unfold gi;rw[h];dsimp only;obtain⟨m,hm,cD,m',jL,iZ,dj⟩:=bM.ZT e ao ha;rw[hm];unfold Pp;refine⟨?_,λy hy=>?_⟩;have:=Po m.kind m.cx (k3 m ((e.path.count 47:Nat)+2)) m.n2 m.n3 true m.name m.target m.n4 (if e.AL=true then 1 else 0) (KB fA e==[47]);omega;exact ZY jL cD.tg y hy
theorem an1{bm:Bool}{n:aa}(bM:KA bm n fA er){o:f1}{x:bP}(I:x∈e' o ap fA er i):x.id.length<=100/\im x.id:=by rcases QO I with⟨h,_⟩|⟨h,_⟩|⟨e,ao,h,_⟩;rw[h];exact⟨by decide,by intro c hc;simp at hc;subst hc;decide⟩;rw[h];exact⟨by decide,by intro c hc;simp at hc;subst hc;decide⟩;rw[h];exact bM.anR e ao
theorem ZZ:∀(bC:Nat) (n:aa),o2 n<bC->il n->y7 n:=by intro bC;induction bC with|zero=>intro n h;omega|succ bC aY =>intro n h ax;obtain⟨gP,_,hi,Y⟩:=(tc n).1 ax;have cD:∀k∈n.J,dQ k.name=true:=λk hm=>(q_ Y hm).1.1;(have ae:(k4 1 n.J).1=ce 1 n.J:=by unfold k4;rw[as9 as2,as9 asZ,as9 (by rw[CE,at0.2 (λk hm=>cD k hm)];decide),as9 (λh=>h (CF hi))];exact ain hi);refine .mk n (by rw[ae,oo]) (λx I=>?_) λk hm=>aY k (by have:=PJ hm;have:=AT n;omega) (q_ Y hm).2;rw[ae]at I;have:=Kt (W0 as2 gP cD x I);omega
structure wm (s:k8):Prop where
 aC:∀p∈s.aC,p.1.length<=10000/\0<=p.2/\p.2<=1000000
 id:∀i,∀x∈s.be i,x.id.length<=10000
theorem wm.put{s:k8}(h:wm s)(i:Nat)(x:bP)(I:x.id.length<=10000):wm (hR s i x):=⟨h.aC,λj y hy=>by
 simp only[hR]at hy;split at hy
 ·rcases atB.1 hy with h1|h1
  ·exact h.id j y h1
  rw[atW]at h1;subst h1;exact I
 exact h.id j y hy⟩
theorem wm.new{s:k8}(h:wm s)(id:as8)(p:Nat)(a b:bP)(hi:id.length<=10000)(aw:p<=1000000)(ha:a.id.length<=10000)(F:b.id.length<=10000):wm (mH s id p a b):=⟨λq G=>by
 rcases atB.1 G with h1|h1
 ·exact h.aC q h1
 ·rw[atW]at h1;subst h1;exact⟨hi,by dsimp only;omega,by dsimp only;omega⟩,λj y hy=>by
 simp only[mH]at hy;split at hy
 ·simp at hy;rcases hy with rfl|rfl
  ·exact ha
  exact F
 exact h.id j y hy⟩
mutual
theorem QP(o:f1)(ap:List (as8×aa))(n:aa)(path id:as8)(cA bW:Nat)(s:k8)(kb:y7 n)(h:wm s)(nA:∀j,(s.be j).length<=66)(kO:id.length<=10000)(aw:cA<=1000000)(hc:s.aC.length+fH n<=1000000):
  wm (jF o ap n path id cA bW s)/\(∀j,((jF o ap n path id cA bW s).be j).length<=66)/\(jF o ap n path id cA bW s).aC.length<=s.aC.length+fH n:=by
 match n,kb with
 |.mk a b c d e f g bz i j ag cC,kb =>
  obtain⟨_,h1,A,Z⟩:=kb
  have asm:ag.length<=64:=by
   have lW:(k4 1 ag).1.length=ag.length:=h1;rcases ats 64 ag.length with bi|h2
   ·unfold k4 at lW;rw[as9 as2,as_ bi]at lW;simp at lW;omega
   exact h2
  rw[jF,fH];rw[fH]at hc;have ax:=h.new id cA ⟨[0],bz,o.c4,2,(s.aC.length:Nat),.e3⟩ ⟨[1],(rl ap (.mk a b c d e f g bz i j ag cC) path bW).n4,o.c4,2,(cA:Nat),.e3⟩ kO aw as1 as1;have aj:(mH s id cA ⟨[0],bz,o.c4,2,(s.aC.length:Nat),.e3⟩ ⟨[1],(rl ap (.mk a b c d e f g bz i j ag cC) path bW).n4,o.c4,2,(cA:Nat),.e3⟩).aC.length=s.aC.length+1:=by simp[mH]
  have:=KC o ap ag (k4 1 ag).1 s.aC.length path bW (mH s id cA ⟨[0],bz,o.c4,2,(s.aC.length:Nat),.e3⟩ ⟨[1],(rl ap (.mk a b c d e f g bz i j ag cC) path bW).n4,o.c4,2,(cA:Nat),.e3⟩) Z A ax (λj ad=>by
   simp only[mH];rw[as9 ad];exact nA j) (by simp only[mH,aum,ath,atD];omega) (by rw[aj];omega) (by rw[aj];omega)
  exact⟨this.1,this.2.1,by have:=this.2.2;omega⟩
theorem KC(o:f1)(ap:List (as8×aa))(ag:List aa)(aX:List as8)(d8:Nat)(path:as8)(bW:Nat)(s:k8)(kb:∀k∈ag,y7 k)(m':∀x∈aX,x.length<5000)(h:wm s)(nA:∀j,j≠d8->(s.be j).length<=66)(Z0:(s.be d8).length+ag.length<=66)(ha:d8<s.aC.length)(hc:s.aC.length+eX ag<=1000000):
  wm (iQ o ap ag aX d8 path bW s)/\(∀j,((iQ o ap ag aX d8 path bW s).be j).length<=66)/\(iQ o ap ag aX d8 path bW s).aC.length<=s.aC.length+eX ag:=by
 match ag with
 |[] =>
  rw[iQ];refine⟨h,λj=>?_,by simp[eX]⟩;by_cases ad:j=d8
  ·subst ad;simp at Z0;omega
  exact nA j ad
 |k::ag =>
  rw[iQ,eX];rw[eX]at hc;rw[ath]at Z0
  have akU:(aX.headD []).length<5000:=by
   cases aX with
   |nil=>decide
   |cons a r=>exact m' a atk
  have zP:=afA (aX.headD []);have iZ:∀x∈aX.tail,x.length<5000:=λx I=>m' x (awx I);have C7:=EF k;split
  ·split
   ·have hC:∀j,(s.be j).length<=66:=λj=>by
     by_cases ad:j=d8
     ·subst ad;omega
     exact nA j ad
    have h1:=QP o ap k (ng path k.name bW) (fj (aX.headD [])) d8 (bW+1) s (kb k atk) h hC asZ asZ asZ;have A:=JW o ap k (ng path k.name bW) (fj (aX.headD [])) d8 (bW+1) s
    have aD:=KC o ap ag aX.tail d8 path bW (hR (jF o ap k (ng path k.name bW) (fj (aX.headD [])) d8 (bW+1) s) d8 ⟨fj (aX.headD []),k.n4,o.c4,2,(s.aC.length:Nat),.e3⟩) (λk Y=>kb k (ato _ Y)) iZ (h1.1.put _ _ (by dsimp only;omega)) (λj ad=>by
     simp only[hR];rw[as9 ad];exact h1.2.1 j) (by simp only[hR,aum,atf];rw[A.2.2 d8 ha];simp;omega) (by show d8<(jF o ap k _ _ _ _ s).aC.length;omega) (by show(jF o ap k _ _ _ _ s).aC.length+_<=_;have:=h1.2.2;omega)
    exact⟨aD.1,aD.2.1,by have bc:=aD.2.2;have cL:=h1.2.2;have eV:(hR (jF o ap k (ng path k.name bW) (fj (aX.headD [])) d8 (bW+1) s) d8 ⟨fj (aX.headD []),k.n4,o.c4,2,(s.aC.length:Nat),.e3⟩).aC.length=(jF o ap k (ng path k.name bW) (fj (aX.headD [])) d8 (bW+1) s).aC.length:=rfl;omega⟩
   have aD:=KC o ap ag aX.tail d8 path bW (hR s d8 ⟨fj (aX.headD []),k.n4,o.c4,0,-1,.e3⟩) (λk Y=>kb k (ato _ Y)) iZ (h.put _ _ (by dsimp only;omega)) (λj ad=>by
    simp only[hR];rw[as9 ad];exact nA j ad) (by simp only[hR,aum,atf];simp;omega) ha (by show s.aC.length+_<=_;omega)
   exact⟨aD.1,aD.2.1,by have bc:=aD.2.2;have eV:(hR s d8 ⟨fj (aX.headD []),k.n4,o.c4,0,-1,.e3⟩).aC.length=s.aC.length:=rfl;omega⟩
  have aD:=KC o ap ag aX.tail d8 path bW s (λk Y=>kb k (ato _ Y)) iZ h nA asZ ha asZ;exact⟨aD.1,aD.2.1,by have bc:=aD.2.2;omega⟩
end
theorem an2{o:f1}{n:aa}(ax:il n)(hc:fH n<99)(cH:o2 n<1000000):P5 o ap n:=by
 have kb:=ZZ _ n (atX _) ax;have h:=QP o ap n [] [0] 0 1 ⟨[],λ_=>[]⟩ kb ⟨λp aw=>(by cases aw),λi x I=>(by cases I)⟩ (λj=>by simp) as1 asZ as0;have aj:(kJ o ap n).aC.length<=99:=by have:=h.2.2;show(jF o ap n [] [0] 0 1 ⟨[],λ_=>[]⟩).aC.length<=99;simp at this;omega
 refine⟨kb,cH,by omega,h.1.aC,λi _=>by have:=h.2.1 i;exact Nat.lt_of_le_of_lt this asZ,?_,λi x I=>by have:=h.1.id i x I;omega⟩;have:=CW (bC:=λi=>(((kJ o ap n).be i).length:Nat)) (a:=0) (b:=66) (n:=(kJ o ap n).aC.length) (λi _=>⟨by omega,by have:=h.2.1 i;exact Int.ofNat_le.2 this⟩) (kJ o ap n).aC.length (atg _);omega
theorem QQ{α wO:Type}{f:α->List wO}{b:Nat}:∀{l:List α},(∀x∈l,(f x).length<=b)->(l.flatMap f).length<=b*l.length
 |[],_=>by simp
 |a::r,h=>by have h1:=h a atk;have A:=QQ (f:=f) (l:=r) λx I=>h x (ato _ I);rw[auc,atf,ath,Nat.mul_succ];omega
variable{aG:bP->List c_}{wide:Bool}{be:Nat->List bP}
theorem an3{n c:Nat}{a:Int}(ax:n<=103)(aj:∀i,i<n->(be i).length<=203):a<=y4 aG wide be n a/\y4 aG wide be n a<=a+206000000+198000000:=by unfold y4;have h1:=CW (bC:=λi=>y3 aG wide (be i)) (a:=a) (b:=2000000) (n:=n) (λi hi=>X2 (by have:=aj i hi;omega)) n (atg _);(have hlen:(v' aG wide be n).length<=64*203*n:=by unfold v';(have:=QQ (f:=λi=>(o1 aG wide (be i)).flatMap λx=>(gR aG x).tail) (b:=64*203) (l:=List.range n) λi hi=>by(have Z:=QQ (f:=λx=>(gR aG x).tail) (b:=64) (l:=o1 aG wide (be i)) λx I=>by have:=(JI (JK aG wide x I).2.2).2.1;rw[List.length_tail];omega);have aD:=JL aG wide (L:=be i);have bc:=aj i (auJ.1 hi);have:64*(o1 aG wide (be i)).length<=64*203:=Nat.mul_le_mul_left _ asZ;omega);rw[List.length_range]at this;exact this);have A:=X8 (l:=v' aG wide be n) (λv W=>by unfold v' at W;obtain⟨i,_,W⟩:=au8.1 W;obtain⟨x,I,W⟩:=au8.1 W;exact(JI (JK aG wide x I).2.2).2.2 v (awx W)) (o:=0) (at5 _);generalize(v' aG wide be n).foldl j2 0=V at*;generalize(v' aG wide be n).length=k at*;generalize fL (λi=>y3 aG wide (be i)) a n=y at*;unfold j9;rw[atp asZ];omega
variable{aC:List (as8×Int)}
theorem Z1{a:Int}(ha:0<=a)(M:∀p∈aC,p.1.length<=10000)(ax:aC.length<=103)(aj:∀i,i<aC.length->(be i).length<=203):0<=(ss aG wide aC be a).1/\(ss aG wide aC be a).1<=a+2000+404000000/\((ss aG wide aC be a).2=0->a<=(ss aG wide aC be a).1):=by unfold ss;split;have hT:=YP (mI aC λ_=>0) wide;have dj:=C3 (aC:=aC) (aZ:=λ_=>0);(have aw:=X9 (l:=(nL (mI aC λ_=>0) wide).1) λx I=>by obtain⟨y,hy,ao⟩:=hT.2 x I;obtain⟨j,ad,rfl⟩:=awB.1 hy;rw[ao];exact M aC[j] (ate _));have asn:=hT.1;generalize(nL (mI aC λ_=>0) wide).1=T at*;(have an:0<=j9 (kH T)/\j9 (kH T)<=1000:=by unfold j9;rw[atp asZ];omega);have:=an3 (aG:=aG) (wide:=wide) (be:=be) (n:=aC.length) (c:=0) (a:=a+2*j9 (kH T)) ax aj;dsimp only;exact⟨by omega,by omega,λ_=>by omega⟩;rename_i h;dsimp only;exact⟨by omega,by omega,λA=>absurd A h⟩
noncomputable def iT(o:f1)(n:aa):Int×Int:=if valid n=true then xE o n (f3 (eD n) n (dA n [] 1)) (mG o.rock n).1 (mG o.rock n).2.1 (gi n (mG o.rock n).1)else(0,q7 n o)
theorem an4(aW:dc B)(o:f1)(n:aa)(ax:eY n)(hc:valid n=true->fH n<99/\aB n<800000/\o2 n<1000000):
  aU B 30 [aE n,r6 o] (.bo [u (iT o n).1,u (iT o n).2])/\0<=(iT o n).1/\(iT o n).1<=1000000000:=by
 have bH:aB n+n.name.length<10000000:=by have:=ax;unfold eY at this;omega
 by_cases W:valid n=true
 ·obtain⟨fc,bs,dx⟩:=hc W;have ij:aU B 96 [aE n] (.Q .none 1 (aN (dA n [] 1))):=by have h:=OR (B:=B) aW n ax;rw[as_ W]at h;exact h
  obtain⟨bM,pv⟩:=anU (bm:=o.rock) W fc;have Gj:=am1 (B:=B) aW o.rock n ax (λ_=>⟨fc,bs⟩);have aV:iK n 1=true:=by have h:=W;rw[vT,atd]at h;exact h.2
  have fe:=(Kv (at5 1) (Kw aV)).1;unfold iT;rw[as_ W];generalize(mG o.rock n).1=fA at*;generalize(mG o.rock n).2.1=sv at*
  have mW:∀i,(e' o (f3 (eD n) n (dA n [] 1)) fA sv i).length<=203:=λi=>by
   have:=Gi (o:=o) (ap:=f3 (eD n) n (dA n [] 1)) (aP:=fA) (cm:=sv) (i:=i);have:=bM.bD;omega
  have ad:=an2 (o:=o) (ap:=f3 (eD n) n (dA n [] 1)) (AB W) fc dx
  have hd:0<=(mJ o (f3 (eD n) n (dA n [] 1)) fA sv (gi n fA)).1/\(mJ o (f3 (eD n) n (dA n [] 1)) fA sv (gi n fA)).1<=404002001/\((mJ o (f3 (eD n) n (dA n [] 1)) fA sv (gi n fA)).2=0->1<=(mJ o (f3 (eD n) n (dA n [] 1)) fA sv (gi n fA)).1):=by
   have:=Z1 (aG:=gi n fA) (wide:=false) (aC:=fA.map λd=>(d.id,d.cA)) (be:=e' o (f3 (eD n) n (dA n [] 1)) fA sv) (a:=1) as2 (λp aw=>by
    obtain⟨d,N,rfl⟩:=aty.1 aw
    have:=(bM.J_ d N).1;dsimp only;omega) (by rw[atb];exact bM.J8) (λi _=>mW i)
   unfold mJ;exact⟨this.1,by omega,this.2.2⟩
  have mx:0<=(lE o (f3 (eD n) n (dA n [] 1)) n fA sv (gi n fA)).1/\(lE o (f3 (eD n) n (dA n [] 1)) n fA sv (gi n fA)).1<=850000000/\((lE o (f3 (eD n) n (dA n [] 1)) n fA sv (gi n fA)).2=0->1<=(lE o (f3 (eD n) n (dA n [] 1)) n fA sv (gi n fA)).1):=by
   unfold lE;split
   ·rename_i an5;have Z2:=QP o (f3 (eD n) n (dA n [] 1)) n [] [0] 0 1 ⟨[],λ_=>[]⟩ (ZZ _ n (atX _) (AB W)) ⟨λp aw=>(by cases aw),λi x I=>(by cases I)⟩ (λj=>by simp) as1 asZ as0;have tP:(kJ o (f3 (eD n) n (dA n [] 1)) n).aC.length<=103:=by have:=Z2.2.2;show(jF o _ n [] [0] 0 1 ⟨[],λ_=>[]⟩).aC.length<=103;simp at this;omega
    have:=Z1 (aG:=λ_=>[]) (wide:=true) (aC:=(kJ o (f3 (eD n) n (dA n [] 1)) n).aC) (be:=(kJ o (f3 (eD n) n (dA n [] 1)) n).be) (a:=(mJ o (f3 (eD n) n (dA n [] 1)) fA sv (gi n fA)).1) hd.1 (λp aw=>(ad.aC p aw).1) tP (λi _=>by have:=Z2.2.1 i;exact auC this as2);have h1:=hd.2.2 an5.1;exact⟨this.1,by omega,λA=>by have:=this.2.2 A;omega⟩
   exact⟨hd.1,by omega,hd.2.2⟩
  have wn:=YX (B:=B) aW o n bH (eD n) (dA n [] 1) (by rw[xk];omega) ij (λp aw=>WS aW p (by have:=Jx aw;omega) n ax W) fA sv (gi n fA) (λ_=>⟨⟨_,Gj⟩,by have:=bM.J8;omega,by have:=bM.bD;omega,bM.Gh,bM.J9,λd N=>by have:=bM.J_ d N;exact⟨by omega,this.2⟩,λbU bE bK i _ x I=>anZ aW bM fe o bU bE bK _ I,
   λi _ x I=>by
    have h1:=an1 bM I;have A:=an0 bM fe I
    exact⟨by omega,h1.2,by omega,λy hy=>by have:=A.2 y hy;omega⟩,λ_=>ad,by omega,by omega⟩)
  refine⟨wn,?_⟩;unfold xE;split
  ·split
   ·rename_i A;have:=mx.2.2 A;dsimp only;split<;>omega
   exact⟨at5 _,by dsimp only;omega⟩
  exact⟨at5 _,by dsimp only;omega⟩
 have C7:q7 n o≠0:=by
  unfold q7;rw[as_ (by cases h:valid n with|true=>exact absurd h W|false=>rfl)];decide
 have ij:aU B 96 [aE n] (.Q .none 1 (aN [])):=by have h:=OR (B:=B) aW n ax;rw[as9 W]at h;exact h
 have wn:=YX (B:=B) aW o n bH (eD n) [] as2 ij (λp aw=>by cases aw) [] [] (λ_=>[]) (λh=>absurd h C7);have e:xE o n (f3 (eD n) n []) [] [] (λ_=>[])=(0,q7 n o):=by unfold xE;rw[as9 C7]
 rw[e]at wn;unfold iT;rw[as9 W];exact⟨wn,at5 _,by dsimp only;omega⟩
def qD(bG:List e5)(g:cE):Int:=e2 (λf:e5=>f.path==g.path) bG
def Dg(bG:List e5)(g:cE):Int:=((bG.getD (qD bG g).toNat ⟨[],[]⟩).data.length:Nat)
def A3(bG:List e5)(start:Int)(g:cE):Bool:=bif (bif (bif (bif (bif decide (qD bG g<0)then true else g.len==0)then true else g.len !=Dg bG g)then true else decide (g.start<0))then true else decide (start<g.start))then true else decide (start-g.start<ii g.len)
def qE(bG:List e5)(start:Int)(o:Option (List (as8×cE)))(g:cE):Option (List (as8×cE)) :=
 o.bind λmp=>if A3 bG start g=true then none else if(bZ mp g.path).isSome=true then none else some (fd mp g.path g)
def tu(bG:List e5)(start:Int)(l:List cE):Option (List (as8×cE)):=l.foldl (qE bG start) (some [])
def QR(n:aa)(m:fg)(start:Int):Bool:=bif (bif (bif !valid n then true else !r5 m)then true else decide (start<0))then true else decide (4096<start)
def jH(n:aa)(m:fg)(aL:List cE)(start:Int):Option (List (as8×cE)):=if QR n m start=true then none else tu (ci n) start aL
theorem an6(bG:List e5)(start:Int){l:List cE}(h:i<l.length):tu bG start (l.take (i+1))=qE bG start (tu bG start (l.take i)) l[i]:=by rw[tu,atc h,auf];rfl
theorem KD(bG:List e5)(start:Int):∀l:List cE,l.foldl (qE bG start) none=none
 |[]=>rfl
 |g::l=>KD bG start l
variable{bG:List e5}{start:Int}
theorem Z3{l:List cE}(h:tu bG start (l.take i)=none):tu bG start l=none:=by rw[tu,<-auz i l,auf,<-tu,h];exact KD _ _ _
theorem ow{a b:Bool}(h:(bif a then true else b)=false):a=false/\b=false:=by cases a<;>cases b<;>simp at h⊢
theorem iF{b:Bool}(h:(!b)=true):b=false:=by cases b<;>simp at h⊢
theorem Z4{g:cE}(h:decide (qD bG g<0)=false):∃hi:(qD bG g).toNat<bG.length,0<=qD bG g/\(bG.map eb)[(qD bG g).toNat]?=some (eb (bG.getD (qD bG g).toNat ⟨[],[]⟩)):=by have h:=atl h;unfold qD at*;rcases E3 (λf:e5=>f.path==g.path) bG with⟨e,_⟩|⟨i,hi,e,_,_⟩;omega;rw[e];exact⟨by simpa using hi,by omega,by simp[List.getD,hi]⟩
theorem QS(aW:dc B)(n:aa)(m:fg)(aL:List cE)(start:Int)(ax:eY n)(aV:aL.length<1000000)(jD:∀g∈aL,g.len<=9223372036854775807)(wh:(ci n).length<1000000):cZ B 57 [aE n,hP m,.Q .none 3 (aL.map a_),u start] bF.none λd aO=>match jH n m aL start with|none=>d=.bo [.any,u 1]|some mp=>∃b9 cp,d=.bo [.box 4102 b9 0,u 0]/\aO=aK [(4102,.box b9 (fk (⟨m,ci n,[],mp,start,0,0,0,0⟩:dD) cp)),(4001,.mp cp (br a_ mp))]:=by refine jO Tryz.func57 Tryz.ntmps57 λU=>?_;refine go ?_;intro cT;refine go ?_;intro cJ;refine go ?_;refine bp (Ak aW n (by unfold eY at ax;omega)) ?_;refine bp (E4 m) ?_;refine aJ (QR n m start) rfl ?_ ?_<;>intro hc;refine ck ?_;(have hO:jH n m aL start=none:=by rw[jH,as_ hc]);rw[hO];refine X.gS [(9,u 1)] [] [] ⟨ar,rfl,ai⟩ ?_;refine go ?_;exact⟨.bo [.any,u 1],(show dK [_,_] [_,_]from⟨.any _,E,ai⟩),rfl⟩;apply cr;(have hO:jH n m aL start=tu (ci n) start aL:=by rw[jH,as9 (by rw[hc];decide)]);(have a1:0<=start/\start<=4096:=axn);rw[hO];apply ep;refine X.fb [(2,.Q .none 3 (aL.map a_)),(3,u start),(4,.box 4 cT 0),(5,.box 5 cJ 0)] [(4,.box cT (aE n).cells),(5,.box cJ (hP m).cells)] [(4,4),(5,5)] ⟨ar,rfl,bb⟩ ?_;have XH:=OS (B:=B) aW n ax;refine' eJ (α:=Nat×Nat) [(4,.box cT (aE n).cells),(5,.box cJ (hP m).cells)] (0,0) (λy=>[_,_,.Q .none 2 ((ci n).map eb),.al (.map (some y.1)),_,.agg [.O m.name,.O m.set,.O m.oc,.O m.od,.O m.kY,u m.Ca,u m.Cb,u m.fh,u m.fO,u m.c4,.Q .none 6 (m.gh.map pp),u m.c5,.bool m.ny,.Q .none 2 ((ci n).map eb),.bj,.al (.map (some y.1)),u start,u 0,u 0,u 0,u 0],.box 38 y.2 0,.box 38 y.2 0]) (λy=>[(3,35,some (.mp y.1 [])),(6,38,some (.box y.2 [.O m.name,.O m.set,.O m.oc,.O m.od,.O m.kY,u m.Ca,u m.Cb,u m.fh,u m.fO,u m.c4,.Q .none 6 (m.gh.map pp),u m.c5,.bool m.ny,.Q .none 2 ((ci n).map eb),.bj,.al (.map (some y.1)),u start,u 0,u 0,u 0,u 0]))]) [0,0,2,0,0,31,63,127] [(3,35),(6,38)] ?_ ?_;rotate_left 3;refine dw ?_;refine bJ (λy=>af.t6 λv=>(dT (v,y.2))) ?_;refine yg (λy=>?_) ?_;refine go ?_;intro iF;exact dT (y.1,iF);exact trivial;intro y;obtain⟨cp,b9⟩:=y;(conv=>whnf);refine X.fb [(2,.Q .none 3 (aL.map a_)),(3,u start),(10,.box 38 b9 0)] [(35,.mp cp []),(38,.box b9 [.O m.name,.O m.set,.O m.oc,.O m.od,.O m.kY,u m.Ca,u m.Cb,u m.fh,u m.fO,u m.c4,.Q .none 6 (m.gh.map pp),u m.c5,.bool m.ny,.Q .none 2 ((ci n).map eb),.bj,.al (.map (some cp)),u start,u 0,u 0,u 0,u 0])] [(35,35),(38,38)] ⟨cP,rfl,cP⟩ ?_;refine X.jp 38 (du:=fk (⟨m,ci n,[],[],start,0,0,0,0⟩:dD) cp) rfl ⟨E,E,E,E,E,E,E,E,E,E,E,E,E,E,aq.nil,E,E,E,E,E,E,ai⟩ ?_;refine X.fb [(2,.Q .none 3 (aL.map a_)),(3,u start),(10,.box 4102 b9 0)] [(4102,.box b9 (fk (⟨m,ci n,[],[],start,0,0,0,0⟩:dD) cp)),(4001,.mp cp (br a_ []))] [(4102,38),(4001,35)] ⟨⟨E,E,aq.box,ai⟩,rfl,bb⟩ ?_;refine go ?_;refine X.ec (α:={x:Nat×List (as8×cE) // x.1<=aL.length/\tu (ci n) start (aL.take x.1)=some x.2}) (λx=>[(3,u start),(10,.box 4102 b9 0),(39,.Q .none 3 (aL.map a_)),(40,u ((aL.map a_).length:Nat)),(41,u x.1.1)]) (λx=>[(4102,.box b9 (fk (⟨m,ci n,[],x.1.2,start,0,0,0,0⟩:dD) cp)),(4001,.mp cp (br a_ x.1.2))]) (λx=>aL.length-x.1.1) ⟨(0,[]),atq _,rfl⟩ [(4102,4102),(4001,4001)] ⟨ar,rfl,bb⟩ ?_;rintro⟨⟨i,mp⟩,hi,KE⟩;dsimp only at hi KE⊢;refine go ?_;refine aJ (decide ((i:Int)<((aL.map a_).length:Nat))) rfl ?_ ?_<;>intro bs;(·apply cr;(have aH:i<aL.length:=by simpa using bs);have h4:=NC aH;have cX:=an6 (ci n) start aH;have t':=jD aL[i] (ate _);rw[KE]at cX;generalize aL[i]=g at*;(have ol:∀h:(bif (bif (bif (bif decide (qD (ci n) g<0)then true else g.len==0)then true else g.len !=Dg (ci n) g)then true else decide (g.start<0))then true else decide (start<g.start))=false,0<=g.len/\0<=g.start:=λh=>by have h1:=(ow h).1;have A:=ow h1;have Z:=(ow A.1).2;have aD:=atl A.2;(have bc:g.len=Dg (ci n) g:=by simpa using Z);rw[bc];unfold Dg;omega);refine gK ?_;refine⟨λ_=>by rw[atb];omega,?_⟩;(conv=>whnf);refine⟨a_ g,λ_=>h4,?_⟩;refine go ?_;intro tv;refine go ?_;refine .inr (af.call rfl [.Q .none 2 ((ci n).map eb),.fn (.func 90) [] [.box 4101 tv 0]] [(4101,12)] (c7.Jv rfl (ajP (ci n) wh 90 [.box 4101 tv 0] _ (λf=>f.path==g.path) (λk Y=>ajO k g tv))) rfl ⟨E,aq.fn trivial ⟨aq.box,ai⟩,ai⟩ ?_);rintro d aO ⟨rfl,rfl⟩;refine p6 ?_;rw[show e2 (λf:e5=>f.path==g.path) (ci n)=qD (ci n) g from rfl];refine X.u_ aM mixed as4 ?_;refine go ?_;refine⟨λh=>by obtain⟨A,Z,_⟩:=Z4 (ow (iF h)).1;have aD:((ci n).map eb).length=(ci n).length:=atb _;show 0<=qD (ci n) g/\qD (ci n) g<(((ci n).map eb).length:Nat);omega,?_⟩;refine go ?_;refine⟨eb ((ci n).getD (qD (ci n) g).toNat ⟨[],[]⟩),λh=>(Z4 (ow (iF h)).1).elim λ_ h=>h.2,?_⟩;refine go ?_;refine⟨[u g.len],_,λh=>Na g.len (ol (iF h)).1 t',ar,?_⟩;refine iD ?_;refine hE ?_;refine .inl ⟨λh=>by have:=(ol (iF h)).2;simp only[dg];have:=atl (ow (iF h)).2;omega,?_⟩;refine go ?_;refine aJ (A3 (ci n) start g) rfl ?_ ?_<;>intro dx;refine ck ?_;have hN:tu (ci n) start aL=none:=Z3 (i:=i+1) (by rw[cX];simp[qE,dx]);rw[hN];refine X.gS [(9,u 1)] [] [] ⟨ar,rfl,ai⟩ ?_;refine go ?_;exact⟨.bo [.any,u 1],(show dK [_,_] [_,_]from⟨.any _,E,ai⟩),rfl⟩;apply cr;apply nW;refine X.fb [(3,u start),(10,.box 4102 b9 0),(39,.Q .none 3 (aL.map a_)),(40,u ((aL.map a_).length:Nat)),(41,u (i:Int)),(12,.box 12 tv 0)] [(4102,.box b9 (fk (⟨m,ci n,[],mp,start,0,0,0,0⟩:dD) cp)),(4001,.mp cp (br a_ mp)),(12,.box tv (a_ g).cells)] [(4102,4102),(4001,4001),(12,12)] ⟨ar,rfl,bb⟩ ?_;refine' eJ (α:=Nat) [(4102,.box b9 (fk (⟨m,ci n,[],mp,start,0,0,0,0⟩:dD) cp)),(4001,.mp cp (br a_ mp)),(12,.box tv (a_ g).cells)] 0 (λq=>[_,_,_,_,_,_,.bo [a_ ((bZ mp g.path).getD fR),.bool (bZ mp g.path).isSome],_,_,_,.box 14 q 0,.any,_]) (λq=>[(10,14,some (.box q ([.O [],u 0,u 0]))),(11,14,some (.box q ((a_ ((bZ mp g.path).getD fR)).cells)))]) [0,1,3,7,0,16,63,127,255,255,0,1535,4095] [(10,14),(11,14)] ?_ ?_;rotate_left 10;refine dw ?_;refine bJ (λq=>af.oY 4001 (dV:=9) (ek:=53) (enc:=a_) (V:=fR) rfl rfl rfl rfl rfl as7 (λw C=>uE w C) (cl q)) ?_;refine wL ?_;exact trivial;intro q;(conv=>whnf);refine X.fb [(3,u start),(10,.box 4102 b9 0),(39,.Q .none 3 (aL.map a_)),(40,u ((aL.map a_).length:Nat)),(41,u (i:Int)),(12,.box 12 tv 0),(15,.bool (bZ mp g.path).isSome)] [(4102,.box b9 (fk (⟨m,ci n,[],mp,start,0,0,0,0⟩:dD) cp)),(4001,.mp cp (br a_ mp)),(12,.box tv (a_ g).cells)] [(4102,4102),(4001,4001),(12,12)] ⟨cP,rfl,cP⟩ ?_;refine go ?_;refine aJ (bZ mp g.path).isSome rfl ?_ ?_<;>intro mw;refine ck ?_;have hN:tu (ci n) start aL=none:=Z3 (i:=i+1) (by rw[cX];simp[qE,dx,mw]);rw[hN];refine X.gS [(9,u 1)] [] [] ⟨ar,rfl,ai⟩ ?_;refine go ?_;exact⟨.bo [.any,u 1],(show dK [_,_] [_,_]from⟨.any _,E,ai⟩),rfl⟩;refine ff ?_;refine X.zI aM 7 mixed as4 ?_;refine go ?_;refine .inr (af.vY 4001 (dV:=9) (ek:=53) (enc:=a_) (v:=g) rfl rfl rfl rfl rfl rfl ?_);refine go ?_;exact⟨⟨(i+1,fd mp g.path g),aH,by rw[cX];simp[qE,dx,mw]⟩,[(4102,4102),(4001,4001)],by show aL.length-(i+1)<aL.length-i;omega,ar,rfl,bb⟩);(have cd:i=aL.length:=by simp at bs;omega);subst cd;rw[ati]at KE;rw[KE];refine sM ?_;refine X.gS [(8,.box 4102 b9 0),(9,u 0)] [(4102,.box b9 (fk (⟨m,ci n,[],mp,start,0,0,0,0⟩:dD) cp)),(4001,.mp cp (br a_ mp))] [(4102,4102),(4001,4001)] ⟨ar,rfl,bb⟩ ?_;refine go ?_;exact⟨.bo [.box 4102 b9 0,u 0],(show dK [_,_] [_,_]from ar),b9,cp,rfl,rfl⟩
abbrev fB(n:aa)(m:fg)(mp:List (as8×cE))(start:Int)(b3:List as8):dD:=⟨m,ci n,b3,mp,start,0,0,0,0⟩
def it(n:aa)(m:fg)(mp:List (as8×cE))(start:Int):dD:=fB n m mp start (k6 (fB n m mp start []) (ci n))
def uR(p:dD)(s ak:Int×Int):Int×Int:=if(eL p s ak).2=0 then((oZ (eL p s ak).1 4096).1.C,(oZ (eL p s ak).1 4096).2)else(0,(eL p s ak).2)
variable{f:FuncId}{ds:List D}{a7:D->bF->Prop}{eW gl:Nat}
theorem _root_.Go.bS.c7.QT{H:bF}{cO d0:Nat}(h1:H eW=none)(A:H gl=none)(hc:cZ B f ds bF.none a7):cZ B f ds (gC H [(cO,eW),(d0,gl)]) a7:=by(have e:gC H [(cO,eW),(d0,gl)]=bF.none:=by funext j;simp only[gC];exact aw8);rw[e];exact hc
variable{aL:List cE}{mp:List (as8×cE)}
theorem QU{n:aa}{m:fg}(h:jH n m aL start=some mp):0<=start/\start<=4096:=by unfold jH at h;split at h;cases h;rename_i hc;(have hc:QR n m start=false:=by simpa using hc);exact axn
theorem Z5(p:dD)(s ak:Int×Int):(eL p s ak).1.aL=p.aL:=by(have A:(jf p s).aL=p.aL:=by unfold jf xv;split<;>rfl);unfold eL;split;rfl;split;exact A;exact A
theorem an7(aW:dc B)(n:aa)(m:fg)(aL:List cE)(start:Int)(ax:eY n)(aV:aL.length<1000000)(jD:∀g∈aL,g.len<=9223372036854775807)(wh:(ci n).length<1000000)(mt:m.gh.length<1000000)(mp:List (as8×cE))(hO:jH n m aL start=some mp)(s ak:Int×Int)(bg:kC m.fO 0=true->aU B 30 [aE n,r6 (gq m)] (.bo [u s.1,u s.2]))(gr:kC m.fO 3=true->aU B 94 [aE n,u m.c5] (.bo [u ak.1,u ak.2]))(dj:(eL (it n m mp start) s ak).2=0->yZ (eL (it n m mp start) s ak).1):aU B 20 [aE n,hP m,.Q .none 3 (aL.map a_),u start] (.bo [u (uR (it n m mp start) s ak).1,u (uR (it n m mp start) s ak).2]):=by refine bA Tryz.func20 Tryz.ntmps20 λU=>?_;have a1:=QU hO;refine ck ?_;intro cT;(conv=>whnf);intro cJ;refine vd ?_;apply mi;apply cB;apply mi;refine eB ?_;refine .inr (af.call rfl [aE n,hP m,.Q .none 3 (aL.map a_),u start] [(4102,4102),(4001,4001)] (c7.QT rfl rfl (QS aW n m aL start ax aV jD wh)) rfl ar ?_);rintro d aO G;rw[hO]at G;obtain⟨b9,cp,rfl,rfl⟩:=G;refine⟨_,E,?_⟩;refine f' ?_;refine aJ false rfl ?_ ?_<;>intro hc;cases hc;refine go ?_;refine .inr (af.call rfl [.box 4102 b9 0] [(4102,4102),(4001,4001)] (c7.xp rfl rfl (XE (fB n m mp start []) wh b9 cp)) rfl ar ?_);rintro d aO ⟨rfl,rfl⟩;refine p6 ?_;refine .inr (af.call rfl [.box 4102 b9 0,aE n] [(4102,4102)] (c7.Jv rfl (XF (it n m mp start) n s ak a1.1 a1.2 (show(0:Int)<=0 by decide) (show(0:Int)<=100 by decide) mt bg gr b9 cp)) rfl ar ?_);rintro d aO ⟨rfl,rfl⟩;refine p6 ?_;refine aJ ((eL (it n m mp start) s ak).2 !=0) rfl ?_ ?_<;>intro bs;refine go ?_;(have a6:¬(eL (it n m mp start) s ak).2=0:=by simpa using bs);(have n':uR (it n m mp start) s ak=(0,(eL (it n m mp start) s ak).2):=by rw[uR,as9 a6]);rw[n'];exact ar;refine go ?_;(have ao:(eL (it n m mp start) s ak).2=0:=by simpa using bs);(have n':uR (it n m mp start) s ak=((oZ (eL (it n m mp start) s ak).1 4096).1.C,(oZ (eL (it n m mp start) s ak).1 4096).2):=by rw[uR,as_ ao]);have QV:(eL (it n m mp start) s ak).1.aL=mp:=Z5 _ _ _;refine go ?_;refine .inr (af.call rfl [.box 4102 b9 0,u 4096] [(4102,4102),(4001,4001)] (c7.xp rfl (as' (λq=>some (aI.mp cp (br a_ q))) QV.symm) (XD (eL (it n m mp start) s ak).1 (dj ao) 4096 as2 as2 b9 cp)) rfl ar ?_);rintro d aO ⟨rfl,iI,an8,rfl⟩;refine p6 ?_;intro OZ;refine go ?_;rw[n'];exact ar
theorem Z6(a b:List as8)(ha:a.length<1000000)(F:b.length<1000000):aU B 33 [.Q .none 1 (aN a),.Q .none 1 (aN b)] (.bool (a==b)):=by refine bA Tryz.func33 Tryz.ntmps33 λU=>?_;apply b2;refine f' ?_;refine aJ _ rfl ?_ ?_<;>intro hc;refine gm ?_;exact aq.of_eq (as' D.bool (Eq.symm (ax2)));apply cr;(have hlen:a.length=b.length:=by simp[aN]at hc;omega);refine ns ?_;refine X.loop (α:={i:Nat // i<=a.length/\a.take i=b.take i}) (λx=>[(0,.Q .none 1 (aN a)),(1,.Q .none 1 (aN b)),(12,u (aN a).length),(13,u x.1)]) (λ_=>[]) (λx=>a.length-x.1) ⟨0,by omega,rfl⟩ ar trivial ?_;rintro⟨i,hi,xJ⟩;dsimp only at hi xJ⊢;apply b2;apply ep;refine aJ (decide ((i:Int)<(aN a).length)) rfl ?_ ?_<;>intro hc;apply cr;(have aH:i<a.length:=by simpa[aN]using hc);(have qc:i<b.length:=by omega);refine kx ?_;apply b2;refine oL ?_;(conv=>whnf);refine⟨λ_=>by simp[aN];omega,?_⟩;(conv=>whnf);refine⟨.O a[i],λ_=>F7 aH,?_⟩;(conv=>whnf);refine⟨λ_=>by simp[aN];omega,?_⟩;(conv=>whnf);refine⟨.O b[i],λ_=>F7 qc,?_⟩;refine aJ (a[i]!=b[i]) rfl ?_ ?_<;>intro hc;refine gm ?_;exact aq.of_eq (as' D.bool (Eq.symm (ax2)));refine rP ?_;(have GN:a[i]=b[i]:=by simpa using hc);exact⟨⟨i+1,aH,by rw[atc aH,atc qc,xJ,GN]⟩,by show a.length-(i+1)<a.length-i;omega,ar,ai⟩;refine qT ?_;exact aq.of_eq (as' D.bool (Eq.symm (by(have cd:i=a.length:=by simp[aN]at hc;omega);rw[atC asZ,atC asZ]at xJ;rw[xJ];simp)))
abbrev Dh(l:List as8):D:=.fn (.func 93) [] [.a8 1 [.Q .none 1 (aN l)] 0 0]
def o4(p:dD)(s ak:Int×Int)(cap:Int):qm×Int:=if(eL p s ak).2=0 then oZ (eL p s ak).1 cap else(pG,(eL p s ak).2)
theorem KF:aq (.agg rg) (jU pG):=aq.agg (a:=rg) (bv:=(jU pG).cells) ⟨E,E,E,E,E,E,E,E,E,E,E,aq.nil,E,E,E,aq.nil,ai⟩
theorem an9(aW:dc B)(n:aa)(m:fg)(b3:List as8)(aL:List cE)(start cap:Int)(ax:eY n)(aV:aL.length<1000000)(jD:∀g∈aL,g.len<=9223372036854775807)(wh:(ci n).length<1000000)(mt:m.gh.length<1000000)(gB:b3.length<1000000)(mp:List (as8×cE))(hO:jH n m aL start=some mp)(mS:¬cap<start)(g6:¬4096<cap)(s ak:Int×Int)(bg:kC m.fO 0=true->aU B 30 [aE n,r6 (gq m)] (.bo [u s.1,u s.2]))(gr:kC m.fO 3=true->aU B 94 [aE n,u m.c5] (.bo [u ak.1,u ak.2]))(dj:(eL (fB n m mp start b3) s ak).2=0->yZ (eL (fB n m mp start b3) s ak).1)(dk dn:List as8)(sw:∀l:List as8,aU B 59 [.Q .none 1 (aN l)] (Dh l))(Pv:aU B 58 [Dh b3] (.Q .none 1 (aN dk)))(Pw:aU B 58 [Dh (k6 (fB n m mp start []) (ci n))] (.Q .none 1 (aN dn)))(x0:dk.length<1000000)(Cw:dn.length<1000000)(xy:(dk==dn)=true):aU B 19 [aE n,hP m,.Q .none 1 (aN b3),.Q .none 3 (aL.map a_),u start,u cap] (.bo [jU (o4 (fB n m mp start b3) s ak cap).1,u (o4 (fB n m mp start b3) s ak cap).2]):=by refine bA Tryz.func19 Tryz.ntmps19 λU=>?_;have a1:=QU hO;(have aso:(k6 (fB n m mp start []) (ci n)).length<1000000:=by have:=Ju (fB n m mp start []) (ci n);omega);refine ck ?_;intro dY;(conv=>whnf);intro dI;(conv=>whnf);intro tv;refine vd ?_;apply mi;apply cB;apply mi;refine eB ?_;refine .inr (af.call rfl [aE n,hP m,.Q .none 3 (aL.map a_),u start] [(4102,4102),(4001,4001)] (c7.QT rfl rfl (QS aW n m aL start ax aV jD wh)) rfl ar ?_);rintro d aO G;rw[hO]at G;obtain⟨b9,cp,rfl,rfl⟩:=G;refine⟨_,E,?_⟩;apply nW;refine X.Ew aM ?_;refine ve ?_;refine ve ?_;refine ve ?_;refine Mf ?_;refine Mf ?_;refine Mf ?_;(conv=>whnf);refine⟨rfl,.inr (af.Ex rfl (rfl) ?_)⟩;refine ve ?_;(conv=>whnf);refine⟨rfl,_,_,rfl,rfl,.inl ⟨atU mS,.inl ?_⟩⟩;(conv=>whnf);refine⟨rfl,_,_,rfl,rfl,.inl ⟨atU mS,.inl ?_⟩⟩;(conv=>whnf);refine⟨rfl,.inr (af.Ex rfl (atU mS) ?_)⟩;refine ve ?_;(conv=>whnf);refine⟨rfl,_,_,rfl,rfl,.inl ⟨atU g6,.inl ?_⟩⟩;(conv=>whnf);refine⟨rfl,_,_,rfl,rfl,.inl ⟨atU g6,.inl ?_⟩⟩;refine go ?_;refine⟨[.Q .none 1 (aN b3)],_,λ_=>sw b3,ar,?_⟩;(conv=>whnf);refine⟨rfl,_,_,rfl,rfl,.inl ⟨atU g6,.inl ?_⟩⟩;refine go ?_;refine⟨[Dh b3],_,λ_=>Pv,ar,?_⟩;(conv=>whnf);refine⟨rfl,_,_,rfl,rfl,.inl ⟨atU g6,.inl ?_⟩⟩;(conv=>whnf);refine⟨rfl,_,_,rfl,rfl,.inl ⟨atU g6,.inr (af.call rfl [.box 4102 b9 0] [(4102,4102),(4001,4001)] (c7.xp rfl rfl (XE (fB n m mp start []) wh b9 cp)) rfl ar ?_)⟩⟩;rintro d aO ⟨rfl,rfl⟩;refine rO ?_;refine⟨rfl,_,_,rfl,rfl,.inl ⟨atU g6,.inl ?_⟩⟩;refine go ?_;refine⟨[.Q .none 1 (aN (k6 (fB n m mp start []) (ci n)))],_,λ_=>sw _,ar,?_⟩;(conv=>whnf);refine⟨rfl,_,_,rfl,rfl,.inl ⟨atU g6,.inl ?_⟩⟩;refine go ?_;refine⟨[Dh (k6 (fB n m mp start []) (ci n))],_,λ_=>Pw,ar,?_⟩;(conv=>whnf);refine⟨rfl,_,_,rfl,rfl,.inl ⟨atU g6,.inl ?_⟩⟩;refine go ?_;refine⟨[.Q .none 1 (aN dk),.Q .none 1 (aN dn)],_,λ_=>Z6 _ _ x0 Cw,ar,?_⟩;(conv=>whnf);refine⟨rfl,_,_,rfl,rfl,.inl ⟨atU g6,.inl ?_⟩⟩;(conv=>whnf);refine⟨rfl,.inr (af.Ex rfl (atU g6) ?_)⟩;refine go ?_;refine aJ (!(dk==dn)) rfl ?_ ?_<;>intro hc;rw[xy]at hc;cases hc;refine go ?_;refine .inr (af.call rfl [.box 4102 b9 0,aE n] [(4102,4102)] (c7.Jv rfl (XF (fB n m mp start b3) n s ak a1.1 a1.2 (show(0:Int)<=0 by decide) (show(0:Int)<=100 by decide) mt bg gr b9 cp)) rfl ar ?_);rintro d aO ⟨rfl,rfl⟩;refine p6 ?_;refine aJ ((eL (fB n m mp start b3) s ak).2 !=0) rfl ?_ ?_<;>intro bs;refine go ?_;(have a6:¬(eL (fB n m mp start b3) s ak).2=0:=by simpa using bs);(have n':o4 (fB n m mp start b3) s ak cap=(pG,(eL (fB n m mp start b3) s ak).2):=by rw[o4,as9 a6]);rw[n'];refine go ?_;exact⟨KF,E,ai⟩;refine go ?_;(have ao:(eL (fB n m mp start b3) s ak).2=0:=by simpa using bs);(have n':o4 (fB n m mp start b3) s ak cap=oZ (eL (fB n m mp start b3) s ak).1 cap:=by rw[o4,as_ ao]);have QV:(eL (fB n m mp start b3) s ak).1.aL=mp:=Z5 _ _ _;rw[n'];refine go ?_;refine .inr (af.call rfl [.box 4102 b9 0,u cap] [(4102,4102),(4001,4001)] (c7.xp rfl (as' (λq=>some (aI.mp cp (br a_ q))) QV.symm) (XD (eL (fB n m mp start b3) s ak).1 (dj ao) cap asZ asZ b9 cp)) rfl ar ?_);rintro d aO ⟨rfl,iI,an8,rfl⟩;refine p6 ?_;exact ar
theorem an_(n:aa)(s:as8):(eD n s).1.d7.length<=aB n:=by unfold eD;split;have:=lU n;show n.d7.length<=_;omega;split;rename_i x I;have h1:=OD _ _ _ I;have A:=lU x;show x.d7.length<=_;omega;exact atq _
theorem Z7{n:aa}:∀f∈ci n,f.data.length<=aB n:=by intro f M;unfold ci at M;obtain⟨p,_,aw⟩:=awa.1 M;unfold io at aw;split at aw;cases aw;exact an_ n p;cases aw
theorem Z8(n:aa):(ci n).length<=aB n:=by unfold ci;have h:=au4 (io n) (if valid n then dA n [] 1 else[]);(have A:(if valid n then dA n [] 1 else[]).length<=fH n:=by split;rw[xk];exact atg _;exact atq _);have:=BW n;omega
theorem Z9{bG:List e5}{start:Int}:∀(l:List cE) (o:Option (List (as8×cE))),(∀mp,o=some mp->kg mp)->∀mp,l.foldl (qE bG start) o=some mp->kg mp
 |[],o,h,mp,hm=>h mp hm
 |g::l,o,h,mp,hm=>by refine Z9 l (qE bG start o g) (λZ_ G=>?_) mp hm;cases o with|none=>cases G|some ja =>have G:(if A3 bG start g=true then none else if(bZ ja g.path).isSome=true then none else some (fd ja g.path g))=some Z_:=G;split at G;cases G;rename_i F;split at G;cases G;cases G;(have F:A3 bG start g=false:=by simpa using F);have h1:=(ow (ow (ow F).1).1).2;have:=atl h1;exact Gb (h ja rfl) asZ
theorem an'{n:aa}{m:fg}(h:jH n m aL start=some mp):kg mp:=by unfold jH at h;split at h;cases h;exact Z9 aL (some []) (λZ_ G=>by cases G;exact O6) mp h
variable{b3:List as8}
theorem QW{n:aa}{m:fg}(ax:eY n)(hO:jH n m aL start=some mp)(ah:b3.length<=100000){s ak:Int×Int}(hs:0<=s.1/\s.1<=1000000000)(an:0<=ak.1/\ak.1<=1000000)(h0:(eL (fB n m mp start b3) s ak).2=0)(hsz:aB n<1000000):yZ (eL (fB n m mp start b3) s ak).1:=by have a1:=QU hO;have ze:=an' hO;have dm:=Z8 n;(have uF:∀f∈ci n,f.data.length<=100000000:=λf M=>by have:=Z7 f M;omega);(have N:0<=qg (gq m)/\qg (gq m)<=100:=by unfold qg;split<;>split<;>omega);unfold eL at h0⊢;split at h0;rename_i hc;exact absurd h0 hc.2;rename_i hc;rw[as9 hc];unfold jf xv;unfold yZ;split<;>split<;>refine⟨?_,?_,?_,?_,?_,?_,?_,?_,?_,?_,ah,by show(ci n).length<_;omega,uF,ze⟩<;>first|(show(0:Int)<=0;decide)|(show(0:Int)<=1000000000;decide)|(show(0:Int)<=1000000;decide)|(show(0:Int)<=100;decide)|exact a1.1|exact a1.2|exact hs.1|exact hs.2|exact an.1|exact an.2|exact N.1|exact N.2|(show 0<=start+66+2;omega)|(show start+66+2<=(100000:Int);omega)|(show 0<=start+16+qg (gq m);omega)|(show start+16+qg (gq m)<=100000;omega)|(show 0<=start+16+(0:Int);omega)|(show start+16+(0:Int)<=100000;omega)
theorem Z'(aW:dc B)(n:aa)(m:fg)(b3:List as8)(aL:List cE)(start cap:Int)(ax:eY n)(aV:aL.length<1000000)(jD:∀g∈aL,g.len<=9223372036854775807)(wh:(ci n).length<1000000)(hO:jH n m aL start=none):aU B 19 [aE n,hP m,.Q .none 1 (aN b3),.Q .none 3 (aL.map a_),u start,u cap] (.bo [jU pG,u 1]):=by refine bA Tryz.func19 Tryz.ntmps19 λU=>?_;refine ck ?_;intro dY;(conv=>whnf);intro dI;(conv=>whnf);intro tv;refine vd ?_;apply mi;apply cB;apply mi;refine eB ?_;refine .inr (af.call rfl [aE n,hP m,.Q .none 3 (aL.map a_),u start] [(4102,4102),(4001,4001)] (c7.QT rfl rfl (QS aW n m aL start ax aV jD wh)) rfl ar ?_);rintro d aO G;rw[hO]at G;simp only at G;subst G;refine⟨_,E,?_⟩;apply nW;refine X.Ew aM ?_;refine ve ?_;refine ve ?_;refine ve ?_;refine qS ?_;refine qS ?_;refine qS ?_;(conv=>whnf);refine⟨rfl,.inr (af.H2 rfl (rfl) ?_)⟩;refine ve ?_;refine qS ?_;refine qS ?_;(conv=>whnf);refine⟨rfl,.inr (af.H2 rfl (rfl) ?_)⟩;refine ve ?_;refine qS ?_;refine qS ?_;refine qS ?_;refine qS ?_;refine qS ?_;refine qS ?_;refine qS ?_;refine qS ?_;refine qS ?_;(conv=>whnf);refine⟨rfl,.inr (af.H2 rfl (rfl) ?_)⟩;refine aJ true rfl ?_ ?_<;>intro hc;refine i1 ?_;apply Ee;refine eB ?_;exact⟨KF,E,ai⟩;cases hc
def ji(l:List e5):List as8:=l.map (·.path)
theorem aoa{l:List e5}(h:i<l.length):ji (l.take (i+1))=ji (l.take i)++[l[i].path]:=by rw[ji,atc h,atO];rfl
theorem aaa(aW:dc B)(n:aa)(ax:eY n):aU B 28 [aE n] (.Q .none 1 (aN (ji (ci n)))):=by refine bA Tryz.func28 Tryz.ntmps28 λU=>?_;refine ck ?_;intro dB;apply b2;refine f' ?_;refine eB ?_;refine⟨[aE n],_,λ_=>OS aW n ax,ar,?_⟩;(conv=>whnf);(have nA:(ci n).length<10000000:=by have:=Z8 n;unfold eY at ax;omega);generalize ci n=P at*;refine X.own 3 1000 1 9 rfl (λw=>?_);apply oK;refine X.ec (α:={i:Nat // i<=P.length}×Value) (λx=>[(3,.Q (.own 1000 x.2) 1 (aN (ji (P.take x.1.1)))),(7,.Q .none 2 (P.map eb)),(8,u ((P.map eb).length:Nat)),(9,u x.1.1)]) (λx=>[(1000,.own x.2 (aN (ji (P.take x.1.1))).length 1 9)]) (λx=>P.length-x.1.1) (⟨0,by omega⟩,w) [(1000,1000)] ⟨ar,rfl,bb⟩ ?_;rintro⟨⟨i,hi⟩,w⟩;dsimp only at hi⊢;apply b2;apply ep;refine aJ (decide ((i:Int)<((P.map eb).length:Nat))) rfl ?_ ?_<;>intro hc;apply cr;(have aH:i<P.length:=by simpa using hc);have h4:=Jp aH;have cX:=aoa aH;(have mW:(aN (ji (P.take i))).length<=i:=by simp[aN,ji];omega);generalize ji (P.take i)=L at*;generalize P[i]=sn at*;refine gK ?_;refine⟨λ_=>by rw[atb];omega,?_⟩;(conv=>whnf);refine⟨eb sn,λ_=>h4,?_⟩;(conv=>whnf);intro cJ;apply cB;apply kw;refine eB ?_;refine nr ?_;refine⟨by show(_+1)*16<=_;omega,by show _+1<=_;omega,as6,λgN=>?_⟩;refine np ?_;(have ao:aN L++[.O sn.path]=aN (ji (P.take (i+1))):=by rw[cX];simp[aN]);exact⟨(⟨i+1,aH⟩,gN),[(1000,17)],axX,⟨aq.j6 ao,E,E,E,ai⟩,rfl,rfl,ky (by rw[<-ao];simp),ai⟩;(have cd:i=P.length:=by simp at hc;omega);subst cd;rw[ati];refine qT ?_;exact aq.mT
deriving instance DecidableEq for cE
theorem aob(a b:List cE)(ha:a.length<1000000)(F:b.length<1000000):aU B 31 [.Q .none 3 (a.map a_),.Q .none 3 (b.map a_)] (.bool (a==b)):=by refine bA Tryz.func31 Tryz.ntmps31 λU=>?_;apply b2;refine f' ?_;refine aJ _ rfl ?_ ?_<;>intro hc;refine gm ?_;exact aq.of_eq (as' D.bool (Eq.symm (ax2)));apply cr;(have hlen:a.length=b.length:=by simp at hc;omega);refine ns ?_;refine X.loop (α:={i:Nat // i<=a.length/\a.take i=b.take i}) (λx=>[(0,.Q .none 3 (a.map a_)),(1,.Q .none 3 (b.map a_)),(12,u (a.map a_).length),(13,u x.1)]) (λ_=>[]) (λx=>a.length-x.1) ⟨0,by omega,rfl⟩ ar trivial ?_;rintro⟨i,hi,xJ⟩;dsimp only at hi xJ⊢;apply b2;apply ep;refine aJ (decide ((i:Int)<(a.map a_).length)) rfl ?_ ?_<;>intro hc;apply cr;(have aH:i<a.length:=by simpa using hc);(have qc:i<b.length:=by omega);refine kx ?_;apply b2;refine oL ?_;refine wN ?_;refine⟨a_ a[i],λ_=>NC aH,?_⟩;refine wN ?_;refine⟨a_ b[i],λ_=>NC qc,?_⟩;refine aJ _ rfl ?_ ?_<;>intro hc;refine gm ?_;exact aq.of_eq (as' D.bool (Eq.symm (ax2)));refine rP ?_;(have GN:a[i]=b[i]:=by generalize a[i]=x at*;generalize b[i]=y at*;obtain⟨ahg,N5,asp⟩:=x;obtain⟨oh,qo,s7⟩:=y;simp at hc;rw[hc.1,hc.2.1,hc.2.2]);exact⟨⟨i+1,aH,by rw[atc aH,atc qc,xJ,GN]⟩,by show a.length-(i+1)<a.length-i;omega,ar,ai⟩;refine qT ?_;exact aq.of_eq (as' D.bool (Eq.symm (by(have cd:i=a.length:=by simp at hc;omega);rw[atC asZ,atC asZ]at xJ;rw[xJ];simp)))
theorem aoc(t:aa)(m:as8):(s5 t m<0/\pB m t.J=none)\/∃(i:Nat) (h:i<t.J.length),s5 t m=i/\pB m t.J=some t.J[i]:=by unfold s5 pB e2;cases h:t.J.findIdx? (λk=>k.name==m)with|none=>exact .inl ⟨by decide,by rw[avm]at h;rw[auY];intro x I;rw[h x I];decide⟩|some i =>obtain⟨hi,h1,A⟩:=au5.1 h;refine .inr ⟨i,hi,rfl,?_⟩;rw[List.find?_eq_some_iff_getElem];exact⟨h1,i,hi,rfl,λj ad=>by have:=A j ad;simpa using this⟩
theorem aod:aq (.agg [.O [],u 0,.O [],.O [],u 0,u 0,u 0,u 0,u 0,u 0,.bj,.bj]) (aE ux):=aq.agg (bv:=(aE ux).cells) ⟨E,E,E,E,E,E,E,E,E,E,aq.nil,aq.nil,ai⟩
theorem aab(n:aa)(s:as8)(ax:eY n)(hs:s.length<1000000000):aU B 88 [aE n,.O s] (aE (eD n s).1):=by refine fn Tryz.func88 Tryz.ntmps88 λU=>?_;refine go ?_;intro cg;(conv=>whnf);refine c1 ?_;intro cT;(conv=>whnf);refine go ?_;refine fZ (λx:aa×Nat=>aB x.1+x.1.name.length<2200000/\(s=[]->x.1=n/\x.2=0)/\(s≠[]->x.2<=s.length+1/\(x.2<=s.length->jc x.1 (cR 47 [] (s.drop x.2))=jc n (cR 47 [] s))/\(x.2=s.length+1->jc n (cR 47 [] s)=some x.1))) [1,2,4] [4] (λx=>[(5,u x.2)]) (λx=>[(2,.box cg (aE x.1).cells)]) (λx=>s.length+1-x.2) (n,0) ⟨ax,λ_=>⟨rfl,rfl⟩,λ_=>⟨atq _,λ_=>rfl,λh=>by cases h⟩⟩ [(4,4),(2,2)] ?_;rintro⟨t,f⟩ ⟨au,h0,h1⟩;dsimp only at au h0 h1;refine go ?_;refine cb (t:=bif !(s==[])then decide ((f:Int)<=(s.length:Nat))else false) ?_ ?_<;>intro hc;(have dt:s≠[]:=by cases h:s==[]with|true=>rw[h]at hc;cases hc|false=>simpa using h);(have dm:f<=s.length:=by rw[show(s==[])=false by simpa using dt]at hc;have:decide ((f:Int)<=(s.length:Nat))=true:=hc;have:=atw this;omega);obtain⟨_,A,_⟩:=h1 dt;have Z:=A dm;refine go ?_;refine fZ (λq:Nat=>f<=q/\q<=s.length/\cR 47 ((s.drop f).take (q-f)) (s.drop q)=cR 47 [] (s.drop f)) [1,2,4,5] [4,2] (λq=>[(6,u q)]) (λ_=>[]) (λq=>s.length+1-q) f ⟨atg _,dm,by rw[avY];simp⟩ [(4,4),(2,2)] ?_;rintro q ⟨NN,NO,IN⟩;refine go ?_;(obtain⟨c,QX⟩:∃c:UInt8,∀h:q<s.length,c=s[q]:=by by_cases h:q<s.length;exact⟨s[q],λ_=>rfl⟩;exact⟨0,λA=>absurd A h⟩);refine⟨c,λh=>⟨by omega,by(have G:q<s.length:=by have:=atw h;omega);rw[atE,ata G,QX G]⟩,?_⟩;(conv=>whnf);refine go ?_;have aac:List.drop f (List.take q s)=(s.drop f).take (q-f):=List.drop_take;refine cb (t:=bif decide ((q:Int)<(s.length:Nat))then !((c.toNat:Int)==47)else false) ?_ ?_<;>intro bs;(have lj:q<s.length:=by cases h:decide ((q:Int)<(s.length:Nat))with|true=>have:=atw h;omega|false=>rw[h]at bs;cases bs);(have QY:s[q]≠47:=λh=>by rw[aug (by omega:(q:Int)<(s.length:Nat)),QX lj,h]at bs;cases bs);refine go ?_;refine eK (q+1) [(4,4),(2,2)] ⟨by omega,by omega,?_⟩;rw[<-IN,show q+1-f=(q-f)+1 by omega,atc (by rw[aul];omega),List.getElem_drop,aue lj,cR];simp only[show f+(q-f)=q by omega];rw[as9 QY];(have mh:cR 47 [] (s.drop f)=(s.drop f).take (q-f)::(if q<s.length then cR 47 [] (s.drop (q+1))else[]):=by rw[<-IN];by_cases lj:q<s.length;(have QY:s[q]=47:=by rw[aug (by omega:(q:Int)<(s.length:Nat)),QX lj]at bs;(have bc:((s[q].toNat:Int)==47)=true:=by simpa using bs);(have cL:s[q].toNat=47:=by have:=eq_of_beq bc;omega);exact UInt8.toNat_inj.1 (cL.trans rfl));rw[as_ lj,aue lj,cR,as_ QY];have e:s.drop q=[]:=avV asZ;rw[as9 lj,e,cR]);have aad:=aeF (B:=B) t ((s.drop f).take (q-f)) (by unfold eY;omega);rw[<-aac]at aad;rw[<-aac]at mh;rw[mh]at Z;refine go ?_;refine vo ?_;refine bp aad ?_;rcases aoc t (List.drop f (List.take q s))with⟨Y,M⟩|⟨i,hi,Y,M⟩;refine wU (t:=decide (s5 t (List.drop f (List.take q s))<0)) (aug Y) ?_;(have Ky:jc n (cR 47 [] s)=none:=by rw[<-Z,jc,M]);(have h4:(eD n s).1=ux:=by unfold eD;rw[as9 dt,Ky]);rw[h4];exact aod;rw[Y];refine B0 (t:=decide ((i:Int)<0)) (atU asZ) ?_;rw[rQ];(conv=>whnf);refine go ?_;have aoe:=EB hi;have aof:=lU t;(have ze:jc t.J[i] (if q<s.length then cR 47 [] (s.drop (q+1))else[])=jc n (cR 47 [] s):=by rw[<-Z,jc,M]);refine eK (t.J[i],q+1) [(4,4),(2,2)] ⟨by dsimp only;omega,λh=>absurd h dt,λ_=>⟨by dsimp only;omega,λh=>?_,λh=>?_⟩⟩;dsimp only at h⊢;rw[as_ asZ]at ze;exact ze;dsimp only at h⊢;rw[as9 asZ]at ze;rw[<-ze];rfl;refine go ?_;(have h4:(eD n s).1=t:=by by_cases h:s=[];rw[(h0 h).1];unfold eD;rw[as_ h];rw[show(s==[])=false by simpa using h]at hc;have dx:decide ((f:Int)<=(s.length:Nat))=false:=hc;have:=atl dx;obtain⟨A,_,aD⟩:=h1 h;unfold eD;rw[as9 h,aD asZ]);rw[h4];exact E
theorem aae(n:aa)(s:as8)(ax:eY n)(hs:s.length<1000000000):aU B 55 [aE n,.O s] (.O (eD n s).1.d7):=by have QZ:=aab (B:=B) n s ax hs;refine fn Tryz.func55 Tryz.ntmps55 λU=>?_;refine go ?_;intro cg;(conv=>whnf);refine go ?_;refine bp QZ ?_;exact E
theorem aaf(l:List cE)(p:as8)(aj:l.length<1000000000):aU B 56 [.Q .none 3 (l.map a_),.O p] (u (e2 (λf:cE=>f.path==p) l)):=by have mW:(l.map a_).length=l.length:=atb _;refine fn Tryz.func56 Tryz.ntmps56 λU=>?_;refine go ?_;refine fZ (λi:Nat=>i<=l.length/\∀j (h:j<l.length),j<i->(l[j].path==p)=false) [0,1] [] (λi=>[(5,u i)]) (λ_=>[]) (λi=>l.length-i) 0 ⟨atq _,λj _ h=>absurd h (auI _)⟩ [] ?_;rintro i ⟨hi,aw⟩;refine go ?_;rw[mW];refine cb (t:=decide ((i:Int)<(l.length:Nat))) ?_ ?_<;>intro hc;(have cz:i<l.length:=by have:=atw hc;omega);refine go ?_;refine cb (t:=l[i].path==p) ?_ ?_<;>intro bs;refine go ?_;exact BT (zM (p:=λf:cE=>f.path==p) cz aw bs).symm;refine go ?_;refine eK (i+1) [] ⟨cz,λj ad h=>?_⟩;rcases ats j i with A|A;exact aw j ad A;(have:j=i:=by omega);subst this;exact bs;refine go ?_;exact BT (zN (p:=λf:cE=>f.path==p) λj ad=>aw j ad (by have:=atl hc;omega)).symm
theorem aog(n:aa)(ax:eY n):aU B 87 [aE n] (.Q .none 1 (aN (if valid n=true then dA n [] 1 else[]))):=by by_cases W:valid n=true;rw[as_ W];exact aih n ax W;rw[as9 W];have aoh:=T' (B:=B) n ax;refine fn Tryz.func87 Tryz.ntmps87 λU=>?_;refine go ?_;intro dB;(conv=>whnf);refine go ?_;refine bp aoh ?_;refine wU (t:=!(valid n)) (by cases h:valid n with|true=>exact absurd h W|false=>rfl) ?_;exact .nil
theorem aoi(n:aa)(p:as8):Jo n p=((eD n p).1.kind==1):=by unfold Jo eD;split;rfl;split;rfl;rfl
theorem aag(n:aa)(ax:eY n)(aw:∀p∈(if valid n=true then dA n [] 1 else[]),p.length<1000000000)(dj:(if valid n=true then dA n [] 1 else[]).length<1000000):aU B 54 [aE n] (.Q .none 1 (aN (ji (ci n)))):=by have aoj:=aog (B:=B) n ax;have xo:ci n=(if valid n=true then dA n [] 1 else[]).filterMap (io n):=rfl;rw[xo];generalize(if valid n=true then dA n [] 1 else[])=bT at*;(have eS:(aN bT).length=bT.length:=by simp[aN]);have GO:∀i (h:i<bT.length),(aN bT)[(i:Int).toNat]?=some (.O bT[i]):=λi h=>F7 h;generalize aN bT=JY at*;refine fn Tryz.func54 Tryz.ntmps54 λU=>?_;refine go ?_;intro dB;(conv=>whnf);refine c1 ?_;refine iG 1 1 12 (aE n) ?_;refine go ?_;refine bp aoj ?_;refine X.own 3 1000 1 9 rfl (λw0=>?_);refine fZ (λx:Nat×Value=>x.1<=bT.length) [1,4] [] (λx=>[(3,.Q (.own 1000 x.2) 1 (aN (ji ((bT.take x.1).filterMap (io n))))),(5,u x.1)]) (λx=>[(1000,.own x.2 (aN (ji ((bT.take x.1).filterMap (io n)))).length 1 9)]) (λx=>bT.length-x.1) (0,w0) (atq _) [(1000,1000)] ?_;rintro⟨i,w⟩ hi;dsimp only at hi⊢;refine go ?_;rw[eS];refine cb (t:=decide ((i:Int)<(bT.length:Nat))) ?_ ?_<;>intro hc;(have cz:i<bT.length:=by have:=atw hc;omega);have oe:=GO i cz;have xt:=Xg (io n) cz;have QZ:=aab (B:=B) n bT[i] ax (aw _ (ate cz));have aah:=aoi n bT[i];have dm:((bT.take i).filterMap (io n)).length<=i:=auC (au4 _ _) (by rw[atv];omega);generalize AO:bT[i]=p at*;generalize(bT.take i).filterMap (io n)=bw at*;(have Ck:(aN (ji bw)).length=bw.length:=by simp[aN,ji]);refine go ?_;refine vo ?_;refine bD (.O p) oe ?_;refine bp QZ ?_;refine cb (t:=(eD n p).1.kind==1) ?_ ?_<;>intro bs;(have lx:io n p=some ⟨p,(eD n p).1.d7⟩:=by unfold io;rw[aah,bs,as_ rfl]);rw[lx]at xt;refine go ?_;refine bD (.O p) oe ?_;intro gN;(conv=>whnf);refine go ?_;(have sK:aN (ji bw)++[.O p]=aN (ji ((bT.take (i+1)).filterMap (io n))):=by rw[xt];simp[aN,ji]);exact eK (i+1,gN) [(1000,28)] cz (A:=⟨⟨E,E,aq.j6 sK,sQ,ai⟩,rfl,rfl,ky (by rw[<-sK,atf];rfl),ai⟩);(have lx:io n p=none:=by unfold io;rw[aah,bs,as9 as2]);rw[lx]at xt;refine go ?_;refine eK (i+1,w) [(1000,1000)] cz (A:=?_);dsimp only;rw[xt,show bw++(none:Option e5).toList=bw by simp];exact⟨cP,rfl,cP⟩;(have cd:i=bT.length:=by have:=atl hc;omega);subst cd;rw[ati];refine go ?_;exact .jl _
def Di(aL:List cE)(f:e5):Bool:=bif f.data !=[]then decide (e2 (λg:cE=>g.path==f.path) aL<0)else false
def hG(aL:List cE)(l:List e5):List as8:=(l.filter (Di aL)).map (·.path)
theorem aai(aL:List cE){l:List e5}(h:i<l.length):hG aL (l.take (i+1))=hG aL (l.take i)++(if Di aL l[i]=true then[l[i].path]else[]):=by rw[hG,atc h,auy,atO,<-hG,aui];split<;>rfl
theorem KG(aL:List cE)(l:List e5):(hG aL l).length<=l.length:=by rw[hG,atb];exact atN _ _
theorem aaj(n:aa)(aL:List cE)(ax:eY n)(aV:aL.length<1000000)(aw:∀p∈(if valid n=true then dA n [] 1 else[]),p.length<1000000000)(dj:(if valid n=true then dA n [] 1 else[]).length<1000000): aU B 18 [aE n,.Q .none 3 (aL.map a_)] (.Q .none 1 (aN (hG aL (ci n)))):=by have Q0:=aag (B:=B) n ax aw dj;(have uF:∀f∈ci n,(eD n f.path).1.d7=f.data/\f.path.length<1000000000:=λf M=>axb);(have dm:(ci n).length<1000000:=axg);generalize ci n=bG at*;(have eS:(aN (ji bG)).length=bG.length:=by simp[aN,ji]);(have GO:∀i (h:i<bG.length),(aN (ji bG))[(i:Int).toNat]?=some (.O bG[i].path):=λi h=>by rw[atE];simp[aN,ji,h]);generalize aN (ji bG)=JY at*;refine fn Tryz.func18 Tryz.ntmps18 λU=>?_;refine go ?_;intro cg;(conv=>whnf);refine c1 ?_;refine iG 2 2 12 (aE n) ?_;refine go ?_;refine bp Q0 ?_;refine X.own 5 1000 1 9 rfl (λw0=>?_);refine fZ (λx:Nat×Value=>x.1<=bG.length) [1,2,6] [] (λx=>[(5,.Q (.own 1000 x.2) 1 (aN (hG aL (bG.take x.1)))),(7,u x.1)]) (λx=>[(1000,.own x.2 (aN (hG aL (bG.take x.1))).length 1 9)]) (λx=>bG.length-x.1) (0,w0) (atq _) [(1000,1000)] ?_;rintro⟨i,w⟩ hi;dsimp only at hi⊢;refine go ?_;rw[eS];refine cb (t:=decide ((i:Int)<(bG.length:Nat))) ?_ ?_<;>intro hc;(have cz:i<bG.length:=by have:=atw hc;omega);have oe:=GO i cz;have xK:=aai aL cz;have kB:=KG aL (bG.take i);rw[atv]at kB;obtain⟨N,Q1⟩:=uF _ (ate cz);have GP:=aae (B:=B) n bG[i].path ax Q1;have Q2:=aaf (B:=B) aL bG[i].path asZ;rw[N]at GP;have GQ:Di aL bG[i]=bif bG[i].data !=[]then decide (e2 (λg:cE=>g.path==bG[i].path) aL<0)else false:=rfl;generalize bG[i]=f at*;generalize e2 (λg:cE=>g.path==f.path) aL=fC at*;generalize hG aL (bG.take i)=bw at*;(have Ck:(aN bw).length=bw.length:=by simp[aN]);refine go ?_;refine vo ?_;refine bD (.O f.path) oe ?_;refine bp GP ?_;refine bD (.O f.path) oe ?_;refine bp Q2 ?_;refine cb (t:=bif f.data !=[]then decide (fC<0)else false) ?_ ?_<;>intro bs;rw[GQ,bs,as_ rfl]at xK;refine go ?_;refine bD (.O f.path) oe ?_;intro gN;(conv=>whnf);refine go ?_;(have sK:aN bw++[.O f.path]=aN (hG aL (bG.take (i+1))):=by rw[xK];simp[aN]);exact eK (i+1,gN) [(1000,38)] cz (A:=⟨⟨E,E,E,aq.j6 sK,sQ,ai⟩,rfl,rfl,ky (by rw[<-sK,atf];rfl),ai⟩);rw[GQ,bs,as9 as2,aua]at xK;refine go ?_;refine eK (i+1,w) [(1000,1000)] cz (A:=?_);dsimp only;rw[xK];exact⟨cP,rfl,cP⟩;(have cd:i=bG.length:=by have:=atl hc;omega);subst cd;rw[ati];refine go ?_;exact .jl _
def pK(n:aa)(m:fg)(b3:List as8)(aL:List cE):Bool:=bif bif bif og n 100000 then Iu m else false then decide ((b3.length:Int)<=50)else false then decide ((aL.length:Int)<=50)else false
theorem aak(n:aa)(m:fg)(b3:List as8)(aL:List cE)(ax:eY n)(hm:m.name.length+m.set.length+m.oc.length+m.od.length+m.kY.length<1000000000):aU B 27 [aE n,hP m,.Q .none 1 (aN b3),.Q .none 3 (aL.map a_)] (.bool (pK n m b3 aL)):=by have aok:=aeE (B:=B) n 100000 ax;have sO:=ad6 (B:=B) m hm;(have gB:(aN b3).length=b3.length:=by simp[aN]);have t':(aL.map a_).length=aL.length:=atb _;refine fn Tryz.func27 Tryz.ntmps27 λU=>?_;refine go ?_;intro cT;(conv=>whnf);refine c1 ?_;intro cJ;(conv=>whnf);refine go ?_;refine bp aok ?_;refine bp sO ?_;rw[gB,t'];exact E
theorem aol(a b:List Int)(ha:a.length<1000000):aU B 64 [.Q .none 1 (bn a),.Q .none 1 (bn b)] (.bool (a==b)):=by have kB:(bn a).length=a.length:=atb _;have eA:(bn b).length=b.length:=atb _;refine fn Tryz.func64 Tryz.ntmps64 λU=>?_;refine go ?_;rw[kB,eA];refine cb (t:=!((a.length:Int)==(b.length:Nat))) ?_ ?_<;>intro hc;(have:(a==b)=false:=by rw[atK];intro h;rw[h]at hc;simp at hc);rw[this];refine go ?_;exact E;(have nT:a.length=b.length:=aw');refine go ?_;refine fZ (λi:Nat=>i<=a.length/\a.take i=b.take i) [0,1] [] (λi=>[(5,u i)]) (λ_=>[]) (λi=>a.length-i) 0 ⟨atq _,rfl⟩ [] ?_;rintro i ⟨hi,au⟩;refine go ?_;rw[kB];refine cb (t:=decide ((i:Int)<(a.length:Nat))) ?_ ?_<;>intro bs;(have aH:i<a.length:=by have:=atw bs;omega);(have qc:i<b.length:=by omega);(have vL:(bn a)[(i:Int).toNat]?=some (.int .i64 a[i]):=by rw[atE];simp[bn,aH]);(have w9:(bn b)[(i:Int).toNat]?=some (.int .i64 b[i]):=by rw[atE];simp[bn,qc]);(have xc:a[i]=b[i]->a.take (i+1)=b.take (i+1):=λh=>by rw[atc aH,atc qc,au,h]);(have a6:a[i]≠b[i]->(a==b)=false:=λh=>by rw[atK];intro A;subst A;exact h rfl);generalize a[i]=x at*;generalize b[i]=y at*;refine go ?_;refine bD _ vL ?_;refine bD _ w9 ?_;refine cb (t:=!(x==y)) ?_ ?_<;>intro dx;rw[a6 (by simpa using dx)];refine go ?_;exact E;refine go ?_;exact eK (i+1) [] ⟨aH,xc (by simpa using dx)⟩;exact awY
theorem aom(a b:List cE)(ha:a.length<1000000):aU B 63 [.Q .none 3 (a.map a_),.Q .none 3 (b.map a_)] (.bool (a==b)):=by have kB:(a.map a_).length=a.length:=atb _;have eA:(b.map a_).length=b.length:=atb _;refine fn Tryz.func63 Tryz.ntmps63 λU=>?_;refine go ?_;rw[kB,eA];refine cb (t:=!((a.length:Int)==(b.length:Nat))) ?_ ?_<;>intro hc;(have:(a==b)=false:=by rw[atK];intro h;rw[h]at hc;simp at hc);rw[this];refine go ?_;exact E;(have nT:a.length=b.length:=aw');(have aon:∀i (h:i<a.length),(a.map a_)[(i:Int).toNat]?=some (a_ a[i]):=λi h=>by rw[atE];simp[h]);(have aoo:∀i (h:i<b.length),(b.map a_)[(i:Int).toNat]?=some (a_ b[i]):=λi h=>by rw[atE];simp[h]);generalize a.map a_=asq at*;generalize b.map a_=asr at*;refine go ?_;refine fZ (λi:Nat=>i<=a.length/\a.take i=b.take i) [0,1] [] (λi=>[(5,u i)]) (λ_=>[]) (λi=>a.length-i) 0 ⟨atq _,rfl⟩ [] ?_;rintro i ⟨hi,au⟩;refine go ?_;rw[kB];refine cb (t:=decide ((i:Int)<(a.length:Nat))) ?_ ?_<;>intro bs;(have aH:i<a.length:=by have:=atw bs;omega);(have qc:i<b.length:=by omega);have vL:=aon i aH;have w9:=aoo i qc;(have xc:a[i]=b[i]->a.take (i+1)=b.take (i+1):=λh=>by rw[atc aH,atc qc,au,h]);(have a6:a[i]≠b[i]->(a==b)=false:=λh=>by rw[atK];intro A;subst A;exact h rfl);generalize a[i]=x at*;generalize b[i]=y at*;refine go ?_;refine bD _ vL ?_;refine bD _ w9 ?_;refine cb ?_ ?_<;>intro dx;rw[a6 (λh=>by subst h;simp at dx)];refine go ?_;exact E;refine go ?_;refine eK (i+1) [] ⟨aH,xc ?_⟩;cases x;cases y;simp at dx⊢;exact dx;exact awY
theorem aal(l:qm)(aj:l.files.length<1000000/\l.qn.length<1000000):aU B 21 [jU l,jU l] (.bool true):=by have mR:=aom (B:=B) l.files l.files aj.1;have gP:=aol (B:=B) l.qn l.qn aj.2;rw[show(l.files==l.files)=true by simp]at mR;rw[show(l.qn==l.qn)=true by simp]at gP;refine fn Tryz.func21 Tryz.ntmps21 λU=>?_;refine go ?_;intro cg;(conv=>whnf);refine c1 ?_;intro eG;(conv=>whnf);refine go ?_;refine' eJ [(2,.box cg (jU l).cells),(3,.box eG (jU l).cells)] (α:=Nat×Nat) (0,0) (λy=>[_,_,_,_,.box 5 y.1 0,.box 6 y.2 0,.any,.any]) (λy=>[(4,5,some (.box y.1 [u 0,.bool false,u 0,u 0,u 0,u 0,u 0,.bj,u 0,u 0,u 0])),(5,6,some (.box y.2 [u 0,.bool false,u 0,u 0,u 0,u 0,u 0,.bj,u 0,u 0,u 0])),(6,5,some (.box y.1 [u l.kind,.bool l.opn,u l.uS,u l.uC,u l.recg,u l.w5,u l.pC,.Q .none 1 (bn l.qn),u l.commit,u l.spS,u l.spC])),(7,6,some (.box y.2 [u l.kind,.bool l.opn,u l.uS,u l.uC,u l.recg,u l.w5,u l.pC,.Q .none 1 (bn l.qn),u l.commit,u l.spS,u l.spC]))]) [0,1,0,4,0,0,51,127] [(4,5),(5,6),(6,5),(7,6)] ?_ ?_;rotate_left 4;refine dw ?_;refine yg (λy=>show∀iF:Nat,_ from λiF=>dT (iF,y.2)) ?_;refine yg (λy=>show∀iF:Nat,_ from λiF=>dT (y.1,iF)) ?_;refine vs ?_;refine vs ?_;exact trivial;rintro⟨cJ,dY⟩;(conv=>whnf);refine go ?_;refine bp mR ?_;refine bp gP ?_;exact EA as1
end Go.bS.cj
namespace Go.Proofs
end Go.Proofs
namespace Go.bS.cj
open Go Go.Proofs Go.RowKit Go.bS Go.Sort
variable{B:World}
theorem KH:∀l:List as8,b1 (l.map D.O)=l.map D.O
 |[]=>rfl
 |x::r=>by have:=KH r;simp only[b1]at this⊢;rw[atG,auc,this];rfl
variable{w:World}{C:Nat->Nat}{m8:Value}
theorem aam{l:List as8}(h:bh w C (.Q .none 1 (l.map D.O)) m8):fN.ET w.heap.size w m8 l:=by rcases h.kl with⟨h0,⟨a,rfl⟩,_⟩|⟨b,o,cap,g,rfl,_,bi,_,_,_,_,ga,_,eQ⟩;exact .inl ⟨⟨a,rfl⟩,by simpa using h0⟩;refine .inr ⟨b,o,cap,by rw[atb],bi,λj ad=>?_⟩;(have N:(b1 (l.map D.O))[j]?=some (.O l[j]):=by rw[KH,atA,ata ad];rfl);rw[ga j _ N,(eQ j _ N).kM,ata ad];rfl
theorem aan(args:Array Value)(w:World):(callFunc 93 args).run Tryz.prog w=.ok (.enter 93 args) w:=by
 have mb : (Tryz.f93.name == "runtime.NumGoroutine") = false := by decide +kernel
 have F:Tryz.f93.body.isNone=false:=rfl;simp only[callFunc,run_program,Sem.run_bind,Result.andThen_ok,Tryz.func93,mb,F,auk,auU,Sem.run_pure]
theorem aop(l:List as8)(aj:l.length<=1000000):mO Tryz.prog B 91 [.fn (.func 93) [] [.a8 1 [.Q .none 1 (l.map D.O)] 0 0]] (.Q .none 1 (l.map D.O)):=by
 refine⟨⟨_,Tryz.func91,rfl,by decide +kernel⟩,λw C args F kr=>?_⟩
 obtain⟨v,rfl⟩:∃v,args=[v]:=by
  cases args with
  |nil=>exact absurd kr.1 as1
  |cons v r=>cases r with
   |nil=>exact⟨v,rfl⟩
   |cons _ _=>exact absurd kr.1 as1
 obtain⟨fJ,hl,rfl,h1,A⟩:=(kr.2 0 _ v rfl rfl).u2;obtain rfl:fJ=[]:=atm h1.1.symm
 obtain⟨p,rfl⟩:∃p,hl=[p]:=by
  cases hl with
  |nil=>exact absurd A.1 as1
  |cons v r=>cases r with
   |nil=>exact⟨v,rfl⟩
   |cons _ _=>exact absurd A.1 as1
 have aw:=A.2 0 _ p rfl rfl
 cases aw with
 |a8 _ _ _ _ b o cap h =>
  rcases h.kl with⟨h0,_⟩|⟨eo,bL,hY,g,W,_,bi,_,_,_,_,ga,_,eQ⟩
  ·cases h0
  injection W with bY _ _
  injection bY with bY
  injection bY with bY b' _
  subst bY;subst b'
  have ic:w.cell? ⟨b,o,none⟩=some (g 0):=ga 0 _ rfl;have Q3:=fN.TG Fence.wide 8 trivial rfl asZ b o w.heap.size (g 0) l asZ w bi (atg _) ic (aam (eQ 0 _ rfl));have hc:=fN.TK Tryz.laysCol Fence.wide 10 trivial trivial rfl asZ 93 #[.pointer (some ⟨b,o,none⟩)] trivial aan (λa'=>a'=l) (λpre=>pre <+: l) l.length (by simp only[maxLen];omega) asZ w Q3;refine(callsIn_wide.1 hc).mono λe w' ⟨v,cC,ao,hs,dM,pU,eA⟩=>?_;subst hs
  have jo:∀D:Nat,nO w C w' (λx=>if x<w.heap.size then C x else D):=λD =>
   ⟨eA.size,λx I=>by simp only[I,aum];exact atg _,λx o I ah=>by simp only[World.cell?,eA.block x I]⟩
  refine⟨v,λx=>if x<w.heap.size then C x else cC.length,ao,?_,⟨jo _,eA.os,eA.tape,eA.output,λx I _=>⟨eA.block x I,by simp only[I,aum]⟩⟩⟩;rcases dM.2 with⟨rfl,h0⟩|⟨GR,cap,ft,rfl,pX,GS,kD,lp,m_,oS⟩
  ·have:cC=[]:=atm h0;subst this;exact .jk _ _ none trivial
  have:=xW (w:=w') (C:=λx=>if x<w.heap.size then C x else cC.length) (tg:=.none) (k:=1) (xs:=cC.map D.O) (vs:=ft.toList) (b:=GR) (cap:=cap) GS (λx I=>by obtain⟨_,_,rfl⟩:=aty.1 I;rfl) (by rw[atb];exact kD) lp
   (by rw[as9 asZ,atb];omega)
   (λj d N=>by
    rw[KH,atA]at N
    cases I:cC[j]? with
    |none=>rw[I]at N;cases N
    |some x =>
     rw[I]at N;cases N
     have ad:j<cC.length:=(atI.1 I).1;have GU:(ft.toList.take (cC.length*1))[j]?=some (encStr x):=by rw[oS,atA,I];rfl
     rw[atZ,as_ asZ]at GU
     exact⟨_,GU,.O x,rfl⟩) trivial
  rw[atb]at this;exact this
theorem aoq(l:List as8)(aj:l.length<=1000000):c7 Tryz.prog B 91 [.fn (.func 93) [] [.a8 1 [.Q .none 1 (l.map D.O)] 0 0]] bF.none λd aO=>∃v,d=.al v/\aO=aK [(2000,.row v (l.map D.O) 1 9)]:=by
 refine⟨⟨_,Tryz.func91,rfl,by decide +kernel⟩,λw C args Ft F qQ hH kr=>?_⟩
 obtain⟨v,rfl⟩:∃v,args=[v]:=by
  cases args with
  |nil=>exact absurd kr.1 as1
  |cons v r=>cases r with
   |nil=>exact⟨v,rfl⟩
   |cons _ _=>exact absurd kr.1 as1
 obtain⟨fJ,hl,rfl,h1,A⟩:=(kr.2 0 _ v rfl rfl).u2;obtain rfl:fJ=[]:=atm h1.1.symm
 obtain⟨p,rfl⟩:∃p,hl=[p]:=by
  cases hl with
  |nil=>exact absurd A.1 as1
  |cons v r=>cases r with
   |nil=>exact⟨v,rfl⟩
   |cons _ _=>exact absurd A.1 as1
 have aw:=A.2 0 _ p rfl rfl
 cases aw with
 |a8 _ _ _ _ b o cap h =>
  rcases h.kl with⟨h0,_⟩|⟨eo,bL,hY,g,W,_,bi,_,_,_,_,ga,_,eQ⟩
  ·cases h0
  injection W with bY _ _
  injection bY with bY
  injection bY with bY b' _
  subst bY;subst b'
  have ic:w.cell? ⟨b,o,none⟩=some (g 0):=ga 0 _ rfl;have Q3:=fN.TG Fence.wide 8 trivial rfl asZ b o w.heap.size (g 0) l asZ w bi (atg _) ic (aam (eQ 0 _ rfl));have hc:=fN.TK Tryz.laysCol Fence.wide 10 trivial trivial rfl asZ 93 #[.pointer (some ⟨b,o,none⟩)] trivial aan (λa'=>a'=l) (λpre=>pre <+: l) l.length (by simp only[maxLen];omega) asZ w Q3;refine(callsIn_wide.1 hc).mono λe w' ⟨v,cC,ao,hs,dM,pU,eA⟩=>?_;subst hs
  have jo:nO w C w' (λx=>if x<w.heap.size then C x else 0) :=
   ⟨eA.size,λx I=>by simp only[I,aum];exact atg _,λx o I ah=>by simp only[World.cell?,eA.block x I]⟩
  have d9:∀x,(aI.row v (cC.map D.O) 1 9).ef x->w.heap.size<=x:=λx I=>by
   obtain⟨n,c,Z,aD⟩:=I;rcases dM.2 with⟨rfl,h0⟩|⟨GR,cap,ft,rfl,pX,GS,kD,lp,m_,oS⟩
   ·cases Z
   injection Z with Z;injection Z with Z;injection Z with Z;omega
  refine⟨v,.al v,λx=>if x<w.heap.size then C x else 0,aK [(2000,.row v (cC.map D.O) 1 9)],ao,⟨v,rfl,rfl⟩,.al v,⟨jo,eA.os,eA.tape,eA.output,λx I _=>⟨eA.block x I,by simp only[I,aum]⟩⟩,?_⟩
  have only:∀j o,aK [(2000,aI.row v (cC.map D.O) 1 9)] j=some o->j=2000/\o=.row v (cC.map D.O) 1 9:=λj o ah=>by
   simp only[aK]at ah
   cases F:Nat.beq j 2000 with
   |true=>rw[F]at ah;exact⟨avb F,by simpa using ah.symm⟩
   |false=>rw[F]at ah;simp at ah
  refine⟨λj o ah=>?_,λj ew o bL x a6 h1 A _ _=>absurd ((only j o h1).1.trans (only ew bL A).1.symm) a6,λj o x ah an=>?_⟩
  ·obtain⟨_,rfl⟩:=only j o ah;rcases dM.2 with⟨rfl,h0⟩|⟨GR,cap,ft,rfl,pX,GS,kD,lp,m_,oS⟩
   ·have:cC=[]:=atm h0;subst this;exact⟨none,0,rfl,atg _,atq _,λx I=>(by cases I),λdF gc=>(by cases gc),λh=>absurd h as1⟩
   refine⟨_,cap,by rw[atb],by rw[atb];exact kD,lp,λx I=>by obtain⟨_,_,rfl⟩:=aty.1 I;rfl,λdF gc=>⟨GR,by cases gc;rfl,(auW.1 GS).1⟩,λ_=>⟨GR,ft,rfl,GS,m_,?_,λj d N=>?_⟩⟩
   ·exact as9 asZ
   rw[KH,atA]at N
   cases I:cC[j]? with
   |none=>rw[I]at N;cases N
   |some x =>
    rw[I]at N;cases N
    have ad:j<cC.length:=(atI.1 I).1;have GU:(ft.toList.take (cC.length*1))[j]?=some (encStr x):=by rw[oS,atA,I];rfl
    rw[atZ,as_ asZ]at GU;exact⟨_,by simpa using GU,.O x,rfl⟩
  obtain⟨_,rfl⟩:=only j o ah;exact .inr (d9 x an)
end Go.bS.cj
namespace Go.Proofs
end Go.Proofs
namespace Go.bS.cj
open Go Go.Proofs Go.RowKit Go.Sort Go.Lib
variable{B:World}
def uT(l:List as8):List D:=l.map D.O
def mK(L:List as8):List as8:=L.mergeSort λx y=>decide (x<=y)
variable{dk:aI}
theorem KI{a:Nat}{o:aI}{s:Nat}(h:aK [(a,dk)] s=some o):s=a/\o=dk:=aw3
theorem aor(L:List as8)(v:Value)(h0:0<L.length)(aj:L.length<1000000):
  c7 Tryz.prog B 92 [.al v] (aK [(2000,.row v (uT L) 1 9)]) λd aO=>d=.bo []/\aO=aK [(2000,.row v (uT (mK L)) 1 9)]:=by
 refine⟨⟨_,Tryz.func92,rfl,by decide +kernel⟩,λw C args Ft pX qQ hH ae=>?_⟩;obtain⟨nA,ae⟩:=ae
 match args,nA with
 |[a0],_ =>
  have h1:=(ae 0 _ a0 rfl rfl).gb;subst h1;have dM:kj w C a0 (uT L) 1 9:=hH.ch 2000 _ rfl;have eS:∀ap:List as8,(uT ap).length=ap.length:=λap=>by simp[uT]
  obtain⟨b,cap,vs,W,hc,hm,Y,F,fK,df,hcells⟩:=kj.pos dM (i:=0) (by rw[eS];exact h0);have hcap:0<cap:=by rw[eS]at hc;omega
  have d9:∀ap:List as8,∀x∈uT ap,x.cells=[x]:=λap x I=>by obtain⟨y,_,rfl⟩:=aty.1 I;rfl
  rw[rL (d9 L)]at hcells
  have Ff:=Any.slices_Sort_string Tryz.lays190 b 0 cap L w (λj ad=>by
    have gk:j<L.length:=by simpa using ad
    obtain⟨V,bc,cL,_⟩:=hcells j (.O L[j]) (by simp[uT,gk]);refine⟨?_,by simp[World.frozen?,F]⟩;have aV:L.toArray[j]! = L[j]:=by simp[gk]
    rw[aV];simp only[World.cell?,F,atT]
    simp[bc,cL.kM,encStr]) (hM F) asZ
  subst W;rw[eS]at dM⊢;have e_:∀(xs:List D),aI.ef (.row (.slice (some ⟨b,0,none⟩) L.length cap) xs 1 9) b:=λxs=>⟨_,cap,rfl,hcap⟩;have uh:=hH.cN 2000 _ b rfl ⟨_,cap,rfl,hcap⟩;refine Ff.mono ?_;rintro e w' ⟨rfl,m,os,rfl⟩;have Jk:(mK L).length=L.length:=av0 _;have a1:=da.Iz encStr w C b 0 m (mK L).toArray os df;refine⟨.tuple #[],.bo [],C,_,rfl,⟨rfl,rfl⟩,.bo [] [] rfl (λi d v N _=>by simp at N),?_,⟨λs o ah=>?_,λs bq o bL x a6 h1 A an cW=>?_,λs o x ah an=>?_⟩⟩
  ·exact⟨a1.ext,a1.os,a1.tape,a1.output,λx I bM=>a1.iv x I λe=>by subst e;exact bM uh⟩
  ·obtain⟨rfl,rfl⟩:=KI ah
   refine⟨some ⟨b,0,none⟩,cap,by rw[eS,Jk],by rw[eS]at hc⊢;omega,hm,λx I=>by rw[d9 _ x I];rfl,λdF gc=>⟨b,by cases gc;rfl,atY (hM F) a1.ext.size⟩,
    λ_=>⟨b,_,rfl,Iy _ _ _ _ _ _ _ F,ax4,df,λj d N=>?_⟩⟩
   rw[rL (d9 _)]at N;have ad:j<(mK L).length:=by have:=e9 N;rwa [eS]at this
   have Al:j<vs.size:=by rw[eS]at hc;simp at fK;omega
   have Fg:d=.O (mK L)[j]:=by simp[uT,ad]at N;exact N.symm
   subst Fg;refine⟨encStr (mK L)[j],?_,.O _,rfl⟩;have lr:j<(mK L).toArray.size:=by simpa using ad
   simp only[putCells,av1,auH Al,auD,atq,true_and,atT,lr,aum,Nat.sub_zero];show some (if j<(mK L).toArray.size then encStr ((mK L).toArray[j]!)else vs[j])=_;rw[as_ lr,getElem!_pos (mK L).toArray j lr];rfl
  ·obtain⟨rfl,_⟩:=KI h1;obtain⟨rfl,_⟩:=KI A;exact a6 rfl
  obtain⟨rfl,rfl⟩:=KI ah;obtain⟨hX,u',fX,_⟩:=an;have:=pc fX;subst this
  exact .inl uh
end Go.bS.cj
namespace Go.bS
open Go Go.RowKit
variable{P:Program}{B:World}{am:Nat}{U:b8 P B am}{K:cM->av->Prop}
end Go.bS
namespace Go.bS.cj
open Go Go.Proofs
variable{B:World}{f:FuncId}{ds:List D}{a7:D->bF->Prop}{k:Nat}
theorem c7.tf{H:bF}{s:Nat}(h:H s=none)(hc:cZ B f ds bF.none a7):cZ B f ds (gC H [(k,s)]) a7:=by(have e:gC H [(k,s)]=bF.none:=by funext j;simp only[gC,bF.none];cases Nat.beq j k with|true=>exact h|false=>rfl);rw[e];exact hc
theorem aos(xs:List D):aU B 59 [.Q .none 1 xs] (.fn (.func 93) [] [.a8 1 [.Q .none 1 xs] 0 0]):=by refine bA Tryz.func59 Tryz.ntmps59 λU=>?_;refine ck ?_;intro dB;(conv=>whnf);refine X.BF 1 1 (.Q .none 1 xs) rfl rfl rfl rfl ?_;refine gm ?_;exact E
theorem aot(l:List as8)(h0:0<l.length)(aj:l.length<1000000):aU B 58 [.fn (.func 93) [] [.a8 1 [.Q .none 1 (uT l)] 0 0]] (.Q .none 1 (uT (mK l))):=by refine bA Tryz.func58 Tryz.ntmps58 λU=>?_;apply b2;refine qU ?_;refine .inr (af.call rfl [.fn (.func 93) [] [.a8 1 [.Q .none 1 (l.map D.O)] 0 0]] [(2000,70)] (c7.tf rfl (aoq l asZ)) rfl ar ?_);rintro d aO ⟨v,rfl,rfl⟩;refine⟨_,E,?_⟩;refine qU ?_;refine .inr (af.call rfl [.al v] [(2000,70)] (c7.ad7 rfl (aor l v h0 aj)) rfl ar ?_);rintro d aO ⟨rfl,rfl⟩;refine rO ?_;refine X.fb [(3,.al v)] [(70,.row v (uT (mK l)) 1 9)] [(70,70)] ⟨ar,rfl,bb⟩ ?_;refine X.vm 70 3 rfl ?_;refine gm ?_;exact E
def aao(s:as8):as8:=(([5]++[oR (IntKind.wrap .u8 ((s8 s).1.length:Nat))])++[0,0])++(s8 s).1
def ru(cn s:as8):as8 :=
 if(s==[])=true then cn else if(s==[46])=true then cn++[4,0,0,0]else if(s==[46,46])=true then cn++[3,0,0,0]else cn++aao s
def xL(t:as8):as8:=if[47].isPrefixOf t=true then[2,0,0,0]else[]
def rv(t:as8):as8:=if[47].isPrefixOf t=true then t.drop 1 else t
def Dj(t:as8):as8:=(cR 47 [] (rv t)).foldl ru (xL t)
theorem aou(cn s:as8):(ru cn s).length<=cn.length+131077:=by have:=NL s;unfold ru;split;omega;split;simp;split;simp;simp only[aao,atf,ath,atD];omega
theorem KJ(t:as8):∀(l:List as8) (o:as8),(l.foldl ru o).length<=o.length+l.length*131077
 |[],o=>by simp
 |s::r,o=>by have h1:=KJ t r (ru o s);have A:=aou o s;rw[auF,ath,avj];omega
theorem Q4(t:as8):(rv t).length<=t.length:=by unfold rv;split;rw[aul];omega;omega
theorem Q5(t:as8):(xL t).length<=4:=by unfold xL;split<;>simp
variable{i:Nat}
theorem aov{l:List as8}(h:i<l.length)(o:as8):(l.take (i+1)).foldl ru o=ru ((l.take i).foldl ru o) l[i]:=by rw[atc h,auf];rfl
theorem aow(n:Int):[D.int .u8 (IntKind.wrap .u8 n)]=([oR (IntKind.wrap .u8 n)]).map λc=>D.int .u8 c.toNat:=yr [IntKind.wrap .u8 n] λm hm=>by
 rw[atW]at hm;subst hm;exact NK n
theorem aox(aW:dc B)(t:as8)(au:t.length<1000000):aU B 269 [.O t] (.O (Dj t)):=by refine bA Tryz.func269 Tryz.ntmps269 λU=>?_;refine ph ?_;refine X.lL (α:=Unit) (λx=>[(0,.O (rv t)),(3,.O (xL t))]) (λx=>[]) ?_ ?_;refine go ?_;refine bp (acx t [47]) ?_;refine aJ ([47].isPrefixOf t) rfl ?_ ?_<;>intro hc;refine X.u_ aM mixed as4 ?_;refine go ?_;(have aw:1<=t.length:=by cases t with|nil=>cases hc|cons a r=>simp);refine⟨λ_=>by omega,?_⟩;refine go ?_;exact⟨(),[],⟨aq.of_eq (as' D.O (by rw[rv,as_ hc,atE,ati];rfl)),aq.of_eq (as' D.O (by rw[xL,as_ hc])),ai⟩,rfl,ai⟩;refine go ?_;exact⟨(),[],⟨aq.of_eq (as' D.O (by rw[rv,as9 (by rw[hc];decide)])),aq.of_eq (as' D.O (by rw[xL,as9 (by rw[hc];decide)])),ai⟩,rfl,ai⟩;rintro⟨⟩;have ae:=Q4 t;have ah:=Q5 t;refine go ?_;refine bp (Ip aW (rv t) 47 asZ) ?_;have dj:=(s1 (c:=47) (rv t) []).1;have vP:=(s1 (c:=47) (rv t) []).2;unfold Dj;generalize cR 47 [] (rv t)=P at*;generalize xL t=cQ at*;refine go ?_;refine X.loop (α:={i:Nat // i<=P.length}) (λx=>[(3,.O ((P.take x.1).foldl ru cQ)),(13,.Q .none 1 (aN P)),(14,u ((aN P).length:Nat)),(15,u x.1)]) (λ_=>[]) (λx=>P.length-x.1) ⟨0,by omega⟩ ⟨E,aq.jl _,E,E,ai⟩ trivial ?_;rintro⟨i,hi⟩;dsimp only at hi⊢;refine go ?_;refine aJ (decide ((i:Int)<((aN P).length:Nat))) rfl ?_ ?_<;>intro hc;apply cr;(have aH:i<P.length:=by simpa[aN]using hc);have gB:=KJ t (P.take i) cQ;rw[atv,avQ hi]at gB;have cX:=aov aH cQ;generalize iM:(P.take i).foldl ru cQ=bw at*;generalize hs:P[i]=s at*;refine gK ?_;refine⟨λ_=>by simp[aN];omega,?_⟩;refine go ?_;refine⟨.O s,λ_=>by simp[aN,aH,hs],?_⟩;refine go ?_;refine aJ (s==[]) rfl ?_ ?_<;>intro fc;refine go ?_;exact⟨⟨i+1,aH⟩,axX,⟨aq.of_eq (as' D.O (by rw[cX,ru,as_ fc])),E,E,E,ai⟩,ai⟩;refine go ?_;refine aJ (s==[46]) rfl ?_ ?_<;>intro bs;refine m0 ?_;refine mZ ?_;exact⟨⟨i+1,aH⟩,axX,⟨aq.of_eq (as' D.O (by rw[cX,ru,as9 (by rw[fc];decide),as_ bs])),E,E,E,ai⟩,ai⟩;refine go ?_;refine aJ (s==[46,46]) rfl ?_ ?_<;>intro dx;refine m0 ?_;refine mZ ?_;exact⟨⟨i+1,aH⟩,axX,⟨aq.of_eq (as' D.O (by rw[cX,ru,as9 (by rw[fc];decide),as9 (by rw[bs];decide),as_ dx])),E,E,E,ai⟩,ai⟩;apply ep;(have eS:s.length<1000000000:=by have:=vP s (hs ▸ ate aH);rw[atD]at this;omega);have kn:=NL s;refine m0 ?_;refine⟨[.O s],_,λ_=>Vk aW s eS,ar,?_⟩;(conv=>whnf);refine X.D6 aM ?_;refine nZ ?_;refine .inr ?_;(conv=>whnf);refine pg ?_;refine .inr (af.vb aM (aR:=[oR (IntKind.wrap .u8 ((s8 s).1.length:Nat))]) (tg:=.dR) rfl rfl rfl rfl rfl rfl (as' (D.Q .dR 1) (aow _)) ?_);refine wN ?_;refine p5 ?_;refine p5 ?_;refine mZ ?_;exact⟨⟨i+1,aH⟩,axX,⟨aq.of_eq (as' D.O (by rw[cX,ru,as9 (by rw[fc];decide),as9 (by rw[bs];decide),as9 (by rw[dx];decide)];rfl)),E,E,E,ai⟩,ai⟩;refine go ?_;(have cd:i=P.length:=by simp[aN]at hc;omega);exact axT
theorem aoy(t:as8)(au:t.length<1000000):(Dj t).length<132000000000:=by have h1:=KJ t (cR 47 [] (rv t)) (xL t);have A:=(s1 (c:=47) (rv t) []).1;have Z:=Q4 t;have aD:=Q5 t;unfold Dj;omega
def A4(s:as8):Int:=(ul s false false).1
def uU(l:List aa):Int:=l.foldl (λm k=>m+A4 k.name) (ul [] true true).1
def zf(n:aa):Int:=if n.kind=2 then((Dj n.target).length:Nat)else uU n.J
theorem KK(s:as8)(d p:Bool):0<=(ul s d p).1/\(ul s d p).1<131200:=by have:=Vm s d p;unfold ul;split;simp only[NJ];rw[atp asZ];omega;simp
theorem Q6:∀(l:List aa) (m:Int),0<=m->0<=l.foldl (λm k=>m+A4 k.name) m/\l.foldl (λm k=>m+A4 k.name) m<=m+131200*(l.length:Nat)
 |[],m,h=>by simp;exact h
 |k::r,m,h=>by have h1:=KK k.name false false;have A:=Q6 r (m+A4 k.name) (by unfold A4;omega);rw[auF,ath];unfold A4 at*;omega
theorem aoz{l:List aa}(h:i<l.length):uU (l.take (i+1))=uU (l.take i)+A4 l[i].name:=by rw[uU,uU,atc h,auf];rfl
theorem aap(l:List aa)(i:Nat)(h:l.length<1000000):0<=uU (l.take i)/\uU (l.take i)<131200*1000002:=by
 have h1:=KK [] true true;have A:=Q6 (l.take i) (ul [] true true).1 h1.1;have Z:(l.take i).length<=l.length:=by rw[atv];omega
 unfold uU;omega
theorem aoA(n:aa)(Y:n.J.length<1000000)(au:n.target.length<1000000):0<=zf n/\zf n<132000000000:=by have h1:=aoy n.target au;have A:=aap n.J n.J.length Y;rw[ati]at A;unfold zf;split<;>omega
theorem aoB(aW:dc B)(n:aa)(Y:n.J.length<1000000)(au:n.target.length<1000000)(m':∀k∈n.J,k.name.length<1000000000):aU B 210 [aE n] (u (zf n)):=by refine bA Tryz.func210 Tryz.ntmps210 λU=>?_;refine go ?_;intro dB;refine go ?_;refine aJ (n.kind==2) rfl ?_ ?_<;>intro hc;refine go ?_;refine bp (aox aW n.target au) ?_;rw[zf,as_ (by simpa using hc)];exact E;refine go ?_;rw[zf,as9 (by simpa using hc)];refine go ?_;refine bp (Vn aW [] true true as2) ?_;refine X.ec (α:={i:Nat // i<=n.J.length}) (λx=>[(3,u (uU (n.J.take x.1))),(22,.Q .none 12 (n.J.map enc)),(23,u ((n.J.map enc).length:Nat)),(24,u x.1)]) (λ_=>[]) (λx=>n.J.length-x.1) ⟨0,by omega⟩ [] ⟨ar,rfl,ai⟩ ?_;rintro⟨i,hi⟩;dsimp only at hi⊢;refine go ?_;refine aJ (decide ((i:Int)<((n.J.map enc).length:Nat))) rfl ?_ ?_<;>intro hc;apply cr;(have aH:i<n.J.length:=by simpa using hc);have ae:=aap n.J i Y;have cX:=aoz aH;have f_:=m' _ (ate aH);(have h4:(n.J.map enc)[i]?=some (aE n.J[i]):=by simp[aH,rQ]);have kV:=KK n.J[i].name false false;generalize gV:uU (n.J.take i)=S at*;refine gK ?_;refine⟨λ_=>by rw[atb];omega,?_⟩;(conv=>whnf);refine⟨aE n.J[i],λ_=>h4,?_⟩;refine go ?_;intro dY;refine go ?_;refine bp (Vn aW n.J[i].name false false f_) ?_;exact⟨⟨i+1,aH⟩,[],axN,⟨aq.of_eq (as' (D.int .i64) cX.symm),E,E,E,ai⟩,rfl,ai⟩;refine go ?_;(have cd:i=n.J.length:=by simp at hc;omega);exact axT
structure aaq where
 kind:Int
 node:Int
 ox:Int
 first:Int
 qn:Int
def gI(x:aaq):D:=.agg [u x.kind,u x.node,u x.ox,u x.first,u x.qn]
structure k9 where
 dG:List aaq
 count:Int
def eZ(s:k9)(kind node ox aar:Int):k9:=⟨s.dG++[⟨kind,node,ox,s.count,k2 aar⟩],s.count+(1+k2 aar)⟩
def pL(cq:Nat)(dy dP:Value)(s:k9):List (Nat×aI):=[(210,.box cq [.al dy,.Q (.own 211 dP) 5 (s.dG.map gI),u s.count]),(211,.own dP s.dG.length 5 358)]
theorem Q7{n:Int}(h0:0<=n)(h1:n<1000000000000):0<=k2 n/\k2 n<1000000000:=by unfold k2;split;omega;unfold j9;rw[atp asZ];omega
theorem Q8(cq:Nat)(dy dP:Value)(s:k9)(kind node ox c:Int)(h0:0<=c)(h1:c<1000000000000)(aj:s.dG.length<100000000)(ic:0<=s.count)(fc:s.count<1000000000000000000):cZ B 211 [.box 210 cq 0,u kind,u node,u ox,u c] (aK (pL cq dy dP s)) λd aO=>d=.bo []/\∃aoC,aO=aK (pL cq dy aoC (eZ s kind node ox c)):=by refine jO Tryz.func211 Tryz.ntmps211 λU=>?_;have mf:=Q7 h0 h1;refine go ?_;have XH:=Vc (B:=B) c h0 h1;refine' eJ (α:=Nat) [(210,.box cq [.al dy,.Q (.own 211 dP) 5 (s.dG.map gI),u s.count]),(211,.own dP s.dG.length 5 358)] 0 (λmy=>[_,_,_,_,_,_,_,_,u (k2 c),_,.box 10 my 0,.any]) (λmy=>[(10,10,some (.box my [u 0,u 0,u 0,u 0,u 0])),(11,10,some (.box my [u kind,u node,u ox,u s.count,u (k2 c)]))]) [0,0,0,0,8,24,56,0,128,511,0,2047] [(10,10),(11,10)] ?_ ?_;rotate_left 9;refine dw ?_;refine wL ?_;exact trivial;intro my;(conv=>whnf);refine X.fb [(0,.box 210 cq 0),(1,u kind),(2,u node),(3,u ox),(4,u c),(10,.box 10 my 0)] [(210,.box cq [.al dy,.Q (.own 211 dP) 5 (s.dG.map gI),u s.count]),(211,.own dP s.dG.length 5 358),(10,.box my [u kind,u node,u ox,u s.count,u (k2 c)])] [(210,210),(211,211),(10,10)] ⟨cP,rfl,cP⟩ ?_;refine go ?_;refine' eJ (α:=Value) [(210,.box cq ([.al dy,.Q (.own 211 dP) 5 (s.dG.map gI),u s.count])),(10,.box my [u kind,u node,u ox,u s.count,u (k2 c)]),(211,.own dP s.dG.length 5 358)] Value.nilFunc (λy=>[_,_,_,_,_,_,_,.Q (.own 28 y) 5 (s.dG.map gI++[D.agg [u kind,u node,u ox,u s.count,u (k2 c)]]),_,_,.any]) (λy=>[(7,211,none),(7,28,some (.own y (((s.dG.map gI).length+([.agg [u kind,u node,u ox,u s.count,u (k2 c)]]:List D).length)) 5 358)),(10,210,some (.box cq ([.al dy,.Q (.own 28 y) 5 (s.dG.map gI++[D.agg [u kind,u node,u ox,u s.count,u (k2 c)]]),u s.count])))]) [0,0,2,6,14,0,32,126,255,511,1023] [(7,211),(7,28),(10,210)] ?_ ?_;rotate_left 9;refine dw ?_;refine yg (λy=>?_) ?_;(conv=>whnf);refine⟨rfl,by simp,?_⟩;(conv=>whnf);refine⟨by show(_+1)*40<=_;simp;omega,by show _+1<=_;simp;omega,as6,λGV=>?_⟩;exact dT GV;refine Go.bS.cj.vs ?_;exact trivial;intro y;(conv=>whnf);refine X.fb [(0,.box 210 cq 0),(10,.box 10 my 0)] [(210,.box cq [.al dy,.Q (.own 28 y) 5 (s.dG.map gI++[D.agg [u kind,u node,u ox,u s.count,u (k2 c)]]),u s.count]),(10,.box my [u kind,u node,u ox,u s.count,u (k2 c)]),(28,.own y (((s.dG.map gI).length+([.agg [u kind,u node,u ox,u s.count,u (k2 c)]]:List D).length)) 5 358)] [(210,210),(10,10),(28,28)] ⟨cP,rfl,cP⟩ ?_;(conv=>whnf);(conv=>whnf);refine X.jp 210 (du:=[.al dy,.Q (.own 211 y) 5 ((eZ s kind node ox c).dG.map gI),u s.count]) rfl ⟨E,aq.j6 (by simp[eZ,gI]),E,ai⟩ ?_;refine X.SV ?_;refine X.Br aM 7 mixed as4 ?_;refine go ?_;exact⟨[],pL cq dy y (eZ s kind node ox c),[(210,210),(211,28)],⟨ai,rfl,rfl,rfl,rfl,ky (by simp[eZ]),ai⟩,.bo [],ai,rfl,y,rfl⟩
mutual
def hU:aa->List aa
 |.mk a b c d e f g h i j ag cC=>.mk a b c d e f g h i j ag cC::gv ag
def gv:List aa->List aa
 |[]=>[]
 |n::r=>hU n++gv r
end
theorem aoD(n:aa):hU n=n::gv n.J:=by cases n;simp only[hU]
theorem aas:∀a b:List aa,gv (a++b)=gv a++gv b
 |[],b=>rfl
 |n::r,b=>by simp only[auh,gv,aas r b,atL]
theorem aoE{l:List aa}(h:i<l.length):gv (l.take (i+1))=gv (l.take i)++hU l[i]:=by rw[atc h,aas];simp only[gv,aua]
mutual
theorem aat:∀n:aa,(hU n).length<=aB n
 |.mk a b c d e f g h i j ag cC=>by
  have:=KL ag;simp only[hU,ath,aB];omega
theorem KL:∀l:List aa,(gv l).length<=eI l
 |[]=>by simp[gv]
 |n::r=>by
  have h1:=aat n;have A:=KL r;simp only[gv,atf,eI];omega
end
def mL(n:aa)(K:D):D:=.agg [.O n.name,u n.kind,.O n.d7,.O n.target,u n.cx,u n.n2,u n.n3,u n.n4,u n.n5,u n.n6,.Q .none 12 (n.J.map enc),.Q .none 2 (n.bN.map c6),.any,.any,K,.any]
def cK(n:aa):D:=mL n .any
variable{xs a':List D}
theorem Q9{a b:D}(h:dK a.cells b.cells):dK (b1 (xs++a::a')) (b1 (xs++b::a')):=by
 have e:∀V:D,b1 (xs++V::a')=b1 xs++(V.cells++b1 a'):=λV=>by simp[b1]
 rw[e,e];exact dK.kY (dK.refl _) (dK.kY h (dK.refl _))
theorem KM{b:D}(h1:∀x∈xs,x.cells.length=k)(A:b.cells.length=k)(Z:∀x∈a',x.cells.length=k):∀x∈xs++b::a',x.cells.length=k:=λx I=>by
 rcases atB.1 I with h|h
 ·exact h1 x h
 rcases atu.1 h with rfl|h
 ·exact A
 exact Z x h
theorem aoF{a b:D}(xs r:List D):(xs++a::r).set xs.length b=xs++b::r:=by simp
theorem GW(l:List aa):∀x∈l.map cK,x.cells.length=16:=λx I=>by
 obtain⟨n,_,rfl⟩:=aty.1 I;rfl
def Q_(cq:Nat)(dy:Value)(xs:List D):List (Nat×aI):=[(210,.box cq [.al dy,.bj,u 0]),(203,.row dy xs 16 296)]
theorem aoG{n:aa}(h:i<n.J.length):eI (n.J.take i)+aB n.J[i]+1<=aB n/\aB n.J[i]<aB n:=by(have h1:∀{l:List aa} {i:Nat} (h:i<l.length),eI (l.take i)+aB l[i]<=eI l:=by intro l;induction l with|nil=>intro i h;simp at h|cons k r aY =>intro i h;(cases i with|zero=>simp only[avu,eI,avk];omega|succ i =>have:=aY (i:=i) (by simpa using h);simp only[auP,eI,auA];omega));have A:=h1 h;(have Z:eI n.J+1<=aB n:=by cases n;simp only[aB];omega);omega
theorem aoH(cq:Nat):∀(bC:Nat) (n:aa) (path:as8) (cA:Int) (xs:List D) (dy:Value),aB n<bC->path.length+aB n<1000000000->xs.length+aB n<10000000->(∀x∈xs,x.cells.length=16)->   cZ B 209 [.box 210 cq 0,aE n,.O path,u cA] (aK (Q_ cq dy xs)) λd aO=>d=u (xs.length:Nat)/\∃bQ rx fa,aO=aK (Q_ cq (.slice bQ rx fa) (xs++(hU n).map cK)):=by refine λbC=>Nat.rec (λn path cA xs dy h=>absurd h (auI _)) (λbC aY n path cA xs dy hN aw I KN=>?_) bC;refine jO Tryz.func209 Tryz.ntmps209 λU=>?_;refine X.BY 203 rfl (λa cap W _ _=>?_);subst W;refine ck ?_;intro cJ;refine vd ?_;apply mi;apply cB;apply ep;refine' eJ (α:=(Option Addr×Nat×Nat)) [(210,.box cq ([.al (.slice a xs.length cap),.bj,u 0])),(5,.box cJ (aE n).cells),(203,.row (.slice a xs.length cap) xs 16 296)] (none,0,0) (λsx=>[_,_,_,_,_,_,_,_,_,_,.al (.slice sx.1 sx.2.1 sx.2.2),_,_,.any]) (λsx=>[(10,203,none),(10,29,some (.row (.slice sx.1 sx.2.1 sx.2.2) (xs++[D.agg [.O n.name,u n.kind,.O n.d7,.O n.target,u n.cx,u n.n2,u n.n3,u n.n4,u n.n5,u n.n6,.Q .none 12 (n.J.map enc),.Q .none 2 (n.bN.map c6),.O path,u cA,.bj,u 0]]) 16 296)),(13,210,some (.box cq ([.al (.slice sx.1 sx.2.1 sx.2.2),.bj,u 0])))]) [0,0,2,6,14,0,0,0,224,480,1022,2047,4095,8191] [(10,203),(10,29),(13,210)] ?_ ?_;rotate_left 12;refine dw ?_;refine bJ (λsx=>af.oJ aM 203 rfl rfl rfl as6 rfl rfl rfl as1 (by show(_+1)*208<=_;omega) (by show _+1<=_;omega) (λbQ rx fa=>dT (bQ,rx,fa))) ?_;refine Go.bS.cj.vs ?_;exact trivial;intro sx;obtain⟨bQ,rx,fa⟩:=sx;(conv=>whnf);refine X.fb [(0,.box 210 cq 0),(2,.O path),(5,.box 5 cJ 0),(9,u (xs.length:Nat))] [(210,.box cq [.al (.slice bQ rx fa),.bj,u 0]),(5,.box cJ (aE n).cells),(29,.row (.slice bQ rx fa) (xs++[D.agg [.O n.name,u n.kind,.O n.d7,.O n.target,u n.cx,u n.n2,u n.n3,u n.n4,u n.n5,u n.n6,.Q .none 12 (n.J.map enc),.Q .none 2 (n.bN.map c6),.O path,u cA,.bj,u 0]]) 16 296)] [(210,210),(5,5),(29,29)] ⟨cP,rfl,cP⟩ ?_;refine go ?_;have kn:=GW;refine X.tQ 205 1 3 ?_;refine X.vi 29 (xs:=xs++[D.agg [.O n.name,u n.kind,.O n.d7,.O n.target,u n.cx,u n.n2,u n.n3,u n.n4,u n.n5,u n.n6,.Q .none 12 (n.J.map enc),.Q .none 2 (n.bN.map c6),.O path,u cA,.bj,u 0]]) (a':=xs++[mL n (.Q (.own 205 (.slice none 0 0)) 1 [])]) rfl as1 (KM KN rfl (λx I=>by cases I)) (Q9 ⟨E,E,E,E,E,E,E,E,E,E,E,E,.any _,.any _,aq.vc,.any _,ai⟩) ?_;refine go ?_;refine X.ec (α:={p:Nat×List D // p.1<=n.J.length/\p.2.length<=p.1}×Value×Value) (λx=>[(0,.box 210 cq 0),(2,.O path),(9,u (xs.length:Nat)),(33,.Q .none 12 (n.J.map enc)),(34,u ((n.J.map enc).length:Nat)),(35,u (x.1.1.1:Nat))]) (λx=>[(210,.box cq [.al x.2.1,.bj,u 0]),(203,.row x.2.1 (xs++mL n (.Q (.own 205 x.2.2) 1 x.1.1.2)::(gv (n.J.take x.1.1.1)).map cK) 16 296),(205,.own x.2.2 x.1.1.2.length 1 3)]) (λx=>n.J.length-x.1.1.1) (⟨(0,[]),by simp,by simp⟩,.slice bQ rx fa,.slice none 0 0) [(210,210),(203,29),(205,205)] ⟨ar,rfl,bb⟩ ?_;rintro⟨⟨⟨i,ag⟩,hi,b5⟩,Ra,dT⟩;dsimp only at hi b5⊢;refine go ?_;refine aJ (decide ((i:Int)<((n.J.map enc).length:Nat))) rfl ?_ ?_<;>intro hc;(·apply cr;(have aH:i<n.J.length:=by simpa using hc);(have h4:(n.J.map enc)[i]?=some (aE n.J[i]):=by simp[aH,rQ]);have aoe:=EB aH;have aoI:=lU n;have aof:=aoG aH;have dj:=KL (n.J.take i);have ass:=z1 n.J;have cX:=aoE aH;have aoJ:∀x∈xs++mL n (.Q (.own 205 dT) 1 ag)::(gv (n.J.take i)).map cK,x.cells.length=16:=KM KN rfl (GW _);(have am9:(xs++mL n (.Q (.own 205 dT) 1 ag)::(gv (n.J.take i)).map cK).length=xs.length+1+(gv (n.J.take i)).length:=by simp;omega);refine gK ?_;refine⟨λ_=>by rw[atb];omega,?_⟩;(conv=>whnf);refine⟨aE n.J[i],λ_=>h4,?_⟩;refine go ?_;intro CA;apply cB;refine lc ?_;generalize sU:n.J[i]=hJ at*;refine X.lL (α:={b:as8 // b.length<=path.length+1+hJ.name.length}) (λx=>[(0,.box 210 cq 0),(2,.O path),(9,u (xs.length:Nat)),(11,.box 11 CA 0),(12,.O x.1),(33,.Q .none 12 (n.J.map enc)),(34,u ((n.J.map enc).length:Nat)),(35,u (i:Nat))]) (λx=>[(210,.box cq [.al Ra,.bj,u 0]),(203,.row Ra (xs++mL n (.Q (.own 205 dT) 1 ag)::(gv (n.J.take i)).map cK) 16 296),(205,.own dT ag.length 1 3),(11,.box CA (aE hJ).cells)]) ?_ ?_;refine go ?_;refine aJ (!(path==[])) rfl ?_ ?_<;>intro bs;refine m0 ?_;refine nX ?_;refine eB ?_;refine mZ ?_;exact⟨⟨(path++[47])++hJ.name,by simp;omega⟩,[(210,210),(203,203),(205,205),(11,11)],ar,rfl,bb⟩;refine go ?_;exact⟨⟨hJ.name,by omega⟩,[(210,210),(203,203),(205,205),(11,11)],ar,rfl,bb⟩;rintro⟨below,ast⟩;refine go ?_;refine .inr (af.call rfl [.box 210 cq 0,aE hJ,.O below,u (xs.length:Nat)] [(210,210),(203,203)] (c7.wT (by exact⟨rfl,bb⟩) (aY hJ below (xs.length:Nat) (xs++mL n (.Q (.own 205 dT) 1 ag)::(gv (n.J.take i)).map cK) Ra asZ asZ asZ aoJ)) rfl ar ?_);rintro d aO ⟨rfl,a2,n2,dC,rfl⟩;refine p6 ?_;(have jm:(xs++mL n (.Q (.own 205 dT) 1 ag)::(gv (n.J.take i)).map cK)++(hU hJ).map cK=xs++mL n (.Q (.own 205 dT) 1 ag)::(gv (n.J.take (i+1))).map cK:=by rw[cX];simp);have eR:=KL (n.J.take (i+1));refine X.fb [(0,.box 210 cq 0),(2,.O path),(9,u (xs.length:Nat)),(13,u ((xs++mL n (.Q (.own 205 dT) 1 ag)::(gv (n.J.take i)).map cK).length:Nat)),(33,.Q .none 12 (n.J.map enc)),(34,u ((n.J.map enc).length:Nat)),(35,u (i:Nat))] [(210,.box cq [.al (.slice a2 n2 dC),.bj,u 0]),(203,.row (.slice a2 n2 dC) (xs++mL n (.Q (.own 205 dT) 1 ag)::(gv (n.J.take (i+1))).map cK) 16 296),(205,.own dT ag.length 1 3)] [(210,210),(203,203),(205,205)] ⟨ar,rfl,rfl,rfl,rfl,as' (λV=>some (aI.row (.slice a2 n2 dC) V 16 296)) jm,rfl,bb⟩ ?_;have aoK:∀x∈(gv (n.J.take (i+1))).map cK,x.cells.length=16:=GW _;generalize aoL:(gv (n.J.take (i+1))).map cK=A5 at*;generalize(xs++mL n (.Q (.own 205 dT) 1 ag)::(gv (n.J.take i)).map cK).length=xM at*;(have bi:xs.length<(xs++mL n (.Q (.own 205 dT) 1 ag)::A5).length:=by simp);(have h2:(xs++mL n (.Q (.own 205 dT) 1 ag)::A5)[xs.length]?=some (mL n (.Q (.own 205 dT) 1 ag)):=by simp);refine' eJ (α:=Value) [(210,.box cq [.al (.slice a2 n2 dC),.bj,u 0]),(203,.row (.slice a2 n2 dC) (xs++mL n (.Q (.own 205 dT) 1 ag)::A5) 16 296),(205,.own dT ag.length 1 3)] Value.nilFunc (λk_=>[_,_,_,_,_,_,_,_,_,_,.al (g7 (.slice a2 n2 dC) (((xs.length:Nat):Int).toNat*16)),.al (g7 (.slice a2 n2 dC) (((xs.length:Nat):Int).toNat*16+14)),.Q (.own 205 dT) 1 ag,_,_,.Q (.own 68 k_) 1 (ag++[u (xM:Nat)]),.al (g7 (.slice a2 n2 dC) (((xs.length:Nat):Int).toNat*16)),.al (g7 (.slice a2 n2 dC) (((xs.length:Nat):Int).toNat*16+14)),.any]) (λk_=>[(15,205,none),(15,68,some (.own k_ (ag.length+[u (xM:Nat)].length) 1 3)),(18,203,some (.row (.slice a2 n2 dC) ((xs++mL n (.Q (.own 205 dT) 1 ag)::A5).set xs.length (D.agg [.O n.name,u n.kind,.O n.d7,.O n.target,u n.cx,u n.n2,u n.n3,u n.n4,u n.n5,u n.n6,.Q .none 12 (n.J.map enc),.Q .none 2 (n.bN.map c6),.any,.any,.Q (.own 68 k_) 1 (ag++[u (xM:Nat)]),.any])) 16 296))]) [0,1,3,7,0,0,32,96,224,0,992,2016,4064,0,8192,32736,65535,131071,262143] [(15,205),(15,68),(18,203)] ?_ ?_;rotate_left 12;refine dw ?_;refine bJ (λk_=>af.ej aM 203 rfl rfl rfl rfl rfl rfl rfl asZ (avz.2 bi) (cl k_)) ?_;refine bJ (λk_=>af.jr aM 203 (i:=xs.length) rfl rfl bi rfl rfl rfl as2 (cl k_)) ?_;refine bJ (λk_=>af.n1 aM 203 (i:=xs.length) (j:=14) as5 rfl rfl h2 (cl k_)) ?_;refine bJ (λk_=>af.ST aM 205 205 rfl rfl rfl as6 rfl rfl rfl (by show(_+1)*8<=_;omega) (by show _+1<=_;omega) (λGV=>Go.bS.cj.dT GV)) ?_;refine bJ (λk_=>af.ej aM 203 rfl rfl rfl rfl rfl rfl rfl asZ (avz.2 bi) (cl k_)) ?_;refine bJ (λk_=>af.jr aM 203 (i:=xs.length) rfl rfl bi rfl rfl rfl as2 (cl k_)) ?_;refine bJ (λk_=>af.vh aM 203 (i:=xs.length) (j:=14) as5 rfl rfl rfl h2 as2 rfl (cl k_)) ?_;exact trivial;intro k_;(conv=>whnf);refine X.fb [(0,.box 210 cq 0),(2,.O path),(9,u (xs.length:Nat)),(33,.Q .none 12 (n.J.map enc)),(34,u ((n.J.map enc).length:Nat)),(35,u (i:Nat))] [(210,.box cq [.al (.slice a2 n2 dC),.bj,u 0]),(203,.row (.slice a2 n2 dC) ((xs++mL n (.Q (.own 205 dT) 1 ag)::A5).set xs.length (D.agg [.O n.name,u n.kind,.O n.d7,.O n.target,u n.cx,u n.n2,u n.n3,u n.n4,u n.n5,u n.n6,.Q .none 12 (n.J.map enc),.Q .none 2 (n.bN.map c6),.any,.any,.Q (.own 68 k_) 1 (ag++[u (xM:Nat)]),.any])) 16 296),(68,.own k_ (ag.length+[u (xM:Nat)].length) 1 3)] [(210,210),(203,203),(68,68)] ⟨cP,rfl,cP⟩ ?_;(conv=>whnf);refine X.vi 203 (xs:=(xs++mL n (.Q (.own 205 dT) 1 ag)::A5).set xs.length (D.agg [.O n.name,u n.kind,.O n.d7,.O n.target,u n.cx,u n.n2,u n.n3,u n.n4,u n.n5,u n.n6,.Q .none 12 (n.J.map enc),.Q .none 2 (n.bN.map c6),.any,.any,.Q (.own 68 k_) 1 (ag++[u (xM:Nat)]),.any])) (a':=xs++mL n (.Q (.own 205 k_) 1 (ag++[u (xM:Nat)]))::A5) rfl as1 (KM KN rfl aoK) (by rw[aoF];exact Q9 ⟨E,E,E,E,E,E,E,E,E,E,E,E,.any _,.any _,aq.own _ _,.any _,ai⟩) ?_;refine go ?_;exact⟨(⟨(i+1,ag++[u (xM:Nat)]),aH,by simp;omega⟩,.slice a2 n2 dC,k_),[(210,210),(203,203),(205,68)],axN,ar,rfl,rfl,rfl,rfl,as' (λV=>some (aI.row (.slice a2 n2 dC) (xs++mL n (.Q (.own 205 k_) 1 (ag++[u (xM:Nat)]))::V) 16 296)) aoL.symm,rfl,ky as1,ai⟩);(have cd:i=n.J.length:=by simp at hc;omega);subst cd;rw[ati];refine wM ?_;(have lP:(hU n).map cK=cK n::(gv n.J).map cK:=by rw[aoD];rfl);refine X.vi 203 (a':=xs++cK n::(gv n.J).map cK) rfl as1 (KM KN rfl (GW _)) (Q9 ⟨E,E,E,E,E,E,E,E,E,E,E,E,.any _,.any _,.any _,.any _,ai⟩) ?_;refine X.BY 203 rfl (λa3 l1 Ac _ _=>?_);subst Ac;refine ck ?_;refine X.gS [(8,u (xs.length:Nat))] (Q_ cq (.slice a3 _ l1) (xs++cK n::(gv n.J).map cK)) [(210,210),(203,203)] ⟨ar,rfl,bb⟩ ?_;refine go ?_;exact⟨_,E,rfl,a3,_,l1,by rw[lP];rfl⟩
variable{S:Type}
def uV{bw:Type}(f:S->Int->bw->S)(s:S)(l:List bw):S:=(l.foldl (λ(q:S×Int) a=>(f q.1 q.2 a,q.2+1)) (s,0)).1
theorem aau{S bw:Type}(f:S->Int->bw->S)(s:S):∀(l:List bw) (k:Int),(l.foldl (λ(q:S×Int) a=>(f q.1 q.2 a,q.2+1)) (s,k)).2=k+(l.length:Nat)
 |[],k=>by simp
 |a::r,k=>by rw[auF,aau f _ r,ath];omega
theorem Dk{bw:Type}(f:S->Int->bw->S)(s:S){l:List bw}(h:i<l.length):uV f s (l.take (i+1))=f (uV f s (l.take i)) (i:Nat) l[i]:=by have A:=aau f s (l.take i) 0;rw[atv,avQ asZ,Int.zero_add]at A;rw[uV,uV,atc h,auf];simp only[auF,List.foldl_nil,A]
def hV(m:aa):Int:=if m.kind=1 then 0 else zf m
def ry(i:Int)(s:k9)(l:List nu):k9:=uV (λs k x=>eZ s 2 i k (x.target.length:Nat)) s l
def wo(s:k9)(i:Int)(m:aa):k9:=if 0<m.bN.length then ry i (eZ (eZ s 0 i 0 (hV m)) 1 i 0 0) m.bN else eZ s 0 i 0 (hV m)
def oy(l:List aa):k9:=uV wo ⟨[],0⟩ l
structure zg (s:k9) (n:Nat):Prop where
 len:s.dG.length<=n
 h6:0<=s.count
 ev:s.count<=(s.dG.length:Nat)*1000000001
theorem zg.put{s:k9}{n:Nat}(h:zg s n){a b c d:Int}(h0:0<=d)(h1:d<1000000000000):zg (eZ s a b c d) (n+1):=by have:=Q7 h0 h1;obtain⟨g1,fx,g3⟩:=h;refine⟨?_,?_,?_⟩;simp only[eZ,atf,ath,atD];omega;simp only[eZ];omega;simp only[eZ,atf,ath,atD];omega
def qF:List aa->Nat
 |[]=>0
 |n::r=>2+n.bN.length+qF r
theorem GX:∀a b:List aa,qF (a++b)=qF a+qF b
 |[],b=>by simp[qF]
 |n::r,b=>by simp only[auh,qF,GX r b];omega
mutual
theorem KO:∀n:aa,qF (hU n)<=aB n
 |.mk a b c d e f g h i j ag cC=>by
  have h1:=aav ag;have A:=EC cC;simp only[hU,qF,aB];omega
theorem aav:∀l:List aa,qF (gv l)<=eI l
 |[]=>by simp[gv,qF]
 |n::r=>by
  have h1:=KO n;have A:=aav r;simp only[gv,GX,eI];omega
end
mutual
theorem KP:∀n:aa,∀m∈hU n,aB m<=aB n
 |.mk a b c d e f g h i j ag cC,m,hm=>by
  simp only[hU,atu]at hm;rcases hm with rfl|hm
  ·exact atg _
  have:=aaw ag m hm;simp only[aB];omega
theorem aaw:∀l:List aa,∀m∈gv l,aB m<=eI l
 |[],m,hm=>by simp[gv]at hm
 |n::r,m,hm=>by
  simp only[gv,atB]at hm;rcases hm with hm|hm
  ·have:=KP n m hm;simp only[eI];omega
  have:=aaw r m hm;simp only[eI];omega
end
theorem Rb{s:k9}{n:Nat}(h:zg s n)(i:Int){l:List nu}(aj:∀x∈l,(x.target.length:Int)<1000000000000):∀k,k<=l.length->zg (ry i s (l.take k)) (n+k)
 |0,_=>h
 |k+1,Y=>by rw[ry,Dk _ _ (show k<l.length by omega)];exact(Rb h i aj k asZ).put asZ (aj _ (ate _))
theorem aax(m:aa)(hm:aB m<1000000):0<=hV m/\hV m<1000000000000:=by have h1:=lU m;have A:=z1 m.J;have:=aoA m asZ asZ;unfold hV;split<;>omega
theorem Rc{m:aa}(hm:aB m<1000000):∀x∈m.bN,(x.target.length:Int)<1000000000000:=λx I=>by
 obtain⟨k,Y,rfl⟩:=atP.1 I;have h1:=H5 Y;have A:=lU m;omega
theorem aoM{s:k9}{n:Nat}(h:zg s n)(i:Int){m:aa}(hm:aB m<1000000):zg (wo s i m) (n+2+m.bN.length):=by have hc:=aax m hm;have h1:=h.put (a:=0) (b:=i) (c:=0) hc.1 hc.2;have A:=h1.put (a:=1) (b:=i) (c:=0) (d:=0) as2 as2;unfold wo;split;have:=Rb A i (Rc hm) m.bN.length (atg _);rw[ati]at this;exact this;exact⟨by have:=h1.len;omega,h1.h6,h1.ev⟩
theorem KQ{l:List aa}(aj:∀m∈l,aB m<1000000):∀k,k<=l.length->zg (oy (l.take k)) (qF (l.take k))
 |0,_=>⟨atg _,at5 _,by show(0:Int)<=_;simp[oy,uV]⟩
 |k+1,Y=>by(have fD:k<l.length:=by omega);rw[oy,Dk _ _ fD,atc fD,GX];have:=aoM (KQ aj k asZ) (k:Nat) (aj _ (ate fD));exact⟨auC this.len (by simp only[qF];omega),this.h6,this.ev⟩
def aay(cq:Nat)(dy dP:Value)(s:k9)(xs:List D):List (Nat×aI):=[(210,.box cq [.al dy,.Q (.own 211 dP) 5 (s.dG.map gI),u s.count]),(211,.own dP s.dG.length 5 358),(203,.row dy xs 16 296)]
theorem aoN(aW:dc B)(n cj:aa)(Dl:aU B 208 [u 3,aE n] (.bo [aE cj,u 0]))(sw:aB cj<1000000):cZ B 140 [aE n] bF.none λd aO=>∃cq dy dP,d=.box 210 cq 0/\aO=aK (pL cq dy dP (oy (hU cj))):=by refine jO Tryz.func140 Tryz.ntmps140 λU=>?_;refine ck ?_;intro dB;refine nt ?_;apply cB;refine jq ?_;refine⟨[u 3,aE n],_,λ_=>Dl,ar,?_⟩;apply d_;apply d_;apply d_;refine jq ?_;intro eG;apply d_;apply cB;refine jq ?_;refine X.fb [(3,.box 3 eG 0)] [(3,.box eG (aE cj).cells)] [(3,3)] (by exact⟨ar,rfl,bb⟩) ?_;refine nt ?_;refine jq ?_;intro em;refine jq ?_;refine X.fb [(3,.box 3 eG 0),(5,.box 17 em 0)] [(3,.box eG (aE cj).cells),(17,.box em [.bj,.bj,u 0])] [(3,3),(17,17)] (by exact⟨ar,rfl,bb⟩) ?_;(conv=>whnf);refine X.p2 203 16 296 ?_;refine X.jp 17 (du:=[.al (.slice none 0 0),.bj,u 0]) rfl ⟨aq.qR,E,E,ai⟩ ?_;refine nt ?_;apply d_;apply cB;apply tT;refine af.call rfl [.box 210 em 0,aE cj,.O [],u 0] [(210,17),(203,203)] (c7.wT (by exact⟨rfl,bb⟩) (aoH em (aB cj+1) cj [] 0 [] (.slice none 0 0) asZ as0 as0 (λx I=>by cases I))) rfl ⟨aq.box,E,E,E,ai⟩ ?_;rintro d aO ⟨rfl,bQ,rx,fa,rfl⟩;refine rO ?_;refine X.fb [(5,.box 17 em 0)] [(17,.box em [.al (.slice bQ rx fa),.bj,u 0]),(203,.row (.slice bQ rx fa) ((hU cj).map cK) 16 296)] [(17,17),(203,203)] (by exact⟨ar,rfl,bb⟩) ?_;(conv=>whnf);refine X.fb [(5,.box 210 em 0)] [(210,.box em [.al (.slice bQ rx fa),.bj,u 0]),(203,.row (.slice bQ rx fa) ((hU cj).map cK) 16 296)] [(210,17),(203,203)] (by exact⟨⟨aq.box,ai⟩,rfl,bb⟩) ?_;refine X.tQ 211 5 358 ?_;refine X.jp 210 (du:=[.al (.slice bQ rx fa),.Q (.own 211 (.slice none 0 0)) 5 [],u 0]) rfl ⟨E,aq.vc,E,ai⟩ ?_;have GY:∀m∈hU cj,aB m<1000000:=λm hm=>Nat.lt_of_le_of_lt (KP cj m hm) sw;have asu:=KO cj;have Gj:=aat cj;have aoO:∀x∈(hU cj).map cK,x.cells.length=16:=GW _;generalize hU cj=P at*;refine X.BY 203 rfl (λa4 oi aoP _ _=>?_);(obtain⟨rfl,rfl,rfl⟩:bQ=a4/\rx=(P.map cK).length/\fa=oi:=by simpa using aoP);apply nW;refine tV ?_;apply d_;apply d_;apply d_;apply cB;apply d_;refine jq ?_;refine X.fb [(5,.box 210 em 0),(25,u ((P.map cK).length:Nat)),(26,u 0)] [(210,.box em [.al (.slice bQ (P.map cK).length fa),.Q (.own 211 (.slice none 0 0)) 5 [],u 0]),(211,.own (.slice none 0 0) 0 5 358),(203,.row (.slice bQ (P.map cK).length fa) (P.map cK) 16 296)] [(210,210),(211,211),(203,203)] (by exact⟨ar,rfl,bb⟩) ?_;apply oK;refine X.ec (α:={i:Nat // i<=P.length}×Value) (λx=>[(5,.box 210 em 0),(25,u ((P.map cK).length:Nat)),(26,u (x.1.1:Nat))]) (λx=>aay em (.slice bQ (P.map cK).length fa) x.2 (oy (P.take x.1.1)) (P.map cK)) (λx=>P.length-x.1.1) (⟨0,by omega⟩,.slice none 0 0) [(210,210),(211,211),(203,203)] ⟨ar,rfl,bb⟩ ?_;rintro⟨⟨i,hi⟩,dP⟩;dsimp only at hi⊢;apply b2;apply ep;refine aJ (decide ((i:Int)<((P.map cK).length:Nat))) rfl ?_ ?_<;>intro hc;(·apply cr;(have aH:i<P.length:=by simpa using hc);have ib:=KQ GY i asZ;have cX:oy (P.take (i+1))=wo (oy (P.take i)) (i:Nat) P[i]:=Dk _ _ aH;have g':=GY _ (ate aH);(have kn:qF (P.take i)+2+P[i].bN.length<=qF P:=by have h1:=GX (P.take (i+1)) (P.drop (i+1));rw[auz,atc aH,GX]at h1;simp only[qF]at h1;omega);(have h2:(P.map cK)[i]?=some (cK P[i]):=by simp[aH]);(have bi:i<(P.map cK).length:=by simpa using aH);have hsz:=lU P[i];have eR:=z1 P[i].J;have iX:=EC P[i].bN;(have f_:∀k∈P[i].J,k.name.length<1000000000:=λk Y=>by obtain⟨j,ad,rfl⟩:=atP.1 Y;have:=EB ad;omega);have t':=ib.len;have J5:=ib.h6;have jD:=ib.ev;generalize gV:oy (P.take i)=s at*;generalize fY:P[i]=m at*;refine kx ?_;refine nt ?_;refine jq ?_;refine X.fb [(5,.box 210 em 0),(6,u (i:Nat)),(25,u ((P.map cK).length:Nat)),(26,u (i:Nat))] [(210,.box em [.al (.slice bQ (P.map cK).length fa),.Q (.own 211 dP) 5 (s.dG.map gI),u s.count]),(211,.own dP s.dG.length 5 358),(203,.row (.slice bQ (P.map cK).length fa) (P.map cK) 16 296)] [(210,210),(211,211),(203,203)] (by exact⟨ar,rfl,bb⟩) ?_;refine nt ?_;apply d_;apply d_;apply d_;apply cB;apply d_;apply tT;refine af.ej aM 203 rfl rfl rfl rfl rfl rfl rfl asZ (avz.2 bi) ?_;apply tT;refine af.jr aM 203 (i:=i) rfl rfl bi rfl rfl rfl as2 ?_;apply tT;refine af.n1 aM 203 (i:=i) (j:=0) as5 rfl rfl h2 ?_;refine jq ?_;intro dI;apply d_;refine eB ?_;refine X.fb [(5,.box 210 em 0),(6,u (i:Nat)),(7,.box 7 dI 0),(25,u ((P.map cK).length:Nat)),(26,u (i:Nat))] [(210,.box em [.al (.slice bQ (P.map cK).length fa),.Q (.own 211 dP) 5 (s.dG.map gI),u s.count]),(211,.own dP s.dG.length 5 358),(203,.row (.slice bQ (P.map cK).length fa) (P.map cK) 16 296),(7,.box dI (aE m).cells)] [(210,210),(211,211),(203,203),(7,7)] (by exact⟨ar,rfl,bb⟩) ?_;apply ep;refine' eJ (α:=Unit) [(210,.box em [.al (.slice bQ (P.map cK).length fa),.Q (.own 211 dP) 5 (s.dG.map gI),u s.count]),(211,.own dP s.dG.length 5 358),(7,.box dI (aE m).cells),(203,.row (.slice bQ (P.map cK).length fa) (P.map cK) 16 296)] () (λ_=>[_,_,_,_,_,_,_,_,_,_,.al (g7 (.slice bQ (P.map cK).length fa) (((i:Nat):Int).toNat*16)),.al (g7 (.slice bQ (P.map cK).length fa) (((i:Nat):Int).toNat*16+15)),.any]) (λ_=>[(12,203,some (.row (.slice bQ (P.map cK).length fa) ((P.map cK).set i (D.agg [.O m.name,u m.kind,.O m.d7,.O m.target,u m.cx,u m.n2,u m.n3,u m.n4,u m.n5,u m.n6,.Q .none 12 (m.J.map enc),.Q .none 2 (m.bN.map c6),.any,.any,.any,u ((s.dG.map gI).length:Nat)])) 16 296))]) [0,1,3,7,0,0,32,96,224,480,1023,2047,4095] [(12,203)] ?_ ?_;rotate_left 10;refine dw ?_;refine bJ (λ_=>af.ej aM 203 rfl rfl rfl rfl rfl rfl rfl asZ (avz.2 bi) (dT ())) ?_;refine bJ (λ_=>af.jr aM 203 (i:=i) rfl rfl bi rfl rfl rfl as2 (dT ())) ?_;refine bJ (λ_=>af.vh aM 203 (i:=i) (j:=15) as5 rfl rfl rfl h2 as2 rfl (dT ())) ?_;exact trivial;intro _;(conv=>whnf);refine X.fb [(5,.box 210 em 0),(6,u (i:Nat)),(7,.box 7 dI 0),(25,u ((P.map cK).length:Nat)),(26,u (i:Nat))] [(210,.box em [.al (.slice bQ (P.map cK).length fa),.Q (.own 211 dP) 5 (s.dG.map gI),u s.count]),(211,.own dP s.dG.length 5 358),(7,.box dI (aE m).cells),(203,.row (.slice bQ (P.map cK).length fa) ((P.map cK).set i (D.agg [.O m.name,u m.kind,.O m.d7,.O m.target,u m.cx,u m.n2,u m.n3,u m.n4,u m.n5,u m.n6,.Q .none 12 (m.J.map enc),.Q .none 2 (m.bN.map c6),.any,.any,.any,u ((s.dG.map gI).length:Nat)])) 16 296)] [(210,210),(211,211),(7,7),(203,203)] ⟨cP,rfl,cP⟩ ?_;(conv=>whnf);refine X.vi 203 (a':=P.map cK) rfl as1 aoO (by(have e:P.map cK=(P.map cK).set i (cK m):=by apply auu;intro j;by_cases h:i=j;subst h;rw[h2,avv bi];rw[awA h]);(conv=>rhs;rw[e]);exact dK.b1 as1 λj x y I hy=>by by_cases ad:i=j;subst ad;rw[avv bi]at I hy;cases I;cases hy;exact⟨E,E,E,E,E,E,E,E,E,E,E,E,.any _,.any _,.any _,.any _,ai⟩;rw[awA ad]at I hy;rw[I]at hy;cases hy;exact dK.refl _) ?_;refine nt ?_;(conv=>whnf);refine X.fb [(5,.box 210 em 0),(6,u (i:Nat)),(7,.box 7 dI 0),(8,u 0),(25,u ((P.map cK).length:Nat)),(26,u (i:Nat))] [(210,.box em [.al (.slice bQ (P.map cK).length fa),.Q (.own 211 dP) 5 (s.dG.map gI),u s.count]),(211,.own dP s.dG.length 5 358),(203,.row (.slice bQ (P.map cK).length fa) (P.map cK) 16 296),(7,.box dI (aE m).cells)] [(210,210),(211,211),(203,203),(7,7)] (by exact⟨ar,rfl,bb⟩) ?_;(conv=>whnf);refine X.lL (α:=Unit) (λx=>[(5,.box 210 em 0),(6,u (i:Nat)),(7,.box 7 dI 0),(25,u ((P.map cK).length:Nat)),(26,u (i:Nat)),(8,u (hV m))]) (λx=>[(210,.box em [.al (.slice bQ (P.map cK).length fa),.Q (.own 211 dP) 5 (s.dG.map gI),u s.count]),(211,.own dP s.dG.length 5 358),(203,.row (.slice bQ (P.map cK).length fa) (P.map cK) 16 296),(7,.box dI (aE m).cells)]) ?_ ?_;refine nt ?_;apply d_;apply cB;refine jq ?_;refine X.fb [(5,.box 210 em 0),(6,u (i:Nat)),(7,.box 7 dI 0),(8,u 0),(25,u ((P.map cK).length:Nat)),(26,u (i:Nat)),(51,.bool ((m.kind:Int)!=(1:Int)))] [(210,.box em [.al (.slice bQ (P.map cK).length fa),.Q (.own 211 dP) 5 (s.dG.map gI),u s.count]),(211,.own dP s.dG.length 5 358),(203,.row (.slice bQ (P.map cK).length fa) (P.map cK) 16 296),(7,.box dI (aE m).cells)] [(210,210),(211,211),(203,203),(7,7)] (by exact⟨ar,rfl,bb⟩) ?_;refine aJ (m.kind !=1) rfl ?_ ?_<;>intro bs;refine tV ?_;apply cB;refine jq ?_;refine⟨[aE m],_,λ_=>aoB aW m asZ asZ f_,ar,?_⟩;refine jq ?_;exact⟨(),[(210,210),(211,211),(203,203),(7,7)],⟨E,E,E,E,E,aq.of_eq (as' (D.int .i64) (by rw[hV,as9 (by simpa using bs)])),ai⟩,rfl,bb⟩;refine ff ?_;exact⟨(),[(210,210),(211,211),(203,203),(7,7)],⟨E,E,E,E,E,aq.of_eq (as' (D.int .i64) (by rw[hV,as_ (by simpa using bs)])),ai⟩,rfl,bb⟩;rintro⟨⟩;have Fr:=aax m g';have hd:=ib.put (a:=0) (b:=(i:Nat)) (c:=0) Fr.1 Fr.2;have ku:=hd.len;have nx:=hd.h6;have UG:=hd.ev;refine nt ?_;apply d_;apply d_;apply tT;refine af.call rfl [.box 210 em 0,u 0,u (i:Nat),u 0,u (hV m)] [(210,210),(211,211)] (c7.wT (by exact⟨rfl,bb⟩) (Q8 em (.slice bQ (P.map cK).length fa) dP s 0 (i:Nat) 0 (hV m) Fr.1 Fr.2 asZ asZ asZ)) rfl ar ?_;rintro d aO ⟨rfl,Dm,rfl⟩;refine rO ?_;refine X.fb [(5,.box 210 em 0),(6,u (i:Nat)),(7,.box 7 dI 0),(25,u ((P.map cK).length:Nat)),(26,u (i:Nat))] [(210,.box em [.al (.slice bQ (P.map cK).length fa),.Q (.own 211 Dm) 5 ((eZ s 0 (i:Nat) 0 (hV m)).dG.map gI),u (eZ s 0 (i:Nat) 0 (hV m)).count]),(211,.own Dm (eZ s 0 (i:Nat) 0 (hV m)).dG.length 5 358),(203,.row (.slice bQ (P.map cK).length fa) (P.map cK) 16 296),(7,.box dI (aE m).cells)] [(210,210),(211,211),(203,203),(7,7)] (by exact⟨ar,rfl,bb⟩) ?_;refine nt ?_;apply d_;apply cB;apply d_;refine jq ?_;refine X.fb [(5,.box 210 em 0),(6,u (i:Nat)),(7,.box 7 dI 0),(25,u ((P.map cK).length:Nat)),(26,u (i:Nat)),(61,.bool (decide ((0:Int)<(((m.bN.map c6).length:Nat):Int))))] [(210,.box em [.al (.slice bQ (P.map cK).length fa),.Q (.own 211 Dm) 5 ((eZ s 0 (i:Nat) 0 (hV m)).dG.map gI),u (eZ s 0 (i:Nat) 0 (hV m)).count]),(211,.own Dm (eZ s 0 (i:Nat) 0 (hV m)).dG.length 5 358),(203,.row (.slice bQ (P.map cK).length fa) (P.map cK) 16 296),(7,.box dI (aE m).cells)] [(210,210),(211,211),(203,203),(7,7)] (by exact⟨ar,rfl,bb⟩) ?_;refine aJ (decide ((0:Int)<((m.bN.map c6).length:Nat))) rfl ?_ ?_<;>intro dx;have mx:=hd.put (a:=1) (b:=(i:Nat)) (c:=0) (d:=0) as2 as2;have q8:=Rb mx (i:Nat) (Rc g');have mB:wo s (i:Nat) m=ry (i:Nat) (eZ (eZ s 0 (i:Nat) 0 (hV m)) 1 (i:Nat) 0 0) m.bN:=as_ (by simpa using dx);refine nt ?_;apply d_;apply tT;refine af.call rfl [.box 210 em 0,u 1,u (i:Nat),u 0,u 0] [(210,210),(211,211)] (c7.wT (by exact⟨rfl,bb⟩) (Q8 em (.slice bQ (P.map cK).length fa) Dm (eZ s 0 (i:Nat) 0 (hV m)) 1 (i:Nat) 0 0 as2 as2 asZ asZ asZ)) rfl ar ?_;rintro d aO ⟨rfl,GZ,rfl⟩;refine rO ?_;refine X.fb [(5,.box 210 em 0),(6,u (i:Nat)),(7,.box 7 dI 0),(25,u ((P.map cK).length:Nat)),(26,u (i:Nat))] [(210,.box em [.al (.slice bQ (P.map cK).length fa),.Q (.own 211 GZ) 5 ((eZ (eZ s 0 (i:Nat) 0 (hV m)) 1 (i:Nat) 0 0).dG.map gI),u (eZ (eZ s 0 (i:Nat) 0 (hV m)) 1 (i:Nat) 0 0).count]),(211,.own GZ (eZ (eZ s 0 (i:Nat) 0 (hV m)) 1 (i:Nat) 0 0).dG.length 5 358),(203,.row (.slice bQ (P.map cK).length fa) (P.map cK) 16 296),(7,.box dI (aE m).cells)] [(210,210),(211,211),(203,203),(7,7)] (by exact⟨ar,rfl,bb⟩) ?_;refine nt ?_;apply d_;apply cB;apply d_;refine jq ?_;refine X.fb [(5,.box 210 em 0),(6,u (i:Nat)),(25,u ((P.map cK).length:Nat)),(26,u (i:Nat)),(66,.Q .none 2 (m.bN.map c6)),(67,u ((m.bN.map c6).length:Nat)),(68,u 0)] [(210,.box em [.al (.slice bQ (P.map cK).length fa),.Q (.own 211 GZ) 5 ((eZ (eZ s 0 (i:Nat) 0 (hV m)) 1 (i:Nat) 0 0).dG.map gI),u (eZ (eZ s 0 (i:Nat) 0 (hV m)) 1 (i:Nat) 0 0).count]),(211,.own GZ (eZ (eZ s 0 (i:Nat) 0 (hV m)) 1 (i:Nat) 0 0).dG.length 5 358),(203,.row (.slice bQ (P.map cK).length fa) (P.map cK) 16 296),(7,.box dI (aE m).cells)] [(210,210),(211,211),(203,203),(7,7)] (by exact⟨ar,rfl,bb⟩) ?_;apply oK;refine X.ec (α:={k:Nat // k<=m.bN.length}×Value) (λx=>[(5,.box 210 em 0),(6,u (i:Nat)),(25,u ((P.map cK).length:Nat)),(26,u (i:Nat)),(66,.Q .none 2 (m.bN.map c6)),(67,u ((m.bN.map c6).length:Nat)),(68,u (x.1.1:Nat))]) (λx=>aay em (.slice bQ (P.map cK).length fa) x.2 (ry (i:Nat) (eZ (eZ s 0 (i:Nat) 0 (hV m)) 1 (i:Nat) 0 0) (m.bN.take x.1.1)) (P.map cK)) (λx=>m.bN.length-x.1.1) (⟨0,by omega⟩,GZ) [(210,210),(211,211),(203,203)] ⟨ar,rfl,bb⟩ ?_;rintro⟨⟨k,Y⟩,KR⟩;dsimp only at Y⊢;apply b2;apply ep;refine aJ (decide ((k:Int)<((m.bN.map c6).length:Nat))) rfl ?_ ?_<;>intro mw;apply cr;(have iy:k<m.bN.length:=by simpa using mw);have Rd:=q8 k Y;have pe:ry (i:Nat) (eZ (eZ s 0 (i:Nat) 0 (hV m)) 1 (i:Nat) 0 0) (m.bN.take (k+1))=_:=Dk _ _ iy;have Ax:=Rc g' _ (ate iy);(have ze:(m.bN.map c6)[k]?=some (c6 m.bN[k]):=by simp[iy]);have Wb:=Rd.len;have asv:=Rd.h6;have asw:=Rd.ev;generalize hT:ry (i:Nat) (eZ (eZ s 0 (i:Nat) 0 (hV m)) 1 (i:Nat) 0 0) (m.bN.take k)=t at*;change _=eZ (ry (i:Nat) (eZ (eZ s 0 (i:Nat) 0 (hV m)) 1 (i:Nat) 0 0) (m.bN.take k)) 2 (i:Nat) (k:Nat) (m.bN[k].target.length:Nat)at pe;rw[hT]at pe;generalize m.bN[k]=m8 at*;refine kx ?_;refine nt ?_;refine jq ?_;refine⟨λ_=>by rw[atb];omega,?_⟩;refine jq ?_;refine⟨c6 m8,λ_=>ze,?_⟩;refine jq ?_;intro jW;apply d_;apply d_;refine eB ?_;refine X.fb [(5,.box 210 em 0),(6,u (i:Nat)),(25,u ((P.map cK).length:Nat)),(26,u (i:Nat)),(66,.Q .none 2 (m.bN.map c6)),(67,u ((m.bN.map c6).length:Nat)),(68,u (k:Nat)),(9,u (k:Nat)),(10,.box 10 jW 0)] [(210,.box em [.al (.slice bQ (P.map cK).length fa),.Q (.own 211 KR) 5 (t.dG.map gI),u t.count]),(211,.own KR t.dG.length 5 358),(203,.row (.slice bQ (P.map cK).length fa) (P.map cK) 16 296),(10,.box jW (c6 m8).cells)] [(210,210),(211,211),(203,203),(10,10)] (by exact⟨ar,rfl,bb⟩) ?_;(conv=>whnf);refine tV ?_;apply d_;apply d_;apply d_;apply d_;apply cB;apply d_;apply tT;refine af.call rfl [.box 210 em 0,u 2,u (i:Nat),u (k:Nat),u (m8.target.length:Nat)] [(210,210),(211,211)] (c7.wT (by exact⟨rfl,bb⟩) (Q8 em (.slice bQ (P.map cK).length fa) KR t 2 (i:Nat) (k:Nat) (m8.target.length:Nat) asZ Ax asZ asZ asZ)) rfl ar ?_;rintro d aO ⟨rfl,Re,rfl⟩;refine rO ?_;refine X.fb [(5,.box 210 em 0),(6,u (i:Nat)),(25,u ((P.map cK).length:Nat)),(26,u (i:Nat)),(66,.Q .none 2 (m.bN.map c6)),(67,u ((m.bN.map c6).length:Nat)),(68,u (k:Nat))] [(210,.box em [.al (.slice bQ (P.map cK).length fa),.Q (.own 211 Re) 5 ((eZ t 2 (i:Nat) (k:Nat) (m8.target.length:Nat)).dG.map gI),u (eZ t 2 (i:Nat) (k:Nat) (m8.target.length:Nat)).count]),(211,.own Re (eZ t 2 (i:Nat) (k:Nat) (m8.target.length:Nat)).dG.length 5 358),(203,.row (.slice bQ (P.map cK).length fa) (P.map cK) 16 296),(10,.box jW (c6 m8).cells)] [(210,210),(211,211),(203,203),(10,10)] (by exact⟨ar,rfl,bb⟩) ?_;refine np ?_;exact⟨(⟨k+1,iy⟩,Re),[(210,210),(211,211),(203,203)],by show m.bN.length-(k+1)<m.bN.length-k;omega,ar,rfl,rfl,(by rw[pe];rfl),rfl,(by rw[pe];rfl),rfl,bb⟩;refine X.exit ?_;(have f_:k=m.bN.length:=by simp at mw;omega);subst f_;rw[ati];refine np ?_;exact⟨(⟨i+1,aH⟩,KR),[(210,210),(211,211),(203,203)],axX,ar,rfl,rfl,(by rw[cX,mB];rfl),rfl,(by rw[cX,mB];rfl),rfl,bb⟩;apply cr;have mB:wo s (i:Nat) m=eZ s 0 (i:Nat) 0 (hV m):=as9 (by simpa using dx);refine np ?_;exact⟨(⟨i+1,aH⟩,Dm),[(210,210),(211,211),(203,203)],axX,ar,rfl,rfl,(by rw[cX,mB];rfl),rfl,(by rw[cX,mB];rfl),rfl,bb⟩);(have cd:i=P.length:=by simp at hc;omega);subst cd;rw[ati];refine sM ?_;refine X.gS [(2,.box 210 em 0)] (pL em (.slice bQ (P.map cK).length fa) dP (oy P)) [(210,210),(211,211)] ⟨ar,rfl,bb⟩ ?_;(conv=>whnf);exact⟨_,E,em,_,dP,rfl,rfl⟩
def lG(a b c d:Bool):Nat->Bool
 |0=>a
 |1=>b
 |2=>c
 |3=>d
 |_=>false
def l6(x:List Nat)(p:Nat->Bool):List Nat:=x.filter p++[0,1,2,3].filter λk=>p k&&!x.contains k
def A6(jQ:Nat->D)(l:List Nat):List (D×D):=l.map λk=>(u (k:Nat),jQ k)
def uW(jQ:Nat->D)(x:List Nat)(a b c d:Bool):List (D×D):=A6 jQ (l6 x (lG a b c d))
theorem Rf{x:List Nat}{p:Nat->Bool}(Y:k<4):k∈l6 x p↔p k=true:=by simp only[l6,atB,at2];constructor;rintro(⟨_,h⟩|⟨_,h⟩);exact h;rw[atd]at h;exact h.1;intro h;by_cases I:k∈x;exact .inl ⟨I,h⟩;refine .inr ⟨?_,by simp[h,I]⟩;simp only[atu,avI,av2];omega
theorem aoQ{x:List Nat}{p:Nat->Bool}(h:k∈l6 x p):p k=true:=by simp only[l6,atB,at2,atd]at h;rcases h with⟨_,h⟩|⟨_,h,_⟩<;>exact h
theorem aoR{x:List Nat}{p q:Nat->Bool}(hi:i<4)(G:∀k,q k=(k==i||p k))(Iw:∀k,p k=true->k<4):l6 (l6 x p++[i]) q=l6 x p++[i]:=by(have h1:(l6 x p++[i]).filter q=l6 x p++[i]:=List.filter_eq_self.2 λk Y=>by rw[G];rcases atB.1 Y with h|h;rw[aoQ h];simp;simp at h;simp[h]);(have A:([0,1,2,3].filter λk=>q k&&!(l6 x p++[i]).contains k)=[]:=awj.2 λk Y=>by(have As:k<4:=by simp at Y;omega);by_cases kp:k=i;subst kp;simp;intro h;rw[atd,G]at h;(have yQ:p k=true:=by simpa[kp]using h.1);have:=(Rf (x:=x) As).2 yQ;simp[this]at h);(conv=>lhs;rw[l6]);rw[h1,A,aua]
theorem aoS{jQ:Nat->D}{l:List Nat}(h:i∉l):j7 (A6 jQ l) (u (i:Nat))=none:=by rw[j7,awi,auY];intro e ao;obtain⟨k,Y,rfl⟩:=aty.1 ao;have:k≠i:=λe=>h (e ▸ Y);simp only[oO];simp;omega
theorem aaz{jQ:Nat->D}{i:Nat}:∀{l:List Nat},i∈l->j7 (A6 jQ l) (u (i:Nat))=some (jQ i)
 |k::r,h=>by by_cases Y:k=i;subst Y;simp[j7,A6,oO];(have ae:i∈r:=by simpa[show¬i=k from λe=>Y e.symm]using h);have aY:=aaz (jQ:=jQ) ae;rw[j7]at aY⊢;have e:A6 jQ (k::r)=(u (k:Nat),jQ k)::A6 jQ r:=rfl;rw[e,avh];(have a6:oO (u (k:Nat)) (u (i:Nat))=false:=by simp only[oO];simp;omega);rw[a6];exact aY
theorem aoT{a b c d:Bool}(h:lG a b c d k=true):k<4:=by rcases ats k 4 with aD|aD;exact aD;obtain⟨j,rfl⟩:∃j,k=j+4:=⟨k-4,by omega⟩;cases h
theorem KS(jQ:Nat->D)(x:List Nat){a b c d bv eo u' d':Bool}(i:Nat)(hi:i<4)(h0:lG a b c d i=false)(G:∀k,lG bv eo u' d' k=(k==i||lG a b c d k)): nw (uW jQ x a b c d) (u (i:Nat)) (jQ i)=uW jQ (l6 x (lG a b c d)++[i]) bv eo u' d':=by(have h1:i∉l6 x (lG a b c d):=λh=>by rw[Rf hi]at h;rw[h0]at h;cases h);rw[nw,uW,aoS h1,uW,aoR hi G λk Y=>aoT Y];simp[A6]
theorem G0(jQ:Nat->D)(x:List Nat)(a b c d:Bool):∀e∈uW jQ x a b c d,m7 (.int .i64) e.1=true:=λe ao=>by
 obtain⟨k,_,rfl⟩:=aty.1 ao;rfl
theorem aoU(jQ:Nat->D)(x:List Nat)(kind:Int)(h0:0<=kind)(Z:kind<=3):j7 (uW jQ x true true true true) (u kind)=some (jQ kind.toNat):=by(have e:kind=((kind.toNat:Nat):Int):=by omega);(conv=>lhs;rw[e]);refine aaz ((Rf asZ).2 ?_);(have:kind.toNat<4:=by omega);match kind.toNat,this with|0,_=>rfl|1,_=>rfl|2,_=>rfl|3,_=>rfl
theorem aoV(b c d:Bool):∀k,lG true b c d k=(k==0||lG false b c d k)
 |0=>rfl
 |1=>rfl
 |2=>rfl
 |3=>rfl
 |k+4=>rfl
theorem aoW(a c d:Bool):∀k,lG a true c d k=(k==1||lG a false c d k)
 |0=>rfl
 |1=>rfl
 |2=>rfl
 |3=>rfl
 |k+4=>rfl
theorem aoX(a b d:Bool):∀k,lG a b true d k=(k==2||lG a b false d k)
 |0=>rfl
 |1=>rfl
 |2=>rfl
 |3=>rfl
 |k+4=>rfl
theorem aoY(a b c:Bool):∀k,lG a b c true k=(k==3||lG a b c false k)
 |0=>rfl
 |1=>rfl
 |2=>rfl
 |3=>rfl
 |k+4=>rfl
def wq(s:k9):Int:=k2 (152+4*(1+((s.dG.map gI).length:Nat)))
def uX(s:k9):Int:=yA (1+s.count)
def tw(s:k9):Nat->Int
 |0=>1+s.count
 |1=>1+s.count+wq s
 |2=>3+s.count
 |_=>4+2*uX s
def ws(s:k9)(k:Nat):D:=u (tw s k)
theorem aoZ(n:Int):0<=yA n/\yA n<=5000:=by unfold yA;split;omega;rename_i h;(have:0<=n/\n<=4096:=by revert h;cases h:decide (n<0)<;>simp at h⊢<;>omega);rw[atp asZ];omega
theorem ao0{s:k9}(h:s.dG.length<100000000):0<=wq s/\wq s<1000000000:=Q7 asZ (by rw[atb];omega)
theorem ao1(cq:Nat)(dy dP:Value)(s:k9)(aj:s.dG.length<100000000):cZ B 212 [.box 210 cq 0] (aK (pL cq dy dP s)) λd aO=>d=u (wq s)/\aO=aK (pL cq dy dP s):=by refine jO Tryz.func212 Tryz.ntmps212 λU=>?_;apply b2;apply ep;have gw:(s.dG.map gI).length=s.dG.length:=atb ..;apply kw;apply cB;refine g9 ?_;refine vg ?_;refine⟨[u (152+4*(1+((s.dG.map gI).length:Nat)))],_,λ_=>Vc _ asZ asZ,ar,?_⟩;(conv=>whnf);refine X.gS [(2,u (wq s))] (pL cq dy dP s) [(210,210),(211,211)] ⟨ar,rfl,bb⟩ ?_;exact ax7
theorem ao2(cq:Nat)(dy dP:Value)(s:k9)(h0:0<=s.count)(h1:s.count<1000000000000000000):cZ B 213 [.box 210 cq 0] (aK (pL cq dy dP s)) λd aO=>d=u (uX s)/\aO=aK (pL cq dy dP s):=by refine jO Tryz.func213 Tryz.ntmps213 λU=>?_;apply b2;refine i1 ?_;refine lb ?_;refine⟨[u (1+s.count)],_,λ_=>afF (1+s.count),ar,?_⟩;(conv=>whnf);refine X.gS [(2,u (uX s))] (pL cq dy dP s) [(210,210),(211,211)] ⟨ar,rfl,bb⟩ ?_;exact ax7
theorem ao3(cq:Nat)(dy dP:Value)(s:k9)(kind:Int)(jT:0<=kind)(MY:kind<=3)(aj:s.dG.length<100000000)(h0:0<=s.count)(h1:s.count<1000000000000000000):cZ B 141 [.box 210 cq 0,u kind] (aK (pL cq dy dP s)) λd aO=>d=u (tw s kind.toNat)/\aO=aK (pL cq dy dP s):=by refine jO Tryz.func141 Tryz.ntmps141 λU=>?_;refine ck ?_;have asx:=ao0 aj;have zv:=aoZ (1+s.count);apply ep;refine X.SB aM mixed (α:=Nat×List Nat) (λy f=>[(0,.box 210 cq 0),(1,u kind),(5,bif f 0 then .al (.map (some y.1))else .any),(6,bif f 1 then .box 210 cq 0 else .any),(7,bif f 2 then .box 210 cq 0 else .any),(8,bif f 3 then .box 210 cq 2 else .any),(9,bif f 4 then u s.count else .any),(10,bif f 5 then u (1+s.count)else .any),(11,bif f 7 then .box 210 cq 0 else .any),(12,bif f 8 then .box 210 cq 0 else .any),(13,bif f 9 then .box 210 cq 2 else .any),(14,bif f 10 then u s.count else .any),(15,bif f 11 then u (1+s.count)else .any),(16,bif f 12 then .box 210 cq 0 else .any),(17,bif f 13 then u (wq s)else .any),(18,bif f 14 then u (1+s.count+wq s)else .any),(19,bif f 16 then .box 210 cq 0 else .any),(20,bif f 17 then .box 210 cq 0 else .any),(21,bif f 18 then .box 210 cq 2 else .any),(22,bif f 19 then u s.count else .any),(23,bif f 20 then u (3+s.count)else .any),(24,bif f 22 then .box 210 cq 0 else .any),(25,bif f 23 then u (uX s)else .any),(26,bif f 24 then u (2*uX s)else .any),(27,bif f 25 then u (4+2*uX s)else .any),(28,bif f 27 then .al (.map (some y.1))else .any),(29,bif f 28 then u kind else .any),(30,bif f 29 then u (tw s kind.toNat)else .any),(4,bif f 30 then u (tw s kind.toNat)else u 0)]) (λy f=>aK ([(210,.box cq [.al dy,.Q (.own 211 dP) 5 (s.dG.map gI),u s.count]),(211,.own dP s.dG.length 5 358)]++(bif f 0 then[(5,.mp y.1 (uW (ws s) y.2 (f 6) (f 15) (f 21) (f 26)))]else[]))) as3 (0,[]) ?_ ?_ ?_ ?_;exact⟨E,E,.any _,.any _,.any _,.any _,.any _,.any _,.any _,.any _,.any _,.any _,.any _,.any _,.any _,.any _,.any _,.any _,.any _,.any _,.any _,.any _,.any _,.any _,.any _,.any _,.any _,.any _,E,ai⟩;exact nv.u4 (hs:=[(210,.box cq [.al dy,.Q (.own 211 dP) 5 (s.dG.map gI),u s.count]),(211,.own dP s.dG.length 5 358)]) ⟨rfl,bb⟩;refine go ?_;refine⟨λy f bg=>?_,?_⟩;obtain⟨f,rfl⟩:= bg.o f 6 0;obtain⟨f,rfl⟩:= bg.o f 15 0;obtain⟨f,rfl⟩:= bg.o f 21 0;obtain⟨f,rfl⟩:= bg.o f 26 0;obtain⟨f,rfl⟩:= bg.o f 27 0;apply p4;refine af.t6 (λaaA=>?_);refine go ?_;exact fW (aaA,[]) (nv.u4 (hs:=[(210,.box cq [.al dy,.Q (.own 211 dP) 5 (s.dG.map gI),u s.count]),(211,.own dP s.dG.length 5 358),(5,.mp aaA [])]) (by exact⟨rfl,bb⟩));refine⟨λy f bg=>?_,?_⟩;obtain⟨f,rfl⟩:= bg.o f 6 5 (bg.n 5 4 (bg.n 4 3 (bg.n 3 2 (bg.n 2 1))));obtain⟨f,rfl⟩:= bg.o f 27 1;refine ld ?_;exact fW y;refine⟨λy f bg=>?_,?_⟩;obtain⟨f,rfl⟩:= bg.o f 6 5 (bg.n 5 4 (bg.n 4 3 (bg.n 3 2)));obtain⟨f,rfl⟩:= bg.o f 27 2;refine ld ?_;exact fW y;refine⟨λy f bg=>?_,?_⟩;obtain⟨f,rfl⟩:= bg.o f 6 5 (bg.n 5 4 (bg.n 4 3));obtain⟨f,rfl⟩:= bg.o f 27 3;refine ld ?_;exact fW y;refine⟨λy f bg=>?_,?_⟩;obtain⟨f,rfl⟩:= bg.o f 6 5 (bg.n 5 4);obtain⟨f,rfl⟩:= bg.o f 27 4;refine ld ?_;exact fW y;refine⟨λy f bg=>?_,?_⟩;obtain⟨f,rfl⟩:= bg.o f 6 5;obtain⟨f,rfl⟩:= bg.o f 27 5;refine ld ?_;exact fW y;refine⟨λy f bg=>?_,?_⟩;obtain⟨f,rfl⟩:= bg.o f 27 6;apply p4;refine af.Ep (af.z_ 5 (dV:=3) (ek:=3) rfl rfl rfl rfl rfl rfl (G0 _ _ _ _ _ _) ?_);refine go ?_;exact fW (y.1,l6 y.2 (lG false (f 15) (f 21) (f 26))++[0]) (nv.u4 (hs:=[(210,.box cq [.al dy,.Q (.own 211 dP) 5 (s.dG.map gI),u s.count]),(211,.own dP s.dG.length 5 358),(5,.mp y.1 (uW (ws s) (l6 y.2 (lG false (f 15) (f 21) (f 26))++[0]) true (f 15) (f 21) (f 26)))]) (by exact⟨rfl,rfl,as' (λV=>some (aI.mp y.1 V)) (KS (ws s) y.2 0 as2 rfl (aoV (f 15) (f 21) (f 26))),ai⟩));refine⟨λy f bg=>?_,?_⟩;obtain⟨f,rfl⟩:= bg.o f 15 14 (bg.n 14 11 (bg.n 11 10 (bg.n 10 9 (bg.n 9 8 (bg.n 8 7)))));obtain⟨f,rfl⟩:= bg.o f 27 7;refine ld ?_;exact fW y;refine⟨λy f bg=>?_,?_⟩;obtain⟨f,rfl⟩:= bg.o f 15 14 (bg.n 14 11 (bg.n 11 10 (bg.n 10 9 (bg.n 9 8))));obtain⟨f,rfl⟩:= bg.o f 27 8;refine ld ?_;exact fW y;refine⟨λy f bg=>?_,?_⟩;obtain⟨f,rfl⟩:= bg.o f 15 14 (bg.n 14 11 (bg.n 11 10 (bg.n 10 9)));obtain⟨f,rfl⟩:= bg.o f 27 9;refine ld ?_;exact fW y;refine⟨λy f bg=>?_,?_⟩;obtain⟨f,rfl⟩:= bg.o f 15 14 (bg.n 14 11 (bg.n 11 10));obtain⟨f,rfl⟩:= bg.o f 27 10;refine ld ?_;exact fW y;refine⟨λy f bg=>?_,?_⟩;obtain⟨f,rfl⟩:= bg.o f 15 14 (bg.n 14 11);obtain⟨f,rfl⟩:= bg.o f 27 11;refine ld ?_;exact fW y;refine⟨λy f bg=>?_,?_⟩;obtain⟨f,rfl⟩:= bg.o f 15 14 (bg.n 14 13 (bg.n 13 12));obtain⟨f,rfl⟩:= bg.o f 26 25 (bg.n 25 24 (bg.n 24 23 (bg.n 23 13 (bg.n 13 12))));obtain⟨f,rfl⟩:= bg.o f 27 12;refine ld ?_;exact fW y;refine⟨λy f bg=>?_,?_⟩;obtain⟨f,rfl⟩:= bg.o f 15 14 (bg.n 14 13);obtain⟨f,rfl⟩:= bg.o f 26 25 (bg.n 25 24 (bg.n 24 23 (bg.n 23 13)));obtain⟨f,rfl⟩:= bg.o f 27 13;apply p4;refine af.BR rfl [.box 210 cq 0] [(210,210),(211,211)] (hs:=pL cq dy dP s) (by exact⟨rfl,bb⟩) (ao1 cq dy dP s aj) rfl ar E ?_;refine go ?_;exact fW y;refine⟨λy f bg=>?_,?_⟩;obtain⟨f,rfl⟩:= bg.o f 15 14;obtain⟨f,rfl⟩:= bg.o f 27 14;refine ld ?_;exact fW y;refine⟨λy f bg=>?_,?_⟩;obtain⟨f,rfl⟩:= bg.o f 27 15;apply p4;refine af.Ep (af.z_ 5 (dV:=3) (ek:=3) rfl rfl rfl rfl rfl rfl (G0 _ _ _ _ _ _) ?_);refine go ?_;exact fW (y.1,l6 y.2 (lG (f 6) false (f 21) (f 26))++[1]) (nv.u4 (hs:=[(210,.box cq [.al dy,.Q (.own 211 dP) 5 (s.dG.map gI),u s.count]),(211,.own dP s.dG.length 5 358),(5,.mp y.1 (uW (ws s) (l6 y.2 (lG (f 6) false (f 21) (f 26))++[1]) (f 6) true (f 21) (f 26)))]) (by exact⟨rfl,rfl,as' (λV=>some (aI.mp y.1 V)) (KS (ws s) y.2 1 as2 rfl (aoW (f 6) (f 21) (f 26))),ai⟩));refine⟨λy f bg=>?_,?_⟩;obtain⟨f,rfl⟩:= bg.o f 21 20 (bg.n 20 19 (bg.n 19 18 (bg.n 18 17 (bg.n 17 16))));obtain⟨f,rfl⟩:= bg.o f 27 16;refine ld ?_;exact fW y;refine⟨λy f bg=>?_,?_⟩;obtain⟨f,rfl⟩:= bg.o f 21 20 (bg.n 20 19 (bg.n 19 18 (bg.n 18 17)));obtain⟨f,rfl⟩:= bg.o f 27 17;refine ld ?_;exact fW y;refine⟨λy f bg=>?_,?_⟩;obtain⟨f,rfl⟩:= bg.o f 21 20 (bg.n 20 19 (bg.n 19 18));obtain⟨f,rfl⟩:= bg.o f 27 18;refine ld ?_;exact fW y;refine⟨λy f bg=>?_,?_⟩;obtain⟨f,rfl⟩:= bg.o f 21 20 (bg.n 20 19);obtain⟨f,rfl⟩:= bg.o f 27 19;refine ld ?_;exact fW y;refine⟨λy f bg=>?_,?_⟩;obtain⟨f,rfl⟩:= bg.o f 21 20;obtain⟨f,rfl⟩:= bg.o f 27 20;refine ld ?_;exact fW y;refine⟨λy f bg=>?_,?_⟩;obtain⟨f,rfl⟩:= bg.o f 27 21;apply p4;refine af.Ep (af.z_ 5 (dV:=3) (ek:=3) rfl rfl rfl rfl rfl rfl (G0 _ _ _ _ _ _) ?_);refine go ?_;exact fW (y.1,l6 y.2 (lG (f 6) (f 15) false (f 26))++[2]) (nv.u4 (hs:=[(210,.box cq [.al dy,.Q (.own 211 dP) 5 (s.dG.map gI),u s.count]),(211,.own dP s.dG.length 5 358),(5,.mp y.1 (uW (ws s) (l6 y.2 (lG (f 6) (f 15) false (f 26))++[2]) (f 6) (f 15) true (f 26)))]) (by exact⟨rfl,rfl,as' (λV=>some (aI.mp y.1 V)) (KS (ws s) y.2 2 as2 rfl (aoX (f 6) (f 15) (f 26))),ai⟩));refine⟨λy f bg=>?_,?_⟩;obtain⟨f,rfl⟩:= bg.o f 26 25 (bg.n 25 24 (bg.n 24 23 (bg.n 23 22)));obtain⟨f,rfl⟩:= bg.o f 27 22;refine ld ?_;exact fW y;refine⟨λy f bg=>?_,?_⟩;obtain⟨f,rfl⟩:= bg.o f 26 25 (bg.n 25 24 (bg.n 24 23));obtain⟨f,rfl⟩:= bg.o f 27 23;apply p4;refine af.BR rfl [.box 210 cq 0] [(210,210),(211,211)] (hs:=pL cq dy dP s) (by exact⟨rfl,bb⟩) (ao2 cq dy dP s h0 h1) rfl ar E ?_;refine go ?_;exact fW y;refine⟨λy f bg=>?_,?_⟩;obtain⟨f,rfl⟩:= bg.o f 26 25 (bg.n 25 24);obtain⟨f,rfl⟩:= bg.o f 27 24;refine ld ?_;refine .inl ⟨λ_=>by simp only[dg];unfold uX;omega,?_⟩;refine go ?_;exact fW y;refine⟨λy f bg=>?_,?_⟩;obtain⟨f,rfl⟩:= bg.o f 26 25;obtain⟨f,rfl⟩:= bg.o f 27 25;refine ld ?_;refine .inl ⟨λ_=>by simp only[dg];unfold uX;omega,?_⟩;refine go ?_;exact fW y;refine⟨λy f bg=>?_,?_⟩;obtain⟨f,rfl⟩:= bg.o f 27 26;apply p4;refine af.Ep (af.z_ 5 (dV:=3) (ek:=3) rfl rfl rfl rfl rfl rfl (G0 _ _ _ _ _ _) ?_);refine go ?_;exact fW (y.1,l6 y.2 (lG (f 6) (f 15) (f 21) false)++[3]) (nv.u4 (hs:=[(210,.box cq [.al dy,.Q (.own 211 dP) 5 (s.dG.map gI),u s.count]),(211,.own dP s.dG.length 5 358),(5,.mp y.1 (uW (ws s) (l6 y.2 (lG (f 6) (f 15) (f 21) false)++[3]) (f 6) (f 15) (f 21) true))]) (by exact⟨rfl,rfl,as' (λV=>some (aI.mp y.1 V)) (KS (ws s) y.2 3 as2 rfl (aoY (f 6) (f 15) (f 21))),ai⟩));refine⟨λy f bg=>?_,?_⟩;(conv=>whnf);refine ld ?_;exact fW y;refine⟨λy f bg=>?_,?_⟩;(conv=>whnf);refine ld ?_;exact fW y;refine⟨λy f bg=>?_,?_⟩;obtain⟨f,rfl⟩:=Eo f 0 (bg 27 0 rfl rfl);obtain⟨f,rfl⟩:=Eo f 6 (bg 27 6 rfl rfl);obtain⟨f,rfl⟩:=Eo f 15 (bg 27 15 rfl rfl);obtain⟨f,rfl⟩:=Eo f 21 (bg 27 21 rfl rfl);obtain⟨f,rfl⟩:=Eo f 26 (bg 27 26 rfl rfl);apply p4;refine af.Ib 5 (dV:=3) (ek:=3) (k:=u kind) (d:=u (tw s kind.toNat)) rfl rfl rfl rfl rfl rfl (G0 _ _ _ _ _ _) (aoU (ws s) y.2 kind jT MY) ?_;refine go ?_;exact fW y;refine⟨λy f bg=>?_,?_⟩;(conv=>whnf);refine ld ?_;exact fW y;exact trivial;intro y f M;obtain⟨f,rfl⟩:=ac4 f 31 (by exact M);clear M;(conv=>whnf);refine X.jP [(4,u (tw s kind.toNat))] (aK [(210,.box cq [.al dy,.Q (.own 211 dP) 5 (s.dG.map gI),u s.count]),(211,.own dP s.dG.length 5 358)]) (.same (by exact ar) (nv.u4 (hs:=[(210,.box cq [.al dy,.Q (.own 211 dP) 5 (s.dG.map gI),u s.count]),(211,.own dP s.dG.length 5 358)]) (by exact⟨rfl,bb⟩))) ?_;(conv=>whnf);refine X.gS [(4,u (tw s kind.toNat))] (pL cq dy dP s) [(210,210),(211,211)] ⟨ar,rfl,bb⟩ ?_;exact ax7
def j3(n:aa):aa:=jw (λag=>ag.map aa.name) 3 1 n
def hz(n:aa)(kind:Int):Int×Int:=if(bif !Ar kind then true else !valid n)=true then(0,1)else(tw (oy (hU (j3 n))) kind.toNat,0)
theorem ao4(aW:dc B)(n:aa)(kind:Int)(bH:aB n+n.name.length<10000000)(W:valid n=true->aB n<800000/\aB (j3 n)<1000000):aU B 94 [aE n,u kind] (.bo [u (hz n kind).1,u (hz n kind).2]):=by refine bA Tryz.func94 Tryz.ntmps94 λU=>?_;refine go ?_;intro cg;refine go ?_;refine bp (afH kind) ?_;refine bp (Ak aW n bH) ?_;refine aJ (bif !Ar kind then true else !valid n) rfl ?_ ?_<;>intro hc;refine go ?_;rw[hz,as_ hc];exact ar;(have lk:Ar kind=true/\valid n=true:=by revert hc;cases Ar kind<;>cases valid n<;>simp);obtain⟨CY,PN⟩:=W lk.2;(have jT:0<=kind/\kind<=3:=by have:=lk.1;unfold Ar at this;revert this;cases h:decide (0<=kind)<;>simp at h⊢<;>omega);(have Dl:aU B 208 [u 3,aE n] (.bo [aE (j3 n),u 0]):=by have h:=ahr aW (λag=>ag.map aa.name) 3 (λ_=>N9 aW (.inr rfl)) n bH (λ_=>CY);(have e:td (λag=>ag.map aa.name) 3 n=(j3 n,0):=by unfold td;rw[as9 as2,as9 (by rw[lk.2];decide)];rfl);rw[e]at h;exact h);have ib:=KQ (l:=hU (j3 n)) (λm hm=>Nat.lt_of_le_of_lt (KP _ m hm) PN) (hU (j3 n)).length (atg _);rw[ati]at ib;have Oi:=KO (j3 n);have jD:=ib.len;have xA:=ib.h6;have wX:=ib.ev;refine go ?_;refine .inr (af.call rfl [aE n] [(210,210),(211,211)] (c7.My (by exact⟨rfl,bb⟩) (aoN aW n (j3 n) Dl PN)) rfl ar ?_);rintro d aO ⟨cq,dy,dP,rfl,rfl⟩;refine p6 ?_;refine .inr (af.call rfl [.box 210 cq 0,u kind] [(210,210),(211,211)] (c7.wT (by exact⟨rfl,bb⟩) (ao3 cq dy dP (oy (hU (j3 n))) kind jT.1 jT.2 asZ xA asZ)) rfl ar ?_);rintro d aO ⟨rfl,rfl⟩;refine p6 ?_;rw[hz,as9 (by rw[hc];decide)];refine go ?_;exact ar
theorem ao5:aU B 199 [.Q .none 1 [],u 0,u 0] (.bo []):=by refine fn Tryz.func199 Tryz.ntmps199 λU=>?_;refine go ?_;refine fZ (λ_:Unit=>True) [] [] (λ_=>[(6,u 1),(2,u 0)]) (λ_=>[]) (λ_=>0) () trivial [] ?_;rintro⟨⟩ _;refine go ?_;exact trivial
theorem ao6:aU B 138 [.Q .none 1 [],u 0,u 0,u 0] (.bo []):=by have ao7:=ao5 (B:=B);refine fn Tryz.func138 Tryz.ntmps138 λU=>?_;refine go ?_;refine fZ (λ_:Unit=>True) [0,1,2,3] [] (λ_=>[]) (λ_=>[]) (λ_=>0) () trivial [] ?_;rintro⟨⟩ _;refine go ?_;refine bp ao7 ?_;exact trivial
theorem ao8:aU B 92 [.Q .none 1 []] (.bo []):=by have ao9:=ao6 (B:=B);have ao_:aU B 81 [.int .u64 0] (u 0):=.pure (js Tryz.func81 rfl as3) rfl rfl λw _=>Tryz.bits_Len 0 w as2 as2;refine fn Tryz.func92 Tryz.ntmps92 λU=>?_;refine go ?_;refine sP (⟨by decide,by decide⟩:dg .u64 (([]:List D).length:Int)) ?_;(conv=>whnf);refine go ?_;refine bp ao_ ?_;refine bp ao9 ?_;exact trivial
theorem ao':aU B 58 [.fn (.func 93) [] [.a8 1 [.Q .none 1 []] 0 0]] (.Q .none 1 []):=by have apa:=aop (B:=B) [] as2;have apb:=ao8 (B:=B);refine fn Tryz.func58 Tryz.ntmps58 λU=>?_;refine go ?_;refine bp apa ?_;refine bp apb ?_;exact E
mutual
theorem aaB:∀n:aa,(hU n).length=fH n
 |.mk a b c d e f g h i j ag cC=>by rw[hU,fH,ath,aaC ag];omega
theorem aaC:∀l:List aa,(gv l).length=eX l
 |[]=>rfl
 |n::r=>by rw[gv,eX,atf,aaB n,aaC r]
end
mutual
theorem aaD:∀(n:aa) (l:Int),1<=l->iK n l=true->∀m∈hU n,∃i7,1<=i7/\one m i7=0
 |.mk a b c d e f g h i j ag cC,l,aj,aV,m,hm=>by
  rw[hU]at hm;rcases atu.1 hm with e|e
  ·subst e;exact⟨l,aj,Kw aV⟩
  rw[iK,atd]at aV;exact aaE ag (l+1) asZ aV.2 m e
theorem aaE:∀(ag:List aa) (l:Int),1<=l->nc ag l=true->∀m∈gv ag,∃i7,1<=i7/\one m i7=0
 |[],l,_,_,m,hm=>by simp[gv]at hm
 |k::ag,l,aj,aV,m,hm=>by
  rw[nc,atd]at aV;rw[gv]at hm;rcases atB.1 hm with e|e
  ·exact aaD k l aj aV.1 m e
  exact aaE ag l aj aV.2 m e
end
theorem Rg{n b:Int}(h0:0<=n)(h1:n<=2048*b)(F:0<=b):0<=k2 n/\k2 n<=b:=by unfold k2;split;omega;unfold j9;rw[atp asZ];omega
theorem aaF{s:k9}(i:Int){l:List nu}(aj:∀x∈l,x.target.length<300000):∀k,k<=l.length->s.count<=(ry i s (l.take k)).count/\(ry i s (l.take k)).count<=s.count+148*(k:Int)
 |0,_=>by rw[avu];simp[ry,uV]
 |k+1,Y=>by have aY:=aaF (s:=s) i aj k asZ;rw[ry,Dk _ _ (show k<l.length by omega)];have e:ry i s (l.take k)=uV (λs k x=>eZ s 2 i k (x.target.length:Nat)) s (l.take k):=rfl;rw[<-e];generalize ry i s (l.take k)=V at*;have:=Rg (n:=(l[k].target.length:Nat)) (b:=147) asZ (by have:=aj _ (ate (show k<l.length by omega));omega) as2;simp only[eZ];omega
theorem aaG{m:aa}{l:Int}(h:one m l=0):m.J.length<=64/\m.bN.length<=4:=aw5
theorem apc{m:aa}{l:Int}(h1:1<=l)(h:one m l=0):0<=hV m/\hV m<=2048*8400:=by have hs:=aaG h;have au:=(Kv h1 h).2.2.1;have A:=KJ m.target (cR 47 [] (rv m.target)) (xL m.target);have Z:=(s1 (c:=47) (rv m.target) []).1;have aD:=Q4 m.target;have bc:=Q5 m.target;have bH:=KK [] true true;have M:=Q6 m.J (ul [] true true).1 bH.1;unfold hV zf;split;omega;split;unfold Dj;omega;unfold uU;omega
theorem apd{s:k9}(i:Int){m:aa}{l:Int}(h1:1<=l)(h:one m l=0)(bH:aB m<300000):s.count<=(wo s i m).count/\(wo s i m).count<=s.count+9000:=by have hc:=apc h1 h;have hs:=aaG h;have ah:=Rg hc.1 hc.2 as2;(have L':k2 0=0:=by unfold k2;rw[as_ as2]);unfold wo;split;have:=aaF (s:=eZ (eZ s 0 i 0 (hV m)) 1 i 0 0) i (l:=m.bN) (λx I=>by obtain⟨k,Y,rfl⟩:=atP.1 I;have h1:=H5 Y;have A:=lU m;omega) m.bN.length (atg _);rw[ati]at this;simp only[eZ,L']at this⊢;omega;simp only[eZ];omega
theorem aaH{l:List aa}(aj:∀m∈l,aB m<300000/\∃i7,1<=i7/\one m i7=0):∀k,k<=l.length->0<=(oy (l.take k)).count/\(oy (l.take k)).count<=9000*(k:Int)
 |0,_=>by rw[avu];simp[oy,uV]
 |k+1,Y=>by have aY:=aaH aj k asZ;rw[oy,Dk _ _ (show k<l.length by omega)];have e:oy (l.take k)=uV wo ⟨[],0⟩ (l.take k):=rfl;rw[<-e];generalize oy (l.take k)=V at*;obtain⟨h1,i7,A,Z⟩:=aj _ (ate (show k<l.length by omega));have:=apd (s:=V) (k:Nat) A Z h1;omega
theorem aaI(aW:dc B){n:aa}(M:og n 100000=true)(kind:Int):0<=(hz n kind).1/\(hz n kind).1<=500000/\(valid n=true->aB (j3 n)<300000):=by(have Dl:j3 n=jw (ce 3) 3 1 n:=by unfold j3;rw[FY (.inr rfl)]);by_cases W:valid n=true;(have hs:aB (j3 n)<300000:=by rw[Dl];exact(ah9 (ce 3) 3 (ah7 aW as2) W M).2);(have Ez:valid (j3 n)=true:=by rw[Dl];exact ai1 as2 W);(have aV:iK (j3 n) 1=true:=by rw[vT,atd]at Ez;exact Ez.2);(have C1:fH (j3 n)<=40:=by have h1:=OL (λag=>ag.map aa.name) 3 n 1;have A:=(yS M).2;unfold j3;omega);have dj:=aaB (j3 n);have hC:∀m∈hU (j3 n),aB m<300000/\∃i7,1<=i7/\one m i7=0:=λm hm=>⟨by have:=KP (j3 n) m hm;omega,aaD (j3 n) 1 (at5 _) aV m hm⟩;have F:=aaH hC (hU (j3 n)).length (atg _);have ib:=KQ (l:=hU (j3 n)) (λm hm=>by have:=(hC m hm).1;omega) (hU (j3 n)).length (atg _);rw[ati]at F ib;have asy:=KO (j3 n);have cz:=ib.len;obtain⟨cQ,hO⟩:∃cQ,oy (hU (j3 n))=cQ:=⟨_,rfl⟩;rw[hO]at F ib cz;(have asz:0<=wq cQ/\wq cQ<=1000:=by unfold wq;exact Rg asZ (by rw[atb];omega) as2);(have asA:0<=uX cQ/\uX cQ<=5000:=by unfold uX yA;split;omega;rename_i hc;(have h1:¬(4096:Int)<1+cQ.count:=by intro h;rw[atU (by omega:¬1+cQ.count<0),aug h]at hc;exact hc rfl);rw[atp asZ];omega);(have bH:0<=(hz n kind).1/\(hz n kind).1<=500000:=by unfold hz;split;exact⟨by decide,by decide⟩;rw[hO];dsimp only;(have asB:9000*(((hU (j3 n)).length:Nat):Int)<=360000:=by rw[dj];omega);generalize kind.toNat=hJ;match hJ with|0=>simp only[tw];omega|1=>simp only[tw];omega|2=>simp only[tw];omega|k+3=>simp only[tw];omega);exact⟨bH.1,bH.2,λ_=>hs⟩;unfold hz;rw[as_ (by cases h:valid n with|true=>exact absurd h W|false=>cases Ar kind<;>rfl)];exact⟨by decide,by decide,λh=>absurd h W⟩
end Go.bS.cj
