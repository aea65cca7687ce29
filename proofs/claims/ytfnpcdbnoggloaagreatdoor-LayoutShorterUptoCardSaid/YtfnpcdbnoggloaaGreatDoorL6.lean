/- Contracts of the program's functions, part 6. No conditions of its own. -/
import Derived.Test.YtfnpcdbnoggloaaGreatDoorL5
import Derived.Ground.GgzProg
import Derived.Shelf.SlLaysZ
import Derived.Shelf.Lay
import Derived.Test.YtfnpcdbnoggloaaGreatDoorShelf
import Derived.Shelf.Sort.Plain
import Derived.Shelf.GgSortFunc.Insertion
set_option linter.unnecessarySimpa false
set_option linter.unusedSimpArgs false
set_option linter.unusedVariables false
set_option maxRecDepth 100000
set_option maxHeartbeats 16000000
namespace Go.bV.ct
open Go Go.Proofs
def wm(m:auM)(bc:Bool):auM:=if bc=true then m else if yZ m=true then m++[59,49]else m++[46,59,49]
variable{bL bY:auM}{bc:Bool}
theorem nO.ident{m:auM}(h:nO m bc bL bY):(kk m bc).1=wm m bc:=by rw[kk,auO h.name.valid,wm];split;rfl;split<;>rfl
theorem aon(m:auM):wm m false=if yZ m=true then m++[59,49]else m++[46,59,49]:=rfl
variable{s:auM}
theorem Z2{k:Int}{c:UInt8}(h:oo s k=true)(hc:q_ c=false):c∉s:=by intro hm;simp only[oo,uv,auQ,avz]at h;have:=h.2.2.2 c hm;rw[hc]at this;cases this
theorem nO.aoo{m:auM}(h:nO m bc bL bY):(59:UInt8)∉m:=by have h1:=Z2 (c:=59) h.a auG;rcases h.eq with⟨_,rfl⟩|⟨_,_,aa,rfl⟩;exact h1;have A:=Z2 (c:=59) aa auG;intro hm;rcases avf.1 hm with hm|hm;exact h1 hm;rcases au8.1 hm with hm|hm;cases hm;exact A hm
def xI(p s:aK)(j:Nat):Prop:=p.n.F[j]?=some s.n/\∃m,(cd 0 p.n.F)[j]?=some m/\s.id=(kk m (s.n.kind==0)).1/\s.file=(kk m false).1
def tn(l:List aK):Prop:=∀g9 bp,0<g9->l[g9]?=some bp->∃p ez,l[bp.ab]?=some p/\p.c_=true/\bp.fi=p.di/\xI p bp ez/\∀i s,0<i->i<g9->l[i]?=some s->s.fi=bp.fi->∃j,j<ez/\xI p s j
theorem ex.aop(l:List aK):∀c:ex,c.uF<=(c.iQ l).uF:=by induction l with|nil=>intro c;exact auW _|cons s r aV =>intro c;rw[ex.JC];refine av6 ?_ (aV _);simp only[ex.add];split<;>omega
theorem ex.QO(c:ex)(s:aK):c.uF<=(c.add s).uF:=by simp only[ex.add];split<;>omega
mutual
theorem Z3:∀(n:U) (x:aK) (c:ex),∀s∈fA n x c,s.fi=x.di\/c.uF<=s.fi
 |.mk _ _ _ _ _ _ _ _ _ _ ae _,x,c,s,hs=>by
  simp only[fA]at hs;exact QP ae _ x c s hs
theorem QP:∀(ae:List U) (cm:List auM) (x:aK) (c:ex),∀s∈e9 ae cm x c,s.fi=x.di\/c.uF<=s.fi
 |k::r,m::cm,x,c,s,hs=>by
  simp only[e9]at hs;split at hs
  ·rcases au8.1 hs with rfl|hs
   ·exact .inl rfl
   rcases avf.1 hs with hs|hs
   ·have:=ex.QO c (bX x k m c);rcases Z3 k _ _ s hs with h|h
    ·exact .inr (by rw[h];exact auW _)
    exact .inr auD
   have h1:=ex.QO c (bX x k m c);have A:=ex.aop (fA k (bX x k m c) (c.add (bX x k m c))) (c.add (bX x k m c));rcases QP r cm x _ s hs with h|h
   ·exact .inl h
   exact .inr auD
  exact QP r cm x c s hs
 |[],_,_,_,s,hs=>by simp[e9]at hs
 |_::_,[],_,_,s,hs=>by simp[e9]at hs
end
theorem tn.wg{l:List aK}(h:tn l){s p:aK}{ez:Nat}(nW:s.ab<l.length)(aw:l[s.ab]?=some p)(O:p.c_=true)(M:s.fi=p.di)(Z:xI p s ez)(Hn:∀i t,0<i->l[i]?=some t->t.fi=s.fi->∃j,j<ez/\xI p t j):tn (l++[s]):=by intro g9 bp h0 dn;rcases au6 g9 l.length with aj|aj;rw[au3 aj]at dn;obtain⟨q,j,h1,A,aa,aF,a8⟩:=h g9 bp h0 dn;(have lA:bp.ab<l.length:=by rcases au6 bp.ab l.length with h|h;exact h;rw[au0 h]at h1;cases h1);refine⟨q,j,by rw[au3 lA];exact h1,A,aa,aF,λi t hi Dp ax=>?_⟩;rw[au3 auD]at ax;exact a8 i t hi Dp ax;rcases au6 l.length g9 with aS|aS;rw[au0 auE]at dn;cases dn;(have:g9=l.length:=by omega);subst this;rw[awN]at dn;cases dn;refine⟨p,ez,by rw[au3 nW];exact aw,O,M,Z,λi t hi Dp ax=>?_⟩;rw[au3 Dp]at ax;exact Hn i t hi ax
mutual
theorem Z4(bi:Bool)(gW:U):∀(n:U) (x:aK) (c:ex) (l:List aK),ft bi gW l->tn l->x.n=n->rk n->l[x.si]?=some x->tj c l->(∀i s,0<i->l[i]?=some s->s.fi≠x.di)->tn (l++fA n x c)
 |.mk aU xY t tg gn a2 a3 a4 a5 zY ae ch,x,c,l,G,hs,ze,cD,J,hc,fx=>by
  simp only[fA];have GG:=(Kc _).1 cD;by_cases O:xY=0
  ·have sH:x.n.F=ae:=auP U.F ze;exact QQ bi gW ae (cd 0 ae) x c l 0 G hs (by rw[aK.c_,ze,O];rfl) (by rw[sH];rfl) (by rw[sH];rfl) GG.2 J hc (λi s h0 h1 A=>absurd A (fx i s h0 h1))
  have:ae=[]:=GG.1 O;subst this;simpa[e9]using hs
theorem QQ(bi:Bool)(gW:U):∀(ae:List U) (cm:List auM) (x:aK) (c:ex) (l:List aK) (off:Nat),ft bi gW l->tn l->x.c_=true->x.n.F.drop off=ae->(cd 0 x.n.F).drop off=cm->ti ae->l[x.si]?=some x->tj c l->
  (∀i s,0<i->l[i]?=some s->s.fi=x.di->∃j,j<off/\xI x s j)->tn (l++e9 ae cm x c)
 |[],_,x,c,l,off,G,hs,_,_,_,_,_,_,_=>by simpa[e9]using hs
 |k::r,[],x,c,l,off,G,hs,_,_,_,_,_,_,_=>by simpa[e9]using hs
 |k::r,m::cm,x,c,l,off,G,hs,O,b2,hQ,cD,J,hc,hinv=>by
  simp only[ti]at cD
  have jN:x.n.F[off]?=some k:=by
   have:=auP (λQ=>Q[0]?) b2;simpa using this
  have WT:(cd 0 x.n.F)[off]?=some m:=by
   have:=auP (λQ=>Q[0]?) hQ;simpa using this
  have Z5:x.n.F.drop (off+1)=r:=by rw[<-List.drop_drop,b2];rfl
  have Z6:(cd 0 x.n.F).drop (off+1)=cm:=by rw[<-List.drop_drop,hQ];rfl
  simp only[e9];split
  ·rename_i ha;have a1:=Qm (m:=m) J O hc (au5 jN) ha;have lo:=G.wg a1;have e6:=hc.add (bX x k m c);have Fj:xI x (bX x k m c) off:=⟨jN,m,WT,rfl,rfl⟩;have iJ:tn (l++[bX x k m c]):=hs.wg a1.ab a1.dp O rfl Fj (λi t h0 h1 A=>hinv i t h0 h1 A)
   have CV:(l++[bX x k m c])[(bX x k m c).si]?=some (bX x k m c):=by
    rw[a1.si];simp
   have A':x.di<(bM l).length:=(G.A9 J O).2;have lW:(bX x k m c).di=(bM l).length:=a1.di
   have fx:∀i s,0<i->(l++[bX x k m c])[i]?=some s->s.fi≠(bX x k m c).di:=λi s h0 h1=>by
    rcases avf.1 (au5 h1)with A|A
    ·have:=G.Kj s A;omega
    rw[avs]at A;subst A;have:(bX x k m c).fi=x.di:=rfl;omega
   have kz:=Z4 bi gW k (bX x k m c) (c.add (bX x k m c)) (l++[bX x k m c]) lo iJ rfl cD.1 CV e6 fx;have g_:=Qn bi gW k (bX x k m c) (c.add (bX x k m c)) (l++[bX x k m c]) lo rfl cD.1 CV e6;have bx:=e6.iQ (m:=fA k (bX x k m c) (c.add (bX x k m c)))
   have bg:x.si<l.length:=by
    rcases au6 x.si l.length with h|h
    ·exact h
    rw[au0 h]at J;cases J
   have Ge:(l++[bX x k m c]++fA k (bX x k m c) (c.add (bX x k m c)))[x.si]?=some x:=by
    rw[avr,au3 bg];exact J
   have aoq:∀i s,0<i->(l++[bX x k m c]++fA k (bX x k m c) (c.add (bX x k m c)))[i]?=some s->s.fi=x.di->∃j,j<off+1/\xI x s j:=λi s h0 h1 A=>by
    rcases au6 i l.length with hi|hi
    ·rw[avr,au3 hi]at h1;obtain⟨j,ad,Z⟩:=hinv i s h0 h1 A;exact⟨j,by omega,Z⟩
    rcases au6 l.length i with aS|aS
    ·rw[avl auE]at h1
     have Dd:(bM l).length<=(c.add (bX x k m c)).uF:=by
      have:=ex.QO c (bX x k m c);have:=hc.2.1;omega
     rcases Z3 k _ _ s (au5 h1)with aa|aa
     ·rw[aa,lW]at A;omega
     omega
    have:i=l.length:=auD
    subst this;rw[avr,avl (auW _),axt]at h1;simp at h1;subst h1;exact⟨off,avt _,Fj⟩
   have qj:=QQ bi gW r cm x _ _ (off+1) g_ kz O Z5 Z6 cD.2 Ge bx aoq;simpa using qj
  exact QQ bi gW r cm x c l (off+1) G hs O Z5 Z6 cD.2 J hc (λi s h0 h1 A=>by
   obtain⟨j,ad,Z⟩:=hinv i s h0 h1 A
   exact⟨j,by omega,Z⟩)
end
theorem aor(bi:Bool){n:U}(cD:rk n)(h0:n.kind=0):tn (Gj bi n):=by refine Z4 bi n n (cT bi n) ⟨1,1,0⟩ [cT bi n] (.zd h0) ?_ rfl cD rfl ?_ ?_;intro i s hi hs;rw[au0 auE]at hs;cases hs;refine⟨rfl,?_,?_⟩;simp[bM,aK.c_,cT,h0];simp[ef,cT];intro i s hi hs;rw[au0 auE]at hs;cases hs
theorem aos:∀a,a<120->(32:UInt8)∉Lib.decDigits a/\(59:UInt8)∉Lib.decDigits a:=by decide +kernel
theorem aot:∀k,k<100->(59:UInt8)∉jg k:=by decide +kernel
theorem QR(h:(59:UInt8)∉s):Lib.hasSuffix s [59,49]=false:=by cases hs:Lib.hasSuffix s [59,49]with|false=>rfl|true =>rw[Lib.hasSuffix,aw']at hs;obtain⟨t,rfl⟩:=hs;exact absurd auF h
variable{l:List aK}
theorem ft.Z7{bi:Bool}{n:U}(h:ft bi n l):∀(j:Nat) (s:aK),(ef l)[j]?=some s->s.mno=j+1:=by induction h with|zd h0 =>intro j s hs;(have e:ef [cT bi n]=[]:=by simp[ef,cT]);rw[e]at hs;simp at hs|@wg l t p h a1 aV =>intro j s hs;(cases O:t.mv with|false=>rw[Qs O]at hs;exact aV j s hs|true =>rw[Zx O]at hs;rcases au6 j (ef l).length with ad|ad;rw[au3 ad]at hs;exact aV j s hs;rcases au6 (ef l).length j with aS|aS;rw[au0 auE]at hs;cases hs;(have:j=(ef l).length:=by omega);subst this;rw[awN]at hs;cases hs;exact a1.mno)
structure aou (bi:Bool) (n:U) (V:List aK) (s:aK):Prop where
 fi:s.fi<=(bM V).length
 bc:s.c_=true->∃q,(bM V)[q]?=some s/\s.di=q+1
 atW:s.mv=true->s.c_=true
 name:∃p j m bL bY,xI p s j/\p.di=s.fi/\(cT bi n::V)[p.si]?=some p/\p.c_=true/\(cd 0 p.n.F)[j]?=some m/\nO m (s.n.kind==0) bL bY/\(if s.mv then s.file else s.id)=wm m (s.c_&&!s.mv)/\(p.di=0->p=cT bi n)
variable{j:Nat}
theorem aov{s p:aK}{m:auM}(Z:xI p s j)(hm:(cd 0 p.n.F)[j]?=some m)(M:nO m (s.n.kind==0) bL bY):(if s.mv then s.file else s.id)=wm m (s.c_&&!s.mv):=by obtain⟨_,u_,tX,h1,A⟩:=Z;rw[hm]at tX;cases tX;cases X:s.mv with|true=>rw[auO rfl,A,M.file.ident];simp|false=>rw[auN auG,h1,M.ident];simp[aK.c_]
theorem Kt{bi:Bool}{n:U}{V:List aK}(ar:gZ n)(G:ft bi n (cT bi n::V))(hs:tn (cT bi n::V)){s:aK}(hT:s∈V):aou bi n V s:=by obtain⟨t,ax⟩:=avd.1 hT;have h1:(cT bi n::V)[t+1]?=some s:=ax;(have Ba:(cT bi n).c_=true:=by rw[aK.c_,cT,G.kind];rfl);(have uN:bM (cT bi n::V)=cT bi n::bM V:=by rw[bM,avJ,auO Ba];rfl);obtain⟨p,a1,aw,bg⟩:=G.dp (Nat.succ_pos t) h1;obtain⟨BZ,j,zX,qu,j7,Z,_⟩:=hs (t+1) s (Nat.succ_pos t) h1;rw[aw]at zX;cases zX;have Z8:=G.si aw;have aow:=(G.QN ar _ _ aw).1;obtain⟨hF,_,_,xi⟩:=(sc p.n).1 aow;have fv:=Z;obtain⟨Du,m,hm,gb,atX⟩:=fv;(have rK:j<p.n.F.length:=by rcases au6 j p.n.F.length with h|h;exact h;rw[au0 h]at Du;cases Du);obtain⟨bL,bY,M⟩:=Zn hF (λk Z=>(q6 xi Z).1.1) rK;(have sY:(cd 0 p.n.F)[j]'(by rw[om];exact rK)=m:=by rw[auR (by rw[om];exact rK)]at hm;exact avB hm);(have s8:p.n.F[j]=s.n:=by rw[auR rK]at Du;exact avB Du);rw[sY,s8]at M;refine⟨?_,λO=>?_,λgu=>?_,p,j,m,bL,bY,Z,a1.fi.symm,by rw[Z8];exact aw,qu,hm,M,aov Z hm M,λh0=>?_⟩;have:=G.Kj s (au5 h1);rw[uN]at this;simpa[Nat.lt_succ_iff]using this;obtain⟨wh,_⟩:=G.A9 (by rw[G.si h1];exact h1) O;rw[uN]at wh;(have h0:s.di≠0:=by have:=(G.lv _ _ h1).2.2.2 (Nat.succ_pos t) O;omega);obtain⟨q,I⟩:∃q,s.di=q+1:=⟨s.di-1,by omega⟩;rw[I]at wh;exact⟨q,wh,I⟩;have aa:=a1.mv;rw[gu]at aa;(cases h:s.c_ with|true=>rfl|false=>rw[h]at aa;cases aa);obtain⟨wk,_⟩:=G.A9 (by rw[Z8];exact aw) qu;rw[h0,uN]at wk;exact(avB wk).symm
theorem aox(m:auM):Lib.hasSuffix (m++[46,59,49]) [59,49]=true:=by have:=JB (m++[46]) [59,49];simpa using this
structure Z9 (D:List eE) (e:gf):Prop where
 eW:0<=e.eW/\e.eW<D.length
 bc:-1<=e.bc/\e.bc<D.length
 atY:Lib.hasSuffix e.id [59,49]=decide (e.bc<0)
 atZ:0<=e.bc->∃d,D[e.bc.toNat]?=some d/\d.cv=e.eW/\d.id=e.id/\d.path=e.path
theorem aoy{bi:Bool}{n:U}{V:List aK}(ar:gZ n)(G:ft bi n (cT bi n::V))(hs:tn (cT bi n::V))(hT:V.length<100):
  ∀e∈qr (jg (lN (cd 0 n.F))) V,Z9 (ko (jg (lN (cd 0 n.F))) V) e:=by
 intro e aq;obtain⟨hF,_,_,_⟩:=(sc n).1 ar;obtain⟨AE,qO,_⟩:=Pu (gq:=cd 0 n.F) (by rw[om];exact hF);have aj:=QL (jg (lN (cd 0 n.F))) V
 have Bb:∀i,e∈lf (eF V) V i->Z9 (ko (jg (lN (cd 0 n.F))) V) e:=λi h=>by
  obtain⟨s,dn,rfl⟩:=au_.1 h;obtain⟨wl,_⟩:=avy.1 dn;obtain⟨j7,vS,uL,p,j,m,bL,bY,Z,wk,aw,qu,hm,vY,QS,uJ⟩:=Kt ar G hs wl;have pp:h' (eF V) s.fi<1+eF V+(bM V).length:=by unfold h';split<;>omega
  have gb:(s.kM (eF V)).id=wm m (s.c_&&!s.mv):=QS;refine⟨⟨axl _,by rw[aj];exact aw8.2 pp⟩,?_,?_,?_⟩
  ·show -1<=(if(s.c_&&!s.mv)=true then((h' (eF V) s.di:Nat):Int)else -1)/\(if(s.c_&&!s.mv)=true then((h' (eF V) s.di:Nat):Int)else -1)<_;split
   ·rename_i h1;rw[auQ]at h1;obtain⟨q,I,xJ⟩:=vS h1.1
    have lA:q<(bM V).length:=by
     rcases au6 q (bM V).length with h|h
     ·exact h
     rw[au0 h]at I;cases I
    rw[xJ,aj,h',auN auD];omega
   omega
  ·rw[gb];show _=decide ((if(s.c_&&!s.mv)=true then((h' (eF V) s.di:Nat):Int)else -1)<0)
   cases O:(s.c_&&!s.mv)with
   |true =>
    rw[auO rfl,avw auD,wm,auO rfl];exact QR vY.aoo
   |false =>
    rw[auN auG,avP auG,aon];split
    ·exact JB m [59,49]
    exact aox m
  intro h0
  have h1:(s.c_&&!s.mv)=true:=by
   cases O:(s.c_&&!s.mv)with
   |true=>rfl
   |false =>
    have:(s.kM (eF V)).bc=-1:=by show(if(s.c_&&!s.mv)=true then _ else _)=_;rw[O];rfl
    omega
  have GP:(s.kM (eF V)).bc=((h' (eF V) s.di:Nat):Int):=by show(if(s.c_&&!s.mv)=true then _ else _)=_;rw[auO h1]
  rw[auQ]at h1;have gu:s.mv=false:=by simpa using h1.2
  obtain⟨q,I,xJ⟩:=vS h1.1;refine⟨s.jz (eF V),by rw[GP,avq,xJ];exact Kq I,?_,?_,rfl⟩
  ·simp[aK.jz,aK.kM,gu]
  simp[aK.jz,aK.kM,gu]
 rw[qr]at aq;rcases avf.1 aq with aq|aq
 ·rcases avf.1 aq with aq|aq
  ·rcases avf.1 aq with aq|aq
   ·split at aq
    ·cases aq
    rename_i h1;rw[avs]at aq;subst aq
    have iG : eF V = 1 := by rcases Kp V with h|h;· exact absurd h h1
                             exact h
    refine⟨⟨avK _,by rw[aj];show(0:Int)<_;omega⟩,⟨by show(-1:Int)<=1;decide,by rw[aj,iG];show(1:Int)<_;omega⟩,?_,λ_=>⟨_,Kr iG,rfl,rfl,rfl⟩⟩;show Lib.hasSuffix (jg (lN (cd 0 n.F))) [59,49]=_;rw[QR (aot _ AE)];rfl
   exact Bb 0 aq
  obtain⟨s,dn,rfl⟩:=au_.1 aq;obtain⟨wl,gu⟩:=avy.1 dn;obtain⟨j7,vS,uL,_⟩:=Kt ar G hs wl;obtain⟨q,I,xJ⟩:=vS (uL gu)
  have lA:q<(bM V).length:=by
   rcases au6 q (bM V).length with h|h
   ·exact h
   rw[au0 h]at I;cases I
  have iG:=Z0 wl gu;have hm:ef (cT bi n::V)=ef V:=by rw[ef,avJ,auN (by simp[cT])];rfl
  obtain⟨i,hi⟩:=avd.1 dn;have fx:=G.Z7 i s (by rw[hm];exact hi)
  have c1:i<(ef V).length:=by
   rcases au6 i (ef V).length with h|h
   ·exact h
   rw[au0 h]at hi;cases hi
  have gs:(ef V).length<=V.length:=avn _ _;have GP:(s.ou (eF V)).bc=((h' (eF V) s.di:Nat):Int):=rfl;refine⟨⟨by show(0:Int)<=1;decide,by rw[aj,iG];show(1:Int)<_;omega⟩,⟨by rw[GP];omega,?_⟩,?_,λ_=>⟨s.jz (eF V),by rw[GP,avq,xJ];exact Kq I,?_,?_,rfl⟩⟩
  ·rw[GP,xJ,aj,h',auN auD];omega
  ·show Lib.hasSuffix (68::Lib.decDigits s.mno) [59,49]=decide (((h' (eF V) s.di:Nat):Int)<0);rw[QR,avw auD];intro h;rcases au8.1 h with h|h
   ·cases h
   exact(aos _ auD).2 h
  ·simp[aK.jz,aK.ou,gu]
  simp[aK.jz,aK.ou,gu]
 obtain⟨i,_,aq⟩:=awD.1 aq;exact Bb _ aq
end Go.bV.ct

namespace Go.bV.ct
open Go Go.Proofs
theorem Z_{n:U}{m:auM}(h:n.name=m):n.named m=n:=by cases n;subst h;rfl
def dy:U->List auM->U->U
 |_,[],x=>x
 |n,m::q,x=>{n with F:=n.F.map λk=>if k.name=m then dy k q x else k}
theorem Ku:∀(q:List auM) (n x y:U),dw n q=some y->x.name=y.name->(dy n q x).name=n.name
 |[],n,x,y,h,e=>by simp only[dw,avi]at h;subst h;exact e
 |m::q,n,x,y,h,e=>rfl
theorem Z':∀(q:List auM) (n y:U),gZ n->dw n q=some y->dy n q y=n
 |[],n,y,ar,h=>by simp only[dw,avi]at h;exact h.symm
 |m::q,n,y,ar,h=>by obtain⟨k,Z,rfl,I⟩:=vW.1 ((s' _ n ar).2 ⟨y,h⟩);rw[yV (lI ar) Z rfl]at h;have aV:=Z' q k y (uy ar Z) h;(have e:(n.F.map λQ=>if Q.name=k.name then dy Q q y else Q)=n.F:=by(conv=>rhs;rw[<-List.map_id' n.F]);refine avM λQ bn=>?_;by_cases wn:Q.name=k.name;have:=ux (lI ar) bn Z wn;subst this;rw[auO rfl,aV];rw[auN wn]);simp only[dy,e];cases n;rfl
theorem aoz(f:U->U)(M:∀k,(f k).name=k.name):∀(ae:List U) (k:U),f3 ae->k∈ae->(∀Q∈ae,Q≠k->f Q=Q)->eD (ae.map f)+aB k=eD ae+aB (f k):=by intro ae k hi Z bn;have aZ:ae.Pairwise λa b=>a.name≠b.name:=avU.2 λi j ls ad d6=>q2 (pI hi d6 ad);clear hi;induction ae with|nil=>cases Z|cons x r aV =>rw[List.pairwise_cons]at aZ;simp only[avc,eD,M];by_cases e:x=k;subst e;(have:r.map f=r:=by(conv=>rhs;rw[<-List.map_id' r]);refine avM λQ iH=>bn Q (auZ _ iH) λe=>?_;subst e;exact aZ.1 Q iH rfl);rw[this];omega;(have fv:k∈r:=by rcases au8.1 Z with h|h;exact absurd h.symm e;exact h);have:=aV fv (λQ iH=>bn Q (auZ _ iH)) aZ.2;rw[bn x auY e];omega
theorem aaa:∀(q:List auM) (n x y:U),gZ n->dw n q=some y->x.name=y.name->aB (dy n q x)+aB y=aB n+aB x
 |[],n,x,y,ar,h,e=>by simp only[dw,avi]at h;subst h;simp only[dy];omega
 |m::q,n,x,y,ar,h,e=>by obtain⟨k,Z,rfl,I⟩:=vW.1 ((s' _ n ar).2 ⟨y,h⟩);rw[yV (lI ar) Z rfl]at h;have aV:=aaa q k x y (uy ar Z) h e;have kY:=Ku q k x y h e;(have vy:(n.F.map λQ=>if Q.name=k.name then dy Q q x else Q)=n.F.map λQ=>if Q.name=k.name then(dy Q q x).named Q.name else Q:=by refine avM λQ bn=>?_;by_cases wn:Q.name=k.name;have:=ux (lI ar) bn Z wn;subst this;rw[auO rfl,auO rfl,Z_ kY];rw[auN wn,auN wn]);have h1:=aoz (λQ=>if Q.name=k.name then(dy Q q x).named Q.name else Q) (λQ=>by split<;>rfl) n.F k (lI ar) Z λQ bn aZ=>auN λe=>aZ (ux (lI ar) bn Z e);rw[auO rfl,Z_ kY]at h1;have A:=j8 n;have aa:=j8 (dy n (k.name::q) x);have aF:(dy n (k.name::q) x).F=n.F.map λQ=>if Q.name=k.name then dy Q q x else Q:=rfl;have a8:(dy n (k.name::q) x).cU=n.cU/\(dy n (k.name::q) x).target=n.target/\(dy n (k.name::q) x).bD=n.bD:=⟨rfl,rfl,rfl⟩;rw[aF,vy,a8.1,a8.2.1,a8.2.2]at aa;omega
variable{B:World}{α rQ:Type}{i:Nat}
theorem aoA(g:α->rQ)(l:List α)(h:i<l.length):(l.take i).map g++[g l[i]]=(l.take (i+1)).map g:=by rw[auU h,avo];rfl
theorem aab(n x:U)(m:Nat)(hm:m<n.F.length)(aq:n.F[m].name=x.name)(kE:f3 n.F)(Z:n.F.length<10000000):aT B 97 [az n,az x] (az (dy n [x.name] x)):=by refine bB Tryz.func97 Tryz.ntmps97 λW=>?_;refine cc ?_;intro ca;(conv=>whnf);intro el;(conv=>whnf);intro cJ;refine cc ?_;refine⟨ak,?_⟩;apply b1;refine mT ?_;generalize M:(λk:U=>if k.name=x.name then x else k)=f;(have dg:(n.F.map f).length=n.F.length:=by simp);refine Y.own 5 1000 12 44 rfl (λw=>?_);refine Y.ee (α:={i:Nat // i<=n.F.length}×Value) (λQ=>[(2,.box 2 ca 0),(3,.box 3 el 0),(4,.box 4 cJ 0),(5,.T (.own 1000 Q.2) 12 (((n.F.map f).take Q.1.1).map az)),(6,.bool (decide (m<Q.1.1))),(7,u Q.1.1)]) (λQ=>[(2,.box ca [.N n.name,u n.kind,.N n.cU,.N n.target,u n.cu,u n.n2,u n.n3,u n.n4,u n.n5,u n.n6,.T .none 12 (n.F.map enc),.T .none 2 (n.bD.map cW)]),(3,.box el [.N x.name,u x.kind,.N x.cU,.N x.target,u x.cu,u x.n2,u x.n3,u x.n4,u x.n5,u x.n6,.T .none 12 (x.F.map enc),.T .none 2 (x.bD.map cW)]),(4,.box cJ [.N [],u 0,.N [],.N [],u 0,u 0,u 0,u 0,u 0,u 0,.bd,.bd]),(1000,.own Q.2 (((n.F.map f).take Q.1.1).map az).length 12 44)]) (λQ=>n.F.length-Q.1.1) (⟨0,au7 _⟩,w) [(2,2),(3,3),(4,4),(1000,1000)] ⟨an,rfl,a_⟩ ?_;rintro⟨⟨i,hi⟩,w⟩;dsimp only at hi⊢;refine oK ?_;refine aI _ rfl ?_ ?_<;>intro hc;refine eY ?_;(have aG:i<n.F.length:=by simpa using hc);(have j7:(n.F.map f)[i]'(by rw[dg];exact aG)=f n.F[i]:=by simp);(have Kv:f n.F[i]=if n.F[i].name=x.name then x else n.F[i]:=by rw[<-M]);have oG:=aoA az (n.F.map f) (i:=i) (by rw[dg];exact aG);rw[j7]at oG;(have bg:i<m->Op.bytesLess n.F[i].name x.name=true:=λh=>by rw[<-aq];exact pI kE h hm);(have ii:i=m->n.F[i].name=x.name:=λh=>by subst h;exact aq);(have aZ:n.F[i].name=x.name->i=m:=λh=>by rcases awX i m with l|l|l;exact absurd h (q2 (bg l));exact l;have:=pI kE l aG;rw[aq,<-h,Ao]at this;cases this);refine jJ ?_;refine Y.k0 (α:=Value) (λw=>[(2,.box 2 ca 0),(3,.box 3 el 0),(4,.box 4 cJ 0),(5,.T (.own 1000 w) 12 (((n.F.map f).take i).map az++(if i=m then[az x]else[]))),(6,.bool (decide (m<i+1))),(7,u i)]) (λw=>[(2,.box ca [.N n.name,u n.kind,.N n.cU,.N n.target,u n.cu,u n.n2,u n.n3,u n.n4,u n.n5,u n.n6,.T .none 12 (n.F.map enc),.T .none 2 (n.bD.map cW)]),(3,.box el [.N x.name,u x.kind,.N x.cU,.N x.target,u x.cu,u x.n2,u x.n3,u x.n4,u x.n5,u x.n6,.T .none 12 (x.F.map enc),.T .none 2 (x.bD.map cW)]),(4,.box cJ [.N [],u 0,.N [],.N [],u 0,u 0,u 0,u 0,u 0,u 0,.bd,.bd]),(1000,.own w (((n.F.map f).take i).map az++(if i=m then[az x]else[])).length 12 44)]) ?_ ?_;refine mQ ?_;refine h6 ?_;refine hd ?_;refine nn ?_;refine hd ?_;refine⟨az n.F[i],λh=>lx aG,?_⟩;refine h6 ?_;refine no ?_;refine aI _ rfl ?_ ?_<;>intro hc;(have xK:i=m:=by by_cases h0:m<i;simp[h0]at hc;by_cases h1:i<m;have A:=bg h1;simp[h0,A]at hc;omega);refine kB ?_;refine mm ?_;refine⟨by show(_+_)*_<=_;simp;omega,by show _+_<=_;simp;omega,auK,λv=>?_⟩;refine lZ ?_;exact⟨v,[(2,2),(3,3),(4,4),(1000,32)],⟨E,E,E,ap.i' (by rw[auO xK];rfl),ap.of_eq (auP D.bool auE),E,ak⟩,rfl,rfl,rfl,rfl,rfl,rfl,rfl,rfl,jq (by rw[auO xK,auV];rfl),ak⟩;(have xK:¬i=m:=λh=>by have h1:=ii h;rw[h1,Ao]at hc;simp[h]at hc);refine eY ?_;exact⟨w,[(2,2),(3,3),(4,4),(1000,1000)],⟨E,E,E,ap.i' (by rw[auN xK,avC]),ap.of_eq (auP D.bool (by rw[decide_eq_decide];omega)),E,ak⟩,rfl,rfl,rfl,rfl,rfl,rfl,rfl,rfl,jq (by rw[auN xK,avC]),ak⟩;rintro w;refine mQ ?_;refine k2 ?_;refine⟨az n.F[i],λ_=>lx aG,?_⟩;apply cj;refine aI _ rfl ?_ ?_<;>intro hc;(have De:¬n.F[i].name=x.name:=by simpa using hc);have xK:¬i=m:=λh=>De (ii h);rw[auN De]at Kv;rw[Kv]at oG;rw[auN xK,avC];apply jH;refine k2 ?_;refine⟨az n.F[i],λ_=>lx aG,?_⟩;(conv=>whnf);refine mm ?_;refine⟨by show(_+_)*_<=_;simp;omega,by show _+_<=_;simp;omega,auK,λv=>?_⟩;refine ml ?_;exact⟨(⟨i+1,aG⟩,v),[(2,2),(3,3),(4,4),(1000,49)],ay',⟨E,E,E,ap.i' oG,E,E,ak⟩,rfl,rfl,rfl,rfl,rfl,rfl,rfl,rfl,jq (by rw[<-oG,auV];rfl),ak⟩;(have De:n.F[i].name=x.name:=by simpa using hc);have xK:i=m:=aZ De;rw[auO De]at Kv;rw[Kv]at oG;rw[auO xK,oG];refine qJ ?_;exact⟨(⟨i+1,aG⟩,w),[(2,2),(3,3),(4,4),(1000,1000)],ay',an,rfl,a_⟩;refine vf ?_;(have cr:i=n.F.length:=by simp at hc;omega);(have aoB:decide (m<i)=true:=by simp;omega);rw[aoB];refine gj ?_;refine aI _ rfl ?_ ?_<;>intro hc;cases hc;apply ci;refine gK ?_;refine gK ?_;apply cj;apply x6;refine ej ?_;refine ap.agg ⟨E,E,E,E,E,E,E,E,E,E,?_,E,ak⟩;(have e:((n.F.map f).take i).map az=(dy n [x.name] x).F.map enc:=by rw[ave (by rw[dg];omega),<-M,show enc=az from funext qK];rfl);rw[e];exact ap.mf
theorem aoC{n k x:U}{q:List auM}(hi:f3 n.F)(Z:k∈n.F)(hy:(dy k q x).name=k.name):dy n [(dy k q x).name] (dy k q x)=dy n (k.name::q) x:=by rw[hy];show({n with F:=n.F.map λQ=>if Q.name=k.name then dy k q x else Q}:U)={n with F:=n.F.map λQ=>if Q.name=k.name then dy Q q x else Q};(have e:(n.F.map λQ=>if Q.name=k.name then dy k q x else Q)=n.F.map λQ=>if Q.name=k.name then dy Q q x else Q:=by refine avM λQ bn=>?_;by_cases wn:Q.name=k.name;have:=ux hi bn Z wn;subst this;rfl;rw[auN wn,auN wn]);rw[e]
theorem aac{n x:U}:∀{q:List auM},(dy n (q++[x.name]) x).name=n.name
 |[]=>rfl
 |m::q=>rfl
theorem aoD(x:U):∀(bA:Nat) (q:List auM) (n:U),q.length<bA->gZ n->q++[x.name]∈k' n->ev n->aT B 71 [az n,.T .none 1 (aQ q),az x] (az (dy n (q++[x.name]) x)):=by refine λbA=>Nat.rec (λq n h=>absurd h (av_ _)) (λbA aV q n hN ar I M=>?_) bA;have eK:n.F.length<=64:=((sc n).1 ar).1;refine bB Tryz.func71 Tryz.ntmps71 λW=>?_;refine cc ?_;intro el;(conv=>whnf);intro cF;(conv=>whnf);intro dW;refine gj ?_;refine aI _ rfl ?_ ?_<;>intro hc;have EQ:q=[]:=au1 (by simpa[aQ]using hc);subst EQ;obtain⟨k,Z,e,_⟩:=vW.1 (show x.name::[]∈k' n from I);obtain⟨m,hm,rfl⟩:=avm.1 Z;refine gK ?_;refine ej ?_;refine⟨[az n,az x],_,λ_=>aab n x m hm e (lI ar) auD,an,?_⟩;apply cj;apply x6;refine ej ?_;exact E;apply ci;apply eh;(obtain⟨m,r,rfl⟩:∃m r,q=m::r:=by cases q with|nil=>simp[aQ]at hc|cons m r=>exact⟨m,r,rfl⟩);obtain⟨k,Z,e,rD⟩:=vW.1 (show m::(r++[x.name])∈k' n from I);(obtain⟨j,ad,h1,A⟩:∃(j:Nat) (h:j<n.F.length),q1 n m=j/\h9 m n.F=some n.F[j]:=by rcases F5 n m with⟨_,h⟩|h;have:=W7 (lI ar) Z;rw[e,h]at this;cases this;exact h);have u7:=(F3 A).2;have Du:k=n.F[j]:=ux (lI ar) Z (auT ad) (e.trans u7.symm);rw[Du]at rD;refine Y.tL aN mixed auI ?_;refine ej ?_;refine⟨λ_=>by simp[aQ],?_⟩;refine wQ (.N m) ?_;(conv=>whnf);refine⟨[az n,.N m],_,λ_=>Nv n m M,an,?_⟩;(conv=>whnf);rw[h1];apply eh;refine Y.zI aN 10 mixed auI ?_;apply cj;refine k2 ?_;refine⟨az n.F[j],λ_=>lx ad,?_⟩;(conv=>whnf);refine⟨λ_=>by simp[aQ];omega,?_⟩;refine ej ?_;refine⟨[az n.F[j],.T .none 1 (aQ r),az x],_,λ_=>aV r n.F[j] (by simp at hN;omega) (uy ar (auT ad)) rD (Xa M (auT ad)),⟨E,ap.of_eq (auP (D.T _ 1) (by simp[aQ];exact ave auF)),E,ak⟩,?_⟩;(conv=>whnf);refine⟨[az n,az (dy n.F[j] (r++[x.name]) x)],_,λ_=>aab n (dy n.F[j] (r++[x.name]) x) j ad aac.symm (lI ar) auD,an,?_⟩;apply cj;apply x6;refine ej ?_;rw[aoC (lI ar) (auT ad) aac,u7];exact E
theorem aad:∀(q:List auM) (n d:U) (l:Int),gB n l=true->dw n q=some d->∃h7,gB d h7=true
 |[],n,d,l,h,aS=>by simp only[dw,avi]at aS;subst aS;exact⟨l,h⟩
 |m::q,n,d,l,h,aS=>by simp only[dw]at aS;cases M:h9 m n.F with|none=>rw[M]at aS;cases aS|some k =>rw[M]at aS;exact aad q k d (l+1) (Wt (vR h).2 k (F3 M).1) aS
theorem Kw:∀(q r:List auM) (n:U),dw n (q++r)=(dw n q).bind λd=>dw d r
 |[],r,n=>rfl
 |m::q,r,n=>by simp only[avQ,dw];cases h9 m n.F with|none=>rfl|some k=>exact Kw q r k
def Bc(ck:U):U×Int:=if(oR ck).2=0 then(ck,0)else(q9,(oR ck).2)
theorem aoE(n x:U)(q:List auM)(X:valid n=true)(M:ev n)(aw:q++[x.name]∈k' n)(aoF:ev (dy n (q++[x.name]) x)):aT B 25 [az n,.N (ew q),az x] (.bm [az (Bc (dy n (q++[x.name]) x)).1,u (Bc (dy n (q++[x.name]) x)).2]):=by have ar:=q8 X;obtain⟨Q,bn⟩:=(s' _ n ar).1 aw;rw[Kw]at bn;obtain⟨d,O,BF⟩:=aw0.1 bn;have xJ:=(s' q n ar).2 ⟨d,O⟩;have zi:=vX q n ar xJ;(have eJ:dr n (ew q)=(d,0):=by rw[AL zi,O]);have rK:=Xd xJ;have aoG:=M;unfold ev at aoG;(have NE:d.kind=0:=by have aae:=X;rw[q7,auQ]at aae;obtain⟨h7,aS⟩:=aad q n d 1 aae.2 O;by_cases h0:d.kind=0;exact h0;have:=(vR aS).1.bc h0;simp only[dw,this,h9,List.find?_nil]at BF;cases BF);refine bB Tryz.func25 Tryz.ntmps25 λW=>?_;refine cc ?_;intro el;(conv=>whnf);intro cF;(conv=>whnf);intro dW;refine kB ?_;refine⟨[az n,.N (ew q)],.bm [az d,u 0],λ_=>by have:=Xb (B:=B) n (ew q) M X auD;rw[eJ]at this;exact this,an,?_⟩;(conv=>whnf);intro cG;apply cj;refine gj ?_;refine aI _ rfl ?_ ?_<;>intro hc;cases hc;apply ci;refine oK ?_;refine aI _ rfl ?_ ?_<;>intro hc;rw[NE]at hc;cases hc;apply ci;refine cc ?_;refine oJ ?_;refine Y.k0 (α:=Unit) (λ_=>[(3,.box 3 el 0),(5,.box 5 cF 0),(6,.box 6 dW 0),(10,.T .none 1 (aQ q))]) (λ_=>[(3,.box el [.N n.name,u n.kind,.N n.cU,.N n.target,u n.cu,u n.n2,u n.n3,u n.n4,u n.n5,u n.n6,.T .none 12 (n.F.map enc),.T .none 2 (n.bD.map cW)]),(5,.box cF [.N x.name,u x.kind,.N x.cU,.N x.target,u x.cu,u x.n2,u x.n3,u x.n4,u x.n5,u x.n6,.T .none 12 (x.F.map enc),.T .none 2 (x.bD.map cW)]),(6,.box dW [.N [],u 0,.N [],.N [],u 0,u 0,u 0,u 0,u 0,u 0,.bd,.bd])]) ?_ ?_;apply b1;refine aI _ rfl ?_ ?_<;>intro hc;refine lZ ?_;refine⟨[.N (ew q),.int .u8 47],_,λ_=>Nj (ew q) 47 auD,an,?_⟩;(conv=>whnf);(have aZ:q≠[]:=λh=>by subst h;simp[ew]at hc);rw[Jk zi aZ];exact⟨(),[(3,3),(5,5),(6,6)],an,rfl,a_⟩;refine eY ?_;have aZ:q=[]:=(Jj zi).1 (by simpa using hc);subst aZ;exact⟨(),[(3,3),(5,5),(6,6)],⟨E,E,E,ap.dZ,ak⟩,rfl,a_⟩;rintro⟨⟩;refine gK ?_;refine ej ?_;refine⟨[az n,.T .none 1 (aQ q),az x],_,λ_=>aoD x _ q n (avt _) ar aw M,an,?_⟩;(conv=>whnf);generalize hO:dy n (q++[x.name]) x=cL at*;intro yP;apply cj;refine vi ?_;refine⟨[az cL],_,λ_=>UE cL aoF,an,?_⟩;apply b1;refine aI _ rfl ?_ ?_<;>intro hc;refine gK ?_;refine hz ?_;(have h0:¬(oR cL).2=0:=by simpa using hc);(have hE:Bc cL=(q9,(oR cL).2):=by rw[Bc,auN h0]);rw[hE];refine ej ?_;exact⟨FU,E,ak⟩;apply ci;refine gK ?_;apply cj;refine hz ?_;(have h0:(oR cL).2=0:=by simpa using hc);(have hE:Bc cL=(cL,0):=by rw[Bc,auO h0]);rw[hE];refine ej ?_;exact an
theorem QT{n:U}{l:Int}(h:one n l=0):vC n l=0/\vD n l=0/\vE n=0/\vF n=0/\vG n=0/\nz n l=0:=by
 unfold one at h;simp only[hh,eV]at h
 repeat' split at h
 all_goals first|exact⟨by assumption,by assumption,by assumption,by assumption,by assumption,by assumption⟩|(exact absurd h (by assumption))
variable{s:auM}
theorem Kx(h:dS s=true):s.length<=256:=by unfold dS at h;split at h;cases h;unfold chars at h;split at h;simp at h;cases hc:ju s with|none=>rw[hc]at h;simp at h|some l =>rw[hc]at h;have:=Cf s.length s (auW _) l hc;simp at h;omega
theorem aoH(h:k7 s=true):s.length<=128:=by unfold k7 at h;split at h;cases h;omega
theorem Ky{x a b:Int}(h:s0 x a b=true):a<=x/\x<=b:=by unfold s0 at h;simp at h;omega
theorem Kz{n:U}{l:Int}(aj:1<=l)(h:one n l=0):xx n/\n.name.length<=256/\n.target.length<=128/\n.F.length<=64/\(1<l->dS n.name=true):=by obtain⟨h1,A,aa,aF,a8,cN⟩:=QT h;(have cP:t8 n l=false:=by unfold vC at h1;split at h1<;>simp_all);(have d0:t_ n l=false:=by unfold vD at A;split at A<;>simp_all);(have nx:t' n=false:=by unfold vE at aa;split at aa<;>simp_all);(have w7:ua n=false:=by unfold vF at aF;split at aF<;>simp_all);(have uc:r5 n=false:=by unfold vG at a8;split at a8<;>simp_all);(have Fh:r6 n l=false:=by unfold nz at cN;split at cN<;>simp_all);unfold t8 at cP;unfold t_ at d0;unfold t' at nx;unfold ua at w7;unfold r5 at uc;unfold r6 at Fh;simp only[awe,awg,awB,awj]at cP d0 nx w7 uc Fh;have rI:=Ky uc.1.1.1.1.1;have Fo:=Ky uc.1.1.1.1.2;have at0:=Ky uc.1.1.1.2;have at1:=Ky uc.1.1.2;(have iq:1<l->dS n.name=true:=λnw=>by rcases d0.2 with h|h;exact absurd nw h;exact h);(have ky:n.name.length<=256:=by rcases Int.lt_or_le 1 l with nw|nw;exact Kx (iq nw);(have:l=1:=by omega);subst this;rcases d0.1 with h|h;simp at h;(have:n.name=[]:=by simpa using h);rw[this];simp);(have u3:n.target=[]\/k7 n.target=true:=by rcases w7 with h|h;rcases nx.1.2 with bt|bt;rw[h]at bt;cases bt;exact .inl (by simpa using bt);exact .inr h);(have i7:n.target.length<=128:=by rcases u3 with h|h;rw[h];simp;exact aoH h);(have eK:n.F.length<=64:=by omega);exact⟨⟨by omega,by omega,by omega,by omega,by omega,by omega,by omega,by omega,by omega,by omega,u3,by omega,by omega,by omega⟩,ky,i7,eK,iq⟩
theorem aaf:∀{ae:List U} {l:Int},jT ae l=true->∀k∈ae,gB k l=true
 |x::r,l,h,k,Z=>by rw[jT,auQ]at h;rcases au8.1 Z with e|e;subst e;exact h.1;exact aaf h.2 k e
theorem aoI{n k:U}{l:Int}(h:gB n l=true)(Z:k∈n.F):gB k (l+1)=true:=by rw[xj,auQ]at h;exact aaf h.2 k Z
theorem KA{n:U}{l:Int}(h:gB n l=true):one n l=0:=by rw[xj,auQ]at h;simpa using h.1
theorem aoJ(q:List auM)(m:auM):ew (q++[m])=if q=[]then m else ew q++[47]++m:=by cases q with|nil=>simp[ew,kj]|cons a r =>rw[auN auF];(have:∀(r:List auM),kj (r++[m])=kj r++47::m:=λr=>by induction r with|nil=>simp[kj]|cons a r aV=>simp[kj]);simp[ew,this]
variable{l:List aK}
theorem ft.aag{bi:Bool}{n:U}(ar:gZ n)(aS:gB n 1=true)(G:ft bi n l):∀(i:Nat) (s:aK),l[i]?=some s->∃q,uz q/\s.path=ew q/\(q.length:Int)=s.lv-1/\dw n q=some s.n/\gB s.n s.lv=true:=by intro i;induction i using Nat.strongRecOn with|_ i aV =>intro s hs;rcases avA i with rfl|hi;rw[G.tk.1]at hs;cases hs;exact⟨[],(λm hm=>by cases hm),rfl,rfl,rfl,aS⟩;obtain⟨p,a1,aw,bg⟩:=G.dp hi hs;obtain⟨q,I,QU,lA,aoK,aoL⟩:=aV s.ab auD p aw;have fx:=(G.QN ar i s hs).2 hi;have KB:=(G.QN ar s.ab p aw).1;have GI:=a1.lv;refine⟨q++[s.n.name],λm hm=>?_,?_,by simp;omega,?_,?_⟩;rcases avf.1 hm with h|h;exact I m h;rw[avs]at h;rw[h];exact fx;rw[aoJ,a1.path,Go.bV.ct.below];by_cases h:q=[];rw[auO h,auO (by subst h;simp at lA;omega)];rw[auN h,auN (by have:=avY.2 h;omega),QU];rw[Kw,aoK];show dw p.n [s.n.name]=some s.n;rw[yV (lI KB) a1.Ql rfl];rfl;rw[GI];exact aoI aoL a1.Ql
theorem aah{α:Type}(g:auM->α):∀(bP:List auM) (m:List (auM×α)) (p:auM),co (bP.foldl (λm p=>fz m p (g p)) m) p=if p∈bP then some (g p)else co m p
 |[],m,p=>by simp
 |x::r,m,p=>by rw[awf,aah g r,y2];by_cases h:p∈r;rw[auO h,auO (auZ _ h)];rw[auN h];by_cases A:p=x;subst A;rw[auO rfl,auO auY];rw[auN A,auN (λhc=>by rcases au8.1 hc with aa|aa;exact A aa;exact h aa)]
theorem aoM{n:U}{p:auM}(h:p∈dq n [] 1):gr (fM (dr n) n (dq n [] 1)) p=(dr n p).1:=by unfold gr fM;rw[aah (λp=>(dr n p).1),auO h];rfl
theorem ft.gr{bi:Bool}{n:U}(ar:gZ n)(aS:gB n 1=true){l:List aK}(G:ft bi n l){i:Nat}{s:aK}(hs:l[i]?=some s):Go.bV.ct.gr (fM (dr n) n (dq n [] 1)) s.path=s.n/\gB s.n s.lv=true/\1<=s.lv:=by
 obtain⟨q,I,aw,aj,KC,ik⟩:=G.aag ar aS i s hs;have hm:q∈k' n:=(s' q n ar).2 ⟨_,KC⟩;have sa:s.path∈dq n [] 1:=by rw[F4,aw];exact List.mem_map_of_mem hm
 refine⟨?_,ik,by omega⟩;rw[aoM sa,aw,AL I,KC]
theorem KD{a b:auM}(h:iu a)(bt:iu b):iu (a++b):=λc hc=>by
 rcases avf.1 hc with e|e
 ·exact h c e
 exact bt c e
theorem aai{x:UInt8}{b:auM}(h:x.toNat<128)(bt:iu b):iu (x::b):=λc hc=>by
 rcases au8.1 hc with e|e
 ·subst e;exact h
 exact bt c e
theorem aoN:∀c:UInt8,q_ c=true->c.toNat<128:=by
 intro c h;have:∀n,n<256->q_ (UInt8.ofNat n)=true->n<128:=by decide +kernel
 have A:=this c.toNat c.toNat_lt (by rw[UInt8.ofNat_toNat];exact h);exact A
theorem QV{m:Int}(h:oo s m=true):iu s:=λc hc=>by
 simp only[oo,uv,auQ,avz]at h;exact aoN c (h.2.2.2 c hc)
variable{bL bY:auM}{bc:Bool}
theorem nO.QW{m:auM}(h:nO m bc bL bY):iu m:=by rcases h.eq with⟨_,A⟩|⟨_,_,aa,aF⟩;rw[A];exact QV h.a;rw[aF];exact KD (QV h.a) (aai auG (QV aa))
theorem aoO{m:auM}(h:nO m bc bL bY)(d:Bool):iu (wm m d)/\(wm m d).length<=15:=by have aj:=h.len;unfold wm;split;exact⟨h.QW,by omega⟩;split;exact⟨KD h.QW (by intro c hc;simp at hc;rcases hc with rfl|rfl<;>decide),by simp;omega⟩;exact⟨KD h.QW (by intro c hc;simp at hc;rcases hc with rfl|rfl|rfl<;>decide),by simp;omega⟩
theorem aaj:∀a,a<120->(Lib.decDigits a).length<=3/\∀c∈Lib.decDigits a,c.toNat<128:=by decide +kernel
variable{k:Nat}
theorem aoP(h:k<100):iu (jg k)/\(jg k).length<=9:=by have:=aaj k auD;unfold jg;split;exact⟨by intro c hc;simp at hc;rcases hc with rfl|rfl|rfl|rfl|rfl|rfl|rfl|rfl<;>decide,by decide⟩;refine⟨KD (by intro c hc;simp at hc;rcases hc with rfl|rfl|rfl|rfl|rfl|rfl<;>decide) this.2,?_⟩;simp;omega
variable{bs:auM}
theorem aak{V:List aK}{e:gf}(h:e∈qr bs V):(e=⟨[47],bs,0,1,true,false,false⟩)\/(∃s∈V,e=s.kM (eF V))\/(∃s∈ef V,e=s.ou (eF V)):=by(have Bb:∀i,e∈lf (eF V) V i->∃s∈V,e=s.kM (eF V):=λi h=>by obtain⟨s,hs,rfl⟩:=au_.1 h;exact⟨s,(avy.1 hs).1,rfl⟩);rw[qr]at h;rcases avf.1 h with h|h;rcases avf.1 h with h|h;rcases avf.1 h with h|h;split at h;cases h;rw[avs]at h;exact .inl h;exact .inr (.inl (Bb 0 h));obtain⟨s,hs,rfl⟩:=au_.1 h;exact .inr (.inr ⟨s,hs,rfl⟩);obtain⟨i,_,h⟩:=awD.1 h;exact .inr (.inl (Bb _ h))
structure KE (bi:Bool) (n:U) (D:List eE) (eu:List gf):Prop where
 J_:D.length<=103
 bJ:eu.length<=201
 he:∃d,D[0]?=some d
 Gm:∀d∈D,0<=d.cv/\d.cv<(D.length:Nat)
 J':∀e∈eu,0<=e.eW/\e.eW<(D.length:Nat)
 Ka:∀d∈D,d.id.length<=100/\iu d.id
 aoQ:∀e∈eu,e.id.length<=100/\iu e.id
 aal:∀e∈eu,e.C5=true->∃m:U,gr (fM (dr n) n (dq n [] 1)) e.path=m/\xx m/\dS m.name=true/\m.name.length<=256/\m.target.length<=128/\e.path.length<=100000
theorem aam:∀{q:List auM} (_:uz q),(kj q).length<=257*q.length
 |[],_=>by simp[kj]
 |m::r,h=>by have aV:=aam (q:=r) λx J=>h x (auZ _ J);have:=Kx (h m auY);simp only[kj,avF,auV,auX]at aV⊢;omega
theorem aoR{q:List auM}(h:uz q):(ew q).length<=257*q.length:=by cases q with|nil=>simp[ew]|cons m r =>have:=aam (q:=r) λx J=>h x (auZ _ J);have:=Kx (h m auY);simp only[ew,auV,auX];omega
theorem aoS{n:U}{l:Int}(h:one n l=0):l<=16:=ayx
theorem aoT{bi:Bool}{n:U}(X:valid n=true)(hc:fd n<99):KE bi n (lg bi n).1 (lg bi n).2.1/\(lg bi n).2.2=0:=by have ar:=q8 X;obtain⟨xG,jN⟩:=Qp X;(have aS:gB n 1=true:=by rw[q7,auQ]at X;exact X.2);obtain⟨bs,V,aw,G,hT,yB⟩:=aom (bi:=bi) X;(have QX:tn (cT bi n::V):=by rw[hT];exact aor bi xG jN);(have AR:V.length<99:=by have:=Qj n (cT bi n) ⟨1,1,0⟩;rw[<-hT]at this;omega);(have aoU:∀s∈V,s.iso=true->kb 0 s.n s.lv=true:=by rw[hT];exact aod n (cT bi n) ⟨1,1,0⟩);have aoV:=aoj G aoU bs;have aan:=aoy ar G QX auD;have aoW:=λs (hs:s∈V)=>(Kt ar G QX hs).name;obtain⟨hF,_,_,_⟩:=(sc n).1 ar;obtain⟨AE,_,_⟩:=Pu (gq:=cd 0 n.F) (by rw[om];exact hF);have Dc:=aoP AE;rw[<-yB]at aan Dc;have aoX:∀x∈V,x.fi<=(bM V).length:=λx J=>(Kt ar G QX J).fi;have jG:=QL bs V;have at2:=Kp V;have at3:(bM V).length<=V.length:=avn _ _;have fr:=ana bs aoX;(have Qz:∀s∈ef V,s.mno<120:=λs hs=>by(have hm:ef (cT bi n::V)=ef V:=by rw[ef,avJ,auN (by simp[cT])];rfl);obtain⟨i,hi⟩:=avd.1 hs;have fx:=G.Z7 i s (by rw[hm];exact hi);(have c1:i<(ef V).length:=by rcases au6 i (ef V).length with h|h;exact h;rw[au0 h]at hi;cases hi);have gs:(ef V).length<=V.length:=avn _ _;omega);(have Kl:∀s∈V,iu (if s.mv then s.file else s.id)/\(if s.mv then s.file else s.id).length<=15:=λs hs=>by obtain⟨p,j,m,bL,bY,Z,wk,aw,qu,hm,vY,QS,uJ⟩:=aoW s hs;rw[QS];exact aoO (by exact(by cases O:(s.n.kind==0)with|true=>rw[O]at vY;exact vY|false=>rw[O]at vY;exact vY:nO m (s.n.kind==0) bL bY)) _);(have aao:∀s∈ef V,iu (68::Lib.decDigits s.mno)/\(68::Lib.decDigits s.mno).length<=4:=λs hs=>by have:=aaj s.mno (Qz s hs);exact⟨aai auG this.2,by simp;omega⟩);(have aap:∀s∈V,∃m:U,gr (fM (dr n) n (dq n [] 1)) s.path=m/\xx m/\dS m.name=true/\m.name.length<=256/\m.target.length<=128/\s.path.length<=100000:=λs hs=>by obtain⟨t,ax⟩:=avd.1 hs;have h1:(cT bi n::V)[t+1]?=some s:=ax;obtain⟨ha,ik,GI⟩:=G.gr ar aS h1;obtain⟨q,I,QU,lA,_,_⟩:=G.aag ar aS (t+1) s h1;have A:=(G.lv (t+1) s h1).2.2.1 auD;have ag:=KA ik;obtain⟨cP,d0,nx,w7,uc⟩:=Kz GI ag;have at4:=aoS ag;refine⟨_,ha,cP,uc auD,d0,nx,?_⟩;have:=aoR I;rw[QU];omega);rw[aw];refine⟨⟨by dsimp only;omega,by dsimp only;omega,⟨_,QK bs V⟩,λd O=>?_,λe aq=>(aan e aq).eW,λd O=>?_,λe aq=>?_,λe aq ha=>?_⟩,rfl⟩;obtain⟨i,hi⟩:=avd.1 O;have c1:=(avk.1 hi).1;dsimp only at hi c1⊢;rcases avA i with h0|h0;subst h0;rw[QK]at hi;cases hi;exact⟨by decide,by show(0:Int)<_;omega⟩;have:=(aoV i d hi).dp h0;omega;obtain⟨i,hi⟩:=avd.1 O;rcases ZZ hi with⟨_,rfl⟩|⟨_,_,rfl⟩|⟨k,s,hs,_,rfl⟩;exact⟨by decide,by intro c hc;simp[y4]at hc;subst hc;decide⟩;exact⟨by dsimp only;omega,Dc.1⟩;have wl:s∈V:=(avy.1 (au5 hs)).1;simp only[aK.jz];split;rename_i hm;have:=aao s (avy.2 ⟨wl,hm⟩);exact⟨by omega,this.1⟩;rename_i hm;have:=Kl s wl;rw[auN hm]at this;exact⟨by omega,this.1⟩;rcases aak aq with rfl|⟨s,hs,rfl⟩|⟨s,hs,rfl⟩;exact⟨by dsimp only;omega,Dc.1⟩;have:=Kl s hs;exact⟨by simp only[aK.kM];omega,this.1⟩;have:=aao s hs;exact⟨by simp only[aK.ou];omega,this.1⟩;rcases aak aq with rfl|⟨s,hs,rfl⟩|⟨s,hs,rfl⟩;cases ha;exact aap s hs;exact aap s (avy.1 hs).1
def KF(aL:List eE)(e:gf):auM:=((aL[e.eW.toNat]?).map (·.path)).getD []
def fB(n:U)(aL:List eE)(x:bz):List c7:=match x.g0 with
 |.e4=>[]
 |.Gn=>AW n
 |.dp _=>JD
 |.AX m e=>C6 m e (KF aL e)
variable{ai:List (auM×U)}{aL:List eE}{b7:List gf}
theorem QY{o:fk}{x:bz}(h:x∈eT o ai aL b7 i):(x.id=[0]/\(x.g0=.e4\/x.g0=.Gn))\/(x.id=[1]/\(x.g0=.e4\/∃d,x.g0=.dp d))\/(∃e∈b7,x.id=e.id/\(x.g0=.e4\/(e.C5=true/\x.g0=.AX (gr ai e.path) e))):=by unfold eT at h;split at h;rename_i d O;rcases au8.1 h with e|h;subst e;refine .inl ⟨rfl,?_⟩;unfold sl;dsimp only;split;exact .inr rfl;exact .inl rfl;rcases au8.1 h with e|h;subst e;refine .inr (.inl ⟨rfl,?_⟩);unfold sm;dsimp only;split;exact .inr ⟨_,rfl⟩;exact .inl rfl;obtain⟨e,aq,rfl⟩:=au_.1 h;refine .inr (.inr ⟨e,(avy.1 aq).1,rfl,?_⟩);unfold o3;dsimp only;split;rename_i ha;exact .inr ⟨ha,rfl⟩;exact .inl rfl;cases h
variable{fH:List eE}{eu:List gf}
theorem aoY(aX:dk B){bi:Bool}{n:U}(bK:KE bi n fH eu)(ar:xx n)(o:fk)(bW bG bO:Nat)(cE:List (auM×Int)){x:bz}(J:x∈eT o (fM (dr n) n (dq n [] 1)) fH eu i): A0 B (.mp bO (br (D.int .i64) cE)) (kp (.a7 26 [dH o n bW bG] 0 0) bO fH x.g0) (fB n fH x):=by(have fx:x.g0=.e4->A0 B (.mp bO (br (D.int .i64) cE)) (kp (.a7 26 [dH o n bW bG] 0 0) bO fH x.g0) (fB n fH x):=λh=>by unfold fB;rw[h];exact Zc _);rcases QY J with⟨_,h|h⟩|⟨_,h|⟨d,h⟩⟩|⟨e,aq,_,h|⟨ha,h⟩⟩;exact fx h;unfold fB;rw[h];exact⟨160,[],[.a7 1 [.a7 26 [dH o n bW bG] 0 0] 0 0],rfl,mH.Qd _ (ak4 aX _ o n bW bG ar)⟩;exact fx h;unfold fB;rw[h];exact⟨165,[],[.a7 6 [gD d] 0 0],rfl,mH.Qd _ (ak5 aX d)⟩;exact fx h;unfold fB;rw[h];obtain⟨m,hm,cD,iq,_,_,dh⟩:=bK.aal e aq ha;obtain⟨h0,h1⟩:=bK.J' e aq;obtain⟨d,O⟩:∃d,fH[e.eW.toNat]?=some d:=⟨_,auR auD⟩;(have QI:KF fH e=d.path:=by unfold KF;rw[O];rfl);rw[hm];dsimp only;rw[QI];exact⟨167,[],_,rfl,ak7 aX o n bW bG m bO cE fH e d cD iq dh ⟨h0,O⟩⟩
theorem aaq{kind hk kd ke kf:Int}{named:Bool}{name target:auM}{fj bX:Int}{jQ:Bool}(ar:name.length<=256)(ax:target=[]\/k7 target=true):∀y∈uo kind hk kd ke kf named name target fj bX jQ,y.ql.length<=2/\y.data.length<=30000:=λy hy=>by
 have af:=VS fj 0
 have G:∀l:List Int,(hl l).length=8*l.length:=λl=>by
  unfold hl
  induction l with
  |nil=>rfl
  |cons a r aV=>rw[avF,auV,aV,IT,auX];omega
 unfold uo at hy;rcases au8.1 hy with rfl|hy
 ·exact⟨by simp,by simp[G]⟩
 rcases avf.1 hy with hy|hy
 ·split at hy
  ·rw[avs]at hy;subst hy;exact⟨by simp,by simp;omega⟩
  cases hy
 rcases avf.1 hy with hy|hy
 ·split at hy
  ·rename_i aZ;rcases ax with h|h
   ·exact absurd h aZ
   have:=V9 target h;rw[avs]at hy;subst hy;exact⟨by simp,by simp;omega⟩
  cases hy
 rcases au8.1 hy with rfl|hy
 ·exact⟨by simp,by simp;omega⟩
 rcases avf.1 hy with hy|hy
 ·split at hy
  ·rw[avs]at hy;subst hy;exact⟨by simp,by simp[G]⟩
  cases hy
 split at hy
 ·rw[avs]at hy;subst hy;exact⟨by simp,by simp⟩
 cases hy
theorem aoZ{bi:Bool}{n:U}(bK:KE bi n fH eu)(ar:xx n){o:fk}{x:bz}(J:x∈eT o (fM (dr n) n (dq n [] 1)) fH eu i): (fB n fH x).length<=8/\∀y∈fB n fH x,y.ql.length<=2/\y.data.length<=30000:=by(have fx:x.g0=.e4->(fB n fH x).length<=8/\∀y∈fB n fH x,y.ql.length<=2/\y.data.length<=30000:=λh=>by unfold fB;rw[h];exact⟨by simp,λy hy=>by cases hy⟩);rcases QY J with⟨_,h|h⟩|⟨_,h|⟨d,h⟩⟩|⟨e,aq,_,h|⟨ha,h⟩⟩;exact fx h;unfold fB;rw[h];dsimp only;have aj:=Px n.kind n.cu (jR n 1) n.n2 n.n3 false [] [] n.n4 0 false;unfold AW;refine⟨by simp;omega,λy hy=>?_⟩;rcases au8.1 hy with rfl|hy;exact⟨by simp,by simp⟩;rcases avf.1 hy with hy|hy;exact aaq auF (.inl rfl) y hy;rw[avs]at hy;subst hy;exact⟨by simp,by simp⟩;exact fx h;unfold fB;rw[h];dsimp only;refine⟨by simp[JD],λy hy=>?_⟩;unfold JD at hy;rw[avs]at hy;subst hy;exact⟨by simp,by simp[hl,IT]⟩;exact fx h;unfold fB;rw[h];dsimp only;obtain⟨m,hm,cD,iq,ky,i7,dh⟩:=bK.aal e aq ha;rw[hm];unfold C6;refine⟨?_,λy hy=>?_⟩;have:=Px m.kind m.cu (jR m ((e.path.count 47:Nat)+2)) m.n2 m.n3 true m.name m.target m.n4 (if e.AV=true then 1 else 0) (KF fH e==[47]);omega;exact aaq ky cD.tg y hy
theorem ao0{bi:Bool}{n:U}(bK:KE bi n fH eu){o:fk}{x:bz}(J:x∈eT o ai fH eu i):x.id.length<=100/\iu x.id:=by rcases QY J with⟨h,_⟩|⟨h,_⟩|⟨e,aq,h,_⟩;rw[h];exact⟨by decide,by intro c hc;simp at hc;subst hc;decide⟩;rw[h];exact⟨by decide,by intro c hc;simp at hc;subst hc;decide⟩;rw[h];exact bK.aoQ e aq
theorem aar:∀(bA:Nat) (n:U),o7 n<bA->gZ n->y_ n:=by intro bA;induction bA with|zero=>intro n h;omega|succ bA aV =>intro n h ar;obtain⟨hF,_,hi,Z⟩:=(sc n).1 ar;have cD:∀k∈n.F,dS k.name=true:=λk hm=>(q6 Z hm).1.1;(have af:(jV 1 n.F).1=cd 1 n.F:=by unfold jV;rw[auN auG,auN auD,auN (by rw[AN,avz.2 (λk hm=>cD k hm)];decide),auN (λh=>h (CQ hi))];exact ajg hi);refine .mk n (by rw[af,om]) (λx J=>?_) λk hm=>aV k (by have:=PS hm;have:=A4 n;omega) (q6 Z hm).2;rw[af]at J;have:=Kx (Xo auG hF cD x J);omega
structure wo (s:kr):Prop where
 aE:∀p∈s.aE,p.1.length<=10000/\0<=p.2/\p.2<=1000000
 id:∀i,∀x∈s.ba i,x.id.length<=10000
theorem wo.put{s:kr}(h:wo s)(i:Nat)(x:bz)(J:x.id.length<=10000):wo (hU s i x):=⟨h.aE,λj y hy=>by
 simp only[hU]at hy;split at hy
 ·rcases avf.1 hy with h1|h1
  ·exact h.id j y h1
  rw[avs]at h1;subst h1;exact J
 exact h.id j y hy⟩
theorem wo.new{s:kr}(h:wo s)(id:auM)(p:Nat)(a b:bz)(hi:id.length<=10000)(aw:p<=1000000)(ha:a.id.length<=10000)(G:b.id.length<=10000):wo (mA s id p a b):=⟨λq I=>by
 rcases avf.1 I with h1|h1
 ·exact h.aE q h1
 ·rw[avs]at h1;subst h1;exact⟨hi,by dsimp only;omega,by dsimp only;omega⟩,λj y hy=>by
 simp only[mA]at hy;split at hy
 ·simp at hy;rcases hy with rfl|rfl
  ·exact ha
  exact G
 exact h.id j y hy⟩
mutual
theorem QZ(o:fk)(ai:List (auM×U))(n:U)(path id:auM)(cv bT:Nat)(s:kr)(k_:y_ n)(h:wo s)(nA:∀j,(s.ba j).length<=66)(gb:id.length<=10000)(aw:cv<=1000000)(hc:s.aE.length+fd n<=1000000):
  wo (ix o ai n path id cv bT s)/\(∀j,((ix o ai n path id cv bT s).ba j).length<=66)/\(ix o ai n path id cv bT s).aE.length<=s.aE.length+fd n:=by
 match n,k_ with
 |.mk a b c d e f g bt i j ae ch,k_ =>
  obtain⟨_,h1,A,aa⟩:=k_
  have at5:ae.length<=64:=by
   have mX:(jV 1 ae).1.length=ae.length:=h1;rcases au6 64 ae.length with bg|jl
   ·unfold jV at mX;rw[auN auG,auO bg]at mX;simp at mX;omega
   exact jl
  rw[ix,fd];rw[fd]at hc;have ar:=h.new id cv ⟨[0],bt,o.c6,2,(s.aE.length:Nat),.e4⟩ ⟨[1],(o6 ai (.mk a b c d e f g bt i j ae ch) path bT).n4,o.c6,2,(cv:Nat),.e4⟩ gb aw auF auF;have aj:(mA s id cv ⟨[0],bt,o.c6,2,(s.aE.length:Nat),.e4⟩ ⟨[1],(o6 ai (.mk a b c d e f g bt i j ae ch) path bT).n4,o.c6,2,(cv:Nat),.e4⟩).aE.length=s.aE.length+1:=by simp[mA]
  have:=KG o ai ae (jV 1 ae).1 s.aE.length path bT (mA s id cv ⟨[0],bt,o.c6,2,(s.aE.length:Nat),.e4⟩ ⟨[1],(o6 ai (.mk a b c d e f g bt i j ae ch) path bT).n4,o.c6,2,(cv:Nat),.e4⟩) aa A ar (λj ad=>by
   simp only[mA];rw[auN ad];exact nA j) (by simp only[mA,avV,auX,avh];omega) (by rw[aj];omega) (by rw[aj];omega)
  exact⟨this.1,this.2.1,by have:=this.2.2;omega⟩
theorem KG(o:fk)(ai:List (auM×U))(ae:List U)(aU:List auM)(dX:Nat)(path:auM)(bT:Nat)(s:kr)(k_:∀k∈ae,y_ k)(iq:∀x∈aU,x.length<5000)(h:wo s)(nA:∀j,j≠dX->(s.ba j).length<=66)(aas:(s.ba dX).length+ae.length<=66)(ha:dX<s.aE.length)(hc:s.aE.length+eQ ae<=1000000):
  wo (hV o ai ae aU dX path bT s)/\(∀j,((hV o ai ae aU dX path bT s).ba j).length<=66)/\(hV o ai ae aU dX path bT s).aE.length<=s.aE.length+eQ ae:=by
 match ae with
 |[] =>
  rw[hV];refine⟨h,λj=>?_,by simp[eQ]⟩;by_cases ad:j=dX
  ·subst ad;simp at aas;omega
  exact nA j ad
 |k::ae =>
  rw[hV,eQ];rw[eQ]at hc;rw[auX]at aas
  have alM:(aU.headD []).length<5000:=by
   cases aU with
   |nil=>decide
   |cons a r=>exact iq a auY
  have zS:=agC (aU.headD []);have i7:∀x∈aU.tail,x.length<5000:=λx J=>iq x (ax4 J);have Dk:=EK k;split
  ·split
   ·have hL:∀j,(s.ba j).length<=66:=λj=>by
     by_cases ad:j=dX
     ·subst ad;omega
     exact nA j ad
    have h1:=QZ o ai k (nc path k.name bT) (fl (aU.headD [])) dX (bT+1) s (k_ k auY) h hL auD auD auD;have A:=JY o ai k (nc path k.name bT) (fl (aU.headD [])) dX (bT+1) s
    have aF:=KG o ai ae aU.tail dX path bT (hU (ix o ai k (nc path k.name bT) (fl (aU.headD [])) dX (bT+1) s) dX ⟨fl (aU.headD []),k.n4,o.c6,2,(s.aE.length:Nat),.e4⟩) (λk Z=>k_ k (auZ _ Z)) i7 (h1.1.put _ _ (by dsimp only;omega)) (λj ad=>by
     simp only[hU];rw[auN ad];exact h1.2.1 j) (by simp only[hU,avV,auV];rw[A.2.2 dX ha];simp;omega) (by show dX<(ix o ai k _ _ _ _ s).aE.length;omega) (by show(ix o ai k _ _ _ _ s).aE.length+_<=_;have:=h1.2.2;omega)
    exact⟨aF.1,aF.2.1,by have a8:=aF.2.2;have cN:=h1.2.2;have e2:(hU (ix o ai k (nc path k.name bT) (fl (aU.headD [])) dX (bT+1) s) dX ⟨fl (aU.headD []),k.n4,o.c6,2,(s.aE.length:Nat),.e4⟩).aE.length=(ix o ai k (nc path k.name bT) (fl (aU.headD [])) dX (bT+1) s).aE.length:=rfl;omega⟩
   have aF:=KG o ai ae aU.tail dX path bT (hU s dX ⟨fl (aU.headD []),k.n4,o.c6,0,-1,.e4⟩) (λk Z=>k_ k (auZ _ Z)) i7 (h.put _ _ (by dsimp only;omega)) (λj ad=>by
    simp only[hU];rw[auN ad];exact nA j ad) (by simp only[hU,avV,auV];simp;omega) ha (by show s.aE.length+_<=_;omega)
   exact⟨aF.1,aF.2.1,by have a8:=aF.2.2;have e2:(hU s dX ⟨fl (aU.headD []),k.n4,o.c6,0,-1,.e4⟩).aE.length=s.aE.length:=rfl;omega⟩
  have aF:=KG o ai ae aU.tail dX path bT s (λk Z=>k_ k (auZ _ Z)) i7 h nA auD ha auD;exact⟨aF.1,aF.2.1,by have a8:=aF.2.2;omega⟩
end
theorem ao1{o:fk}{n:U}(ar:gZ n)(hc:fd n<99)(cz:o7 n<1000000):Qe o ai n:=by
 have k_:=aar _ n (avt _) ar;have h:=QZ o ai n [] [0] 0 1 ⟨[],λ_=>[]⟩ k_ ⟨λp aw=>(by cases aw),λi x J=>(by cases J)⟩ (λj=>by simp) auF auD auE;have aj:(j1 o ai n).aE.length<=99:=by have:=h.2.2;show(ix o ai n [] [0] 0 1 ⟨[],λ_=>[]⟩).aE.length<=99;simp at this;omega
 refine⟨k_,cz,by omega,h.1.aE,λi _=>by have:=h.2.1 i;exact Nat.lt_of_le_of_lt this auD,?_,λi x J=>by have:=h.1.id i x J;omega⟩;have:=C' (bA:=λi=>(((j1 o ai n).ba i).length:Nat)) (a:=0) (b:=66) (n:=(j1 o ai n).aE.length) (λi _=>⟨by omega,by have:=h.2.1 i;exact Int.ofNat_le.2 this⟩) (j1 o ai n).aE.length (auW _);omega
theorem Q0{α rQ:Type}{f:α->List rQ}{b:Nat}:∀{l:List α},(∀x∈l,(f x).length<=b)->(l.flatMap f).length<=b*l.length
 |[],_=>by simp
 |a::r,h=>by have h1:=h a auY;have A:=Q0 (f:=f) (l:=r) λx J=>h x (auZ _ J);rw[avF,auV,auX,Nat.mul_succ];omega
variable{aC:bz->List c7}{wide:Bool}{ba:Nat->List bz}
theorem ao2{n c:Nat}{a:Int}(ar:n<=103)(aj:∀i,i<n->(ba i).length<=203):a<=xz aC wide ba n a/\xz aC wide ba n a<=a+206000000+198000000:=by unfold xz;have h1:=C' (bA:=λi=>uG aC wide (ba i)) (a:=a) (b:=2000000) (n:=n) (λi hi=>Yq (by have:=aj i hi;omega)) n (auW _);(have hlen:(so aC wide ba n).length<=64*203*n:=by unfold so;(have:=Q0 (f:=λi=>(na aC wide (ba i)).flatMap λx=>(gl aC x).tail) (b:=64*203) (l:=List.range n) λi hi=>by(have aa:=Q0 (f:=λx=>(gl aC x).tail) (b:=64) (l:=na aC wide (ba i)) λx J=>by have:=(JJ (JM aC wide x J).2.2).2.1;rw[List.length_tail];omega);have aF:=JN aC wide (L:=ba i);have a8:=aj i (awa.1 hi);have:64*(na aC wide (ba i)).length<=64*203:=Nat.mul_le_mul_left _ auD;omega);rw[List.length_range]at this;exact this);have A:=Yv (l:=so aC wide ba n) (λv X=>by unfold so at X;obtain⟨i,_,X⟩:=awD.1 X;obtain⟨x,J,X⟩:=awD.1 X;exact(JJ (JM aC wide x J).2.2).2.2 v (ax4 X)) (o:=0) (avK _);generalize(so aC wide ba n).foldl jZ 0=Q at*;generalize(so aC wide ba n).length=k at*;generalize fP (λi=>uG aC wide (ba i)) a n=y at*;unfold kc;rw[au4 auD];omega
variable{aE:List (auM×Int)}
theorem aat{a:Int}(ha:0<=a)(M:∀p∈aE,p.1.length<=10000)(ar:aE.length<=103)(aj:∀i,i<aE.length->(ba i).length<=203):0<=(pQ aC wide aE ba a).1/\(pQ aC wide aE ba a).1<=a+2000+404000000/\((pQ aC wide aE ba a).2=0->a<=(pQ aC wide aE ba a).1):=by unfold pQ;split;have hT:=Za (mB aE λ_=>0) wide;have dh:=Dg (aE:=aE) (aY:=λ_=>0);(have aw:=Yw (l:=(nN (mB aE λ_=>0) wide).1) λx J=>by obtain⟨y,hy,aq⟩:=hT.2 x J;obtain⟨j,ad,rfl⟩:=ax8.1 hy;rw[aq];exact M aE[j] (auT _));have at6:=hT.1;generalize(nN (mB aE λ_=>0) wide).1=V at*;(have au:0<=kc (kL V)/\kc (kL V)<=1000:=by unfold kc;rw[au4 auD];omega);have:=ao2 (aC:=aC) (wide:=wide) (ba:=ba) (n:=aE.length) (c:=0) (a:=a+2*kc (kL V)) ar aj;dsimp only;exact⟨by omega,by omega,λ_=>by omega⟩;rename_i h;dsimp only;exact⟨by omega,by omega,λA=>absurd A h⟩
noncomputable def ic(o:fk)(n:U):Int×Int:=if valid n=true then th o n (fM (dr n) n (dq n [] 1)) (lg o.rock n).1 (lg o.rock n).2.1 (fB n (lg o.rock n).1)else(0,oW n o)
theorem ao3(aX:dk B)(o:fk)(n:U)(ar:ev n)(hc:valid n=true->fd n<99/\aB n<800000/\o7 n<1000000):
  aT B 30 [az n,r2 o] (.bm [u (ic o n).1,u (ic o n).2])/\0<=(ic o n).1/\(ic o n).1<=1000000000:=by
 have bn:aB n+n.name.length<10000000:=by have:=ar;unfold ev at this;omega
 by_cases X:valid n=true
 ·obtain⟨e6,bx,eb⟩:=hc X;have hE:aT B 96 [az n] (.T .none 1 (aQ (dq n [] 1))):=by have h:=O1 (B:=B) aX n ar;rw[auO X]at h;exact h
  obtain⟨bK,pF⟩:=aoT (bi:=o.rock) X e6;have Gq:=anU (B:=B) aX o.rock n ar (λ_=>⟨e6,bx⟩);have aS:gB n 1=true:=by have h:=X;rw[q7,auQ]at h;exact h.2
  have fx:=(Kz (avK 1) (KA aS)).1;unfold ic;rw[auO X];generalize(lg o.rock n).1=fH at*;generalize(lg o.rock n).2.1=sv at*
  have mO:∀i,(eT o (fM (dr n) n (dq n [] 1)) fH sv i).length<=203:=λi=>by
   have:=Gp (o:=o) (ai:=fM (dr n) n (dq n [] 1)) (aL:=fH) (b7:=sv) (i:=i);have:=bK.bJ;omega
  have ad:=ao1 (o:=o) (ai:=fM (dr n) n (dq n [] 1)) (q8 X) e6 eb
  have hj:0<=(li o (fM (dr n) n (dq n [] 1)) fH sv (fB n fH)).1/\(li o (fM (dr n) n (dq n [] 1)) fH sv (fB n fH)).1<=404002001/\((li o (fM (dr n) n (dq n [] 1)) fH sv (fB n fH)).2=0->1<=(li o (fM (dr n) n (dq n [] 1)) fH sv (fB n fH)).1):=by
   have:=aat (aC:=fB n fH) (wide:=false) (aE:=fH.map λd=>(d.id,d.cv)) (ba:=eT o (fM (dr n) n (dq n [] 1)) fH sv) (a:=1) auG (λp aw=>by
    obtain⟨d,O,rfl⟩:=au_.1 aw
    have:=(bK.Ka d O).1;dsimp only;omega) (by rw[auS];exact bK.J_) (λi _=>mO i)
   unfold li;exact⟨this.1,by omega,this.2.2⟩
  have jP:0<=(lj o (fM (dr n) n (dq n [] 1)) n fH sv (fB n fH)).1/\(lj o (fM (dr n) n (dq n [] 1)) n fH sv (fB n fH)).1<=850000000/\((lj o (fM (dr n) n (dq n [] 1)) n fH sv (fB n fH)).2=0->1<=(lj o (fM (dr n) n (dq n [] 1)) n fH sv (fB n fH)).1):=by
   unfold lj;split
   ·rename_i ao4;have aau:=QZ o (fM (dr n) n (dq n [] 1)) n [] [0] 0 1 ⟨[],λ_=>[]⟩ (aar _ n (avt _) (q8 X)) ⟨λp aw=>(by cases aw),λi x J=>(by cases J)⟩ (λj=>by simp) auF auD auE;have rK:(j1 o (fM (dr n) n (dq n [] 1)) n).aE.length<=103:=by have:=aau.2.2;show(ix o _ n [] [0] 0 1 ⟨[],λ_=>[]⟩).aE.length<=103;simp at this;omega
    have:=aat (aC:=λ_=>[]) (wide:=true) (aE:=(j1 o (fM (dr n) n (dq n [] 1)) n).aE) (ba:=(j1 o (fM (dr n) n (dq n [] 1)) n).ba) (a:=(li o (fM (dr n) n (dq n [] 1)) fH sv (fB n fH)).1) hj.1 (λp aw=>(ad.aE p aw).1) rK (λi _=>by have:=aau.2.1 i;exact av6 this auG);have h1:=hj.2.2 ao4.1;exact⟨this.1,by omega,λA=>by have:=this.2.2 A;omega⟩
   exact⟨hj.1,by omega,hj.2.2⟩
  have wq:=Zi (B:=B) aX o n bn (dr n) (dq n [] 1) (by rw[yW];omega) hE (λp aw=>Xf aX p (by have:=Pp aw;omega) n ar X) fH sv (fB n fH) (λ_=>⟨⟨_,Gq⟩,by have:=bK.J_;omega,by have:=bK.bJ;omega,bK.Gm,bK.J',λd O=>by have:=bK.Ka d O;exact⟨by omega,this.2⟩,λbW bG bO i _ x J=>aoY aX bK fx o bW bG bO _ J,
   λi _ x J=>by
    have h1:=ao0 bK J;have A:=aoZ bK fx J
    exact⟨by omega,h1.2,by omega,λy hy=>by have:=A.2 y hy;omega⟩,λ_=>ad,by omega,by omega⟩)
  refine⟨wq,?_⟩;unfold th;split
  ·split
   ·rename_i A;have:=jP.2.2 A;dsimp only;split<;>omega
   exact⟨avK _,by dsimp only;omega⟩
  exact⟨avK _,by dsimp only;omega⟩
 have Dk:oW n o≠0:=by
  unfold oW;rw[auO (by cases h:valid n with|true=>exact absurd h X|false=>rfl)];decide
 have hE:aT B 96 [az n] (.T .none 1 (aQ [])):=by have h:=O1 (B:=B) aX n ar;rw[auN X]at h;exact h
 have wq:=Zi (B:=B) aX o n bn (dr n) [] auG hE (λp aw=>by cases aw) [] [] (λ_=>[]) (λh=>absurd h Dk);have e:th o n (fM (dr n) n []) [] [] (λ_=>[])=(0,oW n o):=by unfold th;rw[auN Dk]
 rw[e]at wq;unfold ic;rw[auN X];exact⟨wq,avK _,by dsimp only;omega⟩
def sw(b':List e8)(g:dl):Int:=fh (λf:e8=>f.path==g.path) b'
def KH(b':List e8)(g:dl):Int:=((b'.getD (sw b' g).toNat ⟨[],[]⟩).data.length:Nat)
def KI(b':List e8)(start:Int)(g:dl):Bool:=bif (bif (bif (bif (bif decide (sw b' g<0)then true else g.len==0)then true else g.len !=KH b' g)then true else decide (g.start<0))then true else decide (start<g.start))then true else decide (start-g.start<io g.len)
def uO(b':List e8)(start:Int)(o:Option (List (auM×dl)))(g:dl):Option (List (auM×dl)) :=
 o.bind λmp=>if KI b' start g=true then none else if(co mp g.path).isSome=true then none else some (fz mp g.path g)
def tp(b':List e8)(start:Int)(l:List dl):Option (List (auM×dl)):=l.foldl (uO b' start) (some [])
def Dv(n:U)(m:fT)(start:Int):Bool:=bif (bif (bif !valid n then true else !r1 m)then true else decide (start<0))then true else decide (4096<start)
def iV(n:U)(m:fT)(a':List dl)(start:Int):Option (List (auM×dl)):=if Dv n m start=true then none else tp (cH n) start a'
theorem ao5(b':List e8)(start:Int){l:List dl}(h:i<l.length):tp b' start (l.take (i+1))=uO b' start (tp b' start (l.take i)) l[i]:=by rw[tp,auU h,avW];rfl
theorem Q1(b':List e8)(start:Int):∀l:List dl,l.foldl (uO b' start) none=none
 |[]=>rfl
 |g::l=>Q1 b' start l
variable{b':List e8}{start:Int}
theorem aav{l:List dl}(h:tp b' start (l.take i)=none):tp b' start l=none:=by rw[tp,<-awb i l,avW,<-tp,h];exact Q1 _ _ _
theorem sx{a b:Bool}(h:(bif a then true else b)=false):a=false/\b=false:=by cases a<;>cases b<;>simp at h⊢
theorem k4{b:Bool}(h:(!b)=true):b=false:=by cases b<;>simp at h⊢
theorem aaw{g:dl}(h:decide (sw b' g<0)=false):∃hi:(sw b' g).toNat<b'.length,0<=sw b' g/\(b'.map ek)[(sw b' g).toNat]?=some (ek (b'.getD (sw b' g).toNat ⟨[],[]⟩)):=by have h:=ava h;unfold sw at*;rcases E8 (λf:e8=>f.path==g.path) b' with⟨e,_⟩|⟨i,hi,e,_,_⟩;omega;rw[e];exact⟨by simpa using hi,by omega,by simp[List.getD,hi]⟩
theorem Q2(aX:dk B)(n:U)(m:fT)(a':List dl)(start:Int)(ar:ev n)(aS:a'.length<1000000)(nb:∀g∈a',g.len<=9223372036854775807)(wi:(cH n).length<1000000):c4 B 57 [az n,im m,.T .none 3 (a'.map bj),u start] bH.none λd aO=>match iV n m a' start with|none=>d=.bm [.any,u 1]|some mp=>∃b9 cp,d=.bm [.box 4102 b9 0,u 0]/\aO=aM [(4102,.box b9 (fm (⟨m,cH n,[],mp,start,0,0,0,0⟩:dF) cp)),(4001,.mp cp (br bj mp))]:=by refine jI Tryz.func57 Tryz.ntmps57 λW=>?_;refine go ?_;intro cJ;refine go ?_;intro cF;refine go ?_;refine bq (An aX n (by unfold ev at ar;omega)) ?_;refine bq (E9 m) ?_;refine aI (Dv n m start) rfl ?_ ?_<;>intro hc;refine cc ?_;(have hO:iV n m a' start=none:=by rw[iV,auO hc]);rw[hO];refine Y.gS [(9,u 1)] [] [] ⟨an,rfl,ak⟩ ?_;refine go ?_;exact⟨.bm [.any,u 1],(show dO [_,_] [_,_]from⟨.any _,E,ak⟩),rfl⟩;apply ci;(have hO:iV n m a' start=tp (cH n) start a':=by rw[iV,auN (by rw[hc];decide)]);(have a1:0<=start/\start<=4096:=ayL);rw[hO];apply eh;refine Y.fc [(2,.T .none 3 (a'.map bj)),(3,u start),(4,.box 4 cJ 0),(5,.box 5 cF 0)] [(4,.box cJ (az n).cells),(5,.box cF (im m).cells)] [(4,4),(5,5)] ⟨an,rfl,a_⟩ ?_;have X9:=O2 (B:=B) aX n ar;refine' eU (α:=Nat×Nat) [(4,.box cJ (az n).cells),(5,.box cF (im m).cells)] (0,0) (λy=>[_,_,.T .none 2 ((cH n).map ek),.am (.map (some y.1)),_,.agg [.N m.name,.N m.set,.N m.px,.N m.py,.N m.l2,u m.Cj,u m.Ck,u m.fj,u m.fU,u m.c6,.T .none 6 (m.gM.map pw),u m.du,.bool m.m2,.T .none 2 ((cH n).map ek),.bd,.am (.map (some y.1)),u start,u 0,u 0,u 0,u 0],.box 38 y.2 0,.box 38 y.2 0]) (λy=>[(3,35,some (.mp y.1 [])),(6,38,some (.box y.2 [.N m.name,.N m.set,.N m.px,.N m.py,.N m.l2,u m.Cj,u m.Ck,u m.fj,u m.fU,u m.c6,.T .none 6 (m.gM.map pw),u m.du,.bool m.m2,.T .none 2 ((cH n).map ek),.bd,.am (.map (some y.1)),u start,u 0,u 0,u 0,u 0]))]) [0,0,2,0,0,31,63,127] [(3,35),(6,38)] ?_ ?_;rotate_left 3;refine dB ?_;refine bQ (λy=>ah.vu λv=>(ed (v,y.2))) ?_;refine B8 (λy=>?_) ?_;refine go ?_;intro k4;exact ed (y.1,k4);exact trivial;intro y;obtain⟨cp,b9⟩:=y;(conv=>whnf);refine Y.fc [(2,.T .none 3 (a'.map bj)),(3,u start),(10,.box 38 b9 0)] [(35,.mp cp []),(38,.box b9 [.N m.name,.N m.set,.N m.px,.N m.py,.N m.l2,u m.Cj,u m.Ck,u m.fj,u m.fU,u m.c6,.T .none 6 (m.gM.map pw),u m.du,.bool m.m2,.T .none 2 ((cH n).map ek),.bd,.am (.map (some cp)),u start,u 0,u 0,u 0,u 0])] [(35,35),(38,38)] ⟨cX,rfl,cX⟩ ?_;refine Y.jo 38 (dA:=fm (⟨m,cH n,[],[],start,0,0,0,0⟩:dF) cp) rfl ⟨E,E,E,E,E,E,E,E,E,E,E,E,E,E,ap.nil,E,E,E,E,E,E,ak⟩ ?_;refine Y.fc [(2,.T .none 3 (a'.map bj)),(3,u start),(10,.box 4102 b9 0)] [(4102,.box b9 (fm (⟨m,cH n,[],[],start,0,0,0,0⟩:dF) cp)),(4001,.mp cp (br bj []))] [(4102,38),(4001,35)] ⟨⟨E,E,ap.box,ak⟩,rfl,a_⟩ ?_;refine go ?_;refine Y.ee (α:={x:Nat×List (auM×dl) // x.1<=a'.length/\tp (cH n) start (a'.take x.1)=some x.2}) (λx=>[(3,u start),(10,.box 4102 b9 0),(39,.T .none 3 (a'.map bj)),(40,u ((a'.map bj).length:Nat)),(41,u x.1.1)]) (λx=>[(4102,.box b9 (fm (⟨m,cH n,[],x.1.2,start,0,0,0,0⟩:dF) cp)),(4001,.mp cp (br bj x.1.2))]) (λx=>a'.length-x.1.1) ⟨(0,[]),au7 _,rfl⟩ [(4102,4102),(4001,4001)] ⟨an,rfl,a_⟩ ?_;rintro⟨⟨i,mp⟩,hi,KJ⟩;dsimp only at hi KJ⊢;refine go ?_;refine aI (decide ((i:Int)<((a'.map bj).length:Nat))) rfl ?_ ?_<;>intro bx;(·apply ci;(have aG:i<a'.length:=by simpa using bx);have h4:=NO aG;have c2:=ao5 (cH n) start aG;have w4:=nb a'[i] (auT _);rw[KJ]at c2;generalize a'[i]=g at*;(have oZ:∀h:(bif (bif (bif (bif decide (sw (cH n) g<0)then true else g.len==0)then true else g.len !=KH (cH n) g)then true else decide (g.start<0))then true else decide (start<g.start))=false,0<=g.len/\0<=g.start:=λh=>by have h1:=(sx h).1;have A:=sx h1;have aa:=(sx A.1).2;have aF:=ava A.2;(have a8:g.len=KH (cH n) g:=by simpa using aa);rw[a8];unfold KH;omega);refine gJ ?_;refine⟨λ_=>by rw[auS];omega,?_⟩;(conv=>whnf);refine⟨bj g,λ_=>h4,?_⟩;refine go ?_;intro uP;refine go ?_;refine .inr (ah.call rfl [.T .none 2 ((cH n).map ek),.fn (.func 90) [] [.box 4101 uP 0]] [(4101,12)] (c8.Jy rfl (akI (cH n) wi 90 [.box 4101 uP 0] _ (λf=>f.path==g.path) (λk Z=>akH k g uP))) rfl ⟨E,ap.fn trivial ⟨ap.box,ak⟩,ak⟩ ?_);rintro d aO ⟨rfl,rfl⟩;refine p8 ?_;rw[show fh (λf:e8=>f.path==g.path) (cH n)=sw (cH n) g from rfl];refine Y.tL aN mixed auI ?_;refine go ?_;refine⟨λh=>by obtain⟨A,aa,_⟩:=aaw (sx (k4 h)).1;have aF:((cH n).map ek).length=(cH n).length:=auS _;show 0<=sw (cH n) g/\sw (cH n) g<(((cH n).map ek).length:Nat);omega,?_⟩;refine go ?_;refine⟨ek ((cH n).getD (sw (cH n) g).toNat ⟨[],[]⟩),λh=>(aaw (sx (k4 h)).1).elim λ_ h=>h.2,?_⟩;refine go ?_;refine⟨[u g.len],_,λh=>Nh g.len (oZ (k4 h)).1 w4,an,?_⟩;refine h6 ?_;refine hd ?_;refine .inl ⟨λh=>by have:=(oZ (k4 h)).2;simp only[dz];have:=ava (sx (k4 h)).2;omega,?_⟩;refine go ?_;refine aI (KI (cH n) start g) rfl ?_ ?_<;>intro eb;refine cc ?_;have hN:tp (cH n) start a'=none:=aav (i:=i+1) (by rw[c2];simp[uO,eb]);rw[hN];refine Y.gS [(9,u 1)] [] [] ⟨an,rfl,ak⟩ ?_;refine go ?_;exact⟨.bm [.any,u 1],(show dO [_,_] [_,_]from⟨.any _,E,ak⟩),rfl⟩;apply ci;apply n0;refine Y.fc [(3,u start),(10,.box 4102 b9 0),(39,.T .none 3 (a'.map bj)),(40,u ((a'.map bj).length:Nat)),(41,u (i:Int)),(12,.box 12 uP 0)] [(4102,.box b9 (fm (⟨m,cH n,[],mp,start,0,0,0,0⟩:dF) cp)),(4001,.mp cp (br bj mp)),(12,.box uP (bj g).cells)] [(4102,4102),(4001,4001),(12,12)] ⟨an,rfl,a_⟩ ?_;refine' eU (α:=Nat) [(4102,.box b9 (fm (⟨m,cH n,[],mp,start,0,0,0,0⟩:dF) cp)),(4001,.mp cp (br bj mp)),(12,.box uP (bj g).cells)] 0 (λq=>[_,_,_,_,_,_,.bm [bj ((co mp g.path).getD gC),.bool (co mp g.path).isSome],_,_,_,.box 14 q 0,.any,_]) (λq=>[(10,14,some (.box q ([.N [],u 0,u 0]))),(11,14,some (.box q ((bj ((co mp g.path).getD gC)).cells)))]) [0,1,3,7,0,16,63,127,255,255,0,1535,4095] [(10,14),(11,14)] ?_ ?_;rotate_left 10;refine dB ?_;refine bQ (λq=>ah.qp 4001 (em:=9) (eB:=53) (enc:=bj) (Q:=gC) rfl rfl rfl rfl rfl auL (λw C=>xt w C) (cB q)) ?_;refine wR ?_;exact trivial;intro q;(conv=>whnf);refine Y.fc [(3,u start),(10,.box 4102 b9 0),(39,.T .none 3 (a'.map bj)),(40,u ((a'.map bj).length:Nat)),(41,u (i:Int)),(12,.box 12 uP 0),(15,.bool (co mp g.path).isSome)] [(4102,.box b9 (fm (⟨m,cH n,[],mp,start,0,0,0,0⟩:dF) cp)),(4001,.mp cp (br bj mp)),(12,.box uP (bj g).cells)] [(4102,4102),(4001,4001),(12,12)] ⟨cX,rfl,cX⟩ ?_;refine go ?_;refine aI (co mp g.path).isSome rfl ?_ ?_<;>intro od;refine cc ?_;have hN:tp (cH n) start a'=none:=aav (i:=i+1) (by rw[c2];simp[uO,eb,od]);rw[hN];refine Y.gS [(9,u 1)] [] [] ⟨an,rfl,ak⟩ ?_;refine go ?_;exact⟨.bm [.any,u 1],(show dO [_,_] [_,_]from⟨.any _,E,ak⟩),rfl⟩;refine eY ?_;refine Y.x2 aN 7 mixed auI ?_;refine go ?_;refine .inr (ah.xr 4001 (em:=9) (eB:=53) (enc:=bj) (v:=g) rfl rfl rfl rfl rfl rfl ?_);refine go ?_;exact⟨⟨(i+1,fz mp g.path g),aG,by rw[c2];simp[uO,eb,od]⟩,[(4102,4102),(4001,4001)],by show a'.length-(i+1)<a'.length-i;omega,an,rfl,a_⟩);(have cr:i=a'.length:=by simp at bx;omega);subst cr;rw[au2]at KJ;rw[KJ];refine sN ?_;refine Y.gS [(8,.box 4102 b9 0),(9,u 0)] [(4102,.box b9 (fm (⟨m,cH n,[],mp,start,0,0,0,0⟩:dF) cp)),(4001,.mp cp (br bj mp))] [(4102,4102),(4001,4001)] ⟨an,rfl,a_⟩ ?_;refine go ?_;exact⟨.bm [.box 4102 b9 0,u 0],(show dO [_,_] [_,_]from an),b9,cp,rfl,rfl⟩
abbrev gG(n:U)(m:fT)(mp:List (auM×dl))(start:Int)(cS:List auM):dF:=⟨m,cH n,cS,mp,start,0,0,0,0⟩
def hX(n:U)(m:fT)(mp:List (auM×dl))(start:Int):dF:=gG n m mp start (lL (gG n m mp start []) (cH n))
def tq(p:dF)(s ao:Int×Int):Int×Int:=if(eS p s ao).2=0 then((rf (eS p s ao).1 4096).1.C,(rf (eS p s ao).1 4096).2)else(0,(eS p s ao).2)
variable{f:FuncId}{ds:List D}{a6:D->bH->Prop}{fb gx:Nat}
theorem _root_.Go.bV.c8.Q3{H:bH}{cP d0:Nat}(h1:H fb=none)(A:H gx=none)(hc:c4 B f ds bH.none a6):c4 B f ds (gy H [(cP,fb),(d0,gx)]) a6:=by(have e:gy H [(cP,fb),(d0,gx)]=bH.none:=by funext j;simp only[gy];exact ayA);rw[e];exact hc
variable{a':List dl}{mp:List (auM×dl)}
theorem Q4{n:U}{m:fT}(h:iV n m a' start=some mp):0<=start/\start<=4096:=by unfold iV at h;split at h;cases h;rename_i hc;(have hc:Dv n m start=false:=by simpa using hc);exact ayL
theorem aax(p:dF)(s ao:Int×Int):(eS p s ao).1.a'=p.a':=by(have A:(kn p s).a'=p.a':=by unfold kn v_;split<;>rfl);unfold eS;split;rfl;split;exact A;exact A
theorem ao6(aX:dk B)(n:U)(m:fT)(a':List dl)(start:Int)(ar:ev n)(aS:a'.length<1000000)(nb:∀g∈a',g.len<=9223372036854775807)(wi:(cH n).length<1000000)(oO:m.gM.length<1000000)(mp:List (auM×dl))(hO:iV n m a' start=some mp)(s ao:Int×Int)(bf:kF m.fU 0=true->aT B 30 [az n,r2 (gN m)] (.bm [u s.1,u s.2]))(gk:kF m.fU 3=true->aT B 94 [az n,u m.du] (.bm [u ao.1,u ao.2]))(dh:(eS (hX n m mp start) s ao).2=0->CY (eS (hX n m mp start) s ao).1):aT B 20 [az n,im m,.T .none 3 (a'.map bj),u start] (.bm [u (tq (hX n m mp start) s ao).1,u (tq (hX n m mp start) s ao).2]):=by refine bB Tryz.func20 Tryz.ntmps20 λW=>?_;have a1:=Q4 hO;refine cc ?_;intro cJ;(conv=>whnf);intro cF;refine vd ?_;apply mj;apply cj;apply mj;refine ej ?_;refine .inr (ah.call rfl [az n,im m,.T .none 3 (a'.map bj),u start] [(4102,4102),(4001,4001)] (c8.Q3 rfl rfl (Q2 aX n m a' start ar aS nb wi)) rfl an ?_);rintro d aO I;rw[hO]at I;obtain⟨b9,cp,rfl,rfl⟩:=I;refine⟨_,E,?_⟩;refine gj ?_;refine aI false rfl ?_ ?_<;>intro hc;cases hc;refine go ?_;refine .inr (ah.call rfl [.box 4102 b9 0] [(4102,4102),(4001,4001)] (c8.xq rfl rfl (X6 (gG n m mp start []) wi b9 cp)) rfl an ?_);rintro d aO ⟨rfl,rfl⟩;refine p8 ?_;refine .inr (ah.call rfl [.box 4102 b9 0,az n] [(4102,4102)] (c8.Jy rfl (X7 (hX n m mp start) n s ao a1.1 a1.2 (show(0:Int)<=0 by decide) (show(0:Int)<=100 by decide) oO bf gk b9 cp)) rfl an ?_);rintro d aO ⟨rfl,rfl⟩;refine p8 ?_;refine aI ((eS (hX n m mp start) s ao).2 !=0) rfl ?_ ?_<;>intro bx;refine go ?_;(have aZ:¬(eS (hX n m mp start) s ao).2=0:=by simpa using bx);(have n':tq (hX n m mp start) s ao=(0,(eS (hX n m mp start) s ao).2):=by rw[tq,auN aZ]);rw[n'];exact an;refine go ?_;(have aq:(eS (hX n m mp start) s ao).2=0:=by simpa using bx);(have n':tq (hX n m mp start) s ao=((rf (eS (hX n m mp start) s ao).1 4096).1.C,(rf (eS (hX n m mp start) s ao).1 4096).2):=by rw[tq,auO aq]);have Q5:(eS (hX n m mp start) s ao).1.a'=mp:=aax _ _ _;refine go ?_;refine .inr (ah.call rfl [.box 4102 b9 0,u 4096] [(4102,4102),(4001,4001)] (c8.xq rfl (auP (λq=>some (aJ.mp cp (br bj q))) Q5.symm) (X5 (eS (hX n m mp start) s ao).1 (dh aq) 4096 auG auG b9 cp)) rfl an ?_);rintro d aO ⟨rfl,jd,ao7,rfl⟩;refine p8 ?_;intro XT;refine go ?_;rw[n'];exact an
theorem aay(a b:List auM)(ha:a.length<1000000)(G:b.length<1000000):aT B 33 [.T .none 1 (aQ a),.T .none 1 (aQ b)] (.bool (a==b)):=by refine bB Tryz.func33 Tryz.ntmps33 λW=>?_;apply b1;refine gj ?_;refine aI _ rfl ?_ ?_<;>intro hc;refine gp ?_;exact ap.of_eq (auP D.bool (Eq.symm (azm)));apply ci;(have hlen:a.length=b.length:=by simp[aQ]at hc;omega);refine mT ?_;refine Y.loop (α:={i:Nat // i<=a.length/\a.take i=b.take i}) (λx=>[(0,.T .none 1 (aQ a)),(1,.T .none 1 (aQ b)),(12,u (aQ a).length),(13,u x.1)]) (λ_=>[]) (λx=>a.length-x.1) ⟨0,by omega,rfl⟩ an trivial ?_;rintro⟨i,hi,xL⟩;dsimp only at hi xL⊢;apply b1;apply eh;refine aI (decide ((i:Int)<(aQ a).length)) rfl ?_ ?_<;>intro hc;apply ci;(have aG:i<a.length:=by simpa[aQ]using hc);(have wZ:i<b.length:=by omega);refine jJ ?_;apply b1;refine mQ ?_;(conv=>whnf);refine⟨λ_=>by simp[aQ];omega,?_⟩;(conv=>whnf);refine⟨.N a[i],λ_=>Ga aG,?_⟩;(conv=>whnf);refine⟨λ_=>by simp[aQ];omega,?_⟩;(conv=>whnf);refine⟨.N b[i],λ_=>Ga wZ,?_⟩;refine aI (a[i]!=b[i]) rfl ?_ ?_<;>intro hc;refine gp ?_;exact ap.of_eq (auP D.bool (Eq.symm (azm)));refine qJ ?_;(have GQ:a[i]=b[i]:=by simpa using hc);exact⟨⟨i+1,aG,by rw[auU aG,auU wZ,xL,GQ]⟩,by show a.length-(i+1)<a.length-i;omega,an,ak⟩;refine qH ?_;exact ap.of_eq (auP D.bool (Eq.symm (by(have cr:i=a.length:=by simp[aQ]at hc;omega);rw[ave auD,ave auD]at xL;rw[xL];simp)))
abbrev Dw(l:List auM):D:=.fn (.func 93) [] [.a7 1 [.T .none 1 (aQ l)] 0 0]
def ro(p:dF)(s ao:Int×Int)(cap:Int):q3×Int:=if(eS p s ao).2=0 then rf (eS p s ao).1 cap else(re,(eS p s ao).2)
theorem Q6:ap (.agg rd) (l9 re):=ap.agg (a:=rd) (bv:=(l9 re).cells) ⟨E,E,E,E,E,E,E,E,E,E,E,ap.nil,E,E,E,ap.nil,ak⟩
theorem ao8(aX:dk B)(n:U)(m:fT)(cS:List auM)(a':List dl)(start cap:Int)(ar:ev n)(aS:a'.length<1000000)(nb:∀g∈a',g.len<=9223372036854775807)(wi:(cH n).length<1000000)(oO:m.gM.length<1000000)(hx:cS.length<1000000)(mp:List (auM×dl))(hO:iV n m a' start=some mp)(lo:¬cap<start)(g_:¬4096<cap)(s ao:Int×Int)(bf:kF m.fU 0=true->aT B 30 [az n,r2 (gN m)] (.bm [u s.1,u s.2]))(gk:kF m.fU 3=true->aT B 94 [az n,u m.du] (.bm [u ao.1,u ao.2]))(dh:(eS (gG n m mp start cS) s ao).2=0->CY (eS (gG n m mp start cS) s ao).1)(dj dt:List auM)(uQ:∀l:List auM,aT B 59 [.T .none 1 (aQ l)] (Dw l))(PD:aT B 58 [Dw cS] (.T .none 1 (aQ dj)))(PE:aT B 58 [Dw (lL (gG n m mp start []) (cH n))] (.T .none 1 (aQ dt)))(xZ:dj.length<1000000)(CI:dt.length<1000000)(xy:(dj==dt)=true):aT B 19 [az n,im m,.T .none 1 (aQ cS),.T .none 3 (a'.map bj),u start,u cap] (.bm [l9 (ro (gG n m mp start cS) s ao cap).1,u (ro (gG n m mp start cS) s ao cap).2]):=by refine bB Tryz.func19 Tryz.ntmps19 λW=>?_;have a1:=Q4 hO;(have at7:(lL (gG n m mp start []) (cH n)).length<1000000:=by have:=Jx (gG n m mp start []) (cH n);omega);refine cc ?_;intro dW;(conv=>whnf);intro dM;(conv=>whnf);intro uP;refine vd ?_;apply mj;apply cj;apply mj;refine ej ?_;refine .inr (ah.call rfl [az n,im m,.T .none 3 (a'.map bj),u start] [(4102,4102),(4001,4001)] (c8.Q3 rfl rfl (Q2 aX n m a' start ar aS nb wi)) rfl an ?_);rintro d aO I;rw[hO]at I;obtain⟨b9,cp,rfl,rfl⟩:=I;refine⟨_,E,?_⟩;apply n0;refine Y.EC aN ?_;refine ve ?_;refine ve ?_;refine ve ?_;refine Mh ?_;refine Mh ?_;refine Mh ?_;(conv=>whnf);refine⟨rfl,.inr (ah.ED rfl (rfl) ?_)⟩;refine ve ?_;(conv=>whnf);refine⟨rfl,_,_,rfl,rfl,.inl ⟨avw lo,.inl ?_⟩⟩;(conv=>whnf);refine⟨rfl,_,_,rfl,rfl,.inl ⟨avw lo,.inl ?_⟩⟩;(conv=>whnf);refine⟨rfl,.inr (ah.ED rfl (avw lo) ?_)⟩;refine ve ?_;(conv=>whnf);refine⟨rfl,_,_,rfl,rfl,.inl ⟨avw g_,.inl ?_⟩⟩;(conv=>whnf);refine⟨rfl,_,_,rfl,rfl,.inl ⟨avw g_,.inl ?_⟩⟩;refine go ?_;refine⟨[.T .none 1 (aQ cS)],_,λ_=>uQ cS,an,?_⟩;(conv=>whnf);refine⟨rfl,_,_,rfl,rfl,.inl ⟨avw g_,.inl ?_⟩⟩;refine go ?_;refine⟨[Dw cS],_,λ_=>PD,an,?_⟩;(conv=>whnf);refine⟨rfl,_,_,rfl,rfl,.inl ⟨avw g_,.inl ?_⟩⟩;(conv=>whnf);refine⟨rfl,_,_,rfl,rfl,.inl ⟨avw g_,.inr (ah.call rfl [.box 4102 b9 0] [(4102,4102),(4001,4001)] (c8.xq rfl rfl (X6 (gG n m mp start []) wi b9 cp)) rfl an ?_)⟩⟩;rintro d aO ⟨rfl,rfl⟩;refine rP ?_;refine⟨rfl,_,_,rfl,rfl,.inl ⟨avw g_,.inl ?_⟩⟩;refine go ?_;refine⟨[.T .none 1 (aQ (lL (gG n m mp start []) (cH n)))],_,λ_=>uQ _,an,?_⟩;(conv=>whnf);refine⟨rfl,_,_,rfl,rfl,.inl ⟨avw g_,.inl ?_⟩⟩;refine go ?_;refine⟨[Dw (lL (gG n m mp start []) (cH n))],_,λ_=>PE,an,?_⟩;(conv=>whnf);refine⟨rfl,_,_,rfl,rfl,.inl ⟨avw g_,.inl ?_⟩⟩;refine go ?_;refine⟨[.T .none 1 (aQ dj),.T .none 1 (aQ dt)],_,λ_=>aay _ _ xZ CI,an,?_⟩;(conv=>whnf);refine⟨rfl,_,_,rfl,rfl,.inl ⟨avw g_,.inl ?_⟩⟩;(conv=>whnf);refine⟨rfl,.inr (ah.ED rfl (avw g_) ?_)⟩;refine go ?_;refine aI (!(dj==dt)) rfl ?_ ?_<;>intro hc;rw[xy]at hc;cases hc;refine go ?_;refine .inr (ah.call rfl [.box 4102 b9 0,az n] [(4102,4102)] (c8.Jy rfl (X7 (gG n m mp start cS) n s ao a1.1 a1.2 (show(0:Int)<=0 by decide) (show(0:Int)<=100 by decide) oO bf gk b9 cp)) rfl an ?_);rintro d aO ⟨rfl,rfl⟩;refine p8 ?_;refine aI ((eS (gG n m mp start cS) s ao).2 !=0) rfl ?_ ?_<;>intro bx;refine go ?_;(have aZ:¬(eS (gG n m mp start cS) s ao).2=0:=by simpa using bx);(have n':ro (gG n m mp start cS) s ao cap=(re,(eS (gG n m mp start cS) s ao).2):=by rw[ro,auN aZ]);rw[n'];refine go ?_;exact⟨Q6,E,ak⟩;refine go ?_;(have aq:(eS (gG n m mp start cS) s ao).2=0:=by simpa using bx);(have n':ro (gG n m mp start cS) s ao cap=rf (eS (gG n m mp start cS) s ao).1 cap:=by rw[ro,auO aq]);have Q5:(eS (gG n m mp start cS) s ao).1.a'=mp:=aax _ _ _;rw[n'];refine go ?_;refine .inr (ah.call rfl [.box 4102 b9 0,u cap] [(4102,4102),(4001,4001)] (c8.xq rfl (auP (λq=>some (aJ.mp cp (br bj q))) Q5.symm) (X5 (eS (gG n m mp start cS) s ao).1 (dh aq) cap auD auD b9 cp)) rfl an ?_);rintro d aO ⟨rfl,jd,ao7,rfl⟩;refine p8 ?_;exact an
theorem ao9(n:U)(s:auM):(dr n s).1.cU.length<=aB n:=by unfold dr;split;have:=j8 n;show n.cU.length<=_;omega;split;rename_i x J;have h1:=OL _ _ _ J;have A:=j8 x;show x.cU.length<=_;omega;exact au7 _
theorem aaz{n:U}:∀f∈cH n,f.data.length<=aB n:=by intro f M;unfold cH at M;obtain⟨p,_,aw⟩:=axI.1 M;unfold h_ at aw;split at aw;cases aw;exact ao9 n p;cases aw
theorem aaA(n:U):(cH n).length<=aB n:=by unfold cH;have h:=awW (h_ n) (if valid n then dq n [] 1 else[]);(have A:(if valid n then dq n [] 1 else[]).length<=fd n:=by split;rw[yW];exact auW _;exact au7 _);have:=B5 n;omega
theorem aaB{b':List e8}{start:Int}:∀(l:List dl) (o:Option (List (auM×dl))),(∀mp,o=some mp->km mp)->∀mp,l.foldl (uO b' start) o=some mp->km mp
 |[],o,h,mp,hm=>h mp hm
 |g::l,o,h,mp,hm=>by refine aaB l (uO b' start o g) (λaaC I=>?_) mp hm;cases o with|none=>cases I|some nE =>have I:(if KI b' start g=true then none else if(co nE g.path).isSome=true then none else some (fz nE g.path g))=some aaC:=I;split at I;cases I;rename_i G;split at I;cases I;cases I;(have G:KI b' start g=false:=by simpa using G);have h1:=(sx (sx (sx G).1).1).2;have:=ava h1;exact Gg (h nE rfl) auD
theorem ao_{n:U}{m:fT}(h:iV n m a' start=some mp):km mp:=by unfold iV at h;split at h;cases h;exact aaB a' (some []) (λaaC I=>by cases I;exact Pd) mp h
theorem aaD{n:U}{m:fT}(ar:ev n)(hO:iV n m a' start=some mp){cS:List auM}(ag:cS.length<=100000){s ao:Int×Int}(hs:0<=s.1/\s.1<=1000000000)(au:0<=ao.1/\ao.1<=1000000)(h0:(eS (gG n m mp start cS) s ao).2=0)(hsz:aB n<1000000):CY (eS (gG n m mp start cS) s ao).1:=by have a1:=Q4 hO;have uR:=ao_ hO;have dg:=aaA n;(have v8:∀f∈cH n,f.data.length<=100000000:=λf M=>by have:=aaz f M;omega);(have O:0<=r3 (gN m)/\r3 (gN m)<=100:=by unfold r3;split<;>split<;>omega);unfold eS at h0⊢;split at h0;rename_i hc;exact absurd h0 hc.2;rename_i hc;rw[auN hc];unfold kn v_;unfold CY;split<;>split<;>refine⟨?_,?_,?_,?_,?_,?_,?_,?_,?_,?_,ag,by show(cH n).length<_;omega,v8,uR⟩<;>first|(show(0:Int)<=0;decide)|(show(0:Int)<=1000000000;decide)|(show(0:Int)<=1000000;decide)|(show(0:Int)<=100;decide)|exact a1.1|exact a1.2|exact hs.1|exact hs.2|exact au.1|exact au.2|exact O.1|exact O.2|(show 0<=start+66+2;omega)|(show start+66+2<=(100000:Int);omega)|(show 0<=start+16+r3 (gN m);omega)|(show start+16+r3 (gN m)<=100000;omega)|(show 0<=start+16+(0:Int);omega)|(show start+16+(0:Int)<=100000;omega)
theorem ao'(aX:dk B)(n:U)(m:fT)(cS:List auM)(a':List dl)(start cap:Int)(ar:ev n)(aS:a'.length<1000000)(nb:∀g∈a',g.len<=9223372036854775807)(wi:(cH n).length<1000000)(hO:iV n m a' start=none):aT B 19 [az n,im m,.T .none 1 (aQ cS),.T .none 3 (a'.map bj),u start,u cap] (.bm [l9 re,u 1]):=by refine bB Tryz.func19 Tryz.ntmps19 λW=>?_;refine cc ?_;intro dW;(conv=>whnf);intro dM;(conv=>whnf);intro uP;refine vd ?_;apply mj;apply cj;apply mj;refine ej ?_;refine .inr (ah.call rfl [az n,im m,.T .none 3 (a'.map bj),u start] [(4102,4102),(4001,4001)] (c8.Q3 rfl rfl (Q2 aX n m a' start ar aS nb wi)) rfl an ?_);rintro d aO I;rw[hO]at I;simp only at I;subst I;refine⟨_,E,?_⟩;apply n0;refine Y.EC aN ?_;refine ve ?_;refine ve ?_;refine ve ?_;refine qG ?_;refine qG ?_;refine qG ?_;(conv=>whnf);refine⟨rfl,.inr (ah.H4 rfl (rfl) ?_)⟩;refine ve ?_;refine qG ?_;refine qG ?_;(conv=>whnf);refine⟨rfl,.inr (ah.H4 rfl (rfl) ?_)⟩;refine ve ?_;refine qG ?_;refine qG ?_;refine qG ?_;refine qG ?_;refine qG ?_;refine qG ?_;refine qG ?_;refine qG ?_;refine qG ?_;(conv=>whnf);refine⟨rfl,.inr (ah.H4 rfl (rfl) ?_)⟩;refine aI true rfl ?_ ?_<;>intro hc;refine gK ?_;apply x6;refine ej ?_;exact⟨Q6,E,ak⟩;cases hc
def lQ(l:List e8):List auM:=l.map (·.path)
theorem apa{l:List e8}(h:i<l.length):lQ (l.take (i+1))=lQ (l.take i)++[l[i].path]:=by rw[lQ,auU h,avo];rfl
theorem apb(aX:dk B)(n:U)(ar:ev n):aT B 28 [az n] (.T .none 1 (aQ (lQ (cH n)))):=by refine bB Tryz.func28 Tryz.ntmps28 λW=>?_;refine cc ?_;intro dI;apply b1;refine vi ?_;refine⟨[az n],_,λ_=>O2 aX n ar,an,?_⟩;(conv=>whnf);(have nA:(cH n).length<10000000:=by have:=aaA n;unfold ev at ar;omega);generalize cH n=P at*;refine Y.own 3 1000 1 9 rfl (λw=>?_);apply n1;refine Y.ee (α:={i:Nat // i<=P.length}×Value) (λx=>[(3,.T (.own 1000 x.2) 1 (aQ (lQ (P.take x.1.1)))),(7,.T .none 2 (P.map ek)),(8,u ((P.map ek).length:Nat)),(9,u x.1.1)]) (λx=>[(1000,.own x.2 (aQ (lQ (P.take x.1.1))).length 1 9)]) (λx=>P.length-x.1.1) (⟨0,by omega⟩,w) [(1000,1000)] ⟨an,rfl,a_⟩ ?_;rintro⟨⟨i,hi⟩,w⟩;dsimp only at hi⊢;apply b1;apply eh;refine aI (decide ((i:Int)<((P.map ek).length:Nat))) rfl ?_ ?_<;>intro hc;apply ci;(have aG:i<P.length:=by simpa using hc);have h4:=Js aG;have c2:=apa aG;(have mO:(aQ (lQ (P.take i))).length<=i:=by simp[aQ,lQ];omega);generalize lQ (P.take i)=L at*;generalize P[i]=sk at*;refine gJ ?_;refine⟨λ_=>by rw[auS];omega,?_⟩;(conv=>whnf);refine⟨ek sk,λ_=>h4,?_⟩;(conv=>whnf);intro cF;apply cj;apply jH;refine ej ?_;refine mm ?_;refine⟨by show(_+1)*16<=_;omega,by show _+1<=_;omega,auK,λgO=>?_⟩;refine ml ?_;(have aq:aQ L++[.N sk.path]=aQ (lQ (P.take (i+1))):=by rw[c2];simp[aQ]);exact⟨(⟨i+1,aG⟩,gO),[(1000,17)],azj,⟨ap.i' aq,E,E,E,ak⟩,rfl,rfl,jq (by rw[<-aq];simp),ak⟩;(have cr:i=P.length:=by simp at hc;omega);subst cr;rw[au2];refine qH ?_;exact ap.mf
deriving instance DecidableEq for dl
theorem apc(a b:List dl)(ha:a.length<1000000)(G:b.length<1000000):aT B 31 [.T .none 3 (a.map bj),.T .none 3 (b.map bj)] (.bool (a==b)):=by refine bB Tryz.func31 Tryz.ntmps31 λW=>?_;apply b1;refine gj ?_;refine aI _ rfl ?_ ?_<;>intro hc;refine gp ?_;exact ap.of_eq (auP D.bool (Eq.symm (azm)));apply ci;(have hlen:a.length=b.length:=by simp at hc;omega);refine mT ?_;refine Y.loop (α:={i:Nat // i<=a.length/\a.take i=b.take i}) (λx=>[(0,.T .none 3 (a.map bj)),(1,.T .none 3 (b.map bj)),(12,u (a.map bj).length),(13,u x.1)]) (λ_=>[]) (λx=>a.length-x.1) ⟨0,by omega,rfl⟩ an trivial ?_;rintro⟨i,hi,xL⟩;dsimp only at hi xL⊢;apply b1;apply eh;refine aI (decide ((i:Int)<(a.map bj).length)) rfl ?_ ?_<;>intro hc;apply ci;(have aG:i<a.length:=by simpa using hc);(have wZ:i<b.length:=by omega);refine jJ ?_;apply b1;refine mQ ?_;refine wS ?_;refine⟨bj a[i],λ_=>NO aG,?_⟩;refine wS ?_;refine⟨bj b[i],λ_=>NO wZ,?_⟩;refine aI _ rfl ?_ ?_<;>intro hc;refine gp ?_;exact ap.of_eq (auP D.bool (Eq.symm (azm)));refine qJ ?_;(have GQ:a[i]=b[i]:=by generalize a[i]=x at*;generalize b[i]=y at*;obtain⟨aie,Og,at8⟩:=x;obtain⟨Ct,Fp,Cu⟩:=y;simp at hc;rw[hc.1,hc.2.1,hc.2.2]);exact⟨⟨i+1,aG,by rw[auU aG,auU wZ,xL,GQ]⟩,by show a.length-(i+1)<a.length-i;omega,an,ak⟩;refine qH ?_;exact ap.of_eq (auP D.bool (Eq.symm (by(have cr:i=a.length:=by simp at hc;omega);rw[ave auD,ave auD]at xL;rw[xL];simp)))
theorem apd(t:U)(m:auM):(q1 t m<0/\h9 m t.F=none)\/∃(i:Nat) (h:i<t.F.length),q1 t m=i/\h9 m t.F=some t.F[i]:=by unfold q1 h9 fh;cases h:t.F.findIdx? (λk=>k.name==m)with|none=>exact .inl ⟨by decide,by rw[awR]at h;rw[awn];intro x J;rw[h x J];decide⟩|some i =>obtain⟨hi,h1,A⟩:=awz.1 h;refine .inr ⟨i,hi,rfl,?_⟩;rw[List.find?_eq_some_iff_getElem];exact⟨h1,i,hi,rfl,λj ad=>by have:=A j ad;simpa using this⟩
theorem ape:ap (.agg [.N [],u 0,.N [],.N [],u 0,u 0,u 0,u 0,u 0,u 0,.bd,.bd]) (az q9):=ap.agg (bv:=(az q9).cells) ⟨E,E,E,E,E,E,E,E,E,E,ap.nil,ap.nil,ak⟩
theorem aaE(n:U)(s:auM)(ar:ev n)(hs:s.length<1000000000):aT B 88 [az n,.N s] (az (dr n s).1):=by refine fn Tryz.func88 Tryz.ntmps88 λW=>?_;refine go ?_;intro ca;(conv=>whnf);refine dc ?_;intro cJ;(conv=>whnf);refine go ?_;refine hf (λx:U×Nat=>aB x.1+x.1.name.length<2200000/\(s=[]->x.1=n/\x.2=0)/\(s≠[]->x.2<=s.length+1/\(x.2<=s.length->dw x.1 (cO 47 [] (s.drop x.2))=dw n (cO 47 [] s))/\(x.2=s.length+1->dw n (cO 47 [] s)=some x.1))) [1,2,4] [4] (λx=>[(5,u x.2)]) (λx=>[(2,.box ca (az x.1).cells)]) (λx=>s.length+1-x.2) (n,0) ⟨ar,λ_=>⟨rfl,rfl⟩,λ_=>⟨au7 _,λ_=>rfl,λh=>by cases h⟩⟩ [(4,4),(2,2)] ?_;rintro⟨t,f⟩ ⟨ax,h0,h1⟩;dsimp only at ax h0 h1;refine go ?_;refine cb (t:=bif !(s==[])then decide ((f:Int)<=(s.length:Nat))else false) ?_ ?_<;>intro hc;(have dG:s≠[]:=by cases h:s==[]with|true=>rw[h]at hc;cases hc|false=>simpa using h);(have dg:f<=s.length:=by rw[show(s==[])=false by simpa using dG]at hc;have:decide ((f:Int)<=(s.length:Nat))=true:=hc;have:=avg this;omega);obtain⟨_,A,_⟩:=h1 dG;have aa:=A dg;refine go ?_;refine hf (λq:Nat=>f<=q/\q<=s.length/\cO 47 ((s.drop f).take (q-f)) (s.drop q)=cO 47 [] (s.drop f)) [1,2,4,5] [4,2] (λq=>[(6,u q)]) (λ_=>[]) (λq=>s.length+1-q) f ⟨auW _,dg,by rw[axt];simp⟩ [(4,4),(2,2)] ?_;rintro q ⟨NZ,N0,IS⟩;refine go ?_;(obtain⟨c,Q7⟩:∃c:UInt8,∀h:q<s.length,c=s[q]:=by by_cases h:q<s.length;exact⟨s[q],λ_=>rfl⟩;exact⟨0,λA=>absurd A h⟩);refine⟨c,λh=>⟨by omega,by(have I:q<s.length:=by have:=avg h;omega);rw[avq,auR I,Q7 I]⟩,?_⟩;(conv=>whnf);refine go ?_;have aaF:List.drop f (List.take q s)=(s.drop f).take (q-f):=List.drop_take;refine cb (t:=bif decide ((q:Int)<(s.length:Nat))then !((c.toNat:Int)==47)else false) ?_ ?_<;>intro bx;(have lA:q<s.length:=by cases h:decide ((q:Int)<(s.length:Nat))with|true=>have:=avg h;omega|false=>rw[h]at bx;cases bx);(have Q8:s[q]≠47:=λh=>by rw[avP (by omega:(q:Int)<(s.length:Nat)),Q7 lA,h]at bx;cases bx);refine go ?_;refine fs (q+1) [(4,4),(2,2)] ⟨by omega,by omega,?_⟩;rw[<-IS,show q+1-f=(q-f)+1 by omega,auU (by rw[avX];omega),List.getElem_drop,avL lA,cO];simp only[show f+(q-f)=q by omega];rw[auN Q8];(have nm:cO 47 [] (s.drop f)=(s.drop f).take (q-f)::(if q<s.length then cO 47 [] (s.drop (q+1))else[]):=by rw[<-IS];by_cases lA:q<s.length;(have Q8:s[q]=47:=by rw[avP (by omega:(q:Int)<(s.length:Nat)),Q7 lA]at bx;(have a8:((s[q].toNat:Int)==47)=true:=by simpa using bx);(have cN:s[q].toNat=47:=by have:=eq_of_beq a8;omega);exact ax3.1 (cN.trans rfl));rw[auO lA,avL lA,cO,auO Q8];have e:s.drop q=[]:=aw4 auD;rw[auN lA,e,cO]);have aaG:=Nv (B:=B) t ((s.drop f).take (q-f)) (by unfold ev;omega);rw[<-aaF]at aaG;rw[<-aaF]at nm;rw[nm]at aa;refine go ?_;refine yh ?_;refine bq aaG ?_;rcases apd t (List.drop f (List.take q s))with⟨Z,M⟩|⟨i,hi,Z,M⟩;refine wX (t:=decide (q1 t (List.drop f (List.take q s))<0)) (avP Z) ?_;(have KC:dw n (cO 47 [] s)=none:=by rw[<-aa,dw,M]);(have h4:(dr n s).1=q9:=by unfold dr;rw[auN dG,KC]);rw[h4];exact ape;rw[Z];refine H' (t:=decide ((i:Int)<0)) (avw auD) ?_;rw[qK];(conv=>whnf);refine go ?_;have apf:=EG hi;have apg:=j8 t;(have uR:dw t.F[i] (if q<s.length then cO 47 [] (s.drop (q+1))else[])=dw n (cO 47 [] s):=by rw[<-aa,dw,M]);refine fs (t.F[i],q+1) [(4,4),(2,2)] ⟨by dsimp only;omega,λh=>absurd h dG,λ_=>⟨by dsimp only;omega,λh=>?_,λh=>?_⟩⟩;dsimp only at h⊢;rw[auO auD]at uR;exact uR;dsimp only at h⊢;rw[auN auD]at uR;rw[<-uR];rfl;refine go ?_;(have h4:(dr n s).1=t:=by by_cases h:s=[];rw[(h0 h).1];unfold dr;rw[auO h];rw[show(s==[])=false by simpa using h]at hc;have eb:decide ((f:Int)<=(s.length:Nat))=false:=hc;have:=ava eb;obtain⟨A,_,aF⟩:=h1 h;unfold dr;rw[auN h,aF auD]);rw[h4];exact E
theorem aph(n:U)(s:auM)(ar:ev n)(hs:s.length<1000000000):aT B 55 [az n,.N s] (.N (dr n s).1.cU):=by have Q9:=aaE (B:=B) n s ar hs;refine fn Tryz.func55 Tryz.ntmps55 λW=>?_;refine go ?_;intro ca;(conv=>whnf);refine go ?_;refine bq Q9 ?_;exact E
theorem api(l:List dl)(p:auM)(aj:l.length<1000000000):aT B 56 [.T .none 3 (l.map bj),.N p] (u (fh (λf:dl=>f.path==p) l)):=by have mO:(l.map bj).length=l.length:=auS _;refine fn Tryz.func56 Tryz.ntmps56 λW=>?_;refine go ?_;refine hf (λi:Nat=>i<=l.length/\∀j (h:j<l.length),j<i->(l[j].path==p)=false) [0,1] [] (λi=>[(5,u i)]) (λ_=>[]) (λi=>l.length-i) 0 ⟨au7 _,λj _ h=>absurd h (av_ _)⟩ [] ?_;rintro i ⟨hi,aw⟩;refine go ?_;rw[mO];refine cb (t:=decide ((i:Int)<(l.length:Nat))) ?_ ?_<;>intro hc;(have c1:i<l.length:=by have:=avg hc;omega);refine go ?_;refine cb (t:=l[i].path==p) ?_ ?_<;>intro bx;refine go ?_;exact H5 (zP (p:=λf:dl=>f.path==p) c1 aw bx).symm;refine go ?_;refine fs (i+1) [] ⟨c1,λj ad h=>?_⟩;rcases au6 j i with A|A;exact aw j ad A;(have:j=i:=by omega);subst this;exact bx;refine go ?_;exact H5 (zQ (p:=λf:dl=>f.path==p) λj ad=>aw j ad (by have:=ava hc;omega)).symm
theorem apj(n:U)(ar:ev n):aT B 87 [az n] (.T .none 1 (aQ (if valid n=true then dq n [] 1 else[]))):=by by_cases X:valid n=true;rw[auO X];exact ajb n ar X;rw[auN X];have apk:=Ns (B:=B) n ar;refine fn Tryz.func87 Tryz.ntmps87 λW=>?_;refine go ?_;intro dI;(conv=>whnf);refine go ?_;refine bq apk ?_;refine wX (t:=!(valid n)) (by cases h:valid n with|true=>exact absurd h X|false=>rfl) ?_;exact .nil
theorem apl(n:U)(p:auM):y1 n p=((dr n p).1.kind==1):=by unfold y1 dr;split;rfl;split;rfl;rfl
theorem apm(n:U)(ar:ev n)(aw:∀p∈(if valid n=true then dq n [] 1 else[]),p.length<1000000000)(dh:(if valid n=true then dq n [] 1 else[]).length<1000000):aT B 54 [az n] (.T .none 1 (aQ (lQ (cH n)))):=by have apn:=apj (B:=B) n ar;have xp:cH n=(if valid n=true then dq n [] 1 else[]).filterMap (h_ n):=rfl;rw[xp];generalize(if valid n=true then dq n [] 1 else[])=bP at*;(have fe:(aQ bP).length=bP.length:=by simp[aQ]);have Q_:∀i (h:i<bP.length),(aQ bP)[(i:Int).toNat]?=some (.N bP[i]):=λi h=>Ga h;generalize aQ bP=PT at*;refine fn Tryz.func54 Tryz.ntmps54 λW=>?_;refine go ?_;intro dI;(conv=>whnf);refine dc ?_;refine jb 1 1 12 (az n) ?_;refine go ?_;refine bq apn ?_;refine Y.own 3 1000 1 9 rfl (λw0=>?_);refine hf (λx:Nat×Value=>x.1<=bP.length) [1,4] [] (λx=>[(3,.T (.own 1000 x.2) 1 (aQ (lQ ((bP.take x.1).filterMap (h_ n))))),(5,u x.1)]) (λx=>[(1000,.own x.2 (aQ (lQ ((bP.take x.1).filterMap (h_ n)))).length 1 9)]) (λx=>bP.length-x.1) (0,w0) (au7 _) [(1000,1000)] ?_;rintro⟨i,w⟩ hi;dsimp only at hi⊢;refine go ?_;rw[fe];refine cb (t:=decide ((i:Int)<(bP.length:Nat))) ?_ ?_<;>intro hc;(have c1:i<bP.length:=by have:=avg hc;omega);have qZ:=Q_ i c1;have xv:=XH (h_ n) c1;have Q9:=aaE (B:=B) n bP[i] ar (aw _ (auT c1));have aaH:=apl n bP[i];have dg:((bP.take i).filterMap (h_ n)).length<=i:=av6 (awW _ _) (by rw[au9];omega);generalize Gr:bP[i]=p at*;generalize(bP.take i).filterMap (h_ n)=bL at*;(have NM:(aQ (lQ bL)).length=bL.length:=by simp[aQ,lQ]);refine go ?_;refine yh ?_;refine bJ (.N p) qZ ?_;refine bq Q9 ?_;refine cb (t:=(dr n p).1.kind==1) ?_ ?_<;>intro bx;(have lJ:h_ n p=some ⟨p,(dr n p).1.cU⟩:=by unfold h_;rw[aaH,bx,auO rfl]);rw[lJ]at xv;refine go ?_;refine bJ (.N p) qZ ?_;intro gO;(conv=>whnf);refine go ?_;(have oG:aQ (lQ bL)++[.N p]=aQ (lQ ((bP.take (i+1)).filterMap (h_ n))):=by rw[xv];simp[aQ,lQ]);exact fs (i+1,gO) [(1000,28)] c1 (A:=⟨⟨E,E,ap.i' oG,t6,ak⟩,rfl,rfl,jq (by rw[<-oG,auV];rfl),ak⟩);(have lJ:h_ n p=none:=by unfold h_;rw[aaH,bx,auN auG]);rw[lJ]at xv;refine go ?_;refine fs (i+1,w) [(1000,1000)] c1 (A:=?_);dsimp only;rw[xv,show bL++(none:Option e8).toList=bL by simp];exact⟨cX,rfl,cX⟩;(have cr:i=bP.length:=by have:=ava hc;omega);subst cr;rw[au2];refine go ?_;exact .jk _
def zj(a':List dl)(f:e8):Bool:=bif f.data !=[]then decide (fh (λg:dl=>g.path==f.path) a'<0)else false
def iW(a':List dl)(l:List e8):List auM:=(l.filter (zj a')).map (·.path)
theorem apo(a':List dl){l:List e8}(h:i<l.length):iW a' (l.take (i+1))=iW a' (l.take i)++(if zj a' l[i]=true then[l[i].path]else[]):=by rw[iW,auU h,av7,avo,<-iW,avJ];split<;>rfl
theorem aaI(a':List dl)(l:List e8):(iW a' l).length<=l.length:=by rw[iW,auS];exact avn _ _
theorem aaJ(n:U)(a':List dl)(ar:ev n)(aS:a'.length<1000000)(aw:∀p∈(if valid n=true then dq n [] 1 else[]),p.length<1000000000)(dh:(if valid n=true then dq n [] 1 else[]).length<1000000): aT B 18 [az n,.T .none 3 (a'.map bj)] (.T .none 1 (aQ (iW a' (cH n)))):=by have app:=apm (B:=B) n ar aw dh;(have v8:∀f∈cH n,(dr n f.path).1.cU=f.data/\f.path.length<1000000000:=λf M=>by obtain⟨p,yG,uk⟩:=axI.1 M;unfold h_ at uk;split at uk;cases uk;exact⟨rfl,aw p yG⟩;cases uk);(have dg:(cH n).length<1000000:=by have:(cH n).length<=(if valid n=true then dq n [] 1 else[]).length:=awW _ _;omega);generalize cH n=b' at*;(have fe:(aQ (lQ b')).length=b'.length:=by simp[aQ,lQ]);(have Q_:∀i (h:i<b'.length),(aQ (lQ b'))[(i:Int).toNat]?=some (.N b'[i].path):=λi h=>by rw[avq];simp[aQ,lQ,h]);generalize aQ (lQ b')=PT at*;refine fn Tryz.func18 Tryz.ntmps18 λW=>?_;refine go ?_;intro ca;(conv=>whnf);refine dc ?_;refine jb 2 2 12 (az n) ?_;refine go ?_;refine bq app ?_;refine Y.own 5 1000 1 9 rfl (λw0=>?_);refine hf (λx:Nat×Value=>x.1<=b'.length) [1,2,6] [] (λx=>[(5,.T (.own 1000 x.2) 1 (aQ (iW a' (b'.take x.1)))),(7,u x.1)]) (λx=>[(1000,.own x.2 (aQ (iW a' (b'.take x.1))).length 1 9)]) (λx=>b'.length-x.1) (0,w0) (au7 _) [(1000,1000)] ?_;rintro⟨i,w⟩ hi;dsimp only at hi⊢;refine go ?_;rw[fe];refine cb (t:=decide ((i:Int)<(b'.length:Nat))) ?_ ?_<;>intro hc;(have c1:i<b'.length:=by have:=avg hc;omega);have qZ:=Q_ i c1;have KK:=apo a' c1;have pv:=aaI a' (b'.take i);rw[au9]at pv;obtain⟨O,apq⟩:=v8 _ (auT c1);have aaK:=aph (B:=B) n b'[i].path ar apq;have apr:=api (B:=B) a' b'[i].path auD;rw[O]at aaK;have aaL:zj a' b'[i]=bif b'[i].data !=[]then decide (fh (λg:dl=>g.path==b'[i].path) a'<0)else false:=rfl;generalize b'[i]=f at*;generalize fh (λg:dl=>g.path==f.path) a'=eO at*;generalize iW a' (b'.take i)=bL at*;(have NM:(aQ bL).length=bL.length:=by simp[aQ]);refine go ?_;refine yh ?_;refine bJ (.N f.path) qZ ?_;refine bq aaK ?_;refine bJ (.N f.path) qZ ?_;refine bq apr ?_;refine cb (t:=bif f.data !=[]then decide (eO<0)else false) ?_ ?_<;>intro bx;rw[aaL,bx,auO rfl]at KK;refine go ?_;refine bJ (.N f.path) qZ ?_;intro gO;(conv=>whnf);refine go ?_;(have oG:aQ bL++[.N f.path]=aQ (iW a' (b'.take (i+1))):=by rw[KK];simp[aQ]);exact fs (i+1,gO) [(1000,38)] c1 (A:=⟨⟨E,E,E,ap.i' oG,t6,ak⟩,rfl,rfl,jq (by rw[<-oG,auV];rfl),ak⟩);rw[aaL,bx,auN auG,avC]at KK;refine go ?_;refine fs (i+1,w) [(1000,1000)] c1 (A:=?_);dsimp only;rw[KK];exact⟨cX,rfl,cX⟩;(have cr:i=b'.length:=by have:=ava hc;omega);subst cr;rw[au2];refine go ?_;exact .jk _
def tr(n:U)(m:fT)(cS:List auM)(a':List dl):Bool:=bif bif bif oS n 100000 then Iy m else false then decide ((cS.length:Int)<=50)else false then decide ((a'.length:Int)<=50)else false
theorem aps(n:U)(m:fT)(cS:List auM)(a':List dl)(ar:ev n)(hm:m.name.length+m.set.length+m.px.length+m.py.length+m.l2.length<1000000000):aT B 27 [az n,im m,.T .none 1 (aQ cS),.T .none 3 (a'.map bj)] (.bool (tr n m cS a')):=by have apt:=afA (B:=B) n 100000 ar;have sQ:=ae5 (B:=B) m hm;(have hx:(aQ cS).length=cS.length:=by simp[aQ]);have w4:(a'.map bj).length=a'.length:=auS _;refine fn Tryz.func27 Tryz.ntmps27 λW=>?_;refine go ?_;intro cJ;(conv=>whnf);refine dc ?_;intro cF;(conv=>whnf);refine go ?_;refine bq apt ?_;refine bq sQ ?_;rw[hx,w4];exact E
end Go.bV.ct
namespace Go.Proofs
end Go.Proofs
namespace Go.bV.ct
open Go Go.Proofs Go.RowKit Go.bV Go.Sort
variable{B:World}
theorem KL:∀l:List auM,b4 (l.map D.N)=l.map D.N
 |[]=>rfl
 |x::r=>by have:=KL r;simp only[b4]at this⊢;rw[avc,avF,this];rfl
variable{w:World}{C:Nat->Nat}{mZ:Value}
theorem aaM{l:List auM}(h:bh w C (.T .none 1 (l.map D.N)) mZ):fS.EZ w.heap.size w mZ l:=by rcases h.kt with⟨h0,⟨a,rfl⟩,_⟩|⟨b,o,cap,g,rfl,_,bg,_,_,_,_,gg,_,eX⟩;exact .inl ⟨⟨a,rfl⟩,by simpa using h0⟩;refine .inr ⟨b,o,cap,by rw[auS],bg,λj ad=>?_⟩;(have O:(b4 (l.map D.N))[j]?=some (.N l[j]):=by rw[KL,au',auR ad];rfl);rw[gg j _ O,(eX j _ O).kS,auR ad];rfl
theorem aaN(args:Array Value)(w:World):(callFunc 93 args).run Tryz.prog w=.ok (.enter 93 args) w:=by
 have kY : (Tryz.f93.name == "runtime.NumGoroutine") = false := by decide +kernel
 have G:Tryz.f93.body.isNone=false:=rfl;simp only[callFunc,run_program,Sem.run_bind,Result.andThen_ok,Tryz.func93,kY,G,avT,awq,Sem.run_pure]
theorem apu(l:List auM)(aj:l.length<=1000000):mH Tryz.prog B 91 [.fn (.func 93) [] [.a7 1 [.T .none 1 (l.map D.N)] 0 0]] (.T .none 1 (l.map D.N)):=by
 refine⟨⟨_,Tryz.func91,rfl,by decide +kernel⟩,λw C args G kX=>?_⟩
 obtain⟨v,rfl⟩:∃v,args=[v]:=by
  cases args with
  |nil=>exact absurd kX.1 auF
  |cons v r=>cases r with
   |nil=>exact⟨v,rfl⟩
   |cons _ _=>exact absurd kX.1 auF
 obtain⟨fN,hr,rfl,h1,A⟩:=(kX.2 0 _ v rfl rfl).uX;obtain rfl:fN=[]:=au1 h1.1.symm
 obtain⟨p,rfl⟩:∃p,hr=[p]:=by
  cases hr with
  |nil=>exact absurd A.1 auF
  |cons v r=>cases r with
   |nil=>exact⟨v,rfl⟩
   |cons _ _=>exact absurd A.1 auF
 have aw:=A.2 0 _ p rfl rfl
 cases aw with
 |a7 _ _ _ _ b o cap h =>
  rcases h.kt with⟨h0,_⟩|⟨ey,bN,iF,g,X,_,bg,_,_,_,_,gg,_,eX⟩
  ·cases h0
  injection X with bZ _ _
  injection bZ with bZ
  injection bZ with bZ b0 _
  subst bZ;subst b0
  have jn:w.cell? ⟨b,o,none⟩=some (g 0):=gg 0 _ rfl;have Ra:=fS.Ua Fence.wide 8 trivial rfl auD b o w.heap.size (g 0) l auD w bg (auW _) jn (aaM (eX 0 _ rfl));have hc:=fS.Ue Tryz.laysCol Fence.wide 10 trivial trivial rfl auD 93 #[.pointer (some ⟨b,o,none⟩)] trivial aaN (λbl=>bl=l) (λpre=>pre <+: l) l.length (by simp only[maxLen];omega) auD w Ra;refine(callsIn_wide.1 hc).mono λe w' ⟨v,ch,aq,hs,dQ,p2,fg⟩=>?_;subst hs
  have j5:∀D:Nat,nQ w C w' (λx=>if x<w.heap.size then C x else D):=λD =>
   ⟨fg.size,λx J=>by simp only[J,avV];exact auW _,λx o J ag=>by simp only[World.cell?,fg.block x J]⟩
  refine⟨v,λx=>if x<w.heap.size then C x else ch.length,aq,?_,⟨j5 _,fg.os,fg.tape,fg.output,λx J _=>⟨fg.block x J,by simp only[J,avV]⟩⟩⟩;rcases dQ.2 with⟨rfl,h0⟩|⟨GR,cap,fX,rfl,p5,GS,mw,nB,oi,oU⟩
  ·have:ch=[]:=au1 h0;subst this;exact .jj _ _ none trivial
  have:=xX (w:=w') (C:=λx=>if x<w.heap.size then C x else ch.length) (tg:=.none) (k:=1) (xs:=ch.map D.N) (vs:=fX.toList) (b:=GR) (cap:=cap) GS (λx J=>by obtain⟨_,_,rfl⟩:=au_.1 J;rfl) (by rw[auS];exact mw) nB
   (by rw[auN auD,auS];omega)
   (λj d O=>by
    rw[KL,au']at O
    cases J:ch[j]? with
    |none=>rw[J]at O;cases O
    |some x =>
     rw[J]at O;cases O
     have ad:j<ch.length:=(avk.1 J).1;have GU:(fX.toList.take (ch.length*1))[j]?=some (encStr x):=by rw[oU,au',J];rfl
     rw[avE,auO auD]at GU
     exact⟨_,GU,.N x,rfl⟩) trivial
  rw[auS]at this;exact this
theorem apv(l:List auM)(aj:l.length<=1000000):c8 Tryz.prog B 91 [.fn (.func 93) [] [.a7 1 [.T .none 1 (l.map D.N)] 0 0]] bH.none λd aO=>∃v,d=.am v/\aO=aM [(2000,.row v (l.map D.N) 1 9)]:=by
 refine⟨⟨_,Tryz.func91,rfl,by decide +kernel⟩,λw C args Ft G qE hH kX=>?_⟩
 obtain⟨v,rfl⟩:∃v,args=[v]:=by
  cases args with
  |nil=>exact absurd kX.1 auF
  |cons v r=>cases r with
   |nil=>exact⟨v,rfl⟩
   |cons _ _=>exact absurd kX.1 auF
 obtain⟨fN,hr,rfl,h1,A⟩:=(kX.2 0 _ v rfl rfl).uX;obtain rfl:fN=[]:=au1 h1.1.symm
 obtain⟨p,rfl⟩:∃p,hr=[p]:=by
  cases hr with
  |nil=>exact absurd A.1 auF
  |cons v r=>cases r with
   |nil=>exact⟨v,rfl⟩
   |cons _ _=>exact absurd A.1 auF
 have aw:=A.2 0 _ p rfl rfl
 cases aw with
 |a7 _ _ _ _ b o cap h =>
  rcases h.kt with⟨h0,_⟩|⟨ey,bN,iF,g,X,_,bg,_,_,_,_,gg,_,eX⟩
  ·cases h0
  injection X with bZ _ _
  injection bZ with bZ
  injection bZ with bZ b0 _
  subst bZ;subst b0
  have jn:w.cell? ⟨b,o,none⟩=some (g 0):=gg 0 _ rfl;have Ra:=fS.Ua Fence.wide 8 trivial rfl auD b o w.heap.size (g 0) l auD w bg (auW _) jn (aaM (eX 0 _ rfl));have hc:=fS.Ue Tryz.laysCol Fence.wide 10 trivial trivial rfl auD 93 #[.pointer (some ⟨b,o,none⟩)] trivial aaN (λbl=>bl=l) (λpre=>pre <+: l) l.length (by simp only[maxLen];omega) auD w Ra;refine(callsIn_wide.1 hc).mono λe w' ⟨v,ch,aq,hs,dQ,p2,fg⟩=>?_;subst hs
  have j5:nQ w C w' (λx=>if x<w.heap.size then C x else 0) :=
   ⟨fg.size,λx J=>by simp only[J,avV];exact auW _,λx o J ag=>by simp only[World.cell?,fg.block x J]⟩
  have en:∀x,(aJ.row v (ch.map D.N) 1 9).es x->w.heap.size<=x:=λx J=>by
   obtain⟨n,c,aa,aF⟩:=J;rcases dQ.2 with⟨rfl,h0⟩|⟨GR,cap,fX,rfl,p5,GS,mw,nB,oi,oU⟩
   ·cases aa
   injection aa with aa;injection aa with aa;injection aa with aa;omega
  refine⟨v,.am v,λx=>if x<w.heap.size then C x else 0,aM [(2000,.row v (ch.map D.N) 1 9)],aq,⟨v,rfl,rfl⟩,.am v,⟨j5,fg.os,fg.tape,fg.output,λx J _=>⟨fg.block x J,by simp only[J,avV]⟩⟩,?_⟩
  have only:∀j o,aM [(2000,aJ.row v (ch.map D.N) 1 9)] j=some o->j=2000/\o=.row v (ch.map D.N) 1 9:=λj o ag=>by
   simp only[aM]at ag
   cases G:Nat.beq j 2000 with
   |true=>rw[G]at ag;exact⟨awI G,by simpa using ag.symm⟩
   |false=>rw[G]at ag;simp at ag
  refine⟨λj o ag=>?_,λj ez o bN x aZ h1 A _ _=>absurd ((only j o h1).1.trans (only ez bN A).1.symm) aZ,λj o x ag au=>?_⟩
  ·obtain⟨_,rfl⟩:=only j o ag;rcases dQ.2 with⟨rfl,h0⟩|⟨GR,cap,fX,rfl,p5,GS,mw,nB,oi,oU⟩
   ·have:ch=[]:=au1 h0;subst this;exact⟨none,0,rfl,auW _,au7 _,λx J=>(by cases J),λdT gR=>(by cases gR),λh=>absurd h auF⟩
   refine⟨_,cap,by rw[auS],by rw[auS];exact mw,nB,λx J=>by obtain⟨_,_,rfl⟩:=au_.1 J;rfl,λdT gR=>⟨GR,by cases gR;rfl,(awt.1 GS).1⟩,λ_=>⟨GR,fX,rfl,GS,oi,?_,λj d O=>?_⟩⟩
   ·exact auN auD
   rw[KL,au']at O
   cases J:ch[j]? with
   |none=>rw[J]at O;cases O
   |some x =>
    rw[J]at O;cases O
    have ad:j<ch.length:=(avk.1 J).1;have GU:(fX.toList.take (ch.length*1))[j]?=some (encStr x):=by rw[oU,au',J];rfl
    rw[avE,auO auD]at GU;exact⟨_,by simpa using GU,.N x,rfl⟩
  obtain⟨_,rfl⟩:=only j o ag;exact .inr (en x au)
end Go.bV.ct
namespace Go.Proofs
end Go.Proofs
namespace Go.bV.ct
open Go Go.Proofs Go.RowKit Go.Sort Go.Lib
variable{B:World}
def uT(l:List auM):List D:=l.map D.N
def mC(L:List auM):List auM:=L.mergeSort λx y=>decide (x<=y)
variable{dj:aJ}
theorem KM{a:Nat}{o:aJ}{s:Nat}(h:aM [(a,dj)] s=some o):s=a/\o=dj:=ayv
theorem apw(L:List auM)(v:Value)(h0:0<L.length)(aj:L.length<1000000):
  c8 Tryz.prog B 92 [.am v] (aM [(2000,.row v (uT L) 1 9)]) λd aO=>d=.bm []/\aO=aM [(2000,.row v (uT (mC L)) 1 9)]:=by
 refine⟨⟨_,Tryz.func92,rfl,by decide +kernel⟩,λw C args Ft p5 qE hH af=>?_⟩;obtain⟨nA,af⟩:=af
 match args,nA with
 |[a0],_ =>
  have h1:=(af 0 _ a0 rfl rfl).gh;subst h1;have dQ:ks w C a0 (uT L) 1 9:=hH.cl 2000 _ rfl;have fe:∀ai:List auM,(uT ai).length=ai.length:=λai=>by simp[uT]
  obtain⟨b,cap,vs,X,hc,hm,Z,G,gc,da,hcells⟩:=ks.pos dQ (i:=0) (by rw[fe];exact h0);have hcap:0<cap:=by rw[fe]at hc;omega
  have en:∀ai:List auM,∀x∈uT ai,x.cells=[x]:=λai x J=>by obtain⟨y,_,rfl⟩:=au_.1 J;rfl
  rw[rM (en L)]at hcells
  have Fk:=Any.slices_Sort_string Tryz.lays190 b 0 cap L w (λj ad=>by
    have gm:j<L.length:=by simpa using ad
    obtain⟨Q,a8,cN,_⟩:=hcells j (.N L[j]) (by simp[uT,gm]);refine⟨?_,by simp[World.frozen?,G]⟩;have aS:L.toArray[j]! = L[j]:=by simp[gm]
    rw[aS];simp only[World.cell?,G,avu]
    simp[a8,cN.kS,encStr]) (ij G) auD
  subst X;rw[fe]at dQ⊢;have fw:∀(xs:List D),aJ.es (.row (.slice (some ⟨b,0,none⟩) L.length cap) xs 1 9) b:=λxs=>⟨_,cap,rfl,hcap⟩;have ue:=hH.cQ 2000 _ b rfl ⟨_,cap,rfl,hcap⟩;refine Fk.mono ?_;rintro e w' ⟨rfl,m,os,rfl⟩;have Jo:(mC L).length=L.length:=axv _;have a1:=de.ID encStr w C b 0 m (mC L).toArray os da;refine⟨.tuple #[],.bm [],C,_,rfl,⟨rfl,rfl⟩,.bm [] [] rfl (λi d v O _=>by simp at O),?_,⟨λs o ag=>?_,λs bp o bN x aZ h1 A au c0=>?_,λs o x ag au=>?_⟩⟩
  ·exact⟨a1.ext,a1.os,a1.tape,a1.output,λx J bK=>a1.iB x J λe=>by subst e;exact bK ue⟩
  ·obtain⟨rfl,rfl⟩:=KM ag
   refine⟨some ⟨b,0,none⟩,cap,by rw[fe,Jo],by rw[fe]at hc⊢;omega,hm,λx J=>by rw[en _ x J];rfl,λdT gR=>⟨b,by cases gR;rfl,avx (ij G) a1.ext.size⟩,
    λ_=>⟨b,_,rfl,IC _ _ _ _ _ _ _ G,azo,da,λj d O=>?_⟩⟩
   rw[rM (en _)]at O;have ad:j<(mC L).length:=by have:=fu O;rwa [fe]at this
   have Ap:j<vs.size:=by rw[fe]at hc;simp at gc;omega
   have Fl:d=.N (mC L)[j]:=by simp[uT,ad]at O;exact O.symm
   subst Fl;refine⟨encStr (mC L)[j],?_,.N _,rfl⟩;have lF:j<(mC L).toArray.size:=by simpa using ad
   simp only[putCells,axw,awd Ap,av5,au7,true_and,avu,lF,avV,Nat.sub_zero];show some (if j<(mC L).toArray.size then encStr ((mC L).toArray[j]!)else vs[j])=_;rw[auO lF,getElem!_pos (mC L).toArray j lF];rfl
  ·obtain⟨rfl,_⟩:=KM h1;obtain⟨rfl,_⟩:=KM A;exact aZ rfl
  obtain⟨rfl,rfl⟩:=KM ag;obtain⟨dK,tP,f1,_⟩:=au;have:=pf f1;subst this
  exact .inl ue
end Go.bV.ct
namespace Go.bV
open Go Go.RowKit
variable{P:Program}{B:World}{al:Nat}{W:b5 P B al}{K:cM->av->Prop}
end Go.bV
namespace Go.bV.ct
open Go Go.Proofs
variable{B:World}{f:FuncId}{ds:List D}{a6:D->bH->Prop}{k:Nat}
theorem c8.s9{H:bH}{s:Nat}(h:H s=none)(hc:c4 B f ds bH.none a6):c4 B f ds (gy H [(k,s)]) a6:=by(have e:gy H [(k,s)]=bH.none:=by funext j;simp only[gy,bH.none];cases Nat.beq j k with|true=>exact h|false=>rfl);rw[e];exact hc
theorem apx(xs:List D):aT B 59 [.T .none 1 xs] (.fn (.func 93) [] [.a7 1 [.T .none 1 xs] 0 0]):=by refine bB Tryz.func59 Tryz.ntmps59 λW=>?_;refine cc ?_;intro dI;(conv=>whnf);refine Y.BP 1 1 (.T .none 1 xs) rfl rfl rfl rfl ?_;refine gp ?_;exact E
theorem apy(l:List auM)(h0:0<l.length)(aj:l.length<1000000):aT B 58 [.fn (.func 93) [] [.a7 1 [.T .none 1 (uT l)] 0 0]] (.T .none 1 (uT (mC l))):=by refine bB Tryz.func58 Tryz.ntmps58 λW=>?_;apply b1;refine qI ?_;refine .inr (ah.call rfl [.fn (.func 93) [] [.a7 1 [.T .none 1 (l.map D.N)] 0 0]] [(2000,70)] (c8.s9 rfl (apv l auD)) rfl an ?_);rintro d aO ⟨v,rfl,rfl⟩;refine⟨_,E,?_⟩;refine qI ?_;refine .inr (ah.call rfl [.am v] [(2000,70)] (c8.ae6 rfl (apw l v h0 aj)) rfl an ?_);rintro d aO ⟨rfl,rfl⟩;refine rP ?_;refine Y.fc [(3,.am v)] [(70,.row v (uT (mC l)) 1 9)] [(70,70)] ⟨an,rfl,a_⟩ ?_;refine Y.vp 70 3 rfl ?_;refine gp ?_;exact E
def aaO(s:auM):auM:=(([5]++[oQ (IntKind.wrap .u8 ((s2 s).1.length:Nat))])++[0,0])++(s2 s).1
def rp(ck s:auM):auM :=
 if(s==[])=true then ck else if(s==[46])=true then ck++[4,0,0,0]else if(s==[46,46])=true then ck++[3,0,0,0]else ck++aaO s
def xM(t:auM):auM:=if[47].isPrefixOf t=true then[2,0,0,0]else[]
def rq(t:auM):auM:=if[47].isPrefixOf t=true then t.drop 1 else t
def Dx(t:auM):auM:=(cO 47 [] (rq t)).foldl rp (xM t)
theorem apz(ck s:auM):(rp ck s).length<=ck.length+131077:=by have:=NX s;unfold rp;split;omega;split;simp;split;simp;simp only[aaO,auV,auX,avh];omega
theorem KN(t:auM):∀(l:List auM) (o:auM),(l.foldl rp o).length<=o.length+l.length*131077
 |[],o=>by simp
 |s::r,o=>by have h1:=KN t r (rp o s);have A:=apz o s;rw[awf,auX,awP];omega
theorem Rb(t:auM):(rq t).length<=t.length:=by unfold rq;split;rw[avX];omega;omega
theorem Rc(t:auM):(xM t).length<=4:=by unfold xM;split<;>simp
variable{i:Nat}
theorem apA{l:List auM}(h:i<l.length)(o:auM):(l.take (i+1)).foldl rp o=rp ((l.take i).foldl rp o) l[i]:=by rw[auU h,avW];rfl
theorem apB(n:Int):[D.int .u8 (IntKind.wrap .u8 n)]=([oQ (IntKind.wrap .u8 n)]).map λc=>D.int .u8 c.toNat:=ys [IntKind.wrap .u8 n] λm hm=>by
 rw[avs]at hm;subst hm;exact NW n
theorem apC(aX:dk B)(t:auM)(ax:t.length<1000000):aT B 269 [.N t] (.N (Dx t)):=by refine bB Tryz.func269 Tryz.ntmps269 λW=>?_;refine pl ?_;refine Y.k0 (α:=Unit) (λx=>[(0,.N (rq t)),(3,.N (xM t))]) (λx=>[]) ?_ ?_;refine go ?_;refine bq (adv t [47]) ?_;refine aI ([47].isPrefixOf t) rfl ?_ ?_<;>intro hc;refine Y.tL aN mixed auI ?_;refine go ?_;(have aw:1<=t.length:=by cases t with|nil=>cases hc|cons a r=>simp);refine⟨λ_=>by omega,?_⟩;refine go ?_;exact⟨(),[],⟨ap.of_eq (auP D.N (by rw[rq,auO hc,avq,au2];rfl)),ap.of_eq (auP D.N (by rw[xM,auO hc])),ak⟩,rfl,ak⟩;refine go ?_;exact⟨(),[],⟨ap.of_eq (auP D.N (by rw[rq,auN (by rw[hc];decide)])),ap.of_eq (auP D.N (by rw[xM,auN (by rw[hc];decide)])),ak⟩,rfl,ak⟩;rintro⟨⟩;have af:=Rb t;have ag:=Rc t;refine go ?_;refine bq (It aX (rq t) 47 auD) ?_;have dh:=(rZ (c:=47) (rq t) []).1;have yG:=(rZ (c:=47) (rq t) []).2;unfold Dx;generalize cO 47 [] (rq t)=P at*;generalize xM t=cL at*;refine go ?_;refine Y.loop (α:={i:Nat // i<=P.length}) (λx=>[(3,.N ((P.take x.1).foldl rp cL)),(13,.T .none 1 (aQ P)),(14,u ((aQ P).length:Nat)),(15,u x.1)]) (λ_=>[]) (λx=>P.length-x.1) ⟨0,by omega⟩ ⟨E,ap.jk _,E,E,ak⟩ trivial ?_;rintro⟨i,hi⟩;dsimp only at hi⊢;refine go ?_;refine aI (decide ((i:Int)<((aQ P).length:Nat))) rfl ?_ ?_<;>intro hc;apply ci;(have aG:i<P.length:=by simpa[aQ]using hc);have hx:=KN t (P.take i) cL;rw[au9,axm hi]at hx;have c2:=apA aG cL;generalize m8:(P.take i).foldl rp cL=bL at*;generalize hs:P[i]=s at*;refine gJ ?_;refine⟨λ_=>by simp[aQ];omega,?_⟩;refine go ?_;refine⟨.N s,λ_=>by simp[aQ,aG,hs],?_⟩;refine go ?_;refine aI (s==[]) rfl ?_ ?_<;>intro e6;refine go ?_;exact⟨⟨i+1,aG⟩,azj,⟨ap.of_eq (auP D.N (by rw[c2,rp,auO e6])),E,E,E,ak⟩,ak⟩;refine go ?_;refine aI (s==[46]) rfl ?_ ?_<;>intro bx;refine lZ ?_;refine mS ?_;exact⟨⟨i+1,aG⟩,azj,⟨ap.of_eq (auP D.N (by rw[c2,rp,auN (by rw[e6];decide),auO bx])),E,E,E,ak⟩,ak⟩;refine go ?_;refine aI (s==[46,46]) rfl ?_ ?_<;>intro eb;refine lZ ?_;refine mS ?_;exact⟨⟨i+1,aG⟩,azj,⟨ap.of_eq (auP D.N (by rw[c2,rp,auN (by rw[e6];decide),auN (by rw[bx];decide),auO eb])),E,E,E,ak⟩,ak⟩;apply eh;(have fe:s.length<1000000000:=by have:=yG s (hs ▸ auT aG);rw[avh]at this;omega);have lm:=NX s;refine lZ ?_;refine⟨[.N s],_,λ_=>VF aX s fe,an,?_⟩;(conv=>whnf);refine Y.Ef aN ?_;refine n7 ?_;refine .inr ?_;(conv=>whnf);refine oJ ?_;refine .inr (ah.va aN (aP:=[oQ (IntKind.wrap .u8 ((s2 s).1.length:Nat))]) (tg:=.dZ) rfl rfl rfl rfl rfl rfl (auP (D.T .dZ 1) (apB _)) ?_);refine wS ?_;refine pk ?_;refine pk ?_;refine mS ?_;exact⟨⟨i+1,aG⟩,azj,⟨ap.of_eq (auP D.N (by rw[c2,rp,auN (by rw[e6];decide),auN (by rw[bx];decide),auN (by rw[eb];decide)];rfl)),E,E,E,ak⟩,ak⟩;refine go ?_;(have cr:i=P.length:=by simp[aQ]at hc;omega);exact azf
theorem apD(t:auM)(ax:t.length<1000000):(Dx t).length<132000000000:=by have h1:=KN t (cO 47 [] (rq t)) (xM t);have A:=(rZ (c:=47) (rq t) []).1;have aa:=Rb t;have aF:=Rc t;unfold Dx;omega
def Bd(s:auM):Int:=(uh s false false).1
def ts(l:List U):Int:=l.foldl (λm k=>m+Bd k.name) (uh [] true true).1
def xN(n:U):Int:=if n.kind=2 then((Dx n.target).length:Nat)else ts n.F
theorem KO(s:auM)(d p:Bool):0<=(uh s d p).1/\(uh s d p).1<131200:=by have:=VH s d p;unfold uh;split;simp only[NV];rw[au4 auD];omega;simp
theorem Rd:∀(l:List U) (m:Int),0<=m->0<=l.foldl (λm k=>m+Bd k.name) m/\l.foldl (λm k=>m+Bd k.name) m<=m+131200*(l.length:Nat)
 |[],m,h=>by simp;exact h
 |k::r,m,h=>by have h1:=KO k.name false false;have A:=Rd r (m+Bd k.name) (by unfold Bd;omega);rw[awf,auX];unfold Bd at*;omega
theorem apE{l:List U}(h:i<l.length):ts (l.take (i+1))=ts (l.take i)+Bd l[i].name:=by rw[ts,ts,auU h,avW];rfl
theorem aaP(l:List U)(i:Nat)(h:l.length<1000000):0<=ts (l.take i)/\ts (l.take i)<131200*1000002:=by
 have h1:=KO [] true true;have A:=Rd (l.take i) (uh [] true true).1 h1.1;have aa:(l.take i).length<=l.length:=by rw[au9];omega
 unfold ts;omega
theorem apF(n:U)(Z:n.F.length<1000000)(ax:n.target.length<1000000):0<=xN n/\xN n<132000000000:=by have h1:=apD n.target ax;have A:=aaP n.F n.F.length Z;rw[au2]at A;unfold xN;split<;>omega
theorem apG(aX:dk B)(n:U)(Z:n.F.length<1000000)(ax:n.target.length<1000000)(iq:∀k∈n.F,k.name.length<1000000000):aT B 210 [az n] (u (xN n)):=by refine bB Tryz.func210 Tryz.ntmps210 λW=>?_;refine go ?_;intro dI;refine go ?_;refine aI (n.kind==2) rfl ?_ ?_<;>intro hc;refine go ?_;refine bq (apC aX n.target ax) ?_;rw[xN,auO (by simpa using hc)];exact E;refine go ?_;rw[xN,auN (by simpa using hc)];refine go ?_;refine bq (VI aX [] true true auG) ?_;refine Y.ee (α:={i:Nat // i<=n.F.length}) (λx=>[(3,u (ts (n.F.take x.1))),(22,.T .none 12 (n.F.map enc)),(23,u ((n.F.map enc).length:Nat)),(24,u x.1)]) (λ_=>[]) (λx=>n.F.length-x.1) ⟨0,by omega⟩ [] ⟨an,rfl,ak⟩ ?_;rintro⟨i,hi⟩;dsimp only at hi⊢;refine go ?_;refine aI (decide ((i:Int)<((n.F.map enc).length:Nat))) rfl ?_ ?_<;>intro hc;apply ci;(have aG:i<n.F.length:=by simpa using hc);have af:=aaP n.F i Z;have c2:=apE aG;have gd:=iq _ (auT aG);(have h4:(n.F.map enc)[i]?=some (az n.F[i]):=by simp[aG,qK]);have mg:=KO n.F[i].name false false;generalize gU:ts (n.F.take i)=S at*;refine gJ ?_;refine⟨λ_=>by rw[auS];omega,?_⟩;(conv=>whnf);refine⟨az n.F[i],λ_=>h4,?_⟩;refine go ?_;intro dW;refine go ?_;refine bq (VI aX n.F[i].name false false gd) ?_;exact⟨⟨i+1,aG⟩,[],ay',⟨ap.of_eq (auP (D.int .i64) c2.symm),E,E,E,ak⟩,rfl,ak⟩;refine go ?_;(have cr:i=n.F.length:=by simp at hc;omega);exact azf
structure aaQ where
 kind:Int
 node:Int
 ov:Int
 first:Int
 As:Int
def gH(x:aaQ):D:=.agg [u x.kind,u x.node,u x.ov,u x.first,u x.As]
structure kR where
 dJ:List aaQ
 count:Int
def e5(s:kR)(kind node ov aaR:Int):kR:=⟨s.dJ++[⟨kind,node,ov,s.count,k9 aaR⟩],s.count+(1+k9 aaR)⟩
def pS(cq:Nat)(dD dY:Value)(s:kR):List (Nat×aJ):=[(210,.box cq [.am dD,.T (.own 211 dY) 5 (s.dJ.map gH),u s.count]),(211,.own dY s.dJ.length 5 358)]
theorem Re{n:Int}(h0:0<=n)(h1:n<1000000000000):0<=k9 n/\k9 n<1000000000:=by unfold k9;split;omega;unfold kc;rw[au4 auD];omega
theorem Rf(cq:Nat)(dD dY:Value)(s:kR)(kind node ov c:Int)(h0:0<=c)(h1:c<1000000000000)(aj:s.dJ.length<100000000)(jn:0<=s.count)(e6:s.count<1000000000000000000):c4 B 211 [.box 210 cq 0,u kind,u node,u ov,u c] (aM (pS cq dD dY s)) λd aO=>d=.bm []/\∃apH,aO=aM (pS cq dD apH (e5 s kind node ov c)):=by refine jI Tryz.func211 Tryz.ntmps211 λW=>?_;have pc:=Re h0 h1;refine go ?_;have X9:=Vx (B:=B) c h0 h1;refine' eU (α:=Nat) [(210,.box cq [.am dD,.T (.own 211 dY) 5 (s.dJ.map gH),u s.count]),(211,.own dY s.dJ.length 5 358)] 0 (λmx=>[_,_,_,_,_,_,_,_,u (k9 c),_,.box 10 mx 0,.any]) (λmx=>[(10,10,some (.box mx [u 0,u 0,u 0,u 0,u 0])),(11,10,some (.box mx [u kind,u node,u ov,u s.count,u (k9 c)]))]) [0,0,0,0,8,24,56,0,128,511,0,2047] [(10,10),(11,10)] ?_ ?_;rotate_left 9;refine dB ?_;refine wR ?_;exact trivial;intro mx;(conv=>whnf);refine Y.fc [(0,.box 210 cq 0),(1,u kind),(2,u node),(3,u ov),(4,u c),(10,.box 10 mx 0)] [(210,.box cq [.am dD,.T (.own 211 dY) 5 (s.dJ.map gH),u s.count]),(211,.own dY s.dJ.length 5 358),(10,.box mx [u kind,u node,u ov,u s.count,u (k9 c)])] [(210,210),(211,211),(10,10)] ⟨cX,rfl,cX⟩ ?_;refine go ?_;refine' eU (α:=Value) [(210,.box cq ([.am dD,.T (.own 211 dY) 5 (s.dJ.map gH),u s.count])),(10,.box mx [u kind,u node,u ov,u s.count,u (k9 c)]),(211,.own dY s.dJ.length 5 358)] Value.nilFunc (λy=>[_,_,_,_,_,_,_,.T (.own 28 y) 5 (s.dJ.map gH++[D.agg [u kind,u node,u ov,u s.count,u (k9 c)]]),_,_,.any]) (λy=>[(7,211,none),(7,28,some (.own y (((s.dJ.map gH).length+([.agg [u kind,u node,u ov,u s.count,u (k9 c)]]:List D).length)) 5 358)),(10,210,some (.box cq ([.am dD,.T (.own 28 y) 5 (s.dJ.map gH++[D.agg [u kind,u node,u ov,u s.count,u (k9 c)]]),u s.count])))]) [0,0,2,6,14,0,32,126,255,511,1023] [(7,211),(7,28),(10,210)] ?_ ?_;rotate_left 9;refine dB ?_;refine B8 (λy=>?_) ?_;(conv=>whnf);refine⟨rfl,by simp,?_⟩;(conv=>whnf);refine⟨by show(_+1)*40<=_;simp;omega,by show _+1<=_;simp;omega,auK,λGV=>?_⟩;exact ed GV;refine Go.bV.ct.vs ?_;exact trivial;intro y;(conv=>whnf);refine Y.fc [(0,.box 210 cq 0),(10,.box 10 mx 0)] [(210,.box cq [.am dD,.T (.own 28 y) 5 (s.dJ.map gH++[D.agg [u kind,u node,u ov,u s.count,u (k9 c)]]),u s.count]),(10,.box mx [u kind,u node,u ov,u s.count,u (k9 c)]),(28,.own y (((s.dJ.map gH).length+([.agg [u kind,u node,u ov,u s.count,u (k9 c)]]:List D).length)) 5 358)] [(210,210),(10,10),(28,28)] ⟨cX,rfl,cX⟩ ?_;(conv=>whnf);(conv=>whnf);refine Y.jo 210 (dA:=[.am dD,.T (.own 211 y) 5 ((e5 s kind node ov c).dJ.map gH),u s.count]) rfl ⟨E,ap.i' (by simp[e5,gH]),E,ak⟩ ?_;refine Y.To ?_;refine Y.zI aN 7 mixed auI ?_;refine go ?_;exact⟨[],pS cq dD y (e5 s kind node ov c),[(210,210),(211,28)],⟨ak,rfl,rfl,rfl,rfl,jq (by simp[e5]),ak⟩,.bm [],ak,rfl,y,rfl⟩
mutual
def gQ:U->List U
 |.mk a b c d e f g h i j ae ch=>.mk a b c d e f g h i j ae ch::f_ ae
def f_:List U->List U
 |[]=>[]
 |n::r=>gQ n++f_ r
end
theorem apI(n:U):gQ n=n::f_ n.F:=by cases n;simp only[gQ]
theorem aaS:∀a b:List U,f_ (a++b)=f_ a++f_ b
 |[],b=>rfl
 |n::r,b=>by simp only[avQ,f_,aaS r b,avr]
theorem apJ{l:List U}(h:i<l.length):f_ (l.take (i+1))=f_ (l.take i)++gQ l[i]:=by rw[auU h,aaS];simp only[f_,avC]
mutual
theorem aaT:∀n:U,(gQ n).length<=aB n
 |.mk a b c d e f g h i j ae ch=>by
  have:=KP ae;simp only[gQ,auX,aB];omega
theorem KP:∀l:List U,(f_ l).length<=eD l
 |[]=>by simp[f_]
 |n::r=>by
  have h1:=aaT n;have A:=KP r;simp only[f_,auV,eD];omega
end
def mD(n:U)(K:D):D:=.agg [.N n.name,u n.kind,.N n.cU,.N n.target,u n.cu,u n.n2,u n.n3,u n.n4,u n.n5,u n.n6,.T .none 12 (n.F.map enc),.T .none 2 (n.bD.map cW),.any,.any,K,.any]
def cK(n:U):D:=mD n .any
variable{xs bl:List D}
theorem Rg{a b:D}(h:dO a.cells b.cells):dO (b4 (xs++a::bl)) (b4 (xs++b::bl)):=by
 have e:∀Q:D,b4 (xs++Q::bl)=b4 xs++(Q.cells++b4 bl):=λQ=>by simp[b4]
 rw[e,e];exact dO.l2 (dO.refl _) (dO.l2 h (dO.refl _))
theorem KQ{b:D}(h1:∀x∈xs,x.cells.length=k)(A:b.cells.length=k)(aa:∀x∈bl,x.cells.length=k):∀x∈xs++b::bl,x.cells.length=k:=λx J=>by
 rcases avf.1 J with h|h
 ·exact h1 x h
 rcases au8.1 h with rfl|h
 ·exact A
 exact aa x h
theorem apK{a b:D}(xs r:List D):(xs++a::r).set xs.length b=xs++b::r:=by simp
theorem GW(l:List U):∀x∈l.map cK,x.cells.length=16:=λx J=>by
 obtain⟨n,_,rfl⟩:=au_.1 J;rfl
def Rh(cq:Nat)(dD:Value)(xs:List D):List (Nat×aJ):=[(210,.box cq [.am dD,.bd,u 0]),(203,.row dD xs 16 296)]
theorem apL{n:U}(h:i<n.F.length):eD (n.F.take i)+aB n.F[i]+1<=aB n/\aB n.F[i]<aB n:=by(have h1:∀{l:List U} {i:Nat} (h:i<l.length),eD (l.take i)+aB l[i]<=eD l:=by intro l;induction l with|nil=>intro i h;simp at h|cons k r aV =>intro i h;(cases i with|zero=>simp only[aw2,eD,awQ];omega|succ i =>have:=aV (i:=i) (by simpa using h);simp only[awi,eD,av8];omega));have A:=h1 h;(have aa:eD n.F+1<=aB n:=by cases n;simp only[aB];omega);omega
theorem apM(cq:Nat):∀(bA:Nat) (n:U) (path:auM) (cv:Int) (xs:List D) (dD:Value),aB n<bA->path.length+aB n<1000000000->xs.length+aB n<10000000->(∀x∈xs,x.cells.length=16)->   c4 B 209 [.box 210 cq 0,az n,.N path,u cv] (aM (Rh cq dD xs)) λd aO=>d=u (xs.length:Nat)/\∃bS rr fa,aO=aM (Rh cq (.slice bS rr fa) (xs++(gQ n).map cK)):=by refine λbA=>Nat.rec (λn path cv xs dD h=>absurd h (av_ _)) (λbA aV n path cv xs dD hN aw J KR=>?_) bA;refine jI Tryz.func209 Tryz.ntmps209 λW=>?_;refine Y.B7 203 rfl (λa cap X _ _=>?_);subst X;refine cc ?_;intro cF;refine vd ?_;apply mj;apply cj;apply eh;refine' eU (α:=(Option Addr×Nat×Nat)) [(210,.box cq ([.am (.slice a xs.length cap),.bd,u 0])),(5,.box cF (az n).cells),(203,.row (.slice a xs.length cap) xs 16 296)] (none,0,0) (λsy=>[_,_,_,_,_,_,_,_,_,_,.am (.slice sy.1 sy.2.1 sy.2.2),_,_,.any]) (λsy=>[(10,203,none),(10,29,some (.row (.slice sy.1 sy.2.1 sy.2.2) (xs++[D.agg [.N n.name,u n.kind,.N n.cU,.N n.target,u n.cu,u n.n2,u n.n3,u n.n4,u n.n5,u n.n6,.T .none 12 (n.F.map enc),.T .none 2 (n.bD.map cW),.N path,u cv,.bd,u 0]]) 16 296)),(13,210,some (.box cq ([.am (.slice sy.1 sy.2.1 sy.2.2),.bd,u 0])))]) [0,0,2,6,14,0,0,0,224,480,1022,2047,4095,8191] [(10,203),(10,29),(13,210)] ?_ ?_;rotate_left 12;refine dB ?_;refine bQ (λsy=>ah.ph aN 203 rfl rfl rfl auK rfl rfl rfl auF (by show(_+1)*208<=_;omega) (by show _+1<=_;omega) (λbS rr fa=>ed (bS,rr,fa))) ?_;refine Go.bV.ct.vs ?_;exact trivial;intro sy;obtain⟨bS,rr,fa⟩:=sy;(conv=>whnf);refine Y.fc [(0,.box 210 cq 0),(2,.N path),(5,.box 5 cF 0),(9,u (xs.length:Nat))] [(210,.box cq [.am (.slice bS rr fa),.bd,u 0]),(5,.box cF (az n).cells),(29,.row (.slice bS rr fa) (xs++[D.agg [.N n.name,u n.kind,.N n.cU,.N n.target,u n.cu,u n.n2,u n.n3,u n.n4,u n.n5,u n.n6,.T .none 12 (n.F.map enc),.T .none 2 (n.bD.map cW),.N path,u cv,.bd,u 0]]) 16 296)] [(210,210),(5,5),(29,29)] ⟨cX,rfl,cX⟩ ?_;refine go ?_;have lm:=GW;refine Y.tR 205 1 3 ?_;refine Y.vk 29 (xs:=xs++[D.agg [.N n.name,u n.kind,.N n.cU,.N n.target,u n.cu,u n.n2,u n.n3,u n.n4,u n.n5,u n.n6,.T .none 12 (n.F.map enc),.T .none 2 (n.bD.map cW),.N path,u cv,.bd,u 0]]) (bl:=xs++[mD n (.T (.own 205 (.slice none 0 0)) 1 [])]) rfl auF (KQ KR rfl (λx J=>by cases J)) (Rg ⟨E,E,E,E,E,E,E,E,E,E,E,E,.any _,.any _,ap.vb,.any _,ak⟩) ?_;refine go ?_;refine Y.ee (α:={p:Nat×List D // p.1<=n.F.length/\p.2.length<=p.1}×Value×Value) (λx=>[(0,.box 210 cq 0),(2,.N path),(9,u (xs.length:Nat)),(33,.T .none 12 (n.F.map enc)),(34,u ((n.F.map enc).length:Nat)),(35,u (x.1.1.1:Nat))]) (λx=>[(210,.box cq [.am x.2.1,.bd,u 0]),(203,.row x.2.1 (xs++mD n (.T (.own 205 x.2.2) 1 x.1.1.2)::(f_ (n.F.take x.1.1.1)).map cK) 16 296),(205,.own x.2.2 x.1.1.2.length 1 3)]) (λx=>n.F.length-x.1.1.1) (⟨(0,[]),by simp,by simp⟩,.slice bS rr fa,.slice none 0 0) [(210,210),(203,29),(205,205)] ⟨an,rfl,a_⟩ ?_;rintro⟨⟨⟨i,ae⟩,hi,b2⟩,Ri,ed⟩;dsimp only at hi b2⊢;refine go ?_;refine aI (decide ((i:Int)<((n.F.map enc).length:Nat))) rfl ?_ ?_<;>intro hc;(·apply ci;(have aG:i<n.F.length:=by simpa using hc);(have h4:(n.F.map enc)[i]?=some (az n.F[i]):=by simp[aG,qK]);have apf:=EG aG;have at9:=j8 n;have apg:=apL aG;have dh:=KP (n.F.take i);have at_:=z7 n.F;have c2:=apJ aG;have apN:∀x∈xs++mD n (.T (.own 205 ed) 1 ae)::(f_ (n.F.take i)).map cK,x.cells.length=16:=KQ KR rfl (GW _);(have an2:(xs++mD n (.T (.own 205 ed) 1 ae)::(f_ (n.F.take i)).map cK).length=xs.length+1+(f_ (n.F.take i)).length:=by simp;omega);refine gJ ?_;refine⟨λ_=>by rw[auS];omega,?_⟩;(conv=>whnf);refine⟨az n.F[i],λ_=>h4,?_⟩;refine go ?_;intro yP;apply cj;refine kB ?_;generalize sV:n.F[i]=hS at*;refine Y.k0 (α:={b:auM // b.length<=path.length+1+hS.name.length}) (λx=>[(0,.box 210 cq 0),(2,.N path),(9,u (xs.length:Nat)),(11,.box 11 yP 0),(12,.N x.1),(33,.T .none 12 (n.F.map enc)),(34,u ((n.F.map enc).length:Nat)),(35,u (i:Nat))]) (λx=>[(210,.box cq [.am Ri,.bd,u 0]),(203,.row Ri (xs++mD n (.T (.own 205 ed) 1 ae)::(f_ (n.F.take i)).map cK) 16 296),(205,.own ed ae.length 1 3),(11,.box yP (az hS).cells)]) ?_ ?_;refine go ?_;refine aI (!(path==[])) rfl ?_ ?_<;>intro bx;refine lZ ?_;refine nn ?_;refine ej ?_;refine mS ?_;exact⟨⟨(path++[47])++hS.name,by simp;omega⟩,[(210,210),(203,203),(205,205),(11,11)],an,rfl,a_⟩;refine go ?_;exact⟨⟨hS.name,by omega⟩,[(210,210),(203,203),(205,205),(11,11)],an,rfl,a_⟩;rintro⟨below,at'⟩;refine go ?_;refine .inr (ah.call rfl [.box 210 cq 0,az hS,.N below,u (xs.length:Nat)] [(210,210),(203,203)] (c8.wW (by exact⟨rfl,a_⟩) (aV hS below (xs.length:Nat) (xs++mD n (.T (.own 205 ed) 1 ae)::(f_ (n.F.take i)).map cK) Ri auD auD auD apN)) rfl an ?_);rintro d aO ⟨rfl,a2,n2,ea,rfl⟩;refine p8 ?_;(have ii:(xs++mD n (.T (.own 205 ed) 1 ae)::(f_ (n.F.take i)).map cK)++(gQ hS).map cK=xs++mD n (.T (.own 205 ed) 1 ae)::(f_ (n.F.take (i+1))).map cK:=by rw[c2];simp);have eK:=KP (n.F.take (i+1));refine Y.fc [(0,.box 210 cq 0),(2,.N path),(9,u (xs.length:Nat)),(13,u ((xs++mD n (.T (.own 205 ed) 1 ae)::(f_ (n.F.take i)).map cK).length:Nat)),(33,.T .none 12 (n.F.map enc)),(34,u ((n.F.map enc).length:Nat)),(35,u (i:Nat))] [(210,.box cq [.am (.slice a2 n2 ea),.bd,u 0]),(203,.row (.slice a2 n2 ea) (xs++mD n (.T (.own 205 ed) 1 ae)::(f_ (n.F.take (i+1))).map cK) 16 296),(205,.own ed ae.length 1 3)] [(210,210),(203,203),(205,205)] ⟨an,rfl,rfl,rfl,rfl,auP (λQ=>some (aJ.row (.slice a2 n2 ea) Q 16 296)) ii,rfl,a_⟩ ?_;have apO:∀x∈(f_ (n.F.take (i+1))).map cK,x.cells.length=16:=GW _;generalize apP:(f_ (n.F.take (i+1))).map cK=Be at*;generalize(xs++mD n (.T (.own 205 ed) 1 ae)::(f_ (n.F.take i)).map cK).length=xO at*;(have bg:xs.length<(xs++mD n (.T (.own 205 ed) 1 ae)::Be).length:=by simp);(have jl:(xs++mD n (.T (.own 205 ed) 1 ae)::Be)[xs.length]?=some (mD n (.T (.own 205 ed) 1 ae)):=by simp);refine' eU (α:=Value) [(210,.box cq [.am (.slice a2 n2 ea),.bd,u 0]),(203,.row (.slice a2 n2 ea) (xs++mD n (.T (.own 205 ed) 1 ae)::Be) 16 296),(205,.own ed ae.length 1 3)] Value.nilFunc (λlk=>[_,_,_,_,_,_,_,_,_,_,.am (h5 (.slice a2 n2 ea) (((xs.length:Nat):Int).toNat*16)),.am (h5 (.slice a2 n2 ea) (((xs.length:Nat):Int).toNat*16+14)),.T (.own 205 ed) 1 ae,_,_,.T (.own 68 lk) 1 (ae++[u (xO:Nat)]),.am (h5 (.slice a2 n2 ea) (((xs.length:Nat):Int).toNat*16)),.am (h5 (.slice a2 n2 ea) (((xs.length:Nat):Int).toNat*16+14)),.any]) (λlk=>[(15,205,none),(15,68,some (.own lk (ae.length+[u (xO:Nat)].length) 1 3)),(18,203,some (.row (.slice a2 n2 ea) ((xs++mD n (.T (.own 205 ed) 1 ae)::Be).set xs.length (D.agg [.N n.name,u n.kind,.N n.cU,.N n.target,u n.cu,u n.n2,u n.n3,u n.n4,u n.n5,u n.n6,.T .none 12 (n.F.map enc),.T .none 2 (n.bD.map cW),.any,.any,.T (.own 68 lk) 1 (ae++[u (xO:Nat)]),.any])) 16 296))]) [0,1,3,7,0,0,32,96,224,0,992,2016,4064,0,8192,32736,65535,131071,262143] [(15,205),(15,68),(18,203)] ?_ ?_;rotate_left 12;refine dB ?_;refine bQ (λlk=>ah.eG aN 203 rfl rfl rfl rfl rfl rfl rfl auD (aw8.2 bg) (cB lk)) ?_;refine bQ (λlk=>ah.js aN 203 (i:=xs.length) rfl rfl bg rfl rfl rfl auG (cB lk)) ?_;refine bQ (λlk=>ah.n9 aN 203 (i:=xs.length) (j:=14) auJ rfl rfl jl (cB lk)) ?_;refine bQ (λlk=>ah.Tm aN 205 205 rfl rfl rfl auK rfl rfl rfl (by show(_+1)*8<=_;omega) (by show _+1<=_;omega) (λGV=>Go.bV.ct.ed GV)) ?_;refine bQ (λlk=>ah.eG aN 203 rfl rfl rfl rfl rfl rfl rfl auD (aw8.2 bg) (cB lk)) ?_;refine bQ (λlk=>ah.js aN 203 (i:=xs.length) rfl rfl bg rfl rfl rfl auG (cB lk)) ?_;refine bQ (λlk=>ah.vj aN 203 (i:=xs.length) (j:=14) auJ rfl rfl rfl jl auG rfl (cB lk)) ?_;exact trivial;intro lk;(conv=>whnf);refine Y.fc [(0,.box 210 cq 0),(2,.N path),(9,u (xs.length:Nat)),(33,.T .none 12 (n.F.map enc)),(34,u ((n.F.map enc).length:Nat)),(35,u (i:Nat))] [(210,.box cq [.am (.slice a2 n2 ea),.bd,u 0]),(203,.row (.slice a2 n2 ea) ((xs++mD n (.T (.own 205 ed) 1 ae)::Be).set xs.length (D.agg [.N n.name,u n.kind,.N n.cU,.N n.target,u n.cu,u n.n2,u n.n3,u n.n4,u n.n5,u n.n6,.T .none 12 (n.F.map enc),.T .none 2 (n.bD.map cW),.any,.any,.T (.own 68 lk) 1 (ae++[u (xO:Nat)]),.any])) 16 296),(68,.own lk (ae.length+[u (xO:Nat)].length) 1 3)] [(210,210),(203,203),(68,68)] ⟨cX,rfl,cX⟩ ?_;(conv=>whnf);refine Y.vk 203 (xs:=(xs++mD n (.T (.own 205 ed) 1 ae)::Be).set xs.length (D.agg [.N n.name,u n.kind,.N n.cU,.N n.target,u n.cu,u n.n2,u n.n3,u n.n4,u n.n5,u n.n6,.T .none 12 (n.F.map enc),.T .none 2 (n.bD.map cW),.any,.any,.T (.own 68 lk) 1 (ae++[u (xO:Nat)]),.any])) (bl:=xs++mD n (.T (.own 205 lk) 1 (ae++[u (xO:Nat)]))::Be) rfl auF (KQ KR rfl apO) (by rw[apK];exact Rg ⟨E,E,E,E,E,E,E,E,E,E,E,E,.any _,.any _,ap.own _ _,.any _,ak⟩) ?_;refine go ?_;exact⟨(⟨(i+1,ae++[u (xO:Nat)]),aG,by simp;omega⟩,.slice a2 n2 ea,lk),[(210,210),(203,203),(205,68)],ay',an,rfl,rfl,rfl,rfl,auP (λQ=>some (aJ.row (.slice a2 n2 ea) (xs++mD n (.T (.own 205 lk) 1 (ae++[u (xO:Nat)]))::Q) 16 296)) apP.symm,rfl,jq auF,ak⟩);(have cr:i=n.F.length:=by simp at hc;omega);subst cr;rw[au2];refine vf ?_;(have l0:(gQ n).map cK=cK n::(f_ n.F).map cK:=by rw[apI];rfl);refine Y.vk 203 (bl:=xs++cK n::(f_ n.F).map cK) rfl auF (KQ KR rfl (GW _)) (Rg ⟨E,E,E,E,E,E,E,E,E,E,E,E,.any _,.any _,.any _,.any _,ak⟩) ?_;refine Y.B7 203 rfl (λa3 pJ Ae _ _=>?_);subst Ae;refine cc ?_;refine Y.gS [(8,u (xs.length:Nat))] (Rh cq (.slice a3 _ pJ) (xs++cK n::(f_ n.F).map cK)) [(210,210),(203,203)] ⟨an,rfl,a_⟩ ?_;refine go ?_;exact⟨_,E,rfl,a3,_,pJ,by rw[l0];rfl⟩
variable{S:Type}
def tt{bL:Type}(f:S->Int->bL->S)(s:S)(l:List bL):S:=(l.foldl (λ(q:S×Int) a=>(f q.1 q.2 a,q.2+1)) (s,0)).1
theorem aaU{S bL:Type}(f:S->Int->bL->S)(s:S):∀(l:List bL) (k:Int),(l.foldl (λ(q:S×Int) a=>(f q.1 q.2 a,q.2+1)) (s,k)).2=k+(l.length:Nat)
 |[],k=>by simp
 |a::r,k=>by rw[awf,aaU f _ r,auX];omega
theorem Dy{bL:Type}(f:S->Int->bL->S)(s:S){l:List bL}(h:i<l.length):tt f s (l.take (i+1))=f (tt f s (l.take i)) (i:Nat) l[i]:=by have A:=aaU f s (l.take i) 0;rw[au9,axm auD,Int.zero_add]at A;rw[tt,tt,auU h,avW];simp only[awf,List.foldl_nil,A]
def hq(m:U):Int:=if m.kind=1 then 0 else xN m
def rs(i:Int)(s:kR)(l:List nr):kR:=tt (λs k x=>e5 s 2 i k (x.target.length:Nat)) s l
def sz(s:kR)(i:Int)(m:U):kR:=if 0<m.bD.length then rs i (e5 (e5 s 0 i 0 (hq m)) 1 i 0 0) m.bD else e5 s 0 i 0 (hq m)
def lR(l:List U):kR:=tt sz ⟨[],0⟩ l
structure zk (s:kR) (n:Nat):Prop where
 len:s.dJ.length<=n
 mu:0<=s.count
 ff:s.count<=(s.dJ.length:Nat)*1000000001
theorem zk.put{s:kR}{n:Nat}(h:zk s n){a b c d:Int}(h0:0<=d)(h1:d<1000000000000):zk (e5 s a b c d) (n+1):=by have:=Re h0 h1;obtain⟨g1,fI,g3⟩:=h;refine⟨?_,?_,?_⟩;simp only[e5,auV,auX,avh];omega;simp only[e5];omega;simp only[e5,auV,auX,avh];omega
def qw:List U->Nat
 |[]=>0
 |n::r=>2+n.bD.length+qw r
theorem GX:∀a b:List U,qw (a++b)=qw a+qw b
 |[],b=>by simp[qw]
 |n::r,b=>by simp only[avQ,qw,GX r b];omega
mutual
theorem KS:∀n:U,qw (gQ n)<=aB n
 |.mk a b c d e f g h i j ae ch=>by
  have h1:=aaV ae;have A:=EH ch;simp only[gQ,qw,aB];omega
theorem aaV:∀l:List U,qw (f_ l)<=eD l
 |[]=>by simp[f_,qw]
 |n::r=>by
  have h1:=KS n;have A:=aaV r;simp only[f_,GX,eD];omega
end
mutual
theorem KT:∀n:U,∀m∈gQ n,aB m<=aB n
 |.mk a b c d e f g h i j ae ch,m,hm=>by
  simp only[gQ,au8]at hm;rcases hm with rfl|hm
  ·exact auW _
  have:=aaW ae m hm;simp only[aB];omega
theorem aaW:∀l:List U,∀m∈f_ l,aB m<=eD l
 |[],m,hm=>by simp[f_]at hm
 |n::r,m,hm=>by
  simp only[f_,avf]at hm;rcases hm with hm|hm
  ·have:=KT n m hm;simp only[eD];omega
  have:=aaW r m hm;simp only[eD];omega
end
theorem Rj{s:kR}{n:Nat}(h:zk s n)(i:Int){l:List nr}(aj:∀x∈l,(x.target.length:Int)<1000000000000):∀k,k<=l.length->zk (rs i s (l.take k)) (n+k)
 |0,_=>h
 |k+1,Z=>by rw[rs,Dy _ _ (show k<l.length by omega)];exact(Rj h i aj k auD).put auD (aj _ (auT _))
theorem aaX(m:U)(hm:aB m<1000000):0<=hq m/\hq m<1000000000000:=by have h1:=j8 m;have A:=z7 m.F;have:=apF m auD auD;unfold hq;split<;>omega
theorem Rk{m:U}(hm:aB m<1000000):∀x∈m.bD,(x.target.length:Int)<1000000000000:=λx J=>by
 obtain⟨k,Z,rfl⟩:=avm.1 J;have h1:=H7 Z;have A:=j8 m;omega
theorem apQ{s:kR}{n:Nat}(h:zk s n)(i:Int){m:U}(hm:aB m<1000000):zk (sz s i m) (n+2+m.bD.length):=by have hc:=aaX m hm;have h1:=h.put (a:=0) (b:=i) (c:=0) hc.1 hc.2;have A:=h1.put (a:=1) (b:=i) (c:=0) (d:=0) auG auG;unfold sz;split;have:=Rj A i (Rk hm) m.bD.length (auW _);rw[au2]at this;exact this;exact⟨by have:=h1.len;omega,h1.mu,h1.ff⟩
theorem KU{l:List U}(aj:∀m∈l,aB m<1000000):∀k,k<=l.length->zk (lR (l.take k)) (qw (l.take k))
 |0,_=>⟨auW _,avK _,by show(0:Int)<=_;simp[lR,tt]⟩
 |k+1,Z=>by(have fv:k<l.length:=by omega);rw[lR,Dy _ _ fv,auU fv,GX];have:=apQ (KU aj k auD) (k:Nat) (aj _ (auT fv));exact⟨av6 this.len (by simp only[qw];omega),this.mu,this.ff⟩
def aaY(cq:Nat)(dD dY:Value)(s:kR)(xs:List D):List (Nat×aJ):=[(210,.box cq [.am dD,.T (.own 211 dY) 5 (s.dJ.map gH),u s.count]),(211,.own dY s.dJ.length 5 358),(203,.row dD xs 16 296)]
theorem apR(aX:dk B)(n ct:U)(Dz:aT B 208 [u 3,az n] (.bm [az ct,u 0]))(uQ:aB ct<1000000):c4 B 140 [az n] bH.none λd aO=>∃cq dD dY,d=.box 210 cq 0/\aO=aM (pS cq dD dY (lR (gQ ct))):=by refine jI Tryz.func140 Tryz.ntmps140 λW=>?_;refine cc ?_;intro dI;refine np ?_;apply cj;refine jp ?_;refine⟨[u 3,az n],_,λ_=>Dz,an,?_⟩;apply ei;apply ei;apply ei;refine jp ?_;intro el;apply ei;apply cj;refine jp ?_;refine Y.fc [(3,.box 3 el 0)] [(3,.box el (az ct).cells)] [(3,3)] (by exact⟨an,rfl,a_⟩) ?_;refine np ?_;refine jp ?_;intro er;refine jp ?_;refine Y.fc [(3,.box 3 el 0),(5,.box 17 er 0)] [(3,.box el (az ct).cells),(17,.box er [.bd,.bd,u 0])] [(3,3),(17,17)] (by exact⟨an,rfl,a_⟩) ?_;(conv=>whnf);refine Y.qF 203 16 296 ?_;refine Y.jo 17 (dA:=[.am (.slice none 0 0),.bd,u 0]) rfl ⟨ap.rO,E,E,ak⟩ ?_;refine np ?_;apply ei;apply cj;apply tU;refine ah.call rfl [.box 210 er 0,az ct,.N [],u 0] [(210,17),(203,203)] (c8.wW (by exact⟨rfl,a_⟩) (apM er (aB ct+1) ct [] 0 [] (.slice none 0 0) auD auE auE (λx J=>by cases J))) rfl ⟨ap.box,E,E,E,ak⟩ ?_;rintro d aO ⟨rfl,bS,rr,fa,rfl⟩;refine rP ?_;refine Y.fc [(5,.box 17 er 0)] [(17,.box er [.am (.slice bS rr fa),.bd,u 0]),(203,.row (.slice bS rr fa) ((gQ ct).map cK) 16 296)] [(17,17),(203,203)] (by exact⟨an,rfl,a_⟩) ?_;(conv=>whnf);refine Y.fc [(5,.box 210 er 0)] [(210,.box er [.am (.slice bS rr fa),.bd,u 0]),(203,.row (.slice bS rr fa) ((gQ ct).map cK) 16 296)] [(210,17),(203,203)] (by exact⟨⟨ap.box,ak⟩,rfl,a_⟩) ?_;refine Y.tR 211 5 358 ?_;refine Y.jo 210 (dA:=[.am (.slice bS rr fa),.T (.own 211 (.slice none 0 0)) 5 [],u 0]) rfl ⟨E,ap.vb,E,ak⟩ ?_;have aaZ:∀m∈gQ ct,aB m<1000000:=λm hm=>Nat.lt_of_le_of_lt (KT ct m hm) uQ;have aua:=KS ct;have Gq:=aaT ct;have apS:∀x∈(gQ ct).map cK,x.cells.length=16:=GW _;generalize gQ ct=P at*;refine Y.B7 203 rfl (λa4 s1 apT _ _=>?_);(obtain⟨rfl,rfl,rfl⟩:bS=a4/\rr=(P.map cK).length/\fa=s1:=by simpa using apT);apply n0;refine tW ?_;apply ei;apply ei;apply ei;apply cj;apply ei;refine jp ?_;refine Y.fc [(5,.box 210 er 0),(25,u ((P.map cK).length:Nat)),(26,u 0)] [(210,.box er [.am (.slice bS (P.map cK).length fa),.T (.own 211 (.slice none 0 0)) 5 [],u 0]),(211,.own (.slice none 0 0) 0 5 358),(203,.row (.slice bS (P.map cK).length fa) (P.map cK) 16 296)] [(210,210),(211,211),(203,203)] (by exact⟨an,rfl,a_⟩) ?_;apply n1;refine Y.ee (α:={i:Nat // i<=P.length}×Value) (λx=>[(5,.box 210 er 0),(25,u ((P.map cK).length:Nat)),(26,u (x.1.1:Nat))]) (λx=>aaY er (.slice bS (P.map cK).length fa) x.2 (lR (P.take x.1.1)) (P.map cK)) (λx=>P.length-x.1.1) (⟨0,by omega⟩,.slice none 0 0) [(210,210),(211,211),(203,203)] ⟨an,rfl,a_⟩ ?_;rintro⟨⟨i,hi⟩,dY⟩;dsimp only at hi⊢;apply b1;apply eh;refine aI (decide ((i:Int)<((P.map cK).length:Nat))) rfl ?_ ?_<;>intro hc;(·apply ci;(have aG:i<P.length:=by simpa using hc);have ik:=KU aaZ i auD;have c2:lR (P.take (i+1))=sz (lR (P.take i)) (i:Nat) P[i]:=Dy _ _ aG;have hQ:=aaZ _ (auT aG);(have lm:qw (P.take i)+2+P[i].bD.length<=qw P:=by have h1:=GX (P.take (i+1)) (P.drop (i+1));rw[awb,auU aG,GX]at h1;simp only[qw]at h1;omega);(have jl:(P.map cK)[i]?=some (cK P[i]):=by simp[aG]);(have bg:i<(P.map cK).length:=by simpa using aG);have hsz:=j8 P[i];have eK:=z7 P[i].F;have i6:=EH P[i].bD;(have gd:∀k∈P[i].F,k.name.length<1000000000:=λk Z=>by obtain⟨j,ad,rfl⟩:=avm.1 Z;have:=EG ad;omega);have w4:=ik.len;have J8:=ik.mu;have nb:=ik.ff;generalize gU:lR (P.take i)=s at*;generalize gT:P[i]=m at*;refine jJ ?_;refine np ?_;refine jp ?_;refine Y.fc [(5,.box 210 er 0),(6,u (i:Nat)),(25,u ((P.map cK).length:Nat)),(26,u (i:Nat))] [(210,.box er [.am (.slice bS (P.map cK).length fa),.T (.own 211 dY) 5 (s.dJ.map gH),u s.count]),(211,.own dY s.dJ.length 5 358),(203,.row (.slice bS (P.map cK).length fa) (P.map cK) 16 296)] [(210,210),(211,211),(203,203)] (by exact⟨an,rfl,a_⟩) ?_;refine np ?_;apply ei;apply ei;apply ei;apply cj;apply ei;apply tU;refine ah.eG aN 203 rfl rfl rfl rfl rfl rfl rfl auD (aw8.2 bg) ?_;apply tU;refine ah.js aN 203 (i:=i) rfl rfl bg rfl rfl rfl auG ?_;apply tU;refine ah.n9 aN 203 (i:=i) (j:=0) auJ rfl rfl jl ?_;refine jp ?_;intro dM;apply ei;refine ej ?_;refine Y.fc [(5,.box 210 er 0),(6,u (i:Nat)),(7,.box 7 dM 0),(25,u ((P.map cK).length:Nat)),(26,u (i:Nat))] [(210,.box er [.am (.slice bS (P.map cK).length fa),.T (.own 211 dY) 5 (s.dJ.map gH),u s.count]),(211,.own dY s.dJ.length 5 358),(203,.row (.slice bS (P.map cK).length fa) (P.map cK) 16 296),(7,.box dM (az m).cells)] [(210,210),(211,211),(203,203),(7,7)] (by exact⟨an,rfl,a_⟩) ?_;apply eh;refine' eU (α:=Unit) [(210,.box er [.am (.slice bS (P.map cK).length fa),.T (.own 211 dY) 5 (s.dJ.map gH),u s.count]),(211,.own dY s.dJ.length 5 358),(7,.box dM (az m).cells),(203,.row (.slice bS (P.map cK).length fa) (P.map cK) 16 296)] () (λ_=>[_,_,_,_,_,_,_,_,_,_,.am (h5 (.slice bS (P.map cK).length fa) (((i:Nat):Int).toNat*16)),.am (h5 (.slice bS (P.map cK).length fa) (((i:Nat):Int).toNat*16+15)),.any]) (λ_=>[(12,203,some (.row (.slice bS (P.map cK).length fa) ((P.map cK).set i (D.agg [.N m.name,u m.kind,.N m.cU,.N m.target,u m.cu,u m.n2,u m.n3,u m.n4,u m.n5,u m.n6,.T .none 12 (m.F.map enc),.T .none 2 (m.bD.map cW),.any,.any,.any,u ((s.dJ.map gH).length:Nat)])) 16 296))]) [0,1,3,7,0,0,32,96,224,480,1023,2047,4095] [(12,203)] ?_ ?_;rotate_left 10;refine dB ?_;refine bQ (λ_=>ah.eG aN 203 rfl rfl rfl rfl rfl rfl rfl auD (aw8.2 bg) (ed ())) ?_;refine bQ (λ_=>ah.js aN 203 (i:=i) rfl rfl bg rfl rfl rfl auG (ed ())) ?_;refine bQ (λ_=>ah.vj aN 203 (i:=i) (j:=15) auJ rfl rfl rfl jl auG rfl (ed ())) ?_;exact trivial;intro _;(conv=>whnf);refine Y.fc [(5,.box 210 er 0),(6,u (i:Nat)),(7,.box 7 dM 0),(25,u ((P.map cK).length:Nat)),(26,u (i:Nat))] [(210,.box er [.am (.slice bS (P.map cK).length fa),.T (.own 211 dY) 5 (s.dJ.map gH),u s.count]),(211,.own dY s.dJ.length 5 358),(7,.box dM (az m).cells),(203,.row (.slice bS (P.map cK).length fa) ((P.map cK).set i (D.agg [.N m.name,u m.kind,.N m.cU,.N m.target,u m.cu,u m.n2,u m.n3,u m.n4,u m.n5,u m.n6,.T .none 12 (m.F.map enc),.T .none 2 (m.bD.map cW),.any,.any,.any,u ((s.dJ.map gH).length:Nat)])) 16 296)] [(210,210),(211,211),(7,7),(203,203)] ⟨cX,rfl,cX⟩ ?_;(conv=>whnf);refine Y.vk 203 (bl:=P.map cK) rfl auF apS (by(have e:P.map cK=(P.map cK).set i (cK m):=by apply av2;intro j;by_cases h:i=j;subst h;rw[jl,aw3 bg];rw[ax6 h]);(conv=>rhs;rw[e]);exact dO.b4 auF λj x y J hy=>by by_cases ad:i=j;subst ad;rw[aw3 bg]at J hy;cases J;cases hy;exact⟨E,E,E,E,E,E,E,E,E,E,E,E,.any _,.any _,.any _,.any _,ak⟩;rw[ax6 ad]at J hy;rw[J]at hy;cases hy;exact dO.refl _) ?_;refine np ?_;(conv=>whnf);refine Y.fc [(5,.box 210 er 0),(6,u (i:Nat)),(7,.box 7 dM 0),(8,u 0),(25,u ((P.map cK).length:Nat)),(26,u (i:Nat))] [(210,.box er [.am (.slice bS (P.map cK).length fa),.T (.own 211 dY) 5 (s.dJ.map gH),u s.count]),(211,.own dY s.dJ.length 5 358),(203,.row (.slice bS (P.map cK).length fa) (P.map cK) 16 296),(7,.box dM (az m).cells)] [(210,210),(211,211),(203,203),(7,7)] (by exact⟨an,rfl,a_⟩) ?_;(conv=>whnf);refine Y.k0 (α:=Unit) (λx=>[(5,.box 210 er 0),(6,u (i:Nat)),(7,.box 7 dM 0),(25,u ((P.map cK).length:Nat)),(26,u (i:Nat)),(8,u (hq m))]) (λx=>[(210,.box er [.am (.slice bS (P.map cK).length fa),.T (.own 211 dY) 5 (s.dJ.map gH),u s.count]),(211,.own dY s.dJ.length 5 358),(203,.row (.slice bS (P.map cK).length fa) (P.map cK) 16 296),(7,.box dM (az m).cells)]) ?_ ?_;refine np ?_;apply ei;apply cj;refine jp ?_;refine Y.fc [(5,.box 210 er 0),(6,u (i:Nat)),(7,.box 7 dM 0),(8,u 0),(25,u ((P.map cK).length:Nat)),(26,u (i:Nat)),(51,.bool ((m.kind:Int)!=(1:Int)))] [(210,.box er [.am (.slice bS (P.map cK).length fa),.T (.own 211 dY) 5 (s.dJ.map gH),u s.count]),(211,.own dY s.dJ.length 5 358),(203,.row (.slice bS (P.map cK).length fa) (P.map cK) 16 296),(7,.box dM (az m).cells)] [(210,210),(211,211),(203,203),(7,7)] (by exact⟨an,rfl,a_⟩) ?_;refine aI (m.kind !=1) rfl ?_ ?_<;>intro bx;refine tW ?_;apply cj;refine jp ?_;refine⟨[az m],_,λ_=>apG aX m auD auD gd,an,?_⟩;refine jp ?_;exact⟨(),[(210,210),(211,211),(203,203),(7,7)],⟨E,E,E,E,E,ap.of_eq (auP (D.int .i64) (by rw[hq,auN (by simpa using bx)])),ak⟩,rfl,a_⟩;refine eY ?_;exact⟨(),[(210,210),(211,211),(203,203),(7,7)],⟨E,E,E,E,E,ap.of_eq (auP (D.int .i64) (by rw[hq,auO (by simpa using bx)])),ak⟩,rfl,a_⟩;rintro⟨⟩;have Fv:=aaX m hQ;have hj:=ik.put (a:=0) (b:=(i:Nat)) (c:=0) Fv.1 Fv.2;have kA:=hj.len;have nw:=hj.mu;have U_:=hj.ff;refine np ?_;apply ei;apply ei;apply tU;refine ah.call rfl [.box 210 er 0,u 0,u (i:Nat),u 0,u (hq m)] [(210,210),(211,211)] (c8.wW (by exact⟨rfl,a_⟩) (Rf er (.slice bS (P.map cK).length fa) dY s 0 (i:Nat) 0 (hq m) Fv.1 Fv.2 auD auD auD)) rfl an ?_;rintro d aO ⟨rfl,DA,rfl⟩;refine rP ?_;refine Y.fc [(5,.box 210 er 0),(6,u (i:Nat)),(7,.box 7 dM 0),(25,u ((P.map cK).length:Nat)),(26,u (i:Nat))] [(210,.box er [.am (.slice bS (P.map cK).length fa),.T (.own 211 DA) 5 ((e5 s 0 (i:Nat) 0 (hq m)).dJ.map gH),u (e5 s 0 (i:Nat) 0 (hq m)).count]),(211,.own DA (e5 s 0 (i:Nat) 0 (hq m)).dJ.length 5 358),(203,.row (.slice bS (P.map cK).length fa) (P.map cK) 16 296),(7,.box dM (az m).cells)] [(210,210),(211,211),(203,203),(7,7)] (by exact⟨an,rfl,a_⟩) ?_;refine np ?_;apply ei;apply cj;apply ei;refine jp ?_;refine Y.fc [(5,.box 210 er 0),(6,u (i:Nat)),(7,.box 7 dM 0),(25,u ((P.map cK).length:Nat)),(26,u (i:Nat)),(61,.bool (decide ((0:Int)<(((m.bD.map cW).length:Nat):Int))))] [(210,.box er [.am (.slice bS (P.map cK).length fa),.T (.own 211 DA) 5 ((e5 s 0 (i:Nat) 0 (hq m)).dJ.map gH),u (e5 s 0 (i:Nat) 0 (hq m)).count]),(211,.own DA (e5 s 0 (i:Nat) 0 (hq m)).dJ.length 5 358),(203,.row (.slice bS (P.map cK).length fa) (P.map cK) 16 296),(7,.box dM (az m).cells)] [(210,210),(211,211),(203,203),(7,7)] (by exact⟨an,rfl,a_⟩) ?_;refine aI (decide ((0:Int)<((m.bD.map cW).length:Nat))) rfl ?_ ?_<;>intro eb;have jP:=hj.put (a:=1) (b:=(i:Nat)) (c:=0) (d:=0) auG auG;have sa:=Rj jP (i:Nat) (Rk hQ);have pL:sz s (i:Nat) m=rs (i:Nat) (e5 (e5 s 0 (i:Nat) 0 (hq m)) 1 (i:Nat) 0 0) m.bD:=auO (by simpa using eb);refine np ?_;apply ei;apply tU;refine ah.call rfl [.box 210 er 0,u 1,u (i:Nat),u 0,u 0] [(210,210),(211,211)] (c8.wW (by exact⟨rfl,a_⟩) (Rf er (.slice bS (P.map cK).length fa) DA (e5 s 0 (i:Nat) 0 (hq m)) 1 (i:Nat) 0 0 auG auG auD auD auD)) rfl an ?_;rintro d aO ⟨rfl,GY,rfl⟩;refine rP ?_;refine Y.fc [(5,.box 210 er 0),(6,u (i:Nat)),(7,.box 7 dM 0),(25,u ((P.map cK).length:Nat)),(26,u (i:Nat))] [(210,.box er [.am (.slice bS (P.map cK).length fa),.T (.own 211 GY) 5 ((e5 (e5 s 0 (i:Nat) 0 (hq m)) 1 (i:Nat) 0 0).dJ.map gH),u (e5 (e5 s 0 (i:Nat) 0 (hq m)) 1 (i:Nat) 0 0).count]),(211,.own GY (e5 (e5 s 0 (i:Nat) 0 (hq m)) 1 (i:Nat) 0 0).dJ.length 5 358),(203,.row (.slice bS (P.map cK).length fa) (P.map cK) 16 296),(7,.box dM (az m).cells)] [(210,210),(211,211),(203,203),(7,7)] (by exact⟨an,rfl,a_⟩) ?_;refine np ?_;apply ei;apply cj;apply ei;refine jp ?_;refine Y.fc [(5,.box 210 er 0),(6,u (i:Nat)),(25,u ((P.map cK).length:Nat)),(26,u (i:Nat)),(66,.T .none 2 (m.bD.map cW)),(67,u ((m.bD.map cW).length:Nat)),(68,u 0)] [(210,.box er [.am (.slice bS (P.map cK).length fa),.T (.own 211 GY) 5 ((e5 (e5 s 0 (i:Nat) 0 (hq m)) 1 (i:Nat) 0 0).dJ.map gH),u (e5 (e5 s 0 (i:Nat) 0 (hq m)) 1 (i:Nat) 0 0).count]),(211,.own GY (e5 (e5 s 0 (i:Nat) 0 (hq m)) 1 (i:Nat) 0 0).dJ.length 5 358),(203,.row (.slice bS (P.map cK).length fa) (P.map cK) 16 296),(7,.box dM (az m).cells)] [(210,210),(211,211),(203,203),(7,7)] (by exact⟨an,rfl,a_⟩) ?_;apply n1;refine Y.ee (α:={k:Nat // k<=m.bD.length}×Value) (λx=>[(5,.box 210 er 0),(6,u (i:Nat)),(25,u ((P.map cK).length:Nat)),(26,u (i:Nat)),(66,.T .none 2 (m.bD.map cW)),(67,u ((m.bD.map cW).length:Nat)),(68,u (x.1.1:Nat))]) (λx=>aaY er (.slice bS (P.map cK).length fa) x.2 (rs (i:Nat) (e5 (e5 s 0 (i:Nat) 0 (hq m)) 1 (i:Nat) 0 0) (m.bD.take x.1.1)) (P.map cK)) (λx=>m.bD.length-x.1.1) (⟨0,by omega⟩,GY) [(210,210),(211,211),(203,203)] ⟨an,rfl,a_⟩ ?_;rintro⟨⟨k,Z⟩,KV⟩;dsimp only at Z⊢;apply b1;apply eh;refine aI (decide ((k:Int)<((m.bD.map cW).length:Nat))) rfl ?_ ?_<;>intro od;apply ci;(have iI:k<m.bD.length:=by simpa using od);have Rl:=sa k Z;have pi:rs (i:Nat) (e5 (e5 s 0 (i:Nat) 0 (hq m)) 1 (i:Nat) 0 0) (m.bD.take (k+1))=_:=Dy _ _ iI;have AF:=Rk hQ _ (auT iI);(have uR:(m.bD.map cW)[k]?=some (cW m.bD[k]):=by simp[iI]);have Wz:=Rl.len;have aub:=Rl.mu;have auc:=Rl.ff;generalize hT:rs (i:Nat) (e5 (e5 s 0 (i:Nat) 0 (hq m)) 1 (i:Nat) 0 0) (m.bD.take k)=t at*;change _=e5 (rs (i:Nat) (e5 (e5 s 0 (i:Nat) 0 (hq m)) 1 (i:Nat) 0 0) (m.bD.take k)) 2 (i:Nat) (k:Nat) (m.bD[k].target.length:Nat)at pi;rw[hT]at pi;generalize m.bD[k]=mZ at*;refine jJ ?_;refine np ?_;refine jp ?_;refine⟨λ_=>by rw[auS];omega,?_⟩;refine jp ?_;refine⟨cW mZ,λ_=>uR,?_⟩;refine jp ?_;intro jS;apply ei;apply ei;refine ej ?_;refine Y.fc [(5,.box 210 er 0),(6,u (i:Nat)),(25,u ((P.map cK).length:Nat)),(26,u (i:Nat)),(66,.T .none 2 (m.bD.map cW)),(67,u ((m.bD.map cW).length:Nat)),(68,u (k:Nat)),(9,u (k:Nat)),(10,.box 10 jS 0)] [(210,.box er [.am (.slice bS (P.map cK).length fa),.T (.own 211 KV) 5 (t.dJ.map gH),u t.count]),(211,.own KV t.dJ.length 5 358),(203,.row (.slice bS (P.map cK).length fa) (P.map cK) 16 296),(10,.box jS (cW mZ).cells)] [(210,210),(211,211),(203,203),(10,10)] (by exact⟨an,rfl,a_⟩) ?_;(conv=>whnf);refine tW ?_;apply ei;apply ei;apply ei;apply ei;apply cj;apply ei;apply tU;refine ah.call rfl [.box 210 er 0,u 2,u (i:Nat),u (k:Nat),u (mZ.target.length:Nat)] [(210,210),(211,211)] (c8.wW (by exact⟨rfl,a_⟩) (Rf er (.slice bS (P.map cK).length fa) KV t 2 (i:Nat) (k:Nat) (mZ.target.length:Nat) auD AF auD auD auD)) rfl an ?_;rintro d aO ⟨rfl,Rm,rfl⟩;refine rP ?_;refine Y.fc [(5,.box 210 er 0),(6,u (i:Nat)),(25,u ((P.map cK).length:Nat)),(26,u (i:Nat)),(66,.T .none 2 (m.bD.map cW)),(67,u ((m.bD.map cW).length:Nat)),(68,u (k:Nat))] [(210,.box er [.am (.slice bS (P.map cK).length fa),.T (.own 211 Rm) 5 ((e5 t 2 (i:Nat) (k:Nat) (mZ.target.length:Nat)).dJ.map gH),u (e5 t 2 (i:Nat) (k:Nat) (mZ.target.length:Nat)).count]),(211,.own Rm (e5 t 2 (i:Nat) (k:Nat) (mZ.target.length:Nat)).dJ.length 5 358),(203,.row (.slice bS (P.map cK).length fa) (P.map cK) 16 296),(10,.box jS (cW mZ).cells)] [(210,210),(211,211),(203,203),(10,10)] (by exact⟨an,rfl,a_⟩) ?_;refine ml ?_;exact⟨(⟨k+1,iI⟩,Rm),[(210,210),(211,211),(203,203)],by show m.bD.length-(k+1)<m.bD.length-k;omega,an,rfl,rfl,(by rw[pi];rfl),rfl,(by rw[pi];rfl),rfl,a_⟩;refine Y.exit ?_;(have gd:k=m.bD.length:=by simp at od;omega);subst gd;rw[au2];refine ml ?_;exact⟨(⟨i+1,aG⟩,KV),[(210,210),(211,211),(203,203)],azj,an,rfl,rfl,(by rw[c2,pL];rfl),rfl,(by rw[c2,pL];rfl),rfl,a_⟩;apply ci;have pL:sz s (i:Nat) m=e5 s 0 (i:Nat) 0 (hq m):=auN (by simpa using eb);refine ml ?_;exact⟨(⟨i+1,aG⟩,DA),[(210,210),(211,211),(203,203)],azj,an,rfl,rfl,(by rw[c2,pL];rfl),rfl,(by rw[c2,pL];rfl),rfl,a_⟩);(have cr:i=P.length:=by simp at hc;omega);subst cr;rw[au2];refine sN ?_;refine Y.gS [(2,.box 210 er 0)] (pS er (.slice bS (P.map cK).length fa) dY (lR P)) [(210,210),(211,211)] ⟨an,rfl,a_⟩ ?_;(conv=>whnf);exact⟨_,E,er,_,dY,rfl,rfl⟩
def lS(a b c d:Bool):Nat->Bool
 |0=>a
 |1=>b
 |2=>c
 |3=>d
 |_=>false
def ma(x:List Nat)(p:Nat->Bool):List Nat:=x.filter p++[0,1,2,3].filter λk=>p k&&!x.contains k
def Bf(jL:Nat->D)(l:List Nat):List (D×D):=l.map λk=>(u (k:Nat),jL k)
def uU(jL:Nat->D)(x:List Nat)(a b c d:Bool):List (D×D):=Bf jL (ma x (lS a b c d))
theorem Rn{x:List Nat}{p:Nat->Bool}(Z:k<4):k∈ma x p↔p k=true:=by simp only[ma,avf,avy];constructor;rintro(⟨_,h⟩|⟨_,h⟩);exact h;rw[auQ]at h;exact h.1;intro h;by_cases J:k∈x;exact .inl ⟨J,h⟩;refine .inr ⟨?_,by simp[h,J]⟩;simp only[au8,axe,axy];omega
theorem apU{x:List Nat}{p:Nat->Bool}(h:k∈ma x p):p k=true:=by simp only[ma,avf,avy,auQ]at h;rcases h with⟨_,h⟩|⟨_,h,_⟩<;>exact h
theorem apV{x:List Nat}{p q:Nat->Bool}(hi:i<4)(I:∀k,q k=(k==i||p k))(IA:∀k,p k=true->k<4):ma (ma x p++[i]) q=ma x p++[i]:=by(have h1:(ma x p++[i]).filter q=ma x p++[i]:=List.filter_eq_self.2 λk Z=>by rw[I];rcases avf.1 Z with h|h;rw[apU h];simp;simp at h;simp[h]);(have A:([0,1,2,3].filter λk=>q k&&!(ma x p++[i]).contains k)=[]:=axQ.2 λk Z=>by(have AA:k<4:=by simp at Z;omega);by_cases kw:k=i;subst kw;simp;intro h;rw[auQ,I]at h;(have yS:p k=true:=by simpa[kw]using h.1);have:=(Rn (x:=x) AA).2 yS;simp[this]at h);(conv=>lhs;rw[ma]);rw[h1,A,avC]
theorem apW{jL:Nat->D}{l:List Nat}(h:i∉l):j9 (Bf jL l) (u (i:Nat))=none:=by rw[j9,axP,awn];intro e aq;obtain⟨k,Z,rfl⟩:=au_.1 aq;have:k≠i:=λe=>h (e ▸ Z);simp only[oL];simp;omega
theorem aa0{jL:Nat->D}{i:Nat}:∀{l:List Nat},i∈l->j9 (Bf jL l) (u (i:Nat))=some (jL i)
 |k::r,h=>by by_cases Z:k=i;subst Z;simp[j9,Bf,oL];(have af:i∈r:=by simpa[show¬i=k from λe=>Z e.symm]using h);have aV:=aa0 (jL:=jL) af;rw[j9]at aV⊢;have e:Bf jL (k::r)=(u (k:Nat),jL k)::Bf jL r:=rfl;rw[e,awA];(have aZ:oL (u (k:Nat)) (u (i:Nat))=false:=by simp only[oL];simp;omega);rw[aZ];exact aV
theorem apX{a b c d:Bool}(h:lS a b c d k=true):k<4:=by rcases au6 k 4 with aF|aF;exact aF;obtain⟨j,rfl⟩:∃j,k=j+4:=⟨k-4,by omega⟩;cases h
theorem KW(jL:Nat->D)(x:List Nat){a b c d bv ey tP d':Bool}(i:Nat)(hi:i<4)(h0:lS a b c d i=false)(I:∀k,lS bv ey tP d' k=(k==i||lS a b c d k)): nu (uU jL x a b c d) (u (i:Nat)) (jL i)=uU jL (ma x (lS a b c d)++[i]) bv ey tP d':=by(have h1:i∉ma x (lS a b c d):=λh=>by rw[Rn hi]at h;rw[h0]at h;cases h);rw[nu,uU,apW h1,uU,apV hi I λk Z=>apX Z];simp[Bf]
theorem GZ(jL:Nat->D)(x:List Nat)(a b c d:Bool):∀e∈uU jL x a b c d,mY (.int .i64) e.1=true:=λe aq=>by
 obtain⟨k,_,rfl⟩:=au_.1 aq;rfl
theorem apY(jL:Nat->D)(x:List Nat)(kind:Int)(h0:0<=kind)(aa:kind<=3):j9 (uU jL x true true true true) (u kind)=some (jL kind.toNat):=by(have e:kind=((kind.toNat:Nat):Int):=by omega);(conv=>lhs;rw[e]);refine aa0 ((Rn auD).2 ?_);(have:kind.toNat<4:=by omega);match kind.toNat,this with|0,_=>rfl|1,_=>rfl|2,_=>rfl|3,_=>rfl
theorem apZ(b c d:Bool):∀k,lS true b c d k=(k==0||lS false b c d k)
 |0=>rfl
 |1=>rfl
 |2=>rfl
 |3=>rfl
 |k+4=>rfl
theorem ap0(a c d:Bool):∀k,lS a true c d k=(k==1||lS a false c d k)
 |0=>rfl
 |1=>rfl
 |2=>rfl
 |3=>rfl
 |k+4=>rfl
theorem ap1(a b d:Bool):∀k,lS a b true d k=(k==2||lS a b false d k)
 |0=>rfl
 |1=>rfl
 |2=>rfl
 |3=>rfl
 |k+4=>rfl
theorem ap2(a b c:Bool):∀k,lS a b c true k=(k==3||lS a b c false k)
 |0=>rfl
 |1=>rfl
 |2=>rfl
 |3=>rfl
 |k+4=>rfl
def ws(s:kR):Int:=k9 (152+4*(1+((s.dJ.map gH).length:Nat)))
def uV(s:kR):Int:=yz (1+s.count)
def tu(s:kR):Nat->Int
 |0=>1+s.count
 |1=>1+s.count+ws s
 |2=>3+s.count
 |_=>4+2*uV s
def wt(s:kR)(k:Nat):D:=u (tu s k)
theorem ap3(n:Int):0<=yz n/\yz n<=5000:=by unfold yz;split;omega;rename_i h;(have:0<=n/\n<=4096:=by revert h;cases h:decide (n<0)<;>simp at h⊢<;>omega);rw[au4 auD];omega
theorem ap4{s:kR}(h:s.dJ.length<100000000):0<=ws s/\ws s<1000000000:=Re auD (by rw[auS];omega)
theorem ap5(cq:Nat)(dD dY:Value)(s:kR)(aj:s.dJ.length<100000000):c4 B 212 [.box 210 cq 0] (aM (pS cq dD dY s)) λd aO=>d=u (ws s)/\aO=aM (pS cq dD dY s):=by refine jI Tryz.func212 Tryz.ntmps212 λW=>?_;apply b1;apply eh;have gs:(s.dJ.map gH).length=s.dJ.length:=auS ..;apply jH;apply cj;refine hb ?_;refine vh ?_;refine⟨[u (152+4*(1+((s.dJ.map gH).length:Nat)))],_,λ_=>Vx _ auD auD,an,?_⟩;(conv=>whnf);refine Y.gS [(2,u (ws s))] (pS cq dD dY s) [(210,210),(211,211)] ⟨an,rfl,a_⟩ ?_;exact azs
theorem ap6(cq:Nat)(dD dY:Value)(s:kR)(h0:0<=s.count)(h1:s.count<1000000000000000000):c4 B 213 [.box 210 cq 0] (aM (pS cq dD dY s)) λd aO=>d=u (uV s)/\aO=aM (pS cq dD dY s):=by refine jI Tryz.func213 Tryz.ntmps213 λW=>?_;apply b1;refine gK ?_;refine lq ?_;refine⟨[u (1+s.count)],_,λ_=>agH (1+s.count),an,?_⟩;(conv=>whnf);refine Y.gS [(2,u (uV s))] (pS cq dD dY s) [(210,210),(211,211)] ⟨an,rfl,a_⟩ ?_;exact azs
theorem ap7(cq:Nat)(dD dY:Value)(s:kR)(kind:Int)(jN:0<=kind)(M3:kind<=3)(aj:s.dJ.length<100000000)(h0:0<=s.count)(h1:s.count<1000000000000000000):c4 B 141 [.box 210 cq 0,u kind] (aM (pS cq dD dY s)) λd aO=>d=u (tu s kind.toNat)/\aO=aM (pS cq dD dY s):=by refine jI Tryz.func141 Tryz.ntmps141 λW=>?_;refine cc ?_;have aud:=ap4 aj;have zz:=ap3 (1+s.count);apply eh;refine Y.S6 aN mixed (α:=Nat×List Nat) (λy f=>[(0,.box 210 cq 0),(1,u kind),(5,bif f 0 then .am (.map (some y.1))else .any),(6,bif f 1 then .box 210 cq 0 else .any),(7,bif f 2 then .box 210 cq 0 else .any),(8,bif f 3 then .box 210 cq 2 else .any),(9,bif f 4 then u s.count else .any),(10,bif f 5 then u (1+s.count)else .any),(11,bif f 7 then .box 210 cq 0 else .any),(12,bif f 8 then .box 210 cq 0 else .any),(13,bif f 9 then .box 210 cq 2 else .any),(14,bif f 10 then u s.count else .any),(15,bif f 11 then u (1+s.count)else .any),(16,bif f 12 then .box 210 cq 0 else .any),(17,bif f 13 then u (ws s)else .any),(18,bif f 14 then u (1+s.count+ws s)else .any),(19,bif f 16 then .box 210 cq 0 else .any),(20,bif f 17 then .box 210 cq 0 else .any),(21,bif f 18 then .box 210 cq 2 else .any),(22,bif f 19 then u s.count else .any),(23,bif f 20 then u (3+s.count)else .any),(24,bif f 22 then .box 210 cq 0 else .any),(25,bif f 23 then u (uV s)else .any),(26,bif f 24 then u (2*uV s)else .any),(27,bif f 25 then u (4+2*uV s)else .any),(28,bif f 27 then .am (.map (some y.1))else .any),(29,bif f 28 then u kind else .any),(30,bif f 29 then u (tu s kind.toNat)else .any),(4,bif f 30 then u (tu s kind.toNat)else u 0)]) (λy f=>aM ([(210,.box cq [.am dD,.T (.own 211 dY) 5 (s.dJ.map gH),u s.count]),(211,.own dY s.dJ.length 5 358)]++(bif f 0 then[(5,.mp y.1 (uU (wt s) y.2 (f 6) (f 15) (f 21) (f 26)))]else[]))) auH (0,[]) ?_ ?_ ?_ ?_;exact⟨E,E,.any _,.any _,.any _,.any _,.any _,.any _,.any _,.any _,.any _,.any _,.any _,.any _,.any _,.any _,.any _,.any _,.any _,.any _,.any _,.any _,.any _,.any _,.any _,.any _,.any _,.any _,E,ak⟩;exact ns.uZ (hs:=[(210,.box cq [.am dD,.T (.own 211 dY) 5 (s.dJ.map gH),u s.count]),(211,.own dY s.dJ.length 5 358)]) ⟨rfl,a_⟩;refine go ?_;refine⟨λy f bf=>?_,?_⟩;obtain⟨f,rfl⟩:= bf.o f 6 0;obtain⟨f,rfl⟩:= bf.o f 15 0;obtain⟨f,rfl⟩:= bf.o f 21 0;obtain⟨f,rfl⟩:= bf.o f 26 0;obtain⟨f,rfl⟩:= bf.o f 27 0;apply p7;refine ah.vu (λaa1=>?_);refine go ?_;exact f0 (aa1,[]) (ns.uZ (hs:=[(210,.box cq [.am dD,.T (.own 211 dY) 5 (s.dJ.map gH),u s.count]),(211,.own dY s.dJ.length 5 358),(5,.mp aa1 [])]) (by exact⟨rfl,a_⟩));refine⟨λy f bf=>?_,?_⟩;obtain⟨f,rfl⟩:= bf.o f 6 5 (bf.n 5 4 (bf.n 4 3 (bf.n 3 2 (bf.n 2 1))));obtain⟨f,rfl⟩:= bf.o f 27 1;refine lr ?_;exact f0 y;refine⟨λy f bf=>?_,?_⟩;obtain⟨f,rfl⟩:= bf.o f 6 5 (bf.n 5 4 (bf.n 4 3 (bf.n 3 2)));obtain⟨f,rfl⟩:= bf.o f 27 2;refine lr ?_;exact f0 y;refine⟨λy f bf=>?_,?_⟩;obtain⟨f,rfl⟩:= bf.o f 6 5 (bf.n 5 4 (bf.n 4 3));obtain⟨f,rfl⟩:= bf.o f 27 3;refine lr ?_;exact f0 y;refine⟨λy f bf=>?_,?_⟩;obtain⟨f,rfl⟩:= bf.o f 6 5 (bf.n 5 4);obtain⟨f,rfl⟩:= bf.o f 27 4;refine lr ?_;exact f0 y;refine⟨λy f bf=>?_,?_⟩;obtain⟨f,rfl⟩:= bf.o f 6 5;obtain⟨f,rfl⟩:= bf.o f 27 5;refine lr ?_;exact f0 y;refine⟨λy f bf=>?_,?_⟩;obtain⟨f,rfl⟩:= bf.o f 27 6;apply p7;refine ah.Ex (ah.z' 5 (em:=3) (eB:=3) rfl rfl rfl rfl rfl rfl (GZ _ _ _ _ _ _) ?_);refine go ?_;exact f0 (y.1,ma y.2 (lS false (f 15) (f 21) (f 26))++[0]) (ns.uZ (hs:=[(210,.box cq [.am dD,.T (.own 211 dY) 5 (s.dJ.map gH),u s.count]),(211,.own dY s.dJ.length 5 358),(5,.mp y.1 (uU (wt s) (ma y.2 (lS false (f 15) (f 21) (f 26))++[0]) true (f 15) (f 21) (f 26)))]) (by exact⟨rfl,rfl,auP (λQ=>some (aJ.mp y.1 Q)) (KW (wt s) y.2 0 auG rfl (apZ (f 15) (f 21) (f 26))),ak⟩));refine⟨λy f bf=>?_,?_⟩;obtain⟨f,rfl⟩:= bf.o f 15 14 (bf.n 14 11 (bf.n 11 10 (bf.n 10 9 (bf.n 9 8 (bf.n 8 7)))));obtain⟨f,rfl⟩:= bf.o f 27 7;refine lr ?_;exact f0 y;refine⟨λy f bf=>?_,?_⟩;obtain⟨f,rfl⟩:= bf.o f 15 14 (bf.n 14 11 (bf.n 11 10 (bf.n 10 9 (bf.n 9 8))));obtain⟨f,rfl⟩:= bf.o f 27 8;refine lr ?_;exact f0 y;refine⟨λy f bf=>?_,?_⟩;obtain⟨f,rfl⟩:= bf.o f 15 14 (bf.n 14 11 (bf.n 11 10 (bf.n 10 9)));obtain⟨f,rfl⟩:= bf.o f 27 9;refine lr ?_;exact f0 y;refine⟨λy f bf=>?_,?_⟩;obtain⟨f,rfl⟩:= bf.o f 15 14 (bf.n 14 11 (bf.n 11 10));obtain⟨f,rfl⟩:= bf.o f 27 10;refine lr ?_;exact f0 y;refine⟨λy f bf=>?_,?_⟩;obtain⟨f,rfl⟩:= bf.o f 15 14 (bf.n 14 11);obtain⟨f,rfl⟩:= bf.o f 27 11;refine lr ?_;exact f0 y;refine⟨λy f bf=>?_,?_⟩;obtain⟨f,rfl⟩:= bf.o f 15 14 (bf.n 14 13 (bf.n 13 12));obtain⟨f,rfl⟩:= bf.o f 26 25 (bf.n 25 24 (bf.n 24 23 (bf.n 23 13 (bf.n 13 12))));obtain⟨f,rfl⟩:= bf.o f 27 12;refine lr ?_;exact f0 y;refine⟨λy f bf=>?_,?_⟩;obtain⟨f,rfl⟩:= bf.o f 15 14 (bf.n 14 13);obtain⟨f,rfl⟩:= bf.o f 26 25 (bf.n 25 24 (bf.n 24 23 (bf.n 23 13)));obtain⟨f,rfl⟩:= bf.o f 27 13;apply p7;refine ah.B1 rfl [.box 210 cq 0] [(210,210),(211,211)] (hs:=pS cq dD dY s) (by exact⟨rfl,a_⟩) (ap5 cq dD dY s aj) rfl an E ?_;refine go ?_;exact f0 y;refine⟨λy f bf=>?_,?_⟩;obtain⟨f,rfl⟩:= bf.o f 15 14;obtain⟨f,rfl⟩:= bf.o f 27 14;refine lr ?_;exact f0 y;refine⟨λy f bf=>?_,?_⟩;obtain⟨f,rfl⟩:= bf.o f 27 15;apply p7;refine ah.Ex (ah.z' 5 (em:=3) (eB:=3) rfl rfl rfl rfl rfl rfl (GZ _ _ _ _ _ _) ?_);refine go ?_;exact f0 (y.1,ma y.2 (lS (f 6) false (f 21) (f 26))++[1]) (ns.uZ (hs:=[(210,.box cq [.am dD,.T (.own 211 dY) 5 (s.dJ.map gH),u s.count]),(211,.own dY s.dJ.length 5 358),(5,.mp y.1 (uU (wt s) (ma y.2 (lS (f 6) false (f 21) (f 26))++[1]) (f 6) true (f 21) (f 26)))]) (by exact⟨rfl,rfl,auP (λQ=>some (aJ.mp y.1 Q)) (KW (wt s) y.2 1 auG rfl (ap0 (f 6) (f 21) (f 26))),ak⟩));refine⟨λy f bf=>?_,?_⟩;obtain⟨f,rfl⟩:= bf.o f 21 20 (bf.n 20 19 (bf.n 19 18 (bf.n 18 17 (bf.n 17 16))));obtain⟨f,rfl⟩:= bf.o f 27 16;refine lr ?_;exact f0 y;refine⟨λy f bf=>?_,?_⟩;obtain⟨f,rfl⟩:= bf.o f 21 20 (bf.n 20 19 (bf.n 19 18 (bf.n 18 17)));obtain⟨f,rfl⟩:= bf.o f 27 17;refine lr ?_;exact f0 y;refine⟨λy f bf=>?_,?_⟩;obtain⟨f,rfl⟩:= bf.o f 21 20 (bf.n 20 19 (bf.n 19 18));obtain⟨f,rfl⟩:= bf.o f 27 18;refine lr ?_;exact f0 y;refine⟨λy f bf=>?_,?_⟩;obtain⟨f,rfl⟩:= bf.o f 21 20 (bf.n 20 19);obtain⟨f,rfl⟩:= bf.o f 27 19;refine lr ?_;exact f0 y;refine⟨λy f bf=>?_,?_⟩;obtain⟨f,rfl⟩:= bf.o f 21 20;obtain⟨f,rfl⟩:= bf.o f 27 20;refine lr ?_;exact f0 y;refine⟨λy f bf=>?_,?_⟩;obtain⟨f,rfl⟩:= bf.o f 27 21;apply p7;refine ah.Ex (ah.z' 5 (em:=3) (eB:=3) rfl rfl rfl rfl rfl rfl (GZ _ _ _ _ _ _) ?_);refine go ?_;exact f0 (y.1,ma y.2 (lS (f 6) (f 15) false (f 26))++[2]) (ns.uZ (hs:=[(210,.box cq [.am dD,.T (.own 211 dY) 5 (s.dJ.map gH),u s.count]),(211,.own dY s.dJ.length 5 358),(5,.mp y.1 (uU (wt s) (ma y.2 (lS (f 6) (f 15) false (f 26))++[2]) (f 6) (f 15) true (f 26)))]) (by exact⟨rfl,rfl,auP (λQ=>some (aJ.mp y.1 Q)) (KW (wt s) y.2 2 auG rfl (ap1 (f 6) (f 15) (f 26))),ak⟩));refine⟨λy f bf=>?_,?_⟩;obtain⟨f,rfl⟩:= bf.o f 26 25 (bf.n 25 24 (bf.n 24 23 (bf.n 23 22)));obtain⟨f,rfl⟩:= bf.o f 27 22;refine lr ?_;exact f0 y;refine⟨λy f bf=>?_,?_⟩;obtain⟨f,rfl⟩:= bf.o f 26 25 (bf.n 25 24 (bf.n 24 23));obtain⟨f,rfl⟩:= bf.o f 27 23;apply p7;refine ah.B1 rfl [.box 210 cq 0] [(210,210),(211,211)] (hs:=pS cq dD dY s) (by exact⟨rfl,a_⟩) (ap6 cq dD dY s h0 h1) rfl an E ?_;refine go ?_;exact f0 y;refine⟨λy f bf=>?_,?_⟩;obtain⟨f,rfl⟩:= bf.o f 26 25 (bf.n 25 24);obtain⟨f,rfl⟩:= bf.o f 27 24;refine lr ?_;refine .inl ⟨λ_=>by simp only[dz];unfold uV;omega,?_⟩;refine go ?_;exact f0 y;refine⟨λy f bf=>?_,?_⟩;obtain⟨f,rfl⟩:= bf.o f 26 25;obtain⟨f,rfl⟩:= bf.o f 27 25;refine lr ?_;refine .inl ⟨λ_=>by simp only[dz];unfold uV;omega,?_⟩;refine go ?_;exact f0 y;refine⟨λy f bf=>?_,?_⟩;obtain⟨f,rfl⟩:= bf.o f 27 26;apply p7;refine ah.Ex (ah.z' 5 (em:=3) (eB:=3) rfl rfl rfl rfl rfl rfl (GZ _ _ _ _ _ _) ?_);refine go ?_;exact f0 (y.1,ma y.2 (lS (f 6) (f 15) (f 21) false)++[3]) (ns.uZ (hs:=[(210,.box cq [.am dD,.T (.own 211 dY) 5 (s.dJ.map gH),u s.count]),(211,.own dY s.dJ.length 5 358),(5,.mp y.1 (uU (wt s) (ma y.2 (lS (f 6) (f 15) (f 21) false)++[3]) (f 6) (f 15) (f 21) true))]) (by exact⟨rfl,rfl,auP (λQ=>some (aJ.mp y.1 Q)) (KW (wt s) y.2 3 auG rfl (ap2 (f 6) (f 15) (f 21))),ak⟩));refine⟨λy f bf=>?_,?_⟩;(conv=>whnf);refine lr ?_;exact f0 y;refine⟨λy f bf=>?_,?_⟩;(conv=>whnf);refine lr ?_;exact f0 y;refine⟨λy f bf=>?_,?_⟩;obtain⟨f,rfl⟩:=Ew f 0 (bf 27 0 rfl rfl);obtain⟨f,rfl⟩:=Ew f 6 (bf 27 6 rfl rfl);obtain⟨f,rfl⟩:=Ew f 15 (bf 27 15 rfl rfl);obtain⟨f,rfl⟩:=Ew f 21 (bf 27 21 rfl rfl);obtain⟨f,rfl⟩:=Ew f 26 (bf 27 26 rfl rfl);apply p7;refine ah.Id 5 (em:=3) (eB:=3) (k:=u kind) (d:=u (tu s kind.toNat)) rfl rfl rfl rfl rfl rfl (GZ _ _ _ _ _ _) (apY (wt s) y.2 kind jN M3) ?_;refine go ?_;exact f0 y;refine⟨λy f bf=>?_,?_⟩;(conv=>whnf);refine lr ?_;exact f0 y;exact trivial;intro y f M;obtain⟨f,rfl⟩:=ad4 f 31 (by exact M);clear M;(conv=>whnf);refine Y.jK [(4,u (tu s kind.toNat))] (aM [(210,.box cq [.am dD,.T (.own 211 dY) 5 (s.dJ.map gH),u s.count]),(211,.own dY s.dJ.length 5 358)]) (.same (by exact an) (ns.uZ (hs:=[(210,.box cq [.am dD,.T (.own 211 dY) 5 (s.dJ.map gH),u s.count]),(211,.own dY s.dJ.length 5 358)]) (by exact⟨rfl,a_⟩))) ?_;(conv=>whnf);refine Y.gS [(4,u (tu s kind.toNat))] (pS cq dD dY s) [(210,210),(211,211)] ⟨an,rfl,a_⟩ ?_;exact azs
def iz(n:U):U:=it (λae=>ae.map U.name) 3 1 n
def hI(n:U)(kind:Int):Int×Int:=if(bif !Az kind then true else !valid n)=true then(0,1)else(tu (lR (gQ (iz n))) kind.toNat,0)
theorem ap8(aX:dk B)(n:U)(kind:Int)(bn:aB n+n.name.length<10000000)(X:valid n=true->aB n<800000/\aB (iz n)<1000000):aT B 94 [az n,u kind] (.bm [u (hI n kind).1,u (hI n kind).2]):=by refine bB Tryz.func94 Tryz.ntmps94 λW=>?_;refine go ?_;intro ca;refine go ?_;refine bq (agJ kind) ?_;refine bq (An aX n bn) ?_;refine aI (bif !Az kind then true else !valid n) rfl ?_ ?_<;>intro hc;refine go ?_;rw[hI,auO hc];exact an;(have lB:Az kind=true/\valid n=true:=by revert hc;cases Az kind<;>cases valid n<;>simp);obtain⟨Db,PX⟩:=X lB.2;(have jN:0<=kind/\kind<=3:=by have:=lB.1;unfold Az at this;revert this;cases h:decide (0<=kind)<;>simp at h⊢<;>omega);(have Dz:aT B 208 [u 3,az n] (.bm [az (iz n),u 0]):=by have h:=aio aX (λae=>ae.map U.name) 3 (λ_=>Ok aX (.inr rfl)) n bn (λ_=>Db);(have e:s7 (λae=>ae.map U.name) 3 n=(iz n,0):=by unfold s7;rw[auN auG,auN (by rw[lB.2];decide)];rfl);rw[e]at h;exact h);have ik:=KU (l:=gQ (iz n)) (λm hm=>Nat.lt_of_le_of_lt (KT _ m hm) PX) (gQ (iz n)).length (auW _);rw[au2]at ik;have Ox:=KS (iz n);have nb:=ik.len;have A1:=ik.mu;have w2:=ik.ff;refine go ?_;refine .inr (ah.call rfl [az n] [(210,210),(211,211)] (c8.Ts (by exact⟨rfl,a_⟩) (apR aX n (iz n) Dz PX)) rfl an ?_);rintro d aO ⟨cq,dD,dY,rfl,rfl⟩;refine p8 ?_;refine .inr (ah.call rfl [.box 210 cq 0,u kind] [(210,210),(211,211)] (c8.wW (by exact⟨rfl,a_⟩) (ap7 cq dD dY (lR (gQ (iz n))) kind jN.1 jN.2 auD A1 auD)) rfl an ?_);rintro d aO ⟨rfl,rfl⟩;refine p8 ?_;rw[hI,auN (by rw[hc];decide)];refine go ?_;exact an
theorem ap9:aT B 199 [.T .none 1 [],u 0,u 0] (.bm []):=by refine fn Tryz.func199 Tryz.ntmps199 λW=>?_;refine go ?_;refine hf (λ_:Unit=>True) [] [] (λ_=>[(6,u 1),(2,u 0)]) (λ_=>[]) (λ_=>0) () trivial [] ?_;rintro⟨⟩ _;refine go ?_;exact trivial
theorem ap_:aT B 138 [.T .none 1 [],u 0,u 0,u 0] (.bm []):=by have ap':=ap9 (B:=B);refine fn Tryz.func138 Tryz.ntmps138 λW=>?_;refine go ?_;refine hf (λ_:Unit=>True) [0,1,2,3] [] (λ_=>[]) (λ_=>[]) (λ_=>0) () trivial [] ?_;rintro⟨⟩ _;refine go ?_;refine bq ap' ?_;exact trivial
theorem aqa:aT B 92 [.T .none 1 []] (.bm []):=by have aqb:=ap_ (B:=B);have aqc:aT B 81 [.int .u64 0] (u 0):=.pure (jt Tryz.func81 rfl auH) rfl rfl λw _=>Tryz.bits_Len 0 w auG auG;refine fn Tryz.func92 Tryz.ntmps92 λW=>?_;refine go ?_;refine sR (⟨by decide,by decide⟩:dz .u64 (([]:List D).length:Int)) ?_;(conv=>whnf);refine go ?_;refine bq aqc ?_;refine bq aqb ?_;exact trivial
theorem aqd:aT B 58 [.fn (.func 93) [] [.a7 1 [.T .none 1 []] 0 0]] (.T .none 1 []):=by have aqe:=apu (B:=B) [] auG;have aqf:=aqa (B:=B);refine fn Tryz.func58 Tryz.ntmps58 λW=>?_;refine go ?_;refine bq aqe ?_;refine bq aqf ?_;exact E
mutual
theorem aa2:∀n:U,(gQ n).length=fd n
 |.mk a b c d e f g h i j ae ch=>by rw[gQ,fd,auX,aa3 ae];omega
theorem aa3:∀l:List U,(f_ l).length=eQ l
 |[]=>rfl
 |n::r=>by rw[f_,eQ,auV,aa2 n,aa3 r]
end
mutual
theorem aa4:∀(n:U) (l:Int),1<=l->gB n l=true->∀m∈gQ n,∃h7,1<=h7/\one m h7=0
 |.mk a b c d e f g h i j ae ch,l,aj,aS,m,hm=>by
  rw[gQ]at hm;rcases au8.1 hm with e|e
  ·subst e;exact⟨l,aj,KA aS⟩
  rw[gB,auQ]at aS;exact aa5 ae (l+1) auD aS.2 m e
theorem aa5:∀(ae:List U) (l:Int),1<=l->jT ae l=true->∀m∈f_ ae,∃h7,1<=h7/\one m h7=0
 |[],l,_,_,m,hm=>by simp[f_]at hm
 |k::ae,l,aj,aS,m,hm=>by
  rw[jT,auQ]at aS;rw[f_]at hm;rcases avf.1 hm with e|e
  ·exact aa4 k l aj aS.1 m e
  exact aa5 ae l aj aS.2 m e
end
theorem Ro{n b:Int}(h0:0<=n)(h1:n<=2048*b)(G:0<=b):0<=k9 n/\k9 n<=b:=by unfold k9;split;omega;unfold kc;rw[au4 auD];omega
theorem aa6{s:kR}(i:Int){l:List nr}(aj:∀x∈l,x.target.length<300000):∀k,k<=l.length->s.count<=(rs i s (l.take k)).count/\(rs i s (l.take k)).count<=s.count+148*(k:Int)
 |0,_=>by rw[aw2];simp[rs,tt]
 |k+1,Z=>by have aV:=aa6 (s:=s) i aj k auD;rw[rs,Dy _ _ (show k<l.length by omega)];have e:rs i s (l.take k)=tt (λs k x=>e5 s 2 i k (x.target.length:Nat)) s (l.take k):=rfl;rw[<-e];generalize rs i s (l.take k)=Q at*;have:=Ro (n:=(l[k].target.length:Nat)) (b:=147) auD (by have:=aj _ (auT (show k<l.length by omega));omega) auG;simp only[e5];omega
theorem aa7{m:U}{l:Int}(h:one m l=0):m.F.length<=64/\m.bD.length<=4:=ayx
theorem aqg{m:U}{l:Int}(h1:1<=l)(h:one m l=0):0<=hq m/\hq m<=2048*8400:=by have hs:=aa7 h;have ax:=(Kz h1 h).2.2.1;have A:=KN m.target (cO 47 [] (rq m.target)) (xM m.target);have aa:=(rZ (c:=47) (rq m.target) []).1;have aF:=Rb m.target;have a8:=Rc m.target;have bn:=KO [] true true;have M:=Rd m.F (uh [] true true).1 bn.1;unfold hq xN;split;omega;split;unfold Dx;omega;unfold ts;omega
theorem aqh{s:kR}(i:Int){m:U}{l:Int}(h1:1<=l)(h:one m l=0)(bn:aB m<300000):s.count<=(sz s i m).count/\(sz s i m).count<=s.count+9000:=by have hc:=aqg h1 h;have hs:=aa7 h;have ag:=Ro hc.1 hc.2 auG;(have Mb:k9 0=0:=by unfold k9;rw[auO auG]);unfold sz;split;have:=aa6 (s:=e5 (e5 s 0 i 0 (hq m)) 1 i 0 0) i (l:=m.bD) (λx J=>by obtain⟨k,Z,rfl⟩:=avm.1 J;have h1:=H7 Z;have A:=j8 m;omega) m.bD.length (auW _);rw[au2]at this;simp only[e5,Mb]at this⊢;omega;simp only[e5];omega
theorem aa8{l:List U}(aj:∀m∈l,aB m<300000/\∃h7,1<=h7/\one m h7=0):∀k,k<=l.length->0<=(lR (l.take k)).count/\(lR (l.take k)).count<=9000*(k:Int)
 |0,_=>by rw[aw2];simp[lR,tt]
 |k+1,Z=>by have aV:=aa8 aj k auD;rw[lR,Dy _ _ (show k<l.length by omega)];have e:lR (l.take k)=tt sz ⟨[],0⟩ (l.take k):=rfl;rw[<-e];generalize lR (l.take k)=Q at*;obtain⟨h1,h7,A,aa⟩:=aj _ (auT (show k<l.length by omega));have:=aqh (s:=Q) (k:Nat) A aa h1;omega
theorem aqi(aX:dk B){n:U}(M:oS n 100000=true)(kind:Int):0<=(hI n kind).1/\(hI n kind).1<=500000/\(valid n=true->aB (iz n)<300000):=by(have Dz:iz n=it (cd 3) 3 1 n:=by unfold iz;rw[F2 (.inr rfl)]);by_cases X:valid n=true;(have hs:aB (iz n)<300000:=by rw[Dz];exact(ai6 (cd 3) 3 (ai4 aX auG) X M).2);(have EF:valid (iz n)=true:=by rw[Dz];exact ajS auG X);(have aS:gB (iz n) 1=true:=by rw[q7,auQ]at EF;exact EF.2);(have Dd:fd (iz n)<=40:=by have h1:=OU (λae=>ae.map U.name) 3 n 1;have A:=(CP M).2;unfold iz;omega);have dh:=aa2 (iz n);have hL:∀m∈gQ (iz n),aB m<300000/\∃h7,1<=h7/\one m h7=0:=λm hm=>⟨by have:=KT (iz n) m hm;omega,aa4 (iz n) 1 (avK _) aS m hm⟩;have G:=aa8 hL (gQ (iz n)).length (auW _);have ik:=KU (l:=gQ (iz n)) (λm hm=>by have:=(hL m hm).1;omega) (gQ (iz n)).length (auW _);rw[au2]at G ik;have aue:=KS (iz n);have c1:=ik.len;obtain⟨cL,hO⟩:∃cL,lR (gQ (iz n))=cL:=⟨_,rfl⟩;rw[hO]at G ik c1;(have auf:0<=ws cL/\ws cL<=1000:=by unfold ws;exact Ro auD (by rw[auS];omega) auG);(have aug:0<=uV cL/\uV cL<=5000:=by unfold uV yz;split;omega;rename_i hc;(have h1:¬(4096:Int)<1+cL.count:=by intro h;rw[avw (by omega:¬1+cL.count<0),avP h]at hc;exact hc rfl);rw[au4 auD];omega);(have bn:0<=(hI n kind).1/\(hI n kind).1<=500000:=by unfold hI;split;exact⟨by decide,by decide⟩;rw[hO];dsimp only;(have auh:9000*(((gQ (iz n)).length:Nat):Int)<=360000:=by rw[dh];omega);generalize kind.toNat=hS;match hS with|0=>simp only[tu];omega|1=>simp only[tu];omega|2=>simp only[tu];omega|k+3=>simp only[tu];omega);exact⟨bn.1,bn.2,λ_=>hs⟩;unfold hI;rw[auO (by cases h:valid n with|true=>exact absurd h X|false=>cases Az kind<;>rfl)];exact⟨by decide,by decide,λh=>absurd h X⟩
theorem aqj{a b:List auM}(h:a.Perm b):mC a=mC b:=by(have aa9:∀x y Q:auM,decide (x<=y)=true->decide (y<=Q)=true->decide (x<=Q)=true:=λx y Q h1 A=>by simp only[avp]at*;exact List.le_trans h1 A);(have aa_:∀x y:auM,(decide (x<=y)||decide (y<=x))=true:=λx y=>by simp only[av3,avp];exact List.le_total x y);refine axc (le:=λx y:auM=>decide (x<=y)=true) (λx y _ _ h1 A=>?_) (axj aa9 aa_ a) (axj aa9 aa_ b) (((axF a _).trans h).trans (axF b _).symm);simp only[avp]at h1 A;exact List.le_antisymm h1 A
mutual
theorem aa':∀n:U,o7 n<=n.name.length+aB n
 |.mk a b c d e f g h i j ae ch=>by
  have h1:=aba ae;have A:=j8 (.mk a b c d e f g h i j ae ch);rw[o7];have aa:aB (.mk a b c d e f g h i j ae ch)=2+c.length+d.length+l3 ch+eD ae:=A;have aF:(U.mk a b c d e f g h i j ae ch).name.length=a.length:=rfl;omega
theorem aba:∀l:List U,kO l<=eD l
 |[]=>auW _
 |k::r=>by
  have h1:=aa' k;have A:=aba r;rw[kO];simp only[eD];omega
end
theorem abb(l:List auM)(aj:l.length<1000000):aT B 58 [Dw l] (.T .none 1 (aQ (mC l))):=by cases l with|nil=>rw[show mC []=[] by simp[mC]];exact aqd|cons a r=>exact apy (a::r) auF aj
noncomputable def wu(n:U)(m:fT)(mp:List (auM×dl))(start:Int)(cS:List auM)(cap:Int):q3×Int:=ro (gG n m mp start cS) (ic (gN m) n) (hI n m.du) cap
theorem Rp(n:U):(cH n).length<=fd n:=by unfold cH;have h:=awW (h_ n) (if valid n then dq n [] 1 else[]);(have A:(if valid n then dq n [] 1 else[]).length<=fd n:=by split;rw[yW];exact auW _;exact au7 _);omega
theorem Rq(aX:dk B){n:U}(m:fT)(ar:ev n)(M:oS n 100000=true):(aT B 30 [az n,r2 (gN m)] (.bm [u (ic (gN m) n).1,u (ic (gN m) n).2])/\0<=(ic (gN m) n).1/\(ic (gN m) n).1<=1000000000)/\aT B 94 [az n,u m.du] (.bm [u (hI n m.du).1,u (hI n m.du).2])/\0<=(hI n m.du).1/\(hI n m.du).1<=500000/\aB n<1000000:=by have hs:=CP M;have MI:aB n+n.name.length<2200000:=ar;have cz:=aa' n;have au:=aqi (B:=B) aX M m.du;refine⟨ao3 aX (gN m) n ar (λX=>?_),ap8 aX n m.du auD (λX=>⟨by omega,by have:=au.2.2 X;omega⟩),au.1,au.2.1,by omega⟩;(have aS:gB n 1=true:=by rw[q7,auQ]at X;exact X.2);have ky:=(Kz (avK 1) (KA aS)).2.1;exact⟨by omega,by omega,by omega⟩
theorem Rr(aX:dk B)(n:U)(m:fT)(cS:List auM)(a':List dl)(start cap:Int)(mp:List (auM×dl))(ar:ev n)(M:oS n 100000=true)(aS:a'.length<1000000)(nb:∀g∈a',g.len<=9223372036854775807)(oO:m.gM.length<1000000)(hO:iV n m a' start=some mp)(e6:start<=cap)(bx:cap<=4096)(aw:cS.Perm (lL (gG n m mp start []) (cH n))): aT B 19 [az n,im m,.T .none 1 (aQ cS),.T .none 3 (a'.map bj),u start,u cap] (.bm [l9 (wu n m mp start cS cap).1,u (wu n m mp start cS cap).2]):=by obtain⟨⟨wq,dG,iJ⟩,Rs,Ag,Is,hsz⟩:=Rq (B:=B) aX m ar M;have dg:=Rp n;have aqk:=(CP M).2;have dh:=Jx (gG n m mp start []) (cH n);have hx:=aw.length_eq;exact ao8 aX n m cS a' start cap ar aS nb auD oO auD mp hO auD auD (ic (gN m) n) (hI n m.du) (λ_=>wq) (λ_=>Rs) (λh0=>aaD ar hO auD ⟨dG,iJ⟩ ⟨Ag,by omega⟩ h0 hsz) (mC cS) (mC (lL (gG n m mp start []) (cH n))) (λl=>apx (aQ l)) (abb cS auD) (abb _ auD) (by rw[mC,axv];omega) (by rw[mC,axv];omega) (by rw[aqj aw];simp)
theorem abc(aX:dk B)(n:U)(m:fT)(a':List dl)(start:Int)(mp:List (auM×dl))(ar:ev n)(M:oS n 100000=true)(aS:a'.length<1000000)(nb:∀g∈a',g.len<=9223372036854775807)(oO:m.gM.length<1000000)(hO:iV n m a' start=some mp): aT B 20 [az n,im m,.T .none 3 (a'.map bj),u start] (.bm [u (tq (hX n m mp start) (ic (gN m) n) (hI n m.du)).1,u (tq (hX n m mp start) (ic (gN m) n) (hI n m.du)).2]):=by obtain⟨⟨wq,dG,iJ⟩,Rs,Ag,Is,hsz⟩:=Rq (B:=B) aX m ar M;have dg:=Rp n;have aqk:=(CP M).2;have dh:=Jx (gG n m mp start []) (cH n);exact ao6 aX n m a' start ar aS nb auD oO mp hO (ic (gN m) n) (hI n m.du) (λ_=>wq) (λ_=>Rs) (λh0=>aaD ar hO auD ⟨dG,iJ⟩ ⟨Ag,by omega⟩ h0 hsz)
theorem abd{b':List e8}{start:Int}:∀(l:List dl) (nE mp:List (auM×dl)),l.foldl (uO b' start) (some nE)=some mp->∀p,(co mp p).isSome=((co nE p).isSome||l.any λg=>g.path==p)
 |[],nE,mp,h,p=>by simp at h;subst h;simp
 |g::l,nE,mp,h,p=>by rw[awf]at h;cases ag:uO b' start (some nE) g with|none=>rw[ag,Q1]at h;cases h|some m1 =>rw[ag]at h;have aV:=abd l m1 mp h p;(have mt:m1=fz nE g.path g:=by unfold uO at ag;simp only[Option.bind_some]at ag;split at ag;cases ag;split at ag;cases ag;cases ag;rfl);rw[aV,mt,y2,axU];by_cases aw:p=g.path;subst aw;simp;rw[auN aw,show(g.path==p)=false from avv.2 λe=>aw e.symm];simp
variable{a':List dl}{start:Int}{mp:List (auM×dl)}
theorem G0{n:U}{m:fT}(h:iV n m a' start=some mp):lL (gG n m mp start []) (cH n)=iW a' (cH n):=by(have cA:∀p,(co mp p).isSome=a'.any λg=>g.path==p:=λp=>by unfold iV at h;split at h;cases h;have:=abd a' [] mp h p;rw[this];simp[co]);unfold lL iW;congr 1;apply List.filter_congr;intro f _;have h1:Jw (gG n m mp start []) f=bif !(co mp f.path).isSome then f.data !=[]else false:=rfl;rw[h1,cA,zj];have A:=Mj (λg:dl=>g.path==f.path) a';cases ha:a'.any (λg=>g.path==f.path)with|true =>rw[ha]at A;have:0<=fh (λg:dl=>g.path==f.path) a':=avg A;rw[avw auD];cases f.data !=[]<;>rfl|false =>rw[ha]at A;have:=ava A;rw[avP auD];cases f.data !=[]<;>rfl
noncomputable def zl(n:U)(m:fT)(a':List dl)(start:Int):q3×Bool :=
 if(bif bif !tr n m [] a' then true else decide (start<0)then true else decide (1000<start))=true then(re,false)
 else match iV n m a' start with
  |none=>(re,false)
  |some mp=>((wu n m mp start (iW a' (cH n)) 4096).1,(wu n m mp start (iW a' (cH n)) 4096).2==0)
theorem aql(aX:dk B)(n:U)(m:fT)(a':List dl)(start:Int)(ar:ev n)(hm:m.name.length+m.set.length+m.px.length+m.py.length+m.l2.length<1000000000)(aS:a'.length<1000000)(nb:∀g∈a',g.len<=9223372036854775807)(oO:m.gM.length<1000000):
  aT B 14 [az n,im m,.T .none 3 (a'.map bj),u start] (.bm [l9 (zl n m a' start).1,.bool (zl n m a' start).2]):=by
 have abe:=aps (B:=B) n m [] a' ar hm
 have hE:zl n m a' start=if(bif bif !tr n m [] a' then true else decide (start<0)then true else decide (1000<start))=true then(re,false)
  else match iV n m a' start with
   |none=>(re,false)
   |some mp=>((wu n m mp start (iW a' (cH n)) 4096).1,(wu n m mp start (iW a' (cH n)) 4096).2==0):=rfl
 refine fn Tryz.func14 Tryz.ntmps14 λW=>?_;refine go ?_;intro cJ
 (conv=>whnf)
 refine dc ?_;intro cF
 (conv=>whnf)
 refine dc ?_;intro cG
 (conv=>whnf)
 refine go ?_;refine bq abe ?_;refine cb (t:=bif bif !tr n m [] a' then true else decide (start<0)then true else decide (1000<start)) ?_ ?_<;>intro hc
 ·rw[auO hc]at hE;rw[hE];refine go ?_;exact⟨Q6,E,ak⟩
 rw[auN (by rw[hc];decide)]at hE
 have G1:tr n m [] a'=true/\0<=start/\start<=1000:=by
  cases h1:tr n m [] a' with
  |false=>rw[h1]at hc;cases hc
  |true =>
   rw[h1]at hc
   cases A:decide (start<0)with
   |true=>rw[A]at hc;cases hc
   |false =>
    rw[A]at hc;have:=ava A;have:=ava (show decide (1000<start)=false from hc);exact⟨rfl,by omega,by omega⟩
 have tQ:oS n 100000=true:=by
  have h:=G1.1;unfold tr at h
  cases h1:oS n 100000 with
  |true=>rfl
  |false=>rw[h1]at h;cases h
 have BY:=(CP tQ).2
 have KX:=aaJ (B:=B) n a' ar aS (λp aw=>by
  split at aw
  ·have:=Pp aw;have:aB n<2200000:=by have:=ar;unfold ev at this;omega
   omega
  ·cases aw) (by
  split
  ·rw[yW];omega
  simp)
 have dg:=Rp n
 obtain⟨KY,FT,E2,abf⟩:∃KY FT,zl n m a' start=(KY,FT==0)/\aT B 19 [az n,im m,.T .none 1 (aQ (iW a' (cH n))),.T .none 3 (a'.map bj),u start,u 4096] (.bm [l9 KY,u FT]):=by
  cases ag:iV n m a' start with
  |none =>
   rw[ag]at hE;have dh:=aaI a' (cH n);exact⟨re,1,hE,ao' aX n m (iW a' (cH n)) a' start 4096 ar aS nb auD ag⟩
  |some mp =>
   rw[ag]at hE;exact⟨_,_,hE,Rr aX n m (iW a' (cH n)) a' start 4096 mp ar tQ aS nb oO ag auD auD (by rw[G0 ag])⟩
 rw[E2];have aqm:=lw.mk KX;have aqn:=lw.mk abf;clear KX abf abe;refine go ?_;refine' eU [(4,.box cJ (az n).cells),(5,.box cF (im m).cells),(8,.box cG rd)] 0 (λy=>[_,_,_,_,_,_,_,_,_,_,_,.box 10 y 0,.any,_]) (λy=>[(11,10,some (.box y rd)),(12,10,some (.box y (l9 KY).cells))]) [0,0,0,0,12,0,0,127,255,511,511,0,3071,8191] [(11,10),(12,10)] ?_ ?_
 rotate_left 12
 ·refine dB ?_;refine⟨λy=>.inl ?_,dB ?_⟩
  ·(conv=>whnf)
   refine⟨_,_,λ_=>aqm.ck,ja,?_⟩;exact E
  refine⟨λy=>.inl ?_,?_⟩
  ·(conv=>whnf)
   refine⟨_,_,λ_=>aqn.ck,ja,?_⟩;exact E
  refine dB ?_;refine Em ?_;refine vs ?_;exact trivial
 intro jS
 (conv=>whnf)
 refine go ?_;exact an
theorem abg(p:dF)(s ao:Int×Int):(eS p s ao).1.start=p.start/\(eS p s ao).1.files=p.files/\(eS p s ao).1.cS=p.cS/\(eS p s ao).1.a'=p.a'/\(eS p s ao).1.m=p.m/\((eS p s ao).1.du=ao.1\/(eS p s ao).1.du=p.du):=by unfold eS;split;exact⟨rfl,rfl,rfl,rfl,rfl,.inr rfl⟩;(have A:(kn p s).start=p.start/\(kn p s).files=p.files/\(kn p s).cS=p.cS/\(kn p s).a'=p.a'/\(kn p s).m=p.m/\(kn p s).du=p.du:=by unfold kn;split<;>exact⟨rfl,rfl,rfl,rfl,rfl,rfl⟩);split;exact⟨A.1,A.2.1,A.2.2.1,A.2.2.2.1,A.2.2.2.2.1,.inl rfl⟩;exact⟨A.1,A.2.1,A.2.2.1,A.2.2.2.1,A.2.2.2.2.1,.inr A.2.2.2.2.2⟩
structure Rt (n:U) (m:fT) (a':List dl) (start:Int) (l:q3):Prop where
 aqo:tr n m [] a'=true
 hC:0<=start
 fb:start<=1000
 cn:∃mp P i,iV n m a' start=some mp/\eS (hX n m mp start) (ic (gN m) n) (hI n m.du)=(P,0)/\P.start=start/\i<(4096-start).toNat/\m_ P ((i:Int)+1)=true/\(∀j,j<i->m_ P ((j:Int)+1)=false)/\l=xu P ((i:Int)+1)
theorem abh{p:dF}{n:Nat}(h:uE p n=some i):i<n/\m_ p ((i:Int)+1)=true/\∀j,j<i->m_ p ((j:Int)+1)=false:=by unfold uE at h;rw[axd]at h;exact⟨awa.1 h.2.1,h.1,λj ad=>by have:=h.2.2 j ad;simpa using this⟩
theorem aqp{n:U}{m:fT}{a':List dl}{start:Int}(h:(zl n m a' start).2=true):Rt n m a' start (zl n m a' start).1:=by unfold zl at h⊢;split at h;cases h;rename_i hc;rw[auN hc];(have G1:tr n m [] a'=true/\0<=start/\start<=1000:=by(have og:(bif bif !tr n m [] a' then true else decide (start<0)then true else decide (1000<start))=false:=by simpa using hc);cases h1:tr n m [] a' with|false=>rw[h1]at og;cases og|true =>rw[h1]at og;(cases A:decide (start<0)with|true=>rw[A]at og;cases og|false =>rw[A]at og;have:=ava A;have:=ava (show decide (1000<start)=false from og);exact⟨rfl,by omega,by omega⟩));cases ag:iV n m a' start with|none=>rw[ag]at h;cases h|some mp =>rw[ag]at h;dsimp only at h⊢;(have fO:gG n m mp start (iW a' (cH n))=hX n m mp start:=by rw[hX,G0 ag]);(have J:wu n m mp start (iW a' (cH n)) 4096=ro (hX n m mp start) (ic (gN m) n) (hI n m.du) 4096:=by rw[wu,fO]);rw[J]at h⊢;have Z:=abg (hX n m mp start) (ic (gN m) n) (hI n m.du);unfold ro at h⊢;split at h;rename_i hm;rw[auO hm];have yR:(eS (hX n m mp start) (ic (gN m) n) (hI n m.du)).1.start=start:=Z.1;generalize gT:eS (hX n m mp start) (ic (gN m) n) (hI n m.du)=aqq at*;obtain⟨P,e⟩:=aqq;dsimp only at hm yR h⊢;subst hm;unfold rf at h⊢;rw[yR]at h⊢;(cases C2:uE P (4096-start).toNat with|none=>rw[C2]at h;cases h|some i =>obtain⟨h1,A,aa⟩:=abh C2;exact⟨G1.1,G1.2.1,G1.2.2,mp,P,i,ag,gT,yR,h1,A,aa,rfl⟩);rename_i hm;exfalso;have:((eS (hX n m mp start) (ic (gN m) n) (hI n m.du)).2==0)=true:=h;exact hm (by simpa using this)
def wv(ao:List Bool)(n:Nat):Prop:=∀j,j<n->ao[j]?=some true
theorem aqr{ao:List Bool}{n:Nat}(h:wv ao n):wv (ao.set k true) n:=λj ad=>by
 rw[awL];split
 ·rename_i e;subst e
  have:=avk.1 (h k ad);rw[auO this.1]
 exact h j ad
theorem aqs{ao:List Bool}(h:wv ao k)(Z:k<ao.length):wv (ao.set k true) (k+1):=λj ad=>by
 rw[awL];split
 ·first|rfl|rw[auO auD]
 exact h j auD
theorem aqt{ao:List Bool}{bA:Nat}(au:ao.length=bA)(h:wv ao bA):ao=List.replicate bA true:=av2 λj=>by
 by_cases ad:j<bA
 ·rw[h j ad,aw1,auO ad]
 rw[au0 auD,aw1,auN ad]
abbrev abi(bA cF dW:Nat)(v:Value)(ao:List Bool):List (Nat×aJ):=[(3005,.box cF [u 0,u bA]),(3006,.box dW [.am v]),(3007,.row v (vA ao) 1 4)]
theorem aqu(bA:Nat)(h1:1<=bA)(A:bA<=4096)(l:List (Int×Int))(aj:l.length<100)(G:∀x∈l,0<=x.1/\x.1<=10000/\0<=x.2/\x.2<=10000)(ao:List Bool)(au:ao.length=bA)(hs:wv ao bA\/∃r,l=(0,(bA:Int))::r)(a:Option Addr)(n cap cF dW:Nat): c4 B 34 [.T .none 2 (l.map vz),.box 3005 cF 0,.box 3006 dW 0] (aM (abi bA cF dW (.slice a n cap) ao)) λd aO=>d=.bm []/\aO=aM (abi bA cF dW (.slice a n cap) (List.replicate bA true)):=by have mO:(l.map vz).length=l.length:=auS _;refine kv Tryz.func34 Tryz.ntmps34 λW=>?_;refine go ?_;refine hf (λQ:Nat×List Bool=>Q.1<=l.length/\Q.2.length=bA/\(wv Q.2 bA\/Q.1=0/\∃r,l=(0,(bA:Int))::r)) [1,2,7,8] [3005,3006] (λQ=>[(9,u Q.1)]) (λQ=>[(3007,.row (.slice a n cap) (vA Q.2) 1 4)]) (λQ=>l.length-Q.1) (0,ao) ⟨au7 _,au,hs.imp_right λh=>⟨rfl,h⟩⟩ [(3005,3005),(3006,3006),(3007,3007)] ?_;rintro⟨i,gq⟩ ⟨hi,gk,X⟩;dsimp only at hi gk X⊢;refine go ?_;refine cb (t:=decide ((i:Int)<(l.map vz).length)) ?_ ?_<;>intro hc;(have aG:i<l.length:=by have:=avg hc;omega);obtain⟨g1,fI,g3,g4⟩:=G _ (auT aG);(have pe:∀r,l=(0,(bA:Int))::r->i=0->l[i]=(0,(bA:Int)):=λr e b0=>by subst b0;subst e;rfl);refine go ?_;generalize Oy:l[i]=fK at*;obtain⟨aY,hJ⟩:=fK;dsimp only at g1 fI g3 g4;intro b;(conv=>whnf);refine go ?_;refine cb (t:=Cl 0 bA aY hJ) ?_ ?_<;>intro bx;refine go ?_;refine fs (i+1,gq) [(3005,3005),(3006,3006),(3007,3007)] ⟨aG,gk,.inl (X.resolve_right λ⟨e,r,b0⟩=>?_)⟩;cases pe r b0 e;rw[ae9]at bx;omega;have fx:=Ut bx;refine go ?_;refine hf (λQ:Nat×List Bool=>(Q.1:Int)<=hJ/\Q.2.length=bA/\(wv Q.2 bA\/(aY=0/\hJ=bA)/\wv Q.2 Q.1)) [1,2,7,8,9,5,47] [3005,3006,5] (λQ=>[(48,u Q.1)]) (λQ=>[(3007,.row (.slice a n cap) (vA Q.2) 1 4)]) (λQ=>hJ.toNat-Q.1) (0,gq) ⟨g3,gk,X.imp_right λ⟨e,r,b0⟩=>⟨by cases pe r b0 e;exact⟨rfl,rfl⟩,λj ad=>by cases ad⟩⟩ [(3005,3005),(3006,3006),(5,5),(3007,3007)] ?_;rintro⟨k,ct⟩ ⟨Z,uQ,cz⟩;dsimp only at Z uQ cz⊢;(have fg:(vA ct).length=bA:=by rw[vA,auS,uQ]);refine go ?_;refine cb (t:=decide ((k:Int)<hJ)) ?_ ?_<;>intro eb;have s8:(k:Int)<hJ:=avg eb;refine go ?_;refine dR (ah.eG aN 3007 rfl rfl rfl rfl rfl rfl rfl auD (by rw[fg];omega)) ?_;refine dR (ah.nl aN 3007 (i:=aY.toNat+k) (by rw[show(aY-0+(k:Int)).toNat=aY.toNat+k by omega];rfl) rfl rfl rfl (by rw[fg];omega) rfl) ?_;exact fs (k+1,ct.set (aY.toNat+k) true) [(3005,3005),(3006,3006),(5,5),(3007,3007)] ⟨s8,by rw[awc,uQ],cz.imp aqr λ⟨⟨bZ,b0⟩,kx⟩=>⟨⟨bZ,b0⟩,by rw[bZ,show(0:Int).toNat+k=k by omega];exact aqs kx auD⟩⟩ (A:=⟨cX,rfl,by exact⟨rfl,rfl,rfl,rfl,rfl,rfl,rfl,sS (by simp only[vA,axG];rfl),ak⟩⟩);refine go ?_;have:=ava eb;exact fs (i+1,ct) [(3005,3005),(3006,3006),(3007,3007)] ⟨aG,uQ,.inl (cz.elim id λ⟨⟨_,e⟩,kx⟩=>by rwa [show k=bA by omega]at kx)⟩;refine go ?_;(have hT:=X.resolve_right λ⟨e,r,b0⟩=>by have:=ava hc;rw[b0]at mO this;simp at this;omega);exact⟨.bm [],ak,rfl,rfl,rfl,sS (by rw[aqt gk hT]),ak⟩
def xP:q3:=⟨0,23,18,3,0,false,0,0,0,0,0,[],0,0,0,[⟨[97],21,3000⟩]⟩
def ne:fT:=⟨[86],[],[],[],[],1,1,315532800,9,0,[],0,false⟩
def abj(i:Nat):List D:=if i=0 then[]else[vz (0,(i:Int))]
theorem aqv:c4 B 38 [.T .none 1 []] bH.none λd aO=>∃v,True/\d=.am v/\aO=aM [(2000,.row v [] 1 3)]:=by refine EN Tryz.func38 Tryz.ntmps38 λW=>?_;refine go ?_;refine .inr (ah.L' (bJ:=3) aN rfl rfl rfl λk4 pj=>?_);refine go ?_;refine cb (t:=k4) ?_ ?_<;>intro hc;refine Y.qF 2000 1 3 ?_;refine go ?_;exact⟨.am (.slice none 0 0),ap.rO,.slice none 0 0,ak,rfl,a_⟩;apply ci;(conv=>whnf);apply eh;refine Y.Me aN ?_;(conv=>whnf);refine⟨rfl,ak,.inr (ah.adC (q:=100) aN rfl rfl rfl rfl rfl rfl ?_)⟩;(conv=>whnf);refine⟨rfl,ak,λv0=>?_⟩;(conv=>whnf);apply ei;(conv=>whnf);refine⟨rfl,ak,.inr (ah.ad' aN 100 rfl rfl rfl rfl rfl rfl rfl ?_)⟩;(conv=>whnf);apply ei;refine Y.B0 100 2000 rfl ?_;refine go ?_;exact⟨_,E,v0,ak,rfl,a_⟩
theorem aqw:aT B 12 [l9 xP,im ne] (.T .none 2 [vz (0,23)]):=by have Pg:=Vl (B:=B) ne 0 23;(have qA:0<(bo (r4 ne 0 23)).length/\(bo (r4 ne 0 23)).length<=10:=by decide +kernel);(have aqx:∀x∈r4 ne 0 23,0<=x/\x<=10000:=by decide +kernel);have aqy:=E9 (B:=B) ne;generalize r4 ne 0 23=kZ at*;have aui:xP.S=0:=rfl;have auj:xP.C=23:=rfl;(have hZ:(bo kZ).length=kZ.length:=by simp[bo]);refine fn Tryz.func12 Tryz.ntmps12 λW=>?_;refine go ?_;intro ca;(conv=>whnf);refine dc ?_;intro el;(conv=>whnf);refine dc ?_;refine jb 2 2 16 (l9 xP) ?_;refine jb 3 3 13 (im ne) ?_;refine go ?_;intro cF;(conv=>whnf);refine go ?_;refine bq aqy ?_;refine go ?_;refine .inr (ah.ad9 aN (n:=23) rfl rfl rfl rfl rfl rfl rfl auG auG λaqz=>?_);(conv=>whnf);refine go ?_;intro dW;(conv=>whnf);generalize auk:(some ⟨aqz,0,none⟩:Option Addr)=Ru;have Rv:=λl h1 A ao aa aF=>aqu (B:=B) 23 auG auG l h1 A ao aa aF Ru 23 23 cF dW;(have hT:wv (List.replicate 23 true) 23:=λj ad=>by rw[aw1,auO ad]);refine go ?_;refine bq (r0 9 3 auG) ?_;refine mq [(3005,5),(3006,6),(3007,46)] (Rv [(0,23),(18,3)] auG auG (List.replicate 23 false) rfl (.inr ⟨_,rfl⟩)) ?_;refine' eU (α:=Value×Option Addr×Nat×Nat) [(5,.box cF [u 0,u 23]),(6,.box dW [.am (.slice Ru 23 23)]),(46,.row (.slice Ru 23 23) (vA (List.replicate 23 true)) 1 4)] (.slice none 0 0,none,0,0) (λy=>[_,_,_,.am y.1,_,_,.T .none 1 (bo kZ),.am (.slice y.2.1 y.2.2.1 y.2.2.2),u (y.2.2.1:Nat),_]) (λy=>[(3,71,some (.row y.1 [] 1 3)),(7,71,none),(7,75,some (.row (.slice y.2.1 y.2.2.1 y.2.2.2) (bo kZ) 1 3))]) [0,1,3,7,0,0,63,127,255,0] [(3,71),(7,71),(7,75)] ?_ ?_;rotate_left 6;refine dB ?_;refine bQ (λy=>ah.call rfl [.T .none 1 []] [(2000,71)] (c8.Ts ⟨rfl,ak⟩ aqv) rfl an ?_) ?_;rintro d aO ⟨v,_,rfl,rfl⟩;exact⟨_,E,ed (v,y.2)⟩;refine bQ (λy=>ah.ph aN 71 rfl rfl rfl auK rfl rfl rfl qA.1 (by show(0+_)*8<=_;omega) (by show 0+_<=_;omega) λff ea pJ=>(ed (y.1,ff,ea,pJ))) ?_;exact trivial;rintro⟨aul,aum,aun,auo⟩;refine go ?_;refine Y.B7 75 rfl λaup auq gu _ _=>?_;simp only[Value.slice.injEq]at gu;obtain⟨rfl,rfl,rfl⟩:=gu;refine J7 75 75 ?_;refine go ?_;refine hf (λQ:Nat=>Q<=kZ.length) [2,5,6,7,75,76] [5,6,46] (λQ=>[(77,u Q)]) (λ_=>[]) (λQ=>kZ.length-Q) 0 (au7 _) [(5,5),(6,6),(46,46)] ?_;intro i hi;refine go ?_;refine cb (t:=decide ((i:Int)<((bo kZ).length:Nat))) ?_ ?_<;>intro hc;(have aG:i<kZ.length:=by have:=avg hc;omega);have wH:=aqx _ (auT aG);refine go ?_;refine bJ (u kZ[i]) (by simp[bo,aG]) ?_;refine mq [(3005,5),(3006,6),(3007,46)] (Rv [(kZ[i],1)] auF auE _ ax0 (.inl hT)) ?_;exact fs (i+1) [(5,5),(6,6),(46,46)] aG;refine go ?_;rw[show xP.files.map bj=[bj ⟨[97],21,3000⟩]from rfl];refine hf (λQ:Nat=>Q<=1) [5,6,7,88,89] [5,6,46] (λQ=>[(90,u Q)]) (λ_=>[]) (λQ=>1-Q) 0 (au7 _) [(5,5),(6,6),(46,46)] ?_;intro i hi;refine go ?_;refine cb (t:=decide ((i:Int)<1)) ?_ ?_<;>intro hc;(have aG:i=0:=by have:=avg hc;omega);subst aG;refine go ?_;refine⟨λ_=>by decide,?_⟩;(conv=>whnf);refine go ?_;intro uP;(conv=>whnf);refine go ?_;refine Y.x2 aN 8 mixed auI ?_;refine go ?_;refine bq (Nh 3000 auG auG) ?_;refine mq [(3005,5),(3006,6),(3007,46)] (Rv [(21,io 3000)] auF (by simp;decide) _ ax0 (.inl hT)) ?_;exact fs 1 [(5,5),(6,6),(46,46)] auG;refine go ?_;refine dR (ah.sK aN 46 rfl rfl rfl rfl) ?_;refine Y.qF 12 2 23 ?_;refine go ?_;refine hf (λQ:Nat×Option Addr×Nat×Nat=>Q.1<=23) [5,6,107,108] [5,6,46] (λQ=>[(109,u Q.1),(13,.am (.slice Q.2.1 Q.2.2.1 Q.2.2.2))]) (λQ=>[(12,.row (.slice Q.2.1 Q.2.2.1 Q.2.2.2) (abj Q.1) 2 23)]) (λQ=>23-Q.1) (0,none,0,0) auG [(5,5),(6,6),(46,46),(12,12)] ?_ (h1:=by exact⟨by exact⟨E,E,E,E,E,ap.rO,ak⟩,rfl,cX⟩);rintro⟨i,aqA,on,aqB⟩ hi;dsimp only at hi⊢;refine Y.B7 12 rfl λaur aus uI _ _=>?_;simp only[Value.slice.injEq]at uI;obtain⟨rfl,rfl,rfl⟩:=uI;refine go ?_;refine cb (t:=decide ((i:Int)<23)) ?_ ?_<;>intro hc;(·(have aG:i<23:=by have:=avg hc;omega);(have aS:∀j,j<23->(vA (List.replicate 23 true))[j]?=some (.bool true):=λj ad=>by rw[vA,au',hT j ad];rfl);have fg:(vA (List.replicate 23 true)).length=23:=rfl;obtain⟨KZ,abk⟩:∃KZ,KZ=true:=⟨_,rfl⟩;refine go ?_;refine dR (ah.eG aN 46 rfl rfl rfl rfl rfl rfl rfl auD (by rw[fg];omega)) ?_;refine dR (ah.mh aN 46 (i:=i) auJ rfl rfl (show _=some (.bool KZ) by rw[abk];exact aS i aG)) ?_;refine cb (t:=!KZ) (λbx=>by rw[abk]at bx;cases bx) (λ_=>?_);apply eh;by_cases aw:0<i;(·rw[show abj i=[vz (0,(i:Int))]from auN auD];refine Y.EC aN ?_;(conv=>whnf);(iterate 3 (refine⟨rfl,.inl ?_⟩;conv=>whnf));refine⟨rfl,_,_,rfl,rfl,.inl ⟨by simpa using aw,.inl ?_⟩⟩;(conv=>whnf);apply cj;(conv=>whnf);(iterate 2 (refine⟨rfl,_,_,rfl,rfl,.inl ⟨by simpa using aw,.inl ?_⟩⟩;conv=>whnf));refine hb ?_;(conv=>whnf);refine⟨rfl,_,_,rfl,rfl,.inl ⟨by simpa using aw,.inr (ah.eG aN 46 rfl rfl rfl rfl rfl rfl rfl auD (by rw[fg];omega) ?_)⟩⟩;(conv=>whnf);refine⟨rfl,_,_,rfl,rfl,.inl ⟨by simpa using aw,.inr (ah.mh aN 46 (i:=i-1) (by rw[show((i:Int)-1).toNat=i-1 by omega];rfl) rfl rfl (aS _ auD) ?_)⟩⟩;(conv=>whnf);refine⟨rfl,.inr (ah.H4 rfl (by simpa using aw) ?_)⟩;(conv=>whnf);refine⟨rfl,.inl ?_⟩;refine go ?_;have aut:[vz (0,(i:Int))].length=1:=rfl;refine dR (ah.sK aN 12 rfl rfl rfl rfl) ?_;refine dR (ah.eG aN 12 rfl rfl rfl rfl rfl rfl rfl auD auD) ?_;refine dR (ah.js aN 12 (i:=0) rfl rfl auD rfl rfl rfl auG) ?_;refine dR (ah.n9 aN 12 (i:=0) (j:=1) (y:=vz (0,(i:Int))) rfl rfl rfl rfl) ?_;refine dR (ah.eG aN 12 rfl rfl rfl rfl rfl rfl rfl auD auD) ?_;refine dR (ah.js aN 12 (i:=0) rfl rfl auD rfl rfl rfl auG) ?_;refine dR (ah.vj aN 12 (i:=0) (j:=1) rfl rfl rfl rfl rfl auG rfl) ?_;exact fs (i+1,aqA,1,aqB) [(5,5),(6,6),(46,46),(12,12)] aG);(have kE:i=0:=by omega);subst kE;refine Y.EC aN ?_;(conv=>whnf);(iterate 3 (refine⟨rfl,.inl ?_⟩;conv=>whnf));(iterate 5 (refine⟨rfl,_,_,rfl,rfl,.inr ⟨rfl,?_⟩⟩;conv=>whnf));refine⟨rfl,.inr (ah.ED rfl rfl ?_)⟩;(conv=>whnf);refine⟨rfl,.inl ?_⟩;refine go ?_;refine .inr (ah.ph aN 12 rfl rfl rfl auK rfl rfl rfl awV auG auG λIM Cs IN=>?_);(conv=>whnf);refine go ?_;exact fs (1,IM,Cs,IN) [(5,5),(6,6),(46,46),(12,121)] aG);(have kE:i=23:=by have:=ava hc;omega);subst kE;refine J7 12 13 ?_;refine go ?_;exact E
theorem aqC(n:U)(p d:auM)(O:d≠[])(bK:aT B 65 [az n] (.T .none 2 [ek ⟨p,d⟩])):aT B 22 [az n] (.T .none 1 []):=by refine bB Tryz.func22 Tryz.ntmps22 λW=>?_;refine cc ?_;intro dI;refine qI ?_;refine .inr (ah.vu (λbO=>?_));refine kB ?_;refine⟨[az n],_,λ_=>bK,an,?_⟩;refine mT ?_;refine Y.ee (α:=Bool×Value) (λx=>[(3,.am (.map (some bO))),(14,.T .none 2 [ek ⟨p,d⟩]),(15,u 1),(16,u (bif x.1 then 1 else 0)),(4,.T .none 2 [ek ⟨p,d⟩])]) (λx=>[(11,.mp bO (bif x.1 then[(D.N d,D.T (.own 33 x.2) 1 [.N p])]else[]))]) (λx=>bif x.1 then 0 else 1) (false,Value.nilFunc) [(11,11)] ⟨an,rfl,a_⟩ ?_;rintro⟨q,w⟩;(try dsimp only);apply b1;apply eh;refine aI (decide ((bif q then(1:Int)else 0)<1)) rfl ?_ ?_<;>intro hc;(·apply ci;(have I:q=false:=by cases q<;>simp at hc⊢);subst I;refine gJ ?_;refine nn ?_;refine wQ (ek ⟨p,d⟩) ?_;(conv=>whnf);intro dW;apply cj;refine gK ?_;refine aI (d !=[]) rfl ?_ ?_<;>intro bx;(·refine Y.tR 5000 1 9 ?_;refine' eU (α:=Value) [(6,.box dW [.N p,.N d]),(11,.mp bO []),(5000,.own (.slice none 0 0) 0 1 9)] Value.nilFunc (λQ=>[_,_,_,_,_,_,.T (.own 5000 (.slice none 0 0)) 1 [],_,_,_,.T (.own 33 Q) 1 ([.N p]),.any]) (λQ=>[(10,5000,none),(10,33,some (.own Q (1) 1 9)),(11,11,some (.mp bO [(.N d,.T (.own 33 Q) 1 [.N p])]))]) [0,0,2,0,0,16,56,0,128,384,1016,2047] [(10,5000),(10,33),(11,11)] ?_ ?_;rotate_left 9;refine dB ?_;refine bQ (λQ=>ah.MS 11 (em:=9) (eB:=59) (k:=.N d) (Q:=.T (.own 5000 (.slice none 0 0)) 1 []) (e1:=.slice none 0 0) rfl rfl rfl rfl rfl rfl auF rfl auL (λw C=>.jj _ 1 none rfl) (cB Q)) ?_;refine B8 (λQ=>?_) ?_;(conv=>whnf);refine⟨rfl,rfl,?_⟩;(conv=>whnf);refine⟨by simp,by simp,auK,λGV=>?_⟩;exact ed GV;refine bQ (λQ=>ah.z' 11 (em:=9) (eB:=59) (k:=.N d) rfl rfl rfl rfl rfl rfl auF (cB Q)) ?_;exact trivial;intro Q;(conv=>whnf);refine Y.fc [(3,.am (.map (some bO))),(14,.T .none 2 [ek ⟨p,d⟩]),(15,u 1),(16,u 0),(4,.T .none 2 [ek ⟨p,d⟩])] [(11,.mp bO [(.N d,.T (.own 33 Q) 1 [.N p])])] [(11,11)] ⟨cX,rfl,cX⟩ ?_;(conv=>whnf);skip;refine ml ?_;exact⟨(true,Q),[(11,11)],awV,an,rfl,a_⟩);exact absurd bx (by simpa using O));(have I:q=true:=by cases q<;>simp at hc⊢);subst I;refine Y.exit ?_;apply b1;refine mT ?_;refine Y.ee (α:=Bool) (λx=>[(3,.am (.map (some bO))),(7,.bd),(35,.T .none 2 [ek ⟨p,d⟩]),(36,u 1),(37,u (bif x then 1 else 0))]) (λx=>[(11,.mp bO [(D.N d,D.T (.own 33 w) 1 [.N p])])]) (λx=>bif x then 0 else 1) false [(11,11)] ⟨an,rfl,a_⟩ ?_;rintro q;(try dsimp only);apply b1;apply eh;refine aI (decide ((bif q then(1:Int)else 0)<1)) rfl ?_ ?_<;>intro hc;apply ci;(have I:q=false:=by cases q<;>simp at hc⊢);subst I;refine gJ ?_;refine nn ?_;refine wQ (ek ⟨p,d⟩) ?_;(conv=>whnf);intro jd;apply cj;refine vd ?_;apply mj;refine ej ?_;refine .inr (ah.Id 11 (em:=9) (eB:=59) (k:=.N d) (d:=.T (.own 33 w) 1 [.N p]) rfl rfl rfl rfl rfl rfl (by simp[mY]) (by simp[j9,oL]) ?_);refine mQ ?_;refine mR ?_;refine⟨λh=>by simp at h,?_⟩;refine mR ?_;refine⟨.N p,λh=>rfl,?_⟩;refine h6 ?_;refine no ?_;refine aI _ rfl ?_ ?_<;>intro bx;exact absurd bx auF;refine qJ ?_;exact⟨true,[(11,11)],awV,an,rfl,a_⟩;(have I:q=true:=by cases q<;>simp at hc⊢);subst I;refine qH ?_;exact ap.nil
def G2:auM:=List.replicate 3000 120
def K0:U:=⟨[97],1,G2,[],0,0,0,315532800,0,0,[],[]⟩
def eH:U:=⟨[],0,[],[],0,0,0,315532800,0,0,[K0],[]⟩
def xQ:fT:=⟨[86],[],[],[],[],1,1,315532800,1,0,[],0,false⟩
theorem Rw:cH eH=[⟨[97],G2⟩]:=by decide +kernel
theorem abl:hI eH 0=(3,0):=by decide +kernel
theorem aqD:aB eH=3008:=by decide +kernel
theorem DB:ev eH:=by unfold ev;rw[aqD];decide
theorem K1:oS eH 100000=true:=by decide +kernel
theorem abm:gN xQ=⟨false,false,0,[]⟩:=by decide +kernel
theorem abn:gN ne=⟨false,false,0,[]⟩:=by decide +kernel
theorem aqE:iV eH xQ [] 0=some []:=by decide +kernel
theorem abo:iV eH ne [] 10=some []:=by decide +kernel
theorem aqF:valid eH=true:=by decide +kernel
def ji:List eE:=[⟨[],[0],1,0,0,false⟩]
def ru:List gf:=[⟨[97],[65,46,59,49],0,-1,false,false,false⟩]
def nP:fk:=⟨false,false,0,[]⟩
def rv:List (auM×U):=fM (dr eH) eH (dq eH [] 1)
theorem aqG:kL (nN (mB (ji.map λd=>(d.id,d.cv)) λ_=>0) false).1=10:=by decide +kernel
theorem aqH:(lg false eH).1=ji:=by decide +kernel
theorem aqI:(lg false eH).2.1=ru:=by decide +kernel
theorem aqJ:oW eH nP=0:=by decide +kernel
theorem aqK:sn (fB eH ji) (eT nP rv ji ru) 1=0:=by decide +kernel
theorem Rx:∀x∈eT nP rv ji ru 0,o5 (fB eH ji) false x/\(uj (qq x.id (gl (fB eH ji) x))=false/\qq x.id (gl (fB eH ji) x)<=200)/\(gl (fB eH ji) x).tail=[]:=by unfold o5 iu;decide +kernel
theorem aqL:(eT nP rv ji ru 0).length=3:=by decide +kernel
theorem aqM{l:List Int}(aj:l.length=3)(h:∀x∈l,uj x=false/\x<=200):yJ l=1:=by match l,aj with|[a,b,c],_ =>obtain⟨gn,a2⟩:=h a auF;obtain⟨dI,ca⟩:=h b auF;obtain⟨ff,ea⟩:=h c auF;have a3:=FA gn;have el:=FA dI;have pJ:=FA ff;(have bn:∀x y:Int,0<=x->x+y<=2048->x<2048->s6 x y=x:=λx y h1 A aa=>by unfold s6;rw[avH h1,auN auD]);(have aw:sb [a,b,c]=([0,a,a+b],a+b+c,true):=by unfold sb;rw[auN (by simp[gn,dI,ff])];simp only[oj,awf,List.foldl_nil,IZ];rw[bn 0 a auD auD auD,bn (0+a) b auD auD auD,bn (0+a+b) c auD auD auD];simp);unfold yJ;rw[aw,au4 (by dsimp only;omega)];dsimp only;omega
theorem Ry:ic nP eH=(3,0):=by have cD:=λx J=>(Rx x J).1;(have aw:(na (fB eH ji) false (eT nP rv ji ru 0)).Perm (eT nP rv ji ru 0):=by rw[JL _ _ cD];have:=(P2 (y7 (fB eH ji) false) ((eT nP rv ji ru 0).attachWith _ cD)).map (·.1);rwa [List.attachWith_map_subtype_val]at this);(have G:uG (fB eH ji) false (eT nP rv ji ru 0)=1:=by refine aqM (by rw[JO,auS,aw.length_eq,aqL]) λx J=>?_;obtain⟨y,hy,rfl⟩:=au_.1 J;exact(Rx y (aw.mem_iff.1 hy)).2.1);(have aqN:so (fB eH ji) false (eT nP rv ji ru) 1=[]:=by show([0]:List Nat).flatMap _=[];rw[avF,List.flatMap_nil,avC,List.flatMap_eq_nil_iff];exact λx J=>(Rx x (aw.mem_iff.1 J)).2.2);(have dh:li nP rv ji ru (fB eH ji)=(4,0):=by unfold li pQ;rw[aqG];show(if sn (fB eH ji) (eT nP rv ji ru) 1=0 then(xz (fB eH ji) false (eT nP rv ji ru) 1 (1+2*kc 10),0)else _)=_;rw[auO aqK,xz,aqN];show(1+2*kc 10+uG (fB eH ji) false (eT nP rv ji ru 0)+kc 0,(0:Int))=_;rw[G];rfl);unfold ic;rw[auO aqF];show th nP eH rv (lg false eH).1 (lg false eH).2.1 (fB eH (lg false eH).1)=_;(have jP:lj nP rv eH ji ru (fB eH ji)=(4,0):=by rw[lj,auN (λh=>by cases h.2),dh]);rw[aqH,aqI,th,auO aqJ,jP];rfl
def abp:q3:=⟨10,77,78,3,0,false,10,77,28,81,5,[81,82,83],0,0,0,[⟨[97],84,3000⟩]⟩
theorem abq(l:q3):l=⟨l.S,l.C,l.iS,l.iC,l.kind,l.opn,l.uS,l.uC,l.recg,l.Ar,l.pC,l.As,l.commit,l.spS,l.spC,l.files⟩:=rfl
theorem abr{a b:q3}(h1:(a.S,a.C,a.iS,a.iC)=(b.S,b.C,b.iS,b.iC))(A:(a.kind,a.opn,a.uS,a.uC)=(b.kind,b.opn,b.uS,b.uC))(aa:(a.recg,a.Ar,a.pC,a.As)=(b.recg,b.Ar,b.pC,b.As))(aF:(a.commit,a.spS,a.spC)=(b.commit,b.spS,b.spC))(a8:a.files=b.files):a=b:=by rw[abq a,abq b];simp only[Prod.mk.injEq]at h1 A aa aF;obtain⟨g1,fI,g3,g4⟩:=h1;obtain⟨Mm,aqO,aqP,aqQ⟩:=A;obtain⟨aqR,aqS,aqT,aqU⟩:=aa;obtain⟨aqV,aqW,aqX⟩:=aF;rw[g1,fI,g3,g4,Mm,aqO,aqP,aqQ,aqR,aqS,aqT,aqU,aqV,aqW,aqX,a8]
theorem abs(m:fT)(cap start:Int)(hm:gN m=nP)(au:m.du=0):wu eH m [] start [[97]] cap=ro (gG eH m [] start [[97]]) (3,0) (3,0) cap:=by unfold wu;rw[hm,au,Ry,abl]
theorem aqY:(ro (gG eH xQ [] 0 [[97]]) (3,0) (3,0) 500).1=xP:=abr auH auH auH auH auH
theorem aqZ:(ro (gG eH xQ [] 0 [[97]]) (3,0) (3,0) 500).2=0:=by decide +kernel
theorem aq0:(ro (gG eH ne [] 10 [[97]]) (3,0) (3,0) 500).1=abp:=abr auH auH auH auH auH
theorem aq1:(ro (gG eH ne [] 10 [[97]]) (3,0) (3,0) 500).2=0:=by decide +kernel
theorem aq2:tq (hX eH ne [] 10) (3,0) (3,0)=(77,0):=by decide +kernel
theorem abt(m:fT)(start:Int):[[97]].Perm (lL (gG eH m [] start []) (cH eH)):=by rw[Rw];exact E
theorem aq3(aX:dk B):aT B 19 [az eH,im xQ,.T .none 1 (aQ [[97]]),.T .none 3 (([]:List dl).map bj),u 0,u 500] (.bm [l9 xP,u 0]):=by have h:=Rr aX eH xQ [[97]] [] 0 500 [] DB K1 auG (λg aS=>by cases aS) auG aqE auG auG (abt xQ 0);rw[abs _ _ _ abm rfl,aqY,aqZ]at h;exact h
theorem aq4(aX:dk B):aT B 19 [az eH,im ne,.T .none 1 (aQ [[97]]),.T .none 3 (([]:List dl).map bj),u 10,u 500] (.bm [l9 abp,u 0]):=by have h:=Rr aX eH ne [[97]] [] 10 500 [] DB K1 auG (λg aS=>by cases aS) auG abo auG auG (abt ne 10);rw[abs _ _ _ abn rfl,aq0,aq1]at h;exact h
theorem aq5(aX:dk B):aT B 20 [az eH,im ne,.T .none 3 (([]:List dl).map bj),u 10] (.bm [u 77,u 0]):=by have h:=abc aX eH ne [] 10 [] DB K1 auG (λg aS=>by cases aS) auG abo;rw[abn,show(⟨false,false,0,[]⟩:fk)=nP from rfl,Ry,show ne.du=0 from rfl,abl,aq2]at h;exact h
theorem aq6(aX:dk B):aT B 30 [az eH,r2 ⟨false,false,0,[]⟩] (.bm [u 3,u 0]):=by have h:=(Rq aX xQ DB K1).1.1;rw[abm,show(⟨false,false,0,[]⟩:fk)=nP from rfl,Ry]at h;exact h
theorem aq7(aX:dk B):aT B 28 [az eH] (.T .none 1 (aQ [[97]])):=by have h:=apb aX eH DB;rw[Rw]at h;exact h
theorem aq8(aX:dk B):aT B 22 [az eH] (.T .none 1 []):=by have h:=O2 aX eH DB;rw[Rw]at h;exact aqC eH [97] G2 auH h
theorem aq9:Lib.repeatL [120] 3000=G2:=by decide +kernel
theorem aq_:aT B 74 [.N [120],u 3000] (.N G2):=by rw[<-aq9];exact .zK (jt Tryz.func74 rfl auH) rfl λw G=>(Tryz.strings_Repeat ⟨⟨[120]⟩⟩ 3000 w auG (by show 1*3000<=_;decide)).mono λe w' ⟨aq,cz⟩=>⟨_,aq,λC=>.N _,cz⟩
def abu:fT:=⟨[],[],[],[],[],0,0,0,0,0,[],0,false⟩
theorem aq':eH.F.map enc=[az K0]:=by show[enc K0]=_;rw[qK]
theorem ara:aT B 29 [] (.bm [az eH,im xQ]):=by refine fn Tryz.func29 Tryz.ntmps29 λW=>?_;refine go ?_;intro lu;(conv=>whnf);refine go ?_;intro dI;(conv=>whnf);refine go ?_;refine bq aq_ ?_;intro ca;(conv=>whnf);refine go ?_;refine⟨ap.agg ⟨E,E,E,E,E,E,E,E,E,E,?_,ap.nil,ak⟩,ap.agg ⟨E,E,E,E,E,E,E,E,E,E,ap.nil,E,E,ak⟩,ak⟩;rw[aq'];exact ap.trans (ap.adD (bl:=[az K0]) ⟨E,E,E,E,E,E,E,E,E,E,ap.nil,ap.nil,ak⟩ rfl (λy hy=>by simp at hy;subst hy;rfl)) ap.dZ
theorem arb(aX:dk B):aT B 9 [] (.bool true):=by have wq:=aq6 aX;have arc:=aq3 aX;have ard:=aq4 aX;have K2:=aq5 aX;refine fn Tryz.func9 Tryz.ntmps9 λW=>?_;refine go ?_;refine bq ara ?_;intro dI;(conv=>whnf);refine go ?_;intro ca;(conv=>whnf);refine go ?_;refine vq ?_;(conv=>whnf);refine⟨_,_,λ_=>wq,⟨E,ap.agg ⟨E,E,E,ap.nil,ak⟩,ak⟩,?_⟩;(conv=>whnf);refine go ?_;refine vq ?_;(conv=>whnf);refine⟨_,_,λ_=>arc,⟨E,E,ap.dZ,ap.nil,E,E,ak⟩,?_⟩;(conv=>whnf);refine go ?_;intro cF;(conv=>whnf);refine go ?_;refine⟨[.T .none 3 (xP.files.map bj),.T .none 3 (([⟨[97],21,3000⟩]:List dl).map bj)],_,λh=>apc xP.files [⟨[97],21,3000⟩] auG auG,⟨E,ap.dZ,ak⟩,?_⟩;(conv=>whnf);refine go ?_;refine vq ?_;(conv=>whnf);refine⟨_,_,λ_=>K2,⟨E,E,ap.nil,E,ak⟩,?_⟩;(conv=>whnf);refine go ?_;refine vq ?_;(conv=>whnf);refine⟨_,_,λ_=>ard,⟨E,E,ap.dZ,ap.nil,E,E,ak⟩,?_⟩;(conv=>whnf);refine go ?_;intro cG;(conv=>whnf);refine go ?_;refine bq (E9 (B:=B) ne) ?_;refine⟨[im abu],_,λh=>E9 abu,⟨ap.agg ⟨E,E,E,E,E,E,E,E,E,E,ap.nil,E,E,ak⟩,ak⟩,?_⟩;(conv=>whnf);refine go ?_;refine bq (aq7 aX) ?_;refine⟨[.T .none 1 (aQ [[97]]),.T .none 1 (aQ [[97]])],_,λh=>aay [[97]] [[97]] auG auG,⟨E,ap.dZ,ak⟩,?_⟩;(conv=>whnf);refine go ?_;refine bq (aq8 aX) ?_;refine bq aqw ?_;exact ap.of_eq (auP D.bool auH)
mutual
def cg:U->U
 |.mk a b _ d e f g h i j ae ch=>.mk a b [] d e f g h i j (K3 ae) ch
def K3:List U->List U
 |[]=>[]
 |k::r=>cg k::K3 r
end
theorem xR:∀l:List U,K3 l=l.map cg
 |[]=>rfl
 |k::r=>by rw[K3,xR r];rfl
theorem ow(n:U):cg n=⟨n.name,n.kind,[],n.target,n.cu,n.n2,n.n3,n.n4,n.n5,n.n6,n.F.map cg,n.bD⟩:=by cases n;simp only[cg,xR]
theorem rx(n:U):(cg n).name=n.name:=by rw[ow]
theorem Bg(n:U):(cg n).kind=n.kind:=by rw[ow]
theorem DC(n:U):(cg n).F=n.F.map cg:=by rw[ow]
theorem are(n:U)(m:auM):cg (n.named m)=(cg n).named m:=by cases n;simp only[U.named,cg]
theorem abv(l:List U):kg (l.map cg)=(kg l).map cg:=by unfold kg;exact(List.map_mergeSort λa _ b _=>by rw[rx,rx]).symm
theorem Rz(v:Int)(k:U)(d:Int):kb v (cg k) d=kb v k d:=by rw[ow];unfold kb;rfl
mutual
theorem abw(aU:List U->List auM)(iq:∀l:List U,aU (l.map cg)=aU l)(v:Int):∀(n:U) (d:Int),it aU v d (cg n)=cg (it aU v d n)
 |.mk a b c t e f g h i j ae ch,d=>by
  simp only[cg,it,xR];rw[iq,abx aU iq v ae (aU ae) (d+1),abv]
theorem abx(aU:List U->List auM)(iq:∀l:List U,aU (l.map cg)=aU l)(v:Int):∀(ae:List U) (cm:List auM) (d:Int),fy aU v d (ae.map cg) cm=(fy aU v d ae cm).map cg
 |[],cm,d=>by cases cm<;>rfl
 |k::r,[],d=>rfl
 |k::r,m::cm,d=>by
  simp only[avc,fy];rw[Rz,abw aU iq v k d,abx aU iq v r cm d];split
  ·rw[avc,are]
  rfl
end
theorem arf(n:U):iz (cg n)=cg (iz n):=abw _ (λl=>by rw[avR];exact avM λk _=>rx k) 3 n 1
mutual
theorem aby:∀n:U,gQ (cg n)=(gQ n).map cg
 |.mk a b c d e f g h i j ae ch=>by simp only[cg,gQ,xR,avc];rw[abz ae]
theorem abz:∀l:List U,f_ (l.map cg)=(f_ l).map cg
 |[]=>rfl
 |n::r=>by simp only[avc,f_,avo];rw[aby n,abz r]
end
theorem arh(s:kR)(i:Int)(m:U):sz s i (cg m)=sz s i m:=by(have h1:hq (cg m)=hq m:=by unfold hq xN ts;rw[ow];dsimp only;rw[List.foldl_map];simp only[rx]);(have A:(cg m).bD=m.bD:=by rw[ow]);unfold sz;rw[h1,A]
theorem ari(l:List U):lR (l.map cg)=lR l:=by unfold lR tt;rw[List.foldl_map];simp only[arh]
theorem arj(n:U):lR (gQ (iz (cg n)))=lR (gQ (iz n)):=by rw[arf,aby,ari]
theorem ark(v:Int)(ao:List auM)(k:U):o1 v ao (cg k)=o1 v ao k:=by unfold o1 xk;rw[rx,Bg]
theorem RA(v:Int)(ae:List U):cd v (ae.map cg)=cd v ae:=by unfold cd g5;rw[List.foldl_map];simp only[ark]
def aK.d8(s:aK):aK:={s with n:=cg s.n}
theorem arl(x:aK)(k:U)(m:auM)(c:ex):bX x.d8 (cg k) m c=(bX x k m c).d8:=by unfold bX aK.d8;simp only[rx,Bg,Rz]
theorem arm(x:aK):x.d8.any=x.any:=rfl
theorem RB(x:aK):x.d8.c_=x.c_:=by unfold aK.c_ aK.d8;dsimp only;rw[Bg]
theorem abA(c:ex)(x:aK):c.add x.d8=c.add x:=by unfold ex.add;rw[RB];rfl
theorem abB:∀(l:List aK) (c:ex),c.iQ (l.map aK.d8)=c.iQ l
 |[],c=>rfl
 |x::r,c=>by rw[avc,ex.JC,ex.JC,abA,abB r]
mutual
theorem abC:∀(n:U) (x:aK) (c:ex),fA (cg n) x.d8 c=(fA n x c).map aK.d8
 |.mk a b c d e f g h i j ae ch,x,gV=>by
  simp only[cg,fA,xR];rw[RA,RC ae]
theorem RC:∀(ae:List U) (cm:List auM) (x:aK) (c:ex),e9 (ae.map cg) cm x.d8 c=(e9 ae cm x c).map aK.d8
 |[],cm,x,c=>by cases cm<;>rfl
 |k::r,[],x,c=>rfl
 |k::r,m::cm,x,c=>by
  simp only[avc,e9];rw[arl,arm,abA,abC k,abB,RC r,RC r];split
  ·rw[avc,avo]
  rfl
end
theorem RD(p:aK->Bool)(aw:∀x,p x.d8=p x)(l:List aK):(l.map aK.d8).filter p=(l.filter p).map aK.d8:=by rw[List.filter_map];congr 1;exact List.filter_congr λx _=>aw x
theorem abD(l:List aK):ef (l.map aK.d8)=(ef l).map aK.d8:=RD _ (λx=>rfl) l
theorem abE(l:List aK):bM (l.map aK.d8)=(bM l).map aK.d8:=RD _ RB l
theorem abF(l:List aK):eF (l.map aK.d8)=eF l:=by unfold eF;rw[abD,auS]
theorem arn(s:Nat)(x:aK):x.d8.kM s=x.kM s:=by unfold aK.kM;rw[RB];rfl
theorem aro(bs:auM)(l:List aK):ko bs (l.map aK.d8)=ko bs l:=by unfold ko;rw[abF,abE,avR];rfl
theorem arp(s:Nat)(l:List aK)(i:Nat):lf s (l.map aK.d8) i=lf s l i:=by unfold lf;rw[RD _ (λx=>rfl),avR];exact avM λx _=>arn s x
theorem arq(bs:auM)(l:List aK):qr bs (l.map aK.d8)=qr bs l:=by unfold qr;rw[abF,abD,abE,avR,auS];simp only[arp];rfl
theorem arr(bi:Bool)(n:U)(h:valid (cg n)=valid n):lg bi (cg n)=lg bi n:=by unfold lg;rw[h,DC,RA,show cT bi (cg n)=(cT bi n).d8 from rfl,abC,aro,arq]
section
variable{bU RE:Type}{f:bU->RE}
theorem K4(L:List bU)(i j:Nat):mr (L.map f) i j=(mr L i j).map f:=by unfold mr;rw[au',au'];cases L[i]?<;>cases L[j]?<;>simp[axG]
theorem K5(L:List bU)(a b:Nat):∀n,k5 (L.map f) a b n=(k5 L a b n).map f
 |0=>rfl
 |n+1=>by rw[k5,K5 L a b n,K4];rfl
theorem RF(m:Nat)(L:List bU)(i j:Nat):lC m (L.map f) i j=(lC m L i j).map f:=by
 rw[lC,lC.eq_def m L i j];split
 ·exact K5 ..
 split
 ·rw[K5,RF]
 split
 ·rw[K5,RF]
 rfl
termination_by i+j
theorem abG(L:List bU)(a:Nat):∀n,oa (L.map f) a n=(oa L a n).map f
 |0=>rfl
 |n+1=>by rw[oa,abG L a n,K4];rfl
theorem abH(L:List bU)(m:Nat):∀n,ob (L.map f) m n=(ob L m n).map f
 |0=>rfl
 |n+1=>by rw[ob,abH L m n,K4];rfl
variable{bF:bU->bU->Int}{tv:RE->RE->Int}(hc:∀x y,tv (f x) (f y)=bF x y)
include hc
theorem RG(L:List bU)(i j:Nat):nv tv (L.map f) i j=nv bF L i j:=by unfold nv;rw[au',au'];cases L[i]?<;>cases L[j]?<;>simp[hc]
theorem abI(a:Nat):∀(j:Nat) (L:List bU),qV tv a j (L.map f)=(qV bF a j L).map f
 |0,_=>rfl
 |j+1,L=>by rw[qV,qV,RG hc];split;rw[K4,abI a j];rfl
theorem RH(a:Nat)(L:List bU):∀n,oM tv a (L.map f) n=(oM bF a L n).map f
 |0=>rfl
 |n+1=>by rw[oM,RH a L n,abI hc];rfl
theorem K6:∀(k:Nat) (L:List bU) (a m b:Nat),l6 tv k (L.map f) a m b=(l6 bF k L a m b).map f
 |0,_,_,_,_=>rfl
 |k+1,L,a,m,b=>by(have hs:hg tv (L.map f) a m b=hg bF L a m b:=by unfold hg;simp only[RG hc]);rw[l6,l6];simp only[RG hc,hs];split;exact abG ..;split;exact abH ..;(have bZ:(if hg bF L a m b<m/\hg bF L a m b<(a+b)/2 then lC m (L.map f) (m-hg bF L a m b) ((a+b)/2-hg bF L a m b)else L.map f)=(if hg bF L a m b<m/\hg bF L a m b<(a+b)/2 then lC m L (m-hg bF L a m b) ((a+b)/2-hg bF L a m b)else L).map f:=by split;exact RF ..;rfl);rw[bZ];generalize(if hg bF L a m b<m/\hg bF L a m b<(a+b)/2 then lC m L (m-hg bF L a m b) ((a+b)/2-hg bF L a m b)else L)=qc;(have b0:(if a<hg bF L a m b/\hg bF L a m b<(a+b)/2 then l6 tv k (qc.map f) a (hg bF L a m b) ((a+b)/2)else qc.map f)=(if a<hg bF L a m b/\hg bF L a m b<(a+b)/2 then l6 bF k qc a (hg bF L a m b) ((a+b)/2)else qc).map f:=by split;exact K6 k ..;rfl);rw[b0];split;exact K6 k ..;rfl
theorem abJ(n a:Nat)(L:List bU):oc tv n a (L.map f)=(oc bF n a L).map f:=by
 rw[oc,oc.eq_def bF n a L];split
 ·rw[RH hc,abJ]
 exact RH hc ..
termination_by n-a
theorem abK(n aP a:Nat)(L:List bU):pu tv n aP a (L.map f)=(pu bF n aP a L).map f:=by
 rw[pu,pu.eq_def bF n aP a L];split
 ·rw[K6 hc,abK]
 split
 ·exact K6 hc ..
 rfl
termination_by n-a
theorem abL(n aP:Nat)(L:List bU):qd tv n aP (L.map f)=(qd bF n aP L).map f:=by
 rw[qd,qd.eq_def bF n aP L];split
 ·rw[abK hc,abL]
 rfl
termination_by n-aP
theorem ars(L:List bU):fR tv (L.map f)=(fR bF L).map f:=by unfold fR;rw[auS,abJ hc,abL hc]
end
section
variable{aC ry:bz->List c7}{cR:bz->bz}(gb:∀x,(cR x).id=x.id)(nL:∀x,ry (cR x)=aC x)
include gb nL
theorem RI(x:bz):kN ry (cR x)=kN aC x:=by unfold kN;rw[nL,gb]
theorem abM(x:bz):gl ry (cR x)=gl aC x:=by unfold gl;rw[RI gb nL]
theorem RJ(wide:Bool)(x:bz):o5 ry wide (cR x)↔o5 aC wide x:=by unfold o5;rw[RI gb nL,gb]
theorem abN(wide:Bool)(L:List bz):na ry wide (L.map cR)=(na aC wide L).map cR:=by by_cases h:∀x∈L,o5 aC wide x;(have bt:∀y∈L.map cR,o5 ry wide y:=λy hy=>by obtain⟨x,J,rfl⟩:=au_.1 hy;exact(RJ gb nL wide x).2 (h x J));rw[JL aC wide h,JL ry wide bt];(have e:(L.map cR).attachWith _ bt=(L.attachWith _ h).map λx=>(⟨cR x.1,(RJ gb nL wide x.1).2 x.2⟩:{y:bz // o5 ry wide y}):=by apply av1;simp;intro i h1 A;simp);rw[e,ars (bF:=y7 aC wide) (tv:=y7 ry wide) (λx y=>by unfold y7;dsimp only;rw[gb,gb]),avR,avR];rfl;have bt:¬∀y∈L.map cR,o5 ry wide y:=λar=>h λx J=>(RJ gb nL wide x).1 (ar _ (au_.2 ⟨x,J,rfl⟩));unfold na;rw[axx h,axx bt];rfl
theorem art(wide:Bool)(L:List bz):uG ry wide (L.map cR)=uG aC wide L:=by unfold uG JO;rw[abN gb nL,avR];congr 1;exact avM λx _=>by simp only[Function.comp];rw[gb,abM gb nL]
theorem aru(wide:Bool)(aE:List (auM×Int))(ba:Nat->List bz)(a:Int):pQ ry wide aE (λi=>(ba i).map cR) a=pQ aC wide aE ba a:=by(have h1:∀n,sn ry (λi=>(ba i).map cR) n=sn aC ba n:=λn=>by unfold sn Gv;congr 2;simp only[avR];congr 1;funext i;exact avM λx _=>by simp only[Function.comp];rw[RI gb nL]);(have A:∀n,so ry wide (λi=>(ba i).map cR) n=so aC wide ba n:=λn=>by unfold so;congr 1;funext i;rw[abN gb nL,List.flatMap_map];simp only[abM gb nL]);unfold pQ xz;simp only[h1,A,art gb nL]
end
def mE(ai:List (auM×U)):List (auM×U):=ai.map λx=>(x.1,cg x.2)
theorem abO(ai:List (auM×U))(p:auM):co (mE ai) p=(co ai p).map cg:=by unfold co mE;rw[List.find?_map,Option.map_map,Option.map_map];rfl
theorem K7(ai:List (auM×U))(p:auM):gr (mE ai) p=cg (gr ai p):=by unfold gr;rw[abO];cases co ai p<;>rfl
def bz.d8(x:bz):bz:={x with g0:=match x.g0 with|.AX n e=>.AX (cg n) e|s=>s}
theorem arv(x:bz):x.d8.id=x.id:=rfl
theorem G3(n:U):(cg n).n4=n.n4:=by rw[ow]
theorem arw(o:fk)(ai:List (auM×U))(aL:List eE)(b7:List gf)(i:Nat):eT o (mE ai) aL b7 i=(eT o ai aL b7 i).map bz.d8:=by unfold eT;split;(have h1:∀d,sl o (mE ai) i d=(sl o ai i d).d8:=λd=>by unfold sl bz.d8;rw[K7,G3];dsimp only;split<;>rfl);(have A:∀d,sm o (mE ai) aL d=(sm o ai aL d).d8:=λd=>by unfold sm bz.d8;rw[K7,G3];dsimp only;split<;>rfl);(have aa:∀e,o3 o (mE ai) e=(o3 o ai e).d8:=λe=>by unfold o3 bz.d8;rw[K7,G3];dsimp only;split<;>rfl);rw[avc,avc,avR,h1,A];congr 2;exact avM λe _=>aa e;rfl
theorem arx(l:Int)(k:U):oY l (cg k)=oY l k:=by unfold oY;rw[ow];rfl
theorem abP(n:U)(l:Int):jR (cg n) l=jR n l:=by unfold jR;rw[Bg,DC,List.countP_map];have:(oY l ∘ cg)=oY l:=funext λk=>arx l k;rw[this]
theorem ary(n:U)(aL:List eE)(x:bz):fB (cg n) aL x.d8=fB n aL x:=by obtain⟨a,b,c,d,e,s⟩:=x;cases s with|e4=>rfl|Gn=>show AW (cg n)=AW n;unfold AW;rw[abP];simp only[ow]|dp d=>rfl|AX m e=>show C6 (cg m) e _=C6 m e _;unfold C6;rw[abP];simp only[ow]
theorem RL(l:List U):(l.map cg).map U.name=l.map U.name:=by rw[avR];exact avM λk _=>rx k
theorem arz(v:Int)(l:List U)(s:auM):vZ v (l.map cg) s=vZ v l s:=by unfold vZ;rw[RA,RL]
theorem arA(v:Int)(l:List U):jV v (l.map cg)=jV v l:=by
 unfold jV AN v1;rw[auS,RL,List.all_map,avR,abv];have h1:((λk:U=>dS k.name) ∘ cg)=λk:U=>dS k.name:=funext λk=>by simp only[Function.comp,rx]
 have A:((λk:U=>vZ v ((kg l).map cg) k.name) ∘ cg)=λk:U=>vZ v (kg l) k.name:=funext λk=>by simp only[Function.comp,rx,arz]
 rw[h1,A]
mutual
theorem abQ(o:fk)(ai:List (auM×U)):∀(n:U) (path id:auM) (cv bT:Nat) (s:kr),ix o (mE ai) (cg n) path id cv bT s=ix o ai n path id cv bT s
 |.mk a b c d e f g h i j ae ch,path,id,cv,bT,s=>by
  have ad:(o6 (mE ai) (.mk a b [] d e f g h i j (ae.map cg) ch) path bT).n4=(o6 ai (.mk a b c d e f g h i j ae ch) path bT).n4:=by
   unfold o6;split
   ·rw[K7,G3]
   rfl
  simp only[cg,xR,ix];rw[arA,ad,abR o ai ae]
theorem abR(o:fk)(ai:List (auM×U)):∀(ae:List U) (aU:List auM) (dX:Nat) (path:auM) (bT:Nat) (s:kr),hV o (mE ai) (ae.map cg) aU dX path bT s=hV o ai ae aU dX path bT s
 |[],_,_,_,_,s=>rfl
 |k::ae,aU,dX,path,bT,s=>by
  simp only[avc,hV];rw[Rz,Bg,rx,G3,abQ o ai k,abR o ai ae]
end
theorem arB(o:fk)(n:U)(ai:List (auM×U))(aL:List eE)(b7:List gf)(h:oW (cg n) o=oW n o):th o (cg n) (mE ai) aL b7 (fB (cg n) aL)=th o n ai aL b7 (fB n aL):=by(have h1:li o (mE ai) aL b7 (fB (cg n) aL)=li o ai aL b7 (fB n aL):=by unfold li;rw[show eT o (mE ai) aL b7=λi=>(eT o ai aL b7 i).map bz.d8 from funext λi=>arw o ai aL b7 i];exact aru (cR:=bz.d8) arv (ary n aL) false _ _ _);have A:j1 o (mE ai) (cg n)=j1 o ai n:=abQ o ai n [] [0] 0 1 _;unfold th lj;rw[h,h1,A]
structure G4 (n dK:U):Prop where
 name:dK.name=n.name
 kind:dK.kind=n.kind
 cU:dK.cU.length<=n.cU.length
 target:dK.target=n.target
 auu:dK.cu=n.cu/\dK.n2=n.n2/\dK.n3=n.n3/\dK.n4=n.n4/\dK.n5=n.n5/\dK.n6=n.n6
 bD:dK.bD=n.bD
 F:dK.F.map U.name=n.F.map U.name
theorem RM{n dK:U}(h:G4 n dK){l:Int}(aj:1<=l)(h0:one n l=0):one dK l=0:=by have g:=Ws h0;obtain⟨a,b,c,d,e,f,i,j,k,m,ae,ch⟩:=n;obtain⟨bv,ey,tP,d',nR,w1,g9,ez,bE,u_,abS,auv⟩:=dK;obtain⟨rfl,rfl,aa,rfl,⟨rfl,rfl,rfl,rfl,rfl,rfl⟩,rfl,a8⟩:=h;dsimp only at aa a8;(have aF:abS.length=ae.length:=by simpa using auP List.length a8);exact Xr {g with file:=λe=>⟨axM.1 (Nat.le_zero.1 (av6 aa (Nat.le_of_eq (auP List.length (g.file e).1)))),(g.file e).2⟩,bc:=λe=>axM.1 (aF.trans (auP List.length (g.bc e))),size:=av6 aa g.size,AI:=aF ▸ g.AI,f3:=Wn (awk.1 (show(abS.map U.name).Pairwise λx y=>Op.bytesLess x y=true from a8 ▸ awk.2 (Wm g.f3)))} aj
theorem arC(n:U):G4 n (cg n):=by refine⟨rx n,Bg n,?_,?_,?_,?_,?_⟩;rw[ow];exact au7 _;rw[ow];rw[ow];exact⟨rfl,rfl,rfl,rfl,rfl,rfl⟩;rw[ow];rw[DC,RL]
mutual
theorem abT:∀(n:U) (l:Int),1<=l->gB n l=true->gB (cg n) l=true
 |.mk a b c d e f g h i j ae ch,l,aj,aS=>by
  have h1:=arC (.mk a b c d e f g h i j ae ch);rw[xj,auQ]at aS⊢;refine⟨by have:=RM h1 aj (by simpa using aS.1);simpa using this,?_⟩;rw[DC];exact abU ae (l+1) auD aS.2
theorem abU:∀(ae:List U) (l:Int),1<=l->jT ae l=true->jT (ae.map cg) l=true
 |[],l,_,_=>rfl
 |k::r,l,aj,aS=>by
  simp only[avc,jT,auQ]at aS⊢;exact⟨abT k l aj aS.1,abU r l aj aS.2⟩
end
theorem RN:∀(q:List auM) (n:U),dw (cg n) q=(dw n q).map cg
 |[],n=>rfl
 |m::cm,n=>by(have M:h9 m (cg n).F=(h9 m n.F).map cg:=by unfold h9;rw[DC,List.find?_map];(have:((λk:U=>k.name==m) ∘ cg)=λk:U=>k.name==m:=funext λk=>by simp only[Function.comp,rx]);rw[this]);rw[dw,dw,M];cases h9 m n.F with|none=>rfl|some k=>exact RN cm k
theorem RO(n:U)(s:auM):dr (cg n) s=(cg (dr n s).1,(dr n s).2):=by unfold dr;split;rfl;rw[RN];cases dw n (cO 47 [] s)<;>rfl
mutual
theorem K8:∀(n:U) (p:auM) (l:Int),dq (cg n) p l=dq n p l
 |.mk a b c d e f g h i j ae ch,p,l=>by simp only[cg,xR,dq];rw[abV ae]
theorem abV:∀(ae:List U) (p:auM) (l:Int),iP (ae.map cg) p l=iP ae p l
 |[],p,l=>rfl
 |k::r,p,l=>by simp only[avc,iP];rw[rx,K8 k,abV r]
end
mutual
theorem K9:∀n:U,fd (cg n)=fd n
 |.mk a b c d e f g h i j ae ch=>by simp only[cg,xR,fd];rw[abW ae]
theorem abW:∀ae:List U,eQ (ae.map cg)=eQ ae
 |[]=>rfl
 |k::r=>by simp only[avc,eQ];rw[K9 k,abW r]
end
theorem RP{n:U}(h:valid n=true):valid (cg n)=true:=by rw[q7,auQ]at h⊢;exact⟨by rw[K9];exact h.1,abT n 1 auG h.2⟩
theorem arD(ai:List (auM×U))(p:auM)(n:U):fz (mE ai) p (cg n)=mE (fz ai p n):=by unfold fz;rw[abO];cases co ai p with|none=>simp[mE]|some x =>simp only[av5,mE,avR];(exact avM λx _=>by simp only[Function.comp];split<;>rfl)
theorem abX(n:U):∀(bP:List auM) (ai:List (auM×U)),bP.foldl (λm p=>fz m p (dr (cg n) p).1) (mE ai)=mE (bP.foldl (λm p=>fz m p (dr n p).1) ai)
 |[],ai=>rfl
 |p::r,ai=>by rw[awf,awf,RO];dsimp only;rw[arD,abX n r]
theorem abY(o:fk){n:U}(h:valid n=true):ic o (cg n)=ic o n:=by have bt:=RP h;unfold ic;rw[auO h,auO bt,arr o.rock n (bt.trans h.symm),K8];have hN:fM (dr (cg n)) (cg n) (dq n [] 1)=mE (fM (dr n) n (dq n [] 1)):=abX n _ [([47],n)];rw[hN];refine arB o n _ _ _ ?_;unfold oW;rw[h,bt]
theorem abZ{n:U}(h:valid n=true)(k:Int):hI (cg n) k=hI n k:=by unfold hI;rw[h,RP h,arj]
theorem arE(o:fk)(k:Int){n dK:U}(h:valid n=true)(bt:valid dK=true)(e:cg n=cg dK):ic o dK=ic o n/\hI dK k=hI n k:=by rw[<-abY o h,<-abY o bt,<-abZ h,<-abZ bt,e];exact⟨rfl,rfl⟩
theorem ab0:∀(q:List auM) (n x:U),cg (dy n q x)=dy (cg n) q (cg x)
 |[],n,x=>rfl
 |m::q,n,x=>by(have Z:(n.F.map λk=>if k.name=m then dy k q x else k).map cg=(cg n).F.map λk=>if k.name=m then dy k q (cg x)else k:=by rw[DC,avR,avR];refine avM λQ _=>?_;simp only[Function.comp,rx];split;exact ab0 q Q x;rfl);rw[dy,dy,ow];dsimp only;rw[Z];simp only[ow n]
variable{bw:U}
theorem RQ{n x:U}{q:List auM}(X:valid n=true)(h:dw n q=some x)(J:cg bw=cg x):cg (dy n q bw)=cg n:=by rw[ab0,J];exact Z' q (cg n) (cg x) (q8 (RP X)) (by rw[RN,h];rfl)
theorem RR:∀(ae:List U) (l:Int),jT ae l=true↔∀k∈ae,gB k l=true
 |[],l=>⟨λ_ k Z=>(by cases Z),λ_=>rfl⟩
 |k::r,l=>by rw[jT,auQ,RR r l];exact⟨λh Q bn=>(au8.1 bn).elim (λe=>e ▸ h.1) (h.2 Q),λh=>⟨h k auY,λQ bn=>h Q (auZ _ bn)⟩⟩
theorem ab1{x bw:U}(hs:G4 x bw)(Z:bw.F=x.F):∀(q:List auM) (n:U) (l:Int),1<=l->gZ n->gB n l=true->dw n q=some x->gB (dy n q bw) l=true
 |[],n,l,aj,ag,aS,h=>by simp only[dw,avi]at h;subst h;rw[xj,auQ]at aS;show gB bw l=true;rw[xj,auQ,Z];exact⟨by have:=RM hs aj (by simpa using aS.1);simpa using this,aS.2⟩
 |m::q,n,l,aj,ag,aS,h=>by obtain⟨k,j_,rfl,I⟩:=vW.1 ((s' _ n ag).2 ⟨x,h⟩);rw[yV (lI ag) j_ rfl]at h;rw[xj,auQ,RR]at aS;have aV:=ab1 hs Z q k (l+1) auD (uy ag j_) (aS.2 k j_) h;(have iq:∀Q∈n.F,(if Q.name=k.name then dy Q q bw else Q).name=Q.name:=λQ bn=>by split;rename_i e;have:=ux (lI ag) bn j_ e;subst this;exact Ku q Q bw x h hs.name;rfl);rw[xj,auQ,RR];refine⟨?_,λQ bn=>?_⟩;(have iG:G4 n (dy n (k.name::q) bw):=by refine⟨rfl,rfl,auW _,rfl,⟨rfl,rfl,rfl,rfl,rfl,rfl⟩,rfl,?_⟩;show(n.F.map _).map U.name=_;rw[avR];exact avM λQ bn=>iq Q bn);have:=RM iG aj (by simpa using aS.1);simpa using this;obtain⟨w,cz,rfl⟩:=au_.1 bn;split;rename_i e;have:=ux (lI ag) cz j_ e;subst this;exact aV;exact aS.2 w cz
def K_(V:List Int)(n a:Int):Prop:=∀k∈V,¬(a<=k/\k<a+n)
variable{V:List Int}
theorem arF{a:Int}(h:qo V a<=0):∀k∈V,k<a:=λk Z=>by
 unfold qo at h;have h0:(V.filter λk=>decide (a<=k))=[]:=axM.1 (Nat.le_zero.1 h);have:=(axQ.1 h0) k Z;simp at this;exact this
variable{α:Type}
theorem arG{p:α->Bool}{l:List α}(h:l.any p=true):∃i,∃hi:i<l.length,p l[i]=true/\fh p l=i:=by unfold fh;cases M:l.findIdx? p with|none =>obtain⟨x,J,aw⟩:=av'.1 h;have:=(awR.1 M) x J;rw[this]at aw;cases aw|some i =>obtain⟨hi,aw,_⟩:=awz.1 M;exact⟨i,hi,aw,rfl⟩
theorem ab2{V:List Int}{n:Int}:∀(f:Nat) (a:Int),qo V a<=f->a<=m9 V n f a/\K_ V n (m9 V n f a)/\∀x,a<=x->K_ V n x->m9 V n f a<=x
 |0,a,h=>⟨avK _,λk Z A=>by have:=arF h k Z;simp only[m9]at A;omega,λx J _=>J⟩
 |f+1,a,h=>by rw[m9];have we:=Mj (iv a n) V;split;rename_i h0;refine⟨avK _,λk Z A=>?_,λx J _=>J⟩;(have M:(V.any (iv a n))=false:=by rw[<-we];exact avw auD);have:=(List.any_eq_false.1 M) k Z;apply this;unfold iv;rw[avP A.1,avP A.2];rfl;rename_i h0;(have ax:(V.any (iv a n))=true:=by rw[<-we];exact avP auD);obtain⟨i,hi,aw,e⟩:=arG ax;rw[Gc hi e];obtain⟨h1,A⟩:=AO aw;have bg:=Gb (auT hi) h1;obtain⟨fb,gx,ip⟩:=ab2 (V:=V) (n:=n) f (V[i]+1) auD;refine⟨by omega,gx,λx J hc=>ip x ?_ hc⟩;have:=hc V[i] (auT hi);omega
theorem RS(V:List Int)(n a:Int):a<=eR V n a/\K_ V n (eR V n a)/\∀x,a<=x->K_ V n x->eR V n a<=x:=ab2 _ _ (auW _)
theorem arH{n m a b:Int}(nW:a<=b)(iq:n<=m):eR V n a+n<=eR V m b+m:=by obtain⟨_,_,aa⟩:=RS V n a;obtain⟨g1,fI,_⟩:=RS V m b;have:=aa (eR V m b) auD λk Z h=>fI k Z ⟨h.1,by omega⟩;omega
def DD(V:List Int)(dv:List Int)(a:Int):Int:=dv.foldl (λa n=>eR V n a+n) a
theorem G5(V:List Int)(n:Int)(r:List Int)(a:Int):DD V (n::r) a=DD V r (eR V n a+n):=rfl
inductive ww:List Int->List Int->Prop
 |nil:ww [] []
 |cons {n m:Int} {l r:List Int} (h:n<=m) (bt:ww l r):ww (n::l) (m::r)
 |skip {m:Int} {l r:List Int} (h:0<=m) (bt:ww l r):ww l (m::r)
theorem arI{l r:List Int}(h:ww l r):∀{a b:Int},a<=b->DD V l a<=DD V r b:=by induction h with|nil=>intro a b h;exact h|cons h _ aV=>intro a b nW;rw[G5,G5];exact aV (arH nW h)|@skip m l r h _ aV =>intro a b nW;rw[G5];have:=(RS V m b).1;exact aV auD
theorem arJ{l:List U}(h:f3 l):(l.map U.name).Nodup:=by rw[List.Nodup,awk];exact avU.2 λi j hi ad d6 e=>absurd e (q2 (pI h d6 ad))
mutual
theorem ab3:∀(n:U),gZ n->(k' n).Nodup
 |.mk a b c d e f g h i j ae ch,ag=>by
  rw[Jh,awO];refine⟨λhm=>?_,ab4 ae (arJ (lI ag)) λk Z=>uy ag Z⟩;obtain⟨k,_,q,_,I⟩:=Ji.1 hm;cases I
theorem ab4:∀(ae:List U),(ae.map U.name).Nodup->(∀k∈ae,gZ k)->(sf ae).Nodup
 |[],_,_=>.nil
 |k::r,hi,ag=>by
  have e:sf (k::r)=(k' k).map (k.name::·)++sf r:=rfl;rw[e,List.nodup_append];refine⟨(ab3 k (ag k auY)).map _ (λx y h1 A=>h1 (List.cons.inj A).2),ab4 r (awO.1 hi).2 λx J=>ag x (auZ _ J),λx J y hy GQ=>?_⟩;obtain⟨q,_,rfl⟩:=au_.1 J;obtain⟨bE,fv,pa,_,rfl⟩:=Ji.1 hy;have ar:k.name=bE.name:=(List.cons.inj GQ).1;exact(awO.1 hi).1 (au_.2 ⟨bE,fv,ar.symm⟩)
end
theorem arK(n:U):((cH n).map (·.path)).Nodup:=by unfold cH;by_cases X:valid n=true;rw[auO X];have cD:=q8 X;(have h1:(dq n [] 1).Nodup:=by rw[F4,List.Nodup,awk];refine axK (λ{x y} J hy aZ h=>aZ ?_) (ab3 n cD);exact OJ (vX x n cD J) (vX y n cD hy) h);(have A:(((dq n [] 1).filterMap (h_ n)).map (·.path)).Sublist (dq n [] 1):=by generalize dq n [] 1=l;induction l with|nil=>exact .slnil|cons p r aV =>rw[axE];(cases M:h_ n p with|none=>exact aV.cons _|some x =>(have:x.path=p:=by unfold h_ at M;split at M;cases M;rfl;cases M);rw[avc,this];exact aV.cons_cons _));exact A.nodup h1;rw[auN X];exact .nil
theorem ab5{n:Int}(h:0<=n):io n=(n+2048-1).tdiv 2048:=by unfold io;rw[avH h,au4 h,au4 auD];split<;>omega
theorem RT{p:dF}:∀(l:List e8) (s:AP),(l.map (·.path)).Nodup->(∀f∈l,co (l.foldl (jW p) s).data f.path=some f.data)/\∀q,q∉l.map (·.path)->co (l.foldl (jW p) s).data q=co s.data q
 |[],s,_=>⟨λf M=>(by cases M),λq _=>rfl⟩
 |f::r,s,h=>by rw[avc,awO]at h;obtain⟨h1,A⟩:=RT (p:=p) r (jW p s f) h.2;(have O:(jW p s f).data=fz s.data f.path f.data:=by unfold jW;split<;>rfl);rw[awf];refine⟨λg aS=>?_,λq I=>?_⟩;rcases au8.1 aS with rfl|aS;rw[A _ h.1,O,y2,auO rfl];exact h1 g aS;rw[avc,au8,not_or]at I;rw[A q I.2,O,y2,auN I.1]
theorem RU{p:dF}(hs:p.m.m2=false):∀(l:List e8) (s:AP),s.aR=[]->(l.foldl (jW p) s).aR=[]
 |[],s,h=>h
 |f::r,s,h=>by rw[awf];refine RU hs r _ ?_;unfold jW;split;dsimp only;rw[hs,auN auF];exact h;exact h
def G6(data:List (auM×auM))(q:auM):Int:=(((co data q).getD []).length:Nat)
def wx(data:List (auM×auM))(q:auM):Int:=io (G6 data q)
variable{data:List (auM×auM)}
theorem arL{p:dF}(hs:p.m.m2=false){s:oq}(h0:s.aR=[])(q:auM): pN p V data s q=⟨fz s.own q ⟨q,eR V (wx data q) s.a,G6 data q⟩,[],eR V (wx data q) s.a+wx data q⟩:=by unfold pN;rw[h0,auN (by simp[co]),auN (by rw[hs];decide)];rfl
theorem RV{p:dF}(hs:p.m.m2=false){V:List Int}{data:List (auM×auM)}:∀(o:List auM) (s:oq),s.aR=[]->(jf p V data s o).aR=[]/\(jf p V data s o).a=DD V (o.map (wx data)) s.a/\(∀q,q∉o->co (jf p V data s o).own q=co s.own q)/\(o.Nodup->∀k (h:k<o.length),co (jf p V data s o).own o[k]=some ⟨o[k],eR V (wx data o[k]) (DD V ((o.take k).map (wx data)) s.a),G6 data o[k]⟩)
 |[],s,h=>⟨h,rfl,λq _=>rfl,λ_ k Z=>by cases Z⟩
 |q::r,s,h=>by have e:jf p V data s (q::r)=jf p V data (pN p V data s q) r:=rfl;rw[e,arL hs h q];obtain⟨h1,A,aa,aF⟩:=RV hs (V:=V) (data:=data) r ⟨fz s.own q ⟨q,eR V (wx data q) s.a,G6 data q⟩,[],eR V (wx data q) s.a+wx data q⟩ rfl;refine⟨h1,by rw[A,avc,G5],λx J=>?_,λpL k Z=>?_⟩;rw[au8,not_or]at J;rw[aa x J.2,y2,auN J.1];rw[awO]at pL;cases k with|zero =>rw[awQ,aa q pL.1,y2,auO rfl];rfl|succ k =>rw[av8,aF pL.2 k (by simpa using Z),awi,avc,G5]
theorem RW{x bw:U}(ar:bw.name=x.name)(Z:bw.F=x.F):∀(q r:List auM) (n:U),gZ n->dw n q=some x->(dw (dy n q bw) q=some bw)/\(r≠q->(dw (dy n q bw) r).map U.cU=(dw n r).map U.cU)
 |[],r,n,ag,h=>by simp only[dw,avi]at h;subst h;refine⟨rfl,λaf=>?_⟩;show(dw bw r).map U.cU=_;cases r with|nil=>exact absurd rfl af|cons m cm=>rw[dw,dw,Z]
 |m::q,r,n,ag,h=>by obtain⟨k,j_,rfl,I⟩:=vW.1 ((s' _ n ag).2 ⟨x,h⟩);rw[yV (lI ag) j_ rfl]at h;(have zM:∀Q∈n.F,(if Q.name=k.name then dy Q q bw else Q).name=Q.name:=λQ bn=>by split;rename_i e;have:=ux (lI ag) bn j_ e;subst this;exact Ku q Q bw x h ar;rfl);(have ab6:∀w,h9 w (dy n (k.name::q) bw).F=(h9 w n.F).map λQ=>if Q.name=k.name then dy Q q bw else Q:=λw=>by show h9 w (n.F.map _)=_;unfold h9;rw[List.find?_map];congr 1;(have:∀l:List U,(∀Q∈l,Q∈n.F)->l.find? ((λQ:U=>Q.name==w) ∘ λQ=>if Q.name=k.name then dy Q q bw else Q)=l.find? λQ=>Q.name==w:=λl=>by induction l with|nil=>intro _;rfl|cons Q r aV =>intro bn;rw[awA,awA,aV λarM bt=>bn arM (auZ _ bt)];simp only[Function.comp];rw[zM Q (bn Q auY)]);exact this n.F λQ bn=>bn);(have yQ:h9 k.name n.F=some k:=by have:=yV (q:=[]) (lI ag) j_ rfl;cases M:h9 k.name n.F with|none=>simp only[dw,M]at this;cases this|some Q=>simpa only[dw,M]using this);refine⟨?_,λaf=>?_⟩;rw[dw,ab6,yQ];show dw (if k.name=k.name then dy k q bw else k) q=_;rw[auO rfl];exact(RW ar Z q [] k (uy ag j_) h).1;cases r with|nil=>rfl|cons w vB =>rw[dw,dw,ab6];(cases M:h9 w n.F with|none=>rfl|some Q =>have bn:=axb M;(have arN:Q.name=w:=by have:=ax7 M;simpa using this);show(dw (if Q.name=k.name then dy Q q bw else Q) vB).map U.cU=(dw Q vB).map U.cU;split;rename_i e;have:=ux (lI ag) bn j_ e;subst this;refine(RW ar Z q vB Q (uy ag j_) h).2 λb0=>af ?_;rw[b0,arN];rfl)
theorem ab7{α rQ:Type}{f g:α->Option rQ}:∀{l:List α},(∀x∈l,f x=g x)->l.filterMap f=l.filterMap g
 |[],_=>rfl
 |a::r,h=>by rw[axE,axE,h a auY,ab7 λx J=>h x (auZ _ J)]
theorem arO{n x:U}{q:List auM}(X:valid n=true)(dU:valid (dy n q bw)=true)(h:dw n q=some x)(ar:bw.name=x.name)(Z:bw.F=x.F)(J:cg bw=cg x): cH (dy n q bw)=(cH n).map λf=>if f.path=ew q then⟨f.path,bw.cU⟩else f:=by have ag:=q8 X;have aq:=RQ X h J;(have sa:dq (dy n q bw) [] 1=dq n [] 1:=by rw[<-K8,aq,K8]);have zi:uz q:=vX q n ag ((s' q n ag).2 ⟨x,h⟩);have uR:=λp=>(RO (dy n q bw) p).symm.trans ((auP (λQ=>dr Q p) aq).trans (RO n p));unfold cH;rw[auO X,auO dU,sa,List.map_filterMap];refine ab7 λp aw=>?_;rw[F4]at aw;obtain⟨r,af,rfl⟩:=au_.1 aw;have ny:=vX r n ag af;(have A:(dr (dy n q bw) (ew r)).2=(dr n (ew r)).2:=by have:=auP (λQ:U×Int=>Q.2) (uR (ew r));exact this);(have h1:(dr (dy n q bw) (ew r)).1.kind=(dr n (ew r)).1.kind:=by have:=auP (λQ:U×Int=>Q.1.kind) (uR (ew r));simpa only[Bg]using this);(have M:y1 (dy n q bw) (ew r)=y1 n (ew r):=by unfold y1;rw[h1,A]);unfold h_;rw[M];split;show some _=some _;congr 1;obtain⟨g1,fI⟩:=RW ar Z q r n ag h;dsimp only;by_cases e:r=q;subst e;rw[auO rfl,AL ny,g1];rw[auN λb0=>e (OJ ny zi b0)];congr 1;have g:=fI e;rw[AL ny,AL ny];cases ha:dw (dy n q bw) r<;>cases G:dw n r<;>rw[ha,G]at g<;>simp at g⊢;exact g;rfl
theorem ww.map{g h:auM->Int}:∀{o:List auM},(∀q∈o,g q<=h q)->ww (o.map g) (o.map h)
 |[],_=>.nil
 |q::r,cA=>.cons (cA q auY) (ww.map λpa bt=>cA pa (auZ _ bt))
theorem arP{a b:Int}(h0:0<=a)(h:a<=b):io a<=io b:=by rw[ab5 h0,ab5 auD,au4 auD,au4 auD];omega
variable{cR:List e8}
theorem arQ{P:dF}{c:Int}(hs:P.m.m2=false)(aS:P.a'=[])(ar:(P.files.map (·.path)).Nodup)(aw:cR.map (·.path)=P.files.map (·.path))(O:∀f∈cR,∃g∈P.files,g.path=f.path/\f.data.length<=g.data.length)(ag:∀q∈P.cS,q∈P.files.map (·.path))(M:m_ P c=true):m_ {P with files:=cR} c=true:=by(have arR:(cR.map (·.path)).Nodup:=by rw[aw];exact ar);have hT:lb {P with files:=cR} c=lb P c:=rfl;have gk:(lc {P with files:=cR} (lb {P with files:=cR} c)).2=(lc P (lb P c)).2:=rfl;obtain⟨d1,_⟩:=RT (p:=P) P.files ⟨[],[],[]⟩ ar;obtain⟨d2,_⟩:=RT (p:={P with files:=cR}) cR ⟨[],[],[]⟩ arR;have fb:=RU (p:=P) hs P.files ⟨[],[],[]⟩ rfl;have gx:=RU (p:={P with files:=cR}) hs cR ⟨[],[],[]⟩ rfl;have bZ:sh P c=jf P (lb P c) (P.files.foldl (jW P) ⟨[],[],[]⟩).data ⟨(P.files.foldl (jW P) ⟨[],[],[]⟩).own,(P.files.foldl (jW P) ⟨[],[],[]⟩).aR,(lc P (lb P c)).2⟩ P.cS:=rfl;have b0:sh {P with files:=cR} c=jf {P with files:=cR} (lb P c) (cR.foldl (jW {P with files:=cR}) ⟨[],[],[]⟩).data ⟨(cR.foldl (jW {P with files:=cR}) ⟨[],[],[]⟩).own,(cR.foldl (jW {P with files:=cR}) ⟨[],[],[]⟩).aR,(lc P (lb P c)).2⟩ P.cS:=rfl;generalize P.files.foldl (jW P) ⟨[],[],[]⟩=fK at*;generalize cR.foldl (jW {P with files:=cR}) ⟨[],[],[]⟩=yg at*;obtain⟨_,gn,_⟩:=RV hs (V:=lb P c) (data:=fK.data) P.cS ⟨fK.own,fK.aR,(lc P (lb P c)).2⟩ fb;obtain⟨_,a2,_⟩:=RV (p:={P with files:=cR}) hs (V:=lb P c) (data:=yg.data) P.cS ⟨yg.own,yg.aR,(lc P (lb P c)).2⟩ gx;rw[<-bZ]at gn;rw[<-b0]at a2;(have dP:(sh {P with files:=cR} c).a<=(sh P c).a:=by rw[gn,a2];refine arI (ww.map λq I=>?_) (avK _);have hm:=ag q I;rw[<-aw]at hm;obtain⟨f,tQ,rfl⟩:=au_.1 hm;obtain⟨g,nb,A1,w2⟩:=O f tQ;unfold wx G6;rw[d2 f tQ,<-A1,d1 g nb];exact arP auD (by simpa using w2));unfold m_ at M⊢;cases hc:decide ((sh P c).a<=nH P c)with|false=>rw[hc]at M;cases M|true =>rw[hc]at M;have h1:=avg hc;rw[show decide ((sh {P with files:=cR} c).a<=nH {P with files:=cR} c)=true from avP (by show _<=nH P c;omega)];exact M
theorem arS(p:dF)(cR:List e8)(s ao:Int×Int):eS {p with files:=cR} s ao=({(eS p s ao).1 with files:=cR},(eS p s ao).2):=by unfold eS kn v_;have bZ:uD {p with files:=cR}=uD p:=rfl;have b0:cY {p with files:=cR}=cY p:=rfl;rw[bZ,b0];split;rfl;split;split<;>rfl;split<;>rfl
theorem arT{p:dF}{n:Nat}(hi:i<n)(h:m_ p ((i:Int)+1)=true):∃j,j<=i/\uE p n=some j:=by cases M:uE p n with|none =>unfold uE at M;rw[awn]at M;exact absurd h (M i (awa.2 hi))|some j =>obtain⟨h1,A,aa⟩:=abh M;refine⟨j,?_,rfl⟩;refine Nat.le_of_not_lt λbg=>?_;rw[aa i bg]at h;cases h
theorem arU{n dK:U}{m:fT}{l:q3}(hm:m.m2=false)(h:Rt n m [] start l)(X:valid n=true)(dU:valid dK=true)(aq:cg n=cg dK)(aw:(cH dK).map (·.path)=(cH n).map (·.path))(dh:iW [] (cH dK)=iW [] (cH n))(O:∀f∈cH dK,∃g∈cH n,g.path=f.path/\f.data.length<=g.data.length):iV dK m [] start=some []/\∃c,tq (hX dK m [] start) (ic (gN m) dK) (hI dK m.du)=(c,0)/\c<=l.C:=by obtain⟨mp,P,i,ag,gT,hs,hi,hv,_,rfl⟩:=h.cn;(have G:Dv n m start=false/\mp=[]:=by unfold iV at ag;split at ag;cases ag;rename_i G;exact⟨by simpa using G,by cases ag;rfl⟩);obtain⟨G,rfl⟩:=G;(have po:iV dK m [] start=some []:=by unfold iV Dv at*;rw[X]at G;rw[dU,G];rfl);obtain⟨arV,z2⟩:=arE (gN m) m.du X dU aq;(have fO:hX dK m [] start={hX n m [] start with files:=cH dK}:=by unfold hX;rw[G0 po,G0 ag,dh]);have Z:=abg (hX n m [] start) (ic (gN m) n) (hI n m.du);rw[gT]at Z;obtain⟨_,DE,j0,hD,xW,_⟩:=Z;have DE:P.files=cH n:=DE;have hD:P.a'=[]:=hD;have xW:P.m=m:=xW;(have j0:P.cS=iW [] (cH n):=by rw[show P.cS=_ from j0];exact G0 ag);have bK:=arQ (P:=P) (cR:=cH dK) (c:=(i:Int)+1) (by rw[xW];exact hm) hD (by rw[DE];exact arK n) (by rw[DE];exact aw) (by rw[DE];exact O) (λq I=>by rw[j0]at I;obtain⟨f,M,rfl⟩:=au_.1 I;rw[DE];exact au_.2 ⟨f,(avy.1 M).1,rfl⟩) hv;obtain⟨j,ad,da⟩:=arT hi bK;refine⟨po,(j:Int)+1,?_,by show(j:Int)+1<=(i:Int)+1;omega⟩;(have arW:eS (hX dK m [] start) (ic (gN m) dK) (hI dK m.du)=({P with files:=cH dK},0):=by rw[arV,z2,fO,arS,gT]);have a1:({P with files:=cH dK}:dF).start=start:=hs;generalize({P with files:=cH dK}:dF)=PI at*;unfold tq;rw[arW];dsimp only;rw[auO rfl];unfold rf;rw[a1,da];rfl
theorem arX{q:List auM}(h:q≠[])(m:auM):ew (q++[m])=ew q++47::m:=by cases q with|nil=>exact absurd rfl h|cons a r=>simp[ew,kj]
theorem RX{s:auM}{o:Nat}(h:(47:UInt8)∉s.drop o):∀k,o+k<=s.length->Lib.lastIdx ⟨⟨s⟩⟩ 47 (o+k)=Lib.lastIdx ⟨⟨s⟩⟩ 47 o
 |0,_=>rfl
 |k+1,Z=>by rw[<-awy,Lib.lastIdx,auN,RX h k auD];intro e;(have e:(s[o+k].toNat:Int)=47:=by simpa[show o+k<s.length from Z]using e);have b0:s[o+k]=47:=ax3.1 (Int.ofNat.inj e);exact h (avm.2 ⟨k,by simp;omega,by rw[List.getElem_drop,b0]⟩)
theorem arY{q:List auM}{m:auM}(h:uz (q++[m])): (ew (q++[m])).take (max (Lib.lastIndexByte ⟨⟨ew (q++[m])⟩⟩ 47) 0).toNat=ew q/\max (Lib.lastIndexByte ⟨⟨ew (q++[m])⟩⟩ 47) 0<=(ew (q++[m])).length:=by have hm:(47:UInt8)∉m:=OI (h m auF);by_cases I:q=[];subst I;(have h1:ew ([]++[m])=m:=by simp[ew,kj]);rw[h1,show Lib.lastIndexByte ⟨⟨m⟩⟩ 47=-1 by have:=RX (s:=m) (o:=0) hm m.length auD;rwa [avu]at this];exact⟨rfl,by omega⟩;rw[arX I];(have h1:Lib.lastIndexByte ⟨⟨ew q++47::m⟩⟩ 47=(ew q).length:=by have:=RX (s:=ew q++47::m) (o:=(ew q).length+1) (by simpa using hm) m.length auE;rw[Lib.lastIdx,auO auF]at this;rw[<-this,Lib.lastIndexByte];congr 1;show(ew q++47::m).length=_;simp;omega);rw[h1,show max ((ew q).length:Int) 0=(ew q).length by omega];exact⟨by simp,by simp;omega⟩
theorem arZ{q:List auM}{m:auM}{n x:U}(h:dw n (q++[m])=some x):x.name=m:=by rw[Kw]at h;obtain⟨d,_,A⟩:=aw0.1 h;simp only[dw]at A;cases M:h9 m d.F with|none=>rw[M]at A;cases A|some k =>rw[M]at A;simp only[avi]at A;subst A;exact(F3 M).2
mutual
theorem RY:∀n:U,r8 (cg n)=r8 n
 |.mk a b c d e f g h i j ae ch=>by simp only[cg,xR,r8];rw[ab8 ae]
theorem ab8:∀ae:List U,oh (ae.map cg)=oh ae
 |[]=>rfl
 |k::r=>by simp only[avc,oh];rw[RY k,ab8 r]
end
theorem ab9{f:U->U}:∀{ae:List U},(∀Q∈ae,pH (f Q)<=pH Q)->j' (ae.map f)<=j' ae
 |[],_=>auW _
 |k::r,h=>by have h1:=h k auY;have A:=ab9 (ae:=r) λQ bn=>h Q (auZ _ bn);simp only[avc,j'];omega
theorem ab_{x bw:U}(dP:pH bw<=pH x):∀(q:List auM) (n:U),gZ n->dw n q=some x->pH (dy n q bw)<=pH n
 |[],n,ag,h=>by simp only[dw,avi]at h;subst h;exact dP
 |m::q,n,ag,h=>by obtain⟨k,j_,rfl,I⟩:=vW.1 ((s' _ n ag).2 ⟨x,h⟩);rw[yV (lI ag) j_ rfl]at h;have aV:=ab_ dP q k (uy ag j_) h;(have A:=ab9 (f:=λQ=>if Q.name=k.name then dy Q q bw else Q) (ae:=n.F) λQ bn=>by split;rename_i e;have:=ux (lI ag) bn j_ e;subst this;exact aV;exact auW _);rw[dy,Fc,Fc n];dsimp only at A⊢;omega
def hJ(k:Nat)(x:U):U:={x with cU:=x.cU.take k}
theorem ar0{n x:U}{q:List auM}(k:Nat)(X:valid n=true)(ar:ev n)(M:oS n 100000=true)(h:dw n q=some x): cg (hJ k x)=cg x/\valid (dy n q (hJ k x))=true/\ev (dy n q (hJ k x))/\oS (dy n q (hJ k x)) 100000=true:=by have ag:=q8 X;(have J:cg (hJ k x)=cg x:=by rw[ow,ow x];rfl);have aj:(x.cU.take k).length<=x.cU.length:=List.length_take_le' _ _;have hs:G4 x (hJ k x):=⟨rfl,rfl,aj,rfl,⟨rfl,rfl,rfl,rfl,rfl,rfl⟩,rfl,rfl⟩;have aq:=RQ X h J;(have BY:fd (dy n q (hJ k x))=fd n:=by rw[<-K9,aq,K9]);(have ar1:r8 (dy n q (hJ k x))=r8 n:=by rw[<-RY,aq,RY]);have Nu:=ab_ (x:=x) (bw:=hJ k x) (by rw[Fc,Fc x];dsimp only[hJ];omega) q n ag h;have hsz:=aaa q n (hJ k x) x ag h rfl;(have Xm:aB (hJ k x)<=aB x:=by rw[j8,j8 x];dsimp only[hJ];omega);have iq:=Ku q n (hJ k x) x h rfl;refine⟨J,?_,?_,?_⟩;rw[q7,auQ]at X⊢;rw[BY];exact⟨X.1,ab1 hs rfl q n 1 auG ag X.2 h⟩;unfold ev at ar⊢;rw[iq];omega;unfold oS at M⊢;rw[BY,ar1];simp only[auQ,avp]at M⊢;exact⟨M.1,by omega⟩
theorem ar2{n:U}(X:valid n=true):n.kind=0:=by rw[q7,auQ]at X;exact(vR X.2).1.CL rfl
theorem ab'{n:U}{f:e8}(X:valid n=true)(M:f∈cH n):∃q x,q++[x.name]∈k' n/\dw n (q++[x.name])=some x/\f.path=ew (q++[x.name])/\x.cU=f.data:=by obtain⟨p,aw,jP⟩:=axI.1 M;rw[auO X,F4]at aw;obtain⟨r,af,rfl⟩:=au_.1 aw;have ag:=q8 X;have ny:=vX r n ag af;obtain⟨x,J⟩:=(s' r n ag).1 af;(have eJ:dr n (ew r)=(x,0):=by rw[AL ny,J]);unfold h_ y1 at jP;rw[eJ]at jP;split at jP;rename_i h;cases jP;(have Z:x.kind=1:=by simpa using h);(have qA:r≠[]:=λe=>by subst e;simp only[dw,avi]at J;subst J;have:=ar2 X;omega);obtain⟨q,m,rfl⟩:∃q m,r=q++[m]:=⟨r.dropLast,r.getLast qA,(List.dropLast_concat_getLast qA).symm⟩;have:=arZ J;subst this;exact⟨q,x,af,J,rfl,rfl⟩;cases jP
theorem aca{n x:U}{q:List auM}{g:e8}(X:valid n=true)(I:q∈k' n)(J:dw n q=some x)(aS:g∈cH n)(e:g.path=ew q):g.data=x.cU:=by obtain⟨pa,bw,h1,A,aa,aF⟩:=ab' X aS;have ag:=q8 X;have:=OJ (vX _ n ag h1) (vX _ n ag I) (aa.symm.trans e);rw[this,J]at A;cases A;exact aF.symm
theorem ar3{p d:auM}(O:d≠[])(h:∀g∈cR,g.path=p->g.data≠[]):iW [] (cR.map λf=>if f.path=p then⟨f.path,d⟩else f)=iW [] cR:=by induction cR with|nil=>rfl|cons f r aV =>have aV:=aV λg aS=>h g (auZ _ aS);unfold iW at aV⊢;(have G:∀l:auM,l≠[]->(l !=[])=true:=λl aj=>by simp[aj]);(have hi:zj [] (if f.path=p then⟨f.path,d⟩else f)=zj [] f:=by split;rename_i e;unfold zj;rw[G _ O,G _ (h f auY e)];rfl);(have aw:(if f.path=p then(⟨f.path,d⟩:e8)else f).path=f.path:=by split<;>rfl);rw[avc,avJ,avJ,hi];split;rw[avc,avc,aw,aV];exact aV
theorem ar4{n x:U}{q:List auM}{m:fT}{l:q3}(hm:m.m2=false)(aw:Rt n m [] start l)(X:valid n=true)(bF:valid (dy n q (hJ k x))=true)(ps:cg (hJ k x)=cg x)(I:q∈k' n)(J:dw n q=some x)(Z:1<=k)(aj:0<x.cU.length): iV (dy n q (hJ k x)) m [] start=some []/\∃c,tq (hX (dy n q (hJ k x)) m [] start) (ic (gN m) (dy n q (hJ k x))) (hI (dy n q (hJ k x)) m.du)=(c,0)/\c<=l.C:=by have ku:=arO X bF J rfl rfl ps;refine arU hm aw X bF (RQ X J ps).symm ?_ ?_ ?_;rw[ku,avR];refine avM λg aS=>?_;simp only[Function.comp];split<;>rfl;rw[ku];refine ar3 (λe=>?_) λg aS e=>?_;have:=auP List.length e;rw[hJ,au9,avh]at this;omega;rw[aca X I J aS e];exact avY.1 aj;intro g aS;rw[ku]at aS;obtain⟨zu,Bv,rfl⟩:=au_.1 aS;refine⟨zu,Bv,?_,?_⟩;split<;>rfl;split;rename_i e;rw[aca X I J Bv e];exact List.length_take_le' _ _;exact auW _
theorem ar5(aX:dk B)(m8:aT B 9 [] (.bool true))(n:U)(m:fT)(Bh length start:Int)(cz:0<=Bh/\Bh<=255)(aj:0<=length/\length<=65535)(ar:ev n)(hm:m.name.length+m.set.length+m.px.length+m.py.length+m.l2.length<1000000000)(oO:m.gM.length<1000000): aT B 7 [az n,im m,.int .u8 Bh,.int .u16 length,u start] (.bool true):=by have acb:=aql (B:=B) aX n {m with m2:=false} [] start ar hm auG (λg aS=>by cases aS) oO;have KB:=@aqp n {m with m2:=false} [] start;(have PZ:∀p∈(if valid n=true then dq n [] 1 else[]),p.length<1000000000:=λp aw=>by split at aw;have:=Pp aw;(have:aB n<2200000:=azp);omega;cases aw);(have dh:(if valid n=true then dq n [] 1 else[]).length<1000000:=by split;rename_i h;rw[q7,auQ]at h;have:=avg h.1;rw[yW];omega;simp);have KX:=aaJ (B:=B) n [] ar auG PZ dh;generalize hO:iW [] (cH n)=cL at*;refine fn Tryz.func7 Tryz.ntmps7 λW=>?_;refine go ?_;intro cF;(conv=>whnf);refine dc ?_;intro dW;(conv=>whnf);refine dc ?_;refine jb 5 5 12 (az n) ?_;refine go ?_;refine bq m8 ?_;generalize zl n {m with m2:=false} [] start=R at*;obtain⟨l,ok⟩:=R;dsimp only at acb KB;refine go ?_;refine vq ?_;(conv=>whnf);refine⟨_,_,λ_=>acb,⟨E,E,ap.nil,E,ak⟩,?_⟩;(conv=>whnf);refine go ?_;intro yP;(conv=>whnf);refine go ?_;refine vq ?_;(conv=>whnf);refine⟨_,_,λ_=>KX,⟨E,ap.nil,ak⟩,?_⟩;(conv=>whnf);refine go ?_;(have Jz:(aQ cL).length=cL.length:=by simp[aQ]);refine cb (t:=bif !ok then true else((aQ cL).length:Int)==0) ?_ ?_<;>intro hc;refine go ?_;exact E;(have cD:ok=true/\0<cL.length:=by rw[Jz]at hc;cases Z:ok with|false=>rw[Z]at hc;cases hc|true =>rw[Z]at hc;apply cj;have:¬((cL.length:Int)=0):=avv.1 (show((cL.length:Int)==0)=false from hc);omega);obtain⟨cD,PN⟩:=cD;have aw:=KB cD;obtain⟨eO,pp⟩:∃eO:Nat,Bh.tmod (cL.length:Int)=eO:=⟨(Bh.tmod (cL.length:Int)).toNat,by rw[avH cz.1];have:=Int.emod_nonneg Bh (show(cL.length:Int)≠0 by omega);omega⟩;(have c1:eO<cL.length:=by have:=Int.emod_lt_of_pos Bh (show(0:Int)<(cL.length:Int) by omega);rw[avH cz.1]at pp;omega);(have X:valid n=true:=by obtain⟨mp,P,i,ag,_⟩:=aw.cn;unfold iV at ag;split at ag;cases ag;rename_i G;unfold Dv at G;cases h:valid n with|true=>rfl|false=>rw[h]at G;simp at G);(obtain⟨f,M,ar6,v8⟩:∃f∈cH n,f.path=cL[eO]/\f.data≠[]:=by(have hm:cL[eO]∈iW [] (cH n):=by rw[hO];exact auT c1);obtain⟨f,tQ,MJ⟩:=au_.1 hm;obtain⟨Ip,RZ⟩:=avy.1 tQ;refine⟨f,Ip,MJ,λe=>?_⟩;unfold zj at RZ;rw[e]at RZ;simp at RZ);obtain⟨q,x,K',J,N9,acc⟩:=ab' X M;have R0:cL[eO]=ew (q++[x.name]):=ar6.symm.trans N9;have zi:=vX _ n (q8 X) K';(have eJ:dr n cL[eO]=(x,0):=by rw[R0,AL zi,J]);(have hlen:0<x.cU.length:=by rw[acc];exact avY.2 v8);(have hsz:aB n<2200000:=azp);have rK:=Xd K';(have ar7:cL[eO].length<1000000000:=by rw[R0];omega);have dg:=aaz f M;rw[<-acc]at dg;have R1:=Xb (B:=B) n cL[eO] ar X ar7;rw[eJ]at R1;dsimp only at R1;obtain⟨k,Z⟩:∃k:Nat,1+length.tmod (x.cU.length:Int)=k:=⟨(1+length.tmod (x.cU.length:Int)).toNat,by rw[avH aj.1];have:=Int.emod_nonneg length (show(x.cU.length:Int)≠0 by omega);omega⟩;(have eK:1<=k/\k<=x.cU.length:=by have h1:=Int.emod_nonneg length (show(x.cU.length:Int)≠0 by omega);have A:=Int.emod_lt_of_pos length (show(0:Int)<(x.cU.length:Int) by omega);rw[avH aj.1]at Z;omega);obtain⟨ps,bF,cf,ff⟩:=ar0 k X ar (by have h:=aw.aqo;unfold tr at h;cases h1:oS n 100000 with|false=>rw[h1]at h;cases h|true=>rfl) J;have ar8:=aoE (B:=B) n (hJ k x) q X ar K' cf;rw[show Bc (dy n (q++[(hJ k x).name]) (hJ k x))=(dy n (q++[x.name]) (hJ k x),0)from auO (eq_of_beq bF)]at ar8;obtain⟨d1,d2⟩:=arY zi;rw[<-R0]at d1 d2;obtain⟨po,c,e6,bx⟩:=ar4 (m:={m with m2:=false}) rfl aw X bF ps K' J eK.1 hlen;have K2:=abc (B:=B) aX (dy n (q++[x.name]) (hJ k x)) {m with m2:=false} [] start [] cf ff auG (λg aS=>by cases aS) oO po;rw[e6]at K2;generalize dy n (q++[x.name]) (hJ k x)=bA at*;refine go ?_;rw[Jz,pp];refine⟨λ_=>by omega,?_⟩;(conv=>whnf);refine go ?_;refine bJ (.N cL[eO]) (by simp[aQ,c1]) ?_;refine bq R1 ?_;intro sj;(conv=>whnf);refine go ?_;refine Y.x2 aN 9 mixed auI ?_;refine go ?_;rw[Z];refine bq (M7 (B:=B) cL[eO] 47 auD) ?_;refine go ?_;refine jb 15 15 12 (az (hJ k x)) ?_;refine jb 6 6 13 (im {m with m2:=false}) ?_;refine jb 11 11 16 (l9 l) ?_;refine' eU [] 0 (λy=>[_,_,_,u (max (Lib.lastIndexByte ⟨⟨cL[eO]⟩⟩ 47) 0),.N (ew q),_,_,_,_,_,.box 18 y 0,.any,_]) (λy=>[(10,18,some (.box y [.N [],u 0,.N [],.N [],u 0,u 0,u 0,u 0,u 0,u 0,.bd,.bd])),(11,18,some (.box y (az bA).cells))]) [0,0,0,4,14,0,63,127,255,255,0,1535,4095] [(10,18),(11,18)] ?_ ?_;rotate_left 9;refine dB ?_;refine⟨λy=>.inl ?_,dB ?_⟩;(conv=>whnf);exact ap.of_eq (auP (D.int .i64) (by first|rfl|(split<;>omega)|omega));refine⟨λy=>.inl ?_,dB ?_⟩;(conv=>whnf);refine⟨λ_=>⟨avK _,by omega,d2⟩,?_⟩;(conv=>whnf);exact ap.of_eq (auP D.N (by show(List.take _ _).drop _=_;rw[d1];rfl));refine Em ?_;refine vs ?_;exact trivial;intro O9;(conv=>whnf);refine go ?_;refine vq ?_;(conv=>whnf);refine⟨_,_,λ_=>K2,⟨E,E,ap.nil,E,ak⟩,?_⟩;(conv=>whnf);refine go ?_;exact ap.of_eq (auP D.bool (avP bx))
end Go.bV.ct
