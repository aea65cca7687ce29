/- Contracts of the program's functions, part 6. No conditions of its own. -/
import Derived.Test.YtfnpcdbnoggloaaGreatDoorL5
import Derived.Ground.GgzProg
import Derived.Shelf.SlLaysZ
import Derived.Shelf.Lay
import Derived.Test.YtfnpcdbnoggloaaGreatDoorShelf
import Derived.Shelf.Sort.Plain
import Derived.Shelf.GgSortFunc.Insertion
set_option linter.unnecessarySimpa false
set_option linter.unusedSimpArgs false
set_option linter.unusedVariables false
set_option maxRecDepth 100000
set_option maxHeartbeats 16000000
namespace Go.bS.cp
open Go Go.Proofs
mutual
theorem Zr(P:aQ->Prop)(h:∀x k m c,(bZ x k m c).any=true->P (bZ x k m c)):∀(n:ad) (x:aQ) (c:e5),∀s∈fU n x c,P s
 |.mk _ _ _ _ _ _ _ _ _ _ ah _,x,c,s,hs=>by
  simp only[fU]at hs;exact QC P h ah _ x c s hs
theorem QC(P:aQ->Prop)(h:∀x k m c,(bZ x k m c).any=true->P (bZ x k m c)):∀(ah:List ad) (cO:List atE) (x:aQ) (c:e5),∀s∈fq ah cO x c,P s
 |k::r,m::cO,x,c,s,hs=>by
  simp only[fq]at hs;split at hs
  ·rename_i ha;rcases at6.1 hs with rfl|hs
   ·exact h x k m c ha
   rcases at1.1 hs with hs|hs
   ·exact Zr P h k _ _ s hs
   exact QC P h r cO x _ s hs
  exact QC P h r cO x c s hs
 |[],_,_,_,s,hs=>by simp[fq]at hs
 |_::_,[],_,_,s,hs=>by simp[fq]at hs
end
theorem anx(n:ad)(x:aQ)(c:e5):∀s∈fU n x c,s.iso=true->lA 0 s.n s.lv=true :=
 Zr _ (λx k m c _ h=>by simp only[bZ,atM]at h⊢;exact h.2) n x c
theorem anz{n:ad}{l:Int}(N:n.kind=0)(h:lA 0 n l=true):l<=8:=by unfold lA at h;rw[N]at h;rcases Int.lt_or_le 8 l with h1|h1;rw[auM h1]at h;split at h;cases h;simp at h;exact h1
structure anA (bm:Bool) (D:List eH) (i:Nat) (x:eH):Prop where
 lv:1<=x.bY/\x.bY<=8
 dm:0<i->0<=x.cB/\x.cB<i/\0<=x.C'/\x.C'<i/\(x.j2=false->x.cB=x.C')
 up:0<i->∃p,D[x.cB.toNat]?=some p/\p.bY=x.bY-1
 rel:x.j2=true->bm=true/\x.bY=3/\x.cB=1/\∃p,D[1]?=some p/\p.path=[47]
variable{sh i j:Nat}
theorem anB(h:i<j):ih sh i<ih sh j:=by unfold ih;split<;>split<;>omega
theorem QD(bu:atE)(T:List aQ):(lN bu T)[0]?=some zb:=rfl
theorem Kt(T:List aQ):eI T=0\/eI T=1:=by unfold eI;split;exact .inl rfl;exact .inr rfl
theorem QE(bu:atE)(T:List aQ):(lN bu T).length=1+eI T+(bM T).length:=by rcases Kt T with h|h;rw[lN,h,atH rfl];simp;omega;rw[lN,h,atG aty];simp;omega
variable{bu:atE}{k:Nat}
theorem Ku{T:List aQ}{s:aQ}(h:(bM T)[k]?=some s):(lN bu T)[ih (eI T) (k+1)]?=some (s.jK (eI T)):=by rcases Kt T with h1|h1;rw[lN,h1,atH rfl,ih,atG atv];simp[h];rw[lN,h1,atG (show¬(1:Nat)=0 by decide),ih,atG atv];simp[h]
theorem Kv{T:List aQ}(h:eI T=1):(lN bu T)[1]?=some ⟨[47],bu,2,0,0,false⟩:=by rw[lN,h];rfl
theorem Zs{T:List aQ}{x:eH}(h:(lN bu T)[i]?=some x): (i=0/\x=zb)\/(i=1/\eI T=1/\x=⟨[47],bu,2,0,0,false⟩)\/∃k s,(bM T)[k]?=some s/\i=ih (eI T) (k+1)/\x=s.jK (eI T):=by have al:=QE bu T;(have bi:i<(lN bu T).length:=by rcases at5 i (lN bu T).length with h1|h1;exact h1;rw[atT h1]at h;cases h);(have i1:eI T<=1:=by unfold eI;split<;>omega);rcases auD i with rfl|h0;rw[QD]at h;exact .inl ⟨rfl,(auA h).symm⟩;by_cases h1:i=1/\eI T=1;obtain⟨rfl,z⟩:=h1;rw[Kv z]at h;exact .inr (.inl ⟨rfl,z,(auA h).symm⟩);refine .inr (.inr ?_);(have X:i-1-eI T<(bM T).length:=by omega);have hs:=atJ X;(have hi:ih (eI T) (i-1-eI T+1)=i:=by rw[ih,atG atv];omega);have:=Ku (bu:=bu) hs;rw[hi,h]at this;exact⟨_,_,hs,hi.symm,auA this⟩
theorem fw.anC{bm:Bool}{n:ad}{T:List aQ}(G:fw bm n (cR bm n::T)){s:aQ}(h:(bM T)[k]?=some s):∃t p,T[t]?=some s/\s.df=true/\GM ((cR bm n::T).take (t+1)) s p/\(cR bm n::T)[s.ab]?=some p/\s.ab<t+1/\s.di=k+1/\p.di<k+1/\((p=cR bm n/\p.di=0)\/∃j,p.di=j+1/\(bM T)[j]?=some p):=by have hm:=auz.1 (at2 h);obtain⟨t,ax⟩:=aub.1 hm.1;(have Bl:(cR bm n).df=true:=by rw[aQ.df,cR,G.kind];rfl);(have uX:bM (cR bm n::T)=cR bm n::bM T:=by rw[bM,auP,atH Bl];rfl);have h1:(cR bm n::T)[t+1]?=some s:=ax;obtain⟨p,aZ⟩:=G.at (i:=t+1) atv h1;have z:=aZ.ab;(have bi:t<T.length:=by rcases at5 t T.length with aa|aa;exact aa;rw[atT aa]at ax;cases ax);rw[at4,atQ]at z;have aa:=aZ.dm;rw[auB,atH atv]at aa;have lZ:s.di=k+1:=G.Bh (k+1) s (by rw[uX];exact h);have anD:=G.si aa;obtain⟨wn,dd⟩:=G.Bi (by rw[anD];exact aa) aZ.bb;(have QF:p.di<k+1:=by have yR:p∈bM ((cR bm n::T).take (t+1)):=auz.2 ⟨at2 aZ.dm,aZ.bb⟩;obtain⟨j,Z⟩:=aub.1 yR;(have l5:bM (cR bm n::T)=bM ((cR bm n::T).take (t+1))++bM ((cR bm n::T).drop (t+1)):=by rw[bM,bM,bM,<-au5,ava]);(have tV:j<(bM ((cR bm n::T).take (t+1))).length:=by rcases at5 j (bM ((cR bm n::T).take (t+1))).length with aC|aC;exact aC;rw[atT aC]at Z;cases Z);have aC:=G.Bh j p (by rw[l5,atZ tV];exact Z);have a_:=aZ.di;omega);refine⟨t,p,ax,hm.2,aZ,aa,by omega,lZ,QF,?_⟩;rw[uX]at wn;cases qy:p.di with|zero=>rw[qy]at wn;exact .inl ⟨(auA wn).symm,rfl⟩|succ j=>rw[qy]at wn;exact .inr ⟨j,rfl,wn⟩
theorem Zt{T:List aQ}{s:aQ}(hs:s∈T)(hm:s.mv=true):eI T=1:=by have:s∈ee T:=auz.2 ⟨hs,hm⟩;have:=awr this;rw[eI,atG atv]
variable{l:List aQ}
theorem fw.Zu{bm:Bool}{n:ad}(G:fw bm n l):∀(i:Nat) (s:aQ),l[i]?=some s->s.lev<=s.lv/\(s.rock=true->bm=true):=by intro i;induction i using Nat.strongRecOn with|_ i aY =>intro s hs;rcases auD i with rfl|hi;rw[G.tu.1]at hs;cases hs;exact⟨auu _,λh=>h⟩;obtain⟨p,aZ⟩:=G.at hi hs;have bi:=aZ.ab;rw[at4]at bi;(have au:l[s.ab]?=some p:=ayt);obtain⟨h1,z⟩:=aY s.ab atv p au;have h0:=(G.lev _ _ au).1;have al:=aZ.lev;have W:=aZ.lv;refine⟨?_,λh=>z (aZ.rock h)⟩;split at al;split at al<;>omega;omega
theorem anE{bm:Bool}{n:ad}{T:List aQ}(G:fw bm n (cR bm n::T))(hi:∀s∈T,s.iso=true->lA 0 s.n s.lv=true)(bu:atE): ∀i x,(lN bu T)[i]?=some x->anA bm (lN bu T) i x:=by intro i x F;rcases Zs F with⟨rfl,rfl⟩|⟨rfl,i1,rfl⟩|⟨k,s,hs,rfl,rfl⟩;exact⟨⟨by decide,by decide⟩,λh=>absurd h (aw1 _),λh=>absurd h (aw1 _),λh=>by cases h⟩;exact⟨⟨by show(1:Int)<=2;decide,by show(2:Int)<=8;decide⟩,λ_=>⟨auu _,by show(0:Int)<1;decide,auu _,by show(0:Int)<1;decide,λ_=>rfl⟩,λ_=>⟨zb,rfl,rfl⟩,λh=>by cases h⟩;obtain⟨t,p,ax,N,aZ,au,qL,lZ,QF,Gw⟩:=G.anC hs;have wo:=at2 ax;have asM:=G.lev _ _ au;have Kw:=G.lev (t+1) s ax;have anF:=G.Zu (t+1) s ax;have asN:=G.Zu _ _ au;have GP:=aZ.lv;have al:=aZ.lev;have hm:=aZ.mv;rw[atH N]at al;rw[N,awF]at hm;have k3:s.fi=p.di:=aZ.fi;have rZ:ih (eI T) p.di<ih (eI T) (k+1):=anB QF;(have anG:∃q,(lN bu T)[ih (eI T) p.di]?=some q/\q.bY=p.lev:=by rcases Gw with⟨rfl,h0⟩|⟨j,Z,qy⟩;rw[h0];exact⟨zb,rfl,rfl⟩;rw[Z];exact⟨_,Ku qy,rfl⟩);(have asO:1<=ih (eI T) (k+1):=by rw[ih,atG atv];omega);cases gw:s.mv with|true =>rw[gw]at hm;(have hI:p.lev+1=9:=by simpa using hm.symm);rw[atH hI]at al;have i1:=Zt wo gw;(have zK:bm=true:=by have qx:=aZ.any;rw[aQ.any,au3]at qx;rcases qx with h|h;have h1:=anz (by simpa[aQ.df]using N) (hi s wo h);omega;exact anF.2 h);refine⟨⟨Kw.2.2.1 N,Kw.2.1⟩,λ_=>⟨?_,?_,?_,?_,?_⟩,λ_=>?_,λ_=>⟨zK,al,?_,_,Kv i1,rfl⟩⟩;simp[aQ.jK,gw];simp only[aQ.jK,gw,auT];rw[ih,atG atv,i1];omega;simp[aQ.jK];simp only[aQ.jK,k3];omega;simp[aQ.jK,gw];refine⟨⟨[47],bu,2,0,0,false⟩,?_,?_⟩;simp only[aQ.jK,gw,auT];exact Kv i1;show(2:Int)=s.lev-1;omega;simp[aQ.jK,gw]|false =>rw[gw]at hm;(have hI:¬p.lev+1=9:=by simpa using hm.symm);rw[atG hI]at al;refine⟨⟨Kw.2.2.1 N,Kw.2.1⟩,λ_=>⟨?_,?_,?_,?_,?_⟩,λ_=>?_,λh=>?_⟩;simp[aQ.jK,gw];simp only[aQ.jK,gw,k3];simp;omega;simp[aQ.jK];simp only[aQ.jK,k3];omega;intro _;simp[aQ.jK,gw];obtain⟨q,I,lu⟩:=anG;refine⟨q,?_,?_⟩;simp only[aQ.jK,gw,k3];simpa using I;show q.bY=s.lev-1;omega;simp[aQ.jK,gw]at h
theorem anH{bm:Bool}{n:ad}(h:valid n=true):∃bu T,mS bm n=(lN bu T,tp bu T,0)/\fw bm n (cR bm n::T)/\T=fU n (cR bm n) ⟨1,1,0⟩/\bu=jl (lM (cd 0 n.J)):=by obtain⟨xK,j0⟩:=Qh h;exact⟨_,_,by rw[mS,atH h],YX bm xK j0,rfl,rfl⟩
theorem fw.QG{bm:Bool}{n:ad}(av:iv n)(G:fw bm n l):∀(i:Nat) (s:aQ),l[i]?=some s->iv s.n/\(0<i->dT s.n.name=true):=by intro i;induction i using Nat.strongRecOn with|_ i aY =>intro s hs;rcases auD i with rfl|hi;rw[G.tu.1]at hs;cases hs;exact⟨av,λh=>absurd h (aw1 _)⟩;obtain⟨p,aZ⟩:=G.at hi hs;have bi:=aZ.ab;rw[at4]at bi;(have au:l[s.ab]?=some p:=ayt);obtain⟨h1,_⟩:=aY s.ab atv p au;obtain⟨_,_,_,X⟩:=(tf p.n).1 h1;have z:=rb X aZ.Qd;exact⟨z.2,λ_=>z.1.1⟩
theorem fw.dm{bm:Bool}{n:ad}(G:fw bm n l){s:aQ}(hi:0<i)(hs:l[i]?=some s):∃p,GM (l.take i) s p/\l[s.ab]?=some p/\s.ab<i:=by obtain⟨p,aZ⟩:=G.at hi hs;have bi:=aZ.ab;rw[at4]at bi;(have au:l[s.ab]?=some p:=ayt);exact⟨p,aZ,au,by omega⟩
def wq(m:atE)(bb:Bool):atE:=if bb=true then m else if y8 m=true then m++[59,49]else m++[46,59,49]
variable{bA bX:atE}{bb:Bool}
theorem nY.ident{m:atE}(h:nY m bb bA bX):(kp m bb).1=wq m bb:=by rw[kp,atH h.name.valid,wq];split;rfl;split<;>rfl
theorem anI(m:atE):wq m false=if y8 m=true then m++[59,49]else m++[46,59,49]:=rfl
theorem Zv{s:atE}{k:Int}{c:UInt8}(h:oy s k=true)(hc:rc c=false):c∉s:=by intro hm;simp only[oy,uI,atM,auC]at h;have:=h.2.2.2 c hm;rw[hc]at this;cases this
theorem nY.anJ{m:atE}(h:nY m bb bA bX):(59:UInt8)∉m:=by have h1:=Zv (c:=59) h.a aty;rcases h.eq with⟨_,rfl⟩|⟨_,_,aa,rfl⟩;exact h1;have z:=Zv (c:=59) aa aty;intro hm;rcases at1.1 hm with hm|hm;exact h1 hm;rcases at6.1 hm with hm|hm;cases hm;exact z hm
def xM(p s:aQ)(j:Nat):Prop:=p.n.J[j]?=some s.n/\∃m,(cd 0 p.n.J)[j]?=some m/\s.id=(kp m (s.n.kind==0)).1/\s.file=(kp m false).1
def ty(l:List aQ):Prop:=∀hu bp,0<hu->l[hu]?=some bp->∃p eu,l[bp.ab]?=some p/\p.df=true/\bp.fi=p.di/\xM p bp eu/\∀i s,0<i->i<hu->l[i]?=some s->s.fi=bp.fi->∃j,j<eu/\xM p s j
theorem e5.anK(l:List aQ):∀c:e5,c.uP<=(c.jJ l).uP:=by induction l with|nil=>intro c;exact atP _|cons s r aY =>intro c;rw[e5.XL];refine avb ?_ (aY _);simp only[e5.add];split<;>omega
theorem e5.QH(c:e5)(s:aQ):c.uP<=(c.add s).uP:=by simp only[e5.add];split<;>omega
mutual
theorem Zw:∀(n:ad) (x:aQ) (c:e5),∀s∈fU n x c,s.fi=x.di\/c.uP<=s.fi
 |.mk _ _ _ _ _ _ _ _ _ _ ah _,x,c,s,hs=>by
  simp only[fU]at hs;exact QI ah _ x c s hs
theorem QI:∀(ah:List ad) (cO:List atE) (x:aQ) (c:e5),∀s∈fq ah cO x c,s.fi=x.di\/c.uP<=s.fi
 |k::r,m::cO,x,c,s,hs=>by
  simp only[fq]at hs;split at hs
  ·rcases at6.1 hs with rfl|hs
   ·exact .inl rfl
   rcases at1.1 hs with hs|hs
   ·have:=e5.QH c (bZ x k m c);rcases Zw k _ _ s hs with h|h
    ·exact .inr (by rw[h];exact atP _)
    exact .inr atv
   have h1:=e5.QH c (bZ x k m c);have z:=e5.anK (fU k (bZ x k m c) (c.add (bZ x k m c))) (c.add (bZ x k m c));rcases QI r cO x _ s hs with h|h
   ·exact .inl h
   exact .inr atv
  exact QI r cO x c s hs
 |[],_,_,_,s,hs=>by simp[fq]at hs
 |_::_,[],_,_,s,hs=>by simp[fq]at hs
end
theorem ty.wk{l:List aQ}(h:ty l){s p:aQ}{eu:Nat}(qL:s.ab<l.length)(au:l[s.ab]?=some p)(N:p.df=true)(M:s.fi=p.di)(X:xM p s eu)(Hs:∀i t,0<i->l[i]?=some t->t.fi=s.fi->∃j,j<eu/\xM p t j):ty (l++[s]):=by intro hu bp h0 c4;rcases at5 hu l.length with al|al;rw[atZ al]at c4;obtain⟨q,j,h1,z,aa,aC,a_⟩:=h hu bp h0 c4;(have lu:bp.ab<l.length:=by rcases at5 bp.ab l.length with h|h;exact h;rw[atT h]at h1;cases h1);refine⟨q,j,by rw[atZ lu];exact h1,z,aa,aC,λi t hi Du ax=>?_⟩;rw[atZ atv]at ax;exact a_ i t hi Du ax;rcases at5 l.length hu with aT|aT;rw[atT atw]at c4;cases c4;(have:hu=l.length:=by omega);subst this;rw[avP]at c4;cases c4;refine⟨p,eu,by rw[atZ qL];exact au,N,M,X,λi t hi Du ax=>?_⟩;rw[atZ Du]at ax;exact Hs i t hi ax
mutual
theorem Zx(bm:Bool)(gC:ad):∀(n:ad) (x:aQ) (c:e5) (l:List aQ),fw bm gC l->ty l->x.n=n->rr n->l[x.si]?=some x->tt c l->(∀i s,0<i->l[i]?=some s->s.fi≠x.di)->ty (l++fU n x c)
 |.mk aW x3 t tg ga a2 a3 a4 a5 Ad ah cE,x,c,l,G,hs,zp,cv,F,hc,d6=>by
  simp only[fU];have GN:=(Kh _).1 cv;by_cases N:x3=0
  ·have p2:x.n.J=ah:=atI ad.J zp;exact QJ bm gC ah (cd 0 ah) x c l 0 G hs (by rw[aQ.df,zp,N];rfl) (by rw[p2];rfl) (by rw[p2];rfl) GN.2 F hc (λi s h0 h1 z=>absurd z (d6 i s h0 h1))
  have:ah=[]:=GN.1 N;subst this;simpa[fq]using hs
theorem QJ(bm:Bool)(gC:ad):∀(ah:List ad) (cO:List atE) (x:aQ) (c:e5) (l:List aQ) (off:Nat),fw bm gC l->ty l->x.df=true->x.n.J.drop off=ah->(cd 0 x.n.J).drop off=cO->ts ah->l[x.si]?=some x->tt c l->
  (∀i s,0<i->l[i]?=some s->s.fi=x.di->∃j,j<off/\xM x s j)->ty (l++fq ah cO x c)
 |[],_,x,c,l,off,G,hs,_,_,_,_,_,_,_=>by simpa[fq]using hs
 |k::r,[],x,c,l,off,G,hs,_,_,_,_,_,_,_=>by simpa[fq]using hs
 |k::r,m::cO,x,c,l,off,G,hs,N,b5,hJ,cv,F,hc,hinv=>by
  simp only[ts]at cv
  have j0:x.n.J[off]?=some k:=by
   have:=atI (λV=>V[0]?) b5;simpa using this
  have Wo:(cd 0 x.n.J)[off]?=some m:=by
   have:=atI (λV=>V[0]?) hJ;simpa using this
  have Zy:x.n.J.drop (off+1)=r:=by rw[<-List.drop_drop,b5];rfl
  have Zz:(cd 0 x.n.J).drop (off+1)=cO:=by rw[<-List.drop_drop,hJ];rfl
  simp only[fq];split
  ·rename_i ha;have aZ:=Qe (m:=m) F N hc (at2 j0) ha;have m6:=G.wk aZ;have eZ:=hc.add (bZ x k m c);have Fr:xM x (bZ x k m c) off:=⟨j0,m,Wo,rfl,rfl⟩;have g6:ty (l++[bZ x k m c]):=hs.wk aZ.ab aZ.dm N rfl Fr (λi t h0 h1 z=>hinv i t h0 h1 z)
   have y_:(l++[bZ x k m c])[(bZ x k m c).si]?=some (bZ x k m c):=by
    rw[aZ.si];simp
   have Bk:x.di<(bM l).length:=(G.Bi F N).2;have lZ:(bZ x k m c).di=(bM l).length:=aZ.di
   have d6:∀i s,0<i->(l++[bZ x k m c])[i]?=some s->s.fi≠(bZ x k m c).di:=λi s h0 h1=>by
    rcases at1.1 (at2 h1)with z|z
    ·have:=G.Kn s z;omega
    rw[auv]at z;subst z;have:(bZ x k m c).fi=x.di:=rfl;omega
   have ju:=Zx bm gC k (bZ x k m c) (c.add (bZ x k m c)) (l++[bZ x k m c]) m6 g6 rfl cv.1 y_ eZ d6;have g8:=Qf bm gC k (bZ x k m c) (c.add (bZ x k m c)) (l++[bZ x k m c]) m6 rfl cv.1 y_ eZ;have bw:=eZ.jJ (m:=fU k (bZ x k m c) (c.add (bZ x k m c)))
   have bi:x.si<l.length:=by
    rcases at5 x.si l.length with h|h
    ·exact h
    rw[atT h]at F;cases F
   have A1:(l++[bZ x k m c]++fU k (bZ x k m c) (c.add (bZ x k m c)))[x.si]?=some x:=by
    rw[auj,atZ bi];exact F
   have anL:∀i s,0<i->(l++[bZ x k m c]++fU k (bZ x k m c) (c.add (bZ x k m c)))[i]?=some s->s.fi=x.di->∃j,j<off+1/\xM x s j:=λi s h0 h1 z=>by
    rcases at5 i l.length with hi|hi
    ·rw[auj,atZ hi]at h1;obtain⟨j,Z,X⟩:=hinv i s h0 h1 z;exact⟨j,by omega,X⟩
    rcases at5 l.length i with aT|aT
    ·rw[aul atw]at h1
     have Di:(bM l).length<=(c.add (bZ x k m c)).uP:=by
      have:=e5.QH c (bZ x k m c);have:=hc.2.1;omega
     rcases Zw k _ _ s (at2 h1)with aa|aa
     ·rw[aa,lZ]at z;omega
     omega
    have:i=l.length:=atv
    subst this;rw[auj,aul (atP _),aww]at h1;simp at h1;subst h1;exact⟨off,auw _,Fr⟩
   have qn:=QJ bm gC r cO x _ _ (off+1) g8 ju N Zy Zz cv.2 A1 bw anL;simpa using qn
  exact QJ bm gC r cO x c l (off+1) G hs N Zy Zz cv.2 F hc (λi s h0 h1 z=>by
   obtain⟨j,Z,X⟩:=hinv i s h0 h1 z
   exact⟨j,by omega,X⟩)
end
theorem anM(bm:Bool){n:ad}(cv:rr n)(h0:n.kind=0):ty (Gr bm n):=by refine Zx bm n n (cR bm n) ⟨1,1,0⟩ [cR bm n] (.zo h0) ?_ rfl cv rfl ?_ ?_;intro i s hi hs;rw[atT atw]at hs;cases hs;refine⟨rfl,?_,?_⟩;simp[bM,aQ.df,cR,h0];simp[ee,cR];intro i s hi hs;rw[atT atw]at hs;cases hs
theorem anN:∀a,a<120->(32:UInt8)∉Lib.decDigits a/\(59:UInt8)∉Lib.decDigits a:=by decide +kernel
theorem anO:∀k,k<100->(59:UInt8)∉jl k:=by decide +kernel
theorem QK{s:atE}(h:(59:UInt8)∉s):Lib.hasSuffix s [59,49]=false:=by cases hs:Lib.hasSuffix s [59,49]with|false=>rfl|true =>rw[Lib.hasSuffix,awa]at hs;obtain⟨t,rfl⟩:=hs;exact absurd atx h
theorem fw.ZA{bm:Bool}{n:ad}(h:fw bm n l):∀(j:Nat) (s:aQ),(ee l)[j]?=some s->s.mno=j+1:=by induction h with|zo h0 =>intro j s hs;(have e:ee [cR bm n]=[]:=by simp[ee,cR]);rw[e]at hs;simp at hs|@wk l t p h aZ aY =>intro j s hs;(cases N:t.mv with|false=>rw[Qk N]at hs;exact aY j s hs|true =>rw[Y3 N]at hs;rcases at5 j (ee l).length with Z|Z;rw[atZ Z]at hs;exact aY j s hs;rcases at5 (ee l).length j with aT|aT;rw[atT atw]at hs;cases hs;(have:j=(ee l).length:=by omega);subst this;rw[avP]at hs;cases hs;exact aZ.mno)
structure anP (bm:Bool) (n:ad) (T:List aQ) (s:aQ):Prop where
 fi:s.fi<=(bM T).length
 bb:s.df=true->∃q,(bM T)[q]?=some s/\s.di=q+1
 asP:s.mv=true->s.df=true
 name:∃p j m bA bX,xM p s j/\p.di=s.fi/\(cR bm n::T)[p.si]?=some p/\p.df=true/\(cd 0 p.n.J)[j]?=some m/\nY m (s.n.kind==0) bA bX/\(if s.mv then s.file else s.id)=wq m (s.df&&!s.mv)/\(p.di=0->p=cR bm n)
theorem anQ{s p:aQ}{m:atE}(X:xM p s j)(hm:(cd 0 p.n.J)[j]?=some m)(M:nY m (s.n.kind==0) bA bX):(if s.mv then s.file else s.id)=wq m (s.df&&!s.mv):=by obtain⟨_,wN,t6,h1,z⟩:=X;rw[hm]at t6;cases t6;cases W:s.mv with|true=>rw[atH rfl,z,M.file.ident];simp|false=>rw[atG aty,h1,M.ident];simp[aQ.df]
theorem Kx{bm:Bool}{n:ad}{T:List aQ}(av:iv n)(G:fw bm n (cR bm n::T))(hs:ty (cR bm n::T)){s:aQ}(hT:s∈T):anP bm n T s:=by obtain⟨t,ax⟩:=aub.1 hT;have h1:(cR bm n::T)[t+1]?=some s:=ax;(have Bl:(cR bm n).df=true:=by rw[aQ.df,cR,G.kind];rfl);(have uX:bM (cR bm n::T)=cR bm n::bM T:=by rw[bM,auP,atH Bl];rfl);obtain⟨p,aZ,au,bi⟩:=G.dm (Nat.succ_pos t) h1;obtain⟨B9,j,Ac,qy,k3,X,_⟩:=hs (t+1) s (Nat.succ_pos t) h1;rw[au]at Ac;cases Ac;have ZB:=G.si au;have anR:=(G.QG av _ _ au).1;obtain⟨hx,_,_,xh⟩:=(tf p.n).1 anR;have fA:=X;obtain⟨Ky,m,hm,kV,Dz⟩:=fA;(have tV:j<p.n.J.length:=by rcases at5 j p.n.J.length with h|h;exact h;rw[atT h]at Ky;cases Ky);obtain⟨bA,bX,M⟩:=YT hx (λk X=>(rb xh X).1.1) tV;(have s5:(cd 0 p.n.J)[j]'(by rw[ox];exact tV)=m:=by rw[atJ (by rw[ox];exact tV)]at hm;exact auA hm);(have rd:p.n.J[j]=s.n:=by rw[atJ tV]at Ky;exact auA Ky);rw[s5,rd]at M;refine⟨?_,λN=>?_,λgw=>?_,p,j,m,bA,bX,X,aZ.fi.symm,by rw[ZB];exact au,qy,hm,M,anQ X hm M,λh0=>?_⟩;have:=G.Kn s (at2 h1);rw[uX]at this;simpa[Nat.lt_succ_iff]using this;obtain⟨tx,_⟩:=G.Bi (by rw[G.si h1];exact h1) N;rw[uX]at tx;(have h0:s.di≠0:=by have:=(G.lv _ _ h1).2.2.2 (Nat.succ_pos t) N;omega);obtain⟨q,I⟩:∃q,s.di=q+1:=⟨s.di-1,by omega⟩;rw[I]at tx;exact⟨q,tx,I⟩;have aa:=aZ.mv;rw[gw]at aa;(cases h:s.df with|true=>rfl|false=>rw[h]at aa;cases aa);obtain⟨wn,_⟩:=G.Bi (by rw[ZB];exact au) qy;rw[h0,uX]at wn;exact(auA wn).symm
theorem anS(m:atE):Lib.hasSuffix (m++[46,59,49]) [59,49]=true:=by have:=JD (m++[46]) [59,49];simpa using this
structure ZC (D:List eH) (e:gr):Prop where
 eN:0<=e.eN/\e.eN<D.length
 bb:-1<=e.bb/\e.bb<D.length
 asQ:Lib.hasSuffix e.id [59,49]=decide (e.bb<0)
 asR:0<=e.bb->∃d,D[e.bb.toNat]?=some d/\d.cB=e.eN/\d.id=e.id/\d.path=e.path
theorem anT{bm:Bool}{n:ad}{T:List aQ}(av:iv n)(G:fw bm n (cR bm n::T))(hs:ty (cR bm n::T))(hT:T.length<100):
  ∀e∈tp (jl (lM (cd 0 n.J))) T,ZC (lN (jl (lM (cd 0 n.J))) T) e:=by
 intro e ak;obtain⟨hx,_,_,_⟩:=(tf n).1 av;obtain⟨AP,qW,_⟩:=Po (el:=cd 0 n.J) (by rw[ox];exact hx);have al:=QE (jl (lM (cd 0 n.J))) T
 have Bm:∀i,e∈mR (eI T) T i->ZC (lN (jl (lM (cd 0 n.J))) T) e:=λi h=>by
  obtain⟨s,c4,rfl⟩:=at3.1 h;obtain⟨wo,_⟩:=auz.1 c4;obtain⟨k3,v1,uV,p,j,m,bA,bX,X,wn,au,qy,hm,v7,QL,uT⟩:=Kx av G hs wo;have rZ:ih (eI T) s.fi<1+eI T+(bM T).length:=by unfold ih;split<;>omega
  have kV:(s.mg (eI T)).id=wq m (s.df&&!s.mv):=QL;refine⟨⟨awl _,by rw[al];exact av9.2 rZ⟩,?_,?_,?_⟩
  ·show -1<=(if(s.df&&!s.mv)=true then((ih (eI T) s.di:Nat):Int)else -1)/\(if(s.df&&!s.mv)=true then((ih (eI T) s.di:Nat):Int)else -1)<_;split
   ·rename_i h1;rw[atM]at h1;obtain⟨q,I,DA⟩:=v1 h1.1
    have lu:q<(bM T).length:=by
     rcases at5 q (bM T).length with h|h
     ·exact h
     rw[atT h]at I;cases I
    rw[DA,al,ih,atG atv];omega
   omega
  ·rw[kV];show _=decide ((if(s.df&&!s.mv)=true then((ih (eI T) s.di:Nat):Int)else -1)<0)
   cases N:(s.df&&!s.mv)with
   |true =>
    rw[atH rfl,aug atv,wq,atH rfl];exact QK v7.anJ
   |false =>
    rw[atG aty,auM aty,anI];split
    ·exact JD m [59,49]
    exact anS m
  intro h0
  have h1:(s.df&&!s.mv)=true:=by
   cases N:(s.df&&!s.mv)with
   |true=>rfl
   |false =>
    have:(s.mg (eI T)).bb=-1:=by show(if(s.df&&!s.mv)=true then _ else _)=_;rw[N];rfl
    omega
  have GX:(s.mg (eI T)).bb=((ih (eI T) s.di:Nat):Int):=by show(if(s.df&&!s.mv)=true then _ else _)=_;rw[atH h1]
  rw[atM]at h1;have gw:s.mv=false:=by simpa using h1.2
  obtain⟨q,I,DA⟩:=v1 h1.1;refine⟨s.jK (eI T),by rw[GX,auq,DA];exact Ku I,?_,?_,rfl⟩
  ·simp[aQ.jK,aQ.mg,gw]
  simp[aQ.jK,aQ.mg,gw]
 rw[tp]at ak;rcases at1.1 ak with ak|ak
 ·rcases at1.1 ak with ak|ak
  ·rcases at1.1 ak with ak|ak
   ·split at ak
    ·cases ak
    rename_i h1;rw[auv]at ak;subst ak
    have i1 : eI T = 1 := by rcases Kt T with h|h;· exact absurd h h1
                             exact h
    refine⟨⟨auu _,by rw[al];show(0:Int)<_;omega⟩,⟨by show(-1:Int)<=1;decide,by rw[al,i1];show(1:Int)<_;omega⟩,?_,λ_=>⟨_,Kv i1,rfl,rfl,rfl⟩⟩;show Lib.hasSuffix (jl (lM (cd 0 n.J))) [59,49]=_;rw[QK (anO _ AP)];rfl
   exact Bm 0 ak
  obtain⟨s,c4,rfl⟩:=at3.1 ak;obtain⟨wo,gw⟩:=auz.1 c4;obtain⟨k3,v1,uV,_⟩:=Kx av G hs wo;obtain⟨q,I,DA⟩:=v1 (uV gw)
  have lu:q<(bM T).length:=by
   rcases at5 q (bM T).length with h|h
   ·exact h
   rw[atT h]at I;cases I
  have i1:=Zt wo gw;have hm:ee (cR bm n::T)=ee T:=by rw[ee,auP,atG (by simp[cR])];rfl
  obtain⟨i,hi⟩:=aub.1 c4;have d6:=G.ZA i s (by rw[hm];exact hi)
  have c0:i<(ee T).length:=by
   rcases at5 i (ee T).length with h|h
   ·exact h
   rw[atT h]at hi;cases hi
  have gv:(ee T).length<=T.length:=aun _ _;have GX:(s.oA (eI T)).bb=((ih (eI T) s.di:Nat):Int):=rfl;refine⟨⟨by show(0:Int)<=1;decide,by rw[al,i1];show(1:Int)<_;omega⟩,⟨by rw[GX];omega,?_⟩,?_,λ_=>⟨s.jK (eI T),by rw[GX,auq,DA];exact Ku I,?_,?_,rfl⟩⟩
  ·rw[GX,DA,al,ih,atG atv];omega
  ·show Lib.hasSuffix (68::Lib.decDigits s.mno) [59,49]=decide (((ih (eI T) s.di:Nat):Int)<0);rw[QK,aug atv];intro h;rcases at6.1 h with h|h
   ·cases h
   exact(anN _ atv).2 h
  ·simp[aQ.jK,aQ.oA,gw]
  simp[aQ.jK,aQ.oA,gw]
 obtain⟨i,_,ak⟩:=avx.1 ak;exact Bm _ ak
end Go.bS.cp


namespace Go.bS.cp
open Go Go.Proofs
variable{B:World}
theorem ZD:∀(q r:List atE) (n:ad),ji n (q++r)=(ji n q).bind λd=>ji d r
 |[],r,n=>rfl
 |m::q,r,n=>by simp only[auO,ji];cases pG m n.J with|none=>rfl|some k=>exact ZD q r k
theorem QM{n:ad}{l:Int}(h:one n l=0):vI n l=0/\vJ n l=0/\vK n=0/\vL n=0/\vM n=0/\nL n l=0:=by
 unfold one at h;simp only[hf,eM]at h
 repeat' split at h
 all_goals first|exact⟨by assumption,by assumption,by assumption,by assumption,by assumption,by assumption⟩|(exact absurd h (by assumption))
theorem Kz{s:atE}(h:dT s=true):s.length<=256:=by unfold dT at h;split at h;cases h;unfold chars at h;split at h;simp at h;cases hc:jE s with|none=>rw[hc]at h;simp at h|some l =>rw[hc]at h;have:=Cs s.length s (atP _) l hc;simp at h;omega
theorem anU{s:atE}(h:k7 s=true):s.length<=128:=by unfold k7 at h;split at h;cases h;omega
theorem KA{x a b:Int}(h:s8 x a b=true):a<=x/\x<=b:=by unfold s8 at h;simp at h;omega
theorem KB{n:ad}{l:Int}(al:1<=l)(h:one n l=0):xz n/\n.name.length<=256/\n.target.length<=128/\n.J.length<=64/\(1<l->dT n.name=true):=by obtain⟨h1,z,aa,aC,a_,cC⟩:=QM h;(have ce:ug n l=false:=by unfold vI at h1;split at h1<;>simp_all);(have dn:uh n l=false:=by unfold vJ at z;split at z<;>simp_all);(have nK:ui n=false:=by unfold vK at aa;split at aa<;>simp_all);(have AB:uj n=false:=by unfold vL at aC;split at aC<;>simp_all);(have ul:r' n=false:=by unfold vM at a_;split at a_<;>simp_all);(have Fo:sa n l=false:=by unfold nL at cC;split at cC<;>simp_all);unfold ug at ce;unfold uh at dn;unfold ui at nK;unfold uj at AB;unfold r' at ul;unfold sa at Fo;simp only[avg,avk,avC,avl]at ce dn nK AB ul Fo;have rL:=KA ul.1.1.1.1.1;have AE:=KA ul.1.1.1.1.2;have ZE:=KA ul.1.1.1.2;have asS:=KA ul.1.1.2;(have nk:1<l->dT n.name=true:=λnJ=>by rcases dn.2 with h|h;exact absurd nJ h;exact h);(have jS:n.name.length<=256:=by rcases Int.lt_or_le 1 l with nJ|nJ;exact Kz (nk nJ);(have:l=1:=by omega);subst this;rcases dn.1 with h|h;simp at h;(have:n.name=[]:=by simpa using h);rw[this];simp);(have vc:n.target=[]\/k7 n.target=true:=by rcases AB with h|h;rcases nK.1.2 with bq|bq;rw[h]at bq;cases bq;exact .inl (by simpa using bq);exact .inr h);(have i':n.target.length<=128:=by rcases vc with h|h;rw[h];simp;exact anU h);(have eQ:n.J.length<=64:=by omega);exact⟨⟨by omega,by omega,by omega,by omega,by omega,by omega,by omega,by omega,by omega,by omega,vc,by omega,by omega,by omega⟩,jS,i',eQ,nk⟩
theorem ZF:∀{ah:List ad} {l:Int},nn ah l=true->∀k∈ah,iO k l=true
 |x::r,l,h,k,X=>by rw[nn,atM]at h;rcases at6.1 X with e|e;subst e;exact h.1;exact ZF h.2 k e
theorem anV{n k:ad}{l:Int}(h:iO n l=true)(X:k∈n.J):iO k (l+1)=true:=by rw[I5,atM]at h;exact ZF h.2 k X
theorem KC{n:ad}{l:Int}(h:iO n l=true):one n l=0:=by rw[I5,atM]at h;simpa using h.1
theorem anW(q:List atE)(m:atE):nR (q++[m])=if q=[]then m else nR q++[47]++m:=by cases q with|nil=>simp[nR,lH]|cons a r =>rw[atG atx];(have:∀(r:List atE),lH (r++[m])=lH r++47::m:=λr=>by induction r with|nil=>simp[lH]|cons a r aY=>simp[lH]);simp[nR,this]
variable{l:List aQ}
theorem fw.ZG{bm:Bool}{n:ad}(av:iv n)(aT:iO n 1=true)(G:fw bm n l):∀(i:Nat) (s:aQ),l[i]?=some s->∃q,xl q/\s.path=nR q/\(q.length:Int)=s.lv-1/\ji n q=some s.n/\iO s.n s.lv=true:=by intro i;induction i using Nat.strongRecOn with|_ i aY =>intro s hs;rcases auD i with rfl|hi;rw[G.tu.1]at hs;cases hs;exact⟨[],(λm hm=>by cases hm),rfl,rfl,rfl,aT⟩;obtain⟨p,aZ,au,bi⟩:=G.dm hi hs;obtain⟨q,I,QN,lu,anX,anY⟩:=aY s.ab atv p au;have d6:=(G.QG av i s hs).2 hi;have KD:=(G.QG av s.ab p au).1;have GP:=aZ.lv;refine⟨q++[s.n.name],λm hm=>?_,?_,by simp;omega,?_,?_⟩;rcases at1.1 hm with h|h;exact I m h;rw[auv]at h;rw[h];exact d6;rw[anW,aZ.path,Go.bS.cp.below];by_cases h:q=[];rw[atH h,atH (by subst h;simp at lu;omega)];rw[atG h,atG (by have:=auX.2 h;omega),QN];rw[ZD,anX];show ji p.n [s.n.name]=some s.n;rw[WD (Oz KD) aZ.Qd rfl];rfl;rw[GP];exact anV anY aZ.Qd
theorem ZH{α:Type}(g:atE->α):∀(bP:List atE) (m:List (atE×α)) (p:atE),bj (bP.foldl (λm p=>fC m p (g p)) m) p=if p∈bP then some (g p)else bj m p
 |[],m,p=>by simp
 |x::r,m,p=>by rw[avj,ZH g r,kq];by_cases h:p∈r;rw[atH h,atH (atU _ h)];rw[atG h];by_cases z:p=x;subst z;rw[atH rfl,atH atS];rw[atG z,atG (λhc=>by rcases at6.1 hc with aa|aa;exact z aa;exact h aa)]
theorem anZ{n:ad}{p:atE}(h:p∈dP n [] 1):g0 (f3 (dQ n) n (dP n [] 1)) p=(dQ n p).1:=by unfold g0 f3;rw[ZH (λp=>(dQ n p).1),atH h];rfl
theorem fw.g0{bm:Bool}{n:ad}(av:iv n)(aT:iO n 1=true){l:List aQ}(G:fw bm n l){i:Nat}{s:aQ}(hs:l[i]?=some s):Go.bS.cp.g0 (f3 (dQ n) n (dP n [] 1)) s.path=s.n/\iO s.n s.lv=true/\1<=s.lv:=by
 obtain⟨q,I,au,al,KE,ip⟩:=G.ZG av aT i s hs;have hm:q∈pF n:=(OA q n av).2 ⟨_,KE⟩;have uw:s.path∈dP n [] 1:=by rw[OC,au];exact List.mem_map_of_mem hm
 refine⟨?_,ip,by omega⟩;rw[anZ uw,au,air I,KE]
theorem KF{a b:atE}(h:iw a)(bq:iw b):iw (a++b):=λc hc=>by
 rcases at1.1 hc with e|e
 ·exact h c e
 exact bq c e
theorem ZI{x:UInt8}{b:atE}(h:x.toNat<128)(bq:iw b):iw (x::b):=λc hc=>by
 rcases at6.1 hc with e|e
 ·subst e;exact h
 exact bq c e
theorem an0:∀c:UInt8,rc c=true->c.toNat<128:=by
 intro c h;have:∀n,n<256->rc (UInt8.ofNat n)=true->n<128:=by decide +kernel
 have z:=this c.toNat c.toNat_lt (by rw[UInt8.ofNat_toNat];exact h);exact z
theorem QO{s:atE}{m:Int}(h:oy s m=true):iw s:=λc hc=>by
 simp only[oy,uI,atM,auC]at h;exact an0 c (h.2.2.2 c hc)
variable{bA bX:atE}{bb:Bool}
theorem nY.QP{m:atE}(h:nY m bb bA bX):iw m:=by rcases h.eq with⟨_,z⟩|⟨_,_,aa,aC⟩;rw[z];exact QO h.a;rw[aC];exact KF (QO h.a) (ZI aty (QO aa))
theorem an1{m:atE}(h:nY m bb bA bX)(d:Bool):iw (wq m d)/\(wq m d).length<=15:=by have al:=h.len;unfold wq;split;exact⟨h.QP,by omega⟩;split;exact⟨KF h.QP (by intro c hc;simp at hc;rcases hc with rfl|rfl<;>decide),by simp;omega⟩;exact⟨KF h.QP (by intro c hc;simp at hc;rcases hc with rfl|rfl|rfl<;>decide),by simp;omega⟩
theorem ZJ:∀a,a<120->(Lib.decDigits a).length<=3/\∀c∈Lib.decDigits a,c.toNat<128:=by decide +kernel
variable{k:Nat}
theorem an2(h:k<100):iw (jl k)/\(jl k).length<=9:=by have:=ZJ k atv;unfold jl;split;exact⟨by intro c hc;simp at hc;rcases hc with rfl|rfl|rfl|rfl|rfl|rfl|rfl|rfl<;>decide,by decide⟩;refine⟨KF (by intro c hc;simp at hc;rcases hc with rfl|rfl|rfl|rfl|rfl|rfl<;>decide) this.2,?_⟩;simp;omega
variable{bu:atE}
theorem ZK{T:List aQ}{e:gr}(h:e∈tp bu T):(e=⟨[47],bu,0,1,true,false,false⟩)\/(∃s∈T,e=s.mg (eI T))\/(∃s∈ee T,e=s.oA (eI T)):=by(have Bm:∀i,e∈mR (eI T) T i->∃s∈T,e=s.mg (eI T):=λi h=>by obtain⟨s,hs,rfl⟩:=at3.1 h;exact⟨s,(auz.1 hs).1,rfl⟩);rw[tp]at h;rcases at1.1 h with h|h;rcases at1.1 h with h|h;rcases at1.1 h with h|h;split at h;cases h;rw[auv]at h;exact .inl h;exact .inr (.inl (Bm 0 h));obtain⟨s,hs,rfl⟩:=at3.1 h;exact .inr (.inr ⟨s,hs,rfl⟩);obtain⟨i,_,h⟩:=avx.1 h;exact .inr (.inl (Bm _ h))
structure KG (bm:Bool) (n:ad) (D:List eH) (ep:List gr):Prop where
 Kd:D.length<=103
 bH:ep.length<=201
 g':∃d,D[0]?=some d
 Gt:∀d∈D,0<=d.cB/\d.cB<(D.length:Nat)
 Ke:∀e∈ep,0<=e.eN/\e.eN<(D.length:Nat)
 Kf:∀d∈D,d.id.length<=100/\iw d.id
 an3:∀e∈ep,e.id.length<=100/\iw e.id
 ZL:∀e∈ep,e.Da=true->∃m:ad,g0 (f3 (dQ n) n (dP n [] 1)) e.path=m/\xz m/\dT m.name=true/\m.name.length<=256/\m.target.length<=128/\e.path.length<=100000
theorem ZM:∀{q:List atE} (_:xl q),(lH q).length<=257*q.length
 |[],_=>by simp[lH]
 |m::r,h=>by have aY:=ZM (q:=r) λx F=>h x (atU _ F);have:=Kz (h m atS);simp only[lH,auJ,atO,atQ]at aY⊢;omega
theorem an4{q:List atE}(h:xl q):(nR q).length<=257*q.length:=by cases q with|nil=>simp[nR]|cons m r =>have:=ZM (q:=r) λx F=>h x (atU _ F);have:=Kz (h m atS);simp only[nR,atO,atQ];omega
theorem an5{n:ad}{l:Int}(h:one n l=0):l<=16:=axC
theorem an6{bm:Bool}{n:ad}(W:valid n=true)(hc:fI n<99):KG bm n (mS bm n).1 (mS bm n).2.1/\(mS bm n).2.2=0:=by have av:=AU W;obtain⟨xK,j0⟩:=Qh W;(have aT:iO n 1=true:=by rw[xi,atM]at W;exact W.2);obtain⟨bu,T,au,G,hT,ut⟩:=anH (bm:=bm) W;(have QQ:ty (cR bm n::T):=by rw[hT];exact anM bm xK j0);(have A4:T.length<99:=by have:=Qb n (cR bm n) ⟨1,1,0⟩;rw[<-hT]at this;omega);(have an7:∀s∈T,s.iso=true->lA 0 s.n s.lv=true:=by rw[hT];exact anx n (cR bm n) ⟨1,1,0⟩);have an8:=anE G an7 bu;have ZN:=anT av G QQ atv;have an9:=λs (hs:s∈T)=>(Kx av G QQ hs).name;obtain⟨hx,_,_,_⟩:=(tf n).1 av;obtain⟨AP,_,_⟩:=Po (el:=cd 0 n.J) (by rw[ox];exact hx);have Dh:=an2 AP;rw[<-ut]at ZN Dh;have an_:∀x∈T,x.fi<=(bM T).length:=λx F=>(Kx av G QQ F).fi;have jv:=QE bu T;have asT:=Kt T;have asU:(bM T).length<=T.length:=aun _ _;have fu:=amv bu an_;(have Qs:∀s∈ee T,s.mno<120:=λs hs=>by(have hm:ee (cR bm n::T)=ee T:=by rw[ee,auP,atG (by simp[cR])];rfl);obtain⟨i,hi⟩:=aub.1 hs;have d6:=G.ZA i s (by rw[hm];exact hi);(have c0:i<(ee T).length:=by rcases at5 i (ee T).length with h|h;exact h;rw[atT h]at hi;cases hi);have gv:(ee T).length<=T.length:=aun _ _;omega);(have Kp:∀s∈T,iw (if s.mv then s.file else s.id)/\(if s.mv then s.file else s.id).length<=15:=λs hs=>by obtain⟨p,j,m,bA,bX,X,wn,au,qy,hm,v7,QL,uT⟩:=an9 s hs;rw[QL];exact an1 (by exact(by cases N:(s.n.kind==0)with|true=>rw[N]at v7;exact v7|false=>rw[N]at v7;exact v7:nY m (s.n.kind==0) bA bX)) _);(have ZO:∀s∈ee T,iw (68::Lib.decDigits s.mno)/\(68::Lib.decDigits s.mno).length<=4:=λs hs=>by have:=ZJ s.mno (Qs s hs);exact⟨ZI aty this.2,by simp;omega⟩);(have ZP:∀s∈T,∃m:ad,g0 (f3 (dQ n) n (dP n [] 1)) s.path=m/\xz m/\dT m.name=true/\m.name.length<=256/\m.target.length<=128/\s.path.length<=100000:=λs hs=>by obtain⟨t,ax⟩:=aub.1 hs;have h1:(cR bm n::T)[t+1]?=some s:=ax;obtain⟨ha,ip,GP⟩:=G.g0 av aT h1;obtain⟨q,I,QN,lu,_,_⟩:=G.ZG av aT (t+1) s h1;have z:=(G.lv (t+1) s h1).2.2.1 atv;have ag:=KC ip;obtain⟨ce,dn,nK,AB,ul⟩:=KB GP ag;have asV:=an5 ag;refine⟨_,ha,ce,ul atv,dn,nK,?_⟩;have:=an4 I;rw[QN];omega);rw[au];refine⟨⟨by dsimp only;omega,by dsimp only;omega,⟨_,QD bu T⟩,λd N=>?_,λe ak=>(ZN e ak).eN,λd N=>?_,λe ak=>?_,λe ak ha=>?_⟩,rfl⟩;obtain⟨i,hi⟩:=aub.1 N;have c0:=(aui.1 hi).1;dsimp only at hi c0⊢;rcases auD i with h0|h0;subst h0;rw[QD]at hi;cases hi;exact⟨by decide,by show(0:Int)<_;omega⟩;have:=(an8 i d hi).dm h0;omega;obtain⟨i,hi⟩:=aub.1 N;rcases Zs hi with⟨_,rfl⟩|⟨_,_,rfl⟩|⟨k,s,hs,_,rfl⟩;exact⟨by decide,by intro c hc;simp[zb]at hc;subst hc;decide⟩;exact⟨by dsimp only;omega,Dh.1⟩;have wo:s∈T:=(auz.1 (at2 hs)).1;simp only[aQ.jK];split;rename_i hm;have:=ZO s (auz.2 ⟨wo,hm⟩);exact⟨by omega,this.1⟩;rename_i hm;have:=Kp s wo;rw[atG hm]at this;exact⟨by omega,this.1⟩;rcases ZK ak with rfl|⟨s,hs,rfl⟩|⟨s,hs,rfl⟩;exact⟨by dsimp only;omega,Dh.1⟩;have:=Kp s hs;exact⟨by simp only[aQ.mg];omega,this.1⟩;have:=ZO s hs;exact⟨by simp only[aQ.oA];omega,this.1⟩;rcases ZK ak with rfl|⟨s,hs,rfl⟩|⟨s,hs,rfl⟩;cases ha;exact ZP s hs;exact ZP s (auz.1 hs).1
def KH(aN:List eH)(e:gr):atE:=((aN[e.eN.toNat]?).map (·.path)).getD []
def gj(n:ad)(aN:List eH)(x:bN):List c_:=match x.hA with
 |.eL=>[]
 |.JG=>JE n
 |.dm _=>JF
 |.JH m e=>Ps m e (KH aN e)
variable{ap:List (atE×ad)}{aN:List eH}{cj:List gr}{i:Nat}
theorem QR{o:f1}{x:bN}(h:x∈fa o ap aN cj i):(x.id=[0]/\(x.hA=.eL\/x.hA=.JG))\/(x.id=[1]/\(x.hA=.eL\/∃d,x.hA=.dm d))\/(∃e∈cj,x.id=e.id/\(x.hA=.eL\/(e.Da=true/\x.hA=.JH (g0 ap e.path) e))):=by unfold fa at h;split at h;rename_i d N;rcases at6.1 h with e|h;subst e;refine .inl ⟨rfl,?_⟩;unfold wa;dsimp only;split;exact .inr rfl;exact .inl rfl;rcases at6.1 h with e|h;subst e;refine .inr (.inl ⟨rfl,?_⟩);unfold wb;dsimp only;split;exact .inr ⟨_,rfl⟩;exact .inl rfl;obtain⟨e,ak,rfl⟩:=at3.1 h;refine .inr (.inr ⟨e,(auz.1 ak).1,rfl,?_⟩);unfold rm;dsimp only;split;rename_i ha;exact .inr ⟨ha,rfl⟩;exact .inl rfl;cases h
variable{fF:List eH}{ep:List gr}
theorem an'(aV:dc B){bm:Bool}{n:ad}(bJ:KG bm n fF ep)(av:xz n)(o:f1)(bV bE bL:Nat)(cA:List (atE×Int)){x:bN}(F:x∈fa o (f3 (dQ n) n (dP n [] 1)) fF ep i): A' B (.mp bL (bs (D.int .i64) cA)) (kt (.a7 26 [dE o n bV bE] 0 0) bL fF x.hA) (gj n fF x):=by(have d6:x.hA=.eL->A' B (.mp bL (bs (D.int .i64) cA)) (kt (.a7 26 [dE o n bV bE] 0 0) bL fF x.hA) (gj n fF x):=λh=>by unfold gj;rw[h];exact YI _);rcases QR F with⟨_,h|h⟩|⟨_,h|⟨d,h⟩⟩|⟨e,ak,_,h|⟨ha,h⟩⟩;exact d6 h;unfold gj;rw[h];exact⟨160,[],[.a7 1 [.a7 26 [dE o n bV bE] 0 0] 0 0],rfl,m0.P7 _ (akl aV _ o n bV bE av)⟩;exact d6 h;unfold gj;rw[h];exact⟨165,[],[.a7 6 [gF d] 0 0],rfl,m0.P7 _ (akm aV d)⟩;exact d6 h;unfold gj;rw[h];obtain⟨m,hm,cv,nk,_,_,dd⟩:=bJ.ZL e ak ha;obtain⟨h0,h1⟩:=bJ.Ke e ak;obtain⟨d,N⟩:∃d,fF[e.eN.toNat]?=some d:=⟨_,atJ atv⟩;(have QB:KH fF e=d.path:=by unfold KH;rw[N];rfl);rw[hm];dsimp only;rw[QB];exact⟨167,[],_,rfl,ako aV o n bV bE m bL cA fF e d cv nk dd ⟨h0,N⟩⟩
theorem ZQ{kind hh kk kl km:Int}{named:Bool}{name target:atE}{fl bZ:Int}{j2:Bool}(av:name.length<=256)(ax:target=[]\/k7 target=true):∀y∈uB kind hh kk kl km named name target fl bZ j2,y.qp.length<=2/\y.data.length<=30000:=λy hy=>by
 have ae:=Vs fl 0
 have G:∀l:List Int,(hj l).length=8*l.length:=λl=>by
  unfold hj
  induction l with
  |nil=>rfl
  |cons a r aY=>rw[auJ,atO,aY,IV,atQ];omega
 unfold uB at hy;rcases at6.1 hy with rfl|hy
 ·exact⟨by simp,by simp[G]⟩
 rcases at1.1 hy with hy|hy
 ·split at hy
  ·rw[auv]at hy;subst hy;exact⟨by simp,by simp;omega⟩
  cases hy
 rcases at1.1 hy with hy|hy
 ·split at hy
  ·rename_i aX;rcases ax with h|h
   ·exact absurd h aX
   have:=VJ target h;rw[auv]at hy;subst hy;exact⟨by simp,by simp;omega⟩
  cases hy
 rcases at6.1 hy with rfl|hy
 ·exact⟨by simp,by simp;omega⟩
 rcases at1.1 hy with hy|hy
 ·split at hy
  ·rw[auv]at hy;subst hy;exact⟨by simp,by simp[G]⟩
  cases hy
 split at hy
 ·rw[auv]at hy;subst hy;exact⟨by simp,by simp⟩
 cases hy
theorem aoa{bm:Bool}{n:ad}(bJ:KG bm n fF ep)(av:xz n){o:f1}{x:bN}(F:x∈fa o (f3 (dQ n) n (dP n [] 1)) fF ep i): (gj n fF x).length<=8/\∀y∈gj n fF x,y.qp.length<=2/\y.data.length<=30000:=by(have d6:x.hA=.eL->(gj n fF x).length<=8/\∀y∈gj n fF x,y.qp.length<=2/\y.data.length<=30000:=λh=>by unfold gj;rw[h];exact⟨by simp,λy hy=>by cases hy⟩);rcases QR F with⟨_,h|h⟩|⟨_,h|⟨d,h⟩⟩|⟨e,ak,_,h|⟨ha,h⟩⟩;exact d6 h;unfold gj;rw[h];dsimp only;have al:=Pr n.kind n.cL (la n 1) n.n2 n.n3 false [] [] n.n4 0 false;unfold JE;refine⟨by simp;omega,λy hy=>?_⟩;rcases at6.1 hy with rfl|hy;exact⟨by simp,by simp⟩;rcases at1.1 hy with hy|hy;exact ZQ atx (.inl rfl) y hy;rw[auv]at hy;subst hy;exact⟨by simp,by simp⟩;exact d6 h;unfold gj;rw[h];dsimp only;refine⟨by simp[JF],λy hy=>?_⟩;unfold JF at hy;rw[auv]at hy;subst hy;exact⟨by simp,by simp[hj,IV]⟩;exact d6 h;unfold gj;rw[h];dsimp only;obtain⟨m,hm,cv,nk,jS,i',dd⟩:=bJ.ZL e ak ha;rw[hm];unfold Ps;refine⟨?_,λy hy=>?_⟩;have:=Pr m.kind m.cL (la m ((e.path.count 47:Nat)+2)) m.n2 m.n3 true m.name m.target m.n4 (if e.A8=true then 1 else 0) (KH fF e==[47]);omega;exact ZQ jS cv.tg y hy
theorem aob{bm:Bool}{n:ad}(bJ:KG bm n fF ep){o:f1}{x:bN}(F:x∈fa o ap fF ep i):x.id.length<=100/\iw x.id:=by rcases QR F with⟨h,_⟩|⟨h,_⟩|⟨e,ak,h,_⟩;rw[h];exact⟨by decide,by intro c hc;simp at hc;subst hc;decide⟩;rw[h];exact⟨by decide,by intro c hc;simp at hc;subst hc;decide⟩;rw[h];exact bJ.an3 e ak
theorem ZR:∀(bD:Nat) (n:ad),o2 n<bD->iv n->zj n:=by intro bD;induction bD with|zero=>intro n h;omega|succ bD aY =>intro n h av;obtain⟨hx,_,hi,X⟩:=(tf n).1 av;have cv:∀k∈n.J,dT k.name=true:=λk hm=>(rb X hm).1.1;(have ae:(ld 1 n.J).1=cd 1 n.J:=by unfold ld;rw[atG aty,atG atv,atG (by rw[CY,auC.2 (λk hm=>cv k hm)];decide),atG (λh=>h (CZ hi))];exact aiw hi);refine .mk n (by rw[ae,ox]) (λx F=>?_) λk hm=>aY k (by have:=PK hm;have:=Bc n;omega) (rb X hm).2;rw[ae]at F;have:=Kz (WT aty hx cv x F);omega
structure ws (s:lh):Prop where
 aD:∀p∈s.aD,p.1.length<=10000/\0<=p.2/\p.2<=1000000
 id:∀i,∀x∈s.bc i,x.id.length<=10000
theorem ws.put{s:lh}(h:ws s)(i:Nat)(x:bN)(F:x.id.length<=10000):ws (hY s i x):=⟨h.aD,λj y hy=>by
 simp only[hY]at hy;split at hy
 ·rcases at1.1 hy with h1|h1
  ·exact h.id j y h1
  rw[auv]at h1;subst h1;exact F
 exact h.id j y hy⟩
theorem ws.new{s:lh}(h:ws s)(id:atE)(p:Nat)(a b:bN)(hi:id.length<=10000)(au:p<=1000000)(ha:a.id.length<=10000)(G:b.id.length<=10000):ws (mT s id p a b):=⟨λq I=>by
 rcases at1.1 I with h1|h1
 ·exact h.aD q h1
 ·rw[auv]at h1;subst h1;exact⟨hi,by dsimp only;omega,by dsimp only;omega⟩,λj y hy=>by
 simp only[mT]at hy;split at hy
 ·simp at hy;rcases hy with rfl|rfl
  ·exact ha
  exact G
 exact h.id j y hy⟩
mutual
theorem QS(o:f1)(ap:List (atE×ad))(n:ad)(path id:atE)(cB bY:Nat)(s:lh)(lb:zj n)(h:ws s)(nM:∀j,(s.bc j).length<=66)(kV:id.length<=10000)(au:cB<=1000000)(hc:s.aD.length+fI n<=1000000):
  ws (jN o ap n path id cB bY s)/\(∀j,((jN o ap n path id cB bY s).bc j).length<=66)/\(jN o ap n path id cB bY s).aD.length<=s.aD.length+fI n:=by
 match n,lb with
 |.mk a b c d e f g bq i j ah cE,lb =>
  obtain⟨_,h1,z,aa⟩:=lb
  have asW:ah.length<=64:=by
   have mb:(ld 1 ah).1.length=ah.length:=h1;rcases at5 64 ah.length with bi|io
   ·unfold ld at mb;rw[atG aty,atH bi]at mb;simp at mb;omega
   exact io
  rw[jN,fI];rw[fI]at hc;have av:=h.new id cB ⟨[0],bq,o.c2,2,(s.aD.length:Nat),.eL⟩ ⟨[1],(ro ap (.mk a b c d e f g bq i j ah cE) path bY).n4,o.c2,2,(cB:Nat),.eL⟩ kV au atx atx;have al:(mT s id cB ⟨[0],bq,o.c2,2,(s.aD.length:Nat),.eL⟩ ⟨[1],(ro ap (.mk a b c d e f g bq i j ah cE) path bY).n4,o.c2,2,(cB:Nat),.eL⟩).aD.length=s.aD.length+1:=by simp[mT]
  have:=KI o ap ah (ld 1 ah).1 s.aD.length path bY (mT s id cB ⟨[0],bq,o.c2,2,(s.aD.length:Nat),.eL⟩ ⟨[1],(ro ap (.mk a b c d e f g bq i j ah cE) path bY).n4,o.c2,2,(cB:Nat),.eL⟩) aa z av (λj Z=>by
   simp only[mT];rw[atG Z];exact nM j) (by simp only[mT,auT,atQ,auf];omega) (by rw[al];omega) (by rw[al];omega)
  exact⟨this.1,this.2.1,by have:=this.2.2;omega⟩
theorem KI(o:f1)(ap:List (atE×ad))(ah:List ad)(aW:List atE)(d8:Nat)(path:atE)(bY:Nat)(s:lh)(lb:∀k∈ah,zj k)(nk:∀x∈aW,x.length<5000)(h:ws s)(nM:∀j,j≠d8->(s.bc j).length<=66)(ZS:(s.bc d8).length+ah.length<=66)(ha:d8<s.aD.length)(hc:s.aD.length+eW ah<=1000000):
  ws (iU o ap ah aW d8 path bY s)/\(∀j,((iU o ap ah aW d8 path bY s).bc j).length<=66)/\(iU o ap ah aW d8 path bY s).aD.length<=s.aD.length+eW ah:=by
 match ah with
 |[] =>
  rw[iU];refine⟨h,λj=>?_,by simp[eW]⟩;by_cases Z:j=d8
  ·subst Z;simp at ZS;omega
  exact nM j Z
 |k::ah =>
  rw[iU,eW];rw[eW]at hc;rw[atQ]at ZS
  have ak4:(aW.headD []).length<5000:=by
   cases aW with
   |nil=>decide
   |cons a r=>exact nk a atS
  have z_:=afK (aW.headD []);have i':∀x∈aW.tail,x.length<5000:=λx F=>nk x (aw_ F);have Dp:=ER k;split
  ·split
   ·have hE:∀j,(s.bc j).length<=66:=λj=>by
     by_cases Z:j=d8
     ·subst Z;omega
     exact nM j Z
    have h1:=QS o ap k (nt path k.name bY) (fm (aW.headD [])) d8 (bY+1) s (lb k atS) h hE atv atv atv;have z:=J3 o ap k (nt path k.name bY) (fm (aW.headD [])) d8 (bY+1) s
    have aC:=KI o ap ah aW.tail d8 path bY (hY (jN o ap k (nt path k.name bY) (fm (aW.headD [])) d8 (bY+1) s) d8 ⟨fm (aW.headD []),k.n4,o.c2,2,(s.aD.length:Nat),.eL⟩) (λk X=>lb k (atU _ X)) i' (h1.1.put _ _ (by dsimp only;omega)) (λj Z=>by
     simp only[hY];rw[atG Z];exact h1.2.1 j) (by simp only[hY,auT,atO];rw[z.2.2 d8 ha];simp;omega) (by show d8<(jN o ap k _ _ _ _ s).aD.length;omega) (by show(jN o ap k _ _ _ _ s).aD.length+_<=_;have:=h1.2.2;omega)
    exact⟨aC.1,aC.2.1,by have a_:=aC.2.2;have cC:=h1.2.2;have eV:(hY (jN o ap k (nt path k.name bY) (fm (aW.headD [])) d8 (bY+1) s) d8 ⟨fm (aW.headD []),k.n4,o.c2,2,(s.aD.length:Nat),.eL⟩).aD.length=(jN o ap k (nt path k.name bY) (fm (aW.headD [])) d8 (bY+1) s).aD.length:=rfl;omega⟩
   have aC:=KI o ap ah aW.tail d8 path bY (hY s d8 ⟨fm (aW.headD []),k.n4,o.c2,0,-1,.eL⟩) (λk X=>lb k (atU _ X)) i' (h.put _ _ (by dsimp only;omega)) (λj Z=>by
    simp only[hY];rw[atG Z];exact nM j Z) (by simp only[hY,auT,atO];simp;omega) ha (by show s.aD.length+_<=_;omega)
   exact⟨aC.1,aC.2.1,by have a_:=aC.2.2;have eV:(hY s d8 ⟨fm (aW.headD []),k.n4,o.c2,0,-1,.eL⟩).aD.length=s.aD.length:=rfl;omega⟩
  have aC:=KI o ap ah aW.tail d8 path bY s (λk X=>lb k (atU _ X)) i' h nM atv ha atv;exact⟨aC.1,aC.2.1,by have a_:=aC.2.2;omega⟩
end
theorem aoc{o:f1}{n:ad}(av:iv n)(hc:fI n<99)(cG:o2 n<1000000):P8 o ap n:=by
 have lb:=ZR _ n (auw _) av;have h:=QS o ap n [] [0] 0 1 ⟨[],λ_=>[]⟩ lb ⟨λp au=>(by cases au),λi x F=>(by cases F)⟩ (λj=>by simp) atx atv atw;have al:(kR o ap n).aD.length<=99:=by have:=h.2.2;show(jN o ap n [] [0] 0 1 ⟨[],λ_=>[]⟩).aD.length<=99;simp at this;omega
 refine⟨lb,cG,by omega,h.1.aD,λi _=>by have:=h.2.1 i;exact Nat.lt_of_le_of_lt this atv,?_,λi x F=>by have:=h.1.id i x F;omega⟩;have:=Df (bD:=λi=>(((kR o ap n).bc i).length:Nat)) (a:=0) (b:=66) (n:=(kR o ap n).aD.length) (λi _=>⟨by omega,by have:=h.2.1 i;exact Int.ofNat_le.2 this⟩) (kR o ap n).aD.length (atP _);omega
theorem QT{α wV:Type}{f:α->List wV}{b:Nat}:∀{l:List α},(∀x∈l,(f x).length<=b)->(l.flatMap f).length<=b*l.length
 |[],_=>by simp
 |a::r,h=>by have h1:=h a atS;have z:=QT (f:=f) (l:=r) λx F=>h x (atU _ F);rw[auJ,atO,atQ,Nat.mul_succ];omega
variable{aG:bN->List c_}{wide:Bool}{bc:Nat->List bN}
theorem aod{n c:Nat}{a:Int}(av:n<=103)(al:∀i,i<n->(bc i).length<=203):a<=zf aG wide bc n a/\zf aG wide bc n a<=a+206000000+198000000:=by unfold zf;have h1:=Df (bD:=λi=>ze aG wide (bc i)) (a:=a) (b:=2000000) (n:=n) (λi hi=>XX (by have:=al i hi;omega)) n (atP _);(have hlen:(wg aG wide bc n).length<=64*203*n:=by unfold wg;(have:=QT (f:=λi=>(o1 aG wide (bc i)).flatMap λx=>(gT aG x).tail) (b:=64*203) (l:=List.range n) λi hi=>by(have aa:=QT (f:=λx=>(gT aG x).tail) (b:=64) (l:=o1 aG wide (bc i)) λx F=>by have:=(JO (JQ aG wide x F).2.2).2.1;rw[List.length_tail];omega);have aC:=JR aG wide (L:=bc i);have a_:=al i (auY.1 hi);have:64*(o1 aG wide (bc i)).length<=64*203:=Nat.mul_le_mul_left _ atv;omega);rw[List.length_range]at this;exact this);have z:=X3 (l:=wg aG wide bc n) (λv W=>by unfold wg at W;obtain⟨i,_,W⟩:=avx.1 W;obtain⟨x,F,W⟩:=avx.1 W;exact(JO (JQ aG wide x F).2.2).2.2 v (aw_ W)) (o:=0) (auu _);generalize(wg aG wide bc n).foldl j7 0=V at*;generalize(wg aG wide bc n).length=k at*;generalize fN (λi=>ze aG wide (bc i)) a n=y at*;unfold kj;rw[atX atv];omega
variable{aD:List (atE×Int)}
theorem ZT{a:Int}(ha:0<=a)(M:∀p∈aD,p.1.length<=10000)(av:aD.length<=103)(al:∀i,i<aD.length->(bc i).length<=203):0<=(sw aG wide aD bc a).1/\(sw aG wide aD bc a).1<=a+2000+404000000/\((sw aG wide aD bc a).2=0->a<=(sw aG wide aD bc a).1):=by unfold sw;split;have hT:=YG (mU aD λ_=>0) wide;have dd:=Dk (aD:=aD) (a1:=λ_=>0);(have au:=X4 (l:=(nX (mU aD λ_=>0) wide).1) λx F=>by obtain⟨y,hy,ak⟩:=hT.2 x F;obtain⟨j,Z,rfl⟩:=awL.1 hy;rw[ak];exact M aD[j] (atK _));have asX:=hT.1;generalize(nX (mU aD λ_=>0) wide).1=T at*;(have ao:0<=kj (kO T)/\kj (kO T)<=1000:=by unfold kj;rw[atX atv];omega);have:=aod (aG:=aG) (wide:=wide) (bc:=bc) (n:=aD.length) (c:=0) (a:=a+2*kj (kO T)) av al;dsimp only;exact⟨by omega,by omega,λ_=>by omega⟩;rename_i h;dsimp only;exact⟨by omega,by omega,λz=>absurd z h⟩
noncomputable def kv(o:f1)(n:ad):Int×Int:=if valid n=true then xI o n (f3 (dQ n) n (dP n [] 1)) (mS o.rock n).1 (mS o.rock n).2.1 (gj n (mS o.rock n).1)else(0,q_ n o)
theorem aoe(aV:dc B)(o:f1)(n:ad)(av:fv n)(hc:valid n=true->fI n<99/\aB n<800000/\o2 n<1000000):
  aS B 30 [aH n,r9 o] (.bl [u (kv o n).1,u (kv o n).2])/\0<=(kv o n).1/\(kv o n).1<=1000000000:=by
 have bz:aB n+n.name.length<10000000:=by have:=av;unfold fv at this;omega
 by_cases W:valid n=true
 ·obtain⟨eZ,bw,dO⟩:=hc W;have it:aS B 96 [aH n] (.Q .none 1 (aU (dP n [] 1))):=by have h:=OX (B:=B) aV n av;rw[atH W]at h;exact h
  obtain⟨bJ,py⟩:=an6 (bm:=o.rock) W eZ;have Gv:=anb (B:=B) aV o.rock n av (λ_=>⟨eZ,bw⟩);have aT:iO n 1=true:=by have h:=W;rw[xi,atM]at h;exact h.2
  have d6:=(KB (auu 1) (KC aT)).1;unfold kv;rw[atH W];generalize(mS o.rock n).1=fF at*;generalize(mS o.rock n).2.1=sz at*
  have m_:∀i,(fa o (f3 (dQ n) n (dP n [] 1)) fF sz i).length<=203:=λi=>by
   have:=Gu (o:=o) (ap:=f3 (dQ n) n (dP n [] 1)) (aN:=fF) (cj:=sz) (i:=i);have:=bJ.bH;omega
  have Z:=aoc (o:=o) (ap:=f3 (dQ n) n (dP n [] 1)) (AU W) eZ dO
  have hg:0<=(mV o (f3 (dQ n) n (dP n [] 1)) fF sz (gj n fF)).1/\(mV o (f3 (dQ n) n (dP n [] 1)) fF sz (gj n fF)).1<=404002001/\((mV o (f3 (dQ n) n (dP n [] 1)) fF sz (gj n fF)).2=0->1<=(mV o (f3 (dQ n) n (dP n [] 1)) fF sz (gj n fF)).1):=by
   have:=ZT (aG:=gj n fF) (wide:=false) (aD:=fF.map λd=>(d.id,d.cB)) (bc:=fa o (f3 (dQ n) n (dP n [] 1)) fF sz) (a:=1) aty (λp au=>by
    obtain⟨d,N,rfl⟩:=at3.1 au
    have:=(bJ.Kf d N).1;dsimp only;omega) (by rw[atL];exact bJ.Kd) (λi _=>m_ i)
   unfold mV;exact⟨this.1,by omega,this.2.2⟩
  have kg:0<=(lP o (f3 (dQ n) n (dP n [] 1)) n fF sz (gj n fF)).1/\(lP o (f3 (dQ n) n (dP n [] 1)) n fF sz (gj n fF)).1<=850000000/\((lP o (f3 (dQ n) n (dP n [] 1)) n fF sz (gj n fF)).2=0->1<=(lP o (f3 (dQ n) n (dP n [] 1)) n fF sz (gj n fF)).1):=by
   unfold lP;split
   ·rename_i aof;have ZU:=QS o (f3 (dQ n) n (dP n [] 1)) n [] [0] 0 1 ⟨[],λ_=>[]⟩ (ZR _ n (auw _) (AU W)) ⟨λp au=>(by cases au),λi x F=>(by cases F)⟩ (λj=>by simp) atx atv atw;have tV:(kR o (f3 (dQ n) n (dP n [] 1)) n).aD.length<=103:=by have:=ZU.2.2;show(jN o _ n [] [0] 0 1 ⟨[],λ_=>[]⟩).aD.length<=103;simp at this;omega
    have:=ZT (aG:=λ_=>[]) (wide:=true) (aD:=(kR o (f3 (dQ n) n (dP n [] 1)) n).aD) (bc:=(kR o (f3 (dQ n) n (dP n [] 1)) n).bc) (a:=(mV o (f3 (dQ n) n (dP n [] 1)) fF sz (gj n fF)).1) hg.1 (λp au=>(Z.aD p au).1) tV (λi _=>by have:=ZU.2.1 i;exact avb this aty);have h1:=hg.2.2 aof.1;exact⟨this.1,by omega,λz=>by have:=this.2.2 z;omega⟩
   exact⟨hg.1,by omega,hg.2.2⟩
  have wt:=YO (B:=B) aV o n bz (dQ n) (dP n [] 1) (by rw[AY];omega) it (λp au=>OI aV p (by have:=Pj au;omega) n av W) fF sz (gj n fF) (λ_=>⟨⟨_,Gv⟩,by have:=bJ.Kd;omega,by have:=bJ.bH;omega,bJ.Gt,bJ.Ke,λd N=>by have:=bJ.Kf d N;exact⟨by omega,this.2⟩,λbV bE bL i _ x F=>an' aV bJ d6 o bV bE bL _ F,
   λi _ x F=>by
    have h1:=aob bJ F;have z:=aoa bJ d6 F
    exact⟨by omega,h1.2,by omega,λy hy=>by have:=z.2 y hy;omega⟩,λ_=>Z,by omega,by omega⟩)
  refine⟨wt,?_⟩;unfold xI;split
  ·split
   ·rename_i z;have:=kg.2.2 z;dsimp only;split<;>omega
   exact⟨auu _,by dsimp only;omega⟩
  exact⟨auu _,by dsimp only;omega⟩
 have Dp:q_ n o≠0:=by
  unfold q_;rw[atH (by cases h:valid n with|true=>exact absurd h W|false=>rfl)];decide
 have it:aS B 96 [aH n] (.Q .none 1 (aU [])):=by have h:=OX (B:=B) aV n av;rw[atG W]at h;exact h
 have wt:=YO (B:=B) aV o n bz (dQ n) [] aty it (λp au=>by cases au) [] [] (λ_=>[]) (λh=>absurd h Dp);have e:xI o n (f3 (dQ n) n []) [] [] (λ_=>[])=(0,q_ n o):=by unfold xI;rw[atG Dp]
 rw[e]at wt;unfold kv;rw[atG W];exact⟨wt,auu _,by dsimp only;omega⟩
def qA(bW:List eS)(g:cM):Int:=fe (λf:eS=>f.path==g.path) bW
def DB(bW:List eS)(g:cM):Int:=((bW.getD (qA bW g).toNat ⟨[],[]⟩).data.length:Nat)
def Bn(bW:List eS)(start:Int)(g:cM):Bool:=bif (bif (bif (bif (bif decide (qA bW g<0)then true else g.len==0)then true else g.len !=DB bW g)then true else decide (g.start<0))then true else decide (start<g.start))then true else decide (start-g.start<e_ g.len)
def qB(bW:List eS)(start:Int)(o:Option (List (atE×cM)))(g:cM):Option (List (atE×cM)) :=
 o.bind λmp=>if Bn bW start g=true then none else if(bj mp g.path).isSome=true then none else some (fC mp g.path g)
def tz(bW:List eS)(start:Int)(l:List cM):Option (List (atE×cM)):=l.foldl (qB bW start) (some [])
def KJ(n:ad)(m:e2)(start:Int):Bool:=bif (bif (bif !valid n then true else !r8 m)then true else decide (start<0))then true else decide (4096<start)
def jn(n:ad)(m:e2)(aR:List cM)(start:Int):Option (List (atE×cM)):=if KJ n m start=true then none else tz (ci n) start aR
theorem aog(bW:List eS)(start:Int){l:List cM}(h:i<l.length):tz bW start (l.take (i+1))=qB bW start (tz bW start (l.take i)) l[i]:=by rw[tz,atN h,auU];rfl
theorem KK(bW:List eS)(start:Int):∀l:List cM,l.foldl (qB bW start) none=none
 |[]=>rfl
 |g::l=>KK bW start l
variable{bW:List eS}{start:Int}
theorem ZV{l:List cM}(h:tz bW start (l.take i)=none):tz bW start l=none:=by rw[tz,<-ava i l,auU,<-tz,h];exact KK _ _ _
theorem oB{a b:Bool}(h:(bif a then true else b)=false):a=false/\b=false:=by cases a<;>cases b<;>simp at h⊢
theorem k4{b:Bool}(h:(!b)=true):b=false:=by cases b<;>simp at h⊢
theorem ZW{g:cM}(h:decide (qA bW g<0)=false):∃hi:(qA bW g).toNat<bW.length,0<=qA bW g/\(bW.map eb)[(qA bW g).toNat]?=some (eb (bW.getD (qA bW g).toNat ⟨[],[]⟩)):=by have h:=at0 h;unfold qA at*;rcases Fc (λf:eS=>f.path==g.path) bW with⟨e,_⟩|⟨i,hi,e,_,_⟩;omega;rw[e];exact⟨by simpa using hi,by omega,by simp[List.getD,hi]⟩
theorem QU(aV:dc B)(n:ad)(m:e2)(aR:List cM)(start:Int)(av:fv n)(aT:aR.length<1000000)(mi:∀g∈aR,g.len<=9223372036854775807)(wl:(ci n).length<1000000):cV B 57 [aH n,hW m,.Q .none 3 (aR.map bg),u start] bF.none λd aM=>match jn n m aR start with|none=>d=.bl [.any,u 1]|some mp=>∃b8 cn,d=.bl [.box 4102 b8 0,u 0]/\aM=aK [(4102,.box b8 (fo (⟨m,ci n,[],mp,start,0,0,0,0⟩:dr) cn)),(4001,.mp cn (bs bg mp))]:=by refine jW Tryz.func57 Tryz.ntmps57 λU=>?_;refine go ?_;intro cP;refine go ?_;intro cx;refine go ?_;refine br (AA aV n (by unfold fv at av;omega)) ?_;refine br (Fd m) ?_;refine aJ (KJ n m start) rfl ?_ ?_<;>intro hc;refine ch ?_;(have hO:jn n m aR start=none:=by rw[jn,atH hc]);rw[hO];refine Y.gU [(9,u 1)] [] [] ⟨ar,rfl,ai⟩ ?_;refine go ?_;exact⟨.bl [.any,u 1],(show dL [_,_] [_,_]from⟨.any _,E,ai⟩),rfl⟩;apply cl;(have hO:jn n m aR start=tz (ci n) start aR:=by rw[jn,atG (by rw[hc];decide)]);(have aZ:0<=start/\start<=4096:=axT);rw[hO];apply en;refine Y.fd [(2,.Q .none 3 (aR.map bg)),(3,u start),(4,.box 4 cP 0),(5,.box 5 cx 0)] [(4,.box cP (aH n).cells),(5,.box cx (hW m).cells)] [(4,4),(5,5)] ⟨ar,rfl,ba⟩ ?_;have XC:=OY (B:=B) aV n av;refine' eR (α:=Nat×Nat) [(4,.box cP (aH n).cells),(5,.box cx (hW m).cells)] (0,0) (λy=>[_,_,.Q .none 2 ((ci n).map eb),.an (.map (some y.1)),_,.agg [.O m.name,.O m.set,.O m.pr,.O m.ps,.O m.l9,u m.Cw,u m.Cx,u m.fl,u m.e3,u m.c2,.Q .none 6 (m.gO.map pq),u m.dl,.bool m.oS,.Q .none 2 ((ci n).map eb),.bh,.an (.map (some y.1)),u start,u 0,u 0,u 0,u 0],.box 38 y.2 0,.box 38 y.2 0]) (λy=>[(3,35,some (.mp y.1 [])),(6,38,some (.box y.2 [.O m.name,.O m.set,.O m.pr,.O m.ps,.O m.l9,u m.Cw,u m.Cx,u m.fl,u m.e3,u m.c2,.Q .none 6 (m.gO.map pq),u m.dl,.bool m.oS,.Q .none 2 ((ci n).map eb),.bh,.an (.map (some y.1)),u start,u 0,u 0,u 0,u 0]))]) [0,0,2,0,0,31,63,127] [(3,35),(6,38)] ?_ ?_;rotate_left 3;refine dC ?_;refine bR (λy=>af.ud λv=>(d0 (v,y.2))) ?_;refine Cj (λy=>?_) ?_;refine go ?_;intro k4;exact d0 (y.1,k4);exact trivial;intro y;obtain⟨cn,b8⟩:=y;(conv=>whnf);refine Y.fd [(2,.Q .none 3 (aR.map bg)),(3,u start),(10,.box 38 b8 0)] [(35,.mp cn []),(38,.box b8 [.O m.name,.O m.set,.O m.pr,.O m.ps,.O m.l9,u m.Cw,u m.Cx,u m.fl,u m.e3,u m.c2,.Q .none 6 (m.gO.map pq),u m.dl,.bool m.oS,.Q .none 2 ((ci n).map eb),.bh,.an (.map (some cn)),u start,u 0,u 0,u 0,u 0])] [(35,35),(38,38)] ⟨cH,rfl,cH⟩ ?_;refine Y.jx 38 (dt:=fo (⟨m,ci n,[],[],start,0,0,0,0⟩:dr) cn) rfl ⟨E,E,E,E,E,E,E,E,E,E,E,E,E,E,aq.nil,E,E,E,E,E,E,ai⟩ ?_;refine Y.fd [(2,.Q .none 3 (aR.map bg)),(3,u start),(10,.box 4102 b8 0)] [(4102,.box b8 (fo (⟨m,ci n,[],[],start,0,0,0,0⟩:dr) cn)),(4001,.mp cn (bs bg []))] [(4102,38),(4001,35)] ⟨⟨E,E,aq.box,ai⟩,rfl,ba⟩ ?_;refine go ?_;refine Y.ed (α:={x:Nat×List (atE×cM) // x.1<=aR.length/\tz (ci n) start (aR.take x.1)=some x.2}) (λx=>[(3,u start),(10,.box 4102 b8 0),(39,.Q .none 3 (aR.map bg)),(40,u ((aR.map bg).length:Nat)),(41,u x.1.1)]) (λx=>[(4102,.box b8 (fo (⟨m,ci n,[],x.1.2,start,0,0,0,0⟩:dr) cn)),(4001,.mp cn (bs bg x.1.2))]) (λx=>aR.length-x.1.1) ⟨(0,[]),at7 _,rfl⟩ [(4102,4102),(4001,4001)] ⟨ar,rfl,ba⟩ ?_;rintro⟨⟨i,mp⟩,hi,KL⟩;dsimp only at hi KL⊢;refine go ?_;refine aJ (decide ((i:Int)<((aR.map bg).length:Nat))) rfl ?_ ?_<;>intro bw;(·apply cl;(have aE:i<aR.length:=by simpa using bw);have h9:=NH aE;have cW:=aog (ci n) start aE;have w7:=mi aR[i] (atK _);rw[KL]at cW;generalize aR[i]=g at*;(have oV:∀h:(bif (bif (bif (bif decide (qA (ci n) g<0)then true else g.len==0)then true else g.len !=DB (ci n) g)then true else decide (g.start<0))then true else decide (start<g.start))=false,0<=g.len/\0<=g.start:=λh=>by have h1:=(oB h).1;have z:=oB h1;have aa:=(oB z.1).2;have aC:=at0 z.2;(have a_:g.len=DB (ci n) g:=by simpa using aa);rw[a_];unfold DB;omega);refine gK ?_;refine⟨λ_=>by rw[atL];omega,?_⟩;(conv=>whnf);refine⟨bg g,λ_=>h9,?_⟩;refine go ?_;intro sA;refine go ?_;refine .inr (af.call rfl [.Q .none 2 ((ci n).map eb),.fn (.func 90) [] [.box 4101 sA 0]] [(4101,12)] (c8.JB rfl (ajZ (ci n) wl 90 [.box 4101 sA 0] _ (λf=>f.path==g.path) (λk X=>ajY k g sA))) rfl ⟨E,aq.fn trivial ⟨aq.box,ai⟩,ai⟩ ?_);rintro d aM ⟨rfl,rfl⟩;refine p7 ?_;rw[show fe (λf:eS=>f.path==g.path) (ci n)=qA (ci n) g from rfl];refine Y.vf aL mixed atA ?_;refine go ?_;refine⟨λh=>by obtain⟨z,aa,_⟩:=ZW (oB (k4 h)).1;have aC:((ci n).map eb).length=(ci n).length:=atL _;show 0<=qA (ci n) g/\qA (ci n) g<(((ci n).map eb).length:Nat);omega,?_⟩;refine go ?_;refine⟨eb ((ci n).getD (qA (ci n) g).toNat ⟨[],[]⟩),λh=>(ZW (oB (k4 h)).1).elim λ_ h=>h.2,?_⟩;refine go ?_;refine⟨[u g.len],_,λh=>Ng g.len (oV (k4 h)).1 w7,ar,?_⟩;refine iK ?_;refine hG ?_;refine .inl ⟨λh=>by have:=(oV (k4 h)).2;simp only[dk];have:=at0 (oB (k4 h)).2;omega,?_⟩;refine go ?_;refine aJ (Bn (ci n) start g) rfl ?_ ?_<;>intro dO;refine ch ?_;have hN:tz (ci n) start aR=none:=ZV (i:=i+1) (by rw[cW];simp[qB,dO]);rw[hN];refine Y.gU [(9,u 1)] [] [] ⟨ar,rfl,ai⟩ ?_;refine go ?_;exact⟨.bl [.any,u 1],(show dL [_,_] [_,_]from⟨.any _,E,ai⟩),rfl⟩;apply cl;apply m';refine Y.fd [(3,u start),(10,.box 4102 b8 0),(39,.Q .none 3 (aR.map bg)),(40,u ((aR.map bg).length:Nat)),(41,u (i:Int)),(12,.box 12 sA 0)] [(4102,.box b8 (fo (⟨m,ci n,[],mp,start,0,0,0,0⟩:dr) cn)),(4001,.mp cn (bs bg mp)),(12,.box sA (bg g).cells)] [(4102,4102),(4001,4001),(12,12)] ⟨ar,rfl,ba⟩ ?_;refine' eR (α:=Nat) [(4102,.box b8 (fo (⟨m,ci n,[],mp,start,0,0,0,0⟩:dr) cn)),(4001,.mp cn (bs bg mp)),(12,.box sA (bg g).cells)] 0 (λq=>[_,_,_,_,_,_,.bl [bg ((bj mp g.path).getD gq),.bool (bj mp g.path).isSome],_,_,_,.box 14 q 0,.any,_]) (λq=>[(10,14,some (.box q ([.O [],u 0,u 0]))),(11,14,some (.box q ((bg ((bj mp g.path).getD gq)).cells)))]) [0,1,3,7,0,16,63,127,255,255,0,1535,4095] [(10,14),(11,14)] ?_ ?_;rotate_left 10;refine dC ?_;refine bR (λq=>af.qt 4001 (dA:=9) (d9:=53) (enc:=bg) (V:=gq) rfl rfl rfl rfl rfl atD (λw C=>xu w C) (cz q)) ?_;refine wS ?_;exact trivial;intro q;(conv=>whnf);refine Y.fd [(3,u start),(10,.box 4102 b8 0),(39,.Q .none 3 (aR.map bg)),(40,u ((aR.map bg).length:Nat)),(41,u (i:Int)),(12,.box 12 sA 0),(15,.bool (bj mp g.path).isSome)] [(4102,.box b8 (fo (⟨m,ci n,[],mp,start,0,0,0,0⟩:dr) cn)),(4001,.mp cn (bs bg mp)),(12,.box sA (bg g).cells)] [(4102,4102),(4001,4001),(12,12)] ⟨cH,rfl,cH⟩ ?_;refine go ?_;refine aJ (bj mp g.path).isSome rfl ?_ ?_<;>intro kf;refine ch ?_;have hN:tz (ci n) start aR=none:=ZV (i:=i+1) (by rw[cW];simp[qB,dO,kf]);rw[hN];refine Y.gU [(9,u 1)] [] [] ⟨ar,rfl,ai⟩ ?_;refine go ?_;exact⟨.bl [.any,u 1],(show dL [_,_] [_,_]from⟨.any _,E,ai⟩),rfl⟩;refine fk ?_;refine Y.zX aL 7 mixed atA ?_;refine go ?_;refine .inr (af.xr 4001 (dA:=9) (d9:=53) (enc:=bg) (v:=g) rfl rfl rfl rfl rfl rfl ?_);refine go ?_;exact⟨⟨(i+1,fC mp g.path g),aE,by rw[cW];simp[qB,dO,kf]⟩,[(4102,4102),(4001,4001)],by show aR.length-(i+1)<aR.length-i;omega,ar,rfl,ba⟩);(have cg:i=aR.length:=by simp at bw;omega);subst cg;rw[atW]at KL;rw[KL];refine sS ?_;refine Y.gU [(8,.box 4102 b8 0),(9,u 0)] [(4102,.box b8 (fo (⟨m,ci n,[],mp,start,0,0,0,0⟩:dr) cn)),(4001,.mp cn (bs bg mp))] [(4102,4102),(4001,4001)] ⟨ar,rfl,ba⟩ ?_;refine go ?_;exact⟨.bl [.box 4102 b8 0,u 0],(show dL [_,_] [_,_]from ar),b8,cn,rfl,rfl⟩
abbrev gs(n:ad)(m:e2)(mp:List (atE×cM))(start:Int)(cX:List atE):dr:=⟨m,ci n,cX,mp,start,0,0,0,0⟩
def iW(n:ad)(m:e2)(mp:List (atE×cM))(start:Int):dr:=gs n m mp start (lK (gs n m mp start []) (ci n))
def xN(p:dr)(s aj:Int×Int):Int×Int:=if(eG p s aj).2=0 then((sp (eG p s aj).1 4096).1.C,(sp (eG p s aj).1 4096).2)else(0,(eG p s aj).2)
variable{f:FuncId}{ds:List D}{a6:D->bF->Prop}{e9 gz:Nat}
theorem _root_.Go.bS.c8.QV{H:bF}{ce dn:Nat}(h1:H e9=none)(z:H gz=none)(hc:cV B f ds bF.none a6):cV B f ds (gA H [(ce,e9),(dn,gz)]) a6:=by(have e:gA H [(ce,e9),(dn,gz)]=bF.none:=by funext j;simp only[gA];exact axG);rw[e];exact hc
variable{aR:List cM}{mp:List (atE×cM)}
theorem QW{n:ad}{m:e2}(h:jn n m aR start=some mp):0<=start/\start<=4096:=by unfold jn at h;split at h;cases h;rename_i hc;(have hc:KJ n m start=false:=by simpa using hc);exact axT
theorem ZX(p:dr)(s aj:Int×Int):(eG p s aj).1.aR=p.aR:=by(have z:(iQ p s).aR=p.aR:=by unfold iQ xx;split<;>rfl);unfold eG;split;rfl;split;exact z;exact z
theorem aoh(aV:dc B)(n:ad)(m:e2)(aR:List cM)(start:Int)(av:fv n)(aT:aR.length<1000000)(mi:∀g∈aR,g.len<=9223372036854775807)(wl:(ci n).length<1000000)(po:m.gO.length<1000000)(mp:List (atE×cM))(hO:jn n m aR start=some mp)(s aj:Int×Int)(be:hX m.e3 0=true->aS B 30 [aH n,r9 (he m)] (.bl [u s.1,u s.2]))(fR:hX m.e3 3=true->aS B 94 [aH n,u m.dl] (.bl [u aj.1,u aj.2]))(dd:(eG (iW n m mp start) s aj).2=0->A3 (eG (iW n m mp start) s aj).1):aS B 20 [aH n,hW m,.Q .none 3 (aR.map bg),u start] (.bl [u (xN (iW n m mp start) s aj).1,u (xN (iW n m mp start) s aj).2]):=by refine bB Tryz.func20 Tryz.ntmps20 λU=>?_;have aZ:=QW hO;refine ch ?_;intro cP;(conv=>whnf);intro cx;refine vk ?_;apply mB;apply cD;apply mB;refine ez ?_;refine .inr (af.call rfl [aH n,hW m,.Q .none 3 (aR.map bg),u start] [(4102,4102),(4001,4001)] (c8.QV rfl rfl (QU aV n m aR start av aT mi wl)) rfl ar ?_);rintro d aM I;rw[hO]at I;obtain⟨b8,cn,rfl,rfl⟩:=I;refine⟨_,E,?_⟩;refine gb ?_;refine aJ false rfl ?_ ?_<;>intro hc;cases hc;refine go ?_;refine .inr (af.call rfl [.box 4102 b8 0] [(4102,4102),(4001,4001)] (c8.xq rfl rfl (Xz (gs n m mp start []) wl b8 cn)) rfl ar ?_);rintro d aM ⟨rfl,rfl⟩;refine p7 ?_;refine .inr (af.call rfl [.box 4102 b8 0,aH n] [(4102,4102)] (c8.JB rfl (XA (iW n m mp start) n s aj aZ.1 aZ.2 (show(0:Int)<=0 by decide) (show(0:Int)<=100 by decide) po be fR b8 cn)) rfl ar ?_);rintro d aM ⟨rfl,rfl⟩;refine p7 ?_;refine aJ ((eG (iW n m mp start) s aj).2 !=0) rfl ?_ ?_<;>intro bw;refine go ?_;(have aX:¬(eG (iW n m mp start) s aj).2=0:=by simpa using bw);(have oj:xN (iW n m mp start) s aj=(0,(eG (iW n m mp start) s aj).2):=by rw[xN,atG aX]);rw[oj];exact ar;refine go ?_;(have ak:(eG (iW n m mp start) s aj).2=0:=by simpa using bw);(have oj:xN (iW n m mp start) s aj=((sp (eG (iW n m mp start) s aj).1 4096).1.C,(sp (eG (iW n m mp start) s aj).1 4096).2):=by rw[xN,atH ak]);have QX:(eG (iW n m mp start) s aj).1.aR=mp:=ZX _ _ _;refine go ?_;refine .inr (af.call rfl [.box 4102 b8 0,u 4096] [(4102,4102),(4001,4001)] (c8.xq rfl (atI (λq=>some (aI.mp cn (bs bg q))) QX.symm) (Xy (eG (iW n m mp start) s aj).1 (dd ak) 4096 aty aty b8 cn)) rfl ar ?_);rintro d aM ⟨rfl,iN,aoi,rfl⟩;refine p7 ?_;intro Xl;refine go ?_;rw[oj];exact ar
theorem ZY(a b:List atE)(ha:a.length<1000000)(G:b.length<1000000):aS B 33 [.Q .none 1 (aU a),.Q .none 1 (aU b)] (.bool (a==b)):=by refine bB Tryz.func33 Tryz.ntmps33 λU=>?_;apply b3;refine gb ?_;refine aJ _ rfl ?_ ?_<;>intro hc;refine gm ?_;exact aq.of_eq (atI D.bool (Eq.symm (ayy)));apply cl;(have hlen:a.length=b.length:=by simp[aU]at hc;omega);refine nF ?_;refine Y.loop (α:={i:Nat // i<=a.length/\a.take i=b.take i}) (λx=>[(0,.Q .none 1 (aU a)),(1,.Q .none 1 (aU b)),(12,u (aU a).length),(13,u x.1)]) (λ_=>[]) (λx=>a.length-x.1) ⟨0,by omega,rfl⟩ ar trivial ?_;rintro⟨i,hi,xO⟩;dsimp only at hi xO⊢;apply b3;apply en;refine aJ (decide ((i:Int)<(aU a).length)) rfl ?_ ?_<;>intro hc;apply cl;(have aE:i<a.length:=by simpa[aU]using hc);(have w4:i<b.length:=by omega);refine kc ?_;apply b3;refine oO ?_;(conv=>whnf);refine⟨λ_=>by simp[aU];omega,?_⟩;(conv=>whnf);refine⟨.O a[i],λ_=>Gh aE,?_⟩;(conv=>whnf);refine⟨λ_=>by simp[aU];omega,?_⟩;(conv=>whnf);refine⟨.O b[i],λ_=>Gh w4,?_⟩;refine aJ (a[i]!=b[i]) rfl ?_ ?_<;>intro hc;refine gm ?_;exact aq.of_eq (atI D.bool (Eq.symm (ayy)));refine rU ?_;(have GY:a[i]=b[i]:=by simpa using hc);exact⟨⟨i+1,aE,by rw[atN aE,atN w4,xO,GY]⟩,by show a.length-(i+1)<a.length-i;omega,ar,ai⟩;refine qT ?_;exact aq.of_eq (atI D.bool (Eq.symm (by(have cg:i=a.length:=by simp[aU]at hc;omega);rw[aue atv,aue atv]at xO;rw[xO];simp)))
abbrev DC(l:List atE):D:=.fn (.func 93) [] [.a7 1 [.Q .none 1 (aU l)] 0 0]
def rx(p:dr)(s aj:Int×Int)(cap:Int):mK×Int:=if(eG p s aj).2=0 then sp (eG p s aj).1 cap else(rk,(eG p s aj).2)
theorem QY:aq (.agg rj) (lB rk):=aq.agg (a:=rj) (bv:=(lB rk).cells) ⟨E,E,E,E,E,E,E,E,E,E,E,aq.nil,E,E,E,aq.nil,ai⟩
theorem aoj(aV:dc B)(n:ad)(m:e2)(cX:List atE)(aR:List cM)(start cap:Int)(av:fv n)(aT:aR.length<1000000)(mi:∀g∈aR,g.len<=9223372036854775807)(wl:(ci n).length<1000000)(po:m.gO.length<1000000)(gJ:cX.length<1000000)(mp:List (atE×cM))(hO:jn n m aR start=some mp)(m6:¬cap<start)(g8:¬4096<cap)(s aj:Int×Int)(be:hX m.e3 0=true->aS B 30 [aH n,r9 (he m)] (.bl [u s.1,u s.2]))(fR:hX m.e3 3=true->aS B 94 [aH n,u m.dl] (.bl [u aj.1,u aj.2]))(dd:(eG (gs n m mp start cX) s aj).2=0->A3 (eG (gs n m mp start cX) s aj).1)(c9 da:List atE)(uY:∀l:List atE,aS B 59 [.Q .none 1 (aU l)] (DC l))(Py:aS B 58 [DC cX] (.Q .none 1 (aU c9)))(JN:aS B 58 [DC (lK (gs n m mp start []) (ci n))] (.Q .none 1 (aU da)))(x6:c9.length<1000000)(CQ:da.length<1000000)(xB:(c9==da)=true):aS B 19 [aH n,hW m,.Q .none 1 (aU cX),.Q .none 3 (aR.map bg),u start,u cap] (.bl [lB (rx (gs n m mp start cX) s aj cap).1,u (rx (gs n m mp start cX) s aj cap).2]):=by refine bB Tryz.func19 Tryz.ntmps19 λU=>?_;have aZ:=QW hO;(have asY:(lK (gs n m mp start []) (ci n)).length<1000000:=by have:=Gn (gs n m mp start []) (ci n);omega);refine ch ?_;intro ea;(conv=>whnf);intro dJ;(conv=>whnf);intro sA;refine vk ?_;apply mB;apply cD;apply mB;refine ez ?_;refine .inr (af.call rfl [aH n,hW m,.Q .none 3 (aR.map bg),u start] [(4102,4102),(4001,4001)] (c8.QV rfl rfl (QU aV n m aR start av aT mi wl)) rfl ar ?_);rintro d aM I;rw[hO]at I;obtain⟨b8,cn,rfl,rfl⟩:=I;refine⟨_,E,?_⟩;apply m';refine Y.Af aL ?_;refine vl ?_;refine vl ?_;refine vl ?_;refine Mj ?_;refine Mj ?_;refine Mj ?_;(conv=>whnf);refine⟨rfl,.inr (af.wZ rfl (rfl) ?_)⟩;refine vl ?_;(conv=>whnf);refine⟨rfl,_,_,rfl,rfl,.inl ⟨aug m6,.inl ?_⟩⟩;(conv=>whnf);refine⟨rfl,_,_,rfl,rfl,.inl ⟨aug m6,.inl ?_⟩⟩;(conv=>whnf);refine⟨rfl,.inr (af.wZ rfl (aug m6) ?_)⟩;refine vl ?_;(conv=>whnf);refine⟨rfl,_,_,rfl,rfl,.inl ⟨aug g8,.inl ?_⟩⟩;(conv=>whnf);refine⟨rfl,_,_,rfl,rfl,.inl ⟨aug g8,.inl ?_⟩⟩;refine go ?_;refine⟨[.Q .none 1 (aU cX)],_,λ_=>uY cX,ar,?_⟩;(conv=>whnf);refine⟨rfl,_,_,rfl,rfl,.inl ⟨aug g8,.inl ?_⟩⟩;refine go ?_;refine⟨[DC cX],_,λ_=>Py,ar,?_⟩;(conv=>whnf);refine⟨rfl,_,_,rfl,rfl,.inl ⟨aug g8,.inl ?_⟩⟩;(conv=>whnf);refine⟨rfl,_,_,rfl,rfl,.inl ⟨aug g8,.inr (af.call rfl [.box 4102 b8 0] [(4102,4102),(4001,4001)] (c8.xq rfl rfl (Xz (gs n m mp start []) wl b8 cn)) rfl ar ?_)⟩⟩;rintro d aM ⟨rfl,rfl⟩;refine rT ?_;refine⟨rfl,_,_,rfl,rfl,.inl ⟨aug g8,.inl ?_⟩⟩;refine go ?_;refine⟨[.Q .none 1 (aU (lK (gs n m mp start []) (ci n)))],_,λ_=>uY _,ar,?_⟩;(conv=>whnf);refine⟨rfl,_,_,rfl,rfl,.inl ⟨aug g8,.inl ?_⟩⟩;refine go ?_;refine⟨[DC (lK (gs n m mp start []) (ci n))],_,λ_=>JN,ar,?_⟩;(conv=>whnf);refine⟨rfl,_,_,rfl,rfl,.inl ⟨aug g8,.inl ?_⟩⟩;refine go ?_;refine⟨[.Q .none 1 (aU c9),.Q .none 1 (aU da)],_,λ_=>ZY _ _ x6 CQ,ar,?_⟩;(conv=>whnf);refine⟨rfl,_,_,rfl,rfl,.inl ⟨aug g8,.inl ?_⟩⟩;(conv=>whnf);refine⟨rfl,.inr (af.wZ rfl (aug g8) ?_)⟩;refine go ?_;refine aJ (!(c9==da)) rfl ?_ ?_<;>intro hc;rw[xB]at hc;cases hc;refine go ?_;refine .inr (af.call rfl [.box 4102 b8 0,aH n] [(4102,4102)] (c8.JB rfl (XA (gs n m mp start cX) n s aj aZ.1 aZ.2 (show(0:Int)<=0 by decide) (show(0:Int)<=100 by decide) po be fR b8 cn)) rfl ar ?_);rintro d aM ⟨rfl,rfl⟩;refine p7 ?_;refine aJ ((eG (gs n m mp start cX) s aj).2 !=0) rfl ?_ ?_<;>intro bw;refine go ?_;(have aX:¬(eG (gs n m mp start cX) s aj).2=0:=by simpa using bw);(have oj:rx (gs n m mp start cX) s aj cap=(rk,(eG (gs n m mp start cX) s aj).2):=by rw[rx,atG aX]);rw[oj];refine go ?_;exact⟨QY,E,ai⟩;refine go ?_;(have ak:(eG (gs n m mp start cX) s aj).2=0:=by simpa using bw);(have oj:rx (gs n m mp start cX) s aj cap=sp (eG (gs n m mp start cX) s aj).1 cap:=by rw[rx,atH ak]);have QX:(eG (gs n m mp start cX) s aj).1.aR=mp:=ZX _ _ _;rw[oj];refine go ?_;refine .inr (af.call rfl [.box 4102 b8 0,u cap] [(4102,4102),(4001,4001)] (c8.xq rfl (atI (λq=>some (aI.mp cn (bs bg q))) QX.symm) (Xy (eG (gs n m mp start cX) s aj).1 (dd ak) cap atv atv b8 cn)) rfl ar ?_);rintro d aM ⟨rfl,iN,aoi,rfl⟩;refine p7 ?_;exact ar
theorem aok(n:ad)(s:atE):(dQ n s).1.dB.length<=aB n:=by unfold dQ;split;have:=l' n;show n.dB.length<=_;omega;split;rename_i x F;have h1:=OH _ _ _ F;have z:=l' x;show x.dB.length<=_;omega;exact at7 _
theorem ZZ{n:ad}:∀f∈ci n,f.data.length<=aB n:=by intro f M;unfold ci at M;obtain⟨p,_,au⟩:=awm.1 M;unfold ie at au;split at au;cases au;exact aok n p;cases au
theorem QZ(n:ad):(ci n).length<=aB n:=by unfold ci;have h:=avY (ie n) (if valid n then dP n [] 1 else[]);(have z:(if valid n then dP n [] 1 else[]).length<=fI n:=by split;rw[AY];exact atP _;exact at7 _);have:=Cg n;omega
theorem Z0{bW:List eS}{start:Int}:∀(l:List cM) (o:Option (List (atE×cM))),(∀mp,o=some mp->ks mp)->∀mp,l.foldl (qB bW start) o=some mp->ks mp
 |[],o,h,mp,hm=>h mp hm
 |g::l,o,h,mp,hm=>by refine Z0 l (qB bW start o g) (λZ1 I=>?_) mp hm;cases o with|none=>cases I|some j3 =>have I:(if Bn bW start g=true then none else if(bj j3 g.path).isSome=true then none else some (fC j3 g.path g))=some Z1:=I;split at I;cases I;rename_i G;split at I;cases I;cases I;(have G:Bn bW start g=false:=by simpa using G);have h1:=(oB (oB (oB G).1).1).2;have:=at0 h1;exact Gm (h j3 rfl) atv
theorem aol{n:ad}{m:e2}(h:jn n m aR start=some mp):ks mp:=by unfold jn at h;split at h;cases h;exact Z0 aR (some []) (λZ1 I=>by cases I;exact O_) mp h
theorem Q0{n:ad}{m:e2}(av:fv n)(hO:jn n m aR start=some mp){cX:List atE}(ag:cX.length<=100000){s aj:Int×Int}(hs:0<=s.1/\s.1<=1000000000)(ao:0<=aj.1/\aj.1<=1000000)(h0:(eG (gs n m mp start cX) s aj).2=0)(hsz:aB n<1000000):A3 (eG (gs n m mp start cX) s aj).1:=by have aZ:=QW hO;have zu:=aol hO;have du:=QZ n;(have v_:∀f∈ci n,f.data.length<=100000000:=λf M=>by have:=ZZ f M;omega);(have N:0<=qf (he m)/\qf (he m)<=100:=by unfold qf;split<;>split<;>omega);unfold eG at h0⊢;split at h0;rename_i hc;exact absurd h0 hc.2;rename_i hc;rw[atG hc];unfold iQ xx;unfold A3;split<;>split<;>refine⟨?_,?_,?_,?_,?_,?_,?_,?_,?_,?_,ag,by show(ci n).length<_;omega,v_,zu⟩<;>first|(show(0:Int)<=0;decide)|(show(0:Int)<=1000000000;decide)|(show(0:Int)<=1000000;decide)|(show(0:Int)<=100;decide)|exact aZ.1|exact aZ.2|exact hs.1|exact hs.2|exact ao.1|exact ao.2|exact N.1|exact N.2|(show 0<=start+66+2;omega)|(show start+66+2<=(100000:Int);omega)|(show 0<=start+16+qf (he m);omega)|(show start+16+qf (he m)<=100000;omega)|(show 0<=start+16+(0:Int);omega)|(show start+16+(0:Int)<=100000;omega)
theorem aom(aV:dc B)(n:ad)(m:e2)(cX:List atE)(aR:List cM)(start cap:Int)(av:fv n)(aT:aR.length<1000000)(mi:∀g∈aR,g.len<=9223372036854775807)(wl:(ci n).length<1000000)(hO:jn n m aR start=none):aS B 19 [aH n,hW m,.Q .none 1 (aU cX),.Q .none 3 (aR.map bg),u start,u cap] (.bl [lB rk,u 1]):=by refine bB Tryz.func19 Tryz.ntmps19 λU=>?_;refine ch ?_;intro ea;(conv=>whnf);intro dJ;(conv=>whnf);intro sA;refine vk ?_;apply mB;apply cD;apply mB;refine ez ?_;refine .inr (af.call rfl [aH n,hW m,.Q .none 3 (aR.map bg),u start] [(4102,4102),(4001,4001)] (c8.QV rfl rfl (QU aV n m aR start av aT mi wl)) rfl ar ?_);rintro d aM I;rw[hO]at I;simp only at I;subst I;refine⟨_,E,?_⟩;apply m';refine Y.Af aL ?_;refine vl ?_;refine vl ?_;refine vl ?_;refine qS ?_;refine qS ?_;refine qS ?_;(conv=>whnf);refine⟨rfl,.inr (af.H6 rfl (rfl) ?_)⟩;refine vl ?_;refine qS ?_;refine qS ?_;(conv=>whnf);refine⟨rfl,.inr (af.H6 rfl (rfl) ?_)⟩;refine vl ?_;refine qS ?_;refine qS ?_;refine qS ?_;refine qS ?_;refine qS ?_;refine qS ?_;refine qS ?_;refine qS ?_;refine qS ?_;(conv=>whnf);refine⟨rfl,.inr (af.H6 rfl (rfl) ?_)⟩;refine aJ true rfl ?_ ?_<;>intro hc;refine jb ?_;apply Ew;refine ez ?_;exact⟨QY,E,ai⟩;cases hc
def lR(l:List eS):List atE:=l.map (·.path)
theorem aon{l:List eS}(h:i<l.length):lR (l.take (i+1))=lR (l.take i)++[l[i].path]:=by rw[lR,atN h,auo];rfl
theorem aoo(aV:dc B)(n:ad)(av:fv n):aS B 28 [aH n] (.Q .none 1 (aU (lR (ci n)))):=by refine bB Tryz.func28 Tryz.ntmps28 λU=>?_;refine ch ?_;intro dz;apply b3;refine gb ?_;refine ez ?_;refine⟨[aH n],_,λ_=>OY aV n av,ar,?_⟩;(conv=>whnf);(have nM:(ci n).length<10000000:=by have:=QZ n;unfold fv at av;omega);generalize ci n=P at*;refine Y.own 3 1000 1 9 rfl (λw=>?_);apply oN;refine Y.ed (α:={i:Nat // i<=P.length}×Value) (λx=>[(3,.Q (.own 1000 x.2) 1 (aU (lR (P.take x.1.1)))),(7,.Q .none 2 (P.map eb)),(8,u ((P.map eb).length:Nat)),(9,u x.1.1)]) (λx=>[(1000,.own x.2 (aU (lR (P.take x.1.1))).length 1 9)]) (λx=>P.length-x.1.1) (⟨0,by omega⟩,w) [(1000,1000)] ⟨ar,rfl,ba⟩ ?_;rintro⟨⟨i,hi⟩,w⟩;dsimp only at hi⊢;apply b3;apply en;refine aJ (decide ((i:Int)<((P.map eb).length:Nat))) rfl ?_ ?_<;>intro hc;apply cl;(have aE:i<P.length:=by simpa using hc);have h9:=Ju aE;have cW:=aon aE;(have m_:(aU (lR (P.take i))).length<=i:=by simp[aU,lR];omega);generalize lR (P.take i)=L at*;generalize P[i]=sq at*;refine gK ?_;refine⟨λ_=>by rw[atL];omega,?_⟩;(conv=>whnf);refine⟨eb sq,λ_=>h9,?_⟩;(conv=>whnf);intro cx;apply cD;apply kF;refine ez ?_;refine nE ?_;refine⟨by show(_+1)*16<=_;omega,by show _+1<=_;omega,atC,λgQ=>?_⟩;refine nD ?_;(have ak:aU L++[.O sq.path]=aU (lR (P.take (i+1))):=by rw[cW];simp[aU]);exact⟨(⟨i+1,aE⟩,gQ),[(1000,17)],ays,⟨aq.kd ak,E,E,E,ai⟩,rfl,rfl,kG (by rw[<-ak];simp),ai⟩;(have cg:i=P.length:=by simp at hc;omega);subst cg;rw[atW];refine qT ?_;exact aq.m7
deriving instance DecidableEq for cM
theorem aop(a b:List cM)(ha:a.length<1000000)(G:b.length<1000000):aS B 31 [.Q .none 3 (a.map bg),.Q .none 3 (b.map bg)] (.bool (a==b)):=by refine bB Tryz.func31 Tryz.ntmps31 λU=>?_;apply b3;refine gb ?_;refine aJ _ rfl ?_ ?_<;>intro hc;refine gm ?_;exact aq.of_eq (atI D.bool (Eq.symm (ayy)));apply cl;(have hlen:a.length=b.length:=by simp at hc;omega);refine nF ?_;refine Y.loop (α:={i:Nat // i<=a.length/\a.take i=b.take i}) (λx=>[(0,.Q .none 3 (a.map bg)),(1,.Q .none 3 (b.map bg)),(12,u (a.map bg).length),(13,u x.1)]) (λ_=>[]) (λx=>a.length-x.1) ⟨0,by omega,rfl⟩ ar trivial ?_;rintro⟨i,hi,xO⟩;dsimp only at hi xO⊢;apply b3;apply en;refine aJ (decide ((i:Int)<(a.map bg).length)) rfl ?_ ?_<;>intro hc;apply cl;(have aE:i<a.length:=by simpa using hc);(have w4:i<b.length:=by omega);refine kc ?_;apply b3;refine oO ?_;refine wU ?_;refine⟨bg a[i],λ_=>NH aE,?_⟩;refine wU ?_;refine⟨bg b[i],λ_=>NH w4,?_⟩;refine aJ _ rfl ?_ ?_<;>intro hc;refine gm ?_;exact aq.of_eq (atI D.bool (Eq.symm (ayy)));refine rU ?_;(have GY:a[i]=b[i]:=by generalize a[i]=x at*;generalize b[i]=y at*;obtain⟨I6,CT,asZ⟩:=x;obtain⟨ot,ql,s'⟩:=y;simp at hc;rw[hc.1,hc.2.1,hc.2.2]);exact⟨⟨i+1,aE,by rw[atN aE,atN w4,xO,GY]⟩,by show a.length-(i+1)<a.length-i;omega,ar,ai⟩;refine qT ?_;exact aq.of_eq (atI D.bool (Eq.symm (by(have cg:i=a.length:=by simp at hc;omega);rw[aue atv,aue atv]at xO;rw[xO];simp)))
theorem aoq(t:ad)(m:atE):(s9 t m<0/\pG m t.J=none)\/∃(i:Nat) (h:i<t.J.length),s9 t m=i/\pG m t.J=some t.J[i]:=by unfold s9 pG fe;cases h:t.J.findIdx? (λk=>k.name==m)with|none=>exact .inl ⟨by decide,by rw[avS]at h;rw[avi];intro x F;rw[h x F];decide⟩|some i =>obtain⟨hi,h1,z⟩:=avA.1 h;refine .inr ⟨i,hi,rfl,?_⟩;rw[List.find?_eq_some_iff_getElem];exact⟨h1,i,hi,rfl,λj Z=>by have:=z j Z;simpa using this⟩
theorem aor:aq (.agg [.O [],u 0,.O [],.O [],u 0,u 0,u 0,u 0,u 0,u 0,.bh,.bh]) (aH uG):=aq.agg (bv:=(aH uG).cells) ⟨E,E,E,E,E,E,E,E,E,E,aq.nil,aq.nil,ai⟩
theorem Z2(n:ad)(s:atE)(av:fv n)(hs:s.length<1000000000):aS B 88 [aH n,.O s] (aH (dQ n s).1):=by refine fn Tryz.func88 Tryz.ntmps88 λU=>?_;refine go ?_;intro cc;(conv=>whnf);refine cT ?_;intro cP;(conv=>whnf);refine go ?_;refine gn (λx:ad×Nat=>aB x.1+x.1.name.length<2200000/\(s=[]->x.1=n/\x.2=0)/\(s≠[]->x.2<=s.length+1/\(x.2<=s.length->ji x.1 (cN 47 [] (s.drop x.2))=ji n (cN 47 [] s))/\(x.2=s.length+1->ji n (cN 47 [] s)=some x.1))) [1,2,4] [4] (λx=>[(5,u x.2)]) (λx=>[(2,.box cc (aH x.1).cells)]) (λx=>s.length+1-x.2) (n,0) ⟨av,λ_=>⟨rfl,rfl⟩,λ_=>⟨at7 _,λ_=>rfl,λh=>by cases h⟩⟩ [(4,4),(2,2)] ?_;rintro⟨t,f⟩ ⟨ax,h0,h1⟩;dsimp only at ax h0 h1;refine go ?_;refine cb (t:=bif !(s==[])then decide ((f:Int)<=(s.length:Nat))else false) ?_ ?_<;>intro hc;(have dj:s≠[]:=by cases h:s==[]with|true=>rw[h]at hc;cases hc|false=>simpa using h);(have du:f<=s.length:=by rw[show(s==[])=false by simpa using dj]at hc;have:decide ((f:Int)<=(s.length:Nat))=true:=hc;have:=auc this;omega);obtain⟨_,z,_⟩:=h1 dj;have aa:=z du;refine go ?_;refine gn (λq:Nat=>f<=q/\q<=s.length/\cN 47 ((s.drop f).take (q-f)) (s.drop q)=cN 47 [] (s.drop f)) [1,2,4,5] [4,2] (λq=>[(6,u q)]) (λ_=>[]) (λq=>s.length+1-q) f ⟨atP _,du,by rw[aww];simp⟩ [(4,4),(2,2)] ?_;rintro q ⟨NS,NT,IU⟩;refine go ?_;(obtain⟨c,Q1⟩:∃c:UInt8,∀h:q<s.length,c=s[q]:=by by_cases h:q<s.length;exact⟨s[q],λ_=>rfl⟩;exact⟨0,λz=>absurd z h⟩);refine⟨c,λh=>⟨by omega,by(have I:q<s.length:=by have:=auc h;omega);rw[auq,atJ I,Q1 I]⟩,?_⟩;(conv=>whnf);refine go ?_;have Z3:List.drop f (List.take q s)=(s.drop f).take (q-f):=List.drop_take;refine cb (t:=bif decide ((q:Int)<(s.length:Nat))then !((c.toNat:Int)==47)else false) ?_ ?_<;>intro bw;(have lu:q<s.length:=by cases h:decide ((q:Int)<(s.length:Nat))with|true=>have:=auc h;omega|false=>rw[h]at bw;cases bw);(have Q2:s[q]≠47:=λh=>by rw[auM (by omega:(q:Int)<(s.length:Nat)),Q1 lu,h]at bw;cases bw);refine go ?_;refine eX (q+1) [(4,4),(2,2)] ⟨by omega,by omega,?_⟩;rw[<-IU,show q+1-f=(q-f)+1 by omega,atN (by rw[auS];omega),List.getElem_drop,auN lu,cN];simp only[show f+(q-f)=q by omega];rw[atG Q2];(have k2:cN 47 [] (s.drop f)=(s.drop f).take (q-f)::(if q<s.length then cN 47 [] (s.drop (q+1))else[]):=by rw[<-IU];by_cases lu:q<s.length;(have Q2:s[q]=47:=by rw[auM (by omega:(q:Int)<(s.length:Nat)),Q1 lu]at bw;(have a_:((s[q].toNat:Int)==47)=true:=by simpa using bw);(have cC:s[q].toNat=47:=by have:=eq_of_beq a_;omega);exact UInt8.toNat_inj.1 (cC.trans rfl));rw[atH lu,auN lu,cN,atH Q2];have e:s.drop q=[]:=aws atv;rw[atG lu,e,cN]);have Z4:=aeK (B:=B) t ((s.drop f).take (q-f)) (by unfold fv;omega);rw[<-Z3]at Z4;rw[<-Z3]at k2;rw[k2]at aa;refine go ?_;refine yo ?_;refine br Z4 ?_;rcases aoq t (List.drop f (List.take q s))with⟨X,M⟩|⟨i,hi,X,M⟩;refine w1 (t:=decide (s9 t (List.drop f (List.take q s))<0)) (auM X) ?_;(have KE:ji n (cN 47 [] s)=none:=by rw[<-aa,ji,M]);(have h9:(dQ n s).1=uG:=by unfold dQ;rw[atG dj,KE]);rw[h9];exact aor;rw[X];refine yp (t:=decide ((i:Int)<0)) (aug atv) ?_;rw[rV];(conv=>whnf);refine go ?_;have aos:=EN hi;have aot:=l' t;(have zu:ji t.J[i] (if q<s.length then cN 47 [] (s.drop (q+1))else[])=ji n (cN 47 [] s):=by rw[<-aa,ji,M]);refine eX (t.J[i],q+1) [(4,4),(2,2)] ⟨by dsimp only;omega,λh=>absurd h dj,λ_=>⟨by dsimp only;omega,λh=>?_,λh=>?_⟩⟩;dsimp only at h⊢;rw[atH atv]at zu;exact zu;dsimp only at h⊢;rw[atG atv]at zu;rw[<-zu];rfl;refine go ?_;(have h9:(dQ n s).1=t:=by by_cases h:s=[];rw[(h0 h).1];unfold dQ;rw[atH h];rw[show(s==[])=false by simpa using h]at hc;have dO:decide ((f:Int)<=(s.length:Nat))=false:=hc;have:=at0 dO;obtain⟨z,_,aC⟩:=h1 h;unfold dQ;rw[atG h,aC atv]);rw[h9];exact E
theorem aou(n:ad)(s:atE)(av:fv n)(hs:s.length<1000000000):aS B 55 [aH n,.O s] (.O (dQ n s).1.dB):=by have Q3:=Z2 (B:=B) n s av hs;refine fn Tryz.func55 Tryz.ntmps55 λU=>?_;refine go ?_;intro cc;(conv=>whnf);refine go ?_;refine br Q3 ?_;exact E
theorem aov(l:List cM)(p:atE)(al:l.length<1000000000):aS B 56 [.Q .none 3 (l.map bg),.O p] (u (fe (λf:cM=>f.path==p) l)):=by have m_:(l.map bg).length=l.length:=atL _;refine fn Tryz.func56 Tryz.ntmps56 λU=>?_;refine go ?_;refine gn (λi:Nat=>i<=l.length/\∀j (h:j<l.length),j<i->(l[j].path==p)=false) [0,1] [] (λi=>[(5,u i)]) (λ_=>[]) (λi=>l.length-i) 0 ⟨at7 _,λj _ h=>absurd h (avf _)⟩ [] ?_;rintro i ⟨hi,au⟩;refine go ?_;rw[m_];refine cb (t:=decide ((i:Int)<(l.length:Nat))) ?_ ?_<;>intro hc;(have c0:i<l.length:=by have:=auc hc;omega);refine go ?_;refine cb (t:=l[i].path==p) ?_ ?_<;>intro bw;refine go ?_;exact Cd (z6 (p:=λf:cM=>f.path==p) c0 au bw).symm;refine go ?_;refine eX (i+1) [] ⟨c0,λj Z h=>?_⟩;rcases at5 j i with z|z;exact au j Z z;(have:j=i:=by omega);subst this;exact bw;refine go ?_;exact Cd (z7 (p:=λf:cM=>f.path==p) λj Z=>au j Z (by have:=at0 hc;omega)).symm
theorem aow(n:ad)(av:fv n):aS B 87 [aH n] (.Q .none 1 (aU (if valid n=true then dP n [] 1 else[]))):=by by_cases W:valid n=true;rw[atH W];exact aiq n av W;rw[atG W];have aox:=Ub (B:=B) n av;refine fn Tryz.func87 Tryz.ntmps87 λU=>?_;refine go ?_;intro dz;(conv=>whnf);refine go ?_;refine br aox ?_;refine w1 (t:=!(valid n)) (by cases h:valid n with|true=>exact absurd h W|false=>rfl) ?_;exact .nil
theorem aoy(n:ad)(p:atE):Gg n p=((dQ n p).1.kind==1):=by unfold Gg dQ;split;rfl;split;rfl;rfl
theorem aoz(n:ad)(av:fv n)(au:∀p∈(if valid n=true then dP n [] 1 else[]),p.length<1000000000)(dd:(if valid n=true then dP n [] 1 else[]).length<1000000):aS B 54 [aH n] (.Q .none 1 (aU (lR (ci n)))):=by have aoA:=aow (B:=B) n av;have xp:ci n=(if valid n=true then dP n [] 1 else[]).filterMap (ie n):=rfl;rw[xp];generalize(if valid n=true then dP n [] 1 else[])=bP at*;(have fg:(aU bP).length=bP.length:=by simp[aU]);have Q4:∀i (h:i<bP.length),(aU bP)[(i:Int).toNat]?=some (.O bP[i]):=λi h=>Gh h;generalize aU bP=PL at*;refine fn Tryz.func54 Tryz.ntmps54 λU=>?_;refine go ?_;intro dz;(conv=>whnf);refine cT ?_;refine jB 1 1 12 (aH n) ?_;refine go ?_;refine br aoA ?_;refine Y.own 3 1000 1 9 rfl (λw0=>?_);refine gn (λx:Nat×Value=>x.1<=bP.length) [1,4] [] (λx=>[(3,.Q (.own 1000 x.2) 1 (aU (lR ((bP.take x.1).filterMap (ie n))))),(5,u x.1)]) (λx=>[(1000,.own x.2 (aU (lR ((bP.take x.1).filterMap (ie n)))).length 1 9)]) (λx=>bP.length-x.1) (0,w0) (at7 _) [(1000,1000)] ?_;rintro⟨i,w⟩ hi;dsimp only at hi⊢;refine go ?_;rw[fg];refine cb (t:=decide ((i:Int)<(bP.length:Nat))) ?_ ?_<;>intro hc;(have c0:i<bP.length:=by have:=auc hc;omega);have q6:=Q4 i c0;have xw:=W' (ie n) c0;have Q3:=Z2 (B:=B) n bP[i] av (au _ (atK c0));have Z5:=aoy n bP[i];have du:((bP.take i).filterMap (ie n)).length<=i:=avb (avY _ _) (by rw[at4];omega);generalize Gw:bP[i]=p at*;generalize(bP.take i).filterMap (ie n)=bA at*;(have IN:(aU (lR bA)).length=bA.length:=by simp[aU,lR]);refine go ?_;refine yo ?_;refine bH (.O p) q6 ?_;refine br Q3 ?_;refine cb (t:=(dQ n p).1.kind==1) ?_ ?_<;>intro bw;(have lI:ie n p=some ⟨p,(dQ n p).1.dB⟩:=by unfold ie;rw[Z5,bw,atH rfl]);rw[lI]at xw;refine go ?_;refine bH (.O p) q6 ?_;intro gQ;(conv=>whnf);refine go ?_;(have rM:aU (lR bA)++[.O p]=aU (lR ((bP.take (i+1)).filterMap (ie n))):=by rw[xw];simp[aU,lR]);exact eX (i+1,gQ) [(1000,28)] c0 (z:=⟨⟨E,E,aq.kd rM,ub,ai⟩,rfl,rfl,kG (by rw[<-rM,atO];rfl),ai⟩);(have lI:ie n p=none:=by unfold ie;rw[Z5,bw,atG aty]);rw[lI]at xw;refine go ?_;refine eX (i+1,w) [(1000,1000)] c0 (z:=?_);dsimp only;rw[xw,show bA++(none:Option eS).toList=bA by simp];exact⟨cH,rfl,cH⟩;(have cg:i=bP.length:=by have:=at0 hc;omega);subst cg;rw[atW];refine go ?_;exact .js _
def DD(aR:List cM)(f:eS):Bool:=bif f.data !=[]then decide (fe (λg:cM=>g.path==f.path) aR<0)else false
def jo(aR:List cM)(l:List eS):List atE:=(l.filter (DD aR)).map (·.path)
theorem aoB(aR:List cM){l:List eS}(h:i<l.length):jo aR (l.take (i+1))=jo aR (l.take i)++(if DD aR l[i]=true then[l[i].path]else[]):=by rw[jo,atN h,au5,auo,<-jo,auP];split<;>rfl
theorem Z6(aR:List cM)(l:List eS):(jo aR l).length<=l.length:=by rw[jo,atL];exact aun _ _
theorem aoC(n:ad)(aR:List cM)(av:fv n)(aT:aR.length<1000000)(au:∀p∈(if valid n=true then dP n [] 1 else[]),p.length<1000000000)(dd:(if valid n=true then dP n [] 1 else[]).length<1000000): aS B 18 [aH n,.Q .none 3 (aR.map bg)] (.Q .none 1 (aU (jo aR (ci n)))):=by have aoD:=aoz (B:=B) n av au dd;(have v_:∀f∈ci n,(dQ n f.path).1.dB=f.data/\f.path.length<1000000000:=λf M=>by obtain⟨p,yR,uy⟩:=awm.1 M;unfold ie at uy;split at uy;cases uy;exact⟨rfl,au p yR⟩;cases uy);(have du:(ci n).length<1000000:=by have:(ci n).length<=(if valid n=true then dP n [] 1 else[]).length:=avY _ _;omega);generalize ci n=bW at*;(have fg:(aU (lR bW)).length=bW.length:=by simp[aU,lR]);(have Q4:∀i (h:i<bW.length),(aU (lR bW))[(i:Int).toNat]?=some (.O bW[i].path):=λi h=>by rw[auq];simp[aU,lR,h]);generalize aU (lR bW)=PL at*;refine fn Tryz.func18 Tryz.ntmps18 λU=>?_;refine go ?_;intro cc;(conv=>whnf);refine cT ?_;refine jB 2 2 12 (aH n) ?_;refine go ?_;refine br aoD ?_;refine Y.own 5 1000 1 9 rfl (λw0=>?_);refine gn (λx:Nat×Value=>x.1<=bW.length) [1,2,6] [] (λx=>[(5,.Q (.own 1000 x.2) 1 (aU (jo aR (bW.take x.1)))),(7,u x.1)]) (λx=>[(1000,.own x.2 (aU (jo aR (bW.take x.1))).length 1 9)]) (λx=>bW.length-x.1) (0,w0) (at7 _) [(1000,1000)] ?_;rintro⟨i,w⟩ hi;dsimp only at hi⊢;refine go ?_;rw[fg];refine cb (t:=decide ((i:Int)<(bW.length:Nat))) ?_ ?_<;>intro hc;(have c0:i<bW.length:=by have:=auc hc;omega);have q6:=Q4 i c0;have KM:=aoB aR c0;have pp:=Z6 aR (bW.take i);rw[at4]at pp;obtain⟨N,aoE⟩:=v_ _ (atK c0);have Z7:=aou (B:=B) n bW[i].path av aoE;have aoF:=aov (B:=B) aR bW[i].path atv;rw[N]at Z7;have Z8:DD aR bW[i]=bif bW[i].data !=[]then decide (fe (λg:cM=>g.path==bW[i].path) aR<0)else false:=rfl;generalize bW[i]=f at*;generalize fe (λg:cM=>g.path==f.path) aR=fV at*;generalize jo aR (bW.take i)=bA at*;(have IN:(aU bA).length=bA.length:=by simp[aU]);refine go ?_;refine yo ?_;refine bH (.O f.path) q6 ?_;refine br Z7 ?_;refine bH (.O f.path) q6 ?_;refine br aoF ?_;refine cb (t:=bif f.data !=[]then decide (fV<0)else false) ?_ ?_<;>intro bw;rw[Z8,bw,atH rfl]at KM;refine go ?_;refine bH (.O f.path) q6 ?_;intro gQ;(conv=>whnf);refine go ?_;(have rM:aU bA++[.O f.path]=aU (jo aR (bW.take (i+1))):=by rw[KM];simp[aU]);exact eX (i+1,gQ) [(1000,38)] c0 (z:=⟨⟨E,E,E,aq.kd rM,ub,ai⟩,rfl,rfl,kG (by rw[<-rM,atO];rfl),ai⟩);rw[Z8,bw,atG aty,auK]at KM;refine go ?_;refine eX (i+1,w) [(1000,1000)] c0 (z:=?_);dsimp only;rw[KM];exact⟨cH,rfl,cH⟩;(have cg:i=bW.length:=by have:=at0 hc;omega);subst cg;rw[atW];refine go ?_;exact .js _
def tA(n:ad)(m:e2)(cX:List atE)(aR:List cM):Bool:=bif bif bif pA n 100000 then Iy m else false then decide ((cX.length:Int)<=50)else false then decide ((aR.length:Int)<=50)else false
theorem aoG(n:ad)(m:e2)(cX:List atE)(aR:List cM)(av:fv n)(hm:m.name.length+m.set.length+m.pr.length+m.ps.length+m.l9.length<1000000000):aS B 27 [aH n,hW m,.Q .none 1 (aU cX),.Q .none 3 (aR.map bg)] (.bool (tA n m cX aR)):=by have aoH:=aeJ (B:=B) n 100000 av;have sW:=ad' (B:=B) m hm;(have gJ:(aU cX).length=cX.length:=by simp[aU]);have w7:(aR.map bg).length=aR.length:=atL _;refine fn Tryz.func27 Tryz.ntmps27 λU=>?_;refine go ?_;intro cP;(conv=>whnf);refine cT ?_;intro cx;(conv=>whnf);refine go ?_;refine br aoH ?_;refine br sW ?_;rw[gJ,w7];exact E
end Go.bS.cp
namespace Go.Proofs
end Go.Proofs
namespace Go.bS.cp
open Go Go.Proofs Go.RowKit Go.bS Go.Sort
variable{B:World}
theorem KN:∀l:List atE,b1 (l.map D.O)=l.map D.O
 |[]=>rfl
 |x::r=>by have:=KN r;simp only[b1]at this⊢;rw[aum,auJ,this];rfl
variable{w:World}{C:Nat->Nat}{nh:Value}
theorem Z9{l:List atE}(h:bf w C (.Q .none 1 (l.map D.O)) nh):fP.E4 w.heap.size w nh l:=by rcases h.kz with⟨h0,⟨a,rfl⟩,_⟩|⟨b,o,cap,g,rfl,_,bi,_,_,_,_,gd,_,eO⟩;exact .inl ⟨⟨a,rfl⟩,by simpa using h0⟩;refine .inr ⟨b,o,cap,by rw[atL],bi,λj Z=>?_⟩;(have N:(b1 (l.map D.O))[j]?=some (.O l[j]):=by rw[KN,aud,atJ Z];rfl);rw[gd j _ N,(eO j _ N).kw,atJ Z];rfl
theorem Z_(args:Array Value)(w:World):(callFunc 93 args).run Tryz.prog w=.ok (.enter 93 args) w:=by
 have mu : (Tryz.f93.name == "runtime.NumGoroutine") = false := by decide +kernel
 have G:Tryz.f93.body.isNone=false:=rfl;simp only[callFunc,run_program,Sem.run_bind,Result.andThen_ok,Tryz.func93,mu,G,auR,avq,Sem.run_pure]
theorem aoI(l:List atE)(al:l.length<=1000000):m0 Tryz.prog B 91 [.fn (.func 93) [] [.a7 1 [.Q .none 1 (l.map D.O)] 0 0]] (.Q .none 1 (l.map D.O)):=by
 refine⟨⟨_,Tryz.func91,rfl,by decide +kernel⟩,λw C args G kZ=>?_⟩
 obtain⟨v,rfl⟩:∃v,args=[v]:=by
  cases args with
  |nil=>exact absurd kZ.1 atx
  |cons v r=>cases r with
   |nil=>exact⟨v,rfl⟩
   |cons _ _=>exact absurd kZ.1 atx
 obtain⟨fK,hp,rfl,h1,z⟩:=(kZ.2 0 _ v rfl rfl).u9;obtain rfl:fK=[]:=atY h1.1.symm
 obtain⟨p,rfl⟩:∃p,hp=[p]:=by
  cases hp with
  |nil=>exact absurd z.1 atx
  |cons v r=>cases r with
   |nil=>exact⟨v,rfl⟩
   |cons _ _=>exact absurd z.1 atx
 have au:=z.2 0 _ p rfl rfl
 cases au with
 |a7 _ _ _ _ b o cap h =>
  rcases h.kz with⟨h0,_⟩|⟨eh,bI,h6,g,W,_,bi,_,_,_,_,gd,_,eO⟩
  ·cases h0
  injection W with bT _ _
  injection bT with bT
  injection bT with bT b0 _
  subst bT;subst b0
  have hS:w.cell? ⟨b,o,none⟩=some (g 0):=gd 0 _ rfl;have Q5:=fP.TI Fence.wide 8 trivial rfl atv b o w.heap.size (g 0) l atv w bi (atP _) hS (Z9 (eO 0 _ rfl));have hc:=fP.TM Tryz.laysCol Fence.wide 10 trivial trivial rfl atv 93 #[.pointer (some ⟨b,o,none⟩)] trivial Z_ (λa'=>a'=l) (λpre=>pre <+: l) l.length (by simp only[maxLen];omega) atv w Q5;refine(callsIn_wide.1 hc).mono λe w' ⟨v,cE,ak,hs,dN,pW,eJ⟩=>?_;subst hs
  have jw:∀D:Nat,n0 w C w' (λx=>if x<w.heap.size then C x else D):=λD =>
   ⟨eJ.size,λx F=>by simp only[F,auT];exact atP _,λx o F ag=>by simp only[World.cell?,eJ.block x F]⟩
  refine⟨v,λx=>if x<w.heap.size then C x else cE.length,ak,?_,⟨jw _,eJ.os,eJ.tape,eJ.output,λx F _=>⟨eJ.block x F,by simp only[F,auT]⟩⟩⟩;rcases dN.2 with⟨rfl,h0⟩|⟨GZ,cap,fx,rfl,pZ,G0,jg,ki,k_,nj⟩
  ·have:cE=[]:=atY h0;subst this;exact .jr _ _ none trivial
  have:=x2 (w:=w') (C:=λx=>if x<w.heap.size then C x else cE.length) (tg:=.none) (k:=1) (xs:=cE.map D.O) (vs:=fx.toList) (b:=GZ) (cap:=cap) G0 (λx F=>by obtain⟨_,_,rfl⟩:=at3.1 F;rfl) (by rw[atL];exact jg) ki
   (by rw[atG atv,atL];omega)
   (λj d N=>by
    rw[KN,aud]at N
    cases F:cE[j]? with
    |none=>rw[F]at N;cases N
    |some x =>
     rw[F]at N;cases N
     have Z:j<cE.length:=(aui.1 F).1;have G1:(fx.toList.take (cE.length*1))[j]?=some (encStr x):=by rw[nj,aud,F];rfl
     rw[auB,atH atv]at G1
     exact⟨_,G1,.O x,rfl⟩) trivial
  rw[atL]at this;exact this
theorem aoJ(l:List atE)(al:l.length<=1000000):c8 Tryz.prog B 91 [.fn (.func 93) [] [.a7 1 [.Q .none 1 (l.map D.O)] 0 0]] bF.none λd aM=>∃v,d=.an v/\aM=aK [(2000,.row v (l.map D.O) 1 9)]:=by
 refine⟨⟨_,Tryz.func91,rfl,by decide +kernel⟩,λw C args Ft G qQ hH kZ=>?_⟩
 obtain⟨v,rfl⟩:∃v,args=[v]:=by
  cases args with
  |nil=>exact absurd kZ.1 atx
  |cons v r=>cases r with
   |nil=>exact⟨v,rfl⟩
   |cons _ _=>exact absurd kZ.1 atx
 obtain⟨fK,hp,rfl,h1,z⟩:=(kZ.2 0 _ v rfl rfl).u9;obtain rfl:fK=[]:=atY h1.1.symm
 obtain⟨p,rfl⟩:∃p,hp=[p]:=by
  cases hp with
  |nil=>exact absurd z.1 atx
  |cons v r=>cases r with
   |nil=>exact⟨v,rfl⟩
   |cons _ _=>exact absurd z.1 atx
 have au:=z.2 0 _ p rfl rfl
 cases au with
 |a7 _ _ _ _ b o cap h =>
  rcases h.kz with⟨h0,_⟩|⟨eh,bI,h6,g,W,_,bi,_,_,_,_,gd,_,eO⟩
  ·cases h0
  injection W with bT _ _
  injection bT with bT
  injection bT with bT b0 _
  subst bT;subst b0
  have hS:w.cell? ⟨b,o,none⟩=some (g 0):=gd 0 _ rfl;have Q5:=fP.TI Fence.wide 8 trivial rfl atv b o w.heap.size (g 0) l atv w bi (atP _) hS (Z9 (eO 0 _ rfl));have hc:=fP.TM Tryz.laysCol Fence.wide 10 trivial trivial rfl atv 93 #[.pointer (some ⟨b,o,none⟩)] trivial Z_ (λa'=>a'=l) (λpre=>pre <+: l) l.length (by simp only[maxLen];omega) atv w Q5;refine(callsIn_wide.1 hc).mono λe w' ⟨v,cE,ak,hs,dN,pW,eJ⟩=>?_;subst hs
  have jw:n0 w C w' (λx=>if x<w.heap.size then C x else 0) :=
   ⟨eJ.size,λx F=>by simp only[F,auT];exact atP _,λx o F ag=>by simp only[World.cell?,eJ.block x F]⟩
  have ef:∀x,(aI.row v (cE.map D.O) 1 9).ec x->w.heap.size<=x:=λx F=>by
   obtain⟨n,c,aa,aC⟩:=F;rcases dN.2 with⟨rfl,h0⟩|⟨GZ,cap,fx,rfl,pZ,G0,jg,ki,k_,nj⟩
   ·cases aa
   injection aa with aa;injection aa with aa;injection aa with aa;omega
  refine⟨v,.an v,λx=>if x<w.heap.size then C x else 0,aK [(2000,.row v (cE.map D.O) 1 9)],ak,⟨v,rfl,rfl⟩,.an v,⟨jw,eJ.os,eJ.tape,eJ.output,λx F _=>⟨eJ.block x F,by simp only[F,auT]⟩⟩,?_⟩
  have only:∀j o,aK [(2000,aI.row v (cE.map D.O) 1 9)] j=some o->j=2000/\o=.row v (cE.map D.O) 1 9:=λj o ag=>by
   simp only[aK]at ag
   cases G:Nat.beq j 2000 with
   |true=>rw[G]at ag;exact⟨avJ G,by simpa using ag.symm⟩
   |false=>rw[G]at ag;simp at ag
  refine⟨λj o ag=>?_,λj eu o bI x aX h1 z _ _=>absurd ((only j o h1).1.trans (only eu bI z).1.symm) aX,λj o x ag ao=>?_⟩
  ·obtain⟨_,rfl⟩:=only j o ag;rcases dN.2 with⟨rfl,h0⟩|⟨GZ,cap,fx,rfl,pZ,G0,jg,ki,k_,nj⟩
   ·have:cE=[]:=atY h0;subst this;exact⟨none,0,rfl,atP _,at7 _,λx F=>(by cases F),λdF gg=>(by cases gg),λh=>absurd h atx⟩
   refine⟨_,cap,by rw[atL],by rw[atL];exact jg,ki,λx F=>by obtain⟨_,_,rfl⟩:=at3.1 F;rfl,λdF gg=>⟨GZ,by cases gg;rfl,(avu.1 G0).1⟩,λ_=>⟨GZ,fx,rfl,G0,k_,?_,λj d N=>?_⟩⟩
   ·exact atG atv
   rw[KN,aud]at N
   cases F:cE[j]? with
   |none=>rw[F]at N;cases N
   |some x =>
    rw[F]at N;cases N
    have Z:j<cE.length:=(aui.1 F).1;have G1:(fx.toList.take (cE.length*1))[j]?=some (encStr x):=by rw[nj,aud,F];rfl
    rw[auB,atH atv]at G1;exact⟨_,by simpa using G1,.O x,rfl⟩
  obtain⟨_,rfl⟩:=only j o ag;exact .inr (ef x ao)
end Go.bS.cp
namespace Go.Proofs
end Go.Proofs
namespace Go.bS.cp
open Go Go.Proofs Go.RowKit Go.Sort Go.Lib
variable{B:World}
def uZ(l:List atE):List D:=l.map D.O
def mW(L:List atE):List atE:=L.mergeSort λx y=>decide (x<=y)
variable{c9:aI}{s:Nat}
theorem KO{a:Nat}{o:aI}(h:aK [(a,c9)] s=some o):s=a/\o=c9:=axB
theorem aoK(L:List atE)(v:Value)(h0:0<L.length)(al:L.length<1000000):
  c8 Tryz.prog B 92 [.an v] (aK [(2000,.row v (uZ L) 1 9)]) λd aM=>d=.bl []/\aM=aK [(2000,.row v (uZ (mW L)) 1 9)]:=by
 refine⟨⟨_,Tryz.func92,rfl,by decide +kernel⟩,λw C args Ft pZ qQ hH ae=>?_⟩;obtain⟨nM,ae⟩:=ae
 match args,nM with
 |[a0],_ =>
  have h1:=(ae 0 _ a0 rfl rfl).fL;subst h1;have dN:kx w C a0 (uZ L) 1 9:=hH.b' 2000 _ rfl;have fg:∀ap:List atE,(uZ ap).length=ap.length:=λap=>by simp[uZ]
  obtain⟨b,cap,vs,W,hc,hm,X,G,fM,c6,hcells⟩:=kx.pos dN (i:=0) (by rw[fg];exact h0);have hcap:0<cap:=by rw[fg]at hc;omega
  have ef:∀ap:List atE,∀x∈uZ ap,x.cells=[x]:=λap x F=>by obtain⟨y,_,rfl⟩:=at3.1 F;rfl
  rw[rO (ef L)]at hcells
  have Fs:=Any.slices_Sort_string Tryz.lays190 b 0 cap L w (λj Z=>by
    have gl:j<L.length:=by simpa using Z
    obtain⟨V,a_,cC,_⟩:=hcells j (.O L[j]) (by simp[uZ,gl]);refine⟨?_,by simp[World.frozen?,G]⟩;have aT:L.toArray[j]! = L[j]:=by simp[gl]
    rw[aT];simp only[World.cell?,G,aut]
    simp[a_,cC.kw,encStr]) (hR G) atv
  subst W;rw[fg]at dN⊢;have eK:∀(xs:List D),aI.ec (.row (.slice (some ⟨b,0,none⟩) L.length cap) xs 1 9) b:=λxs=>⟨_,cap,rfl,hcap⟩;have uo:=hH.cJ 2000 _ b rfl ⟨_,cap,rfl,hcap⟩;refine Fs.mono ?_;rintro e w' ⟨rfl,m,os,rfl⟩;have Jq:(mW L).length=L.length:=awz _;have aZ:=c7.IF encStr w C b 0 m (mW L).toArray os c6;refine⟨.tuple #[],.bl [],C,_,rfl,⟨rfl,rfl⟩,.bl [] [] rfl (λi d v N _=>by simp at N),?_,⟨λs o ag=>?_,λs bp o bI x aX h1 z ao cS=>?_,λs o x ag ao=>?_⟩⟩
  ·exact⟨aZ.ext,aZ.os,aZ.tape,aZ.output,λx F bJ=>aZ.iE x F λe=>by subst e;exact bJ uo⟩
  ·obtain⟨rfl,rfl⟩:=KO ag
   refine⟨some ⟨b,0,none⟩,cap,by rw[fg,Jq],by rw[fg]at hc⊢;omega,hm,λx F=>by rw[ef _ x F];rfl,λdF gg=>⟨b,by cases gg;rfl,auy (hR G) aZ.ext.size⟩,
    λ_=>⟨b,_,rfl,IE _ _ _ _ _ _ _ G,ayA,c6,λj d N=>?_⟩⟩
   rw[rO (ef _)]at N;have Z:j<(mW L).length:=by have:=e8 N;rwa [fg]at this
   have AC:j<vs.size:=by rw[fg]at hc;simp at fM;omega
   have Fu:d=.O (mW L)[j]:=by simp[uZ,Z]at N;exact N.symm
   subst Fu;refine⟨encStr (mW L)[j],?_,.O _,rfl⟩;have lD:j<(mW L).toArray.size:=by simpa using Z
   simp only[putCells,awA,avd AC,au8,at7,true_and,aut,lD,auT,Nat.sub_zero];show some (if j<(mW L).toArray.size then encStr ((mW L).toArray[j]!)else vs[j])=_;rw[atH lD,getElem!_pos (mW L).toArray j lD];rfl
  ·obtain⟨rfl,_⟩:=KO h1;obtain⟨rfl,_⟩:=KO z;exact aX rfl
  obtain⟨rfl,rfl⟩:=KO ag;obtain⟨h5,vg,fZ,_⟩:=ao;have:=pa fZ;subst this
  exact .inl uo
end Go.bS.cp
namespace Go.bS
open Go Go.RowKit
variable{P:Program}{B:World}{am:Nat}{U:b7 P B am}{K:cK->aw->Prop}
end Go.bS
namespace Go.bS.cp
open Go Go.Proofs
variable{B:World}{f:FuncId}{ds:List D}{a6:D->bF->Prop}{k s:Nat}
theorem c8.ti{H:bF}(h:H s=none)(hc:cV B f ds bF.none a6):cV B f ds (gA H [(k,s)]) a6:=by(have e:gA H [(k,s)]=bF.none:=by funext j;simp only[gA,bF.none];cases Nat.beq j k with|true=>exact h|false=>rfl);rw[e];exact hc
theorem aoL(xs:List D):aS B 59 [.Q .none 1 xs] (.fn (.func 93) [] [.a7 1 [.Q .none 1 xs] 0 0]):=by refine bB Tryz.func59 Tryz.ntmps59 λU=>?_;refine ch ?_;intro dz;(conv=>whnf);refine Y.BZ 1 1 (.Q .none 1 xs) rfl rfl rfl rfl ?_;refine gm ?_;exact E
theorem aoM(l:List atE)(h0:0<l.length)(al:l.length<1000000):aS B 58 [.fn (.func 93) [] [.a7 1 [.Q .none 1 (uZ l)] 0 0]] (.Q .none 1 (uZ (mW l))):=by refine bB Tryz.func58 Tryz.ntmps58 λU=>?_;apply b3;refine qU ?_;refine .inr (af.call rfl [.fn (.func 93) [] [.a7 1 [.Q .none 1 (l.map D.O)] 0 0]] [(2000,70)] (c8.ti rfl (aoJ l atv)) rfl ar ?_);rintro d aM ⟨v,rfl,rfl⟩;refine⟨_,E,?_⟩;refine qU ?_;refine .inr (af.call rfl [.an v] [(2000,70)] (c8.aea rfl (aoK l v h0 al)) rfl ar ?_);rintro d aM ⟨rfl,rfl⟩;refine rT ?_;refine Y.fd [(3,.an v)] [(70,.row v (uZ (mW l)) 1 9)] [(70,70)] ⟨ar,rfl,ba⟩ ?_;refine Y.vv 70 3 rfl ?_;refine gm ?_;exact E
def Z'(s:atE):atE:=(([5]++[oR (IntKind.wrap .u8 ((ta s).1.length:Nat))])++[0,0])++(ta s).1
def ry(cm s:atE):atE :=
 if(s==[])=true then cm else if(s==[46])=true then cm++[4,0,0,0]else if(s==[46,46])=true then cm++[3,0,0,0]else cm++Z' s
def xP(t:atE):atE:=if[47].isPrefixOf t=true then[2,0,0,0]else[]
def rz(t:atE):atE:=if[47].isPrefixOf t=true then t.drop 1 else t
def DE(t:atE):atE:=(cN 47 [] (rz t)).foldl ry (xP t)
theorem aoN(cm s:atE):(ry cm s).length<=cm.length+131077:=by have:=NQ s;unfold ry;split;omega;split;simp;split;simp;simp only[Z',atO,atQ,auf];omega
theorem KP(t:atE):∀(l:List atE) (o:atE),(l.foldl ry o).length<=o.length+l.length*131077
 |[],o=>by simp
 |s::r,o=>by have h1:=KP t r (ry o s);have z:=aoN o s;rw[avj,atQ,avR];omega
theorem Q6(t:atE):(rz t).length<=t.length:=by unfold rz;split;rw[auS];omega;omega
theorem Q7(t:atE):(xP t).length<=4:=by unfold xP;split<;>simp
variable{i:Nat}
theorem aoO{l:List atE}(h:i<l.length)(o:atE):(l.take (i+1)).foldl ry o=ry ((l.take i).foldl ry o) l[i]:=by rw[atN h,auU];rfl
theorem aoP(n:Int):[D.int .u8 (IntKind.wrap .u8 n)]=([oR (IntKind.wrap .u8 n)]).map λc=>D.int .u8 c.toNat:=yB [IntKind.wrap .u8 n] λm hm=>by
 rw[auv]at hm;subst hm;exact NP n
theorem aoQ(aV:dc B)(t:atE)(ax:t.length<1000000):aS B 269 [.O t] (.O (DE t)):=by refine bB Tryz.func269 Tryz.ntmps269 λU=>?_;refine pf ?_;refine Y.l0 (α:=Unit) (λx=>[(0,.O (rz t)),(3,.O (xP t))]) (λx=>[]) ?_ ?_;refine go ?_;refine br (acC t [47]) ?_;refine aJ ([47].isPrefixOf t) rfl ?_ ?_<;>intro hc;refine Y.vf aL mixed atA ?_;refine go ?_;(have au:1<=t.length:=by cases t with|nil=>cases hc|cons a r=>simp);refine⟨λ_=>by omega,?_⟩;refine go ?_;exact⟨(),[],⟨aq.of_eq (atI D.O (by rw[rz,atH hc,auq,atW];rfl)),aq.of_eq (atI D.O (by rw[xP,atH hc])),ai⟩,rfl,ai⟩;refine go ?_;exact⟨(),[],⟨aq.of_eq (atI D.O (by rw[rz,atG (by rw[hc];decide)])),aq.of_eq (atI D.O (by rw[xP,atG (by rw[hc];decide)])),ai⟩,rfl,ai⟩;rintro⟨⟩;have ae:=Q6 t;have ag:=Q7 t;refine go ?_;refine br (It aV (rz t) 47 atv) ?_;have dd:=(s6 (c:=47) (rz t) []).1;have yR:=(s6 (c:=47) (rz t) []).2;unfold DE;generalize cN 47 [] (rz t)=P at*;generalize xP t=dH at*;refine go ?_;refine Y.loop (α:={i:Nat // i<=P.length}) (λx=>[(3,.O ((P.take x.1).foldl ry dH)),(13,.Q .none 1 (aU P)),(14,u ((aU P).length:Nat)),(15,u x.1)]) (λ_=>[]) (λx=>P.length-x.1) ⟨0,by omega⟩ ⟨E,aq.js _,E,E,ai⟩ trivial ?_;rintro⟨i,hi⟩;dsimp only at hi⊢;refine go ?_;refine aJ (decide ((i:Int)<((aU P).length:Nat))) rfl ?_ ?_<;>intro hc;apply cl;(have aE:i<P.length:=by simpa[aU]using hc);have gJ:=KP t (P.take i) dH;rw[at4,awn hi]at gJ;have cW:=aoO aE dH;generalize lG:(P.take i).foldl ry dH=bA at*;generalize hs:P[i]=s at*;refine gK ?_;refine⟨λ_=>by simp[aU];omega,?_⟩;refine go ?_;refine⟨.O s,λ_=>by simp[aU,aE,hs],?_⟩;refine go ?_;refine aJ (s==[]) rfl ?_ ?_<;>intro eZ;refine go ?_;exact⟨⟨i+1,aE⟩,ays,⟨aq.of_eq (atI D.O (by rw[cW,ry,atH eZ])),E,E,E,ai⟩,ai⟩;refine go ?_;refine aJ (s==[46]) rfl ?_ ?_<;>intro bw;refine nc ?_;refine nb ?_;exact⟨⟨i+1,aE⟩,ays,⟨aq.of_eq (atI D.O (by rw[cW,ry,atG (by rw[eZ];decide),atH bw])),E,E,E,ai⟩,ai⟩;refine go ?_;refine aJ (s==[46,46]) rfl ?_ ?_<;>intro dO;refine nc ?_;refine nb ?_;exact⟨⟨i+1,aE⟩,ays,⟨aq.of_eq (atI D.O (by rw[cW,ry,atG (by rw[eZ];decide),atG (by rw[bw];decide),atH dO])),E,E,E,ai⟩,ai⟩;apply en;(have fg:s.length<1000000000:=by have:=yR s (hs ▸ atK aE);rw[auf]at this;omega);have im:=NQ s;refine nc ?_;refine⟨[.O s],_,λ_=>Vf aV s fg,ar,?_⟩;(conv=>whnf);refine Y.Ek aL ?_;refine oc ?_;refine .inr ?_;(conv=>whnf);refine pe ?_;refine .inr (af.vi aL (aP:=[oR (IntKind.wrap .u8 ((ta s).1.length:Nat))]) (tg:=.dU) rfl rfl rfl rfl rfl rfl (atI (D.Q .dU 1) (aoP _)) ?_);refine wU ?_;refine p6 ?_;refine p6 ?_;refine nb ?_;exact⟨⟨i+1,aE⟩,ays,⟨aq.of_eq (atI D.O (by rw[cW,ry,atG (by rw[eZ];decide),atG (by rw[bw];decide),atG (by rw[dO];decide)];rfl)),E,E,E,ai⟩,ai⟩;refine go ?_;(have cg:i=P.length:=by simp[aU]at hc;omega);exact ayo
theorem aoR(t:atE)(ax:t.length<1000000):(DE t).length<132000000000:=by have h1:=KP t (cN 47 [] (rz t)) (xP t);have z:=(s6 (c:=47) (rz t) []).1;have aa:=Q6 t;have aC:=Q7 t;unfold DE;omega
def Bo(s:atE):Int:=(uu s false false).1
def u2(l:List ad):Int:=l.foldl (λm k=>m+Bo k.name) (uu [] true true).1
def zv(n:ad):Int:=if n.kind=2 then((DE n.target).length:Nat)else u2 n.J
theorem KQ(s:atE)(d p:Bool):0<=(uu s d p).1/\(uu s d p).1<131200:=by have:=Vh s d p;unfold uu;split;simp only[NO];rw[atX atv];omega;simp
theorem Q8:∀(l:List ad) (m:Int),0<=m->0<=l.foldl (λm k=>m+Bo k.name) m/\l.foldl (λm k=>m+Bo k.name) m<=m+131200*(l.length:Nat)
 |[],m,h=>by simp;exact h
 |k::r,m,h=>by have h1:=KQ k.name false false;have z:=Q8 r (m+Bo k.name) (by unfold Bo;omega);rw[avj,atQ];unfold Bo at*;omega
theorem aoS{l:List ad}(h:i<l.length):u2 (l.take (i+1))=u2 (l.take i)+Bo l[i].name:=by rw[u2,u2,atN h,auU];rfl
theorem aaa(l:List ad)(i:Nat)(h:l.length<1000000):0<=u2 (l.take i)/\u2 (l.take i)<131200*1000002:=by
 have h1:=KQ [] true true;have z:=Q8 (l.take i) (uu [] true true).1 h1.1;have aa:(l.take i).length<=l.length:=by rw[at4];omega
 unfold u2;omega
theorem aoT(n:ad)(X:n.J.length<1000000)(ax:n.target.length<1000000):0<=zv n/\zv n<132000000000:=by have h1:=aoR n.target ax;have z:=aaa n.J n.J.length X;rw[atW]at z;unfold zv;split<;>omega
theorem aoU(aV:dc B)(n:ad)(X:n.J.length<1000000)(ax:n.target.length<1000000)(nk:∀k∈n.J,k.name.length<1000000000):aS B 210 [aH n] (u (zv n)):=by refine bB Tryz.func210 Tryz.ntmps210 λU=>?_;refine go ?_;intro dz;refine go ?_;refine aJ (n.kind==2) rfl ?_ ?_<;>intro hc;refine go ?_;refine br (aoQ aV n.target ax) ?_;rw[zv,atH (by simpa using hc)];exact E;refine go ?_;rw[zv,atG (by simpa using hc)];refine go ?_;refine br (Vi aV [] true true aty) ?_;refine Y.ed (α:={i:Nat // i<=n.J.length}) (λx=>[(3,u (u2 (n.J.take x.1))),(22,.Q .none 12 (n.J.map enc)),(23,u ((n.J.map enc).length:Nat)),(24,u x.1)]) (λ_=>[]) (λx=>n.J.length-x.1) ⟨0,by omega⟩ [] ⟨ar,rfl,ai⟩ ?_;rintro⟨i,hi⟩;dsimp only at hi⊢;refine go ?_;refine aJ (decide ((i:Int)<((n.J.map enc).length:Nat))) rfl ?_ ?_<;>intro hc;apply cl;(have aE:i<n.J.length:=by simpa using hc);have ae:=aaa n.J i X;have cW:=aoS aE;have f':=nk _ (atK aE);(have h9:(n.J.map enc)[i]?=some (aH n.J[i]):=by simp[aE,rV]);have l1:=KQ n.J[i].name false false;generalize gc:u2 (n.J.take i)=S at*;refine gK ?_;refine⟨λ_=>by rw[atL];omega,?_⟩;(conv=>whnf);refine⟨aH n.J[i],λ_=>h9,?_⟩;refine go ?_;intro ea;refine go ?_;refine br (Vi aV n.J[i].name false false f') ?_;exact⟨⟨i+1,aE⟩,[],ayi,⟨aq.of_eq (atI (D.int .i64) cW.symm),E,E,E,ai⟩,rfl,ai⟩;refine go ?_;(have cg:i=n.J.length:=by simp at hc;omega);exact ayo
structure aab where
 kind:Int
 node:Int
 oC:Int
 first:Int
 jf:Int
def gI(x:aab):D:=.agg [u x.kind,u x.node,u x.oC,u x.first,u x.jf]
structure li where
 dG:List aab
 count:Int
def eY(s:li)(kind node oC aac:Int):li:=⟨s.dG++[⟨kind,node,oC,s.count,k' aac⟩],s.count+(1+k' aac)⟩
def pL(co:Nat)(dx dS:Value)(s:li):List (Nat×aI):=[(210,.box co [.an dx,.Q (.own 211 dS) 5 (s.dG.map gI),u s.count]),(211,.own dS s.dG.length 5 358)]
theorem Q9{n:Int}(h0:0<=n)(h1:n<1000000000000):0<=k' n/\k' n<1000000000:=by unfold k';split;omega;unfold kj;rw[atX atv];omega
theorem Q_(co:Nat)(dx dS:Value)(s:li)(kind node oC c:Int)(h0:0<=c)(h1:c<1000000000000)(al:s.dG.length<100000000)(hS:0<=s.count)(eZ:s.count<1000000000000000000):cV B 211 [.box 210 co 0,u kind,u node,u oC,u c] (aK (pL co dx dS s)) λd aM=>d=.bl []/\∃aoV,aM=aK (pL co dx aoV (eY s kind node oC c)):=by refine jW Tryz.func211 Tryz.ntmps211 λU=>?_;have my:=Q9 h0 h1;refine go ?_;have XC:=U9 (B:=B) c h0 h1;refine' eR (α:=Nat) [(210,.box co [.an dx,.Q (.own 211 dS) 5 (s.dG.map gI),u s.count]),(211,.own dS s.dG.length 5 358)] 0 (λmL=>[_,_,_,_,_,_,_,_,u (k' c),_,.box 10 mL 0,.any]) (λmL=>[(10,10,some (.box mL [u 0,u 0,u 0,u 0,u 0])),(11,10,some (.box mL [u kind,u node,u oC,u s.count,u (k' c)]))]) [0,0,0,0,8,24,56,0,128,511,0,2047] [(10,10),(11,10)] ?_ ?_;rotate_left 9;refine dC ?_;refine wS ?_;exact trivial;intro mL;(conv=>whnf);refine Y.fd [(0,.box 210 co 0),(1,u kind),(2,u node),(3,u oC),(4,u c),(10,.box 10 mL 0)] [(210,.box co [.an dx,.Q (.own 211 dS) 5 (s.dG.map gI),u s.count]),(211,.own dS s.dG.length 5 358),(10,.box mL [u kind,u node,u oC,u s.count,u (k' c)])] [(210,210),(211,211),(10,10)] ⟨cH,rfl,cH⟩ ?_;refine go ?_;refine' eR (α:=Value) [(210,.box co ([.an dx,.Q (.own 211 dS) 5 (s.dG.map gI),u s.count])),(10,.box mL [u kind,u node,u oC,u s.count,u (k' c)]),(211,.own dS s.dG.length 5 358)] Value.nilFunc (λy=>[_,_,_,_,_,_,_,.Q (.own 28 y) 5 (s.dG.map gI++[D.agg [u kind,u node,u oC,u s.count,u (k' c)]]),_,_,.any]) (λy=>[(7,211,none),(7,28,some (.own y (((s.dG.map gI).length+([.agg [u kind,u node,u oC,u s.count,u (k' c)]]:List D).length)) 5 358)),(10,210,some (.box co ([.an dx,.Q (.own 28 y) 5 (s.dG.map gI++[D.agg [u kind,u node,u oC,u s.count,u (k' c)]]),u s.count])))]) [0,0,2,6,14,0,32,126,255,511,1023] [(7,211),(7,28),(10,210)] ?_ ?_;rotate_left 9;refine dC ?_;refine Cj (λy=>?_) ?_;(conv=>whnf);refine⟨rfl,by simp,?_⟩;(conv=>whnf);refine⟨by show(_+1)*40<=_;simp;omega,by show _+1<=_;simp;omega,atC,λG2=>?_⟩;exact d0 G2;refine Go.bS.cp.vs ?_;exact trivial;intro y;(conv=>whnf);refine Y.fd [(0,.box 210 co 0),(10,.box 10 mL 0)] [(210,.box co [.an dx,.Q (.own 28 y) 5 (s.dG.map gI++[D.agg [u kind,u node,u oC,u s.count,u (k' c)]]),u s.count]),(10,.box mL [u kind,u node,u oC,u s.count,u (k' c)]),(28,.own y (((s.dG.map gI).length+([.agg [u kind,u node,u oC,u s.count,u (k' c)]]:List D).length)) 5 358)] [(210,210),(10,10),(28,28)] ⟨cH,rfl,cH⟩ ?_;(conv=>whnf);(conv=>whnf);refine Y.jx 210 (dt:=[.an dx,.Q (.own 211 y) 5 ((eY s kind node oC c).dG.map gI),u s.count]) rfl ⟨E,aq.kd (by simp[eY,gI]),E,ai⟩ ?_;refine Y.SX ?_;refine Y.BK aL 7 mixed atA ?_;refine go ?_;exact⟨[],pL co dx y (eY s kind node oC c),[(210,210),(211,28)],⟨ai,rfl,rfl,rfl,rfl,kG (by simp[eY]),ai⟩,.bl [],ai,rfl,y,rfl⟩
mutual
def h2:ad->List ad
 |.mk a b c d e f g h i j ah cE=>.mk a b c d e f g h i j ah cE::gu ah
def gu:List ad->List ad
 |[]=>[]
 |n::r=>h2 n++gu r
end
theorem aoW(n:ad):h2 n=n::gu n.J:=by cases n;simp only[h2]
theorem aad:∀a b:List ad,gu (a++b)=gu a++gu b
 |[],b=>rfl
 |n::r,b=>by simp only[auO,gu,aad r b,auj]
theorem aoX{l:List ad}(h:i<l.length):gu (l.take (i+1))=gu (l.take i)++h2 l[i]:=by rw[atN h,aad];simp only[gu,auK]
mutual
theorem aae:∀n:ad,(h2 n).length<=aB n
 |.mk a b c d e f g h i j ah cE=>by
  have:=KR ah;simp only[h2,atQ,aB];omega
theorem KR:∀l:List ad,(gu l).length<=eF l
 |[]=>by simp[gu]
 |n::r=>by
  have h1:=aae n;have z:=KR r;simp only[gu,atO,eF];omega
end
def mX(n:ad)(K:D):D:=.agg [.O n.name,u n.kind,.O n.dB,.O n.target,u n.cL,u n.n2,u n.n3,u n.n4,u n.n5,u n.n6,.Q .none 12 (n.J.map enc),.Q .none 2 (n.bK.map c5),.any,.any,K,.any]
def cI(n:ad):D:=mX n .any
variable{xs a':List D}
theorem Ra{a b:D}(h:dL a.cells b.cells):dL (b1 (xs++a::a')) (b1 (xs++b::a')):=by
 have e:∀V:D,b1 (xs++V::a')=b1 xs++(V.cells++b1 a'):=λV=>by simp[b1]
 rw[e,e];exact dL.l9 (dL.refl _) (dL.l9 h (dL.refl _))
theorem KS{b:D}(h1:∀x∈xs,x.cells.length=k)(z:b.cells.length=k)(aa:∀x∈a',x.cells.length=k):∀x∈xs++b::a',x.cells.length=k:=λx F=>by
 rcases at1.1 F with h|h
 ·exact h1 x h
 rcases at6.1 h with rfl|h
 ·exact z
 exact aa x h
theorem aoY{a b:D}(xs r:List D):(xs++a::r).set xs.length b=xs++b::r:=by simp
theorem G3(l:List ad):∀x∈l.map cI,x.cells.length=16:=λx F=>by
 obtain⟨n,_,rfl⟩:=at3.1 F;rfl
def Rb(co:Nat)(dx:Value)(xs:List D):List (Nat×aI):=[(210,.box co [.an dx,.bh,u 0]),(203,.row dx xs 16 296)]
theorem aoZ{n:ad}(h:i<n.J.length):eF (n.J.take i)+aB n.J[i]+1<=aB n/\aB n.J[i]<aB n:=by(have h1:∀{l:List ad} {i:Nat} (h:i<l.length),eF (l.take i)+aB l[i]<=eF l:=by intro l;induction l with|nil=>intro i h;simp at h|cons k r aY =>intro i h;(cases i with|zero=>simp only[av2,eF,av5];omega|succ i =>have:=aY (i:=i) (by simpa using h);simp only[avr,eF,au6];omega));have z:=h1 h;(have aa:eF n.J+1<=aB n:=by cases n;simp only[aB];omega);omega
theorem ao0(co:Nat):∀(bD:Nat) (n:ad) (path:atE) (cB:Int) (xs:List D) (dx:Value),aB n<bD->path.length+aB n<1000000000->xs.length+aB n<10000000->(∀x∈xs,x.cells.length=16)->   cV B 209 [.box 210 co 0,aH n,.O path,u cB] (aK (Rb co dx xs)) λd aM=>d=u (xs.length:Nat)/\∃bQ rA fb,aM=aK (Rb co (.slice bQ rA fb) (xs++(h2 n).map cI)):=by refine λbD=>Nat.rec (λn path cB xs dx h=>absurd h (avf _)) (λbD aY n path cB xs dx hN au F KT=>?_) bD;refine jW Tryz.func209 Tryz.ntmps209 λU=>?_;refine Y.Ci 203 rfl (λa cap W _ _=>?_);subst W;refine ch ?_;intro cx;refine vk ?_;apply mB;apply cD;apply en;refine' eR (α:=(Option Addr×Nat×Nat)) [(210,.box co ([.an (.slice a xs.length cap),.bh,u 0])),(5,.box cx (aH n).cells),(203,.row (.slice a xs.length cap) xs 16 296)] (none,0,0) (λsB=>[_,_,_,_,_,_,_,_,_,_,.an (.slice sB.1 sB.2.1 sB.2.2),_,_,.any]) (λsB=>[(10,203,none),(10,29,some (.row (.slice sB.1 sB.2.1 sB.2.2) (xs++[D.agg [.O n.name,u n.kind,.O n.dB,.O n.target,u n.cL,u n.n2,u n.n3,u n.n4,u n.n5,u n.n6,.Q .none 12 (n.J.map enc),.Q .none 2 (n.bK.map c5),.O path,u cB,.bh,u 0]]) 16 296)),(13,210,some (.box co ([.an (.slice sB.1 sB.2.1 sB.2.2),.bh,u 0])))]) [0,0,2,6,14,0,0,0,224,480,1022,2047,4095,8191] [(10,203),(10,29),(13,210)] ?_ ?_;rotate_left 12;refine dC ?_;refine bR (λsB=>af.pc aL 203 rfl rfl rfl atC rfl rfl rfl atx (by show(_+1)*208<=_;omega) (by show _+1<=_;omega) (λbQ rA fb=>d0 (bQ,rA,fb))) ?_;refine Go.bS.cp.vs ?_;exact trivial;intro sB;obtain⟨bQ,rA,fb⟩:=sB;(conv=>whnf);refine Y.fd [(0,.box 210 co 0),(2,.O path),(5,.box 5 cx 0),(9,u (xs.length:Nat))] [(210,.box co [.an (.slice bQ rA fb),.bh,u 0]),(5,.box cx (aH n).cells),(29,.row (.slice bQ rA fb) (xs++[D.agg [.O n.name,u n.kind,.O n.dB,.O n.target,u n.cL,u n.n2,u n.n3,u n.n4,u n.n5,u n.n6,.Q .none 12 (n.J.map enc),.Q .none 2 (n.bK.map c5),.O path,u cB,.bh,u 0]]) 16 296)] [(210,210),(5,5),(29,29)] ⟨cH,rfl,cH⟩ ?_;refine go ?_;have im:=G3;refine Y.tW 205 1 3 ?_;refine Y.vp 29 (xs:=xs++[D.agg [.O n.name,u n.kind,.O n.dB,.O n.target,u n.cL,u n.n2,u n.n3,u n.n4,u n.n5,u n.n6,.Q .none 12 (n.J.map enc),.Q .none 2 (n.bK.map c5),.O path,u cB,.bh,u 0]]) (a':=xs++[mX n (.Q (.own 205 (.slice none 0 0)) 1 [])]) rfl atx (KS KT rfl (λx F=>by cases F)) (Ra ⟨E,E,E,E,E,E,E,E,E,E,E,E,.any _,.any _,aq.vj,.any _,ai⟩) ?_;refine go ?_;refine Y.ed (α:={p:Nat×List D // p.1<=n.J.length/\p.2.length<=p.1}×Value×Value) (λx=>[(0,.box 210 co 0),(2,.O path),(9,u (xs.length:Nat)),(33,.Q .none 12 (n.J.map enc)),(34,u ((n.J.map enc).length:Nat)),(35,u (x.1.1.1:Nat))]) (λx=>[(210,.box co [.an x.2.1,.bh,u 0]),(203,.row x.2.1 (xs++mX n (.Q (.own 205 x.2.2) 1 x.1.1.2)::(gu (n.J.take x.1.1.1)).map cI) 16 296),(205,.own x.2.2 x.1.1.2.length 1 3)]) (λx=>n.J.length-x.1.1.1) (⟨(0,[]),by simp,by simp⟩,.slice bQ rA fb,.slice none 0 0) [(210,210),(203,29),(205,205)] ⟨ar,rfl,ba⟩ ?_;rintro⟨⟨⟨i,ah⟩,hi,b5⟩,Rc,d0⟩;dsimp only at hi b5⊢;refine go ?_;refine aJ (decide ((i:Int)<((n.J.map enc).length:Nat))) rfl ?_ ?_<;>intro hc;(·apply cl;(have aE:i<n.J.length:=by simpa using hc);(have h9:(n.J.map enc)[i]?=some (aH n.J[i]):=by simp[aE,rV]);have aos:=EN aE;have as0:=l' n;have aot:=aoZ aE;have dd:=KR (n.J.take i);have as1:=Aj n.J;have cW:=aoX aE;have ao1:∀x∈xs++mX n (.Q (.own 205 d0) 1 ah)::(gu (n.J.take i)).map cI,x.cells.length=16:=KS KT rfl (G3 _);(have ank:(xs++mX n (.Q (.own 205 d0) 1 ah)::(gu (n.J.take i)).map cI).length=xs.length+1+(gu (n.J.take i)).length:=by simp;omega);refine gK ?_;refine⟨λ_=>by rw[atL];omega,?_⟩;(conv=>whnf);refine⟨aH n.J[i],λ_=>h9,?_⟩;refine go ?_;intro yZ;apply cD;refine lm ?_;generalize s1:n.J[i]=hP at*;refine Y.l0 (α:={b:atE // b.length<=path.length+1+hP.name.length}) (λx=>[(0,.box 210 co 0),(2,.O path),(9,u (xs.length:Nat)),(11,.box 11 yZ 0),(12,.O x.1),(33,.Q .none 12 (n.J.map enc)),(34,u ((n.J.map enc).length:Nat)),(35,u (i:Nat))]) (λx=>[(210,.box co [.an Rc,.bh,u 0]),(203,.row Rc (xs++mX n (.Q (.own 205 d0) 1 ah)::(gu (n.J.take i)).map cI) 16 296),(205,.own d0 ah.length 1 3),(11,.box yZ (aH hP).cells)]) ?_ ?_;refine go ?_;refine aJ (!(path==[])) rfl ?_ ?_<;>intro bw;refine nc ?_;refine oa ?_;refine ez ?_;refine nb ?_;exact⟨⟨(path++[47])++hP.name,by simp;omega⟩,[(210,210),(203,203),(205,205),(11,11)],ar,rfl,ba⟩;refine go ?_;exact⟨⟨hP.name,by omega⟩,[(210,210),(203,203),(205,205),(11,11)],ar,rfl,ba⟩;rintro⟨below,as2⟩;refine go ?_;refine .inr (af.call rfl [.box 210 co 0,aH hP,.O below,u (xs.length:Nat)] [(210,210),(203,203)] (c8.wY (by exact⟨rfl,ba⟩) (aY hP below (xs.length:Nat) (xs++mX n (.Q (.own 205 d0) 1 ah)::(gu (n.J.take i)).map cI) Rc atv atv atv ao1)) rfl ar ?_);rintro d aM ⟨rfl,a2,n2,dq,rfl⟩;refine p7 ?_;(have jt:(xs++mX n (.Q (.own 205 d0) 1 ah)::(gu (n.J.take i)).map cI)++(h2 hP).map cI=xs++mX n (.Q (.own 205 d0) 1 ah)::(gu (n.J.take (i+1))).map cI:=by rw[cW];simp);have eQ:=KR (n.J.take (i+1));refine Y.fd [(0,.box 210 co 0),(2,.O path),(9,u (xs.length:Nat)),(13,u ((xs++mX n (.Q (.own 205 d0) 1 ah)::(gu (n.J.take i)).map cI).length:Nat)),(33,.Q .none 12 (n.J.map enc)),(34,u ((n.J.map enc).length:Nat)),(35,u (i:Nat))] [(210,.box co [.an (.slice a2 n2 dq),.bh,u 0]),(203,.row (.slice a2 n2 dq) (xs++mX n (.Q (.own 205 d0) 1 ah)::(gu (n.J.take (i+1))).map cI) 16 296),(205,.own d0 ah.length 1 3)] [(210,210),(203,203),(205,205)] ⟨ar,rfl,rfl,rfl,rfl,atI (λV=>some (aI.row (.slice a2 n2 dq) V 16 296)) jt,rfl,ba⟩ ?_;have ao2:∀x∈(gu (n.J.take (i+1))).map cI,x.cells.length=16:=G3 _;generalize ao3:(gu (n.J.take (i+1))).map cI=Bp at*;generalize(xs++mX n (.Q (.own 205 d0) 1 ah)::(gu (n.J.take i)).map cI).length=xQ at*;(have bi:xs.length<(xs++mX n (.Q (.own 205 d0) 1 ah)::Bp).length:=by simp);(have io:(xs++mX n (.Q (.own 205 d0) 1 ah)::Bp)[xs.length]?=some (mX n (.Q (.own 205 d0) 1 ah)):=by simp);refine' eR (α:=Value) [(210,.box co [.an (.slice a2 n2 dq),.bh,u 0]),(203,.row (.slice a2 n2 dq) (xs++mX n (.Q (.own 205 d0) 1 ah)::Bp) 16 296),(205,.own d0 ah.length 1 3)] Value.nilFunc (λlj=>[_,_,_,_,_,_,_,_,_,_,.an (h_ (.slice a2 n2 dq) (((xs.length:Nat):Int).toNat*16)),.an (h_ (.slice a2 n2 dq) (((xs.length:Nat):Int).toNat*16+14)),.Q (.own 205 d0) 1 ah,_,_,.Q (.own 68 lj) 1 (ah++[u (xQ:Nat)]),.an (h_ (.slice a2 n2 dq) (((xs.length:Nat):Int).toNat*16)),.an (h_ (.slice a2 n2 dq) (((xs.length:Nat):Int).toNat*16+14)),.any]) (λlj=>[(15,205,none),(15,68,some (.own lj (ah.length+[u (xQ:Nat)].length) 1 3)),(18,203,some (.row (.slice a2 n2 dq) ((xs++mX n (.Q (.own 205 d0) 1 ah)::Bp).set xs.length (D.agg [.O n.name,u n.kind,.O n.dB,.O n.target,u n.cL,u n.n2,u n.n3,u n.n4,u n.n5,u n.n6,.Q .none 12 (n.J.map enc),.Q .none 2 (n.bK.map c5),.any,.any,.Q (.own 68 lj) 1 (ah++[u (xQ:Nat)]),.any])) 16 296))]) [0,1,3,7,0,0,32,96,224,0,992,2016,4064,0,8192,32736,65535,131071,262143] [(15,205),(15,68),(18,203)] ?_ ?_;rotate_left 12;refine dC ?_;refine bR (λlj=>af.ev aL 203 rfl rfl rfl rfl rfl rfl rfl atv (av9.2 bi) (cz lj)) ?_;refine bR (λlj=>af.jA aL 203 (i:=xs.length) rfl rfl bi rfl rfl rfl aty (cz lj)) ?_;refine bR (λlj=>af.od aL 203 (i:=xs.length) (j:=14) atB rfl rfl io (cz lj)) ?_;refine bR (λlj=>af.SU aL 205 205 rfl rfl rfl atC rfl rfl rfl (by show(_+1)*8<=_;omega) (by show _+1<=_;omega) (λG2=>Go.bS.cp.d0 G2)) ?_;refine bR (λlj=>af.ev aL 203 rfl rfl rfl rfl rfl rfl rfl atv (av9.2 bi) (cz lj)) ?_;refine bR (λlj=>af.jA aL 203 (i:=xs.length) rfl rfl bi rfl rfl rfl aty (cz lj)) ?_;refine bR (λlj=>af.vo aL 203 (i:=xs.length) (j:=14) atB rfl rfl rfl io aty rfl (cz lj)) ?_;exact trivial;intro lj;(conv=>whnf);refine Y.fd [(0,.box 210 co 0),(2,.O path),(9,u (xs.length:Nat)),(33,.Q .none 12 (n.J.map enc)),(34,u ((n.J.map enc).length:Nat)),(35,u (i:Nat))] [(210,.box co [.an (.slice a2 n2 dq),.bh,u 0]),(203,.row (.slice a2 n2 dq) ((xs++mX n (.Q (.own 205 d0) 1 ah)::Bp).set xs.length (D.agg [.O n.name,u n.kind,.O n.dB,.O n.target,u n.cL,u n.n2,u n.n3,u n.n4,u n.n5,u n.n6,.Q .none 12 (n.J.map enc),.Q .none 2 (n.bK.map c5),.any,.any,.Q (.own 68 lj) 1 (ah++[u (xQ:Nat)]),.any])) 16 296),(68,.own lj (ah.length+[u (xQ:Nat)].length) 1 3)] [(210,210),(203,203),(68,68)] ⟨cH,rfl,cH⟩ ?_;(conv=>whnf);refine Y.vp 203 (xs:=(xs++mX n (.Q (.own 205 d0) 1 ah)::Bp).set xs.length (D.agg [.O n.name,u n.kind,.O n.dB,.O n.target,u n.cL,u n.n2,u n.n3,u n.n4,u n.n5,u n.n6,.Q .none 12 (n.J.map enc),.Q .none 2 (n.bK.map c5),.any,.any,.Q (.own 68 lj) 1 (ah++[u (xQ:Nat)]),.any])) (a':=xs++mX n (.Q (.own 205 lj) 1 (ah++[u (xQ:Nat)]))::Bp) rfl atx (KS KT rfl ao2) (by rw[aoY];exact Ra ⟨E,E,E,E,E,E,E,E,E,E,E,E,.any _,.any _,aq.own _ _,.any _,ai⟩) ?_;refine go ?_;exact⟨(⟨(i+1,ah++[u (xQ:Nat)]),aE,by simp;omega⟩,.slice a2 n2 dq,lj),[(210,210),(203,203),(205,68)],ayi,ar,rfl,rfl,rfl,rfl,atI (λV=>some (aI.row (.slice a2 n2 dq) (xs++mX n (.Q (.own 205 lj) 1 (ah++[u (xQ:Nat)]))::V) 16 296)) ao3.symm,rfl,kG atx,ai⟩);(have cg:i=n.J.length:=by simp at hc;omega);subst cg;rw[atW];refine wT ?_;(have l5:(h2 n).map cI=cI n::(gu n.J).map cI:=by rw[aoW];rfl);refine Y.vp 203 (a':=xs++cI n::(gu n.J).map cI) rfl atx (KS KT rfl (G3 _)) (Ra ⟨E,E,E,E,E,E,E,E,E,E,E,E,.any _,.any _,.any _,.any _,ai⟩) ?_;refine Y.Ci 203 rfl (λa3 k9 Ar _ _=>?_);subst Ar;refine ch ?_;refine Y.gU [(8,u (xs.length:Nat))] (Rb co (.slice a3 _ k9) (xs++cI n::(gu n.J).map cI)) [(210,210),(203,203)] ⟨ar,rfl,ba⟩ ?_;refine go ?_;exact⟨_,E,rfl,a3,_,k9,by rw[l5];rfl⟩
variable{S:Type}
def u3{bA:Type}(f:S->Int->bA->S)(s:S)(l:List bA):S:=(l.foldl (λ(q:S×Int) a=>(f q.1 q.2 a,q.2+1)) (s,0)).1
theorem aaf{S bA:Type}(f:S->Int->bA->S)(s:S):∀(l:List bA) (k:Int),(l.foldl (λ(q:S×Int) a=>(f q.1 q.2 a,q.2+1)) (s,k)).2=k+(l.length:Nat)
 |[],k=>by simp
 |a::r,k=>by rw[avj,aaf f _ r,atQ];omega
theorem DF{bA:Type}(f:S->Int->bA->S)(s:S){l:List bA}(h:i<l.length):u3 f s (l.take (i+1))=f (u3 f s (l.take i)) (i:Nat) l[i]:=by have z:=aaf f s (l.take i) 0;rw[at4,awn atv,Int.zero_add]at z;rw[u3,u3,atN h,auU];simp only[avj,List.foldl_nil,z]
def h3(m:ad):Int:=if m.kind=1 then 0 else zv m
def rB(i:Int)(s:li)(l:List nH):li:=u3 (λs k x=>eY s 2 i k (x.target.length:Nat)) s l
def wu(s:li)(i:Int)(m:ad):li:=if 0<m.bK.length then rB i (eY (eY s 0 i 0 (h3 m)) 1 i 0 0) m.bK else eY s 0 i 0 (h3 m)
def oD(l:List ad):li:=u3 wu ⟨[],0⟩ l
structure zw (s:li) (n:Nat):Prop where
 len:s.dG.length<=n
 ia:0<=s.count
 ek:s.count<=(s.dG.length:Nat)*1000000001
theorem zw.put{s:li}{n:Nat}(h:zw s n){a b c d:Int}(h0:0<=d)(h1:d<1000000000000):zw (eY s a b c d) (n+1):=by have:=Q9 h0 h1;obtain⟨g1,eP,g3⟩:=h;refine⟨?_,?_,?_⟩;simp only[eY,atO,atQ,auf];omega;simp only[eY];omega;simp only[eY,atO,atQ,auf];omega
def qC:List ad->Nat
 |[]=>0
 |n::r=>2+n.bK.length+qC r
theorem G4:∀a b:List ad,qC (a++b)=qC a+qC b
 |[],b=>by simp[qC]
 |n::r,b=>by simp only[auO,qC,G4 r b];omega
mutual
theorem KU:∀n:ad,qC (h2 n)<=aB n
 |.mk a b c d e f g h i j ah cE=>by
  have h1:=aag ah;have z:=EO cE;simp only[h2,qC,aB];omega
theorem aag:∀l:List ad,qC (gu l)<=eF l
 |[]=>by simp[gu,qC]
 |n::r=>by
  have h1:=KU n;have z:=aag r;simp only[gu,G4,eF];omega
end
mutual
theorem KV:∀n:ad,∀m∈h2 n,aB m<=aB n
 |.mk a b c d e f g h i j ah cE,m,hm=>by
  simp only[h2,at6]at hm;rcases hm with rfl|hm
  ·exact atP _
  have:=aah ah m hm;simp only[aB];omega
theorem aah:∀l:List ad,∀m∈gu l,aB m<=eF l
 |[],m,hm=>by simp[gu]at hm
 |n::r,m,hm=>by
  simp only[gu,at1]at hm;rcases hm with hm|hm
  ·have:=KV n m hm;simp only[eF];omega
  have:=aah r m hm;simp only[eF];omega
end
theorem Rd{s:li}{n:Nat}(h:zw s n)(i:Int){l:List nH}(al:∀x∈l,(x.target.length:Int)<1000000000000):∀k,k<=l.length->zw (rB i s (l.take k)) (n+k)
 |0,_=>h
 |k+1,X=>by rw[rB,DF _ _ (show k<l.length by omega)];exact(Rd h i al k atv).put atv (al _ (atK _))
theorem aai(m:ad)(hm:aB m<1000000):0<=h3 m/\h3 m<1000000000000:=by have h1:=l' m;have z:=Aj m.J;have:=aoT m atv atv;unfold h3;split<;>omega
theorem Re{m:ad}(hm:aB m<1000000):∀x∈m.bK,(x.target.length:Int)<1000000000000:=λx F=>by
 obtain⟨k,X,rfl⟩:=auh.1 F;have h1:=H8 X;have z:=l' m;omega
theorem ao4{s:li}{n:Nat}(h:zw s n)(i:Int){m:ad}(hm:aB m<1000000):zw (wu s i m) (n+2+m.bK.length):=by have hc:=aai m hm;have h1:=h.put (a:=0) (b:=i) (c:=0) hc.1 hc.2;have z:=h1.put (a:=1) (b:=i) (c:=0) (d:=0) aty aty;unfold wu;split;have:=Rd z i (Re hm) m.bK.length (atP _);rw[atW]at this;exact this;exact⟨by have:=h1.len;omega,h1.ia,h1.ek⟩
theorem KW{l:List ad}(al:∀m∈l,aB m<1000000):∀k,k<=l.length->zw (oD (l.take k)) (qC (l.take k))
 |0,_=>⟨atP _,auu _,by show(0:Int)<=_;simp[oD,u3]⟩
 |k+1,X=>by(have fA:k<l.length:=by omega);rw[oD,DF _ _ fA,atN fA,G4];have:=ao4 (KW al k atv) (k:Nat) (al _ (atK fA));exact⟨avb this.len (by simp only[qC];omega),this.ia,this.ek⟩
def aaj(co:Nat)(dx dS:Value)(s:li)(xs:List D):List (Nat×aI):=[(210,.box co [.an dx,.Q (.own 211 dS) 5 (s.dG.map gI),u s.count]),(211,.own dS s.dG.length 5 358),(203,.row dx xs 16 296)]
theorem ao5(aV:dc B)(n cp:ad)(DG:aS B 208 [u 3,aH n] (.bl [aH cp,u 0]))(uY:aB cp<1000000):cV B 140 [aH n] bF.none λd aM=>∃co dx dS,d=.box 210 co 0/\aM=aK (pL co dx dS (oD (h2 cp))):=by refine jW Tryz.func140 Tryz.ntmps140 λU=>?_;refine ch ?_;intro dz;refine nG ?_;apply cD;refine jy ?_;refine⟨[u 3,aH n],_,λ_=>DG,ar,?_⟩;apply d_;apply d_;apply d_;refine jy ?_;intro eD;apply d_;apply cD;refine jy ?_;refine Y.fd [(3,.box 3 eD 0)] [(3,.box eD (aH cp).cells)] [(3,3)] (by exact⟨ar,rfl,ba⟩) ?_;refine nG ?_;refine jy ?_;intro em;refine jy ?_;refine Y.fd [(3,.box 3 eD 0),(5,.box 17 em 0)] [(3,.box eD (aH cp).cells),(17,.box em [.bh,.bh,u 0])] [(3,3),(17,17)] (by exact⟨ar,rfl,ba⟩) ?_;(conv=>whnf);refine Y.qR 203 16 296 ?_;refine Y.jx 17 (dt:=[.an (.slice none 0 0),.bh,u 0]) rfl ⟨aq.rQ,E,E,ai⟩ ?_;refine nG ?_;apply d_;apply cD;apply tY;refine af.call rfl [.box 210 em 0,aH cp,.O [],u 0] [(210,17),(203,203)] (c8.wY (by exact⟨rfl,ba⟩) (ao0 em (aB cp+1) cp [] 0 [] (.slice none 0 0) atv atw atw (λx F=>by cases F))) rfl ⟨aq.box,E,E,E,ai⟩ ?_;rintro d aM ⟨rfl,bQ,rA,fb,rfl⟩;refine rT ?_;refine Y.fd [(5,.box 17 em 0)] [(17,.box em [.an (.slice bQ rA fb),.bh,u 0]),(203,.row (.slice bQ rA fb) ((h2 cp).map cI) 16 296)] [(17,17),(203,203)] (by exact⟨ar,rfl,ba⟩) ?_;(conv=>whnf);refine Y.fd [(5,.box 210 em 0)] [(210,.box em [.an (.slice bQ rA fb),.bh,u 0]),(203,.row (.slice bQ rA fb) ((h2 cp).map cI) 16 296)] [(210,17),(203,203)] (by exact⟨⟨aq.box,ai⟩,rfl,ba⟩) ?_;refine Y.tW 211 5 358 ?_;refine Y.jx 210 (dt:=[.an (.slice bQ rA fb),.Q (.own 211 (.slice none 0 0)) 5 [],u 0]) rfl ⟨E,aq.vj,E,ai⟩ ?_;have aak:∀m∈h2 cp,aB m<1000000:=λm hm=>Nat.lt_of_le_of_lt (KV cp m hm) uY;have as3:=KU cp;have Gv:=aae cp;have ao6:∀x∈(h2 cp).map cI,x.cells.length=16:=G3 _;generalize h2 cp=P at*;refine Y.Ci 203 rfl (λa4 ou ao7 _ _=>?_);(obtain⟨rfl,rfl,rfl⟩:bQ=a4/\rA=(P.map cI).length/\fb=ou:=by simpa using ao7);apply m';refine t1 ?_;apply d_;apply d_;apply d_;apply cD;apply d_;refine jy ?_;refine Y.fd [(5,.box 210 em 0),(25,u ((P.map cI).length:Nat)),(26,u 0)] [(210,.box em [.an (.slice bQ (P.map cI).length fb),.Q (.own 211 (.slice none 0 0)) 5 [],u 0]),(211,.own (.slice none 0 0) 0 5 358),(203,.row (.slice bQ (P.map cI).length fb) (P.map cI) 16 296)] [(210,210),(211,211),(203,203)] (by exact⟨ar,rfl,ba⟩) ?_;apply oN;refine Y.ed (α:={i:Nat // i<=P.length}×Value) (λx=>[(5,.box 210 em 0),(25,u ((P.map cI).length:Nat)),(26,u (x.1.1:Nat))]) (λx=>aaj em (.slice bQ (P.map cI).length fb) x.2 (oD (P.take x.1.1)) (P.map cI)) (λx=>P.length-x.1.1) (⟨0,by omega⟩,.slice none 0 0) [(210,210),(211,211),(203,203)] ⟨ar,rfl,ba⟩ ?_;rintro⟨⟨i,hi⟩,dS⟩;dsimp only at hi⊢;apply b3;apply en;refine aJ (decide ((i:Int)<((P.map cI).length:Nat))) rfl ?_ ?_<;>intro hc;(·apply cl;(have aE:i<P.length:=by simpa using hc);have ip:=KW aak i atv;have cW:oD (P.take (i+1))=wu (oD (P.take i)) (i:Nat) P[i]:=DF _ _ aE;have hJ:=aak _ (atK aE);(have im:qC (P.take i)+2+P[i].bK.length<=qC P:=by have h1:=G4 (P.take (i+1)) (P.drop (i+1));rw[ava,atN aE,G4]at h1;simp only[qC]at h1;omega);(have io:(P.map cI)[i]?=some (cI P[i]):=by simp[aE]);(have bi:i<(P.map cI).length:=by simpa using aE);have hsz:=l' P[i];have eQ:=Aj P[i].J;have i6:=EO P[i].bK;(have f':∀k∈P[i].J,k.name.length<1000000000:=λk X=>by obtain⟨j,Z,rfl⟩:=auh.1 X;have:=EN Z;omega);have w7:=ip.len;have Kb:=ip.ia;have mi:=ip.ek;generalize gc:oD (P.take i)=s at*;generalize gL:P[i]=m at*;refine kc ?_;refine nG ?_;refine jy ?_;refine Y.fd [(5,.box 210 em 0),(6,u (i:Nat)),(25,u ((P.map cI).length:Nat)),(26,u (i:Nat))] [(210,.box em [.an (.slice bQ (P.map cI).length fb),.Q (.own 211 dS) 5 (s.dG.map gI),u s.count]),(211,.own dS s.dG.length 5 358),(203,.row (.slice bQ (P.map cI).length fb) (P.map cI) 16 296)] [(210,210),(211,211),(203,203)] (by exact⟨ar,rfl,ba⟩) ?_;refine nG ?_;apply d_;apply d_;apply d_;apply cD;apply d_;apply tY;refine af.ev aL 203 rfl rfl rfl rfl rfl rfl rfl atv (av9.2 bi) ?_;apply tY;refine af.jA aL 203 (i:=i) rfl rfl bi rfl rfl rfl aty ?_;apply tY;refine af.od aL 203 (i:=i) (j:=0) atB rfl rfl io ?_;refine jy ?_;intro dJ;apply d_;refine ez ?_;refine Y.fd [(5,.box 210 em 0),(6,u (i:Nat)),(7,.box 7 dJ 0),(25,u ((P.map cI).length:Nat)),(26,u (i:Nat))] [(210,.box em [.an (.slice bQ (P.map cI).length fb),.Q (.own 211 dS) 5 (s.dG.map gI),u s.count]),(211,.own dS s.dG.length 5 358),(203,.row (.slice bQ (P.map cI).length fb) (P.map cI) 16 296),(7,.box dJ (aH m).cells)] [(210,210),(211,211),(203,203),(7,7)] (by exact⟨ar,rfl,ba⟩) ?_;apply en;refine' eR (α:=Unit) [(210,.box em [.an (.slice bQ (P.map cI).length fb),.Q (.own 211 dS) 5 (s.dG.map gI),u s.count]),(211,.own dS s.dG.length 5 358),(7,.box dJ (aH m).cells),(203,.row (.slice bQ (P.map cI).length fb) (P.map cI) 16 296)] () (λ_=>[_,_,_,_,_,_,_,_,_,_,.an (h_ (.slice bQ (P.map cI).length fb) (((i:Nat):Int).toNat*16)),.an (h_ (.slice bQ (P.map cI).length fb) (((i:Nat):Int).toNat*16+15)),.any]) (λ_=>[(12,203,some (.row (.slice bQ (P.map cI).length fb) ((P.map cI).set i (D.agg [.O m.name,u m.kind,.O m.dB,.O m.target,u m.cL,u m.n2,u m.n3,u m.n4,u m.n5,u m.n6,.Q .none 12 (m.J.map enc),.Q .none 2 (m.bK.map c5),.any,.any,.any,u ((s.dG.map gI).length:Nat)])) 16 296))]) [0,1,3,7,0,0,32,96,224,480,1023,2047,4095] [(12,203)] ?_ ?_;rotate_left 10;refine dC ?_;refine bR (λ_=>af.ev aL 203 rfl rfl rfl rfl rfl rfl rfl atv (av9.2 bi) (d0 ())) ?_;refine bR (λ_=>af.jA aL 203 (i:=i) rfl rfl bi rfl rfl rfl aty (d0 ())) ?_;refine bR (λ_=>af.vo aL 203 (i:=i) (j:=15) atB rfl rfl rfl io aty rfl (d0 ())) ?_;exact trivial;intro _;(conv=>whnf);refine Y.fd [(5,.box 210 em 0),(6,u (i:Nat)),(7,.box 7 dJ 0),(25,u ((P.map cI).length:Nat)),(26,u (i:Nat))] [(210,.box em [.an (.slice bQ (P.map cI).length fb),.Q (.own 211 dS) 5 (s.dG.map gI),u s.count]),(211,.own dS s.dG.length 5 358),(7,.box dJ (aH m).cells),(203,.row (.slice bQ (P.map cI).length fb) ((P.map cI).set i (D.agg [.O m.name,u m.kind,.O m.dB,.O m.target,u m.cL,u m.n2,u m.n3,u m.n4,u m.n5,u m.n6,.Q .none 12 (m.J.map enc),.Q .none 2 (m.bK.map c5),.any,.any,.any,u ((s.dG.map gI).length:Nat)])) 16 296)] [(210,210),(211,211),(7,7),(203,203)] ⟨cH,rfl,cH⟩ ?_;(conv=>whnf);refine Y.vp 203 (a':=P.map cI) rfl atx ao6 (by(have e:P.map cI=(P.map cI).set i (cI m):=by apply au2;intro j;by_cases h:i=j;subst h;rw[io,av4 bi];rw[axb h]);(conv=>rhs;rw[e]);exact dL.b1 atx λj x y F hy=>by by_cases Z:i=j;subst Z;rw[av4 bi]at F hy;cases F;cases hy;exact⟨E,E,E,E,E,E,E,E,E,E,E,E,.any _,.any _,.any _,.any _,ai⟩;rw[axb Z]at F hy;rw[F]at hy;cases hy;exact dL.refl _) ?_;refine nG ?_;(conv=>whnf);refine Y.fd [(5,.box 210 em 0),(6,u (i:Nat)),(7,.box 7 dJ 0),(8,u 0),(25,u ((P.map cI).length:Nat)),(26,u (i:Nat))] [(210,.box em [.an (.slice bQ (P.map cI).length fb),.Q (.own 211 dS) 5 (s.dG.map gI),u s.count]),(211,.own dS s.dG.length 5 358),(203,.row (.slice bQ (P.map cI).length fb) (P.map cI) 16 296),(7,.box dJ (aH m).cells)] [(210,210),(211,211),(203,203),(7,7)] (by exact⟨ar,rfl,ba⟩) ?_;(conv=>whnf);refine Y.l0 (α:=Unit) (λx=>[(5,.box 210 em 0),(6,u (i:Nat)),(7,.box 7 dJ 0),(25,u ((P.map cI).length:Nat)),(26,u (i:Nat)),(8,u (h3 m))]) (λx=>[(210,.box em [.an (.slice bQ (P.map cI).length fb),.Q (.own 211 dS) 5 (s.dG.map gI),u s.count]),(211,.own dS s.dG.length 5 358),(203,.row (.slice bQ (P.map cI).length fb) (P.map cI) 16 296),(7,.box dJ (aH m).cells)]) ?_ ?_;refine nG ?_;apply d_;apply cD;refine jy ?_;refine Y.fd [(5,.box 210 em 0),(6,u (i:Nat)),(7,.box 7 dJ 0),(8,u 0),(25,u ((P.map cI).length:Nat)),(26,u (i:Nat)),(51,.bool ((m.kind:Int)!=(1:Int)))] [(210,.box em [.an (.slice bQ (P.map cI).length fb),.Q (.own 211 dS) 5 (s.dG.map gI),u s.count]),(211,.own dS s.dG.length 5 358),(203,.row (.slice bQ (P.map cI).length fb) (P.map cI) 16 296),(7,.box dJ (aH m).cells)] [(210,210),(211,211),(203,203),(7,7)] (by exact⟨ar,rfl,ba⟩) ?_;refine aJ (m.kind !=1) rfl ?_ ?_<;>intro bw;refine t1 ?_;apply cD;refine jy ?_;refine⟨[aH m],_,λ_=>aoU aV m atv atv f',ar,?_⟩;refine jy ?_;exact⟨(),[(210,210),(211,211),(203,203),(7,7)],⟨E,E,E,E,E,aq.of_eq (atI (D.int .i64) (by rw[h3,atG (by simpa using bw)])),ai⟩,rfl,ba⟩;refine fk ?_;exact⟨(),[(210,210),(211,211),(203,203),(7,7)],⟨E,E,E,E,E,aq.of_eq (atI (D.int .i64) (by rw[h3,atH (by simpa using bw)])),ai⟩,rfl,ba⟩;rintro⟨⟩;have FC:=aai m hJ;have hg:=ip.put (a:=0) (b:=(i:Nat)) (c:=0) FC.1 FC.2;have kE:=hg.len;have nJ:=hg.ia;have UF:=hg.ek;refine nG ?_;apply d_;apply d_;apply tY;refine af.call rfl [.box 210 em 0,u 0,u (i:Nat),u 0,u (h3 m)] [(210,210),(211,211)] (c8.wY (by exact⟨rfl,ba⟩) (Q_ em (.slice bQ (P.map cI).length fb) dS s 0 (i:Nat) 0 (h3 m) FC.1 FC.2 atv atv atv)) rfl ar ?_;rintro d aM ⟨rfl,DH,rfl⟩;refine rT ?_;refine Y.fd [(5,.box 210 em 0),(6,u (i:Nat)),(7,.box 7 dJ 0),(25,u ((P.map cI).length:Nat)),(26,u (i:Nat))] [(210,.box em [.an (.slice bQ (P.map cI).length fb),.Q (.own 211 DH) 5 ((eY s 0 (i:Nat) 0 (h3 m)).dG.map gI),u (eY s 0 (i:Nat) 0 (h3 m)).count]),(211,.own DH (eY s 0 (i:Nat) 0 (h3 m)).dG.length 5 358),(203,.row (.slice bQ (P.map cI).length fb) (P.map cI) 16 296),(7,.box dJ (aH m).cells)] [(210,210),(211,211),(203,203),(7,7)] (by exact⟨ar,rfl,ba⟩) ?_;refine nG ?_;apply d_;apply cD;apply d_;refine jy ?_;refine Y.fd [(5,.box 210 em 0),(6,u (i:Nat)),(7,.box 7 dJ 0),(25,u ((P.map cI).length:Nat)),(26,u (i:Nat)),(61,.bool (decide ((0:Int)<(((m.bK.map c5).length:Nat):Int))))] [(210,.box em [.an (.slice bQ (P.map cI).length fb),.Q (.own 211 DH) 5 ((eY s 0 (i:Nat) 0 (h3 m)).dG.map gI),u (eY s 0 (i:Nat) 0 (h3 m)).count]),(211,.own DH (eY s 0 (i:Nat) 0 (h3 m)).dG.length 5 358),(203,.row (.slice bQ (P.map cI).length fb) (P.map cI) 16 296),(7,.box dJ (aH m).cells)] [(210,210),(211,211),(203,203),(7,7)] (by exact⟨ar,rfl,ba⟩) ?_;refine aJ (decide ((0:Int)<((m.bK.map c5).length:Nat))) rfl ?_ ?_<;>intro dO;have kg:=hg.put (a:=1) (b:=(i:Nat)) (c:=0) (d:=0) aty aty;have uw:=Rd kg (i:Nat) (Re hJ);have mO:wu s (i:Nat) m=rB (i:Nat) (eY (eY s 0 (i:Nat) 0 (h3 m)) 1 (i:Nat) 0 0) m.bK:=atH (by simpa using dO);refine nG ?_;apply d_;apply tY;refine af.call rfl [.box 210 em 0,u 1,u (i:Nat),u 0,u 0] [(210,210),(211,211)] (c8.wY (by exact⟨rfl,ba⟩) (Q_ em (.slice bQ (P.map cI).length fb) DH (eY s 0 (i:Nat) 0 (h3 m)) 1 (i:Nat) 0 0 aty aty atv atv atv)) rfl ar ?_;rintro d aM ⟨rfl,G5,rfl⟩;refine rT ?_;refine Y.fd [(5,.box 210 em 0),(6,u (i:Nat)),(7,.box 7 dJ 0),(25,u ((P.map cI).length:Nat)),(26,u (i:Nat))] [(210,.box em [.an (.slice bQ (P.map cI).length fb),.Q (.own 211 G5) 5 ((eY (eY s 0 (i:Nat) 0 (h3 m)) 1 (i:Nat) 0 0).dG.map gI),u (eY (eY s 0 (i:Nat) 0 (h3 m)) 1 (i:Nat) 0 0).count]),(211,.own G5 (eY (eY s 0 (i:Nat) 0 (h3 m)) 1 (i:Nat) 0 0).dG.length 5 358),(203,.row (.slice bQ (P.map cI).length fb) (P.map cI) 16 296),(7,.box dJ (aH m).cells)] [(210,210),(211,211),(203,203),(7,7)] (by exact⟨ar,rfl,ba⟩) ?_;refine nG ?_;apply d_;apply cD;apply d_;refine jy ?_;refine Y.fd [(5,.box 210 em 0),(6,u (i:Nat)),(25,u ((P.map cI).length:Nat)),(26,u (i:Nat)),(66,.Q .none 2 (m.bK.map c5)),(67,u ((m.bK.map c5).length:Nat)),(68,u 0)] [(210,.box em [.an (.slice bQ (P.map cI).length fb),.Q (.own 211 G5) 5 ((eY (eY s 0 (i:Nat) 0 (h3 m)) 1 (i:Nat) 0 0).dG.map gI),u (eY (eY s 0 (i:Nat) 0 (h3 m)) 1 (i:Nat) 0 0).count]),(211,.own G5 (eY (eY s 0 (i:Nat) 0 (h3 m)) 1 (i:Nat) 0 0).dG.length 5 358),(203,.row (.slice bQ (P.map cI).length fb) (P.map cI) 16 296),(7,.box dJ (aH m).cells)] [(210,210),(211,211),(203,203),(7,7)] (by exact⟨ar,rfl,ba⟩) ?_;apply oN;refine Y.ed (α:={k:Nat // k<=m.bK.length}×Value) (λx=>[(5,.box 210 em 0),(6,u (i:Nat)),(25,u ((P.map cI).length:Nat)),(26,u (i:Nat)),(66,.Q .none 2 (m.bK.map c5)),(67,u ((m.bK.map c5).length:Nat)),(68,u (x.1.1:Nat))]) (λx=>aaj em (.slice bQ (P.map cI).length fb) x.2 (rB (i:Nat) (eY (eY s 0 (i:Nat) 0 (h3 m)) 1 (i:Nat) 0 0) (m.bK.take x.1.1)) (P.map cI)) (λx=>m.bK.length-x.1.1) (⟨0,by omega⟩,G5) [(210,210),(211,211),(203,203)] ⟨ar,rfl,ba⟩ ?_;rintro⟨⟨k,X⟩,KX⟩;dsimp only at X⊢;apply b3;apply en;refine aJ (decide ((k:Int)<((m.bK.map c5).length:Nat))) rfl ?_ ?_<;>intro kf;apply cl;(have iH:k<m.bK.length:=by simpa using kf);have Rf:=uw k X;have pd:rB (i:Nat) (eY (eY s 0 (i:Nat) 0 (h3 m)) 1 (i:Nat) 0 0) (m.bK.take (k+1))=_:=DF _ _ iH;have AQ:=Re hJ _ (atK iH);(have zu:(m.bK.map c5)[k]?=some (c5 m.bK[k]):=by simp[iH]);have V7:=Rf.len;have as4:=Rf.ia;have as5:=Rf.ek;generalize hT:rB (i:Nat) (eY (eY s 0 (i:Nat) 0 (h3 m)) 1 (i:Nat) 0 0) (m.bK.take k)=t at*;change _=eY (rB (i:Nat) (eY (eY s 0 (i:Nat) 0 (h3 m)) 1 (i:Nat) 0 0) (m.bK.take k)) 2 (i:Nat) (k:Nat) (m.bK[k].target.length:Nat)at pd;rw[hT]at pd;generalize m.bK[k]=nh at*;refine kc ?_;refine nG ?_;refine jy ?_;refine⟨λ_=>by rw[atL];omega,?_⟩;refine jy ?_;refine⟨c5 nh,λ_=>zu,?_⟩;refine jy ?_;intro j4;apply d_;apply d_;refine ez ?_;refine Y.fd [(5,.box 210 em 0),(6,u (i:Nat)),(25,u ((P.map cI).length:Nat)),(26,u (i:Nat)),(66,.Q .none 2 (m.bK.map c5)),(67,u ((m.bK.map c5).length:Nat)),(68,u (k:Nat)),(9,u (k:Nat)),(10,.box 10 j4 0)] [(210,.box em [.an (.slice bQ (P.map cI).length fb),.Q (.own 211 KX) 5 (t.dG.map gI),u t.count]),(211,.own KX t.dG.length 5 358),(203,.row (.slice bQ (P.map cI).length fb) (P.map cI) 16 296),(10,.box j4 (c5 nh).cells)] [(210,210),(211,211),(203,203),(10,10)] (by exact⟨ar,rfl,ba⟩) ?_;(conv=>whnf);refine t1 ?_;apply d_;apply d_;apply d_;apply d_;apply cD;apply d_;apply tY;refine af.call rfl [.box 210 em 0,u 2,u (i:Nat),u (k:Nat),u (nh.target.length:Nat)] [(210,210),(211,211)] (c8.wY (by exact⟨rfl,ba⟩) (Q_ em (.slice bQ (P.map cI).length fb) KX t 2 (i:Nat) (k:Nat) (nh.target.length:Nat) atv AQ atv atv atv)) rfl ar ?_;rintro d aM ⟨rfl,Rg,rfl⟩;refine rT ?_;refine Y.fd [(5,.box 210 em 0),(6,u (i:Nat)),(25,u ((P.map cI).length:Nat)),(26,u (i:Nat)),(66,.Q .none 2 (m.bK.map c5)),(67,u ((m.bK.map c5).length:Nat)),(68,u (k:Nat))] [(210,.box em [.an (.slice bQ (P.map cI).length fb),.Q (.own 211 Rg) 5 ((eY t 2 (i:Nat) (k:Nat) (nh.target.length:Nat)).dG.map gI),u (eY t 2 (i:Nat) (k:Nat) (nh.target.length:Nat)).count]),(211,.own Rg (eY t 2 (i:Nat) (k:Nat) (nh.target.length:Nat)).dG.length 5 358),(203,.row (.slice bQ (P.map cI).length fb) (P.map cI) 16 296),(10,.box j4 (c5 nh).cells)] [(210,210),(211,211),(203,203),(10,10)] (by exact⟨ar,rfl,ba⟩) ?_;refine nD ?_;exact⟨(⟨k+1,iH⟩,Rg),[(210,210),(211,211),(203,203)],by show m.bK.length-(k+1)<m.bK.length-k;omega,ar,rfl,rfl,(by rw[pd];rfl),rfl,(by rw[pd];rfl),rfl,ba⟩;refine Y.exit ?_;(have f':k=m.bK.length:=by simp at kf;omega);subst f';rw[atW];refine nD ?_;exact⟨(⟨i+1,aE⟩,KX),[(210,210),(211,211),(203,203)],ays,ar,rfl,rfl,(by rw[cW,mO];rfl),rfl,(by rw[cW,mO];rfl),rfl,ba⟩;apply cl;have mO:wu s (i:Nat) m=eY s 0 (i:Nat) 0 (h3 m):=atG (by simpa using dO);refine nD ?_;exact⟨(⟨i+1,aE⟩,DH),[(210,210),(211,211),(203,203)],ays,ar,rfl,rfl,(by rw[cW,mO];rfl),rfl,(by rw[cW,mO];rfl),rfl,ba⟩);(have cg:i=P.length:=by simp at hc;omega);subst cg;rw[atW];refine sS ?_;refine Y.gU [(2,.box 210 em 0)] (pL em (.slice bQ (P.map cI).length fb) dS (oD P)) [(210,210),(211,211)] ⟨ar,rfl,ba⟩ ?_;(conv=>whnf);exact⟨_,E,em,_,dS,rfl,rfl⟩
def lS(a b c d:Bool):Nat->Bool
 |0=>a
 |1=>b
 |2=>c
 |3=>d
 |_=>false
def ml(x:List Nat)(p:Nat->Bool):List Nat:=x.filter p++[0,1,2,3].filter λk=>p k&&!x.contains k
def Bq(jY:Nat->D)(l:List Nat):List (D×D):=l.map λk=>(u (k:Nat),jY k)
def u4(jY:Nat->D)(x:List Nat)(a b c d:Bool):List (D×D):=Bq jY (ml x (lS a b c d))
theorem Rh{x:List Nat}{p:Nat->Bool}(X:k<4):k∈ml x p↔p k=true:=by simp only[ml,at1,auz];constructor;rintro(⟨_,h⟩|⟨_,h⟩);exact h;rw[atM]at h;exact h.1;intro h;by_cases F:k∈x;exact .inl ⟨F,h⟩;refine .inr ⟨?_,by simp[h,F]⟩;simp only[at6,awf,awB];omega
theorem ao8{x:List Nat}{p:Nat->Bool}(h:k∈ml x p):p k=true:=by simp only[ml,at1,auz,atM]at h;rcases h with⟨_,h⟩|⟨_,h,_⟩<;>exact h
theorem ao9{x:List Nat}{p q:Nat->Bool}(hi:i<4)(I:∀k,q k=(k==i||p k))(IA:∀k,p k=true->k<4):ml (ml x p++[i]) q=ml x p++[i]:=by(have h1:(ml x p++[i]).filter q=ml x p++[i]:=List.filter_eq_self.2 λk X=>by rw[I];rcases at1.1 X with h|h;rw[ao8 h];simp;simp at h;simp[h]);(have z:([0,1,2,3].filter λk=>q k&&!(ml x p++[i]).contains k)=[]:=awV.2 λk X=>by(have AL:k<4:=by simp at X;omega);by_cases kC:k=i;subst kC;simp;intro h;rw[atM,I]at h;(have y2:p k=true:=by simpa[kC]using h.1);have:=(Rh (x:=x) AL).2 y2;simp[this]at h);(conv=>lhs;rw[ml]);rw[h1,z,auK]
theorem ao_{jY:Nat->D}{l:List Nat}(h:i∉l):jC (Bq jY l) (u (i:Nat))=none:=by rw[jC,av3,avi];intro e ak;obtain⟨k,X,rfl⟩:=at3.1 ak;have:k≠i:=λe=>h (e ▸ X);simp only[oh];simp;omega
theorem aal{jY:Nat->D}{i:Nat}:∀{l:List Nat},i∈l->jC (Bq jY l) (u (i:Nat))=some (jY i)
 |k::r,h=>by by_cases X:k=i;subst X;simp[jC,Bq,oh];(have ae:i∈r:=by simpa[show¬i=k from λe=>X e.symm]using h);have aY:=aal (jY:=jY) ae;rw[jC]at aY⊢;have e:Bq jY (k::r)=(u (k:Nat),jY k)::Bq jY r:=rfl;rw[e,avI];(have aX:oh (u (k:Nat)) (u (i:Nat))=false:=by simp only[oh];simp;omega);rw[aX];exact aY
theorem ao'{a b c d:Bool}(h:lS a b c d k=true):k<4:=by rcases at5 k 4 with aC|aC;exact aC;obtain⟨j,rfl⟩:∃j,k=j+4:=⟨k-4,by omega⟩;cases h
theorem KY(jY:Nat->D)(x:List Nat){a b c d bv eh vg d':Bool}(i:Nat)(hi:i<4)(h0:lS a b c d i=false)(I:∀k,lS bv eh vg d' k=(k==i||lS a b c d k)): mH (u4 jY x a b c d) (u (i:Nat)) (jY i)=u4 jY (ml x (lS a b c d)++[i]) bv eh vg d':=by(have h1:i∉ml x (lS a b c d):=λh=>by rw[Rh hi]at h;rw[h0]at h;cases h);rw[mH,u4,ao_ h1,u4,ao9 hi I λk X=>ao' X];simp[Bq]
theorem G6(jY:Nat->D)(x:List Nat)(a b c d:Bool):∀e∈u4 jY x a b c d,mG (.int .i64) e.1=true:=λe ak=>by
 obtain⟨k,_,rfl⟩:=at3.1 ak;rfl
theorem apa(jY:Nat->D)(x:List Nat)(kind:Int)(h0:0<=kind)(aa:kind<=3):jC (u4 jY x true true true true) (u kind)=some (jY kind.toNat):=by(have e:kind=((kind.toNat:Nat):Int):=by omega);(conv=>lhs;rw[e]);refine aal ((Rh atv).2 ?_);(have:kind.toNat<4:=by omega);match kind.toNat,this with|0,_=>rfl|1,_=>rfl|2,_=>rfl|3,_=>rfl
theorem apb(b c d:Bool):∀k,lS true b c d k=(k==0||lS false b c d k)
 |0=>rfl
 |1=>rfl
 |2=>rfl
 |3=>rfl
 |k+4=>rfl
theorem apc(a c d:Bool):∀k,lS a true c d k=(k==1||lS a false c d k)
 |0=>rfl
 |1=>rfl
 |2=>rfl
 |3=>rfl
 |k+4=>rfl
theorem apd(a b d:Bool):∀k,lS a b true d k=(k==2||lS a b false d k)
 |0=>rfl
 |1=>rfl
 |2=>rfl
 |3=>rfl
 |k+4=>rfl
theorem ape(a b c:Bool):∀k,lS a b c true k=(k==3||lS a b c false k)
 |0=>rfl
 |1=>rfl
 |2=>rfl
 |3=>rfl
 |k+4=>rfl
def wv(s:li):Int:=k' (152+4*(1+((s.dG.map gI).length:Nat)))
def u5(s:li):Int:=yL (1+s.count)
def tB(s:li):Nat->Int
 |0=>1+s.count
 |1=>1+s.count+wv s
 |2=>3+s.count
 |_=>4+2*u5 s
def ww(s:li)(k:Nat):D:=u (tB s k)
theorem apf(n:Int):0<=yL n/\yL n<=5000:=by unfold yL;split;omega;rename_i h;(have:0<=n/\n<=4096:=by revert h;cases h:decide (n<0)<;>simp at h⊢<;>omega);rw[atX atv];omega
theorem apg{s:li}(h:s.dG.length<100000000):0<=wv s/\wv s<1000000000:=Q9 atv (by rw[atL];omega)
theorem aph(co:Nat)(dx dS:Value)(s:li)(al:s.dG.length<100000000):cV B 212 [.box 210 co 0] (aK (pL co dx dS s)) λd aM=>d=u (wv s)/\aM=aK (pL co dx dS s):=by refine jW Tryz.func212 Tryz.ntmps212 λU=>?_;apply b3;apply en;have gv:(s.dG.map gI).length=s.dG.length:=atL ..;apply kF;apply cD;refine g_ ?_;refine vn ?_;refine⟨[u (152+4*(1+((s.dG.map gI).length:Nat)))],_,λ_=>U9 _ atv atv,ar,?_⟩;(conv=>whnf);refine Y.gU [(2,u (wv s))] (pL co dx dS s) [(210,210),(211,211)] ⟨ar,rfl,ba⟩ ?_;exact ayD
theorem api(co:Nat)(dx dS:Value)(s:li)(h0:0<=s.count)(h1:s.count<1000000000000000000):cV B 213 [.box 210 co 0] (aK (pL co dx dS s)) λd aM=>d=u (u5 s)/\aM=aK (pL co dx dS s):=by refine jW Tryz.func213 Tryz.ntmps213 λU=>?_;apply b3;refine jb ?_;refine ll ?_;refine⟨[u (1+s.count)],_,λ_=>afP (1+s.count),ar,?_⟩;(conv=>whnf);refine Y.gU [(2,u (u5 s))] (pL co dx dS s) [(210,210),(211,211)] ⟨ar,rfl,ba⟩ ?_;exact ayD
theorem apj(co:Nat)(dx dS:Value)(s:li)(kind:Int)(j0:0<=kind)(M3:kind<=3)(al:s.dG.length<100000000)(h0:0<=s.count)(h1:s.count<1000000000000000000):cV B 141 [.box 210 co 0,u kind] (aK (pL co dx dS s)) λd aM=>d=u (tB s kind.toNat)/\aM=aK (pL co dx dS s):=by refine jW Tryz.func141 Tryz.ntmps141 λU=>?_;refine ch ?_;have as6:=apg al;have zK:=apf (1+s.count);apply en;refine Y.SC aL mixed (α:=Nat×List Nat) (λy f=>[(0,.box 210 co 0),(1,u kind),(5,bif f 0 then .an (.map (some y.1))else .any),(6,bif f 1 then .box 210 co 0 else .any),(7,bif f 2 then .box 210 co 0 else .any),(8,bif f 3 then .box 210 co 2 else .any),(9,bif f 4 then u s.count else .any),(10,bif f 5 then u (1+s.count)else .any),(11,bif f 7 then .box 210 co 0 else .any),(12,bif f 8 then .box 210 co 0 else .any),(13,bif f 9 then .box 210 co 2 else .any),(14,bif f 10 then u s.count else .any),(15,bif f 11 then u (1+s.count)else .any),(16,bif f 12 then .box 210 co 0 else .any),(17,bif f 13 then u (wv s)else .any),(18,bif f 14 then u (1+s.count+wv s)else .any),(19,bif f 16 then .box 210 co 0 else .any),(20,bif f 17 then .box 210 co 0 else .any),(21,bif f 18 then .box 210 co 2 else .any),(22,bif f 19 then u s.count else .any),(23,bif f 20 then u (3+s.count)else .any),(24,bif f 22 then .box 210 co 0 else .any),(25,bif f 23 then u (u5 s)else .any),(26,bif f 24 then u (2*u5 s)else .any),(27,bif f 25 then u (4+2*u5 s)else .any),(28,bif f 27 then .an (.map (some y.1))else .any),(29,bif f 28 then u kind else .any),(30,bif f 29 then u (tB s kind.toNat)else .any),(4,bif f 30 then u (tB s kind.toNat)else u 0)]) (λy f=>aK ([(210,.box co [.an dx,.Q (.own 211 dS) 5 (s.dG.map gI),u s.count]),(211,.own dS s.dG.length 5 358)]++(bif f 0 then[(5,.mp y.1 (u4 (ww s) y.2 (f 6) (f 15) (f 21) (f 26)))]else[]))) atz (0,[]) ?_ ?_ ?_ ?_;exact⟨E,E,.any _,.any _,.any _,.any _,.any _,.any _,.any _,.any _,.any _,.any _,.any _,.any _,.any _,.any _,.any _,.any _,.any _,.any _,.any _,.any _,.any _,.any _,.any _,.any _,.any _,.any _,E,ai⟩;exact nI.va (hs:=[(210,.box co [.an dx,.Q (.own 211 dS) 5 (s.dG.map gI),u s.count]),(211,.own dS s.dG.length 5 358)]) ⟨rfl,ba⟩;refine go ?_;refine⟨λy f be=>?_,?_⟩;obtain⟨f,rfl⟩:= be.o f 6 0;obtain⟨f,rfl⟩:= be.o f 15 0;obtain⟨f,rfl⟩:= be.o f 21 0;obtain⟨f,rfl⟩:= be.o f 26 0;obtain⟨f,rfl⟩:= be.o f 27 0;apply p5;refine af.ud (λaam=>?_);refine go ?_;exact fX (aam,[]) (nI.va (hs:=[(210,.box co [.an dx,.Q (.own 211 dS) 5 (s.dG.map gI),u s.count]),(211,.own dS s.dG.length 5 358),(5,.mp aam [])]) (by exact⟨rfl,ba⟩));refine⟨λy f be=>?_,?_⟩;obtain⟨f,rfl⟩:= be.o f 6 5 (be.n 5 4 (be.n 4 3 (be.n 3 2 (be.n 2 1))));obtain⟨f,rfl⟩:= be.o f 27 1;refine ln ?_;exact fX y;refine⟨λy f be=>?_,?_⟩;obtain⟨f,rfl⟩:= be.o f 6 5 (be.n 5 4 (be.n 4 3 (be.n 3 2)));obtain⟨f,rfl⟩:= be.o f 27 2;refine ln ?_;exact fX y;refine⟨λy f be=>?_,?_⟩;obtain⟨f,rfl⟩:= be.o f 6 5 (be.n 5 4 (be.n 4 3));obtain⟨f,rfl⟩:= be.o f 27 3;refine ln ?_;exact fX y;refine⟨λy f be=>?_,?_⟩;obtain⟨f,rfl⟩:= be.o f 6 5 (be.n 5 4);obtain⟨f,rfl⟩:= be.o f 27 4;refine ln ?_;exact fX y;refine⟨λy f be=>?_,?_⟩;obtain⟨f,rfl⟩:= be.o f 6 5;obtain⟨f,rfl⟩:= be.o f 27 5;refine ln ?_;exact fX y;refine⟨λy f be=>?_,?_⟩;obtain⟨f,rfl⟩:= be.o f 27 6;apply p5;refine af.yj (af.yu 5 (dA:=3) (d9:=3) rfl rfl rfl rfl rfl rfl (G6 _ _ _ _ _ _) ?_);refine go ?_;exact fX (y.1,ml y.2 (lS false (f 15) (f 21) (f 26))++[0]) (nI.va (hs:=[(210,.box co [.an dx,.Q (.own 211 dS) 5 (s.dG.map gI),u s.count]),(211,.own dS s.dG.length 5 358),(5,.mp y.1 (u4 (ww s) (ml y.2 (lS false (f 15) (f 21) (f 26))++[0]) true (f 15) (f 21) (f 26)))]) (by exact⟨rfl,rfl,atI (λV=>some (aI.mp y.1 V)) (KY (ww s) y.2 0 aty rfl (apb (f 15) (f 21) (f 26))),ai⟩));refine⟨λy f be=>?_,?_⟩;obtain⟨f,rfl⟩:= be.o f 15 14 (be.n 14 11 (be.n 11 10 (be.n 10 9 (be.n 9 8 (be.n 8 7)))));obtain⟨f,rfl⟩:= be.o f 27 7;refine ln ?_;exact fX y;refine⟨λy f be=>?_,?_⟩;obtain⟨f,rfl⟩:= be.o f 15 14 (be.n 14 11 (be.n 11 10 (be.n 10 9 (be.n 9 8))));obtain⟨f,rfl⟩:= be.o f 27 8;refine ln ?_;exact fX y;refine⟨λy f be=>?_,?_⟩;obtain⟨f,rfl⟩:= be.o f 15 14 (be.n 14 11 (be.n 11 10 (be.n 10 9)));obtain⟨f,rfl⟩:= be.o f 27 9;refine ln ?_;exact fX y;refine⟨λy f be=>?_,?_⟩;obtain⟨f,rfl⟩:= be.o f 15 14 (be.n 14 11 (be.n 11 10));obtain⟨f,rfl⟩:= be.o f 27 10;refine ln ?_;exact fX y;refine⟨λy f be=>?_,?_⟩;obtain⟨f,rfl⟩:= be.o f 15 14 (be.n 14 11);obtain⟨f,rfl⟩:= be.o f 27 11;refine ln ?_;exact fX y;refine⟨λy f be=>?_,?_⟩;obtain⟨f,rfl⟩:= be.o f 15 14 (be.n 14 13 (be.n 13 12));obtain⟨f,rfl⟩:= be.o f 26 25 (be.n 25 24 (be.n 24 23 (be.n 23 13 (be.n 13 12))));obtain⟨f,rfl⟩:= be.o f 27 12;refine ln ?_;exact fX y;refine⟨λy f be=>?_,?_⟩;obtain⟨f,rfl⟩:= be.o f 15 14 (be.n 14 13);obtain⟨f,rfl⟩:= be.o f 26 25 (be.n 25 24 (be.n 24 23 (be.n 23 13)));obtain⟨f,rfl⟩:= be.o f 27 13;apply p5;refine af.Cb rfl [.box 210 co 0] [(210,210),(211,211)] (hs:=pL co dx dS s) (by exact⟨rfl,ba⟩) (aph co dx dS s al) rfl ar E ?_;refine go ?_;exact fX y;refine⟨λy f be=>?_,?_⟩;obtain⟨f,rfl⟩:= be.o f 15 14;obtain⟨f,rfl⟩:= be.o f 27 14;refine ln ?_;exact fX y;refine⟨λy f be=>?_,?_⟩;obtain⟨f,rfl⟩:= be.o f 27 15;apply p5;refine af.yj (af.yu 5 (dA:=3) (d9:=3) rfl rfl rfl rfl rfl rfl (G6 _ _ _ _ _ _) ?_);refine go ?_;exact fX (y.1,ml y.2 (lS (f 6) false (f 21) (f 26))++[1]) (nI.va (hs:=[(210,.box co [.an dx,.Q (.own 211 dS) 5 (s.dG.map gI),u s.count]),(211,.own dS s.dG.length 5 358),(5,.mp y.1 (u4 (ww s) (ml y.2 (lS (f 6) false (f 21) (f 26))++[1]) (f 6) true (f 21) (f 26)))]) (by exact⟨rfl,rfl,atI (λV=>some (aI.mp y.1 V)) (KY (ww s) y.2 1 aty rfl (apc (f 6) (f 21) (f 26))),ai⟩));refine⟨λy f be=>?_,?_⟩;obtain⟨f,rfl⟩:= be.o f 21 20 (be.n 20 19 (be.n 19 18 (be.n 18 17 (be.n 17 16))));obtain⟨f,rfl⟩:= be.o f 27 16;refine ln ?_;exact fX y;refine⟨λy f be=>?_,?_⟩;obtain⟨f,rfl⟩:= be.o f 21 20 (be.n 20 19 (be.n 19 18 (be.n 18 17)));obtain⟨f,rfl⟩:= be.o f 27 17;refine ln ?_;exact fX y;refine⟨λy f be=>?_,?_⟩;obtain⟨f,rfl⟩:= be.o f 21 20 (be.n 20 19 (be.n 19 18));obtain⟨f,rfl⟩:= be.o f 27 18;refine ln ?_;exact fX y;refine⟨λy f be=>?_,?_⟩;obtain⟨f,rfl⟩:= be.o f 21 20 (be.n 20 19);obtain⟨f,rfl⟩:= be.o f 27 19;refine ln ?_;exact fX y;refine⟨λy f be=>?_,?_⟩;obtain⟨f,rfl⟩:= be.o f 21 20;obtain⟨f,rfl⟩:= be.o f 27 20;refine ln ?_;exact fX y;refine⟨λy f be=>?_,?_⟩;obtain⟨f,rfl⟩:= be.o f 27 21;apply p5;refine af.yj (af.yu 5 (dA:=3) (d9:=3) rfl rfl rfl rfl rfl rfl (G6 _ _ _ _ _ _) ?_);refine go ?_;exact fX (y.1,ml y.2 (lS (f 6) (f 15) false (f 26))++[2]) (nI.va (hs:=[(210,.box co [.an dx,.Q (.own 211 dS) 5 (s.dG.map gI),u s.count]),(211,.own dS s.dG.length 5 358),(5,.mp y.1 (u4 (ww s) (ml y.2 (lS (f 6) (f 15) false (f 26))++[2]) (f 6) (f 15) true (f 26)))]) (by exact⟨rfl,rfl,atI (λV=>some (aI.mp y.1 V)) (KY (ww s) y.2 2 aty rfl (apd (f 6) (f 15) (f 26))),ai⟩));refine⟨λy f be=>?_,?_⟩;obtain⟨f,rfl⟩:= be.o f 26 25 (be.n 25 24 (be.n 24 23 (be.n 23 22)));obtain⟨f,rfl⟩:= be.o f 27 22;refine ln ?_;exact fX y;refine⟨λy f be=>?_,?_⟩;obtain⟨f,rfl⟩:= be.o f 26 25 (be.n 25 24 (be.n 24 23));obtain⟨f,rfl⟩:= be.o f 27 23;apply p5;refine af.Cb rfl [.box 210 co 0] [(210,210),(211,211)] (hs:=pL co dx dS s) (by exact⟨rfl,ba⟩) (api co dx dS s h0 h1) rfl ar E ?_;refine go ?_;exact fX y;refine⟨λy f be=>?_,?_⟩;obtain⟨f,rfl⟩:= be.o f 26 25 (be.n 25 24);obtain⟨f,rfl⟩:= be.o f 27 24;refine ln ?_;refine .inl ⟨λ_=>by simp only[dk];unfold u5;omega,?_⟩;refine go ?_;exact fX y;refine⟨λy f be=>?_,?_⟩;obtain⟨f,rfl⟩:= be.o f 26 25;obtain⟨f,rfl⟩:= be.o f 27 25;refine ln ?_;refine .inl ⟨λ_=>by simp only[dk];unfold u5;omega,?_⟩;refine go ?_;exact fX y;refine⟨λy f be=>?_,?_⟩;obtain⟨f,rfl⟩:= be.o f 27 26;apply p5;refine af.yj (af.yu 5 (dA:=3) (d9:=3) rfl rfl rfl rfl rfl rfl (G6 _ _ _ _ _ _) ?_);refine go ?_;exact fX (y.1,ml y.2 (lS (f 6) (f 15) (f 21) false)++[3]) (nI.va (hs:=[(210,.box co [.an dx,.Q (.own 211 dS) 5 (s.dG.map gI),u s.count]),(211,.own dS s.dG.length 5 358),(5,.mp y.1 (u4 (ww s) (ml y.2 (lS (f 6) (f 15) (f 21) false)++[3]) (f 6) (f 15) (f 21) true))]) (by exact⟨rfl,rfl,atI (λV=>some (aI.mp y.1 V)) (KY (ww s) y.2 3 aty rfl (ape (f 6) (f 15) (f 21))),ai⟩));refine⟨λy f be=>?_,?_⟩;(conv=>whnf);refine ln ?_;exact fX y;refine⟨λy f be=>?_,?_⟩;(conv=>whnf);refine ln ?_;exact fX y;refine⟨λy f be=>?_,?_⟩;obtain⟨f,rfl⟩:=EG f 0 (be 27 0 rfl rfl);obtain⟨f,rfl⟩:=EG f 6 (be 27 6 rfl rfl);obtain⟨f,rfl⟩:=EG f 15 (be 27 15 rfl rfl);obtain⟨f,rfl⟩:=EG f 21 (be 27 21 rfl rfl);obtain⟨f,rfl⟩:=EG f 26 (be 27 26 rfl rfl);apply p5;refine af.Ie 5 (dA:=3) (d9:=3) (k:=u kind) (d:=u (tB s kind.toNat)) rfl rfl rfl rfl rfl rfl (G6 _ _ _ _ _ _) (apa (ww s) y.2 kind j0 M3) ?_;refine go ?_;exact fX y;refine⟨λy f be=>?_,?_⟩;(conv=>whnf);refine ln ?_;exact fX y;exact trivial;intro y f M;obtain⟨f,rfl⟩:=ac8 f 31 (by exact M);clear M;(conv=>whnf);refine Y.jX [(4,u (tB s kind.toNat))] (aK [(210,.box co [.an dx,.Q (.own 211 dS) 5 (s.dG.map gI),u s.count]),(211,.own dS s.dG.length 5 358)]) (.same (by exact ar) (nI.va (hs:=[(210,.box co [.an dx,.Q (.own 211 dS) 5 (s.dG.map gI),u s.count]),(211,.own dS s.dG.length 5 358)]) (by exact⟨rfl,ba⟩))) ?_;(conv=>whnf);refine Y.gU [(4,u (tB s kind.toNat))] (pL co dx dS s) [(210,210),(211,211)] ⟨ar,rfl,ba⟩ ?_;exact ayD
def j9(n:ad):ad:=jG (λah=>ah.map ad.name) 3 1 n
def jp(n:ad)(kind:Int):Int×Int:=if(bif !AK kind then true else !valid n)=true then(0,1)else(tB (oD (h2 (j9 n))) kind.toNat,0)
theorem apk(aV:dc B)(n:ad)(kind:Int)(bz:aB n+n.name.length<10000000)(W:valid n=true->aB n<800000/\aB (j9 n)<1000000):aS B 94 [aH n,u kind] (.bl [u (jp n kind).1,u (jp n kind).2]):=by refine bB Tryz.func94 Tryz.ntmps94 λU=>?_;refine go ?_;intro cc;refine go ?_;refine br (afR kind) ?_;refine br (AA aV n bz) ?_;refine aJ (bif !AK kind then true else !valid n) rfl ?_ ?_<;>intro hc;refine go ?_;rw[jp,atH hc];exact ar;(have lw:AK kind=true/\valid n=true:=by revert hc;cases AK kind<;>cases valid n<;>simp);obtain⟨zg,PP⟩:=W lw.2;(have j0:0<=kind/\kind<=3:=by have:=lw.1;unfold AK at this;revert this;cases h:decide (0<=kind)<;>simp at h⊢<;>omega);(have DG:aS B 208 [u 3,aH n] (.bl [aH (j9 n),u 0]):=by have h:=ahA aV (λah=>ah.map ad.name) 3 (λ_=>Ob aV (.inr rfl)) n bz (λ_=>zg);(have e:th (λah=>ah.map ad.name) 3 n=(j9 n,0):=by unfold th;rw[atG aty,atG (by rw[lw.2];decide)];rfl);rw[e]at h;exact h);have ip:=KW (l:=h2 (j9 n)) (λm hm=>Nat.lt_of_le_of_lt (KV _ m hm) PP) (h2 (j9 n)).length (atP _);rw[atW]at ip;have Om:=KU (j9 n);have mi:=ip.len;have xD:=ip.ia;have Aq:=ip.ek;refine go ?_;refine .inr (af.call rfl [aH n] [(210,210),(211,211)] (c8.S1 (by exact⟨rfl,ba⟩) (ao5 aV n (j9 n) DG PP)) rfl ar ?_);rintro d aM ⟨co,dx,dS,rfl,rfl⟩;refine p7 ?_;refine .inr (af.call rfl [.box 210 co 0,u kind] [(210,210),(211,211)] (c8.wY (by exact⟨rfl,ba⟩) (apj co dx dS (oD (h2 (j9 n))) kind j0.1 j0.2 atv xD atv)) rfl ar ?_);rintro d aM ⟨rfl,rfl⟩;refine p7 ?_;rw[jp,atG (by rw[hc];decide)];refine go ?_;exact ar
theorem apl:aS B 199 [.Q .none 1 [],u 0,u 0] (.bl []):=by refine fn Tryz.func199 Tryz.ntmps199 λU=>?_;refine go ?_;refine gn (λ_:Unit=>True) [] [] (λ_=>[(6,u 1),(2,u 0)]) (λ_=>[]) (λ_=>0) () trivial [] ?_;rintro⟨⟩ _;refine go ?_;exact trivial
theorem apm:aS B 138 [.Q .none 1 [],u 0,u 0,u 0] (.bl []):=by have apn:=apl (B:=B);refine fn Tryz.func138 Tryz.ntmps138 λU=>?_;refine go ?_;refine gn (λ_:Unit=>True) [0,1,2,3] [] (λ_=>[]) (λ_=>[]) (λ_=>0) () trivial [] ?_;rintro⟨⟩ _;refine go ?_;refine br apn ?_;exact trivial
theorem apo:aS B 92 [.Q .none 1 []] (.bl []):=by have app:=apm (B:=B);have apq:aS B 81 [.int .u64 0] (u 0):=.pure (jD Tryz.func81 rfl atz) rfl rfl λw _=>Tryz.bits_Len 0 w aty aty;refine fn Tryz.func92 Tryz.ntmps92 λU=>?_;refine go ?_;refine sX (⟨by decide,by decide⟩:dk .u64 (([]:List D).length:Int)) ?_;(conv=>whnf);refine go ?_;refine br apq ?_;refine br app ?_;exact trivial
theorem apr:aS B 58 [.fn (.func 93) [] [.a7 1 [.Q .none 1 []] 0 0]] (.Q .none 1 []):=by have aps:=aoI (B:=B) [] aty;have apt:=apo (B:=B);refine fn Tryz.func58 Tryz.ntmps58 λU=>?_;refine go ?_;refine br aps ?_;refine br apt ?_;exact E
mutual
theorem aan:∀n:ad,(h2 n).length=fI n
 |.mk a b c d e f g h i j ah cE=>by rw[h2,fI,atQ,aao ah];omega
theorem aao:∀l:List ad,(gu l).length=eW l
 |[]=>rfl
 |n::r=>by rw[gu,eW,atO,aan n,aao r]
end
mutual
theorem aap:∀(n:ad) (l:Int),1<=l->iO n l=true->∀m∈h2 n,∃hV,1<=hV/\one m hV=0
 |.mk a b c d e f g h i j ah cE,l,al,aT,m,hm=>by
  rw[h2]at hm;rcases at6.1 hm with e|e
  ·subst e;exact⟨l,al,KC aT⟩
  rw[iO,atM]at aT;exact aaq ah (l+1) atv aT.2 m e
theorem aaq:∀(ah:List ad) (l:Int),1<=l->nn ah l=true->∀m∈gu ah,∃hV,1<=hV/\one m hV=0
 |[],l,_,_,m,hm=>by simp[gu]at hm
 |k::ah,l,al,aT,m,hm=>by
  rw[nn,atM]at aT;rw[gu]at hm;rcases at1.1 hm with e|e
  ·exact aap k l al aT.1 m e
  exact aaq ah l al aT.2 m e
end
theorem Ri{n b:Int}(h0:0<=n)(h1:n<=2048*b)(G:0<=b):0<=k' n/\k' n<=b:=by unfold k';split;omega;unfold kj;rw[atX atv];omega
theorem aar{s:li}(i:Int){l:List nH}(al:∀x∈l,x.target.length<300000):∀k,k<=l.length->s.count<=(rB i s (l.take k)).count/\(rB i s (l.take k)).count<=s.count+148*(k:Int)
 |0,_=>by rw[av2];simp[rB,u3]
 |k+1,X=>by have aY:=aar (s:=s) i al k atv;rw[rB,DF _ _ (show k<l.length by omega)];have e:rB i s (l.take k)=u3 (λs k x=>eY s 2 i k (x.target.length:Nat)) s (l.take k):=rfl;rw[<-e];generalize rB i s (l.take k)=V at*;have:=Ri (n:=(l[k].target.length:Nat)) (b:=147) atv (by have:=al _ (atK (show k<l.length by omega));omega) aty;simp only[eY];omega
theorem aas{m:ad}{l:Int}(h:one m l=0):m.J.length<=64/\m.bK.length<=4:=axC
theorem apu{m:ad}{l:Int}(h1:1<=l)(h:one m l=0):0<=h3 m/\h3 m<=2048*8400:=by have hs:=aas h;have ax:=(KB h1 h).2.2.1;have z:=KP m.target (cN 47 [] (rz m.target)) (xP m.target);have aa:=(s6 (c:=47) (rz m.target) []).1;have aC:=Q6 m.target;have a_:=Q7 m.target;have bz:=KQ [] true true;have M:=Q8 m.J (uu [] true true).1 bz.1;unfold h3 zv;split;omega;split;unfold DE;omega;unfold u2;omega
theorem apv{s:li}(i:Int){m:ad}{l:Int}(h1:1<=l)(h:one m l=0)(bz:aB m<300000):s.count<=(wu s i m).count/\(wu s i m).count<=s.count+9000:=by have hc:=apu h1 h;have hs:=aas h;have ag:=Ri hc.1 hc.2 aty;(have Md:k' 0=0:=by unfold k';rw[atH aty]);unfold wu;split;have:=aar (s:=eY (eY s 0 i 0 (h3 m)) 1 i 0 0) i (l:=m.bK) (λx F=>by obtain⟨k,X,rfl⟩:=auh.1 F;have h1:=H8 X;have z:=l' m;omega) m.bK.length (atP _);rw[atW]at this;simp only[eY,Md]at this⊢;omega;simp only[eY];omega
theorem aat{l:List ad}(al:∀m∈l,aB m<300000/\∃hV,1<=hV/\one m hV=0):∀k,k<=l.length->0<=(oD (l.take k)).count/\(oD (l.take k)).count<=9000*(k:Int)
 |0,_=>by rw[av2];simp[oD,u3]
 |k+1,X=>by have aY:=aat al k atv;rw[oD,DF _ _ (show k<l.length by omega)];have e:oD (l.take k)=u3 wu ⟨[],0⟩ (l.take k):=rfl;rw[<-e];generalize oD (l.take k)=V at*;obtain⟨h1,hV,z,aa⟩:=al _ (atK (show k<l.length by omega));have:=apv (s:=V) (k:Nat) z aa h1;omega
theorem apw(aV:dc B){n:ad}(M:pA n 100000=true)(kind:Int):0<=(jp n kind).1/\(jp n kind).1<=500000/\(valid n=true->aB (j9 n)<300000):=by(have DG:j9 n=jG (cd 3) 3 1 n:=by unfold j9;rw[F_ (.inr rfl)]);by_cases W:valid n=true;(have hs:aB (j9 n)<300000:=by rw[DG];exact(aig (cd 3) 3 (aie aV aty) W M).2);(have EM:valid (j9 n)=true:=by rw[DG];exact ai_ aty W);(have aT:iO (j9 n) 1=true:=by rw[xi,atM]at EM;exact EM.2);(have Di:fI (j9 n)<=40:=by have h1:=OQ (λah=>ah.map ad.name) 3 n 1;have z:=(y4 M).2;unfold j9;omega);have dd:=aan (j9 n);have hE:∀m∈h2 (j9 n),aB m<300000/\∃hV,1<=hV/\one m hV=0:=λm hm=>⟨by have:=KV (j9 n) m hm;omega,aap (j9 n) 1 (auu _) aT m hm⟩;have G:=aat hE (h2 (j9 n)).length (atP _);have ip:=KW (l:=h2 (j9 n)) (λm hm=>by have:=(hE m hm).1;omega) (h2 (j9 n)).length (atP _);rw[atW]at G ip;have as7:=KU (j9 n);have c0:=ip.len;obtain⟨dH,hO⟩:∃dH,oD (h2 (j9 n))=dH:=⟨_,rfl⟩;rw[hO]at G ip c0;(have as8:0<=wv dH/\wv dH<=1000:=by unfold wv;exact Ri atv (by rw[atL];omega) aty);(have as9:0<=u5 dH/\u5 dH<=5000:=by unfold u5 yL;split;omega;rename_i hc;(have h1:¬(4096:Int)<1+dH.count:=by intro h;rw[aug (by omega:¬1+dH.count<0),auM h]at hc;exact hc rfl);rw[atX atv];omega);(have bz:0<=(jp n kind).1/\(jp n kind).1<=500000:=by unfold jp;split;exact⟨by decide,by decide⟩;rw[hO];dsimp only;(have as_:9000*(((h2 (j9 n)).length:Nat):Int)<=360000:=by rw[dd];omega);generalize kind.toNat=hP;match hP with|0=>simp only[tB];omega|1=>simp only[tB];omega|2=>simp only[tB];omega|k+3=>simp only[tB];omega);exact⟨bz.1,bz.2,λ_=>hs⟩;unfold jp;rw[atH (by cases h:valid n with|true=>exact absurd h W|false=>cases AK kind<;>rfl)];exact⟨by decide,by decide,λh=>absurd h W⟩
theorem apx{a b:List atE}(h:a.Perm b):mW a=mW b:=by(have aau:∀x y V:atE,decide (x<=y)=true->decide (y<=V)=true->decide (x<=V)=true:=λx y V h1 z=>by simp only[aup]at*;exact List.le_trans h1 z);(have aav:∀x y:atE,(decide (x<=y)||decide (y<=x))=true:=λx y=>by simp only[au3,aup];exact List.le_total x y);refine awd (le:=λx y:atE=>decide (x<=y)=true) (λx y _ _ h1 z=>?_) (awj aau aav a) (awj aau aav b) (((awK a _).trans h).trans (awK b _).symm);simp only[aup]at h1 z;exact List.le_antisymm h1 z
mutual
theorem aaw:∀n:ad,o2 n<=n.name.length+aB n
 |.mk a b c d e f g h i j ah cE=>by
  have h1:=aax ah;have z:=l' (.mk a b c d e f g h i j ah cE);rw[o2];have aa:aB (.mk a b c d e f g h i j ah cE)=2+c.length+d.length+l_ cE+eF ah:=z;have aC:(ad.mk a b c d e f g h i j ah cE).name.length=a.length:=rfl;omega
theorem aax:∀l:List ad,kQ l<=eF l
 |[]=>atP _
 |k::r=>by
  have h1:=aaw k;have z:=aax r;rw[kQ];simp only[eF];omega
end
theorem aay(l:List atE)(al:l.length<1000000):aS B 58 [DC l] (.Q .none 1 (aU (mW l))):=by cases l with|nil=>rw[show mW []=[] by simp[mW]];exact apr|cons a r=>exact aoM (a::r) atx al
noncomputable def wx(n:ad)(m:e2)(mp:List (atE×cM))(start:Int)(cX:List atE)(cap:Int):mK×Int:=rx (gs n m mp start cX) (kv (he m) n) (jp n m.dl) cap
theorem KZ(n:ad):(ci n).length<=fI n:=by unfold ci;have h:=avY (ie n) (if valid n then dP n [] 1 else[]);(have z:(if valid n then dP n [] 1 else[]).length<=fI n:=by split;rw[AY];exact atP _;exact at7 _);omega
theorem K0(aV:dc B){n:ad}(m:e2)(av:fv n)(M:pA n 100000=true):(aS B 30 [aH n,r9 (he m)] (.bl [u (kv (he m) n).1,u (kv (he m) n).2])/\0<=(kv (he m) n).1/\(kv (he m) n).1<=1000000000)/\aS B 94 [aH n,u m.dl] (.bl [u (jp n m.dl).1,u (jp n m.dl).2])/\0<=(jp n m.dl).1/\(jp n m.dl).1<=500000/\aB n<1000000:=by have hs:=y4 M;have H5:aB n+n.name.length<2200000:=av;have cG:=aaw n;have ao:=apw (B:=B) aV M m.dl;refine⟨aoe aV (he m) n av (λW=>?_),apk aV n m.dl atv (λW=>⟨by omega,by have:=ao.2.2 W;omega⟩),ao.1,ao.2.1,by omega⟩;(have aT:iO n 1=true:=by rw[xi,atM]at W;exact W.2);have jS:=(KB (auu 1) (KC aT)).2.1;exact⟨by omega,by omega,by omega⟩
theorem Rj(aV:dc B)(n:ad)(m:e2)(cX:List atE)(aR:List cM)(start cap:Int)(mp:List (atE×cM))(av:fv n)(M:pA n 100000=true)(aT:aR.length<1000000)(mi:∀g∈aR,g.len<=9223372036854775807)(po:m.gO.length<1000000)(hO:jn n m aR start=some mp)(eZ:start<=cap)(bw:cap<=4096)(au:cX.Perm (lK (gs n m mp start []) (ci n))): aS B 19 [aH n,hW m,.Q .none 1 (aU cX),.Q .none 3 (aR.map bg),u start,u cap] (.bl [lB (wx n m mp start cX cap).1,u (wx n m mp start cX cap).2]):=by obtain⟨⟨wt,dj,g6⟩,Rk,w6,E',hsz⟩:=K0 (B:=B) aV m av M;have du:=KZ n;have apy:=(y4 M).2;have dd:=Gn (gs n m mp start []) (ci n);have gJ:=au.length_eq;exact aoj aV n m cX aR start cap av aT mi atv po atv mp hO atv atv (kv (he m) n) (jp n m.dl) (λ_=>wt) (λ_=>Rk) (λh0=>Q0 av hO atv ⟨dj,g6⟩ ⟨w6,by omega⟩ h0 hsz) (mW cX) (mW (lK (gs n m mp start []) (ci n))) (λl=>aoL (aU l)) (aay cX atv) (aay _ atv) (by rw[mW,awz];omega) (by rw[mW,awz];omega) (by rw[apx au];simp)
theorem apz(aV:dc B)(n:ad)(m:e2)(aR:List cM)(start:Int)(mp:List (atE×cM))(av:fv n)(M:pA n 100000=true)(aT:aR.length<1000000)(mi:∀g∈aR,g.len<=9223372036854775807)(po:m.gO.length<1000000)(hO:jn n m aR start=some mp): aS B 20 [aH n,hW m,.Q .none 3 (aR.map bg),u start] (.bl [u (xN (iW n m mp start) (kv (he m) n) (jp n m.dl)).1,u (xN (iW n m mp start) (kv (he m) n) (jp n m.dl)).2]):=by obtain⟨⟨wt,dj,g6⟩,Rk,w6,E',hsz⟩:=K0 (B:=B) aV m av M;have du:=KZ n;have apy:=(y4 M).2;have dd:=Gn (gs n m mp start []) (ci n);exact aoh aV n m aR start av aT mi atv po mp hO (kv (he m) n) (jp n m.dl) (λ_=>wt) (λ_=>Rk) (λh0=>Q0 av hO atv ⟨dj,g6⟩ ⟨w6,by omega⟩ h0 hsz)
theorem K1{bW:List eS}{start:Int}:∀(l:List cM) (j3 mp:List (atE×cM)),l.foldl (qB bW start) (some j3)=some mp->∀p,(bj mp p).isSome=((bj j3 p).isSome||l.any λg=>g.path==p)
 |[],j3,mp,h,p=>by simp at h;subst h;simp
 |g::l,j3,mp,h,p=>by rw[avj]at h;cases ag:qB bW start (some j3) g with|none=>rw[ag,KK]at h;cases h|some m1 =>rw[ag]at h;have aY:=K1 l m1 mp h p;(have ly:m1=fC j3 g.path g:=by unfold qB at ag;simp only[aw4]at ag;split at ag;cases ag;split at ag;cases ag;cases ag;rfl);rw[aY,ly,kq,awZ];by_cases au:p=g.path;subst au;simp;rw[atG au,show(g.path==p)=false from aur.2 λe=>au e.symm];simp
variable{aR:List cM}{start:Int}{mp:List (atE×cM)}
theorem Rl{n:ad}{m:e2}(h:jn n m aR start=some mp):lK (gs n m mp start []) (ci n)=jo aR (ci n):=by(have cy:∀p,(bj mp p).isSome=aR.any λg=>g.path==p:=λp=>by unfold jn at h;split at h;cases h;have:=K1 aR [] mp h p;rw[this];simp[bj]);unfold lK jo;congr 1;apply List.filter_congr;intro f _;have h1:JA (gs n m mp start []) f=bif !(bj mp f.path).isSome then f.data !=[]else false:=rfl;rw[h1,cy,DD];have z:=BY (λg:cM=>g.path==f.path) aR;cases ha:aR.any (λg=>g.path==f.path)with|true =>rw[ha]at z;have:0<=fe (λg:cM=>g.path==f.path) aR:=auc z;rw[aug atv];cases f.data !=[]<;>rfl|false =>rw[ha]at z;have:=at0 z;rw[auM atv];cases f.data !=[]<;>rfl
noncomputable def zx(n:ad)(m:e2)(aR:List cM)(start:Int):mK×Bool :=
 if(bif bif !tA n m [] aR then true else decide (start<0)then true else decide (1000<start))=true then(rk,false)
 else match jn n m aR start with
  |none=>(rk,false)
  |some mp=>((wx n m mp start (jo aR (ci n)) 4096).1,(wx n m mp start (jo aR (ci n)) 4096).2==0)
theorem apA(aV:dc B)(n:ad)(m:e2)(aR:List cM)(start:Int)(av:fv n)(hm:m.name.length+m.set.length+m.pr.length+m.ps.length+m.l9.length<1000000000)(aT:aR.length<1000000)(mi:∀g∈aR,g.len<=9223372036854775807)(po:m.gO.length<1000000):
  aS B 14 [aH n,hW m,.Q .none 3 (aR.map bg),u start] (.bl [lB (zx n m aR start).1,.bool (zx n m aR start).2]):=by
 have aaz:=aoG (B:=B) n m [] aR av hm
 have it:zx n m aR start=if(bif bif !tA n m [] aR then true else decide (start<0)then true else decide (1000<start))=true then(rk,false)
  else match jn n m aR start with
   |none=>(rk,false)
   |some mp=>((wx n m mp start (jo aR (ci n)) 4096).1,(wx n m mp start (jo aR (ci n)) 4096).2==0):=rfl
 refine fn Tryz.func14 Tryz.ntmps14 λU=>?_;refine go ?_;intro cP
 (conv=>whnf)
 refine cT ?_;intro cx
 (conv=>whnf)
 refine cT ?_;intro cF
 (conv=>whnf)
 refine go ?_;refine br aaz ?_;refine cb (t:=bif bif !tA n m [] aR then true else decide (start<0)then true else decide (1000<start)) ?_ ?_<;>intro hc
 ·rw[atH hc]at it;rw[it];refine go ?_;exact⟨QY,E,ai⟩
 rw[atG (by rw[hc];decide)]at it
 have xR:tA n m [] aR=true/\0<=start/\start<=1000:=by
  cases h1:tA n m [] aR with
  |false=>rw[h1]at hc;cases hc
  |true =>
   rw[h1]at hc
   cases z:decide (start<0)with
   |true=>rw[z]at hc;cases hc
   |false =>
    rw[z]at hc;have:=at0 z;have:=at0 (show decide (1000<start)=false from hc);exact⟨rfl,by omega,by omega⟩
 have m9:pA n 100000=true:=by
  have h:=xR.1;unfold tA at h
  cases h1:pA n 100000 with
  |true=>rfl
  |false=>rw[h1]at h;cases h
 have Mv:=(y4 m9).2
 have aaA:=aoC (B:=B) n aR av aT (λp au=>by
  split at au
  ·have:=Pj au;have:aB n<2200000:=by have:=av;unfold fv at this;omega
   omega
  ·cases au) (by
  split
  ·rw[AY];omega
  simp)
 have du:=KZ n
 obtain⟨K2,F2,E7,aaB⟩:∃K2 F2,zx n m aR start=(K2,F2==0)/\aS B 19 [aH n,hW m,.Q .none 1 (aU (jo aR (ci n))),.Q .none 3 (aR.map bg),u start,u 4096] (.bl [lB K2,u F2]):=by
  cases ag:jn n m aR start with
  |none =>
   rw[ag]at it;have dd:=Z6 aR (ci n);exact⟨rk,1,it,aom aV n m (jo aR (ci n)) aR start 4096 av aT mi atv ag⟩
  |some mp =>
   rw[ag]at it;exact⟨_,_,it,Rj aV n m (jo aR (ci n)) aR start 4096 mp av m9 aT mi po ag atv atv (by rw[Rl ag])⟩
 rw[E7];have apB:=lq.mk aaA;have apC:=lq.mk aaB;clear aaA aaB aaz;refine go ?_;refine' eR [(4,.box cP (aH n).cells),(5,.box cx (hW m).cells),(8,.box cF rj)] 0 (λy=>[_,_,_,_,_,_,_,_,_,_,_,.box 10 y 0,.any,_]) (λy=>[(11,10,some (.box y rj)),(12,10,some (.box y (lB K2).cells))]) [0,0,0,0,12,0,0,127,255,511,511,0,3071,8191] [(11,10),(12,10)] ?_ ?_
 rotate_left 12
 ·refine dC ?_;refine⟨λy=>.inl ?_,dC ?_⟩
  ·(conv=>whnf)
   refine⟨_,_,λ_=>apB.cm,jd,?_⟩;exact E
  refine⟨λy=>.inl ?_,?_⟩
  ·(conv=>whnf)
   refine⟨_,_,λ_=>apC.cm,jd,?_⟩;exact E
  refine dC ?_;refine HG ?_;refine vs ?_;exact trivial
 intro j4
 (conv=>whnf)
 refine go ?_;exact ar
theorem aaC(p:dr)(s aj:Int×Int):(eG p s aj).1.start=p.start/\(eG p s aj).1.files=p.files/\(eG p s aj).1.cX=p.cX/\(eG p s aj).1.aR=p.aR/\(eG p s aj).1.m=p.m/\((eG p s aj).1.dl=aj.1\/(eG p s aj).1.dl=p.dl):=by unfold eG;split;exact⟨rfl,rfl,rfl,rfl,rfl,.inr rfl⟩;(have z:(iQ p s).start=p.start/\(iQ p s).files=p.files/\(iQ p s).cX=p.cX/\(iQ p s).aR=p.aR/\(iQ p s).m=p.m/\(iQ p s).dl=p.dl:=by unfold iQ;split<;>exact⟨rfl,rfl,rfl,rfl,rfl,rfl⟩);split;exact⟨z.1,z.2.1,z.2.2.1,z.2.2.2.1,z.2.2.2.2.1,.inl rfl⟩;exact⟨z.1,z.2.1,z.2.2.1,z.2.2.2.1,z.2.2.2.2.1,.inr z.2.2.2.2.2⟩
structure aaD (n:ad) (m:e2) (aR:List cM) (start:Int) (l:mK):Prop where
 apD:tA n m [] aR=true
 gN:0<=start
 e9:start<=1000
 ck:∃mp P i,jn n m aR start=some mp/\eG (iW n m mp start) (kv (he m) n) (jp n m.dl)=(P,0)/\P.start=start/\i<(4096-start).toNat/\oZ P ((i:Int)+1)=true/\(∀j,j<i->oZ P ((j:Int)+1)=false)/\l=iz P ((i:Int)+1)
theorem apE{p:dr}{n:Nat}(h:za p n=some i):i<n/\oZ p ((i:Int)+1)=true/\∀j,j<i->oZ p ((j:Int)+1)=false:=by unfold za at h;rw[awe]at h;exact⟨auY.1 h.2.1,h.1,λj Z=>by have:=h.2.2 j Z;simpa using this⟩
theorem apF{n:ad}{m:e2}{aR:List cM}{start:Int}(h:(zx n m aR start).2=true):aaD n m aR start (zx n m aR start).1:=by unfold zx at h⊢;split at h;cases h;rename_i hc;rw[atG hc];(have xR:tA n m [] aR=true/\0<=start/\start<=1000:=by(have oo:(bif bif !tA n m [] aR then true else decide (start<0)then true else decide (1000<start))=false:=by simpa using hc);cases h1:tA n m [] aR with|false=>rw[h1]at oo;cases oo|true =>rw[h1]at oo;(cases z:decide (start<0)with|true=>rw[z]at oo;cases oo|false =>rw[z]at oo;have:=at0 z;have:=at0 (show decide (1000<start)=false from oo);exact⟨rfl,by omega,by omega⟩));cases ag:jn n m aR start with|none=>rw[ag]at h;cases h|some mp =>rw[ag]at h;dsimp only at h⊢;(have f_:gs n m mp start (jo aR (ci n))=iW n m mp start:=by rw[iW,Rl ag]);(have F:wx n m mp start (jo aR (ci n)) 4096=rx (iW n m mp start) (kv (he m) n) (jp n m.dl) 4096:=by rw[wx,f_]);rw[F]at h⊢;have X:=aaC (iW n m mp start) (kv (he m) n) (jp n m.dl);unfold rx at h⊢;split at h;rename_i hm;rw[atH hm];have y0:(eG (iW n m mp start) (kv (he m) n) (jp n m.dl)).1.start=start:=X.1;generalize gL:eG (iW n m mp start) (kv (he m) n) (jp n m.dl)=apG at*;obtain⟨P,e⟩:=apG;dsimp only at hm y0 h⊢;subst hm;unfold sp at h⊢;rw[y0]at h⊢;(cases C9:za P (4096-start).toNat with|none=>rw[C9]at h;cases h|some i =>obtain⟨h1,z,aa⟩:=apE C9;exact⟨xR.1,xR.2.1,xR.2.2,mp,P,i,ag,gL,y0,h1,z,aa,rfl⟩);rename_i hm;exfalso;have:((eG (iW n m mp start) (kv (he m) n) (jp n m.dl)).2==0)=true:=h;exact hm (by simpa using this)
def wy(aj:List Bool)(n:Nat):Prop:=∀j,j<n->aj[j]?=some true
theorem apH{aj:List Bool}{n:Nat}(h:wy aj n):wy (aj.set k true) n:=λj Z=>by
 rw[avN];split
 ·rename_i e;subst e
  have:=aui.1 (h k Z);rw[atH this.1]
 exact h j Z
theorem apI{aj:List Bool}(h:wy aj k)(X:k<aj.length):wy (aj.set k true) (k+1):=λj Z=>by
 rw[avN];split
 ·first|rfl|rw[atH atv]
 exact h j atv
theorem apJ{aj:List Bool}{bD:Nat}(ao:aj.length=bD)(h:wy aj bD):aj=List.replicate bD true:=au2 λj=>by
 by_cases Z:j<bD
 ·rw[h j Z,av1,atH Z]
 rw[atT atv,av1,atG Z]
abbrev aaE(bD cx ea:Nat)(v:Value)(aj:List Bool):List (Nat×aI):=[(3005,.box cx [u 0,u bD]),(3006,.box ea [.an v]),(3007,.row v (vH aj) 1 4)]
theorem apK(bD:Nat)(h1:1<=bD)(z:bD<=4096)(l:List (Int×Int))(al:l.length<100)(G:∀x∈l,0<=x.1/\x.1<=10000/\0<=x.2/\x.2<=10000)(aj:List Bool)(ao:aj.length=bD)(hs:wy aj bD\/∃r,l=(0,(bD:Int))::r)(a:Option Addr)(n cap cx ea:Nat): cV B 34 [.Q .none 2 (l.map vG),.box 3005 cx 0,.box 3006 ea 0] (aK (aaE bD cx ea (.slice a n cap) aj)) λd aM=>d=.bl []/\aM=aK (aaE bD cx ea (.slice a n cap) (List.replicate bD true)):=by have m_:(l.map vG).length=l.length:=atL _;refine j_ Tryz.func34 Tryz.ntmps34 λU=>?_;refine go ?_;refine gn (λV:Nat×List Bool=>V.1<=l.length/\V.2.length=bD/\(wy V.2 bD\/V.1=0/\∃r,l=(0,(bD:Int))::r)) [1,2,7,8] [3005,3006] (λV=>[(9,u V.1)]) (λV=>[(3007,.row (.slice a n cap) (vH V.2) 1 4)]) (λV=>l.length-V.1) (0,aj) ⟨at7 _,ao,hs.imp_right λh=>⟨rfl,h⟩⟩ [(3005,3005),(3006,3006),(3007,3007)] ?_;rintro⟨i,el⟩ ⟨hi,fR,W⟩;dsimp only at hi fR W⊢;refine go ?_;refine cb (t:=decide ((i:Int)<(l.map vG).length)) ?_ ?_<;>intro hc;(have aE:i<l.length:=by have:=auc hc;omega);obtain⟨g1,eP,g3,g4⟩:=G _ (atK aE);(have o':∀r,l=(0,(bD:Int))::r->i=0->l[i]=(0,(bD:Int)):=λr e b0=>by subst b0;subst e;rfl);refine go ?_;generalize uJ:l[i]=ff at*;obtain⟨a1,DI⟩:=ff;dsimp only at g1 eP g3 g4;intro b;(conv=>whnf);refine go ?_;refine cb (t:=Cy 0 bD a1 DI) ?_ ?_<;>intro bw;refine go ?_;refine eX (i+1,el) [(3005,3005),(3006,3006),(3007,3007)] ⟨aE,fR,.inl (W.resolve_right λ⟨e,r,b0⟩=>?_)⟩;cases o' r b0 e;rw[aed]at bw;omega;have d6:=T2 bw;refine go ?_;refine gn (λV:Nat×List Bool=>(V.1:Int)<=DI/\V.2.length=bD/\(wy V.2 bD\/(a1=0/\DI=bD)/\wy V.2 V.1)) [1,2,7,8,9,5,47] [3005,3006,5] (λV=>[(48,u V.1)]) (λV=>[(3007,.row (.slice a n cap) (vH V.2) 1 4)]) (λV=>DI.toNat-V.1) (0,el) ⟨g3,fR,W.imp_right λ⟨e,r,b0⟩=>⟨by cases o' r b0 e;exact⟨rfl,rfl⟩,λj Z=>by cases Z⟩⟩ [(3005,3005),(3006,3006),(5,5),(3007,3007)] ?_;rintro⟨k,cp⟩ ⟨X,uY,cG⟩;dsimp only at X uY cG⊢;(have eJ:(vH cp).length=bD:=by rw[vH,atL,uY]);refine go ?_;refine cb (t:=decide ((k:Int)<DI)) ?_ ?_<;>intro dO;have rd:(k:Int)<DI:=auc dO;refine go ?_;refine dD (af.ev aL 3007 rfl rfl rfl rfl rfl rfl rfl atv (by rw[eJ];omega)) ?_;refine dD (af.nC aL 3007 (i:=a1.toNat+k) (by rw[show(a1-0+(k:Int)).toNat=a1.toNat+k by omega];rfl) rfl rfl rfl (by rw[eJ];omega) rfl) ?_;exact eX (k+1,cp.set (a1.toNat+k) true) [(3005,3005),(3006,3006),(5,5),(3007,3007)] ⟨rd,by rw[avc,uY],cG.imp apH λ⟨⟨bT,b0⟩,j'⟩=>⟨⟨bT,b0⟩,by rw[bT,show(0:Int).toNat+k=k by omega];exact apI j' atv⟩⟩ (z:=⟨cH,rfl,by exact⟨rfl,rfl,rfl,rfl,rfl,rfl,rfl,sY (by simp only[vH,aw'];rfl),ai⟩⟩);refine go ?_;have:=at0 dO;exact eX (i+1,cp) [(3005,3005),(3006,3006),(3007,3007)] ⟨aE,uY,.inl (cG.elim id λ⟨⟨_,e⟩,j'⟩=>by rwa [show k=bD by omega]at j')⟩;refine go ?_;(have hT:=W.resolve_right λ⟨e,r,b0⟩=>by have:=at0 hc;rw[b0]at m_ this;simp at this;omega);exact⟨.bl [],ai,rfl,rfl,rfl,sY (by rw[apJ fR hT]),ai⟩
def xS:mK:=⟨0,23,18,3,0,false,0,0,0,0,0,[],0,0,0,[⟨[97],21,3000⟩]⟩
def nv:e2:=⟨[86],[],[],[],[],1,1,315532800,9,0,[],0,false⟩
def aaF(i:Nat):List D:=if i=0 then[]else[vG (0,(i:Int))]
theorem apL:cV B 38 [.Q .none 1 []] bF.none λd aM=>∃v,True/\d=.an v/\aM=aK [(2000,.row v [] 1 3)]:=by refine oP Tryz.func38 Tryz.ntmps38 λU=>?_;refine go ?_;refine .inr (af.Ma (bH:=3) aL rfl rfl rfl λk4 n'=>?_);refine go ?_;refine cb (t:=k4) ?_ ?_<;>intro hc;refine Y.qR 2000 1 3 ?_;refine go ?_;exact⟨.an (.slice none 0 0),aq.rQ,.slice none 0 0,ai,rfl,ba⟩;apply cl;(conv=>whnf);apply en;refine Y.Mg aL ?_;(conv=>whnf);refine⟨rfl,ai,.inr (af.acJ (q:=100) aL rfl rfl rfl rfl rfl rfl ?_)⟩;(conv=>whnf);refine⟨rfl,ai,λv0=>?_⟩;(conv=>whnf);apply d_;(conv=>whnf);refine⟨rfl,ai,.inr (af.ade aL 100 rfl rfl rfl rfl rfl rfl rfl ?_)⟩;(conv=>whnf);apply d_;refine Y.Ca 100 2000 rfl ?_;refine go ?_;exact⟨_,E,v0,ai,rfl,ba⟩
theorem apM:aS B 12 [lB xS,hW nv] (.Q .none 2 [vG (0,23)]):=by have Pb:=UT (B:=B) nv 0 23;(have tO:0<(bn (kJ nv 0 23)).length/\(bn (kJ nv 0 23)).length<=10:=by decide +kernel);(have apN:∀x∈kJ nv 0 23,0<=x/\x<=10000:=by decide +kernel);have apO:=Fd (B:=B) nv;generalize kJ nv 0 23=g7 at*;have as':xS.S=0:=rfl;have ata:xS.C=23:=rfl;(have h7:(bn g7).length=g7.length:=by simp[bn]);refine fn Tryz.func12 Tryz.ntmps12 λU=>?_;refine go ?_;intro cc;(conv=>whnf);refine cT ?_;intro eD;(conv=>whnf);refine cT ?_;refine jB 2 2 16 (lB xS) ?_;refine jB 3 3 13 (hW nv) ?_;refine go ?_;intro cx;(conv=>whnf);refine go ?_;refine br apO ?_;refine go ?_;refine .inr (af.adb aL (n:=23) rfl rfl rfl rfl rfl rfl rfl aty aty λapP=>?_);(conv=>whnf);refine go ?_;intro ea;(conv=>whnf);generalize atb:(some ⟨apP,0,none⟩:Option Addr)=Rm;have Rn:=λl h1 z aj aa aC=>apK (B:=B) 23 aty aty l h1 z aj aa aC Rm 23 23 cx ea;(have hT:wy (List.replicate 23 true) 23:=λj Z=>by rw[av1,atH Z]);refine go ?_;refine br (r7 9 3 aty) ?_;refine ke [(3005,5),(3006,6),(3007,46)] (Rn [(0,23),(18,3)] aty aty (List.replicate 23 false) rfl (.inr ⟨_,rfl⟩)) ?_;refine' eR (α:=Value×Option Addr×Nat×Nat) [(5,.box cx [u 0,u 23]),(6,.box ea [.an (.slice Rm 23 23)]),(46,.row (.slice Rm 23 23) (vH (List.replicate 23 true)) 1 4)] (.slice none 0 0,none,0,0) (λy=>[_,_,_,.an y.1,_,_,.Q .none 1 (bn g7),.an (.slice y.2.1 y.2.2.1 y.2.2.2),u (y.2.2.1:Nat),_]) (λy=>[(3,71,some (.row y.1 [] 1 3)),(7,71,none),(7,75,some (.row (.slice y.2.1 y.2.2.1 y.2.2.2) (bn g7) 1 3))]) [0,1,3,7,0,0,63,127,255,0] [(3,71),(7,71),(7,75)] ?_ ?_;rotate_left 6;refine dC ?_;refine bR (λy=>af.call rfl [.Q .none 1 []] [(2000,71)] (c8.S1 ⟨rfl,ai⟩ apL) rfl ar ?_) ?_;rintro d aM ⟨v,_,rfl,rfl⟩;exact⟨_,E,d0 (v,y.2)⟩;refine bR (λy=>af.pc aL 71 rfl rfl rfl atC rfl rfl rfl tO.1 (by show(0+_)*8<=_;omega) (by show 0+_<=_;omega) λek dq k9=>(d0 (y.1,ek,dq,k9))) ?_;exact trivial;rintro⟨atc,atd,ate,atf⟩;refine go ?_;refine Y.Ci 75 rfl λatg ath gw _ _=>?_;simp only[Value.slice.injEq]at gw;obtain⟨rfl,rfl,rfl⟩:=gw;refine Ka 75 75 ?_;refine go ?_;refine gn (λV:Nat=>V<=g7.length) [2,5,6,7,75,76] [5,6,46] (λV=>[(77,u V)]) (λ_=>[]) (λV=>g7.length-V) 0 (at7 _) [(5,5),(6,6),(46,46)] ?_;intro i hi;refine go ?_;refine cb (t:=decide ((i:Int)<((bn g7).length:Nat))) ?_ ?_<;>intro hc;(have aE:i<g7.length:=by have:=auc hc;omega);have wJ:=apN _ (atK aE);refine go ?_;refine bH (u g7[i]) (by simp[bn,aE]) ?_;refine ke [(3005,5),(3006,6),(3007,46)] (Rn [(g7[i],1)] atx atw _ aw7 (.inl hT)) ?_;exact eX (i+1) [(5,5),(6,6),(46,46)] aE;refine go ?_;rw[show xS.files.map bg=[bg ⟨[97],21,3000⟩]from rfl];refine gn (λV:Nat=>V<=1) [5,6,7,88,89] [5,6,46] (λV=>[(90,u V)]) (λ_=>[]) (λV=>1-V) 0 (at7 _) [(5,5),(6,6),(46,46)] ?_;intro i hi;refine go ?_;refine cb (t:=decide ((i:Int)<1)) ?_ ?_<;>intro hc;(have aE:i=0:=by have:=auc hc;omega);subst aE;refine go ?_;refine⟨λ_=>by decide,?_⟩;(conv=>whnf);refine go ?_;intro sA;(conv=>whnf);refine go ?_;refine Y.zX aL 8 mixed atA ?_;refine go ?_;refine br (Ng 3000 aty aty) ?_;refine ke [(3005,5),(3006,6),(3007,46)] (Rn [(21,e_ 3000)] atx (by simp;decide) _ aw7 (.inl hT)) ?_;exact eX 1 [(5,5),(6,6),(46,46)] aty;refine go ?_;refine dD (af.sQ aL 46 rfl rfl rfl rfl) ?_;refine Y.qR 12 2 23 ?_;refine go ?_;refine gn (λV:Nat×Option Addr×Nat×Nat=>V.1<=23) [5,6,107,108] [5,6,46] (λV=>[(109,u V.1),(13,.an (.slice V.2.1 V.2.2.1 V.2.2.2))]) (λV=>[(12,.row (.slice V.2.1 V.2.2.1 V.2.2.2) (aaF V.1) 2 23)]) (λV=>23-V.1) (0,none,0,0) aty [(5,5),(6,6),(46,46),(12,12)] ?_ (h1:=by exact⟨by exact⟨E,E,E,E,E,aq.rQ,ai⟩,rfl,cH⟩);rintro⟨i,apQ,on,apR⟩ hi;dsimp only at hi⊢;refine Y.Ci 12 rfl λati atj uR _ _=>?_;simp only[Value.slice.injEq]at uR;obtain⟨rfl,rfl,rfl⟩:=uR;refine go ?_;refine cb (t:=decide ((i:Int)<23)) ?_ ?_<;>intro hc;(·(have aE:i<23:=by have:=auc hc;omega);(have aT:∀j,j<23->(vH (List.replicate 23 true))[j]?=some (.bool true):=λj Z=>by rw[vH,aud,hT j Z];rfl);have eJ:(vH (List.replicate 23 true)).length=23:=rfl;obtain⟨K3,aaG⟩:∃K3,K3=true:=⟨_,rfl⟩;refine go ?_;refine dD (af.ev aL 46 rfl rfl rfl rfl rfl rfl rfl atv (by rw[eJ];omega)) ?_;refine dD (af.mz aL 46 (i:=i) atB rfl rfl (show _=some (.bool K3) by rw[aaG];exact aT i aE)) ?_;refine cb (t:=!K3) (λbw=>by rw[aaG]at bw;cases bw) (λ_=>?_);apply en;by_cases au:0<i;(·rw[show aaF i=[vG (0,(i:Int))]from atG atv];refine Y.Af aL ?_;(conv=>whnf);(iterate 3 (refine⟨rfl,.inl ?_⟩;conv=>whnf));refine⟨rfl,_,_,rfl,rfl,.inl ⟨by simpa using au,.inl ?_⟩⟩;(conv=>whnf);apply cD;(conv=>whnf);(iterate 2 (refine⟨rfl,_,_,rfl,rfl,.inl ⟨by simpa using au,.inl ?_⟩⟩;conv=>whnf));refine g_ ?_;(conv=>whnf);refine⟨rfl,_,_,rfl,rfl,.inl ⟨by simpa using au,.inr (af.ev aL 46 rfl rfl rfl rfl rfl rfl rfl atv (by rw[eJ];omega) ?_)⟩⟩;(conv=>whnf);refine⟨rfl,_,_,rfl,rfl,.inl ⟨by simpa using au,.inr (af.mz aL 46 (i:=i-1) (by rw[show((i:Int)-1).toNat=i-1 by omega];rfl) rfl rfl (aT _ atv) ?_)⟩⟩;(conv=>whnf);refine⟨rfl,.inr (af.H6 rfl (by simpa using au) ?_)⟩;(conv=>whnf);refine⟨rfl,.inl ?_⟩;refine go ?_;have atk:[vG (0,(i:Int))].length=1:=rfl;refine dD (af.sQ aL 12 rfl rfl rfl rfl) ?_;refine dD (af.ev aL 12 rfl rfl rfl rfl rfl rfl rfl atv atv) ?_;refine dD (af.jA aL 12 (i:=0) rfl rfl atv rfl rfl rfl aty) ?_;refine dD (af.od aL 12 (i:=0) (j:=1) (y:=vG (0,(i:Int))) rfl rfl rfl rfl) ?_;refine dD (af.ev aL 12 rfl rfl rfl rfl rfl rfl rfl atv atv) ?_;refine dD (af.jA aL 12 (i:=0) rfl rfl atv rfl rfl rfl aty) ?_;refine dD (af.vo aL 12 (i:=0) (j:=1) rfl rfl rfl rfl rfl aty rfl) ?_;exact eX (i+1,apQ,1,apR) [(5,5),(6,6),(46,46),(12,12)] aE);(have k5:i=0:=by omega);subst k5;refine Y.Af aL ?_;(conv=>whnf);(iterate 3 (refine⟨rfl,.inl ?_⟩;conv=>whnf));(iterate 5 (refine⟨rfl,_,_,rfl,rfl,.inr ⟨rfl,?_⟩⟩;conv=>whnf));refine⟨rfl,.inr (af.wZ rfl rfl ?_)⟩;(conv=>whnf);refine⟨rfl,.inl ?_⟩;refine go ?_;refine .inr (af.pc aL 12 rfl rfl rfl atC rfl rfl rfl avW aty aty λIP yJ IQ=>?_);(conv=>whnf);refine go ?_;exact eX (1,IP,yJ,IQ) [(5,5),(6,6),(46,46),(12,121)] aE);(have k5:i=23:=by have:=at0 hc;omega);subst k5;refine Ka 12 13 ?_;refine go ?_;exact E
theorem apS(n:ad)(p d:atE)(N:d≠[])(bJ:aS B 65 [aH n] (.Q .none 2 [eb ⟨p,d⟩])):aS B 22 [aH n] (.Q .none 1 []):=by refine bB Tryz.func22 Tryz.ntmps22 λU=>?_;refine ch ?_;intro dz;refine qU ?_;refine .inr (af.ud (λbL=>?_));refine lm ?_;refine⟨[aH n],_,λ_=>bJ,ar,?_⟩;refine nF ?_;refine Y.ed (α:=Bool×Value) (λx=>[(3,.an (.map (some bL))),(14,.Q .none 2 [eb ⟨p,d⟩]),(15,u 1),(16,u (bif x.1 then 1 else 0)),(4,.Q .none 2 [eb ⟨p,d⟩])]) (λx=>[(11,.mp bL (bif x.1 then[(D.O d,D.Q (.own 33 x.2) 1 [.O p])]else[]))]) (λx=>bif x.1 then 0 else 1) (false,Value.nilFunc) [(11,11)] ⟨ar,rfl,ba⟩ ?_;rintro⟨q,w⟩;(try dsimp only);apply b3;apply en;refine aJ (decide ((bif q then(1:Int)else 0)<1)) rfl ?_ ?_<;>intro hc;(·apply cl;(have I:q=false:=by cases q<;>simp at hc⊢);subst I;refine gK ?_;refine oa ?_;refine yb (eb ⟨p,d⟩) ?_;(conv=>whnf);intro ea;apply cD;refine jb ?_;refine aJ (d !=[]) rfl ?_ ?_<;>intro bw;(·refine Y.tW 5000 1 9 ?_;refine' eR (α:=Value) [(6,.box ea [.O p,.O d]),(11,.mp bL []),(5000,.own (.slice none 0 0) 0 1 9)] Value.nilFunc (λV=>[_,_,_,_,_,_,.Q (.own 5000 (.slice none 0 0)) 1 [],_,_,_,.Q (.own 33 V) 1 ([.O p]),.any]) (λV=>[(10,5000,none),(10,33,some (.own V (1) 1 9)),(11,11,some (.mp bL [(.O d,.Q (.own 33 V) 1 [.O p])]))]) [0,0,2,0,0,16,56,0,128,384,1016,2047] [(10,5000),(10,33),(11,11)] ?_ ?_;rotate_left 9;refine dC ?_;refine bR (λV=>af.If 11 (dA:=9) (d9:=59) (k:=.O d) (V:=.Q (.own 5000 (.slice none 0 0)) 1 []) (ei:=.slice none 0 0) rfl rfl rfl rfl rfl rfl atx rfl atD (λw C=>.jr _ 1 none rfl) (cz V)) ?_;refine Cj (λV=>?_) ?_;(conv=>whnf);refine⟨rfl,rfl,?_⟩;(conv=>whnf);refine⟨by simp,by simp,atC,λG2=>?_⟩;exact d0 G2;refine bR (λV=>af.yu 11 (dA:=9) (d9:=59) (k:=.O d) rfl rfl rfl rfl rfl rfl atx (cz V)) ?_;exact trivial;intro V;(conv=>whnf);refine Y.fd [(3,.an (.map (some bL))),(14,.Q .none 2 [eb ⟨p,d⟩]),(15,u 1),(16,u 0),(4,.Q .none 2 [eb ⟨p,d⟩])] [(11,.mp bL [(.O d,.Q (.own 33 V) 1 [.O p])])] [(11,11)] ⟨cH,rfl,cH⟩ ?_;(conv=>whnf);skip;refine nD ?_;exact⟨(true,V),[(11,11)],avW,ar,rfl,ba⟩);exact absurd bw (by simpa using N));(have I:q=true:=by cases q<;>simp at hc⊢);subst I;refine Y.exit ?_;apply b3;refine nF ?_;refine Y.ed (α:=Bool) (λx=>[(3,.an (.map (some bL))),(7,.bh),(35,.Q .none 2 [eb ⟨p,d⟩]),(36,u 1),(37,u (bif x then 1 else 0))]) (λx=>[(11,.mp bL [(D.O d,D.Q (.own 33 w) 1 [.O p])])]) (λx=>bif x then 0 else 1) false [(11,11)] ⟨ar,rfl,ba⟩ ?_;rintro q;(try dsimp only);apply b3;apply en;refine aJ (decide ((bif q then(1:Int)else 0)<1)) rfl ?_ ?_<;>intro hc;apply cl;(have I:q=false:=by cases q<;>simp at hc⊢);subst I;refine gK ?_;refine oa ?_;refine yb (eb ⟨p,d⟩) ?_;(conv=>whnf);intro iN;apply cD;refine vk ?_;apply mB;refine ez ?_;refine .inr (af.Ie 11 (dA:=9) (d9:=59) (k:=.O d) (d:=.Q (.own 33 w) 1 [.O p]) rfl rfl rfl rfl rfl rfl (by simp[mG]) (by simp[jC,oh]) ?_);refine oO ?_;refine na ?_;refine⟨λh=>by simp at h,?_⟩;refine na ?_;refine⟨.O p,λh=>rfl,?_⟩;refine iK ?_;refine ob ?_;refine aJ _ rfl ?_ ?_<;>intro bw;exact absurd bw atx;refine rU ?_;exact⟨true,[(11,11)],avW,ar,rfl,ba⟩;(have I:q=true:=by cases q<;>simp at hc⊢);subst I;refine qT ?_;exact aq.nil
def G7:atE:=List.replicate 3000 120
def K4:ad:=⟨[97],1,G7,[],0,0,0,315532800,0,0,[],[]⟩
def ex:ad:=⟨[],0,[],[],0,0,0,315532800,0,0,[K4],[]⟩
def xT:e2:=⟨[86],[],[],[],[],1,1,315532800,1,0,[],0,false⟩
theorem Ro:ci ex=[⟨[97],G7⟩]:=by decide +kernel
theorem aaH:jp ex 0=(3,0):=by decide +kernel
theorem apT:aB ex=3008:=by decide +kernel
theorem DJ:fv ex:=by unfold fv;rw[apT];decide
theorem K5:pA ex 100000=true:=by decide +kernel
theorem aaI:he xT=⟨false,false,0,[]⟩:=by decide +kernel
theorem aaJ:he nv=⟨false,false,0,[]⟩:=by decide +kernel
theorem apU:jn ex xT [] 0=some []:=by decide +kernel
theorem aaK:jn ex nv [] 10=some []:=by decide +kernel
theorem apV:valid ex=true:=by decide +kernel
def jq:List eH:=[⟨[],[0],1,0,0,false⟩]
def rC:List gr:=[⟨[97],[65,46,59,49],0,-1,false,false,false⟩]
def nZ:f1:=⟨false,false,0,[]⟩
def rD:List (atE×ad):=f3 (dQ ex) ex (dP ex [] 1)
theorem apW:kO (nX (mU (jq.map λd=>(d.id,d.cB)) λ_=>0) false).1=10:=by decide +kernel
theorem apX:(mS false ex).1=jq:=by decide +kernel
theorem apY:(mS false ex).2.1=rC:=by decide +kernel
theorem apZ:q_ ex nZ=0:=by decide +kernel
theorem ap0:we (gj ex jq) (fa nZ rD jq rC) 1=0:=by decide +kernel
theorem Rp:∀x∈fa nZ rD jq rC 0,wd (gj ex jq) false x/\(ux (qu x.id (gT (gj ex jq) x))=false/\qu x.id (gT (gj ex jq) x)<=200)/\(gT (gj ex jq) x).tail=[]:=by unfold wd iw;decide +kernel
theorem ap1:(fa nZ rD jq rC 0).length=3:=by decide +kernel
theorem ap2{l:List Int}(al:l.length=3)(h:∀x∈l,ux x=false/\x<=200):yU l=1:=by match l,al with|[a,b,c],_ =>obtain⟨ga,a2⟩:=h a atx;obtain⟨dz,cc⟩:=h b atx;obtain⟨ek,dq⟩:=h c atx;have a3:=FH ga;have eD:=FH dz;have k9:=FH ek;(have bz:∀x y:Int,0<=x->x+y<=2048->x<2048->te x y=x:=λx y h1 z aa=>by unfold te;rw[auZ h1,atG atv]);(have au:sk [a,b,c]=([0,a,a+b],a+b+c,true):=by unfold sk;rw[atG (by simp[ga,dz,ek])];simp only[ov,avj,List.foldl_nil,I0];rw[bz 0 a atv atv atv,bz (0+a) b atv atv atv,bz (0+a+b) c atv atv atv];simp);unfold yU;rw[au,atX (by dsimp only;omega)];dsimp only;omega
theorem Rq:kv nZ ex=(3,0):=by have cv:=λx F=>(Rp x F).1;(have au:(o1 (gj ex jq) false (fa nZ rD jq rC 0)).Perm (fa nZ rD jq rC 0):=by rw[XW _ _ cv];have:=(PU (GA (gj ex jq) false) ((fa nZ rD jq rC 0).attachWith _ cv)).map (·.1);rwa [List.attachWith_map_subtype_val]at this);(have G:ze (gj ex jq) false (fa nZ rD jq rC 0)=1:=by refine ap2 (by rw[PC,atL,au.length_eq,ap1]) λx F=>?_;obtain⟨y,hy,rfl⟩:=at3.1 F;exact(Rp y (au.mem_iff.1 hy)).2.1);(have ap3:wg (gj ex jq) false (fa nZ rD jq rC) 1=[]:=by show([0]:List Nat).flatMap _=[];rw[auJ,List.flatMap_nil,auK,List.flatMap_eq_nil_iff];exact λx F=>(Rp x (au.mem_iff.1 F)).2.2);(have dd:mV nZ rD jq rC (gj ex jq)=(4,0):=by unfold mV sw;rw[apW];show(if we (gj ex jq) (fa nZ rD jq rC) 1=0 then(zf (gj ex jq) false (fa nZ rD jq rC) 1 (1+2*kj 10),0)else _)=_;rw[atH ap0,zf,ap3];show(1+2*kj 10+ze (gj ex jq) false (fa nZ rD jq rC 0)+kj 0,(0:Int))=_;rw[G];rfl);unfold kv;rw[atH apV];show xI nZ ex rD (mS false ex).1 (mS false ex).2.1 (gj ex (mS false ex).1)=_;(have kg:lP nZ rD ex jq rC (gj ex jq)=(4,0):=by rw[lP,atG (λh=>by cases h.2),dd]);rw[apX,apY,xI,atH apZ,kg];rfl
def aaL:mK:=⟨10,77,78,3,0,false,10,77,28,81,5,[81,82,83],0,0,0,[⟨[97],84,3000⟩]⟩
theorem aaM(l:mK):l=⟨l.S,l.C,l.iS,l.iC,l.kind,l.opn,l.uS,l.uC,l.recg,l.AF,l.pC,l.jf,l.commit,l.spS,l.spC,l.files⟩:=rfl
theorem aaN{a b:mK}(h1:(a.S,a.C,a.iS,a.iC)=(b.S,b.C,b.iS,b.iC))(z:(a.kind,a.opn,a.uS,a.uC)=(b.kind,b.opn,b.uS,b.uC))(aa:(a.recg,a.AF,a.pC,a.jf)=(b.recg,b.AF,b.pC,b.jf))(aC:(a.commit,a.spS,a.spC)=(b.commit,b.spS,b.spC))(a_:a.files=b.files):a=b:=by rw[aaM a,aaM b];simp only[Prod.mk.injEq]at h1 z aa aC;obtain⟨g1,eP,g3,g4⟩:=h1;obtain⟨B3,aaO,ap4,ap5⟩:=z;obtain⟨ap6,ap7,ap8,ap9⟩:=aa;obtain⟨ap_,ap',aqa⟩:=aC;rw[g1,eP,g3,g4,B3,aaO,ap4,ap5,ap6,ap7,ap8,ap9,ap_,ap',aqa,a_]
theorem aaP(m:e2)(cap start:Int)(hm:he m=nZ)(ao:m.dl=0):wx ex m [] start [[97]] cap=rx (gs ex m [] start [[97]]) (3,0) (3,0) cap:=by unfold wx;rw[hm,ao,Rq,aaH]
theorem aqb:(rx (gs ex xT [] 0 [[97]]) (3,0) (3,0) 500).1=xS:=aaN atz atz atz atz atz
theorem aqc:(rx (gs ex xT [] 0 [[97]]) (3,0) (3,0) 500).2=0:=by decide +kernel
theorem aqd:(rx (gs ex nv [] 10 [[97]]) (3,0) (3,0) 500).1=aaL:=aaN atz atz atz atz atz
theorem aqe:(rx (gs ex nv [] 10 [[97]]) (3,0) (3,0) 500).2=0:=by decide +kernel
theorem aqf:xN (iW ex nv [] 10) (3,0) (3,0)=(77,0):=by decide +kernel
theorem aaQ(m:e2)(start:Int):[[97]].Perm (lK (gs ex m [] start []) (ci ex)):=by rw[Ro];exact E
theorem aqg(aV:dc B):aS B 19 [aH ex,hW xT,.Q .none 1 (aU [[97]]),.Q .none 3 (([]:List cM).map bg),u 0,u 500] (.bl [lB xS,u 0]):=by have h:=Rj aV ex xT [[97]] [] 0 500 [] DJ K5 aty (λg aT=>by cases aT) aty apU aty aty (aaQ xT 0);rw[aaP _ _ _ aaI rfl,aqb,aqc]at h;exact h
theorem aqh(aV:dc B):aS B 19 [aH ex,hW nv,.Q .none 1 (aU [[97]]),.Q .none 3 (([]:List cM).map bg),u 10,u 500] (.bl [lB aaL,u 0]):=by have h:=Rj aV ex nv [[97]] [] 10 500 [] DJ K5 aty (λg aT=>by cases aT) aty aaK aty aty (aaQ nv 10);rw[aaP _ _ _ aaJ rfl,aqd,aqe]at h;exact h
theorem aqi(aV:dc B):aS B 20 [aH ex,hW nv,.Q .none 3 (([]:List cM).map bg),u 10] (.bl [u 77,u 0]):=by have h:=apz aV ex nv [] 10 [] DJ K5 aty (λg aT=>by cases aT) aty aaK;rw[aaJ,show(⟨false,false,0,[]⟩:f1)=nZ from rfl,Rq,show nv.dl=0 from rfl,aaH,aqf]at h;exact h
theorem aqj(aV:dc B):aS B 30 [aH ex,r9 ⟨false,false,0,[]⟩] (.bl [u 3,u 0]):=by have h:=(K0 aV xT DJ K5).1.1;rw[aaI,show(⟨false,false,0,[]⟩:f1)=nZ from rfl,Rq]at h;exact h
theorem aqk(aV:dc B):aS B 28 [aH ex] (.Q .none 1 (aU [[97]])):=by have h:=aoo aV ex DJ;rw[Ro]at h;exact h
theorem aql(aV:dc B):aS B 22 [aH ex] (.Q .none 1 []):=by have h:=OY aV ex DJ;rw[Ro]at h;exact apS ex [97] G7 atz h
theorem aqm:Lib.repeatL [120] 3000=G7:=by decide +kernel
theorem aqn:aS B 74 [.O [120],u 3000] (.O G7):=by rw[<-aqm];exact .zW (jD Tryz.func74 rfl atz) rfl λw G=>(Tryz.strings_Repeat ⟨⟨[120]⟩⟩ 3000 w aty (by show 1*3000<=_;decide)).mono λe w' ⟨ak,cG⟩=>⟨_,ak,λC=>.O _,cG⟩
def aaR:e2:=⟨[],[],[],[],[],0,0,0,0,0,[],0,false⟩
theorem aqo:ex.J.map enc=[aH K4]:=by show[enc K4]=_;rw[rV]
theorem aqp:aS B 29 [] (.bl [aH ex,hW xT]):=by refine fn Tryz.func29 Tryz.ntmps29 λU=>?_;refine go ?_;intro lp;(conv=>whnf);refine go ?_;intro dz;(conv=>whnf);refine go ?_;refine br aqn ?_;intro cc;(conv=>whnf);refine go ?_;refine⟨aq.agg ⟨E,E,E,E,E,E,E,E,E,E,?_,aq.nil,ai⟩,aq.agg ⟨E,E,E,E,E,E,E,E,E,E,aq.nil,E,E,ai⟩,ai⟩;rw[aqo];exact aq.trans (aq.acK (a':=[aH K4]) ⟨E,E,E,E,E,E,E,E,E,E,aq.nil,aq.nil,ai⟩ rfl (λy hy=>by simp at hy;subst hy;rfl)) aq.dU
theorem aqq(aV:dc B):aS B 9 [] (.bool true):=by have wt:=aqj aV;have aqr:=aqg aV;have aqs:=aqh aV;have aqt:=aqi aV;refine fn Tryz.func9 Tryz.ntmps9 λU=>?_;refine go ?_;refine br aqp ?_;intro dz;(conv=>whnf);refine go ?_;intro cc;(conv=>whnf);refine go ?_;refine Ah ?_;(conv=>whnf);refine⟨_,_,λ_=>wt,⟨E,aq.agg ⟨E,E,E,aq.nil,ai⟩,ai⟩,?_⟩;(conv=>whnf);refine go ?_;refine Ah ?_;(conv=>whnf);refine⟨_,_,λ_=>aqr,⟨E,E,aq.dU,aq.nil,E,E,ai⟩,?_⟩;(conv=>whnf);refine go ?_;intro cx;(conv=>whnf);refine go ?_;refine⟨[.Q .none 3 (xS.files.map bg),.Q .none 3 (([⟨[97],21,3000⟩]:List cM).map bg)],_,λh=>aop xS.files [⟨[97],21,3000⟩] aty aty,⟨E,aq.dU,ai⟩,?_⟩;(conv=>whnf);refine go ?_;refine Ah ?_;(conv=>whnf);refine⟨_,_,λ_=>aqt,⟨E,E,aq.nil,E,ai⟩,?_⟩;(conv=>whnf);refine go ?_;refine Ah ?_;(conv=>whnf);refine⟨_,_,λ_=>aqs,⟨E,E,aq.dU,aq.nil,E,E,ai⟩,?_⟩;(conv=>whnf);refine go ?_;intro cF;(conv=>whnf);refine go ?_;refine br (Fd (B:=B) nv) ?_;refine⟨[hW aaR],_,λh=>Fd aaR,⟨aq.agg ⟨E,E,E,E,E,E,E,E,E,E,aq.nil,E,E,ai⟩,ai⟩,?_⟩;(conv=>whnf);refine go ?_;refine br (aqk aV) ?_;refine⟨[.Q .none 1 (aU [[97]]),.Q .none 1 (aU [[97]])],_,λh=>ZY [[97]] [[97]] aty aty,⟨E,aq.dU,ai⟩,?_⟩;(conv=>whnf);refine go ?_;refine br (aql aV) ?_;refine br apM ?_;exact aq.of_eq (atI D.bool atz)
def tC(el:List Int):List (D×D):=el.map λk=>(u k,.bool true)
def lT(a:Int)(n:Nat):List Int:=(List.range n).map λ(i:Nat)=>a+i
theorem sC{a:Int}{n:Nat}{k:Int}:k∈lT a n↔a<=k/\k<a+n:=by unfold lT;rw[at3];constructor;rintro⟨i,hi,rfl⟩;rw[auY]at hi;omega;rintro⟨h1,z⟩;exact⟨(k-a).toNat,by rw[auY];omega,by omega⟩
theorem aqu(a:Int)(n:Nat):lT a (n+1)=lT a n++[a+n]:=by unfold lT;rw[ave,auo];rfl
variable{el:List Int}
theorem aaS:∀x∈tC el,mG (.int .i64) x.1=true:=λx F=>by
 obtain⟨k,_,rfl⟩:=at3.1 F;rfl
theorem aaT{k:Int}(h:k∉el):jC (tC el) (u k)=none:=by
 unfold jC tC;rw[av3,avi];intro x F;obtain⟨q,I,rfl⟩:=at3.1 F;intro e;have:q=k:=by simpa[oh]using e
 exact h (this ▸ I)
theorem aqv{k:Int}(h:k∉el):mH (tC el) (u k) (.bool true)=tC (el++[k]):=by unfold mH;rw[aaT h];simp[tC]
abbrev aaU(S C:Int)(cx G8 hz:Nat)(el:List Int):List (Nat×aI):=[(3005,.box cx [u S,u C]),(3006,.box G8 [.an (.map (some hz))]),(3007,.mp hz (tC el))]
theorem aqw(S C:Int)(gc:0<=S)(JN:S<=4096)(atl:C<=4096)(first count:Int)(h0:0<=count)(h1:count<=C)(lV:0<=first)(m9:first<=1000000)(el:List Int)(h:∀k,first<=k->k<first+count->S<=k/\k<S+C/\k∉el)(cx G8 hz:Nat): cV B 15 [u first,u count,.box 3005 cx 0,.box 3006 G8 0] (aK (aaU S C cx G8 hz el)) λd aM=>d=.bool true/\aM=aK (aaU S C cx G8 hz (el++lT first count.toNat)):=by refine j_ Tryz.func15 Tryz.ntmps15 λU=>?_;refine go ?_;refine yp (t:=bif decide (count<0)then true else decide (C<count)) (by rw[aug (by omega:¬count<0),aug (by omega:¬C<count)];rfl) ?_;refine gn (λi:Nat=>(i:Int)<=count) [0,1,2,3] [3005,3006] (λi=>[(7,u (first+i))]) (λi=>[(3007,.mp hz (tC (el++lT first i)))]) (λi=>count.toNat-i) 0 h0 [(3005,3005),(3006,3006),(3007,3007)] ?_ (h1:=by exact⟨cH,rfl,by exact⟨rfl,rfl,rfl,rfl,rfl,vw (by simp[lT]),ai⟩⟩);intro i hi;refine go ?_;refine cb (t:=decide (first+(i:Int)<first+count)) ?_ ?_<;>intro hc;(·(have Jz:(i:Int)<count:=by have:=auc hc;omega);obtain⟨g1,eP,g3⟩:=h (first+i) atv atv;(have av:first+(i:Int)∉el++lT first i:=λhm=>by rcases at1.1 hm with hm|hm;exact g3 hm;rw[sC]at hm;omega);have bT:decide (first+(i:Int)<S)=false:=aug atv;have b0:decide (S+C<=first+(i:Int))=false:=aug atv;apply cl;(conv=>whnf);refine kc ?_;apply m';refine Y.Af aL ?_;(conv=>whnf);refine cT ?_;rw[bT];(iterate 6 (refine⟨_,_,rfl,rfl,.inl ⟨rfl,.inl ?_⟩⟩;(conv=>whnf);refine cT ?_));refine⟨_,_,rfl,rfl,.inl ⟨rfl,.inl ?_⟩⟩;(conv=>whnf);refine⟨rfl,.inr (af.wZ rfl rfl ?_)⟩;(conv=>whnf);refine cT ?_;(iterate 2 (refine⟨_,_,rfl,rfl,.inl ⟨b0,.inl ?_⟩⟩;(conv=>whnf);refine cT ?_));refine⟨_,_,rfl,rfl,.inl ⟨b0,.inr (af.If 3007 (c3:=.int .i64) (V:=.bool false) Tryz.underlying47 Tryz.underlying3 rfl rfl rfl rfl aaS (aaT av) atD (λw C=>.bool _) ?_)⟩⟩;(conv=>whnf);refine⟨rfl,.inr (af.wZ rfl b0 ?_)⟩;(conv=>whnf);refine go ?_;refine dD (af.yu 3007 (c3:=.int .i64) Tryz.underlying47 Tryz.underlying3 rfl rfl rfl rfl aaS) ?_;exact eX (i+1) [(3005,3005),(3006,3006),(3007,3007)] atv (z:=⟨cH,rfl,by exact⟨rfl,rfl,rfl,rfl,rfl,vw (by rw[aqu,<-auj];exact aqv av),ai⟩⟩));refine go ?_;(have cg:i=count.toNat:=by have:=at0 hc;omega);subst cg;exact⟨_,E,rfl,cH⟩
end Go.bS.cp
namespace Go.bS
open Go Go.RowKit Go.MapKept cp
variable{P:Program}{B:World}{am:Nat}{A:aw}{dst:Option Tmp}{K:aw->Prop}{ay:List bx}
def pM(k:Int×Int):Value:=.agg #[.int .i64 k.1,.int .i64 k.2]
abbrev pN:=List ((Int×Int)×atE)
def rE(L:pN):List MapEntry:=L.mapIdx λi x=>⟨pM x.1,.string ⟨⟨x.2⟩⟩,i⟩
def tD(L:pN)(k:Int×Int):Option atE:=(L.find? λx=>x.1==k).map (·.2)
theorem aaV{a b:Int×Int}(h:pM a=pM b):a=b:=by unfold pM at h;obtain⟨ga,a2⟩:=a;obtain⟨dz,cc⟩:=b;simp at h;rw[h.1,h.2]
variable{i:Nat}
theorem aaW{L:pN}(av:(L.map (·.1)).Nodup)(hi:i<L.length):tD L L[i].1=some L[i].2:=by unfold tD;induction L generalizing i with|nil=>simp at hi|cons x r aY =>rw[aum,avB]at av;(cases i with|zero=>simp|succ j =>(have Z:j<r.length:=by simpa using hi);have aX:x.1≠r[j].1:=λe=>av.1 (at3.2 ⟨r[j],atK _,e.symm⟩);rw[avI];simp only[au6];rw[show(x.1==r[j].1)=false from aur.2 aX];exact aY av.2 Z)
theorem aaX{L:pN}{k:Int×Int}(h:k∉L.map (·.1)):tD L k=none:=by
 unfold tD;rw[av3,avi];intro x F e;have:x.1=k:=by simpa using e
 exact h (at3.2 ⟨x,F,this⟩)
variable{j:Nat}
theorem Rr{L:pN}{e:MapEntry}(h:(rE L)[j]?=some e):∃Z:j<L.length,e=⟨pM L[j].1,.string ⟨⟨L[j].2⟩⟩,j⟩:=by unfold rE at h;rw[auF]at h;cases F:L[j]? with|none=>rw[F]at h;cases h|some x =>rw[F]at h;obtain⟨Z,rfl⟩:=aui.1 F;exact⟨Z,by cases h;rfl⟩
theorem aaY{L:pN}{e:MapEntry}(h:e∈rE L):∃(i:Nat) (hi:i<L.length),e=⟨pM L[i].1,.string ⟨⟨L[i].2⟩⟩,i⟩:=by obtain⟨j,Z⟩:=aub.1 h;obtain⟨h1,z⟩:=Rr Z;exact⟨j,h1,z⟩
def DK(b:Nat)(L:pN):aI:=.b' b (.map (rE L).toArray L.length)
variable{w:World}{C:Nat->Nat}{v:Value}
theorem aaZ{k:Int×Int}(h:bf w C (.agg [u k.1,u k.2]) v):v=pM k:=by obtain⟨vs,rfl,al,ae⟩:=h.sD;match vs,al,ae with|[a,b],_,ae =>have h1:=(ae 0 _ _ rfl rfl).fr;have z:=(ae 1 _ _ rfl rfl).fr;subst h1;subst z;rfl
variable{dA d9:TypeId}{x:Operand}{b:Nat}
theorem af.aqx{t:TypeId}{m:Operand}(s:Nat){L:pN}{k:Int×Int}(hm:P.underlying t=some (.map dA d9))(aV:WideMaps.KeyLaw P dA)(bz:∀w,(zeroValue d9).run P w=.ok (.string ⟨#[]⟩) w)
  (F:A.a8 m=.an (.map (some b))) (hs:A.H s=some (DK b L)) (I:A.a8 x=.agg [u k.1,u k.2]) (X:∃l,keyOf P dA (pM k)=some l) (sN:∀x∈L,∃l,keyOf P dA (pM x.1)=some l) (av:(L.map (·.1)).Nodup)
  (hK:K (A.put dst (.bl [.O ((tD L k).getD []),.bool (tD L k).isSome]))):af P B am A dst (.lookup t m x true) K :=
 .val λU w C a M type pos after=>by
  have k1:=cr M.tmps m;rw[F]at k1
  have fj:=cr M.tmps x;rw[I]at fj
  have W:=aaZ fj;obtain⟨l,X⟩:=X;obtain⟨G,c6⟩:=M.heap.b' s _ hs
  have Rs:∀e∈rE L,∃l,keyOf P dA e.key=some l:=λe ak=>by
   obtain⟨i,hi,rfl⟩:=aaY ak;exact sN _ (atK hi)
  have bl:∀(s:atE) (q:Bool),bf w C (.bl [.O s,.bool q]) (.tuple #[.string ⟨⟨s⟩⟩,.bool q]):=λs q=>.bl [.O s,.bool q] [.string ⟨⟨s⟩⟩,.bool q] rfl (λi d v N W=>by
   match i,N,W with
   |0,N,W=>simp at N W;subst N;subst W;exact .O _
   |1,N,W=>simp at N W;subst N;subst W;exact .bool _
   |n+2,N,W=>simp at N)
  rcases aV.find w X (rE L) Rs with⟨h1,z⟩|⟨j,e,h1,z,aa⟩
  ·have d6:tD L k=none:=aaX λhm=>by
    obtain⟨x,F,rfl⟩:=at3.1 hm;obtain⟨i,hi,rfl⟩:=auh.1 F;refine z ⟨pM L[i].1,.string ⟨⟨L[i].2⟩⟩,i⟩ ?_ rfl;unfold rE;rw[awL];exact⟨i,hi,rfl⟩
   refine⟨.tuple #[.string ⟨#[]⟩,.bool false],w,C,A,_,?_,M,?_,hK⟩
   ·simp[execOp,k1.fL,W,Instr.lookup,run_underlying hm,Go.MapKept.run_getObj_map G,aV.check w _ X,h1,bz,Result.andThen]
   rw[d6];exact bl [] false
  obtain⟨Z,rfl⟩:=Rr z;have rd:L[j].1=k:=aaV aa;have aqy:tD L k=some L[j].2:=by rw[<-rd];exact aaW av Z
  refine⟨.tuple #[.string ⟨⟨L[j].2⟩⟩,.bool true],w,C,A,_,?_,M,?_,hK⟩
  ·simp[execOp,k1.fL,W,Instr.lookup,run_underlying hm,Go.MapKept.run_getObj_map G,aV.check w _ X,h1,Result.andThen]
  rw[aqy];exact bl _ true
variable{y:Operand}
theorem af.aqz{t:TypeId}{m:Operand}(s:Nat){L:pN}{k:Int×Int}{gM:atE}(hm:P.underlying t=some (.map dA d9))(aV:WideMaps.KeyLaw P dA)
  (F:A.a8 m=.an (.map (some b))) (hs:A.H s=some (DK b L)) (I:A.a8 x=.agg [u k.1,u k.2]) (hy:A.a8 y=.O gM) (X:∃l,keyOf P dA (pM k)=some l) (sN:∀x∈L,∃l,keyOf P dA (pM x.1)=some l) (av:k∉L.map (·.1))
  (hK:K ((A.b2 s (some (DK b (L++[(k,gM)])))).put dst .undef)):af P B am A dst (.mapUpdate t m x y) K :=
 .unit λU w C a M type pos after=>by
  have k1:=cr M.tmps m;rw[F]at k1
  have fj:=cr M.tmps x;rw[I]at fj
  have W:=aaZ fj;have jV:=cr M.tmps y;rw[hy]at jV
  obtain⟨l,X⟩:=X;obtain⟨G,c6⟩:=M.heap.b' s _ hs
  have Rs:∀e∈rE L,∃l,keyOf P dA e.key=some l:=λe ak=>by
   obtain⟨i,hi,rfl⟩:=aaY ak;exact sN _ (atK hi)
  have eK:aI.ec (DK b L) b:=rfl
  have l8:(rE L).toArray.push ⟨pM k,.string ⟨⟨gM⟩⟩,L.length⟩=(rE (L++[(k,gM)])).toArray:=by
   unfold rE;rw[List.mapIdx_append];simp
  have ny:bG U {w with heap:=w.heap.setIfInBounds b (.map (rE (L++[(k,gM)])).toArray (L++[(k,gM)]).length)} C (A.b2 s (some (DK b (L++[(k,gM)])))) a:=by
   have aZ:=c7.Eo (bI:=.map (rE (L++[(k,gM)])).toArray (L++[(k,gM)]).length) G c6;refine M.b2 aZ (s:=s) (λx F=>ayv) (λbp bI eh aX c4 ao m5=>?_) λV bz=>?_
   ·subst m5;exact M.heap.inj bp s bI _ eh aX c4 hs ao eK
   cases bz
   exact⟨⟨(heap_set G).1,c6⟩,λx F=>⟨ayw,.inl F⟩⟩
  rcases aV.find w X (rE L) Rs with⟨h1,z⟩|⟨j,e,h1,z,aa⟩
  ·refine⟨_,C,_,?_,ny,hK⟩;simp only[atO,List.length_singleton]at*;simp[execOp,k1.fL,W,jV.kw,Instr.mapUpdate,run_underlying hm,Go.MapKept.run_getObj_map G,aV.check w _ X,h1,run_setObj_map _ G,Result.andThen,l8]
  obtain⟨Z,rfl⟩:=Rr z;exact absurd (at3.2 ⟨L[j],atK Z,aaV aa⟩) av
end Go.bS
namespace Go.bS.cp
open Go Go.Proofs
theorem aa0:WideMaps.KeyLaw Tryz.prog 23:=Go.deep_law (m:=4) aty atA atA atA
theorem aqA{k:Int×Int}(h1:(Lit.int .i64 k.1).wf=true)(z:(Lit.int .i64 k.2).wf=true):∃l,keyOf Tryz.prog 23 (pM k)=some l:=by
 have M:Tryz.prog.keyType 23=true:=by kernel_rfl
 have aa1:Tryz.prog.cellsOf 23=2:=by kernel_rfl
 have aa:Tryz.prog.cellsOf 3=1:=by kernel_rfl
 have qH:Value.formed Tryz.prog 23 (.agg #[.int .i64 k.1,.int .i64 k.2])=true:=by simp[Value.formed,Tryz.underlying23,aa1]
 obtain⟨d,N⟩:∃d,Tryz.prog.types.size+1=d+2:=by
  have:0<Tryz.prog.types.size:=auc atA;exact⟨Tryz.prog.types.size-1,by omega⟩
 have q':∀n,(Lit.int .i64 n).wf=true->Tryz.prog.keyLits (d+1) 3 [Value.int .i64 n]=some [Lit.int .i64 n]:=λn av=>by
  unfold Program.keyLits;simp only[Tryz.underlying3];simp[av]
 have al:Tryz.prog.keyLits (d+2) 23 [Value.int .i64 k.1,Value.int .i64 k.2]=some [Lit.int .i64 k.1,Lit.int .i64 k.2]:=by
  unfold Program.keyLits;simp only[Tryz.underlying23,aa1];rw[atH atx];simp[List.mapM_cons,aa,q' _ h1,q' _ z]
 refine⟨.string (keyBytes [Lit.int .i64 k.1,Lit.int .i64 k.2]),?_⟩;show keyOf Tryz.prog 23 (.agg #[.int .i64 k.1,.int .i64 k.2])=_;unfold keyOf;simp only[Tryz.underlying23,M,qH,aw2,auT,N,Value.cells];rw[al];rfl
variable{B:World}
def G9(T:List Int)(n a:Int):Prop:=∀k∈T,¬(a<=k/\k<a+n)
variable{T:List Int}
theorem aqB{a:Int}(h:qs T a<=0):∀k∈T,k<a:=λk X=>by
 unfold qs at h;have h0:(T.filter λk=>decide (a<=k))=[]:=List.length_eq_zero_iff.1 (Nat.le_zero.1 h);have:=(awV.1 h0) k X;simp at this;exact this
variable{α:Type}
theorem aa2{p:α->Bool}{l:List α}(h:l.any p=true):∃i,∃hi:i<l.length,p l[i]=true/\fe p l=i:=by unfold fe;cases M:l.findIdx? p with|none =>obtain⟨x,F,au⟩:=au1.1 h;have:=(avS.1 M) x F;rw[this]at au;cases au|some i =>obtain⟨hi,au,_⟩:=avA.1 M;exact⟨i,hi,au,rfl⟩
theorem aa3{T:List Int}{n:Int}:∀(f:Nat) (a:Int),qs T a<=f->a<=np T n f a/\G9 T n (np T n f a)/\∀x,a<=x->G9 T n x->np T n f a<=x
 |0,a,h=>⟨auu _,λk X z=>by have:=aqB h k X;simp only[np]at z;omega,λx F _=>F⟩
 |f+1,a,h=>by rw[np];have qx:=BY (ix a n) T;split;rename_i h0;refine⟨auu _,λk X z=>?_,λx F _=>F⟩;(have M:(T.any (ix a n))=false:=by rw[<-qx];exact aug atv);have:=(List.any_eq_false.1 M) k X;apply this;unfold ix;rw[auM z.1,auM z.2];rfl;rename_i h0;(have ax:(T.any (ix a n))=true:=by rw[<-qx];exact auM atv);obtain⟨i,hi,au,e⟩:=aa2 ax;rw[Gj hi e];obtain⟨h1,z⟩:=A0 au;have bi:=Gi (atK hi) h1;obtain⟨e9,gz,ir⟩:=aa3 (T:=T) (n:=n) f (T[i]+1) atv;refine⟨by omega,gz,λx F hc=>ir x ?_ hc⟩;have:=hc T[i] (atK hi);omega
theorem Rt(T:List Int)(n a:Int):a<=e' T n a/\G9 T n (e' T n a)/\∀x,a<=x->G9 T n x->e' T n a<=x:=aa3 _ _ (atP _)
theorem aa4{T:List Int}:∀(n:Nat) (a:Int),a<=(hB T n a).2/\(∀b∈(hB T n a).1,a<=b/\b<(hB T n a).2/\b∉T)/\(hB T n a).1.Pairwise (·<·)
 |0,a=>⟨auu _,λb G=>(by cases G),.nil⟩
 |n+1,a=>by obtain⟨h1,z,aa⟩:=aa4 (T:=T) n a;obtain⟨jc,lo,sU⟩:=Rt T 1 (hB T n a).2;have e:hB T (n+1) a=((hB T n a).1++[e' T 1 (hB T n a).2],e' T 1 (hB T n a).2+1):=rfl;rw[e];dsimp only;refine⟨by omega,λb G=>?_,?_⟩;rcases at1.1 G with G|G;obtain⟨g1,eP,g3⟩:=z b G;exact⟨g1,by omega,g3⟩;(have:b=e' T 1 (hB T n a).2:=by simpa using G);subst this;exact⟨by omega,by omega,λhm=>lo _ hm ⟨auu _,by omega⟩⟩;rw[List.pairwise_append];refine⟨aa,List.pairwise_singleton _ _,λx F y hy=>?_⟩;(have:y=e' T 1 (hB T n a).2:=by simpa using hy);have:=(z x F).2.1;omega
theorem aqC{l:List ad}(h:gP l):(l.map ad.name).Nodup:=by rw[List.Nodup,au_];exact auG.2 λi j hi Z d7 e=>absurd e (s_ (sc h d7 Z))
mutual
theorem aa5:∀(n:ad),iv n->(pF n).Nodup
 |.mk a b c d e f g h i j ah cE,ag=>by
  rw[Jk,avB];refine⟨λhm=>?_,aa6 ah (aqC (Oz ag)) λk X=>Jm ag X⟩;obtain⟨k,_,q,_,I⟩:=Jl.1 hm;cases I
theorem aa6:∀(ah:List ad),(ah.map ad.name).Nodup->(∀k∈ah,iv k)->(sn ah).Nodup
 |[],_,_=>.nil
 |k::r,hi,ag=>by
  have e:sn (k::r)=(pF k).map (k.name::·)++sn r:=rfl;rw[e,au9];refine⟨(aa5 k (ag k atS)).map _ (λx y h1 z=>h1 (List.cons.inj z).2),aa6 r (avB.1 hi).2 λx F=>ag x (atU _ F),λx F y hy GY=>?_⟩;obtain⟨q,_,rfl⟩:=at3.1 F;obtain⟨bC,fA,fh,_,rfl⟩:=Jl.1 hy;have av:k.name=bC.name:=(List.cons.inj GY).1;exact(avB.1 hi).1 (at3.2 ⟨bC,fA,av.symm⟩)
end
theorem aa7(n:ad):((ci n).map (·.path)).Nodup:=by unfold ci;by_cases W:valid n=true;rw[atH W];have cv:=AU W;(have h1:(dP n [] 1).Nodup:=by rw[OC,List.Nodup,au_];refine awO (λ{x y} F hy aX h=>aX ?_) (aa5 n cv);exact ain (OF x n cv F) (OF y n cv hy) h);(have z:(((dP n [] 1).filterMap (ie n)).map (·.path)).Sublist (dP n [] 1):=by generalize dP n [] 1=l;induction l with|nil=>exact .slnil|cons p r aY =>rw[List.filterMap_cons];(cases M:ie n p with|none=>exact aY.cons _|some x =>(have:x.path=p:=by unfold ie at M;split at M;cases M;rfl;cases M);rw[aum,this];exact aY.cons_cons _));exact z.nodup h1;rw[atG W];exact .nil
theorem K6{n:Int}(h:0<=n):e_ n=(n+2048-1).tdiv 2048:=by unfold e_;rw[auZ h,atX h,atX atv];split<;>omega
theorem aa8{n:Int}(h:0<=n):0<=e_ n:=by rw[K6 h,atX atv];omega
theorem aa9{bW:List eS}{start:Int}:∀(l:List cM) (j3 mp:List (atE×cM)),l.foldl (qB bW start) (some j3)=some mp->(∀g∈l,bj mp g.path=some g/\Bn bW start g=false)/\∀q,(bj j3 q).isSome=true->bj mp q=bj j3 q
 |[],j3,mp,h=>by cases h;exact⟨λg aT=>(by cases aT),λq _=>rfl⟩
 |g::l,j3,mp,h=>by rw[avj]at h;cases ag:qB bW start (some j3) g with|none=>rw[ag,KK]at h;cases h|some m1 =>rw[ag]at h;obtain⟨h1,z⟩:=aa9 l m1 mp h;unfold qB at ag;simp only[aw4]at ag;split at ag;cases ag;rename_i G;split at ag;cases ag;rename_i hs;(have ly:m1=fC j3 g.path g:=by cases ag;rfl);subst ly;refine⟨λu' qI=>?_,λq I=>?_⟩;rcases at6.1 qI with rfl|qI;rw[z _ (by rw[kq,atH rfl];rfl),kq,atH rfl];exact⟨rfl,by simpa using G⟩;exact h1 u' qI;(have aX:q≠g.path:=λe=>by subst e;exact hs I);rw[z q (by rw[kq,atG aX];exact I),kq,atG aX]
variable{bW:List eS}{start:Int}
theorem aqD{g:cM}(h:Bn bW start g=false):∃f∈bW,f.path=g.path/\g.len=f.data.length/\f.data≠[]/\0<=g.start/\g.start+e_ g.len<=start:=by
 unfold Bn at h;obtain⟨h,cC⟩:=oB h;obtain⟨h,a_⟩:=oB h;obtain⟨h,aC⟩:=oB h;obtain⟨h,aa⟩:=oB h;obtain⟨h1,z⟩:=oB h;have mb:=at0 h1;have qx:=BY (λf:eS=>f.path==g.path) bW;have ax:bW.any (λf:eS=>f.path==g.path)=true:=by rw[<-qx];exact auM (by unfold qA at mb;omega)
 obtain⟨i,hi,au,e⟩:=aa2 ax
 have N:DB bW g=(bW[i].data.length:Nat):=by
  unfold DB qA;rw[e];simp[List.getD,hi]
 have Qn:g.len=(bW[i].data.length:Nat):=by rw[<-N];simpa using aa
 have vz:g.len≠0:=by simpa using z
 have atm:=at0 cC;refine⟨bW[i],atK hi,by simpa using au,Qn,λe=>vz (by rw[Qn,e];rfl),by have:=at0 aC;omega,by omega⟩
theorem aa_{p:dr}:∀(l:List eS) (s:xt),(l.map (·.path)).Nodup->(∀f∈l,bj (l.foldl (gE p) s).data f.path=some f.data)/\∀q,q∉l.map (·.path)->bj (l.foldl (gE p) s).data q=bj s.data q
 |[],s,_=>⟨λf M=>(by cases M),λq _=>rfl⟩
 |f::r,s,h=>by rw[aum,avB]at h;obtain⟨h1,z⟩:=aa_ (p:=p) r (gE p s f) h.2;(have N:(gE p s f).data=fC s.data f.path f.data:=by unfold gE;split<;>rfl);rw[avj];refine⟨λg aT=>?_,λq I=>?_⟩;rcases at6.1 aT with rfl|aT;rw[z _ h.1,N,kq,atH rfl];exact h1 g aT;rw[aum,at6,not_or]at I;rw[z q I.2,N,kq,atG I.1]
theorem aa'{p:dr}:∀(l:List eS) (s:xt) (q:atE),bj (l.foldl (gE p) s).own q=if q∈l.map (·.path)/\(bj p.aR q).isSome=true then bj p.aR q else bj s.own q
 |[],s,q=>by rw[atG (λh=>by cases h.1)];rfl
 |f::r,s,q=>by rw[avj,aa' r (gE p s f) q,aum];(have ag:(gE p s f).own=if(bj p.aR f.path).isSome=true then fC s.own f.path ((bj p.aR f.path).getD gq)else s.own:=by unfold gE;split<;>rfl);by_cases h1:q∈r.map (·.path)/\(bj p.aR q).isSome=true;rw[atH h1,atH ⟨atU _ h1.1,h1.2⟩];rw[atG h1,ag];by_cases I:q=f.path;subst I;by_cases aT:(bj p.aR f.path).isSome=true;rw[atH aT,kq,atH rfl,atH ⟨atS,aT⟩];obtain⟨g,xD⟩:=avM.1 aT;rw[xD];rfl;rw[atG aT,atG λh=>aT h.2];rw[atG (show¬(q∈f.path::r.map (·.path)/\(bj p.aR q).isSome=true)from λh=>by rcases at6.1 h.1 with e|e;exact I e;exact h1 ⟨e,h.2⟩)];by_cases aT:(bj p.aR f.path).isSome=true;rw[atH aT,kq,atG I];rw[atG aT]
theorem aba{p:dr}(hs:p.m.oS=false):∀(l:List eS) (s:xt),s.sh=[]->(l.foldl (gE p) s).sh=[]
 |[],s,h=>h
 |f::r,s,h=>by rw[avj];refine aba hs r _ ?_;unfold gE;split;dsimp only;rw[hs,atG atx];exact h;exact h
def abb(data:List (atE×atE))(q:atE):Int:=(((bj data q).getD []).length:Nat)
def u6(S:Int)(f:cM):Prop:=0<f.len/\S<=f.start
def mm(f:cM):Int×Int:=(f.start,e_ f.len)
structure zy (n:ad) (m:e2) (l:mK) (g7:List Int) (oP:Int) (oE:List Int):Prop where
 s:0<=l.S/\l.S<=1000
 c:1<=l.C/\l.C<=4096
 bV:l.jf.length<=1000000/\l.files.length<=1000000
 u0:oE=((g7++lT l.S oP.toNat)++lT l.iS l.iC.toNat)++l.jf
 Br:oE.Nodup
 yj:∀k∈oE,l.S<=k/\k<l.S+l.C
 oP:0<=oP/\oP<=l.C
 iso:0<=l.iC/\l.iC<=l.C/\0<=l.iS/\l.iS<=1000000
 gf:∀f∈l.files,0<=f.len/\f.len<=200000/\0<=f.start/\f.start<=1000000/\f.path.length<1000000000/\(dQ n f.path).2=0/\((dQ n f.path).1.dB.length:Int)=f.len
 ib:∀f∈l.files,u6 l.S f->e_ f.len<=l.C/\∀k,f.start<=k->k<f.start+e_ f.len->l.S<=k/\k<l.S+l.C/\k∉oE
 abc:l.files.Pairwise λf g=>u6 l.S f->u6 l.S g->(mm f=mm g/\m.oS=true/\(dQ n f.path).1.dB=(dQ n g.path).1.dB)\/(f.start+e_ f.len<=g.start\/g.start+e_ g.len<=f.start)
structure xU (n:ad) (l:mK) (i:Nat) (L:pN):Prop where
 Br:(L.map (·.1)).Nodup
 G_:∀e∈L,∃j,∃Z:j<l.files.length,j<i/\u6 l.S l.files[j]/\e=(mm l.files[j],(dQ n l.files[j].path).1.dB)
 all:∀j (Z:j<l.files.length),j<i->u6 l.S l.files[j]->mm l.files[j]∈L.map (·.1)
def G'(L:pN):List Int:=L.flatMap λe=>lT e.1.1 e.1.2.toNat
theorem abd{k:Int}(h0:0<=k)(h1:k<=1000000):(Lit.int .i64 k).wf=true:=by simp only[Lit.wf,atM,aup];exact⟨Int.le_trans (show IntKind.i64.min<=0 by decide) h0,Int.le_trans h1 (show(1000000:Int)<=IntKind.i64.max by decide)⟩
variable{g7 oE:List Int}
theorem zy.key{n:ad}{m:e2}{l:mK}{oP:Int}(h:zy n m l g7 oP oE){f:cM}(M:f∈l.files):∃hV,keyOf Tryz.prog 23 (pM (mm f))=some hV:=by obtain⟨jc,lo,sU,f4,_⟩:=h.gf f M;(have G:e_ f.len<=1000000/\0<=e_ f.len:=by rw[K6 jc,atX atv];omega);exact aqA (abd sU f4) (abd G.2 G.1)
variable{i:Nat}
theorem xU.skip{n:ad}{l:mK}{L:pN}(h:xU n l i L)(X:∀hi:i<l.files.length,u6 l.S l.files[i]->mm l.files[i]∈L.map (·.1)):xU n l (i+1) L :=
 ⟨h.Br,λe ak=>by
  obtain⟨j,Z,h1,z,aa⟩:=h.G_ e ak
  exact⟨j,Z,by omega,z,aa⟩,λj Z fc au=>by
  by_cases e:j=i
  ·subst e;exact X Z au
  exact h.all j Z atv au⟩
theorem xU.add{n:ad}{l:mK}{L:pN}(h:xU n l i L)(hi:i<l.files.length)(au:u6 l.S l.files[i])(d6:mm l.files[i]∉L.map (·.1)):xU n l (i+1) (L++[(mm l.files[i],(dQ n l.files[i].path).1.dB)]):=by refine⟨?_,λe ak=>?_,λj Z fc aqE=>?_⟩;rw[auo,au9];refine⟨h.Br,by simp,λa ha b G e=>?_⟩;simp at G;subst G;subst e;exact d6 ha;rcases at1.1 ak with ak|ak;obtain⟨j,Z,h1,z,aa⟩:=h.G_ e ak;exact⟨j,Z,by omega,z,aa⟩;simp at ak;exact⟨i,hi,by omega,au,ak⟩;rw[auo];by_cases e:j=i;subst e;simp;exact avD _ (h.all j Z atv aqE)
theorem K7{n:Int}(h:0<n):1<=e_ n:=by rw[K6 atv,atX atv];omega
theorem zy.aqF{n:ad}{m:e2}{l:mK}{oP:Int}(N:zy n m l g7 oP oE){L:pN}(h:xU n l i L)(hi:i<l.files.length)(au:u6 l.S l.files[i])
  (hT:¬((tD L (mm l.files[i])).isSome=true/\m.oS=true/\(tD L (mm l.files[i])).getD []=(dQ n l.files[i].path).1.dB)):mm l.files[i]∉L.map (·.1):=λhm=>by
 obtain⟨e,ak,X⟩:=at3.1 hm;obtain⟨q,I,rfl⟩:=auh.1 ak;obtain⟨j,Z,h1,z,aa⟩:=h.G_ _ ak;have Ru:=aaW h.Br I;rw[X]at Ru;rcases auG.1 N.abc j i Z hi h1 z au with⟨_,a_,cC⟩|a_
 ·refine hT ⟨by rw[Ru];rfl,a_,?_⟩;rw[Ru,<-cC,aa];rfl
 have bT:mm l.files[j]=mm l.files[i]:=by rw[<-X,aa]
 have b0:l.files[j].start=l.files[i].start:=atI Prod.fst bT;have j':e_ l.files[j].len=e_ l.files[i].len:=atI Prod.snd bT;have:=K7 au.1;omega
theorem zy.apart{n:ad}{m:e2}{l:mK}{oP:Int}(N:zy n m l g7 oP oE){L:pN}(h:xU n l i L)(hi:i<l.files.length)(au:u6 l.S l.files[i])(d6:mm l.files[i]∉L.map (·.1)):
  ∀k,l.files[i].start<=k->k<l.files[i].start+e_ l.files[i].len->k∉G' L:=λk ce dn hm=>by
 obtain⟨e,ak,X⟩:=avx.1 hm;obtain⟨j,Z,h1,z,rfl⟩:=h.G_ _ ak;rw[sC]at X;have fA:l.files[j].start<=k/\k<l.files[j].start+((e_ l.files[j].len).toNat:Nat):=X;have:=K7 z.1;rcases auG.1 N.abc j i Z hi h1 z au with⟨aC,_⟩|a_
 ·exact d6 (at3.2 ⟨_,ak,aC⟩)
 omega
theorem aqG{a b c d e f:Bool}(h:(bif bif bif bif bif a then b else false then c else false then d else false then true else e then true else f)=false):e=false/\f=false/\(a=true->b=true->c=true->d=true->False):=by revert h;cases a<;>cases b<;>cases c<;>cases d<;>cases e<;>cases f<;>decide
theorem aqH{a b c d e f:Bool}(h:(bif bif bif bif bif a then b else false then c else false then d else false then true else e then true else f)=true)(ak:e=false)(M:f=false):b=true:=by revert h ak M;cases a<;>cases b<;>cases c<;>cases d<;>cases e<;>cases f<;>decide
theorem abe(aV:dc B)(lG:aS B 9 [] (.bool true))(n:ad)(m:e2)(aR:List cM)(start:Int)(av:fv n)(l:mK)(ok:Bool)(W:ok=true->valid n=true)(Ha:aS B 14 [aH n,hW m,.Q .none 3 (aR.map bg),u start] (.bl [lB l,.bool ok]))(oE:List Int)(pD:ok=true->l.S=start/\zy n m l (kJ m l.S l.C) (if hX m.e3 3=true then 68 else 16) oE): aS B 4 [aH n,hW m,.Q .none 3 (aR.map bg),u start] (.bool true):=by refine fn Tryz.func4 Tryz.ntmps4 λU=>?_;refine go ?_;intro cP;(conv=>whnf);refine cT ?_;intro cx;(conv=>whnf);refine cT ?_;refine jB 4 4 12 (aH n) ?_;refine jB 5 5 13 (hW m) ?_;refine go ?_;refine br lG ?_;refine br Ha ?_;intro iN;(conv=>whnf);refine go ?_;refine cb (t:=!ok) ?_ ?_<;>intro hc;refine go ?_;exact E;(have cv:ok=true:=by simpa using hc);obtain⟨gc,N⟩:=pD cv;obtain⟨dj,g6⟩:=N.s;obtain⟨hS,eZ⟩:=N.c;obtain⟨lV,m9⟩:=N.oP;obtain⟨k5,ne,JU,q3⟩:=N.iso;refine jB 9 9 16 (lB l) ?_;refine go ?_;intro yZ;(conv=>whnf);refine go ?_;refine yp (t:=bif (bif !(l.S==start)then true else decide (l.C<1))then true else decide (4096<l.C)) (by rw[gc,aug (by omega:¬l.C<1),aug (by omega:¬4096<l.C)];simp) ?_;refine .inr (af.ud λhz=>?_);(conv=>whnf);refine cT ?_;intro sA;(conv=>whnf);refine cT ?_;apply b3;(conv=>whnf);refine cT ?_;apply b3;(conv=>whnf);refine cT ?_;(have im:∀el first count h0 h1 lV m9 h,cV B 15 _ _ _:=λel first count h0 h1 lV m9 h=>aqw (B:=B) l.S l.C dj atv eZ first count h0 h1 lV m9 el h yZ sA hz;apply en;refine nf (λ_:Unit=>True) [4,5,9,11,12,13] [11,12] (λ_=>[(14,u (if hX m.e3 3=true then 68 else 16))]) (λ_=>[(55,.mp hz (tC (kJ m l.S l.C)))]) ?_ ?_);refine go ?_;refine cb (t:=hX m.e3 3) ?_ ?_<;>intro dO;have ae:kJ m l.S l.C=r_ l.S l.C:=atH dO;have aqI:=UV m l.S l.C;rw[ae]at N aqI⊢;(have mO:(r_ l.S l.C).Nodup:=by have:=N.Br;rw[N.u0]at this;exact(au9.1 (au9.1 (au9.1 this).1).1).1);have cg:∀k∈r_ l.S l.C,l.S<=k/\k<l.S+l.C:=λk X=>N.yj k (by rw[N.u0];exact avD _ (avD _ (avD _ X)));have aqJ:=US (B:=B) l.S l.C;generalize r_ l.S l.C=bA at*;(have IN:(bn bA).length=bA.length:=by simp[bn]);refine go ?_;refine br aqJ ?_;refine gn (λi:Nat=>i<=bA.length) [4,5,9,11,12,13,14,63,64] [11,12] (λi=>[(65,u i)]) (λi=>[(55,.mp hz (tC (bA.take i)))]) (λi=>bA.length-i) 0 (at7 _) [(11,11),(12,12),(55,55)] ?_;intro i hi;refine go ?_;refine cb (t:=decide ((i:Int)<((bn bA).length:Nat))) ?_ ?_<;>intro kf;(have aE:i<bA.length:=by have:=auc kf;omega);obtain⟨ga,a2⟩:=cg _ (atK aE);(have d6:bA[i]∉bA.take i:=λhm=>by obtain⟨j,Z,e⟩:=auh.1 hm;rw[at4]at Z;rw[awv]at e;exact auG.1 mO j i atv aE atv e);refine go ?_;refine bH (u bA[i]) (by simp[bn,aE]) ?_;refine ke [(3005,11),(3006,12),(3007,55)] (im (bA.take i) bA[i] 1 aty atv atv atv λk ce dn=>by(obtain rfl:k=bA[i]:=by omega);exact⟨ga,a2,d6⟩) ?_;exact eX (i+1) [(11,11),(12,12),(55,55)] aE (z:=⟨cH,rfl,by exact⟨rfl,rfl,rfl,rfl,rfl,vw (by rw[atN aE];simp[lT]),ai⟩⟩);(have Rv:i=bA.length:=by have:=at0 kf;omega);subst Rv;rw[atW];refine go ?_;exact gp () [(11,11),(12,12),(55,55)] trivial (z:=⟨by exact⟨E,E,E,E,E,E,Cd (by rw[atH dO]),ai⟩,rfl,cH⟩);have ae:kJ m l.S l.C=[]:=atG (by rw[dO];decide);rw[ae];refine go ?_;exact gp () [(11,11),(12,12),(55,55)] trivial (z:=⟨by exact⟨E,E,E,E,E,E,Cd (by rw[atG (by rw[dO];decide)]),ai⟩,rfl,cH⟩);rintro⟨⟩ -;have fR:=N.u0;have K8:=N.Br;have tL:=N.yj;rw[fR]at K8 tL;obtain⟨ZE,_,abf⟩:=au9.1 K8;obtain⟨AE,_,A1⟩:=au9.1 ZE;obtain⟨rL,_,y_⟩:=au9.1 AE;generalize abg:(if hX m.e3 3=true then(68:Int)else 16)=xV at*;generalize atn:kJ m l.S l.C=g7 at*;apply m';refine Y.Af aL ?_;(conv=>whnf);refine cT ?_;refine ke [(3005,11),(3006,12),(3007,55)] (im g7 l.S xV lV m9 atv atv λk ce dn=>by have X:k∈lT l.S xV.toNat:=sC.2 ⟨ce,by omega⟩;have:=tL k (avD _ (avD _ (awx _ X)));exact⟨this.1,this.2,λhm=>y_ k hm k X rfl⟩) ?_;(iterate 7 (refine⟨_,_,rfl,rfl,.inl ⟨rfl,.inl ?_⟩⟩;(conv=>whnf);refine cT ?_));refine⟨_,_,rfl,rfl,.inl ⟨rfl,ke [(3005,11),(3006,12),(3007,55)] (im (g7++lT l.S xV.toNat) l.iS l.iC k5 ne JU q3 λk ce dn=>by have X:k∈lT l.iS l.iC.toNat:=sC.2 ⟨ce,by omega⟩;have:=tL k (avD _ (awx _ X));exact⟨this.1,this.2,λhm=>A1 k hm k X rfl⟩) ?_⟩⟩;(iterate 2 (refine⟨_,_,rfl,rfl,.inl ⟨rfl,.inl ?_⟩⟩;(conv=>whnf);refine cT ?_));(iterate 4 (refine⟨_,_,rfl,rfl,.inr ⟨rfl,?_⟩⟩;(conv=>whnf);refine cT ?_));refine⟨_,_,rfl,rfl,.inl ⟨rfl,.inr (af.wZ rfl rfl ?_)⟩⟩;(conv=>whnf);refine⟨rfl,.inr (af.wZ rfl rfl ?_)⟩;(conv=>whnf);refine go ?_;obtain⟨Hb,abh⟩:∃Hb,Hb=(g7++lT l.S xV.toNat)++lT l.iS l.iC.toNat:=⟨_,rfl⟩;rw[<-abh];rw[<-abh]at fR K8 tL abf;(have YE:(bn l.jf).length=l.jf.length:=by simp[bn]);obtain⟨ol,i7⟩:=N.bV;refine gn (λi:Nat=>i<=l.jf.length) [4,5,9,11,12,13,99,100] [11,12] (λi=>[(101,u i)]) (λi=>[(55,.mp hz (tC (Hb++l.jf.take i)))]) (λi=>l.jf.length-i) 0 (at7 _) [(11,11),(12,12),(55,55)] ?_ (h1:=⟨cH,rfl,by exact⟨rfl,rfl,rfl,rfl,rfl,vw atx,ai⟩⟩);intro i hi;refine go ?_;refine cb (t:=decide ((i:Int)<((bn l.jf).length:Nat))) ?_ ?_<;>intro kf;(have aE:i<l.jf.length:=by have:=auc kf;omega);obtain⟨ga,a2⟩:=tL l.jf[i] (awx _ (atK aE));(have d6:l.jf[i]∉Hb++l.jf.take i:=λhm=>by rcases at1.1 hm with hm|hm;exact abf _ hm _ (atK aE) rfl;obtain⟨j,Z,e⟩:=auh.1 hm;rw[at4]at Z;rw[awv]at e;have n':l.jf.Nodup:=(au9.1 K8).2.1;exact auG.1 n' j i atv aE atv e);refine go ?_;refine bH (u l.jf[i]) (by simp[bn,aE]) ?_;refine ke [(3005,11),(3006,12),(3007,55)] (im (Hb++l.jf.take i) l.jf[i] 1 aty atv atv atv λk ce dn=>by(obtain rfl:k=l.jf[i]:=by omega);exact⟨ga,a2,d6⟩) ?_;exact eX (i+1) [(11,11),(12,12),(55,55)] aE (z:=⟨cH,rfl,by exact⟨rfl,rfl,rfl,rfl,rfl,vw (by rw[atN aE,auj];simp[lT]),ai⟩⟩);(have Rv:i=l.jf.length:=by have:=at0 kf;omega);subst Rv;rw[atW,<-fR];refine go ?_;refine .inr (af.adN λaqK=>?_);(conv=>whnf);refine go ?_;have aqL:(l.files.map bg).length=l.files.length:=atL _;rw[aqL];refine gn (λV:Nat×pN=>V.1<=l.files.length/\xU n l V.1 V.2) [4,5,9,11,12,13,19,112,113] [11,12] (λV=>[(114,u V.1)]) (λV=>[(55,.mp hz (tC (oE++G' V.2))),(110,DK aqK V.2)]) (λV=>l.files.length-V.1) (0,[]) ⟨at7 _,awP,λe ak=>by(cases ak),λj Z h=>by(cases h)⟩ [(11,11),(12,12),(55,55),(110,110)] ?_ (h1:=⟨cH,rfl,by exact⟨rfl,rfl,rfl,rfl,rfl,vw (by simp[G']),rfl,ba⟩⟩);rintro⟨i,L⟩ ⟨hi,vE⟩;dsimp only at hi vE⊢;refine go ?_;refine cb (t:=decide ((i:Int)<(l.files.length:Nat))) ?_ ?_<;>intro kf;(have aE:i<l.files.length:=by have:=auc kf;omega);obtain⟨jc,lo,sU,f4,EC,f6,aqM⟩:=N.gf _ (atK aE);(have Ly:dk .i64 ((l.files[i].len+2048-1).tdiv 2048):=by rw[atX atv];simp only[dk];omega);have hbk:=K6 jc;have aqN:=OI (B:=B) aV l.files[i].path EC n av (W cv);refine go ?_;intro ato;(conv=>whnf);refine go ?_;refine yp (t:=bif decide (l.files[i].len<0)then true else decide (200000<l.files[i].len)) (by rw[aug (by omega:¬l.files[i].len<0),aug (by omega:¬200000<l.files[i].len)];rfl) ?_;intro sr;(conv=>whnf);refine go ?_;refine br aqN ?_;intro PQ;(conv=>whnf);refine go ?_;refine yp (t:=bif !((dQ n l.files[i].path).2==0)then true else !(((dQ n l.files[i].path).1.dB.length:Int)==l.files[i].len)) (by rw[f6,aqM];simp) ?_;(have k2:mm l.files[i]=(l.files[i].start,(l.files[i].len+2048-1).tdiv 2048):=by unfold mm;rw[hbk]);have ya:=N.key (atK aE);(have sN:∀x∈L,∃hV,keyOf Tryz.prog 23 (pM x.1)=some hV:=λx F=>by obtain⟨j,Z,_,_,rfl⟩:=vE.G_ x F;exact N.key (atK Z));rw[k2]at ya;refine dD (af.aqx 110 (k:=(l.files[i].start,(l.files[i].len+2048-1).tdiv 2048)) Tryz.underlying51 aa0 atD rfl rfl rfl ya sN vE.Br) ?_;rw[<-k2];refine cb (t:=bif bif bif bif bif decide (0<l.files[i].len)then(tD L (mm l.files[i])).isSome else false then m.oS else false then(tD L (mm l.files[i])).getD []==(dQ n l.files[i].path).1.dB else false then true else l.files[i].len==0 then true else decide (l.files[i].start<l.S)) ?_ ?_<;>intro vV;refine go ?_;refine eX (i+1,L) [(11,11),(12,12),(55,55),(110,110)] ⟨aE,vE.skip λJU au=>?_⟩;have G:=aqH vV (aur.2 (by have:=au.1;omega)) (aug (by have:=au.2;omega));(exact Classical.byContradiction λd6=>by rw[aaX d6]at G;cases G);obtain⟨ek,dq,k9⟩:=aqG vV;have ek:=aur.1 ek;have dq:=at0 dq;have au:u6 l.S l.files[i]:=⟨by omega,by omega⟩;have d6:=N.aqF vE aE au λ⟨h1,z,aa⟩=>k9 (auM au.1) h1 z (by rw[aa];simp);have rM:=N.apart vE aE au d6;obtain⟨mE,hU⟩:=N.ib _ (atK aE) au;have aqO:=K7 au.1;rw[hbk]at mE hU rM aqO;refine go ?_;refine dD (af.aqz 110 (k:=mm l.files[i]) (gM:=(dQ n l.files[i].path).1.dB) Tryz.underlying51 aa0 rfl rfl (by rw[k2];rfl) rfl (by rw[k2];exact ya) sN d6) ?_;refine ke [(3005,11),(3006,12),(3007,55)] (im (oE++G' L) l.files[i].start ((l.files[i].len+2048-1).tdiv 2048) atv mE sU f4 λk ce dn=>by obtain⟨lc,kL,oX⟩:=hU k ce dn;exact⟨lc,kL,λhm=>(at1.1 hm).elim oX (rM k ce dn)⟩) ?_;exact eX (i+1,L++[(mm l.files[i],(dQ n l.files[i].path).1.dB)]) [(11,11),(12,12),(55,55),(110,110)] ⟨aE,vE.add aE au d6⟩ (z:=⟨cH,rfl,by exact⟨rfl,rfl,rfl,rfl,rfl,vw (by rw[auj];unfold G';rw[avs];simp[mm,hbk]),rfl,ba⟩⟩);refine go ?_;exact E
theorem aqP(m:e2)(S C:Int):(kJ m S C).Nodup/\∀k∈kJ m S C,S<=k/\k<S+C:=by unfold kJ;split;unfold r_;split;unfold Aw;refine⟨List.filter_sublist.nodup ?_,λk X=>?_⟩;rw[List.Nodup,au_];exact List.nodup_range.imp λh e=>h atv;obtain⟨X,_⟩:=auz.1 X;obtain⟨j,Z,rfl⟩:=at3.1 X;rw[auY]at Z;omega;exact⟨.nil,λk X=>by cases X⟩;exact⟨.nil,λk X=>by cases X⟩
theorem abi{p:dr}:∀(l:List eS) (s:xt) (done:List atE),(l.map (·.path)).Nodup->(∀f∈l,f.path∉done)->(∀d x,bj s.sh d=some x->∃q∈done,bj s.own q=some x/\bj s.data q=some d)->∀d x,bj (l.foldl (gE p) s).sh d=some x->∃q,bj (l.foldl (gE p) s).own q=some x/\bj (l.foldl (gE p) s).data q=some d
 |[],s,done,_,_,h,d,x,N=>by obtain⟨q,_,h1⟩:=h d x N;exact⟨q,h1⟩
 |f::r,s,done,av,M,h,d,x,N=>by rw[aum,avB]at av;have v_:=M f atS;refine abi r (gE p s f) (f.path::done) av.2 (λg aT hm=>?_) (λd' bU bq=>?_) d x N;rcases at6.1 hm with e|hm;exact av.1 (at3.2 ⟨g,aT,e⟩);exact M g (atU _ aT) hm;(have hD:bj s.sh d'=some bU->∃q∈f.path::done,bj (gE p s f).own q=some bU/\bj (gE p s f).data q=some d':=λag=>by obtain⟨q,I,h1,z⟩:=h d' bU ag;have aX:q≠f.path:=λe=>v_ (e ▸ I);refine⟨q,atU _ I,?_,?_⟩;unfold gE;split;dsimp only;rw[kq,atG aX];exact h1;exact h1;unfold gE;split<;>(dsimp only;rw[kq,atG aX];exact z));by_cases aT:(bj p.aR f.path).isSome=true;obtain⟨g,xD⟩:=avM.1 aT;(have e:gE p s f={data:=fC s.data f.path f.data,own:=fC s.own f.path g,sh:=if(bif p.m.oS then !(bj s.sh f.data).isSome else false)=true then fC s.sh f.data g else s.sh}:=by unfold gE;rw[atH aT,xD];rfl);rw[e]at bq⊢ hD;dsimp only at bq⊢ hD;split at bq;rw[kq]at bq;split at bq;rename_i ak;cases bq;exact⟨f.path,atS,by rw[kq,atH rfl],by rw[kq,atH rfl,ak]⟩;exact hD bq;exact hD bq;(have e:(gE p s f).sh=s.sh:=by unfold gE;rw[atG aT]);rw[e]at bq;exact hD bq
structure wz (p:dr) (T:List Int) (a0:Int) (data:List (atE×atE)) (s:mQ):Prop where
 a:a0<=s.a
 own:∀q x,bj s.own q=some x->bj p.aR q=none->a0<=x.start/\x.start+e_ x.len<=s.a/\G9 T (e_ x.len) x.start/\x.len=abb data q
 Bh:∀q fh x bU,bj s.own q=some x->bj s.own fh=some bU->bj p.aR q=none->bj p.aR fh=none->q≠fh->x.start+e_ x.len<=bU.start\/bU.start+e_ bU.len<=x.start
 sh:∀d x,bj s.sh d=some x->∃q,bj s.own q=some x/\(bj data q).getD []=d
 eL:p.m.oS=false->∀d,bj s.sh d=none
variable{a0:Int}{data:List (atE×atE)}
theorem wz.next{p:dr}{s:mQ}(h:wz p T a0 data s){q:atE}(aT:bj p.aR q=none)(I:bj s.own q=none):wz p T a0 data (lJ p T data s q):=by unfold lJ;split;exact h;rename_i i1;obtain⟨jc,lo,_⟩:=Rt T (e_ ((bj data q).getD []).length) s.a;have als:0<=e_ (((bj data q).getD []).length:Nat):=aa8 atv;have ha:=h.a;refine⟨by dsimp only;omega,λfh x F qI=>?_,λlc kL I6 CT h1 z g1 eP aX=>?_,λd x F=>?_,λhs d=>?_⟩;dsimp only at F⊢;rw[kq]at F;split at F;rename_i e;subst e;cases F;exact⟨by dsimp only;omega,auu _,lo,rfl⟩;obtain⟨c9,da,jU,y'⟩:=h.own fh x F qI;exact⟨c9,by omega,jU,y'⟩;dsimp only at h1 z;rw[kq]at h1 z;split at h1<;>split at z;rename_i bT b0;exact absurd (bT.trans b0.symm) aX;cases h1;obtain⟨_,da,_⟩:=h.own kL CT z eP;exact .inr (by dsimp only;omega);cases z;obtain⟨_,da,_⟩:=h.own lc I6 h1 g1;exact .inl (by dsimp only;omega);exact h.Bh lc kL I6 CT h1 z g1 eP aX;dsimp only at F⊢;(have hD:bj s.sh d=some x->∃fh,bj (fC s.own q ⟨q,e' T (e_ ((bj data q).getD []).length) s.a,((bj data q).getD []).length⟩) fh=some x/\(bj data fh).getD []=d:=λag=>by obtain⟨fh,h1,z⟩:=h.sh d x ag;exact⟨fh,by rw[kq,atG λe=>by subst e;rw[I]at h1;cases h1];exact h1,z⟩);split at F;rw[kq]at F;split at F;rename_i e;cases F;exact⟨q,by rw[kq,atH rfl],e.symm⟩;exact hD F;exact hD F;dsimp only;rw[hs,atG aty];exact h.eL hs d
theorem aqQ{p:dr}{s:mQ}{q fh:atE}:(fh≠q->bj (lJ p T data s q).own fh=bj s.own fh)/\((bj s.own fh).isSome=true->(bj (lJ p T data s q).own fh).isSome=true)/\(∀d,(bj s.sh d).isSome=true->(bj (lJ p T data s q).sh d).isSome=true)/\((bj (lJ p T data s q).own q).isSome=true\/(bj (lJ p T data s q).sh ((bj data q).getD [])).isSome=true):=by unfold lJ;split;rename_i h;exact⟨λ_=>rfl,λh=>h,λd h=>h,.inr h⟩;refine⟨λaX=>by dsimp only;rw[kq,atG aX],λh=>?_,λd h=>?_,.inl (by dsimp only;rw[kq,atH rfl];rfl)⟩;dsimp only;rw[kq];split;rfl;exact h;dsimp only;split;rw[kq];split;rfl;exact h;exact h
theorem wz.all{p:dr}{T:List Int}{a0:Int}{data:List (atE×atE)}:∀(o:List atE) (s:mQ),wz p T a0 data s->o.Nodup->(∀q∈o,bj p.aR q=none/\bj s.own q=none)->wz p T a0 data (jj p T data s o)/\(∀q,(bj s.own q).isSome=true->(bj (jj p T data s o).own q).isSome=true)/\(∀d,(bj s.sh d).isSome=true->(bj (jj p T data s o).sh d).isSome=true)/\(∀q∈o,(bj (jj p T data s o).own q).isSome=true\/(bj (jj p T data s o).sh ((bj data q).getD [])).isSome=true)/\∀q,q∉o->bj (jj p T data s o).own q=bj s.own q
 |[],s,h,_,_=>⟨h,λq h=>h,λd h=>h,λq I=>(by cases I),λq _=>rfl⟩
 |q::r,s,h,av,I=>by rw[avB]at av;obtain⟨g1,eP⟩:=I q atS;have F:=λfh=>aqQ (p:=p) (T:=T) (data:=data) (s:=s) (q:=q) (fh:=fh);obtain⟨jg,ki,k_,nj,q8⟩:=wz.all r (lJ p T data s q) (h.next g1 eP) av.2 λfh bq=>⟨(I fh (atU _ bq)).1,by rw[(F fh).1 λe=>av.1 (e ▸ bq)];exact(I fh (atU _ bq)).2⟩;refine⟨jg,λfh bq=>ki fh ((F fh).2.1 bq),λd bq=>k_ d ((F q).2.2.1 d bq),λfh bq=>?_,λfh bq=>?_⟩;rcases at6.1 bq with e|bq;subst e;exact(F fh).2.2.2.imp (ki fh) (k_ _);exact nj fh bq;rw[at6,not_or]at bq;show bj (jj p T data (lJ p T data s q) r).own fh=_;rw[q8 fh bq.2,(F fh).1 bq.1]
theorem aqR(p:dr)(s aj:Int×Int)(h0:0<=p.desc)(ak:(eG p s aj).2=0):p.start+(if hX p.m.e3 3=true then 68 else 16)<=(eG p s aj).1.free:=by(have z:(iQ p s).free=p.start+66+2/\(0:Int)<=(iQ p s).desc:=by unfold iQ;split;exact⟨rfl,by show 0<=qf _;unfold qf;split<;>split<;>omega⟩;exact⟨rfl,h0⟩);unfold eG at ak⊢;split at ak;rename_i h1;exact absurd ak h1.2;rename_i h1;rw[atG h1];unfold cY;split;show _<=(iQ p s).free;omega;show _<=p.start+16+(iQ p s).desc;omega
variable{aR:List cM}{mp:List (atE×cM)}
theorem Rw{n:ad}{m:e2}(ag:jn n m aR start=some mp){q:atE}{g:cM}(h:bj mp q=some g):∃f∈ci n,f.path=q/\f.data≠[]/\g.len=f.data.length/\0<=g.start/\g.start+e_ g.len<=start/\aR.any (λg=>g.path==q)=true:=by(have hO:aR.foldl (qB (ci n) start) (some [])=some mp:=by unfold jn at ag;split at ag;cases ag;exact ag);obtain⟨mi,_⟩:=aa9 aR [] mp hO;have cy:=K1 aR [] mp hO q;rw[h]at cy;(have qx:aR.any (λg=>g.path==q)=true:=by simpa[bj]using cy.symm);obtain⟨u',qI,e⟩:=au1.1 qx;(have e:u'.path=q:=by simpa using e);obtain⟨h1,z⟩:=mi u' qI;rw[e,h]at h1;cases h1;obtain⟨f,jc,lo,sU,f4,EC,f6⟩:=aqD z;exact⟨f,jc,by rw[lo,e],f4,sU,EC,f6,qx⟩
structure aqS (n:ad) (m:e2) (mp:List (atE×cM)) (P:dr) (T:List Int) (a0:Int) (e:mQ) (data:List (atE×atE)):Prop where
 x:wz P T a0 data e
 f:∀f∈ci n,f.data≠[]->∃q y,bj e.own q=some y/\(bj data q).getD []=f.data/\(gS e f).start=y.start/\(gS e f).len=y.len/\(m.oS=false->q=f.path)
 V:∀f∈ci n,f.data=[]->(gS e f).start=0/\(gS e f).len=0
 g:∀q y,bj mp q=some y->bj e.own q=some y
theorem aqT{n:ad}{m:e2}(ag:jn n m aR start=some mp){P:dr}{c:Int}(aqU:P.files=ci n)(aqV:P.cX=jo aR (ci n))(Rx:P.aR=mp)(aqW:P.m=m): ∃data,(∀f∈ci n,bj data f.path=some f.data)/\aqS n m mp P (fy P c) (jk P (fy P c)).2 (kP P c) data:=by have mO:=aa7 n;obtain⟨xW,_⟩:=aa_ (p:=P) (ci n) ⟨[],[],[]⟩ mO;have sK:=aa' (p:=P) (ci n) ⟨[],[],[]⟩;have aqX:=abi (p:=P) (ci n) ⟨[],[],[]⟩ [] mO (λf _ h=>by cases h) (λd x h=>by simp[bj]at h);have aqY:=λhs=>aba (p:=P) hs (ci n) ⟨[],[],[]⟩ rfl;(have jw:kP P c=jj P (fy P c) ((ci n).foldl (gE P) ⟨[],[],[]⟩).data ⟨((ci n).foldl (gE P) ⟨[],[],[]⟩).own,((ci n).foldl (gE P) ⟨[],[],[]⟩).sh,(jk P (fy P c)).2⟩ (jo aR (ci n)):=by unfold kP uM kr;rw[aqU,aqV]);generalize(ci n).foldl (gE P) ⟨[],[],[]⟩=ff at*;(have bz:∀q,bj P.aR q=none->bj ff.own q=none:=λq I=>by rw[sK q,atG λh=>by rw[I]at h;cases h.2];rfl);(have h0:wz P (fy P c) (jk P (fy P c)).2 ff.data ⟨ff.own,ff.sh,(jk P (fy P c)).2⟩:=by refine⟨auu _,λq x F aT=>?_,λq fh x bU F _ aT=>?_,λd x F=>?_,λhs d=>?_⟩;have:=bz q aT;dsimp only at F;rw[this]at F;cases F;have:=bz q aT;dsimp only at F;rw[this]at F;cases F;obtain⟨q,h1,z⟩:=aqX d x F;exact⟨q,h1,by rw[z];rfl⟩;dsimp only;rw[aqY hs];rfl);(have cg:∀q,(bj mp q).isSome=aR.any λg=>g.path==q:=λq=>by unfold jn at ag;split at ag;cases ag;have:=K1 aR [] mp ag q;rw[this];simp[bj]);have t8:(jo aR (ci n)).Nodup:=(List.filter_sublist.map (λf:eS=>f.path)).nodup mO;(have dd:∀q∈jo aR (ci n),bj mp q=none/\∃f∈ci n,f.path=q/\f.data≠[]:=λq I=>by obtain⟨f,m9,rfl⟩:=at3.1 I;obtain⟨MK,yx⟩:=auz.1 m9;unfold DD at yx;cases N:f.data !=[]with|false=>rw[N]at yx;cases yx|true =>rw[N]at yx;have bi:fe (λg:cM=>g.path==f.path) aR<0:=auc yx;(have:(bj mp f.path).isSome=false:=by rw[cg,<-BY];exact aug atv);(have h0:bj mp f.path=none:=by cases h:bj mp f.path with|none=>rfl|some x=>rw[h]at this;cases this);exact⟨h0,f,MK,rfl,by simpa using N⟩);(have lY:∀f∈ci n,f.data≠[]->bj mp f.path=none->f.path∈jo aR (ci n):=λf M N aT=>by refine at3.2 ⟨f,auz.2 ⟨M,?_⟩,rfl⟩;have z:=BY (λg:cM=>g.path==f.path) aR;rw[<-cg,aT]at z;have:=at0 z;unfold DD;rw[show(f.data !=[])=true by simpa using N,auM atv];rfl);(obtain⟨K9,Xv,aqZ,abj,Ry⟩:=wz.all (p:=P) (T:=fy P c) (jo aR (ci n)) _ h0 t8 λq I=>by have:=(dd q I).1;rw[<-Rx]at this;exact⟨this,bz q this⟩);rw[<-jw]at K9 Xv aqZ abj Ry;(have abk:∀q y,bj mp q=some y->bj (kP P c).own q=some y:=λq y hy=>by obtain⟨f,jc,lo,_⟩:=Rw ag hy;rw[Ry q λhm=>by have:=(dd q hm).1;rw[this]at hy;cases hy];show bj ff.own q=_;rw[sK q,Rx,atH ⟨at3.2 ⟨f,jc,lo⟩,by rw[hy];rfl⟩,hy]);(have d6:∀f∈ci n,f.data=[]->bj (kP P c).own f.path=none:=λf M N=>by(have xA:bj mp f.path=none:=by cases aT:bj mp f.path with|none=>rfl|some g =>obtain⟨oq,jc,lo,sU,_⟩:=Rw ag aT;have e:oq.data=f.data:=auA ((xW oq jc).symm.trans ((atI (bj ff.data) lo).trans (xW f M)));exact absurd (e.trans N) sU);rw[Ry f.path λhm=>by obtain⟨oq,jc,lo,sU⟩:=(dd _ hm).2;have e:oq.data=f.data:=auA ((xW oq jc).symm.trans ((atI (bj ff.data) lo).trans (xW f M)));exact sU (e.trans N)];exact bz _ (by rw[Rx];exact xA));refine⟨ff.data,xW,K9,λf M N=>?_,λf M N=>?_,abk⟩;unfold gS;(cases G:bj (kP P c).own f.path with|some y =>refine⟨f.path,y,G,by rw[xW f M];rfl,?_⟩;rw[atG (by unfold uO;rw[G];simp)];exact⟨rfl,rfl,λ_=>rfl⟩|none =>(have xA:bj mp f.path=none:=by cases aT:bj mp f.path with|none=>rfl|some g=>rw[abk _ _ aT]at G;cases G);have aC:=abj f.path (lY f M N xA);rw[G,xW f M]at aC;have hs:=aC.resolve_left atx;obtain⟨x,F⟩:=avM.1 hs;have F:bj (kP P c).sh f.data=some x:=F;obtain⟨q,lc,kL⟩:=K9.sh _ _ F;refine⟨q,x,lc,kL,?_⟩;rw[atH (by unfold uO;rw[G,F,show(f.data !=[])=true by simpa using N];rfl),F];exact⟨rfl,rfl,λtx=>by have:=K9.eL (by rw[aqW];exact tx) f.data;rw[F]at this;cases this⟩);unfold gS;rw[atG (by unfold uO;rw[N];simp),d6 f M N];exact⟨rfl,rfl⟩
theorem Rz{n:ad}{f:eS}(M:f∈ci n):(dQ n f.path).2=0/\(dQ n f.path).1.dB=f.data:=by obtain⟨p,_,au⟩:=awm.1 M;unfold ie at au;split at au;rename_i h;cases au;refine⟨?_,rfl⟩;unfold Gg at h;dsimp only;(cases h0:(dQ n p).2==0 with|true=>simpa using h0|false=>rw[h0]at h;cases h);cases au
theorem aq0(aV:dc B){n:ad}{m:e2}{l:mK}(av:fv n)(m9:pA n 100000=true)(h:aaD n m aR start l):∃oE,l.S=start/\zy n m l (kJ m l.S l.C) (if hX m.e3 3=true then 68 else 16) oE:=by obtain⟨mp,P,i,ag,gL,hs,hi,g5,_,rfl⟩:=h.ck;have dj:=h.gN;have g6:=h.e9;obtain⟨⟨_,GD,zg⟩,_,w6,E',hsz⟩:=K0 (B:=B) aV m av m9;have X:=aaC (iW n m mp start) (kv (he m) n) (jp n m.dl);have K_:=aqR (iW n m mp start) (kv (he m) n) (jp n m.dl) (auu _) (by rw[gL]);have AW:A3 (eG (iW n m mp start) (kv (he m) n) (jp n m.dl)).1:=Q0 av ag (by have:=KZ n;have:=(y4 m9).2;have:=Gn (gs n m mp start []) (ci n);omega) ⟨GD,zg⟩ ⟨w6,by omega⟩ (by show(eG (iW n m mp start) _ _).2=0;rw[gL]) hsz;rw[gL]at X K_ AW;obtain⟨_,K',j8,hd,wH,_⟩:=X;have K':P.files=ci n:=K';have hd:P.aR=mp:=hd;have wH:P.m=m:=wH;(have j8:P.cX=jo aR (ci n):=by rw[j8];exact Rl ag);obtain⟨data,xW,uJ⟩:=aqT (c:=(i:Int)+1) ag K' j8 hd wH;have K_:start+(if hX m.e3 3=true then 68 else 16)<=P.free:=K_;(have hS:(1:Int)<=(i:Int)+1/\(i:Int)+1<=4096-start:=by omega);clear hi;generalize(i:Int)+1=c at*;(have aq1:kJ m (iz P c).S (iz P c).C=fy P c:=by show kJ m P.start c=kJ P.m P.start c;rw[wH]);have abl:(iz P c).S=start:=hs;obtain⟨AN,t2⟩:=aqP P.m P.start c;rw[aq1];change (fy P c).Nodup at AN;change ∀k∈fy P c,_ at t2;rw[hs]at t2;generalize abg:(if hX m.e3 3=true then(68:Int)else 16)=xV at*;(have aq2:0<=xV/\xV<=68:=by rw[<-abg];split<;>omega);(have aq3:(kP P c).a<=nr P c/\∀k∈fy P c,P.free<=k:=by unfold oZ at g5;cases N:decide ((kP P c).a<=nr P c)with|false=>rw[N]at g5;cases g5|true =>rw[N]at g5;refine⟨auc N,λk X=>?_⟩;(have z:((fy P c).any λk=>decide (k<P.free))=false:=by simpa using g5);have:=(List.any_eq_false.1 z) k X;simpa using this);obtain⟨bT,b0⟩:=aq3;(have sP:nr P c<=start+c:=by unfold nr;rw[hs];split<;>omega);have Jy:=uJ.x.a;(obtain⟨aq4,i2,i3,i4,i5⟩:0<=(iz P c).iC/\0<=(iz P c).iS/\(iz P c).iS+(iz P c).iC<=hL P (fy P c)/\P.free<=hL P (fy P c)/\∀k,(iz P c).iS<=k->k<(iz P c).iS+(iz P c).iC->P.free<=k/\k∉fy P c:=by show 0<=iy P/\0<=ig P (fy P c)/\ig P (fy P c)+iy P<=hL P (fy P c)/\P.free<=hL P (fy P c)/\∀k,ig P (fy P c)<=k->k<ig P (fy P c)+iy P->P.free<=k/\k∉fy P c;obtain⟨jc,lo,_⟩:=Rt (fy P c) P.iso P.free;have:=AW.2.2.1;have l1:0<=P.free:=AW.2.2.2.2.2.2.2.2.1;have:0<=P.iso:=this;unfold iy ig hL;split;exact⟨by omega,by omega,auu _,by omega,λk ce dn=>⟨by omega,λhm=>lo k hm ⟨ce,dn⟩⟩⟩;exact⟨auu _,auu _,by omega,auu _,λk ce dn=>by omega⟩);(obtain⟨dz,cc,eD⟩:hL P (fy P c)<=(jk P (fy P c)).2/\(∀b∈(iz P c).jf,hL P (fy P c)<=b/\b<(jk P (fy P c)).2/\b∉fy P c)/\(iz P c).jf.Nodup:=by show _/\(∀b∈(jk P (fy P c)).1,_)/\(jk P (fy P c)).1.Nodup;unfold jk;split;obtain⟨lc,kL,oX⟩:=aa4 (T:=fy P c) P.dl.toNat (hL P (fy P c));exact⟨lc,kL,oX.imp λh e=>by omega⟩;exact⟨auu _,λb G=>(by cases G),.nil⟩);(have eJ:(iz P c).jf.length<=1000000:=by show(jk P (fy P c)).1.length<=_;unfold jk;split;rw[O8];have:P.dl<=1000000:=AW.2.2.2.2.2.1;omega;simp);(have La:(iz P c).files=(ci n).map (gS (kP P c)):=by show P.files.map _=_;rw[K']);have du:=QZ n;have rR:∀x:Int,0<=x->0<=e_ x:=λx F=>aa8 F;(have zT:start+xV<=start+c:=by omega);(have ut:∀a (k:Nat),(lT a k).Nodup:=λa k=>by unfold lT;rw[List.Nodup,au_];exact List.nodup_range.imp λh e=>h atv);(have RA:∀f,(gS (kP P c) f).path=f.path:=λf=>by unfold gS;split<;>rfl);(have Dz:∀f∈ci n,(gS (kP P c) f).len=(f.data.length:Nat)/\0<=(gS (kP P c) f).start/\(gS (kP P c) f).start<=1000000/\(u6 start (gS (kP P c) f)->∃q y,bj (kP P c).own q=some y/\bj P.aR q=none/\(gS (kP P c) f).start=y.start/\(gS (kP P c) f).len=y.len/\(bj data q).getD []=f.data/\(m.oS=false->q=f.path)):=λf M=>by by_cases N:f.data=[];obtain⟨atp,z2⟩:=uJ.V f M N;exact⟨by rw[z2,N];rfl,by omega,by omega,λau=>by have:=au.1;omega⟩;obtain⟨q,y,h1,z,aa,aC,a_⟩:=uJ.f f M N;cases aT:bj mp q with|some g =>have hy:=uJ.g q g aT;rw[h1]at hy;cases hy;obtain⟨oq,g1,eP,g3,g4,B3,aaO,_⟩:=Rw ag aT;(have ak:oq.data=f.data:=by rw[<-z,<-eP,xW oq g1];rfl);have p':0<oq.data.length:=auX.2 g3;have:=K7 (n:=y.len) atv;exact⟨by rw[aC,g4,ak],by omega,by omega,λau=>by have:=au.2;omega⟩|none =>(have qI:bj P.aR q=none:=by rw[hd];exact aT);obtain⟨c9,da,jU,y'⟩:=uJ.x.own q y h1 qI;(have al:y.len=(f.data.length:Nat):=by rw[y',abb,z]);have:=rR y.len atv;exact⟨by rw[aC,al],by omega,by omega,λ_=>⟨q,y,h1,qI,aa,aC,z,a_⟩⟩);refine⟨((fy P c++lT (iz P c).S xV.toNat)++lT (iz P c).iS (iz P c).iC.toNat)++(iz P c).jf,abl,?_⟩;have Lb:(iz P c).C=c:=rfl;rw[<-abl]at dj g6 K_ t2 zT sP Dz;(have Jz:(iz P c).iC<=c:=by by_cases au:0<(iz P c).iC;have:=(i5 (iz P c).iS (auu _) atv).1;omega;omega);refine⟨⟨dj,g6⟩,by rw[Lb];omega,⟨eJ,by rw[La,atL];omega⟩,rfl,?_,?_,⟨aq2.1,by rw[Lb];omega⟩,⟨aq4,Jz,i2,by omega⟩,?_,?_,?_⟩;rw[au9];refine⟨?_,eD,λx F y hy e=>?_⟩;rw[au9];refine⟨?_,ut _ _,λx F y hy e=>?_⟩;rw[au9];refine⟨AN,ut _ _,λx F y hy e=>?_⟩;subst e;rw[sC]at hy;have:=b0 x F;omega;subst e;rw[sC]at hy;obtain⟨IC,Fp⟩:=i5 x atv atv;rcases at1.1 F with F|F;exact Fp F;rw[sC]at F;omega;subst e;obtain⟨IC,Fp,ID⟩:=cc x hy;rcases at1.1 F with F|F;rcases at1.1 F with F|F;exact ID F;rw[sC]at F;omega;rw[sC]at F;omega;intro k X;rw[Lb];rcases at1.1 X with X|X;rcases at1.1 X with X|X;rcases at1.1 X with X|X;exact t2 k X;rw[sC]at X;omega;rw[sC]at X;have:=i5 k atv atv;omega;have:=cc k X;omega;intro x F;rw[La]at F;obtain⟨f,M,rfl⟩:=at3.1 F;obtain⟨g1,eP,g3,_⟩:=Dz f M;have jv:=ZZ f M;have H5:=(y4 m9).1;obtain⟨mE,hU⟩:=Rz M;(have dd:f.path.length<=aB n:=by obtain⟨p,au,kg⟩:=awm.1 M;unfold ie at kg;split at kg;cases kg;split at au;exact Pj au;cases au;cases kg);rw[RA];exact⟨by omega,by omega,eP,g3,by omega,mE,by rw[hU,g1]⟩;intro x F au;rw[La]at F;obtain⟨f,M,rfl⟩:=at3.1 F;obtain⟨_,_,_,g4⟩:=Dz f M;obtain⟨q,y,lc,kL,oX,Dl,_⟩:=g4 au;obtain⟨c9,da,jU,y'⟩:=uJ.x.own q y lc kL;rw[oX,Dl,Lb];refine⟨by omega,λk ce dn=>⟨by omega,by omega,λhm=>?_⟩⟩;rcases at1.1 hm with hm|hm;rcases at1.1 hm with hm|hm;rcases at1.1 hm with hm|hm;exact jU k hm ⟨ce,dn⟩;rw[sC]at hm;omega;rw[sC]at hm;omega;have:=cc k hm;omega;rw[La,au_];have mO:=aa7 n;rw[List.Nodup,au_]at mO;refine mO.imp_of_mem λ{f g} M aT aX mE hU=>?_;obtain⟨_,_,_,g4⟩:=Dz f M;obtain⟨_,_,_,B3⟩:=Dz g aT;obtain⟨q,y,lc,kL,oX,Dl,aq5,aq6⟩:=g4 mE;obtain⟨r,V,jg,ki,k_,nj,q8,yK⟩:=B3 hU;by_cases e:q=r;subst e;rw[lc]at jg;cases jg;refine .inl ⟨by unfold mm;rw[oX,Dl,k_,nj],?_,by rw[RA,RA,(Rz M).2,(Rz aT).2,<-aq5,q8]⟩;(cases hs:m.oS with|true=>rfl|false=>exact absurd ((aq6 hs).symm.trans (yK hs)) aX);rw[oX,Dl,k_,nj];exact .inr (uJ.x.Bh q r y V lc jg kL ki e)
theorem aq7(aV:dc B)(lG:aS B 9 [] (.bool true))(n:ad)(m:e2)(aR:List cM)(start:Int)(av:fv n)(hm:m.name.length+m.set.length+m.pr.length+m.ps.length+m.l9.length<1000000000)(aT:aR.length<1000000)(mi:∀g∈aR,g.len<=9223372036854775807)(po:m.gO.length<1000000): aS B 4 [aH n,hW m,.Q .none 3 (aR.map bg),u start] (.bool true):=by have Ha:=apA (B:=B) aV n m aR start av hm aT mi po;have KD:=@apF n m aR start;generalize zx n m aR start=R at*;obtain⟨l,ok⟩:=R;dsimp only at Ha KD;cases cv:ok with|false =>subst cv;(exact abe aV lG n m aR start av l false atC Ha [] λh=>by cases h)|true =>subst cv;have au:=KD rfl;(have m9:pA n 100000=true:=by have xR:=au.apD;unfold tA at xR;cases h1:pA n 100000 with|true=>rfl|false=>rw[h1]at xR;cases xR);(have W:valid n=true:=by obtain⟨mp,P,i,ag,_⟩:=au.ck;unfold jn at ag;split at ag;cases ag;rename_i G;unfold KJ at G;cases h:valid n with|true=>rfl|false=>rw[h]at G;simp at G);obtain⟨oE,gc,pD⟩:=aq0 aV av m9 au;exact abe aV lG n m aR start av l true (λ_=>W) Ha oE λ_=>⟨gc,pD⟩
end Go.bS.cp
