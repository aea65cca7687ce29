/- Contracts of the program's functions, part 4. No conditions of its own. -/
import Derived.Test.YtfnpcdbnoggloaaGreatDoorL3
import Derived.Lib.MapLaws
import Derived.Lib.TrimUEq
set_option linter.unnecessarySimpa false
set_option linter.unusedSimpArgs false
set_option linter.unusedVariables false
set_option maxRecDepth 100000
set_option maxHeartbeats 16000000
namespace Go.bV.ct
open Go Go.Proofs
variable{B:World}
mutual
def gB:U->Int->Bool
 |.mk a b c d e f g h i j ae ch,l=>one (.mk a b c d e f g h i j ae ch) l==0&&jT ae (l+1)
def jT:List U->Int->Bool
 |[],_=>true
 |k::r,l=>gB k l&&jT r l
end
theorem xj(n:U)(l:Int):gB n l=(one n l==0&&jT n.F (l+1)):=by cases n;simp only[gB]
mutual
theorem Wq:∀(n:U) (p:auM) (l:Int) (q:auM),
  (gB n l=true->fJ gY n p l (0,q)=(true,(0,q)))/\(gB n l=false->(fJ gY n p l (0,q)).1=false/\(fJ gY n p l (0,q)).2.1≠0)
 |.mk a b c d e f g h i j ae ch,p,l,q=>by
  have aV:=Wr ae p l q;simp only[fJ,gB,gY];by_cases h1:one (.mk a b c d e f g h i j ae ch) l=0
  ·simp only[h1,avV,beq_self_eq_true,axC];exact aV
  simp only[h1,awq];refine⟨λcA=>?_,λ_=>⟨by simp,by simpa using h1⟩⟩;simp[h1]at cA
theorem Wr:∀(ae:List U) (p:auM) (l:Int) (q:auM),
  (jT ae (l+1)=true->kD gY ae p l (0,q)=(true,(0,q)))/\(jT ae (l+1)=false->(kD gY ae p l (0,q)).1=false/\(kD gY ae p l (0,q)).2.1≠0)
 |[],p,l,q=>by simp[kD,jT]
 |k::r,p,l,q=>by
  have h1:=Wq k (below p k.name (l+1)) (l+1) q;have A:=Wr r p l q;simp only[kD,jT]
  cases Z:gB k (l+1)with
  |true =>
   rw[h1.1 Z];simpa using A
  |false =>
   have aa:=h1.2 Z;generalize J:fJ gY k (below p k.name (l+1)) (l+1) (0,q)=x at aa;obtain⟨aie,Og⟩:=x;obtain⟨aF,a8⟩:=aa;simp only at aF a8;subst aF;simp[a8]
end
theorem q7(n:U):valid n=(decide (fd n<=256)&&gB n 1):=by simp only[valid,oR];by_cases h:(256:Int)<fd n;rw[auO h];(have:decide (fd n<=256)=false:=by simp;omega);rw[this];rfl;rw[auN h];(have h1:decide (fd n<=256)=true:=by simp;omega);rw[h1,axC];have cz:=Wq n [] 1 [];cases aS:gB n 1 with|true=>rw[cz.1 aS];rfl|false=>simpa using(cz.2 aS).2
theorem FQ{f:Nat->Int}:∀{k i:Nat},hh f i k=0->∀j,i<=j->j<i+k->f j=0
 |0,i,_,j,h1,A=>by omega
 |k+1,i,h,j,h1,A=>by simp only[hh]at h;split at h;rename_i h0;by_cases e:j=i;rw[e];exact h0;exact FQ h j auD auD;rename_i h0;exact absurd h h0
variable{s:auM}
theorem I4(h:dS s=true):s.length<=256:=by simp only[dS]at h;split at h;cases h;simp only[auQ,avp,awm]at h;obtain⟨h1,A,aa⟩:=h;simp only[chars]at h1 aa;split at h1;cases h1;rename_i aj;rw[auN aj]at aa;cases hc:ju s with|none=>rw[hc]at h1;cases h1|some l =>rw[hc]at aa;have:=Cf s.length s (auW _) l hc;simp only at aa;omega
theorem aif(h:dS s=true):s≠[]:=by intro e;subst e;revert h;decide +kernel
structure Oh (n:U) (l:Int):Prop where
 I5:0<=n.kind/\n.kind<=2
 CL:l=1->n.kind=0
 FR:l=1->n.name=[]
 I6:1<l->dS n.name=true
 file:n.kind≠1->n.cU=[]/\n.bD=[]
 I7:n.kind≠2->n.target=[]
 bc:n.kind≠0->n.F=[]
 target:n.kind=2->k7 n.target=true
 cu:0<=n.cu/\n.cu<=4095
 n2:0<=n.n2/\n.n2<=65535
 n3:0<=n.n3/\n.n3<=65535
 n4:315532800<=n.n4/\n.n4<=4102444799
 n5:-1048576<=n.n5/\n.n5<=1048576
 n6:0<=n.n6/\n.n6<=15
 bT:l<=16
 size:n.cU.length<=262144
 AI:n.F.length<=64
 FS:n.bD.length<=4
 bD:∀i,i<n.bD.length->(gX n i).target.length<=262144/\pE n i=0
 f3:f3 n.F
theorem Ws{n:U}{l:Int}(h:one n l=0):Oh n l:=by
 have af:=FQ h;have gW:t8 n l=false:=by have:=af 0 auD auD;simp only[eV,vC]at this;split at this<;>simp_all
 have mw:t_ n l=false:=by have:=af 1 auD auD;simp only[eV,vD]at this;split at this<;>simp_all
 have nB:t' n=false:=by have:=af 2 auD auD;simp only[eV,vE]at this;split at this<;>simp_all
 have oi:ua n=false:=by have:=af 3 auD auD;simp only[eV,vF]at this;split at this<;>simp_all
 have oU:r5 n=false:=by have:=af 4 auD auD;simp only[eV,vG]at this;split at this<;>simp_all
 have I8:=af 5 auD auD;simp only[eV,nz]at I8;have vI:r6 n l=false:=by split at I8<;>simp_all
 rw[auN (by rw[vI];simp)]at I8;have Cv:=af 6 auD auD;simp only[eV,Cp]at Cv;have Cw:=af 7 auD auD;simp only[eV,yx]at Cw;simp only[t8,t_,t',ua,r5,r6,s0,awe,awg,awj,awB,avv,awm,Bool.not_eq_eq_eq_not,Bool.not_true,Bool.not_false,auQ,avp]at gW mw nB oi oU vI;obtain⟨⟨aig,aih⟩,aii⟩:=nB;obtain⟨⟨⟨⟨⟨aij,aik⟩,Oi⟩,ail⟩,FT⟩,aim⟩:=oU
 have Z:f3 n.F:=λi hi=>by
  have:=FQ Cw (i+1) auD auD;simp only[r7,qe,qf,Nat.add_sub_cancel]at this;by_cases h1:(n.F.getD i default).name=(n.F.getD (i+1) default).name
  ·rw[auO h1]at this;cases this
  rw[auN h1]at this;by_cases A:Op.bytesLess (n.F.getD (i+1) default).name (n.F.getD i default).name=true
  ·rw[auO A]at this;cases this
  cases aa:Op.bytesLess (n.F.getD i default).name (n.F.getD (i+1) default).name with
  |true=>rfl
  |false=>exact absurd (w6 _ _ aa (by simpa using A)) h1
 exact{
  I5:=auD
  CL:=λe=>by rcases gW.2 with h1|h1<;>first|exact absurd e h1|exact h1
  FR:=λe=>by rcases mw.1 with h1|h1<;>first|exact absurd e h1|exact h1
  I6:=λe=>by rcases mw.2 with h1|h1<;>first|(exact absurd e h1)|exact h1
  file:=λe=>by
   rcases aig with h1|⟨h1,A⟩
   ·exact absurd h1 e
   exact⟨h1,au1 auD⟩
  I7:=λe=>by rcases aih with h1|h1<;>first|exact absurd h1 e|exact h1
  bc:=λe=>by
   rcases aii with h1|h1
   ·exact absurd h1 e
   exact au1 auD
  target:=λe=>by rcases oi with h1|h1<;>first|exact absurd e h1|exact h1
  cu:=aij,n2:=aik,n3:=Oi,n4:=ail,n5:=FT,n6:=aim
  bT:=auD
  size:=auD
  AI:=auD
  FS:=auD
  bD:=λi hi=>⟨by
   have:=FQ I8 i auD auD;simp only[pD]at this;split at this
   ·cases this
   rename_i h1;simp at h1;omega,FQ Cv i auD auD⟩
  f3:=Z}
theorem vR{n:U}{l:Int}(h:gB n l=true):Oh n l/\jT n.F (l+1)=true:=by rw[xj,auQ]at h;exact⟨Ws (by simpa using h.1),h.2⟩
theorem Wt:∀{ae:List U} {l:Int},jT ae l=true->∀k∈ae,gB k l=true
 |x::r,l,h,k,Z=>by simp only[jT,auQ]at h;rcases au8.1 Z with rfl|Z;exact h.1;exact Wt h.2 k Z
theorem Wu:∀{ae:List U} {l:Int},(∀k∈ae,gB k l=true)->jT ae l=true
 |[],l,h=>rfl
 |x::r,l,h=>by simp only[jT,auQ];exact⟨h x auY,Wu λk Z=>h k (auZ _ Z)⟩
mutual
theorem Oj:∀(n:U) (l:Int),1<=l->gB n l=true->gZ n
 |.mk a b c d e f g h i j ae ch,l,aj,aS=>by
  obtain⟨h1,A⟩:=vR aS;simp only[gZ];have hF:ae.length<=64:=h1.AI;have Wv:ch.length<=4:=h1.FS;exact⟨hF,by omega,h1.f3,Ww ae (l+1) auD A⟩
theorem Ww:∀(ae:List U) (l:Int),2<=l->jT ae l=true->xh ae
 |[],l,aj,aS=>trivial
 |k::r,l,aj,aS=>by
  simp only[jT,auQ]at aS;simp only[xh];have ar:=(vR aS.1).1.I6 auD;have:=I4 ar;exact⟨⟨⟨ar,by omega⟩,Oj k l auD aS.1⟩,Ww r l aj aS.2⟩
end
theorem q8{n:U}(h:valid n=true):gZ n:=by rw[q7,auQ]at h;exact Oj n 1 (avK _) h.2
theorem Ok(aX:dk B){v:Int}(X:v=2\/v=3):CJ B v (λae=>ae.map U.name) :=
 ⟨λae hF my cD=>⟨ah7 aX v X ae hF cD my,by simp,by
  have:=Wm my;rw[avD,awk]
  exact this.imp λh=>q2 h,λm hm=>by
  obtain⟨k,Z,rfl⟩:=au_.1 hm;have:=I4 (cD k Z).1
  omega⟩⟩
def q9:U:=⟨[],0,[],[],0,0,0,0,0,0,[],[]⟩
def s7(aU:List U->List auM)(v:Int)(n:U):U×Int :=
 if ka v=false then(q9,2)else if valid n=false then(q9,1)else(it aU v 1 n,0)
theorem FU:ap (.agg [.N [],u 0,.N [],.N [],u 0,u 0,u 0,u 0,u 0,u 0,.bd,.bd]) (az q9) :=
 ap.agg ⟨E,E,E,E,E,E,E,E,E,E,ap.nil,ap.nil,ak⟩
theorem ain(aX:dk B)(aU:List U->List auM)(v:Int)(iq:ka v=true->CJ B v aU)(n:U)(bn:aB n+n.name.length<10000000)(X:valid n=true->aB n<800000):aT B 267 [u v,az n,.fn (.func 268) [] []] (.bm [az (s7 aU v n).1,u (s7 aU v n).2]):=by refine bB Tryz.func267 Tryz.ntmps267 λW=>?_;refine cc ?_;intro cJ;(conv=>whnf);intro dW;refine p9 ?_;refine⟨[u v],_,λ_=>Ff v,an,?_⟩;refine aI _ rfl ?_ ?_<;>intro hc;refine gK ?_;refine hz ?_;(have h1:ka v=false:=by simpa using hc);(have A:s7 aU v n=(q9,2):=by rw[s7,auO h1]);rw[A];refine ej ?_;exact⟨FU,E,ak⟩;apply ci;refine vi ?_;refine⟨[az n],_,λ_=>An aX n bn,an,?_⟩;refine aI _ rfl ?_ ?_<;>intro hc;refine gK ?_;refine hz ?_;(have h1:¬ka v=false:=by intro h;rename_i h0;rw[h]at h0;cases h0);(have aa:valid n=false:=by simpa using hc);(have A:s7 aU v n=(q9,1):=by rw[s7,auN h1,auO aa]);rw[A];refine ej ?_;exact⟨FU,E,ak⟩;apply ci;refine kB ?_;(have h1:ka v=true:=by rename_i h0;simpa using h0);(have aa:valid n=true:=by simpa using hc);have aF:=X aa;refine⟨[u v,FM n [] [],u 1,.fn (.func 268) [] []],_,λ_=>aic aU v (iq h1) _ n (avt _) (q8 aa) [] [] 1 auD auD (by simp only[avh];omega) (by simp only[avh];omega),an,?_⟩;apply cj;refine hz ?_;(have A:s7 aU v n=(it aU v 1 n,0):=by rw[s7,auN (by rw[h1];simp),auN (by rw[aa];simp)]);rw[A];refine ej ?_;exact an
theorem aio(aX:dk B)(aU:List U->List auM)(v:Int)(iq:ka v=true->CJ B v aU)(n:U)(bn:aB n+n.name.length<10000000)(X:valid n=true->aB n<800000):aT B 208 [u v,az n] (.bm [az (s7 aU v n).1,u (s7 aU v n).2]):=by refine bB Tryz.func208 Tryz.ntmps208 λW=>?_;refine cc ?_;intro el;(conv=>whnf);intro cJ;refine kB ?_;refine⟨[u v,az n,.fn (.func 268) [] []],_,λ_=>ain aX aU v iq n bn X,an,?_⟩;apply cj;apply x6;refine ej ?_;exact an
end Go.bV.ct



namespace Go.bV.ct
open Go Go.Proofs
variable{B:World}
theorem aip(s:auM)(c:Int):aT B 365 [.N s,.int .u8 c] (u (Lib.indexByte s c.toNat.toUInt8)) :=
 .pure (jt Tryz.func365 rfl auH) rfl rfl λw _=>Tryz.strings_IndexByte ⟨⟨s⟩⟩ c w
theorem aiq(r:Int):aT B 366 [.int .i32 r] (.bool (Lib.validRune r)) :=
 .pure (jt Tryz.func366 rfl auH) rfl rfl λw _=>Tryz.utf8_ValidRune r w
theorem air(s p:auM)(hs:s.length<=9223372036854775807):aT B 346 [.N s,.N p] (.N (Lib.trimSuffix s p)) :=
 .pure (jt Tryz.func346 rfl auH) rfl rfl λw _=>Tryz.strings_TrimSuffix ⟨⟨s⟩⟩ ⟨⟨p⟩⟩ w hs
theorem Ol(i:Nat)(hi:i<100):aT B 226 [u (i:Nat)] (.N (Lib.decDigits i)) :=
 .pure (jt Tryz.func226 rfl auH) rfl rfl λw _=>Tryz.strconv_Itoa_small i hi w
def mz:auM:=[42,47,58,59,63,92]
theorem Wx{c:UInt8}:∀{l:auM},(∀b∈l,b≠c)->Lib.indexByte l c=-1
 |[],_=>rfl
 |b::l,h=>by have aV:=Wx (l:=l) λx J=>h x (auZ _ J);unfold Lib.indexByte;rw[auN (by simpa using h b auY),aV];rfl
theorem Wy:∀b∈mz,b.toNat<128:=by decide +kernel
theorem ais:∀p,p<6->(Utf8.decode ⟨⟨mz⟩⟩ p).2=1/\(Utf8.decode ⟨⟨mz⟩⟩ p).1<128:=by decide +kernel
theorem ait(r:Int)(h0:128<=r)(h1:r<=65533)(hs:r<55296\/57343<r):∃(e:auM) (c:UInt8),(Utf8.encode r).data.toList=e/\2<=e.length/\e.length<=4/\e[e.length-1]?=some c/\128<=c.toNat:=by
 have X:Utf8.valid r=true:=by simp[Utf8.valid];omega
 obtain⟨A,aa,aF⟩:=encode_facts r X h0;have hsz:(Utf8.encode r).size=(Utf8.encode r).data.toList.length:=rfl;have bg:(Utf8.encode r).size-1<(Utf8.encode r).size:=auD
 refine⟨_,_,rfl,by omega,by omega,?_,aF bg⟩;rw[<-hsz,auR auD];rfl
theorem aiu(r:Int)(h0:128<=r)(h1:r<=65533)(hs:r<55296\/57343<r):aT B 330 [.N mz,.int .i32 r] (u (-1)):=by refine bB Tryz.func330 Tryz.ntmps330 λW=>?_;refine go ?_;refine aI _ rfl ?_ ?_<;>intro hc;(·exfalso;(have:decide (r<128)=false:=by simp;omega);cases A:decide ((0:Int)<=r)<;>rw[A]at hc<;>first|(cases hc;done)|(rw[this]at hc;cases hc));refine go ?_;refine aI _ rfl ?_ ?_<;>intro hc;refine go ?_;refine .inr (ah.ac_ rfl rfl λOm=>?_);refine go ?_;refine Y.ee (α:={p:Nat // p<=6}) (λx=>[(175,.am (.pointer (some ⟨Om,0,none⟩)))]) (λx=>[(175,.cl Om (.stringIter ⟨⟨mz⟩⟩ x.1))]) (λx=>6-x.1) ⟨0,by omega⟩ [(175,175)] ⟨an,rfl,a_⟩ ?_;rintro⟨p,aw⟩;refine qI ?_;refine .inr (ah.ac' 175 rfl rfl (λbg=>?_) (λbg=>?_));have Fb:p<6:=bg;obtain⟨E3,rY⟩:=ais p Fb;apply eh;refine aI _ rfl ?_ ?_<;>intro hc;apply ci;apply n1;apply b1;apply b1;refine aI _ rfl ?_ ?_<;>intro hc;exfalso;(have:(((Utf8.decode ⟨⟨mz⟩⟩ p).1:Nat):Int)=65533:=by simpa using hc);omega;refine go ?_;refine⟨⟨p+1,by omega⟩,[(175,175)],by show 6-(p+1)<6-p;omega,an,rfl,rfl,?_,ak⟩;exact auP (λQ=>some (aJ.cl Om (.stringIter ⟨⟨mz⟩⟩ (p+Q)))) E3;cases hc;(conv=>whnf);apply eh;refine aI _ rfl ?_ ?_<;>intro hc;cases hc;refine go ?_;exact E;refine go ?_;refine bq (aiq r) ?_;refine aI _ rfl ?_ ?_<;>intro hc;exfalso;(have:Lib.validRune r=true:=by simp[Lib.validRune];omega);rw[this]at hc;cases hc;refine Y.scope ?_;obtain⟨e,c,aq,nw,Wz,WA,asR⟩:=ait r h0 h1 hs;refine go ?_;rw[aq];refine go ?_;have dg:mz.length=6:=rfl;refine Y.loop (α:=Unit) (λx=>[(0,.N mz),(7,.N e),(8,u ((e.length:Int)-1)),(9,u ((e.length:Int)-1))]) (λ_=>[]) (λx=>0) () an trivial ?_;rintro⟨⟩;(have qL:((e.length:Int)-1).toNat=e.length-1:=by omega);have tE:mz[e.length-1]?=some (mz[e.length-1]' auD):=auR auD;have ku:=Wy _ (auT (l:=mz) (n:=e.length-1) auD);refine go ?_;refine aI _ rfl ?_ ?_<;>intro hc;apply ci;(have xd:(e.length:Int)-1<6:=by omega);apply n1;refine Y.scope ?_;apply eh;refine mQ ?_;refine go ?_;refine⟨mz[e.length-1]' auD,λ_=>⟨by omega,by rw[qL];exact tE⟩,?_⟩;refine go ?_;refine⟨c,λ_=>⟨by omega,by rw[qL];exact WA⟩,?_⟩;refine go ?_;refine aI _ rfl ?_ ?_<;>intro hc;refine mQ ?_;refine lq ?_;refine⟨λ_=>by rw[dg];omega,?_⟩;refine go ?_;refine⟨c,λ_=>⟨by omega,by rw[qL];exact WA⟩,?_⟩;refine go ?_;refine⟨[.N ((mz.take ((mz.length:Nat):Int).toNat).drop ((e.length:Int)-1+1).toNat),.int .u8 c.toNat],u (-1),λ_=>by have:=aip (B:=B) ((mz.take ((mz.length:Nat):Int).toNat).drop ((e.length:Int)-1+1).toNat) c.toNat;rw[Wx (λb G aiv=>by have A:=Wy b (avO (awU G));rw[aiv]at A;(have aa:((c.toNat:Int).toNat.toUInt8).toNat=c.toNat:=by simp);omega)]at this;exact this,an,?_⟩;refine gj ?_;refine aI _ rfl ?_ ?_<;>intro hc;refine go ?_;exact E;cases hc;exfalso;(have:((mz[e.length-1]' auD).toNat:Int)=(c.toNat:Int):=by simpa using hc);omega;exfalso;rw[dg]at hc;simp at hc;omega
def yL(r:Int):Bool:=r==42||r==47||r==58||r==59||r==63||r==92
theorem aiw:∀n:Nat,n<128->decide (0<=Lib.indexByte mz ((n:Int).toNat.toUInt8))=yL n:=by decide +kernel
theorem sd(r:Int):et r=true↔32<=r/\r<=65533/\(r<55296\/57343<r):=by simp[et]
theorem aix(r:Int)(h:et r=true):aT B 344 [.N mz,.int .i32 r] (.bool (yL r)):=by obtain⟨h1,A,aa⟩:=(sd r).1 h;by_cases On:r<128;(have ar:r=(r.toNat:Int):=by omega);have:=aiw r.toNat auD;rw[<-ar]at this;rw[<-this];exact .pure (jt Tryz.func344 rfl auH) rfl rfl λw _=>Tryz.strings_ContainsRune_ascii ⟨⟨mz⟩⟩ r w auD On;(have nm:yL r=false:=by simp[yL];omega);rw[nm];refine bB Tryz.func344 Tryz.ntmps344 λW=>?_;refine go ?_;refine bq (aiu r auD A aa) ?_;exact E
def lH(r:Int):Int:=if yL r then 95 else r
theorem aiy(r:Int)(h:et r=true):aT B 298 [.int .i32 r] (.int .i32 (lH r)):=by refine bB Tryz.func298 Tryz.ntmps298 λW=>?_;refine go ?_;refine bq (aix r h) ?_;refine aI _ rfl ?_ ?_<;>intro hc;refine go ?_;exact ap.of_eq (auP (D.int .i32) (by rw[lH,auO hc]));refine go ?_;exact ap.of_eq (auP (D.int .i32) (by rw[lH,auN (by rw[hc];simp)]))
def uu(c:Int):Bool:=((decide (65<=c)&&decide (c<=90))||(decide (48<=c)&&decide (c<=57)))||c==95
theorem aiz(c:Int):aT B 371 [.int .u8 c] (.bool (uu c)):=by refine bB Tryz.func371 Tryz.ntmps371 λW=>?_;refine go ?_;exact ap.of_eq (auP D.bool (by simp only[jv,pz];rfl))
def q_(c:UInt8):Bool:=uu c.toNat
def uv(s:auM):Bool:=decide (s.length<=65536)&&s.all q_
theorem aiA(s:auM):aT B 370 [.N s,.T .dZ 1 [.fn (.func 371) [] []]] (.bool (uv s)):=by refine bB Tryz.func370 Tryz.ntmps370 λW=>?_;refine go ?_;refine aI _ rfl ?_ ?_<;>intro hc;refine go ?_;(have h1:decide (s.length<=65536)=false:=by simp at hc⊢;omega);exact ap.of_eq (auP D.bool (by rw[uv,h1];rfl));refine go ?_;(have h1:s.length<=65536:=by simp at hc;omega);refine go ?_;refine Y.loop (α:={i:Nat // i<=s.length/\(s.take i).all q_=true}) (λx=>[(0,.N s),(1,.T .dZ 1 [.fn (.func 371) [] []]),(13,u s.length),(14,u x.1)]) (λ_=>[]) (λx=>s.length-x.1) ⟨0,by simp⟩ an trivial ?_;rintro⟨i,hi,hL⟩;refine go ?_;refine aI _ rfl ?_ ?_<;>intro hc;refine go ?_;(have aG:i<s.length:=by simpa using hc);(have aiB:s.take (i+1)=s.take i++[s[i]]:=by rw[awF,auR aG];rfl);refine go ?_;refine Y.loop (α:={y:Nat // y<=1}) (λy=>[(0,.N s),(1,.T .dZ 1 [.fn (.func 371) [] []]),(13,u s.length),(14,u i),(5,u i),(6,.bool (decide (y.1=1)&&q_ s[i])),(17,.T .dZ 1 [.fn (.func 371) [] []]),(18,u 1),(19,u y.1)]) (λ_=>[]) (λy=>1-y.1) ⟨0,by omega⟩ an trivial ?_;rintro⟨y,hy⟩;refine go ?_;refine aI _ rfl ?_ ?_<;>intro hc;apply ci;(have EE:y=0:=by simp at hc;omega);subst EE;refine gJ ?_;refine nn ?_;refine wQ (.fn (.func 371) [] []) ?_;refine go ?_;refine⟨s[i],λh=>⟨by omega,by simp[aG]⟩,?_⟩;refine go ?_;refine bq (aiz _) ?_;exact⟨⟨1,auW _⟩,by show 1-1<1-0;omega,an,ak⟩;refine go ?_;(have N2:y=1:=by simp at hc;omega);subst N2;refine go ?_;refine aI _ rfl ?_ ?_<;>intro hc;refine go ?_;(have A:q_ s[i]=false:=by simpa using hc);(have aa:s.all q_=false:=by rw[List.all_eq_false];exact⟨s[i],auT aG,by rw[A];simp⟩);exact ap.of_eq (auP D.bool (by rw[uv,aa,Bool.and_false]));refine go ?_;(have A:q_ s[i]=true:=by simpa using hc);exact⟨⟨i+1,aG,by rw[aiB,List.all_append,hL];simp[A]⟩,by show _-(i+1)<_-i;omega,an,ak⟩;refine go ?_;(have cr:i=s.length:=by simp at hc;omega);subst cr;rw[au2]at hL;exact ap.of_eq (auP D.bool (by rw[uv,hL];simp[h1]))
theorem WB(s:auM):aT B 345 [.N s] (.bool (uv s)):=by refine bB Tryz.func345 Tryz.ntmps345 λW=>?_;refine go ?_;refine bq (aiA s) ?_;exact E
theorem Oo(r:Int)(h0:0<=r)(h1:r<128):(Utf8.encode r).data.toList=[UInt8.ofNat r.toNat]:=by
 have X:Utf8.valid r=true:=by simp[Utf8.valid];omega
 unfold Utf8.encode;simp only[X,avV];rw[auO auD]
def h8(r:Int):Int:=if 97<=r/\r<=122 then r-97+65 else if r<128/\uu r=true then r else 95
theorem aiC(r:Int)(h0:0<=r)(af:r<=1114111):aT B 299 [.int .i32 r] (.int .i32 (h8 r)):=by refine bB Tryz.func299 Tryz.ntmps299 λW=>?_;refine go ?_;refine aI _ rfl ?_ ?_<;>intro hc;refine go ?_;(have FV:97<=r/\r<=122:=by rw[jv]at hc;simpa using hc);refine go ?_;exact ap.of_eq (auP (D.int .i32) (by rw[h8,auO FV]));refine go ?_;skip;refine go ?_;refine⟨[.N (Utf8.encode r).data.toList],.bool (uu r),λh=>by(have bg:r<128:=by simpa using h);have:=WB (B:=B) (Utf8.encode r).data.toList;(have e:uv (Utf8.encode r).data.toList=uu r:=by rw[Oo r h0 bg];simp only[uv,q_,axk,List.all_nil,Bool.and_true,List.length_singleton];(have:((UInt8.ofNat r.toNat).toNat:Int)=r:=by rw[aw6];omega);rw[this];simp);rw[e]at this;exact this,an,?_⟩;refine go ?_;refine aI _ rfl ?_ ?_<;>intro hc;refine go ?_;(have FV:¬(97<=r/\r<=122):=by rename_i jn;rw[jv]at jn;simpa using jn);(have A:r<128/\uu r=true:=by rw[jv]at hc;simpa using hc);exact ap.of_eq (auP (D.int .i32) (by rw[h8,auN FV,auO A]));refine go ?_;(have FV:¬(97<=r/\r<=122):=by rename_i jn;rw[jv]at jn;simpa using jn);(have A:¬(r<128/\uu r=true):=by rw[jv]at hc;simpa using hc);exact ap.of_eq (auP (D.int .i32) (by rw[h8,auN FV,auN A]))
theorem aiD(n:Nat)(h:n<=65533)(hs:n<55296\/57343<n):(Utf8.encode (n:Int)).data.toList=Lib.encodeRune n:=by(have X:Utf8.valid (n:Int)=true:=by simp[Utf8.valid];omega);unfold Utf8.encode Lib.encodeRune Lib.encodeRuneZ;simp only[X,avV,avq];(have bn:∀a b:Nat,UInt8.ofNat (a+b)=((a:Int)+(b:Int)).toNat.toUInt8:=λa b=>by(have:((a:Int)+(b:Int)).toNat=a+b:=by omega);rw[this]);by_cases h1:n<128;rw[auO h1,auO (show 0<=(n:Int)/\(n:Int)<=127 by omega)];simp;rw[auN h1,auN (show¬(0<=(n:Int)/\(n:Int)<=127) by omega)];by_cases A:n<2048;rw[auO A,auO (show 128<=(n:Int)/\(n:Int)<=2047 by omega)];show[UInt8.ofNat (192+n/64),UInt8.ofNat (128+n%64)]=_;rw[bn,bn];simp;rw[auN A,auN (show¬(128<=(n:Int)/\(n:Int)<=2047) by omega),auO (show n<65536 by omega),auO (show 2048<=(n:Int)/\(n:Int)<55296\/57343<(n:Int)/\(n:Int)<=65535 by omega)];show[UInt8.ofNat (224+n/4096),UInt8.ofNat (128+n/64%64),UInt8.ofNat (128+n%64)]=_;rw[bn,bn,bn];simp
variable{s:auM}
theorem Oq(hs:s≠[]):dV s=Lib.decodeL s:=by unfold dV Lib.decodeGo Lib.decodeL;rw[auN (show¬(⟨⟨s⟩⟩:ByteArray).size=0 from λe=>hs (au1 e))]
theorem aiE(s:auM)(i:Nat)(h:i<s.length):Utf8.decode ⟨⟨s⟩⟩ i=dV (s.drop i):=by
 have aZ:s.drop i≠[]:=λe=>by have:=auP List.length e;simp at this;omega
 rw[Oq aZ];exact(Lib.decodeL_drop ⟨⟨s⟩⟩ i).symm
theorem WC(h:l8 s=false):et (dV s).1=true/\¬((dV s).1=65533/\(dV s).2=1):=by simp only[l8,awe,awB,awg,avv]at h;exact⟨h.1,λ⟨h1,A⟩=>by rcases h.2 with aa|aa<;>contradiction⟩
theorem aiF(hs:s≠[])(h:l8 s=false):(Utf8.encode ((dV s).1:Int)).data.toList=s.take (dV s).2:=by obtain⟨h1,A⟩:=WC h;obtain⟨aa,aF,a8⟩:=(sd _).1 h1;rw[aiD _ auD auD,Oq hs,Lib.encode_decode s hs (by rw[<-Oq hs];exact A)]
theorem CM:∀(n:Nat) (s:auM) (l:List Int),s.length<=n->ju s=some l->cy l=s/\∀r∈l,et r=true
 |0,s,l,ar,hc=>by have:s=[]:=au1 auD;subst this;cases hc;exact⟨rfl,λr af=>by cases af⟩
 |n+1,s,l,ar,hc=>by by_cases hs:s=[];subst hs;cases hc;exact⟨rfl,λr af=>by cases af⟩;obtain⟨h1,A,_⟩:=w3 s hs;rw[yq hs]at hc;cases G:l8 s with|true=>rw[G]at hc;cases hc|false =>rw[G]at hc;simp only[avT,awq,avS]at hc;obtain⟨h7,mF,rfl⟩:=hc;have aV:=CM n (s.drop (dV s).2) h7 auE mF;refine⟨?_,λr af=>?_⟩;simp only[cy,avF];rw[aiF hs G];have:cy h7=s.drop (dV s).2:=aV.1;simp only[cy]at this;rw[this,awb];rcases au8.1 af with rfl|af;exact(WC G).1;exact aV.2 r af
theorem WD(s:auM):∀(f i:Nat) (l:List Int),i<=s.length->s.length-i<=f->ju (s.drop i)=some l->sC ⟨⟨s⟩⟩ f i=l
 |0,i,l,hi,M,hc=>by have:s.drop i=[]:=aw4 auD;rw[this]at hc;cases hc;rfl
 |f+1,i,l,hi,M,hc=>by have hsz:(⟨⟨s⟩⟩:ByteArray).size=s.length:=rfl;simp only[sC,hsz];by_cases bg:i<s.length;(have aZ:s.drop i≠[]:=λe=>by have:=auP List.length e;simp at this;omega);obtain⟨h1,A,_⟩:=w3 (s.drop i) aZ;rw[yq aZ]at hc;(cases G:l8 (s.drop i)with|true=>rw[G]at hc;cases hc|false =>rw[G]at hc;simp only[avT,awq,avS]at hc;obtain⟨h7,mF,rfl⟩:=hc;rw[auO bg,aiE s i bg];rw[avX]at A;rw[List.drop_drop]at mF;rw[WD s f (i+(dV (s.drop i)).2) h7 auD auD mF];rfl);have:s.drop i=[]:=aw4 auD;rw[this]at hc;cases hc;rw[auN bg]
theorem I9{l:List Int}(h:ju s=some l):ie s=l :=
 WD s s.length 0 l (au7 _) auD (by simpa using h)
theorem I_(h:dS s=true):∃l,ju s=some l/\(chars s).1=l/\(chars s).2=0/\1<=l.length/\l.length<=64:=by simp only[dS]at h;split at h;cases h;simp only[auQ,avp,awm]at h;obtain⟨h1,A,aa⟩:=h;simp only[chars]at h1 A aa⊢;split at h1;cases h1;rename_i aj;rw[auN aj]at A aa;cases hc:ju s with|none=>rw[hc]at h1;cases h1|some l=>rw[hc]at A aa;exact⟨l,rfl,by rw[auN aj],by rw[auN aj],A,aa⟩
theorem AJ(a b:List Int):cy (a++b)=cy a++cy b:=by simp[cy]
def dE(l:List Int):List D:=l.map (D.int .i32)
def m7(s:auM):Int:=Lib.lastIndexByte ⟨⟨s⟩⟩ 46
def se(v:Int)(s:auM):Bool:=(decide (0<m7 s)&&decide (m7 s<(s.length:Int)-1))&&(v==0||decide (((ie (s.drop (m7 s+1).toNat)).length:Int)<=16))
def hn(v:Int)(s:auM)(bc:Bool):auM×auM :=
 if bc=true then(s,[])else if se v s=true then(s.take (m7 s).toNat,s.drop (m7 s+1).toNat)
 else if v=0/\1<s.length then(Lib.trimSuffix s [46],[])else(s,[])
theorem Ot(s:auM)(i:Nat):(s.take ((s.length:Nat):Int).toNat).drop i=s.drop i:=by simp
theorem WE(s:auM):∀f i,(sC ⟨⟨s⟩⟩ f i).length<=f
 |0,_=>by simp[sC]
 |f+1,i=>by simp only[sC];split;have:=WE s f (i+(Utf8.decode ⟨⟨s⟩⟩ i).2);simp;omega;simp
theorem FW(s:auM):(ie s).length<=s.length:=WE s _ _
theorem aiG(v:Int)(s:auM)(bc:Bool)(hs:s.length<1000000000):aT B 300 [u v,.N s,.bool bc] (.bm [.N (hn v s bc).1,.N (hn v s bc).2]):=by refine bB Tryz.func300 Tryz.ntmps300 λW=>?_;refine go ?_;refine aI _ rfl ?_ ?_<;>intro hc;refine go ?_;(have h1:hn v s bc=(s,[]):=by rw[hn,auO hc]);rw[h1];exact an;apply ci;(have vS:¬bc=true:=by rw[hc];simp);(conv=>whnf);refine Y.k0 (α:={x:Unit // se v s=false}) (λx=>[(0,u v),(1,.N s)]) (λx=>[]) ?_ ?_;refine cc ?_;refine⟨[.N s,.int .u8 46],u (m7 s),λ_=>M7 s 46 auD,an,?_⟩;apply b1;apply g';apply g';refine hb ?_;refine no ?_;refine aI _ rfl ?_ ?_<;>intro hc;apply eh;(have G:(decide (0<m7 s)&&decide (m7 s<(s.length:Int)-1))=true:=by rw[jv]at hc;exact hc);(have lo:0<m7 s/\m7 s<(s.length:Int)-1:=by simpa using G);refine ml ?_;refine⟨λ_=>by omega,?_⟩;refine go ?_;refine⟨by simp;omega,?_⟩;refine go ?_;refine aI _ rfl ?_ ?_<;>intro hc;apply eh;(have yM:se v s=true:=by rw[se,G,axC,<-pz];rw[Ot]at hc;simpa using hc);refine lZ ?_;refine⟨λ_=>by omega,?_⟩;refine go ?_;rw[Ot];(have h1:hn v s bc=(s.take (m7 s).toNat,s.drop (m7 s+1).toNat):=by rw[hn,auN vS,auO yM]);rw[h1];exact an;refine go ?_;(have yM:se v s=false:=by rw[se,G,axC,<-pz];rw[Ot]at hc;simpa using hc);exact⟨⟨(),yM⟩,[],an,rfl,ak⟩;refine go ?_;(have yM:se v s=false:=by rw[jv]at hc;have G:(decide (0<m7 s)&&decide (m7 s<(s.length:Int)-1))=false:=hc;rw[se,G,Bool.false_and]);exact⟨⟨(),yM⟩,[],an,rfl,ak⟩;rintro⟨_,yM⟩;refine go ?_;refine aI _ rfl ?_ ?_<;>intro hc;refine go ?_;refine bq (air s [46] auD) ?_;(have yl:v=0/\(1:Int)<s.length:=by rw[jv]at hc;simpa using hc);have A:v=0/\1<s.length:=⟨yl.1,by omega⟩;(have h1:hn v s bc=(Lib.trimSuffix s [46],[]):=by rw[hn,auN vS,auN (by rw[yM];simp),auO A]);rw[h1];exact an;refine go ?_;(have yl:v=0->(s.length:Int)<=1:=by rw[jv]at hc;simpa using hc);(have A:¬(v=0/\1<s.length):=λ⟨aa,aF⟩=>by have:=yl aa;omega);(have h1:hn v s bc=(s,[]):=by rw[hn,auN vS,auN (by rw[yM];simp),auN A]);rw[h1];exact an
theorem map_set(f:Int->Int)(l:List Int){i:Nat}(h:i<l.length):(((l.take i).map f++l.drop i).map (D.int .i32)).set i (.int .i32 (f l[i]))=((l.take (i+1)).map f++l.drop (i+1)).map (D.int .i32):=by
 have e:l.drop i=l[i]::l.drop (i+1):=avL h;have b0:l.take (i+1)=l.take i++[l[i]]:=by rw[awF,auR h];rfl
 rw[e,b0];simp only[avo,avc,awp,avr,ax1];rw[List.set_append_right _ _ auE];have:i-(List.map (D.int .i32) (List.map f (List.take i l))).length=0:=by simp;omega
 rw[this];rfl
theorem WF(s:auM)(b6:Nat)(f:Int->Int)(hs:s.length<1000000000)(M:∀r∈ie s,aT B b6 [.int .i32 r] (.int .i32 (f r))):aT B 301 [.N s,.fn (.func b6) [] []] (.T .none 1 (dE ((ie s).map f))):=by refine bB Tryz.func301 Tryz.ntmps301 λW=>?_;apply b1;refine qI ?_;refine .inr (ah.ac9 aN rfl rfl rfl rfl rfl rfl rfl auD λbS cap=>?_);refine mT ?_;have hZ:=FW s;generalize aX:ie s=L at*;refine Y.ee (α:={i:Nat // i<=L.length}) (λx=>[(1,.fn (.func b6) [] []),(5,.am (.slice bS L.length cap)),(10,.am (.slice bS L.length cap)),(11,u L.length),(12,u x.1)]) (λx=>[(9,.row (.slice bS L.length cap) (((L.take x.1).map f++L.drop x.1).map (D.int .i32)) 1 21)]) (λx=>L.length-x.1) ⟨0,by omega⟩ [(9,9)] ⟨an,rfl,a_⟩ ?_;rintro⟨i,hi⟩;dsimp only;refine go ?_;refine aI _ rfl ?_ ?_<;>intro hc;refine go ?_;(have aG:i<L.length:=by simpa using hc);(have hlen:(((L.take i).map f++L.drop i).map (D.int .i32)).length=L.length:=by simp;omega);(have h4:(((L.take i).map f++L.drop i).map (D.int .i32))[i]?=some (.int .i32 L[i]):=by rw[au',avl auE];(have:i-(List.map f (List.take i L)).length=0:=by simp;omega);rw[this];simp[aG]);refine go ?_;refine .inr (ah.eG aN 9 rfl rfl rfl rfl rfl rfl rfl auD (by rw[hlen];omega) ?_);refine go ?_;refine .inr (ah.mh aN 9 (i:=i) auJ rfl rfl h4 ?_);refine go ?_;refine bq (M _ (auT aG)) ?_;refine .inr (ah.eG aN 9 rfl rfl rfl rfl rfl rfl rfl auD (by rw[hlen];omega) ?_);refine go ?_;refine .inr (ah.nl aN 9 (i:=i) auJ rfl rfl rfl (by rw[hlen];omega) rfl ?_);refine go ?_;exact⟨⟨i+1,by omega⟩,[(9,9)],by show _-(i+1)<_-i;omega,an,rfl,rfl,auP (λQ=>some (aJ.row (.slice bS L.length cap) Q 1 21)) (map_set f L aG),ak⟩;refine vf ?_;(have cr:i=L.length:=by simp at hc;omega);(have dQ:((L.take i).map f++L.drop i).map (D.int .i32)=dE (L.map f):=by subst cr;simp[dE]);rw[dQ];refine Y.fc [(5,.am (.slice bS L.length cap))] [(9,.row (.slice bS L.length cap) (dE (L.map f)) 1 21)] [(9,9)] ⟨an,rfl,a_⟩ ?_;refine Y.vp 9 5 rfl ?_;refine go ?_;exact E
theorem aiH(n:Nat)(h:n<=65533)(hs:n<55296\/57343<n)(rest:auM):dV ((Utf8.encode (n:Int)).data.toList++rest)=(n,(Utf8.encode (n:Int)).data.toList.length):=by(have X:Utf8.valid (n:Int)=true:=by simp[Utf8.valid];omega);(have gk:∀x:Nat,x<256->(UInt8.ofNat x).toNat=x:=λx J=>by rw[aw6];omega);by_cases h1:n<128;(have e:(Utf8.encode (n:Int)).data.toList=[UInt8.ofNat n]:=by unfold Utf8.encode;simp only[X,avV,avq];rw[auO h1]);rw[e,E6 auF];simp only[ax1,auX,List.getD_cons_zero,avh,Ah];rw[gk n auD,auO h1];by_cases A:n<2048;(have e:(Utf8.encode (n:Int)).data.toList=[UInt8.ofNat (192+n/64),UInt8.ofNat (128+n%64)]:=by unfold Utf8.encode;simp only[X,avV,avq];rw[auN h1,auO A]);rw[e,E6 auF];simp only[avQ,av4,auX,List.getD_cons_zero,List.getD_cons_succ,avh,Ah];rw[gk (192+n/64) auD,gk (128+n%64) auD];rw[auN auD,auO ⟨by omega,by omega,by omega⟩,auO auD];exact Prod.ext (by dsimp only;omega) rfl;(have e:(Utf8.encode (n:Int)).data.toList=[UInt8.ofNat (224+n/4096),UInt8.ofNat (128+n/64%64),UInt8.ofNat (128+n%64)]:=by unfold Utf8.encode;simp only[X,avV,avq];rw[auN h1,auN A,auO auD]);rw[e,E6 auF];simp only[avQ,av4,auX,List.getD_cons_zero,List.getD_cons_succ,avh,Ah];rw[gk (224+n/4096) auD,gk (128+n/64%64) auD,gk (128+n%64) auD];rw[auN auD,auN auD,auO ⟨by omega,⟨by omega,by omega⟩,by omega,by omega⟩,auO ⟨by omega,by omega⟩];exact Prod.ext (by dsimp only;omega) rfl
theorem WG(r:Int):(Utf8.encode r).data.toList≠[]:=by intro h;unfold Utf8.encode at h;dsimp only at h;generalize(if Utf8.valid r=true then r.toNat else Utf8.runeError)=c at h;by_cases h1:c<128;rw[auO h1]at h;cases h;rw[auN h1]at h;by_cases A:c<2048;rw[auO A]at h;cases h;rw[auN A]at h;by_cases aa:c<65536;rw[auO aa]at h;cases h;rw[auN aa]at h;cases h
theorem yN:∀(l:List Int),(∀r∈l,et r=true)->ju (cy l)=some l
 |[],_=>rfl
 |r::l,h=>by obtain⟨h1,A,aa⟩:=(sd r).1 (h r auY);have aV:=yN l λx J=>h x (auZ _ J);obtain⟨n,rfl⟩:∃n:Nat,r=n:=⟨r.toNat,by omega⟩;have O:=aiH n auD auD (cy l);(have e:cy ((n:Int)::l)=(Utf8.encode (n:Int)).data.toList++cy l:=by simp[cy]);rw[e];have aZ:(Utf8.encode (n:Int)).data.toList++cy l≠[]:=λh=>WG _ (axS.1 h).1;rw[yq aZ,O];(have G:l8 ((Utf8.encode (n:Int)).data.toList++cy l)=false:=by simp only[l8,O,h (n:Int) auY,Bool.not_true,Bool.false_or,awg,avv];by_cases a8:n=65533;subst a8;right;decide +kernel;left;exact a8);rw[G];simp[aV]
variable{r:Int}{i:Nat}
theorem aiI(h:et r=true)(hi:(Utf8.encode r).data.toList[i]?=some 46):r=46/\i=0:=by obtain⟨h1,A,aa⟩:=(sd r).1 h;obtain⟨n,rfl⟩:∃n:Nat,r=n:=⟨r.toNat,by omega⟩;(have gk:∀x:Nat,x<256->(UInt8.ofNat x).toNat=x:=λx J=>by rw[aw6];omega);(have aZ:∀x:Nat,x<256->128<=x->UInt8.ofNat x≠46:=λx J On e=>by have:=auP UInt8.toNat e;rw[gk x J]at this;have WH:(46:UInt8).toNat=46:=rfl;omega);(have X:Utf8.valid (n:Int)=true:=by simp[Utf8.valid];omega);by_cases mX:n<128;(have e:(Utf8.encode (n:Int)).data.toList=[UInt8.ofNat n]:=by unfold Utf8.encode;simp only[X,avV,avq];rw[auO mX]);rw[e]at hi;(match i,hi with|0,hi =>(have:UInt8.ofNat n=46:=by simpa using hi);have:=auP UInt8.toNat this;rw[gk n auD]at this;have WH:(46:UInt8).toNat=46:=rfl;exact⟨by omega,rfl⟩|i+1,hi=>simp at hi);exfalso;by_cases A:n<2048;(have e:(Utf8.encode (n:Int)).data.toList=[UInt8.ofNat (192+n/64),UInt8.ofNat (128+n%64)]:=by unfold Utf8.encode;simp only[X,avV,avq];rw[auN mX,auO A]);rw[e]at hi;(match i,hi with|0,hi=>exact aZ (192+n/64) auD auD (by simpa using hi)|1,hi=>exact aZ (128+n%64) auD auD (by simpa using hi)|i+2,hi=>simp at hi);(have e:(Utf8.encode (n:Int)).data.toList=[UInt8.ofNat (224+n/4096),UInt8.ofNat (128+n/64%64),UInt8.ofNat (128+n%64)]:=ayR);rw[e]at hi;match i,hi with|0,hi=>exact aZ (224+n/4096) auD auD (by simpa using hi)|1,hi=>exact aZ (128+n/64%64) auD auD (by simpa using hi)|2,hi=>exact aZ (128+n%64) auD auD (by simpa using hi)|i+3,hi=>simp at hi
theorem I':∀(l:List Int),(∀r∈l,et r=true)->∀i,(cy l)[i]?=some 46->∃dL cC,l=dL++46::cC/\(cy dL).length=i
 |[],_,i,h=>by simp[cy]at h
 |r::l,aj,i,h=>by(have e:cy (r::l)=(Utf8.encode r).data.toList++cy l:=by simp[cy]);rw[e,ax5]at h;split at h;obtain⟨rfl,rfl⟩:=aiI (aj r auY) h;exact⟨[],l,rfl,rfl⟩;rename_i hi;obtain⟨dL,cC,rfl,hlen⟩:=I' l (λx J=>aj x (auZ _ J)) _ h;refine⟨r::dL,cC,rfl,?_⟩;(have e:cy (r::dL)=(Utf8.encode r).data.toList++cy dL:=by simp[cy]);rw[e,auV,hlen];omega
theorem WI:(Utf8.encode 46).data.toList=[46]:=by decide +kernel
theorem aiJ{l:List Int}(hc:ju s=some l): (m7 s=-1/\(46:Int)∉l)\/∃dL cC,l=dL++46::cC/\(46:Int)∉cC/\m7 s=(cy dL).length/\s=cy dL++46::cy cC:=by obtain⟨G,k6⟩:=CM s.length s l (auW _) hc;(have mJ:∀dL cC:List Int,l=dL++46::cC->s=cy dL++46::cy cC:=λdL cC e=>by rw[<-G,e,AJ];(have:cy (46::cC)=(Utf8.encode 46).data.toList++cy cC:=by simp[cy]);rw[this,WI];rfl);(have h4:∀j,(ad:j<s.length)->(⟨⟨s⟩⟩:ByteArray).data[j]! = s[j]:=λj ad=>by simp[ad]);have hsz:(⟨⟨s⟩⟩:ByteArray).size=s.length:=rfl;rcases Lib.lastIndexByte_spec ⟨⟨s⟩⟩ 46 with⟨h1,A⟩|⟨i,hi,h1,A,aa⟩;refine .inl ⟨h1,λh=>?_⟩;obtain⟨dL,cC,e⟩:=List.append_of_mem h;have hs:=mJ dL cC e;(have bg:(cy dL).length<s.length:=by rw[hs];simp);have:=A (cy dL).length (by rw[hsz];exact bg);rw[h4 _ bg]at this;apply this;(have:s[(cy dL).length]=46:=by simp[hs]);rw[this];rfl;rw[hsz]at hi;rw[h4 i hi]at A;(have WJ:s[i]?=some 46:=by rw[auR hi];congr 1;apply ax3.1;have WH:(46:UInt8).toNat=46:=rfl;omega);rw[<-G]at WJ;obtain⟨dL,cC,e,hlen⟩:=I' l k6 i WJ;have hs:=mJ dL cC e;refine .inr ⟨dL,cC,e,λh=>?_,by rw[m7,h1,hlen],hs⟩;obtain⟨uq,I2,b0⟩:=List.append_of_mem h;have kz:=mJ (dL++46::uq) I2 (by rw[e,b0];simp);(have bg:(cy (dL++46::uq)).length<s.length:=by rw[kz];simp);(have aiK:i<(cy (dL++46::uq)).length:=by rw[AJ,auV,hlen];(have:cy (46::uq)=(Utf8.encode 46).data.toList++cy uq:=by simp[cy]);rw[this,WI];simp);have:=aa _ aiK (by rw[hsz];exact bg);rw[h4 _ bg]at this;apply this;(have:s[(cy (dL++46::uq)).length]=46:=by(have:s[(cy (dL++46::uq)).length]?=some 46:=by rw[kz];simp);rw[auR bg]at this;exact avB this);rw[this];rfl
def kH:List Int->Int
 |[]=>-1
 |x::r=>if 0<=kH r then kH r+1 else if x=46 then 0 else -1
theorem Ou:∀{l:List Int},(46:Int)∉l->kH l=-1
 |[],_=>rfl
 |x::r,h=>by have aV:=Ou (l:=r) λbt=>h (auZ _ bt);simp only[kH];rw[aV,auN auD,auN (λe=>h (by rw[e];exact auY))]
theorem WK:∀(dL:List Int) {cC:List Int},(46:Int)∉cC->kH (dL++46::cC)=dL.length
 |[],cC,h=>by simp[kH,Ou h]
 |x::dL,cC,h=>by have aV:=WK dL h;simp only[avQ,kH,aV,auX];rw[auO auD];omega
def g2(v:Int)(l:List Int)(bc:Bool):List Int×List Int :=
 if bc=false/\0<kH l/\kH l<(l.length:Int)-1/\(v=0\/(l.length:Int)-1-kH l<=16)then(l.take (kH l).toNat,l.drop (kH l+1).toNat)
 else if bc=false/\v=0/\0<kH l/\kH l=(l.length:Int)-1 then(l.take (kH l).toNat,[])else(l,[])
theorem Ja{l:List Int}:cy l=[]↔l=[]:=by cases l with|nil=>simp[cy]|cons r l =>(have:cy (r::l)=(Utf8.encode r).data.toList++cy l:=by simp[cy]);rw[this];simp only[axS,reduceCtorEq,iff_false];exact λh=>WG r h.1
theorem aiL(a:auM):Lib.trimSuffix (a++[46]) [46]=a:=by simp[Lib.trimSuffix,Lib.hasSuffix]
theorem WL(h:∀a,s≠a++[46]):Lib.trimSuffix s [46]=s:=by unfold Lib.trimSuffix;rw[auN];intro hs;(have:([46]:auM) <:+ s:=by simp only[Lib.hasSuffix]at hs;exact aw'.1 hs);obtain⟨a,ha⟩:=this;exact h a ha.symm
theorem Ov(v:Int){l:List Int}(hc:ju s=some l)(bc:Bool): ie (hn v s bc).1=(g2 v l bc).1/\ie (hn v s bc).2=(g2 v l bc).2/\((hn v s bc).2=[]↔(g2 v l bc).2=[]):=by have af:=I9 hc;have h0:ie []=[]:=rfl;obtain⟨G,k6⟩:=CM s.length s l (auW _) hc;cases bc with|true =>simp only[hn,g2,avV,Bool.true_eq_false,false_and,awq,af,h0,and_self,iff_self]|false =>rcases aiJ hc with⟨h1,A⟩|⟨dL,cC,e,A,aa,aF⟩;have O:=Ou A;(have Jb:se v s=false:=by simp[se,h1]);(have ax:Lib.trimSuffix s [46]=s:=WL λa ha=>by(have:(cy l)[a.length]?=some 46:=by rw[G,ha];simp);obtain⟨dL,cC,e,_⟩:=I' l k6 _ this;exact A (by rw[e];simp));(have aw:g2 v l false=(l,[]):=by simp[g2,O]);rw[aw];simp only[hn,avT,awq,Jb,ax];split<;>simp[af,h0];have O:=WK dL A;rw[<-e]at O;have e6:∀r∈dL,et r=true:=λr af=>k6 r (by rw[e];simp[af]);have bx:∀r∈cC,et r=true:=λr af=>k6 r (by rw[e];simp[af]);have AE:ie (cy dL)=dL:=I9 (yN dL e6);have qO:ie (cy cC)=cC:=I9 (yN cC bx);(have mO:l.length=dL.length+1+cC.length:=by rw[e];simp;omega);(have fe:s.length=(cy dL).length+1+(cy cC).length:=by rw[aF];simp;omega);(have qN:0<(cy dL).length↔0<dL.length:=by rw[avY,avY];exact not_congr Ja);(have k3:0<(cy cC).length↔0<cC.length:=by rw[avY,avY];exact not_congr Ja);(have Fd:s.take (m7 s).toNat=cy dL:=by rw[aa,aF];simp);(have ly:s.drop (m7 s+1).toNat=cy cC:=by(have:(m7 s+1).toNat=(cy dL).length+1:=by omega);rw[this,aF];simp);(have WM:l.take (kH l).toNat=dL:=by rw[O,e];simp);(have aiM:l.drop (kH l+1).toNat=cC:=by(have:(kH l+1).toNat=dL.length+1:=by omega);rw[this,e];simp);(have Jb:se v s=true↔(0<dL.length/\0<cC.length/\(v=0\/(cC.length:Int)<=16)):=by simp only[se,ly,qO,auQ,avp,av3,awm];constructor;rintro⟨⟨a,b⟩,c⟩;exact⟨qN.1 auD,k3.1 auD,c⟩;rintro⟨a,b,c⟩;have:=qN.2 a;have:=k3.2 b;exact⟨⟨by omega,by omega⟩,c⟩);by_cases a8:0<dL.length/\0<cC.length/\(v=0\/(cC.length:Int)<=16);(have hE:g2 v l false=(dL,cC):=by rw[g2,auO ⟨rfl,by omega,by omega,by rcases a8.2.2 with h|h;exact .inl h;exact .inr auD⟩,WM,aiM]);(have da:hn v s false=(cy dL,cy cC):=by rw[hn,auN auF,auO (Jb.2 a8),Fd,ly]);rw[hE,da];exact⟨AE,qO,Ja⟩;have WN:¬se v s=true:=λh=>a8 (Jb.1 h);(have WO:¬(false=false/\0<kH l/\kH l<(l.length:Int)-1/\(v=0\/(l.length:Int)-1-kH l<=16)):=by rintro⟨_,a,b,c⟩;exact a8 ⟨by omega,by omega,by rcases c with c|c;exact .inl c;exact .inr auD⟩);by_cases cN:v=0/\0<dL.length/\cC=[];obtain⟨X,kA,rfl⟩:=cN;(have hE:g2 v l false=(dL,[]):=by rw[g2,auN WO,auO ⟨rfl,X,by omega,by simp at mO;omega⟩,WM]);(have da:hn v s false=(cy dL,[]):=by have:=qN.2 kA;rw[hn,auN auF,auN WN,auO ⟨X,by omega⟩];(have:s=cy dL++[46]:=by rw[aF];rfl);rw[this,aiL]);rw[hE,da];exact⟨AE,h0,by simp⟩;(have hE:g2 v l false=(l,[]):=by rw[g2,auN WO,auN];rintro⟨_,a,b,c⟩;exact cN ⟨a,by omega,au1 auD⟩);(have da:hn v s false=(s,[]):=by rw[hn,auN auF,auN WN];split;rename_i e2;(have:Lib.trimSuffix s [46]=s:=WL λa ha=>by by_cases nw:cC=[];subst nw;have kA:¬0<dL.length:=λh=>cN ⟨e2.1,h,rfl⟩;have:dL=[]:=au1 auD;subst this;simp[cy]at fe;omega;have f1:0<(cy cC).length:=k3.2 (avY.2 nw);(have:(cy cC)[(cy cC).length-1]?=some 46:=by(have hP:s[s.length-1]?=some 46:=by rw[ha];simp);rw[aF]at hP;simp only[auV,auX]at hP;rw[avl auD]at hP;(have:(cy dL).length+((cy cC).length+1)-1-(cy dL).length=(cy cC).length-1+1:=by omega);rw[this]at hP;simpa using hP);obtain⟨uq,I2,kx,_⟩:=I' cC bx _ this;exact A (by rw[kx];simp));rw[this];rfl);rw[hE,da];exact⟨af,h0,by simp⟩
def e7(v:Int)(r:Int):Int:=if v=0 then h8 r else lH r
def kh(v:Int):Nat:=if v=0 then 3 else 64
def fV(v:Int)(s:auM)(bc:Bool):List Int×List Int :=
 ((ie (hn v s bc).1).map (e7 v),if(hn v s bc).2=[]then[]else 46::((ie (hn v s bc).2).map (e7 v)).take (kh v))
theorem WP(v r:Int)(h:et r=true):aT B (bif v==0 then 299 else 298) [.int .i32 r] (.int .i32 (e7 v r)):=by obtain⟨h1,A,aa⟩:=(sd r).1 h;cases X:(v==0)with|true =>(have:v=0:=by simpa using X);rw[e7,auO this];exact aiC r auD auD|false =>(have:¬v=0:=by simpa using X);rw[e7,auN this];exact aiy r h
variable{bc:Bool}
theorem Ow{v:Int}{l:List Int}(h:∀r∈l,et r=true):(∀r∈(g2 v l bc).1,et r=true)/\∀r∈(g2 v l bc).2,et r=true:=by unfold g2;split;exact⟨λr af=>h r (avO af),λr af=>h r (awU af)⟩;split;exact⟨λr af=>h r (avO af),λr af=>by cases af⟩;exact⟨h,λr af=>by cases af⟩
theorem aiN(s p:auM):(Lib.trimSuffix s p).length<=s.length:=by unfold Lib.trimSuffix;split<;>simp
theorem WQ(v:Int)(s:auM)(bc:Bool):(hn v s bc).1.length<=s.length/\(hn v s bc).2.length<=s.length:=by unfold hn;split;simp;split;simp;omega;split;have:=aiN s [46];simp;omega;simp
def WR(aY cn:List Int):D:=.agg [.T .none 1 (dE aY),.T .none 1 (dE cn)]
theorem WS(v:Int)(s:auM)(l:List Int)(bc:Bool)(hs:s.length<1000000)(hc:ju s=some l):aT B 255 [u v,.N s,.bool bc] (WR (fV v s bc).1 (fV v s bc).2):=by have k6:=(CM s.length s l (auW _) hc).2;obtain⟨vT,vU,yO⟩:=Ov v hc bc;have Ox:=Ow (v:=v) (bc:=bc) k6;have lm:=WQ v s bc;refine bB Tryz.func255 Tryz.ntmps255 λW=>?_;refine go ?_;intro dW;refine cc ?_;refine Y.k0 (α:=Unit) (λx=>[(0,u v),(1,.N s),(2,.bool bc),(6,.box 6 dW 0),(7,.fn (.func (bif v==0 then 299 else 298)) [] []),(8,u (bif v==0 then 3 else 64))]) (λx=>[(6,.box dW [.bd,.bd])]) ?_ ?_;refine go ?_;refine aI _ rfl ?_ ?_<;>intro hc;refine go ?_;exact⟨(),[(6,6)],⟨E,E,E,E,ap.of_eq (auP (λQ=>D.fn (.func (bif Q then 299 else 298)) [] []) hc.symm),ap.of_eq (auP (λQ=>u (bif Q then 3 else 64)) hc.symm),ak⟩,rfl,a_⟩;refine go ?_;exact⟨(),[(6,6)],⟨E,E,E,E,ap.of_eq (auP (λQ=>D.fn (.func (bif Q then 299 else 298)) [] []) hc.symm),ap.of_eq (auP (λQ=>u (bif Q then 3 else 64)) hc.symm),ak⟩,rfl,a_⟩;rintro⟨⟩;refine go ?_;refine bq (aiG v s bc auD) ?_;refine bq (WF (hn v s bc).1 _ (e7 v) auD (λr af=>WP v r (Ox.1 r (by rw[<-vT];exact af)))) ?_;intro yP;refine go ?_;refine aI _ rfl ?_ ?_<;>intro hc;refine cc ?_;refine⟨[.N (hn v s bc).2,.fn (.func (bif v==0 then 299 else 298)) [] []],_,λ_=>WF (hn v s bc).2 _ (e7 v) auD (λr af=>WP v r (Ox.2 r (by rw[<-vU];exact af))),an,?_⟩;(conv=>whnf);have hZ:=FW (hn v s bc).2;generalize Oy:(ie (hn v s bc).2).map (e7 v)=fK;(have asS:fK.length<=1000000:=by rw[<-Oy];simp;omega);(have WT:(0:Int)<=(bif v==0 then 3 else 64):=by cases(v==0)<;>simp);refine lZ ?_;refine oJ ?_;(have Jc:(0:Int)<=(if(bif v==0 then(3:Int)else 64)<((dE fK).length:Int)then(bif v==0 then(3:Int)else 64)else((dE fK).length:Int))/\(if(bif v==0 then(3:Int)else 64)<((dE fK).length:Int)then(bif v==0 then(3:Int)else 64)else((dE fK).length:Int))<=((dE fK).length:Int):=by split<;>omega);(have aiO:(fK.take (kh v))=fK.take (if(bif v==0 then(3:Int)else 64)<((dE fK).length:Int)then(bif v==0 then(3:Int)else 64)else((dE fK).length:Int)).toNat:=by(have e:((bif v==0 then(3:Int)else 64)).toNat=kh v:=by unfold kh;cases X:(v==0)with|true=>rw[auO (by simpa using X)];rfl|false=>rw[auN (by simpa using X)];rfl);split;rw[e];rename_i bg;(have:fK.length<=kh v:=by rw[<-e];simp[dE]at bg;omega);rw[ave this,ave (by simp[dE])]);refine⟨λ_=>⟨avK _,Jc.1,Jc.2⟩,?_⟩;refine go ?_;refine⟨by show(_+_)*4<=_;simp[dE];omega,by show _+_<=_;simp[dE];omega,auK,λw=>?_⟩;refine go ?_;(have aZ:¬(hn v s bc).2=[]:=by simpa using hc);refine ap.agg ?_;refine⟨E,⟨λw' aW ao h=>?_⟩,ak⟩;have A:=(ap.mf (t:=.own 38 w)).le w' aW ao h;(have e:([D.int .i32 46]++(List.drop (Int.toNat 0) ((dE fK).take (if(bif v==0 then(3:Int)else 64)<((dE fK).length:Int)then(bif v==0 then(3:Int)else 64)else((dE fK).length:Int)).toNat)))=dE (fV v s bc).2:=by simp only[fV];rw[auN aZ,Oy,aiO];simp[dE]);rw[<-e];exact A;refine go ?_;(have aZ:(hn v s bc).2=[]:=by simpa using hc);(have e:(fV v s bc).2=[]:=by simp only[fV];rw[auO aZ]);refine ap.agg ?_;refine⟨E,?_,ak⟩;rw[e];exact ap.nil
theorem WU:∀k,k<100->(Lib.decDigits k).length<=2:=by intro k Z;rw[Lib.decDigits];split;simp;rw[Lib.decDigits,awu auD];simp
def iO(k:Nat):List Int:=if 0<k then ie (Lib.decDigits k)else[]
variable{k:Nat}
theorem FX(Z:k<100):(iO k).length<=2:=by unfold iO;split;have:=FW (Lib.decDigits k);have:=WU k Z;omega;simp
def ol(v:Int)(cn:List Int)(k:Nat):Int:=bif v==1 then 64-(cn.length:Int)-((iO k).length:Int)else 8-((iO k).length:Int)
def jx(v:Int)(aY cn:List Int)(k:Nat):Nat:=(if(if ol v cn k<(aY.length:Int)then ol v cn k else(aY.length:Int))>0 then(if ol v cn k<(aY.length:Int)then ol v cn k else(aY.length:Int))else 0).toNat
def ki(v:Int)(aY cn:List Int)(k:Nat):auM:=cy (aY.take (jx v aY cn k)++iO k++cn)
theorem Jd(v:Int)(aY cn:List Int)(k:Nat)(Z:k<100)(a1:aY.length<1000000)(rL:cn.length<1000000):aT B 256 [WR aY cn,u v,u (k:Nat)] (.N (ki v aY cn k)):=by have fe:=FX Z;refine bB Tryz.func256 Tryz.ntmps256 λW=>?_;refine cc ?_;intro el;apply b1;(conv=>whnf);refine dc ?_;refine Y.k0 (α:=Unit) (λx=>[(1,u v),(3,.box 3 el 0),(7,.T .none 1 (dE (iO k)))]) (λx=>[(3,.box el [.T .none 1 (dE aY),.T .none 1 (dE cn)])]) ?_ ?_;refine go ?_;refine aI _ rfl ?_ ?_<;>intro hc;refine go ?_;refine bq (Ol k Z) ?_;refine⟨by have:=WU k Z;omega,?_⟩;refine go ?_;(have h0:0<k:=by simpa using hc);exact⟨(),[(3,3)],⟨E,E,ap.of_eq (auP (D.T .none 1) (by rw[iO,auO h0];rfl)),ak⟩,rfl,a_⟩;refine go ?_;(have h0:¬0<k:=by simpa using hc);exact⟨(),[(3,3)],⟨E,E,⟨λw C ao h=>by rw[iO,auN h0];exact h.jk⟩,ak⟩,rfl,a_⟩;rintro⟨⟩;generalize Oz:iO k=S at*;refine cc ?_;refine .inl ⟨λ_=>by simp only[dz,dE,auS];omega,?_⟩;(conv=>whnf);refine Y.k0 (α:=Unit) (λx=>[(1,u v),(3,.box 3 el 0),(7,.T .none 1 (dE S)),(8,u (ol v cn k))]) (λx=>[(3,.box el [.T .none 1 (dE aY),.T .none 1 (dE cn)])]) ?_ ?_;refine go ?_;refine aI _ rfl ?_ ?_<;>intro hc;refine go ?_;refine .inl ⟨λ_=>by simp only[dz,dE,auS];omega,?_⟩;refine go ?_;refine .inl ⟨λ_=>by simp only[dz,dE,auS];omega,?_⟩;refine go ?_;exact⟨(),[(3,3)],⟨E,E,E,ap.of_eq (auP (D.int .i64) (by rw[ol,hc,Oz];simp[dE])),ak⟩,rfl,a_⟩;refine go ?_;exact⟨(),[(3,3)],⟨E,E,E,ap.of_eq (auP (D.int .i64) (by rw[ol,hc,Oz];simp[dE])),ak⟩,rfl,a_⟩;rintro⟨⟩;refine qI ?_;refine⟨ak,?_⟩;apply mj;apply cj;apply mj;refine ej ?_;(have dP:(if ol v cn k<((dE aY).length:Int)then ol v cn k else((dE aY).length:Int))<=((dE aY).length:Int):=by split<;>omega);generalize gT:(if ol v cn k<((dE aY).length:Int)then ol v cn k else((dE aY).length:Int))=ai at*;refine n7 ?_;refine⟨λ_=>⟨avK _,by split<;>omega,by split<;>omega⟩,?_⟩;refine go ?_;refine⟨by show(_+_)*4<=_;simp[dE];omega,by show _+_<=_;simp[dE];omega,auK,λv9=>?_⟩;refine go ?_;(have m8:([]++List.drop (Int.toNat 0) ((dE aY).take (if ai>0 then ai else 0).toNat))=dE (aY.take (jx v aY cn k)):=by(have e:jx v aY cn k=(if ai>0 then ai else 0).toNat:=by rw[<-gT];simp only[jx,dE,auS]);rw[e];simp[dE]);rw[awp,m8];(have NM:(aY.take (jx v aY cn k)).length<=1000000:=by simp;omega);generalize aiP:aY.take (jx v aY cn k)=bL at*;generalize EF:v9=c' at*;refine go ?_;(have yQ:∀(x:Value×Value) (ca cF:Bool) (z:av),z.H=aM ((3,.box el [.T .none 1 (dE aY),.T .none 1 (dE cn)])::(bif ca then(bif cF then[(44,.own x.2 (bL++S++cn).length 1 21)]else[(41,.own x.1 (bL++S).length 1 21)])else[(38,.own c' bL.length 1 21)]))->mI z ((3,.box el [.T .none 1 (dE aY),.T .none 1 (dE cn)])::(bif ca then(bif cF then[(44,.own x.2 (bL++S++cn).length 1 21)]else[(41,.own x.1 (bL++S).length 1 21)])else[(38,.own c' bL.length 1 21)])):=by intro x ca cF z h;cases ca<;>cases cF<;>exact⟨by rw[h];rfl,by rw[h];rfl,ak⟩);(have wI:∀(x:Value×Value) (ca cF:Bool),ca=true->cF=false->∀z:av,z.H 3=some (.box el [.T .none 1 (dE aY),.T .none 1 (dE cn)])->z.H 41=some (.own x.1 (bL++S).length 1 21)->mI z ((3,.box el [.T .none 1 (dE aY),.T .none 1 (dE cn)])::(bif ca then(bif cF then[(44,.own x.2 (bL++S++cn).length 1 21)]else[(41,.own x.1 (bL++S).length 1 21)])else[(38,.own c' bL.length 1 21)])):=by intro x ca cF A a8 z g1 fI;subst A a8;exact⟨g1,fI,ak⟩);refine Y.adx aN mixed (α:=Value×Value) (λx f=>[(3,.box 3 el 0),(7,.T .none 1 (dE S)),(9,.T (.own 38 c') 1 (dE bL)),(39,bif f 0 then .T (.own 38 c') 1 (dE bL)else .any),(40,bif f 1 then .T .none 1 (dE S)else .any),(41,bif f 2 then .T (.own 41 x.1) 1 (dE (bL++S))else .any),(42,bif f 3 then .box 3 el 1 else .any),(43,bif f 4 then .T .none 1 (dE cn)else .any),(44,bif f 5 then .T (.own 44 x.2) 1 (dE (bL++S++cn))else .any),(45,bif f 6 then .N (cy (bL++S++cn))else .any),(6,bif f 7 then .N (cy (bL++S++cn))else .any)]) (λx f=>(3,.box el [.T .none 1 (dE aY),.T .none 1 (dE cn)])::(bif f 2 then(bif f 5 then[(44,.own x.2 (bL++S++cn).length 1 21)]else[(41,.own x.1 (bL++S).length 1 21)])else[(38,.own c' bL.length 1 21)])) auH (c',c') ?_ ?_ ?_ ?_;exact⟨E,E,E,.any _,.any _,.any _,.any _,.any _,.any _,.any _,.any _,ak⟩;exact⟨rfl,auP (λQ=>some (aJ.own c' Q 1 21)) (by have:=auP List.length m8;simpa[dE]using this),ak⟩;refine go ?_;refine⟨λx f bf=>?_,?_⟩;refine go ?_;refine⟨x,an,yQ x _ _ _ rfl⟩;refine⟨λx f bf=>?_,?_⟩;refine go ?_;refine⟨x,an,yQ x _ _ _ rfl⟩;refine⟨λx f bf=>?_,?_⟩;(conv=>whnf);refine n7 ?_;refine⟨rfl,by simp[dE],?_⟩;refine go ?_;refine⟨by show(_+_)*4<=_;simp[dE];omega,by show _+_<=_;simp[dE];omega,auK,λw=>?_⟩;refine⟨(w,x.2),⟨E,E,E,E,E,ap.of_eq (auP (D.T _ 1) (by simp[dE])),E,E,E,E,E,ak⟩,?_⟩;exact wI (w,x.2) _ _ rfl (bf.n 5 2) _ rfl (auP (λQ=>some (aJ.own w Q 1 21)) (by simp[dE]));refine⟨λx f bf=>?_,?_⟩;refine go ?_;refine⟨x,an,yQ x _ _ _ rfl⟩;refine⟨λx f bf=>?_,?_⟩;refine go ?_;refine⟨x,an,yQ x _ _ _ rfl⟩;refine⟨λx f bf=>?_,?_⟩;(conv=>whnf);refine n7 ?_;refine⟨rfl,by simp[dE],?_⟩;refine go ?_;refine⟨by show(_+_)*4<=_;simp[dE];omega,by show _+_<=_;simp[dE];omega,auK,λw=>?_⟩;refine⟨(x.1,w),⟨E,E,E,E,E,E,E,E,ap.of_eq (auP (D.T _ 1) (by simp[dE])),E,E,ak⟩,?_⟩;exact⟨rfl,auP (λQ=>some (aJ.own w Q 1 21)) (by simp[dE,awy]),ak⟩;refine⟨λx f bf=>?_,?_⟩;refine go ?_;refine⟨bL++S++cn,rfl,?_⟩;refine go ?_;refine⟨x,an,yQ x _ _ _ rfl⟩;refine⟨λx f bf=>?_,?_⟩;refine go ?_;refine⟨x,an,yQ x _ _ _ rfl⟩;exact trivial;intro x f M;have Fs:=M 7 auH;refine go ?_;rw[Fs];exact ap.of_eq (auP D.N (by rw[ki,Oz,aiP]))
theorem WV(h1:10<=k)(A:k<100):Lib.decDigits k=[UInt8.ofNat (48+k/10),UInt8.ofNat (48+k%10)]:=by rw[Lib.decDigits,axx auD,Lib.decDigits,awu auD];rfl
theorem WW:∀(s:auM),(∀b∈s,32<=b.toNat/\b.toNat<127)->ju s=some (s.map λb=>(b.toNat:Int))
 |[],_=>rfl
 |b::s,h=>by have G:=h b auY;have aV:=WW s λx J=>h x (auZ _ J);have:=yN ((b::s).map λb=>(b.toNat:Int)) (by intro r af;obtain⟨c,hc,rfl⟩:=au_.1 af;have:=h c hc;exact(sd _).2 ⟨by omega,by omega,by omega⟩);(have e:∀l:auM,(∀b∈l,32<=b.toNat/\b.toNat<127)->cy (l.map λb=>(b.toNat:Int))=l:=by intro l;induction l with|nil=>intro _;rfl|cons c l aV =>intro aj;(have e:cy ((c::l).map λb=>(b.toNat:Int))=(Utf8.encode (c.toNat:Int)).data.toList++cy (l.map λb=>(b.toNat:Int)):=by simp[cy]);rw[e,aV λx J=>aj x (auZ _ J)];have hc:=aj c auY;(have bZ:(Utf8.encode (c.toNat:Int)).data.toList=[UInt8.ofNat c.toNat]:=by unfold Utf8.encode;simp only[show Utf8.valid (c.toNat:Int)=true by simp[Utf8.valid];omega,avV,avq];rw[auO auD]);rw[bZ];simp);rw[e (b::s) h]at this;exact this
theorem aiQ(h1:10<=k)(A:k<100):∀b∈Lib.decDigits k,32<=b.toNat/\b.toNat<127:=by rw[WV h1 A];(have gk:∀x:Nat,x<256->(UInt8.ofNat x).toNat=x:=λx J=>by rw[aw6];omega);intro b G;simp only[au8,axY,axy]at G;rcases G with rfl|rfl;rw[gk _ auD];omega;rw[gk _ auD];omega
theorem FY(h1:10<=k)(A:k<100):iO k=[48+((k/10:Nat):Int),48+((k%10:Nat):Int)]:=by
 have gk:∀x:Nat,x<256->(UInt8.ofNat x).toNat=x:=λx J=>by rw[aw6];omega
 rw[iO,auO auD,I9 (WW _ (aiQ h1 A)),WV h1 A];simp only[avc,awp];rw[gk _ auD,gk _ auD];rfl
theorem WX(h1:10<=k)(A:k<100):∀r∈iO k,et r=true:=by rw[FY h1 A];intro r af;simp only[au8,axY,axy]at af;rcases af with rfl|rfl<;>exact(sd _).2 ⟨by omega,by omega,by omega⟩
theorem aiR{a b:List Int}(ha:∀r∈a,et r=true)(G:∀r∈b,et r=true)(h:cy a=cy b):a=b:=by have h1:=yN a ha;rw[h,yN b G]at h1;exact(avB h1).symm
variable{j:Nat}
theorem aiS(v:Int)(aY cn:List Int)(vv:10<=j)(lF:j<100)(yR:10<=k)(s8:k<100)(h:ki v aY cn j=ki v aY cn k):j=k:=by
 have hs:jx v aY cn j=jx v aY cn k:=by simp only[jx,ol,FY vv lF,FY yR s8,auX,avh]
 simp only[ki,hs]at h;rw[AJ,AJ,AJ,AJ]at h;have h:=List.append_cancel_left (List.append_cancel_right h);have:=aiR (WX vv lF) (WX yR s8) h;rw[FY vv lF,FY yR s8]at this;simp only[awT,and_true]at this;omega
def s9(v:Int)(vV:List auM)(aY cn:List Int):Nat:=((List.range 100).find? λk=>decide (ki v aY cn k∉vV)).getD 0
theorem CN(v:Int)(vV:List auM)(aY cn:List Int)(au:vV.length<=64): s9 v vV aY cn<100/\ki v aY cn (s9 v vV aY cn)∉vV/\∀j,j<s9 v vV aY cn->ki v aY cn j∈vV:=by unfold s9;cases h:(List.range 100).find? λk=>decide (ki v aY cn k∉vV)with|none =>exfalso;rw[awn]at h;(have ar:(((List.range 90).map (λi=>i+10)).map (ki v aY cn)).Nodup:=by rw[avD,awk,awk];refine axK (R:=(·≠·)) ?_ (avD.1 List.nodup_range);intro a b ha G nW aq;simp only[awa]at ha G;have:=aiS v aY cn auD auD auD auD aq;omega);(have FZ:((List.range 90).map (λi=>i+10)).map (ki v aY cn) ⊆ vV:=by intro x J;obtain⟨y,hy,rfl⟩:=au_.1 J;obtain⟨i,hi,rfl⟩:=au_.1 hy;have:=h (i+10) (by simp at hi⊢;omega);simpa using this);have:=ar.length_le_of_subset FZ;simp at this;omega|some k =>obtain⟨h1,A,aa⟩:=axd.1 h;simp only[avG];refine⟨by simpa using A,by simpa using h1,λj ad=>by simpa using aa j ad⟩
def xk(v:Int)(ao:List auM)(k:U):auM :=
 ki v (fV v k.name (k.kind==0)).1 (fV v k.name (k.kind==0)).2 (s9 v ao (fV v k.name (k.kind==0)).1 (fV v k.name (k.kind==0)).2)
def jU(v:Int)(ae:List U):List auM:=ae.foldl (λao k=>xk v ao k::ao) []
def uw(v:Int)(ae:List U):List auM:=(jU v ae).reverse
theorem F0(v:Int)(ae:List U)(k:U):jU v (ae++[k])=xk v (jU v ae) k::jU v ae:=by simp[jU]
variable{α:Type}
theorem xl{p:List α->Prop}(h0:p [])(h1:∀l x,p l->p (l++[x])):∀l,p l:=by intro l;(have:∀r:List α,p r.reverse:=by intro r;induction r with|nil=>exact h0|cons x r aV=>rw[awM];exact h1 _ _ aV);have:=this l.reverse;rwa [List.reverse_reverse]at this
theorem CO(v:Int)(ae:List U):(jU v ae).length=ae.length:=by refine xl (p:=λae=>(jU v ae).length=ae.length) rfl (λl x aV=>?_) ae;rw[F0];simp[aV]
theorem aiT(v:Int)(ao:List auM)(k:U)(au:ao.length<=64):xk v ao k∉ao:=(CN v ao _ _ au).2.1
theorem OA(v:Int)(ae:List U):ae.length<=64->(jU v ae).Nodup:=by refine xl (p:=λae=>ae.length<=64->(jU v ae).Nodup) (λ_=>List.nodup_nil) (λl x aV aj=>?_) ae;simp only[auV,auX,avh]at aj;rw[F0,awO];exact⟨aiT v _ x (by rw[CO];omega),aV auD⟩
theorem aiU(r:Int):(Utf8.encode r).data.toList.length<=4:=by unfold Utf8.encode;dsimp only;generalize(if Utf8.valid r=true then r.toNat else Utf8.runeError)=c;split;simp;split;simp;split<;>simp
theorem OB:∀l:List Int,(cy l).length<=4*l.length
 |[]=>by simp[cy]
 |r::l=>by(have e:cy (r::l)=(Utf8.encode r).data.toList++cy l:=by simp[cy]);have:=aiU r;have:=OB l;rw[e,auV,auX];omega
theorem aiV(v:Int):kh v<=64:=by unfold kh;split<;>omega
theorem aiW{v:Int}{aY cn:List Int}(Z:k<100)(rL:cn.length<=65):(ki v aY cn k).length<=1100:=by have h1:=OB (aY.take (jx v aY cn k)++iO k++cn);have A:=FX Z;(have aa:jx v aY cn k<=64:=by(have af:ol v cn k<=64:=by unfold ol;cases(v==1)<;>simp only[awo,avZ]<;>omega);unfold jx;generalize ol v cn k=R at*;split<;>split<;>omega);(have aF:(aY.take (jx v aY cn k)).length<=64:=by simp;omega);(have a8:(aY.take (jx v aY cn k)++iO k++cn).length<=131:=by rw[auV,auV];omega);show(cy _).length<=_;omega
theorem OC(v:Int)(s:auM)(d:Bool):(fV v s d).2.length<=65/\(fV v s d).1.length<=s.length/\(fV v s d).2.length<=s.length+1:=by have h:=WQ v s d;have h1:=FW (hn v s d).1;have A:=FW (hn v s d).2;have aa:=aiV v;unfold fV;refine⟨?_,by simp;omega,?_⟩;dsimp only;split;simp;simp;omega;dsimp only;split;simp;simp;omega
theorem aiX(v:Int)(ao:List auM)(k:U)(au:ao.length<=64):(xk v ao k).length<=1100 :=
 aiW (CN v ao _ _ au).1 (OC v _ _).1
theorem aiY(v:Int)(ae:List U):ae.length<=64->∀m∈jU v ae,m.length<=1100:=by refine xl (p:=λae=>ae.length<=64->∀m∈jU v ae,m.length<=1100) (λ_ m hm=>by cases hm) (λl x aV aj=>?_) ae;simp only[auV,auX,avh]at aj;rw[F0];intro m hm;rcases au8.1 hm with rfl|hm;exact aiX v _ x (by rw[CO];omega);exact aV auD m hm
variable{ae:List U}{t:Nat}
theorem WY{v:Int}(h:t<ae.length):jU v (ae.take (t+1))=xk v (jU v (ae.take t)) ae[t]::jU v (ae.take t):=by rw[auU h,F0]
variable{F:List U}
theorem aiZ{v:Int}(h:t<F.length)(Q:D):(aQ (jU v (F.take t)).reverse++List.replicate (F.length-t) Q).set t (.N (xk v (jU v (F.take t)) F[t]))=aQ (jU v (F.take (t+1))).reverse++List.replicate (F.length-(t+1)) Q:=by
 rw[WY h];have aj:(aQ (jU v (F.take t)).reverse).length=t:=by simp[aQ,CO];omega
 rw[List.set_append_right _ _ auD,aj,axt,show F.length-t=(F.length-(t+1))+1 by omega,List.replicate_succ];simp[aQ]
theorem ai0(aX:dk B)(v:Int)(X:v=0\/v=1)(F:List U)(hF:F.length<=64)(cD:∀k∈F,dS k.name=true/\k.name.length<1000000000)(my:f3 F):aT B 182 [u v,.T .none 12 (F.map enc)] (.bm [.T .none 1 (aQ (uw v F)),u 0]):=by refine bB Tryz.func182 Tryz.ntmps182 λW=>?_;refine go ?_;intro bk;refine go ?_;refine bq (Ff v) ?_;refine aI _ rfl ?_ ?_<;>intro hc;refine go ?_;exfalso;(have:ka v=true:=by rcases X with rfl|rfl<;>rfl);rw[this]at hc;cases hc;refine go ?_;refine aI _ rfl ?_ ?_<;>intro hc;refine go ?_;exfalso;simp at hc;omega;refine go ?_;refine .inr (ah.x4 aN (n:=F.length) (cP:=.i64) (d0:=.i64) (Q:=u 0) rfl rfl rfl rfl rfl ?_ ?_ (by show 8*_<=_;omega) auD λgP=>?_);show D.int _ _=_;simp;show D.int _ _=_;simp;refine go ?_;refine Y.ee (α:={i:Nat // i<=F.length}) (λx=>[(0,u v),(3,.box 3 bk 0),(6,.am gP),(25,.T .none 12 (F.map enc)),(26,u (F.map enc).length),(27,u x.1)]) (λx=>[(24,.row gP (eA x.1++List.replicate (F.length-x.1) (u 0)) 1 3),(3,.box bk [.T .none 12 (F.map enc)])]) (λx=>F.length-x.1) ⟨0,by omega⟩ [(24,24),(3,3)] ⟨an,rfl,a_⟩ ?_;rintro⟨i,hi⟩;dsimp only;refine go ?_;refine aI _ rfl ?_ ?_<;>intro hc;refine eY ?_;(have aG:i<F.length:=by simpa using hc);(have dh:(eA i).length=i:=by simp[eA]);refine vg ?_;refine⟨az F[i],λ_=>lx aG,?_⟩;refine go ?_;intro cG;refine go ?_;refine bq (yu aX _ (cD _ (auT aG)).2) ?_;refine aI _ rfl ?_ ?_<;>intro hc;refine go ?_;exfalso;rw[(cD _ (auT aG)).1]at hc;cases hc;refine go ?_;refine .inr (ah.eG aN 24 rfl rfl rfl rfl rfl rfl rfl auD (by simp[dh];omega) ?_);refine go ?_;refine .inr (ah.nl aN 24 (i:=i) auJ rfl rfl rfl (by simp[dh];omega) rfl ?_);refine go ?_;exact⟨⟨i+1,by omega⟩,[(24,24),(3,3)],by show _-(i+1)<_-i;omega,an,rfl,rfl,auP (λQ=>some (aJ.row gP Q 1 3)) (Oa aG _),rfl,a_⟩;refine go ?_;(have cr:i=F.length:=by simp at hc;omega);(have dQ:eA i++List.replicate (F.length-i) (u 0)=eA F.length:=by subst cr;simp);rw[dQ];refine go ?_;refine .inr (ah.call rfl [.am gP,.fn (.func 254) [] [.box 2000 bk 0]] [(2001,24),(2000,3)] (Vh F my auD bk gP) rfl ⟨E,ap.fn trivial ⟨ap.box,ak⟩,ak⟩ ?_);rintro d aO ⟨rfl,rfl⟩;refine rP ?_;refine Y.fc [(6,.am gP),(0,u v),(3,.box 3 bk 0)] [(24,.row gP (eA F.length) 1 3),(3,.box bk [.T .none 12 (F.map enc)])] [(24,24),(3,3)] ⟨an,rfl,a_⟩ ?_;refine Y.vp 24 6 rfl ?_;refine go ?_;refine .inr (ah.x4 aN (n:=F.length) (cP:=.i64) (d0:=.i64) (Q:=.N []) rfl rfl rfl rfl rfl ?_ ?_ (by show 16*_<=_;omega) auD λdD=>?_);show D.int _ _=_;simp;show D.int _ _=_;simp;refine go ?_;refine .inr (ah.makeMap λl_=>?_);refine go ?_;refine Y.ee (α:={i:Nat // i<=F.length}) (λx=>[(0,u v),(3,.box 3 bk 0),(6,.T .none 1 (eA F.length)),(48,.T .none 1 (eA F.length)),(49,u (eA F.length).length),(50,u x.1),(9,.am dD),(10,.am (.map (some l_)))]) (λx=>[(46,.row dD (aQ (jU v (F.take x.1)).reverse++List.replicate (F.length-x.1) (.N [])) 1 9),(47,.set l_ (jU v (F.take x.1))),(3,.box bk [.T .none 12 (F.map enc)])]) (λx=>F.length-x.1) ⟨0,by omega⟩ [(46,46),(47,47),(3,3)] ⟨an,rfl,a_⟩ ?_;rintro⟨t,ax⟩;dsimp only;refine go ?_;refine aI _ rfl ?_ ?_<;>intro hc;refine eY ?_;(have lG:t<F.length:=by simp[eA]at hc;omega);(have pg:∀j,j<F.length->(F.map enc)[j]?=some (az (F.getD j default)):=λj ad=>by rw[lx ad];simp[List.getD,ad]);refine gJ ?_;refine⟨λ_=>by simp[eA];omega,?_⟩;refine go ?_;refine⟨u (t:Nat),λ_=>by simp[eA,lG],?_⟩;refine En ?_;apply cj;apply g';refine hb ?_;refine hd ?_;refine⟨λh=>by simp at h;simp[eA];omega,?_⟩;refine go ?_;refine⟨u ((t-1:Nat):Int),λh=>ayW,?_⟩;refine hd ?_;refine mS ?_;refine⟨az (F.getD (t-1) default),λh=>pg (t-1) auD,?_⟩;apply cj;refine hd ?_;refine nn ?_;refine hd ?_;refine⟨az F[t],λh=>lx lG,?_⟩;refine go ?_;refine aI _ rfl ?_ ?_<;>intro hc;refine go ?_;exfalso;(cases h0:decide ((0:Int)<t)with|false=>rw[h0]at hc;cases hc|true =>(have Ob:0<t:=by simpa using h0);have aZ:=q2 (pI my (show t-1<t by omega) lG);rw[h0]at hc;have bx:((F.getD (t-1) default).name==F[t].name)=true:=hc;(have:(F.getD (t-1) default).name=F[t].name:=by simpa using bx);apply aZ;rw[<-this];simp[List.getD,show t-1<F.length by omega]);apply ci;apply b1;refine k2 ?_;refine⟨az F[t],λ_=>lx lG,?_⟩;refine go ?_;refine aI _ rfl ?_ ?_<;>intro hc;apply eh;have ky:=I4 (cD _ (auT lG)).1;obtain⟨l,aj,_,_,_,_⟩:=I_ (cD _ (auT lG)).1;have OD:=WS (B:=B) v F[t].name l (F[t].kind==0) auD aj;have Ak:=OC v F[t].name (F[t].kind==0);have yS:xk v (jU v (F.take t)) F[t]=ki v (fV v F[t].name (F[t].kind==0)).1 (fV v F[t].name (F[t].kind==0)).2 (s9 v (jU v (F.take t)) (fV v F[t].name (F[t].kind==0)).1 (fV v F[t].name (F[t].kind==0)).2):=rfl;have x1:=WY (v:=v) lG;have x3:=aiZ (v:=v) lG (.N []);have mg:=CN v (jU v (F.take t)) (fV v F[t].name (F[t].kind==0)).1 (fV v F[t].name (F[t].kind==0)).2 (by rw[CO];simp;omega);generalize(fV v F[t].name (F[t].kind==0)).1=aY at*;generalize(fV v F[t].name (F[t].kind==0)).2=cn at*;(have OE:(jU v (F.take t)).length=t:=by rw[CO];simp;omega);generalize jU v (F.take t)=gq at*;generalize hK:s9 v gq aY cn=K at*;apply jH;refine k2 ?_;refine⟨az F[t],λ_=>lx lG,?_⟩;refine go ?_;refine bq (OD) ?_;intro qm;refine go ?_;refine bq (Jd v aY cn 0 auD auD auD) ?_;refine Y.ee (α:={j:Nat // j<=K}) (λx=>[(0,u v),(3,.box 3 bk 0),(6,.T .none 1 (eA F.length)),(48,.T .none 1 (eA F.length)),(49,u (eA F.length).length),(50,u t),(9,.am dD),(10,.am (.map (some l_))),(12,u t),(13,.N (ki v aY cn x.1)),(14,.box 14 qm 0),(15,u ((x.1+1:Nat):Int))]) (λx=>[(46,.row dD (aQ gq.reverse++List.replicate (F.length-t) (.N [])) 1 9),(47,.set l_ gq),(3,.box bk [.T .none 12 (F.map enc)]),(14,.box qm [.T .none 1 (dE aY),.T .none 1 (dE cn)])]) (λx=>K-x.1) ⟨0,by omega⟩ [(46,46),(47,47),(3,3),(14,14)] ⟨an,rfl,a_⟩ ?_;rintro⟨j,ad⟩;dsimp only;refine go ?_;refine .inr (ah.L_ 47 (em:=9) (eB:=4) rfl rfl auL rfl rfl rfl ?_);refine aI _ rfl ?_ ?_<;>intro hc;refine go ?_;have AK:ki v aY cn j∈gq:=avg hc;(have F1:j<K:=ayD);refine go ?_;refine bq (Jd v aY cn (j+1) auD auD auD) ?_;exact⟨⟨j+1,by omega⟩,[(46,46),(47,47),(3,3),(14,14)],by show K-(j+1)<K-j;omega,an,rfl,a_⟩;refine go ?_;have AK:ki v aY cn j∉gq:=ava hc;(have F1:j=K:=by rcases au6 j K with h|h;exact absurd (mg.2.2 j h) AK;omega);subst F1;refine go ?_;refine .inr (ah.Ej 47 (em:=9) (eB:=4) rfl rfl rfl rfl rfl rfl ?_);refine go ?_;refine .inr (ah.eG aN 46 rfl rfl rfl rfl rfl rfl rfl auD (by simp[aQ,OE];omega) ?_);refine go ?_;refine .inr (ah.nl aN 46 (i:=t) auJ rfl rfl rfl (by simp[aQ,OE];omega) rfl ?_);refine go ?_;exact⟨⟨t+1,by omega⟩,[(46,46),(47,47),(3,3)],by show _-(t+1)<_-t;omega,an,rfl,rfl,auP (λQ=>some (aJ.row dD Q 1 9)) (by rw[<-yS];exact x3),rfl,auP (λQ=>some (aJ.set l_ Q)) (by dsimp only;rw[x1,yS]),rfl,a_⟩;refine go ?_;exfalso;rcases X with rfl|rfl<;>cases hc;refine vf ?_;(have FK:t=F.length:=by simp[eA]at hc;omega);(have FL:aQ (jU v (F.take t)).reverse++List.replicate (F.length-t) (D.N [])=aQ (uw v F):=by subst FK;rw[ave (auW _)];simp[uw]);rw[FL];refine Y.fc [(9,.am dD)] [(46,.row dD (aQ (uw v F)) 1 9)] [(46,46)] ⟨an,rfl,a_⟩ ?_;exact ay4
theorem WZ(aX:dk B){v:Int}(X:v=0\/v=1):CJ B v (uw v) :=
 ⟨λae hF my cD=>⟨ai0 aX v X ae hF cD my,by simp[uw,CO],by
  rw[uw,avD,axZ];exact(avD.1 (OA v ae hF)).imp Ne.symm,λm hm=>aiY v ae hF m (List.mem_reverse.1 hm)⟩⟩
theorem ai1(h:et r=true):et (lH r)=true:=by unfold lH;split;decide;exact h
theorem ai2(h:et r=true):et (h8 r)=true:=by obtain⟨h1,A,aa⟩:=(sd r).1 h;unfold h8;split;exact(sd _).2 ⟨by omega,by omega,by omega⟩;split;exact h;decide
theorem Je{v:Int}(h:et r=true):et (e7 v r)=true:=by unfold e7;split;exact ai2 h;exact ai1 h
end Go.bV.ct


namespace Go.bV.ct
open Go Go.Proofs
variable{B:World}
theorem W0(r:Int)(l:List Int):cy (r::l)=(Utf8.encode r).data.toList++cy l:=by simp[cy]
end Go.bV.ct

namespace Go.bV.ct
open Go Go.Proofs
variable{B:World}
def o1(v:Int)(ao:List auM)(k:U):auM:=if v=0\/v=1 then xk v ao k else k.name
def g5(v:Int)(ae:List U):List auM:=ae.foldl (λao k=>o1 v ao k::ao) []
def cd(v:Int)(ae:List U):List auM:=(g5 v ae).reverse
theorem xm(v:Int)(ae:List U)(k:U):g5 v (ae++[k])=o1 v (g5 v ae) k::g5 v ae:=by simp[g5]
theorem s_(v:Int)(ae:List U):(g5 v ae).length=ae.length:=by refine xl (p:=λae=>(g5 v ae).length=ae.length) rfl (λl x aV=>?_) ae;rw[xm];simp[aV]
variable{ae:List U}{t:Nat}
theorem OF{v:Int}(h:t<ae.length):g5 v (ae.take (t+1))=o1 v (g5 v (ae.take t)) ae[t]::g5 v (ae.take t):=by rw[auU h,xm]
def yT(n:U):List D:=[.N n.name,u n.kind,.N n.cU,.N n.target,u n.cu,u n.n2,u n.n3,u n.n4,u n.n5,u n.n6,.T .none 12 (n.F.map enc),.T .none 2 (n.bD.map cW)]
end Go.bV.ct





namespace Go.bV.ct
open Go Go.Proofs
variable{B:World}
theorem om(v:Int)(ae:List U):(cd v ae).length=ae.length:=by simp[cd,s_]
end Go.bV.ct

namespace Go.bV.ct
open Go Go.Proofs
variable{B:World}
theorem Jf{v:Int}(X:v=0\/v=1):cd v=uw v:=by funext ae;rw[cd,uw];congr 1;refine xl (p:=λae=>g5 v ae=jU v ae) rfl (λl x aV=>?_) ae;rw[xm,F0,aV,o1,auO X]
theorem F2{v:Int}(X:v=2\/v=3):cd v=λae=>ae.map U.name:=by funext ae;rw[cd];refine xl (p:=λae=>(g5 v ae).reverse=ae.map U.name) rfl (λl x aV=>?_) ae;rw[xm,o1,auN auD,awM,aV];simp
theorem W1{v:Int}(h:ka v=true):v=0\/v=1\/v=2\/v=3:=by simp[ka]at h;omega
theorem OG(aX:dk B){v:Int}(h:ka v=true):CJ B v (cd v):=by rcases W1 h with h|h|h|h;rw[Jf (.inl h)];exact WZ aX (.inl h);rw[Jf (.inr h)];exact WZ aX (.inr h);rw[F2 (.inl h)];exact Ok aX (.inl h);rw[F2 (.inr h)];exact Ok aX (.inr h)
theorem W2:∀l:List nr,l3 l<=k8 l
 |[]=>by simp[l3]
 |s::r=>by have:=W2 r;simp only[l3,k8];omega
mutual
theorem W3:∀n:U,2*n.name.length+2+aB n<=2*pH n
 |.mk a b c d e f g h i j ae ch=>by
  have h1:=W4 ae;have A:=W2 ch;simp only[aB,pH];omega
theorem W4:∀l:List U,eD l<=2*j' l
 |[]=>by simp[eD]
 |n::r=>by
  have h1:=W3 n;have A:=W4 r;simp only[eD,j'];omega
end
theorem CP{n:U}{s:Int}(h:oS n s=true):(aB n:Int)<=2*s/\fd n<=40:=by simp only[oS,auQ,avp]at h;have:=W3 n;omega
theorem ai3{a b:List U}(h:a.Perm b):eD a=eD b:=by induction h with|nil=>rfl|cons x _ aV=>simp only[eD,aV]|swap x y l=>simp only[eD];omega|trans _ _ h1 A=>exact h1.trans A
def Jg(aU:List U->List auM):Prop:=∀ae:List U,ae.length<=64->f3 ae->(∀k∈ae,dS k.name=true/\k.name.length<1000000000)->∀m∈aU ae,m.length<=1100
theorem ai4(aX:dk B){v:Int}(h:ka v=true):Jg (cd v):=λae h1 A aa=>((OG aX h).call ae h1 A aa).2.2.2
mutual
theorem W5(aU:List U->List auM)(v:Int)(hs:Jg aU):∀(n:U) (d:Int),gZ n->aB (it aU v d n)+2200<=aB n+2200*fd n
 |.mk a b c t e f g h i j ae ch,d,h1=>by
  simp only[gZ]at h1;have A:=W6 aU v hs ae (aU ae) (d+1) h1.2.2.2 (hs ae h1.1 h1.2.2.1 λk Z=>(q6 h1.2.2.2 Z).1);have aa:=ai3 (AH (fy aU v (d+1) ae (aU ae)));have aF:l3 (if v=3 then ch else[])<=l3 ch:=by split<;>simp[l3]
  simp only[it,aB,fd];rw[aa];omega
theorem W6(aU:List U->List auM)(v:Int)(hs:Jg aU):∀(l:List U) (cm:List auM) (d:Int),xh l->(∀m∈cm,m.length<=1100)->eD (fy aU v d l cm)<=eD l+2200*eQ l
 |[],cm,d,_,_=>by simp[fy,eD]
 |k::r,[],d,_,_=>by simp[fy,eD]
 |k::r,m::cm,d,h1,hm=>by
  simp only[xh]at h1;have A:=W6 aU v hs r cm d h1.2 λx J=>hm x (auZ _ J);have aa:=W5 aU v hs k d h1.1.2;have aF:=hm m auY;have a8:aB ((it aU v d k).named m)=aB (it aU v d k):=FO _ _;simp only[fy];split
  ·simp only[eD,eQ];have cN:((it aU v d k).named m).name=m:=rfl;rw[a8,cN];omega
  simp only[eD,eQ];omega
end
theorem ai5(aU:List U->List auM)(v d:Int)(n:U):(it aU v d n).name=n.name:=by rw[FN]
theorem ai6(aU:List U->List auM)(v:Int)(hs:Jg aU){n:U}(X:valid n=true)(M:oS n 100000=true):ev (it aU v 1 n)/\aB (it aU v 1 n)<300000:=by have h1:=W5 aU v hs n 1 (q8 X);have A:=CP M;(have aa:n.name=[]:=by rw[q7,auQ]at X;exact(vR X.2).1.FR rfl);unfold ev;rw[ai5,aa];simp only[avh];omega
section
variable{S:Type}(gw:auM->auM->S->S)(aU:List U->List auM)(v:Int)
end
end Go.bV.ct




namespace Go.bV.ct
open Go Go.Proofs
variable{B:World}{i:Nat}
theorem ai7{l:List U}(h:i<l.length):(l.take i).map az++[az l[i]]=(l.take (i+1)).map az:=by rw[awF,auR h,avo];rfl
theorem ai8:∀(bA:Nat) (n:U),aB n<bA->aB n<1000000000->aT B 53 [az n] (az n):=by refine λbA=>Nat.rec (λn h=>absurd h (av_ _)) (λbA aV n hN bn=>?_) bA;(have i6:2*n.bD.length<=aB n:=by have:=EH n.bD;have:=j8 n;omega);(have eK:2*n.F.length<=aB n:=by have:=z7 n.F;have:=j8 n;omega);refine bB Tryz.func53 Tryz.ntmps53 λW=>?_;refine cc ?_;intro dI;(conv=>whnf);intro ca;refine kB ?_;refine⟨[.T .none 2 (n.bD.map cW)],_,λ_=>Ve n.bD auD,an,?_⟩;apply cj;refine gK ?_;refine gK ?_;refine mT ?_;refine Y.jo 1 (dA:=[.N n.name,u n.kind,.N n.cU,.N n.target,u n.cu,u n.n2,u n.n3,u n.n4,u n.n5,u n.n6,.am (.slice none 0 0),.T .none 2 (n.bD.map cW)]) rfl ⟨E,E,E,E,E,E,E,E,E,E,ap.rO,E,ak⟩ ?_;refine Y.qF 109 12 44 ?_;refine Y.ee (α:={x:Nat×Value // x.1<=n.F.length}) (λx=>[(1,.box 1 dI 0),(2,.box 2 ca 0),(13,.T .none 12 (n.F.map enc)),(14,u (n.F.map enc).length),(15,u x.1.1)]) (λx=>[(2,.box ca [.N [],u 0,.N [],.N [],u 0,u 0,u 0,u 0,u 0,u 0,.bd,.bd]),(1,.box dI [.N n.name,u n.kind,.N n.cU,.N n.target,u n.cu,u n.n2,u n.n3,u n.n4,u n.n5,u n.n6,.am x.1.2,.T .none 2 (n.bD.map cW)]),(109,.row x.1.2 ((n.F.take x.1.1).map az) 12 44)]) (λx=>n.F.length-x.1.1) ⟨(0,.slice none 0 0),au7 _⟩ [(2,2),(1,1),(109,109)] ⟨an,rfl,rfl,rfl,rfl,rfl,rfl,auP (λQ=>some (aJ.row (.slice none 0 0) Q 12 44)) auF,ak⟩ ?_;rintro⟨⟨i,gP⟩,hi⟩;dsimp only at hi⊢;apply b1;apply eh;refine aI (decide ((i:Int)<(n.F.map enc).length)) rfl ?_ ?_<;>intro hc;apply ci;refine jJ ?_;apply b1;(have aG:i<n.F.length:=by simpa using hc);have Of:=qT aG;refine wS ?_;refine⟨az n.F[i],λ_=>rU aG,?_⟩;(conv=>whnf);intro cF;refine ej ?_;refine Y.x2 aN 5 mixed auI ?_;apply cj;refine ej ?_;refine⟨[az n.F[i]],_,λ_=>aV n.F[i] auD auD,an,?_⟩;(conv=>whnf);refine oJ ?_;refine .inr (ah.ph aN 109 rfl rfl rfl auK rfl rfl rfl (awV) ?_ ?_ λbS yU cap=>?_);show(_+1)*152<=_;simp;omega;show _+1<=_;simp;omega;apply mj;apply cj;refine ml ?_;exact⟨⟨(i+1,.slice bS yU cap),aG⟩,[(2,2),(1,1),(109,24)],by show _-(i+1)<_-i;omega,an,rfl,rfl,rfl,rfl,rfl,rfl,auP (λQ=>some (aJ.row (.slice bS yU cap) Q 12 44)) (by exact ai7 aG),ak⟩;refine Y.exit ?_;(have cr:i=n.F.length:=by simp at hc;omega);(have dQ:(n.F.take i).map az=n.F.map enc:=by subst cr;rw[au2,show enc=az from funext qK]);rw[dQ];refine Y.HH 109 1 10 rfl rfl auG rfl ?_;refine gK ?_;apply cj;apply x6;refine ej ?_;exact ap.of_eq rfl
mutual
def k':U->List (List auM)
 |.mk _ _ _ _ _ _ _ _ _ _ ae _=>[]::sf ae
def sf:List U->List (List auM)
 |[]=>[]
 |k::r=>(k' k).map (λq=>k.name::q)++sf r
end
theorem Jh(n:U):k' n=[]::sf n.F:=by cases n;simp only[k']
def h9(q:auM)(ae:List U):Option U:=ae.find? λk=>k.name==q
def dw:U->List auM->Option U
 |n,[]=>some n
 |n,m::cm=>match h9 m n.F with
  |some k=>dw k cm
  |none=>none
theorem Ji:∀{ae:List U} {p:List auM},p∈sf ae↔∃k∈ae,∃q∈k' k,p=k.name::q
 |[],p=>by simp[sf]
 |k::r,p=>by have aV:=Ji (ae:=r) (p:=p);simp only[sf,avf,au_,au8,aV];constructor;rintro(⟨q,I,rfl⟩|⟨x,J,q,I,rfl⟩);exact⟨k,.inl rfl,q,I,rfl⟩;exact⟨x,.inr J,q,I,rfl⟩;rintro⟨x,rfl|J,q,I,rfl⟩;exact .inl ⟨q,I,rfl⟩;exact .inr ⟨x,J,q,I,rfl⟩
theorem ai9(n:U):[]∈k' n:=by rw[Jh];exact auY
theorem vW{n:U}{m:auM}{q:List auM}:m::q∈k' n↔∃k∈n.F,k.name=m/\q∈k' k:=by rw[Jh,au8,Ji];constructor;rintro(h|⟨k,Z,pa,I,h⟩);cases h;cases h;exact⟨k,Z,rfl,I⟩;rintro⟨k,Z,rfl,I⟩;exact .inr ⟨k,Z,q,I,rfl⟩
variable{ae:List U}
theorem ux(h:f3 ae){x y:U}(J:x∈ae)(hy:y∈ae)(e:x.name=y.name):x=y:=by obtain⟨i,hi,rfl⟩:=avm.1 J;obtain⟨j,ad,rfl⟩:=avm.1 hy;rcases awX i j with l|l|l;exact absurd e (q2 (pI h l ad));subst l;rfl;exact absurd e.symm (q2 (pI h l hi))
theorem W7(h:f3 ae){k:U}(Z:k∈ae):h9 k.name ae=some k:=by unfold h9;cases M:ae.find? (λx=>x.name==k.name)with|none =>have:=awn.1 M k Z;simp at this|some x =>have h1:=axb M;have A:=ax7 M;rw[ux h h1 Z (by simpa using A)]
theorem F3{q:auM}{k:U}(h:h9 q ae=some k):k∈ae/\k.name=q :=
 ⟨axb h,by simpa using ax7 h⟩
theorem yV{n k:U}{m:auM}{q:List auM}(hi:f3 n.F)(Z:k∈n.F)(e:k.name=m):dw n (m::q)=dw k q:=by subst e;simp only[dw,W7 hi Z]
theorem lI{n:U}(h:gZ n):f3 n.F:=((sc n).1 h).2.2.1
theorem uy{n k:U}(h:gZ n)(Z:k∈n.F):gZ k:=(q6 ((sc n).1 h).2.2.2 Z).2
theorem ai_{n k:U}(h:gZ n)(Z:k∈n.F):dS k.name=true:=(q6 ((sc n).1 h).2.2.2 Z).1.1
theorem s':∀(q:List auM) (n:U),gZ n->(q∈k' n↔∃x,dw n q=some x)
 |[],n,h=>by simp[dw,ai9]
 |m::q,n,h=>by rw[vW];constructor;rintro⟨k,Z,rfl,I⟩;rw[yV (lI h) Z rfl];exact(s' q k (uy h Z)).1 I;rintro⟨x,J⟩;simp only[dw]at J;cases M:h9 m n.F with|none=>rw[M]at J;cases J|some k =>rw[M]at J;obtain⟨h1,A⟩:=F3 M;exact⟨k,h1,A,(s' q k (uy h h1)).2 ⟨x,J⟩⟩
def kj(q:List auM):auM:=q.flatMap λm=>47::m
def ew:List auM->auM
 |[]=>[]
 |m::r=>m++kj r
mutual
def dq:U->auM->Int->List auM
 |.mk _ _ _ _ _ _ _ _ _ _ ae _,p,l=>p::iP ae p l
def iP:List U->auM->Int->List auM
 |[],_,_=>[]
 |k::r,p,l=>dq k (below p k.name (l+1)) (l+1)++iP r p l
end
theorem OH(n:U)(p:auM)(l:Int):dq n p l=p::iP n.F p l:=by cases n;simp only[dq]
mutual
theorem W8:∀(n:U) (p:auM) (l:Int),2<=l->dq n p l=(k' n).map λq=>p++kj q
 |.mk _ _ _ _ _ _ _ _ _ _ ae _,p,l,h=>by
  simp only[dq,k',avc];rw[W9 ae p l h];simp[kj]
theorem W9:∀(ae:List U) (p:auM) (l:Int),2<=l->iP ae p l=(sf ae).map λq=>p++kj q
 |[],p,l,h=>rfl
 |k::r,p,l,h=>by
  simp only[iP,sf,avo,avR];rw[W9 r p l h,W8 k _ (l+1) auD,below,auN auD];congr 1
  refine avM λq _=>?_;simp[kj]
end
theorem W_:∀(ae:List U),iP ae [] 1=(sf ae).map ew
 |[]=>rfl
 |k::r=>by simp only[iP,sf,avo,avR];rw[W_ r,W8 k _ _ auD,below,auO auD];congr 1
theorem F4(n:U):dq n [] 1=(k' n).map ew:=by rw[OH,Jh,W_];rfl
theorem W':∀(cm:List auM) (p:auM),(47:UInt8)∉p->(∀m∈cm,(47:UInt8)∉m)->cO 47 [] (p++kj cm)=p::cm
 |[],p,aw,_=>by simp[kj,Na p [] aw]
 |m::r,p,aw,h=>by(have e:p++kj (m::r)=p++47::(m++kj r):=by simp[kj]);rw[e,Nb p [] _ aw,W' r m (h m auY) λx J=>h x (auZ _ J)];simp
def uz(q:List auM):Prop:=∀m∈q,dS m=true
theorem OI{m:auM}(h:dS m=true):(47:UInt8)∉m:=by intro hm;unfold dS at h;rw[auO (.inr (.inr hm))]at h;cases h
theorem Jj{q:List auM}(h:uz q):ew q=[]↔q=[]:=by cases q with|nil=>simp[ew]|cons m r =>have:=aif (h m auY);simp[ew,this]
theorem Jk{q:List auM}(h:uz q)(I:q≠[]):cO 47 [] (ew q)=q:=by cases q with|nil=>exact absurd rfl I|cons m r=>exact W' r m (OI (h m auY)) λx J=>OI (h x (auZ _ J))
theorem OJ{q pa:List auM}(h:uz q)(bt:uz pa)(e:ew q=ew pa):q=pa:=by by_cases h0:q=[];subst h0;exact((Jj bt).1 (by rw[<-e];rfl)).symm;have h1:pa≠[]:=λA=>h0 ((Jj h).1 (by rw[e,A];rfl));rw[<-Jk h h0,e,Jk bt h1]
theorem vX:∀(q:List auM) (n:U),gZ n->q∈k' n->uz q
 |[],n,_,_=>λm hm=>by cases hm
 |m::q,n,h,I=>by obtain⟨k,Z,e,I⟩:=vW.1 I;intro x J;rcases au8.1 J with rfl|J;rw[<-e];exact ai_ h Z;exact vX q k (uy h Z) I x J
mutual
theorem yW:∀(n:U) (p:auM) (l:Int),(dq n p l).length=fd n
 |.mk _ _ _ _ _ _ _ _ _ _ ae _,p,l=>by
  have:=Jl ae p l;simp only[dq,fd,auX];omega
theorem Jl:∀(ae:List U) (p:auM) (l:Int),(iP ae p l).length=eQ ae
 |[],p,l=>rfl
 |k::r,p,l=>by
  have h1:=yW k (below p k.name (l+1)) (l+1);have A:=Jl r p l;simp only[iP,eQ,auV];omega
end
theorem OK:∀{ae:List U} {i:Nat} (h:i<ae.length) (p:auM) (l:Int),iP (ae.take (i+1)) p l=iP (ae.take i) p l++dq ae[i] (below p ae[i].name (l+1)) (l+1)
 |k::r,0,_,p,l=>by simp[iP]
 |k::r,i+1,h,p,l=>by have:=OK (ae:=r) (i:=i) (by simpa using h) p l;simp only[awi,iP,av8];rw[this];simp
theorem ai':∀(bA:Nat) (n:U),aB n<bA->aB n<10000000->∀(p:auM) (l:Int),1<=l->p.length+aB n<100000000->l+aB n<1000000000->aT B 136 [az n,.N p,u l] (.T .none 1 (aQ (dq n p l))):=by refine λbA=>Nat.rec (λn h=>absurd h (av_ _)) (λbA aV n hN bn p l aj aw xn=>?_) bA;refine bB Tryz.func136 Tryz.ntmps136 λW=>?_;refine cc ?_;intro el;refine cc ?_;refine⟨ak,?_⟩;refine mT ?_;refine Y.own 7 1000 1 9 rfl (λw=>?_);refine Y.ee (α:={i:Nat // i<=n.F.length}×Value) (λx=>[(1,.N p),(2,u l),(3,.box 3 el 0),(7,.T (.own 1000 x.2) 1 (aQ (p::iP (n.F.take x.1.1) p l))),(8,u x.1.1)]) (λx=>[(3,.box el [.N n.name,u n.kind,.N n.cU,.N n.target,u n.cu,u n.n2,u n.n3,u n.n4,u n.n5,u n.n6,.T .none 12 (n.F.map enc),.T .none 2 (n.bD.map cW)]),(1000,.own x.2 (aQ (p::iP (n.F.take x.1.1) p l)).length 1 9)]) (λx=>n.F.length-x.1.1) (⟨0,au7 _⟩,w) [(3,3),(1000,1000)] ⟨an,rfl,a_⟩ ?_;rintro⟨⟨i,hi⟩,w⟩;dsimp only at hi⊢;refine oK ?_;refine aI _ rfl ?_ ?_<;>intro hc;refine eY ?_;(have aG:i<n.F.length:=by simpa using hc);have Of:=qT aG;have fg:=B3 p n.F[i].name (l+1);have c2:=OK aG p l;have mO:=Jl (n.F.take i) p l;have bg:=Nq n.F i;have Bt:=EL n.F;have aja:=j8 n;have eK:=yW n.F[i] (below p n.F[i].name (l+1)) (l+1);have b2:=B5 n.F[i];have sV:=z7 n.F;refine jJ ?_;refine Y.zI aN 18 mixed auI ?_;refine k2 ?_;refine⟨az n.F[i],λ_=>lx aG,?_⟩;refine k2 ?_;refine⟨az n.F[i],λ_=>lx aG,?_⟩;(conv=>whnf);refine⟨[.N p,.N n.F[i].name,u l],_,λ_=>TE p n.F[i].name l auD aj,an,?_⟩;refine lq ?_;refine⟨[az n.F[i],.N (below p n.F[i].name (l+1)),u (l+1)],_,λ_=>aV n.F[i] auD auD (below p n.F[i].name (l+1)) (l+1) auD auD auD,an,?_⟩;(conv=>whnf);refine Mf ?_;refine⟨by show(_+_)*16<=_;simp[aQ];omega,by show _+_<=_;simp[aQ];omega,auK,λv=>?_⟩;refine ml ?_;(have aq:aQ (p::iP (n.F.take i) p l)++aQ (dq n.F[i] (below p n.F[i].name (l+1)) (l+1))=aQ (p::iP (n.F.take (i+1)) p l):=by rw[c2];simp[aQ]);exact⟨(⟨i+1,aG⟩,v),[(3,3),(1000,36)],ay',⟨E,E,E,ap.i' aq,E,ak⟩,rfl,rfl,rfl,rfl,jq (by rw[<-aq,auV]),ak⟩;refine qH ?_;(have cr:i=n.F.length:=by simp at hc;omega);have e:n.F.take i=n.F:=ave auD;rw[e,<-OH];exact ap.mf
theorem ajb(n:U)(ar:ev n)(X:valid n=true):aT B 87 [az n] (.T .none 1 (aQ (dq n [] 1))):=by refine bB Tryz.func87 Tryz.ntmps87 λW=>?_;refine cc ?_;intro dI;refine vi ?_;refine⟨[az n],_,λ_=>Ns n ar,an,?_⟩;refine aI _ rfl ?_ ?_<;>intro hc;apply eh;exfalso;rw[X]at hc;cases hc;apply ci;refine kB ?_;have bn:=ar;unfold ev at bn;refine⟨[az n,.N [],u 1],_,λ_=>ai' _ n (avt _) auD [] 1 auD auE auD,an,?_⟩;refine hz ?_;exact E
def dr(n:U)(s:auM):U×Int :=
 if s=[]then(n,0)else match dw n (cO 47 [] s)with
  |some x=>(x,0)
  |none=>(q9,6)
theorem AL{q:List auM}(h:uz q)(n:U):dr n (ew q)=match dw n q with|some x=>(x,0)|none=>(q9,6):=by unfold dr;by_cases h0:q=[];subst h0;rfl;rw[auN (λe=>h0 ((Jj h).1 e)),Jk h h0]
theorem F5(n:U)(q:auM):(q1 n q=-1/\h9 q n.F=none)\/∃(i:Nat) (h:i<n.F.length),q1 n q=i/\h9 q n.F=some n.F[i]:=by cases M:h9 q n.F with|none =>refine .inl ⟨?_,rfl⟩;unfold h9 at M;(exact zQ λj ad=>by simpa using awn.1 M _ (auT ad))|some k =>unfold h9 at M;obtain⟨h1,i,A,aa,aF⟩:=List.find?_eq_some_iff_getElem.1 M;refine .inr ⟨i,A,?_,by rw[aa]⟩;exact zP (p:=λk:U=>k.name==q) A (λj ad fq=>by simpa using aF j fq) (by rw[aa];exact h1)
theorem Xa{n k:U}(ar:ev n)(Z:k∈n.F):ev k:=by obtain⟨i,hi,rfl⟩:=avm.1 Z;have:=qT hi;unfold ev at ar⊢;omega
theorem Xb(n:U)(s:auM)(ar:ev n)(X:valid n=true)(hs:s.length<1000000000):aT B 23 [az n,.N s] (.bm [az (dr n s).1,u (dr n s).2]):=by refine bB Tryz.func23 Tryz.ntmps23 λW=>?_;refine cc ?_;intro ca;(conv=>whnf);intro cJ;refine vi ?_;refine⟨[az n],_,λ_=>Ns n ar,an,?_⟩;refine aI _ rfl ?_ ?_<;>intro hc;apply eh;exfalso;rw[X]at hc;cases hc;apply ci;refine gj ?_;refine aI _ rfl ?_ ?_<;>intro hc;refine gK ?_;apply cj;refine hz ?_;(have h0:s=[]:=by simpa using hc);(have eJ:dr n s=(n,0):=by rw[dr,auO h0]);rw[eJ];refine ej ?_;exact an;refine eY ?_;(have h0:¬s=[]:=by simpa using hc);refine cc ?_;refine⟨[.N s,.int .u8 47],_,λ_=>Nj s 47 hs,an,?_⟩;apply eh;have Xc:=(rZ (c:=47) s []).1;generalize aX:cO 47 [] s=L at*;apply b1;apply n1;refine Y.ee (α:={x:Nat×U // x.1<=L.length/\dw n L=dw x.2 (L.drop x.1)/\ev x.2}) (λx=>[(1,.N s),(2,.box 2 ca 0),(4,.box 4 cJ 0),(6,.T .none 1 (aQ L)),(7,u x.1.1)]) (λx=>[(2,.box ca [.N x.1.2.name,u x.1.2.kind,.N x.1.2.cU,.N x.1.2.target,u x.1.2.cu,u x.1.2.n2,u x.1.2.n3,u x.1.2.n4,u x.1.2.n5,u x.1.2.n6,.T .none 12 (x.1.2.F.map enc),.T .none 2 (x.1.2.bD.map cW)]),(4,.box cJ [.N [],u 0,.N [],.N [],u 0,u 0,u 0,u 0,u 0,u 0,.bd,.bd])]) (λx=>L.length-x.1.1) ⟨(0,n),au7 _,rfl,ar⟩ [(2,2),(4,4)] ⟨an,rfl,a_⟩ ?_;rintro⟨⟨i,m⟩,hi,aS,hm⟩;dsimp only at hi aS hm⊢;refine gj ?_;refine aI _ rfl ?_ ?_<;>intro hc;refine eY ?_;(have aG:i<L.length:=by simpa[aQ]using hc);have O:L.drop i=L[i]::L.drop (i+1):=avL aG;refine jJ ?_;refine mQ ?_;refine ej ?_;refine⟨λ_=>by simp[aQ];omega,?_⟩;(conv=>whnf);refine⟨.N L[i],λ_=>by simp[aQ,aG],?_⟩;(conv=>whnf);refine⟨[az m,.N L[i]],_,λ_=>Nv m L[i] hm,an,?_⟩;refine gj ?_;refine aI _ rfl ?_ ?_<;>intro hc;refine gK ?_;refine hz ?_;(have eJ:dr n s=(q9,6):=by rcases F5 m L[i]with⟨h1,A⟩|⟨j,ad,h1,A⟩;rw[dr,auN h0,aX,aS,O];simp only[dw,A];rw[h1]at hc;simp at hc;omega);rw[eJ];refine ej ?_;exact⟨FU,E,ak⟩;(obtain⟨j,ad,h1,A⟩:∃(j:Nat) (h:j<m.F.length),q1 m L[i]=j/\h9 L[i] m.F=some m.F[j]:=by rcases F5 m L[i]with⟨h1,A⟩|h;rw[h1]at hc;simp at hc;exact h);apply ci;apply jH;refine ej ?_;rw[h1];refine pk ?_;refine⟨az m.F[j],λ_=>lx ad,?_⟩;apply cj;refine ml ?_;exact⟨⟨(i+1,m.F[j]),aG,by rw[aS,O];simp only[dw,A],Xa hm (auT ad)⟩,[(2,2),(4,4)],by show L.length-(i+1)<L.length-i;omega,an,rfl,a_⟩;refine Y.exit ?_;refine gK ?_;apply cj;refine hz ?_;(have cr:L.drop i=[]:=by(have:¬i<L.length:=by simpa[aQ]using hc);exact aw4 auD);(have eJ:dr n s=(m,0):=by rw[dr,auN h0,aX,aS,cr];rfl);rw[eJ];refine ej ?_;exact an
theorem OL:∀(q:List auM) (n x:U),dw n q=some x->aB x<=aB n
 |[],n,x,h=>by simp only[dw,avi]at h;subst h;exact auW _
 |m::q,n,x,h=>by simp only[dw]at h;cases M:h9 m n.F with|none=>rw[M]at h;cases h|some k =>rw[M]at h;obtain⟨i,hi,e⟩:=avm.1 (F3 M).1;have h1:=qT hi;have A:=OL q k x h;rw[e]at h1;omega
theorem OM:∀(q:List auM) (n:U),q∈k' n->(kj q).length<=aB n
 |[],n,_=>by simp[kj]
 |m::q,n,h=>by obtain⟨k,Z,rfl,I⟩:=vW.1 h;obtain⟨i,hi,rfl⟩:=avm.1 Z;have:=qT hi;have:=OM q _ I;simp only[kj,avF,auV,auX]at this⊢;omega
theorem Xd{q:List auM}{n:U}(h:q∈k' n):(ew q).length<=aB n:=by have:=OM q n h;cases q with|nil=>simp[ew]|cons m r=>simp only[ew,kj,avF,auV,auX]at this⊢;omega
theorem ajc(k:U)(q:auM):aT B 85 [az k,.a7 1 [.N q] 0 0] (.bool (k.name==q)):=by refine bB Tryz.func85 Tryz.ntmps85 λW=>?_;refine cc ?_;intro b;refine gK ?_;refine wQ (.N q) ?_;refine go ?_;exact E
theorem ajd(l:List U)(q:auM)(aj:l.length<1000000000):aT B 84 [.T .none 12 (l.map enc),.fn (.func 85) [] [.a7 1 [.N q] 0 0]] (u (fh (λk:U=>k.name==q) l)):=by refine bB Tryz.func84 Tryz.ntmps84 λW=>?_;refine go ?_;refine Y.loop (α:={i:Nat // i<=l.length/\∀j (h:j<l.length),j<i->((l[j]).name==q)=false}) (λx=>[(0,.T .none 12 (l.map enc)),(1,.fn (.func 85) [] [.a7 1 [.N q] 0 0]),(7,u (l.map enc).length),(8,u x.1)]) (λ_=>[]) (λx=>l.length-x.1) ⟨0,by simp⟩ an trivial ?_;rintro⟨i,hi,aw⟩;dsimp only;refine go ?_;refine aI (decide ((i:Int)<(l.map enc).length)) rfl ?_ ?_<;>intro hc;apply ci;refine jJ ?_;apply b1;(have aG:i<l.length:=by simpa using hc);refine cc ?_;refine pk ?_;refine⟨az l[i],λ_=>lx aG,?_⟩;refine go ?_;refine bq (ajc l[i] q) ?_;refine aI _ rfl ?_ ?_<;>intro hc;refine go ?_;exact dx (zP (p:=λk:U=>k.name==q) aG aw hc).symm;refine go ?_;exact⟨⟨i+1,by omega,λj ad bg=>(awJ.1 bg).elim (aw j ad) λe=>by subst e;exact hc⟩,by show _-(i+1)<_-i;omega,an,ak⟩;refine go ?_;exact ayH
def yX:List D->Nat->U->List auM->D
 |xs,j,n,[]=>.a7 12 xs j 0
 |xs,j,n,m::r=>if q1 n m<0 then .am (.pointer none)else match n.F[(q1 n m).toNat]? with
  |some k=>yX (n.F.map enc) (q1 n m).toNat k r
  |none=>.am (.pointer none)
theorem Xe:∀(r:List auM) (xs:List D) (j:Nat) (n:U),xs[j]?=some (az n)->(dw n r=none/\yX xs j n r=.am (.pointer none))\/∃m bl i,dw n r=some m/\yX xs j n r=.a7 12 bl i 0/\bl[i]?=some (az m)
 |[],xs,j,n,h=>.inr ⟨n,xs,j,rfl,rfl,h⟩
 |m::r,xs,j,n,h=>by simp only[dw,yX];rcases F5 n m with⟨h1,A⟩|⟨i,hi,h1,A⟩;rw[h1,A];exact .inl ⟨rfl,auO auG⟩;rw[h1,A,auN auD,show((i:Nat):Int).toNat=i from rfl,auR hi];exact Xe r _ i _ (rU hi)
theorem aje(aX:dk B)(s:auM)(hs:s.length<1000000000)(xs:List D)(j:Nat)(n:U)(ad:xs[j]?=some (az n))(bn:aB n<1000000000):aT B 52 [.a7 12 xs j 0,.N s] (if s=[]then .a7 12 xs j 0 else yX xs j n (cO 47 [] s)):=by refine bB Tryz.func52 Tryz.ntmps52 λW=>?_;refine go ?_;refine aI _ rfl ?_ ?_<;>intro hc;refine go ?_;exact ap.of_eq (auO (by simpa using hc)).symm;refine go ?_;(have aZ:s≠[]:=by simpa using hc);refine go ?_;refine bq (It aX s 47 hs) ?_;refine Y.loop (α:={x:Nat×List D×Nat×U // x.1<=(cO 47 [] s).length/\x.2.1[x.2.2.1]?=some (az x.2.2.2)/\yX x.2.1 x.2.2.1 x.2.2.2 ((cO 47 [] s).drop x.1)=yX xs j n (cO 47 [] s)/\aB x.2.2.2<1000000000}) (λx=>[(0,.a7 12 x.1.2.1 x.1.2.2.1 0),(12,.T .none 1 (aQ (cO 47 [] s))),(13,u (aQ (cO 47 [] s)).length),(14,u x.1.1)]) (λ_=>[]) (λx=>(cO 47 [] s).length-x.1.1) ⟨(0,xs,j,n),au7 _,ad,rfl,bn⟩ ⟨E,ap.dZ,E,E,ak⟩ trivial ?_;rintro⟨⟨i,bl,asT,m⟩,hi,hm,O,ajf⟩;obtain⟨fe,_⟩:=rZ (c:=47) s [];dsimp only at hi hm O ajf⊢;refine go ?_;refine aI (decide ((i:Int)<(aQ (cO 47 [] s)).length)) rfl ?_ ?_<;>intro hc;apply ci;refine jJ ?_;apply b1;(have aG:i<(cO 47 [] s).length:=by simpa[aQ]using hc);have eK:=vr m;have ly:(cO 47 [] s).drop i=(cO 47 [] s)[i]::(cO 47 [] s).drop (i+1):=avL aG;(conv=>whnf);refine⟨λ_=>by simp[aQ];omega,?_⟩;refine go ?_;refine⟨.N (cO 47 [] s)[i],λ_=>by simp[aQ,aG],?_⟩;refine go ?_;intro b;(conv=>whnf);refine dc ?_;apply eh;refine Y.BP 6 6 (.N (cO 47 [] s)[i]) rfl rfl rfl rfl ?_;refine tW ?_;(conv=>whnf);refine⟨rfl,ak,.inr (ah.Ml rfl ?_)⟩;refine jp ?_;refine⟨rfl,ak,.inl ⟨az m,λ_=>hm,?_⟩⟩;refine jp ?_;refine⟨rfl,ak,.inl ⟨[.T .none 12 (m.F.map enc),.fn (.func 85) [] [.a7 1 [.N (cO 47 [] s)[i]] 0 0]],_,λ_=>ajd m.F _ auD,an,?_⟩⟩;apply ei;refine go ?_;refine aI (decide (q1 m (cO 47 [] s)[i]<0)) rfl ?_ ?_<;>intro hc;refine go ?_;refine ap.of_eq ?_;rw[auN aZ,<-O,ly];exact(auO (by simpa using hc)).symm;refine eY ?_;(have pp:∃(g9:Nat) (h:g9<m.F.length),q1 m (cO 47 [] s)[i]=g9/\h9 (cO 47 [] s)[i] m.F=some m.F[g9]:=by rcases F5 m (cO 47 [] s)[i]with⟨h1,_⟩|h;rw[h1]at hc;simp at hc;exact h);obtain⟨g9,ls,aq,_⟩:=pp;have b2:=qT ls;rw[show fh (λk:U=>k.name==(cO 47 [] s)[i]) m.F=(g9:Int)from aq];refine tW ?_;(conv=>whnf);refine⟨rfl,ak,.inr (ah.Ml rfl ?_)⟩;refine jp ?_;refine⟨rfl,ak,.inl ⟨az m,λ_=>hm,?_⟩⟩;refine jp ?_;refine⟨rfl,ak,.inl ⟨λ_=>by simp;omega,?_⟩⟩;apply ei;refine go ?_;exact⟨⟨(i+1,m.F.map enc,g9,m.F[g9]),aG,rU ls,by rw[<-O,ly];simp only[yX,aq];rw[auN auD,show((g9:Nat):Int).toNat=g9 from rfl,auR ls],by show aB m.F[g9]<_;omega⟩,by show _-(i+1)<_-i;omega,an,ak⟩;refine go ?_;refine ap.of_eq ?_;(have cr:i=(cO 47 [] s).length:=by simp[aQ]at hc;omega);rw[auN aZ,<-O,cr,List.drop_length];rfl
theorem Xf(aX:dk B)(s:auM)(hs:s.length<1000000000)(n:U)(ar:ev n)(X:valid n=true):aT B 17 [az n,.N s] (.bm [az (dr n s).1,u (dr n s).2]):=by refine bB Tryz.func17 Tryz.ntmps17 λW=>?_;have bn:=ar;unfold ev at bn;refine go ?_;intro ca;refine go ?_;intro cJ;refine go ?_;refine bq (An aX n auD) ?_;refine aI _ rfl ?_ ?_<;>intro hc;refine go ?_;exfalso;rw[X]at hc;cases hc;apply ci;apply eh;refine Y.BP 2 2 (az n) rfl rfl rfl rfl ?_;(have vY:∃d,aT B 52 [.a7 12 [az n] 0 0,.N s] d/\((d=.am (.pointer none)/\dr n s=(q9,6))\/∃m bl i,d=.a7 12 bl i 0/\bl[i]?=some (az m)/\dr n s=(m,0)/\aB m<=aB n):=by refine⟨_,aje aX s hs [az n] 0 n rfl auD,?_⟩;by_cases h0:s=[];rw[auO h0];exact .inr ⟨n,_,_,rfl,rfl,by rw[dr,auO h0],auW _⟩;rw[auN h0,dr,auN h0];rcases Xe (cO 47 [] s) [az n] 0 n rfl with⟨h1,A⟩|⟨m,bl,i,h1,A,aa⟩;rw[h1,A];exact .inl ⟨rfl,rfl⟩;rw[h1,A];exact .inr ⟨m,bl,i,rfl,aa,rfl,OL _ _ _ h1⟩);obtain⟨d,k_,⟨rfl,eJ⟩|⟨m,bl,i,rfl,hi,eJ,AM⟩⟩:=vY;refine lZ ?_;refine⟨[.a7 12 [az n] 0 0,.N s],_,λ_=>k_,an,?_⟩;apply n0;refine tW ?_;(conv=>whnf);refine⟨rfl,ak,.inr (ah.adA rfl rfl ?_)⟩;refine Y.cond true rfl (λhc=>?_) (λhc=>by cases hc);refine go ?_;rw[eJ];exact⟨FU,E,ak⟩;refine lZ ?_;refine⟨[.a7 12 [az n] 0 0,.N s],_,λ_=>k_,an,?_⟩;apply n0;refine tW ?_;(conv=>whnf);refine⟨rfl,ak,.inr (ah.adz rfl rfl ?_)⟩;refine Y.cond false rfl (λhc=>by cases hc) (λhc=>?_);apply ci;refine np ?_;(conv=>whnf);refine⟨rfl,ak,.inr (ah.Ml rfl ?_)⟩;(conv=>whnf);refine⟨rfl,ak,.inl ⟨az m,λ_=>hi,?_⟩⟩;(conv=>whnf);refine⟨rfl,ak,.inl ⟨[az m],_,λ_=>ai8 _ m (avt _) auD,an,?_⟩⟩;(conv=>whnf);refine⟨rfl,ak,.inl ⟨rfl,?_⟩⟩;apply ei;refine go ?_;rw[eJ];exact⟨ap.of_eq rfl,E,ak⟩
section
variable(aU:List U->List auM)(v:Int)
end
end Go.bV.ct


namespace Go.bV.ct
open Go Go.Proofs
variable{B:World}
def vZ(v:Int)(ae:List U)(m:auM):auM:=(((ae.map U.name).zip (cd v ae)).lookup m).getD []
def v1(v:Int)(F:List U):List auM:=F.map λk=>vZ v (kg F) k.name
def AN(F:List U):Bool:=F.all λk=>dS k.name
def jV(v:Int)(F:List U):List auM×Int :=
 if ka v=false then([],2)else if 64<F.length then([],7)else if AN F=false then([],4)else if¬(F.map U.name).Nodup then([],5)else(v1 v F,0)
theorem Xg:∀{a:List auM} {b:List auM} {i:Nat} (ar:a.Nodup) (h:i<a.length) (bt:i<b.length),(a.zip b).lookup a[i]=some b[i]
 |x::a,y::b,0,_,_,_=>by simp[List.lookup]
 |x::a,y::b,i+1,ar,h,bt=>by rw[awO]at ar;have aV:=Xg (a:=a) (b:=b) (i:=i) ar.2 (by simpa using h) (by simpa using bt);(have aZ:((a[i]'(by simpa using h))==x)=false:=by rw[avv];intro e;exact ar.1 (e ▸ auT _));simp only[List.zip_cons_cons,av8,List.lookup,aZ];exact aV
variable{ae:List U}{t:Nat}
theorem Xh{v:Int}(ar:(ae.map U.name).Nodup)(h:t<ae.length):vZ v ae ae[t].name=(cd v ae)[t]'(by rw[om];exact h):=by have:=Xg (a:=ae.map U.name) (b:=cd v ae) (i:=t) ar (by simpa using h) (by rw[om];exact h);rw[axf]at this;rw[vZ,this];rfl
theorem CQ(h:f3 ae):(ae.map U.name).Nodup:=by rw[avD,awk];exact avU.2 λi j hi ad d6=>q2 (pI h d6 ad)
theorem ajg{v:Int}(h:f3 ae):v1 v ae=cd v ae:=by rw[v1,ah' h];apply av1 (by simp[om]);intro i h1 A;rw[axf,Xh (CQ h)]
theorem ON:∀{L:List Nat} {t:Nat} (ar:L.Nodup) (ax:t<L.length),L.idxOf L[t]=t
 |x::r,0,_,_=>by simp
 |x::r,t+1,ar,ax=>by rw[awO]at ar;(have Xi:t<r.length:=by simpa using ax);have aZ:¬(x==r[t])=true:=λe=>ar.1 (by rw[awm]at e;rw[e];exact auT Xi);rw[av8,List.idxOf_cons,Bool.cond_eq_ite,auN aZ,ON ar.2 Xi]
structure nG (F:List U) (L:List Nat):Prop where
 F6:L.Perm (List.range F.length)
 ajh:∀(i j:Nat) (hi:i<L.length) (ad:j<L.length),i<j->Op.bytesLess (F.getD L[j] default).name (F.getD L[i] default).name=false
def kI(F:List U)(L:List Nat):List U:=L.map λi=>F.getD i default
variable{j:Nat}{g:Nat->auM}
section
variable{F:List U}{L:List Nat}
theorem nG.len(h:nG F L):L.length=F.length:=by rw[h.F6.length_eq];simp
theorem nG.lt(h:nG F L)(ax:t<L.length):L[t]<F.length:=awa.1 (h.F6.subset (auT ax))
theorem nG.nodup(h:nG F L):L.Nodup:=h.F6.nodup_iff.2 List.nodup_range
theorem nG.mem(h:nG F L)(ad:j<F.length):j∈L:=h.F6.symm.subset (awa.2 ad)
theorem OO(h:nG F L):(kI F L).Perm F:=by have h1:=h.F6.map λi=>F.getD i default;(have A:(List.range F.length).map (λi=>F.getD i default)=F:=by apply av1 auF;intro i h1 A;simp at h1;simp[List.getD,h1]);rw[A]at h1;exact h1
theorem Xj(h:nG F L):(kI F L).length=F.length:=(OO h).length_eq
theorem OP(h:nG F L)(ax:t<L.length):(kI F L)[t]'(by simp[kI];exact ax)=F[L[t]]'(h.lt ax):=by simp[kI,List.getD,h.lt ax]
theorem aji(h:nG F L)(ar:∀t,(h1:t+1<L.length)->(F.getD L[t] default).name≠(F.getD L[t+1] default).name):f3 (kI F L):=λi hi=>by
 have ls:i+1<L.length:=by rw[h.len,<-Xj h];exact hi
 have h1:=h.ajh i (i+1) auD ls auD;have A:=ar i ls;have e:∀t,(ax:t<L.length)->((kI F L).getD t default)=F.getD L[t] default:=λt ax=>by simp[kI,List.getD,ax]
 rw[e i auD,e (i+1) ls]
 cases aa:Op.bytesLess (F.getD L[i] default).name (F.getD L[i+1] default).name with
 |true=>rfl
 |false=>exact absurd (w6 _ _ aa h1) A
theorem ajj(h:nG F L)(hi:f3 (kI F L)):kg F=kI F L:=by refine NJ hi ((AH F).trans (OO h).symm) λi j hi ad d6=>avU.1 (Oe F) i j hi ad d6
theorem ajk(h:nG F L)(hi:f3 (kI F L)):(F.map U.name).Nodup:=((OO h).map U.name).nodup_iff.1 (CQ hi)
theorem ajl(h:nG F L){s:Nat}(hs:s<t)(ax:t<L.length)(e:(F.getD L[s] default).name=(F.getD L[t] default).name):¬(F.map U.name).Nodup:=λar=>by
 have h1:=h.lt (t:=s) auD;have A:=h.lt ax
 have aZ:L[s]≠L[t]:=λe=>by
  have:=(avU.1 (avD.1 h.nodup)) s t auD ax hs;exact this e
 rw[avD,awk]at ar;have aw:=avU.1 ar;simp only[List.getD,auR h1,auR A,avG]at e;rcases awX L[s] L[t]with l|l|l
 ·exact aw _ _ h1 A l e
 ·exact aZ l
 exact aw _ _ A h1 l e.symm
def pM(n:Nat)(L:List Nat)(g:Nat->auM)(t:Nat):List D:=(List.range n).map λj=>if j∈L.take t then .N (g j)else .N []
theorem ajm{n:Nat}:(pM n L g t).length=n:=by simp[pM]
theorem ajn{n:Nat}:pM n L g 0=List.replicate n (.N []):=by apply av1 (by simp[pM]);intro i h1 A;simp[pM]
theorem ajo{n:Nat}(ax:t<L.length)(aj:L[t]<n):(pM n L g t).set L[t] (.N (g L[t]))=pM n L g (t+1):=by apply av1 (by simp[pM]);intro i h1 A;rw[axX];simp only[pM,axf,axo,auU ax,avf,avs];by_cases e:L[t]=i;subst e;simp;have nR:¬i=L[t]:=λh=>e h.symm;rw[auN e];simp[nR]
theorem ajp{v:Int}(h:nG F L)(aS:∀j,(ad:j<F.length)->g j=vZ v (kg F) F[j].name):pM F.length L g L.length=aQ (v1 v F):=by
 apply av1 (by simp[pM,aQ,v1]);intro i h1 A;have hi:i<F.length:=by simpa[pM]using h1
 simp only[pM,aQ,v1,axf,axo,au2];rw[auO (h.mem hi),aS i hi]
def ta(v:Int)(F:List U)(L:List Nat)(j:Nat):auM:=(cd v (kI F L)).getD (L.idxOf j) []
theorem ajq(h:nG F L){v:Int}(ax:t<L.length):ta v F L L[t]=o1 v (g5 v ((kI F L).take t)) (F[L[t]]'(h.lt ax)):=by(have hlen:t<(kI F L).length:=by simp[kI];exact ax);rw[ta,ON h.nodup ax];(have h1:t<(cd v (kI F L)).length:=by rw[om];exact hlen);rw[List.getD,auR h1,avG,<-OP h ax];(have key:∀(ae:List U) (t:Nat) (ax:t<ae.length),(cd v ae)[t]'(by rw[om];exact ax)=o1 v (g5 v (ae.take t)) ae[t]:=by intro ae t ax;(have e:∀ae:List U,∀m,m<=ae.length->(g5 v ae).reverse.take m=(g5 v (ae.take m)).reverse:=ayb);have A:=e ae (t+1) auD;(have aa:(cd v ae)[t]?=((cd v ae).take (t+1))[t]?:=by rw[avE,auO auD]);have aF:(cd v ae).take (t+1)=(g5 v (ae.take (t+1))).reverse:=A;rw[aF,OF ax,awM,avl (by simp[s_];omega)]at aa;(have a8:(g5 v (ae.take t)).reverse.length=t:=by simp[s_];omega);rw[a8,axt]at aa;rw[auR (by rw[om];exact ax)]at aa;simpa using aa);exact key _ t hlen
theorem ajr(h:nG F L){v:Int}(hi:f3 (kI F L))(ad:j<F.length):ta v F L j=vZ v (kg F) F[j].name:=by
 obtain⟨t,ax,rfl⟩:=avm.1 (h.mem ad);have hlen:t<(kI F L).length:=by simp[kI];exact ax
 rw[ajj h hi,<-OP h ax,Xh (CQ hi) hlen,ta,ON h.nodup ax,List.getD,auR (by rw[om];exact hlen),avG]
end
theorem ajs(F:List U)(hlen:F.length<1000000)(d_:Nat)(v:Value): c4 B 253 [.am v,.fn (.func 254) [] [.box 2000 d_ 0]] (aM [(2001,.row v (eA F.length) 1 3),(2000,.box d_ [.T .none 12 (F.map enc)])]) λd aO => d=.bm []/\∃L:List Nat,nG F L/\aO=aM [(2001,.row v (L.map encI) 1 3),(2000,.box d_ [.T .none 12 (F.map enc)])]:=by by_cases h0:0<F.length;have hc:=U9 (B:=B) F h0 hlen d_ v (List.finRange F.length) (by simpa using h0) (by simpa using hlen);rw[NK]at hc;refine hc.mono ?_;rintro d aO ⟨rfl,kV,aw,hs,rfl⟩;refine⟨rfl,kV.map (λx=>x.1),⟨?_,λi j hi ad d6=>?_⟩,by rw[avR];rfl⟩;have:=aw.map (λx:Fin F.length=>x.1);(have e:(List.finRange F.length).map (λx:Fin F.length=>x.1)=List.range F.length:=by apply av1 auF;intro i h1 A;simp);rwa [e]at this;simp only[auS]at hi ad;have:=hs i j hi ad d6;simpa[List.getD]using this;have ar:F=[]:=au1 auD;subst ar;refine(U8 v _ _).mono ?_;rintro d aO ⟨rfl,rfl⟩;exact⟨rfl,[],⟨E,λi j hi=>by simp at hi⟩,rfl⟩
variable{r:Int}
theorem ajt(h:et r=true)(hi:(47:UInt8)∈(Utf8.encode r).data.toList):r=47:=by obtain⟨h1,A,aa⟩:=(sd r).1 h;obtain⟨n,rfl⟩:∃n:Nat,r=n:=⟨r.toNat,by omega⟩;(have gk:∀x:Nat,x<256->(UInt8.ofNat x).toNat=x:=λx J=>by rw[aw6];omega);have asU:(47:UInt8).toNat=47:=rfl;(have aZ:∀x:Nat,x<256->128<=x->(47:UInt8)≠UInt8.ofNat x:=λx J On e=>by have:=auP UInt8.toNat e;rw[gk x J]at this;omega);(have X:Utf8.valid (n:Int)=true:=by simp[Utf8.valid];omega);by_cases mX:n<128;(have e:(Utf8.encode (n:Int)).data.toList=[UInt8.ofNat n]:=by unfold Utf8.encode;simp only[X,avV,avq];rw[auO mX]);rw[e,avs]at hi;have:=auP UInt8.toNat hi;rw[gk n auD]at this;omega;exfalso;by_cases A:n<2048;(have e:(Utf8.encode (n:Int)).data.toList=[UInt8.ofNat (192+n/64),UInt8.ofNat (128+n%64)]:=by unfold Utf8.encode;simp only[X,avV,avq];rw[auN mX,auO A]);rw[e]at hi;simp only[au8,axe,axy]at hi;rcases hi with hi|hi;exact aZ (192+n/64) auD auD hi;exact aZ (128+n%64) auD auD hi;(have e:(Utf8.encode (n:Int)).data.toList=[UInt8.ofNat (224+n/4096),UInt8.ofNat (128+n/64%64),UInt8.ofNat (128+n%64)]:=ayR);rw[e]at hi;simp only[au8,axe,axy]at hi;rcases hi with hi|hi|hi;exact aZ (224+n/4096) auD auD hi;exact aZ (128+n/64%64) auD auD hi;exact aZ (128+n%64) auD auD hi
theorem aju{l:List Int}(h:∀r∈l,et r=true)(hm:(47:UInt8)∈cy l):(47:Int)∈l:=by induction l with|nil=>simp[cy]at hm|cons r l aV =>(have e:cy (r::l)=(Utf8.encode r).data.toList++cy l:=by simp[cy]);rw[e,avf]at hm;rcases hm with hm|hm;rw[ajt (h r auY) hm];exact auY;exact auZ _ (aV (λx J=>h x (auZ _ J)) hm)
theorem ajv{l:List Int}(h:∀r∈l,et r=true)(h1:1<=l.length)(A:l.length<=64)(aa:(47:Int)∉l)(aF:l≠[46])(a8:l≠[46,46]):dS (cy l)=true:=by have hc:=yN l h;have hlen:=OB l;(have O:ju [46]=some [46]:=by decide +kernel);(have yY:ju [46,46]=some [46,46]:=by decide +kernel);unfold dS;rw[auN];(have k6:chars (cy l)=(l,0):=by unfold chars;rw[auN auD,hc]);rw[k6];simp[h1,A];rintro(e|e|e);rw[e,O]at hc;simp at hc;exact aF hc.symm;rw[e,yY]at hc;simp at hc;exact a8 hc.symm;exact aa (aju h e)
theorem ajw(r:Int):lH r≠47:=by unfold lH;split;decide;rename_i h;intro e;subst e;exact h auG
theorem Xk(r:Int):h8 r≠47/\h8 r≠46:=by unfold h8;split;constructor<;>omega;split;rename_i h;constructor<;>(intro e;subst e;exact absurd h.2 auG);constructor<;>decide
theorem Xl(v r:Int):e7 v r≠47:=by unfold e7;split;exact(Xk r).1;exact ajw r
variable{k:Nat}
theorem OQ(Z:k<100):∀r∈iO k,48<=r/\r<=57:=by revert k;(have:∀k:Fin 100,∀r∈iO k.1,48<=r/\r<=57:=by decide +kernel);intro k Z;exact this ⟨k,Z⟩
theorem ajx(Z:k<100)(h0:0<k):1<=(iO k).length:=by revert k;(have:∀k:Fin 100,0<k.1->1<=(iO k.1).length:=by decide +kernel);intro k Z h0;exact this ⟨k,Z⟩ h0
theorem OR:∀l:List Int,kH l<l.length/\-1<=kH l
 |[]=>by simp[kH]
 |x::r=>by have:=OR r;simp only[kH,auX];split;omega;split<;>omega
variable{s:auM}
theorem ajy{v:Int}(X:v=0\/v=1)(hs:dS s=true)(bc:Bool)(Z:k<100):dS (ki v (fV v s bc).1 (fV v s bc).2 k)=true:=by obtain⟨l,hc,_,_,kA,nw⟩:=I_ hs;obtain⟨G,k6⟩:=CM s.length s l (auW _) hc;obtain⟨vT,vU,yO⟩:=Ov v hc bc;(have ajz:l≠[46]:=λe=>by subst e;(have:s=[46]:=by rw[<-G];decide +kernel);rw[this]at hs;revert hs;decide +kernel);(have ajA:l≠[46,46]:=λe=>by subst e;(have:s=[46,46]:=by rw[<-G];decide +kernel);rw[this]at hs;revert hs;decide +kernel);obtain⟨Jm,Jn⟩:=Ow (v:=v) (bc:=bc) k6;(have OS:1<=(g2 v l bc).1.length/\(g2 v l bc).1.length<=64/\(v=1->(g2 v l bc).2.length<=16)/\((g2 v l bc).2=[]->v=1->(g2 v l bc).1=l):=by have O:=OR l;unfold g2;split;rename_i h;refine⟨by simp;omega,by simp;omega,λh1=>?_,λA=>?_⟩;rcases h.2.2.2 with aa|aa;omega;simp;omega;intro _;rw[List.drop_eq_nil_iff]at A;omega;split;rename_i h;exact⟨by simp;omega,by simp;omega,λ_=>by simp,λ_ h1=>absurd h.2.1 auD⟩;exact⟨kA,nw,λ_=>by simp,λ_ _=>rfl⟩);(have cz:fV v s bc=((g2 v l bc).1.map (e7 v),if(g2 v l bc).2=[]then[]else 46::((g2 v l bc).2.map (e7 v)).take (kh v)):=ayy);rw[cz];generalize(g2 v l bc).1=a at*;generalize(g2 v l bc).2=b at*;dsimp only;obtain⟨HB,CR,OT,oN⟩:=OS;(have m8:∀r∈a.map (e7 v),et r=true/\r≠47:=λr af=>by obtain⟨x,J,rfl⟩:=au_.1 af;exact⟨Je (Jm x J),Xl v x⟩);generalize mV:(if b=[]then[]else 46::(b.map (e7 v)).take (kh v))=cn;(have ajB:(∀r∈cn,et r=true/\r≠47)/\(cn=[]\/2<=cn.length)/\(v=0->cn.length<=4)/\(v=1->cn.length<=17)/\(cn=[]->b=[]):=by rw[<-mV];by_cases h:b=[];rw[auO h];exact⟨λr af=>by(cases af),.inl rfl,λ_=>by(simp),λ_=>by(simp),λ_=>h⟩;rw[auN h];(have fg:1<=b.length:=by cases b with|nil=>exact absurd rfl h|cons x r=>simp);refine⟨λr af=>?_,.inr ?_,λh0=>?_,λh1=>?_,λe=>by cases e⟩;rcases au8.1 af with rfl|af;exact⟨by decide,by decide⟩;obtain⟨x,J,rfl⟩:=au_.1 (avO af);exact⟨Je (Jn x J),Xl v x⟩;(have:1<=kh v:=by unfold kh;split<;>omega);simp;omega;(have:kh v=3:=by unfold kh;rw[auO h0]);simp;omega;have:=OT h1;simp;omega);obtain⟨CC,FB,ajC,ajD,ajE⟩:=ajB;have gU:=OQ Z;have Jo:=FX Z;(have a1:jx v (a.map (e7 v)) cn k<=a.length/\1<=jx v (a.map (e7 v)) cn k/\jx v (a.map (e7 v)) cn k+(iO k).length+cn.length<=64/\(v=1->k=0->cn=[]->jx v (a.map (e7 v)) cn k=a.length):=by unfold jx ol;rw[auS];rcases X with rfl|rfl;have:=ajC rfl;rw[show((0:Int)==1)=false from rfl,avZ];refine⟨by split<;>split<;>omega,by split<;>split<;>omega,by split<;>split<;>omega,λh=>by omega⟩;have:=ajD rfl;rw[show((1:Int)==1)=true from rfl,awo];refine⟨by split<;>split<;>omega,by split<;>split<;>omega,by split<;>split<;>omega,λ_ h0 h1=>?_⟩;subst h0 h1;have:(iO 0).length=0:=rfl;rw[this];simp only[avh];split<;>split<;>omega);obtain⟨iJ,kz,qj,Wv⟩:=a1;rw[ki];(have i7:((a.map (e7 v)).take (jx v (a.map (e7 v)) cn k)).length=jx v (a.map (e7 v)) cn k:=by simp;omega);generalize hN:jx v (a.map (e7 v)) cn k=bA at*;(have hL:∀r∈(a.map (e7 v)).take bA++iO k++cn,et r=true/\r≠47:=λr af=>by rcases avf.1 af with af|af;rcases avf.1 af with af|af;exact m8 r (avO af);have:=gU r af;exact⟨(sd r).2 auD,by omega⟩;exact CC r af);(have hlen:((a.map (e7 v)).take bA++iO k++cn).length=bA+(iO k).length+cn.length:=by rw[auV,auV,i7]);(have HY:∀m:Nat,1<=m->m<=2->(a.map (e7 v)).take bA++iO k++cn=List.replicate m 46->l=List.replicate m 46:=λm mt sY e=>by have fr:=auP List.length e;rw[hlen,ax0]at fr;(have rL:cn=[]:=by rcases FB with h|h;exact h;omega);have ajF:=ajE rL;(have jN:k=0:=by rcases avA k with h|h;exact h;exfalso;have h1:=ajx Z h;(obtain⟨x,J⟩:∃x,x∈iO k:=by cases Xm:iO k with|nil=>rw[Xm]at h1;simp at h1|cons x r=>exact⟨x,auY⟩);have A:=gU x J;(have aa:x∈List.replicate m (46:Int):=by rw[<-e];simp[J]);have:=(List.mem_replicate.1 aa).2;omega);subst jN rL;have hsz:(iO 0)=[]:=rfl;rw[hsz,avC,avC]at e;rcases X with rfl|rfl;exfalso;(cases a with|nil=>simp at HB|cons x r =>obtain⟨Xn,rfl⟩:∃Xn,bA=Xn+1:=⟨bA-1,by omega⟩;(have aa:e7 0 x∈List.replicate m (46:Int):=by rw[<-e];simp);have aF:=(List.mem_replicate.1 aa).2;exact(Xk x).2 (by simpa[e7]using aF));have ajG:=Wv rfl rfl rfl;rw[ajG,ave auF]at e;have pv:a=l:=oN ajF rfl;subst pv;(have x5:∀x∈a,x=46:=λx J=>by(have aa:e7 1 x∈List.replicate m (46:Int):=by rw[<-e];exact au_.2 ⟨x,J,rfl⟩);have aF:=(List.mem_replicate.1 aa).2;(have a8:lH x=46:=by simpa[e7]using aF);unfold lH at a8;split at a8;omega;exact a8);refine List.eq_replicate_iff.2 ⟨?_,x5⟩;have:=auP List.length e;simpa using this);refine ajv (λr af=>(hL r af).1) (by rw[hlen];omega) (by rw[hlen];omega) (λhm=>(hL 47 hm).2 rfl) (λe=>?_) (λe=>?_);exact ajz (HY 1 auD auD e);exact ajA (HY 2 auD auD e)
variable{gq:List auM}
theorem ajH{v:Int}(X:ka v=true){k:U}(Z:dS k.name=true)(gk:gq.length<=64):dS (o1 v gq k)=true:=by unfold o1;split;rename_i h;exact ajy h Z (k.kind==0) (CN v gq _ _ gk).1;exact Z
theorem ajI{v:Int}(X:ka v=true)(ae:List U):ae.length<=64->(∀k∈ae,dS k.name=true)->∀m∈g5 v ae,dS m=true:=by refine xl (p:=λae=>ae.length<=64->(∀k∈ae,dS k.name=true)->∀m∈g5 v ae,dS m=true) (λ_ _ m hm=>by simp[g5]at hm) (λl x aV aj h m hm=>?_) ae;simp at aj;rw[xm]at hm;rcases au8.1 hm with rfl|hm;exact ajH X (h x auF) (by rw[s_];omega);exact aV auD (λk Z=>h k (by simp[Z])) m hm
theorem Xo{v:Int}(X:ka v=true)(hF:ae.length<=64)(h:∀k∈ae,dS k.name=true):∀m∈cd v ae,dS m=true:=λm hm=>ajI X ae hF h m (List.mem_reverse.1 hm)
theorem ajJ(v:Int){l:List Int}(h:∀r∈l,et r=true)(bc:Bool): fV v (cy l) bc=((g2 v l bc).1.map (e7 v),if(g2 v l bc).2=[]then[]else 46::((g2 v l bc).2.map (e7 v)).take (kh v)):=by obtain⟨vT,vU,yO⟩:=Ov v (yN l h) bc;exact ayy
def ajK(l:List Int):Prop:=(∀r∈l,et r=true/\lH r=r)/\l.length<=64
structure ajL (bc:Bool) (l:List Int) (a b:List Int):Prop where
 gn:1<=a.length
 zZ:a.length<=8
 el:b.length<=3
 bq:∀r∈a,et r=true/\h8 r=r
 cb:∀r∈b,et r=true/\h8 r=r
 bc:bc=true->b=[]
 eq:l=if b=[]then a else a++46::b
theorem Xp(h:et r=true):h8 (h8 r)=h8 r:=by obtain⟨h1,_,_⟩:=(sd r).1 h;by_cases A:97<=r/\r<=122;(have e:h8 r=r-97+65:=by rw[h8,auO A]);rw[e,h8,auN auD,auO ⟨by omega,by simp[uu];omega⟩];by_cases aa:r<128/\uu r=true;(have e:h8 r=r:=by rw[h8,auN A,auO aa]);rw[e,e];(have e:h8 r=95:=by rw[h8,auN A,auN aa]);rw[e];decide
theorem ajM(r:Int):lH (lH r)=lH r:=by by_cases h:yL r=true;(have e:lH r=95:=by rw[lH,auO h]);rw[e];decide;(have e:lH r=r:=by rw[lH,auN h]);rw[e,e]
theorem Xq(h:48<=r/\r<=57):et r=true/\h8 r=r/\lH r=r:=by refine⟨(sd r).2 auD,?_,?_⟩;rw[h8,auN auD,auO ⟨by omega,by simp[uu];omega⟩];rw[lH,auN];simp[yL];omega
theorem ajN{v:Int}(X:v=0\/v=1)(hs:dS s=true)(bc:Bool)(Z:k<100):
  ∃l,ki v (fV v s bc).1 (fV v s bc).2 k=cy l/\(v=0->∃a b,ajL bc l a b)/\ajK l:=by
 obtain⟨l,hc,_,_,kA,nw⟩:=I_ hs;obtain⟨G,k6⟩:=CM s.length s l (auW _) hc;obtain⟨Jm,Jn⟩:=Ow (v:=v) (bc:=bc) k6;have cz:=ajJ v k6 bc;rw[G]at cz
 have OS:1<=(g2 v l bc).1.length/\(v=1->(g2 v l bc).2.length<=16)/\(bc=true->(g2 v l bc).2=[]):=by
  have O:=OR l;unfold g2;split
  ·rename_i h;refine⟨by simp;omega,λh1=>?_,λA=>?_⟩
   ·rcases h.2.2.2 with aa|aa
    ·omega
    simp;omega
   rw[h.1]at A;cases A
  split
  ·rename_i h;exact⟨by simp;omega,λ_=>by simp,λ_=>rfl⟩
  exact⟨kA,λ_=>by simp,λ_=>rfl⟩
 rw[cz];generalize(g2 v l bc).1=a at*;generalize(g2 v l bc).2=b at*;obtain⟨HB,OT,vS⟩:=OS;dsimp only;refine⟨_,rfl,λh0=>?_,?_⟩
 ·subst h0;have gU:=OQ Z;have Jo:=FX Z
  have a1:jx 0 (a.map (e7 0)) (if b=[]then[]else 46::(b.map (e7 0)).take (kh 0)) k+(iO k).length<=8/\1<=jx 0 (a.map (e7 0)) (if b=[]then[]else 46::(b.map (e7 0)).take (kh 0)) k:=by
   unfold jx ol;rw[auS,show((0:Int)==1)=false from rfl,avZ];refine⟨by split<;>split<;>omega,by split<;>split<;>omega⟩
  generalize jx 0 (a.map (e7 0)) (if b=[]then[]else 46::(b.map (e7 0)).take (kh 0)) k=bA at*;have ajO:kh 0=3:=by decide
  rw[ajO]
  have F7:∀x:List Int,(∀r∈x,et r=true)->∀r∈x.map (e7 0),et r=true/\h8 r=r:=λx J r af=>by
   obtain⟨y,hy,rfl⟩:=au_.1 af;have e:e7 0 y=h8 y:=by simp[e7]
   rw[e];exact⟨by have:=Je (v:=0) (J y hy);rwa [e]at this,Xp (J y hy)⟩
  refine⟨(a.map (e7 0)).take bA++iO k,(b.map (e7 0)).take 3,?_⟩;refine⟨by simp;omega,by simp;omega,by simp;omega,λr af=>?_,λr af=>F7 b Jn r (avO af),λO=>by rw[vS O];rfl,?_⟩
  ·rcases avf.1 af with af|af
   ·exact F7 a Jm r (avO af)
   have:=Xq (gU r af);exact⟨this.1,this.2.1⟩
  by_cases oN:b=[]
  ·subst oN;simp
  have Ce:¬(b.map (e7 0)).take 3=[]:=by
   cases b with
   |nil=>exact absurd rfl oN
   |cons x r=>simp
  rw[auN oN,auN Ce]
 have gU:=OQ Z;have Jo:=FX Z
 have F7:∀x:List Int,(∀r∈x,et r=true)->∀r∈x.map (e7 v),et r=true/\lH r=r:=λx J r af=>by
  obtain⟨y,hy,rfl⟩:=au_.1 af;refine⟨Je (J y hy),?_⟩;unfold e7;split
  ·
   have h1:=Xp (J y hy);rw[lH,auN];intro nm;generalize h8 y=Q at*;have bn:Q=42\/Q=47\/Q=58\/Q=59\/Q=63\/Q=92:=by simp[yL]at nm;omega
   rcases bn with rfl|rfl|rfl|rfl|rfl|rfl<;>revert h1<;>decide
  exact ajM y
 have rL:∀r∈(if b=[]then[]else 46::(b.map (e7 v)).take (kh v)),et r=true/\lH r=r:=λr af=>by
  split at af
  ·cases af
  rcases au8.1 af with rfl|af
  ·exact⟨by decide,by decide⟩
  exact F7 b Jn r (avO af)
 have ajP:(if b=[]then[]else 46::(b.map (e7 v)).take (kh v)).length<=17/\(v=0->(if b=[]then[]else 46::(b.map (e7 v)).take (kh v)).length<=4):=by
  split
  ·simp
  refine⟨?_,λh0=>?_⟩
  ·rcases X with h0|h1
   ·have:kh v=3:=by unfold kh;rw[auO h0]
    simp;omega
   have:=OT h1;simp;omega
  have:kh v=3:=by unfold kh;rw[auO h0]
  simp;omega
 generalize(if b=[]then[]else 46::(b.map (e7 v)).take (kh v))=cn at*
 have a1:jx v (a.map (e7 v)) cn k+(iO k).length+cn.length<=64:=by
  unfold jx ol;rw[auS];rcases X with rfl|rfl
  ·have:=ajP.2 rfl;rw[show((0:Int)==1)=false from rfl,avZ];split<;>split<;>omega
  rw[show((1:Int)==1)=true from rfl,awo];split<;>split<;>omega
 refine⟨λr af=>?_,by simp;omega⟩;rcases avf.1 af with af|af
 ·rcases avf.1 af with af|af
  ·exact F7 a Jm r (avO af)
  have:=Xq (gU r af);exact⟨this.1,this.2.2⟩
 exact rL r af
theorem F8{f:Nat->Int}:∀{k i:Nat},(∀j,i<=j->j<i+k->f j=0)->hh f i k=0
 |0,i,_=>rfl
 |k+1,i,h=>by simp only[hh];rw[auO (h i (auW _) auD)];exact F8 λj h1 A=>h j auD auD
theorem Xr{n:U}{l:Int}(h:Oh n l)(aj:1<=l):one n l=0:=by refine F8 λi _ hi=>?_;have Z:=h.I5;match i,hi with|0,_ =>(have:t8 n l=false:=by simp only[t8,awe,awg,awj,avv,awB,awm];refine⟨⟨by omega,by omega⟩,?_⟩;by_cases h1:l=1;exact .inr (h.CL h1);exact .inl h1);simp[eV,vC,this]|1,_ =>(have:t_ n l=false:=by simp only[t_,awe,awg,awj,avv,awB,awm];by_cases h1:l=1;exact⟨.inr (h.FR h1),.inl auD⟩;exact⟨.inl h1,.inr (h.I6 auD)⟩);simp[eV,vD,this]|2,_ =>(have:t' n=false:=by simp only[t',awe,awg,awj,avv,awB,awm];refine⟨⟨?_,?_⟩,?_⟩;by_cases h1:n.kind=1;exact .inl h1;have:=h.file h1;exact .inr ⟨this.1,by rw[this.2];simp⟩;by_cases h1:n.kind=2;exact .inl h1;exact .inr (h.I7 h1);by_cases h1:n.kind=0;exact .inl h1;exact .inr (by rw[h.bc h1];simp));simp[eV,vE,this]|3,_ =>(have:ua n=false:=by simp only[ua,awg,avv,awB];by_cases h1:n.kind=2;exact .inr (h.target h1);exact .inl h1);simp[eV,vF,this]|4,_ =>have h1:=h.cu;have A:=h.n2;have aa:=h.n3;have aF:=h.n4;have a8:=h.n5;have cN:=h.n6;(have:r5 n=false:=by simp only[r5,s0,awe,awB,auQ,avp];exact⟨⟨⟨⟨⟨h1,A⟩,aa⟩,aF⟩,a8⟩,cN⟩);simp[eV,vG,this]|5,_ =>have h1:=h.bT;have A:=h.size;have aa:=h.AI;have aF:=h.FS;(have hc:r6 n l=false:=by simp only[r6,awe,awj];exact⟨⟨⟨by omega,by omega⟩,by omega⟩,by omega⟩);simp only[eV,nz,hc];rw[auN auF];refine F8 λj _ ad=>?_;have:=(h.bD j auD).1;simp[pD];omega|6,_ =>simp only[eV,Cp];exact F8 λj _ ad=>(h.bD j auD).2|7,_ =>simp only[eV,yx];refine F8 λj h1 ad=>?_;have bg:=h.f3 (j-1) auD;(have e:j-1+1=j:=by omega);rw[e]at bg;have BM:Op.bytesLess (qf n (j-1)).name (qf n j).name=true:=bg;simp only[r7,qe];rw[auN (q2 BM),auN (by rw[Fe BM];simp)]
mutual
theorem OU(aU:List U->List auM)(v:Int):∀(n:U) (d:Int),fd (it aU v d n)<=fd n
 |.mk a b c t e f g h i j ae ch,d=>by
  have h1:=Xs aU v ae (aU ae) (d+1);have A:eQ (kg (fy aU v (d+1) ae (aU ae)))=eQ (fy aU v (d+1) ae (aU ae)):=ajQ (AH _);simp only[it,fd];omega
theorem Xs(aU:List U->List auM)(v:Int):∀(l:List U) (cm:List auM) (d:Int),eQ (fy aU v d l cm)<=eQ l
 |[],cm,d=>by simp[fy]
 |k::r,[],d=>by simp[fy,eQ]
 |k::r,m::cm,d=>by
  have h1:=OU aU v k d;have A:=Xs aU v r cm d;have aa:fd ((it aU v d k).named m)=fd (it aU v d k):=by rw[EK,EK];rfl
  simp only[fy];split
  ·simp only[eQ];omega
  simp only[eQ];omega
theorem ajQ{a b:List U}(h:a.Perm b):eQ a=eQ b:=by
 induction h with
 |nil=>rfl
 |cons x _ aV=>simp only[eQ,aV]
 |swap x y l=>simp only[eQ];omega
 |trans _ _ h1 A=>exact h1.trans A
end
mutual
theorem Xt{v:Int}(X:ka v=true):∀(n:U) (l:Int) (m:auM),1<=l->gB n l=true->(l=1->m=[])->(1<l->dS m=true)->gB ((it (cd v) v l n).named m) l=true
 |.mk a b c t e f g h i j ae ch,l,m,aj,aS,mt,sY=>by
  obtain⟨cw,aX⟩:=vR aS;have cD:=Oj _ l aj aS;simp only[gZ]at cD;have w4:=Xu X ae (cd v ae) (l+1) auD aX λx J=>Xo X cD.1 (λk Z=>(q6 cD.2.2.2 Z).1.1) x J;have aw:=AH (fy (cd v) v (l+1) ae (cd v ae));have hlen:=FP (cd v) v (l+1) ae (cd v ae)
  have pL:((fy (cd v) v (l+1) ae (cd v ae)).map U.name).Nodup :=
   (Od (cd v) v (l+1) ae (cd v ae)).nodup (ajR X cD.1 cD.2.2.1)
  rw[xj,auQ];refine⟨?_,Wu λk Z=>?_⟩
  ·rw[awm];refine Xr ?_ aj;rw[FN];have hF:ae.length<=64:=cw.AI;have i6:∀(P:List nr->Prop),P ch->P []->P (if v=3 then ch else[]):=λP h1 A=>by split<;>assumption
   exact{
    I5:=cw.I5
    CL:=cw.CL
    FR:=mt
    I6:=sY
    file:=λh1=>⟨(cw.file h1).1,i6 (λx=>x=[]) (cw.file h1).2 rfl⟩
    I7:=cw.I7
    bc:=λh1=>by
     have:ae=[]:=cw.bc h1;subst this;show kg (fy (cd v) v (l+1) [] (cd v []))=[];simp[fy,kg]
    target:=cw.target
    cu:=by have:=cw.cu;show 0<=(if keeps v=true then e else 0)/\(if keeps v=true then e else 0)<=4095;split<;>omega
    n2:=by have:=cw.n2;show 0<=(if keeps v=true then f else 0)/\(if keeps v=true then f else 0)<=65535;split<;>omega
    n3:=by have:=cw.n3;show 0<=(if keeps v=true then g else 0)/\(if keeps v=true then g else 0)<=65535;split<;>omega
    n4:=cw.n4
    n5:=by show(-1048576:Int)<=0/\(0:Int)<=1048576;omega
    n6:=by show(0:Int)<=0/\(0:Int)<=15;omega
    bT:=cw.bT
    size:=cw.size
    AI:=by show(kg (fy (cd v) v (l+1) ae (cd v ae))).length<=64;rw[aw.length_eq];omega
    FS:=by have:ch.length<=4:=cw.FS;show(if v=3 then ch else[]).length<=4;split<;>first|omega|simp
    bD:=λi hi=>by
     have hs:=cw.bD;by_cases aa:v=3
     ·subst aa;exact hs i hi
     exfalso
     have:(if v=3 then ch else([]:List nr))=[]:=auN aa;have ls:i<(if v=3 then ch else([]:List nr)).length:=hi;rw[this]at ls;simp at ls
    f3:=Wo pL}
  have fv:k∈kg (fy (cd v) v (l+1) ae (cd v ae)):=by
   rw[FN]at Z;exact Z
  exact w4 k (aw.subset fv)
theorem Xu{v:Int}(X:ka v=true):∀(ae:List U) (cm:List auM) (l:Int),2<=l->jT ae l=true->(∀m∈cm,dS m=true)->∀k∈fy (cd v) v l ae cm,gB k l=true
 |[],cm,l,_,_,_=>by simp[fy]
 |k::r,[],l,_,_,_=>by simp[fy]
 |k::r,m::cm,l,aj,aS,hm=>by
  simp only[jT,auQ]at aS;intro x J;have aV:=Xu X r cm l aj aS.2 λy hy=>hm y (auZ _ hy);simp only[fy]at J;split at J
  ·rcases au8.1 J with rfl|J
   ·exact Xt X k l m auD aS.1 (λe=>by omega) λ_=>hm m auY
   exact aV x J
  exact aV x J
theorem ajR{v:Int}(X:ka v=true){ae:List U}(hF:ae.length<=64)(hi:f3 ae):(cd v ae).Nodup:=by
 rcases W1 X with h|h|h|h
 ·rw[Jf (.inl h),uw,avD,axZ];exact(avD.1 (OA v ae hF)).imp Ne.symm
 ·rw[Jf (.inr h),uw,avD,axZ];exact(avD.1 (OA v ae hF)).imp Ne.symm
 ·rw[F2 (.inl h)];exact CQ hi
 rw[F2 (.inr h)];exact CQ hi
end
theorem ajS{v:Int}(X:ka v=true){n:U}(h:valid n=true):valid (it (cd v) v 1 n)=true:=by
 have ar:=ajT h;rw[q7,auQ,avp]at h⊢;have h1:=OU (cd v) v n 1;have A:=Xt X n 1 [] (avK _) h.2 (λ_=>rfl) (λe=>absurd e auD);have e:(it (cd v) v 1 n).named []=it (cd v) v 1 n:=by rw[FN];simp only[U.named,ar]
 rw[e]at A;exact⟨by omega,A⟩
where
 ajT {n:U} (h:valid n=true):n.name=[]:=by
  rw[q7,auQ]at h;exact(vR h.2).1.FR rfl
theorem ajU{v:Int}(ax:t<ae.length):(cd v ae)[t]'(by rw[om];exact ax)=o1 v (g5 v (ae.take t)) ae[t]:=by(have e:∀ae:List U,∀m,m<=ae.length->(g5 v ae).reverse.take m=(g5 v (ae.take m)).reverse:=ayb);have A:=e ae (t+1) auD;(have aa:(cd v ae)[t]?=((cd v ae).take (t+1))[t]?:=by rw[avE,auO auD]);have aF:(cd v ae).take (t+1)=(g5 v (ae.take (t+1))).reverse:=A;rw[aF,OF ax,awM,avl (by simp[s_];omega)]at aa;(have a8:(g5 v (ae.take t)).reverse.length=t:=by simp[s_];omega);rw[a8,axt,auR (by rw[om];exact ax)]at aa;simpa using aa
section
variable(aU:List U->List auM)(v:Int)
end
end Go.bV.ct


namespace Go.bV.ct
open Go Go.Proofs
variable{B:World}
theorem Xv(aX:dk B)(s p:auM)(hs:s.length<4294967281):aT B 295 [.N s,.N p] (.bm [.N (Lib.cut s p).1,.N (Lib.cut s p).2.1,.bool (Lib.cut s p).2.2]):=by obtain⟨m,hm⟩:=aX.Ug;exact .zK (jt Tryz.func295 rfl auH) rfl λw G=>(Tryz.strings_Cut ⟨⟨s⟩⟩ ⟨⟨p⟩⟩ m w hs (E1 G hm)).mono λe w' ⟨aq,n,cz⟩=>by subst cz;exact⟨_,aq,λC=>.bm _ _ rfl λi d v O X=>by match i with|0=>cases O;cases X;exact .N _|1=>cases O;cases X;exact .N _|2=>cases O;cases X;exact .bool _|i+3=>simp at O,⟨rfl,rfl,rfl,auW _,λ_ _=>rfl⟩⟩
def F9(s p:auM):auM×Bool:=if Lib.hasSuffix s p then(s.take (s.length-p.length),true)else(s,false)
def oo(s:auM)(m:Int):Bool:=decide ((1:Int)<=s.length)&&(decide ((s.length:Int)<=m)&&uv s)
theorem Xw(s:auM)(m:Int):aT B 316 [.N s,u m] (.bool (oo s m)):=by refine bB Tryz.func316 Tryz.ntmps316 λW=>?_;refine go ?_;refine bq (WB s) ?_;refine ap.of_eq (auP D.bool ?_);unfold oo;by_cases h1:(1:Int)<=s.length<;>by_cases A:(s.length:Int)<=m<;>simp[h1,A]
def v6(s:auM)(bc:Bool):Bool:=!((Lib.cut s [46]).2.2&&(bc||!oo (Lib.cut s [46]).2.1 3))&&oo (Lib.cut s [46]).1 8
theorem ajV(aX:dk B)(s:auM)(bc:Bool)(hs:s.length<1000000000):aT B 275 [u 0,.N s,.bool bc] (.bool (v6 s bc)):=by refine bB Tryz.func275 Tryz.ntmps275 λW=>?_;apply b1;refine mT ?_;apply b1;refine Y.cond true rfl (λhc=>?_) (λhc=>by cases hc);refine go ?_;refine bq (Xv aX s [46] auD) ?_;refine bq (Xw _ 3) ?_;refine aI _ rfl ?_ ?_<;>intro hc;refine go ?_;(have og:((Lib.cut s [46]).2.2&&(bc||!oo (Lib.cut s [46]).2.1 3))=true:=by revert hc;cases(Lib.cut s [46]).2.2<;>cases bc<;>simp);refine ap.of_eq (auP D.bool ?_);rw[v6,og];rfl;refine go ?_;refine bq (Xw _ 8) ?_;(have og:((Lib.cut s [46]).2.2&&(bc||!oo (Lib.cut s [46]).2.1 3))=false:=by revert hc;cases(Lib.cut s [46]).2.2<;>cases bc<;>simp);refine ap.of_eq (auP D.bool ?_);rw[v6,og];rfl
def yZ(s:auM):Bool:=decide (0<=Lib.indexByte s 46)
def kk(s:auM)(bc:Bool):auM×Int :=
 if v6 s bc=true then if bc=true then(s,0)else if yZ s=true then(s++[59,49],0)else(s++[46,59,49],0)else([],4)
theorem Xx(aX:dk B)(s:auM)(bc:Bool)(hs:s.length<1000000000):aT B 225 [.N s,.bool bc] (.bm [.N (kk s bc).1,u (kk s bc).2]):=by refine bB Tryz.func225 Tryz.ntmps225 λW=>?_;refine go ?_;refine bq (ajV aX s bc hs) ?_;refine aI _ rfl ?_ ?_<;>intro hc;refine go ?_;(have h:¬v6 s bc=true:=by simpa using hc);rw[kk,auN h];exact an;refine go ?_;(have h:v6 s bc=true:=by simpa using hc);refine go ?_;refine Y.cond bc rfl (λO=>?_) (λO=>?_);refine go ?_;rw[kk,auO h,auO O];exact an;refine go ?_;refine bq (Ui s 46) ?_;refine Y.cond (yZ s) rfl (λA=>?_) (λA=>?_);refine cc ?_;refine mS ?_;rw[kk,auO h,auN (by rw[O];simp),auO A];exact an;apply ci;refine cc ?_;refine mS ?_;rw[kk,auO h,auN (by rw[O];simp),auN (by rw[A];simp)];exact an
def F_(id m:auM)(bc:Bool):auM×Int:=if(kk m bc).2=0/\(kk m bc).1=id then(m,0)else([],4)
def Jp(id:auM)(bc:Bool):auM×Int :=
 if bc=true then F_ id id bc else if(F9 id [59,49]).2=true then F_ id (Lib.trimSuffix (F9 id [59,49]).1 [46]) bc else([],4)
def q'(cw:List (List c7)):List Int:=cw.mapIdx λi g=>ir g+(if i+1<cw.length then 28 else 0)
theorem OV(cw:List (List c7)):(q' cw).length=cw.length:=by simp[q']
variable{cw:List (List c7)}{i:Nat}
theorem ajW(h:i<cw.length):(q' cw)[i]?=some (ir cw[i]+(if i+1<cw.length then 28 else 0)):=by simp[q',h]
theorem ajX(h:i<cw.length):(q' cw).take (i+1)=(q' cw).take i++[ir cw[i]+(if i+1<cw.length then 28 else 0)]:=by
 have h1:i<(q' cw).length:=by rw[OV];exact h
 rw[auU h1];have:=ajW h;rw[auR h1]at this;rw[avB this]
theorem ajY(cw:List (List c7))(aj:cw.length<1000000)(O:∀g∈cw,g.length<1000000/\∀x∈g,x.data.length<1000000):aT B 175 [.T .none 1 (je cw)] (.T .none 1 (bo (q' cw))):=by
 refine bB Tryz.func175 Tryz.ntmps175 λW=>?_;apply b1;apply b1;refine p9 ?_;refine Y.own 3 1000 1 3 rfl (λw=>?_);refine go ?_
 refine Y.ee (α:={i:Nat // i<=cw.length}×Value) (λx=>[(0,.T .none 1 (je cw)),(3,.T (.own 1000 x.2) 1 (bo ((q' cw).take x.1.1))),(7,.T .none 1 (je cw)),(8,u ((je cw).length:Nat)),(9,u x.1.1)])
  (λx=>[(1000,.own x.2 (bo ((q' cw).take x.1.1)).length 1 3)]) (λx=>cw.length-x.1.1) (⟨0,by omega⟩,w) [(1000,1000)]
  ⟨an,rfl,a_⟩ ?_
 rintro⟨⟨i,hi⟩,w⟩;dsimp only at hi⊢;refine go ?_;refine aI (decide ((i:Int)<((je cw).length:Nat))) rfl ?_ ?_<;>intro hc
 ·apply ci;have aG:i<cw.length:=by simpa[je]using hc
  have c2:=ajX aG;have bg:(bo ((q' cw).take i)).length<=i:=by simp[bo];omega
  have OW:=O _ (auT aG);have AF:=FD OW.2 cw[i].length (auW _);rw[au2]at AF;have w4:((je cw).length:Nat)=cw.length:=by simp[je]
  generalize(q' cw).take i=L at*;refine gJ ?_;refine⟨λ_=>by simp[je];omega,?_⟩;refine go ?_;refine⟨.T .none 3 (eL cw[i]),λ_=>by simp[je,aG],?_⟩;refine go ?_;refine bq (I1 cw[i] OW.1 OW.2) ?_;refine aI (decide ((i:Int)+1<((je cw).length:Nat))) rfl ?_ ?_<;>intro bx
  ·apply jH
   have h1 : i + 1 < cw.length := by have : (i : Int) + 1 < ((je cw).length : Nat) := by simpa using bx
                                     omega
   rw[auO h1]at c2;refine hb ?_;refine lZ ?_;refine mm ?_;refine⟨by show(_+1)*8<=_;omega,by show _+1<=_;omega,auK,λgO=>?_⟩;refine go ?_;exact⟨(⟨i+1,aG⟩,gO),[(1000,26)],by show cw.length-(i+1)<cw.length-i;omega,⟨E,ap.i' (by rw[c2,bo,bo,avo];rfl),E,E,E,ak⟩,rfl,rfl,jq (by rw[c2,bo,bo,avo];simp),ak⟩
  apply ci
  have h1 : ¬i + 1 < cw.length := by have : ¬(i : Int) + 1 < ((je cw).length : Nat) := by simpa using bx
                                     omega
  rw[auN h1]at c2;refine lZ ?_;refine mm ?_;refine⟨by show(_+1)*8<=_;omega,by show _+1<=_;omega,auK,λgO=>?_⟩;refine go ?_;exact⟨(⟨i+1,aG⟩,gO),[(1000,26)],by show cw.length-(i+1)<cw.length-i;omega,⟨E,ap.i' (by rw[c2,bo,bo,avo];simp;rfl),E,E,E,ak⟩,rfl,rfl,jq (by rw[c2,bo,bo,avo];simp),ak⟩
 have cr:i=cw.length:=by simp[je]at hc;omega
 subst cr;rw[ave (by rw[OV];exact auW _)];refine go ?_;exact ap.mf
theorem upto{p:Nat->Prop}(h0:∀j,j<i->p j)(h:p i):∀j,j<i+1->p j:=λj ad=>(awJ.1 ad).elim (h0 j) (λe=>e ▸ h)
def qn(x y:Int):Int:=if x<y then -1 else if y<x then 1 else 0
theorem Xy(n:Int):aT B 190 [u n] (.bool false):=by refine bB Tryz.func190 Tryz.ntmps190 λW=>?_;refine go ?_;exact ap.of_eq (auP D.bool auF)
theorem Xz(n:Int):aT B 329 [.int .u8 n] (.bool false):=by refine bB Tryz.func329 Tryz.ntmps329 λW=>?_;refine go ?_;exact ap.of_eq (auP D.bool auF)
theorem ajZ(x y:Int):aT B 244 [u x,u y] (u (qn x y)):=by refine bB Tryz.func244 Tryz.ntmps244 λW=>?_;refine pl ?_;refine⟨[u x],_,λ_=>Xy x,an,?_⟩;refine cc ?_;refine⟨[u y],_,λ_=>Xy y,an,?_⟩;exact ax_
theorem aj0(x y:Int):aT B 293 [.int .u8 x,.int .u8 y] (u (qn x y)):=by refine bB Tryz.func293 Tryz.ntmps293 λW=>?_;refine pl ?_;refine⟨[.int .u8 x],_,λ_=>Xz x,an,?_⟩;refine cc ?_;refine⟨[.int .u8 y],_,λ_=>Xz y,an,?_⟩;exact ax_
def uA(s:auM):Int:=if(s==[0])=true then 0 else if(s==[1])=true then 1 else 2
theorem OX(s:auM):aT B 245 [.N s] (u (uA s)):=by refine bB Tryz.func245 Tryz.ntmps245 λW=>?_;refine go ?_;refine aI (s==[0]) rfl ?_ ?_<;>intro hc;refine go ?_;rw[uA,auO hc];exact E;refine go ?_;rw[uA,auN (by rw[hc];decide)];refine go ?_;refine aI (s==[1]) rfl ?_ ?_<;>intro hc;refine go ?_;rw[auO hc];exact E;refine go ?_;rw[auN (by rw[hc];decide)];exact E
def o2(s:auM)(i:Nat)(fill:Int):Int:=if i<s.length then((s.getD i 0).toNat:Nat)else fill
def CS(b:Nat)(fill:Int):List (Nat×aJ):=[(4101,.box b [.int .u8 fill])]
theorem XA(s:auM)(i b:Nat)(fill:Int):c4 B 292 [.N s,u (i:Nat),.box 4101 b 0] (aM (CS b fill)) λd aO=>d=.int .u8 (o2 s i fill)/\aO=aM (CS b fill):=by refine jI Tryz.func292 Tryz.ntmps292 λW=>?_;refine go ?_;refine aI (decide ((i:Int)<(s.length:Nat))) rfl ?_ ?_<;>intro hc;refine cc ?_;(have aG:i<s.length:=by simpa using hc);refine⟨s[i],λ_=>⟨by omega,by simp[aG]⟩,?_⟩;(conv=>whnf);refine Y.gS [(5,.int .u8 (o2 s i fill))] (CS b fill) [(4101,4101)] ⟨⟨ap.of_eq (auP (D.int .u8) (by rw[o2,auO aG,awE,auR aG];rfl)),ak⟩,rfl,a_⟩ ?_;refine go ?_;exact⟨_,E,rfl,rfl⟩;apply ci;apply b1;(conv=>whnf);refine dc ?_;refine Y.gS [(5,.int .u8 (o2 s i fill))] (CS b fill) [(4101,4101)] ⟨⟨ap.of_eq (auP (D.int .u8) (by rw[o2,auN (by simpa using hc)])),ak⟩,rfl,a_⟩ ?_;exact azs
def F'(a b:auM)(fill:Int)(i:Nat):Option Int:=if qn (o2 a i fill) (o2 b i fill)≠0 then some (qn (o2 a i fill) (o2 b i fill))else none
def y0(a b:auM)(fill:Int):Int:=((List.range (max a.length b.length)).findSome? (F' a b fill)).getD 0
theorem XB(a b:Nat):(if(b:Int)>(a:Int)then(b:Int)else(a:Int))=((max a b:Nat):Int):=by split<;>omega
theorem OY(a b:auM)(fill:Int)(ha:a.length<1000000000)(G:b.length<1000000000):aT B 246 [.N a,.N b,.int .u8 fill] (u (y0 a b fill)):=by refine bB Tryz.func246 Tryz.ntmps246 λW=>?_;refine go ?_;intro cF;refine go ?_;generalize ar:max a.length b.length=n;refine go ?_;refine Y.ee (α:={i:Nat // i<=n/\∀j,j<i->F' a b fill j=none}) (λx=>[(0,.N a),(1,.N b),(7,.fn (.func 292) [] [.box 5 cF 0]),(15,u (n:Nat)),(16,u x.1)]) (λ_=>[(5,.box cF [.int .u8 fill])]) (λx=>n-x.1) ⟨0,by omega,λj h=>by omega⟩ [(5,5)] ⟨⟨E,E,E,ap.of_eq (auP (D.int .i64) (by rw[<-ar];exact XB _ _)),E,ak⟩,rfl,a_⟩ ?_;rintro⟨i,hi,cD⟩;dsimp only at hi cD⊢;refine go ?_;refine aI (decide ((i:Int)<(n:Nat))) rfl ?_ ?_<;>intro hc;refine go ?_;(have aG:i<n:=by simpa using hc);refine go ?_;refine .inr (ah.B1 rfl [.N a,u (i:Nat),.box 4101 cF 0] [(4101,5)] (hs:=CS cF fill) (by exact⟨rfl,a_⟩) (XA a i cF fill) rfl ⟨E,E,ap.box,ak⟩ E ?_);refine go ?_;refine .inr (ah.B1 rfl [.N b,u (i:Nat),.box 4101 cF 0] [(4101,5)] (hs:=CS cF fill) (by exact⟨rfl,a_⟩) (XA b i cF fill) rfl ⟨E,E,ap.box,ak⟩ E ?_);refine go ?_;refine bq (aj0 _ _) ?_;refine aI (qn (o2 a i fill) (o2 b i fill)!=0) rfl ?_ ?_<;>intro bx;refine go ?_;(have aZ:qn (o2 a i fill) (o2 b i fill)≠0:=by simpa using bx);have qX:F' a b fill i=some (qn (o2 a i fill) (o2 b i fill)):=auO aZ;have M:=FG (p:=F' a b fill) (l:=List.range n) (i:=i) (e:=qn (o2 a i fill) (o2 b i fill)) (by simpa using aG) (λj ad fq=>by rw[axo];exact cD j fq) (by rw[axo];exact qX);rw[y0,ar,M];exact E;refine go ?_;exact⟨⟨i+1,aG,upto cD (auN (by simpa using bx))⟩,[(5,5)],by show n-(i+1)<n-i;omega,an,rfl,a_⟩;(have cr:i=n:=by simp at hc;omega);(have M:(List.range n).findSome? (F' a b fill)=none:=N8 λj ad=>by rw[axo];exact cD j (by simp at ad;omega));rw[y0,ar,M];refine go ?_;exact E
def Jq(l:List Int):Int:=(l.findSome? λx=>if x≠0 then some x else none).getD 0
theorem aj1(l:List Int)(aj:l.length<1000000):aT B 248 [.T .none 1 (bo l)] (u (Jq l)):=by
 refine bB Tryz.func248 Tryz.ntmps248 λW=>?_;refine go ?_;refine Y.ee (α:={i:Nat // i<=l.length/\∀j (ad:j<l.length),j<i->(if l[j]≠0 then some l[j]else none)=none}) (λx=>[(3,u 0),(6,.T .none 1 (bo l)),(7,u ((bo l).length:Nat)),(8,u x.1)]) (λ_=>[]) (λx=>l.length-x.1) ⟨0,by omega,λj _ h=>by omega⟩ [] ⟨an,rfl,ak⟩ ?_;rintro⟨i,hi,cD⟩;dsimp only at hi cD⊢;refine go ?_;refine aI (decide ((i:Int)<((bo l).length:Nat))) rfl ?_ ?_<;>intro hc
 ·apply ci;have aG:i<l.length:=by simpa[bo]using hc
  refine gJ ?_;refine⟨λ_=>by simp[bo];omega,?_⟩;refine go ?_;refine⟨u l[i],λ_=>by simp[bo,aG],?_⟩;refine go ?_;refine aI (l[i]!=0) rfl ?_ ?_<;>intro bx
  ·refine go ?_;have aZ:l[i]≠0:=by simpa using bx
   rw[Jq,FG (p:=λx=>if x≠0 then some x else none) aG cD (e:=l[i]) (auO aZ)];exact E
  refine go ?_
  exact⟨⟨i + 1,aG,λj ad h => by rcases au6 j i with lF|lF
                                ·exact cD j ad lF
                                have:j=i:=auD
                                subst this;exact auN (by simpa using bx)⟩,[],azh,an,rfl,ak⟩
 have cr:i=l.length:=by simp[bo]at hc;omega
 subst cr;rw[Jq,N8 λj ad=>cD j ad ad];refine go ?_;exact E
def iu(s:auM):Prop:=∀c∈s,c.toNat<128
theorem aj2(aX:dk B)(s:auM)(hs:s.length<4000000000)(ha:iu s):aT B 294 [.N s,.N [46,59]] (u (Lib.indexAny s [46,59])) :=
 .zK (jt Tryz.func294 rfl auH) rfl λw G=>(Tryz.strings_IndexAny_laid ⟨⟨s⟩⟩ ⟨⟨[46,59]⟩⟩ w (by show s.length<_;omega) auG (λj b G=>ha b (au5 G)) (λj b G=>by
  have:=au5 G;simp at this
  rcases this with rfl|rfl<;>decide)).mono λe w' ⟨aq,cz⟩=>⟨_,aq,λC=>.int _ _,cz⟩
def CT(n:Nat):auM:=Lib.repeatL [48] n
theorem aj3(n:Nat):(CT n).length=n:=by rw[CT,Lib.repeatL_length];simp
theorem aj4(n:Nat)(ar:n<1000000000):aT B 74 [.N [48],u (n:Nat)] (.N (CT n)) :=
 .zK (jt Tryz.func74 rfl auH) rfl λw G=>(Tryz.strings_Repeat ⟨⟨[48]⟩⟩ n w auD (by show 1*n<=_;omega)).mono λe w' ⟨aq,cz⟩=>⟨_,aq,λC=>.N _,cz⟩
theorem aj5(s p:auM)(h:0<=Lib.indexAny s p):(Lib.indexAny s p).toNat<s.length:=by induction s with|nil=>simp[Lib.indexAny]at h|cons b l aV =>unfold Lib.indexAny at h⊢;split;simp;rename_i h1;rw[auN h1]at h;split;rename_i A;rw[auO A]at h;omega;rename_i A;rw[auN A]at h;have aS:=Lib.indexAny_ge p l;(have:0<=Lib.indexAny l p:=by(have:Lib.indexAny l p≠-1:=by simpa using A);omega);have:=aV this;simp only[auX];omega
def g6(s:auM):auM×auM×auM :=
 if Lib.indexAny s [46,59]<0 then(s,[],[])else if((s.getD (Lib.indexAny s [46,59]).toNat 0).toNat:Int)=59 then(s.take (Lib.indexAny s [46,59]).toNat,[],s.drop (Lib.indexAny s [46,59]+1).toNat)
 else(s.take (Lib.indexAny s [46,59]).toNat,(Lib.cut (s.drop (Lib.indexAny s [46,59]+1).toNat) [59]).1,(Lib.cut (s.drop (Lib.indexAny s [46,59]+1).toNat) [59]).2.1)
theorem XC(aX:dk B)(s:auM)(hs:s.length<4000000000)(ha:iu s):aT B 247 [.N s] (.bm [.N (g6 s).1,.N (g6 s).2.1,.N (g6 s).2.2]):=by refine bB Tryz.func247 Tryz.ntmps247 λW=>?_;refine go ?_;refine bq (aj2 aX s hs ha) ?_;refine aI (decide (Lib.indexAny s [46,59]<0)) rfl ?_ ?_<;>intro hc;refine go ?_;rw[g6,auO (by simpa using hc)];exact an;apply ci;(have jn:¬Lib.indexAny s [46,59]<0:=by simpa using hc);have XD:=aj5 s [46,59] auD;rw[g6,auN jn];generalize bf:Lib.indexAny s [46,59]=eC at*;refine mQ ?_;(conv=>whnf);refine⟨λ_=>by omega,?_⟩;refine lq ?_;refine⟨λ_=>by omega,?_⟩;refine go ?_;refine⟨s[eC.toNat],λ_=>⟨by omega,by simp[XD]⟩,?_⟩;refine go ?_;(have ik:((s.getD eC.toNat 0).toNat:Int)=(s[eC.toNat].toNat:Nat):=by rw[awE,auR XD];rfl);refine aI (((s[eC.toNat].toNat:Nat):Int)==59) rfl ?_ ?_<;>intro bx;refine go ?_;rw[auO (by rw[ik];simpa using bx)];exact⟨ap.of_eq (auP D.N auF),E,ap.of_eq (auP D.N auF),ak⟩;apply ci;rw[auN (by rw[ik];simpa using bx)];refine cc ?_;refine⟨[.N (s.drop (eC+1).toNat),.N [59]],_,λ_=>Xv aX (s.drop (eC+1).toNat) [59] (by rw[avX];omega),⟨ap.of_eq (auP D.N auF),E,ak⟩,?_⟩;refine gp ?_;exact⟨ap.of_eq (auP D.N auF),E,E,ak⟩
theorem aj6(s p:auM):(Lib.cut s p).1.length<=s.length/\(Lib.cut s p).2.1.length<=s.length:=by unfold Lib.cut;split;simp only[au9,avX];omega;simp
theorem XE(s:auM):(g6 s).1.length<=s.length/\(g6 s).2.1.length<=s.length/\(g6 s).2.2.length<=s.length:=by unfold g6;split;simp;split;simp only[au9,avX,avh];omega;have:=aj6 (s.drop (Lib.indexAny s [46,59]+1).toNat) [59];rw[avX]at this;simp only[au9];omega
def OZ(v w:auM):auM:=(CT (max v.length w.length)).drop w.length++w
def O0(a b:auM):Int:=Jq [y0 (g6 a).1 (g6 b).1 32,y0 (g6 a).2.1 (g6 b).2.1 32]
def xo(a b:auM)(wide:Bool):Int :=
 if(bif qn (uA a) (uA b)!=0 then true else decide (uA a<2))=true then qn (uA a) (uA b)
 else if wide=true then y0 a b 0
 else if O0 a b≠0 then O0 a b
 else Lib.compareBytes (OZ (g6 a).2.2 (g6 b).2.2) ((CT (max (g6 a).2.2.length (g6 b).2.2.length)).drop (g6 a).2.2.length++(g6 a).2.2)
theorem XF(aX:dk B)(a b:auM)(wide:Bool)(ha:a.length<100000000)(G:b.length<100000000)(aj7:wide=false->iu a/\iu b):aT B 178 [.N a,.N b,.bool wide] (u (xo a b wide)):=by refine bB Tryz.func178 Tryz.ntmps178 λW=>?_;refine go ?_;refine bq (OX a) ?_;refine bq (OX b) ?_;refine bq (ajZ _ _) ?_;refine bq (OX a) ?_;refine aI (bif qn (uA a) (uA b)!=0 then true else decide (uA a<2)) rfl ?_ ?_<;>intro hc;refine go ?_;rw[xo,auO hc];exact E;refine go ?_;rw[xo,auN (by rw[hc];decide)];refine go ?_;refine aI wide rfl ?_ ?_<;>intro bx;refine go ?_;refine bq (OY a b 0 auD auD) ?_;rw[auO bx];exact E;apply ci;rw[auN (by rw[bx];decide)];obtain⟨aj8,LO⟩:=aj7 bx;obtain⟨hj,jP,pG⟩:=XE a;obtain⟨NZ,N0,IS⟩:=XE b;refine cc ?_;refine⟨[.N a],_,λ_=>XC aX a auD aj8,an,?_⟩;refine cc ?_;refine⟨[.N b],_,λ_=>XC aX b auD LO,an,?_⟩;refine p9 ?_;refine⟨[.N (g6 a).1,.N (g6 b).1,.int .u8 32],_,λ_=>OY _ _ 32 auD auD,an,?_⟩;(conv=>whnf);refine⟨[.N (g6 a).2.1,.N (g6 b).2.1,.int .u8 32],_,λ_=>OY _ _ 32 auD auD,an,?_⟩;(conv=>whnf);refine oJ ?_;refine⟨[.T .none 1 (bo [y0 (g6 a).1 (g6 b).1 32,y0 (g6 a).2.1 (g6 b).2.1 32])],_,λ_=>aj1 _ auF,⟨ap.jk _,ak⟩,?_⟩;apply b1;refine aI (O0 a b !=0) rfl ?_ ?_<;>intro eb;refine go ?_;rw[auO (by simpa using eb)];exact E;apply ci;rw[auN (by simpa using eb)];refine pl ?_;refine⟨[.N [48],u ((max (g6 a).2.2.length (g6 b).2.2.length:Nat):Nat)],_,λ_=>aj4 _ auD,⟨E,ap.of_eq (auP (D.int .i64) (XB _ _)),ak⟩,?_⟩;refine mQ ?_;have nf:=aj3 (max (g6 a).2.2.length (g6 b).2.2.length);(conv=>whnf);refine⟨λ_=>by omega,?_⟩;refine wS ?_;refine⟨λ_=>by omega,?_⟩;(conv=>whnf);refine mS ?_;refine⟨[.N (OZ (g6 a).2.2 (g6 b).2.2),.N ((CT (max (g6 a).2.2.length (g6 b).2.2.length)).drop (g6 a).2.2.length++(g6 a).2.2)],_,λ_=>Uh _ _,⟨ap.of_eq (auP D.N (by unfold OZ;simp)),ap.of_eq (auP D.N auF),ak⟩,?_⟩;refine hz ?_;exact E
def Jr(d_:Nat)(fE:List auM)(v:Value):bH:=aM [(2000,.box d_ [.T (.own 2001 v) 1 (aQ fE)]),(2001,.own v (aQ fE).length 1 9)]
theorem aj9(d_:Nat)(n:U)(p:auM)(l:Int)(fE:List auM)(v:Value)(aj_:fE.length<10000000):c4 B 148 ([az n,.N p,u l]++[.box 2000 d_ 0]) (Jr d_ fE v) λd aO=>∃c',d=.bool true/\aO=Jr d_ (fE++[p]) c':=by
 refine jI Tryz.func148 Tryz.ntmps148 λW=>?_;refine cc ?_;intro b;refine kB ?_;refine mm ?_;refine⟨by show(_+1)*16<=_;simp[aQ];omega,by show _+1<=_;simp[aQ];omega,auK,λjr=>?_⟩;apply cj;refine cc ?_;have aq:aQ fE++[D.N p]=aQ (fE++[p]):=by simp[aQ]
 refine Y.jo 2000 (dA:=[.T (.own 2001 jr) 1 (aQ (fE++[p]))]) rfl ⟨ap.trans (ap.of_eq (auP (D.T (.own 11 jr) 1) aq)) (ap.own 11 2001),ak⟩ ?_;refine Y.gS [(7,.bool true)] [(2000,.box d_ [.T (.own 2001 jr) 1 (aQ (fE++[p]))]),(2001,.own jr (aQ (fE++[p])).length 1 9)] [(2000,2000),(2001,11)] ⟨an,rfl,rfl,rfl,rfl,auP (λQ=>some (aJ.own jr Q 1 9)) (by simp[aQ]),ak⟩ ?_;refine go ?_;exact⟨_,E,jr,rfl,rfl⟩
theorem XG:∀{l:List U} {i:Nat} (h:i<l.length),eD (l.take i)+aB l[i]<=eD l
 |k::r,0,_=>by simp only[aw2,eD,awQ];omega
 |k::r,i+1,h=>by have:=XG (l:=r) (i:=i) (by simpa using h);simp only[awi,eD,av8];omega
theorem aj'(d_:Nat):∀(bA:Nat) (n:U) (p:auM) (l:Int) (fE:List auM) (v:Value),aB n<bA->p.length+aB n+l.toNat+n.name.length<100000000->1<=l->fE.length+aB n<10000000->c4 B 125 [az n,.N p,u l,.fn (.func 148) [] [.box 2000 d_ 0]] (Jr d_ fE v) λd aO=>∃c',d=.bool true/\aO=Jr d_ (fE++dq n p l) c':=by refine λbA=>Nat.rec (λn p l fE v h=>absurd h (av_ _)) (λbA aV n p l fE v hN G aj aj_=>?_) bA;refine jI Tryz.func125 Tryz.ntmps125 λW=>?_;refine cc ?_;intro b;apply n0;refine Y.SG aN ?_;refine go ?_;refine x7 ?_;refine⟨_,[(2000,2000),(2001,2001)],_,aj9 d_ n p l fE v auD,rfl,⟨E,E,E,?_⟩,?_⟩;exact dO.refl _;rintro d aO ⟨jr,rfl,rfl⟩;refine⟨_,E,?_⟩;refine aI _ rfl ?_ ?_<;>intro hc;exact absurd hc auF;refine go ?_;(have h0:fE++[p]++iP (n.F.take 0) p l=fE++[p]:=by simp[iP]);refine Y.ee (α:={x:Nat×Value // x.1<=n.F.length}) (λx=>[(1,.N p),(2,u l),(3,.fn (.func 148) [] [.box 2000 d_ 0]),(18,.T .none 12 (n.F.map enc)),(19,u (n.F.map enc).length),(20,u x.1.1)]) (λx=>[(2000,.box d_ [.T (.own 2001 x.1.2) 1 (aQ (fE++[p]++iP (n.F.take x.1.1) p l))]),(2001,.own x.1.2 (aQ (fE++[p]++iP (n.F.take x.1.1) p l)).length 1 9)]) (λx=>n.F.length-x.1.1) ⟨(0,jr),by simp⟩ [(2000,2000),(2001,2001)] ⟨an,rfl,rfl,auP (λQ=>some (aJ.box d_ [.T (.own 2001 jr) 1 (aQ Q)])) h0.symm,rfl,auP (λQ=>some (aJ.own jr (aQ Q).length 1 9)) h0.symm,ak⟩ ?_;rintro⟨⟨i,v2⟩,hi⟩;dsimp only at hi⊢;refine go ?_;refine aI _ rfl ?_ ?_<;>intro hc;refine eY ?_;(have n_:i<n.F.length:=by simpa using hc);have b2:=qT n_;have fg:=B3 p n.F[i].name (l+1);have eK:=vr n;have c2:=OK n_ p l;have mO:=Jl (n.F.take i) p l;have bg:=XG n_;have Bt:=EL (n.F.take i);have aja:=j8 n;refine vg ?_;refine⟨az n.F[i],λ_=>rU n_,?_⟩;refine go ?_;intro b;(conv=>whnf);refine dc ?_;apply eh;refine Y.SH aN 10 mixed auI ?_;refine go ?_;refine bq (TD p n.F[i].name (l+1) auD) ?_;refine x7 ?_;refine⟨_,[(2000,2000),(2001,2001)],_,aV n.F[i] (below p n.F[i].name (l+1)) (l+1) (fE++[p]++iP (n.F.take i) p l) v2 auD auD auD (by simp only[auV,auX,avh];omega),rfl,an,?_⟩;rintro d aO ⟨v3,rfl,rfl⟩;refine⟨_,E,?_⟩;refine aI _ rfl ?_ ?_<;>intro hc;exact absurd hc auF;refine go ?_;(have aq:fE++[p]++iP (n.F.take i) p l++dq n.F[i] (below p n.F[i].name (l+1)) (l+1)=fE++[p]++iP (n.F.take (i+1)) p l:=by rw[c2,avr]);exact⟨⟨(i+1,v3),by omega⟩,[(2000,2000),(2001,2001)],ay',an,rfl,rfl,auP (λQ=>some (aJ.box d_ [.T (.own 2001 v3) 1 (aQ Q)])) aq,rfl,auP (λQ=>some (aJ.own v3 (aQ Q).length 1 9)) aq,ak⟩;refine Y.exit ?_;(have cr:i=n.F.length:=by simp at hc;omega);(have aq:fE++[p]++iP (n.F.take i) p l=fE++dq n p l:=by rw[cr,au2,OH,avr];rfl);refine cc ?_;refine Y.gS [(8,.bool true)] [(2000,.box d_ [.T (.own 2001 v2) 1 (aQ (fE++dq n p l))]),(2001,.own v2 (aQ (fE++dq n p l)).length 1 9)] [(2000,2000),(2001,2001)] ⟨an,rfl,rfl,auP (λQ=>some (aJ.box d_ [.T (.own 2001 v2) 1 (aQ Q)])) aq,rfl,auP (λQ=>some (aJ.own v2 (aQ Q).length 1 9)) aq,ak⟩ ?_;refine go ?_;exact⟨_,E,v2,rfl,rfl⟩
theorem O1(aX:dk B)(n:U)(ar:ev n):aT B 96 [az n] (.T .none 1 (aQ (if valid n then dq n [] 1 else[]))):=by refine bB Tryz.func96 Tryz.ntmps96 λW=>?_;refine go ?_;intro b;refine go ?_;refine bq (An aX n (by unfold ev at ar;omega)) ?_;refine aI _ rfl ?_ ?_<;>intro hc;refine go ?_;(have X:valid n=false:=by simpa using hc);rw[X];exact ap.nil;refine go ?_;(have X:valid n=true:=by simpa using hc);rw[auO X];refine go ?_;intro b;apply eh;refine Y.tR 2001 1 9 ?_;refine Y.jo 3 (dA:=[.T (.own 2001 (.slice none 0 0)) 1 []]) rfl ⟨ap.vb,ak⟩ ?_;refine go ?_;refine .inr (ah.call rfl [az n,.N [],u 1,.fn (.func 148) [] [.box 2000 b 0]] [(2000,3),(2001,2001)] (aj' b _ n [] 1 [] (.slice none 0 0) (avt _) (by simp;unfold ev at ar;omega) auD (by simp;unfold ev at ar;omega)) rfl ⟨E,E,E,ap.fn trivial ⟨ap.box,ak⟩,ak⟩ ?_);rintro d aO ⟨c',rfl,rfl⟩;refine p8 ?_;exact ap.mf
structure e8 where
 path:auM
 data:auM
 deriving DecidableEq
def ek(f:e8):D:=.agg [.N f.path,.N f.data]
def y1(n:U)(p:auM):Bool:=bif (dr n p).2==0 then(dr n p).1.kind==1 else false
def h_(n:U)(p:auM):Option e8:=if y1 n p=true then some ⟨p,(dr n p).1.cU⟩else none
def cH(n:U):List e8:=(if valid n then dq n [] 1 else[]).filterMap (h_ n)
variable{α rQ:Type}
theorem XH(f:α->Option rQ){l:List α}(h:i<l.length):(l.take (i+1)).filterMap f=(l.take i).filterMap f++(f l[i]).toList:=by rw[auU h,List.filterMap_append];simp[axE];cases f l[i]<;>rfl
theorem Ga{l:List auM}(h:i<l.length):(aQ l)[((i:Int)).toNat]?=some (.N l[i]):=by simp[aQ,h]
mutual
theorem XI:∀(n:U) (q:auM) (l:Int),∀p∈dq n q l,p.length<=q.length+aB n
 |.mk _ _ _ _ _ _ _ _ _ _ ae ch,q,l,p,aw=>by
  simp only[dq,au8]at aw;rcases aw with rfl|aw
  ·omega
  have:=XJ ae q l p aw;simp only[aB];omega
theorem XJ:∀(ae:List U) (q:auM) (l:Int),∀p∈iP ae q l,p.length<=q.length+eD ae
 |[],q,l,p,aw=>by cases aw
 |k::r,q,l,p,aw=>by
  simp only[iP,avf]at aw;simp only[eD];rcases aw with aw|aw
  ·have:=XI k _ _ p aw;have:=B3 q k.name (l+1);omega
  have:=XJ r q l p aw;omega
end
theorem O2(aX:dk B)(n:U)(ar:ev n):aT B 65 [az n] (.T .none 2 ((cH n).map ek)):=by refine bB Tryz.func65 Tryz.ntmps65 λW=>?_;refine go ?_;intro dI;refine go ?_;refine bq (O1 aX n ar) ?_;have xp:cH n=(if valid n then dq n [] 1 else[]).filterMap (h_ n):=rfl;(have qS:∀p∈(if valid n then dq n [] 1 else[]),valid n=true/\p.length<1000000000:=by intro p aw;split at aw;rename_i X;have:=XI n [] 1 p aw;simp at this;unfold ev at ar;exact⟨X,by omega⟩;cases aw);(have nA:(if valid n then dq n [] 1 else[]).length<100000000:=by split;rw[yW];have:=B5 n;unfold ev at ar;omega;show(0:Nat)<100000000;omega);rw[xp];generalize(if valid n then dq n [] 1 else[])=P at*;refine Y.own 3 1000 2 121 rfl (λw=>?_);refine go ?_;refine Y.ee (α:={i:Nat // i<=P.length}×Value) (λx=>[(1,.box 1 dI 0),(3,.T (.own 1000 x.2) 2 (((P.take x.1.1).filterMap (h_ n)).map ek)),(9,.T .none 1 (aQ P)),(10,u ((aQ P).length:Nat)),(11,u x.1.1)]) (λx=>[(1,.box dI (az n).cells),(1000,.own x.2 (((P.take x.1.1).filterMap (h_ n)).map ek).length 2 121)]) (λx=>P.length-x.1.1) (⟨0,by omega⟩,w) [(1,1),(1000,1000)] ⟨an,rfl,a_⟩ ?_;rintro⟨⟨i,hi⟩,w⟩;dsimp only at hi⊢;(have fe:(aQ P).length=P.length:=by simp[aQ]);refine go ?_;refine aI (decide ((i:Int)<((aQ P).length:Nat))) rfl ?_ ?_<;>intro hc;apply ci;(have aG:i<P.length:=by have:=avg hc;omega);have c2:=XH (h_ n) aG;(have mO:(((P.take i).filterMap (h_ n)).map ek).length<=i:=by rw[auS];have:=awW (h_ n) (P.take i);rw[au9]at this;omega);obtain⟨X,dh⟩:=qS P[i] (auT _);generalize(P.take i).filterMap (h_ n)=L at*;refine gJ ?_;refine⟨λ_=>by simp[aQ];omega,?_⟩;refine go ?_;refine⟨.N P[i],λ_=>Ga aG,?_⟩;refine go ?_;refine bq (Xf aX P[i] dh n ar X) ?_;intro dW;refine go ?_;refine aI (y1 n P[i]) rfl ?_ ?_<;>intro hc;apply jH;refine ej ?_;refine mm ?_;refine⟨by show(_+1)*32<=_;omega,by show _+1<=_;omega,auK,λgO=>?_⟩;refine go ?_;(have aq:L.map ek++[ek ⟨P[i],(dr n P[i]).1.cU⟩]=((P.take (i+1)).filterMap (h_ n)).map ek:=by rw[c2,h_,auO hc];simp);exact⟨(⟨i+1,aG⟩,gO),[(1,1),(1000,34)],azj,⟨E,ap.i' aq,E,E,E,ak⟩,rfl,rfl,rfl,rfl,jq (by rw[<-aq];simp),ak⟩;refine go ?_;(have aq:L=(P.take (i+1)).filterMap (h_ n):=by rw[c2,h_,auN (by rw[hc];decide)];simp);exact⟨(⟨i+1,aG⟩,w),[(1,1),(1000,1000)],azj,⟨E,ap.i' (by rw[<-aq]),E,E,E,ak⟩,rfl,rfl,rfl,rfl,jq (by rw[<-aq]),ak⟩;(have cr:i=P.length:=by have:=ava hc;omega);subst cr;rw[au2];refine go ?_;exact ap.mf
variable{f:FuncId}{ds:List D}{a6:D->bH->Prop}{fb gx:Nat}{dj dt:aJ}
theorem _root_.Go.bV.c8.xq{H:bH}{cP d0:Nat}(h1:H fb=some dj)(A:H gx=some dt)(hc:c4 B f ds (aM [(cP,dj),(d0,dt)]) a6):c4 B f ds (gy H [(cP,fb),(d0,gx)]) a6:=by(have e:gy H [(cP,fb),(d0,gx)]=aM [(cP,dj),(d0,dt)]:=by funext j;simp only[gy,aM];exact ayA);rw[e];exact hc
def iv(oX n k:Int):Bool:=bif decide (oX<=k)then decide (k<oX+n)else false
def m9(V:List Int)(n:Int):Nat->Int->Int
 |0,a=>a
 |f+1,a=>if fh (iv a n) V<0 then a else m9 V n f (V.getD (fh (iv a n) V).toNat 0+1)
def qo(V:List Int)(a:Int):Nat:=(V.filter λk=>decide (a<=k)).length
def eR(V:List Int)(n a:Int):Int:=m9 V n (qo V a) a
variable{V:List Int}
theorem Gb{a k:Int}(hm:k∈V)(h:a<=k):qo V (k+1)<qo V a:=by unfold qo;(have FZ:∀l:List Int,(l.filter λx=>decide (k+1<=x)).length<=(l.filter λx=>decide (a<=x)).length:=by intro l;induction l with|nil=>exact auW _|cons x r aV =>rw[avJ,avJ];cases h1:decide (k+1<=x)<;>cases A:decide (a<=x)<;>simp at h1 A⊢<;>omega);induction V with|nil=>cases hm|cons x r aV =>rw[avJ,avJ];rcases au8.1 hm with rfl|hm;have:=FZ r;rw[auN auE,auO (by simpa using h)];simp;omega;have:=aV hm;cases h1:decide (k+1<=x)<;>cases A:decide (a<=x)<;>simp at h1 A⊢<;>omega
theorem AO{a n k:Int}(h:iv a n k=true):a<=k/\k<a+n:=by unfold iv at h;cases h1:decide (a<=k)<;>rw[h1]at h<;>simp at h h1;exact⟨h1,h⟩
theorem CU{n a:Int}(h:fh (iv a n) V<0):∀f,m9 V n f a=a
 |0=>rfl
 |f+1=>by rw[m9,auO h]
theorem Gc{n a:Int}(hi:i<V.length)(e:fh (iv a n) V=i):V.getD (fh (iv a n) V).toNat 0=V[i]:=by rw[e];simp[List.getD,hi]
theorem XK{V:List Int}{n:Int}:∀(f:Nat) (a:Int),qo V a<=f->m9 V n (f+1) a=m9 V n f a
 |0,a,h=>by rcases E8 (iv a n) V with⟨e,_⟩|⟨i,hi,e,aw,_⟩;(have ar:fh (iv a n) V<0:=by omega);rw[CU ar,CU ar];have:=Gb (auT hi) (AO aw).1;omega
 |f+1,a,h=>by rcases E8 (iv a n) V with⟨e,_⟩|⟨i,hi,e,aw,_⟩;(have ar:fh (iv a n) V<0:=by omega);rw[CU ar,CU ar];have:=Gb (auT hi) (AO aw).1;(have ar:¬fh (iv a n) V<0:=by omega);rw[m9,auN ar,Gc hi e,XK f _ auD,m9,auN ar,Gc hi e]
theorem XL{V:List Int}{n a:Int}:∀d,m9 V n (qo V a+d) a=eR V n a
 |0=>rfl
 |d+1=>by rw[<-awy,XK _ _ auD,XL d]
theorem XM{n:Int}(f:Nat)(a:Int)(h:qo V a<=f):m9 V n f a=eR V n a:=by have:=XL (V:=V) (n:=n) (a:=a) (f-qo V a);rwa [show qo V a+(f-qo V a)=f by omega]at this
theorem aka{n a:Int}(h:fh (iv a n) V<0):eR V n a=a:=CU h _
theorem akb{n a:Int}(hi:i<V.length)(e:fh (iv a n) V=i)(aw:iv a n V[i]=true):eR V n a=eR V n (V[i]+1):=by
 have:=Gb (auT hi) (AO aw).1;have ar:¬fh (iv a n) V<0:=auD
 rw[<-XM (qo V a+1) a auD,m9,auN ar,Gc hi e,XM _ _ auD]
theorem XN{V:List Int}{n bY:Int}(hT:∀k∈V,k<=bY):∀(f:Nat) (a:Int),a<=m9 V n f a/\(m9 V n f a<=a\/m9 V n f a<=bY+1)
 |0,a=>⟨avK _,.inl (avK _)⟩
 |f+1,a=>by rcases E8 (iv a n) V with⟨e,_⟩|⟨i,hi,e,aw,_⟩;(have ar:fh (iv a n) V<0:=by omega);rw[CU ar];omega;(have ar:¬fh (iv a n) V<0:=by omega);rw[m9,auN ar,Gc hi e];have h1:=XN (n:=n) hT f (V[i]+1);have A:=(AO aw).1;have aa:=hT _ (auT hi);omega
theorem Gd{n bY:Int}(hT:∀k∈V,k<=bY)(a:Int):a<=eR V n a/\(eR V n a<=a\/eR V n a<=bY+1):=XN hT _ _
theorem akc(a n k:Int)(ha:-1000000000000<=a)(CR:a<=1000000000000)(ar:0<=n)(Fo:n<=1000000000000)(dI ca:Nat):c4 B 144 [u k,.box 4101 dI 0,.box 4102 ca 0] (aM [(4101,.box dI [u a]),(4102,.box ca [u n])]) λd aO=>d=.bool (iv a n k)/\aO=aM [(4101,.box dI [u a]),(4102,.box ca [u n])]:=by refine jI Tryz.func144 Tryz.ntmps144 λW=>?_;apply b1;apply b1;(conv=>whnf);refine dc ?_;refine Y.gS [(4,.bool (iv a n k))] [(4101,.box dI [u a]),(4102,.box ca [u n])] [(4101,4101),(4102,4102)] ⟨an,rfl,a_⟩ ?_;exact azs
theorem XO(V:List Int)(hT:V.length<1000000)(b6:Nat)(cs:List D)(dj dt:aJ)(p:Int->Bool)(m5:∀k∈V,c4 B b6 (u k::cs) (aM [(4101,dj),(4102,dt)]) λd aO=>d=.bool (p k)/\aO=aM [(4101,dj),(4102,dt)]):c4 B 143 [.T .none 1 (bo V),.fn (.func b6) [] cs] (aM [(4101,dj),(4102,dt)]) λd aO=>d=u (fh p V)/\aO=aM [(4101,dj),(4102,dt)]:=by refine jI Tryz.func143 Tryz.ntmps143 λW=>?_;refine go ?_;refine Y.ee (α:={i:Nat // i<=V.length/\∀j (h:j<V.length),j<i->p (V[j])=false}) (λx=>[(0,.T .none 1 (bo V)),(1,.fn (.func b6) [] cs),(7,u (bo V).length),(8,u x.1)]) (λ_=>[(4101,dj),(4102,dt)]) (λx=>V.length-x.1) ⟨0,by simp⟩ [(4101,4101),(4102,4102)] ⟨an,rfl,a_⟩ ?_;rintro⟨i,hi,aw⟩;dsimp only;refine go ?_;refine aI (decide ((i:Int)<(bo V).length)) rfl ?_ ?_<;>intro hc;apply ci;(have aG:i<V.length:=by simpa[bo]using hc);refine jJ ?_;apply b1;refine qI ?_;refine .inl ⟨λ_=>by simp[bo];omega,?_⟩;(conv=>whnf);refine .inl ⟨u V[i],λ_=>Vm aG,?_⟩;refine go ?_;refine .inr (ah.call rfl (u V[i]::cs) [(4101,4101),(4102,4102)] (c8.xq rfl rfl (m5 V[i] (auT aG))) rfl ⟨E,dO.refl _⟩ ?_);rintro d aO ⟨rfl,rfl⟩;refine p8 ?_;refine aI (p V[i]) rfl ?_ ?_<;>intro hc;refine cc ?_;refine Y.gS [(4,u (fh p V))] [(4101,dj),(4102,dt)] [(4101,4101),(4102,4102)] ⟨⟨dx (zP (p:=p) aG aw hc).symm,ak⟩,rfl,a_⟩ ?_;refine go ?_;exact⟨_,E,rfl,rfl⟩;refine go ?_;exact⟨⟨i+1,aG,λj h ad=>ay0⟩,[(4101,4101),(4102,4102)],azi,an,rfl,a_⟩;(have cr:i=V.length:=by simp[bo]at hc;omega);refine sN ?_;refine Y.gS [(4,u (fh p V))] [(4101,dj),(4102,dt)] [(4101,4101),(4102,4102)] ⟨⟨dx (zQ (p:=p) λj h=>aw j h auD).symm,ak⟩,rfl,a_⟩ ?_;exact azs
theorem O3(V:List Int)(hT:V.length<1000000)(g7:∀k∈V,k<=1000000)(a n:Int)(ha:0<=a)(CR:a<=100000000000)(ar:0<=n)(Fo:n<=100000000000)(dM cG:Nat):c4 B 142 [u n,.box 4201 dM 0,.box 4202 cG 0] (aM [(4201,.box dM [.T .none 1 (bo V)]),(4202,.box cG [u a])]) λd aO=>d=u (eR V n a)/\aO=aM [(4201,.box dM [.T .none 1 (bo V)]),(4202,.box cG [u (eR V n a+n)])]:=by refine jI Tryz.func142 Tryz.ntmps142 λW=>?_;refine cc ?_;intro el;apply n1;refine Y.ee (α:={x:Int // eR V n x=eR V n a/\a<=x/\(x<=a\/x<=1000001)}) (λx=>[(1,.box 4201 dM 0),(2,.box 4202 cG 0),(3,.box 3 el 0)]) (λx=>[(4201,.box dM [.T .none 1 (bo V)]),(4202,.box cG [u x.1]),(3,.box el [u n])]) (λx=>qo V x.1) ⟨a,rfl,avK _,.inl (avK _)⟩ [(4201,4201),(4202,4202),(3,3)] ⟨an,rfl,a_⟩ ?_;rintro⟨x,J,CV,Ge⟩;dsimp only at J CV Ge⊢;apply n1;refine qI ?_;refine .inl ⟨rfl,?_⟩;(conv=>whnf);refine .inr (ah.call rfl [.T .none 1 (bo V),.fn (.func 144) [] [.box 4101 cG 0,.box 4102 el 0]] [(4101,4202),(4102,3)] (c8.xq rfl rfl (XO V hT 144 [.box 4101 cG 0,.box 4102 el 0] _ _ (iv x n) (λk Z=>akc x n k auD auD ar auD cG el))) rfl ⟨E,ap.fn trivial ⟨ap.box,ap.box,ak⟩,ak⟩ ?_);rintro d aO ⟨rfl,rfl⟩;refine⟨_,E,?_⟩;refine gj ?_;refine aI (decide (fh (iv x n) V<0)) rfl ?_ ?_<;>intro hc;apply eh;have M:eR V n x=x:=aka (avg hc);apply jH;apply cj;refine gK ?_;apply cj;refine hb ?_;apply cj;refine cc ?_;refine Y.gS [(4,u x)] [(4201,.box dM [.T .none 1 (bo V)]),(4202,.box cG [u (x+n)])] [(4201,4201),(4202,4202)] ⟨an,rfl,a_⟩ ?_;(conv=>whnf);(have lJ:eR V n a=x:=by rw[<-J,M]);rw[lJ];exact⟨_,E,rfl,rfl⟩;have jl:¬fh (iv x n) V<0:=ava hc;(obtain⟨i,hi,e,aw⟩:∃(i:Nat) (h:i<V.length),fh (iv x n) V=i/\iv x n V[i]=true:=by rcases E8 (iv x n) V with⟨e,_⟩|⟨i,hi,e,aw,_⟩;omega;exact⟨i,hi,e,aw⟩);have c2:=akb hi e aw;have bg:=Gb (auT hi) (AO aw).1;have cA:=AO aw;have Z:=g7 _ (auT hi);rw[e];apply ci;apply jH;refine ej ?_;refine⟨λ_=>by simp[bo];omega,?_⟩;(conv=>whnf);refine⟨u V[i],λ_=>Vm hi,?_⟩;refine hb ?_;refine ej ?_;exact⟨⟨V[i]+1,by rw[<-c2,J],by omega,.inr auD⟩,[(4201,4201),(4202,4202),(3,3)],bg,an,rfl,a_⟩
section
def co(l:List (auM×α))(k:auM):Option α:=(l.find? λx=>x.1==k).map (·.2)
def fz(l:List (auM×α))(k:auM)(v:α):List (auM×α) :=
 match co l k with
 |some _=>l.map λx=>if x.1==k then(x.1,v)else x
 |none=>l++[(k,v)]
def br(enc:α->D)(l:List (auM×α)):List (D×D):=l.map λx=>(.N x.1,enc x.2)
theorem O4(enc:α->D)(l:List (auM×α))(k:auM):j9 (br enc l) (.N k)=(co l k).map enc:=by unfold j9 co br;induction l with|nil=>rfl|cons x r aV =>rw[avc,awA,awA];show(match x.1==k with|true=>_|false=>_:Option (D×D)).map _=_;(cases h:x.1==k with|true=>rfl|false=>exact aV)
theorem akd(enc:α->D)(l:List (auM×α))(k:auM)(v:α):nu (br enc l) (.N k) (enc v)=br enc (fz l k v):=by unfold nu fz;rw[O4];cases h:co l k with|none=>simp[br]|some y =>simp only[av5,br,avR];congr 1;funext x;show(if x.1==k then _ else _)=_;simp only[Function.comp];split<;>rfl
theorem O5(enc:α->D)(l:List (auM×α)):∀x∈br enc l,mY .string x.1=true:=by intro x J;exact azu
theorem O6(x:auM×α)(r:List (auM×α))(q:auM):co (x::r) q=if x.1=q then some x.2 else co r q:=by unfold co;rw[awA];by_cases h:x.1=q;rw[auO h];simp[h];rw[auN h];(have:(x.1==q)=false:=by simpa using h);rw[this]
theorem XP(k:auM)(v:α)(q:auM):∀l:List (auM×α),co (l.map λx=>if x.1==k then(x.1,v)else x) q=if q=k then(co l k).map (λ_=>v)else co l q
 |[]=>by split<;>rfl
 |x::r=>by rw[avc,O6,XP k v q r,O6,O6];by_cases h:x.1=k;by_cases I:q=k;subst I;simp[h];have:¬k=q:=λe=>I e.symm;simp[h,I,this];by_cases I:q=k;subst I;simp[h];simp[h,I]
theorem y2(l:List (auM×α))(k:auM)(v:α)(q:auM):co (fz l k v) q=if q=k then some v else co l q:=by unfold fz;cases h:co l k with|none =>simp only[co,List.find?_append];by_cases I:q=k;subst I;rw[auO rfl];(have:l.find? (λx=>x.1==q)=none:=by simpa[co]using h);rw[this];simp;rw[auN I];(have:((k==q)=false):=by simpa using λe=>I e.symm);cases l.find? (λx=>x.1==q)<;>simp[this]|some y=>rw[XP,h];rfl
end
variable{P:Program}{al:Nat}{z:av}{dst:Option Tmp}{K:av->Prop}{em eB:TypeId}{x:Operand}{ok:Bool}{b:Nat}{e1:Value}
theorem _root_.Go.bV.ah.qp{t:TypeId}{m:Operand}(s:Nat){enc:α->D}{l:List (auM×α)}{k:auM}{Q:α}(hm:P.underlying t=some (.map em eB))(O:P.underlying em=some .string)(J:z.bb m=.am (.map (some b)))(hs:z.H s=some (.mp b (br enc l)))(I:z.bb x=.N k)(bn:∀w,(zeroValue eB).run P w=.ok e1 w)(iH:∀w C,bh w C (enc Q) e1)(hK:K (z.put dst (if ok then .bm [enc ((co l k).getD Q),.bool (co l k).isSome]else enc ((co l k).getD Q)))):ah P B al z dst (.lookup t m x ok) K:=by cases aS:co l k with|some y =>rw[aS]at hK;exact ah.Id s hm O J hs I rfl (O5 enc l) (by rw[O4,aS];rfl) hK|none =>rw[aS]at hK;exact ah.MS s hm O J hs I rfl (O5 enc l) (by rw[O4,aS];rfl) bn iH hK
variable{y:Operand}
theorem _root_.Go.bV.ah.xr{t:TypeId}{m:Operand}(s:Nat){enc:α->D}{l:List (auM×α)}{k:auM}{v:α}(hm:P.underlying t=some (.map em eB))(O:P.underlying em=some .string)
  (J:z.bb m=.am (.map (some b))) (hs:z.H s=some (.mp b (br enc l))) (I:z.bb x=.N k) (hy:z.bb y=enc v)
  (hK:K ((z.b_ s (some (.mp b (br enc (fz l k v))))).put dst .undef)):ah P B al z dst (.mapUpdate t m x y) K :=
 ah.z' s hm O J hs I rfl (O5 enc l) (by rw[hy,akd];exact hK)
structure dF where
 m:fT
 files:List e8
 cS:List auM
 a':List (auM×dl)
 start:Int
 iso:Int
 du:Int
 desc:Int
 free:Int
def fm(p:dF)(cp:Nat):List D:=(im p.m).cells++[.T .none 2 (p.files.map ek),.T .none 1 (aQ p.cS),.am (.map (some cp)),u p.start,u p.iso,u p.du,u p.desc,u p.free]
def gC:dl:=⟨[],0,0⟩
structure AP where
 data:List (auM×auM)
 own:List (auM×dl)
 aR:List (auM×dl)
def jW(p:dF)(s:AP)(f:e8):AP :=
 if(co p.a' f.path).isSome=true then
  {data:=fz s.data f.path f.data,own:=fz s.own f.path ((co p.a' f.path).getD gC),
    aR:=if(bif p.m.m2 then !(co s.aR f.data).isSome else false)=true then fz s.aR f.data ((co p.a' f.path).getD gC)else s.aR}
 else{s with data:=fz s.data f.path f.data}
def kJ(p:dF)(l:List e8):AP:=l.foldl (jW p) ⟨[],[],[]⟩
theorem ake(p:dF){l:List e8}(h:i<l.length):kJ p (l.take (i+1))=jW p (kJ p (l.take i)) l[i]:=by rw[kJ,auU h,avW];rfl
structure oq where
 own:List (auM×dl)
 aR:List (auM×dl)
 a:Int
def pN(p:dF)(V:List Int)(data:List (auM×auM))(s:oq)(path:auM):oq :=
 if(co s.aR ((co data path).getD [])).isSome=true then s else
  {own:=fz s.own path ⟨path,eR V (io ((co data path).getD []).length) s.a,((co data path).getD []).length⟩,
    aR:=if p.m.m2=true then fz s.aR ((co data path).getD []) ⟨path,eR V (io ((co data path).getD []).length) s.a,((co data path).getD []).length⟩else s.aR,
    a:=eR V (io ((co data path).getD []).length) s.a+io ((co data path).getD []).length}
def jf(p:dF)(V:List Int)(data:List (auM×auM))(s:oq)(l:List auM):oq:=l.foldl (pN p V data) s
theorem akf(p:dF)(V:List Int)(data:List (auM×auM))(s:oq){l:List auM}(h:i<l.length):jf p V data s (l.take (i+1))=pN p V data (jf p V data s (l.take i)) l[i]:=by rw[jf,auU h,avW];rfl
def v7(p:dF)(V:List Int)(a:Int):oq:=jf p V (kJ p p.files).data ⟨(kJ p p.files).own,(kJ p p.files).aR,a⟩ p.cS
theorem xt(w:World)(C:Nat->Nat):bh w C (bj gC) (.agg #[.string ⟨#[]⟩,.int .i64 0,.int .i64 0]) :=
 .agg [.N [],.int .i64 0,.int .i64 0] [.string ⟨#[]⟩,.int .i64 0,.int .i64 0] rfl (λj d v O X=>by
  match j with
  |0=>cases O;cases X;exact .N []
  |1=>cases O;cases X;exact .int _ _
  |2=>cases O;cases X;exact .int _ _
  |j+3=>simp at O)
theorem XQ{n:Nat}(h:n<=100000000):0<=io (n:Int)/\io (n:Int)<=50000:=by unfold io;have b0:(n:Int).tdiv 2048=n/2048:=au4 auD;have kx:(n:Int).tmod 2048=n%2048:=avH auD;rw[b0,kx];split<;>omega
theorem XR{p:dF}{bY:Nat}:∀(l:List e8) (s:AP),(∀f∈l,f.data.length<=bY)->(∀q d,co s.data q=some d->d.length<=bY)->∀q d,co (l.foldl (jW p) s).data q=some d->d.length<=bY
 |[],s,_,h=>h
 |f::l,s,h1,h=>by refine XR l _ (λg aS=>h1 g (auZ _ aS)) λq d I=>?_;(have e:(jW p s f).data=fz s.data f.path f.data:=by unfold jW;split<;>rfl);rw[e,y2]at I;split at I;cases I;exact h1 f auY;exact h q d I
theorem O7{p:dF}{l:List e8}(h:∀f∈l,f.data.length<=100000000)(q:auM):((co (kJ p l).data q).getD []).length<=100000000:=by cases aS:co (kJ p l).data q with|none=>exact au7 _|some d=>exact XR l _ h (λq d I=>by cases I) q d aS
variable{data:List (auM×auM)}
theorem XS{p:dF}(g7:∀k∈V,k<=1000000)(O:∀q,((co data q).getD []).length<=100000000)(s:oq)(q:auM)(h:0<=s.a): 0<=(pN p V data s q).a/\(pN p V data s q).a<=max s.a 1000001+50000:=by unfold pN;have h1:=XQ (O q);have A:=Gd (n:=io ((co data q).getD []).length) g7 s.a;split;omega;show 0<=_+_/\_+_<=_;omega
theorem O8{p:dF}{V:List Int}(g7:∀k∈V,k<=1000000){data:List (auM×auM)}(O:∀q,((co data q).getD []).length<=100000000):∀(l:List auM) (s:oq),0<=s.a->0<=(jf p V data s l).a/\(jf p V data s l).a<=max s.a 1000001+50000*(l.length:Int)
 |[],s,h=>by show 0<=s.a/\s.a<=max s.a 1000001+50000*(0:Int);omega
 |q::l,s,h=>by have h1:=XS (p:=p) g7 O s q h;have A:=O8 (p:=p) g7 O l (pN p V data s q) h1.1;have e:jf p V data s (q::l)=jf p V data (pN p V data s q) l:=rfl;rw[e,auX];omega
theorem Js{l:List e8}(h:i<l.length):(l.map ek)[((i:Int)).toNat]?=some (ek l[i]):=by simp[h]
theorem akg(p:dF)(V:List Int)(hT:V.length<1000000)(g7:∀k∈V,k<=1000000)(a:Int)(ha:0<=a)(CR:a<=10000000000)(ag:p.cS.length<=100000)(dg:p.files.length<1000000)(v8:∀f∈p.files,f.data.length<=100000000)(b9 cp dM cG:Nat):c4 B 145 [.box 4000 b9 0,.fn (.func 142) [] [.box 4201 dM 0,.box 4202 cG 0]] (aM [(4000,.box b9 (fm p cp)),(4001,.mp cp (br bj p.a')),(4201,.box dM [.T .none 1 (bo V)]),(4202,.box cG [u a])]) λd aO=>∃cq aP,d=.bm [.am (.map (some cq)),.am (.map (some aP))]/\aO=aM [(4000,.box b9 (fm p cp)),(4001,.mp cp (br bj p.a')),(4201,.box dM [.T .none 1 (bo V)]),(4202,.box cG [u (v7 p V a).a]),(4002,.mp cq (br bj (v7 p V a).own)),(4003,.mp aP (br bj (v7 p V a).aR))]:=by refine jI Tryz.func145 Tryz.ntmps145 λW=>?_;refine go ?_;refine .inr (ah.vu λcq=>?_);refine go ?_;refine .inr (ah.vu λaP=>?_);refine go ?_;refine .inr (ah.vu λtb=>?_);refine go ?_;refine Y.ee (α:={i:Nat // i<=p.files.length}) (λx=>[(0,.box 4000 b9 0),(1,.fn (.func 142) [] [.box 4201 dM 0,.box 4202 cG 0]),(6,.am (.map (some cq))),(7,.am (.map (some aP))),(8,.am (.map (some tb))),(27,.T .none 2 (p.files.map ek)),(28,u ((p.files.map ek).length:Nat)),(29,u x.1)]) (λx=>[(4000,.box b9 (fm p cp)),(4001,.mp cp (br bj p.a')),(4201,.box dM [.T .none 1 (bo V)]),(4202,.box cG [u a]),(21,.mp cq (br bj (kJ p (p.files.take x.1)).own)),(22,.mp aP (br bj (kJ p (p.files.take x.1)).aR)),(23,.mp tb (br D.N (kJ p (p.files.take x.1)).data))]) (λx=>p.files.length-x.1) ⟨0,au7 _⟩ [(4000,4000),(4001,4001),(4201,4201),(4202,4202),(21,21),(22,22),(23,23)] ⟨an,rfl,a_⟩ ?_;rintro⟨i,hi⟩;dsimp only at hi⊢;refine go ?_;refine aI (decide ((i:Int)<((p.files.map ek).length:Nat))) rfl ?_ ?_<;>intro hc;(·apply ci;(have aG:i<p.files.length:=by simpa using hc);have c2:=ake p aG;generalize kJ p (p.files.take i)=s at*;refine vg ?_;refine⟨ek p.files[i],λ_=>Js aG,?_⟩;refine go ?_;intro jS;refine go ?_;refine .inr (ah.xr 23 (em:=9) (eB:=9) (enc:=D.N) (v:=p.files[i].data) rfl rfl rfl rfl rfl rfl ?_);apply eh;refine Y.fc [(0,.box 4000 b9 0),(1,.fn (.func 142) [] [.box 4201 dM 0,.box 4202 cG 0]),(6,.am (.map (some cq))),(7,.am (.map (some aP))),(8,.am (.map (some tb))),(10,.box 10 jS 0),(27,.T .none 2 (p.files.map ek)),(28,u ((p.files.map ek).length:Nat)),(29,u (i:Int))] [(4000,.box b9 (fm p cp)),(4001,.mp cp (br bj p.a')),(4201,.box dM [.T .none 1 (bo V)]),(4202,.box cG [u a]),(21,.mp cq (br bj s.own)),(22,.mp aP (br bj s.aR)),(23,.mp tb (br D.N (fz s.data p.files[i].path p.files[i].data))),(10,.box jS (ek p.files[i]).cells)] ([(4000,4000),(4001,4001),(4201,4201),(4202,4202),(21,21),(22,22),(23,23),(10,10)]) ⟨an,rfl,a_⟩ ?_;refine' eU (α:=Nat) [(4000,.box b9 (fm p cp)),(4001,.mp cp (br bj p.a')),(4201,.box dM [.T .none 1 (bo V)]),(4202,.box cG [u a]),(21,.mp cq (br bj s.own)),(22,.mp aP (br bj s.aR)),(23,.mp tb (br D.N (fz s.data p.files[i].path p.files[i].data))),(10,.box jS (ek p.files[i]).cells)] 0 (λy=>[_,_,_,_,_,_,.bm [bj ((co p.a' p.files[i].path).getD gC),.bool (co p.a' p.files[i].path).isSome],_,_,_,.box 11 y 0,.any,_]) (λy=>[(10,11,some (.box y ([.N [],u 0,u 0]))),(11,11,some (.box y ((bj ((co p.a' p.files[i].path).getD gC)).cells)))]) [0,1,3,7,0,16,63,127,255,255,0,1535,4095] [(10,11),(11,11)] ?_ ?_;rotate_left 10;refine dB ?_;refine bQ (λy=>ah.qp 4001 (em:=9) (eB:=53) (enc:=bj) (Q:=gC) rfl rfl rfl rfl rfl auL (λw C=>xt w C) (cB y)) ?_;refine wR ?_;exact trivial;intro y;(conv=>whnf);refine Y.fc [(0,.box 4000 b9 0),(1,.fn (.func 142) [] [.box 4201 dM 0,.box 4202 cG 0]),(6,.am (.map (some cq))),(7,.am (.map (some aP))),(8,.am (.map (some tb))),(10,.box 10 jS 0),(27,.T .none 2 (p.files.map ek)),(28,u ((p.files.map ek).length:Nat)),(29,u (i:Int)),(11,.box 11 y 0),(12,.bool (co p.a' p.files[i].path).isSome)] [(4000,.box b9 (fm p cp)),(4001,.mp cp (br bj p.a')),(4201,.box dM [.T .none 1 (bo V)]),(4202,.box cG [u a]),(21,.mp cq (br bj s.own)),(22,.mp aP (br bj s.aR)),(23,.mp tb (br D.N (fz s.data p.files[i].path p.files[i].data))),(10,.box jS (ek p.files[i]).cells),(11,.box y (bj ((co p.a' p.files[i].path).getD gC)).cells)] [(4000,4000),(4001,4001),(4201,4201),(4202,4202),(21,21),(22,22),(23,23),(10,10),(11,11)] ⟨cX,rfl,cX⟩ ?_;refine go ?_;refine aI (co p.a' p.files[i].path).isSome rfl ?_ ?_<;>intro hc;refine go ?_;refine .inr (ah.xr 21 (em:=9) (eB:=53) (enc:=bj) (v:=((co p.a' p.files[i].path).getD gC)) rfl rfl rfl rfl rfl rfl ?_);refine go ?_;refine .inr (ah.qp 22 (em:=9) (eB:=53) (enc:=bj) (Q:=gC) rfl rfl rfl rfl rfl auL (λw C=>xt w C) ?_);refine go ?_;intro XT;refine go ?_;refine aI (bif p.m.m2 then !(co s.aR p.files[i].data).isSome else false) rfl ?_ ?_<;>intro bx;refine go ?_;refine .inr (ah.xr 22 (em:=9) (eB:=53) (enc:=bj) (v:=((co p.a' p.files[i].path).getD gC)) rfl rfl rfl rfl rfl rfl ?_);refine go ?_;(have J:kJ p (p.files.take (i+1))=⟨fz s.data p.files[i].path p.files[i].data,fz s.own p.files[i].path ((co p.a' p.files[i].path).getD gC),fz s.aR p.files[i].data ((co p.a' p.files[i].path).getD gC)⟩:=by rw[c2,jW,auO hc,auO bx]);exact⟨⟨i+1,aG⟩,[(4000,4000),(4001,4001),(4201,4201),(4202,4202),(21,21),(22,22),(23,23)],ay1,an,rfl,rfl,rfl,rfl,rfl,rfl,rfl,rfl,rfl,rfl,auP (λQ=>some (aJ.mp cq (br bj Q))) (by rw[J]),rfl,auP (λQ=>some (aJ.mp aP (br bj Q))) (by rw[J]),rfl,auP (λQ=>some (aJ.mp tb (br D.N Q))) (by rw[J]),ak⟩;refine go ?_;(have J:kJ p (p.files.take (i+1))=⟨fz s.data p.files[i].path p.files[i].data,fz s.own p.files[i].path ((co p.a' p.files[i].path).getD gC),s.aR⟩:=by rw[c2,jW,auO hc,auN (by rw[bx];decide)]);exact⟨⟨i+1,aG⟩,[(4000,4000),(4001,4001),(4201,4201),(4202,4202),(21,21),(22,22),(23,23)],ay1,an,rfl,rfl,rfl,rfl,rfl,rfl,rfl,rfl,rfl,rfl,auP (λQ=>some (aJ.mp cq (br bj Q))) (by rw[J]),rfl,auP (λQ=>some (aJ.mp aP (br bj Q))) (by rw[J]),rfl,auP (λQ=>some (aJ.mp tb (br D.N Q))) (by rw[J]),ak⟩;refine go ?_;(have J:kJ p (p.files.take (i+1))=⟨fz s.data p.files[i].path p.files[i].data,s.own,s.aR⟩:=by rw[c2,jW,auN (by rw[hc];decide)]);exact⟨⟨i+1,aG⟩,[(4000,4000),(4001,4001),(4201,4201),(4202,4202),(21,21),(22,22),(23,23)],ay1,an,rfl,rfl,rfl,rfl,rfl,rfl,rfl,rfl,rfl,rfl,auP (λQ=>some (aJ.mp cq (br bj Q))) (by rw[J]),rfl,auP (λQ=>some (aJ.mp aP (br bj Q))) (by rw[J]),rfl,auP (λQ=>some (aJ.mp tb (br D.N Q))) (by rw[J]),ak⟩);(have cr:i=p.files.length:=by simp at hc;omega);subst cr;rw[au2];have jG:=O7 (p:=p) v8;have j5:v7 p V a=jf p V (kJ p p.files).data ⟨(kJ p p.files).own,(kJ p p.files).aR,a⟩ p.cS:=rfl;rw[j5];have XU:=λl=>O8 (p:=p) g7 jG l ⟨(kJ p p.files).own,(kJ p p.files).aR,a⟩ ha;generalize kJ p p.files=akh at*;obtain⟨uB,f2,hC⟩:=akh;dsimp only at jG XU⊢;refine go ?_;refine Y.ee (α:={i:Nat // i<=p.cS.length}) (λx=>[(0,.box 4000 b9 0),(1,.fn (.func 142) [] [.box 4201 dM 0,.box 4202 cG 0]),(6,.am (.map (some cq))),(7,.am (.map (some aP))),(8,.am (.map (some tb))),(77,.T .none 1 (aQ p.cS)),(78,u ((aQ p.cS).length:Nat)),(79,u x.1)]) (λx=>[(4000,.box b9 (fm p cp)),(4001,.mp cp (br bj p.a')),(4201,.box dM [.T .none 1 (bo V)]),(4202,.box cG [u (jf p V uB ⟨f2,hC,a⟩ (p.cS.take x.1)).a]),(21,.mp cq (br bj (jf p V uB ⟨f2,hC,a⟩ (p.cS.take x.1)).own)),(22,.mp aP (br bj (jf p V uB ⟨f2,hC,a⟩ (p.cS.take x.1)).aR)),(23,.mp tb (br D.N uB))]) (λx=>p.cS.length-x.1) ⟨0,au7 _⟩ [(4000,4000),(4001,4001),(4201,4201),(4202,4202),(21,21),(22,22),(23,23)] ⟨an,rfl,a_⟩ ?_;rintro⟨i,hi⟩;dsimp only at hi⊢;refine go ?_;refine aI (decide ((i:Int)<((aQ p.cS).length:Nat))) rfl ?_ ?_<;>intro hc;apply ci;(have aG:i<p.cS.length:=by simpa[aQ]using hc);have c2:=akf p V uB ⟨f2,hC,a⟩ aG;have qA:=XU (p.cS.take i);rw[au9]at qA;have ud:=jG p.cS[i];have tS:=XQ ud;generalize jf p V uB ⟨f2,hC,a⟩ (p.cS.take i)=y at*;generalize yY:(co uB p.cS[i]).getD []=d at*;refine gJ ?_;refine⟨λ_=>by simp[aQ];omega,?_⟩;refine go ?_;refine⟨.N p.cS[i],λ_=>Ga aG,?_⟩;refine go ?_;refine .inr (ah.qp 23 (em:=9) (eB:=9) (enc:=D.N) (Q:=[]) rfl rfl rfl rfl rfl auL (λw C=>.N _) ?_);rw[yY];refine go ?_;refine .inr (ah.qp 22 (em:=9) (eB:=53) (enc:=bj) (Q:=gC) rfl rfl rfl rfl rfl auL (λw C=>xt w C) ?_);refine go ?_;intro O9;refine go ?_;refine aI (co y.aR d).isSome rfl ?_ ?_<;>intro bx;refine go ?_;(have J:jf p V uB ⟨f2,hC,a⟩ (p.cS.take (i+1))=y:=by rw[c2,pN,yY,auO bx]);exact⟨⟨i+1,aG⟩,[(4000,4000),(4001,4001),(4201,4201),(4202,4202),(21,21),(22,22),(23,23)],ay8,an,rfl,rfl,rfl,rfl,rfl,rfl,rfl,rfl,auP (λQ=>some (aJ.box cG [u Q])) (by rw[J]),rfl,auP (λQ=>some (aJ.mp cq (br bj Q))) (by rw[J]),rfl,auP (λQ=>some (aJ.mp aP (br bj Q))) (by rw[J]),rfl,a_⟩;refine go ?_;refine .inl ⟨[u (d.length:Nat)],_,λ_=>Nh (d.length:Nat) auD auD,an,?_⟩;refine go ?_;refine .inr (ah.call rfl [u (io (d.length:Nat)),.box 4201 dM 0,.box 4202 cG 0] [(4201,4201),(4202,4202)] (c8.xq rfl rfl (O3 V hT g7 y.a (io (d.length:Nat)) qA.1 auD tS.1 auD dM cG)) rfl an ?_);rintro d' aO ⟨rfl,rfl⟩;refine p8 ?_;intro ra;refine go ?_;refine .inr (ah.xr 21 (em:=9) (eB:=53) (enc:=bj) (v:=⟨p.cS[i],eR V (io (d.length:Nat)) y.a,(d.length:Nat)⟩) rfl rfl rfl rfl rfl rfl ?_);refine go ?_;refine aI p.m.m2 rfl ?_ ?_<;>intro eb;refine go ?_;refine .inr (ah.xr 22 (em:=9) (eB:=53) (enc:=bj) (v:=⟨p.cS[i],eR V (io (d.length:Nat)) y.a,(d.length:Nat)⟩) rfl rfl rfl rfl rfl rfl ?_);refine go ?_;(have J:jf p V uB ⟨f2,hC,a⟩ (p.cS.take (i+1))=⟨fz y.own p.cS[i] ⟨p.cS[i],eR V (io (d.length:Nat)) y.a,(d.length:Nat)⟩,fz y.aR d ⟨p.cS[i],eR V (io (d.length:Nat)) y.a,(d.length:Nat)⟩,eR V (io (d.length:Nat)) y.a+io (d.length:Nat)⟩:=by rw[c2,pN,yY,auN (by rw[bx];decide),auO eb]);exact⟨⟨i+1,aG⟩,[(4000,4000),(4001,4001),(4201,4201),(4202,4202),(21,21),(22,22),(23,23)],ay8,an,rfl,rfl,rfl,rfl,rfl,rfl,rfl,rfl,auP (λQ=>some (aJ.box cG [u Q])) (by rw[J]),rfl,auP (λQ=>some (aJ.mp cq (br bj Q))) (by rw[J]),rfl,auP (λQ=>some (aJ.mp aP (br bj Q))) (by rw[J]),rfl,a_⟩;refine go ?_;(have J:jf p V uB ⟨f2,hC,a⟩ (p.cS.take (i+1))=⟨fz y.own p.cS[i] ⟨p.cS[i],eR V (io (d.length:Nat)) y.a,(d.length:Nat)⟩,y.aR,eR V (io (d.length:Nat)) y.a+io (d.length:Nat)⟩:=by rw[c2,pN,yY,auN (by rw[bx];decide),auN (by rw[eb];decide)]);exact⟨⟨i+1,aG⟩,[(4000,4000),(4001,4001),(4201,4201),(4202,4202),(21,21),(22,22),(23,23)],ay8,an,rfl,rfl,rfl,rfl,rfl,rfl,rfl,rfl,auP (λQ=>some (aJ.box cG [u Q])) (by rw[J]),rfl,auP (λQ=>some (aJ.mp cq (br bj Q))) (by rw[J]),rfl,auP (λQ=>some (aJ.mp aP (br bj Q))) (by rw[J]),rfl,a_⟩;(have cr:i=p.cS.length:=by simp[aQ]at hc;omega);subst cr;rw[au2];generalize jf p V uB ⟨f2,hC,a⟩ p.cS=y at*;refine sN ?_;refine Y.gS [(4,.am (.map (some cq))),(5,.am (.map (some aP)))] [(4000,.box b9 (fm p cp)),(4001,.mp cp (br bj p.a')),(4201,.box dM [.T .none 1 (bo V)]),(4202,.box cG [u y.a]),(4002,.mp cq (br bj y.own)),(4003,.mp aP (br bj y.aR))] [(4000,4000),(4001,4001),(4201,4201),(4202,4202),(4002,21),(4003,22)] ⟨an,rfl,a_⟩ ?_;refine go ?_;exact⟨.bm [.am (.map (some cq)),.am (.map (some aP))],(show dO [.am (.map (some cq)),.am (.map (some aP))] [.am (.map (some cq)),.am (.map (some aP))]from an),cq,aP,rfl,rfl⟩
def AQ:U:=⟨[],0,[],[],0,0,0,0,0,0,[],[]⟩
theorem Jt(w:World)(C:Nat->Nat):bh w C (az AQ) (.agg #[.string ⟨#[]⟩,.int .i64 0,.string ⟨#[]⟩,.string ⟨#[]⟩,.int .i64 0,.int .i64 0,.int .i64 0,.int .i64 0,.int .i64 0,.int .i64 0,.slice none 0 0,.slice none 0 0]) :=
 .agg (az AQ).cells [.string ⟨#[]⟩,.int .i64 0,.string ⟨#[]⟩,.string ⟨#[]⟩,.int .i64 0,.int .i64 0,.int .i64 0,.int .i64 0,.int .i64 0,.int .i64 0,.slice none 0 0,.slice none 0 0] rfl (λj d v O X=>by
  match j with
  |0=>cases O;cases X;exact .N []
  |1=>cases O;cases X;exact .int _ _
  |2=>cases O;cases X;exact .N []
  |3=>cases O;cases X;exact .N []
  |4=>cases O;cases X;exact .int _ _
  |5=>cases O;cases X;exact .int _ _
  |6=>cases O;cases X;exact .int _ _
  |7=>cases O;cases X;exact .int _ _
  |8=>cases O;cases X;exact .int _ _
  |9=>cases O;cases X;exact .int _ _
  |10=>cases O;cases X;exact .jj .none 12 none trivial
  |11=>cases O;cases X;exact .jj .none 2 none trivial
  |j+12=>simp[az,D.cells]at O)
def XV:D:=.agg [.N [],.N [],.N [],.N [],.N [],u 1,u 0,u 0]
def dH(o:fk)(n:U)(bW bG:Nat):D:=.agg [.bool o.qY,.bool o.rock,u o.c6,.T .none 6 (o.gM.map pw),.N [],.N [],.N [],.N [],.N [],u 1,u 0,u 0,.N n.name,u n.kind,.N n.cU,.N n.target,u n.cu,u n.n2,u n.n3,u n.n4,u n.n5,u n.n6,.T .none 12 (n.F.map enc),.T .none 2 (n.bD.map cW),.am (.map (some bW)),.am (.map (some bG))]
def ot(id:auM)(fj c6 aki leads:Int)(L:D):D:=.agg [.N id,u 0,u 0,u fj,u c6,u aki,u 1,.N [],u leads,.fn (.func 229) [] [],L,.bd]
theorem CW(o:fk)(n m:U)(bW bG:Nat)(id:auM)(leads gI:Int)(M:gI=bif decide ((0:Int)<=leads)then 2 else 0):aT B 159 [.a7 26 [dH o n bW bG] 0 0,.N id,az m,u leads] (ot id m.n4 o.c6 gI leads .bd):=by refine bB Tryz.func159 Tryz.ntmps159 λW=>?_;refine go ?_;intro dW;refine go ?_;intro cG;refine go ?_;refine' eU (α:=Nat) [(6,.box dW (az m).cells),(8,.box cG [.N [],u 0,u 0,u 0,u 0,u 0,u 0,.N [],u 0,.am .nilFunc,.bd,.bd])] 0 (λy=>[_,_,_,_,_,_,_,_,_,_,_,_,_,_,.box 9 y 0,.any]) (λy=>[(14,9,some (.box y [.N [],u 0,u 0,u 0,u 0,u 0,u 0,.N []])),(15,9,some (.box y [.N id,u 0,u 0,u m.n4,u o.c6,u 0,u 1,.N []]))]) [0,0,2,0,8,24,56,120,0,256,768,1792,3840,8191,0,32767] [(14,9),(15,9)] ?_ ?_;rotate_left 14;refine dB ?_;refine wR ?_;exact trivial;intro y;(conv=>whnf);refine Y.fc [(3,u leads),(8,.box 8 cG 0),(9,.box 9 y 0)] [(8,.box cG [.N [],u 0,u 0,u 0,u 0,u 0,u 0,.N [],u 0,.am .nilFunc,.bd,.bd]),(9,.box y [.N id,u 0,u 0,u m.n4,u o.c6,u 0,u 1,.N []])] [(8,8),(9,9)] ⟨cX,rfl,cX⟩ ?_;refine go ?_;refine aI (decide ((0:Int)<=leads)) rfl ?_ ?_<;>intro hc;refine go ?_;rw[hc]at M;subst M;refine go ?_;exact E;rw[hc]at M;subst M;refine go ?_;exact E
theorem akj(o:fk)(n m:U)(bW bG:Nat)(id path:auM)(fj c6 gI leads:Int):c4 B 166 [.a7 26 [dH o n bW bG] 0 0,ot id fj c6 gI leads .bd,az m,.N path] (aM [(4104,.mp bG (br bj []))]) λd aO=>d=ot id fj c6 gI leads .bd/\∃b aD,aO=aM [(4104,.mp bG (br bj [])),(8,.box b aD)]:=by refine jI Tryz.func166 Tryz.ntmps166 λW=>?_;refine go ?_;intro cF;refine go ?_;intro dW;refine go ?_;intro cG;apply n0;refine Y.Ef aN ?_;apply mj;refine wQ (dH o n bW bG) ?_;refine go ?_;refine .inr (ah.qp 4104 (em:=9) (eB:=53) (enc:=bj) (l:=[]) (k:=path) (Q:=gC) rfl rfl rfl rfl rfl auL (λw C=>xt w C) ?_);refine go ?_;intro jd;apply mj;apply cj;apply b1;refine h6 ?_;refine il ?_;refine aI false rfl ?_ ?_<;>intro hc;cases hc;apply ci;refine gK ?_;refine ej ?_;skip;refine Y.gS [(8,.box 8 cG 0)] [(4104,.mp bG (br bj [])),(8,.box cG (ot id fj c6 gI leads .bd).cells)] [(4104,4104),(8,8)] ⟨an,rfl,a_⟩ ?_;refine go ?_;refine⟨ot id fj c6 gI leads .bd,?_,rfl,cG,_,rfl⟩;refine go ?_;exact E
theorem akk(id:auM)(rb dp:Int):aT B 282 [.agg [.N id,u rb,u dp]] (.bool (bif (id==[0])then(dp==1)else false)):=by refine bB Tryz.func282 Tryz.ntmps282 λW=>?_;refine go ?_;intro dI;refine go ?_;exact E
structure f4 where
 id:auM
 rb:Int
 dp:Int
 deriving Inhabited
def kK(e:f4):D:=.agg [.N e.id,u e.rb,u e.dp]
def ec(l:List f4):List D:=l.map kK
def kL(l:List f4):Int:=l.foldl (λn x=>n+(8+(((x.id.length:Nat):Int)+1).tdiv 2*2)) 0
theorem O_{l:List f4}(h:i<l.length):kL (l.take (i+1))=kL (l.take i)+(8+(((l[i].id.length:Nat):Int)+1).tdiv 2*2):=by rw[kL,kL,auU h,avW];rfl
theorem O'(n:Nat):0<=(((n:Nat):Int)+1).tdiv 2*2/\(((n:Nat):Int)+1).tdiv 2*2<=(n:Int)+1:=by rw[au4 auD];omega
theorem XW{l:List f4}(O:∀x∈l,x.id.length<1000000):∀k,k<=l.length->0<=kL (l.take k)/\kL (l.take k)<=1000010*(k:Int)
 |0,_=>by simp[kL]
 |k+1,Z=>by have aV:=XW O k auD;rw[O_ (show k<l.length by omega)];have h1:=O _ (auT (show k<l.length by omega));have A:=O' (l[k]' auD).id.length;omega
theorem akl(l:List f4)(aj:l.length<1000000)(O:∀x∈l,x.id.length<1000000):aT B 169 [.T .none 3 (ec l)] (u (kL l)):=by refine bB Tryz.func169 Tryz.ntmps169 λW=>?_;refine go ?_;refine Y.ee (α:={i:Nat // i<=l.length}) (λx=>[(3,u (kL (l.take x.1))),(6,.T .none 3 (ec l)),(7,u ((ec l).length:Nat)),(8,u ((x.1:Nat):Int))]) (λ_=>[]) (λx=>l.length-x.1) ⟨0,by omega⟩ [] ⟨⟨E,E,E,ap.of_eq rfl,ak⟩,rfl,ak⟩ ?_;rintro⟨i,hi⟩;dsimp only at hi⊢;refine go ?_;refine aI (decide ((i:Int)<((ec l).length:Nat))) rfl ?_ ?_<;>intro hc;apply ci;(have aG:i<l.length:=by simpa[ec]using hc);have AF:=XW O i hi;have c2:=O_ aG;have lW:=O _ (auT aG);have asV:=O' l[i].id.length;(have asW:0<=(((l[i].id.length:Nat):Int)+1).tdiv 2:=by rw[au4 auD];omega);generalize gU:kL (l.take i)=S at*;refine gJ ?_;refine⟨λ_=>by simp[ec];omega,?_⟩;refine go ?_;refine⟨kK l[i],λ_=>by simp[ec,aG],?_⟩;refine go ?_;intro cF;apply cj;apply jH;apply cj;refine lq ?_;refine⟨λ_=>by decide,?_⟩;refine go ?_;exact⟨⟨i+1,aG⟩,[],azh,⟨ap.of_eq (auP (D.int .i64) c2.symm),E,E,E,ak⟩,rfl,ak⟩;refine go ?_;(have cr:i=l.length:=by simp[ec]at hc;omega);exact azf
def qq(id:auM)(akm:List Int):Int:=vO ((id.length:Nat):Int) (N6 (akm.headD 0))
end Go.bV.ct

namespace Go.bV
open Go Go.RowKit
variable{P:Program}{B:World}{al:Nat}{z:av}{K:cM->av->Prop}{W:b5 P B al}{c:Code}{b bp:Nat}{aD:List D}
theorem Y.akn(s q:Nat)(x:D){Pb:Nat}(hs:z.H s=some (.box b aD))(I:z.H q=some (.box Pb [.box bp b 0]))(aZ:q≠s)(J:x.cells=aD)(en:aD.all D.one=true)
  (h:Y W c ((z.b_ s none).b_ q (some (.box Pb [.a7 aD.length [x] 0 0]))) K):Y W c z K :=
 ⟨λa w C M=>by
  obtain⟨vs,e,h1,A,aa⟩:=M.heap.cl s _ hs;have j5:nQ w C w (gw C b aD.length):=⟨auW _,λx _=>Ei C b _ auD x,λ_ _ _ _=>rfl⟩;have a1:de (λx=>x=b) w C w (gw C b aD.length):=⟨j5,rfl,rfl,rfl,λx _ J=>⟨rfl,rC _ _ J⟩⟩
  have fZ:bI W w (gw C b aD.length) (z.b_ s none) a:=M.b_ a1 (λx J=>by subst J;exact M.heap.cQ s _ x hs rfl)
   (λbp o x aZ ag au J=>ayV) (λx J=>by cases J)
  have qO:=A.ext j5
  have dQ:bh w (gw C b aD.length) (.T .none aD.length [x]) (.slice (some ⟨b,0,none⟩) 1 1) :=
   xX (xs:=[x]) (vs:=vs) (kv:=(0,0)) (e:=e) h1 (λy hy=>by rw[avs.1 hy,J]) (auW _) auG (by rw[h2];simp) (λi d O=>by
    have hu:aD[i]?=some d:=by simpa[b4,J]using O
    obtain⟨ao,au⟩:=lU (l:=vs) (i:=i) (by rw[<-A.1];exact fu hu)
    exact⟨ao,au,qO.2 i d ao hu au,A.one en ao (avd.2 ⟨i,au⟩)⟩) trivial
  have rD:(z.b_ s none).H q=some (.box Pb [.box bp b 0]):=by
   show _root_.cond (Nat.beq q s) none (z.H q)=_;rw[show Nat.beq q s=false from by cases G:Nat.beq q s with|false=>rfl|true=>exact absurd (avb G) aZ];exact I
  have Ip:=fZ.Hz q (dA:=[.a7 aD.length [x] 0 0]) rD (λdm af=>⟨by simpa using af.1,λi d v O X=>by
   match i,O with
   |0,O =>
    simp at O;subst O;have a8:=af.2 0 _ v rfl X;have cN:v=.pointer (some ⟨b,0,none⟩):=by cases a8;rfl
    rw[cN];have:=bh.a7 aD.length [x] 0 0 b 0 1 dQ;simpa using this
   |i+1,O=>simp at O⟩)
  exact h.run a w _ Ip⟩
end Go.bV
namespace Go.bV.ct
open Go Go.Proofs
variable{B:World}
def s4(wide:Bool)(b3:Value)(bP iN CX:Int):D:=.agg [.bool wide,.am b3,u bP,u iN,u CX]
theorem ako(p:dF)(k:Int)(cp ca b9:Nat):c4 B 147 [u k,.box 4101 ca 0] (aM [(4101,.box ca [.box 4102 b9 0]),(4102,.box b9 (fm p cp))]) λd aO=>d=.bool (decide (k<p.free))/\aO=aM [(4101,.box ca [.box 4102 b9 0]),(4102,.box b9 (fm p cp))]:=by refine jI Tryz.func147 Tryz.ntmps147 λW=>?_;apply b1;refine gK ?_;refine ej ?_;refine Y.gS [(3,.bool (decide (k<p.free)))] [(4101,.box ca [.box 4102 b9 0]),(4102,.box b9 (fm p cp))] [(4101,4101),(4102,4102)] ⟨an,rfl,a_⟩ ?_;exact azr
theorem akp(V:List Int)(hT:V.length<1000000)(b6:Nat)(cs:List D)(dj dt:aJ)(p:Int->Bool)(m5:∀k∈V,c4 B b6 (u k::cs) (aM [(4101,dj),(4102,dt)]) λd aO=>d=.bool (p k)/\aO=aM [(4101,dj),(4102,dt)]):c4 B 146 [.T .none 1 (bo V),.fn (.func b6) [] cs] (aM [(4101,dj),(4102,dt)]) λd aO=>d=.bool (V.any p)/\aO=aM [(4101,dj),(4102,dt)]:=by refine jI Tryz.func146 Tryz.ntmps146 λW=>?_;apply b1;refine qI ?_;refine .inr (ah.call rfl [.T .none 1 (bo V),.fn (.func b6) [] cs] [(4101,4101),(4102,4102)] (c8.xq rfl rfl (XO V hT b6 cs dj dt p m5)) rfl an ?_);rintro d aO ⟨rfl,rfl⟩;refine rP ?_;refine Y.gS [(4,.bool (V.any p))] [(4101,dj),(4102,dt)] [(4101,4101),(4102,4102)] ⟨⟨ap.of_eq (auP D.bool (Mj p V)),ak⟩,rfl,a_⟩ ?_;exact azr
def la(V:List Int):Nat->Int->List Int×Int
 |0,a=>([],a)
 |n+1,a=>((la V n a).1++[eR V 1 (la V n a).2],eR V 1 (la V n a).2+1)
def y3(e:oq)(f:e8):Bool:=bif (bif !(co e.own f.path).isSome then(co e.aR f.data).isSome else false)then f.data !=[]else false
def lK(e:oq)(f:e8):dl :=
 if y3 e f=true then⟨f.path,((co e.aR f.data).getD gC).start,((co e.aR f.data).getD gC).len⟩else⟨f.path,((co e.own f.path).getD gC).start,((co e.own f.path).getD gC).len⟩
def rc(p:dF)(e:oq)(x:Int)(f:e8):Int:=if(co p.a' f.path).isSome=true then min x (lK e f).start else x
def lb(p:dF)(count:Int):List Int:=r4 p.m p.start count
def uD(p:dF):Bool:=kF p.m.fU 0
def cY(p:dF):Bool:=kF p.m.fU 3
def jX(p:dF)(V:List Int):Int:=if uD p=true then eR V p.iso p.free else 0
def jY(p:dF):Int:=if uD p=true then p.iso else 0
def kl(p:dF)(V:List Int):Int:=if uD p=true then eR V p.iso p.free+p.iso else p.free
def lc(p:dF)(V:List Int):List Int×Int:=if cY p=true then la V p.du.toNat (kl p V)else([],kl p V)
def dd(b:Bool)(x:Int):Int:=if b=true then x else 0
def Gf(sg:List Int)(a:Int):Int:=match sg with|[]=>a|x::_=>x
def ld(p:dF)(e:oq)(sg:List Int):Int:=p.files.foldl (rc p e) (Gf sg e.a)
def nH(p:dF)(count:Int):Int:=if cY p=true then p.start+count-1 else p.start+count
def sh(p:dF)(count:Int):oq:=v7 p (lb p count) (lc p (lb p count)).2
def xu(p:dF)(count:Int):q3 :=
 {S:=p.start,C:=count,iS:=jX p (lb p count),iC:=jY p,kind:=dd (cY p) p.m.du,opn:=false,uS:=dd (cY p) p.start,uC:=dd (cY p) count,recg:=dd (cY p) (p.start+16+p.desc),
   Ar:=dd (cY p) (ld p (sh p count) (lc p (lb p count)).1),pC:=dd (cY p) (nH p count-ld p (sh p count) (lc p (lb p count)).1),
   As:=(lc p (lb p count)).1,commit:=0,spS:=0,spC:=0,files:=p.files.map (lK (sh p count))}
def m_(p:dF)(count:Int):Bool:=bif decide ((sh p count).a<=nH p count)then !((lb p count).any λk=>decide (k<p.free))else false
abbrev jy(S C iS iC k uS uC Oi Ar pC:Int)(sg gI:D):List D:=[u S,u C,u iS,u iC,u k,.bool false,u uS,u uC,u Oi,u Ar,u pC,sg,u 0,u 0,u 0,gI]
abbrev rd:List D:=jy 0 0 0 0 0 0 0 0 0 0 .bd .bd
theorem Ju{V:List Int}(g7:∀k∈V,k<=1000000)(a:Int)(h:0<=a):∀n:Nat,0<=(la V n a).2/\(la V n a).2<=max a 1000001+(n:Int)
 |0=>by show 0<=a/\a<=max a 1000001+0;omega
 |n+1=>by have h1:=Ju g7 a h n;have A:=Gd (n:=1) g7 (la V n a).2;show 0<=_+(1:Int)/\_+(1:Int)<=_;omega
theorem XX(V:List Int)(a:Int):∀n,(la V n a).1.length=n
 |0=>rfl
 |n+1=>by show((la V n a).1++[eR V 1 (la V n a).2]).length=_;rw[auV,XX V a n];rfl
theorem XY{V:List Int}(g7:∀k∈V,k<=1000000)(a:Int)(h:0<=a):∀(n:Nat) b,b∈(la V n a).1->0<=b/\b<=max a 1000001+(n:Int)
 |0,b,G=>by cases G
 |n+1,b,G=>by have G:b∈(la V n a).1++[eR V 1 (la V n a).2]:=G;rcases avf.1 G with G|G;have:=XY g7 a h n b G;omega;have h1:=Ju g7 a h n;have A:=Gd (n:=1) g7 (la V n a).2;simp at G;subst G;omega
def km(l:List (auM×dl)):Prop:=∀q v,co l q=some v->0<=v.start
theorem Gg{l:List (auM×dl)}(h:km l){k:auM}{v:dl}(X:0<=v.start):km (fz l k v):=λq w cz=>by
 rw[y2]at cz;split at cz
 ·cases cz;exact X
 exact h q w cz
theorem Pc{l:List (auM×dl)}(h:km l)(q:auM):0<=((co l q).getD gC).start:=by cases aS:co l q with|none=>exact avK _|some v=>exact h q v aS
theorem XZ{p:dF}(aS:km p.a'):∀(l:List e8) (s:AP),km s.own->km s.aR->km (l.foldl (jW p) s).own/\km (l.foldl (jW p) s).aR
 |[],s,h1,A=>⟨h1,A⟩
 |f::l,s,h1,A=>by have X:=Pc aS f.path;refine XZ aS l _ ?_ ?_;unfold jW;split;exact Gg h1 X;exact h1;unfold jW;split;show km (if _ then _ else _);split;exact Gg A X;exact A;exact A
theorem X0{p:dF}{V:List Int}(g7:∀k∈V,k<=1000000){data:List (auM×auM)}(O:∀q,((co data q).getD []).length<=100000000):∀(l:List auM) (s:oq),0<=s.a->km s.own->km s.aR->km (jf p V data s l).own/\km (jf p V data s l).aR
 |[],s,_,h1,A=>⟨h1,A⟩
 |q::l,s,h0,h1,A=>by(have X:0<=eR V (io ((co data q).getD []).length) s.a:=by have:=Gd (n:=io ((co data q).getD []).length) g7 s.a;omega);have e:jf p V data s (q::l)=jf p V data (pN p V data s q) l:=rfl;rw[e];refine X0 g7 O l _ (XS g7 O s q h0).1 ?_ ?_;unfold pN;split;exact h1;exact Gg h1 X;unfold pN;split;exact A;show km (if _ then _ else _);split;exact Gg A X;exact A
theorem Pd:km []:=λq v h=>by cases h
variable{V:List Int}
theorem akq{p:dF}(g7:∀k∈V,k<=1000000)(v8:∀f∈p.files,f.data.length<=100000000)(aS:km p.a')(a:Int)(h:0<=a): km (v7 p V a).own/\km (v7 p V a).aR/\0<=(v7 p V a).a/\(v7 p V a).a<=max a 1000001+50000*(p.cS.length:Int):=by have h1:=XZ aS p.files ⟨[],[],[]⟩ Pd Pd;have A:=X0 (p:=p) g7 (O7 (p:=p) v8) p.cS ⟨(kJ p p.files).own,(kJ p p.files).aR,a⟩ h h1.1 h1.2;have aa:=O8 (p:=p) g7 (O7 (p:=p) v8) p.cS ⟨(kJ p p.files).own,(kJ p p.files).aR,a⟩ h;exact⟨A.1,A.2,aa.1,aa.2⟩
theorem akr{e:oq}(h1:km e.own)(A:km e.aR)(f:e8):0<=(lK e f).start:=by unfold lK;split;exact Pc A _;exact Pc h1 _
theorem Pe{p:dF}{e:oq}(h1:km e.own)(A:km e.aR):∀(l:List e8) (x:Int),0<=x->0<=l.foldl (rc p e) x/\l.foldl (rc p e) x<=x
 |[],x,h=>⟨h,avK _⟩
 |f::l,x,h=>by have aa:=akr h1 A f;(have aF:0<=rc p e x f/\rc p e x f<=x:=by unfold rc;split<;>omega);have:=Pe (p:=p) h1 A l _ aF.1;rw[awf];omega
variable{f:FuncId}{ds:List D}{a6:D->bH->Prop}{dj dt:aJ}
theorem _root_.Go.bV.c8.aks{H:bH}{lY Pf:aJ}(h1:H 4102=some dj)(A:H 4001=some dt)(aa:H 7=some lY)(aF:H 8=some Pf)(a8:H 4002=none)(cN:H 4003=none)(hc:c4 B f ds (aM [(4000,dj),(4001,dt),(4201,lY),(4202,Pf)]) a6):c4 B f ds (gy H [(4000,4102),(4001,4001),(4201,7),(4202,8),(4002,4002),(4003,4003)]) a6:=by(have e:gy H [(4000,4102),(4001,4001),(4201,7),(4202,8),(4002,4002),(4003,4003)]=aM [(4000,dj),(4001,dt),(4201,lY),(4202,Pf)]:=by funext j;simp only[gy,aM];cases Nat.beq j 4000 with|true=>exact h1|false =>(cases Nat.beq j 4001 with|true=>exact A|false =>(cases Nat.beq j 4201 with|true=>exact aa|false =>(cases Nat.beq j 4202 with|true=>exact aF|false =>(cases Nat.beq j 4002 with|true=>exact a8|false =>(cases Nat.beq j 4003 with|true=>exact cN|false=>rfl))))));rw[e];exact hc
def CY(p:dF):Prop:=0<=p.start/\p.start<=4096/\0<=p.iso/\p.iso<=1000000000/\0<=p.du/\p.du<=1000000/\0<=p.desc/\p.desc<=100/\0<=p.free/\p.free<=100000/\p.cS.length<=100000/\p.files.length<1000000/\(∀f∈p.files,f.data.length<=100000000)/\km p.a'
theorem akt(p:dF)(aw:CY p)(count:Int)(jn:0<=count)(e6:count<=4096)(b9 cp:Nat):c4 B 95 [.box 4102 b9 0,u count] (aM [(4102,.box b9 (fm p cp)),(4001,.mp cp (br bj p.a'))]) λd aO=>d=.bm [l9 (xu p count),.bool (m_ p count)]/\∃cJ aD,aO=aM [(4102,.box b9 (fm p cp)),(4001,.mp cp (br bj p.a')),(4,.box cJ aD)]:=by refine c8.sub (a6:=λd aO=>d=.bm [l9 (xu p count),.bool (m_ p count)]/\∃cJ aD,yj aO [(4102,.box b9 (fm p cp)),(4001,.mp cp (br bj p.a')),(4,.box cJ aD)]) ?_ λd aO ⟨h1,cJ,aD,A⟩=>⟨_,A.get,h1,cJ,aD,rfl⟩;obtain⟨hj,jP,pG,IA,Nm,Fb,Np,asX,asY,asZ,aku,akv,X1,akw⟩:=aw;(have AR:(lb p count).length<1000000:=by have:=af8 p.m p.start count;unfold lb;omega);(have g7:∀k∈lb p count,k<=1000000:=λk Z=>by have:=af9 Z;omega);have Pg:=Vl (B:=B) p.m p.start count;rw[show r4 p.m p.start count=lb p count from rfl]at Pg;refine yf Tryz.func95 Tryz.ntmps95 λW=>?_;generalize Ph:lb p count=V at*;refine go ?_;intro ca;(conv=>whnf);refine dc ?_;intro cJ;(conv=>whnf);refine go ?_;intro dW;(conv=>whnf);refine go ?_;refine' eU [(2,.box ca [.box 4102 b9 0]),(4,.box cJ rd),(6,.box dW (jy p.start count 0 0 0 0 0 0 0 0 .bd .bd)),(4102,.box b9 (fm p cp)),(4001,.mp cp (br bj p.a'))] 0 (λy:Nat=>[_,_,_,_,_,_,.T .none 1 (bo V),.box 7 y 0,.any]) (λy=>[(7,7,some (.box y [.bd])),(8,7,some (.box y [.T .none 1 (bo V)]))]) [0,1,3,7,0,16,63,0,255] [(7,7),(8,7)] ?_ ?_;rotate_left 6;refine dB ?_;refine wR ?_;exact trivial;intro y;(conv=>whnf);refine go ?_;intro cG;(conv=>whnf);refine go ?_;refine bq (r0 (B:=B) p.m.fU 0 auG) ?_;refine nt (α:=Unit) (λ_=>True) [1,2,4,6,7,8,9] [2,4,7,4102,4001] (λ_=>[]) (λ_=>[(6,.box dW (jy p.start count (jX p V) (jY p) 0 0 0 0 0 0 .bd .bd)),(8,.box cG [u (kl p V)])]) ?_ ?_;(·refine cb (t:=uD p) ?_ ?_<;>intro hc;(·refine go ?_;have Pi:=λdM cG=>O3 (B:=B) V AR g7 p.free p.iso auD auD auD auD dM cG;refine' eU [(2,.box ca [.box 4102 b9 0]),(4,.box cJ rd),(6,.box dW (jy p.start count 0 0 0 0 0 0 0 0 .bd .bd)),(7,.box y [.T .none 1 (bo V)]),(8,.box cG [u p.free]),(4102,.box b9 (fm p cp)),(4001,.mp cp (br bj p.a'))] () (λ_:Unit=>[_,_,_,_,_,u (eR V p.iso p.free),_,_,_,_,_,_,.any]) (λ_=>[(5,8,some (.box cG [u (eR V p.iso p.free+p.iso)])),(12,6,some (.box dW (jy p.start count (eR V p.iso p.free) p.iso 0 0 0 0 0 0 .bd .bd)))]) [0,0,2,6,14,31,0,64,192,448,1023,2047,4095] [(5,8),(12,6)] ?_ ?_;rotate_left 11;refine dB ?_;refine bQ (λ_=>ah.EM rfl [u p.iso,.box 4201 y 0,.box 4202 cG 0] [(4201,7),(4202,8)] rV (Pi y cG) rfl ja (cB ())) ?_;refine Go.bV.ct.vs ?_;exact trivial;intro _;(conv=>whnf);refine go ?_;refine gL () [(2,2),(4,4),(7,7),(4102,4102),(4001,4001),(6,6),(8,8)] trivial (by unfold jX jY kl;rw[auO hc,auO hc,auO hc];exact⟨cX,rfl,cX⟩));refine go ?_;refine gL () [(2,2),(4,4),(7,7),(4102,4102),(4001,4001),(6,6),(8,8)] trivial (by unfold jX jY kl;rw[auN (by simp[hc]),auN (by simp[hc]),auN (by simp[hc])];exact⟨cX,rfl,cX⟩));intro _ _;(have m8:0<=kl p V/\kl p V<=2000000000:=by have h1:=Gd (n:=p.iso) g7 p.free;unfold kl;split<;>omega);(have Pj:0<=(lc p V).2/\(lc p V).2<=3000000000:=by have h1:=Ju g7 (kl p V) m8.1 p.du.toNat;unfold lc;split;omega;show 0<=kl p V/\kl p V<=_;omega);(have X2:∀b∈(lc p V).1,0<=b/\b<=3000000000:=by intro b G;unfold lc at G;split at G;have h1:=XY g7 (kl p V) m8.1 p.du.toNat b G;omega;cases G);refine go ?_;refine bq (r0 (B:=B) p.m.fU 3 auG) ?_;refine nt (α:=Unit) (λ_=>True) [1,2,4,6,7,8,9,10] [2,4,7,4102,4001] (λ_=>[]) (λ_=>[(6,.box dW (jy p.start count (jX p V) (jY p) (dd (cY p) p.m.du) (dd (cY p) p.start) (dd (cY p) count) (dd (cY p) (p.start+16+p.desc)) 0 0 (.T .none 1 (bo (lc p V).1)) .bd)),(8,.box cG [u (lc p V).2])]) ?_ ?_;(·refine cb (t:=cY p) ?_ ?_<;>intro hc;(·have Z:∀x,dd (cY p) x=x:=λx=>auO hc;refine go ?_;refine' eU [(2,.box ca [.box 4102 b9 0]),(4,.box cJ rd),(6,.box dW (jy p.start count (jX p V) (jY p) 0 0 0 0 0 0 .bd .bd)),(7,.box y [.T .none 1 (bo V)]),(8,.box cG [u (kl p V)]),(4102,.box b9 (fm p cp)),(4001,.mp cp (br bj p.a'))] () (λ_:Unit=>[_,_,_,_,_,_,_,_,_,_,_,_,_,_,_,_,_,_,_,.any]) (λ_=>[(19,6,some (.box dW (jy p.start count (jX p V) (jY p) p.m.du p.start count (p.start+16+p.desc) 0 0 .bd .bd)))]) [0,1,3,7,15,0,32,0,128,384,896,1920,0,4096,12288,28672,65408,131071,262143,524287] [(19,6)] ?_ ?_;rotate_left 19;refine dB ?_;refine Go.bV.ct.vs ?_;exact trivial;intro _;(conv=>whnf);refine go ?_;refine Y.tR 2001 1 3 ?_;refine Y.jo 6 (dA:=jy p.start count (jX p V) (jY p) p.m.du p.start count (p.start+16+p.desc) 0 0 (.T (.own 2001 (.slice none 0 0)) 1 []) .bd) rfl ⟨E,E,E,E,E,E,E,E,E,E,E,ap.vb,E,E,E,E,ak⟩ ?_;refine hf (λx:Nat×Value=>(x.1:Int)<=p.du) [1,2,4,6,7,8,9,10,89] [2,4,7,4102,4001] (λx=>[(90,u x.1)]) (λx=>[(6,.box dW (jy p.start count (jX p V) (jY p) p.m.du p.start count (p.start+16+p.desc) 0 0 (.T (.own 2001 x.2) 1 (bo (la V x.1 (kl p V)).1)) .bd)),(8,.box cG [u (la V x.1 (kl p V)).2]),(2001,.own x.2 (bo (la V x.1 (kl p V)).1).length 1 3)]) (λx=>p.du.toNat-x.1) (0,.slice none 0 0) (by show(0:Int)<=_;omega) [(2,2),(4,4),(7,7),(4102,4102),(4001,4001),(6,6),(8,8),(2001,2001)] ?_;rintro⟨i,w⟩ hi;dsimp only at hi⊢;refine go ?_;refine cb (t:=decide ((i:Int)<p.du)) ?_ ?_<;>intro bx;(·have CZ:(i:Int)<p.du:=avg bx;have IG:=Ju g7 (kl p V) m8.1 i;have oN:la V (i+1) (kl p V)=((la V i (kl p V)).1++[eR V 1 (la V i (kl p V)).2],eR V 1 (la V i (kl p V)).2+1):=rfl;have fg:=XX V (kl p V) i;generalize la V i (kl p V)=aP at*;(have c1:(bo aP.1).length=i:=by rw[bo,auS,fg]);have Pi:=O3 (B:=B) V AR g7 aP.2 1 IG.1 auD auD auD y cG;refine go ?_;refine' eU [(2,.box ca [.box 4102 b9 0]),(4,.box cJ rd),(6,.box dW (jy p.start count (jX p V) (jY p) p.m.du p.start count (p.start+16+p.desc) 0 0 (.T (.own 2001 w) 1 (bo aP.1)) .bd)),(7,.box y [.T .none 1 (bo V)]),(8,.box cG [u aP.2]),(4102,.box b9 (fm p cp)),(4001,.mp cp (br bj p.a')),(2001,.own w (bo aP.1).length 1 3)] Value.nilFunc (λQ:Value=>[_,_,_,_,u (eR V 1 aP.2),.T .dZ 1 [u (eR V 1 aP.2)],.T (.own 98 Q) 1 (bo aP.1++[u (eR V 1 aP.2)]),_,_,.any]) (λQ=>[(4,8,some (.box cG [u (eR V 1 aP.2+1)])),(6,2001,none),(6,98,some (.own Q ((bo aP.1).length+1) 1 3)),(9,6,some (.box dW (jy p.start count (jX p V) (jY p) p.m.du p.start count (p.start+16+p.desc) 0 0 (.T (.own 98 Q) 1 (bo aP.1++[u (eR V 1 aP.2)])) .bd)))]) [0,1,3,0,8,24,63,127,255,511] [(4,8),(6,2001),(6,98),(9,6)] ?_ ?_;rotate_left 6;refine dB ?_;refine bQ (λQ=>ah.EM rfl [u 1,.box 4201 y 0,.box 4202 cG 0] [(4201,7),(4202,8)] rV Pi rfl ja (cB Q)) ?_;refine B8 (λQ=>?_) ?_;(conv=>whnf);refine⟨rfl,rfl,?_⟩;(conv=>whnf);exact⟨by show(_+1)*8<=_;rw[c1];omega,by show _+1<=_;rw[c1];omega,auK,λv=>ed v⟩;refine Go.bV.ct.vs ?_;exact trivial;intro Q;(conv=>whnf);refine Y.jo 6 (dA:=jy p.start count (jX p V) (jY p) p.m.du p.start count (p.start+16+p.desc) 0 0 (.T (.own 2001 Q) 1 (bo (aP.1++[(eR V 1 aP.2)]))) .bd) rfl ⟨E,E,E,E,E,E,E,E,E,E,E,ap.i' (by simp[bo]),E,E,E,E,ak⟩ ?_;refine go ?_;(have akx:(bo (aP.1++[eR V 1 aP.2])).length=(bo aP.1).length+1:=by simp[bo]);exact fs (i+1,Q) [(2,2),(4,4),(7,7),(4102,4102),(4001,4001),(6,6),(8,8),(2001,98)] (by dsimp only;omega) (by dsimp only;omega) (by dsimp only;rw[oN];dsimp only;rw[akx];exact⟨cX,rfl,cX⟩));(have cr:(i:Int)=p.du:=by have:=ava bx;omega);(have gk:lc p V=la V i (kl p V):=by rw[lc,auO hc,show p.du.toNat=i by omega]);rw[gk];simp only[Z];refine Y.jo 6 (dA:=jy p.start count (jX p V) (jY p) p.m.du p.start count (p.start+16+p.desc) 0 0 (.T .none 1 (bo (la V i (kl p V)).1)) .bd) rfl ⟨E,E,E,E,E,E,E,E,E,E,E,ap.mf,E,E,E,E,ak⟩ ?_;refine go ?_;exact gL () [(2,2),(4,4),(7,7),(4102,4102),(4001,4001),(6,6),(8,8)] trivial);have gk:lc p V=([],kl p V):=auN (by rw[hc];decide);have Z:∀x,dd (cY p) x=0:=λx=>auN (by rw[hc];decide);rw[gk];simp only[Z];refine Y.jo 6 (dA:=jy p.start count (jX p V) (jY p) 0 0 0 0 0 0 (.T .none 1 []) .bd) rfl ⟨E,E,E,E,E,E,E,E,E,E,E,ap.nil,E,E,E,E,ak⟩ ?_;refine go ?_;exact gL () [(2,2),(4,4),(7,7),(4102,4102),(4001,4001),(6,6),(8,8)] trivial);intro _ _;(have aky:sh p count=v7 p V (lc p V).2:=by rw[sh,Ph]);have rL:=akq (p:=p) g7 X1 akw (lc p V).2 Pj.1;have Jv:=akg (B:=B) p V AR g7 (lc p V).2 Pj.1 auD aku akv X1 b9 cp y cG;rw[<-aky]at rL Jv;generalize mV:sh p count=e at*;generalize akz:lc p V=gq at*;obtain⟨fW,as0⟩:=gq;dsimp only at Pj X2 rL Jv⊢;obtain⟨iJ,kz,Pk,as1⟩:=rL;refine go ?_;refine .inr (ah.call rfl [.box 4000 b9 0,.fn (.func 142) [] [.box 4201 y 0,.box 4202 cG 0]] [(4000,4102),(4001,4001),(4201,7),(4202,8),(4002,4002),(4003,4003)] (c8.aks rfl rfl rfl rfl rfl rfl Jv) rfl ⟨ap.box,ap.fn trivial ⟨ap.box,ap.box,ak⟩,ak⟩ ?_);rintro d aO ⟨cq,aP,rfl,rfl⟩;refine⟨_,E,?_⟩;clear Jv Pg;(conv=>whnf);refine go ?_;refine nt (α:=Unit) (λ_=>True) [1,2,4,6,7,8,10,11,12] [2,4,6,7,8,4102,4001,4002,4003] (λ_=>[(13,u (Gf fW e.a))]) (λ_=>[]) ?_ ?_;refine cb (t:=decide (0<((bo fW).length:Int))) ?_ ?_<;>intro hc;(obtain⟨as2,Tn,rfl⟩:∃x r,fW=x::r:=by cases fW with|nil=>simp[bo]at hc|cons x r=>exact⟨x,r,rfl⟩);refine go ?_;exact gL () [(2,2),(4,4),(6,6),(7,7),(8,8),(4102,4102),(4001,4001),(4002,4002),(4003,4003)] trivial;(obtain rfl:fW=[]:=by cases fW with|nil=>rfl|cons x r=>simp[bo]at hc);refine go ?_;exact gL () [(2,2),(4,4),(6,6),(7,7),(8,8),(4102,4102),(4001,4001),(4002,4002),(4003,4003)] trivial;intro _ _;(have o9:0<=Gf fW e.a/\Gf fW e.a<=100000000000:=by cases fW with|nil=>show 0<=e.a/\e.a<=_;omega|cons x r=>have:=X2 x auY;show 0<=x/\x<=_;omega);generalize X3:Gf fW e.a=tc at*;refine go ?_;refine Y.tR 2002 3 53 ?_;refine Y.jo 6 (dA:=jy p.start count (jX p V) (jY p) (dd (cY p) p.m.du) (dd (cY p) p.start) (dd (cY p) count) (dd (cY p) (p.start+16+p.desc)) 0 0 (.T .none 1 (bo fW)) (.T (.own 2002 (.slice none 0 0)) 3 [])) rfl ⟨E,E,E,E,E,E,E,E,E,E,E,E,E,E,E,ap.vb,ak⟩ ?_;refine hf (λx:Nat×Value=>x.1<=p.files.length) [1,2,4,6,7,8,10,11,12,122,123] [2,4,7,8,4102,4001,4002,4003] (λx=>[(13,u ((p.files.take x.1).foldl (rc p e) tc)),(124,u x.1)]) (λx=>[(6,.box dW (jy p.start count (jX p V) (jY p) (dd (cY p) p.m.du) (dd (cY p) p.start) (dd (cY p) count) (dd (cY p) (p.start+16+p.desc)) 0 0 (.T .none 1 (bo fW)) (.T (.own 2002 x.2) 3 (((p.files.take x.1).map (lK e)).map bj)))),(2002,.own x.2 (((p.files.take x.1).map (lK e)).map bj).length 3 53)]) (λx=>p.files.length-x.1) (0,.slice none 0 0) (au7 _) [(2,2),(4,4),(7,7),(8,8),(4102,4102),(4001,4001),(4002,4002),(4003,4003),(6,6),(2002,2002)] ?_;rintro⟨i,w⟩ hi;dsimp only at hi⊢;refine go ?_;refine cb (t:=decide ((i:Int)<((p.files.map ek).length:Nat))) ?_ ?_<;>intro hc;(·(have aG:i<p.files.length:=by simpa using hc);have mg:=Pe (p:=p) iJ kz (p.files.take i) tc o9.1;(have hlen:(((p.files.take i).map (lK e)).map bj).length=i:=by simp;omega);(have jm:(p.files.take (i+1)).foldl (rc p e) tc=rc p e ((p.files.take i).foldl (rc p e) tc) p.files[i]:=by rw[auU aG,avW];rfl);(have xv:((p.files.take (i+1)).map (lK e)).map bj=((p.files.take i).map (lK e)).map bj++[bj (lK e p.files[i])]:=by rw[auU aG,avo,avo];rfl);generalize(p.files.take i).foldl (rc p e) tc=cR at*;generalize((p.files.take i).map (lK e)).map bj=Pl at*;(have X4:lK e p.files[i]=⟨p.files[i].path,(if y3 e p.files[i]=true then(co e.aR p.files[i].data).getD gC else(co e.own p.files[i].path).getD gC).start,(if y3 e p.files[i]=true then(co e.aR p.files[i].data).getD gC else(co e.own p.files[i].path).getD gC).len⟩:=by unfold lK;by_cases h:y3 e p.files[i]=true;rw[auO h,auO h];rw[auN h,auN h]);refine go ?_;intro sj;(conv=>whnf);refine go ?_;refine dR (ah.qp 4002 (em:=9) (eB:=53) (enc:=bj) (Q:=gC) rfl rfl rfl rfl rfl auL (λw C=>xt w C)) ?_;intro m';(conv=>whnf);refine go ?_;refine dR (ah.qp 4003 (em:=9) (eB:=53) (enc:=bj) (Q:=gC) rfl rfl rfl rfl rfl auL (λw C=>xt w C)) ?_;intro O9;(conv=>whnf);refine go ?_;refine nt (α:=Unit) (λ_=>True) [1,2,4,6,7,8,10,11,12,122,123,13,124,15,16] [2,4,6,7,8,4102,4001,4002,4003,2002,15] (λ_=>[]) (λ_=>[(16,.box m' (bj (if y3 e p.files[i]=true then(co e.aR p.files[i].data).getD gC else(co e.own p.files[i].path).getD gC)).cells)]) ?_ ?_;refine cb (t:=y3 e p.files[i]) ?_ ?_<;>intro bx;rw[auO bx];refine go ?_;exact gL () [(2,2),(4,4),(6,6),(7,7),(8,8),(4102,4102),(4001,4001),(4002,4002),(4003,4003),(2002,2002),(15,15),(16,16)] trivial;(have eb:¬y3 e p.files[i]=true:=by rw[bx];decide);rw[auN eb];refine go ?_;exact gL () [(2,2),(4,4),(6,6),(7,7),(8,8),(4102,4102),(4001,4001),(4002,4002),(4003,4003),(2002,2002),(15,15),(16,16)] trivial;intro _ _;generalize(if y3 e p.files[i]=true then(co e.aR p.files[i].data).getD gC else(co e.own p.files[i].path).getD gC)=C1 at*;refine go ?_;intro v;(conv=>whnf);refine go ?_;refine' eU [(2,.box ca [.box 4102 b9 0]),(4,.box cJ rd),(6,.box dW (jy p.start count (jX p V) (jY p) (dd (cY p) p.m.du) (dd (cY p) p.start) (dd (cY p) count) (dd (cY p) (p.start+16+p.desc)) 0 0 (.T .none 1 (bo fW)) (.T (.own 160 v) 3 (Pl++[.agg [.N p.files[i].path,u C1.start,u C1.len]])))),(7,.box y [.T .none 1 (bo V)]),(8,.box cG [u e.a]),(4102,.box b9 (fm p cp)),(4001,.mp cp (br bj p.a')),(4002,.mp cq (br bj e.own)),(4003,.mp aP (br bj e.aR)),(160,.own v (Pl.length+1) 3 53),(15,.box sj (ek p.files[i]).cells),(16,.box m' [.N p.files[i].path,u C1.start,u C1.len])] 0 (λq:Nat=>[_,_,_,_,_,_,.bm [bj ((co p.a' p.files[i].path).getD gC),.bool (co p.a' p.files[i].path).isSome],_,_,_,.box 20 q 0,.any,_]) (λq=>[(10,20,some (.box q [.N [],u 0,u 0])),(11,20,some (.box q (bj ((co p.a' p.files[i].path).getD gC)).cells))]) [0,1,3,7,0,16,63,127,255,255,0,1535,4095] [(10,20),(11,20)] ?_ ?_;rotate_left 10;refine dB ?_;refine bQ (λq=>ah.qp 4001 (em:=9) (eB:=53) (enc:=bj) (Q:=gC) rfl rfl rfl rfl rfl auL (λw C=>xt w C) (cB q)) ?_;refine wR ?_;exact trivial;intro q;(conv=>whnf);refine Y.jo 6 (dA:=jy p.start count (jX p V) (jY p) (dd (cY p) p.m.du) (dd (cY p) p.start) (dd (cY p) count) (dd (cY p) (p.start+16+p.desc)) 0 0 (.T .none 1 (bo fW)) (.T (.own 2002 v) 3 (Pl++[bj (lK e p.files[i])]))) rfl ⟨E,E,E,E,E,E,E,E,E,E,E,E,E,E,E,ap.i' (by rw[X4];rfl),ak⟩ ?_;refine go ?_;refine cb (t:=(co p.a' p.files[i].path).isSome) ?_ ?_<;>intro eb;refine go ?_;exact fs (i+1,v) [(2,2),(4,4),(7,7),(8,8),(4102,4102),(4001,4001),(4002,4002),(4003,4003),(6,6),(2002,160)] aG (by dsimp only;omega) (by dsimp only;rw[jm,xv,rc,auO eb,auV];exact⟨⟨E,E,E,E,E,E,E,E,E,E,E,dx (by show(if C1.start<cR then C1.start else cR)=_;rw[X4,Int.min_def];dsimp only;split<;>split<;>omega),E,ak⟩,rfl,cX⟩);refine go ?_;exact fs (i+1,v) [(2,2),(4,4),(7,7),(8,8),(4102,4102),(4001,4001),(4002,4002),(4003,4003),(6,6),(2002,160)] aG (by dsimp only;omega) (by dsimp only;rw[jm,xv,rc,auN (by rw[eb];decide),auV];exact⟨cX,rfl,cX⟩));(have cr:i=p.files.length:=by simp at hc;omega);subst cr;rw[au2];have mg:=Pe (p:=p) iJ kz p.files tc o9.1;(have akA:ld p e fW=p.files.foldl (rc p e) tc:=by rw[ld,X3]);rw[<-akA]at mg⊢;refine Y.jo 6 (dA:=jy p.start count (jX p V) (jY p) (dd (cY p) p.m.du) (dd (cY p) p.start) (dd (cY p) count) (dd (cY p) (p.start+16+p.desc)) 0 0 (.T .none 1 (bo fW)) (.T .none 3 ((p.files.map (lK e)).map bj))) rfl ⟨E,E,E,E,E,E,E,E,E,E,E,E,E,E,E,ap.mf,ak⟩ ?_;refine go ?_;refine nt (α:=Unit) (λ_=>True) [1,2,4,6,7,8] [2,4,7,8,4102,4001] (λ_=>[(22,u (nH p count))]) (λ_=>[(6,.box dW (jy p.start count (jX p V) (jY p) (dd (cY p) p.m.du) (dd (cY p) p.start) (dd (cY p) count) (dd (cY p) (p.start+16+p.desc)) (dd (cY p) (ld p e fW)) (dd (cY p) (nH p count-ld p e fW)) (.T .none 1 (bo fW)) (.T .none 3 ((p.files.map (lK e)).map bj))))]) ?_ ?_;refine cb (t:=cY p) ?_ ?_<;>intro eb;refine go ?_;have Z:∀x,dd (cY p) x=x:=λx=>auO eb;exact gL () [(2,2),(4,4),(7,7),(8,8),(4102,4102),(4001,4001),(6,6)] trivial (by rw[Z (ld p e fW),Z (nH p count-ld p e fW),nH,auO eb];exact⟨cX,rfl,cX⟩);refine go ?_;have Z:∀x,dd (cY p) x=0:=λx=>auN (by rw[eb];decide);exact gL () [(2,2),(4,4),(7,7),(8,8),(4102,4102),(4001,4001),(6,6)] trivial (by rw[Z (ld p e fW),Z (nH p count-ld p e fW),nH,auN (by rw[eb];decide)];exact⟨cX,rfl,cX⟩);intro _ _;(have BB:l9 (xu p count)=.agg (jy p.start count (jX p V) (jY p) (dd (cY p) p.m.du) (dd (cY p) p.start) (dd (cY p) count) (dd (cY p) (p.start+16+p.desc)) (dd (cY p) (ld p e fW)) (dd (cY p) (nH p count-ld p e fW)) (.T .none 1 (bo fW)) (.T .none 3 ((p.files.map (lK e)).map bj))):=by unfold l9 xu;simp only[Ph,mV,akz]);have akB:=akp (B:=B) V AR 147 [.box 4101 ca 0] _ _ (λk=>decide (k<p.free)) (λk Z=>ako p k cp ca b9);by_cases hv:e.a<=nH p count;(·(have zW:m_ p count=!(V.any λk=>decide (k<p.free)):=by unfold m_;simp only[Ph,mV,avP hv];first|done|rfl);rw[BB,zW];have aS:=avP hv;have ax:true=true:=rfl;refine go ?_;refine' eU [(2,.box ca [.box 4102 b9 0]),(4,.box cJ rd),(6,.box dW (jy p.start count (jX p V) (jY p) (dd (cY p) p.m.du) (dd (cY p) p.start) (dd (cY p) count) (dd (cY p) (p.start+16+p.desc)) (dd (cY p) (ld p e fW)) (dd (cY p) (nH p count-ld p e fW)) (.T .none 1 (bo fW)) (.T .none 3 ((p.files.map (lK e)).map bj)))),(7,.box y [.T .none 1 (bo V)]),(8,.box cG [u e.a]),(4102,.box b9 (fm p cp)),(4001,.mp cp (br bj p.a'))] () (λ_:Unit=>[_,_,_,.bool true,.bool true,_,_,.bool (V.any λk=>decide (k<p.free)),.bool (!(V.any λk=>decide (k<p.free))),.bool (!(V.any λk=>decide (k<p.free))),.any,_]) (λ_=>[(10,4,some (.box cJ (jy p.start count (jX p V) (jY p) (dd (cY p) p.m.du) (dd (cY p) p.start) (dd (cY p) count) (dd (cY p) (p.start+16+p.desc)) (dd (cY p) (ld p e fW)) (dd (cY p) (nH p count-ld p e fW)) (.T .none 1 (bo fW)) (.T .none 3 ((p.files.map (lK e)).map bj)))))]) [0,0,0,6,14,30,30,126,254,510,255,2047] [(10,4)] ?_ ?_;rotate_left 6;refine dB ?_;refine⟨λy=>.inl (ap.of_eq (auP D.bool aS)),dB ?_⟩;refine⟨λy=>⟨_,_,rfl,rfl,.inl ⟨rfl,.inr (.inr (ah.EM rfl [.T .none 1 (bo V),.fn (.func 147) [] [.box 4101 ca 0]] [(4101,2),(4102,4102)] rV akB rfl ⟨E,ap.fn trivial ⟨ap.box,ak⟩,ak⟩ (cB ())))⟩⟩,dB ?_⟩;refine Go.bV.ct.vs ?_;exact trivial;intro _;(conv=>whnf);refine go ?_;refine⟨.bm [.agg (jy p.start count (jX p V) (jY p) (dd (cY p) p.m.du) (dd (cY p) p.start) (dd (cY p) count) (dd (cY p) (p.start+16+p.desc)) (dd (cY p) (ld p e fW)) (dd (cY p) (nH p count-ld p e fW)) (.T .none 1 (bo fW)) (.T .none 3 ((p.files.map (lK e)).map bj))),.bool (!(V.any λk=>decide (k<p.free)))],?_,rfl,cJ,_,rfl,a_⟩;exact⟨rfl,E,E,ak⟩);(have zW:m_ p count=false:=by unfold m_;simp only[mV,avw hv];first|done|rfl);rw[BB,zW];have aS:=avw hv;have ax:false=false:=rfl;refine go ?_;refine' eU [(2,.box ca [.box 4102 b9 0]),(4,.box cJ rd),(6,.box dW (jy p.start count (jX p V) (jY p) (dd (cY p) p.m.du) (dd (cY p) p.start) (dd (cY p) count) (dd (cY p) (p.start+16+p.desc)) (dd (cY p) (ld p e fW)) (dd (cY p) (nH p count-ld p e fW)) (.T .none 1 (bo fW)) (.T .none 3 ((p.files.map (lK e)).map bj)))),(7,.box y [.T .none 1 (bo V)]),(8,.box cG [u e.a]),(4102,.box b9 (fm p cp)),(4001,.mp cp (br bj p.a'))] () (λ_:Unit=>[_,_,_,.bool false,.bool false,.undef,.undef,.undef,.mb false (.bool false),.bool false,.any,_]) (λ_=>[(10,4,some (.box cJ (jy p.start count (jX p V) (jY p) (dd (cY p) p.m.du) (dd (cY p) p.start) (dd (cY p) count) (dd (cY p) (p.start+16+p.desc)) (dd (cY p) (ld p e fW)) (dd (cY p) (nH p count-ld p e fW)) (.T .none 1 (bo fW)) (.T .none 3 ((p.files.map (lK e)).map bj)))))]) [0,0,0,6,14,30,30,126,254,510,255,2047] [(10,4)] ?_ ?_;rotate_left 4;refine dB ?_;refine⟨λy=>.inl (ap.of_eq (auP D.bool aS)),dB ?_⟩;refine⟨λy=>⟨_,_,rfl,rfl,.inr (.inl ⟨rfl,rfl,ap.uW⟩)⟩,dB ?_⟩;refine⟨λy=>.inl ?_,dB ?_⟩;(conv=>whnf);refine⟨(λ_ h=>by cases h),?_⟩;(conv=>whnf);exact E;refine Go.bV.ct.vs ?_;exact trivial;intro _;(conv=>whnf);refine go ?_;refine⟨.bm [.agg (jy p.start count (jX p V) (jY p) (dd (cY p) p.m.du) (dd (cY p) p.start) (dd (cY p) count) (dd (cY p) (p.start+16+p.desc)) (dd (cY p) (ld p e fW)) (dd (cY p) (nH p count-ld p e fW)) (.T .none 1 (bo fW)) (.T .none 3 ((p.files.map (lK e)).map bj))),.bool false],?_,rfl,cJ,_,rfl,a_⟩;exact⟨rfl,E,E,ak⟩
def re:q3:=⟨0,0,0,0,0,false,0,0,0,0,0,[],0,0,0,[]⟩
def uE(p:dF)(n:Nat):Option Nat:=(List.range n).find? λi=>m_ p ((i:Int)+1)
def rf(p:dF)(cap:Int):q3×Int:=match uE p (cap-p.start).toNat with
 |some i=>(xu p ((i:Int)+1),0)
 |none=>(re,12)
variable{i:Nat}
theorem akC{p:dF}{n:Nat}(hi:i<n)(h:m_ p ((i:Int)+1)=true)(aj:∀j,j<i->m_ p ((j:Int)+1)=false):uE p n=some i:=by unfold uE;rw[axd];exact⟨h,awa.2 hi,λj ad=>by rw[aj j ad];rfl⟩
theorem akD{p:dF}{n:Nat}(aj:∀j,j<n->m_ p ((j:Int)+1)=false):uE p n=none:=by unfold uE;rw[awn];intro x J;rw[aj x (awa.1 J)];decide
theorem X5(p:dF)(aw:CY p)(cap:Int)(jn:0<=cap)(e6:cap<=4096)(b9 cp:Nat):c4 B 62 [.box 4102 b9 0,u cap] (aM [(4102,.box b9 (fm p cp)),(4001,.mp cp (br bj p.a'))]) λd aO=>d=.bm [l9 (rf p cap).1,u (rf p cap).2]/\∃cJ aD,aO=aM [(4102,.box b9 (fm p cp)),(4001,.mp cp (br bj p.a')),(4,.box cJ aD)]:=by refine jI Tryz.func62 Tryz.ntmps62 λW=>?_;have m5:=aw;obtain⟨hj,jP,_⟩:=m5;refine go ?_;intro cJ;refine go ?_;refine Y.ee (α:={i:Nat // i<=(cap-p.start).toNat/\∀j,j<i->m_ p ((j:Int)+1)=false}) (λx=>[(0,.box 4102 b9 0),(1,u cap),(4,.box 4 cJ 0),(6,u ((x.1:Int)+1))]) (λx=>[(4102,.box b9 (fm p cp)),(4001,.mp cp (br bj p.a')),(4,.box cJ rd)]) (λx=>(cap-p.start).toNat-x.1) ⟨0,by omega,λj h=>by omega⟩ [(4102,4102),(4001,4001),(4,4)] ⟨an,rfl,a_⟩ ?_;rintro⟨i,hi,aj⟩;dsimp only at hi aj⊢;refine go ?_;refine aI (decide ((i:Int)+1<=cap-p.start)) rfl ?_ ?_<;>intro hc;refine go ?_;have akE:(i:Int)+1<=cap-p.start:=avg hc;refine go ?_;refine .inr (ah.call rfl [.box 4102 b9 0,u ((i:Int)+1)] [(4102,4102),(4001,4001)] (c8.xq rfl rfl (akt p aw ((i:Int)+1) auD auD b9 cp)) rfl an ?_);rintro d aO ⟨rfl,cF,as3,rfl⟩;refine p8 ?_;intro dM;refine go ?_;refine aI (m_ p ((i:Int)+1)) rfl ?_ ?_<;>intro bx;apply eh;have C2:=akC (p:=p) (n:=(cap-p.start).toNat) auD bx aj;apply jH;apply cj;refine ej ?_;(have xp:rf p cap=(xu p ((i:Int)+1),0):=by rw[rf,C2]);rw[xp];refine Y.gS [(4,.box 4 cJ 0),(5,u 0)] [(4102,.box b9 (fm p cp)),(4001,.mp cp (br bj p.a')),(4,.box cJ (l9 (xu p ((i:Int)+1))).cells)] [(4102,4102),(4001,4001),(4,4)] ⟨an,rfl,a_⟩ ?_;refine go ?_;refine⟨.bm [l9 (xu p ((i:Int)+1)),u 0],?_,rfl,cJ,_,rfl⟩;refine go ?_;exact an;refine go ?_;exact⟨⟨i+1,by omega,λj ad=>by by_cases fq:j=i;subst fq;exact bx;exact aj j auD⟩,[(4102,4102),(4001,4001),(4,4)],by show(cap-p.start).toNat-(i+1)<(cap-p.start).toNat-i;omega,⟨E,E,E,dx (by show _=(((i+1:Nat)):Int)+1;omega),ak⟩,rfl,a_⟩;have akE:¬(i:Int)+1<=cap-p.start:=ava hc;have C2:=akD (p:=p) (n:=(cap-p.start).toNat) (λj ad=>aj j auD);refine Y.exit ?_;refine kB ?_;(have xp:rf p cap=(re,12):=by rw[rf,C2]);rw[xp];refine Y.gS [(4,.box 4 cJ 0),(5,u 12)] [(4102,.box b9 (fm p cp)),(4001,.mp cp (br bj p.a')),(4,.box cJ rd)] [(4102,4102),(4001,4001),(4,4)] ⟨an,rfl,a_⟩ ?_;refine go ?_;refine⟨.bm [l9 re,u 12],?_,rfl,cJ,_,rfl⟩;refine go ?_;exact⟨ap.agg (a:=rd) (bv:=(l9 re).cells) ⟨E,E,E,E,E,E,E,E,E,E,E,ap.nil,E,E,E,ap.nil,ak⟩,E,ak⟩
def Jw(p:dF)(f:e8):Bool:=bif !(co p.a' f.path).isSome then f.data !=[]else false
def lL(p:dF)(l:List e8):List auM:=(l.filter (Jw p)).map (·.path)
theorem akF(p:dF){l:List e8}(h:i<l.length):lL p (l.take (i+1))=lL p (l.take i)++(if Jw p l[i]=true then[l[i].path]else[]):=by rw[lL,auU h,av7,avo,<-lL,avJ];split<;>rfl
theorem Jx(p:dF)(l:List e8):(lL p l).length<=l.length:=by rw[lL,auS];exact avn _ _
theorem X6(p:dF)(dg:p.files.length<1000000)(b9 cp:Nat):c4 B 60 [.box 4102 b9 0] (aM [(4102,.box b9 (fm p cp)),(4001,.mp cp (br bj p.a'))]) λd aO=>d=.T .none 1 (aQ (lL p p.files))/\aO=aM [(4102,.box b9 (fm p cp)),(4001,.mp cp (br bj p.a'))]:=by refine jI Tryz.func60 Tryz.ntmps60 λW=>?_;apply b1;apply b1;refine gj ?_;(conv=>whnf);refine dc ?_;refine Y.own 3 1000 1 9 rfl (λw=>?_);refine go ?_;refine Y.ee (α:={i:Nat // i<=p.files.length}×Value) (λx=>[(0,.box 4102 b9 0),(3,.T (.own 1000 x.2) 1 (aQ (lL p (p.files.take x.1.1)))),(11,.T .none 2 (p.files.map ek)),(12,u ((p.files.map ek).length:Nat)),(13,u x.1.1)]) (λx=>[(4102,.box b9 (fm p cp)),(4001,.mp cp (br bj p.a')),(1000,.own x.2 (aQ (lL p (p.files.take x.1.1))).length 1 9)]) (λx=>p.files.length-x.1.1) (⟨0,by omega⟩,w) [(4102,4102),(4001,4001),(1000,1000)] ⟨an,rfl,a_⟩ ?_;rintro⟨⟨i,hi⟩,w⟩;dsimp only at hi⊢;refine go ?_;refine aI (decide ((i:Int)<((p.files.map ek).length:Nat))) rfl ?_ ?_<;>intro hc;(·apply ci;(have aG:i<p.files.length:=by simpa using hc);have h4:=Js aG;have c2:=akF p aG;have nA:=Jx p (p.files.take i);rw[au9]at nA;generalize lL p (p.files.take i)=L at*;generalize p.files[i]=sk at*;(have fe:(aQ L).length=L.length:=by simp[aQ]);refine gJ ?_;refine⟨λ_=>by rw[auS];omega,?_⟩;(conv=>whnf);refine⟨ek sk,λ_=>h4,?_⟩;refine go ?_;intro cF;(conv=>whnf);refine dc ?_;apply eh;refine Y.fc [(0,.box 4102 b9 0),(3,.T (.own 1000 w) 1 (aQ L)),(11,.T .none 2 (p.files.map ek)),(12,u ((p.files.map ek).length:Nat)),(13,u (i:Int)),(5,.box 5 cF 0)] [(4102,.box b9 (fm p cp)),(4001,.mp cp (br bj p.a')),(1000,.own w (aQ L).length 1 9),(5,.box cF (ek sk).cells)] [(4102,4102),(4001,4001),(1000,1000),(5,5)] ⟨an,rfl,a_⟩ ?_;refine' eU (α:=Nat) [(4102,.box b9 (fm p cp)),(4001,.mp cp (br bj p.a')),(1000,.own w (aQ L).length 1 9),(5,.box cF (ek sk).cells)] 0 (λq=>[_,_,_,_,_,_,.bm [bj ((co p.a' sk.path).getD gC),.bool (co p.a' sk.path).isSome],_,_,_,.box 6 q 0,.any,_]) (λq=>[(10,6,some (.box q ([.N [],u 0,u 0]))),(11,6,some (.box q ((bj ((co p.a' sk.path).getD gC)).cells)))]) [0,1,3,7,0,16,63,127,255,255,0,1535,4095] [(10,6),(11,6)] ?_ ?_;rotate_left 10;refine dB ?_;refine bQ (λq=>ah.qp 4001 (em:=9) (eB:=53) (enc:=bj) (Q:=gC) rfl rfl rfl rfl rfl auL (λw C=>xt w C) (cB q)) ?_;refine wR ?_;exact trivial;intro q;(conv=>whnf);refine Y.fc [(0,.box 4102 b9 0),(3,.T (.own 1000 w) 1 (aQ L)),(11,.T .none 2 (p.files.map ek)),(12,u ((p.files.map ek).length:Nat)),(13,u (i:Int)),(5,.box 5 cF 0),(7,.bool (co p.a' sk.path).isSome)] [(4102,.box b9 (fm p cp)),(4001,.mp cp (br bj p.a')),(1000,.own w (aQ L).length 1 9),(5,.box cF (ek sk).cells)] [(4102,4102),(4001,4001),(1000,1000),(5,5)] ⟨cX,rfl,cX⟩ ?_;refine go ?_;refine aI (Jw p sk) rfl ?_ ?_<;>intro bx;apply jH;refine ej ?_;refine mm ?_;refine⟨by show(_+1)*16<=_;omega,by show _+1<=_;omega,auK,λgO=>?_⟩;refine go ?_;(have aq:aQ L++[.N sk.path]=aQ (lL p (p.files.take (i+1))):=by rw[c2,auO bx];simp[aQ]);exact⟨(⟨i+1,aG⟩,gO),[(4102,4102),(4001,4001),(1000,38)],ay1,⟨E,ap.i' aq,E,E,E,ak⟩,rfl,rfl,rfl,rfl,rfl,rfl,jq (by rw[<-aq];simp),ak⟩;refine go ?_;(have aq:L=lL p (p.files.take (i+1)):=by rw[c2,auN (by rw[bx];decide),avC]);exact⟨(⟨i+1,aG⟩,w),[(4102,4102),(4001,4001),(1000,1000)],ay1,⟨E,ap.i' (by rw[<-aq]),E,E,E,ak⟩,rfl,rfl,rfl,rfl,rfl,rfl,jq (by rw[<-aq]),ak⟩);(have cr:i=p.files.length:=by simp at hc;omega);subst cr;rw[au2];refine sN ?_;refine Y.gS [(2,.T .none 1 (aQ (lL p p.files)))] [(4102,.box b9 (fm p cp)),(4001,.mp cp (br bj p.a'))] [(4102,4102),(4001,4001)] ⟨⟨ap.mf,ak⟩,rfl,a_⟩ ?_;exact azs
def v_(p:dF):dF:={p with free:=p.start+66+2}
def kn(p:dF)(s:Int×Int):dF:=if uD p=true then{p with free:=p.start+66+2,iso:=s.1,desc:=r3 (gN p.m)}else v_ p
def eS(p:dF)(s ao:Int×Int):dF×Int :=
 if uD p=true/\s.2≠0 then(v_ p,s.2)
 else if cY p=true then({kn p s with du:=ao.1},ao.2)else({kn p s with free:=p.start+16+(kn p s).desc},0)
theorem akG(p:dF)(s:Int×Int)(h:0<=p.desc)(A:p.desc<=100):0<=(kn p s).desc/\(kn p s).desc<=100:=by unfold kn;split;show 0<=r3 _/\r3 _<=100;unfold r3;split<;>split<;>omega;exact⟨h,A⟩
theorem X7(p:dF)(n:U)(s ao:Int×Int)(h1:0<=p.start)(A:p.start<=4096)(aa:0<=p.desc)(aF:p.desc<=100)(oO:p.m.gM.length<1000000)(bf:uD p=true->aT B 30 [az n,r2 (gN p.m)] (.bm [u s.1,u s.2]))(gk:cY p=true->aT B 94 [az n,u p.m.du] (.bm [u ao.1,u ao.2]))(b9 cp:Nat):c4 B 61 [.box 4102 b9 0,az n] (aM [(4102,.box b9 (fm p cp))]) λd aO=>d=u (eS p s ao).2/\aO=aM [(4102,.box b9 (fm (eS p s ao).1 cp))]:=by refine jI Tryz.func61 Tryz.ntmps61 λW=>?_;refine cc ?_;intro el;apply b1;(conv=>whnf);refine dc ?_;refine Y.k0 (α:={as4:Unit // ¬(uD p=true/\s.2≠0)}) (λx=>[(0,.box 4102 b9 0),(3,.box 3 el 0)]) (λx=>[(4102,.box b9 (fm (kn p s) cp)),(3,.box el (az n).cells)]) ?_ ?_;refine go ?_;refine bq (r0 p.m.fU 0 auG) ?_;refine aI (uD p) rfl ?_ ?_<;>intro hc;refine mQ ?_;refine go ?_;refine bq (Us p.m oO) ?_;refine bq (bf hc) ?_;refine aI (s.2 !=0) rfl ?_ ?_<;>intro bx;refine cc ?_;(have hm:eS p s ao=(v_ p,s.2):=by rw[eS,auO ⟨hc,by simpa using bx⟩]);rw[hm];refine Y.gS [(4,u s.2)] [(4102,.box b9 (fm (v_ p) cp))] [(4102,4102)] ⟨an,rfl,a_⟩ ?_;refine go ?_;exact⟨_,E,rfl,rfl⟩;refine go ?_;refine bq (Us p.m oO) ?_;refine bq (ae8 (gN p.m)) ?_;exact⟨⟨(),λh=>h.2 (by simpa using bx)⟩,[(4102,4102),(3,3)],an,rfl,rfl,(auP (λq=>some (aJ.box b9 (fm q cp))) (show({p with free:=p.start+66+2,iso:=s.1,desc:=r3 (gN p.m)}:dF)=kn p s from(auO hc).symm)),rfl,a_⟩;refine go ?_;exact⟨⟨(),λh=>by rw[hc]at h;cases h.1⟩,[(4102,4102),(3,3)],an,rfl,rfl,(auP (λq=>some (aJ.box b9 (fm q cp))) (show v_ p=kn p s from(auN (by rw[hc];decide)).symm)),rfl,a_⟩;rintro⟨_,aZ⟩;have rY:=akG p s aa aF;(have bZ:(kn p s).m=p.m:=by unfold kn v_;split<;>rfl);(have b0:(kn p s).start=p.start:=by unfold kn v_;split<;>rfl);(have Pm:cY p=kF (kn p s).m.fU 3:=by rw[bZ];rfl);generalize xw:kn p s=k3 at*;refine go ?_;refine bq (r0 k3.m.fU 3 auG) ?_;refine aI (!kF k3.m.fU 3) rfl ?_ ?_<;>intro hc;apply eh;refine Y.zI aN 11 mixed auI ?_;apply cj;refine hb ?_;apply cj;refine hb ?_;apply cj;refine cc ?_;(have au:¬cY p=true:=by rw[Pm];simpa using hc);(have hm:eS p s ao=({k3 with free:=k3.start+16+k3.desc},0):=by rw[eS,auN aZ,auN au,xw,<-b0]);rw[hm];refine Y.gS [(4,u 0)] [(4102,.box b9 (fm {k3 with free:=k3.start+16+k3.desc} cp))] [(4102,4102)] ⟨an,rfl,a_⟩ ?_;refine go ?_;exact⟨_,E,rfl,rfl⟩;apply ci;(have au:cY p=true:=by rw[Pm];simpa using hc);have X8:=gk au;rw[<-bZ]at X8;refine mQ ?_;refine go ?_;refine⟨[az n,u k3.m.du],_,λ_=>X8,an,?_⟩;refine gK ?_;refine cc ?_;(have hm:eS p s ao=({k3 with du:=ao.1},ao.2):=by rw[eS,auN aZ,auO au,xw]);rw[hm];refine Y.gS [(4,u ao.2)] [(4102,.box b9 (fm {k3 with du:=ao.1} cp))] [(4102,4102)] ⟨an,rfl,a_⟩ ?_;exact azs
variable{fb:Nat}
theorem _root_.Go.bV.c8.Jy{H:bH}{cP:Nat}(h1:H fb=some dj)(hc:c4 B f ds (aM [(cP,dj)]) a6):c4 B f ds (gy H [(cP,fb)]) a6:=by(have e:gy H [(cP,fb)]=aM [(cP,dj)]:=by funext j;simp only[gy,aM];cases Nat.beq j cP with|true=>exact h1|false=>rfl);rw[e];exact hc
theorem akH(f:e8)(g:dl)(b:Nat):c4 B 90 [ek f,.box 4101 b 0] (aM [(4101,.box b (bj g).cells)]) λd aO=>d=.bool (f.path==g.path)/\aO=aM [(4101,.box b (bj g).cells)]:=by refine jI Tryz.func90 Tryz.ntmps90 λW=>?_;refine cc ?_;intro ca;refine gK ?_;refine ej ?_;refine Y.gS [(3,.bool (f.path==g.path))] [(4101,.box b (bj g).cells)] [(4101,4101)] ⟨an,rfl,a_⟩ ?_;exact azr
theorem akI(V:List e8)(hT:V.length<1000000)(b6:Nat)(cs:List D)(dj:aJ)(p:e8->Bool)(m5:∀k∈V,c4 B b6 (ek k::cs) (aM [(4101,dj)]) λd aO=>d=.bool (p k)/\aO=aM [(4101,dj)]):c4 B 89 [.T .none 2 (V.map ek),.fn (.func b6) [] cs] (aM [(4101,dj)]) λd aO=>d=u (fh p V)/\aO=aM [(4101,dj)]:=by refine jI Tryz.func89 Tryz.ntmps89 λW=>?_;apply b1;refine mT ?_;refine Y.ee (α:={i:Nat // i<=V.length/\∀j (h:j<V.length),j<i->p (V[j])=false}) (λx=>[(0,.T .none 2 (V.map ek)),(1,.fn (.func b6) [] cs),(7,u (V.map ek).length),(8,u x.1)]) (λ_=>[(4101,dj)]) (λx=>V.length-x.1) ⟨0,by simp⟩ [(4101,4101)] ⟨an,rfl,a_⟩ ?_;rintro⟨i,hi,aw⟩;dsimp only;apply b1;apply eh;refine aI (decide ((i:Int)<(V.map ek).length)) rfl ?_ ?_<;>intro hc;apply ci;(have aG:i<V.length:=by simpa using hc);refine jJ ?_;apply b1;refine qI ?_;refine .inl ⟨λ_=>by rw[auS];omega,?_⟩;(conv=>whnf);refine .inl ⟨ek V[i],λ_=>Js aG,?_⟩;(conv=>whnf);refine .inr (ah.call rfl (ek V[i]::cs) [(4101,4101)] (c8.Jy rfl (m5 V[i] (auT aG))) rfl ⟨E,dO.refl _⟩ ?_);rintro d aO ⟨rfl,rfl⟩;refine⟨_,E,?_⟩;refine aI (p V[i]) rfl ?_ ?_<;>intro hc;refine cc ?_;refine Y.gS [(4,u (fh p V))] [(4101,dj)] [(4101,4101)] ⟨⟨dx (zP (p:=p) aG aw hc).symm,ak⟩,rfl,a_⟩ ?_;(conv=>whnf);exact⟨_,E,rfl,rfl⟩;refine qJ ?_;exact⟨⟨i+1,aG,λj h ad=>ay0⟩,[(4101,4101)],azi,an,rfl,a_⟩;(have cr:i=V.length:=by simp at hc;omega);refine sN ?_;refine Y.gS [(4,u (fh p V))] [(4101,dj)] [(4101,4101)] ⟨⟨dx (zQ (p:=p) λj h=>aw j h auD).symm,ak⟩,rfl,a_⟩ ?_;exact azr
def C3(n:Int):Bool:=bif decide (0<=n)then decide (n<4294967296)else false
theorem akJ(n:Int):aT B 288 [u n] (.bool (C3 n)):=by refine bB Tryz.func288 Tryz.ntmps288 λW=>?_;apply b1;apply b1;refine il ?_;refine hz ?_;exact E
theorem akK(e:f4):aT B 287 [kK e] (.bool (!C3 e.rb)):=by refine bB Tryz.func287 Tryz.ntmps287 λW=>?_;refine cc ?_;intro dI;refine kB ?_;refine⟨[u e.rb],_,λ_=>akJ e.rb,an,?_⟩;refine hz ?_;exact E
theorem akL{l:List f4}(h:i<l.length):(ec l)[Int.toNat (i:Int)]?=some (kK l[i]):=by simp[ec,h]
theorem akM(V:List f4)(hT:V.length<1000000)(b6:Nat)(p:f4->Bool)(m5:∀k∈V,aT B b6 [kK k] (.bool (p k))):aT B 327 [.T .none 3 (ec V),.fn (.func b6) [] []] (u (fh p V)):=by refine bB Tryz.func327 Tryz.ntmps327 λW=>?_;apply b1;refine mT ?_;refine Y.ee (α:={i:Nat // i<=V.length/\∀j (h:j<V.length),j<i->p (V[j])=false}) (λx=>[(0,.T .none 3 (ec V)),(1,.fn (.func b6) [] []),(7,u (ec V).length),(8,u x.1)]) (λ_=>[]) (λx=>V.length-x.1) ⟨0,by simp⟩ [] ⟨an,rfl,ak⟩ ?_;rintro⟨i,hi,aw⟩;dsimp only;apply b1;apply eh;refine aI (decide ((i:Int)<(ec V).length)) rfl ?_ ?_<;>intro hc;apply ci;(have aG:i<V.length:=by simpa[ec]using hc);refine jJ ?_;refine pl ?_;refine⟨λ_=>by simp[ec];omega,?_⟩;(conv=>whnf);refine⟨kK V[i],λ_=>akL aG,?_⟩;(conv=>whnf);refine⟨[kK V[i]],_,λ_=>m5 V[i] (auT aG),an,?_⟩;refine aI (p V[i]) rfl ?_ ?_<;>intro hc;refine gp ?_;exact dx (zP (p:=p) aG aw hc).symm;refine qJ ?_;exact⟨⟨i+1,aG,λj h ad=>ay0⟩,[],azi,an,rfl,ak⟩;(have cr:i=V.length:=by simp[ec]at hc;omega);refine qH ?_;exact dx (zQ (p:=p) λj h=>aw j h auD).symm
theorem akN(V:List f4)(hT:V.length<1000000)(b6:Nat)(p:f4->Bool)(m5:∀k∈V,aT B b6 [kK k] (.bool (p k))):aT B 286 [.T .none 3 (ec V),.fn (.func b6) [] []] (.bool (decide (0<=fh p V))):=by refine bB Tryz.func286 Tryz.ntmps286 λW=>?_;refine pl ?_;refine⟨[.T .none 3 (ec V),.fn (.func b6) [] []],_,λ_=>akM V hT b6 p m5,an,?_⟩;refine hz ?_;exact E
end Go.bV.ct

namespace Go.bV
open Go Go.RowKit
variable{P:Program}{B:World}{al:Nat}{z:av}{dst:Option Tmp}{x:Operand}{v:Value}{xs:List D}{k e i:Nat}
theorem ah.rg{K:av->Prop}(s:Nat){m:Nat}(J:z.bb x=.am (h5 v m))(hs:z.H s=some (.row v xs k e))(hi:i<xs.length)(hK:K (z.put dst (.am (h5 v m)))):ah P B al z dst (.nilCheck x) K :=
 .val λW w C a M type pos after=>by
  have X:=cI M.tmps x;rw[J]at X
  obtain⟨b,cap,vs,rfl,_⟩:=ks.pos (i:=i) (M.heap.cl s _ hs) hi;refine⟨_,w,C,z,_,?_,M,.am _,hK⟩;simp[execOp,X.gh,h5]
end Go.bV
namespace Go.bV.ct
open Go Go.Proofs
variable{B:World}
def nI(id:auM)(dp:Int)(lv:Value)(aY lM:Int):D:=.agg [.N id,u dp,.am lv,u aY,u lM]
def fM(cw:auM->U×Int)(n:U)(bP:List auM):List (auM×U):=bP.foldl (λm p=>fz m p (cw p).1) [([47],n)]
variable{i:Nat}
theorem akO(cw:auM->U×Int)(n:U){bP:List auM}(h:i<bP.length):fM cw n (bP.take (i+1))=fz (fM cw n (bP.take i)) bP[i] (cw bP[i]).1:=by rw[fM,auU h,avW];rfl
def AS(d_ bW bG:Nat)(o:fk)(n:U)(ai:List (auM×U)):List (Nat×aJ):=[(4102,.box d_ (dH o n bW bG).cells),(4103,.mp bW (br az ai)),(4104,.mp bG (br bj []))]
theorem akP(cw:auM->U×Int)(n:U)(o:fk)(bP:List auM)(aj:bP.length<1000000)(hE:aT B 96 [az n] (.T .none 1 (aQ bP)))(k_:∀p∈bP,aT B 17 [az n,.N p] (.bm [az (cw p).1,u (cw p).2])):c4 B 76 [XV,az n,.bd,r2 o] bH.none λd aO=>∃d_ bW bG,d=.box 4102 d_ 0/\aO=aM (AS d_ bW bG o n (fM cw n bP)):=by refine jI Tryz.func76 Tryz.ntmps76 λW=>?_;refine cc ?_;intro cJ;(conv=>whnf);intro cF;(conv=>whnf);intro dM;refine np ?_;apply cj;apply ei;apply cj;apply ei;apply cj;apply tU;refine ah.vu (λer=>?_);apply ei;apply cj;apply tU;refine ah.Ex (ah.xr 17 (em:=9) (eB:=44) (enc:=az) (l:=[]) (k:=[47]) (v:=n) rfl rfl rfl rfl rfl rfl ?_);apply ei;apply tU;refine ah.vu (λra=>?_);apply ei;apply ei;refine go ?_;intro td;refine jp ?_;refine Y.fc [(2,.bd),(9,.box 22 td 0),(5,.box 5 cF 0)] [(5,.box cF (az n).cells),(17,.mp er (br az [([47],n)])),(20,.mp ra (br bj [])),(22,.box td (dH o n er ra).cells)] [(5,5),(17,17),(20,20),(22,22)] (by exact⟨an,rfl,a_⟩) ?_;refine go ?_;refine bq (hE) ?_;refine Y.ee (α:={i:Nat // i<=bP.length}) (λx=>[(2,.bd),(9,.box 4102 td 0),(5,.box 5 cF 0),(24,.T .none 1 (aQ bP)),(25,u ((aQ bP).length:Nat)),(26,u ((x.1:Nat):Int))]) (λx=>[(5,.box cF (az n).cells),(4102,.box td (dH o n er ra).cells),(4103,.mp er (br az (fM cw n (bP.take x.1)))),(4104,.mp ra (br bj []))]) (λx=>bP.length-x.1) ⟨0,by omega⟩ [(5,5),(4102,22),(4103,17),(4104,20)] ⟨⟨E,ap.box,E,E,E,E,ak⟩,rfl,a_⟩ ?_;rintro⟨i,hi⟩;dsimp only at hi⊢;refine go ?_;refine aI (decide ((i:Int)<((aQ bP).length:Nat))) rfl ?_ ?_<;>intro hc;(·apply ci;(have aG:i<bP.length:=by simpa[aQ]using hc);have c2:=akO cw n aG;have E7:=k_ bP[i] (auT aG);(have h4:(aQ bP)[Int.toNat (i:Int)]?=some (.N bP[i]):=by simp[aQ,aG]);generalize fM cw n (bP.take i)=ai at*;generalize bP[i]=p at*;refine gJ ?_;refine⟨λ_=>by simp[aQ];omega,?_⟩;refine go ?_;refine⟨.N p,λ_=>h4,?_⟩;refine go ?_;have X9:=E7;refine' eU (α:=Unit) [(5,.box cF (az n).cells),(4102,.box td (dH o n er ra).cells),(4104,.mp ra (br bj [])),(4103,.mp er (br az ai))] () (λ_=>[_,_,_,_,_,_,_,.bm [az (cw p).1,u (cw p).2],_,_,_,.any]) (λ_=>[(11,4103,some (.mp er (br az (fz ai p (cw p).1))))]) [0,1,3,7,0,0,0,96,224,480,480,1023] [(11,4103)] ?_ ?_;rotate_left 10;refine dB ?_;refine bQ (λ_=>ah.xr 4103 (em:=9) (eB:=44) (enc:=az) (l:=ai) (k:=p) (v:=(cw p).1) rfl rfl rfl rfl rfl rfl (ed ())) ?_;exact trivial;intro _;(conv=>whnf);refine Y.fc [(2,.bd),(9,.box 4102 td 0),(5,.box 5 cF 0),(24,.T .none 1 (aQ bP)),(25,u ((aQ bP).length:Nat)),(26,u ((i:Nat):Int))] [(5,.box cF (az n).cells),(4102,.box td (dH o n er ra).cells),(4104,.mp ra (br bj [])),(4103,.mp er (br az (fz ai p (cw p).1)))] [(5,5),(4102,4102),(4104,4104),(4103,4103)] ⟨cX,rfl,cX⟩ ?_;refine go ?_;exact⟨⟨i+1,aG⟩,[(5,5),(4102,4102),(4103,4103),(4104,4104)],by show bP.length-(i+1)<bP.length-i;omega,an,rfl,rfl,rfl,rfl,rfl,rfl,auP (λQ=>some (aJ.mp er (br az Q))) c2.symm,rfl,a_⟩);(have cr:i=bP.length:=by simp[aQ]at hc;omega);subst cr;rw[au2];refine go ?_;refine Y.ee (α:=Unit) (λ_=>[(9,.box 4102 td 0),(43,u 0),(44,u 0)]) (λ_=>AS td er ra o n (fM cw n bP)) (λ_=>0) () [(4102,4102),(4103,4103),(4104,4104)] ⟨an,rfl,a_⟩ ?_;rintro⟨⟩;apply b1;apply eh;refine aI _ rfl ?_ ?_<;>intro hc;exact absurd hc auG;refine sN ?_;refine Y.gS [(8,.box 4102 td 0)] (AS td er ra o n (fM cw n bP)) [(4102,4102),(4103,4103),(4104,4104)] ⟨an,rfl,a_⟩ ?_;refine go ?_;exact⟨_,E,td,er,ra,rfl,rfl⟩
end Go.bV.ct

namespace Go.bV.ct
open Go Go.Proofs
variable{B:World}
theorem akQ(aX:dk B)(v:Int)(F:List U)(hlen:F.length<1000000)(ky:∀k∈F,k.name.length<1000000000):aT B 182 [u v,.T .none 12 (F.map enc)] (.bm [.T .none 1 (aQ (jV v F).1),u (jV v F).2]):=by refine bB Tryz.func182 Tryz.ntmps182 λW=>?_;refine go ?_;intro bk;refine go ?_;refine bq (Ff v) ?_;refine aI _ rfl ?_ ?_<;>intro hc;refine go ?_;(have h1:ka v=false:=by simpa using hc);(have eJ:jV v F=([],2):=by rw[jV,auO h1]);rw[eJ];exact⟨ap.nil,E,ak⟩;refine go ?_;(have AT:ka v=true:=by simpa using hc);refine go ?_;refine aI _ rfl ?_ ?_<;>intro hc;refine go ?_;(have h1:64<F.length:=by simp at hc;omega);(have eJ:jV v F=([],7):=by rw[jV,auN (by rw[AT];simp),auO h1]);rw[eJ];exact⟨ap.nil,E,ak⟩;refine go ?_;(have hF:F.length<=64:=by simp at hc;omega);refine go ?_;refine .inr (ah.x4 aN (n:=F.length) (cP:=.i64) (d0:=.i64) (Q:=u 0) rfl rfl rfl rfl rfl ?_ ?_ (by show 8*_<=_;omega) auD λgP=>?_);show D.int _ _=_;simp;show D.int _ _=_;simp;refine go ?_;refine Y.ee (α:={i:Nat // i<=F.length/\∀j,(ad:j<F.length)->j<i->dS F[j].name=true}) (λx=>[(0,u v),(3,.box 3 bk 0),(6,.am gP),(25,.T .none 12 (F.map enc)),(26,u (F.map enc).length),(27,u x.1)]) (λx=>[(24,.row gP (eA x.1++List.replicate (F.length-x.1) (u 0)) 1 3),(3,.box bk [.T .none 12 (F.map enc)])]) (λx=>F.length-x.1) ⟨0,by omega,λj _ h=>absurd h (av_ _)⟩ [(24,24),(3,3)] ⟨an,rfl,a_⟩ ?_;rintro⟨i,hi,Gh⟩;dsimp only;refine go ?_;refine aI _ rfl ?_ ?_<;>intro hc;refine eY ?_;(have aG:i<F.length:=by simpa using hc);(have dh:(eA i).length=i:=by simp[eA]);refine vg ?_;refine⟨az F[i],λ_=>lx aG,?_⟩;refine go ?_;intro cG;refine go ?_;refine bq (yu aX _ (ky _ (auT aG))) ?_;refine aI _ rfl ?_ ?_<;>intro hc;refine go ?_;(have h1:AN F=false:=by rw[AN,List.all_eq_false];exact⟨F[i],auT aG,by simpa using hc⟩);(have eJ:jV v F=([],4):=by rw[jV,auN (by rw[AT];simp),auN auD,auO h1]);rw[eJ];exact⟨ap.nil,E,ak⟩;refine go ?_;(have akR:dS F[i].name=true:=by simpa using hc);refine go ?_;refine .inr (ah.eG aN 24 rfl rfl rfl rfl rfl rfl rfl auD (by simp[dh];omega) ?_);refine go ?_;refine .inr (ah.nl aN 24 (i:=i) auJ rfl rfl rfl (by simp[dh];omega) rfl ?_);refine go ?_;exact⟨⟨i+1,by omega,λj ad fq=>if e:j=i then by subst e;exact akR else Gh j ad auD⟩,[(24,24),(3,3)],by show _-(i+1)<_-i;omega,an,rfl,rfl,auP (λQ=>some (aJ.row gP Q 1 3)) (Oa aG _),rfl,a_⟩;refine go ?_;(have cr:i=F.length:=by simp at hc;omega);(have dQ:eA i++List.replicate (F.length-i) (u 0)=eA F.length:=by subst cr;simp);rw[dQ];(have hL:∀k∈F,dS k.name=true:=λk Z=>by obtain⟨j,ad,rfl⟩:=avm.1 Z;exact Gh j ad auD);(have X_:AN F=true:=by rw[AN,avz];exact hL);refine go ?_;refine .inr (ah.call rfl [.am gP,.fn (.func 254) [] [.box 2000 bk 0]] [(2001,24),(2000,3)] (ajs F hlen bk gP) rfl ⟨E,ap.fn trivial ⟨ap.box,ak⟩,ak⟩ ?_);rintro d aO ⟨rfl,L,hO,rfl⟩;refine rP ?_;refine Y.fc [(6,.am gP),(0,u v),(3,.box 3 bk 0)] [(24,.row gP (L.map encI) 1 3),(3,.box bk [.T .none 12 (F.map enc)])] [(24,24),(3,3)] ⟨an,rfl,a_⟩ ?_;refine Y.vp 24 6 rfl ?_;have Xc:=hO.len;refine go ?_;refine .inr (ah.x4 aN (n:=F.length) (cP:=.i64) (d0:=.i64) (Q:=.N []) rfl rfl rfl rfl rfl ?_ ?_ (by show 16*_<=_;omega) auD λdD=>?_);show D.int _ _=_;simp;show D.int _ _=_;simp;refine go ?_;refine .inr (ah.makeMap λl_=>?_);refine go ?_;refine Y.ee (α:={t:Nat // t<=L.length/\∀j,(ad:j+1<L.length)->j+1<t->(F.getD L[j] default).name≠(F.getD L[j+1] default).name}) (λx=>[(0,u v),(3,.box 3 bk 0),(6,.T .none 1 (L.map encI)),(48,.T .none 1 (L.map encI)),(49,u (L.map encI).length),(50,u x.1),(9,.am dD),(10,.am (.map (some l_)))]) (λx=>[(46,.row dD (pM F.length L (ta v F L) x.1) 1 9),(47,.set l_ (g5 v ((kI F L).take x.1))),(3,.box bk [.T .none 12 (F.map enc)])]) (λx=>L.length-x.1) ⟨0,by omega,λj _ h=>absurd h (av_ _)⟩ [(46,46),(47,47),(3,3)] ⟨an,rfl,rfl,auP (λQ=>some (aJ.row dD Q 1 9)) ajn.symm,rfl,a_⟩ ?_;rintro⟨t,ax,X'⟩;dsimp only;refine go ?_;refine aI _ rfl ?_ ?_<;>intro hc;refine eY ?_;(have lG:t<L.length:=by simpa using hc);have AU:L[t]<F.length:=hO.lt lG;(have wV:∀j,(ad:j<L.length)->(L.map encI)[j]?=some (.int .i64 (L[j]:Nat)):=λj ad=>by simp[encI,ad]);(have pg:∀j,j<F.length->(F.map enc)[j]?=some (az (F.getD j default)):=λj ad=>by rw[lx ad];simp[List.getD,ad]);(have lX:F.getD L[t] default=F[L[t]]:=by simp[List.getD,AU]);(have oZ:∀(h:0<t),F.getD (L.getD (t-1) 0) default=F.getD (L[t-1]' auD) default:=λh=>by simp[List.getD,show t-1<L.length by omega]);(have Pn:0<t->L.getD (t-1) 0<F.length:=λh=>by have:=hO.lt (t:=t-1) auD;simpa[List.getD,show t-1<L.length by omega]using this);refine gJ ?_;refine mS ?_;refine⟨u (L[t]:Nat),λ_=>wV t lG,?_⟩;refine En ?_;apply cj;apply g';refine hb ?_;refine hd ?_;refine⟨λh=>by simp at h;simp;omega,?_⟩;refine go ?_;refine⟨u ((L.getD (t-1) 0:Nat):Int),λh=>by(have h0:0<t:=by simpa using h);rw[w5 h0,wV (t-1) auD];simp[List.getD,show t-1<L.length by omega],?_⟩;refine hd ?_;refine⟨λh=>by have:=Pn (by simpa using h);rw[auS];omega,?_⟩;refine go ?_;refine⟨az (F.getD (L.getD (t-1) 0) default),λh=>pg _ (Pn (by simpa using h)),?_⟩;apply cj;refine hd ?_;refine nn ?_;refine hd ?_;refine⟨az F[L[t]],λh=>lx AU,?_⟩;refine go ?_;refine aI _ rfl ?_ ?_<;>intro hc;refine go ?_;(cases h0:decide ((0:Int)<t)with|false=>rw[h0]at hc;cases hc|true =>(have Ob:0<t:=by simpa using h0);rw[h0]at hc;have bx:((F.getD (L.getD (t-1) 0) default).name==F[L[t]].name)=true:=hc;rw[oZ Ob,<-lX,awm]at bx;have O:=ajl hO (s:=t-1) (t:=t) auD lG bx;(have eJ:jV v F=([],5):=by rw[jV,auN (by rw[AT];simp),auN auD,auN (by rw[X_];simp),auO O]);rw[eJ];exact⟨ap.nil,E,ak⟩);refine eY ?_;(have EB:∀j,(ad:j+1<L.length)->j+1<t+1->(F.getD L[j] default).name≠(F.getD L[j+1] default).name:=λj ad as5=>by by_cases e:j+1=t;subst e;intro h;(have h1:decide ((0:Int)<(j+1:Nat))=true:=by simp);rw[h1]at hc;have bx:((F.getD (L.getD (j+1-1) 0) default).name==F[L[j+1]].name)=false:=hc;rw[oZ auD,<-lX,avv]at bx;exact bx h;exact X' j ad auD);have yS:=ajq hO (v:=v) lG;have wG:=ajo (g:=ta v F L) lG AU;have Jz:=Xj hO;(have x1:g5 v ((kI F L).take (t+1))=ta v F L L[t]::g5 v ((kI F L).take t):=by rw[OF auD,yS,OP hO lG]);(have OE:(g5 v ((kI F L).take t)).length=t:=by rw[s_];simp;omega);have Gh:=hL F[L[t]] (auT AU);have JA:=lx AU;have hZ:=ajm (n:=F.length) (L:=L) (g:=ta v F L) (t:=t);generalize g5 v ((kI F L).take t)=gq at*;generalize pM F.length L (ta v F L) t=akS at*;clear wV oZ Pn pg hc;generalize sV:F[L[t]]=k at*;generalize pp:L[t]=eO at*;apply b1;refine k2 ?_;refine⟨az k,λ_=>JA,?_⟩;refine go ?_;refine aI _ rfl ?_ ?_<;>intro hc;apply eh;(have Po:v=0\/v=1:=by cases h0:(v==0)with|true=>exact .inl (by simpa using h0)|false=>rw[h0]at hc;exact .inr (by simpa using hc));have ky:=I4 Gh;obtain⟨l,aj,_,_,_,_⟩:=I_ Gh;have OD:=WS (B:=B) v k.name l (k.kind==0) auD aj;have Ak:=OC v k.name (k.kind==0);have mg:=CN v gq (fV v k.name (k.kind==0)).1 (fV v k.name (k.kind==0)).2 auD;(have Gi:ta v F L eO=ki v (fV v k.name (k.kind==0)).1 (fV v k.name (k.kind==0)).2 (s9 v gq (fV v k.name (k.kind==0)).1 (fV v k.name (k.kind==0)).2):=by rw[yS,o1,auO Po];rfl);generalize(fV v k.name (k.kind==0)).1=aY at*;generalize(fV v k.name (k.kind==0)).2=cn at*;generalize hK:s9 v gq aY cn=K at*;apply jH;refine k2 ?_;refine⟨az k,λ_=>JA,?_⟩;refine go ?_;refine bq (OD) ?_;intro qm;refine go ?_;refine bq (Jd v aY cn 0 auD auD auD) ?_;refine Y.ee (α:={j:Nat // j<=K}) (λx=>[(0,u v),(3,.box 3 bk 0),(6,.T .none 1 (L.map encI)),(48,.T .none 1 (L.map encI)),(49,u (L.map encI).length),(50,u t),(9,.am dD),(10,.am (.map (some l_))),(12,u (eO:Nat)),(13,.N (ki v aY cn x.1)),(14,.box 14 qm 0),(15,u ((x.1+1:Nat):Int))]) (λx=>[(46,.row dD akS 1 9),(47,.set l_ gq),(3,.box bk [.T .none 12 (F.map enc)]),(14,.box qm [.T .none 1 (dE aY),.T .none 1 (dE cn)])]) (λx=>K-x.1) ⟨0,by omega⟩ [(46,46),(47,47),(3,3),(14,14)] ⟨an,rfl,a_⟩ ?_;rintro⟨j,ad⟩;dsimp only;refine go ?_;refine .inr (ah.L_ 47 (em:=9) (eB:=4) rfl rfl auL rfl rfl rfl ?_);refine aI _ rfl ?_ ?_<;>intro hc;refine go ?_;have AK:ki v aY cn j∈gq:=avg hc;(have F1:j<K:=ayD);refine go ?_;refine bq (Jd v aY cn (j+1) auD auD auD) ?_;exact⟨⟨j+1,by omega⟩,[(46,46),(47,47),(3,3),(14,14)],by show K-(j+1)<K-j;omega,an,rfl,a_⟩;refine go ?_;have AK:ki v aY cn j∉gq:=ava hc;(have F1:j=K:=by rcases au6 j K with h|h;exact absurd (mg.2.2 j h) AK;omega);subst F1;refine go ?_;refine .inr (ah.Ej 47 (em:=9) (eB:=4) rfl rfl rfl rfl rfl rfl ?_);refine go ?_;refine .inr (ah.eG aN 46 rfl rfl rfl rfl rfl rfl rfl auD (by rw[hZ];omega) ?_);refine go ?_;refine .inr (ah.nl aN 46 (i:=eO) auJ rfl rfl rfl (by rw[hZ];omega) rfl ?_);refine go ?_;exact⟨⟨t+1,by omega,EB⟩,[(46,46),(47,47),(3,3)],by show _-(t+1)<_-t;omega,an,rfl,rfl,auP (λQ=>some (aJ.row dD Q 1 9)) (by rw[<-Gi];exact wG),rfl,auP (λQ=>some (aJ.set l_ Q)) (by dsimp only;rw[x1,Gi]),rfl,a_⟩;(have Po:¬(v=0\/v=1):=by rintro(rfl|rfl)<;>cases hc);(have Gi:ta v F L eO=k.name:=by rw[yS,o1,auN Po]);refine go ?_;refine .inr (ah.Ej 47 (em:=9) (eB:=4) rfl rfl rfl rfl rfl rfl ?_);refine go ?_;refine .inr (ah.eG aN 46 rfl rfl rfl rfl rfl rfl rfl auD (by rw[hZ];omega) ?_);refine go ?_;refine .inr (ah.nl aN 46 (i:=eO) auJ rfl rfl rfl (by rw[hZ];omega) rfl ?_);refine go ?_;exact⟨⟨t+1,by omega,EB⟩,[(46,46),(47,47),(3,3)],by show _-(t+1)<_-t;omega,an,rfl,rfl,auP (λQ=>some (aJ.row dD Q 1 9)) (by rw[<-Gi];exact wG),rfl,auP (λQ=>some (aJ.set l_ Q)) (by dsimp only;rw[x1,Gi]),rfl,a_⟩;refine vf ?_;(have FK:t=L.length:=by simp at hc;omega);have my:f3 (kI F L):=aji hO λj ad=>X' j ad auD;have pL:=ajk hO my;(have eJ:jV v F=(v1 v F,0):=by rw[jV,auN (by rw[AT];simp),auN auD,auN (by rw[X_];simp),auN (by simp[pL])]);(have FL:pM F.length L (ta v F L) t=aQ (v1 v F):=by rw[FK];exact ajp hO λj ad=>ajr hO my ad);rw[FL,eJ];refine Y.fc [(9,.am dD)] [(46,.row dD (aQ (v1 v F)) 1 9)] [(46,46)] ⟨an,rfl,a_⟩ ?_;exact ay4
end Go.bV.ct



namespace Go.bV.ct
open Go Go.Proofs
section
variable(aU:List U->List auM)(v:Int)
end
variable{B:World}
theorem akT(q:List auM):(ew q).length<=(kj q).length:=by cases q with|nil=>exact auW _|cons m r=>simp[ew,kj]
theorem Pp{n:U}{p:auM}(h:p∈dq n [] 1):p.length<=aB n:=by rw[F4]at h;obtain⟨q,I,rfl⟩:=au_.1 h;have:=OM q n I;have:=akT q;omega
end Go.bV.ct



namespace Go.bV.ct
open Go Go.Proofs
variable{r:Int}
theorem Pq(h:et r=true)(e:h8 r=r):0<=r/\r<128/\uu r=true:=by unfold h8 at e;split at e;omega;split at e;rename_i h1;simp[et]at h;exact⟨by omega,h1.1,h1.2⟩;subst e;decide
theorem Pr:∀{a:List Int},(∀r∈a,et r=true/\h8 r=r)->cy a=a.map λr=>UInt8.ofNat r.toNat
 |[],_=>by simp[cy]
 |r::l,h=>by obtain⟨h1,A⟩:=h r auY;obtain⟨aa,aF,_⟩:=Pq h1 A;rw[W0,Oo r aa aF,Pr λx J=>h x (auZ _ J)];rfl
theorem Ya{a:List Int}(h:∀r∈a,et r=true/\h8 r=r){m:Nat}(h1:1<=a.length)(A:a.length<=m)(hm:m<=64):oo (cy a) m=true:=by
 rw[Pr h,oo,uv];simp only[auS,List.all_map,auQ,avp,avz,Function.comp];refine⟨by omega,by omega,by omega,λr af=>?_⟩;obtain⟨aa,aF,a8⟩:=Pq (h r af).1 (h r af).2;rw[q_];have:((UInt8.ofNat r.toNat).toNat:Int)=r:=by simp;omega
 rw[this];exact a8
theorem Yb{a:List Int}(h:∀r∈a,et r=true/\h8 r=r){c:UInt8}(hc:q_ c=false):c∉cy a:=by
 rw[Pr h];intro hm;obtain⟨r,af,e⟩:=au_.1 hm;obtain⟨aa,aF,a8⟩:=Pq (h r af).1 (h r af).2;rw[<-e,q_]at hc;have:((UInt8.ofNat r.toNat).toNat:Int)=r:=by simp;omega
 rw[this,a8]at hc;cases hc
theorem Ps(s:auM)(c:UInt8)(j:Nat):Lib.occAt s [c] j=(s[j]? == some c):=by unfold Lib.occAt;induction s generalizing j with|nil=>simp|cons b l aV =>(cases j with|zero=>simp;exact axp.2 ⟨λh=>by simp at h⊢;exact h.symm,λh=>by simp at h⊢;exact h.symm⟩|succ j=>simpa using aV j)
variable{bL bY:auM}
theorem akU(h:(46:UInt8)∉bL):Lib.index (bL++46::bY) [46]=bL.length:=by refine Lib.index_first auF ?_ λj ad=>?_;rw[Ps];simp;rw[Ps,au3 ad,auR ad];simp only[avv,ne_eq,avi];intro e;exact h (e ▸ auT ad)
theorem akV(h:(46:UInt8)∉bL):Lib.index bL [46]=-1:=by refine Lib.index_none λj ad=>?_;rw[Ps];rcases au6 j bL.length with aj|aj;rw[auR aj];simp only[avv,ne_eq,avi];intro e;exact h (e ▸ auT aj);rw[au0 aj];rfl
theorem akW(h:(46:UInt8)∉bL):Lib.cut (bL++46::bY) [46]=(bL,bY,true):=by rw[Lib.cut,akU h,auO auD];simp
theorem akX(h:(46:UInt8)∉bL):Lib.cut bL [46]=(bL,[],false):=by rw[Lib.cut,akV h,auN auG]
theorem Yc(c:UInt8):∀s:auM,0<=Lib.indexByte s c↔c∈s
 |[]=>by simp[Lib.indexByte]
 |b::l=>by have aV:=Yc c l;have aS:=Lib.indexByte_ge l c;unfold Lib.indexByte;split;rename_i h;(have:b=c:=by simpa using h);subst this;simp;rename_i h;have aZ:¬c=b:=λe=>h (by rw[e];simp);split;rename_i h1;(have mX:Lib.indexByte l c=-1:=by simpa using h1);rw[mX]at aV;simp only[au8,aZ,false_or,<-aV];rename_i h1;(have mX:¬Lib.indexByte l c=-1:=by simpa using h1);simp only[au8,aZ,false_or,<-aV];omega
theorem Yd(s:auM):yZ s=decide ((46:UInt8)∈s):=by rw[yZ];exact decide_eq_decide.2 (Yc 46 s)
structure Ye (m:auM) (bc:Bool):Prop where
 valid:v6 m bc=true
 qC:(kk m bc).2=0/\Jp (kk m bc).1 bc=(m,0)
theorem JB(a b:auM):Lib.hasSuffix (a++b) b=true:=by rw[Lib.hasSuffix,aw'];exact⟨a,rfl⟩
theorem Yf(a b:auM):F9 (a++b) b=(a,true):=by rw[F9,auO (JB a b)];simp
variable{bc:Bool}
theorem akY{m:auM}(m8:oo bL 8=true)(Pt:(46:UInt8)∉bL)(akZ:(46:UInt8)∉bY)(h:(bY=[]/\m=bL)\/(bY≠[]/\bc=false/\oo bY 3=true/\m=bL++46::bY)):Ye m bc:=by(have X:v6 m bc=true:=by rcases h with⟨_,rfl⟩|⟨_,rfl,aa,rfl⟩;rw[v6,akX Pt];simpa using m8;rw[v6,akW Pt];simp[m8,aa]);refine⟨X,?_⟩;cases bc with|true =>(have e:kk m true=(m,0):=by rw[kk,auO X,auO rfl]);refine⟨by rw[e],?_⟩;rw[e,Jp,auO rfl,F_,e,auO ⟨rfl,rfl⟩]|false =>rcases h with⟨gi,rfl⟩|⟨gi,_,aa,hm⟩;(have O:yZ m=false:=by rw[Yd];simpa using Pt);(have e:kk m false=(m++[46,59,49],0):=by rw[kk,auO X,auN auG,auN (by rw[O];decide)]);refine⟨by rw[e],?_⟩;(have bZ:m++[46,59,49]=(m++[46])++[59,49]:=by simp);(have b0:Lib.trimSuffix (m++[46]) [46]=m:=by rw[Lib.trimSuffix,auO (JB _ _)];simp);(have kx:F9 (m++[46,59,49]) [59,49]=(m++[46],true):=by rw[bZ];exact Yf _ _);rw[e,Jp,auN auG,kx,auO rfl,b0,F_,e,auO ⟨rfl,rfl⟩];(have O:yZ m=true:=by rw[Yd,hm];simp);(have e:kk m false=(m++[59,49],0):=by rw[kk,auO X,auN auG,auO O]);refine⟨by rw[e],?_⟩;have kx:=Yf m [59,49];(have b0:Lib.trimSuffix m [46]=m:=by rw[Lib.trimSuffix,auN];intro hs;rw[Lib.hasSuffix,aw']at hs;obtain⟨x,J⟩:=hs;(have h1:m.getLast?=some 46:=by rw[<-J];simp);rw[hm,List.getLast?_append,List.getLast?_cons]at h1;obtain⟨y,hy⟩:=List.exists_mem_of_ne_nil _ gi;cases aj:bY.getLast? with|none=>rw[List.getLast?_eq_none_iff]at aj;exact gi aj|some Q =>rw[aj]at h1;simp at h1;exact akZ (h1 ▸ List.mem_of_getLast? aj));rw[e,Jp,auN auG,kx,auO rfl,b0,F_,e,auO ⟨rfl,rfl⟩]
theorem ak0{v:Int}(X:v=0\/v=1)(gq:List auM)(k:U)(gk:gq.length<=64):∃j,j<100/\o1 v gq k=ki v (fV v k.name (k.kind==0)).1 (fV v k.name (k.kind==0)).2 j:=by exact⟨s9 v gq (fV v k.name (k.kind==0)).1 (fV v k.name (k.kind==0)).2,(CN v gq _ _ gk).1,by rw[o1,auO X];rfl⟩
end Go.bV.ct

namespace Go.bV.ct
open Go Go.Proofs
structure eE where
 path:auM
 id:auM
 bT:Int
 cv:Int
 C4:Int
 jQ:Bool
 deriving DecidableEq
instance:Inhabited eE:=⟨⟨[],[],0,0,0,false⟩⟩
structure gf where
 path:auM
 id:auM
 eW:Int
 bc:Int
 gb:Bool
 C5:Bool
 AV:Bool
 deriving DecidableEq
instance:Inhabited gf:=⟨⟨[],[],0,0,false,false,false⟩⟩
def gD(d:eE):D:=.agg [.N d.path,.N d.id,u d.bT,u d.cv,u d.C4,.bool d.jQ]
def fo(e:gf):D:=.agg [.N e.path,.N e.id,u e.eW,u e.bc,.bool e.gb,.bool e.C5,.bool e.AV]
structure aK where
 n:U
 path:auM
 id:auM
 file:auM
 iso:Bool
 rock:Bool
 lv:Int
 si:Nat
 ab:Nat
 fi:Nat
 di:Nat
 lev:Int
 mv:Bool
 mno:Nat
instance:Inhabited aK:=⟨⟨default,[],[],[],false,false,0,0,0,0,0,0,false,0⟩⟩
def aK.c_(s:aK):Bool:=s.n.kind==0
structure ex where
 dv:Nat
 uF:Nat
 aU:Nat
def ex.add(c:ex)(s:aK):ex:=⟨c.dv+1,if s.c_ then c.uF+1 else c.uF,if s.mv then c.aU+1 else c.aU⟩
def ex.iQ(c:ex)(l:List aK):ex:=l.foldl ex.add c
theorem ex.ak1(c:ex):c.iQ []=c:=rfl
theorem ex.JC(c:ex)(s:aK)(l:List aK):c.iQ (s::l)=(c.add s).iQ l:=rfl
theorem ex.ak2(c:ex)(a b:List aK):c.iQ (a++b)=(c.iQ a).iQ b:=by simp[ex.iQ]
def bX(x:aK)(k:U)(m:auM)(c:ex):aK :=
 {n:=k,path:=below x.path k.name (x.lv+1),id:=(kk m (k.kind==0)).1,file:=(kk m false).1,iso:=x.iso&&kb 0 k (x.lv+1),rock:=x.rock&&kb 2 k (x.lv+1),lv:=x.lv+1,si:=c.dv,ab:=x.si,fi:=x.di,di:=c.uF,lev:=if k.kind==0 then(if x.lev+1=9 then 3 else x.lev+1)else 0,mv:=k.kind==0&&x.lev+1==9,mno:=c.aU+1}
def aK.any(s:aK):Bool:=s.iso||s.rock
mutual
def fA:U->aK->ex->List aK
 |.mk _ _ _ _ _ _ _ _ _ _ ae _,x,c=>e9 ae (cd 0 ae) x c
def e9:List U->List auM->aK->ex->List aK
 |k::r,m::cm,x,c=>if(bX x k m c).any then bX x k m c::(fA k (bX x k m c) (c.add (bX x k m c))++e9 r cm x ((c.add (bX x k m c)).iQ (fA k (bX x k m c) (c.add (bX x k m c)))))else e9 r cm x c
 |_,_,_,_=>[]
end
theorem Yg(n:U)(x:aK)(c:ex):fA n x c=e9 n.F (cd 0 n.F) x c:=by cases n;simp only[fA]
def cT(bi:Bool)(n:U):aK:=⟨n,[],[],[],true,bi,1,0,0,0,0,1,false,0⟩
def Gj(bi:Bool)(n:U):List aK:=cT bi n::fA n (cT bi n) ⟨1,1,0⟩
def jg(k:Nat):auM:=if k=0 then[82,82,95,77,79,86,69,68]else[82,82,95,77,79,86]++Lib.decDigits k
theorem ak3:∀j,j<100->∀k,k<100->jg j=jg k->j=k:=by decide +kernel
def lN(gq:List auM):Nat:=((List.range 100).find? λk=>decide (jg k∉gq)).getD 0
variable{gq:List auM}
theorem Pu(au:gq.length<=64):lN gq<100/\jg (lN gq)∉gq/\∀j,j<lN gq->jg j∈gq:=by unfold lN;cases h:(List.range 100).find? λk=>decide (jg k∉gq)with|none =>exfalso;rw[awn]at h;(have ar:((List.range 100).map jg).Nodup:=by rw[avD,awk];refine axK (R:=(·≠·)) ?_ (avD.1 List.nodup_range);intro a b ha G nW aq;simp only[awa]at ha G;exact nW (ak3 a ha b G aq));(have FZ:(List.range 100).map jg ⊆ gq:=by intro x J;obtain⟨i,hi,rfl⟩:=au_.1 J;have:=h i hi;simpa using this);have:=ar.length_le_of_subset FZ;simp at this;omega|some k =>obtain⟨h1,A,aa⟩:=axd.1 h;simp only[avG];exact⟨by simpa using A,by simpa using h1,λj ad=>by simpa using aa j ad⟩
def h'(s i:Nat):Nat:=if i=0 then 0 else i+s
def aK.jz(s:Nat)(x:aK):eE:=⟨x.path,if x.mv then 68::Lib.decDigits x.mno else x.id,x.lev,if x.mv then 1 else(h' s x.fi:Nat),(h' s x.fi:Nat),x.mv⟩
def aK.kM(s:Nat)(x:aK):gf:=⟨x.path,if x.mv then x.file else x.id,(h' s x.fi:Nat),if x.c_&&!x.mv then(h' s x.di:Nat)else -1,!x.iso,x.rock,x.mv⟩
def aK.ou(s:Nat)(x:aK):gf:=⟨x.path,68::Lib.decDigits x.mno,1,(h' s x.di:Nat),true,true,false⟩
def y4:eE:=⟨[],[0],1,0,0,false⟩
def bM(l:List aK):List aK:=l.filter aK.c_
def ef(l:List aK):List aK:=l.filter aK.mv
def eF(l:List aK):Nat:=if(ef l).length=0 then 0 else 1
def ko(bs:auM)(l:List aK):List eE:=y4::((if eF l=0 then[]else[⟨[47],bs,2,0,0,false⟩])++(bM l).map (aK.jz (eF l)))
def lf(s:Nat)(l:List aK)(i:Nat):List gf:=(l.filter λx=>x.fi==i).map (aK.kM s)
def qr(bs:auM)(l:List aK):List gf :=
 (if eF l=0 then[]else[⟨[47],bs,0,1,true,false,false⟩])++lf (eF l) l 0++(ef l).map (aK.ou (eF l))++((List.range (bM l).length).flatMap λi=>lf (eF l) l (i+1))
def lg(bi:Bool)(n:U):List eE×List gf×Int :=
 if valid n=true then(ko (jg (lN (cd 0 n.F))) (fA n (cT bi n) ⟨1,1,0⟩),qr (jg (lN (cd 0 n.F))) (fA n (cT bi n) ⟨1,1,0⟩),0)else([],[],1)
end Go.bV.ct
