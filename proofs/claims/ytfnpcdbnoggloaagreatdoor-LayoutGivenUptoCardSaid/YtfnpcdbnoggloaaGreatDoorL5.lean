/- Contracts of the program's functions, part 5. No conditions of its own. -/
import Derived.Test.YtfnpcdbnoggloaaGreatDoorL4
import Derived.Lib.MapLaws
import Derived.Lib.TrimUEq
set_option linter.unnecessarySimpa false
set_option linter.unusedSimpArgs false
set_option linter.unusedVariables false
set_option maxRecDepth 100000
set_option maxHeartbeats 16000000
namespace Go.bS.cj
open Go Go.Proofs
variable{B:World}
theorem agw(s p:as8):aU B 281 [.O s,.O p] (.bo [.O (Lib.trimPrefix s p),.bool (Lib.hasPrefix s p)]) :=
 .zH (js Tryz.func281 rfl as3) rfl λw F=>(Tryz.strings_CutPrefix ⟨⟨s⟩⟩ ⟨⟨p⟩⟩ w).mono λe w' ⟨ao,cH⟩=>by
  subst cH
  exact⟨_,ao,λC=>.bo _ [_,_] rfl λi d v N W=>(by
   match i with
   |0=>cases N;cases W;exact .O _
   |1=>cases N;cases W;exact .bool _
   |i+2=>simp at N),.refl _ _⟩
theorem agx(tg:iu)(l:List as8)(sep:as8)(h1:l.length<=1000000)(A:(Lib.join l sep).length<=140737488355328):aU B 232 [.Q tg 1 (aN l),.O sep] (.O (Lib.join l sep)):=by refine⟨js Tryz.func232 rfl as3,λw C args F ae=>?_⟩;(obtain⟨a,b,rfl⟩:∃a b,args=[a,b]:=by have:=ae.1;match args,this with|[a,b],_=>exact⟨a,b,rfl⟩);have agy:=(ae.tail.head).kM;subst agy;rcases ae.head.kl with⟨I,⟨dF,rfl⟩,_⟩|⟨dX,o,cap,g,rfl,_,nS,hcap,l',Y,df,ga,d9,eQ⟩;have sd:l=[]:=List.map_eq_nil_iff.1 I;subst sd;(exact(Tryz.strings_Join_none dF 0 ⟨⟨sep⟩⟩ w).mono λe w' ⟨ao,cH⟩=>by subst cH;exact⟨_,C,ao,.O [],.refl _ _ _⟩);(have hlen:(aN l).length=(l.map λx=>(⟨⟨x⟩⟩:ByteArray)).length:=by simp[aN]);(have D':(l.map λx=>(⟨⟨x⟩⟩:ByteArray)).map (·.data.toList)=l:=by rw[avl];exact List.map_id' l);(have BQ:b1 (aN l)=aN l:=by rw[rL];intro x I;exact ax9);rw[hlen]at hcap⊢;refine(Tryz.strings_Join dX o cap (l.map λx=>⟨⟨x⟩⟩) ⟨⟨sep⟩⟩ w (λj x ad=>?_) nS as0 hcap (by rw[D'];exact A)).mono λe w' ⟨ao,cH⟩=>?_;rw[atA]at ad;(cases I:l[j]? with|none=>rw[I]at ad;cases ad|some y =>rw[I]at ad;cases ad;(have N:(b1 (aN l))[j]?=some (.O y):=by rw[BQ,aN,atA,I];rfl);rw[ga j _ N,(eQ j _ N).kM]);rw[D']at ao;exact⟨_,C,ao,.O _,da.below cH⟩
def IR(k:Int):Int:=if k=0 then 4 else if k=1 then 8 else 10
theorem agz(k:Int)(h0:0<=k)(h1:k<=2):aU B 234 [u k] (u (IR k)):=by obtain⟨i3,sZ,qq,_⟩:=(aM.get (t:=3) rfl).1.qJ;refine fn Tryz.func234 Tryz.ntmps234 λU=>?_;refine go ?_;refine dN (af.acA (q:=.i64) (gT:=4) (a2:=8) (a3:=10) as4 sZ qq (λw=>by rfl) rfl rfl rfl) ?_;refine dN (af.ado (d:=u (IR k)) (n:=3) as4 sZ qq as4 rfl rfl h0 asZ (by(have:k=0\/k=1\/k=2:=by omega);rcases this with rfl|rfl|rfl<;>rfl)) ?_;exact sQ
def hg(l:List Int):as8:=l.flatMap Ct
theorem yG(l:List Int):(hg l).length=8*l.length:=by induction l with|nil=>rfl|cons x l aY=>simp only[hg,auc,atf,IO,ath]at*;omega
variable{i:Nat}
theorem agA{l:List Int}(h:i<l.length):hg (l.take (i+1))=hg (l.take i)++Ct l[i]:=by rw[hg,atc h,au1,awk];rfl
theorem Fw(tg:iu)(l:List Int)(h1:0<l.length)(A:l.length<=1000000)(h:∀x∈l,0<=x/\x<4294967296):aU B 233 [.Q tg 1 (l.map (D.int .i64))] (.O (hg l)):=by refine fn Tryz.func233 Tryz.ntmps233 λU=>?_;refine go ?_;refine .inr (af.SO aM rfl rfl λb=>?_);(conv=>whnf);refine X.SQ 3 (du:=[.al (.pointer none),.al (.slice none 0 0)]) rfl ⟨E,aq.qR,ai⟩ ?_;refine X.p2 6001 1 5 ?_;refine go ?_;refine fZ (λx:Nat×Value×Value=>x.1<=l.length/\(x.2.1=.pointer none\/x.2.1=qp b)) [3,8,9] [] (λx=>[(10,u x.1)]) (λx=>[(3,.kN b 164 [.al x.2.1,.al x.2.2]),(6001,.row x.2.2 (nE (hg (l.take x.1))) 1 5)]) (λx=>l.length-x.1) (0,.pointer none,.slice none 0 0) ⟨atq _,.inl rfl⟩ [(3,3),(6001,6001)] ?_;rintro⟨i,p,v⟩ ⟨hi,aw⟩;dsimp only at hi aw⊢;refine go ?_;refine cb (t:=decide ((i:Int)<(l.map (D.int .i64)).length)) ?_ ?_<;>intro hc;(have cz:i<l.length:=by simpa using hc);have hm:=h l[i] (ate cz);refine go ?_;refine bp (age l[i] hm.1 hm.2) ?_;refine sR [(6000,3),(6001,6001)] (VK b p v (hg (l.take i)) (Ct l[i]) aw (by rw[IO,yG,atv];omega)) λc' _=>?_;refine eK (i+1,qp b,c') [(3,3),(6001,6001)] ⟨cz,.inr rfl⟩ (by dsimp only;omega) ⟨cP,rfl,?_⟩;rw[agA cz];exact cP;(have cz:i=l.length:=by simp at hc;omega);subst cz;rw[ati];refine go ?_;refine mn [(6000,3),(6001,6001)] (VL b p v (hg l) (by rw[yG];omega) (by rw[yG];omega)) ?_;exact sQ
def qr(c:UInt8)(aX:as8):as8:=c::UInt8.ofNat aX.length::aX
theorem IS(c:UInt8)(aX:as8)(b:Nat)(p v:Value)(xs:as8)(aw:p=.pointer none\/p=qp b)(ax:aX.length<=255)(aj:xs.length<=10000000): cZ B 279 [.int .u8 c.toNat,.O aX,.box 6000 b 0] (aK (yF b p v xs)) λd aO=>∃c',True/\d=.bo []/\aO=aK (yF b (qp b) c' (xs++qr c aX)):=by(have e:(D.Q .dR 1 [.int .u8 c.toNat,.int .u8 (aX.length:Nat)])=.Q .dR 1 (nE [c,UInt8.ofNat aX.length]):=by(have:((UInt8.ofNat aX.length).toNat:Nat)=aX.length:=by simp;omega);simp only[nE,atG,auT,this]);refine z7 Tryz.func279 Tryz.ntmps279 λU=>?_;refine go ?_;refine sR [(6000,6000),(6001,6001)] (agv b p v .dR xs [c,UInt8.ofNat aX.length] aw as1 as0) λig _=>?_;refine sR [(6000,6000),(6001,6001)] (VK b (qp b) ig (xs++[c,UInt8.ofNat aX.length]) aX (.inr rfl) as0) λv2 _=>?_;exact⟨.bo [],ai,v2,ai,rfl,rfl,by rw[atL];rfl,ai⟩
def nb(p:as8):as8:=if p=[]then[]else if p=[46]then qr 2 []else if p=[46,46]then qr 4 []else qr 0 p
def vO(t:as8):as8:=(if Lib.hasPrefix t [47]=true then qr 8 []else[])++(cR 47 [] (Lib.trimPrefix t [47])).flatMap nb
theorem VM(p:as8):(nb p).length<=p.length+2:=by
 unfold nb;repeat' split
 all_goals simp[qr]
theorem VN{c:UInt8}:∀(s p:as8),p≠[]->∃x r,cR c p s=x::r/\x≠[]
 |[],p,h=>⟨p,[],rfl,h⟩
 |b::r,p,h=>by rw[cR];split;exact⟨p,_,rfl,h⟩;exact VN r (p++[b]) as1
theorem agB{p:as8}(h:p≠[]):nb p≠[]:=by unfold nb;rw[as9 h];split;simp[qr];split<;>simp[qr]
theorem agC(t:as8)(h:t≠[]):0<(vO t).length:=by rw[auq];unfold vO;by_cases aw:Lib.hasPrefix t [47]=true;rw[as_ aw];simp[qr];rw[as9 aw,auw];cases t with|nil=>exact absurd rfl h|cons b r =>have F:b≠47:=λe=>aw (by subst e;simp[Lib.hasPrefix,List.isPrefixOf]);(have au:Lib.trimPrefix (b::r) [47]=b::r:=by rw[Iq,gE,as9 F]);rw[au,cR,as9 F];obtain⟨x,q,G,I⟩:=VN (c:=47) r ([]++[b]) as1;rw[G,auc];exact λe=>agB I (awl.1 e).1
theorem agD(aW:dc B)(t:as8)(au:k0 t=true):aU B 235 [.O t] (.bo [.O (vO t),u 0]):=by
 have a6:=agC t (by rintro rfl;cases au)
 have iZ : t.length<=128 := by unfold k0 at au;split at au;· cases au
                               omega
 refine fn Tryz.func235 Tryz.ntmps235 λU=>?_;refine go ?_;refine bp (Is aW t asZ) ?_;refine B0 (t:=!k0 t) (by rw[au];rfl) ?_;refine .inr (af.SO aM rfl rfl λb=>?_);(conv=>whnf);refine X.SQ 4 (du:=[.al (.pointer none),.al (.slice none 0 0)]) rfl ⟨E,aq.qR,ai⟩ ?_;refine X.p2 6001 1 5 ?_;refine go ?_;refine bp (agw t [47]) ?_;generalize lP:(if Lib.hasPrefix t [47]=true then qr 8 []else[])=pre;have dj:pre.length<=2:=by rw[<-lP];split<;>simp[qr]
 have agE:(Lib.trimPrefix t [47]).length<=128:=by rw[Iq];exact auC (Ir t) iZ
 refine m6 (λx:Value×Value=>x.1=.pointer none\/x.1=qp b) [4,5,6] [] (λ_=>[]) (λx=>[(4,.kN b 164 [.al x.1,.al x.2]),(6001,.row x.2 (nE pre) 1 5)]) ?_ ?_
 ·refine g_ (t:=Lib.hasPrefix t [47]) (λhc=>?_) (λhc=>?_)
  ·rw[as_ hc]at lP;refine sR [(6000,4),(6001,6001)] (IS 8 [] b (.pointer none) (.slice none 0 0) [] (.inl rfl) as1 as1) λc' _=>?_;subst lP;exact gn (qp b,c') [(4,4),(6001,6001)] (.inr rfl)
  rw[as9 (by simp[hc])]at lP;subst lP;exact gn (.pointer none,.slice none 0 0) [(4,4),(6001,6001)] (.inl rfl)
 rintro⟨p',v0⟩ na;dsimp only at na⊢;refine go ?_;refine bp (Ip aW (Lib.trimPrefix t [47]) 47 asZ) ?_;have eS:=s1 (c:=47) (Lib.trimPrefix t [47]) [];have n':vO t=pre++(cR 47 [] (Lib.trimPrefix t [47])).flatMap nb:=by rw[<-lP];rfl
 generalize cR 47 [] (Lib.trimPrefix t [47])=bT at*;have q8:bT.length<=129:=asZ
 have vP:∀x∈bT,x.length<=128:=λx I=>by have:=eS.2 x I;simp at this;omega
 have dm:∀n,((bT.take n).flatMap nb).length<=130*n:=λn=>by
  induction n with
  |zero=>simp
  |succ n aY =>
   rcases ats n bT.length with h|h
   ·rw[atc h,au1,atf,awk];have h1:=VM bT[n];have A:=vP _ (ate h);omega
   rw[atC asZ]at aY⊢;omega
 refine fZ (λx:Nat×Value×Value=>x.1<=bT.length/\(x.2.1=.pointer none\/x.2.1=qp b)) [4,5,23,24] [] (λx=>[(25,u x.1)]) (λx=>[(4,.kN b 164 [.al x.2.1,.al x.2.2]),(6001,.row x.2.2 (nE (pre++(bT.take x.1).flatMap nb)) 1 5)]) (λx=>bT.length-x.1) (0,p',v0) ⟨atq _,na⟩ [(4,4),(6001,6001)] ?_ (h1:=⟨cP,rfl,by simp only[avu,List.flatMap_nil,aua];exact cP⟩);rintro⟨i,p,v⟩ ⟨hi,aw⟩;dsimp only at hi aw⊢;refine go ?_;refine cb (t:=decide ((i:Int)<(aN bT).length)) ?_ ?_<;>intro hc
 ·have cz:i<bT.length:=by simp[aN]at hc;omega
  have hm:=vP _ (ate cz);have kX:=dm i;have cX:(bT.take (i+1)).flatMap nb=(bT.take i).flatMap nb++nb bT[i]:=by rw[atc cz,au1,awk]
  have hL:(pre++(bT.take i).flatMap nb).length<=1000000:=by rw[atf];omega
  refine go ?_;refine bD (.O bT[i]) (zZ rfl cz) ?_;refine g_ (t:=bT[i]==[]) (λhc=>?_) (λhc=>?_)
  ·have hd:bT[i]=[]:=by simpa using hc
   refine eK (i+1,p,v) [(4,4),(6001,6001)] ⟨cz,aw⟩ (by dsimp only;omega) ⟨cP,rfl,?_⟩;rw[cX,show nb bT[i]=[]from as_ hd,aua];exact cP
  have hd:bT[i]≠[]:=by simpa using hc
  refine g_ (t:=bT[i]==[46]) (λhc=>?_) (λhc=>?_)
  ·have mx:bT[i]=[46]:=by simpa using hc
   refine sR [(6000,4),(6001,6001)] (IS 2 [] b p v (pre++(bT.take i).flatMap nb) aw as1 asZ) λc' _=>?_;refine eK (i+1,qp b,c') [(4,4),(6001,6001)] ⟨cz,.inr rfl⟩ (by dsimp only;omega) ⟨cP,rfl,?_⟩;rw[cX,show nb bT[i]=qr 2 []from(as9 hd).trans (as_ mx),<-atL];exact cP
  have mx:bT[i]≠[46]:=by simpa using hc
  refine g_ (t:=bT[i]==[46,46]) (λhc=>?_) (λhc=>?_)
  ·have pw:bT[i]=[46,46]:=by simpa using hc
   refine sR [(6000,4),(6001,6001)] (IS 4 [] b p v (pre++(bT.take i).flatMap nb) aw as1 asZ) λc' _=>?_;refine eK (i+1,qp b,c') [(4,4),(6001,6001)] ⟨cz,.inr rfl⟩ (by dsimp only;omega) ⟨cP,rfl,?_⟩;rw[cX,show nb bT[i]=qr 4 []from(as9 hd).trans ((as9 mx).trans (as_ pw)),<-atL];exact cP
  have pw:bT[i]≠[46,46]:=by simpa using hc
  refine sR [(6000,4),(6001,6001)] (IS 0 bT[i] b p v (pre++(bT.take i).flatMap nb) aw asZ asZ) λc' _=>?_;refine eK (i+1,qp b,c') [(4,4),(6001,6001)] ⟨cz,.inr rfl⟩ (by dsimp only;omega) ⟨cP,rfl,?_⟩;rw[cX,show nb bT[i]=qr 0 bT[i]from(as9 hd).trans ((as9 mx).trans (as9 pw)),<-atL];exact cP
 have cz:i=bT.length:=by simp[aN]at hc;omega
 subst cz;rw[ati,<-n'];refine go ?_;refine mn [(6000,4),(6001,6001)] (VL b p v (vO t) (by rw[n',atf];have:=dm bT.length;rw[ati]at this;omega) a6) ?_;exact ar
theorem VO(t:as8)(au:k0 t=true):(vO t).length<=20000:=by
 have iZ : t.length<=128 := by unfold k0 at au;split at au;· cases au
                               omega
 have agE:(Lib.trimPrefix t [47]).length<=128:=by rw[Iq];exact auC (Ir t) iZ
 have eS:=s1 (c:=47) (Lib.trimPrefix t [47]) []
 have dm:∀(bT:List as8),(∀x∈bT,x.length<=128)->(bT.flatMap nb).length<=130*bT.length:=λbT=>by
  induction bT with
  |nil=>simp
  |cons x r aY =>
   intro I;have h1:=aY λy hy=>I y (.tail _ hy);have A:=VM x;have Z:=I x (.head _);simp only[auc,atf,ath];omega
 have:=dm _ (λx I=>by have:=eS.2 x I;simp at this;omega);unfold vO;rw[atf];have fX:(qr 8 []).length=2:=rfl;split
 ·omega
 rw[atD];omega
def yH(n:Int):Int:=(33+n+1).tdiv 2*2
def NU(n:Int):Int:=(n+1).tdiv 2*2
def IT(i ak:Int):Bool:=bif (bif (bif (bif decide (i<1)then true else decide (254<i))then true else decide (ak<0))then true else decide (254<ak))then true else ak.tmod 2 !=0
def vQ(i ak:Int):Int:=if IT i ak=true then 0 else if yH i+ak<=254 then yH i+ak else 0
theorem agF(n:Int)(h0:0<=n)(h1:n<1000000000000):aU B 242 [u n] (u (yH n)):=by refine bA Tryz.func242 Tryz.ntmps242 λU=>?_;apply b2;apply b2;refine vg ?_;refine⟨λ_=>by omega,?_⟩;refine go ?_;have G:(33+n+1).tdiv 2=(33+n+1)/2:=atp asZ;refine go ?_;exact E
theorem agG(n:Int)(h0:0<=n)(h1:n<1000000000000):aU B 250 [u n] (u (NU n)):=by refine bA Tryz.func250 Tryz.ntmps250 λU=>?_;apply b2;apply b2;refine lb ?_;refine⟨λ_=>by omega,?_⟩;refine go ?_;have G:(n+1).tdiv 2=(n+1)/2:=atp asZ;refine go ?_;exact E
theorem VP(n:Int)(h0:0<=n)(h1:n<1000000000000):aU B 171 [u n] (u (j9 n)):=by refine bA Tryz.func171 Tryz.ntmps171 λU=>?_;exact awX
theorem agH{i ak:Int}(h:IT i ak=false):1<=i/\i<=254/\0<=ak/\ak<=254:=by revert h;unfold IT;cases h1:decide (i<1)<;>cases A:decide (254<i)<;>cases Z:decide (ak<0)<;>cases aD:decide (254<ak)<;>simp at h1 A Z aD⊢<;>omega
theorem agI{i:Int}(h0:0<=i)(h1:i<=1000):33<=yH i/\yH i<=1100:=by unfold yH;rw[atp asZ];omega
theorem VQ(i ak:Int):aU B 174 [u i,u ak] (u (vQ i ak)):=by refine bA Tryz.func174 Tryz.ntmps174 λU=>?_;apply b2;refine f' ?_;refine ie ?_;refine ie ?_;refine ie ?_;refine mY ?_;refine⟨λh=>by omega,?_⟩;refine go ?_;refine aJ (IT i ak) rfl ?_ ?_<;>intro hc;refine go ?_;rw[vQ,as_ hc];exact E;refine go ?_;obtain⟨Aw,qW,aq8,aq9⟩:=agH hc;have aw:=agI (i:=i) asZ asZ;rw[vQ,as9 (by rw[hc];decide)];refine go ?_;refine bp (agF i asZ asZ) ?_;refine aJ _ rfl ?_ ?_<;>intro hc;refine go ?_;rw[as_ (by simpa using hc)];exact E;refine go ?_;rw[as9 (by simpa using hc)];exact E
theorem agJ(b7:Nat):aU B 229 [.fn (.func b7) [] []] (.Q .none 3 []):=by refine bA Tryz.func229 Tryz.ntmps229 λU=>?_;refine go ?_;exact aq.nil
def uo(n:Int):Bool:=bif (bif decide (n<34)then true else decide (254<n))then true else n.tmod 2 !=0
def tb(oU n:Int):Int:=if 2048-oU.tmod 2048<n then oU+(2048-oU.tmod 2048)else oU
def IU(q:List Int×Int)(n:Int):List Int×Int:=(q.1++[tb q.2 n],tb q.2 n+n)
def oj(l:List Int):List Int×Int:=l.foldl IU ([],0)
def sf(l:List Int):List Int×Int×Bool:=if l.any uo=true then([],0,false)else((oj l).1,(oj l).2,true)
theorem VR{l:List Int}(h:i<l.length):oj (l.take (i+1))=IU (oj (l.take i)) l[i]:=by rw[oj,oj,atc h,auf];rfl
theorem VS(a n:Int)(h0:0<=a)(ax:n<=254):a<=tb a n/\tb a n<=a+2048:=by unfold tb;rw[aur h0];split<;>omega
theorem Fx{n:Int}(h:uo n=false):34<=n/\n<=254:=by revert h;unfold uo;cases h1:decide (n<34)<;>cases A:decide (254<n)<;>simp at h1 A⊢<;>omega
theorem NV{l:List Int}(aj:∀j (ad:j<l.length),uo l[j]=false):∀k,k<=l.length->(oj (l.take k)).1.length=k/\0<=(oj (l.take k)).2/\(oj (l.take k)).2<=2302*(k:Int)
 |0,_=>by simp[oj]
 |k+1,Y=>by(have fD:k<l.length:=by omega);obtain⟨h1,A,Z⟩:=NV aj k asZ;have aD:=Fx (aj k fD);have bc:=VS (oj (l.take k)).2 l[k] A aD.2;rw[VR fD];simp only[IU,atf,ath,atD];omega
theorem agK(l:List Int)(aj:l.length<1000000):aU B 251 [.Q .none 1 (bn l)] (.bo [.Q .none 1 (bn (sf l).1),u (sf l).2.1,.bool (sf l).2.2]):=by
 refine bA Tryz.func251 Tryz.ntmps251 λU=>?_;apply b2;apply b2;apply b2;refine p7 ?_;refine X.own 5 1000 1 3 rfl (λw=>?_);refine go ?_
 refine X.ec (α:={i:Nat // i<=l.length/\∀j (ad:j<l.length),j<i->uo l[j]=false}×Value) (λx=>[(5,.Q (.own 1000 x.2) 1 (bn (oj (l.take x.1.1)).1)),(6,u (oj (l.take x.1.1)).2),(10,.Q .none 1 (bn l)),(11,u ((bn l).length:Nat)),(12,u x.1.1)])
  (λx=>[(1000,.own x.2 (bn (oj (l.take x.1.1)).1).length 1 3)]) (λx=>l.length-x.1.1) (⟨0,by omega,λj _ h=>by omega⟩,w) [(1000,1000)]
  ⟨ar,rfl,bb⟩ ?_
 rintro⟨⟨i,hi,cD⟩,w⟩;dsimp only at hi cD⊢;refine go ?_;refine aJ (decide ((i:Int)<((bn l).length:Nat))) rfl ?_ ?_<;>intro hc
 ·apply cr;have aH:i<l.length:=by simpa[bn]using hc
  have cX:=VR aH;have iZ:(l.take i).length=i:=by rw[atv];omega
  have ol:=NV (l:=l.take i) (λj ad=>by rw[List.getElem_take];exact cD j asZ asZ) i asZ;rw[List.take_take,Nat.min_self]at ol;obtain⟨hd,mx,pw⟩:=ol;generalize ij:oj (l.take i)=agL at*;obtain⟨cn,oU⟩:=agL;dsimp only at hd mx pw;refine gK ?_;refine⟨λ_=>by simp[bn];omega,?_⟩;refine go ?_;refine⟨u l[i],λ_=>by simp[bn,aH],?_⟩;refine f' ?_;refine ie ?_;refine mY ?_;refine⟨λh=>by omega,?_⟩;refine go ?_;refine aJ (uo l[i]) rfl ?_ ?_<;>intro bs
  ·refine go ?_;have F:l.any uo=true:=aut.2 ⟨l[i],ate aH,bs⟩;rw[sf,as_ F];exact⟨aq.nil,E,E,ai⟩
  apply cr;have Ax:=Fx bs;have py:=VS oU l[i] mx Ax.2;have G:oU.tmod 2048=oU%2048:=aur mx;(conv=>whnf);refine X.lL (α:=Unit) (λx=>[(5,.Q (.own 1000 w) 1 (bn cn)),(6,u (tb oU l[i])),(8,u l[i]),(10,.Q .none 1 (bn l)),(11,u ((bn l).length:Nat)),(12,u i)]) (λx=>[(1000,.own w (bn cn).length 1 3)]) ?_ ?_
  ·refine ck ?_;refine⟨λ_=>by omega,?_⟩;refine go ?_;refine aJ (decide (2048-oU.tmod 2048<l[i])) rfl ?_ ?_<;>intro dx
   ·refine go ?_;exact⟨(),[(1000,1000)],⟨E,aq.of_eq (as' (D.int .i64) (by rw[tb,as_ (by simpa using dx)])),E,E,E,E,ai⟩,rfl,bb⟩
   refine go ?_;exact⟨(),[(1000,1000)],⟨E,aq.of_eq (as' (D.int .i64) (by rw[tb,as9 (by simpa using dx)])),E,E,E,E,ai⟩,rfl,bb⟩
  rintro⟨⟩;have cz:(bn cn).length=i:=by rw[bn,atb,hd]
  refine ck ?_;refine nr ?_;refine⟨by show(_+1)*8<=_;omega,by show _+1<=_;omega,as6,λgN=>?_⟩;refine go ?_;have ao:(oj (l.take (i+1))).1=cn++[tb oU l[i]]:=by rw[cX];rfl
  have w9:(oj (l.take (i+1))).2=tb oU l[i]+l[i]:=by rw[cX];rfl
  exact⟨(⟨i + 1,aH,λj ad h => by rcases ats j i with lr|lr
                                 ·exact cD j ad lr
                                 have:j=i:=asZ
                                 subst this;exact bs⟩,gN),[(1000,39)],axV,⟨aq.j6 (by rw[ao,bn,bn,atO];rfl),aq.of_eq (as' (D.int .i64) w9.symm),E,E,E,ai⟩,rfl,rfl,ky (by rw[ao,bn,bn,atO];simp),ai⟩
 have cd:i=l.length:=by simp[bn]at hc;omega
 subst cd
 have F:¬l.any uo=true:=by
  rw[aut];rintro⟨x,I,yI⟩;obtain⟨j,ad,rfl⟩:=atP.1 I;rw[cD j ad ad]at yI;cases yI
 rw[ati,sf,as9 F];refine go ?_;exact⟨aq.mT,E,E,ai⟩
def yJ(l:List Int):Int:=((sf l).2.1+2048-1).tdiv 2048
theorem VT(l:List Int)(aj:l.length<1000000):0<=(sf l).2.1/\(sf l).2.1<=2302000000:=by unfold sf;split;decide;rename_i h;have:=NV (l:=l) (λj ad=>by cases F:uo l[j]with|false=>rfl|true=>exact absurd (aut.2 ⟨l[j],ate ad,F⟩) h) l.length (atg _);rw[ati]at this;simp only;omega
theorem agM(l:List Int)(aj:l.length<1000000):0<=yJ l/\yJ l<=2000000:=by have:=VT l aj;unfold yJ;rw[atp asZ];omega
theorem agN(l:List Int)(aj:l.length<1000000):aU B 180 [.Q .none 1 (bn l)] (u (yJ l)):=by refine bA Tryz.func180 Tryz.ntmps180 λU=>?_;refine ck ?_;have ol:=VT l aj;have G:((sf l).2.1+2048-1).tdiv 2048=((sf l).2.1+2048-1)/2048:=atp asZ;refine ck ?_;refine⟨[.Q .none 1 (bn l)],_,λ_=>agK l aj,ar,?_⟩;apply b2;refine vg ?_;refine⟨λ_=>by omega,?_⟩;refine go ?_;exact E
structure c_ where
 qs:as8
 Fy:Int
 data:as8
 deriving Inhabited
def Ay(x:c_):D:=.agg [.O x.qs,u x.Fy,.O x.data]
def eC(l:List c_):List D:=l.map Ay
def ik(l:List c_):Int:=l.foldl (λn x=>n+(4+(x.data.length:Nat))) 0
theorem IV{l:List c_}(h:i<l.length):ik (l.take (i+1))=ik (l.take i)+(4+(l[i].data.length:Nat)):=by rw[ik,ik,atc h,auf];rfl
theorem Fz{l:List c_}(N:∀x∈l,x.data.length<1000000):∀k,k<=l.length->0<=ik (l.take k)/\ik (l.take k)<=1000004*(k:Int)
 |0,_=>by simp[ik]
 |k+1,Y=>by have:=Fz N k asZ;have A:=N _ (ate (show k<l.length by omega));rw[IV asZ];omega
theorem IW(l:List c_)(aj:l.length<1000000)(N:∀x∈l,x.data.length<1000000):aU B 241 [.Q .none 3 (eC l)] (u (ik l)):=by refine bA Tryz.func241 Tryz.ntmps241 λU=>?_;refine go ?_;refine X.ec (α:={i:Nat // i<=l.length}) (λx=>[(3,u (ik (l.take x.1))),(6,.Q .none 3 (eC l)),(7,u ((eC l).length:Nat)),(8,u x.1)]) (λ_=>[]) (λx=>l.length-x.1) ⟨0,by omega⟩ [] ⟨ar,rfl,ai⟩ ?_;rintro⟨i,hi⟩;dsimp only at hi⊢;refine go ?_;refine aJ (decide ((i:Int)<((eC l).length:Nat))) rfl ?_ ?_<;>intro hc;apply cr;(have aH:i<l.length:=by simpa[eC]using hc);have Ax:=Fz N i hi;have cX:=IV aH;have lK:=N _ (ate aH);generalize gV:ik (l.take i)=S at*;refine gK ?_;refine⟨λ_=>by simp[eC];omega,?_⟩;refine go ?_;refine⟨Ay l[i],λ_=>by simp[eC,aH],?_⟩;refine go ?_;intro cJ;refine go ?_;exact⟨⟨i+1,aH⟩,[],axV,⟨aq.of_eq (as' (D.int .i64) cX.symm),E,E,E,ai⟩,rfl,ai⟩;refine go ?_;(have cd:i=l.length:=by simp[eC]at hc;omega);exact axT
def FA(c:Int):Bool:=bif (bif decide (c<65)then true else decide (90<c))then(bif decide (c<48)then true else decide (57<c))else false
def FB(s:as8):Bool:=if(s.any λc=>FA (c.toNat:Nat))=true then false else((s.length:Nat):Int)==2
theorem agO(s:as8)(hs:s.length<1000000000):aU B 289 [.O s] (.bool (FB s)):=by
 refine bA Tryz.func289 Tryz.ntmps289 λU=>?_;refine go ?_;refine .inr (af.rV aM rfl rfl rfl rfl rfl rfl rfl asZ ?_);refine go ?_;refine X.ec (α:={i:Nat // i<=s.length/\∀j (ad:j<s.length),j<i->FA (s[j].toNat:Nat)=false}) (λx=>[(0,.O s),(6,.Q .none 1 (s.map λc=>D.int .u8 c.toNat)),(7,u ((s.map λc=>D.int .u8 c.toNat).length:Nat)),(8,u x.1)]) (λ_=>[]) (λx=>s.length-x.1) ⟨0,by omega,λj _ h=>by omega⟩ [] ⟨ar,rfl,ai⟩ ?_;rintro⟨i,hi,cD⟩;dsimp only at hi cD⊢;refine go ?_;refine aJ (decide ((i:Int)<((s.map λc=>D.int .u8 c.toNat).length:Nat))) rfl ?_ ?_<;>intro hc
 ·apply cr;have aH:i<s.length:=by simpa using hc
  refine gK ?_;refine⟨λ_=>by rw[atb];omega,?_⟩;(conv=>whnf);refine⟨.int .u8 (s[i].toNat:Nat),λ_=>by simp[aH],?_⟩;refine go ?_;refine aJ (FA (s[i].toNat:Nat)) rfl ?_ ?_<;>intro bs
  ·refine go ?_;have F:(s.any λc=>FA (c.toNat:Nat))=true:=aut.2 ⟨s[i],ate aH,bs⟩;rw[FB,as_ F];exact E
  refine go ?_
  exact⟨⟨i + 1,aH,λj ad h => by rcases ats j i with lr|lr
                                ·exact cD j ad lr
                                have:j=i:=asZ
                                subst this;exact bs⟩,[],axU,ar,rfl,ai⟩
 refine go ?_;have cd:i=s.length:=by simp at hc;omega
 subst cd
 have F:¬(s.any λc=>FA (c.toNat:Nat))=true:=by
  rw[aut];rintro⟨x,I,yI⟩;obtain⟨j,ad,rfl⟩:=atP.1 I;rw[cD j ad ad]at yI;cases yI
 rw[FB,as9 F];refine go ?_;exact E
def w_(x:c_):Option Int :=
 if(!FB x.qs)=true then some 1 else if(bif decide (x.Fy<0)then true else decide (255<x.Fy))=true then some 2 else if(251:Int)<(x.data.length:Nat)then some 7 else none
def xa(l:List c_):Int:=if(1024:Int)<((eC l).length:Nat)then 7 else(l.findSome? w_).getD 0
theorem FC{bw:Type}{p:bw->Option Int}{l:List bw}{e:Int}(h:i<l.length)(ax:∀j (ad:j<l.length),j<i->p l[j]=none)(ao:p l[i]=some e):l.findSome? p=some e:=by induction l generalizing i with|nil=>simp at h|cons a r aY =>(cases i with|zero=>simp at ao;simp[ao]|succ i =>have h0:=ax 0 as1 asZ;simp at h0;rw[List.findSome?_cons,h0];exact aY (i:=i) (by simpa using h) (λj ad fq=>ax (j+1) (by simpa using ad) asZ) (by simpa using ao))
theorem NW{bw:Type}{p:bw->Option Int}{l:List bw}(ax:∀j (ad:j<l.length),p l[j]=none):l.findSome? p=none :=
 List.findSome?_eq_none_iff.2 λx I=>by obtain⟨j,ad,rfl⟩:=atP.1 I;exact ax j ad
theorem agP(l:List c_)(aj:l.length<1000000)(N:∀x∈l,x.qs.length<1000000/\x.data.length<1000000):aU B 240 [.Q .none 3 (eC l)] (u (xa l)):=by
 refine bA Tryz.func240 Tryz.ntmps240 λU=>?_;refine go ?_;refine aJ (decide ((1024:Int)<((eC l).length:Nat))) rfl ?_ ?_<;>intro hc
 ·refine go ?_;rw[xa,as_ (by simpa using hc)];exact E
 refine go ?_;rw[xa,as9 (by simpa using hc)];refine go ?_;refine X.ec (α:={i:Nat // i<=l.length/\∀j (ad:j<l.length),j<i->w_ l[j]=none}) (λx=>[(8,.Q .none 3 (eC l)),(9,u ((eC l).length:Nat)),(10,u x.1)]) (λ_=>[]) (λx=>l.length-x.1) ⟨0,by omega,λj _ h=>by omega⟩ [] ⟨ar,rfl,ai⟩ ?_;rintro⟨i,hi,cD⟩;dsimp only at hi cD⊢;refine go ?_;refine aJ (decide ((i:Int)<((eC l).length:Nat))) rfl ?_ ?_<;>intro bs
 ·apply cr;have aH:i<l.length:=by simpa[eC]using bs
  have lK:=N _ (ate aH);refine gK ?_;refine⟨λ_=>by simp[eC];omega,?_⟩;refine go ?_;refine⟨Ay l[i],λ_=>by simp[eC,aH],?_⟩;refine go ?_;intro cT;refine go ?_;refine bp (agO l[i].qs asZ) ?_;refine aJ (!FB l[i].qs) rfl ?_ ?_<;>intro dx
  ·refine go ?_;rw[FC aH cD (e:=1) (by rw[w_,as_ dx])];exact E
  refine go ?_;refine aJ (bif decide (l[i].Fy<0)then true else decide (255<l[i].Fy)) rfl ?_ ?_<;>intro mw
  ·refine go ?_;rw[FC aH cD (e:=2) (by rw[w_,as9 (by rw[dx];decide),as_ mw])];exact E
  refine go ?_;refine aJ (decide ((251:Int)<(l[i].data.length:Nat))) rfl ?_ ?_<;>intro Au
  ·refine go ?_;rw[FC aH cD (e:=7) (by rw[w_,as9 (by rw[dx];decide),as9 (by rw[mw];decide),as_ (by simpa using Au)])];exact E
  refine go ?_
  exact⟨⟨i + 1,aH,λj ad h => by rcases ats j i with lr|lr
                                ·exact cD j ad lr
                                have:j=i:=asZ
                                subst this;rw[w_,as9 (by rw[dx];decide),as9 (by rw[mw];decide),as9 (by simpa using Au)]⟩,[],axV,ar,rfl,ai⟩
 have cd:i=l.length:=by simp[eC]at bs;omega
 subst cd;rw[NW λj ad=>cD j ad ad];refine go ?_;exact E
theorem FD(a b:as8):Lib.join [a,b] []=a++b:=by rw[Lib.join_cons];simp[Lib.joinTail]
theorem uq(c:Bool)(Fu:as8)(tg:iu)(l:List as8)(b:Nat)(v:Value)(xs:List D)(aj:l.length<=1000000)(ad:(Lib.join l []).length<=140737488355328)(I:xs.length<=1000000): cZ B 231 [.bool c,.O Fu,.Q tg 1 (aN l),.box 7000 b 0] (aK [(7000,.box b [.al v]),(7001,.row v xs 3 238)]) λd aO=>∃c',True/\d=.bo []/\aO=aK [(7000,.box b [.al c']),(7001,.row c' (xs++if c=true then[lq Fu (Lib.join l [])]else[]) 3 238)]:=by refine z7 Tryz.func231 Tryz.ntmps231 λU=>X.SV ?_;refine go ?_;refine g_ (t:=c) (λhc=>?_) (λhc=>?_);refine X.zI aM 6 mixed as3 ?_;(conv=>whnf);refine go ?_;refine bp (agx tg l [] aj ad) ?_;refine .inr (af.oJ aM 7001 rfl rfl rfl as2 rfl rfl rfl as1 (by show(_+1)*40<=_;omega) (by show _+1<=_;omega) λgT cx Av=>?_);(conv=>whnf);refine go ?_;subst hc;refine Tc [] [(7000,.box b [.al (.slice gT cx Av)]),(7001,.row (.slice gT cx Av) (xs++[lq Fu (Lib.join l [])]) 3 238)] [(7000,7000),(7001,14)] ?_;exact⟨.bo [],ai,.slice gT cx Av,ai,rfl,bb⟩;subst hc;refine Tc [] [(7000,.box b [.al v]),(7001,.row v xs 3 238)] [(7000,7000),(7001,7001)] ?_;exact⟨.bo [],ai,v,ai,rfl,rfl,as' (λV=>some (aI.row v V 3 238)) (aua xs).symm,ai⟩
def ur(hf kind:Int):Int:=qH .or .i64 hf (IntKind.i64.wrap (IR kind*2 ^ min (Int.toNat 12) IntKind.i64.bits))
def us(kind hf j_ j' ka:Int)(named:Bool)(name target:as8)(fh bX:Int)(jV:Bool):List c_ :=
 ⟨[80,88],1,hg [ur hf kind,j_,j',ka]⟩::((if named=true then[⟨[78,77],1,[0]++name⟩]else[])++((if target≠[]then[⟨[83,76],1,[0]++vO target⟩]else[]) ++
  (⟨[84,70],1,[2]++(vM fh 0).1⟩::((if bX≠0 then[⟨[67,76],1,hg [bX]⟩]else[])++if jV=true then[⟨[82,69],1,[]⟩]else[]))))
theorem VU(aW:dc B)(kind hf j_ j' ka:Int)(named:Bool)(name target:as8)(fh bX:Int)(jV:Bool)(h:NS kind hf j_ j' ka named name target fh bX)(agQ:0<=ur hf kind/\ur hf kind<4294967296)(VV:∀x∈[j_,j',ka,bX],0<=x/\x<4294967296): aU B 162 [se true kind hf j_ j' ka named name target true fh bX 0 jV] (.bo [.Q .none 3 (eC (us kind hf j_ j' ka named name target fh bX jV)),u 0]):=by refine fn Tryz.func162 Tryz.ntmps162 λU=>?_;refine go ?_;intro dB;(conv=>whnf);refine go ?_;refine bp (ago aW kind hf j_ j' ka named name target fh bX jV h) ?_;intro cJ;(conv=>whnf);refine X.jp 5 (du:=[.al (.slice none 0 0)]) rfl ⟨aq.qR,ai⟩ ?_;refine X.p2 7001 3 238 ?_;refine go ?_;have agR:=agz (B:=B) kind h.gD h.cO;have agS:=Fw (B:=B) .dR [ur hf kind,j_,j',ka] as1 as1 (λx I=>by rcases atu.1 I with rfl|I;exact agQ;exact VV x (by simp at I⊢;rcases I with rfl|rfl|rfl<;>simp));let Cv:List D:=(se true kind hf j_ j' ka named name target true fh bX 0 jV).cells;let FE:List D:=[]++if(true:Bool)=true then[lq [80,88] (Lib.join [hg [ur hf kind,j_,j',ka]] [])]else[];let FF:List D:=FE++if named=true then[lq [78,77] (Lib.join [[0],name] [])]else[];let yK:List D:=FF++if target≠[]then[lq [83,76] (Lib.join [[0],vO target] [])]else[];let oV:List D:=yK++if(true:Bool)=true then[lq [84,70] (Lib.join [[2],(vM fh 0).1] [])]else[];let pz:List D:=oV++if(bX !=0)=true then[lq [67,76] (Lib.join [hg [bX]] [])]else[];let vR:List D:=pz++if((0:Int)!=0)=true then[lq [80,76] (Lib.join [hg [0]] [])]else[];let VW:List D:=vR++if jV=true then[lq [82,69] (Lib.join [] [])]else[];(have dH:FE.length<=1:=by simp[FE]);(have cs:FF.length<=2:=by simp only[FF,atf];split<;>simp<;>omega);(have ut:yK.length<=3:=by simp only[yK,atf];split<;>simp<;>omega);(have IX:oV.length<=4:=by simp only[oV,atf];split<;>simp<;>omega);(have agT:pz.length<=5:=by simp only[pz,atf];split<;>simp<;>omega);(have agU:vR.length<=6:=by simp only[vR,atf];split<;>simp<;>omega);refine' eJ [(1,.box dB Cv),(5,.box cJ [.al (.slice none 0 0)]),(7001,.row (.slice none 0 0) [] 3 238)] (α:=Value) (.slice none 0 0) (λy=>[_,_,_,_,_,_,_,_,_,_,_,_,_,_,_,_,_,.bo []]) (λy=>[(17,5,some (.box cJ [.al y])),(17,7001,some (.row y ([]++if(true)=true then[lq [80,88] (Lib.join [(hg [ur hf kind,j_,j',ka])] [])]else[]) 3 238))]) [0,0,2,0,8,24,56,126,0,256,0,1024,0,4096,16382,32766,65534,131071] [(17,5),(17,7001)] ?_ ?_;rotate_left 17;refine dw ?_;refine bJ (λy=>af.yh rfl [.bool (true),.O [80,88],.Q .dR 1 (aN [(hg [ur hf kind,j_,j',ka])]),.box 7000 cJ 0] [(7000,5),(7001,7001)] r0 (uq (true) [80,88] .dR [(hg [ur hf kind,j_,j',ka])] cJ (.slice none 0 0) [] as1 (by simp[Lib.join_one,yG]) as1) rfl i_ λc' _=>dT c') ?_;exact trivial;intro ig;(conv=>whnf);refine go ?_;clear agS agR;refine sR [(7000,5),(7001,7001)] (uq named [78,77] .dR [[0],name] cJ ig FE as1 (by rw[FD];simp;have:=h.Cu;omega) asZ) λv2 _=>?_;refine m6 (α:=Value) (λ_=>True) [1,5,6] [1] (λ_=>[]) (λx=>[(5,.box cJ [.al x]),(7001,.row x yK 3 238)]) ?_ ?_;refine g_ (t:=target !=[]) (λhc=>?_) (λhc=>?_);(have au:target≠[]:=by simpa using hc);refine bp (agD aW target (h.t.resolve_left au)) ?_;refine sR [(7000,5),(7001,7001)] (uq true [83,76] .dR [[0],vO target] cJ v2 FF as1 (by rw[FD];have:=VO target (h.t.resolve_left au);simp;omega) asZ) λv3 _=>?_;refine gn v3 [(1,1),(5,5),(7001,7001)] trivial ⟨cP,rfl,?_⟩;simp only[yK,as_ au];exact cP;(have au:target=[]:=by simpa using hc);refine gn v2 [(1,1),(5,5),(7001,7001)] trivial ⟨cP,rfl,?_⟩;simp only[yK,as9 (show¬target≠[]from λh=>h au),aua];exact cP;intro v3 _;refine go ?_;refine bp (Vw fh 0) ?_;refine sR [(7000,5),(7001,7001)] (uq true [84,70] .dR [[2],(vM fh 0).1] cJ v3 yK as1 (by rw[FD];have:=Vx fh 0;simp;omega) asZ) λv4 _=>?_;have agV:=Fw (B:=B) .dR [bX] as1 as1 (λx I=>VV x (by simp at I⊢;simp[I]));refine' eJ [(1,.box dB Cv),(5,.box cJ [.al v4]),(7001,.row v4 oV 3 238)] (α:=Value) v4 (λy=>[_,_,_,_,_,_,_,_,_,.bo []]) (λy=>[(9,5,some (.box cJ [.al y])),(9,7001,some (.row y (oV++if(bX !=0)=true then[lq [67,76] (Lib.join [(hg [bX])] [])]else[]) 3 238))]) [0,0,2,6,0,16,48,112,240,511] [(9,5),(9,7001)] ?_ ?_;rotate_left 9;refine dw ?_;refine bJ (λy=>af.yh rfl [.bool (bX !=0),.O [67,76],.Q .dR 1 (aN [(hg [bX])]),.box 7000 cJ 0] [(7000,5),(7001,7001)] r0 (uq (bX !=0) [67,76] .dR [(hg [bX])] cJ v4 oV as1 (by simp[Lib.join_one,yG]) asZ) rfl i_ λc' _=>dT c') ?_;exact trivial;intro v5;(conv=>whnf);refine go ?_;clear agV;have VX:=Fw (B:=B) .dR [0] as1 as1 (λx I=>by simp at I;omega);refine' eJ [(1,.box dB Cv),(5,.box cJ [.al v5]),(7001,.row v5 pz 3 238)] (α:=Value) v5 (λy=>[_,_,_,_,_,_,_,_,_,.bo []]) (λy=>[(9,5,some (.box cJ [.al y])),(9,7001,some (.row y (pz++if((0:Int)!=0)=true then[lq [80,76] (Lib.join [(hg [0])] [])]else[]) 3 238))]) [0,0,2,6,0,16,48,112,240,511] [(9,5),(9,7001)] ?_ ?_;rotate_left 9;refine dw ?_;refine bJ (λy=>af.yh rfl [.bool ((0:Int)!=0),.O [80,76],.Q .dR 1 (aN [(hg [0])]),.box 7000 cJ 0] [(7000,5),(7001,7001)] r0 (uq ((0:Int)!=0) [80,76] .dR [(hg [0])] cJ v5 pz as1 (by simp[Lib.join_one,yG]) asZ) rfl i_ λc' _=>dT c') ?_;exact trivial;intro BS;(conv=>whnf);refine go ?_;refine .inr (af.yh rfl [.bool jV,.O [82,69],.Q .none 1 (aN []),.box 7000 cJ 0] [(7000,5),(7001,7001)] r0 (uq jV [82,69] .none [] cJ BS vR as1 (by simp[Lib.join_nil]) asZ) rfl i_ λH0 _=>?_);(conv=>whnf);refine c1 ?_;refine X.HE 7001 5 0 rfl rfl as2 rfl ?_;(have e:VW=eC (us kind hf j_ j' ka named name target fh bX jV):=by simp only[FE,FF,yK,oV,pz,vR,VW,us,eC,FD,Lib.join_one,Lib.join_nil,aum,bne_self_eq_false,auk,auU,aua,auw,atG,atO];by_cases h1:target=[]<;>by_cases A:bX=0<;>cases named<;>cases jV<;>simp[h1,A,lq,Ay]);refine go ?_;exact⟨.of_eq (as' (D.Q .none 3) e),E,ai⟩
theorem agW(aW:dc B):aU B 162 [se false 0 0 0 0 0 false [] [] false 0 0 1 false] (.bo [.Q .none 3 (eC [⟨[80,76],1,hg [1]⟩]),u 0]):=by refine fn Tryz.func162 Tryz.ntmps162 λU=>?_;refine go ?_;intro dB;(conv=>whnf);refine go ?_;refine bp (agp aW) ?_;intro cJ;(conv=>whnf);refine X.jp 5 (du:=[.al (.slice none 0 0)]) rfl ⟨aq.qR,ai⟩ ?_;refine X.p2 7001 3 238 ?_;let Cv:List D:=(se false 0 0 0 0 0 false [] [] false 0 0 1 false).cells;let oV:List D:=[]++if(false:Bool)=true then[lq [78,77] (Lib.join [[0],[]] [])]else[];let pz:List D:=oV++if((0:Int)!=0)=true then[lq [67,76] (Lib.join [hg [0]] [])]else[];let vR:List D:=pz++if((1:Int)!=0)=true then[lq [80,76] (Lib.join [hg [1]] [])]else[];(have IX:oV.length<=1:=by simp[oV]);(have agT:pz.length<=1:=by simp[pz,oV]);(have agU:vR.length<=1:=by simp[vR,pz,oV]);refine go ?_;refine sR [(7000,5),(7001,7001)] (uq false [78,77] .dR [[0],[]] cJ (.slice none 0 0) [] as1 (by rw[FD];simp) as1) λv2 _=>?_;have VX:=Fw (B:=B) .dR [0] as1 as1 (λx I=>by simp at I;omega);refine' eJ [(1,.box dB Cv),(5,.box cJ [.al v2]),(7001,.row v2 oV 3 238)] (α:=Value) v2 (λy=>[_,_,_,_,_,_,_,_,_,.bo []]) (λy=>[(9,5,some (.box cJ [.al y])),(9,7001,some (.row y (oV++if((0:Int)!=0)=true then[lq [67,76] (Lib.join [(hg [0])] [])]else[]) 3 238))]) [0,0,2,6,0,16,48,112,240,511] [(9,5),(9,7001)] ?_ ?_;rotate_left 9;refine dw ?_;refine bJ (λy=>af.yh rfl [.bool ((0:Int)!=0),.O [67,76],.Q .dR 1 (aN [(hg [0])]),.box 7000 cJ 0] [(7000,5),(7001,7001)] r0 (uq ((0:Int)!=0) [67,76] .dR [(hg [0])] cJ v2 oV as1 (by simp[Lib.join_one,yG]) asZ) rfl i_ λc' _=>dT c') ?_;exact trivial;intro v5;(conv=>whnf);refine go ?_;clear VX;have aq_:=Fw (B:=B) .dR [1] as1 as1 (λx I=>by simp at I;omega);refine' eJ [(1,.box dB Cv),(5,.box cJ [.al v5]),(7001,.row v5 pz 3 238)] (α:=Value) v5 (λy=>[_,_,_,_,_,_,_,_,_,.bo []]) (λy=>[(9,5,some (.box cJ [.al y])),(9,7001,some (.row y (pz++if((1:Int)!=0)=true then[lq [80,76] (Lib.join [(hg [1])] [])]else[]) 3 238))]) [0,0,2,6,0,16,48,112,240,511] [(9,5),(9,7001)] ?_ ?_;rotate_left 9;refine dw ?_;refine bJ (λy=>af.yh rfl [.bool ((1:Int)!=0),.O [80,76],.Q .dR 1 (aN [(hg [1])]),.box 7000 cJ 0] [(7000,5),(7001,7001)] r0 (uq ((1:Int)!=0) [80,76] .dR [(hg [1])] cJ v5 pz as1 (by simp[Lib.join_one,yG]) asZ) rfl i_ λc' _=>dT c') ?_;exact trivial;intro BS;(conv=>whnf);refine go ?_;refine .inr (af.yh rfl [.bool false,.O [82,69],.Q .none 1 (aN []),.box 7000 cJ 0] [(7000,5),(7001,7001)] r0 (uq false [82,69] .none [] cJ BS vR as1 (by simp[Lib.join_nil]) asZ) rfl i_ λH0 _=>?_);(conv=>whnf);refine c1 ?_;refine X.HE 7001 5 0 rfl rfl as2 rfl ?_;refine go ?_;exact⟨.of_eq (as' (D.Q .none 3) (by simp[vR,pz,oV,eC,Ay,lq,Lib.join_one])),E,ai⟩
def jb(cu:List (List c_)):List D:=cu.map λg=>.Q .none 3 (eC g)
def uu(l:List c_)(et:Int):Nat->Nat->Nat
 |0,n=>n
 |f+1,n=>if ik (l.take (n+1))<=et-28 then uu l et f (n+1)else n
def xb:Nat->List c_->Int->List (List c_)
 |0,l,_=>[l]
 |f+1,l,et=>if et<ik l then l.take (uu l et l.length 0)::xb f (l.drop (uu l et l.length 0)) 2048 else[l]
def NX(x:c_):Bool:=bif x.qs==[67,69]then true else x.qs==[83,84]
def NY(et:Int):Bool:=bif decide (et<0)then true else decide (254<et)
def VY(l:List c_)(et:Int):Bool:=bif decide (et<ik l)then decide (et<28)else false
def IY(l:List c_)(et:Int):List (List c_):=xb (2*l.length+3) l et
def uv(l:List c_)(et:Int):List (List c_)×Int :=
 if xa l≠0 then([],xa l)else if l.any NX=true then([],1)else if NY et=true then([],2)else if VY l et=true then([],12)
 else if 65<=(IY l et).length then([],7)else(IY l et,0)
theorem VZ{l:List c_}(h:xa l=0):l.length<=1024/\∀x∈l,x.data.length<=251:=by unfold xa at h;split at h;omega;rename_i h1;(have aj:l.length<=1024:=by simp only[eC,atb]at h1;omega);refine⟨aj,λx I=>?_⟩;cases M:l.findSome? w_ with|none =>have:=List.findSome?_eq_none_iff.1 M x I;unfold w_ at this;split at this;cases this;split at this;cases this;split at this;cases this;omega|some e =>rw[M]at h;obtain⟨y,hy,ao⟩:=List.exists_of_findSome?_eq_some M;unfold w_ at ao;split at ao;cases ao;cases h;split at ao;cases ao;cases h;split at ao;cases ao;cases h;cases ao
theorem agX(l:List c_)(et:Int)(hs:et<ik l):∀(f n:Nat),n<l.length->l.length<=n+f->uu l et f n=(if ik (l.take (n+1))<=et-28 then uu l et (f-1) (n+1)else n)
 |0,n,h1,A=>by omega
 |f+1,n,h1,A=>by rw[uu];rfl
theorem V0(l:List c_)(et:Int)(hs:et<ik l):∀(f n:Nat),n<l.length->l.length<=n+f->n<=uu l et f n/\uu l et f n<l.length
 |0,n,h1,A=>by omega
 |f+1,n,h1,A=>by rw[uu];split;rename_i h;(have Z:n+1<l.length:=by rcases ats (n+1) l.length with aD|aD;exact aD;rw[atC aD]at h;omega);have:=V0 l et hs f (n+1) Z asZ;omega;omega
theorem agY{bw:Type}{p:bw->Bool}{l:List bw}(h:∀j (ad:j<l.length),p l[j]=false):¬l.any p=true:=by rw[aut];rintro⟨x,I,yI⟩;obtain⟨j,ad,rfl⟩:=atP.1 I;rw[h j ad]at yI;cases yI
structure uw where
 cn:List (List c_)
 l:List c_
 et:Int
 f:Nat
def uw.vS(x:uw):Nat:=2*x.l.length+(if x.et=2048 then 0 else 1)
structure agZ (cu:List (List c_)) (n:Nat) (x:uw):Prop where
 eq:x.cn++xb x.f x.l x.et=cu
 iY:x.vS<x.f
 len:x.l.length<=1024
 data:∀y∈x.l,y.data.length<=251
 et:0<=x.et/\x.et<=2048
 cn:x.cn.length+x.vS<=n
theorem ag0(l:List c_)(et:Int)(aj:l.length<1000000)(N:∀x∈l,x.qs.length<1000000/\x.data.length<1000000):aU B 172 [.Q .none 3 (eC l),u et] (.bo [.Q .none 1 (jb (uv l et).1),u (uv l et).2]):=by
 refine bA Tryz.func172 Tryz.ntmps172 λU=>?_;refine go ?_;refine bp (agP l aj N) ?_;refine aJ (xa l !=0) rfl ?_ ?_<;>intro hc
 ·refine go ?_;rw[uv,as_ (by simpa using hc)];exact⟨aq.nil,E,ai⟩
 refine go ?_;have ic:¬xa l≠0:=by simpa using hc
 obtain⟨hlen,ag1⟩:=VZ (l:=l) asZ;rw[uv,as9 ic];refine go ?_;refine X.ec (α:={i:Nat // i<=l.length/\∀j (ad:j<l.length),j<i->NX l[j]=false}) (λx=>[(0,.Q .none 3 (eC l)),(1,u et),(16,.Q .none 3 (eC l)),(17,u ((eC l).length:Nat)),(18,u x.1)]) (λ_=>[]) (λx=>l.length-x.1) ⟨0,by omega,λj _ h=>by omega⟩ [] ⟨ar,rfl,ai⟩ ?_;rintro⟨i,hi,cD⟩;dsimp only at hi cD⊢;refine go ?_;refine aJ (decide ((i:Int)<((eC l).length:Nat))) rfl ?_ ?_<;>intro bs
 ·apply cr;have aH:i<l.length:=by simpa[eC]using bs
  refine gK ?_;refine⟨λ_=>by simp[eC];omega,?_⟩;refine go ?_;refine⟨Ay l[i],λ_=>by simp[eC,aH],?_⟩;refine go ?_;intro cF;refine go ?_;refine aJ (NX l[i]) rfl ?_ ?_<;>intro dx
  ·refine go ?_;rw[as_ (aut.2 ⟨l[i],ate aH,dx⟩)];exact⟨aq.nil,E,ai⟩
  refine go ?_
  exact⟨⟨i + 1,aH,λj ad h => by rcases ats j i with lr|lr
                                ·exact cD j ad lr
                                have:j=i:=asZ
                                subst this;exact dx⟩,[],axV,ar,rfl,ai⟩
 have cd:i=l.length:=by simp[eC]at bs;omega
 subst cd;rw[as9 (agY λj ad=>cD j ad ad)];refine go ?_;refine aJ (NY et) rfl ?_ ?_<;>intro dx
 ·refine go ?_;rw[as_ dx];exact⟨aq.nil,E,ai⟩
 refine go ?_;rw[as9 (by rw[dx];decide)]
 have sI:0<=et/\et<=254:=by
  revert dx;unfold NY;cases h1:decide (et<0)<;>simp at h1⊢<;>omega
 refine go ?_;refine bp (IW l aj (λx I=>(N x I).2)) ?_;refine aJ (VY l et) rfl ?_ ?_<;>intro mw
 ·refine go ?_;rw[as_ mw];exact⟨aq.nil,E,ai⟩
 apply cr;rw[as9 (by rw[mw];decide)];generalize kb:IY l et=cu at*;refine ck ?_;refine X.own 9 1000 1 236 rfl (λw=>?_);refine go ?_
 refine X.ec (α:={x:uw // agZ cu (2*l.length+2) x}×Value) (λx=>[(0,.Q .none 3 (eC x.1.1.l)),(1,u x.1.1.et),(9,.Q (.own 1000 x.2) 1 (jb x.1.1.cn))])
  (λx=>[(1000,.own x.2 (jb x.1.1.cn).length 1 236)]) (λx=>x.1.1.vS) (⟨⟨[],l,et,2*l.length+3⟩,by rw[<-kb];rfl,by unfold uw.vS;dsimp only;split<;>omega,hlen,ag1,by dsimp only;omega,by unfold uw.vS;dsimp only[List.length_nil];split<;>omega⟩,w) [(1000,1000)]
  ⟨ar,rfl,bb⟩ ?_
 rintro⟨⟨⟨cn,cs,q9,f⟩,jm,ag2,nx,r3,qW,Cw⟩,w⟩;dsimp only at jm ag2 nx r3 qW Cw⊢;have B9:∀x∈cs,x.data.length<1000000:=λx I=>by have:=r3 x I;omega
 have eS:=Fz B9 cs.length (atg _);rw[ati]at eS;have aq':uw.vS ⟨cn,cs,q9,f⟩=2*cs.length+(if q9=2048 then 0 else 1):=rfl;refine go ?_;refine bp (IW cs asZ B9) ?_;refine aJ (decide (q9<ik cs)) rfl ?_ ?_<;>intro Au
 ·refine go ?_;have bi:q9<ik cs:=by simpa using Au
  have p_:0<cs.length:=by
   rcases at1 cs.length with h|h
   ·have:cs=[]:=atm h;subst this;have h0:ik ([]:List c_)=0:=rfl;omega
   exact h
  generalize hN:uu cs q9 cs.length 0=bC;have ag3:=V0 cs q9 bi cs.length 0 p_ asZ;rw[hN]at ag3;have gB:(jb cn).length<=3000:=by simp only[jb,atb];omega
  refine go ?_
  refine X.ec (α:={n:Nat×Nat // uu cs q9 n.2 n.1=bC/\n.1<cs.length/\cs.length<=n.1+n.2}) (λx=>[(0,.Q .none 3 (eC cs)),(1,u q9),(9,.Q (.own 1000 w) 1 (jb cn)),(10,u (x.1.1:Nat))])
   (λx=>[(1000,.own w (jb cn).length 1 236)]) (λx=>cs.length-x.1.1) ⟨(0,cs.length),hN,p_,by show cs.length<=0+cs.length;omega⟩ [(1000,1000)]
   ⟨ar,rfl,bb⟩ ?_
  rintro⟨⟨n,wP⟩,ax,jL,V1⟩;dsimp only at ax jL V1⊢;have a1:=agX cs q9 bi wP n jL V1;have hq:=Fz B9 (n+1) asZ;refine f' ?_;refine lb ?_;refine⟨λ_=>by simp[eC];omega,?_⟩;(conv=>whnf);refine⟨[.Q .none 3 (eC (cs.take (n+1)))],_,λ_=>IW (cs.take (n+1)) (by rw[atv];omega) (λx I=>B9 x (aud I)),⟨aq.of_eq (as' (D.Q .none 3) (by simp[eC,List.map_take])),ai⟩,?_⟩;refine g9 ?_;refine aJ (decide (ik (cs.take (n+1))<=q9-28)) rfl ?_ ?_<;>intro w8
  ·refine go ?_;have dS:ik (cs.take (n+1))<=q9-28:=by simpa using w8
   have sH:n+1<cs.length:=by
    rcases ats (n+1) cs.length with aD|aD
    ·exact aD
    rw[atC aD]at dS;omega
   refine go ?_;exact⟨⟨(n+1,wP-1),by rw[<-ax,a1,as_ dS],sH,by show cs.length<=n+1+(wP-1);omega⟩,[(1000,1000)],by show cs.length-(n+1)<cs.length-n;omega,ar,rfl,bb⟩
  have ag4:n=bC:=by rw[<-ax,a1,as9 (by simpa using w8)]
  subst ag4;obtain⟨f,rfl⟩:∃k,f=k+1:=⟨f-1,by omega⟩;refine sM ?_;refine pg ?_;refine⟨λ_=>by simp[eC];omega,?_⟩;(conv=>whnf);refine⟨by simp[eC];omega,by simp[eC];omega,as6,λig=>?_⟩;(conv=>whnf);refine nr ?_;refine⟨by show(_+1)*24<=_;omega,by show _+1<=_;omega,as6,λv2=>?_⟩;refine go ?_;refine⟨λ_=>by simp[eC];omega,?_⟩;refine go ?_
  have DL:q9=2048->0<n:=λh=>by
   rcases at1 n with h0|h0
   ·subst h0;have h1:=IV (l:=cs) (i:=0) p_;have A:=r3 _ (ate p_);have Z:ik (cs.take 0)=0:=rfl;have aD:¬ik (cs.take (0+1))<=q9-28:=by simpa using w8
    omega
   exact h0
  have ag5:uw.vS ⟨cn++[cs.take n],cs.drop n,2048,f⟩<uw.vS ⟨cn,cs,q9,f+1⟩:=by
   unfold uw.vS;dsimp only;rw[aul,as_ rfl];split
   ·rename_i h;have:=DL h;omega
   omega
  exact⟨(⟨⟨cn++[cs.take n],cs.drop n,2048,f⟩,by rw[<-jm,xb,as_ bi,hN];simp,by show uw.vS ⟨cn++[cs.take n],cs.drop n,2048,f⟩<f;omega,by dsimp only;rw[aul];omega,λy hy=>r3 y (avp hy),by dsimp only;omega,by simp only[atf,ath,atD];omega⟩,v2),[(1000,66)],ag5,⟨aq.of_eq (as' (D.Q .none 3) (by simp[eC,List.map_drop];rw[atC as1])),E,aq.j6 (by simp[jb,eC,List.map_take];rfl),ai⟩,rfl,rfl,ky (by simp[jb]),ai⟩
 obtain⟨f,rfl⟩:∃k,f=k+1:=⟨f-1,by omega⟩;have V2:cu=cn++[cs]:=by rw[<-jm,xb,as9 (by simpa using Au)]
 have gB:(jb cn).length=cn.length:=by simp only[jb,atb]
 have V3:cu.length=cn.length+1:=by rw[V2];simp
 refine go ?_;refine aJ (decide ((64:Int)<=((jb cn).length:Nat))) rfl ?_ ?_<;>intro w8
 ·refine go ?_;have cL:(64:Int)<=((jb cn).length:Nat):=by simpa using w8
  rw[as_ asZ];exact⟨aq.nil,E,ai⟩
 apply cr;refine ck ?_;refine pg ?_;refine⟨by simp[eC];omega,by simp[eC];omega,as6,λig=>?_⟩;(conv=>whnf);refine nr ?_;refine⟨by show(_+1)*24<=_;omega,by show _+1<=_;omega,as6,λv2=>?_⟩;refine go ?_;have cL:¬(64:Int)<=((jb cn).length:Nat):=by simpa using w8
 rw[as9 asZ];exact⟨aq.trans aq.mT (aq.of_eq (as' (D.Q .none 1) (by rw[V2];simp[jb,eC];rfl))),E,ai⟩
theorem NZ{n:Nat}(h:i<n)(V:D):(eh i++List.replicate (n-i) V).set i (u (i:Nat))=eh (i+1)++List.replicate (n-(i+1)) V:=by apply auu;intro j;(have dj:∀m,(eh m).length=m:=λm=>by simp[eh]);rw[ave];rcases avD i j with e|e|e;rw[as9 asZ,atJ (by rw[dj];omega),atJ (by rw[dj];omega),dj,dj];simp only[avt];(split<;>split<;>first|rfl|omega);subst e;rw[as_ rfl,as_ (by simp[dj];omega),atn (by rw[dj];omega)];simp[eh];rw[as9 asZ,atn (by rw[dj];omega),atn (by rw[dj];omega)];simp[eh,show j<i by omega,show j<i+1 by omega]
variable{J:List aa}{t:Nat}
theorem ag6(h:t<J.length)(V:D):(aN ((J.map aa.name).take t)++List.replicate (J.length-t) V).set t (.O J[t].name)=aN ((J.map aa.name).take (t+1))++List.replicate (J.length-(t+1)) V:=by(have dj:∀m,m<=J.length->(aN ((J.map aa.name).take m)).length=m:=λm hm=>by simp[aN];omega);apply auu;intro j;rw[ave];rcases avD t j with e|e|e;rw[as9 asZ,atJ (by rw[dj _ asZ];omega),atJ (by rw[dj _ asZ];omega),dj _ asZ,dj _ asZ];simp only[avt];(split<;>split<;>first|rfl|omega);subst e;rw[as_ rfl,as_ (by simp[aN];omega),atn (by rw[dj _ asZ];omega)];simp[aN,h,atZ];rw[as9 asZ,atn (by rw[dj _ asZ];omega),atn (by rw[dj _ asZ];omega)];simp[aN,atZ,show j<t by omega,show j<t+1 by omega]
theorem ag7(aW:dc B)(v:Int)(W:v=2\/v=3)(J:List aa)(gP:J.length<=64)(cD:∀k∈J,dQ k.name=true/\k.name.length<1000000000)(mz:gM J):aU B 182 [u v,.Q .none 12 (J.map enc)] (.bo [.Q .none 1 (aN (J.map aa.name)),u 0]):=by refine bA Tryz.func182 Tryz.ntmps182 λU=>?_;refine go ?_;intro bk;refine go ?_;refine bp (Fa v) ?_;refine aJ _ rfl ?_ ?_<;>intro hc;refine go ?_;exfalso;(have:j8 v=true:=by rcases W with rfl|rfl<;>rfl);rw[this]at hc;cases hc;refine go ?_;refine aJ _ rfl ?_ ?_<;>intro hc;refine go ?_;exfalso;simp at hc;omega;refine go ?_;refine .inr (af.x4 aM (n:=J.length) (cO:=.i64) (d0:=.i64) (V:=u 0) rfl rfl rfl rfl rfl ?_ ?_ (by show 8*_<=_;omega) asZ λgO=>?_);show D.int _ _=_;simp;show D.int _ _=_;simp;refine go ?_;refine X.ec (α:={i:Nat // i<=J.length}) (λx=>[(0,u v),(3,.box 3 bk 0),(6,.al gO),(25,.Q .none 12 (J.map enc)),(26,u (J.map enc).length),(27,u x.1)]) (λx=>[(24,.row gO (eh x.1++List.replicate (J.length-x.1) (u 0)) 1 3),(3,.box bk [.Q .none 12 (J.map enc)])]) (λx=>J.length-x.1) ⟨0,by omega⟩ [(24,24),(3,3)] ⟨ar,rfl,bb⟩ ?_;rintro⟨i,hi⟩;dsimp only;refine go ?_;refine aJ _ rfl ?_ ?_<;>intro hc;refine ff ?_;(have aH:i<J.length:=by simpa using hc);(have dj:(eh i).length=i:=by simp[eh]);refine vf ?_;refine⟨aE J[i],λ_=>n7 aH,?_⟩;refine go ?_;intro cF;refine go ?_;refine bp (yu aW _ (cD _ (ate aH)).2) ?_;refine aJ _ rfl ?_ ?_<;>intro hc;refine go ?_;exfalso;rw[(cD _ (ate aH)).1]at hc;cases hc;refine go ?_;refine .inr (af.ej aM 24 rfl rfl rfl rfl rfl rfl rfl asZ (by simp[dj];omega) ?_);refine go ?_;refine .inr (af.mg aM 24 (i:=i) as5 rfl rfl rfl (by simp[dj];omega) rfl ?_);refine go ?_;exact⟨⟨i+1,by omega⟩,[(24,24),(3,3)],by show _-(i+1)<_-i;omega,ar,rfl,rfl,as' (λV=>some (aI.row gO V 1 3)) (NZ aH _),rfl,bb⟩;refine go ?_;(have cd:i=J.length:=by simp at hc;omega);(have dM:eh i++List.replicate (J.length-i) (u 0)=eh J.length:=by subst cd;simp);rw[dM];refine go ?_;refine .inr (af.call rfl [.al gO,.fn (.func 254) [] [.box 2000 bk 0]] [(2001,24),(2000,3)] (UQ J mz asZ bk gO) rfl ⟨E,aq.fn trivial ⟨aq.box,ai⟩,ai⟩ ?_);rintro d aO ⟨rfl,rfl⟩;refine rO ?_;refine X.fb [(6,.al gO),(0,u v),(3,.box 3 bk 0)] [(24,.row gO (eh J.length) 1 3),(3,.box bk [.Q .none 12 (J.map enc)])] [(24,24),(3,3)] ⟨ar,rfl,bb⟩ ?_;refine X.vm 24 6 rfl ?_;refine go ?_;refine .inr (af.x4 aM (n:=J.length) (cO:=.i64) (d0:=.i64) (V:=.O []) rfl rfl rfl rfl rfl ?_ ?_ (by show 16*_<=_;omega) asZ λdy=>?_);show D.int _ _=_;simp;show D.int _ _=_;simp;refine go ?_;refine .inr (af.makeMap λl2=>?_);refine go ?_;refine X.ec (α:={i:Nat // i<=J.length}) (λx=>[(0,u v),(3,.box 3 bk 0),(6,.Q .none 1 (eh J.length)),(48,.Q .none 1 (eh J.length)),(49,u (eh J.length).length),(50,u x.1),(9,.al dy),(10,.al (.map (some l2)))]) (λx=>[(46,.row dy (aN ((J.map aa.name).take x.1)++List.replicate (J.length-x.1) (.O [])) 1 9),(47,.set l2 (((J.map aa.name).take x.1).reverse)),(3,.box bk [.Q .none 12 (J.map enc)])]) (λx=>J.length-x.1) ⟨0,by omega⟩ [(46,46),(47,47),(3,3)] ⟨ar,rfl,bb⟩ ?_;rintro⟨t,au⟩;dsimp only;refine go ?_;refine aJ _ rfl ?_ ?_<;>intro hc;refine ff ?_;(have ls:t<J.length:=by simp[eh]at hc;omega);(have pd:∀j,j<J.length->(J.map enc)[j]?=some (aE (J.getD j default)):=λj ad=>by rw[n7 ad];simp[List.getD,ad]);refine gK ?_;refine⟨λ_=>by simp[eh];omega,?_⟩;refine go ?_;refine⟨u (t:Nat),λ_=>by simp[eh,ls],?_⟩;refine Ef ?_;apply cB;apply g8;refine g9 ?_;refine hE ?_;refine⟨λh=>by simp at h;simp[eh];omega,?_⟩;refine go ?_;refine⟨u ((t-1:Nat):Int),λh=>axx,?_⟩;refine hE ?_;refine mZ ?_;refine⟨aE (J.getD (t-1) default),λh=>pd (t-1) asZ,?_⟩;apply cB;refine hE ?_;refine nX ?_;refine hE ?_;refine⟨aE J[t],λh=>n7 ls,?_⟩;refine go ?_;refine aJ _ rfl ?_ ?_<;>intro hc;refine go ?_;exfalso;(cases h0:decide ((0:Int)<t)with|false=>rw[h0]at hc;cases hc|true =>(have N0:0<t:=by simpa using h0);have a6:=s6 (r' mz (show t-1<t by omega) ls);rw[h0]at hc;have bs:((J.getD (t-1) default).name==J[t].name)=true:=hc;(have:(J.getD (t-1) default).name=J[t].name:=by simpa using bs);apply a6;rw[<-this];simp[List.getD,show t-1<J.length by omega]);apply cr;apply b2;refine mj ?_;refine⟨aE J[t],λ_=>n7 ls,?_⟩;refine go ?_;refine aJ _ rfl ?_ ?_<;>intro hc;exfalso;rcases W with rfl|rfl<;>cases hc;refine go ?_;refine .inr (af.D_ 47 (dV:=9) (ek:=4) rfl rfl rfl rfl rfl rfl ?_);refine go ?_;refine .inr (af.ej aM 46 rfl rfl rfl rfl rfl rfl rfl asZ (by simp[aN];omega) ?_);refine go ?_;refine .inr (af.mg aM 46 (i:=t) as5 rfl rfl rfl (by simp[aN];omega) rfl ?_);refine go ?_;exact⟨⟨t+1,by omega⟩,[(46,46),(47,47),(3,3)],by show _-(t+1)<_-t;omega,ar,rfl,rfl,as' (λV=>some (aI.row dy V 1 9)) (ag6 ls _),rfl,as' (λV=>some (aI.set l2 V)) (by rw[au'];simp[ls]),rfl,bb⟩;refine wM ?_;(have xc:t=J.length:=by simp[eh]at hc;omega);(have FG:aN ((J.map aa.name).take t)++List.replicate (J.length-t) (D.O [])=aN (J.map aa.name):=by subst xc;rw[atC as1];simp);rw[FG];refine X.fb [(9,.al dy)] [(46,.row dy (aN (J.map aa.name)) 1 9)] [(46,46)] ⟨ar,rfl,bb⟩ ?_;exact axG
def FH(n:aa)(p q:as8):D:=.agg [.O n.name,u n.kind,.O n.d7,.O n.target,u n.cx,u n.n2,u n.n3,u n.n4,u n.n5,u n.n6,.Q .none 12 (n.J.map enc),.Q .none 2 (n.bN.map c6),.O p,.O q]
theorem ag8(n:aa)(p q:as8):aU B 268 [FH n p q] (.bo []):=by refine bA Tryz.func268 Tryz.ntmps268 λU=>?_;refine m0 ?_;intro b;(conv=>whnf);exact trivial
theorem ag9{l:List aa}(h:gM l):l.Pairwise λa b=>Op.bytesLess a.name b.name=true :=
 aup.2 λi j hi ad d6=>r' h d6 ad
theorem ag_{l:List aa}(h:l.Pairwise λa b=>Op.bytesLess a.name b.name=true):gM l:=λi hi=>by
 have:=aup.1 h i (i+1) asZ hi asZ;simpa[List.getD,hi,show i<l.length by omega]using this
theorem ag'(v:Value)(Nq:D):cZ B 350 [.al v,Nq] (aK [(2001,.row v [] 12 44)]) λd aO=>d=.bo []/\aO=aK [(2001,.row v [] 12 44)]:=by refine⟨js Tryz.func350 rfl as3,λw C args Ft pX qQ hH ae=>?_⟩;obtain⟨aj,ae⟩:=ae;match args,aj with|[a0,gT],_ =>have h0:=(ae 0 _ a0 rfl rfl).gb;subst h0;obtain⟨a,cap,W,_⟩:kj w C a0 [] 12 44:=hH.ch 2001 _ rfl;subst W;refine(AnyF.slices_SortFunc_none Tryz.laysSlF0_f350 a cap gT w).mono ?_;rintro e w' ⟨rfl,rfl⟩;exact⟨.tuple #[],.bo [],C,_,rfl,⟨rfl,rfl⟩,.bo [] [] rfl (λi d v N _=>by simp at N),.refl _ _ _,⟨hH.ch,hH.inj,λs o b ah an=>.inl (hH.cN s o b ah an)⟩⟩
def aa.named(n:aa)(s:as8):aa:={n with name:=s}
def keeps(v:Int):Bool:=v==2||v==3
def mA(l:List aa):List aa:=l.mergeSort λa b=>!Op.bytesLess b.name a.name
mutual
def jw(aX:List aa->List as8)(v d:Int):aa->aa
 |.mk a b c t e f g h _ _ ag cC=>.mk a b c t (if keeps v then e else 0) (if keeps v then f else 0) (if keeps v then g else 0) h 0 0 (mA (fP aX v (d+1) ag (aX ag))) (if v=3 then cC else[])
def fP(aX:List aa->List as8)(v d:Int):List aa->List as8->List aa
 |k::r,m::cS=>if lo v k d then(jw aX v d k).named m::fP aX v d r cS else fP aX v d r cS
 |_,_=>[]
end
section
variable(aX:List aa->List as8)(v d:Int)
theorem FI(n:aa):jw aX v d n=⟨n.name,n.kind,n.d7,n.target,if keeps v then n.cx else 0,if keeps v then n.n2 else 0,if keeps v then n.n3 else 0,n.n4,0,0,mA (fP aX v (d+1) n.J (aX n.J)),if v=3 then n.bN else[]⟩:=by cases n;simp only[jw]
theorem aha(n:aa)(m:as8):jw aX v d (n.named m)=(jw aX v d n).named m:=by cases n;simp only[aa.named,jw]
theorem FJ(n:aa)(m:as8):aB (n.named m)=aB n:=by cases n;simp only[aa.named,aB]
theorem N1:∀{l:List aa} {cS:List as8} {i:Nat} (h:i<l.length) (bz:i<cS.length),fP aX v d (l.take (i+1)) (cS.take (i+1))=fP aX v d (l.take i) (cS.take i)++(if lo v l[i] d then[jw aX v d (l[i].named cS[i])]else[])
 |k::r,m::cS,0,_,_=>by simp[fP,aha]
 |k::r,m::cS,i+1,h,bz=>by have:=N1 (l:=r) (cS:=cS) (i:=i) (by simpa using h) (by simpa using bz);simp only[auP,fP,auA];rw[this];split<;>simp
theorem FK:∀(l:List aa) (cS:List as8),(fP aX v d l cS).length<=l.length
 |[],cS=>by simp[fP]
 |k::r,[]=>by simp[fP]
 |k::r,m::cS=>by have:=FK r cS;simp only[fP];split<;>simp<;>omega
theorem N2:∀(l:List aa) (cS:List as8),((fP aX v d l cS).map aa.name).Sublist cS
 |[],cS=>by simp[fP]
 |k::r,[]=>by simp[fP]
 |k::r,m::cS=>by have:=N2 r cS;simp only[fP];split;simp only[atG];exact this.cons_cons m;exact this.cons m
end
theorem Az(l:List aa):(mA l).Perm l:=av_ l _
theorem N3(l:List aa):(mA l).Pairwise λa b=>Op.bytesLess b.name a.name=false:=by
 have h:=avN (le:=λa b:aa=>!Op.bytesLess b.name a.name) (λa b c h1 A=>by
  have Z:Op.bytesLess b.name a.name=false:=by simpa using h1
  have aD:Op.bytesLess c.name b.name=false:=by simpa using A
  have:Op.bytesLess c.name a.name=false:=by
   cases bc:Op.bytesLess c.name a.name with
   |false=>rfl
   |true =>
    exfalso
    cases cL:Op.bytesLess a.name b.name with
    |true=>rw[Ci _ _ _ bc cL]at aD;cases aD
    |false=>rw[w2 _ _ cL Z]at bc;rw[bc]at aD;cases aD
  simpa using this) (λa b=>by
  cases h1:Op.bytesLess b.name a.name with
  |false=>rfl
  |true=>simp[E' h1]) l
 exact h.imp λ{a b} h=>by simpa using h
theorem V4{l:List aa}(h:(l.map aa.name).Nodup):gM (mA l):=by have h1:=N3 l;have A:((mA l).map aa.name).Nodup:=((Az l).map _).nodup_iff.2 h;apply ag_;have Z:=au2.1 (at4.1 A);exact(h1.and Z).imp λ{a b} ⟨aD,bc⟩=>by cases cL:Op.bytesLess a.name b.name with|true=>rfl|false=>exact absurd (w2 _ _ cL aD) bc
theorem ahb{l:List aa}(h:gM l):mA l=l :=
 Ny h (Az l) λi j hi ad d6=>aup.1 (N3 l) i j hi ad d6
theorem ahc(dp:List aa)(h:(dp.map aa.name).Nodup)(hlen:dp.length<1000000)(v:Value): cZ B 350 [.al v,.fn (.func 351) [] []] (aK [(2001,.row v (dp.map aE) 12 44)]) λd aO => d=.bo []/\aO=aK [(2001,.row v ((mA dp).map aE) 12 44)]:=by by_cases h0:0<dp.length;refine(aeV (B:=B) dp h0 hlen v).mono ?_;rintro d aO ⟨rfl,Am,aw,hs,rfl⟩;rw[Ny (V4 h) (aw.trans (Az dp).symm) hs];exact⟨rfl,rfl⟩;have ax:dp=[]:=atm asZ;subst ax;(have:mA []=[]:=by simp[mA]);rw[this];exact ag' v _
mutual
def il:aa->Prop
 |.mk _ _ _ _ _ _ _ _ _ _ ag cC=>ag.length<=64/\cC.length<1000000000/\gM ag/\xd ag
def xd:List aa->Prop
 |[]=>True
 |k::r=>((dQ k.name=true/\k.name.length<1000000000)/\il k)/\xd r
end
theorem q_:∀{l:List aa} (_:xd l) {k:aa} (_:k∈l),(dQ k.name=true/\k.name.length<1000000000)/\il k
 |x::r,h,k,Y=>by simp only[xd]at h;rcases atu.1 Y with rfl|Y;exact h.1;exact q_ h.2 Y
theorem tc(n:aa):il n↔n.J.length<=64/\n.bN.length<1000000000/\gM n.J/\xd n.J:=by cases n;simp only[il]
theorem ahd(n:aa)(m:as8):il (n.named m)↔il n:=by simp only[tc,aa.named]
structure Cx (B:World) (v:Int) (aX:List aa->List as8):Prop where
 call:∀ag:List aa,ag.length<=64->gM ag->(∀k∈ag,dQ k.name=true/\k.name.length<1000000000)->
  aU B 182 [u v,.Q .none 12 (ag.map enc)] (.bo [.Q .none 1 (aN (aX ag)),u 0])/\(aX ag).length=ag.length/\(aX ag).Nodup/\∀m∈aX ag,m.length<=1100
def Cy(p m:as8)(b:Bool):as8:=if b=true then m else p++[47]++m
theorem V5(p m:as8)(b:Bool):(Cy p m b).length<=p.length+1+m.length:=by simp only[Cy];split<;>simp<;>omega
theorem ahe(aX:List aa->List as8)(v:Int)(m':Cx B v aX):∀(bC:Nat) (n:aa),aB n<bC->il n->∀(p q:as8) (d:Int),0<=d->d+aB n<1000000000->p.length+1200*aB n<1000000000->q.length+aB n<1000000000->aU B 310 [u v,FH n p q,u d,.fn (.func 268) [] []] (aE (jw aX v d n)):=by
 refine λbC=>Nat.rec (λn h=>absurd h (auI _)) (λbC aY n hN cD p q d N r3 aw G=>?_) bC;obtain⟨gP,pe,mz,xe⟩:=(tc n).1 cD;have b5:∀k∈n.J,dQ k.name=true/\k.name.length<1000000000:=λk Y=>(q_ xe Y).1;obtain⟨DM,jL,mB,pf⟩:=m'.call n.J gP mz b5;refine bA Tryz.func310 Tryz.ntmps310 λU=>?_;refine go ?_;intro cJ;refine go ?_;intro cF;refine go ?_;intro iI;refine go ?_;intro jW
 (conv=>whnf)
 refine c1 ?_;refine X.lL (α:=Unit) (λx=>[(0,u v),(2,u d),(3,.fn (.func 268) [] []),(5,.box 5 cJ 0),(8,.box 8 cF 0),(9,.box 9 iI 0),(10,.box 10 jW 0)]) (λx=>[(5,.box cJ [.O n.name,u n.kind,.O n.d7,.O n.target,u n.cx,u n.n2,u n.n3,u n.n4,u n.n5,u n.n6,.Q .none 12 (n.J.map enc),.Q .none 2 (n.bN.map c6),.O p,.O q]),(8,.box cF [.O [],u 0,.O [],.O [],u 0,u 0,u 0,u 0,u 0,u 0,.bj,.bj]),(9,.box iI [.O n.name,u n.kind,.O n.d7,.O n.target,u n.cx,u n.n2,u n.n3,u n.n4,u n.n5,u n.n6,.Q .none 12 (n.J.map enc),.Q .none 2 (n.bN.map c6)]),(10,.box jW [.O n.name,u n.kind,.O n.d7,.O n.target,u (if keeps v then n.cx else 0),u (if keeps v then n.n2 else 0),u (if keeps v then n.n3 else 0),u n.n4,u 0,u 0,.bj,.bj])]) ?_ ?_
 ·refine go ?_;refine aJ _ rfl ?_ ?_<;>intro hc
  ·have Y:keeps v=true:=by
    cases h1:(v==2)with
    |true=>simp only[keeps,h1,Bool.true_or]
    |false =>
     rw[h1]at hc;simpa[keeps,h1]using hc
   rw[Y];refine' eJ [(5,.box cJ [.O n.name,u n.kind,.O n.d7,.O n.target,u n.cx,u n.n2,u n.n3,u n.n4,u n.n5,u n.n6,.Q .none 12 (n.J.map enc),.Q .none 2 (n.bN.map c6),.O p,.O q]),(8,.box cF [.O [],u 0,.O [],.O [],u 0,u 0,u 0,u 0,u 0,u 0,.bj,.bj]),(9,.box iI [.O n.name,u n.kind,.O n.d7,.O n.target,u n.cx,u n.n2,u n.n3,u n.n4,u n.n5,u n.n6,.Q .none 12 (n.J.map enc),.Q .none 2 (n.bN.map c6)]),(10,.box jW [.O n.name,u n.kind,.O n.d7,.O n.target,u 0,u 0,u 0,u n.n4,u 0,u 0,.bj,.bj])] () (λ_:Unit=>[_,_,_,_,_,_,_,.any,_,.any,_,.any]) (λ_=>[(7,10,some (.box jW [.O n.name,u n.kind,.O n.d7,.O n.target,u n.cx,u 0,u 0,u n.n4,u 0,u 0,.bj,.bj])),(9,10,some (.box jW [.O n.name,u n.kind,.O n.d7,.O n.target,u n.cx,u n.n2,u 0,u n.n4,u 0,u 0,.bj,.bj])),(11,10,some (.box jW [.O n.name,u n.kind,.O n.d7,.O n.target,u n.cx,u n.n2,u n.n3,u n.n4,u 0,u 0,.bj,.bj]))]) [0,1,0,4,0,16,3,67,207,463,1023,2047] [(7,10),(9,10),(11,10)] ?_ ?_
   rotate_left 9
   ·refine dw ?_;refine Go.bS.cj.vs ?_;refine Go.bS.cj.vs ?_;refine Go.bS.cj.vs ?_;exact trivial
   intro _
   (conv=>whnf)
   refine go ?_;exact⟨(),[(5,5),(8,8),(9,9),(10,10)],ar,rfl,bb⟩
  refine go ?_
  have Y:keeps v=false:=by
   cases h1:(v==2)with
   |true=>rw[h1]at hc;cases hc
   |false =>
    rw[h1]at hc;simpa[keeps,h1]using hc
  rw[Y];exact⟨(),[(5,5),(8,8),(9,9),(10,10)],ar,rfl,bb⟩
 rintro⟨⟩;refine X.lL (α:={x:D // aq x (.Q .none 2 ((if v=3 then n.bN else[]).map c6))}) (λx=>[(0,u v),(2,u d),(3,.fn (.func 268) [] []),(5,.box 5 cJ 0),(8,.box 8 cF 0),(9,.box 9 iI 0),(10,.box 10 jW 0)]) (λx=>[(5,.box cJ [.O n.name,u n.kind,.O n.d7,.O n.target,u n.cx,u n.n2,u n.n3,u n.n4,u n.n5,u n.n6,.Q .none 12 (n.J.map enc),.Q .none 2 (n.bN.map c6),.O p,.O q]),(8,.box cF [.O [],u 0,.O [],.O [],u 0,u 0,u 0,u 0,u 0,u 0,.bj,.bj]),(9,.box iI [.O n.name,u n.kind,.O n.d7,.O n.target,u n.cx,u n.n2,u n.n3,u n.n4,u n.n5,u n.n6,.Q .none 12 (n.J.map enc),.Q .none 2 (n.bN.map c6)]),(10,.box jW [.O n.name,u n.kind,.O n.d7,.O n.target,u (if keeps v then n.cx else 0),u (if keeps v then n.n2 else 0),u (if keeps v then n.n3 else 0),u n.n4,u 0,u 0,.bj,x.1])]) ?_ ?_
 ·refine go ?_;refine aJ _ rfl ?_ ?_<;>intro hc
  ·refine go ?_;refine bp (UM n.bN pe) ?_;have Ac:v=3:=by simpa using hc
   exact⟨⟨.Q .none 2 (n.bN.map c6),by rw[as_ Ac];exact E⟩,[(5,5),(8,8),(9,9),(10,10)],ar,rfl,bb⟩
  refine go ?_;have Ac:¬v=3:=by simpa using hc
  exact⟨⟨.bj,by rw[as9 Ac];exact .nil⟩,[(5,5),(8,8),(9,9),(10,10)],ar,rfl,bb⟩
 rintro⟨hu,Ab⟩;refine X.jp 10 (du:=[.O n.name,u n.kind,.O n.d7,.O n.target,u (if keeps v then n.cx else 0),u (if keeps v then n.n2 else 0),u (if keeps v then n.n3 else 0),u n.n4,u 0,u 0,.bj,.Q .none 2 ((if v=3 then n.bN else[]).map c6)]) rfl ⟨E,E,E,E,E,E,E,E,E,E,E,Ab,ai⟩ ?_;refine lc ?_;refine⟨[FH n p q],_,λ_=>ag8 n p q,ar,?_⟩;refine lc ?_;refine⟨[u v,.Q .none 12 (n.J.map enc)],_,λ_=>DM,ar,?_⟩;refine f' ?_
 (conv=>whnf)
 refine c1 ?_;apply oK;refine X.jp 10 (du:=[.O n.name,u n.kind,.O n.d7,.O n.target,u (if keeps v then n.cx else 0),u (if keeps v then n.n2 else 0),u (if keeps v then n.n3 else 0),u n.n4,u 0,u 0,.al (.slice none 0 0),.Q .none 2 ((if v=3 then n.bN else[]).map c6)]) rfl ⟨E,E,E,E,E,E,E,E,E,E,aq.qR,E,ai⟩ ?_;refine X.p2 109 12 44 ?_
 refine X.ec (α:={x:Nat×Value // x.1<=n.J.length}) (λx=>[(0,u v),(2,u d),(3,.fn (.func 268) [] []),(5,.box 5 cJ 0),(8,.box 8 cF 0),(9,.box 9 iI 0),(10,.box 10 jW 0),(11,.Q .none 1 (aN (aX n.J))),(61,.Q .none 12 (n.J.map enc)),(62,u (n.J.map enc).length),(63,u x.1.1)]) (λx=>[(5,.box cJ [.O n.name,u n.kind,.O n.d7,.O n.target,u n.cx,u n.n2,u n.n3,u n.n4,u n.n5,u n.n6,.Q .none 12 (n.J.map enc),.Q .none 2 (n.bN.map c6),.O p,.O q]),(8,.box cF [.O [],u 0,.O [],.O [],u 0,u 0,u 0,u 0,u 0,u 0,.bj,.bj]),(9,.box iI [.O n.name,u n.kind,.O n.d7,.O n.target,u n.cx,u n.n2,u n.n3,u n.n4,u n.n5,u n.n6,.Q .none 12 (n.J.map enc),.Q .none 2 (n.bN.map c6)]),(10,.box jW [.O n.name,u n.kind,.O n.d7,.O n.target,u (if keeps v then n.cx else 0),u (if keeps v then n.n2 else 0),u (if keeps v then n.n3 else 0),u n.n4,u 0,u 0,.al x.1.2,.Q .none 2 ((if v=3 then n.bN else[]).map c6)]),(109,.row x.1.2 ((fP aX v (d+1) (n.J.take x.1.1) ((aX n.J).take x.1.1)).map aE) 12 44)]) (λx=>n.J.length-x.1.1) ⟨(0,.slice none 0 0),atq _⟩ [(5,5),(8,8),(9,9),(10,10),(109,109)]
  ⟨ar,rfl,rfl,rfl,rfl,rfl,rfl,rfl,rfl,rfl,rfl,as' (λV=>some (aI.row (.slice none 0 0) V 12 44)) (by simp[fP]),ai⟩ ?_
 rintro⟨⟨i,gO⟩,hi⟩;dsimp only at hi⊢;refine go ?_;refine aJ _ rfl ?_ ?_<;>intro hc
 ·refine ff ?_;have aH:i<n.J.length:=by simpa using hc
  have cd:i<(aX n.J).length:=asZ
  have N4:=rY aH;have mt:=pf _ (ate cd);have vt:=V5 p (aX n.J)[i] (d==1);have lr:=V5 q n.J[i].name (d==1);refine gK ?_;refine mZ ?_;refine⟨aE n.J[i],λ_=>rZ aH,?_⟩;refine go ?_;intro qt;refine go ?_;refine bp (Fb v _ _) ?_;refine aJ _ rfl ?_ ?_<;>intro hc
  ·apply ep
   have hs:lo v n.J[i] (d+1)=true:=by
    cases h1:decide ((i:Int)<((aN (aX n.J)).length:Int))with
    |true=>rw[h1]at hc;exact hc
    |false=>rw[h1]at hc;cases hc
   apply kw;apply cB;refine eB ?_;refine⟨[.O q,.O n.J[i].name,.bool (d==1)],_,λ_=>Ul _ _ _ asZ,ar,?_⟩;refine ck ?_;refine⟨λ_=>by simp[aN];omega,?_⟩;refine go ?_;refine⟨.O (aX n.J)[i],λ_=>by simp[aN,cd],?_⟩
   (conv=>whnf)
   refine c1 ?_;refine X.zI aM 18 mixed as4 ?_;refine go ?_;refine⟨[.O p,.O (aX n.J)[i],.bool (d==1)],_,λ_=>Ul _ _ _ asZ,ar,?_⟩;refine lb ?_
   refine⟨[u v,FH (n.J[i].named (aX n.J)[i]) (Cy p (aX n.J)[i] (d==1)) (Cy q n.J[i].name (d==1)),u (d+1),.fn (.func 268) [] []],_,
    λ_=>aY (n.J[i].named (aX n.J)[i]) (by rw[FJ];omega) ((ahd _ _).2 (q_ xe (ate aH)).2) (Cy p (aX n.J)[i] (d==1)) (Cy q n.J[i].name (d==1)) (d+1) asZ (by rw[FJ];omega)
     (by rw[FJ];omega) (by rw[FJ];omega),ar,?_⟩
   refine go ?_;refine .inr (af.oJ aM 109 rfl rfl rfl as6 rfl rfl rfl (avq) ?_ ?_ λbQ m cap=>?_)
   ·have:=FK aX v (d+1) (n.J.take i) ((aX n.J).take i);show(_+1)*152<=_;simp at this⊢;omega
   ·have:=FK aX v (d+1) (n.J.take i) ((aX n.J).take i);show _+1<=_;simp at this⊢;omega
   refine go ?_;exact⟨⟨(i+1,.slice bQ m cap),aH⟩,[(5,5),(8,8),(9,9),(10,10),(109,109)],by show _-(i+1)<_-i;omega,ar,rfl,rfl,rfl,rfl,rfl,rfl,rfl,rfl,rfl,rfl,as' (λV=>some (aI.row (.slice bQ m cap) V 12 44)) (by rw[N1 aX v (d+1) aH cd,as_ hs];simp;rfl),ai⟩
  have hs:lo v n.J[i] (d+1)=false:=by
   have h1:decide ((i:Int)<((aN (aX n.J)).length:Int))=true:=by simp[aN];omega
   rw[h1]at hc;exact hc
  refine go ?_;exact⟨⟨(i+1,gO),aH⟩,[(5,5),(8,8),(9,9),(10,10),(109,109)],by show _-(i+1)<_-i;omega,ar,rfl,rfl,rfl,rfl,rfl,rfl,rfl,rfl,rfl,rfl,as' (λV=>some (aI.row gO V 12 44)) (by rw[N1 aX v (d+1) aH cd,hs];simp),ai⟩
 refine go ?_;have cd:i=n.J.length:=by simp at hc;omega
 have dM:(fP aX v (d+1) (n.J.take i) ((aX n.J).take i)).map aE=(fP aX v (d+1) n.J (aX n.J)).map aE:=by
  subst cd;rw[ati,atC asZ]
 rw[dM];have hlen:=FK aX v (d+1) n.J (aX n.J);have ahf:((fP aX v (d+1) n.J (aX n.J)).map aa.name).Nodup:=(N2 aX v (d+1) n.J (aX n.J)).nodup mB;refine go ?_;refine .inr (af.call rfl [.al gO,.fn (.func 351) [] []] [(2001,109)] (ahc _ ahf asZ gO) rfl ar ?_);rintro d' aO ⟨rfl,rfl⟩;refine rO ?_;refine X.fb [(113,.al gO),(8,.box 8 cF 0),(10,.box 10 jW 0)] [(109,.row gO ((mA (fP aX v (d+1) n.J (aX n.J))).map aE) 12 44),(8,.box cF [.O [],u 0,.O [],.O [],u 0,u 0,u 0,u 0,u 0,u 0,.bj,.bj]),(10,.box jW [.O n.name,u n.kind,.O n.d7,.O n.target,u (if keeps v then n.cx else 0),u (if keeps v then n.n2 else 0),u (if keeps v then n.n3 else 0),u n.n4,u 0,u 0,.al gO,.Q .none 2 ((if v=3 then n.bN else[]).map c6)])] [(109,109),(8,8),(10,10)] ⟨ar,rfl,bb⟩ ?_;refine X.acl 109 113 rfl ?_;refine X.ack 10 113 (du:=[.O n.name,u n.kind,.O n.d7,.O n.target,u (if keeps v then n.cx else 0),u (if keeps v then n.n2 else 0),u (if keeps v then n.n3 else 0),u n.n4,u 0,u 0,.Q .none 12 ((mA (fP aX v (d+1) n.J (aX n.J))).map aE),.Q .none 2 ((if v=3 then n.bN else[]).map c6)]) rfl rfl (λw C ae dl h=>db.cell (i:=10) h λak an=>(h.Si (i:=10) rfl an) ▸ ae) ?_;refine go ?_;rw[FI];refine aq.agg ?_;refine⟨E,E,E,E,E,E,E,E,E,E,aq.of_eq (as' (D.Q .none 12) ?_),aq.refl _,ai⟩
 exact avK λk _=>(rQ k).symm
mutual
def iK:aa->Int->Bool
 |.mk a b c d e f g h i j ag cC,l=>one (.mk a b c d e f g h i j ag cC) l==0&&nc ag (l+1)
def nc:List aa->Int->Bool
 |[],_=>true
 |k::r,l=>iK k l&&nc r l
end
theorem IZ(n:aa)(l:Int):iK n l=(one n l==0&&nc n.J (l+1)):=by cases n;simp only[iK]
mutual
theorem V6:∀(n:aa) (p:as8) (l:Int) (q:as8),
  (iK n l=true->fG gX n p l (0,q)=(true,(0,q)))/\(iK n l=false->(fG gX n p l (0,q)).1=false/\(fG gX n p l (0,q)).2.1≠0)
 |.mk a b c d e f g h i j ag cC,p,l,q=>by
  have aY:=V7 ag p l q;simp only[fG,iK,gX];by_cases h1:one (.mk a b c d e f g h i j ag cC) l=0
  ·simp only[h1,aum,beq_self_eq_true,av6];exact aY
  simp only[h1,auU];refine⟨λcG=>?_,λ_=>⟨by simp,by simpa using h1⟩⟩;simp[h1]at cG
theorem V7:∀(ag:List aa) (p:as8) (l:Int) (q:as8),
  (nc ag (l+1)=true->kA gX ag p l (0,q)=(true,(0,q)))/\(nc ag (l+1)=false->(kA gX ag p l (0,q)).1=false/\(kA gX ag p l (0,q)).2.1≠0)
 |[],p,l,q=>by simp[kA,nc]
 |k::r,p,l,q=>by
  have h1:=V6 k (below p k.name (l+1)) (l+1) q;have A:=V7 r p l q;simp only[kA,nc]
  cases Y:iK k (l+1)with
  |true =>
   rw[h1.1 Y];simpa using A
  |false =>
   have Z:=h1.2 Y;generalize I:fG gX k (below p k.name (l+1)) (l+1) (0,q)=x at Z;obtain⟨ahg,N5⟩:=x;obtain⟨aD,bc⟩:=Z;simp only at aD bc;subst aD;simp[bc]
end
theorem vT(n:aa):valid n=(decide (fH n<=256)&&iK n 1):=by simp only[valid,s4];by_cases h:(256:Int)<fH n;rw[as_ h];(have:decide (fH n<=256)=false:=by simp;omega);rw[this];rfl;rw[as9 h];(have h1:decide (fH n<=256)=true:=by simp;omega);rw[h1,av6];have cH:=V6 n [] 1 [];cases aV:iK n 1 with|true=>rw[cH.1 aV];rfl|false=>simpa using(cH.2 aV).2
theorem FL{f:Nat->Int}:∀{k i:Nat},hb f i k=0->∀j,i<=j->j<i+k->f j=0
 |0,i,_,j,h1,A=>by omega
 |k+1,i,h,j,h1,A=>by simp only[hb]at h;split at h;rename_i h0;by_cases e:j=i;rw[e];exact h0;exact FL h j asZ asZ;rename_i h0;exact absurd h h0
variable{s:as8}
theorem I0(h:dQ s=true):s.length<=256:=by simp only[dQ]at h;split at h;cases h;simp only[atd,atS,auM]at h;obtain⟨h1,A,Z⟩:=h;simp only[chars]at h1 Z;split at h1;cases h1;rename_i aj;rw[as9 aj]at Z;cases hc:jt s with|none=>rw[hc]at h1;cases h1|some l =>rw[hc]at Z;have:=B8 s.length s (atg _) l hc;simp only at Z;omega
theorem ahh(h:dQ s=true):s≠[]:=by intro e;subst e;revert h;decide +kernel
structure N6 (n:aa) (l:Int):Prop where
 I1:0<=n.kind/\n.kind<=2
 FM:l=1->n.kind=0
 FN:l=1->n.name=[]
 I2:1<l->dQ n.name=true
 file:n.kind≠1->n.d7=[]/\n.bN=[]
 I3:n.kind≠2->n.target=[]
 bd:n.kind≠0->n.J=[]
 target:n.kind=2->k0 n.target=true
 cx:0<=n.cx/\n.cx<=4095
 n2:0<=n.n2/\n.n2<=65535
 n3:0<=n.n3/\n.n3<=65535
 n4:315532800<=n.n4/\n.n4<=4102444799
 n5:-1048576<=n.n5/\n.n5<=1048576
 n6:0<=n.n6/\n.n6<=15
 bW:l<=16
 size:n.d7.length<=262144
 FO:n.J.length<=64
 FP:n.bN.length<=4
 bN:∀i,i<n.bN.length->(gW n i).target.length<=262144/\pu n i=0
 gM:gM n.J
theorem ahi{n:aa}{l:Int}(h:one n l=0):N6 n l:=by
 have ae:=FL h;have gg:ua n l=false:=by have:=ae 0 asZ asZ;simp only[eO,vz]at this;split at this<;>simp_all
 have kD:ub n l=false:=by have:=ae 1 asZ asZ;simp only[eO,vA]at this;split at this<;>simp_all
 have lp:uc n=false:=by have:=ae 2 asZ asZ;simp only[eO,vB]at this;split at this<;>simp_all
 have m_:ud n=false:=by have:=ae 3 asZ asZ;simp only[eO,vC]at this;split at this<;>simp_all
 have oS:r8 n=false:=by have:=ae 4 asZ asZ;simp only[eO,vD]at this;split at this<;>simp_all
 have I4:=ae 5 asZ asZ;simp only[eO,nz]at I4;have vI:r9 n l=false:=by split at I4<;>simp_all
 rw[as9 (by rw[vI];simp)]at I4;have Cl:=ae 6 asZ asZ;simp only[eO,Ch]at Cl;have Cm:=ae 7 asZ asZ;simp only[eO,yx]at Cm;simp only[ua,ub,uc,ud,r8,r9,s3,auK,auN,auQ,au6,atK,auM,Bool.not_eq_eq_eq_not,Bool.not_true,Bool.not_false,atd,atS]at gg kD lp m_ oS vI;obtain⟨⟨ahj,ahk⟩,ahl⟩:=lp;obtain⟨⟨⟨⟨⟨ahm,ahn⟩,N7⟩,aho⟩,FQ⟩,ahp⟩:=oS
 have Y:gM n.J:=λi hi=>by
  have:=FL Cm (i+1) asZ asZ;simp only[r_,qh,qi,Nat.add_sub_cancel]at this;by_cases h1:(n.J.getD i default).name=(n.J.getD (i+1) default).name
  ·rw[as_ h1]at this;cases this
  rw[as9 h1]at this;by_cases A:Op.bytesLess (n.J.getD (i+1) default).name (n.J.getD i default).name=true
  ·rw[as_ A]at this;cases this
  cases Z:Op.bytesLess (n.J.getD i default).name (n.J.getD (i+1) default).name with
  |true=>rfl
  |false=>exact absurd (w2 _ _ Z (by simpa using A)) h1
 exact{
  I1:=asZ
  FM:=λe=>by rcases gg.2 with h1|h1<;>first|exact absurd e h1|exact h1
  FN:=λe=>by rcases kD.1 with h1|h1<;>first|exact absurd e h1|exact h1
  I2:=λe=>by rcases kD.2 with h1|h1<;>first|(exact absurd e h1)|exact h1
  file:=λe=>by
   rcases ahj with h1|⟨h1,A⟩
   ·exact absurd h1 e
   exact⟨h1,atm asZ⟩
  I3:=λe=>by rcases ahk with h1|h1<;>first|exact absurd h1 e|exact h1
  bd:=λe=>by
   rcases ahl with h1|h1
   ·exact absurd h1 e
   exact atm asZ
  target:=λe=>by rcases m_ with h1|h1<;>first|exact absurd e h1|exact h1
  cx:=ahm,n2:=ahn,n3:=N7,n4:=aho,n5:=FQ,n6:=ahp
  bW:=asZ
  size:=asZ
  FO:=asZ
  FP:=asZ
  bN:=λi hi=>⟨by
   have:=FL I4 i asZ asZ;simp only[pt]at this;split at this
   ·cases this
   rename_i h1;simp at h1;omega,FL Cl i asZ asZ⟩
  gM:=Y}
theorem AA{n:aa}{l:Int}(h:iK n l=true):N6 n l/\nc n.J (l+1)=true:=by rw[IZ,atd]at h;exact⟨ahi (by simpa using h.1),h.2⟩
theorem V8:∀{ag:List aa} {l:Int},(∀k∈ag,iK k l=true)->nc ag l=true
 |[],l,h=>rfl
 |x::r,l,h=>by simp only[nc,atd];exact⟨h x atk,V8 λk Y=>h k (ato _ Y)⟩
mutual
theorem N8:∀(n:aa) (l:Int),1<=l->iK n l=true->il n
 |.mk a b c d e f g h i j ag cC,l,aj,aV=>by
  obtain⟨h1,A⟩:=AA aV;simp only[il];have gP:ag.length<=64:=h1.FO;have V9:cC.length<=4:=h1.FP;exact⟨gP,by omega,h1.gM,V_ ag (l+1) asZ A⟩
theorem V_:∀(ag:List aa) (l:Int),2<=l->nc ag l=true->xd ag
 |[],l,aj,aV=>trivial
 |k::r,l,aj,aV=>by
  simp only[nc,atd]at aV;simp only[xd];have ax:=(AA aV.1).1.I2 asZ;have:=I0 ax;exact⟨⟨⟨ax,by omega⟩,N8 k l asZ aV.1⟩,V_ r l aj aV.2⟩
end
theorem AB{n:aa}(h:valid n=true):il n:=by rw[vT,atd]at h;exact N8 n 1 (at5 _) h.2
theorem N9(aW:dc B){v:Int}(W:v=2\/v=3):Cx B v (λag=>ag.map aa.name) :=
 ⟨λag gP mz cD=>⟨ag7 aW v W ag gP cD mz,by simp,by
  have:=ag9 mz;rw[at4,au2]
  exact this.imp λh=>s6 h,λm hm=>by
  obtain⟨k,Y,rfl⟩:=aty.1 hm;have:=I0 (cD k Y).1
  omega⟩⟩
def ux:aa:=⟨[],0,[],[],0,0,0,0,0,0,[],[]⟩
def td(aX:List aa->List as8)(v:Int)(n:aa):aa×Int :=
 if j8 v=false then(ux,2)else if valid n=false then(ux,1)else(jw aX v 1 n,0)
theorem N_:aq (.agg [.O [],u 0,.O [],.O [],u 0,u 0,u 0,u 0,u 0,u 0,.bj,.bj]) (aE ux) :=
 aq.agg ⟨E,E,E,E,E,E,E,E,E,E,aq.nil,aq.nil,ai⟩
theorem ahq(aW:dc B)(aX:List aa->List as8)(v:Int)(m':j8 v=true->Cx B v aX)(n:aa)(bH:aB n+n.name.length<10000000)(W:valid n=true->aB n<800000):aU B 267 [u v,aE n,.fn (.func 268) [] []] (.bo [aE (td aX v n).1,u (td aX v n).2]):=by refine bA Tryz.func267 Tryz.ntmps267 λU=>?_;refine ck ?_;intro cT;(conv=>whnf);intro dY;refine p7 ?_;refine⟨[u v],_,λ_=>Fa v,ar,?_⟩;refine aJ _ rfl ?_ ?_<;>intro hc;refine i1 ?_;refine iB ?_;(have h1:j8 v=false:=by simpa using hc);(have A:td aX v n=(ux,2):=by rw[td,as_ h1]);rw[A];refine eB ?_;exact⟨N_,E,ai⟩;apply cr;refine f' ?_;refine eB ?_;refine⟨[aE n],_,λ_=>Ak aW n bH,ar,?_⟩;refine aJ _ rfl ?_ ?_<;>intro hc;refine i1 ?_;refine iB ?_;(have h1:¬j8 v=false:=by intro h;rename_i h0;rw[h]at h0;cases h0);(have Z:valid n=false:=by simpa using hc);(have A:td aX v n=(ux,1):=by rw[td,as9 h1,as_ Z]);rw[A];refine eB ?_;exact⟨N_,E,ai⟩;apply cr;refine lc ?_;(have h1:j8 v=true:=by rename_i h0;simpa using h0);(have Z:valid n=true:=by simpa using hc);have aD:=W Z;refine⟨[u v,FH n [] [],u 1,.fn (.func 268) [] []],_,λ_=>ahe aX v (m' h1) _ n (atX _) (AB Z) [] [] 1 asZ asZ (by simp only[atD];omega) (by simp only[atD];omega),ar,?_⟩;apply cB;refine iB ?_;(have A:td aX v n=(jw aX v 1 n,0):=by rw[td,as9 (by rw[h1];simp),as9 (by rw[Z];simp)]);rw[A];refine eB ?_;exact ar
theorem ahr(aW:dc B)(aX:List aa->List as8)(v:Int)(m':j8 v=true->Cx B v aX)(n:aa)(bH:aB n+n.name.length<10000000)(W:valid n=true->aB n<800000):aU B 208 [u v,aE n] (.bo [aE (td aX v n).1,u (td aX v n).2]):=by refine bA Tryz.func208 Tryz.ntmps208 λU=>?_;refine ck ?_;intro eG;(conv=>whnf);intro cT;refine lc ?_;refine⟨[u v,aE n,.fn (.func 268) [] []],_,λ_=>ahq aW aX v m' n bH W,ar,?_⟩;apply cB;apply Ee;refine eB ?_;exact ar
end Go.bS.cj



namespace Go.bS.cj
open Go Go.Proofs
variable{B:World}
theorem ahs(s:as8)(c:Int):aU B 365 [.O s,.int .u8 c] (u (Lib.indexByte s c.toNat.toUInt8)) :=
 .pure (js Tryz.func365 rfl as3) rfl rfl λw _=>Tryz.strings_IndexByte ⟨⟨s⟩⟩ c w
theorem aht(r:Int):aU B 366 [.int .i32 r] (.bool (Lib.validRune r)) :=
 .pure (js Tryz.func366 rfl as3) rfl rfl λw _=>Tryz.utf8_ValidRune r w
theorem ahu(s p:as8)(hs:s.length<=9223372036854775807):aU B 346 [.O s,.O p] (.O (Lib.trimSuffix s p)) :=
 .pure (js Tryz.func346 rfl as3) rfl rfl λw _=>Tryz.strings_TrimSuffix ⟨⟨s⟩⟩ ⟨⟨p⟩⟩ w hs
theorem N'(i:Nat)(hi:i<100):aU B 226 [u (i:Nat)] (.O (Lib.decDigits i)) :=
 .pure (js Tryz.func226 rfl as3) rfl rfl λw _=>Tryz.strconv_Itoa_small i hi w
def mC:as8:=[42,47,58,59,63,92]
theorem V'{c:UInt8}:∀{l:as8},(∀b∈l,b≠c)->Lib.indexByte l c=-1
 |[],_=>rfl
 |b::l,h=>by have aY:=V' (l:=l) λx I=>h x (ato _ I);unfold Lib.indexByte;rw[as9 (by simpa using h b atk),aY];rfl
theorem Wa:∀b∈mC,b.toNat<128:=by decide +kernel
theorem ahv:∀p,p<6->(Utf8.decode ⟨⟨mC⟩⟩ p).2=1/\(Utf8.decode ⟨⟨mC⟩⟩ p).1<128:=by decide +kernel
theorem ahw(r:Int)(h0:128<=r)(h1:r<=65533)(hs:r<55296\/57343<r):∃(e:as8) (c:UInt8),(Utf8.encode r).data.toList=e/\2<=e.length/\e.length<=4/\e[e.length-1]?=some c/\128<=c.toNat:=by
 have W:Utf8.valid r=true:=by simp[Utf8.valid];omega
 obtain⟨A,Z,aD⟩:=encode_facts r W h0;have hsz:(Utf8.encode r).size=(Utf8.encode r).data.toList.length:=rfl;have bi:(Utf8.encode r).size-1<(Utf8.encode r).size:=asZ
 refine⟨_,_,rfl,by omega,by omega,?_,aD bi⟩;rw[<-hsz,ata asZ];rfl
theorem ahx(r:Int)(h0:128<=r)(h1:r<=65533)(hs:r<55296\/57343<r):aU B 330 [.O mC,.int .i32 r] (u (-1)):=by refine bA Tryz.func330 Tryz.ntmps330 λU=>?_;refine go ?_;refine aJ _ rfl ?_ ?_<;>intro hc;(·exfalso;(have:decide (r<128)=false:=by simp;omega);cases A:decide ((0:Int)<=r)<;>rw[A]at hc<;>first|(cases hc;done)|(rw[this]at hc;cases hc));refine go ?_;refine aJ _ rfl ?_ ?_<;>intro hc;refine go ?_;refine .inr (af.acb rfl rfl λOa=>?_);refine go ?_;refine X.ec (α:={p:Nat // p<=6}) (λx=>[(175,.al (.pointer (some ⟨Oa,0,none⟩)))]) (λx=>[(175,.ch Oa (.stringIter ⟨⟨mC⟩⟩ x.1))]) (λx=>6-x.1) ⟨0,by omega⟩ [(175,175)] ⟨ar,rfl,bb⟩ ?_;rintro⟨p,aw⟩;refine qU ?_;refine .inr (af.acc 175 rfl rfl (λbi=>?_) (λbi=>?_));have E8:p<6:=bi;obtain⟨EX,r3⟩:=ahv p E8;apply ep;refine aJ _ rfl ?_ ?_<;>intro hc;apply cr;apply oK;apply b2;apply b2;refine aJ _ rfl ?_ ?_<;>intro hc;exfalso;(have:(((Utf8.decode ⟨⟨mC⟩⟩ p).1:Nat):Int)=65533:=by simpa using hc);omega;refine go ?_;refine⟨⟨p+1,by omega⟩,[(175,175)],by show 6-(p+1)<6-p;omega,ar,rfl,rfl,?_,ai⟩;exact as' (λV=>some (aI.ch Oa (.stringIter ⟨⟨mC⟩⟩ (p+V)))) EX;cases hc;(conv=>whnf);apply ep;refine aJ _ rfl ?_ ?_<;>intro hc;cases hc;refine go ?_;exact E;refine go ?_;refine bp (aht r) ?_;refine aJ _ rfl ?_ ?_<;>intro hc;exfalso;(have:Lib.validRune r=true:=by simp[Lib.validRune];omega);rw[this]at hc;cases hc;refine X.scope ?_;obtain⟨e,c,ao,nx,Wb,Wc,ara⟩:=ahw r h0 h1 hs;refine go ?_;rw[ao];refine go ?_;have dm:mC.length=6:=rfl;refine X.loop (α:=Unit) (λx=>[(0,.O mC),(7,.O e),(8,u ((e.length:Int)-1)),(9,u ((e.length:Int)-1))]) (λ_=>[]) (λx=>0) () ar trivial ?_;rintro⟨⟩;(have p_:((e.length:Int)-1).toNat=e.length-1:=by omega);have tE:mC[e.length-1]?=some (mC[e.length-1]' asZ):=ata asZ;have l_:=Wa _ (ate (l:=mC) (n:=e.length-1) asZ);refine go ?_;refine aJ _ rfl ?_ ?_<;>intro hc;apply cr;(have w8:(e.length:Int)-1<6:=by omega);apply oK;refine X.scope ?_;apply ep;refine oL ?_;refine go ?_;refine⟨mC[e.length-1]' asZ,λ_=>⟨by omega,by rw[p_];exact tE⟩,?_⟩;refine go ?_;refine⟨c,λ_=>⟨by omega,by rw[p_];exact Wc⟩,?_⟩;refine go ?_;refine aJ _ rfl ?_ ?_<;>intro hc;refine oL ?_;refine lb ?_;refine⟨λ_=>by rw[dm];omega,?_⟩;refine go ?_;refine⟨c,λ_=>⟨by omega,by rw[p_];exact Wc⟩,?_⟩;refine go ?_;refine⟨[.O ((mC.take ((mC.length:Nat):Int).toNat).drop ((e.length:Int)-1+1).toNat),.int .u8 c.toNat],u (-1),λ_=>by have:=ahs (B:=B) ((mC.take ((mC.length:Nat):Int).toNat).drop ((e.length:Int)-1+1).toNat) c.toNat;rw[V' (λb F ahy=>by have A:=Wa b (aud (avp F));rw[ahy]at A;(have Z:((c.toNat:Int).toNat.toUInt8).toNat=c.toNat:=by simp);omega)]at this;exact this,ar,?_⟩;refine f' ?_;refine aJ _ rfl ?_ ?_<;>intro hc;refine go ?_;exact E;cases hc;exfalso;(have:((mC[e.length-1]' asZ).toNat:Int)=(c.toNat:Int):=by simpa using hc);omega;exfalso;rw[dm]at hc;simp at hc;omega
def yL(r:Int):Bool:=r==42||r==47||r==58||r==59||r==63||r==92
theorem ahz:∀n:Nat,n<128->decide (0<=Lib.indexByte mC ((n:Int).toNat.toUInt8))=yL n:=by decide +kernel
theorem sg(r:Int):en r=true↔32<=r/\r<=65533/\(r<55296\/57343<r):=by simp[en]
theorem ahA(r:Int)(h:en r=true):aU B 344 [.O mC,.int .i32 r] (.bool (yL r)):=by obtain⟨h1,A,Z⟩:=(sg r).1 h;by_cases Ob:r<128;(have ax:r=(r.toNat:Int):=by omega);have:=ahz r.toNat asZ;rw[<-ax]at this;rw[<-this];exact .pure (js Tryz.func344 rfl as3) rfl rfl λw _=>Tryz.strings_ContainsRune_ascii ⟨⟨mC⟩⟩ r w asZ Ob;(have mh:yL r=false:=by simp[yL];omega);rw[mh];refine bA Tryz.func344 Tryz.ntmps344 λU=>?_;refine go ?_;refine bp (ahx r asZ A Z) ?_;exact E
def lu(r:Int):Int:=if yL r then 95 else r
theorem ahB(r:Int)(h:en r=true):aU B 298 [.int .i32 r] (.int .i32 (lu r)):=by refine bA Tryz.func298 Tryz.ntmps298 λU=>?_;refine go ?_;refine bp (ahA r h) ?_;refine aJ _ rfl ?_ ?_<;>intro hc;refine go ?_;exact aq.of_eq (as' (D.int .i32) (by rw[lu,as_ hc]));refine go ?_;exact aq.of_eq (as' (D.int .i32) (by rw[lu,as9 (by rw[hc];simp)]))
def uy(c:Int):Bool:=((decide (65<=c)&&decide (c<=90))||(decide (48<=c)&&decide (c<=57)))||c==95
theorem ahC(c:Int):aU B 371 [.int .u8 c] (.bool (uy c)):=by refine bA Tryz.func371 Tryz.ntmps371 λU=>?_;refine go ?_;exact aq.of_eq (as' D.bool (by simp only[ju,pq];rfl))
def q'(c:UInt8):Bool:=uy c.toNat
def uz(s:as8):Bool:=decide (s.length<=65536)&&s.all q'
theorem ahD(s:as8):aU B 370 [.O s,.Q .dR 1 [.fn (.func 371) [] []]] (.bool (uz s)):=by refine bA Tryz.func370 Tryz.ntmps370 λU=>?_;refine go ?_;refine aJ _ rfl ?_ ?_<;>intro hc;refine go ?_;(have h1:decide (s.length<=65536)=false:=by simp at hc⊢;omega);exact aq.of_eq (as' D.bool (by rw[uz,h1];rfl));refine go ?_;(have h1:s.length<=65536:=by simp at hc;omega);refine go ?_;refine X.loop (α:={i:Nat // i<=s.length/\(s.take i).all q'=true}) (λx=>[(0,.O s),(1,.Q .dR 1 [.fn (.func 371) [] []]),(13,u s.length),(14,u x.1)]) (λ_=>[]) (λx=>s.length-x.1) ⟨0,by simp⟩ ar trivial ?_;rintro⟨i,hi,hC⟩;refine go ?_;refine aJ _ rfl ?_ ?_<;>intro hc;refine go ?_;(have aH:i<s.length:=by simpa using hc);(have ahE:s.take (i+1)=s.take i++[s[i]]:=by rw[au',ata aH];rfl);refine go ?_;refine X.loop (α:={y:Nat // y<=1}) (λy=>[(0,.O s),(1,.Q .dR 1 [.fn (.func 371) [] []]),(13,u s.length),(14,u i),(5,u i),(6,.bool (decide (y.1=1)&&q' s[i])),(17,.Q .dR 1 [.fn (.func 371) [] []]),(18,u 1),(19,u y.1)]) (λ_=>[]) (λy=>1-y.1) ⟨0,by omega⟩ ar trivial ?_;rintro⟨y,hy⟩;refine go ?_;refine aJ _ rfl ?_ ?_<;>intro hc;apply cr;(have Ey:y=0:=by simp at hc;omega);subst Ey;refine gK ?_;refine nX ?_;refine x6 (.fn (.func 371) [] []) ?_;refine go ?_;refine⟨s[i],λh=>⟨by omega,by simp[aH]⟩,?_⟩;refine go ?_;refine bp (ahC _) ?_;exact⟨⟨1,atg _⟩,by show 1-1<1-0;omega,ar,ai⟩;refine go ?_;(have NQ:y=1:=by simp at hc;omega);subst NQ;refine go ?_;refine aJ _ rfl ?_ ?_<;>intro hc;refine go ?_;(have A:q' s[i]=false:=by simpa using hc);(have Z:s.all q'=false:=by rw[List.all_eq_false];exact⟨s[i],ate aH,by rw[A];simp⟩);exact aq.of_eq (as' D.bool (by rw[uz,Z,Bool.and_false]));refine go ?_;(have A:q' s[i]=true:=by simpa using hc);exact⟨⟨i+1,aH,by rw[ahE,List.all_append,hC];simp[A]⟩,by show _-(i+1)<_-i;omega,ar,ai⟩;refine go ?_;(have cd:i=s.length:=by simp at hc;omega);subst cd;rw[ati]at hC;exact aq.of_eq (as' D.bool (by rw[uz,hC];simp[h1]))
theorem Wd(s:as8):aU B 345 [.O s] (.bool (uz s)):=by refine bA Tryz.func345 Tryz.ntmps345 λU=>?_;refine go ?_;refine bp (ahD s) ?_;exact E
theorem Oc(r:Int)(h0:0<=r)(h1:r<128):(Utf8.encode r).data.toList=[UInt8.ofNat r.toNat]:=by
 have W:Utf8.valid r=true:=by simp[Utf8.valid];omega
 unfold Utf8.encode;simp only[W,aum];rw[as_ asZ]
def h8(r:Int):Int:=if 97<=r/\r<=122 then r-97+65 else if r<128/\uy r=true then r else 95
theorem ahF(r:Int)(h0:0<=r)(ae:r<=1114111):aU B 299 [.int .i32 r] (.int .i32 (h8 r)):=by refine bA Tryz.func299 Tryz.ntmps299 λU=>?_;refine go ?_;refine aJ _ rfl ?_ ?_<;>intro hc;refine go ?_;(have FR:97<=r/\r<=122:=by rw[ju]at hc;simpa using hc);refine go ?_;exact aq.of_eq (as' (D.int .i32) (by rw[h8,as_ FR]));refine go ?_;skip;refine go ?_;refine⟨[.O (Utf8.encode r).data.toList],.bool (uy r),λh=>by(have bi:r<128:=by simpa using h);have:=Wd (B:=B) (Utf8.encode r).data.toList;(have e:uz (Utf8.encode r).data.toList=uy r:=by rw[Oc r h0 bi];simp only[uz,q',avO,List.all_nil,Bool.and_true,List.length_singleton];(have:((UInt8.ofNat r.toNat).toNat:Int)=r:=by rw[avx];omega);rw[this];simp);rw[e]at this;exact this,ar,?_⟩;refine go ?_;refine aJ _ rfl ?_ ?_<;>intro hc;refine go ?_;(have FR:¬(97<=r/\r<=122):=by rename_i ic;rw[ju]at ic;simpa using ic);(have A:r<128/\uy r=true:=by rw[ju]at hc;simpa using hc);exact aq.of_eq (as' (D.int .i32) (by rw[h8,as9 FR,as_ A]));refine go ?_;(have FR:¬(97<=r/\r<=122):=by rename_i ic;rw[ju]at ic;simpa using ic);(have A:¬(r<128/\uy r=true):=by rw[ju]at hc;simpa using hc);exact aq.of_eq (as' (D.int .i32) (by rw[h8,as9 FR,as9 A]))
theorem ahG(n:Nat)(h:n<=65533)(hs:n<55296\/57343<n):(Utf8.encode (n:Int)).data.toList=Lib.encodeRune n:=by(have W:Utf8.valid (n:Int)=true:=by simp[Utf8.valid];omega);unfold Utf8.encode Lib.encodeRune Lib.encodeRuneZ;simp only[W,aum,atE];(have bH:∀a b:Nat,UInt8.ofNat (a+b)=((a:Int)+(b:Int)).toNat.toUInt8:=λa b=>by(have:((a:Int)+(b:Int)).toNat=a+b:=by omega);rw[this]);by_cases h1:n<128;rw[as_ h1,as_ (show 0<=(n:Int)/\(n:Int)<=127 by omega)];simp;rw[as9 h1,as9 (show¬(0<=(n:Int)/\(n:Int)<=127) by omega)];by_cases A:n<2048;rw[as_ A,as_ (show 128<=(n:Int)/\(n:Int)<=2047 by omega)];show[UInt8.ofNat (192+n/64),UInt8.ofNat (128+n%64)]=_;rw[bH,bH];simp;rw[as9 A,as9 (show¬(128<=(n:Int)/\(n:Int)<=2047) by omega),as_ (show n<65536 by omega),as_ (show 2048<=(n:Int)/\(n:Int)<55296\/57343<(n:Int)/\(n:Int)<=65535 by omega)];show[UInt8.ofNat (224+n/4096),UInt8.ofNat (128+n/64%64),UInt8.ofNat (128+n%64)]=_;rw[bH,bH,bH];simp
variable{s:as8}
theorem Od(hs:s≠[]):dO s=Lib.decodeL s:=by unfold dO Lib.decodeGo Lib.decodeL;rw[as9 (show¬(⟨⟨s⟩⟩:ByteArray).size=0 from λe=>hs (atm e))]
theorem ahH(s:as8)(i:Nat)(h:i<s.length):Utf8.decode ⟨⟨s⟩⟩ i=dO (s.drop i):=by
 have a6:s.drop i≠[]:=λe=>by have:=as' List.length e;simp at this;omega
 rw[Od a6];exact(Lib.decodeL_drop ⟨⟨s⟩⟩ i).symm
theorem We(h:l0 s=false):en (dO s).1=true/\¬((dO s).1=65533/\(dO s).2=1):=by simp only[l0,auK,au6,auN,atK]at h;exact⟨h.1,λ⟨h1,A⟩=>by rcases h.2 with Z|Z<;>contradiction⟩
theorem ahI(hs:s≠[])(h:l0 s=false):(Utf8.encode ((dO s).1:Int)).data.toList=s.take (dO s).2:=by obtain⟨h1,A⟩:=We h;obtain⟨Z,aD,bc⟩:=(sg _).1 h1;rw[ahG _ asZ asZ,Od hs,Lib.encode_decode s hs (by rw[<-Od hs];exact A)]
theorem Cz:∀(n:Nat) (s:as8) (l:List Int),s.length<=n->jt s=some l->cw l=s/\∀r∈l,en r=true
 |0,s,l,ax,hc=>by have:s=[]:=atm asZ;subst this;cases hc;exact⟨rfl,λr ae=>by cases ae⟩
 |n+1,s,l,ax,hc=>by by_cases hs:s=[];subst hs;cases hc;exact⟨rfl,λr ae=>by cases ae⟩;obtain⟨h1,A,_⟩:=wY s hs;rw[yp hs]at hc;cases F:l0 s with|true=>rw[F]at hc;cases hc|false =>rw[F]at hc;simp only[auk,auU,auj]at hc;obtain⟨i7,mM,rfl⟩:=hc;have aY:=Cz n (s.drop (dO s).2) i7 as0 mM;refine⟨?_,λr ae=>?_⟩;simp only[cw,auc];rw[ahI hs F];have:cw i7=s.drop (dO s).2:=aY.1;simp only[cw]at this;rw[this,auz];rcases atu.1 ae with rfl|ae;exact(We F).1;exact aY.2 r ae
theorem Wf(s:as8):∀(f i:Nat) (l:List Int),i<=s.length->s.length-i<=f->jt (s.drop i)=some l->sB ⟨⟨s⟩⟩ f i=l
 |0,i,l,hi,M,hc=>by have:s.drop i=[]:=avV asZ;rw[this]at hc;cases hc;rfl
 |f+1,i,l,hi,M,hc=>by have hsz:(⟨⟨s⟩⟩:ByteArray).size=s.length:=rfl;simp only[sB,hsz];by_cases bi:i<s.length;(have a6:s.drop i≠[]:=λe=>by have:=as' List.length e;simp at this;omega);obtain⟨h1,A,_⟩:=wY (s.drop i) a6;rw[yp a6]at hc;(cases F:l0 (s.drop i)with|true=>rw[F]at hc;cases hc|false =>rw[F]at hc;simp only[auk,auU,auj]at hc;obtain⟨i7,mM,rfl⟩:=hc;rw[as_ bi,ahH s i bi];rw[aul]at A;rw[List.drop_drop]at mM;rw[Wf s f (i+(dO (s.drop i)).2) i7 asZ asZ mM];rfl);have:s.drop i=[]:=avV asZ;rw[this]at hc;cases hc;rw[as9 bi]
theorem I5{l:List Int}(h:jt s=some l):h' s=l :=
 Wf s s.length 0 l (atq _) asZ (by simpa using h)
theorem I6(h:dQ s=true):∃l,jt s=some l/\(chars s).1=l/\(chars s).2=0/\1<=l.length/\l.length<=64:=by simp only[dQ]at h;split at h;cases h;simp only[atd,atS,auM]at h;obtain⟨h1,A,Z⟩:=h;simp only[chars]at h1 A Z⊢;split at h1;cases h1;rename_i aj;rw[as9 aj]at A Z;cases hc:jt s with|none=>rw[hc]at h1;cases h1|some l=>rw[hc]at A Z;exact⟨l,rfl,by rw[as9 aj],by rw[as9 aj],A,Z⟩
theorem AC(a b:List Int):cw (a++b)=cw a++cw b:=by simp[cw]
def dz(l:List Int):List D:=l.map (D.int .i32)
def nd(s:as8):Int:=Lib.lastIndexByte ⟨⟨s⟩⟩ 46
def sh(v:Int)(s:as8):Bool:=(decide (0<nd s)&&decide (nd s<(s.length:Int)-1))&&(v==0||decide (((h' (s.drop (nd s+1).toNat)).length:Int)<=16))
def hh(v:Int)(s:as8)(bd:Bool):as8×as8 :=
 if bd=true then(s,[])else if sh v s=true then(s.take (nd s).toNat,s.drop (nd s+1).toNat)
 else if v=0/\1<s.length then(Lib.trimSuffix s [46],[])else(s,[])
theorem Oe(s:as8)(i:Nat):(s.take ((s.length:Nat):Int).toNat).drop i=s.drop i:=by simp
theorem Wg(s:as8):∀f i,(sB ⟨⟨s⟩⟩ f i).length<=f
 |0,_=>by simp[sB]
 |f+1,i=>by simp only[sB];split;have:=Wg s f (i+(Utf8.decode ⟨⟨s⟩⟩ i).2);simp;omega;simp
theorem FS(s:as8):(h' s).length<=s.length:=Wg s _ _
theorem ahJ(v:Int)(s:as8)(bd:Bool)(hs:s.length<1000000000):aU B 300 [u v,.O s,.bool bd] (.bo [.O (hh v s bd).1,.O (hh v s bd).2]):=by refine bA Tryz.func300 Tryz.ntmps300 λU=>?_;refine go ?_;refine aJ _ rfl ?_ ?_<;>intro hc;refine go ?_;(have h1:hh v s bd=(s,[]):=by rw[hh,as_ hc]);rw[h1];exact ar;apply cr;(have vU:¬bd=true:=by rw[hc];simp);(conv=>whnf);refine X.lL (α:={x:Unit // sh v s=false}) (λx=>[(0,u v),(1,.O s)]) (λx=>[]) ?_ ?_;refine ck ?_;refine⟨[.O s,.int .u8 46],u (nd s),λ_=>TP s 46 asZ,ar,?_⟩;apply b2;apply g8;apply g8;refine g9 ?_;refine nY ?_;refine aJ _ rfl ?_ ?_<;>intro hc;apply ep;(have F:(decide (0<nd s)&&decide (nd s<(s.length:Int)-1))=true:=by rw[ju]at hc;exact hc);(have mS:0<nd s/\nd s<(s.length:Int)-1:=by simpa using F);refine np ?_;refine⟨λ_=>by omega,?_⟩;refine go ?_;refine⟨by simp;omega,?_⟩;refine go ?_;refine aJ _ rfl ?_ ?_<;>intro hc;apply ep;(have yM:sh v s=true:=by rw[sh,F,av6,<-pq];rw[Oe]at hc;simpa using hc);refine m0 ?_;refine⟨λ_=>by omega,?_⟩;refine go ?_;rw[Oe];(have h1:hh v s bd=(s.take (nd s).toNat,s.drop (nd s+1).toNat):=by rw[hh,as9 vU,as_ yM]);rw[h1];exact ar;refine go ?_;(have yM:sh v s=false:=by rw[sh,F,av6,<-pq];rw[Oe]at hc;simpa using hc);exact⟨⟨(),yM⟩,[],ar,rfl,ai⟩;refine go ?_;(have yM:sh v s=false:=by rw[ju]at hc;have F:(decide (0<nd s)&&decide (nd s<(s.length:Int)-1))=false:=hc;rw[sh,F,Bool.false_and]);exact⟨⟨(),yM⟩,[],ar,rfl,ai⟩;rintro⟨_,yM⟩;refine go ?_;refine aJ _ rfl ?_ ?_<;>intro hc;refine go ?_;refine bp (ahu s [46] asZ) ?_;(have vq:v=0/\(1:Int)<s.length:=by rw[ju]at hc;simpa using hc);have A:v=0/\1<s.length:=⟨vq.1,by omega⟩;(have h1:hh v s bd=(Lib.trimSuffix s [46],[]):=by rw[hh,as9 vU,as9 (by rw[yM];simp),as_ A]);rw[h1];exact ar;refine go ?_;(have vq:v=0->(s.length:Int)<=1:=by rw[ju]at hc;simpa using hc);(have A:¬(v=0/\1<s.length):=λ⟨Z,aD⟩=>by have:=vq Z;omega);(have h1:hh v s bd=(s,[]):=by rw[hh,as9 vU,as9 (by rw[yM];simp),as9 A]);rw[h1];exact ar
theorem map_set(f:Int->Int)(l:List Int){i:Nat}(h:i<l.length):(((l.take i).map f++l.drop i).map (D.int .i32)).set i (.int .i32 (f l[i]))=((l.take (i+1)).map f++l.drop (i+1)).map (D.int .i32):=by
 have e:l.drop i=l[i]::l.drop (i+1):=aue h;have b':l.take (i+1)=l.take i++[l[i]]:=by rw[au',ata h];rfl
 rw[e,b'];simp only[atO,atG,auT,atL,awv];rw[List.set_append_right _ _ as0];have:i-(List.map (D.int .i32) (List.map f (List.take i l))).length=0:=by simp;omega
 rw[this];rfl
theorem Wh(s:as8)(b7:Nat)(f:Int->Int)(hs:s.length<1000000000)(M:∀r∈h' s,aU B b7 [.int .i32 r] (.int .i32 (f r))):aU B 301 [.O s,.fn (.func b7) [] []] (.Q .none 1 (dz ((h' s).map f))):=by refine bA Tryz.func301 Tryz.ntmps301 λU=>?_;apply b2;refine qU ?_;refine .inr (af.aca aM rfl rfl rfl rfl rfl rfl rfl asZ λbQ cap=>?_);refine ns ?_;have hZ:=FS s;generalize aW:h' s=L at*;refine X.ec (α:={i:Nat // i<=L.length}) (λx=>[(1,.fn (.func b7) [] []),(5,.al (.slice bQ L.length cap)),(10,.al (.slice bQ L.length cap)),(11,u L.length),(12,u x.1)]) (λx=>[(9,.row (.slice bQ L.length cap) (((L.take x.1).map f++L.drop x.1).map (D.int .i32)) 1 21)]) (λx=>L.length-x.1) ⟨0,by omega⟩ [(9,9)] ⟨ar,rfl,bb⟩ ?_;rintro⟨i,hi⟩;dsimp only;refine go ?_;refine aJ _ rfl ?_ ?_<;>intro hc;refine go ?_;(have aH:i<L.length:=by simpa using hc);(have hlen:(((L.take i).map f++L.drop i).map (D.int .i32)).length=L.length:=by simp;omega);(have h4:(((L.take i).map f++L.drop i).map (D.int .i32))[i]?=some (.int .i32 L[i]):=by rw[atA,atJ as0];(have:i-(List.map f (List.take i L)).length=0:=by simp;omega);rw[this];simp[aH]);refine go ?_;refine .inr (af.ej aM 9 rfl rfl rfl rfl rfl rfl rfl asZ (by rw[hlen];omega) ?_);refine go ?_;refine .inr (af.la aM 9 (i:=i) as5 rfl rfl h4 ?_);refine go ?_;refine bp (M _ (ate aH)) ?_;refine .inr (af.ej aM 9 rfl rfl rfl rfl rfl rfl rfl asZ (by rw[hlen];omega) ?_);refine go ?_;refine .inr (af.mg aM 9 (i:=i) as5 rfl rfl rfl (by rw[hlen];omega) rfl ?_);refine go ?_;exact⟨⟨i+1,by omega⟩,[(9,9)],by show _-(i+1)<_-i;omega,ar,rfl,rfl,as' (λV=>some (aI.row (.slice bQ L.length cap) V 1 21)) (map_set f L aH),ai⟩;refine wM ?_;(have cd:i=L.length:=by simp at hc;omega);(have dM:((L.take i).map f++L.drop i).map (D.int .i32)=dz (L.map f):=by subst cd;simp[dz]);rw[dM];refine X.fb [(5,.al (.slice bQ L.length cap))] [(9,.row (.slice bQ L.length cap) (dz (L.map f)) 1 21)] [(9,9)] ⟨ar,rfl,bb⟩ ?_;refine X.vm 9 5 rfl ?_;refine go ?_;exact E
theorem ahK(n:Nat)(h:n<=65533)(hs:n<55296\/57343<n)(rest:as8):dO ((Utf8.encode (n:Int)).data.toList++rest)=(n,(Utf8.encode (n:Int)).data.toList.length):=by(have W:Utf8.valid (n:Int)=true:=by simp[Utf8.valid];omega);(have gr:∀x:Nat,x<256->(UInt8.ofNat x).toNat=x:=λx I=>by rw[avx];omega);by_cases h1:n<128;(have e:(Utf8.encode (n:Int)).data.toList=[UInt8.ofNat n]:=by unfold Utf8.encode;simp only[W,aum,atE];rw[as_ h1]);rw[e,E1 as1];simp only[awv,ath,List.getD_cons_zero,atD,Ae];rw[gr n asZ,as_ h1];by_cases A:n<2048;(have e:(Utf8.encode (n:Int)).data.toList=[UInt8.ofNat (192+n/64),UInt8.ofNat (128+n%64)]:=by unfold Utf8.encode;simp only[W,aum,atE];rw[as9 h1,as_ A]);rw[e,E1 as1];simp only[auh,auw,ath,List.getD_cons_zero,List.getD_cons_succ,atD,Ae];rw[gr (192+n/64) asZ,gr (128+n%64) asZ];rw[as9 asZ,as_ ⟨by omega,by omega,by omega⟩,as_ asZ];exact Prod.ext (by dsimp only;omega) rfl;(have e:(Utf8.encode (n:Int)).data.toList=[UInt8.ofNat (224+n/4096),UInt8.ofNat (128+n/64%64),UInt8.ofNat (128+n%64)]:=by unfold Utf8.encode;simp only[W,aum,atE];rw[as9 h1,as9 A,as_ asZ]);rw[e,E1 as1];simp only[auh,auw,ath,List.getD_cons_zero,List.getD_cons_succ,atD,Ae];rw[gr (224+n/4096) asZ,gr (128+n/64%64) asZ,gr (128+n%64) asZ];rw[as9 asZ,as9 asZ,as_ ⟨by omega,⟨by omega,by omega⟩,by omega,by omega⟩,as_ ⟨by omega,by omega⟩];exact Prod.ext (by dsimp only;omega) rfl
theorem Wi(r:Int):(Utf8.encode r).data.toList≠[]:=by intro h;unfold Utf8.encode at h;dsimp only at h;generalize(if Utf8.valid r=true then r.toNat else Utf8.runeError)=c at h;by_cases h1:c<128;rw[as_ h1]at h;cases h;rw[as9 h1]at h;by_cases A:c<2048;rw[as_ A]at h;cases h;rw[as9 A]at h;by_cases Z:c<65536;rw[as_ Z]at h;cases h;rw[as9 Z]at h;cases h
theorem yN:∀(l:List Int),(∀r∈l,en r=true)->jt (cw l)=some l
 |[],_=>rfl
 |r::l,h=>by obtain⟨h1,A,Z⟩:=(sg r).1 (h r atk);have aY:=yN l λx I=>h x (ato _ I);obtain⟨n,rfl⟩:∃n:Nat,r=n:=⟨r.toNat,by omega⟩;have N:=ahK n asZ asZ (cw l);(have e:cw ((n:Int)::l)=(Utf8.encode (n:Int)).data.toList++cw l:=by simp[cw]);rw[e];have a6:(Utf8.encode (n:Int)).data.toList++cw l≠[]:=λh=>Wi _ (awl.1 h).1;rw[yp a6,N];(have F:l0 ((Utf8.encode (n:Int)).data.toList++cw l)=false:=by simp only[l0,N,h (n:Int) atk,Bool.not_true,Bool.false_or,auN,atK];by_cases bc:n=65533;subst bc;right;decide +kernel;left;exact bc);rw[F];simp[aY]
variable{r:Int}{i:Nat}
theorem ahL(h:en r=true)(hi:(Utf8.encode r).data.toList[i]?=some 46):r=46/\i=0:=by obtain⟨h1,A,Z⟩:=(sg r).1 h;obtain⟨n,rfl⟩:∃n:Nat,r=n:=⟨r.toNat,by omega⟩;(have gr:∀x:Nat,x<256->(UInt8.ofNat x).toNat=x:=λx I=>by rw[avx];omega);(have a6:∀x:Nat,x<256->128<=x->UInt8.ofNat x≠46:=λx I Ob e=>by have:=as' UInt8.toNat e;rw[gr x I]at this;have Wj:(46:UInt8).toNat=46:=rfl;omega);(have W:Utf8.valid (n:Int)=true:=by simp[Utf8.valid];omega);by_cases lW:n<128;(have e:(Utf8.encode (n:Int)).data.toList=[UInt8.ofNat n]:=by unfold Utf8.encode;simp only[W,aum,atE];rw[as_ lW]);rw[e]at hi;(match i,hi with|0,hi =>(have:UInt8.ofNat n=46:=by simpa using hi);have:=as' UInt8.toNat this;rw[gr n asZ]at this;have Wj:(46:UInt8).toNat=46:=rfl;exact⟨by omega,rfl⟩|i+1,hi=>simp at hi);exfalso;by_cases A:n<2048;(have e:(Utf8.encode (n:Int)).data.toList=[UInt8.ofNat (192+n/64),UInt8.ofNat (128+n%64)]:=by unfold Utf8.encode;simp only[W,aum,atE];rw[as9 lW,as_ A]);rw[e]at hi;(match i,hi with|0,hi=>exact a6 (192+n/64) asZ asZ (by simpa using hi)|1,hi=>exact a6 (128+n%64) asZ asZ (by simpa using hi)|i+2,hi=>simp at hi);(have e:(Utf8.encode (n:Int)).data.toList=[UInt8.ofNat (224+n/4096),UInt8.ofNat (128+n/64%64),UInt8.ofNat (128+n%64)]:=axr);rw[e]at hi;match i,hi with|0,hi=>exact a6 (224+n/4096) asZ asZ (by simpa using hi)|1,hi=>exact a6 (128+n/64%64) asZ asZ (by simpa using hi)|2,hi=>exact a6 (128+n%64) asZ asZ (by simpa using hi)|i+3,hi=>simp at hi
theorem I7:∀(l:List Int),(∀r∈l,en r=true)->∀i,(cw l)[i]?=some 46->∃dH cs,l=dH++46::cs/\(cw dH).length=i
 |[],_,i,h=>by simp[cw]at h
 |r::l,aj,i,h=>by(have e:cw (r::l)=(Utf8.encode r).data.toList++cw l:=by simp[cw]);rw[e,awz]at h;split at h;obtain⟨rfl,rfl⟩:=ahL (aj r atk) h;exact⟨[],l,rfl,rfl⟩;rename_i hi;obtain⟨dH,cs,rfl,hlen⟩:=I7 l (λx I=>aj x (ato _ I)) _ h;refine⟨r::dH,cs,rfl,?_⟩;(have e:cw (r::dH)=(Utf8.encode r).data.toList++cw dH:=by simp[cw]);rw[e,atf,hlen];omega
theorem Wk:(Utf8.encode 46).data.toList=[46]:=by decide +kernel
theorem ahM{l:List Int}(hc:jt s=some l): (nd s=-1/\(46:Int)∉l)\/∃dH cs,l=dH++46::cs/\(46:Int)∉cs/\nd s=(cw dH).length/\s=cw dH++46::cw cs:=by obtain⟨F,kZ⟩:=Cz s.length s l (atg _) hc;(have mQ:∀dH cs:List Int,l=dH++46::cs->s=cw dH++46::cw cs:=λdH cs e=>by rw[<-F,e,AC];(have:cw (46::cs)=(Utf8.encode 46).data.toList++cw cs:=by simp[cw]);rw[this,Wk];rfl);(have h4:∀j,(ad:j<s.length)->(⟨⟨s⟩⟩:ByteArray).data[j]! = s[j]:=λj ad=>by simp[ad]);have hsz:(⟨⟨s⟩⟩:ByteArray).size=s.length:=rfl;rcases Lib.lastIndexByte_spec ⟨⟨s⟩⟩ 46 with⟨h1,A⟩|⟨i,hi,h1,A,Z⟩;refine .inl ⟨h1,λh=>?_⟩;obtain⟨dH,cs,e⟩:=List.append_of_mem h;have hs:=mQ dH cs e;(have bi:(cw dH).length<s.length:=by rw[hs];simp);have:=A (cw dH).length (by rw[hsz];exact bi);rw[h4 _ bi]at this;apply this;(have:s[(cw dH).length]=46:=by simp[hs]);rw[this];rfl;rw[hsz]at hi;rw[h4 i hi]at A;(have Wl:s[i]?=some 46:=by rw[ata hi];congr 1;apply UInt8.toNat_inj.1;have Wj:(46:UInt8).toNat=46:=rfl;omega);rw[<-F]at Wl;obtain⟨dH,cs,e,hlen⟩:=I7 l kZ i Wl;have hs:=mQ dH cs e;refine .inr ⟨dH,cs,e,λh=>?_,by rw[nd,h1,hlen],hs⟩;obtain⟨ut,IX,b'⟩:=List.append_of_mem h;have jn:=mQ (dH++46::ut) IX (by rw[e,b'];simp);(have bi:(cw (dH++46::ut)).length<s.length:=by rw[jn];simp);(have ahN:i<(cw (dH++46::ut)).length:=by rw[AC,atf,hlen];(have:cw (46::ut)=(Utf8.encode 46).data.toList++cw ut:=by simp[cw]);rw[this,Wk];simp);have:=Z _ ahN (by rw[hsz];exact bi);rw[h4 _ bi]at this;apply this;(have:s[(cw (dH++46::ut)).length]=46:=by(have:s[(cw (dH++46::ut)).length]?=some 46:=by rw[jn];simp);rw[ata bi]at this;exact at3 this);rw[this];rfl
def kE:List Int->Int
 |[]=>-1
 |x::r=>if 0<=kE r then kE r+1 else if x=46 then 0 else -1
theorem Of:∀{l:List Int},(46:Int)∉l->kE l=-1
 |[],_=>rfl
 |x::r,h=>by have aY:=Of (l:=r) λbz=>h (ato _ bz);simp only[kE];rw[aY,as9 asZ,as9 (λe=>h (by rw[e];exact atk))]
theorem Wm:∀(dH:List Int) {cs:List Int},(46:Int)∉cs->kE (dH++46::cs)=dH.length
 |[],cs,h=>by simp[kE,Of h]
 |x::dH,cs,h=>by have aY:=Wm dH h;simp only[auh,kE,aY,ath];rw[as_ asZ];omega
def gY(v:Int)(l:List Int)(bd:Bool):List Int×List Int :=
 if bd=false/\0<kE l/\kE l<(l.length:Int)-1/\(v=0\/(l.length:Int)-1-kE l<=16)then(l.take (kE l).toNat,l.drop (kE l+1).toNat)
 else if bd=false/\v=0/\0<kE l/\kE l=(l.length:Int)-1 then(l.take (kE l).toNat,[])else(l,[])
theorem I8{l:List Int}:cw l=[]↔l=[]:=by cases l with|nil=>simp[cw]|cons r l =>(have:cw (r::l)=(Utf8.encode r).data.toList++cw l:=by simp[cw]);rw[this];simp only[awl,reduceCtorEq,iff_false];exact λh=>Wi r h.1
theorem ahO(a:as8):Lib.trimSuffix (a++[46]) [46]=a:=by simp[Lib.trimSuffix,Lib.hasSuffix]
theorem Wn(h:∀a,s≠a++[46]):Lib.trimSuffix s [46]=s:=by unfold Lib.trimSuffix;rw[as9];intro hs;(have:([46]:as8) <:+ s:=by simp only[Lib.hasSuffix]at hs;exact avC.1 hs);obtain⟨a,ha⟩:=this;exact h a ha.symm
theorem Og(v:Int){l:List Int}(hc:jt s=some l)(bd:Bool): h' (hh v s bd).1=(gY v l bd).1/\h' (hh v s bd).2=(gY v l bd).2/\((hh v s bd).2=[]↔(gY v l bd).2=[]):=by have ae:=I5 hc;have h0:h' []=[]:=rfl;obtain⟨F,kZ⟩:=Cz s.length s l (atg _) hc;cases bd with|true =>simp only[hh,gY,aum,Bool.true_eq_false,false_and,auU,ae,h0,and_self,iff_self]|false =>rcases ahM hc with⟨h1,A⟩|⟨dH,cs,e,A,Z,aD⟩;have N:=Of A;(have I9:sh v s=false:=by simp[sh,h1]);(have au:Lib.trimSuffix s [46]=s:=Wn λa ha=>by(have:(cw l)[a.length]?=some 46:=by rw[F,ha];simp);obtain⟨dH,cs,e,_⟩:=I7 l kZ _ this;exact A (by rw[e];simp));(have aw:gY v l false=(l,[]):=by simp[gY,N]);rw[aw];simp only[hh,auk,auU,I9,au];split<;>simp[ae,h0];have N:=Wm dH A;rw[<-e]at N;have fc:∀r∈dH,en r=true:=λr ae=>kZ r (by rw[e];simp[ae]);have bs:∀r∈cs,en r=true:=λr ae=>kZ r (by rw[e];simp[ae]);have Aw:h' (cw dH)=dH:=I5 (yN dH fc);have qW:h' (cw cs)=cs:=I5 (yN cs bs);(have mW:l.length=dH.length+1+cs.length:=by rw[e];simp;omega);(have eS:s.length=(cw dH).length+1+(cw cs).length:=by rw[aD];simp;omega);(have oM:0<(cw dH).length↔0<dH.length:=by rw[auq,auq];exact not_congr I8);(have i6:0<(cw cs).length↔0<cs.length:=by rw[auq,auq];exact not_congr I8);(have E9:s.take (nd s).toNat=cw dH:=by rw[Z,aD];simp);(have lh:s.drop (nd s+1).toNat=cw cs:=by(have:(nd s+1).toNat=(cw dH).length+1:=by omega);rw[this,aD];simp);(have Wo:l.take (kE l).toNat=dH:=by rw[N,e];simp);(have ahP:l.drop (kE l+1).toNat=cs:=by(have:(kE l+1).toNat=dH.length+1:=by omega);rw[this,e];simp);(have I9:sh v s=true↔(0<dH.length/\0<cs.length/\(v=0\/(cs.length:Int)<=16)):=by simp only[sh,lh,qW,atd,atS,auv,auM];constructor;rintro⟨⟨a,b⟩,c⟩;exact⟨oM.1 asZ,i6.1 asZ,c⟩;rintro⟨a,b,c⟩;have:=oM.2 a;have:=i6.2 b;exact⟨⟨by omega,by omega⟩,c⟩);by_cases bc:0<dH.length/\0<cs.length/\(v=0\/(cs.length:Int)<=16);(have ij:gY v l false=(dH,cs):=by rw[gY,as_ ⟨rfl,by omega,by omega,by rcases bc.2.2 with h|h;exact .inl h;exact .inr asZ⟩,Wo,ahP]);(have df:hh v s false=(cw dH,cw cs):=by rw[hh,as9 as1,as_ (I9.2 bc),E9,lh]);rw[ij,df];exact⟨Aw,qW,I8⟩;have Wp:¬sh v s=true:=λh=>bc (I9.1 h);(have xf:¬(false=false/\0<kE l/\kE l<(l.length:Int)-1/\(v=0\/(l.length:Int)-1-kE l<=16)):=by rintro⟨_,a,b,c⟩;exact bc ⟨by omega,by omega,by rcases c with c|c;exact .inl c;exact .inr asZ⟩);by_cases cL:v=0/\0<dH.length/\cs=[];obtain⟨W,ku,rfl⟩:=cL;(have ij:gY v l false=(dH,[]):=by rw[gY,as9 xf,as_ ⟨rfl,W,by omega,by simp at mW;omega⟩,Wo]);(have df:hh v s false=(cw dH,[]):=by have:=oM.2 ku;rw[hh,as9 as1,as9 Wp,as_ ⟨W,by omega⟩];(have:s=cw dH++[46]:=by rw[aD];rfl);rw[this,ahO]);rw[ij,df];exact⟨Aw,h0,by simp⟩;(have ij:gY v l false=(l,[]):=by rw[gY,as9 xf,as9];rintro⟨_,a,b,c⟩;exact cL ⟨a,by omega,atm asZ⟩);(have df:hh v s false=(s,[]):=by rw[hh,as9 as1,as9 Wp];split;rename_i eV;(have:Lib.trimSuffix s [46]=s:=Wn λa ha=>by by_cases nx:cs=[];subst nx;have ku:¬0<dH.length:=λh=>cL ⟨eV.1,h,rfl⟩;have:dH=[]:=atm asZ;subst this;simp[cw]at eS;omega;have fX:0<(cw cs).length:=i6.2 (auq.2 nx);(have:(cw cs)[(cw cs).length-1]?=some 46:=by(have hF:s[s.length-1]?=some 46:=by rw[ha];simp);rw[aD]at hF;simp only[atf,ath]at hF;rw[atJ asZ]at hF;(have:(cw dH).length+((cw cs).length+1)-1-(cw dH).length=(cw cs).length-1+1:=by omega);rw[this]at hF;simpa using hF);obtain⟨ut,IX,kq,_⟩:=I7 cs bs _ this;exact A (by rw[kq];simp));rw[this];rfl);rw[ij,df];exact⟨ae,h0,by simp⟩
def e4(v:Int)(r:Int):Int:=if v=0 then h8 r else lu r
def kc(v:Int):Nat:=if v=0 then 3 else 64
def fQ(v:Int)(s:as8)(bd:Bool):List Int×List Int :=
 ((h' (hh v s bd).1).map (e4 v),if(hh v s bd).2=[]then[]else 46::((h' (hh v s bd).2).map (e4 v)).take (kc v))
theorem Wq(v r:Int)(h:en r=true):aU B (bif v==0 then 299 else 298) [.int .i32 r] (.int .i32 (e4 v r)):=by obtain⟨h1,A,Z⟩:=(sg r).1 h;cases W:(v==0)with|true =>(have:v=0:=by simpa using W);rw[e4,as_ this];exact ahF r asZ asZ|false =>(have:¬v=0:=by simpa using W);rw[e4,as9 this];exact ahB r h
variable{bd:Bool}
theorem Oh{v:Int}{l:List Int}(h:∀r∈l,en r=true):(∀r∈(gY v l bd).1,en r=true)/\∀r∈(gY v l bd).2,en r=true:=by unfold gY;split;exact⟨λr ae=>h r (aud ae),λr ae=>h r (avp ae)⟩;split;exact⟨λr ae=>h r (aud ae),λr ae=>by cases ae⟩;exact⟨h,λr ae=>by cases ae⟩
theorem ahQ(s p:as8):(Lib.trimSuffix s p).length<=s.length:=by unfold Lib.trimSuffix;split<;>simp
theorem Wr(v:Int)(s:as8)(bd:Bool):(hh v s bd).1.length<=s.length/\(hh v s bd).2.length<=s.length:=by unfold hh;split;simp;split;simp;omega;split;have:=ahQ s [46];simp;omega;simp
def Ws(aZ co:List Int):D:=.agg [.Q .none 1 (dz aZ),.Q .none 1 (dz co)]
theorem Wt(v:Int)(s:as8)(l:List Int)(bd:Bool)(hs:s.length<1000000)(hc:jt s=some l):aU B 255 [u v,.O s,.bool bd] (Ws (fQ v s bd).1 (fQ v s bd).2):=by have kZ:=(Cz s.length s l (atg _) hc).2;obtain⟨sj,qu,xg⟩:=Og v hc bd;have Oi:=Oh (v:=v) (bd:=bd) kZ;have kn:=Wr v s bd;refine bA Tryz.func255 Tryz.ntmps255 λU=>?_;refine go ?_;intro dY;refine ck ?_;refine X.lL (α:=Unit) (λx=>[(0,u v),(1,.O s),(2,.bool bd),(6,.box 6 dY 0),(7,.fn (.func (bif v==0 then 299 else 298)) [] []),(8,u (bif v==0 then 3 else 64))]) (λx=>[(6,.box dY [.bj,.bj])]) ?_ ?_;refine go ?_;refine aJ _ rfl ?_ ?_<;>intro hc;refine go ?_;exact⟨(),[(6,6)],⟨E,E,E,E,aq.of_eq (as' (λV=>D.fn (.func (bif V then 299 else 298)) [] []) hc.symm),aq.of_eq (as' (λV=>u (bif V then 3 else 64)) hc.symm),ai⟩,rfl,bb⟩;refine go ?_;exact⟨(),[(6,6)],⟨E,E,E,E,aq.of_eq (as' (λV=>D.fn (.func (bif V then 299 else 298)) [] []) hc.symm),aq.of_eq (as' (λV=>u (bif V then 3 else 64)) hc.symm),ai⟩,rfl,bb⟩;rintro⟨⟩;refine go ?_;refine bp (ahJ v s bd asZ) ?_;refine bp (Wh (hh v s bd).1 _ (e4 v) asZ (λr ae=>Wq v r (Oi.1 r (by rw[<-sj];exact ae)))) ?_;intro CA;refine go ?_;refine aJ _ rfl ?_ ?_<;>intro hc;refine ck ?_;refine⟨[.O (hh v s bd).2,.fn (.func (bif v==0 then 299 else 298)) [] []],_,λ_=>Wh (hh v s bd).2 _ (e4 v) asZ (λr ae=>Wq v r (Oi.2 r (by rw[<-qu];exact ae))),ar,?_⟩;(conv=>whnf);have hZ:=FS (hh v s bd).2;generalize I_:(h' (hh v s bd).2).map (e4 v)=es;(have arb:es.length<=1000000:=by rw[<-I_];simp;omega);(have Wu:(0:Int)<=(bif v==0 then 3 else 64):=by cases(v==0)<;>simp);refine m0 ?_;refine pg ?_;(have I':(0:Int)<=(if(bif v==0 then(3:Int)else 64)<((dz es).length:Int)then(bif v==0 then(3:Int)else 64)else((dz es).length:Int))/\(if(bif v==0 then(3:Int)else 64)<((dz es).length:Int)then(bif v==0 then(3:Int)else 64)else((dz es).length:Int))<=((dz es).length:Int):=by split<;>omega);(have ahR:(es.take (kc v))=es.take (if(bif v==0 then(3:Int)else 64)<((dz es).length:Int)then(bif v==0 then(3:Int)else 64)else((dz es).length:Int)).toNat:=by(have e:((bif v==0 then(3:Int)else 64)).toNat=kc v:=by unfold kc;cases W:(v==0)with|true=>rw[as_ (by simpa using W)];rfl|false=>rw[as9 (by simpa using W)];rfl);split;rw[e];rename_i bi;(have:es.length<=kc v:=by rw[<-e];simp[dz]at bi;omega);rw[atC this,atC (by simp[dz])]);refine⟨λ_=>⟨at5 _,I'.1,I'.2⟩,?_⟩;refine go ?_;refine⟨by show(_+_)*4<=_;simp[dz];omega,by show _+_<=_;simp[dz];omega,as6,λw=>?_⟩;refine go ?_;(have a6:¬(hh v s bd).2=[]:=by simpa using hc);refine aq.agg ?_;refine⟨E,⟨λw' aQ ak h=>?_⟩,ai⟩;have A:=(aq.mT (t:=.own 38 w)).le w' aQ ak h;(have e:([D.int .i32 46]++(List.drop (Int.toNat 0) ((dz es).take (if(bif v==0 then(3:Int)else 64)<((dz es).length:Int)then(bif v==0 then(3:Int)else 64)else((dz es).length:Int)).toNat)))=dz (fQ v s bd).2:=by simp only[fQ];rw[as9 a6,I_,ahR];simp[dz]);rw[<-e];exact A;refine go ?_;(have a6:(hh v s bd).2=[]:=by simpa using hc);(have e:(fQ v s bd).2=[]:=by simp only[fQ];rw[as_ a6]);refine aq.agg ?_;refine⟨E,?_,ai⟩;rw[e];exact aq.nil
theorem Wv:∀k,k<100->(Lib.decDigits k).length<=2:=by intro k Y;rw[Lib.decDigits];split;simp;rw[Lib.decDigits,auX asZ];simp
def iL(k:Nat):List Int:=if 0<k then h' (Lib.decDigits k)else[]
variable{k:Nat}
theorem FT(Y:k<100):(iL k).length<=2:=by unfold iL;split;have:=FS (Lib.decDigits k);have:=Wv k Y;omega;simp
def om(v:Int)(co:List Int)(k:Nat):Int:=bif v==1 then 64-(co.length:Int)-((iL k).length:Int)else 8-((iL k).length:Int)
def jx(v:Int)(aZ co:List Int)(k:Nat):Nat:=(if(if om v co k<(aZ.length:Int)then om v co k else(aZ.length:Int))>0 then(if om v co k<(aZ.length:Int)then om v co k else(aZ.length:Int))else 0).toNat
def kd(v:Int)(aZ co:List Int)(k:Nat):as8:=cw (aZ.take (jx v aZ co k)++iL k++co)
theorem Ja(v:Int)(aZ co:List Int)(k:Nat)(Y:k<100)(a1:aZ.length<1000000)(rK:co.length<1000000):aU B 256 [Ws aZ co,u v,u (k:Nat)] (.O (kd v aZ co k)):=by have eS:=FT Y;refine bA Tryz.func256 Tryz.ntmps256 λU=>?_;refine ck ?_;intro eG;apply b2;(conv=>whnf);refine c1 ?_;refine X.lL (α:=Unit) (λx=>[(1,u v),(3,.box 3 eG 0),(7,.Q .none 1 (dz (iL k)))]) (λx=>[(3,.box eG [.Q .none 1 (dz aZ),.Q .none 1 (dz co)])]) ?_ ?_;refine go ?_;refine aJ _ rfl ?_ ?_<;>intro hc;refine go ?_;refine bp (N' k Y) ?_;refine⟨by have:=Wv k Y;omega,?_⟩;refine go ?_;(have h0:0<k:=by simpa using hc);exact⟨(),[(3,3)],⟨E,E,aq.of_eq (as' (D.Q .none 1) (by rw[iL,as_ h0];rfl)),ai⟩,rfl,bb⟩;refine go ?_;(have h0:¬0<k:=by simpa using hc);exact⟨(),[(3,3)],⟨E,E,⟨λw C ak h=>by rw[iL,as9 h0];exact h.jl⟩,ai⟩,rfl,bb⟩;rintro⟨⟩;generalize Oj:iL k=S at*;refine ck ?_;refine .inl ⟨λ_=>by simp only[dg,dz,atb];omega,?_⟩;(conv=>whnf);refine X.lL (α:=Unit) (λx=>[(1,u v),(3,.box 3 eG 0),(7,.Q .none 1 (dz S)),(8,u (om v co k))]) (λx=>[(3,.box eG [.Q .none 1 (dz aZ),.Q .none 1 (dz co)])]) ?_ ?_;refine go ?_;refine aJ _ rfl ?_ ?_<;>intro hc;refine go ?_;refine .inl ⟨λ_=>by simp only[dg,dz,atb];omega,?_⟩;refine go ?_;refine .inl ⟨λ_=>by simp only[dg,dz,atb];omega,?_⟩;refine go ?_;exact⟨(),[(3,3)],⟨E,E,E,aq.of_eq (as' (D.int .i64) (by rw[om,hc,Oj];simp[dz])),ai⟩,rfl,bb⟩;refine go ?_;exact⟨(),[(3,3)],⟨E,E,E,aq.of_eq (as' (D.int .i64) (by rw[om,hc,Oj];simp[dz])),ai⟩,rfl,bb⟩;rintro⟨⟩;refine qU ?_;refine⟨ai,?_⟩;apply mi;apply cB;apply mi;refine eB ?_;(have dS:(if om v co k<((dz aZ).length:Int)then om v co k else((dz aZ).length:Int))<=((dz aZ).length:Int):=by split<;>omega);generalize fY:(if om v co k<((dz aZ).length:Int)then om v co k else((dz aZ).length:Int))=ap at*;refine nZ ?_;refine⟨λ_=>⟨at5 _,by split<;>omega,by split<;>omega⟩,?_⟩;refine go ?_;refine⟨by show(_+_)*4<=_;simp[dz];omega,by show _+_<=_;simp[dz];omega,as6,λv9=>?_⟩;refine go ?_;(have iM:([]++List.drop (Int.toNat 0) ((dz aZ).take (if ap>0 then ap else 0).toNat))=dz (aZ.take (jx v aZ co k)):=by(have e:jx v aZ co k=(if ap>0 then ap else 0).toNat:=by rw[<-fY];simp only[jx,dz,atb]);rw[e];simp[dz]);rw[auT,iM];(have Ck:(aZ.take (jx v aZ co k)).length<=1000000:=by simp;omega);generalize ahS:aZ.take (jx v aZ co k)=bw at*;generalize Ez:v9=c' at*;refine go ?_;(have CB:∀(x:Value×Value) (cg cJ:Bool) (z:av),z.H=aK ((3,.box eG [.Q .none 1 (dz aZ),.Q .none 1 (dz co)])::(bif cg then(bif cJ then[(44,.own x.2 (bw++S++co).length 1 21)]else[(41,.own x.1 (bw++S).length 1 21)])else[(38,.own c' bw.length 1 21)]))->mP z ((3,.box eG [.Q .none 1 (dz aZ),.Q .none 1 (dz co)])::(bif cg then(bif cJ then[(44,.own x.2 (bw++S++co).length 1 21)]else[(41,.own x.1 (bw++S).length 1 21)])else[(38,.own c' bw.length 1 21)])):=by intro x cg cJ z h;cases cg<;>cases cJ<;>exact⟨by rw[h];rfl,by rw[h];rfl,ai⟩);(have tK:∀(x:Value×Value) (cg cJ:Bool),cg=true->cJ=false->∀z:av,z.H 3=some (.box eG [.Q .none 1 (dz aZ),.Q .none 1 (dz co)])->z.H 41=some (.own x.1 (bw++S).length 1 21)->mP z ((3,.box eG [.Q .none 1 (dz aZ),.Q .none 1 (dz co)])::(bif cg then(bif cJ then[(44,.own x.2 (bw++S++co).length 1 21)]else[(41,.own x.1 (bw++S).length 1 21)])else[(38,.own c' bw.length 1 21)])):=by intro x cg cJ A bc z g1 fx;subst A bc;exact⟨g1,fx,ai⟩);refine X.acz aM mixed (α:=Value×Value) (λx f=>[(3,.box 3 eG 0),(7,.Q .none 1 (dz S)),(9,.Q (.own 38 c') 1 (dz bw)),(39,bif f 0 then .Q (.own 38 c') 1 (dz bw)else .any),(40,bif f 1 then .Q .none 1 (dz S)else .any),(41,bif f 2 then .Q (.own 41 x.1) 1 (dz (bw++S))else .any),(42,bif f 3 then .box 3 eG 1 else .any),(43,bif f 4 then .Q .none 1 (dz co)else .any),(44,bif f 5 then .Q (.own 44 x.2) 1 (dz (bw++S++co))else .any),(45,bif f 6 then .O (cw (bw++S++co))else .any),(6,bif f 7 then .O (cw (bw++S++co))else .any)]) (λx f=>(3,.box eG [.Q .none 1 (dz aZ),.Q .none 1 (dz co)])::(bif f 2 then(bif f 5 then[(44,.own x.2 (bw++S++co).length 1 21)]else[(41,.own x.1 (bw++S).length 1 21)])else[(38,.own c' bw.length 1 21)])) as3 (c',c') ?_ ?_ ?_ ?_;exact⟨E,E,E,.any _,.any _,.any _,.any _,.any _,.any _,.any _,.any _,ai⟩;exact⟨rfl,as' (λV=>some (aI.own c' V 1 21)) (by have:=as' List.length iM;simpa[dz]using this),ai⟩;refine go ?_;refine⟨λx f bg=>?_,?_⟩;refine go ?_;refine⟨x,ar,CB x _ _ _ rfl⟩;refine⟨λx f bg=>?_,?_⟩;refine go ?_;refine⟨x,ar,CB x _ _ _ rfl⟩;refine⟨λx f bg=>?_,?_⟩;(conv=>whnf);refine nZ ?_;refine⟨rfl,by simp[dz],?_⟩;refine go ?_;refine⟨by show(_+_)*4<=_;simp[dz];omega,by show _+_<=_;simp[dz];omega,as6,λw=>?_⟩;refine⟨(w,x.2),⟨E,E,E,E,E,aq.of_eq (as' (D.Q _ 1) (by simp[dz])),E,E,E,E,E,ai⟩,?_⟩;exact tK (w,x.2) _ _ rfl (bg.n 5 2) _ rfl (as' (λV=>some (aI.own w V 1 21)) (by simp[dz]));refine⟨λx f bg=>?_,?_⟩;refine go ?_;refine⟨x,ar,CB x _ _ _ rfl⟩;refine⟨λx f bg=>?_,?_⟩;refine go ?_;refine⟨x,ar,CB x _ _ _ rfl⟩;refine⟨λx f bg=>?_,?_⟩;(conv=>whnf);refine nZ ?_;refine⟨rfl,by simp[dz],?_⟩;refine go ?_;refine⟨by show(_+_)*4<=_;simp[dz];omega,by show _+_<=_;simp[dz];omega,as6,λw=>?_⟩;refine⟨(x.1,w),⟨E,E,E,E,E,E,E,E,aq.of_eq (as' (D.Q _ 1) (by simp[dz])),E,E,ai⟩,?_⟩;exact⟨rfl,as' (λV=>some (aI.own w V 1 21)) (by simp[dz,au9]),ai⟩;refine⟨λx f bg=>?_,?_⟩;refine go ?_;refine⟨bw++S++co,rfl,?_⟩;refine go ?_;refine⟨x,ar,CB x _ _ _ rfl⟩;refine⟨λx f bg=>?_,?_⟩;refine go ?_;refine⟨x,ar,CB x _ _ _ rfl⟩;exact trivial;intro x f M;have Fo:=M 7 as3;refine go ?_;rw[Fo];exact aq.of_eq (as' D.O (by rw[kd,Oj,ahS]))
theorem Ww(h1:10<=k)(A:k<100):Lib.decDigits k=[UInt8.ofNat (48+k/10),UInt8.ofNat (48+k%10)]:=by rw[Lib.decDigits,awd asZ,Lib.decDigits,auX asZ];rfl
theorem Wx:∀(s:as8),(∀b∈s,32<=b.toNat/\b.toNat<127)->jt s=some (s.map λb=>(b.toNat:Int))
 |[],_=>rfl
 |b::s,h=>by have F:=h b atk;have aY:=Wx s λx I=>h x (ato _ I);have:=yN ((b::s).map λb=>(b.toNat:Int)) (by intro r ae;obtain⟨c,hc,rfl⟩:=aty.1 ae;have:=h c hc;exact(sg _).2 ⟨by omega,by omega,by omega⟩);(have e:∀l:as8,(∀b∈l,32<=b.toNat/\b.toNat<127)->cw (l.map λb=>(b.toNat:Int))=l:=by intro l;induction l with|nil=>intro _;rfl|cons c l aY =>intro aj;(have e:cw ((c::l).map λb=>(b.toNat:Int))=(Utf8.encode (c.toNat:Int)).data.toList++cw (l.map λb=>(b.toNat:Int)):=by simp[cw]);rw[e,aY λx I=>aj x (ato _ I)];have hc:=aj c atk;(have bY:(Utf8.encode (c.toNat:Int)).data.toList=[UInt8.ofNat c.toNat]:=by unfold Utf8.encode;simp only[show Utf8.valid (c.toNat:Int)=true by simp[Utf8.valid];omega,aum,atE];rw[as_ asZ]);rw[bY];simp);rw[e (b::s) h]at this;exact this
theorem ahT(h1:10<=k)(A:k<100):∀b∈Lib.decDigits k,32<=b.toNat/\b.toNat<127:=by rw[Ww h1 A];(have gr:∀x:Nat,x<256->(UInt8.ofNat x).toNat=x:=λx I=>by rw[avx];omega);intro b F;simp only[atu,aws,av2]at F;rcases F with rfl|rfl;rw[gr _ asZ];omega;rw[gr _ asZ];omega
theorem FU(h1:10<=k)(A:k<100):iL k=[48+((k/10:Nat):Int),48+((k%10:Nat):Int)]:=by
 have gr:∀x:Nat,x<256->(UInt8.ofNat x).toNat=x:=λx I=>by rw[avx];omega
 rw[iL,as_ asZ,I5 (Wx _ (ahT h1 A)),Ww h1 A];simp only[atG,auT];rw[gr _ asZ,gr _ asZ];rfl
theorem Wy(h1:10<=k)(A:k<100):∀r∈iL k,en r=true:=by rw[FU h1 A];intro r ae;simp only[atu,aws,av2]at ae;rcases ae with rfl|rfl<;>exact(sg _).2 ⟨by omega,by omega,by omega⟩
theorem ahU{a b:List Int}(ha:∀r∈a,en r=true)(F:∀r∈b,en r=true)(h:cw a=cw b):a=b:=by have h1:=yN a ha;rw[h,yN b F]at h1;exact(at3 h1).symm
variable{j:Nat}
theorem ahV(v:Int)(aZ co:List Int)(vt:10<=j)(lr:j<100)(yO:10<=k)(te:k<100)(h:kd v aZ co j=kd v aZ co k):j=k:=by
 have hs:jx v aZ co j=jx v aZ co k:=by simp only[jx,om,FU vt lr,FU yO te,ath,atD]
 simp only[kd,hs]at h;rw[AC,AC,AC,AC]at h;have h:=List.append_cancel_left (List.append_cancel_right h);have:=ahU (Wy vt lr) (Wy yO te) h;rw[FU vt lr,FU yO te]at this;simp only[avo,and_true]at this;omega
def tf(v:Int)(vV:List as8)(aZ co:List Int):Nat:=((List.range 100).find? λk=>decide (kd v aZ co k∉vV)).getD 0
theorem CC(v:Int)(vV:List as8)(aZ co:List Int)(an:vV.length<=64): tf v vV aZ co<100/\kd v aZ co (tf v vV aZ co)∉vV/\∀j,j<tf v vV aZ co->kd v aZ co j∈vV:=by unfold tf;cases h:(List.range 100).find? λk=>decide (kd v aZ co k∉vV)with|none =>exfalso;rw[auY]at h;(have ax:(((List.range 90).map (λi=>i+10)).map (kd v aZ co)).Nodup:=by rw[at4,au2,au2];refine awc (R:=(·≠·)) ?_ (at4.1 List.nodup_range);intro a b ha F nT ao;simp only[auJ]at ha F;have:=ahV v aZ co asZ asZ asZ asZ ao;omega);(have FV:((List.range 90).map (λi=>i+10)).map (kd v aZ co) ⊆ vV:=by intro x I;obtain⟨y,hy,rfl⟩:=aty.1 I;obtain⟨i,hi,rfl⟩:=aty.1 hy;have:=h (i+10) (by simp at hi⊢;omega);simpa using this);have:=ax.length_le_of_subset FV;simp at this;omega|some k =>obtain⟨h1,A,Z⟩:=avH.1 h;simp only[at7];refine⟨by simpa using A,by simpa using h1,λj ad=>by simpa using Z j ad⟩
def yP(v:Int)(ak:List as8)(k:aa):as8 :=
 kd v (fQ v k.name (k.kind==0)).1 (fQ v k.name (k.kind==0)).2 (tf v ak (fQ v k.name (k.kind==0)).1 (fQ v k.name (k.kind==0)).2)
def jX(v:Int)(ag:List aa):List as8:=ag.foldl (λak k=>yP v ak k::ak) []
def uA(v:Int)(ag:List aa):List as8:=(jX v ag).reverse
theorem FW(v:Int)(ag:List aa)(k:aa):jX v (ag++[k])=yP v (jX v ag) k::jX v ag:=by simp[jX]
variable{α:Type}
theorem xh{p:List α->Prop}(h0:p [])(h1:∀l x,p l->p (l++[x])):∀l,p l:=by intro l;(have:∀r:List α,p r.reverse:=by intro r;induction r with|nil=>exact h0|cons x r aY=>rw[avf];exact h1 _ _ aY);have:=this l.reverse;rwa [List.reverse_reverse]at this
theorem CD(v:Int)(ag:List aa):(jX v ag).length=ag.length:=by refine xh (p:=λag=>(jX v ag).length=ag.length) rfl (λl x aY=>?_) ag;rw[FW];simp[aY]
theorem ahW(v:Int)(ak:List as8)(k:aa)(an:ak.length<=64):yP v ak k∉ak:=(CC v ak _ _ an).2.1
theorem Ok(v:Int)(ag:List aa):ag.length<=64->(jX v ag).Nodup:=by refine xh (p:=λag=>ag.length<=64->(jX v ag).Nodup) (λ_=>List.nodup_nil) (λl x aY aj=>?_) ag;simp only[atf,ath,atD]at aj;rw[FW,ava];exact⟨ahW v _ x (by rw[CD];omega),aY asZ⟩
theorem ahX(r:Int):(Utf8.encode r).data.toList.length<=4:=by unfold Utf8.encode;dsimp only;generalize(if Utf8.valid r=true then r.toNat else Utf8.runeError)=c;split;simp;split;simp;split<;>simp
theorem Ol:∀l:List Int,(cw l).length<=4*l.length
 |[]=>by simp[cw]
 |r::l=>by(have e:cw (r::l)=(Utf8.encode r).data.toList++cw l:=by simp[cw]);have:=ahX r;have:=Ol l;rw[e,atf,ath];omega
theorem ahY(v:Int):kc v<=64:=by unfold kc;split<;>omega
theorem ahZ{v:Int}{aZ co:List Int}(Y:k<100)(rK:co.length<=65):(kd v aZ co k).length<=1100:=by have h1:=Ol (aZ.take (jx v aZ co k)++iL k++co);have A:=FT Y;(have Z:jx v aZ co k<=64:=by(have ae:om v co k<=64:=by unfold om;cases(v==1)<;>simp only[auS,aun]<;>omega);unfold jx;generalize om v co k=R at*;split<;>split<;>omega);(have aD:(aZ.take (jx v aZ co k)).length<=64:=by simp;omega);(have bc:(aZ.take (jx v aZ co k)++iL k++co).length<=131:=by rw[atf,atf];omega);show(cw _).length<=_;omega
theorem Om(v:Int)(s:as8)(d:Bool):(fQ v s d).2.length<=65/\(fQ v s d).1.length<=s.length/\(fQ v s d).2.length<=s.length+1:=by have h:=Wr v s d;have h1:=FS (hh v s d).1;have A:=FS (hh v s d).2;have Z:=ahY v;unfold fQ;refine⟨?_,by simp;omega,?_⟩;dsimp only;split;simp;simp;omega;dsimp only;split;simp;simp;omega
theorem ah0(v:Int)(ak:List as8)(k:aa)(an:ak.length<=64):(yP v ak k).length<=1100 :=
 ahZ (CC v ak _ _ an).1 (Om v _ _).1
theorem ah1(v:Int)(ag:List aa):ag.length<=64->∀m∈jX v ag,m.length<=1100:=by refine xh (p:=λag=>ag.length<=64->∀m∈jX v ag,m.length<=1100) (λ_ m hm=>by cases hm) (λl x aY aj=>?_) ag;simp only[atf,ath,atD]at aj;rw[FW];intro m hm;rcases atu.1 hm with rfl|hm;exact ah0 v _ x (by rw[CD];omega);exact aY asZ m hm
variable{ag:List aa}{t:Nat}
theorem Wz{v:Int}(h:t<ag.length):jX v (ag.take (t+1))=yP v (jX v (ag.take t)) ag[t]::jX v (ag.take t):=by rw[atc h,FW]
variable{J:List aa}
theorem ah2{v:Int}(h:t<J.length)(V:D):(aN (jX v (J.take t)).reverse++List.replicate (J.length-t) V).set t (.O (yP v (jX v (J.take t)) J[t]))=aN (jX v (J.take (t+1))).reverse++List.replicate (J.length-(t+1)) V:=by
 rw[Wz h];have aj:(aN (jX v (J.take t)).reverse).length=t:=by simp[aN,CD];omega
 rw[List.set_append_right _ _ asZ,aj,avY,show J.length-t=(J.length-(t+1))+1 by omega,List.replicate_succ];simp[aN]
theorem ah3(aW:dc B)(v:Int)(W:v=0\/v=1)(J:List aa)(gP:J.length<=64)(cD:∀k∈J,dQ k.name=true/\k.name.length<1000000000)(mz:gM J):aU B 182 [u v,.Q .none 12 (J.map enc)] (.bo [.Q .none 1 (aN (uA v J)),u 0]):=by refine bA Tryz.func182 Tryz.ntmps182 λU=>?_;refine go ?_;intro bk;refine go ?_;refine bp (Fa v) ?_;refine aJ _ rfl ?_ ?_<;>intro hc;refine go ?_;exfalso;(have:j8 v=true:=by rcases W with rfl|rfl<;>rfl);rw[this]at hc;cases hc;refine go ?_;refine aJ _ rfl ?_ ?_<;>intro hc;refine go ?_;exfalso;simp at hc;omega;refine go ?_;refine .inr (af.x4 aM (n:=J.length) (cO:=.i64) (d0:=.i64) (V:=u 0) rfl rfl rfl rfl rfl ?_ ?_ (by show 8*_<=_;omega) asZ λgO=>?_);show D.int _ _=_;simp;show D.int _ _=_;simp;refine go ?_;refine X.ec (α:={i:Nat // i<=J.length}) (λx=>[(0,u v),(3,.box 3 bk 0),(6,.al gO),(25,.Q .none 12 (J.map enc)),(26,u (J.map enc).length),(27,u x.1)]) (λx=>[(24,.row gO (eh x.1++List.replicate (J.length-x.1) (u 0)) 1 3),(3,.box bk [.Q .none 12 (J.map enc)])]) (λx=>J.length-x.1) ⟨0,by omega⟩ [(24,24),(3,3)] ⟨ar,rfl,bb⟩ ?_;rintro⟨i,hi⟩;dsimp only;refine go ?_;refine aJ _ rfl ?_ ?_<;>intro hc;refine ff ?_;(have aH:i<J.length:=by simpa using hc);(have dj:(eh i).length=i:=by simp[eh]);refine vf ?_;refine⟨aE J[i],λ_=>n7 aH,?_⟩;refine go ?_;intro cF;refine go ?_;refine bp (yu aW _ (cD _ (ate aH)).2) ?_;refine aJ _ rfl ?_ ?_<;>intro hc;refine go ?_;exfalso;rw[(cD _ (ate aH)).1]at hc;cases hc;refine go ?_;refine .inr (af.ej aM 24 rfl rfl rfl rfl rfl rfl rfl asZ (by simp[dj];omega) ?_);refine go ?_;refine .inr (af.mg aM 24 (i:=i) as5 rfl rfl rfl (by simp[dj];omega) rfl ?_);refine go ?_;exact⟨⟨i+1,by omega⟩,[(24,24),(3,3)],by show _-(i+1)<_-i;omega,ar,rfl,rfl,as' (λV=>some (aI.row gO V 1 3)) (NZ aH _),rfl,bb⟩;refine go ?_;(have cd:i=J.length:=by simp at hc;omega);(have dM:eh i++List.replicate (J.length-i) (u 0)=eh J.length:=by subst cd;simp);rw[dM];refine go ?_;refine .inr (af.call rfl [.al gO,.fn (.func 254) [] [.box 2000 bk 0]] [(2001,24),(2000,3)] (UQ J mz asZ bk gO) rfl ⟨E,aq.fn trivial ⟨aq.box,ai⟩,ai⟩ ?_);rintro d aO ⟨rfl,rfl⟩;refine rO ?_;refine X.fb [(6,.al gO),(0,u v),(3,.box 3 bk 0)] [(24,.row gO (eh J.length) 1 3),(3,.box bk [.Q .none 12 (J.map enc)])] [(24,24),(3,3)] ⟨ar,rfl,bb⟩ ?_;refine X.vm 24 6 rfl ?_;refine go ?_;refine .inr (af.x4 aM (n:=J.length) (cO:=.i64) (d0:=.i64) (V:=.O []) rfl rfl rfl rfl rfl ?_ ?_ (by show 16*_<=_;omega) asZ λdy=>?_);show D.int _ _=_;simp;show D.int _ _=_;simp;refine go ?_;refine .inr (af.makeMap λl2=>?_);refine go ?_;refine X.ec (α:={i:Nat // i<=J.length}) (λx=>[(0,u v),(3,.box 3 bk 0),(6,.Q .none 1 (eh J.length)),(48,.Q .none 1 (eh J.length)),(49,u (eh J.length).length),(50,u x.1),(9,.al dy),(10,.al (.map (some l2)))]) (λx=>[(46,.row dy (aN (jX v (J.take x.1)).reverse++List.replicate (J.length-x.1) (.O [])) 1 9),(47,.set l2 (jX v (J.take x.1))),(3,.box bk [.Q .none 12 (J.map enc)])]) (λx=>J.length-x.1) ⟨0,by omega⟩ [(46,46),(47,47),(3,3)] ⟨ar,rfl,bb⟩ ?_;rintro⟨t,au⟩;dsimp only;refine go ?_;refine aJ _ rfl ?_ ?_<;>intro hc;refine ff ?_;(have ls:t<J.length:=by simp[eh]at hc;omega);(have pd:∀j,j<J.length->(J.map enc)[j]?=some (aE (J.getD j default)):=λj ad=>by rw[n7 ad];simp[List.getD,ad]);refine gK ?_;refine⟨λ_=>by simp[eh];omega,?_⟩;refine go ?_;refine⟨u (t:Nat),λ_=>by simp[eh,ls],?_⟩;refine Ef ?_;apply cB;apply g8;refine g9 ?_;refine hE ?_;refine⟨λh=>by simp at h;simp[eh];omega,?_⟩;refine go ?_;refine⟨u ((t-1:Nat):Int),λh=>axx,?_⟩;refine hE ?_;refine mZ ?_;refine⟨aE (J.getD (t-1) default),λh=>pd (t-1) asZ,?_⟩;apply cB;refine hE ?_;refine nX ?_;refine hE ?_;refine⟨aE J[t],λh=>n7 ls,?_⟩;refine go ?_;refine aJ _ rfl ?_ ?_<;>intro hc;refine go ?_;exfalso;(cases h0:decide ((0:Int)<t)with|false=>rw[h0]at hc;cases hc|true =>(have N0:0<t:=by simpa using h0);have a6:=s6 (r' mz (show t-1<t by omega) ls);rw[h0]at hc;have bs:((J.getD (t-1) default).name==J[t].name)=true:=hc;(have:(J.getD (t-1) default).name=J[t].name:=by simpa using bs);apply a6;rw[<-this];simp[List.getD,show t-1<J.length by omega]);apply cr;apply b2;refine mj ?_;refine⟨aE J[t],λ_=>n7 ls,?_⟩;refine go ?_;refine aJ _ rfl ?_ ?_<;>intro hc;apply ep;have jL:=I0 (cD _ (ate ls)).1;obtain⟨l,aj,_,_,_,_⟩:=I6 (cD _ (ate ls)).1;have On:=Wt (B:=B) v J[t].name l (J[t].kind==0) asZ aj;have Ah:=Om v J[t].name (J[t].kind==0);have yQ:yP v (jX v (J.take t)) J[t]=kd v (fQ v J[t].name (J[t].kind==0)).1 (fQ v J[t].name (J[t].kind==0)).2 (tf v (jX v (J.take t)) (fQ v J[t].name (J[t].kind==0)).1 (fQ v J[t].name (J[t].kind==0)).2):=rfl;have x2:=Wz (v:=v) ls;have x3:=ah2 (v:=v) ls (.O []);have kV:=CC v (jX v (J.take t)) (fQ v J[t].name (J[t].kind==0)).1 (fQ v J[t].name (J[t].kind==0)).2 (by rw[CD];simp;omega);generalize(fQ v J[t].name (J[t].kind==0)).1=aZ at*;generalize(fQ v J[t].name (J[t].kind==0)).2=co at*;(have Oo:(jX v (J.take t)).length=t:=by rw[CD];simp;omega);generalize jX v (J.take t)=gs at*;generalize hK:tf v gs aZ co=K at*;apply kw;refine mj ?_;refine⟨aE J[t],λ_=>n7 ls,?_⟩;refine go ?_;refine bp (On) ?_;intro qt;refine go ?_;refine bp (Ja v aZ co 0 asZ asZ asZ) ?_;refine X.ec (α:={j:Nat // j<=K}) (λx=>[(0,u v),(3,.box 3 bk 0),(6,.Q .none 1 (eh J.length)),(48,.Q .none 1 (eh J.length)),(49,u (eh J.length).length),(50,u t),(9,.al dy),(10,.al (.map (some l2))),(12,u t),(13,.O (kd v aZ co x.1)),(14,.box 14 qt 0),(15,u ((x.1+1:Nat):Int))]) (λx=>[(46,.row dy (aN gs.reverse++List.replicate (J.length-t) (.O [])) 1 9),(47,.set l2 gs),(3,.box bk [.Q .none 12 (J.map enc)]),(14,.box qt [.Q .none 1 (dz aZ),.Q .none 1 (dz co)])]) (λx=>K-x.1) ⟨0,by omega⟩ [(46,46),(47,47),(3,3),(14,14)] ⟨ar,rfl,bb⟩ ?_;rintro⟨j,ad⟩;dsimp only;refine go ?_;refine .inr (af.L7 47 (dV:=9) (ek:=4) rfl rfl as7 rfl rfl rfl ?_);refine aJ _ rfl ?_ ?_<;>intro hc;refine go ?_;have AD:kd v aZ co j∈gs:=atw hc;(have FX:j<K:=axc);refine go ?_;refine bp (Ja v aZ co (j+1) asZ asZ asZ) ?_;exact⟨⟨j+1,by omega⟩,[(46,46),(47,47),(3,3),(14,14)],by show K-(j+1)<K-j;omega,ar,rfl,bb⟩;refine go ?_;have AD:kd v aZ co j∉gs:=atl hc;(have FX:j=K:=by rcases ats j K with h|h;exact absurd (kV.2.2 j h) AD;omega);subst FX;refine go ?_;refine .inr (af.D_ 47 (dV:=9) (ek:=4) rfl rfl rfl rfl rfl rfl ?_);refine go ?_;refine .inr (af.ej aM 46 rfl rfl rfl rfl rfl rfl rfl asZ (by simp[aN,Oo];omega) ?_);refine go ?_;refine .inr (af.mg aM 46 (i:=t) as5 rfl rfl rfl (by simp[aN,Oo];omega) rfl ?_);refine go ?_;exact⟨⟨t+1,by omega⟩,[(46,46),(47,47),(3,3)],by show _-(t+1)<_-t;omega,ar,rfl,rfl,as' (λV=>some (aI.row dy V 1 9)) (by rw[<-yQ];exact x3),rfl,as' (λV=>some (aI.set l2 V)) (by dsimp only;rw[x2,yQ]),rfl,bb⟩;refine go ?_;exfalso;rcases W with rfl|rfl<;>cases hc;refine wM ?_;(have xc:t=J.length:=by simp[eh]at hc;omega);(have FG:aN (jX v (J.take t)).reverse++List.replicate (J.length-t) (D.O [])=aN (uA v J):=by subst xc;rw[atC (atg _)];simp[uA]);rw[FG];refine X.fb [(9,.al dy)] [(46,.row dy (aN (uA v J)) 1 9)] [(46,46)] ⟨ar,rfl,bb⟩ ?_;exact axG
theorem WA(aW:dc B){v:Int}(W:v=0\/v=1):Cx B v (uA v) :=
 ⟨λag gP mz cD=>⟨ah3 aW v W ag gP cD mz,by simp[uA,CD],by
  rw[uA,at4,awt];exact(at4.1 (Ok v ag gP)).imp Ne.symm,λm hm=>ah1 v ag gP m (List.mem_reverse.1 hm)⟩⟩
theorem ah4(h:en r=true):en (lu r)=true:=by unfold lu;split;decide;exact h
theorem ah5(h:en r=true):en (h8 r)=true:=by obtain⟨h1,A,Z⟩:=(sg r).1 h;unfold h8;split;exact(sg _).2 ⟨by omega,by omega,by omega⟩;split;exact h;decide
theorem Jb{v:Int}(h:en r=true):en (e4 v r)=true:=by unfold e4;split;exact ah5 h;exact ah4 h
end Go.bS.cj


namespace Go.bS.cj
open Go Go.Proofs
variable{B:World}
theorem WB(r:Int)(l:List Int):cw (r::l)=(Utf8.encode r).data.toList++cw l:=by simp[cw]
end Go.bS.cj

namespace Go.bS.cj
open Go Go.Proofs
variable{B:World}
def ra(v:Int)(ak:List as8)(k:aa):as8:=if v=0\/v=1 then yP v ak k else k.name
def hj(v:Int)(ag:List aa):List as8:=ag.foldl (λak k=>ra v ak k::ak) []
def ce(v:Int)(ag:List aa):List as8:=(hj v ag).reverse
theorem xi(v:Int)(ag:List aa)(k:aa):hj v (ag++[k])=ra v (hj v ag) k::hj v ag:=by simp[hj]
theorem th(v:Int)(ag:List aa):(hj v ag).length=ag.length:=by refine xh (p:=λag=>(hj v ag).length=ag.length) rfl (λl x aY=>?_) ag;rw[xi];simp[aY]
variable{ag:List aa}{t:Nat}
theorem Oq{v:Int}(h:t<ag.length):hj v (ag.take (t+1))=ra v (hj v (ag.take t)) ag[t]::hj v (ag.take t):=by rw[atc h,xi]
def yR(n:aa):List D:=[.O n.name,u n.kind,.O n.d7,.O n.target,u n.cx,u n.n2,u n.n3,u n.n4,u n.n5,u n.n6,.Q .none 12 (n.J.map enc),.Q .none 2 (n.bN.map c6)]
end Go.bS.cj





namespace Go.bS.cj
open Go Go.Proofs
variable{B:World}
theorem oo(v:Int)(ag:List aa):(ce v ag).length=ag.length:=by simp[ce,th]
end Go.bS.cj

namespace Go.bS.cj
open Go Go.Proofs
variable{B:World}
theorem Jc{v:Int}(W:v=0\/v=1):ce v=uA v:=by funext ag;rw[ce,uA];congr 1;refine xh (p:=λag=>hj v ag=jX v ag) rfl (λl x aY=>?_) ag;rw[xi,FW,aY,ra,as_ W]
theorem FY{v:Int}(W:v=2\/v=3):ce v=λag=>ag.map aa.name:=by funext ag;rw[ce];refine xh (p:=λag=>(hj v ag).reverse=ag.map aa.name) rfl (λl x aY=>?_) ag;rw[xi,ra,as9 asZ,avf,aY];simp
theorem WC{v:Int}(h:j8 v=true):v=0\/v=1\/v=2\/v=3:=by simp[j8]at h;omega
theorem Ot(aW:dc B){v:Int}(h:j8 v=true):Cx B v (ce v):=by rcases WC h with h|h|h|h;rw[Jc (.inl h)];exact WA aW (.inl h);rw[Jc (.inr h)];exact WA aW (.inr h);rw[FY (.inl h)];exact N9 aW (.inl h);rw[FY (.inr h)];exact N9 aW (.inr h)
theorem WD:∀l:List nu,lT l<=k1 l
 |[]=>by simp[lT]
 |s::r=>by have:=WD r;simp only[lT,k1];omega
mutual
theorem WE:∀n:aa,2*n.name.length+2+aB n<=2*vE n
 |.mk a b c d e f g h i j ag cC=>by
  have h1:=WF ag;have A:=WD cC;simp only[aB,vE];omega
theorem WF:∀l:List aa,eI l<=2*ln l
 |[]=>by simp[eI]
 |n::r=>by
  have h1:=WE n;have A:=WF r;simp only[eI,ln];omega
end
theorem yS{n:aa}{s:Int}(h:og n s=true):(aB n:Int)<=2*s/\fH n<=40:=by simp only[og,atd,atS]at h;have:=WE n;omega
theorem ah6{a b:List aa}(h:a.Perm b):eI a=eI b:=by induction h with|nil=>rfl|cons x _ aY=>simp only[eI,aY]|swap x y l=>simp only[eI];omega|trans _ _ h1 A=>exact h1.trans A
def Jd(aX:List aa->List as8):Prop:=∀ag:List aa,ag.length<=64->gM ag->(∀k∈ag,dQ k.name=true/\k.name.length<1000000000)->∀m∈aX ag,m.length<=1100
theorem ah7(aW:dc B){v:Int}(h:j8 v=true):Jd (ce v):=λag h1 A Z=>((Ot aW h).call ag h1 A Z).2.2.2
mutual
theorem WG(aX:List aa->List as8)(v:Int)(hs:Jd aX):∀(n:aa) (d:Int),il n->aB (jw aX v d n)+2200<=aB n+2200*fH n
 |.mk a b c t e f g h i j ag cC,d,h1=>by
  simp only[il]at h1;have A:=WH aX v hs ag (aX ag) (d+1) h1.2.2.2 (hs ag h1.1 h1.2.2.1 λk Y=>(q_ h1.2.2.2 Y).1);have Z:=ah6 (Az (fP aX v (d+1) ag (aX ag)));have aD:lT (if v=3 then cC else[])<=lT cC:=by split<;>simp[lT]
  simp only[jw,aB,fH];rw[Z];omega
theorem WH(aX:List aa->List as8)(v:Int)(hs:Jd aX):∀(l:List aa) (cS:List as8) (d:Int),xd l->(∀m∈cS,m.length<=1100)->eI (fP aX v d l cS)<=eI l+2200*eX l
 |[],cS,d,_,_=>by simp[fP,eI]
 |k::r,[],d,_,_=>by simp[fP,eI]
 |k::r,m::cS,d,h1,hm=>by
  simp only[xd]at h1;have A:=WH aX v hs r cS d h1.2 λx I=>hm x (ato _ I);have Z:=WG aX v hs k d h1.1.2;have aD:=hm m atk;have bc:aB ((jw aX v d k).named m)=aB (jw aX v d k):=FJ _ _;simp only[fP];split
  ·simp only[eI,eX];have cL:((jw aX v d k).named m).name=m:=rfl;rw[bc,cL];omega
  simp only[eI,eX];omega
end
theorem ah8(aX:List aa->List as8)(v d:Int)(n:aa):(jw aX v d n).name=n.name:=by rw[FI]
theorem ah9(aX:List aa->List as8)(v:Int)(hs:Jd aX){n:aa}(W:valid n=true)(M:og n 100000=true):eY (jw aX v 1 n)/\aB (jw aX v 1 n)<300000:=by have h1:=WG aX v hs n 1 (AB W);have A:=yS M;(have Z:n.name=[]:=by rw[vT,atd]at W;exact(AA W.2).1.FN rfl);unfold eY;rw[ah8,Z];simp only[atD];omega
section
variable{S:Type}(gz:as8->as8->S->S)(aX:List aa->List as8)(v:Int)
end
end Go.bS.cj




namespace Go.bS.cj
open Go Go.Proofs
variable{B:World}{i:Nat}
theorem ah_{l:List aa}(h:i<l.length):(l.take i).map aE++[aE l[i]]=(l.take (i+1)).map aE:=by rw[au',ata h,atO];rfl
theorem ah':∀(bC:Nat) (n:aa),aB n<bC->aB n<1000000000->aU B 53 [aE n] (aE n):=by refine λbC=>Nat.rec (λn h=>absurd h (auI _)) (λbC aY n hN bH=>?_) bC;(have iX:2*n.bN.length<=aB n:=by have:=EC n.bN;have:=lU n;omega);(have eR:2*n.J.length<=aB n:=by have:=z1 n.J;have:=lU n;omega);refine bA Tryz.func53 Tryz.ntmps53 λU=>?_;refine ck ?_;intro dB;(conv=>whnf);intro cg;refine lc ?_;refine⟨[.Q .none 2 (n.bN.map c6)],_,λ_=>UM n.bN asZ,ar,?_⟩;apply cB;refine i1 ?_;refine i1 ?_;refine ns ?_;refine X.jp 1 (du:=[.O n.name,u n.kind,.O n.d7,.O n.target,u n.cx,u n.n2,u n.n3,u n.n4,u n.n5,u n.n6,.al (.slice none 0 0),.Q .none 2 (n.bN.map c6)]) rfl ⟨E,E,E,E,E,E,E,E,E,E,aq.qR,E,ai⟩ ?_;refine X.p2 109 12 44 ?_;refine X.ec (α:={x:Nat×Value // x.1<=n.J.length}) (λx=>[(1,.box 1 dB 0),(2,.box 2 cg 0),(13,.Q .none 12 (n.J.map enc)),(14,u (n.J.map enc).length),(15,u x.1.1)]) (λx=>[(2,.box cg [.O [],u 0,.O [],.O [],u 0,u 0,u 0,u 0,u 0,u 0,.bj,.bj]),(1,.box dB [.O n.name,u n.kind,.O n.d7,.O n.target,u n.cx,u n.n2,u n.n3,u n.n4,u n.n5,u n.n6,.al x.1.2,.Q .none 2 (n.bN.map c6)]),(109,.row x.1.2 ((n.J.take x.1.1).map aE) 12 44)]) (λx=>n.J.length-x.1.1) ⟨(0,.slice none 0 0),atq _⟩ [(2,2),(1,1),(109,109)] ⟨ar,rfl,rfl,rfl,rfl,rfl,rfl,as' (λV=>some (aI.row (.slice none 0 0) V 12 44)) as1,ai⟩ ?_;rintro⟨⟨i,gO⟩,hi⟩;dsimp only at hi⊢;apply b2;apply ep;refine aJ (decide ((i:Int)<(n.J.map enc).length)) rfl ?_ ?_<;>intro hc;apply cr;refine kx ?_;apply b2;(have aH:i<n.J.length:=by simpa using hc);have N4:=rY aH;refine wN ?_;refine⟨aE n.J[i],λ_=>rZ aH,?_⟩;(conv=>whnf);intro cJ;refine eB ?_;refine X.zI aM 5 mixed as4 ?_;apply cB;refine eB ?_;refine⟨[aE n.J[i]],_,λ_=>aY n.J[i] asZ asZ,ar,?_⟩;(conv=>whnf);refine pg ?_;refine .inr (af.oJ aM 109 rfl rfl rfl as6 rfl rfl rfl (avq) ?_ ?_ λbQ yT cap=>?_);show(_+1)*152<=_;simp;omega;show _+1<=_;simp;omega;apply mi;apply cB;refine np ?_;exact⟨⟨(i+1,.slice bQ yT cap),aH⟩,[(2,2),(1,1),(109,24)],by show _-(i+1)<_-i;omega,ar,rfl,rfl,rfl,rfl,rfl,rfl,as' (λV=>some (aI.row (.slice bQ yT cap) V 12 44)) (by exact ah_ aH),ai⟩;refine X.exit ?_;(have cd:i=n.J.length:=by simp at hc;omega);(have dM:(n.J.take i).map aE=n.J.map enc:=by subst cd;rw[ati,show enc=aE from funext rQ]);rw[dM];refine X.HE 109 1 10 rfl rfl as2 rfl ?_;refine i1 ?_;apply cB;apply Ee;refine eB ?_;exact aq.of_eq rfl
mutual
def pA:aa->List (List as8)
 |.mk _ _ _ _ _ _ _ _ _ _ ag _=>[]::sk ag
def sk:List aa->List (List as8)
 |[]=>[]
 |k::r=>(pA k).map (λq=>k.name::q)++sk r
end
theorem Je(n:aa):pA n=[]::sk n.J:=by cases n;simp only[pA]
def pB(q:as8)(ag:List aa):Option aa:=ag.find? λk=>k.name==q
def jc:aa->List as8->Option aa
 |n,[]=>some n
 |n,m::cS=>match pB m n.J with
  |some k=>jc k cS
  |none=>none
theorem Jf:∀{ag:List aa} {p:List as8},p∈sk ag↔∃k∈ag,∃q∈pA k,p=k.name::q
 |[],p=>by simp[sk]
 |k::r,p=>by have aY:=Jf (ag:=r) (p:=p);simp only[sk,atB,aty,atu,aY];constructor;rintro(⟨q,G,rfl⟩|⟨x,I,q,G,rfl⟩);exact⟨k,.inl rfl,q,G,rfl⟩;exact⟨x,.inr I,q,G,rfl⟩;rintro⟨x,rfl|I,q,G,rfl⟩;exact .inl ⟨q,G,rfl⟩;exact .inr ⟨x,I,q,G,rfl⟩
theorem aia(n:aa):[]∈pA n:=by rw[Je];exact atk
theorem Ou{n:aa}{m:as8}{q:List as8}:m::q∈pA n↔∃k∈n.J,k.name=m/\q∈pA k:=by rw[Je,atu,Jf];constructor;rintro(h|⟨k,Y,rF,G,h⟩);cases h;cases h;exact⟨k,Y,rfl,G⟩;rintro⟨k,Y,rfl,G⟩;exact .inr ⟨k,Y,q,G,rfl⟩
variable{ag:List aa}
theorem aib(h:gM ag){x y:aa}(I:x∈ag)(hy:y∈ag)(e:x.name=y.name):x=y:=by obtain⟨i,hi,rfl⟩:=atP.1 I;obtain⟨j,ad,rfl⟩:=atP.1 hy;rcases avD i j with l|l|l;exact absurd e (s6 (r' h l ad));subst l;rfl;exact absurd e.symm (s6 (r' h l hi))
theorem aic(h:gM ag){k:aa}(Y:k∈ag):pB k.name ag=some k:=by unfold pB;cases M:ag.find? (λx=>x.name==k.name)with|none =>have:=auY.1 M k Y;simp at this|some x =>have h1:=av' M;have A:=List.find?_some M;rw[aib h h1 Y (by simpa using A)]
theorem WI{q:as8}{k:aa}(h:pB q ag=some k):k∈ag/\k.name=q :=
 ⟨av' h,by simpa using List.find?_some h⟩
theorem WJ{n k:aa}{m:as8}{q:List as8}(hi:gM n.J)(Y:k∈n.J)(e:k.name=m):jc n (m::q)=jc k q:=by subst e;simp only[jc,aic hi Y]
theorem Ov{n:aa}(h:il n):gM n.J:=((tc n).1 h).2.2.1
theorem Jg{n k:aa}(h:il n)(Y:k∈n.J):il k:=(q_ ((tc n).1 h).2.2.2 Y).2
theorem aid{n k:aa}(h:il n)(Y:k∈n.J):dQ k.name=true:=(q_ ((tc n).1 h).2.2.2 Y).1.1
theorem Ow:∀(q:List as8) (n:aa),il n->(q∈pA n↔∃x,jc n q=some x)
 |[],n,h=>by simp[jc,aia]
 |m::q,n,h=>by rw[Ou];constructor;rintro⟨k,Y,rfl,G⟩;rw[WJ (Ov h) Y rfl];exact(Ow q k (Jg h Y)).1 G;rintro⟨x,I⟩;simp only[jc]at I;cases M:pB m n.J with|none=>rw[M]at I;cases I|some k =>rw[M]at I;obtain⟨h1,A⟩:=WI M;exact⟨k,h1,A,(Ow q k (Jg h h1)).2 ⟨x,I⟩⟩
def lw(q:List as8):as8:=q.flatMap λm=>47::m
def nF:List as8->as8
 |[]=>[]
 |m::r=>m++lw r
mutual
def dA:aa->as8->Int->List as8
 |.mk _ _ _ _ _ _ _ _ _ _ ag _,p,l=>p::jY ag p l
def jY:List aa->as8->Int->List as8
 |[],_,_=>[]
 |k::r,p,l=>dA k (below p k.name (l+1)) (l+1)++jY r p l
end
theorem Ox(n:aa)(p:as8)(l:Int):dA n p l=p::jY n.J p l:=by cases n;simp only[dA]
mutual
theorem WK:∀(n:aa) (p:as8) (l:Int),2<=l->dA n p l=(pA n).map λq=>p++lw q
 |.mk _ _ _ _ _ _ _ _ _ _ ag _,p,l,h=>by
  simp only[dA,pA,atG];rw[WL ag p l h];simp[lw]
theorem WL:∀(ag:List aa) (p:as8) (l:Int),2<=l->jY ag p l=(sk ag).map λq=>p++lw q
 |[],p,l,h=>rfl
 |k::r,p,l,h=>by
  simp only[jY,sk,atO,avl];rw[WL r p l h,WK k _ (l+1) asZ,below,as9 asZ];congr 1
  refine avK λq _=>?_;simp[lw]
end
theorem WM:∀(ag:List aa),jY ag [] 1=(sk ag).map nF
 |[]=>rfl
 |k::r=>by simp only[jY,sk,atO,avl];rw[WM r,WK k _ _ asZ,below,as_ asZ];congr 1
theorem Oy(n:aa):dA n [] 1=(pA n).map nF:=by rw[Ox,Je,WM];rfl
theorem WN:∀(cS:List as8) (p:as8),(47:UInt8)∉p->(∀m∈cS,(47:UInt8)∉m)->cR 47 [] (p++lw cS)=p::cS
 |[],p,aw,_=>by simp[lw,M6 p [] aw]
 |m::r,p,aw,h=>by(have e:p++lw (m::r)=p++47::(m++lw r):=by simp[lw]);rw[e,M7 p [] _ aw,WN r m (h m atk) λx I=>h x (ato _ I)];simp
def xj(q:List as8):Prop:=∀m∈q,dQ m=true
theorem WO{m:as8}(h:dQ m=true):(47:UInt8)∉m:=by intro hm;unfold dQ at h;rw[as_ (.inr (.inr hm))]at h;cases h
theorem Oz{q:List as8}(h:xj q):nF q=[]↔q=[]:=by cases q with|nil=>simp[nF]|cons m r =>have:=ahh (h m atk);simp[nF,this]
theorem OA{q:List as8}(h:xj q)(G:q≠[]):cR 47 [] (nF q)=q:=by cases q with|nil=>exact absurd rfl G|cons m r=>exact WN r m (WO (h m atk)) λx I=>WO (h x (ato _ I))
theorem aie{q rF:List as8}(h:xj q)(bz:xj rF)(e:nF q=nF rF):q=rF:=by by_cases h0:q=[];subst h0;exact((Oz bz).1 (by rw[<-e];rfl)).symm;have h1:rF≠[]:=λA=>h0 ((Oz h).1 (by rw[e,A];rfl));rw[<-OA h h0,e,OA bz h1]
theorem OB:∀(q:List as8) (n:aa),il n->q∈pA n->xj q
 |[],n,_,_=>λm hm=>by cases hm
 |m::q,n,h,G=>by obtain⟨k,Y,e,G⟩:=Ou.1 G;intro x I;rcases atu.1 I with rfl|I;rw[<-e];exact aid h Y;exact OB q k (Jg h Y) G x I
mutual
theorem xk:∀(n:aa) (p:as8) (l:Int),(dA n p l).length=fH n
 |.mk _ _ _ _ _ _ _ _ _ _ ag _,p,l=>by
  have:=Jh ag p l;simp only[dA,fH,ath];omega
theorem Jh:∀(ag:List aa) (p:as8) (l:Int),(jY ag p l).length=eX ag
 |[],p,l=>rfl
 |k::r,p,l=>by
  have h1:=xk k (below p k.name (l+1)) (l+1);have A:=Jh r p l;simp only[jY,eX,atf];omega
end
theorem OC:∀{ag:List aa} {i:Nat} (h:i<ag.length) (p:as8) (l:Int),jY (ag.take (i+1)) p l=jY (ag.take i) p l++dA ag[i] (below p ag[i].name (l+1)) (l+1)
 |k::r,0,_,p,l=>by simp[jY]
 |k::r,i+1,h,p,l=>by have:=OC (ag:=r) (i:=i) (by simpa using h) p l;simp only[auP,jY,auA];rw[this];simp
theorem aif:∀(bC:Nat) (n:aa),aB n<bC->aB n<10000000->∀(p:as8) (l:Int),1<=l->p.length+aB n<100000000->l+aB n<1000000000->aU B 136 [aE n,.O p,u l] (.Q .none 1 (aN (dA n p l))):=by refine λbC=>Nat.rec (λn h=>absurd h (auI _)) (λbC aY n hN bH p l aj aw xl=>?_) bC;refine bA Tryz.func136 Tryz.ntmps136 λU=>?_;refine ck ?_;intro eG;refine ck ?_;refine⟨ai,?_⟩;refine ns ?_;refine X.own 7 1000 1 9 rfl (λw=>?_);refine X.ec (α:={i:Nat // i<=n.J.length}×Value) (λx=>[(1,.O p),(2,u l),(3,.box 3 eG 0),(7,.Q (.own 1000 x.2) 1 (aN (p::jY (n.J.take x.1.1) p l))),(8,u x.1.1)]) (λx=>[(3,.box eG [.O n.name,u n.kind,.O n.d7,.O n.target,u n.cx,u n.n2,u n.n3,u n.n4,u n.n5,u n.n6,.Q .none 12 (n.J.map enc),.Q .none 2 (n.bN.map c6)]),(1000,.own x.2 (aN (p::jY (n.J.take x.1.1) p l)).length 1 9)]) (λx=>n.J.length-x.1.1) (⟨0,atq _⟩,w) [(3,3),(1000,1000)] ⟨ar,rfl,bb⟩ ?_;rintro⟨⟨i,hi⟩,w⟩;dsimp only at hi⊢;refine p8 ?_;refine aJ _ rfl ?_ ?_<;>intro hc;refine ff ?_;(have aH:i<n.J.length:=by simpa using hc);have N4:=rY aH;have eA:=BU p n.J[i].name (l+1);have cX:=OC aH p l;have mW:=Jh (n.J.take i) p l;have bi:=Nj n.J i;have Bj:=EG n.J;have aig:=lU n;have eR:=xk n.J[i] (below p n.J[i].name (l+1)) (l+1);have b5:=BW n.J[i];have sU:=z1 n.J;refine kx ?_;refine X.Br aM 18 mixed as4 ?_;refine mj ?_;refine⟨aE n.J[i],λ_=>n7 aH,?_⟩;refine mj ?_;refine⟨aE n.J[i],λ_=>n7 aH,?_⟩;(conv=>whnf);refine⟨[.O p,.O n.J[i].name,u l],_,λ_=>S_ p n.J[i].name l asZ aj,ar,?_⟩;refine lb ?_;refine⟨[aE n.J[i],.O (below p n.J[i].name (l+1)),u (l+1)],_,λ_=>aY n.J[i] asZ asZ (below p n.J[i].name (l+1)) (l+1) asZ asZ asZ,ar,?_⟩;(conv=>whnf);refine Md ?_;refine⟨by show(_+_)*16<=_;simp[aN];omega,by show _+_<=_;simp[aN];omega,as6,λv=>?_⟩;refine np ?_;(have ao:aN (p::jY (n.J.take i) p l)++aN (dA n.J[i] (below p n.J[i].name (l+1)) (l+1))=aN (p::jY (n.J.take (i+1)) p l):=by rw[cX];simp[aN]);exact⟨(⟨i+1,aH⟩,v),[(3,3),(1000,36)],axN,⟨E,E,E,aq.j6 ao,E,ai⟩,rfl,rfl,rfl,rfl,ky (by rw[<-ao,atf]),ai⟩;refine qT ?_;(have cd:i=n.J.length:=by simp at hc;omega);have e:n.J.take i=n.J:=atC asZ;rw[e,<-Ox];exact aq.mT
theorem aih(n:aa)(ax:eY n)(W:valid n=true):aU B 87 [aE n] (.Q .none 1 (aN (dA n [] 1))):=by refine bA Tryz.func87 Tryz.ntmps87 λU=>?_;refine ck ?_;intro dB;refine f' ?_;refine eB ?_;refine⟨[aE n],_,λ_=>T' n ax,ar,?_⟩;refine aJ _ rfl ?_ ?_<;>intro hc;apply ep;exfalso;rw[W]at hc;cases hc;apply cr;refine lc ?_;have bH:=ax;unfold eY at bH;refine⟨[aE n,.O [],u 1],_,λ_=>aif _ n (atX _) asZ [] 1 asZ as0 asZ,ar,?_⟩;refine iB ?_;exact E
def eD(n:aa)(s:as8):aa×Int :=
 if s=[]then(n,0)else match jc n (cR 47 [] s)with
  |some x=>(x,0)
  |none=>(ux,6)
theorem aii{q:List as8}(h:xj q)(n:aa):eD n (nF q)=match jc n q with|some x=>(x,0)|none=>(ux,6):=by unfold eD;by_cases h0:q=[];subst h0;rfl;rw[as9 (λe=>h0 ((Oz h).1 e)),OA h h0]
theorem WP(n:aa)(q:as8):(s5 n q=-1/\pB q n.J=none)\/∃(i:Nat) (h:i<n.J.length),s5 n q=i/\pB q n.J=some n.J[i]:=by cases M:pB q n.J with|none =>refine .inl ⟨?_,rfl⟩;unfold pB at M;(exact zN λj ad=>by simpa using auY.1 M _ (ate ad))|some k =>unfold pB at M;obtain⟨h1,i,A,Z,aD⟩:=List.find?_eq_some_iff_getElem.1 M;refine .inr ⟨i,A,?_,by rw[Z]⟩;exact zM (p:=λk:aa=>k.name==q) A (λj ad fq=>by simpa using aD j fq) (by rw[Z];exact h1)
theorem OD:∀(q:List as8) (n x:aa),jc n q=some x->aB x<=aB n
 |[],n,x,h=>by simp only[jc,atQ]at h;subst h;exact atg _
 |m::q,n,x,h=>by simp only[jc]at h;cases M:pB m n.J with|none=>rw[M]at h;cases h|some k =>rw[M]at h;obtain⟨i,hi,e⟩:=atP.1 (WI M).1;have h1:=rY hi;have A:=OD q k x h;rw[e]at h1;omega
theorem WQ:∀(q:List as8) (n:aa),q∈pA n->(lw q).length<=aB n
 |[],n,_=>by simp[lw]
 |m::q,n,h=>by obtain⟨k,Y,rfl,G⟩:=Ou.1 h;obtain⟨i,hi,rfl⟩:=atP.1 Y;have:=rY hi;have:=WQ q _ G;simp only[lw,auc,atf,ath]at this⊢;omega
theorem aij(k:aa)(q:as8):aU B 85 [aE k,.a8 1 [.O q] 0 0] (.bool (k.name==q)):=by refine bA Tryz.func85 Tryz.ntmps85 λU=>?_;refine ck ?_;intro b;refine i1 ?_;refine x6 (.O q) ?_;refine go ?_;exact E
theorem aik(l:List aa)(q:as8)(aj:l.length<1000000000):aU B 84 [.Q .none 12 (l.map enc),.fn (.func 85) [] [.a8 1 [.O q] 0 0]] (u (e2 (λk:aa=>k.name==q) l)):=by refine bA Tryz.func84 Tryz.ntmps84 λU=>?_;refine go ?_;refine X.loop (α:={i:Nat // i<=l.length/\∀j (h:j<l.length),j<i->((l[j]).name==q)=false}) (λx=>[(0,.Q .none 12 (l.map enc)),(1,.fn (.func 85) [] [.a8 1 [.O q] 0 0]),(7,u (l.map enc).length),(8,u x.1)]) (λ_=>[]) (λx=>l.length-x.1) ⟨0,by simp⟩ ar trivial ?_;rintro⟨i,hi,aw⟩;dsimp only;refine go ?_;refine aJ (decide ((i:Int)<(l.map enc).length)) rfl ?_ ?_<;>intro hc;apply cr;refine kx ?_;apply b2;(have aH:i<l.length:=by simpa using hc);refine ck ?_;refine p5 ?_;refine⟨aE l[i],λ_=>n7 aH,?_⟩;refine go ?_;refine bp (aij l[i] q) ?_;refine aJ _ rfl ?_ ?_<;>intro hc;refine go ?_;exact dr (zM (p:=λk:aa=>k.name==q) aH aw hc).symm;refine go ?_;exact⟨⟨i+1,by omega,λj ad bi=>(avc.1 bi).elim (aw j ad) λe=>by subst e;exact hc⟩,by show _-(i+1)<_-i;omega,ar,ai⟩;refine go ?_;exact axh
def yU:List D->Nat->aa->List as8->D
 |xs,j,n,[]=>.a8 12 xs j 0
 |xs,j,n,m::r=>if s5 n m<0 then .al (.pointer none)else match n.J[(s5 n m).toNat]? with
  |some k=>yU (n.J.map enc) (s5 n m).toNat k r
  |none=>.al (.pointer none)
theorem WR:∀(r:List as8) (xs:List D) (j:Nat) (n:aa),xs[j]?=some (aE n)->(jc n r=none/\yU xs j n r=.al (.pointer none))\/∃m a' i,jc n r=some m/\yU xs j n r=.a8 12 a' i 0/\a'[i]?=some (aE m)
 |[],xs,j,n,h=>.inr ⟨n,xs,j,rfl,rfl,h⟩
 |m::r,xs,j,n,h=>by simp only[jc,yU];rcases WP n m with⟨h1,A⟩|⟨i,hi,h1,A⟩;rw[h1,A];exact .inl ⟨rfl,as_ as2⟩;rw[h1,A,as9 asZ,show((i:Nat):Int).toNat=i from rfl,ata hi];exact WR r _ i _ (rZ hi)
theorem ail(aW:dc B)(s:as8)(hs:s.length<1000000000)(xs:List D)(j:Nat)(n:aa)(ad:xs[j]?=some (aE n))(bH:aB n<1000000000):aU B 52 [.a8 12 xs j 0,.O s] (if s=[]then .a8 12 xs j 0 else yU xs j n (cR 47 [] s)):=by refine bA Tryz.func52 Tryz.ntmps52 λU=>?_;refine go ?_;refine aJ _ rfl ?_ ?_<;>intro hc;refine go ?_;exact aq.of_eq (as_ (by simpa using hc)).symm;refine go ?_;(have a6:s≠[]:=by simpa using hc);refine go ?_;refine bp (Ip aW s 47 hs) ?_;refine X.loop (α:={x:Nat×List D×Nat×aa // x.1<=(cR 47 [] s).length/\x.2.1[x.2.2.1]?=some (aE x.2.2.2)/\yU x.2.1 x.2.2.1 x.2.2.2 ((cR 47 [] s).drop x.1)=yU xs j n (cR 47 [] s)/\aB x.2.2.2<1000000000}) (λx=>[(0,.a8 12 x.1.2.1 x.1.2.2.1 0),(12,.Q .none 1 (aN (cR 47 [] s))),(13,u (aN (cR 47 [] s)).length),(14,u x.1.1)]) (λ_=>[]) (λx=>(cR 47 [] s).length-x.1.1) ⟨(0,xs,j,n),atq _,ad,rfl,bH⟩ ⟨E,aq.dR,E,E,ai⟩ trivial ?_;rintro⟨⟨i,a',oW,m⟩,hi,hm,N,aim⟩;obtain⟨eS,_⟩:=s1 (c:=47) s [];dsimp only at hi hm N aim⊢;refine go ?_;refine aJ (decide ((i:Int)<(aN (cR 47 [] s)).length)) rfl ?_ ?_<;>intro hc;apply cr;refine kx ?_;apply b2;(have aH:i<(cR 47 [] s).length:=by simpa[aN]using hc);have eR:=vn m;have lh:(cR 47 [] s).drop i=(cR 47 [] s)[i]::(cR 47 [] s).drop (i+1):=aue aH;(conv=>whnf);refine⟨λ_=>by simp[aN];omega,?_⟩;refine go ?_;refine⟨.O (cR 47 [] s)[i],λ_=>by simp[aN,aH],?_⟩;refine go ?_;intro b;(conv=>whnf);refine c1 ?_;apply ep;refine X.BF 6 6 (.O (cR 47 [] s)[i]) rfl rfl rfl rfl ?_;refine tV ?_;(conv=>whnf);refine⟨rfl,ai,.inr (af.Mi rfl ?_)⟩;refine jq ?_;refine⟨rfl,ai,.inl ⟨aE m,λ_=>hm,?_⟩⟩;refine jq ?_;refine⟨rfl,ai,.inl ⟨[.Q .none 12 (m.J.map enc),.fn (.func 85) [] [.a8 1 [.O (cR 47 [] s)[i]] 0 0]],_,λ_=>aik m.J _ asZ,ar,?_⟩⟩;apply d_;refine go ?_;refine aJ (decide (s5 m (cR 47 [] s)[i]<0)) rfl ?_ ?_<;>intro hc;refine go ?_;refine aq.of_eq ?_;rw[as9 a6,<-N,lh];exact(as_ (by simpa using hc)).symm;refine ff ?_;(have rU:∃(hp:Nat) (h:hp<m.J.length),s5 m (cR 47 [] s)[i]=hp/\pB (cR 47 [] s)[i] m.J=some m.J[hp]:=by rcases WP m (cR 47 [] s)[i]with⟨h1,_⟩|h;rw[h1]at hc;simp at hc;exact h);obtain⟨hp,lQ,ao,_⟩:=rU;have b5:=rY lQ;rw[show e2 (λk:aa=>k.name==(cR 47 [] s)[i]) m.J=(hp:Int)from ao];refine tV ?_;(conv=>whnf);refine⟨rfl,ai,.inr (af.Mi rfl ?_)⟩;refine jq ?_;refine⟨rfl,ai,.inl ⟨aE m,λ_=>hm,?_⟩⟩;refine jq ?_;refine⟨rfl,ai,.inl ⟨λ_=>by simp;omega,?_⟩⟩;apply d_;refine go ?_;exact⟨⟨(i+1,m.J.map enc,hp,m.J[hp]),aH,rZ lQ,by rw[<-N,lh];simp only[yU,ao];rw[as9 asZ,show((hp:Nat):Int).toNat=hp from rfl,ata lQ],by show aB m.J[hp]<_;omega⟩,by show _-(i+1)<_-i;omega,ar,ai⟩;refine go ?_;refine aq.of_eq ?_;(have cd:i=(cR 47 [] s).length:=by simp[aN]at hc;omega);rw[as9 a6,<-N,cd,List.drop_length];rfl
theorem WS(aW:dc B)(s:as8)(hs:s.length<1000000000)(n:aa)(ax:eY n)(W:valid n=true):aU B 17 [aE n,.O s] (.bo [aE (eD n s).1,u (eD n s).2]):=by refine bA Tryz.func17 Tryz.ntmps17 λU=>?_;have bH:=ax;unfold eY at bH;refine go ?_;intro cg;refine go ?_;intro cT;refine go ?_;refine bp (Ak aW n asZ) ?_;refine aJ _ rfl ?_ ?_<;>intro hc;refine go ?_;exfalso;rw[W]at hc;cases hc;apply cr;apply ep;refine X.BF 2 2 (aE n) rfl rfl rfl rfl ?_;(have vW:∃d,aU B 52 [.a8 12 [aE n] 0 0,.O s] d/\((d=.al (.pointer none)/\eD n s=(ux,6))\/∃m a' i,d=.a8 12 a' i 0/\a'[i]?=some (aE m)/\eD n s=(m,0)/\aB m<=aB n):=by refine⟨_,ail aW s hs [aE n] 0 n rfl asZ,?_⟩;by_cases h0:s=[];rw[as_ h0];exact .inr ⟨n,_,_,rfl,rfl,by rw[eD,as_ h0],atg _⟩;rw[as9 h0,eD,as9 h0];rcases WR (cR 47 [] s) [aE n] 0 n rfl with⟨h1,A⟩|⟨m,a',i,h1,A,Z⟩;rw[h1,A];exact .inl ⟨rfl,rfl⟩;rw[h1,A];exact .inr ⟨m,a',i,rfl,Z,rfl,OD _ _ _ h1⟩);obtain⟨d,kb,⟨rfl,fF⟩|⟨m,a',i,rfl,hi,fF,AE⟩⟩:=vW;refine m0 ?_;refine⟨[.a8 12 [aE n] 0 0,.O s],_,λ_=>kb,ar,?_⟩;apply nW;refine tV ?_;(conv=>whnf);refine⟨rfl,ai,.inr (af.acC rfl rfl ?_)⟩;refine X.cond true rfl (λhc=>?_) (λhc=>by cases hc);refine go ?_;rw[fF];exact⟨N_,E,ai⟩;refine m0 ?_;refine⟨[.a8 12 [aE n] 0 0,.O s],_,λ_=>kb,ar,?_⟩;apply nW;refine tV ?_;(conv=>whnf);refine⟨rfl,ai,.inr (af.acB rfl rfl ?_)⟩;refine X.cond false rfl (λhc=>by cases hc) (λhc=>?_);apply cr;refine nt ?_;(conv=>whnf);refine⟨rfl,ai,.inr (af.Mi rfl ?_)⟩;(conv=>whnf);refine⟨rfl,ai,.inl ⟨aE m,λ_=>hi,?_⟩⟩;(conv=>whnf);refine⟨rfl,ai,.inl ⟨[aE m],_,λ_=>ah' _ m (atX _) asZ,ar,?_⟩⟩;(conv=>whnf);refine⟨rfl,ai,.inl ⟨rfl,?_⟩⟩;apply d_;refine go ?_;rw[fF];exact⟨aq.of_eq rfl,E,ai⟩
section
variable(aX:List aa->List as8)(v:Int)
end
end Go.bS.cj


namespace Go.bS.cj
open Go Go.Proofs
variable{B:World}
def FZ(v:Int)(ag:List aa)(m:as8):as8:=(((ag.map aa.name).zip (ce v ag)).lookup m).getD []
def xm(v:Int)(J:List aa):List as8:=J.map λk=>FZ v (mA J) k.name
def CE(J:List aa):Bool:=J.all λk=>dQ k.name
def k4(v:Int)(J:List aa):List as8×Int :=
 if j8 v=false then([],2)else if 64<J.length then([],7)else if CE J=false then([],4)else if¬(J.map aa.name).Nodup then([],5)else(xm v J,0)
theorem WT:∀{a:List as8} {b:List as8} {i:Nat} (ax:a.Nodup) (h:i<a.length) (bz:i<b.length),(a.zip b).lookup a[i]=some b[i]
 |x::a,y::b,0,_,_,_=>by simp[List.lookup]
 |x::a,y::b,i+1,ax,h,bz=>by rw[ava]at ax;have aY:=WT (a:=a) (b:=b) (i:=i) ax.2 (by simpa using h) (by simpa using bz);(have a6:((a[i]'(by simpa using h))==x)=false:=by rw[atK];intro e;exact ax.1 (e ▸ ate _));simp only[List.zip_cons_cons,auA,List.lookup,a6];exact aY
variable{ag:List aa}{t:Nat}
theorem WU{v:Int}(ax:(ag.map aa.name).Nodup)(h:t<ag.length):FZ v ag ag[t].name=(ce v ag)[t]'(by rw[oo];exact h):=by have:=WT (a:=ag.map aa.name) (b:=ce v ag) (i:=t) ax (by simpa using h) (by rw[oo];exact h);rw[avJ]at this;rw[FZ,this];rfl
theorem CF(h:gM ag):(ag.map aa.name).Nodup:=by rw[at4,au2];exact aup.2 λi j hi ad d6=>s6 (r' h d6 ad)
theorem ain{v:Int}(h:gM ag):xm v ag=ce v ag:=by rw[xm,ahb h];apply aus (by simp[oo]);intro i h1 A;rw[avJ,WU (CF h)]
theorem OE:∀{L:List Nat} {t:Nat} (ax:L.Nodup) (au:t<L.length),L.idxOf L[t]=t
 |x::r,0,_,_=>by simp
 |x::r,t+1,ax,au=>by rw[ava]at ax;(have WV:t<r.length:=by simpa using au);have a6:¬(x==r[t])=true:=λe=>ax.1 (by rw[auM]at e;rw[e];exact ate WV);rw[auA,List.idxOf_cons,Bool.cond_eq_ite,as9 a6,OE ax.2 WV]
structure nG (J:List aa) (L:List Nat):Prop where
 F0:L.Perm (List.range J.length)
 aio:∀(i j:Nat) (hi:i<L.length) (ad:j<L.length),i<j->Op.bytesLess (J.getD L[j] default).name (J.getD L[i] default).name=false
def kF(J:List aa)(L:List Nat):List aa:=L.map λi=>J.getD i default
variable{j:Nat}{g:Nat->as8}
section
variable{J:List aa}{L:List Nat}
theorem nG.len(h:nG J L):L.length=J.length:=by rw[h.F0.length_eq];simp
theorem nG.lt(h:nG J L)(au:t<L.length):L[t]<J.length:=auJ.1 (h.F0.subset (ate au))
theorem nG.nodup(h:nG J L):L.Nodup:=h.F0.nodup_iff.2 List.nodup_range
theorem nG.mem(h:nG J L)(ad:j<J.length):j∈L:=h.F0.symm.subset (auJ.2 ad)
theorem OF(h:nG J L):(kF J L).Perm J:=by have h1:=h.F0.map λi=>J.getD i default;(have A:(List.range J.length).map (λi=>J.getD i default)=J:=by apply aus as1;intro i h1 A;simp at h1;simp[List.getD,h1]);rw[A]at h1;exact h1
theorem WW(h:nG J L):(kF J L).length=J.length:=(OF h).length_eq
theorem OG(h:nG J L)(au:t<L.length):(kF J L)[t]'(by simp[kF];exact au)=J[L[t]]'(h.lt au):=by simp[kF,List.getD,h.lt au]
theorem aip(h:nG J L)(ax:∀t,(h1:t+1<L.length)->(J.getD L[t] default).name≠(J.getD L[t+1] default).name):gM (kF J L):=λi hi=>by
 have lQ:i+1<L.length:=by rw[h.len,<-WW h];exact hi
 have h1:=h.aio i (i+1) asZ lQ asZ;have A:=ax i lQ;have e:∀t,(au:t<L.length)->((kF J L).getD t default)=J.getD L[t] default:=λt au=>by simp[kF,List.getD,au]
 rw[e i asZ,e (i+1) lQ]
 cases Z:Op.bytesLess (J.getD L[i] default).name (J.getD L[i+1] default).name with
 |true=>rfl
 |false=>exact absurd (w2 _ _ Z h1) A
theorem aiq(h:nG J L)(hi:gM (kF J L)):mA J=kF J L:=by refine Ny hi ((Az J).trans (OF h).symm) λi j hi ad d6=>aup.1 (N3 J) i j hi ad d6
theorem air(h:nG J L)(hi:gM (kF J L)):(J.map aa.name).Nodup:=((OF h).map aa.name).nodup_iff.1 (CF hi)
theorem ais(h:nG J L){s:Nat}(hs:s<t)(au:t<L.length)(e:(J.getD L[s] default).name=(J.getD L[t] default).name):¬(J.map aa.name).Nodup:=λax=>by
 have h1:=h.lt (t:=s) asZ;have A:=h.lt au
 have a6:L[s]≠L[t]:=λe=>by
  have:=(aup.1 (at4.1 h.nodup)) s t asZ au hs;exact this e
 rw[at4,au2]at ax;have aw:=aup.1 ax;simp only[List.getD,ata h1,ata A,at7]at e;rcases avD L[s] L[t]with l|l|l
 ·exact aw _ _ h1 A l e
 ·exact a6 l
 exact aw _ _ A h1 l e.symm
def pD(n:Nat)(L:List Nat)(g:Nat->as8)(t:Nat):List D:=(List.range n).map λj=>if j∈L.take t then .O (g j)else .O []
theorem ait{n:Nat}:(pD n L g t).length=n:=by simp[pD]
theorem aiu{n:Nat}:pD n L g 0=List.replicate n (.O []):=by apply aus (by simp[pD]);intro i h1 A;simp[pD]
theorem aiv{n:Nat}(au:t<L.length)(aj:L[t]<n):(pD n L g t).set L[t] (.O (g L[t]))=pD n L g (t+1):=by apply aus (by simp[pD]);intro i h1 A;rw[awq];simp only[pD,avJ,avS,atc au,atB,atW];by_cases e:L[t]=i;subst e;simp;have oD:¬i=L[t]:=λh=>e h.symm;rw[as9 e];simp[oD]
theorem aiw{v:Int}(h:nG J L)(aV:∀j,(ad:j<J.length)->g j=FZ v (mA J) J[j].name):pD J.length L g L.length=aN (xm v J):=by
 apply aus (by simp[pD,aN,xm]);intro i h1 A;have hi:i<J.length:=by simpa[pD]using h1
 simp only[pD,aN,xm,avJ,avS,ati];rw[as_ (h.mem hi),aV i hi]
def ti(v:Int)(J:List aa)(L:List Nat)(j:Nat):as8:=(ce v (kF J L)).getD (L.idxOf j) []
theorem aix(h:nG J L){v:Int}(au:t<L.length):ti v J L L[t]=ra v (hj v ((kF J L).take t)) (J[L[t]]'(h.lt au)):=by(have hlen:t<(kF J L).length:=by simp[kF];exact au);rw[ti,OE h.nodup au];(have h1:t<(ce v (kF J L)).length:=by rw[oo];exact hlen);rw[List.getD,ata h1,at7,<-OG h au];(have key:∀(ag:List aa) (t:Nat) (au:t<ag.length),(ce v ag)[t]'(by rw[oo];exact au)=ra v (hj v (ag.take t)) ag[t]:=by intro ag t au;(have e:∀ag:List aa,∀m,m<=ag.length->(hj v ag).reverse.take m=(hj v (ag.take m)).reverse:=awH);have A:=e ag (t+1) asZ;(have Z:(ce v ag)[t]?=((ce v ag).take (t+1))[t]?:=by rw[atZ,as_ asZ]);have aD:(ce v ag).take (t+1)=(hj v (ag.take (t+1))).reverse:=A;rw[aD,Oq au,avf,atJ (by simp[th];omega)]at Z;(have bc:(hj v (ag.take t)).reverse.length=t:=by simp[th];omega);rw[bc,avY]at Z;rw[ata (by rw[oo];exact au)]at Z;simpa using Z);exact key _ t hlen
theorem aiy(h:nG J L){v:Int}(hi:gM (kF J L))(ad:j<J.length):ti v J L j=FZ v (mA J) J[j].name:=by
 obtain⟨t,au,rfl⟩:=atP.1 (h.mem ad);have hlen:t<(kF J L).length:=by simp[kF];exact au
 rw[aiq h hi,<-OG h au,WU (CF hi) hlen,ti,OE h.nodup au,List.getD,ata (by rw[oo];exact hlen),at7]
end
theorem aiz(J:List aa)(hlen:J.length<1000000)(dX:Nat)(v:Value): cZ B 253 [.al v,.fn (.func 254) [] [.box 2000 dX 0]] (aK [(2001,.row v (eh J.length) 1 3),(2000,.box dX [.Q .none 12 (J.map enc)])]) λd aO => d=.bo []/\∃L:List Nat,nG J L/\aO=aK [(2001,.row v (L.map encI) 1 3),(2000,.box dX [.Q .none 12 (J.map enc)])]:=by by_cases h0:0<J.length;have hc:=UF (B:=B) J h0 hlen dX v (List.finRange J.length) (by simpa using h0) (by simpa using hlen);rw[Nz]at hc;refine hc.mono ?_;rintro d aO ⟨rfl,kQ,aw,hs,rfl⟩;refine⟨rfl,kQ.map (λx=>x.1),⟨?_,λi j hi ad d6=>?_⟩,by rw[avl];rfl⟩;have:=aw.map (λx:Fin J.length=>x.1);(have e:(List.finRange J.length).map (λx:Fin J.length=>x.1)=List.range J.length:=by apply aus as1;intro i h1 A;simp);rwa [e]at this;simp only[atb]at hi ad;have:=hs i j hi ad d6;simpa[List.getD]using this;have ax:J=[]:=atm asZ;subst ax;refine(UE v _ _).mono ?_;rintro d aO ⟨rfl,rfl⟩;exact⟨rfl,[],⟨E,λi j hi=>by simp at hi⟩,rfl⟩
variable{r:Int}
theorem aiA(h:en r=true)(hi:(47:UInt8)∈(Utf8.encode r).data.toList):r=47:=by obtain⟨h1,A,Z⟩:=(sg r).1 h;obtain⟨n,rfl⟩:∃n:Nat,r=n:=⟨r.toNat,by omega⟩;(have gr:∀x:Nat,x<256->(UInt8.ofNat x).toNat=x:=λx I=>by rw[avx];omega);have arc:(47:UInt8).toNat=47:=rfl;(have a6:∀x:Nat,x<256->128<=x->(47:UInt8)≠UInt8.ofNat x:=λx I Ob e=>by have:=as' UInt8.toNat e;rw[gr x I]at this;omega);(have W:Utf8.valid (n:Int)=true:=by simp[Utf8.valid];omega);by_cases lW:n<128;(have e:(Utf8.encode (n:Int)).data.toList=[UInt8.ofNat n]:=by unfold Utf8.encode;simp only[W,aum,atE];rw[as_ lW]);rw[e,atW]at hi;have:=as' UInt8.toNat hi;rw[gr n asZ]at this;omega;exfalso;by_cases A:n<2048;(have e:(Utf8.encode (n:Int)).data.toList=[UInt8.ofNat (192+n/64),UInt8.ofNat (128+n%64)]:=by unfold Utf8.encode;simp only[W,aum,atE];rw[as9 lW,as_ A]);rw[e]at hi;simp only[atu,avI,av2]at hi;rcases hi with hi|hi;exact a6 (192+n/64) asZ asZ hi;exact a6 (128+n%64) asZ asZ hi;(have e:(Utf8.encode (n:Int)).data.toList=[UInt8.ofNat (224+n/4096),UInt8.ofNat (128+n/64%64),UInt8.ofNat (128+n%64)]:=axr);rw[e]at hi;simp only[atu,avI,av2]at hi;rcases hi with hi|hi|hi;exact a6 (224+n/4096) asZ asZ hi;exact a6 (128+n/64%64) asZ asZ hi;exact a6 (128+n%64) asZ asZ hi
theorem aiB{l:List Int}(h:∀r∈l,en r=true)(hm:(47:UInt8)∈cw l):(47:Int)∈l:=by induction l with|nil=>simp[cw]at hm|cons r l aY =>(have e:cw (r::l)=(Utf8.encode r).data.toList++cw l:=by simp[cw]);rw[e,atB]at hm;rcases hm with hm|hm;rw[aiA (h r atk) hm];exact atk;exact ato _ (aY (λx I=>h x (ato _ I)) hm)
theorem aiC{l:List Int}(h:∀r∈l,en r=true)(h1:1<=l.length)(A:l.length<=64)(Z:(47:Int)∉l)(aD:l≠[46])(bc:l≠[46,46]):dQ (cw l)=true:=by have hc:=yN l h;have hlen:=Ol l;(have N:jt [46]=some [46]:=by decide +kernel);(have yV:jt [46,46]=some [46,46]:=by decide +kernel);unfold dQ;rw[as9];(have kZ:chars (cw l)=(l,0):=by unfold chars;rw[as9 asZ,hc]);rw[kZ];simp[h1,A];rintro(e|e|e);rw[e,N]at hc;simp at hc;exact aD hc.symm;rw[e,yV]at hc;simp at hc;exact bc hc.symm;exact Z (aiB h e)
theorem aiD(r:Int):lu r≠47:=by unfold lu;split;decide;rename_i h;intro e;subst e;exact h as2
theorem WX(r:Int):h8 r≠47/\h8 r≠46:=by unfold h8;split;constructor<;>omega;split;rename_i h;constructor<;>(intro e;subst e;exact absurd h.2 as2);constructor<;>decide
theorem WY(v r:Int):e4 v r≠47:=by unfold e4;split;exact(WX r).1;exact aiD r
variable{k:Nat}
theorem OH(Y:k<100):∀r∈iL k,48<=r/\r<=57:=by revert k;(have:∀k:Fin 100,∀r∈iL k.1,48<=r/\r<=57:=by decide +kernel);intro k Y;exact this ⟨k,Y⟩
theorem aiE(Y:k<100)(h0:0<k):1<=(iL k).length:=by revert k;(have:∀k:Fin 100,0<k.1->1<=(iL k.1).length:=by decide +kernel);intro k Y h0;exact this ⟨k,Y⟩ h0
theorem OI:∀l:List Int,kE l<l.length/\-1<=kE l
 |[]=>by simp[kE]
 |x::r=>by have:=OI r;simp only[kE,ath];split;omega;split<;>omega
variable{s:as8}
theorem aiF{v:Int}(W:v=0\/v=1)(hs:dQ s=true)(bd:Bool)(Y:k<100):dQ (kd v (fQ v s bd).1 (fQ v s bd).2 k)=true:=by obtain⟨l,hc,_,_,ku,nx⟩:=I6 hs;obtain⟨F,kZ⟩:=Cz s.length s l (atg _) hc;obtain⟨sj,qu,xg⟩:=Og v hc bd;(have aiG:l≠[46]:=λe=>by subst e;(have:s=[46]:=by rw[<-F];decide +kernel);rw[this]at hs;revert hs;decide +kernel);(have aiH:l≠[46,46]:=λe=>by subst e;(have:s=[46,46]:=by rw[<-F];decide +kernel);rw[this]at hs;revert hs;decide +kernel);obtain⟨Ji,Jj⟩:=Oh (v:=v) (bd:=bd) kZ;(have OJ:1<=(gY v l bd).1.length/\(gY v l bd).1.length<=64/\(v=1->(gY v l bd).2.length<=16)/\((gY v l bd).2=[]->v=1->(gY v l bd).1=l):=by have N:=OI l;unfold gY;split;rename_i h;refine⟨by simp;omega,by simp;omega,λh1=>?_,λA=>?_⟩;rcases h.2.2.2 with Z|Z;omega;simp;omega;intro _;rw[List.drop_eq_nil_iff]at A;omega;split;rename_i h;exact⟨by simp;omega,by simp;omega,λ_=>by simp,λ_ h1=>absurd h.2.1 asZ⟩;exact⟨ku,nx,λ_=>by simp,λ_ _=>rfl⟩);(have cH:fQ v s bd=((gY v l bd).1.map (e4 v),if(gY v l bd).2=[]then[]else 46::((gY v l bd).2.map (e4 v)).take (kc v)):=aw6);rw[cH];generalize(gY v l bd).1=a at*;generalize(gY v l bd).2=b at*;dsimp only;obtain⟨Hy,CG,OK,oP⟩:=OJ;(have iM:∀r∈a.map (e4 v),en r=true/\r≠47:=λr ae=>by obtain⟨x,I,rfl⟩:=aty.1 ae;exact⟨Jb (Ji x I),WY v x⟩);generalize m5:(if b=[]then[]else 46::(b.map (e4 v)).take (kc v))=co;(have aiI:(∀r∈co,en r=true/\r≠47)/\(co=[]\/2<=co.length)/\(v=0->co.length<=4)/\(v=1->co.length<=17)/\(co=[]->b=[]):=by rw[<-m5];by_cases h:b=[];rw[as_ h];exact⟨λr ae=>by(cases ae),.inl rfl,λ_=>by(simp),λ_=>by(simp),λ_=>h⟩;rw[as9 h];(have eA:1<=b.length:=by cases b with|nil=>exact absurd rfl h|cons x r=>simp);refine⟨λr ae=>?_,.inr ?_,λh0=>?_,λh1=>?_,λe=>by cases e⟩;rcases atu.1 ae with rfl|ae;exact⟨by decide,by decide⟩;obtain⟨x,I,rfl⟩:=aty.1 (aud ae);exact⟨Jb (Jj x I),WY v x⟩;(have:1<=kc v:=by unfold kc;split<;>omega);simp;omega;(have:kc v=3:=by unfold kc;rw[as_ h0]);simp;omega;have:=OK h1;simp;omega);obtain⟨vL,w9,aiJ,aiK,aiL⟩:=aiI;have gV:=OH Y;have Jk:=FT Y;(have a1:jx v (a.map (e4 v)) co k<=a.length/\1<=jx v (a.map (e4 v)) co k/\jx v (a.map (e4 v)) co k+(iL k).length+co.length<=64/\(v=1->k=0->co=[]->jx v (a.map (e4 v)) co k=a.length):=by unfold jx om;rw[atb];rcases W with rfl|rfl;have:=aiJ rfl;rw[show((0:Int)==1)=false from rfl,aun];refine⟨by split<;>split<;>omega,by split<;>split<;>omega,by split<;>split<;>omega,λh=>by omega⟩;have:=aiK rfl;rw[show((1:Int)==1)=true from rfl,auS];refine⟨by split<;>split<;>omega,by split<;>split<;>omega,by split<;>split<;>omega,λ_ h0 h1=>?_⟩;subst h0 h1;have:(iL 0).length=0:=rfl;rw[this];simp only[atD];split<;>split<;>omega);obtain⟨hq,jn,qq,V9⟩:=a1;rw[kd];(have iZ:((a.map (e4 v)).take (jx v (a.map (e4 v)) co k)).length=jx v (a.map (e4 v)) co k:=by simp;omega);generalize hN:jx v (a.map (e4 v)) co k=bC at*;(have hC:∀r∈(a.map (e4 v)).take bC++iL k++co,en r=true/\r≠47:=λr ae=>by rcases atB.1 ae with ae|ae;rcases atB.1 ae with ae|ae;exact iM r (aud ae);have:=gV r ae;exact⟨(sg r).2 asZ,by omega⟩;exact vL r ae);(have hlen:((a.map (e4 v)).take bC++iL k++co).length=bC+(iL k).length+co.length:=by rw[atf,atf,iZ]);(have HX:∀m:Nat,1<=m->m<=2->(a.map (e4 v)).take bC++iL k++co=List.replicate m 46->l=List.replicate m 46:=λm lm s0 e=>by have fr:=as' List.length e;rw[hlen,awu]at fr;(have rK:co=[]:=by rcases w9 with h|h;exact h;omega);have aiM:=aiL rK;(have jT:k=0:=by rcases at1 k with h|h;exact h;exfalso;have h1:=aiE Y h;(obtain⟨x,I⟩:∃x,x∈iL k:=by cases aiN:iL k with|nil=>rw[aiN]at h1;simp at h1|cons x r=>exact⟨x,atk⟩);have A:=gV x I;(have Z:x∈List.replicate m (46:Int):=by rw[<-e];simp[I]);have:=(List.mem_replicate.1 Z).2;omega);subst jT rK;have hsz:(iL 0)=[]:=rfl;rw[hsz,aua,aua]at e;rcases W with rfl|rfl;exfalso;(cases a with|nil=>simp at Hy|cons x r =>obtain⟨WZ,rfl⟩:∃WZ,bC=WZ+1:=⟨bC-1,by omega⟩;(have Z:e4 0 x∈List.replicate m (46:Int):=by rw[<-e];simp);have aD:=(List.mem_replicate.1 Z).2;exact(WX x).2 (by simpa[e4]using aD));have aiO:=V9 rfl rfl rfl;rw[aiO,atC as1]at e;have kB:a=l:=oP aiM rfl;subst kB;(have x5:∀x∈a,x=46:=λx I=>by(have Z:e4 1 x∈List.replicate m (46:Int):=by rw[<-e];exact aty.2 ⟨x,I,rfl⟩);have aD:=(List.mem_replicate.1 Z).2;(have bc:lu x=46:=by simpa[e4]using aD);unfold lu at bc;split at bc;omega;exact bc);refine List.eq_replicate_iff.2 ⟨?_,x5⟩;have:=as' List.length e;simpa using this);refine aiC (λr ae=>(hC r ae).1) (by rw[hlen];omega) (by rw[hlen];omega) (λhm=>(hC 47 hm).2 rfl) (λe=>?_) (λe=>?_);exact aiG (HX 1 asZ asZ e);exact aiH (HX 2 asZ asZ e)
variable{gs:List as8}
theorem aiP{v:Int}(W:j8 v=true){k:aa}(Y:dQ k.name=true)(gr:gs.length<=64):dQ (ra v gs k)=true:=by unfold ra;split;rename_i h;exact aiF h Y (k.kind==0) (CC v gs _ _ gr).1;exact Y
theorem aiQ{v:Int}(W:j8 v=true)(ag:List aa):ag.length<=64->(∀k∈ag,dQ k.name=true)->∀m∈hj v ag,dQ m=true:=by refine xh (p:=λag=>ag.length<=64->(∀k∈ag,dQ k.name=true)->∀m∈hj v ag,dQ m=true) (λ_ _ m hm=>by simp[hj]at hm) (λl x aY aj h m hm=>?_) ag;simp at aj;rw[xi]at hm;rcases atu.1 hm with rfl|hm;exact aiP W (h x as1) (by rw[th];omega);exact aY asZ (λk Y=>h k (by simp[Y])) m hm
theorem W0{v:Int}(W:j8 v=true)(gP:ag.length<=64)(h:∀k∈ag,dQ k.name=true):∀m∈ce v ag,dQ m=true:=λm hm=>aiQ W ag gP h m (List.mem_reverse.1 hm)
theorem aiR(v:Int){l:List Int}(h:∀r∈l,en r=true)(bd:Bool): fQ v (cw l) bd=((gY v l bd).1.map (e4 v),if(gY v l bd).2=[]then[]else 46::((gY v l bd).2.map (e4 v)).take (kc v)):=by obtain⟨sj,qu,xg⟩:=Og v (yN l h) bd;exact aw6
def aiS(l:List Int):Prop:=(∀r∈l,en r=true/\lu r=r)/\l.length<=64
structure aiT (bd:Bool) (l:List Int) (a b:List Int):Prop where
 gT:1<=a.length
 zW:a.length<=8
 eG:b.length<=3
 bp:∀r∈a,en r=true/\h8 r=r
 cb:∀r∈b,en r=true/\h8 r=r
 bd:bd=true->b=[]
 eq:l=if b=[]then a else a++46::b
theorem W1(h:en r=true):h8 (h8 r)=h8 r:=by obtain⟨h1,_,_⟩:=(sg r).1 h;by_cases A:97<=r/\r<=122;(have e:h8 r=r-97+65:=by rw[h8,as_ A]);rw[e,h8,as9 asZ,as_ ⟨by omega,by simp[uy];omega⟩];by_cases Z:r<128/\uy r=true;(have e:h8 r=r:=by rw[h8,as9 A,as_ Z]);rw[e,e];(have e:h8 r=95:=by rw[h8,as9 A,as9 Z]);rw[e];decide
theorem aiU(r:Int):lu (lu r)=lu r:=by by_cases h:yL r=true;(have e:lu r=95:=by rw[lu,as_ h]);rw[e];decide;(have e:lu r=r:=by rw[lu,as9 h]);rw[e,e]
theorem W2(h:48<=r/\r<=57):en r=true/\h8 r=r/\lu r=r:=by refine⟨(sg r).2 asZ,?_,?_⟩;rw[h8,as9 asZ,as_ ⟨by omega,by simp[uy];omega⟩];rw[lu,as9];simp[yL];omega
theorem aiV{v:Int}(W:v=0\/v=1)(hs:dQ s=true)(bd:Bool)(Y:k<100):
  ∃l,kd v (fQ v s bd).1 (fQ v s bd).2 k=cw l/\(v=0->∃a b,aiT bd l a b)/\aiS l:=by
 obtain⟨l,hc,_,_,ku,nx⟩:=I6 hs;obtain⟨F,kZ⟩:=Cz s.length s l (atg _) hc;obtain⟨Ji,Jj⟩:=Oh (v:=v) (bd:=bd) kZ;have cH:=aiR v kZ bd;rw[F]at cH
 have OJ:1<=(gY v l bd).1.length/\(v=1->(gY v l bd).2.length<=16)/\(bd=true->(gY v l bd).2=[]):=by
  have N:=OI l;unfold gY;split
  ·rename_i h;refine⟨by simp;omega,λh1=>?_,λA=>?_⟩
   ·rcases h.2.2.2 with Z|Z
    ·omega
    simp;omega
   rw[h.1]at A;cases A
  split
  ·rename_i h;exact⟨by simp;omega,λ_=>by simp,λ_=>rfl⟩
  exact⟨ku,λ_=>by simp,λ_=>rfl⟩
 rw[cH];generalize(gY v l bd).1=a at*;generalize(gY v l bd).2=b at*;obtain⟨Hy,OK,vU⟩:=OJ;dsimp only;refine⟨_,rfl,λh0=>?_,?_⟩
 ·subst h0;have gV:=OH Y;have Jk:=FT Y
  have a1:jx 0 (a.map (e4 0)) (if b=[]then[]else 46::(b.map (e4 0)).take (kc 0)) k+(iL k).length<=8/\1<=jx 0 (a.map (e4 0)) (if b=[]then[]else 46::(b.map (e4 0)).take (kc 0)) k:=by
   unfold jx om;rw[atb,show((0:Int)==1)=false from rfl,aun];refine⟨by split<;>split<;>omega,by split<;>split<;>omega⟩
  generalize jx 0 (a.map (e4 0)) (if b=[]then[]else 46::(b.map (e4 0)).take (kc 0)) k=bC at*;have aiW:kc 0=3:=by decide
  rw[aiW]
  have F1:∀x:List Int,(∀r∈x,en r=true)->∀r∈x.map (e4 0),en r=true/\h8 r=r:=λx I r ae=>by
   obtain⟨y,hy,rfl⟩:=aty.1 ae;have e:e4 0 y=h8 y:=by simp[e4]
   rw[e];exact⟨by have:=Jb (v:=0) (I y hy);rwa [e]at this,W1 (I y hy)⟩
  refine⟨(a.map (e4 0)).take bC++iL k,(b.map (e4 0)).take 3,?_⟩;refine⟨by simp;omega,by simp;omega,by simp;omega,λr ae=>?_,λr ae=>F1 b Jj r (aud ae),λN=>by rw[vU N];rfl,?_⟩
  ·rcases atB.1 ae with ae|ae
   ·exact F1 a Ji r (aud ae)
   have:=W2 (gV r ae);exact⟨this.1,this.2.1⟩
  by_cases oP:b=[]
  ·subst oP;simp
  have B7:¬(b.map (e4 0)).take 3=[]:=by
   cases b with
   |nil=>exact absurd rfl oP
   |cons x r=>simp
  rw[as9 oP,as9 B7]
 have gV:=OH Y;have Jk:=FT Y
 have F1:∀x:List Int,(∀r∈x,en r=true)->∀r∈x.map (e4 v),en r=true/\lu r=r:=λx I r ae=>by
  obtain⟨y,hy,rfl⟩:=aty.1 ae;refine⟨Jb (I y hy),?_⟩;unfold e4;split
  ·
   have h1:=W1 (I y hy);rw[lu,as9];intro mh;generalize h8 y=V at*;have bH:V=42\/V=47\/V=58\/V=59\/V=63\/V=92:=by simp[yL]at mh;omega
   rcases bH with rfl|rfl|rfl|rfl|rfl|rfl<;>revert h1<;>decide
  exact aiU y
 have rK:∀r∈(if b=[]then[]else 46::(b.map (e4 v)).take (kc v)),en r=true/\lu r=r:=λr ae=>by
  split at ae
  ·cases ae
  rcases atu.1 ae with rfl|ae
  ·exact⟨by decide,by decide⟩
  exact F1 b Jj r (aud ae)
 have aiX:(if b=[]then[]else 46::(b.map (e4 v)).take (kc v)).length<=17/\(v=0->(if b=[]then[]else 46::(b.map (e4 v)).take (kc v)).length<=4):=by
  split
  ·simp
  refine⟨?_,λh0=>?_⟩
  ·rcases W with h0|h1
   ·have:kc v=3:=by unfold kc;rw[as_ h0]
    simp;omega
   have:=OK h1;simp;omega
  have:kc v=3:=by unfold kc;rw[as_ h0]
  simp;omega
 generalize(if b=[]then[]else 46::(b.map (e4 v)).take (kc v))=co at*
 have a1:jx v (a.map (e4 v)) co k+(iL k).length+co.length<=64:=by
  unfold jx om;rw[atb];rcases W with rfl|rfl
  ·have:=aiX.2 rfl;rw[show((0:Int)==1)=false from rfl,aun];split<;>split<;>omega
  rw[show((1:Int)==1)=true from rfl,auS];split<;>split<;>omega
 refine⟨λr ae=>?_,by simp;omega⟩;rcases atB.1 ae with ae|ae
 ·rcases atB.1 ae with ae|ae
  ·exact F1 a Ji r (aud ae)
  have:=W2 (gV r ae);exact⟨this.1,this.2.2⟩
 exact rK r ae
theorem F2{f:Nat->Int}:∀{k i:Nat},(∀j,i<=j->j<i+k->f j=0)->hb f i k=0
 |0,i,_=>rfl
 |k+1,i,h=>by simp only[hb];rw[as_ (h i (atg _) asZ)];exact F2 λj h1 A=>h j asZ asZ
theorem aiY{n:aa}{l:Int}(h:N6 n l)(aj:1<=l):one n l=0:=by refine F2 λi _ hi=>?_;have Y:=h.I1;match i,hi with|0,_ =>(have:ua n l=false:=by simp only[ua,auK,auN,auQ,atK,au6,auM];refine⟨⟨by omega,by omega⟩,?_⟩;by_cases h1:l=1;exact .inr (h.FM h1);exact .inl h1);simp[eO,vz,this]|1,_ =>(have:ub n l=false:=by simp only[ub,auK,auN,auQ,atK,au6,auM];by_cases h1:l=1;exact⟨.inr (h.FN h1),.inl asZ⟩;exact⟨.inl h1,.inr (h.I2 asZ)⟩);simp[eO,vA,this]|2,_ =>(have:uc n=false:=by simp only[uc,auK,auN,auQ,atK,au6,auM];refine⟨⟨?_,?_⟩,?_⟩;by_cases h1:n.kind=1;exact .inl h1;have:=h.file h1;exact .inr ⟨this.1,by rw[this.2];simp⟩;by_cases h1:n.kind=2;exact .inl h1;exact .inr (h.I3 h1);by_cases h1:n.kind=0;exact .inl h1;exact .inr (by rw[h.bd h1];simp));simp[eO,vB,this]|3,_ =>(have:ud n=false:=by simp only[ud,auN,atK,au6];by_cases h1:n.kind=2;exact .inr (h.target h1);exact .inl h1);simp[eO,vC,this]|4,_ =>have h1:=h.cx;have A:=h.n2;have Z:=h.n3;have aD:=h.n4;have bc:=h.n5;have cL:=h.n6;(have:r8 n=false:=by simp only[r8,s3,auK,au6,atd,atS];exact⟨⟨⟨⟨⟨h1,A⟩,Z⟩,aD⟩,bc⟩,cL⟩);simp[eO,vD,this]|5,_ =>have h1:=h.bW;have A:=h.size;have Z:=h.FO;have aD:=h.FP;(have hc:r9 n l=false:=by simp only[r9,auK,auQ];exact⟨⟨⟨by omega,by omega⟩,by omega⟩,by omega⟩);simp only[eO,nz,hc];rw[as9 as1];refine F2 λj _ ad=>?_;have:=(h.bN j asZ).1;simp[pt];omega|6,_ =>simp only[eO,Ch];exact F2 λj _ ad=>(h.bN j asZ).2|7,_ =>simp only[eO,yx];refine F2 λj h1 ad=>?_;have bi:=h.gM (j-1) asZ;(have e:j-1+1=j:=by omega);rw[e]at bi;have BC:Op.bytesLess (qi n (j-1)).name (qi n j).name=true:=bi;simp only[r_,qh];rw[as9 (s6 BC),as9 (by rw[E' BC];simp)]
mutual
theorem OL(aX:List aa->List as8)(v:Int):∀(n:aa) (d:Int),fH (jw aX v d n)<=fH n
 |.mk a b c t e f g h i j ag cC,d=>by
  have h1:=W3 aX v ag (aX ag) (d+1);have A:eX (mA (fP aX v (d+1) ag (aX ag)))=eX (fP aX v (d+1) ag (aX ag)):=aiZ (Az _);simp only[jw,fH];omega
theorem W3(aX:List aa->List as8)(v:Int):∀(l:List aa) (cS:List as8) (d:Int),eX (fP aX v d l cS)<=eX l
 |[],cS,d=>by simp[fP]
 |k::r,[],d=>by simp[fP,eX]
 |k::r,m::cS,d=>by
  have h1:=OL aX v k d;have A:=W3 aX v r cS d;have Z:fH ((jw aX v d k).named m)=fH (jw aX v d k):=by rw[EF,EF];rfl
  simp only[fP];split
  ·simp only[eX];omega
  simp only[eX];omega
theorem aiZ{a b:List aa}(h:a.Perm b):eX a=eX b:=by
 induction h with
 |nil=>rfl
 |cons x _ aY=>simp only[eX,aY]
 |swap x y l=>simp only[eX];omega
 |trans _ _ h1 A=>exact h1.trans A
end
mutual
theorem W4{v:Int}(W:j8 v=true):∀(n:aa) (l:Int) (m:as8),1<=l->iK n l=true->(l=1->m=[])->(1<l->dQ m=true)->iK ((jw (ce v) v l n).named m) l=true
 |.mk a b c t e f g h i j ag cC,l,m,aj,aV,lm,s0=>by
  obtain⟨cu,aW⟩:=AA aV;have cD:=N8 _ l aj aV;simp only[il]at cD;have t':=W5 W ag (ce v ag) (l+1) asZ aW λx I=>W0 W cD.1 (λk Y=>(q_ cD.2.2.2 Y).1.1) x I;have aw:=Az (fP (ce v) v (l+1) ag (ce v ag));have hlen:=FK (ce v) v (l+1) ag (ce v ag)
  have mB:((fP (ce v) v (l+1) ag (ce v ag)).map aa.name).Nodup :=
   (N2 (ce v) v (l+1) ag (ce v ag)).nodup (ai0 W cD.1 cD.2.2.1)
  rw[IZ,atd];refine⟨?_,V8 λk Y=>?_⟩
  ·rw[auM];refine aiY ?_ aj;rw[FI];have gP:ag.length<=64:=cu.FO;have iX:∀(P:List nu->Prop),P cC->P []->P (if v=3 then cC else[]):=λP h1 A=>by split<;>assumption
   exact{
    I1:=cu.I1
    FM:=cu.FM
    FN:=lm
    I2:=s0
    file:=λh1=>⟨(cu.file h1).1,iX (λx=>x=[]) (cu.file h1).2 rfl⟩
    I3:=cu.I3
    bd:=λh1=>by
     have:ag=[]:=cu.bd h1;subst this;show mA (fP (ce v) v (l+1) [] (ce v []))=[];simp[fP,mA]
    target:=cu.target
    cx:=by have:=cu.cx;show 0<=(if keeps v=true then e else 0)/\(if keeps v=true then e else 0)<=4095;split<;>omega
    n2:=by have:=cu.n2;show 0<=(if keeps v=true then f else 0)/\(if keeps v=true then f else 0)<=65535;split<;>omega
    n3:=by have:=cu.n3;show 0<=(if keeps v=true then g else 0)/\(if keeps v=true then g else 0)<=65535;split<;>omega
    n4:=cu.n4
    n5:=by show(-1048576:Int)<=0/\(0:Int)<=1048576;omega
    n6:=by show(0:Int)<=0/\(0:Int)<=15;omega
    bW:=cu.bW
    size:=cu.size
    FO:=by show(mA (fP (ce v) v (l+1) ag (ce v ag))).length<=64;rw[aw.length_eq];omega
    FP:=by have:cC.length<=4:=cu.FP;show(if v=3 then cC else[]).length<=4;split<;>first|omega|simp
    bN:=λi hi=>by
     have hs:=cu.bN;by_cases Z:v=3
     ·subst Z;exact hs i hi
     exfalso
     have:(if v=3 then cC else([]:List nu))=[]:=as9 Z;have lQ:i<(if v=3 then cC else([]:List nu)).length:=hi;rw[this]at lQ;simp at lQ
    gM:=V4 mB}
  have fD:k∈mA (fP (ce v) v (l+1) ag (ce v ag)):=by
   rw[FI]at Y;exact Y
  exact t' k (aw.subset fD)
theorem W5{v:Int}(W:j8 v=true):∀(ag:List aa) (cS:List as8) (l:Int),2<=l->nc ag l=true->(∀m∈cS,dQ m=true)->∀k∈fP (ce v) v l ag cS,iK k l=true
 |[],cS,l,_,_,_=>by simp[fP]
 |k::r,[],l,_,_,_=>by simp[fP]
 |k::r,m::cS,l,aj,aV,hm=>by
  simp only[nc,atd]at aV;intro x I;have aY:=W5 W r cS l aj aV.2 λy hy=>hm y (ato _ hy);simp only[fP]at I;split at I
  ·rcases atu.1 I with rfl|I
   ·exact W4 W k l m asZ aV.1 (λe=>by omega) λ_=>hm m atk
   exact aY x I
  exact aY x I
theorem ai0{v:Int}(W:j8 v=true){ag:List aa}(gP:ag.length<=64)(hi:gM ag):(ce v ag).Nodup:=by
 rcases WC W with h|h|h|h
 ·rw[Jc (.inl h),uA,at4,awt];exact(at4.1 (Ok v ag gP)).imp Ne.symm
 ·rw[Jc (.inr h),uA,at4,awt];exact(at4.1 (Ok v ag gP)).imp Ne.symm
 ·rw[FY (.inl h)];exact CF hi
 rw[FY (.inr h)];exact CF hi
end
theorem ai1{v:Int}(W:j8 v=true){n:aa}(h:valid n=true):valid (jw (ce v) v 1 n)=true:=by
 have ax:=ai2 h;rw[vT,atd,atS]at h⊢;have h1:=OL (ce v) v n 1;have A:=W4 W n 1 [] (at5 _) h.2 (λ_=>rfl) (λe=>absurd e asZ);have e:(jw (ce v) v 1 n).named []=jw (ce v) v 1 n:=by rw[FI];simp only[aa.named,ax]
 rw[e]at A;exact⟨by omega,A⟩
where
 ai2 {n:aa} (h:valid n=true):n.name=[]:=by
  rw[vT,atd]at h;exact(AA h.2).1.FN rfl
theorem ai3{v:Int}(au:t<ag.length):(ce v ag)[t]'(by rw[oo];exact au)=ra v (hj v (ag.take t)) ag[t]:=by(have e:∀ag:List aa,∀m,m<=ag.length->(hj v ag).reverse.take m=(hj v (ag.take m)).reverse:=awH);have A:=e ag (t+1) asZ;(have Z:(ce v ag)[t]?=((ce v ag).take (t+1))[t]?:=by rw[atZ,as_ asZ]);have aD:(ce v ag).take (t+1)=(hj v (ag.take (t+1))).reverse:=A;rw[aD,Oq au,avf,atJ (by simp[th];omega)]at Z;(have bc:(hj v (ag.take t)).reverse.length=t:=by simp[th];omega);rw[bc,avY,ata (by rw[oo];exact au)]at Z;simpa using Z
section
variable(aX:List aa->List as8)(v:Int)
end
end Go.bS.cj


namespace Go.bS.cj
open Go Go.Proofs
variable{B:World}
theorem W6(aW:dc B)(s p:as8)(hs:s.length<4294967281):aU B 295 [.O s,.O p] (.bo [.O (Lib.cut s p).1,.O (Lib.cut s p).2.1,.bool (Lib.cut s p).2.2]):=by obtain⟨m,hm⟩:=aW.TM;exact .zH (js Tryz.func295 rfl as3) rfl λw F=>(Tryz.strings_Cut ⟨⟨s⟩⟩ ⟨⟨p⟩⟩ m w hs (EV F hm)).mono λe w' ⟨ao,n,cH⟩=>by subst cH;exact⟨_,ao,λC=>.bo _ _ rfl λi d v N W=>by match i with|0=>cases N;cases W;exact .O _|1=>cases N;cases W;exact .O _|2=>cases N;cases W;exact .bool _|i+3=>simp at N,⟨rfl,rfl,rfl,atg _,λ_ _=>rfl⟩⟩
def F3(s p:as8):as8×Bool:=if Lib.hasSuffix s p then(s.take (s.length-p.length),true)else(s,false)
def oq(s:as8)(m:Int):Bool:=decide ((1:Int)<=s.length)&&(decide ((s.length:Int)<=m)&&uz s)
theorem W7(s:as8)(m:Int):aU B 316 [.O s,u m] (.bool (oq s m)):=by refine bA Tryz.func316 Tryz.ntmps316 λU=>?_;refine go ?_;refine bp (Wd s) ?_;refine aq.of_eq (as' D.bool ?_);unfold oq;by_cases h1:(1:Int)<=s.length<;>by_cases A:(s.length:Int)<=m<;>simp[h1,A]
def vX(s:as8)(bd:Bool):Bool:=!((Lib.cut s [46]).2.2&&(bd||!oq (Lib.cut s [46]).2.1 3))&&oq (Lib.cut s [46]).1 8
theorem ai4(aW:dc B)(s:as8)(bd:Bool)(hs:s.length<1000000000):aU B 275 [u 0,.O s,.bool bd] (.bool (vX s bd)):=by refine bA Tryz.func275 Tryz.ntmps275 λU=>?_;apply b2;refine ns ?_;apply b2;refine X.cond true rfl (λhc=>?_) (λhc=>by cases hc);refine go ?_;refine bp (W6 aW s [46] asZ) ?_;refine bp (W7 _ 3) ?_;refine aJ _ rfl ?_ ?_<;>intro hc;refine go ?_;(have ob:((Lib.cut s [46]).2.2&&(bd||!oq (Lib.cut s [46]).2.1 3))=true:=by revert hc;cases(Lib.cut s [46]).2.2<;>cases bd<;>simp);refine aq.of_eq (as' D.bool ?_);rw[vX,ob];rfl;refine go ?_;refine bp (W7 _ 8) ?_;(have ob:((Lib.cut s [46]).2.2&&(bd||!oq (Lib.cut s [46]).2.1 3))=false:=by revert hc;cases(Lib.cut s [46]).2.2<;>cases bd<;>simp);refine aq.of_eq (as' D.bool ?_);rw[vX,ob];rfl
def yW(s:as8):Bool:=decide (0<=Lib.indexByte s 46)
def ke(s:as8)(bd:Bool):as8×Int :=
 if vX s bd=true then if bd=true then(s,0)else if yW s=true then(s++[59,49],0)else(s++[46,59,49],0)else([],4)
theorem W8(aW:dc B)(s:as8)(bd:Bool)(hs:s.length<1000000000):aU B 225 [.O s,.bool bd] (.bo [.O (ke s bd).1,u (ke s bd).2]):=by refine bA Tryz.func225 Tryz.ntmps225 λU=>?_;refine go ?_;refine bp (ai4 aW s bd hs) ?_;refine aJ _ rfl ?_ ?_<;>intro hc;refine go ?_;(have h:¬vX s bd=true:=by simpa using hc);rw[ke,as9 h];exact ar;refine go ?_;(have h:vX s bd=true:=by simpa using hc);refine go ?_;refine X.cond bd rfl (λN=>?_) (λN=>?_);refine go ?_;rw[ke,as_ h,as_ N];exact ar;refine go ?_;refine bp (TO s 46) ?_;refine X.cond (yW s) rfl (λA=>?_) (λA=>?_);refine ck ?_;refine mZ ?_;rw[ke,as_ h,as9 (by rw[N];simp),as_ A];exact ar;apply cr;refine ck ?_;refine mZ ?_;rw[ke,as_ h,as9 (by rw[N];simp),as9 (by rw[A];simp)];exact ar
def F4(id m:as8)(bd:Bool):as8×Int:=if(ke m bd).2=0/\(ke m bd).1=id then(m,0)else([],4)
def Jl(id:as8)(bd:Bool):as8×Int :=
 if bd=true then F4 id id bd else if(F3 id [59,49]).2=true then F4 id (Lib.trimSuffix (F3 id [59,49]).1 [46]) bd else([],4)
end Go.bS.cj
