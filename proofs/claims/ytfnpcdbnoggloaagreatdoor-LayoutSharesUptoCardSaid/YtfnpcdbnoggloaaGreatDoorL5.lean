/- Contracts of the program's functions, part 5. No conditions of its own. -/
import Derived.Test.YtfnpcdbnoggloaaGreatDoorL4
import Derived.Lib.MapLaws
import Derived.Lib.TrimUEq
set_option linter.unnecessarySimpa false
set_option linter.unusedSimpArgs false
set_option linter.unusedVariables false
set_option maxRecDepth 100000
set_option maxHeartbeats 16000000
namespace Go.bR.ck
open Go Go.Proofs
variable{B:World}
theorem agA(s p:atG):aU B 281 [.O s,.O p] (.bp [.O (Lib.trimPrefix s p),.bool (Lib.hasPrefix s p)]) :=
 .zK (jn Tryz.func281 rfl atA) rfl λw I=>(Tryz.strings_CutPrefix ⟨⟨s⟩⟩ ⟨⟨p⟩⟩ w).mono λe w' ⟨ao,cz⟩=>by
  subst cz
  exact⟨_,ao,λC=>.bp _ [_,_] rfl λi d v N X=>(by
   match i with
   |0=>cases N;cases X;exact .O _
   |1=>cases N;cases X;exact .bool _
   |i+2=>simp at N),.refl _ _⟩
theorem agB(tg:iv)(l:List atG)(sep:atG)(h1:l.length<=1000000)(A:(Lib.join l sep).length<=140737488355328):aU B 232 [.Q tg 1 (aN l),.O sep] (.O (Lib.join l sep)):=by refine⟨jn Tryz.func232 rfl atA,λw C args I ae=>?_⟩;(obtain⟨a,b,rfl⟩:∃a b,args=[a,b]:=by have:=ae.1;match args,this with|[a,b],_=>exact⟨a,b,rfl⟩);have agC:=(ae.tail.head).kD;subst agC;rcases ae.head.kh with⟨F,⟨dE,rfl⟩,_⟩|⟨d6,o,cap,g,rfl,_,nQ,hcap,l9,Y,de,ga,ee,eQ⟩;have r8:l=[]:=List.map_eq_nil_iff.1 F;subst r8;(exact(Tryz.strings_Join_none dE 0 ⟨⟨sep⟩⟩ w).mono λe w' ⟨ao,cz⟩=>by subst cz;exact⟨_,C,ao,.O [],.refl _ _ _⟩);(have hlen:(aN l).length=(l.map λx=>(⟨⟨x⟩⟩:ByteArray)).length:=by simp[aN]);(have Ed:(l.map λx=>(⟨⟨x⟩⟩:ByteArray)).map (·.data.toList)=l:=by rw[avN];exact List.map_id' l);(have BS:b2 (aN l)=aN l:=by rw[rD];intro x F;exact ayD);rw[hlen]at hcap⊢;refine(Tryz.strings_Join d6 o cap (l.map λx=>⟨⟨x⟩⟩) ⟨⟨sep⟩⟩ w (λj x aa=>?_) nQ atx hcap (by rw[Ed];exact A)).mono λe w' ⟨ao,cz⟩=>?_;rw[aud]at aa;(cases F:l[j]? with|none=>rw[F]at aa;cases aa|some y =>rw[F]at aa;cases aa;(have N:(b2 (aN l))[j]?=some (.O y):=by rw[BS,aN,aud,F];rfl);rw[ga j _ N,(eQ j _ N).kD]);rw[Ed]at ao;exact⟨_,C,ao,.O _,c_.below cz⟩
def IO(k:Int):Int:=if k=0 then 4 else if k=1 then 8 else 10
theorem agD(k:Int)(h0:0<=k)(h1:k<=2):aU B 234 [u k] (u (IO k)):=by obtain⟨i3,sV,qi,_⟩:=(aM.get (t:=3) rfl).1.qx;refine fn Tryz.func234 Tryz.ntmps234 λU=>?_;refine go ?_;refine dQ (af.acx (q:=.i64) (gR:=4) (a2:=8) (a3:=10) atB sV qi (λw=>by rfl) rfl rfl rfl) ?_;refine dQ (af.adl (d:=u (IO k)) (n:=3) atB sV qi atB rfl rfl h0 atw (by(have:k=0\/k=1\/k=2:=by omega);rcases this with rfl|rfl|rfl<;>rfl)) ?_;exact sN
def g_(l:List Int):atG:=l.flatMap Cv
theorem yI(l:List Int):(g_ l).length=8*l.length:=by induction l with|nil=>rfl|cons x l aZ=>simp only[g_,auL,atP,IL,atT]at*;omega
variable{i:Nat}
theorem agE{l:List Int}(h:i<l.length):g_ (l.take (i+1))=g_ (l.take i)++Cv l[i]:=by rw[g_,atM h,avy,awS];rfl
theorem Fy(tg:iv)(l:List Int)(h1:0<l.length)(A:l.length<=1000000)(h:∀x∈l,0<=x/\x<4294967296):aU B 233 [.Q tg 1 (l.map (D.int .i64))] (.O (g_ l)):=by refine fn Tryz.func233 Tryz.ntmps233 λU=>?_;refine go ?_;refine .inr (af.SK aM rfl rfl λb=>?_);(conv=>whnf);refine W.SM 3 (dv:=[.ai (.pointer none),.ai (.slice none 0 0)]) rfl ⟨E,aq.rG,ak⟩ ?_;refine W.qE 6001 1 5 ?_;refine go ?_;refine gf (λx:Nat×Value×Value=>x.1<=l.length/\(x.2.1=.pointer none\/x.2.1=qh b)) [3,8,9] [] (λx=>[(10,u x.1)]) (λx=>[(3,.kE b 164 [.ai x.2.1,.ai x.2.2]),(6001,.row x.2.2 (nB (g_ (l.take x.1))) 1 5)]) (λx=>l.length-x.1) (0,.pointer none,.slice none 0 0) ⟨at4 _,.inl rfl⟩ [(3,3),(6001,6001)] ?_;rintro⟨i,p,v⟩ ⟨hi,ay⟩;dsimp only at hi ay⊢;refine go ?_;refine cb (t:=decide ((i:Int)<(l.map (D.int .i64)).length)) ?_ ?_<;>intro hc;(have ce:i<l.length:=by simpa using hc);have hm:=h l[i] (atO ce);refine go ?_;refine bs (agj l[i] hm.1 hm.2) ?_;refine t8 [(6000,3),(6001,6001)] (VD b p v (g_ (l.take i)) (Cv l[i]) ay (by rw[IL,yI,at7];omega)) λc9 _=>?_;refine eI (i+1,qh b,c9) [(3,3),(6001,6001)] ⟨ce,.inr rfl⟩ (by dsimp only;omega) ⟨cO,rfl,?_⟩;rw[agE ce];exact cO;(have ce:i=l.length:=by simp at hc;omega);subst ce;rw[atX];refine go ?_;refine mj [(6000,3),(6001,6001)] (VE b p v (g_ l) (by rw[yI];omega) (by rw[yI];omega)) ?_;exact sN
def qj(c:UInt8)(aX:atG):atG:=c::UInt8.ofNat aX.length::aX
theorem IP(c:UInt8)(aX:atG)(b:Nat)(p v:Value)(xs:atG)(ay:p=.pointer none\/p=qh b)(aw:aX.length<=255)(al:xs.length<=10000000): c1 B 279 [.int .u8 c.toNat,.O aX,.box 6000 b 0] (aL (yH b p v xs)) λd aP=>∃c9,True/\d=.bp []/\aP=aL (yH b (qh b) c9 (xs++qj c aX)):=by(have e:(D.Q .dV 1 [.int .u8 c.toNat,.int .u8 (aX.length:Nat)])=.Q .dV 1 (nB [c,UInt8.ofNat aX.length]):=by(have:((UInt8.ofNat aX.length).toNat:Nat)=aX.length:=by simp;omega);simp only[nB,aui,avr,this]);refine EM Tryz.func279 Tryz.ntmps279 λU=>?_;refine go ?_;refine t8 [(6000,6000),(6001,6001)] (agz b p v .dV xs [c,UInt8.ofNat aX.length] ay aty atx) λjk _=>?_;refine t8 [(6000,6000),(6001,6001)] (VD b (qh b) jk (xs++[c,UInt8.ofNat aX.length]) aX (.inr rfl) atx) λv2 _=>?_;exact⟨.bp [],ak,v2,ak,rfl,rfl,by rw[aup];rfl,ak⟩
def m5(p:atG):atG:=if p=[]then[]else if p=[46]then qj 2 []else if p=[46,46]then qj 4 []else qj 0 p
def vR(t:atG):atG:=(if Lib.hasPrefix t [47]=true then qj 8 []else[])++(cQ 47 [] (Lib.trimPrefix t [47])).flatMap m5
theorem VF(p:atG):(m5 p).length<=p.length+2:=by
 unfold m5;repeat' split
 all_goals simp[qj]
theorem VG{c:UInt8}:∀(s p:atG),p≠[]->∃x r,cQ c p s=x::r/\x≠[]
 |[],p,h=>⟨p,[],rfl,h⟩
 |b::r,p,h=>by rw[cQ];split;exact⟨p,_,rfl,h⟩;exact VG r (p++[b]) aty
theorem agF{p:atG}(h:p≠[]):m5 p≠[]:=by unfold m5;rw[atH h];split;simp[qj];split<;>simp[qj]
theorem agG(t:atG)(h:t≠[]):0<(vR t).length:=by rw[au8];unfold vR;by_cases ay:Lib.hasPrefix t [47]=true;rw[atI ay];simp[qj];rw[atH ay,au6];cases t with|nil=>exact absurd rfl h|cons b r =>have I:b≠47:=λe=>ay (by subst e;simp[Lib.hasPrefix,List.isPrefixOf]);(have av:Lib.trimPrefix (b::r) [47]=b::r:=by rw[Im,gA,atH I]);rw[av,cQ,atH I];obtain⟨x,q,G,F⟩:=VG (c:=47) r ([]++[b]) aty;rw[G,auL];exact λe=>agF F (awT.1 e).1
theorem agH(a1:db B)(t:atG)(av:kR t=true):aU B 235 [.O t] (.bp [.O (vR t),u 0]):=by
 have a7:=agG t (by rintro rfl;cases av)
 have iV : t.length<=128 := by unfold kR at av;split at av;· cases av
                               omega
 refine fn Tryz.func235 Tryz.ntmps235 λU=>?_;refine go ?_;refine bs (Ip a1 t atw) ?_;refine z' (t:=!kR t) (by rw[av];rfl) ?_;refine .inr (af.SK aM rfl rfl λb=>?_);(conv=>whnf);refine W.SM 4 (dv:=[.ai (.pointer none),.ai (.slice none 0 0)]) rfl ⟨E,aq.rG,ak⟩ ?_;refine W.qE 6001 1 5 ?_;refine go ?_;refine bs (agA t [47]) ?_;generalize lM:(if Lib.hasPrefix t [47]=true then qj 8 []else[])=pre;have dg:pre.length<=2:=by rw[<-lM];split<;>simp[qj]
 have agI:(Lib.trimPrefix t [47]).length<=128:=by rw[Im];exact avc (Io t) iV
 refine ns (λx:Value×Value=>x.1=.pointer none\/x.1=qh b) [4,5,6] [] (λ_=>[]) (λx=>[(4,.kE b 164 [.ai x.1,.ai x.2]),(6001,.row x.2 (nB pre) 1 5)]) ?_ ?_
 ·refine g6 (t:=Lib.hasPrefix t [47]) (λhc=>?_) (λhc=>?_)
  ·rw[atI hc]at lM;refine t8 [(6000,4),(6001,6001)] (IP 8 [] b (.pointer none) (.slice none 0 0) [] (.inl rfl) aty aty) λc9 _=>?_;subst lM;exact gK (qh b,c9) [(4,4),(6001,6001)] (.inr rfl)
  rw[atH (by simp[hc])]at lM;subst lM;exact gK (.pointer none,.slice none 0 0) [(4,4),(6001,6001)] (.inl rfl)
 rintro⟨sI,v0⟩ m2;dsimp only at m2⊢;refine go ?_;refine bs (Il a1 (Lib.trimPrefix t [47]) 47 atw) ?_;have eJ:=sW (c:=47) (Lib.trimPrefix t [47]) [];have mY:vR t=pre++(cQ 47 [] (Lib.trimPrefix t [47])).flatMap m5:=by rw[<-lM];rfl
 generalize cQ 47 [] (Lib.trimPrefix t [47])=bU at*;have r_:bU.length<=129:=atw
 have yJ:∀x∈bU,x.length<=128:=λx F=>by have:=eJ.2 x F;simp at this;omega
 have dm:∀n,((bU.take n).flatMap m5).length<=130*n:=λn=>by
  induction n with
  |zero=>simp
  |succ n aZ =>
   rcases at3 n bU.length with h|h
   ·rw[atM h,avy,atP,awS];have h1:=VF bU[n];have A:=yJ _ (atO h);omega
   rw[aug atw]at aZ⊢;omega
 refine gf (λx:Nat×Value×Value=>x.1<=bU.length/\(x.2.1=.pointer none\/x.2.1=qh b)) [4,5,23,24] [] (λx=>[(25,u x.1)]) (λx=>[(4,.kE b 164 [.ai x.2.1,.ai x.2.2]),(6001,.row x.2.2 (nB (pre++(bU.take x.1).flatMap m5)) 1 5)]) (λx=>bU.length-x.1) (0,sI,v0) ⟨at4 _,m2⟩ [(4,4),(6001,6001)] ?_ (h1:=⟨cO,rfl,by simp only[av4,List.flatMap_nil,auG];exact cO⟩);rintro⟨i,p,v⟩ ⟨hi,ay⟩;dsimp only at hi ay⊢;refine go ?_;refine cb (t:=decide ((i:Int)<(aN bU).length)) ?_ ?_<;>intro hc
 ·have ce:i<bU.length:=by simp[aN]at hc;omega
  have hm:=yJ _ (atO ce);have kN:=dm i;have cS:(bU.take (i+1)).flatMap m5=(bU.take i).flatMap m5++m5 bU[i]:=by rw[atM ce,avy,awS]
  have hC:(pre++(bU.take i).flatMap m5).length<=1000000:=by rw[atP];omega
  refine go ?_;refine bI (.O bU[i]) (z7 rfl ce) ?_;refine g6 (t:=bU[i]==[]) (λhc=>?_) (λhc=>?_)
  ·have gB:bU[i]=[]:=by simpa using hc
   refine eI (i+1,p,v) [(4,4),(6001,6001)] ⟨ce,ay⟩ (by dsimp only;omega) ⟨cO,rfl,?_⟩;rw[cS,show m5 bU[i]=[]from atI gB,auG];exact cO
  have gB:bU[i]≠[]:=by simpa using hc
  refine g6 (t:=bU[i]==[46]) (λhc=>?_) (λhc=>?_)
  ·have j4:bU[i]=[46]:=by simpa using hc
   refine t8 [(6000,4),(6001,6001)] (IP 2 [] b p v (pre++(bU.take i).flatMap m5) ay aty atw) λc9 _=>?_;refine eI (i+1,qh b,c9) [(4,4),(6001,6001)] ⟨ce,.inr rfl⟩ (by dsimp only;omega) ⟨cO,rfl,?_⟩;rw[cS,show m5 bU[i]=qj 2 []from(atH gB).trans (atI j4),<-aup];exact cO
  have j4:bU[i]≠[46]:=by simpa using hc
  refine g6 (t:=bU[i]==[46,46]) (λhc=>?_) (λhc=>?_)
  ·have pt:bU[i]=[46,46]:=by simpa using hc
   refine t8 [(6000,4),(6001,6001)] (IP 4 [] b p v (pre++(bU.take i).flatMap m5) ay aty atw) λc9 _=>?_;refine eI (i+1,qh b,c9) [(4,4),(6001,6001)] ⟨ce,.inr rfl⟩ (by dsimp only;omega) ⟨cO,rfl,?_⟩;rw[cS,show m5 bU[i]=qj 4 []from(atH gB).trans ((atH j4).trans (atI pt)),<-aup];exact cO
  have pt:bU[i]≠[46,46]:=by simpa using hc
  refine t8 [(6000,4),(6001,6001)] (IP 0 bU[i] b p v (pre++(bU.take i).flatMap m5) ay atw atw) λc9 _=>?_;refine eI (i+1,qh b,c9) [(4,4),(6001,6001)] ⟨ce,.inr rfl⟩ (by dsimp only;omega) ⟨cO,rfl,?_⟩;rw[cS,show m5 bU[i]=qj 0 bU[i]from(atH gB).trans ((atH j4).trans (atH pt)),<-aup];exact cO
 have ce:i=bU.length:=by simp[aN]at hc;omega
 subst ce;rw[atX,<-mY];refine go ?_;refine mj [(6000,4),(6001,6001)] (VE b p v (vR t) (by rw[mY,atP];have:=dm bU.length;rw[atX]at this;omega) a7) ?_;exact ar
theorem VH(t:atG)(av:kR t=true):(vR t).length<=20000:=by
 have iV : t.length<=128 := by unfold kR at av;split at av;· cases av
                               omega
 have agI:(Lib.trimPrefix t [47]).length<=128:=by rw[Im];exact avc (Io t) iV
 have eJ:=sW (c:=47) (Lib.trimPrefix t [47]) []
 have dm:∀(bU:List atG),(∀x∈bU,x.length<=128)->(bU.flatMap m5).length<=130*bU.length:=λbU=>by
  induction bU with
  |nil=>simp
  |cons x r aZ =>
   intro F;have h1:=aZ λy hy=>F y (.tail _ hy);have A:=VF x;have Z:=F x (.head _);simp only[auL,atP,atT];omega
 have:=dm _ (λx F=>by have:=eJ.2 x F;simp at this;omega);unfold vR;rw[atP];have fZ:(qj 8 []).length=2:=rfl;split
 ·omega
 rw[auh];omega
def yK(n:Int):Int:=(33+n+1).tdiv 2*2
def ND(n:Int):Int:=(n+1).tdiv 2*2
def IQ(i aj:Int):Bool:=bif (bif (bif (bif decide (i<1)then true else decide (254<i))then true else decide (aj<0))then true else decide (254<aj))then true else aj.tmod 2 !=0
def vS(i aj:Int):Int:=if IQ i aj=true then 0 else if yK i+aj<=254 then yK i+aj else 0
theorem agJ(n:Int)(h0:0<=n)(h1:n<1000000000000):aU B 242 [u n] (u (yK n)):=by refine bA Tryz.func242 Tryz.ntmps242 λU=>?_;apply b4;apply b4;refine vi ?_;refine⟨λ_=>by omega,?_⟩;refine go ?_;have G:(33+n+1).tdiv 2=(33+n+1)/2:=at6 atw;refine go ?_;exact E
theorem agK(n:Int)(h0:0<=n)(h1:n<1000000000000):aU B 250 [u n] (u (ND n)):=by refine bA Tryz.func250 Tryz.ntmps250 λU=>?_;apply b4;apply b4;refine k6 ?_;refine⟨λ_=>by omega,?_⟩;refine go ?_;have G:(n+1).tdiv 2=(n+1)/2:=at6 atw;refine go ?_;exact E
theorem VI(n:Int)(h0:0<=n)(h1:n<1000000000000):aU B 171 [u n] (u (j6 n)):=by refine bA Tryz.func171 Tryz.ntmps171 λU=>?_;exact axu
theorem agL{i aj:Int}(h:IQ i aj=false):1<=i/\i<=254/\0<=aj/\aj<=254:=by revert h;unfold IQ;cases h1:decide (i<1)<;>cases A:decide (254<i)<;>cases Z:decide (aj<0)<;>cases aG:decide (254<aj)<;>simp at h1 A Z aG⊢<;>omega
theorem agM{i:Int}(h0:0<=i)(h1:i<=1000):33<=yK i/\yK i<=1100:=by unfold yK;rw[at6 atw];omega
theorem VJ(i aj:Int):aU B 174 [u i,u aj] (u (vS i aj)):=by refine bA Tryz.func174 Tryz.ntmps174 λU=>?_;apply b4;refine f_ ?_;refine ib ?_;refine ib ?_;refine ib ?_;refine mQ ?_;refine⟨λh=>by omega,?_⟩;refine go ?_;refine aK (IQ i aj) rfl ?_ ?_<;>intro hc;refine go ?_;rw[vS,atI hc];exact E;refine go ?_;obtain⟨AC,oI,arC,arD⟩:=agL hc;have ay:=agM (i:=i) atw atw;rw[vS,atH (by rw[hc];decide)];refine go ?_;refine bs (agJ i atw atw) ?_;refine aK _ rfl ?_ ?_<;>intro hc;refine go ?_;rw[atI (by simpa using hc)];exact E;refine go ?_;rw[atH (by simpa using hc)];exact E
theorem agN(b8:Nat):aU B 229 [.fn (.func b8) [] []] (.Q .none 3 []):=by refine bA Tryz.func229 Tryz.ntmps229 λU=>?_;refine go ?_;exact aq.nil
def uo(n:Int):Bool:=bif (bif decide (n<34)then true else decide (254<n))then true else n.tmod 2 !=0
def s9(oR n:Int):Int:=if 2048-oR.tmod 2048<n then oR+(2048-oR.tmod 2048)else oR
def IR(q:List Int×Int)(n:Int):List Int×Int:=(q.1++[s9 q.2 n],s9 q.2 n+n)
def og(l:List Int):List Int×Int:=l.foldl IR ([],0)
def r'(l:List Int):List Int×Int×Bool:=if l.any uo=true then([],0,false)else((og l).1,(og l).2,true)
theorem VK{l:List Int}(h:i<l.length):og (l.take (i+1))=IR (og (l.take i)) l[i]:=by rw[og,og,atM h,auT];rfl
theorem VL(a n:Int)(h0:0<=a)(aw:n<=254):a<=s9 a n/\s9 a n<=a+2048:=by unfold s9;rw[au2 h0];split<;>omega
theorem Fz{n:Int}(h:uo n=false):34<=n/\n<=254:=by revert h;unfold uo;cases h1:decide (n<34)<;>cases A:decide (254<n)<;>simp at h1 A⊢<;>omega
theorem NE{l:List Int}(al:∀j (aa:j<l.length),uo l[j]=false):∀k,k<=l.length->(og (l.take k)).1.length=k/\0<=(og (l.take k)).2/\(og (l.take k)).2<=2302*(k:Int)
 |0,_=>by simp[og]
 |k+1,Y=>by(have fH:k<l.length:=by omega);obtain⟨h1,A,Z⟩:=NE al k atw;have aG:=Fz (al k fH);have bb:=VL (og (l.take k)).2 l[k] A aG.2;rw[VK fH];simp only[IR,atP,atT,auh];omega
theorem agO(l:List Int)(al:l.length<1000000):aU B 251 [.Q .none 1 (br l)] (.bp [.Q .none 1 (br (r' l).1),u (r' l).2.1,.bool (r' l).2.2]):=by
 refine bA Tryz.func251 Tryz.ntmps251 λU=>?_;apply b4;apply b4;apply b4;refine p3 ?_;refine W.own 5 1000 1 3 rfl (λw=>?_);refine go ?_
 refine W.ec (α:={i:Nat // i<=l.length/\∀j (aa:j<l.length),j<i->uo l[j]=false}×Value) (λx=>[(5,.Q (.own 1000 x.2) 1 (br (og (l.take x.1.1)).1)),(6,u (og (l.take x.1.1)).2),(10,.Q .none 1 (br l)),(11,u ((br l).length:Nat)),(12,u x.1.1)])
  (λx=>[(1000,.own x.2 (br (og (l.take x.1.1)).1).length 1 3)]) (λx=>l.length-x.1.1) (⟨0,by omega,λj _ h=>by omega⟩,w) [(1000,1000)]
  ⟨ar,rfl,bc⟩ ?_
 rintro⟨⟨i,hi,cD⟩,w⟩;dsimp only at hi cD⊢;refine go ?_;refine aK (decide ((i:Int)<((br l).length:Nat))) rfl ?_ ?_<;>intro hc
 ·apply co;have aI:i<l.length:=by simpa[br]using hc
  have cS:=VK aI;have iV:(l.take i).length=i:=by rw[at7];omega
  have oS:=NE (l:=l.take i) (λj aa=>by rw[List.getElem_take];exact cD j atw atw) i atw;rw[List.take_take,Nat.min_self]at oS;obtain⟨gB,j4,pt⟩:=oS;generalize ik:og (l.take i)=agP at*;obtain⟨cr,oR⟩:=agP;dsimp only at gB j4 pt;refine gJ ?_;refine⟨λ_=>by simp[br];omega,?_⟩;refine go ?_;refine⟨u l[i],λ_=>by simp[br,aI],?_⟩;refine f_ ?_;refine ib ?_;refine mQ ?_;refine⟨λh=>by omega,?_⟩;refine go ?_;refine aK (uo l[i]) rfl ?_ ?_<;>intro bu
  ·refine go ?_;have I:l.any uo=true:=au_.2 ⟨l[i],atO aI,bu⟩;rw[r',atI I];exact⟨aq.nil,E,E,ak⟩
  apply co;have AD:=Fz bu;have pv:=VL oR l[i] j4 AD.2;have G:oR.tmod 2048=oR%2048:=au2 j4;(conv=>whnf);refine W.lI (α:=Unit) (λx=>[(5,.Q (.own 1000 w) 1 (br cr)),(6,u (s9 oR l[i])),(8,u l[i]),(10,.Q .none 1 (br l)),(11,u ((br l).length:Nat)),(12,u i)]) (λx=>[(1000,.own w (br cr).length 1 3)]) ?_ ?_
  ·refine cl ?_;refine⟨λ_=>by omega,?_⟩;refine go ?_;refine aK (decide (2048-oR.tmod 2048<l[i])) rfl ?_ ?_<;>intro dK
   ·refine go ?_;exact⟨(),[(1000,1000)],⟨E,aq.of_eq (atJ (D.int .i64) (by rw[s9,atI (by simpa using dK)])),E,E,E,E,ak⟩,rfl,bc⟩
   refine go ?_;exact⟨(),[(1000,1000)],⟨E,aq.of_eq (atJ (D.int .i64) (by rw[s9,atH (by simpa using dK)])),E,E,E,E,ak⟩,rfl,bc⟩
  rintro⟨⟩;have ce:(br cr).length=i:=by rw[br,atL,gB]
  refine cl ?_;refine nm ?_;refine⟨by show(_+1)*8<=_;omega,by show _+1<=_;omega,atD,λgm=>?_⟩;refine go ?_;have ao:(og (l.take (i+1))).1=cr++[s9 oR l[i]]:=by rw[cS];rfl
  have FA:(og (l.take (i+1))).2=s9 oR l[i]+l[i]:=by rw[cS];rfl
  exact⟨(⟨i + 1,aI,λj aa h => by rcases at3 j i with lj|lj
                                 ·exact cD j aa lj
                                 have:j=i:=atw
                                 subst this;exact bu⟩,gm),[(1000,39)],ayp,⟨aq.jK (by rw[ao,br,br,auq];rfl),aq.of_eq (atJ (D.int .i64) FA.symm),E,E,E,ak⟩,rfl,rfl,j2 (by rw[ao,br,br,auq];simp),ak⟩
 have ci:i=l.length:=by simp[br]at hc;omega
 subst ci
 have I:¬l.any uo=true:=by
  rw[au_];rintro⟨x,F,yL⟩;obtain⟨j,aa,rfl⟩:=aur.1 F;rw[cD j aa aa]at yL;cases yL
 rw[atX,r',atH I];refine go ?_;exact⟨aq.mL,E,E,ak⟩
def yM(l:List Int):Int:=((r' l).2.1+2048-1).tdiv 2048
theorem VM(l:List Int)(al:l.length<1000000):0<=(r' l).2.1/\(r' l).2.1<=2302000000:=by unfold r';split;decide;rename_i h;have:=NE (l:=l) (λj aa=>by cases I:uo l[j]with|false=>rfl|true=>exact absurd (au_.2 ⟨l[j],atO aa,I⟩) h) l.length (atQ _);rw[atX]at this;simp only;omega
theorem agQ(l:List Int)(al:l.length<1000000):0<=yM l/\yM l<=2000000:=by have:=VM l al;unfold yM;rw[at6 atw];omega
theorem agR(l:List Int)(al:l.length<1000000):aU B 180 [.Q .none 1 (br l)] (u (yM l)):=by refine bA Tryz.func180 Tryz.ntmps180 λU=>?_;refine cl ?_;have oS:=VM l al;have G:((r' l).2.1+2048-1).tdiv 2048=((r' l).2.1+2048-1)/2048:=at6 atw;refine cl ?_;refine⟨[.Q .none 1 (br l)],_,λ_=>agO l al,ar,?_⟩;apply b4;refine vi ?_;refine⟨λ_=>by omega,?_⟩;refine go ?_;exact E
structure c8 where
 qk:atG
 FB:Int
 data:atG
 deriving Inhabited
def AE(x:c8):D:=.agg [.O x.qk,u x.FB,.O x.data]
def eC(l:List c8):List D:=l.map AE
def il(l:List c8):Int:=l.foldl (λn x=>n+(4+(x.data.length:Nat))) 0
theorem IS{l:List c8}(h:i<l.length):il (l.take (i+1))=il (l.take i)+(4+(l[i].data.length:Nat)):=by rw[il,il,atM h,auT];rfl
theorem FC{l:List c8}(N:∀x∈l,x.data.length<1000000):∀k,k<=l.length->0<=il (l.take k)/\il (l.take k)<=1000004*(k:Int)
 |0,_=>by simp[il]
 |k+1,Y=>by have:=FC N k atw;have A:=N _ (atO (show k<l.length by omega));rw[IS atw];omega
theorem IT(l:List c8)(al:l.length<1000000)(N:∀x∈l,x.data.length<1000000):aU B 241 [.Q .none 3 (eC l)] (u (il l)):=by refine bA Tryz.func241 Tryz.ntmps241 λU=>?_;refine go ?_;refine W.ec (α:={i:Nat // i<=l.length}) (λx=>[(3,u (il (l.take x.1))),(6,.Q .none 3 (eC l)),(7,u ((eC l).length:Nat)),(8,u x.1)]) (λ_=>[]) (λx=>l.length-x.1) ⟨0,by omega⟩ [] ⟨ar,rfl,ak⟩ ?_;rintro⟨i,hi⟩;dsimp only at hi⊢;refine go ?_;refine aK (decide ((i:Int)<((eC l).length:Nat))) rfl ?_ ?_<;>intro hc;apply co;(have aI:i<l.length:=by simpa[eC]using hc);have AD:=FC N i hi;have cS:=IS aI;have lH:=N _ (atO aI);generalize gS:il (l.take i)=S at*;refine gJ ?_;refine⟨λ_=>by simp[eC];omega,?_⟩;refine go ?_;refine⟨AE l[i],λ_=>by simp[eC,aI],?_⟩;refine go ?_;intro cK;refine go ?_;exact⟨⟨i+1,aI⟩,[],ayp,⟨aq.of_eq (atJ (D.int .i64) cS.symm),E,E,E,ak⟩,rfl,ak⟩;refine go ?_;(have ci:i=l.length:=by simp[eC]at hc;omega);exact ayn
def FD(c:Int):Bool:=bif (bif decide (c<65)then true else decide (90<c))then(bif decide (c<48)then true else decide (57<c))else false
def FE(s:atG):Bool:=if(s.any λc=>FD (c.toNat:Nat))=true then false else((s.length:Nat):Int)==2
theorem agS(s:atG)(hs:s.length<1000000000):aU B 289 [.O s] (.bool (FE s)):=by
 refine bA Tryz.func289 Tryz.ntmps289 λU=>?_;refine go ?_;refine .inr (af.rO aM rfl rfl rfl rfl rfl rfl rfl atw ?_);refine go ?_;refine W.ec (α:={i:Nat // i<=s.length/\∀j (aa:j<s.length),j<i->FD (s[j].toNat:Nat)=false}) (λx=>[(0,.O s),(6,.Q .none 1 (s.map λc=>D.int .u8 c.toNat)),(7,u ((s.map λc=>D.int .u8 c.toNat).length:Nat)),(8,u x.1)]) (λ_=>[]) (λx=>s.length-x.1) ⟨0,by omega,λj _ h=>by omega⟩ [] ⟨ar,rfl,ak⟩ ?_;rintro⟨i,hi,cD⟩;dsimp only at hi cD⊢;refine go ?_;refine aK (decide ((i:Int)<((s.map λc=>D.int .u8 c.toNat).length:Nat))) rfl ?_ ?_<;>intro hc
 ·apply co;have aI:i<s.length:=by simpa using hc
  refine gJ ?_;refine⟨λ_=>by rw[atL];omega,?_⟩;(conv=>whnf);refine⟨.int .u8 (s[i].toNat:Nat),λ_=>by simp[aI],?_⟩;refine go ?_;refine aK (FD (s[i].toNat:Nat)) rfl ?_ ?_<;>intro bu
  ·refine go ?_;have I:(s.any λc=>FD (c.toNat:Nat))=true:=au_.2 ⟨s[i],atO aI,bu⟩;rw[FE,atI I];exact E
  refine go ?_
  exact⟨⟨i + 1,aI,λj aa h => by rcases at3 j i with lj|lj
                                ·exact cD j aa lj
                                have:j=i:=atw
                                subst this;exact bu⟩,[],ayo,ar,rfl,ak⟩
 refine go ?_;have ci:i=s.length:=by simp at hc;omega
 subst ci
 have I:¬(s.any λc=>FD (c.toNat:Nat))=true:=by
  rw[au_];rintro⟨x,F,yL⟩;obtain⟨j,aa,rfl⟩:=aur.1 F;rw[cD j aa aa]at yL;cases yL
 rw[FE,atH I];refine go ?_;exact E
def xa(x:c8):Option Int :=
 if(!FE x.qk)=true then some 1 else if(bif decide (x.FB<0)then true else decide (255<x.FB))=true then some 2 else if(251:Int)<(x.data.length:Nat)then some 7 else none
def xb(l:List c8):Int:=if(1024:Int)<((eC l).length:Nat)then 7 else(l.findSome? xa).getD 0
theorem FF{bL:Type}{p:bL->Option Int}{l:List bL}{e:Int}(h:i<l.length)(aw:∀j (aa:j<l.length),j<i->p l[j]=none)(ao:p l[i]=some e):l.findSome? p=some e:=by induction l generalizing i with|nil=>simp at h|cons a r aZ =>(cases i with|zero=>simp at ao;simp[ao]|succ i =>have h0:=aw 0 aty atw;simp at h0;rw[List.findSome?_cons,h0];exact aZ (i:=i) (by simpa using h) (λj aa e9=>aw (j+1) (by simpa using aa) atw) (by simpa using ao))
theorem NF{bL:Type}{p:bL->Option Int}{l:List bL}(aw:∀j (aa:j<l.length),p l[j]=none):l.findSome? p=none :=
 List.findSome?_eq_none_iff.2 λx F=>by obtain⟨j,aa,rfl⟩:=aur.1 F;exact aw j aa
theorem agT(l:List c8)(al:l.length<1000000)(N:∀x∈l,x.qk.length<1000000/\x.data.length<1000000):aU B 240 [.Q .none 3 (eC l)] (u (xb l)):=by
 refine bA Tryz.func240 Tryz.ntmps240 λU=>?_;refine go ?_;refine aK (decide ((1024:Int)<((eC l).length:Nat))) rfl ?_ ?_<;>intro hc
 ·refine go ?_;rw[xb,atI (by simpa using hc)];exact E
 refine go ?_;rw[xb,atH (by simpa using hc)];refine go ?_;refine W.ec (α:={i:Nat // i<=l.length/\∀j (aa:j<l.length),j<i->xa l[j]=none}) (λx=>[(8,.Q .none 3 (eC l)),(9,u ((eC l).length:Nat)),(10,u x.1)]) (λ_=>[]) (λx=>l.length-x.1) ⟨0,by omega,λj _ h=>by omega⟩ [] ⟨ar,rfl,ak⟩ ?_;rintro⟨i,hi,cD⟩;dsimp only at hi cD⊢;refine go ?_;refine aK (decide ((i:Int)<((eC l).length:Nat))) rfl ?_ ?_<;>intro bu
 ·apply co;have aI:i<l.length:=by simpa[eC]using bu
  have lH:=N _ (atO aI);refine gJ ?_;refine⟨λ_=>by simp[eC];omega,?_⟩;refine go ?_;refine⟨AE l[i],λ_=>by simp[eC,aI],?_⟩;refine go ?_;intro cT;refine go ?_;refine bs (agS l[i].qk atw) ?_;refine aK (!FE l[i].qk) rfl ?_ ?_<;>intro dK
  ·refine go ?_;rw[FF aI cD (e:=1) (by rw[xa,atI dK])];exact E
  refine go ?_;refine aK (bif decide (l[i].FB<0)then true else decide (255<l[i].FB)) rfl ?_ ?_<;>intro mo
  ·refine go ?_;rw[FF aI cD (e:=2) (by rw[xa,atH (by rw[dK];decide),atI mo])];exact E
  refine go ?_;refine aK (decide ((251:Int)<(l[i].data.length:Nat))) rfl ?_ ?_<;>intro w_
  ·refine go ?_;rw[FF aI cD (e:=7) (by rw[xa,atH (by rw[dK];decide),atH (by rw[mo];decide),atI (by simpa using w_)])];exact E
  refine go ?_
  exact⟨⟨i + 1,aI,λj aa h => by rcases at3 j i with lj|lj
                                ·exact cD j aa lj
                                have:j=i:=atw
                                subst this;rw[xa,atH (by rw[dK];decide),atH (by rw[mo];decide),atH (by simpa using w_)]⟩,[],ayp,ar,rfl,ak⟩
 have ci:i=l.length:=by simp[eC]at bu;omega
 subst ci;rw[NF λj aa=>cD j aa aa];refine go ?_;exact E
theorem FG(a b:atG):Lib.join [a,b] []=a++b:=by rw[Lib.join_cons];simp[Lib.joinTail]
theorem uq(c:Bool)(Fw:atG)(tg:iv)(l:List atG)(b:Nat)(v:Value)(xs:List D)(al:l.length<=1000000)(aa:(Lib.join l []).length<=140737488355328)(F:xs.length<=1000000): c1 B 231 [.bool c,.O Fw,.Q tg 1 (aN l),.box 7000 b 0] (aL [(7000,.box b [.ai v]),(7001,.row v xs 3 238)]) λd aP=>∃c9,True/\d=.bp []/\aP=aL [(7000,.box b [.ai c9]),(7001,.row c9 (xs++if c=true then[li Fw (Lib.join l [])]else[]) 3 238)]:=by refine EM Tryz.func231 Tryz.ntmps231 λU=>W.SR ?_;refine go ?_;refine g6 (t:=c) (λhc=>?_) (λhc=>?_);refine W.zL aM 6 mixed atA ?_;(conv=>whnf);refine go ?_;refine bs (agB tg l [] al aa) ?_;refine .inr (af.nU aM 7001 rfl rfl rfl atz rfl rfl rfl aty (by show(_+1)*40<=_;omega) (by show _+1<=_;omega) λgR cN AB=>?_);(conv=>whnf);refine go ?_;subst hc;refine Tb [] [(7000,.box b [.ai (.slice gR cN AB)]),(7001,.row (.slice gR cN AB) (xs++[li Fw (Lib.join l [])]) 3 238)] [(7000,7000),(7001,14)] ?_;exact⟨.bp [],ak,.slice gR cN AB,ak,rfl,bc⟩;subst hc;refine Tb [] [(7000,.box b [.ai v]),(7001,.row v xs 3 238)] [(7000,7000),(7001,7001)] ?_;exact⟨.bp [],ak,v,ak,rfl,rfl,atJ (λV=>some (aJ.row v V 3 238)) (auG xs).symm,ak⟩
def ur(g9 kind:Int):Int:=qv .or .i64 g9 (IntKind.i64.wrap (IO kind*2 ^ min (Int.toNat 12) IntKind.i64.bits))
def us(kind g9 j7 j8 j9:Int)(named:Bool)(name target:atG)(fh b0:Int)(jQ:Bool):List c8 :=
 ⟨[80,88],1,g_ [ur g9 kind,j7,j8,j9]⟩::((if named=true then[⟨[78,77],1,[0]++name⟩]else[])++((if target≠[]then[⟨[83,76],1,[0]++vR target⟩]else[]) ++
  (⟨[84,70],1,[2]++(vP fh 0).1⟩::((if b0≠0 then[⟨[67,76],1,g_ [b0]⟩]else[])++if jQ=true then[⟨[82,69],1,[]⟩]else[]))))
theorem VN(a1:db B)(kind g9 j7 j8 j9:Int)(named:Bool)(name target:atG)(fh b0:Int)(jQ:Bool)(h:NB kind g9 j7 j8 j9 named name target fh b0)(agU:0<=ur g9 kind/\ur g9 kind<4294967296)(VO:∀x∈[j7,j8,j9,b0],0<=x/\x<4294967296): aU B 162 [r9 true kind g9 j7 j8 j9 named name target true fh b0 0 jQ] (.bp [.Q .none 3 (eC (us kind g9 j7 j8 j9 named name target fh b0 jQ)),u 0]):=by refine fn Tryz.func162 Tryz.ntmps162 λU=>?_;refine go ?_;intro dC;(conv=>whnf);refine go ?_;refine bs (ags a1 kind g9 j7 j8 j9 named name target fh b0 jQ h) ?_;intro cK;(conv=>whnf);refine W.jj 5 (dv:=[.ai (.slice none 0 0)]) rfl ⟨aq.rG,ak⟩ ?_;refine W.qE 7001 3 238 ?_;refine go ?_;have agV:=agD (B:=B) kind h.gy h.cq;have agW:=Fy (B:=B) .dV [ur g9 kind,j7,j8,j9] aty aty (λx F=>by rcases at5.1 F with rfl|F;exact agU;exact VO x (by simp at F⊢;rcases F with rfl|rfl|rfl<;>simp));let Cx:List D:=(r9 true kind g9 j7 j8 j9 named name target true fh b0 0 jQ).cells;let FH:List D:=[]++if(true:Bool)=true then[li [80,88] (Lib.join [g_ [ur g9 kind,j7,j8,j9]] [])]else[];let FI:List D:=FH++if named=true then[li [78,77] (Lib.join [[0],name] [])]else[];let yN:List D:=FI++if target≠[]then[li [83,76] (Lib.join [[0],vR target] [])]else[];let oT:List D:=yN++if(true:Bool)=true then[li [84,70] (Lib.join [[2],(vP fh 0).1] [])]else[];let pw:List D:=oT++if(b0 !=0)=true then[li [67,76] (Lib.join [g_ [b0]] [])]else[];let vT:List D:=pw++if((0:Int)!=0)=true then[li [80,76] (Lib.join [g_ [0]] [])]else[];let VP:List D:=vT++if jQ=true then[li [82,69] (Lib.join [] [])]else[];(have dJ:FH.length<=1:=by simp[FH]);(have cx:FI.length<=2:=by simp only[FI,atP];split<;>simp<;>omega);(have ut:yN.length<=3:=by simp only[yN,atP];split<;>simp<;>omega);(have IU:oT.length<=4:=by simp only[oT,atP];split<;>simp<;>omega);(have agX:pw.length<=5:=by simp only[pw,atP];split<;>simp<;>omega);(have agY:vT.length<=6:=by simp only[vT,atP];split<;>simp<;>omega);refine' eH [(1,.box dC Cx),(5,.box cK [.ai (.slice none 0 0)]),(7001,.row (.slice none 0 0) [] 3 238)] (α:=Value) (.slice none 0 0) (λy=>[_,_,_,_,_,_,_,_,_,_,_,_,_,_,_,_,_,.bp []]) (λy=>[(17,5,some (.box cK [.ai y])),(17,7001,some (.row y ([]++if(true)=true then[li [80,88] (Lib.join [(g_ [ur g9 kind,j7,j8,j9])] [])]else[]) 3 238))]) [0,0,2,0,8,24,56,126,0,256,0,1024,0,4096,16382,32766,65534,131071] [(17,5),(17,7001)] ?_ ?_;rotate_left 17;refine dw ?_;refine bS (λy=>af.yg rfl [.bool (true),.O [80,88],.Q .dV 1 (aN [(g_ [ur g9 kind,j7,j8,j9])]),.box 7000 cK 0] [(7000,5),(7001,7001)] rR (uq (true) [80,88] .dV [(g_ [ur g9 kind,j7,j8,j9])] cK (.slice none 0 0) [] aty (by simp[Lib.join_one,yI]) aty) rfl i1 λc9 _=>dh c9) ?_;exact trivial;intro jk;(conv=>whnf);refine go ?_;clear agW agV;refine t8 [(7000,5),(7001,7001)] (uq named [78,77] .dV [[0],name] cK jk FH aty (by rw[FG];simp;have:=h.Cw;omega) atw) λv2 _=>?_;refine ns (α:=Value) (λ_=>True) [1,5,6] [1] (λ_=>[]) (λx=>[(5,.box cK [.ai x]),(7001,.row x yN 3 238)]) ?_ ?_;refine g6 (t:=target !=[]) (λhc=>?_) (λhc=>?_);(have av:target≠[]:=by simpa using hc);refine bs (agH a1 target (h.t.resolve_left av)) ?_;refine t8 [(7000,5),(7001,7001)] (uq true [83,76] .dV [[0],vR target] cK v2 FI aty (by rw[FG];have:=VH target (h.t.resolve_left av);simp;omega) atw) λv3 _=>?_;refine gK v3 [(1,1),(5,5),(7001,7001)] trivial ⟨cO,rfl,?_⟩;simp only[yN,atI av];exact cO;(have av:target=[]:=by simpa using hc);refine gK v2 [(1,1),(5,5),(7001,7001)] trivial ⟨cO,rfl,?_⟩;simp only[yN,atH (show¬target≠[]from λh=>h av),auG];exact cO;intro v3 _;refine go ?_;refine bs (Vp fh 0) ?_;refine t8 [(7000,5),(7001,7001)] (uq true [84,70] .dV [[2],(vP fh 0).1] cK v3 yN aty (by rw[FG];have:=Vq fh 0;simp;omega) atw) λv4 _=>?_;have agZ:=Fy (B:=B) .dV [b0] aty aty (λx F=>VO x (by simp at F⊢;simp[F]));refine' eH [(1,.box dC Cx),(5,.box cK [.ai v4]),(7001,.row v4 oT 3 238)] (α:=Value) v4 (λy=>[_,_,_,_,_,_,_,_,_,.bp []]) (λy=>[(9,5,some (.box cK [.ai y])),(9,7001,some (.row y (oT++if(b0 !=0)=true then[li [67,76] (Lib.join [(g_ [b0])] [])]else[]) 3 238))]) [0,0,2,6,0,16,48,112,240,511] [(9,5),(9,7001)] ?_ ?_;rotate_left 9;refine dw ?_;refine bS (λy=>af.yg rfl [.bool (b0 !=0),.O [67,76],.Q .dV 1 (aN [(g_ [b0])]),.box 7000 cK 0] [(7000,5),(7001,7001)] rR (uq (b0 !=0) [67,76] .dV [(g_ [b0])] cK v4 oT aty (by simp[Lib.join_one,yI]) atw) rfl i1 λc9 _=>dh c9) ?_;exact trivial;intro v5;(conv=>whnf);refine go ?_;clear agZ;have VQ:=Fy (B:=B) .dV [0] aty aty (λx F=>by simp at F;omega);refine' eH [(1,.box dC Cx),(5,.box cK [.ai v5]),(7001,.row v5 pw 3 238)] (α:=Value) v5 (λy=>[_,_,_,_,_,_,_,_,_,.bp []]) (λy=>[(9,5,some (.box cK [.ai y])),(9,7001,some (.row y (pw++if((0:Int)!=0)=true then[li [80,76] (Lib.join [(g_ [0])] [])]else[]) 3 238))]) [0,0,2,6,0,16,48,112,240,511] [(9,5),(9,7001)] ?_ ?_;rotate_left 9;refine dw ?_;refine bS (λy=>af.yg rfl [.bool ((0:Int)!=0),.O [80,76],.Q .dV 1 (aN [(g_ [0])]),.box 7000 cK 0] [(7000,5),(7001,7001)] rR (uq ((0:Int)!=0) [80,76] .dV [(g_ [0])] cK v5 pw aty (by simp[Lib.join_one,yI]) atw) rfl i1 λc9 _=>dh c9) ?_;exact trivial;intro BV;(conv=>whnf);refine go ?_;refine .inr (af.yg rfl [.bool jQ,.O [82,69],.Q .none 1 (aN []),.box 7000 cK 0] [(7000,5),(7001,7001)] rR (uq jQ [82,69] .none [] cK BV vT aty (by simp[Lib.join_nil]) atw) rfl i1 λHX _=>?_);(conv=>whnf);refine da ?_;refine W.HC 7001 5 0 rfl rfl atz rfl ?_;(have e:VP=eC (us kind g9 j7 j8 j9 named name target fh b0 jQ):=by simp only[FH,FI,yN,oT,pw,vT,VP,us,eC,FG,Lib.join_one,Lib.join_nil,auX,bne_self_eq_false,auU,avs,auG,au6,aui,auq];by_cases h1:target=[]<;>by_cases A:b0=0<;>cases named<;>cases jQ<;>simp[h1,A,li,AE]);refine go ?_;exact⟨.of_eq (atJ (D.Q .none 3) e),E,ak⟩
theorem ag0(a1:db B):aU B 162 [r9 false 0 0 0 0 0 false [] [] false 0 0 1 false] (.bp [.Q .none 3 (eC [⟨[80,76],1,g_ [1]⟩]),u 0]):=by refine fn Tryz.func162 Tryz.ntmps162 λU=>?_;refine go ?_;intro dC;(conv=>whnf);refine go ?_;refine bs (agt a1) ?_;intro cK;(conv=>whnf);refine W.jj 5 (dv:=[.ai (.slice none 0 0)]) rfl ⟨aq.rG,ak⟩ ?_;refine W.qE 7001 3 238 ?_;let Cx:List D:=(r9 false 0 0 0 0 0 false [] [] false 0 0 1 false).cells;let oT:List D:=[]++if(false:Bool)=true then[li [78,77] (Lib.join [[0],[]] [])]else[];let pw:List D:=oT++if((0:Int)!=0)=true then[li [67,76] (Lib.join [g_ [0]] [])]else[];let vT:List D:=pw++if((1:Int)!=0)=true then[li [80,76] (Lib.join [g_ [1]] [])]else[];(have IU:oT.length<=1:=by simp[oT]);(have agX:pw.length<=1:=by simp[pw,oT]);(have agY:vT.length<=1:=by simp[vT,pw,oT]);refine go ?_;refine t8 [(7000,5),(7001,7001)] (uq false [78,77] .dV [[0],[]] cK (.slice none 0 0) [] aty (by rw[FG];simp) aty) λv2 _=>?_;have VQ:=Fy (B:=B) .dV [0] aty aty (λx F=>by simp at F;omega);refine' eH [(1,.box dC Cx),(5,.box cK [.ai v2]),(7001,.row v2 oT 3 238)] (α:=Value) v2 (λy=>[_,_,_,_,_,_,_,_,_,.bp []]) (λy=>[(9,5,some (.box cK [.ai y])),(9,7001,some (.row y (oT++if((0:Int)!=0)=true then[li [67,76] (Lib.join [(g_ [0])] [])]else[]) 3 238))]) [0,0,2,6,0,16,48,112,240,511] [(9,5),(9,7001)] ?_ ?_;rotate_left 9;refine dw ?_;refine bS (λy=>af.yg rfl [.bool ((0:Int)!=0),.O [67,76],.Q .dV 1 (aN [(g_ [0])]),.box 7000 cK 0] [(7000,5),(7001,7001)] rR (uq ((0:Int)!=0) [67,76] .dV [(g_ [0])] cK v2 oT aty (by simp[Lib.join_one,yI]) atw) rfl i1 λc9 _=>dh c9) ?_;exact trivial;intro v5;(conv=>whnf);refine go ?_;clear VQ;have arE:=Fy (B:=B) .dV [1] aty aty (λx F=>by simp at F;omega);refine' eH [(1,.box dC Cx),(5,.box cK [.ai v5]),(7001,.row v5 pw 3 238)] (α:=Value) v5 (λy=>[_,_,_,_,_,_,_,_,_,.bp []]) (λy=>[(9,5,some (.box cK [.ai y])),(9,7001,some (.row y (pw++if((1:Int)!=0)=true then[li [80,76] (Lib.join [(g_ [1])] [])]else[]) 3 238))]) [0,0,2,6,0,16,48,112,240,511] [(9,5),(9,7001)] ?_ ?_;rotate_left 9;refine dw ?_;refine bS (λy=>af.yg rfl [.bool ((1:Int)!=0),.O [80,76],.Q .dV 1 (aN [(g_ [1])]),.box 7000 cK 0] [(7000,5),(7001,7001)] rR (uq ((1:Int)!=0) [80,76] .dV [(g_ [1])] cK v5 pw aty (by simp[Lib.join_one,yI]) atw) rfl i1 λc9 _=>dh c9) ?_;exact trivial;intro BV;(conv=>whnf);refine go ?_;refine .inr (af.yg rfl [.bool false,.O [82,69],.Q .none 1 (aN []),.box 7000 cK 0] [(7000,5),(7001,7001)] rR (uq false [82,69] .none [] cK BV vT aty (by simp[Lib.join_nil]) atw) rfl i1 λHX _=>?_);(conv=>whnf);refine da ?_;refine W.HC 7001 5 0 rfl rfl atz rfl ?_;refine go ?_;exact⟨.of_eq (atJ (D.Q .none 3) (by simp[vT,pw,oT,eC,AE,li,Lib.join_one])),E,ak⟩
def i7(cd:List (List c8)):List D:=cd.map λg=>.Q .none 3 (eC g)
def uu(l:List c8)(es:Int):Nat->Nat->Nat
 |0,n=>n
 |f+1,n=>if il (l.take (n+1))<=es-28 then uu l es f (n+1)else n
def xc:Nat->List c8->Int->List (List c8)
 |0,l,_=>[l]
 |f+1,l,es=>if es<il l then l.take (uu l es l.length 0)::xc f (l.drop (uu l es l.length 0)) 2048 else[l]
def NG(x:c8):Bool:=bif x.qk==[67,69]then true else x.qk==[83,84]
def NH(es:Int):Bool:=bif decide (es<0)then true else decide (254<es)
def VR(l:List c8)(es:Int):Bool:=bif decide (es<il l)then decide (es<28)else false
def IV(l:List c8)(es:Int):List (List c8):=xc (2*l.length+3) l es
def uv(l:List c8)(es:Int):List (List c8)×Int :=
 if xb l≠0 then([],xb l)else if l.any NG=true then([],1)else if NH es=true then([],2)else if VR l es=true then([],12)
 else if 65<=(IV l es).length then([],7)else(IV l es,0)
theorem VS{l:List c8}(h:xb l=0):l.length<=1024/\∀x∈l,x.data.length<=251:=by unfold xb at h;split at h;omega;rename_i h1;(have al:l.length<=1024:=by simp only[eC,atL]at h1;omega);refine⟨al,λx F=>?_⟩;cases M:l.findSome? xa with|none =>have:=List.findSome?_eq_none_iff.1 M x F;unfold xa at this;split at this;cases this;split at this;cases this;split at this;cases this;omega|some e =>rw[M]at h;obtain⟨y,hy,ao⟩:=List.exists_of_findSome?_eq_some M;unfold xa at ao;split at ao;cases ao;cases h;split at ao;cases ao;cases h;split at ao;cases ao;cases h;cases ao
theorem ag1(l:List c8)(es:Int)(hs:es<il l):∀(f n:Nat),n<l.length->l.length<=n+f->uu l es f n=(if il (l.take (n+1))<=es-28 then uu l es (f-1) (n+1)else n)
 |0,n,h1,A=>by omega
 |f+1,n,h1,A=>by rw[uu];rfl
theorem VT(l:List c8)(es:Int)(hs:es<il l):∀(f n:Nat),n<l.length->l.length<=n+f->n<=uu l es f n/\uu l es f n<l.length
 |0,n,h1,A=>by omega
 |f+1,n,h1,A=>by rw[uu];split;rename_i h;(have Z:n+1<l.length:=by rcases at3 (n+1) l.length with aG|aG;exact aG;rw[aug aG]at h;omega);have:=VT l es hs f (n+1) Z atw;omega;omega
theorem ag2{bL:Type}{p:bL->Bool}{l:List bL}(h:∀j (aa:j<l.length),p l[j]=false):¬l.any p=true:=by rw[au_];rintro⟨x,F,yL⟩;obtain⟨j,aa,rfl⟩:=aur.1 F;rw[h j aa]at yL;cases yL
structure uw where
 cr:List (List c8)
 l:List c8
 es:Int
 f:Nat
def uw.vU(x:uw):Nat:=2*x.l.length+(if x.es=2048 then 0 else 1)
structure ag3 (cd:List (List c8)) (n:Nat) (x:uw):Prop where
 eq:x.cr++xc x.f x.l x.es=cd
 iU:x.vU<x.f
 len:x.l.length<=1024
 data:∀y∈x.l,y.data.length<=251
 es:0<=x.es/\x.es<=2048
 cr:x.cr.length+x.vU<=n
theorem ag4(l:List c8)(es:Int)(al:l.length<1000000)(N:∀x∈l,x.qk.length<1000000/\x.data.length<1000000):aU B 172 [.Q .none 3 (eC l),u es] (.bp [.Q .none 1 (i7 (uv l es).1),u (uv l es).2]):=by
 refine bA Tryz.func172 Tryz.ntmps172 λU=>?_;refine go ?_;refine bs (agT l al N) ?_;refine aK (xb l !=0) rfl ?_ ?_<;>intro hc
 ·refine go ?_;rw[uv,atI (by simpa using hc)];exact⟨aq.nil,E,ak⟩
 refine go ?_;have ia:¬xb l≠0:=by simpa using hc
 obtain⟨hlen,ag5⟩:=VS (l:=l) atw;rw[uv,atH ia];refine go ?_;refine W.ec (α:={i:Nat // i<=l.length/\∀j (aa:j<l.length),j<i->NG l[j]=false}) (λx=>[(0,.Q .none 3 (eC l)),(1,u es),(16,.Q .none 3 (eC l)),(17,u ((eC l).length:Nat)),(18,u x.1)]) (λ_=>[]) (λx=>l.length-x.1) ⟨0,by omega,λj _ h=>by omega⟩ [] ⟨ar,rfl,ak⟩ ?_;rintro⟨i,hi,cD⟩;dsimp only at hi cD⊢;refine go ?_;refine aK (decide ((i:Int)<((eC l).length:Nat))) rfl ?_ ?_<;>intro bu
 ·apply co;have aI:i<l.length:=by simpa[eC]using bu
  refine gJ ?_;refine⟨λ_=>by simp[eC];omega,?_⟩;refine go ?_;refine⟨AE l[i],λ_=>by simp[eC,aI],?_⟩;refine go ?_;intro cE;refine go ?_;refine aK (NG l[i]) rfl ?_ ?_<;>intro dK
  ·refine go ?_;rw[atI (au_.2 ⟨l[i],atO aI,dK⟩)];exact⟨aq.nil,E,ak⟩
  refine go ?_
  exact⟨⟨i + 1,aI,λj aa h => by rcases at3 j i with lj|lj
                                ·exact cD j aa lj
                                have:j=i:=atw
                                subst this;exact dK⟩,[],ayp,ar,rfl,ak⟩
 have ci:i=l.length:=by simp[eC]at bu;omega
 subst ci;rw[atH (ag2 λj aa=>cD j aa aa)];refine go ?_;refine aK (NH es) rfl ?_ ?_<;>intro dK
 ·refine go ?_;rw[atI dK];exact⟨aq.nil,E,ak⟩
 refine go ?_;rw[atH (by rw[dK];decide)]
 have sD:0<=es/\es<=254:=by
  revert dK;unfold NH;cases h1:decide (es<0)<;>simp at h1⊢<;>omega
 refine go ?_;refine bs (IT l al (λx F=>(N x F).2)) ?_;refine aK (VR l es) rfl ?_ ?_<;>intro mo
 ·refine go ?_;rw[atI mo];exact⟨aq.nil,E,ak⟩
 apply co;rw[atH (by rw[mo];decide)];generalize kV:IV l es=cd at*;refine cl ?_;refine W.own 9 1000 1 236 rfl (λw=>?_);refine go ?_
 refine W.ec (α:={x:uw // ag3 cd (2*l.length+2) x}×Value) (λx=>[(0,.Q .none 3 (eC x.1.1.l)),(1,u x.1.1.es),(9,.Q (.own 1000 x.2) 1 (i7 x.1.1.cr))])
  (λx=>[(1000,.own x.2 (i7 x.1.1.cr).length 1 236)]) (λx=>x.1.1.vU) (⟨⟨[],l,es,2*l.length+3⟩,by rw[<-kV];rfl,by unfold uw.vU;dsimp only;split<;>omega,hlen,ag5,by dsimp only;omega,by unfold uw.vU;dsimp only[List.length_nil];split<;>omega⟩,w) [(1000,1000)]
  ⟨ar,rfl,bc⟩ ?_
 rintro⟨⟨⟨cr,cx,qY,f⟩,jf,ag6,nt,rU,oI,vV⟩,w⟩;dsimp only at jf ag6 nt rU oI vV⊢;have B':∀x∈cx,x.data.length<1000000:=λx F=>by have:=rU x F;omega
 have eJ:=FC B' cx.length (atQ _);rw[atX]at eJ;have arF:uw.vU ⟨cr,cx,qY,f⟩=2*cx.length+(if qY=2048 then 0 else 1):=rfl;refine go ?_;refine bs (IT cx atw B') ?_;refine aK (decide (qY<il cx)) rfl ?_ ?_<;>intro w_
 ·refine go ?_;have bf:qY<il cx:=by simpa using w_
  have qI:0<cx.length:=by
   rcases auF cx.length with h|h
   ·have:cx=[]:=atZ h;subst this;have h0:il ([]:List c8)=0:=rfl;omega
   exact h
  generalize hN:uu cx qY cx.length 0=bD;have ag7:=VT cx qY bf cx.length 0 qI atw;rw[hN]at ag7;have gI:(i7 cr).length<=3000:=by simp only[i7,atL];omega
  refine go ?_
  refine W.ec (α:={n:Nat×Nat // uu cx qY n.2 n.1=bD/\n.1<cx.length/\cx.length<=n.1+n.2}) (λx=>[(0,.Q .none 3 (eC cx)),(1,u qY),(9,.Q (.own 1000 w) 1 (i7 cr)),(10,u (x.1.1:Nat))])
   (λx=>[(1000,.own w (i7 cr).length 1 236)]) (λx=>cx.length-x.1.1) ⟨(0,cx.length),hN,qI,by show cx.length<=0+cx.length;omega⟩ [(1000,1000)]
   ⟨ar,rfl,bc⟩ ?_
  rintro⟨⟨n,tX⟩,aw,jG,VU⟩;dsimp only at aw jG VU⊢;have a6:=ag1 cx qY bf tX n jG VU;have hV:=FC B' (n+1) atw;refine f_ ?_;refine k6 ?_;refine⟨λ_=>by simp[eC];omega,?_⟩;(conv=>whnf);refine⟨[.Q .none 3 (eC (cx.take (n+1)))],_,λ_=>IT (cx.take (n+1)) (by rw[at7];omega) (λx F=>B' x (auO F)),⟨aq.of_eq (atJ (D.Q .none 3) (by simp[eC,List.map_take])),ak⟩,?_⟩;refine g5 ?_;refine aK (decide (il (cx.take (n+1))<=qY-28)) rfl ?_ ?_<;>intro ul
  ·refine go ?_;have dO:il (cx.take (n+1))<=qY-28:=by simpa using ul
   have sC:n+1<cx.length:=by
    rcases at3 (n+1) cx.length with aG|aG
    ·exact aG
    rw[aug aG]at dO;omega
   refine go ?_;exact⟨⟨(n+1,tX-1),by rw[<-aw,a6,atI dO],sC,by show cx.length<=n+1+(tX-1);omega⟩,[(1000,1000)],by show cx.length-(n+1)<cx.length-n;omega,ar,rfl,bc⟩
  have ag8:n=bD:=by rw[<-aw,a6,atH (by simpa using ul)]
  subst ag8;obtain⟨f,rfl⟩:∃k,f=k+1:=⟨f-1,by omega⟩;refine sH ?_;refine o' ?_;refine⟨λ_=>by simp[eC];omega,?_⟩;(conv=>whnf);refine⟨by simp[eC];omega,by simp[eC];omega,atD,λjk=>?_⟩;(conv=>whnf);refine nm ?_;refine⟨by show(_+1)*24<=_;omega,by show _+1<=_;omega,atD,λv2=>?_⟩;refine go ?_;refine⟨λ_=>by simp[eC];omega,?_⟩;refine go ?_
  have DQ:qY=2048->0<n:=λh=>by
   rcases auF n with h0|h0
   ·subst h0;have h1:=IS (l:=cx) (i:=0) qI;have A:=rU _ (atO qI);have Z:il (cx.take 0)=0:=rfl;have aG:¬il (cx.take (0+1))<=qY-28:=by simpa using ul
    omega
   exact h0
  have ag9:uw.vU ⟨cr++[cx.take n],cx.drop n,2048,f⟩<uw.vU ⟨cr,cx,qY,f+1⟩:=by
   unfold uw.vU;dsimp only;rw[auV,atI rfl];split
   ·rename_i h;have:=DQ h;omega
   omega
  exact⟨(⟨⟨cr++[cx.take n],cx.drop n,2048,f⟩,by rw[<-jf,xc,atI bf,hN];simp,by show uw.vU ⟨cr++[cx.take n],cx.drop n,2048,f⟩<f;omega,by dsimp only;rw[auV];omega,λy hy=>rU y (avX hy),by dsimp only;omega,by simp only[atP,atT,auh];omega⟩,v2),[(1000,66)],ag9,⟨aq.of_eq (atJ (D.Q .none 3) (by simp[eC,List.map_drop];rw[aug aty])),E,aq.jK (by simp[i7,eC,List.map_take];rfl),ak⟩,rfl,rfl,j2 (by simp[i7]),ak⟩
 obtain⟨f,rfl⟩:∃k,f=k+1:=⟨f-1,by omega⟩;have VV:cd=cr++[cx]:=by rw[<-jf,xc,atH (by simpa using w_)]
 have gI:(i7 cr).length=cr.length:=by simp only[i7,atL]
 have VW:cd.length=cr.length+1:=by rw[VV];simp
 refine go ?_;refine aK (decide ((64:Int)<=((i7 cr).length:Nat))) rfl ?_ ?_<;>intro ul
 ·refine go ?_;have cL:(64:Int)<=((i7 cr).length:Nat):=by simpa using ul
  rw[atI atw];exact⟨aq.nil,E,ak⟩
 apply co;refine cl ?_;refine o' ?_;refine⟨by simp[eC];omega,by simp[eC];omega,atD,λjk=>?_⟩;(conv=>whnf);refine nm ?_;refine⟨by show(_+1)*24<=_;omega,by show _+1<=_;omega,atD,λv2=>?_⟩;refine go ?_;have cL:¬(64:Int)<=((i7 cr).length:Nat):=by simpa using ul
 rw[atH atw];exact⟨aq.trans aq.mL (aq.of_eq (atJ (D.Q .none 1) (by rw[VV];simp[i7,eC];rfl))),E,ak⟩
theorem NI{n:Nat}(h:i<n)(V:D):(et i++List.replicate (n-i) V).set i (u (i:Nat))=et (i+1)++List.replicate (n-(i+1)) V:=by apply au4;intro j;(have dg:∀m,(et m).length=m:=λm=>by simp[et]);rw[avO];rcases awc i j with e|e|e;rw[atH atw,auo (by rw[dg];omega),auo (by rw[dg];omega),dg,dg];simp only[av2];(split<;>split<;>first|rfl|omega);subst e;rw[atI rfl,atI (by simp[dg];omega),at0 (by rw[dg];omega)];simp[et];rw[atH atw,at0 (by rw[dg];omega),at0 (by rw[dg];omega)];simp[et,show j<i by omega,show j<i+1 by omega]
variable{J:List ad}{t:Nat}
theorem ag_(h:t<J.length)(V:D):(aN ((J.map ad.name).take t)++List.replicate (J.length-t) V).set t (.O J[t].name)=aN ((J.map ad.name).take (t+1))++List.replicate (J.length-(t+1)) V:=by(have dg:∀m,m<=J.length->(aN ((J.map ad.name).take m)).length=m:=λm hm=>by simp[aN];omega);apply au4;intro j;rw[avO];rcases awc t j with e|e|e;rw[atH atw,auo (by rw[dg _ atw];omega),auo (by rw[dg _ atw];omega),dg _ atw,dg _ atw];simp only[av2];(split<;>split<;>first|rfl|omega);subst e;rw[atI rfl,atI (by simp[aN];omega),at0 (by rw[dg _ atw];omega)];simp[aN,h,auB];rw[atH atw,at0 (by rw[dg _ atw];omega),at0 (by rw[dg _ atw];omega)];simp[aN,auB,show j<t by omega,show j<t+1 by omega]
theorem ag'(a1:db B)(v:Int)(X:v=2\/v=3)(J:List ad)(hn:J.length<=64)(cD:∀k∈J,dX k.name=true/\k.name.length<1000000000)(mu:gN J):aU B 182 [u v,.Q .none 12 (J.map enc)] (.bp [.Q .none 1 (aN (J.map ad.name)),u 0]):=by refine bA Tryz.func182 Tryz.ntmps182 λU=>?_;refine go ?_;intro bk;refine go ?_;refine bs (Fd v) ?_;refine aK _ rfl ?_ ?_<;>intro hc;refine go ?_;exfalso;(have:j5 v=true:=by rcases X with rfl|rfl<;>rfl);rw[this]at hc;cases hc;refine go ?_;refine aK _ rfl ?_ ?_<;>intro hc;refine go ?_;exfalso;simp at hc;omega;refine go ?_;refine .inr (af.x2 aM (n:=J.length) (cq:=.i64) (d8:=.i64) (V:=u 0) rfl rfl rfl rfl rfl ?_ ?_ (by show 8*_<=_;omega) atw λgO=>?_);show D.int _ _=_;simp;show D.int _ _=_;simp;refine go ?_;refine W.ec (α:={i:Nat // i<=J.length}) (λx=>[(0,u v),(3,.box 3 bk 0),(6,.ai gO),(25,.Q .none 12 (J.map enc)),(26,u (J.map enc).length),(27,u x.1)]) (λx=>[(24,.row gO (et x.1++List.replicate (J.length-x.1) (u 0)) 1 3),(3,.box bk [.Q .none 12 (J.map enc)])]) (λx=>J.length-x.1) ⟨0,by omega⟩ [(24,24),(3,3)] ⟨ar,rfl,bc⟩ ?_;rintro⟨i,hi⟩;dsimp only;refine go ?_;refine aK _ rfl ?_ ?_<;>intro hc;refine fg ?_;(have aI:i<J.length:=by simpa using hc);(have dg:(et i).length=i:=by simp[et]);refine vh ?_;refine⟨aE J[i],λ_=>n7 aI,?_⟩;refine go ?_;intro cE;refine go ?_;refine bs (yv a1 _ (cD _ (atO aI)).2) ?_;refine aK _ rfl ?_ ?_<;>intro hc;refine go ?_;exfalso;rw[(cD _ (atO aI)).1]at hc;cases hc;refine go ?_;refine .inr (af.ey aM 24 rfl rfl rfl rfl rfl rfl rfl atw (by simp[dg];omega) ?_);refine go ?_;refine .inr (af.ni aM 24 (i:=i) atC rfl rfl rfl (by simp[dg];omega) rfl ?_);refine go ?_;exact⟨⟨i+1,by omega⟩,[(24,24),(3,3)],by show _-(i+1)<_-i;omega,ar,rfl,rfl,atJ (λV=>some (aJ.row gO V 1 3)) (NI aI _),rfl,bc⟩;refine go ?_;(have ci:i=J.length:=by simp at hc;omega);(have dF:et i++List.replicate (J.length-i) (u 0)=et J.length:=by subst ci;simp);rw[dF];refine go ?_;refine .inr (af.call rfl [.ai gO,.fn (.func 254) [] [.box 2000 bk 0]] [(2001,24),(2000,3)] (UO J mu atw bk gO) rfl ⟨E,aq.fn trivial ⟨aq.box,ak⟩,ak⟩ ?_);rintro d aP ⟨rfl,rfl⟩;refine rH ?_;refine W.fb [(6,.ai gO),(0,u v),(3,.box 3 bk 0)] [(24,.row gO (et J.length) 1 3),(3,.box bk [.Q .none 12 (J.map enc)])] [(24,24),(3,3)] ⟨ar,rfl,bc⟩ ?_;refine W.vp 24 6 rfl ?_;refine go ?_;refine .inr (af.x2 aM (n:=J.length) (cq:=.i64) (d8:=.i64) (V:=.O []) rfl rfl rfl rfl rfl ?_ ?_ (by show 16*_<=_;omega) atw λdy=>?_);show D.int _ _=_;simp;show D.int _ _=_;simp;refine go ?_;refine .inr (af.makeMap λlX=>?_);refine go ?_;refine W.ec (α:={i:Nat // i<=J.length}) (λx=>[(0,u v),(3,.box 3 bk 0),(6,.Q .none 1 (et J.length)),(48,.Q .none 1 (et J.length)),(49,u (et J.length).length),(50,u x.1),(9,.ai dy),(10,.ai (.map (some lX)))]) (λx=>[(46,.row dy (aN ((J.map ad.name).take x.1)++List.replicate (J.length-x.1) (.O [])) 1 9),(47,.set lX (((J.map ad.name).take x.1).reverse)),(3,.box bk [.Q .none 12 (J.map enc)])]) (λx=>J.length-x.1) ⟨0,by omega⟩ [(46,46),(47,47),(3,3)] ⟨ar,rfl,bc⟩ ?_;rintro⟨t,av⟩;dsimp only;refine go ?_;refine aK _ rfl ?_ ?_<;>intro hc;refine fg ?_;(have lk:t<J.length:=by simp[et]at hc;omega);(have o9:∀j,j<J.length->(J.map enc)[j]?=some (aE (J.getD j default)):=λj aa=>by rw[n7 aa];simp[List.getD,aa]);refine gJ ?_;refine⟨λ_=>by simp[et];omega,?_⟩;refine go ?_;refine⟨u (t:Nat),λ_=>by simp[et,lk],?_⟩;refine Ek ?_;apply cB;apply g2;refine g5 ?_;refine hv ?_;refine⟨λh=>by simp at h;simp[et];omega,?_⟩;refine go ?_;refine⟨u ((t-1:Nat):Int),λh=>ax3,?_⟩;refine hv ?_;refine mR ?_;refine⟨aE (J.getD (t-1) default),λh=>o9 (t-1) atw,?_⟩;apply cB;refine hv ?_;refine nW ?_;refine hv ?_;refine⟨aE J[t],λh=>n7 lk,?_⟩;refine go ?_;refine aK _ rfl ?_ ?_<;>intro hc;refine go ?_;exfalso;(cases h0:decide ((0:Int)<t)with|false=>rw[h0]at hc;cases hc|true =>(have NJ:0<t:=by simpa using h0);have a7:=s1 (r3 mu (show t-1<t by omega) lk);rw[h0]at hc;have bu:((J.getD (t-1) default).name==J[t].name)=true:=hc;(have:(J.getD (t-1) default).name=J[t].name:=by simpa using bu);apply a7;rw[<-this];simp[List.getD,show t-1<J.length by omega]);apply co;apply b4;refine mg ?_;refine⟨aE J[t],λ_=>n7 lk,?_⟩;refine go ?_;refine aK _ rfl ?_ ?_<;>intro hc;exfalso;rcases X with rfl|rfl<;>cases hc;refine go ?_;refine .inr (af.BA 47 (dS:=9) (dZ:=4) rfl rfl rfl rfl rfl rfl ?_);refine go ?_;refine .inr (af.ey aM 46 rfl rfl rfl rfl rfl rfl rfl atw (by simp[aN];omega) ?_);refine go ?_;refine .inr (af.ni aM 46 (i:=t) atC rfl rfl rfl (by simp[aN];omega) rfl ?_);refine go ?_;exact⟨⟨t+1,by omega⟩,[(46,46),(47,47),(3,3)],by show _-(t+1)<_-t;omega,ar,rfl,rfl,atJ (λV=>some (aJ.row dy V 1 9)) (ag_ lk _),rfl,atJ (λV=>some (aJ.set lX V)) (by rw[avI];simp[lk]),rfl,bc⟩;refine wT ?_;(have FJ:t=J.length:=by simp[et]at hc;omega);(have FK:aN ((J.map ad.name).take t)++List.replicate (J.length-t) (D.O [])=aN (J.map ad.name):=by subst FJ;rw[aug aty];simp);rw[FK];refine W.fb [(9,.ai dy)] [(46,.row dy (aN (J.map ad.name)) 1 9)] [(46,46)] ⟨ar,rfl,bc⟩ ?_;exact aya
def FL(n:ad)(p q:atG):D:=.agg [.O n.name,u n.kind,.O n.dW,.O n.target,u n.cN,u n.n2,u n.n3,u n.n4,u n.n5,u n.n6,.Q .none 12 (n.J.map enc),.Q .none 2 (n.bO.map c4),.O p,.O q]
theorem aha(n:ad)(p q:atG):aU B 268 [FL n p q] (.bp []):=by refine bA Tryz.func268 Tryz.ntmps268 λU=>?_;refine mS ?_;intro b;(conv=>whnf);exact trivial
theorem ahb{l:List ad}(h:gN l):l.Pairwise λa b=>Op.bytesLess a.name b.name=true :=
 auZ.2 λi j hi aa d9=>r3 h d9 aa
theorem ahc{l:List ad}(h:l.Pairwise λa b=>Op.bytesLess a.name b.name=true):gN l:=λi hi=>by
 have:=auZ.1 h i (i+1) atw hi atw;simpa[List.getD,hi,show i<l.length by omega]using this
theorem ahd(v:Value)(M9:D):c1 B 350 [.ai v,M9] (aL [(2001,.row v [] 12 44)]) λd aP=>d=.bp []/\aP=aL [(2001,.row v [] 12 44)]:=by refine⟨jn Tryz.func350 rfl atA,λw C args Ft pS qD hH ae=>?_⟩;obtain⟨al,ae⟩:=ae;match args,al with|[a0,gR],_ =>have h0:=(ae 0 _ a0 rfl rfl).f4;subst h0;obtain⟨a,cap,X,_⟩:kf w C a0 [] 12 44:=hH.cj 2001 _ rfl;subst X;refine(AnyF.slices_SortFunc_none Tryz.laysSlF0_f350 a cap gR w).mono ?_;rintro e w' ⟨rfl,rfl⟩;exact⟨.tuple #[],.bp [],C,_,rfl,⟨rfl,rfl⟩,.bp [] [] rfl (λi d v N _=>by simp at N),.refl _ _ _,⟨hH.cj,hH.inj,λs o b ah an=>.inl (hH.cI s o b ah an)⟩⟩
def ad.named(n:ad)(s:atG):ad:={n with name:=s}
def keeps(v:Int):Bool:=v==2||v==3
def mw(l:List ad):List ad:=l.mergeSort λa b=>!Op.bytesLess b.name a.name
mutual
def jq(aX:List ad->List atG)(v d:Int):ad->ad
 |.mk a b c t e f g h _ _ ag cC=>.mk a b c t (if keeps v then e else 0) (if keeps v then f else 0) (if keeps v then g else 0) h 0 0 (mw (fQ aX v (d+1) ag (aX ag))) (if v=3 then cC else[])
def fQ(aX:List ad->List atG)(v d:Int):List ad->List atG->List ad
 |k::r,m::cR=>if lg v k d then(jq aX v d k).named m::fQ aX v d r cR else fQ aX v d r cR
 |_,_=>[]
end
section
variable(aX:List ad->List atG)(v d:Int)
theorem FM(n:ad):jq aX v d n=⟨n.name,n.kind,n.dW,n.target,if keeps v then n.cN else 0,if keeps v then n.n2 else 0,if keeps v then n.n3 else 0,n.n4,0,0,mw (fQ aX v (d+1) n.J (aX n.J)),if v=3 then n.bO else[]⟩:=by cases n;simp only[jq]
theorem ahe(n:ad)(m:atG):jq aX v d (n.named m)=(jq aX v d n).named m:=by cases n;simp only[ad.named,jq]
theorem FN(n:ad)(m:atG):aC (n.named m)=aC n:=by cases n;simp only[ad.named,aC]
theorem NK:∀{l:List ad} {cR:List atG} {i:Nat} (h:i<l.length) (bB:i<cR.length),fQ aX v d (l.take (i+1)) (cR.take (i+1))=fQ aX v d (l.take i) (cR.take i)++(if lg v l[i] d then[jq aX v d (l[i].named cR[i])]else[])
 |k::r,m::cR,0,_,_=>by simp[fQ,ahe]
 |k::r,m::cR,i+1,h,bB=>by have:=NK (l:=r) (cR:=cR) (i:=i) (by simpa using h) (by simpa using bB);simp only[avm,fQ,au9];rw[this];split<;>simp
theorem FO:∀(l:List ad) (cR:List atG),(fQ aX v d l cR).length<=l.length
 |[],cR=>by simp[fQ]
 |k::r,[]=>by simp[fQ]
 |k::r,m::cR=>by have:=FO r cR;simp only[fQ];split<;>simp<;>omega
theorem NL:∀(l:List ad) (cR:List atG),((fQ aX v d l cR).map ad.name).Sublist cR
 |[],cR=>by simp[fQ]
 |k::r,[]=>by simp[fQ]
 |k::r,m::cR=>by have:=NL r cR;simp only[fQ];split;simp only[aui];exact this.cons_cons m;exact this.cons m
end
theorem AF(l:List ad):(mw l).Perm l:=awJ l _
theorem NM(l:List ad):(mw l).Pairwise λa b=>Op.bytesLess b.name a.name=false:=by
 have h:=awl (le:=λa b:ad=>!Op.bytesLess b.name a.name) (λa b c h1 A=>by
  have Z:Op.bytesLess b.name a.name=false:=by simpa using h1
  have aG:Op.bytesLess c.name b.name=false:=by simpa using A
  have:Op.bytesLess c.name a.name=false:=by
   cases bb:Op.bytesLess c.name a.name with
   |false=>rfl
   |true =>
    exfalso
    cases cL:Op.bytesLess a.name b.name with
    |true=>rw[Ck _ _ _ bb cL]at aG;cases aG
    |false=>rw[w6 _ _ cL Z]at bb;rw[bb]at aG;cases aG
  simpa using this) (λa b=>by
  cases h1:Op.bytesLess b.name a.name with
  |false=>rfl
  |true=>simp[Fc h1]) l
 exact h.imp λ{a b} h=>by simpa using h
theorem VX{l:List ad}(h:(l.map ad.name).Nodup):gN (mw l):=by have h1:=NM l;have A:((mw l).map ad.name).Nodup:=((AF l).map _).nodup_iff.2 h;apply ahc;have Z:=avz.1 (auH.1 A);exact(h1.and Z).imp λ{a b} ⟨aG,bb⟩=>by cases cL:Op.bytesLess a.name b.name with|true=>rfl|false=>exact absurd (w6 _ _ cL aG) bb
theorem ahf{l:List ad}(h:gN l):mw l=l :=
 Ng h (AF l) λi j hi aa d9=>auZ.1 (NM l) i j hi aa d9
theorem ahg(dq:List ad)(h:(dq.map ad.name).Nodup)(hlen:dq.length<1000000)(v:Value): c1 B 350 [.ai v,.fn (.func 351) [] []] (aL [(2001,.row v (dq.map aE) 12 44)]) λd aP => d=.bp []/\aP=aL [(2001,.row v ((mw dq).map aE) 12 44)]:=by by_cases h0:0<dq.length;refine(aeS (B:=B) dq h0 hlen v).mono ?_;rintro d aP ⟨rfl,Ar,ay,hs,rfl⟩;rw[Ng (VX h) (ay.trans (AF dq).symm) hs];exact⟨rfl,rfl⟩;have aw:dq=[]:=atZ atw;subst aw;(have:mw []=[]:=by simp[mw]);rw[this];exact ahd v _
mutual
def im:ad->Prop
 |.mk _ _ _ _ _ _ _ _ _ _ ag cC=>ag.length<=64/\cC.length<1000000000/\gN ag/\xd ag
def xd:List ad->Prop
 |[]=>True
 |k::r=>((dX k.name=true/\k.name.length<1000000000)/\im k)/\xd r
end
theorem qZ:∀{l:List ad} (_:xd l) {k:ad} (_:k∈l),(dX k.name=true/\k.name.length<1000000000)/\im k
 |x::r,h,k,Y=>by simp only[xd]at h;rcases at5.1 Y with rfl|Y;exact h.1;exact qZ h.2 Y
theorem s_(n:ad):im n↔n.J.length<=64/\n.bO.length<1000000000/\gN n.J/\xd n.J:=by cases n;simp only[im]
theorem ahh(n:ad)(m:atG):im (n.named m)↔im n:=by simp only[s_,ad.named]
structure Cy (B:World) (v:Int) (aX:List ad->List atG):Prop where
 call:∀ag:List ad,ag.length<=64->gN ag->(∀k∈ag,dX k.name=true/\k.name.length<1000000000)->
  aU B 182 [u v,.Q .none 12 (ag.map enc)] (.bp [.Q .none 1 (aN (aX ag)),u 0])/\(aX ag).length=ag.length/\(aX ag).Nodup/\∀m∈aX ag,m.length<=1100
def Cz(p m:atG)(b:Bool):atG:=if b=true then m else p++[47]++m
theorem VY(p m:atG)(b:Bool):(Cz p m b).length<=p.length+1+m.length:=by simp only[Cz];split<;>simp<;>omega
theorem ahi(aX:List ad->List atG)(v:Int)(mt:Cy B v aX):∀(bD:Nat) (n:ad),aC n<bD->im n->∀(p q:atG) (d:Int),0<=d->d+aC n<1000000000->p.length+1200*aC n<1000000000->q.length+aC n<1000000000->aU B 310 [u v,FL n p q,u d,.fn (.func 268) [] []] (aE (jq aX v d n)):=by
 refine λbD=>Nat.rec (λn h=>absurd h (avf _)) (λbD aZ n hN cD p q d N rU ay G=>?_) bD;obtain⟨hn,o_,mu,xe⟩:=(s_ n).1 cD;have b6:∀k∈n.J,dX k.name=true/\k.name.length<1000000000:=λk Y=>(qZ xe Y).1;obtain⟨DR,jG,kW,nV⟩:=mt.call n.J hn mu b6;refine bA Tryz.func310 Tryz.ntmps310 λU=>?_;refine go ?_;intro cK;refine go ?_;intro cE;refine go ?_;intro ij;refine go ?_;intro jR
 (conv=>whnf)
 refine da ?_;refine W.lI (α:=Unit) (λx=>[(0,u v),(2,u d),(3,.fn (.func 268) [] []),(5,.box 5 cK 0),(8,.box 8 cE 0),(9,.box 9 ij 0),(10,.box 10 jR 0)]) (λx=>[(5,.box cK [.O n.name,u n.kind,.O n.dW,.O n.target,u n.cN,u n.n2,u n.n3,u n.n4,u n.n5,u n.n6,.Q .none 12 (n.J.map enc),.Q .none 2 (n.bO.map c4),.O p,.O q]),(8,.box cE [.O [],u 0,.O [],.O [],u 0,u 0,u 0,u 0,u 0,u 0,.bj,.bj]),(9,.box ij [.O n.name,u n.kind,.O n.dW,.O n.target,u n.cN,u n.n2,u n.n3,u n.n4,u n.n5,u n.n6,.Q .none 12 (n.J.map enc),.Q .none 2 (n.bO.map c4)]),(10,.box jR [.O n.name,u n.kind,.O n.dW,.O n.target,u (if keeps v then n.cN else 0),u (if keeps v then n.n2 else 0),u (if keeps v then n.n3 else 0),u n.n4,u 0,u 0,.bj,.bj])]) ?_ ?_
 ·refine go ?_;refine aK _ rfl ?_ ?_<;>intro hc
  ·have Y:keeps v=true:=by
    cases h1:(v==2)with
    |true=>simp only[keeps,h1,Bool.true_or]
    |false =>
     rw[h1]at hc;simpa[keeps,h1]using hc
   rw[Y];refine' eH [(5,.box cK [.O n.name,u n.kind,.O n.dW,.O n.target,u n.cN,u n.n2,u n.n3,u n.n4,u n.n5,u n.n6,.Q .none 12 (n.J.map enc),.Q .none 2 (n.bO.map c4),.O p,.O q]),(8,.box cE [.O [],u 0,.O [],.O [],u 0,u 0,u 0,u 0,u 0,u 0,.bj,.bj]),(9,.box ij [.O n.name,u n.kind,.O n.dW,.O n.target,u n.cN,u n.n2,u n.n3,u n.n4,u n.n5,u n.n6,.Q .none 12 (n.J.map enc),.Q .none 2 (n.bO.map c4)]),(10,.box jR [.O n.name,u n.kind,.O n.dW,.O n.target,u 0,u 0,u 0,u n.n4,u 0,u 0,.bj,.bj])] () (λ_:Unit=>[_,_,_,_,_,_,_,.any,_,.any,_,.any]) (λ_=>[(7,10,some (.box jR [.O n.name,u n.kind,.O n.dW,.O n.target,u n.cN,u 0,u 0,u n.n4,u 0,u 0,.bj,.bj])),(9,10,some (.box jR [.O n.name,u n.kind,.O n.dW,.O n.target,u n.cN,u n.n2,u 0,u n.n4,u 0,u 0,.bj,.bj])),(11,10,some (.box jR [.O n.name,u n.kind,.O n.dW,.O n.target,u n.cN,u n.n2,u n.n3,u n.n4,u 0,u 0,.bj,.bj]))]) [0,1,0,4,0,16,3,67,207,463,1023,2047] [(7,10),(9,10),(11,10)] ?_ ?_
   rotate_left 9
   ·refine dw ?_;refine Go.bR.ck.vs ?_;refine Go.bR.ck.vs ?_;refine Go.bR.ck.vs ?_;exact trivial
   intro _
   (conv=>whnf)
   refine go ?_;exact⟨(),[(5,5),(8,8),(9,9),(10,10)],ar,rfl,bc⟩
  refine go ?_
  have Y:keeps v=false:=by
   cases h1:(v==2)with
   |true=>rw[h1]at hc;cases hc
   |false =>
    rw[h1]at hc;simpa[keeps,h1]using hc
  rw[Y];exact⟨(),[(5,5),(8,8),(9,9),(10,10)],ar,rfl,bc⟩
 rintro⟨⟩;refine W.lI (α:={x:D // aq x (.Q .none 2 ((if v=3 then n.bO else[]).map c4))}) (λx=>[(0,u v),(2,u d),(3,.fn (.func 268) [] []),(5,.box 5 cK 0),(8,.box 8 cE 0),(9,.box 9 ij 0),(10,.box 10 jR 0)]) (λx=>[(5,.box cK [.O n.name,u n.kind,.O n.dW,.O n.target,u n.cN,u n.n2,u n.n3,u n.n4,u n.n5,u n.n6,.Q .none 12 (n.J.map enc),.Q .none 2 (n.bO.map c4),.O p,.O q]),(8,.box cE [.O [],u 0,.O [],.O [],u 0,u 0,u 0,u 0,u 0,u 0,.bj,.bj]),(9,.box ij [.O n.name,u n.kind,.O n.dW,.O n.target,u n.cN,u n.n2,u n.n3,u n.n4,u n.n5,u n.n6,.Q .none 12 (n.J.map enc),.Q .none 2 (n.bO.map c4)]),(10,.box jR [.O n.name,u n.kind,.O n.dW,.O n.target,u (if keeps v then n.cN else 0),u (if keeps v then n.n2 else 0),u (if keeps v then n.n3 else 0),u n.n4,u 0,u 0,.bj,x.1])]) ?_ ?_
 ·refine go ?_;refine aK _ rfl ?_ ?_<;>intro hc
  ·refine go ?_;refine bs (UL n.bO o_) ?_;have Af:v=3:=by simpa using hc
   exact⟨⟨.Q .none 2 (n.bO.map c4),by rw[atI Af];exact E⟩,[(5,5),(8,8),(9,9),(10,10)],ar,rfl,bc⟩
  refine go ?_;have Af:¬v=3:=by simpa using hc
  exact⟨⟨.bj,by rw[atH Af];exact .nil⟩,[(5,5),(8,8),(9,9),(10,10)],ar,rfl,bc⟩
 rintro⟨ho,Ad⟩;refine W.jj 10 (dv:=[.O n.name,u n.kind,.O n.dW,.O n.target,u (if keeps v then n.cN else 0),u (if keeps v then n.n2 else 0),u (if keeps v then n.n3 else 0),u n.n4,u 0,u 0,.bj,.Q .none 2 ((if v=3 then n.bO else[]).map c4)]) rfl ⟨E,E,E,E,E,E,E,E,E,E,E,Ad,ak⟩ ?_;refine k7 ?_;refine⟨[FL n p q],_,λ_=>aha n p q,ar,?_⟩;refine k7 ?_;refine⟨[u v,.Q .none 12 (n.J.map enc)],_,λ_=>DR,ar,?_⟩;refine f_ ?_
 (conv=>whnf)
 refine da ?_;apply oG;refine W.jj 10 (dv:=[.O n.name,u n.kind,.O n.dW,.O n.target,u (if keeps v then n.cN else 0),u (if keeps v then n.n2 else 0),u (if keeps v then n.n3 else 0),u n.n4,u 0,u 0,.ai (.slice none 0 0),.Q .none 2 ((if v=3 then n.bO else[]).map c4)]) rfl ⟨E,E,E,E,E,E,E,E,E,E,aq.rG,E,ak⟩ ?_;refine W.qE 109 12 44 ?_
 refine W.ec (α:={x:Nat×Value // x.1<=n.J.length}) (λx=>[(0,u v),(2,u d),(3,.fn (.func 268) [] []),(5,.box 5 cK 0),(8,.box 8 cE 0),(9,.box 9 ij 0),(10,.box 10 jR 0),(11,.Q .none 1 (aN (aX n.J))),(61,.Q .none 12 (n.J.map enc)),(62,u (n.J.map enc).length),(63,u x.1.1)]) (λx=>[(5,.box cK [.O n.name,u n.kind,.O n.dW,.O n.target,u n.cN,u n.n2,u n.n3,u n.n4,u n.n5,u n.n6,.Q .none 12 (n.J.map enc),.Q .none 2 (n.bO.map c4),.O p,.O q]),(8,.box cE [.O [],u 0,.O [],.O [],u 0,u 0,u 0,u 0,u 0,u 0,.bj,.bj]),(9,.box ij [.O n.name,u n.kind,.O n.dW,.O n.target,u n.cN,u n.n2,u n.n3,u n.n4,u n.n5,u n.n6,.Q .none 12 (n.J.map enc),.Q .none 2 (n.bO.map c4)]),(10,.box jR [.O n.name,u n.kind,.O n.dW,.O n.target,u (if keeps v then n.cN else 0),u (if keeps v then n.n2 else 0),u (if keeps v then n.n3 else 0),u n.n4,u 0,u 0,.ai x.1.2,.Q .none 2 ((if v=3 then n.bO else[]).map c4)]),(109,.row x.1.2 ((fQ aX v (d+1) (n.J.take x.1.1) ((aX n.J).take x.1.1)).map aE) 12 44)]) (λx=>n.J.length-x.1.1) ⟨(0,.slice none 0 0),at4 _⟩ [(5,5),(8,8),(9,9),(10,10),(109,109)]
  ⟨ar,rfl,rfl,rfl,rfl,rfl,rfl,rfl,rfl,rfl,rfl,atJ (λV=>some (aJ.row (.slice none 0 0) V 12 44)) (by simp[fQ]),ak⟩ ?_
 rintro⟨⟨i,gO⟩,hi⟩;dsimp only at hi⊢;refine go ?_;refine aK _ rfl ?_ ?_<;>intro hc
 ·refine fg ?_;have aI:i<n.J.length:=by simpa using hc
  have ci:i<(aX n.J).length:=atw
  have NN:=rP aI;have oN:=nV _ (atO ci);have vw:=VY p (aX n.J)[i] (d==1);have lj:=VY q n.J[i].name (d==1);refine gJ ?_;refine mR ?_;refine⟨aE n.J[i],λ_=>rQ aI,?_⟩;refine go ?_;intro ql;refine go ?_;refine bs (Fe v _ _) ?_;refine aK _ rfl ?_ ?_<;>intro hc
  ·apply el
   have hs:lg v n.J[i] (d+1)=true:=by
    cases h1:decide ((i:Int)<((aN (aX n.J)).length:Int))with
    |true=>rw[h1]at hc;exact hc
    |false=>rw[h1]at hc;cases hc
   apply kp;apply cB;refine eB ?_;refine⟨[.O q,.O n.J[i].name,.bool (d==1)],_,λ_=>Uk _ _ _ atw,ar,?_⟩;refine cl ?_;refine⟨λ_=>by simp[aN];omega,?_⟩;refine go ?_;refine⟨.O (aX n.J)[i],λ_=>by simp[aN,ci],?_⟩
   (conv=>whnf)
   refine da ?_;refine W.zL aM 18 mixed atB ?_;refine go ?_;refine⟨[.O p,.O (aX n.J)[i],.bool (d==1)],_,λ_=>Uk _ _ _ atw,ar,?_⟩;refine k6 ?_
   refine⟨[u v,FL (n.J[i].named (aX n.J)[i]) (Cz p (aX n.J)[i] (d==1)) (Cz q n.J[i].name (d==1)),u (d+1),.fn (.func 268) [] []],_,
    λ_=>aZ (n.J[i].named (aX n.J)[i]) (by rw[FN];omega) ((ahh _ _).2 (qZ xe (atO aI)).2) (Cz p (aX n.J)[i] (d==1)) (Cz q n.J[i].name (d==1)) (d+1) atw (by rw[FN];omega)
     (by rw[FN];omega) (by rw[FN];omega),ar,?_⟩
   refine go ?_;refine .inr (af.nU aM 109 rfl rfl rfl atD rfl rfl rfl (avY) ?_ ?_ λbJ m cap=>?_)
   ·have:=FO aX v (d+1) (n.J.take i) ((aX n.J).take i);show(_+1)*152<=_;simp at this⊢;omega
   ·have:=FO aX v (d+1) (n.J.take i) ((aX n.J).take i);show _+1<=_;simp at this⊢;omega
   refine go ?_;exact⟨⟨(i+1,.slice bJ m cap),aI⟩,[(5,5),(8,8),(9,9),(10,10),(109,109)],by show _-(i+1)<_-i;omega,ar,rfl,rfl,rfl,rfl,rfl,rfl,rfl,rfl,rfl,rfl,atJ (λV=>some (aJ.row (.slice bJ m cap) V 12 44)) (by rw[NK aX v (d+1) aI ci,atI hs];simp;rfl),ak⟩
  have hs:lg v n.J[i] (d+1)=false:=by
   have h1:decide ((i:Int)<((aN (aX n.J)).length:Int))=true:=by simp[aN];omega
   rw[h1]at hc;exact hc
  refine go ?_;exact⟨⟨(i+1,gO),aI⟩,[(5,5),(8,8),(9,9),(10,10),(109,109)],by show _-(i+1)<_-i;omega,ar,rfl,rfl,rfl,rfl,rfl,rfl,rfl,rfl,rfl,rfl,atJ (λV=>some (aJ.row gO V 12 44)) (by rw[NK aX v (d+1) aI ci,hs];simp),ak⟩
 refine go ?_;have ci:i=n.J.length:=by simp at hc;omega
 have dF:(fQ aX v (d+1) (n.J.take i) ((aX n.J).take i)).map aE=(fQ aX v (d+1) n.J (aX n.J)).map aE:=by
  subst ci;rw[atX,aug atw]
 rw[dF];have hlen:=FO aX v (d+1) n.J (aX n.J);have ahj:((fQ aX v (d+1) n.J (aX n.J)).map ad.name).Nodup:=(NL aX v (d+1) n.J (aX n.J)).nodup kW;refine go ?_;refine .inr (af.call rfl [.ai gO,.fn (.func 351) [] []] [(2001,109)] (ahg _ ahj atw gO) rfl ar ?_);rintro d' aP ⟨rfl,rfl⟩;refine rH ?_;refine W.fb [(113,.ai gO),(8,.box 8 cE 0),(10,.box 10 jR 0)] [(109,.row gO ((mw (fQ aX v (d+1) n.J (aX n.J))).map aE) 12 44),(8,.box cE [.O [],u 0,.O [],.O [],u 0,u 0,u 0,u 0,u 0,u 0,.bj,.bj]),(10,.box jR [.O n.name,u n.kind,.O n.dW,.O n.target,u (if keeps v then n.cN else 0),u (if keeps v then n.n2 else 0),u (if keeps v then n.n3 else 0),u n.n4,u 0,u 0,.ai gO,.Q .none 2 ((if v=3 then n.bO else[]).map c4)])] [(109,109),(8,8),(10,10)] ⟨ar,rfl,bc⟩ ?_;refine W.aci 109 113 rfl ?_;refine W.ach 10 113 (dv:=[.O n.name,u n.kind,.O n.dW,.O n.target,u (if keeps v then n.cN else 0),u (if keeps v then n.n2 else 0),u (if keeps v then n.n3 else 0),u n.n4,u 0,u 0,.Q .none 12 ((mw (fQ aX v (d+1) n.J (aX n.J))).map aE),.Q .none 2 ((if v=3 then n.bO else[]).map c4)]) rfl rfl (λw C ae dk h=>c'.cell (i:=10) h λaj an=>(h.Se (i:=10) rfl an) ▸ ae) ?_;refine go ?_;rw[FM];refine aq.agg ?_;refine⟨E,E,E,E,E,E,E,E,E,E,aq.of_eq (atJ (D.Q .none 12) ?_),aq.refl _,ak⟩
 exact av3 λk _=>(rJ k).symm
mutual
def iJ:ad->Int->Bool
 |.mk a b c d e f g h i j ag cC,l=>one (.mk a b c d e f g h i j ag cC) l==0&&m6 ag (l+1)
def m6:List ad->Int->Bool
 |[],_=>true
 |k::r,l=>iJ k l&&m6 r l
end
theorem IW(n:ad)(l:Int):iJ n l=(one n l==0&&m6 n.J (l+1)):=by cases n;simp only[iJ]
mutual
theorem VZ:∀(n:ad) (p:atG) (l:Int) (q:atG),
  (iJ n l=true->fK gU n p l (0,q)=(true,(0,q)))/\(iJ n l=false->(fK gU n p l (0,q)).1=false/\(fK gU n p l (0,q)).2.1≠0)
 |.mk a b c d e f g h i j ag cC,p,l,q=>by
  have aZ:=V0 ag p l q;simp only[fK,iJ,gU];by_cases h1:one (.mk a b c d e f g h i j ag cC) l=0
  ·simp only[h1,auX,beq_self_eq_true,awF];exact aZ
  simp only[h1,avs];refine⟨λcF=>?_,λ_=>⟨by simp,by simpa using h1⟩⟩;simp[h1]at cF
theorem V0:∀(ag:List ad) (p:atG) (l:Int) (q:atG),
  (m6 ag (l+1)=true->ks gU ag p l (0,q)=(true,(0,q)))/\(m6 ag (l+1)=false->(ks gU ag p l (0,q)).1=false/\(ks gU ag p l (0,q)).2.1≠0)
 |[],p,l,q=>by simp[ks,m6]
 |k::r,p,l,q=>by
  have h1:=VZ k (below p k.name (l+1)) (l+1) q;have A:=V0 r p l q;simp only[ks,m6]
  cases Y:iJ k (l+1)with
  |true =>
   rw[h1.1 Y];simpa using A
  |false =>
   have Z:=h1.2 Y;generalize F:fK gU k (below p k.name (l+1)) (l+1) (0,q)=x at Z;obtain⟨ahk,NO⟩:=x;obtain⟨aG,bb⟩:=Z;simp only at aG bb;subst aG;simp[bb]
end
theorem vW(n:ad):valid n=(decide (fC n<=256)&&iJ n 1):=by simp only[valid,sZ];by_cases h:(256:Int)<fC n;rw[atI h];(have:decide (fC n<=256)=false:=by simp;omega);rw[this];rfl;rw[atH h];(have h1:decide (fC n<=256)=true:=by simp;omega);rw[h1,awF];have cz:=VZ n [] 1 [];cases aW:iJ n 1 with|true=>rw[cz.1 aW];rfl|false=>simpa using(cz.2 aW).2
theorem FP{f:Nat->Int}:∀{k i:Nat},g8 f i k=0->∀j,i<=j->j<i+k->f j=0
 |0,i,_,j,h1,A=>by omega
 |k+1,i,h,j,h1,A=>by simp only[g8]at h;split at h;rename_i h0;by_cases e:j=i;rw[e];exact h0;exact FP h j atw atw;rename_i h0;exact absurd h h0
variable{s:atG}
theorem IX(h:dX s=true):s.length<=256:=by simp only[dX]at h;split at h;cases h;simp only[atN,aut,avp]at h;obtain⟨h1,A,Z⟩:=h;simp only[chars]at h1 Z;split at h1;cases h1;rename_i al;rw[atH al]at Z;cases hc:jo s with|none=>rw[hc]at h1;cases h1|some l =>rw[hc]at Z;have:=B_ s.length s (atQ _) l hc;simp only at Z;omega
theorem ahl(h:dX s=true):s≠[]:=by intro e;subst e;revert h;decide +kernel
structure NP (n:ad) (l:Int):Prop where
 IY:0<=n.kind/\n.kind<=2
 FQ:l=1->n.kind=0
 FR:l=1->n.name=[]
 IZ:1<l->dX n.name=true
 file:n.kind≠1->n.dW=[]/\n.bO=[]
 I0:n.kind≠2->n.target=[]
 bd:n.kind≠0->n.J=[]
 target:n.kind=2->kR n.target=true
 cN:0<=n.cN/\n.cN<=4095
 n2:0<=n.n2/\n.n2<=65535
 n3:0<=n.n3/\n.n3<=65535
 n4:315532800<=n.n4/\n.n4<=4102444799
 n5:-1048576<=n.n5/\n.n5<=1048576
 n6:0<=n.n6/\n.n6<=15
 bY:l<=16
 size:n.dW.length<=262144
 FS:n.J.length<=64
 FT:n.bO.length<=4
 bO:∀i,i<n.bO.length->(gT n i).target.length<=262144/\ps n i=0
 gN:gN n.J
theorem ahm{n:ad}{l:Int}(h:one n l=0):NP n l:=by
 have ae:=FP h;have gz:ub n l=false:=by have:=ae 0 atw atw;simp only[eO,vD]at this;split at this<;>simp_all
 have lh:uc n l=false:=by have:=ae 1 atw atw;simp only[eO,vE]at this;split at this<;>simp_all
 have ms:ud n=false:=by have:=ae 2 atw atw;simp only[eO,vF]at this;split at this<;>simp_all
 have oe:ue n=false:=by have:=ae 3 atw atw;simp only[eO,vG]at this;split at this<;>simp_all
 have qg:r0 n=false:=by have:=ae 4 atw atw;simp only[eO,vH]at this;split at this<;>simp_all
 have I1:=ae 5 atw atw;simp only[eO,nv]at I1;have vM:r1 n l=false:=by split at I1<;>simp_all
 rw[atH (by rw[vM];simp)]at I1;have Cm:=ae 6 atw atw;simp only[eO,Cj]at Cm;have Cn:=ae 7 atw atw;simp only[eO,yy]at Cn;simp only[ub,uc,ud,ue,r0,r1,sY,avh,avk,avn,avE,auA,avp,Bool.not_eq_eq_eq_not,Bool.not_true,Bool.not_false,atN,aut]at gz lh ms oe qg vM;obtain⟨⟨ahn,aho⟩,ahp⟩:=ms;obtain⟨⟨⟨⟨⟨ahq,ahr⟩,NQ⟩,ahs⟩,FU⟩,aht⟩:=qg
 have Y:gN n.J:=λi hi=>by
  have:=FP Cn (i+1) atw atw;simp only[r2,p',qa,Nat.add_sub_cancel]at this;by_cases h1:(n.J.getD i default).name=(n.J.getD (i+1) default).name
  ·rw[atI h1]at this;cases this
  rw[atH h1]at this;by_cases A:Op.bytesLess (n.J.getD (i+1) default).name (n.J.getD i default).name=true
  ·rw[atI A]at this;cases this
  cases Z:Op.bytesLess (n.J.getD i default).name (n.J.getD (i+1) default).name with
  |true=>rfl
  |false=>exact absurd (w6 _ _ Z (by simpa using A)) h1
 exact{
  IY:=atw
  FQ:=λe=>by rcases gz.2 with h1|h1<;>first|exact absurd e h1|exact h1
  FR:=λe=>by rcases lh.1 with h1|h1<;>first|exact absurd e h1|exact h1
  IZ:=λe=>by rcases lh.2 with h1|h1<;>first|(exact absurd e h1)|exact h1
  file:=λe=>by
   rcases ahn with h1|⟨h1,A⟩
   ·exact absurd h1 e
   exact⟨h1,atZ atw⟩
  I0:=λe=>by rcases aho with h1|h1<;>first|exact absurd h1 e|exact h1
  bd:=λe=>by
   rcases ahp with h1|h1
   ·exact absurd h1 e
   exact atZ atw
  target:=λe=>by rcases oe with h1|h1<;>first|exact absurd e h1|exact h1
  cN:=ahq,n2:=ahr,n3:=NQ,n4:=ahs,n5:=FU,n6:=aht
  bY:=atw
  size:=atw
  FS:=atw
  FT:=atw
  bO:=λi hi=>⟨by
   have:=FP I1 i atw atw;simp only[pr]at this;split at this
   ·cases this
   rename_i h1;simp at h1;omega,FP Cm i atw atw⟩
  gN:=Y}
theorem AG{n:ad}{l:Int}(h:iJ n l=true):NP n l/\m6 n.J (l+1)=true:=by rw[IW,atN]at h;exact⟨ahm (by simpa using h.1),h.2⟩
theorem V1:∀{ag:List ad} {l:Int},(∀k∈ag,iJ k l=true)->m6 ag l=true
 |[],l,h=>rfl
 |x::r,l,h=>by simp only[m6,atN];exact⟨h x atU,V1 λk Y=>h k (atY _ Y)⟩
mutual
theorem NR:∀(n:ad) (l:Int),1<=l->iJ n l=true->im n
 |.mk a b c d e f g h i j ag cC,l,al,aW=>by
  obtain⟨h1,A⟩:=AG aW;simp only[im];have hn:ag.length<=64:=h1.FS;have V2:cC.length<=4:=h1.FT;exact⟨hn,by omega,h1.gN,V3 ag (l+1) atw A⟩
theorem V3:∀(ag:List ad) (l:Int),2<=l->m6 ag l=true->xd ag
 |[],l,al,aW=>trivial
 |k::r,l,al,aW=>by
  simp only[m6,atN]at aW;simp only[xd];have aw:=(AG aW.1).1.IZ atw;have:=IX aw;exact⟨⟨⟨aw,by omega⟩,NR k l atw aW.1⟩,V3 r l al aW.2⟩
end
theorem AH{n:ad}(h:valid n=true):im n:=by rw[vW,atN]at h;exact NR n 1 (auN _) h.2
theorem NS(a1:db B){v:Int}(X:v=2\/v=3):Cy B v (λag=>ag.map ad.name) :=
 ⟨λag hn mu cD=>⟨ag' a1 v X ag hn cD mu,by simp,by
  have:=ahb mu;rw[auH,avz]
  exact this.imp λh=>s1 h,λm hm=>by
  obtain⟨k,Y,rfl⟩:=aub.1 hm;have:=IX (cD k Y).1
  omega⟩⟩
def ux:ad:=⟨[],0,[],[],0,0,0,0,0,0,[],[]⟩
def s'(aX:List ad->List atG)(v:Int)(n:ad):ad×Int :=
 if j5 v=false then(ux,2)else if valid n=false then(ux,1)else(jq aX v 1 n,0)
theorem NT:aq (.agg [.O [],u 0,.O [],.O [],u 0,u 0,u 0,u 0,u 0,u 0,.bj,.bj]) (aE ux) :=
 aq.agg ⟨E,E,E,E,E,E,E,E,E,E,aq.nil,aq.nil,ak⟩
theorem ahu(a1:db B)(aX:List ad->List atG)(v:Int)(mt:j5 v=true->Cy B v aX)(n:ad)(bC:aC n+n.name.length<10000000)(X:valid n=true->aC n<800000):aU B 267 [u v,aE n,.fn (.func 268) [] []] (.bp [aE (s' aX v n).1,u (s' aX v n).2]):=by refine bA Tryz.func267 Tryz.ntmps267 λU=>?_;refine cl ?_;intro cT;(conv=>whnf);intro d_;refine p3 ?_;refine⟨[u v],_,λ_=>Fd v,ar,?_⟩;refine aK _ rfl ?_ ?_<;>intro hc;refine iX ?_;refine iD ?_;(have h1:j5 v=false:=by simpa using hc);(have A:s' aX v n=(ux,2):=by rw[s',atI h1]);rw[A];refine eB ?_;exact⟨NT,E,ak⟩;apply co;refine f_ ?_;refine eB ?_;refine⟨[aE n],_,λ_=>Ao a1 n bC,ar,?_⟩;refine aK _ rfl ?_ ?_<;>intro hc;refine iX ?_;refine iD ?_;(have h1:¬j5 v=false:=by intro h;rename_i h0;rw[h]at h0;cases h0);(have Z:valid n=false:=by simpa using hc);(have A:s' aX v n=(ux,1):=by rw[s',atH h1,atI Z]);rw[A];refine eB ?_;exact⟨NT,E,ak⟩;apply co;refine k7 ?_;(have h1:j5 v=true:=by rename_i h0;simpa using h0);(have Z:valid n=true:=by simpa using hc);have aG:=X Z;refine⟨[u v,FL n [] [],u 1,.fn (.func 268) [] []],_,λ_=>ahi aX v (mt h1) _ n (auy _) (AH Z) [] [] 1 atw atw (by simp only[auh];omega) (by simp only[auh];omega),ar,?_⟩;apply cB;refine iD ?_;(have A:s' aX v n=(jq aX v 1 n,0):=by rw[s',atH (by rw[h1];simp),atH (by rw[Z];simp)]);rw[A];refine eB ?_;exact ar
theorem ahv(a1:db B)(aX:List ad->List atG)(v:Int)(mt:j5 v=true->Cy B v aX)(n:ad)(bC:aC n+n.name.length<10000000)(X:valid n=true->aC n<800000):aU B 208 [u v,aE n] (.bp [aE (s' aX v n).1,u (s' aX v n).2]):=by refine bA Tryz.func208 Tryz.ntmps208 λU=>?_;refine cl ?_;intro eR;(conv=>whnf);intro cT;refine k7 ?_;refine⟨[u v,aE n,.fn (.func 268) [] []],_,λ_=>ahu a1 aX v mt n bC X,ar,?_⟩;apply cB;apply Ei;refine eB ?_;exact ar
end Go.bR.ck



namespace Go.bR.ck
open Go Go.Proofs
variable{B:World}
theorem ahw(s:atG)(c:Int):aU B 365 [.O s,.int .u8 c] (u (Lib.indexByte s c.toNat.toUInt8)) :=
 .pure (jn Tryz.func365 rfl atA) rfl rfl λw _=>Tryz.strings_IndexByte ⟨⟨s⟩⟩ c w
theorem ahx(r:Int):aU B 366 [.int .i32 r] (.bool (Lib.validRune r)) :=
 .pure (jn Tryz.func366 rfl atA) rfl rfl λw _=>Tryz.utf8_ValidRune r w
theorem ahy(s p:atG)(hs:s.length<=9223372036854775807):aU B 346 [.O s,.O p] (.O (Lib.trimSuffix s p)) :=
 .pure (jn Tryz.func346 rfl atA) rfl rfl λw _=>Tryz.strings_TrimSuffix ⟨⟨s⟩⟩ ⟨⟨p⟩⟩ w hs
theorem NU(i:Nat)(hi:i<100):aU B 226 [u (i:Nat)] (.O (Lib.decDigits i)) :=
 .pure (jn Tryz.func226 rfl atA) rfl rfl λw _=>Tryz.strconv_Itoa_small i hi w
def mx:atG:=[42,47,58,59,63,92]
theorem V4{c:UInt8}:∀{l:atG},(∀b∈l,b≠c)->Lib.indexByte l c=-1
 |[],_=>rfl
 |b::l,h=>by have aZ:=V4 (l:=l) λx F=>h x (atY _ F);unfold Lib.indexByte;rw[atH (by simpa using h b atU),aZ];rfl
theorem V5:∀b∈mx,b.toNat<128:=by decide +kernel
theorem ahz:∀p,p<6->(Utf8.decode ⟨⟨mx⟩⟩ p).2=1/\(Utf8.decode ⟨⟨mx⟩⟩ p).1<128:=by decide +kernel
theorem ahA(r:Int)(h0:128<=r)(h1:r<=65533)(hs:r<55296\/57343<r):∃(e:atG) (c:UInt8),(Utf8.encode r).data.toList=e/\2<=e.length/\e.length<=4/\e[e.length-1]?=some c/\128<=c.toNat:=by
 have X:Utf8.valid r=true:=by simp[Utf8.valid];omega
 obtain⟨A,Z,aG⟩:=encode_facts r X h0;have hsz:(Utf8.encode r).size=(Utf8.encode r).data.toList.length:=rfl;have bf:(Utf8.encode r).size-1<(Utf8.encode r).size:=atw
 refine⟨_,_,rfl,by omega,by omega,?_,aG bf⟩;rw[<-hsz,atK atw];rfl
theorem ahB(r:Int)(h0:128<=r)(h1:r<=65533)(hs:r<55296\/57343<r):aU B 330 [.O mx,.int .i32 r] (u (-1)):=by refine bA Tryz.func330 Tryz.ntmps330 λU=>?_;refine go ?_;refine aK _ rfl ?_ ?_<;>intro hc;(·exfalso;(have:decide (r<128)=false:=by simp;omega);cases A:decide ((0:Int)<=r)<;>rw[A]at hc<;>first|(cases hc;done)|(rw[this]at hc;cases hc));refine go ?_;refine aK _ rfl ?_ ?_<;>intro hc;refine go ?_;refine .inr (af.ab_ rfl rfl λNV=>?_);refine go ?_;refine W.ec (α:={p:Nat // p<=6}) (λx=>[(175,.ai (.pointer (some ⟨NV,0,none⟩)))]) (λx=>[(175,.cj NV (.stringIter ⟨⟨mx⟩⟩ x.1))]) (λx=>6-x.1) ⟨0,by omega⟩ [(175,175)] ⟨ar,rfl,bc⟩ ?_;rintro⟨p,ay⟩;refine qH ?_;refine .inr (af.ab' 175 rfl rfl (λbf=>?_) (λbf=>?_));have E':p<6:=bf;obtain⟨E1,rU⟩:=ahz p E';apply el;refine aK _ rfl ?_ ?_<;>intro hc;apply co;apply oG;apply b4;apply b4;refine aK _ rfl ?_ ?_<;>intro hc;exfalso;(have:(((Utf8.decode ⟨⟨mx⟩⟩ p).1:Nat):Int)=65533:=by simpa using hc);omega;refine go ?_;refine⟨⟨p+1,by omega⟩,[(175,175)],by show 6-(p+1)<6-p;omega,ar,rfl,rfl,?_,ak⟩;exact atJ (λV=>some (aJ.cj NV (.stringIter ⟨⟨mx⟩⟩ (p+V)))) E1;cases hc;(conv=>whnf);apply el;refine aK _ rfl ?_ ?_<;>intro hc;cases hc;refine go ?_;exact E;refine go ?_;refine bs (ahx r) ?_;refine aK _ rfl ?_ ?_<;>intro hc;exfalso;(have:Lib.validRune r=true:=by simp[Lib.validRune];omega);rw[this]at hc;cases hc;refine W.scope ?_;obtain⟨e,c,ao,nt,V6,V7,arG⟩:=ahA r h0 h1 hs;refine go ?_;rw[ao];refine go ?_;have dm:mx.length=6:=rfl;refine W.loop (α:=Unit) (λx=>[(0,.O mx),(7,.O e),(8,u ((e.length:Int)-1)),(9,u ((e.length:Int)-1))]) (λ_=>[]) (λx=>0) () ar trivial ?_;rintro⟨⟩;(have qI:((e.length:Int)-1).toNat=e.length-1:=by omega);have tE:mx[e.length-1]?=some (mx[e.length-1]' atw):=atK atw;have l8:=V5 _ (atO (l:=mx) (n:=e.length-1) atw);refine go ?_;refine aK _ rfl ?_ ?_<;>intro hc;apply co;(have ul:(e.length:Int)-1<6:=by omega);apply oG;refine W.scope ?_;apply el;refine oH ?_;refine go ?_;refine⟨mx[e.length-1]' atw,λ_=>⟨by omega,by rw[qI];exact tE⟩,?_⟩;refine go ?_;refine⟨c,λ_=>⟨by omega,by rw[qI];exact V7⟩,?_⟩;refine go ?_;refine aK _ rfl ?_ ?_<;>intro hc;refine oH ?_;refine k6 ?_;refine⟨λ_=>by rw[dm];omega,?_⟩;refine go ?_;refine⟨c,λ_=>⟨by omega,by rw[qI];exact V7⟩,?_⟩;refine go ?_;refine⟨[.O ((mx.take ((mx.length:Nat):Int).toNat).drop ((e.length:Int)-1+1).toNat),.int .u8 c.toNat],u (-1),λ_=>by have:=ahw (B:=B) ((mx.take ((mx.length:Nat):Int).toNat).drop ((e.length:Int)-1+1).toNat) c.toNat;rw[V4 (λb I ahC=>by have A:=V5 b (auO (avX I));rw[ahC]at A;(have Z:((c.toNat:Int).toNat.toUInt8).toNat=c.toNat:=by simp);omega)]at this;exact this,ar,?_⟩;refine f_ ?_;refine aK _ rfl ?_ ?_<;>intro hc;refine go ?_;exact E;cases hc;exfalso;(have:((mx[e.length-1]' atw).toNat:Int)=(c.toNat:Int):=by simpa using hc);omega;exfalso;rw[dm]at hc;simp at hc;omega
def yO(r:Int):Bool:=r==42||r==47||r==58||r==59||r==63||r==92
theorem ahD:∀n:Nat,n<128->decide (0<=Lib.indexByte mx ((n:Int).toNat.toUInt8))=yO n:=by decide +kernel
theorem sa(r:Int):em r=true↔32<=r/\r<=65533/\(r<55296\/57343<r):=by simp[em]
theorem ahE(r:Int)(h:em r=true):aU B 344 [.O mx,.int .i32 r] (.bool (yO r)):=by obtain⟨h1,A,Z⟩:=(sa r).1 h;by_cases NW:r<128;(have aw:r=(r.toNat:Int):=by omega);have:=ahD r.toNat atw;rw[<-aw]at this;rw[<-this];exact .pure (jn Tryz.func344 rfl atA) rfl rfl λw _=>Tryz.strings_ContainsRune_ascii ⟨⟨mx⟩⟩ r w atw NW;(have nj:yO r=false:=by simp[yO];omega);rw[nj];refine bA Tryz.func344 Tryz.ntmps344 λU=>?_;refine go ?_;refine bs (ahB r atw A Z) ?_;exact E
def ll(r:Int):Int:=if yO r then 95 else r
theorem ahF(r:Int)(h:em r=true):aU B 298 [.int .i32 r] (.int .i32 (ll r)):=by refine bA Tryz.func298 Tryz.ntmps298 λU=>?_;refine go ?_;refine bs (ahE r h) ?_;refine aK _ rfl ?_ ?_<;>intro hc;refine go ?_;exact aq.of_eq (atJ (D.int .i32) (by rw[ll,atI hc]));refine go ?_;exact aq.of_eq (atJ (D.int .i32) (by rw[ll,atH (by rw[hc];simp)]))
def uy(c:Int):Bool:=((decide (65<=c)&&decide (c<=90))||(decide (48<=c)&&decide (c<=57)))||c==95
theorem ahG(c:Int):aU B 371 [.int .u8 c] (.bool (uy c)):=by refine bA Tryz.func371 Tryz.ntmps371 λU=>?_;refine go ?_;exact aq.of_eq (atJ D.bool (by simp only[jp,po];rfl))
def q0(c:UInt8):Bool:=uy c.toNat
def uz(s:atG):Bool:=decide (s.length<=65536)&&s.all q0
theorem ahH(s:atG):aU B 370 [.O s,.Q .dV 1 [.fn (.func 371) [] []]] (.bool (uz s)):=by refine bA Tryz.func370 Tryz.ntmps370 λU=>?_;refine go ?_;refine aK _ rfl ?_ ?_<;>intro hc;refine go ?_;(have h1:decide (s.length<=65536)=false:=by simp at hc⊢;omega);exact aq.of_eq (atJ D.bool (by rw[uz,h1];rfl));refine go ?_;(have h1:s.length<=65536:=by simp at hc;omega);refine go ?_;refine W.loop (α:={i:Nat // i<=s.length/\(s.take i).all q0=true}) (λx=>[(0,.O s),(1,.Q .dV 1 [.fn (.func 371) [] []]),(13,u s.length),(14,u x.1)]) (λ_=>[]) (λx=>s.length-x.1) ⟨0,by simp⟩ ar trivial ?_;rintro⟨i,hi,ht⟩;refine go ?_;refine aK _ rfl ?_ ?_<;>intro hc;refine go ?_;(have aI:i<s.length:=by simpa using hc);(have ahI:s.take (i+1)=s.take i++[s[i]]:=by rw[avI,atK aI];rfl);refine go ?_;refine W.loop (α:={y:Nat // y<=1}) (λy=>[(0,.O s),(1,.Q .dV 1 [.fn (.func 371) [] []]),(13,u s.length),(14,u i),(5,u i),(6,.bool (decide (y.1=1)&&q0 s[i])),(17,.Q .dV 1 [.fn (.func 371) [] []]),(18,u 1),(19,u y.1)]) (λ_=>[]) (λy=>1-y.1) ⟨0,by omega⟩ ar trivial ?_;rintro⟨y,hy⟩;refine go ?_;refine aK _ rfl ?_ ?_<;>intro hc;apply co;(have EC:y=0:=by simp at hc;omega);subst EC;refine gJ ?_;refine nW ?_;refine x4 (.fn (.func 371) [] []) ?_;refine go ?_;refine⟨s[i],λh=>⟨by omega,by simp[aI]⟩,?_⟩;refine go ?_;refine bs (ahG _) ?_;exact⟨⟨1,atQ _⟩,by show 1-1<1-0;omega,ar,ak⟩;refine go ?_;(have Nz:y=1:=by simp at hc;omega);subst Nz;refine go ?_;refine aK _ rfl ?_ ?_<;>intro hc;refine go ?_;(have A:q0 s[i]=false:=by simpa using hc);(have Z:s.all q0=false:=by rw[List.all_eq_false];exact⟨s[i],atO aI,by rw[A];simp⟩);exact aq.of_eq (atJ D.bool (by rw[uz,Z,Bool.and_false]));refine go ?_;(have A:q0 s[i]=true:=by simpa using hc);exact⟨⟨i+1,aI,by rw[ahI,List.all_append,ht];simp[A]⟩,by show _-(i+1)<_-i;omega,ar,ak⟩;refine go ?_;(have ci:i=s.length:=by simp at hc;omega);subst ci;rw[atX]at ht;exact aq.of_eq (atJ D.bool (by rw[uz,ht];simp[h1]))
theorem V8(s:atG):aU B 345 [.O s] (.bool (uz s)):=by refine bA Tryz.func345 Tryz.ntmps345 λU=>?_;refine go ?_;refine bs (ahH s) ?_;exact E
theorem NX(r:Int)(h0:0<=r)(h1:r<128):(Utf8.encode r).data.toList=[UInt8.ofNat r.toNat]:=by
 have X:Utf8.valid r=true:=by simp[Utf8.valid];omega
 unfold Utf8.encode;simp only[X,auX];rw[atI atw]
def hZ(r:Int):Int:=if 97<=r/\r<=122 then r-97+65 else if r<128/\uy r=true then r else 95
theorem ahJ(r:Int)(h0:0<=r)(ae:r<=1114111):aU B 299 [.int .i32 r] (.int .i32 (hZ r)):=by refine bA Tryz.func299 Tryz.ntmps299 λU=>?_;refine go ?_;refine aK _ rfl ?_ ?_<;>intro hc;refine go ?_;(have FV:97<=r/\r<=122:=by rw[jp]at hc;simpa using hc);refine go ?_;exact aq.of_eq (atJ (D.int .i32) (by rw[hZ,atI FV]));refine go ?_;skip;refine go ?_;refine⟨[.O (Utf8.encode r).data.toList],.bool (uy r),λh=>by(have bf:r<128:=by simpa using h);have:=V8 (B:=B) (Utf8.encode r).data.toList;(have e:uz (Utf8.encode r).data.toList=uy r:=by rw[NX r h0 bf];simp only[uz,q0,awm,List.all_nil,Bool.and_true,List.length_singleton];(have:((UInt8.ofNat r.toNat).toNat:Int)=r:=by rw[av8];omega);rw[this];simp);rw[e]at this;exact this,ar,?_⟩;refine go ?_;refine aK _ rfl ?_ ?_<;>intro hc;refine go ?_;(have FV:¬(97<=r/\r<=122):=by rename_i ia;rw[jp]at ia;simpa using ia);(have A:r<128/\uy r=true:=by rw[jp]at hc;simpa using hc);exact aq.of_eq (atJ (D.int .i32) (by rw[hZ,atH FV,atI A]));refine go ?_;(have FV:¬(97<=r/\r<=122):=by rename_i ia;rw[jp]at ia;simpa using ia);(have A:¬(r<128/\uy r=true):=by rw[jp]at hc;simpa using hc);exact aq.of_eq (atJ (D.int .i32) (by rw[hZ,atH FV,atH A]))
theorem ahK(n:Nat)(h:n<=65533)(hs:n<55296\/57343<n):(Utf8.encode (n:Int)).data.toList=Lib.encodeRune n:=by(have X:Utf8.valid (n:Int)=true:=by simp[Utf8.valid];omega);unfold Utf8.encode Lib.encodeRune Lib.encodeRuneZ;simp only[X,auX,auj];(have bC:∀a b:Nat,UInt8.ofNat (a+b)=((a:Int)+(b:Int)).toNat.toUInt8:=λa b=>by(have:((a:Int)+(b:Int)).toNat=a+b:=by omega);rw[this]);by_cases h1:n<128;rw[atI h1,atI (show 0<=(n:Int)/\(n:Int)<=127 by omega)];simp;rw[atH h1,atH (show¬(0<=(n:Int)/\(n:Int)<=127) by omega)];by_cases A:n<2048;rw[atI A,atI (show 128<=(n:Int)/\(n:Int)<=2047 by omega)];show[UInt8.ofNat (192+n/64),UInt8.ofNat (128+n%64)]=_;rw[bC,bC];simp;rw[atH A,atH (show¬(128<=(n:Int)/\(n:Int)<=2047) by omega),atI (show n<65536 by omega),atI (show 2048<=(n:Int)/\(n:Int)<55296\/57343<(n:Int)/\(n:Int)<=65535 by omega)];show[UInt8.ofNat (224+n/4096),UInt8.ofNat (128+n/64%64),UInt8.ofNat (128+n%64)]=_;rw[bC,bC,bC];simp
variable{s:atG}
theorem NY(hs:s≠[]):dT s=Lib.decodeL s:=by unfold dT Lib.decodeGo Lib.decodeL;rw[atH (show¬(⟨⟨s⟩⟩:ByteArray).size=0 from λe=>hs (atZ e))]
theorem ahL(s:atG)(i:Nat)(h:i<s.length):Utf8.decode ⟨⟨s⟩⟩ i=dT (s.drop i):=by
 have a7:s.drop i≠[]:=λe=>by have:=atJ List.length e;simp at this;omega
 rw[NY a7];exact(Lib.decodeL_drop ⟨⟨s⟩⟩ i).symm
theorem V9(h:lU s=false):em (dT s).1=true/\¬((dT s).1=65533/\(dT s).2=1):=by simp only[lU,avh,avE,avk,auA]at h;exact⟨h.1,λ⟨h1,A⟩=>by rcases h.2 with Z|Z<;>contradiction⟩
theorem ahM(hs:s≠[])(h:lU s=false):(Utf8.encode ((dT s).1:Int)).data.toList=s.take (dT s).2:=by obtain⟨h1,A⟩:=V9 h;obtain⟨Z,aG,bb⟩:=(sa _).1 h1;rw[ahK _ atw atw,NY hs,Lib.encode_decode s hs (by rw[<-NY hs];exact A)]
theorem CA:∀(n:Nat) (s:atG) (l:List Int),s.length<=n->jo s=some l->cy l=s/\∀r∈l,em r=true
 |0,s,l,aw,hc=>by have:s=[]:=atZ atw;subst this;cases hc;exact⟨rfl,λr ae=>by cases ae⟩
 |n+1,s,l,aw,hc=>by by_cases hs:s=[];subst hs;cases hc;exact⟨rfl,λr ae=>by cases ae⟩;obtain⟨h1,A,_⟩:=w4 s hs;rw[yr hs]at hc;cases I:lU s with|true=>rw[I]at hc;cases hc|false =>rw[I]at hc;simp only[auU,avs,auP]at hc;obtain⟨iZ,mG,rfl⟩:=hc;have aZ:=CA n (s.drop (dT s).2) iZ atx mG;refine⟨?_,λr ae=>?_⟩;simp only[cy,auL];rw[ahM hs I];have:cy iZ=s.drop (dT s).2:=aZ.1;simp only[cy]at this;rw[this,avb];rcases at5.1 ae with rfl|ae;exact(V9 I).1;exact aZ.2 r ae
theorem V_(s:atG):∀(f i:Nat) (l:List Int),i<=s.length->s.length-i<=f->jo (s.drop i)=some l->sv ⟨⟨s⟩⟩ f i=l
 |0,i,l,hi,M,hc=>by have:s.drop i=[]:=awu atw;rw[this]at hc;cases hc;rfl
 |f+1,i,l,hi,M,hc=>by have hsz:(⟨⟨s⟩⟩:ByteArray).size=s.length:=rfl;simp only[sv,hsz];by_cases bf:i<s.length;(have a7:s.drop i≠[]:=λe=>by have:=atJ List.length e;simp at this;omega);obtain⟨h1,A,_⟩:=w4 (s.drop i) a7;rw[yr a7]at hc;(cases I:lU (s.drop i)with|true=>rw[I]at hc;cases hc|false =>rw[I]at hc;simp only[auU,avs,auP]at hc;obtain⟨iZ,mG,rfl⟩:=hc;rw[atI bf,ahL s i bf];rw[auV]at A;rw[List.drop_drop]at mG;rw[V_ s f (i+(dT (s.drop i)).2) iZ atw atw mG];rfl);have:s.drop i=[]:=awu atw;rw[this]at hc;cases hc;rw[atH bf]
theorem I2{l:List Int}(h:jo s=some l):h9 s=l :=
 V_ s s.length 0 l (at4 _) atw (by simpa using h)
theorem I3(h:dX s=true):∃l,jo s=some l/\(chars s).1=l/\(chars s).2=0/\1<=l.length/\l.length<=64:=by simp only[dX]at h;split at h;cases h;simp only[atN,aut,avp]at h;obtain⟨h1,A,Z⟩:=h;simp only[chars]at h1 A Z⊢;split at h1;cases h1;rename_i al;rw[atH al]at A Z;cases hc:jo s with|none=>rw[hc]at h1;cases h1|some l=>rw[hc]at A Z;exact⟨l,rfl,by rw[atH al],by rw[atH al],A,Z⟩
theorem AI(a b:List Int):cy (a++b)=cy a++cy b:=by simp[cy]
def dz(l:List Int):List D:=l.map (D.int .i32)
def m7(s:atG):Int:=Lib.lastIndexByte ⟨⟨s⟩⟩ 46
def sb(v:Int)(s:atG):Bool:=(decide (0<m7 s)&&decide (m7 s<(s.length:Int)-1))&&(v==0||decide (((h9 (s.drop (m7 s+1).toNat)).length:Int)<=16))
def g'(v:Int)(s:atG)(bd:Bool):atG×atG :=
 if bd=true then(s,[])else if sb v s=true then(s.take (m7 s).toNat,s.drop (m7 s+1).toNat)
 else if v=0/\1<s.length then(Lib.trimSuffix s [46],[])else(s,[])
theorem NZ(s:atG)(i:Nat):(s.take ((s.length:Nat):Int).toNat).drop i=s.drop i:=by simp
theorem V'(s:atG):∀f i,(sv ⟨⟨s⟩⟩ f i).length<=f
 |0,_=>by simp[sv]
 |f+1,i=>by simp only[sv];split;have:=V' s f (i+(Utf8.decode ⟨⟨s⟩⟩ i).2);simp;omega;simp
theorem FW(s:atG):(h9 s).length<=s.length:=V' s _ _
theorem ahN(v:Int)(s:atG)(bd:Bool)(hs:s.length<1000000000):aU B 300 [u v,.O s,.bool bd] (.bp [.O (g' v s bd).1,.O (g' v s bd).2]):=by refine bA Tryz.func300 Tryz.ntmps300 λU=>?_;refine go ?_;refine aK _ rfl ?_ ?_<;>intro hc;refine go ?_;(have h1:g' v s bd=(s,[]):=by rw[g',atI hc]);rw[h1];exact ar;apply co;(have vX:¬bd=true:=by rw[hc];simp);(conv=>whnf);refine W.lI (α:={x:Unit // sb v s=false}) (λx=>[(0,u v),(1,.O s)]) (λx=>[]) ?_ ?_;refine cl ?_;refine⟨[.O s,.int .u8 46],u (m7 s),λ_=>TO s 46 atw,ar,?_⟩;apply b4;apply g2;apply g2;refine g5 ?_;refine nX ?_;refine aK _ rfl ?_ ?_<;>intro hc;apply el;(have I:(decide (0<m7 s)&&decide (m7 s<(s.length:Int)-1))=true:=by rw[jp]at hc;exact hc);(have mK:0<m7 s/\m7 s<(s.length:Int)-1:=by simpa using I);refine nl ?_;refine⟨λ_=>by omega,?_⟩;refine go ?_;refine⟨by simp;omega,?_⟩;refine go ?_;refine aK _ rfl ?_ ?_<;>intro hc;apply el;(have yP:sb v s=true:=by rw[sb,I,awF,<-po];rw[NZ]at hc;simpa using hc);refine mS ?_;refine⟨λ_=>by omega,?_⟩;refine go ?_;rw[NZ];(have h1:g' v s bd=(s.take (m7 s).toNat,s.drop (m7 s+1).toNat):=by rw[g',atH vX,atI yP]);rw[h1];exact ar;refine go ?_;(have yP:sb v s=false:=by rw[sb,I,awF,<-po];rw[NZ]at hc;simpa using hc);exact⟨⟨(),yP⟩,[],ar,rfl,ak⟩;refine go ?_;(have yP:sb v s=false:=by rw[jp]at hc;have I:(decide (0<m7 s)&&decide (m7 s<(s.length:Int)-1))=false:=hc;rw[sb,I,Bool.false_and]);exact⟨⟨(),yP⟩,[],ar,rfl,ak⟩;rintro⟨_,yP⟩;refine go ?_;refine aK _ rfl ?_ ?_<;>intro hc;refine go ?_;refine bs (ahy s [46] atw) ?_;(have yj:v=0/\(1:Int)<s.length:=by rw[jp]at hc;simpa using hc);have A:v=0/\1<s.length:=⟨yj.1,by omega⟩;(have h1:g' v s bd=(Lib.trimSuffix s [46],[]):=by rw[g',atH vX,atH (by rw[yP];simp),atI A]);rw[h1];exact ar;refine go ?_;(have yj:v=0->(s.length:Int)<=1:=by rw[jp]at hc;simpa using hc);(have A:¬(v=0/\1<s.length):=λ⟨Z,aG⟩=>by have:=yj Z;omega);(have h1:g' v s bd=(s,[]):=by rw[g',atH vX,atH (by rw[yP];simp),atH A]);rw[h1];exact ar
theorem map_set(f:Int->Int)(l:List Int){i:Nat}(h:i<l.length):(((l.take i).map f++l.drop i).map (D.int .i32)).set i (.int .i32 (f l[i]))=((l.take (i+1)).map f++l.drop (i+1)).map (D.int .i32):=by
 have e:l.drop i=l[i]::l.drop (i+1):=auQ h;have b9:l.take (i+1)=l.take i++[l[i]]:=by rw[avI,atK h];rfl
 rw[e,b9];simp only[auq,aui,avr,aup,aw4];rw[List.set_append_right _ _ atx];have:i-(List.map (D.int .i32) (List.map f (List.take i l))).length=0:=by simp;omega
 rw[this];rfl
theorem Wa(s:atG)(b8:Nat)(f:Int->Int)(hs:s.length<1000000000)(M:∀r∈h9 s,aU B b8 [.int .i32 r] (.int .i32 (f r))):aU B 301 [.O s,.fn (.func b8) [] []] (.Q .none 1 (dz ((h9 s).map f))):=by refine bA Tryz.func301 Tryz.ntmps301 λU=>?_;apply b4;refine qH ?_;refine .inr (af.ab9 aM rfl rfl rfl rfl rfl rfl rfl atw λbJ cap=>?_);refine nn ?_;have hQ:=FW s;generalize a1:h9 s=L at*;refine W.ec (α:={i:Nat // i<=L.length}) (λx=>[(1,.fn (.func b8) [] []),(5,.ai (.slice bJ L.length cap)),(10,.ai (.slice bJ L.length cap)),(11,u L.length),(12,u x.1)]) (λx=>[(9,.row (.slice bJ L.length cap) (((L.take x.1).map f++L.drop x.1).map (D.int .i32)) 1 21)]) (λx=>L.length-x.1) ⟨0,by omega⟩ [(9,9)] ⟨ar,rfl,bc⟩ ?_;rintro⟨i,hi⟩;dsimp only;refine go ?_;refine aK _ rfl ?_ ?_<;>intro hc;refine go ?_;(have aI:i<L.length:=by simpa using hc);(have hlen:(((L.take i).map f++L.drop i).map (D.int .i32)).length=L.length:=by simp;omega);(have hU:(((L.take i).map f++L.drop i).map (D.int .i32))[i]?=some (.int .i32 L[i]):=by rw[aud,auo atx];(have:i-(List.map f (List.take i L)).length=0:=by simp;omega);rw[this];simp[aI]);refine go ?_;refine .inr (af.ey aM 9 rfl rfl rfl rfl rfl rfl rfl atw (by rw[hlen];omega) ?_);refine go ?_;refine .inr (af.me aM 9 (i:=i) atC rfl rfl hU ?_);refine go ?_;refine bs (M _ (atO aI)) ?_;refine .inr (af.ey aM 9 rfl rfl rfl rfl rfl rfl rfl atw (by rw[hlen];omega) ?_);refine go ?_;refine .inr (af.ni aM 9 (i:=i) atC rfl rfl rfl (by rw[hlen];omega) rfl ?_);refine go ?_;exact⟨⟨i+1,by omega⟩,[(9,9)],by show _-(i+1)<_-i;omega,ar,rfl,rfl,atJ (λV=>some (aJ.row (.slice bJ L.length cap) V 1 21)) (map_set f L aI),ak⟩;refine wT ?_;(have ci:i=L.length:=by simp at hc;omega);(have dF:((L.take i).map f++L.drop i).map (D.int .i32)=dz (L.map f):=by subst ci;simp[dz]);rw[dF];refine W.fb [(5,.ai (.slice bJ L.length cap))] [(9,.row (.slice bJ L.length cap) (dz (L.map f)) 1 21)] [(9,9)] ⟨ar,rfl,bc⟩ ?_;refine W.vp 9 5 rfl ?_;refine go ?_;exact E
theorem ahO(n:Nat)(h:n<=65533)(hs:n<55296\/57343<n)(rest:atG):dT ((Utf8.encode (n:Int)).data.toList++rest)=(n,(Utf8.encode (n:Int)).data.toList.length):=by(have X:Utf8.valid (n:Int)=true:=by simp[Utf8.valid];omega);(have gn:∀x:Nat,x<256->(UInt8.ofNat x).toNat=x:=λx F=>by rw[av8];omega);by_cases h1:n<128;(have e:(Utf8.encode (n:Int)).data.toList=[UInt8.ofNat n]:=by unfold Utf8.encode;simp only[X,auX,auj];rw[atI h1]);rw[e,E4 aty];simp only[aw4,atT,List.getD_cons_zero,auh,Ai];rw[gn n atw,atI h1];by_cases A:n<2048;(have e:(Utf8.encode (n:Int)).data.toList=[UInt8.ofNat (192+n/64),UInt8.ofNat (128+n%64)]:=by unfold Utf8.encode;simp only[X,auX,auj];rw[atH h1,atI A]);rw[e,E4 aty];simp only[auS,au6,atT,List.getD_cons_zero,List.getD_cons_succ,auh,Ai];rw[gn (192+n/64) atw,gn (128+n%64) atw];rw[atH atw,atI ⟨by omega,by omega,by omega⟩,atI atw];exact Prod.ext (by dsimp only;omega) rfl;(have e:(Utf8.encode (n:Int)).data.toList=[UInt8.ofNat (224+n/4096),UInt8.ofNat (128+n/64%64),UInt8.ofNat (128+n%64)]:=by unfold Utf8.encode;simp only[X,auX,auj];rw[atH h1,atH A,atI atw]);rw[e,E4 aty];simp only[auS,au6,atT,List.getD_cons_zero,List.getD_cons_succ,auh,Ai];rw[gn (224+n/4096) atw,gn (128+n/64%64) atw,gn (128+n%64) atw];rw[atH atw,atH atw,atI ⟨by omega,⟨by omega,by omega⟩,by omega,by omega⟩,atI ⟨by omega,by omega⟩];exact Prod.ext (by dsimp only;omega) rfl
theorem Wb(r:Int):(Utf8.encode r).data.toList≠[]:=by intro h;unfold Utf8.encode at h;dsimp only at h;generalize(if Utf8.valid r=true then r.toNat else Utf8.runeError)=c at h;by_cases h1:c<128;rw[atI h1]at h;cases h;rw[atH h1]at h;by_cases A:c<2048;rw[atI A]at h;cases h;rw[atH A]at h;by_cases Z:c<65536;rw[atI Z]at h;cases h;rw[atH Z]at h;cases h
theorem yQ:∀(l:List Int),(∀r∈l,em r=true)->jo (cy l)=some l
 |[],_=>rfl
 |r::l,h=>by obtain⟨h1,A,Z⟩:=(sa r).1 (h r atU);have aZ:=yQ l λx F=>h x (atY _ F);obtain⟨n,rfl⟩:∃n:Nat,r=n:=⟨r.toNat,by omega⟩;have N:=ahO n atw atw (cy l);(have e:cy ((n:Int)::l)=(Utf8.encode (n:Int)).data.toList++cy l:=by simp[cy]);rw[e];have a7:(Utf8.encode (n:Int)).data.toList++cy l≠[]:=λh=>Wb _ (awT.1 h).1;rw[yr a7,N];(have I:lU ((Utf8.encode (n:Int)).data.toList++cy l)=false:=by simp only[lU,N,h (n:Int) atU,Bool.not_true,Bool.false_or,avk,auA];by_cases bb:n=65533;subst bb;right;decide +kernel;left;exact bb);rw[I];simp[aZ]
variable{r:Int}{i:Nat}
theorem ahP(h:em r=true)(hi:(Utf8.encode r).data.toList[i]?=some 46):r=46/\i=0:=by obtain⟨h1,A,Z⟩:=(sa r).1 h;obtain⟨n,rfl⟩:∃n:Nat,r=n:=⟨r.toNat,by omega⟩;(have gn:∀x:Nat,x<256->(UInt8.ofNat x).toNat=x:=λx F=>by rw[av8];omega);(have a7:∀x:Nat,x<256->128<=x->UInt8.ofNat x≠46:=λx F NW e=>by have:=atJ UInt8.toNat e;rw[gn x F]at this;have Wc:(46:UInt8).toNat=46:=rfl;omega);(have X:Utf8.valid (n:Int)=true:=by simp[Utf8.valid];omega);by_cases mW:n<128;(have e:(Utf8.encode (n:Int)).data.toList=[UInt8.ofNat n]:=by unfold Utf8.encode;simp only[X,auX,auj];rw[atI mW]);rw[e]at hi;(match i,hi with|0,hi =>(have:UInt8.ofNat n=46:=by simpa using hi);have:=atJ UInt8.toNat this;rw[gn n atw]at this;have Wc:(46:UInt8).toNat=46:=rfl;exact⟨by omega,rfl⟩|i+1,hi=>simp at hi);exfalso;by_cases A:n<2048;(have e:(Utf8.encode (n:Int)).data.toList=[UInt8.ofNat (192+n/64),UInt8.ofNat (128+n%64)]:=by unfold Utf8.encode;simp only[X,auX,auj];rw[atH mW,atI A]);rw[e]at hi;(match i,hi with|0,hi=>exact a7 (192+n/64) atw atw (by simpa using hi)|1,hi=>exact a7 (128+n%64) atw atw (by simpa using hi)|i+2,hi=>simp at hi);(have e:(Utf8.encode (n:Int)).data.toList=[UInt8.ofNat (224+n/4096),UInt8.ofNat (128+n/64%64),UInt8.ofNat (128+n%64)]:=axW);rw[e]at hi;match i,hi with|0,hi=>exact a7 (224+n/4096) atw atw (by simpa using hi)|1,hi=>exact a7 (128+n/64%64) atw atw (by simpa using hi)|2,hi=>exact a7 (128+n%64) atw atw (by simpa using hi)|i+3,hi=>simp at hi
theorem I4:∀(l:List Int),(∀r∈l,em r=true)->∀i,(cy l)[i]?=some 46->∃dJ cx,l=dJ++46::cx/\(cy dJ).length=i
 |[],_,i,h=>by simp[cy]at h
 |r::l,al,i,h=>by(have e:cy (r::l)=(Utf8.encode r).data.toList++cy l:=by simp[cy]);rw[e,aw8]at h;split at h;obtain⟨rfl,rfl⟩:=ahP (al r atU) h;exact⟨[],l,rfl,rfl⟩;rename_i hi;obtain⟨dJ,cx,rfl,hlen⟩:=I4 l (λx F=>al x (atY _ F)) _ h;refine⟨r::dJ,cx,rfl,?_⟩;(have e:cy (r::dJ)=(Utf8.encode r).data.toList++cy dJ:=by simp[cy]);rw[e,atP,hlen];omega
theorem Wd:(Utf8.encode 46).data.toList=[46]:=by decide +kernel
theorem ahQ{l:List Int}(hc:jo s=some l): (m7 s=-1/\(46:Int)∉l)\/∃dJ cx,l=dJ++46::cx/\(46:Int)∉cx/\m7 s=(cy dJ).length/\s=cy dJ++46::cy cx:=by obtain⟨I,kQ⟩:=CA s.length s l (atQ _) hc;(have lG:∀dJ cx:List Int,l=dJ++46::cx->s=cy dJ++46::cy cx:=λdJ cx e=>by rw[<-I,e,AI];(have:cy (46::cx)=(Utf8.encode 46).data.toList++cy cx:=by simp[cy]);rw[this,Wd];rfl);(have hU:∀j,(aa:j<s.length)->(⟨⟨s⟩⟩:ByteArray).data[j]! = s[j]:=λj aa=>by simp[aa]);have hsz:(⟨⟨s⟩⟩:ByteArray).size=s.length:=rfl;rcases Lib.lastIndexByte_spec ⟨⟨s⟩⟩ 46 with⟨h1,A⟩|⟨i,hi,h1,A,Z⟩;refine .inl ⟨h1,λh=>?_⟩;obtain⟨dJ,cx,e⟩:=List.append_of_mem h;have hs:=lG dJ cx e;(have bf:(cy dJ).length<s.length:=by rw[hs];simp);have:=A (cy dJ).length (by rw[hsz];exact bf);rw[hU _ bf]at this;apply this;(have:s[(cy dJ).length]=46:=by simp[hs]);rw[this];rfl;rw[hsz]at hi;rw[hU i hi]at A;(have We:s[i]?=some 46:=by rw[atK hi];congr 1;apply UInt8.toNat_inj.1;have Wc:(46:UInt8).toNat=46:=rfl;omega);rw[<-I]at We;obtain⟨dJ,cx,e,hlen⟩:=I4 l kQ i We;have hs:=lG dJ cx e;refine .inr ⟨dJ,cx,e,λh=>?_,by rw[m7,h1,hlen],hs⟩;obtain⟨ut,IU,b9⟩:=List.append_of_mem h;have jh:=lG (dJ++46::ut) IU (by rw[e,b9];simp);(have bf:(cy (dJ++46::ut)).length<s.length:=by rw[jh];simp);(have ahR:i<(cy (dJ++46::ut)).length:=by rw[AI,atP,hlen];(have:cy (46::ut)=(Utf8.encode 46).data.toList++cy ut:=by simp[cy]);rw[this,Wd];simp);have:=Z _ ahR (by rw[hsz];exact bf);rw[hU _ bf]at this;apply this;(have:s[(cy (dJ++46::ut)).length]=46:=by(have:s[(cy (dJ++46::ut)).length]?=some 46:=by rw[jh];simp);rw[atK bf]at this;exact auD this);rw[this];rfl
def kv:List Int->Int
 |[]=>-1
 |x::r=>if 0<=kv r then kv r+1 else if x=46 then 0 else -1
theorem N0:∀{l:List Int},(46:Int)∉l->kv l=-1
 |[],_=>rfl
 |x::r,h=>by have aZ:=N0 (l:=r) λbB=>h (atY _ bB);simp only[kv];rw[aZ,atH atw,atH (λe=>h (by rw[e];exact atU))]
theorem Wf:∀(dJ:List Int) {cx:List Int},(46:Int)∉cx->kv (dJ++46::cx)=dJ.length
 |[],cx,h=>by simp[kv,N0 h]
 |x::dJ,cx,h=>by have aZ:=Wf dJ h;simp only[auS,kv,aZ,atT];rw[atI atw];omega
def gV(v:Int)(l:List Int)(bd:Bool):List Int×List Int :=
 if bd=false/\0<kv l/\kv l<(l.length:Int)-1/\(v=0\/(l.length:Int)-1-kv l<=16)then(l.take (kv l).toNat,l.drop (kv l+1).toNat)
 else if bd=false/\v=0/\0<kv l/\kv l=(l.length:Int)-1 then(l.take (kv l).toNat,[])else(l,[])
theorem I5{l:List Int}:cy l=[]↔l=[]:=by cases l with|nil=>simp[cy]|cons r l =>(have:cy (r::l)=(Utf8.encode r).data.toList++cy l:=by simp[cy]);rw[this];simp only[awT,reduceCtorEq,iff_false];exact λh=>Wb r h.1
theorem ahS(a:atG):Lib.trimSuffix (a++[46]) [46]=a:=by simp[Lib.trimSuffix,Lib.hasSuffix]
theorem Wg(h:∀a,s≠a++[46]):Lib.trimSuffix s [46]=s:=by unfold Lib.trimSuffix;rw[atH];intro hs;(have:([46]:atG) <:+ s:=by simp only[Lib.hasSuffix]at hs;exact awb.1 hs);obtain⟨a,ha⟩:=this;exact h a ha.symm
theorem N1(v:Int){l:List Int}(hc:jo s=some l)(bd:Bool): h9 (g' v s bd).1=(gV v l bd).1/\h9 (g' v s bd).2=(gV v l bd).2/\((g' v s bd).2=[]↔(gV v l bd).2=[]):=by have ae:=I2 hc;have h0:h9 []=[]:=rfl;obtain⟨I,kQ⟩:=CA s.length s l (atQ _) hc;cases bd with|true =>simp only[g',gV,auX,Bool.true_eq_false,false_and,avs,ae,h0,and_self,iff_self]|false =>rcases ahQ hc with⟨h1,A⟩|⟨dJ,cx,e,A,Z,aG⟩;have N:=N0 A;(have I6:sb v s=false:=by simp[sb,h1]);(have av:Lib.trimSuffix s [46]=s:=Wg λa ha=>by(have:(cy l)[a.length]?=some 46:=by rw[I,ha];simp);obtain⟨dJ,cx,e,_⟩:=I4 l kQ _ this;exact A (by rw[e];simp));(have ay:gV v l false=(l,[]):=by simp[gV,N]);rw[ay];simp only[g',auU,avs,I6,av];split<;>simp[ae,h0];have N:=Wf dJ A;rw[<-e]at N;have fc:∀r∈dJ,em r=true:=λr ae=>kQ r (by rw[e];simp[ae]);have bu:∀r∈cx,em r=true:=λr ae=>kQ r (by rw[e];simp[ae]);have AC:h9 (cy dJ)=dJ:=I2 (yQ dJ fc);have oI:h9 (cy cx)=cx:=I2 (yQ cx bu);(have mO:l.length=dJ.length+1+cx.length:=by rw[e];simp;omega);(have eJ:s.length=(cy dJ).length+1+(cy cx).length:=by rw[aG];simp;omega);(have qK:0<(cy dJ).length↔0<dJ.length:=by rw[au8,au8];exact not_congr I5);(have j3:0<(cy cx).length↔0<cx.length:=by rw[au8,au8];exact not_congr I5);(have Fa:s.take (m7 s).toNat=cy dJ:=by rw[Z,aG];simp);(have k':s.drop (m7 s+1).toNat=cy cx:=by(have:(m7 s+1).toNat=(cy dJ).length+1:=by omega);rw[this,aG];simp);(have Wh:l.take (kv l).toNat=dJ:=by rw[N,e];simp);(have ahT:l.drop (kv l+1).toNat=cx:=by(have:(kv l+1).toNat=dJ.length+1:=by omega);rw[this,e];simp);(have I6:sb v s=true↔(0<dJ.length/\0<cx.length/\(v=0\/(cx.length:Int)<=16)):=by simp only[sb,k',oI,atN,aut,au5,avp];constructor;rintro⟨⟨a,b⟩,c⟩;exact⟨qK.1 atw,j3.1 atw,c⟩;rintro⟨a,b,c⟩;have:=qK.2 a;have:=j3.2 b;exact⟨⟨by omega,by omega⟩,c⟩);by_cases bb:0<dJ.length/\0<cx.length/\(v=0\/(cx.length:Int)<=16);(have ik:gV v l false=(dJ,cx):=by rw[gV,atI ⟨rfl,by omega,by omega,by rcases bb.2.2 with h|h;exact .inl h;exact .inr atw⟩,Wh,ahT]);(have de:g' v s false=(cy dJ,cy cx):=by rw[g',atH aty,atI (I6.2 bb),Fa,k']);rw[ik,de];exact⟨AC,oI,I5⟩;have Wi:¬sb v s=true:=λh=>bb (I6.1 h);(have Wj:¬(false=false/\0<kv l/\kv l<(l.length:Int)-1/\(v=0\/(l.length:Int)-1-kv l<=16)):=by rintro⟨_,a,b,c⟩;exact bb ⟨by omega,by omega,by rcases c with c|c;exact .inl c;exact .inr atw⟩);by_cases cL:v=0/\0<dJ.length/\cx=[];obtain⟨X,ko,rfl⟩:=cL;(have ik:gV v l false=(dJ,[]):=by rw[gV,atH Wj,atI ⟨rfl,X,by omega,by simp at mO;omega⟩,Wh]);(have de:g' v s false=(cy dJ,[]):=by have:=qK.2 ko;rw[g',atH aty,atH Wi,atI ⟨X,by omega⟩];(have:s=cy dJ++[46]:=by rw[aG];rfl);rw[this,ahS]);rw[ik,de];exact⟨AC,h0,by simp⟩;(have ik:gV v l false=(l,[]):=by rw[gV,atH Wj,atH];rintro⟨_,a,b,c⟩;exact cL ⟨a,by omega,atZ atw⟩);(have de:g' v s false=(s,[]):=by rw[g',atH aty,atH Wi];split;rename_i eV;(have:Lib.trimSuffix s [46]=s:=Wg λa ha=>by by_cases nt:cx=[];subst nt;have ko:¬0<dJ.length:=λh=>cL ⟨eV.1,h,rfl⟩;have:dJ=[]:=atZ atw;subst this;simp[cy]at eJ;omega;have fZ:0<(cy cx).length:=j3.2 (au8.2 nt);(have:(cy cx)[(cy cx).length-1]?=some 46:=by(have hw:s[s.length-1]?=some 46:=by rw[ha];simp);rw[aG]at hw;simp only[atP,atT]at hw;rw[auo atw]at hw;(have:(cy dJ).length+((cy cx).length+1)-1-(cy dJ).length=(cy cx).length-1+1:=by omega);rw[this]at hw;simpa using hw);obtain⟨ut,IU,kl,_⟩:=I4 cx bu _ this;exact A (by rw[kl];simp));rw[this];rfl);rw[ik,de];exact⟨ae,h0,by simp⟩
def e3(v:Int)(r:Int):Int:=if v=0 then hZ r else ll r
def j_(v:Int):Nat:=if v=0 then 3 else 64
def fR(v:Int)(s:atG)(bd:Bool):List Int×List Int :=
 ((h9 (g' v s bd).1).map (e3 v),if(g' v s bd).2=[]then[]else 46::((h9 (g' v s bd).2).map (e3 v)).take (j_ v))
theorem Wk(v r:Int)(h:em r=true):aU B (bif v==0 then 299 else 298) [.int .i32 r] (.int .i32 (e3 v r)):=by obtain⟨h1,A,Z⟩:=(sa r).1 h;cases X:(v==0)with|true =>(have:v=0:=by simpa using X);rw[e3,atI this];exact ahJ r atw atw|false =>(have:¬v=0:=by simpa using X);rw[e3,atH this];exact ahF r h
variable{bd:Bool}
theorem N2{v:Int}{l:List Int}(h:∀r∈l,em r=true):(∀r∈(gV v l bd).1,em r=true)/\∀r∈(gV v l bd).2,em r=true:=by unfold gV;split;exact⟨λr ae=>h r (auO ae),λr ae=>h r (avX ae)⟩;split;exact⟨λr ae=>h r (auO ae),λr ae=>by cases ae⟩;exact⟨h,λr ae=>by cases ae⟩
theorem ahU(s p:atG):(Lib.trimSuffix s p).length<=s.length:=by unfold Lib.trimSuffix;split<;>simp
theorem Wl(v:Int)(s:atG)(bd:Bool):(g' v s bd).1.length<=s.length/\(g' v s bd).2.length<=s.length:=by unfold g';split;simp;split;simp;omega;split;have:=ahU s [46];simp;omega;simp
def Wm(aY cp:List Int):D:=.agg [.Q .none 1 (dz aY),.Q .none 1 (dz cp)]
theorem Wn(v:Int)(s:atG)(l:List Int)(bd:Bool)(hs:s.length<1000000)(hc:jo s=some l):aU B 255 [u v,.O s,.bool bd] (Wm (fR v s bd).1 (fR v s bd).2):=by have kQ:=(CA s.length s l (atQ _) hc).2;obtain⟨ta,q1,yR⟩:=N1 v hc bd;have N3:=N2 (v:=v) (bd:=bd) kQ;have jE:=Wl v s bd;refine bA Tryz.func255 Tryz.ntmps255 λU=>?_;refine go ?_;intro d_;refine cl ?_;refine W.lI (α:=Unit) (λx=>[(0,u v),(1,.O s),(2,.bool bd),(6,.box 6 d_ 0),(7,.fn (.func (bif v==0 then 299 else 298)) [] []),(8,u (bif v==0 then 3 else 64))]) (λx=>[(6,.box d_ [.bj,.bj])]) ?_ ?_;refine go ?_;refine aK _ rfl ?_ ?_<;>intro hc;refine go ?_;exact⟨(),[(6,6)],⟨E,E,E,E,aq.of_eq (atJ (λV=>D.fn (.func (bif V then 299 else 298)) [] []) hc.symm),aq.of_eq (atJ (λV=>u (bif V then 3 else 64)) hc.symm),ak⟩,rfl,bc⟩;refine go ?_;exact⟨(),[(6,6)],⟨E,E,E,E,aq.of_eq (atJ (λV=>D.fn (.func (bif V then 299 else 298)) [] []) hc.symm),aq.of_eq (atJ (λV=>u (bif V then 3 else 64)) hc.symm),ak⟩,rfl,bc⟩;rintro⟨⟩;refine go ?_;refine bs (ahN v s bd atw) ?_;refine bs (Wa (g' v s bd).1 _ (e3 v) atw (λr ae=>Wk v r (N3.1 r (by rw[<-ta];exact ae)))) ?_;intro CB;refine go ?_;refine aK _ rfl ?_ ?_<;>intro hc;refine cl ?_;refine⟨[.O (g' v s bd).2,.fn (.func (bif v==0 then 299 else 298)) [] []],_,λ_=>Wa (g' v s bd).2 _ (e3 v) atw (λr ae=>Wk v r (N3.2 r (by rw[<-q1];exact ae))),ar,?_⟩;(conv=>whnf);have hQ:=FW (g' v s bd).2;generalize N4:(h9 (g' v s bd).2).map (e3 v)=fu;(have arH:fu.length<=1000000:=by rw[<-N4];simp;omega);(have Wo:(0:Int)<=(bif v==0 then 3 else 64):=by cases(v==0)<;>simp);refine mS ?_;refine o' ?_;(have I7:(0:Int)<=(if(bif v==0 then(3:Int)else 64)<((dz fu).length:Int)then(bif v==0 then(3:Int)else 64)else((dz fu).length:Int))/\(if(bif v==0 then(3:Int)else 64)<((dz fu).length:Int)then(bif v==0 then(3:Int)else 64)else((dz fu).length:Int))<=((dz fu).length:Int):=by split<;>omega);(have ahV:(fu.take (j_ v))=fu.take (if(bif v==0 then(3:Int)else 64)<((dz fu).length:Int)then(bif v==0 then(3:Int)else 64)else((dz fu).length:Int)).toNat:=by(have e:((bif v==0 then(3:Int)else 64)).toNat=j_ v:=by unfold j_;cases X:(v==0)with|true=>rw[atI (by simpa using X)];rfl|false=>rw[atH (by simpa using X)];rfl);split;rw[e];rename_i bf;(have:fu.length<=j_ v:=by rw[<-e];simp[dz]at bf;omega);rw[aug this,aug (by simp[dz])]);refine⟨λ_=>⟨auN _,I7.1,I7.2⟩,?_⟩;refine go ?_;refine⟨by show(_+_)*4<=_;simp[dz];omega,by show _+_<=_;simp[dz];omega,atD,λw=>?_⟩;refine go ?_;(have a7:¬(g' v s bd).2=[]:=by simpa using hc);refine aq.agg ?_;refine⟨E,⟨λw' aR aj h=>?_⟩,ak⟩;have A:=(aq.mL (t:=.own 38 w)).le w' aR aj h;(have e:([D.int .i32 46]++(List.drop (Int.toNat 0) ((dz fu).take (if(bif v==0 then(3:Int)else 64)<((dz fu).length:Int)then(bif v==0 then(3:Int)else 64)else((dz fu).length:Int)).toNat)))=dz (fR v s bd).2:=by simp only[fR];rw[atH a7,N4,ahV];simp[dz]);rw[<-e];exact A;refine go ?_;(have a7:(g' v s bd).2=[]:=by simpa using hc);(have e:(fR v s bd).2=[]:=by simp only[fR];rw[atI a7]);refine aq.agg ?_;refine⟨E,?_,ak⟩;rw[e];exact aq.nil
theorem Wp:∀k,k<100->(Lib.decDigits k).length<=2:=by intro k Y;rw[Lib.decDigits];split;simp;rw[Lib.decDigits,avw atw];simp
def iK(k:Nat):List Int:=if 0<k then h9 (Lib.decDigits k)else[]
variable{k:Nat}
theorem FX(Y:k<100):(iK k).length<=2:=by unfold iK;split;have:=FW (Lib.decDigits k);have:=Wp k Y;omega;simp
def oh(v:Int)(cp:List Int)(k:Nat):Int:=bif v==1 then 64-(cp.length:Int)-((iK k).length:Int)else 8-((iK k).length:Int)
def jr(v:Int)(aY cp:List Int)(k:Nat):Nat:=(if(if oh v cp k<(aY.length:Int)then oh v cp k else(aY.length:Int))>0 then(if oh v cp k<(aY.length:Int)then oh v cp k else(aY.length:Int))else 0).toNat
def j'(v:Int)(aY cp:List Int)(k:Nat):atG:=cy (aY.take (jr v aY cp k)++iK k++cp)
theorem I8(v:Int)(aY cp:List Int)(k:Nat)(Y:k<100)(a6:aY.length<1000000)(rC:cp.length<1000000):aU B 256 [Wm aY cp,u v,u (k:Nat)] (.O (j' v aY cp k)):=by have eJ:=FX Y;refine bA Tryz.func256 Tryz.ntmps256 λU=>?_;refine cl ?_;intro eR;apply b4;(conv=>whnf);refine da ?_;refine W.lI (α:=Unit) (λx=>[(1,u v),(3,.box 3 eR 0),(7,.Q .none 1 (dz (iK k)))]) (λx=>[(3,.box eR [.Q .none 1 (dz aY),.Q .none 1 (dz cp)])]) ?_ ?_;refine go ?_;refine aK _ rfl ?_ ?_<;>intro hc;refine go ?_;refine bs (NU k Y) ?_;refine⟨by have:=Wp k Y;omega,?_⟩;refine go ?_;(have h0:0<k:=by simpa using hc);exact⟨(),[(3,3)],⟨E,E,aq.of_eq (atJ (D.Q .none 1) (by rw[iK,atI h0];rfl)),ak⟩,rfl,bc⟩;refine go ?_;(have h0:¬0<k:=by simpa using hc);exact⟨(),[(3,3)],⟨E,E,⟨λw C aj h=>by rw[iK,atH h0];exact h.iw⟩,ak⟩,rfl,bc⟩;rintro⟨⟩;generalize N5:iK k=S at*;refine cl ?_;refine .inl ⟨λ_=>by simp only[du,dz,atL];omega,?_⟩;(conv=>whnf);refine W.lI (α:=Unit) (λx=>[(1,u v),(3,.box 3 eR 0),(7,.Q .none 1 (dz S)),(8,u (oh v cp k))]) (λx=>[(3,.box eR [.Q .none 1 (dz aY),.Q .none 1 (dz cp)])]) ?_ ?_;refine go ?_;refine aK _ rfl ?_ ?_<;>intro hc;refine go ?_;refine .inl ⟨λ_=>by simp only[du,dz,atL];omega,?_⟩;refine go ?_;refine .inl ⟨λ_=>by simp only[du,dz,atL];omega,?_⟩;refine go ?_;exact⟨(),[(3,3)],⟨E,E,E,aq.of_eq (atJ (D.int .i64) (by rw[oh,hc,N5];simp[dz])),ak⟩,rfl,bc⟩;refine go ?_;exact⟨(),[(3,3)],⟨E,E,E,aq.of_eq (atJ (D.int .i64) (by rw[oh,hc,N5];simp[dz])),ak⟩,rfl,bc⟩;rintro⟨⟩;refine qH ?_;refine⟨ak,?_⟩;apply mf;apply cB;apply mf;refine eB ?_;(have dO:(if oh v cp k<((dz aY).length:Int)then oh v cp k else((dz aY).length:Int))<=((dz aY).length:Int):=by split<;>omega);generalize gk:(if oh v cp k<((dz aY).length:Int)then oh v cp k else((dz aY).length:Int))=ap at*;refine nY ?_;refine⟨λ_=>⟨auN _,by split<;>omega,by split<;>omega⟩,?_⟩;refine go ?_;refine⟨by show(_+_)*4<=_;simp[dz];omega,by show _+_<=_;simp[dz];omega,atD,λv9=>?_⟩;refine go ?_;(have lm:([]++List.drop (Int.toNat 0) ((dz aY).take (if ap>0 then ap else 0).toNat))=dz (aY.take (jr v aY cp k)):=by(have e:jr v aY cp k=(if ap>0 then ap else 0).toNat:=by rw[<-gk];simp only[jr,dz,atL]);rw[e];simp[dz]);rw[avr,lm];(have Nj:(aY.take (jr v aY cp k)).length<=1000000:=by simp;omega);generalize ahW:aY.take (jr v aY cp k)=bL at*;generalize ED:v9=c9 at*;refine go ?_;(have CC:∀(x:Value×Value) (cm cK:Bool) (z:au),z.H=aL ((3,.box eR [.Q .none 1 (dz aY),.Q .none 1 (dz cp)])::(bif cm then(bif cK then[(44,.own x.2 (bL++S++cp).length 1 21)]else[(41,.own x.1 (bL++S).length 1 21)])else[(38,.own c9 bL.length 1 21)]))->mJ z ((3,.box eR [.Q .none 1 (dz aY),.Q .none 1 (dz cp)])::(bif cm then(bif cK then[(44,.own x.2 (bL++S++cp).length 1 21)]else[(41,.own x.1 (bL++S).length 1 21)])else[(38,.own c9 bL.length 1 21)])):=by intro x cm cK z h;cases cm<;>cases cK<;>exact⟨by rw[h];rfl,by rw[h];rfl,ak⟩);(have tK:∀(x:Value×Value) (cm cK:Bool),cm=true->cK=false->∀z:au,z.H 3=some (.box eR [.Q .none 1 (dz aY),.Q .none 1 (dz cp)])->z.H 41=some (.own x.1 (bL++S).length 1 21)->mJ z ((3,.box eR [.Q .none 1 (dz aY),.Q .none 1 (dz cp)])::(bif cm then(bif cK then[(44,.own x.2 (bL++S++cp).length 1 21)]else[(41,.own x.1 (bL++S).length 1 21)])else[(38,.own c9 bL.length 1 21)])):=by intro x cm cK A bb z g1 fe;subst A bb;exact⟨g1,fe,ak⟩);refine W.acw aM mixed (α:=Value×Value) (λx f=>[(3,.box 3 eR 0),(7,.Q .none 1 (dz S)),(9,.Q (.own 38 c9) 1 (dz bL)),(39,bif f 0 then .Q (.own 38 c9) 1 (dz bL)else .any),(40,bif f 1 then .Q .none 1 (dz S)else .any),(41,bif f 2 then .Q (.own 41 x.1) 1 (dz (bL++S))else .any),(42,bif f 3 then .box 3 eR 1 else .any),(43,bif f 4 then .Q .none 1 (dz cp)else .any),(44,bif f 5 then .Q (.own 44 x.2) 1 (dz (bL++S++cp))else .any),(45,bif f 6 then .O (cy (bL++S++cp))else .any),(6,bif f 7 then .O (cy (bL++S++cp))else .any)]) (λx f=>(3,.box eR [.Q .none 1 (dz aY),.Q .none 1 (dz cp)])::(bif f 2 then(bif f 5 then[(44,.own x.2 (bL++S++cp).length 1 21)]else[(41,.own x.1 (bL++S).length 1 21)])else[(38,.own c9 bL.length 1 21)])) atA (c9,c9) ?_ ?_ ?_ ?_;exact⟨E,E,E,.any _,.any _,.any _,.any _,.any _,.any _,.any _,.any _,ak⟩;exact⟨rfl,atJ (λV=>some (aJ.own c9 V 1 21)) (by have:=atJ List.length lm;simpa[dz]using this),ak⟩;refine go ?_;refine⟨λx f bi=>?_,?_⟩;refine go ?_;refine⟨x,ar,CC x _ _ _ rfl⟩;refine⟨λx f bi=>?_,?_⟩;refine go ?_;refine⟨x,ar,CC x _ _ _ rfl⟩;refine⟨λx f bi=>?_,?_⟩;(conv=>whnf);refine nY ?_;refine⟨rfl,by simp[dz],?_⟩;refine go ?_;refine⟨by show(_+_)*4<=_;simp[dz];omega,by show _+_<=_;simp[dz];omega,atD,λw=>?_⟩;refine⟨(w,x.2),⟨E,E,E,E,E,aq.of_eq (atJ (D.Q _ 1) (by simp[dz])),E,E,E,E,E,ak⟩,?_⟩;exact tK (w,x.2) _ _ rfl (bi.n 5 2) _ rfl (atJ (λV=>some (aJ.own w V 1 21)) (by simp[dz]));refine⟨λx f bi=>?_,?_⟩;refine go ?_;refine⟨x,ar,CC x _ _ _ rfl⟩;refine⟨λx f bi=>?_,?_⟩;refine go ?_;refine⟨x,ar,CC x _ _ _ rfl⟩;refine⟨λx f bi=>?_,?_⟩;(conv=>whnf);refine nY ?_;refine⟨rfl,by simp[dz],?_⟩;refine go ?_;refine⟨by show(_+_)*4<=_;simp[dz];omega,by show _+_<=_;simp[dz];omega,atD,λw=>?_⟩;refine⟨(x.1,w),⟨E,E,E,E,E,E,E,E,aq.of_eq (atJ (D.Q _ 1) (by simp[dz])),E,E,ak⟩,?_⟩;exact⟨rfl,atJ (λV=>some (aJ.own w V 1 21)) (by simp[dz,avH]),ak⟩;refine⟨λx f bi=>?_,?_⟩;refine go ?_;refine⟨bL++S++cp,rfl,?_⟩;refine go ?_;refine⟨x,ar,CC x _ _ _ rfl⟩;refine⟨λx f bi=>?_,?_⟩;refine go ?_;refine⟨x,ar,CC x _ _ _ rfl⟩;exact trivial;intro x f M;have Fr:=M 7 atA;refine go ?_;rw[Fr];exact aq.of_eq (atJ D.O (by rw[j',N5,ahW]))
theorem Wq(h1:10<=k)(A:k<100):Lib.decDigits k=[UInt8.ofNat (48+k/10),UInt8.ofNat (48+k%10)]:=by rw[Lib.decDigits,awM atw,Lib.decDigits,avw atw];rfl
theorem Wr:∀(s:atG),(∀b∈s,32<=b.toNat/\b.toNat<127)->jo s=some (s.map λb=>(b.toNat:Int))
 |[],_=>rfl
 |b::s,h=>by have I:=h b atU;have aZ:=Wr s λx F=>h x (atY _ F);have:=yQ ((b::s).map λb=>(b.toNat:Int)) (by intro r ae;obtain⟨c,hc,rfl⟩:=aub.1 ae;have:=h c hc;exact(sa _).2 ⟨by omega,by omega,by omega⟩);(have e:∀l:atG,(∀b∈l,32<=b.toNat/\b.toNat<127)->cy (l.map λb=>(b.toNat:Int))=l:=by intro l;induction l with|nil=>intro _;rfl|cons c l aZ =>intro al;(have e:cy ((c::l).map λb=>(b.toNat:Int))=(Utf8.encode (c.toNat:Int)).data.toList++cy (l.map λb=>(b.toNat:Int)):=by simp[cy]);rw[e,aZ λx F=>al x (atY _ F)];have hc:=al c atU;(have bV:(Utf8.encode (c.toNat:Int)).data.toList=[UInt8.ofNat c.toNat]:=by unfold Utf8.encode;simp only[show Utf8.valid (c.toNat:Int)=true by simp[Utf8.valid];omega,auX,auj];rw[atI atw]);rw[bV];simp);rw[e (b::s) h]at this;exact this
theorem ahX(h1:10<=k)(A:k<100):∀b∈Lib.decDigits k,32<=b.toNat/\b.toNat<127:=by rw[Wq h1 A];(have gn:∀x:Nat,x<256->(UInt8.ofNat x).toNat=x:=λx F=>by rw[av8];omega);intro b I;simp only[at5,aw1,awB]at I;rcases I with rfl|rfl;rw[gn _ atw];omega;rw[gn _ atw];omega
theorem FY(h1:10<=k)(A:k<100):iK k=[48+((k/10:Nat):Int),48+((k%10:Nat):Int)]:=by
 have gn:∀x:Nat,x<256->(UInt8.ofNat x).toNat=x:=λx F=>by rw[av8];omega
 rw[iK,atI atw,I2 (Wr _ (ahX h1 A)),Wq h1 A];simp only[aui,avr];rw[gn _ atw,gn _ atw];rfl
theorem Ws(h1:10<=k)(A:k<100):∀r∈iK k,em r=true:=by rw[FY h1 A];intro r ae;simp only[at5,aw1,awB]at ae;rcases ae with rfl|rfl<;>exact(sa _).2 ⟨by omega,by omega,by omega⟩
theorem ahY{a b:List Int}(ha:∀r∈a,em r=true)(I:∀r∈b,em r=true)(h:cy a=cy b):a=b:=by have h1:=yQ a ha;rw[h,yQ b I]at h1;exact(auD h1).symm
variable{j:Nat}
theorem ahZ(v:Int)(aY cp:List Int)(vw:10<=j)(lj:j<100)(yS:10<=k)(tb:k<100)(h:j' v aY cp j=j' v aY cp k):j=k:=by
 have hs:jr v aY cp j=jr v aY cp k:=by simp only[jr,oh,FY vw lj,FY yS tb,atT,auh]
 simp only[j',hs]at h;rw[AI,AI,AI,AI]at h;have h:=List.append_cancel_left (List.append_cancel_right h);have:=ahY (Ws vw lj) (Ws yS tb) h;rw[FY vw lj,FY yS tb]at this;simp only[avW,and_true]at this;omega
def tc(v:Int)(vY:List atG)(aY cp:List Int):Nat:=((List.range 100).find? λk=>decide (j' v aY cp k∉vY)).getD 0
theorem CD(v:Int)(vY:List atG)(aY cp:List Int)(an:vY.length<=64): tc v vY aY cp<100/\j' v aY cp (tc v vY aY cp)∉vY/\∀j,j<tc v vY aY cp->j' v aY cp j∈vY:=by unfold tc;cases h:(List.range 100).find? λk=>decide (j' v aY cp k∉vY)with|none =>exfalso;rw[avj]at h;(have aw:(((List.range 90).map (λi=>i+10)).map (j' v aY cp)).Nodup:=by rw[auH,avz,avz];refine awL (R:=(·≠·)) ?_ (auH.1 List.nodup_range);intro a b ha I pW ao;simp only[avg]at ha I;have:=ahZ v aY cp atw atw atw atw ao;omega);(have FZ:((List.range 90).map (λi=>i+10)).map (j' v aY cp) ⊆ vY:=by intro x F;obtain⟨y,hy,rfl⟩:=aub.1 F;obtain⟨i,hi,rfl⟩:=aub.1 hy;have:=h (i+10) (by simp at hi⊢;omega);simpa using this);have:=aw.length_le_of_subset FZ;simp at this;omega|some k =>obtain⟨h1,A,Z⟩:=awg.1 h;simp only[auJ];refine⟨by simpa using A,by simpa using h1,λj aa=>by simpa using Z j aa⟩
def yT(v:Int)(aj:List atG)(k:ad):atG :=
 j' v (fR v k.name (k.kind==0)).1 (fR v k.name (k.kind==0)).2 (tc v aj (fR v k.name (k.kind==0)).1 (fR v k.name (k.kind==0)).2)
def jS(v:Int)(ag:List ad):List atG:=ag.foldl (λaj k=>yT v aj k::aj) []
def uA(v:Int)(ag:List ad):List atG:=(jS v ag).reverse
theorem F0(v:Int)(ag:List ad)(k:ad):jS v (ag++[k])=yT v (jS v ag) k::jS v ag:=by simp[jS]
variable{α:Type}
theorem xf{p:List α->Prop}(h0:p [])(h1:∀l x,p l->p (l++[x])):∀l,p l:=by intro l;(have:∀r:List α,p r.reverse:=by intro r;induction r with|nil=>exact h0|cons x r aZ=>rw[avJ];exact h1 _ _ aZ);have:=this l.reverse;rwa [List.reverse_reverse]at this
theorem CE(v:Int)(ag:List ad):(jS v ag).length=ag.length:=by refine xf (p:=λag=>(jS v ag).length=ag.length) rfl (λl x aZ=>?_) ag;rw[F0];simp[aZ]
theorem ah0(v:Int)(aj:List atG)(k:ad)(an:aj.length<=64):yT v aj k∉aj:=(CD v aj _ _ an).2.1
theorem N6(v:Int)(ag:List ad):ag.length<=64->(jS v ag).Nodup:=by refine xf (p:=λag=>ag.length<=64->(jS v ag).Nodup) (λ_=>List.nodup_nil) (λl x aZ al=>?_) ag;simp only[atP,atT,auh]at al;rw[F0,avD];exact⟨ah0 v _ x (by rw[CE];omega),aZ atw⟩
theorem ah1(r:Int):(Utf8.encode r).data.toList.length<=4:=by unfold Utf8.encode;dsimp only;generalize(if Utf8.valid r=true then r.toNat else Utf8.runeError)=c;split;simp;split;simp;split<;>simp
theorem N7:∀l:List Int,(cy l).length<=4*l.length
 |[]=>by simp[cy]
 |r::l=>by(have e:cy (r::l)=(Utf8.encode r).data.toList++cy l:=by simp[cy]);have:=ah1 r;have:=N7 l;rw[e,atP,atT];omega
theorem ah2(v:Int):j_ v<=64:=by unfold j_;split<;>omega
theorem ah3{v:Int}{aY cp:List Int}(Y:k<100)(rC:cp.length<=65):(j' v aY cp k).length<=1100:=by have h1:=N7 (aY.take (jr v aY cp k)++iK k++cp);have A:=FX Y;(have Z:jr v aY cp k<=64:=by(have ae:oh v cp k<=64:=by unfold oh;cases(v==1)<;>simp only[avq,auW]<;>omega);unfold jr;generalize oh v cp k=R at*;split<;>split<;>omega);(have aG:(aY.take (jr v aY cp k)).length<=64:=by simp;omega);(have bb:(aY.take (jr v aY cp k)++iK k++cp).length<=131:=by rw[atP,atP];omega);show(cy _).length<=_;omega
theorem N8(v:Int)(s:atG)(d:Bool):(fR v s d).2.length<=65/\(fR v s d).1.length<=s.length/\(fR v s d).2.length<=s.length+1:=by have h:=Wl v s d;have h1:=FW (g' v s d).1;have A:=FW (g' v s d).2;have Z:=ah2 v;unfold fR;refine⟨?_,by simp;omega,?_⟩;dsimp only;split;simp;simp;omega;dsimp only;split;simp;simp;omega
theorem ah4(v:Int)(aj:List atG)(k:ad)(an:aj.length<=64):(yT v aj k).length<=1100 :=
 ah3 (CD v aj _ _ an).1 (N8 v _ _).1
theorem ah5(v:Int)(ag:List ad):ag.length<=64->∀m∈jS v ag,m.length<=1100:=by refine xf (p:=λag=>ag.length<=64->∀m∈jS v ag,m.length<=1100) (λ_ m hm=>by cases hm) (λl x aZ al=>?_) ag;simp only[atP,atT,auh]at al;rw[F0];intro m hm;rcases at5.1 hm with rfl|hm;exact ah4 v _ x (by rw[CE];omega);exact aZ atw m hm
variable{ag:List ad}{t:Nat}
theorem Wt{v:Int}(h:t<ag.length):jS v (ag.take (t+1))=yT v (jS v (ag.take t)) ag[t]::jS v (ag.take t):=by rw[atM h,F0]
variable{J:List ad}
theorem ah6{v:Int}(h:t<J.length)(V:D):(aN (jS v (J.take t)).reverse++List.replicate (J.length-t) V).set t (.O (yT v (jS v (J.take t)) J[t]))=aN (jS v (J.take (t+1))).reverse++List.replicate (J.length-(t+1)) V:=by
 rw[Wt h];have al:(aN (jS v (J.take t)).reverse).length=t:=by simp[aN,CE];omega
 rw[List.set_append_right _ _ atw,al,awx,show J.length-t=(J.length-(t+1))+1 by omega,List.replicate_succ];simp[aN]
theorem ah7(a1:db B)(v:Int)(X:v=0\/v=1)(J:List ad)(hn:J.length<=64)(cD:∀k∈J,dX k.name=true/\k.name.length<1000000000)(mu:gN J):aU B 182 [u v,.Q .none 12 (J.map enc)] (.bp [.Q .none 1 (aN (uA v J)),u 0]):=by refine bA Tryz.func182 Tryz.ntmps182 λU=>?_;refine go ?_;intro bk;refine go ?_;refine bs (Fd v) ?_;refine aK _ rfl ?_ ?_<;>intro hc;refine go ?_;exfalso;(have:j5 v=true:=by rcases X with rfl|rfl<;>rfl);rw[this]at hc;cases hc;refine go ?_;refine aK _ rfl ?_ ?_<;>intro hc;refine go ?_;exfalso;simp at hc;omega;refine go ?_;refine .inr (af.x2 aM (n:=J.length) (cq:=.i64) (d8:=.i64) (V:=u 0) rfl rfl rfl rfl rfl ?_ ?_ (by show 8*_<=_;omega) atw λgO=>?_);show D.int _ _=_;simp;show D.int _ _=_;simp;refine go ?_;refine W.ec (α:={i:Nat // i<=J.length}) (λx=>[(0,u v),(3,.box 3 bk 0),(6,.ai gO),(25,.Q .none 12 (J.map enc)),(26,u (J.map enc).length),(27,u x.1)]) (λx=>[(24,.row gO (et x.1++List.replicate (J.length-x.1) (u 0)) 1 3),(3,.box bk [.Q .none 12 (J.map enc)])]) (λx=>J.length-x.1) ⟨0,by omega⟩ [(24,24),(3,3)] ⟨ar,rfl,bc⟩ ?_;rintro⟨i,hi⟩;dsimp only;refine go ?_;refine aK _ rfl ?_ ?_<;>intro hc;refine fg ?_;(have aI:i<J.length:=by simpa using hc);(have dg:(et i).length=i:=by simp[et]);refine vh ?_;refine⟨aE J[i],λ_=>n7 aI,?_⟩;refine go ?_;intro cE;refine go ?_;refine bs (yv a1 _ (cD _ (atO aI)).2) ?_;refine aK _ rfl ?_ ?_<;>intro hc;refine go ?_;exfalso;rw[(cD _ (atO aI)).1]at hc;cases hc;refine go ?_;refine .inr (af.ey aM 24 rfl rfl rfl rfl rfl rfl rfl atw (by simp[dg];omega) ?_);refine go ?_;refine .inr (af.ni aM 24 (i:=i) atC rfl rfl rfl (by simp[dg];omega) rfl ?_);refine go ?_;exact⟨⟨i+1,by omega⟩,[(24,24),(3,3)],by show _-(i+1)<_-i;omega,ar,rfl,rfl,atJ (λV=>some (aJ.row gO V 1 3)) (NI aI _),rfl,bc⟩;refine go ?_;(have ci:i=J.length:=by simp at hc;omega);(have dF:et i++List.replicate (J.length-i) (u 0)=et J.length:=by subst ci;simp);rw[dF];refine go ?_;refine .inr (af.call rfl [.ai gO,.fn (.func 254) [] [.box 2000 bk 0]] [(2001,24),(2000,3)] (UO J mu atw bk gO) rfl ⟨E,aq.fn trivial ⟨aq.box,ak⟩,ak⟩ ?_);rintro d aP ⟨rfl,rfl⟩;refine rH ?_;refine W.fb [(6,.ai gO),(0,u v),(3,.box 3 bk 0)] [(24,.row gO (et J.length) 1 3),(3,.box bk [.Q .none 12 (J.map enc)])] [(24,24),(3,3)] ⟨ar,rfl,bc⟩ ?_;refine W.vp 24 6 rfl ?_;refine go ?_;refine .inr (af.x2 aM (n:=J.length) (cq:=.i64) (d8:=.i64) (V:=.O []) rfl rfl rfl rfl rfl ?_ ?_ (by show 16*_<=_;omega) atw λdy=>?_);show D.int _ _=_;simp;show D.int _ _=_;simp;refine go ?_;refine .inr (af.makeMap λlX=>?_);refine go ?_;refine W.ec (α:={i:Nat // i<=J.length}) (λx=>[(0,u v),(3,.box 3 bk 0),(6,.Q .none 1 (et J.length)),(48,.Q .none 1 (et J.length)),(49,u (et J.length).length),(50,u x.1),(9,.ai dy),(10,.ai (.map (some lX)))]) (λx=>[(46,.row dy (aN (jS v (J.take x.1)).reverse++List.replicate (J.length-x.1) (.O [])) 1 9),(47,.set lX (jS v (J.take x.1))),(3,.box bk [.Q .none 12 (J.map enc)])]) (λx=>J.length-x.1) ⟨0,by omega⟩ [(46,46),(47,47),(3,3)] ⟨ar,rfl,bc⟩ ?_;rintro⟨t,av⟩;dsimp only;refine go ?_;refine aK _ rfl ?_ ?_<;>intro hc;refine fg ?_;(have lk:t<J.length:=by simp[et]at hc;omega);(have o9:∀j,j<J.length->(J.map enc)[j]?=some (aE (J.getD j default)):=λj aa=>by rw[n7 aa];simp[List.getD,aa]);refine gJ ?_;refine⟨λ_=>by simp[et];omega,?_⟩;refine go ?_;refine⟨u (t:Nat),λ_=>by simp[et,lk],?_⟩;refine Ek ?_;apply cB;apply g2;refine g5 ?_;refine hv ?_;refine⟨λh=>by simp at h;simp[et];omega,?_⟩;refine go ?_;refine⟨u ((t-1:Nat):Int),λh=>ax3,?_⟩;refine hv ?_;refine mR ?_;refine⟨aE (J.getD (t-1) default),λh=>o9 (t-1) atw,?_⟩;apply cB;refine hv ?_;refine nW ?_;refine hv ?_;refine⟨aE J[t],λh=>n7 lk,?_⟩;refine go ?_;refine aK _ rfl ?_ ?_<;>intro hc;refine go ?_;exfalso;(cases h0:decide ((0:Int)<t)with|false=>rw[h0]at hc;cases hc|true =>(have NJ:0<t:=by simpa using h0);have a7:=s1 (r3 mu (show t-1<t by omega) lk);rw[h0]at hc;have bu:((J.getD (t-1) default).name==J[t].name)=true:=hc;(have:(J.getD (t-1) default).name=J[t].name:=by simpa using bu);apply a7;rw[<-this];simp[List.getD,show t-1<J.length by omega]);apply co;apply b4;refine mg ?_;refine⟨aE J[t],λ_=>n7 lk,?_⟩;refine go ?_;refine aK _ rfl ?_ ?_<;>intro hc;apply el;have jG:=IX (cD _ (atO lk)).1;obtain⟨l,al,_,_,_,_⟩:=I3 (cD _ (atO lk)).1;have N9:=Wn (B:=B) v J[t].name l (J[t].kind==0) atw al;have Al:=N8 v J[t].name (J[t].kind==0);have yU:yT v (jS v (J.take t)) J[t]=j' v (fR v J[t].name (J[t].kind==0)).1 (fR v J[t].name (J[t].kind==0)).2 (tc v (jS v (J.take t)) (fR v J[t].name (J[t].kind==0)).1 (fR v J[t].name (J[t].kind==0)).2):=rfl;have x0:=Wt (v:=v) lk;have x1:=ah6 (v:=v) lk (.O []);have mc:=CD v (jS v (J.take t)) (fR v J[t].name (J[t].kind==0)).1 (fR v J[t].name (J[t].kind==0)).2 (by rw[CE];simp;omega);generalize(fR v J[t].name (J[t].kind==0)).1=aY at*;generalize(fR v J[t].name (J[t].kind==0)).2=cp at*;(have N_:(jS v (J.take t)).length=t:=by rw[CE];simp;omega);generalize jS v (J.take t)=gp at*;generalize hK:tc v gp aY cp=K at*;apply kp;refine mg ?_;refine⟨aE J[t],λ_=>n7 lk,?_⟩;refine go ?_;refine bs (N9) ?_;intro ql;refine go ?_;refine bs (I8 v aY cp 0 atw atw atw) ?_;refine W.ec (α:={j:Nat // j<=K}) (λx=>[(0,u v),(3,.box 3 bk 0),(6,.Q .none 1 (et J.length)),(48,.Q .none 1 (et J.length)),(49,u (et J.length).length),(50,u t),(9,.ai dy),(10,.ai (.map (some lX))),(12,u t),(13,.O (j' v aY cp x.1)),(14,.box 14 ql 0),(15,u ((x.1+1:Nat):Int))]) (λx=>[(46,.row dy (aN gp.reverse++List.replicate (J.length-t) (.O [])) 1 9),(47,.set lX gp),(3,.box bk [.Q .none 12 (J.map enc)]),(14,.box ql [.Q .none 1 (dz aY),.Q .none 1 (dz cp)])]) (λx=>K-x.1) ⟨0,by omega⟩ [(46,46),(47,47),(3,3),(14,14)] ⟨ar,rfl,bc⟩ ?_;rintro⟨j,aa⟩;dsimp only;refine go ?_;refine .inr (af.Hq 47 (dS:=9) (dZ:=4) rfl rfl atE rfl rfl rfl ?_);refine aK _ rfl ?_ ?_<;>intro hc;refine go ?_;have AJ:j' v aY cp j∈gp:=aua hc;(have F1:j<K:=axI);refine go ?_;refine bs (I8 v aY cp (j+1) atw atw atw) ?_;exact⟨⟨j+1,by omega⟩,[(46,46),(47,47),(3,3),(14,14)],by show K-(j+1)<K-j;omega,ar,rfl,bc⟩;refine go ?_;have AJ:j' v aY cp j∉gp:=at2 hc;(have F1:j=K:=by rcases at3 j K with h|h;exact absurd (mc.2.2 j h) AJ;omega);subst F1;refine go ?_;refine .inr (af.BA 47 (dS:=9) (dZ:=4) rfl rfl rfl rfl rfl rfl ?_);refine go ?_;refine .inr (af.ey aM 46 rfl rfl rfl rfl rfl rfl rfl atw (by simp[aN,N_];omega) ?_);refine go ?_;refine .inr (af.ni aM 46 (i:=t) atC rfl rfl rfl (by simp[aN,N_];omega) rfl ?_);refine go ?_;exact⟨⟨t+1,by omega⟩,[(46,46),(47,47),(3,3)],by show _-(t+1)<_-t;omega,ar,rfl,rfl,atJ (λV=>some (aJ.row dy V 1 9)) (by rw[<-yU];exact x1),rfl,atJ (λV=>some (aJ.set lX V)) (by dsimp only;rw[x0,yU]),rfl,bc⟩;refine go ?_;exfalso;rcases X with rfl|rfl<;>cases hc;refine wT ?_;(have FJ:t=J.length:=by simp[et]at hc;omega);(have FK:aN (jS v (J.take t)).reverse++List.replicate (J.length-t) (D.O [])=aN (uA v J):=by subst FJ;rw[aug (atQ _)];simp[uA]);rw[FK];refine W.fb [(9,.ai dy)] [(46,.row dy (aN (uA v J)) 1 9)] [(46,46)] ⟨ar,rfl,bc⟩ ?_;exact aya
theorem Wu(a1:db B){v:Int}(X:v=0\/v=1):Cy B v (uA v) :=
 ⟨λag hn mu cD=>⟨ah7 a1 v X ag hn cD mu,by simp[uA,CE],by
  rw[uA,auH,aw2];exact(auH.1 (N6 v ag hn)).imp Ne.symm,λm hm=>ah5 v ag hn m (aw0.1 hm)⟩⟩
theorem ah8(h:em r=true):em (ll r)=true:=by unfold ll;split;decide;exact h
theorem ah9(h:em r=true):em (hZ r)=true:=by obtain⟨h1,A,Z⟩:=(sa r).1 h;unfold hZ;split;exact(sa _).2 ⟨by omega,by omega,by omega⟩;split;exact h;decide
theorem I9{v:Int}(h:em r=true):em (e3 v r)=true:=by unfold e3;split;exact ah9 h;exact ah8 h
end Go.bR.ck


namespace Go.bR.ck
open Go Go.Proofs
variable{B:World}
theorem Wv(r:Int)(l:List Int):cy (r::l)=(Utf8.encode r).data.toList++cy l:=by simp[cy]
end Go.bR.ck

namespace Go.bR.ck
open Go Go.Proofs
variable{B:World}
def q2(v:Int)(aj:List atG)(k:ad):atG:=if v=0\/v=1 then yT v aj k else k.name
def hb(v:Int)(ag:List ad):List atG:=ag.foldl (λaj k=>q2 v aj k::aj) []
def cg(v:Int)(ag:List ad):List atG:=(hb v ag).reverse
theorem xg(v:Int)(ag:List ad)(k:ad):hb v (ag++[k])=q2 v (hb v ag) k::hb v ag:=by simp[hb]
theorem td(v:Int)(ag:List ad):(hb v ag).length=ag.length:=by refine xf (p:=λag=>(hb v ag).length=ag.length) rfl (λl x aZ=>?_) ag;rw[xg];simp[aZ]
variable{ag:List ad}{t:Nat}
theorem N'{v:Int}(h:t<ag.length):hb v (ag.take (t+1))=q2 v (hb v (ag.take t)) ag[t]::hb v (ag.take t):=by rw[atM h,xg]
def yV(n:ad):List D:=[.O n.name,u n.kind,.O n.dW,.O n.target,u n.cN,u n.n2,u n.n3,u n.n4,u n.n5,u n.n6,.Q .none 12 (n.J.map enc),.Q .none 2 (n.bO.map c4)]
end Go.bR.ck





namespace Go.bR.ck
open Go Go.Proofs
variable{B:World}
theorem oi(v:Int)(ag:List ad):(cg v ag).length=ag.length:=by simp[cg,td]
end Go.bR.ck

namespace Go.bR.ck
open Go Go.Proofs
variable{B:World}
theorem I_{v:Int}(X:v=0\/v=1):cg v=uA v:=by funext ag;rw[cg,uA];congr 1;refine xf (p:=λag=>hb v ag=jS v ag) rfl (λl x aZ=>?_) ag;rw[xg,F0,aZ,q2,atI X]
theorem F2{v:Int}(X:v=2\/v=3):cg v=λag=>ag.map ad.name:=by funext ag;rw[cg];refine xf (p:=λag=>(hb v ag).reverse=ag.map ad.name) rfl (λl x aZ=>?_) ag;rw[xg,q2,atH atw,avJ,aZ];simp
theorem Ww{v:Int}(h:j5 v=true):v=0\/v=1\/v=2\/v=3:=by simp[j5]at h;omega
theorem Oa(a1:db B){v:Int}(h:j5 v=true):Cy B v (cg v):=by rcases Ww h with h|h|h|h;rw[I_ (.inl h)];exact Wu a1 (.inl h);rw[I_ (.inr h)];exact Wu a1 (.inr h);rw[F2 (.inl h)];exact NS a1 (.inl h);rw[F2 (.inr h)];exact NS a1 (.inr h)
theorem Wx:∀l:List np,lQ l<=kS l
 |[]=>by simp[lQ]
 |s::r=>by have:=Wx r;simp only[lQ,kS];omega
mutual
theorem Wy:∀n:ad,2*n.name.length+2+aC n<=2*vI n
 |.mk a b c d e f g h i j ag cC=>by
  have h1:=Wz ag;have A:=Wx cC;simp only[aC,vI];omega
theorem Wz:∀l:List ad,eG l<=2*lf l
 |[]=>by simp[eG]
 |n::r=>by
  have h1:=Wy n;have A:=Wz r;simp only[eG,lf];omega
end
theorem CF{n:ad}{s:Int}(h:qc n s=true):(aC n:Int)<=2*s/\fC n<=40:=by simp only[qc,atN,aut]at h;have:=Wy n;omega
theorem ah_{a b:List ad}(h:a.Perm b):eG a=eG b:=by induction h with|nil=>rfl|cons x _ aZ=>simp only[eG,aZ]|swap x y l=>simp only[eG];omega|trans _ _ h1 A=>exact h1.trans A
def I'(aX:List ad->List atG):Prop:=∀ag:List ad,ag.length<=64->gN ag->(∀k∈ag,dX k.name=true/\k.name.length<1000000000)->∀m∈aX ag,m.length<=1100
theorem ah'(a1:db B){v:Int}(h:j5 v=true):I' (cg v):=λag h1 A Z=>((Oa a1 h).call ag h1 A Z).2.2.2
mutual
theorem WA(aX:List ad->List atG)(v:Int)(hs:I' aX):∀(n:ad) (d:Int),im n->aC (jq aX v d n)+2200<=aC n+2200*fC n
 |.mk a b c t e f g h i j ag cC,d,h1=>by
  simp only[im]at h1;have A:=WB aX v hs ag (aX ag) (d+1) h1.2.2.2 (hs ag h1.1 h1.2.2.1 λk Y=>(qZ h1.2.2.2 Y).1);have Z:=ah_ (AF (fQ aX v (d+1) ag (aX ag)));have aG:lQ (if v=3 then cC else[])<=lQ cC:=by split<;>simp[lQ]
  simp only[jq,aC,fC];rw[Z];omega
theorem WB(aX:List ad->List atG)(v:Int)(hs:I' aX):∀(l:List ad) (cR:List atG) (d:Int),xd l->(∀m∈cR,m.length<=1100)->eG (fQ aX v d l cR)<=eG l+2200*eY l
 |[],cR,d,_,_=>by simp[fQ,eG]
 |k::r,[],d,_,_=>by simp[fQ,eG]
 |k::r,m::cR,d,h1,hm=>by
  simp only[xd]at h1;have A:=WB aX v hs r cR d h1.2 λx F=>hm x (atY _ F);have Z:=WA aX v hs k d h1.1.2;have aG:=hm m atU;have bb:aC ((jq aX v d k).named m)=aC (jq aX v d k):=FN _ _;simp only[fQ];split
  ·simp only[eG,eY];have cL:((jq aX v d k).named m).name=m:=rfl;rw[bb,cL];omega
  simp only[eG,eY];omega
end
theorem aia(aX:List ad->List atG)(v d:Int)(n:ad):(jq aX v d n).name=n.name:=by rw[FM]
theorem aib(aX:List ad->List atG)(v:Int)(hs:I' aX){n:ad}(X:valid n=true)(M:qc n 100000=true):fr (jq aX v 1 n)/\aC (jq aX v 1 n)<300000:=by have h1:=WA aX v hs n 1 (AH X);have A:=CF M;(have Z:n.name=[]:=by rw[vW,atN]at X;exact(AG X.2).1.FR rfl);unfold fr;rw[aia,Z];simp only[auh];omega
section
variable{S:Type}(gv:atG->atG->S->S)(aX:List ad->List atG)(v:Int)
end
end Go.bR.ck




namespace Go.bR.ck
open Go Go.Proofs
variable{B:World}{i:Nat}
theorem aic{l:List ad}(h:i<l.length):(l.take i).map aE++[aE l[i]]=(l.take (i+1)).map aE:=by rw[avI,atK h,auq];rfl
theorem aid:∀(bD:Nat) (n:ad),aC n<bD->aC n<1000000000->aU B 53 [aE n] (aE n):=by refine λbD=>Nat.rec (λn h=>absurd h (avf _)) (λbD aZ n hN bC=>?_) bD;(have iT:2*n.bO.length<=aC n:=by have:=EG n.bO;have:=lR n;omega);(have eS:2*n.J.length<=aC n:=by have:=z8 n.J;have:=lR n;omega);refine bA Tryz.func53 Tryz.ntmps53 λU=>?_;refine cl ?_;intro dC;(conv=>whnf);intro cm;refine k7 ?_;refine⟨[.Q .none 2 (n.bO.map c4)],_,λ_=>UL n.bO atw,ar,?_⟩;apply cB;refine iX ?_;refine iX ?_;refine nn ?_;refine W.jj 1 (dv:=[.O n.name,u n.kind,.O n.dW,.O n.target,u n.cN,u n.n2,u n.n3,u n.n4,u n.n5,u n.n6,.ai (.slice none 0 0),.Q .none 2 (n.bO.map c4)]) rfl ⟨E,E,E,E,E,E,E,E,E,E,aq.rG,E,ak⟩ ?_;refine W.qE 109 12 44 ?_;refine W.ec (α:={x:Nat×Value // x.1<=n.J.length}) (λx=>[(1,.box 1 dC 0),(2,.box 2 cm 0),(13,.Q .none 12 (n.J.map enc)),(14,u (n.J.map enc).length),(15,u x.1.1)]) (λx=>[(2,.box cm [.O [],u 0,.O [],.O [],u 0,u 0,u 0,u 0,u 0,u 0,.bj,.bj]),(1,.box dC [.O n.name,u n.kind,.O n.dW,.O n.target,u n.cN,u n.n2,u n.n3,u n.n4,u n.n5,u n.n6,.ai x.1.2,.Q .none 2 (n.bO.map c4)]),(109,.row x.1.2 ((n.J.take x.1.1).map aE) 12 44)]) (λx=>n.J.length-x.1.1) ⟨(0,.slice none 0 0),at4 _⟩ [(2,2),(1,1),(109,109)] ⟨ar,rfl,rfl,rfl,rfl,rfl,rfl,atJ (λV=>some (aJ.row (.slice none 0 0) V 12 44)) aty,ak⟩ ?_;rintro⟨⟨i,gO⟩,hi⟩;dsimp only at hi⊢;apply b4;apply el;refine aK (decide ((i:Int)<(n.J.map enc).length)) rfl ?_ ?_<;>intro hc;apply co;refine kq ?_;apply b4;(have aI:i<n.J.length:=by simpa using hc);have NN:=rP aI;refine wU ?_;refine⟨aE n.J[i],λ_=>rQ aI,?_⟩;(conv=>whnf);intro cK;refine eB ?_;refine W.zL aM 5 mixed atB ?_;apply cB;refine eB ?_;refine⟨[aE n.J[i]],_,λ_=>aZ n.J[i] atw atw,ar,?_⟩;(conv=>whnf);refine o' ?_;refine .inr (af.nU aM 109 rfl rfl rfl atD rfl rfl rfl (avY) ?_ ?_ λbJ yW cap=>?_);show(_+1)*152<=_;simp;omega;show _+1<=_;simp;omega;apply mf;apply cB;refine nl ?_;exact⟨⟨(i+1,.slice bJ yW cap),aI⟩,[(2,2),(1,1),(109,24)],by show _-(i+1)<_-i;omega,ar,rfl,rfl,rfl,rfl,rfl,rfl,atJ (λV=>some (aJ.row (.slice bJ yW cap) V 12 44)) (by exact aic aI),ak⟩;refine W.exit ?_;(have ci:i=n.J.length:=by simp at hc;omega);(have dF:(n.J.take i).map aE=n.J.map enc:=by subst ci;rw[atX,show enc=aE from funext rJ]);rw[dF];refine W.HC 109 1 10 rfl rfl atz rfl ?_;refine iX ?_;apply cB;apply Ei;refine eB ?_;exact aq.of_eq rfl
mutual
def px:ad->List (List atG)
 |.mk _ _ _ _ _ _ _ _ _ _ ag _=>[]::sc ag
def sc:List ad->List (List atG)
 |[]=>[]
 |k::r=>(px k).map (λq=>k.name::q)++sc r
end
theorem Ja(n:ad):px n=[]::sc n.J:=by cases n;simp only[px]
def py(q:atG)(ag:List ad):Option ad:=ag.find? λk=>k.name==q
def i_:ad->List atG->Option ad
 |n,[]=>some n
 |n,m::cR=>match py m n.J with
  |some k=>i_ k cR
  |none=>none
theorem Jb:∀{ag:List ad} {p:List atG},p∈sc ag↔∃k∈ag,∃q∈px k,p=k.name::q
 |[],p=>by simp[sc]
 |k::r,p=>by have aZ:=Jb (ag:=r) (p:=p);simp only[sc,aue,aub,at5,aZ];constructor;rintro(⟨q,G,rfl⟩|⟨x,F,q,G,rfl⟩);exact⟨k,.inl rfl,q,G,rfl⟩;exact⟨x,.inr F,q,G,rfl⟩;rintro⟨x,rfl|F,q,G,rfl⟩;exact .inl ⟨q,G,rfl⟩;exact .inr ⟨x,F,q,G,rfl⟩
theorem aie(n:ad):[]∈px n:=by rw[Ja];exact atU
theorem Ob{n:ad}{m:atG}{q:List atG}:m::q∈px n↔∃k∈n.J,k.name=m/\q∈px k:=by rw[Ja,at5,Jb];constructor;rintro(h|⟨k,Y,ry,G,h⟩);cases h;cases h;exact⟨k,Y,rfl,G⟩;rintro⟨k,Y,rfl,G⟩;exact .inr ⟨k,Y,q,G,rfl⟩
variable{ag:List ad}
theorem aif(h:gN ag){x y:ad}(F:x∈ag)(hy:y∈ag)(e:x.name=y.name):x=y:=by obtain⟨i,hi,rfl⟩:=aur.1 F;obtain⟨j,aa,rfl⟩:=aur.1 hy;rcases awc i j with l|l|l;exact absurd e (s1 (r3 h l aa));subst l;rfl;exact absurd e.symm (s1 (r3 h l hi))
theorem aig(h:gN ag){k:ad}(Y:k∈ag):py k.name ag=some k:=by unfold py;cases M:ag.find? (λx=>x.name==k.name)with|none =>have:=avj.1 M k Y;simp at this|some x =>have h1:=awe M;have A:=aw_ M;rw[aif h h1 Y (by simpa using A)]
theorem WC{q:atG}{k:ad}(h:py q ag=some k):k∈ag/\k.name=q :=
 ⟨awe h,by simpa using aw_ h⟩
theorem WD{n k:ad}{m:atG}{q:List atG}(hi:gN n.J)(Y:k∈n.J)(e:k.name=m):i_ n (m::q)=i_ k q:=by subst e;simp only[i_,aig hi Y]
theorem Oc{n:ad}(h:im n):gN n.J:=((s_ n).1 h).2.2.1
theorem Jc{n k:ad}(h:im n)(Y:k∈n.J):im k:=(qZ ((s_ n).1 h).2.2.2 Y).2
theorem aih{n k:ad}(h:im n)(Y:k∈n.J):dX k.name=true:=(qZ ((s_ n).1 h).2.2.2 Y).1.1
theorem Od:∀(q:List atG) (n:ad),im n->(q∈px n↔∃x,i_ n q=some x)
 |[],n,h=>by simp[i_,aie]
 |m::q,n,h=>by rw[Ob];constructor;rintro⟨k,Y,rfl,G⟩;rw[WD (Oc h) Y rfl];exact(Od q k (Jc h Y)).1 G;rintro⟨x,F⟩;simp only[i_]at F;cases M:py m n.J with|none=>rw[M]at F;cases F|some k =>rw[M]at F;obtain⟨h1,A⟩:=WC M;exact⟨k,h1,A,(Od q k (Jc h h1)).2 ⟨x,F⟩⟩
def ln(q:List atG):atG:=q.flatMap λm=>47::m
def nC:List atG->atG
 |[]=>[]
 |m::r=>m++ln r
mutual
def dR:ad->atG->Int->List atG
 |.mk _ _ _ _ _ _ _ _ _ _ ag _,p,l=>p::jT ag p l
def jT:List ad->atG->Int->List atG
 |[],_,_=>[]
 |k::r,p,l=>dR k (below p k.name (l+1)) (l+1)++jT r p l
end
theorem Oe(n:ad)(p:atG)(l:Int):dR n p l=p::jT n.J p l:=by cases n;simp only[dR]
mutual
theorem WE:∀(n:ad) (p:atG) (l:Int),2<=l->dR n p l=(px n).map λq=>p++ln q
 |.mk _ _ _ _ _ _ _ _ _ _ ag _,p,l,h=>by
  simp only[dR,px,aui];rw[WF ag p l h];simp[ln]
theorem WF:∀(ag:List ad) (p:atG) (l:Int),2<=l->jT ag p l=(sc ag).map λq=>p++ln q
 |[],p,l,h=>rfl
 |k::r,p,l,h=>by
  simp only[jT,sc,auq,avN];rw[WF r p l h,WE k _ (l+1) atw,below,atH atw];congr 1
  refine av3 λq _=>?_;simp[ln]
end
theorem WG:∀(ag:List ad),jT ag [] 1=(sc ag).map nC
 |[]=>rfl
 |k::r=>by simp only[jT,sc,auq,avN];rw[WG r,WE k _ _ atw,below,atI atw];congr 1
theorem Of(n:ad):dR n [] 1=(px n).map nC:=by rw[Oe,Ja,WG];rfl
theorem WH:∀(cR:List atG) (p:atG),(47:UInt8)∉p->(∀m∈cR,(47:UInt8)∉m)->cQ 47 [] (p++ln cR)=p::cR
 |[],p,ay,_=>by simp[ln,MO p [] ay]
 |m::r,p,ay,h=>by(have e:p++ln (m::r)=p++47::(m++ln r):=by simp[ln]);rw[e,MP p [] _ ay,WH r m (h m atU) λx F=>h x (atY _ F)];simp
def xh(q:List atG):Prop:=∀m∈q,dX m=true
theorem WI{m:atG}(h:dX m=true):(47:UInt8)∉m:=by intro hm;unfold dX at h;rw[atI (.inr (.inr hm))]at h;cases h
theorem Og{q:List atG}(h:xh q):nC q=[]↔q=[]:=by cases q with|nil=>simp[nC]|cons m r =>have:=ahl (h m atU);simp[nC,this]
theorem Oh{q:List atG}(h:xh q)(G:q≠[]):cQ 47 [] (nC q)=q:=by cases q with|nil=>exact absurd rfl G|cons m r=>exact WH r m (WI (h m atU)) λx F=>WI (h x (atY _ F))
theorem aii{q ry:List atG}(h:xh q)(bB:xh ry)(e:nC q=nC ry):q=ry:=by by_cases h0:q=[];subst h0;exact((Og bB).1 (by rw[<-e];rfl)).symm;have h1:ry≠[]:=λA=>h0 ((Og h).1 (by rw[e,A];rfl));rw[<-Oh h h0,e,Oh bB h1]
theorem Oi:∀(q:List atG) (n:ad),im n->q∈px n->xh q
 |[],n,_,_=>λm hm=>by cases hm
 |m::q,n,h,G=>by obtain⟨k,Y,e,G⟩:=Ob.1 G;intro x F;rcases at5.1 F with rfl|F;rw[<-e];exact aih h Y;exact Oi q k (Jc h Y) G x F
mutual
theorem AK:∀(n:ad) (p:atG) (l:Int),(dR n p l).length=fC n
 |.mk _ _ _ _ _ _ _ _ _ _ ag _,p,l=>by
  have:=Jd ag p l;simp only[dR,fC,atT];omega
theorem Jd:∀(ag:List ad) (p:atG) (l:Int),(jT ag p l).length=eY ag
 |[],p,l=>rfl
 |k::r,p,l=>by
  have h1:=AK k (below p k.name (l+1)) (l+1);have A:=Jd r p l;simp only[jT,eY,atP];omega
end
theorem Oj:∀{ag:List ad} {i:Nat} (h:i<ag.length) (p:atG) (l:Int),jT (ag.take (i+1)) p l=jT (ag.take i) p l++dR ag[i] (below p ag[i].name (l+1)) (l+1)
 |k::r,0,_,p,l=>by simp[jT]
 |k::r,i+1,h,p,l=>by have:=Oj (ag:=r) (i:=i) (by simpa using h) p l;simp only[avm,jT,au9];rw[this];simp
theorem aij:∀(bD:Nat) (n:ad),aC n<bD->aC n<10000000->∀(p:atG) (l:Int),1<=l->p.length+aC n<100000000->l+aC n<1000000000->aU B 136 [aE n,.O p,u l] (.Q .none 1 (aN (dR n p l))):=by refine λbD=>Nat.rec (λn h=>absurd h (avf _)) (λbD aZ n hN bC p l al ay uB=>?_) bD;refine bA Tryz.func136 Tryz.ntmps136 λU=>?_;refine cl ?_;intro eR;refine cl ?_;refine⟨ak,?_⟩;refine nn ?_;refine W.own 7 1000 1 9 rfl (λw=>?_);refine W.ec (α:={i:Nat // i<=n.J.length}×Value) (λx=>[(1,.O p),(2,u l),(3,.box 3 eR 0),(7,.Q (.own 1000 x.2) 1 (aN (p::jT (n.J.take x.1.1) p l))),(8,u x.1.1)]) (λx=>[(3,.box eR [.O n.name,u n.kind,.O n.dW,.O n.target,u n.cN,u n.n2,u n.n3,u n.n4,u n.n5,u n.n6,.Q .none 12 (n.J.map enc),.Q .none 2 (n.bO.map c4)]),(1000,.own x.2 (aN (p::jT (n.J.take x.1.1) p l)).length 1 9)]) (λx=>n.J.length-x.1.1) (⟨0,at4 _⟩,w) [(3,3),(1000,1000)] ⟨ar,rfl,bc⟩ ?_;rintro⟨⟨i,hi⟩,w⟩;dsimp only at hi⊢;refine p4 ?_;refine aK _ rfl ?_ ?_<;>intro hc;refine fg ?_;(have aI:i<n.J.length:=by simpa using hc);have NN:=rP aI;have eW:=BX p n.J[i].name (l+1);have cS:=Oj aI p l;have mO:=Jd (n.J.take i) p l;have bf:=M2 n.J i;have Bl:=EK n.J;have aik:=lR n;have eS:=AK n.J[i] (below p n.J[i].name (l+1)) (l+1);have b6:=BZ n.J[i];have sR:=z8 n.J;refine kq ?_;refine W.Bt aM 18 mixed atB ?_;refine mg ?_;refine⟨aE n.J[i],λ_=>n7 aI,?_⟩;refine mg ?_;refine⟨aE n.J[i],λ_=>n7 aI,?_⟩;(conv=>whnf);refine⟨[.O p,.O n.J[i].name,u l],_,λ_=>S9 p n.J[i].name l atw al,ar,?_⟩;refine k6 ?_;refine⟨[aE n.J[i],.O (below p n.J[i].name (l+1)),u (l+1)],_,λ_=>aZ n.J[i] atw atw (below p n.J[i].name (l+1)) (l+1) atw atw atw,ar,?_⟩;(conv=>whnf);refine LW ?_;refine⟨by show(_+_)*16<=_;simp[aN];omega,by show _+_<=_;simp[aN];omega,atD,λv=>?_⟩;refine nl ?_;(have ao:aN (p::jT (n.J.take i) p l)++aN (dR n.J[i] (below p n.J[i].name (l+1)) (l+1))=aN (p::jT (n.J.take (i+1)) p l):=by rw[cS];simp[aN]);exact⟨(⟨i+1,aI⟩,v),[(3,3),(1000,36)],ayh,⟨E,E,E,aq.jK ao,E,ak⟩,rfl,rfl,rfl,rfl,j2 (by rw[<-ao,atP]),ak⟩;refine qG ?_;(have ci:i=n.J.length:=by simp at hc;omega);have e:n.J.take i=n.J:=aug atw;rw[e,<-Oe];exact aq.mL
theorem ail(n:ad)(aw:fr n)(X:valid n=true):aU B 87 [aE n] (.Q .none 1 (aN (dR n [] 1))):=by refine bA Tryz.func87 Tryz.ntmps87 λU=>?_;refine cl ?_;intro dC;refine f_ ?_;refine eB ?_;refine⟨[aE n],_,λ_=>T_ n aw,ar,?_⟩;refine aK _ rfl ?_ ?_<;>intro hc;apply el;exfalso;rw[X]at hc;cases hc;apply co;refine k7 ?_;have bC:=aw;unfold fr at bC;refine⟨[aE n,.O [],u 1],_,λ_=>aij _ n (auy _) atw [] 1 atw atx atw,ar,?_⟩;refine iD ?_;exact E
def en(n:ad)(s:atG):ad×Int :=
 if s=[]then(n,0)else match i_ n (cQ 47 [] s)with
  |some x=>(x,0)
  |none=>(ux,6)
theorem aim{q:List atG}(h:xh q)(n:ad):en n (nC q)=match i_ n q with|some x=>(x,0)|none=>(ux,6):=by unfold en;by_cases h0:q=[];subst h0;rfl;rw[atH (λe=>h0 ((Og h).1 e)),Oh h h0]
theorem WJ(n:ad)(q:atG):(s0 n q=-1/\py q n.J=none)\/∃(i:Nat) (h:i<n.J.length),s0 n q=i/\py q n.J=some n.J[i]:=by cases M:py q n.J with|none =>refine .inl ⟨?_,rfl⟩;unfold py at M;(exact zQ λj aa=>by simpa using avj.1 M _ (atO aa))|some k =>unfold py at M;obtain⟨h1,i,A,Z,aG⟩:=List.find?_eq_some_iff_getElem.1 M;refine .inr ⟨i,A,?_,by rw[Z]⟩;exact zP (p:=λk:ad=>k.name==q) A (λj aa e9=>by simpa using aG j e9) (by rw[Z];exact h1)
theorem Ok:∀(q:List atG) (n x:ad),i_ n q=some x->aC x<=aC n
 |[],n,x,h=>by simp only[i_,aus]at h;subst h;exact atQ _
 |m::q,n,x,h=>by simp only[i_]at h;cases M:py m n.J with|none=>rw[M]at h;cases h|some k =>rw[M]at h;obtain⟨i,hi,e⟩:=aur.1 (WC M).1;have h1:=rP hi;have A:=Ok q k x h;rw[e]at h1;omega
theorem WK:∀(q:List atG) (n:ad),q∈px n->(ln q).length<=aC n
 |[],n,_=>by simp[ln]
 |m::q,n,h=>by obtain⟨k,Y,rfl,G⟩:=Ob.1 h;obtain⟨i,hi,rfl⟩:=aur.1 Y;have:=rP hi;have:=WK q _ G;simp only[ln,auL,atP,atT]at this⊢;omega
theorem ain(k:ad)(q:atG):aU B 85 [aE k,.a_ 1 [.O q] 0 0] (.bool (k.name==q)):=by refine bA Tryz.func85 Tryz.ntmps85 λU=>?_;refine cl ?_;intro b;refine iX ?_;refine x4 (.O q) ?_;refine go ?_;exact E
theorem aio(l:List ad)(q:atG)(al:l.length<1000000000):aU B 84 [.Q .none 12 (l.map enc),.fn (.func 85) [] [.a_ 1 [.O q] 0 0]] (u (fd (λk:ad=>k.name==q) l)):=by refine bA Tryz.func84 Tryz.ntmps84 λU=>?_;refine go ?_;refine W.loop (α:={i:Nat // i<=l.length/\∀j (h:j<l.length),j<i->((l[j]).name==q)=false}) (λx=>[(0,.Q .none 12 (l.map enc)),(1,.fn (.func 85) [] [.a_ 1 [.O q] 0 0]),(7,u (l.map enc).length),(8,u x.1)]) (λ_=>[]) (λx=>l.length-x.1) ⟨0,by simp⟩ ar trivial ?_;rintro⟨i,hi,ay⟩;dsimp only;refine go ?_;refine aK (decide ((i:Int)<(l.map enc).length)) rfl ?_ ?_<;>intro hc;apply co;refine kq ?_;apply b4;(have aI:i<l.length:=by simpa using hc);refine cl ?_;refine p1 ?_;refine⟨aE l[i],λ_=>n7 aI,?_⟩;refine go ?_;refine bs (ain l[i] q) ?_;refine aK _ rfl ?_ ?_<;>intro hc;refine go ?_;exact dt (zP (p:=λk:ad=>k.name==q) aI ay hc).symm;refine go ?_;exact⟨⟨i+1,by omega,λj aa bf=>(avL.1 bf).elim (ay j aa) λe=>by subst e;exact hc⟩,by show _-(i+1)<_-i;omega,ar,ak⟩;refine go ?_;exact axM
def yX:List D->Nat->ad->List atG->D
 |xs,j,n,[]=>.a_ 12 xs j 0
 |xs,j,n,m::r=>if s0 n m<0 then .ai (.pointer none)else match n.J[(s0 n m).toNat]? with
  |some k=>yX (n.J.map enc) (s0 n m).toNat k r
  |none=>.ai (.pointer none)
theorem WL:∀(r:List atG) (xs:List D) (j:Nat) (n:ad),xs[j]?=some (aE n)->(i_ n r=none/\yX xs j n r=.ai (.pointer none))\/∃m a' i,i_ n r=some m/\yX xs j n r=.a_ 12 a' i 0/\a'[i]?=some (aE m)
 |[],xs,j,n,h=>.inr ⟨n,xs,j,rfl,rfl,h⟩
 |m::r,xs,j,n,h=>by simp only[i_,yX];rcases WJ n m with⟨h1,A⟩|⟨i,hi,h1,A⟩;rw[h1,A];exact .inl ⟨rfl,atI atz⟩;rw[h1,A,atH atw,show((i:Nat):Int).toNat=i from rfl,atK hi];exact WL r _ i _ (rQ hi)
theorem aip(a1:db B)(s:atG)(hs:s.length<1000000000)(xs:List D)(j:Nat)(n:ad)(aa:xs[j]?=some (aE n))(bC:aC n<1000000000):aU B 52 [.a_ 12 xs j 0,.O s] (if s=[]then .a_ 12 xs j 0 else yX xs j n (cQ 47 [] s)):=by refine bA Tryz.func52 Tryz.ntmps52 λU=>?_;refine go ?_;refine aK _ rfl ?_ ?_<;>intro hc;refine go ?_;exact aq.of_eq (atI (by simpa using hc)).symm;refine go ?_;(have a7:s≠[]:=by simpa using hc);refine go ?_;refine bs (Il a1 s 47 hs) ?_;refine W.loop (α:={x:Nat×List D×Nat×ad // x.1<=(cQ 47 [] s).length/\x.2.1[x.2.2.1]?=some (aE x.2.2.2)/\yX x.2.1 x.2.2.1 x.2.2.2 ((cQ 47 [] s).drop x.1)=yX xs j n (cQ 47 [] s)/\aC x.2.2.2<1000000000}) (λx=>[(0,.a_ 12 x.1.2.1 x.1.2.2.1 0),(12,.Q .none 1 (aN (cQ 47 [] s))),(13,u (aN (cQ 47 [] s)).length),(14,u x.1.1)]) (λ_=>[]) (λx=>(cQ 47 [] s).length-x.1.1) ⟨(0,xs,j,n),at4 _,aa,rfl,bC⟩ ⟨E,aq.dV,E,E,ak⟩ trivial ?_;rintro⟨⟨i,a',arI,m⟩,hi,hm,N,aiq⟩;obtain⟨eJ,_⟩:=sW (c:=47) s [];dsimp only at hi hm N aiq⊢;refine go ?_;refine aK (decide ((i:Int)<(aN (cQ 47 [] s)).length)) rfl ?_ ?_<;>intro hc;apply co;refine kq ?_;apply b4;(have aI:i<(cQ 47 [] s).length:=by simpa[aN]using hc);have eS:=vq m;have k':(cQ 47 [] s).drop i=(cQ 47 [] s)[i]::(cQ 47 [] s).drop (i+1):=auQ aI;(conv=>whnf);refine⟨λ_=>by simp[aN];omega,?_⟩;refine go ?_;refine⟨.O (cQ 47 [] s)[i],λ_=>by simp[aN,aI],?_⟩;refine go ?_;intro b;(conv=>whnf);refine da ?_;apply el;refine W.BI 6 6 (.O (cQ 47 [] s)[i]) rfl rfl rfl rfl ?_;refine tV ?_;(conv=>whnf);refine⟨rfl,ak,.inr (af.L0 rfl ?_)⟩;refine ic ?_;refine⟨rfl,ak,.inl ⟨aE m,λ_=>hm,?_⟩⟩;refine ic ?_;refine⟨rfl,ak,.inl ⟨[.Q .none 12 (m.J.map enc),.fn (.func 85) [] [.a_ 1 [.O (cQ 47 [] s)[i]] 0 0]],_,λ_=>aio m.J _ atw,ar,?_⟩⟩;apply eb;refine go ?_;refine aK (decide (s0 m (cQ 47 [] s)[i]<0)) rfl ?_ ?_<;>intro hc;refine go ?_;refine aq.of_eq ?_;rw[atH a7,<-N,k'];exact(atI (by simpa using hc)).symm;refine fg ?_;(have rN:∃(hh:Nat) (h:hh<m.J.length),s0 m (cQ 47 [] s)[i]=hh/\py (cQ 47 [] s)[i] m.J=some m.J[hh]:=by rcases WJ m (cQ 47 [] s)[i]with⟨h1,_⟩|h;rw[h1]at hc;simp at hc;exact h);obtain⟨hh,lN,ao,_⟩:=rN;have b6:=rP lN;rw[show fd (λk:ad=>k.name==(cQ 47 [] s)[i]) m.J=(hh:Int)from ao];refine tV ?_;(conv=>whnf);refine⟨rfl,ak,.inr (af.L0 rfl ?_)⟩;refine ic ?_;refine⟨rfl,ak,.inl ⟨aE m,λ_=>hm,?_⟩⟩;refine ic ?_;refine⟨rfl,ak,.inl ⟨λ_=>by simp;omega,?_⟩⟩;apply eb;refine go ?_;exact⟨⟨(i+1,m.J.map enc,hh,m.J[hh]),aI,rQ lN,by rw[<-N,k'];simp only[yX,ao];rw[atH atw,show((hh:Nat):Int).toNat=hh from rfl,atK lN],by show aC m.J[hh]<_;omega⟩,by show _-(i+1)<_-i;omega,ar,ak⟩;refine go ?_;refine aq.of_eq ?_;(have ci:i=(cQ 47 [] s).length:=by simp[aN]at hc;omega);rw[atH a7,<-N,ci,List.drop_length];rfl
theorem Ol(a1:db B)(s:atG)(hs:s.length<1000000000)(n:ad)(aw:fr n)(X:valid n=true):aU B 17 [aE n,.O s] (.bp [aE (en n s).1,u (en n s).2]):=by refine bA Tryz.func17 Tryz.ntmps17 λU=>?_;have bC:=aw;unfold fr at bC;refine go ?_;intro cm;refine go ?_;intro cT;refine go ?_;refine bs (Ao a1 n atw) ?_;refine aK _ rfl ?_ ?_<;>intro hc;refine go ?_;exfalso;rw[X]at hc;cases hc;apply co;apply el;refine W.BI 2 2 (aE n) rfl rfl rfl rfl ?_;(have vZ:∃d,aU B 52 [.a_ 12 [aE n] 0 0,.O s] d/\((d=.ai (.pointer none)/\en n s=(ux,6))\/∃m a' i,d=.a_ 12 a' i 0/\a'[i]?=some (aE m)/\en n s=(m,0)/\aC m<=aC n):=by refine⟨_,aip a1 s hs [aE n] 0 n rfl atw,?_⟩;by_cases h0:s=[];rw[atI h0];exact .inr ⟨n,_,_,rfl,rfl,by rw[en,atI h0],atQ _⟩;rw[atH h0,en,atH h0];rcases WL (cQ 47 [] s) [aE n] 0 n rfl with⟨h1,A⟩|⟨m,a',i,h1,A,Z⟩;rw[h1,A];exact .inl ⟨rfl,rfl⟩;rw[h1,A];exact .inr ⟨m,a',i,rfl,Z,rfl,Ok _ _ _ h1⟩);obtain⟨d,kV,⟨rfl,fJ⟩|⟨m,a',i,rfl,hi,fJ,AL⟩⟩:=vZ;refine mS ?_;refine⟨[.a_ 12 [aE n] 0 0,.O s],_,λ_=>kV,ar,?_⟩;apply nk;refine tV ?_;(conv=>whnf);refine⟨rfl,ak,.inr (af.acz rfl rfl ?_)⟩;refine W.cond true rfl (λhc=>?_) (λhc=>by cases hc);refine go ?_;rw[fJ];exact⟨NT,E,ak⟩;refine mS ?_;refine⟨[.a_ 12 [aE n] 0 0,.O s],_,λ_=>kV,ar,?_⟩;apply nk;refine tV ?_;(conv=>whnf);refine⟨rfl,ak,.inr (af.acy rfl rfl ?_)⟩;refine W.cond false rfl (λhc=>by cases hc) (λhc=>?_);apply co;refine no ?_;(conv=>whnf);refine⟨rfl,ak,.inr (af.L0 rfl ?_)⟩;(conv=>whnf);refine⟨rfl,ak,.inl ⟨aE m,λ_=>hi,?_⟩⟩;(conv=>whnf);refine⟨rfl,ak,.inl ⟨[aE m],_,λ_=>aid _ m (auy _) atw,ar,?_⟩⟩;(conv=>whnf);refine⟨rfl,ak,.inl ⟨rfl,?_⟩⟩;apply eb;refine go ?_;rw[fJ];exact⟨aq.of_eq rfl,E,ak⟩
section
variable(aX:List ad->List atG)(v:Int)
end
end Go.bR.ck


namespace Go.bR.ck
open Go Go.Proofs
variable{B:World}
def F3(v:Int)(ag:List ad)(m:atG):atG:=(((ag.map ad.name).zip (cg v ag)).lookup m).getD []
def xi(v:Int)(J:List ad):List atG:=J.map λk=>F3 v (mw J) k.name
def CG(J:List ad):Bool:=J.all λk=>dX k.name
def kX(v:Int)(J:List ad):List atG×Int :=
 if j5 v=false then([],2)else if 64<J.length then([],7)else if CG J=false then([],4)else if¬(J.map ad.name).Nodup then([],5)else(xi v J,0)
theorem WM:∀{a:List atG} {b:List atG} {i:Nat} (aw:a.Nodup) (h:i<a.length) (bB:i<b.length),(a.zip b).lookup a[i]=some b[i]
 |x::a,y::b,0,_,_,_=>by simp[List.lookup]
 |x::a,y::b,i+1,aw,h,bB=>by rw[avD]at aw;have aZ:=WM (a:=a) (b:=b) (i:=i) aw.2 (by simpa using h) (by simpa using bB);(have a7:((a[i]'(by simpa using h))==x)=false:=by rw[auA];intro e;exact aw.1 (e ▸ atO _));simp only[List.zip_cons_cons,au9,List.lookup,a7];exact aZ
variable{ag:List ad}{t:Nat}
theorem WN{v:Int}(aw:(ag.map ad.name).Nodup)(h:t<ag.length):F3 v ag ag[t].name=(cg v ag)[t]'(by rw[oi];exact h):=by have:=WM (a:=ag.map ad.name) (b:=cg v ag) (i:=t) aw (by simpa using h) (by rw[oi];exact h);rw[awi]at this;rw[F3,this];rfl
theorem CH(h:gN ag):(ag.map ad.name).Nodup:=by rw[auH,avz];exact auZ.2 λi j hi aa d9=>s1 (r3 h d9 aa)
theorem air{v:Int}(h:gN ag):xi v ag=cg v ag:=by rw[xi,ahf h];apply au3 (by simp[oi]);intro i h1 A;rw[awi,WN (CH h)]
theorem Om:∀{L:List Nat} {t:Nat} (aw:L.Nodup) (av:t<L.length),L.idxOf L[t]=t
 |x::r,0,_,_=>by simp
 |x::r,t+1,aw,av=>by rw[avD]at aw;(have WO:t<r.length:=by simpa using av);have a7:¬(x==r[t])=true:=λe=>aw.1 (by rw[avp]at e;rw[e];exact atO WO);rw[au9,List.idxOf_cons,Bool.cond_eq_ite,atH a7,Om aw.2 WO]
structure nD (J:List ad) (L:List Nat):Prop where
 F4:L.Perm (List.range J.length)
 ais:∀(i j:Nat) (hi:i<L.length) (aa:j<L.length),i<j->Op.bytesLess (J.getD L[j] default).name (J.getD L[i] default).name=false
def kw(J:List ad)(L:List Nat):List ad:=L.map λi=>J.getD i default
variable{j:Nat}{g:Nat->atG}
section
variable{J:List ad}{L:List Nat}
theorem nD.len(h:nD J L):L.length=J.length:=by rw[h.F4.length_eq];simp
theorem nD.lt(h:nD J L)(av:t<L.length):L[t]<J.length:=avg.1 (h.F4.subset (atO av))
theorem nD.nodup(h:nD J L):L.Nodup:=h.F4.nodup_iff.2 List.nodup_range
theorem nD.mem(h:nD J L)(aa:j<J.length):j∈L:=h.F4.symm.subset (avg.2 aa)
theorem On(h:nD J L):(kw J L).Perm J:=by have h1:=h.F4.map λi=>J.getD i default;(have A:(List.range J.length).map (λi=>J.getD i default)=J:=by apply au3 aty;intro i h1 A;simp at h1;simp[List.getD,h1]);rw[A]at h1;exact h1
theorem WP(h:nD J L):(kw J L).length=J.length:=(On h).length_eq
theorem Oo(h:nD J L)(av:t<L.length):(kw J L)[t]'(by simp[kw];exact av)=J[L[t]]'(h.lt av):=by simp[kw,List.getD,h.lt av]
theorem ait(h:nD J L)(aw:∀t,(h1:t+1<L.length)->(J.getD L[t] default).name≠(J.getD L[t+1] default).name):gN (kw J L):=λi hi=>by
 have lN:i+1<L.length:=by rw[h.len,<-WP h];exact hi
 have h1:=h.ais i (i+1) atw lN atw;have A:=aw i lN;have e:∀t,(av:t<L.length)->((kw J L).getD t default)=J.getD L[t] default:=λt av=>by simp[kw,List.getD,av]
 rw[e i atw,e (i+1) lN]
 cases Z:Op.bytesLess (J.getD L[i] default).name (J.getD L[i+1] default).name with
 |true=>rfl
 |false=>exact absurd (w6 _ _ Z h1) A
theorem aiu(h:nD J L)(hi:gN (kw J L)):mw J=kw J L:=by refine Ng hi ((AF J).trans (On h).symm) λi j hi aa d9=>auZ.1 (NM J) i j hi aa d9
theorem aiv(h:nD J L)(hi:gN (kw J L)):(J.map ad.name).Nodup:=((On h).map ad.name).nodup_iff.1 (CH hi)
theorem aiw(h:nD J L){s:Nat}(hs:s<t)(av:t<L.length)(e:(J.getD L[s] default).name=(J.getD L[t] default).name):¬(J.map ad.name).Nodup:=λaw=>by
 have h1:=h.lt (t:=s) atw;have A:=h.lt av
 have a7:L[s]≠L[t]:=λe=>by
  have:=(auZ.1 (auH.1 h.nodup)) s t atw av hs;exact this e
 rw[auH,avz]at aw;have ay:=auZ.1 aw;simp only[List.getD,atK h1,atK A,auJ]at e;rcases awc L[s] L[t]with l|l|l
 ·exact ay _ _ h1 A l e
 ·exact a7 l
 exact ay _ _ A h1 l e.symm
def pz(n:Nat)(L:List Nat)(g:Nat->atG)(t:Nat):List D:=(List.range n).map λj=>if j∈L.take t then .O (g j)else .O []
theorem aix{n:Nat}:(pz n L g t).length=n:=by simp[pz]
theorem aiy{n:Nat}:pz n L g 0=List.replicate n (.O []):=by apply au3 (by simp[pz]);intro i h1 A;simp[pz]
theorem aiz{n:Nat}(av:t<L.length)(al:L[t]<n):(pz n L g t).set L[t] (.O (g L[t]))=pz n L g (t+1):=by apply au3 (by simp[pz]);intro i h1 A;rw[awZ];simp only[pz,awi,awr,atM av,aue,auv];by_cases e:L[t]=i;subst e;simp;have oy:¬i=L[t]:=λh=>e h.symm;rw[atH e];simp[oy]
theorem aiA{v:Int}(h:nD J L)(aW:∀j,(aa:j<J.length)->g j=F3 v (mw J) J[j].name):pz J.length L g L.length=aN (xi v J):=by
 apply au3 (by simp[pz,aN,xi]);intro i h1 A;have hi:i<J.length:=by simpa[pz]using h1
 simp only[pz,aN,xi,awi,awr,atX];rw[atI (h.mem hi),aW i hi]
def te(v:Int)(J:List ad)(L:List Nat)(j:Nat):atG:=(cg v (kw J L)).getD (L.idxOf j) []
theorem aiB(h:nD J L){v:Int}(av:t<L.length):te v J L L[t]=q2 v (hb v ((kw J L).take t)) (J[L[t]]'(h.lt av)):=by(have hlen:t<(kw J L).length:=by simp[kw];exact av);rw[te,Om h.nodup av];(have h1:t<(cg v (kw J L)).length:=by rw[oi];exact hlen);rw[List.getD,atK h1,auJ,<-Oo h av];(have key:∀(ag:List ad) (t:Nat) (av:t<ag.length),(cg v ag)[t]'(by rw[oi];exact av)=q2 v (hb v (ag.take t)) ag[t]:=by intro ag t av;(have e:∀ag:List ad,∀m,m<=ag.length->(hb v ag).reverse.take m=(hb v (ag.take m)).reverse:=axf);have A:=e ag (t+1) atw;(have Z:(cg v ag)[t]?=((cg v ag).take (t+1))[t]?:=by rw[auB,atI atw]);have aG:(cg v ag).take (t+1)=(hb v (ag.take (t+1))).reverse:=A;rw[aG,N' av,avJ,auo (by simp[td];omega)]at Z;(have bb:(hb v (ag.take t)).reverse.length=t:=by simp[td];omega);rw[bb,awx]at Z;rw[atK (by rw[oi];exact av)]at Z;simpa using Z);exact key _ t hlen
theorem aiC(h:nD J L){v:Int}(hi:gN (kw J L))(aa:j<J.length):te v J L j=F3 v (mw J) J[j].name:=by
 obtain⟨t,av,rfl⟩:=aur.1 (h.mem aa);have hlen:t<(kw J L).length:=by simp[kw];exact av
 rw[aiu h hi,<-Oo h av,WN (CH hi) hlen,te,Om h.nodup av,List.getD,atK (by rw[oi];exact hlen),auJ]
end
theorem aiD(J:List ad)(hlen:J.length<1000000)(d6:Nat)(v:Value): c1 B 253 [.ai v,.fn (.func 254) [] [.box 2000 d6 0]] (aL [(2001,.row v (et J.length) 1 3),(2000,.box d6 [.Q .none 12 (J.map enc)])]) λd aP => d=.bp []/\∃L:List Nat,nD J L/\aP=aL [(2001,.row v (L.map encI) 1 3),(2000,.box d6 [.Q .none 12 (J.map enc)])]:=by by_cases h0:0<J.length;have hc:=UE (B:=B) J h0 hlen d6 v (List.finRange J.length) (by simpa using h0) (by simpa using hlen);rw[Nh]at hc;refine hc.mono ?_;rintro d aP ⟨rfl,kG,ay,hs,rfl⟩;refine⟨rfl,kG.map (λx=>x.1),⟨?_,λi j hi aa d9=>?_⟩,by rw[avN];rfl⟩;have:=ay.map (λx:Fin J.length=>x.1);(have e:(List.finRange J.length).map (λx:Fin J.length=>x.1)=List.range J.length:=by apply au3 aty;intro i h1 A;simp);rwa [e]at this;simp only[atL]at hi aa;have:=hs i j hi aa d9;simpa[List.getD]using this;have aw:J=[]:=atZ atw;subst aw;refine(UD v _ _).mono ?_;rintro d aP ⟨rfl,rfl⟩;exact⟨rfl,[],⟨E,λi j hi=>by simp at hi⟩,rfl⟩
variable{r:Int}
theorem aiE(h:em r=true)(hi:(47:UInt8)∈(Utf8.encode r).data.toList):r=47:=by obtain⟨h1,A,Z⟩:=(sa r).1 h;obtain⟨n,rfl⟩:∃n:Nat,r=n:=⟨r.toNat,by omega⟩;(have gn:∀x:Nat,x<256->(UInt8.ofNat x).toNat=x:=λx F=>by rw[av8];omega);have arJ:(47:UInt8).toNat=47:=rfl;(have a7:∀x:Nat,x<256->128<=x->(47:UInt8)≠UInt8.ofNat x:=λx F NW e=>by have:=atJ UInt8.toNat e;rw[gn x F]at this;omega);(have X:Utf8.valid (n:Int)=true:=by simp[Utf8.valid];omega);by_cases mW:n<128;(have e:(Utf8.encode (n:Int)).data.toList=[UInt8.ofNat n]:=by unfold Utf8.encode;simp only[X,auX,auj];rw[atI mW]);rw[e,auv]at hi;have:=atJ UInt8.toNat hi;rw[gn n atw]at this;omega;exfalso;by_cases A:n<2048;(have e:(Utf8.encode (n:Int)).data.toList=[UInt8.ofNat (192+n/64),UInt8.ofNat (128+n%64)]:=by unfold Utf8.encode;simp only[X,auX,auj];rw[atH mW,atI A]);rw[e]at hi;simp only[at5,awh,awB]at hi;rcases hi with hi|hi;exact a7 (192+n/64) atw atw hi;exact a7 (128+n%64) atw atw hi;(have e:(Utf8.encode (n:Int)).data.toList=[UInt8.ofNat (224+n/4096),UInt8.ofNat (128+n/64%64),UInt8.ofNat (128+n%64)]:=axW);rw[e]at hi;simp only[at5,awh,awB]at hi;rcases hi with hi|hi|hi;exact a7 (224+n/4096) atw atw hi;exact a7 (128+n/64%64) atw atw hi;exact a7 (128+n%64) atw atw hi
theorem aiF{l:List Int}(h:∀r∈l,em r=true)(hm:(47:UInt8)∈cy l):(47:Int)∈l:=by induction l with|nil=>simp[cy]at hm|cons r l aZ =>(have e:cy (r::l)=(Utf8.encode r).data.toList++cy l:=by simp[cy]);rw[e,aue]at hm;rcases hm with hm|hm;rw[aiE (h r atU) hm];exact atU;exact atY _ (aZ (λx F=>h x (atY _ F)) hm)
theorem aiG{l:List Int}(h:∀r∈l,em r=true)(h1:1<=l.length)(A:l.length<=64)(Z:(47:Int)∉l)(aG:l≠[46])(bb:l≠[46,46]):dX (cy l)=true:=by have hc:=yQ l h;have hlen:=N7 l;(have N:jo [46]=some [46]:=by decide +kernel);(have yY:jo [46,46]=some [46,46]:=by decide +kernel);unfold dX;rw[atH];(have kQ:chars (cy l)=(l,0):=by unfold chars;rw[atH atw,hc]);rw[kQ];simp[h1,A];rintro(e|e|e);rw[e,N]at hc;simp at hc;exact aG hc.symm;rw[e,yY]at hc;simp at hc;exact bb hc.symm;exact Z (aiF h e)
theorem aiH(r:Int):ll r≠47:=by unfold ll;split;decide;rename_i h;intro e;subst e;exact h atz
theorem WQ(r:Int):hZ r≠47/\hZ r≠46:=by unfold hZ;split;constructor<;>omega;split;rename_i h;constructor<;>(intro e;subst e;exact absurd h.2 atz);constructor<;>decide
theorem WR(v r:Int):e3 v r≠47:=by unfold e3;split;exact(WQ r).1;exact aiH r
variable{k:Nat}
theorem Oq(Y:k<100):∀r∈iK k,48<=r/\r<=57:=by revert k;(have:∀k:Fin 100,∀r∈iK k.1,48<=r/\r<=57:=by decide +kernel);intro k Y;exact this ⟨k,Y⟩
theorem aiI(Y:k<100)(h0:0<k):1<=(iK k).length:=by revert k;(have:∀k:Fin 100,0<k.1->1<=(iK k.1).length:=by decide +kernel);intro k Y h0;exact this ⟨k,Y⟩ h0
theorem Ot:∀l:List Int,kv l<l.length/\-1<=kv l
 |[]=>by simp[kv]
 |x::r=>by have:=Ot r;simp only[kv,atT];split;omega;split<;>omega
variable{s:atG}
theorem aiJ{v:Int}(X:v=0\/v=1)(hs:dX s=true)(bd:Bool)(Y:k<100):dX (j' v (fR v s bd).1 (fR v s bd).2 k)=true:=by obtain⟨l,hc,_,_,ko,nt⟩:=I3 hs;obtain⟨I,kQ⟩:=CA s.length s l (atQ _) hc;obtain⟨ta,q1,yR⟩:=N1 v hc bd;(have aiK:l≠[46]:=λe=>by subst e;(have:s=[46]:=by rw[<-I];decide +kernel);rw[this]at hs;revert hs;decide +kernel);(have aiL:l≠[46,46]:=λe=>by subst e;(have:s=[46,46]:=by rw[<-I];decide +kernel);rw[this]at hs;revert hs;decide +kernel);obtain⟨Je,Jf⟩:=N2 (v:=v) (bd:=bd) kQ;(have Ou:1<=(gV v l bd).1.length/\(gV v l bd).1.length<=64/\(v=1->(gV v l bd).2.length<=16)/\((gV v l bd).2=[]->v=1->(gV v l bd).1=l):=by have N:=Ot l;unfold gV;split;rename_i h;refine⟨by simp;omega,by simp;omega,λh1=>?_,λA=>?_⟩;rcases h.2.2.2 with Z|Z;omega;simp;omega;intro _;rw[List.drop_eq_nil_iff]at A;omega;split;rename_i h;exact⟨by simp;omega,by simp;omega,λ_=>by simp,λ_ h1=>absurd h.2.1 atw⟩;exact⟨ko,nt,λ_=>by simp,λ_ _=>rfl⟩);(have cz:fR v s bd=((gV v l bd).1.map (e3 v),if(gV v l bd).2=[]then[]else 46::((gV v l bd).2.map (e3 v)).take (j_ v)):=axC);rw[cz];generalize(gV v l bd).1=a at*;generalize(gV v l bd).2=b at*;dsimp only;obtain⟨Hw,CI,Ov,oM⟩:=Ou;(have lm:∀r∈a.map (e3 v),em r=true/\r≠47:=λr ae=>by obtain⟨x,F,rfl⟩:=aub.1 ae;exact⟨I9 (Je x F),WR v x⟩);generalize mU:(if b=[]then[]else 46::(b.map (e3 v)).take (j_ v))=cp;(have aiM:(∀r∈cp,em r=true/\r≠47)/\(cp=[]\/2<=cp.length)/\(v=0->cp.length<=4)/\(v=1->cp.length<=17)/\(cp=[]->b=[]):=by rw[<-mU];by_cases h:b=[];rw[atI h];exact⟨λr ae=>by(cases ae),.inl rfl,λ_=>by(simp),λ_=>by(simp),λ_=>h⟩;rw[atH h];(have eW:1<=b.length:=by cases b with|nil=>exact absurd rfl h|cons x r=>simp);refine⟨λr ae=>?_,.inr ?_,λh0=>?_,λh1=>?_,λe=>by cases e⟩;rcases at5.1 ae with rfl|ae;exact⟨by decide,by decide⟩;obtain⟨x,F,rfl⟩:=aub.1 (auO ae);exact⟨I9 (Jf x F),WR v x⟩;(have:1<=j_ v:=by unfold j_;split<;>omega);simp;omega;(have:j_ v=3:=by unfold j_;rw[atI h0]);simp;omega;have:=Ov h1;simp;omega);obtain⟨Cs,FA,aiN,aiO,aiP⟩:=aiM;have gS:=Oq Y;have Jg:=FX Y;(have a6:jr v (a.map (e3 v)) cp k<=a.length/\1<=jr v (a.map (e3 v)) cp k/\jr v (a.map (e3 v)) cp k+(iK k).length+cp.length<=64/\(v=1->k=0->cp=[]->jr v (a.map (e3 v)) cp k=a.length):=by unfold jr oh;rw[atL];rcases X with rfl|rfl;have:=aiN rfl;rw[show((0:Int)==1)=false from rfl,auW];refine⟨by split<;>split<;>omega,by split<;>split<;>omega,by split<;>split<;>omega,λh=>by omega⟩;have:=aiO rfl;rw[show((1:Int)==1)=true from rfl,avq];refine⟨by split<;>split<;>omega,by split<;>split<;>omega,by split<;>split<;>omega,λ_ h0 h1=>?_⟩;subst h0 h1;have:(iK 0).length=0:=rfl;rw[this];simp only[auh];split<;>split<;>omega);obtain⟨hV,jh,qi,V2⟩:=a6;rw[j'];(have iV:((a.map (e3 v)).take (jr v (a.map (e3 v)) cp k)).length=jr v (a.map (e3 v)) cp k:=by simp;omega);generalize hN:jr v (a.map (e3 v)) cp k=bD at*;(have ht:∀r∈(a.map (e3 v)).take bD++iK k++cp,em r=true/\r≠47:=λr ae=>by rcases aue.1 ae with ae|ae;rcases aue.1 ae with ae|ae;exact lm r (auO ae);have:=gS r ae;exact⟨(sa r).2 atw,by omega⟩;exact Cs r ae);(have hlen:((a.map (e3 v)).take bD++iK k++cp).length=bD+(iK k).length+cp.length:=by rw[atP,atP,iV]);(have HU:∀m:Nat,1<=m->m<=2->(a.map (e3 v)).take bD++iK k++cp=List.replicate m 46->l=List.replicate m 46:=λm mq qQ e=>by have fq:=atJ List.length e;rw[hlen,aw3]at fq;(have rC:cp=[]:=by rcases FA with h|h;exact h;omega);have aiQ:=aiP rC;(have jO:k=0:=by rcases auF k with h|h;exact h;exfalso;have h1:=aiI Y h;(obtain⟨x,F⟩:∃x,x∈iK k:=by cases aiR:iK k with|nil=>rw[aiR]at h1;simp at h1|cons x r=>exact⟨x,atU⟩);have A:=gS x F;(have Z:x∈List.replicate m (46:Int):=by rw[<-e];simp[F]);have:=(List.mem_replicate.1 Z).2;omega);subst jO rC;have hsz:(iK 0)=[]:=rfl;rw[hsz,auG,auG]at e;rcases X with rfl|rfl;exfalso;(cases a with|nil=>simp at Hw|cons x r =>obtain⟨WS,rfl⟩:∃WS,bD=WS+1:=⟨bD-1,by omega⟩;(have Z:e3 0 x∈List.replicate m (46:Int):=by rw[<-e];simp);have aG:=(List.mem_replicate.1 Z).2;exact(WQ x).2 (by simpa[e3]using aG));have aiS:=V2 rfl rfl rfl;rw[aiS,aug aty]at e;have pj:a=l:=oM aiQ rfl;subst pj;(have x3:∀x∈a,x=46:=λx F=>by(have Z:e3 1 x∈List.replicate m (46:Int):=by rw[<-e];exact aub.2 ⟨x,F,rfl⟩);have aG:=(List.mem_replicate.1 Z).2;(have bb:ll x=46:=by simpa[e3]using aG);unfold ll at bb;split at bb;omega;exact bb);refine List.eq_replicate_iff.2 ⟨?_,x3⟩;have:=atJ List.length e;simpa using this);refine aiG (λr ae=>(ht r ae).1) (by rw[hlen];omega) (by rw[hlen];omega) (λhm=>(ht 47 hm).2 rfl) (λe=>?_) (λe=>?_);exact aiK (HU 1 atw atw e);exact aiL (HU 2 atw atw e)
variable{gp:List atG}
theorem aiT{v:Int}(X:j5 v=true){k:ad}(Y:dX k.name=true)(gn:gp.length<=64):dX (q2 v gp k)=true:=by unfold q2;split;rename_i h;exact aiJ h Y (k.kind==0) (CD v gp _ _ gn).1;exact Y
theorem aiU{v:Int}(X:j5 v=true)(ag:List ad):ag.length<=64->(∀k∈ag,dX k.name=true)->∀m∈hb v ag,dX m=true:=by refine xf (p:=λag=>ag.length<=64->(∀k∈ag,dX k.name=true)->∀m∈hb v ag,dX m=true) (λ_ _ m hm=>by simp[hb]at hm) (λl x aZ al h m hm=>?_) ag;simp at al;rw[xg]at hm;rcases at5.1 hm with rfl|hm;exact aiT X (h x aty) (by rw[td];omega);exact aZ atw (λk Y=>h k (by simp[Y])) m hm
theorem WT{v:Int}(X:j5 v=true)(hn:ag.length<=64)(h:∀k∈ag,dX k.name=true):∀m∈cg v ag,dX m=true:=λm hm=>aiU X ag hn h m (aw0.1 hm)
theorem aiV(v:Int){l:List Int}(h:∀r∈l,em r=true)(bd:Bool): fR v (cy l) bd=((gV v l bd).1.map (e3 v),if(gV v l bd).2=[]then[]else 46::((gV v l bd).2.map (e3 v)).take (j_ v)):=by obtain⟨ta,q1,yR⟩:=N1 v (yQ l h) bd;exact axC
def aiW(l:List Int):Prop:=(∀r∈l,em r=true/\ll r=r)/\l.length<=64
structure aiX (bd:Bool) (l:List Int) (a b:List Int):Prop where
 gR:1<=a.length
 zY:a.length<=8
 eR:b.length<=3
 bs:∀r∈a,em r=true/\hZ r=r
 cb:∀r∈b,em r=true/\hZ r=r
 bd:bd=true->b=[]
 eq:l=if b=[]then a else a++46::b
theorem WU(h:em r=true):hZ (hZ r)=hZ r:=by obtain⟨h1,_,_⟩:=(sa r).1 h;by_cases A:97<=r/\r<=122;(have e:hZ r=r-97+65:=by rw[hZ,atI A]);rw[e,hZ,atH atw,atI ⟨by omega,by simp[uy];omega⟩];by_cases Z:r<128/\uy r=true;(have e:hZ r=r:=by rw[hZ,atH A,atI Z]);rw[e,e];(have e:hZ r=95:=by rw[hZ,atH A,atH Z]);rw[e];decide
theorem aiY(r:Int):ll (ll r)=ll r:=by by_cases h:yO r=true;(have e:ll r=95:=by rw[ll,atI h]);rw[e];decide;(have e:ll r=r:=by rw[ll,atH h]);rw[e,e]
theorem WV(h:48<=r/\r<=57):em r=true/\hZ r=r/\ll r=r:=by refine⟨(sa r).2 atw,?_,?_⟩;rw[hZ,atH atw,atI ⟨by omega,by simp[uy];omega⟩];rw[ll,atH];simp[yO];omega
theorem aiZ{v:Int}(X:v=0\/v=1)(hs:dX s=true)(bd:Bool)(Y:k<100):
  ∃l,j' v (fR v s bd).1 (fR v s bd).2 k=cy l/\(v=0->∃a b,aiX bd l a b)/\aiW l:=by
 obtain⟨l,hc,_,_,ko,nt⟩:=I3 hs;obtain⟨I,kQ⟩:=CA s.length s l (atQ _) hc;obtain⟨Je,Jf⟩:=N2 (v:=v) (bd:=bd) kQ;have cz:=aiV v kQ bd;rw[I]at cz
 have Ou:1<=(gV v l bd).1.length/\(v=1->(gV v l bd).2.length<=16)/\(bd=true->(gV v l bd).2=[]):=by
  have N:=Ot l;unfold gV;split
  ·rename_i h;refine⟨by simp;omega,λh1=>?_,λA=>?_⟩
   ·rcases h.2.2.2 with Z|Z
    ·omega
    simp;omega
   rw[h.1]at A;cases A
  split
  ·rename_i h;exact⟨by simp;omega,λ_=>by simp,λ_=>rfl⟩
  exact⟨ko,λ_=>by simp,λ_=>rfl⟩
 rw[cz];generalize(gV v l bd).1=a at*;generalize(gV v l bd).2=b at*;obtain⟨Hw,Ov,vX⟩:=Ou;dsimp only;refine⟨_,rfl,λh0=>?_,?_⟩
 ·subst h0;have gS:=Oq Y;have Jg:=FX Y
  have a6:jr 0 (a.map (e3 0)) (if b=[]then[]else 46::(b.map (e3 0)).take (j_ 0)) k+(iK k).length<=8/\1<=jr 0 (a.map (e3 0)) (if b=[]then[]else 46::(b.map (e3 0)).take (j_ 0)) k:=by
   unfold jr oh;rw[atL,show((0:Int)==1)=false from rfl,auW];refine⟨by split<;>split<;>omega,by split<;>split<;>omega⟩
  generalize jr 0 (a.map (e3 0)) (if b=[]then[]else 46::(b.map (e3 0)).take (j_ 0)) k=bD at*;have ai0:j_ 0=3:=by decide
  rw[ai0]
  have F5:∀x:List Int,(∀r∈x,em r=true)->∀r∈x.map (e3 0),em r=true/\hZ r=r:=λx F r ae=>by
   obtain⟨y,hy,rfl⟩:=aub.1 ae;have e:e3 0 y=hZ y:=by simp[e3]
   rw[e];exact⟨by have:=I9 (v:=0) (F y hy);rwa [e]at this,WU (F y hy)⟩
  refine⟨(a.map (e3 0)).take bD++iK k,(b.map (e3 0)).take 3,?_⟩;refine⟨by simp;omega,by simp;omega,by simp;omega,λr ae=>?_,λr ae=>F5 b Jf r (auO ae),λN=>by rw[vX N];rfl,?_⟩
  ·rcases aue.1 ae with ae|ae
   ·exact F5 a Je r (auO ae)
   have:=WV (gS r ae);exact⟨this.1,this.2.1⟩
  by_cases oM:b=[]
  ·subst oM;simp
  have B9:¬(b.map (e3 0)).take 3=[]:=by
   cases b with
   |nil=>exact absurd rfl oM
   |cons x r=>simp
  rw[atH oM,atH B9]
 have gS:=Oq Y;have Jg:=FX Y
 have F5:∀x:List Int,(∀r∈x,em r=true)->∀r∈x.map (e3 v),em r=true/\ll r=r:=λx F r ae=>by
  obtain⟨y,hy,rfl⟩:=aub.1 ae;refine⟨I9 (F y hy),?_⟩;unfold e3;split
  ·
   have h1:=WU (F y hy);rw[ll,atH];intro nj;generalize hZ y=V at*;have bC:V=42\/V=47\/V=58\/V=59\/V=63\/V=92:=by simp[yO]at nj;omega
   rcases bC with rfl|rfl|rfl|rfl|rfl|rfl<;>revert h1<;>decide
  exact aiY y
 have rC:∀r∈(if b=[]then[]else 46::(b.map (e3 v)).take (j_ v)),em r=true/\ll r=r:=λr ae=>by
  split at ae
  ·cases ae
  rcases at5.1 ae with rfl|ae
  ·exact⟨by decide,by decide⟩
  exact F5 b Jf r (auO ae)
 have ai1:(if b=[]then[]else 46::(b.map (e3 v)).take (j_ v)).length<=17/\(v=0->(if b=[]then[]else 46::(b.map (e3 v)).take (j_ v)).length<=4):=by
  split
  ·simp
  refine⟨?_,λh0=>?_⟩
  ·rcases X with h0|h1
   ·have:j_ v=3:=by unfold j_;rw[atI h0]
    simp;omega
   have:=Ov h1;simp;omega
  have:j_ v=3:=by unfold j_;rw[atI h0]
  simp;omega
 generalize(if b=[]then[]else 46::(b.map (e3 v)).take (j_ v))=cp at*
 have a6:jr v (a.map (e3 v)) cp k+(iK k).length+cp.length<=64:=by
  unfold jr oh;rw[atL];rcases X with rfl|rfl
  ·have:=ai1.2 rfl;rw[show((0:Int)==1)=false from rfl,auW];split<;>split<;>omega
  rw[show((1:Int)==1)=true from rfl,avq];split<;>split<;>omega
 refine⟨λr ae=>?_,by simp;omega⟩;rcases aue.1 ae with ae|ae
 ·rcases aue.1 ae with ae|ae
  ·exact F5 a Je r (auO ae)
  have:=WV (gS r ae);exact⟨this.1,this.2.2⟩
 exact rC r ae
theorem F6{f:Nat->Int}:∀{k i:Nat},(∀j,i<=j->j<i+k->f j=0)->g8 f i k=0
 |0,i,_=>rfl
 |k+1,i,h=>by simp only[g8];rw[atI (h i (atQ _) atw)];exact F6 λj h1 A=>h j atw atw
theorem ai2{n:ad}{l:Int}(h:NP n l)(al:1<=l):one n l=0:=by refine F6 λi _ hi=>?_;have Y:=h.IY;match i,hi with|0,_ =>(have:ub n l=false:=by simp only[ub,avh,avk,avn,auA,avE,avp];refine⟨⟨by omega,by omega⟩,?_⟩;by_cases h1:l=1;exact .inr (h.FQ h1);exact .inl h1);simp[eO,vD,this]|1,_ =>(have:uc n l=false:=by simp only[uc,avh,avk,avn,auA,avE,avp];by_cases h1:l=1;exact⟨.inr (h.FR h1),.inl atw⟩;exact⟨.inl h1,.inr (h.IZ atw)⟩);simp[eO,vE,this]|2,_ =>(have:ud n=false:=by simp only[ud,avh,avk,avn,auA,avE,avp];refine⟨⟨?_,?_⟩,?_⟩;by_cases h1:n.kind=1;exact .inl h1;have:=h.file h1;exact .inr ⟨this.1,by rw[this.2];simp⟩;by_cases h1:n.kind=2;exact .inl h1;exact .inr (h.I0 h1);by_cases h1:n.kind=0;exact .inl h1;exact .inr (by rw[h.bd h1];simp));simp[eO,vF,this]|3,_ =>(have:ue n=false:=by simp only[ue,avk,auA,avE];by_cases h1:n.kind=2;exact .inr (h.target h1);exact .inl h1);simp[eO,vG,this]|4,_ =>have h1:=h.cN;have A:=h.n2;have Z:=h.n3;have aG:=h.n4;have bb:=h.n5;have cL:=h.n6;(have:r0 n=false:=by simp only[r0,sY,avh,avE,atN,aut];exact⟨⟨⟨⟨⟨h1,A⟩,Z⟩,aG⟩,bb⟩,cL⟩);simp[eO,vH,this]|5,_ =>have h1:=h.bY;have A:=h.size;have Z:=h.FS;have aG:=h.FT;(have hc:r1 n l=false:=by simp only[r1,avh,avn];exact⟨⟨⟨by omega,by omega⟩,by omega⟩,by omega⟩);simp only[eO,nv,hc];rw[atH aty];refine F6 λj _ aa=>?_;have:=(h.bO j atw).1;simp[pr];omega|6,_ =>simp only[eO,Cj];exact F6 λj _ aa=>(h.bO j atw).2|7,_ =>simp only[eO,yy];refine F6 λj h1 aa=>?_;have bf:=h.gN (j-1) atw;(have e:j-1+1=j:=by omega);rw[e]at bf;have BF:Op.bytesLess (qa n (j-1)).name (qa n j).name=true:=bf;simp only[r2,p'];rw[atH (s1 BF),atH (by rw[Fc BF];simp)]
mutual
theorem Ow(aX:List ad->List atG)(v:Int):∀(n:ad) (d:Int),fC (jq aX v d n)<=fC n
 |.mk a b c t e f g h i j ag cC,d=>by
  have h1:=WW aX v ag (aX ag) (d+1);have A:eY (mw (fQ aX v (d+1) ag (aX ag)))=eY (fQ aX v (d+1) ag (aX ag)):=ai3 (AF _);simp only[jq,fC];omega
theorem WW(aX:List ad->List atG)(v:Int):∀(l:List ad) (cR:List atG) (d:Int),eY (fQ aX v d l cR)<=eY l
 |[],cR,d=>by simp[fQ]
 |k::r,[],d=>by simp[fQ,eY]
 |k::r,m::cR,d=>by
  have h1:=Ow aX v k d;have A:=WW aX v r cR d;have Z:fC ((jq aX v d k).named m)=fC (jq aX v d k):=by rw[EJ,EJ];rfl
  simp only[fQ];split
  ·simp only[eY];omega
  simp only[eY];omega
theorem ai3{a b:List ad}(h:a.Perm b):eY a=eY b:=by
 induction h with
 |nil=>rfl
 |cons x _ aZ=>simp only[eY,aZ]
 |swap x y l=>simp only[eY];omega
 |trans _ _ h1 A=>exact h1.trans A
end
mutual
theorem WX{v:Int}(X:j5 v=true):∀(n:ad) (l:Int) (m:atG),1<=l->iJ n l=true->(l=1->m=[])->(1<l->dX m=true)->iJ ((jq (cg v) v l n).named m) l=true
 |.mk a b c t e f g h i j ag cC,l,m,al,aW,mq,qQ=>by
  obtain⟨cd,a1⟩:=AG aW;have cD:=NR _ l al aW;simp only[im]at cD;have p_:=WY X ag (cg v ag) (l+1) atw a1 λx F=>WT X cD.1 (λk Y=>(qZ cD.2.2.2 Y).1.1) x F;have ay:=AF (fQ (cg v) v (l+1) ag (cg v ag));have hlen:=FO (cg v) v (l+1) ag (cg v ag)
  have kW:((fQ (cg v) v (l+1) ag (cg v ag)).map ad.name).Nodup :=
   (NL (cg v) v (l+1) ag (cg v ag)).nodup (ai4 X cD.1 cD.2.2.1)
  rw[IW,atN];refine⟨?_,V1 λk Y=>?_⟩
  ·rw[avp];refine ai2 ?_ al;rw[FM];have hn:ag.length<=64:=cd.FS;have iT:∀(P:List np->Prop),P cC->P []->P (if v=3 then cC else[]):=λP h1 A=>by split<;>assumption
   exact{
    IY:=cd.IY
    FQ:=cd.FQ
    FR:=mq
    IZ:=qQ
    file:=λh1=>⟨(cd.file h1).1,iT (λx=>x=[]) (cd.file h1).2 rfl⟩
    I0:=cd.I0
    bd:=λh1=>by
     have:ag=[]:=cd.bd h1;subst this;show mw (fQ (cg v) v (l+1) [] (cg v []))=[];simp[fQ,mw]
    target:=cd.target
    cN:=by have:=cd.cN;show 0<=(if keeps v=true then e else 0)/\(if keeps v=true then e else 0)<=4095;split<;>omega
    n2:=by have:=cd.n2;show 0<=(if keeps v=true then f else 0)/\(if keeps v=true then f else 0)<=65535;split<;>omega
    n3:=by have:=cd.n3;show 0<=(if keeps v=true then g else 0)/\(if keeps v=true then g else 0)<=65535;split<;>omega
    n4:=cd.n4
    n5:=by show(-1048576:Int)<=0/\(0:Int)<=1048576;omega
    n6:=by show(0:Int)<=0/\(0:Int)<=15;omega
    bY:=cd.bY
    size:=cd.size
    FS:=by show(mw (fQ (cg v) v (l+1) ag (cg v ag))).length<=64;rw[ay.length_eq];omega
    FT:=by have:cC.length<=4:=cd.FT;show(if v=3 then cC else[]).length<=4;split<;>first|omega|simp
    bO:=λi hi=>by
     have hs:=cd.bO;by_cases Z:v=3
     ·subst Z;exact hs i hi
     exfalso
     have:(if v=3 then cC else([]:List np))=[]:=atH Z;have lN:i<(if v=3 then cC else([]:List np)).length:=hi;rw[this]at lN;simp at lN
    gN:=VX kW}
  have fH:k∈mw (fQ (cg v) v (l+1) ag (cg v ag)):=by
   rw[FM]at Y;exact Y
  exact p_ k (ay.subset fH)
theorem WY{v:Int}(X:j5 v=true):∀(ag:List ad) (cR:List atG) (l:Int),2<=l->m6 ag l=true->(∀m∈cR,dX m=true)->∀k∈fQ (cg v) v l ag cR,iJ k l=true
 |[],cR,l,_,_,_=>by simp[fQ]
 |k::r,[],l,_,_,_=>by simp[fQ]
 |k::r,m::cR,l,al,aW,hm=>by
  simp only[m6,atN]at aW;intro x F;have aZ:=WY X r cR l al aW.2 λy hy=>hm y (atY _ hy);simp only[fQ]at F;split at F
  ·rcases at5.1 F with rfl|F
   ·exact WX X k l m atw aW.1 (λe=>by omega) λ_=>hm m atU
   exact aZ x F
  exact aZ x F
theorem ai4{v:Int}(X:j5 v=true){ag:List ad}(hn:ag.length<=64)(hi:gN ag):(cg v ag).Nodup:=by
 rcases Ww X with h|h|h|h
 ·rw[I_ (.inl h),uA,auH,aw2];exact(auH.1 (N6 v ag hn)).imp Ne.symm
 ·rw[I_ (.inr h),uA,auH,aw2];exact(auH.1 (N6 v ag hn)).imp Ne.symm
 ·rw[F2 (.inl h)];exact CH hi
 rw[F2 (.inr h)];exact CH hi
end
theorem ai5{v:Int}(X:j5 v=true){n:ad}(h:valid n=true):valid (jq (cg v) v 1 n)=true:=by
 have aw:=ai6 h;rw[vW,atN,aut]at h⊢;have h1:=Ow (cg v) v n 1;have A:=WX X n 1 [] (auN _) h.2 (λ_=>rfl) (λe=>absurd e atw);have e:(jq (cg v) v 1 n).named []=jq (cg v) v 1 n:=by rw[FM];simp only[ad.named,aw]
 rw[e]at A;exact⟨by omega,A⟩
where
 ai6 {n:ad} (h:valid n=true):n.name=[]:=by
  rw[vW,atN]at h;exact(AG h.2).1.FR rfl
theorem ai7{v:Int}(av:t<ag.length):(cg v ag)[t]'(by rw[oi];exact av)=q2 v (hb v (ag.take t)) ag[t]:=by(have e:∀ag:List ad,∀m,m<=ag.length->(hb v ag).reverse.take m=(hb v (ag.take m)).reverse:=axf);have A:=e ag (t+1) atw;(have Z:(cg v ag)[t]?=((cg v ag).take (t+1))[t]?:=by rw[auB,atI atw]);have aG:(cg v ag).take (t+1)=(hb v (ag.take (t+1))).reverse:=A;rw[aG,N' av,avJ,auo (by simp[td];omega)]at Z;(have bb:(hb v (ag.take t)).reverse.length=t:=by simp[td];omega);rw[bb,awx,atK (by rw[oi];exact av)]at Z;simpa using Z
section
variable(aX:List ad->List atG)(v:Int)
end
end Go.bR.ck


namespace Go.bR.ck
open Go Go.Proofs
variable{B:World}
theorem WZ(a1:db B)(s p:atG)(hs:s.length<4294967281):aU B 295 [.O s,.O p] (.bp [.O (Lib.cut s p).1,.O (Lib.cut s p).2.1,.bool (Lib.cut s p).2.2]):=by obtain⟨m,hm⟩:=a1.TL;exact .zK (jn Tryz.func295 rfl atA) rfl λw I=>(Tryz.strings_Cut ⟨⟨s⟩⟩ ⟨⟨p⟩⟩ m w hs (EZ I hm)).mono λe w' ⟨ao,n,cz⟩=>by subst cz;exact⟨_,ao,λC=>.bp _ _ rfl λi d v N X=>by match i with|0=>cases N;cases X;exact .O _|1=>cases N;cases X;exact .O _|2=>cases N;cases X;exact .bool _|i+3=>simp at N,⟨rfl,rfl,rfl,atQ _,λ_ _=>rfl⟩⟩
def F7(s p:atG):atG×Bool:=if Lib.hasSuffix s p then(s.take (s.length-p.length),true)else(s,false)
def oj(s:atG)(m:Int):Bool:=decide ((1:Int)<=s.length)&&(decide ((s.length:Int)<=m)&&uz s)
theorem W0(s:atG)(m:Int):aU B 316 [.O s,u m] (.bool (oj s m)):=by refine bA Tryz.func316 Tryz.ntmps316 λU=>?_;refine go ?_;refine bs (V8 s) ?_;refine aq.of_eq (atJ D.bool ?_);unfold oj;by_cases h1:(1:Int)<=s.length<;>by_cases A:(s.length:Int)<=m<;>simp[h1,A]
def v1(s:atG)(bd:Bool):Bool:=!((Lib.cut s [46]).2.2&&(bd||!oj (Lib.cut s [46]).2.1 3))&&oj (Lib.cut s [46]).1 8
theorem ai8(a1:db B)(s:atG)(bd:Bool)(hs:s.length<1000000000):aU B 275 [u 0,.O s,.bool bd] (.bool (v1 s bd)):=by refine bA Tryz.func275 Tryz.ntmps275 λU=>?_;apply b4;refine nn ?_;apply b4;refine W.cond true rfl (λhc=>?_) (λhc=>by cases hc);refine go ?_;refine bs (WZ a1 s [46] atw) ?_;refine bs (W0 _ 3) ?_;refine aK _ rfl ?_ ?_<;>intro hc;refine go ?_;(have oa:((Lib.cut s [46]).2.2&&(bd||!oj (Lib.cut s [46]).2.1 3))=true:=by revert hc;cases(Lib.cut s [46]).2.2<;>cases bd<;>simp);refine aq.of_eq (atJ D.bool ?_);rw[v1,oa];rfl;refine go ?_;refine bs (W0 _ 8) ?_;(have oa:((Lib.cut s [46]).2.2&&(bd||!oj (Lib.cut s [46]).2.1 3))=false:=by revert hc;cases(Lib.cut s [46]).2.2<;>cases bd<;>simp);refine aq.of_eq (atJ D.bool ?_);rw[v1,oa];rfl
def yZ(s:atG):Bool:=decide (0<=Lib.indexByte s 46)
def ka(s:atG)(bd:Bool):atG×Int :=
 if v1 s bd=true then if bd=true then(s,0)else if yZ s=true then(s++[59,49],0)else(s++[46,59,49],0)else([],4)
theorem W1(a1:db B)(s:atG)(bd:Bool)(hs:s.length<1000000000):aU B 225 [.O s,.bool bd] (.bp [.O (ka s bd).1,u (ka s bd).2]):=by refine bA Tryz.func225 Tryz.ntmps225 λU=>?_;refine go ?_;refine bs (ai8 a1 s bd hs) ?_;refine aK _ rfl ?_ ?_<;>intro hc;refine go ?_;(have h:¬v1 s bd=true:=by simpa using hc);rw[ka,atH h];exact ar;refine go ?_;(have h:v1 s bd=true:=by simpa using hc);refine go ?_;refine W.cond bd rfl (λN=>?_) (λN=>?_);refine go ?_;rw[ka,atI h,atI N];exact ar;refine go ?_;refine bs (TN s 46) ?_;refine W.cond (yZ s) rfl (λA=>?_) (λA=>?_);refine cl ?_;refine mR ?_;rw[ka,atI h,atH (by rw[N];simp),atI A];exact ar;apply co;refine cl ?_;refine mR ?_;rw[ka,atI h,atH (by rw[N];simp),atH (by rw[A];simp)];exact ar
def F8(id m:atG)(bd:Bool):atG×Int:=if(ka m bd).2=0/\(ka m bd).1=id then(m,0)else([],4)
def Jh(id:atG)(bd:Bool):atG×Int :=
 if bd=true then F8 id id bd else if(F7 id [59,49]).2=true then F8 id (Lib.trimSuffix (F7 id [59,49]).1 [46]) bd else([],4)
end Go.bR.ck
