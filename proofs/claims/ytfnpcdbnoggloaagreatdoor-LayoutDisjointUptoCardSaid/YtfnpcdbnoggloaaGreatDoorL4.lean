/- Contracts of the program's functions, part 4. No conditions of its own. -/
import Derived.Test.YtfnpcdbnoggloaaGreatDoorL3
import Derived.Lib.MapLaws
import Derived.Lib.TrimUEq
set_option linter.unnecessarySimpa false
set_option linter.unusedSimpArgs false
set_option linter.unusedVariables false
set_option maxRecDepth 100000
set_option maxHeartbeats 16000000
namespace Go.bS.cp
open Go Go.Proofs
variable{B:World}
def ad.named(n:ad)(s:atE):ad:={n with name:=s}
def keeps(v:Int):Bool:=v==2||v==3
def mN(l:List ad):List ad:=l.mergeSort λa b=>!Op.bytesLess b.name a.name
mutual
def jG(aW:List ad->List atE)(v d:Int):ad->ad
 |.mk a b c t e f g h _ _ ah cE=>.mk a b c t (if keeps v then e else 0) (if keeps v then f else 0) (if keeps v then g else 0) h 0 0 (mN (fQ aW v (d+1) ah (aW ah))) (if v=3 then cE else[])
def fQ(aW:List ad->List atE)(v d:Int):List ad->List atE->List ad
 |k::r,m::cO=>if lA v k d then(jG aW v d k).named m::fQ aW v d r cO else fQ aW v d r cO
 |_,_=>[]
end
section
variable(aW:List ad->List atE)(v d:Int)
theorem FU(n:ad):jG aW v d n=⟨n.name,n.kind,n.dB,n.target,if keeps v then n.cL else 0,if keeps v then n.n2 else 0,if keeps v then n.n3 else 0,n.n4,0,0,mN (fQ aW v (d+1) n.J (aW n.J)),if v=3 then n.bK else[]⟩:=by cases n;simp only[jG]
theorem ahk(n:ad)(m:atE):jG aW v d (n.named m)=(jG aW v d n).named m:=by cases n;simp only[ad.named,jG]
theorem FV(n:ad)(m:atE):aB (n.named m)=aB n:=by cases n;simp only[ad.named,aB]
theorem N6:∀{l:List ad} {cO:List atE} {i:Nat} (h:i<l.length) (bq:i<cO.length),fQ aW v d (l.take (i+1)) (cO.take (i+1))=fQ aW v d (l.take i) (cO.take i)++(if lA v l[i] d then[jG aW v d (l[i].named cO[i])]else[])
 |k::r,m::cO,0,_,_=>by simp[fQ,ahk]
 |k::r,m::cO,i+1,h,bq=>by have:=N6 (l:=r) (cO:=cO) (i:=i) (by simpa using h) (by simpa using bq);simp only[avr,fQ,au6];rw[this];split<;>simp
theorem FW:∀(l:List ad) (cO:List atE),(fQ aW v d l cO).length<=l.length
 |[],cO=>by simp[fQ]
 |k::r,[]=>by simp[fQ]
 |k::r,m::cO=>by have:=FW r cO;simp only[fQ];split<;>simp<;>omega
theorem N7:∀(l:List ad) (cO:List atE),((fQ aW v d l cO).map ad.name).Sublist cO
 |[],cO=>by simp[fQ]
 |k::r,[]=>by simp[fQ]
 |k::r,m::cO=>by have:=N7 r cO;simp only[fQ];split;simp only[aum];exact this.cons_cons m;exact this.cons m
end
theorem AS(l:List ad):(mN l).Perm l:=awK l _
theorem N8(l:List ad):(mN l).Pairwise λa b=>Op.bytesLess b.name a.name=false:=by
 have h:=awj (le:=λa b:ad=>!Op.bytesLess b.name a.name) (λa b c h1 z=>by
  have aa:Op.bytesLess b.name a.name=false:=by simpa using h1
  have aC:Op.bytesLess c.name b.name=false:=by simpa using z
  have:Op.bytesLess c.name a.name=false:=by
   cases a_:Op.bytesLess c.name a.name with
   |false=>rfl
   |true =>
    exfalso
    cases cC:Op.bytesLess a.name b.name with
    |true=>rw[CD _ _ _ a_ cC]at aC;cases aC
    |false=>rw[w9 _ _ cC aa]at a_;rw[a_]at aC;cases aC
  simpa using this) (λa b=>by
  cases h1:Op.bytesLess b.name a.name with
  |false=>rfl
  |true=>simp[Fk h1]) l
 exact h.imp λ{a b} h=>by simpa using h
theorem VY{l:List ad}(h:(l.map ad.name).Nodup):gP (mN l):=by have h1:=N8 l;have z:((mN l).map ad.name).Nodup:=((AS l).map _).nodup_iff.2 h;apply ahi;have aa:=au_.1 (auE.1 z);exact(h1.and aa).imp λ{a b} ⟨aC,a_⟩=>by cases cC:Op.bytesLess a.name b.name with|true=>rfl|false=>exact absurd (w9 _ _ cC aC) a_
theorem ahl{l:List ad}(h:gP l):mN l=l :=
 ND h (AS l) λi j hi Z d7=>auG.1 (N8 l) i j hi Z d7
theorem ahm(dv:List ad)(h:(dv.map ad.name).Nodup)(hlen:dv.length<1000000)(v:Value): cV B 350 [.an v,.fn (.func 351) [] []] (aK [(2001,.row v (dv.map aH) 12 44)]) λd aM => d=.bl []/\aM=aK [(2001,.row v ((mN dv).map aH) 12 44)]:=by by_cases h0:0<dv.length;refine(ae0 (B:=B) dv h0 hlen v).mono ?_;rintro d aM ⟨rfl,AD,au,hs,rfl⟩;rw[ND (VY h) (au.trans (AS dv).symm) hs];exact⟨rfl,rfl⟩;have av:dv=[]:=atY atv;subst av;(have:mN []=[]:=by simp[mN]);rw[this];exact ahj v _
mutual
def iv:ad->Prop
 |.mk _ _ _ _ _ _ _ _ _ _ ah cE=>ah.length<=64/\cE.length<1000000000/\gP ah/\xg ah
def xg:List ad->Prop
 |[]=>True
 |k::r=>((dT k.name=true/\k.name.length<1000000000)/\iv k)/\xg r
end
theorem rb:∀{l:List ad} (_:xg l) {k:ad} (_:k∈l),(dT k.name=true/\k.name.length<1000000000)/\iv k
 |x::r,h,k,X=>by simp only[xg]at h;rcases at6.1 X with rfl|X;exact h.1;exact rb h.2 X
theorem tf(n:ad):iv n↔n.J.length<=64/\n.bK.length<1000000000/\gP n.J/\xg n.J:=by cases n;simp only[iv]
theorem ahn(n:ad)(m:atE):iv (n.named m)↔iv n:=by simp only[tf,ad.named]
structure CR (B:World) (v:Int) (aW:List ad->List atE):Prop where
 call:∀ah:List ad,ah.length<=64->gP ah->(∀k∈ah,dT k.name=true/\k.name.length<1000000000)->
  aS B 182 [u v,.Q .none 12 (ah.map enc)] (.bl [.Q .none 1 (aU (aW ah)),u 0])/\(aW ah).length=ah.length/\(aW ah).Nodup/\∀m∈aW ah,m.length<=1100
def CS(p m:atE)(b:Bool):atE:=if b=true then m else p++[47]++m
theorem VZ(p m:atE)(b:Bool):(CS p m b).length<=p.length+1+m.length:=by simp only[CS];split<;>simp<;>omega
theorem aho(aW:List ad->List atE)(v:Int)(nk:CR B v aW):∀(bD:Nat) (n:ad),aB n<bD->iv n->∀(p q:atE) (d:Int),0<=d->d+aB n<1000000000->p.length+1200*aB n<1000000000->q.length+aB n<1000000000->aS B 310 [u v,FT n p q,u d,.fn (.func 268) [] []] (aH (jG aW v d n)):=by
 refine λbD=>Nat.rec (λn h=>absurd h (avf _)) (λbD aY n hN cv p q d N r6 au I=>?_) bD;obtain⟨hx,pd,mM,xh⟩:=(tf n).1 cv;have b5:∀k∈n.J,dT k.name=true/\k.name.length<1000000000:=λk X=>(rb xh X).1;obtain⟨D4,jS,mO,n'⟩:=nk.call n.J hx mM b5;refine bB Tryz.func310 Tryz.ntmps310 λU=>?_;refine go ?_;intro cx;refine go ?_;intro cF;refine go ?_;intro iN;refine go ?_;intro j4
 (conv=>whnf)
 refine cT ?_;refine Y.l0 (α:=Unit) (λx=>[(0,u v),(2,u d),(3,.fn (.func 268) [] []),(5,.box 5 cx 0),(8,.box 8 cF 0),(9,.box 9 iN 0),(10,.box 10 j4 0)]) (λx=>[(5,.box cx [.O n.name,u n.kind,.O n.dB,.O n.target,u n.cL,u n.n2,u n.n3,u n.n4,u n.n5,u n.n6,.Q .none 12 (n.J.map enc),.Q .none 2 (n.bK.map c5),.O p,.O q]),(8,.box cF [.O [],u 0,.O [],.O [],u 0,u 0,u 0,u 0,u 0,u 0,.bh,.bh]),(9,.box iN [.O n.name,u n.kind,.O n.dB,.O n.target,u n.cL,u n.n2,u n.n3,u n.n4,u n.n5,u n.n6,.Q .none 12 (n.J.map enc),.Q .none 2 (n.bK.map c5)]),(10,.box j4 [.O n.name,u n.kind,.O n.dB,.O n.target,u (if keeps v then n.cL else 0),u (if keeps v then n.n2 else 0),u (if keeps v then n.n3 else 0),u n.n4,u 0,u 0,.bh,.bh])]) ?_ ?_
 ·refine go ?_;refine aJ _ rfl ?_ ?_<;>intro hc
  ·have X:keeps v=true:=by
    cases h1:(v==2)with
    |true=>simp only[keeps,h1,Bool.true_or]
    |false =>
     rw[h1]at hc;simpa[keeps,h1]using hc
   rw[X];refine' eR [(5,.box cx [.O n.name,u n.kind,.O n.dB,.O n.target,u n.cL,u n.n2,u n.n3,u n.n4,u n.n5,u n.n6,.Q .none 12 (n.J.map enc),.Q .none 2 (n.bK.map c5),.O p,.O q]),(8,.box cF [.O [],u 0,.O [],.O [],u 0,u 0,u 0,u 0,u 0,u 0,.bh,.bh]),(9,.box iN [.O n.name,u n.kind,.O n.dB,.O n.target,u n.cL,u n.n2,u n.n3,u n.n4,u n.n5,u n.n6,.Q .none 12 (n.J.map enc),.Q .none 2 (n.bK.map c5)]),(10,.box j4 [.O n.name,u n.kind,.O n.dB,.O n.target,u 0,u 0,u 0,u n.n4,u 0,u 0,.bh,.bh])] () (λ_:Unit=>[_,_,_,_,_,_,_,.any,_,.any,_,.any]) (λ_=>[(7,10,some (.box j4 [.O n.name,u n.kind,.O n.dB,.O n.target,u n.cL,u 0,u 0,u n.n4,u 0,u 0,.bh,.bh])),(9,10,some (.box j4 [.O n.name,u n.kind,.O n.dB,.O n.target,u n.cL,u n.n2,u 0,u n.n4,u 0,u 0,.bh,.bh])),(11,10,some (.box j4 [.O n.name,u n.kind,.O n.dB,.O n.target,u n.cL,u n.n2,u n.n3,u n.n4,u 0,u 0,.bh,.bh]))]) [0,1,0,4,0,16,3,67,207,463,1023,2047] [(7,10),(9,10),(11,10)] ?_ ?_
   rotate_left 9
   ·refine dC ?_;refine Go.bS.cp.vs ?_;refine Go.bS.cp.vs ?_;refine Go.bS.cp.vs ?_;exact trivial
   intro _
   (conv=>whnf)
   refine go ?_;exact⟨(),[(5,5),(8,8),(9,9),(10,10)],ar,rfl,ba⟩
  refine go ?_
  have X:keeps v=false:=by
   cases h1:(v==2)with
   |true=>rw[h1]at hc;cases hc
   |false =>
    rw[h1]at hc;simpa[keeps,h1]using hc
  rw[X];exact⟨(),[(5,5),(8,8),(9,9),(10,10)],ar,rfl,ba⟩
 rintro⟨⟩;refine Y.l0 (α:={x:D // aq x (.Q .none 2 ((if v=3 then n.bK else[]).map c5))}) (λx=>[(0,u v),(2,u d),(3,.fn (.func 268) [] []),(5,.box 5 cx 0),(8,.box 8 cF 0),(9,.box 9 iN 0),(10,.box 10 j4 0)]) (λx=>[(5,.box cx [.O n.name,u n.kind,.O n.dB,.O n.target,u n.cL,u n.n2,u n.n3,u n.n4,u n.n5,u n.n6,.Q .none 12 (n.J.map enc),.Q .none 2 (n.bK.map c5),.O p,.O q]),(8,.box cF [.O [],u 0,.O [],.O [],u 0,u 0,u 0,u 0,u 0,u 0,.bh,.bh]),(9,.box iN [.O n.name,u n.kind,.O n.dB,.O n.target,u n.cL,u n.n2,u n.n3,u n.n4,u n.n5,u n.n6,.Q .none 12 (n.J.map enc),.Q .none 2 (n.bK.map c5)]),(10,.box j4 [.O n.name,u n.kind,.O n.dB,.O n.target,u (if keeps v then n.cL else 0),u (if keeps v then n.n2 else 0),u (if keeps v then n.n3 else 0),u n.n4,u 0,u 0,.bh,x.1])]) ?_ ?_
 ·refine go ?_;refine aJ _ rfl ?_ ?_<;>intro hc
  ·refine go ?_;refine br (UL n.bK pd) ?_;have Ar:v=3:=by simpa using hc
   exact⟨⟨.Q .none 2 (n.bK.map c5),by rw[atH Ar];exact E⟩,[(5,5),(8,8),(9,9),(10,10)],ar,rfl,ba⟩
  refine go ?_;have Ar:¬v=3:=by simpa using hc
  exact⟨⟨.bh,by rw[atG Ar];exact .nil⟩,[(5,5),(8,8),(9,9),(10,10)],ar,rfl,ba⟩
 rintro⟨hA,Ao⟩;refine Y.jx 10 (dt:=[.O n.name,u n.kind,.O n.dB,.O n.target,u (if keeps v then n.cL else 0),u (if keeps v then n.n2 else 0),u (if keeps v then n.n3 else 0),u n.n4,u 0,u 0,.bh,.Q .none 2 ((if v=3 then n.bK else[]).map c5)]) rfl ⟨E,E,E,E,E,E,E,E,E,E,E,Ao,ai⟩ ?_;refine lm ?_;refine⟨[FT n p q],_,λ_=>ahg n p q,ar,?_⟩;refine lm ?_;refine⟨[u v,.Q .none 12 (n.J.map enc)],_,λ_=>D4,ar,?_⟩;refine gb ?_
 (conv=>whnf)
 refine cT ?_;apply oN;refine Y.jx 10 (dt:=[.O n.name,u n.kind,.O n.dB,.O n.target,u (if keeps v then n.cL else 0),u (if keeps v then n.n2 else 0),u (if keeps v then n.n3 else 0),u n.n4,u 0,u 0,.an (.slice none 0 0),.Q .none 2 ((if v=3 then n.bK else[]).map c5)]) rfl ⟨E,E,E,E,E,E,E,E,E,E,aq.rQ,E,ai⟩ ?_;refine Y.qR 109 12 44 ?_
 refine Y.ed (α:={x:Nat×Value // x.1<=n.J.length}) (λx=>[(0,u v),(2,u d),(3,.fn (.func 268) [] []),(5,.box 5 cx 0),(8,.box 8 cF 0),(9,.box 9 iN 0),(10,.box 10 j4 0),(11,.Q .none 1 (aU (aW n.J))),(61,.Q .none 12 (n.J.map enc)),(62,u (n.J.map enc).length),(63,u x.1.1)]) (λx=>[(5,.box cx [.O n.name,u n.kind,.O n.dB,.O n.target,u n.cL,u n.n2,u n.n3,u n.n4,u n.n5,u n.n6,.Q .none 12 (n.J.map enc),.Q .none 2 (n.bK.map c5),.O p,.O q]),(8,.box cF [.O [],u 0,.O [],.O [],u 0,u 0,u 0,u 0,u 0,u 0,.bh,.bh]),(9,.box iN [.O n.name,u n.kind,.O n.dB,.O n.target,u n.cL,u n.n2,u n.n3,u n.n4,u n.n5,u n.n6,.Q .none 12 (n.J.map enc),.Q .none 2 (n.bK.map c5)]),(10,.box j4 [.O n.name,u n.kind,.O n.dB,.O n.target,u (if keeps v then n.cL else 0),u (if keeps v then n.n2 else 0),u (if keeps v then n.n3 else 0),u n.n4,u 0,u 0,.an x.1.2,.Q .none 2 ((if v=3 then n.bK else[]).map c5)]),(109,.row x.1.2 ((fQ aW v (d+1) (n.J.take x.1.1) ((aW n.J).take x.1.1)).map aH) 12 44)]) (λx=>n.J.length-x.1.1) ⟨(0,.slice none 0 0),at7 _⟩ [(5,5),(8,8),(9,9),(10,10),(109,109)]
  ⟨ar,rfl,rfl,rfl,rfl,rfl,rfl,rfl,rfl,rfl,rfl,atI (λV=>some (aI.row (.slice none 0 0) V 12 44)) (by simp[fQ]),ai⟩ ?_
 rintro⟨⟨i,gR⟩,hi⟩;dsimp only at hi⊢;refine go ?_;refine aJ _ rfl ?_ ?_<;>intro hc
 ·refine fk ?_;have aE:i<n.J.length:=by simpa using hc
  have cg:i<(aW n.J).length:=atv
  have N9:=r1 aE;have po:=n' _ (atK cg);have vB:=VZ p (aW n.J)[i] (d==1);have lD:=VZ q n.J[i].name (d==1);refine gK ?_;refine nb ?_;refine⟨aH n.J[i],λ_=>r2 aE,?_⟩;refine go ?_;intro qq;refine go ?_;refine br (Fm v _ _) ?_;refine aJ _ rfl ?_ ?_<;>intro hc
  ·apply en
   have hs:lA v n.J[i] (d+1)=true:=by
    cases h1:decide ((i:Int)<((aU (aW n.J)).length:Int))with
    |true=>rw[h1]at hc;exact hc
    |false=>rw[h1]at hc;cases hc
   apply kF;apply cD;refine ez ?_;refine⟨[.O q,.O n.J[i].name,.bool (d==1)],_,λ_=>Un _ _ _ atv,ar,?_⟩;refine ch ?_;refine⟨λ_=>by simp[aU];omega,?_⟩;refine go ?_;refine⟨.O (aW n.J)[i],λ_=>by simp[aU,cg],?_⟩
   (conv=>whnf)
   refine cT ?_;refine Y.zX aL 18 mixed atA ?_;refine go ?_;refine⟨[.O p,.O (aW n.J)[i],.bool (d==1)],_,λ_=>Un _ _ _ atv,ar,?_⟩;refine ll ?_
   refine⟨[u v,FT (n.J[i].named (aW n.J)[i]) (CS p (aW n.J)[i] (d==1)) (CS q n.J[i].name (d==1)),u (d+1),.fn (.func 268) [] []],_,
    λ_=>aY (n.J[i].named (aW n.J)[i]) (by rw[FV];omega) ((ahn _ _).2 (rb xh (atK aE)).2) (CS p (aW n.J)[i] (d==1)) (CS q n.J[i].name (d==1)) (d+1) atv (by rw[FV];omega)
     (by rw[FV];omega) (by rw[FV];omega),ar,?_⟩
   refine go ?_;refine .inr (af.pc aL 109 rfl rfl rfl atC rfl rfl rfl (avW) ?_ ?_ λbQ m cap=>?_)
   ·have:=FW aW v (d+1) (n.J.take i) ((aW n.J).take i);show(_+1)*152<=_;simp at this⊢;omega
   ·have:=FW aW v (d+1) (n.J.take i) ((aW n.J).take i);show _+1<=_;simp at this⊢;omega
   refine go ?_;exact⟨⟨(i+1,.slice bQ m cap),aE⟩,[(5,5),(8,8),(9,9),(10,10),(109,109)],by show _-(i+1)<_-i;omega,ar,rfl,rfl,rfl,rfl,rfl,rfl,rfl,rfl,rfl,rfl,atI (λV=>some (aI.row (.slice bQ m cap) V 12 44)) (by rw[N6 aW v (d+1) aE cg,atH hs];simp;rfl),ai⟩
  have hs:lA v n.J[i] (d+1)=false:=by
   have h1:decide ((i:Int)<((aU (aW n.J)).length:Int))=true:=by simp[aU];omega
   rw[h1]at hc;exact hc
  refine go ?_;exact⟨⟨(i+1,gR),aE⟩,[(5,5),(8,8),(9,9),(10,10),(109,109)],by show _-(i+1)<_-i;omega,ar,rfl,rfl,rfl,rfl,rfl,rfl,rfl,rfl,rfl,rfl,atI (λV=>some (aI.row gR V 12 44)) (by rw[N6 aW v (d+1) aE cg,hs];simp),ai⟩
 refine go ?_;have cg:i=n.J.length:=by simp at hc;omega
 have dN:(fQ aW v (d+1) (n.J.take i) ((aW n.J).take i)).map aH=(fQ aW v (d+1) n.J (aW n.J)).map aH:=by
  subst cg;rw[atW,aue atv]
 rw[dN];have hlen:=FW aW v (d+1) n.J (aW n.J);have ahp:((fQ aW v (d+1) n.J (aW n.J)).map ad.name).Nodup:=(N7 aW v (d+1) n.J (aW n.J)).nodup mO;refine go ?_;refine .inr (af.call rfl [.an gR,.fn (.func 351) [] []] [(2001,109)] (ahm _ ahp atv gR) rfl ar ?_);rintro d' aM ⟨rfl,rfl⟩;refine rT ?_;refine Y.fd [(113,.an gR),(8,.box 8 cF 0),(10,.box 10 j4 0)] [(109,.row gR ((mN (fQ aW v (d+1) n.J (aW n.J))).map aH) 12 44),(8,.box cF [.O [],u 0,.O [],.O [],u 0,u 0,u 0,u 0,u 0,u 0,.bh,.bh]),(10,.box j4 [.O n.name,u n.kind,.O n.dB,.O n.target,u (if keeps v then n.cL else 0),u (if keeps v then n.n2 else 0),u (if keeps v then n.n3 else 0),u n.n4,u 0,u 0,.an gR,.Q .none 2 ((if v=3 then n.bK else[]).map c5)])] [(109,109),(8,8),(10,10)] ⟨ar,rfl,ba⟩ ?_;refine Y.acq 109 113 rfl ?_;refine Y.acp 10 113 (dt:=[.O n.name,u n.kind,.O n.dB,.O n.target,u (if keeps v then n.cL else 0),u (if keeps v then n.n2 else 0),u (if keeps v then n.n3 else 0),u n.n4,u 0,u 0,.Q .none 12 ((mN (fQ aW v (d+1) n.J (aW n.J))).map aH),.Q .none 2 ((if v=3 then n.bK else[]).map c5)]) rfl rfl (λw C ae dh h=>db.cell (i:=10) h λaj ao=>(h.Sk (i:=10) rfl ao) ▸ ae) ?_;refine go ?_;rw[FU];refine aq.agg ?_;refine⟨E,E,E,E,E,E,E,E,E,E,aq.of_eq (atI (D.Q .none 12) ?_),aq.refl _,ai⟩
 exact awJ λk _=>(rV k).symm
mutual
def iO:ad->Int->Bool
 |.mk a b c d e f g h i j ah cE,l=>one (.mk a b c d e f g h i j ah cE) l==0&&nn ah (l+1)
def nn:List ad->Int->Bool
 |[],_=>true
 |k::r,l=>iO k l&&nn r l
end
theorem I5(n:ad)(l:Int):iO n l=(one n l==0&&nn n.J (l+1)):=by cases n;simp only[iO]
mutual
theorem V0:∀(n:ad) (p:atE) (l:Int) (q:atE),
  (iO n l=true->fH gW n p l (0,q)=(true,(0,q)))/\(iO n l=false->(fH gW n p l (0,q)).1=false/\(fH gW n p l (0,q)).2.1≠0)
 |.mk a b c d e f g h i j ah cE,p,l,q=>by
  have aY:=V1 ah p l q;simp only[fH,iO,gW];by_cases h1:one (.mk a b c d e f g h i j ah cE) l=0
  ·simp only[h1,auT,beq_self_eq_true,awF];exact aY
  simp only[h1,avq];refine⟨λcy=>?_,λ_=>⟨by simp,by simpa using h1⟩⟩;simp[h1]at cy
theorem V1:∀(ah:List ad) (p:atE) (l:Int) (q:atE),
  (nn ah (l+1)=true->kI gW ah p l (0,q)=(true,(0,q)))/\(nn ah (l+1)=false->(kI gW ah p l (0,q)).1=false/\(kI gW ah p l (0,q)).2.1≠0)
 |[],p,l,q=>by simp[kI,nn]
 |k::r,p,l,q=>by
  have h1:=V0 k (below p k.name (l+1)) (l+1) q;have z:=V1 r p l q;simp only[kI,nn]
  cases X:iO k (l+1)with
  |true =>
   rw[h1.1 X];simpa using z
  |false =>
   have aa:=h1.2 X;generalize F:fH gW k (below p k.name (l+1)) (l+1) (0,q)=x at aa;obtain⟨I6,CT⟩:=x;obtain⟨aC,a_⟩:=aa;simp only at aC a_;subst aC;simp[a_]
end
theorem xi(n:ad):valid n=(decide (fI n<=256)&&iO n 1):=by simp only[valid,check];by_cases h:(256:Int)<fI n;rw[atH h];(have:decide (fI n<=256)=false:=by simp;omega);rw[this];rfl;rw[atG h];(have h1:decide (fI n<=256)=true:=by simp;omega);rw[h1,awF];have cG:=V0 n [] 1 [];cases aT:iO n 1 with|true=>rw[cG.1 aT];rfl|false=>simpa using(cG.2 aT).2
theorem FX{f:Nat->Int}:∀{k i:Nat},hf f i k=0->∀j,i<=j->j<i+k->f j=0
 |0,i,_,j,h1,z=>by omega
 |k+1,i,h,j,h1,z=>by simp only[hf]at h;split at h;rename_i h0;by_cases e:j=i;rw[e];exact h0;exact FX h j atv atv;rename_i h0;exact absurd h h0
theorem I7{s:atE}(h:dT s=true):s.length<=256:=by simp only[dT]at h;split at h;cases h;simp only[atM,aup,avn]at h;obtain⟨h1,z,aa⟩:=h;simp only[chars]at h1 aa;split at h1;cases h1;rename_i al;rw[atG al]at aa;cases hc:jE s with|none=>rw[hc]at h1;cases h1|some l =>rw[hc]at aa;have:=Cs s.length s (atP _) l hc;simp only at aa;omega
theorem ahq{s:atE}(h:dT s=true):s≠[]:=by intro e;subst e;revert h;decide +kernel
structure N_ (n:ad) (l:Int):Prop where
 I8:0<=n.kind/\n.kind<=2
 FY:l=1->n.kind=0
 FZ:l=1->n.name=[]
 I9:1<l->dT n.name=true
 file:n.kind≠1->n.dB=[]/\n.bK=[]
 I_:n.kind≠2->n.target=[]
 bb:n.kind≠0->n.J=[]
 target:n.kind=2->k7 n.target=true
 cL:0<=n.cL/\n.cL<=4095
 n2:0<=n.n2/\n.n2<=65535
 n3:0<=n.n3/\n.n3<=65535
 n4:315532800<=n.n4/\n.n4<=4102444799
 n5:-1048576<=n.n5/\n.n5<=1048576
 n6:0<=n.n6/\n.n6<=15
 bY:l<=16
 size:n.dB.length<=262144
 F0:n.J.length<=64
 F1:n.bK.length<=4
 bK:∀i,i<n.bK.length->(gV n i).target.length<=262144/\px n i=0
 gP:gP n.J
theorem ahr{n:ad}{l:Int}(h:one n l=0):N_ n l:=by
 have ae:=FX h;have gC:ug n l=false:=by have:=ae 0 atv atv;simp only[eM,vI]at this;split at this<;>simp_all
 have jg:uh n l=false:=by have:=ae 1 atv atv;simp only[eM,vJ]at this;split at this<;>simp_all
 have ki:ui n=false:=by have:=ae 2 atv atv;simp only[eM,vK]at this;split at this<;>simp_all
 have k_:uj n=false:=by have:=ae 3 atv atv;simp only[eM,vL]at this;split at this<;>simp_all
 have nj:r' n=false:=by have:=ae 4 atv atv;simp only[eM,vM]at this;split at this<;>simp_all
 have I':=ae 5 atv atv;simp only[eM,nL]at I';have q8:sa n l=false:=by split at I'<;>simp_all
 rw[atG (by rw[q8];simp)]at I';have yK:=ae 6 atv atv;simp only[eM,CC]at yK;have CF:=ae 7 atv atv;simp only[eM,yG]at CF;simp only[ug,uh,ui,uj,r',sa,s8,avg,avk,avl,avC,aur,avn,Bool.not_eq_eq_eq_not,Bool.not_true,Bool.not_false,atM,aup]at gC jg ki k_ nj q8;obtain⟨⟨ahs,aht⟩,ahu⟩:=ki;obtain⟨⟨⟨⟨⟨ahv,ahw⟩,N'⟩,ahx⟩,F2⟩,ahy⟩:=nj
 have X:gP n.J:=λi hi=>by
  have:=FX CF (i+1) atv atv;simp only[sb,qg,qh,Nat.add_sub_cancel]at this;by_cases h1:(n.J.getD i default).name=(n.J.getD (i+1) default).name
  ·rw[atH h1]at this;cases this
  rw[atG h1]at this;by_cases z:Op.bytesLess (n.J.getD (i+1) default).name (n.J.getD i default).name=true
  ·rw[atH z]at this;cases this
  cases aa:Op.bytesLess (n.J.getD i default).name (n.J.getD (i+1) default).name with
  |true=>rfl
  |false=>exact absurd (w9 _ _ aa (by simpa using z)) h1
 exact{
  I8:=atv
  FY:=λe=>by rcases gC.2 with h1|h1<;>first|exact absurd e h1|exact h1
  FZ:=λe=>by rcases jg.1 with h1|h1<;>first|exact absurd e h1|exact h1
  I9:=λe=>by rcases jg.2 with h1|h1<;>first|(exact absurd e h1)|exact h1
  file:=λe=>by
   rcases ahs with h1|⟨h1,z⟩
   ·exact absurd h1 e
   exact⟨h1,atY atv⟩
  I_:=λe=>by rcases aht with h1|h1<;>first|exact absurd h1 e|exact h1
  bb:=λe=>by
   rcases ahu with h1|h1
   ·exact absurd h1 e
   exact atY atv
  target:=λe=>by rcases k_ with h1|h1<;>first|exact absurd e h1|exact h1
  cL:=ahv,n2:=ahw,n3:=N',n4:=ahx,n5:=F2,n6:=ahy
  bY:=atv
  size:=atv
  F0:=atv
  F1:=atv
  bK:=λi hi=>⟨by
   have:=FX I' i atv atv;simp only[pw]at this;split at this
   ·cases this
   rename_i h1;simp at h1;omega,FX yK i atv atv⟩
  gP:=X}
theorem AT{n:ad}{l:Int}(h:iO n l=true):N_ n l/\nn n.J (l+1)=true:=by rw[I5,atM]at h;exact⟨ahr (by simpa using h.1),h.2⟩
theorem V2:∀{ah:List ad} {l:Int},(∀k∈ah,iO k l=true)->nn ah l=true
 |[],l,h=>rfl
 |x::r,l,h=>by simp only[nn,atM];exact⟨h x atS,V2 λk X=>h k (atU _ X)⟩
mutual
theorem Oa:∀(n:ad) (l:Int),1<=l->iO n l=true->iv n
 |.mk a b c d e f g h i j ah cE,l,al,aT=>by
  obtain⟨h1,z⟩:=AT aT;simp only[iv];have hx:ah.length<=64:=h1.F0;have V3:cE.length<=4:=h1.F1;exact⟨hx,by omega,h1.gP,V4 ah (l+1) atv z⟩
theorem V4:∀(ah:List ad) (l:Int),2<=l->nn ah l=true->xg ah
 |[],l,al,aT=>trivial
 |k::r,l,al,aT=>by
  simp only[nn,atM]at aT;simp only[xg];have av:=(AT aT.1).1.I9 atv;have:=I7 av;exact⟨⟨⟨av,by omega⟩,Oa k l atv aT.1⟩,V4 r l al aT.2⟩
end
theorem AU{n:ad}(h:valid n=true):iv n:=by rw[xi,atM]at h;exact Oa n 1 (auu _) h.2
theorem Ob(aV:dc B){v:Int}(W:v=2\/v=3):CR B v (λah=>ah.map ad.name) :=
 ⟨λah hx mM cv=>⟨ahf aV v W ah hx cv mM,by simp,by
  have:=ahh mM;rw[auE,au_]
  exact this.imp λh=>s_ h,λm hm=>by
  obtain⟨k,X,rfl⟩:=at3.1 hm;have:=I7 (cv k X).1
  omega⟩⟩
def uG:ad:=⟨[],0,[],[],0,0,0,0,0,0,[],[]⟩
def th(aW:List ad->List atE)(v:Int)(n:ad):ad×Int :=
 if kh v=false then(uG,2)else if valid n=false then(uG,1)else(jG aW v 1 n,0)
theorem Oc:aq (.agg [.O [],u 0,.O [],.O [],u 0,u 0,u 0,u 0,u 0,u 0,.bh,.bh]) (aH uG) :=
 aq.agg ⟨E,E,E,E,E,E,E,E,E,E,aq.nil,aq.nil,ai⟩
theorem ahz(aV:dc B)(aW:List ad->List atE)(v:Int)(nk:kh v=true->CR B v aW)(n:ad)(bz:aB n+n.name.length<10000000)(W:valid n=true->aB n<800000):aS B 267 [u v,aH n,.fn (.func 268) [] []] (.bl [aH (th aW v n).1,u (th aW v n).2]):=by refine bB Tryz.func267 Tryz.ntmps267 λU=>?_;refine ch ?_;intro cP;(conv=>whnf);intro ea;refine p8 ?_;refine⟨[u v],_,λ_=>Fl v,ar,?_⟩;refine aJ _ rfl ?_ ?_<;>intro hc;refine jb ?_;refine iJ ?_;(have h1:kh v=false:=by simpa using hc);(have z:th aW v n=(uG,2):=by rw[th,atH h1]);rw[z];refine ez ?_;exact⟨Oc,E,ai⟩;apply cl;refine gb ?_;refine ez ?_;refine⟨[aH n],_,λ_=>AA aV n bz,ar,?_⟩;refine aJ _ rfl ?_ ?_<;>intro hc;refine jb ?_;refine iJ ?_;(have h1:¬kh v=false:=by intro h;rename_i h0;rw[h]at h0;cases h0);(have aa:valid n=false:=by simpa using hc);(have z:th aW v n=(uG,1):=by rw[th,atG h1,atH aa]);rw[z];refine ez ?_;exact⟨Oc,E,ai⟩;apply cl;refine lm ?_;(have h1:kh v=true:=by rename_i h0;simpa using h0);(have aa:valid n=true:=by simpa using hc);have aC:=W aa;refine⟨[u v,FT n [] [],u 1,.fn (.func 268) [] []],_,λ_=>aho aW v (nk h1) _ n (auw _) (AU aa) [] [] 1 atv atv (by simp only[auf];omega) (by simp only[auf];omega),ar,?_⟩;apply cD;refine iJ ?_;(have z:th aW v n=(jG aW v 1 n,0):=by rw[th,atG (by rw[h1];simp),atG (by rw[aa];simp)]);rw[z];refine ez ?_;exact ar
theorem ahA(aV:dc B)(aW:List ad->List atE)(v:Int)(nk:kh v=true->CR B v aW)(n:ad)(bz:aB n+n.name.length<10000000)(W:valid n=true->aB n<800000):aS B 208 [u v,aH n] (.bl [aH (th aW v n).1,u (th aW v n).2]):=by refine bB Tryz.func208 Tryz.ntmps208 λU=>?_;refine ch ?_;intro eD;(conv=>whnf);intro cP;refine lm ?_;refine⟨[u v,aH n,.fn (.func 268) [] []],_,λ_=>ahz aV aW v nk n bz W,ar,?_⟩;apply cD;apply Ew;refine ez ?_;exact ar
end Go.bS.cp



namespace Go.bS.cp
open Go Go.Proofs
variable{B:World}
theorem ahB(s:atE)(c:Int):aS B 365 [.O s,.int .u8 c] (u (Lib.indexByte s c.toNat.toUInt8)) :=
 .pure (jD Tryz.func365 rfl atz) rfl rfl λw _=>Tryz.strings_IndexByte ⟨⟨s⟩⟩ c w
theorem ahC(r:Int):aS B 366 [.int .i32 r] (.bool (Lib.validRune r)) :=
 .pure (jD Tryz.func366 rfl atz) rfl rfl λw _=>Tryz.utf8_ValidRune r w
theorem ahD(s p:atE)(hs:s.length<=9223372036854775807):aS B 346 [.O s,.O p] (.O (Lib.trimSuffix s p)) :=
 .pure (jD Tryz.func346 rfl atz) rfl rfl λw _=>Tryz.strings_TrimSuffix ⟨⟨s⟩⟩ ⟨⟨p⟩⟩ w hs
theorem Od(i:Nat)(hi:i<100):aS B 226 [u (i:Nat)] (.O (Lib.decDigits i)) :=
 .pure (jD Tryz.func226 rfl atz) rfl rfl λw _=>Tryz.strconv_Itoa_small i hi w
def mP:atE:=[42,47,58,59,63,92]
theorem V5{c:UInt8}:∀{l:atE},(∀b∈l,b≠c)->Lib.indexByte l c=-1
 |[],_=>rfl
 |b::l,h=>by have aY:=V5 (l:=l) λx F=>h x (atU _ F);unfold Lib.indexByte;rw[atG (by simpa using h b atS),aY];rfl
theorem V6:∀b∈mP,b.toNat<128:=by decide +kernel
theorem ahE:∀p,p<6->(Utf8.decode ⟨⟨mP⟩⟩ p).2=1/\(Utf8.decode ⟨⟨mP⟩⟩ p).1<128:=by decide +kernel
theorem ahF(r:Int)(h0:128<=r)(h1:r<=65533)(hs:r<55296\/57343<r):∃(e:atE) (c:UInt8),(Utf8.encode r).data.toList=e/\2<=e.length/\e.length<=4/\e[e.length-1]?=some c/\128<=c.toNat:=by
 have W:Utf8.valid r=true:=by simp[Utf8.valid];omega
 obtain⟨z,aa,aC⟩:=encode_facts r W h0;have hsz:(Utf8.encode r).size=(Utf8.encode r).data.toList.length:=rfl;have bi:(Utf8.encode r).size-1<(Utf8.encode r).size:=atv
 refine⟨_,_,rfl,by omega,by omega,?_,aC bi⟩;rw[<-hsz,atJ atv];rfl
theorem ahG(r:Int)(h0:128<=r)(h1:r<=65533)(hs:r<55296\/57343<r):aS B 330 [.O mP,.int .i32 r] (u (-1)):=by refine bB Tryz.func330 Tryz.ntmps330 λU=>?_;refine go ?_;refine aJ _ rfl ?_ ?_<;>intro hc;(·exfalso;(have:decide (r<128)=false:=by simp;omega);cases z:decide ((0:Int)<=r)<;>rw[z]at hc<;>first|(cases hc;done)|(rw[this]at hc;cases hc));refine go ?_;refine aJ _ rfl ?_ ?_<;>intro hc;refine go ?_;refine .inr (af.acg rfl rfl λOe=>?_);refine go ?_;refine Y.ed (α:={p:Nat // p<=6}) (λx=>[(175,.an (.pointer (some ⟨Oe,0,none⟩)))]) (λx=>[(175,.b' Oe (.stringIter ⟨⟨mP⟩⟩ x.1))]) (λx=>6-x.1) ⟨0,by omega⟩ [(175,175)] ⟨ar,rfl,ba⟩ ?_;rintro⟨p,au⟩;refine qU ?_;refine .inr (af.ach 175 rfl rfl (λbi=>?_) (λbi=>?_));have Fh:p<6:=bi;obtain⟨E8,r6⟩:=ahE p Fh;apply en;refine aJ _ rfl ?_ ?_<;>intro hc;apply cl;apply oN;apply b3;apply b3;refine aJ _ rfl ?_ ?_<;>intro hc;exfalso;(have:(((Utf8.decode ⟨⟨mP⟩⟩ p).1:Nat):Int)=65533:=by simpa using hc);omega;refine go ?_;refine⟨⟨p+1,by omega⟩,[(175,175)],by show 6-(p+1)<6-p;omega,ar,rfl,rfl,?_,ai⟩;exact atI (λV=>some (aI.b' Oe (.stringIter ⟨⟨mP⟩⟩ (p+V)))) E8;cases hc;(conv=>whnf);apply en;refine aJ _ rfl ?_ ?_<;>intro hc;cases hc;refine go ?_;exact E;refine go ?_;refine br (ahC r) ?_;refine aJ _ rfl ?_ ?_<;>intro hc;exfalso;(have:Lib.validRune r=true:=by simp[Lib.validRune];omega);rw[this]at hc;cases hc;refine Y.scope ?_;obtain⟨e,c,ak,nJ,V7,V8,arM⟩:=ahF r h0 h1 hs;refine go ?_;rw[ak];refine go ?_;have du:mP.length=6:=rfl;refine Y.loop (α:=Unit) (λx=>[(0,.O mP),(7,.O e),(8,u ((e.length:Int)-1)),(9,u ((e.length:Int)-1))]) (λ_=>[]) (λx=>0) () ar trivial ?_;rintro⟨⟩;(have p':((e.length:Int)-1).toNat=e.length-1:=by omega);have tK:mP[e.length-1]?=some (mP[e.length-1]' atv):=atJ atv;have mr:=V6 _ (atK (l:=mP) (n:=e.length-1) atv);refine go ?_;refine aJ _ rfl ?_ ?_<;>intro hc;apply cl;(have xc:(e.length:Int)-1<6:=by omega);apply oN;refine Y.scope ?_;apply en;refine oO ?_;refine go ?_;refine⟨mP[e.length-1]' atv,λ_=>⟨by omega,by rw[p'];exact tK⟩,?_⟩;refine go ?_;refine⟨c,λ_=>⟨by omega,by rw[p'];exact V8⟩,?_⟩;refine go ?_;refine aJ _ rfl ?_ ?_<;>intro hc;refine oO ?_;refine ll ?_;refine⟨λ_=>by rw[du];omega,?_⟩;refine go ?_;refine⟨c,λ_=>⟨by omega,by rw[p'];exact V8⟩,?_⟩;refine go ?_;refine⟨[.O ((mP.take ((mP.length:Nat):Int).toNat).drop ((e.length:Int)-1+1).toNat),.int .u8 c.toNat],u (-1),λ_=>by have:=ahB (B:=B) ((mP.take ((mP.length:Nat):Int).toNat).drop ((e.length:Int)-1+1).toNat) c.toNat;rw[V5 (λb G ahH=>by have z:=V6 b (auL (avV G));rw[ahH]at z;(have aa:((c.toNat:Int).toNat.toUInt8).toNat=c.toNat:=by simp);omega)]at this;exact this,ar,?_⟩;refine gb ?_;refine aJ _ rfl ?_ ?_<;>intro hc;refine go ?_;exact E;cases hc;exfalso;(have:((mP[e.length-1]' atv).toNat:Int)=(c.toNat:Int):=by simpa using hc);omega;exfalso;rw[du]at hc;simp at hc;omega
def yW(r:Int):Bool:=r==42||r==47||r==58||r==59||r==63||r==92
theorem ahI:∀n:Nat,n<128->decide (0<=Lib.indexByte mP ((n:Int).toNat.toUInt8))=yW n:=by decide +kernel
theorem sl(r:Int):eo r=true↔32<=r/\r<=65533/\(r<55296\/57343<r):=by simp[eo]
theorem ahJ(r:Int)(h:eo r=true):aS B 344 [.O mP,.int .i32 r] (.bool (yW r)):=by obtain⟨h1,z,aa⟩:=(sl r).1 h;by_cases Of:r<128;(have av:r=(r.toNat:Int):=by omega);have:=ahI r.toNat atv;rw[<-av]at this;rw[<-this];exact .pure (jD Tryz.func344 rfl atz) rfl rfl λw _=>Tryz.strings_ContainsRune_ascii ⟨⟨mP⟩⟩ r w atv Of;(have k2:yW r=false:=by simp[yW];omega);rw[k2];refine bB Tryz.func344 Tryz.ntmps344 λU=>?_;refine go ?_;refine br (ahG r atv z aa) ?_;exact E
def lF(r:Int):Int:=if yW r then 95 else r
theorem ahK(r:Int)(h:eo r=true):aS B 298 [.int .i32 r] (.int .i32 (lF r)):=by refine bB Tryz.func298 Tryz.ntmps298 λU=>?_;refine go ?_;refine br (ahJ r h) ?_;refine aJ _ rfl ?_ ?_<;>intro hc;refine go ?_;exact aq.of_eq (atI (D.int .i32) (by rw[lF,atH hc]));refine go ?_;exact aq.of_eq (atI (D.int .i32) (by rw[lF,atG (by rw[hc];simp)]))
def uH(c:Int):Bool:=((decide (65<=c)&&decide (c<=90))||(decide (48<=c)&&decide (c<=57)))||c==95
theorem ahL(c:Int):aS B 371 [.int .u8 c] (.bool (uH c)):=by refine bB Tryz.func371 Tryz.ntmps371 λU=>?_;refine go ?_;exact aq.of_eq (atI D.bool (by simp only[jF,pt];rfl))
def rc(c:UInt8):Bool:=uH c.toNat
def uI(s:atE):Bool:=decide (s.length<=65536)&&s.all rc
theorem ahM(s:atE):aS B 370 [.O s,.Q .dU 1 [.fn (.func 371) [] []]] (.bool (uI s)):=by refine bB Tryz.func370 Tryz.ntmps370 λU=>?_;refine go ?_;refine aJ _ rfl ?_ ?_<;>intro hc;refine go ?_;(have h1:decide (s.length<=65536)=false:=by simp at hc⊢;omega);exact aq.of_eq (atI D.bool (by rw[uI,h1];rfl));refine go ?_;(have h1:s.length<=65536:=by simp at hc;omega);refine go ?_;refine Y.loop (α:={i:Nat // i<=s.length/\(s.take i).all rc=true}) (λx=>[(0,.O s),(1,.Q .dU 1 [.fn (.func 371) [] []]),(13,u s.length),(14,u x.1)]) (λ_=>[]) (λx=>s.length-x.1) ⟨0,by simp⟩ ar trivial ?_;rintro⟨i,hi,hE⟩;refine go ?_;refine aJ _ rfl ?_ ?_<;>intro hc;refine go ?_;(have aE:i<s.length:=by simpa using hc);(have ahN:s.take (i+1)=s.take i++[s[i]]:=by rw[avH,atJ aE];rfl);refine go ?_;refine Y.loop (α:={y:Nat // y<=1}) (λy=>[(0,.O s),(1,.Q .dU 1 [.fn (.func 371) [] []]),(13,u s.length),(14,u i),(5,u i),(6,.bool (decide (y.1=1)&&rc s[i])),(17,.Q .dU 1 [.fn (.func 371) [] []]),(18,u 1),(19,u y.1)]) (λ_=>[]) (λy=>1-y.1) ⟨0,by omega⟩ ar trivial ?_;rintro⟨y,hy⟩;refine go ?_;refine aJ _ rfl ?_ ?_<;>intro hc;apply cl;(have EL:y=0:=by simp at hc;omega);subst EL;refine gK ?_;refine oa ?_;refine yb (.fn (.func 371) [] []) ?_;refine go ?_;refine⟨s[i],λh=>⟨by omega,by simp[aE]⟩,?_⟩;refine go ?_;refine br (ahL _) ?_;exact⟨⟨1,atP _⟩,by show 1-1<1-0;omega,ar,ai⟩;refine go ?_;(have NV:y=1:=by simp at hc;omega);subst NV;refine go ?_;refine aJ _ rfl ?_ ?_<;>intro hc;refine go ?_;(have z:rc s[i]=false:=by simpa using hc);(have aa:s.all rc=false:=by rw[List.all_eq_false];exact⟨s[i],atK aE,by rw[z];simp⟩);exact aq.of_eq (atI D.bool (by rw[uI,aa,Bool.and_false]));refine go ?_;(have z:rc s[i]=true:=by simpa using hc);exact⟨⟨i+1,aE,by rw[ahN,List.all_append,hE];simp[z]⟩,by show _-(i+1)<_-i;omega,ar,ai⟩;refine go ?_;(have cg:i=s.length:=by simp at hc;omega);subst cg;rw[atW]at hE;exact aq.of_eq (atI D.bool (by rw[uI,hE];simp[h1]))
theorem V9(s:atE):aS B 345 [.O s] (.bool (uI s)):=by refine bB Tryz.func345 Tryz.ntmps345 λU=>?_;refine go ?_;refine br (ahM s) ?_;exact E
theorem Og(r:Int)(h0:0<=r)(h1:r<128):(Utf8.encode r).data.toList=[UInt8.ofNat r.toNat]:=by
 have W:Utf8.valid r=true:=by simp[Utf8.valid];omega
 unfold Utf8.encode;simp only[W,auT];rw[atH atv]
def ic(r:Int):Int:=if 97<=r/\r<=122 then r-97+65 else if r<128/\uH r=true then r else 95
theorem ahO(r:Int)(h0:0<=r)(ae:r<=1114111):aS B 299 [.int .i32 r] (.int .i32 (ic r)):=by refine bB Tryz.func299 Tryz.ntmps299 λU=>?_;refine go ?_;refine aJ _ rfl ?_ ?_<;>intro hc;refine go ?_;(have F3:97<=r/\r<=122:=by rw[jF]at hc;simpa using hc);refine go ?_;exact aq.of_eq (atI (D.int .i32) (by rw[ic,atH F3]));refine go ?_;skip;refine go ?_;refine⟨[.O (Utf8.encode r).data.toList],.bool (uH r),λh=>by(have bi:r<128:=by simpa using h);have:=V9 (B:=B) (Utf8.encode r).data.toList;(have e:uI (Utf8.encode r).data.toList=uH r:=by rw[Og r h0 bi];simp only[uI,rc,awk,List.all_nil,Bool.and_true,List.length_singleton];(have:((UInt8.ofNat r.toNat).toNat:Int)=r:=by rw[av7];omega);rw[this];simp);rw[e]at this;exact this,ar,?_⟩;refine go ?_;refine aJ _ rfl ?_ ?_<;>intro hc;refine go ?_;(have F3:¬(97<=r/\r<=122):=by rename_i hS;rw[jF]at hS;simpa using hS);(have z:r<128/\uH r=true:=by rw[jF]at hc;simpa using hc);exact aq.of_eq (atI (D.int .i32) (by rw[ic,atG F3,atH z]));refine go ?_;(have F3:¬(97<=r/\r<=122):=by rename_i hS;rw[jF]at hS;simpa using hS);(have z:¬(r<128/\uH r=true):=by rw[jF]at hc;simpa using hc);exact aq.of_eq (atI (D.int .i32) (by rw[ic,atG F3,atG z]))
theorem ahP(n:Nat)(h:n<=65533)(hs:n<55296\/57343<n):(Utf8.encode (n:Int)).data.toList=Lib.encodeRune n:=by(have W:Utf8.valid (n:Int)=true:=by simp[Utf8.valid];omega);unfold Utf8.encode Lib.encodeRune Lib.encodeRuneZ;simp only[W,auT,auq];(have bz:∀a b:Nat,UInt8.ofNat (a+b)=((a:Int)+(b:Int)).toNat.toUInt8:=λa b=>by(have:((a:Int)+(b:Int)).toNat=a+b:=by omega);rw[this]);by_cases h1:n<128;rw[atH h1,atH (show 0<=(n:Int)/\(n:Int)<=127 by omega)];simp;rw[atG h1,atG (show¬(0<=(n:Int)/\(n:Int)<=127) by omega)];by_cases z:n<2048;rw[atH z,atH (show 128<=(n:Int)/\(n:Int)<=2047 by omega)];show[UInt8.ofNat (192+n/64),UInt8.ofNat (128+n%64)]=_;rw[bz,bz];simp;rw[atG z,atG (show¬(128<=(n:Int)/\(n:Int)<=2047) by omega),atH (show n<65536 by omega),atH (show 2048<=(n:Int)/\(n:Int)<55296\/57343<(n:Int)/\(n:Int)<=65535 by omega)];show[UInt8.ofNat (224+n/4096),UInt8.ofNat (128+n/64%64),UInt8.ofNat (128+n%64)]=_;rw[bz,bz,bz];simp
theorem Oh{s:atE}(hs:s≠[]):dR s=Lib.decodeL s:=by unfold dR Lib.decodeGo Lib.decodeL;rw[atG (show¬(⟨⟨s⟩⟩:ByteArray).size=0 from λe=>hs (atY e))]
theorem ahQ(s:atE)(i:Nat)(h:i<s.length):Utf8.decode ⟨⟨s⟩⟩ i=dR (s.drop i):=by
 have aX:s.drop i≠[]:=λe=>by have:=atI List.length e;simp at this;omega
 rw[Oh aX];exact(Lib.decodeL_drop ⟨⟨s⟩⟩ i).symm
theorem V_{s:atE}(h:mf s=false):eo (dR s).1=true/\¬((dR s).1=65533/\(dR s).2=1):=by simp only[mf,avg,avC,avk,aur]at h;exact⟨h.1,λ⟨h1,z⟩=>by rcases h.2 with aa|aa<;>contradiction⟩
theorem ahR{s:atE}(hs:s≠[])(h:mf s=false):(Utf8.encode ((dR s).1:Int)).data.toList=s.take (dR s).2:=by obtain⟨h1,z⟩:=V_ h;obtain⟨aa,aC,a_⟩:=(sl _).1 h1;rw[ahP _ atv atv,Oh hs,Lib.encode_decode s hs (by rw[<-Oh hs];exact z)]
theorem CU:∀(n:Nat) (s:atE) (l:List Int),s.length<=n->jE s=some l->cw l=s/\∀r∈l,eo r=true
 |0,s,l,av,hc=>by have:s=[]:=atY atv;subst this;cases hc;exact⟨rfl,λr ae=>by cases ae⟩
 |n+1,s,l,av,hc=>by by_cases hs:s=[];subst hs;cases hc;exact⟨rfl,λr ae=>by cases ae⟩;obtain⟨h1,z,_⟩:=w5 s hs;rw[yz hs]at hc;cases G:mf s with|true=>rw[G]at hc;cases hc|false =>rw[G]at hc;simp only[auR,avq,auQ]at hc;obtain⟨hV,mY,rfl⟩:=hc;have aY:=CU n (s.drop (dR s).2) hV atw mY;refine⟨?_,λr ae=>?_⟩;simp only[cw,auJ];rw[ahR hs G];have:cw hV=s.drop (dR s).2:=aY.1;simp only[cw]at this;rw[this,ava];rcases at6.1 ae with rfl|ae;exact(V_ G).1;exact aY.2 r ae
theorem V'(s:atE):∀(f i:Nat) (l:List Int),i<=s.length->s.length-i<=f->jE (s.drop i)=some l->sG ⟨⟨s⟩⟩ f i=l
 |0,i,l,hi,M,hc=>by have:s.drop i=[]:=aws atv;rw[this]at hc;cases hc;rfl
 |f+1,i,l,hi,M,hc=>by have hsz:(⟨⟨s⟩⟩:ByteArray).size=s.length:=rfl;simp only[sG,hsz];by_cases bi:i<s.length;(have aX:s.drop i≠[]:=λe=>by have:=atI List.length e;simp at this;omega);obtain⟨h1,z,_⟩:=w5 (s.drop i) aX;rw[yz aX]at hc;(cases G:mf (s.drop i)with|true=>rw[G]at hc;cases hc|false =>rw[G]at hc;simp only[auR,avq,auQ]at hc;obtain⟨hV,mY,rfl⟩:=hc;rw[atH bi,ahQ s i bi];rw[auS]at z;rw[List.drop_drop]at mY;rw[V' s f (i+(dR (s.drop i)).2) hV atv atv mY];rfl);have:s.drop i=[]:=aws atv;rw[this]at hc;cases hc;rw[atG bi]
theorem Ja{s:atE}{l:List Int}(h:jE s=some l):ik s=l :=
 V' s s.length 0 l (at7 _) atv (by simpa using h)
theorem Jb{s:atE}(h:dT s=true):∃l,jE s=some l/\(chars s).1=l/\(chars s).2=0/\1<=l.length/\l.length<=64:=by simp only[dT]at h;split at h;cases h;simp only[atM,aup,avn]at h;obtain⟨h1,z,aa⟩:=h;simp only[chars]at h1 z aa⊢;split at h1;cases h1;rename_i al;rw[atG al]at z aa;cases hc:jE s with|none=>rw[hc]at h1;cases h1|some l=>rw[hc]at z aa;exact⟨l,rfl,by rw[atG al],by rw[atG al],z,aa⟩
theorem AV(a b:List Int):cw (a++b)=cw a++cw b:=by simp[cw]
def dy(l:List Int):List D:=l.map (D.int .i32)
def no(s:atE):Int:=Lib.lastIndexByte ⟨⟨s⟩⟩ 46
def sm(v:Int)(s:atE):Bool:=(decide (0<no s)&&decide (no s<(s.length:Int)-1))&&(v==0||decide (((ik (s.drop (no s+1).toNat)).length:Int)<=16))
def hk(v:Int)(s:atE)(bb:Bool):atE×atE :=
 if bb=true then(s,[])else if sm v s=true then(s.take (no s).toNat,s.drop (no s+1).toNat)
 else if v=0/\1<s.length then(Lib.trimSuffix s [46],[])else(s,[])
theorem Oi(s:atE)(i:Nat):(s.take ((s.length:Nat):Int).toNat).drop i=s.drop i:=by simp
theorem Wa(s:atE):∀f i,(sG ⟨⟨s⟩⟩ f i).length<=f
 |0,_=>by simp[sG]
 |f+1,i=>by simp only[sG];split;have:=Wa s f (i+(Utf8.decode ⟨⟨s⟩⟩ i).2);simp;omega;simp
theorem F4(s:atE):(ik s).length<=s.length:=Wa s _ _
theorem ahS(v:Int)(s:atE)(bb:Bool)(hs:s.length<1000000000):aS B 300 [u v,.O s,.bool bb] (.bl [.O (hk v s bb).1,.O (hk v s bb).2]):=by refine bB Tryz.func300 Tryz.ntmps300 λU=>?_;refine go ?_;refine aJ _ rfl ?_ ?_<;>intro hc;refine go ?_;(have h1:hk v s bb=(s,[]):=by rw[hk,atH hc]);rw[h1];exact ar;apply cl;(have v1:¬bb=true:=by rw[hc];simp);(conv=>whnf);refine Y.l0 (α:={x:Unit // sm v s=false}) (λx=>[(0,u v),(1,.O s)]) (λx=>[]) ?_ ?_;refine ch ?_;refine⟨[.O s,.int .u8 46],u (no s),λ_=>TR s 46 atv,ar,?_⟩;apply b3;apply g9;apply g9;refine g_ ?_;refine ob ?_;refine aJ _ rfl ?_ ?_<;>intro hc;apply en;(have G:(decide (0<no s)&&decide (no s<(s.length:Int)-1))=true:=by rw[jF]at hc;exact hc);(have m6:0<no s/\no s<(s.length:Int)-1:=by simpa using G);refine nD ?_;refine⟨λ_=>by omega,?_⟩;refine go ?_;refine⟨by simp;omega,?_⟩;refine go ?_;refine aJ _ rfl ?_ ?_<;>intro hc;apply en;(have yX:sm v s=true:=by rw[sm,G,awF,<-pt];rw[Oi]at hc;simpa using hc);refine nc ?_;refine⟨λ_=>by omega,?_⟩;refine go ?_;rw[Oi];(have h1:hk v s bb=(s.take (no s).toNat,s.drop (no s+1).toNat):=by rw[hk,atG v1,atH yX]);rw[h1];exact ar;refine go ?_;(have yX:sm v s=false:=by rw[sm,G,awF,<-pt];rw[Oi]at hc;simpa using hc);exact⟨⟨(),yX⟩,[],ar,rfl,ai⟩;refine go ?_;(have yX:sm v s=false:=by rw[jF]at hc;have G:(decide (0<no s)&&decide (no s<(s.length:Int)-1))=false:=hc;rw[sm,G,Bool.false_and]);exact⟨⟨(),yX⟩,[],ar,rfl,ai⟩;rintro⟨_,yX⟩;refine go ?_;refine aJ _ rfl ?_ ?_<;>intro hc;refine go ?_;refine br (ahD s [46] atv) ?_;(have vz:v=0/\(1:Int)<s.length:=by rw[jF]at hc;simpa using hc);have z:v=0/\1<s.length:=⟨vz.1,by omega⟩;(have h1:hk v s bb=(Lib.trimSuffix s [46],[]):=by rw[hk,atG v1,atG (by rw[yX];simp),atH z]);rw[h1];exact ar;refine go ?_;(have vz:v=0->(s.length:Int)<=1:=by rw[jF]at hc;simpa using hc);(have z:¬(v=0/\1<s.length):=λ⟨aa,aC⟩=>by have:=vz aa;omega);(have h1:hk v s bb=(s,[]):=by rw[hk,atG v1,atG (by rw[yX];simp),atG z]);rw[h1];exact ar
theorem map_set(f:Int->Int)(l:List Int){i:Nat}(h:i<l.length):(((l.take i).map f++l.drop i).map (D.int .i32)).set i (.int .i32 (f l[i]))=((l.take (i+1)).map f++l.drop (i+1)).map (D.int .i32):=by
 have e:l.drop i=l[i]::l.drop (i+1):=auN h;have b0:l.take (i+1)=l.take i++[l[i]]:=by rw[avH,atJ h];rfl
 rw[e,b0];simp only[auo,aum,avp,auj,aw8];rw[List.set_append_right _ _ atw];have:i-(List.map (D.int .i32) (List.map f (List.take i l))).length=0:=by simp;omega
 rw[this];rfl
theorem Wb(s:atE)(b6:Nat)(f:Int->Int)(hs:s.length<1000000000)(M:∀r∈ik s,aS B b6 [.int .i32 r] (.int .i32 (f r))):aS B 301 [.O s,.fn (.func b6) [] []] (.Q .none 1 (dy ((ik s).map f))):=by refine bB Tryz.func301 Tryz.ntmps301 λU=>?_;apply b3;refine qU ?_;refine .inr (af.acf aL rfl rfl rfl rfl rfl rfl rfl atv λbQ cap=>?_);refine nF ?_;have h7:=F4 s;generalize aV:ik s=L at*;refine Y.ed (α:={i:Nat // i<=L.length}) (λx=>[(1,.fn (.func b6) [] []),(5,.an (.slice bQ L.length cap)),(10,.an (.slice bQ L.length cap)),(11,u L.length),(12,u x.1)]) (λx=>[(9,.row (.slice bQ L.length cap) (((L.take x.1).map f++L.drop x.1).map (D.int .i32)) 1 21)]) (λx=>L.length-x.1) ⟨0,by omega⟩ [(9,9)] ⟨ar,rfl,ba⟩ ?_;rintro⟨i,hi⟩;dsimp only;refine go ?_;refine aJ _ rfl ?_ ?_<;>intro hc;refine go ?_;(have aE:i<L.length:=by simpa using hc);(have hlen:(((L.take i).map f++L.drop i).map (D.int .i32)).length=L.length:=by simp;omega);(have h9:(((L.take i).map f++L.drop i).map (D.int .i32))[i]?=some (.int .i32 L[i]):=by rw[aud,aul atw];(have:i-(List.map f (List.take i L)).length=0:=by simp;omega);rw[this];simp[aE]);refine go ?_;refine .inr (af.ev aL 9 rfl rfl rfl rfl rfl rfl rfl atv (by rw[hlen];omega) ?_);refine go ?_;refine .inr (af.mz aL 9 (i:=i) atB rfl rfl h9 ?_);refine go ?_;refine br (M _ (atK aE)) ?_;refine .inr (af.ev aL 9 rfl rfl rfl rfl rfl rfl rfl atv (by rw[hlen];omega) ?_);refine go ?_;refine .inr (af.nC aL 9 (i:=i) atB rfl rfl rfl (by rw[hlen];omega) rfl ?_);refine go ?_;exact⟨⟨i+1,by omega⟩,[(9,9)],by show _-(i+1)<_-i;omega,ar,rfl,rfl,atI (λV=>some (aI.row (.slice bQ L.length cap) V 1 21)) (map_set f L aE),ai⟩;refine wT ?_;(have cg:i=L.length:=by simp at hc;omega);(have dN:((L.take i).map f++L.drop i).map (D.int .i32)=dy (L.map f):=by subst cg;simp[dy]);rw[dN];refine Y.fd [(5,.an (.slice bQ L.length cap))] [(9,.row (.slice bQ L.length cap) (dy (L.map f)) 1 21)] [(9,9)] ⟨ar,rfl,ba⟩ ?_;refine Y.vv 9 5 rfl ?_;refine go ?_;exact E
theorem ahT(n:Nat)(h:n<=65533)(hs:n<55296\/57343<n)(rest:atE):dR ((Utf8.encode (n:Int)).data.toList++rest)=(n,(Utf8.encode (n:Int)).data.toList.length):=by(have W:Utf8.valid (n:Int)=true:=by simp[Utf8.valid];omega);(have fR:∀x:Nat,x<256->(UInt8.ofNat x).toNat=x:=λx F=>by rw[av7];omega);by_cases h1:n<128;(have e:(Utf8.encode (n:Int)).data.toList=[UInt8.ofNat n]:=by unfold Utf8.encode;simp only[W,auT,auq];rw[atH h1]);rw[e,Fa atx];simp only[aw8,atQ,List.getD_cons_zero,auf,At];rw[fR n atv,atH h1];by_cases z:n<2048;(have e:(Utf8.encode (n:Int)).data.toList=[UInt8.ofNat (192+n/64),UInt8.ofNat (128+n%64)]:=by unfold Utf8.encode;simp only[W,auT,auq];rw[atG h1,atH z]);rw[e,Fa atx];simp only[auO,au4,atQ,List.getD_cons_zero,List.getD_cons_succ,auf,At];rw[fR (192+n/64) atv,fR (128+n%64) atv];rw[atG atv,atH ⟨by omega,by omega,by omega⟩,atH atv];exact Prod.ext (by dsimp only;omega) rfl;(have e:(Utf8.encode (n:Int)).data.toList=[UInt8.ofNat (224+n/4096),UInt8.ofNat (128+n/64%64),UInt8.ofNat (128+n%64)]:=by unfold Utf8.encode;simp only[W,auT,auq];rw[atG h1,atG z,atH atv]);rw[e,Fa atx];simp only[auO,au4,atQ,List.getD_cons_zero,List.getD_cons_succ,auf,At];rw[fR (224+n/4096) atv,fR (128+n/64%64) atv,fR (128+n%64) atv];rw[atG atv,atG atv,atH ⟨by omega,⟨by omega,by omega⟩,by omega,by omega⟩,atH ⟨by omega,by omega⟩];exact Prod.ext (by dsimp only;omega) rfl
theorem Wc(r:Int):(Utf8.encode r).data.toList≠[]:=by intro h;unfold Utf8.encode at h;dsimp only at h;generalize(if Utf8.valid r=true then r.toNat else Utf8.runeError)=c at h;by_cases h1:c<128;rw[atH h1]at h;cases h;rw[atG h1]at h;by_cases z:c<2048;rw[atH z]at h;cases h;rw[atG z]at h;by_cases aa:c<65536;rw[atH aa]at h;cases h;rw[atG aa]at h;cases h
theorem yY:∀(l:List Int),(∀r∈l,eo r=true)->jE (cw l)=some l
 |[],_=>rfl
 |r::l,h=>by obtain⟨h1,z,aa⟩:=(sl r).1 (h r atS);have aY:=yY l λx F=>h x (atU _ F);obtain⟨n,rfl⟩:∃n:Nat,r=n:=⟨r.toNat,by omega⟩;have N:=ahT n atv atv (cw l);(have e:cw ((n:Int)::l)=(Utf8.encode (n:Int)).data.toList++cw l:=by simp[cw]);rw[e];have aX:(Utf8.encode (n:Int)).data.toList++cw l≠[]:=λh=>Wc _ (awX.1 h).1;rw[yz aX,N];(have G:mf ((Utf8.encode (n:Int)).data.toList++cw l)=false:=by simp only[mf,N,h (n:Int) atS,Bool.not_true,Bool.false_or,avk,aur];by_cases a_:n=65533;subst a_;right;decide +kernel;left;exact a_);rw[G];simp[aY]
variable{r:Int}{i:Nat}
theorem ahU(h:eo r=true)(hi:(Utf8.encode r).data.toList[i]?=some 46):r=46/\i=0:=by obtain⟨h1,z,aa⟩:=(sl r).1 h;obtain⟨n,rfl⟩:∃n:Nat,r=n:=⟨r.toNat,by omega⟩;(have fR:∀x:Nat,x<256->(UInt8.ofNat x).toNat=x:=λx F=>by rw[av7];omega);(have aX:∀x:Nat,x<256->128<=x->UInt8.ofNat x≠46:=λx F Of e=>by have:=atI UInt8.toNat e;rw[fR x F]at this;have Wd:(46:UInt8).toNat=46:=rfl;omega);(have W:Utf8.valid (n:Int)=true:=by simp[Utf8.valid];omega);by_cases mb:n<128;(have e:(Utf8.encode (n:Int)).data.toList=[UInt8.ofNat n]:=by unfold Utf8.encode;simp only[W,auT,auq];rw[atH mb]);rw[e]at hi;(match i,hi with|0,hi =>(have:UInt8.ofNat n=46:=by simpa using hi);have:=atI UInt8.toNat this;rw[fR n atv]at this;have Wd:(46:UInt8).toNat=46:=rfl;exact⟨by omega,rfl⟩|i+1,hi=>simp at hi);exfalso;by_cases z:n<2048;(have e:(Utf8.encode (n:Int)).data.toList=[UInt8.ofNat (192+n/64),UInt8.ofNat (128+n%64)]:=by unfold Utf8.encode;simp only[W,auT,auq];rw[atG mb,atH z]);rw[e]at hi;(match i,hi with|0,hi=>exact aX (192+n/64) atv atv (by simpa using hi)|1,hi=>exact aX (128+n%64) atv atv (by simpa using hi)|i+2,hi=>simp at hi);(have e:(Utf8.encode (n:Int)).data.toList=[UInt8.ofNat (224+n/4096),UInt8.ofNat (128+n/64%64),UInt8.ofNat (128+n%64)]:=axZ);rw[e]at hi;match i,hi with|0,hi=>exact aX (224+n/4096) atv atv (by simpa using hi)|1,hi=>exact aX (128+n/64%64) atv atv (by simpa using hi)|2,hi=>exact aX (128+n%64) atv atv (by simpa using hi)|i+3,hi=>simp at hi
theorem Jc:∀(l:List Int),(∀r∈l,eo r=true)->∀i,(cw l)[i]?=some 46->∃dI cu,l=dI++46::cu/\(cw dI).length=i
 |[],_,i,h=>by simp[cw]at h
 |r::l,al,i,h=>by(have e:cw (r::l)=(Utf8.encode r).data.toList++cw l:=by simp[cw]);rw[e,axa]at h;split at h;obtain⟨rfl,rfl⟩:=ahU (al r atS) h;exact⟨[],l,rfl,rfl⟩;rename_i hi;obtain⟨dI,cu,rfl,hlen⟩:=Jc l (λx F=>al x (atU _ F)) _ h;refine⟨r::dI,cu,rfl,?_⟩;(have e:cw (r::dI)=(Utf8.encode r).data.toList++cw dI:=by simp[cw]);rw[e,atO,hlen];omega
theorem We:(Utf8.encode 46).data.toList=[46]:=by decide +kernel
theorem ahV{s:atE}{l:List Int}(hc:jE s=some l): (no s=-1/\(46:Int)∉l)\/∃dI cu,l=dI++46::cu/\(46:Int)∉cu/\no s=(cw dI).length/\s=cw dI++46::cw cu:=by obtain⟨G,k6⟩:=CU s.length s l (atP _) hc;(have lY:∀dI cu:List Int,l=dI++46::cu->s=cw dI++46::cw cu:=λdI cu e=>by rw[<-G,e,AV];(have:cw (46::cu)=(Utf8.encode 46).data.toList++cw cu:=by simp[cw]);rw[this,We];rfl);(have h9:∀j,(Z:j<s.length)->(⟨⟨s⟩⟩:ByteArray).data[j]! = s[j]:=λj Z=>by simp[Z]);have hsz:(⟨⟨s⟩⟩:ByteArray).size=s.length:=rfl;rcases Lib.lastIndexByte_spec ⟨⟨s⟩⟩ 46 with⟨h1,z⟩|⟨i,hi,h1,z,aa⟩;refine .inl ⟨h1,λh=>?_⟩;obtain⟨dI,cu,e⟩:=List.append_of_mem h;have hs:=lY dI cu e;(have bi:(cw dI).length<s.length:=by rw[hs];simp);have:=z (cw dI).length (by rw[hsz];exact bi);rw[h9 _ bi]at this;apply this;(have:s[(cw dI).length]=46:=by simp[hs]);rw[this];rfl;rw[hsz]at hi;rw[h9 i hi]at z;(have Wf:s[i]?=some 46:=by rw[atJ hi];congr 1;apply UInt8.toNat_inj.1;have Wd:(46:UInt8).toNat=46:=rfl;omega);rw[<-G]at Wf;obtain⟨dI,cu,e,hlen⟩:=Jc l k6 i Wf;have hs:=lY dI cu e;refine .inr ⟨dI,cu,e,λh=>?_,by rw[no,h1,hlen],hs⟩;obtain⟨q',I3,b0⟩:=List.append_of_mem h;have ju:=lY (dI++46::q') I3 (by rw[e,b0];simp);(have bi:(cw (dI++46::q')).length<s.length:=by rw[ju];simp);(have ahW:i<(cw (dI++46::q')).length:=by rw[AV,atO,hlen];(have:cw (46::q')=(Utf8.encode 46).data.toList++cw q':=by simp[cw]);rw[this,We];simp);have:=aa _ ahW (by rw[hsz];exact bi);rw[h9 _ bi]at this;apply this;(have:s[(cw (dI++46::q')).length]=46:=by(have:s[(cw (dI++46::q')).length]?=some 46:=by rw[ju];simp);rw[atJ bi]at this;exact auA this);rw[this];rfl
def kK:List Int->Int
 |[]=>-1
 |x::r=>if 0<=kK r then kK r+1 else if x=46 then 0 else -1
theorem Oj:∀{l:List Int},(46:Int)∉l->kK l=-1
 |[],_=>rfl
 |x::r,h=>by have aY:=Oj (l:=r) λbq=>h (atU _ bq);simp only[kK];rw[aY,atG atv,atG (λe=>h (by rw[e];exact atS))]
theorem Wg:∀(dI:List Int) {cu:List Int},(46:Int)∉cu->kK (dI++46::cu)=dI.length
 |[],cu,h=>by simp[kK,Oj h]
 |x::dI,cu,h=>by have aY:=Wg dI h;simp only[auO,kK,aY,atQ];rw[atH atv];omega
def gX(v:Int)(l:List Int)(bb:Bool):List Int×List Int :=
 if bb=false/\0<kK l/\kK l<(l.length:Int)-1/\(v=0\/(l.length:Int)-1-kK l<=16)then(l.take (kK l).toNat,l.drop (kK l+1).toNat)
 else if bb=false/\v=0/\0<kK l/\kK l=(l.length:Int)-1 then(l.take (kK l).toNat,[])else(l,[])
theorem Jd{l:List Int}:cw l=[]↔l=[]:=by cases l with|nil=>simp[cw]|cons r l =>(have:cw (r::l)=(Utf8.encode r).data.toList++cw l:=by simp[cw]);rw[this];simp only[awX,reduceCtorEq,iff_false];exact λh=>Wc r h.1
theorem ahX(a:atE):Lib.trimSuffix (a++[46]) [46]=a:=by simp[Lib.trimSuffix,Lib.hasSuffix]
theorem Wh{s:atE}(h:∀a,s≠a++[46]):Lib.trimSuffix s [46]=s:=by unfold Lib.trimSuffix;rw[atG];intro hs;(have:([46]:atE) <:+ s:=by simp only[Lib.hasSuffix]at hs;exact awa.1 hs);obtain⟨a,ha⟩:=this;exact h a ha.symm
theorem Ok(v:Int){s:atE}{l:List Int}(hc:jE s=some l)(bb:Bool): ik (hk v s bb).1=(gX v l bb).1/\ik (hk v s bb).2=(gX v l bb).2/\((hk v s bb).2=[]↔(gX v l bb).2=[]):=by have ae:=Ja hc;have h0:ik []=[]:=rfl;obtain⟨G,k6⟩:=CU s.length s l (atP _) hc;cases bb with|true =>simp only[hk,gX,auT,Bool.true_eq_false,false_and,avq,ae,h0,and_self,iff_self]|false =>rcases ahV hc with⟨h1,z⟩|⟨dI,cu,e,z,aa,aC⟩;have N:=Oj z;(have Je:sm v s=false:=by simp[sm,h1]);(have ax:Lib.trimSuffix s [46]=s:=Wh λa ha=>by(have:(cw l)[a.length]?=some 46:=by rw[G,ha];simp);obtain⟨dI,cu,e,_⟩:=Jc l k6 _ this;exact z (by rw[e];simp));(have au:gX v l false=(l,[]):=by simp[gX,N]);rw[au];simp only[hk,auR,avq,Je,ax];split<;>simp[ae,h0];have N:=Wg dI z;rw[<-e]at N;have eZ:∀r∈dI,eo r=true:=λr ae=>k6 r (by rw[e];simp[ae]);have bw:∀r∈cu,eo r=true:=λr ae=>k6 r (by rw[e];simp[ae]);have AP:ik (cw dI)=dI:=Ja (yY dI eZ);have qW:ik (cw cu)=cu:=Ja (yY cu bw);(have m_:l.length=dI.length+1+cu.length:=by rw[e];simp;omega);(have fg:s.length=(cw dI).length+1+(cw cu).length:=by rw[aC];simp;omega);(have mE:0<(cw dI).length↔0<dI.length:=by rw[auX,auX];exact not_congr Jd);(have hU:0<(cw cu).length↔0<cu.length:=by rw[auX,auX];exact not_congr Jd);(have Fi:s.take (no s).toNat=cw dI:=by rw[aa,aC];simp);(have lr:s.drop (no s+1).toNat=cw cu:=by(have:(no s+1).toNat=(cw dI).length+1:=by omega);rw[this,aC];simp);(have Wi:l.take (kK l).toNat=dI:=by rw[N,e];simp);(have ahY:l.drop (kK l+1).toNat=cu:=by(have:(kK l+1).toNat=dI.length+1:=by omega);rw[this,e];simp);(have Je:sm v s=true↔(0<dI.length/\0<cu.length/\(v=0\/(cu.length:Int)<=16)):=by simp only[sm,lr,qW,atM,aup,au3,avn];constructor;rintro⟨⟨a,b⟩,c⟩;exact⟨mE.1 atv,hU.1 atv,c⟩;rintro⟨a,b,c⟩;have:=mE.2 a;have:=hU.2 b;exact⟨⟨by omega,by omega⟩,c⟩);by_cases a_:0<dI.length/\0<cu.length/\(v=0\/(cu.length:Int)<=16);(have it:gX v l false=(dI,cu):=by rw[gX,atH ⟨rfl,by omega,by omega,by rcases a_.2.2 with h|h;exact .inl h;exact .inr atv⟩,Wi,ahY]);(have c6:hk v s false=(cw dI,cw cu):=by rw[hk,atG atx,atH (Je.2 a_),Fi,lr]);rw[it,c6];exact⟨AP,qW,Jd⟩;have Wj:¬sm v s=true:=λh=>a_ (Je.1 h);(have AW:¬(false=false/\0<kK l/\kK l<(l.length:Int)-1/\(v=0\/(l.length:Int)-1-kK l<=16)):=by rintro⟨_,a,b,c⟩;exact a_ ⟨by omega,by omega,by rcases c with c|c;exact .inl c;exact .inr atv⟩);by_cases cC:v=0/\0<dI.length/\cu=[];obtain⟨W,kE,rfl⟩:=cC;(have it:gX v l false=(dI,[]):=by rw[gX,atG AW,atH ⟨rfl,W,by omega,by simp at m_;omega⟩,Wi]);(have c6:hk v s false=(cw dI,[]):=by have:=mE.2 kE;rw[hk,atG atx,atG Wj,atH ⟨W,by omega⟩];(have:s=cw dI++[46]:=by rw[aC];rfl);rw[this,ahX]);rw[it,c6];exact⟨AP,h0,by simp⟩;(have it:gX v l false=(l,[]):=by rw[gX,atG AW,atG];rintro⟨_,a,b,c⟩;exact cC ⟨a,by omega,atY atv⟩);(have c6:hk v s false=(s,[]):=by rw[hk,atG atx,atG Wj];split;rename_i eV;(have:Lib.trimSuffix s [46]=s:=Wh λa ha=>by by_cases nJ:cu=[];subst nJ;have kE:¬0<dI.length:=λh=>cC ⟨eV.1,h,rfl⟩;have:dI=[]:=atY atv;subst this;simp[cw]at fg;omega;have fZ:0<(cw cu).length:=hU.2 (auX.2 nJ);(have:(cw cu)[(cw cu).length-1]?=some 46:=by(have hI:s[s.length-1]?=some 46:=by rw[ha];simp);rw[aC]at hI;simp only[atO,atQ]at hI;rw[aul atv]at hI;(have:(cw dI).length+((cw cu).length+1)-1-(cw dI).length=(cw cu).length-1+1:=by omega);rw[this]at hI;simpa using hI);obtain⟨q',I3,j',_⟩:=Jc cu bw _ this;exact z (by rw[j'];simp));rw[this];rfl);rw[it,c6];exact⟨ae,h0,by simp⟩
def e4(v:Int)(r:Int):Int:=if v=0 then ic r else lF r
def kn(v:Int):Nat:=if v=0 then 3 else 64
def fS(v:Int)(s:atE)(bb:Bool):List Int×List Int :=
 ((ik (hk v s bb).1).map (e4 v),if(hk v s bb).2=[]then[]else 46::((ik (hk v s bb).2).map (e4 v)).take (kn v))
theorem Wk(v r:Int)(h:eo r=true):aS B (bif v==0 then 299 else 298) [.int .i32 r] (.int .i32 (e4 v r)):=by obtain⟨h1,z,aa⟩:=(sl r).1 h;cases W:(v==0)with|true =>(have:v=0:=by simpa using W);rw[e4,atH this];exact ahO r atv atv|false =>(have:¬v=0:=by simpa using W);rw[e4,atG this];exact ahK r h
variable{bb:Bool}
theorem Ol{v:Int}{l:List Int}(h:∀r∈l,eo r=true):(∀r∈(gX v l bb).1,eo r=true)/\∀r∈(gX v l bb).2,eo r=true:=by unfold gX;split;exact⟨λr ae=>h r (auL ae),λr ae=>h r (avV ae)⟩;split;exact⟨λr ae=>h r (auL ae),λr ae=>by cases ae⟩;exact⟨h,λr ae=>by cases ae⟩
theorem ahZ(s p:atE):(Lib.trimSuffix s p).length<=s.length:=by unfold Lib.trimSuffix;split<;>simp
theorem Wl(v:Int)(s:atE)(bb:Bool):(hk v s bb).1.length<=s.length/\(hk v s bb).2.length<=s.length:=by unfold hk;split;simp;split;simp;omega;split;have:=ahZ s [46];simp;omega;simp
def Wm(a1 ck:List Int):D:=.agg [.Q .none 1 (dy a1),.Q .none 1 (dy ck)]
theorem Wn(v:Int)(s:atE)(l:List Int)(bb:Bool)(hs:s.length<1000000)(hc:jE s=some l):aS B 255 [u v,.O s,.bool bb] (Wm (fS v s bb).1 (fS v s bb).2):=by have k6:=(CU s.length s l (atP _) hc).2;obtain⟨lc,kL,oX⟩:=Ok v hc bb;have Om:=Ol (v:=v) (bb:=bb) k6;have im:=Wl v s bb;refine bB Tryz.func255 Tryz.ntmps255 λU=>?_;refine go ?_;intro ea;refine ch ?_;refine Y.l0 (α:=Unit) (λx=>[(0,u v),(1,.O s),(2,.bool bb),(6,.box 6 ea 0),(7,.fn (.func (bif v==0 then 299 else 298)) [] []),(8,u (bif v==0 then 3 else 64))]) (λx=>[(6,.box ea [.bh,.bh])]) ?_ ?_;refine go ?_;refine aJ _ rfl ?_ ?_<;>intro hc;refine go ?_;exact⟨(),[(6,6)],⟨E,E,E,E,aq.of_eq (atI (λV=>D.fn (.func (bif V then 299 else 298)) [] []) hc.symm),aq.of_eq (atI (λV=>u (bif V then 3 else 64)) hc.symm),ai⟩,rfl,ba⟩;refine go ?_;exact⟨(),[(6,6)],⟨E,E,E,E,aq.of_eq (atI (λV=>D.fn (.func (bif V then 299 else 298)) [] []) hc.symm),aq.of_eq (atI (λV=>u (bif V then 3 else 64)) hc.symm),ai⟩,rfl,ba⟩;rintro⟨⟩;refine go ?_;refine br (ahS v s bb atv) ?_;refine br (Wb (hk v s bb).1 _ (e4 v) atv (λr ae=>Wk v r (Om.1 r (by rw[<-lc];exact ae)))) ?_;intro yZ;refine go ?_;refine aJ _ rfl ?_ ?_<;>intro hc;refine ch ?_;refine⟨[.O (hk v s bb).2,.fn (.func (bif v==0 then 299 else 298)) [] []],_,λ_=>Wb (hk v s bb).2 _ (e4 v) atv (λr ae=>Wk v r (Om.2 r (by rw[<-kL];exact ae))),ar,?_⟩;(conv=>whnf);have h7:=F4 (hk v s bb).2;generalize uJ:(ik (hk v s bb).2).map (e4 v)=ff;(have arN:ff.length<=1000000:=by rw[<-uJ];simp;omega);(have Wo:(0:Int)<=(bif v==0 then 3 else 64):=by cases(v==0)<;>simp);refine nc ?_;refine pe ?_;(have Jf:(0:Int)<=(if(bif v==0 then(3:Int)else 64)<((dy ff).length:Int)then(bif v==0 then(3:Int)else 64)else((dy ff).length:Int))/\(if(bif v==0 then(3:Int)else 64)<((dy ff).length:Int)then(bif v==0 then(3:Int)else 64)else((dy ff).length:Int))<=((dy ff).length:Int):=by split<;>omega);(have ah0:(ff.take (kn v))=ff.take (if(bif v==0 then(3:Int)else 64)<((dy ff).length:Int)then(bif v==0 then(3:Int)else 64)else((dy ff).length:Int)).toNat:=by(have e:((bif v==0 then(3:Int)else 64)).toNat=kn v:=by unfold kn;cases W:(v==0)with|true=>rw[atH (by simpa using W)];rfl|false=>rw[atG (by simpa using W)];rfl);split;rw[e];rename_i bi;(have:ff.length<=kn v:=by rw[<-e];simp[dy]at bi;omega);rw[aue this,aue (by simp[dy])]);refine⟨λ_=>⟨auu _,Jf.1,Jf.2⟩,?_⟩;refine go ?_;refine⟨by show(_+_)*4<=_;simp[dy];omega,by show _+_<=_;simp[dy];omega,atC,λw=>?_⟩;refine go ?_;(have aX:¬(hk v s bb).2=[]:=by simpa using hc);refine aq.agg ?_;refine⟨E,⟨λw' aO aj h=>?_⟩,ai⟩;have z:=(aq.m7 (t:=.own 38 w)).le w' aO aj h;(have e:([D.int .i32 46]++(List.drop (Int.toNat 0) ((dy ff).take (if(bif v==0 then(3:Int)else 64)<((dy ff).length:Int)then(bif v==0 then(3:Int)else 64)else((dy ff).length:Int)).toNat)))=dy (fS v s bb).2:=by simp only[fS];rw[atG aX,uJ,ah0];simp[dy]);rw[<-e];exact z;refine go ?_;(have aX:(hk v s bb).2=[]:=by simpa using hc);(have e:(fS v s bb).2=[]:=by simp only[fS];rw[atH aX]);refine aq.agg ?_;refine⟨E,?_,ai⟩;rw[e];exact aq.nil
theorem Wp:∀k,k<100->(Lib.decDigits k).length<=2:=by intro k X;rw[Lib.decDigits];split;simp;rw[Lib.decDigits,avv atv];simp
def iP(k:Nat):List Int:=if 0<k then ik (Lib.decDigits k)else[]
variable{k:Nat}
theorem F5(X:k<100):(iP k).length<=2:=by unfold iP;split;have:=F4 (Lib.decDigits k);have:=Wp k X;omega;simp
def ow(v:Int)(ck:List Int)(k:Nat):Int:=bif v==1 then 64-(ck.length:Int)-((iP k).length:Int)else 8-((iP k).length:Int)
def jH(v:Int)(a1 ck:List Int)(k:Nat):Nat:=(if(if ow v ck k<(a1.length:Int)then ow v ck k else(a1.length:Int))>0 then(if ow v ck k<(a1.length:Int)then ow v ck k else(a1.length:Int))else 0).toNat
def ko(v:Int)(a1 ck:List Int)(k:Nat):atE:=cw (a1.take (jH v a1 ck k)++iP k++ck)
theorem Jg(v:Int)(a1 ck:List Int)(k:Nat)(X:k<100)(aZ:a1.length<1000000)(rN:ck.length<1000000):aS B 256 [Wm a1 ck,u v,u (k:Nat)] (.O (ko v a1 ck k)):=by have fg:=F5 X;refine bB Tryz.func256 Tryz.ntmps256 λU=>?_;refine ch ?_;intro eD;apply b3;(conv=>whnf);refine cT ?_;refine Y.l0 (α:=Unit) (λx=>[(1,u v),(3,.box 3 eD 0),(7,.Q .none 1 (dy (iP k)))]) (λx=>[(3,.box eD [.Q .none 1 (dy a1),.Q .none 1 (dy ck)])]) ?_ ?_;refine go ?_;refine aJ _ rfl ?_ ?_<;>intro hc;refine go ?_;refine br (Od k X) ?_;refine⟨by have:=Wp k X;omega,?_⟩;refine go ?_;(have h0:0<k:=by simpa using hc);exact⟨(),[(3,3)],⟨E,E,aq.of_eq (atI (D.Q .none 1) (by rw[iP,atH h0];rfl)),ai⟩,rfl,ba⟩;refine go ?_;(have h0:¬0<k:=by simpa using hc);exact⟨(),[(3,3)],⟨E,E,⟨λw C aj h=>by rw[iP,atG h0];exact h.js⟩,ai⟩,rfl,ba⟩;rintro⟨⟩;generalize On:iP k=S at*;refine ch ?_;refine .inl ⟨λ_=>by simp only[dk,dy,atL];omega,?_⟩;(conv=>whnf);refine Y.l0 (α:=Unit) (λx=>[(1,u v),(3,.box 3 eD 0),(7,.Q .none 1 (dy S)),(8,u (ow v ck k))]) (λx=>[(3,.box eD [.Q .none 1 (dy a1),.Q .none 1 (dy ck)])]) ?_ ?_;refine go ?_;refine aJ _ rfl ?_ ?_<;>intro hc;refine go ?_;refine .inl ⟨λ_=>by simp only[dk,dy,atL];omega,?_⟩;refine go ?_;refine .inl ⟨λ_=>by simp only[dk,dy,atL];omega,?_⟩;refine go ?_;exact⟨(),[(3,3)],⟨E,E,E,aq.of_eq (atI (D.int .i64) (by rw[ow,hc,On];simp[dy])),ai⟩,rfl,ba⟩;refine go ?_;exact⟨(),[(3,3)],⟨E,E,E,aq.of_eq (atI (D.int .i64) (by rw[ow,hc,On];simp[dy])),ai⟩,rfl,ba⟩;rintro⟨⟩;refine qU ?_;refine⟨ai,?_⟩;apply mB;apply cD;apply mB;refine ez ?_;(have dV:(if ow v ck k<((dy a1).length:Int)then ow v ck k else((dy a1).length:Int))<=((dy a1).length:Int):=by split<;>omega);generalize gL:(if ow v ck k<((dy a1).length:Int)then ow v ck k else((dy a1).length:Int))=ap at*;refine oc ?_;refine⟨λ_=>⟨auu _,by split<;>omega,by split<;>omega⟩,?_⟩;refine go ?_;refine⟨by show(_+_)*4<=_;simp[dy];omega,by show _+_<=_;simp[dy];omega,atC,λv9=>?_⟩;refine go ?_;(have lG:([]++List.drop (Int.toNat 0) ((dy a1).take (if ap>0 then ap else 0).toNat))=dy (a1.take (jH v a1 ck k)):=by(have e:jH v a1 ck k=(if ap>0 then ap else 0).toNat:=by rw[<-gL];simp only[jH,dy,atL]);rw[e];simp[dy]);rw[avp,lG];(have IN:(a1.take (jH v a1 ck k)).length<=1000000:=by simp;omega);generalize ah1:a1.take (jH v a1 ck k)=bA at*;generalize EM:v9=c' at*;refine go ?_;(have CV:∀(x:Value×Value) (cc cx:Bool) (A:aw),A.H=aK ((3,.box eD [.Q .none 1 (dy a1),.Q .none 1 (dy ck)])::(bif cc then(bif cx then[(44,.own x.2 (bA++S++ck).length 1 21)]else[(41,.own x.1 (bA++S).length 1 21)])else[(38,.own c' bA.length 1 21)]))->m2 A ((3,.box eD [.Q .none 1 (dy a1),.Q .none 1 (dy ck)])::(bif cc then(bif cx then[(44,.own x.2 (bA++S++ck).length 1 21)]else[(41,.own x.1 (bA++S).length 1 21)])else[(38,.own c' bA.length 1 21)])):=by intro x cc cx A h;cases cc<;>cases cx<;>exact⟨by rw[h];rfl,by rw[h];rfl,ai⟩);(have sK:∀(x:Value×Value) (cc cx:Bool),cc=true->cx=false->∀A:aw,A.H 3=some (.box eD [.Q .none 1 (dy a1),.Q .none 1 (dy ck)])->A.H 41=some (.own x.1 (bA++S).length 1 21)->m2 A ((3,.box eD [.Q .none 1 (dy a1),.Q .none 1 (dy ck)])::(bif cc then(bif cx then[(44,.own x.2 (bA++S++ck).length 1 21)]else[(41,.own x.1 (bA++S).length 1 21)])else[(38,.own c' bA.length 1 21)])):=by intro x cc cx z a_ A g1 eP;subst z a_;exact⟨g1,eP,ai⟩);refine Y.acE aL mixed (α:=Value×Value) (λx f=>[(3,.box 3 eD 0),(7,.Q .none 1 (dy S)),(9,.Q (.own 38 c') 1 (dy bA)),(39,bif f 0 then .Q (.own 38 c') 1 (dy bA)else .any),(40,bif f 1 then .Q .none 1 (dy S)else .any),(41,bif f 2 then .Q (.own 41 x.1) 1 (dy (bA++S))else .any),(42,bif f 3 then .box 3 eD 1 else .any),(43,bif f 4 then .Q .none 1 (dy ck)else .any),(44,bif f 5 then .Q (.own 44 x.2) 1 (dy (bA++S++ck))else .any),(45,bif f 6 then .O (cw (bA++S++ck))else .any),(6,bif f 7 then .O (cw (bA++S++ck))else .any)]) (λx f=>(3,.box eD [.Q .none 1 (dy a1),.Q .none 1 (dy ck)])::(bif f 2 then(bif f 5 then[(44,.own x.2 (bA++S++ck).length 1 21)]else[(41,.own x.1 (bA++S).length 1 21)])else[(38,.own c' bA.length 1 21)])) atz (c',c') ?_ ?_ ?_ ?_;exact⟨E,E,E,.any _,.any _,.any _,.any _,.any _,.any _,.any _,.any _,ai⟩;exact⟨rfl,atI (λV=>some (aI.own c' V 1 21)) (by have:=atI List.length lG;simpa[dy]using this),ai⟩;refine go ?_;refine⟨λx f be=>?_,?_⟩;refine go ?_;refine⟨x,ar,CV x _ _ _ rfl⟩;refine⟨λx f be=>?_,?_⟩;refine go ?_;refine⟨x,ar,CV x _ _ _ rfl⟩;refine⟨λx f be=>?_,?_⟩;(conv=>whnf);refine oc ?_;refine⟨rfl,by simp[dy],?_⟩;refine go ?_;refine⟨by show(_+_)*4<=_;simp[dy];omega,by show _+_<=_;simp[dy];omega,atC,λw=>?_⟩;refine⟨(w,x.2),⟨E,E,E,E,E,aq.of_eq (atI (D.Q _ 1) (by simp[dy])),E,E,E,E,E,ai⟩,?_⟩;exact sK (w,x.2) _ _ rfl (be.n 5 2) _ rfl (atI (λV=>some (aI.own w V 1 21)) (by simp[dy]));refine⟨λx f be=>?_,?_⟩;refine go ?_;refine⟨x,ar,CV x _ _ _ rfl⟩;refine⟨λx f be=>?_,?_⟩;refine go ?_;refine⟨x,ar,CV x _ _ _ rfl⟩;refine⟨λx f be=>?_,?_⟩;(conv=>whnf);refine oc ?_;refine⟨rfl,by simp[dy],?_⟩;refine go ?_;refine⟨by show(_+_)*4<=_;simp[dy];omega,by show _+_<=_;simp[dy];omega,atC,λw=>?_⟩;refine⟨(x.1,w),⟨E,E,E,E,E,E,E,E,aq.of_eq (atI (D.Q _ 1) (by simp[dy])),E,E,ai⟩,?_⟩;exact⟨rfl,atI (λV=>some (aI.own w V 1 21)) (by simp[dy,avF]),ai⟩;refine⟨λx f be=>?_,?_⟩;refine go ?_;refine⟨bA++S++ck,rfl,?_⟩;refine go ?_;refine⟨x,ar,CV x _ _ _ rfl⟩;refine⟨λx f be=>?_,?_⟩;refine go ?_;refine⟨x,ar,CV x _ _ _ rfl⟩;exact trivial;intro x f M;have FA:=M 7 atz;refine go ?_;rw[FA];exact aq.of_eq (atI D.O (by rw[ko,On,ah1]))
theorem Wq(h1:10<=k)(z:k<100):Lib.decDigits k=[UInt8.ofNat (48+k/10),UInt8.ofNat (48+k%10)]:=by rw[Lib.decDigits,awQ atv,Lib.decDigits,avv atv];rfl
theorem Wr:∀(s:atE),(∀b∈s,32<=b.toNat/\b.toNat<127)->jE s=some (s.map λb=>(b.toNat:Int))
 |[],_=>rfl
 |b::s,h=>by have G:=h b atS;have aY:=Wr s λx F=>h x (atU _ F);have:=yY ((b::s).map λb=>(b.toNat:Int)) (by intro r ae;obtain⟨c,hc,rfl⟩:=at3.1 ae;have:=h c hc;exact(sl _).2 ⟨by omega,by omega,by omega⟩);(have e:∀l:atE,(∀b∈l,32<=b.toNat/\b.toNat<127)->cw (l.map λb=>(b.toNat:Int))=l:=by intro l;induction l with|nil=>intro _;rfl|cons c l aY =>intro al;(have e:cw ((c::l).map λb=>(b.toNat:Int))=(Utf8.encode (c.toNat:Int)).data.toList++cw (l.map λb=>(b.toNat:Int)):=by simp[cw]);rw[e,aY λx F=>al x (atU _ F)];have hc:=al c atS;(have bT:(Utf8.encode (c.toNat:Int)).data.toList=[UInt8.ofNat c.toNat]:=by unfold Utf8.encode;simp only[show Utf8.valid (c.toNat:Int)=true by simp[Utf8.valid];omega,auT,auq];rw[atH atv]);rw[bT];simp);rw[e (b::s) h]at this;exact this
theorem ah2(h1:10<=k)(z:k<100):∀b∈Lib.decDigits k,32<=b.toNat/\b.toNat<127:=by rw[Wq h1 z];(have fR:∀x:Nat,x<256->(UInt8.ofNat x).toNat=x:=λx F=>by rw[av7];omega);intro b G;simp only[at6,aw5,awB]at G;rcases G with rfl|rfl;rw[fR _ atv];omega;rw[fR _ atv];omega
theorem F6(h1:10<=k)(z:k<100):iP k=[48+((k/10:Nat):Int),48+((k%10:Nat):Int)]:=by
 have fR:∀x:Nat,x<256->(UInt8.ofNat x).toNat=x:=λx F=>by rw[av7];omega
 rw[iP,atH atv,Ja (Wr _ (ah2 h1 z)),Wq h1 z];simp only[aum,avp];rw[fR _ atv,fR _ atv];rfl
theorem Ws(h1:10<=k)(z:k<100):∀r∈iP k,eo r=true:=by rw[F6 h1 z];intro r ae;simp only[at6,aw5,awB]at ae;rcases ae with rfl|rfl<;>exact(sl _).2 ⟨by omega,by omega,by omega⟩
theorem ah3{a b:List Int}(ha:∀r∈a,eo r=true)(G:∀r∈b,eo r=true)(h:cw a=cw b):a=b:=by have h1:=yY a ha;rw[h,yY b G]at h1;exact(auA h1).symm
variable{j:Nat}
theorem ah4(v:Int)(a1 ck:List Int)(vB:10<=j)(lD:j<100)(y0:10<=k)(rd:k<100)(h:ko v a1 ck j=ko v a1 ck k):j=k:=by
 have hs:jH v a1 ck j=jH v a1 ck k:=by simp only[jH,ow,F6 vB lD,F6 y0 rd,atQ,auf]
 simp only[ko,hs]at h;rw[AV,AV,AV,AV]at h;have h:=List.append_cancel_left (List.append_cancel_right h);have:=ah3 (Ws vB lD) (Ws y0 rd) h;rw[F6 vB lD,F6 y0 rd]at this;simp only[avU,and_true]at this;omega
def ti(v:Int)(v6:List atE)(a1 ck:List Int):Nat:=((List.range 100).find? λk=>decide (ko v a1 ck k∉v6)).getD 0
theorem CW(v:Int)(v6:List atE)(a1 ck:List Int)(ao:v6.length<=64): ti v v6 a1 ck<100/\ko v a1 ck (ti v v6 a1 ck)∉v6/\∀j,j<ti v v6 a1 ck->ko v a1 ck j∈v6:=by unfold ti;cases h:(List.range 100).find? λk=>decide (ko v a1 ck k∉v6)with|none =>exfalso;rw[avi]at h;(have av:(((List.range 90).map (λi=>i+10)).map (ko v a1 ck)).Nodup:=by rw[auE,au_,au_];refine awO (R:=(·≠·)) ?_ (auE.1 List.nodup_range);intro a b ha G qL ak;simp only[auY]at ha G;have:=ah4 v a1 ck atv atv atv atv ak;omega);(have F7:((List.range 90).map (λi=>i+10)).map (ko v a1 ck) ⊆ v6:=by intro x F;obtain⟨y,hy,rfl⟩:=at3.1 F;obtain⟨i,hi,rfl⟩:=at3.1 hy;have:=h (i+10) (by simp at hi⊢;omega);simpa using this);have:=av.length_le_of_subset F7;simp at this;omega|some k =>obtain⟨h1,z,aa⟩:=awe.1 h;simp only[auI];refine⟨by simpa using z,by simpa using h1,λj Z=>by simpa using aa j Z⟩
def y1(v:Int)(aj:List atE)(k:ad):atE :=
 ko v (fS v k.name (k.kind==0)).1 (fS v k.name (k.kind==0)).2 (ti v aj (fS v k.name (k.kind==0)).1 (fS v k.name (k.kind==0)).2)
def j5(v:Int)(ah:List ad):List atE:=ah.foldl (λaj k=>y1 v aj k::aj) []
def uK(v:Int)(ah:List ad):List atE:=(j5 v ah).reverse
theorem F8(v:Int)(ah:List ad)(k:ad):j5 v (ah++[k])=y1 v (j5 v ah) k::j5 v ah:=by simp[j5]
variable{α:Type}
theorem xj{p:List α->Prop}(h0:p [])(h1:∀l x,p l->p (l++[x])):∀l,p l:=by intro l;(have:∀r:List α,p r.reverse:=by intro r;induction r with|nil=>exact h0|cons x r aY=>rw[avO];exact h1 _ _ aY);have:=this l.reverse;rwa [List.reverse_reverse]at this
theorem CX(v:Int)(ah:List ad):(j5 v ah).length=ah.length:=by refine xj (p:=λah=>(j5 v ah).length=ah.length) rfl (λl x aY=>?_) ah;rw[F8];simp[aY]
theorem ah5(v:Int)(aj:List atE)(k:ad)(ao:aj.length<=64):y1 v aj k∉aj:=(CW v aj _ _ ao).2.1
theorem Oo(v:Int)(ah:List ad):ah.length<=64->(j5 v ah).Nodup:=by refine xj (p:=λah=>ah.length<=64->(j5 v ah).Nodup) (λ_=>awP) (λl x aY al=>?_) ah;simp only[atO,atQ,auf]at al;rw[F8,avB];exact⟨ah5 v _ x (by rw[CX];omega),aY atv⟩
theorem ah6(r:Int):(Utf8.encode r).data.toList.length<=4:=by unfold Utf8.encode;dsimp only;generalize(if Utf8.valid r=true then r.toNat else Utf8.runeError)=c;split;simp;split;simp;split<;>simp
theorem Oq:∀l:List Int,(cw l).length<=4*l.length
 |[]=>by simp[cw]
 |r::l=>by(have e:cw (r::l)=(Utf8.encode r).data.toList++cw l:=by simp[cw]);have:=ah6 r;have:=Oq l;rw[e,atO,atQ];omega
theorem ah7(v:Int):kn v<=64:=by unfold kn;split<;>omega
theorem ah8{v:Int}{a1 ck:List Int}(X:k<100)(rN:ck.length<=65):(ko v a1 ck k).length<=1100:=by have h1:=Oq (a1.take (jH v a1 ck k)++iP k++ck);have z:=F5 X;(have aa:jH v a1 ck k<=64:=by(have ae:ow v ck k<=64:=by unfold ow;cases(v==1)<;>simp only[avo,auV]<;>omega);unfold jH;generalize ow v ck k=R at*;split<;>split<;>omega);(have aC:(a1.take (jH v a1 ck k)).length<=64:=by simp;omega);(have a_:(a1.take (jH v a1 ck k)++iP k++ck).length<=131:=by rw[atO,atO];omega);show(cw _).length<=_;omega
theorem Ot(v:Int)(s:atE)(d:Bool):(fS v s d).2.length<=65/\(fS v s d).1.length<=s.length/\(fS v s d).2.length<=s.length+1:=by have h:=Wl v s d;have h1:=F4 (hk v s d).1;have z:=F4 (hk v s d).2;have aa:=ah7 v;unfold fS;refine⟨?_,by simp;omega,?_⟩;dsimp only;split;simp;simp;omega;dsimp only;split;simp;simp;omega
theorem ah9(v:Int)(aj:List atE)(k:ad)(ao:aj.length<=64):(y1 v aj k).length<=1100 :=
 ah8 (CW v aj _ _ ao).1 (Ot v _ _).1
theorem ah_(v:Int)(ah:List ad):ah.length<=64->∀m∈j5 v ah,m.length<=1100:=by refine xj (p:=λah=>ah.length<=64->∀m∈j5 v ah,m.length<=1100) (λ_ m hm=>by cases hm) (λl x aY al=>?_) ah;simp only[atO,atQ,auf]at al;rw[F8];intro m hm;rcases at6.1 hm with rfl|hm;exact ah9 v _ x (by rw[CX];omega);exact aY atv m hm
variable{ah:List ad}{t:Nat}
theorem Wt{v:Int}(h:t<ah.length):j5 v (ah.take (t+1))=y1 v (j5 v (ah.take t)) ah[t]::j5 v (ah.take t):=by rw[atN h,F8]
variable{J:List ad}
theorem ah'{v:Int}(h:t<J.length)(V:D):(aU (j5 v (J.take t)).reverse++List.replicate (J.length-t) V).set t (.O (y1 v (j5 v (J.take t)) J[t]))=aU (j5 v (J.take (t+1))).reverse++List.replicate (J.length-(t+1)) V:=by
 rw[Wt h];have al:(aU (j5 v (J.take t)).reverse).length=t:=by simp[aU,CX];omega
 rw[List.set_append_right _ _ atv,al,aww,show J.length-t=(J.length-(t+1))+1 by omega,List.replicate_succ];simp[aU]
theorem aia(aV:dc B)(v:Int)(W:v=0\/v=1)(J:List ad)(hx:J.length<=64)(cv:∀k∈J,dT k.name=true/\k.name.length<1000000000)(mM:gP J):aS B 182 [u v,.Q .none 12 (J.map enc)] (.bl [.Q .none 1 (aU (uK v J)),u 0]):=by refine bB Tryz.func182 Tryz.ntmps182 λU=>?_;refine go ?_;intro bk;refine go ?_;refine br (Fl v) ?_;refine aJ _ rfl ?_ ?_<;>intro hc;refine go ?_;exfalso;(have:kh v=true:=by rcases W with rfl|rfl<;>rfl);rw[this]at hc;cases hc;refine go ?_;refine aJ _ rfl ?_ ?_<;>intro hc;refine go ?_;exfalso;simp at hc;omega;refine go ?_;refine .inr (af.x_ aL (n:=J.length) (ce:=.i64) (dn:=.i64) (V:=u 0) rfl rfl rfl rfl rfl ?_ ?_ (by show 8*_<=_;omega) atv λgR=>?_);show D.int _ _=_;simp;show D.int _ _=_;simp;refine go ?_;refine Y.ed (α:={i:Nat // i<=J.length}) (λx=>[(0,u v),(3,.box 3 bk 0),(6,.an gR),(25,.Q .none 12 (J.map enc)),(26,u (J.map enc).length),(27,u x.1)]) (λx=>[(24,.row gR (es x.1++List.replicate (J.length-x.1) (u 0)) 1 3),(3,.box bk [.Q .none 12 (J.map enc)])]) (λx=>J.length-x.1) ⟨0,by omega⟩ [(24,24),(3,3)] ⟨ar,rfl,ba⟩ ?_;rintro⟨i,hi⟩;dsimp only;refine go ?_;refine aJ _ rfl ?_ ?_<;>intro hc;refine fk ?_;(have aE:i<J.length:=by simpa using hc);(have dd:(es i).length=i:=by simp[es]);refine vm ?_;refine⟨aH J[i],λ_=>oe aE,?_⟩;refine go ?_;intro cF;refine go ?_;refine br (yE aV _ (cv _ (atK aE)).2) ?_;refine aJ _ rfl ?_ ?_<;>intro hc;refine go ?_;exfalso;rw[(cv _ (atK aE)).1]at hc;cases hc;refine go ?_;refine .inr (af.ev aL 24 rfl rfl rfl rfl rfl rfl rfl atv (by simp[dd];omega) ?_);refine go ?_;refine .inr (af.nC aL 24 (i:=i) atB rfl rfl rfl (by simp[dd];omega) rfl ?_);refine go ?_;exact⟨⟨i+1,by omega⟩,[(24,24),(3,3)],by show _-(i+1)<_-i;omega,ar,rfl,rfl,atI (λV=>some (aI.row gR V 1 3)) (N4 aE _),rfl,ba⟩;refine go ?_;(have cg:i=J.length:=by simp at hc;omega);(have dN:es i++List.replicate (J.length-i) (u 0)=es J.length:=by subst cg;simp);rw[dN];refine go ?_;refine .inr (af.call rfl [.an gR,.fn (.func 254) [] [.box 2000 bk 0]] [(2001,24),(2000,3)] (UO J mM atv bk gR) rfl ⟨E,aq.fn trivial ⟨aq.box,ai⟩,ai⟩ ?_);rintro d aM ⟨rfl,rfl⟩;refine rT ?_;refine Y.fd [(6,.an gR),(0,u v),(3,.box 3 bk 0)] [(24,.row gR (es J.length) 1 3),(3,.box bk [.Q .none 12 (J.map enc)])] [(24,24),(3,3)] ⟨ar,rfl,ba⟩ ?_;refine Y.vv 24 6 rfl ?_;refine go ?_;refine .inr (af.x_ aL (n:=J.length) (ce:=.i64) (dn:=.i64) (V:=.O []) rfl rfl rfl rfl rfl ?_ ?_ (by show 16*_<=_;omega) atv λdx=>?_);show D.int _ _=_;simp;show D.int _ _=_;simp;refine go ?_;refine .inr (af.makeMap λhz=>?_);refine go ?_;refine Y.ed (α:={i:Nat // i<=J.length}) (λx=>[(0,u v),(3,.box 3 bk 0),(6,.Q .none 1 (es J.length)),(48,.Q .none 1 (es J.length)),(49,u (es J.length).length),(50,u x.1),(9,.an dx),(10,.an (.map (some hz)))]) (λx=>[(46,.row dx (aU (j5 v (J.take x.1)).reverse++List.replicate (J.length-x.1) (.O [])) 1 9),(47,.set hz (j5 v (J.take x.1))),(3,.box bk [.Q .none 12 (J.map enc)])]) (λx=>J.length-x.1) ⟨0,by omega⟩ [(46,46),(47,47),(3,3)] ⟨ar,rfl,ba⟩ ?_;rintro⟨t,ax⟩;dsimp only;refine go ?_;refine aJ _ rfl ?_ ?_<;>intro hc;refine fk ?_;(have lE:t<J.length:=by simp[es]at hc;omega);(have pb:∀j,j<J.length->(J.map enc)[j]?=some (aH (J.getD j default)):=λj Z=>by rw[oe Z];simp[List.getD,Z]);refine gK ?_;refine⟨λ_=>by simp[es];omega,?_⟩;refine go ?_;refine⟨u (t:Nat),λ_=>by simp[es,lE],?_⟩;refine Ex ?_;apply cD;apply g9;refine g_ ?_;refine hG ?_;refine⟨λh=>by simp at h;simp[es];omega,?_⟩;refine go ?_;refine⟨u ((t-1:Nat):Int),λh=>ax4,?_⟩;refine hG ?_;refine nb ?_;refine⟨aH (J.getD (t-1) default),λh=>pb (t-1) atv,?_⟩;apply cD;refine hG ?_;refine oa ?_;refine hG ?_;refine⟨aH J[t],λh=>oe lE,?_⟩;refine go ?_;refine aJ _ rfl ?_ ?_<;>intro hc;refine go ?_;exfalso;(cases h0:decide ((0:Int)<t)with|false=>rw[h0]at hc;cases hc|true =>(have N5:0<t:=by simpa using h0);have aX:=s_ (sc mM (show t-1<t by omega) lE);rw[h0]at hc;have bw:((J.getD (t-1) default).name==J[t].name)=true:=hc;(have:(J.getD (t-1) default).name=J[t].name:=by simpa using bw);apply aX;rw[<-this];simp[List.getD,show t-1<J.length by omega]);apply cl;apply b3;refine mC ?_;refine⟨aH J[t],λ_=>oe lE,?_⟩;refine go ?_;refine aJ _ rfl ?_ ?_<;>intro hc;apply en;have jS:=I7 (cv _ (atK lE)).1;obtain⟨l,al,_,_,_,_⟩:=Jb (cv _ (atK lE)).1;have Ou:=Wn (B:=B) v J[t].name l (J[t].kind==0) atv al;have Ax:=Ot v J[t].name (J[t].kind==0);have y2:y1 v (j5 v (J.take t)) J[t]=ko v (fS v J[t].name (J[t].kind==0)).1 (fS v J[t].name (J[t].kind==0)).2 (ti v (j5 v (J.take t)) (fS v J[t].name (J[t].kind==0)).1 (fS v J[t].name (J[t].kind==0)).2):=rfl;have x8:=Wt (v:=v) lE;have x9:=ah' (v:=v) lE (.O []);have l1:=CW v (j5 v (J.take t)) (fS v J[t].name (J[t].kind==0)).1 (fS v J[t].name (J[t].kind==0)).2 (by rw[CX];simp;omega);generalize(fS v J[t].name (J[t].kind==0)).1=a1 at*;generalize(fS v J[t].name (J[t].kind==0)).2=ck at*;(have Ov:(j5 v (J.take t)).length=t:=by rw[CX];simp;omega);generalize j5 v (J.take t)=el at*;generalize hK:ti v el a1 ck=K at*;apply kF;refine mC ?_;refine⟨aH J[t],λ_=>oe lE,?_⟩;refine go ?_;refine br (Ou) ?_;intro qq;refine go ?_;refine br (Jg v a1 ck 0 atv atv atv) ?_;refine Y.ed (α:={j:Nat // j<=K}) (λx=>[(0,u v),(3,.box 3 bk 0),(6,.Q .none 1 (es J.length)),(48,.Q .none 1 (es J.length)),(49,u (es J.length).length),(50,u t),(9,.an dx),(10,.an (.map (some hz))),(12,u t),(13,.O (ko v a1 ck x.1)),(14,.box 14 qq 0),(15,u ((x.1+1:Nat):Int))]) (λx=>[(46,.row dx (aU el.reverse++List.replicate (J.length-t) (.O [])) 1 9),(47,.set hz el),(3,.box bk [.Q .none 12 (J.map enc)]),(14,.box qq [.Q .none 1 (dy a1),.Q .none 1 (dy ck)])]) (λx=>K-x.1) ⟨0,by omega⟩ [(46,46),(47,47),(3,3),(14,14)] ⟨ar,rfl,ba⟩ ?_;rintro⟨j,Z⟩;dsimp only;refine go ?_;refine .inr (af.L' 47 (dA:=9) (d9:=4) rfl rfl atD rfl rfl rfl ?_);refine aJ _ rfl ?_ ?_<;>intro hc;refine go ?_;have AX:ko v a1 ck j∈el:=auc hc;(have F9:j<K:=axK);refine go ?_;refine br (Jg v a1 ck (j+1) atv atv atv) ?_;exact⟨⟨j+1,by omega⟩,[(46,46),(47,47),(3,3),(14,14)],by show K-(j+1)<K-j;omega,ar,rfl,ba⟩;refine go ?_;have AX:ko v a1 ck j∉el:=at0 hc;(have F9:j=K:=by rcases at5 j K with h|h;exact absurd (l1.2.2 j h) AX;omega);subst F9;refine go ?_;refine .inr (af.Ep 47 (dA:=9) (d9:=4) rfl rfl rfl rfl rfl rfl ?_);refine go ?_;refine .inr (af.ev aL 46 rfl rfl rfl rfl rfl rfl rfl atv (by simp[aU,Ov];omega) ?_);refine go ?_;refine .inr (af.nC aL 46 (i:=t) atB rfl rfl rfl (by simp[aU,Ov];omega) rfl ?_);refine go ?_;exact⟨⟨t+1,by omega⟩,[(46,46),(47,47),(3,3)],by show _-(t+1)<_-t;omega,ar,rfl,rfl,atI (λV=>some (aI.row dx V 1 9)) (by rw[<-y2];exact x9),rfl,atI (λV=>some (aI.set hz V)) (by dsimp only;rw[x8,y2]),rfl,ba⟩;refine go ?_;exfalso;rcases W with rfl|rfl<;>cases hc;refine wT ?_;(have FR:t=J.length:=by simp[es]at hc;omega);(have FS:aU (j5 v (J.take t)).reverse++List.replicate (J.length-t) (D.O [])=aU (uK v J):=by subst FR;rw[aue (atP _)];simp[uK]);rw[FS];refine Y.fd [(9,.an dx)] [(46,.row dx (aU (uK v J)) 1 9)] [(46,46)] ⟨ar,rfl,ba⟩ ?_;exact ayb
theorem Wu(aV:dc B){v:Int}(W:v=0\/v=1):CR B v (uK v) :=
 ⟨λah hx mM cv=>⟨aia aV v W ah hx cv mM,by simp[uK,CX],by
  rw[uK,auE,aw6];exact(auE.1 (Oo v ah hx)).imp Ne.symm,λm hm=>ah_ v ah hx m (List.mem_reverse.1 hm)⟩⟩
theorem aib(h:eo r=true):eo (lF r)=true:=by unfold lF;split;decide;exact h
theorem aic(h:eo r=true):eo (ic r)=true:=by obtain⟨h1,z,aa⟩:=(sl r).1 h;unfold ic;split;exact(sl _).2 ⟨by omega,by omega,by omega⟩;split;exact h;decide
theorem Jh{v:Int}(h:eo r=true):eo (e4 v r)=true:=by unfold e4;split;exact aic h;exact aib h
end Go.bS.cp


namespace Go.bS.cp
open Go Go.Proofs
variable{B:World}
theorem Wv(r:Int)(l:List Int):cw (r::l)=(Utf8.encode r).data.toList++cw l:=by simp[cw]
end Go.bS.cp

namespace Go.bS.cp
open Go Go.Proofs
variable{B:World}
def re(v:Int)(aj:List atE)(k:ad):atE:=if v=0\/v=1 then y1 v aj k else k.name
def hl(v:Int)(ah:List ad):List atE:=ah.foldl (λaj k=>re v aj k::aj) []
def cd(v:Int)(ah:List ad):List atE:=(hl v ah).reverse
theorem xk(v:Int)(ah:List ad)(k:ad):hl v (ah++[k])=re v (hl v ah) k::hl v ah:=by simp[hl]
theorem tj(v:Int)(ah:List ad):(hl v ah).length=ah.length:=by refine xj (p:=λah=>(hl v ah).length=ah.length) rfl (λl x aY=>?_) ah;rw[xk];simp[aY]
variable{ah:List ad}{t:Nat}
theorem Ow{v:Int}(h:t<ah.length):hl v (ah.take (t+1))=re v (hl v (ah.take t)) ah[t]::hl v (ah.take t):=by rw[atN h,xk]
def y3(n:ad):List D:=[.O n.name,u n.kind,.O n.dB,.O n.target,u n.cL,u n.n2,u n.n3,u n.n4,u n.n5,u n.n6,.Q .none 12 (n.J.map enc),.Q .none 2 (n.bK.map c5)]
end Go.bS.cp





namespace Go.bS.cp
open Go Go.Proofs
variable{B:World}
theorem ox(v:Int)(ah:List ad):(cd v ah).length=ah.length:=by simp[cd,tj]
end Go.bS.cp

namespace Go.bS.cp
open Go Go.Proofs
variable{B:World}
theorem Ji{v:Int}(W:v=0\/v=1):cd v=uK v:=by funext ah;rw[cd,uK];congr 1;refine xj (p:=λah=>hl v ah=j5 v ah) rfl (λl x aY=>?_) ah;rw[xk,F8,aY,re,atH W]
theorem F_{v:Int}(W:v=2\/v=3):cd v=λah=>ah.map ad.name:=by funext ah;rw[cd];refine xj (p:=λah=>(hl v ah).reverse=ah.map ad.name) rfl (λl x aY=>?_) ah;rw[xk,re,atG atv,avO,aY];simp
theorem Ww{v:Int}(h:kh v=true):v=0\/v=1\/v=2\/v=3:=by simp[kh]at h;omega
theorem Ox(aV:dc B){v:Int}(h:kh v=true):CR B v (cd v):=by rcases Ww h with h|h|h|h;rw[Ji (.inl h)];exact Wu aV (.inl h);rw[Ji (.inr h)];exact Wu aV (.inr h);rw[F_ (.inl h)];exact Ob aV (.inl h);rw[F_ (.inr h)];exact Ob aV (.inr h)
theorem Wx:∀l:List nH,l_ l<=k8 l
 |[]=>by simp[l_]
 |s::r=>by have:=Wx r;simp only[l_,k8];omega
mutual
theorem Wy:∀n:ad,2*n.name.length+2+aB n<=2*vN n
 |.mk a b c d e f g h i j ah cE=>by
  have h1:=Wz ah;have z:=Wx cE;simp only[aB,vN];omega
theorem Wz:∀l:List ad,eF l<=2*lz l
 |[]=>by simp[eF]
 |n::r=>by
  have h1:=Wy n;have z:=Wz r;simp only[eF,lz];omega
end
theorem y4{n:ad}{s:Int}(h:pA n s=true):(aB n:Int)<=2*s/\fI n<=40:=by simp only[pA,atM,aup]at h;have:=Wy n;omega
theorem aid{a b:List ad}(h:a.Perm b):eF a=eF b:=by induction h with|nil=>rfl|cons x _ aY=>simp only[eF,aY]|swap x y l=>simp only[eF];omega|trans _ _ h1 z=>exact h1.trans z
def Jj(aW:List ad->List atE):Prop:=∀ah:List ad,ah.length<=64->gP ah->(∀k∈ah,dT k.name=true/\k.name.length<1000000000)->∀m∈aW ah,m.length<=1100
theorem aie(aV:dc B){v:Int}(h:kh v=true):Jj (cd v):=λah h1 z aa=>((Ox aV h).call ah h1 z aa).2.2.2
mutual
theorem WA(aW:List ad->List atE)(v:Int)(hs:Jj aW):∀(n:ad) (d:Int),iv n->aB (jG aW v d n)+2200<=aB n+2200*fI n
 |.mk a b c t e f g h i j ah cE,d,h1=>by
  simp only[iv]at h1;have z:=WB aW v hs ah (aW ah) (d+1) h1.2.2.2 (hs ah h1.1 h1.2.2.1 λk X=>(rb h1.2.2.2 X).1);have aa:=aid (AS (fQ aW v (d+1) ah (aW ah)));have aC:l_ (if v=3 then cE else[])<=l_ cE:=by split<;>simp[l_]
  simp only[jG,aB,fI];rw[aa];omega
theorem WB(aW:List ad->List atE)(v:Int)(hs:Jj aW):∀(l:List ad) (cO:List atE) (d:Int),xg l->(∀m∈cO,m.length<=1100)->eF (fQ aW v d l cO)<=eF l+2200*eW l
 |[],cO,d,_,_=>by simp[fQ,eF]
 |k::r,[],d,_,_=>by simp[fQ,eF]
 |k::r,m::cO,d,h1,hm=>by
  simp only[xg]at h1;have z:=WB aW v hs r cO d h1.2 λx F=>hm x (atU _ F);have aa:=WA aW v hs k d h1.1.2;have aC:=hm m atS;have a_:aB ((jG aW v d k).named m)=aB (jG aW v d k):=FV _ _;simp only[fQ];split
  ·simp only[eF,eW];have cC:((jG aW v d k).named m).name=m:=rfl;rw[a_,cC];omega
  simp only[eF,eW];omega
end
theorem aif(aW:List ad->List atE)(v d:Int)(n:ad):(jG aW v d n).name=n.name:=by rw[FU]
theorem aig(aW:List ad->List atE)(v:Int)(hs:Jj aW){n:ad}(W:valid n=true)(M:pA n 100000=true):fv (jG aW v 1 n)/\aB (jG aW v 1 n)<300000:=by have h1:=WA aW v hs n 1 (AU W);have z:=y4 M;(have aa:n.name=[]:=by rw[xi,atM]at W;exact(AT W.2).1.FZ rfl);unfold fv;rw[aif,aa];simp only[auf];omega
section
variable{S:Type}(gy:atE->atE->S->S)(aW:List ad->List atE)(v:Int)
end
end Go.bS.cp




namespace Go.bS.cp
open Go Go.Proofs
variable{B:World}{i:Nat}
theorem aih{l:List ad}(h:i<l.length):(l.take i).map aH++[aH l[i]]=(l.take (i+1)).map aH:=by rw[avH,atJ h,auo];rfl
theorem aii:∀(bD:Nat) (n:ad),aB n<bD->aB n<1000000000->aS B 53 [aH n] (aH n):=by refine λbD=>Nat.rec (λn h=>absurd h (avf _)) (λbD aY n hN bz=>?_) bD;(have i6:2*n.bK.length<=aB n:=by have:=EO n.bK;have:=l' n;omega);(have eQ:2*n.J.length<=aB n:=by have:=Aj n.J;have:=l' n;omega);refine bB Tryz.func53 Tryz.ntmps53 λU=>?_;refine ch ?_;intro dz;(conv=>whnf);intro cc;refine lm ?_;refine⟨[.Q .none 2 (n.bK.map c5)],_,λ_=>UL n.bK atv,ar,?_⟩;apply cD;refine jb ?_;refine jb ?_;refine nF ?_;refine Y.jx 1 (dt:=[.O n.name,u n.kind,.O n.dB,.O n.target,u n.cL,u n.n2,u n.n3,u n.n4,u n.n5,u n.n6,.an (.slice none 0 0),.Q .none 2 (n.bK.map c5)]) rfl ⟨E,E,E,E,E,E,E,E,E,E,aq.rQ,E,ai⟩ ?_;refine Y.qR 109 12 44 ?_;refine Y.ed (α:={x:Nat×Value // x.1<=n.J.length}) (λx=>[(1,.box 1 dz 0),(2,.box 2 cc 0),(13,.Q .none 12 (n.J.map enc)),(14,u (n.J.map enc).length),(15,u x.1.1)]) (λx=>[(2,.box cc [.O [],u 0,.O [],.O [],u 0,u 0,u 0,u 0,u 0,u 0,.bh,.bh]),(1,.box dz [.O n.name,u n.kind,.O n.dB,.O n.target,u n.cL,u n.n2,u n.n3,u n.n4,u n.n5,u n.n6,.an x.1.2,.Q .none 2 (n.bK.map c5)]),(109,.row x.1.2 ((n.J.take x.1.1).map aH) 12 44)]) (λx=>n.J.length-x.1.1) ⟨(0,.slice none 0 0),at7 _⟩ [(2,2),(1,1),(109,109)] ⟨ar,rfl,rfl,rfl,rfl,rfl,rfl,atI (λV=>some (aI.row (.slice none 0 0) V 12 44)) atx,ai⟩ ?_;rintro⟨⟨i,gR⟩,hi⟩;dsimp only at hi⊢;apply b3;apply en;refine aJ (decide ((i:Int)<(n.J.map enc).length)) rfl ?_ ?_<;>intro hc;apply cl;refine kc ?_;apply b3;(have aE:i<n.J.length:=by simpa using hc);have N9:=r1 aE;refine wU ?_;refine⟨aH n.J[i],λ_=>r2 aE,?_⟩;(conv=>whnf);intro cx;refine ez ?_;refine Y.zX aL 5 mixed atA ?_;apply cD;refine ez ?_;refine⟨[aH n.J[i]],_,λ_=>aY n.J[i] atv atv,ar,?_⟩;(conv=>whnf);refine pe ?_;refine .inr (af.pc aL 109 rfl rfl rfl atC rfl rfl rfl (avW) ?_ ?_ λbQ y5 cap=>?_);show(_+1)*152<=_;simp;omega;show _+1<=_;simp;omega;apply mB;apply cD;refine nD ?_;exact⟨⟨(i+1,.slice bQ y5 cap),aE⟩,[(2,2),(1,1),(109,24)],by show _-(i+1)<_-i;omega,ar,rfl,rfl,rfl,rfl,rfl,rfl,atI (λV=>some (aI.row (.slice bQ y5 cap) V 12 44)) (by exact aih aE),ai⟩;refine Y.exit ?_;(have cg:i=n.J.length:=by simp at hc;omega);(have dN:(n.J.take i).map aH=n.J.map enc:=by subst cg;rw[atW,show enc=aH from funext rV]);rw[dN];refine Y.HJ 109 1 10 rfl rfl aty rfl ?_;refine jb ?_;apply cD;apply Ew;refine ez ?_;exact aq.of_eq rfl
mutual
def pF:ad->List (List atE)
 |.mk _ _ _ _ _ _ _ _ _ _ ah _=>[]::sn ah
def sn:List ad->List (List atE)
 |[]=>[]
 |k::r=>(pF k).map (λq=>k.name::q)++sn r
end
theorem Jk(n:ad):pF n=[]::sn n.J:=by cases n;simp only[pF]
def pG(q:atE)(ah:List ad):Option ad:=ah.find? λk=>k.name==q
def ji:ad->List atE->Option ad
 |n,[]=>some n
 |n,m::cO=>match pG m n.J with
  |some k=>ji k cO
  |none=>none
theorem Jl:∀{ah:List ad} {p:List atE},p∈sn ah↔∃k∈ah,∃q∈pF k,p=k.name::q
 |[],p=>by simp[sn]
 |k::r,p=>by have aY:=Jl (ah:=r) (p:=p);simp only[sn,at1,at3,at6,aY];constructor;rintro(⟨q,I,rfl⟩|⟨x,F,q,I,rfl⟩);exact⟨k,.inl rfl,q,I,rfl⟩;exact⟨x,.inr F,q,I,rfl⟩;rintro⟨x,rfl|F,q,I,rfl⟩;exact .inl ⟨q,I,rfl⟩;exact .inr ⟨x,F,q,I,rfl⟩
theorem aij(n:ad):[]∈pF n:=by rw[Jk];exact atS
theorem Oy{n:ad}{m:atE}{q:List atE}:m::q∈pF n↔∃k∈n.J,k.name=m/\q∈pF k:=by rw[Jk,at6,Jl];constructor;rintro(h|⟨k,X,fh,I,h⟩);cases h;cases h;exact⟨k,X,rfl,I⟩;rintro⟨k,X,rfl,I⟩;exact .inr ⟨k,X,q,I,rfl⟩
variable{ah:List ad}
theorem aik(h:gP ah){x y:ad}(F:x∈ah)(hy:y∈ah)(e:x.name=y.name):x=y:=by obtain⟨i,hi,rfl⟩:=auh.1 F;obtain⟨j,Z,rfl⟩:=auh.1 hy;rcases awb i j with l|l|l;exact absurd e (s_ (sc h l Z));subst l;rfl;exact absurd e.symm (s_ (sc h l hi))
theorem ail(h:gP ah){k:ad}(X:k∈ah):pG k.name ah=some k:=by unfold pG;cases M:ah.find? (λx=>x.name==k.name)with|none =>have:=avi.1 M k X;simp at this|some x =>have h1:=awM M;have z:=List.find?_some M;rw[aik h h1 X (by simpa using z)]
theorem WC{q:atE}{k:ad}(h:pG q ah=some k):k∈ah/\k.name=q :=
 ⟨awM h,by simpa using List.find?_some h⟩
theorem WD{n k:ad}{m:atE}{q:List atE}(hi:gP n.J)(X:k∈n.J)(e:k.name=m):ji n (m::q)=ji k q:=by subst e;simp only[ji,ail hi X]
theorem Oz{n:ad}(h:iv n):gP n.J:=((tf n).1 h).2.2.1
theorem Jm{n k:ad}(h:iv n)(X:k∈n.J):iv k:=(rb ((tf n).1 h).2.2.2 X).2
theorem aim{n k:ad}(h:iv n)(X:k∈n.J):dT k.name=true:=(rb ((tf n).1 h).2.2.2 X).1.1
theorem OA:∀(q:List atE) (n:ad),iv n->(q∈pF n↔∃x,ji n q=some x)
 |[],n,h=>by simp[ji,aij]
 |m::q,n,h=>by rw[Oy];constructor;rintro⟨k,X,rfl,I⟩;rw[WD (Oz h) X rfl];exact(OA q k (Jm h X)).1 I;rintro⟨x,F⟩;simp only[ji]at F;cases M:pG m n.J with|none=>rw[M]at F;cases F|some k =>rw[M]at F;obtain⟨h1,z⟩:=WC M;exact⟨k,h1,z,(OA q k (Jm h h1)).2 ⟨x,F⟩⟩
def lH(q:List atE):atE:=q.flatMap λm=>47::m
def nR:List atE->atE
 |[]=>[]
 |m::r=>m++lH r
mutual
def dP:ad->atE->Int->List atE
 |.mk _ _ _ _ _ _ _ _ _ _ ah _,p,l=>p::j6 ah p l
def j6:List ad->atE->Int->List atE
 |[],_,_=>[]
 |k::r,p,l=>dP k (below p k.name (l+1)) (l+1)++j6 r p l
end
theorem OB(n:ad)(p:atE)(l:Int):dP n p l=p::j6 n.J p l:=by cases n;simp only[dP]
mutual
theorem WE:∀(n:ad) (p:atE) (l:Int),2<=l->dP n p l=(pF n).map λq=>p++lH q
 |.mk _ _ _ _ _ _ _ _ _ _ ah _,p,l,h=>by
  simp only[dP,pF,aum];rw[WF ah p l h];simp[lH]
theorem WF:∀(ah:List ad) (p:atE) (l:Int),2<=l->j6 ah p l=(sn ah).map λq=>p++lH q
 |[],p,l,h=>rfl
 |k::r,p,l,h=>by
  simp only[j6,sn,auo,avX];rw[WF r p l h,WE k _ (l+1) atv,below,atG atv];congr 1
  refine awJ λq _=>?_;simp[lH]
end
theorem WG:∀(ah:List ad),j6 ah [] 1=(sn ah).map nR
 |[]=>rfl
 |k::r=>by simp only[j6,sn,auo,avX];rw[WG r,WE k _ _ atv,below,atH atv];congr 1
theorem OC(n:ad):dP n [] 1=(pF n).map nR:=by rw[OB,Jk,WG];rfl
theorem WH:∀(cO:List atE) (p:atE),(47:UInt8)∉p->(∀m∈cO,(47:UInt8)∉m)->cN 47 [] (p++lH cO)=p::cO
 |[],p,au,_=>by simp[lH,M' p [] au]
 |m::r,p,au,h=>by(have e:p++lH (m::r)=p++47::(m++lH r):=by simp[lH]);rw[e,Na p [] _ au,WH r m (h m atS) λx F=>h x (atU _ F)];simp
def xl(q:List atE):Prop:=∀m∈q,dT m=true
theorem WI{m:atE}(h:dT m=true):(47:UInt8)∉m:=by intro hm;unfold dT at h;rw[atH (.inr (.inr hm))]at h;cases h
theorem OD{q:List atE}(h:xl q):nR q=[]↔q=[]:=by cases q with|nil=>simp[nR]|cons m r =>have:=ahq (h m atS);simp[nR,this]
theorem OE{q:List atE}(h:xl q)(I:q≠[]):cN 47 [] (nR q)=q:=by cases q with|nil=>exact absurd rfl I|cons m r=>exact WH r m (WI (h m atS)) λx F=>WI (h x (atU _ F))
theorem ain{q fh:List atE}(h:xl q)(bq:xl fh)(e:nR q=nR fh):q=fh:=by by_cases h0:q=[];subst h0;exact((OD bq).1 (by rw[<-e];rfl)).symm;have h1:fh≠[]:=λz=>h0 ((OD h).1 (by rw[e,z];rfl));rw[<-OE h h0,e,OE bq h1]
theorem OF:∀(q:List atE) (n:ad),iv n->q∈pF n->xl q
 |[],n,_,_=>λm hm=>by cases hm
 |m::q,n,h,I=>by obtain⟨k,X,e,I⟩:=Oy.1 I;intro x F;rcases at6.1 F with rfl|F;rw[<-e];exact aim h X;exact OF q k (Jm h X) I x F
mutual
theorem AY:∀(n:ad) (p:atE) (l:Int),(dP n p l).length=fI n
 |.mk _ _ _ _ _ _ _ _ _ _ ah _,p,l=>by
  have:=Jn ah p l;simp only[dP,fI,atQ];omega
theorem Jn:∀(ah:List ad) (p:atE) (l:Int),(j6 ah p l).length=eW ah
 |[],p,l=>rfl
 |k::r,p,l=>by
  have h1:=AY k (below p k.name (l+1)) (l+1);have z:=Jn r p l;simp only[j6,eW,atO];omega
end
theorem OG:∀{ah:List ad} {i:Nat} (h:i<ah.length) (p:atE) (l:Int),j6 (ah.take (i+1)) p l=j6 (ah.take i) p l++dP ah[i] (below p ah[i].name (l+1)) (l+1)
 |k::r,0,_,p,l=>by simp[j6]
 |k::r,i+1,h,p,l=>by have:=OG (ah:=r) (i:=i) (by simpa using h) p l;simp only[avr,j6,au6];rw[this];simp
theorem aio:∀(bD:Nat) (n:ad),aB n<bD->aB n<10000000->∀(p:atE) (l:Int),1<=l->p.length+aB n<100000000->l+aB n<1000000000->aS B 136 [aH n,.O p,u l] (.Q .none 1 (aU (dP n p l))):=by refine λbD=>Nat.rec (λn h=>absurd h (avf _)) (λbD aY n hN bz p l al au xm=>?_) bD;refine bB Tryz.func136 Tryz.ntmps136 λU=>?_;refine ch ?_;intro eD;refine ch ?_;refine⟨ai,?_⟩;refine nF ?_;refine Y.own 7 1000 1 9 rfl (λw=>?_);refine Y.ed (α:={i:Nat // i<=n.J.length}×Value) (λx=>[(1,.O p),(2,u l),(3,.box 3 eD 0),(7,.Q (.own 1000 x.2) 1 (aU (p::j6 (n.J.take x.1.1) p l))),(8,u x.1.1)]) (λx=>[(3,.box eD [.O n.name,u n.kind,.O n.dB,.O n.target,u n.cL,u n.n2,u n.n3,u n.n4,u n.n5,u n.n6,.Q .none 12 (n.J.map enc),.Q .none 2 (n.bK.map c5)]),(1000,.own x.2 (aU (p::j6 (n.J.take x.1.1) p l)).length 1 9)]) (λx=>n.J.length-x.1.1) (⟨0,at7 _⟩,w) [(3,3),(1000,1000)] ⟨ar,rfl,ba⟩ ?_;rintro⟨⟨i,hi⟩,w⟩;dsimp only at hi⊢;refine p9 ?_;refine aJ _ rfl ?_ ?_<;>intro hc;refine fk ?_;(have aE:i<n.J.length:=by simpa using hc);have N9:=r1 aE;have eJ:=Ce p n.J[i].name (l+1);have cW:=OG aE p l;have m_:=Jn (n.J.take i) p l;have bi:=No n.J i;have BC:=ES n.J;have aip:=l' n;have eQ:=AY n.J[i] (below p n.J[i].name (l+1)) (l+1);have b5:=Cg n.J[i];have s1:=Aj n.J;refine kc ?_;refine Y.BK aL 18 mixed atA ?_;refine mC ?_;refine⟨aH n.J[i],λ_=>oe aE,?_⟩;refine mC ?_;refine⟨aH n.J[i],λ_=>oe aE,?_⟩;(conv=>whnf);refine⟨[.O p,.O n.J[i].name,u l],_,λ_=>Tb p n.J[i].name l atv al,ar,?_⟩;refine ll ?_;refine⟨[aH n.J[i],.O (below p n.J[i].name (l+1)),u (l+1)],_,λ_=>aY n.J[i] atv atv (below p n.J[i].name (l+1)) (l+1) atv atv atv,ar,?_⟩;(conv=>whnf);refine Mh ?_;refine⟨by show(_+_)*16<=_;simp[aU];omega,by show _+_<=_;simp[aU];omega,atC,λv=>?_⟩;refine nD ?_;(have ak:aU (p::j6 (n.J.take i) p l)++aU (dP n.J[i] (below p n.J[i].name (l+1)) (l+1))=aU (p::j6 (n.J.take (i+1)) p l):=by rw[cW];simp[aU]);exact⟨(⟨i+1,aE⟩,v),[(3,3),(1000,36)],ayi,⟨E,E,E,aq.kd ak,E,ai⟩,rfl,rfl,rfl,rfl,kG (by rw[<-ak,atO]),ai⟩;refine qT ?_;(have cg:i=n.J.length:=by simp at hc;omega);have e:n.J.take i=n.J:=aue atv;rw[e,<-OB];exact aq.m7
theorem aiq(n:ad)(av:fv n)(W:valid n=true):aS B 87 [aH n] (.Q .none 1 (aU (dP n [] 1))):=by refine bB Tryz.func87 Tryz.ntmps87 λU=>?_;refine ch ?_;intro dz;refine gb ?_;refine ez ?_;refine⟨[aH n],_,λ_=>Ub n av,ar,?_⟩;refine aJ _ rfl ?_ ?_<;>intro hc;apply en;exfalso;rw[W]at hc;cases hc;apply cl;refine lm ?_;have bz:=av;unfold fv at bz;refine⟨[aH n,.O [],u 1],_,λ_=>aio _ n (auw _) atv [] 1 atv atw atv,ar,?_⟩;refine iJ ?_;exact E
def dQ(n:ad)(s:atE):ad×Int :=
 if s=[]then(n,0)else match ji n (cN 47 [] s)with
  |some x=>(x,0)
  |none=>(uG,6)
theorem air{q:List atE}(h:xl q)(n:ad):dQ n (nR q)=match ji n q with|some x=>(x,0)|none=>(uG,6):=by unfold dQ;by_cases h0:q=[];subst h0;rfl;rw[atG (λe=>h0 ((OD h).1 e)),OE h h0]
theorem WJ(n:ad)(q:atE):(s9 n q=-1/\pG q n.J=none)\/∃(i:Nat) (h:i<n.J.length),s9 n q=i/\pG q n.J=some n.J[i]:=by cases M:pG q n.J with|none =>refine .inl ⟨?_,rfl⟩;unfold pG at M;(exact z7 λj Z=>by simpa using avi.1 M _ (atK Z))|some k =>unfold pG at M;obtain⟨h1,i,z,aa,aC⟩:=List.find?_eq_some_iff_getElem.1 M;refine .inr ⟨i,z,?_,by rw[aa]⟩;exact z6 (p:=λk:ad=>k.name==q) z (λj Z fc=>by simpa using aC j fc) (by rw[aa];exact h1)
theorem OH:∀(q:List atE) (n x:ad),ji n q=some x->aB x<=aB n
 |[],n,x,h=>by simp only[ji,aus]at h;subst h;exact atP _
 |m::q,n,x,h=>by simp only[ji]at h;cases M:pG m n.J with|none=>rw[M]at h;cases h|some k =>rw[M]at h;obtain⟨i,hi,e⟩:=auh.1 (WC M).1;have h1:=r1 hi;have z:=OH q k x h;rw[e]at h1;omega
theorem WK:∀(q:List atE) (n:ad),q∈pF n->(lH q).length<=aB n
 |[],n,_=>by simp[lH]
 |m::q,n,h=>by obtain⟨k,X,rfl,I⟩:=Oy.1 h;obtain⟨i,hi,rfl⟩:=auh.1 X;have:=r1 hi;have:=WK q _ I;simp only[lH,auJ,atO,atQ]at this⊢;omega
theorem ais(k:ad)(q:atE):aS B 85 [aH k,.a7 1 [.O q] 0 0] (.bool (k.name==q)):=by refine bB Tryz.func85 Tryz.ntmps85 λU=>?_;refine ch ?_;intro b;refine jb ?_;refine yb (.O q) ?_;refine go ?_;exact E
theorem ait(l:List ad)(q:atE)(al:l.length<1000000000):aS B 84 [.Q .none 12 (l.map enc),.fn (.func 85) [] [.a7 1 [.O q] 0 0]] (u (fe (λk:ad=>k.name==q) l)):=by refine bB Tryz.func84 Tryz.ntmps84 λU=>?_;refine go ?_;refine Y.loop (α:={i:Nat // i<=l.length/\∀j (h:j<l.length),j<i->((l[j]).name==q)=false}) (λx=>[(0,.Q .none 12 (l.map enc)),(1,.fn (.func 85) [] [.a7 1 [.O q] 0 0]),(7,u (l.map enc).length),(8,u x.1)]) (λ_=>[]) (λx=>l.length-x.1) ⟨0,by simp⟩ ar trivial ?_;rintro⟨i,hi,au⟩;dsimp only;refine go ?_;refine aJ (decide ((i:Int)<(l.map enc).length)) rfl ?_ ?_<;>intro hc;apply cl;refine kc ?_;apply b3;(have aE:i<l.length:=by simpa using hc);refine ch ?_;refine p6 ?_;refine⟨aH l[i],λ_=>oe aE,?_⟩;refine go ?_;refine br (ais l[i] q) ?_;refine aJ _ rfl ?_ ?_<;>intro hc;refine go ?_;exact dp (z6 (p:=λk:ad=>k.name==q) aE au hc).symm;refine go ?_;exact⟨⟨i+1,by omega,λj Z bi=>(avK.1 bi).elim (au j Z) λe=>by subst e;exact hc⟩,by show _-(i+1)<_-i;omega,ar,ai⟩;refine go ?_;exact axQ
def y6:List D->Nat->ad->List atE->D
 |xs,j,n,[]=>.a7 12 xs j 0
 |xs,j,n,m::r=>if s9 n m<0 then .an (.pointer none)else match n.J[(s9 n m).toNat]? with
  |some k=>y6 (n.J.map enc) (s9 n m).toNat k r
  |none=>.an (.pointer none)
theorem WL:∀(r:List atE) (xs:List D) (j:Nat) (n:ad),xs[j]?=some (aH n)->(ji n r=none/\y6 xs j n r=.an (.pointer none))\/∃m a' i,ji n r=some m/\y6 xs j n r=.a7 12 a' i 0/\a'[i]?=some (aH m)
 |[],xs,j,n,h=>.inr ⟨n,xs,j,rfl,rfl,h⟩
 |m::r,xs,j,n,h=>by simp only[ji,y6];rcases WJ n m with⟨h1,z⟩|⟨i,hi,h1,z⟩;rw[h1,z];exact .inl ⟨rfl,atH aty⟩;rw[h1,z,atG atv,show((i:Nat):Int).toNat=i from rfl,atJ hi];exact WL r _ i _ (r2 hi)
theorem aiu(aV:dc B)(s:atE)(hs:s.length<1000000000)(xs:List D)(j:Nat)(n:ad)(Z:xs[j]?=some (aH n))(bz:aB n<1000000000):aS B 52 [.a7 12 xs j 0,.O s] (if s=[]then .a7 12 xs j 0 else y6 xs j n (cN 47 [] s)):=by refine bB Tryz.func52 Tryz.ntmps52 λU=>?_;refine go ?_;refine aJ _ rfl ?_ ?_<;>intro hc;refine go ?_;exact aq.of_eq (atH (by simpa using hc)).symm;refine go ?_;(have aX:s≠[]:=by simpa using hc);refine go ?_;refine br (It aV s 47 hs) ?_;refine Y.loop (α:={x:Nat×List D×Nat×ad // x.1<=(cN 47 [] s).length/\x.2.1[x.2.2.1]?=some (aH x.2.2.2)/\y6 x.2.1 x.2.2.1 x.2.2.2 ((cN 47 [] s).drop x.1)=y6 xs j n (cN 47 [] s)/\aB x.2.2.2<1000000000}) (λx=>[(0,.a7 12 x.1.2.1 x.1.2.2.1 0),(12,.Q .none 1 (aU (cN 47 [] s))),(13,u (aU (cN 47 [] s)).length),(14,u x.1.1)]) (λ_=>[]) (λx=>(cN 47 [] s).length-x.1.1) ⟨(0,xs,j,n),at7 _,Z,rfl,bz⟩ ⟨E,aq.dU,E,E,ai⟩ trivial ?_;rintro⟨⟨i,a',arO,m⟩,hi,hm,N,aiv⟩;obtain⟨fg,_⟩:=s6 (c:=47) s [];dsimp only at hi hm N aiv⊢;refine go ?_;refine aJ (decide ((i:Int)<(aU (cN 47 [] s)).length)) rfl ?_ ?_<;>intro hc;apply cl;refine kc ?_;apply b3;(have aE:i<(cN 47 [] s).length:=by simpa[aU]using hc);have eQ:=vx m;have lr:(cN 47 [] s).drop i=(cN 47 [] s)[i]::(cN 47 [] s).drop (i+1):=auN aE;(conv=>whnf);refine⟨λ_=>by simp[aU];omega,?_⟩;refine go ?_;refine⟨.O (cN 47 [] s)[i],λ_=>by simp[aU,aE],?_⟩;refine go ?_;intro b;(conv=>whnf);refine cT ?_;apply en;refine Y.BZ 6 6 (.O (cN 47 [] s)[i]) rfl rfl rfl rfl ?_;refine t1 ?_;(conv=>whnf);refine⟨rfl,ai,.inr (af.Mm rfl ?_)⟩;refine jy ?_;refine⟨rfl,ai,.inl ⟨aH m,λ_=>hm,?_⟩⟩;refine jy ?_;refine⟨rfl,ai,.inl ⟨[.Q .none 12 (m.J.map enc),.fn (.func 85) [] [.a7 1 [.O (cN 47 [] s)[i]] 0 0]],_,λ_=>ait m.J _ atv,ar,?_⟩⟩;apply d_;refine go ?_;refine aJ (decide (s9 m (cN 47 [] s)[i]<0)) rfl ?_ ?_<;>intro hc;refine go ?_;refine aq.of_eq ?_;rw[atG aX,<-N,lr];exact(atH (by simpa using hc)).symm;refine fk ?_;(have rZ:∃(hu:Nat) (h:hu<m.J.length),s9 m (cN 47 [] s)[i]=hu/\pG (cN 47 [] s)[i] m.J=some m.J[hu]:=by rcases WJ m (cN 47 [] s)[i]with⟨h1,_⟩|h;rw[h1]at hc;simp at hc;exact h);obtain⟨hu,l6,ak,_⟩:=rZ;have b5:=r1 l6;rw[show fe (λk:ad=>k.name==(cN 47 [] s)[i]) m.J=(hu:Int)from ak];refine t1 ?_;(conv=>whnf);refine⟨rfl,ai,.inr (af.Mm rfl ?_)⟩;refine jy ?_;refine⟨rfl,ai,.inl ⟨aH m,λ_=>hm,?_⟩⟩;refine jy ?_;refine⟨rfl,ai,.inl ⟨λ_=>by simp;omega,?_⟩⟩;apply d_;refine go ?_;exact⟨⟨(i+1,m.J.map enc,hu,m.J[hu]),aE,r2 l6,by rw[<-N,lr];simp only[y6,ak];rw[atG atv,show((hu:Nat):Int).toNat=hu from rfl,atJ l6],by show aB m.J[hu]<_;omega⟩,by show _-(i+1)<_-i;omega,ar,ai⟩;refine go ?_;refine aq.of_eq ?_;(have cg:i=(cN 47 [] s).length:=by simp[aU]at hc;omega);rw[atG aX,<-N,cg,List.drop_length];rfl
theorem OI(aV:dc B)(s:atE)(hs:s.length<1000000000)(n:ad)(av:fv n)(W:valid n=true):aS B 17 [aH n,.O s] (.bl [aH (dQ n s).1,u (dQ n s).2]):=by refine bB Tryz.func17 Tryz.ntmps17 λU=>?_;have bz:=av;unfold fv at bz;refine go ?_;intro cc;refine go ?_;intro cP;refine go ?_;refine br (AA aV n atv) ?_;refine aJ _ rfl ?_ ?_<;>intro hc;refine go ?_;exfalso;rw[W]at hc;cases hc;apply cl;apply en;refine Y.BZ 2 2 (aH n) rfl rfl rfl rfl ?_;(have v7:∃d,aS B 52 [.a7 12 [aH n] 0 0,.O s] d/\((d=.an (.pointer none)/\dQ n s=(uG,6))\/∃m a' i,d=.a7 12 a' i 0/\a'[i]?=some (aH m)/\dQ n s=(m,0)/\aB m<=aB n):=by refine⟨_,aiu aV s hs [aH n] 0 n rfl atv,?_⟩;by_cases h0:s=[];rw[atH h0];exact .inr ⟨n,_,_,rfl,rfl,by rw[dQ,atH h0],atP _⟩;rw[atG h0,dQ,atG h0];rcases WL (cN 47 [] s) [aH n] 0 n rfl with⟨h1,z⟩|⟨m,a',i,h1,z,aa⟩;rw[h1,z];exact .inl ⟨rfl,rfl⟩;rw[h1,z];exact .inr ⟨m,a',i,rfl,aa,rfl,OH _ _ _ h1⟩);obtain⟨d,lb,⟨rfl,fG⟩|⟨m,a',i,rfl,hi,fG,AZ⟩⟩:=v7;refine nc ?_;refine⟨[.a7 12 [aH n] 0 0,.O s],_,λ_=>lb,ar,?_⟩;apply m';refine t1 ?_;(conv=>whnf);refine⟨rfl,ai,.inr (af.acH rfl rfl ?_)⟩;refine Y.cond true rfl (λhc=>?_) (λhc=>by cases hc);refine go ?_;rw[fG];exact⟨Oc,E,ai⟩;refine nc ?_;refine⟨[.a7 12 [aH n] 0 0,.O s],_,λ_=>lb,ar,?_⟩;apply m';refine t1 ?_;(conv=>whnf);refine⟨rfl,ai,.inr (af.acG rfl rfl ?_)⟩;refine Y.cond false rfl (λhc=>by cases hc) (λhc=>?_);apply cl;refine nG ?_;(conv=>whnf);refine⟨rfl,ai,.inr (af.Mm rfl ?_)⟩;(conv=>whnf);refine⟨rfl,ai,.inl ⟨aH m,λ_=>hi,?_⟩⟩;(conv=>whnf);refine⟨rfl,ai,.inl ⟨[aH m],_,λ_=>aii _ m (auw _) atv,ar,?_⟩⟩;(conv=>whnf);refine⟨rfl,ai,.inl ⟨rfl,?_⟩⟩;apply d_;refine go ?_;rw[fG];exact⟨aq.of_eq rfl,E,ai⟩
section
variable(aW:List ad->List atE)(v:Int)
end
end Go.bS.cp


namespace Go.bS.cp
open Go Go.Proofs
variable{B:World}
def F'(v:Int)(ah:List ad)(m:atE):atE:=(((ah.map ad.name).zip (cd v ah)).lookup m).getD []
def xn(v:Int)(J:List ad):List atE:=J.map λk=>F' v (mN J) k.name
def CY(J:List ad):Bool:=J.all λk=>dT k.name
def ld(v:Int)(J:List ad):List atE×Int :=
 if kh v=false then([],2)else if 64<J.length then([],7)else if CY J=false then([],4)else if¬(J.map ad.name).Nodup then([],5)else(xn v J,0)
theorem WM:∀{a:List atE} {b:List atE} {i:Nat} (av:a.Nodup) (h:i<a.length) (bq:i<b.length),(a.zip b).lookup a[i]=some b[i]
 |x::a,y::b,0,_,_,_=>by simp[List.lookup]
 |x::a,y::b,i+1,av,h,bq=>by rw[avB]at av;have aY:=WM (a:=a) (b:=b) (i:=i) av.2 (by simpa using h) (by simpa using bq);(have aX:((a[i]'(by simpa using h))==x)=false:=by rw[aur];intro e;exact av.1 (e ▸ atK _));simp only[List.zip_cons_cons,au6,List.lookup,aX];exact aY
variable{ah:List ad}{t:Nat}
theorem WN{v:Int}(av:(ah.map ad.name).Nodup)(h:t<ah.length):F' v ah ah[t].name=(cd v ah)[t]'(by rw[ox];exact h):=by have:=WM (a:=ah.map ad.name) (b:=cd v ah) (i:=t) av (by simpa using h) (by rw[ox];exact h);rw[awg]at this;rw[F',this];rfl
theorem CZ(h:gP ah):(ah.map ad.name).Nodup:=by rw[auE,au_];exact auG.2 λi j hi Z d7=>s_ (sc h d7 Z)
theorem aiw{v:Int}(h:gP ah):xn v ah=cd v ah:=by rw[xn,ahl h];apply au0 (by simp[ox]);intro i h1 z;rw[awg,WN (CZ h)]
theorem OJ:∀{L:List Nat} {t:Nat} (av:L.Nodup) (ax:t<L.length),L.idxOf L[t]=t
 |x::r,0,_,_=>by simp
 |x::r,t+1,av,ax=>by rw[avB]at av;(have WO:t<r.length:=by simpa using ax);have aX:¬(x==r[t])=true:=λe=>av.1 (by rw[avn]at e;rw[e];exact atK WO);rw[au6,List.idxOf_cons,Bool.cond_eq_ite,atG aX,OJ av.2 WO]
structure nS (J:List ad) (L:List Nat):Prop where
 Ga:L.Perm (List.range J.length)
 aix:∀(i j:Nat) (hi:i<L.length) (Z:j<L.length),i<j->Op.bytesLess (J.getD L[j] default).name (J.getD L[i] default).name=false
def kM(J:List ad)(L:List Nat):List ad:=L.map λi=>J.getD i default
variable{j:Nat}{s:Nat}{g:Nat->atE}
section
variable{J:List ad}{L:List Nat}
theorem nS.len(h:nS J L):L.length=J.length:=by rw[h.Ga.length_eq];simp
theorem nS.lt(h:nS J L)(ax:t<L.length):L[t]<J.length:=auY.1 (h.Ga.subset (atK ax))
theorem nS.nodup(h:nS J L):L.Nodup:=h.Ga.nodup_iff.2 List.nodup_range
theorem nS.mem(h:nS J L)(Z:j<J.length):j∈L:=h.Ga.symm.subset (auY.2 Z)
theorem OK(h:nS J L):(kM J L).Perm J:=by have h1:=h.Ga.map λi=>J.getD i default;(have z:(List.range J.length).map (λi=>J.getD i default)=J:=by apply au0 atx;intro i h1 z;simp at h1;simp[List.getD,h1]);rw[z]at h1;exact h1
theorem WP(h:nS J L):(kM J L).length=J.length:=(OK h).length_eq
theorem OL(h:nS J L)(ax:t<L.length):(kM J L)[t]'(by simp[kM];exact ax)=J[L[t]]'(h.lt ax):=by simp[kM,List.getD,h.lt ax]
theorem aiy(h:nS J L)(av:∀t,(h1:t+1<L.length)->(J.getD L[t] default).name≠(J.getD L[t+1] default).name):gP (kM J L):=λi hi=>by
 have l6:i+1<L.length:=by rw[h.len,<-WP h];exact hi
 have h1:=h.aix i (i+1) atv l6 atv;have z:=av i l6;have e:∀t,(ax:t<L.length)->((kM J L).getD t default)=J.getD L[t] default:=λt ax=>by simp[kM,List.getD,ax]
 rw[e i atv,e (i+1) l6]
 cases aa:Op.bytesLess (J.getD L[i] default).name (J.getD L[i+1] default).name with
 |true=>rfl
 |false=>exact absurd (w9 _ _ aa h1) z
theorem aiz(h:nS J L)(hi:gP (kM J L)):mN J=kM J L:=by refine ND hi ((AS J).trans (OK h).symm) λi j hi Z d7=>auG.1 (N8 J) i j hi Z d7
theorem aiA(h:nS J L)(hi:gP (kM J L)):(J.map ad.name).Nodup:=((OK h).map ad.name).nodup_iff.1 (CZ hi)
theorem aiB(h:nS J L)(hs:s<t)(ax:t<L.length)(e:(J.getD L[s] default).name=(J.getD L[t] default).name):¬(J.map ad.name).Nodup:=λav=>by
 have h1:=h.lt (t:=s) atv;have z:=h.lt ax
 have aX:L[s]≠L[t]:=λe=>by
  have:=(auG.1 (auE.1 h.nodup)) s t atv ax hs;exact this e
 rw[auE,au_]at av;have au:=auG.1 av;simp only[List.getD,atJ h1,atJ z,auI]at e;rcases awb L[s] L[t]with l|l|l
 ·exact au _ _ h1 z l e
 ·exact aX l
 exact au _ _ z h1 l e.symm
def pH(n:Nat)(L:List Nat)(g:Nat->atE)(t:Nat):List D:=(List.range n).map λj=>if j∈L.take t then .O (g j)else .O []
theorem aiC{n:Nat}:(pH n L g t).length=n:=by simp[pH]
theorem aiD{n:Nat}:pH n L g 0=List.replicate n (.O []):=by apply au0 (by simp[pH]);intro i h1 z;simp[pH]
theorem aiE{n:Nat}(ax:t<L.length)(al:L[t]<n):(pH n L g t).set L[t] (.O (g L[t]))=pH n L g (t+1):=by apply au0 (by simp[pH]);intro i h1 z;rw[aw3];simp only[pH,awg,awp,atN ax,at1,auv];by_cases e:L[t]=i;subst e;simp;have oI:¬i=L[t]:=λh=>e h.symm;rw[atG e];simp[oI]
theorem aiF{v:Int}(h:nS J L)(aT:∀j,(Z:j<J.length)->g j=F' v (mN J) J[j].name):pH J.length L g L.length=aU (xn v J):=by
 apply au0 (by simp[pH,aU,xn]);intro i h1 z;have hi:i<J.length:=by simpa[pH]using h1
 simp only[pH,aU,xn,awg,awp,atW];rw[atH (h.mem hi),aT i hi]
def tk(v:Int)(J:List ad)(L:List Nat)(j:Nat):atE:=(cd v (kM J L)).getD (L.idxOf j) []
theorem aiG(h:nS J L){v:Int}(ax:t<L.length):tk v J L L[t]=re v (hl v ((kM J L).take t)) (J[L[t]]'(h.lt ax)):=by(have hlen:t<(kM J L).length:=by simp[kM];exact ax);rw[tk,OJ h.nodup ax];(have h1:t<(cd v (kM J L)).length:=by rw[ox];exact hlen);rw[List.getD,atJ h1,auI,<-OL h ax];(have key:∀(ah:List ad) (t:Nat) (ax:t<ah.length),(cd v ah)[t]'(by rw[ox];exact ax)=re v (hl v (ah.take t)) ah[t]:=by intro ah t ax;(have e:∀ah:List ad,∀m,m<=ah.length->(hl v ah).reverse.take m=(hl v (ah.take m)).reverse:=axh);have z:=e ah (t+1) atv;(have aa:(cd v ah)[t]?=((cd v ah).take (t+1))[t]?:=by rw[auB,atH atv]);have aC:(cd v ah).take (t+1)=(hl v (ah.take (t+1))).reverse:=z;rw[aC,Ow ax,avO,aul (by simp[tj];omega)]at aa;(have a_:(hl v (ah.take t)).reverse.length=t:=by simp[tj];omega);rw[a_,aww]at aa;rw[atJ (by rw[ox];exact ax)]at aa;simpa using aa);exact key _ t hlen
theorem aiH(h:nS J L){v:Int}(hi:gP (kM J L))(Z:j<J.length):tk v J L j=F' v (mN J) J[j].name:=by
 obtain⟨t,ax,rfl⟩:=auh.1 (h.mem Z);have hlen:t<(kM J L).length:=by simp[kM];exact ax
 rw[aiz h hi,<-OL h ax,WN (CZ hi) hlen,tk,OJ h.nodup ax,List.getD,atJ (by rw[ox];exact hlen),auI]
end
theorem aiI(J:List ad)(hlen:J.length<1000000)(dY:Nat)(v:Value): cV B 253 [.an v,.fn (.func 254) [] [.box 2000 dY 0]] (aK [(2001,.row v (es J.length) 1 3),(2000,.box dY [.Q .none 12 (J.map enc)])]) λd aM => d=.bl []/\∃L:List Nat,nS J L/\aM=aK [(2001,.row v (L.map encI) 1 3),(2000,.box dY [.Q .none 12 (J.map enc)])]:=by by_cases h0:0<J.length;have hc:=UE (B:=B) J h0 hlen dY v (List.finRange J.length) (by simpa using h0) (by simpa using hlen);rw[NE]at hc;refine hc.mono ?_;rintro d aM ⟨rfl,kX,au,hs,rfl⟩;refine⟨rfl,kX.map (λx=>x.1),⟨?_,λi j hi Z d7=>?_⟩,by rw[avX];rfl⟩;have:=au.map (λx:Fin J.length=>x.1);(have e:(List.finRange J.length).map (λx:Fin J.length=>x.1)=List.range J.length:=by apply au0 atx;intro i h1 z;simp);rwa [e]at this;simp only[atL]at hi Z;have:=hs i j hi Z d7;simpa[List.getD]using this;have av:J=[]:=atY atv;subst av;refine(UD v _ _).mono ?_;rintro d aM ⟨rfl,rfl⟩;exact⟨rfl,[],⟨E,λi j hi=>by simp at hi⟩,rfl⟩
variable{r:Int}
theorem aiJ(h:eo r=true)(hi:(47:UInt8)∈(Utf8.encode r).data.toList):r=47:=by obtain⟨h1,z,aa⟩:=(sl r).1 h;obtain⟨n,rfl⟩:∃n:Nat,r=n:=⟨r.toNat,by omega⟩;(have fR:∀x:Nat,x<256->(UInt8.ofNat x).toNat=x:=λx F=>by rw[av7];omega);have arP:(47:UInt8).toNat=47:=rfl;(have aX:∀x:Nat,x<256->128<=x->(47:UInt8)≠UInt8.ofNat x:=λx F Of e=>by have:=atI UInt8.toNat e;rw[fR x F]at this;omega);(have W:Utf8.valid (n:Int)=true:=by simp[Utf8.valid];omega);by_cases mb:n<128;(have e:(Utf8.encode (n:Int)).data.toList=[UInt8.ofNat n]:=by unfold Utf8.encode;simp only[W,auT,auq];rw[atH mb]);rw[e,auv]at hi;have:=atI UInt8.toNat hi;rw[fR n atv]at this;omega;exfalso;by_cases z:n<2048;(have e:(Utf8.encode (n:Int)).data.toList=[UInt8.ofNat (192+n/64),UInt8.ofNat (128+n%64)]:=by unfold Utf8.encode;simp only[W,auT,auq];rw[atG mb,atH z]);rw[e]at hi;simp only[at6,awf,awB]at hi;rcases hi with hi|hi;exact aX (192+n/64) atv atv hi;exact aX (128+n%64) atv atv hi;(have e:(Utf8.encode (n:Int)).data.toList=[UInt8.ofNat (224+n/4096),UInt8.ofNat (128+n/64%64),UInt8.ofNat (128+n%64)]:=axZ);rw[e]at hi;simp only[at6,awf,awB]at hi;rcases hi with hi|hi|hi;exact aX (224+n/4096) atv atv hi;exact aX (128+n/64%64) atv atv hi;exact aX (128+n%64) atv atv hi
theorem aiK{l:List Int}(h:∀r∈l,eo r=true)(hm:(47:UInt8)∈cw l):(47:Int)∈l:=by induction l with|nil=>simp[cw]at hm|cons r l aY =>(have e:cw (r::l)=(Utf8.encode r).data.toList++cw l:=by simp[cw]);rw[e,at1]at hm;rcases hm with hm|hm;rw[aiJ (h r atS) hm];exact atS;exact atU _ (aY (λx F=>h x (atU _ F)) hm)
theorem aiL{l:List Int}(h:∀r∈l,eo r=true)(h1:1<=l.length)(z:l.length<=64)(aa:(47:Int)∉l)(aC:l≠[46])(a_:l≠[46,46]):dT (cw l)=true:=by have hc:=yY l h;have hlen:=Oq l;(have N:jE [46]=some [46]:=by decide +kernel);(have y7:jE [46,46]=some [46,46]:=by decide +kernel);unfold dT;rw[atG];(have k6:chars (cw l)=(l,0):=by unfold chars;rw[atG atv,hc]);rw[k6];simp[h1,z];rintro(e|e|e);rw[e,N]at hc;simp at hc;exact aC hc.symm;rw[e,y7]at hc;simp at hc;exact a_ hc.symm;exact aa (aiK h e)
theorem aiM(r:Int):lF r≠47:=by unfold lF;split;decide;rename_i h;intro e;subst e;exact h aty
theorem WQ(r:Int):ic r≠47/\ic r≠46:=by unfold ic;split;constructor<;>omega;split;rename_i h;constructor<;>(intro e;subst e;exact absurd h.2 aty);constructor<;>decide
theorem WR(v r:Int):e4 v r≠47:=by unfold e4;split;exact(WQ r).1;exact aiM r
variable{k:Nat}
theorem OM(X:k<100):∀r∈iP k,48<=r/\r<=57:=by revert k;(have:∀k:Fin 100,∀r∈iP k.1,48<=r/\r<=57:=by decide +kernel);intro k X;exact this ⟨k,X⟩
theorem aiN(X:k<100)(h0:0<k):1<=(iP k).length:=by revert k;(have:∀k:Fin 100,0<k.1->1<=(iP k.1).length:=by decide +kernel);intro k X h0;exact this ⟨k,X⟩ h0
theorem ON:∀l:List Int,kK l<l.length/\-1<=kK l
 |[]=>by simp[kK]
 |x::r=>by have:=ON r;simp only[kK,atQ];split;omega;split<;>omega
theorem aiO{v:Int}(W:v=0\/v=1){s:atE}(hs:dT s=true)(bb:Bool)(X:k<100):dT (ko v (fS v s bb).1 (fS v s bb).2 k)=true:=by obtain⟨l,hc,_,_,kE,nJ⟩:=Jb hs;obtain⟨G,k6⟩:=CU s.length s l (atP _) hc;obtain⟨lc,kL,oX⟩:=Ok v hc bb;(have aiP:l≠[46]:=λe=>by subst e;(have:s=[46]:=by rw[<-G];decide +kernel);rw[this]at hs;revert hs;decide +kernel);(have aiQ:l≠[46,46]:=λe=>by subst e;(have:s=[46,46]:=by rw[<-G];decide +kernel);rw[this]at hs;revert hs;decide +kernel);obtain⟨Jo,Jp⟩:=Ol (v:=v) (bb:=bb) k6;(have OO:1<=(gX v l bb).1.length/\(gX v l bb).1.length<=64/\(v=1->(gX v l bb).2.length<=16)/\((gX v l bb).2=[]->v=1->(gX v l bb).1=l):=by have N:=ON l;unfold gX;split;rename_i h;refine⟨by simp;omega,by simp;omega,λh1=>?_,λz=>?_⟩;rcases h.2.2.2 with aa|aa;omega;simp;omega;intro _;rw[List.drop_eq_nil_iff]at z;omega;split;rename_i h;exact⟨by simp;omega,by simp;omega,λ_=>by simp,λ_ h1=>absurd h.2.1 atv⟩;exact⟨kE,nJ,λ_=>by simp,λ_ _=>rfl⟩);(have cG:fS v s bb=((gX v l bb).1.map (e4 v),if(gX v l bb).2=[]then[]else 46::((gX v l bb).2.map (e4 v)).take (kn v)):=axE);rw[cG];generalize(gX v l bb).1=a at*;generalize(gX v l bb).2=b at*;dsimp only;obtain⟨HD,C1,OP,ol⟩:=OO;(have lG:∀r∈a.map (e4 v),eo r=true/\r≠47:=λr ae=>by obtain⟨x,F,rfl⟩:=at3.1 ae;exact⟨Jh (Jo x F),WR v x⟩);generalize l8:(if b=[]then[]else 46::(b.map (e4 v)).take (kn v))=ck;(have aiR:(∀r∈ck,eo r=true/\r≠47)/\(ck=[]\/2<=ck.length)/\(v=0->ck.length<=4)/\(v=1->ck.length<=17)/\(ck=[]->b=[]):=by rw[<-l8];by_cases h:b=[];rw[atH h];exact⟨λr ae=>by(cases ae),.inl rfl,λ_=>by(simp),λ_=>by(simp),λ_=>h⟩;rw[atG h];(have eJ:1<=b.length:=by cases b with|nil=>exact absurd rfl h|cons x r=>simp);refine⟨λr ae=>?_,.inr ?_,λh0=>?_,λh1=>?_,λe=>by cases e⟩;rcases at6.1 ae with rfl|ae;exact⟨by decide,by decide⟩;obtain⟨x,F,rfl⟩:=at3.1 (auL ae);exact⟨Jh (Jp x F),WR v x⟩;(have:1<=kn v:=by unfold kn;split<;>omega);simp;omega;(have:kn v=3:=by unfold kn;rw[atH h0]);simp;omega;have:=OP h1;simp;omega);obtain⟨CK,FI,aiS,aiT,aiU⟩:=aiR;have gc:=OM X;have Jq:=F5 X;(have aZ:jH v (a.map (e4 v)) ck k<=a.length/\1<=jH v (a.map (e4 v)) ck k/\jH v (a.map (e4 v)) ck k+(iP k).length+ck.length<=64/\(v=1->k=0->ck=[]->jH v (a.map (e4 v)) ck k=a.length):=by unfold jH ow;rw[atL];rcases W with rfl|rfl;have:=aiS rfl;rw[show((0:Int)==1)=false from rfl,auV];refine⟨by split<;>split<;>omega,by split<;>split<;>omega,by split<;>split<;>omega,λh=>by omega⟩;have:=aiT rfl;rw[show((1:Int)==1)=true from rfl,avo];refine⟨by split<;>split<;>omega,by split<;>split<;>omega,by split<;>split<;>omega,λ_ h0 h1=>?_⟩;subst h0 h1;have:(iP 0).length=0:=rfl;rw[this];simp only[auf];split<;>split<;>omega);obtain⟨g6,ju,qn,V3⟩:=aZ;rw[ko];(have i':((a.map (e4 v)).take (jH v (a.map (e4 v)) ck k)).length=jH v (a.map (e4 v)) ck k:=by simp;omega);generalize hN:jH v (a.map (e4 v)) ck k=bD at*;(have hE:∀r∈(a.map (e4 v)).take bD++iP k++ck,eo r=true/\r≠47:=λr ae=>by rcases at1.1 ae with ae|ae;rcases at1.1 ae with ae|ae;exact lG r (auL ae);have:=gc r ae;exact⟨(sl r).2 atv,by omega⟩;exact CK r ae);(have hlen:((a.map (e4 v)).take bD++iP k++ck).length=bD+(iP k).length+ck.length:=by rw[atO,atO,i']);(have H1:∀m:Nat,1<=m->m<=2->(a.map (e4 v)).take bD++iP k++ck=List.replicate m 46->l=List.replicate m 46:=λm ly s5 e=>by have fu:=atI List.length e;rw[hlen,aw7]at fu;(have rN:ck=[]:=by rcases FI with h|h;exact h;omega);have aiV:=aiU rN;(have j0:k=0:=by rcases auD k with h|h;exact h;exfalso;have h1:=aiN X h;(obtain⟨x,F⟩:∃x,x∈iP k:=by cases aiW:iP k with|nil=>rw[aiW]at h1;simp at h1|cons x r=>exact⟨x,atS⟩);have z:=gc x F;(have aa:x∈List.replicate m (46:Int):=by rw[<-e];simp[F]);have:=(List.mem_replicate.1 aa).2;omega);subst j0 rN;have hsz:(iP 0)=[]:=rfl;rw[hsz,auK,auK]at e;rcases W with rfl|rfl;exfalso;(cases a with|nil=>simp at HD|cons x r =>obtain⟨WS,rfl⟩:∃WS,bD=WS+1:=⟨bD-1,by omega⟩;(have aa:e4 0 x∈List.replicate m (46:Int):=by rw[<-e];simp);have aC:=(List.mem_replicate.1 aa).2;exact(WQ x).2 (by simpa[e4]using aC));have aiX:=V3 rfl rfl rfl;rw[aiX,aue atx]at e;have pp:a=l:=ol aiV rfl;subst pp;(have x':∀x∈a,x=46:=λx F=>by(have aa:e4 1 x∈List.replicate m (46:Int):=by rw[<-e];exact at3.2 ⟨x,F,rfl⟩);have aC:=(List.mem_replicate.1 aa).2;(have a_:lF x=46:=by simpa[e4]using aC);unfold lF at a_;split at a_;omega;exact a_);refine List.eq_replicate_iff.2 ⟨?_,x'⟩;have:=atI List.length e;simpa using this);refine aiL (λr ae=>(hE r ae).1) (by rw[hlen];omega) (by rw[hlen];omega) (λhm=>(hE 47 hm).2 rfl) (λe=>?_) (λe=>?_);exact aiP (H1 1 atv atv e);exact aiQ (H1 2 atv atv e)
theorem aiY{v:Int}(W:kh v=true){k:ad}(X:dT k.name=true){el:List atE}(fR:el.length<=64):dT (re v el k)=true:=by unfold re;split;rename_i h;exact aiO h X (k.kind==0) (CW v el _ _ fR).1;exact X
theorem aiZ{v:Int}(W:kh v=true)(ah:List ad):ah.length<=64->(∀k∈ah,dT k.name=true)->∀m∈hl v ah,dT m=true:=by refine xj (p:=λah=>ah.length<=64->(∀k∈ah,dT k.name=true)->∀m∈hl v ah,dT m=true) (λ_ _ m hm=>by simp[hl]at hm) (λl x aY al h m hm=>?_) ah;simp at al;rw[xk]at hm;rcases at6.1 hm with rfl|hm;exact aiY W (h x atx) (by rw[tj];omega);exact aY atv (λk X=>h k (by simp[X])) m hm
theorem WT{v:Int}(W:kh v=true)(hx:ah.length<=64)(h:∀k∈ah,dT k.name=true):∀m∈cd v ah,dT m=true:=λm hm=>aiZ W ah hx h m (List.mem_reverse.1 hm)
theorem ai0(v:Int){l:List Int}(h:∀r∈l,eo r=true)(bb:Bool): fS v (cw l) bb=((gX v l bb).1.map (e4 v),if(gX v l bb).2=[]then[]else 46::((gX v l bb).2.map (e4 v)).take (kn v)):=by obtain⟨lc,kL,oX⟩:=Ok v (yY l h) bb;exact axE
def ai1(l:List Int):Prop:=(∀r∈l,eo r=true/\lF r=r)/\l.length<=64
structure ai2 (bb:Bool) (l:List Int) (a b:List Int):Prop where
 ga:1<=a.length
 Ae:a.length<=8
 eD:b.length<=3
 br:∀r∈a,eo r=true/\ic r=r
 cb:∀r∈b,eo r=true/\ic r=r
 bb:bb=true->b=[]
 eq:l=if b=[]then a else a++46::b
theorem WU(h:eo r=true):ic (ic r)=ic r:=by obtain⟨h1,_,_⟩:=(sl r).1 h;by_cases z:97<=r/\r<=122;(have e:ic r=r-97+65:=by rw[ic,atH z]);rw[e,ic,atG atv,atH ⟨by omega,by simp[uH];omega⟩];by_cases aa:r<128/\uH r=true;(have e:ic r=r:=by rw[ic,atG z,atH aa]);rw[e,e];(have e:ic r=95:=by rw[ic,atG z,atG aa]);rw[e];decide
theorem ai3(r:Int):lF (lF r)=lF r:=by by_cases h:yW r=true;(have e:lF r=95:=by rw[lF,atH h]);rw[e];decide;(have e:lF r=r:=by rw[lF,atG h]);rw[e,e]
theorem WV(h:48<=r/\r<=57):eo r=true/\ic r=r/\lF r=r:=by refine⟨(sl r).2 atv,?_,?_⟩;rw[ic,atG atv,atH ⟨by omega,by simp[uH];omega⟩];rw[lF,atG];simp[yW];omega
theorem ai4{v:Int}(W:v=0\/v=1){s:atE}(hs:dT s=true)(bb:Bool)(X:k<100):
  ∃l,ko v (fS v s bb).1 (fS v s bb).2 k=cw l/\(v=0->∃a b,ai2 bb l a b)/\ai1 l:=by
 obtain⟨l,hc,_,_,kE,nJ⟩:=Jb hs;obtain⟨G,k6⟩:=CU s.length s l (atP _) hc;obtain⟨Jo,Jp⟩:=Ol (v:=v) (bb:=bb) k6;have cG:=ai0 v k6 bb;rw[G]at cG
 have OO:1<=(gX v l bb).1.length/\(v=1->(gX v l bb).2.length<=16)/\(bb=true->(gX v l bb).2=[]):=by
  have N:=ON l;unfold gX;split
  ·rename_i h;refine⟨by simp;omega,λh1=>?_,λz=>?_⟩
   ·rcases h.2.2.2 with aa|aa
    ·omega
    simp;omega
   rw[h.1]at z;cases z
  split
  ·rename_i h;exact⟨by simp;omega,λ_=>by simp,λ_=>rfl⟩
  exact⟨kE,λ_=>by simp,λ_=>rfl⟩
 rw[cG];generalize(gX v l bb).1=a at*;generalize(gX v l bb).2=b at*;obtain⟨HD,OP,v1⟩:=OO;dsimp only;refine⟨_,rfl,λh0=>?_,?_⟩
 ·subst h0;have gc:=OM X;have Jq:=F5 X
  have aZ:jH 0 (a.map (e4 0)) (if b=[]then[]else 46::(b.map (e4 0)).take (kn 0)) k+(iP k).length<=8/\1<=jH 0 (a.map (e4 0)) (if b=[]then[]else 46::(b.map (e4 0)).take (kn 0)) k:=by
   unfold jH ow;rw[atL,show((0:Int)==1)=false from rfl,auV];refine⟨by split<;>split<;>omega,by split<;>split<;>omega⟩
  generalize jH 0 (a.map (e4 0)) (if b=[]then[]else 46::(b.map (e4 0)).take (kn 0)) k=bD at*;have ai5:kn 0=3:=by decide
  rw[ai5]
  have Gb:∀x:List Int,(∀r∈x,eo r=true)->∀r∈x.map (e4 0),eo r=true/\ic r=r:=λx F r ae=>by
   obtain⟨y,hy,rfl⟩:=at3.1 ae;have e:e4 0 y=ic y:=by simp[e4]
   rw[e];exact⟨by have:=Jh (v:=0) (F y hy);rwa [e]at this,WU (F y hy)⟩
  refine⟨(a.map (e4 0)).take bD++iP k,(b.map (e4 0)).take 3,?_⟩;refine⟨by simp;omega,by simp;omega,by simp;omega,λr ae=>?_,λr ae=>Gb b Jp r (auL ae),λN=>by rw[v1 N];rfl,?_⟩
  ·rcases at1.1 ae with ae|ae
   ·exact Gb a Jo r (auL ae)
   have:=WV (gc r ae);exact⟨this.1,this.2.1⟩
  by_cases ol:b=[]
  ·subst ol;simp
  have Cr:¬(b.map (e4 0)).take 3=[]:=by
   cases b with
   |nil=>exact absurd rfl ol
   |cons x r=>simp
  rw[atG ol,atG Cr]
 have gc:=OM X;have Jq:=F5 X
 have Gb:∀x:List Int,(∀r∈x,eo r=true)->∀r∈x.map (e4 v),eo r=true/\lF r=r:=λx F r ae=>by
  obtain⟨y,hy,rfl⟩:=at3.1 ae;refine⟨Jh (F y hy),?_⟩;unfold e4;split
  ·
   have h1:=WU (F y hy);rw[lF,atG];intro k2;generalize ic y=V at*;have bz:V=42\/V=47\/V=58\/V=59\/V=63\/V=92:=by simp[yW]at k2;omega
   rcases bz with rfl|rfl|rfl|rfl|rfl|rfl<;>revert h1<;>decide
  exact ai3 y
 have rN:∀r∈(if b=[]then[]else 46::(b.map (e4 v)).take (kn v)),eo r=true/\lF r=r:=λr ae=>by
  split at ae
  ·cases ae
  rcases at6.1 ae with rfl|ae
  ·exact⟨by decide,by decide⟩
  exact Gb b Jp r (auL ae)
 have ai6:(if b=[]then[]else 46::(b.map (e4 v)).take (kn v)).length<=17/\(v=0->(if b=[]then[]else 46::(b.map (e4 v)).take (kn v)).length<=4):=by
  split
  ·simp
  refine⟨?_,λh0=>?_⟩
  ·rcases W with h0|h1
   ·have:kn v=3:=by unfold kn;rw[atH h0]
    simp;omega
   have:=OP h1;simp;omega
  have:kn v=3:=by unfold kn;rw[atH h0]
  simp;omega
 generalize(if b=[]then[]else 46::(b.map (e4 v)).take (kn v))=ck at*
 have aZ:jH v (a.map (e4 v)) ck k+(iP k).length+ck.length<=64:=by
  unfold jH ow;rw[atL];rcases W with rfl|rfl
  ·have:=ai6.2 rfl;rw[show((0:Int)==1)=false from rfl,auV];split<;>split<;>omega
  rw[show((1:Int)==1)=true from rfl,avo];split<;>split<;>omega
 refine⟨λr ae=>?_,by simp;omega⟩;rcases at1.1 ae with ae|ae
 ·rcases at1.1 ae with ae|ae
  ·exact Gb a Jo r (auL ae)
  have:=WV (gc r ae);exact⟨this.1,this.2.2⟩
 exact rN r ae
theorem Gc{f:Nat->Int}:∀{k i:Nat},(∀j,i<=j->j<i+k->f j=0)->hf f i k=0
 |0,i,_=>rfl
 |k+1,i,h=>by simp only[hf];rw[atH (h i (atP _) atv)];exact Gc λj h1 z=>h j atv atv
theorem ai7{n:ad}{l:Int}(h:N_ n l)(al:1<=l):one n l=0:=by refine Gc λi _ hi=>?_;have X:=h.I8;match i,hi with|0,_ =>(have:ug n l=false:=by simp only[ug,avg,avk,avl,aur,avC,avn];refine⟨⟨by omega,by omega⟩,?_⟩;by_cases h1:l=1;exact .inr (h.FY h1);exact .inl h1);simp[eM,vI,this]|1,_ =>(have:uh n l=false:=by simp only[uh,avg,avk,avl,aur,avC,avn];by_cases h1:l=1;exact⟨.inr (h.FZ h1),.inl atv⟩;exact⟨.inl h1,.inr (h.I9 atv)⟩);simp[eM,vJ,this]|2,_ =>(have:ui n=false:=by simp only[ui,avg,avk,avl,aur,avC,avn];refine⟨⟨?_,?_⟩,?_⟩;by_cases h1:n.kind=1;exact .inl h1;have:=h.file h1;exact .inr ⟨this.1,by rw[this.2];simp⟩;by_cases h1:n.kind=2;exact .inl h1;exact .inr (h.I_ h1);by_cases h1:n.kind=0;exact .inl h1;exact .inr (by rw[h.bb h1];simp));simp[eM,vK,this]|3,_ =>(have:uj n=false:=by simp only[uj,avk,aur,avC];by_cases h1:n.kind=2;exact .inr (h.target h1);exact .inl h1);simp[eM,vL,this]|4,_ =>have h1:=h.cL;have z:=h.n2;have aa:=h.n3;have aC:=h.n4;have a_:=h.n5;have cC:=h.n6;(have:r' n=false:=by simp only[r',s8,avg,avC,atM,aup];exact⟨⟨⟨⟨⟨h1,z⟩,aa⟩,aC⟩,a_⟩,cC⟩);simp[eM,vM,this]|5,_ =>have h1:=h.bY;have z:=h.size;have aa:=h.F0;have aC:=h.F1;(have hc:sa n l=false:=by simp only[sa,avg,avl];exact⟨⟨⟨by omega,by omega⟩,by omega⟩,by omega⟩);simp only[eM,nL,hc];rw[atG atx];refine Gc λj _ Z=>?_;have:=(h.bK j atv).1;simp[pw];omega|6,_ =>simp only[eM,CC];exact Gc λj _ Z=>(h.bK j atv).2|7,_ =>simp only[eM,yG];refine Gc λj h1 Z=>?_;have bi:=h.gP (j-1) atv;(have e:j-1+1=j:=by omega);rw[e]at bi;have BV:Op.bytesLess (qh n (j-1)).name (qh n j).name=true:=bi;simp only[sb,qg];rw[atG (s_ BV),atG (by rw[Fk BV];simp)]
mutual
theorem OQ(aW:List ad->List atE)(v:Int):∀(n:ad) (d:Int),fI (jG aW v d n)<=fI n
 |.mk a b c t e f g h i j ah cE,d=>by
  have h1:=WW aW v ah (aW ah) (d+1);have z:eW (mN (fQ aW v (d+1) ah (aW ah)))=eW (fQ aW v (d+1) ah (aW ah)):=ai8 (AS _);simp only[jG,fI];omega
theorem WW(aW:List ad->List atE)(v:Int):∀(l:List ad) (cO:List atE) (d:Int),eW (fQ aW v d l cO)<=eW l
 |[],cO,d=>by simp[fQ]
 |k::r,[],d=>by simp[fQ,eW]
 |k::r,m::cO,d=>by
  have h1:=OQ aW v k d;have z:=WW aW v r cO d;have aa:fI ((jG aW v d k).named m)=fI (jG aW v d k):=by rw[ER,ER];rfl
  simp only[fQ];split
  ·simp only[eW];omega
  simp only[eW];omega
theorem ai8{a b:List ad}(h:a.Perm b):eW a=eW b:=by
 induction h with
 |nil=>rfl
 |cons x _ aY=>simp only[eW,aY]
 |swap x y l=>simp only[eW];omega
 |trans _ _ h1 z=>exact h1.trans z
end
mutual
theorem WX{v:Int}(W:kh v=true):∀(n:ad) (l:Int) (m:atE),1<=l->iO n l=true->(l=1->m=[])->(1<l->dT m=true)->iO ((jG (cd v) v l n).named m) l=true
 |.mk a b c t e f g h i j ah cE,l,m,al,aT,ly,s5=>by
  obtain⟨cs,aV⟩:=AT aT;have cv:=Oa _ l al aT;simp only[iv]at cv;have w7:=WY W ah (cd v ah) (l+1) atv aV λx F=>WT W cv.1 (λk X=>(rb cv.2.2.2 X).1.1) x F;have au:=AS (fQ (cd v) v (l+1) ah (cd v ah));have hlen:=FW (cd v) v (l+1) ah (cd v ah)
  have mO:((fQ (cd v) v (l+1) ah (cd v ah)).map ad.name).Nodup :=
   (N7 (cd v) v (l+1) ah (cd v ah)).nodup (ai9 W cv.1 cv.2.2.1)
  rw[I5,atM];refine⟨?_,V2 λk X=>?_⟩
  ·rw[avn];refine ai7 ?_ al;rw[FU];have hx:ah.length<=64:=cs.F0;have i6:∀(P:List nH->Prop),P cE->P []->P (if v=3 then cE else[]):=λP h1 z=>by split<;>assumption
   exact{
    I8:=cs.I8
    FY:=cs.FY
    FZ:=ly
    I9:=s5
    file:=λh1=>⟨(cs.file h1).1,i6 (λx=>x=[]) (cs.file h1).2 rfl⟩
    I_:=cs.I_
    bb:=λh1=>by
     have:ah=[]:=cs.bb h1;subst this;show mN (fQ (cd v) v (l+1) [] (cd v []))=[];simp[fQ,mN]
    target:=cs.target
    cL:=by have:=cs.cL;show 0<=(if keeps v=true then e else 0)/\(if keeps v=true then e else 0)<=4095;split<;>omega
    n2:=by have:=cs.n2;show 0<=(if keeps v=true then f else 0)/\(if keeps v=true then f else 0)<=65535;split<;>omega
    n3:=by have:=cs.n3;show 0<=(if keeps v=true then g else 0)/\(if keeps v=true then g else 0)<=65535;split<;>omega
    n4:=cs.n4
    n5:=by show(-1048576:Int)<=0/\(0:Int)<=1048576;omega
    n6:=by show(0:Int)<=0/\(0:Int)<=15;omega
    bY:=cs.bY
    size:=cs.size
    F0:=by show(mN (fQ (cd v) v (l+1) ah (cd v ah))).length<=64;rw[au.length_eq];omega
    F1:=by have:cE.length<=4:=cs.F1;show(if v=3 then cE else[]).length<=4;split<;>first|omega|simp
    bK:=λi hi=>by
     have hs:=cs.bK;by_cases aa:v=3
     ·subst aa;exact hs i hi
     exfalso
     have:(if v=3 then cE else([]:List nH))=[]:=atG aa;have l6:i<(if v=3 then cE else([]:List nH)).length:=hi;rw[this]at l6;simp at l6
    gP:=VY mO}
  have fA:k∈mN (fQ (cd v) v (l+1) ah (cd v ah)):=by
   rw[FU]at X;exact X
  exact w7 k (au.subset fA)
theorem WY{v:Int}(W:kh v=true):∀(ah:List ad) (cO:List atE) (l:Int),2<=l->nn ah l=true->(∀m∈cO,dT m=true)->∀k∈fQ (cd v) v l ah cO,iO k l=true
 |[],cO,l,_,_,_=>by simp[fQ]
 |k::r,[],l,_,_,_=>by simp[fQ]
 |k::r,m::cO,l,al,aT,hm=>by
  simp only[nn,atM]at aT;intro x F;have aY:=WY W r cO l al aT.2 λy hy=>hm y (atU _ hy);simp only[fQ]at F;split at F
  ·rcases at6.1 F with rfl|F
   ·exact WX W k l m atv aT.1 (λe=>by omega) λ_=>hm m atS
   exact aY x F
  exact aY x F
theorem ai9{v:Int}(W:kh v=true){ah:List ad}(hx:ah.length<=64)(hi:gP ah):(cd v ah).Nodup:=by
 rcases Ww W with h|h|h|h
 ·rw[Ji (.inl h),uK,auE,aw6];exact(auE.1 (Oo v ah hx)).imp Ne.symm
 ·rw[Ji (.inr h),uK,auE,aw6];exact(auE.1 (Oo v ah hx)).imp Ne.symm
 ·rw[F_ (.inl h)];exact CZ hi
 rw[F_ (.inr h)];exact CZ hi
end
theorem ai_{v:Int}(W:kh v=true){n:ad}(h:valid n=true):valid (jG (cd v) v 1 n)=true:=by
 have av:=ai' h;rw[xi,atM,aup]at h⊢;have h1:=OQ (cd v) v n 1;have z:=WX W n 1 [] (auu _) h.2 (λ_=>rfl) (λe=>absurd e atv);have e:(jG (cd v) v 1 n).named []=jG (cd v) v 1 n:=by rw[FU];simp only[ad.named,av]
 rw[e]at z;exact⟨by omega,z⟩
where
 ai' {n:ad} (h:valid n=true):n.name=[]:=by
  rw[xi,atM]at h;exact(AT h.2).1.FZ rfl
theorem aja{v:Int}(ax:t<ah.length):(cd v ah)[t]'(by rw[ox];exact ax)=re v (hl v (ah.take t)) ah[t]:=by(have e:∀ah:List ad,∀m,m<=ah.length->(hl v ah).reverse.take m=(hl v (ah.take m)).reverse:=axh);have z:=e ah (t+1) atv;(have aa:(cd v ah)[t]?=((cd v ah).take (t+1))[t]?:=by rw[auB,atH atv]);have aC:(cd v ah).take (t+1)=(hl v (ah.take (t+1))).reverse:=z;rw[aC,Ow ax,avO,aul (by simp[tj];omega)]at aa;(have a_:(hl v (ah.take t)).reverse.length=t:=by simp[tj];omega);rw[a_,aww,atJ (by rw[ox];exact ax)]at aa;simpa using aa
section
variable(aW:List ad->List atE)(v:Int)
end
end Go.bS.cp


namespace Go.bS.cp
open Go Go.Proofs
variable{B:World}
theorem WZ(aV:dc B)(s p:atE)(hs:s.length<4294967281):aS B 295 [.O s,.O p] (.bl [.O (Lib.cut s p).1,.O (Lib.cut s p).2.1,.bool (Lib.cut s p).2.2]):=by obtain⟨m,hm⟩:=aV.TO;exact .zW (jD Tryz.func295 rfl atz) rfl λw G=>(Tryz.strings_Cut ⟨⟨s⟩⟩ ⟨⟨p⟩⟩ m w hs (E6 G hm)).mono λe w' ⟨ak,n,cG⟩=>by subst cG;exact⟨_,ak,λC=>.bl _ _ rfl λi d v N W=>by match i with|0=>cases N;cases W;exact .O _|1=>cases N;cases W;exact .O _|2=>cases N;cases W;exact .bool _|i+3=>simp at N,⟨rfl,rfl,rfl,atP _,λ_ _=>rfl⟩⟩
def Gd(s p:atE):atE×Bool:=if Lib.hasSuffix s p then(s.take (s.length-p.length),true)else(s,false)
def oy(s:atE)(m:Int):Bool:=decide ((1:Int)<=s.length)&&(decide ((s.length:Int)<=m)&&uI s)
theorem W0(s:atE)(m:Int):aS B 316 [.O s,u m] (.bool (oy s m)):=by refine bB Tryz.func316 Tryz.ntmps316 λU=>?_;refine go ?_;refine br (V9 s) ?_;refine aq.of_eq (atI D.bool ?_);unfold oy;by_cases h1:(1:Int)<=s.length<;>by_cases z:(s.length:Int)<=m<;>simp[h1,z]
def v8(s:atE)(bb:Bool):Bool:=!((Lib.cut s [46]).2.2&&(bb||!oy (Lib.cut s [46]).2.1 3))&&oy (Lib.cut s [46]).1 8
theorem ajb(aV:dc B)(s:atE)(bb:Bool)(hs:s.length<1000000000):aS B 275 [u 0,.O s,.bool bb] (.bool (v8 s bb)):=by refine bB Tryz.func275 Tryz.ntmps275 λU=>?_;apply b3;refine nF ?_;apply b3;refine Y.cond true rfl (λhc=>?_) (λhc=>by cases hc);refine go ?_;refine br (WZ aV s [46] atv) ?_;refine br (W0 _ 3) ?_;refine aJ _ rfl ?_ ?_<;>intro hc;refine go ?_;(have oo:((Lib.cut s [46]).2.2&&(bb||!oy (Lib.cut s [46]).2.1 3))=true:=by revert hc;cases(Lib.cut s [46]).2.2<;>cases bb<;>simp);refine aq.of_eq (atI D.bool ?_);rw[v8,oo];rfl;refine go ?_;refine br (W0 _ 8) ?_;(have oo:((Lib.cut s [46]).2.2&&(bb||!oy (Lib.cut s [46]).2.1 3))=false:=by revert hc;cases(Lib.cut s [46]).2.2<;>cases bb<;>simp);refine aq.of_eq (atI D.bool ?_);rw[v8,oo];rfl
def y8(s:atE):Bool:=decide (0<=Lib.indexByte s 46)
def kp(s:atE)(bb:Bool):atE×Int :=
 if v8 s bb=true then if bb=true then(s,0)else if y8 s=true then(s++[59,49],0)else(s++[46,59,49],0)else([],4)
theorem W1(aV:dc B)(s:atE)(bb:Bool)(hs:s.length<1000000000):aS B 225 [.O s,.bool bb] (.bl [.O (kp s bb).1,u (kp s bb).2]):=by refine bB Tryz.func225 Tryz.ntmps225 λU=>?_;refine go ?_;refine br (ajb aV s bb hs) ?_;refine aJ _ rfl ?_ ?_<;>intro hc;refine go ?_;(have h:¬v8 s bb=true:=by simpa using hc);rw[kp,atG h];exact ar;refine go ?_;(have h:v8 s bb=true:=by simpa using hc);refine go ?_;refine Y.cond bb rfl (λN=>?_) (λN=>?_);refine go ?_;rw[kp,atH h,atH N];exact ar;refine go ?_;refine br (TQ s 46) ?_;refine Y.cond (y8 s) rfl (λz=>?_) (λz=>?_);refine ch ?_;refine nb ?_;rw[kp,atH h,atG (by rw[N];simp),atH z];exact ar;apply cl;refine ch ?_;refine nb ?_;rw[kp,atH h,atG (by rw[N];simp),atG (by rw[z];simp)];exact ar
def Ge(id m:atE)(bb:Bool):atE×Int:=if(kp m bb).2=0/\(kp m bb).1=id then(m,0)else([],4)
def Jr(id:atE)(bb:Bool):atE×Int :=
 if bb=true then Ge id id bb else if(Gd id [59,49]).2=true then Ge id (Lib.trimSuffix (Gd id [59,49]).1 [46]) bb else([],4)
def rf(cs:List (List c_)):List Int:=cs.mapIdx λi g=>iu g+(if i+1<cs.length then 28 else 0)
theorem OR(cs:List (List c_)):(rf cs).length=cs.length:=by simp[rf]
variable{cs:List (List c_)}{i:Nat}
theorem ajc(h:i<cs.length):(rf cs)[i]?=some (iu cs[i]+(if i+1<cs.length then 28 else 0)):=by simp[rf,h]
theorem ajd(h:i<cs.length):(rf cs).take (i+1)=(rf cs).take i++[iu cs[i]+(if i+1<cs.length then 28 else 0)]:=by
 have h1:i<(rf cs).length:=by rw[OR];exact h
 rw[atN h1];have:=ajc h;rw[atJ h1]at this;rw[auA this]
theorem aje(cs:List (List c_))(al:cs.length<1000000)(N:∀g∈cs,g.length<1000000/\∀x∈g,x.data.length<1000000):aS B 175 [.Q .none 1 (jh cs)] (.Q .none 1 (bn (rf cs))):=by
 refine bB Tryz.func175 Tryz.ntmps175 λU=>?_;apply b3;apply b3;refine p8 ?_;refine Y.own 3 1000 1 3 rfl (λw=>?_);refine go ?_
 refine Y.ed (α:={i:Nat // i<=cs.length}×Value) (λx=>[(0,.Q .none 1 (jh cs)),(3,.Q (.own 1000 x.2) 1 (bn ((rf cs).take x.1.1))),(7,.Q .none 1 (jh cs)),(8,u ((jh cs).length:Nat)),(9,u x.1.1)])
  (λx=>[(1000,.own x.2 (bn ((rf cs).take x.1.1)).length 1 3)]) (λx=>cs.length-x.1.1) (⟨0,by omega⟩,w) [(1000,1000)]
  ⟨ar,rfl,ba⟩ ?_
 rintro⟨⟨i,hi⟩,w⟩;dsimp only at hi⊢;refine go ?_;refine aJ (decide ((i:Int)<((jh cs).length:Nat))) rfl ?_ ?_<;>intro hc
 ·apply cl;have aE:i<cs.length:=by simpa[jh]using hc
  have cW:=ajd aE;have bi:(bn ((rf cs).take i)).length<=i:=by simp[bn];omega
  have OS:=N _ (atK aE);have AQ:=FK OS.2 cs[i].length (atP _);rw[atW]at AQ;have w7:((jh cs).length:Nat)=cs.length:=by simp[jh]
  generalize(rf cs).take i=L at*;refine gK ?_;refine⟨λ_=>by simp[jh];omega,?_⟩;refine go ?_;refine⟨.Q .none 3 (eA cs[i]),λ_=>by simp[jh,aE],?_⟩;refine go ?_;refine br (I2 cs[i] OS.1 OS.2) ?_;refine aJ (decide ((i:Int)+1<((jh cs).length:Nat))) rfl ?_ ?_<;>intro bw
  ·apply kF
   have h1 : i + 1 < cs.length := by have : (i : Int) + 1 < ((jh cs).length : Nat) := by simpa using bw
                                     omega
   rw[atH h1]at cW;refine g_ ?_;refine nc ?_;refine nE ?_;refine⟨by show(_+1)*8<=_;omega,by show _+1<=_;omega,atC,λgQ=>?_⟩;refine go ?_;exact⟨(⟨i+1,aE⟩,gQ),[(1000,26)],by show cs.length-(i+1)<cs.length-i;omega,⟨E,aq.kd (by rw[cW,bn,bn,auo];rfl),E,E,E,ai⟩,rfl,rfl,kG (by rw[cW,bn,bn,auo];simp),ai⟩
  apply cl
  have h1 : ¬i + 1 < cs.length := by have : ¬(i : Int) + 1 < ((jh cs).length : Nat) := by simpa using bw
                                     omega
  rw[atG h1]at cW;refine nc ?_;refine nE ?_;refine⟨by show(_+1)*8<=_;omega,by show _+1<=_;omega,atC,λgQ=>?_⟩;refine go ?_;exact⟨(⟨i+1,aE⟩,gQ),[(1000,26)],by show cs.length-(i+1)<cs.length-i;omega,⟨E,aq.kd (by rw[cW,bn,bn,auo];simp;rfl),E,E,E,ai⟩,rfl,rfl,kG (by rw[cW,bn,bn,auo];simp),ai⟩
 have cg:i=cs.length:=by simp[jh]at hc;omega
 subst cg;rw[aue (by rw[OR];exact atP _)];refine go ?_;exact aq.m7
theorem upto{p:Nat->Prop}(h0:∀j,j<i->p j)(h:p i):∀j,j<i+1->p j:=λj Z=>(avK.1 Z).elim (h0 j) (λe=>e ▸ h)
def qr(x y:Int):Int:=if x<y then -1 else if y<x then 1 else 0
theorem W2(n:Int):aS B 190 [u n] (.bool false):=by refine bB Tryz.func190 Tryz.ntmps190 λU=>?_;refine go ?_;exact aq.of_eq (atI D.bool atx)
theorem W3(n:Int):aS B 329 [.int .u8 n] (.bool false):=by refine bB Tryz.func329 Tryz.ntmps329 λU=>?_;refine go ?_;exact aq.of_eq (atI D.bool atx)
theorem ajf(x y:Int):aS B 244 [u x,u y] (u (qr x y)):=by refine bB Tryz.func244 Tryz.ntmps244 λU=>?_;refine pf ?_;refine⟨[u x],_,λ_=>W2 x,ar,?_⟩;refine ch ?_;refine⟨[u y],_,λ_=>W2 y,ar,?_⟩;exact axe
theorem ajg(x y:Int):aS B 293 [.int .u8 x,.int .u8 y] (u (qr x y)):=by refine bB Tryz.func293 Tryz.ntmps293 λU=>?_;refine pf ?_;refine⟨[.int .u8 x],_,λ_=>W3 x,ar,?_⟩;refine ch ?_;refine⟨[.int .u8 y],_,λ_=>W3 y,ar,?_⟩;exact axe
def uL(s:atE):Int:=if(s==[0])=true then 0 else if(s==[1])=true then 1 else 2
theorem OT(s:atE):aS B 245 [.O s] (u (uL s)):=by refine bB Tryz.func245 Tryz.ntmps245 λU=>?_;refine go ?_;refine aJ (s==[0]) rfl ?_ ?_<;>intro hc;refine go ?_;rw[uL,atH hc];exact E;refine go ?_;rw[uL,atG (by rw[hc];decide)];refine go ?_;refine aJ (s==[1]) rfl ?_ ?_<;>intro hc;refine go ?_;rw[atH hc];exact E;refine go ?_;rw[atG (by rw[hc];decide)];exact E
def oY(s:atE)(i:Nat)(fill:Int):Int:=if i<s.length then((s.getD i 0).toNat:Nat)else fill
def C2(b:Nat)(fill:Int):List (Nat×aI):=[(4101,.box b [.int .u8 fill])]
theorem W4(s:atE)(i b:Nat)(fill:Int):cV B 292 [.O s,u (i:Nat),.box 4101 b 0] (aK (C2 b fill)) λd aM=>d=.int .u8 (oY s i fill)/\aM=aK (C2 b fill):=by refine jW Tryz.func292 Tryz.ntmps292 λU=>?_;refine go ?_;refine aJ (decide ((i:Int)<(s.length:Nat))) rfl ?_ ?_<;>intro hc;refine ch ?_;(have aE:i<s.length:=by simpa using hc);refine⟨s[i],λ_=>⟨by omega,by simp[aE]⟩,?_⟩;(conv=>whnf);refine Y.gU [(5,.int .u8 (oY s i fill))] (C2 b fill) [(4101,4101)] ⟨⟨aq.of_eq (atI (D.int .u8) (by rw[oY,atH aE,avG,atJ aE];rfl)),ai⟩,rfl,ba⟩ ?_;refine go ?_;exact⟨_,E,rfl,rfl⟩;apply cl;apply b3;(conv=>whnf);refine cT ?_;refine Y.gU [(5,.int .u8 (oY s i fill))] (C2 b fill) [(4101,4101)] ⟨⟨aq.of_eq (atI (D.int .u8) (by rw[oY,atG (by simpa using hc)])),ai⟩,rfl,ba⟩ ?_;exact ayD
def Gf(a b:atE)(fill:Int)(i:Nat):Option Int:=if qr (oY a i fill) (oY b i fill)≠0 then some (qr (oY a i fill) (oY b i fill))else none
def y9(a b:atE)(fill:Int):Int:=((List.range (max a.length b.length)).findSome? (Gf a b fill)).getD 0
theorem W5(a b:Nat):(if(b:Int)>(a:Int)then(b:Int)else(a:Int))=((max a b:Nat):Int):=by split<;>omega
theorem OU(a b:atE)(fill:Int)(ha:a.length<1000000000)(G:b.length<1000000000):aS B 246 [.O a,.O b,.int .u8 fill] (u (y9 a b fill)):=by refine bB Tryz.func246 Tryz.ntmps246 λU=>?_;refine go ?_;intro cx;refine go ?_;generalize av:max a.length b.length=n;refine go ?_;refine Y.ed (α:={i:Nat // i<=n/\∀j,j<i->Gf a b fill j=none}) (λx=>[(0,.O a),(1,.O b),(7,.fn (.func 292) [] [.box 5 cx 0]),(15,u (n:Nat)),(16,u x.1)]) (λ_=>[(5,.box cx [.int .u8 fill])]) (λx=>n-x.1) ⟨0,by omega,λj h=>by omega⟩ [(5,5)] ⟨⟨E,E,E,aq.of_eq (atI (D.int .i64) (by rw[<-av];exact W5 _ _)),E,ai⟩,rfl,ba⟩ ?_;rintro⟨i,hi,cv⟩;dsimp only at hi cv⊢;refine go ?_;refine aJ (decide ((i:Int)<(n:Nat))) rfl ?_ ?_<;>intro hc;refine go ?_;(have aE:i<n:=by simpa using hc);refine go ?_;refine .inr (af.Cb rfl [.O a,u (i:Nat),.box 4101 cx 0] [(4101,5)] (hs:=C2 cx fill) (by exact⟨rfl,ba⟩) (W4 a i cx fill) rfl ⟨E,E,aq.box,ai⟩ E ?_);refine go ?_;refine .inr (af.Cb rfl [.O b,u (i:Nat),.box 4101 cx 0] [(4101,5)] (hs:=C2 cx fill) (by exact⟨rfl,ba⟩) (W4 b i cx fill) rfl ⟨E,E,aq.box,ai⟩ E ?_);refine go ?_;refine br (ajg _ _) ?_;refine aJ (qr (oY a i fill) (oY b i fill)!=0) rfl ?_ ?_<;>intro bw;refine go ?_;(have aX:qr (oY a i fill) (oY b i fill)≠0:=by simpa using bw);have q4:Gf a b fill i=some (qr (oY a i fill) (oY b i fill)):=atH aX;have M:=FN (p:=Gf a b fill) (l:=List.range n) (i:=i) (e:=qr (oY a i fill) (oY b i fill)) (by simpa using aE) (λj Z fc=>by rw[awp];exact cv j fc) (by rw[awp];exact q4);rw[y9,av,M];exact E;refine go ?_;exact⟨⟨i+1,aE,upto cv (atG (by simpa using bw))⟩,[(5,5)],by show n-(i+1)<n-i;omega,ar,rfl,ba⟩;(have cg:i=n:=by simp at hc;omega);(have M:(List.range n).findSome? (Gf a b fill)=none:=N1 λj Z=>by rw[awp];exact cv j (by simp at Z;omega));rw[y9,av,M];refine go ?_;exact E
def Js(l:List Int):Int:=(l.findSome? λx=>if x≠0 then some x else none).getD 0
theorem ajh(l:List Int)(al:l.length<1000000):aS B 248 [.Q .none 1 (bn l)] (u (Js l)):=by
 refine bB Tryz.func248 Tryz.ntmps248 λU=>?_;refine go ?_;refine Y.ed (α:={i:Nat // i<=l.length/\∀j (Z:j<l.length),j<i->(if l[j]≠0 then some l[j]else none)=none}) (λx=>[(3,u 0),(6,.Q .none 1 (bn l)),(7,u ((bn l).length:Nat)),(8,u x.1)]) (λ_=>[]) (λx=>l.length-x.1) ⟨0,by omega,λj _ h=>by omega⟩ [] ⟨ar,rfl,ai⟩ ?_;rintro⟨i,hi,cv⟩;dsimp only at hi cv⊢;refine go ?_;refine aJ (decide ((i:Int)<((bn l).length:Nat))) rfl ?_ ?_<;>intro hc
 ·apply cl;have aE:i<l.length:=by simpa[bn]using hc
  refine gK ?_;refine⟨λ_=>by simp[bn];omega,?_⟩;refine go ?_;refine⟨u l[i],λ_=>by simp[bn,aE],?_⟩;refine go ?_;refine aJ (l[i]!=0) rfl ?_ ?_<;>intro bw
  ·refine go ?_;have aX:l[i]≠0:=by simpa using bw
   rw[Js,FN (p:=λx=>if x≠0 then some x else none) aE cv (e:=l[i]) (atH aX)];exact E
  refine go ?_
  exact⟨⟨i + 1,aE,λj Z h => by rcases at5 j i with lD|lD
                               ·exact cv j Z lD
                               have:j=i:=atv
                               subst this;exact atG (by simpa using bw)⟩,[],ayq,ar,rfl,ai⟩
 have cg:i=l.length:=by simp[bn]at hc;omega
 subst cg;rw[Js,N1 λj Z=>cv j Z Z];refine go ?_;exact E
def iw(s:atE):Prop:=∀c∈s,c.toNat<128
theorem aji(aV:dc B)(s:atE)(hs:s.length<4000000000)(ha:iw s):aS B 294 [.O s,.O [46,59]] (u (Lib.indexAny s [46,59])) :=
 .zW (jD Tryz.func294 rfl atz) rfl λw G=>(Tryz.strings_IndexAny_laid ⟨⟨s⟩⟩ ⟨⟨[46,59]⟩⟩ w (by show s.length<_;omega) aty (λj b G=>ha b (at2 G)) (λj b G=>by
  have:=at2 G;simp at this
  rcases this with rfl|rfl<;>decide)).mono λe w' ⟨ak,cG⟩=>⟨_,ak,λC=>.int _ _,cG⟩
def C3(n:Nat):atE:=Lib.repeatL [48] n
theorem ajj(n:Nat):(C3 n).length=n:=by rw[C3,Lib.repeatL_length];simp
theorem ajk(n:Nat)(av:n<1000000000):aS B 74 [.O [48],u (n:Nat)] (.O (C3 n)) :=
 .zW (jD Tryz.func74 rfl atz) rfl λw G=>(Tryz.strings_Repeat ⟨⟨[48]⟩⟩ n w atv (by show 1*n<=_;omega)).mono λe w' ⟨ak,cG⟩=>⟨_,ak,λC=>.O _,cG⟩
theorem ajl(s p:atE)(h:0<=Lib.indexAny s p):(Lib.indexAny s p).toNat<s.length:=by induction s with|nil=>simp[Lib.indexAny]at h|cons b l aY =>unfold Lib.indexAny at h⊢;split;simp;rename_i h1;rw[atG h1]at h;split;rename_i z;rw[atH z]at h;omega;rename_i z;rw[atG z]at h;have aT:=Lib.indexAny_ge p l;(have:0<=Lib.indexAny l p:=by(have:Lib.indexAny l p≠-1:=by simpa using z);omega);have:=aY this;simp only[atQ];omega
def gY(s:atE):atE×atE×atE :=
 if Lib.indexAny s [46,59]<0 then(s,[],[])else if((s.getD (Lib.indexAny s [46,59]).toNat 0).toNat:Int)=59 then(s.take (Lib.indexAny s [46,59]).toNat,[],s.drop (Lib.indexAny s [46,59]+1).toNat)
 else(s.take (Lib.indexAny s [46,59]).toNat,(Lib.cut (s.drop (Lib.indexAny s [46,59]+1).toNat) [59]).1,(Lib.cut (s.drop (Lib.indexAny s [46,59]+1).toNat) [59]).2.1)
theorem W6(aV:dc B)(s:atE)(hs:s.length<4000000000)(ha:iw s):aS B 247 [.O s] (.bl [.O (gY s).1,.O (gY s).2.1,.O (gY s).2.2]):=by refine bB Tryz.func247 Tryz.ntmps247 λU=>?_;refine go ?_;refine br (aji aV s hs ha) ?_;refine aJ (decide (Lib.indexAny s [46,59]<0)) rfl ?_ ?_<;>intro hc;refine go ?_;rw[gY,atH (by simpa using hc)];exact ar;apply cl;(have hS:¬Lib.indexAny s [46,59]<0:=by simpa using hc);have W7:=ajl s [46,59] atv;rw[gY,atG hS];generalize be:Lib.indexAny s [46,59]=et at*;refine oO ?_;(conv=>whnf);refine⟨λ_=>by omega,?_⟩;refine ll ?_;refine⟨λ_=>by omega,?_⟩;refine go ?_;refine⟨s[et.toNat],λ_=>⟨by omega,by simp[W7]⟩,?_⟩;refine go ?_;(have ip:((s.getD et.toNat 0).toNat:Int)=(s[et.toNat].toNat:Nat):=by rw[avG,atJ W7];rfl);refine aJ (((s[et.toNat].toNat:Nat):Int)==59) rfl ?_ ?_<;>intro bw;refine go ?_;rw[atH (by rw[ip];simpa using bw)];exact⟨aq.of_eq (atI D.O atx),E,aq.of_eq (atI D.O atx),ai⟩;apply cl;rw[atG (by rw[ip];simpa using bw)];refine ch ?_;refine⟨[.O (s.drop (et+1).toNat),.O [59]],_,λ_=>WZ aV (s.drop (et+1).toNat) [59] (by rw[auS];omega),⟨aq.of_eq (atI D.O atx),E,ai⟩,?_⟩;refine gm ?_;exact⟨aq.of_eq (atI D.O atx),E,E,ai⟩
theorem ajm(s p:atE):(Lib.cut s p).1.length<=s.length/\(Lib.cut s p).2.1.length<=s.length:=by unfold Lib.cut;split;simp only[at4,auS];omega;simp
theorem W8(s:atE):(gY s).1.length<=s.length/\(gY s).2.1.length<=s.length/\(gY s).2.2.length<=s.length:=by unfold gY;split;simp;split;simp only[at4,auS,auf];omega;have:=ajm (s.drop (Lib.indexAny s [46,59]+1).toNat) [59];rw[auS]at this;simp only[at4];omega
def OV(v w:atE):atE:=(C3 (max v.length w.length)).drop w.length++w
def OW(a b:atE):Int:=Js [y9 (gY a).1 (gY b).1 32,y9 (gY a).2.1 (gY b).2.1 32]
def xo(a b:atE)(wide:Bool):Int :=
 if(bif qr (uL a) (uL b)!=0 then true else decide (uL a<2))=true then qr (uL a) (uL b)
 else if wide=true then y9 a b 0
 else if OW a b≠0 then OW a b
 else Lib.compareBytes (OV (gY a).2.2 (gY b).2.2) ((C3 (max (gY a).2.2.length (gY b).2.2.length)).drop (gY a).2.2.length++(gY a).2.2)
theorem W9(aV:dc B)(a b:atE)(wide:Bool)(ha:a.length<100000000)(G:b.length<100000000)(ajn:wide=false->iw a/\iw b):aS B 178 [.O a,.O b,.bool wide] (u (xo a b wide)):=by refine bB Tryz.func178 Tryz.ntmps178 λU=>?_;refine go ?_;refine br (OT a) ?_;refine br (OT b) ?_;refine br (ajf _ _) ?_;refine br (OT a) ?_;refine aJ (bif qr (uL a) (uL b)!=0 then true else decide (uL a<2)) rfl ?_ ?_<;>intro hc;refine go ?_;rw[xo,atH hc];exact E;refine go ?_;rw[xo,atG (by rw[hc];decide)];refine go ?_;refine aJ wide rfl ?_ ?_<;>intro bw;refine go ?_;refine br (OU a b 0 atv atv) ?_;rw[atH bw];exact E;apply cl;rw[atG (by rw[bw];decide)];obtain⟨ajo,LP⟩:=ajn bw;obtain⟨hg,kg,pz⟩:=W8 a;obtain⟨NS,NT,IU⟩:=W8 b;refine ch ?_;refine⟨[.O a],_,λ_=>W6 aV a atv ajo,ar,?_⟩;refine ch ?_;refine⟨[.O b],_,λ_=>W6 aV b atv LP,ar,?_⟩;refine p8 ?_;refine⟨[.O (gY a).1,.O (gY b).1,.int .u8 32],_,λ_=>OU _ _ 32 atv atv,ar,?_⟩;(conv=>whnf);refine⟨[.O (gY a).2.1,.O (gY b).2.1,.int .u8 32],_,λ_=>OU _ _ 32 atv atv,ar,?_⟩;(conv=>whnf);refine pe ?_;refine⟨[.Q .none 1 (bn [y9 (gY a).1 (gY b).1 32,y9 (gY a).2.1 (gY b).2.1 32])],_,λ_=>ajh _ atx,⟨aq.js _,ai⟩,?_⟩;apply b3;refine aJ (OW a b !=0) rfl ?_ ?_<;>intro dO;refine go ?_;rw[atH (by simpa using dO)];exact E;apply cl;rw[atG (by simpa using dO)];refine pf ?_;refine⟨[.O [48],u ((max (gY a).2.2.length (gY b).2.2.length:Nat):Nat)],_,λ_=>ajk _ atv,⟨E,aq.of_eq (atI (D.int .i64) (W5 _ _)),ai⟩,?_⟩;refine oO ?_;have mt:=ajj (max (gY a).2.2.length (gY b).2.2.length);(conv=>whnf);refine⟨λ_=>by omega,?_⟩;refine wU ?_;refine⟨λ_=>by omega,?_⟩;(conv=>whnf);refine nb ?_;refine⟨[.O (OV (gY a).2.2 (gY b).2.2),.O ((C3 (max (gY a).2.2.length (gY b).2.2.length)).drop (gY a).2.2.length++(gY a).2.2)],_,λ_=>TP _ _,⟨aq.of_eq (atI D.O (by unfold OV;simp)),aq.of_eq (atI D.O atx),ai⟩,?_⟩;refine iJ ?_;exact E
def Jt(dY:Nat)(fB:List atE)(v:Value):bF:=aK [(2000,.box dY [.Q (.own 2001 v) 1 (aU fB)]),(2001,.own v (aU fB).length 1 9)]
theorem ajp(dY:Nat)(n:ad)(p:atE)(l:Int)(fB:List atE)(v:Value)(ajq:fB.length<10000000):cV B 148 ([aH n,.O p,u l]++[.box 2000 dY 0]) (Jt dY fB v) λd aM=>∃c',d=.bool true/\aM=Jt dY (fB++[p]) c':=by
 refine jW Tryz.func148 Tryz.ntmps148 λU=>?_;refine ch ?_;intro b;refine lm ?_;refine nE ?_;refine⟨by show(_+1)*16<=_;simp[aU];omega,by show _+1<=_;simp[aU];omega,atC,λjz=>?_⟩;apply cD;refine ch ?_;have ak:aU fB++[D.O p]=aU (fB++[p]):=by simp[aU]
 refine Y.jx 2000 (dt:=[.Q (.own 2001 jz) 1 (aU (fB++[p]))]) rfl ⟨aq.trans (aq.of_eq (atI (D.Q (.own 11 jz) 1) ak)) (aq.own 11 2001),ai⟩ ?_;refine Y.gU [(7,.bool true)] [(2000,.box dY [.Q (.own 2001 jz) 1 (aU (fB++[p]))]),(2001,.own jz (aU (fB++[p])).length 1 9)] [(2000,2000),(2001,11)] ⟨ar,rfl,rfl,rfl,rfl,atI (λV=>some (aI.own jz V 1 9)) (by simp[aU]),ai⟩ ?_;refine go ?_;exact⟨_,E,jz,rfl,rfl⟩
theorem W_:∀{l:List ad} {i:Nat} (h:i<l.length),eF (l.take i)+aB l[i]<=eF l
 |k::r,0,_=>by simp only[av2,eF,av5];omega
 |k::r,i+1,h=>by have:=W_ (l:=r) (i:=i) (by simpa using h);simp only[avr,eF,au6];omega
theorem ajr(dY:Nat):∀(bD:Nat) (n:ad) (p:atE) (l:Int) (fB:List atE) (v:Value),aB n<bD->p.length+aB n+l.toNat+n.name.length<100000000->1<=l->fB.length+aB n<10000000->cV B 125 [aH n,.O p,u l,.fn (.func 148) [] [.box 2000 dY 0]] (Jt dY fB v) λd aM=>∃c',d=.bool true/\aM=Jt dY (fB++dP n p l) c':=by refine λbD=>Nat.rec (λn p l fB v h=>absurd h (avf _)) (λbD aY n p l fB v hN G al ajq=>?_) bD;refine jW Tryz.func125 Tryz.ntmps125 λU=>?_;refine ch ?_;intro b;apply m';refine Y.Sf aL ?_;refine go ?_;refine yc ?_;refine⟨_,[(2000,2000),(2001,2001)],_,ajp dY n p l fB v atv,rfl,⟨E,E,E,?_⟩,?_⟩;exact dL.refl _;rintro d aM ⟨jz,rfl,rfl⟩;refine⟨_,E,?_⟩;refine aJ _ rfl ?_ ?_<;>intro hc;exact absurd hc atx;refine go ?_;(have h0:fB++[p]++j6 (n.J.take 0) p l=fB++[p]:=by simp[j6]);refine Y.ed (α:={x:Nat×Value // x.1<=n.J.length}) (λx=>[(1,.O p),(2,u l),(3,.fn (.func 148) [] [.box 2000 dY 0]),(18,.Q .none 12 (n.J.map enc)),(19,u (n.J.map enc).length),(20,u x.1.1)]) (λx=>[(2000,.box dY [.Q (.own 2001 x.1.2) 1 (aU (fB++[p]++j6 (n.J.take x.1.1) p l))]),(2001,.own x.1.2 (aU (fB++[p]++j6 (n.J.take x.1.1) p l)).length 1 9)]) (λx=>n.J.length-x.1.1) ⟨(0,jz),by simp⟩ [(2000,2000),(2001,2001)] ⟨ar,rfl,rfl,atI (λV=>some (aI.box dY [.Q (.own 2001 jz) 1 (aU V)])) h0.symm,rfl,atI (λV=>some (aI.own jz (aU V).length 1 9)) h0.symm,ai⟩ ?_;rintro⟨⟨i,v2⟩,hi⟩;dsimp only at hi⊢;refine go ?_;refine aJ _ rfl ?_ ?_<;>intro hc;refine fk ?_;(have og:i<n.J.length:=by simpa using hc);have b5:=r1 og;have eJ:=Ce p n.J[i].name (l+1);have eQ:=vx n;have cW:=OG og p l;have m_:=Jn (n.J.take i) p l;have bi:=W_ og;have BC:=ES (n.J.take i);have aip:=l' n;refine vm ?_;refine⟨aH n.J[i],λ_=>r2 og,?_⟩;refine go ?_;intro b;(conv=>whnf);refine cT ?_;apply en;refine Y.Sg aL 10 mixed atA ?_;refine go ?_;refine br (Ta p n.J[i].name (l+1) atv) ?_;refine yc ?_;refine⟨_,[(2000,2000),(2001,2001)],_,aY n.J[i] (below p n.J[i].name (l+1)) (l+1) (fB++[p]++j6 (n.J.take i) p l) v2 atv atv atv (by simp only[atO,atQ,auf];omega),rfl,ar,?_⟩;rintro d aM ⟨v3,rfl,rfl⟩;refine⟨_,E,?_⟩;refine aJ _ rfl ?_ ?_<;>intro hc;exact absurd hc atx;refine go ?_;(have ak:fB++[p]++j6 (n.J.take i) p l++dP n.J[i] (below p n.J[i].name (l+1)) (l+1)=fB++[p]++j6 (n.J.take (i+1)) p l:=by rw[cW,auj]);exact⟨⟨(i+1,v3),by omega⟩,[(2000,2000),(2001,2001)],ayi,ar,rfl,rfl,atI (λV=>some (aI.box dY [.Q (.own 2001 v3) 1 (aU V)])) ak,rfl,atI (λV=>some (aI.own v3 (aU V).length 1 9)) ak,ai⟩;refine Y.exit ?_;(have cg:i=n.J.length:=by simp at hc;omega);(have ak:fB++[p]++j6 (n.J.take i) p l=fB++dP n p l:=by rw[cg,atW,OB,auj];rfl);refine ch ?_;refine Y.gU [(8,.bool true)] [(2000,.box dY [.Q (.own 2001 v2) 1 (aU (fB++dP n p l))]),(2001,.own v2 (aU (fB++dP n p l)).length 1 9)] [(2000,2000),(2001,2001)] ⟨ar,rfl,rfl,atI (λV=>some (aI.box dY [.Q (.own 2001 v2) 1 (aU V)])) ak,rfl,atI (λV=>some (aI.own v2 (aU V).length 1 9)) ak,ai⟩ ?_;refine go ?_;exact⟨_,E,v2,rfl,rfl⟩
theorem OX(aV:dc B)(n:ad)(av:fv n):aS B 96 [aH n] (.Q .none 1 (aU (if valid n then dP n [] 1 else[]))):=by refine bB Tryz.func96 Tryz.ntmps96 λU=>?_;refine go ?_;intro b;refine go ?_;refine br (AA aV n (by unfold fv at av;omega)) ?_;refine aJ _ rfl ?_ ?_<;>intro hc;refine go ?_;(have W:valid n=false:=by simpa using hc);rw[W];exact aq.nil;refine go ?_;(have W:valid n=true:=by simpa using hc);rw[atH W];refine go ?_;intro b;apply en;refine Y.tW 2001 1 9 ?_;refine Y.jx 3 (dt:=[.Q (.own 2001 (.slice none 0 0)) 1 []]) rfl ⟨aq.vj,ai⟩ ?_;refine go ?_;refine .inr (af.call rfl [aH n,.O [],u 1,.fn (.func 148) [] [.box 2000 b 0]] [(2000,3),(2001,2001)] (ajr b _ n [] 1 [] (.slice none 0 0) (auw _) (by simp;unfold fv at av;omega) atv (by simp;unfold fv at av;omega)) rfl ⟨E,E,E,aq.fn trivial ⟨aq.box,ai⟩,ai⟩ ?_);rintro d aM ⟨c',rfl,rfl⟩;refine p7 ?_;exact aq.m7
structure eS where
 path:atE
 data:atE
 deriving DecidableEq
def eb(f:eS):D:=.agg [.O f.path,.O f.data]
def Gg(n:ad)(p:atE):Bool:=bif (dQ n p).2==0 then(dQ n p).1.kind==1 else false
def ie(n:ad)(p:atE):Option eS:=if Gg n p=true then some ⟨p,(dQ n p).1.dB⟩else none
def ci(n:ad):List eS:=(if valid n then dP n [] 1 else[]).filterMap (ie n)
variable{α wV:Type}
theorem W'(f:α->Option wV){l:List α}(h:i<l.length):(l.take (i+1)).filterMap f=(l.take i).filterMap f++(f l[i]).toList:=by rw[atN h,List.filterMap_append];simp[List.filterMap_cons];cases f l[i]<;>rfl
theorem Gh{l:List atE}(h:i<l.length):(aU l)[((i:Int)).toNat]?=some (.O l[i]):=by simp[aU,h]
mutual
theorem Xa:∀(n:ad) (q:atE) (l:Int),∀p∈dP n q l,p.length<=q.length+aB n
 |.mk _ _ _ _ _ _ _ _ _ _ ah cE,q,l,p,au=>by
  simp only[dP,at6]at au;rcases au with rfl|au
  ·omega
  have:=Xb ah q l p au;simp only[aB];omega
theorem Xb:∀(ah:List ad) (q:atE) (l:Int),∀p∈j6 ah q l,p.length<=q.length+eF ah
 |[],q,l,p,au=>by cases au
 |k::r,q,l,p,au=>by
  simp only[j6,at1]at au;simp only[eF];rcases au with au|au
  ·have:=Xa k _ _ p au;have:=Ce q k.name (l+1);omega
  have:=Xb r q l p au;omega
end
theorem OY(aV:dc B)(n:ad)(av:fv n):aS B 65 [aH n] (.Q .none 2 ((ci n).map eb)):=by refine bB Tryz.func65 Tryz.ntmps65 λU=>?_;refine go ?_;intro dz;refine go ?_;refine br (OX aV n av) ?_;have xp:ci n=(if valid n then dP n [] 1 else[]).filterMap (ie n):=rfl;(have rX:∀p∈(if valid n then dP n [] 1 else[]),valid n=true/\p.length<1000000000:=by intro p au;split at au;rename_i W;have:=Xa n [] 1 p au;simp at this;unfold fv at av;exact⟨W,by omega⟩;cases au);(have nM:(if valid n then dP n [] 1 else[]).length<100000000:=by split;rw[AY];have:=Cg n;unfold fv at av;omega;show(0:Nat)<100000000;omega);rw[xp];generalize(if valid n then dP n [] 1 else[])=P at*;refine Y.own 3 1000 2 121 rfl (λw=>?_);refine go ?_;refine Y.ed (α:={i:Nat // i<=P.length}×Value) (λx=>[(1,.box 1 dz 0),(3,.Q (.own 1000 x.2) 2 (((P.take x.1.1).filterMap (ie n)).map eb)),(9,.Q .none 1 (aU P)),(10,u ((aU P).length:Nat)),(11,u x.1.1)]) (λx=>[(1,.box dz (aH n).cells),(1000,.own x.2 (((P.take x.1.1).filterMap (ie n)).map eb).length 2 121)]) (λx=>P.length-x.1.1) (⟨0,by omega⟩,w) [(1,1),(1000,1000)] ⟨ar,rfl,ba⟩ ?_;rintro⟨⟨i,hi⟩,w⟩;dsimp only at hi⊢;(have fg:(aU P).length=P.length:=by simp[aU]);refine go ?_;refine aJ (decide ((i:Int)<((aU P).length:Nat))) rfl ?_ ?_<;>intro hc;apply cl;(have aE:i<P.length:=by have:=auc hc;omega);have cW:=W' (ie n) aE;(have m_:(((P.take i).filterMap (ie n)).map eb).length<=i:=by rw[atL];have:=avY (ie n) (P.take i);rw[at4]at this;omega);obtain⟨W,dd⟩:=rX P[i] (atK _);generalize(P.take i).filterMap (ie n)=L at*;refine gK ?_;refine⟨λ_=>by simp[aU];omega,?_⟩;refine go ?_;refine⟨.O P[i],λ_=>Gh aE,?_⟩;refine go ?_;refine br (OI aV P[i] dd n av W) ?_;intro ea;refine go ?_;refine aJ (Gg n P[i]) rfl ?_ ?_<;>intro hc;apply kF;refine ez ?_;refine nE ?_;refine⟨by show(_+1)*32<=_;omega,by show _+1<=_;omega,atC,λgQ=>?_⟩;refine go ?_;(have ak:L.map eb++[eb ⟨P[i],(dQ n P[i]).1.dB⟩]=((P.take (i+1)).filterMap (ie n)).map eb:=by rw[cW,ie,atH hc];simp);exact⟨(⟨i+1,aE⟩,gQ),[(1,1),(1000,34)],ays,⟨E,aq.kd ak,E,E,E,ai⟩,rfl,rfl,rfl,rfl,kG (by rw[<-ak];simp),ai⟩;refine go ?_;(have ak:L=(P.take (i+1)).filterMap (ie n):=by rw[cW,ie,atG (by rw[hc];decide)];simp);exact⟨(⟨i+1,aE⟩,w),[(1,1),(1000,1000)],ays,⟨E,aq.kd (by rw[<-ak]),E,E,E,ai⟩,rfl,rfl,rfl,rfl,kG (by rw[<-ak]),ai⟩;(have cg:i=P.length:=by have:=at0 hc;omega);subst cg;rw[atW];refine go ?_;exact aq.m7
variable{f:FuncId}{ds:List D}{a6:D->bF->Prop}{e9 gz:Nat}{c9 da:aI}
theorem _root_.Go.bS.c8.xq{H:bF}{ce dn:Nat}(h1:H e9=some c9)(z:H gz=some da)(hc:cV B f ds (aK [(ce,c9),(dn,da)]) a6):cV B f ds (gA H [(ce,e9),(dn,gz)]) a6:=by(have e:gA H [(ce,e9),(dn,gz)]=aK [(ce,c9),(dn,da)]:=by funext j;simp only[gA,aK];exact axG);rw[e];exact hc
def ix(oU n k:Int):Bool:=bif decide (oU<=k)then decide (k<oU+n)else false
def np(T:List Int)(n:Int):Nat->Int->Int
 |0,a=>a
 |f+1,a=>if fe (ix a n) T<0 then a else np T n f (T.getD (fe (ix a n) T).toNat 0+1)
def qs(T:List Int)(a:Int):Nat:=(T.filter λk=>decide (a<=k)).length
def e'(T:List Int)(n a:Int):Int:=np T n (qs T a) a
variable{T:List Int}
theorem Gi{a k:Int}(hm:k∈T)(h:a<=k):qs T (k+1)<qs T a:=by unfold qs;(have F7:∀l:List Int,(l.filter λx=>decide (k+1<=x)).length<=(l.filter λx=>decide (a<=x)).length:=by intro l;induction l with|nil=>exact atP _|cons x r aY =>rw[auP,auP];cases h1:decide (k+1<=x)<;>cases z:decide (a<=x)<;>simp at h1 z⊢<;>omega);induction T with|nil=>cases hm|cons x r aY =>rw[auP,auP];rcases at6.1 hm with rfl|hm;have:=F7 r;rw[atG atw,atH (by simpa using h)];simp;omega;have:=aY hm;cases h1:decide (k+1<=x)<;>cases z:decide (a<=x)<;>simp at h1 z⊢<;>omega
theorem A0{a n k:Int}(h:ix a n k=true):a<=k/\k<a+n:=by unfold ix at h;cases h1:decide (a<=k)<;>rw[h1]at h<;>simp at h h1;exact⟨h1,h⟩
theorem C4{n a:Int}(h:fe (ix a n) T<0):∀f,np T n f a=a
 |0=>rfl
 |f+1=>by rw[np,atH h]
theorem Gj{n a:Int}(hi:i<T.length)(e:fe (ix a n) T=i):T.getD (fe (ix a n) T).toNat 0=T[i]:=by rw[e];simp[List.getD,hi]
theorem Xc{T:List Int}{n:Int}:∀(f:Nat) (a:Int),qs T a<=f->np T n (f+1) a=np T n f a
 |0,a,h=>by rcases Fc (ix a n) T with⟨e,_⟩|⟨i,hi,e,au,_⟩;(have av:fe (ix a n) T<0:=by omega);rw[C4 av,C4 av];have:=Gi (atK hi) (A0 au).1;omega
 |f+1,a,h=>by rcases Fc (ix a n) T with⟨e,_⟩|⟨i,hi,e,au,_⟩;(have av:fe (ix a n) T<0:=by omega);rw[C4 av,C4 av];have:=Gi (atK hi) (A0 au).1;(have av:¬fe (ix a n) T<0:=by omega);rw[np,atG av,Gj hi e,Xc f _ atv,np,atG av,Gj hi e]
theorem Xd{T:List Int}{n a:Int}:∀d,np T n (qs T a+d) a=e' T n a
 |0=>rfl
 |d+1=>by rw[<-avF,Xc _ _ atv,Xd d]
theorem Xe{n:Int}(f:Nat)(a:Int)(h:qs T a<=f):np T n f a=e' T n a:=by have:=Xd (T:=T) (n:=n) (a:=a) (f-qs T a);rwa [show qs T a+(f-qs T a)=f by omega]at this
theorem ajs{n a:Int}(h:fe (ix a n) T<0):e' T n a=a:=C4 h _
theorem ajt{n a:Int}(hi:i<T.length)(e:fe (ix a n) T=i)(au:ix a n T[i]=true):e' T n a=e' T n (T[i]+1):=by
 have:=Gi (atK hi) (A0 au).1;have av:¬fe (ix a n) T<0:=atv
 rw[<-Xe (qs T a+1) a atv,np,atG av,Gj hi e,Xe _ _ atv]
theorem Xf{T:List Int}{n bX:Int}(hT:∀k∈T,k<=bX):∀(f:Nat) (a:Int),a<=np T n f a/\(np T n f a<=a\/np T n f a<=bX+1)
 |0,a=>⟨auu _,.inl (auu _)⟩
 |f+1,a=>by rcases Fc (ix a n) T with⟨e,_⟩|⟨i,hi,e,au,_⟩;(have av:fe (ix a n) T<0:=by omega);rw[C4 av];omega;(have av:¬fe (ix a n) T<0:=by omega);rw[np,atG av,Gj hi e];have h1:=Xf (n:=n) hT f (T[i]+1);have z:=(A0 au).1;have aa:=hT _ (atK hi);omega
theorem Gk{n bX:Int}(hT:∀k∈T,k<=bX)(a:Int):a<=e' T n a/\(e' T n a<=a\/e' T n a<=bX+1):=Xf hT _ _
theorem aju(a n k:Int)(ha:-1000000000000<=a)(C1:a<=1000000000000)(av:0<=n)(AE:n<=1000000000000)(dz cc:Nat):cV B 144 [u k,.box 4101 dz 0,.box 4102 cc 0] (aK [(4101,.box dz [u a]),(4102,.box cc [u n])]) λd aM=>d=.bool (ix a n k)/\aM=aK [(4101,.box dz [u a]),(4102,.box cc [u n])]:=by refine jW Tryz.func144 Tryz.ntmps144 λU=>?_;apply b3;apply b3;(conv=>whnf);refine cT ?_;refine Y.gU [(4,.bool (ix a n k))] [(4101,.box dz [u a]),(4102,.box cc [u n])] [(4101,4101),(4102,4102)] ⟨ar,rfl,ba⟩ ?_;exact ayD
theorem Xg(T:List Int)(hT:T.length<1000000)(b6:Nat)(cq:List D)(c9 da:aI)(p:Int->Bool)(nl:∀k∈T,cV B b6 (u k::cq) (aK [(4101,c9),(4102,da)]) λd aM=>d=.bool (p k)/\aM=aK [(4101,c9),(4102,da)]):cV B 143 [.Q .none 1 (bn T),.fn (.func b6) [] cq] (aK [(4101,c9),(4102,da)]) λd aM=>d=u (fe p T)/\aM=aK [(4101,c9),(4102,da)]:=by refine jW Tryz.func143 Tryz.ntmps143 λU=>?_;refine go ?_;refine Y.ed (α:={i:Nat // i<=T.length/\∀j (h:j<T.length),j<i->p (T[j])=false}) (λx=>[(0,.Q .none 1 (bn T)),(1,.fn (.func b6) [] cq),(7,u (bn T).length),(8,u x.1)]) (λ_=>[(4101,c9),(4102,da)]) (λx=>T.length-x.1) ⟨0,by simp⟩ [(4101,4101),(4102,4102)] ⟨ar,rfl,ba⟩ ?_;rintro⟨i,hi,au⟩;dsimp only;refine go ?_;refine aJ (decide ((i:Int)<(bn T).length)) rfl ?_ ?_<;>intro hc;apply cl;(have aE:i<T.length:=by simpa[bn]using hc);refine kc ?_;apply b3;refine qU ?_;refine .inl ⟨λ_=>by simp[bn];omega,?_⟩;(conv=>whnf);refine .inl ⟨u T[i],λ_=>UU aE,?_⟩;refine go ?_;refine .inr (af.call rfl (u T[i]::cq) [(4101,4101),(4102,4102)] (c8.xq rfl rfl (nl T[i] (atK aE))) rfl ⟨E,dL.refl _⟩ ?_);rintro d aM ⟨rfl,rfl⟩;refine p7 ?_;refine aJ (p T[i]) rfl ?_ ?_<;>intro hc;refine ch ?_;refine Y.gU [(4,u (fe p T))] [(4101,c9),(4102,da)] [(4101,4101),(4102,4102)] ⟨⟨dp (z6 (p:=p) aE au hc).symm,ai⟩,rfl,ba⟩ ?_;refine go ?_;exact⟨_,E,rfl,rfl⟩;refine go ?_;exact⟨⟨i+1,aE,λj h Z=>ax9⟩,[(4101,4101),(4102,4102)],ayr,ar,rfl,ba⟩;(have cg:i=T.length:=by simp[bn]at hc;omega);refine sS ?_;refine Y.gU [(4,u (fe p T))] [(4101,c9),(4102,da)] [(4101,4101),(4102,4102)] ⟨⟨dp (z7 (p:=p) λj h=>au j h atv).symm,ai⟩,rfl,ba⟩ ?_;exact ayD
theorem OZ(T:List Int)(hT:T.length<1000000)(gZ:∀k∈T,k<=1000000)(a n:Int)(ha:0<=a)(C1:a<=100000000000)(av:0<=n)(AE:n<=100000000000)(dJ cF:Nat):cV B 142 [u n,.box 4201 dJ 0,.box 4202 cF 0] (aK [(4201,.box dJ [.Q .none 1 (bn T)]),(4202,.box cF [u a])]) λd aM=>d=u (e' T n a)/\aM=aK [(4201,.box dJ [.Q .none 1 (bn T)]),(4202,.box cF [u (e' T n a+n)])]:=by refine jW Tryz.func142 Tryz.ntmps142 λU=>?_;refine ch ?_;intro eD;apply oN;refine Y.ed (α:={x:Int // e' T n x=e' T n a/\a<=x/\(x<=a\/x<=1000001)}) (λx=>[(1,.box 4201 dJ 0),(2,.box 4202 cF 0),(3,.box 3 eD 0)]) (λx=>[(4201,.box dJ [.Q .none 1 (bn T)]),(4202,.box cF [u x.1]),(3,.box eD [u n])]) (λx=>qs T x.1) ⟨a,rfl,auu _,.inl (auu _)⟩ [(4201,4201),(4202,4202),(3,3)] ⟨ar,rfl,ba⟩ ?_;rintro⟨x,F,y_,A1⟩;dsimp only at F y_ A1⊢;apply oN;refine qU ?_;refine .inl ⟨rfl,?_⟩;(conv=>whnf);refine .inr (af.call rfl [.Q .none 1 (bn T),.fn (.func 144) [] [.box 4101 cF 0,.box 4102 eD 0]] [(4101,4202),(4102,3)] (c8.xq rfl rfl (Xg T hT 144 [.box 4101 cF 0,.box 4102 eD 0] _ _ (ix x n) (λk X=>aju x n k atv atv av atv cF eD))) rfl ⟨E,aq.fn trivial ⟨aq.box,aq.box,ai⟩,ai⟩ ?_);rintro d aM ⟨rfl,rfl⟩;refine⟨_,E,?_⟩;refine gb ?_;refine aJ (decide (fe (ix x n) T<0)) rfl ?_ ?_<;>intro hc;apply en;have M:e' T n x=x:=ajs (auc hc);apply kF;apply cD;refine jb ?_;apply cD;refine g_ ?_;apply cD;refine ch ?_;refine Y.gU [(4,u x)] [(4201,.box dJ [.Q .none 1 (bn T)]),(4202,.box cF [u (x+n)])] [(4201,4201),(4202,4202)] ⟨ar,rfl,ba⟩ ?_;(conv=>whnf);(have lI:e' T n a=x:=by rw[<-F,M]);rw[lI];exact⟨_,E,rfl,rfl⟩;have io:¬fe (ix x n) T<0:=at0 hc;(obtain⟨i,hi,e,au⟩:∃(i:Nat) (h:i<T.length),fe (ix x n) T=i/\ix x n T[i]=true:=by rcases Fc (ix x n) T with⟨e,_⟩|⟨i,hi,e,au,_⟩;omega;exact⟨i,hi,e,au⟩);have cW:=ajt hi e au;have bi:=Gi (atK hi) (A0 au).1;have cy:=A0 au;have X:=gZ _ (atK hi);rw[e];apply cl;apply kF;refine ez ?_;refine⟨λ_=>by simp[bn];omega,?_⟩;(conv=>whnf);refine⟨u T[i],λ_=>UU hi,?_⟩;refine g_ ?_;refine ez ?_;exact⟨⟨T[i]+1,by rw[<-cW,F],by omega,.inr atv⟩,[(4201,4201),(4202,4202),(3,3)],bi,ar,rfl,ba⟩
section
def bj(l:List (atE×α))(k:atE):Option α:=(l.find? λx=>x.1==k).map (·.2)
def fC(l:List (atE×α))(k:atE)(v:α):List (atE×α) :=
 match bj l k with
 |some _=>l.map λx=>if x.1==k then(x.1,v)else x
 |none=>l++[(k,v)]
def bs(enc:α->D)(l:List (atE×α)):List (D×D):=l.map λx=>(.O x.1,enc x.2)
theorem O0(enc:α->D)(l:List (atE×α))(k:atE):jC (bs enc l) (.O k)=(bj l k).map enc:=by unfold jC bj bs;induction l with|nil=>rfl|cons x r aY =>rw[aum,avI,avI];show(match x.1==k with|true=>_|false=>_:Option (D×D)).map _=_;(cases h:x.1==k with|true=>rfl|false=>exact aY)
theorem ajv(enc:α->D)(l:List (atE×α))(k:atE)(v:α):mH (bs enc l) (.O k) (enc v)=bs enc (fC l k v):=by unfold mH fC;rw[O0];cases h:bj l k with|none=>simp[bs]|some y =>simp only[au8,bs,avX];congr 1;funext x;show(if x.1==k then _ else _)=_;simp only[Function.comp];split<;>rfl
theorem O1(enc:α->D)(l:List (atE×α)):∀x∈bs enc l,mG .string x.1=true:=by intro x F;exact ayF
theorem O2(x:atE×α)(r:List (atE×α))(q:atE):bj (x::r) q=if x.1=q then some x.2 else bj r q:=by unfold bj;rw[avI];by_cases h:x.1=q;rw[atH h];simp[h];rw[atG h];(have:(x.1==q)=false:=by simpa using h);rw[this]
theorem Xh(k:atE)(v:α)(q:atE):∀l:List (atE×α),bj (l.map λx=>if x.1==k then(x.1,v)else x) q=if q=k then(bj l k).map (λ_=>v)else bj l q
 |[]=>by split<;>rfl
 |x::r=>by rw[aum,O2,Xh k v q r,O2,O2];by_cases h:x.1=k;by_cases I:q=k;subst I;simp[h];have:¬k=q:=λe=>I e.symm;simp[h,I,this];by_cases I:q=k;subst I;simp[h];simp[h,I]
theorem kq(l:List (atE×α))(k:atE)(v:α)(q:atE):bj (fC l k v) q=if q=k then some v else bj l q:=by unfold fC;cases h:bj l k with|none =>simp only[bj,List.find?_append];by_cases I:q=k;subst I;rw[atH rfl];(have:l.find? (λx=>x.1==q)=none:=by simpa[bj]using h);rw[this];simp;rw[atG I];(have:((k==q)=false):=by simpa using λe=>I e.symm);cases l.find? (λx=>x.1==q)<;>simp[this]|some y=>rw[Xh,h];rfl
end
variable{P:Program}{am:Nat}{A:aw}{dst:Option Tmp}{K:aw->Prop}{dA d9:TypeId}{x:Operand}{ok:Bool}{b:Nat}{ei:Value}
theorem _root_.Go.bS.af.qt{t:TypeId}{m:Operand}(s:Nat){enc:α->D}{l:List (atE×α)}{k:atE}{V:α}(hm:P.underlying t=some (.map dA d9))(N:P.underlying dA=some .string)(F:A.a8 m=.an (.map (some b)))(hs:A.H s=some (.mp b (bs enc l)))(I:A.a8 x=.O k)(bz:∀w,(zeroValue d9).run P w=.ok ei w)(jR:∀w C,bf w C (enc V) ei)(hK:K (A.put dst (if ok then .bl [enc ((bj l k).getD V),.bool (bj l k).isSome]else enc ((bj l k).getD V)))):af P B am A dst (.lookup t m x ok) K:=by cases aT:bj l k with|some y =>rw[aT]at hK;exact af.Ie s hm N F hs I rfl (O1 enc l) (by rw[O0,aT];rfl) hK|none =>rw[aT]at hK;exact af.If s hm N F hs I rfl (O1 enc l) (by rw[O0,aT];rfl) bz jR hK
variable{y:Operand}
theorem _root_.Go.bS.af.xr{t:TypeId}{m:Operand}(s:Nat){enc:α->D}{l:List (atE×α)}{k:atE}{v:α}(hm:P.underlying t=some (.map dA d9))(N:P.underlying dA=some .string)
  (F:A.a8 m=.an (.map (some b))) (hs:A.H s=some (.mp b (bs enc l))) (I:A.a8 x=.O k) (hy:A.a8 y=enc v)
  (hK:K ((A.b2 s (some (.mp b (bs enc (fC l k v))))).put dst .undef)):af P B am A dst (.mapUpdate t m x y) K :=
 af.yu s hm N F hs I rfl (O1 enc l) (by rw[hy,ajv];exact hK)
structure dr where
 m:e2
 files:List eS
 cX:List atE
 aR:List (atE×cM)
 start:Int
 iso:Int
 dl:Int
 desc:Int
 free:Int
def fo(p:dr)(cn:Nat):List D:=(hW p.m).cells++[.Q .none 2 (p.files.map eb),.Q .none 1 (aU p.cX),.an (.map (some cn)),u p.start,u p.iso,u p.dl,u p.desc,u p.free]
def gq:cM:=⟨[],0,0⟩
structure xt where
 data:List (atE×atE)
 own:List (atE×cM)
 sh:List (atE×cM)
def gE(p:dr)(s:xt)(f:eS):xt :=
 if(bj p.aR f.path).isSome=true then
  {data:=fC s.data f.path f.data,own:=fC s.own f.path ((bj p.aR f.path).getD gq),
    sh:=if(bif p.m.oS then !(bj s.sh f.data).isSome else false)=true then fC s.sh f.data ((bj p.aR f.path).getD gq)else s.sh}
 else{s with data:=fC s.data f.path f.data}
def kr(p:dr)(l:List eS):xt:=l.foldl (gE p) ⟨[],[],[]⟩
theorem ajw(p:dr){l:List eS}(h:i<l.length):kr p (l.take (i+1))=gE p (kr p (l.take i)) l[i]:=by rw[kr,atN h,auU];rfl
structure mQ where
 own:List (atE×cM)
 sh:List (atE×cM)
 a:Int
def lJ(p:dr)(T:List Int)(data:List (atE×atE))(s:mQ)(path:atE):mQ :=
 if(bj s.sh ((bj data path).getD [])).isSome=true then s else
  {own:=fC s.own path ⟨path,e' T (e_ ((bj data path).getD []).length) s.a,((bj data path).getD []).length⟩,
    sh:=if p.m.oS=true then fC s.sh ((bj data path).getD []) ⟨path,e' T (e_ ((bj data path).getD []).length) s.a,((bj data path).getD []).length⟩else s.sh,
    a:=e' T (e_ ((bj data path).getD []).length) s.a+e_ ((bj data path).getD []).length}
def jj(p:dr)(T:List Int)(data:List (atE×atE))(s:mQ)(l:List atE):mQ:=l.foldl (lJ p T data) s
theorem ajx(p:dr)(T:List Int)(data:List (atE×atE))(s:mQ){l:List atE}(h:i<l.length):jj p T data s (l.take (i+1))=lJ p T data (jj p T data s (l.take i)) l[i]:=by rw[jj,atN h,auU];rfl
def uM(p:dr)(T:List Int)(a:Int):mQ:=jj p T (kr p p.files).data ⟨(kr p p.files).own,(kr p p.files).sh,a⟩ p.cX
theorem xu(w:World)(C:Nat->Nat):bf w C (bg gq) (.agg #[.string ⟨#[]⟩,.int .i64 0,.int .i64 0]) :=
 .agg [.O [],.int .i64 0,.int .i64 0] [.string ⟨#[]⟩,.int .i64 0,.int .i64 0] rfl (λj d v N W=>by
  match j with
  |0=>cases N;cases W;exact .O []
  |1=>cases N;cases W;exact .int _ _
  |2=>cases N;cases W;exact .int _ _
  |j+3=>simp at N)
theorem Xi{n:Nat}(h:n<=100000000):0<=e_ (n:Int)/\e_ (n:Int)<=50000:=by unfold e_;have b0:(n:Int).tdiv 2048=n/2048:=atX atv;have j':(n:Int).tmod 2048=n%2048:=auZ atv;rw[b0,j'];split<;>omega
theorem Xj{p:dr}{bX:Nat}:∀(l:List eS) (s:xt),(∀f∈l,f.data.length<=bX)->(∀q d,bj s.data q=some d->d.length<=bX)->∀q d,bj (l.foldl (gE p) s).data q=some d->d.length<=bX
 |[],s,_,h=>h
 |f::l,s,h1,h=>by refine Xj l _ (λg aT=>h1 g (atU _ aT)) λq d I=>?_;(have e:(gE p s f).data=fC s.data f.path f.data:=by unfold gE;split<;>rfl);rw[e,kq]at I;split at I;cases I;exact h1 f atS;exact h q d I
theorem O3{p:dr}{l:List eS}(h:∀f∈l,f.data.length<=100000000)(q:atE):((bj (kr p l).data q).getD []).length<=100000000:=by cases aT:bj (kr p l).data q with|none=>exact at7 _|some d=>exact Xj l _ h (λq d I=>by cases I) q d aT
variable{data:List (atE×atE)}
theorem Xk{p:dr}(gZ:∀k∈T,k<=1000000)(N:∀q,((bj data q).getD []).length<=100000000)(s:mQ)(q:atE)(h:0<=s.a): 0<=(lJ p T data s q).a/\(lJ p T data s q).a<=max s.a 1000001+50000:=by unfold lJ;have h1:=Xi (N q);have z:=Gk (n:=e_ ((bj data q).getD []).length) gZ s.a;split;omega;show 0<=_+_/\_+_<=_;omega
theorem O4{p:dr}{T:List Int}(gZ:∀k∈T,k<=1000000){data:List (atE×atE)}(N:∀q,((bj data q).getD []).length<=100000000):∀(l:List atE) (s:mQ),0<=s.a->0<=(jj p T data s l).a/\(jj p T data s l).a<=max s.a 1000001+50000*(l.length:Int)
 |[],s,h=>by show 0<=s.a/\s.a<=max s.a 1000001+50000*(0:Int);omega
 |q::l,s,h=>by have h1:=Xk (p:=p) gZ N s q h;have z:=O4 (p:=p) gZ N l (lJ p T data s q) h1.1;have e:jj p T data s (q::l)=jj p T data (lJ p T data s q) l:=rfl;rw[e,atQ];omega
theorem Ju{l:List eS}(h:i<l.length):(l.map eb)[((i:Int)).toNat]?=some (eb l[i]):=by simp[h]
theorem ajy(p:dr)(T:List Int)(hT:T.length<1000000)(gZ:∀k∈T,k<=1000000)(a:Int)(ha:0<=a)(C1:a<=10000000000)(ag:p.cX.length<=100000)(du:p.files.length<1000000)(v_:∀f∈p.files,f.data.length<=100000000)(b8 cn dJ cF:Nat):cV B 145 [.box 4000 b8 0,.fn (.func 142) [] [.box 4201 dJ 0,.box 4202 cF 0]] (aK [(4000,.box b8 (fo p cn)),(4001,.mp cn (bs bg p.aR)),(4201,.box dJ [.Q .none 1 (bn T)]),(4202,.box cF [u a])]) λd aM=>∃co aP,d=.bl [.an (.map (some co)),.an (.map (some aP))]/\aM=aK [(4000,.box b8 (fo p cn)),(4001,.mp cn (bs bg p.aR)),(4201,.box dJ [.Q .none 1 (bn T)]),(4202,.box cF [u (uM p T a).a]),(4002,.mp co (bs bg (uM p T a).own)),(4003,.mp aP (bs bg (uM p T a).sh))]:=by refine jW Tryz.func145 Tryz.ntmps145 λU=>?_;refine go ?_;refine .inr (af.ud λco=>?_);refine go ?_;refine .inr (af.ud λaP=>?_);refine go ?_;refine .inr (af.ud λtl=>?_);refine go ?_;refine Y.ed (α:={i:Nat // i<=p.files.length}) (λx=>[(0,.box 4000 b8 0),(1,.fn (.func 142) [] [.box 4201 dJ 0,.box 4202 cF 0]),(6,.an (.map (some co))),(7,.an (.map (some aP))),(8,.an (.map (some tl))),(27,.Q .none 2 (p.files.map eb)),(28,u ((p.files.map eb).length:Nat)),(29,u x.1)]) (λx=>[(4000,.box b8 (fo p cn)),(4001,.mp cn (bs bg p.aR)),(4201,.box dJ [.Q .none 1 (bn T)]),(4202,.box cF [u a]),(21,.mp co (bs bg (kr p (p.files.take x.1)).own)),(22,.mp aP (bs bg (kr p (p.files.take x.1)).sh)),(23,.mp tl (bs D.O (kr p (p.files.take x.1)).data))]) (λx=>p.files.length-x.1) ⟨0,at7 _⟩ [(4000,4000),(4001,4001),(4201,4201),(4202,4202),(21,21),(22,22),(23,23)] ⟨ar,rfl,ba⟩ ?_;rintro⟨i,hi⟩;dsimp only at hi⊢;refine go ?_;refine aJ (decide ((i:Int)<((p.files.map eb).length:Nat))) rfl ?_ ?_<;>intro hc;(·apply cl;(have aE:i<p.files.length:=by simpa using hc);have cW:=ajw p aE;generalize kr p (p.files.take i)=s at*;refine vm ?_;refine⟨eb p.files[i],λ_=>Ju aE,?_⟩;refine go ?_;intro j4;refine go ?_;refine .inr (af.xr 23 (dA:=9) (d9:=9) (enc:=D.O) (v:=p.files[i].data) rfl rfl rfl rfl rfl rfl ?_);apply en;refine Y.fd [(0,.box 4000 b8 0),(1,.fn (.func 142) [] [.box 4201 dJ 0,.box 4202 cF 0]),(6,.an (.map (some co))),(7,.an (.map (some aP))),(8,.an (.map (some tl))),(10,.box 10 j4 0),(27,.Q .none 2 (p.files.map eb)),(28,u ((p.files.map eb).length:Nat)),(29,u (i:Int))] [(4000,.box b8 (fo p cn)),(4001,.mp cn (bs bg p.aR)),(4201,.box dJ [.Q .none 1 (bn T)]),(4202,.box cF [u a]),(21,.mp co (bs bg s.own)),(22,.mp aP (bs bg s.sh)),(23,.mp tl (bs D.O (fC s.data p.files[i].path p.files[i].data))),(10,.box j4 (eb p.files[i]).cells)] ([(4000,4000),(4001,4001),(4201,4201),(4202,4202),(21,21),(22,22),(23,23),(10,10)]) ⟨ar,rfl,ba⟩ ?_;refine' eR (α:=Nat) [(4000,.box b8 (fo p cn)),(4001,.mp cn (bs bg p.aR)),(4201,.box dJ [.Q .none 1 (bn T)]),(4202,.box cF [u a]),(21,.mp co (bs bg s.own)),(22,.mp aP (bs bg s.sh)),(23,.mp tl (bs D.O (fC s.data p.files[i].path p.files[i].data))),(10,.box j4 (eb p.files[i]).cells)] 0 (λy=>[_,_,_,_,_,_,.bl [bg ((bj p.aR p.files[i].path).getD gq),.bool (bj p.aR p.files[i].path).isSome],_,_,_,.box 11 y 0,.any,_]) (λy=>[(10,11,some (.box y ([.O [],u 0,u 0]))),(11,11,some (.box y ((bg ((bj p.aR p.files[i].path).getD gq)).cells)))]) [0,1,3,7,0,16,63,127,255,255,0,1535,4095] [(10,11),(11,11)] ?_ ?_;rotate_left 10;refine dC ?_;refine bR (λy=>af.qt 4001 (dA:=9) (d9:=53) (enc:=bg) (V:=gq) rfl rfl rfl rfl rfl atD (λw C=>xu w C) (cz y)) ?_;refine wS ?_;exact trivial;intro y;(conv=>whnf);refine Y.fd [(0,.box 4000 b8 0),(1,.fn (.func 142) [] [.box 4201 dJ 0,.box 4202 cF 0]),(6,.an (.map (some co))),(7,.an (.map (some aP))),(8,.an (.map (some tl))),(10,.box 10 j4 0),(27,.Q .none 2 (p.files.map eb)),(28,u ((p.files.map eb).length:Nat)),(29,u (i:Int)),(11,.box 11 y 0),(12,.bool (bj p.aR p.files[i].path).isSome)] [(4000,.box b8 (fo p cn)),(4001,.mp cn (bs bg p.aR)),(4201,.box dJ [.Q .none 1 (bn T)]),(4202,.box cF [u a]),(21,.mp co (bs bg s.own)),(22,.mp aP (bs bg s.sh)),(23,.mp tl (bs D.O (fC s.data p.files[i].path p.files[i].data))),(10,.box j4 (eb p.files[i]).cells),(11,.box y (bg ((bj p.aR p.files[i].path).getD gq)).cells)] [(4000,4000),(4001,4001),(4201,4201),(4202,4202),(21,21),(22,22),(23,23),(10,10),(11,11)] ⟨cH,rfl,cH⟩ ?_;refine go ?_;refine aJ (bj p.aR p.files[i].path).isSome rfl ?_ ?_<;>intro hc;refine go ?_;refine .inr (af.xr 21 (dA:=9) (d9:=53) (enc:=bg) (v:=((bj p.aR p.files[i].path).getD gq)) rfl rfl rfl rfl rfl rfl ?_);refine go ?_;refine .inr (af.qt 22 (dA:=9) (d9:=53) (enc:=bg) (V:=gq) rfl rfl rfl rfl rfl atD (λw C=>xu w C) ?_);refine go ?_;intro Xl;refine go ?_;refine aJ (bif p.m.oS then !(bj s.sh p.files[i].data).isSome else false) rfl ?_ ?_<;>intro bw;refine go ?_;refine .inr (af.xr 22 (dA:=9) (d9:=53) (enc:=bg) (v:=((bj p.aR p.files[i].path).getD gq)) rfl rfl rfl rfl rfl rfl ?_);refine go ?_;(have F:kr p (p.files.take (i+1))=⟨fC s.data p.files[i].path p.files[i].data,fC s.own p.files[i].path ((bj p.aR p.files[i].path).getD gq),fC s.sh p.files[i].data ((bj p.aR p.files[i].path).getD gq)⟩:=by rw[cW,gE,atH hc,atH bw]);exact⟨⟨i+1,aE⟩,[(4000,4000),(4001,4001),(4201,4201),(4202,4202),(21,21),(22,22),(23,23)],ax_,ar,rfl,rfl,rfl,rfl,rfl,rfl,rfl,rfl,rfl,rfl,atI (λV=>some (aI.mp co (bs bg V))) (by rw[F]),rfl,atI (λV=>some (aI.mp aP (bs bg V))) (by rw[F]),rfl,atI (λV=>some (aI.mp tl (bs D.O V))) (by rw[F]),ai⟩;refine go ?_;(have F:kr p (p.files.take (i+1))=⟨fC s.data p.files[i].path p.files[i].data,fC s.own p.files[i].path ((bj p.aR p.files[i].path).getD gq),s.sh⟩:=by rw[cW,gE,atH hc,atG (by rw[bw];decide)]);exact⟨⟨i+1,aE⟩,[(4000,4000),(4001,4001),(4201,4201),(4202,4202),(21,21),(22,22),(23,23)],ax_,ar,rfl,rfl,rfl,rfl,rfl,rfl,rfl,rfl,rfl,rfl,atI (λV=>some (aI.mp co (bs bg V))) (by rw[F]),rfl,atI (λV=>some (aI.mp aP (bs bg V))) (by rw[F]),rfl,atI (λV=>some (aI.mp tl (bs D.O V))) (by rw[F]),ai⟩;refine go ?_;(have F:kr p (p.files.take (i+1))=⟨fC s.data p.files[i].path p.files[i].data,s.own,s.sh⟩:=by rw[cW,gE,atG (by rw[hc];decide)]);exact⟨⟨i+1,aE⟩,[(4000,4000),(4001,4001),(4201,4201),(4202,4202),(21,21),(22,22),(23,23)],ax_,ar,rfl,rfl,rfl,rfl,rfl,rfl,rfl,rfl,rfl,rfl,atI (λV=>some (aI.mp co (bs bg V))) (by rw[F]),rfl,atI (λV=>some (aI.mp aP (bs bg V))) (by rw[F]),rfl,atI (λV=>some (aI.mp tl (bs D.O V))) (by rw[F]),ai⟩);(have cg:i=p.files.length:=by simp at hc;omega);subst cg;rw[atW];have jv:=O3 (p:=p) v_;have jw:uM p T a=jj p T (kr p p.files).data ⟨(kr p p.files).own,(kr p p.files).sh,a⟩ p.cX:=rfl;rw[jw];have Xm:=λl=>O4 (p:=p) gZ jv l ⟨(kr p p.files).own,(kr p p.files).sh,a⟩ ha;generalize kr p p.files=ajz at*;obtain⟨uN,f0,gN⟩:=ajz;dsimp only at jv Xm⊢;refine go ?_;refine Y.ed (α:={i:Nat // i<=p.cX.length}) (λx=>[(0,.box 4000 b8 0),(1,.fn (.func 142) [] [.box 4201 dJ 0,.box 4202 cF 0]),(6,.an (.map (some co))),(7,.an (.map (some aP))),(8,.an (.map (some tl))),(77,.Q .none 1 (aU p.cX)),(78,u ((aU p.cX).length:Nat)),(79,u x.1)]) (λx=>[(4000,.box b8 (fo p cn)),(4001,.mp cn (bs bg p.aR)),(4201,.box dJ [.Q .none 1 (bn T)]),(4202,.box cF [u (jj p T uN ⟨f0,gN,a⟩ (p.cX.take x.1)).a]),(21,.mp co (bs bg (jj p T uN ⟨f0,gN,a⟩ (p.cX.take x.1)).own)),(22,.mp aP (bs bg (jj p T uN ⟨f0,gN,a⟩ (p.cX.take x.1)).sh)),(23,.mp tl (bs D.O uN))]) (λx=>p.cX.length-x.1) ⟨0,at7 _⟩ [(4000,4000),(4001,4001),(4201,4201),(4202,4202),(21,21),(22,22),(23,23)] ⟨ar,rfl,ba⟩ ?_;rintro⟨i,hi⟩;dsimp only at hi⊢;refine go ?_;refine aJ (decide ((i:Int)<((aU p.cX).length:Nat))) rfl ?_ ?_<;>intro hc;apply cl;(have aE:i<p.cX.length:=by simpa[aU]using hc);have cW:=ajx p T uN ⟨f0,gN,a⟩ aE;have tO:=Xm (p.cX.take i);rw[at4]at tO;have um:=jv p.cX[i];have rR:=Xi um;generalize jj p T uN ⟨f0,gN,a⟩ (p.cX.take i)=y at*;generalize y7:(bj uN p.cX[i]).getD []=d at*;refine gK ?_;refine⟨λ_=>by simp[aU];omega,?_⟩;refine go ?_;refine⟨.O p.cX[i],λ_=>Gh aE,?_⟩;refine go ?_;refine .inr (af.qt 23 (dA:=9) (d9:=9) (enc:=D.O) (V:=[]) rfl rfl rfl rfl rfl atD (λw C=>.O _) ?_);rw[y7];refine go ?_;refine .inr (af.qt 22 (dA:=9) (d9:=53) (enc:=bg) (V:=gq) rfl rfl rfl rfl rfl atD (λw C=>xu w C) ?_);refine go ?_;intro Xn;refine go ?_;refine aJ (bj y.sh d).isSome rfl ?_ ?_<;>intro bw;refine go ?_;(have F:jj p T uN ⟨f0,gN,a⟩ (p.cX.take (i+1))=y:=by rw[cW,lJ,y7,atH bw]);exact⟨⟨i+1,aE⟩,[(4000,4000),(4001,4001),(4201,4201),(4202,4202),(21,21),(22,22),(23,23)],ayf,ar,rfl,rfl,rfl,rfl,rfl,rfl,rfl,rfl,atI (λV=>some (aI.box cF [u V])) (by rw[F]),rfl,atI (λV=>some (aI.mp co (bs bg V))) (by rw[F]),rfl,atI (λV=>some (aI.mp aP (bs bg V))) (by rw[F]),rfl,ba⟩;refine go ?_;refine .inl ⟨[u (d.length:Nat)],_,λ_=>Ng (d.length:Nat) atv atv,ar,?_⟩;refine go ?_;refine .inr (af.call rfl [u (e_ (d.length:Nat)),.box 4201 dJ 0,.box 4202 cF 0] [(4201,4201),(4202,4202)] (c8.xq rfl rfl (OZ T hT gZ y.a (e_ (d.length:Nat)) tO.1 atv rR.1 atv dJ cF)) rfl ar ?_);rintro d' aM ⟨rfl,rfl⟩;refine p7 ?_;intro rg;refine go ?_;refine .inr (af.xr 21 (dA:=9) (d9:=53) (enc:=bg) (v:=⟨p.cX[i],e' T (e_ (d.length:Nat)) y.a,(d.length:Nat)⟩) rfl rfl rfl rfl rfl rfl ?_);refine go ?_;refine aJ p.m.oS rfl ?_ ?_<;>intro dO;refine go ?_;refine .inr (af.xr 22 (dA:=9) (d9:=53) (enc:=bg) (v:=⟨p.cX[i],e' T (e_ (d.length:Nat)) y.a,(d.length:Nat)⟩) rfl rfl rfl rfl rfl rfl ?_);refine go ?_;(have F:jj p T uN ⟨f0,gN,a⟩ (p.cX.take (i+1))=⟨fC y.own p.cX[i] ⟨p.cX[i],e' T (e_ (d.length:Nat)) y.a,(d.length:Nat)⟩,fC y.sh d ⟨p.cX[i],e' T (e_ (d.length:Nat)) y.a,(d.length:Nat)⟩,e' T (e_ (d.length:Nat)) y.a+e_ (d.length:Nat)⟩:=by rw[cW,lJ,y7,atG (by rw[bw];decide),atH dO]);exact⟨⟨i+1,aE⟩,[(4000,4000),(4001,4001),(4201,4201),(4202,4202),(21,21),(22,22),(23,23)],ayf,ar,rfl,rfl,rfl,rfl,rfl,rfl,rfl,rfl,atI (λV=>some (aI.box cF [u V])) (by rw[F]),rfl,atI (λV=>some (aI.mp co (bs bg V))) (by rw[F]),rfl,atI (λV=>some (aI.mp aP (bs bg V))) (by rw[F]),rfl,ba⟩;refine go ?_;(have F:jj p T uN ⟨f0,gN,a⟩ (p.cX.take (i+1))=⟨fC y.own p.cX[i] ⟨p.cX[i],e' T (e_ (d.length:Nat)) y.a,(d.length:Nat)⟩,y.sh,e' T (e_ (d.length:Nat)) y.a+e_ (d.length:Nat)⟩:=by rw[cW,lJ,y7,atG (by rw[bw];decide),atG (by rw[dO];decide)]);exact⟨⟨i+1,aE⟩,[(4000,4000),(4001,4001),(4201,4201),(4202,4202),(21,21),(22,22),(23,23)],ayf,ar,rfl,rfl,rfl,rfl,rfl,rfl,rfl,rfl,atI (λV=>some (aI.box cF [u V])) (by rw[F]),rfl,atI (λV=>some (aI.mp co (bs bg V))) (by rw[F]),rfl,atI (λV=>some (aI.mp aP (bs bg V))) (by rw[F]),rfl,ba⟩;(have cg:i=p.cX.length:=by simp[aU]at hc;omega);subst cg;rw[atW];generalize jj p T uN ⟨f0,gN,a⟩ p.cX=y at*;refine sS ?_;refine Y.gU [(4,.an (.map (some co))),(5,.an (.map (some aP)))] [(4000,.box b8 (fo p cn)),(4001,.mp cn (bs bg p.aR)),(4201,.box dJ [.Q .none 1 (bn T)]),(4202,.box cF [u y.a]),(4002,.mp co (bs bg y.own)),(4003,.mp aP (bs bg y.sh))] [(4000,4000),(4001,4001),(4201,4201),(4202,4202),(4002,21),(4003,22)] ⟨ar,rfl,ba⟩ ?_;refine go ?_;exact⟨.bl [.an (.map (some co)),.an (.map (some aP))],(show dL [.an (.map (some co)),.an (.map (some aP))] [.an (.map (some co)),.an (.map (some aP))]from ar),co,aP,rfl,rfl⟩
def A2:ad:=⟨[],0,[],[],0,0,0,0,0,0,[],[]⟩
theorem Jv(w:World)(C:Nat->Nat):bf w C (aH A2) (.agg #[.string ⟨#[]⟩,.int .i64 0,.string ⟨#[]⟩,.string ⟨#[]⟩,.int .i64 0,.int .i64 0,.int .i64 0,.int .i64 0,.int .i64 0,.int .i64 0,.slice none 0 0,.slice none 0 0]) :=
 .agg (aH A2).cells [.string ⟨#[]⟩,.int .i64 0,.string ⟨#[]⟩,.string ⟨#[]⟩,.int .i64 0,.int .i64 0,.int .i64 0,.int .i64 0,.int .i64 0,.int .i64 0,.slice none 0 0,.slice none 0 0] rfl (λj d v N W=>by
  match j with
  |0=>cases N;cases W;exact .O []
  |1=>cases N;cases W;exact .int _ _
  |2=>cases N;cases W;exact .O []
  |3=>cases N;cases W;exact .O []
  |4=>cases N;cases W;exact .int _ _
  |5=>cases N;cases W;exact .int _ _
  |6=>cases N;cases W;exact .int _ _
  |7=>cases N;cases W;exact .int _ _
  |8=>cases N;cases W;exact .int _ _
  |9=>cases N;cases W;exact .int _ _
  |10=>cases N;cases W;exact .jr .none 12 none trivial
  |11=>cases N;cases W;exact .jr .none 2 none trivial
  |j+12=>simp[aH,D.cells]at N)
def Xo:D:=.agg [.O [],.O [],.O [],.O [],.O [],u 1,u 0,u 0]
def dE(o:f1)(n:ad)(bV bE:Nat):D:=.agg [.bool o.q5,.bool o.rock,u o.c2,.Q .none 6 (o.gO.map pq),.O [],.O [],.O [],.O [],.O [],u 1,u 0,u 0,.O n.name,u n.kind,.O n.dB,.O n.target,u n.cL,u n.n2,u n.n3,u n.n4,u n.n5,u n.n6,.Q .none 12 (n.J.map enc),.Q .none 2 (n.bK.map c5),.an (.map (some bV)),.an (.map (some bE))]
def oz(id:atE)(fl c2 ajA leads:Int)(L:D):D:=.agg [.O id,u 0,u 0,u fl,u c2,u ajA,u 1,.O [],u leads,.fn (.func 229) [] [],L,.bh]
theorem C5(o:f1)(n m:ad)(bV bE:Nat)(id:atE)(leads gf:Int)(M:gf=bif decide ((0:Int)<=leads)then 2 else 0):aS B 159 [.a7 26 [dE o n bV bE] 0 0,.O id,aH m,u leads] (oz id m.n4 o.c2 gf leads .bh):=by refine bB Tryz.func159 Tryz.ntmps159 λU=>?_;refine go ?_;intro ea;refine go ?_;intro cF;refine go ?_;refine' eR (α:=Nat) [(6,.box ea (aH m).cells),(8,.box cF [.O [],u 0,u 0,u 0,u 0,u 0,u 0,.O [],u 0,.an .nilFunc,.bh,.bh])] 0 (λy=>[_,_,_,_,_,_,_,_,_,_,_,_,_,_,.box 9 y 0,.any]) (λy=>[(14,9,some (.box y [.O [],u 0,u 0,u 0,u 0,u 0,u 0,.O []])),(15,9,some (.box y [.O id,u 0,u 0,u m.n4,u o.c2,u 0,u 1,.O []]))]) [0,0,2,0,8,24,56,120,0,256,768,1792,3840,8191,0,32767] [(14,9),(15,9)] ?_ ?_;rotate_left 14;refine dC ?_;refine wS ?_;exact trivial;intro y;(conv=>whnf);refine Y.fd [(3,u leads),(8,.box 8 cF 0),(9,.box 9 y 0)] [(8,.box cF [.O [],u 0,u 0,u 0,u 0,u 0,u 0,.O [],u 0,.an .nilFunc,.bh,.bh]),(9,.box y [.O id,u 0,u 0,u m.n4,u o.c2,u 0,u 1,.O []])] [(8,8),(9,9)] ⟨cH,rfl,cH⟩ ?_;refine go ?_;refine aJ (decide ((0:Int)<=leads)) rfl ?_ ?_<;>intro hc;refine go ?_;rw[hc]at M;subst M;refine go ?_;exact E;rw[hc]at M;subst M;refine go ?_;exact E
theorem ajB(o:f1)(n m:ad)(bV bE:Nat)(id path:atE)(fl c2 gf leads:Int):cV B 166 [.a7 26 [dE o n bV bE] 0 0,oz id fl c2 gf leads .bh,aH m,.O path] (aK [(4104,.mp bE (bs bg []))]) λd aM=>d=oz id fl c2 gf leads .bh/\∃b aA,aM=aK [(4104,.mp bE (bs bg [])),(8,.box b aA)]:=by refine jW Tryz.func166 Tryz.ntmps166 λU=>?_;refine go ?_;intro cx;refine go ?_;intro ea;refine go ?_;intro cF;apply m';refine Y.Ek aL ?_;apply mB;refine yb (dE o n bV bE) ?_;refine go ?_;refine .inr (af.qt 4104 (dA:=9) (d9:=53) (enc:=bg) (l:=[]) (k:=path) (V:=gq) rfl rfl rfl rfl rfl atD (λw C=>xu w C) ?_);refine go ?_;intro iN;apply mB;apply cD;apply b3;refine iK ?_;refine iq ?_;refine aJ false rfl ?_ ?_<;>intro hc;cases hc;apply cl;refine jb ?_;refine ez ?_;skip;refine Y.gU [(8,.box 8 cF 0)] [(4104,.mp bE (bs bg [])),(8,.box cF (oz id fl c2 gf leads .bh).cells)] [(4104,4104),(8,8)] ⟨ar,rfl,ba⟩ ?_;refine go ?_;refine⟨oz id fl c2 gf leads .bh,?_,rfl,cF,_,rfl⟩;refine go ?_;exact E
theorem ajC(id:atE)(rh dm:Int):aS B 282 [.agg [.O id,u rh,u dm]] (.bool (bif (id==[0])then(dm==1)else false)):=by refine bB Tryz.func282 Tryz.ntmps282 λU=>?_;refine go ?_;intro dz;refine go ?_;exact E
structure f2 where
 id:atE
 rh:Int
 dm:Int
 deriving Inhabited
def kN(e:f2):D:=.agg [.O e.id,u e.rh,u e.dm]
def dZ(l:List f2):List D:=l.map kN
def kO(l:List f2):Int:=l.foldl (λn x=>n+(8+(((x.id.length:Nat):Int)+1).tdiv 2*2)) 0
theorem O5{l:List f2}(h:i<l.length):kO (l.take (i+1))=kO (l.take i)+(8+(((l[i].id.length:Nat):Int)+1).tdiv 2*2):=by rw[kO,kO,atN h,auU];rfl
theorem O6(n:Nat):0<=(((n:Nat):Int)+1).tdiv 2*2/\(((n:Nat):Int)+1).tdiv 2*2<=(n:Int)+1:=by rw[atX atv];omega
theorem Xp{l:List f2}(N:∀x∈l,x.id.length<1000000):∀k,k<=l.length->0<=kO (l.take k)/\kO (l.take k)<=1000010*(k:Int)
 |0,_=>by simp[kO]
 |k+1,X=>by have aY:=Xp N k atv;rw[O5 (show k<l.length by omega)];have h1:=N _ (atK (show k<l.length by omega));have z:=O6 (l[k]' atv).id.length;omega
theorem ajD(l:List f2)(al:l.length<1000000)(N:∀x∈l,x.id.length<1000000):aS B 169 [.Q .none 3 (dZ l)] (u (kO l)):=by refine bB Tryz.func169 Tryz.ntmps169 λU=>?_;refine go ?_;refine Y.ed (α:={i:Nat // i<=l.length}) (λx=>[(3,u (kO (l.take x.1))),(6,.Q .none 3 (dZ l)),(7,u ((dZ l).length:Nat)),(8,u ((x.1:Nat):Int))]) (λ_=>[]) (λx=>l.length-x.1) ⟨0,by omega⟩ [] ⟨⟨E,E,E,aq.of_eq rfl,ai⟩,rfl,ai⟩ ?_;rintro⟨i,hi⟩;dsimp only at hi⊢;refine go ?_;refine aJ (decide ((i:Int)<((dZ l).length:Nat))) rfl ?_ ?_<;>intro hc;apply cl;(have aE:i<l.length:=by simpa[dZ]using hc);have AQ:=Xp N i hi;have cW:=O5 aE;have lZ:=N _ (atK aE);have arQ:=O6 l[i].id.length;(have arR:0<=(((l[i].id.length:Nat):Int)+1).tdiv 2:=by rw[atX atv];omega);generalize gc:kO (l.take i)=S at*;refine gK ?_;refine⟨λ_=>by simp[dZ];omega,?_⟩;refine go ?_;refine⟨kN l[i],λ_=>by simp[dZ,aE],?_⟩;refine go ?_;intro cx;apply cD;apply kF;apply cD;refine ll ?_;refine⟨λ_=>by decide,?_⟩;refine go ?_;exact⟨⟨i+1,aE⟩,[],ayq,⟨aq.of_eq (atI (D.int .i64) cW.symm),E,E,E,ai⟩,rfl,ai⟩;refine go ?_;(have cg:i=l.length:=by simp[dZ]at hc;omega);exact ayo
def qu(id:atE)(ajE:List Int):Int:=vX ((id.length:Nat):Int) (NZ (ajE.headD 0))
end Go.bS.cp

namespace Go.bS
open Go Go.RowKit
variable{P:Program}{B:World}{am:Nat}{A:aw}{K:cK->aw->Prop}{U:b7 P B am}{c:Code}{b bp:Nat}{aA:List D}
theorem Y.ajF(s q:Nat)(x:D){O7:Nat}(hs:A.H s=some (.box b aA))(I:A.H q=some (.box O7 [.box bp b 0]))(aX:q≠s)(F:x.cells=aA)(ef:aA.all D.one=true)
  (h:Y U c ((A.b2 s none).b2 q (some (.box O7 [.a7 aA.length [x] 0 0]))) K):Y U c A K :=
 ⟨λa w C M=>by
  obtain⟨vs,e,h1,z,aa⟩:=M.heap.b' s _ hs;have jw:n0 w C w (gy C b aA.length):=⟨atP _,λx _=>En C b _ atv x,λ_ _ _ _=>rfl⟩;have aZ:c7 (λx=>x=b) w C w (gy C b aA.length):=⟨jw,rfl,rfl,rfl,λx _ F=>⟨rfl,rI _ _ F⟩⟩
  have fW:bG U w (gy C b aA.length) (A.b2 s none) a:=M.b2 aZ (λx F=>by subst F;exact M.heap.cJ s _ x hs rfl)
   (λbp o x aX ag ao F=>ax3) (λx F=>by cases F)
  have qW:=z.ext jw
  have dN:bf w (gy C b aA.length) (.Q .none aA.length [x]) (.slice (some ⟨b,0,none⟩) 1 1) :=
   x2 (xs:=[x]) (vs:=vs) (j_:=(0,0)) (e:=e) h1 (λy hy=>by rw[auv.1 hy,F]) (atP _) aty (by rw[ht];simp) (λi d N=>by
    have hr:aA[i]?=some d:=by simpa[b1,F]using N
    obtain⟨aj,ao⟩:=lW (l:=vs) (i:=i) (by rw[<-z.1];exact e8 hr)
    exact⟨aj,ao,qW.2 i d aj hr ao,z.one ef aj (aub.2 ⟨i,ao⟩)⟩) trivial
  have vd:(A.b2 s none).H q=some (.box O7 [.box bp b 0]):=by
   show _root_.cond (Nat.beq q s) none (A.H q)=_;rw[show Nat.beq q s=false from by cases G:Nat.beq q s with|false=>rfl|true=>exact absurd (aua G) aX];exact I
  have yx:=fW.HB q (dt:=[.a7 aA.length [x] 0 0]) vd (λdh ae=>⟨by simpa using ae.1,λi d v N W=>by
   match i,N with
   |0,N =>
    simp at N;subst N;have a_:=ae.2 0 _ v rfl W;have cC:v=.pointer (some ⟨b,0,none⟩):=by cases a_;rfl
    rw[cC];have:=bf.a7 aA.length [x] 0 0 b 0 1 dN;simpa using this
   |i+1,N=>simp at N⟩)
  exact h.run a w _ yx⟩
end Go.bS
namespace Go.bS.cp
open Go Go.Proofs
variable{B:World}
def pD(wide:Bool)(b4:Value)(bP ib C6:Int):D:=.agg [.bool wide,.an b4,u bP,u ib,u C6]
theorem ajG(p:dr)(k:Int)(cn cc b8:Nat):cV B 147 [u k,.box 4101 cc 0] (aK [(4101,.box cc [.box 4102 b8 0]),(4102,.box b8 (fo p cn))]) λd aM=>d=.bool (decide (k<p.free))/\aM=aK [(4101,.box cc [.box 4102 b8 0]),(4102,.box b8 (fo p cn))]:=by refine jW Tryz.func147 Tryz.ntmps147 λU=>?_;apply b3;refine jb ?_;refine ez ?_;refine Y.gU [(3,.bool (decide (k<p.free)))] [(4101,.box cc [.box 4102 b8 0]),(4102,.box b8 (fo p cn))] [(4101,4101),(4102,4102)] ⟨ar,rfl,ba⟩ ?_;exact ayC
theorem ajH(T:List Int)(hT:T.length<1000000)(b6:Nat)(cq:List D)(c9 da:aI)(p:Int->Bool)(nl:∀k∈T,cV B b6 (u k::cq) (aK [(4101,c9),(4102,da)]) λd aM=>d=.bool (p k)/\aM=aK [(4101,c9),(4102,da)]):cV B 146 [.Q .none 1 (bn T),.fn (.func b6) [] cq] (aK [(4101,c9),(4102,da)]) λd aM=>d=.bool (T.any p)/\aM=aK [(4101,c9),(4102,da)]:=by refine jW Tryz.func146 Tryz.ntmps146 λU=>?_;apply b3;refine qU ?_;refine .inr (af.call rfl [.Q .none 1 (bn T),.fn (.func b6) [] cq] [(4101,4101),(4102,4102)] (c8.xq rfl rfl (Xg T hT b6 cq c9 da p nl)) rfl ar ?_);rintro d aM ⟨rfl,rfl⟩;refine rT ?_;refine Y.gU [(4,.bool (T.any p))] [(4101,c9),(4102,da)] [(4101,4101),(4102,4102)] ⟨⟨aq.of_eq (atI D.bool (BY p T)),ai⟩,rfl,ba⟩ ?_;exact ayC
def hB(T:List Int):Nat->Int->List Int×Int
 |0,a=>([],a)
 |n+1,a=>((hB T n a).1++[e' T 1 (hB T n a).2],e' T 1 (hB T n a).2+1)
def uO(e:mQ)(f:eS):Bool:=bif (bif !(bj e.own f.path).isSome then(bj e.sh f.data).isSome else false)then f.data !=[]else false
def gS(e:mQ)(f:eS):cM :=
 if uO e f=true then⟨f.path,((bj e.sh f.data).getD gq).start,((bj e.sh f.data).getD gq).len⟩else⟨f.path,((bj e.own f.path).getD gq).start,((bj e.own f.path).getD gq).len⟩
def ri(p:dr)(e:mQ)(x:Int)(f:eS):Int:=if(bj p.aR f.path).isSome=true then min x (gS e f).start else x
def fy(p:dr)(count:Int):List Int:=kJ p.m p.start count
def xv(p:dr):Bool:=hX p.m.e3 0
def cY(p:dr):Bool:=hX p.m.e3 3
def ig(p:dr)(T:List Int):Int:=if xv p=true then e' T p.iso p.free else 0
def iy(p:dr):Int:=if xv p=true then p.iso else 0
def hL(p:dr)(T:List Int):Int:=if xv p=true then e' T p.iso p.free+p.iso else p.free
def jk(p:dr)(T:List Int):List Int×Int:=if cY p=true then hB T p.dl.toNat (hL p T)else([],hL p T)
def de(b:Bool)(x:Int):Int:=if b=true then x else 0
def Gl(so:List Int)(a:Int):Int:=match so with|[]=>a|x::_=>x
def lf(p:dr)(e:mQ)(so:List Int):Int:=p.files.foldl (ri p e) (Gl so e.a)
def nr(p:dr)(count:Int):Int:=if cY p=true then p.start+count-1 else p.start+count
def kP(p:dr)(count:Int):mQ:=uM p (fy p count) (jk p (fy p count)).2
def iz(p:dr)(count:Int):mK :=
 {S:=p.start,C:=count,iS:=ig p (fy p count),iC:=iy p,kind:=de (cY p) p.m.dl,opn:=false,uS:=de (cY p) p.start,uC:=de (cY p) count,recg:=de (cY p) (p.start+16+p.desc),
   AF:=de (cY p) (lf p (kP p count) (jk p (fy p count)).1),pC:=de (cY p) (nr p count-lf p (kP p count) (jk p (fy p count)).1),
   jf:=(jk p (fy p count)).1,commit:=0,spS:=0,spC:=0,files:=p.files.map (gS (kP p count))}
def oZ(p:dr)(count:Int):Bool:=bif decide ((kP p count).a<=nr p count)then !((fy p count).any λk=>decide (k<p.free))else false
abbrev jI(S C iS iC k uS uC N' AF pC:Int)(so gf:D):List D:=[u S,u C,u iS,u iC,u k,.bool false,u uS,u uC,u N',u AF,u pC,so,u 0,u 0,u 0,gf]
abbrev rj:List D:=jI 0 0 0 0 0 0 0 0 0 0 .bh .bh
theorem Jw{T:List Int}(gZ:∀k∈T,k<=1000000)(a:Int)(h:0<=a):∀n:Nat,0<=(hB T n a).2/\(hB T n a).2<=max a 1000001+(n:Int)
 |0=>by show 0<=a/\a<=max a 1000001+0;omega
 |n+1=>by have h1:=Jw gZ a h n;have z:=Gk (n:=1) gZ (hB T n a).2;show 0<=_+(1:Int)/\_+(1:Int)<=_;omega
theorem O8(T:List Int)(a:Int):∀n,(hB T n a).1.length=n
 |0=>rfl
 |n+1=>by show((hB T n a).1++[e' T 1 (hB T n a).2]).length=_;rw[atO,O8 T a n];rfl
theorem Xq{T:List Int}(gZ:∀k∈T,k<=1000000)(a:Int)(h:0<=a):∀(n:Nat) b,b∈(hB T n a).1->0<=b/\b<=max a 1000001+(n:Int)
 |0,b,G=>by cases G
 |n+1,b,G=>by have G:b∈(hB T n a).1++[e' T 1 (hB T n a).2]:=G;rcases at1.1 G with G|G;have:=Xq gZ a h n b G;omega;have h1:=Jw gZ a h n;have z:=Gk (n:=1) gZ (hB T n a).2;simp at G;subst G;omega
def ks(l:List (atE×cM)):Prop:=∀q v,bj l q=some v->0<=v.start
theorem Gm{l:List (atE×cM)}(h:ks l){k:atE}{v:cM}(W:0<=v.start):ks (fC l k v):=λq w cG=>by
 rw[kq]at cG;split at cG
 ·cases cG;exact W
 exact h q w cG
theorem O9{l:List (atE×cM)}(h:ks l)(q:atE):0<=((bj l q).getD gq).start:=by cases aT:bj l q with|none=>exact auu _|some v=>exact h q v aT
theorem Xr{p:dr}(aT:ks p.aR):∀(l:List eS) (s:xt),ks s.own->ks s.sh->ks (l.foldl (gE p) s).own/\ks (l.foldl (gE p) s).sh
 |[],s,h1,z=>⟨h1,z⟩
 |f::l,s,h1,z=>by have W:=O9 aT f.path;refine Xr aT l _ ?_ ?_;unfold gE;split;exact Gm h1 W;exact h1;unfold gE;split;show ks (if _ then _ else _);split;exact Gm z W;exact z;exact z
theorem Xs{p:dr}{T:List Int}(gZ:∀k∈T,k<=1000000){data:List (atE×atE)}(N:∀q,((bj data q).getD []).length<=100000000):∀(l:List atE) (s:mQ),0<=s.a->ks s.own->ks s.sh->ks (jj p T data s l).own/\ks (jj p T data s l).sh
 |[],s,_,h1,z=>⟨h1,z⟩
 |q::l,s,h0,h1,z=>by(have W:0<=e' T (e_ ((bj data q).getD []).length) s.a:=by have:=Gk (n:=e_ ((bj data q).getD []).length) gZ s.a;omega);have e:jj p T data s (q::l)=jj p T data (lJ p T data s q) l:=rfl;rw[e];refine Xs gZ N l _ (Xk gZ N s q h0).1 ?_ ?_;unfold lJ;split;exact h1;exact Gm h1 W;unfold lJ;split;exact z;show ks (if _ then _ else _);split;exact Gm z W;exact z
theorem O_:ks []:=λq v h=>by cases h
variable{T:List Int}
theorem ajI{p:dr}(gZ:∀k∈T,k<=1000000)(v_:∀f∈p.files,f.data.length<=100000000)(aT:ks p.aR)(a:Int)(h:0<=a): ks (uM p T a).own/\ks (uM p T a).sh/\0<=(uM p T a).a/\(uM p T a).a<=max a 1000001+50000*(p.cX.length:Int):=by have h1:=Xr aT p.files ⟨[],[],[]⟩ O_ O_;have z:=Xs (p:=p) gZ (O3 (p:=p) v_) p.cX ⟨(kr p p.files).own,(kr p p.files).sh,a⟩ h h1.1 h1.2;have aa:=O4 (p:=p) gZ (O3 (p:=p) v_) p.cX ⟨(kr p p.files).own,(kr p p.files).sh,a⟩ h;exact⟨z.1,z.2,aa.1,aa.2⟩
theorem ajJ{e:mQ}(h1:ks e.own)(z:ks e.sh)(f:eS):0<=(gS e f).start:=by unfold gS;split;exact O9 z _;exact O9 h1 _
theorem O'{p:dr}{e:mQ}(h1:ks e.own)(z:ks e.sh):∀(l:List eS) (x:Int),0<=x->0<=l.foldl (ri p e) x/\l.foldl (ri p e) x<=x
 |[],x,h=>⟨h,auu _⟩
 |f::l,x,h=>by have aa:=ajJ h1 z f;(have aC:0<=ri p e x f/\ri p e x f<=x:=by unfold ri;split<;>omega);have:=O' (p:=p) h1 z l _ aC.1;rw[avj];omega
variable{f:FuncId}{ds:List D}{a6:D->bF->Prop}{c9 da:aI}
theorem _root_.Go.bS.c8.ajK{H:bF}{jU y':aI}(h1:H 4102=some c9)(z:H 4001=some da)(aa:H 7=some jU)(aC:H 8=some y')(a_:H 4002=none)(cC:H 4003=none)(hc:cV B f ds (aK [(4000,c9),(4001,da),(4201,jU),(4202,y')]) a6):cV B f ds (gA H [(4000,4102),(4001,4001),(4201,7),(4202,8),(4002,4002),(4003,4003)]) a6:=by(have e:gA H [(4000,4102),(4001,4001),(4201,7),(4202,8),(4002,4002),(4003,4003)]=aK [(4000,c9),(4001,da),(4201,jU),(4202,y')]:=by funext j;simp only[gA,aK];cases Nat.beq j 4000 with|true=>exact h1|false =>(cases Nat.beq j 4001 with|true=>exact z|false =>(cases Nat.beq j 4201 with|true=>exact aa|false =>(cases Nat.beq j 4202 with|true=>exact aC|false =>(cases Nat.beq j 4002 with|true=>exact a_|false =>(cases Nat.beq j 4003 with|true=>exact cC|false=>rfl))))));rw[e];exact hc
def A3(p:dr):Prop:=0<=p.start/\p.start<=4096/\0<=p.iso/\p.iso<=1000000000/\0<=p.dl/\p.dl<=1000000/\0<=p.desc/\p.desc<=100/\0<=p.free/\p.free<=100000/\p.cX.length<=100000/\p.files.length<1000000/\(∀f∈p.files,f.data.length<=100000000)/\ks p.aR
theorem ajL(p:dr)(au:A3 p)(count:Int)(hS:0<=count)(eZ:count<=4096)(b8 cn:Nat):cV B 95 [.box 4102 b8 0,u count] (aK [(4102,.box b8 (fo p cn)),(4001,.mp cn (bs bg p.aR))]) λd aM=>d=.bl [lB (iz p count),.bool (oZ p count)]/\∃cP aA,aM=aK [(4102,.box b8 (fo p cn)),(4001,.mp cn (bs bg p.aR)),(4,.box cP aA)]:=by refine c8.sub (a6:=λd aM=>d=.bl [lB (iz p count),.bool (oZ p count)]/\∃cP aA,yr aM [(4102,.box b8 (fo p cn)),(4001,.mp cn (bs bg p.aR)),(4,.box cP aA)]) ?_ λd aM ⟨h1,cP,aA,z⟩=>⟨_,z.get,h1,cP,aA,rfl⟩;obtain⟨hg,kg,pz,IA,Nk,Fh,Nn,arS,arT,arU,ajM,ajN,Xt,ajO⟩:=au;(have A4:(fy p count).length<1000000:=by have:=UV p.m p.start count;unfold fy;omega);(have gZ:∀k∈fy p count,k<=1000000:=λk X=>by have:=afg X;omega);have Pb:=UT (B:=B) p.m p.start count;rw[show kJ p.m p.start count=fy p count from rfl]at Pb;refine yn Tryz.func95 Tryz.ntmps95 λU=>?_;generalize Pc:fy p count=T at*;refine go ?_;intro cc;(conv=>whnf);refine cT ?_;intro cP;(conv=>whnf);refine go ?_;intro ea;(conv=>whnf);refine go ?_;refine' eR [(2,.box cc [.box 4102 b8 0]),(4,.box cP rj),(6,.box ea (jI p.start count 0 0 0 0 0 0 0 0 .bh .bh)),(4102,.box b8 (fo p cn)),(4001,.mp cn (bs bg p.aR))] 0 (λy:Nat=>[_,_,_,_,_,_,.Q .none 1 (bn T),.box 7 y 0,.any]) (λy=>[(7,7,some (.box y [.bh])),(8,7,some (.box y [.Q .none 1 (bn T)]))]) [0,1,3,7,0,16,63,0,255] [(7,7),(8,7)] ?_ ?_;rotate_left 6;refine dC ?_;refine wS ?_;exact trivial;intro y;(conv=>whnf);refine go ?_;intro cF;(conv=>whnf);refine go ?_;refine br (r7 (B:=B) p.m.e3 0 aty) ?_;refine nf (α:=Unit) (λ_=>True) [1,2,4,6,7,8,9] [2,4,7,4102,4001] (λ_=>[]) (λ_=>[(6,.box ea (jI p.start count (ig p T) (iy p) 0 0 0 0 0 0 .bh .bh)),(8,.box cF [u (hL p T)])]) ?_ ?_;(·refine cb (t:=xv p) ?_ ?_<;>intro hc;(·refine go ?_;have Pd:=λdJ cF=>OZ (B:=B) T A4 gZ p.free p.iso atv atv atv atv dJ cF;refine' eR [(2,.box cc [.box 4102 b8 0]),(4,.box cP rj),(6,.box ea (jI p.start count 0 0 0 0 0 0 0 0 .bh .bh)),(7,.box y [.Q .none 1 (bn T)]),(8,.box cF [u p.free]),(4102,.box b8 (fo p cn)),(4001,.mp cn (bs bg p.aR))] () (λ_:Unit=>[_,_,_,_,_,u (e' T p.iso p.free),_,_,_,_,_,_,.any]) (λ_=>[(5,8,some (.box cF [u (e' T p.iso p.free+p.iso)])),(12,6,some (.box ea (jI p.start count (e' T p.iso p.free) p.iso 0 0 0 0 0 0 .bh .bh)))]) [0,0,2,6,14,31,0,64,192,448,1023,2047,4095] [(5,8),(12,6)] ?_ ?_;rotate_left 11;refine dC ?_;refine bR (λ_=>af.ET rfl [u p.iso,.box 4201 y 0,.box 4202 cF 0] [(4201,7),(4202,8)] r3 (Pd y cF) rfl jd (cz ())) ?_;refine Go.bS.cp.vs ?_;exact trivial;intro _;(conv=>whnf);refine go ?_;refine gp () [(2,2),(4,4),(7,7),(4102,4102),(4001,4001),(6,6),(8,8)] trivial (by unfold ig iy hL;rw[atH hc,atH hc,atH hc];exact⟨cH,rfl,cH⟩));refine go ?_;refine gp () [(2,2),(4,4),(7,7),(4102,4102),(4001,4001),(6,6),(8,8)] trivial (by unfold ig iy hL;rw[atG (by simp[hc]),atG (by simp[hc]),atG (by simp[hc])];exact⟨cH,rfl,cH⟩));intro _ _;(have lG:0<=hL p T/\hL p T<=2000000000:=by have h1:=Gk (n:=p.iso) gZ p.free;unfold hL;split<;>omega);(have Pe:0<=(jk p T).2/\(jk p T).2<=3000000000:=by have h1:=Jw gZ (hL p T) lG.1 p.dl.toNat;unfold jk;split;omega;show 0<=hL p T/\hL p T<=_;omega);(have Xu:∀b∈(jk p T).1,0<=b/\b<=3000000000:=by intro b G;unfold jk at G;split at G;have h1:=Xq gZ (hL p T) lG.1 p.dl.toNat b G;omega;cases G);refine go ?_;refine br (r7 (B:=B) p.m.e3 3 aty) ?_;refine nf (α:=Unit) (λ_=>True) [1,2,4,6,7,8,9,10] [2,4,7,4102,4001] (λ_=>[]) (λ_=>[(6,.box ea (jI p.start count (ig p T) (iy p) (de (cY p) p.m.dl) (de (cY p) p.start) (de (cY p) count) (de (cY p) (p.start+16+p.desc)) 0 0 (.Q .none 1 (bn (jk p T).1)) .bh)),(8,.box cF [u (jk p T).2])]) ?_ ?_;(·refine cb (t:=cY p) ?_ ?_<;>intro hc;(·have X:∀x,de (cY p) x=x:=λx=>atH hc;refine go ?_;refine' eR [(2,.box cc [.box 4102 b8 0]),(4,.box cP rj),(6,.box ea (jI p.start count (ig p T) (iy p) 0 0 0 0 0 0 .bh .bh)),(7,.box y [.Q .none 1 (bn T)]),(8,.box cF [u (hL p T)]),(4102,.box b8 (fo p cn)),(4001,.mp cn (bs bg p.aR))] () (λ_:Unit=>[_,_,_,_,_,_,_,_,_,_,_,_,_,_,_,_,_,_,_,.any]) (λ_=>[(19,6,some (.box ea (jI p.start count (ig p T) (iy p) p.m.dl p.start count (p.start+16+p.desc) 0 0 .bh .bh)))]) [0,1,3,7,15,0,32,0,128,384,896,1920,0,4096,12288,28672,65408,131071,262143,524287] [(19,6)] ?_ ?_;rotate_left 19;refine dC ?_;refine Go.bS.cp.vs ?_;exact trivial;intro _;(conv=>whnf);refine go ?_;refine Y.tW 2001 1 3 ?_;refine Y.jx 6 (dt:=jI p.start count (ig p T) (iy p) p.m.dl p.start count (p.start+16+p.desc) 0 0 (.Q (.own 2001 (.slice none 0 0)) 1 []) .bh) rfl ⟨E,E,E,E,E,E,E,E,E,E,E,aq.vj,E,E,E,E,ai⟩ ?_;refine gn (λx:Nat×Value=>(x.1:Int)<=p.dl) [1,2,4,6,7,8,9,10,89] [2,4,7,4102,4001] (λx=>[(90,u x.1)]) (λx=>[(6,.box ea (jI p.start count (ig p T) (iy p) p.m.dl p.start count (p.start+16+p.desc) 0 0 (.Q (.own 2001 x.2) 1 (bn (hB T x.1 (hL p T)).1)) .bh)),(8,.box cF [u (hB T x.1 (hL p T)).2]),(2001,.own x.2 (bn (hB T x.1 (hL p T)).1).length 1 3)]) (λx=>p.dl.toNat-x.1) (0,.slice none 0 0) (by show(0:Int)<=_;omega) [(2,2),(4,4),(7,7),(4102,4102),(4001,4001),(6,6),(8,8),(2001,2001)] ?_;rintro⟨i,w⟩ hi;dsimp only at hi⊢;refine go ?_;refine cb (t:=decide ((i:Int)<p.dl)) ?_ ?_<;>intro bw;(·have C7:(i:Int)<p.dl:=auc bw;have II:=Jw gZ (hL p T) lG.1 i;have ol:hB T (i+1) (hL p T)=((hB T i (hL p T)).1++[e' T 1 (hB T i (hL p T)).2],e' T 1 (hB T i (hL p T)).2+1):=rfl;have eJ:=O8 T (hL p T) i;generalize hB T i (hL p T)=aP at*;(have c0:(bn aP.1).length=i:=by rw[bn,atL,eJ]);have Pd:=OZ (B:=B) T A4 gZ aP.2 1 II.1 atv atv atv y cF;refine go ?_;refine' eR [(2,.box cc [.box 4102 b8 0]),(4,.box cP rj),(6,.box ea (jI p.start count (ig p T) (iy p) p.m.dl p.start count (p.start+16+p.desc) 0 0 (.Q (.own 2001 w) 1 (bn aP.1)) .bh)),(7,.box y [.Q .none 1 (bn T)]),(8,.box cF [u aP.2]),(4102,.box b8 (fo p cn)),(4001,.mp cn (bs bg p.aR)),(2001,.own w (bn aP.1).length 1 3)] Value.nilFunc (λV:Value=>[_,_,_,_,u (e' T 1 aP.2),.Q .dU 1 [u (e' T 1 aP.2)],.Q (.own 98 V) 1 (bn aP.1++[u (e' T 1 aP.2)]),_,_,.any]) (λV=>[(4,8,some (.box cF [u (e' T 1 aP.2+1)])),(6,2001,none),(6,98,some (.own V ((bn aP.1).length+1) 1 3)),(9,6,some (.box ea (jI p.start count (ig p T) (iy p) p.m.dl p.start count (p.start+16+p.desc) 0 0 (.Q (.own 98 V) 1 (bn aP.1++[u (e' T 1 aP.2)])) .bh)))]) [0,1,3,0,8,24,63,127,255,511] [(4,8),(6,2001),(6,98),(9,6)] ?_ ?_;rotate_left 6;refine dC ?_;refine bR (λV=>af.ET rfl [u 1,.box 4201 y 0,.box 4202 cF 0] [(4201,7),(4202,8)] r3 Pd rfl jd (cz V)) ?_;refine Cj (λV=>?_) ?_;(conv=>whnf);refine⟨rfl,rfl,?_⟩;(conv=>whnf);exact⟨by show(_+1)*8<=_;rw[c0];omega,by show _+1<=_;rw[c0];omega,atC,λv=>d0 v⟩;refine Go.bS.cp.vs ?_;exact trivial;intro V;(conv=>whnf);refine Y.jx 6 (dt:=jI p.start count (ig p T) (iy p) p.m.dl p.start count (p.start+16+p.desc) 0 0 (.Q (.own 2001 V) 1 (bn (aP.1++[(e' T 1 aP.2)]))) .bh) rfl ⟨E,E,E,E,E,E,E,E,E,E,E,aq.kd (by simp[bn]),E,E,E,E,ai⟩ ?_;refine go ?_;(have ajP:(bn (aP.1++[e' T 1 aP.2])).length=(bn aP.1).length+1:=by simp[bn]);exact eX (i+1,V) [(2,2),(4,4),(7,7),(4102,4102),(4001,4001),(6,6),(8,8),(2001,98)] (by dsimp only;omega) (by dsimp only;omega) (by dsimp only;rw[ol];dsimp only;rw[ajP];exact⟨cH,rfl,cH⟩));(have cg:(i:Int)=p.dl:=by have:=at0 bw;omega);(have fR:jk p T=hB T i (hL p T):=by rw[jk,atH hc,show p.dl.toNat=i by omega]);rw[fR];simp only[X];refine Y.jx 6 (dt:=jI p.start count (ig p T) (iy p) p.m.dl p.start count (p.start+16+p.desc) 0 0 (.Q .none 1 (bn (hB T i (hL p T)).1)) .bh) rfl ⟨E,E,E,E,E,E,E,E,E,E,E,aq.m7,E,E,E,E,ai⟩ ?_;refine go ?_;exact gp () [(2,2),(4,4),(7,7),(4102,4102),(4001,4001),(6,6),(8,8)] trivial);have fR:jk p T=([],hL p T):=atG (by rw[hc];decide);have X:∀x,de (cY p) x=0:=λx=>atG (by rw[hc];decide);rw[fR];simp only[X];refine Y.jx 6 (dt:=jI p.start count (ig p T) (iy p) 0 0 0 0 0 0 (.Q .none 1 []) .bh) rfl ⟨E,E,E,E,E,E,E,E,E,E,E,aq.nil,E,E,E,E,ai⟩ ?_;refine go ?_;exact gp () [(2,2),(4,4),(7,7),(4102,4102),(4001,4001),(6,6),(8,8)] trivial);intro _ _;(have ajQ:kP p count=uM p T (jk p T).2:=by rw[kP,Pc]);have rN:=ajI (p:=p) gZ Xt ajO (jk p T).2 Pe.1;have Jx:=ajy (B:=B) p T A4 gZ (jk p T).2 Pe.1 atv ajM ajN Xt b8 cn y cF;rw[<-ajQ]at rN Jx;generalize l8:kP p count=e at*;generalize ajR:jk p T=el at*;obtain⟨fT,Xv⟩:=el;dsimp only at Pe Xu rN Jx⊢;obtain⟨g6,ju,Jy,arV⟩:=rN;refine go ?_;refine .inr (af.call rfl [.box 4000 b8 0,.fn (.func 142) [] [.box 4201 y 0,.box 4202 cF 0]] [(4000,4102),(4001,4001),(4201,7),(4202,8),(4002,4002),(4003,4003)] (c8.ajK rfl rfl rfl rfl rfl rfl Jx) rfl ⟨aq.box,aq.fn trivial ⟨aq.box,aq.box,ai⟩,ai⟩ ?_);rintro d aM ⟨co,aP,rfl,rfl⟩;refine⟨_,E,?_⟩;clear Jx Pb;(conv=>whnf);refine go ?_;refine nf (α:=Unit) (λ_=>True) [1,2,4,6,7,8,10,11,12] [2,4,6,7,8,4102,4001,4002,4003] (λ_=>[(13,u (Gl fT e.a))]) (λ_=>[]) ?_ ?_;refine cb (t:=decide (0<((bn fT).length:Int))) ?_ ?_<;>intro hc;(obtain⟨arW,SV,rfl⟩:∃x r,fT=x::r:=by cases fT with|nil=>simp[bn]at hc|cons x r=>exact⟨x,r,rfl⟩);refine go ?_;exact gp () [(2,2),(4,4),(6,6),(7,7),(8,8),(4102,4102),(4001,4001),(4002,4002),(4003,4003)] trivial;(obtain rfl:fT=[]:=by cases fT with|nil=>rfl|cons x r=>simp[bn]at hc);refine go ?_;exact gp () [(2,2),(4,4),(6,6),(7,7),(8,8),(4102,4102),(4001,4001),(4002,4002),(4003,4003)] trivial;intro _ _;(have lV:0<=Gl fT e.a/\Gl fT e.a<=100000000000:=by cases fT with|nil=>show 0<=e.a/\e.a<=_;omega|cons x r=>have:=Xu x atS;show 0<=x/\x<=_;omega);generalize Xw:Gl fT e.a=tm at*;refine go ?_;refine Y.tW 2002 3 53 ?_;refine Y.jx 6 (dt:=jI p.start count (ig p T) (iy p) (de (cY p) p.m.dl) (de (cY p) p.start) (de (cY p) count) (de (cY p) (p.start+16+p.desc)) 0 0 (.Q .none 1 (bn fT)) (.Q (.own 2002 (.slice none 0 0)) 3 [])) rfl ⟨E,E,E,E,E,E,E,E,E,E,E,E,E,E,E,aq.vj,ai⟩ ?_;refine gn (λx:Nat×Value=>x.1<=p.files.length) [1,2,4,6,7,8,10,11,12,122,123] [2,4,7,8,4102,4001,4002,4003] (λx=>[(13,u ((p.files.take x.1).foldl (ri p e) tm)),(124,u x.1)]) (λx=>[(6,.box ea (jI p.start count (ig p T) (iy p) (de (cY p) p.m.dl) (de (cY p) p.start) (de (cY p) count) (de (cY p) (p.start+16+p.desc)) 0 0 (.Q .none 1 (bn fT)) (.Q (.own 2002 x.2) 3 (((p.files.take x.1).map (gS e)).map bg)))),(2002,.own x.2 (((p.files.take x.1).map (gS e)).map bg).length 3 53)]) (λx=>p.files.length-x.1) (0,.slice none 0 0) (at7 _) [(2,2),(4,4),(7,7),(8,8),(4102,4102),(4001,4001),(4002,4002),(4003,4003),(6,6),(2002,2002)] ?_;rintro⟨i,w⟩ hi;dsimp only at hi⊢;refine go ?_;refine cb (t:=decide ((i:Int)<((p.files.map eb).length:Nat))) ?_ ?_<;>intro hc;(·(have aE:i<p.files.length:=by simpa using hc);have l1:=O' (p:=p) g6 ju (p.files.take i) tm lV.1;(have hlen:(((p.files.take i).map (gS e)).map bg).length=i:=by simp;omega);(have i7:(p.files.take (i+1)).foldl (ri p e) tm=ri p e ((p.files.take i).foldl (ri p e) tm) p.files[i]:=by rw[atN aE,auU];rfl);(have xw:((p.files.take (i+1)).map (gS e)).map bg=((p.files.take i).map (gS e)).map bg++[bg (gS e p.files[i])]:=by rw[atN aE,auo,auo];rfl);generalize(p.files.take i).foldl (ri p e) tm=fY at*;generalize((p.files.take i).map (gS e)).map bg=Pf at*;(have Xx:gS e p.files[i]=⟨p.files[i].path,(if uO e p.files[i]=true then(bj e.sh p.files[i].data).getD gq else(bj e.own p.files[i].path).getD gq).start,(if uO e p.files[i]=true then(bj e.sh p.files[i].data).getD gq else(bj e.own p.files[i].path).getD gq).len⟩:=by unfold gS;by_cases h:uO e p.files[i]=true;rw[atH h,atH h];rw[atG h,atG h]);refine go ?_;intro tn;(conv=>whnf);refine go ?_;refine dD (af.qt 4002 (dA:=9) (d9:=53) (enc:=bg) (V:=gq) rfl rfl rfl rfl rfl atD (λw C=>xu w C)) ?_;intro ns;(conv=>whnf);refine go ?_;refine dD (af.qt 4003 (dA:=9) (d9:=53) (enc:=bg) (V:=gq) rfl rfl rfl rfl rfl atD (λw C=>xu w C)) ?_;intro Xn;(conv=>whnf);refine go ?_;refine nf (α:=Unit) (λ_=>True) [1,2,4,6,7,8,10,11,12,122,123,13,124,15,16] [2,4,6,7,8,4102,4001,4002,4003,2002,15] (λ_=>[]) (λ_=>[(16,.box ns (bg (if uO e p.files[i]=true then(bj e.sh p.files[i].data).getD gq else(bj e.own p.files[i].path).getD gq)).cells)]) ?_ ?_;refine cb (t:=uO e p.files[i]) ?_ ?_<;>intro bw;rw[atH bw];refine go ?_;exact gp () [(2,2),(4,4),(6,6),(7,7),(8,8),(4102,4102),(4001,4001),(4002,4002),(4003,4003),(2002,2002),(15,15),(16,16)] trivial;(have dO:¬uO e p.files[i]=true:=by rw[bw];decide);rw[atG dO];refine go ?_;exact gp () [(2,2),(4,4),(6,6),(7,7),(8,8),(4102,4102),(4001,4001),(4002,4002),(4003,4003),(2002,2002),(15,15),(16,16)] trivial;intro _ _;generalize(if uO e p.files[i]=true then(bj e.sh p.files[i].data).getD gq else(bj e.own p.files[i].path).getD gq)=C8 at*;refine go ?_;intro v;(conv=>whnf);refine go ?_;refine' eR [(2,.box cc [.box 4102 b8 0]),(4,.box cP rj),(6,.box ea (jI p.start count (ig p T) (iy p) (de (cY p) p.m.dl) (de (cY p) p.start) (de (cY p) count) (de (cY p) (p.start+16+p.desc)) 0 0 (.Q .none 1 (bn fT)) (.Q (.own 160 v) 3 (Pf++[.agg [.O p.files[i].path,u C8.start,u C8.len]])))),(7,.box y [.Q .none 1 (bn T)]),(8,.box cF [u e.a]),(4102,.box b8 (fo p cn)),(4001,.mp cn (bs bg p.aR)),(4002,.mp co (bs bg e.own)),(4003,.mp aP (bs bg e.sh)),(160,.own v (Pf.length+1) 3 53),(15,.box tn (eb p.files[i]).cells),(16,.box ns [.O p.files[i].path,u C8.start,u C8.len])] 0 (λq:Nat=>[_,_,_,_,_,_,.bl [bg ((bj p.aR p.files[i].path).getD gq),.bool (bj p.aR p.files[i].path).isSome],_,_,_,.box 20 q 0,.any,_]) (λq=>[(10,20,some (.box q [.O [],u 0,u 0])),(11,20,some (.box q (bg ((bj p.aR p.files[i].path).getD gq)).cells))]) [0,1,3,7,0,16,63,127,255,255,0,1535,4095] [(10,20),(11,20)] ?_ ?_;rotate_left 10;refine dC ?_;refine bR (λq=>af.qt 4001 (dA:=9) (d9:=53) (enc:=bg) (V:=gq) rfl rfl rfl rfl rfl atD (λw C=>xu w C) (cz q)) ?_;refine wS ?_;exact trivial;intro q;(conv=>whnf);refine Y.jx 6 (dt:=jI p.start count (ig p T) (iy p) (de (cY p) p.m.dl) (de (cY p) p.start) (de (cY p) count) (de (cY p) (p.start+16+p.desc)) 0 0 (.Q .none 1 (bn fT)) (.Q (.own 2002 v) 3 (Pf++[bg (gS e p.files[i])]))) rfl ⟨E,E,E,E,E,E,E,E,E,E,E,E,E,E,E,aq.kd (by rw[Xx];rfl),ai⟩ ?_;refine go ?_;refine cb (t:=(bj p.aR p.files[i].path).isSome) ?_ ?_<;>intro dO;refine go ?_;exact eX (i+1,v) [(2,2),(4,4),(7,7),(8,8),(4102,4102),(4001,4001),(4002,4002),(4003,4003),(6,6),(2002,160)] aE (by dsimp only;omega) (by dsimp only;rw[i7,xw,ri,atH dO,atO];exact⟨⟨E,E,E,E,E,E,E,E,E,E,E,dp (by show(if C8.start<fY then C8.start else fY)=_;rw[Xx,Int.min_def];dsimp only;split<;>split<;>omega),E,ai⟩,rfl,cH⟩);refine go ?_;exact eX (i+1,v) [(2,2),(4,4),(7,7),(8,8),(4102,4102),(4001,4001),(4002,4002),(4003,4003),(6,6),(2002,160)] aE (by dsimp only;omega) (by dsimp only;rw[i7,xw,ri,atG (by rw[dO];decide),atO];exact⟨cH,rfl,cH⟩));(have cg:i=p.files.length:=by simp at hc;omega);subst cg;rw[atW];have l1:=O' (p:=p) g6 ju p.files tm lV.1;(have ajS:lf p e fT=p.files.foldl (ri p e) tm:=by rw[lf,Xw]);rw[<-ajS]at l1⊢;refine Y.jx 6 (dt:=jI p.start count (ig p T) (iy p) (de (cY p) p.m.dl) (de (cY p) p.start) (de (cY p) count) (de (cY p) (p.start+16+p.desc)) 0 0 (.Q .none 1 (bn fT)) (.Q .none 3 ((p.files.map (gS e)).map bg))) rfl ⟨E,E,E,E,E,E,E,E,E,E,E,E,E,E,E,aq.m7,ai⟩ ?_;refine go ?_;refine nf (α:=Unit) (λ_=>True) [1,2,4,6,7,8] [2,4,7,8,4102,4001] (λ_=>[(22,u (nr p count))]) (λ_=>[(6,.box ea (jI p.start count (ig p T) (iy p) (de (cY p) p.m.dl) (de (cY p) p.start) (de (cY p) count) (de (cY p) (p.start+16+p.desc)) (de (cY p) (lf p e fT)) (de (cY p) (nr p count-lf p e fT)) (.Q .none 1 (bn fT)) (.Q .none 3 ((p.files.map (gS e)).map bg))))]) ?_ ?_;refine cb (t:=cY p) ?_ ?_<;>intro dO;refine go ?_;have X:∀x,de (cY p) x=x:=λx=>atH dO;exact gp () [(2,2),(4,4),(7,7),(8,8),(4102,4102),(4001,4001),(6,6)] trivial (by rw[X (lf p e fT),X (nr p count-lf p e fT),nr,atH dO];exact⟨cH,rfl,cH⟩);refine go ?_;have X:∀x,de (cY p) x=0:=λx=>atG (by rw[dO];decide);exact gp () [(2,2),(4,4),(7,7),(8,8),(4102,4102),(4001,4001),(6,6)] trivial (by rw[X (lf p e fT),X (nr p count-lf p e fT),nr,atG (by rw[dO];decide)];exact⟨cH,rfl,cH⟩);intro _ _;(have BM:lB (iz p count)=.agg (jI p.start count (ig p T) (iy p) (de (cY p) p.m.dl) (de (cY p) p.start) (de (cY p) count) (de (cY p) (p.start+16+p.desc)) (de (cY p) (lf p e fT)) (de (cY p) (nr p count-lf p e fT)) (.Q .none 1 (bn fT)) (.Q .none 3 ((p.files.map (gS e)).map bg))):=by unfold lB iz;simp only[Pc,l8,ajR]);have ajT:=ajH (B:=B) T A4 147 [.box 4101 cc 0] _ _ (λk=>decide (k<p.free)) (λk X=>ajG p k cn cc b8);by_cases g5:e.a<=nr p count;(·(have Ab:oZ p count=!(T.any λk=>decide (k<p.free)):=by unfold oZ;simp only[Pc,l8,auM g5];first|done|rfl);rw[BM,Ab];have aT:=auM g5;have ax:true=true:=rfl;refine go ?_;refine' eR [(2,.box cc [.box 4102 b8 0]),(4,.box cP rj),(6,.box ea (jI p.start count (ig p T) (iy p) (de (cY p) p.m.dl) (de (cY p) p.start) (de (cY p) count) (de (cY p) (p.start+16+p.desc)) (de (cY p) (lf p e fT)) (de (cY p) (nr p count-lf p e fT)) (.Q .none 1 (bn fT)) (.Q .none 3 ((p.files.map (gS e)).map bg)))),(7,.box y [.Q .none 1 (bn T)]),(8,.box cF [u e.a]),(4102,.box b8 (fo p cn)),(4001,.mp cn (bs bg p.aR))] () (λ_:Unit=>[_,_,_,.bool true,.bool true,_,_,.bool (T.any λk=>decide (k<p.free)),.bool (!(T.any λk=>decide (k<p.free))),.bool (!(T.any λk=>decide (k<p.free))),.any,_]) (λ_=>[(10,4,some (.box cP (jI p.start count (ig p T) (iy p) (de (cY p) p.m.dl) (de (cY p) p.start) (de (cY p) count) (de (cY p) (p.start+16+p.desc)) (de (cY p) (lf p e fT)) (de (cY p) (nr p count-lf p e fT)) (.Q .none 1 (bn fT)) (.Q .none 3 ((p.files.map (gS e)).map bg)))))]) [0,0,0,6,14,30,30,126,254,510,255,2047] [(10,4)] ?_ ?_;rotate_left 6;refine dC ?_;refine⟨λy=>.inl (aq.of_eq (atI D.bool aT)),dC ?_⟩;refine⟨λy=>⟨_,_,rfl,rfl,.inl ⟨rfl,.inr (.inr (af.ET rfl [.Q .none 1 (bn T),.fn (.func 147) [] [.box 4101 cc 0]] [(4101,2),(4102,4102)] r3 ajT rfl ⟨E,aq.fn trivial ⟨aq.box,ai⟩,ai⟩ (cz ())))⟩⟩,dC ?_⟩;refine Go.bS.cp.vs ?_;exact trivial;intro _;(conv=>whnf);refine go ?_;refine⟨.bl [.agg (jI p.start count (ig p T) (iy p) (de (cY p) p.m.dl) (de (cY p) p.start) (de (cY p) count) (de (cY p) (p.start+16+p.desc)) (de (cY p) (lf p e fT)) (de (cY p) (nr p count-lf p e fT)) (.Q .none 1 (bn fT)) (.Q .none 3 ((p.files.map (gS e)).map bg))),.bool (!(T.any λk=>decide (k<p.free)))],?_,rfl,cP,_,rfl,ba⟩;exact⟨rfl,E,E,ai⟩);(have Ab:oZ p count=false:=by unfold oZ;simp only[l8,aug g5];first|done|rfl);rw[BM,Ab];have aT:=aug g5;have ax:false=false:=rfl;refine go ?_;refine' eR [(2,.box cc [.box 4102 b8 0]),(4,.box cP rj),(6,.box ea (jI p.start count (ig p T) (iy p) (de (cY p) p.m.dl) (de (cY p) p.start) (de (cY p) count) (de (cY p) (p.start+16+p.desc)) (de (cY p) (lf p e fT)) (de (cY p) (nr p count-lf p e fT)) (.Q .none 1 (bn fT)) (.Q .none 3 ((p.files.map (gS e)).map bg)))),(7,.box y [.Q .none 1 (bn T)]),(8,.box cF [u e.a]),(4102,.box b8 (fo p cn)),(4001,.mp cn (bs bg p.aR))] () (λ_:Unit=>[_,_,_,.bool false,.bool false,.undef,.undef,.undef,.mn false (.bool false),.bool false,.any,_]) (λ_=>[(10,4,some (.box cP (jI p.start count (ig p T) (iy p) (de (cY p) p.m.dl) (de (cY p) p.start) (de (cY p) count) (de (cY p) (p.start+16+p.desc)) (de (cY p) (lf p e fT)) (de (cY p) (nr p count-lf p e fT)) (.Q .none 1 (bn fT)) (.Q .none 3 ((p.files.map (gS e)).map bg)))))]) [0,0,0,6,14,30,30,126,254,510,255,2047] [(10,4)] ?_ ?_;rotate_left 4;refine dC ?_;refine⟨λy=>.inl (aq.of_eq (atI D.bool aT)),dC ?_⟩;refine⟨λy=>⟨_,_,rfl,rfl,.inr (.inl ⟨rfl,rfl,aq.u7⟩)⟩,dC ?_⟩;refine⟨λy=>.inl ?_,dC ?_⟩;(conv=>whnf);refine⟨(λ_ h=>by cases h),?_⟩;(conv=>whnf);exact E;refine Go.bS.cp.vs ?_;exact trivial;intro _;(conv=>whnf);refine go ?_;refine⟨.bl [.agg (jI p.start count (ig p T) (iy p) (de (cY p) p.m.dl) (de (cY p) p.start) (de (cY p) count) (de (cY p) (p.start+16+p.desc)) (de (cY p) (lf p e fT)) (de (cY p) (nr p count-lf p e fT)) (.Q .none 1 (bn fT)) (.Q .none 3 ((p.files.map (gS e)).map bg))),.bool false],?_,rfl,cP,_,rfl,ba⟩;exact⟨rfl,E,E,ai⟩
def rk:mK:=⟨0,0,0,0,0,false,0,0,0,0,0,[],0,0,0,[]⟩
def za(p:dr)(n:Nat):Option Nat:=(List.range n).find? λi=>oZ p ((i:Int)+1)
def sp(p:dr)(cap:Int):mK×Int:=match za p (cap-p.start).toNat with
 |some i=>(iz p ((i:Int)+1),0)
 |none=>(rk,12)
variable{i:Nat}
theorem ajU{p:dr}{n:Nat}(hi:i<n)(h:oZ p ((i:Int)+1)=true)(al:∀j,j<i->oZ p ((j:Int)+1)=false):za p n=some i:=by unfold za;rw[awe];exact⟨h,auY.2 hi,λj Z=>by rw[al j Z];rfl⟩
theorem ajV{p:dr}{n:Nat}(al:∀j,j<n->oZ p ((j:Int)+1)=false):za p n=none:=by unfold za;rw[avi];intro x F;rw[al x (auY.1 F)];decide
theorem Xy(p:dr)(au:A3 p)(cap:Int)(hS:0<=cap)(eZ:cap<=4096)(b8 cn:Nat):cV B 62 [.box 4102 b8 0,u cap] (aK [(4102,.box b8 (fo p cn)),(4001,.mp cn (bs bg p.aR))]) λd aM=>d=.bl [lB (sp p cap).1,u (sp p cap).2]/\∃cP aA,aM=aK [(4102,.box b8 (fo p cn)),(4001,.mp cn (bs bg p.aR)),(4,.box cP aA)]:=by refine jW Tryz.func62 Tryz.ntmps62 λU=>?_;have nl:=au;obtain⟨hg,kg,_⟩:=nl;refine go ?_;intro cP;refine go ?_;refine Y.ed (α:={i:Nat // i<=(cap-p.start).toNat/\∀j,j<i->oZ p ((j:Int)+1)=false}) (λx=>[(0,.box 4102 b8 0),(1,u cap),(4,.box 4 cP 0),(6,u ((x.1:Int)+1))]) (λx=>[(4102,.box b8 (fo p cn)),(4001,.mp cn (bs bg p.aR)),(4,.box cP rj)]) (λx=>(cap-p.start).toNat-x.1) ⟨0,by omega,λj h=>by omega⟩ [(4102,4102),(4001,4001),(4,4)] ⟨ar,rfl,ba⟩ ?_;rintro⟨i,hi,al⟩;dsimp only at hi al⊢;refine go ?_;refine aJ (decide ((i:Int)+1<=cap-p.start)) rfl ?_ ?_<;>intro hc;refine go ?_;have Jz:(i:Int)+1<=cap-p.start:=auc hc;refine go ?_;refine .inr (af.call rfl [.box 4102 b8 0,u ((i:Int)+1)] [(4102,4102),(4001,4001)] (c8.xq rfl rfl (ajL p au ((i:Int)+1) atv atv b8 cn)) rfl ar ?_);rintro d aM ⟨rfl,cx,arX,rfl⟩;refine p7 ?_;intro dJ;refine go ?_;refine aJ (oZ p ((i:Int)+1)) rfl ?_ ?_<;>intro bw;apply en;have C9:=ajU (p:=p) (n:=(cap-p.start).toNat) atv bw al;apply kF;apply cD;refine ez ?_;(have xp:sp p cap=(iz p ((i:Int)+1),0):=by rw[sp,C9]);rw[xp];refine Y.gU [(4,.box 4 cP 0),(5,u 0)] [(4102,.box b8 (fo p cn)),(4001,.mp cn (bs bg p.aR)),(4,.box cP (lB (iz p ((i:Int)+1))).cells)] [(4102,4102),(4001,4001),(4,4)] ⟨ar,rfl,ba⟩ ?_;refine go ?_;refine⟨.bl [lB (iz p ((i:Int)+1)),u 0],?_,rfl,cP,_,rfl⟩;refine go ?_;exact ar;refine go ?_;exact⟨⟨i+1,by omega,λj Z=>by by_cases fc:j=i;subst fc;exact bw;exact al j atv⟩,[(4102,4102),(4001,4001),(4,4)],by show(cap-p.start).toNat-(i+1)<(cap-p.start).toNat-i;omega,⟨E,E,E,dp (by show _=(((i+1:Nat)):Int)+1;omega),ai⟩,rfl,ba⟩;have Jz:¬(i:Int)+1<=cap-p.start:=at0 hc;have C9:=ajV (p:=p) (n:=(cap-p.start).toNat) (λj Z=>al j atv);refine Y.exit ?_;refine lm ?_;(have xp:sp p cap=(rk,12):=by rw[sp,C9]);rw[xp];refine Y.gU [(4,.box 4 cP 0),(5,u 12)] [(4102,.box b8 (fo p cn)),(4001,.mp cn (bs bg p.aR)),(4,.box cP rj)] [(4102,4102),(4001,4001),(4,4)] ⟨ar,rfl,ba⟩ ?_;refine go ?_;refine⟨.bl [lB rk,u 12],?_,rfl,cP,_,rfl⟩;refine go ?_;exact⟨aq.agg (a:=rj) (bv:=(lB rk).cells) ⟨E,E,E,E,E,E,E,E,E,E,E,aq.nil,E,E,E,aq.nil,ai⟩,E,ai⟩
def JA(p:dr)(f:eS):Bool:=bif !(bj p.aR f.path).isSome then f.data !=[]else false
def lK(p:dr)(l:List eS):List atE:=(l.filter (JA p)).map (·.path)
theorem ajW(p:dr){l:List eS}(h:i<l.length):lK p (l.take (i+1))=lK p (l.take i)++(if JA p l[i]=true then[l[i].path]else[]):=by rw[lK,atN h,au5,auo,<-lK,auP];split<;>rfl
theorem Gn(p:dr)(l:List eS):(lK p l).length<=l.length:=by rw[lK,atL];exact aun _ _
theorem Xz(p:dr)(du:p.files.length<1000000)(b8 cn:Nat):cV B 60 [.box 4102 b8 0] (aK [(4102,.box b8 (fo p cn)),(4001,.mp cn (bs bg p.aR))]) λd aM=>d=.Q .none 1 (aU (lK p p.files))/\aM=aK [(4102,.box b8 (fo p cn)),(4001,.mp cn (bs bg p.aR))]:=by refine jW Tryz.func60 Tryz.ntmps60 λU=>?_;apply b3;apply b3;refine gb ?_;(conv=>whnf);refine cT ?_;refine Y.own 3 1000 1 9 rfl (λw=>?_);refine go ?_;refine Y.ed (α:={i:Nat // i<=p.files.length}×Value) (λx=>[(0,.box 4102 b8 0),(3,.Q (.own 1000 x.2) 1 (aU (lK p (p.files.take x.1.1)))),(11,.Q .none 2 (p.files.map eb)),(12,u ((p.files.map eb).length:Nat)),(13,u x.1.1)]) (λx=>[(4102,.box b8 (fo p cn)),(4001,.mp cn (bs bg p.aR)),(1000,.own x.2 (aU (lK p (p.files.take x.1.1))).length 1 9)]) (λx=>p.files.length-x.1.1) (⟨0,by omega⟩,w) [(4102,4102),(4001,4001),(1000,1000)] ⟨ar,rfl,ba⟩ ?_;rintro⟨⟨i,hi⟩,w⟩;dsimp only at hi⊢;refine go ?_;refine aJ (decide ((i:Int)<((p.files.map eb).length:Nat))) rfl ?_ ?_<;>intro hc;(·apply cl;(have aE:i<p.files.length:=by simpa using hc);have h9:=Ju aE;have cW:=ajW p aE;have nM:=Gn p (p.files.take i);rw[at4]at nM;generalize lK p (p.files.take i)=L at*;generalize p.files[i]=sq at*;(have fg:(aU L).length=L.length:=by simp[aU]);refine gK ?_;refine⟨λ_=>by rw[atL];omega,?_⟩;(conv=>whnf);refine⟨eb sq,λ_=>h9,?_⟩;refine go ?_;intro cx;(conv=>whnf);refine cT ?_;apply en;refine Y.fd [(0,.box 4102 b8 0),(3,.Q (.own 1000 w) 1 (aU L)),(11,.Q .none 2 (p.files.map eb)),(12,u ((p.files.map eb).length:Nat)),(13,u (i:Int)),(5,.box 5 cx 0)] [(4102,.box b8 (fo p cn)),(4001,.mp cn (bs bg p.aR)),(1000,.own w (aU L).length 1 9),(5,.box cx (eb sq).cells)] [(4102,4102),(4001,4001),(1000,1000),(5,5)] ⟨ar,rfl,ba⟩ ?_;refine' eR (α:=Nat) [(4102,.box b8 (fo p cn)),(4001,.mp cn (bs bg p.aR)),(1000,.own w (aU L).length 1 9),(5,.box cx (eb sq).cells)] 0 (λq=>[_,_,_,_,_,_,.bl [bg ((bj p.aR sq.path).getD gq),.bool (bj p.aR sq.path).isSome],_,_,_,.box 6 q 0,.any,_]) (λq=>[(10,6,some (.box q ([.O [],u 0,u 0]))),(11,6,some (.box q ((bg ((bj p.aR sq.path).getD gq)).cells)))]) [0,1,3,7,0,16,63,127,255,255,0,1535,4095] [(10,6),(11,6)] ?_ ?_;rotate_left 10;refine dC ?_;refine bR (λq=>af.qt 4001 (dA:=9) (d9:=53) (enc:=bg) (V:=gq) rfl rfl rfl rfl rfl atD (λw C=>xu w C) (cz q)) ?_;refine wS ?_;exact trivial;intro q;(conv=>whnf);refine Y.fd [(0,.box 4102 b8 0),(3,.Q (.own 1000 w) 1 (aU L)),(11,.Q .none 2 (p.files.map eb)),(12,u ((p.files.map eb).length:Nat)),(13,u (i:Int)),(5,.box 5 cx 0),(7,.bool (bj p.aR sq.path).isSome)] [(4102,.box b8 (fo p cn)),(4001,.mp cn (bs bg p.aR)),(1000,.own w (aU L).length 1 9),(5,.box cx (eb sq).cells)] [(4102,4102),(4001,4001),(1000,1000),(5,5)] ⟨cH,rfl,cH⟩ ?_;refine go ?_;refine aJ (JA p sq) rfl ?_ ?_<;>intro bw;apply kF;refine ez ?_;refine nE ?_;refine⟨by show(_+1)*16<=_;omega,by show _+1<=_;omega,atC,λgQ=>?_⟩;refine go ?_;(have ak:aU L++[.O sq.path]=aU (lK p (p.files.take (i+1))):=by rw[cW,atH bw];simp[aU]);exact⟨(⟨i+1,aE⟩,gQ),[(4102,4102),(4001,4001),(1000,38)],ax_,⟨E,aq.kd ak,E,E,E,ai⟩,rfl,rfl,rfl,rfl,rfl,rfl,kG (by rw[<-ak];simp),ai⟩;refine go ?_;(have ak:L=lK p (p.files.take (i+1)):=by rw[cW,atG (by rw[bw];decide),auK]);exact⟨(⟨i+1,aE⟩,w),[(4102,4102),(4001,4001),(1000,1000)],ax_,⟨E,aq.kd (by rw[<-ak]),E,E,E,ai⟩,rfl,rfl,rfl,rfl,rfl,rfl,kG (by rw[<-ak]),ai⟩);(have cg:i=p.files.length:=by simp at hc;omega);subst cg;rw[atW];refine sS ?_;refine Y.gU [(2,.Q .none 1 (aU (lK p p.files)))] [(4102,.box b8 (fo p cn)),(4001,.mp cn (bs bg p.aR))] [(4102,4102),(4001,4001)] ⟨⟨aq.m7,ai⟩,rfl,ba⟩ ?_;exact ayD
def xx(p:dr):dr:={p with free:=p.start+66+2}
def iQ(p:dr)(s:Int×Int):dr:=if xv p=true then{p with free:=p.start+66+2,iso:=s.1,desc:=qf (he p.m)}else xx p
def eG(p:dr)(s aj:Int×Int):dr×Int :=
 if xv p=true/\s.2≠0 then(xx p,s.2)
 else if cY p=true then({iQ p s with dl:=aj.1},aj.2)else({iQ p s with free:=p.start+16+(iQ p s).desc},0)
theorem ajX(p:dr)(s:Int×Int)(h:0<=p.desc)(z:p.desc<=100):0<=(iQ p s).desc/\(iQ p s).desc<=100:=by unfold iQ;split;show 0<=qf _/\qf _<=100;unfold qf;split<;>split<;>omega;exact⟨h,z⟩
theorem XA(p:dr)(n:ad)(s aj:Int×Int)(h1:0<=p.start)(z:p.start<=4096)(aa:0<=p.desc)(aC:p.desc<=100)(po:p.m.gO.length<1000000)(be:xv p=true->aS B 30 [aH n,r9 (he p.m)] (.bl [u s.1,u s.2]))(fR:cY p=true->aS B 94 [aH n,u p.m.dl] (.bl [u aj.1,u aj.2]))(b8 cn:Nat):cV B 61 [.box 4102 b8 0,aH n] (aK [(4102,.box b8 (fo p cn))]) λd aM=>d=u (eG p s aj).2/\aM=aK [(4102,.box b8 (fo (eG p s aj).1 cn))]:=by refine jW Tryz.func61 Tryz.ntmps61 λU=>?_;refine ch ?_;intro eD;apply b3;(conv=>whnf);refine cT ?_;refine Y.l0 (α:={arY:Unit // ¬(xv p=true/\s.2≠0)}) (λx=>[(0,.box 4102 b8 0),(3,.box 3 eD 0)]) (λx=>[(4102,.box b8 (fo (iQ p s) cn)),(3,.box eD (aH n).cells)]) ?_ ?_;refine go ?_;refine br (r7 p.m.e3 0 aty) ?_;refine aJ (xv p) rfl ?_ ?_<;>intro hc;refine oO ?_;refine go ?_;refine br (T1 p.m po) ?_;refine br (be hc) ?_;refine aJ (s.2 !=0) rfl ?_ ?_<;>intro bw;refine ch ?_;(have hm:eG p s aj=(xx p,s.2):=by rw[eG,atH ⟨hc,by simpa using bw⟩]);rw[hm];refine Y.gU [(4,u s.2)] [(4102,.box b8 (fo (xx p) cn))] [(4102,4102)] ⟨ar,rfl,ba⟩ ?_;refine go ?_;exact⟨_,E,rfl,rfl⟩;refine go ?_;refine br (T1 p.m po) ?_;refine br (aec (he p.m)) ?_;exact⟨⟨(),λh=>h.2 (by simpa using bw)⟩,[(4102,4102),(3,3)],ar,rfl,rfl,(atI (λq=>some (aI.box b8 (fo q cn))) (show({p with free:=p.start+66+2,iso:=s.1,desc:=qf (he p.m)}:dr)=iQ p s from(atH hc).symm)),rfl,ba⟩;refine go ?_;exact⟨⟨(),λh=>by rw[hc]at h;cases h.1⟩,[(4102,4102),(3,3)],ar,rfl,rfl,(atI (λq=>some (aI.box b8 (fo q cn))) (show xx p=iQ p s from(atG (by rw[hc];decide)).symm)),rfl,ba⟩;rintro⟨_,aX⟩;have r6:=ajX p s aa aC;(have bT:(iQ p s).m=p.m:=by unfold iQ xx;split<;>rfl);(have b0:(iQ p s).start=p.start:=by unfold iQ xx;split<;>rfl);(have Pg:cY p=hX (iQ p s).m.e3 3:=by rw[bT];rfl);generalize xy:iQ p s=hU at*;refine go ?_;refine br (r7 hU.m.e3 3 aty) ?_;refine aJ (!hX hU.m.e3 3) rfl ?_ ?_<;>intro hc;apply en;refine Y.BK aL 11 mixed atA ?_;apply cD;refine g_ ?_;apply cD;refine g_ ?_;apply cD;refine ch ?_;(have ao:¬cY p=true:=by rw[Pg];simpa using hc);(have hm:eG p s aj=({hU with free:=hU.start+16+hU.desc},0):=by rw[eG,atG aX,atG ao,xy,<-b0]);rw[hm];refine Y.gU [(4,u 0)] [(4102,.box b8 (fo {hU with free:=hU.start+16+hU.desc} cn))] [(4102,4102)] ⟨ar,rfl,ba⟩ ?_;refine go ?_;exact⟨_,E,rfl,rfl⟩;apply cl;(have ao:cY p=true:=by rw[Pg];simpa using hc);have XB:=fR ao;rw[<-bT]at XB;refine oO ?_;refine go ?_;refine⟨[aH n,u hU.m.dl],_,λ_=>XB,ar,?_⟩;refine jb ?_;refine ch ?_;(have hm:eG p s aj=({hU with dl:=aj.1},aj.2):=by rw[eG,atG aX,atH ao,xy]);rw[hm];refine Y.gU [(4,u aj.2)] [(4102,.box b8 (fo {hU with dl:=aj.1} cn))] [(4102,4102)] ⟨ar,rfl,ba⟩ ?_;exact ayD
variable{e9:Nat}
theorem _root_.Go.bS.c8.JB{H:bF}{ce:Nat}(h1:H e9=some c9)(hc:cV B f ds (aK [(ce,c9)]) a6):cV B f ds (gA H [(ce,e9)]) a6:=by(have e:gA H [(ce,e9)]=aK [(ce,c9)]:=by funext j;simp only[gA,aK];cases Nat.beq j ce with|true=>exact h1|false=>rfl);rw[e];exact hc
theorem ajY(f:eS)(g:cM)(b:Nat):cV B 90 [eb f,.box 4101 b 0] (aK [(4101,.box b (bg g).cells)]) λd aM=>d=.bool (f.path==g.path)/\aM=aK [(4101,.box b (bg g).cells)]:=by refine jW Tryz.func90 Tryz.ntmps90 λU=>?_;refine ch ?_;intro cc;refine jb ?_;refine ez ?_;refine Y.gU [(3,.bool (f.path==g.path))] [(4101,.box b (bg g).cells)] [(4101,4101)] ⟨ar,rfl,ba⟩ ?_;exact ayC
theorem ajZ(T:List eS)(hT:T.length<1000000)(b6:Nat)(cq:List D)(c9:aI)(p:eS->Bool)(nl:∀k∈T,cV B b6 (eb k::cq) (aK [(4101,c9)]) λd aM=>d=.bool (p k)/\aM=aK [(4101,c9)]):cV B 89 [.Q .none 2 (T.map eb),.fn (.func b6) [] cq] (aK [(4101,c9)]) λd aM=>d=u (fe p T)/\aM=aK [(4101,c9)]:=by refine jW Tryz.func89 Tryz.ntmps89 λU=>?_;apply b3;refine nF ?_;refine Y.ed (α:={i:Nat // i<=T.length/\∀j (h:j<T.length),j<i->p (T[j])=false}) (λx=>[(0,.Q .none 2 (T.map eb)),(1,.fn (.func b6) [] cq),(7,u (T.map eb).length),(8,u x.1)]) (λ_=>[(4101,c9)]) (λx=>T.length-x.1) ⟨0,by simp⟩ [(4101,4101)] ⟨ar,rfl,ba⟩ ?_;rintro⟨i,hi,au⟩;dsimp only;apply b3;apply en;refine aJ (decide ((i:Int)<(T.map eb).length)) rfl ?_ ?_<;>intro hc;apply cl;(have aE:i<T.length:=by simpa using hc);refine kc ?_;apply b3;refine qU ?_;refine .inl ⟨λ_=>by rw[atL];omega,?_⟩;(conv=>whnf);refine .inl ⟨eb T[i],λ_=>Ju aE,?_⟩;(conv=>whnf);refine .inr (af.call rfl (eb T[i]::cq) [(4101,4101)] (c8.JB rfl (nl T[i] (atK aE))) rfl ⟨E,dL.refl _⟩ ?_);rintro d aM ⟨rfl,rfl⟩;refine⟨_,E,?_⟩;refine aJ (p T[i]) rfl ?_ ?_<;>intro hc;refine ch ?_;refine Y.gU [(4,u (fe p T))] [(4101,c9)] [(4101,4101)] ⟨⟨dp (z6 (p:=p) aE au hc).symm,ai⟩,rfl,ba⟩ ?_;(conv=>whnf);exact⟨_,E,rfl,rfl⟩;refine rU ?_;exact⟨⟨i+1,aE,λj h Z=>ax9⟩,[(4101,4101)],ayr,ar,rfl,ba⟩;(have cg:i=T.length:=by simp at hc;omega);refine sS ?_;refine Y.gU [(4,u (fe p T))] [(4101,c9)] [(4101,4101)] ⟨⟨dp (z7 (p:=p) λj h=>au j h atv).symm,ai⟩,rfl,ba⟩ ?_;exact ayC
def C_(n:Int):Bool:=bif decide (0<=n)then decide (n<4294967296)else false
theorem aj0(n:Int):aS B 288 [u n] (.bool (C_ n)):=by refine bB Tryz.func288 Tryz.ntmps288 λU=>?_;apply b3;apply b3;refine iq ?_;refine iJ ?_;exact E
theorem aj1(e:f2):aS B 287 [kN e] (.bool (!C_ e.rh)):=by refine bB Tryz.func287 Tryz.ntmps287 λU=>?_;refine ch ?_;intro dz;refine lm ?_;refine⟨[u e.rh],_,λ_=>aj0 e.rh,ar,?_⟩;refine iJ ?_;exact E
theorem aj2{l:List f2}(h:i<l.length):(dZ l)[Int.toNat (i:Int)]?=some (kN l[i]):=by simp[dZ,h]
theorem aj3(T:List f2)(hT:T.length<1000000)(b6:Nat)(p:f2->Bool)(nl:∀k∈T,aS B b6 [kN k] (.bool (p k))):aS B 327 [.Q .none 3 (dZ T),.fn (.func b6) [] []] (u (fe p T)):=by refine bB Tryz.func327 Tryz.ntmps327 λU=>?_;apply b3;refine nF ?_;refine Y.ed (α:={i:Nat // i<=T.length/\∀j (h:j<T.length),j<i->p (T[j])=false}) (λx=>[(0,.Q .none 3 (dZ T)),(1,.fn (.func b6) [] []),(7,u (dZ T).length),(8,u x.1)]) (λ_=>[]) (λx=>T.length-x.1) ⟨0,by simp⟩ [] ⟨ar,rfl,ai⟩ ?_;rintro⟨i,hi,au⟩;dsimp only;apply b3;apply en;refine aJ (decide ((i:Int)<(dZ T).length)) rfl ?_ ?_<;>intro hc;apply cl;(have aE:i<T.length:=by simpa[dZ]using hc);refine kc ?_;refine pf ?_;refine⟨λ_=>by simp[dZ];omega,?_⟩;(conv=>whnf);refine⟨kN T[i],λ_=>aj2 aE,?_⟩;(conv=>whnf);refine⟨[kN T[i]],_,λ_=>nl T[i] (atK aE),ar,?_⟩;refine aJ (p T[i]) rfl ?_ ?_<;>intro hc;refine gm ?_;exact dp (z6 (p:=p) aE au hc).symm;refine rU ?_;exact⟨⟨i+1,aE,λj h Z=>ax9⟩,[],ayr,ar,rfl,ai⟩;(have cg:i=T.length:=by simp[dZ]at hc;omega);refine qT ?_;exact dp (z7 (p:=p) λj h=>au j h atv).symm
theorem aj4(T:List f2)(hT:T.length<1000000)(b6:Nat)(p:f2->Bool)(nl:∀k∈T,aS B b6 [kN k] (.bool (p k))):aS B 286 [.Q .none 3 (dZ T),.fn (.func b6) [] []] (.bool (decide (0<=fe p T))):=by refine bB Tryz.func286 Tryz.ntmps286 λU=>?_;refine pf ?_;refine⟨[.Q .none 3 (dZ T),.fn (.func b6) [] []],_,λ_=>aj3 T hT b6 p nl,ar,?_⟩;refine iJ ?_;exact E
end Go.bS.cp

namespace Go.bS
open Go Go.RowKit
variable{P:Program}{B:World}{am:Nat}{A:aw}{dst:Option Tmp}{x:Operand}{v:Value}{xs:List D}{k e i:Nat}
theorem af.rl{K:aw->Prop}(s:Nat){m:Nat}(F:A.a8 x=.an (h_ v m))(hs:A.H s=some (.row v xs k e))(hi:i<xs.length)(hK:K (A.put dst (.an (h_ v m)))):af P B am A dst (.nilCheck x) K :=
 .val λU w C a M type pos after=>by
  have W:=cr M.tmps x;rw[F]at W
  obtain⟨b,cap,vs,rfl,_⟩:=kx.pos (i:=i) (M.heap.b' s _ hs) hi;refine⟨_,w,C,A,_,?_,M,.an _,hK⟩;simp[execOp,W.fL,h_]
end Go.bS
namespace Go.bS.cp
open Go Go.Proofs
variable{B:World}
def nT(id:atE)(dm:Int)(lv:Value)(a1 lL:Int):D:=.agg [.O id,u dm,.an lv,u a1,u lL]
def f3(cs:atE->ad×Int)(n:ad)(bP:List atE):List (atE×ad):=bP.foldl (λm p=>fC m p (cs p).1) [([47],n)]
variable{i:Nat}
theorem aj5(cs:atE->ad×Int)(n:ad){bP:List atE}(h:i<bP.length):f3 cs n (bP.take (i+1))=fC (f3 cs n (bP.take i)) bP[i] (cs bP[i]).1:=by rw[f3,atN h,auU];rfl
def A5(dY bV bE:Nat)(o:f1)(n:ad)(ap:List (atE×ad)):List (Nat×aI):=[(4102,.box dY (dE o n bV bE).cells),(4103,.mp bV (bs aH ap)),(4104,.mp bE (bs bg []))]
theorem aj6(cs:atE->ad×Int)(n:ad)(o:f1)(bP:List atE)(al:bP.length<1000000)(it:aS B 96 [aH n] (.Q .none 1 (aU bP)))(lb:∀p∈bP,aS B 17 [aH n,.O p] (.bl [aH (cs p).1,u (cs p).2])):cV B 76 [Xo,aH n,.bh,r9 o] bF.none λd aM=>∃dY bV bE,d=.box 4102 dY 0/\aM=aK (A5 dY bV bE o n (f3 cs n bP)):=by refine jW Tryz.func76 Tryz.ntmps76 λU=>?_;refine ch ?_;intro cP;(conv=>whnf);intro cx;(conv=>whnf);intro dJ;refine nG ?_;apply cD;apply d_;apply cD;apply d_;apply cD;apply tY;refine af.ud (λem=>?_);apply d_;apply cD;apply tY;refine af.yj (af.xr 17 (dA:=9) (d9:=44) (enc:=aH) (l:=[]) (k:=[47]) (v:=n) rfl rfl rfl rfl rfl rfl ?_);apply d_;apply tY;refine af.ud (λrg=>?_);apply d_;apply d_;refine go ?_;intro sr;refine jy ?_;refine Y.fd [(2,.bh),(9,.box 22 sr 0),(5,.box 5 cx 0)] [(5,.box cx (aH n).cells),(17,.mp em (bs aH [([47],n)])),(20,.mp rg (bs bg [])),(22,.box sr (dE o n em rg).cells)] [(5,5),(17,17),(20,20),(22,22)] (by exact⟨ar,rfl,ba⟩) ?_;refine go ?_;refine br (it) ?_;refine Y.ed (α:={i:Nat // i<=bP.length}) (λx=>[(2,.bh),(9,.box 4102 sr 0),(5,.box 5 cx 0),(24,.Q .none 1 (aU bP)),(25,u ((aU bP).length:Nat)),(26,u ((x.1:Nat):Int))]) (λx=>[(5,.box cx (aH n).cells),(4102,.box sr (dE o n em rg).cells),(4103,.mp em (bs aH (f3 cs n (bP.take x.1)))),(4104,.mp rg (bs bg []))]) (λx=>bP.length-x.1) ⟨0,by omega⟩ [(5,5),(4102,22),(4103,17),(4104,20)] ⟨⟨E,aq.box,E,E,E,E,ai⟩,rfl,ba⟩ ?_;rintro⟨i,hi⟩;dsimp only at hi⊢;refine go ?_;refine aJ (decide ((i:Int)<((aU bP).length:Nat))) rfl ?_ ?_<;>intro hc;(·apply cl;(have aE:i<bP.length:=by simpa[aU]using hc);have cW:=aj5 cs n aE;have Fb:=lb bP[i] (atK aE);(have h9:(aU bP)[Int.toNat (i:Int)]?=some (.O bP[i]):=by simp[aU,aE]);generalize f3 cs n (bP.take i)=ap at*;generalize bP[i]=p at*;refine gK ?_;refine⟨λ_=>by simp[aU];omega,?_⟩;refine go ?_;refine⟨.O p,λ_=>h9,?_⟩;refine go ?_;have XC:=Fb;refine' eR (α:=Unit) [(5,.box cx (aH n).cells),(4102,.box sr (dE o n em rg).cells),(4104,.mp rg (bs bg [])),(4103,.mp em (bs aH ap))] () (λ_=>[_,_,_,_,_,_,_,.bl [aH (cs p).1,u (cs p).2],_,_,_,.any]) (λ_=>[(11,4103,some (.mp em (bs aH (fC ap p (cs p).1))))]) [0,1,3,7,0,0,0,96,224,480,480,1023] [(11,4103)] ?_ ?_;rotate_left 10;refine dC ?_;refine bR (λ_=>af.xr 4103 (dA:=9) (d9:=44) (enc:=aH) (l:=ap) (k:=p) (v:=(cs p).1) rfl rfl rfl rfl rfl rfl (d0 ())) ?_;exact trivial;intro _;(conv=>whnf);refine Y.fd [(2,.bh),(9,.box 4102 sr 0),(5,.box 5 cx 0),(24,.Q .none 1 (aU bP)),(25,u ((aU bP).length:Nat)),(26,u ((i:Nat):Int))] [(5,.box cx (aH n).cells),(4102,.box sr (dE o n em rg).cells),(4104,.mp rg (bs bg [])),(4103,.mp em (bs aH (fC ap p (cs p).1)))] [(5,5),(4102,4102),(4104,4104),(4103,4103)] ⟨cH,rfl,cH⟩ ?_;refine go ?_;exact⟨⟨i+1,aE⟩,[(5,5),(4102,4102),(4103,4103),(4104,4104)],by show bP.length-(i+1)<bP.length-i;omega,ar,rfl,rfl,rfl,rfl,rfl,rfl,atI (λV=>some (aI.mp em (bs aH V))) cW.symm,rfl,ba⟩);(have cg:i=bP.length:=by simp[aU]at hc;omega);subst cg;rw[atW];refine go ?_;refine Y.ed (α:=Unit) (λ_=>[(9,.box 4102 sr 0),(43,u 0),(44,u 0)]) (λ_=>A5 sr em rg o n (f3 cs n bP)) (λ_=>0) () [(4102,4102),(4103,4103),(4104,4104)] ⟨ar,rfl,ba⟩ ?_;rintro⟨⟩;apply b3;apply en;refine aJ _ rfl ?_ ?_<;>intro hc;exact absurd hc aty;refine sS ?_;refine Y.gU [(8,.box 4102 sr 0)] (A5 sr em rg o n (f3 cs n bP)) [(4102,4102),(4103,4103),(4104,4104)] ⟨ar,rfl,ba⟩ ?_;refine go ?_;exact⟨_,E,sr,em,rg,rfl,rfl⟩
end Go.bS.cp

namespace Go.bS.cp
open Go Go.Proofs
variable{B:World}
theorem aj7(aV:dc B)(v:Int)(J:List ad)(hlen:J.length<1000000)(jS:∀k∈J,k.name.length<1000000000):aS B 182 [u v,.Q .none 12 (J.map enc)] (.bl [.Q .none 1 (aU (ld v J).1),u (ld v J).2]):=by refine bB Tryz.func182 Tryz.ntmps182 λU=>?_;refine go ?_;intro bk;refine go ?_;refine br (Fl v) ?_;refine aJ _ rfl ?_ ?_<;>intro hc;refine go ?_;(have h1:kh v=false:=by simpa using hc);(have fG:ld v J=([],2):=by rw[ld,atH h1]);rw[fG];exact⟨aq.nil,E,ai⟩;refine go ?_;(have A6:kh v=true:=by simpa using hc);refine go ?_;refine aJ _ rfl ?_ ?_<;>intro hc;refine go ?_;(have h1:64<J.length:=by simp at hc;omega);(have fG:ld v J=([],7):=by rw[ld,atG (by rw[A6];simp),atH h1]);rw[fG];exact⟨aq.nil,E,ai⟩;refine go ?_;(have hx:J.length<=64:=by simp at hc;omega);refine go ?_;refine .inr (af.x_ aL (n:=J.length) (ce:=.i64) (dn:=.i64) (V:=u 0) rfl rfl rfl rfl rfl ?_ ?_ (by show 8*_<=_;omega) atv λgR=>?_);show D.int _ _=_;simp;show D.int _ _=_;simp;refine go ?_;refine Y.ed (α:={i:Nat // i<=J.length/\∀j,(Z:j<J.length)->j<i->dT J[j].name=true}) (λx=>[(0,u v),(3,.box 3 bk 0),(6,.an gR),(25,.Q .none 12 (J.map enc)),(26,u (J.map enc).length),(27,u x.1)]) (λx=>[(24,.row gR (es x.1++List.replicate (J.length-x.1) (u 0)) 1 3),(3,.box bk [.Q .none 12 (J.map enc)])]) (λx=>J.length-x.1) ⟨0,by omega,λj _ h=>absurd h (avf _)⟩ [(24,24),(3,3)] ⟨ar,rfl,ba⟩ ?_;rintro⟨i,hi,Gp⟩;dsimp only;refine go ?_;refine aJ _ rfl ?_ ?_<;>intro hc;refine fk ?_;(have aE:i<J.length:=by simpa using hc);(have dd:(es i).length=i:=by simp[es]);refine vm ?_;refine⟨aH J[i],λ_=>oe aE,?_⟩;refine go ?_;intro cF;refine go ?_;refine br (yE aV _ (jS _ (atK aE))) ?_;refine aJ _ rfl ?_ ?_<;>intro hc;refine go ?_;(have h1:CY J=false:=by rw[CY,List.all_eq_false];exact⟨J[i],atK aE,by simpa using hc⟩);(have fG:ld v J=([],4):=by rw[ld,atG (by rw[A6];simp),atG atv,atH h1]);rw[fG];exact⟨aq.nil,E,ai⟩;refine go ?_;(have aj8:dT J[i].name=true:=by simpa using hc);refine go ?_;refine .inr (af.ev aL 24 rfl rfl rfl rfl rfl rfl rfl atv (by simp[dd];omega) ?_);refine go ?_;refine .inr (af.nC aL 24 (i:=i) atB rfl rfl rfl (by simp[dd];omega) rfl ?_);refine go ?_;exact⟨⟨i+1,by omega,λj Z fc=>if e:j=i then by subst e;exact aj8 else Gp j Z atv⟩,[(24,24),(3,3)],by show _-(i+1)<_-i;omega,ar,rfl,rfl,atI (λV=>some (aI.row gR V 1 3)) (N4 aE _),rfl,ba⟩;refine go ?_;(have cg:i=J.length:=by simp at hc;omega);(have dN:es i++List.replicate (J.length-i) (u 0)=es J.length:=by subst cg;simp);rw[dN];(have hE:∀k∈J,dT k.name=true:=λk X=>by obtain⟨j,Z,rfl⟩:=auh.1 X;exact Gp j Z atv);(have XD:CY J=true:=by rw[CY,auC];exact hE);refine go ?_;refine .inr (af.call rfl [.an gR,.fn (.func 254) [] [.box 2000 bk 0]] [(2001,24),(2000,3)] (aiI J hlen bk gR) rfl ⟨E,aq.fn trivial ⟨aq.box,ai⟩,ai⟩ ?_);rintro d aM ⟨rfl,L,hO,rfl⟩;refine rT ?_;refine Y.fd [(6,.an gR),(0,u v),(3,.box 3 bk 0)] [(24,.row gR (L.map encI) 1 3),(3,.box bk [.Q .none 12 (J.map enc)])] [(24,24),(3,3)] ⟨ar,rfl,ba⟩ ?_;refine Y.vv 24 6 rfl ?_;have aj9:=hO.len;refine go ?_;refine .inr (af.x_ aL (n:=J.length) (ce:=.i64) (dn:=.i64) (V:=.O []) rfl rfl rfl rfl rfl ?_ ?_ (by show 16*_<=_;omega) atv λdx=>?_);show D.int _ _=_;simp;show D.int _ _=_;simp;refine go ?_;refine .inr (af.makeMap λhz=>?_);refine go ?_;refine Y.ed (α:={t:Nat // t<=L.length/\∀j,(Z:j+1<L.length)->j+1<t->(J.getD L[j] default).name≠(J.getD L[j+1] default).name}) (λx=>[(0,u v),(3,.box 3 bk 0),(6,.Q .none 1 (L.map encI)),(48,.Q .none 1 (L.map encI)),(49,u (L.map encI).length),(50,u x.1),(9,.an dx),(10,.an (.map (some hz)))]) (λx=>[(46,.row dx (pH J.length L (tk v J L) x.1) 1 9),(47,.set hz (hl v ((kM J L).take x.1))),(3,.box bk [.Q .none 12 (J.map enc)])]) (λx=>L.length-x.1) ⟨0,by omega,λj _ h=>absurd h (avf _)⟩ [(46,46),(47,47),(3,3)] ⟨ar,rfl,rfl,atI (λV=>some (aI.row dx V 1 9)) aiD.symm,rfl,ba⟩ ?_;rintro⟨t,ax,XE⟩;dsimp only;refine go ?_;refine aJ _ rfl ?_ ?_<;>intro hc;refine fk ?_;(have lE:t<L.length:=by simpa using hc);have A7:L[t]<J.length:=hO.lt lE;(have t8:∀j,(Z:j<L.length)->(L.map encI)[j]?=some (.int .i64 (L[j]:Nat)):=λj Z=>by simp[encI,Z]);(have pb:∀j,j<J.length->(J.map enc)[j]?=some (aH (J.getD j default)):=λj Z=>by rw[oe Z];simp[List.getD,Z]);(have l2:J.getD L[t] default=J[L[t]]:=by simp[List.getD,A7]);(have oV:∀(h:0<t),J.getD (L.getD (t-1) 0) default=J.getD (L[t-1]' atv) default:=λh=>by simp[List.getD,show t-1<L.length by omega]);(have Ph:0<t->L.getD (t-1) 0<J.length:=λh=>by have:=hO.lt (t:=t-1) atv;simpa[List.getD,show t-1<L.length by omega]using this);refine gK ?_;refine nb ?_;refine⟨u (L[t]:Nat),λ_=>t8 t lE,?_⟩;refine Ex ?_;apply cD;apply g9;refine g_ ?_;refine hG ?_;refine⟨λh=>by simp at h;simp;omega,?_⟩;refine go ?_;refine⟨u ((L.getD (t-1) 0:Nat):Int),λh=>by(have h0:0<t:=by simpa using h);rw[w8 h0,t8 (t-1) atv];simp[List.getD,show t-1<L.length by omega],?_⟩;refine hG ?_;refine⟨λh=>by have:=Ph (by simpa using h);rw[atL];omega,?_⟩;refine go ?_;refine⟨aH (J.getD (L.getD (t-1) 0) default),λh=>pb _ (Ph (by simpa using h)),?_⟩;apply cD;refine hG ?_;refine oa ?_;refine hG ?_;refine⟨aH J[L[t]],λh=>oe A7,?_⟩;refine go ?_;refine aJ _ rfl ?_ ?_<;>intro hc;refine go ?_;(cases h0:decide ((0:Int)<t)with|false=>rw[h0]at hc;cases hc|true =>(have N5:0<t:=by simpa using h0);rw[h0]at hc;have bw:((J.getD (L.getD (t-1) 0) default).name==J[L[t]].name)=true:=hc;rw[oV N5,<-l2,avn]at bw;have N:=aiB hO (s:=t-1) (t:=t) atv lE bw;(have fG:ld v J=([],5):=by rw[ld,atG (by rw[A6];simp),atG atv,atG (by rw[XD];simp),atH N]);rw[fG];exact⟨aq.nil,E,ai⟩);refine fk ?_;(have EK:∀j,(Z:j+1<L.length)->j+1<t+1->(J.getD L[j] default).name≠(J.getD L[j+1] default).name:=λj Z arZ=>by by_cases e:j+1=t;subst e;intro h;(have h1:decide ((0:Int)<(j+1:Nat))=true:=by simp);rw[h1]at hc;have bw:((J.getD (L.getD (j+1-1) 0) default).name==J[L[j+1]].name)=false:=hc;rw[oV atv,<-l2,aur]at bw;exact bw h;exact XE j Z atv);have y2:=aiG hO (v:=v) lE;have wI:=aiE (g:=tk v J L) lE A7;have aj_:=WP hO;(have x8:hl v ((kM J L).take (t+1))=tk v J L L[t]::hl v ((kM J L).take t):=by rw[Ow atv,y2,OL hO lE]);(have Ov:(hl v ((kM J L).take t)).length=t:=by rw[tj];simp;omega);have Gp:=hE J[L[t]] (atK A7);have JC:=oe A7;have h7:=aiC (n:=J.length) (L:=L) (g:=tk v J L) (t:=t);generalize hl v ((kM J L).take t)=el at*;generalize pH J.length L (tk v J L) t=aj' at*;clear t8 oV Ph pb hc;generalize s1:J[L[t]]=k at*;generalize rZ:L[t]=fV at*;apply b3;refine mC ?_;refine⟨aH k,λ_=>JC,?_⟩;refine go ?_;refine aJ _ rfl ?_ ?_<;>intro hc;apply en;(have Pi:v=0\/v=1:=by cases h0:(v==0)with|true=>exact .inl (by simpa using h0)|false=>rw[h0]at hc;exact .inr (by simpa using hc));have jS:=I7 Gp;obtain⟨l,al,_,_,_,_⟩:=Jb Gp;have Ou:=Wn (B:=B) v k.name l (k.kind==0) atv al;have Ax:=Ot v k.name (k.kind==0);have l1:=CW v el (fS v k.name (k.kind==0)).1 (fS v k.name (k.kind==0)).2 atv;(have Gq:tk v J L fV=ko v (fS v k.name (k.kind==0)).1 (fS v k.name (k.kind==0)).2 (ti v el (fS v k.name (k.kind==0)).1 (fS v k.name (k.kind==0)).2):=by rw[y2,re,atH Pi];rfl);generalize(fS v k.name (k.kind==0)).1=a1 at*;generalize(fS v k.name (k.kind==0)).2=ck at*;generalize hK:ti v el a1 ck=K at*;apply kF;refine mC ?_;refine⟨aH k,λ_=>JC,?_⟩;refine go ?_;refine br (Ou) ?_;intro qq;refine go ?_;refine br (Jg v a1 ck 0 atv atv atv) ?_;refine Y.ed (α:={j:Nat // j<=K}) (λx=>[(0,u v),(3,.box 3 bk 0),(6,.Q .none 1 (L.map encI)),(48,.Q .none 1 (L.map encI)),(49,u (L.map encI).length),(50,u t),(9,.an dx),(10,.an (.map (some hz))),(12,u (fV:Nat)),(13,.O (ko v a1 ck x.1)),(14,.box 14 qq 0),(15,u ((x.1+1:Nat):Int))]) (λx=>[(46,.row dx aj' 1 9),(47,.set hz el),(3,.box bk [.Q .none 12 (J.map enc)]),(14,.box qq [.Q .none 1 (dy a1),.Q .none 1 (dy ck)])]) (λx=>K-x.1) ⟨0,by omega⟩ [(46,46),(47,47),(3,3),(14,14)] ⟨ar,rfl,ba⟩ ?_;rintro⟨j,Z⟩;dsimp only;refine go ?_;refine .inr (af.L' 47 (dA:=9) (d9:=4) rfl rfl atD rfl rfl rfl ?_);refine aJ _ rfl ?_ ?_<;>intro hc;refine go ?_;have AX:ko v a1 ck j∈el:=auc hc;(have F9:j<K:=axK);refine go ?_;refine br (Jg v a1 ck (j+1) atv atv atv) ?_;exact⟨⟨j+1,by omega⟩,[(46,46),(47,47),(3,3),(14,14)],by show K-(j+1)<K-j;omega,ar,rfl,ba⟩;refine go ?_;have AX:ko v a1 ck j∉el:=at0 hc;(have F9:j=K:=by rcases at5 j K with h|h;exact absurd (l1.2.2 j h) AX;omega);subst F9;refine go ?_;refine .inr (af.Ep 47 (dA:=9) (d9:=4) rfl rfl rfl rfl rfl rfl ?_);refine go ?_;refine .inr (af.ev aL 46 rfl rfl rfl rfl rfl rfl rfl atv (by rw[h7];omega) ?_);refine go ?_;refine .inr (af.nC aL 46 (i:=fV) atB rfl rfl rfl (by rw[h7];omega) rfl ?_);refine go ?_;exact⟨⟨t+1,by omega,EK⟩,[(46,46),(47,47),(3,3)],by show _-(t+1)<_-t;omega,ar,rfl,rfl,atI (λV=>some (aI.row dx V 1 9)) (by rw[<-Gq];exact wI),rfl,atI (λV=>some (aI.set hz V)) (by dsimp only;rw[x8,Gq]),rfl,ba⟩;(have Pi:¬(v=0\/v=1):=by rintro(rfl|rfl)<;>cases hc);(have Gq:tk v J L fV=k.name:=by rw[y2,re,atG Pi]);refine go ?_;refine .inr (af.Ep 47 (dA:=9) (d9:=4) rfl rfl rfl rfl rfl rfl ?_);refine go ?_;refine .inr (af.ev aL 46 rfl rfl rfl rfl rfl rfl rfl atv (by rw[h7];omega) ?_);refine go ?_;refine .inr (af.nC aL 46 (i:=fV) atB rfl rfl rfl (by rw[h7];omega) rfl ?_);refine go ?_;exact⟨⟨t+1,by omega,EK⟩,[(46,46),(47,47),(3,3)],by show _-(t+1)<_-t;omega,ar,rfl,rfl,atI (λV=>some (aI.row dx V 1 9)) (by rw[<-Gq];exact wI),rfl,atI (λV=>some (aI.set hz V)) (by dsimp only;rw[x8,Gq]),rfl,ba⟩;refine wT ?_;(have FR:t=L.length:=by simp at hc;omega);have mM:gP (kM J L):=aiy hO λj Z=>XE j Z atv;have mO:=aiA hO mM;(have fG:ld v J=(xn v J,0):=by rw[ld,atG (by rw[A6];simp),atG atv,atG (by rw[XD];simp),atG (by simp[mO])]);(have FS:pH J.length L (tk v J L) t=aU (xn v J):=by rw[FR];exact aiF hO λj Z=>aiH hO mM Z);rw[FS,fG];refine Y.fd [(9,.an dx)] [(46,.row dx (aU (xn v J)) 1 9)] [(46,46)] ⟨ar,rfl,ba⟩ ?_;exact ayb
end Go.bS.cp



namespace Go.bS.cp
open Go Go.Proofs
section
variable(aW:List ad->List atE)(v:Int)
end
variable{B:World}
theorem aka(q:List atE):(nR q).length<=(lH q).length:=by cases q with|nil=>exact atP _|cons m r=>simp[nR,lH]
theorem Pj{n:ad}{p:atE}(h:p∈dP n [] 1):p.length<=aB n:=by rw[OC]at h;obtain⟨q,I,rfl⟩:=at3.1 h;have:=WK q n I;have:=aka q;omega
end Go.bS.cp



