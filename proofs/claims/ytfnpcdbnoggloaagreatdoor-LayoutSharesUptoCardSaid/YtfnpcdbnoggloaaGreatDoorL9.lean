/- Contracts of the program's functions, part 9. No conditions of its own. -/
import Derived.Test.YtfnpcdbnoggloaaGreatDoorL8
set_option linter.unnecessarySimpa false
set_option linter.unusedSimpArgs false
set_option linter.unusedVariables false
set_option maxRecDepth 100000
set_option maxHeartbeats 16000000
namespace Go.bR.ck
open Go Go.Proofs
variable{B:World}
theorem apq{a b:List atG}(h:a.Perm b):mE a=mE b:=by(have aat:∀x y V:atG,decide (x<=y)=true->decide (y<=V)=true->decide (x<=V)=true:=λx y V h1 A=>by simp only[aut]at*;exact List.le_trans h1 A);(have aau:∀x y:atG,(decide (x<=y)||decide (y<=x))=true:=λx y=>by simp only[au5,aut];exact List.le_total x y);refine awf (le:=λx y:atG=>decide (x<=y)=true) (λx y _ _ h1 A=>?_) (awl aat aau a) (awl aat aau b) (((awJ a _).trans h).trans (awJ b _).symm);simp only[aut]at h1 A;exact List.le_antisymm h1 A
mutual
theorem aav:∀n:ad,oX n<=n.name.length+aC n
 |.mk a b c d e f g h i j ag cC=>by
  have h1:=aaw ag;have A:=lR (.mk a b c d e f g h i j ag cC);rw[oX];have Z:aC (.mk a b c d e f g h i j ag cC)=2+c.length+d.length+lQ cC+eG ag:=A;have aG:(ad.mk a b c d e f g h i j ag cC).name.length=a.length:=rfl;omega
theorem aaw:∀l:List ad,kz l<=eG l
 |[]=>atQ _
 |k::r=>by
  have h1:=aav k;have A:=aaw r;rw[kz];simp only[eG];omega
end
theorem aax(l:List atG)(al:l.length<1000000):aU B 58 [Dh l] (.Q .none 1 (aN (mE l))):=by cases l with|nil=>rw[show mE []=[] by simp[mE]];exact apk|cons a r=>exact aoF (a::r) aty al
noncomputable def wz(n:ad)(m:fv)(mp:List (atG×cP))(start:Int)(cW:List atG)(cap:Int):r4×Int:=rl (gF n m mp start cW) (jz (gM m) n) (iu n m.dp) cap
theorem KL(n:ad):(ch n).length<=fC n:=by unfold ch;have h:=avZ (h2 n) (if valid n then dR n [] 1 else[]);(have A:(if valid n then dR n [] 1 else[]).length<=fC n:=by split;rw[AK];exact atQ _;exact at4 _);omega
theorem Q2(a1:db B){n:ad}(m:fv)(aw:fr n)(M:qc n 100000=true):(aU B 30 [aE n,rX (gM m)] (.bp [u (jz (gM m) n).1,u (jz (gM m) n).2])/\0<=(jz (gM m) n).1/\(jz (gM m) n).1<=1000000000)/\aU B 94 [aE n,u m.dp] (.bp [u (iu n m.dp).1,u (iu n m.dp).2])/\0<=(iu n m.dp).1/\(iu n m.dp).1<=500000/\aC n<1000000:=by have hs:=CF M;have Mn:aC n+n.name.length<2200000:=aw;have cz:=aav n;have an:=app (B:=B) a1 M m.dp;refine⟨an9 a1 (gM m) n aw (λX=>?_),apd a1 n m.dp atw (λX=>⟨by omega,by have:=an.2.2 X;omega⟩),an.1,an.2.1,by omega⟩;(have aW:iJ n 1=true:=by rw[vW,atN]at X;exact X.2);have jG:=(Kp (auN 1) (Kq aW)).2.1;exact⟨by omega,by omega,by omega⟩
theorem Q3(a1:db B)(n:ad)(m:fv)(cW:List atG)(aV:List cP)(start cap:Int)(mp:List (atG×cP))(aw:fr n)(M:qc n 100000=true)(aW:aV.length<1000000)(l2:∀g∈aV,g.len<=9223372036854775807)(oN:m.gL.length<1000000)(hO:jA n m aV start=some mp)(fc:start<=cap)(bu:cap<=4096)(ay:cW.Perm (lq (gF n m mp start []) (ch n))): aU B 19 [aE n,ih m,.Q .none 1 (aN cW),.Q .none 3 (aV.map bl),u start,u cap] (.bp [lV (wz n m mp start cW cap).1,u (wz n m mp start cW cap).2]):=by obtain⟨⟨wv,dA,hV⟩,Q4,Ah,Ik,hsz⟩:=Q2 (B:=B) a1 m aw M;have dm:=KL n;have apr:=(CF M).2;have dg:=Jr (gF n m mp start []) (ch n);have gI:=ay.length_eq;exact aoc a1 n m cW aV start cap aw aW l2 atw oN atw mp hO atw atw (jz (gM m) n) (iu n m.dp) (λ_=>wv) (λ_=>Q4) (λh0=>Z1 aw hO atw ⟨dA,hV⟩ ⟨Ah,by omega⟩ h0 hsz) (mE cW) (mE (lq (gF n m mp start []) (ch n))) (λl=>aoE (aN l)) (aax cW atw) (aax _ atw) (by rw[mE,awz];omega) (by rw[mE,awz];omega) (by rw[apq ay];simp)
theorem aay(a1:db B)(n:ad)(m:fv)(aV:List cP)(start:Int)(mp:List (atG×cP))(aw:fr n)(M:qc n 100000=true)(aW:aV.length<1000000)(l2:∀g∈aV,g.len<=9223372036854775807)(oN:m.gL.length<1000000)(hO:jA n m aV start=some mp): aU B 20 [aE n,ih m,.Q .none 3 (aV.map bl),u start] (.bp [u (rk (hz n m mp start) (jz (gM m) n) (iu n m.dp)).1,u (rk (hz n m mp start) (jz (gM m) n) (iu n m.dp)).2]):=by obtain⟨⟨wv,dA,hV⟩,Q4,Ah,Ik,hsz⟩:=Q2 (B:=B) a1 m aw M;have dm:=KL n;have apr:=(CF M).2;have dg:=Jr (gF n m mp start []) (ch n);exact aoa a1 n m aV start aw aW l2 atw oN mp hO (jz (gM m) n) (iu n m.dp) (λ_=>wv) (λ_=>Q4) (λh0=>Z1 aw hO atw ⟨dA,hV⟩ ⟨Ah,by omega⟩ h0 hsz)
theorem Q5{az:List c0}{start:Int}:∀(l:List cP) (nA mp:List (atG×cP)),l.foldl (uP az start) (some nA)=some mp->∀p,(bK mp p).isSome=((bK nA p).isSome||l.any λg=>g.path==p)
 |[],nA,mp,h,p=>by simp at h;subst h;simp
 |g::l,nA,mp,h,p=>by rw[au0]at h;cases ah:uP az start (some nA) g with|none=>rw[ah,QC]at h;cases h|some m1 =>rw[ah]at h;have aZ:=Q5 l m1 mp h p;(have mq:m1=eD nA g.path g:=by unfold uP at ah;simp only[Option.bind_some]at ah;split at ah;cases ah;split at ah;cases ah;cases ah;rfl);rw[aZ,mq,my,awV];by_cases ay:p=g.path;subst ay;simp;rw[atH ay,show(g.path==p)=false from auA.2 λe=>ay e.symm];simp
variable{aV:List cP}{start:Int}{mp:List (atG×cP)}
theorem Q6{n:ad}{m:fv}(h:jA n m aV start=some mp):lq (gF n m mp start []) (ch n)=jB aV (ch n):=by(have cF:∀p,(bK mp p).isSome=aV.any λg=>g.path==p:=λp=>by unfold jA at h;split at h;cases h;have:=Q5 aV [] mp h p;rw[this];simp[bK]);unfold lq jB;congr 1;apply List.filter_congr;intro f _;have h1:Jq (gF n m mp start []) f=bif !(bK mp f.path).isSome then f.data !=[]else false:=rfl;rw[h1,cF,Di];have A:=El (λg:cP=>g.path==f.path) aV;cases ha:aV.any (λg=>g.path==f.path)with|true =>rw[ha]at A;have:0<=fd (λg:cP=>g.path==f.path) aV:=aua A;rw[auk atw];cases f.data !=[]<;>rfl|false =>rw[ha]at A;have:=at2 A;rw[auC atw];cases f.data !=[]<;>rfl
noncomputable def zl(n:ad)(m:fv)(aV:List cP)(start:Int):r4×Bool :=
 if(bif bif !tu n m [] aV then true else decide (start<0)then true else decide (1000<start))=true then(q9,false)
 else match jA n m aV start with
  |none=>(q9,false)
  |some mp=>((wz n m mp start (jB aV (ch n)) 4096).1,(wz n m mp start (jB aV (ch n)) 4096).2==0)
theorem aps(a1:db B)(n:ad)(m:fv)(aV:List cP)(start:Int)(aw:fr n)(hm:m.name.length+m.set.length+m.pl.length+m.pm.length+m.lP.length<1000000000)(aW:aV.length<1000000)(l2:∀g∈aV,g.len<=9223372036854775807)(oN:m.gL.length<1000000):
  aU B 14 [aE n,ih m,.Q .none 3 (aV.map bl),u start] (.bp [lV (zl n m aV start).1,.bool (zl n m aV start).2]):=by
 have aaz:=aoz (B:=B) n m [] aV aw hm
 have ik:zl n m aV start=if(bif bif !tu n m [] aV then true else decide (start<0)then true else decide (1000<start))=true then(q9,false)
  else match jA n m aV start with
   |none=>(q9,false)
   |some mp=>((wz n m mp start (jB aV (ch n)) 4096).1,(wz n m mp start (jB aV (ch n)) 4096).2==0):=rfl
 refine fn Tryz.func14 Tryz.ntmps14 λU=>?_;refine go ?_;intro cT
 (conv=>whnf)
 refine da ?_;intro cK
 (conv=>whnf)
 refine da ?_;intro cE
 (conv=>whnf)
 refine go ?_;refine bs aaz ?_;refine cb (t:=bif bif !tu n m [] aV then true else decide (start<0)then true else decide (1000<start)) ?_ ?_<;>intro hc
 ·rw[atI hc]at ik;rw[ik];refine go ?_;exact⟨QG,E,ak⟩
 rw[atH (by rw[hc];decide)]at ik
 have xL:tu n m [] aV=true/\0<=start/\start<=1000:=by
  cases h1:tu n m [] aV with
  |false=>rw[h1]at hc;cases hc
  |true =>
   rw[h1]at hc
   cases A:decide (start<0)with
   |true=>rw[A]at hc;cases hc
   |false =>
    rw[A]at hc;have:=at2 A;have:=at2 (show decide (1000<start)=false from hc);exact⟨rfl,by omega,by omega⟩
 have rF:qc n 100000=true:=by
  have h:=xL.1;unfold tu at h
  cases h1:qc n 100000 with
  |true=>rfl
  |false=>rw[h1]at h;cases h
 have L_:=(CF rF).2
 have aaA:=aow (B:=B) n aV aw aW (λp ay=>by
  split at ay
  ·have:=OZ ay;have:aC n<2200000:=by have:=aw;unfold fr at this;omega
   omega
  ·cases ay) (by
  split
  ·rw[AK];omega
  simp)
 have dm:=KL n
 obtain⟨KM,FU,E0,aaB⟩:∃KM FU,zl n m aV start=(KM,FU==0)/\aU B 19 [aE n,ih m,.Q .none 1 (aN (jB aV (ch n))),.Q .none 3 (aV.map bl),u start,u 4096] (.bp [lV KM,u FU]):=by
  cases ah:jA n m aV start with
  |none =>
   rw[ah]at ik;have dg:=Z6 aV (ch n);exact⟨q9,1,ik,aog a1 n m (jB aV (ch n)) aV start 4096 aw aW l2 atw ah⟩
  |some mp =>
   rw[ah]at ik;exact⟨_,_,ik,Q3 a1 n m (jB aV (ch n)) aV start 4096 mp aw rF aW l2 oN ah atw atw (by rw[Q6 ah])⟩
 rw[E0];have apt:=k_.mk aaA;have apu:=k_.mk aaB;clear aaA aaB aaz;refine go ?_;refine' eH [(4,.box cT (aE n).cells),(5,.box cK (ih m).cells),(8,.box cE q7)] 0 (λy=>[_,_,_,_,_,_,_,_,_,_,_,.box 10 y 0,.any,_]) (λy=>[(11,10,some (.box y q7)),(12,10,some (.box y (lV KM).cells))]) [0,0,0,0,12,0,0,127,255,511,511,0,3071,8191] [(11,10),(12,10)] ?_ ?_
 rotate_left 12
 ·refine dw ?_;refine⟨λy=>.inl ?_,dw ?_⟩
  ·(conv=>whnf)
   refine⟨_,_,λ_=>apt.cr,i1,?_⟩;exact E
  refine⟨λy=>.inl ?_,?_⟩
  ·(conv=>whnf)
   refine⟨_,_,λ_=>apu.cr,i1,?_⟩;exact E
  refine dw ?_;refine Ej ?_;refine vs ?_;exact trivial
 intro jR
 (conv=>whnf)
 refine go ?_;exact ar
theorem aaC(p:dl)(s aj:Int×Int):(eL p s aj).1.start=p.start/\(eL p s aj).1.files=p.files/\(eL p s aj).1.cW=p.cW/\(eL p s aj).1.aV=p.aV/\(eL p s aj).1.m=p.m/\((eL p s aj).1.dp=aj.1\/(eL p s aj).1.dp=p.dp):=by unfold eL;split;exact⟨rfl,rfl,rfl,rfl,rfl,.inr rfl⟩;(have A:(ja p s).start=p.start/\(ja p s).files=p.files/\(ja p s).cW=p.cW/\(ja p s).aV=p.aV/\(ja p s).m=p.m/\(ja p s).dp=p.dp:=by unfold ja;split<;>exact⟨rfl,rfl,rfl,rfl,rfl,rfl⟩);split;exact⟨A.1,A.2.1,A.2.2.1,A.2.2.2.1,A.2.2.2.2.1,.inl rfl⟩;exact⟨A.1,A.2.1,A.2.2.1,A.2.2.2.1,A.2.2.2.2.1,.inr A.2.2.2.2.2⟩
structure aaD (n:ad) (m:fv) (aV:List cP) (start:Int) (l:r4):Prop where
 apv:tu n m [] aV=true
 gl:0<=start
 fa:start<=1000
 cp:∃mp P i,jA n m aV start=some mp/\eL (hz n m mp start) (jz (gM m) n) (iu n m.dp)=(P,0)/\P.start=start/\i<(4096-start).toNat/\nF P ((i:Int)+1)=true/\(∀j,j<i->nF P ((j:Int)+1)=false)/\l=xo P ((i:Int)+1)
variable{i:Nat}
theorem aaE{p:dl}{n:Nat}(h:xq p n=some i):i<n/\nF p ((i:Int)+1)=true/\∀j,j<i->nF p ((j:Int)+1)=false:=by unfold xq at h;rw[awg]at h;exact⟨avg.1 h.2.1,h.1,λj aa=>by have:=h.2.2 j aa;simpa using this⟩
theorem apw{n:ad}{m:fv}{aV:List cP}{start:Int}(h:(zl n m aV start).2=true):aaD n m aV start (zl n m aV start).1:=by unfold zl at h⊢;split at h;cases h;rename_i hc;rw[atH hc];(have xL:tu n m [] aV=true/\0<=start/\start<=1000:=by(have oa:(bif bif !tu n m [] aV then true else decide (start<0)then true else decide (1000<start))=false:=by simpa using hc);cases h1:tu n m [] aV with|false=>rw[h1]at oa;cases oa|true =>rw[h1]at oa;(cases A:decide (start<0)with|true=>rw[A]at oa;cases oa|false =>rw[A]at oa;have:=at2 A;have:=at2 (show decide (1000<start)=false from oa);exact⟨rfl,by omega,by omega⟩));cases ah:jA n m aV start with|none=>rw[ah]at h;cases h|some mp =>rw[ah]at h;dsimp only at h⊢;(have f7:gF n m mp start (jB aV (ch n))=hz n m mp start:=by rw[hz,Q6 ah]);(have F:wz n m mp start (jB aV (ch n)) 4096=rl (hz n m mp start) (jz (gM m) n) (iu n m.dp) 4096:=by rw[wz,f7]);rw[F]at h⊢;have Y:=aaC (hz n m mp start) (jz (gM m) n) (iu n m.dp);unfold rl at h⊢;split at h;rename_i hm;rw[atI hm];have yS:(eL (hz n m mp start) (jz (gM m) n) (iu n m.dp)).1.start=start:=Y.1;generalize gk:eL (hz n m mp start) (jz (gM m) n) (iu n m.dp)=apx at*;obtain⟨P,e⟩:=apx;dsimp only at hm yS h⊢;subst hm;unfold q_ at h⊢;rw[yS]at h⊢;(cases xr:xq P (4096-start).toNat with|none=>rw[xr]at h;cases h|some i =>obtain⟨h1,A,Z⟩:=aaE xr;exact⟨xL.1,xL.2.1,xL.2.2,mp,P,i,ah,gk,yS,h1,A,Z,rfl⟩);rename_i hm;exfalso;have:((eL (hz n m mp start) (jz (gM m) n) (iu n m.dp)).2==0)=true:=h;exact hm (by simpa using this)
def wA(aj:List Bool)(n:Nat):Prop:=∀j,j<n->aj[j]?=some true
variable{k:Nat}
theorem apy{aj:List Bool}{n:Nat}(h:wA aj n):wA (aj.set k true) n:=λj aa=>by
 rw[avO];split
 ·rename_i e;subst e
  have:=aun.1 (h k aa);rw[atI this.1]
 exact h j aa
theorem apz{aj:List Bool}(h:wA aj k)(Y:k<aj.length):wA (aj.set k true) (k+1):=λj aa=>by
 rw[avO];split
 ·first|rfl|rw[atI atw]
 exact h j atw
theorem apA{aj:List Bool}{bD:Nat}(an:aj.length=bD)(h:wA aj bD):aj=List.replicate bD true:=au4 λj=>by
 by_cases aa:j<bD
 ·rw[h j aa,av2,atI aa]
 rw[atW atw,av2,atH aa]
abbrev aaF(bD cK d_:Nat)(v:Value)(aj:List Bool):List (Nat×aJ):=[(3005,.box cK [u 0,u bD]),(3006,.box d_ [.ai v]),(3007,.row v (vC aj) 1 4)]
theorem apB(bD:Nat)(h1:1<=bD)(A:bD<=4096)(l:List (Int×Int))(al:l.length<100)(I:∀x∈l,0<=x.1/\x.1<=10000/\0<=x.2/\x.2<=10000)(aj:List Bool)(an:aj.length=bD)(hs:wA aj bD\/∃r,l=(0,(bD:Int))::r)(a:Option Addr)(n cap cK d_:Nat): c1 B 34 [.Q .none 2 (l.map vB),.box 3005 cK 0,.box 3006 d_ 0] (aL (aaF bD cK d_ (.slice a n cap) aj)) λd aP=>d=.bp []/\aP=aL (aaF bD cK d_ (.slice a n cap) (List.replicate bD true)):=by have mO:(l.map vB).length=l.length:=atL _;refine kj Tryz.func34 Tryz.ntmps34 λU=>?_;refine go ?_;refine gf (λV:Nat×List Bool=>V.1<=l.length/\V.2.length=bD/\(wA V.2 bD\/V.1=0/\∃r,l=(0,(bD:Int))::r)) [1,2,7,8] [3005,3006] (λV=>[(9,u V.1)]) (λV=>[(3007,.row (.slice a n cap) (vC V.2) 1 4)]) (λV=>l.length-V.1) (0,aj) ⟨at4 _,an,hs.imp_right λh=>⟨rfl,h⟩⟩ [(3005,3005),(3006,3006),(3007,3007)] ?_;rintro⟨i,gp⟩ ⟨hi,gn,X⟩;dsimp only at hi gn X⊢;refine go ?_;refine cb (t:=decide ((i:Int)<(l.map vB).length)) ?_ ?_<;>intro hc;(have aI:i<l.length:=by have:=aua hc;omega);obtain⟨g1,fe,g3,g4⟩:=I _ (atO aI);(have o7:∀r,l=(0,(bD:Int))::r->i=0->l[i]=(0,(bD:Int)):=λr e b9=>by subst b9;subst e;rfl);refine go ?_;generalize N4:l[i]=fu at*;obtain⟨aY,Dp⟩:=fu;dsimp only at g1 fe g3 g4;intro b;(conv=>whnf);refine go ?_;refine cb (t:=Ce 0 bD aY Dp) ?_ ?_<;>intro bu;refine go ?_;refine eI (i+1,gp) [(3005,3005),(3006,3006),(3007,3007)] ⟨aI,gn,.inl (X.resolve_right λ⟨e,r,b9⟩=>?_)⟩;cases o7 r b9 e;rw[ad7]at bu;omega;have ff:=TZ bu;refine go ?_;refine gf (λV:Nat×List Bool=>(V.1:Int)<=Dp/\V.2.length=bD/\(wA V.2 bD\/(aY=0/\Dp=bD)/\wA V.2 V.1)) [1,2,7,8,9,5,47] [3005,3006,5] (λV=>[(48,u V.1)]) (λV=>[(3007,.row (.slice a n cap) (vC V.2) 1 4)]) (λV=>Dp.toNat-V.1) (0,gp) ⟨g3,gn,X.imp_right λ⟨e,r,b9⟩=>⟨by cases o7 r b9 e;exact⟨rfl,rfl⟩,λj aa=>by cases aa⟩⟩ [(3005,3005),(3006,3006),(5,5),(3007,3007)] ?_;rintro⟨k,ck⟩ ⟨Y,uT,cz⟩;dsimp only at Y uT cz⊢;(have eW:(vC ck).length=bD:=by rw[vC,atL,uT]);refine go ?_;refine cb (t:=decide ((k:Int)<Dp)) ?_ ?_<;>intro dK;have tb:(k:Int)<Dp:=aua dK;refine go ?_;refine dQ (af.ey aM 3007 rfl rfl rfl rfl rfl rfl rfl atw (by rw[eW];omega)) ?_;refine dQ (af.ni aM 3007 (i:=aY.toNat+k) (by rw[show(aY-0+(k:Int)).toNat=aY.toNat+k by omega];rfl) rfl rfl rfl (by rw[eW];omega) rfl) ?_;exact eI (k+1,ck.set (aY.toNat+k) true) [(3005,3005),(3006,3006),(5,5),(3007,3007)] ⟨tb,by rw[avd,uT],cz.imp apy λ⟨⟨bV,b9⟩,kl⟩=>⟨⟨bV,b9⟩,by rw[bV,show(0:Int).toNat+k=k by omega];exact apz kl atw⟩⟩ (A:=⟨cO,rfl,by exact⟨rfl,rfl,rfl,rfl,rfl,rfl,rfl,sM (by simp only[vC,aw7];rfl),ak⟩⟩);refine go ?_;have:=at2 dK;exact eI (i+1,ck) [(3005,3005),(3006,3006),(3007,3007)] ⟨aI,uT,.inl (cz.elim id λ⟨⟨_,e⟩,kl⟩=>by rwa [show k=bD by omega]at kl)⟩;refine go ?_;(have hT:=X.resolve_right λ⟨e,r,b9⟩=>by have:=at2 hc;rw[b9]at mO this;simp at this;omega);exact⟨.bp [],ak,rfl,rfl,rfl,sM (by rw[apA gn hT]),ak⟩
def xM:r4:=⟨0,23,18,3,0,false,0,0,0,0,0,[],0,0,0,[⟨[97],21,3000⟩]⟩
def nc:fv:=⟨[86],[],[],[],[],1,1,315532800,9,0,[],0,false⟩
def aaG(i:Nat):List D:=if i=0 then[]else[vB (0,(i:Int))]
theorem apC:c1 B 38 [.Q .none 1 []] bE.none λd aP=>∃v,True/\d=.ai v/\aP=aL [(2000,.row v [] 1 3)]:=by refine EM Tryz.func38 Tryz.ntmps38 λU=>?_;refine go ?_;refine .inr (af.Ht (bI:=3) aM rfl rfl rfl λkt nV=>?_);refine go ?_;refine cb (t:=kt) ?_ ?_<;>intro hc;refine W.qE 2000 1 3 ?_;refine go ?_;exact⟨.ai (.slice none 0 0),aq.rG,.slice none 0 0,ak,rfl,bc⟩;apply co;(conv=>whnf);apply el;refine W.Hz aM ?_;(conv=>whnf);refine⟨rfl,ak,.inr (af.Ss (q:=100) aM rfl rfl rfl rfl rfl rfl ?_)⟩;(conv=>whnf);refine⟨rfl,ak,λv0=>?_⟩;(conv=>whnf);apply eb;(conv=>whnf);refine⟨rfl,ak,.inr (af.S1 aM 100 rfl rfl rfl rfl rfl rfl rfl ?_)⟩;(conv=>whnf);apply eb;refine W.BT 100 2000 rfl ?_;refine go ?_;exact⟨_,E,v0,ak,rfl,bc⟩
theorem apD:aU B 12 [lV xM,ih nc] (.Q .none 2 [vB (0,23)]):=by have OQ:=US (B:=B) nc 0 23;(have tH:0<(br (rZ nc 0 23)).length/\(br (rZ nc 0 23)).length<=10:=by decide +kernel);(have Q7:∀x∈rZ nc 0 23,0<=x/\x<=10000:=by decide +kernel);have apE:=E7 (B:=B) nc;generalize rZ nc 0 23=kL at*;have as_:xM.S=0:=rfl;have as':xM.C=23:=rfl;(have hQ:(br kL).length=kL.length:=by simp[br]);refine fn Tryz.func12 Tryz.ntmps12 λU=>?_;refine go ?_;intro cm;(conv=>whnf);refine da ?_;intro eR;(conv=>whnf);refine da ?_;refine iF 2 2 16 (lV xM) ?_;refine iF 3 3 13 (ih nc) ?_;refine go ?_;intro cK;(conv=>whnf);refine go ?_;refine bs apE ?_;refine go ?_;refine .inr (af.ac7 aM (n:=23) rfl rfl rfl rfl rfl rfl rfl atz atz λapF=>?_);(conv=>whnf);refine go ?_;intro d_;(conv=>whnf);generalize ata:(some ⟨apF,0,none⟩:Option Addr)=Q8;have Q9:=λl h1 A aj Z aG=>apB (B:=B) 23 atz atz l h1 A aj Z aG Q8 23 23 cK d_;(have hT:wA (List.replicate 23 true) 23:=λj aa=>by rw[av2,atI aa]);refine go ?_;refine bs (rV 9 3 atz) ?_;refine mj [(3005,5),(3006,6),(3007,46)] (Q9 [(0,23),(18,3)] atz atz (List.replicate 23 false) rfl (.inr ⟨_,rfl⟩)) ?_;refine' eH (α:=Value×Option Addr×Nat×Nat) [(5,.box cK [u 0,u 23]),(6,.box d_ [.ai (.slice Q8 23 23)]),(46,.row (.slice Q8 23 23) (vC (List.replicate 23 true)) 1 4)] (.slice none 0 0,none,0,0) (λy=>[_,_,_,.ai y.1,_,_,.Q .none 1 (br kL),.ai (.slice y.2.1 y.2.2.1 y.2.2.2),u (y.2.2.1:Nat),_]) (λy=>[(3,71,some (.row y.1 [] 1 3)),(7,71,none),(7,75,some (.row (.slice y.2.1 y.2.2.1 y.2.2.2) (br kL) 1 3))]) [0,1,3,7,0,0,63,127,255,0] [(3,71),(7,71),(7,75)] ?_ ?_;rotate_left 6;refine dw ?_;refine bS (λy=>af.call rfl [.Q .none 1 []] [(2000,71)] (c5.SV ⟨rfl,ak⟩ apC) rfl ar ?_) ?_;rintro d aP ⟨v,_,rfl,rfl⟩;exact⟨_,E,dh (v,y.2)⟩;refine bS (λy=>af.nU aM 71 rfl rfl rfl atD rfl rfl rfl tH.1 (by show(0+_)*8<=_;omega) (by show 0+_<=_;omega) λev dB lW=>(dh (y.1,ev,dB,lW))) ?_;exact trivial;rintro⟨atb,atc,atd,ate⟩;refine go ?_;refine W.B1 75 rfl λatf atg gu _ _=>?_;simp only[Value.slice.injEq]at gu;obtain⟨rfl,rfl,rfl⟩:=gu;refine C5 75 75 ?_;refine go ?_;refine gf (λV:Nat=>V<=kL.length) [2,5,6,7,75,76] [5,6,46] (λV=>[(77,u V)]) (λ_=>[]) (λV=>kL.length-V) 0 (at4 _) [(5,5),(6,6),(46,46)] ?_;intro i hi;refine go ?_;refine cb (t:=decide ((i:Int)<((br kL).length:Nat))) ?_ ?_<;>intro hc;(have aI:i<kL.length:=by have:=aua hc;omega);have wK:=Q7 _ (atO aI);refine go ?_;refine bI (u kL[i]) (by simp[br,aI]) ?_;refine mj [(3005,5),(3006,6),(3007,46)] (Q9 [(kL[i],1)] aty atx _ aw3 (.inl hT)) ?_;exact eI (i+1) [(5,5),(6,6),(46,46)] aI;refine go ?_;rw[show xM.files.map bl=[bl ⟨[97],21,3000⟩]from rfl];refine gf (λV:Nat=>V<=1) [5,6,7,88,89] [5,6,46] (λV=>[(90,u V)]) (λ_=>[]) (λV=>1-V) 0 (at4 _) [(5,5),(6,6),(46,46)] ?_;intro i hi;refine go ?_;refine cb (t:=decide ((i:Int)<1)) ?_ ?_<;>intro hc;(have aI:i=0:=by have:=aua hc;omega);subst aI;refine go ?_;refine⟨λ_=>by decide,?_⟩;(conv=>whnf);refine go ?_;intro uQ;(conv=>whnf);refine go ?_;refine W.zL aM 8 mixed atB ?_;refine go ?_;refine bs (MU 3000 atz atz) ?_;refine mj [(3005,5),(3006,6),(3007,46)] (Q9 [(21,iG 3000)] aty (by simp;decide) _ aw3 (.inl hT)) ?_;exact eI 1 [(5,5),(6,6),(46,46)] atz;refine go ?_;refine dQ (af.sF aM 46 rfl rfl rfl rfl) ?_;refine W.qE 12 2 23 ?_;refine go ?_;refine gf (λV:Nat×Option Addr×Nat×Nat=>V.1<=23) [5,6,107,108] [5,6,46] (λV=>[(109,u V.1),(13,.ai (.slice V.2.1 V.2.2.1 V.2.2.2))]) (λV=>[(12,.row (.slice V.2.1 V.2.2.1 V.2.2.2) (aaG V.1) 2 23)]) (λV=>23-V.1) (0,none,0,0) atz [(5,5),(6,6),(46,46),(12,12)] ?_ (h1:=by exact⟨by exact⟨E,E,E,E,E,aq.rG,ak⟩,rfl,cO⟩);rintro⟨i,apG,on,apH⟩ hi;dsimp only at hi⊢;refine W.B1 12 rfl λath ati uJ _ _=>?_;simp only[Value.slice.injEq]at uJ;obtain⟨rfl,rfl,rfl⟩:=uJ;refine go ?_;refine cb (t:=decide ((i:Int)<23)) ?_ ?_<;>intro hc;(·(have aI:i<23:=by have:=aua hc;omega);(have aW:∀j,j<23->(vC (List.replicate 23 true))[j]?=some (.bool true):=λj aa=>by rw[vC,aud,hT j aa];rfl);have eW:(vC (List.replicate 23 true)).length=23:=rfl;obtain⟨KN,aaH⟩:∃KN,KN=true:=⟨_,rfl⟩;refine go ?_;refine dQ (af.ey aM 46 rfl rfl rfl rfl rfl rfl rfl atw (by rw[eW];omega)) ?_;refine dQ (af.me aM 46 (i:=i) atC rfl rfl (show _=some (.bool KN) by rw[aaH];exact aW i aI)) ?_;refine cb (t:=!KN) (λbu=>by rw[aaH]at bu;cases bu) (λ_=>?_);apply el;by_cases ay:0<i;(·rw[show aaG i=[vB (0,(i:Int))]from atH atw];refine W.zZ aM ?_;(conv=>whnf);(iterate 3 (refine⟨rfl,.inl ?_⟩;conv=>whnf));refine⟨rfl,_,_,rfl,rfl,.inl ⟨by simpa using ay,.inl ?_⟩⟩;(conv=>whnf);apply cB;(conv=>whnf);(iterate 2 (refine⟨rfl,_,_,rfl,rfl,.inl ⟨by simpa using ay,.inl ?_⟩⟩;conv=>whnf));refine g5 ?_;(conv=>whnf);refine⟨rfl,_,_,rfl,rfl,.inl ⟨by simpa using ay,.inr (af.ey aM 46 rfl rfl rfl rfl rfl rfl rfl atw (by rw[eW];omega) ?_)⟩⟩;(conv=>whnf);refine⟨rfl,_,_,rfl,rfl,.inl ⟨by simpa using ay,.inr (af.me aM 46 (i:=i-1) (by rw[show((i:Int)-1).toNat=i-1 by omega];rfl) rfl rfl (aW _ atw) ?_)⟩⟩;(conv=>whnf);refine⟨rfl,.inr (af.EB rfl (by simpa using ay) ?_)⟩;(conv=>whnf);refine⟨rfl,.inl ?_⟩;refine go ?_;have atj:[vB (0,(i:Int))].length=1:=rfl;refine dQ (af.sF aM 12 rfl rfl rfl rfl) ?_;refine dQ (af.ey aM 12 rfl rfl rfl rfl rfl rfl rfl atw atw) ?_;refine dQ (af.jl aM 12 (i:=0) rfl rfl atw rfl rfl rfl atz) ?_;refine dQ (af.n1 aM 12 (i:=0) (j:=1) (y:=vB (0,(i:Int))) rfl rfl rfl rfl) ?_;refine dQ (af.ey aM 12 rfl rfl rfl rfl rfl rfl rfl atw atw) ?_;refine dQ (af.jl aM 12 (i:=0) rfl rfl atw rfl rfl rfl atz) ?_;refine dQ (af.vj aM 12 (i:=0) (j:=1) rfl rfl rfl rfl rfl atz rfl) ?_;exact eI (i+1,apG,1,apH) [(5,5),(6,6),(46,46),(12,12)] aI);(have kP:i=0:=by omega);subst kP;refine W.zZ aM ?_;(conv=>whnf);(iterate 3 (refine⟨rfl,.inl ?_⟩;conv=>whnf));(iterate 5 (refine⟨rfl,_,_,rfl,rfl,.inr ⟨rfl,?_⟩⟩;conv=>whnf));refine⟨rfl,.inr (af.BW rfl rfl ?_)⟩;(conv=>whnf);refine⟨rfl,.inl ?_⟩;refine go ?_;refine .inr (af.nU aM 12 rfl rfl rfl atD rfl rfl rfl avY atz atz λIF yB IG=>?_);(conv=>whnf);refine go ?_;exact eI (1,IF,yB,IG) [(5,5),(6,6),(46,46),(12,121)] aI);(have kP:i=23:=by have:=at2 hc;omega);subst kP;refine C5 12 13 ?_;refine go ?_;exact E
theorem apI(n:ad)(p d:atG)(N:d≠[])(bN:aU B 65 [aE n] (.Q .none 2 [dG ⟨p,d⟩])):aU B 22 [aE n] (.Q .none 1 []):=by refine bA Tryz.func22 Tryz.ntmps22 λU=>?_;refine cl ?_;intro dC;refine qH ?_;refine .inr (af.sQ (λbG=>?_));refine k7 ?_;refine⟨[aE n],_,λ_=>bN,ar,?_⟩;refine nn ?_;refine W.ec (α:=Bool×Value) (λx=>[(3,.ai (.map (some bG))),(14,.Q .none 2 [dG ⟨p,d⟩]),(15,u 1),(16,u (bif x.1 then 1 else 0)),(4,.Q .none 2 [dG ⟨p,d⟩])]) (λx=>[(11,.mp bG (bif x.1 then[(D.O d,D.Q (.own 33 x.2) 1 [.O p])]else[]))]) (λx=>bif x.1 then 0 else 1) (false,Value.nilFunc) [(11,11)] ⟨ar,rfl,bc⟩ ?_;rintro⟨q,w⟩;(try dsimp only);apply b4;apply el;refine aK (decide ((bif q then(1:Int)else 0)<1)) rfl ?_ ?_<;>intro hc;(·apply co;(have G:q=false:=by cases q<;>simp at hc⊢);subst G;refine gJ ?_;refine nW ?_;refine x4 (dG ⟨p,d⟩) ?_;(conv=>whnf);intro d_;apply cB;refine iX ?_;refine aK (d !=[]) rfl ?_ ?_<;>intro bu;(·refine W.tP 5000 1 9 ?_;refine' eH (α:=Value) [(6,.box d_ [.O p,.O d]),(11,.mp bG []),(5000,.own (.slice none 0 0) 0 1 9)] Value.nilFunc (λV=>[_,_,_,_,_,_,.Q (.own 5000 (.slice none 0 0)) 1 [],_,_,_,.Q (.own 33 V) 1 ([.O p]),.any]) (λV=>[(10,5000,none),(10,33,some (.own V (1) 1 9)),(11,11,some (.mp bG [(.O d,.Q (.own 33 V) 1 [.O p])]))]) [0,0,2,0,0,16,56,0,128,384,1016,2047] [(10,5000),(10,33),(11,11)] ?_ ?_;rotate_left 9;refine dw ?_;refine bS (λV=>af.Mv 11 (dS:=9) (dZ:=59) (k:=.O d) (V:=.Q (.own 5000 (.slice none 0 0)) 1 []) (eh:=.slice none 0 0) rfl rfl rfl rfl rfl rfl aty rfl atE (λw C=>.iP _ 1 none rfl) (cw V)) ?_;refine B2 (λV=>?_) ?_;(conv=>whnf);refine⟨rfl,rfl,?_⟩;(conv=>whnf);refine⟨by simp,by simp,atD,λGU=>?_⟩;exact dh GU;refine bS (λV=>af.yl 11 (dS:=9) (dZ:=59) (k:=.O d) rfl rfl rfl rfl rfl rfl aty (cw V)) ?_;exact trivial;intro V;(conv=>whnf);refine W.fb [(3,.ai (.map (some bG))),(14,.Q .none 2 [dG ⟨p,d⟩]),(15,u 1),(16,u 0),(4,.Q .none 2 [dG ⟨p,d⟩])] [(11,.mp bG [(.O d,.Q (.own 33 V) 1 [.O p])])] [(11,11)] ⟨cO,rfl,cO⟩ ?_;(conv=>whnf);skip;refine nl ?_;exact⟨(true,V),[(11,11)],avY,ar,rfl,bc⟩);exact absurd bu (by simpa using N));(have G:q=true:=by cases q<;>simp at hc⊢);subst G;refine W.exit ?_;apply b4;refine nn ?_;refine W.ec (α:=Bool) (λx=>[(3,.ai (.map (some bG))),(7,.bj),(35,.Q .none 2 [dG ⟨p,d⟩]),(36,u 1),(37,u (bif x then 1 else 0))]) (λx=>[(11,.mp bG [(D.O d,D.Q (.own 33 w) 1 [.O p])])]) (λx=>bif x then 0 else 1) false [(11,11)] ⟨ar,rfl,bc⟩ ?_;rintro q;(try dsimp only);apply b4;apply el;refine aK (decide ((bif q then(1:Int)else 0)<1)) rfl ?_ ?_<;>intro hc;apply co;(have G:q=false:=by cases q<;>simp at hc⊢);subst G;refine gJ ?_;refine nW ?_;refine x4 (dG ⟨p,d⟩) ?_;(conv=>whnf);intro ij;apply cB;refine vf ?_;apply mf;refine eB ?_;refine .inr (af.H9 11 (dS:=9) (dZ:=59) (k:=.O d) (d:=.Q (.own 33 w) 1 [.O p]) rfl rfl rfl rfl rfl rfl (by simp[mX]) (by simp[jm,oK]) ?_);refine oH ?_;refine mQ ?_;refine⟨λh=>by simp at h,?_⟩;refine mQ ?_;refine⟨.O p,λh=>rfl,?_⟩;refine iE ?_;refine nX ?_;refine aK _ rfl ?_ ?_<;>intro bu;exact absurd bu aty;refine rI ?_;exact⟨true,[(11,11)],avY,ar,rfl,bc⟩;(have G:q=true:=by cases q<;>simp at hc⊢);subst G;refine qG ?_;exact aq.nil
def GZ:atG:=List.replicate 3000 120
def KO:ad:=⟨[97],1,GZ,[],0,0,0,315532800,0,0,[],[]⟩
def eA:ad:=⟨[],0,[],[],0,0,0,315532800,0,0,[KO],[]⟩
def xN:fv:=⟨[86],[],[],[],[],1,1,315532800,1,0,[],0,false⟩
theorem Q_:ch eA=[⟨[97],GZ⟩]:=by decide +kernel
theorem aaI:iu eA 0=(3,0):=by decide +kernel
theorem apJ:aC eA=3008:=by decide +kernel
theorem Dq:fr eA:=by unfold fr;rw[apJ];decide
theorem KP:qc eA 100000=true:=by decide +kernel
theorem aaJ:gM xN=⟨false,false,0,[]⟩:=by decide +kernel
theorem aaK:gM nc=⟨false,false,0,[]⟩:=by decide +kernel
theorem apK:jA eA xN [] 0=some []:=by decide +kernel
theorem aaL:jA eA nc [] 10=some []:=by decide +kernel
theorem apL:valid eA=true:=by decide +kernel
def jd:List eM:=[⟨[],[0],1,0,0,false⟩]
def rq:List gq:=[⟨[97],[65,46,59,49],0,-1,false,false,false⟩]
def nM:f0:=⟨false,false,0,[]⟩
def rr:List (atG×ad):=f2 (en eA) eA (dR eA [] 1)
theorem apM:ky (nK (mC (jd.map λd=>(d.id,d.cA)) λ_=>0) false).1=10:=by decide +kernel
theorem apN:(mA false eA).1=jd:=by decide +kernel
theorem apO:(mA false eA).2.1=rq:=by decide +kernel
theorem apP:qX eA nM=0:=by decide +kernel
theorem apQ:wc (gg eA jd) (e_ nM rr jd rq) 1=0:=by decide +kernel
theorem Ra:∀x∈e_ nM rr jd rq 0,wb (gg eA jd) false x/\(uo (qo x.id (gP (gg eA jd) x))=false/\qo x.id (gP (gg eA jd) x)<=200)/\(gP (gg eA jd) x).tail=[]:=by unfold wb io;decide +kernel
theorem apR:(e_ nM rr jd rq 0).length=3:=by decide +kernel
theorem apS{l:List Int}(al:l.length=3)(h:∀x∈l,uo x=false/\x<=200):yM l=1:=by match l,al with|[a,b,c],_ =>obtain⟨gR,a2⟩:=h a aty;obtain⟨dC,cm⟩:=h b aty;obtain⟨ev,dB⟩:=h c aty;have a3:=Fz gR;have eR:=Fz dC;have lW:=Fz ev;(have bC:∀x y:Int,0<=x->x+y<=2048->x<2048->s9 x y=x:=λx y h1 A Z=>by unfold s9;rw[au2 h1,atH atw]);(have ay:r' [a,b,c]=([0,a,a+b],a+b+c,true):=by unfold r';rw[atH (by simp[gR,dC,ev])];simp only[og,au0,List.foldl_nil,IR];rw[bC 0 a atw atw atw,bC (0+a) b atw atw atw,bC (0+a+b) c atw atw atw];simp);unfold yM;rw[ay,at6 (by dsimp only;omega)];dsimp only;omega
theorem Rb:jz nM eA=(3,0):=by have cD:=λx F=>(Ra x F).1;(have ay:(oW (gg eA jd) false (e_ nM rr jd rq 0)).Perm (e_ nM rr jd rq 0):=by rw[XW _ _ cD];have:=(PA (Gs (gg eA jd) false) ((e_ nM rr jd rq 0).attachWith _ cD)).map (·.1);rwa [List.attachWith_map_subtype_val]at this);(have I:y5 (gg eA jd) false (e_ nM rr jd rq 0)=1:=by refine apS (by rw[Pi,atL,ay.length_eq,apR]) λx F=>?_;obtain⟨y,hy,rfl⟩:=aub.1 F;exact(Ra y (ay.mem_iff.1 hy)).2.1);(have apT:wd (gg eA jd) false (e_ nM rr jd rq) 1=[]:=by show([0]:List Nat).flatMap _=[];rw[auL,List.flatMap_nil,auG,List.flatMap_eq_nil_iff];exact λx F=>(Ra x (ay.mem_iff.1 F)).2.2);(have dg:mD nM rr jd rq (gg eA jd)=(4,0):=by unfold mD sl;rw[apM];show(if wc (gg eA jd) (e_ nM rr jd rq) 1=0 then(y6 (gg eA jd) false (e_ nM rr jd rq) 1 (1+2*j6 10),0)else _)=_;rw[atI apQ,y6,apT];show(1+2*j6 10+y5 (gg eA jd) false (e_ nM rr jd rq 0)+j6 0,(0:Int))=_;rw[I];rfl);unfold jz;rw[atI apL];show xC nM eA rr (mA false eA).1 (mA false eA).2.1 (gg eA (mA false eA).1)=_;(have j4:ly nM rr eA jd rq (gg eA jd)=(4,0):=by rw[ly,atH (λh=>by cases h.2),dg]);rw[apN,apO,xC,atI apP,j4];rfl
def aaM:r4:=⟨10,77,78,3,0,false,10,77,28,81,5,[81,82,83],0,0,0,[⟨[97],84,3000⟩]⟩
theorem aaN(l:r4):l=⟨l.S,l.C,l.iS,l.iC,l.kind,l.opn,l.uS,l.uC,l.recg,l.As,l.pC,l.At,l.commit,l.spS,l.spC,l.files⟩:=rfl
theorem aaO{a b:r4}(h1:(a.S,a.C,a.iS,a.iC)=(b.S,b.C,b.iS,b.iC))(A:(a.kind,a.opn,a.uS,a.uC)=(b.kind,b.opn,b.uS,b.uC))(Z:(a.recg,a.As,a.pC,a.At)=(b.recg,b.As,b.pC,b.At))(aG:(a.commit,a.spS,a.spC)=(b.commit,b.spS,b.spC))(bb:a.files=b.files):a=b:=by rw[aaN a,aaN b];simp only[awW]at h1 A Z aG;obtain⟨g1,fe,g3,g4⟩:=h1;obtain⟨L1,apU,apV,apW⟩:=A;obtain⟨apX,apY,apZ,ap0⟩:=Z;obtain⟨ap1,ap2,ap3⟩:=aG;rw[g1,fe,g3,g4,L1,apU,apV,apW,apX,apY,apZ,ap0,ap1,ap2,ap3,bb]
theorem aaP(m:fv)(cap start:Int)(hm:gM m=nM)(an:m.dp=0):wz eA m [] start [[97]] cap=rl (gF eA m [] start [[97]]) (3,0) (3,0) cap:=by unfold wz;rw[hm,an,Rb,aaI]
theorem ap4:(rl (gF eA xN [] 0 [[97]]) (3,0) (3,0) 500).1=xM:=aaO atA atA atA atA atA
theorem ap5:(rl (gF eA xN [] 0 [[97]]) (3,0) (3,0) 500).2=0:=by decide +kernel
theorem ap6:(rl (gF eA nc [] 10 [[97]]) (3,0) (3,0) 500).1=aaM:=aaO atA atA atA atA atA
theorem ap7:(rl (gF eA nc [] 10 [[97]]) (3,0) (3,0) 500).2=0:=by decide +kernel
theorem ap8:rk (hz eA nc [] 10) (3,0) (3,0)=(77,0):=by decide +kernel
theorem aaQ(m:fv)(start:Int):[[97]].Perm (lq (gF eA m [] start []) (ch eA)):=by rw[Q_];exact E
theorem ap9(a1:db B):aU B 19 [aE eA,ih xN,.Q .none 1 (aN [[97]]),.Q .none 3 (([]:List cP).map bl),u 0,u 500] (.bp [lV xM,u 0]):=by have h:=Q3 a1 eA xN [[97]] [] 0 500 [] Dq KP atz (λg aW=>by cases aW) atz apK atz atz (aaQ xN 0);rw[aaP _ _ _ aaJ rfl,ap4,ap5]at h;exact h
theorem ap_(a1:db B):aU B 19 [aE eA,ih nc,.Q .none 1 (aN [[97]]),.Q .none 3 (([]:List cP).map bl),u 10,u 500] (.bp [lV aaM,u 0]):=by have h:=Q3 a1 eA nc [[97]] [] 10 500 [] Dq KP atz (λg aW=>by cases aW) atz aaL atz atz (aaQ nc 10);rw[aaP _ _ _ aaK rfl,ap6,ap7]at h;exact h
theorem ap'(a1:db B):aU B 20 [aE eA,ih nc,.Q .none 3 (([]:List cP).map bl),u 10] (.bp [u 77,u 0]):=by have h:=aay a1 eA nc [] 10 [] Dq KP atz (λg aW=>by cases aW) atz aaL;rw[aaK,show(⟨false,false,0,[]⟩:f0)=nM from rfl,Rb,show nc.dp=0 from rfl,aaI,ap8]at h;exact h
theorem aqa(a1:db B):aU B 30 [aE eA,rX ⟨false,false,0,[]⟩] (.bp [u 3,u 0]):=by have h:=(Q2 a1 xN Dq KP).1.1;rw[aaJ,show(⟨false,false,0,[]⟩:f0)=nM from rfl,Rb]at h;exact h
theorem aqb(a1:db B):aU B 28 [aE eA] (.Q .none 1 (aN [[97]])):=by have h:=aoi a1 eA Dq;rw[Q_]at h;exact h
theorem aqc(a1:db B):aU B 22 [aE eA] (.Q .none 1 []):=by have h:=Jk a1 eA Dq;rw[Q_]at h;exact apI eA [97] GZ atA h
theorem aqd:Lib.repeatL [120] 3000=GZ:=by decide +kernel
theorem aqe:aU B 74 [.O [120],u 3000] (.O GZ):=by rw[<-aqd];exact .zK (jn Tryz.func74 rfl atA) rfl λw I=>(Tryz.strings_Repeat ⟨⟨[120]⟩⟩ 3000 w atz (by show 1*3000<=_;decide)).mono λe w' ⟨ao,cz⟩=>⟨_,ao,λC=>.O _,cz⟩
def aaR:fv:=⟨[],[],[],[],[],0,0,0,0,0,[],0,false⟩
theorem aqf:eA.J.map enc=[aE KO]:=by show[enc KO]=_;rw[rJ]
theorem aqg:aU B 29 [] (.bp [aE eA,ih xN]):=by refine fn Tryz.func29 Tryz.ntmps29 λU=>?_;refine go ?_;intro k9;(conv=>whnf);refine go ?_;intro dC;(conv=>whnf);refine go ?_;refine bs aqe ?_;intro cm;(conv=>whnf);refine go ?_;refine⟨aq.agg ⟨E,E,E,E,E,E,E,E,E,E,?_,aq.nil,ak⟩,aq.agg ⟨E,E,E,E,E,E,E,E,E,E,aq.nil,E,E,ak⟩,ak⟩;rw[aqf];exact aq.trans (aq.acB (a':=[aE KO]) ⟨E,E,E,E,E,E,E,E,E,E,aq.nil,aq.nil,ak⟩ rfl (λy hy=>by simp at hy;subst hy;rfl)) aq.dV
theorem aqh(a1:db B):aU B 9 [] (.bool true):=by have wv:=aqa a1;have aqi:=ap9 a1;have aqj:=ap_ a1;have Rc:=ap' a1;refine fn Tryz.func9 Tryz.ntmps9 λU=>?_;refine go ?_;refine bs aqg ?_;intro dC;(conv=>whnf);refine go ?_;intro cm;(conv=>whnf);refine go ?_;refine z6 ?_;(conv=>whnf);refine⟨_,_,λ_=>wv,⟨E,aq.agg ⟨E,E,E,aq.nil,ak⟩,ak⟩,?_⟩;(conv=>whnf);refine go ?_;refine z6 ?_;(conv=>whnf);refine⟨_,_,λ_=>aqi,⟨E,E,aq.dV,aq.nil,E,E,ak⟩,?_⟩;(conv=>whnf);refine go ?_;intro cK;(conv=>whnf);refine go ?_;refine⟨[.Q .none 3 (xM.files.map bl),.Q .none 3 (([⟨[97],21,3000⟩]:List cP).map bl)],_,λh=>aoj xM.files [⟨[97],21,3000⟩] atz atz,⟨E,aq.dV,ak⟩,?_⟩;(conv=>whnf);refine go ?_;refine z6 ?_;(conv=>whnf);refine⟨_,_,λ_=>Rc,⟨E,E,aq.nil,E,ak⟩,?_⟩;(conv=>whnf);refine go ?_;refine z6 ?_;(conv=>whnf);refine⟨_,_,λ_=>aqj,⟨E,E,aq.dV,aq.nil,E,E,ak⟩,?_⟩;(conv=>whnf);refine go ?_;intro cE;(conv=>whnf);refine go ?_;refine bs (E7 (B:=B) nc) ?_;refine⟨[ih aaR],_,λh=>E7 aaR,⟨aq.agg ⟨E,E,E,E,E,E,E,E,E,E,aq.nil,E,E,ak⟩,ak⟩,?_⟩;(conv=>whnf);refine go ?_;refine bs (aqb a1) ?_;refine⟨[.Q .none 1 (aN [[97]]),.Q .none 1 (aN [[97]])],_,λh=>ZX [[97]] [[97]] atz atz,⟨E,aq.dV,ak⟩,?_⟩;(conv=>whnf);refine go ?_;refine bs (aqc a1) ?_;refine bs apD ?_;exact aq.of_eq (atJ D.bool atA)
def KQ(T:List Int)(n a:Int):Prop:=∀k∈T,¬(a<=k/\k<a+n)
variable{T:List Int}
theorem aqk{a:Int}(h:qn T a<=0):∀k∈T,k<a:=λk Y=>by
 unfold qn at h;have h0:(T.filter λk=>decide (a<=k))=[]:=List.length_eq_zero_iff.1 (Nat.le_zero.1 h);have:=(awR.1 h0) k Y;simp at this;exact this
variable{α:Type}
theorem aql{p:α->Bool}{l:List α}(h:l.any p=true):∃i,∃hi:i<l.length,p l[i]=true/\fd p l=i:=by unfold fd;cases M:l.findIdx? p with|none =>obtain⟨x,F,ay⟩:=au_.1 h;have:=(avU.1 M) x F;rw[this]at ay;cases ay|some i =>obtain⟨hi,ay,_⟩:=avC.1 M;exact⟨i,hi,ay,rfl⟩
theorem aaS{T:List Int}{n:Int}:∀(f:Nat) (a:Int),qn T a<=f->a<=m8 T n f a/\KQ T n (m8 T n f a)/\∀x,a<=x->KQ T n x->m8 T n f a<=x
 |0,a,h=>⟨auN _,λk Y A=>by have:=aqk h k Y;simp only[m8]at A;omega,λx F _=>F⟩
 |f+1,a,h=>by rw[m8];have wk:=El (ip a n) T;split;rename_i h0;refine⟨auN _,λk Y A=>?_,λx F _=>F⟩;(have M:(T.any (ip a n))=false:=by rw[<-wk];exact auk atw);have:=(List.any_eq_false.1 M) k Y;apply this;unfold ip;rw[auC A.1,auC A.2];rfl;rename_i h0;(have av:(T.any (ip a n))=true:=by rw[<-wk];exact auC atw);obtain⟨i,hi,ay,e⟩:=aql av;rw[Gb hi e];obtain⟨h1,A⟩:=AM ay;have bf:=Ga (atO hi) h1;obtain⟨fa,gw,ii⟩:=aaS (T:=T) (n:=n) f (T[i]+1) atw;refine⟨by omega,gw,λx F hc=>ii x ?_ hc⟩;have:=hc T[i] (atO hi);omega
theorem Rd(T:List Int)(n a:Int):a<=eK T n a/\KQ T n (eK T n a)/\∀x,a<=x->KQ T n x->eK T n a<=x:=aaS _ _ (atQ _)
theorem aqm{n m a b:Int}(pW:a<=b)(mt:n<=m):eK T n a+n<=eK T m b+m:=by obtain⟨_,_,Z⟩:=Rd T n a;obtain⟨g1,fe,_⟩:=Rd T m b;have:=Z (eK T m b) atw λk Y h=>fe k Y ⟨h.1,by omega⟩;omega
def Dr(T:List Int)(dq:List Int)(a:Int):Int:=dq.foldl (λa n=>eK T n a+n) a
theorem Re(T:List Int)(n:Int)(r:List Int)(a:Int):Dr T (n::r) a=Dr T r (eK T n a+n):=rfl
theorem aqn{l:List ad}(h:gN l):(l.map ad.name).Nodup:=by rw[List.Nodup,avz];exact auZ.2 λi j hi aa d9 e=>absurd e (s1 (r3 h d9 aa))
mutual
theorem aaT:∀(n:ad),im n->(px n).Nodup
 |.mk a b c d e f g h i j ag cC,ah=>by
  rw[Ja,avD];refine⟨λhm=>?_,aaU ag (aqn (Oc ah)) λk Y=>Jc ah Y⟩;obtain⟨k,_,q,_,G⟩:=Jb.1 hm;cases G
theorem aaU:∀(ag:List ad),(ag.map ad.name).Nodup->(∀k∈ag,im k)->(sc ag).Nodup
 |[],_,_=>.nil
 |k::r,hi,ah=>by
  have e:sc (k::r)=(px k).map (k.name::·)++sc r:=rfl;rw[e,List.nodup_append];refine⟨(aaT k (ah k atU)).map _ (λx y h1 A=>h1 (List.cons.inj A).2),aaU r (avD.1 hi).2 λx F=>ah x (atY _ F),λx F y hy GQ=>?_⟩;obtain⟨q,_,rfl⟩:=aub.1 F;obtain⟨bz,fH,ry,_,rfl⟩:=Jb.1 hy;have aw:k.name=bz.name:=(List.cons.inj GQ).1;exact(avD.1 hi).1 (aub.2 ⟨bz,fH,aw.symm⟩)
end
theorem aaV(n:ad):((ch n).map (·.path)).Nodup:=by unfold ch;by_cases X:valid n=true;rw[atI X];have cD:=AH X;(have h1:(dR n [] 1).Nodup:=by rw[Of,List.Nodup,avz];refine awL (λ{x y} F hy a7 h=>a7 ?_) (aaT n cD);exact aii (Oi x n cD F) (Oi y n cD hy) h);(have A:(((dR n [] 1).filterMap (h2 n)).map (·.path)).Sublist (dR n [] 1):=by generalize dR n [] 1=l;induction l with|nil=>exact .slnil|cons p r aZ =>rw[List.filterMap_cons];(cases M:h2 n p with|none=>exact aZ.cons _|some x =>(have:x.path=p:=by unfold h2 at M;split at M;cases M;rfl;cases M);rw[aui,this];exact aZ.cons_cons _));exact A.nodup h1;rw[atH X];exact .nil
theorem aaW:∀(ep:List cP) (m:List (atG×cP)),(ep.map (·.path)).Nodup->(∀f∈ep,bK (ep.foldl (λm f=>eD m f.path f) m) f.path=some f)/\∀q,q∉ep.map (·.path)->bK (ep.foldl (λm f=>eD m f.path f) m) q=bK m q
 |[],m,_=>⟨λf M=>(by cases M),λq _=>rfl⟩
 |f::r,m,h=>by rw[aui,avD]at h;obtain⟨h1,A⟩:=aaW r (eD m f.path f) h.2;rw[au0];refine⟨λg aW=>?_,λq G=>?_⟩;rcases at5.1 aW with rfl|aW;rw[A _ h.1,my,atI rfl];exact h1 g aW;rw[aui,at5,not_or]at G;rw[A q G.2,my,atH G.1]
theorem aqo{n:Int}(h:0<=n):iG n=(n+2048-1).tdiv 2048:=by unfold iG;rw[au2 h,at6 h,at6 atw];split<;>omega
theorem aqp{n:Int}(h:0<=n):0<=iG n:=by rw[aqo h,at6 atw];omega
theorem aaX{p:dl}:∀(l:List c0) (s:v7),(l.map (·.path)).Nodup->(∀f∈l,bK (l.foldl (iq p) s).data f.path=some f.data)/\∀q,q∉l.map (·.path)->bK (l.foldl (iq p) s).data q=bK s.data q
 |[],s,_=>⟨λf M=>(by cases M),λq _=>rfl⟩
 |f::r,s,h=>by rw[aui,avD]at h;obtain⟨h1,A⟩:=aaX (p:=p) r (iq p s f) h.2;(have N:(iq p s f).data=eD s.data f.path f.data:=by unfold iq;split<;>rfl);rw[au0];refine⟨λg aW=>?_,λq G=>?_⟩;rcases at5.1 aW with rfl|aW;rw[A _ h.1,N,my,atI rfl];exact h1 g aW;rw[aui,at5,not_or]at G;rw[A q G.2,N,my,atH G.1]
theorem aaY{p:dl}:∀(l:List c0) (s:v7) (q:atG),bK (l.foldl (iq p) s).own q=if q∈l.map (·.path)/\(bK p.aV q).isSome=true then bK p.aV q else bK s.own q
 |[],s,q=>by rw[atH (λh=>by cases h.1)];rfl
 |f::r,s,q=>by rw[au0,aaY r (iq p s f) q,aui];(have ah:(iq p s f).own=if(bK p.aV f.path).isSome=true then eD s.own f.path ((bK p.aV f.path).getD f')else s.own:=by unfold iq;split<;>rfl);by_cases h1:q∈r.map (·.path)/\(bK p.aV q).isSome=true;rw[atI h1,atI ⟨atY _ h1.1,h1.2⟩];rw[atH h1,ah];by_cases G:q=f.path;subst G;by_cases aW:(bK p.aV f.path).isSome=true;rw[atI aW,my,atI rfl,atI ⟨atU,aW⟩];obtain⟨g,y7⟩:=avB.1 aW;rw[y7];rfl;rw[atH aW,atH λh=>aW h.2];rw[atH (show¬(q∈f.path::r.map (·.path)/\(bK p.aV q).isSome=true)from λh=>by rcases at5.1 h.1 with e|e;exact G e;exact h1 ⟨e,h.2⟩)];by_cases aW:(bK p.aV f.path).isSome=true;rw[atI aW,my,atH G];rw[atH aW]
theorem aaZ{p:dl}(hs:p.m.pn=false):∀(l:List c0) (s:v7),s.aQ=[]->(l.foldl (iq p) s).aQ=[]
 |[],s,h=>h
 |f::r,s,h=>by rw[au0];refine aaZ hs r _ ?_;unfold iq;split;dsimp only;rw[hs,atH aty];exact h;exact h
def G0(data:List (atG×atG))(q:atG):Int:=(((bK data q).getD []).length:Nat)
def sr(data:List (atG×atG))(q:atG):Int:=iG (G0 data q)
variable{data:List (atG×atG)}
theorem aqq{p:dl}(hs:p.m.pn=false){s:lY}(h0:s.aQ=[])(q:atG): m9 p T data s q=⟨eD s.own q ⟨q,eK T (sr data q) s.a,G0 data q⟩,[],eK T (sr data q) s.a+sr data q⟩:=by unfold m9;rw[h0,atH (by simp[bK]),atH (by rw[hs];decide)];rfl
theorem aa0{p:dl}(hs:p.m.pn=false){T:List Int}{data:List (atG×atG)}:∀(o:List atG) (s:lY),s.aQ=[]->(h3 p T data s o).aQ=[]/\(h3 p T data s o).a=Dr T (o.map (sr data)) s.a/\(∀q,q∉o->bK (h3 p T data s o).own q=bK s.own q)/\(o.Nodup->∀k (h:k<o.length),bK (h3 p T data s o).own o[k]=some ⟨o[k],eK T (sr data o[k]) (Dr T ((o.take k).map (sr data)) s.a),G0 data o[k]⟩)
 |[],s,h=>⟨h,rfl,λq _=>rfl,λ_ k Y=>by cases Y⟩
 |q::r,s,h=>by have e:h3 p T data s (q::r)=h3 p T data (m9 p T data s q) r:=rfl;rw[e,aqq hs h q];obtain⟨h1,A,Z,aG⟩:=aa0 hs (T:=T) (data:=data) r ⟨eD s.own q ⟨q,eK T (sr data q) s.a,G0 data q⟩,[],eK T (sr data q) s.a+sr data q⟩ rfl;refine⟨h1,by rw[A,aui,Re],λx F=>?_,λkW k Y=>?_⟩;rw[at5,not_or]at F;rw[Z x F.2,my,atH F.1];rw[avD]at kW;cases k with|zero =>rw[avT,Z q kW.1,my,atI rfl];rfl|succ k =>rw[au9,aG kW.2 k (by simpa using Y),avm,aui,Re]
end Go.bR.ck
namespace Go.bR
open Go Go.RowKit
variable{P:Program}{B:World}{am:Nat}{z:au}{U:b7 P B am}{K:cJ->au->Prop}{w:World}{C:Nat->Nat}{a:Act}{b:Nat}{b3 zm:List (D×D)}
theorem bH.aqr(h:bH U w C z a)(s:Nat)(hs:z.H s=some (.mp b b3))(al:zm.length=b3.length)
  (dO:∀(i:Nat) k d,zm[i]?=some (k,d)->∃eX,b3[i]?=some (k,eX)/\∀aj,bh w C eX aj->bh w C d aj):bH U w C (z.bZ s (some (.mp b zm))) a :=
 h.bZ (Ft:=λx=>x=b) (.refl _ _ _) (λx F=>by subst F;exact h.heap.cI s _ x hs rfl)
  (λbo o x a7 ah an F=>ax1)
  (λx F=>by
   cases F
   obtain⟨ew,h7,h1,A,Z,aG,bb⟩:=h.heap.cj s _ hs;refine⟨⟨ew,h7,h1,A,by rw[al];exact Z,λi j k bz d d' g1 fe g3=>?_,λi k d e g1 fe=>?_⟩,λx F=>⟨by cases F;exact h.heap.cI s _ _ hs rfl,.inl F⟩⟩
   ·obtain⟨bV,nZ,_⟩:=dO i k d g1;obtain⟨b9,tX,_⟩:=dO j bz d' fe;exact aG i j k bz bV b9 nZ tX g3
   obtain⟨bV,nZ,tX⟩:=dO i k d g1;obtain⟨ta,q1⟩:=bb i k bV e nZ fe
   exact⟨ta,tX _ q1⟩)
variable{c:Code}{v:Value}{xs:List D}{k e:Nat}
theorem W.aqs(s q:Nat)(hs:z.H s=some (.row v xs k e))(G:z.H q=some (.mp b b3))(Eo:q≠s)(al:zm.length=b3.length)
  (hi:∀(i:Nat) cq d,zm[i]?=some (cq,d)->∃eX,b3[i]?=some (cq,eX)/\(d=eX\/(eX=.ai v/\d=.Q .none k xs)))
  (h:W U c ((z.bZ s none).bZ q (some (.mp b zm))) K):W U c z K :=
 ⟨λa w C M=>by
  obtain⟨aR,dF,fI⟩:=M.commit s hs (z.bZ s none) (λw C _ j aj ae=>ae) (λj o ah=>by
   by_cases aa:j=s
   ·subst aa;rw[pT]at ah;cases ah
   rw[k5 z none aa]at ah;exact .inr ⟨aa,ah⟩)
  have sz:(z.bZ s none).H q=some (.mp b b3):=by rw[k5 z none Eo];exact G
  exact h.run a w aR (fI.aqr q sz al λi cq d N=>by
   obtain⟨eX,h1,A⟩:=hi i cq d N;refine⟨eX,h1,λaj an=>?_⟩;rcases A with rfl|⟨rfl,rfl⟩
   ·exact an
   rw[an.f4];exact dF.iw)⟩
theorem W.aqt(q n:Nat)(H6:q<10000)(dh:Nat->List (D×D))(v:Nat->Value)(xs:Nat->List D)(h0:z.H q=some (.mp b (dh 0)))(ae:∀i,i<n->z.H (10000+i)=some (.row (v i) (xs i) k e))
  (hi:∀m,m<n->(dh (m+1)).length=(dh m).length/\∀(i:Nat) cq d,(dh (m+1))[i]?=some (cq,d)->∃eX,(dh m)[i]?=some (cq,eX)/\(d=eX\/(eX=.ai (v m)/\d=.Q .none k (xs m))))
  (h:W U c {t:=z.t,H:=λj=>if j=q then some (.mp b (dh n))else if 10000<=j/\j<10000+n then none else z.H j} K):W U c z K:=by
 have key:∀d m,m+d=n->W U c {t:=z.t,H:=λj=>if j=q then some (.mp b (dh m))else if 10000<=j/\j<10000+m then none else z.H j} K:=by
  intro d
  induction d with
  |zero => intro m hm;have : m = n := by omega
           subst this;exact h
  |succ d aZ =>
   intro m hm;have Rf:m<n:=atw
   refine W.aqs (10000+m) q (v:=v m) (xs:=xs m) (b3:=dh m) (zm:=dh (m+1)) (b:=b) (k:=k) (e:=e) ?_ ?_ atw (hi m Rf).1 (hi m Rf).2 ?_
   ·show(if 10000+m=q then _ else if _ then none else z.H (10000+m))=_;rw[atH atw,atH atw];exact ae m Rf
   ·show(if q=q then _ else _)=_;rw[atI rfl]
   have bV:({t:=z.t,H:=λj=>if j=q then some (.mp b (dh (m+1)))else if 10000<=j/\j<10000+(m+1)then none else z.H j}:au)=(au.bZ (au.bZ {t:=z.t,H:=λj=>if j=q then some (.mp b (dh m))else if 10000<=j/\j<10000+m then none else z.H j} (10000+m) none) q (some (.mp b (dh (m+1))))):=by
    unfold au.bZ;dsimp only;congr 1
    funext j
    by_cases h1:j=q
    ·subst h1;rw[au1,atI rfl];rfl
    rw[au' h1,atH h1];by_cases A:j=10000+m
    ·subst A;rw[au1,atI atw];rfl
    rw[au' A];simp only[auW];by_cases Z:10000<=j/\j<10000+m
    ·rw[atI atw,atH h1,atI Z]
    rw[atH atw,atH h1,atH Z]
   rw[<-bV];exact aZ (m+1) atw
 have h1:=key n 0 atw
 have bV:({t:=z.t,H:=λj=>if j=q then some (.mp b (dh 0))else if 10000<=j/\j<10000+0 then none else z.H j}:au)=z:=by
  have:(λj=>if j=q then some (aJ.mp b (dh 0))else if 10000<=j/\j<10000+0 then none else z.H j)=z.H:=by
   funext j
   by_cases aa:j=q
   ·subst aa;rw[atI rfl,h0]
   rw[atH aa,atH atw]
  rw[this]
 rwa [bV]at h1
end Go.bR
namespace Go.bR.ck
open Go Go.Proofs
variable{B:World}
def qu(az:List c0)(d:atG):List atG:=(az.filter λf=>f.data==d).map (·.path)
def hJ(az:List c0)(d:atG):Nat:=az.findIdx λf=>f.data==d
variable{az:List c0}
theorem Rg{f:c0}(h:f∈az):hJ az f.data<az.length:=List.findIdx_lt_length_of_exists ⟨f,h,by simp⟩
theorem Rh{f:c0}(h:f∈az):(az.getD (hJ az f.data) ⟨[],[]⟩).data=f.data:=by have al:=Rg h;have:=List.findIdx_getElem (xs:=az) (p:=λg:c0=>g.data==f.data) (w:=al);rw[avv,atK al];exact eq_of_beq this
def lC(az:List c0)(i k:Nat):List atG:=if hJ az (az.getD k ⟨[],[]⟩).data=k/\(az.getD k ⟨[],[]⟩).data≠[]then qu (az.take i) (az.getD k ⟨[],[]⟩).data else[]
theorem Ri{f:c0}(h:f∈az)(N:f.data≠[])(i:Nat):lC az i (hJ az f.data)=qu (az.take i) f.data:=by unfold lC;rw[Rh h,atI ⟨rfl,N⟩]
variable{i:Nat}
theorem aa1(h:i<az.length)(d:atG):qu (az.take (i+1)) d=qu (az.take i) d++if az[i].data=d then[az[i].path]else[]:=by unfold qu;rw[atM h,auY,auq,auM];by_cases N:az[i].data=d;rw[atI N,atI (by simpa using N)];rfl;rw[atH N,atH (by simpa using N)];rfl
variable{k:Nat}
theorem Rj(h:i<az.length)(Y:k≠hJ az az[i].data\/az[i].data=[]):lC az (i+1) k=lC az i k:=by unfold lC;split;rename_i hc;rw[aa1 h,atH,auG];intro e;rcases Y with Y|Y;rw[e]at Y;exact Y hc.1.symm;exact hc.2 (e.symm.trans Y);rfl
theorem Rk(az:List c0)(d:atG):(qu az d).length<=az.length:=by rw[qu,atL];exact aum _ _
def ss(az:List c0)(vs:Nat->Value)(i:Nat):bE:=λk=>if 10000<=k/\k<10000+az.length then some (.row (vs (k-10000)) (aN (lC az i (k-10000))) 1 9)else none
theorem G1(az:List c0)(vs:Nat->Value)(i:Nat):pf (ss az vs i):=λk o h=>by
 unfold ss at h;split at h
 ·omega
 cases h
theorem aa2{vs:Nat->Value}(h:k<az.length):ss az vs i (10000+k)=some (.row (vs k) (aN (lC az i k)) 1 9):=by unfold ss;rw[atI atw,auR]
variable{fW:Nat->Value}{v:Value}{row:List D}
theorem aa3{vs:Nat->Value}{m nT:Nat}(X:fW i=v)(fy:∀j,j≠i->fW j=vs j)(ae:aN (lC az nT i)=row)(uB:∀j,j≠i->lC az nT j=lC az m j):
  ∀k o,ss az fW nT k=some o->10000<=k/\((k=10000+i/\o=.row v row 1 9)\/(k≠10000+i/\kO (ss az vs m) (10000+i) k=some o)):=λk o h=>by
 unfold ss at h;split at h
 ·rename_i Y;refine⟨Y.1,?_⟩;by_cases fA:k=10000+i
  ·subst fA;rw[auR,X,ae]at h;exact .inl ⟨rfl,(auD h).symm⟩
  refine .inr ⟨fA,?_⟩;unfold kO ss;rw[au' fA,atI Y,<-uB (k-10000) atw,<-fy (k-10000) atw];exact h
 cases h
variable{b:Nat}
theorem aqu{H:bE}(hH:H 11=some (.mp b [])){o:aJ}(h:cM [(11,.mp b [])] (ss az (λ_=>.slice none 0 0) 0) k=some o):(if 10000<=k/\k<10000+az.length then some (.row (.slice none 0 0) [] 1 9)else H k)=some o:=by unfold cM aL ss at h;by_cases Y:k=11;subst Y;rw[atH atw,hH];exact h;rw[au' Y]at h;simp only[auW,aL]at h;split at h;rename_i ae;rw[atI ae];(have:lC az 0 (k-10000)=[]:=by unfold lC qu;simp);rw[this]at h;exact h;cases h
structure pF (az:List c0) (l:List (atG×Value)) (vs:Nat->Value) (i:Nat):Prop where
 h1:∀x∈l,x.1≠[]/\∃f∈az,f.data=x.1/\x.2=vs (hJ az x.1)
 A:∀f∈az,f.data≠[]->bK l f.data=none->vs (hJ az f.data)=.slice none 0 0
 Z:∀f∈az.take i,f.data≠[]->(bK l f.data).isSome=true
variable{α:Type}
theorem Rl{l:List (atG×α)}{q:atG}{v:α}(h:bK l q=some v):(q,v)∈l:=by
 unfold bK at h;obtain⟨x,F,rfl⟩:=auP.1 h;have h1:=awe F;have A:=aw_ F;have:x.1=q:=by simpa using A
 rw[<-this];exact h1
theorem pF.get{l:List (atG×Value)}{vs:Nat->Value}(h:pF az l vs i){f:c0}(M:f∈az)(N:f.data≠[]):jm (bn D.ai l) (.O f.data)=some (.ai (vs (hJ az f.data)))\/(jm (bn D.ai l) (.O f.data)=none/\vs (hJ az f.data)=.slice none 0 0):=by rw[Jl];cases aW:bK l f.data with|none=>exact .inr ⟨rfl,h.A f M N aW⟩|some v =>obtain⟨_,g,l2,y7,w3⟩:=h.h1 _ (Rl aW);exact .inl (atJ (λV=>some (D.ai V)) w3)
theorem aa4{f g:c0}(M:f∈az)(aW:g∈az)(h:hJ az f.data=hJ az g.data):f.data=g.data:=by rw[<-Rh M,h,Rh aW]
theorem aqv{l:List (atG×α)}{k:atG}{v:α}{x:atG×α}(h:x∈eD l k v):(x=(k,v))\/(x∈l/\x.1≠k):=by unfold eD at h;split at h;obtain⟨y,hy,ao⟩:=aub.1 h;by_cases Y:y.1=k;rw[atI (by simpa using Y)]at ao;rw[Y]at ao;exact .inl ao.symm;rw[atH (by simpa using Y)]at ao;subst ao;exact .inr ⟨hy,Y⟩;rename_i aw;rcases aue.1 h with h|h;refine .inr ⟨h,λe=>?_⟩;unfold bK at aw;rw[av5,avj]at aw;exact aw x h (by simpa using e);exact .inl (by simpa using h)
theorem pF.set{l:List (atG×Value)}{vs:Nat->Value}(h:pF az l vs i)(hi:i<az.length)(N:az[i].data≠[])(v:Value):pF az (eD l az[i].data v) (λj=>if j=hJ az az[i].data then v else vs j) (i+1):=by have hm:=atO hi;refine⟨λx F=>?_,λf M ol aW=>?_,λf M ol=>?_⟩;rcases aqv F with rfl|⟨F,a7⟩;exact⟨N,az[i],hm,rfl,(atI rfl).symm⟩;obtain⟨h1,f,M,zn,A⟩:=h.h1 x F;refine⟨h1,f,M,zn,?_⟩;rw[A];exact(atH λe=>a7 (by rw[<-zn];exact aa4 M hm (by rw[zn];exact e))).symm;rw[my]at aW;split at aW;cases aW;rename_i a7;show(if _ then _ else _)=_;rw[atH λe=>a7 (aa4 M hm e)];exact h.A f M ol aW;rw[my];split;rfl;rename_i a7;rw[atM hi,aue]at M;rcases M with M|M;exact h.Z f M ol;(have:f=az[i]:=by simpa using M);subst this;exact absurd rfl a7
theorem pF.skip{l:List (atG×Value)}{vs:Nat->Value}(h:pF az l vs i)(hi:i<az.length)(N:az[i].data=[]):pF az l vs (i+1):=by refine⟨h.h1,h.A,λf M ol=>?_⟩;rw[atM hi,aue]at M;rcases M with M|M;exact h.Z f M ol;(have:f=az[i]:=by simpa using M);subst this;exact absurd N ol
theorem pF.zero(az:List c0):pF az [] (λ_=>.slice none 0 0) 0:=⟨λx F=>(by cases F),λ_ _ _ _=>rfl,λf M=>(by simp at M)⟩
def ou(l:List atG):D:=.Q .none 1 (aN l)
def pG(az:List c0)(d:atG):List atG:=if d=[]then[]else qu az d
def KR(az:List c0)(f:c0):Bool:=bif decide (1<((pG az f.data).length:Int))then(pG az f.data).getD 0 []==f.path else false
def tw(az:List c0)(l:List c0):List (List atG):=(l.filter (KR az)).map λf=>pG az f.data
theorem aqw(az:List c0){l:List c0}(h:i<l.length):tw az (l.take (i+1))=tw az (l.take i)++if KR az l[i]=true then[pG az l[i].data]else[]:=by unfold tw;rw[atM h,auY,auq,auM];split<;>rfl
theorem aa5(az l:List c0):(tw az l).length<=l.length:=by rw[tw,atL];exact aum _ _
def hq(m:fv)(b:Bool):fv:={m with pn:=b}
theorem aqx(p:dl)(b:Bool)(s aj:Int×Int):eL {p with m:=hq p.m b} s aj=({(eL p s aj).1 with m:=hq (eL p s aj).1.m b},(eL p s aj).2):=by have h1:uG {p with m:=hq p.m b}=uG p:=rfl;have A:cX {p with m:=hq p.m b}=cX p:=rfl;(have Z:ja {p with m:=hq p.m b} s={ja p s with m:=hq (ja p s).m b}:=by unfold ja;rw[h1];split<;>rfl);unfold eL;rw[h1,A,Z];split;rfl;split<;>rfl
theorem aqy(n:ad)(m:fv)(b:Bool)(mp:List (atG×cP))(start:Int):hz n (hq m b) mp start={hz n m mp start with m:=hq (hz n m mp start).m b}:=rfl
theorem aa6(p wY:dl):∀(l:List c0) (s bo:v7),s.data=bo.data->(l.foldl (iq p) s).data=(l.foldl (iq wY) bo).data
 |[],s,bo,h=>h
 |f::r,s,bo,h=>by(have N:∀(p:dl) (s:v7),(iq p s f).data=eD s.data f.path f.data:=λp s=>by unfold iq;split<;>rfl);rw[au0,au0];exact aa6 p wY r _ _ (by rw[N,N,h])
theorem aqz(data:List (atG×atG))(q:atG):0<=sr data q:=aqp (by unfold G0;omega)
theorem aa7{p:dl}{T:List Int}{data:List (atG×atG)}:∀(o:List atG) (s:lY) (b:Int),s.a<=b->(h3 p T data s o).a<=Dr T (o.map (sr data)) b
 |[],s,b,h=>h
 |q::r,s,b,h=>by have e:h3 p T data s (q::r)=h3 p T data (m9 p T data s q) r:=rfl;rw[e,aui,Re];refine aa7 r _ _ ?_;unfold m9;split;have:=(Rd T (sr data q) b).1;have:=aqz data q;omega;exact aqm h (auN _)
theorem aqA{P:dl}{c:Int}(h:nF {P with m:=hq P.m false} c=true):nF P c=true:=by have bf:lZ {P with m:=hq P.m false} c=lZ P c:=rfl;have Ll:lp {P with m:=hq P.m false} (lZ P c)=lp P (lZ P c):=rfl;have tj:m_ {P with m:=hq P.m false} c=m_ P c:=rfl;(have ha:(jW P c).a<=(jW {P with m:=hq P.m false} c).a:=by have h0:(jW {P with m:=hq P.m false} c).a=Dr (lZ P c) (P.cW.map (sr (i' {P with m:=hq P.m false} P.files).data)) (lp P (lZ P c)).2 := (aa0 (p:={P with m:=hq P.m false}) rfl P.cW _ (aaZ (p:={P with m:=hq P.m false}) rfl P.files ⟨[],[],[]⟩ rfl)).2.1;have N:(i' {P with m:=hq P.m false} P.files).data=(i' P P.files).data:=aa6 _ _ P.files ⟨[],[],[]⟩ ⟨[],[],[]⟩ rfl;rw[h0,N];exact aa7 P.cW _ _ (auN _));unfold nF at h⊢;rw[bf,tj]at h;cases h1:decide ((jW {P with m:=hq P.m false} c).a<=m_ P c)with|false=>rw[h1]at h;cases h|true =>rw[h1]at h;have:=aua h1;rw[auC (by omega:(jW P c).a<=m_ P c)];exact h
variable{aV:List cP}{start:Int}
theorem aqB{n:ad}{m:fv}{l:r4}(h:aaD n m aV start l):∃mp e c,jA n m aV start=some mp/\rk (hz n (hq m false) mp start) (jz (gM m) n) (iu n m.dp)=(c,e)/\(e=0\/e=12)/\(e=0->l.C<=c):=by obtain⟨mp,P,i,ah,gk,hs,hi,M,al,rfl⟩:=h.cp;refine⟨mp,(rk (hz n (hq m false) mp start) (jz (gM m) n) (iu n m.dp)).2,(rk (hz n (hq m false) mp start) (jz (gM m) n) (iu n m.dp)).1,ah,rfl,?_⟩;unfold rk;rw[aqy,aqx,gk];dsimp only;rw[atI rfl];unfold q_;cases xr:xq {P with m:=hq P.m false} (4096-P.start).toNat with|none=>exact⟨.inr rfl,λh=>by cases h⟩|some j =>obtain⟨h1,A,_⟩:=aaE xr;refine⟨.inl rfl,λ_=>?_⟩;show(i:Int)+1<=(j:Int)+1;have Z:=aqA A;rcases at3 j i with e9|e9;rw[al j e9]at Z;cases Z;omega
structure xO (mp:List (atG×cP)) (data:List (atG×atG)) (done:List atG) (s:lY):Prop where
 own:∀q,bK mp q=none->(bK s.own q).isSome=true->q∈done
 aQ:∀q∈done,∃x,bK s.aQ ((bK data q).getD [])=some x/\∀y,bK s.own q=some y->y.start=x.start
variable{mp:List (atG×cP)}{T:List Int}{data:List (atG×atG)}
theorem xO.next{p:dl}(hs:p.m.pn=true){done:List atG}{s:lY}(h:xO mp data done s){q:atG}(G:bK mp q=none)(kW:q∉done):xO mp data (q::done) (m9 p T data s q):=by(have ff:bK s.own q=none:=by cases ah:bK s.own q with|none=>rfl|some y=>exact absurd (h.own q G (by rw[ah];rfl)) kW);unfold m9;split;rename_i Y;refine⟨λx F Ds=>atY _ (h.own x F Ds),λx F=>?_⟩;rcases at5.1 F with rfl|F;obtain⟨y,hy⟩:=avB.1 Y;exact⟨y,hy,λV bC=>by rw[ff]at bC;cases bC⟩;exact h.aQ x F;rename_i Y;refine⟨λx F Ds=>?_,λx F=>?_⟩;dsimp only at Ds;rw[my]at Ds;by_cases aa8:x=q;subst aa8;exact atU;rw[atH aa8]at Ds;exact atY _ (h.own x F Ds);dsimp only;rcases at5.1 F with rfl|F;refine⟨_,by rw[my,atI rfl],λy hy=>?_⟩;rw[my,atI rfl]at hy;cases hy;rfl;obtain⟨V,wi,Gy⟩:=h.aQ x F;have a7:x≠q:=λe=>kW (e ▸ F);refine⟨V,?_,λy hy=>?_⟩;rw[my,atH];exact wi;intro e;rw[e]at wi;exact Y (by rw[wi];rfl);rw[my,atH a7]at hy;exact Gy y hy
theorem xO.all{p:dl}(hs:p.m.pn=true){mp:List (atG×cP)}{T:List Int}{data:List (atG×atG)}:∀(o:List atG) (done:List atG) (s:lY),xO mp data done s->o.Nodup->(∀q∈o,bK mp q=none/\q∉done)->
  xO mp data (o.reverse++done) (h3 p T data s o)
 |[],done,s,h,_,_=>h
 |q::r,done,s,h,aw,G=>by
  rw[avD]at aw;have h1:=h.next hs (T:=T) (G q atU).1 (G q atU).2
  have A:=xO.all hs (T:=T) r (q::done) _ h1 aw.2 λx F=>⟨(G x (atY _ F)).1,λhm=>by
   rcases at5.1 hm with rfl|hm
   ·exact aw.1 F
   exact(G x (atY _ F)).2 hm⟩
  rw[avJ,aup];exact A
theorem aqC{n:ad}{m:fv}(hm:m.pn=true)(ah:jA n m aV start=some mp){P:dl}{c:Int}(aqD:P.files=ch n)(aqE:P.cW=jB aV (ch n))(aqF:P.aV=mp)(aqG:P.m=m): ∃aY:atG->Int,∀f∈ch n,f.data≠[]->aV.any (λg=>g.path==f.path)=false->(hx (jW P c) f).start=aY f.data:=by have kW:=aaV n;(have r_:P.m.pn=true:=by rw[aqG];exact hm);(have ci:∀q,(bK mp q).isSome=aV.any λg=>g.path==q:=λq=>by unfold jA at ah;split at ah;cases ah;have:=Q5 aV [] mp ah q;rw[this];simp[bK]);have tZ:(jB aV (ch n)).Nodup:=(List.filter_sublist.map (λf:c0=>f.path)).nodup kW;(have lG:∀f∈ch n,f.data≠[]->aV.any (λg=>g.path==f.path)=false->f.path∈jB aV (ch n):=λf M N aW=>by refine aub.2 ⟨f,auw.2 ⟨M,?_⟩,rfl⟩;have A:=El (λg:cP=>g.path==f.path) aV;rw[aW]at A;have:=at2 A;unfold Di;rw[show(f.data !=[])=true by simpa using N,auC atw];rfl);(have Dj:∀q∈jB aV (ch n),bK mp q=none:=λq G=>by obtain⟨f,rF,rfl⟩:=aub.1 G;obtain⟨ya,yp⟩:=auw.1 rF;(have:(bK mp f.path).isSome=false:=by rw[ci];unfold Di at yp;cases N:f.data !=[]with|false=>rw[N]at yp;cases yp|true =>rw[N]at yp;have bf:fd (λg:cP=>g.path==f.path) aV<0:=aua yp;rw[<-El];exact auk atw);cases h:bK mp f.path with|none=>rfl|some x=>rw[h]at this;cases this);obtain⟨aqH,_⟩:=aaX (p:=P) (ch n) ⟨[],[],[]⟩ kW;have tK:=aaY (p:=P) (ch n) ⟨[],[],[]⟩;(have ji:jW P c=h3 P (lZ P c) ((ch n).foldl (iq P) ⟨[],[],[]⟩).data ⟨((ch n).foldl (iq P) ⟨[],[],[]⟩).own,((ch n).foldl (iq P) ⟨[],[],[]⟩).aQ,(lp P (lZ P c)).2⟩ (jB aV (ch n)):=by unfold jW uE i';rw[aqD,aqE]);generalize(ch n).foldl (iq P) ⟨[],[],[]⟩=fu at*;(have h0:xO mp fu.data [] ⟨fu.own,fu.aQ,(lp P (lZ P c)).2⟩:=by refine⟨λq G hs=>?_,λq G=>by cases G⟩;dsimp only at hs;rw[tK q,aqF,atH (by rw[G];simp)]at hs;exact absurd hs (by simp[bK]));have lm:=xO.all r_ (T:=lZ P c) (jB aV (ch n)) [] _ h0 tZ λq G=>⟨Dj q G,by simp⟩;rw[<-ji,auG]at lm;refine⟨λd=>((bK (jW P c).aQ d).getD f').start,λf M N aW=>?_⟩;obtain⟨x,xm,AN⟩:=lm.aQ f.path (aw0.2 (lG f M N aW));rw[aqH f M]at xm;have Rm:bK (jW P c).aQ f.data=some x:=xm;show _=((bK (jW P c).aQ f.data).getD f').start;rw[Rm];unfold hx;cases I:bK (jW P c).own f.path with|none =>rw[atI];rw[Rm];unfold v8;rw[I,Rm,show(f.data !=[])=true by simpa using N];rfl|some y =>rw[atH];exact AN y I;unfold v8;rw[I];simp
def uZ(az:List c0)(l:List (atG×Value))(m:Nat):List (D×D):=l.map λx=>(.O x.1,if hJ az x.1<m then ou (lC az az.length (hJ az x.1))else .ai x.2)
def Dt(az:List c0)(l:List (atG×Value)):List (atG×List atG):=l.map λx=>(x.1,qu az x.1)
theorem aqI(az:List c0)(l:List (atG×Value)):uZ az l 0=bn D.ai l:=by unfold uZ bn;exact av3 λx _=>by rw[atH atw]
theorem aqJ{l:List (atG×Value)}{vs:Nat->Value}(h:pF az l vs az.length):uZ az l az.length=bn ou (Dt az l):=by unfold uZ bn Dt;rw[avN];refine av3 λx F=>?_;obtain⟨h1,f,M,zn,A⟩:=h.h1 x F;(have al:hJ az x.1<az.length:=by rw[<-zn];exact Rg M);(have ae:lC az az.length (hJ az x.1)=qu az x.1:=by rw[<-zn,Ri M (by rw[zn];exact h1),atX]);show(D.O x.1,if _ then _ else _)=(D.O x.1,ou (qu az x.1));rw[atI al,ae]
theorem aqK{l:List (atG×Value)}{vs:Nat->Value}(h:pF az l vs az.length)(m:Nat):(uZ az l (m+1)).length=(uZ az l m).length/\∀(i:Nat) cq d,(uZ az l (m+1))[i]?=some (cq,d)->∃eX,(uZ az l m)[i]?=some (cq,eX)/\(d=eX\/(eX=.ai (vs m)/\d=.Q .none 1 (aN (lC az az.length m)))):=by refine⟨by simp[uZ],λi cq d N=>?_⟩;unfold uZ at N⊢;rw[aud]at N⊢;cases F:l[i]? with|none=>rw[F]at N;cases N|some x =>rw[F]at N;simp only[au7,aus,awW]at N;obtain⟨rfl,rfl⟩:=N;refine⟨_,rfl,?_⟩;obtain⟨h1,f,M,zn,A⟩:=h.h1 x (at1 F);by_cases hm:hJ az x.1<m;rw[atI atw,atI hm];exact .inl rfl;by_cases qQ:hJ az x.1=m;rw[atI atw,atH hm,A,qQ];exact .inr ⟨rfl,rfl⟩;rw[atH atw,atH hm];exact .inl rfl
theorem aqL{l:List (atG×α)}{q:atG}(h:∀x∈l,x.1≠q):bK l q=none:=by unfold bK;rw[av5,avj];exact λx F=>by simpa using h x F
theorem aqM{l:List (atG×Value)}{vs:Nat->Value}(h:pF az l vs az.length){f:c0}(M:f∈az):(bK (Dt az l) f.data).getD []=pG az f.data:=by
 unfold pG;split
 ·rename_i N;rw[aqL];· rfl
  intro x F;obtain⟨y,hy,rfl⟩:=aub.1 F;rw[N];exact(h.h1 y hy).1
 rename_i N;have hs:=h.Z f (by rw[atX];exact M) N;obtain⟨v,X⟩:=avB.1 hs;have hm:=Rl X
 have:(bK (Dt az l) f.data).isSome=true:=by
  unfold bK Dt;rw[Option.isSome_map,List.find?_isSome];exact⟨(f.data,qu az f.data),aub.2 ⟨_,hm,rfl⟩,by simp⟩
 obtain⟨w,cz⟩:=avB.1 this;rw[cz];obtain⟨y,hy,Rn⟩:=aub.1 (Rl cz);simp only[awW]at Rn;rw[<-Rn.2,Rn.1];rfl
theorem aqN(l:List atG)(h:l.length<1000000):aU B 66 [ou l] (ou l):=by(have eJ:(aN l).length=l.length:=by simp[aN]);show aU B 66 [.Q .none 1 (aN l)] (.Q .none 1 (aN l));generalize aN l=xs at*;refine fn Tryz.func66 Tryz.ntmps66 λU=>?_;refine go ?_;refine .inr (af.Ht (bI:=9) aM rfl rfl rfl λkt nV=>?_);refine go ?_;refine aK _ rfl ?_ ?_<;>intro hc;rw[nV hc];refine go ?_;exact aq.nil;apply co;apply el;refine W.Hz aM ?_;(conv=>whnf);refine⟨rfl,ak,.inr (af.Ss (q:=100) aM rfl rfl rfl rfl rfl rfl ?_)⟩;(conv=>whnf);refine⟨rfl,ak,λv0=>?_⟩;refine ic ?_;by_cases h0:0<xs.length;refine⟨rfl,ak,.inr (af.nU aM 100 rfl rfl rfl atD rfl rfl rfl h0 (by show(0+_)*16<=_;omega) (by show 0+_<=_;omega) λbJ m cap=>?_)⟩;refine ic ?_;refine C5 7 2 ?_;refine go ?_;exact E;have F:xs=[]:=atZ atw;refine⟨rfl,ak,.inr (af.S1 aM 100 rfl rfl rfl rfl rfl rfl F ?_)⟩;refine ic ?_;refine C5 100 2 ?_;refine go ?_;rw[F];exact E
theorem aqO(w:World)(C:Nat->Nat):bh w C (ou []) (.slice none 0 0):=.iP _ _ none trivial
theorem aqP(a1:db B)(n:ad)(aw:fr n)(dg:(ch n).length<100000):aU B 22 [aE n] (.Q .none 1 ((tw (ch n) (ch n)).map ou)):=by have aqQ:=Jk (B:=B) a1 n aw;generalize ch n=az at*;have dm:(az.map dG).length=az.length:=atL _;refine fn Tryz.func22 Tryz.ntmps22 λU=>?_;refine go ?_;intro dC;(conv=>whnf);refine da ?_;refine iF 1 1 12 (aE n) ?_;refine go ?_;refine .inr (af.sQ λbG=>?_);(conv=>whnf);refine go ?_;refine bs aqQ ?_;rw[dm];refine Yt az.length 1 9 ?_;refine yk (λx:Nat×List (atG×Value)×(Nat->Value)=>x.1<=az.length/\pF az x.2.1 x.2.2 x.1) [3,4,14,15] [] (λx=>[(16,u x.1)]) (λx=>[(11,.mp bG (bn D.ai x.2.1))]) (λx=>ss az x.2.2 x.1) (λx=>az.length-x.1) (0,[],λ_=>.slice none 0 0) ⟨at4 _,pF.zero az⟩ ?_ (h1:=by exact fB.same cO λk o h=>by exact aqu rfl h);rintro⟨i,b3,vs⟩ ⟨hi,uR⟩;dsimp only at hi uR;rcases at3 i az.length with ce|ce;(·have hm:=atO ce;have QL:=Rg hm;(have ao:(az.map dG)[(i:Int).toNat]?=some (dG az[i]):=by rw[auj];simp[ce]);refine W.Aa (fD:=.row (vs (hJ az az[i].data)) (aN (lC az i (hJ az az[i].data))) 1 9) 7500 (10000+hJ az az[i].data) rfl (G1 _ _ _) (aa2 QL) rfl atz λCU=>?_;refine go ?_;refine vr (t:=decide ((i:Int)<((az.length:Nat):Int))) (by simpa using ce) ?_;refine bI (dG az[i]) ao ?_;intro d_;(conv=>whnf);refine go ?_;refine iF 6 6 2 (dG az[i]) ?_;refine cb (t:=!(az[i].data==[])) ?_ ?_<;>intro hc;(·(have N:az[i].data≠[]:=by simpa using hc);have wj:=Ri hm N i;have Q7:=Ri hm N (i+1);have p_:=Rk (az.take i) az[i].data;rw[at7]at p_;(have eJ:∀l:List atG,(aN l).length=l.length:=λl=>by simp[aN]);refine go ?_;refine' eH [(11,.mp bG (bn D.ai b3)),(7500,.row (vs (hJ az az[i].data)) (aN (lC az i (hJ az az[i].data))) 1 9)] (α:=Option Addr×Nat×Nat) (none,0,0) (λy=>[_,_,_,_,_,_,.ai (vs (hJ az az[i].data)),_,.O az[i].path,.Q .dV 1 [.O az[i].path],.ai (.slice y.1 y.2.1 y.2.2),.any]) (λy=>[(10,7500,none),(10,33,some (.row (.slice y.1 y.2.1 y.2.2) (aN (lC az i (hJ az az[i].data))++[.O az[i].path]) 1 9)),(11,11,some (.mp bG (ml (bn D.ai b3) (.O az[i].data) (.ai (.slice y.1 y.2.1 y.2.2)))))]) [0,0,2,0,0,16,56,0,128,384,1016,2047] [(10,7500),(10,33),(11,11)] ?_ ?_;rotate_left 7;refine dw ?_;refine bS (λy=>PF 11 rfl rfl rfl rfl rfl rfl (Gd D.ai b3) (pF.get uR hm N) atE (cw y)) ?_;refine bS (λy=>af.nU aM 7500 rfl rfl rfl atD rfl rfl rfl aty (by rw[eJ,wj];show(_+1)*16<=_;omega) (by rw[eJ,wj];show _+1<=_;omega) (λbJ fU cap=>dh (bJ,fU,cap))) ?_;refine bS (λy=>af.yl 11 rfl rfl rfl rfl rfl rfl (Gd D.ai b3) (cw y)) ?_;exact trivial;rintro⟨bJ,fU,cap⟩;(conv=>whnf);refine go ?_;(have ae:aN (lC az (i+1) (hJ az az[i].data))=aN (lC az i (hJ az az[i].data))++[.O az[i].path]:=by rw[wj,Q7,aa1 ce,atI rfl];simp[aN]);have g7:ml (bn D.ai b3) (.O az[i].data) (.ai (.slice bJ fU cap))=bn D.ai (eD b3 az[i].data (.slice bJ fU cap)):=Xh D.ai _ _ _;exact vu (i+1,eD b3 az[i].data (.slice bJ fU cap),λj=>if j=hJ az az[i].data then .slice bJ fU cap else vs j) ⟨ce,uR.set ce N _⟩ (t_ (fD:=.row (.slice bJ fU cap) (aN (lC az i (hJ az az[i].data))++[.O az[i].path]) 1 9) [(11,11)] (10000+hJ az az[i].data) 33 atw (y2 (G1 _ _ _) _) (aa3 (atI rfl) (λj aa=>atH aa) ae (λj aa=>Rj ce (.inl aa))) (gk:=⟨rfl,EE g7,ak⟩)));(have N:az[i].data=[]:=by simpa using hc);refine go ?_;exact vu (i+1,b3,vs) ⟨ce,uR.skip ce N⟩ (t_ (fD:=.row (vs (hJ az az[i].data)) (aN (lC az i (hJ az az[i].data))) 1 9) [(11,11)] (10000+hJ az az[i].data) 7500 atw (y2 (G1 _ _ _) _) (aa3 rfl (λj aa=>rfl) (by rw[Rj ce (.inr N)]) (λj aa=>Rj ce (.inl aa)))));(have oL:i=az.length:=by omega);subst oL;refine W.p6 rfl (G1 _ _ _) λie=>?_;refine go ?_;refine cb (t:=decide (((az.length:Nat):Int)<((az.length:Nat):Int))) (λhc=>by simp at hc) (λhc=>?_);refine W.exit ?_;(conv=>whnf);refine W.iY [(3,.ai (.map (some bG))),(4,.Q .none 2 (az.map dG))] (cM [(11,.mp bG (bn D.ai b3))] (ss az vs az.length)) (oJ [(11,11)] (G1 _ _ _)) ?_;refine W.aqt 11 az.length atz (b:=bG) (k:=1) (e:=9) (uZ az b3) vs (λm=>aN (lC az az.length m)) ?_ ?_ (λm _=>aqK uR m) ?_;rw[aqI];rfl;intro m hm;have h1:=aa2 (az:=az) (vs:=vs) (i:=az.length) hm;show cM [(11,aJ.mp bG (bn D.ai b3))] (ss az vs az.length) (10000+m)=_;unfold cM aL;rw[au' atw];exact h1;rw[aqJ uR];refine W.iY [(3,.ai (.map (some bG))),(4,.Q .none 2 (az.map dG))] (aL [(11,.mp bG (bn ou (Dt az b3)))]) (fB.same cO λk o h=>?_) ?_;simp only[aL]at h;by_cases Y:k=11;subst Y;simpa using h;rw[au' Y]at h;cases h;refine go ?_;refine W.own 7 1000 1 59 rfl (λw0=>?_);refine gf (λx:Nat×Value=>x.1<=az.length) [3,35,36] [11] (λx=>[(7,.Q (.own 1000 x.2) 1 ((tw az (az.take x.1)).map ou)),(37,u x.1)]) (λx=>[(1000,.own x.2 ((tw az (az.take x.1)).map ou).length 1 59)]) (λx=>az.length-x.1) (0,w0) (at4 _) [(11,11),(1000,1000)] ?_;rintro⟨i,w⟩ Pm;dsimp only at Pm⊢;refine go ?_;rw[dm];refine cb (t:=decide ((i:Int)<(az.length:Nat))) ?_ ?_<;>intro bu;(have ce:i<az.length:=by have:=aua bu;omega);have hm:=atO ce;(have ao:(az.map dG)[(i:Int).toNat]?=some (dG az[i]):=by rw[auj];simp[ce]);have jZ:=aqM uR hm;have xH:=aqw az ce;have p_:=aa5 az (az.take i);rw[at7]at p_;(have atk:(pG az az[i].data).length<=az.length:=by unfold pG;split;simp;exact Rk _ _);(have eJ:∀g:List atG,(aN g).length=g.length:=λg=>by simp[aN]);have DL:KR az az[i]=bif decide (1<((pG az az[i].data).length:Int))then(pG az az[i].data).getD 0 []==az[i].path else false:=rfl;refine go ?_;intro ij;(conv=>whnf);refine go ?_;refine .inr (af.nE 11 (dS:=9) (dZ:=59) (enc:=ou) (V:=[]) rfl rfl rfl rfl rfl atE (λw C=>aqO w C) ?_);rw[jZ];generalize pG az az[i].data=g at*;have KS:=eJ g;have aqR:=aqN (B:=B) g atw;(conv=>whnf);refine go ?_;refine⟨.O (g.getD 0 []),λh=>?_,?_⟩;have h1:=aua h;rw[KS]at h1;(cases g with|nil=>simp at h1|cons a r=>rfl);(conv=>whnf);refine go ?_;rw[KS];refine cb (t:=bif decide (1<(g.length:Int))then g.getD 0 []==az[i].path else false) ?_ ?_<;>intro dK;rw[DL,dK,atI rfl]at xH;refine go ?_;refine bs aqR ?_;intro gm;(conv=>whnf);refine go ?_;(have rB:(tw az (az.take i)).map ou++[ou g]=(tw az (az.take (i+1))).map ou:=by rw[xH];simp);exact eI (i+1,gm) [(11,11),(1000,60)] ce (A:=⟨⟨E,E,E,aq.jK rB,sN,ak⟩,rfl,rfl,rfl,rfl,j2 (by rw[<-rB,atP];rfl),ak⟩);rw[DL,dK,atH atz,auG]at xH;refine go ?_;refine eI (i+1,w) [(11,11),(1000,1000)] ce (A:=?_);dsimp only;rw[xH];exact⟨cO,rfl,cO⟩;(have ci:i=az.length:=by have:=at2 bu;omega);subst ci;rw[atX];refine go ?_;exact .iw _
def wB(ep:List cP):List (atG×Int):=ep.foldl (λm f=>eD m f.path f.start) []
theorem aqS{ep:List cP}(h:i<ep.length):wB (ep.take (i+1))=eD (wB (ep.take i)) ep[i].path ep[i].start:=by unfold wB;rw[atM h,auT];rfl
theorem aa9:∀(ep:List cP) (m:List (atG×cP)) (nT:List (atG×Int)),(∀q,bK nT q=(bK m q).map (·.start))->∀q,bK (ep.foldl (λm f=>eD m f.path f.start) nT) q=(bK (ep.foldl (λm f=>eD m f.path f) m) q).map (·.start)
 |[],m,nT,h,q=>h q
 |f::r,m,nT,h,q=>by rw[au0,au0];refine aa9 r _ _ (λq=>?_) q;rw[my,my];split;rfl;exact h q
variable{s:atG}
theorem aa_{n:ad}{d:atG}(h:s∈qu (ch n) d):∃f∈ch n,f.path=s/\f.data=d/\(en n s).2=0/\(en n s).1.dW=d:=by obtain⟨f,M,rfl⟩:=aub.1 h;obtain⟨rF,ya⟩:=auw.1 M;(have N:f.data=d:=by simpa using ya);refine⟨f,rF,rfl,N,?_⟩;obtain⟨p,_,pv⟩:=awo.1 rF;unfold h2 at pv;split at pv;rename_i hi;cases pv;unfold F_ at hi;refine⟨?_,N⟩;(cases h0:(en n p).2==0 with|true=>simpa using h0|false=>rw[h0]at hi;cases hi);cases pv
theorem aqT(a1:db B)(lm:aU B 9 [] (.bool true))(n:ad)(m:fv)(aV:List cP)(start:Int)(aw:fr n)(hm:m.name.length+m.set.length+m.pl.length+m.pm.length+m.lP.length<1000000000)(aW:aV.length<1000000)(l2:∀g∈aV,g.len<=9223372036854775807)(oN:m.gL.length<1000000): aU B 6 [aE n,ih m,.Q .none 3 (aV.map bl),u start] (.bool true):=by have Ro:=aps (B:=B) a1 n (hq m true) aV start aw hm aW l2 oN;have GP:=@apw n (hq m true) aV start;generalize zl n (hq m true) aV start=R at*;obtain⟨l,ok⟩:=R;have p_:(aV.map bl).length=aV.length:=atL _;refine fn Tryz.func6 Tryz.ntmps6 λU=>?_;refine go ?_;intro cT;(conv=>whnf);refine da ?_;intro cK;(conv=>whnf);refine da ?_;refine iF 4 4 12 (aE n) ?_;refine go ?_;refine bs lm ?_;dsimp only at Ro GP;refine bs Ro ?_;intro ij;(conv=>whnf);refine go ?_;refine cb (t:=!ok) ?_ ?_<;>intro hc;refine go ?_;exact E;(have cD:ok=true:=by simpa using hc);have ay:=GP cD;have xL:=ay.apv;(have rF:qc n 100000=true:=by unfold tu at xL;cases h1:qc n 100000 with|true=>rfl|false=>rw[h1]at xL;cases xL);obtain⟨mp,e,c,ah,mY,ao,jE⟩:=aqB ay;(have Rc:aU B 20 [aE n,ih (hq m false),.Q .none 3 (aV.map bl),u start] (.bp [u c,u e]):=by have h:=aay (B:=B) a1 n (hq m false) aV start mp aw rF aW l2 oN ah;rw[show rk (hz n (hq m false) mp start) (jz (gM (hq m false)) n) (iu n (hq m false).dp)=(c,e)from mY]at h;exact h);(have Rp:valid n=true:=by have h:=ah;unfold jA Kx at h;cases X:valid n with|true=>rfl|false=>rw[X]at h;simp at h);(have AY:fC n<=256:=by have h:=Rp;rw[vW,atN]at h;exact aua h.1);have xr:=KL n;obtain⟨aqU,P,i0,vV,gk,QX,kP,hS,_,aa'⟩:=ay.cp;have Y:=aaC (hz n (hq m true) aqU start) (jz (gM (hq m true)) n) (iu n (hq m true).dp);rw[gk]at Y;(have Rq:l.files=(ch n).map (hx (jW P ((i0:Int)+1))):=by rw[aa'];show P.files.map _=_;rw[Y.2.1];rfl);obtain⟨aY,a6⟩:=aqC (m:=hq m true) rfl vV (P:=P) (c:=(i0:Int)+1) Y.2.1 (by rw[Y.2.2.1];exact Q6 vV) Y.2.2.2.1 Y.2.2.2.2.1;(have o2:∀f∈ch n,bK (wB l.files) f.path=some (hx (jW P ((i0:Int)+1)) f).start:=λf M=>by(have Du:∀f,(hx (jW P ((i0:Int)+1)) f).path=f.path:=λf=>by unfold hx;split<;>rfl);(have kW:(l.files.map (·.path)).Nodup:=by rw[Rq,avN];rw[show((λf:cP=>f.path) ∘ hx (jW P ((i0:Int)+1)))=λf:c0=>f.path from funext λf=>Du f];exact aaV n);have h1:=(aaW l.files [] kW).1 (hx (jW P ((i0:Int)+1)) f) (by rw[Rq];exact aub.2 ⟨f,M,rfl⟩);rw[Du]at h1;unfold wB;rw[aa9 l.files [] [] (λq=>rfl) f.path,h1];rfl);have aqV:=aqP (B:=B) a1 n aw atw;have aba:=λ(s:atG) (hs:s.length<1000000000)=>Ol (B:=B) a1 s hs n aw Rp;clear Ro GP ay gk hS aa' Y vV kP;have aqW:(l.files.map bl).length=l.files.length:=atL _;(have s2:l.files.length<=256:=by rw[Rq,atL];omega);refine iF 9 9 16 (lV l) ?_;refine go ?_;refine bs Rc ?_;(have aqX:(bif (bif !(e==0)then !(e==12)else false)then true else(bif e==0 then decide (c<l.C)else false))=false:=by rcases ao with rfl|rfl;have:=jE rfl;rw[auk atw];rfl;rfl);refine z' aqX ?_;refine .inr (af.makeMap λbk=>?_);(conv=>whnf);refine go ?_;rw[p_];refine gf (λi:Nat=>i<=aV.length) [4,9,13,68,69] [] (λi=>[(70,u i)]) (λi=>[(67,.set bk ((aV.take i).map (·.path)).reverse)]) (λi=>aV.length-i) 0 (at4 _) [(67,67)] ?_;rintro i hi;refine go ?_;refine cb (t:=decide ((i:Int)<(aV.length:Nat))) ?_ ?_<;>intro bu;(have ce:i<aV.length:=by have:=aua bu;omega);(have cS:aV[i].path::((aV.take i).map (·.path)).reverse=((aV.take (i+1)).map (·.path)).reverse:=by rw[atM ce,auq,List.reverse_append];rfl);refine go ?_;intro se;(conv=>whnf);refine go ?_;refine .inr (af.BA 67 (dS:=9) (dZ:=4) rfl rfl rfl rfl rfl rfl ?_);(conv=>whnf);refine go ?_;exact eI (i+1) [(67,67)] ce (A:=by exact⟨cO,rfl,by exact⟨rfl,atJ (λV=>some (aJ.set bk V)) cS,ak⟩⟩);(have ci:i=aV.length:=by have:=at2 bu;omega);subst ci;rw[atX];refine go ?_;refine .inr (af.sQ λu9=>?_);(conv=>whnf);refine go ?_;rw[aqW];refine gf (λi:Nat=>i<=l.files.length) [4,13,16,80,81] [67] (λi=>[(82,u i)]) (λi=>[(78,.mp u9 (bn (D.int .i64) (wB (l.files.take i))))]) (λi=>l.files.length-i) 0 (at4 _) [(67,67),(78,78)] ?_;rintro i hi;refine go ?_;refine cb (t:=decide ((i:Int)<(l.files.length:Nat))) ?_ ?_<;>intro dK;(have ce:i<l.files.length:=by have:=aua dK;omega);(have cS:bn (D.int .i64) (eD (wB (l.files.take i)) l.files[i].path l.files[i].start)=bn (D.int .i64) (wB (l.files.take (i+1))):=by rw[aqS ce]);refine go ?_;intro OI;(conv=>whnf);refine go ?_;refine .inr (af.v6 78 (dS:=9) (dZ:=3) (enc:=D.int .i64) (v:=l.files[i].start) rfl rfl rfl rfl rfl rfl ?_);(conv=>whnf);refine go ?_;exact eI (i+1) [(67,67),(78,78)] ce (A:=by exact⟨cO,rfl,by exact⟨rfl,rfl,rfl,EE cS,ak⟩⟩);(have ci:i=l.files.length:=by have:=at2 dK;omega);subst ci;rw[atX];refine go ?_;refine bs aqV ?_;(have aqY:∀g∈tw (ch n) (ch n),∃d,d≠[]/\g=qu (ch n) d/\1<g.length:=λg aW=>by obtain⟨f,M,rfl⟩:=aub.1 aW;have ya:=(auw.1 M).2;(have bf:1<((pG (ch n) f.data).length:Int):=by unfold KR at ya;cases N:decide (1<((pG (ch n) f.data).length:Int))with|true=>exact aua N|false=>rw[N]at ya;cases ya);refine⟨f.data,?_,?_,by omega⟩;intro e;unfold pG at bf;rw[atI e]at bf;simp at bf;unfold pG;split;rename_i e;unfold pG at bf;rw[atI e]at bf;simp at bf;rfl);have atl:=aa5 (ch n) (ch n);generalize tw (ch n) (ch n)=cd at*;have VW:(cd.map ou).length=cd.length:=atL _;rw[VW];refine gf (λi:Nat=>i<=cd.length) [4,13,16,93,94] [67,78] (λi=>[(95,u i)]) (λ_=>[]) (λi=>cd.length-i) 0 (at4 _) [(67,67),(78,78)] ?_;rintro i hi;refine go ?_;refine cb (t:=decide ((i:Int)<(cd.length:Nat))) ?_ ?_<;>intro mo;(·(have ce:i<cd.length:=by have:=aua mo;omega);obtain⟨d,qV,hj,atm⟩:=aqY _ (atO ce);(have ao:(cd.map ou)[(i:Int).toNat]?=some (ou cd[i]):=by rw[auj];simp[ce]);generalize cd[i]=g at*;refine go ?_;refine bI (ou g) ao ?_;(have KS:(aN g).length=g.length:=by simp[aN]);(have Dk:g.length<=256:=by rw[hj];have:=Rk (ch n) d;omega);rw[KS];refine gf (λx:Nat×Int=>x.1<=g.length/\(x.2=-1\/x.2=aY d)) [4,13,16,20,93,94,95,99,100] [67,78] (λx=>[(101,u x.1),(21,u x.2)]) (λ_=>[]) (λx=>g.length-x.1) (0,-1) ⟨at4 _,.inl rfl⟩ [(67,67),(78,78)] ?_;rintro⟨j,fst⟩ ⟨aa,Rr⟩;dsimp only at aa Rr;refine go ?_;refine cb (t:=decide ((j:Int)<(g.length:Nat))) ?_ ?_<;>intro w_;(·(have oD:j<g.length:=by have:=aua w_;omega);(have PB:(aN g)[(j:Int).toNat]?=some (.O g[j]):=by rw[auj];simp[aN,oD]);(have ob:(aN g)[(0:Int).toNat]?=some (.O g[0]):=by simp[aN]);obtain⟨f,M,Du,ol,oI,abb⟩:=aa_ (n:=n) (d:=d) (s:=g[j]) (by rw[<-hj];exact atO oD);obtain⟨q8,h8,aqZ,atn,abc,abd⟩:=aa_ (n:=n) (d:=d) (s:=g[0]) (by rw[<-hj];exact atO atw);(have dg:∀f∈ch n,f.path.length<1000000000:=λf M=>by obtain⟨p,gB,j4⟩:=awo.1 M;unfold h2 at j4;split at j4;cases j4;rw[atI Rp]at gB;have:=OZ gB;(have:aC n<2200000:=by have:=aw;unfold fr at this;omega);show p.length<_;omega;cases j4);have Rs:=aba g[j] (by rw[<-Du];exact dg f M);have PP:=aba g[0] (by rw[<-aqZ];exact dg q8 h8);(have Rt:bK (wB l.files) g[j]=some (hx (jW P ((i0:Int)+1)) f).start:=by rw[<-Du];exact o2 f M);(have aq0:aV.any (λg=>g.path==f.path)=false->(hx (jW P ((i0:Int)+1)) f).start=aY d:=λh=>by rw[<-ol];exact a6 f M (by rw[ol];exact qV) h);(have aq1:g[j]∉(aV.map (·.path)).reverse->aV.any (λg=>g.path==f.path)=false:=λh=>by rw[List.any_eq_false];intro x F C1;exact h (aw0.2 (aub.2 ⟨x,F,by rw[<-Du];simpa using C1⟩)));generalize(hx (jW P ((i0:Int)+1)) f).start=Ru at*;generalize g[j]=s at*;generalize g[0]' atw=gl at*;generalize en n s=fu at*;generalize en n gl=aq2 at*;obtain⟨x,ato⟩:=fu;obtain⟨ek,atp⟩:=aq2;dsimp only at oI abb abc abd Rs PP;subst oI abc;refine go ?_;refine bI (.O s) PB ?_;refine bs Rs ?_;intro ri;(conv=>whnf);refine go ?_;refine iF 24 24 12 (aE x) ?_;clear Rs;refine' eH [(67,.set bk (aV.map (·.path)).reverse),(78,.mp u9 (bn (D.int .i64) (wB l.files)))] 0 (λy=>[_,_,_,.O gl,.bp [aE ek,u 0],_,_,_,.box 26 y 0,.any,_]) (λy=>[(8,26,some (.box y [.O [],u 0,.O [],.O [],u 0,u 0,u 0,u 0,u 0,u 0,.bj,.bj])),(9,26,some (.box y (aE ek).cells))]) [0,0,2,6,15,31,63,63,0,383,1023] [(8,26),(9,26)] ?_ ?_;rotate_left 7;refine dw ?_;refine⟨λy=>.inl ?_,?_⟩;(conv=>whnf);refine⟨_,λ_=>ob,?_⟩;exact E;refine dw ?_;refine Ej ?_;refine vs ?_;exact trivial;intro atq;(conv=>whnf);refine go ?_;refine z' (t:=bif (bif (bif !((0:Int)==0)then true else !((0:Int)==0))then true else !(x.dW==ek.dW))then true else x.dW==[]) (by rw[abb,abd];cases N:d==[]with|true=>exact absurd (by simpa using N) qV|false=>simp) ?_;refine .inr (af.Hq 67 (dS:=9) (dZ:=4) rfl rfl atE rfl rfl rfl ?_);(conv=>whnf);refine go ?_;refine cb (t:=decide (s∈(aV.map (·.path)).reverse)) ?_ ?_<;>intro ul;refine go ?_;exact eI (j+1,fst) [(67,67),(78,78)] ⟨oD,Rr⟩;have Rv:=aq0 (aq1 (at2 ul));apply co;(conv=>whnf);apply nk;by_cases h8:0<=fst;refine W.zZ aM ?_;(conv=>whnf);refine⟨rfl,.inl ?_⟩;(conv=>whnf);refine⟨rfl,.inl ?_⟩;(conv=>whnf);refine⟨rfl,.inl ?_⟩;(conv=>whnf);refine⟨rfl,_,_,rfl,rfl,.inl ⟨auC h8,.inl ?_⟩⟩;(conv=>whnf);refine⟨rfl,_,_,rfl,rfl,.inl ⟨auC h8,.inl ?_⟩⟩;(conv=>whnf);refine⟨rfl,_,_,rfl,rfl,.inl ⟨auC h8,.inr (af.nE 78 (dS:=9) (dZ:=3) (enc:=D.int .i64) (V:=0) rfl rfl rfl rfl rfl atE (λw C=>.int _ _) ?_)⟩⟩;rw[Rt];(conv=>whnf);refine⟨rfl,_,_,rfl,rfl,.inl ⟨auC h8,.inl ?_⟩⟩;(conv=>whnf);refine⟨rfl,_,_,rfl,rfl,.inl ⟨auC h8,.inl ?_⟩⟩;(conv=>whnf);refine⟨rfl,.inr (af.EB rfl (auC h8) ?_)⟩;(conv=>whnf);(have vA:fst=aY d:=by rcases Rr with rfl|h;omega;exact h);refine z' (t:=!(Ru==fst)) (by rw[Rv,vA];simp) ?_;refine .inr (af.nE 78 (dS:=9) (dZ:=3) (enc:=D.int .i64) (V:=0) rfl rfl rfl rfl rfl atE (λw C=>.int _ _) ?_);rw[Rt];(conv=>whnf);refine go ?_;exact eI (j+1,Ru) [(67,67),(78,78)] ⟨oD,.inr Rv⟩;refine W.zZ aM ?_;(conv=>whnf);refine⟨rfl,.inl ?_⟩;(conv=>whnf);refine⟨rfl,.inl ?_⟩;(conv=>whnf);refine⟨rfl,.inl ?_⟩;(conv=>whnf);refine⟨rfl,_,_,rfl,rfl,.inr ⟨auk h8,?_⟩⟩;(conv=>whnf);refine⟨rfl,_,_,rfl,rfl,.inr ⟨auk h8,?_⟩⟩;(conv=>whnf);refine⟨rfl,_,_,rfl,rfl,.inr ⟨auk h8,?_⟩⟩;(conv=>whnf);refine⟨rfl,_,_,rfl,rfl,.inr ⟨auk h8,?_⟩⟩;(conv=>whnf);refine⟨rfl,_,_,rfl,rfl,.inr ⟨auk h8,?_⟩⟩;(conv=>whnf);refine⟨rfl,.inr (af.BW rfl (auk h8) ?_)⟩;(conv=>whnf);refine go ?_;refine .inr (af.nE 78 (dS:=9) (dZ:=3) (enc:=D.int .i64) (V:=0) rfl rfl rfl rfl rfl atE (λw C=>.int _ _) ?_);rw[Rt];(conv=>whnf);refine go ?_;exact eI (j+1,Ru) [(67,67),(78,78)] ⟨oD,.inr Rv⟩);refine go ?_;exact eI (i+1) [(67,67),(78,78)] ce);(have ci:i=cd.length:=by have:=at2 mo;omega);subst ci;refine go ?_;exact E
end Go.bR.ck
