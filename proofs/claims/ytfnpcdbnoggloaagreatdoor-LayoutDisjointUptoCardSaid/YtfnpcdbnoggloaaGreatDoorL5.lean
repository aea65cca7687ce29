/- Contracts of the program's functions, part 5. No conditions of its own. -/
import Derived.Test.YtfnpcdbnoggloaaGreatDoorL4
set_option linter.unnecessarySimpa false
set_option linter.unusedSimpArgs false
set_option linter.unusedVariables false
set_option maxRecDepth 100000
set_option maxHeartbeats 16000000
namespace Go.bS.cp
open Go Go.Proofs
variable{r:Int}
theorem Pk(h:eo r=true)(e:ic r=r):0<=r/\r<128/\uH r=true:=by unfold ic at e;split at e;omega;split at e;rename_i h1;simp[eo]at h;exact⟨by omega,h1.1,h1.2⟩;subst e;decide
theorem Pl:∀{a:List Int},(∀r∈a,eo r=true/\ic r=r)->cw a=a.map λr=>UInt8.ofNat r.toNat
 |[],_=>by simp[cw]
 |r::l,h=>by obtain⟨h1,z⟩:=h r atS;obtain⟨aa,aC,_⟩:=Pk h1 z;rw[Wv,Og r aa aC,Pl λx F=>h x (atU _ F)];rfl
theorem XF{a:List Int}(h:∀r∈a,eo r=true/\ic r=r){m:Nat}(h1:1<=a.length)(z:a.length<=m)(hm:m<=64):oy (cw a) m=true:=by
 rw[Pl h,oy,uI];simp only[atL,List.all_map,atM,aup,auC,Function.comp];refine⟨by omega,by omega,by omega,λr ae=>?_⟩;obtain⟨aa,aC,a_⟩:=Pk (h r ae).1 (h r ae).2;rw[rc];have:((UInt8.ofNat r.toNat).toNat:Int)=r:=by simp;omega
 rw[this];exact a_
theorem XG{a:List Int}(h:∀r∈a,eo r=true/\ic r=r){c:UInt8}(hc:rc c=false):c∉cw a:=by
 rw[Pl h];intro hm;obtain⟨r,ae,e⟩:=at3.1 hm;obtain⟨aa,aC,a_⟩:=Pk (h r ae).1 (h r ae).2;rw[<-e,rc]at hc;have:((UInt8.ofNat r.toNat).toNat:Int)=r:=by simp;omega
 rw[this,a_]at hc;cases hc
theorem Pm(s:atE)(c:UInt8)(j:Nat):Lib.occAt s [c] j=(s[j]? == some c):=by unfold Lib.occAt;induction s generalizing j with|nil=>simp|cons b l aY =>(cases j with|zero=>simp;exact awq.2 ⟨λh=>by simp at h⊢;exact h.symm,λh=>by simp at h⊢;exact h.symm⟩|succ j=>simpa using aY j)
variable{bA bX:atE}
theorem akb(h:(46:UInt8)∉bA):Lib.index (bA++46::bX) [46]=bA.length:=by refine Lib.index_first atx ?_ λj Z=>?_;rw[Pm];simp;rw[Pm,atZ Z,atJ Z];simp only[aur,ne_eq,aus];intro e;exact h (e ▸ atK Z)
theorem akc(h:(46:UInt8)∉bA):Lib.index bA [46]=-1:=by refine Lib.index_none λj Z=>?_;rw[Pm];rcases at5 j bA.length with al|al;rw[atJ al];simp only[aur,ne_eq,aus];intro e;exact h (e ▸ atK al);rw[atT al];rfl
theorem akd(h:(46:UInt8)∉bA):Lib.cut (bA++46::bX) [46]=(bA,bX,true):=by rw[Lib.cut,akb h,atH atv];simp
theorem ake(h:(46:UInt8)∉bA):Lib.cut bA [46]=(bA,[],false):=by rw[Lib.cut,akc h,atG aty]
theorem XH(c:UInt8):∀s:atE,0<=Lib.indexByte s c↔c∈s
 |[]=>by simp[Lib.indexByte]
 |b::l=>by have aY:=XH c l;have aT:=Lib.indexByte_ge l c;unfold Lib.indexByte;split;rename_i h;(have:b=c:=by simpa using h);subst this;simp;rename_i h;have aX:¬c=b:=λe=>h (by rw[e];simp);split;rename_i h1;(have mb:Lib.indexByte l c=-1:=by simpa using h1);rw[mb]at aY;simp only[at6,aX,false_or,<-aY];rename_i h1;(have mb:¬Lib.indexByte l c=-1:=by simpa using h1);simp only[at6,aX,false_or,<-aY];omega
theorem XI(s:atE):y8 s=decide ((46:UInt8)∈s):=by rw[y8];exact decide_eq_decide.2 (XH 46 s)
structure XJ (m:atE) (bb:Bool):Prop where
 valid:v8 m bb=true
 qO:(kp m bb).2=0/\Jr (kp m bb).1 bb=(m,0)
theorem JD(a b:atE):Lib.hasSuffix (a++b) b=true:=by rw[Lib.hasSuffix,awa];exact⟨a,rfl⟩
theorem XK(a b:atE):Gd (a++b) b=(a,true):=by rw[Gd,atH (JD a b)];simp
variable{bb:Bool}
theorem akf{m:atE}(lG:oy bA 8=true)(Pn:(46:UInt8)∉bA)(akg:(46:UInt8)∉bX)(h:(bX=[]/\m=bA)\/(bX≠[]/\bb=false/\oy bX 3=true/\m=bA++46::bX)):XJ m bb:=by(have W:v8 m bb=true:=by rcases h with⟨_,rfl⟩|⟨_,rfl,aa,rfl⟩;rw[v8,ake Pn];simpa using lG;rw[v8,akd Pn];simp[lG,aa]);refine⟨W,?_⟩;cases bb with|true =>(have e:kp m true=(m,0):=by rw[kp,atH W,atH rfl]);refine⟨by rw[e],?_⟩;rw[e,Jr,atH rfl,Ge,e,atH ⟨rfl,rfl⟩]|false =>rcases h with⟨gh,rfl⟩|⟨gh,_,aa,hm⟩;(have N:y8 m=false:=by rw[XI];simpa using Pn);(have e:kp m false=(m++[46,59,49],0):=by rw[kp,atH W,atG aty,atG (by rw[N];decide)]);refine⟨by rw[e],?_⟩;(have bT:m++[46,59,49]=(m++[46])++[59,49]:=by simp);(have b0:Lib.trimSuffix (m++[46]) [46]=m:=by rw[Lib.trimSuffix,atH (JD _ _)];simp);(have j':Gd (m++[46,59,49]) [59,49]=(m++[46],true):=by rw[bT];exact XK _ _);rw[e,Jr,atG aty,j',atH rfl,b0,Ge,e,atH ⟨rfl,rfl⟩];(have N:y8 m=true:=by rw[XI,hm];simp);(have e:kp m false=(m++[59,49],0):=by rw[kp,atH W,atG aty,atH N]);refine⟨by rw[e],?_⟩;have j':=XK m [59,49];(have b0:Lib.trimSuffix m [46]=m:=by rw[Lib.trimSuffix,atG];intro hs;rw[Lib.hasSuffix,awa]at hs;obtain⟨x,F⟩:=hs;(have h1:m.getLast?=some 46:=by rw[<-F];simp);rw[hm,List.getLast?_append,List.getLast?_cons]at h1;obtain⟨y,hy⟩:=List.exists_mem_of_ne_nil _ gh;cases al:bX.getLast? with|none=>rw[List.getLast?_eq_none_iff]at al;exact gh al|some V =>rw[al]at h1;simp at h1;exact akg (h1 ▸ List.mem_of_getLast? al));rw[e,Jr,atG aty,j',atH rfl,b0,Ge,e,atH ⟨rfl,rfl⟩]
theorem akh{v:Int}(W:v=0\/v=1)(el:List atE)(k:ad)(fR:el.length<=64):∃j,j<100/\re v el k=ko v (fS v k.name (k.kind==0)).1 (fS v k.name (k.kind==0)).2 j:=by exact⟨ti v el (fS v k.name (k.kind==0)).1 (fS v k.name (k.kind==0)).2,(CW v el _ _ fR).1,by rw[re,atH W];rfl⟩
end Go.bS.cp

namespace Go.bS.cp
open Go Go.Proofs
structure eH where
 path:atE
 id:atE
 bY:Int
 cB:Int
 C':Int
 j2:Bool
 deriving DecidableEq
instance:Inhabited eH:=⟨⟨[],[],0,0,0,false⟩⟩
structure gr where
 path:atE
 id:atE
 eN:Int
 bb:Int
 kV:Bool
 Da:Bool
 A8:Bool
 deriving DecidableEq
instance:Inhabited gr:=⟨⟨[],[],0,0,false,false,false⟩⟩
def gF(d:eH):D:=.agg [.O d.path,.O d.id,u d.bY,u d.cB,u d.C',.bool d.j2]
def fp(e:gr):D:=.agg [.O e.path,.O e.id,u e.eN,u e.bb,.bool e.kV,.bool e.Da,.bool e.A8]
structure aQ where
 n:ad
 path:atE
 id:atE
 file:atE
 iso:Bool
 rock:Bool
 lv:Int
 si:Nat
 ab:Nat
 fi:Nat
 di:Nat
 lev:Int
 mv:Bool
 mno:Nat
instance:Inhabited aQ:=⟨⟨default,[],[],[],false,false,0,0,0,0,0,0,false,0⟩⟩
def aQ.df(s:aQ):Bool:=s.n.kind==0
structure e5 where
 dv:Nat
 uP:Nat
 aW:Nat
def e5.add(c:e5)(s:aQ):e5:=⟨c.dv+1,if s.df then c.uP+1 else c.uP,if s.mv then c.aW+1 else c.aW⟩
def e5.jJ(c:e5)(l:List aQ):e5:=l.foldl e5.add c
theorem e5.aki(c:e5):c.jJ []=c:=rfl
theorem e5.XL(c:e5)(s:aQ)(l:List aQ):c.jJ (s::l)=(c.add s).jJ l:=rfl
theorem e5.akj(c:e5)(a b:List aQ):c.jJ (a++b)=(c.jJ a).jJ b:=by simp[e5.jJ]
def bZ(x:aQ)(k:ad)(m:atE)(c:e5):aQ :=
 {n:=k,path:=below x.path k.name (x.lv+1),id:=(kp m (k.kind==0)).1,file:=(kp m false).1,iso:=x.iso&&lA 0 k (x.lv+1),rock:=x.rock&&lA 2 k (x.lv+1),lv:=x.lv+1,si:=c.dv,ab:=x.si,fi:=x.di,di:=c.uP,lev:=if k.kind==0 then(if x.lev+1=9 then 3 else x.lev+1)else 0,mv:=k.kind==0&&x.lev+1==9,mno:=c.aW+1}
def aQ.any(s:aQ):Bool:=s.iso||s.rock
mutual
def fU:ad->aQ->e5->List aQ
 |.mk _ _ _ _ _ _ _ _ _ _ ah _,x,c=>fq ah (cd 0 ah) x c
def fq:List ad->List atE->aQ->e5->List aQ
 |k::r,m::cO,x,c=>if(bZ x k m c).any then bZ x k m c::(fU k (bZ x k m c) (c.add (bZ x k m c))++fq r cO x ((c.add (bZ x k m c)).jJ (fU k (bZ x k m c) (c.add (bZ x k m c)))))else fq r cO x c
 |_,_,_,_=>[]
end
theorem XM(n:ad)(x:aQ)(c:e5):fU n x c=fq n.J (cd 0 n.J) x c:=by cases n;simp only[fU]
def cR(bm:Bool)(n:ad):aQ:=⟨n,[],[],[],true,bm,1,0,0,0,0,1,false,0⟩
def Gr(bm:Bool)(n:ad):List aQ:=cR bm n::fU n (cR bm n) ⟨1,1,0⟩
def jl(k:Nat):atE:=if k=0 then[82,82,95,77,79,86,69,68]else[82,82,95,77,79,86]++Lib.decDigits k
theorem akk:∀j,j<100->∀k,k<100->jl j=jl k->j=k:=by decide +kernel
def lM(el:List atE):Nat:=((List.range 100).find? λk=>decide (jl k∉el)).getD 0
theorem Po{el:List atE}(ao:el.length<=64):lM el<100/\jl (lM el)∉el/\∀j,j<lM el->jl j∈el:=by unfold lM;cases h:(List.range 100).find? λk=>decide (jl k∉el)with|none =>exfalso;rw[avi]at h;(have av:((List.range 100).map jl).Nodup:=by rw[auE,au_];refine awO (R:=(·≠·)) ?_ (auE.1 List.nodup_range);intro a b ha G qL ak;simp only[auY]at ha G;exact qL (akk a ha b G ak));(have F7:(List.range 100).map jl ⊆ el:=by intro x F;obtain⟨i,hi,rfl⟩:=at3.1 F;have:=h i hi;simpa using this);have:=av.length_le_of_subset F7;simp at this;omega|some k =>obtain⟨h1,z,aa⟩:=awe.1 h;simp only[auI];exact⟨by simpa using z,by simpa using h1,λj Z=>by simpa using aa j Z⟩
def ih(s i:Nat):Nat:=if i=0 then 0 else i+s
def aQ.jK(s:Nat)(x:aQ):eH:=⟨x.path,if x.mv then 68::Lib.decDigits x.mno else x.id,x.lev,if x.mv then 1 else(ih s x.fi:Nat),(ih s x.fi:Nat),x.mv⟩
def aQ.mg(s:Nat)(x:aQ):gr:=⟨x.path,if x.mv then x.file else x.id,(ih s x.fi:Nat),if x.df&&!x.mv then(ih s x.di:Nat)else -1,!x.iso,x.rock,x.mv⟩
def aQ.oA(s:Nat)(x:aQ):gr:=⟨x.path,68::Lib.decDigits x.mno,1,(ih s x.di:Nat),true,true,false⟩
def zb:eH:=⟨[],[0],1,0,0,false⟩
def bM(l:List aQ):List aQ:=l.filter aQ.df
def ee(l:List aQ):List aQ:=l.filter aQ.mv
def eI(l:List aQ):Nat:=if(ee l).length=0 then 0 else 1
def lN(bu:atE)(l:List aQ):List eH:=zb::((if eI l=0 then[]else[⟨[47],bu,2,0,0,false⟩])++(bM l).map (aQ.jK (eI l)))
def mR(s:Nat)(l:List aQ)(i:Nat):List gr:=(l.filter λx=>x.fi==i).map (aQ.mg s)
def tp(bu:atE)(l:List aQ):List gr :=
 (if eI l=0 then[]else[⟨[47],bu,0,1,true,false,false⟩])++mR (eI l) l 0++(ee l).map (aQ.oA (eI l))++((List.range (bM l).length).flatMap λi=>mR (eI l) l (i+1))
def mS(bm:Bool)(n:ad):List eH×List gr×Int :=
 if valid n=true then(lN (jl (lM (cd 0 n.J))) (fU n (cR bm n) ⟨1,1,0⟩),tp (jl (lM (cd 0 n.J))) (fU n (cR bm n) ⟨1,1,0⟩),0)else([],[],1)
variable{B:World}
theorem Pp(m c:Nat)(hm:m<65536)(hc:c<65536):0<=qD .or .i64 (m:Int) (c:Int)/\qD .or .i64 (m:Int) (c:Int)<4294967296:=by(have h1:(BitVec.ofInt 64 (m:Int) ||| BitVec.ofInt 64 (c:Int)).toNat=m ||| c:=by rw[BitVec.toNat_or];congr 1<;>(rw[BitVec.toNat_ofInt];omega));(have z:m ||| c<2 ^ 16:=Nat.or_lt_two_pow atv atv);(have aa:qD .or .i64 (m:Int) (c:Int)=((m ||| c:Nat):Int):=by unfold qD;show IntKind.i64.wrap ((BitVec.ofInt 64 (m:Int) ||| BitVec.ofInt 64 (c:Int)).toNat:Int)=_;rw[h1];exact Ln (by simp only[dk];omega));rw[aa];omega
theorem XN(hh kind:Int)(h0:0<=hh)(h1:hh<=4095):0<=uA hh kind/\uA hh kind<4294967296:=by obtain⟨m,rfl⟩:=Int.eq_ofNat_of_zero_le h0;unfold uA IX;split;exact Pp m 16384 atv atv;split;exact Pp m 32768 atv atv;exact Pp m 40960 atv atv
structure xz (m:ad):Prop where
 gB:0<=m.kind
 ce:m.kind<=2
 j3:0<=m.cL
 m1:m.cL<=4095
 u0:0<=m.n2
 u1:m.n2<4294967296
 xA:0<=m.n3
 g1:m.n3<4294967296
 t0:315532800<=m.n4
 AN:m.n4<=4102444799
 tg:m.target=[]\/k7 m.target=true
 CO:m.name.length<1000000
 FF:m.target.length<1000000
 zJ:m.J.length<=1000000
theorem Pq(m:ad)(l:Int)(h:m.J.length<=1000000):0<=la m l/\la m l<4294967296:=by unfold la;have:=List.countP_le_length (p:=td l) (l:=m.J);split<;>omega
theorem Gs{n:Int}(h0:0<=n)(h1:n<4294967296):AM n=false:=by unfold AM;rw[avg];exact⟨aug atv,aug atv⟩
theorem xz.bm{m:ad}(h:xz m)(l:Int)(named:Bool)(name target:atE)(bZ:Int)(av:named=true->dT name=true)(wL:named=false->name=[])(ax:target=[]\/k7 target=true)(jS:name.length<1000000)(i':target.length<1000000)
  (hS:0<=bZ) (eZ:bZ<4294967296):NX m.kind m.cL (la m l) m.n2 m.n3 named name target m.n4 bZ where
 gB:=h.gB
 ce:=h.ce
 j3:=h.j3
 m1:=h.m1
 w:=by
  have:=Pq m l h.zJ;simp only[awZ,List.any_nil,Gs this.1 this.2,Gs h.u0 h.u1,Gs h.xA h.g1,Gs hS eZ,Gs (auu 0) (by decide:(0:Int)<4294967296)];rfl
 n:=av
 h5:=wL
 t:=ax
 t0:=h.t0
 AN:=h.AN
 CO:=atv
 FF:=atv
theorem XO(i:Int):aS B 173 [u i] (u 1):=by refine fn Tryz.func173 Tryz.ntmps173 λU=>?_;refine go ?_;exact ub
def JE(n:ad):List c_:=⟨[83,80],1,[190,239,0]⟩::(uB n.kind n.cL (la n 1) n.n2 n.n3 false [] [] n.n4 0 false++[⟨[69,82],1,[10,10,10,1]++[82,82,73,80,95,49,57,57,49,65]++[82,79,67,75,32,82,73,68,71,69]++[77,65,83,84,69,82,68,73,83,67]⟩])
theorem Pr(kind hh kk kl km:Int)(named:Bool)(name target:atE)(fl bZ:Int)(j2:Bool):(uB kind hh kk kl km named name target fl bZ j2).length<=6:=by unfold uB;simp only[atQ,atO];(repeat' split);all_goals simp
theorem akl(aV:dc B)(f:D)(o:f1)(n:ad)(bV bE:Nat)(h:xz n):aS B 160 [f,.a7 1 [.a7 26 [dE o n bV bE] 0 0] 0 0] (.Q .none 3 (eA (JE n))):=by have Vc:=Pq n 1 h.zJ;have v':=Pr n.kind n.cL (la n 1) n.n2 n.n3 false [] [] n.n4 0 false;refine fn Tryz.func160 Tryz.ntmps160 λU=>?_;refine go ?_;refine br agu ?_;intro cP;(conv=>whnf);refine go ?_;refine yo ?_;refine br (Vz (.a7 26 [dE o n bV bE] 0 0) n 1 atv atv h.zJ) ?_;refine br (VP aV n.kind n.cL (la n 1) n.n2 n.n3 false [] [] n.n4 0 false (h.bm 1 false [] [] 0 atC (λ_=>rfl) (.inl rfl) atx atx atv atv) (XN n.cL n.kind h.j3 h.m1) (λx F=>by simp at F;have:=h.u0;have:=h.u1;have:=h.xA;have:=h.g1;rcases F with rfl|rfl|rfl|rfl<;>omega)) ?_;have q6:JE n=⟨[83,80],1,[190,239,0]⟩::(uB n.kind n.cL (la n 1) n.n2 n.n3 false [] [] n.n4 0 false++[⟨[69,82],1,[10,10,10,1]++[82,82,73,80,95,49,57,57,49,65]++[82,79,67,75,32,82,73,68,71,69]++[77,65,83,84,69,82,68,73,83,67]⟩]):=rfl;rw[q6];clear q6;generalize uB n.kind n.cL (la n 1) n.n2 n.n3 false [] [] n.n4 0 false=ep at*;(have fu:(eA ep).length<=6:=by rw[eA,atL];exact v');refine MN (by show(1+_)*40<=_;omega) (by show 1+_<=_;omega) λv=>?_;refine br agw ?_;intro v2;(conv=>whnf);refine go ?_;refine adi ?_;simp[eA,lC,AR,Vy,D.js,sF]
def JF:List c_:=[⟨[80,76],1,hj [1]⟩]
theorem akm(aV:dc B)(d:eH):aS B 165 [.fn (.func 173) [] [],.a7 6 [gF d] 0 0] (.Q .none 3 (eA JF)):=by refine fn Tryz.func165 Tryz.ntmps165 λU=>?_;refine go ?_;refine br (XO d.C') ?_;refine br (ag6 aV) ?_;exact ub
theorem akn(s:atE):aS B 168 [.O s,.O [47]] (u ((s.count 47:Nat):Int)) :=
 .pure (jD Tryz.func168 rfl atz) rfl rfl λw _=>(Tryz.strings_Count_one ⟨⟨s⟩⟩ 47 w).mono λe w' ⟨ak,cG⟩=>⟨by
  rw[ak]
  rfl,cG⟩
def Ps(n:ad)(e:gr)(Gt:atE):List c_:=uB n.kind n.cL (la n ((e.path.count 47:Nat)+2)) n.n2 n.n3 true n.name n.target n.n4 (if e.A8=true then 1 else 0) (Gt==[47])
theorem ako(aV:dc B)(o:f1)(ii:ad)(bV bE:Nat)(n:ad)(bL:Nat)(cA:List (atE×Int))(aN:List eH)(e:gr)(d:eH)(h:xz n)(av:dT n.name=true)(au:e.path.length<=100000)(hi:0<=e.eN/\aN[e.eN.toNat]?=some d): cV B 167 [.fn (.func 173) [] [],.a7 1 [.a7 26 [dE o ii bV bE] 0 0] 0 0,.a7 12 [aH n] 0 0,.a7 7 [fp e] 0 0,.a7 1 [.an (.map (some bL))] 0 0,.a7 1 [.Q .none 6 (aN.map gF)] 0 0] (aK [(7100,.mp bL (bs (D.int .i64) cA))]) λr aM=>r=.Q .none 3 (eA (Ps n e d.path))/\aM=aK [(7100,.mp bL (bs (D.int .i64) cA))]:=by have IB:e.path.count 47<=100000:=avb (List.count_le_length ..) au;refine j_ Tryz.func167 Tryz.ntmps167 λU=>?_;refine go ?_;have Vc:=Pq n ((e.path.count 47:Nat)+2) h.zJ;have ar0:=akn (B:=B) e.path;have ar1:=Vz (B:=B) (.a7 26 [dE o ii bV bE] 0 0) n ((e.path.count 47:Nat)+2) atv atv h.zJ;refine' eR [(7100,.mp bL (bs (D.int .i64) cA))] 0 (λy=>[_,_,_,_,_,_,_,.box 8 y 0,.any]) (λy=>[(7,8,some (.box y [.bool false,u 0,u 0,u 0,u 0,u 0,.bool false,.O [],.O [],.bool false,u 0,u 0,u 0,.bool false])),(8,8,some (.box y (sj true n.kind n.cL (la n ((e.path.count 47:Nat)+2)) n.n2 n.n3 false [] [] true n.n4 0 0 false).cells))]) [0,0,0,4,12,28,63,0,255] [(7,8),(8,8)] ?_ ?_;rotate_left 7;refine dC ?_;refine HG ?_;refine vs ?_;exact trivial;intro cF;(conv=>whnf);refine go ?_;refine' eR [(7100,.mp bL (bs (D.int .i64) cA)),(8,.box cF (sj true n.kind n.cL (la n ((e.path.count 47:Nat)+2)) n.n2 n.n3 false [] [] true n.n4 0 0 false).cells)] 0 (λy=>[_,_,_,_,_,.any,_,.any,_,.any]) (λy=>[(5,8,some (.box cF (sj true n.kind n.cL (la n ((e.path.count 47:Nat)+2)) n.n2 n.n3 true [] [] true n.n4 0 0 false).cells)),(7,8,some (.box cF (sj true n.kind n.cL (la n ((e.path.count 47:Nat)+2)) n.n2 n.n3 true n.name [] true n.n4 0 0 false).cells)),(9,8,some (.box cF (sj true n.kind n.cL (la n ((e.path.count 47:Nat)+2)) n.n2 n.n3 true n.name n.target true n.n4 0 0 false).cells))]) [0,1,0,4,0,16,51,115,255,511] [(5,8),(7,8),(9,8)] ?_ ?_;rotate_left 7;refine dC ?_;refine vs ?_;refine vs ?_;refine vs ?_;exact trivial;intro _;(conv=>whnf);refine go ?_;refine nf (α:=Unit) (λ_=>True) [0,1,2,3,4,5,8] [7100] (λ_=>[]) (λ_=>[(8,.box cF (sj true n.kind n.cL (la n ((e.path.count 47:Nat)+2)) n.n2 n.n3 true n.name n.target true n.n4 (if e.A8=true then 1 else 0) 0 false).cells)]) ?_ ?_;refine hb (t:=e.A8) (λhc=>?_) (λhc=>?_);refine dD (af.qt (V:=(0:Int)) (dA:=9) (d9:=3) 7100 atA atA rfl rfl rfl (λw=>by rfl) (λw C=>.int _ _)) ?_;refine br (XO _) ?_;refine gp () [(7100,7100),(8,8)] trivial ⟨cH,rfl,?_⟩;simp only[atH hc];exact cH;refine gp () [(7100,7100),(8,8)] trivial ⟨cH,rfl,?_⟩;simp only[hc];exact cH;intro _ _;have jv:e.eN.toNat<aN.length:=e8 hi.2;(have y7:aN[e.eN.toNat]=d:=by have:=hi.2;rw[atJ jv]at this;exact auA this);have k5:=hi.1;(have bi:e.eN<((aN.map gF).length:Nat):=by rw[atL];omega);refine go ?_;subst y7;refine br (VP aV n.kind n.cL (la n ((e.path.count 47:Nat)+2)) n.n2 n.n3 true n.name n.target n.n4 (if e.A8=true then 1 else 0) (aN[e.eN.toNat].path==[47]) (h.bm _ true n.name n.target (if e.A8=true then 1 else 0) (λ_=>av) atC h.tg h.CO h.FF (by split<;>omega) (by split<;>omega)) (XN n.cL n.kind h.j3 h.m1) (λx F=>by simp at F;have:=h.u0;have:=h.u1;have:=h.xA;have:=h.g1;rcases F with rfl|rfl|rfl|rfl<;>first|omega|(split<;>omega))) ?_;exact⟨_,ub,rfl,ba⟩
inductive Pt where
 |eL
 |JG
 |dm (d:eH)
 |JH (n:ad) (e:gr)
structure bN where
 id:atE
 fl:Int
 c2:Int
 gf:Int
 leads:Int
 hA:Pt
def kt(bX:D)(bL:Nat)(aN:List eH):Pt->D
 |.eL=>.fn (.func 229) [] []
 |.JG=>.fn (.func 160) [] [.a7 1 [bX] 0 0]
 |.dm d=>.fn (.func 165) [] [.a7 6 [gF d] 0 0]
 |.JH n e=>.fn (.func 167) [] [.a7 1 [bX] 0 0,.a7 12 [aH n] 0 0,.a7 7 [fp e] 0 0,.a7 1 [.an (.map (some bL))] 0 0,.a7 1 [.Q .none 6 (aN.map gF)] 0 0]
theorem JI(bX:D)(bL:Nat)(aN:List eH)(s:Pt):(kt bX bL aN s).one=true:=by cases s<;>rfl
def iR(S L:D)(x:bN):D:=.agg [.O x.id,u 0,u 0,u x.fl,u x.c2,u x.gf,u 1,.O [],u x.leads,S,L,.bh]
section
variable(o:f1)(ap:List (atE×ad))(aN:List eH)
def g0(p:atE):ad:=(bj ap p).getD A2
def wa(i:Nat)(d:eH):bN:=⟨[0],(g0 ap d.path).n4,o.c2,2,i,if i=0/\o.rock=true then .JG else .eL⟩
def Pu(d:eH):atE:=((aN[d.cB.toNat]?).map (·.path)).getD []
def wb(d:eH):bN:=⟨[1],(g0 ap (Pu aN d)).n4,o.c2,2,d.cB,if d.j2=true then .dm d else .eL⟩
def JJ(e:gr):Int:=let f:=if 0<=e.bb then 2 else 0;if e.kV=true then qD .or .i64 f 1 else f
def rm(e:gr):bN:=⟨e.id,(g0 ap e.path).n4,o.c2,JJ e,e.bb,if e.Da=true then .JH (g0 ap e.path) e else .eL⟩
def fa(cj:List gr)(i:Nat):List bN:=match aN[i]? with
 |some d=>wa o ap i d::wb o ap aN d::(cj.filter λe=>e.eN==(i:Int)).map (rm o ap)
 |none=>[]
def o0(n:Nat):List (atE×Int):=((aN.take n).zipIdx).foldl (λm x=>fC m x.1.path (x.2:Nat)) []
end
variable{aN:List eH}{i:Nat}
theorem akp(h:i<aN.length):o0 aN (i+1)=fC (o0 aN i) aN[i].path (i:Nat):=by unfold o0;rw[atN h,List.zipIdx_append,auU];simp[at4,awn (Nat.le_of_lt h)]
def nU(bX:D)(bL:Nat)(aN:List eH)(vs:Nat->Value)(bc:Nat->List bN)(n:Nat):bF:=λk=>if 10000<=k/\k<10000+n then some (.row (vs (k-10000)) ((bc (k-10000)).map λx=>iR (kt bX bL aN x.hA) .bh x) 12 234)else none
def lg(aN:List eH)(vs:Nat->Value)(n:Nat):List D:=(aN.take n).mapIdx λi d=>nT d.id d.cB (vs i) 0 0
theorem wc(aN:List eH)(vs:Nat->Value)(n:Nat):(lg aN vs n).length=min n aN.length:=by simp[lg]
theorem akq(bX:D)(bL:Nat)(aN:List eH)(vs:Nat->Value)(bc:Nat->List bN):nU bX bL aN vs bc 0=λ_=>none:=funext λk=>atG atv
theorem A9(bX:D)(bL:Nat)(aN:List eH)(vs:Nat->Value)(bc:Nat->List bN)(n:Nat):qa (nU bX bL aN vs bc n):=λk o h=>by
 unfold nU at h;split at h
 ·omega
 cases h
variable{bL:Nat}{bc:Nat->List bN}
theorem akr{bX:D}{vs:Nat->Value}{n:Nat}(h:i<n):nU bX bL aN vs bc n (10000+i)=some (.row (vs i) ((bc i).map λx=>iR (kt bX bL aN x.hA) .bh x) 12 234):=by unfold nU;rw[atH atv,auW]
variable{gx:Nat->Value}{v:Value}{row:List D}
theorem aks{bX:D}{vs:Nat->Value}{n:Nat}(W:gx n=v)(fM:∀j,j<n->gx j=vs j)(ae:((bc n).map λx=>iR (kt bX bL aN x.hA) .bh x)=row):
  ∀k o,nU bX bL aN gx bc (n+1) k=some o->10000<=k/\((k=10000+n/\o=.row v row 12 234)\/(k≠10000+n/\nU bX bL aN vs bc n k=some o)):=λk o h=>by
 unfold nU at h;split at h
 ·rename_i X;refine⟨X.1,?_⟩;by_cases f':k=10000+n
  ·subst f';rw[auW,W,ae]at h;exact .inl ⟨rfl,(auA h).symm⟩
  refine .inr ⟨f',?_⟩;unfold nU;rw[atH atv,<-fM (k-10000) atv];exact h
 cases h
theorem akt{vs:Nat->Value}{n:Nat}{d:eH}(h:n<aN.length)(N:aN[n]=d)(fM:∀j,j<n->gx j=vs j):lg aN vs n++[nT d.id d.cB (gx n) 0 0]=lg aN gx (n+1):=by unfold lg;rw[atN h,List.mapIdx_append,N];congr 1;apply au2;intro j;simp only[auF];rcases at5 j n with Z|Z;rw[fM j Z];rw[atT atw];rfl;simp[awn (Nat.le_of_lt h)]
theorem XP{vs:Nat->Value}{n:Nat}(h:i<aN.length)(av:i<n):(lg aN vs n)[i]?=some (nT aN[i].id aN[i].cB (vs i) 0 0):=by unfold lg;rw[auF,List.getElem?_take_of_lt av,atJ h];rfl
theorem aku{vs:Nat->Value}{n:Nat}(h:i<aN.length)(W:gx i=v)(fM:∀j,j≠i->gx j=vs j):(lg aN vs n).set i (nT aN[i].id aN[i].cB v 0 0)=lg aN gx n:=by apply au2;intro j;rw[avN];by_cases d7:i=j;subst d7;rw[atH rfl];by_cases av:i<n;rw[atH (by rw[wc];omega),XP h av,W];rw[atG (by rw[wc];omega),atT (by rw[wc];omega)];rw[atG d7];unfold lg;simp only[auF];rw[fM j (λh=>d7 h.symm)]
theorem akv{bX:D}{vs:Nat->Value}{Pv:Nat->List bN}{n:Nat}(W:gx i=v)(fM:∀j,j≠i->gx j=vs j)(ae:((Pv i).map λx=>iR (kt bX bL aN x.hA) .bh x)=row)(xm:∀j,j≠i->Pv j=bc j):
  ∀k o,nU bX bL aN gx Pv n k=some o->10000<=k/\((k=10000+i/\o=.row v row 12 234)\/(k≠10000+i/\ma (nU bX bL aN vs bc n) (10000+i) k=some o)):=λk o h=>by
 unfold nU at h;split at h
 ·rename_i X;refine⟨X.1,?_⟩;by_cases f':k=10000+i
  ·subst f';rw[auW,W,ae]at h;exact .inl ⟨rfl,(auA h).symm⟩
  refine .inr ⟨f',?_⟩;unfold ma nU;rw[avw f',atH X,<-fM (k-10000) atv,<-xm (k-10000) atv];exact h
 cases h
variable{ap:List (atE×ad)}{cj:List gr}{k:Nat}
theorem XQ{o:f1}(h:k<cj.length):fa o ap aN (cj.take (k+1)) i=if cj[k].eN=(i:Int)/\i<aN.length then fa o ap aN (cj.take k) i++[rm o ap cj[k]]else fa o ap aN (cj.take k) i:=by unfold fa;rw[atN h];by_cases hi:i<aN.length;rw[atJ hi];by_cases ak:cj[k].eN=(i:Int);rw[atH ⟨ak,hi⟩,au5,auo,List.filter_cons_of_pos (by simp[ak])];rfl;rw[atG (λh=>ak h.1),au5,List.filter_cons_of_neg (by simp[ak]),List.filter_nil,auK];rw[atG (λh=>hi h.2),atT atv]
theorem Gu{o:f1}:(fa o ap aN cj i).length<=cj.length+2:=by unfold fa;split;simp only[atQ,atL];have:=aun (λe:gr=>e.eN==(i:Int)) cj;omega;simp
theorem Db{H:bF}(h:qa H)(gB:Nat):qa (ma H gB):=λk o e=>by
 unfold ma at e
 cases G:Nat.beq k gB with
 |true=>rw[G]at e;cases e
 |false=>rw[G]at e;exact h k o e
theorem XR(o:f1)(n m:ad)(bV bE:Nat)(id path:atE)(fl c2 gf leads:Int):cV B 166 [.a7 26 [dE o n bV bE] 0 0,oz id fl c2 gf leads .bh,aH m,.O path] (aK [(4104,.mp bE (bs bg []))]) λd aM=>d=oz id fl c2 gf leads .bh/\aM=aK [(4104,.mp bE (bs bg []))] :=
 c8.sub (ajB o n m bV bE id path fl c2 gf leads) λd aM ⟨h1,b,aA,z⟩=>⟨aK [(4104,.mp bE (bs bg []))],yr.get (l:=[(4104,.mp bE (bs bg []))]) ⟨by rw[z];rfl,ai⟩,h1,rfl⟩
theorem akw(o:f1)(n:ad)(bV bE:Nat)(ap:List (atE×ad))(aN:List eH)(cj:List gr)(zc:Int)(Gv:aS B 158 [aH n,.bool o.rock] (.bl [.Q .none 6 (aN.map gF),.Q .none 7 (cj.map fp),u zc]))(N:aN.length<=1000000)(fu:cj.length<=1000000)(pD:∀d∈aN,0<=d.cB/\d.cB<(aN.length:Nat))(l8:∀e∈cj,0<=e.eN/\e.eN<(aN.length:Nat)): cV B 109 [.a7 26 [dE o n bV bE] 0 0] (aK [(4103,.mp bV (bs aH ap)),(4104,.mp bE (bs bg []))]) λr aM=>∃lO bL b4,∃vs:Nat->Value,r=.box 4110 lO 0/\aM=cQ [(4103,.mp bV (bs aH ap)),(4104,.mp bE (bs bg [])),(4110,.box lO [.bool false,.an b4,u 0,u 0,u 0]),(4111,.row b4 (lg aN vs aN.length) 5 249),(7100,.mp bL (bs (D.int .i64) (o0 aN aN.length)))] (nU (.a7 26 [dE o n bV bE] 0 0) bL aN vs (fa o ap aN cj) aN.length):=by refine yn Tryz.func109 Tryz.ntmps109 λU=>?_;refine go ?_;intro dz;(conv=>whnf);refine cT ?_;refine jB 1 1 1 (.a7 26 [dE o n bV bE] 0 0) ?_;refine go ?_;refine' eR [(4103,.mp bV (bs aH ap)),(4104,.mp bE (bs bg []))] 0 (λy=>[_,_,_,_,_,_,_,_,_,_,_,_,_,_,.box 3 y 0,.any,_,_]) (λy=>[(14,3,some (.box y [.bh])),(15,3,some (.box y [.Q .none 6 (aN.map gF)]))]) [0,1,3,7,0,16,48,112,240,511,1023,2047,2047,2047,0,20479,57343,131071] [(14,3),(15,3)] ?_ ?_;rotate_left 16;refine dC ?_;refine HG ?_;refine vs ?_;exact trivial;intro eD;(conv=>whnf);refine jB 3 3 1 (.Q .none 6 (aN.map gF)) ?_;refine go ?_;intro lO;(conv=>whnf);refine cT ?_;refine Y.jx 32 (dt:=[.bool false,.an (.slice none 0 0),u 0,u 0,u 0]) rfl ⟨E,aq.rQ,E,E,E,ai⟩ ?_;refine Y.qR 4111 5 249 ?_;refine go ?_;refine .inr (af.ud λbL=>?_);(conv=>whnf);refine cT ?_;intro dJ;(conv=>whnf);refine cT ?_;refine jB 7 7 1 (.an (.map (some bL))) ?_;refine go ?_;refine Al (λx:Nat×Value×(Nat->Value)=>x.1<=aN.length) [1,3,4,6,7,34,35] [4103,4104] (λx=>[(36,u x.1)]) (λx=>[(33,.mp bL (bs (D.int .i64) (o0 aN x.1))),(32,.box lO [.bool false,.an x.2.1,u 0,u 0,u 0]),(4111,.row x.2.1 (lg aN x.2.2 x.1) 5 249)]) (λx=>nU (.a7 26 [dE o n bV bE] 0 0) bL aN x.2.2 (fa o ap aN []) x.1) (λx=>aN.length-x.1) (0,.slice none 0 0,λ_=>.nilIface) (at7 _) ?_ (h1:=by rw[akq];exact fO.adx (m:=[(4103,4103),(4104,4104),(33,33),(32,32),(4111,4111)]) ⟨cH,rfl,cH⟩);rintro⟨i,b4,fK⟩ hi;dsimp only at hi⊢;refine Y.qZ rfl (A9 _ _ _ _ _ _) λiL=>?_;refine go ?_;refine cb (t:=decide ((i:Int)<(aN.map gF).length)) ?_ ?_<;>intro hc;(·(have c0:i<aN.length:=by simpa using hc);refine go ?_;intro iN;(conv=>whnf);refine cT ?_;have lZ:aN[i]=aN[i]:=rfl;generalize um:aN[i]=d at*;have r4:d∈aN:=um ▸ atK c0;obtain⟨nl,hg⟩:=pD d r4;(have dd:d.cB.toNat<aN.length:=by omega);(have Gw:Pu aN d=aN[d.cB.toNat].path:=by unfold Pu;rw[atJ dd];rfl);refine jB 9 9 6 (gF d) ?_;refine go ?_;refine dD (af.xr 33 (dA:=9) (d9:=3) (enc:=D.int .i64) (v:=(i:Int)) atA atA rfl rfl rfl rfl) ?_;have Pw:=C5 (B:=B) o n (g0 ap d.path) bV bE [0] i 2 (by rw[show decide ((0:Int)<=(i:Int))=true from auM atv];rfl);refine' eR [(4103,.mp bV (bs aH ap)),(4104,.mp bE (bs bg [])),(33,.mp bL (bs (D.int .i64) (fC (o0 aN i) d.path (i:Nat)))),(32,.box lO [.bool false,.an b4,u 0,u 0,u 0]),(4111,.row b4 (lg aN fK i) 5 249)] (0,0) (λy=>[_,_,_,_,_,_,_,aH (g0 ap d.path),_,_,_,_,_,_,_,_,_,_,_,_,_,aH (g0 ap aN[d.cB.toNat].path),_,_,_,.box 10 y.1 0,.box 11 y.2 0,.any,.any]) (λy=>[(25,10,some (.box y.1 [.O [],u 0,u 0,u 0,u 0,u 0,u 0,.O [],u 0,.an .nilFunc,.bh,.bh])),(26,11,some (.box y.2 [.O [],u 0,u 0,u 0,u 0,u 0,u 0,.O [],u 0,.an .nilFunc,.bh,.bh])),(27,10,some (.box y.1 (oz [0] (g0 ap d.path).n4 o.c2 2 i .bh).cells)),(28,11,some (.box y.2 (oz [1] (g0 ap aN[d.cB.toNat].path).n4 o.c2 2 d.cB .bh).cells))]) [0,0,2,6,14,0,32,126,0,511,0,0,2048,6144,14336,0,0,65536,229376,491520,1015808,2095104,0,4194304,16777215,0,0,134217727,268435455] [(25,10),(26,11),(27,10),(28,11)] ?_ ?_;rotate_left 23;refine dC ?_;refine bR (λy=>af.qt 4103 (dA:=9) (d9:=44) (enc:=aH) (l:=ap) (k:=d.path) (V:=A2) rfl rfl rfl rfl rfl atD (λw C=>Jv w C) (cz y)) ?_;have Px:=C5 (B:=B) o n (g0 ap aN[d.cB.toNat].path) bV bE [1] d.cB 2 (by rw[show decide ((0:Int)<=d.cB)=true from auM nl];rfl);refine bR (λy=>af.qt 4103 (dA:=9) (d9:=44) (enc:=aH) (l:=ap) (k:=aN[d.cB.toNat].path) (V:=A2) rfl rfl rfl rfl rfl atD (λw C=>Jv w C) (cz y)) ?_;refine Cj (λy=>show∀k4:Nat,_ from λk4=>d0 (k4,y.2)) ?_;refine Cj (λy=>show∀k4:Nat,_ from λk4=>d0 (y.1,k4)) ?_;refine vs ?_;refine vs ?_;exact trivial;rintro⟨j4,yZ⟩;(conv=>whnf);refine go ?_;(have JK:kt (.a7 26 [dE o n bV bE] 0 0) bL aN (wa o ap i d).hA=if i=0/\o.rock=true then .fn (.func 160) [] [.a7 1 [.a7 26 [dE o n bV bE] 0 0] 0 0]else .fn (.func 229) [] []:=by unfold wa;dsimp only;split<;>rfl);(have JL:kt (.a7 26 [dE o n bV bE] 0 0) bL aN (wb o ap aN d).hA=if d.j2=true then .fn (.func 165) [] [.a7 6 [gF d] 0 0]else .fn (.func 229) [] []:=by unfold wb;dsimp only;split<;>rfl);have ar2:∀S,(iR S .bh (wa o ap i d))=.agg [.O [0],u 0,u 0,u (g0 ap d.path).n4,u o.c2,u 2,u 1,.O [],u i,S,.bh,.bh]:=λ_=>rfl;(have ar3:∀S,(iR S .bh (wb o ap aN d))=.agg [.O [1],u 0,u 0,u (g0 ap aN[d.cB.toNat].path).n4,u o.c2,u 2,u 1,.O [],u d.cB,S,.bh,.bh]:=λ_=>by rw[<-Gw];rfl);have x6:(kt (.a7 26 [dE o n bV bE] 0 0) bL aN (wa o ap i d).hA).one=true:=JI _ _ _ _;have CQ:(kt (.a7 26 [dE o n bV bE] 0 0) bL aN (wb o ap aN d).hA).one=true:=JI _ _ _ _;generalize Py:kt (.a7 26 [dE o n bV bE] 0 0) bL aN (wa o ap i d).hA=JM at*;generalize JN:kt (.a7 26 [dE o n bV bE] 0 0) bL aN (wb o ap aN d).hA=m' at*;refine nf (α:=Unit) (λ_=>True) [1,3,4,6,7,8,9,10,11,34,35,36] [4103,4104,33,32,4111,11] (λ_=>[]) (λ_=>[(10,.box j4 [.O [0],u 0,u 0,u (g0 ap d.path).n4,u o.c2,u 2,u 1,.O [],u i,JM,.bh,.bh])]) ?_ ?_;refine hb (λbw=>?_) (λbw=>?_);(have k5 : ((i : Int) == 0) = true := by cases h : ((i : Int) == 0)with|true=>rfl|false=>rw[h]at bw;cases bw);rw[atH ⟨by have:=eq_of_beq k5;omega,by rw[k5]at bw;exact bw⟩]at JK;subst JK;exact gp () [(4103,4103),(4104,4104),(33,33),(32,32),(4111,4111),(11,11),(10,10)] trivial;rw[atG (λh=>by simp[h.1,h.2]at bw)]at JK;subst JK;exact gp () [(4103,4103),(4104,4104),(33,33),(32,32),(4111,4111),(11,11),(10,10)] trivial;intro _ _;refine go ?_;refine nf (α:=Unit) (λ_=>True) [1,3,4,6,7,8,9,10,11,34,35,36] [4103,4104,33,32,4111,10] (λ_=>[]) (λ_=>[(11,.box yZ [.O [1],u 0,u 0,u (g0 ap aN[d.cB.toNat].path).n4,u o.c2,u 2,u 1,.O [],u d.cB,m',.bh,.bh])]) ?_ ?_;refine hb (t:=d.j2) (λbw=>?_) (λbw=>?_);rw[atH bw]at JL;subst JL;exact gp () [(4103,4103),(4104,4104),(33,33),(32,32),(4111,4111),(10,10),(11,11)] trivial;rw[atG (by rw[bw];decide)]at JL;subst JL;exact gp () [(4103,4103),(4104,4104),(33,33),(32,32),(4111,4111),(10,10),(11,11)] trivial;intro _ _;refine go ?_;rw[<-Gw];refine' eR [(4103,.mp bV (bs aH ap)),(4104,.mp bE (bs bg [])),(33,.mp bL (bs (D.int .i64) (fC (o0 aN i) d.path (i:Nat)))),(32,.box lO [.bool false,.an b4,u 0,u 0,u 0]),(4111,.row b4 (lg aN fK i) 5 249),(10,.box j4 (iR JM .bh (wa o ap i d)).cells),(11,.box yZ (iR m' .bh (wb o ap aN d)).cells)] (α:=Nat×Option Addr×Nat×Nat) (0,none,0,0) (λy=>[_,_,_,_,_,_,_,_,_,_,_,.an (.slice (some ⟨y.1,0,none⟩) 2 2),nT d.id d.cB (.slice (some ⟨y.1,0,none⟩) 2 2) 0 0,.Q .dU 5 [nT d.id d.cB (.slice (some ⟨y.1,0,none⟩) 2 2) 0 0],.an (.slice y.2.1 y.2.2.1 y.2.2.2),_,_,.any]) (λy=>[(11,7500,some (.row (.slice (some ⟨y.1,0,none⟩) 2 2) [iR JM .bh (wa o ap i d),iR m' .bh (wb o ap aN d)] 12 234)),(14,4111,none),(14,99,some (.row (.slice y.2.1 y.2.2.1 y.2.2.2) (lg aN fK i++[nT d.id d.cB (.slice (some ⟨y.1,0,none⟩) 2 2) 0 0]) 5 249)),(17,32,some (.box lO [.bool false,.an (.slice y.2.1 y.2.2.1 y.2.2.2),u 0,u 0,u 0]))]) [0,0,2,6,14,0,32,0,128,0,0,1536,4064,8160,16382,32767,65535,131071] [(11,7500),(14,4111),(14,99),(17,32)] ?_ ?_;rotate_left 13;refine dC ?_;refine bR (λy=>af.ML aL (q:=7500) rfl rfl rfl aty aty rfl (show _/\_/\_ from⟨rfl,by simp[tI,iR,D.cells,D.js,D.one];exact⟨x6,CQ⟩,λb=>d0 (b,y.2)⟩)) ?_;refine bR (λy=>af.pc aL 4111 rfl rfl rfl atC rfl rfl rfl atx (by rw[wc];show(_+1)*64<=_;omega) (by rw[wc];show _+1<=_;omega) (λbQ hn cap=>d0 (y.1,bQ,hn,cap))) ?_;refine vs ?_;exact trivial;rintro⟨so,bQ,hn,cap⟩;(conv=>whnf);refine go ?_;(have akx:((fa o ap aN [] i).map λx=>iR (kt (.a7 26 [dE o n bV bE] 0 0) bL aN x.hA) .bh x)=[iR JM .bh (wa o ap i d),iR m' .bh (wb o ap aN d)]:=by unfold fa;rw[atJ c0,um];simp[Py,JN]);(have o8:bs (D.int .i64) (fC (o0 aN i) d.path (i:Nat))=bs (D.int .i64) (o0 aN (i+1)):=by rw[akp c0,um]);have Gx:∀j,j<i->(λj=>if j=i then Value.slice (some ⟨so,0,none⟩) 2 2 else fK j) j=fK j:=λj Z=>atG atv;have qH:=akt (vs:=fK) (gx:=λj=>if j=i then Value.slice (some ⟨so,0,none⟩) 2 2 else fK j) c0 um Gx;rw[atH rfl]at qH;exact yt (i+1,.slice bQ hn cap,λj=>if j=i then Value.slice (some ⟨so,0,none⟩) 2 2 else fK j) c0 (w2 [(4103,4103),(4104,4104),(33,33),(32,32),(4111,99)] (10000+i) 7500 atv (A9 _ _ _ _ _ _) (aks (atH rfl) Gx akx) (gL:=⟨rfl,rfl,rfl,rfl,rfl,vw o8,rfl,rfl,rfl,sY qH,ai⟩)));(have qb:i=aN.length:=by simp at hc;omega);subst qb;refine Y.exit ?_;(conv=>whnf);refine Y.jX [(1,.a7 1 [.a7 26 [dE o n bV bE] 0 0] 0 0),(3,.a7 1 [.Q .none 6 (aN.map gF)] 0 0),(4,.Q .none 7 (cj.map fp)),(6,.box 32 lO 0),(7,.a7 1 [.an (.map (some bL))] 0 0)] (cQ [(4103,.mp bV (bs aH ap)),(4104,.mp bE (bs bg [])),(33,.mp bL (bs (D.int .i64) (o0 aN aN.length))),(32,.box lO [.bool false,.an b4,u 0,u 0,u 0]),(4111,.row b4 (lg aN fK aN.length) 5 249)] (nU (.a7 26 [dE o n bV bE] 0 0) bL aN fK (fa o ap aN []) aN.length)) (pk [(4103,4103),(4104,4104),(33,33),(32,32),(4111,4111)] (A9 _ _ _ _ _ _)) ?_;refine go ?_;refine Al (λx:Nat×(Nat->Value)=>x.1<=cj.length) [1,3,4,6,7,103,104] [4103,4104,33,32] (λx=>[(105,u x.1)]) (λx=>[(4111,.row b4 (lg aN x.2 aN.length) 5 249)]) (λx=>nU (.a7 26 [dE o n bV bE] 0 0) bL aN x.2 (fa o ap aN (cj.take x.1)) aN.length) (λx=>cj.length-x.1) (0,fK) (at7 _) ?_ (h1:=by exact fO.same cH λk o h=>h);rintro⟨k,pI⟩ X;dsimp only at X⊢;rcases at5 k cj.length with eQ|eQ;(·obtain⟨py,CK⟩:=l8 cj[k] (atK eQ);(have cg:cj[k].eN.toNat<aN.length:=by omega);refine Y.Cl 7500 (10000+cj[k].eN.toNat) rfl (A9 _ _ _ _ _ _) (akr cg) rfl aty λGy=>?_;refine go ?_;refine w1 (t:=decide ((k:Int)<(cj.map fp).length)) (by simpa using eQ) ?_;refine bH (fp cj[k]) (Ai rfl eQ) ?_;intro Xl;(conv=>whnf);refine cT ?_;have ar4:cj[k]∈cj:=atK eQ;generalize ak:cj[k]=e at*;refine jB 13 13 7 (fp e) ?_;refine go ?_;refine' eR [(7500,.row (pI e.eN.toNat) ((fa o ap aN (cj.take k) e.eN.toNat).map λx=>iR (kt (.a7 26 [dE o n bV bE] 0 0) bL aN x.hA) .bh x) 12 234),(4103,.mp bV (bs aH ap)),(4104,.mp bE (bs bg [])),(33,.mp bL (bs (D.int .i64) (o0 aN aN.length))),(32,.box lO [.bool false,.an b4,u 0,u 0,u 0]),(4111,.row b4 (lg aN pI aN.length) 5 249)] 0 (λy=>[_,_,_,_,_,_,aH (g0 ap e.path),.box 14 y 0,.any]) (λy=>[(7,14,some (.box y [.O [],u 0,.O [],.O [],u 0,u 0,u 0,u 0,u 0,u 0,.bh,.bh])),(8,14,some (.box y (aH (g0 ap e.path)).cells))]) [0,1,3,7,0,16,63,0,255] [(7,14),(8,14)] ?_ ?_;rotate_left 6;refine dC ?_;refine bR (λy=>af.qt 4103 (dA:=9) (d9:=44) (enc:=aH) (l:=ap) (k:=e.path) (V:=A2) rfl rfl rfl rfl rfl atD (λw C=>Jv w C) (cz y)) ?_;refine wS ?_;exact trivial;intro qq;(conv=>whnf);refine jB 14 14 12 (aH (g0 ap e.path)) ?_;refine go ?_;(have lV:(if(0:Int)<=e.bb then(2:Int)else 0)=bif decide ((0:Int)<=e.bb)then 2 else 0:=by by_cases h:(0:Int)<=e.bb<;>simp[h]);have du:JJ e=if e.kV=true then qD .or .i64 (if(0:Int)<=e.bb then 2 else 0) 1 else(if(0:Int)<=e.bb then 2 else 0):=rfl;(have Ao:kt (.a7 26 [dE o n bV bE] 0 0) bL aN (rm o ap e).hA=if e.Da=true then .fn (.func 167) [] [.a7 1 [.a7 26 [dE o n bV bE] 0 0] 0 0,.a7 12 [aH (g0 ap e.path)] 0 0,.a7 7 [fp e] 0 0,.a7 1 [.an (.map (some bL))] 0 0,.a7 1 [.Q .none 6 (aN.map gF)] 0 0]else .fn (.func 229) [] []:=by unfold rm;dsimp only;split<;>rfl);have nM:∀S,iR S .bh (rm o ap e)=.agg [.O e.id,u 0,u 0,u (g0 ap e.path).n4,u o.c2,u (JJ e),u 1,.O [],u e.bb,S,.bh,.bh]:=λ_=>rfl;have xB:(kt (.a7 26 [dE o n bV bE] 0 0) bL aN (rm o ap e).hA).one=true:=JI _ _ _ _;have Pz:=C5 (B:=B) o n (g0 ap e.path) bV bE e.id e.bb (if(0:Int)<=e.bb then 2 else 0) lV;generalize gc:kt (.a7 26 [dE o n bV bE] 0 0) bL aN (rm o ap e).hA=S at*;generalize Xw:(if(0:Int)<=e.bb then(2:Int)else 0)=tm at*;generalize bJ:JJ e=jc at*;refine br Pz ?_;intro tn;(conv=>whnf);refine go ?_;refine nf (α:=Unit) (λ_=>True) [1,3,4,6,7,13,14,15,103,104,105] [7500,4103,4104,33,32,4111] (λ_=>[]) (λ_=>[(15,.box tn (oz e.id (g0 ap e.path).n4 o.c2 tm e.bb .bh).cells)]) ?_ ?_;refine hb (λbw=>?_) (λbw=>?_);refine ke [(4104,4104)] (XR o n (g0 ap e.path) bV bE e.id e.path (g0 ap e.path).n4 o.c2 tm e.bb) ?_;exact gp () [(7500,7500),(4103,4103),(4104,4104),(33,33),(32,32),(4111,4111),(15,15)] trivial;exact gp () [(7500,7500),(4103,4103),(4104,4104),(33,33),(32,32),(4111,4111),(15,15)] trivial;intro _ _;refine go ?_;refine nf (α:=Unit) (λ_=>True) [1,3,4,6,7,13,14,15,103,104,105] [7500,4103,4104,33,32,4111] (λ_=>[]) (λ_=>[(15,.box tn (oz e.id (g0 ap e.path).n4 o.c2 jc e.bb .bh).cells)]) ?_ ?_;refine hb (t:=e.kV) (λbw=>?_) (λbw=>?_);rw[atH bw]at du;subst du;exact gp () [(7500,7500),(4103,4103),(4104,4104),(33,33),(32,32),(4111,4111),(15,15)] trivial;rw[atG (by rw[bw];decide)]at du;subst du;exact gp () [(7500,7500),(4103,4103),(4104,4104),(33,33),(32,32),(4111,4111),(15,15)] trivial;intro _ _;refine go ?_;refine nf (α:=Unit) (λ_=>True) [1,3,4,6,7,13,14,15,103,104,105] [7500,4103,4104,33,32,4111] (λ_=>[]) (λ_=>[(15,.box tn [.O e.id,u 0,u 0,u (g0 ap e.path).n4,u o.c2,u jc,u 1,.O [],u e.bb,S,.bh,.bh])]) ?_ ?_;refine hb (t:=e.Da) (λbw=>?_) (λbw=>?_);rw[atH bw]at Ao;subst Ao;exact gp () [(7500,7500),(4103,4103),(4104,4104),(33,33),(32,32),(4111,4111),(15,15)] trivial;rw[atG (by rw[bw];decide)]at Ao;subst Ao;exact gp () [(7500,7500),(4103,4103),(4104,4104),(33,33),(32,32),(4111,4111),(15,15)] trivial;intro _ _;subst bJ;refine go ?_;refine' eR [(7500,.row (pI e.eN.toNat) ((fa o ap aN (cj.take k) e.eN.toNat).map λx=>iR (kt (.a7 26 [dE o n bV bE] 0 0) bL aN x.hA) .bh x) 12 234),(4103,.mp bV (bs aH ap)),(4104,.mp bE (bs bg [])),(33,.mp bL (bs (D.int .i64) (o0 aN aN.length))),(32,.box lO [.bool false,.an b4,u 0,u 0,u 0]),(4111,.row b4 (lg aN pI aN.length) 5 249),(15,.box tn (iR S .bh (rm o ap e)).cells)] 0 (λy:Nat=>[_,_,_,_,_,_,_,_]) (λy=>[]) [0,1,3,7,0,16,63,127] [] ?_ ?_;rotate_left 8;refine dC ?_;refine bR (λy=>af.ev aL 4111 rfl rfl rfl rfl rfl rfl rfl py (by rw[wc];omega) (cz y)) ?_;exact trivial;intro _;(conv=>whnf);refine go ?_;have lI:=XP (vs:=pI) cg cg;refine' eR [(7500,.row (pI e.eN.toNat) ((fa o ap aN (cj.take k) e.eN.toNat).map λx=>iR (kt (.a7 26 [dE o n bV bE] 0 0) bL aN x.hA) .bh x) 12 234),(4103,.mp bV (bs aH ap)),(4104,.mp bE (bs bg [])),(33,.mp bL (bs (D.int .i64) (o0 aN aN.length))),(32,.box lO [.bool false,.an b4,u 0,u 0,u 0]),(4111,.row b4 (lg aN pI aN.length) 5 249),(15,.box tn (iR S .bh (rm o ap e)).cells)] (α:=Option Addr×Nat×Nat) (none,0,0) (λy=>[_,_,_,_,_,_,.Q .dU 12 [iR S .bh (rm o ap e)],.an (.slice y.1 y.2.1 y.2.2),_,_,.any]) (λy=>[(7,7500,none),(7,163,some (.row (.slice y.1 y.2.1 y.2.2) (((fa o ap aN (cj.take k) e.eN.toNat).map λx=>iR (kt (.a7 26 [dE o n bV bE] 0 0) bL aN x.hA) .bh x)++[iR S .bh (rm o ap e)]) 12 234)),(10,4111,some (.row b4 ((lg aN pI aN.length).set e.eN.toNat (nT aN[e.eN.toNat].id aN[e.eN.toNat].cB (.slice y.1 y.2.1 y.2.2) 0 0)) 5 249))]) [0,0,2,6,14,0,32,126,255,511,1023] [(7,7500),(7,163),(10,4111)] ?_ ?_;rotate_left 8;refine dC ?_;refine bR (λy=>af.rl 4111 (i:=e.eN.toNat) rfl rfl (by rw[wc];omega) (cz y)) ?_;refine bR (λy=>af.jA aL 4111 (i:=e.eN.toNat) rfl rfl (by rw[wc];omega) rfl rfl rfl aty (cz y)) ?_;refine bR (λy=>af.od aL 4111 (i:=e.eN.toNat) (j:=2) rfl rfl rfl lI (cz y)) ?_;refine⟨λy=>.inl ?_,dC ?_⟩;(conv=>whnf);exact⟨by simp[tI,iR,D.cells,D.js,D.one];exact xB,E⟩;refine bR (λy=>af.pc aL 7500 rfl rfl rfl atC rfl rfl rfl atx (by rw[atL];have:=Gu (o:=o) (ap:=ap) (aN:=aN) (cj:=cj.take k) (i:=e.eN.toNat);rw[at4]at this;show(_+1)*144<=_;omega) (by rw[atL];have:=Gu (o:=o) (ap:=ap) (aN:=aN) (cj:=cj.take k) (i:=e.eN.toNat);rw[at4]at this;show _+1<=_;omega) (λbQ hn cap=>d0 (bQ,hn,cap))) ?_;refine bR (λy=>af.rl 4111 (i:=e.eN.toNat) rfl rfl (by rw[wc];omega) (cz y)) ?_;refine bR (λy=>af.jA aL 4111 (i:=e.eN.toNat) rfl rfl (by rw[wc];omega) rfl rfl rfl aty (cz y)) ?_;refine bR (λy=>af.vo aL 4111 (i:=e.eN.toNat) (j:=2) rfl rfl rfl rfl lI aty rfl (cz y)) ?_;exact trivial;rintro⟨bQ,hn,cap⟩;(conv=>whnf);refine go ?_;have Gx:∀j,j≠e.eN.toNat->(λj=>if j=e.eN.toNat then Value.slice bQ hn cap else pI j) j=pI j:=λj Z=>atG Z;have qH:=aku (vs:=pI) (gx:=λj=>if j=e.eN.toNat then Value.slice bQ hn cap else pI j) (n:=aN.length) (v:=.slice bQ hn cap) cg (atH rfl) Gx;(have kE:fa o ap aN (cj.take (k+1)) e.eN.toNat=fa o ap aN (cj.take k) e.eN.toNat++[rm o ap e]:=by rw[XQ eQ,ak,atH ⟨by omega,cg⟩]);(have nJ:∀j,j≠e.eN.toNat->fa o ap aN (cj.take (k+1)) j=fa o ap aN (cj.take k) j:=λj Z=>by rw[XQ eQ,ak,atG atv]);exact yt (k+1,λj=>if j=e.eN.toNat then Value.slice bQ hn cap else pI j) eQ (w2 (f0:=.row (.slice bQ hn cap) (((fa o ap aN (cj.take k) e.eN.toNat).map λx=>iR (kt (.a7 26 [dE o n bV bE] 0 0) bL aN x.hA) .bh x)++[iR S .bh (rm o ap e)]) 12 234) [(4103,4103),(4104,4104),(33,33),(32,32),(4111,4111)] (10000+e.eN.toNat) 163 atv (Db (A9 _ _ _ _ _ _) _) (akv (bc:=fa o ap aN (cj.take k)) (atH rfl) Gx (by rw[kE,auo,<-gc];rfl) nJ) (gL:=⟨rfl,rfl,rfl,rfl,rfl,rfl,rfl,rfl,rfl,sY qH,ai⟩)));(have l2:k=cj.length:=by omega);subst l2;rw[atW];refine Y.qZ rfl (A9 _ _ _ _ _ _) λiL=>?_;refine go ?_;refine cb (t:=decide ((cj.length:Int)<(cj.map fp).length)) (λhc=>by simp at hc) (λhc=>?_);refine Y.exit ?_;(conv=>whnf);refine Y.jX [(6,.box 4110 lO 0)] (cQ [(4103,.mp bV (bs aH ap)),(4104,.mp bE (bs bg [])),(4110,.box lO [.bool false,.an b4,u 0,u 0,u 0]),(4111,.row b4 (lg aN pI aN.length) 5 249),(7100,.mp bL (bs (D.int .i64) (o0 aN aN.length)))] (nU (.a7 26 [dE o n bV bE] 0 0) bL aN pI (fa o ap aN cj) aN.length)) (pk [(4103,4103),(4104,4104),(4110,32),(4111,4111),(7100,33)] (A9 _ _ _ _ _ _)) ?_;refine go ?_;exact⟨.box 4110 lO 0,E,lO,bL,b4,pI,rfl,rfl⟩
end Go.bS.cp
namespace Go.bS
open Go
variable{P:Program}{B:World}{am:Nat}
def Dc(p:Nat->Bool)(H aM:bF):bF:=λk=>bif p k then aM k else H k
variable{U:b7 P B am}{w:World}{C:Nat->Nat}{A:aw}{a:Act}{f:FuncId}{ds:List D}{a6:D->bF->Prop}{dst:Option Tmp}
theorem aky(M:bG U w C A a)(p:Nat->Bool){H:bF}(Gz:∀k o,H k=some o->p k=true/\A.H k=some o){args:List Value}(hc:c8 P B f ds H a6)(ae:db w C ds args)(N:iY am dst=true){K:aw->Prop}(hK:∀d aM,a6 d aM->∃d',aq d d'/\K (({t:=A.t,H:=Dc p A.H aM}:aw).put dst d')): Calls P f ⟨args⟩ w λe w'=>∃v,e=.returned v/\∃az aO,K az/\bG U w' aO az (a.put dst v):=by let Ft:Nat->Prop:=λb=>∃s o,p s=true/\A.H s=some o/\o.ec b;have tS:∀b,Ft b->U.pS b:=λb ⟨s,o,_,h1,z⟩=>M.heap.cJ s o b h1 z;(have hH:mo Ft w C H:=by refine⟨λj o ag=>M.heap.b' j o (Gz j o ag).2,λj eu o bI b aX h1 z ao cS=>?_,λj o b ag ao=>⟨j,o,(Gz j o ag).1,(Gz j o ag).2,ao⟩⟩;exact M.heap.inj j eu o bI b aX (Gz j o h1).2 (Gz eu bI z).2 ao cS);refine(hc.2 w C args Ft M.base (λb G=>U.DM (tS b G)) hH ae).mono ?_;rintro e w' ⟨v,d,aO,aM,rfl,f_,eO,hs,nB⟩;obtain⟨d',dV,hK⟩:=hK d aM f_;refine⟨v,rfl,_,aO,hK,bG.put ?_ N (dV.le _ _ _ eO)⟩;have qP:∀j o,p j=false->A.H j=some o->∀b,o.ec b->¬Ft b/\b<w.heap.size:=λj o Z ag b G => ⟨λ⟨s,bI,h1,z,aa⟩=>M.heap.inj j s o bI b (λe=>by subst e;rw[Z]at h1;cases h1) ag z G aa,(M.heap.b' j o ag).lt G⟩;(have spec:∀{j o},Dc p A.H aM j=some o->(p j=true/\aM j=some o)\/(p j=false/\A.H j=some o):=λ{j o} h=>by unfold Dc at h;cases au:p j with|true=>rw[au]at h;exact .inl ⟨rfl,h⟩|false=>rw[au]at h;exact .inr ⟨rfl,h⟩);refine⟨λi=>(M.tmps i).ext hs.ext,⟨λj o ag=>?_,λj eu o bI b aX h1 z ao cS=>?_,λj o b ag ao=>?_⟩,M.size,M.defers,?_⟩;rcases spec ag with⟨_,h⟩|⟨Z,h⟩;exact nB.b' j o h;exact(M.heap.b' j o h).iE hs.ext λb G=>hs.iE b (qP j o Z h b G).2 (qP j o Z h b G).1;rcases spec h1 with⟨X,h⟩|⟨Z,h⟩<;>rcases spec z with⟨fA,bq⟩|⟨gl,bq⟩;exact nB.inj j eu o bI b aX h bq ao cS;obtain⟨aa,aC⟩:=qP eu bI gl bq b cS;rcases nB.cJ j o b h ao with a_|a_;exact aa a_;omega;obtain⟨aa,aC⟩:=qP j o Z h b ao;rcases nB.cJ eu bI b bq cS with a_|a_;exact aa a_;omega;exact M.heap.inj j eu o bI b aX h bq ao cS;rcases spec ag with⟨_,h⟩|⟨Z,h⟩;rcases nB.cJ j o b h ao with a_|a_;exact tS b a_;exact .inr (avb M.step.ext.size a_);exact M.heap.cJ j o b h ao;exact M.step.trans hs λb G bJ=>ayn
variable{args:Array Operand}{m8:Array TypeId}{b6:FuncId}{cq:List D}
theorem af.zd{K:aw->Prop}{f:Operand}{first:List D}(M:A.a8 f=.fn (.func b6) first cq)
  (g2:List D) (p:Nat->Bool) {H:bF} (hH:∀k o,H k=some o->p k=true/\A.H k=some o)  (hc:c8 P B b6 g2 H a6) (dV:dL (first++args.toList.map A.a8++cq) g2)
  (hK:∀d aM,a6 d aM->∃d',aq d d'/\K (({t:=A.t,H:=Dc p A.H aM}:aw).put dst d')):af P B am A dst (.call ⟨.value f,args,m8⟩) K :=
 ⟨λU w C a l1 N type pos after Q'=>by
  have o':=cr l1.tmps f;rw[M]at o';obtain⟨fK,hp,W,h1,z⟩:=o'.u9
  have aa:db w C (args.toList.map A.a8) (args.toList.map a.eval) :=
   ⟨by simp,λi d v N W=>by
    simp only[aud]at N W
    cases F:args.toList[i]? with
    |none=>rw[F]at N;cases N
    |some x=>rw[F]at N W;cases N;cases W;exact cr l1.tmps x⟩
  have aC:=dV.rH ((h1.append aa).append z);obtain⟨fn,i7,rK,mu⟩:=hc.1;have G:fn.body.isNone=false:=by cases G:fn.body<;>simp[G]at rK⊢
  have cU:(execOp a.eval ⟨dst,.call ⟨.value f,args,m8⟩,type,pos,after,none⟩).run P w=.ok (.enter b6 ⟨fK++args.toList.map a.eval++hp⟩) w:=by
   simp only[execOp,resolve,W,Deferred.ofValue,Sem.run_bind,Sem.run_pure,Result.andThen_ok,invoke,callFunc,run_program,i7,mu,G,auR,avq];congr 2
   apply avE;simp
  simp only[Oper.wp,cU,Oper.upon]
  exact(aky l1 p hH hc aC N hK).mono λe w' ⟨v,ak,h⟩=>by subst ak;exact h⟩
end Go.bS
namespace Go.bS.cp
open Go Go.Proofs
variable{B:World}
theorem XS:∀(f:Nat) (l:List c_) (er:Int),xf f l er≠[]/\∀g∈xf f l er,g.length<=l.length/\∀x∈g,x∈l
 |0,l,er=>by rw[xf];exact⟨by simp,λg aT=>by rw[auv]at aT;subst aT;exact⟨atP _,λx h=>h⟩⟩
 |f+1,l,er=>by rw[xf];split;refine⟨by simp,λg aT=>?_⟩;rcases at6.1 aT with rfl|aT;exact⟨by rw[at4];omega,λx h=>auL h⟩;obtain⟨h1,z⟩:=(XS f _ _).2 g aT;rw[auS]at h1;exact⟨by omega,λx h=>avV (z x h)⟩;exact⟨by simp,λg aT=>by rw[auv]at aT;subst aT;exact⟨atP _,λx h=>h⟩⟩
theorem XT{l:List c_}{er:Int}(h:(uE l er).2=0):(uE l er).1≠[]/\(uE l er).1.length<=64/\∀g∈(uE l er).1,g.length<=1024/\∀x∈g,x.data.length<=251:=by unfold uE at h⊢;split at h;rename_i h1;exact absurd h h1;rename_i h1;rw[atG h1];split at h;cases h;rename_i z;rw[atG z];split at h;cases h;rename_i aa;rw[atG aa];split at h;cases h;rename_i aC;rw[atG aC];split at h;cases h;rename_i a_;rw[atG a_];obtain⟨ce,dn⟩:=VU (Decidable.not_not.1 h1);obtain⟨m1,yJ⟩:=XS (2*l.length+3) l er;exact⟨m1,by show(I4 l er).length<=64;omega,λg aT=>by obtain⟨a,b⟩:=yJ g aT;exact⟨by omega,λx F=>dn x (b x F)⟩⟩
section
variable(bO:bN->D)(aG:bN->List c_)
def mh(x:bN):List (List c_)×Int:=uE (aG x) (254-vX (x.id.length:Nat) 0)
def gT(x:bN):List Int:=rf (mh aG x).1
def jL(x:bN):D:=iR (bO x) .bh x
def ku(x:bN):D:=iR (bO x) (.Q .none 1 (bn (gT aG x))) x
def wd(wide:Bool)(x:bN):Prop:=x.id.length<1000000/\(wide=false->iw x.id)/\(mh aG x).2=0
end
theorem akz{l:List c_}(al:l.length<=1024)(N:∀x∈l,x.data.length<=251):0<=iu l/\iu l<=261120:=by(have:∀k,k<=l.length->0<=iu (l.take k)/\iu (l.take k)<=255*(k:Int):=λk=>by induction k with|zero=>intro _;simp[iu]|succ k aY =>intro X;have:=aY atv;have z:=N _ (atK (show k<l.length by omega));rw[I1 atv];omega);have:=this l.length (atP _);rw[atW]at this;omega
variable{bO:bN->D}
theorem Dd(hs:∀x,(bO x).one=true)(aG:bN->List c_)(x:bN):(ku bO aG x).cells.all D.one=true:=by refine auC.2 λd N=>?_;simp only[ku,iR,D.cells,at6,aw5,awB]at N;rcases N with rfl|rfl|rfl|rfl|rfl|rfl|rfl|rfl|rfl|rfl|rfl|rfl;all_goals first|rfl|exact hs x
variable{aG:bN->List c_}
theorem JO{x:bN}(h:(mh aG x).2=0):0<(gT aG x).length/\(gT aG x).length<=64/\∀n∈gT aG x,0<=n/\n<=300000:=by obtain⟨h1,z,aa⟩:=XT h;unfold gT;rw[OR];refine⟨auX.2 h1,z,λn av=>?_⟩;unfold rf at av;obtain⟨i,hi,rfl⟩:=awL.1 av;obtain⟨ce,dn⟩:=aa _ (atK hi);have:=akz ce dn;split<;>omega
theorem akA(aV:dc B)(bO:bN->D)(hs:∀x,(bO x).one=true)(aG:bN->List c_)(x y:bN)(wide:Bool)(b4:Value)(bP ib C6:Int)(F:wd aG wide x)(hy:wd aG wide y):aS B 177 [ku bO aG x,ku bO aG y,.a7 1 [.a7 5 [pD wide b4 bP ib C6] 0 0] 0 0] (u (xo x.id y.id wide)):=by have PA:=W9 (B:=B) aV x.id y.id wide (by have:=F.1;omega) (by have:=hy.1;omega) (λh=>⟨F.2.1 h,hy.2.1 h⟩);refine fn Tryz.func177 Tryz.ntmps177 λU=>?_;refine go ?_;intro eD;(conv=>whnf);refine cT ?_;intro cP;(conv=>whnf);refine cT ?_;refine jB 3 3 12 (ku bO aG x) ?_ (ef:=Dd hs aG x);refine jB 4 4 12 (ku bO aG y) ?_ (ef:=Dd hs aG y);refine go ?_;refine yo ?_;refine br PA ?_;exact E
theorem akB(bO:bN->D)(hs:∀x,(bO x).one=true)(aG:bN->List c_)(x:bN)(h:(mh aG x).2=0):aS B 179 [ku bO aG x] (u (qu x.id (gT aG x))):=by obtain⟨h1,z,aa⟩:=JO h;(obtain⟨n,l,av⟩ : ∃n l,gT aG x = n :: l := by cases cy : gT aG x with|nil=>rw[cy]at h1;cases h1|cons n l=>exact⟨n,l,rfl⟩);have n':=aa n (by rw[av];exact atS);have akC:=agQ (B:=B) n n'.1 atv;have XU:=VL (B:=B) (x.id.length:Nat) (NZ n);refine fn Tryz.func179 Tryz.ntmps179 λU=>?_;refine go ?_;intro dz;(conv=>whnf);refine cT ?_;refine jB 1 1 12 (ku bO aG x) ?_ (ef:=Dd hs aG x);refine go ?_;refine yo ?_;refine And.intro (λ_=>⟨by decide,by simp[bn];omega⟩) ?_;(conv=>whnf);refine cT ?_;refine bH (u n) (by simp[bn,av]) ?_;refine br akC ?_;refine br XU ?_;exact .of_eq (by rw[qu,av];rfl)
variable{am:Nat}{A:aw}{K:cK->aw->Prop}{c:Code}{v:Value}{xs:List D}{k e:Nat}
theorem akD{U:b7 Tryz.prog B am}(s:Nat)(h:v.oneCell'=true->Y U c A K)(hs:A.H s=some (.row v xs k e):=by exact rfl):Y U c A K :=
 ⟨λa w C M=>by
  obtain⟨dF,cap,W,_⟩:=M.heap.b' s _ hs
  exact(h (by rw[W];rfl)).run a w C M⟩
def eT(aD:List (atE×Int))(vs:Nat->Value)(a1 lL:Nat->Int):List D:=aD.mapIdx λj d=>nT d.1 d.2 (vs j) (a1 j) (lL j)
def iT(vs:Nat->Value)(f:Nat->List D)(n:Nat):bF:=λk=>if 10000<=k/\k<10000+n then some (.row (vs (k-10000)) (f (k-10000)) 12 234)else none
variable{aD:List (atE×Int)}{lL:Nat->Int}
theorem ij{vs:Nat->Value}{a1:Nat->Int}:(eT aD vs a1 lL).length=aD.length:=by simp[eT]
variable{i:Nat}
theorem De{vs:Nat->Value}{a1:Nat->Int}(h:i<aD.length):(eT aD vs a1 lL)[i]?=some (nT aD[i].1 aD[i].2 (vs i) (a1 i) (lL i)):=by unfold eT;rw[auF,atJ h];rfl
theorem akE{vs:Nat->Value}{a1 A_ JP:Nat->Int}(h:i<aD.length)(hs:∀j,j≠i->A_ j=a1 j/\JP j=lL j):(eT aD vs a1 lL).set i (nT aD[i].1 aD[i].2 (vs i) (A_ i) (JP i))=eT aD vs A_ JP:=by apply au2;intro j;rw[avN];by_cases d7:i=j;subst d7;rw[atH rfl,atH (by rw[ij];exact h),De h];rw[atG d7];unfold eT;simp only[auF];rw[(hs j (λh=>d7 h.symm)).1,(hs j (λh=>d7 h.symm)).2]
theorem gG(vs:Nat->Value)(f:Nat->List D)(n:Nat):qa (iT vs f n):=λk o h=>by
 unfold iT at h;split at h
 ·omega
 cases h
theorem PB{vs:Nat->Value}{f:Nat->List D}{n:Nat}(h:i<n):iT vs f n (10000+i)=some (.row (vs i) (f i) 12 234):=by unfold iT;rw[atH atv,auW]
variable{row:List D}
theorem XV{vs:Nat->Value}{f oq:Nat->List D}{n:Nat}(W:vs i=v)(ae:oq i=row)(xm:∀j,j≠i->oq j=f j):
  ∀k o,iT vs oq n k=some o->10000<=k/\((k=10000+i/\o=.row v row 12 234)\/(k≠10000+i/\ma (iT vs f n) (10000+i) k=some o)):=λk o h=>by
 unfold iT at h;split at h
 ·rename_i X;refine⟨X.1,?_⟩;by_cases f':k=10000+i
  ·subst f';rw[auW,W,ae]at h;exact .inl ⟨rfl,(auA h).symm⟩
  refine .inr ⟨f',?_⟩;unfold ma iT;rw[avw f',atH X,<-xm (k-10000) atv];exact h
 cases h
def fN(bD:Nat->Int)(a:Int):Nat->Int
 |0=>a
 |i+1=>fN bD a i+bD i
theorem Df{bD:Nat->Int}{a b:Int}{n:Nat}(h:∀i,i<n->0<=bD i/\bD i<=b):∀i,i<=n->a<=fN bD a i/\fN bD a i<=a+b*(i:Int)
 |0,_=>by simp[fN]
 |i+1,hi=>by have h1:=Df (a:=a) h i atv;have z:=h i atv;rw[fN];(have:b*((i+1:Nat):Int)=b*(i:Int)+b:=by rw[Int.natCast_succ,Int.mul_add,Int.mul_one]);omega
variable{L:List bN}
section
variable(aG:bN->List c_)(wide:Bool)
def GA(x y:{x:bN // wd aG wide x}):Int:=xo x.1.id y.1.id wide
open Classical in
noncomputable def o1(L:List bN):List bN:=if h:∀x∈L,wd aG wide x then(gi (GA aG wide) (L.attachWith _ h)).map (·.1)else[]
theorem XW(h:∀x∈L,wd aG wide x):o1 aG wide L=(gi (GA aG wide) (L.attachWith _ h)).map (·.1):=avv h
theorem JQ:∀x∈o1 aG wide L,wd aG wide x:=λx F=>by
 unfold o1 at F;split at F
 ·obtain⟨y,_,rfl⟩:=at3.1 F;exact y.2
 cases F
theorem JR:(o1 aG wide L).length<=L.length:=by unfold o1;split;rw[atL,adz,List.length_attachWith];exact atP _;simp
noncomputable def PC(L:List bN):List Int:=(o1 aG wide L).map λx=>qu x.id (gT aG x)
noncomputable def ze(L:List bN):Int:=yU (PC aG wide L)
def JS(bc:Nat->List bN)(n:Nat):List Int:=(List.range n).flatMap λi=>(bc i).map λx=>(mh aG x).2
def we(bc:Nat->List bN)(n:Nat):Int:=((JS aG bc n).find? λe=>!(e==0)).getD 0
def j7(o n:Int):Int:=(if n>2048-o.tmod 2048 then o+(2048-o.tmod 2048)else o)+n
noncomputable def wg(bc:Nat->List bN)(n:Nat):List Int:=(List.range n).flatMap λi=>(o1 aG wide (bc i)).flatMap λx=>(gT aG x).tail
noncomputable def zf(bc:Nat->List bN)(n:Nat)(a:Int):Int:=fN (λi=>ze aG wide (bc i)) a n+kj ((wg aG wide bc n).foldl j7 0)
noncomputable def GB(bc:Nat->List bN)(n:Nat)(a:Int):D:=if we aG bc n=0 then .bl [u (zf aG wide bc n a),u 0]else .bl [u 0,u (we aG bc n)]
end
variable{wide:Bool}
theorem XX(h:L.length<400000):0<=ze aG wide L/\ze aG wide L<=2000000:=by have:=JR aG wide (L:=L);exact agW _ (by unfold PC;rw[atL];omega)
theorem akF{n:Nat}(h:i<=n):List.range n=List.range i++(List.range (n-i)).map (·+i):=by obtain⟨m,rfl⟩:∃m,n=i+m:=⟨n-i,by omega⟩;rw[List.range_add,auW];simp only[awy]
variable{bc:Nat->List bN}
theorem akG{n:Nat}(h:∀j,j<n->∀x∈bc j,(mh aG x).2=0):we aG bc n=0:=by unfold we;rw[avi.2 (λe ak=>?_)];rfl;obtain⟨j,Z,hm⟩:=avx.1 ak;obtain⟨x,F,rfl⟩:=at3.1 hm;rw[h j (auY.1 Z) x F];decide
theorem akH{n:Nat}(hi:i<n)(h:∀j,j<i->∀x∈bc j,(mh aG x).2=0)(X:k<(bc i).length)(z:∀j (Z:j<k),(mh aG (bc i)[j]).2=0)(aa:(mh aG (bc i)[k]).2≠0):we aG bc n=(mh aG (bc i)[k]).2:=by unfold we;(have aC:JS aG bc n=(JS aG bc i++((bc i).take k).map λx=>(mh aG x).2)++(mh aG (bc i)[k]).2::(((bc i).drop (k+1)).map (λx=>(mh aG x).2)++((List.range (n-(i+1))).map (·+(i+1))).flatMap λi=>(bc i).map λx=>(mh aG x).2):=by unfold JS;rw[akF (show i+1<=n from hi),avs,ave,avs,auJ,List.flatMap_nil,auK];(conv=>lhs;arg 1;arg 2;rw[<-ava k (bc i),auN X,auo,aum]);simp only[auj,auO]);rw[aC,List.find?_append,avi.2 (λe ak=>?_)];rw[Option.none_or,List.find?_cons_of_pos (by simpa using aa)];rfl;rcases at1.1 ak with ak|ak;obtain⟨j,Z,hm⟩:=avx.1 ak;obtain⟨x,F,rfl⟩:=at3.1 hm;rw[h j (auY.1 Z) x F];decide;obtain⟨x,F,rfl⟩:=at3.1 ak;obtain⟨j,Z,rfl⟩:=auh.1 F;rw[at4]at Z;rw[awv,z j atv];decide
theorem akI(n:Int)(h0:0<=n)(h1:n<1000000000000000):aS B 171 [u n] (u (kj n)):=by refine fn Tryz.func171 Tryz.ntmps171 λU=>?_;refine go ?_;have I:(n+2048-1).tdiv 2048=(n+2048-1)/2048:=atX atv;refine sX (λ_=>by simp only[dk];omega) ?_;(conv=>whnf);refine go ?_;exact E
def A'(B:World)(j8:aI)(S:D)(eC:List c_):Prop:=∃b6 first cq,S=.fn (.func b6) first cq/\cV B b6 (first++[.fn (.func 173) [] []]++cq) (aK [(7100,j8)]) λd aM=>d=.Q .none 3 (eA eC)/\aM=aK [(7100,j8)]
def wh(bD:Nat->Int)(a:Int)(i j:Nat):Int:=if j<i then fN bD a j else 0
def wi(bD:Nat->Int)(i j:Nat):Int:=if j<i then bD j*2048 else 0
noncomputable def wj(bO:bN->D)(aG:bN->List c_)(wide:Bool)(bc:Nat->List bN)(i j:Nat):List D:=if j<i then(o1 aG wide (bc j)).map (ku bO aG)else(bc j).map (jL bO)
theorem akJ(bD:Nat->Int)(a:Int):wh bD a 0=λ_=>0:=funext λj=>atG atv
theorem akK(bD:Nat->Int):wi bD 0=λ_=>0:=funext λj=>atG atv
theorem akL(bO:bN->D)(aG:bN->List c_)(wide:Bool)(bc:Nat->List bN):wj bO aG wide bc 0=λi=>(bc i).map (jL bO):=funext λj=>atG atv
def nV(bO:bN->D)(aG:bN->List c_)(L:List bN)(k:Nat):List D:=L.mapIdx λj x=>if j<k then ku bO aG x else jL bO x
theorem xC:(nV bO aG L k).length=L.length:=by simp[nV]
theorem akM:nV bO aG L 0=L.map (jL bO):=by apply au0 (by simp[nV]);intro j h1 z;simp[nV]
theorem akN:nV bO aG L L.length=L.map (ku bO aG):=by apply au0 (by simp[nV]);intro j h1 z;simp only[nV,awh,awg];exact atH (by simpa[nV]using h1)
theorem akO(h:k<L.length):(nV bO aG L k)[k]?=some (jL bO L[k]):=by unfold nV;rw[auF,atJ h];simp
theorem akP(h:k<L.length):(nV bO aG L k).set k (ku bO aG L[k])=nV bO aG L (k+1):=by apply au0 (by simp[nV]);intro j h1 z;rw[aw3];simp only[nV,awh];exact axD
theorem akQ(n:Nat):0<=vX (n:Nat) 0/\vX (n:Nat) 0<=254:=by unfold vX;split;omega;split;rename_i h;(have:0<=yS (n:Nat):=by unfold yS;rw[atX atv];omega);omega;omega
theorem akR(hs:∀x,(bO x).one=true)(aG:bN->List c_)(x:bN):An (ku bO aG x):=⟨_,rfl,rfl,Dd hs aG x⟩
def rn(bO:bN->D)(aG:bN->List c_)(P:D)(x:bN):D:=.agg [.O x.id,u 0,u 0,u x.fl,u x.c2,u x.gf,u 1,.O [],u x.leads,bO x,.Q .none 1 (bn (gT aG x)),P]
theorem akS(bO:bN->D)(aG:bN->List c_)(x:bN):rn bO aG .bh x=ku bO aG x:=rfl
def iA(bO:bN->D)(aG:bN->List c_)(L:List bN)(k:Nat):List D:=L.mapIdx λj x=>if j<k then rn bO aG .any x else ku bO aG x
theorem Dg:(iA bO aG L k).length=L.length:=by simp[iA]
theorem akT:iA bO aG L 0=L.map (ku bO aG):=by apply au0 (by simp[iA]);intro j h1 z;simp[iA]
theorem akU:iA bO aG L L.length=L.map (rn bO aG .any):=by apply au0 (by simp[iA]);intro j h1 z;simp only[iA,awh,awg];exact atH (by simpa[iA]using h1)
theorem akV(h:k<L.length):(iA bO aG L k).set k (rn bO aG .any L[k])=iA bO aG L (k+1):=by apply au0 (by simp[iA]);intro j h1 z;rw[aw3];simp only[iA,awh];exact axD
theorem akW(h:k<L.length):(iA bO aG L k).set k (rn bO aG .bh L[k])=iA bO aG L k:=by apply au0 (by simp[iA]);intro j h1 z;rw[aw3];split;rename_i ak;subst ak;simp only[iA,awh];rw[atG atv];rfl;rfl
theorem akX(h:k<L.length):(iA bO aG L k)[k]?=some (rn bO aG .bh L[k]):=by unfold iA;rw[auF,atJ h];simp[akS]
theorem XY:∀y∈iA bO aG L k,y.cells.length=12:=λy hy=>by
 obtain⟨i,hi,rfl⟩:=awL.1 hy;split<;>rfl
theorem XZ{a:D}(h:∀y∈xs,y.cells.length=12)(ha:a.cells.length=12):∀y∈xs.set k a,y.cells.length=12:=λy hy=>by
 rcases avT hy with h1|h1
 ·exact h y h1
 rw[h1];exact ha
theorem X0{a b:D}(h:dL a.cells b.cells):dL (b1 (xs.set k a)) (b1 (xs.set k b)):=by refine dL.b1 atx λi x y F hy=>?_;rw[avN]at F hy;split at F;rename_i ak;rw[atH ak]at hy;split at F;rename_i al;rw[atH al]at hy;cases F;cases hy;exact h;cases F;rename_i ak;rw[atG ak,F]at hy;cases hy;exact E
theorem X1{x:bN}{P X2:D}(h:aq P X2):dL (rn bO aG P x).cells (rn bO aG X2 x).cells :=
 ⟨E,E,E,E,E,E,E,E,E,E,E,h,ai⟩
noncomputable def uQ(bO:bN->D)(aG:bN->List c_)(wide:Bool)(bc:Nat->List bN)(i j:Nat):List D:=(o1 aG wide (bc j)).map (rn bO aG (if j<i then .any else .bh))
noncomputable def ss(aG:bN->List c_)(wide:Bool)(bc:Nat->List bN)(i:Nat):Int:=(wg aG wide bc i).foldl j7 0
theorem akY:ss aG wide bc (i+1)=((o1 aG wide (bc i)).flatMap λx=>(gT aG x).tail).foldl j7 (ss aG wide bc i):=by unfold ss wg;rw[ave,avs,auU];simp
theorem akZ{o n:Int}(ag:0<=o)(av:0<=n/\n<=300000):o<=j7 o n/\j7 o n<=o+302048:=by unfold j7;rw[auZ ag];split<;>omega
theorem X3{l:List Int}(al:∀n∈l,0<=n/\n<=300000):∀{o:Int},0<=o->0<=l.foldl j7 o/\l.foldl j7 o<=o+302048*(l.length:Int):=by induction l with|nil=>intro o ag;simp;exact ag|cons n l aY =>intro o ag;have h1:=akZ ag (al n atS);have z:=aY (λm hm=>al m (atU _ hm)) (o:=j7 o n) atv;rw[avj,atQ];omega
theorem ak0{bD:Nat->Int}{a:Int}(h:∀i,0<=bD i):∀{i j:Nat},i<=j->fN bD a i<=fN bD a j:=λ{i j} d7=>by
 induction j with
 |zero=>rw[show i=0 by omega];exact auu _
 |succ j aY =>
  rcases at5 i (j+1)with h1|h1
  ·have:=aY atv;have:=h j;rw[fN];omega
  rw[show i=j+1 by omega];exact auu _
theorem X4{l:List f2}(h:∀x∈l,x.id.length<=10000):0<=kO l/\kO l<=10009*(l.length:Int):=by(have:∀k,k<=l.length->0<=kO (l.take k)/\kO (l.take k)<=10009*(k:Int):=λk=>by induction k with|zero=>intro _;simp[kO]|succ k aY =>intro X;have h1:=aY atv;have z:=h _ (atK (show k<l.length by omega));have aa:=O6 l[k].id.length;rw[O5 atv];omega);have:=this l.length (atP _);rw[atW]at this;exact this
theorem ak1(aV:dc B)(bO:bN->D)(hs:∀x,(bO x).one=true)(aG:bN->List c_)(wide:Bool)(j8:aI)(aD:List (atE×Int))(bc:Nat->List bN)(vs:Nat->Value)(b4:Value)(dK:Nat)(a:Int)(T:List f2)(ha:0<=a/\a<=1000000000000000)(av:aD.length<=1000000)(hT:T.length<1000000/\∀x∈T,x.id.length<=10000)(al:∀i,i<aD.length->(bc i).length<400000)(PD:fN (λi=>((bc i).length:Nat)) 0 aD.length<=10000000)(kV:∀i,i<aD.length->∀x∈bc i,x.id.length<1000000/\(wide=false->iw x.id)/\(aG x).length<1000000/\∀y∈aG x,y.qp.length<1000000/\y.data.length<1000000)(GC:∀i,i<aD.length->∀x∈bc i,A' B j8 (bO x) (aG x))(it:cV B 170 [.box 4110 dK 0] (aK [(4110,.box dK [.bool wide,.an b4,u 0,u 0,u 0]),(4111,.row b4 (eT aD vs (λ_=>0) (λ_=>0)) 5 249)]) λd aM=>d=.Q .none 3 (dZ T)/\aM=aK [(4110,.box dK [.bool wide,.an b4,u 0,u 0,u 0]),(4111,.row b4 (eT aD vs (λ_=>0) (λ_=>0)) 5 249)]): cV B 110 [.box 4110 dK 0,u a] (cQ [(4110,.box dK [.bool wide,.an b4,u 0,u 0,u 0]),(4111,.row b4 (eT aD vs (λ_=>0) (λ_=>0)) 5 249),(7100,j8)] (iT vs (λi=>(bc i).map (jL bO)) aD.length)) λd _=>d=GB aG wide bc aD.length (a+2*kj (kO T)):=by have ak2:=X4 hT.2;(have Pg:0<=kj (kO T)/\kj (kO T)<=1000000000:=by unfold kj;rw[atX atv];omega);(have ar5:=ajD (B:=B) T hT.1 λx F=>by have:=hT.2 x F;omega);have ar6:=VK (B:=B) (kO T) ak2.1 atv;generalize bz:kO T=V at*;generalize ao:kj V=aj at*;refine yn Tryz.func110 Tryz.ntmps110 λU=>?_;refine Y.jX [(0,.box 4110 dK 0),(1,u a)] (cQ [(4110,.box dK [.bool wide,.an b4,u 0,u 0,u 0]),(4111,.row b4 (eT aD vs (λ_=>0) (λ_=>0)) 5 249),(7100,j8)] (iT vs (λi=>(bc i).map (jL bO)) aD.length)) (fO.same cH λk o h=>h) ?_;apply en;refine Y.qZ rfl (gG _ _ _) λiL=>?_;refine go ?_;intro cc;(conv=>whnf);refine cT ?_;refine Y.jX [(1,u a),(2,.box 2 cc 0)] (cQ [(2,.box cc [.box 4110 dK 0]),(4110,.box dK [.bool wide,.an b4,u 0,u 0,u 0]),(4111,.row b4 (eT aD vs (λ_=>0) (λ_=>0)) 5 249),(7100,j8)] (iT vs (λi=>(bc i).map (jL bO)) aD.length)) (pk [(2,2),(4110,4110),(4111,4111),(7100,7100)] (gG _ _ _)) ?_;apply en;refine Y.qZ rfl (gG _ _ _) λiL=>?_;refine' eR [(2,.box cc [.box 4110 dK 0]),(4110,.box dK [.bool wide,.an b4,u 0,u 0,u 0]),(4111,.row b4 (eT aD vs (λ_=>0) (λ_=>0)) 5 249),(7100,j8)] 0 (λy:Nat=>[_,_,.Q .none 3 (dZ T),u V,_,_,.any]) (λy=>[(6,4110,some (.box dK [.bool wide,.an b4,u V,u 0,u 0]))]) [0,0,2,6,15,31,63] [(6,4110)] ?_ ?_;rotate_left 4;refine dC ?_;refine bR (λy=>af.Cb rfl [.box 4110 dK 0] [(4110,4110),(4111,4111)] (hs:=[(4110,.box dK [.bool wide,.an b4,u 0,u 0,u 0]),(4111,.row b4 (eT aD vs (λ_=>0) (λ_=>0)) 5 249)]) ⟨rfl,ba⟩ it rfl ar E (cz y)) ?_;refine Go.bS.cp.vs ?_;exact trivial;intro _;(conv=>whnf);refine Y.jX [(1,u a),(2,.box 2 cc 0)] (cQ [(2,.box cc [.box 4110 dK 0]),(4110,.box dK [.bool wide,.an b4,u V,u 0,u 0]),(4111,.row b4 (eT aD vs (λ_=>0) (λ_=>0)) 5 249),(7100,j8)] (iT vs (λi=>(bc i).map (jL bO)) aD.length)) (pk [(2,2),(4110,4110),(4111,4111),(7100,7100)] (gG _ _ _)) ?_;apply en;refine Y.qZ rfl (gG _ _ _) λiL=>?_;refine go ?_;refine Y.jX [(1,u a),(2,.box 2 cc 0)] (cQ [(2,.box cc [.box 4110 dK 0]),(4110,.box dK [.bool wide,.an b4,u V,u a,u 0]),(4111,.row b4 (eT aD vs (λ_=>0) (λ_=>0)) 5 249),(7100,j8)] (iT vs (λi=>(bc i).map (jL bO)) aD.length)) (pk [(2,2),(4110,4110),(4111,4111),(7100,7100)] (gG _ _ _)) ?_;refine Y.qZ rfl (gG _ _ _) λiL=>?_;refine' eR [(2,.box cc [.box 4110 dK 0]),(4110,.box dK [.bool wide,.an b4,u V,u a,u 0]),(4111,.row b4 (eT aD vs (λ_=>0) (λ_=>0)) 5 249),(7100,j8)] 0 (λy:Nat=>[_,_,_,_,_,_,_,u (a+aj),_,_,.any]) (λy=>[(10,4110,some (.box dK [.bool wide,.an b4,u V,u a,u (a+aj)]))]) [0,0,0,4,12,28,60,126,255,511,1023] [(10,4110)] ?_ ?_;rotate_left 9;refine dC ?_;refine Go.bS.cp.vs ?_;exact trivial;intro _;(conv=>whnf);refine Y.jX [(1,u a),(2,.box 2 cc 0)] (cQ [(2,.box cc [.box 4110 dK 0]),(4110,.box dK [.bool wide,.an b4,u V,u a,u (a+aj)]),(4111,.row b4 (eT aD vs (λ_=>0) (λ_=>0)) 5 249),(7100,j8)] (iT vs (λi=>(bc i).map (jL bO)) aD.length)) (pk [(2,2),(4110,4110),(4111,4111),(7100,7100)] (gG _ _ _)) ?_;apply en;refine Y.qZ rfl (gG _ _ _) λiL=>?_;refine' eR [(2,.box cc [.box 4110 dK 0]),(4110,.box dK [.bool wide,.an b4,u V,u a,u (a+aj)]),(4111,.row b4 (eT aD vs (λ_=>0) (λ_=>0)) 5 249),(7100,j8)] 0 (λy:Nat=>[_,_,_,_,_,_,_,_,_,u (a+aj+aj),_]) (λy=>[]) [0,1,3,7,0,16,48,112,240,511,1023] [] ?_ ?_;rotate_left 10;refine dC ?_;exact trivial;intro _;(conv=>whnf);(have ak3:a+2*aj=a+aj+aj:=by omega);rw[ak3];obtain⟨a2,C1⟩:∃a2,a+aj+aj=a2:=⟨_,rfl⟩;rw[C1];(have qL:0<=a2/\a2<=1000010000000000:=by omega);refine Y.jX [(1,u a2),(2,.box 2 cc 0)] (cQ [(2,.box cc [.box 4110 dK 0]),(4110,.box dK [.bool wide,.an b4,u V,u a,u (a+aj)]),(4111,.row b4 (eT aD vs (λ_=>0) (λ_=>0)) 5 249),(7100,j8)] (iT vs (λi=>(bc i).map (jL bO)) aD.length)) (pk [(2,2),(4110,4110),(4111,4111),(7100,7100)] (gG _ _ _) (h1:=⟨.of_eq (by rw[<-C1];rfl),E,ai⟩)) ?_;apply m';refine Y.qZ rfl (gG _ _ _) λiL=>?_;refine akD 4111 (λxp=>?_);refine Y.ajF 4110 2 (pD wide b4 V a (a+aj)) rfl rfl aty rfl (by simp only[awk,List.all_nil,D.one,xp,aw2]) ?_;refine jB 2 2 1 (.a7 5 [pD wide b4 V a (a+aj)] 0 0) ?_;refine go ?_;refine dD (af.sQ aL 4111 rfl rfl rfl rfl) ?_;rw[ij];generalize ak4:a+aj=JT;refine Y.jX [(1,u a2),(2,.a7 1 [.a7 5 [pD wide b4 V a JT] 0 0] 0 0),(57,u (aD.length:Nat)),(58,u 0)] (cQ [(7100,j8),(4111,.row b4 (eT aD vs (λ_=>0) (λ_=>0)) 5 249)] (iT vs (λi=>(bc i).map (jL bO)) aD.length)) (pk [(7100,7100),(4111,4111)] (gG _ _ _)) ?_;have ar7:=VK (B:=B) 0 aty aty;obtain⟨bD,hN⟩:∃bD:Nat->Int,(λi=>ze aG wide (bc i))=bD:=⟨_,rfl⟩;(have PE:∀i,i<aD.length->0<=bD i/\bD i<=2000000:=λi hi=>by rw[<-hN];exact XX (al i hi));refine Al (λx:Nat=>x<=aD.length/\∀j,j<x->∀y∈bc j,(mh aG y).2=0) [2,57] [7100] (λx=>[(1,u (fN bD a2 x)),(58,u x)]) (λx=>[(4111,.row b4 (eT aD vs (wh bD a2 x) (wi bD x)) 5 249)]) (λx=>iT vs (wj bO aG wide bc x) aD.length) (λx=>aD.length-x) 0 ⟨at7 _,λj Z=>absurd Z atv⟩ ?_ (h1:=by rw[akJ,akK,akL];exact fO.same cH λk o h=>h);rintro i ⟨cg,GD⟩;rcases at5 i aD.length with c0|c0;(·(have wJ:wj bO aG wide bc i i=nV bO aG (bc i) 0:=by rw[akM];exact atG atv);refine Y.Cl (f0:=.row (vs i) (nV bO aG (bc i) 0) 12 234) 7500 (10000+i) rfl (gG _ _ _) (by rw[PB c0,wJ]) rfl aty λGy=>?_;have lI:=De (vs:=vs) (a1:=wh bD a2 i) (lL:=wi bD i) c0;have qV:=al i c0;refine go ?_;refine w1 (t:=decide ((i:Int)<(aD.length:Nat))) (by simpa using c0) ?_;refine dD (af.ev aL 4111 rfl rfl rfl rfl rfl rfl rfl atv (by rw[ij];omega)) ?_;refine dD (af.rl 4111 (i:=i) rfl rfl (by rw[ij];omega)) ?_;refine dD (af.jA aL 4111 (i:=i) rfl rfl (by rw[ij];omega) rfl rfl rfl aty) ?_;refine dD (af.od aL 4111 (i:=i) (j:=2) rfl rfl rfl lI) ?_;refine dD (af.sQ aL 7500 rfl rfl rfl rfl) ?_;rw[xC];refine gn (λk:Nat=>k<=(bc i).length/\∀j (Z:j<(bc i).length),j<k->(mh aG (bc i)[j]).2=0) [1,2,6,7,8,57,58,71] [7100,4111] (λk=>[(72,u k)]) (λk=>[(7500,.row (vs i) (nV bO aG (bc i) k) 12 234)]) (λk=>(bc i).length-k) 0 ⟨at7 _,λj Z h=>absurd h atv⟩ [(7100,7100),(4111,4111),(7500,7500)] ?_;rintro k ⟨X,zg⟩;refine go ?_;refine cb (t:=decide ((k:Int)<(bc i).length)) ?_ ?_<;>intro hc;(·(have eQ:k<(bc i).length:=by simpa using hc);obtain⟨b6,first,cq,ak5,ak6⟩:=GC i c0 _ (atK eQ);obtain⟨ne,JU,q3,TU⟩:=kV i c0 _ (atK eQ);have uy:=akO (bO:=bO) (aG:=aG) eQ;have XU:=VL (B:=B) ((bc i)[k].id.length:Nat) 0;have ak7:=ag_ (B:=B) (aG (bc i)[k]) (254-vX ((bc i)[k].id.length:Nat) 0) q3 TU;have ak8:uE (aG (bc i)[k]) (254-vX ((bc i)[k].id.length:Nat) 0)=mh aG (bc i)[k]:=rfl;have lr:=akQ (bc i)[k].id.length;rw[ak8]at ak7;generalize JV:(bc i)[k]=x at*;refine go ?_;refine dD (af.rl 4111 (i:=i) rfl rfl (by rw[ij];omega)) ?_;refine dD (af.jA aL 4111 (i:=i) rfl rfl (by rw[ij];omega) rfl rfl rfl aty) ?_;refine dD (af.od aL 4111 (i:=i) (j:=2) rfl rfl rfl lI) ?_;refine dD (af.ev aL 7500 rfl rfl rfl rfl rfl rfl rfl atv (by rw[xC];omega)) ?_;refine' eR [(7100,j8),(4111,.row b4 (eT aD vs (wh bD a2 i) (wi bD i)) 5 249),(7500,.row (vs i) (nV bO aG (bc i) k) 12 234)] 0 (λy:Nat=>[_,_,_,.fn (.func b6) first cq,.Q .none 3 (eA (aG x)),_,_,_,_,_,_,_,_,_,_,_,_,_,_]) (λy=>[]) [0,1,3,7,15,0,32,96,224,480,992,2047,4095,8191,16383,32767,32767,65535,262143] [] ?_ ?_;rotate_left 17;refine dC ?_;refine bR (λy=>af.rl 7500 (i:=k) rfl rfl (by rw[xC];omega) (cz y)) ?_;refine bR (λy=>af.jA aL 7500 (i:=k) rfl rfl (by rw[xC];omega) rfl rfl rfl aty (cz y)) ?_;refine bR (λy=>af.od aL 7500 (i:=k) (j:=9) rfl rfl rfl uy (cz y (aa:=aq.of_eq ak5))) ?_;refine bR (λy=>af.Cb rfl (first++[.fn (.func 173) [] []]++cq) [(7100,7100)] (hs:=[(7100,j8)]) ⟨rfl,ba⟩ ak6 rfl (dL.refl _) E (cz y)) ?_;refine bR (λy=>af.rl 7500 (i:=k) rfl rfl (by rw[xC];omega) (cz y)) ?_;refine bR (λy=>af.jA aL 7500 (i:=k) rfl rfl (by rw[xC];omega) rfl rfl rfl aty (cz y)) ?_;refine bR (λy=>af.jA aL 7500 (i:=k) rfl rfl (by rw[xC];omega) rfl rfl rfl aty (cz y)) ?_;refine bR (λy=>af.od aL 7500 (i:=k) (j:=0) rfl rfl rfl uy (cz y)) ?_;exact trivial;intro _;(conv=>whnf);refine go ?_;refine cb ?_ ?_<;>intro hc;(have GF:(mh aG x).2≠0:=by simpa using hc);have Jy:=akH (aG:=aG) (n:=aD.length) c0 GD eQ (λj Z=>zg j atv Z) (by rw[JV];exact GF);rw[JV]at Jy;refine go ?_;exact⟨.bl [u 0,u (mh aG x).2],ar,(by rw[GB,Jy,atG GF])⟩;(have GF:(mh aG x).2=0:=by simpa using hc);obtain⟨mi,xD,Aq⟩:=XT GF;(have ak9:=aje (B:=B) (mh aG x).1 (by have:(mh aG x).1.length<=64:=xD;omega) λg aT=>by obtain⟨lc,kL⟩:=Aq g aT;exact⟨by omega,λy hy=>by have:=kL y hy;omega⟩);have q6:=akP (bO:=bO) (aG:=aG) eQ;rw[JV]at q6;refine go ?_;refine br ak9 ?_;refine dD (af.rl 7500 (i:=k) rfl rfl (by rw[xC];omega)) ?_;refine dD (af.jA aL 7500 (i:=k) rfl rfl (by rw[xC];omega) rfl rfl rfl aty) ?_;refine dD (af.vo aL 7500 (i:=k) (j:=10) rfl rfl rfl rfl uy aty rfl) ?_;refine eX (k+1) [(7100,7100),(4111,4111),(7500,7500)] ⟨by omega,λj Z h=>?_⟩ (z:=⟨cH,rfl,rfl,rfl,rfl,rfl,rfl,sY q6,ai⟩);rcases at5 j k with o_|o_;exact zg j Z o_;(have ak_:j=k:=by omega);subst ak_;rw[JV];exact GF);(have l2:k=(bc i).length:=by simp at hc;omega);subst l2;rw[akN];refine Y.exit ?_;(conv=>whnf);(have GG:∀x∈bc i,wd aG wide x:=λx F=>by obtain⟨j,Z,rfl⟩:=auh.1 F;exact⟨(kV i c0 _ F).1,(kV i c0 _ F).2.1,zg j Z Z⟩);have X5:=mc.M1 (B:=B) (b9:={x:bN // wd aG wide x}) (λx=>ku bO aG x.1) (λx=>akR hs aG x.1) (GA aG wide) 177 [.a7 1 [.a7 5 [pD wide b4 V a JT] 0 0] 0 0] (λx y=>akA aV bO hs aG x.1 y.1 wide b4 V a JT x.2 y.2) (vs i) ((bc i).attachWith _ GG) (by rw[List.length_attachWith];exact qV);rw[show((bc i).attachWith _ GG).map (λx=>ku bO aG x.1)=(bc i).map (ku bO aG)from List.attachWith_map_val GG,show(gi (GA aG wide) ((bc i).attachWith _ GG)).map (λx=>ku bO aG x.1)=(o1 aG wide (bc i)).map (ku bO aG)from by rw[XW aG wide GG,avX];rfl]at X5;refine go ?_;refine dD (af.rl 4111 (i:=i) rfl rfl (by rw[ij];omega)) ?_;refine dD (af.jA aL 4111 (i:=i) rfl rfl (by rw[ij];omega) rfl rfl rfl aty) ?_;refine dD (af.od aL 4111 (i:=i) (j:=2) rfl rfl rfl lI) ?_;refine ke [(2000,7500)] X5 ?_;refine dD (af.rl 4111 (i:=i) rfl rfl (by rw[ij];omega)) ?_;refine dD (af.jA aL 4111 (i:=i) rfl rfl (by rw[ij];omega) rfl rfl rfl aty) ?_;refine dD (af.od aL 4111 (i:=i) (j:=2) rfl rfl rfl lI) ?_;refine dD (af.sQ aL 7500 rfl rfl rfl rfl) ?_;rw[atL];have fg:=JR aG wide (L:=bc i);have xB:=JQ aG wide (L:=bc i);obtain⟨R,fG⟩:∃R,o1 aG wide (bc i)=R:=⟨_,rfl⟩;rw[fG]at fg xB⊢;refine Y.own 8 1000 1 3 rfl (λw0=>?_);refine gn (λx:Nat×Value=>x.1<=R.length) [1,2,6,7,57,58,116,117] [7100,4111,7500] (λx=>[(8,.Q (.own 1000 x.2) 1 (bn ((R.take x.1).map λy=>qu y.id (gT aG y)))),(118,u x.1)]) (λx=>[(1000,.own x.2 (bn ((R.take x.1).map λy=>qu y.id (gT aG y))).length 1 3)]) (λx=>R.length-x.1) (0,w0) (at7 _) [(7100,7100),(4111,4111),(7500,7500),(1000,1000)] ?_;rintro⟨k,w⟩ X;dsimp only at X⊢;refine go ?_;refine cb (t:=decide ((k:Int)<R.length)) ?_ ?_<;>intro hc;(have eQ:k<R.length:=by simpa using hc);have cv:=xB _ (atK eQ);have ak':=akB (B:=B) bO hs aG R[k] cv.2.2;refine go ?_;(have Dh:(R.map (ku bO aG))[k]?=some (ku bO aG R[k]):=by simp[eQ]);(have cW:(R.take k).map (λy=>qu y.id (gT aG y))++[qu R[k].id (gT aG R[k])]=(R.take (k+1)).map λy=>qu y.id (gT aG y):=by rw[atN eQ,auo];rfl);refine dD (af.ev aL 7500 rfl rfl rfl rfl rfl rfl rfl atv atw) ?_;refine dD (af.od aL 7500 (i:=k) (j:=0) rfl rfl rfl Dh) ?_;intro qq;(conv=>whnf);refine cT ?_;rw[show[D.O R[k].id,u 0,u 0,u R[k].fl,u R[k].c2,u R[k].gf,u 1,.O [],u R[k].leads,bO R[k],.Q .none 1 (bn (gT aG R[k])),.bh].all D.one=true from Dd hs aG R[k]];(conv=>whnf);refine cT ?_;refine jB 14 14 12 (ku bO aG R[k]) ?_ (ef:=Dd hs aG R[k]);refine go ?_;refine br ak' ?_;refine MN (by show(_+1)*8<=_;simp only[bn,atL,at4];omega) (by show _+1<=_;simp only[bn,atL,at4];omega) λgQ=>?_;(have qb:bn ((R.take k).map λy=>qu y.id (gT aG y))++[u (qu R[k].id (gT aG R[k]))]=bn ((R.take (k+1)).map λy=>qu y.id (gT aG y)):=by rw[<-cW];simp[bn]);exact eX (k+1,gQ) [(7100,7100),(4111,4111),(7500,7500),(1000,126)] eQ (z:=⟨⟨E,E,E,E,E,E,E,E,aq.kd qb,E,ai⟩,rfl,rfl,rfl,rfl,rfl,rfl,rfl,rfl,kG (by rw[<-qb];simp),ai⟩);(have l2:k=R.length:=by simp at hc;omega);subst l2;rw[atW];have X6:=agX (B:=B) (R.map λy=>qu y.id (gT aG y)) (by rw[atL];omega);(have ala:yU (R.map λy=>qu y.id (gT aG y))=bD i:=by rw[<-fG,<-hN];rfl);rw[ala]at X6;have Ip:=PE i c0;have qJ:=Df (a:=a2) PE i atv;refine Y.exit ?_;(conv=>whnf);refine go ?_;refine br X6 ?_;refine dD (af.rl 4111 (i:=i) rfl rfl (by rw[ij];omega)) ?_;refine dD (af.jA aL 4111 (i:=i) rfl rfl (by rw[ij];omega) rfl rfl rfl aty) ?_;refine dD (af.vo aL 4111 (i:=i) (j:=3) rfl rfl rfl rfl lI aty rfl) ?_;refine dD (af.rl 4111 (i:=i) rfl rfl (by rw[avc,ij];omega)) ?_;refine dD (af.jA aL 4111 (i:=i) rfl rfl (by rw[avc,ij];omega) rfl rfl rfl aty) ?_;refine dD (af.vo aL 4111 (i:=i) (j:=4) rfl rfl rfl rfl (by rw[av4 (by rw[ij];omega)]) aty rfl) ?_;(have mr:∀q,((eT aD vs (wh bD a2 i) (wi bD i)).set i q).set i (nT aD[i].1 aD[i].2 (vs i) (fN bD a2 i) (bD i*2048))=eT aD vs (wh bD a2 (i+1)) (wi bD (i+1)):=λq=>by have:=akE (vs:=vs) (a1:=wh bD a2 i) (lL:=wi bD i) (A_:=wh bD a2 (i+1)) (JP:=wi bD (i+1)) c0 (λj Z=>by unfold wh wi;by_cases h:j<i;rw[atH h,atH atv,atH h,atH atv];exact⟨rfl,rfl⟩;rw[atG h,atG atv,atG h,atG atv];exact⟨rfl,rfl⟩);rw[List.set_set,<-this];congr 2;exact(atH atv).symm;exact(atH atv).symm);(have h7:∀j,j≠i->wj bO aG wide bc (i+1) j=wj bO aG wide bc i j:=λj Z=>by unfold wj;by_cases h:j<i;rw[atH h,atH atv];rw[atG h,atG atv]);(have zI:wj bO aG wide bc (i+1) i=R.map (ku bO aG):=by unfold wj;rw[atH atv,fG]);exact yt (i+1) ⟨c0,λj Z y hy=>(avK.1 Z).elim (λh=>GD j h y hy) (λh=>by subst h;obtain⟨q,I,rfl⟩:=auh.1 hy;exact zg q I I)⟩ (w2 (f0:=.row (vs i) (R.map (ku bO aG)) 12 234) [(7100,7100),(4111,4111)] (10000+i) 7500 atv (Db (gG _ _ _) _) (XV rfl zI h7) (gL:=⟨rfl,rfl,rfl,sY (mr _),ai⟩)));(have qb:i=aD.length:=by omega);subst qb;clear c0 cg;refine Y.qZ rfl (gG _ _ _) λiL=>?_;refine go ?_;refine cb (t:=decide ((aD.length:Int)<(aD.length:Nat))) (λhc=>by simp at hc) (λhc=>?_);refine Y.exit ?_;(conv=>whnf);obtain⟨bA,lG⟩:∃bA,fN bD a2 aD.length=bA:=⟨_,rfl⟩;have alb:=Df (a:=a2) PE aD.length (atP _);rw[lG]at alb⊢;(have ar8:0<=bA/\bA<=2000000000000000:=by omega);(have PF:iT vs (wj bO aG wide bc aD.length) aD.length=iT vs (uQ bO aG wide bc 0) aD.length:=by funext k;unfold iT;split;rename_i X;congr 2;unfold wj uQ;rw[atH atv,atG atv];rfl;rfl);(have sP:GB aG wide bc aD.length a2=.bl [u (bA+kj (ss aG wide bc aD.length)),u 0]:=by unfold GB;rw[atH (akG GD),zf,<-lG,<-hN];rfl);rw[sP];obtain⟨JW,alc⟩:∃JW,wh bD a2 aD.length=JW:=⟨_,rfl⟩;obtain⟨JX,ald⟩:∃JX,wi bD aD.length=JX:=⟨_,rfl⟩;rw[alc,ald,PF];refine Y.jX [(1,u bA),(2,.a7 1 [.a7 5 [pD wide b4 V a JT] 0 0] 0 0)] (cQ [(4111,.row b4 (eT aD vs JW JX) 5 249)] (iT vs (uQ bO aG wide bc 0) aD.length)) (pk [(4111,4111)] (gG _ _ _)) ?_;refine go ?_;refine dD (af.sQ aL 4111 rfl rfl rfl rfl) ?_;rw[ij];obtain⟨Ba,Di⟩:∃Ba:Nat->Int,fN (λi=>((bc i).length:Nat)) 0=Ba:=⟨_,rfl⟩;(have hcs:∀i,Ba (i+1)=Ba i+((bc i).length:Nat):=λi=>by rw[<-Di];rfl);(have ms:∀i,i<=aD.length->Ba i<=10000000:=λi hi=>by rw[<-Di];exact Int.le_trans (ak0 (λj=>by omega) hi) PD);(have hS:Ba 0=0:=by rw[<-Di];rfl);have X7:ss aG wide bc 0=0:=rfl;refine Al (λx:Nat=>x<=aD.length/\0<=ss aG wide bc x/\ss aG wide bc x<=20000000*Ba x) [1,2,147] [4111] (λx=>[(16,u (ss aG wide bc x)),(148,u x)]) (λ_=>[]) (λx=>iT vs (uQ bO aG wide bc x) aD.length) (λx=>aD.length-x) 0 ⟨at7 _,by rw[X7];omega,by rw[X7,hS];omega⟩ ?_ (h1:=by exact fO.same cH λk o h=>h);rintro i ⟨cg,X8,ar9⟩;rcases at5 i aD.length with c0|c0;obtain⟨R,fG⟩:∃R,o1 aG wide (bc i)=R:=⟨_,rfl⟩;have fg:=JR aG wide (L:=bc i);have xB:=JQ aG wide (L:=bc i);rw[fG]at fg xB;(have PF:uQ bO aG wide bc i i=iA bO aG R 0:=by rw[akT,uQ,fG,atG atv];rfl);have PG:=akY (aG:=aG) (wide:=wide) (bc:=bc) (i:=i);rw[fG]at PG;generalize ss aG wide bc i=f0 at*;have ar_:=hcs i;have ar':=ms (i+1) c0;have qV:=al i c0;refine Y.Cl (f0:=.row (vs i) (iA bO aG R 0) 12 234) 7500 (10000+i) rfl (gG _ _ _) (by rw[PB c0,PF]) rfl aty λGy=>?_;have lI:=De (vs:=vs) (a1:=JW) (lL:=JX) c0;refine go ?_;refine w1 (t:=decide ((i:Int)<(aD.length:Nat))) (by simpa using c0) ?_;refine dD (af.ev aL 4111 rfl rfl rfl rfl rfl rfl rfl atv (by rw[ij];omega)) ?_;refine dD (af.jA aL 4111 (i:=i) rfl rfl (by rw[ij];omega) rfl rfl rfl aty) ?_;refine dD (af.od aL 4111 (i:=i) (j:=2) rfl rfl rfl lI) ?_;refine dD (af.sQ aL 7500 rfl rfl rfl rfl) ?_;rw[Dg];refine gn (λk:Nat=>k<=R.length/\0<=((R.take k).flatMap λy=>(gT aG y).tail).foldl j7 f0/\((R.take k).flatMap λy=>(gT aG y).tail).foldl j7 f0<=f0+20000000*(k:Int)) [1,2,17,147,148,159] [4111] (λk=>[(16,u (((R.take k).flatMap λy=>(gT aG y).tail).foldl j7 f0)),(160,u k)]) (λk=>[(7500,.row (vs i) (iA bO aG R k) 12 234)]) (λk=>R.length-k) 0 ⟨at7 _,X8,by simp⟩ [(4111,4111),(7500,7500)] ?_;rintro k ⟨X,iH,pY⟩;refine go ?_;refine cb (t:=decide ((k:Int)<R.length)) ?_ ?_<;>intro hc;(have eQ:k<R.length:=by simpa using hc);obtain⟨dI,cu,q'⟩:=JO (xB _ (atK eQ)).2.2;have uy:=akX (bO:=bO) (aG:=aG) eQ;have ale:=akV (bO:=bO) (aG:=aG) eQ;have mt:=X0 (xs:=iA bO aG R k) (k:=k) (X1 (bO:=bO) (aG:=aG) (x:=R[k]) aq.rQ);rw[akW eQ]at mt;(have aZ:((R.take (k+1)).flatMap λy=>(gT aG y).tail).foldl j7 f0=(gT aG R[k]).tail.foldl j7 (((R.take k).flatMap λy=>(gT aG y).tail).foldl j7 f0):=by rw[atN eQ,avs,auU];simp);generalize((R.take k).flatMap λy=>(gT aG y).tail).foldl j7 f0=c9 at*;generalize R[k]=x at*;refine go ?_;refine dD (af.ev aL 4111 rfl rfl rfl rfl rfl rfl rfl atv (by rw[ij];omega)) ?_;refine dD (af.jA aL 4111 (i:=i) rfl rfl (by rw[ij];omega) rfl rfl rfl aty) ?_;refine dD (af.od aL 4111 (i:=i) (j:=2) rfl rfl rfl lI) ?_;refine dD (af.ev aL 7500 rfl rfl rfl rfl rfl rfl rfl atv (by rw[Dg];omega)) ?_;refine dD (af.rl 7500 (i:=k) rfl rfl (by rw[Dg];omega)) ?_;refine dD (af.jA aL 7500 (i:=k) rfl rfl (by rw[Dg];omega) rfl rfl rfl aty) ?_;refine dD (af.od aL 7500 (i:=k) (j:=10) rfl rfl rfl uy) ?_;refine And.intro (λ_=>by simp only[bn,atL];omega) ?_;(conv=>whnf);refine cT ?_;obtain⟨jM,gZ⟩:∃jM,(gT aG x).tail=jM:=⟨_,rfl⟩;(have A4:jM.length<=63:=by rw[<-gZ,List.length_tail];omega);have X9:∀n∈jM,0<=n/\n<=300000:=λn av=>q' n (by rw[<-gZ]at av;exact aw_ av);rw[gZ]at aZ;rw[show List.drop (Int.toNat 1) (List.take (((bn (gT aG x)).length:Nat):Int).toNat (bn (gT aG x)))=bn jM by rw[auq,atW,<-gZ];simp[bn],show(bn jM).length=jM.length from atL _];refine Y.vp 7500 rfl atx (XZ XY rfl) mt ?_;refine Y.qR 8000 2 269 ?_;refine go ?_;refine gn (λx:Nat×Value×List D=>x.1<=jM.length/\x.2.2.length=x.1) [1,2,17,18,19,147,148,159,160,177,178] [4111] (λy=>[(16,u ((jM.take y.1).foldl j7 c9)),(179,u y.1)]) (λy=>[(7500,.row (vs i) ((iA bO aG R k).set k (rn bO aG (.an y.2.1) x)) 12 234),(8000,.row y.2.1 y.2.2 2 269)]) (λy=>jM.length-y.1) (0,.slice none 0 0,[]) ⟨at7 _,rfl⟩ [(4111,4111),(7500,7500),(8000,8000)] ?_;rintro⟨m,v,bP⟩ ⟨hm,uw⟩;dsimp only at hm uw⊢;have JY:=X3 (l:=jM.take m) (λn av=>X9 n (auL av)) iH;rw[at4]at JY;have I:((iA bO aG R k).set k (rn bO aG (.an v) x))[k]?=some (rn bO aG (.an v) x):=av4 (by rw[Dg];exact eQ);(have lu:((iA bO aG R k).set k (rn bO aG (.an v) x)).length=R.length:=by rw[avc,Dg]);refine go ?_;refine cb (t:=decide ((m:Int)<(jM.length:Nat))) ?_ ?_<;>intro hc;(have gv:m<jM.length:=by simpa using hc);have n':=X9 _ (atK gv);(have v':(bn jM)[m]?=some (.int .i64 jM[m]):=by simp[bn,gv]);(have X_:(jM.take (m+1)).foldl j7 c9=j7 ((jM.take m).foldl j7 c9) jM[m]:=by rw[atN gv,auU];rfl);obtain⟨jU,aa⟩:∃jU,jU=if jM[m]>2048-((jM.take m).foldl j7 c9).tmod 2048 then(jM.take m).foldl j7 c9+(2048-((jM.take m).foldl j7 c9).tmod 2048)else(jM.take m).foldl j7 c9:=⟨_,rfl⟩;generalize(jM.take m).foldl j7 c9=da at*;(have asa:(jM.take (m+1)).foldl j7 c9=jU+jM[m]:=by rw[X_,aa];rfl);clear X_;(have asb:0<=da.tmod 2048/\da.tmod 2048<2048:=by rw[auZ JY.1];omega);(have CQ:da<=300000000000000:=by omega);(have asc:da<=jU/\jU<=da+2048:=by rw[aa];split<;>omega);(have asd:0<=jU.tdiv 2048/\jU.tdiv 2048<=300000000000000:=by rw[atX atv];omega);refine go ?_;refine And.intro (λ_=>by simp only[bn,atL];omega) ?_;(conv=>whnf);refine cT ?_;refine bH (u jM[m]) v' ?_;refine nf (α:=Unit) (λ_=>True) [1,2,17,18,19,21,147,148,159,160,177,178,179] [4111,7500,8000] (λ_=>[(16,u jU)]) (λ_=>[]) ?_ ?_;refine hb (λbw=>?_) (λbw=>?_);rw[atH (by simpa using bw)]at aa;subst aa;exact gp () [(4111,4111),(7500,7500),(8000,8000)] trivial;rw[atG (by simpa using bw)]at aa;subst aa;exact gp () [(4111,4111),(7500,7500),(8000,8000)] trivial;intro _ _;(have ase:0<=jU.tmod 2048/\jU.tmod 2048<2048:=by rw[auZ atv];omega);refine go ?_;refine dD (af.rl 7500 (i:=k) rfl rfl (by rw[lu];omega)) ?_;refine dD (af.jA aL 7500 (i:=k) rfl rfl (by rw[lu];omega) rfl rfl rfl aty) ?_;refine dD (af.od aL 7500 (i:=k) (j:=11) rfl rfl rfl I) ?_;refine .inr (af.pc aL 8000 rfl rfl rfl atC rfl rfl rfl atx (by show(_+1)*16<=_;omega) (by show _+1<=_;omega) λbQ hn cap=>?_);(conv=>whnf);refine cT ?_;refine dD (af.rl 7500 (i:=k) rfl rfl (by rw[lu];omega)) ?_;refine dD (af.jA aL 7500 (i:=k) rfl rfl (by rw[lu];omega) rfl rfl rfl aty) ?_;refine dD (af.vo aL 7500 (i:=k) (j:=11) rfl rfl rfl rfl I aty rfl) ?_;have Ml:∀d,((iA bO aG R k).set k (rn bO aG (.an v) x)).set k d=(iA bO aG R k).set k d:=λd=>List.set_set ..;exact eX (m+1,.slice bQ hn cap,bP++[.agg [u (bA+jU.tdiv 2048),u (jU.tmod 2048)]]) [(4111,4111),(7500,7500),(8000,205)] ⟨gv,by simp[uw]⟩ (z:=⟨cH,rfl,rfl,rfl,rfl,sY (Ml _),rfl,ba⟩);(have PH:m=jM.length:=by simp at hc;omega);subst PH;rw[atW]at JY⊢;rw[<-aZ]at JY⊢;refine Y.exit ?_;(conv=>whnf);refine Y.vp 7500 rfl atx (XZ XY rfl) (X0 (X1 (.any _))) ?_;refine go ?_;exact eX (k+1) [(4111,4111),(7500,7500)] ⟨eQ,by omega,by omega⟩ (z:=⟨cH,rfl,rfl,rfl,rfl,sY ale,ai⟩);(have l2:k=R.length:=by simp at hc;omega);subst l2;rw[atW,<-PG];rw[atW,<-PG]at iH pY;(have h7:∀j,j≠i->uQ bO aG wide bc (i+1) j=uQ bO aG wide bc i j:=λj Z=>by unfold uQ;by_cases h:j<i;rw[atH h,atH atv];rw[atG h,atG atv]);(have zI:uQ bO aG wide bc (i+1) i=iA bO aG R R.length:=by rw[akU];unfold uQ;rw[atH atv,fG]);refine Y.exit ?_;(conv=>whnf);refine go ?_;exact yt (i+1) ⟨c0,iH,by omega⟩ (w2 (f0:=.row (vs i) (iA bO aG R R.length) 12 234) [(4111,4111)] (10000+i) 7500 atv (Db (gG _ _ _) _) (XV rfl zI h7));(have qb:i=aD.length:=by omega);subst qb;have alf:=akI (B:=B) (ss aG wide bc aD.length) X8 (by have:=ms aD.length (atP _);omega);refine Y.qZ rfl (gG _ _ _) λiL=>?_;refine go ?_;refine cb (t:=decide ((aD.length:Int)<(aD.length:Nat))) (λhc=>by simp at hc) (λhc=>?_);refine Y.exit ?_;(conv=>whnf);(have asf:0<=kj (ss aG wide bc aD.length)/\kj (ss aG wide bc aD.length)<=1000000000000:=by have:=ms aD.length (atP _);unfold kj;rw[atX atv];omega);refine go ?_;refine br alf ?_;exact⟨.bl [u (bA+kj (ss aG wide bc aD.length)),u 0],ar,rfl⟩
end Go.bS.cp
namespace Go.bS
open Go Go.RowKit
variable{k:Nat}
theorem JZ{c:Nat}{a b:Option aI}{o:aI}(X:10000<=k)(h:b=some o)(hc:Nat.blt c 10000=true:=by exact rfl):_root_.cond (Nat.beq k c) a b=some o:=by rw[avw (by have:=auk hc;omega)];exact h
variable{a1:List (Nat×aI)}{ct:bF}
theorem zh{o:aI}(X:10000<=k)(h:ct k=some o)(al:sZ a1=true:=by exact rfl):cQ a1 ct k=some o:=by unfold cQ;cases hs:aK a1 k with|some x=>have:=vy al hs;omega|none=>exact h
variable{az:aw}
theorem xE{l:List (Nat × D)}{a1:List (Nat × aI)}(m : List (Nat × Nat))(cy : qa ct)(sI : ∀k o,10000<=k->ct k = some o->az.H k = some o := by
      intro k o X I
      repeat (refine JZ X ?_)
      exact zh X I) (h1:jP az l:=by exact Go.bS.cp.cH) (hm:ka m=true:=by exact rfl) (gL:tU az m a1:=by exact Go.bS.cp.cH) (aZ:sZ a1=true:=by exact rfl) (gJ:ys 10000 m=true:=by exact rfl) :
  fO az l (cQ a1 ct):=by
 have h:=fO.pk (ct:=ct) m h1 hm gL aZ gJ cy
 have e:ls ct az.H=az.H:=funext λk=>by
  unfold ls
  cases N:ct k with
  |none=>rfl
  |some o=>exact(sI k o (cy k o N) N).symm
 rw[e]at h;exact h
def qv(a1:List (Nat×aI)):Nat->Bool:=λk=>Nat.ble 10000 k||(aK a1 k).isSome
theorem X'(h:10000<=k):qv a1 k=true:=by unfold qv;rw[aw9 h];rfl
variable{A:aw}
theorem PI{a1:List (Nat × aI)}(cy : qa ct)(sI : ∀k o,10000<=k->ct k = some o->A.H k = some o := by
      intro k o X I
      repeat (refine JZ X ?_)
      exact zh X I) (h1:m2 A a1:=by repeat (first|exact trivial|refine⟨rfl,?_⟩)):∀k o,cQ a1 ct k=some o->qv a1 k=true/\A.H k=some o:=λk o h=>by
 unfold cQ at h
 cases hs:aK a1 k with
 |some x =>
  rw[hs]at h;cases h
  exact⟨by unfold qv;rw[hs];simp,h1.aK k _ hs⟩
 |none =>
  rw[hs]at h;exact⟨X' (cy k o h),sI k o (cy k o h) h⟩
theorem J0{A_:List (Nat×aI)}{H:bF}{o:aI}(X:10000<=k)(h:ct k=some o)(al:sZ A_=true:=by exact rfl):Dc (qv a1) H (cQ A_ ct) k=some o:=by unfold Dc;rw[X' X];exact zh X h al
variable{α:Type}
def alg(et:α->Prop)(l:α->List (Nat×D))(a1:α->List (Nat×aI))(ct:α->bF)(K:cK->aw->Prop):cK->aw->Prop
 |.normal,A=>∃x,et x/\fO A (l x) (cQ (a1 x) (ct x))
 |.exit id,A=>K (.exit id) A
 |.ret,A=>K .ret A
end Go.bS
namespace Go.bS.cp
open Go Go.Proofs
variable{B:World}{am:Nat}{A:aw}{K:cK->aw->Prop}{α:Type}{dH:List (Nat×aI)}
theorem PJ{U:b7 Tryz.prog B am}{a b:Code}(et:α->Prop)(hv wG:List Nat)(l:α->List (Nat×D))(a1:α->List (Nat×aI))(ct:α->bF){L:List (Nat×D)}
  (h:Y U a A (alg et (λx=>L++l x) (λx=>dH++a1 x) ct K)) (bq:∀x,et x->Y U b (EU (L++l x) (dH++a1 x) (ct x)) K) (aV:ua A hv L:=by exact ym) (hO:yl A wG dH:=by exact ym):Y U a A (zz U b K) :=
 h.mono λe az X=>by
  cases e with
  |normal=>obtain⟨x,F,h1⟩:=X;exact(bq x F).jX _ _ h1
  |exit id=>exact X
  |ret=>exact X
structure lh where
 aD:List (atE×Int)
 bc:Nat->List bN
def hY(s:lh)(i:Nat)(x:bN):lh:=⟨s.aD,λj=>if j=i then s.bc j++[x]else s.bc j⟩
def mT(s:lh)(id:atE)(p:Nat)(a b:bN):lh:=⟨s.aD++[(id,(p:Int))],λj=>if j=s.aD.length then[a,b]else s.bc j⟩
def zi(path:atE):Int:=Lib.lastIndexByte ⟨⟨path⟩⟩ 47
def J1(path:atE):atE:=path.take (if zi path>0 then zi path else 0).toNat
theorem alh(path:atE):zi path<=(path.length:Nat):=by unfold zi;rcases Lib.lastIndexByte_spec ⟨⟨path⟩⟩ 47 with⟨h,_⟩|⟨i,hi,h,_⟩;rw[h];omega;rw[h];have:i<path.length:=hi;omega
section
variable(o:f1)(ap:List (atE×ad))
def ro(n:ad)(path:atE)(bY:Nat):ad:=if 1<bY then g0 ap (J1 path)else n
def nt(path name:atE)(bY:Nat):atE:=if 1<bY then path++[47]++name else name
mutual
def jN(n:ad)(path id:atE)(cB bY:Nat)(s:lh):lh :=
 match n with
 |.mk a b c d e f g h i j ah cE=>iU ah (ld 1 ah).1 s.aD.length path bY (mT s id cB ⟨[0],h,o.c2,2,s.aD.length,.eL⟩ ⟨[1],(ro ap (.mk a b c d e f g h i j ah cE) path bY).n4,o.c2,2,cB,.eL⟩)
def iU:List ad->List atE->Nat->atE->Nat->lh->lh
 |[],_,_,_,_,s=>s
 |k::ah,aW,d8,path,bY,s=>iU ah aW.tail d8 path bY (if lA 1 k (bY+1:Nat)=true then
   (if k.kind=0 then hY (jN k (nt path k.name bY) (fm (aW.headD [])) d8 (bY+1) s) d8 ⟨fm (aW.headD []),k.n4,o.c2,2,s.aD.length,.eL⟩else hY s d8 ⟨fm (aW.headD []),k.n4,o.c2,0,-1,.eL⟩)else s)
end
def Bb(k : ad)(aW : atE)(d8 : Nat)(path : atE)(bY : Nat)(s : lh): lh := if lA 1 k (bY + 1 : Nat) = true then
      (if k.kind=0 then hY (jN o ap k (nt path k.name bY) (fm aW) d8 (bY+1) s) d8 ⟨fm aW,k.n4,o.c2,2,s.aD.length,.eL⟩else hY s d8 ⟨fm aW,k.n4,o.c2,0,-1,.eL⟩)else s
theorem Ya:∀(ah:List ad) (aW:List atE) (k:ad) (d8:Nat) (path:atE) (bY:Nat) (s:lh),iU o ap (ah++[k]) aW d8 path bY s=Bb o ap k ((aW[ah.length]?).getD []) d8 path bY (iU o ap ah aW d8 path bY s)
 |[],aW,k,d8,path,bY,s=>by rw[au4,iU,iU,iU,Bb];(have:aW.headD []=(aW[0]?).getD []:=by cases aW<;>rfl);rw[this];rfl
 |x::ah,aW,k,d8,path,bY,s=>by rw[auO,iU,iU,Ya ah];(have:(aW.tail[ah.length]?).getD []=(aW[(x::ah).length]?).getD []:=by rw[List.getElem?_tail];rfl);rw[this]
theorem ali(n:ad)(path id:atE)(cB bY:Nat)(s:lh):jN o ap n path id cB bY s=iU o ap n.J (ld 1 n.J).1 s.aD.length path bY (mT s id cB ⟨[0],n.n4,o.c2,2,s.aD.length,.eL⟩ ⟨[1],(ro ap n path bY).n4,o.c2,2,cB,.eL⟩):=by cases n;rw[jN]
end
mutual
def o2(n:ad):Nat :=
 match n with
 |.mk a b c d e f g h i j ah cE=>a.length+2+kQ ah
def kQ:List ad->Nat
 |[]=>0
 |k::ah=>o2 k+kQ ah
end
theorem Bc(n:ad):o2 n=n.name.length+2+kQ n.J:=by cases n;rw[o2]
theorem PK:∀{l:List ad} {k:ad},k∈l->o2 k<=kQ l
 |x::r,k,h=>by rw[kQ];rcases at6.1 h with e|e;subst e;omega;have:=PK e;omega
theorem Yb:∀(l:List ad),2*l.length<=kQ l
 |[]=>by simp[kQ]
 |x::r=>by rw[kQ,atQ];have:=Yb r;have:=Bc x;omega
theorem J2:∀(l r:List ad),kQ (l++r)=kQ l+kQ r
 |[],r=>by simp[kQ]
 |x::l,r=>by rw[auO,kQ,kQ,J2 l r];omega
mutual
theorem J3(o:f1)(ap:List (atE×ad))(n:ad)(path id:atE)(cB bY:Nat)(s:lh):s.aD.length<(jN o ap n path id cB bY s).aD.length/\(jN o ap n path id cB bY s).aD.length<=s.aD.length+o2 n/\(∀j,j<s.aD.length->(jN o ap n path id cB bY s).bc j=s.bc j):=by
 match n with
 |.mk a b c d e f g h i j ah cE =>
  rw[jN,o2];have:=GH o ap ah (ld 1 ah).1 s.aD.length path bY (mT s id cB ⟨[0],h,o.c2,2,s.aD.length,.eL⟩ ⟨[1],(ro ap (.mk a b c d e f g h i j ah cE) path bY).n4,o.c2,2,cB,.eL⟩) (by simp[mT]);have al:(mT s id cB ⟨[0],h,o.c2,2,s.aD.length,.eL⟩ ⟨[1],(ro ap (.mk a b c d e f g h i j ah cE) path bY).n4,o.c2,2,cB,.eL⟩).aD.length=s.aD.length+1:=by simp[mT]
  rw[al]at this;refine⟨by omega,by omega,λj Z=>?_⟩;rw[this.2.2.1 j atv atv];simp only[mT];rw[atG atv]
theorem GH(o:f1)(ap:List (atE×ad))(ah:List ad)(aW:List atE)(d8:Nat)(path:atE)(bY:Nat)(s:lh)(ha:d8<s.aD.length):s.aD.length<=(iU o ap ah aW d8 path bY s).aD.length/\(iU o ap ah aW d8 path bY s).aD.length<=s.aD.length+kQ ah/\(∀j,j<s.aD.length->j≠d8->(iU o ap ah aW d8 path bY s).bc j=s.bc j)/\((iU o ap ah aW d8 path bY s).bc d8).length<=(s.bc d8).length+ah.length:=by
 match ah with
 |[]=>rw[iU];simp[kQ]
 |k::ah =>
  rw[iU,kQ,atQ];split
  ·split
   ·have h1:=J3 o ap k (nt path k.name bY) (fm (aW.headD [])) d8 (bY+1) s;have z:=GH o ap ah aW.tail d8 path bY (hY (jN o ap k (nt path k.name bY) (fm (aW.headD [])) d8 (bY+1) s) d8 ⟨fm (aW.headD []),k.n4,o.c2,2,s.aD.length,.eL⟩) (by simp only[hY];omega);have aa:=h1.2.2 d8 ha;have al:(hY (jN o ap k (nt path k.name bY) (fm (aW.headD [])) d8 (bY+1) s) d8 ⟨fm (aW.headD []),k.n4,o.c2,2,s.aD.length,.eL⟩).aD.length=(jN o ap k (nt path k.name bY) (fm (aW.headD [])) d8 (bY+1) s).aD.length:=rfl;have I:((hY (jN o ap k (nt path k.name bY) (fm (aW.headD [])) d8 (bY+1) s) d8 ⟨fm (aW.headD []),k.n4,o.c2,2,s.aD.length,.eL⟩).bc d8).length=(s.bc d8).length+1:=by simp only[hY,auT];rw[atO,aa];rfl
    refine⟨by omega,by omega,λj Z aX=>?_,by omega⟩;rw[z.2.2.1 j atv aX];simp only[hY];rw[atG aX,h1.2.2 j Z]
   have z:=GH o ap ah aW.tail d8 path bY (hY s d8 ⟨fm (aW.headD []),k.n4,o.c2,0,-1,.eL⟩) (by simp only[hY];omega);have al:(hY s d8 ⟨fm (aW.headD []),k.n4,o.c2,0,-1,.eL⟩).aD.length=s.aD.length:=rfl;have I:((hY s d8 ⟨fm (aW.headD []),k.n4,o.c2,0,-1,.eL⟩).bc d8).length=(s.bc d8).length+1:=by simp only[hY,auT];rw[atO];rfl
   refine⟨by omega,by omega,λj Z aX=>?_,by omega⟩;rw[z.2.2.1 j atv aX];simp only[hY];rw[atG aX]
  have z:=GH o ap ah aW.tail d8 path bY s ha;refine⟨by omega,by omega,λj Z aX=>z.2.2.1 j Z aX,by omega⟩
end
abbrev rp:bN->D:=λ_=>.fn (.func 229) [] []
abbrev nu(s:lh)(vs:Nat->Value):bF:=iT vs (λi=>(s.bc i).map (jL rp)) s.aD.length
inductive zj:ad->Prop
 |mk (n:ad) (h1:(ld 1 n.J).1.length=n.J.length) (z:∀x∈(ld 1 n.J).1,x.length<5000) (aa:∀k∈n.J,zj k):zj n
theorem alj(aD:List (atE×Int))(vs:Nat->Value)(id:atE)(p:Nat)(v:Value):eT aD vs (λ_=>0) (λ_=>0)++[nT id (p:Nat) v 0 0]=eT (aD++[(id,(p:Int))]) (λj=>if j=aD.length then v else vs j) (λ_=>0) (λ_=>0):=by unfold eT;rw[List.mapIdx_append];congr 1;apply au2;intro j;simp only[auF];rcases at5 j aD.length with Z|Z;rw[atG atv];rw[atT atv];rfl;simp
variable{v:Value}
theorem alk{s:lh}{vs:Nat->Value}{id:atE}{cB:Nat}{a b:bN}:∀k o,nu (mT s id cB a b) (λj=>if j=s.aD.length then v else vs j) k=some o->10000<=k/\((k=10000+s.aD.length/\o=.row v [jL rp a,jL rp b] 12 234)\/(k≠10000+s.aD.length/\nu s vs k=some o)):=λk o h=>by
 unfold nu iT at h;have al:(mT s id cB a b).aD.length=s.aD.length+1:=by simp[mT]
 rw[al]at h;split at h
 ·rename_i X;refine⟨X.1,?_⟩;by_cases f':k=10000+s.aD.length
  ·subst f';rw[auW]at h;dsimp only at h;rw[atH rfl]at h;refine .inl ⟨rfl,?_⟩;have:=(auA h).symm;rw[this];simp[mT]
  refine .inr ⟨f',?_⟩;unfold nu iT;dsimp only at h;rw[atG atv]at h;rw[atH atv,<-h];simp only[mT];rw[atG atv]
 cases h
variable{aD:List (atE×Int)}{i:Nat}
theorem alm{vs:Nat->Value}(h:i<aD.length):(eT aD vs (λ_=>0) (λ_=>0)).set i (nT aD[i].1 aD[i].2 v 0 0)=eT aD (λj=>if j=i then v else vs j) (λ_=>0) (λ_=>0):=by apply au2;intro j;rw[avN];by_cases d7:i=j;subst d7;rw[atH rfl,atH (by rw[ij];exact h),De h,atH rfl];rw[atG d7];unfold eT;simp only[auF];rw[atG (λh=>d7 h.symm)]
theorem aln{s:lh}{vs:Nat->Value}{x:bN}:∀k o,nu (hY s i x) (λj=>if j=i then v else vs j) k=some o->10000<=k/\((k=10000+i/\o=.row v ((s.bc i).map (jL rp)++[jL rp x]) 12 234)\/(k≠10000+i/\ma (nu s vs) (10000+i) k=some o)):=λk o h=>by
 unfold nu iT at h;have al:(hY s i x).aD.length=s.aD.length:=rfl;rw[al]at h;split at h
 ·rename_i X;refine⟨X.1,?_⟩;by_cases f':k=10000+i
  ·subst f';rw[auW]at h;dsimp only at h;rw[atH rfl]at h;refine .inl ⟨rfl,?_⟩;have:=(auA h).symm;rw[this];simp[hY]
  refine .inr ⟨f',?_⟩;unfold ma nu iT;dsimp only at h;rw[atG atv]at h;rw[avw f',atH X,<-h];simp only[hY];rw[atG atv];rfl
 cases h
theorem alo(aV:dc B)(o:f1)(ii:ad)(bV bE dK cP:Nat)(ap:List (atE×ad)):∀(m:Nat) (n:ad) (path id:atE) (cB bY:Nat) (s:lh) (vs:Nat->Value) (b4:Value),o2 n<=m->zj n->(s.aD.length+o2 n<=1000000/\path.length+bY+kQ n.J<=1000000)->
  cV B 181 [aH n,.O path,.O id,u (cB:Nat),u (bY:Nat),.a7 1 [.box 4110 dK 0] 0 0,.a7 1 [.a7 26 [dE o ii bV bE] 0 0] 0 0,.box 4 cP 0] (cQ [(4103,.mp bV (bs aH ap)),(4104,.mp bE (bs bg [])),(4,.box cP [.fn (.func 181) [] [.a7 1 [.box 4110 dK 0] 0 0,.a7 1 [.a7 26 [dE o ii bV bE] 0 0] 0 0,.box 4 cP 0]]),(4110,.box dK [.bool true,.an b4,u 0,u 0,u 0]),(4111,.row b4 (eT s.aD vs (λ_=>0) (λ_=>0)) 5 249)] (nu s vs))
   λd aM=>∃tq gx,d=.bl []/\aM=cQ [(4103,.mp bV (bs aH ap)),(4104,.mp bE (bs bg [])),(4,.box cP [.fn (.func 181) [] [.a7 1 [.box 4110 dK 0] 0 0,.a7 1 [.a7 26 [dE o ii bV bE] 0 0] 0 0,.box 4 cP 0]]),(4110,.box dK [.bool true,.an tq,u 0,u 0,u 0]),(4111,.row tq (eT (jN o ap n path id cB bY s).aD gx (λ_=>0) (λ_=>0)) 5 249)] (nu (jN o ap n path id cB bY s) gx):=by
 intro m
 induction m with
 |zero=>intro n path id cB bY s vs b4 hm _ _;rw[Bc]at hm;omega
 |succ m aY =>
 intro n path id cB bY s vs b4 hm lb G;have cG:=Bc n;obtain⟨_,mi,xD,Aq⟩:=lb;refine yn Tryz.func181 Tryz.ntmps181 λU=>?_;refine Y.jX [(0,aH n),(1,.O path),(2,.O id),(3,u (cB:Nat)),(4,u (bY:Nat)),(5,.a7 1 [.box 4110 dK 0] 0 0),(6,.a7 1 [.a7 26 [dE o ii bV bE] 0 0] 0 0),(7,.box 4 cP 0)] (cQ [(4103,.mp bV (bs aH ap)),(4104,.mp bE (bs bg [])),(4,.box cP [.fn (.func 181) [] [.a7 1 [.box 4110 dK 0] 0 0,.a7 1 [.a7 26 [dE o ii bV bE] 0 0] 0 0,.box 4 cP 0]]),(4110,.box dK [.bool true,.an b4,u 0,u 0,u 0]),(4111,.row b4 (eT s.aD vs (λ_=>0) (λ_=>0)) 5 249)] (nu s vs)) (fO.same cH λk o h=>h) ?_;refine go ?_;intro cF
 (conv=>whnf)
 refine cT ?_;refine jB 8 8 12 (aH n) ?_;refine go ?_;refine dD (af.sQ aL 4111 rfl rfl rfl rfl) ?_;rw[ij];intro qq
 (conv=>whnf)
 refine go ?_
 refine Y.jX [(1,.O path),(2,.O id),(3,u (cB:Nat)),(4,u (bY:Nat)),(5,.a7 1 [.box 4110 dK 0] 0 0),(6,.a7 1 [.a7 26 [dE o ii bV bE] 0 0] 0 0),(7,.box 4 cP 0),(8,.a7 12 [aH n] 0 0),(13,u (s.aD.length:Nat)),(14,.box 14 qq 0),(31,.bool (decide ((bY:Int)>1)))]
  (cQ [(4103,.mp bV (bs aH ap)),(4104,.mp bE (bs bg [])),(4110,.box dK [.bool true,.an b4,u 0,u 0,u 0]),(4111,.row b4 (eT s.aD vs (λ_=>0) (λ_=>0)) 5 249),(4,.box cP [.fn (.func 181) [] [.a7 1 [.box 4110 dK 0] 0 0,.a7 1 [.a7 26 [dE o ii bV bE] 0 0] 0 0,.box 4 cP 0]]),(14,.box qq (aH n).cells)] (nu s vs)) (xE [(4103,4103),(4104,4104),(4110,4110),(4111,4111),(4,4),(14,14)] (gG _ _ _)) ?_
 refine PJ (α:=Unit) (λ_=>True) [1,2,3,4,5,6,7,8,13,14] [4103,4104,4110,4111,4] (λ_=>[]) (λ_=>[(14,.box qq (aH (ro ap n path bY)).cells)]) (λ_=>nu s vs) ?_ ?_
 ·refine Y.qZ rfl (gG _ _ _) λiL=>?_;refine cb (t:=decide ((bY:Int)>1)) ?_ ?_<;>intro hc
  ·refine go ?_;have asg:aS B 24 [.O path,.int .u8 47] (u (zi path)):=TR (B:=B) path 47 atv;have xm:=alh path;have alp:J1 path=path.take (if zi path>0 then zi path else 0).toNat:=rfl;have zk:ro ap n path bY=g0 ap (J1 path):=by unfold ro;rw[atH (by have:=auc hc;omega)]
   generalize zi path=V at*;generalize J1 path=J4 at*;refine' eR [(4103,.mp bV (bs aH ap)),(4104,.mp bE (bs bg [])),(4110,.box dK [.bool true,.an b4,u 0,u 0,u 0]),(4111,.row b4 (eT s.aD vs (λ_=>0) (λ_=>0)) 5 249),(4,.box cP [.fn (.func 181) [] [.a7 1 [.box 4110 dK 0] 0 0,.a7 1 [.a7 26 [dE o ii bV bE] 0 0] 0 0,.box 4 cP 0]]),(14,.box qq (aH n).cells)] 0 (λy:Nat=>[_,_,_,_,_,_,_,_,.O J4,aH (g0 ap J4),.any]) (λy=>[(10,14,some (.box qq (aH (g0 ap J4)).cells))]) [0,1,3,7,0,0,32,96,240,511,1023] [(10,14)] ?_ ?_
   rotate_left 8
   ·refine dC ?_;refine⟨λy=>.inl ?_,dC ?_⟩
    ·(conv=>whnf)
     refine⟨λ_=>?_,?_⟩
     ·split<;>omega
     (conv=>whnf)
     rw[alp];exact E
    refine bR (λy=>af.qt 4103 (dA:=9) (d9:=44) (enc:=aH) (l:=ap) (k:=J4) (V:=A2) rfl rfl rfl rfl rfl atD (λw C=>Jv w C) (cz y)) ?_;refine Go.bS.cp.vs ?_;exact trivial
   intro _
   (conv=>whnf)
   refine go ?_;rw[zk];exact⟨(),ai,pk [(4103,4103),(4104,4104),(4110,4110),(4111,4111),(4,4),(14,14)] (gG _ _ _)⟩
  refine go ?_;have zk:ro ap n path bY=n:=by unfold ro;rw[atG (by have:=at0 hc;omega)]
  rw[zk];exact⟨(),ai,pk [(4103,4103),(4104,4104),(4110,4110),(4111,4111),(4,4),(14,14)] (gG _ _ _)⟩
 intro _ _;refine go ?_;refine Y.qZ rfl (gG _ _ _) λiL=>?_;have Pw:=lq.mk<|C5 (B:=B) o ii n bV bE [0] (s.aD.length:Nat) 2 (by rw[show decide ((0:Int)<=((s.aD.length:Nat):Int))=true from auM atv];rfl)
 have Px:=lq.mk<|C5 (B:=B) o ii (ro ap n path bY) bV bE [1] (cB:Nat) 2 (by rw[show decide ((0:Int)<=((cB:Nat):Int))=true from auM atv];rfl)
 generalize qL:ro ap n path bY=ab at*
 refine' eR [(4103,.mp bV (bs aH ap)),(4104,.mp bE (bs bg [])),(4110,.box dK [.bool true,.an b4,u 0,u 0,u 0]),(4111,.row b4 (eT s.aD vs (λ_=>0) (λ_=>0)) 5 249),(4,.box cP [.fn (.func 181) [] [.a7 1 [.box 4110 dK 0] 0 0,.a7 1 [.a7 26 [dE o ii bV bE] 0 0] 0 0,.box 4 cP 0]]),(14,.box qq (aH ab).cells)] (α:=Nat×Option Addr×Nat×Nat) (0,none,0,0)
  (λy=>[_,_,_,_,_,_,_,_,_,_,_,_,_,_,_,.an (.slice (some ⟨y.1,0,none⟩) 2 2),nT id (cB:Nat) (.slice (some ⟨y.1,0,none⟩) 2 2) 0 0,.Q .dU 5 [nT id (cB:Nat) (.slice (some ⟨y.1,0,none⟩) 2 2) 0 0],.an (.slice y.2.1 y.2.2.1 y.2.2.2),_,_,.any])
  (λy=>[(15,7500,some (.row (.slice (some ⟨y.1,0,none⟩) 2 2) [jL rp ⟨[0],n.n4,o.c2,2,(s.aD.length:Nat),.eL⟩,jL rp ⟨[1],ab.n4,o.c2,2,(cB:Nat),.eL⟩] 12 234)),(18,4111,none),(18,60,some (.row (.slice y.2.1 y.2.2.1 y.2.2.2) (eT s.aD vs (λ_=>0) (λ_=>0)++[nT id (cB:Nat) (.slice (some ⟨y.1,0,none⟩) 2 2) 0 0]) 5 249)),(21,4110,some (.box dK [.bool true,.an (.slice y.2.1 y.2.2.1 y.2.2.2),u 0,u 0,u 0]))]) [0,0,2,6,14,0,0,0,0,0,896,0,0,0,16256,32640,65504,131040,262142,524287,1048575,2097151] [(15,7500),(18,4111),(18,60),(21,4110)] ?_ ?_
 rotate_left 17
 ·refine dC ?_;refine⟨λy=>.inl ?_,dC ?_⟩
  ·(conv=>whnf)
   refine⟨_,_,λ_=>Pw.cm,jd,?_⟩;exact E
  refine⟨λy=>.inl ?_,dC ?_⟩
  ·(conv=>whnf)
   refine⟨_,_,λ_=>Px.cm,jd,?_⟩;exact E
  refine bR (λy=>af.ML aL (q:=7500) rfl rfl rfl aty aty rfl (show _/\_/\_ from⟨rfl,by simp[tI,iR,oz,D.cells,D.js,D.one],λb=>d0 (b,y.2)⟩)) ?_;refine bR (λy=>af.pc aL 4111 rfl rfl rfl atC rfl rfl rfl atx (by rw[ij];show(_+1)*64<=_;omega) (by rw[ij];show _+1<=_;omega) (λbQ hn cap=>d0 (y.1,bQ,hn,cap))) ?_;refine Go.bS.cp.vs ?_;exact trivial
 rintro⟨so,bQ,hn,cap⟩
 (conv=>whnf)
 obtain⟨e9,g6⟩:∃e9,mT s id cB ⟨[0],n.n4,o.c2,2,(s.aD.length:Nat),.eL⟩ ⟨[1],ab.n4,o.c2,2,(cB:Nat),.eL⟩=e9:=⟨_,rfl⟩;have alq:jN o ap n path id cB bY s=iU o ap n.J (ld 1 n.J).1 s.aD.length path bY e9:=by rw[ali,qL,g6]
 rw[alq];have Yc:e9.aD=s.aD++[(id,(cB:Int))]:=by rw[<-g6];rfl
 have kE:e9.aD.length=s.aD.length+1:=by rw[Yc];simp
 have alr:(e9.bc s.aD.length).length=2:=by rw[<-g6];simp[mT]
 have ut:=alk (s:=s) (vs:=vs) (id:=id) (cB:=cB) (a:=⟨[0],n.n4,o.c2,2,(s.aD.length:Nat),.eL⟩) (b:=⟨[1],ab.n4,o.c2,2,(cB:Nat),.eL⟩) (v:=.slice (some ⟨so,0,none⟩) 2 2);rw[g6]at ut;have i7:=alj s.aD vs id cB (.slice (some ⟨so,0,none⟩) 2 2);rw[<-Yc]at i7;obtain⟨mj,Yd⟩:∃mj,(λj=>if j=s.aD.length then Value.slice (some ⟨so,0,none⟩) 2 2 else vs j)=mj:=⟨_,rfl⟩;rw[Yd]at ut i7
 refine Y.jX [(1,.O path),(4,u (bY:Nat)),(5,.a7 1 [.box 4110 dK 0] 0 0),(6,.a7 1 [.a7 26 [dE o ii bV bE] 0 0] 0 0),(7,.box 4 cP 0),(8,.a7 12 [aH n] 0 0),(13,u (s.aD.length:Nat))]
  (cQ [(4103,.mp bV (bs aH ap)),(4104,.mp bE (bs bg [])),(4110,.box dK [.bool true,.an (.slice bQ hn cap),u 0,u 0,u 0]),(4111,.row (.slice bQ hn cap) (eT e9.aD mj (λ_=>0) (λ_=>0)) 5 249),(4,.box cP [.fn (.func 181) [] [.a7 1 [.box 4110 dK 0] 0 0,.a7 1 [.a7 26 [dE o ii bV bE] 0 0] 0 0,.box 4 cP 0]])] (nu e9 mj))
  (w2 [(4103,4103),(4104,4104),(4110,4110),(4111,60),(4,4)] (10000+s.aD.length) 7500 atv (gG _ _ _) ut (gL:=⟨rfl,rfl,rfl,rfl,rfl,rfl,rfl,sY i7,rfl,ba⟩)) ?_
 have Ax:=Yb n.J;have nk:=aj7 (B:=B) aV 1 n.J atv λk X=>by have:=PK X;have:=Bc k;omega
 generalize als:(ld 1 n.J).1=qw at*;generalize Value.slice bQ hn cap=nW at*;clear Pw Px ut i7 Yd;refine go ?_;refine br nk ?_;have alt:(n.J.map enc).length=n.J.length:=atL _
 have alu:∀i (h:i<n.J.length),(n.J.map enc)[(i:Int).toNat]?=some (aH n.J[i]):=λi h=>by
  rw[auq,aud,atJ h];simp[rV]
 generalize n.J.map enc=alv at*
 have alw:∀(i:Nat) (x:atE),qw[i]?=some x->(aU qw)[(i:Int).toNat]?=some (.O x):=λi x h=>by
  rw[auq];simp[aU,h]
 have ash:(aU qw).length=qw.length:=by simp[aU]
 generalize aU qw=PL at*;rw[alt]
 refine Al (λx:Nat×Value×(Nat->Value)=>x.1<=n.J.length) [1,4,5,6,7,13,15,70,71] [4103,4104,4] (λx=>[(72,u x.1)])
  (λx=>[(4110,.box dK [.bool true,.an x.2.1,u 0,u 0,u 0]),(4111,.row x.2.1 (eT (iU o ap (n.J.take x.1) qw s.aD.length path bY e9).aD x.2.2 (λ_=>0) (λ_=>0)) 5 249)])
  (λx=>nu (iU o ap (n.J.take x.1) qw s.aD.length path bY e9) x.2.2) (λx=>n.J.length-x.1) (0,nW,mj) (at7 _) ?_
  (h1:=by rw[av2,iU];exact xE [(4103,4103),(4104,4104),(4,4),(4110,4110),(4111,4111)] (gG _ _ _))
 rintro⟨i,zl,xF⟩ hi;dsimp only at hi⊢;have qW:=GH o ap (n.J.take i) qw s.aD.length path bY e9 atv
 have pd:∀(h:i<n.J.length),iU o ap (n.J.take (i+1)) qw s.aD.length path bY e9=Bb o ap n.J[i] ((qw[i]?).getD []) s.aD.length path bY (iU o ap (n.J.take i) qw s.aD.length path bY e9):=λh=>by
  rw[atN h,Ya,at4,awn atv]
 have EQ:kQ (n.J.take i)<=kQ n.J:=by
  have h:=J2 (n.J.take i) (n.J.drop i);rw[ava]at h;omega
 have Cf:∀(h:i<n.J.length),kQ (n.J.take i)+o2 n.J[i]<=kQ n.J:=λh=>by
  have z:=J2 (n.J.take (i+1)) (n.J.drop (i+1));rw[ava,atN h,J2]at z;simp only[kQ]at z;omega
 generalize ju:iU o ap (n.J.take i) qw s.aD.length path bY e9=gz at*;refine go ?_;refine cb (t:=decide ((i:Int)<(n.J.length:Nat))) ?_ ?_<;>intro hc
 ·have c0:i<n.J.length:=by have:=auc hc;omega
  have w3:n.J[i]∈n.J:=atK c0;have l2:=alu i c0;have asi:=Cf c0;have Dj:=pd c0;have JC:=Aq _ w3;have asj:=Bc n.J[i];obtain⟨aW,PM⟩:∃aW,qw[i]?=some aW:=⟨_,atJ atv⟩;have ask:aW.length<5000:=xD aW (at2 PM);have alx:=alw i aW PM;rw[PM]at Dj;replace Dj:iU o ap (n.J.take (i+1)) qw s.aD.length path bY e9=Bb o ap n.J[i] aW s.aD.length path bY gz:=Dj;generalize n.J[i]=k at*;have aly:=Fm (B:=B) 1 k ((bY+1:Nat):Int);refine go ?_;refine bH (aH k) l2 ?_;intro Xn
  (conv=>whnf)
  refine cT ?_;refine jB 18 18 12 (aH k) ?_;refine go ?_;refine br aly ?_;refine cb (t:=!(lA 1 k ((bY+1:Nat):Int))) ?_ ?_<;>intro bw
  ·have qn:Bb o ap k aW s.aD.length path bY gz=gz:=by unfold Bb;rw[atG (by simpa using bw)]
   rw[qn]at Dj;refine go ?_
   refine yt (i+1,zl,xF) c0 (by
    dsimp only;rw[Dj]
    exact xE [(4103,4103),(4104,4104),(4,4),(4110,4110),(4111,4111)] (gG _ _ _))
  refine go ?_;refine PJ (α:=Unit) (λ_=>True) [1,4,5,6,7,13,15,17,18,70,71,72] [4103,4104,4,4110,4111] (λ_=>[(19,.O (nt path k.name bY))]) (λ_=>[]) (λ_=>nu gz xF) ?_ ?_
  ·refine cb (t:=decide ((bY:Int)>1)) ?_ ?_<;>intro dO
   ·have PN:nt path k.name bY=path++[47]++k.name:=by unfold nt;rw[atH (by have:=auc dO;omega)]
    refine go ?_;rw[PN];exact⟨(),ai,xE [(4103,4103),(4104,4104),(4,4),(4110,4110),(4111,4111)] (gG _ _ _)⟩
   have PN:nt path k.name bY=k.name:=by unfold nt;rw[atG (by have:=at0 dO;omega)]
   refine go ?_;rw[PN];exact⟨(),ai,xE [(4103,4103),(4104,4104),(4,4),(4110,4110),(4111,4111)] (gG _ _ _)⟩
  intro _ _
  have eJ:(nt path k.name bY).length<=path.length+k.name.length+1:=by
   unfold nt;split
   ·simp;omega
   omega
  generalize alz:nt path k.name bY=below at*;have alA:=afL (B:=B) aV aW atv;refine go ?_;refine bH (.O aW) alx ?_;refine br alA ?_;obtain⟨ir,qn⟩:∃ir,(if k.kind=0 then jN o ap k below (fm aW) s.aD.length (bY+1) gz else gz)=ir:=⟨_,rfl⟩;obtain⟨eU,J5⟩:∃eU:Int,(if k.kind=0 then(gz.aD.length:Int)else -1)=eU:=⟨_,rfl⟩
  refine PJ (α:=Value×(Nat->Value)) (λ_=>True) [1,4,5,6,7,13,15,17,18,19,20,70,71,72] [4103,4104,4] (λ_=>[(22,u eU)])
   (λx=>[(4110,.box dK [.bool true,.an x.1,u 0,u 0,u 0]),(4111,.row x.1 (eT ir.aD x.2 (λ_=>0) (λ_=>0)) 5 249)]) (λx=>nu ir x.2) ?_ ?_
  ·refine cb (t:=k.kind==0) ?_ ?_<;>intro dO
   ·have j0:k.kind=0:=by simpa using dO
    rw[atH j0]at qn J5;refine go ?_;refine dD (af.sQ aL 4111 rfl rfl rfl rfl) ?_;rw[ij];refine .inr (af.zd rfl [aH k,.O below,.O (fm aW),u (s.aD.length:Nat),u ((bY+1:Nat):Int),.a7 1 [.box 4110 dK 0] 0 0,.a7 1 [.a7 26 [dE o ii bV bE] 0 0] 0 0,.box 4 cP 0] (qv [(4103,.mp bV (bs aH ap)),(4104,.mp bE (bs bg [])),(4,.box cP [.fn (.func 181) [] [.a7 1 [.box 4110 dK 0] 0 0,.a7 1 [.a7 26 [dE o ii bV bE] 0 0] 0 0,.box 4 cP 0]]),(4110,.box dK [.bool true,.an zl,u 0,u 0,u 0]),(4111,.row zl (eT gz.aD xF (λ_=>0) (λ_=>0)) 5 249)]) (PI (gG _ _ _)) (aY k below (fm aW) s.aD.length (bY+1) gz xF zl atv JC atv) ?_ ?_)
    ·exact jd
    rintro d aM ⟨tq,gx,rfl,rfl⟩;refine⟨_,E,?_⟩;rw[qn]
    (conv=>whnf)
    refine go ?_;exact⟨(tq,gx),ai,xE [(4103,4103),(4104,4104),(4,4),(4110,4110),(4111,4111)] (gG _ _ _) (sI:=λq o I ag=>J0 I ag)⟩
   have j0:¬k.kind=0:=by simpa using dO
   rw[atG j0]at qn J5;subst qn;refine go ?_;exact⟨(zl,xF),ai,xE [(4103,4103),(4104,4104),(4,4),(4110,4110),(4111,4111)] (gG _ _ _)⟩
  rintro⟨zm,st⟩ _
  have PO:s.aD.length<ir.aD.length:=by
   rw[<-qn];split
   ·have:=(J3 o ap k below (fm aW) s.aD.length (bY+1) gz).1;omega
   omega
  have asl:ir.aD.length<=1000000/\(ir.bc s.aD.length).length<=1000000:=by
   have bz:=qW.2.2.2;rw[alr,at4]at bz;have PP:i<=n.J.length:=hi;rw[<-qn];split
   ·have alB:=J3 o ap k below (fm aW) s.aD.length (bY+1) gz;rw[alB.2.2 s.aD.length atv];omega
   omega
  have Ye:iU o ap (n.J.take (i+1)) qw s.aD.length path bY e9=hY ir s.aD.length ⟨fm aW,k.n4,o.c2,if k.kind=0 then 2 else 0,eU,.eL⟩:=by
   rw[Dj];unfold Bb
   rw[atH (by simpa using bw),alz,<-qn,<-J5];split<;>rfl
  obtain⟨gf,du⟩:∃gf:Int,(if k.kind=0 then(2:Int)else 0)=gf:=⟨_,rfl⟩;rw[du]at Ye;have Pz:=lq.mk<|C5 (B:=B) o ii k bV bE (fm aW) eU gf (by rw[<-du,<-J5];split<;>simp<;>omega)
  refine Y.Cl (f0:=.row (st s.aD.length) ((ir.bc s.aD.length).map (jL rp)) 12 234) 7500 (10000+s.aD.length) rfl (gG _ _ _) (PB PO) rfl aty λGy=>?_;refine go ?_
  refine' eR [(7500,.row (st s.aD.length) ((ir.bc s.aD.length).map (jL rp)) 12 234),(4103,.mp bV (bs aH ap)),(4104,.mp bE (bs bg [])),(4,.box cP [.fn (.func 181) [] [.a7 1 [.box 4110 dK 0] 0 0,.a7 1 [.a7 26 [dE o ii bV bE] 0 0] 0 0,.box 4 cP 0]]),(4110,.box dK [.bool true,.an zm,u 0,u 0,u 0]),(4111,.row zm (eT ir.aD st (λ_=>0) (λ_=>0)) 5 249)] 0
   (λy=>[_,_,_,_,_,_,_,_,oz (fm aW) k.n4 o.c2 gf eU .bh,.box 23 y 0,.any]) (λy=>[(9,23,some (.box y [.O [],u 0,u 0,u 0,u 0,u 0,u 0,.O [],u 0,.an .nilFunc,.bh,.bh])),(10,23,some (.box y (oz (fm aW) k.n4 o.c2 gf eU .bh).cells))]) [0,0,0,0,0,30,0,0,255,0,1023] [(9,23),(10,23)] ?_ ?_
  rotate_left 8
  ·refine dC ?_;refine⟨λy=>.inl ?_,dC ?_⟩
   ·(conv=>whnf)
    refine⟨_,_,λ_=>Pz.cm,jd,?_⟩;exact E
   refine bR (λy=>af.ET rfl [.a7 26 [dE o ii bV bE] 0 0,oz (fm aW) k.n4 o.c2 gf eU .bh,aH k,.O below] [(4104,4104)] (by exact r3) (XR o ii k bV bE (fm aW) below k.n4 o.c2 gf eU) rfl (by exact jd) (cz y)) ?_;refine wS ?_;exact trivial
  intro PQ
  (conv=>whnf)
  refine go ?_;have lI:=De (vs:=st) (a1:=λ_=>0) (lL:=λ_=>0) PO
  refine' eR [(7500,.row (st s.aD.length) ((ir.bc s.aD.length).map (jL rp)) 12 234),(4103,.mp bV (bs aH ap)),(4104,.mp bE (bs bg [])),(4,.box cP [.fn (.func 181) [] [.a7 1 [.box 4110 dK 0] 0 0,.a7 1 [.a7 26 [dE o ii bV bE] 0 0] 0 0,.box 4 cP 0]]),(4110,.box dK [.bool true,.an zm,u 0,u 0,u 0]),(4111,.row zm (eT ir.aD st (λ_=>0) (λ_=>0)) 5 249),(23,.box PQ (oz (fm aW) k.n4 o.c2 gf eU .bh).cells)] (α:=Option Addr×Nat×Nat) (none,0,0)
   (λy=>[_,_,_,_,_,_,_,_,_,_,_,_,_,_,.Q .dU 12 [oz (fm aW) k.n4 o.c2 gf eU .bh],.an (.slice y.1 y.2.1 y.2.2),_,_,.any])
   (λy=>[(15,7500,none),(15,139,some (.row (.slice y.1 y.2.1 y.2.2) (((ir.bc s.aD.length).map (jL rp))++[oz (fm aW) k.n4 o.c2 gf eU .bh]) 12 234)),
    (18,4111,some (.row zm ((eT ir.aD st (λ_=>0) (λ_=>0)).set s.aD.length (nT ir.aD[s.aD.length].1 ir.aD[s.aD.length].2 (.slice y.1 y.2.1 y.2.2) 0 0)) 5 249))]) [0,1,3,7,0,0,32,96,224,0,992,2016,4064,0,8192,32736,65535,131071,262143] [(15,7500),(15,139),(18,4111)] ?_ ?_
  rotate_left 16
  ·refine dC ?_;refine bR (λy=>af.ev aL 4111 rfl rfl rfl rfl rfl rfl rfl atv (by rw[ij];omega) (cz y)) ?_;refine bR (λy=>af.jA aL 4111 (i:=s.aD.length) rfl rfl (by rw[ij];omega) rfl rfl rfl aty (cz y)) ?_;refine bR (λy=>af.od aL 4111 (i:=s.aD.length) (j:=2) rfl rfl rfl lI (cz y)) ?_;refine bR (λy=>af.pc aL 7500 rfl rfl rfl atC rfl rfl rfl atx (by rw[atL];show(_+1)*144<=_;omega) (by rw[atL];show _+1<=_;omega) (λbQ hn cap=>d0 (bQ,hn,cap))) ?_;refine bR (λy=>af.ev aL 4111 rfl rfl rfl rfl rfl rfl rfl atv (by rw[ij];omega) (cz y)) ?_;refine bR (λy=>af.jA aL 4111 (i:=s.aD.length) rfl rfl (by rw[ij];omega) rfl rfl rfl aty (cz y)) ?_;refine bR (λy=>af.vo aL 4111 (i:=s.aD.length) (j:=2) rfl rfl rfl rfl lI aty rfl (cz y)) ?_;exact trivial
  rintro⟨bQ,hn,cap⟩
  (conv=>whnf)
  have mr:=alm (vs:=st) (v:=.slice bQ hn cap) PO;have alC:=aln (s:=ir) (vs:=st) (i:=s.aD.length) (x:=⟨fm aW,k.n4,o.c2,gf,eU,.eL⟩) (v:=.slice bQ hn cap)
  refine Y.jX [(1,.O path),(4,u (bY:Nat)),(5,.a7 1 [.box 4110 dK 0] 0 0),(6,.a7 1 [.a7 26 [dE o ii bV bE] 0 0] 0 0),(7,.box 4 cP 0),(13,u (s.aD.length:Nat)),(15,.Q .none 1 PL),(70,.Q .none 12 alv),(71,u (n.J.length:Nat)),(72,u (i:Nat))]
   (cQ [(4103,.mp bV (bs aH ap)),(4104,.mp bE (bs bg [])),(4,.box cP [.fn (.func 181) [] [.a7 1 [.box 4110 dK 0] 0 0,.a7 1 [.a7 26 [dE o ii bV bE] 0 0] 0 0,.box 4 cP 0]]),(4110,.box dK [.bool true,.an zm,u 0,u 0,u 0]),(4111,.row zm (eT (hY ir s.aD.length ⟨fm aW,k.n4,o.c2,gf,eU,.eL⟩).aD (λj=>if j=s.aD.length then .slice bQ hn cap else st j) (λ_=>0) (λ_=>0)) 5 249)] (nu (hY ir s.aD.length ⟨fm aW,k.n4,o.c2,gf,eU,.eL⟩) (λj=>if j=s.aD.length then .slice bQ hn cap else st j)))
   (w2 (f0:=.row (.slice bQ hn cap) ((ir.bc s.aD.length).map (jL rp)++[jL rp ⟨fm aW,k.n4,o.c2,gf,eU,.eL⟩]) 12 234) [(4103,4103),(4104,4104),(4,4),(4110,4110),(4111,4111)] (10000+s.aD.length) 139 atv (Db (gG _ _ _) _) alC (gL:=⟨rfl,rfl,rfl,rfl,rfl,rfl,rfl,rfl,rfl,sY mr,ai⟩)) ?_
  rw[<-Ye];refine go ?_;exact yt (i+1,zm,λj=>if j=s.aD.length then .slice bQ hn cap else st j) c0 (xE [(4103,4103),(4104,4104),(4,4),(4110,4110),(4111,4111)] (gG _ _ _))
 have cg:i=n.J.length:=by have:=at0 hc;omega
 subst cg;rw[atW]at ju;rw[ju];refine Y.exit ?_
 (conv=>whnf)
 exact⟨.bl [],ai,zl,xF,rfl,rfl⟩
def kR(o:f1)(ap:List (atE×ad))(n:ad):lh:=jN o ap n [] [0] 0 1 ⟨[],λ_=>[]⟩
theorem alD(aV:dc B)(o:f1)(n:ad)(bV bE:Nat)(ap:List (atE×ad))(lb:zj n)(cG:o2 n<1000000): cV B 111 [.a7 26 [dE o n bV bE] 0 0] (aK [(4103,.mp bV (bs aH ap)),(4104,.mp bE (bs bg []))]) λd aM=>∃ea cP b4 vs,d=.box 4110 ea 0/\aM=cQ [(4103,.mp bV (bs aH ap)),(4104,.mp bE (bs bg [])),(4,.box cP [.fn (.func 181) [] [.a7 1 [.box 4110 ea 0] 0 0,.a7 1 [.a7 26 [dE o n bV bE] 0 0] 0 0,.box 4 cP 0]]),(4110,.box ea [.bool true,.an b4,u 0,u 0,u 0]),(4111,.row b4 (eT (kR o ap n).aD vs (λ_=>0) (λ_=>0)) 5 249)] (nu (kR o ap n) vs):=by refine yn Tryz.func111 Tryz.ntmps111 λU=>?_;refine go ?_;intro dz;(conv=>whnf);refine cT ?_;refine jB 1 1 1 (.a7 26 [dE o n bV bE] 0 0) ?_;refine go ?_;intro ea;(conv=>whnf);refine cT ?_;intro eD;(conv=>whnf);refine cT ?_;refine Y.jx 6 (dt:=[.bool true,.an (.slice none 0 0),u 0,u 0,u 0]) rfl ⟨E,aq.rQ,E,E,E,ai⟩ ?_;refine Y.jx 3 (dt:=[.box 4110 ea 0]) rfl ⟨aq.box,ai⟩ ?_;refine Y.qR 4111 5 249 ?_;refine jB 3 3 1 (.box 4110 ea 0) ?_;refine Y.fd [(1,.a7 1 [.a7 26 [dE o n bV bE] 0 0] 0 0),(3,.a7 1 [.box 4110 ea 0] 0 0)] [(4103,.mp bV (bs aH ap)),(4104,.mp bE (bs bg [])),(4110,.box ea [.bool true,.an (.slice none 0 0),u 0,u 0,u 0]),(4111,.row (.slice none 0 0) [] 5 249)] [(4103,4103),(4104,4104),(4110,6),(4111,4111)] ⟨cH,rfl,cH⟩ ?_;refine go ?_;intro cP;(conv=>whnf);refine go ?_;refine Y.zX aL 5 mixed atz ?_;(conv=>whnf);refine go ?_;have alE:=alo (B:=B) aV o n bV bE ea cP ap (o2 n) n [] [0] 0 1 ⟨[],λ_=>[]⟩ (λ_=>.nilFunc) (.slice none 0 0) (atP _) lb (by have:=Bc n;simp;omega);refine .inr (af.zd rfl [aH n,.O [],.O [0],u ((0:Nat):Int),u ((1:Nat):Int),.a7 1 [.box 4110 ea 0] 0 0,.a7 1 [.a7 26 [dE o n bV bE] 0 0] 0 0,.box 4 cP 0] (qv [(4103,.mp bV (bs aH ap)),(4104,.mp bE (bs bg [])),(4,.box cP [.fn (.func 181) [] [.a7 1 [.box 4110 ea 0] 0 0,.a7 1 [.a7 26 [dE o n bV bE] 0 0] 0 0,.box 4 cP 0]]),(4110,.box ea [.bool true,.an (.slice none 0 0),u 0,u 0,u 0]),(4111,.row (.slice none 0 0) [] 5 249)]) (PI (gG _ _ _) (λk o X h=>by unfold iT at h;rw[atG atx]at h;cases h)) alE ?_ ?_);exact jd;rintro d aM ⟨tq,gx,rfl,rfl⟩;refine⟨_,E,?_⟩;(conv=>whnf);refine Y.jX [(3,.a7 1 [.box 4110 ea 0] 0 0)] (cQ [(4103,.mp bV (bs aH ap)),(4104,.mp bE (bs bg [])),(4,.box cP [.fn (.func 181) [] [.a7 1 [.box 4110 ea 0] 0 0,.a7 1 [.a7 26 [dE o n bV bE] 0 0] 0 0,.box 4 cP 0]]),(4110,.box ea [.bool true,.an tq,u 0,u 0,u 0]),(4111,.row tq (eT (kR o ap n).aD gx (λ_=>0) (λ_=>0)) 5 249)] (nu (kR o ap n) gx)) (xE [(4103,4103),(4104,4104),(4,4),(4110,4110),(4111,4111)] (gG _ _ _) (sI:=λq o I ag=>J0 I ag)) ?_;refine go ?_;exact⟨.box 4110 ea 0,E,ea,cP,tq,gx,rfl,rfl⟩
variable{c:Code}{aj:Value}{xs:List D}{k e:Nat}
theorem alF{U:b7 Tryz.prog B am}(s i j:Nat){x:D}(F:xs[i]?=some x)(Z:j<k)(ao:x.cells[j]?=some (.an aj))(h:aj.oneCell'=true->Y U c A K)(hs:A.H s=some (.row v xs k e):=by exact rfl):Y U c A K :=
 ⟨λa w C M=>by
  have hi:=e8 F;obtain⟨b,cap,vs,_,_,_,X,_,_,_,ae⟩:=kx.pos (M.heap.b' s _ hs) hi;obtain⟨ae3,_,h1,z⟩:=ae (i*k+j) (.an aj) (by rw[wF X F Z];exact ao);rw[h1.fL]at z
  exact(h z).run a w C M⟩
def mU(aD:List (atE×Int))(a1:Nat->Int):List f2:=aD.mapIdx λj d=>⟨d.1,a1 j,d.2+1⟩
theorem Dk{a1:Nat->Int}:(mU aD a1).length=aD.length:=by simp[mU]
theorem alG{a1:Nat->Int}(h:i<aD.length):(mU aD a1).take (i+1)=(mU aD a1).take i++[⟨aD[i].1,a1 i,aD[i].2+1⟩]:=by rw[atN (by rw[Dk];exact h)];simp[mU]
theorem alH(aD:List (atE×Int))(vs:Nat->Value)(a1 lL:Nat->Int)(wide:Bool)(b4:Value)(bP ib C6:Int)(dK:Nat)(T:List f2)(ff:List Int)(Ia:Int)(av:aD.length<=1000000)(au:∀d∈aD,0<=d.2/\d.2<=1000000000)(PR:aS B 239 [.Q .none 3 (dZ (mU aD a1)),.bool wide] (.bl [.Q .none 3 (dZ T),.Q .none 1 (bn ff),u Ia])): cV B 170 [.box 4110 dK 0] (aK [(4110,.box dK [.bool wide,.an b4,u bP,u ib,u C6]),(4111,.row b4 (eT aD vs a1 lL) 5 249)]) λd aM=>d=.Q .none 3 (dZ T)/\aM=aK [(4110,.box dK [.bool wide,.an b4,u bP,u ib,u C6]),(4111,.row b4 (eT aD vs a1 lL) 5 249)]:=by refine j_ Tryz.func170 Tryz.ntmps170 λU=>?_;refine go ?_;refine dD (af.sQ aL 4111 rfl rfl rfl rfl) ?_;rw[ij];refine Y.own 3 1000 3 320 rfl (λw0=>?_);refine gn (λx:Nat×Value=>x.1<=aD.length) [0,12,13] [4110,4111] (λx=>[(3,.Q (.own 1000 x.2) 3 (dZ ((mU aD a1).take x.1))),(14,u x.1)]) (λx=>[(1000,.own x.2 (dZ ((mU aD a1).take x.1)).length 3 320)]) (λx=>aD.length-x.1) (0,w0) (at7 _) [(4110,4110),(4111,4111),(1000,1000)] ?_;rintro⟨i,w⟩ hi;dsimp only at hi⊢;refine go ?_;refine cb (t:=decide ((i:Int)<(aD.length:Nat))) ?_ ?_<;>intro hc;(have c0:i<aD.length:=by simpa using hc);have lI:=De (vs:=vs) (a1:=a1) (lL:=lL) c0;have cW:=alG (a1:=a1) c0;have alI:=au _ (atK c0);generalize aD[i]=d at*;refine alF 4111 i 2 lI (show 2<5 by decide) rfl λA6=>?_;refine go ?_;refine dD (af.ev aL 4111 rfl rfl rfl rfl rfl rfl rfl atv (by rw[ij];omega)) ?_;refine dD (af.od aL 4111 (i:=i) (j:=0) rfl rfl rfl lI) ?_;intro cx;(conv=>whnf);refine cT ?_;rw[show[D.O d.1,u d.2,.an (vs i),u (a1 i),u (lL i)].all D.one=true by simp only[awk,List.all_nil,D.one,A6,aw2]];(conv=>whnf);refine cT ?_;refine jB 5 5 5 (nT d.1 d.2 (vs i) (a1 i) (lL i)) ?_ (ef:=by show[D.O d.1,u d.2,.an (vs i),u (a1 i),u (lL i)].all D.one=true;simp only[awk,List.all_nil,D.one,A6,aw2]);refine go ?_;refine MN (by show(_+1)*32<=_;simp only[dZ,atL,at4,Dk];omega) (by show _+1<=_;simp only[dZ,atL,at4,Dk];omega) λgQ=>?_;(have qb:dZ ((mU aD a1).take i)++[.agg [.O d.1,u (a1 i),u (d.2+1)]]=dZ ((mU aD a1).take (i+1)):=by rw[cW];simp[dZ,kN]);exact eX (i+1,gQ) [(4110,4110),(4111,4111),(1000,28)] c0 (z:=⟨⟨E,E,E,aq.kd qb,E,ai⟩,rfl,rfl,rfl,rfl,rfl,rfl,kG (by rw[<-qb];simp),ai⟩);(have qb:i=aD.length:=by simp at hc;omega);subst qb;rw[show(mU aD a1).take aD.length=mU aD a1 by rw[<-Dk (aD:=aD) (a1:=a1),atW]];refine Y.exit ?_;(conv=>whnf);refine go ?_;refine br PR ?_;exact⟨.Q .none 3 (dZ T),E,rfl,ba⟩
section
variable{b9:Type}
theorem J6(L:List b9)(i j:Nat):(oi L i j).Perm L:=by unfold oi;split;rename_i x y F hy;obtain⟨hi,rfl⟩:=aui.1 F;obtain⟨Z,rfl⟩:=aui.1 hy;exact List.set_set_perm hi Z;exact E
theorem J7(L:List b9)(a b:Nat):∀n,(mI L a b n).Perm L
 |0=>.refl _
 |n+1=>(J6 _ _ _).trans (J7 L a b n)
theorem PS(m:Nat)(L:List b9)(i j:Nat):(pl m L i j).Perm L:=by
 rw[pl];split
 ·exact J7 ..
 split
 ·exact(PS m _ _ _).trans (J7 ..)
 split
 ·exact(PS m _ _ _).trans (J7 ..)
 exact E
termination_by i+j
variable(b_:b9->b9->Int)
theorem Yf(a:Nat):∀(j:Nat) (L:List b9),(vA b_ a j L).Perm L
 |0,_=>.refl _
 |j+1,L=>by rw[vA];split;exact(Yf a j _).trans (J6 ..);exact E
theorem PT(a:Nat)(L:List b9):∀n,(q0 b_ a L n).Perm L
 |0=>.refl _
 |n+1=>(Yf b_ a _ _).trans (PT a L n)
theorem Yg(L:List b9)(a:Nat):∀n,(qc L a n).Perm L
 |0=>.refl _
 |n+1=>(J6 _ _ _).trans (Yg L a n)
theorem Yh(L:List b9)(m:Nat):∀n,(qd L m n).Perm L
 |0=>.refl _
 |n+1=>(J6 _ _ _).trans (Yh L m n)
theorem J8:∀(f:Nat) (L:List b9) (a m b:Nat),(pn b_ f L a m b).Perm L
 |0,_,_,_,_=>.refl _
 |f+1,L,a,m,b=>by rw[pn];split;exact Yg ..;split;exact Yh ..;simp only;(have h1:(if qe b_ L a m b<m/\qe b_ L a m b<(a+b)/2 then pl m L (m-qe b_ L a m b) ((a+b)/2-qe b_ L a m b)else L).Perm L:=by split;exact PS ..;exact E);generalize(if qe b_ L a m b<m/\qe b_ L a m b<(a+b)/2 then pl m L (m-qe b_ L a m b) ((a+b)/2-qe b_ L a m b)else L)=vC at*;(have z:(if a<qe b_ L a m b/\qe b_ L a m b<(a+b)/2 then pn b_ f vC a (qe b_ L a m b) ((a+b)/2)else vC).Perm L:=by split;exact(J8 f _ _ _ _).trans h1;exact h1);split;exact(J8 f _ _ _ _).trans z;exact z
theorem Yi(n a:Nat)(L:List b9):(q1 b_ n a L).Perm L:=by
 rw[q1];split
 ·exact(Yi n _ _).trans (PT ..)
 exact PT ..
termination_by n-a
theorem Yj(n aP a:Nat)(L:List b9):(s2 b_ n aP a L).Perm L:=by
 rw[s2];split
 ·exact(Yj n aP _ _).trans (J8 ..)
 split
 ·exact J8 ..
 exact E
termination_by n-a
theorem Yk(n aP:Nat)(L:List b9):(ue b_ n aP L).Perm L:=by
 rw[ue];split
 ·exact(Yk n _ _).trans (Yj ..)
 exact E
termination_by n-aP
theorem PU(L:List b9):(gi b_ L).Perm L:=(Yk b_ _ _ _).trans (Yi b_ _ _ _)
end
theorem alJ(e:f2):aS B 283 [kN e] (.bool (bif bif bif e.id !=[]then decide ((e.id.length:Int)<=255)else false then e.id !=[0]else false then e.id !=[1]else false)):=by refine fn Tryz.func283 Tryz.ntmps283 λU=>?_;refine go ?_;intro dz;(conv=>whnf);refine cT ?_;refine jB 1 1 3 (kN e) ?_;refine go ?_;exact E
theorem Yl(aV:dc B)(l:List f2)(wide:Bool)(i j:Nat)(hi:i<l.length)(Z:j<l.length)(al:∀x∈l,x.id.length<100000000/\(wide=false->iw x.id)):aS B 284 [u i,u j,.a7 1 [.Q .none 3 (dZ l)] 0 0,.a7 1 [.bool wide] 0 0] (u (xo l[i].id l[j].id wide)):=by have PA:=W9 (B:=B) aV l[i].id l[j].id wide (al _ (atK hi)).1 (al _ (atK Z)).1 (λh=>⟨(al _ (atK hi)).2 h,(al _ (atK Z)).2 h⟩);(have alK:(dZ l)[i]?=some (kN l[i]):=by simp[dZ,hi]);(have alL:(dZ l)[j]?=some (kN l[j]):=by simp[dZ,Z]);refine fn Tryz.func284 Tryz.ntmps284 λU=>?_;refine go ?_;refine yo ?_;refine And.intro (λ_=>by simp only[dZ,atL];omega) ?_;(conv=>whnf);refine cT ?_;refine bH (kN l[i]) alK ?_;refine And.intro (λ_=>by simp only[dZ,atL];omega) ?_;(conv=>whnf);refine cT ?_;refine bH (kN l[j]) alL ?_;refine br PA ?_;exact E
section
variable(L:List f2)(wide:Bool)
def jO(p:Int):Nat->List (Fin L.length)
 |0=>[]
 |m+1=>jO p m++if h:m+1<L.length then(if L[m+1].dm=p then[⟨m+1,h⟩]else[])else[]
theorem Ym{p:Int}{m:Nat}{x:Fin L.length}(h:x∈jO L p m):1<=x.1/\x.1<=m/\L[x].dm=p:=by induction m with|zero=>cases h|succ m aY =>rw[jO]at h;rcases at1.1 h with h|h;obtain⟨a,b,c⟩:=aY h;exact⟨a,by omega,c⟩;split at h;split at h;rw[auv]at h;subst h;exact⟨by simp,atP _,by assumption⟩;cases h;cases h
theorem PV{p:Int}{m:Nat}:(jO L p m).Nodup:=by induction m with|zero=>exact awP|succ m aY =>rw[jO];refine au9.2 ⟨aY,?_,λx F y hy e=>?_⟩;split;split;simp;exact awP;exact awP;subst e;have:=(Ym L F).2.1;split at hy;split at hy;rw[auv]at hy;subst hy;simp at this;omega;cases hy;cases hy
def J9(x y:Fin L.length):Int:=xo L[x].id L[y].id wide
def Bd(p:Int):List (Fin L.length):=gi (J9 L wide) (jO L p (L.length-1))
theorem Yn{p:Int}{x:Fin L.length}(h:x∈Bd L wide p):1<=x.1/\L[x].dm=p:=by have:=Ym L ((PU _ _).mem_iff.1 h);exact⟨this.1,this.2.2⟩
theorem Yo{p:Int}:(Bd L wide p).Nodup:=(PU _ _).nodup_iff.2 (PV L)
def su(l:List (Fin L.length)):Nat->Bool
 |0=>false
 |1=>false
 |k+2=>su l (k+1)||(match l[k]?,l[k+1]? with|some x,some y=>J9 L wide x y==0|_,_=>false)
def eB(h0:0<L.length):Nat->List (Fin L.length)×Bool
 |0=>([⟨0,h0⟩],false)
 |a+1=>match(eB h0 a).1[a]? with
  |some x=>((eB h0 a).1++Bd L wide (x.1+1:Nat),(eB h0 a).2||su L wide (Bd L wide (x.1+1:Nat)) (Bd L wide (x.1+1:Nat)).length)
  |none=>eB h0 a
theorem PW(h0:0<L.length):∀a,(eB L wide h0 a).1.Nodup/\(∀y∈(eB L wide h0 a).1,y.1=0\/(1<=y.1/\∃j,j<a/\∃x,(eB L wide h0 a).1[j]?=some x/\L[y].dm=((x.1+1:Nat):Int)))
 |0=>⟨by simp[eB],λy hy=>by rw[eB,auv]at hy;subst hy;exact .inl rfl⟩
 |a+1=>by obtain⟨h1,z⟩:=PW h0 a;rw[eB];split;rename_i x F;have pp:=(aui.1 F).1;refine⟨au9.2 ⟨h1,Yo L wide,λy hy V bz e=>?_⟩,λy hy=>?_⟩;subst e;obtain⟨ce,dn⟩:=Yn L wide bz;rcases z y hy with aa|⟨_,j,Z,bU,Bz,au⟩;omega;rw[dn]at au;have:x=bU:=Fin.ext atv;subst this;obtain⟨lc,kL⟩:=aui.1 F;obtain⟨oX,Dl⟩:=aui.1 Bz;have:=(List.getElem_inj h1).1 (kL.trans Dl.symm);omega;rcases at1.1 hy with hy|hy;rcases z y hy with aa|⟨ce,j,Z,bU,Bz,au⟩;exact .inl aa;exact .inr ⟨ce,j,by omega,bU,by rw[atZ atv];exact Bz,au⟩;obtain⟨ce,dn⟩:=Yn L wide hy;exact .inr ⟨ce,a,by omega,x,by rw[atZ pp];exact F,dn⟩;refine⟨h1,λy hy=>?_⟩;rcases z y hy with aa|⟨ce,j,Z,r⟩;exact .inl aa;exact .inr ⟨ce,j,by omega,r⟩
theorem Yp{α:Type}[DecidableEq α]:∀(l m:List α),l.Nodup->(∀x∈l,x∈m)->l.length<=m.length
 |[],_,_,_=>at7 _
 |x::l,m,h,hs=>by obtain⟨h1,z⟩:=avB.1 h;have aa:=Yp l (m.erase x) z λy hy=>(List.mem_erase_of_ne (λe:y=x=>h1 (e ▸ hy))).2 (hs y (atU _ hy));have aC:=List.length_erase_of_mem (hs x atS);have a_:0<m.length:=awr (hs x atS);rw[atQ];omega
theorem J_{n:Nat}{l:List (Fin n)}(h:l.Nodup):l.length<=n:=by have:=Yp l (List.finRange n) h λx _=>List.mem_finRange x;rwa [List.length_finRange]at this
theorem Yq(h0:0<L.length)(a:Nat):(eB L wide h0 a).1.length<=L.length:=J_ (PW L wide h0 a).1
theorem Yr(h0:0<L.length){a:Nat}(h:(eB L wide h0 a).1.length<=a):∀k,eB L wide h0 (a+k)=eB L wide h0 a
 |0=>rfl
 |k+1=>by have:=Yr h0 h k;rw[<-avF,eB,this,atT atv]
def J'(e:f2):Bool:=bif bif bif e.id !=[]then decide ((e.id.length:Int)<=255)else false then e.id !=[0]else false then e.id !=[1]else false
def xG(n:Nat)(e:f2):Bool:=bif bif !J' e then true else decide (e.dm<1)then true else decide (e.dm>(n:Int))
def gH(l:List (Fin L.length)):Nat->List Int×List f2
 |0=>(List.replicate L.length 0,[])
 |k+1=>match l[k]? with
  |some x=>((gH l k).1.set x.1 (k+1:Nat),(gH l k).2++[⟨L[x].id,L[x].rh,(((gH l k).1.set x.1 (k+1:Nat))[(L[x].dm-1).toNat]?).getD 0⟩])
  |none=>gH l k
def nX:List f2×List Int×Int :=
 if 1024<L.length then([],[],7)
 else if h0:0<L.length then
  if(bif L[0].id==[0]then L[0].dm==1 else false)=false then([],[],1)
  else if(L.drop 1).any (xG L.length)=true then([],[],1)
  else if(eB L wide h0 L.length).1.length<L.length then([],[],13)
  else if 0<=fe (λx=>!C_ x.rh) L then([],[],2)
  else if(eB L wide h0 L.length).2=true then([],[],5)
  else((gH L (eB L wide h0 L.length).1 L.length).2,(gH L (eB L wide h0 L.length).1 L.length).1,0)
 else([],[],1)
end
variable{b:Nat}
theorem PX(h:(aI.row (.slice none 0 0) [] k e).ec b):False:=by obtain⟨n,cap,h,z⟩:=h;exact ayl
theorem alM{U:b7 Tryz.prog B am}(n k e:Nat)(h:Y U c {t:=A.t,H:=λj=>if 10000<=j/\j<10000+n then some (.row (.slice none 0 0) [] k e)else A.H j} K):Y U c A K :=
 ⟨λa w C M=>h.run a w C ⟨M.tmps,⟨λs o ag=>by
   dsimp only at ag;split at ag
   ·cases ag;exact⟨none,0,rfl,atP _,at7 _,λx F=>(by cases F),λdF gg=>(by cases gg),λh=>absurd h atx⟩
   ·exact M.heap.b' s o ag,λs bp o bI b aX h1 z ao cS=>by
   dsimp only at h1 z;split at h1
   ·cases h1;exact PX ao
   ·split at z
    ·cases z;exact PX cS
    exact M.heap.inj s bp o bI b aX h1 z ao cS,λs o b h1 ao=>by
   dsimp only at h1;split at h1
   ·cases h1;exact(PX ao).elim
   exact M.heap.cJ s o b h1 ao⟩,M.size,M.defers,M.step⟩⟩
variable{dst:Option Tmp}{dA d9:TypeId}{x:Operand}{c3:TypeDesc}{cA:List (D×D)}
theorem Ys{K:aw->Prop}{t:TypeId}{m:Operand}(s:Nat){k:D}(hm:Tryz.prog.underlying t=some (.map dA d9))(N:Tryz.prog.underlying dA=some c3)(F:A.a8 m=.an (.map (some b)))(hs:A.H s=some (.mp b cA))(I:A.a8 x=k)(X:mG c3 k=true)(b5:∀x∈cA,mG c3 x.1=true)(aT:jC cA k=some (.an v)\/(jC cA k=none/\v=.slice none 0 0))(bz:∀w,(zeroValue d9).run Tryz.prog w=.ok (.slice none 0 0) w)(hK:K (A.put dst (.an v))):af Tryz.prog B am A dst (.lookup t m x false) K:=by rcases aT with aT|⟨aT,rfl⟩;exact af.Ie s hm N F hs I X b5 aT hK;exact af.If s hm N F hs I X b5 aT bz (λw C=>.an _) hK
def hC{n:Nat}(l:List (Fin n)):List D:=l.map λi=>u (i.1:Nat)
def o3(L:List f2)(vs:Nat->Value)(f:Nat->List (Fin L.length)):bF:=λk=>if 10000<=k/\k<10000+(L.length+1)then some (.row (vs (k-10000)) (hC (f (k-10000))) 1 3)else none
theorem Be(L:List f2)(vs:Nat->Value)(f:Nat->List (Fin L.length)):qa (o3 L vs f):=λk o h=>by
 unfold o3 at h;split at h
 ·omega
 cases h
theorem Yt{L:List f2}{vs:Nat->Value}{f:Nat->List (Fin L.length)}(h:i<=L.length):o3 L vs f (10000+i)=some (.row (vs i) (hC (f i)) 1 3):=by unfold o3;rw[atH atv,auW]
variable{gx:Nat->Value}{row:List D}
theorem alN{L:List f2}{vs:Nat->Value}{f oq:Nat->List (Fin L.length)}(W:gx i=v)(fM:∀j,j≠i->gx j=vs j)(ae:hC (oq i)=row)(xm:∀j,j≠i->oq j=f j):
  ∀k o,o3 L gx oq k=some o->10000<=k/\((k=10000+i/\o=.row v row 1 3)\/(k≠10000+i/\ma (o3 L vs f) (10000+i) k=some o)):=λk o h=>by
 unfold o3 at h;split at h
 ·rename_i X;refine⟨X.1,?_⟩;by_cases f':k=10000+i
  ·subst f';rw[auW,W,ae]at h;exact .inl ⟨rfl,(auA h).symm⟩
  refine .inr ⟨f',?_⟩;unfold ma o3;rw[avw f',atH X,<-xm (k-10000) atv,<-fM (k-10000) atv];exact h
 cases h
def pJ(l:List (Int×Value)):List (D×D):=l.map λx=>(u x.1,.an x.2)
def rq(l:List (Int×Value))(p:Int):Option Value:=(l.find? λx=>x.1==p).map (·.2)
def Bf(l:List (Int×Value))(k:Int)(v:Value):List (Int×Value):=match rq l k with
 |some _=>l.map λx=>if x.1==k then(x.1,v)else x
 |none=>l++[(k,v)]
theorem Yu(l:List (Int×Value))(k:Int):jC (pJ l) (u k)=(rq l k).map D.an:=by unfold jC rq pJ;induction l with|nil=>rfl|cons x r aY =>rw[aum,avI,avI];show(match x.1==k with|true=>_|false=>_:Option (D×D)).map _=_;(cases x.1==k with|true=>rfl|false=>exact aY)
theorem alO(l:List (Int×Value))(k:Int)(v:Value):mH (pJ l) (u k) (.an v)=pJ (Bf l k v):=by unfold mH Bf;rw[Yu];cases h:rq l k with|none=>simp[pJ]|some y =>simp only[au8,pJ,avX];apply awJ;intro x F;show(if(x.1==k)=true then _ else _)=(λx:Int×Value=>(u x.1,D.an x.2)) (if(x.1==k)=true then(x.1,v)else x);split<;>rfl
theorem alP(l:List (Int×Value))(k p:Int)(v:Value):rq (l.map λx=>if x.1==k then(x.1,v)else x) p=if p=k then(rq l k).map (λ_=>v)else rq l p:=by unfold rq;induction l with|nil=>split<;>rfl|cons x r aY =>rw[aum,avI,avI,avI];by_cases F:x.1=k;rw[atH (by simpa using F)];by_cases au:p=k;subst au;rw[atH rfl,show(x.1==p)=true by simpa using F];rfl;(have alQ:(x.1==p)=false:=by rw[F];simpa using λe:k=p=>au e.symm);rw[atG au]at aY⊢;rw[show((x.1,v).1==p)=false from alQ];exact aY;rw[atG (by simpa using F)];by_cases au:p=k;subst au;rw[atH rfl]at aY⊢;rw[show(x.1==p)=false by simpa using F];exact aY;rw[atG au]at aY⊢;(cases x.1==p with|true=>rfl|false=>exact aY)
theorem alR(l:List (Int×Value))(k p:Int)(v:Value):rq (Bf l k v) p=if p=k then some v else rq l p:=by unfold Bf;cases h:rq l k with|some y=>simp only;rw[alP,h];rfl|none =>simp only;unfold rq at h⊢;rw[List.find?_append];by_cases au:p=k;subst au;rw[atH rfl];rw[av3]at h;rw[h];simp;rw[atG au];(cases M:l.find? (λx=>x.1==p)with|some y=>rfl|none=>simp[show¬k=p from λe=>au e.symm])
def GI(l:List (Int×Value))(vs:Nat->Value):Prop:=∀p:Nat,rq l p=some (vs p)\/(rq l p=none/\vs p=.slice none 0 0)
theorem alS:GI [] (λ_=>.slice none 0 0):=λp=>.inr ⟨rfl,rfl⟩
theorem alT{l:List (Int×Value)}{vs:Nat->Value}(h:GI l vs)(P:Nat)(v:Value):GI (Bf l P v) (λj=>if j=P then v else vs j):=λp=>by
 rw[alR];by_cases au:p=P
 ·subst au;rw[atH rfl];exact .inl (atI some (atH rfl).symm)
 rw[atG atv];dsimp only;rw[atG au];exact h p
theorem Yv{l:List (Int×Value)}{vs:Nat->Value}(h:GI l vs)(p:Nat):jC (pJ l) (u p)=some (.an (vs p))\/(jC (pJ l) (u p)=none/\vs p=.slice none 0 0):=by rw[Yu];rcases h p with h|⟨h,z⟩;rw[h];exact .inl rfl;rw[h];exact .inr ⟨rfl,z⟩
theorem PY(l:List (Int×Value)):∀x∈pJ l,mG (.int .i64) x.1=true:=λx F=>by
 obtain⟨y,_,rfl⟩:=at3.1 F;rfl
theorem alU{L:List f2}{H:bF}(hH:H 34=some (.mp b [])){o:aI}(h:cQ [(34,.mp b [])] (o3 L (λ_=>.slice none 0 0) λp=>jO L p 0) k=some o):(if 10000<=k/\k<10000+(L.length+1)then some (.row (.slice none 0 0) [] 1 3)else H k)=some o:=by unfold cQ aK o3 at h;by_cases X:k=34;subst X;rw[atG atv,hH];exact h;rw[avw X]at h;simp only[auV,aK]at h;split at h;rename_i ae;rw[atH ae];exact h;cases h
def sv(L:List f2)(vs:Nat->Value)(f:Nat->List (Fin L.length))(tr:Nat->Bool):bF:=λk=>if tr (k-10000)=true then none else o3 L vs f k
theorem Yw(L:List f2)(vs:Nat->Value)(f:Nat->List (Fin L.length))(tr:Nat->Bool):qa (sv L vs f tr):=λk o h=>by
 unfold sv at h;split at h
 ·cases h
 exact Be _ _ _ k o h
variable{tr:Nat->Bool}
theorem alV{L:List f2}{vs:Nat->Value}{f:Nat->List (Fin L.length)}(h:i<=L.length)(N:tr i=false):sv L vs f tr (10000+i)=some (.row (vs i) (hC (f i)) 1 3):=by unfold sv;rw[auW,atG (by rw[N];decide),Yt h]
theorem alW{L:List f2}{vs:Nat->Value}{f:Nat->List (Fin L.length)}{PZ:Nat->Bool}{P:Nat}(N:∀p,PZ p=(tr p||p==P)):sv L vs f PZ=ma (sv L vs f tr) (10000+P):=by funext k;unfold ma;cases G:Nat.beq k (10000+P)with|true =>have:=aua G;subst this;unfold sv;rw[auW,N,atH atx];rfl|false =>show sv L vs f PZ k=sv L vs f tr k;unfold sv;rw[N];by_cases X:10000<=k;rw[show(k-10000==P)=false by(have:k≠10000+P:=λe=>by rw[e,au7]at G;cases G);simp;omega];simp;(have:o3 L vs f k=none:=by unfold o3;rw[atG atv]);rw[this];split<;>split<;>rfl
variable{c9 da:aI}
theorem alX{L:List f2}{vs:Nat->Value}{f:Nat->List (Fin L.length)}{H:bF}(h1:H 34=some c9)(z:H 1000=some da)(ae:∀k o,10000<=k->o3 L vs f k=some o->H k=some o){o:aI}(h:cQ [(34,c9),(1000,da)] (sv L vs f tr) k=some o):H k=some o:=by unfold cQ aK at h;by_cases X:k=34;subst X;rw[h1];exact h;rw[avw X]at h;simp only[auV]at h;unfold aK at h;by_cases rd:k=1000;subst rd;rw[z];exact h;rw[avw rd]at h;simp only[auV,aK]at h;unfold sv at h;split at h;cases h;exact ae k o (Be _ _ _ k o h) h
def Dm(L:List f2)(wide:Bool)(h0:0<L.length)(a:Nat)(p:Nat):Bool:=((eB L wide h0 a).1.take a).any λx=>x.1+1==p
variable{wide:Bool}
theorem alY{L:List f2}{h0:0<L.length}{a:Nat}{x:Fin L.length}(F:(eB L wide h0 a).1[a]?=some x):Dm L wide h0 a (x.1+1)=false:=by
 unfold Dm;rw[List.any_eq_false];intro y hy e;have b0:y.1+1=x.1+1:=by simpa using e
 have alZ:y=x:=Fin.ext atv;subst alZ;obtain⟨j,Z,Yx⟩:=auh.1 hy;rw[at4]at Z;rw[awv]at Yx;obtain⟨ha,P0⟩:=aui.1 F;have:=(List.getElem_inj (PW L wide h0 a).1).1 (Yx.trans P0.symm);omega
theorem al0{L:List f2}{h0:0<L.length}{a:Nat}{x:Fin L.length}(F:(eB L wide h0 a).1[a]?=some x)(p:Nat):Dm L wide h0 (a+1) p=(Dm L wide h0 a p||p==x.1+1):=by obtain⟨ha,P0⟩:=aui.1 F;unfold Dm;(have h1:(eB L wide h0 (a+1)).1=(eB L wide h0 a).1++Bd L wide (x.1+1:Nat):=by rw[eB,F]);rw[h1,avm atv,atN ha,List.any_append,P0];simp only[awZ,List.any_nil,Bool.or_false];(have hc:(x.1+1==p)=(p==x.1+1):=by by_cases h:x.1+1=p;rw[h];rw[show(x.1+1==p)=false from aur.2 h,show(p==x.1+1)=false from aur.2 λe=>h e.symm]);rw[hc]
theorem Ka{U:b7 Tryz.prog B am}(s j:Nat)(h:Y U c {t:=λi=>_root_.cond (Nat.beq i j) (.Q .none k xs) (A.t i),H:=λi=>_root_.cond (Nat.beq i s) none (A.H i)} K)
  (hs:A.H s=some (.row v xs k e):=by exact rfl) (Z:A.t j=.an v:=by exact rfl):Y U c A K :=
 Y.commit s hs _ (λw C ae i aj ao=>by
   show bf w C (_root_.cond (Nat.beq i j) _ _) aj
   cases hi:Nat.beq i j with
   |false=>exact ao
   |true =>
    have:=aua hi;subst this
    rw[Z]at ao
    rw[ao.fL];exact ae.js) (λi o ag=>by
   replace ag:_root_.cond (Nat.beq i s) none (A.H i)=some o:=ag
   cases hi:Nat.beq i s with
   |true=>rw[hi]at ag;cases ag
   |false =>
    rw[hi]at ag;refine .inr ⟨λe=>?_,ag⟩
    subst e;rw[au7]at hi;cases hi) h
theorem P1(L:List f2)(l:List (Fin L.length)):∀k,(gH L l k).1.length=L.length
 |0=>by rw[gH];simp
 |k+1=>by rw[gH];split;simp only;rw[avc,P1 L l k];exact P1 L l k
theorem Yy(L:List f2)(l:List (Fin L.length)):∀k,k<=l.length->(gH L l k).2.length=k
 |0,_=>by rw[gH];rfl
 |k+1,h=>by rw[gH,atJ atv];simp only;rw[atO,Yy L l k atv];rfl
theorem al1(aV:dc B)(L:List f2)(wide:Bool)(kV:∀x∈L,x.id.length<100000000/\(wide=false->iw x.id))(P2:∀x∈L,-1000000000<=x.dm/\x.dm<=1000000000)(m_:L.length<1000000): aS B 239 [.Q .none 3 (dZ L),.bool wide] (.bl [.Q .none 3 (dZ (nX L wide).1),.Q .none 1 (bn (nX L wide).2.1),u (nX L wide).2.2]):=by have dd:(dZ L).length=L.length:=atL _;refine fn Tryz.func239 Tryz.ntmps239 λU=>?_;refine go ?_;intro cc;(conv=>whnf);refine cT ?_;intro eD;(conv=>whnf);refine cT ?_;refine jB 2 2 1 (.Q .none 3 (dZ L)) ?_;refine jB 3 3 1 (.bool wide) ?_;refine go ?_;rw[dd];refine cb (t:=decide ((L.length:Int)>1024)) ?_ ?_<;>intro hc;(have uR:nX L wide=([],[],7):=by unfold nX;rw[atH (by have:=auc hc;omega)]);rw[uR];refine go ?_;exact⟨.nil,.nil,E,ai⟩;(have V7:L.length<=1024:=by have:=at0 hc;omega);(obtain⟨ey,Dn⟩:∃ey:f2,∀h:0<L.length,ey=L[0]:=by by_cases h:0<L.length;exact⟨L[0],λ_=>rfl⟩;exact⟨⟨[],0,0⟩,λz=>absurd z h⟩);have Yz:=ajC (B:=B) ey.id ey.rh ey.dm;(have py:0<L.length->(dZ L)[0]?=some (kN ey):=λh=>by rw[Dn h];simp[dZ,h]);(have Kb:(!(L.length:Int)==0)=true->0<L.length:=λh=>by rcases auD L.length with h0|h0;rw[h0]at h;cases h;exact h0);refine go ?_;rw[dd];refine And.intro (λh=>⟨by decide,by have:=Kb h;omega⟩) ?_;(conv=>whnf);refine cT ?_;refine⟨kN ey,λh=>py (Kb h),?_⟩;(conv=>whnf);refine cT ?_;refine br Yz ?_;refine cb ?_ ?_<;>intro hc;(have uR:nX L wide=([],[],1):=by unfold nX;rw[atG atv];split;rename_i h0;rw[atH];rw[<-Dn h0];(cases ae:(bif ey.id==[0]then ey.dm==1 else false)with|false=>rfl|true=>rw[ae]at hc;simp at hc;first|omega|(rw[hc]at h0;simp at h0));rfl);rw[uR];refine go ?_;exact⟨.nil,.nil,E,ai⟩;(have h0:0<L.length:=by rcases auD L.length with h0|h0;rw[h0]at hc;simp at hc;exact h0);(have uT:(bif L[0].id==[0]then L[0].dm==1 else false)=true:=by rw[<-Dn h0];cases ae:(bif ey.id==[0]then ey.dm==1 else false)with|true=>rfl|false=>rw[ae]at hc;simp at hc);clear Yz py Kb hc Dn;refine go ?_;refine .inr (af.ud λbL=>?_);(conv=>whnf);refine cT ?_;refine go ?_;rw[dd,show List.drop (Int.toNat 1) (List.take ((L.length:Nat):Int).toNat (dZ L))=dZ (L.drop 1) by rw[auq,<-dd,atW];simp[dZ],show(dZ (L.drop 1)).length=L.length-1 by simp[dZ]];refine alM (L.length+1) 1 3 ?_;refine Al (λx:Nat×List (Int×Value)×(Nat->Value)=>x.1<=L.length-1/\(∀j (Z:j<L.length),1<=j->j<=x.1->xG L.length L[j]=false)/\GI x.2.1 x.2.2) [2,3,7,36,37] [] (λx=>[(38,u x.1)]) (λx=>[(34,.mp bL (pJ x.2.1))]) (λx=>o3 L x.2.2 λp=>jO L p x.1) (λx=>L.length-1-x.1) (0,[],λ_=>.slice none 0 0) ⟨at7 _,λj Z h1 z=>absurd h1 (by dsimp only at z;omega),alS⟩ ?_ (h1:=by exact fO.same cH λk o h=>by exact alU rfl h);rintro⟨m,cA,vs⟩ ⟨hm,G,P3⟩;(have jv:(dZ (L.drop 1)).length=L.length-1:=by simp[dZ]);rcases at5 m (L.length-1)with gv|gv;(·(have ly:m+1<L.length:=by omega);(have v':(dZ (L.drop 1))[m]?=some (kN L[m+1]):=by simp only[dZ,aud,avL];rw[awy,atJ ly];rfl);have alI:=P2 _ (atK ly);(have f':∀p:Nat,jO L (p:Int) (m+1)=jO L p m++if L[m+1].dm=(p:Int)then[⟨m+1,ly⟩]else[]:=λp=>by rw[jO,avv ly]);have P4:=alJ (B:=B) L[m+1];rw[show(bif bif bif L[m+1].id !=[]then decide ((L[m+1].id.length:Int)<=255)else false then L[m+1].id !=[0]else false then L[m+1].id !=[1]else false)=J' L[m+1]from rfl]at P4;have ol:=G;cases xH:xG L.length L[m+1]with|true =>(have uR:nX L wide=([],[],1):=by unfold nX;rw[atG atv,avv h0,atG (by rw[uT];decide),atH];rw[au1];exact⟨L[m+1],by rw[auh];exact⟨m,by simp;omega,by simp[awy]⟩,xH⟩);rw[uR];have Bg:=xH;unfold xG at Bg;generalize L[m+1]=e at*;rw[<-dd]at Bg;refine Y.qZ rfl (Be _ _ _) λiL=>?_;refine go ?_;refine w1 (t:=decide ((m:Int)<((L.length-1:Nat):Int))) (by simpa using gv) ?_;refine bH (kN e) v' ?_;intro iN;(conv=>whnf);refine cT ?_;refine jB 9 9 3 (kN e) ?_;refine go ?_;refine br P4 ?_;refine w1 Bg ?_;exact⟨.nil,.nil,E,ai⟩|false =>have Bg:=xH;unfold xG at Bg;(obtain⟨P,YA,xy,it⟩:∃P:Nat,1<=P/\P<=L.length/\L[m+1].dm=(P:Int):=by unfold xG at xH;cases av:J' L[m+1]with|false=>rw[av]at xH;cases xH|true =>rw[av]at xH;simp at xH;exact⟨L[m+1].dm.toNat,by omega,by omega,by omega⟩);generalize kA:L[m+1]=e at*;rw[<-dd]at Bg;refine Y.Cl (f0:=.row (vs P) (hC (jO L P m)) 1 3) 7500 (10000+P) rfl (Be _ _ _) (Yt xy) rfl aty λGy=>?_;refine go ?_;refine w1 (t:=decide ((m:Int)<((L.length-1:Nat):Int))) (by simpa using gv) ?_;refine bH (kN e) v' ?_;intro iN;(conv=>whnf);refine cT ?_;refine jB 9 9 3 (kN e) ?_;refine go ?_;refine br P4 ?_;refine yp Bg ?_;have eQ:(jO L (P:Int) m).length<=L.length:=J_ (PV L);refine' eR [(34,.mp bL (pJ cA)),(7500,.row (vs P) (hC (jO L P m)) 1 3)] (α:=Option Addr×Nat×Nat) (none,0,0) (λy=>[_,_,_,_,_,_,.an (vs P),_,u ((m:Int)+1),.Q .dU 1 [u ((m:Int)+1)],.an (.slice y.1 y.2.1 y.2.2),.any]) (λy=>[(10,7500,none),(10,68,some (.row (.slice y.1 y.2.1 y.2.2) (hC (jO L P m)++[u ((m:Int)+1)]) 1 3)),(11,34,some (.mp bL (mH (pJ cA) (u e.dm) (.an (.slice y.1 y.2.1 y.2.2)))))]) [0,0,2,0,0,16,56,0,128,384,1016,2047] [(10,7500),(10,68),(11,34)] ?_ ?_;rotate_left 7;refine dC ?_;refine bR (λy=>Ys 34 rfl rfl rfl rfl rfl rfl (PY cA) (by rw[it];exact Yv P3 P) atD (cz y)) ?_;refine bR (λy=>af.pc aL 7500 rfl rfl rfl atC rfl rfl rfl atx (by show(_+1)*8<=_;simp only[hC,atL];omega) (by show _+1<=_;simp only[hC,atL];omega) (λbQ hn cap=>d0 (bQ,hn,cap))) ?_;refine bR (λy=>af.yu 34 rfl rfl rfl rfl rfl rfl (PY cA) (cz y)) ?_;exact trivial;rintro⟨bQ,hn,cap⟩;(conv=>whnf);refine go ?_;(have ae:hC (jO L (P:Int) (m+1))=hC (jO L P m)++[u ((m:Int)+1)]:=by rw[f' P,atH it];simp[hC]);(have xm:∀j:Nat,j≠P->jO L (j:Int) (m+1)=jO L j m:=λj Z=>by rw[f' j,atG (by rw[it];omega),auK]);(have hJ:mH (pJ cA) (u e.dm) (.an (.slice bQ hn cap))=pJ (Bf cA P (.slice bQ hn cap)):=by rw[it];exact alO _ _ _);(have g8:∀j (Z:j<L.length),1<=j->j<=m+1->xG L.length L[j]=false:=λj Z h1 z=>by rcases at5 m j with h|h;(have al2:j=m+1:=by omega);subst al2;rw[kA];exact xH;exact G j Z h1 h);exact yt (m+1,Bf cA P (.slice bQ hn cap),λj=>if j=P then .slice bQ hn cap else vs j) ⟨gv,g8,alT P3 P _⟩ (w2 (f0:=.row (.slice bQ hn cap) (hC (jO L P m)++[u ((m:Int)+1)]) 1 3) [(34,34)] (10000+P) 68 atv (Db (Be _ _ _) _) (alN (atH rfl) (λj Z=>atG Z) ae xm) (gL:=⟨rfl,vw hJ,ai⟩)));(have PH:m=L.length-1:=by omega);subst PH;refine Y.qZ rfl (Be _ _ _) λiL=>?_;refine go ?_;refine cb (t:=decide (((L.length-1:Nat):Int)<((L.length-1:Nat):Int))) (λhc=>by simp at hc) (λhc=>?_);refine Y.exit ?_;(conv=>whnf);refine Y.jX [(2,.a7 1 [.Q .none 3 (dZ L)] 0 0),(3,.a7 1 [.bool wide] 0 0),(7,.an (.map (some bL)))] (cQ [(34,.mp bL (pJ cA))] (o3 L vs λp=>jO L p (L.length-1))) (pk [(34,34)] (Be _ _ _)) ?_;refine go ?_;refine Y.own 10 1000 1 3 rfl (λw0=>?_);refine Al (λx:Nat×Value=>x.1<=(eB L wide h0 x.1).1.length) [2,3,7] [34] (λx=>[(10,.Q (.own 1000 x.2) 1 (hC (eB L wide h0 x.1).1)),(11,.bool (eB L wide h0 x.1).2),(12,u x.1)]) (λx=>[(1000,.own x.2 (hC (eB L wide h0 x.1).1).length 1 3)]) (λx=>sv L vs (λp=>jO L p (L.length-1)) (Dm L wide h0 x.1)) (λx=>L.length-x.1) (0,w0) (at7 _) ?_ (h1:=by exact fO.same cH λk o h=>alX rfl rfl (λk o X h=>by(have bT:¬k=1000:=by omega);(have b0:¬k=34:=by omega);show(bif Nat.beq k 1000 then _ else cQ [(34,.mp bL (pJ cA))] (o3 L vs λp=>jO L p (L.length-1)) k)=_;rw[avw bT];simp only[auV,cQ,aK,avw b0];exact h) h);rintro⟨q,w⟩ I;dsimp only at I;cases F:(eB L wide h0 q).1[q]? with|none =>(have asm:q=(eB L wide h0 q).1.length:=by have:=List.getElem?_eq_none_iff.1 F;omega);have hlen:=Yq L wide h0 q;(have aZ:eB L wide h0 L.length=eB L wide h0 q:=by have h1:=Yr L wide h0 (a:=q) atv (L.length-q);rwa [show q+(L.length-q)=L.length by omega]at h1);(have qx:¬(L.drop 1).any (xG L.length)=true:=λh=>by obtain⟨e,ak,q4⟩:=au1.1 h;obtain⟨j,Z,rfl⟩:=auh.1 ak;rw[List.getElem_drop]at q4;rw[auS]at Z;have:=G (1+j) atv atv atv;rw[this]at q4;cases q4);(have oV:∀j (Z:j<L.length),1<=L[j].dm/\L[j].dm<=(L.length:Int):=λj Z=>by rcases auD j with h|h;subst h;(cases ae:L[0].id==[0]with|false=>rw[ae]at uT;cases uT|true =>rw[ae]at uT;(have:L[0].dm=1:=by simpa using uT);omega);have:=G j Z h atv;unfold xG at this;cases av:J' L[j]with|false=>rw[av]at this;cases this|true=>rw[av]at this;simp at this;omega);(have uR:nX L wide=if(eB L wide h0 q).1.length<L.length then([],[],13)else if 0<=fe (λx=>!C_ x.rh) L then([],[],2)else if(eB L wide h0 q).2=true then([],[],5)else((gH L (eB L wide h0 q).1 L.length).2,(gH L (eB L wide h0 q).1 L.length).1,0):=by unfold nX;rw[atG atv,avv h0,atG (by rw[uT];decide),atG qx,aZ]);refine Y.jX [(2,.a7 1 [.Q .none 3 (dZ L)] 0 0),(10,.Q (.own 1000 w) 1 (hC (eB L wide h0 q).1)),(11,.bool (eB L wide h0 q).2),(12,u q)] (aK [(1000,.own w (hC (eB L wide h0 q).1).length 1 3)]) (fO.same cH λk o h=>?_) ?_;simp only[aK]at h;(cases X:Nat.beq k 1000 with|false=>rw[X]at h;cases h|true =>rw[X]at h;have:=aua X;subst this;exact h);generalize(eB L wide h0 q).1=dH at*;generalize(eB L wide h0 q).2=ep at*;have eQ:(hC dH).length=dH.length:=atL _;rw[uR];refine go ?_;rw[eQ];refine yp (t:=decide ((q:Int)<(dH.length:Nat))) atw ?_;rw[eQ,dd];refine cb (t:=decide ((dH.length:Int)<(L.length:Nat))) ?_ ?_<;>intro hc;rw[atH (by have:=auc hc;omega)];refine go ?_;exact⟨.nil,.nil,E,ai⟩;(have aj_:dH.length=L.length:=by have:=at0 hc;omega);rw[atG atv];have YB:=aj4 (B:=B) L atv 287 (λx=>!C_ x.rh) λk _=>aj1 k;refine go ?_;refine br YB ?_;refine cb (t:=decide (0<=fe (λx=>!C_ x.rh) L)) ?_ ?_<;>intro hc;rw[atH (auc hc)];refine go ?_;exact⟨.nil,.nil,E,ai⟩;rw[atG (at0 hc)];refine go ?_;refine cb (t:=ep) ?_ ?_<;>intro hc;rw[atH hc];refine go ?_;exact⟨.nil,.nil,E,ai⟩;rw[atG (by rw[hc];decide)];clear YB uR F aZ;refine go ?_;rw[dd];refine .inr (af.x_ aL (n:=L.length) (ce:=.i64) (dn:=.i64) (V:=u 0) rfl rfl rfl rfl rfl rfl rfl (by show 8*L.length<=_;omega) atv λdx=>?_);(conv=>whnf);refine go ?_;rw[dd];refine .inr (af.L_ aL (n:=L.length) (ce:=.i64) (dn:=.i64) rfl rfl rfl rfl rfl rfl (by show 32*L.length<=_;omega) atv λal3=>?_);(conv=>whnf);refine go ?_;rw[show List.replicate L.length (u 0)=bn (gH L dH 0).1 by simp[bn,gH],eQ];refine gn (λx:Nat×Value=>x.1<=dH.length) [2,16,129,130] [1000] (λx=>[(17,.Q (.own 128 x.2) 3 (dZ (gH L dH x.1).2)),(131,u x.1)]) (λx=>[(125,.row dx (bn (gH L dH x.1).1) 1 3),(128,.own x.2 (dZ (gH L dH x.1).2).length 3 320)]) (λx=>dH.length-x.1) (0,al3) (at7 _) [(1000,1000),(125,125),(128,128)] ?_;rintro⟨k,al4⟩ X;dsimp only at X⊢;refine go ?_;refine cb (t:=decide ((k:Int)<(dH.length:Nat))) ?_ ?_<;>intro bw;(have P5:k<dH.length:=by have:=auc bw;omega);have kE:=P1 L dH k;have nJ:=Yy L dH k atv;(obtain⟨ff,e,hQ,P6,kA,hg,kg,rL⟩:∃(ff:Nat) (e:f2),ff<L.length/\(hC dH)[(k:Int).toNat]?=some (.int .i64 (ff:Nat))/\(dZ L)[((ff:Nat):Int).toNat]?=some (kN e)/\1<=e.dm/\e.dm<=(L.length:Nat)/\gH L dH (k+1)=((gH L dH k).1.set ff ((k+1:Nat):Int),(gH L dH k).2++[⟨e.id,e.rh,(((gH L dH k).1.set ff ((k+1:Nat):Int))[(e.dm-1).toNat]?).getD 0⟩]):=by refine⟨dH[k].1,L[dH[k].1],dH[k].2,?_,?_,(oV dH[k].1 dH[k].2).1,(oV dH[k].1 dH[k].2).2,?_⟩;rw[auq];simp only[hC,aud];rw[atJ P5];rfl;rw[auq];simp[dZ];rw[gH,atJ P5];rfl);obtain⟨GJ,YC⟩:∃GJ,((gH L dH k).1.set ff ((k+1:Nat):Int))[(e.dm-1).toNat]?=some GJ:=⟨_,atJ (by rw[avc,kE];omega)⟩;rw[YC]at rL;(have ne:(bn (gH L dH k).1).length=L.length:=by simp[bn,kE]);(have JU:(dZ (gH L dH k).2).length=k:=by simp[dZ,nJ]);(have x9:(bn (gH L dH k).1).set ff (u ((k:Int)+1))=bn ((gH L dH k).1.set ff ((k+1:Nat):Int)):=by simp[bn,aw']);(have qy:(bn ((gH L dH k).1.set ff ((k+1:Nat):Int)))[(e.dm-1).toNat]?=some (.int .i64 GJ):=by simp only[bn,aud,YC];rfl);(have al5:((bn (gH L dH k).1).set ff (.int .i64 ((k:Int)+1)))[(e.dm-1).toNat]?=some (.int .i64 GJ):=by rw[x9];exact qy);(have al6:(bn (gH L dH k).1).set ff (u ((k:Int)+1))=bn (gH L dH (k+1)).1:=by rw[x9,rL]);(have YD:dZ (gH L dH k).2++[kN ⟨e.id,e.rh,GJ⟩]=dZ (gH L dH (k+1)).2:=by rw[rL];simp[dZ]);refine go ?_;refine bH _ P6 ?_;refine .inr (af.ev aL 125 rfl rfl rfl rfl rfl rfl rfl atv (by rw[ne];omega) ?_);(conv=>whnf);refine cT ?_;refine .inr (af.nC aL 125 (i:=ff) rfl rfl rfl rfl (by rw[ne];omega) rfl ?_);(conv=>whnf);refine go ?_;refine bH (kN e) kA ?_;intro rg;(conv=>whnf);refine go ?_;refine .inr (af.ev aL 125 rfl rfl rfl rfl rfl rfl rfl atv (by rw[avc,ne];omega) ?_);(conv=>whnf);refine cT ?_;refine .inr (af.mz aL 125 (i:=(e.dm-1).toNat) rfl rfl rfl al5 ?_);(conv=>whnf);refine go ?_;intro al7;(conv=>whnf);refine go ?_;exact eX (k+1,al7) [(1000,1000),(125,125),(128,155)] P5 (z:=⟨⟨E,E,E,E,aq.kd YD,E,ai⟩,rfl,rfl,rfl,rfl,sY al6,rfl,kG (by rw[<-YD,atO];rfl),ai⟩);(have f':k=L.length:=by have:=at0 bw;omega);subst f';refine Y.exit ?_;(conv=>whnf);refine Ka 125 16 ?_;refine go ?_;exact⟨.js _,E,E,ai⟩|some x =>have lu:=(aui.1 F).1;have it:=alV (L:=L) (vs:=vs) (f:=λp=>jO L (p:Nat) (L.length-1)) (i:=x.1+1) atv (alY F);refine Y.Cl (f0:=.row (vs (x.1+1)) (hC (jO L ((x.1+1:Nat):Int) (L.length-1))) 1 3) 7500 (10000+(x.1+1)) rfl (Yw _ _ _ _) it rfl aty λGy=>?_;(have P6:(hC (eB L wide h0 q).1)[q]?=some (.int .i64 (x.1:Nat)):=by simp only[hC,aud,F];rfl);have gJ:(hC (eB L wide h0 q).1).length=(eB L wide h0 q).1.length:=atL _;have al8:=me.M1 (B:=B) (b9:=Fin L.length) (λi=>u (i.1:Nat)) (λi=>⟨_,rfl,ai,ai⟩) (J9 L wide) 284 [.a7 1 [.Q .none 3 (dZ L)] 0 0,.a7 1 [.bool wide] 0 0] (λi j=>Yl aV L wide i.1 j.1 i.2 j.2 kV) (vs (x.1+1)) (jO L ((x.1+1:Nat):Int) (L.length-1)) (by have:=J_ (PV L (p:=((x.1+1:Nat):Int)) (m:=L.length-1));omega);refine go ?_;refine w1 (t:=decide ((q:Int)<((hC (eB L wide h0 q).1).length:Nat))) (by rw[gJ];simpa using lu) ?_;refine bH (u (x.1:Nat)) P6 ?_;refine dD (Ys 34 rfl rfl rfl rfl rfl rfl (PY cA) (Yv P3 (x.1+1)) atD) ?_;refine ke [(2000,7500)] al8 ?_;refine Ka 7500 13 ?_;obtain⟨bX,gh⟩:∃bX,Bd L wide ((x.1+1:Nat):Int)=bX:=⟨_,rfl⟩;rw[show(gi (J9 L wide) (jO L ((x.1+1:Nat):Int) (L.length-1))).map (λi=>u (i.1:Nat))=hC bX from by rw[<-gh];rfl];(have asn:(eB L wide h0 q).2=((eB L wide h0 q).2||su L wide bX 1):=by simp[su]);have YE:(hC bX).length=bX.length:=atL _;(have aso:bX.length<=L.length:=by rw[<-gh];exact J_ (Yo L wide));refine go ?_;refine gn (λk:Nat=>1<=k/\(k=1\/k<=bX.length)) [2,3,7,10,12,13,14] [34,1000] (λk=>[(11,.bool ((eB L wide h0 q).2||su L wide bX k)),(15,u k)]) (λ_=>[]) (λk=>bX.length+1-k) 1 ⟨atP _,.inl rfl⟩ [(34,34),(1000,1000)] ?_;rintro k ⟨y0,rd⟩;refine go ?_;rw[YE];refine cb (t:=decide ((k:Int)<(bX.length:Nat))) ?_ ?_<;>intro hc;obtain⟨ep,l8⟩:∃ep,((eB L wide h0 q).2||su L wide bX k)=ep:=⟨_,rfl⟩;(have eQ:k<bX.length:=by have:=auc hc;omega);(have CK:(hC bX)[((k:Int)-1).toNat]?=some (.int .i64 (bX[k-1].1:Nat)):=by rw[show((k:Int)-1).toNat=k-1 by omega];simp only[hC,aud];rw[atJ atv];rfl);(have FI:(hC bX)[(k:Int).toNat]?=some (.int .i64 (bX[k].1:Nat)):=by rw[auq];simp only[hC,aud];rw[atJ atv];rfl);have al9:=Yl (B:=B) aV L wide bX[k-1].1 bX[k].1 bX[k-1].2 bX[k].2 kV;(have al_:su L wide bX (k+1)=(su L wide bX k||xo L[bX[k-1].1].id L[bX[k].1].id wide==0):=by obtain⟨bC,rfl⟩:∃bC,k=bC+1:=⟨k-1,by omega⟩;rw[su,atJ atv,atJ atv];rfl);generalize xo L[bX[k-1].1].id L[bX[k].1].id wide=b_ at*;rw[l8];refine go ?_;refine yo ?_;refine bH _ CK ?_;refine bH _ FI ?_;refine br al9 ?_;(have du:(bif ep then true else b_==0)=((eB L wide h0 q).2||su L wide bX (k+1)):=by rw[al_,<-Bool.or_assoc,l8];cases ep<;>rfl);exact eX (k+1) [(34,34),(1000,1000)] ⟨by omega,.inr atv⟩;(have al':su L wide bX k=su L wide bX bX.length:=by have im:=at0 hc;rcases rd with h|h;subst h;(match G:bX.length with|0=>rfl|1=>rfl|n+2=>omega);rw[show k=bX.length by omega]);have asp:=Yq L wide h0 q;(have x6:eB L wide h0 (q+1)=((eB L wide h0 q).1++bX,(eB L wide h0 q).2||su L wide bX bX.length):=by rw[eB,F];simp only;rw[gh]);have ama:=alW (L:=L) (vs:=vs) (f:=λp=>jO L (p:Nat) (L.length-1)) (al0 (L:=L) (wide:=wide) (h0:=h0) F);(have iH:hC (eB L wide h0 q).1++hC bX=hC (eB L wide h0 (q+1)).1:=by rw[x6];simp[hC]);rw[al'];refine Y.exit ?_;(conv=>whnf);refine go ?_;intro gQ;(conv=>whnf);refine go ?_;refine yt (q+1,gQ) (by dsimp only;rw[x6];simp only[atO];omega) (by dsimp only;rw[ama];exact pk [(34,34),(1000,111)] (Db (Yw _ _ _ _) _) (h1:=⟨E,E,E,aq.kd iH,S' (by rw[x6]),E,ai⟩) (gL:=⟨rfl,rfl,rfl,kG (by rw[<-iH,atO]),ai⟩))
theorem YF(L:List f2)(l:List (Fin L.length)):∀k,(gH L l k).2.length<=k/\∀x∈(gH L l k).2,∃y∈L,x.id=y.id
 |0=>by rw[gH];exact⟨atP _,λx F=>by cases F⟩
 |k+1=>by have aY:=YF L l k;rw[gH];split;simp only[atO,atQ,auf];refine⟨by omega,λx F=>?_⟩;rcases at1.1 F with h|h;exact aY.2 x h;rw[auv]at h;subst h;exact⟨_,atK _,rfl⟩;exact⟨by omega,aY.2⟩
theorem YG(L:List f2)(wide:Bool):(nX L wide).1.length<=L.length/\∀x∈(nX L wide).1,∃y∈L,x.id=y.id:=by unfold nX;repeat (first|(exact⟨at7 _,λx F=>by cases F⟩)|(exact YF L _ _)|split)
noncomputable def sw(aG:bN->List c_)(wide:Bool)(aD:List (atE×Int))(bc:Nat->List bN)(a:Int):Int×Int :=
 if we aG bc aD.length=0 then(zf aG wide bc aD.length (a+2*kj (kO (nX (mU aD λ_=>0) wide).1)),0)else(0,we aG bc aD.length)
theorem YH(aV:dc B)(bO:bN->D)(hs:∀x,(bO x).one=true)(aG:bN->List c_)(wide:Bool)(j8:aI)(aD:List (atE×Int))(bc:Nat->List bN)(vs:Nat->Value)(b4:Value)(dK:Nat)(a:Int)(ha:0<=a/\a<=1000000000000000)(av:aD.length<=100000)(M:∀p∈aD,p.1.length<=10000/\(wide=false->iw p.1)/\0<=p.2/\p.2<=1000000)(al:∀i,i<aD.length->(bc i).length<400000)(PD:fN (λi=>((bc i).length:Nat)) 0 aD.length<=10000000)(kV:∀i,i<aD.length->∀x∈bc i,x.id.length<1000000/\(wide=false->iw x.id)/\(aG x).length<1000000/\∀y∈aG x,y.qp.length<1000000/\y.data.length<1000000)(GC:∀i,i<aD.length->∀x∈bc i,A' B j8 (bO x) (aG x)): cV B 110 [.box 4110 dK 0,u a] (cQ [(4110,.box dK [.bool wide,.an b4,u 0,u 0,u 0]),(4111,.row b4 (eT aD vs (λ_=>0) (λ_=>0)) 5 249),(7100,j8)] (iT vs (λi=>(bc i).map (jL bO)) aD.length)) λd _=>d=.bl [u (sw aG wide aD bc a).1,u (sw aG wide aD bc a).2]:=by(have Kc:∀x∈mU aD (λ_=>0),x.id.length<=10000/\(wide=false->iw x.id)/\1<=x.dm/\x.dm<=1000001:=λx F=>by obtain⟨j,Z,rfl⟩:=awL.1 F;have:=M aD[j] (atK _);exact⟨this.1,this.2.1,by dsimp only;omega,by dsimp only;omega⟩);have dd:=Dk (aD:=aD) (a1:=λ_=>0);have ag:=YG (mU aD λ_=>0) wide;have PR:=al1 (B:=B) aV (mU aD λ_=>0) wide (λx F=>⟨by have:=(Kc x F).1;omega,(Kc x F).2.1⟩) (λx F=>by have:=(Kc x F).2.2;omega) atv;have amb:=alH (B:=B) aD vs (λ_=>0) (λ_=>0) wide b4 0 0 0 dK _ _ _ atv (λd N=>by have:=(M d N).2.2;omega) PR;have GK:=ak1 aV bO hs aG wide j8 aD bc vs b4 dK a (nX (mU aD λ_=>0) wide).1 ha atv ⟨by omega,λx F=>by obtain⟨y,hy,ak⟩:=ag.2 x F;rw[ak];exact(Kc y hy).1⟩ al PD kV GC amb;refine GK.mono ?_;intro d aM h;rw[h];unfold GB sw;split<;>rfl
theorem amc(aN:List eH)(vs:Nat->Value):lg aN vs aN.length=eT (aN.map λd=>(d.id,d.cB)) vs (λ_=>0) (λ_=>0):=by unfold lg eT;apply au0;simp;intro j h1 z;simp
theorem amd(bX:D)(bL:Nat)(aN:List eH)(vs:Nat->Value)(bc:Nat->List bN)(n:Nat):nU bX bL aN vs bc n=iT vs (λi=>(bc i).map (jL λx=>kt bX bL aN x.hA)) n:=rfl
variable{f:FuncId}{ds:List D}{d:D}
theorem m0.P7(hs:List (Nat×aI))(h:aS B f ds d):cV B f ds (aK hs) λd' aM=>d'=d/\aM=aK hs :=
 ⟨h.1,λw C args Ft G al hH ae=>(h.2 w C args G ae).mono λe w' ⟨v,aO,ak,W,aZ⟩ =>
  ⟨v,d,aO,aK hs,ak,⟨rfl,rfl⟩,W,⟨aZ.ext,aZ.os,aZ.tape,aZ.output,λb qN av=>aZ.iE b qN λh=>h.elim⟩,
   ⟨(hH.tQ aZ).b',(hH.tQ aZ).inj,λs o b ag ao=>.inl ((hH.tQ aZ).cJ s o b ag ao)⟩⟩⟩
theorem YI(j8:aI):A' B j8 (.fn (.func 229) [] []) []:=⟨229,[],[],rfl,m0.P7 _ (agT 173)⟩
theorem aq.YJ{o:Nat}:aq (.box k b o) (.an (.pointer (some ⟨b,o,none⟩))):=⟨λw C aj h=>by rw[h.wA];exact .an _⟩
def YK:Option Nat->D
 |none=>.an (.pointer none)
 |some b=>.box 4110 b 0
theorem ame(x:Option Nat):∃p,aq (YK x) (.an (.pointer p)):=by cases x with|none=>exact⟨_,E⟩|some b=>exact⟨_,aq.YJ⟩
variable{ct:bF}
theorem YL{a1:List (Nat × aI)}(ah : List (Nat × aI))(cy : qa ct)(sI : ∀k o,10000<=k->ct k = some o->A.H k = some o)(h1 : m2 A a1 := by repeat (first|exact trivial|refine⟨rfl,?_⟩))(X : ∀k,(aK a1 k).isSome = (aK ah k).isSome := by
      intro k;simp only[aK]
      repeat (first|rfl|(cases Nat.beq k _;simp only[auV];rotate_left;rfl))):∀k o,cQ a1 ct k=some o->qv ah k=true/\A.H k=some o:=λk o h=>by
 have:=PI cy sI h1 k o h;exact⟨by have z:=this.1;unfold qv at z⊢;rw[<-X];exact z,this.2⟩
structure P8 (o:f1) (ap:List (atE×ad)) (n:ad):Prop where
 wQ:zj n
 w:o2 n<1000000
 len:(kR o ap n).aD.length<=100000
 aD:∀p∈(kR o ap n).aD,p.1.length<=10000/\0<=p.2/\p.2<=1000000
 bc:∀i,i<(kR o ap n).aD.length->((kR o ap n).bc i).length<400000
 sum:fN (λi=>(((kR o ap n).bc i).length:Nat)) 0 (kR o ap n).aD.length<=10000000
 id:∀i,∀x∈(kR o ap n).bc i,x.id.length<1000000
noncomputable def mV(o:f1)(ap:List (atE×ad))(aN:List eH)(cj:List gr)(aG:bN->List c_):Int×Int:=sw aG false (aN.map λd=>(d.id,d.cB)) (fa o ap aN cj) 1
noncomputable def lP(o:f1)(ap:List (atE×ad))(n:ad)(aN:List eH)(cj:List gr)(aG:bN->List c_):Int×Int :=
 if(mV o ap aN cj aG).2=0/\o.q5=true then sw (λ_=>[]) true (kR o ap n).aD (kR o ap n).bc (mV o ap aN cj aG).1 else mV o ap aN cj aG
theorem amf(aV:dc B)(o:f1)(n:ad)(bV bE:Nat)(ap:List (atE×ad))(aN:List eH)(cj:List gr)(zc:Int)(Gv:aS B 158 [aH n,.bool o.rock] (.bl [.Q .none 6 (aN.map gF),.Q .none 7 (cj.map fp),u zc]))(N:aN.length<=1000)(fu:cj.length<=1000)(pD:∀d∈aN,0<=d.cB/\d.cB<(aN.length:Nat))(l8:∀e∈cj,0<=e.eN/\e.eN<(aN.length:Nat))(P9:∀d∈aN,d.id.length<=10000/\iw d.id)(aG:bN->List c_)(GC:∀bL i,i<aN.length->∀x∈fa o ap aN cj i,A' B (.mp bL (bs (D.int .i64) (o0 aN aN.length))) (kt (.a7 26 [dE o n bV bE] 0 0) bL aN x.hA) (aG x))(kV:∀i,i<aN.length->∀x∈fa o ap aN cj i,x.id.length<1000000/\iw x.id/\(aG x).length<1000000/\∀y∈aG x,y.qp.length<1000000/\y.data.length<1000000)(Cp:o.q5=true->P8 o ap n)(m6:0<=(mV o ap aN cj aG).1/\(mV o ap aN cj aG).1<=1000000000000)(g8:0<=(lP o ap n aN cj aG).1/\(lP o ap n aN cj aG).1<=1000000000000): cV B 77 [.a7 26 [dE o n bV bE] 0 0,u 1] (aK [(4103,.mp bV (bs aH ap)),(4104,.mp bE (bs bg []))]) λd aM=>∃jz v2,d=.bl [.agg [.an (.pointer jz),.an (.pointer v2),u (lP o ap n aN cj aG).1,u ((lP o ap n aN cj aG).1+if 0<o.gO.length then 1 else 0)],u (lP o ap n aN cj aG).2]:=by have P_:=akw (B:=B) o n bV bE ap aN cj zc Gv atv atv pD l8;simp only[amc,amd]at P_;have du:(aN.map λd=>(d.id,d.cB)).length=aN.length:=atL _;obtain⟨aD,qH⟩:∃aD,(aN.map λd=>(d.id,d.cB))=aD:=⟨_,rfl⟩;(have xw:∀p∈aD,p.1.length<=10000/\(false=false->iw p.1)/\0<=p.2/\p.2<=1000000:=λp au=>by rw[<-qH]at au;obtain⟨d,r4,rfl⟩:=at3.1 au;have:=P9 d r4;have:=pD d r4;exact⟨(P9 d r4).1,λ_=>(P9 d r4).2,by dsimp only;omega,by dsimp only;omega⟩);(have YM:∀i,i<aN.length->(fa o ap aN cj i).length<400000:=λi _=>by have:=Gu (o:=o) (ap:=ap) (aN:=aN) (cj:=cj) (i:=i);omega);(have AZ:fN (λi=>((fa o ap aN cj i).length:Nat)) 0 aN.length<=10000000:=by have:=Df (bD:=λi=>((fa o ap aN cj i).length:Nat)) (a:=0) (b:=1002) (n:=aN.length) (λi hi=>⟨by omega,by have:=Gu (o:=o) (ap:=ap) (aN:=aN) (cj:=cj) (i:=i);omega⟩) aN.length (atP _);omega);(have YA:mV o ap aN cj aG=sw aG false aD (fa o ap aN cj) 1:=by unfold mV;rw[qH]);have xy:lP o ap n aN cj aG=if(mV o ap aN cj aG).2=0/\o.q5=true then sw (λ_=>[]) true (kR o ap n).aD (kR o ap n).bc (mV o ap aN cj aG).1 else mV o ap aN cj aG:=rfl;rw[qH]at P_ du;rw[<-du]at YM AZ;have GK:=λbL vs b4 dK=>YH (B:=B) aV (λx=>kt (.a7 26 [dE o n bV bE] 0 0) bL aN x.hA) (λx=>JI _ _ _ _) aG false (.mp bL (bs (D.int .i64) (o0 aN aN.length))) aD (fa o ap aN cj) vs b4 dK 1 atv atv xw YM AZ (λi hi x F=>by have:=kV i atv x F;exact⟨this.1,λ_=>this.2.1,this.2.2.1,this.2.2.2⟩) (λi hi x F=>GC bL i atv x F);rw[<-YA]at GK;simp only[du]at GK;generalize NS:mV o ap aN cj aG=Do at*;generalize NT:lP o ap n aN cj aG=zn at*;refine yn Tryz.func77 Tryz.ntmps77 λU=>?_;refine go ?_;intro cP;(conv=>whnf);refine go ?_;refine .inr (af.zd rfl [.a7 26 [dE o n bV bE] 0 0] (qv [(4103,.mp 0 []),(4104,.mp 0 []),(4110,.mp 0 []),(4111,.mp 0 []),(7100,.mp 0 [])]) (λk o ag=>?_) P_ ?_ ?_);simp only[aK]at ag;(cases h1:Nat.beq k 4103 with|true=>have:=aua h1;subst this;exact⟨rfl,ag⟩|false =>rw[h1]at ag;(cases z:Nat.beq k 4104 with|true=>have:=aua z;subst this;exact⟨rfl,ag⟩|false=>rw[z]at ag;cases ag));exact jd;rintro d aM ⟨lO,bL,b4,vs,rfl,rfl⟩;refine⟨_,E,?_⟩;(conv=>whnf);refine cT ?_;intro ea;(conv=>whnf);refine go ?_;refine .inr (af.zd rfl [.box 4110 lO 0,u 1] (qv [(4110,.mp 0 []),(4111,.mp 0 []),(7100,.mp 0 [])]) (YL [(4110,.mp 0 []),(4111,.mp 0 []),(7100,.mp 0 [])] (gG _ _ _) (λq o I ag=>by(repeat (refine JZ I ?_));exact J0 I ag)) (GK bL vs b4 lO) ?_ ?_);exact jd;rintro d aM rfl;refine⟨_,E,?_⟩;(conv=>whnf);refine go ?_;refine Y.jx 6 (dt:=[.an (.pointer (some ⟨lO,0,none⟩)),.an (.pointer none),u 0,u 0]) rfl ⟨aq.YJ,E,E,E,ai⟩ ?_;refine Y.qR 7100 12 234 ?_;refine nf (α:=Option Nat) (λ_=>True) [0,4] [4103,4104,4] (λ_=>[(6,.box 6 ea 0),(7,u zn.1),(8,u zn.2)]) (λx=>[(6,.box ea [.an (.pointer (some ⟨lO,0,none⟩)),YK x,u 0,u 0])]) ?_ ?_;(·refine cb (t:=bif Do.2==0 then o.q5 else false) ?_ ?_<;>intro hc;(·(have eZ:Do.2=0/\o.q5=true:=by cases h:Do.2==0 with|true=>rw[h]at hc;exact⟨by simpa using h,hc⟩|false=>rw[h]at hc;cases hc);rw[atH eZ]at xy;have Z:=Cp eZ.2;have amg:=alD (B:=B) aV o n bV bE ap Z.wQ Z.w;have YN:=λvs b4 dK=>YH (B:=B) aV rp (λ_=>rfl) (λ_=>[]) true (.row (.slice none 0 0) [] 12 234) (kR o ap n).aD (kR o ap n).bc vs b4 dK Do.1 atv Z.len (λp au=>⟨(Z.aD p au).1,λh=>(by cases h),(Z.aD p au).2⟩) Z.bc Z.sum (λi hi x F=>⟨Z.id i x F,λh=>(by cases h),atx,λy hy=>(by cases hy)⟩) (λi hi x F=>YI _);rw[<-xy]at YN;generalize kR o ap n=om at*;refine go ?_;refine .inr (af.zd rfl [.a7 26 [dE o n bV bE] 0 0] (qv [(4103,.mp 0 []),(4104,.mp 0 []),(4110,.mp 0 []),(4111,.mp 0 [])]) (λk o ag=>?_) amg ?_ ?_);simp only[aK]at ag;(cases h1:Nat.beq k 4103 with|true=>have:=aua h1;subst this;exact⟨rfl,by rw[h1]at ag;exact ag⟩|false =>rw[h1]at ag;(cases z:Nat.beq k 4104 with|true=>have:=aua z;subst this;exact⟨rfl,by rw[z]at ag;exact ag⟩|false=>rw[z]at ag;cases ag));exact jd;rintro d jZ ⟨P',asq,tq,gx,rfl,rfl⟩;refine⟨_,E,?_⟩;(conv=>whnf);refine go ?_;refine .inr (af.zd rfl [.box 4110 P' 0,u Do.1] (qv [(4110,.mp 0 []),(4111,.mp 0 []),(7100,.mp 0 [])]) (YL [(4110,.mp 0 []),(4111,.mp 0 []),(7100,.mp 0 [])] (gG _ _ _) (λq o I ag=>by(repeat (refine JZ I ?_));exact J0 I ag)) (YN gx tq P') ?_ ?_);exact jd;rintro d asr rfl;refine⟨_,E,?_⟩;(conv=>whnf);refine go ?_;exact gp (some P') [(4103,4103),(4104,4104),(4,4),(6,6)] trivial);(have eZ:¬(Do.2=0/\o.q5=true):=λh=>by rw[h.1,h.2]at hc;cases hc);rw[atG eZ]at xy;subst xy;refine go ?_;exact gp none [(4103,4103),(4104,4104),(4,4),(6,6)] trivial (z:=⟨cH,rfl,ba⟩));intro CT _;obtain⟨v2,amh⟩:=ame CT;refine Y.jx 6 (dt:=[.an (.pointer (some ⟨lO,0,none⟩)),.an (.pointer v2),u 0,u 0]) rfl ⟨E,amh,E,E,ai⟩ ?_;refine go ?_;have eJ:(o.gO.map pq).length=o.gO.length:=atL _;rw[eJ];obtain⟨l3,py⟩:∃l3,(zn.1+if 0<o.gO.length then(1:Int)else 0)=l3:=⟨_,rfl⟩;rw[py];refine nf (α:=Unit) (λ_=>True) [4,6,8] [4,6] (λ_=>[(7,u l3)]) (λ_=>[]) ?_ ?_;refine cb (t:=decide ((0:Int)<(o.gO.length:Nat))) ?_ ?_<;>intro hc;rw[atH (by have:=auc hc;omega)]at py;refine go ?_;exact gp () [(4,4),(6,6)] trivial;rw[atG (by have:=at0 hc;omega),Int.add_zero]at py;refine go ?_;exact gp () [(4,4),(6,6)] trivial;intro _ _;refine go ?_;refine⟨.bl [.agg [.an (.pointer (some ⟨lO,0,none⟩)),.an (.pointer v2),u zn.1,u l3],u zn.2],?_,_,v2,by rfl⟩;(conv=>whnf);apply cD;(conv=>whnf);exact ar
end Go.bS.cp
namespace Go.bS
open Go Go.RowKit
variable{P:Program}{B:World}{f:FuncId}{bp b:Nat}{aA ds:List D}{a6:D->bF->Prop}
theorem c8.freeze(s:Nat){x:D}{H:bF}(hs:H s=some (.box b aA))(F:x.cells=aA)(ef:aA.all D.one=true)(h:c8 P B f (.a7 aA.length [x] 0 0::ds) (λi=>_root_.cond (Nat.beq i s) none (H i)) a6):c8 P B f (.box bp b 0::ds) H a6:=by refine⟨h.1,λw C args Ft G qQ hH kZ=>?_⟩;obtain⟨vs,e,h1,z,aa⟩:=hH.b' s _ hs;have tK:Ft b:=hH.cJ s _ b hs rfl;have jw:n0 w C w (gy C b aA.length):=⟨atP _,λx _=>En C b _ atv x,λ_ _ _ _=>rfl⟩;have aZ:c7 Ft w C w (gy C b aA.length):=⟨jw,rfl,rfl,rfl,λy _ hy=>⟨rfl,rI _ _ (λe=>hy (e ▸ tK))⟩⟩;have qW:=z.ext jw;have dN:bf w (gy C b aA.length) (.Q .none aA.length [x]) (.slice (some ⟨b,0,none⟩) 1 1) := x2 (xs:=[x]) (vs:=vs) (j_:=(0,0)) (e:=e) h1 (λy hy=>by rw[auv.1 hy,F]) (atP _) aty (by rw[ht];simp) (λi d N=>by(have hr:aA[i]?=some d:=by simpa[b1,F]using N);obtain⟨aj,ao⟩:=lW (l:=vs) (i:=i) (by rw[<-z.1];exact e8 hr);exact⟨aj,ao,qW.2 i d aj hr ao,z.one ef aj (aub.2 ⟨i,ao⟩)⟩) trivial;(have aX:∀{j:Nat} {o:aI},_root_.cond (Nat.beq j s) none (H j)=some o->j≠s/\H j=some o:=λ{j o} ag=>by cases Z:Nat.beq j s with|true=>rw[Z]at ag;cases ag|false=>rw[Z]at ag;exact⟨(λe=>(by subst e;rw[au7]at Z;cases Z)),ag⟩);(have EW:mo Ft w (gy C b aA.length) (λi=>_root_.cond (Nat.beq i s) none (H i)):=by refine⟨λj o ag=>?_,λj eu o bI y av aC a_ ao cS=>hH.inj j eu o bI y av (aX aC).2 (aX a_).2 ao cS,λj o y ag ao=>hH.cJ j o y (aX ag).2 ao⟩;obtain⟨Z,t_⟩:=aX ag;exact(hH.b' j o t_).iE jw λy hy=>⟨rfl,rI _ _ (λe=>by subst e;exact hH.inj s j _ o y (Ne.symm Z) hs t_ rfl hy)⟩);(have ami:db w (gy C b aA.length) (.a7 aA.length [x] 0 0::ds) args:=by refine⟨by have:=kZ.1;simpa using this,λi d v aC a_=>?_⟩;cases i with|zero =>simp at aC;subst aC;have cC:=kZ.2 0 _ v rfl a_;(have eV:v=.pointer (some ⟨b,0,none⟩):=by cases cC;rfl);rw[eV];have:=bf.a7 aA.length [x] 0 0 b 0 1 dN;simpa using this|succ i=>exact(kZ.2 (i+1) d v (by simpa using aC) a_).ext jw);refine(h.2 w _ args Ft G qQ EW ami).mono ?_;rintro e w' ⟨v,d,aO,aM,ak,I,ae,amj,nB⟩;exact⟨v,d,aO,aM,ak,I,ae,aZ.trans amj (λ_ _ h=>h),nB⟩
end Go.bS
namespace Go.bS.cp
open Go Go.Proofs
variable{B:World}
structure amk (B:World) (o:f1) (n:ad) (ap:List (atE×ad)) (aN:List eH) (cj:List gr) (aG:bN->List c_):Prop where
 aml:∃zc,aS B 158 [aH n,.bool o.rock] (.bl [.Q .none 6 (aN.map gF),.Q .none 7 (cj.map fp),u zc])
 Kd:aN.length<=1000
 bH:cj.length<=1000
 Gt:∀d∈aN,0<=d.cB/\d.cB<(aN.length:Nat)
 Ke:∀e∈cj,0<=e.eN/\e.eN<(aN.length:Nat)
 Kf:∀d∈aN,d.id.length<=10000/\iw d.id
 amm:∀bV bE bL i,i<aN.length->∀x∈fa o ap aN cj i,A' B (.mp bL (bs (D.int .i64) (o0 aN aN.length))) (kt (.a7 26 [dE o n bV bE] 0 0) bL aN x.hA) (aG x)
 amn:∀i,i<aN.length->∀x∈fa o ap aN cj i,x.id.length<1000000/\iw x.id/\(aG x).length<1000000/\∀y∈aG x,y.qp.length<1000000/\y.data.length<1000000
 q5:o.q5=true->P8 o ap n
 dz:0<=(mV o ap aN cj aG).1/\(mV o ap aN cj aG).1<=500000000
 cc:0<=(lP o ap n aN cj aG).1/\(lP o ap n aN cj aG).1<=900000000
noncomputable def xI(o:f1)(n:ad)(ap:List (atE×ad))(aN:List eH)(cj:List gr)(aG:bN->List c_):Int×Int :=
 if q_ n o=0 then(if(lP o ap n aN cj aG).2=0 then((lP o ap n aN cj aG).1+(if 0<o.gO.length then 1 else 0)-1,0)else(0,(lP o ap n aN cj aG).2))else(0,q_ n o)
theorem YO(aV:dc B)(o:f1)(n:ad)(bz:aB n+n.name.length<10000000)(cs:atE->ad×Int)(bP:List atE)(uw:bP.length<1000000)(it:aS B 96 [aH n] (.Q .none 1 (aU bP)))(lb:∀p∈bP,aS B 17 [aH n,.O p] (.bl [aH (cs p).1,u (cs p).2]))(aN:List eH)(cj:List gr)(aG:bN->List c_)(hO:q_ n o=0->amk B o n (f3 cs n bP) aN cj aG): aS B 30 [aH n,r9 o] (.bl [u (xI o n (f3 cs n bP) aN cj aG).1,u (xI o n (f3 cs n bP) aN cj aG).2]):=by have amo:=agf (B:=B) aV n o bz;have amp:=aj6 (B:=B) cs n o bP uw it lb;have W:xI o n (f3 cs n bP) aN cj aG=if q_ n o=0 then(if(lP o (f3 cs n bP) n aN cj aG).2=0 then((lP o (f3 cs n bP) n aN cj aG).1+(if 0<o.gO.length then 1 else 0)-1,0)else(0,(lP o (f3 cs n bP) n aN cj aG).2))else(0,q_ n o):=rfl;generalize f3 cs n bP=ap at*;generalize q_ n o=YP at*;refine fn Tryz.func30 Tryz.ntmps30 λU=>?_;refine go ?_;intro cc;(conv=>whnf);refine cT ?_;intro eD;(conv=>whnf);refine go ?_;refine br amo ?_;refine cb (t:=!(YP==0)) ?_ ?_<;>intro hc;rw[atG (by simpa using hc)]at W;rw[W];refine go ?_;exact ar;(have Dp:YP=0:=by simpa using hc);rw[atH Dp]at W;have au:=hO Dp;obtain⟨zc,dd⟩:=au.aml;have YQ:=λbV bE=>amf (B:=B) aV o n bV bE ap aN cj zc dd au.Kd au.bH au.Gt au.Ke au.Kf aG (au.amm bV bE) au.amn au.q5 (by have:=au.dz;omega) (by have:=au.cc;omega);have g8:=au.cc;generalize lP o ap n aN cj aG=zn at*;obtain⟨l3,py⟩:∃l3,(zn.1+if 0<o.gO.length then(1:Int)else 0)=l3:=⟨_,rfl⟩;(have CK:0<=l3/\l3<=900000001:=by rw[<-py];split<;>omega);rw[py]at W YQ;refine go ?_;refine .inr (af.zd rfl [Xo,aH n,.bh,r9 o] (qv [(4102,.mp 0 []),(4103,.mp 0 []),(4104,.mp 0 [])]) (λk o ag=>by cases ag) amp ?_ ?_);exact jd;rintro d aM ⟨dY,bV,bE,rfl,rfl⟩;refine⟨_,E,?_⟩;(conv=>whnf);have amq:cV B 77 (.box 4102 dY 0::[u 1]) (aK (A5 dY bV bE o n ap)) _:=c8.freeze 4102 (x:=dE o n bV bE) (aA:=(dE o n bV bE).cells) rfl rfl rfl (by(have e:(λi=>_root_.cond (Nat.beq i 4102) none (aK (A5 dY bV bE o n ap) i))=aK [(4103,.mp bV (bs aH ap)),(4104,.mp bE (bs bg []))]:=by funext i;simp only[A5,aK];cases h1:Nat.beq i 4102 with|true=>have:=aua h1;subst this;rfl|false=>rfl);rw[e];exact YQ bV bE);refine go ?_;refine .inr (af.zd rfl [.box 4102 dY 0,u 1] (qv [(4102,.mp 0 []),(4103,.mp 0 []),(4104,.mp 0 [])]) (λk o ag=>?_) amq ?_ ?_);simp only[aK,A5]at ag;(cases h1:Nat.beq k 4102 with|true=>have:=aua h1;subst this;exact⟨rfl,by rw[h1]at ag;exact ag⟩|false =>rw[h1]at ag;(cases z:Nat.beq k 4103 with|true=>have:=aua z;subst this;exact⟨rfl,by rw[z]at ag;exact ag⟩|false =>rw[z]at ag;(cases aa:Nat.beq k 4104 with|true=>have:=aua aa;subst this;exact⟨rfl,by rw[aa]at ag;exact ag⟩|false=>rw[aa]at ag;cases ag)));exact jd;rintro d jZ ⟨jz,v2,rfl⟩;refine⟨_,E,?_⟩;(conv=>whnf);refine cT ?_;intro dJ;(conv=>whnf);refine go ?_;refine cb (t:=!(zn.2==0)) ?_ ?_<;>intro bw;rw[atG (by simpa using bw)]at W;rw[W];refine go ?_;exact ar;rw[atH (by simpa using bw)]at W;rw[W];refine go ?_;exact ar
structure nY (m:atE) (bb:Bool) (bA bX:atE):Prop where
 a:oy bA 8=true
 IM:(46:UInt8)∉bA
 k4:(46:UInt8)∉bX
 eq:(bX=[]/\m=bA)\/(bX≠[]/\bb=false/\oy bX 3=true/\m=bA++46::bX)
variable{bA bX:atE}{bb:Bool}
theorem nY.name{m:atE}(h:nY m bb bA bX):XJ m bb:=akf h.a h.IM h.k4 h.eq
theorem nY.file{m:atE}(h:nY m bb bA bX):nY m false bA bX:=⟨h.a,h.IM,h.k4,by
 rcases h.eq with h|⟨h1,z,aa,aC⟩
 ·exact .inl h
 exact .inr ⟨h1,rfl,aa,aC⟩⟩
theorem YR{s:atE}{m:Int}(h:oy s m=true):(s.length:Int)<=m:=by simp[oy]at h;exact h.2.1
theorem nY.len{m:atE}(h:nY m bb bA bX):m.length<=12:=by have:=YR h.a;rcases h.eq with⟨_,rfl⟩|⟨_,_,aa,rfl⟩;omega;have:=YR aa;simp;omega
variable{k:Nat}
theorem amr{s:atE}(hs:dT s=true)(bb:Bool)(X:k<100):∃bA bX,nY (ko 0 (fS 0 s bb).1 (fS 0 s bb).2 k) bb bA bX:=by obtain⟨l,e,h0,h1⟩:=ai4 (.inl rfl) hs bb X;obtain⟨a,b,h⟩:=h0 rfl;rw[e];(have YS:rc 46=false:=by decide);refine⟨cw a,cw b,XF (m:=8) h.br h.ga h.Ae aty,XG h.br YS,XG h.cb YS,?_⟩;have I:=h.eq;by_cases G:b=[];rw[atH G]at I;exact .inl ⟨by rw[G];rfl,by rw[I]⟩;rw[atG G]at I;refine .inr ⟨λe=>G (Jd.1 e),?_,XF (m:=3) h.cb ?_ h.eD aty,?_⟩;(cases bb with|false=>rfl|true=>exact absurd (h.bb rfl) G);(cases b with|nil=>exact absurd rfl G|cons x r=>simp);rw[I,AV,Wv,Og 46 aty aty];rfl
variable{ah:List ad}{i:Nat}
theorem YT(hx:ah.length<=64)(h:∀k∈ah,dT k.name=true)(hi:i<ah.length):∃bA bX,nY ((cd 0 ah)[i]'(by rw[ox];exact hi)) (ah[i].kind==0) bA bX:=by rw[aja hi];obtain⟨j,Z,e⟩:=akh (.inl rfl) (hl 0 (ah.take i)) ah[i] (by rw[tj,at4];omega);rw[e];exact amr (h _ (atK hi)) _ Z
theorem ams(i:Nat):[82,82,95,77,79,86]++Lib.decDigits (i+1)=jl (i+1):=by rw[jl,atG atv]
theorem YU:∀k,k<100->(Lib.decDigits k).length<=2:=by decide +kernel
theorem amt(aV:dc B)(J:List ad)(hx:J.length<=64)(cv:∀k∈J,dT k.name=true/\k.name.length<1000000000)(mM:gP J):aS B 228 [.Q .none 12 (J.map enc)] (.O (jl (lM (cd 0 J)))):=by obtain⟨jg,ki,k_⟩:=Po (el:=cd 0 J) (by rw[ox];exact hx);have fR:=ox 0 J;refine bB Tryz.func228 Tryz.ntmps228 λU=>?_;refine go ?_;refine br (((Ox aV (v:=0) aty).call J hx mM cv).1) ?_;refine .inr (af.makeMap λhz=>?_);refine go ?_;refine Y.ed (α:={i:Nat // i<=J.length}×List atE) (λx=>[(5,.an (.map (some hz))),(16,.Q .none 1 (aU (cd 0 J))),(17,u (aU (cd 0 J)).length),(18,u x.1.1)]) (λx=>[(15,.set hz ((cd 0 J).take x.1.1).reverse)]) (λx=>J.length-x.1.1) (⟨0,at7 _⟩,[]) [(15,15)] ⟨ar,rfl,ba⟩ ?_;rintro⟨⟨i,hi⟩,_⟩;dsimp only;refine go ?_;refine aJ (decide ((i:Int)<(aU (cd 0 J)).length)) rfl ?_ ?_<;>intro hc;refine fk ?_;(have aE:i<J.length:=by simpa[aU,fR]using hc);(have C7:i<(cd 0 J).length:=by omega);refine gK ?_;refine⟨λ_=>by simp[aU];omega,?_⟩;refine go ?_;refine⟨.O (cd 0 J)[i],λ_=>by simp[aU,C7],?_⟩;refine go ?_;refine .inr (af.Ep 15 (dA:=9) (d9:=4) rfl rfl rfl rfl rfl rfl ?_);refine go ?_;exact⟨(⟨i+1,aE⟩,[]),[(15,15)],by show _-(i+1)<_-i;omega,ar,rfl,rfl,atI (λV=>some (aI.set hz V)) (by rw[atN C7,List.reverse_append];rfl),ai⟩;refine go ?_;(have cg:i=J.length:=by simp[aU,fR]at hc;omega);have hE:(cd 0 J).take i=cd 0 J:=aue atv;rw[hE];refine go ?_;refine Y.ed (α:={i:Nat // i<=lM (cd 0 J)}) (λx=>[(5,.an (.map (some hz))),(8,.O (jl x.1)),(9,u ((x.1:Int)+1))]) (λx=>[(15,.set hz (cd 0 J).reverse)]) (λx=>lM (cd 0 J)-x.1) ⟨0,at7 _⟩ [(15,15)] ⟨ar,rfl,ba⟩ ?_;rintro⟨i,hi⟩;dsimp only;refine go ?_;refine .inr (af.L' 15 (dA:=9) (d9:=4) rfl rfl atD rfl rfl rfl ?_);refine go ?_;refine aJ _ rfl ?_ ?_<;>intro hc;refine fk ?_;(have hm:jl i∈cd 0 J:=by simpa using hc);(have aE:i<lM (cd 0 J):=by rcases at5 i (lM (cd 0 J))with h|h;exact h;(have:i=lM (cd 0 J):=by omega);subst this;exact absurd hm ki);have jv:=YU (i+1) atv;refine kc ?_;refine nc ?_;refine⟨[u ((i+1:Nat):Int)],_,λ_=>Od (i+1) atv,ar,?_⟩;(conv=>whnf);refine nb ?_;exact⟨⟨i+1,aE⟩,[(15,15)],by show _-(i+1)<_-i;omega,⟨E,aq.of_eq (atI D.O (ams i)),E,ai⟩,rfl,ba⟩;refine go ?_;(have hm:jl i∉cd 0 J:=by simpa using hc);(have:i=lM (cd 0 J):=by rcases at5 i (lM (cd 0 J))with h|h;exact absurd (k_ i h) hm;omega);subst this;exact E
theorem GL(i:Int)(s:Nat)(hi:-1<=i/\i<1000000)(hs:s<=1):aS B 227 [u i,.a7 1 [u (s:Int)] 0 0] (u (if i<=0 then i else i+s)):=by refine bB Tryz.func227 Tryz.ntmps227 λU=>?_;refine go ?_;refine aJ _ rfl ?_ ?_<;>intro hc;refine go ?_;(have h0:i<=0:=by simpa using hc);rw[atH h0];exact E;apply cl;apply b3;refine yb (u (s:Int)) ?_;refine go ?_;(have h0:¬i<=0:=by simpa using hc);rw[atG h0];exact E
theorem Qa(x:aQ):∀{ah:List ad} {cO:List atE} {i:Nat} (h:i<ah.length) (bq:i<cO.length) (c:e5),fq (ah.take (i+1)) (cO.take (i+1)) x c=fq (ah.take i) (cO.take i) x c++(if(bZ x ah[i] cO[i] (c.jJ (fq (ah.take i) (cO.take i) x c))).any then bZ x ah[i] cO[i] (c.jJ (fq (ah.take i) (cO.take i) x c))::fU ah[i] (bZ x ah[i] cO[i] (c.jJ (fq (ah.take i) (cO.take i) x c))) ((c.jJ (fq (ah.take i) (cO.take i) x c)).add (bZ x ah[i] cO[i] (c.jJ (fq (ah.take i) (cO.take i) x c))))else[])
 |k::r,m::cO,0,_,_,c=>by simp only[avr,av2,fq,e5.aki,av5,auK,au4]
 |k::r,m::cO,i+1,h,bq,c=>by(have hi:i<r.length:=by simpa using h);(have hm:i<cO.length:=by simpa using bq);simp only[avr,fq,au6];by_cases ha:(bZ x k m c).any=true;rw[atH ha,atH ha];have aY:=Qa x hi hm ((c.add (bZ x k m c)).jJ (fU k (bZ x k m c) (c.add (bZ x k m c))));(have e:c.jJ (bZ x k m c::(fU k (bZ x k m c) (c.add (bZ x k m c))++fq (r.take i) (cO.take i) x ((c.add (bZ x k m c)).jJ (fU k (bZ x k m c) (c.add (bZ x k m c))))))=((c.add (bZ x k m c)).jJ (fU k (bZ x k m c) (c.add (bZ x k m c)))).jJ (fq (r.take i) (cO.take i) x ((c.add (bZ x k m c)).jJ (fU k (bZ x k m c) (c.add (bZ x k m c))))):=by rw[e5.XL,e5.akj]);rw[e,aY,auO,auj];rw[atG ha,atG ha];exact Qa x hi hm c
mutual
theorem Qb:∀(n:ad) (x:aQ) (c:e5),(fU n x c).length+1<=fI n
 |.mk _ _ _ _ _ _ _ _ _ _ ah _,x,c=>by
  have:=Kg ah (cd 0 ah) x c;simp only[fU,fI];omega
theorem Kg:∀(ah:List ad) (cO:List atE) (x:aQ) (c:e5),(fq ah cO x c).length<=eW ah
 |[],_,_,_=>by simp[fq]
 |k::r,[],_,_=>by simp[fq]
 |k::r,m::cO,x,c=>by
  simp only[fq,eW];split
  ·have h1:=Qb k (bZ x k m c) (c.add (bZ x k m c));have z:=Kg r cO x ((c.add (bZ x k m c)).jJ (fU k (bZ x k m c) (c.add (bZ x k m c))));simp only[atQ,atO];omega
  have:=Kg r cO x c;omega
end
theorem YV:∀{ah:List ad} {i:Nat} (h:i<ah.length),eW (ah.take i)+fI ah[i]<=eW ah
 |k::r,0,_=>by simp[eW]
 |k::r,i+1,h=>by have:=YV (ah:=r) (i:=i) (by simpa using h);simp only[avr,eW,au6];omega
mutual
def rr:ad->Prop
 |.mk _ x3 _ _ _ _ _ _ _ _ ah _=>(x3≠0->ah=[])/\ts ah
def ts:List ad->Prop
 |[]=>True
 |k::r=>rr k/\ts r
end
theorem Kh(n:ad):rr n↔(n.kind≠0->n.J=[])/\ts n.J:=by cases n;simp only[rr]
theorem Qc:∀{l:List ad} (_:ts l) {k:ad} (_:k∈l),rr k
 |x::r,h,k,X=>by simp only[ts]at h;rcases at6.1 X with rfl|X;exact h.1;exact Qc h.2 X
structure GM (l:List aQ) (s:aQ) (p:aQ):Prop where
 si:s.si=l.length
 ab:s.ab<l.length
 dm:l[s.ab]?=some p
 bb:p.df=true
 fi:s.fi=p.di
 any:s.any=true
 iso:s.iso=true->p.iso=true
 rock:s.rock=true->p.rock=true
 lv:s.lv=p.lv+1
 path:s.path=below p.path s.n.name (p.lv+1)
 Qd:s.n∈p.n.J
 lev:s.lev=if s.df then(if p.lev+1=9 then 3 else p.lev+1)else 0
 mv:s.mv=(s.df&&p.lev+1==9)
 di:s.di=(bM l).length
 mno:s.mno=(ee l).length+1
inductive fw (bm:Bool) (n:ad):List aQ->Prop
 |zo (h0:n.kind=0):fw bm n [cR bm n]
 |wk {l:List aQ} {s p:aQ} (h:fw bm n l) (hs:GM l s p):fw bm n (l++[s])
variable{α:Type}
theorem YW(f:α->Bool)(l:List α)(s:α):((l++[s]).filter f).length=if f s then(l.filter f).length+1 else(l.filter f).length:=by rw[au5,atO];cases h:f s<;>simp[h]
def tt(c:e5)(l:List aQ):Prop:=c.dv=l.length/\c.uP=(bM l).length/\c.aW=(ee l).length
theorem tt.add{c:e5}{l:List aQ}(h:tt c l)(s:aQ):tt (c.add s) (l++[s]):=by obtain⟨h1,z,aa⟩:=h;refine⟨by simp[e5.add,h1],?_,?_⟩;simp only[e5.add,bM,YW];split<;>simp[z,bM];simp only[e5.add,ee,YW];split<;>simp[aa,ee]
theorem tt.jJ:∀{m:List aQ} {c:e5} {l:List aQ} (h:tt c l),tt (c.jJ m) (l++m)
 |[],c,l,h=>by rw[auK];exact h
 |s::r,c,l,h=>by have:=(h.add s).jJ (m:=r);rw[auj,aw8]at this;exact this
variable{l:List aQ}
theorem Qe{x:aQ}{k:ad}{m:atE}{c:e5}(F:l[x.si]?=some x)(N:x.df=true)(hc:tt c l)(X:k∈x.n.J)(ha:(bZ x k m c).any=true):GM l (bZ x k m c) x:=by obtain⟨h1,z,aa⟩:=hc;(have bi:x.si<l.length:=by rcases at5 x.si l.length with h|h;exact h;rw[atT h]at F;cases F);refine⟨h1,bi,F,N,rfl,ha,λh=>?_,λh=>?_,rfl,rfl,X,rfl,rfl,z,by show c.aW+1=_;rw[aa]⟩;simp only[bZ,atM]at h;exact h.1;simp only[bZ,atM]at h;exact h.1
mutual
theorem Qf(bm:Bool)(gC:ad):∀(n:ad) (x:aQ) (c:e5) (l:List aQ),fw bm gC l->x.n=n->rr n->l[x.si]?=some x->tt c l->fw bm gC (l++fU n x c)
 |.mk aW x3 t tg ga a2 a3 a4 a5 Ad ah cE,x,c,l,G,zp,cv,F,hc=>by
  simp only[fU];have GN:=(Kh _).1 cv;by_cases N:x3=0
  ·refine Ki bm gC ah (cd 0 ah) x c l G (by rw[aQ.df,zp,N];rfl) (λk X=>?_) GN.2 F hc;rw[zp];exact X
  have:ah=[]:=GN.1 N;subst this;simpa[fq]using G
theorem Ki(bm:Bool)(gC:ad):∀(ah:List ad) (cO:List atE) (x:aQ) (c:e5) (l:List aQ),fw bm gC l->x.df=true->(∀k∈ah,k∈x.n.J)->ts ah->l[x.si]?=some x->tt c l->fw bm gC (l++fq ah cO x c)
 |[],_,x,c,l,G,_,_,_,_,_=>by simpa[fq]using G
 |k::r,[],x,c,l,G,_,_,_,_,_=>by simpa[fq]using G
 |k::r,m::cO,x,c,l,G,N,b5,cv,F,hc=>by
  simp only[ts]at cv;simp only[fq];split
  ·rename_i ha;have aZ:=Qe (m:=m) F N hc (b5 k atS) ha;have m6:=G.wk aZ;have eZ:=hc.add (bZ x k m c)
   have y_:(l++[bZ x k m c])[(bZ x k m c).si]?=some (bZ x k m c):=by
    rw[aZ.si];simp
   have g8:=Qf bm gC k (bZ x k m c) (c.add (bZ x k m c)) (l++[bZ x k m c]) m6 rfl cv.1 y_ eZ;have bw:=eZ.jJ (m:=fU k (bZ x k m c) (c.add (bZ x k m c)))
   have bi:x.si<l.length:=by
    rcases at5 x.si l.length with h|h
    ·exact h
    rw[atT h]at F;cases F
   have A1:(l++[bZ x k m c]++fU k (bZ x k m c) (c.add (bZ x k m c)))[x.si]?=some x:=by
    rw[auj,atZ bi];exact F
   have Cr:=Ki bm gC r cO x _ _ g8 N (λbC fA=>b5 bC (atU _ fA)) cv.2 A1 bw;simpa using Cr
  exact Ki bm gC r cO x c l G N (λbC fA=>b5 bC (atU _ fA)) cv.2 F hc
end
theorem YX(bm:Bool){n:ad}(cv:rr n)(h0:n.kind=0):fw bm n (Gr bm n):=by have:=Qf bm n n (cR bm n) ⟨1,1,0⟩ [cR bm n] (.zo h0) rfl cv rfl (by refine⟨rfl,?_,?_⟩;simp[bM,aQ.df,cR,h0];simp[ee,cR]);exact this
theorem fw.tu{bm:Bool}{n:ad}(h:fw bm n l):l[0]?=some (cR bm n)/\0<l.length:=by induction h with|zo h0=>exact⟨rfl,by simp⟩|wk h hs aY=>exact⟨by rw[atZ aY.2];exact aY.1,by simp⟩
theorem fw.kind{bm:Bool}{n:ad}{l:List aQ}(h:fw bm n l):n.kind=0:=by induction h with|zo h0=>exact h0|wk h hs aY=>exact aY
theorem fw.at{bm:Bool}{n:ad}{l:List aQ}(h:fw bm n l):∀{i:Nat} {s:aQ},0<i->l[i]?=some s->∃p,GM (l.take i) s p:=by induction h with|zo h0=>intro i s hi hs;rw[atT atw]at hs;cases hs|@wk l s p h aZ aY =>intro i t hi ax;rcases at5 i l.length with al|al;rw[atZ al]at ax;rw[avm atv];exact aY hi ax;rcases at5 l.length i with aT|aT;rw[atT atw]at ax;cases ax;(have:i=l.length:=by omega);subst this;rw[avP]at ax;cases ax;rw[avm (atP _),atW];exact⟨p,aZ⟩
theorem fw.si{bm:Bool}{n:ad}{l:List aQ}(h:fw bm n l){i:Nat}{s:aQ}(hs:l[i]?=some s):s.si=i:=by rcases auD i with rfl|hi;rw[h.tu.1]at hs;cases hs;rfl;obtain⟨p,aZ⟩:=h.at hi hs;(have bi:i<l.length:=by rcases at5 i l.length with h|h;exact h;rw[atT h]at hs;cases hs);rw[aZ.si,at4];omega
theorem fw.lev{bm:Bool}{n:ad}{l:List aQ}(G:fw bm n l):∀(i:Nat) (s:aQ),l[i]?=some s->0<=s.lev/\s.lev<=8/\(s.df=true->1<=s.lev)/\(s.df=false->s.lev=0/\s.mv=false):=by intro i;induction i using Nat.strongRecOn with|_ i aY =>intro s hs;rcases auD i with rfl|hi;rw[G.tu.1]at hs;cases hs;have X:=G.kind;refine⟨by show(0:Int)<=1;decide,by show(1:Int)<=8;decide,λ_=>by show(1:Int)<=1;decide,λh=>?_⟩;rw[aQ.df,cR,X]at h;cases h;obtain⟨p,aZ⟩:=G.at hi hs;have bi:=aZ.ab;rw[at4]at bi;(have au:l[s.ab]?=some p:=ayt);obtain⟨h1,z,aa,aC⟩:=aY s.ab atv p au;have al:=aZ.lev;have hm:=aZ.mv;have a_:=aa aZ.bb;(cases N:s.df with|true =>rw[N,atH rfl]at al;split at al<;>exact⟨by omega,by omega,λ_=>by omega,λh=>(by cases h)⟩|false =>rw[N]at al hm;rw[atG aty]at al;exact⟨by omega,by omega,λh=>(by cases h),λ_=>⟨al,by rw[hm];rfl⟩⟩)
section
variable{f:α->D}{V:D}{L:List α}
end
variable{t:Nat}
theorem YY{T:List α}{s:α}(h:T[t]?=some s):T.take (t+1)=T.take t++[s]:=by obtain⟨al,rfl⟩:=aui.1 h;exact atN al
def iB(sh:Nat)(bu:atE)(k:Nat):List gr:=if k=0/\sh≠0 then[⟨[47],bu,0,1,true,false,false⟩]else[]
theorem fw.Bh{bm:Bool}{n:ad}(h:fw bm n l):∀(j:Nat) (s:aQ),(bM l)[j]?=some s->s.di=j:=by induction h with|zo h0 =>intro j s hs;(have e:bM [cR bm n]=[cR bm n]:=by simp[bM,aQ.df,cR,h0]);rw[e]at hs;(cases j with|zero=>cases hs;rfl|succ j=>cases hs)|@wk l t p h aZ aY =>intro j s hs;(cases N:t.df with|false =>(have e:bM (l++[t])=bM l:=by rw[bM,au5];simp[bM,N]);rw[e]at hs;exact aY j s hs|true =>(have e:bM (l++[t])=bM l++[t]:=by rw[bM,au5];simp[bM,N]);rw[e]at hs;rcases at5 j (bM l).length with Z|Z;rw[atZ Z]at hs;exact aY j s hs;rcases at5 (bM l).length j with aT|aT;rw[atT atw]at hs;cases hs;(have:j=(bM l).length:=by omega);subst this;rw[avP]at hs;cases hs;exact aZ.di)
theorem amu(T:List aQ):∀m:Nat,(((List.range m).map λi=>(T.filter λx=>x.fi==i).length).sum)<=T.length:=by
 induction T with
 |nil=>intro m;induction m with
  |zero=>simp
  |succ m aY=>rw[ave,auo,List.sum_append];simpa using aY
 |cons s r aY =>
  intro m
  have key:∀m,((List.range m).map λi=>((s::r).filter λx=>x.fi==i).length).sum<=((List.range m).map λi=>(r.filter λx=>x.fi==i).length).sum+(if s.fi<m then 1 else 0):=by
   intro m
   induction m with
   |zero=>simp
   |succ m Qg =>
    rw[ave,auo,auo,List.sum_append,List.sum_append];simp only[aum,avp,aw0,List.sum_nil,av_];rw[auP];by_cases h:s.fi=m
    ·subst h;rw[atG (aw1 _)]at Qg;rw[atH atx,atH atv,atQ];omega
    rw[atG (by simpa using h)];by_cases z:s.fi<m
    ·rw[atH z]at Qg;rw[atH atv];omega
    rw[atG z]at Qg;rw[atG atv];omega
  have h1:=key m;have z:=aY m;rw[atQ];split at h1<;>omega
theorem YZ(s:Nat)(T:List aQ)(i:Nat):(mR s T i).length=(T.filter λx=>x.fi==i).length:=by rw[mR,atL]
theorem amv(bu:atE){T:List aQ}(k3:∀x∈T,x.fi<=(bM T).length):(tp bu T).length<=2*T.length+1:=by rw[tp];simp only[atO,atL,List.length_flatMap,YZ];have h1:=amu T (1+(bM T).length);(have z:(List.range (1+(bM T).length)).map (λi=>(T.filter λx=>x.fi==i).length)=(T.filter λx=>x.fi==0).length::(List.range (bM T).length).map (λi=>(T.filter λx=>x.fi==i+1).length):=by rw[awy,List.range_succ_eq_map,aum,avX];rfl);rw[z,aw0]at h1;have aa:(ee T).length<=T.length:=aun _ _;(have aC:(if eI T=0 then([]:List gr)else[⟨[47],bu,0,1,true,false,false⟩]).length<=1:=by split<;>simp);omega
theorem amw(f:α->Bool)(l:List α)(t:Nat):((l.take t).filter f).length<=(l.filter f).length:=((List.take_sublist t l).filter f).length_le
mutual
theorem Y0:∀(n:ad) (l:Int),iO n l=true->rr n
 |.mk a b c d e f g h i j ah cE,l,aT=>by
  obtain⟨h1,z⟩:=AT aT;simp only[rr];exact⟨h1.bb,Y1 ah (l+1) z⟩
theorem Y1:∀(ah:List ad) (l:Int),nn ah l=true->ts ah
 |[],l,aT=>trivial
 |k::r,l,aT=>by
  simp only[nn,atM]at aT;simp only[ts];exact⟨Y0 k l aT.1,Y1 r l aT.2⟩
end
theorem Qh{n:ad}(h:valid n=true):rr n/\n.kind=0:=by rw[xi,atM]at h;exact⟨Y0 n 1 h.2,(AT (l:=1) (by cases n;exact h.2)).1.FY rfl⟩
def rs(s:aQ):List D:=[.O s.path,.O (if s.si=0 then[0]else if s.mv then 68::Lib.decDigits s.mno else s.id),u s.lev,u (if s.mv then -1 else(s.fi:Int)),u (s.fi:Int),.bool s.mv]
def tv(s:aQ):List D:=[.O s.path,.O (if s.mv then s.file else s.id),u 0,u (-1),.bool (!s.iso),.bool s.rock,.bool s.mv,u (if s.df then(s.di:Int)else -1)]
def pK(s:aQ):D:=.agg (tv s)
def Dq(l:List aQ)(i:Nat):List aQ:=(l.drop 1).filter λx=>x.fi==i
def hZ(l:List aQ)(i:Nat):List D:=(Dq l i).map pK
def Dr(vs:Nat->Value)(e6:List aQ)(i:Nat)(s:aQ):D:=.agg (rs s++[.Q (.own 0 (vs i)) 8 (hZ e6 i)])
def ho(vs:Nat->Value)(eU e6:List aQ):List D:=(bM eU).mapIdx λi s=>Dr vs e6 i s
def e7(l:List aQ):List D:=(ee l).map λs=>u (s.di:Int)
def kS(vs:Nat->Value)(eU e6:List aQ):bF:=λk=>if 300<=k/\k<300+(bM eU).length then some (.own (vs (k-300)) (hZ e6 (k-300)).length 8 310)else none
def xJ(fD bL fE:Nat):D:=.fn (.func 224) [] [.box 200 fD 0,.box 201 bL 0,.box 202 fE 0]
def Qi(fD bL fE:Nat)(b4 mv:Value)(bW cO:List D):List (Nat×aI) :=
 [(200,.box fD [.an b4]),(201,.box bL [.Q (.own 204 mv) 1 cO]),(202,.box fE [xJ fD bL fE]),(203,.row b4 bW 7 305),(204,.own mv cO.length 1 3)]
def uU(fD bL fE:Nat)(b4 mv:Value)(vs:Nat->Value)(eU e6:List aQ):bF:=cQ (Qi fD bL fE b4 mv (ho vs eU e6) (e7 eU)) (kS vs eU e6)
theorem lQ(vs:Nat->Value)(eU e6:List aQ):(ho vs eU e6).length=(bM eU).length:=by simp[ho]
variable{eU e6:List aQ}
theorem GO{vs:Nat->Value}{s:aQ}(h:(bM eU)[i]?=some s):(ho vs eU e6)[i]?=some (Dr vs e6 i s):=by rw[ho,auF,h];rfl
theorem Qj{vs:Nat->Value}(h:i<(bM eU).length):kS vs eU e6 (i+300)=some (.own (vs i) (hZ e6 i).length 8 310):=by rw[kS,atH atv,Nat.add_sub_cancel]
theorem tw{vs:Nat->Value}{o:aI}(h:kS vs eU e6 k=some o):∃i,k=i+300/\i<(bM eU).length/\o=.own (vs i) (hZ e6 i).length 8 310:=by unfold kS at h;split at h;rename_i h1;refine⟨k-300,by omega,by omega,?_⟩;exact(auA h).symm;cases h
variable{fD bL fE:Nat}{b4 mv:Value}
theorem amx{bW cO:List D}(h:k<200\/300<=k):aK (Qi fD bL fE b4 mv bW cO) k=none:=by refine H2 λp au=>?_;simp only[Qi,at6,awf,awB]at au;rcases au with rfl|rfl|rfl|rfl|rfl<;>simp<;>omega
theorem Y2{vs:Nat->Value}(h:k<200):uU fD bL fE b4 mv vs eU e6 k=none:=by rw[uU,ST (amx (.inl h)),kS,atG atv]
def sx(vs:Nat->Value)(i:Nat)(v:Value):Nat->Value:=λj=>if j=i then v else vs j
theorem Kj(vs:Nat->Value)(i:Nat)(v:Value):sx vs i v i=v:=atH rfl
variable{j:Nat}{v:Value}
theorem Kk{vs:Nat->Value}(h:j≠i):sx vs i v j=vs j:=atG h
theorem Ds{s:aQ}(h:s.df=true):bM (l++[s])=bM l++[s]:=by rw[bM,au5];simp[bM,h]
theorem Kl{s:aQ}(h:s.df=false):bM (l++[s])=bM l:=by rw[bM,au5];simp[bM,h]
theorem Y3{s:aQ}(h:s.mv=true):ee (l++[s])=ee l++[s]:=by rw[ee,au5];simp[ee,h]
theorem Qk{s:aQ}(h:s.mv=false):ee (l++[s])=ee l:=by rw[ee,au5];simp[ee,h]
theorem amy(h:∀x∈l,x.fi<i):hZ l i=[]:=by rw[hZ,Dq,awV.2];rfl;intro x F;have:=h x (avV F);simp;omega
theorem Km{s:aQ}(h0:0<l.length)(i:Nat):hZ (l++[s]) i=if s.fi=i then hZ l i++[pK s]else hZ l i:=by rw[hZ,hZ,Dq,Dq,av0 atv,au5];by_cases h:s.fi=i<;>simp[h]
theorem amz{vs:Nat->Value}{s:aQ}(h:s.df=true)(ae:hZ e6 (bM l).length=[]): ho vs l e6++[.agg (rs s++[.Q (.own 0 v) 8 []])]=ho (sx vs (bM l).length v) (l++[s]) e6:=by apply au2;intro i;rcases at5 i (bM l).length with hi|hi;rw[atZ (by rw[lQ];exact hi),ho,ho,auF,auF,Ds h,atZ hi,atJ hi];simp only[au8,Dr,Kk (show i≠(bM l).length by omega)];rcases at5 (bM l).length i with aT|aT;rw[atT (by simp[lQ];omega),atT (by rw[lQ,Ds h];simp;omega)];(have:i=(bM l).length:=by omega);subst this;have e:(ho vs l e6).length=(bM l).length:=lQ _ _ _;rw[aul atv,e,aww,GO (s:=s) (by rw[Ds h,avP])];simp only[List.getElem?_cons_zero,Dr,Kj,ae]
theorem Y4(a b:List D):b1 (a++b)=b1 a++b1 b:=by simp[b1]
theorem Ql{vs:Nat->Value}:∀y∈ho vs eU e6,y.cells.length=7:=λy hy=>by
 obtain⟨i,hi⟩:=aub.1 hy;rw[ho,auF]at hi
 cases h:(bM eU)[i]? with
 |none=>rw[h]at hi;cases hi
 |some s=>rw[h]at hi;cases hi;rfl
theorem fw.Bi{bm:Bool}{n:ad}(G:fw bm n l){s:aQ}(hs:l[s.si]?=some s)(N:s.df=true):(bM l)[s.di]?=some s/\s.di<(bM l).length:=by obtain⟨j,Z⟩:=aub.1 (auz.2 ⟨at2 hs,N⟩:s∈bM l);have:=G.Bh j s Z;subst this;refine⟨Z,?_⟩;rcases at5 s.di (bM l).length with h|h;exact h;exact absurd ((atT h).symm.trans Z) atx
theorem fw.lv{bm:Bool}{n:ad}{l:List aQ}(G:fw bm n l):∀(i:Nat) (s:aQ),l[i]?=some s->1<=s.lv/\(i=0->s.lv=1)/\(0<i->2<=s.lv)/\(0<i->s.df=true->0<s.di):=by intro i;induction i using Nat.strongRecOn with|_ i aY =>intro s hs;rcases auD i with rfl|hi;rw[G.tu.1]at hs;cases hs;exact⟨auu _,λ_=>rfl,λh=>by omega,λh=>by omega⟩;obtain⟨p,aZ⟩:=G.at hi hs;have bi:=aZ.ab;rw[at4]at bi;(have au:l[s.ab]?=some p:=ayt);obtain⟨h1,_,_,_⟩:=aY s.ab atv p au;have al:=aZ.lv;refine⟨by omega,λh=>by omega,λ_=>by omega,λ_ N=>?_⟩;rw[aZ.di];have h0:=G.tu.1;have X:=G.kind;(have:cR bm n∈l.take i:=by have:=at2 (l:=l.take i) (i:=0) (a:=cR bm n) (by rw[auB,atH hi];exact h0);exact this);exact awr (auz.2 ⟨this,by rw[aQ.df,cR,X];rfl⟩)
theorem fw.Kn{bm:Bool}{n:ad}(G:fw bm n l):∀x∈l,x.fi<(bM l).length:=λx F=>by
 obtain⟨i,hi⟩:=aub.1 F;rcases auD i with rfl|h0
 ·rw[G.tu.1]at hi;cases hi
  have:=G.kind;exact awr (auz.2 ⟨at2 G.tu.1,by rw[aQ.df,cR,this];rfl⟩)
 obtain⟨p,aZ⟩:=G.at h0 hi;have bi:=aZ.ab;rw[at4]at bi
 have au:l[x.ab]?=some p:=by
  have:=aZ.dm
  rwa [auB,atH atv]at this
 rw[aZ.fi];have uw:=G.si au;exact(G.Bi (by rw[uw];exact au) aZ.bb).2
variable{d:D}{xs:List D}
theorem Y5{b:Bool}(h:k<xs.length):(k:Int)<((bif b then xs.set i d else xs).length:Int):=by cases b<;>simp only[avo,auV,avc]<;>exact av9.2 h
theorem Y6{b:Bool}(h:k<xs.length):k<(bif b then xs.set i d else xs).length:=by cases b<;>simp only[avo,auV,avc]<;>exact h
variable{ct:bF}
theorem zh{L:List (Nat×aI)}(aV:(L.all λp=>Nat.blt p.1 300)=true)(X:300<=k):cQ L ct k=ct k :=
 ST (H2 λp au=>by
  have:=auC.1 aV p au;have:p.1<300:=by simpa using this
  omega)
def Dt(d:Nat)(ct:bF):bF:=λk=>if k=d+300 then none else ct k
theorem Qm{d:Nat}{vs:Nat->Value}{o:aI}(h:Dt d (kS vs eU e6) k=some o):k≠d+300/\300<=k/\kS vs eU e6 k=some o:=by unfold Dt at h;split at h;cases h;rename_i h1;obtain⟨i,rfl,_,_⟩:=tw h;exact⟨h1,by omega,h⟩
theorem amA{vs:Nat->Value}{o:aI}(h:kS vs eU e6 k=some o):300<=k:=by obtain⟨i,rfl,_,_⟩:=tw h;omega
theorem amB{vs:Nat->Value}{s x:aQ}(ru:(bM (l++[s]))[x.di]?=some x)(tx:s.fi=x.di)(sg:0<l.length):
  ∀(i:Nat) (a b:D),((ho vs (l++[s]) l).set x.di (.agg (iF (rs x++[.Q (.own 0 (vs x.di)) 8 (hZ l x.di)]) 6 (.Q (.own 148 v) 8 (hZ l x.di++[pK s])))))[i]?=some a->
   (ho (sx vs x.di v) (l++[s]) (l++[s]))[i]?=some b->dL a.cells b.cells:=λi a b ha G=>by
 have bi:x.di<(bM (l++[s])).length:=by
  rcases at5 x.di (bM (l++[s])).length with h|h
  ·exact h
  rw[atT h]at ru;cases ru
 by_cases hi:x.di=i
 ·subst hi;rw[av4 (by rw[lQ];exact bi)]at ha;rw[GO ru]at G;cases ha;cases G
  simp only[Dr,Kj,Km sg,atH tx];exact⟨E,E,E,E,E,E,aq.own _ _,ai⟩
 rw[axb hi]at ha;rw[ho,auF]at ha G
 cases h:(bM (l++[s]))[i]? with
 |none=>rw[h]at ha;cases ha
 |some y =>
  rw[h]at ha G;cases ha;cases G
  simp only[Dr,Kk (show i≠x.di from λe=>hi e.symm),Km sg,atG (show¬s.fi=i by omega)];exact dL.refl _
theorem amC{H:bF}{d:Nat}(Y7:H 148=none):∀k bC o bI,H k=some o->H bC=some bI->(if k=d+300 then 148 else k)=(if bC=d+300 then 148 else bC)->k=bC:=λk bC o bI h bq e=>by
 by_cases h1:k=d+300<;>by_cases z:bC=d+300
 ·omega
 ·rw[atH h1,atG z]at e;rw[<-e,Y7]at bq;cases bq
 ·rw[atG h1,atH z]at e;rw[e,Y7]at h;cases h
 rw[atG h1,atG z]at e;exact e
variable{A:aw}
theorem amD{L:List (Nat×aI)}{vs:Nat->Value}{s x:aQ}(aV:(L.all λp=>Nat.blt p.1 300)=true)(gc:m2 A L)(W:A.H 148=some (.own v ((hZ l x.di).length+1) 8 310))
  (N:∀k o,Dt x.di (kS vs (l++[s]) l) k=some o->A.H k=some o) (tx:s.fi=x.di) (sg:0<l.length) :
  ∀k o,cQ L (kS (sx vs x.di v) (l++[s]) (l++[s])) k=some o->A.H (if k=x.di+300 then 148 else k)=some o:=λk o h=>by
 unfold cQ at h
 cases al:aK L k with
 |some bI =>
  rw[al]at h;cases h
  have X:k<300:=by
   rcases at5 k 300 with h1|h1
   ·exact h1
   have:aK L k=none:=H2 λp au=>by
    have:=auC.1 aV p au;have:p.1<300:=by simpa using this
    omega
   rw[this]at al;cases al
  rw[atG atv];exact gc.aK k _ al
 |none =>
  rw[al]at h;obtain⟨i,rfl,hi,rfl⟩:=tw h;by_cases Du:i=x.di
  ·subst Du;rw[atH rfl,W,Kj,Km sg,atH tx];simp
  rw[atG atv];refine N _ _ ?_;rw[Dt,atG atv,Qj hi,Kk Du,Km sg,atG atv]
def Bj:ph:=ph.same λk=>Nat.ble 200 k
theorem amE{H:bF}{vs:Nat->Value}(h:∀k,200<=k->H k=uU fD bL fE b4 mv vs eU e6 k):yd H Bj=uU fD bL fE b4 mv vs eU e6:=by funext k;unfold yd Bj ph.same;cases X:Nat.ble 200 k with|true=>simp only[X,avo];exact h k (auk X)|false =>simp only[X,auV];(have:k<200:=by rcases at5 k 200 with h1|h1;exact h1;rw[aw9 h1]at X;cases X);exact(Y2 this).symm
variable{aM:bF}
theorem amF{H:bF}(X:200<=k):B1 H aM Bj k=aM k:=by unfold B1 Bj ph.same;simp only[aw9 X,avo]
theorem Ko{vs:Nat->Value}{o:aI}(h:uU fD bL fE b4 mv vs eU e6 k=some o):200<=k:=by rcases at5 k 200 with h1|h1;rw[Y2 h1]at h;cases h;exact h1
theorem Y8{a b:Nat×aI}{L:List (Nat×aI)}(ha:a.1<200)(G:b.1<200)(X:200<=k):cQ (a::b::L) ct k=cQ L ct k:=by obtain⟨i,o⟩:=a;obtain⟨j,bI⟩:=b;(have h1:Nat.beq k i=false:=axU);(have z:Nat.beq k j=false:=by cases h:Nat.beq k j with|false=>rfl|true=>have:=avJ h;simp at G;omega);unfold cQ;simp only[aK,h1,z,auV]
theorem amG{s:aQ}(N:s.df=false)(hm:s.mv=false):tv s=[.O s.path,.O s.id,u 0,u (-1),.bool (!s.iso),.bool s.rock,.bool false,u (-1)]:=by rw[tv,N,hm];rfl
theorem amH{s:aQ}(N:s.df=true)(hm:s.mv=false):tv s=[.O s.path,.O s.id,u 0,u (-1),.bool (!s.iso),.bool s.rock,.bool false,u (s.di:Int)]:=by rw[tv,N,hm];rfl
theorem amI{s:aQ}(N:s.df=true)(hm:s.mv=true):tv s=[.O s.path,.O s.file,u 0,u (-1),.bool (!s.iso),.bool s.rock,.bool true,u (s.di:Int)]:=by rw[tv,N,hm];rfl
theorem amJ{s:aQ}(hs:s.si≠0)(hm:s.mv=false):rs s=[.O s.path,.O s.id,u s.lev,u (s.fi:Int),u (s.fi:Int),.bool false]:=by rw[rs,atG hs,hm];rfl
theorem amK{s:aQ}(hs:s.si≠0)(hm:s.mv=true):rs s=[.O s.path,.O (68::Lib.decDigits s.mno),u s.lev,u (-1),u (s.fi:Int),.bool true]:=by rw[rs,atG hs,hm];rfl
theorem amL{vs:Nat->Value}{s:aQ}(h:s.df=false):ho vs (l++[s]) e6=ho vs l e6:=by rw[ho,ho,Kl h]
theorem amM{vs:Nat->Value}{s:aQ}(h:s.df=false):kS vs (l++[s]) e6=kS vs l e6:=by funext k;rw[kS,kS,Kl h]
theorem amN{vs:Nat->Value}{s:aQ}(h:s.df=true){o:aI}(X:kS (sx vs (bM l).length v) (l++[s]) e6 k=some o): (k=(bM l).length+300/\o=.own v (hZ e6 (bM l).length).length 8 310)\/(k≠(bM l).length+300/\kS vs l e6 k=some o):=by obtain⟨i,rfl,hi,rfl⟩:=tw X;rw[Ds h,atO]at hi;by_cases e:i=(bM l).length;subst e;rw[Kj];exact .inl ⟨rfl,rfl⟩;rw[Kk e,Qj (by simp at hi;omega)];exact .inr ⟨by omega,rfl⟩
theorem Dv:∀{m:List (Nat×Nat)} {k s:Nat},ka m=true->(k,s)∈m->m.lookup k=some s
 |(a,b)::r,k,s,hm,h=>by rcases at6.1 h with e|bq;cases e;simp[List.lookup];have h1:=wM hm a b k s atS h;(have ae:ka r=true:=by simp only[ka,atM]at hm;exact hm.2);(have aX:(k==a)=false:=by rw[aur];intro e;have z:=h1.1 e.symm;simp only[ka,atM,auC,avZ]at hm;have aa:=(hm.1 (k,s) bq).1;rw[e,au7]at aa;cases aa);rw[List.lookup,aX];exact Dv ae bq
variable{m:List (Nat×Nat)}
theorem fO.zq{l:List (Nat×D)}{L:List (Nat×aI)}(h1:jP A l)(ok:ka m=true)(gL:tU A m L)(hm:(m.all λp=>Nat.blt p.1 300&&Nat.blt p.2 300)=true)(N:∀k o,ct k=some o->300<=k/\A.H k=some o):fO A l (cQ L ct):=by(have bi:∀k s,(k,s)∈m->k<300/\s<300:=λk s h=>by have:=auC.1 hm _ h;simpa using this);(have key:∀k o,cQ L ct k=some o->(∃s,(k,s)∈m/\A.H s=some o)\/(300<=k/\A.H k=some o):=λk o h=>by unfold cQ at h;cases al:aK L k with|some bI=>rw[al]at h;cases h;exact .inl (gL.aK k _ al)|none=>rw[al]at h;exact .inr (N k o h));refine⟨h1,λk=>if 300<=k then k else(m.lookup k).getD 0,λk bC o bI h bq e=>?_,λk o h=>?_⟩;dsimp only at e;rcases key k o h with⟨s,hs,_⟩|⟨z,_⟩<;>rcases key bC bI bq with⟨bp,c4,_⟩|⟨vz,_⟩;have aa:=(bi k s hs).1;have Qn:=(bi bC bp c4).1;rw[atG atv,atG atv,Dv ok hs,Dv ok c4]at e;exact(wM ok k s bC bp hs c4).2 e;have aa:=bi k s hs;rw[atG atv,atH vz,Dv ok hs]at e;simp at e;omega;have aa:=bi bC bp c4;rw[atH z,atG atv,Dv ok c4]at e;simp at e;omega;rw[atH z,atH vz]at e;exact e;dsimp only;rcases key k o h with⟨s,hs,aa⟩|⟨z,aa⟩;have aC:=(bi k s hs).1;rw[atG atv,Dv ok hs];exact aa;rw[atH z];exact aa
variable{am:Nat}{K:cK->aw->Prop}{c:Code}
theorem Y.amO{U:b7 Tryz.prog B am}(l:α->List (Nat×D))(H:α->bF)(h:∀V,Y U c (rW (l V) (H V)) K)(g:(∀V,Y U c (rW (l V) (H V)) K)->Y U c A K):Y U c A K:=g h
variable{f:FuncId}{ds:List D}{a6:D->bF->Prop}
theorem c8.fH{H:bF}{vs:Nat->Value}(h:∀k,200<=k->H k=uU fD bL fE b4 mv vs eU e6 k)(hc:cV B f ds (uU fD bL fE b4 mv vs eU e6) a6):cV B f ds (yd H Bj) a6:=by rw[amE h];exact hc
theorem Y9:∀{l:List ad},(∀k∈l,rr k)->ts l
 |[],_=>trivial
 |k::r,h=>⟨h k atS,Y9 λx F=>h x (atU _ F)⟩
theorem Y_(m:atE)(b:Bool):(kp m b).1.length<=m.length+3:=by unfold kp;split;split;simp;split<;>simp;simp
theorem Y'(aV:dc B)(bm:Bool)(ii:ad):∀(bD:Nat) (n:ad),aB n<bD->iv n->rr n->∀(x:aQ) (c:e5) (kT:List aQ) (fD bL fE:Nat) (b4 mv:Value) (vs:Nat->Value),x.n=n->fw bm ii kT->kT[x.si]?=some x->x.df=true->tt c kT->kT.length+fI n<100->x.path.length+1200*aB n<1000000000->x.lv+aB n<1000000000->cV B 224 [aH n,u (x.di:Int),u x.lv,.bool x.iso,.bool x.rock,.box 200 fD 0,.box 201 bL 0,.box 202 fE 0] (uU fD bL fE b4 mv vs kT kT) λd aM=>d=.bl []/\∃tq amP gx,aM=uU fD bL fE tq amP gx (kT++fU n x c) (kT++fU n x c):=by refine λbD=>Nat.rec (λn h=>absurd h (avf _)) (λbD aY n hN cv xK x c kT fD bL fE b4 mv vs zp G F zr hS hlen dd GP=>?_) bD;obtain⟨hx,_,mM,xh⟩:=(tf n).1 cv;have Za:=((Kh n).1 xK).2;have GQ:∀k∈n.J,dT k.name=true/\k.name.length<1000000000:=λk X=>(rb xh X).1;have jS:=ox 0 n.J;have Mv:=ER n;obtain⟨ass,_⟩:=G.lv _ _ F;(have amQ:x.si<kT.length:=by rcases at5 x.si kT.length with h|h;exact h;rw[atT h]at F;cases F);(have amR:kT++fq (n.J.take 0) ((cd 0 n.J).take 0) x c=kT:=by simp[fq]);refine jW Tryz.func224 Tryz.ntmps224 λU=>?_;refine ch ?_;intro cF;refine lm ?_;refine⟨[u 0,.Q .none 12 (n.J.map enc)],_,λ_=>((Ox aV (v:=0) aty).call n.J hx mM GQ).1,ar,?_⟩;refine jb ?_;apply oN;refine Y.HN (α:={i:Nat // i<=n.J.length}×Value×Value×(Nat->Value)) (λV=>[(1,u (x.di:Int)),(2,u x.lv),(3,.bool x.iso),(4,.bool x.rock),(5,.box 200 fD 0),(6,.box 201 bL 0),(7,.box 202 fE 0),(13,.Q .none 1 (aU (cd 0 n.J))),(33,.Q .none 12 (n.J.map enc)),(34,u (n.J.map enc).length),(35,u (V.1.1:Int))]) (λV=>uU fD bL fE V.2.1 V.2.2.1 V.2.2.2 (kT++fq (n.J.take V.1.1) ((cd 0 n.J).take V.1.1) x c) (kT++fq (n.J.take V.1.1) ((cd 0 n.J).take V.1.1) x c)) (λV=>n.J.length-V.1.1) (⟨0,at7 _⟩,b4,mv,vs) (.same ar (λq o h=>by rw[amR]at h;exact(mw _ _ (by have:=Ko h;omega)).trans h)) ?_;rintro⟨⟨i,hi⟩,b4,mv,vs⟩;(try dsimp only);apply b3;apply en;refine aJ (decide ((i:Int)<(n.J.map enc).length)) rfl ?_ ?_<;>intro hc;(·refine fk ?_;(have aE:i<n.J.length:=by simpa using hc);(have C7:i<(cd 0 n.J).length:=by omega);obtain⟨bA,bX,v7⟩:=YT hx (λk X=>(GQ k X).1) aE;have N9:=r1 aE;have ast:=YV aE;have fg:=Kg (n.J.take i) ((cd 0 n.J).take i) x c;have cW:=atI (λV=>kT++V) (Qa x aE C7 c);(try dsimp only at cW);rw[<-auj]at cW;have w3:=atK aE;have eJ:fw bm ii (kT++fq (n.J.take i) ((cd 0 n.J).take i) x c):=Ki bm ii _ _ x c kT G zr (λk X=>by rw[zp];exact auL X) (Y9 λk X=>Qc Za (auL X)) F hS;have Zb:=hS.jJ (m:=fq (n.J.take i) ((cd 0 n.J).take i) x c);(have hQ:(kT++fq (n.J.take i) ((cd 0 n.J).take i) x c)[x.si]?=some x:=by rw[atZ amQ];exact F);(have m_:(kT++fq (n.J.take i) ((cd 0 n.J).take i) x c).length<=kT.length+eW (n.J.take i):=by rw[atO];omega);have pb:(n.J.map enc)[i]?=some (aH n.J[i]):=r2 aE;have A7:iv n.J[i]:=(rb xh w3).2;have Zc:rr n.J[i]:=Qc Za w3;have f':=(GQ _ w3).2;(have amS:n.J[i]∈x.n.J:=by rw[zp];exact w3);have amT:=Qe (k:=n.J[i]) (m:=(cd 0 n.J)[i]) hQ zr Zb amS;have asu:=v7.len;(have Zd:(aU (cd 0 n.J))[i]?=some (.O (cd 0 n.J)[i]):=by simp[aU,C7]);generalize n.J[i]=k at*;generalize(cd 0 n.J)[i]=m at*;generalize kT++fq (n.J.take i) ((cd 0 n.J).take i) x c=l at*;generalize c.jJ (fq (n.J.take i) ((cd 0 n.J).take i) x c)=dq at*;have pd:(bZ x k m dq).n=k:=rfl;have Qo:(bZ x k m dq).path=below x.path k.name (x.lv+1):=rfl;have Kp:(bZ x k m dq).id=(kp m (k.kind==0)).1:=rfl;have amU:(bZ x k m dq).file=(kp m false).1:=rfl;have amV:(bZ x k m dq).iso=(x.iso&&lA 0 k (x.lv+1)):=rfl;have amW:(bZ x k m dq).rock=(x.rock&&lA 2 k (x.lv+1)):=rfl;have amX:(bZ x k m dq).lv=x.lv+1:=rfl;have Qp:(bZ x k m dq).df=(k.kind==0):=rfl;have Ze:(bZ x k m dq).any=((bZ x k m dq).iso||(bZ x k m dq).rock):=rfl;generalize bZ x k m dq=s at*;have asv:=Ce x.path k.name (x.lv+1);have asw:=Y_ m (k.kind==0);have wl:=Y_ m false;obtain⟨ru,Bk⟩:=eJ.Bi hQ zr;have sg:0<l.length:=eJ.tu.2;have asx:=eJ.lev _ _ hQ;refine vm ?_;refine⟨aH k,λ_=>pb,?_⟩;(conv=>whnf);intro ns;apply cD;refine jb ?_;refine na ?_;refine .inl ⟨λh=>by simp[dk];omega,?_⟩;refine hG ?_;refine⟨[u 0,aH k,u (x.lv+1)],_,λh=>Fm 0 k (x.lv+1),ar,?_⟩;refine tZ ?_;refine jb ?_;refine na ?_;refine .inl ⟨λh=>by simp[dk];omega,?_⟩;apply g9;refine na ?_;refine⟨[u 2,aH k,u (x.lv+1)],_,λh=>Fm 2 k (x.lv+1),ar,?_⟩;refine tZ ?_;(conv=>whnf);rw[show(bif x.iso then lA 0 k (x.lv+1)else false)=s.iso by rw[jF,amV],show(bif x.rock then lA 2 k (x.lv+1)else false)=s.rock by rw[jF,amW]];refine gb ?_;refine iq ?_;refine aJ _ rfl ?_ ?_<;>intro hc;(·refine Y.exit ?_;refine nD ?_;(have d6:¬s.any=true:=axL);rw[atG d6,auK]at cW;exact⟨(⟨i+1,aE⟩,b4,mv,vs),by show _-(i+1)<_-i;omega,.same ar (λq o h=>by dsimp only at h;rw[cW]at h;have:=Ko h;exact(mw _ _ atv).trans ((mw _ _ atv).trans h))⟩);refine fk ?_;(have qx:s.any=true:=axL);rw[atH qx]at cW;(have Zf:kT++fq (List.take (i+1) n.J) (List.take (i+1) (cd 0 n.J)) x c=(l++[s])++fU k s (dq.add s):=by rw[cW];simp);clear cW;have cW:=Zf;clear Zf;have aZ:=amT qx;have amY:=eJ.wk aZ;(have amZ:(l++[s])[s.si]?=some s:=by rw[aZ.si];simp);have s1:¬k.kind=0->k.J=[]:=((Kh k).1 Zc).1;have am0:=eJ.Kn;refine nG ?_;apply cD;refine jy ?_;refine⟨rfl,ai,.inr (af.ev aL 203 rfl rfl rfl rfl rfl rfl rfl atv (by rw[lQ];exact av9.2 Bk) ?_)⟩;(conv=>whnf);refine⟨rfl,ai,.inr (af.jA aL 203 (i:=x.di) rfl rfl (by rw[lQ];exact Bk) rfl rfl rfl aty ?_)⟩;(conv=>whnf);refine⟨rfl,ai,.inr (af.mz aL 203 (i:=x.di) atB rfl rfl (GO ru) ?_)⟩;refine jy ?_;intro Qq;apply d_;apply cD;refine lm ?_;refine Y.HM (α:=Unit) (λ_=>[(1,u (x.di:Int)),(2,u x.lv),(3,.bool x.iso),(4,.bool x.rock),(5,.box 200 fD 0),(6,.box 201 bL 0),(7,.box 202 fE 0),(13,.Q .none 1 (aU (cd 0 n.J))),(33,.Q .none 12 (n.J.map enc)),(34,u (n.J.map enc).length),(35,u (i:Int)),(15,u (i:Int)),(16,.box 16 ns 0),(17,.bool s.iso),(18,.bool s.rock),(19,.box 19 Qq 0),(20,.O s.path)]) (λ_=>cQ [(16,.box ns [.O k.name,u k.kind,.O k.dB,.O k.target,u k.cL,u k.n2,u k.n3,u k.n4,u k.n5,u k.n6,.Q .none 12 (k.J.map enc),.Q .none 2 (k.bK.map c5)]),(19,.box Qq (rs x)),(200,.box fD [.an b4]),(201,.box bL [.Q (.own 204 mv) 1 (e7 l)]),(202,.box fE [xJ fD bL fE]),(203,.row b4 (ho vs l l) 7 305),(204,.own mv (e7 l).length 1 3)] (kS vs l l)) ?_ ?_;apply b3;refine aJ (decide ((0:Int)<(x.di:Int))) rfl ?_ ?_<;>intro hc;apply kF;refine ez ?_;refine oa ?_;refine mC ?_;(have Zg:0<x.di:=by simpa using hc);(have Qr:¬x.lv+1<=2:=by rcases auD x.si with h|h;rw[h,eJ.tu.1]at hQ;cases hQ;exact absurd Zg (aw1 0);have:=(eJ.lv _ _ hQ).2.2.1 h;omega);exact⟨(),fO.zq (m:=[(16,16),(19,19),(200,200),(201,201),(202,202),(203,203),(204,204)]) ⟨E,E,E,E,E,E,E,E,E,E,E,E,E,E,E,E,aq.of_eq (atI D.O (by rw[Qo,below,atG Qr])),ai⟩ rfl ⟨rfl,ba⟩ rfl (λq o h=>ayg)⟩;refine fk ?_;(have Zg:x.di=0:=by simp at hc;omega);(have Qr:x.lv+1<=2:=by rcases auD x.si with h|h;have:=(eJ.lv _ _ hQ).2.1 h;omega;have:=(eJ.lv _ _ hQ).2.2.2 h zr;omega);exact⟨(),fO.zq (m:=[(16,16),(19,19),(200,200),(201,201),(202,202),(203,203),(204,204)]) ⟨E,E,E,E,E,E,E,E,E,E,E,E,E,E,E,E,aq.of_eq (atI D.O (by rw[Qo,below,atH Qr])),ai⟩ rfl ⟨rfl,ba⟩ rfl (λq o h=>ayg)⟩;rintro⟨⟩;refine lm ?_;rw[<-Qp];refine ch ?_;refine⟨λ_=>by simp[aU];omega,?_⟩;(conv=>whnf);refine⟨.O m,λ_=>Zd,?_⟩;(conv=>whnf);refine⟨[.O m,.bool (k.kind==0)],_,λ_=>W1 aV m _ atv,⟨E,aq.of_eq (atI D.bool Qp),ai⟩,?_⟩;(conv=>whnf);rw[<-Kp];refine ch ?_;intro sy;refine ez ?_;refine Y.HM (α:=Value×Value×Nat) (λ_=>[(1,u (x.di:Int)),(2,u x.lv),(3,.bool x.iso),(4,.bool x.rock),(5,.box 200 fD 0),(6,.box 201 bL 0),(7,.box 202 fE 0),(13,.Q .none 1 (aU (cd 0 n.J))),(33,.Q .none 12 (n.J.map enc)),(34,u (n.J.map enc).length),(35,u (i:Int)),(15,u (i:Int)),(16,.box 16 ns 0),(17,.bool s.iso),(18,.bool s.rock),(21,.bool s.df),(24,.box 24 sy 0)]) (λV=>cQ [(16,.box ns [.O k.name,u k.kind,.O k.dB,.O k.target,u k.cL,u k.n2,u k.n3,u k.n4,u k.n5,u k.n6,.Q .none 12 (k.J.map enc),.Q .none 2 (k.bK.map c5)]),(24,.box sy (tv s)),(200,.box fD [.an V.1]),(201,.box bL [.Q (.own V.2.2 V.2.1) 1 (e7 (l++[s]))]),(202,.box fE [xJ fD bL fE]),(203,.row V.1 (if s.df then ho vs l l++[.agg (rs s++[.bh])]else ho vs l l) 7 305),(204,.own V.2.1 (e7 (l++[s])).length 1 3)] (kS vs l l)) ?_ ?_;apply b3;refine Y.cond s.df rfl (λN=>?_) (λN=>?_);refine jb ?_;refine ll ?_;intro asy;apply cD;refine nG ?_;refine ez ?_;refine⟨rfl,ai,.inr (af.sQ aL 203 rfl rfl rfl rfl ?_)⟩;apply d_;apply d_;refine ez ?_;(have du:((ho vs l l).length:Int)=(s.di:Int):=by rw[lQ,aZ.di]);rw[du];refine p9 ?_;refine aJ (decide ((8:Int)<x.lev+1)) rfl ?_ ?_<;>intro hc;refine jb ?_;refine ez ?_;refine nE ?_;refine⟨by show(_+_)*8<=_;rw[e7,atL];have:=aun aQ.mv l;simp only[aum,avp,atQ,auf];unfold ee;omega,by show _+_<=_;rw[e7,atL];have:=aun aQ.mv l;simp only[aum,avp,atQ,auf];unfold ee;omega,atC,λv=>?_⟩;apply cD;refine lm ?_;(have Qs:((e7 l++[u (s.di:Int)]).length:Int)=(s.mno:Int):=by rw[atO,e7,atL,aZ.mno];rfl);(have Zh:s.mno<100:=by rw[aZ.mno];have:=aun aQ.mv l;unfold ee;omega);have asz:=YU s.mno Zh;refine⟨[u (s.mno:Int)],_,λ_=>Od s.mno Zh,⟨dp Qs,ai⟩,?_⟩;(conv=>whnf);refine oa ?_;apply cD;apply cD;apply cD;apply cD;refine ch ?_;refine⟨λ_=>by simp[aU];omega,?_⟩;(conv=>whnf);refine⟨.O m,λ_=>Zd,?_⟩;(conv=>whnf);refine⟨[.O m,.bool false],_,λ_=>W1 aV m _ atv,ar,?_⟩;apply cD;apply kF;refine ez ?_;refine t1 ?_;apply cD;apply d_;apply cD;apply d_;refine jy ?_;refine pe ?_;refine⟨rfl,ai,.inr (af.pc aL 203 rfl rfl rfl atC rfl rfl rfl (avW) (by show(_+1)*88<=_;exact ayj) (by show _+1<=_;exact ayj) λbQ y5 cap=>?_)⟩;apply d_;refine ez ?_;(have fZ:x.lev=8:=by have hI:(8:Int)<x.lev+1:=(by simpa using hc);omega);(have gw:s.mv=true:=by rw[aZ.mv,N,fZ];rfl);(have Qt:s.lev=3:=by rw[aZ.lev,N,atH rfl,atH atv]);(have Qu:s.si≠0:=by rw[aZ.si];omega);(have uV:e7 l++[u (s.di:Int)]=e7 (l++[s]):=by rw[e7,e7,Y3 gw,auo];rfl);exact⟨(.slice bQ y5 cap,v,113),fO.zq (m:=[(16,16),(24,24),(200,200),(201,201),(202,202),(203,138),(204,113)]) ar rfl ⟨rfl,rfl,rfl,atI (λV=>some (aI.box sy V)) (by rw[amI N gw,amU];rfl),rfl,rfl,rfl,atI (λV=>some (aI.box bL [.Q (.own 113 v) 1 V])) uV,rfl,rfl,rfl,atI (λV=>some (aI.row (.slice bQ y5 cap) V 7 305)) (by rw[atH N,amK Qu gw,Qt,aZ.fi];rfl),rfl,atI (λV:Nat=>some (aI.own v V 1 3)) (by rw[<-uV,atO];rfl),ai⟩ rfl (λq o h=>ayg)⟩;refine fk ?_;refine t1 ?_;apply cD;apply d_;apply cD;apply d_;refine jy ?_;refine pe ?_;refine⟨rfl,ai,.inr (af.pc aL 203 rfl rfl rfl atC rfl rfl rfl (avW) (by show(_+1)*88<=_;exact ayj) (by show _+1<=_;exact ayj) λbQ y5 cap=>?_)⟩;apply d_;refine ez ?_;(have fZ:x.lev+1≠9:=by have hI:¬(8:Int)<x.lev+1:=(by simpa using hc);omega);(have gw:s.mv=false:=by rw[aZ.mv,N,awF,aur];exact fZ);(have Qt:s.lev=x.lev+1:=by rw[aZ.lev,N,atH rfl,atG fZ]);(have Qu:s.si≠0:=by rw[aZ.si];omega);(have uV:e7 l=e7 (l++[s]):=by rw[e7,e7,Qk gw]);exact⟨(.slice bQ y5 cap,mv,204),fO.zq (m:=[(16,16),(24,24),(200,200),(201,201),(202,202),(203,138),(204,204)]) ar rfl ⟨rfl,rfl,rfl,atI (λV=>some (aI.box sy V)) (by rw[amH N gw];rfl),rfl,rfl,rfl,atI (λV=>some (aI.box bL [.Q (.own 204 mv) 1 V])) uV,rfl,rfl,rfl,atI (λV=>some (aI.row (.slice bQ y5 cap) V 7 305)) (by rw[atH N,amJ Qu gw,Qt,aZ.fi];rfl),rfl,atI (λV:List D=>some (aI.own mv V.length 1 3)) uV,ai⟩ rfl (λq o h=>ayg)⟩;refine fk ?_;(have gw:s.mv=false:=by rw[aZ.mv,N];rfl);(have uV:e7 l=e7 (l++[s]):=by rw[e7,e7,Qk gw]);exact⟨(b4,mv,204),fO.zq (m:=[(16,16),(24,24),(200,200),(201,201),(202,202),(203,203),(204,204)]) ar rfl ⟨rfl,rfl,rfl,atI (λV=>some (aI.box sy V)) (by rw[amG N gw];rfl),rfl,rfl,rfl,atI (λV=>some (aI.box bL [.Q (.own 204 mv) 1 V])) uV,rfl,rfl,rfl,atI (λV=>some (aI.row b4 V 7 305)) (by rw[atG (by rw[N];decide)]),rfl,atI (λV:List D=>some (aI.own mv V.length 1 3)) uV,ai⟩ rfl (λq o h=>ayg)⟩;rintro⟨nW,uW,ng⟩;have asA:=ru;refine Y.amO (α:={mj:Nat->Value // (bM (l++[s]))[x.di]?=some x/\x.di<(bM (l++[s])).length}) (λ_=>[(1,u (x.di:Int)),(2,u x.lv),(3,.bool x.iso),(4,.bool x.rock),(5,.box 200 fD 0),(6,.box 201 bL 0),(7,.box 202 fE 0),(13,.Q .none 1 (aU (cd 0 n.J))),(33,.Q .none 12 (n.J.map enc)),(34,u (n.J.map enc).length),(35,u (i:Int)),(15,u (i:Int)),(16,.box 16 ns 0),(17,.bool s.iso),(18,.bool s.rock),(21,.bool s.df),(24,.box 24 sy 0)]) (λV=>cQ [(16,.box ns [.O k.name,u k.kind,.O k.dB,.O k.target,u k.cL,u k.n2,u k.n3,u k.n4,u k.n5,u k.n6,.Q .none 12 (k.J.map enc),.Q .none 2 (k.bK.map c5)]),(24,.box sy (tv s)),(200,.box fD [.an nW]),(201,.box bL [.Q (.own 204 uW) 1 (e7 (l++[s]))]),(202,.box fE [xJ fD bL fE]),(203,.row nW (ho V.1 (l++[s]) l) 7 305),(204,.own uW (e7 (l++[s])).length 1 3)] (kS V.1 (l++[s]) l)) ?_ (λZi=>?_);rotate_left;refine Y.jx 201 (dt:=[.Q (.own 204 uW) 1 (e7 (l++[s]))]) rfl ⟨aq.own _ _,ai⟩ ?_;by_cases N:s.df=true;have Zj:hZ l (bM l).length=[]:=amy am0;have i7:=amz (vs:=vs) (l:=l) (e6:=l) (s:=s) (v:=.slice none 0 0) N Zj;refine Y.vp 203 (a':=ho (sx vs (bM l).length (.slice none 0 0)) (l++[s]) l) rfl (by rw[atH N,<-i7,atO,atO];rfl) Ql (by rw[atH N,<-i7,Y4,Y4];exact dL.l9 (dL.refl _) ⟨E,E,E,E,E,E,aq.vj,ai⟩) ?_;refine Y.tW ((bM l).length+300) 8 310 ?_;refine Y.jX _ _ ?_ (Zi ⟨sx vs (bM l).length (.slice none 0 0),by rw[Ds N,atZ Bk];exact ru,by rw[Ds N,atO];omega⟩);refine fO.zq (m:=[(16,16),(24,24),(200,200),(201,201),(202,202),(203,203),(204,204)]) ar rfl ⟨rfl,ba⟩ rfl (λq o h=>?_);rcases amN N h with⟨rfl,rfl⟩|⟨aX,h⟩;refine⟨by omega,?_⟩;rw[qK,Zj];rfl;obtain⟨j,rfl,_,_⟩:=tw h;exact⟨by omega,(mw _ _ aX).trans h⟩;(have hr:s.df=false:=by simpa using N);refine Y.jX _ _ ?_ (Zi ⟨vs,by rw[Kl hr];exact ru,by rw[Kl hr];exact Bk⟩);refine fO.zq (m:=[(16,16),(24,24),(200,200),(201,201),(202,202),(203,203),(204,204)]) ar rfl ⟨rfl,rfl,rfl,rfl,rfl,rfl,rfl,rfl,rfl,rfl,rfl,atI (λV=>some (aI.row nW V 7 305)) (by rw[atG N,amL hr]),rfl,ba⟩ rfl (λq o h=>?_);rw[amM hr]at h;obtain⟨j,rfl,_,_⟩:=tw h;exact⟨by omega,h⟩;rintro⟨mj,ru,hQ⟩;(try dsimp only);have tx:s.fi=x.di:=aZ.fi;(have h7:(hZ l x.di).length<=l.length:=by rw[hZ,atL,Dq];exact avb (aun _ _) atx);apply en;refine Y.SC aL mixed (α:=Value) (λv f=>[(1,u (x.di:Int)),(2,u x.lv),(3,.bool x.iso),(4,.bool x.rock),(5,.box 200 fD 0),(6,.box 201 bL 0),(7,.box 202 fE 0),(13,.Q .none 1 (aU (cd 0 n.J))),(33,.Q .none 12 (n.J.map enc)),(34,u (n.J.map enc).length),(35,u (i:Int)),(15,u (i:Int)),(16,.box 16 ns 0),(17,.bool s.iso),(18,.bool s.rock),(21,.bool s.df),(24,.box 24 sy 0),(139,bif f 0 then .an nW else .any),(140,bif f 1 then u (x.di:Int)else .any),(141,bif f 2 then .an nW else .any),(142,bif f 3 then u (x.di:Int)else .any),(143,bif f 4 then .an (h_ nW (((x.di:Nat):Int).toNat*7))else .any),(144,bif f 5 then .an (h_ nW (((x.di:Nat):Int).toNat*7+6))else .any),(145,bif f 6 then .Q (.own 0 (mj x.di)) 8 (hZ l x.di)else .any),(146,bif f 7 then pK s else .any),(147,bif f 8 then .Q .dU 8 [pK s]else .any),(148,bif f 9 then .Q (.own 148 v) 8 (hZ l x.di++[pK s])else .any),(149,bif f 10 then .an (h_ nW (((x.di:Nat):Int).toNat*7))else .any),(150,bif f 11 then .an (h_ nW (((x.di:Nat):Int).toNat*7+6))else .any)]) (λv f=>cQ ([(16,.box ns [.O k.name,u k.kind,.O k.dB,.O k.target,u k.cL,u k.n2,u k.n3,u k.n4,u k.n5,u k.n6,.Q .none 12 (k.J.map enc),.Q .none 2 (k.bK.map c5)]),(24,.box sy (tv s)),(200,.box fD [.an nW]),(201,.box bL [.Q (.own 204 uW) 1 (e7 (l++[s]))]),(202,.box fE [xJ fD bL fE]),(203,.row nW (bif f 12 then((ho mj (l++[s]) l).set x.di (.agg (iF (rs x++[.Q (.own 0 (mj x.di)) 8 (hZ l x.di)]) 6 (.Q (.own 148 v) 8 (hZ l x.di++[pK s])))))else(ho mj (l++[s]) l)) 7 305),(204,.own uW (e7 (l++[s])).length 1 3)]++(bif f 9 then[(148,.own v ((hZ l x.di).length+1) 8 310)]else[])) (bif f 9 then(Dt x.di (kS mj (l++[s]) l))else kS mj (l++[s]) l)) atz (.bool true) ?_ ?_ ?_ ?_;exact⟨E,E,E,E,E,E,E,E,E,E,E,E,E,E,E,E,E,.any _,.any _,.any _,.any _,.any _,.any _,.any _,.any _,.any _,.any _,.any _,.any _,ai⟩;exact nI.Mz ⟨rfl,ba⟩ (λk o h=>(zh rfl (amA h)).trans h);(conv=>whnf);refine⟨λv f be=>?_,?_⟩;obtain⟨f,rfl⟩:= be.o f 12 0;apply BW;refine ez ?_;exact fX v;refine Sr ?_;refine⟨λv f be=>?_,?_⟩;obtain⟨f,rfl⟩:= be.o f 9 6 (be.n 6 5 (be.n 5 4 (be.n 4 2)));obtain⟨f,rfl⟩:= be.o f 12 2;apply BW;refine ez ?_;exact fX v;refine Sr ?_;refine⟨λv f be=>?_,?_⟩;obtain⟨f,rfl⟩:= be.o f 9 6 (be.n 6 5 (be.n 5 4));obtain⟨f,rfl⟩:= be.o f 12 4;apply p5;refine af.ev aL 203 rfl rfl rfl rfl rfl rfl rfl atv (Y5 (by rw[lQ];exact hQ)) ?_;exact fX v;refine⟨λv f be=>?_,?_⟩;obtain⟨f,rfl⟩:= be.o f 9 6 (be.n 6 5);obtain⟨f,rfl⟩:= be.o f 12 5;apply p5;refine af.jA aL 203 (i:=x.di) rfl rfl (Y6 (by rw[lQ];exact hQ)) rfl rfl rfl aty ?_;exact fX v;refine⟨λv f be=>?_,?_⟩;obtain⟨f,rfl⟩:= be.o f 9 6;obtain⟨f,rfl⟩:= be.o f 12 6;apply p5;refine af.od aL 203 (i:=x.di) (j:=6) atB rfl rfl (GO ru) ?_;(conv=>whnf);exact fX v;refine⟨λv f be=>?_,?_⟩;obtain⟨f,rfl⟩:= be.o f 9 8 (be.n 8 7);obtain⟨f,rfl⟩:= be.o f 12 7;apply BW;refine ez ?_;exact fX v;refine⟨λv f be=>?_,?_⟩;obtain⟨f,rfl⟩:= be.o f 9 8;obtain⟨f,rfl⟩:= be.o f 12 8;apply BW;(conv=>whnf);refine pe ?_;exact fX v;refine⟨λv f be=>?_,?_⟩;obtain⟨f,rfl⟩:= be.o f 12 9;apply p5;refine af.SU aL (x.di+300) 0 rfl rfl rfl atC rfl (Qj hQ) rfl (by show(_+1)*64<=_;omega) (by show _+1<=_;omega) (λv2=>?_);exact fX v2 (nI.Mz ⟨rfl,ba⟩ (λk o h=>by obtain⟨h1,z,aa⟩:=Qm h;exact(mw _ _ atv).trans ((mw _ _ h1).trans ((zh rfl z).trans aa))));refine⟨λv f be=>?_,?_⟩;obtain⟨f,rfl⟩:= be.o f 12 11 (be.n 11 10);apply p5;refine af.ev aL 203 rfl rfl rfl rfl rfl rfl rfl atv (Y5 (by rw[lQ];exact hQ)) ?_;exact fX v;refine⟨λv f be=>?_,?_⟩;obtain⟨f,rfl⟩:= be.o f 12 11;apply p5;refine af.jA aL 203 (i:=x.di) rfl rfl (Y6 (by rw[lQ];exact hQ)) rfl rfl rfl aty ?_;exact fX v;refine⟨λv f be=>?_,?_⟩;(conv=>whnf);apply p5;refine af.vo aL 203 (i:=x.di) (j:=6) atB rfl rfl rfl (GO ru) aty rfl ?_;exact fX v (nI.Mz ⟨rfl,ba⟩ (λk o h=>axY));exact trivial;intro v f M;(conv=>whnf);refine Y.jX [(1,u (x.di:Int)),(2,u x.lv),(3,.bool x.iso),(4,.bool x.rock),(5,.box 200 fD 0),(6,.box 201 bL 0),(7,.box 202 fE 0),(13,.Q .none 1 (aU (cd 0 n.J))),(33,.Q .none 12 (n.J.map enc)),(34,u (n.J.map enc).length),(35,u (i:Int)),(15,u (i:Int)),(16,.box 16 ns 0),(17,.bool s.iso),(18,.bool s.rock),(21,.bool s.df),(24,.box 24 sy 0)] (cQ [(16,.box ns [.O k.name,u k.kind,.O k.dB,.O k.target,u k.cL,u k.n2,u k.n3,u k.n4,u k.n5,u k.n6,.Q .none 12 (k.J.map enc),.Q .none 2 (k.bK.map c5)]),(24,.box sy (tv s)),(200,.box fD [.an nW]),(201,.box bL [.Q (.own 204 uW) 1 (e7 (l++[s]))]),(202,.box fE [xJ fD bL fE]),(203,.row nW ((ho mj (l++[s]) l).set x.di (.agg (iF (rs x++[.Q (.own 0 (mj x.di)) 8 (hZ l x.di)]) 6 (.Q (.own 148 v) 8 (hZ l x.di++[pK s]))))) 7 305),(204,.own uW (e7 (l++[s])).length 1 3),(148,.own v ((hZ l x.di).length+1) 8 310)] (Dt x.di (kS mj (l++[s]) l))) (.same ar (λk o h=>?_)) ?_;show cQ (_++(bif f 9 then _ else _)) (bif f 9 then _ else _) k=_;rw[M 9 atz,M 12 atz];exact h;refine Y.vp 203 (a':=ho (sx mj x.di v) (l++[s]) (l++[s])) rfl (by rw[avc,lQ,lQ]) Ql (dL.b1 (by rw[avc,lQ,lQ]) (amB ru tx sg)) ?_;refine Y.jX [(1,u (x.di:Int)),(2,u x.lv),(3,.bool x.iso),(4,.bool x.rock),(5,.box 200 fD 0),(6,.box 201 bL 0),(7,.box 202 fE 0),(13,.Q .none 1 (aU (cd 0 n.J))),(33,.Q .none 12 (n.J.map enc)),(34,u (n.J.map enc).length),(35,u (i:Int)),(15,u (i:Int)),(16,.box 16 ns 0),(17,.bool s.iso),(18,.bool s.rock),(21,.bool s.df),(24,.box 24 sy 0)] (cQ [(16,.box ns [.O k.name,u k.kind,.O k.dB,.O k.target,u k.cL,u k.n2,u k.n3,u k.n4,u k.n5,u k.n6,.Q .none 12 (k.J.map enc),.Q .none 2 (k.bK.map c5)]),(24,.box sy (tv s)),(200,.box fD [.an nW]),(201,.box bL [.Q (.own 204 uW) 1 (e7 (l++[s]))]),(202,.box fE [xJ fD bL fE]),(203,.row nW (ho (sx mj x.di v) (l++[s]) (l++[s])) 7 305),(204,.own uW (e7 (l++[s])).length 1 3)] (kS (sx mj x.di v) (l++[s]) (l++[s]))) ⟨ar,λk=>if k=x.di+300 then 148 else k,?_,?_⟩ ?_;exact amC rfl;exact amD rfl ⟨rfl,ba⟩ rfl (λk o h=>axY) tx sg;apply b3;refine Y.cond s.df rfl (λN=>?_) (λN=>?_);refine t1 ?_;apply cD;apply d_;apply cD;apply d_;apply d_;apply cD;apply d_;apply d_;refine g_ ?_;apply d_;refine jy ?_;refine⟨rfl,ai,.inr (af.Sy rfl [aH k,u (s.di:Int),u s.lv,.bool s.iso,.bool s.rock,.box 200 fD 0,.box 201 bL 0,.box 202 fE 0] Bj (c8.fH (λq I=>Y8 (show(16:Nat)<200 by decide) (show(24:Nat)<200 by decide) I) (aY k atv A7 Zc s (dq.add s) (l++[s]) fD bL fE nW uW (sx mj x.di v) pd amY amZ N (Zb.add s) (by rw[atO];simp;omega) (by rw[Qo];omega) atv)) ⟨E,dp (by rw[atH N]),dp amX.symm,E,E,E,E,E,ai⟩ ?_)⟩;rintro d aM ⟨rfl,zl,am1,xF,rfl⟩;refine⟨_,E,?_⟩;refine nD ?_;exact⟨(⟨i+1,aE⟩,zl,am1,xF),by show _-(i+1)<_-i;omega,.same ar (λq o h=>by dsimp only at h;rw[cW]at h;exact(amF (Ko h)).trans h)⟩;(have am2:fU k s (dq.add s)=[]:=by rw[XM,s1 (by simpa using Qp.symm.trans N)];rfl);rw[am2,auK]at cW;refine rU ?_;exact⟨(⟨i+1,aE⟩,nW,uW,sx mj x.di v),by show _-(i+1)<_-i;omega,.same ar (λq o h=>by dsimp only at h;rw[cW]at h;exact(Y8 (show(16:Nat)<200 by decide) (show(24:Nat)<200 by decide) (Ko h)).trans h)⟩);(have cg:i=n.J.length:=by simp at hc;omega);(have bT:fq (n.J.take i) ((cd 0 n.J).take i) x c=fU n x c:=by rw[XM,aue atv,aue atv]);rw[bT];refine Y.jX [] (uU fD bL fE b4 mv vs (kT++fU n x c) (kT++fU n x c)) (.same trivial (λq o h=>h)) ?_;refine wT ?_;exact⟨.bl [],ai,rfl,_,_,_,rfl⟩
def wm(sh:Nat)(bu:atE)(k:Nat):List eH:=if k=0/\sh≠0 then[⟨[47],bu,2,0,0,false⟩]else[]
def rv(sh:Nat)(s:aQ):eH:=if s.si=0 then zb else s.jK sh
def jm(sh:Nat)(bu:atE)(D:List aQ):Nat->List eH
 |0=>[]
 |i+1=>jm sh bu D i++(rv sh (D.getD i default)::wm sh bu i)
theorem am3(sh:Nat)(bu:atE)(k:Nat):(wm sh bu k).length<=1:=by unfold wm;split<;>simp
theorem Qv(sh:Nat)(bu:atE)(k:Nat):(iB sh bu k).length<=1:=by unfold iB;split<;>simp
theorem Zk(sh:Nat)(bu:atE)(D:List aQ):∀i,(jm sh bu D i).length<=2*i
 |0=>atP _
 |i+1=>by have:=Zk sh bu D i;have:=am3 sh bu i;simp only[jm,atO,atQ];omega
theorem Zl{sh:Nat}{bu:atE}{gN:aQ}{ep:List aQ}(h0:gN.si=0)(l8:∀s∈ep,s.si≠0):∀m,m<=ep.length->jm sh bu (gN::ep) (m+1)=zb::(wm sh bu 0++(ep.take m).map (aQ.jK sh))
 |0,_=>by simp[jm,rv,h0]
 |m+1,hm=>by rw[jm,Zl h0 l8 m atv];(have h1:(gN::ep).getD (m+1) default=ep[m]:=by rw[avG,List.getElem?_cons_succ,atJ atv];rfl);(have z:wm sh bu (m+1)=[]:=by rw[wm,atG atv]);rw[h1,z,rv,atG (l8 _ (atK _)),atN atv,auo];simp only[auj,auO,au4,aum,avp]
def zt(sh:Nat)(T:List aQ)(i:Nat):List gr:=if i=0 then(ee T).map (aQ.oA sh)else[]
def f5(sh:Nat)(bu:atE)(T:List aQ):Nat->List gr
 |0=>[]
 |i+1=>f5 sh bu T i++(iB sh bu i++(mR sh T i++zt sh T i))
theorem Zm(sh:Nat)(T:List aQ)(i:Nat):(mR sh T i).length<=T.length:=by rw[YZ];exact aun _ _
theorem am4(sh:Nat)(T:List aQ)(i:Nat):(zt sh T i).length<=T.length:=by unfold zt;split;rw[atL];exact aun _ _;simp
theorem Zn(sh:Nat)(bu:atE)(T:List aQ):∀i,(f5 sh bu T i).length<=i*(2*T.length+1)
 |0=>by simp[f5]
 |i+1=>by have:=Zn sh bu T i;have:=Zm sh T i;have:=am4 sh T i;have:=Qv sh bu i;rw[avR];simp only[f5,atO];omega
variable{sh:Nat}{bu:atE}
theorem am5{T:List aQ}(hi:i<=100)(hT:T.length<=100):(f5 sh bu T i).length<=20100:=by have h:=Zn sh bu T i;have z:i*(2*T.length+1)<=100*201:=Nat.mul_le_mul hi atv;omega
theorem Zo(sh:Nat)(bu:atE)(T:List aQ):∀m,f5 sh bu T (m+1)=iB sh bu 0++mR sh T 0++(ee T).map (aQ.oA sh)++((List.range m).flatMap λi=>mR sh T (i+1))
 |0=>by simp[f5,zt]
 |m+1=>by(have h1:iB sh bu (m+1)=[]:=by rw[iB,atG atv]);(have z:zt sh T (m+1)=[]:=by rw[zt,atG atv]);rw[f5,Zo sh bu T m,h1,z,ave,avs];simp
theorem am6(bu:atE)(T:List aQ):f5 (eI T) bu T ((bM T).length+1)=tp bu T:=by rw[Zo,tp,iB];congr 3;by_cases h:eI T=0;rw[atG atv,atH h];rw[atH ⟨rfl,h⟩,atG h]
theorem am7(bu:atE){T:List aQ}{gN:aQ}(h0:gN.si=0)(l8:∀s∈bM T,s.si≠0):jm (eI T) bu (gN::bM T) ((bM T).length+1)=lN bu T:=by rw[Zl h0 l8 _ (atP _),atW,lN,wm];congr 2;by_cases h:eI T=0;rw[atG atv,atH h];rw[atH ⟨rfl,h⟩,atG h]
def Kq(L:List aQ)(i:Nat)(s:aQ):D:=.agg (rs s++[.Q .none 8 (hZ L i)])
def iV(L:List aQ):List D:=(bM L).mapIdx (Kq L)
theorem GR(L:List aQ):(iV L).length=(bM L).length:=by simp[iV]
theorem Zp{L:List aQ}{s:aQ}(h:(bM L)[i]?=some s):(iV L)[i]?=some (Kq L i s):=by rw[iV,auF,h];rfl
theorem am8{vs:Nat->Value}{L:List aQ}:dL (b1 (ho vs L L)) (b1 (iV L)) :=
 dL.b1 (by rw[lQ,GR]) λi a b ha G=>by
  rw[ho,auF]at ha;rw[iV,auF]at G
  cases h:(bM L)[i]? with
  |none=>rw[h]at ha;cases ha
  |some y =>
   rw[h]at ha G;cases ha;cases G
   exact⟨E,E,E,E,E,E,aq.m7,ai⟩
theorem am9{L:List aQ}:∀y∈iV L,y.cells.length=7:=λy hy=>by
 obtain⟨i,hi⟩:=aub.1 hy;rw[iV,auF]at hi
 cases h:(bM L)[i]? with
 |none=>rw[h]at hi;cases hi
 |some s=>rw[h]at hi;cases hi;rfl
def GS(d:eH):List D:=[.O d.path,.O d.id,u d.bY,u d.cB,u d.C',.bool d.j2]
def xL(sh:Nat)(i:Int):Int:=if i<=0 then i else i+sh
theorem Dw(sh i:Nat):xL sh (i:Int)=((ih sh i:Nat):Int):=by unfold xL ih;split<;>split<;>omega
theorem am_{s:aQ}(hs:s.si≠0)(hm:s.mv=true): ([.O s.path,.O (if s.si=0 then[0]else if s.mv then 68::Lib.decDigits s.mno else s.id),u s.lev,u 1,u (xL sh (s.fi:Int)),.bool s.mv]:List D)=GS (rv sh s):=by rw[rv,atG hs,atG hs,Dw];simp[GS,aQ.jK,hm]
theorem am'{s:aQ}{bm:Bool}{n:ad}(h0:s.si=0->s=cR bm n)(hm:s.mv=false): ([.O s.path,.O (if s.si=0 then[0]else if s.mv then 68::Lib.decDigits s.mno else s.id),u s.lev,u (xL sh (if s.mv then -1 else(s.fi:Int))),u (xL sh (s.fi:Int)),.bool s.mv]:List D)=GS (rv sh s):=by by_cases hs:s.si=0;rw[h0 hs];rfl;rw[rv,atG hs,atG hs,hm];simp only[auR,avq];rw[Dw];simp[GS,aQ.jK,hm]
theorem ana{a:Nat×aI}{L:List (Nat×aI)}(ha:a.1<200)(X:200<=k):cQ (a::L) ct k=cQ L ct k:=by obtain⟨i,o⟩:=a;(have h1:Nat.beq k i=false:=axU);unfold cQ;simp only[aK,h1,auV]
theorem anb(aV:dc B)(bm:Bool)(n:ad)(av:fv n)(hS:valid n=true->fI n<99/\aB n<800000):aS B 158 [aH n,.bool bm] (.bl [.Q .none 6 ((mS bm n).1.map gF),.Q .none 7 ((mS bm n).2.1.map fp),u (mS bm n).2.2]):=by refine bB Tryz.func158 Tryz.ntmps158 λU=>?_;refine go ?_;intro cc;refine go ?_;refine br (AA aV n (by have:=av;unfold fv at this;omega)) ?_;refine aJ _ rfl ?_ ?_<;>intro hc;refine go ?_;(have W:¬valid n=true:=by simpa using hc);rw[mS,atG W];exact⟨aq.nil,aq.nil,E,ai⟩;refine fk ?_;(have W:valid n=true:=by simpa using hc);obtain⟨Di,hsz⟩:=hS W;have Qw:=AU W;obtain⟨xK,j0⟩:=Qh W;have G:=YX bm xK j0;have Dx:Gr bm n=cR bm n::fU n (cR bm n) ⟨1,1,0⟩:=rfl;have anc:[cR bm n]++fU n (cR bm n) ⟨1,1,0⟩=Gr bm n:=rfl;have A4:=Qb n (cR bm n) ⟨1,1,0⟩;(have dd:mS bm n=(lN (jl (lM (cd 0 n.J))) (fU n (cR bm n) ⟨1,1,0⟩),tp (jl (lM (cd 0 n.J))) (fU n (cR bm n) ⟨1,1,0⟩),0):=by rw[mS,atH W]);(have Bl:(cR bm n).df=true:=by rw[aQ.df,cR,j0];rfl);(have lr:bM [cR bm n]=[cR bm n]:=by rw[bM,auP,atH Bl];rfl);have ane:=λ(dJ cF iN:Nat) (vs:Nat->Value)=>Y' (B:=B) aV bm n (aB n+1) n (auw _) Qw xK (cR bm n) ⟨1,1,0⟩ [cR bm n] dJ cF iN;rw[dd];obtain⟨hx,_,mM,xh⟩:=(tf n).1 Qw;have GQ:∀k∈n.J,dT k.name=true/\k.name.length<1000000000:=λk X=>(rb xh X).1;have anf:=amt (B:=B) aV n.J hx GQ mM;generalize jl (lM (cd 0 n.J))=bu at*;refine nG ?_;refine jy ?_;refine⟨rfl,ai,.inr (af.ML (q:=203) aL rfl rfl rfl rfl rfl rfl ?_)⟩;(conv=>whnf);refine⟨rfl,ai,λQx=>?_⟩;apply d_;refine go ?_;intro dJ;apply d_;refine go ?_;intro cF;refine go ?_;intro iN;apply b3;(conv=>whnf);refine cT ?_;refine Y.vp 203 (a':=ho (λ_=>.slice none 0 0) [cR bm n] [cR bm n]) rfl (by rw[lQ,lr];rfl) Ql (by rw[ho,lr];exact⟨E,E,E,E,E,E,aq.vj,ai⟩) ?_;refine Y.jx 8 (dt:=[.Q (.own 204 (.slice none 0 0)) 1 (e7 [cR bm n])]) rfl ⟨aq.vj,ai⟩ ?_;refine Y.jx 9 (dt:=[xJ dJ cF iN]) rfl ⟨aq.fn trivial ⟨aq.box,aq.box,aq.box,ai⟩,ai⟩ ?_;refine Y.tW 204 1 3 ?_;refine Y.tW 300 8 310 ?_;refine Y.jX [(1,.bool bm),(2,.box 2 cc 0),(7,.box 200 dJ 0),(8,.box 201 cF 0),(9,.box 202 iN 0)] (cQ [(2,.box cc (y3 n)),(200,.box dJ [.an (.slice (some ⟨Qx,0,none⟩) 1 1)]),(201,.box cF [.Q (.own 204 (.slice none 0 0)) 1 (e7 [cR bm n])]),(202,.box iN [xJ dJ cF iN]),(203,.row (.slice (some ⟨Qx,0,none⟩) 1 1) (ho (λ_=>.slice none 0 0) [cR bm n] [cR bm n]) 7 305),(204,.own (.slice none 0 0) (e7 [cR bm n]).length 1 3)] (kS (λ_=>.slice none 0 0) [cR bm n] [cR bm n])) (fO.zq (m:=[(2,2),(200,7),(201,8),(202,9),(203,203),(204,204)]) ⟨E,E,aq.box,aq.box,aq.box,ai⟩ rfl ⟨rfl,ba⟩ rfl (λq o h=>?_)) ?_;obtain⟨j,rfl,Z,rfl⟩:=tw h;rw[lr]at Z;(have:j=0:=by simp at Z;omega);subst this;exact⟨by omega,rfl⟩;refine nG ?_;apply cD;apply d_;apply cD;refine jy ?_;refine⟨rfl,ai,.inr (af.Sy rfl [aH n,u (((cR bm n).di:Nat):Int),u (cR bm n).lv,.bool (cR bm n).iso,.bool (cR bm n).rock,.box 200 dJ 0,.box 201 cF 0,.box 202 iN 0] Bj (c8.fH (λq I=>ana (show(2:Nat)<200 by decide) I) (Y' aV bm n (aB n+1) n (auw _) Qw xK (cR bm n) ⟨1,1,0⟩ [cR bm n] dJ cF iN (.slice (some ⟨Qx,0,none⟩) 1 1) (.slice none 0 0) (λ_=>.slice none 0 0) rfl (.zo j0) rfl Bl ⟨rfl,by rw[lr];rfl,rfl⟩ atw (by show 0+_<_;omega) (by show(1:Int)+_<_;omega))) ar ?_)⟩;rintro d aM ⟨rfl,b4,mv,vs,rfl⟩;refine rT ?_;rw[anc];clear ane;generalize fU n (cR bm n) ⟨1,1,0⟩=T at*;generalize asB:Gr bm n=L at*;refine Y.jX [(2,.box 2 cc 0),(7,.box 200 dJ 0),(8,.box 201 cF 0)] (aK [(2,.box cc (y3 n)),(200,.box dJ [.an b4]),(201,.box cF [.Q (.own 204 mv) 1 (e7 L)]),(203,.row b4 (ho vs L L) 7 305)]) (.same ar (nI.va ⟨rfl,ba⟩)) ?_;refine Y.vp 203 (a':=iV L) rfl (by rw[lQ,GR]) am9 am8 ?_;refine Y.HJ 203 200 0 rfl rfl aty rfl ?_;refine Y.jx 201 (dt:=[.Q .none 1 (e7 L)]) rfl ⟨aq.m7,ai⟩ ?_;refine Y.fd [(2,.box 2 cc 0),(7,.box 7 dJ 0),(8,.box 8 cF 0)] [(2,.box cc (y3 n)),(7,.box dJ [.Q .none 7 (iV L)]),(8,.box cF [.Q .none 1 (e7 L)])] [(2,2),(7,200),(8,201)] ⟨⟨E,aq.box,aq.box,ai⟩,rfl,ba⟩ ?_;obtain⟨sh,i1⟩:∃sh,eI T=sh:=⟨_,rfl⟩;(have GU:sh<=1:=by rw[<-i1];unfold eI;split<;>omega);(have aj9:L.length=T.length+1:=by rw[Dx];rfl);have uT:=G.tu.1;(have uX:bM L=cR bm n::bM T:=by rw[Dx,bM,auP,atH Bl];rfl);(have Kr:ee L=ee T:=by rw[Dx,ee,auP,atG (by simp[cR])];rfl);have jv:(bM T).length<=T.length:=aun _ _;have gv:(ee T).length<=T.length:=aun _ _;(have asC:(iV L).length=(bM T).length+1:=by rw[GR,uX];rfl);(have ang:(e7 L).length=(ee T).length:=by rw[e7,atL,Kr]);(have Jf:(if((e7 L).length:Int)<1 then((e7 L).length:Int)else 1)=(sh:Int):=by rw[<-i1,ang,eI];split<;>split<;>omega);(have qJ:∀(t:Nat) (s:aQ),L[t]?=some s->s.si=t/\(t=0->s=cR bm n)/\s.fi<=100/\s.di<=100:=λt s h=>by have h1:=G.si h;refine⟨h1,λz=>?_,?_,?_⟩;subst z;rw[uT]at h;exact(auA h).symm;have:=G.Kn s (at2 h);rw[uX]at this;simp at this;omega;rcases auD t with z|z;subst z;rw[uT]at h;cases h;exact at7 _;obtain⟨p,aZ⟩:=G.at z h;rw[aZ.di];have aa:(bM (L.take t)).length<=(bM L).length:=amw _ _ _;rw[uX]at aa;simp at aa;omega);(have Bm:∀i,hZ L i=(T.filter λx=>x.fi==i).map pK:=λi=>by rw[hZ,Dq,Dx];rfl);refine go ?_;intro j4;(conv=>whnf);refine cT ?_;refine Y.jx 10 (dt:=[u (sh:Int)]) rfl ⟨dp Jf,ai⟩ ?_;refine Y.BZ 10 10 (u (sh:Int)) rfl rfl rfl rfl ?_;refine Y.tW 500 6 228 ?_;refine Y.tW 600 7 251 ?_;refine go ?_;refine Y.ed (α:={i:Nat // i<=(iV L).length}×Value×Value) (λV=>[(2,.box 2 cc 0),(7,.box 7 dJ 0),(8,.box 8 cF 0),(10,.a7 1 [u (sh:Int)] 0 0),(11,.fn (.func 227) [] [.a7 1 [u (sh:Int)] 0 0]),(12,.Q (.own 500 V.2.1) 6 ((jm sh bu (bM L) V.1.1).map gF)),(13,.Q (.own 600 V.2.2) 7 ((f5 sh bu T V.1.1).map fp)),(39,.Q .none 7 (iV L)),(40,u ((iV L).length:Int)),(41,u (V.1.1:Int))]) (λV=>[(2,.box cc (y3 n)),(7,.box dJ [.Q .none 7 (iV L)]),(8,.box cF [.Q .none 1 (e7 L)]),(500,.own V.2.1 ((jm sh bu (bM L) V.1.1).map gF).length 6 228),(600,.own V.2.2 ((f5 sh bu T V.1.1).map fp).length 7 251)]) (λV=>(iV L).length-V.1.1) (⟨0,at7 _⟩,.slice none 0 0,.slice none 0 0) [(2,2),(7,7),(8,8),(500,500),(600,600)] ⟨⟨E,E,E,E,E,aq.vj,aq.vj,E,E,E,ai⟩,rfl,ba⟩ ?_;rintro⟨⟨i,hi⟩,NM,gQ⟩;(try dsimp only);refine go ?_;refine aJ (decide ((i:Int)<((iV L).length:Int))) rfl ?_ ?_<;>intro hc;(·refine fk ?_;(have aE:i<(iV L).length:=by simpa using hc);(have anh:i<(bM L).length:=by rw[GR]at aE;exact aE);obtain⟨s,hs⟩:∃s,(bM L)[i]?=some s:=⟨_,atJ anh⟩;have ani:=Zp hs;have AZ:=auz.1 (at2 hs);obtain⟨t,ax⟩:=aub.1 AZ.1;obtain⟨aZ,dj,k3,_⟩:=qJ t s ax;have asD:=G.Bh i s hs;have tO:s.si=0->s=cR bm n:=λh=>dj atv;(have anj:s.mv=true->s.si≠0:=λh z=>by rw[tO z]at h;cases h);(have ip:(bM L).getD i default=s:=by rw[avG,hs];rfl);have asE:=Zk sh bu (bM L) i;have asF:=am5 (sh:=sh) (bu:=bu) (T:=T) (i:=i) atv atv;(have asG:((jm sh bu (bM L) i).map gF).length<=202:=by rw[atL];omega);(have asH:((jm sh bu (bM L) i++[rv sh s]).map gF).length<=203:=by rw[atL,atO];simp;omega);(have asI:((f5 sh bu T i).map fp).length<=20100:=by rw[atL];omega);refine gK ?_;refine⟨λ_=>⟨awl _,av9.2 aE⟩,?_⟩;refine go ?_;refine⟨Kq L i s,λ_=>ani,?_⟩;refine go ?_;intro tn;refine go ?_;intro ns;(conv=>whnf);refine cT ?_;refine Y.l0 (α:=Unit) (λ_=>[(2,.box 2 cc 0),(7,.box 7 dJ 0),(8,.box 8 cF 0),(10,.a7 1 [u (sh:Int)] 0 0),(11,.fn (.func 227) [] [.a7 1 [u (sh:Int)] 0 0]),(12,.Q (.own 500 NM) 6 ((jm sh bu (bM L) i).map gF)),(13,.Q (.own 600 gQ) 7 ((f5 sh bu T i).map fp)),(39,.Q .none 7 (iV L)),(40,u ((iV L).length:Int)),(41,u (i:Int)),(14,u (i:Int)),(15,.box 15 tn 0),(16,.box 16 ns 0)]) (λ_=>[(2,.box cc (y3 n)),(7,.box dJ [.Q .none 7 (iV L)]),(8,.box cF [.Q .none 1 (e7 L)]),(500,.own NM ((jm sh bu (bM L) i).map gF).length 6 228),(600,.own gQ ((f5 sh bu T i).map fp).length 7 251),(15,.box tn (rs s++[.Q .none 8 (hZ L i)])),(16,.box ns (GS (rv sh s)))]) ?_ ?_;apply en;refine Y.BK aL 9 mixed atA ?_;refine go ?_;refine⟨[u (if s.mv then -1 else(s.fi:Int)),.a7 1 [u (sh:Int)] 0 0],_,λ_=>GL _ sh (by split<;>omega) GU,ar,?_⟩;refine ez ?_;refine⟨[u (s.fi:Int),.a7 1 [u (sh:Int)] 0 0],_,λ_=>GL _ sh atv GU,ar,?_⟩;apply cD;apply cD;refine jb ?_;refine aJ s.mv rfl ?_ ?_<;>intro hc;refine go ?_;exact⟨(),[(2,2),(7,7),(8,8),(500,500),(600,600),(15,15),(16,16)],ar,rfl,rfl,rfl,rfl,rfl,rfl,rfl,rfl,rfl,rfl,rfl,rfl,rfl,rfl,atI (λV=>some (aI.box ns V)) (am_ (anj hc) hc),ai⟩;refine go ?_;exact⟨(),[(2,2),(7,7),(8,8),(500,500),(600,600),(15,15),(16,16)],ar,rfl,rfl,rfl,rfl,rfl,rfl,rfl,rfl,rfl,rfl,rfl,rfl,rfl,rfl,atI (λV=>some (aI.box ns V)) (am' tO hc),ai⟩;rintro⟨⟩;refine lm ?_;refine nE ?_;refine⟨by show(_+1)*64<=_;omega,by show _+1<=_;omega,atC,λQy=>?_⟩;(conv=>whnf);(have asJ:(jm sh bu (bM L) i).map gF++[gF (rv sh s)]=(jm sh bu (bM L) i++[rv sh s]).map gF:=by simp);(have sJ:jm sh bu (bM L) (i+1)=jm sh bu (bM L) i++[rv sh s]++wm sh bu i:=by rw[jm,ip];simp);refine Y.l0 (α:=Value×Value) (λV=>[(2,.box 2 cc 0),(7,.box 7 dJ 0),(8,.box 8 cF 0),(10,.a7 1 [u (sh:Int)] 0 0),(11,.fn (.func 227) [] [.a7 1 [u (sh:Int)] 0 0]),(12,.Q (.own 500 V.1) 6 ((jm sh bu (bM L) (i+1)).map gF)),(13,.Q (.own 600 V.2) 7 ((f5 sh bu T i++iB sh bu i).map fp)),(39,.Q .none 7 (iV L)),(40,u ((iV L).length:Int)),(41,u (i:Int)),(14,u (i:Int)),(15,.box 15 tn 0)]) (λV=>[(2,.box cc (y3 n)),(7,.box dJ [.Q .none 7 (iV L)]),(8,.box cF [.Q .none 1 (e7 L)]),(500,.own V.1 ((jm sh bu (bM L) (i+1)).map gF).length 6 228),(600,.own V.2 ((f5 sh bu T i++iB sh bu i).map fp).length 7 251),(15,.box tn (rs s++[.Q .none 8 (hZ L i)]))]) ?_ ?_;apply b3;refine yb (u (sh:Int)) ?_;refine go ?_;refine aJ (bif decide ((i:Int)=0)then decide ((0:Int)<(sh:Int))else false) rfl ?_ ?_<;>intro hc;refine lm ?_;refine⟨[.Q .none 12 (n.J.map enc)],_,λ_=>anf,ar,?_⟩;refine ch ?_;refine pe ?_;refine⟨rfl,List.length_append.symm,?_⟩;(conv=>whnf);refine⟨by show(_+1)*64<=_;simp only[atO,atL,atQ,auf];omega,by show _+1<=_;simp only[atO,atL,atQ,auf];omega,atC,λQz=>?_⟩;refine nc ?_;refine nE ?_;refine⟨by show(_+1)*56<=_;omega,by show _+1<=_;omega,atC,λqz=>?_⟩;refine go ?_;(have k5:i=0/\sh≠0:=by cases h:decide ((i:Int)=0)<;>rw[h]at hc;cases hc;have h1:=auc h;have z:=auc hc;omega);have qy:wm sh bu i=[⟨[47],bu,2,0,0,false⟩]:=atH k5;have oV:iB sh bu i=[⟨[47],bu,0,1,true,false,false⟩]:=atH k5;(have bT:(jm sh bu (bM L) i).map gF++[gF (rv sh s)]++[gF ⟨[47],bu,2,0,0,false⟩]=(jm sh bu (bM L) (i+1)).map gF:=by rw[sJ,qy];simp);(have b0:(f5 sh bu T i).map fp++[fp ⟨[47],bu,0,1,true,false,false⟩]=(f5 sh bu T i++iB sh bu i).map fp:=by rw[oV];simp);exact⟨(Qz,qz),[(2,2),(7,7),(8,8),(500,78),(600,83),(15,15)],⟨E,E,E,E,E,aq.trans (aq.of_eq (atI (D.Q (.own 78 Qz) 6) bT)) (aq.own _ _),aq.trans (aq.of_eq (atI (D.Q (.own 83 qz) 7) b0)) (aq.own _ _),E,E,E,E,E,ai⟩,rfl,rfl,rfl,rfl,rfl,rfl,rfl,rfl,atI (λV:Nat=>some (aI.own Qz V 6 228)) (by rw[<-bT];exact List.length_append.symm),rfl,atI (λV:Nat=>some (aI.own qz V 7 251)) (aym),rfl,ba⟩;refine go ?_;(have k5:¬(i=0/\sh≠0):=λh=>by obtain⟨h1,z⟩:=h;rw[auM (show(i:Int)=0 by omega),auM (show(0:Int)<(sh:Int) by omega)]at hc;cases hc);have qy:wm sh bu i=[]:=atG k5;have oV:iB sh bu i=[]:=atG k5;(have bT:(jm sh bu (bM L) i).map gF++[gF (rv sh s)]=(jm sh bu (bM L) (i+1)).map gF:=by rw[sJ,qy];simp);(have b0:(f5 sh bu T i).map fp=(f5 sh bu T i++iB sh bu i).map fp:=by rw[oV];simp);exact⟨(Qy,gQ),[(2,2),(7,7),(8,8),(500,64),(600,600),(15,15)],⟨E,E,E,E,E,aq.trans (aq.of_eq (atI (D.Q (.own 64 Qy) 6) bT)) (aq.own _ _),aq.of_eq (atI (D.Q (.own 600 gQ) 7) b0),E,E,E,E,E,ai⟩,rfl,rfl,rfl,rfl,rfl,rfl,rfl,rfl,atI (λV:Nat=>some (aI.own Qy V 6 228)) (by rw[<-bT];exact List.length_append.symm),rfl,atI (λV:List D=>some (aI.own gQ V.length 7 251)) b0,rfl,ba⟩;rintro⟨Dy,QA⟩;(try dsimp only);generalize fG:T.filter (λx=>x.fi==i)=R;(have ank:R.length<=T.length:=by rw[<-fG];exact aun _ _);(have anl:hZ L i=R.map pK:=by rw[Bm,fG]);(have anm:mR sh T i=R.map (aQ.mg sh):=by rw[mR,fG]);(have ann:∀x∈R,x∈T/\x.fi=i:=λx F=>by rw[<-fG]at F;simpa using auz.1 F);rw[anl];refine go ?_;refine Y.ed (α:={j:Nat // j<=R.length}×Value) (λV=>[(2,.box 2 cc 0),(7,.box 7 dJ 0),(8,.box 8 cF 0),(10,.a7 1 [u (sh:Int)] 0 0),(11,.fn (.func 227) [] [.a7 1 [u (sh:Int)] 0 0]),(12,.Q (.own 500 Dy) 6 ((jm sh bu (bM L) (i+1)).map gF)),(13,.Q (.own 600 V.2) 7 ((f5 sh bu T i++iB sh bu i++(R.take V.1.1).map (aQ.mg sh)).map fp)),(39,.Q .none 7 (iV L)),(40,u ((iV L).length:Int)),(41,u (i:Int)),(14,u (i:Int)),(85,.Q .none 8 (R.map pK)),(86,u ((R.map pK).length:Int)),(87,u (V.1.1:Int))]) (λV=>[(2,.box cc (y3 n)),(7,.box dJ [.Q .none 7 (iV L)]),(8,.box cF [.Q .none 1 (e7 L)]),(500,.own Dy ((jm sh bu (bM L) (i+1)).map gF).length 6 228),(600,.own V.2 ((f5 sh bu T i++iB sh bu i++(R.take V.1.1).map (aQ.mg sh)).map fp).length 7 251)]) (λV=>R.length-V.1.1) (⟨0,at7 _⟩,QA) [(2,2),(7,7),(8,8),(500,500),(600,600)] ⟨⟨E,E,E,E,E,E,aq.of_eq (atI (λV:List gr=>D.Q (.own 600 QA) 7 (V.map fp)) atx),E,E,E,E,E,E,E,ai⟩,rfl,rfl,rfl,rfl,rfl,rfl,rfl,rfl,rfl,rfl,atI (λV:List gr=>some (aI.own QA (V.map fp).length 7 251)) atx,ai⟩ ?_;rintro⟨⟨j,Z⟩,gQ⟩;(try dsimp only);refine go ?_;refine aJ (decide ((j:Int)<((R.map pK).length:Int))) rfl ?_ ?_<;>intro hc;(·refine fk ?_;(have zk:j<R.length:=by simpa using hc);obtain⟨x,F⟩:∃x,R[j]?=some x:=⟨_,atJ zk⟩;(have zr:(R.map pK)[j]?=some (pK x):=by rw[aud,F];rfl);obtain⟨ano,Zq⟩:=ann x (at2 F);obtain⟨gM,GV⟩:=aub.1 (show x∈L by rw[Dx];exact atU _ ano);obtain⟨_,_,_,anp⟩:=qJ gM x GV;have l5:=Qv sh bu i;(have asK:((f5 sh bu T i++iB sh bu i++(R.take j).map (aQ.mg sh)).map fp).length<=20300:=by simp only[atL,atO,at4];omega);(have Ks:(f5 sh bu T i++iB sh bu i++(R.take j).map (aQ.mg sh)).map fp++[fp (x.mg sh)]=(f5 sh bu T i++iB sh bu i++(R.take (j+1)).map (aQ.mg sh)).map fp:=by rw[YY F];simp);refine gK ?_;refine⟨λ_=>⟨awl _,by simpa using zk⟩,?_⟩;(conv=>whnf);refine⟨pK x,λ_=>zr,?_⟩;refine go ?_;intro Qq;apply cD;refine lm ?_;intro rg;apply cD;refine ch ?_;refine⟨[u (i:Int),.a7 1 [u (sh:Int)] 0 0],_,λ_=>GL _ sh atv GU,ar,?_⟩;apply cD;refine p9 ?_;refine iK ?_;refine iq ?_;refine aJ (bif decide ((0:Int)<=(if x.df then(x.di:Int)else -1))then !x.mv else false) rfl ?_ ?_<;>intro hc;(have wO:x.df=true/\x.mv=false:=by cases h1:x.df<;>cases z:x.mv<;>rw[h1,z]at hc<;>simp at hc⊢);apply kF;refine ez ?_;refine⟨[u (x.di:Int),.a7 1 [u (sh:Int)] 0 0],_,λ_=>GL _ sh atv GU,⟨dp (by rw[atH wO.1]),E,ai⟩,?_⟩;apply cD;apply kF;refine ez ?_;refine nE ?_;refine⟨by show(_+1)*56<=_;omega,by show _+1<=_;omega,atC,λqz=>?_⟩;refine go ?_;(have b0:(f5 sh bu T i++iB sh bu i++(R.take j).map (aQ.mg sh)).map fp++[.agg [.O x.path,.O (if x.mv then x.file else x.id),u (xL sh (i:Int)),u (xL sh (x.di:Int)),.bool (!x.iso),.bool x.rock,.bool x.mv]]=(f5 sh bu T i++iB sh bu i++(R.take (j+1)).map (aQ.mg sh)).map fp:=by rw[<-Ks,fp,aQ.mg,Zq,wO.1,wO.2,Dw,Dw];rfl);exact⟨(⟨j+1,zk⟩,qz),[(2,2),(7,7),(8,8),(500,500),(600,113)],by show _-(j+1)<_-j;omega,⟨E,E,E,E,E,E,aq.trans (aq.of_eq (atI (D.Q (.own 113 qz) 7) b0)) (aq.own _ _),E,E,E,E,E,E,E,ai⟩,rfl,rfl,rfl,rfl,rfl,rfl,rfl,rfl,rfl,rfl,atI (λV:Nat=>some (aI.own qz V 7 251)) (aym),ai⟩;apply cl;apply kF;refine ez ?_;refine nE ?_;refine⟨by show(_+1)*56<=_;omega,by show _+1<=_;omega,atC,λqz=>?_⟩;refine go ?_;(have wO:(x.df&&!x.mv)=false:=by cases h1:x.df<;>cases z:x.mv<;>rw[h1,z]at hc<;>first|rfl|(exfalso;simp at hc;done));(have b0:(f5 sh bu T i++iB sh bu i++(R.take j).map (aQ.mg sh)).map fp++[.agg [.O x.path,.O (if x.mv then x.file else x.id),u (xL sh (i:Int)),u (-1),.bool (!x.iso),.bool x.rock,.bool x.mv]]=(f5 sh bu T i++iB sh bu i++(R.take (j+1)).map (aQ.mg sh)).map fp:=by rw[<-Ks,fp,aQ.mg,Zq,wO,Dw];rfl);exact⟨(⟨j+1,zk⟩,qz),[(2,2),(7,7),(8,8),(500,500),(600,113)],by show _-(j+1)<_-j;omega,⟨E,E,E,E,E,E,aq.trans (aq.of_eq (atI (D.Q (.own 113 qz) 7) b0)) (aq.own _ _),E,E,E,E,E,E,E,ai⟩,rfl,rfl,rfl,rfl,rfl,rfl,rfl,rfl,rfl,rfl,atI (λV:Nat=>some (aI.own qz V 7 251)) (aym),ai⟩);refine go ?_;(have zU:j=R.length:=by simp at hc;omega);rw[zU,atW,<-anm];clear zU hc Z j;have l5:=Qv sh bu i;have Dh:=Zm sh T i;refine go ?_;refine aJ (decide ((i:Int)=0)) rfl ?_ ?_<;>intro hc;(·(have k5:i=0:=by simpa using hc);refine go ?_;refine Y.ed (α:={k:Nat // k<=(ee L).length}×Value) (λV=>[(2,.box 2 cc 0),(7,.box 7 dJ 0),(8,.box 8 cF 0),(10,.a7 1 [u (sh:Int)] 0 0),(11,.fn (.func 227) [] [.a7 1 [u (sh:Int)] 0 0]),(12,.Q (.own 500 Dy) 6 ((jm sh bu (bM L) (i+1)).map gF)),(13,.Q (.own 600 V.2) 7 ((f5 sh bu T i++iB sh bu i++mR sh T i++((ee L).take V.1.1).map (aQ.oA sh)).map fp)),(39,.Q .none 7 (iV L)),(40,u ((iV L).length:Int)),(41,u (i:Int)),(117,.Q .none 1 (e7 L)),(118,u ((e7 L).length:Int)),(119,u (V.1.1:Int))]) (λV=>[(2,.box cc (y3 n)),(7,.box dJ [.Q .none 7 (iV L)]),(8,.box cF [.Q .none 1 (e7 L)]),(500,.own Dy ((jm sh bu (bM L) (i+1)).map gF).length 6 228),(600,.own V.2 ((f5 sh bu T i++iB sh bu i++mR sh T i++((ee L).take V.1.1).map (aQ.oA sh)).map fp).length 7 251)]) (λV=>(ee L).length-V.1.1) (⟨0,at7 _⟩,gQ) [(2,2),(7,7),(8,8),(500,500),(600,600)] ⟨⟨E,E,E,E,E,E,aq.of_eq (atI (λV:List gr=>D.Q (.own 600 gQ) 7 (V.map fp)) atx),E,E,E,E,E,E,ai⟩,rfl,rfl,rfl,rfl,rfl,rfl,rfl,rfl,rfl,rfl,atI (λV:List gr=>some (aI.own gQ (V.map fp).length 7 251)) atx,ai⟩ ?_;rintro⟨⟨k,X⟩,anq⟩;(try dsimp only);refine go ?_;refine aJ (decide ((k:Int)<((e7 L).length:Int))) rfl ?_ ?_<;>intro hc;refine fk ?_;(have iH:k<(ee L).length:=by rw[e7,atL]at hc;simpa using hc);obtain⟨x,F⟩:∃x,(ee L)[k]?=some x:=⟨_,atJ iH⟩;(have zr:(e7 L)[k]?=some (.int .i64 (x.di:Int)):=by rw[e7,aud,F];rfl);have GW:=auz.1 (at2 F);obtain⟨gM,GV⟩:=aub.1 GW.1;obtain⟨anr,Dn,_,anp⟩:=qJ gM x GV;(have ans:x.si≠0:=λh=>by rw[Dn atv]at GW;cases GW.2);(have ant:x.df=true:=by obtain⟨p,anu⟩:=G.at (Nat.pos_of_ne_zero atv) GV;have:=anu.mv;rw[GW.2]at this;cases h:x.df with|true=>rfl|false=>rw[h]at this;cases this);obtain⟨ru,Bk⟩:=G.Bi (by rw[anr];exact GV) ant;have anv:=Zp ru;(have pY:k<=100:=by rw[Kr]at iH;omega);(have asL:((f5 sh bu T i++iB sh bu i++mR sh T i++((ee L).take k).map (aQ.oA sh)).map fp).length<=20400:=by rw[Kr]at iH⊢;simp only[atL,atO,at4];omega);(have Ks:(f5 sh bu T i++iB sh bu i++mR sh T i++((ee L).take k).map (aQ.oA sh)).map fp++[fp (x.oA sh)]=(f5 sh bu T i++iB sh bu i++mR sh T i++((ee L).take (k+1)).map (aQ.oA sh)).map fp:=by rw[YY F];simp);refine gK ?_;refine⟨λ_=>⟨awl _,auc hc⟩,?_⟩;refine go ?_;refine⟨u (x.di:Int),λ_=>zr,?_⟩;refine go ?_;refine⟨λ_=>⟨awl _,by rw[GR];exact av9.2 Bk⟩,?_⟩;refine go ?_;refine⟨Kq L x.di x,λ_=>anv,?_⟩;refine go ?_;intro PQ;(conv=>whnf);refine cT ?_;refine Y.BK aL 10 mixed atA ?_;refine go ?_;refine⟨[u (x.di:Int),.a7 1 [u (sh:Int)] 0 0],_,λ_=>GL _ sh atv GU,ar,?_⟩;(conv=>whnf);refine nE ?_;refine⟨by show(_+1)*56<=_;omega,by show _+1<=_;omega,atC,λqz=>?_⟩;refine go ?_;(have b0:(f5 sh bu T i++iB sh bu i++mR sh T i++((ee L).take k).map (aQ.oA sh)).map fp++[.agg [.O x.path,.O (if x.si=0 then[0]else if x.mv then 68::Lib.decDigits x.mno else x.id),u 1,u (xL sh (x.di:Int)),.bool true,.bool true,.bool false]]=(f5 sh bu T i++iB sh bu i++mR sh T i++((ee L).take (k+1)).map (aQ.oA sh)).map fp:=by rw[<-Ks,fp,aQ.oA,atG ans,atH GW.2,Dw]);exact⟨(⟨k+1,iH⟩,qz),[(2,2),(7,7),(8,8),(500,500),(600,138)],by show _-(k+1)<_-k;omega,⟨E,E,E,E,E,E,aq.trans (aq.of_eq (atI (D.Q (.own 138 qz) 7) b0)) (aq.own _ _),E,E,E,E,E,E,ai⟩,rfl,rfl,rfl,rfl,rfl,rfl,rfl,rfl,rfl,rfl,atI (λV:Nat=>some (aI.own qz V 7 251)) (aym),ai⟩;(have f':k=(ee L).length:=by have h1:=at0 hc;rw[e7,atL]at h1;omega);(have v':f5 sh bu T (i+1)=f5 sh bu T i++iB sh bu i++mR sh T i++((ee L).take k).map (aQ.oA sh):=by rw[f5,zt,atH k5,f',atW,Kr];simp);rw[<-v'];refine go ?_;exact⟨(⟨i+1,aE⟩,Dy,anq),[(2,2),(7,7),(8,8),(500,500),(600,600)],by show _-(i+1)<_-i;omega,ar,rfl,ba⟩);(have k5:¬i=0:=by simpa using hc);(have v':f5 sh bu T (i+1)=f5 sh bu T i++iB sh bu i++mR sh T i:=by rw[f5,zt,atG k5];simp);rw[<-v'];refine go ?_;exact⟨(⟨i+1,aE⟩,Dy,gQ),[(2,2),(7,7),(8,8),(500,500),(600,600)],by show _-(i+1)<_-i;omega,ar,rfl,ba⟩);(have cg:i=(bM T).length+1:=by simp at hc;omega);(have QB:jm sh bu (bM L) i=lN bu T:=by rw[cg,uX,<-i1];refine am7 bu rfl λs hs=>?_;have AZ:=auz.1 hs;obtain⟨t,ax⟩:=aub.1 AZ.1;have:=G.si (show L[t+1]?=some s by rw[Dx];exact ax);omega);(have anw:f5 sh bu T i=tp bu T:=by rw[cg,<-i1];exact am6 bu T);rw[QB,anw];refine go ?_;exact⟨aq.m7,aq.m7,E,ai⟩
end Go.bS.cp
