/- Contracts of the program's functions, part 7. No conditions of its own. -/
import Derived.Test.YtfnpcdbnoggloaaGreatDoorL6
set_option linter.unnecessarySimpa false
set_option linter.unusedSimpArgs false
set_option linter.unusedVariables false
set_option maxRecDepth 100000
set_option maxHeartbeats 16000000
namespace Go.bR.ck
open Go Go.Proofs
variable{B:World}{am:Nat}{z:au}{K:cJ->au->Prop}{c:Code}{v:Value}{xs:List D}{k e:Nat}
theorem aky{U:b7 Tryz.prog B am}(s:Nat)(h:v.oneCell'=true->W U c z K)(hs:z.H s=some (.row v xs k e):=by exact rfl):W U c z K :=
 ⟨λa w C M=>by
  obtain⟨dE,cap,X,_⟩:=M.heap.cj s _ hs
  exact(h (by rw[X];rfl)).run a w C M⟩
def eT(aD:List (atG×Int))(vs:Nat->Value)(aY lr:Nat->Int):List D:=aD.mapIdx λj d=>nG d.1 d.2 (vs j) (aY j) (lr j)
def iM(vs:Nat->Value)(f:Nat->List D)(n:Nat):bE:=λk=>if 10000<=k/\k<10000+n then some (.row (vs (k-10000)) (f (k-10000)) 12 234)else none
variable{aD:List (atG×Int)}{lr:Nat->Int}
theorem h6{vs:Nat->Value}{aY:Nat->Int}:(eT aD vs aY lr).length=aD.length:=by simp[eT]
variable{i:Nat}
theorem CX{vs:Nat->Value}{aY:Nat->Int}(h:i<aD.length):(eT aD vs aY lr)[i]?=some (nG aD[i].1 aD[i].2 (vs i) (aY i) (lr i)):=by unfold eT;rw[auK,atK h];rfl
theorem akz{vs:Nat->Value}{aY AV JF:Nat->Int}(h:i<aD.length)(hs:∀j,j≠i->AV j=aY j/\JF j=lr j):(eT aD vs aY lr).set i (nG aD[i].1 aD[i].2 (vs i) (AV i) (JF i))=eT aD vs AV JF:=by apply au4;intro j;rw[avO];by_cases d9:i=j;subst d9;rw[atI rfl,atI (by rw[h6];exact h),CX h];rw[atH d9];unfold eT;simp only[auK];rw[(hs j (λh=>d9 h.symm)).1,(hs j (λh=>d9 h.symm)).2]
theorem gD(vs:Nat->Value)(f:Nat->List D)(n:Nat):pf (iM vs f n):=λk o h=>by
 unfold iM at h;split at h
 ·omega
 cases h
theorem Ph{vs:Nat->Value}{f:Nat->List D}{n:Nat}(h:i<n):iM vs f n (10000+i)=some (.row (vs i) (f i) 12 234):=by unfold iM;rw[atI atw,auR]
variable{row:List D}
theorem XV{vs:Nat->Value}{f yo:Nat->List D}{n:Nat}(X:vs i=v)(ae:yo i=row)(uB:∀j,j≠i->yo j=f j):
  ∀k o,iM vs yo n k=some o->10000<=k/\((k=10000+i/\o=.row v row 12 234)\/(k≠10000+i/\kO (iM vs f n) (10000+i) k=some o)):=λk o h=>by
 unfold iM at h;split at h
 ·rename_i Y;refine⟨Y.1,?_⟩;by_cases fA:k=10000+i
  ·subst fA;rw[auR,X,ae]at h;exact .inl ⟨rfl,(auD h).symm⟩
  refine .inr ⟨fA,?_⟩;unfold kO iM;rw[au' fA,atI Y,<-uB (k-10000) atw];exact h
 cases h
def fN(bD:Nat->Int)(a:Int):Nat->Int
 |0=>a
 |i+1=>fN bD a i+bD i
theorem CY{bD:Nat->Int}{a b:Int}{n:Nat}(h:∀i,i<n->0<=bD i/\bD i<=b):∀i,i<=n->a<=fN bD a i/\fN bD a i<=a+b*(i:Int)
 |0,_=>by simp[fN]
 |i+1,hi=>by have h1:=CY (a:=a) h i atw;have A:=h i atw;rw[fN];(have:b*((i+1:Nat):Int)=b*(i:Int)+b:=by rw[Int.natCast_succ,Int.mul_add,Int.mul_one]);omega
variable{L:List bQ}
section
variable(aH:bQ->List c8)(wide:Bool)
def Gs(x y:{x:bQ // wb aH wide x}):Int:=xj x.1.id y.1.id wide
open Classical in
noncomputable def oW(L:List bQ):List bQ:=if h:∀x∈L,wb aH wide x then(gd (Gs aH wide) (L.attachWith _ h)).map (·.1)else[]
theorem XW(h:∀x∈L,wb aH wide x):oW aH wide L=(gd (Gs aH wide) (L.attachWith _ h)).map (·.1):=avw h
theorem JG:∀x∈oW aH wide L,wb aH wide x:=λx F=>by
 unfold oW at F;split at F
 ·obtain⟨y,_,rfl⟩:=aub.1 F;exact y.2
 cases F
theorem JH:(oW aH wide L).length<=L.length:=by unfold oW;split;rw[atL,ads,List.length_attachWith];exact atQ _;simp
noncomputable def Pi(L:List bQ):List Int:=(oW aH wide L).map λx=>qo x.id (gP aH x)
noncomputable def y5(L:List bQ):Int:=yM (Pi aH wide L)
def JI(be:Nat->List bQ)(n:Nat):List Int:=(List.range n).flatMap λi=>(be i).map λx=>(l1 aH x).2
def wc(be:Nat->List bQ)(n:Nat):Int:=((JI aH be n).find? λe=>!(e==0)).getD 0
def jX(o n:Int):Int:=(if n>2048-o.tmod 2048 then o+(2048-o.tmod 2048)else o)+n
noncomputable def wd(be:Nat->List bQ)(n:Nat):List Int:=(List.range n).flatMap λi=>(oW aH wide (be i)).flatMap λx=>(gP aH x).tail
noncomputable def y6(be:Nat->List bQ)(n:Nat)(a:Int):Int:=fN (λi=>y5 aH wide (be i)) a n+j6 ((wd aH wide be n).foldl jX 0)
noncomputable def Gt(be:Nat->List bQ)(n:Nat)(a:Int):D:=if wc aH be n=0 then .bp [u (y6 aH wide be n a),u 0]else .bp [u 0,u (wc aH be n)]
end
variable{aH:bQ->List c8}{wide:Bool}
theorem XX(h:L.length<400000):0<=y5 aH wide L/\y5 aH wide L<=2000000:=by have:=JH aH wide (L:=L);exact agQ _ (by unfold Pi;rw[atL];omega)
theorem akA{n:Nat}(h:i<=n):List.range n=List.range i++(List.range (n-i)).map (·+i):=by obtain⟨m,rfl⟩:∃m,n=i+m:=⟨n-i,by omega⟩;rw[List.range_add,auR];simp only[awy]
variable{be:Nat->List bQ}
theorem akB{n:Nat}(h:∀j,j<n->∀x∈be j,(l1 aH x).2=0):wc aH be n=0:=by unfold wc;rw[avj.2 (λe ao=>?_)];rfl;obtain⟨j,aa,hm⟩:=avG.1 ao;obtain⟨x,F,rfl⟩:=aub.1 hm;rw[h j (avg.1 aa) x F];decide
theorem akC{n:Nat}(hi:i<n)(h:∀j,j<i->∀x∈be j,(l1 aH x).2=0)(Y:k<(be i).length)(A:∀j (aa:j<k),(l1 aH (be i)[j]).2=0)(Z:(l1 aH (be i)[k]).2≠0):wc aH be n=(l1 aH (be i)[k]).2:=by unfold wc;(have aG:JI aH be n=(JI aH be i++((be i).take k).map λx=>(l1 aH x).2)++(l1 aH (be i)[k]).2::(((be i).drop (k+1)).map (λx=>(l1 aH x).2)++((List.range (n-(i+1))).map (·+(i+1))).flatMap λi=>(be i).map λx=>(l1 aH x).2):=by unfold JI;rw[akA (show i+1<=n from hi),avy,avl,avy,auL,List.flatMap_nil,auG];(conv=>lhs;arg 1;arg 2;rw[<-avb k (be i),auQ Y,auq,aui]);simp only[aup,auS]);rw[aG,List.find?_append,avj.2 (λe ao=>?_)];rw[Option.none_or,List.find?_cons_of_pos (by simpa using Z)];rfl;rcases aue.1 ao with ao|ao;obtain⟨j,aa,hm⟩:=avG.1 ao;obtain⟨x,F,rfl⟩:=aub.1 hm;rw[h j (avg.1 aa) x F];decide;obtain⟨x,F,rfl⟩:=aub.1 ao;obtain⟨j,aa,rfl⟩:=aur.1 F;rw[at7]at aa;rw[List.getElem_take,A j atw];decide
theorem akD(n:Int)(h0:0<=n)(h1:n<1000000000000000):aU B 171 [u n] (u (j6 n)):=by refine fn Tryz.func171 Tryz.ntmps171 λU=>?_;refine go ?_;have G:(n+2048-1).tdiv 2048=(n+2048-1)/2048:=at6 atw;refine sL (λ_=>by simp only[du];omega) ?_;(conv=>whnf);refine go ?_;exact E
def AW(B:World)(lx:aJ)(S:D)(ew:List c8):Prop:=∃b8 first cu,S=.fn (.func b8) first cu/\c1 B b8 (first++[.fn (.func 173) [] []]++cu) (aL [(7100,lx)]) λd aP=>d=.Q .none 3 (eC ew)/\aP=aL [(7100,lx)]
def we(bD:Nat->Int)(a:Int)(i j:Nat):Int:=if j<i then fN bD a j else 0
def wg(bD:Nat->Int)(i j:Nat):Int:=if j<i then bD j*2048 else 0
noncomputable def wh(bT:bQ->D)(aH:bQ->List c8)(wide:Bool)(be:Nat->List bQ)(i j:Nat):List D:=if j<i then(oW aH wide (be j)).map (ke bT aH)else(be j).map (jv bT)
theorem akE(bD:Nat->Int)(a:Int):we bD a 0=λ_=>0:=funext λj=>atH atw
theorem akF(bD:Nat->Int):wg bD 0=λ_=>0:=funext λj=>atH atw
theorem akG(bT:bQ->D)(aH:bQ->List c8)(wide:Bool)(be:Nat->List bQ):wh bT aH wide be 0=λi=>(be i).map (jv bT):=funext λj=>atH atw
def nI(bT:bQ->D)(aH:bQ->List c8)(L:List bQ)(k:Nat):List D:=L.mapIdx λj x=>if j<k then ke bT aH x else jv bT x
variable{bT:bQ->D}
theorem xx:(nI bT aH L k).length=L.length:=by simp[nI]
theorem akH:nI bT aH L 0=L.map (jv bT):=by apply au3 (by simp[nI]);intro j h1 A;simp[nI]
theorem akI:nI bT aH L L.length=L.map (ke bT aH):=by apply au3 (by simp[nI]);intro j h1 A;simp only[nI,awj,awi];exact atI (by simpa[nI]using h1)
theorem akJ(h:k<L.length):(nI bT aH L k)[k]?=some (jv bT L[k]):=by unfold nI;rw[auK,atK h];simp
theorem akK(h:k<L.length):(nI bT aH L k).set k (ke bT aH L[k])=nI bT aH L (k+1):=by apply au3 (by simp[nI]);intro j h1 A;rw[awZ];simp only[nI,awj];exact axA
theorem akL(n:Nat):0<=vS (n:Nat) 0/\vS (n:Nat) 0<=254:=by unfold vS;split;omega;split;rename_i h;(have:0<=yK (n:Nat):=by unfold yK;rw[at6 atw];omega);omega;omega
theorem akM(hs:∀x,(bT x).one=true)(aH:bQ->List c8)(x:bQ):Ac (ke bT aH x):=⟨_,rfl,rfl,CW hs aH x⟩
def rb(bT:bQ->D)(aH:bQ->List c8)(P:D)(x:bQ):D:=.agg [.O x.id,u 0,u 0,u x.fh,u x.c3,u x.gH,u 1,.O [],u x.leads,bT x,.Q .none 1 (br (gP aH x)),P]
theorem akN(bT:bQ->D)(aH:bQ->List c8)(x:bQ):rb bT aH .bj x=ke bT aH x:=rfl
def ir(bT:bQ->D)(aH:bQ->List c8)(L:List bQ)(k:Nat):List D:=L.mapIdx λj x=>if j<k then rb bT aH .any x else ke bT aH x
theorem CZ:(ir bT aH L k).length=L.length:=by simp[ir]
theorem akO:ir bT aH L 0=L.map (ke bT aH):=by apply au3 (by simp[ir]);intro j h1 A;simp[ir]
theorem akP:ir bT aH L L.length=L.map (rb bT aH .any):=by apply au3 (by simp[ir]);intro j h1 A;simp only[ir,awj,awi];exact atI (by simpa[ir]using h1)
theorem akQ(h:k<L.length):(ir bT aH L k).set k (rb bT aH .any L[k])=ir bT aH L (k+1):=by apply au3 (by simp[ir]);intro j h1 A;rw[awZ];simp only[ir,awj];exact axA
theorem akR(h:k<L.length):(ir bT aH L k).set k (rb bT aH .bj L[k])=ir bT aH L k:=by apply au3 (by simp[ir]);intro j h1 A;rw[awZ];split;rename_i ao;subst ao;simp only[ir,awj];rw[atH atw];rfl;rfl
theorem akS(h:k<L.length):(ir bT aH L k)[k]?=some (rb bT aH .bj L[k]):=by unfold ir;rw[auK,atK h];simp[akN]
theorem XY:∀y∈ir bT aH L k,y.cells.length=12:=λy hy=>by
 obtain⟨i,hi,rfl⟩:=aw'.1 hy;split<;>rfl
theorem XZ{a:D}(h:∀y∈xs,y.cells.length=12)(ha:a.cells.length=12):∀y∈xs.set k a,y.cells.length=12:=λy hy=>by
 rcases avV hy with h1|h1
 ·exact h y h1
 rw[h1];exact ha
theorem X0{a b:D}(h:dN a.cells b.cells):dN (b2 (xs.set k a)) (b2 (xs.set k b)):=by refine dN.b2 aty λi x y F hy=>?_;rw[avO]at F hy;split at F;rename_i ao;rw[atI ao]at hy;split at F;rename_i al;rw[atI al]at hy;cases F;cases hy;exact h;cases F;rename_i ao;rw[atH ao,F]at hy;cases hy;exact E
theorem X1{x:bQ}{P X2:D}(h:aq P X2):dN (rb bT aH P x).cells (rb bT aH X2 x).cells :=
 ⟨E,E,E,E,E,E,E,E,E,E,E,h,ak⟩
noncomputable def uI(bT:bQ->D)(aH:bQ->List c8)(wide:Bool)(be:Nat->List bQ)(i j:Nat):List D:=(oW aH wide (be j)).map (rb bT aH (if j<i then .any else .bj))
noncomputable def sg(aH:bQ->List c8)(wide:Bool)(be:Nat->List bQ)(i:Nat):Int:=(wd aH wide be i).foldl jX 0
theorem akT:sg aH wide be (i+1)=((oW aH wide (be i)).flatMap λx=>(gP aH x).tail).foldl jX (sg aH wide be i):=by unfold sg wd;rw[avl,avy,auT];simp
theorem akU{o n:Int}(ah:0<=o)(aw:0<=n/\n<=300000):o<=jX o n/\jX o n<=o+302048:=by unfold jX;rw[au2 ah];split<;>omega
theorem X3{l:List Int}(al:∀n∈l,0<=n/\n<=300000):∀{o:Int},0<=o->0<=l.foldl jX o/\l.foldl jX o<=o+302048*(l.length:Int):=by induction l with|nil=>intro o ah;simp;exact ah|cons n l aZ =>intro o ah;have h1:=akU ah (al n atU);have A:=aZ (λm hm=>al m (atY _ hm)) (o:=jX o n) atw;rw[au0,atT];omega
theorem akV{bD:Nat->Int}{a:Int}(h:∀i,0<=bD i):∀{i j:Nat},i<=j->fN bD a i<=fN bD a j:=λ{i j} d9=>by
 induction j with
 |zero=>rw[show i=0 by omega];exact auN _
 |succ j aZ =>
  rcases at3 i (j+1)with h1|h1
  ·have:=aZ atw;have:=h j;rw[fN];omega
  rw[show i=j+1 by omega];exact auN _
theorem X4{l:List f1}(h:∀x∈l,x.id.length<=10000):0<=ky l/\ky l<=10009*(l.length:Int):=by(have:∀k,k<=l.length->0<=ky (l.take k)/\ky (l.take k)<=10009*(k:Int):=λk=>by induction k with|zero=>intro _;simp[ky]|succ k aZ =>intro Y;have h1:=aZ atw;have A:=h _ (atO (show k<l.length by omega));have Z:=OK l[k].id.length;rw[OJ atw];omega);have:=this l.length (atQ _);rw[atX]at this;exact this
theorem akW(a1:db B)(bT:bQ->D)(hs:∀x,(bT x).one=true)(aH:bQ->List c8)(wide:Bool)(lx:aJ)(aD:List (atG×Int))(be:Nat->List bQ)(vs:Nat->Value)(b5:Value)(dM:Nat)(a:Int)(T:List f1)(ha:0<=a/\a<=1000000000000000)(aw:aD.length<=1000000)(hT:T.length<1000000/\∀x∈T,x.id.length<=10000)(al:∀i,i<aD.length->(be i).length<400000)(Pj:fN (λi=>((be i).length:Nat)) 0 aD.length<=10000000)(kF:∀i,i<aD.length->∀x∈be i,x.id.length<1000000/\(wide=false->io x.id)/\(aH x).length<1000000/\∀y∈aH x,y.qk.length<1000000/\y.data.length<1000000)(Gu:∀i,i<aD.length->∀x∈be i,AW B lx (bT x) (aH x))(ik:c1 B 170 [.box 4110 dM 0] (aL [(4110,.box dM [.bool wide,.ai b5,u 0,u 0,u 0]),(4111,.row b5 (eT aD vs (λ_=>0) (λ_=>0)) 5 249)]) λd aP=>d=.Q .none 3 (d7 T)/\aP=aL [(4110,.box dM [.bool wide,.ai b5,u 0,u 0,u 0]),(4111,.row b5 (eT aD vs (λ_=>0) (λ_=>0)) 5 249)]): c1 B 110 [.box 4110 dM 0,u a] (cM [(4110,.box dM [.bool wide,.ai b5,u 0,u 0,u 0]),(4111,.row b5 (eT aD vs (λ_=>0) (λ_=>0)) 5 249),(7100,lx)] (iM vs (λi=>(be i).map (jv bT)) aD.length)) λd _=>d=Gt aH wide be aD.length (a+2*j6 (ky T)):=by have akX:=X4 hT.2;(have OW:0<=j6 (ky T)/\j6 (ky T)<=1000000000:=by unfold j6;rw[at6 atw];omega);(have ar0:=ajx (B:=B) T hT.1 λx F=>by have:=hT.2 x F;omega);have ar1:=VI (B:=B) (ky T) akX.1 atw;generalize bC:ky T=V at*;generalize an:j6 V=aj at*;refine ye Tryz.func110 Tryz.ntmps110 λU=>?_;refine W.iY [(0,.box 4110 dM 0),(1,u a)] (cM [(4110,.box dM [.bool wide,.ai b5,u 0,u 0,u 0]),(4111,.row b5 (eT aD vs (λ_=>0) (λ_=>0)) 5 249),(7100,lx)] (iM vs (λi=>(be i).map (jv bT)) aD.length)) (fB.same cO λk o h=>h) ?_;apply el;refine W.p6 rfl (gD _ _ _) λie=>?_;refine go ?_;intro cm;(conv=>whnf);refine da ?_;refine W.iY [(1,u a),(2,.box 2 cm 0)] (cM [(2,.box cm [.box 4110 dM 0]),(4110,.box dM [.bool wide,.ai b5,u 0,u 0,u 0]),(4111,.row b5 (eT aD vs (λ_=>0) (λ_=>0)) 5 249),(7100,lx)] (iM vs (λi=>(be i).map (jv bT)) aD.length)) (oJ [(2,2),(4110,4110),(4111,4111),(7100,7100)] (gD _ _ _)) ?_;apply el;refine W.p6 rfl (gD _ _ _) λie=>?_;refine' eH [(2,.box cm [.box 4110 dM 0]),(4110,.box dM [.bool wide,.ai b5,u 0,u 0,u 0]),(4111,.row b5 (eT aD vs (λ_=>0) (λ_=>0)) 5 249),(7100,lx)] 0 (λy:Nat=>[_,_,.Q .none 3 (d7 T),u V,_,_,.any]) (λy=>[(6,4110,some (.box dM [.bool wide,.ai b5,u V,u 0,u 0]))]) [0,0,2,6,15,31,63] [(6,4110)] ?_ ?_;rotate_left 4;refine dw ?_;refine bS (λy=>af.BU rfl [.box 4110 dM 0] [(4110,4110),(4111,4111)] (hs:=[(4110,.box dM [.bool wide,.ai b5,u 0,u 0,u 0]),(4111,.row b5 (eT aD vs (λ_=>0) (λ_=>0)) 5 249)]) ⟨rfl,bc⟩ ik rfl ar E (cw y)) ?_;refine Go.bR.ck.vs ?_;exact trivial;intro _;(conv=>whnf);refine W.iY [(1,u a),(2,.box 2 cm 0)] (cM [(2,.box cm [.box 4110 dM 0]),(4110,.box dM [.bool wide,.ai b5,u V,u 0,u 0]),(4111,.row b5 (eT aD vs (λ_=>0) (λ_=>0)) 5 249),(7100,lx)] (iM vs (λi=>(be i).map (jv bT)) aD.length)) (oJ [(2,2),(4110,4110),(4111,4111),(7100,7100)] (gD _ _ _)) ?_;apply el;refine W.p6 rfl (gD _ _ _) λie=>?_;refine go ?_;refine W.iY [(1,u a),(2,.box 2 cm 0)] (cM [(2,.box cm [.box 4110 dM 0]),(4110,.box dM [.bool wide,.ai b5,u V,u a,u 0]),(4111,.row b5 (eT aD vs (λ_=>0) (λ_=>0)) 5 249),(7100,lx)] (iM vs (λi=>(be i).map (jv bT)) aD.length)) (oJ [(2,2),(4110,4110),(4111,4111),(7100,7100)] (gD _ _ _)) ?_;refine W.p6 rfl (gD _ _ _) λie=>?_;refine' eH [(2,.box cm [.box 4110 dM 0]),(4110,.box dM [.bool wide,.ai b5,u V,u a,u 0]),(4111,.row b5 (eT aD vs (λ_=>0) (λ_=>0)) 5 249),(7100,lx)] 0 (λy:Nat=>[_,_,_,_,_,_,_,u (a+aj),_,_,.any]) (λy=>[(10,4110,some (.box dM [.bool wide,.ai b5,u V,u a,u (a+aj)]))]) [0,0,0,4,12,28,60,126,255,511,1023] [(10,4110)] ?_ ?_;rotate_left 9;refine dw ?_;refine Go.bR.ck.vs ?_;exact trivial;intro _;(conv=>whnf);refine W.iY [(1,u a),(2,.box 2 cm 0)] (cM [(2,.box cm [.box 4110 dM 0]),(4110,.box dM [.bool wide,.ai b5,u V,u a,u (a+aj)]),(4111,.row b5 (eT aD vs (λ_=>0) (λ_=>0)) 5 249),(7100,lx)] (iM vs (λi=>(be i).map (jv bT)) aD.length)) (oJ [(2,2),(4110,4110),(4111,4111),(7100,7100)] (gD _ _ _)) ?_;apply el;refine W.p6 rfl (gD _ _ _) λie=>?_;refine' eH [(2,.box cm [.box 4110 dM 0]),(4110,.box dM [.bool wide,.ai b5,u V,u a,u (a+aj)]),(4111,.row b5 (eT aD vs (λ_=>0) (λ_=>0)) 5 249),(7100,lx)] 0 (λy:Nat=>[_,_,_,_,_,_,_,_,_,u (a+aj+aj),_]) (λy=>[]) [0,1,3,7,0,16,48,112,240,511,1023] [] ?_ ?_;rotate_left 10;refine dw ?_;exact trivial;intro _;(conv=>whnf);(have akY:a+2*aj=a+aj+aj:=by omega);rw[akY];obtain⟨a2,CI⟩:∃a2,a+aj+aj=a2:=⟨_,rfl⟩;rw[CI];(have pW:0<=a2/\a2<=1000010000000000:=by omega);refine W.iY [(1,u a2),(2,.box 2 cm 0)] (cM [(2,.box cm [.box 4110 dM 0]),(4110,.box dM [.bool wide,.ai b5,u V,u a,u (a+aj)]),(4111,.row b5 (eT aD vs (λ_=>0) (λ_=>0)) 5 249),(7100,lx)] (iM vs (λi=>(be i).map (jv bT)) aD.length)) (oJ [(2,2),(4110,4110),(4111,4111),(7100,7100)] (gD _ _ _) (h1:=⟨.of_eq (by rw[<-CI];rfl),E,ak⟩)) ?_;apply nk;refine W.p6 rfl (gD _ _ _) λie=>?_;refine aky 4111 (λxk=>?_);refine W.ajz 4110 2 (s6 wide b5 V a (a+aj)) rfl rfl atz rfl (by simp only[awm,List.all_nil,D.one,xk,Bool.and_self]) ?_;refine iF 2 2 1 (.a_ 5 [s6 wide b5 V a (a+aj)] 0 0) ?_;refine go ?_;refine dQ (af.sF aM 4111 rfl rfl rfl rfl) ?_;rw[h6];generalize akZ:a+aj=JJ;refine W.iY [(1,u a2),(2,.a_ 1 [.a_ 5 [s6 wide b5 V a JJ] 0 0] 0 0),(57,u (aD.length:Nat)),(58,u 0)] (cM [(7100,lx),(4111,.row b5 (eT aD vs (λ_=>0) (λ_=>0)) 5 249)] (iM vs (λi=>(be i).map (jv bT)) aD.length)) (oJ [(7100,7100),(4111,4111)] (gD _ _ _)) ?_;have ar2:=VI (B:=B) 0 atz atz;obtain⟨bD,hN⟩:∃bD:Nat->Int,(λi=>y5 aH wide (be i))=bD:=⟨_,rfl⟩;(have Pk:∀i,i<aD.length->0<=bD i/\bD i<=2000000:=λi hi=>by rw[<-hN];exact XX (al i hi));refine yk (λx:Nat=>x<=aD.length/\∀j,j<x->∀y∈be j,(l1 aH y).2=0) [2,57] [7100] (λx=>[(1,u (fN bD a2 x)),(58,u x)]) (λx=>[(4111,.row b5 (eT aD vs (we bD a2 x) (wg bD x)) 5 249)]) (λx=>iM vs (wh bT aH wide be x) aD.length) (λx=>aD.length-x) 0 ⟨at4 _,λj aa=>absurd aa atw⟩ ?_ (h1:=by rw[akE,akF,akG];exact fB.same cO λk o h=>h);rintro i ⟨ci,Pl⟩;rcases at3 i aD.length with ce|ce;(·(have wK:wh bT aH wide be i i=nI bT aH (be i) 0:=by rw[akH];exact atH atw);refine W.Aa (fD:=.row (vs i) (nI bT aH (be i) 0) 12 234) 7500 (10000+i) rfl (gD _ _ _) (by rw[Ph ce,wK]) rfl atz λCU=>?_;have lo:=CX (vs:=vs) (aY:=we bD a2 i) (lr:=wg bD i) ce;have qJ:=al i ce;refine go ?_;refine vr (t:=decide ((i:Int)<(aD.length:Nat))) (by simpa using ce) ?_;refine dQ (af.ey aM 4111 rfl rfl rfl rfl rfl rfl rfl atw (by rw[h6];omega)) ?_;refine dQ (af.q' 4111 (i:=i) rfl rfl (by rw[h6];omega)) ?_;refine dQ (af.jl aM 4111 (i:=i) rfl rfl (by rw[h6];omega) rfl rfl rfl atz) ?_;refine dQ (af.n1 aM 4111 (i:=i) (j:=2) rfl rfl rfl lo) ?_;refine dQ (af.sF aM 7500 rfl rfl rfl rfl) ?_;rw[xx];refine gf (λk:Nat=>k<=(be i).length/\∀j (aa:j<(be i).length),j<k->(l1 aH (be i)[j]).2=0) [1,2,6,7,8,57,58,71] [7100,4111] (λk=>[(72,u k)]) (λk=>[(7500,.row (vs i) (nI bT aH (be i) k) 12 234)]) (λk=>(be i).length-k) 0 ⟨at4 _,λj aa h=>absurd h atw⟩ [(7100,7100),(4111,4111),(7500,7500)] ?_;rintro k ⟨Y,wi⟩;refine go ?_;refine cb (t:=decide ((k:Int)<(be i).length)) ?_ ?_<;>intro hc;(·(have eS:k<(be i).length:=by simpa using hc);obtain⟨b8,first,cu,ak0,ak1⟩:=Gu i ce _ (atO eS);obtain⟨n0,Pm,sV,TR⟩:=kF i ce _ (atO eS);have pv:=akJ (bT:=bT) (aH:=aH) eS;have XU:=VJ (B:=B) ((be i)[k].id.length:Nat) 0;have ak2:=ag4 (B:=B) (aH (be i)[k]) (254-vS ((be i)[k].id.length:Nat) 0) sV TR;have ak3:uv (aH (be i)[k]) (254-vS ((be i)[k].id.length:Nat) 0)=l1 aH (be i)[k]:=rfl;have k':=akL (be i)[k].id.length;rw[ak3]at ak2;generalize C1:(be i)[k]=x at*;refine go ?_;refine dQ (af.q' 4111 (i:=i) rfl rfl (by rw[h6];omega)) ?_;refine dQ (af.jl aM 4111 (i:=i) rfl rfl (by rw[h6];omega) rfl rfl rfl atz) ?_;refine dQ (af.n1 aM 4111 (i:=i) (j:=2) rfl rfl rfl lo) ?_;refine dQ (af.ey aM 7500 rfl rfl rfl rfl rfl rfl rfl atw (by rw[xx];omega)) ?_;refine' eH [(7100,lx),(4111,.row b5 (eT aD vs (we bD a2 i) (wg bD i)) 5 249),(7500,.row (vs i) (nI bT aH (be i) k) 12 234)] 0 (λy:Nat=>[_,_,_,.fn (.func b8) first cu,.Q .none 3 (eC (aH x)),_,_,_,_,_,_,_,_,_,_,_,_,_,_]) (λy=>[]) [0,1,3,7,15,0,32,96,224,480,992,2047,4095,8191,16383,32767,32767,65535,262143] [] ?_ ?_;rotate_left 17;refine dw ?_;refine bS (λy=>af.q' 7500 (i:=k) rfl rfl (by rw[xx];omega) (cw y)) ?_;refine bS (λy=>af.jl aM 7500 (i:=k) rfl rfl (by rw[xx];omega) rfl rfl rfl atz (cw y)) ?_;refine bS (λy=>af.n1 aM 7500 (i:=k) (j:=9) rfl rfl rfl pv (cw y (Z:=aq.of_eq ak0))) ?_;refine bS (λy=>af.BU rfl (first++[.fn (.func 173) [] []]++cu) [(7100,7100)] (hs:=[(7100,lx)]) ⟨rfl,bc⟩ ak1 rfl (dN.refl _) E (cw y)) ?_;refine bS (λy=>af.q' 7500 (i:=k) rfl rfl (by rw[xx];omega) (cw y)) ?_;refine bS (λy=>af.jl aM 7500 (i:=k) rfl rfl (by rw[xx];omega) rfl rfl rfl atz (cw y)) ?_;refine bS (λy=>af.jl aM 7500 (i:=k) rfl rfl (by rw[xx];omega) rfl rfl rfl atz (cw y)) ?_;refine bS (λy=>af.n1 aM 7500 (i:=k) (j:=0) rfl rfl rfl pv (cw y)) ?_;exact trivial;intro _;(conv=>whnf);refine go ?_;refine cb ?_ ?_<;>intro hc;(have Gv:(l1 aH x).2≠0:=by simpa using hc);have OU:=akC (aH:=aH) (n:=aD.length) ce Pl eS (λj aa=>wi j atw aa) (by rw[C1];exact Gv);rw[C1]at OU;refine go ?_;exact⟨.bp [u 0,u (l1 aH x).2],ar,(by rw[Gt,OU,atH Gv])⟩;(have Gv:(l1 aH x).2=0:=by simpa using hc);obtain⟨l2,y7,w3⟩:=XT Gv;(have ak4:=ai' (B:=B) (l1 aH x).1 (by have:(l1 aH x).1.length<=64:=y7;omega) λg aW=>by obtain⟨ta,q1⟩:=w3 g aW;exact⟨by omega,λy hy=>by have:=q1 y hy;omega⟩);have qT:=akK (bT:=bT) (aH:=aH) eS;rw[C1]at qT;refine go ?_;refine bs ak4 ?_;refine dQ (af.q' 7500 (i:=k) rfl rfl (by rw[xx];omega)) ?_;refine dQ (af.jl aM 7500 (i:=k) rfl rfl (by rw[xx];omega) rfl rfl rfl atz) ?_;refine dQ (af.vj aM 7500 (i:=k) (j:=10) rfl rfl rfl rfl pv atz rfl) ?_;refine eI (k+1) [(7100,7100),(4111,4111),(7500,7500)] ⟨by omega,λj aa h=>?_⟩ (A:=⟨cO,rfl,rfl,rfl,rfl,rfl,rfl,sM qT,ak⟩);rcases at3 j k with o6|o6;exact wi j aa o6;(have ak5:j=k:=by omega);subst ak5;rw[C1];exact Gv);(have lJ:k=(be i).length:=by simp at hc;omega);subst lJ;rw[akI];refine W.exit ?_;(conv=>whnf);(have Gw:∀x∈be i,wb aH wide x:=λx F=>by obtain⟨j,aa,rfl⟩:=aur.1 F;exact⟨(kF i ce _ F).1,(kF i ce _ F).2.1,wi j aa aa⟩);have X5:=lS.ME (B:=B) (b':={x:bQ // wb aH wide x}) (λx=>ke bT aH x.1) (λx=>akM hs aH x.1) (Gs aH wide) 177 [.a_ 1 [.a_ 5 [s6 wide b5 V a JJ] 0 0] 0 0] (λx y=>akv a1 bT hs aH x.1 y.1 wide b5 V a JJ x.2 y.2) (vs i) ((be i).attachWith _ Gw) (by rw[List.length_attachWith];exact qJ);rw[show((be i).attachWith _ Gw).map (λx=>ke bT aH x.1)=(be i).map (ke bT aH)from List.attachWith_map_val Gw,show(gd (Gs aH wide) ((be i).attachWith _ Gw)).map (λx=>ke bT aH x.1)=(oW aH wide (be i)).map (ke bT aH)from by rw[XW aH wide Gw,avN];rfl]at X5;refine go ?_;refine dQ (af.q' 4111 (i:=i) rfl rfl (by rw[h6];omega)) ?_;refine dQ (af.jl aM 4111 (i:=i) rfl rfl (by rw[h6];omega) rfl rfl rfl atz) ?_;refine dQ (af.n1 aM 4111 (i:=i) (j:=2) rfl rfl rfl lo) ?_;refine mj [(2000,7500)] X5 ?_;refine dQ (af.q' 4111 (i:=i) rfl rfl (by rw[h6];omega)) ?_;refine dQ (af.jl aM 4111 (i:=i) rfl rfl (by rw[h6];omega) rfl rfl rfl atz) ?_;refine dQ (af.n1 aM 4111 (i:=i) (j:=2) rfl rfl rfl lo) ?_;refine dQ (af.sF aM 7500 rfl rfl rfl rfl) ?_;rw[atL];have eJ:=JH aH wide (L:=be i);have xw:=JG aH wide (L:=be i);obtain⟨R,fJ⟩:∃R,oW aH wide (be i)=R:=⟨_,rfl⟩;rw[fJ]at eJ xw⊢;refine W.own 8 1000 1 3 rfl (λw0=>?_);refine gf (λx:Nat×Value=>x.1<=R.length) [1,2,6,7,57,58,116,117] [7100,4111,7500] (λx=>[(8,.Q (.own 1000 x.2) 1 (br ((R.take x.1).map λy=>qo y.id (gP aH y)))),(118,u x.1)]) (λx=>[(1000,.own x.2 (br ((R.take x.1).map λy=>qo y.id (gP aH y))).length 1 3)]) (λx=>R.length-x.1) (0,w0) (at4 _) [(7100,7100),(4111,4111),(7500,7500),(1000,1000)] ?_;rintro⟨k,w⟩ Y;dsimp only at Y⊢;refine go ?_;refine cb (t:=decide ((k:Int)<R.length)) ?_ ?_<;>intro hc;(have eS:k<R.length:=by simpa using hc);have cD:=xw _ (atO eS);have ak6:=akw (B:=B) bT hs aH R[k] cD.2.2;refine go ?_;(have wj:(R.map (ke bT aH))[k]?=some (ke bT aH R[k]):=by simp[eS]);(have cS:(R.take k).map (λy=>qo y.id (gP aH y))++[qo R[k].id (gP aH R[k])]=(R.take (k+1)).map λy=>qo y.id (gP aH y):=by rw[atM eS,auq];rfl);refine dQ (af.ey aM 7500 rfl rfl rfl rfl rfl rfl rfl atw atx) ?_;refine dQ (af.n1 aM 7500 (i:=k) (j:=0) rfl rfl rfl wj) ?_;intro ql;(conv=>whnf);refine da ?_;rw[show[D.O R[k].id,u 0,u 0,u R[k].fh,u R[k].c3,u R[k].gH,u 1,.O [],u R[k].leads,bT R[k],.Q .none 1 (br (gP aH R[k])),.bj].all D.one=true from CW hs aH R[k]];(conv=>whnf);refine da ?_;refine iF 14 14 12 (ke bT aH R[k]) ?_ (ee:=CW hs aH R[k]);refine go ?_;refine bs ak6 ?_;refine Mq (by show(_+1)*8<=_;simp only[br,atL,at7];omega) (by show _+1<=_;simp only[br,atL,at7];omega) λgm=>?_;(have oL:br ((R.take k).map λy=>qo y.id (gP aH y))++[u (qo R[k].id (gP aH R[k]))]=br ((R.take (k+1)).map λy=>qo y.id (gP aH y)):=by rw[<-cS];simp[br]);exact eI (k+1,gm) [(7100,7100),(4111,4111),(7500,7500),(1000,126)] eS (A:=⟨⟨E,E,E,E,E,E,E,E,aq.jK oL,E,ak⟩,rfl,rfl,rfl,rfl,rfl,rfl,rfl,rfl,j2 (by rw[<-oL];simp),ak⟩);(have lJ:k=R.length:=by simp at hc;omega);subst lJ;rw[atX];have X6:=agR (B:=B) (R.map λy=>qo y.id (gP aH y)) (by rw[atL];omega);(have ak7:yM (R.map λy=>qo y.id (gP aH y))=bD i:=by rw[<-fJ,<-hN];rfl);rw[ak7]at X6;have Ig:=Pk i ce;have o2:=CY (a:=a2) Pk i atw;refine W.exit ?_;(conv=>whnf);refine go ?_;refine bs X6 ?_;refine dQ (af.q' 4111 (i:=i) rfl rfl (by rw[h6];omega)) ?_;refine dQ (af.jl aM 4111 (i:=i) rfl rfl (by rw[h6];omega) rfl rfl rfl atz) ?_;refine dQ (af.vj aM 4111 (i:=i) (j:=3) rfl rfl rfl rfl lo atz rfl) ?_;refine dQ (af.q' 4111 (i:=i) rfl rfl (by rw[avd,h6];omega)) ?_;refine dQ (af.jl aM 4111 (i:=i) rfl rfl (by rw[avd,h6];omega) rfl rfl rfl atz) ?_;refine dQ (af.vj aM 4111 (i:=i) (j:=4) rfl rfl rfl rfl (by rw[av6 (by rw[h6];omega)]) atz rfl) ?_;(have l8:∀q,((eT aD vs (we bD a2 i) (wg bD i)).set i q).set i (nG aD[i].1 aD[i].2 (vs i) (fN bD a2 i) (bD i*2048))=eT aD vs (we bD a2 (i+1)) (wg bD (i+1)):=λq=>by have:=akz (vs:=vs) (aY:=we bD a2 i) (lr:=wg bD i) (AV:=we bD a2 (i+1)) (JF:=wg bD (i+1)) ce (λj aa=>by unfold we wg;by_cases h:j<i;rw[atI h,atI atw,atI h,atI atw];exact⟨rfl,rfl⟩;rw[atH h,atH atw,atH h,atH atw];exact⟨rfl,rfl⟩);rw[List.set_set,<-this];congr 2;exact(atI atw).symm;exact(atI atw).symm);(have hQ:∀j,j≠i->wh bT aH wide be (i+1) j=wh bT aH wide be i j:=λj aa=>by unfold wh;by_cases h:j<i;rw[atI h,atI atw];rw[atH h,atH atw]);(have zy:wh bT aH wide be (i+1) i=R.map (ke bT aH):=by unfold wh;rw[atI atw,fJ]);exact vu (i+1) ⟨ce,λj aa y hy=>(avL.1 aa).elim (λh=>Pl j h y hy) (λh=>by subst h;obtain⟨q,G,rfl⟩:=aur.1 hy;exact wi q G G)⟩ (t_ (fD:=.row (vs i) (R.map (ke bT aH)) 12 234) [(7100,7100),(4111,4111)] (10000+i) 7500 atw (y2 (gD _ _ _) _) (XV rfl zy hQ) (gk:=⟨rfl,rfl,rfl,sM (l8 _),ak⟩)));(have oL:i=aD.length:=by omega);subst oL;clear ce ci;refine W.p6 rfl (gD _ _ _) λie=>?_;refine go ?_;refine cb (t:=decide ((aD.length:Int)<(aD.length:Nat))) (λhc=>by simp at hc) (λhc=>?_);refine W.exit ?_;(conv=>whnf);obtain⟨bL,lm⟩:∃bL,fN bD a2 aD.length=bL:=⟨_,rfl⟩;have ak8:=CY (a:=a2) Pk aD.length (atQ _);rw[lm]at ak8⊢;(have ar3:0<=bL/\bL<=2000000000000000:=by omega);(have Pn:iM vs (wh bT aH wide be aD.length) aD.length=iM vs (uI bT aH wide be 0) aD.length:=by funext k;unfold iM;split;rename_i Y;congr 2;unfold wh uI;rw[atI atw,atH atw];rfl;rfl);(have va:Gt aH wide be aD.length a2=.bp [u (bL+j6 (sg aH wide be aD.length)),u 0]:=by unfold Gt;rw[atI (akB Pl),y6,<-lm,<-hN];rfl);rw[va];obtain⟨JK,ak9⟩:∃JK,we bD a2 aD.length=JK:=⟨_,rfl⟩;obtain⟨JL,ak_⟩:∃JL,wg bD aD.length=JL:=⟨_,rfl⟩;rw[ak9,ak_,Pn];refine W.iY [(1,u bL),(2,.a_ 1 [.a_ 5 [s6 wide b5 V a JJ] 0 0] 0 0)] (cM [(4111,.row b5 (eT aD vs JK JL) 5 249)] (iM vs (uI bT aH wide be 0) aD.length)) (oJ [(4111,4111)] (gD _ _ _)) ?_;refine go ?_;refine dQ (af.sF aM 4111 rfl rfl rfl rfl) ?_;rw[h6];obtain⟨AX,AY⟩:∃AX:Nat->Int,fN (λi=>((be i).length:Nat)) 0=AX:=⟨_,rfl⟩;(have hcs:∀i,AX (i+1)=AX i+((be i).length:Nat):=λi=>by rw[<-AY];rfl);(have l9:∀i,i<=aD.length->AX i<=10000000:=λi hi=>by rw[<-AY];exact Int.le_trans (akV (λj=>by omega) hi) Pj);(have ia:AX 0=0:=by rw[<-AY];rfl);have X7:sg aH wide be 0=0:=rfl;refine yk (λx:Nat=>x<=aD.length/\0<=sg aH wide be x/\sg aH wide be x<=20000000*AX x) [1,2,147] [4111] (λx=>[(16,u (sg aH wide be x)),(148,u x)]) (λ_=>[]) (λx=>iM vs (uI bT aH wide be x) aD.length) (λx=>aD.length-x) 0 ⟨at4 _,by rw[X7];omega,by rw[X7,ia];omega⟩ ?_ (h1:=by exact fB.same cO λk o h=>h);rintro i ⟨ci,X8,ar4⟩;rcases at3 i aD.length with ce|ce;obtain⟨R,fJ⟩:∃R,oW aH wide (be i)=R:=⟨_,rfl⟩;have eJ:=JH aH wide (L:=be i);have xw:=JG aH wide (L:=be i);rw[fJ]at eJ xw;(have Pn:uI bT aH wide be i i=ir bT aH R 0:=by rw[akO,uI,fJ,atH atw];rfl);have Po:=akT (aH:=aH) (wide:=wide) (be:=be) (i:=i);rw[fJ]at Po;generalize sg aH wide be i=fD at*;have ar5:=hcs i;have ar6:=l9 (i+1) ce;have qJ:=al i ce;refine W.Aa (fD:=.row (vs i) (ir bT aH R 0) 12 234) 7500 (10000+i) rfl (gD _ _ _) (by rw[Ph ce,Pn]) rfl atz λCU=>?_;have lo:=CX (vs:=vs) (aY:=JK) (lr:=JL) ce;refine go ?_;refine vr (t:=decide ((i:Int)<(aD.length:Nat))) (by simpa using ce) ?_;refine dQ (af.ey aM 4111 rfl rfl rfl rfl rfl rfl rfl atw (by rw[h6];omega)) ?_;refine dQ (af.jl aM 4111 (i:=i) rfl rfl (by rw[h6];omega) rfl rfl rfl atz) ?_;refine dQ (af.n1 aM 4111 (i:=i) (j:=2) rfl rfl rfl lo) ?_;refine dQ (af.sF aM 7500 rfl rfl rfl rfl) ?_;rw[CZ];refine gf (λk:Nat=>k<=R.length/\0<=((R.take k).flatMap λy=>(gP aH y).tail).foldl jX fD/\((R.take k).flatMap λy=>(gP aH y).tail).foldl jX fD<=fD+20000000*(k:Int)) [1,2,17,147,148,159] [4111] (λk=>[(16,u (((R.take k).flatMap λy=>(gP aH y).tail).foldl jX fD)),(160,u k)]) (λk=>[(7500,.row (vs i) (ir bT aH R k) 12 234)]) (λk=>R.length-k) 0 ⟨at4 _,X8,by simp⟩ [(4111,4111),(7500,7500)] ?_;rintro k ⟨Y,iA,pR⟩;refine go ?_;refine cb (t:=decide ((k:Int)<R.length)) ?_ ?_<;>intro hc;(have eS:k<R.length:=by simpa using hc);obtain⟨dJ,cx,ut⟩:=JE (xw _ (atO eS)).2.2;have pv:=akS (bT:=bT) (aH:=aH) eS;have ak':=akQ (bT:=bT) (aH:=aH) eS;have l_:=X0 (xs:=ir bT aH R k) (k:=k) (X1 (bT:=bT) (aH:=aH) (x:=R[k]) aq.rG);rw[akR eS]at l_;(have a6:((R.take (k+1)).flatMap λy=>(gP aH y).tail).foldl jX fD=(gP aH R[k]).tail.foldl jX (((R.take k).flatMap λy=>(gP aH y).tail).foldl jX fD):=by rw[atM eS,avy,auT];simp);generalize((R.take k).flatMap λy=>(gP aH y).tail).foldl jX fD=dj at*;generalize R[k]=x at*;refine go ?_;refine dQ (af.ey aM 4111 rfl rfl rfl rfl rfl rfl rfl atw (by rw[h6];omega)) ?_;refine dQ (af.jl aM 4111 (i:=i) rfl rfl (by rw[h6];omega) rfl rfl rfl atz) ?_;refine dQ (af.n1 aM 4111 (i:=i) (j:=2) rfl rfl rfl lo) ?_;refine dQ (af.ey aM 7500 rfl rfl rfl rfl rfl rfl rfl atw (by rw[CZ];omega)) ?_;refine dQ (af.q' 7500 (i:=k) rfl rfl (by rw[CZ];omega)) ?_;refine dQ (af.jl aM 7500 (i:=k) rfl rfl (by rw[CZ];omega) rfl rfl rfl atz) ?_;refine dQ (af.n1 aM 7500 (i:=k) (j:=10) rfl rfl rfl pv) ?_;refine And.intro (λ_=>by simp only[br,atL];omega) ?_;(conv=>whnf);refine da ?_;obtain⟨jw,gX⟩:∃jw,(gP aH x).tail=jw:=⟨_,rfl⟩;(have AP:jw.length<=63:=by rw[<-gX,List.length_tail];omega);have X9:∀n∈jw,0<=n/\n<=300000:=λn aw=>ut n (by rw[<-gX]at aw;exact aw6 aw);rw[gX]at a6;rw[show List.drop (Int.toNat 1) (List.take (((br (gP aH x)).length:Nat):Int).toNat (br (gP aH x)))=br jw by rw[auj,atX,<-gX];simp[br],show(br jw).length=jw.length from atL _];refine W.vk 7500 rfl aty (XZ XY rfl) l_ ?_;refine W.qE 8000 2 269 ?_;refine go ?_;refine gf (λx:Nat×Value×List D=>x.1<=jw.length/\x.2.2.length=x.1) [1,2,17,18,19,147,148,159,160,177,178] [4111] (λy=>[(16,u ((jw.take y.1).foldl jX dj)),(179,u y.1)]) (λy=>[(7500,.row (vs i) ((ir bT aH R k).set k (rb bT aH (.ai y.2.1) x)) 12 234),(8000,.row y.2.1 y.2.2 2 269)]) (λy=>jw.length-y.1) (0,.slice none 0 0,[]) ⟨at4 _,rfl⟩ [(4111,4111),(7500,7500),(8000,8000)] ?_;rintro⟨m,v,bU⟩ ⟨hm,r_⟩;dsimp only at hm r_⊢;have JM:=X3 (l:=jw.take m) (λn aw=>X9 n (auO aw)) iA;rw[at7]at JM;have G:((ir bT aH R k).set k (rb bT aH (.ai v) x))[k]?=some (rb bT aH (.ai v) x):=av6 (by rw[CZ];exact eS);(have lb:((ir bT aH R k).set k (rb bT aH (.ai v) x)).length=R.length:=by rw[avd,CZ]);refine go ?_;refine cb (t:=decide ((m:Int)<(jw.length:Nat))) ?_ ?_<;>intro hc;(have gs:m<jw.length:=by simpa using hc);have nV:=X9 _ (atO gs);(have tj:(br jw)[m]?=some (.int .i64 jw[m]):=by simp[br,gs]);(have X_:(jw.take (m+1)).foldl jX dj=jX ((jw.take m).foldl jX dj) jw[m]:=by rw[atM gs,auT];rfl);obtain⟨lK,Z⟩:∃lK,lK=if jw[m]>2048-((jw.take m).foldl jX dj).tmod 2048 then(jw.take m).foldl jX dj+(2048-((jw.take m).foldl jX dj).tmod 2048)else(jw.take m).foldl jX dj:=⟨_,rfl⟩;generalize(jw.take m).foldl jX dj=dn at*;(have ar7:(jw.take (m+1)).foldl jX dj=lK+jw[m]:=by rw[X_,Z];rfl);clear X_;(have ar8:0<=dn.tmod 2048/\dn.tmod 2048<2048:=by rw[au2 JM.1];omega);(have vV:dn<=300000000000000:=by omega);(have ar9:dn<=lK/\lK<=dn+2048:=by rw[Z];split<;>omega);(have ar_:0<=lK.tdiv 2048/\lK.tdiv 2048<=300000000000000:=by rw[at6 atw];omega);refine go ?_;refine And.intro (λ_=>by simp only[br,atL];omega) ?_;(conv=>whnf);refine da ?_;refine bI (u jw[m]) tj ?_;refine ns (α:=Unit) (λ_=>True) [1,2,17,18,19,21,147,148,159,160,177,178,179] [4111,7500,8000] (λ_=>[(16,u lK)]) (λ_=>[]) ?_ ?_;refine g6 (λbu=>?_) (λbu=>?_);rw[atI (by simpa using bu)]at Z;subst Z;exact gK () [(4111,4111),(7500,7500),(8000,8000)] trivial;rw[atH (by simpa using bu)]at Z;subst Z;exact gK () [(4111,4111),(7500,7500),(8000,8000)] trivial;intro _ _;(have ar':0<=lK.tmod 2048/\lK.tmod 2048<2048:=by rw[au2 atw];omega);refine go ?_;refine dQ (af.q' 7500 (i:=k) rfl rfl (by rw[lb];omega)) ?_;refine dQ (af.jl aM 7500 (i:=k) rfl rfl (by rw[lb];omega) rfl rfl rfl atz) ?_;refine dQ (af.n1 aM 7500 (i:=k) (j:=11) rfl rfl rfl G) ?_;refine .inr (af.nU aM 8000 rfl rfl rfl atD rfl rfl rfl aty (by show(_+1)*16<=_;omega) (by show _+1<=_;omega) λbJ fU cap=>?_);(conv=>whnf);refine da ?_;refine dQ (af.q' 7500 (i:=k) rfl rfl (by rw[lb];omega)) ?_;refine dQ (af.jl aM 7500 (i:=k) rfl rfl (by rw[lb];omega) rfl rfl rfl atz) ?_;refine dQ (af.vj aM 7500 (i:=k) (j:=11) rfl rfl rfl rfl G atz rfl) ?_;have Eo:∀d,((ir bT aH R k).set k (rb bT aH (.ai v) x)).set k d=(ir bT aH R k).set k d:=λd=>List.set_set ..;exact eI (m+1,.slice bJ fU cap,bU++[.agg [u (bL+lK.tdiv 2048),u (lK.tmod 2048)]]) [(4111,4111),(7500,7500),(8000,205)] ⟨gs,by simp[r_]⟩ (A:=⟨cO,rfl,rfl,rfl,rfl,sM (Eo _),rfl,bc⟩);(have Pp:m=jw.length:=by simp at hc;omega);subst Pp;rw[atX]at JM⊢;rw[<-a6]at JM⊢;refine W.exit ?_;(conv=>whnf);refine W.vk 7500 rfl aty (XZ XY rfl) (X0 (X1 (.any _))) ?_;refine go ?_;exact eI (k+1) [(4111,4111),(7500,7500)] ⟨eS,by omega,by omega⟩ (A:=⟨cO,rfl,rfl,rfl,rfl,sM ak',ak⟩);(have lJ:k=R.length:=by simp at hc;omega);subst lJ;rw[atX,<-Po];rw[atX,<-Po]at iA pR;(have hQ:∀j,j≠i->uI bT aH wide be (i+1) j=uI bT aH wide be i j:=λj aa=>by unfold uI;by_cases h:j<i;rw[atI h,atI atw];rw[atH h,atH atw]);(have zy:uI bT aH wide be (i+1) i=ir bT aH R R.length:=by rw[akP];unfold uI;rw[atI atw,fJ]);refine W.exit ?_;(conv=>whnf);refine go ?_;exact vu (i+1) ⟨ce,iA,by omega⟩ (t_ (fD:=.row (vs i) (ir bT aH R R.length) 12 234) [(4111,4111)] (10000+i) 7500 atw (y2 (gD _ _ _) _) (XV rfl zy hQ));(have oL:i=aD.length:=by omega);subst oL;have ala:=akD (B:=B) (sg aH wide be aD.length) X8 (by have:=l9 aD.length (atQ _);omega);refine W.p6 rfl (gD _ _ _) λie=>?_;refine go ?_;refine cb (t:=decide ((aD.length:Int)<(aD.length:Nat))) (λhc=>by simp at hc) (λhc=>?_);refine W.exit ?_;(conv=>whnf);(have asa:0<=j6 (sg aH wide be aD.length)/\j6 (sg aH wide be aD.length)<=1000000000000:=by have:=l9 aD.length (atQ _);unfold j6;rw[at6 atw];omega);refine go ?_;refine bs ala ?_;exact⟨.bp [u (bL+j6 (sg aH wide be aD.length)),u 0],ar,rfl⟩
end Go.bR.ck
namespace Go.bR
open Go Go.RowKit
variable{k:Nat}
theorem JN{c:Nat}{a b:Option aJ}{o:aJ}(Y:10000<=k)(h:b=some o)(hc:Nat.blt c 10000=true:=by exact rfl):_root_.cond (Nat.beq k c) a b=some o:=by rw[au' (by have:=aul hc;omega)];exact h
variable{aY:List (Nat×aJ)}{cv:bE}
theorem y8{o:aJ}(Y:10000<=k)(h:cv k=some o)(al:sO aY=true:=by exact rfl):cM aY cv k=some o:=by unfold cM;cases hs:aL aY k with|some x=>have:=vt al hs;omega|none=>exact h
variable{aA:au}
theorem xy{l:List (Nat × D)}{aY:List (Nat × aJ)}(m : List (Nat × Nat))(cF : pf cv)(sx : ∀k o,10000<=k->cv k = some o->aA.H k = some o := by
      intro k o Y G
      repeat (refine JN Y ?_)
      exact y8 Y G) (h1:jC aA l:=by exact Go.bR.ck.cO) (hm:j0 m=true:=by exact rfl) (gk:tO aA m aY:=by exact Go.bR.ck.cO) (a6:sO aY=true:=by exact rfl) (gI:yi 10000 m=true:=by exact rfl) :
  fB aA l (cM aY cv):=by
 have h:=fB.oJ (cv:=cv) m h1 hm gk a6 gI cF
 have e:la cv aA.H=aA.H:=funext λk=>by
  unfold la
  cases N:cv k with
  |none=>rfl
  |some o=>exact(sx k o (cF k o N) N).symm
 rw[e]at h;exact h
def qp(aY:List (Nat×aJ)):Nat->Bool:=λk=>Nat.ble 10000 k||(aL aY k).isSome
theorem X'(h:10000<=k):qp aY k=true:=by unfold qp;rw[aw5 h];rfl
variable{z:au}
theorem Pq{aY:List (Nat × aJ)}(cF : pf cv)(sx : ∀k o,10000<=k->cv k = some o->z.H k = some o := by
      intro k o Y G
      repeat (refine JN Y ?_)
      exact y8 Y G) (h1:mJ z aY:=by repeat (first|exact trivial|refine⟨rfl,?_⟩)):∀k o,cM aY cv k=some o->qp aY k=true/\z.H k=some o:=λk o h=>by
 unfold cM at h
 cases hs:aL aY k with
 |some x =>
  rw[hs]at h;cases h
  exact⟨by unfold qp;rw[hs];simp,h1.aL k _ hs⟩
 |none =>
  rw[hs]at h;exact⟨X' (cF k o h),sx k o (cF k o h) h⟩
theorem JO{AV:List (Nat×aJ)}{H:bE}{o:aJ}(Y:10000<=k)(h:cv k=some o)(al:sO AV=true:=by exact rfl):CV (qp aY) H (cM AV cv) k=some o:=by unfold CV;rw[X' Y];exact y8 Y h al
variable{α:Type}
def alb(eu:α->Prop)(l:α->List (Nat×D))(aY:α->List (Nat×aJ))(cv:α->bE)(K:cJ->au->Prop):cJ->au->Prop
 |.normal,z=>∃x,eu x/\fB z (l x) (cM (aY x) (cv x))
 |.exit id,z=>K (.exit id) z
 |.ret,z=>K .ret z
end Go.bR
namespace Go.bR.ck
open Go Go.Proofs
variable{B:World}{am:Nat}{z:au}{K:cJ->au->Prop}{α:Type}{dI:List (Nat×aJ)}
theorem Pr{U:b7 Tryz.prog B am}{a b:Code}(eu:α->Prop)(hk wI:List Nat)(l:α->List (Nat×D))(aY:α->List (Nat×aJ))(cv:α->bE){L:List (Nat×D)}
  (h:W U a z (alb eu (λx=>L++l x) (λx=>dI++aY x) cv K)) (bB:∀x,eu x->W U b (EN (L++l x) (dI++aY x) (cv x)) K) (a1:t7 z hk L:=by exact yd) (hO:yc z wI dI:=by exact yd):W U a z (zo U b K) :=
 h.mono λe aA Y=>by
  cases e with
  |normal=>obtain⟨x,F,h1⟩:=Y;exact(bB x F).iY _ _ h1
  |exit id=>exact Y
  |ret=>exact Y
structure k1 where
 aD:List (atG×Int)
 be:Nat->List bQ
def hE(s:k1)(i:Nat)(x:bQ):k1:=⟨s.aD,λj=>if j=i then s.be j++[x]else s.be j⟩
def mB(s:k1)(id:atG)(p:Nat)(a b:bQ):k1:=⟨s.aD++[(id,(p:Int))],λj=>if j=s.aD.length then[a,b]else s.be j⟩
def y9(path:atG):Int:=Lib.lastIndexByte ⟨⟨path⟩⟩ 47
def JP(path:atG):atG:=path.take (if y9 path>0 then y9 path else 0).toNat
theorem alc(path:atG):y9 path<=(path.length:Nat):=by unfold y9;rcases Lib.lastIndexByte_spec ⟨⟨path⟩⟩ 47 with⟨h,_⟩|⟨i,hi,h,_⟩;rw[h];omega;rw[h];have:i<path.length:=hi;omega
section
variable(o:f0)(ap:List (atG×ad))
def rc(n:ad)(path:atG)(bY:Nat):ad:=if 1<bY then gY ap (JP path)else n
def na(path name:atG)(bY:Nat):atG:=if 1<bY then path++[47]++name else name
mutual
def jx(n:ad)(path id:atG)(cA bY:Nat)(s:k1):k1 :=
 match n with
 |.mk a b c d e f g h i j ag cC=>iN ag (kX 1 ag).1 s.aD.length path bY (mB s id cA ⟨[0],h,o.c3,2,s.aD.length,.e2⟩ ⟨[1],(rc ap (.mk a b c d e f g h i j ag cC) path bY).n4,o.c3,2,cA,.e2⟩)
def iN:List ad->List atG->Nat->atG->Nat->k1->k1
 |[],_,_,_,_,s=>s
 |k::ag,aX,ea,path,bY,s=>iN ag aX.tail ea path bY (if lg 1 k (bY+1:Nat)=true then
   (if k.kind=0 then hE (jx k (na path k.name bY) (fj (aX.headD [])) ea (bY+1) s) ea ⟨fj (aX.headD []),k.n4,o.c3,2,s.aD.length,.e2⟩else hE s ea ⟨fj (aX.headD []),k.n4,o.c3,0,-1,.e2⟩)else s)
end
def AZ(k : ad)(aX : atG)(ea : Nat)(path : atG)(bY : Nat)(s : k1): k1 := if lg 1 k (bY + 1 : Nat) = true then
      (if k.kind=0 then hE (jx o ap k (na path k.name bY) (fj aX) ea (bY+1) s) ea ⟨fj aX,k.n4,o.c3,2,s.aD.length,.e2⟩else hE s ea ⟨fj aX,k.n4,o.c3,0,-1,.e2⟩)else s
theorem Ya:∀(ag:List ad) (aX:List atG) (k:ad) (ea:Nat) (path:atG) (bY:Nat) (s:k1),iN o ap (ag++[k]) aX ea path bY s=AZ o ap k ((aX[ag.length]?).getD []) ea path bY (iN o ap ag aX ea path bY s)
 |[],aX,k,ea,path,bY,s=>by rw[au6,iN,iN,iN,AZ];(have:aX.headD []=(aX[0]?).getD []:=by cases aX<;>rfl);rw[this];rfl
 |x::ag,aX,k,ea,path,bY,s=>by rw[auS,iN,iN,Ya ag];(have:(aX.tail[ag.length]?).getD []=(aX[(x::ag).length]?).getD []:=by rw[List.getElem?_tail];rfl);rw[this]
theorem ald(n:ad)(path id:atG)(cA bY:Nat)(s:k1):jx o ap n path id cA bY s=iN o ap n.J (kX 1 n.J).1 s.aD.length path bY (mB s id cA ⟨[0],n.n4,o.c3,2,s.aD.length,.e2⟩ ⟨[1],(rc ap n path bY).n4,o.c3,2,cA,.e2⟩):=by cases n;rw[jx]
end
mutual
def oX(n:ad):Nat :=
 match n with
 |.mk a b c d e f g h i j ag cC=>a.length+2+kz ag
def kz:List ad->Nat
 |[]=>0
 |k::ag=>oX k+kz ag
end
theorem A0(n:ad):oX n=n.name.length+2+kz n.J:=by cases n;rw[oX]
theorem Ps:∀{l:List ad} {k:ad},k∈l->oX k<=kz l
 |x::r,k,h=>by rw[kz];rcases at5.1 h with e|e;subst e;omega;have:=Ps e;omega
theorem Yb:∀(l:List ad),2*l.length<=kz l
 |[]=>by simp[kz]
 |x::r=>by rw[kz,atT];have:=Yb r;have:=A0 x;omega
theorem JQ:∀(l r:List ad),kz (l++r)=kz l+kz r
 |[],r=>by simp[kz]
 |x::l,r=>by rw[auS,kz,kz,JQ l r];omega
mutual
theorem JR(o:f0)(ap:List (atG×ad))(n:ad)(path id:atG)(cA bY:Nat)(s:k1):s.aD.length<(jx o ap n path id cA bY s).aD.length/\(jx o ap n path id cA bY s).aD.length<=s.aD.length+oX n/\(∀j,j<s.aD.length->(jx o ap n path id cA bY s).be j=s.be j):=by
 match n with
 |.mk a b c d e f g h i j ag cC =>
  rw[jx,oX];have:=Gx o ap ag (kX 1 ag).1 s.aD.length path bY (mB s id cA ⟨[0],h,o.c3,2,s.aD.length,.e2⟩ ⟨[1],(rc ap (.mk a b c d e f g h i j ag cC) path bY).n4,o.c3,2,cA,.e2⟩) (by simp[mB]);have al:(mB s id cA ⟨[0],h,o.c3,2,s.aD.length,.e2⟩ ⟨[1],(rc ap (.mk a b c d e f g h i j ag cC) path bY).n4,o.c3,2,cA,.e2⟩).aD.length=s.aD.length+1:=by simp[mB]
  rw[al]at this;refine⟨by omega,by omega,λj aa=>?_⟩;rw[this.2.2.1 j atw atw];simp only[mB];rw[atH atw]
theorem Gx(o:f0)(ap:List (atG×ad))(ag:List ad)(aX:List atG)(ea:Nat)(path:atG)(bY:Nat)(s:k1)(ha:ea<s.aD.length):s.aD.length<=(iN o ap ag aX ea path bY s).aD.length/\(iN o ap ag aX ea path bY s).aD.length<=s.aD.length+kz ag/\(∀j,j<s.aD.length->j≠ea->(iN o ap ag aX ea path bY s).be j=s.be j)/\((iN o ap ag aX ea path bY s).be ea).length<=(s.be ea).length+ag.length:=by
 match ag with
 |[]=>rw[iN];simp[kz]
 |k::ag =>
  rw[iN,kz,atT];split
  ·split
   ·have h1:=JR o ap k (na path k.name bY) (fj (aX.headD [])) ea (bY+1) s;have A:=Gx o ap ag aX.tail ea path bY (hE (jx o ap k (na path k.name bY) (fj (aX.headD [])) ea (bY+1) s) ea ⟨fj (aX.headD []),k.n4,o.c3,2,s.aD.length,.e2⟩) (by simp only[hE];omega);have Z:=h1.2.2 ea ha;have al:(hE (jx o ap k (na path k.name bY) (fj (aX.headD [])) ea (bY+1) s) ea ⟨fj (aX.headD []),k.n4,o.c3,2,s.aD.length,.e2⟩).aD.length=(jx o ap k (na path k.name bY) (fj (aX.headD [])) ea (bY+1) s).aD.length:=rfl;have G:((hE (jx o ap k (na path k.name bY) (fj (aX.headD [])) ea (bY+1) s) ea ⟨fj (aX.headD []),k.n4,o.c3,2,s.aD.length,.e2⟩).be ea).length=(s.be ea).length+1:=by simp only[hE,auX];rw[atP,Z];rfl
    refine⟨by omega,by omega,λj aa a7=>?_,by omega⟩;rw[A.2.2.1 j atw a7];simp only[hE];rw[atH a7,h1.2.2 j aa]
   have A:=Gx o ap ag aX.tail ea path bY (hE s ea ⟨fj (aX.headD []),k.n4,o.c3,0,-1,.e2⟩) (by simp only[hE];omega);have al:(hE s ea ⟨fj (aX.headD []),k.n4,o.c3,0,-1,.e2⟩).aD.length=s.aD.length:=rfl;have G:((hE s ea ⟨fj (aX.headD []),k.n4,o.c3,0,-1,.e2⟩).be ea).length=(s.be ea).length+1:=by simp only[hE,auX];rw[atP];rfl
   refine⟨by omega,by omega,λj aa a7=>?_,by omega⟩;rw[A.2.2.1 j atw a7];simp only[hE];rw[atH a7]
  have A:=Gx o ap ag aX.tail ea path bY s ha;refine⟨by omega,by omega,λj aa a7=>A.2.2.1 j aa a7,by omega⟩
end
abbrev rd:bQ->D:=λ_=>.fn (.func 229) [] []
abbrev nb(s:k1)(vs:Nat->Value):bE:=iM vs (λi=>(s.be i).map (jv rd)) s.aD.length
inductive y_:ad->Prop
 |mk (n:ad) (h1:(kX 1 n.J).1.length=n.J.length) (A:∀x∈(kX 1 n.J).1,x.length<5000) (Z:∀k∈n.J,y_ k):y_ n
theorem ale(aD:List (atG×Int))(vs:Nat->Value)(id:atG)(p:Nat)(v:Value):eT aD vs (λ_=>0) (λ_=>0)++[nG id (p:Nat) v 0 0]=eT (aD++[(id,(p:Int))]) (λj=>if j=aD.length then v else vs j) (λ_=>0) (λ_=>0):=by unfold eT;rw[List.mapIdx_append];congr 1;apply au4;intro j;simp only[auK];rcases at3 j aD.length with aa|aa;rw[atH atw];rw[atW atw];rfl;simp
variable{v:Value}
theorem alf{s:k1}{vs:Nat->Value}{id:atG}{cA:Nat}{a b:bQ}:∀k o,nb (mB s id cA a b) (λj=>if j=s.aD.length then v else vs j) k=some o->10000<=k/\((k=10000+s.aD.length/\o=.row v [jv rd a,jv rd b] 12 234)\/(k≠10000+s.aD.length/\nb s vs k=some o)):=λk o h=>by
 unfold nb iM at h;have al:(mB s id cA a b).aD.length=s.aD.length+1:=by simp[mB]
 rw[al]at h;split at h
 ·rename_i Y;refine⟨Y.1,?_⟩;by_cases fA:k=10000+s.aD.length
  ·subst fA;rw[auR]at h;dsimp only at h;rw[atI rfl]at h;refine .inl ⟨rfl,?_⟩;have:=(auD h).symm;rw[this];simp[mB]
  refine .inr ⟨fA,?_⟩;unfold nb iM;dsimp only at h;rw[atH atw]at h;rw[atI atw,<-h];simp only[mB];rw[atH atw]
 cases h
variable{aD:List (atG×Int)}{i:Nat}
theorem alg{vs:Nat->Value}(h:i<aD.length):(eT aD vs (λ_=>0) (λ_=>0)).set i (nG aD[i].1 aD[i].2 v 0 0)=eT aD (λj=>if j=i then v else vs j) (λ_=>0) (λ_=>0):=by apply au4;intro j;rw[avO];by_cases d9:i=j;subst d9;rw[atI rfl,atI (by rw[h6];exact h),CX h,atI rfl];rw[atH d9];unfold eT;simp only[auK];rw[atH (λh=>d9 h.symm)]
theorem alh{s:k1}{vs:Nat->Value}{x:bQ}:∀k o,nb (hE s i x) (λj=>if j=i then v else vs j) k=some o->10000<=k/\((k=10000+i/\o=.row v ((s.be i).map (jv rd)++[jv rd x]) 12 234)\/(k≠10000+i/\kO (nb s vs) (10000+i) k=some o)):=λk o h=>by
 unfold nb iM at h;have al:(hE s i x).aD.length=s.aD.length:=rfl;rw[al]at h;split at h
 ·rename_i Y;refine⟨Y.1,?_⟩;by_cases fA:k=10000+i
  ·subst fA;rw[auR]at h;dsimp only at h;rw[atI rfl]at h;refine .inl ⟨rfl,?_⟩;have:=(auD h).symm;rw[this];simp[hE]
  refine .inr ⟨fA,?_⟩;unfold kO nb iM;dsimp only at h;rw[atH atw]at h;rw[au' fA,atI Y,<-h];simp only[hE];rw[atH atw];rfl
 cases h
theorem ali(a1:db B)(o:f0)(h5:ad)(bW bF dM cT:Nat)(ap:List (atG×ad)):∀(m:Nat) (n:ad) (path id:atG) (cA bY:Nat) (s:k1) (vs:Nat->Value) (b5:Value),oX n<=m->y_ n->(s.aD.length+oX n<=1000000/\path.length+bY+kz n.J<=1000000)->
  c1 B 181 [aE n,.O path,.O id,u (cA:Nat),u (bY:Nat),.a_ 1 [.box 4110 dM 0] 0 0,.a_ 1 [.a_ 26 [dD o h5 bW bF] 0 0] 0 0,.box 4 cT 0] (cM [(4103,.mp bW (bn aE ap)),(4104,.mp bF (bn bl [])),(4,.box cT [.fn (.func 181) [] [.a_ 1 [.box 4110 dM 0] 0 0,.a_ 1 [.a_ 26 [dD o h5 bW bF] 0 0] 0 0,.box 4 cT 0]]),(4110,.box dM [.bool true,.ai b5,u 0,u 0,u 0]),(4111,.row b5 (eT s.aD vs (λ_=>0) (λ_=>0)) 5 249)] (nb s vs))
   λd aP=>∃tk fW,d=.bp []/\aP=cM [(4103,.mp bW (bn aE ap)),(4104,.mp bF (bn bl [])),(4,.box cT [.fn (.func 181) [] [.a_ 1 [.box 4110 dM 0] 0 0,.a_ 1 [.a_ 26 [dD o h5 bW bF] 0 0] 0 0,.box 4 cT 0]]),(4110,.box dM [.bool true,.ai tk,u 0,u 0,u 0]),(4111,.row tk (eT (jx o ap n path id cA bY s).aD fW (λ_=>0) (λ_=>0)) 5 249)] (nb (jx o ap n path id cA bY s) fW):=by
 intro m
 induction m with
 |zero=>intro n path id cA bY s vs b5 hm _ _;rw[A0]at hm;omega
 |succ m aZ =>
 intro n path id cA bY s vs b5 hm kV I;have cz:=A0 n;obtain⟨_,l2,y7,w3⟩:=kV;refine ye Tryz.func181 Tryz.ntmps181 λU=>?_;refine W.iY [(0,aE n),(1,.O path),(2,.O id),(3,u (cA:Nat)),(4,u (bY:Nat)),(5,.a_ 1 [.box 4110 dM 0] 0 0),(6,.a_ 1 [.a_ 26 [dD o h5 bW bF] 0 0] 0 0),(7,.box 4 cT 0)] (cM [(4103,.mp bW (bn aE ap)),(4104,.mp bF (bn bl [])),(4,.box cT [.fn (.func 181) [] [.a_ 1 [.box 4110 dM 0] 0 0,.a_ 1 [.a_ 26 [dD o h5 bW bF] 0 0] 0 0,.box 4 cT 0]]),(4110,.box dM [.bool true,.ai b5,u 0,u 0,u 0]),(4111,.row b5 (eT s.aD vs (λ_=>0) (λ_=>0)) 5 249)] (nb s vs)) (fB.same cO λk o h=>h) ?_;refine go ?_;intro cE
 (conv=>whnf)
 refine da ?_;refine iF 8 8 12 (aE n) ?_;refine go ?_;refine dQ (af.sF aM 4111 rfl rfl rfl rfl) ?_;rw[h6];intro ql
 (conv=>whnf)
 refine go ?_
 refine W.iY [(1,.O path),(2,.O id),(3,u (cA:Nat)),(4,u (bY:Nat)),(5,.a_ 1 [.box 4110 dM 0] 0 0),(6,.a_ 1 [.a_ 26 [dD o h5 bW bF] 0 0] 0 0),(7,.box 4 cT 0),(8,.a_ 12 [aE n] 0 0),(13,u (s.aD.length:Nat)),(14,.box 14 ql 0),(31,.bool (decide ((bY:Int)>1)))]
  (cM [(4103,.mp bW (bn aE ap)),(4104,.mp bF (bn bl [])),(4110,.box dM [.bool true,.ai b5,u 0,u 0,u 0]),(4111,.row b5 (eT s.aD vs (λ_=>0) (λ_=>0)) 5 249),(4,.box cT [.fn (.func 181) [] [.a_ 1 [.box 4110 dM 0] 0 0,.a_ 1 [.a_ 26 [dD o h5 bW bF] 0 0] 0 0,.box 4 cT 0]]),(14,.box ql (aE n).cells)] (nb s vs)) (xy [(4103,4103),(4104,4104),(4110,4110),(4111,4111),(4,4),(14,14)] (gD _ _ _)) ?_
 refine Pr (α:=Unit) (λ_=>True) [1,2,3,4,5,6,7,8,13,14] [4103,4104,4110,4111,4] (λ_=>[]) (λ_=>[(14,.box ql (aE (rc ap n path bY)).cells)]) (λ_=>nb s vs) ?_ ?_
 ·refine W.p6 rfl (gD _ _ _) λie=>?_;refine cb (t:=decide ((bY:Int)>1)) ?_ ?_<;>intro hc
  ·refine go ?_;have asb:aU B 24 [.O path,.int .u8 47] (u (y9 path)):=TO (B:=B) path 47 atw;have uB:=alc path;have alj:JP path=path.take (if y9 path>0 then y9 path else 0).toNat:=rfl;have y':rc ap n path bY=gY ap (JP path):=by unfold rc;rw[atI (by have:=aua hc;omega)]
   generalize y9 path=V at*;generalize JP path=JS at*;refine' eH [(4103,.mp bW (bn aE ap)),(4104,.mp bF (bn bl [])),(4110,.box dM [.bool true,.ai b5,u 0,u 0,u 0]),(4111,.row b5 (eT s.aD vs (λ_=>0) (λ_=>0)) 5 249),(4,.box cT [.fn (.func 181) [] [.a_ 1 [.box 4110 dM 0] 0 0,.a_ 1 [.a_ 26 [dD o h5 bW bF] 0 0] 0 0,.box 4 cT 0]]),(14,.box ql (aE n).cells)] 0 (λy:Nat=>[_,_,_,_,_,_,_,_,.O JS,aE (gY ap JS),.any]) (λy=>[(10,14,some (.box ql (aE (gY ap JS)).cells))]) [0,1,3,7,0,0,32,96,240,511,1023] [(10,14)] ?_ ?_
   rotate_left 8
   ·refine dw ?_;refine⟨λy=>.inl ?_,dw ?_⟩
    ·(conv=>whnf)
     refine⟨λ_=>?_,?_⟩
     ·split<;>omega
     (conv=>whnf)
     rw[alj];exact E
    refine bS (λy=>af.nE 4103 (dS:=9) (dZ:=44) (enc:=aE) (l:=ap) (k:=JS) (V:=AO) rfl rfl rfl rfl rfl atE (λw C=>Jn w C) (cw y)) ?_;refine Go.bR.ck.vs ?_;exact trivial
   intro _
   (conv=>whnf)
   refine go ?_;rw[y'];exact⟨(),ak,oJ [(4103,4103),(4104,4104),(4110,4110),(4111,4111),(4,4),(14,14)] (gD _ _ _)⟩
  refine go ?_;have y':rc ap n path bY=n:=by unfold rc;rw[atH (by have:=at2 hc;omega)]
  rw[y'];exact⟨(),ak,oJ [(4103,4103),(4104,4104),(4110,4110),(4111,4111),(4,4),(14,14)] (gD _ _ _)⟩
 intro _ _;refine go ?_;refine W.p6 rfl (gD _ _ _) λie=>?_;have Pb:=k_.mk<|CM (B:=B) o h5 n bW bF [0] (s.aD.length:Nat) 2 (by rw[show decide ((0:Int)<=((s.aD.length:Nat):Int))=true from auC atw];rfl)
 have Pc:=k_.mk<|CM (B:=B) o h5 (rc ap n path bY) bW bF [1] (cA:Nat) 2 (by rw[show decide ((0:Int)<=((cA:Nat):Int))=true from auC atw];rfl)
 generalize pW:rc ap n path bY=ab at*
 refine' eH [(4103,.mp bW (bn aE ap)),(4104,.mp bF (bn bl [])),(4110,.box dM [.bool true,.ai b5,u 0,u 0,u 0]),(4111,.row b5 (eT s.aD vs (λ_=>0) (λ_=>0)) 5 249),(4,.box cT [.fn (.func 181) [] [.a_ 1 [.box 4110 dM 0] 0 0,.a_ 1 [.a_ 26 [dD o h5 bW bF] 0 0] 0 0,.box 4 cT 0]]),(14,.box ql (aE ab).cells)] (α:=Nat×Option Addr×Nat×Nat) (0,none,0,0)
  (λy=>[_,_,_,_,_,_,_,_,_,_,_,_,_,_,_,.ai (.slice (some ⟨y.1,0,none⟩) 2 2),nG id (cA:Nat) (.slice (some ⟨y.1,0,none⟩) 2 2) 0 0,.Q .dV 5 [nG id (cA:Nat) (.slice (some ⟨y.1,0,none⟩) 2 2) 0 0],.ai (.slice y.2.1 y.2.2.1 y.2.2.2),_,_,.any])
  (λy=>[(15,7500,some (.row (.slice (some ⟨y.1,0,none⟩) 2 2) [jv rd ⟨[0],n.n4,o.c3,2,(s.aD.length:Nat),.e2⟩,jv rd ⟨[1],ab.n4,o.c3,2,(cA:Nat),.e2⟩] 12 234)),(18,4111,none),(18,60,some (.row (.slice y.2.1 y.2.2.1 y.2.2.2) (eT s.aD vs (λ_=>0) (λ_=>0)++[nG id (cA:Nat) (.slice (some ⟨y.1,0,none⟩) 2 2) 0 0]) 5 249)),(21,4110,some (.box dM [.bool true,.ai (.slice y.2.1 y.2.2.1 y.2.2.2),u 0,u 0,u 0]))]) [0,0,2,6,14,0,0,0,0,0,896,0,0,0,16256,32640,65504,131040,262142,524287,1048575,2097151] [(15,7500),(18,4111),(18,60),(21,4110)] ?_ ?_
 rotate_left 17
 ·refine dw ?_;refine⟨λy=>.inl ?_,dw ?_⟩
  ·(conv=>whnf)
   refine⟨_,_,λ_=>Pb.cr,i1,?_⟩;exact E
  refine⟨λy=>.inl ?_,dw ?_⟩
  ·(conv=>whnf)
   refine⟨_,_,λ_=>Pc.cr,i1,?_⟩;exact E
  refine bS (λy=>af.Mo aM (q:=7500) rfl rfl rfl atz atz rfl (show _/\_/\_ from⟨rfl,by simp[tC,iL,om,D.cells,D.iw,D.one],λb=>dh (b,y.2)⟩)) ?_;refine bS (λy=>af.nU aM 4111 rfl rfl rfl atD rfl rfl rfl aty (by rw[h6];show(_+1)*64<=_;omega) (by rw[h6];show _+1<=_;omega) (λbJ fU cap=>dh (y.1,bJ,fU,cap))) ?_;refine Go.bR.ck.vs ?_;exact trivial
 rintro⟨sd,bJ,fU,cap⟩
 (conv=>whnf)
 obtain⟨fa,hV⟩:∃fa,mB s id cA ⟨[0],n.n4,o.c3,2,(s.aD.length:Nat),.e2⟩ ⟨[1],ab.n4,o.c3,2,(cA:Nat),.e2⟩=fa:=⟨_,rfl⟩;have alk:jx o ap n path id cA bY s=iN o ap n.J (kX 1 n.J).1 s.aD.length path bY fa:=by rw[ald,pW,hV]
 rw[alk];have Yc:fa.aD=s.aD++[(id,(cA:Int))]:=by rw[<-hV];rfl
 have ko:fa.aD.length=s.aD.length+1:=by rw[Yc];simp
 have alm:(fa.be s.aD.length).length=2:=by rw[<-hV];simp[mB]
 have yE:=alf (s:=s) (vs:=vs) (id:=id) (cA:=cA) (a:=⟨[0],n.n4,o.c3,2,(s.aD.length:Nat),.e2⟩) (b:=⟨[1],ab.n4,o.c3,2,(cA:Nat),.e2⟩) (v:=.slice (some ⟨sd,0,none⟩) 2 2);rw[hV]at yE;have jg:=ale s.aD vs id cA (.slice (some ⟨sd,0,none⟩) 2 2);rw[<-Yc]at jg;obtain⟨l3,Yd⟩:∃l3,(λj=>if j=s.aD.length then Value.slice (some ⟨sd,0,none⟩) 2 2 else vs j)=l3:=⟨_,rfl⟩;rw[Yd]at yE jg
 refine W.iY [(1,.O path),(4,u (bY:Nat)),(5,.a_ 1 [.box 4110 dM 0] 0 0),(6,.a_ 1 [.a_ 26 [dD o h5 bW bF] 0 0] 0 0),(7,.box 4 cT 0),(8,.a_ 12 [aE n] 0 0),(13,u (s.aD.length:Nat))]
  (cM [(4103,.mp bW (bn aE ap)),(4104,.mp bF (bn bl [])),(4110,.box dM [.bool true,.ai (.slice bJ fU cap),u 0,u 0,u 0]),(4111,.row (.slice bJ fU cap) (eT fa.aD l3 (λ_=>0) (λ_=>0)) 5 249),(4,.box cT [.fn (.func 181) [] [.a_ 1 [.box 4110 dM 0] 0 0,.a_ 1 [.a_ 26 [dD o h5 bW bF] 0 0] 0 0,.box 4 cT 0]])] (nb fa l3))
  (t_ [(4103,4103),(4104,4104),(4110,4110),(4111,60),(4,4)] (10000+s.aD.length) 7500 atw (gD _ _ _) yE (gk:=⟨rfl,rfl,rfl,rfl,rfl,rfl,rfl,sM jg,rfl,bc⟩)) ?_
 have Al:=Yb n.J;have mt:=aj2 (B:=B) a1 1 n.J atw λk Y=>by have:=Ps Y;have:=A0 k;omega
 generalize asc:(kX 1 n.J).1=qq at*;generalize Value.slice bJ fU cap=nJ at*;clear Pb Pc yE jg Yd;refine go ?_;refine bs mt ?_;have aln:(n.J.map enc).length=n.J.length:=atL _
 have alo:∀i (h:i<n.J.length),(n.J.map enc)[(i:Int).toNat]?=some (aE n.J[i]):=λi h=>by
  rw[auj,aud,atK h];simp[rJ]
 generalize n.J.map enc=alp at*
 have alq:∀(i:Nat) (x:atG),qq[i]?=some x->(aN qq)[(i:Int).toNat]?=some (.O x):=λi x h=>by
  rw[auj];simp[aN,h]
 have asd:(aN qq).length=qq.length:=by simp[aN]
 generalize aN qq=Pt at*;rw[aln]
 refine yk (λx:Nat×Value×(Nat->Value)=>x.1<=n.J.length) [1,4,5,6,7,13,15,70,71] [4103,4104,4] (λx=>[(72,u x.1)])
  (λx=>[(4110,.box dM [.bool true,.ai x.2.1,u 0,u 0,u 0]),(4111,.row x.2.1 (eT (iN o ap (n.J.take x.1) qq s.aD.length path bY fa).aD x.2.2 (λ_=>0) (λ_=>0)) 5 249)])
  (λx=>nb (iN o ap (n.J.take x.1) qq s.aD.length path bY fa) x.2.2) (λx=>n.J.length-x.1) (0,nJ,l3) (at4 _) ?_
  (h1:=by rw[av4,iN];exact xy [(4103,4103),(4104,4104),(4,4),(4110,4110),(4111,4111)] (gD _ _ _))
 rintro⟨i,za,xz⟩ hi;dsimp only at hi⊢;have oI:=Gx o ap (n.J.take i) qq s.aD.length path bY fa atw
 have o_:∀(h:i<n.J.length),iN o ap (n.J.take (i+1)) qq s.aD.length path bY fa=AZ o ap n.J[i] ((qq[i]?).getD []) s.aD.length path bY (iN o ap (n.J.take i) qq s.aD.length path bY fa):=λh=>by
  rw[atM h,Ya,at7,awp atw]
 have EI:kz (n.J.take i)<=kz n.J:=by
  have h:=JQ (n.J.take i) (n.J.drop i);rw[avb]at h;omega
 have BY:∀(h:i<n.J.length),kz (n.J.take i)+oX n.J[i]<=kz n.J:=λh=>by
  have A:=JQ (n.J.take (i+1)) (n.J.drop (i+1));rw[avb,atM h,JQ]at A;simp only[kz]at A;omega
 generalize jh:iN o ap (n.J.take i) qq s.aD.length path bY fa=gw at*;refine go ?_;refine cb (t:=decide ((i:Int)<(n.J.length:Nat))) ?_ ?_<;>intro hc
 ·have ce:i<n.J.length:=by have:=aua hc;omega
  have w1:n.J[i]∈n.J:=atO ce;have lJ:=alo i ce;have ase:=BY ce;have C2:=o_ ce;have Jt:=w3 _ w1;have asf:=A0 n.J[i];obtain⟨aX,Pu⟩:∃aX,qq[i]?=some aX:=⟨_,atK atw⟩;have asg:aX.length<5000:=y7 aX (at1 Pu);have alr:=alq i aX Pu;rw[Pu]at C2;replace C2:iN o ap (n.J.take (i+1)) qq s.aD.length path bY fa=AZ o ap n.J[i] aX s.aD.length path bY gw:=C2;generalize n.J[i]=k at*;have als:=Fe (B:=B) 1 k ((bY+1:Nat):Int);refine go ?_;refine bI (aE k) lJ ?_;intro OI
  (conv=>whnf)
  refine da ?_;refine iF 18 18 12 (aE k) ?_;refine go ?_;refine bs als ?_;refine cb (t:=!(lg 1 k ((bY+1:Nat):Int))) ?_ ?_<;>intro bu
  ·have qi:AZ o ap k aX s.aD.length path bY gw=gw:=by unfold AZ;rw[atH (by simpa using bu)]
   rw[qi]at C2;refine go ?_
   refine vu (i+1,za,xz) ce (by
    dsimp only;rw[C2]
    exact xy [(4103,4103),(4104,4104),(4,4),(4110,4110),(4111,4111)] (gD _ _ _))
  refine go ?_;refine Pr (α:=Unit) (λ_=>True) [1,4,5,6,7,13,15,17,18,70,71,72] [4103,4104,4,4110,4111] (λ_=>[(19,.O (na path k.name bY))]) (λ_=>[]) (λ_=>nb gw xz) ?_ ?_
  ·refine cb (t:=decide ((bY:Int)>1)) ?_ ?_<;>intro dK
   ·have Pv:na path k.name bY=path++[47]++k.name:=by unfold na;rw[atI (by have:=aua dK;omega)]
    refine go ?_;rw[Pv];exact⟨(),ak,xy [(4103,4103),(4104,4104),(4,4),(4110,4110),(4111,4111)] (gD _ _ _)⟩
   have Pv:na path k.name bY=k.name:=by unfold na;rw[atH (by have:=at2 dK;omega)]
   refine go ?_;rw[Pv];exact⟨(),ak,xy [(4103,4103),(4104,4104),(4,4),(4110,4110),(4111,4111)] (gD _ _ _)⟩
  intro _ _
  have eW:(na path k.name bY).length<=path.length+k.name.length+1:=by
   unfold na;split
   ·simp;omega
   omega
  generalize alt:na path k.name bY=below at*;have alu:=afF (B:=B) a1 aX atw;refine go ?_;refine bI (.O aX) alr ?_;refine bs alu ?_;obtain⟨ii,qi⟩:∃ii,(if k.kind=0 then jx o ap k below (fj aX) s.aD.length (bY+1) gw else gw)=ii:=⟨_,rfl⟩;obtain⟨eU,JT⟩:∃eU:Int,(if k.kind=0 then(gw.aD.length:Int)else -1)=eU:=⟨_,rfl⟩
  refine Pr (α:=Value×(Nat->Value)) (λ_=>True) [1,4,5,6,7,13,15,17,18,19,20,70,71,72] [4103,4104,4] (λ_=>[(22,u eU)])
   (λx=>[(4110,.box dM [.bool true,.ai x.1,u 0,u 0,u 0]),(4111,.row x.1 (eT ii.aD x.2 (λ_=>0) (λ_=>0)) 5 249)]) (λx=>nb ii x.2) ?_ ?_
  ·refine cb (t:=k.kind==0) ?_ ?_<;>intro dK
   ·have jO:k.kind=0:=by simpa using dK
    rw[atI jO]at qi JT;refine go ?_;refine dQ (af.sF aM 4111 rfl rfl rfl rfl) ?_;rw[h6];refine .inr (af.y4 rfl [aE k,.O below,.O (fj aX),u (s.aD.length:Nat),u ((bY+1:Nat):Int),.a_ 1 [.box 4110 dM 0] 0 0,.a_ 1 [.a_ 26 [dD o h5 bW bF] 0 0] 0 0,.box 4 cT 0] (qp [(4103,.mp bW (bn aE ap)),(4104,.mp bF (bn bl [])),(4,.box cT [.fn (.func 181) [] [.a_ 1 [.box 4110 dM 0] 0 0,.a_ 1 [.a_ 26 [dD o h5 bW bF] 0 0] 0 0,.box 4 cT 0]]),(4110,.box dM [.bool true,.ai za,u 0,u 0,u 0]),(4111,.row za (eT gw.aD xz (λ_=>0) (λ_=>0)) 5 249)]) (Pq (gD _ _ _)) (aZ k below (fj aX) s.aD.length (bY+1) gw xz za atw Jt atw) ?_ ?_)
    ·exact i1
    rintro d aP ⟨tk,fW,rfl,rfl⟩;refine⟨_,E,?_⟩;rw[qi]
    (conv=>whnf)
    refine go ?_;exact⟨(tk,fW),ak,xy [(4103,4103),(4104,4104),(4,4),(4110,4110),(4111,4111)] (gD _ _ _) (sx:=λq o G ah=>JO G ah)⟩
   have jO:¬k.kind=0:=by simpa using dK
   rw[atH jO]at qi JT;subst qi;refine go ?_;exact⟨(za,xz),ak,xy [(4103,4103),(4104,4104),(4,4),(4110,4110),(4111,4111)] (gD _ _ _)⟩
  rintro⟨zb,sh⟩ _
  have Pw:s.aD.length<ii.aD.length:=by
   rw[<-qi];split
   ·have:=(JR o ap k below (fj aX) s.aD.length (bY+1) gw).1;omega
   omega
  have ash:ii.aD.length<=1000000/\(ii.be s.aD.length).length<=1000000:=by
   have bC:=oI.2.2.2;rw[alm,at7]at bC;have Gy:i<=n.J.length:=hi;rw[<-qi];split
   ·have alv:=JR o ap k below (fj aX) s.aD.length (bY+1) gw;rw[alv.2.2 s.aD.length atw];omega
   omega
  have Ye:iN o ap (n.J.take (i+1)) qq s.aD.length path bY fa=hE ii s.aD.length ⟨fj aX,k.n4,o.c3,if k.kind=0 then 2 else 0,eU,.e2⟩:=by
   rw[C2];unfold AZ
   rw[atI (by simpa using bu),alt,<-qi,<-JT];split<;>rfl
  obtain⟨gH,dm⟩:∃gH:Int,(if k.kind=0 then(2:Int)else 0)=gH:=⟨_,rfl⟩;rw[dm]at Ye;have Pf:=k_.mk<|CM (B:=B) o h5 k bW bF (fj aX) eU gH (by rw[<-dm,<-JT];split<;>simp<;>omega)
  refine W.Aa (fD:=.row (sh s.aD.length) ((ii.be s.aD.length).map (jv rd)) 12 234) 7500 (10000+s.aD.length) rfl (gD _ _ _) (Ph Pw) rfl atz λCU=>?_;refine go ?_
  refine' eH [(7500,.row (sh s.aD.length) ((ii.be s.aD.length).map (jv rd)) 12 234),(4103,.mp bW (bn aE ap)),(4104,.mp bF (bn bl [])),(4,.box cT [.fn (.func 181) [] [.a_ 1 [.box 4110 dM 0] 0 0,.a_ 1 [.a_ 26 [dD o h5 bW bF] 0 0] 0 0,.box 4 cT 0]]),(4110,.box dM [.bool true,.ai zb,u 0,u 0,u 0]),(4111,.row zb (eT ii.aD sh (λ_=>0) (λ_=>0)) 5 249)] 0
   (λy=>[_,_,_,_,_,_,_,_,om (fj aX) k.n4 o.c3 gH eU .bj,.box 23 y 0,.any]) (λy=>[(9,23,some (.box y [.O [],u 0,u 0,u 0,u 0,u 0,u 0,.O [],u 0,.ai .nilFunc,.bj,.bj])),(10,23,some (.box y (om (fj aX) k.n4 o.c3 gH eU .bj).cells))]) [0,0,0,0,0,30,0,0,255,0,1023] [(9,23),(10,23)] ?_ ?_
  rotate_left 8
  ·refine dw ?_;refine⟨λy=>.inl ?_,dw ?_⟩
   ·(conv=>whnf)
    refine⟨_,_,λ_=>Pf.cr,i1,?_⟩;exact E
   refine bS (λy=>af.EL rfl [.a_ 26 [dD o h5 bW bF] 0 0,om (fj aX) k.n4 o.c3 gH eU .bj,aE k,.O below] [(4104,4104)] (by exact rR) (XR o h5 k bW bF (fj aX) below k.n4 o.c3 gH eU) rfl (by exact i1) (cw y)) ?_;refine wS ?_;exact trivial
  intro Yf
  (conv=>whnf)
  refine go ?_;have lo:=CX (vs:=sh) (aY:=λ_=>0) (lr:=λ_=>0) Pw
  refine' eH [(7500,.row (sh s.aD.length) ((ii.be s.aD.length).map (jv rd)) 12 234),(4103,.mp bW (bn aE ap)),(4104,.mp bF (bn bl [])),(4,.box cT [.fn (.func 181) [] [.a_ 1 [.box 4110 dM 0] 0 0,.a_ 1 [.a_ 26 [dD o h5 bW bF] 0 0] 0 0,.box 4 cT 0]]),(4110,.box dM [.bool true,.ai zb,u 0,u 0,u 0]),(4111,.row zb (eT ii.aD sh (λ_=>0) (λ_=>0)) 5 249),(23,.box Yf (om (fj aX) k.n4 o.c3 gH eU .bj).cells)] (α:=Option Addr×Nat×Nat) (none,0,0)
   (λy=>[_,_,_,_,_,_,_,_,_,_,_,_,_,_,.Q .dV 12 [om (fj aX) k.n4 o.c3 gH eU .bj],.ai (.slice y.1 y.2.1 y.2.2),_,_,.any])
   (λy=>[(15,7500,none),(15,139,some (.row (.slice y.1 y.2.1 y.2.2) (((ii.be s.aD.length).map (jv rd))++[om (fj aX) k.n4 o.c3 gH eU .bj]) 12 234)),
    (18,4111,some (.row zb ((eT ii.aD sh (λ_=>0) (λ_=>0)).set s.aD.length (nG ii.aD[s.aD.length].1 ii.aD[s.aD.length].2 (.slice y.1 y.2.1 y.2.2) 0 0)) 5 249))]) [0,1,3,7,0,0,32,96,224,0,992,2016,4064,0,8192,32736,65535,131071,262143] [(15,7500),(15,139),(18,4111)] ?_ ?_
  rotate_left 16
  ·refine dw ?_;refine bS (λy=>af.ey aM 4111 rfl rfl rfl rfl rfl rfl rfl atw (by rw[h6];omega) (cw y)) ?_;refine bS (λy=>af.jl aM 4111 (i:=s.aD.length) rfl rfl (by rw[h6];omega) rfl rfl rfl atz (cw y)) ?_;refine bS (λy=>af.n1 aM 4111 (i:=s.aD.length) (j:=2) rfl rfl rfl lo (cw y)) ?_;refine bS (λy=>af.nU aM 7500 rfl rfl rfl atD rfl rfl rfl aty (by rw[atL];show(_+1)*144<=_;omega) (by rw[atL];show _+1<=_;omega) (λbJ fU cap=>dh (bJ,fU,cap))) ?_;refine bS (λy=>af.ey aM 4111 rfl rfl rfl rfl rfl rfl rfl atw (by rw[h6];omega) (cw y)) ?_;refine bS (λy=>af.jl aM 4111 (i:=s.aD.length) rfl rfl (by rw[h6];omega) rfl rfl rfl atz (cw y)) ?_;refine bS (λy=>af.vj aM 4111 (i:=s.aD.length) (j:=2) rfl rfl rfl rfl lo atz rfl (cw y)) ?_;exact trivial
  rintro⟨bJ,fU,cap⟩
  (conv=>whnf)
  have l8:=alg (vs:=sh) (v:=.slice bJ fU cap) Pw;have alw:=alh (s:=ii) (vs:=sh) (i:=s.aD.length) (x:=⟨fj aX,k.n4,o.c3,gH,eU,.e2⟩) (v:=.slice bJ fU cap)
  refine W.iY [(1,.O path),(4,u (bY:Nat)),(5,.a_ 1 [.box 4110 dM 0] 0 0),(6,.a_ 1 [.a_ 26 [dD o h5 bW bF] 0 0] 0 0),(7,.box 4 cT 0),(13,u (s.aD.length:Nat)),(15,.Q .none 1 Pt),(70,.Q .none 12 alp),(71,u (n.J.length:Nat)),(72,u (i:Nat))]
   (cM [(4103,.mp bW (bn aE ap)),(4104,.mp bF (bn bl [])),(4,.box cT [.fn (.func 181) [] [.a_ 1 [.box 4110 dM 0] 0 0,.a_ 1 [.a_ 26 [dD o h5 bW bF] 0 0] 0 0,.box 4 cT 0]]),(4110,.box dM [.bool true,.ai zb,u 0,u 0,u 0]),(4111,.row zb (eT (hE ii s.aD.length ⟨fj aX,k.n4,o.c3,gH,eU,.e2⟩).aD (λj=>if j=s.aD.length then .slice bJ fU cap else sh j) (λ_=>0) (λ_=>0)) 5 249)] (nb (hE ii s.aD.length ⟨fj aX,k.n4,o.c3,gH,eU,.e2⟩) (λj=>if j=s.aD.length then .slice bJ fU cap else sh j)))
   (t_ (fD:=.row (.slice bJ fU cap) ((ii.be s.aD.length).map (jv rd)++[jv rd ⟨fj aX,k.n4,o.c3,gH,eU,.e2⟩]) 12 234) [(4103,4103),(4104,4104),(4,4),(4110,4110),(4111,4111)] (10000+s.aD.length) 139 atw (y2 (gD _ _ _) _) alw (gk:=⟨rfl,rfl,rfl,rfl,rfl,rfl,rfl,rfl,rfl,sM l8,ak⟩)) ?_
  rw[<-Ye];refine go ?_;exact vu (i+1,zb,λj=>if j=s.aD.length then .slice bJ fU cap else sh j) ce (xy [(4103,4103),(4104,4104),(4,4),(4110,4110),(4111,4111)] (gD _ _ _))
 have ci:i=n.J.length:=by have:=at2 hc;omega
 subst ci;rw[atX]at jh;rw[jh];refine W.exit ?_
 (conv=>whnf)
 exact⟨.bp [],ak,za,xz,rfl,rfl⟩
def kA(o:f0)(ap:List (atG×ad))(n:ad):k1:=jx o ap n [] [0] 0 1 ⟨[],λ_=>[]⟩
theorem alx(a1:db B)(o:f0)(n:ad)(bW bF:Nat)(ap:List (atG×ad))(kV:y_ n)(cz:oX n<1000000): c1 B 111 [.a_ 26 [dD o n bW bF] 0 0] (aL [(4103,.mp bW (bn aE ap)),(4104,.mp bF (bn bl []))]) λd aP=>∃d_ cT b5 vs,d=.box 4110 d_ 0/\aP=cM [(4103,.mp bW (bn aE ap)),(4104,.mp bF (bn bl [])),(4,.box cT [.fn (.func 181) [] [.a_ 1 [.box 4110 d_ 0] 0 0,.a_ 1 [.a_ 26 [dD o n bW bF] 0 0] 0 0,.box 4 cT 0]]),(4110,.box d_ [.bool true,.ai b5,u 0,u 0,u 0]),(4111,.row b5 (eT (kA o ap n).aD vs (λ_=>0) (λ_=>0)) 5 249)] (nb (kA o ap n) vs):=by refine ye Tryz.func111 Tryz.ntmps111 λU=>?_;refine go ?_;intro dC;(conv=>whnf);refine da ?_;refine iF 1 1 1 (.a_ 26 [dD o n bW bF] 0 0) ?_;refine go ?_;intro d_;(conv=>whnf);refine da ?_;intro eR;(conv=>whnf);refine da ?_;refine W.jj 6 (dv:=[.bool true,.ai (.slice none 0 0),u 0,u 0,u 0]) rfl ⟨E,aq.rG,E,E,E,ak⟩ ?_;refine W.jj 3 (dv:=[.box 4110 d_ 0]) rfl ⟨aq.box,ak⟩ ?_;refine W.qE 4111 5 249 ?_;refine iF 3 3 1 (.box 4110 d_ 0) ?_;refine W.fb [(1,.a_ 1 [.a_ 26 [dD o n bW bF] 0 0] 0 0),(3,.a_ 1 [.box 4110 d_ 0] 0 0)] [(4103,.mp bW (bn aE ap)),(4104,.mp bF (bn bl [])),(4110,.box d_ [.bool true,.ai (.slice none 0 0),u 0,u 0,u 0]),(4111,.row (.slice none 0 0) [] 5 249)] [(4103,4103),(4104,4104),(4110,6),(4111,4111)] ⟨cO,rfl,cO⟩ ?_;refine go ?_;intro cT;(conv=>whnf);refine go ?_;refine W.zL aM 5 mixed atA ?_;(conv=>whnf);refine go ?_;have aly:=ali (B:=B) a1 o n bW bF d_ cT ap (oX n) n [] [0] 0 1 ⟨[],λ_=>[]⟩ (λ_=>.nilFunc) (.slice none 0 0) (atQ _) kV (by have:=A0 n;simp;omega);refine .inr (af.y4 rfl [aE n,.O [],.O [0],u ((0:Nat):Int),u ((1:Nat):Int),.a_ 1 [.box 4110 d_ 0] 0 0,.a_ 1 [.a_ 26 [dD o n bW bF] 0 0] 0 0,.box 4 cT 0] (qp [(4103,.mp bW (bn aE ap)),(4104,.mp bF (bn bl [])),(4,.box cT [.fn (.func 181) [] [.a_ 1 [.box 4110 d_ 0] 0 0,.a_ 1 [.a_ 26 [dD o n bW bF] 0 0] 0 0,.box 4 cT 0]]),(4110,.box d_ [.bool true,.ai (.slice none 0 0),u 0,u 0,u 0]),(4111,.row (.slice none 0 0) [] 5 249)]) (Pq (gD _ _ _) (λk o Y h=>by unfold iM at h;rw[atH aty]at h;cases h)) aly ?_ ?_);exact i1;rintro d aP ⟨tk,fW,rfl,rfl⟩;refine⟨_,E,?_⟩;(conv=>whnf);refine W.iY [(3,.a_ 1 [.box 4110 d_ 0] 0 0)] (cM [(4103,.mp bW (bn aE ap)),(4104,.mp bF (bn bl [])),(4,.box cT [.fn (.func 181) [] [.a_ 1 [.box 4110 d_ 0] 0 0,.a_ 1 [.a_ 26 [dD o n bW bF] 0 0] 0 0,.box 4 cT 0]]),(4110,.box d_ [.bool true,.ai tk,u 0,u 0,u 0]),(4111,.row tk (eT (kA o ap n).aD fW (λ_=>0) (λ_=>0)) 5 249)] (nb (kA o ap n) fW)) (xy [(4103,4103),(4104,4104),(4,4),(4110,4110),(4111,4111)] (gD _ _ _) (sx:=λq o G ah=>JO G ah)) ?_;refine go ?_;exact⟨.box 4110 d_ 0,E,d_,cT,tk,fW,rfl,rfl⟩
variable{c:Code}{aj:Value}{xs:List D}{k e:Nat}
theorem alz{U:b7 Tryz.prog B am}(s i j:Nat){x:D}(F:xs[i]?=some x)(aa:j<k)(an:x.cells[j]?=some (.ai aj))(h:aj.oneCell'=true->W U c z K)(hs:z.H s=some (.row v xs k e):=by exact rfl):W U c z K :=
 ⟨λa w C M=>by
  have hi:=e7 F;obtain⟨b,cap,vs,_,_,_,Y,_,_,_,ae⟩:=kf.pos (M.heap.cj s _ hs) hi;obtain⟨aeV,_,h1,A⟩:=ae (i*k+j) (.ai aj) (by rw[wH Y F aa];exact an);rw[h1.f4]at A
  exact(h A).run a w C M⟩
def mC(aD:List (atG×Int))(aY:Nat->Int):List f1:=aD.mapIdx λj d=>⟨d.1,aY j,d.2+1⟩
theorem C3{aY:Nat->Int}:(mC aD aY).length=aD.length:=by simp[mC]
theorem alA{aY:Nat->Int}(h:i<aD.length):(mC aD aY).take (i+1)=(mC aD aY).take i++[⟨aD[i].1,aY i,aD[i].2+1⟩]:=by rw[atM (by rw[C3];exact h)];simp[mC]
theorem alB(aD:List (atG×Int))(vs:Nat->Value)(aY lr:Nat->Int)(wide:Bool)(b5:Value)(bU iI CN:Int)(dM:Nat)(T:List f1)(fu:List Int)(H4:Int)(aw:aD.length<=1000000)(ay:∀d∈aD,0<=d.2/\d.2<=1000000000)(Px:aU B 239 [.Q .none 3 (d7 (mC aD aY)),.bool wide] (.bp [.Q .none 3 (d7 T),.Q .none 1 (br fu),u H4])): c1 B 170 [.box 4110 dM 0] (aL [(4110,.box dM [.bool wide,.ai b5,u bU,u iI,u CN]),(4111,.row b5 (eT aD vs aY lr) 5 249)]) λd aP=>d=.Q .none 3 (d7 T)/\aP=aL [(4110,.box dM [.bool wide,.ai b5,u bU,u iI,u CN]),(4111,.row b5 (eT aD vs aY lr) 5 249)]:=by refine kj Tryz.func170 Tryz.ntmps170 λU=>?_;refine go ?_;refine dQ (af.sF aM 4111 rfl rfl rfl rfl) ?_;rw[h6];refine W.own 3 1000 3 320 rfl (λw0=>?_);refine gf (λx:Nat×Value=>x.1<=aD.length) [0,12,13] [4110,4111] (λx=>[(3,.Q (.own 1000 x.2) 3 (d7 ((mC aD aY).take x.1))),(14,u x.1)]) (λx=>[(1000,.own x.2 (d7 ((mC aD aY).take x.1)).length 3 320)]) (λx=>aD.length-x.1) (0,w0) (at4 _) [(4110,4110),(4111,4111),(1000,1000)] ?_;rintro⟨i,w⟩ hi;dsimp only at hi⊢;refine go ?_;refine cb (t:=decide ((i:Int)<(aD.length:Nat))) ?_ ?_<;>intro hc;(have ce:i<aD.length:=by simpa using hc);have lo:=CX (vs:=vs) (aY:=aY) (lr:=lr) ce;have cS:=alA (aY:=aY) ce;have alC:=ay _ (atO ce);generalize aD[i]=d at*;refine alz 4111 i 2 lo (show 2<5 by decide) rfl λAR=>?_;refine go ?_;refine dQ (af.ey aM 4111 rfl rfl rfl rfl rfl rfl rfl atw (by rw[h6];omega)) ?_;refine dQ (af.n1 aM 4111 (i:=i) (j:=0) rfl rfl rfl lo) ?_;intro cK;(conv=>whnf);refine da ?_;rw[show[D.O d.1,u d.2,.ai (vs i),u (aY i),u (lr i)].all D.one=true by simp only[awm,List.all_nil,D.one,AR,Bool.and_self]];(conv=>whnf);refine da ?_;refine iF 5 5 5 (nG d.1 d.2 (vs i) (aY i) (lr i)) ?_ (ee:=by show[D.O d.1,u d.2,.ai (vs i),u (aY i),u (lr i)].all D.one=true;simp only[awm,List.all_nil,D.one,AR,Bool.and_self]);refine go ?_;refine Mq (by show(_+1)*32<=_;simp only[d7,atL,at7,C3];omega) (by show _+1<=_;simp only[d7,atL,at7,C3];omega) λgm=>?_;(have oL:d7 ((mC aD aY).take i)++[.agg [.O d.1,u (aY i),u (d.2+1)]]=d7 ((mC aD aY).take (i+1)):=by rw[cS];simp[d7,kx]);exact eI (i+1,gm) [(4110,4110),(4111,4111),(1000,28)] ce (A:=⟨⟨E,E,E,aq.jK oL,E,ak⟩,rfl,rfl,rfl,rfl,rfl,rfl,j2 (by rw[<-oL];simp),ak⟩);(have oL:i=aD.length:=by simp at hc;omega);subst oL;rw[show(mC aD aY).take aD.length=mC aD aY by rw[<-C3 (aD:=aD) (aY:=aY),atX]];refine W.exit ?_;(conv=>whnf);refine go ?_;refine bs Px ?_;exact⟨.Q .none 3 (d7 T),E,rfl,bc⟩
section
variable{b':Type}
theorem JU(L:List b')(i j:Nat):(n_ L i j).Perm L:=by unfold n_;split;rename_i x y F hy;obtain⟨hi,rfl⟩:=aun.1 F;obtain⟨aa,rfl⟩:=aun.1 hy;exact List.set_set_perm hi aa;exact E
theorem JV(L:List b')(a b:Nat):∀n,(mm L a b n).Perm L
 |0=>.refl _
 |n+1=>(JU _ _ _).trans (JV L a b n)
theorem Py(m:Nat)(L:List b')(i j:Nat):(pg m L i j).Perm L:=by
 rw[pg];split
 ·exact JV ..
 split
 ·exact(Py m _ _ _).trans (JV ..)
 split
 ·exact(Py m _ _ _).trans (JV ..)
 exact E
termination_by i+j
variable(ca:b'->b'->Int)
theorem Yg(a:Nat):∀(j:Nat) (L:List b'),(vv ca a j L).Perm L
 |0,_=>.refl _
 |j+1,L=>by rw[vv];split;exact(Yg a j _).trans (JU ..);exact E
theorem Pz(a:Nat)(L:List b'):∀n,(qN ca a L n).Perm L
 |0=>.refl _
 |n+1=>(Yg ca a _ _).trans (Pz a L n)
theorem Yh(L:List b')(a:Nat):∀n,(p7 L a n).Perm L
 |0=>.refl _
 |n+1=>(JU _ _ _).trans (Yh L a n)
theorem Yi(L:List b')(m:Nat):∀n,(p8 L m n).Perm L
 |0=>.refl _
 |n+1=>(JU _ _ _).trans (Yi L m n)
theorem JW:∀(f:Nat) (L:List b') (a m b:Nat),(pi ca f L a m b).Perm L
 |0,_,_,_,_=>.refl _
 |f+1,L,a,m,b=>by rw[pi];split;exact Yh ..;split;exact Yi ..;simp only;(have h1:(if p9 ca L a m b<m/\p9 ca L a m b<(a+b)/2 then pg m L (m-p9 ca L a m b) ((a+b)/2-p9 ca L a m b)else L).Perm L:=by split;exact Py ..;exact E);generalize(if p9 ca L a m b<m/\p9 ca L a m b<(a+b)/2 then pg m L (m-p9 ca L a m b) ((a+b)/2-p9 ca L a m b)else L)=vx at*;(have A:(if a<p9 ca L a m b/\p9 ca L a m b<(a+b)/2 then pi ca f vx a (p9 ca L a m b) ((a+b)/2)else vx).Perm L:=by split;exact(JW f _ _ _ _).trans h1;exact h1);split;exact(JW f _ _ _ _).trans A;exact A
theorem Yj(n a:Nat)(L:List b'):(qO ca n a L).Perm L:=by
 rw[qO];split
 ·exact(Yj n _ _).trans (Pz ..)
 exact Pz ..
termination_by n-a
theorem Yk(n aS a:Nat)(L:List b'):(sS ca n aS a L).Perm L:=by
 rw[sS];split
 ·exact(Yk n aS _ _).trans (JW ..)
 split
 ·exact JW ..
 exact E
termination_by n-a
theorem Yl(n aS:Nat)(L:List b'):(t' ca n aS L).Perm L:=by
 rw[t'];split
 ·exact(Yl n _ _).trans (Yk ..)
 exact E
termination_by n-aS
theorem PA(L:List b'):(gd ca L).Perm L:=(Yl ca _ _ _).trans (Yj ca _ _ _)
end
theorem alD(e:f1):aU B 283 [kx e] (.bool (bif bif bif e.id !=[]then decide ((e.id.length:Int)<=255)else false then e.id !=[0]else false then e.id !=[1]else false)):=by refine fn Tryz.func283 Tryz.ntmps283 λU=>?_;refine go ?_;intro dC;(conv=>whnf);refine da ?_;refine iF 1 1 3 (kx e) ?_;refine go ?_;exact E
theorem Ym(a1:db B)(l:List f1)(wide:Bool)(i j:Nat)(hi:i<l.length)(aa:j<l.length)(al:∀x∈l,x.id.length<100000000/\(wide=false->io x.id)):aU B 284 [u i,u j,.a_ 1 [.Q .none 3 (d7 l)] 0 0,.a_ 1 [.bool wide] 0 0] (u (xj l[i].id l[j].id wide)):=by have Pg:=W9 (B:=B) a1 l[i].id l[j].id wide (al _ (atO hi)).1 (al _ (atO aa)).1 (λh=>⟨(al _ (atO hi)).2 h,(al _ (atO aa)).2 h⟩);(have alE:(d7 l)[i]?=some (kx l[i]):=by simp[d7,hi]);(have PB:(d7 l)[j]?=some (kx l[j]):=by simp[d7,aa]);refine fn Tryz.func284 Tryz.ntmps284 λU=>?_;refine go ?_;refine yf ?_;refine And.intro (λ_=>by simp only[d7,atL];omega) ?_;(conv=>whnf);refine da ?_;refine bI (kx l[i]) alE ?_;refine And.intro (λ_=>by simp only[d7,atL];omega) ?_;(conv=>whnf);refine da ?_;refine bI (kx l[j]) PB ?_;refine bs Pg ?_;exact E
section
variable(L:List f1)(wide:Bool)
def jy(p:Int):Nat->List (Fin L.length)
 |0=>[]
 |m+1=>jy p m++if h:m+1<L.length then(if L[m+1].dr=p then[⟨m+1,h⟩]else[])else[]
theorem Yn{p:Int}{m:Nat}{x:Fin L.length}(h:x∈jy L p m):1<=x.1/\x.1<=m/\L[x].dr=p:=by induction m with|zero=>cases h|succ m aZ =>rw[jy]at h;rcases aue.1 h with h|h;obtain⟨a,b,c⟩:=aZ h;exact⟨a,by omega,c⟩;split at h;split at h;rw[auv]at h;subst h;exact⟨by simp,atQ _,by assumption⟩;cases h;cases h
theorem PC{p:Int}{m:Nat}:(jy L p m).Nodup:=by induction m with|zero=>exact List.nodup_nil|succ m aZ =>rw[jy];refine List.nodup_append.2 ⟨aZ,?_,λx F y hy e=>?_⟩;split;split;simp;exact List.nodup_nil;exact List.nodup_nil;subst e;have:=(Yn L F).2.1;split at hy;split at hy;rw[auv]at hy;subst hy;simp at this;omega;cases hy;cases hy
def JX(x y:Fin L.length):Int:=xj L[x].id L[y].id wide
def A1(p:Int):List (Fin L.length):=gd (JX L wide) (jy L p (L.length-1))
theorem Yo{p:Int}{x:Fin L.length}(h:x∈A1 L wide p):1<=x.1/\L[x].dr=p:=by have:=Yn L ((PA _ _).mem_iff.1 h);exact⟨this.1,this.2.2⟩
theorem Yp{p:Int}:(A1 L wide p).Nodup:=(PA _ _).nodup_iff.2 (PC L)
def sj(l:List (Fin L.length)):Nat->Bool
 |0=>false
 |1=>false
 |k+2=>sj l (k+1)||(match l[k]?,l[k+1]? with|some x,some y=>JX L wide x y==0|_,_=>false)
def eE(h0:0<L.length):Nat->List (Fin L.length)×Bool
 |0=>([⟨0,h0⟩],false)
 |a+1=>match(eE h0 a).1[a]? with
  |some x=>((eE h0 a).1++A1 L wide (x.1+1:Nat),(eE h0 a).2||sj L wide (A1 L wide (x.1+1:Nat)) (A1 L wide (x.1+1:Nat)).length)
  |none=>eE h0 a
theorem PD(h0:0<L.length):∀a,(eE L wide h0 a).1.Nodup/\(∀y∈(eE L wide h0 a).1,y.1=0\/(1<=y.1/\∃j,j<a/\∃x,(eE L wide h0 a).1[j]?=some x/\L[y].dr=((x.1+1:Nat):Int)))
 |0=>⟨by simp[eE],λy hy=>by rw[eE,auv]at hy;subst hy;exact .inl rfl⟩
 |a+1=>by obtain⟨h1,A⟩:=PD h0 a;rw[eE];split;rename_i x F;have pj:=(aun.1 F).1;refine⟨List.nodup_append.2 ⟨h1,Yp L wide,λy hy V bC e=>?_⟩,λy hy=>?_⟩;subst e;obtain⟨cq,d8⟩:=Yo L wide bC;rcases A y hy with Z|⟨_,j,aa,b1,Bi,ay⟩;omega;rw[d8]at ay;have:x=b1:=Fin.ext atw;subst this;obtain⟨ta,q1⟩:=aun.1 F;obtain⟨yR,alF⟩:=aun.1 Bi;have:=(List.getElem_inj h1).1 (q1.trans alF.symm);omega;rcases aue.1 hy with hy|hy;rcases A y hy with Z|⟨cq,j,aa,b1,Bi,ay⟩;exact .inl Z;exact .inr ⟨cq,j,by omega,b1,by rw[at0 atw];exact Bi,ay⟩;obtain⟨cq,d8⟩:=Yo L wide hy;exact .inr ⟨cq,a,by omega,x,by rw[at0 pj];exact F,d8⟩;refine⟨h1,λy hy=>?_⟩;rcases A y hy with Z|⟨cq,j,aa,r⟩;exact .inl Z;exact .inr ⟨cq,j,by omega,r⟩
theorem Yq{α:Type}[DecidableEq α]:∀(l m:List α),l.Nodup->(∀x∈l,x∈m)->l.length<=m.length
 |[],_,_,_=>at4 _
 |x::l,m,h,hs=>by obtain⟨h1,A⟩:=avD.1 h;have Z:=Yq l (m.erase x) A λy hy=>(List.mem_erase_of_ne (λe:y=x=>h1 (e ▸ hy))).2 (hs y (atY _ hy));have aG:=List.length_erase_of_mem (hs x atU);have bb:0<m.length:=awt (hs x atU);rw[atT];omega
theorem JY{n:Nat}{l:List (Fin n)}(h:l.Nodup):l.length<=n:=by have:=Yq l (List.finRange n) h λx _=>List.mem_finRange x;rwa [List.length_finRange]at this
theorem Yr(h0:0<L.length)(a:Nat):(eE L wide h0 a).1.length<=L.length:=JY (PD L wide h0 a).1
theorem Ys(h0:0<L.length){a:Nat}(h:(eE L wide h0 a).1.length<=a):∀k,eE L wide h0 (a+k)=eE L wide h0 a
 |0=>rfl
 |k+1=>by have:=Ys h0 h k;rw[<-avH,eE,this,atW atw]
def JZ(e:f1):Bool:=bif bif bif e.id !=[]then decide ((e.id.length:Int)<=255)else false then e.id !=[0]else false then e.id !=[1]else false
def xA(n:Nat)(e:f1):Bool:=bif bif !JZ e then true else decide (e.dr<1)then true else decide (e.dr>(n:Int))
def gE(l:List (Fin L.length)):Nat->List Int×List f1
 |0=>(List.replicate L.length 0,[])
 |k+1=>match l[k]? with
  |some x=>((gE l k).1.set x.1 (k+1:Nat),(gE l k).2++[⟨L[x].id,L[x].q5,(((gE l k).1.set x.1 (k+1:Nat))[(L[x].dr-1).toNat]?).getD 0⟩])
  |none=>gE l k
def nK:List f1×List Int×Int :=
 if 1024<L.length then([],[],7)
 else if h0:0<L.length then
  if(bif L[0].id==[0]then L[0].dr==1 else false)=false then([],[],1)
  else if(L.drop 1).any (xA L.length)=true then([],[],1)
  else if(eE L wide h0 L.length).1.length<L.length then([],[],13)
  else if 0<=fd (λx=>!CR x.q5) L then([],[],2)
  else if(eE L wide h0 L.length).2=true then([],[],5)
  else((gE L (eE L wide h0 L.length).1 L.length).2,(gE L (eE L wide h0 L.length).1 L.length).1,0)
 else([],[],1)
end
variable{b:Nat}
theorem PE(h:(aJ.row (.slice none 0 0) [] k e).ef b):False:=by obtain⟨n,cap,h,A⟩:=h;exact ayk
theorem Yt{U:b7 Tryz.prog B am}(n k e:Nat)(h:W U c {t:=z.t,H:=λj=>if 10000<=j/\j<10000+n then some (.row (.slice none 0 0) [] k e)else z.H j} K):W U c z K :=
 ⟨λa w C M=>h.run a w C ⟨M.tmps,⟨λs o ah=>by
   dsimp only at ah;split at ah
   ·cases ah;exact⟨none,0,rfl,atQ _,at4 _,λx F=>(by cases F),λdE gb=>(by cases gb),λh=>absurd h aty⟩
   ·exact M.heap.cj s o ah,λs bo o bM b a7 h1 A an cV=>by
   dsimp only at h1 A;split at h1
   ·cases h1;exact PE an
   ·split at A
    ·cases A;exact PE cV
    exact M.heap.inj s bo o bM b a7 h1 A an cV,λs o b h1 an=>by
   dsimp only at h1;split at h1
   ·cases h1;exact(PE an).elim
   exact M.heap.cI s o b h1 an⟩,M.size,M.defers,M.step⟩⟩
variable{dst:Option Tmp}{dS dZ:TypeId}{x:Operand}{c6:TypeDesc}{b3:List (D×D)}
theorem PF{K:au->Prop}{t:TypeId}{m:Operand}(s:Nat){k:D}(hm:Tryz.prog.underlying t=some (.map dS dZ))(N:Tryz.prog.underlying dS=some c6)(F:z.ba m=.ai (.map (some b)))(hs:z.H s=some (.mp b b3))(G:z.ba x=k)(Y:mX c6 k=true)(b6:∀x∈b3,mX c6 x.1=true)(aW:jm b3 k=some (.ai v)\/(jm b3 k=none/\v=.slice none 0 0))(bC:∀w,(zeroValue dZ).run Tryz.prog w=.ok (.slice none 0 0) w)(hK:K (z.put dst (.ai v))):af Tryz.prog B am z dst (.lookup t m x false) K:=by rcases aW with aW|⟨aW,rfl⟩;exact af.H9 s hm N F hs G Y b6 aW hK;exact af.Mv s hm N F hs G Y b6 aW bC (λw C=>.ai _) hK
def hp{n:Nat}(l:List (Fin n)):List D:=l.map λi=>u (i.1:Nat)
def oY(L:List f1)(vs:Nat->Value)(f:Nat->List (Fin L.length)):bE:=λk=>if 10000<=k/\k<10000+(L.length+1)then some (.row (vs (k-10000)) (hp (f (k-10000))) 1 3)else none
theorem A2(L:List f1)(vs:Nat->Value)(f:Nat->List (Fin L.length)):pf (oY L vs f):=λk o h=>by
 unfold oY at h;split at h
 ·omega
 cases h
theorem Yu{L:List f1}{vs:Nat->Value}{f:Nat->List (Fin L.length)}(h:i<=L.length):oY L vs f (10000+i)=some (.row (vs i) (hp (f i)) 1 3):=by unfold oY;rw[atI atw,auR]
variable{fW:Nat->Value}{row:List D}
theorem alG{L:List f1}{vs:Nat->Value}{f yo:Nat->List (Fin L.length)}(X:fW i=v)(fy:∀j,j≠i->fW j=vs j)(ae:hp (yo i)=row)(uB:∀j,j≠i->yo j=f j):
  ∀k o,oY L fW yo k=some o->10000<=k/\((k=10000+i/\o=.row v row 1 3)\/(k≠10000+i/\kO (oY L vs f) (10000+i) k=some o)):=λk o h=>by
 unfold oY at h;split at h
 ·rename_i Y;refine⟨Y.1,?_⟩;by_cases fA:k=10000+i
  ·subst fA;rw[auR,X,ae]at h;exact .inl ⟨rfl,(auD h).symm⟩
  refine .inr ⟨fA,?_⟩;unfold kO oY;rw[au' fA,atI Y,<-uB (k-10000) atw,<-fy (k-10000) atw];exact h
 cases h
def pB(l:List (Int×Value)):List (D×D):=l.map λx=>(u x.1,.ai x.2)
def re(l:List (Int×Value))(p:Int):Option Value:=(l.find? λx=>x.1==p).map (·.2)
def A3(l:List (Int×Value))(k:Int)(v:Value):List (Int×Value):=match re l k with
 |some _=>l.map λx=>if x.1==k then(x.1,v)else x
 |none=>l++[(k,v)]
theorem Yv(l:List (Int×Value))(k:Int):jm (pB l) (u k)=(re l k).map D.ai:=by unfold jm re pB;induction l with|nil=>rfl|cons x r aZ =>rw[aui,avQ,avQ];show(match x.1==k with|true=>_|false=>_:Option (D×D)).map _=_;(cases x.1==k with|true=>rfl|false=>exact aZ)
theorem alH(l:List (Int×Value))(k:Int)(v:Value):ml (pB l) (u k) (.ai v)=pB (A3 l k v):=by unfold ml A3;rw[Yv];cases h:re l k with|none=>simp[pB]|some y =>simp only[au7,pB,avN];apply av3;intro x F;show(if(x.1==k)=true then _ else _)=(λx:Int×Value=>(u x.1,D.ai x.2)) (if(x.1==k)=true then(x.1,v)else x);split<;>rfl
theorem alI(l:List (Int×Value))(k p:Int)(v:Value):re (l.map λx=>if x.1==k then(x.1,v)else x) p=if p=k then(re l k).map (λ_=>v)else re l p:=by unfold re;induction l with|nil=>split<;>rfl|cons x r aZ =>rw[aui,avQ,avQ,avQ];by_cases F:x.1=k;rw[atI (by simpa using F)];by_cases ay:p=k;subst ay;rw[atI rfl,show(x.1==p)=true by simpa using F];rfl;(have alJ:(x.1==p)=false:=by rw[F];simpa using λe:k=p=>ay e.symm);rw[atH ay]at aZ⊢;rw[show((x.1,v).1==p)=false from alJ];exact aZ;rw[atH (by simpa using F)];by_cases ay:p=k;subst ay;rw[atI rfl]at aZ⊢;rw[show(x.1==p)=false by simpa using F];exact aZ;rw[atH ay]at aZ⊢;(cases x.1==p with|true=>rfl|false=>exact aZ)
theorem alK(l:List (Int×Value))(k p:Int)(v:Value):re (A3 l k v) p=if p=k then some v else re l p:=by unfold A3;cases h:re l k with|some y=>simp only;rw[alI,h];rfl|none =>simp only;unfold re at h⊢;rw[List.find?_append];by_cases ay:p=k;subst ay;rw[atI rfl];rw[av5]at h;rw[h];simp;rw[atH ay];(cases M:l.find? (λx=>x.1==p)with|some y=>rfl|none=>simp[show¬k=p from λe=>ay e.symm])
def Gz(l:List (Int×Value))(vs:Nat->Value):Prop:=∀p:Nat,re l p=some (vs p)\/(re l p=none/\vs p=.slice none 0 0)
theorem alL:Gz [] (λ_=>.slice none 0 0):=λp=>.inr ⟨rfl,rfl⟩
theorem alM{l:List (Int×Value)}{vs:Nat->Value}(h:Gz l vs)(P:Nat)(v:Value):Gz (A3 l P v) (λj=>if j=P then v else vs j):=λp=>by
 rw[alK];by_cases ay:p=P
 ·subst ay;rw[atI rfl];exact .inl (atJ some (atI rfl).symm)
 rw[atH atw];dsimp only;rw[atH ay];exact h p
theorem Yw{l:List (Int×Value)}{vs:Nat->Value}(h:Gz l vs)(p:Nat):jm (pB l) (u p)=some (.ai (vs p))\/(jm (pB l) (u p)=none/\vs p=.slice none 0 0):=by rw[Yv];rcases h p with h|⟨h,A⟩;rw[h];exact .inl rfl;rw[h];exact .inr ⟨rfl,A⟩
theorem PG(l:List (Int×Value)):∀x∈pB l,mX (.int .i64) x.1=true:=λx F=>by
 obtain⟨y,_,rfl⟩:=aub.1 F;rfl
theorem alN{L:List f1}{H:bE}(hH:H 34=some (.mp b [])){o:aJ}(h:cM [(34,.mp b [])] (oY L (λ_=>.slice none 0 0) λp=>jy L p 0) k=some o):(if 10000<=k/\k<10000+(L.length+1)then some (.row (.slice none 0 0) [] 1 3)else H k)=some o:=by unfold cM aL oY at h;by_cases Y:k=34;subst Y;rw[atH atw,hH];exact h;rw[au' Y]at h;simp only[auW,aL]at h;split at h;rename_i ae;rw[atI ae];exact h;cases h
def sk(L:List f1)(vs:Nat->Value)(f:Nat->List (Fin L.length))(tl:Nat->Bool):bE:=λk=>if tl (k-10000)=true then none else oY L vs f k
theorem Yx(L:List f1)(vs:Nat->Value)(f:Nat->List (Fin L.length))(tl:Nat->Bool):pf (sk L vs f tl):=λk o h=>by
 unfold sk at h;split at h
 ·cases h
 exact A2 _ _ _ k o h
variable{tl:Nat->Bool}
theorem alO{L:List f1}{vs:Nat->Value}{f:Nat->List (Fin L.length)}(h:i<=L.length)(N:tl i=false):sk L vs f tl (10000+i)=some (.row (vs i) (hp (f i)) 1 3):=by unfold sk;rw[auR,atH (by rw[N];decide),Yu h]
theorem alP{L:List f1}{vs:Nat->Value}{f:Nat->List (Fin L.length)}{PH:Nat->Bool}{P:Nat}(N:∀p,PH p=(tl p||p==P)):sk L vs f PH=kO (sk L vs f tl) (10000+P):=by funext k;unfold kO;cases I:Nat.beq k (10000+P)with|true =>have:=auc I;subst this;unfold sk;rw[auR,N,atI aty];rfl|false =>show sk L vs f PH k=sk L vs f tl k;unfold sk;rw[N];by_cases Y:10000<=k;rw[show(k-10000==P)=false by(have:k≠10000+P:=λe=>by rw[e,au1]at I;cases I);simp;omega];simp;(have:oY L vs f k=none:=by unfold oY;rw[atH atw]);rw[this];split<;>split<;>rfl
variable{dj dn:aJ}
theorem alQ{L:List f1}{vs:Nat->Value}{f:Nat->List (Fin L.length)}{H:bE}(h1:H 34=some dj)(A:H 1000=some dn)(ae:∀k o,10000<=k->oY L vs f k=some o->H k=some o){o:aJ}(h:cM [(34,dj),(1000,dn)] (sk L vs f tl) k=some o):H k=some o:=by unfold cM aL at h;by_cases Y:k=34;subst Y;rw[h1];exact h;rw[au' Y]at h;simp only[auW]at h;unfold aL at h;by_cases tb:k=1000;subst tb;rw[A];exact h;rw[au' tb]at h;simp only[auW,aL]at h;unfold sk at h;split at h;cases h;exact ae k o (A2 _ _ _ k o h) h
def C4(L:List f1)(wide:Bool)(h0:0<L.length)(a:Nat)(p:Nat):Bool:=((eE L wide h0 a).1.take a).any λx=>x.1+1==p
variable{wide:Bool}
theorem alR{L:List f1}{h0:0<L.length}{a:Nat}{x:Fin L.length}(F:(eE L wide h0 a).1[a]?=some x):C4 L wide h0 a (x.1+1)=false:=by
 unfold C4;rw[List.any_eq_false];intro y hy e;have b9:y.1+1=x.1+1:=by simpa using e
 have alS:y=x:=Fin.ext atw;subst alS;obtain⟨j,aa,Yy⟩:=aur.1 hy;rw[at7]at aa;rw[List.getElem_take]at Yy;obtain⟨ha,PI⟩:=aun.1 F;have:=(List.getElem_inj (PD L wide h0 a).1).1 (Yy.trans PI.symm);omega
theorem alT{L:List f1}{h0:0<L.length}{a:Nat}{x:Fin L.length}(F:(eE L wide h0 a).1[a]?=some x)(p:Nat):C4 L wide h0 (a+1) p=(C4 L wide h0 a p||p==x.1+1):=by obtain⟨ha,PI⟩:=aun.1 F;unfold C4;(have h1:(eE L wide h0 (a+1)).1=(eE L wide h0 a).1++A1 L wide (x.1+1:Nat):=by rw[eE,F]);rw[h1,avo atw,atM ha,List.any_append,PI];simp only[awV,List.any_nil,Bool.or_false];(have hc:(x.1+1==p)=(p==x.1+1):=by by_cases h:x.1+1=p;rw[h];rw[show(x.1+1==p)=false from auA.2 h,show(p==x.1+1)=false from auA.2 λe=>h e.symm]);rw[hc]
theorem C5{U:b7 Tryz.prog B am}(s j:Nat)(h:W U c {t:=λi=>_root_.cond (Nat.beq i j) (.Q .none k xs) (z.t i),H:=λi=>_root_.cond (Nat.beq i s) none (z.H i)} K)
  (hs:z.H s=some (.row v xs k e):=by exact rfl) (aa:z.t j=.ai v:=by exact rfl):W U c z K :=
 W.commit s hs _ (λw C ae i aj an=>by
   show bh w C (_root_.cond (Nat.beq i j) _ _) aj
   cases hi:Nat.beq i j with
   |false=>exact an
   |true =>
    have:=auc hi;subst this
    rw[aa]at an
    rw[an.f4];exact ae.iw) (λi o ah=>by
   replace ah:_root_.cond (Nat.beq i s) none (z.H i)=some o:=ah
   cases hi:Nat.beq i s with
   |true=>rw[hi]at ah;cases ah
   |false =>
    rw[hi]at ah;refine .inr ⟨λe=>?_,ah⟩
    subst e;rw[au1]at hi;cases hi) h
theorem PJ(L:List f1)(l:List (Fin L.length)):∀k,(gE L l k).1.length=L.length
 |0=>by rw[gE];simp
 |k+1=>by rw[gE];split;simp only;rw[avd,PJ L l k];exact PJ L l k
theorem Yz(L:List f1)(l:List (Fin L.length)):∀k,k<=l.length->(gE L l k).2.length=k
 |0,_=>by rw[gE];rfl
 |k+1,h=>by rw[gE,atK atw];simp only;rw[atP,Yz L l k atw];rfl
theorem alU(a1:db B)(L:List f1)(wide:Bool)(kF:∀x∈L,x.id.length<100000000/\(wide=false->io x.id))(PK:∀x∈L,-1000000000<=x.dr/\x.dr<=1000000000)(mO:L.length<1000000): aU B 239 [.Q .none 3 (d7 L),.bool wide] (.bp [.Q .none 3 (d7 (nK L wide).1),.Q .none 1 (br (nK L wide).2.1),u (nK L wide).2.2]):=by have dg:(d7 L).length=L.length:=atL _;refine fn Tryz.func239 Tryz.ntmps239 λU=>?_;refine go ?_;intro cm;(conv=>whnf);refine da ?_;intro eR;(conv=>whnf);refine da ?_;refine iF 2 2 1 (.Q .none 3 (d7 L)) ?_;refine iF 3 3 1 (.bool wide) ?_;refine go ?_;rw[dg];refine cb (t:=decide ((L.length:Int)>1024)) ?_ ?_<;>intro hc;(have uJ:nK L wide=([],[],7):=by unfold nK;rw[atI (by have:=aua hc;omega)]);rw[uJ];refine go ?_;exact⟨.nil,.nil,E,ak⟩;(have V6:L.length<=1024:=by have:=at2 hc;omega);(obtain⟨ek,C6⟩:∃ek:f1,∀h:0<L.length,ek=L[0]:=by by_cases h:0<L.length;exact⟨L[0],λ_=>rfl⟩;exact⟨⟨[],0,0⟩,λA=>absurd A h⟩);have YA:=ajw (B:=B) ek.id ek.q5 ek.dr;(have ob:0<L.length->(d7 L)[0]?=some (kx ek):=λh=>by rw[C6 h];simp[d7,h]);(have J0:(!(L.length:Int)==0)=true->0<L.length:=λh=>by rcases auF L.length with h0|h0;rw[h0]at h;cases h;exact h0);refine go ?_;rw[dg];refine And.intro (λh=>⟨by decide,by have:=J0 h;omega⟩) ?_;(conv=>whnf);refine da ?_;refine⟨kx ek,λh=>ob (J0 h),?_⟩;(conv=>whnf);refine da ?_;refine bs YA ?_;refine cb ?_ ?_<;>intro hc;(have uJ:nK L wide=([],[],1):=by unfold nK;rw[atH atw];split;rename_i h0;rw[atI];rw[<-C6 h0];(cases ae:(bif ek.id==[0]then ek.dr==1 else false)with|false=>rfl|true=>rw[ae]at hc;simp at hc;first|omega|(rw[hc]at h0;simp at h0));rfl);rw[uJ];refine go ?_;exact⟨.nil,.nil,E,ak⟩;(have h0:0<L.length:=by rcases auF L.length with h0|h0;rw[h0]at hc;simp at hc;exact h0);(have uK:(bif L[0].id==[0]then L[0].dr==1 else false)=true:=by rw[<-C6 h0];cases ae:(bif ek.id==[0]then ek.dr==1 else false)with|true=>rfl|false=>rw[ae]at hc;simp at hc);clear YA ob J0 hc C6;refine go ?_;refine .inr (af.sQ λbG=>?_);(conv=>whnf);refine da ?_;refine go ?_;rw[dg,show List.drop (Int.toNat 1) (List.take ((L.length:Nat):Int).toNat (d7 L))=d7 (L.drop 1) by rw[auj,<-dg,atX];simp[d7],show(d7 (L.drop 1)).length=L.length-1 by simp[d7]];refine Yt (L.length+1) 1 3 ?_;refine yk (λx:Nat×List (Int×Value)×(Nat->Value)=>x.1<=L.length-1/\(∀j (aa:j<L.length),1<=j->j<=x.1->xA L.length L[j]=false)/\Gz x.2.1 x.2.2) [2,3,7,36,37] [] (λx=>[(38,u x.1)]) (λx=>[(34,.mp bG (pB x.2.1))]) (λx=>oY L x.2.2 λp=>jy L p x.1) (λx=>L.length-1-x.1) (0,[],λ_=>.slice none 0 0) ⟨at4 _,λj aa h1 A=>absurd h1 (by dsimp only at A;omega),alL⟩ ?_ (h1:=by exact fB.same cO λk o h=>by exact alN rfl h);rintro⟨m,b3,vs⟩ ⟨hm,I,PL⟩;(have jI:(d7 (L.drop 1)).length=L.length-1:=by simp[d7]);rcases at3 m (L.length-1)with gs|gs;(·(have mq:m+1<L.length:=by omega);(have tj:(d7 (L.drop 1))[m]?=some (kx L[m+1]):=by simp only[d7,aud,avM];rw[awy,atK mq];rfl);have alC:=PK _ (atO mq);(have fA:∀p:Nat,jy L (p:Int) (m+1)=jy L p m++if L[m+1].dr=(p:Int)then[⟨m+1,mq⟩]else[]:=λp=>by rw[jy,avw mq]);have PM:=alD (B:=B) L[m+1];rw[show(bif bif bif L[m+1].id !=[]then decide ((L[m+1].id.length:Int)<=255)else false then L[m+1].id !=[0]else false then L[m+1].id !=[1]else false)=JZ L[m+1]from rfl]at PM;have oM:=I;cases xB:xA L.length L[m+1]with|true =>(have uJ:nK L wide=([],[],1):=by unfold nK;rw[atH atw,avw h0,atH (by rw[uK];decide),atI];rw[au_];exact⟨L[m+1],by rw[aur];exact⟨m,by simp;omega,by simp[awy]⟩,xB⟩);rw[uJ];have A4:=xB;unfold xA at A4;generalize L[m+1]=e at*;rw[<-dg]at A4;refine W.p6 rfl (A2 _ _ _) λie=>?_;refine go ?_;refine vr (t:=decide ((m:Int)<((L.length-1:Nat):Int))) (by simpa using gs) ?_;refine bI (kx e) tj ?_;intro ij;(conv=>whnf);refine da ?_;refine iF 9 9 3 (kx e) ?_;refine go ?_;refine bs PM ?_;refine vr A4 ?_;exact⟨.nil,.nil,E,ak⟩|false =>have A4:=xB;unfold xA at A4;(obtain⟨P,YB,xu,ik⟩:∃P:Nat,1<=P/\P<=L.length/\L[m+1].dr=(P:Int):=by unfold xA at xB;cases aw:JZ L[m+1]with|false=>rw[aw]at xB;cases xB|true =>rw[aw]at xB;simp at xB;exact⟨L[m+1].dr.toNat,by omega,by omega,by omega⟩);generalize ki:L[m+1]=e at*;rw[<-dg]at A4;refine W.Aa (fD:=.row (vs P) (hp (jy L P m)) 1 3) 7500 (10000+P) rfl (A2 _ _ _) (Yu xu) rfl atz λCU=>?_;refine go ?_;refine vr (t:=decide ((m:Int)<((L.length-1:Nat):Int))) (by simpa using gs) ?_;refine bI (kx e) tj ?_;intro ij;(conv=>whnf);refine da ?_;refine iF 9 9 3 (kx e) ?_;refine go ?_;refine bs PM ?_;refine z' A4 ?_;have eS:(jy L (P:Int) m).length<=L.length:=JY (PC L);refine' eH [(34,.mp bG (pB b3)),(7500,.row (vs P) (hp (jy L P m)) 1 3)] (α:=Option Addr×Nat×Nat) (none,0,0) (λy=>[_,_,_,_,_,_,.ai (vs P),_,u ((m:Int)+1),.Q .dV 1 [u ((m:Int)+1)],.ai (.slice y.1 y.2.1 y.2.2),.any]) (λy=>[(10,7500,none),(10,68,some (.row (.slice y.1 y.2.1 y.2.2) (hp (jy L P m)++[u ((m:Int)+1)]) 1 3)),(11,34,some (.mp bG (ml (pB b3) (u e.dr) (.ai (.slice y.1 y.2.1 y.2.2)))))]) [0,0,2,0,0,16,56,0,128,384,1016,2047] [(10,7500),(10,68),(11,34)] ?_ ?_;rotate_left 7;refine dw ?_;refine bS (λy=>PF 34 rfl rfl rfl rfl rfl rfl (PG b3) (by rw[ik];exact Yw PL P) atE (cw y)) ?_;refine bS (λy=>af.nU aM 7500 rfl rfl rfl atD rfl rfl rfl aty (by show(_+1)*8<=_;simp only[hp,atL];omega) (by show _+1<=_;simp only[hp,atL];omega) (λbJ fU cap=>dh (bJ,fU,cap))) ?_;refine bS (λy=>af.yl 34 rfl rfl rfl rfl rfl rfl (PG b3) (cw y)) ?_;exact trivial;rintro⟨bJ,fU,cap⟩;(conv=>whnf);refine go ?_;(have ae:hp (jy L (P:Int) (m+1))=hp (jy L P m)++[u ((m:Int)+1)]:=by rw[fA P,atI ik];simp[hp]);(have uB:∀j:Nat,j≠P->jy L (j:Int) (m+1)=jy L j m:=λj aa=>by rw[fA j,atH (by rw[ik];omega),auG]);(have g7:ml (pB b3) (u e.dr) (.ai (.slice bJ fU cap))=pB (A3 b3 P (.slice bJ fU cap)):=by rw[ik];exact alH _ _ _);(have g0:∀j (aa:j<L.length),1<=j->j<=m+1->xA L.length L[j]=false:=λj aa h1 A=>by rcases at3 m j with h|h;(have alV:j=m+1:=by omega);subst alV;rw[ki];exact xB;exact I j aa h1 h);exact vu (m+1,A3 b3 P (.slice bJ fU cap),λj=>if j=P then .slice bJ fU cap else vs j) ⟨gs,g0,alM PL P _⟩ (t_ (fD:=.row (.slice bJ fU cap) (hp (jy L P m)++[u ((m:Int)+1)]) 1 3) [(34,34)] (10000+P) 68 atw (y2 (A2 _ _ _) _) (alG (atI rfl) (λj aa=>atH aa) ae uB) (gk:=⟨rfl,EE g7,ak⟩)));(have Pp:m=L.length-1:=by omega);subst Pp;refine W.p6 rfl (A2 _ _ _) λie=>?_;refine go ?_;refine cb (t:=decide (((L.length-1:Nat):Int)<((L.length-1:Nat):Int))) (λhc=>by simp at hc) (λhc=>?_);refine W.exit ?_;(conv=>whnf);refine W.iY [(2,.a_ 1 [.Q .none 3 (d7 L)] 0 0),(3,.a_ 1 [.bool wide] 0 0),(7,.ai (.map (some bG)))] (cM [(34,.mp bG (pB b3))] (oY L vs λp=>jy L p (L.length-1))) (oJ [(34,34)] (A2 _ _ _)) ?_;refine go ?_;refine W.own 10 1000 1 3 rfl (λw0=>?_);refine yk (λx:Nat×Value=>x.1<=(eE L wide h0 x.1).1.length) [2,3,7] [34] (λx=>[(10,.Q (.own 1000 x.2) 1 (hp (eE L wide h0 x.1).1)),(11,.bool (eE L wide h0 x.1).2),(12,u x.1)]) (λx=>[(1000,.own x.2 (hp (eE L wide h0 x.1).1).length 1 3)]) (λx=>sk L vs (λp=>jy L p (L.length-1)) (C4 L wide h0 x.1)) (λx=>L.length-x.1) (0,w0) (at4 _) ?_ (h1:=by exact fB.same cO λk o h=>alQ rfl rfl (λk o Y h=>by(have bV:¬k=1000:=by omega);(have b9:¬k=34:=by omega);show(bif Nat.beq k 1000 then _ else cM [(34,.mp bG (pB b3))] (oY L vs λp=>jy L p (L.length-1)) k)=_;rw[au' bV];simp only[auW,cM,aL,au' b9];exact h) h);rintro⟨q,w⟩ G;dsimp only at G;cases F:(eE L wide h0 q).1[q]? with|none =>(have asi:q=(eE L wide h0 q).1.length:=by have:=List.getElem?_eq_none_iff.1 F;omega);have hlen:=Yr L wide h0 q;(have a6:eE L wide h0 L.length=eE L wide h0 q:=by have h1:=Ys L wide h0 (a:=q) atw (L.length-q);rwa [show q+(L.length-q)=L.length by omega]at h1);(have wk:¬(L.drop 1).any (xA L.length)=true:=λh=>by obtain⟨e,ao,qR⟩:=au_.1 h;obtain⟨j,aa,rfl⟩:=aur.1 ao;rw[List.getElem_drop]at qR;rw[auV]at aa;have:=I (1+j) atw atw atw;rw[this]at qR;cases qR);(have oS:∀j (aa:j<L.length),1<=L[j].dr/\L[j].dr<=(L.length:Int):=λj aa=>by rcases auF j with h|h;subst h;(cases ae:L[0].id==[0]with|false=>rw[ae]at uK;cases uK|true =>rw[ae]at uK;(have:L[0].dr=1:=by simpa using uK);omega);have:=I j aa h atw;unfold xA at this;cases aw:JZ L[j]with|false=>rw[aw]at this;cases this|true=>rw[aw]at this;simp at this;omega);(have uJ:nK L wide=if(eE L wide h0 q).1.length<L.length then([],[],13)else if 0<=fd (λx=>!CR x.q5) L then([],[],2)else if(eE L wide h0 q).2=true then([],[],5)else((gE L (eE L wide h0 q).1 L.length).2,(gE L (eE L wide h0 q).1 L.length).1,0):=by unfold nK;rw[atH atw,avw h0,atH (by rw[uK];decide),atH wk,a6]);refine W.iY [(2,.a_ 1 [.Q .none 3 (d7 L)] 0 0),(10,.Q (.own 1000 w) 1 (hp (eE L wide h0 q).1)),(11,.bool (eE L wide h0 q).2),(12,u q)] (aL [(1000,.own w (hp (eE L wide h0 q).1).length 1 3)]) (fB.same cO λk o h=>?_) ?_;simp only[aL]at h;(cases Y:Nat.beq k 1000 with|false=>rw[Y]at h;cases h|true =>rw[Y]at h;have:=auc Y;subst this;exact h);generalize(eE L wide h0 q).1=dI at*;generalize(eE L wide h0 q).2=er at*;have eS:(hp dI).length=dI.length:=atL _;rw[uJ];refine go ?_;rw[eS];refine z' (t:=decide ((q:Int)<(dI.length:Nat))) atx ?_;rw[eS,dg];refine cb (t:=decide ((dI.length:Int)<(L.length:Nat))) ?_ ?_<;>intro hc;rw[atI (by have:=aua hc;omega)];refine go ?_;exact⟨.nil,.nil,E,ak⟩;(have aj5:dI.length=L.length:=by have:=at2 hc;omega);rw[atH atw];have YC:=ajZ (B:=B) L atw 287 (λx=>!CR x.q5) λk _=>ajW k;refine go ?_;refine bs YC ?_;refine cb (t:=decide (0<=fd (λx=>!CR x.q5) L)) ?_ ?_<;>intro hc;rw[atI (aua hc)];refine go ?_;exact⟨.nil,.nil,E,ak⟩;rw[atH (at2 hc)];refine go ?_;refine cb (t:=er) ?_ ?_<;>intro hc;rw[atI hc];refine go ?_;exact⟨.nil,.nil,E,ak⟩;rw[atH (by rw[hc];decide)];clear YC uJ F a6;refine go ?_;rw[dg];refine .inr (af.x2 aM (n:=L.length) (cq:=.i64) (d8:=.i64) (V:=u 0) rfl rfl rfl rfl rfl rfl rfl (by show 8*L.length<=_;omega) atw λdy=>?_);(conv=>whnf);refine go ?_;rw[dg];refine .inr (af.LP aM (n:=L.length) (cq:=.i64) (d8:=.i64) rfl rfl rfl rfl rfl rfl (by show 32*L.length<=_;omega) atw λalW=>?_);(conv=>whnf);refine go ?_;rw[show List.replicate L.length (u 0)=br (gE L dI 0).1 by simp[br,gE],eS];refine gf (λx:Nat×Value=>x.1<=dI.length) [2,16,129,130] [1000] (λx=>[(17,.Q (.own 128 x.2) 3 (d7 (gE L dI x.1).2)),(131,u x.1)]) (λx=>[(125,.row dy (br (gE L dI x.1).1) 1 3),(128,.own x.2 (d7 (gE L dI x.1).2).length 3 320)]) (λx=>dI.length-x.1) (0,alW) (at4 _) [(1000,1000),(125,125),(128,128)] ?_;rintro⟨k,alX⟩ Y;dsimp only at Y⊢;refine go ?_;refine cb (t:=decide ((k:Int)<(dI.length:Nat))) ?_ ?_<;>intro bu;(have PN:k<dI.length:=by have:=aua bu;omega);have ko:=PJ L dI k;have nt:=Yz L dI k atw;(obtain⟨fu,e,hC,PO,ki,gB,j4,sC⟩:∃(fu:Nat) (e:f1),fu<L.length/\(hp dI)[(k:Int).toNat]?=some (.int .i64 (fu:Nat))/\(d7 L)[((fu:Nat):Int).toNat]?=some (kx e)/\1<=e.dr/\e.dr<=(L.length:Nat)/\gE L dI (k+1)=((gE L dI k).1.set fu ((k+1:Nat):Int),(gE L dI k).2++[⟨e.id,e.q5,(((gE L dI k).1.set fu ((k+1:Nat):Int))[(e.dr-1).toNat]?).getD 0⟩]):=by refine⟨dI[k].1,L[dI[k].1],dI[k].2,?_,?_,(oS dI[k].1 dI[k].2).1,(oS dI[k].1 dI[k].2).2,?_⟩;rw[auj];simp only[hp,aud];rw[atK PN];rfl;rw[auj];simp[d7];rw[gE,atK PN];rfl);obtain⟨GA,YD⟩:∃GA,((gE L dI k).1.set fu ((k+1:Nat):Int))[(e.dr-1).toNat]?=some GA:=⟨_,atK (by rw[avd,ko];omega)⟩;rw[YD]at sC;(have n0:(br (gE L dI k).1).length=L.length:=by simp[br,ko]);(have Pm:(d7 (gE L dI k).2).length=k:=by simp[d7,nt]);(have x1:(br (gE L dI k).1).set fu (u ((k:Int)+1))=br ((gE L dI k).1.set fu ((k+1:Nat):Int)):=by simp[br,aw7]);(have qr:(br ((gE L dI k).1.set fu ((k+1:Nat):Int)))[(e.dr-1).toNat]?=some (.int .i64 GA):=by simp only[br,aud,YD];rfl);(have alY:((br (gE L dI k).1).set fu (.int .i64 ((k:Int)+1)))[(e.dr-1).toNat]?=some (.int .i64 GA):=by rw[x1];exact qr);(have alZ:(br (gE L dI k).1).set fu (u ((k:Int)+1))=br (gE L dI (k+1)).1:=by rw[x1,sC]);(have YE:d7 (gE L dI k).2++[kx ⟨e.id,e.q5,GA⟩]=d7 (gE L dI (k+1)).2:=by rw[sC];simp[d7]);refine go ?_;refine bI _ PO ?_;refine .inr (af.ey aM 125 rfl rfl rfl rfl rfl rfl rfl atw (by rw[n0];omega) ?_);(conv=>whnf);refine da ?_;refine .inr (af.ni aM 125 (i:=fu) rfl rfl rfl rfl (by rw[n0];omega) rfl ?_);(conv=>whnf);refine go ?_;refine bI (kx e) ki ?_;intro q4;(conv=>whnf);refine go ?_;refine .inr (af.ey aM 125 rfl rfl rfl rfl rfl rfl rfl atw (by rw[avd,n0];omega) ?_);(conv=>whnf);refine da ?_;refine .inr (af.me aM 125 (i:=(e.dr-1).toNat) rfl rfl rfl alY ?_);(conv=>whnf);refine go ?_;intro al0;(conv=>whnf);refine go ?_;exact eI (k+1,al0) [(1000,1000),(125,125),(128,155)] PN (A:=⟨⟨E,E,E,E,aq.jK YE,E,ak⟩,rfl,rfl,rfl,rfl,sM alZ,rfl,j2 (by rw[<-YE,atP];rfl),ak⟩);(have fA:k=L.length:=by have:=at2 bu;omega);subst fA;refine W.exit ?_;(conv=>whnf);refine C5 125 16 ?_;refine go ?_;exact⟨.iw _,E,E,ak⟩|some x =>have lb:=(aun.1 F).1;have ik:=alO (L:=L) (vs:=vs) (f:=λp=>jy L (p:Nat) (L.length-1)) (i:=x.1+1) atw (alR F);refine W.Aa (fD:=.row (vs (x.1+1)) (hp (jy L ((x.1+1:Nat):Int) (L.length-1))) 1 3) 7500 (10000+(x.1+1)) rfl (Yx _ _ _ _) ik rfl atz λCU=>?_;(have PO:(hp (eE L wide h0 q).1)[q]?=some (.int .i64 (x.1:Nat)):=by simp only[hp,aud,F];rfl);have gI:(hp (eE L wide h0 q).1).length=(eE L wide h0 q).1.length:=atL _;have al1:=lT.ME (B:=B) (b':=Fin L.length) (λi=>u (i.1:Nat)) (λi=>⟨_,rfl,ak,ak⟩) (JX L wide) 284 [.a_ 1 [.Q .none 3 (d7 L)] 0 0,.a_ 1 [.bool wide] 0 0] (λi j=>Ym a1 L wide i.1 j.1 i.2 j.2 kF) (vs (x.1+1)) (jy L ((x.1+1:Nat):Int) (L.length-1)) (by have:=JY (PC L (p:=((x.1+1:Nat):Int)) (m:=L.length-1));omega);refine go ?_;refine vr (t:=decide ((q:Int)<((hp (eE L wide h0 q).1).length:Nat))) (by rw[gI];simpa using lb) ?_;refine bI (u (x.1:Nat)) PO ?_;refine dQ (PF 34 rfl rfl rfl rfl rfl rfl (PG b3) (Yw PL (x.1+1)) atE) ?_;refine mj [(2000,7500)] al1 ?_;refine C5 7500 13 ?_;obtain⟨bX,gc⟩:∃bX,A1 L wide ((x.1+1:Nat):Int)=bX:=⟨_,rfl⟩;rw[show(gd (JX L wide) (jy L ((x.1+1:Nat):Int) (L.length-1))).map (λi=>u (i.1:Nat))=hp bX from by rw[<-gc];rfl];(have asj:(eE L wide h0 q).2=((eE L wide h0 q).2||sj L wide bX 1):=by simp[sj]);have al2:(hp bX).length=bX.length:=atL _;(have ask:bX.length<=L.length:=by rw[<-gc];exact JY (Yp L wide));refine go ?_;refine gf (λk:Nat=>1<=k/\(k=1\/k<=bX.length)) [2,3,7,10,12,13,14] [34,1000] (λk=>[(11,.bool ((eE L wide h0 q).2||sj L wide bX k)),(15,u k)]) (λ_=>[]) (λk=>bX.length+1-k) 1 ⟨atQ _,.inl rfl⟩ [(34,34),(1000,1000)] ?_;rintro k ⟨yS,tb⟩;refine go ?_;rw[al2];refine cb (t:=decide ((k:Int)<(bX.length:Nat))) ?_ ?_<;>intro hc;obtain⟨er,mU⟩:∃er,((eE L wide h0 q).2||sj L wide bX k)=er:=⟨_,rfl⟩;(have eS:k<bX.length:=by have:=aua hc;omega);(have Cs:(hp bX)[((k:Int)-1).toNat]?=some (.int .i64 (bX[k-1].1:Nat)):=by rw[show((k:Int)-1).toNat=k-1 by omega];simp only[hp,aud];rw[atK atw];rfl);(have FA:(hp bX)[(k:Int).toNat]?=some (.int .i64 (bX[k].1:Nat)):=by rw[auj];simp only[hp,aud];rw[atK atw];rfl);have al3:=Ym (B:=B) a1 L wide bX[k-1].1 bX[k].1 bX[k-1].2 bX[k].2 kF;(have al4:sj L wide bX (k+1)=(sj L wide bX k||xj L[bX[k-1].1].id L[bX[k].1].id wide==0):=by obtain⟨bz,rfl⟩:∃bz,k=bz+1:=⟨k-1,by omega⟩;rw[sj,atK atw,atK atw];rfl);generalize xj L[bX[k-1].1].id L[bX[k].1].id wide=ca at*;rw[mU];refine go ?_;refine yf ?_;refine bI _ Cs ?_;refine bI _ FA ?_;refine bs al3 ?_;(have dm:(bif er then true else ca==0)=((eE L wide h0 q).2||sj L wide bX (k+1)):=by rw[al4,<-Bool.or_assoc,mU];cases er<;>rfl);exact eI (k+1) [(34,34),(1000,1000)] ⟨by omega,.inr atw⟩;(have al5:sj L wide bX k=sj L wide bX bX.length:=by have jE:=at2 hc;rcases tb with h|h;subst h;(match I:bX.length with|0=>rfl|1=>rfl|n+2=>omega);rw[show k=bX.length by omega]);have asl:=Yr L wide h0 q;(have xY:eE L wide h0 (q+1)=((eE L wide h0 q).1++bX,(eE L wide h0 q).2||sj L wide bX bX.length):=by rw[eE,F];simp only;rw[gc]);have al6:=alP (L:=L) (vs:=vs) (f:=λp=>jy L (p:Nat) (L.length-1)) (alT (L:=L) (wide:=wide) (h0:=h0) F);(have iA:hp (eE L wide h0 q).1++hp bX=hp (eE L wide h0 (q+1)).1:=by rw[xY];simp[hp]);rw[al5];refine W.exit ?_;(conv=>whnf);refine go ?_;intro gm;(conv=>whnf);refine go ?_;refine vu (q+1,gm) (by dsimp only;rw[xY];simp only[atP];omega) (by dsimp only;rw[al6];exact oJ [(34,34),(1000,111)] (y2 (Yx _ _ _ _) _) (h1:=⟨E,E,E,aq.jK iA,S7 (by rw[xY]),E,ak⟩) (gk:=⟨rfl,rfl,rfl,j2 (by rw[<-iA,atP]),ak⟩))
theorem YF(L:List f1)(l:List (Fin L.length)):∀k,(gE L l k).2.length<=k/\∀x∈(gE L l k).2,∃y∈L,x.id=y.id
 |0=>by rw[gE];exact⟨atQ _,λx F=>by cases F⟩
 |k+1=>by have aZ:=YF L l k;rw[gE];split;simp only[atP,atT,auh];refine⟨by omega,λx F=>?_⟩;rcases aue.1 F with h|h;exact aZ.2 x h;rw[auv]at h;subst h;exact⟨_,atO _,rfl⟩;exact⟨by omega,aZ.2⟩
theorem YG(L:List f1)(wide:Bool):(nK L wide).1.length<=L.length/\∀x∈(nK L wide).1,∃y∈L,x.id=y.id:=by unfold nK;repeat (first|(exact⟨at4 _,λx F=>by cases F⟩)|(exact YF L _ _)|split)
noncomputable def sl(aH:bQ->List c8)(wide:Bool)(aD:List (atG×Int))(be:Nat->List bQ)(a:Int):Int×Int :=
 if wc aH be aD.length=0 then(y6 aH wide be aD.length (a+2*j6 (ky (nK (mC aD λ_=>0) wide).1)),0)else(0,wc aH be aD.length)
theorem YH(a1:db B)(bT:bQ->D)(hs:∀x,(bT x).one=true)(aH:bQ->List c8)(wide:Bool)(lx:aJ)(aD:List (atG×Int))(be:Nat->List bQ)(vs:Nat->Value)(b5:Value)(dM:Nat)(a:Int)(ha:0<=a/\a<=1000000000000000)(aw:aD.length<=100000)(M:∀p∈aD,p.1.length<=10000/\(wide=false->io p.1)/\0<=p.2/\p.2<=1000000)(al:∀i,i<aD.length->(be i).length<400000)(Pj:fN (λi=>((be i).length:Nat)) 0 aD.length<=10000000)(kF:∀i,i<aD.length->∀x∈be i,x.id.length<1000000/\(wide=false->io x.id)/\(aH x).length<1000000/\∀y∈aH x,y.qk.length<1000000/\y.data.length<1000000)(Gu:∀i,i<aD.length->∀x∈be i,AW B lx (bT x) (aH x)): c1 B 110 [.box 4110 dM 0,u a] (cM [(4110,.box dM [.bool wide,.ai b5,u 0,u 0,u 0]),(4111,.row b5 (eT aD vs (λ_=>0) (λ_=>0)) 5 249),(7100,lx)] (iM vs (λi=>(be i).map (jv bT)) aD.length)) λd _=>d=.bp [u (sl aH wide aD be a).1,u (sl aH wide aD be a).2]:=by(have J1:∀x∈mC aD (λ_=>0),x.id.length<=10000/\(wide=false->io x.id)/\1<=x.dr/\x.dr<=1000001:=λx F=>by obtain⟨j,aa,rfl⟩:=aw'.1 F;have:=M aD[j] (atO _);exact⟨this.1,this.2.1,by dsimp only;omega,by dsimp only;omega⟩);have dg:=C3 (aD:=aD) (aY:=λ_=>0);have ah:=YG (mC aD λ_=>0) wide;have Px:=alU (B:=B) a1 (mC aD λ_=>0) wide (λx F=>⟨by have:=(J1 x F).1;omega,(J1 x F).2.1⟩) (λx F=>by have:=(J1 x F).2.2;omega) atw;have PP:=alB (B:=B) aD vs (λ_=>0) (λ_=>0) wide b5 0 0 0 dM _ _ _ atw (λd N=>by have:=(M d N).2.2;omega) Px;have GB:=akW a1 bT hs aH wide lx aD be vs b5 dM a (nK (mC aD λ_=>0) wide).1 ha atw ⟨by omega,λx F=>by obtain⟨y,hy,ao⟩:=ah.2 x F;rw[ao];exact(J1 y hy).1⟩ al Pj kF Gu PP;refine GB.mono ?_;intro d aP h;rw[h];unfold Gt sl;split<;>rfl
theorem al7(aO:List eM)(vs:Nat->Value):k0 aO vs aO.length=eT (aO.map λd=>(d.id,d.cA)) vs (λ_=>0) (λ_=>0):=by unfold k0 eT;apply au3;simp;intro j h1 A;simp
theorem al8(bX:D)(bG:Nat)(aO:List eM)(vs:Nat->Value)(be:Nat->List bQ)(n:Nat):nH bX bG aO vs be n=iM vs (λi=>(be i).map (jv λx=>kd bX bG aO x.ho)) n:=rfl
variable{f:FuncId}{ds:List D}{d:D}
theorem mI.PQ(hs:List (Nat×aJ))(h:aU B f ds d):c1 B f ds (aL hs) λd' aP=>d'=d/\aP=aL hs :=
 ⟨h.1,λw C args Ft I al hH ae=>(h.2 w C args I ae).mono λe w' ⟨v,aR,ao,X,a6⟩ =>
  ⟨v,d,aR,aL hs,ao,⟨rfl,rfl⟩,X,⟨a6.ext,a6.os,a6.tape,a6.output,λb qA aw=>a6.ix b qA λh=>h.elim⟩,
   ⟨(hH.tJ a6).cj,(hH.tJ a6).inj,λs o b ah an=>.inl ((hH.tJ a6).cI s o b ah an)⟩⟩⟩
theorem YI(lx:aJ):AW B lx (.fn (.func 229) [] []) []:=⟨229,[],[],rfl,mI.PQ _ (agN 173)⟩
theorem aq.YJ{o:Nat}:aq (.box k b o) (.ai (.pointer (some ⟨b,o,none⟩))):=⟨λw C aj h=>by rw[h.wC];exact .ai _⟩
def YK:Option Nat->D
 |none=>.ai (.pointer none)
 |some b=>.box 4110 b 0
theorem al9(x:Option Nat):∃p,aq (YK x) (.ai (.pointer p)):=by cases x with|none=>exact⟨_,E⟩|some b=>exact⟨_,aq.YJ⟩
variable{cv:bE}
theorem YL{aY:List (Nat × aJ)}(ag : List (Nat × aJ))(cF : pf cv)(sx : ∀k o,10000<=k->cv k = some o->z.H k = some o)(h1 : mJ z aY := by repeat (first|exact trivial|refine⟨rfl,?_⟩))(Y : ∀k,(aL aY k).isSome = (aL ag k).isSome := by
      intro k;simp only[aL]
      repeat (first|rfl|(cases Nat.beq k _;simp only[auW];rotate_left;rfl))):∀k o,cM aY cv k=some o->qp ag k=true/\z.H k=some o:=λk o h=>by
 have:=Pq cF sx h1 k o h;exact⟨by have A:=this.1;unfold qp at A⊢;rw[<-Y];exact A,this.2⟩
structure PR (o:f0) (ap:List (atG×ad)) (n:ad):Prop where
 wQ:y_ n
 w:oX n<1000000
 len:(kA o ap n).aD.length<=100000
 aD:∀p∈(kA o ap n).aD,p.1.length<=10000/\0<=p.2/\p.2<=1000000
 be:∀i,i<(kA o ap n).aD.length->((kA o ap n).be i).length<400000
 sum:fN (λi=>(((kA o ap n).be i).length:Nat)) 0 (kA o ap n).aD.length<=10000000
 id:∀i,∀x∈(kA o ap n).be i,x.id.length<1000000
noncomputable def mD(o:f0)(ap:List (atG×ad))(aO:List eM)(cn:List gq)(aH:bQ->List c8):Int×Int:=sl aH false (aO.map λd=>(d.id,d.cA)) (e_ o ap aO cn) 1
noncomputable def ly(o:f0)(ap:List (atG×ad))(n:ad)(aO:List eM)(cn:List gq)(aH:bQ->List c8):Int×Int :=
 if(mD o ap aO cn aH).2=0/\o.qS=true then sl (λ_=>[]) true (kA o ap n).aD (kA o ap n).be (mD o ap aO cn aH).1 else mD o ap aO cn aH
theorem al_(a1:db B)(o:f0)(n:ad)(bW bF:Nat)(ap:List (atG×ad))(aO:List eM)(cn:List gq)(y3:Int)(Gn:aU B 158 [aE n,.bool o.rock] (.bp [.Q .none 6 (aO.map gC),.Q .none 7 (cn.map fl),u y3]))(N:aO.length<=1000)(fq:cn.length<=1000)(s6:∀d∈aO,0<=d.cA/\d.cA<(aO.length:Nat))(mU:∀e∈cn,0<=e.eP/\e.eP<(aO.length:Nat))(PS:∀d∈aO,d.id.length<=10000/\io d.id)(aH:bQ->List c8)(Gu:∀bG i,i<aO.length->∀x∈e_ o ap aO cn i,AW B (.mp bG (bn (D.int .i64) (oV aO aO.length))) (kd (.a_ 26 [dD o n bW bF] 0 0) bG aO x.ho) (aH x))(kF:∀i,i<aO.length->∀x∈e_ o ap aO cn i,x.id.length<1000000/\io x.id/\(aH x).length<1000000/\∀y∈aH x,y.qk.length<1000000/\y.data.length<1000000)(B7:o.qS=true->PR o ap n)(mK:0<=(mD o ap aO cn aH).1/\(mD o ap aO cn aH).1<=1000000000000)(g0:0<=(ly o ap n aO cn aH).1/\(ly o ap n aO cn aH).1<=1000000000000): c1 B 77 [.a_ 26 [dD o n bW bF] 0 0,u 1] (aL [(4103,.mp bW (bn aE ap)),(4104,.mp bF (bn bl []))]) λd aP=>∃jk v2,d=.bp [.agg [.ai (.pointer jk),.ai (.pointer v2),u (ly o ap n aO cn aH).1,u ((ly o ap n aO cn aH).1+if 0<o.gL.length then 1 else 0)],u (ly o ap n aO cn aH).2]:=by have PT:=akr (B:=B) o n bW bF ap aO cn y3 Gn atw atw s6 mU;simp only[al7,al8]at PT;have dm:(aO.map λd=>(d.id,d.cA)).length=aO.length:=atL _;obtain⟨aD,sA⟩:∃aD,(aO.map λd=>(d.id,d.cA))=aD:=⟨_,rfl⟩;(have xp:∀p∈aD,p.1.length<=10000/\(false=false->io p.1)/\0<=p.2/\p.2<=1000000:=λp ay=>by rw[<-sA]at ay;obtain⟨d,rS,rfl⟩:=aub.1 ay;have:=PS d rS;have:=s6 d rS;exact⟨(PS d rS).1,λ_=>(PS d rS).2,by dsimp only;omega,by dsimp only;omega⟩);(have YM:∀i,i<aO.length->(e_ o ap aO cn i).length<400000:=λi _=>by have:=Gm (o:=o) (ap:=ap) (aO:=aO) (cn:=cn) (i:=i);omega);(have AL:fN (λi=>((e_ o ap aO cn i).length:Nat)) 0 aO.length<=10000000:=by have:=CY (bD:=λi=>((e_ o ap aO cn i).length:Nat)) (a:=0) (b:=1002) (n:=aO.length) (λi hi=>⟨by omega,by have:=Gm (o:=o) (ap:=ap) (aO:=aO) (cn:=cn) (i:=i);omega⟩) aO.length (atQ _);omega);(have YB:mD o ap aO cn aH=sl aH false aD (e_ o ap aO cn) 1:=by unfold mD;rw[sA]);have xu:ly o ap n aO cn aH=if(mD o ap aO cn aH).2=0/\o.qS=true then sl (λ_=>[]) true (kA o ap n).aD (kA o ap n).be (mD o ap aO cn aH).1 else mD o ap aO cn aH:=rfl;rw[sA]at PT dm;rw[<-dm]at YM AL;have GB:=λbG vs b5 dM=>YH (B:=B) a1 (λx=>kd (.a_ 26 [dD o n bW bF] 0 0) bG aO x.ho) (λx=>Jz _ _ _ _) aH false (.mp bG (bn (D.int .i64) (oV aO aO.length))) aD (e_ o ap aO cn) vs b5 dM 1 atw atw xp YM AL (λi hi x F=>by have:=kF i atw x F;exact⟨this.1,λ_=>this.2.1,this.2.2.1,this.2.2.2⟩) (λi hi x F=>Gu bG i atw x F);rw[<-YB]at GB;simp only[dm]at GB;generalize Nw:mD o ap aO cn aH=C7 at*;generalize Nx:ly o ap n aO cn aH=zc at*;refine ye Tryz.func77 Tryz.ntmps77 λU=>?_;refine go ?_;intro cT;(conv=>whnf);refine go ?_;refine .inr (af.y4 rfl [.a_ 26 [dD o n bW bF] 0 0] (qp [(4103,.mp 0 []),(4104,.mp 0 []),(4110,.mp 0 []),(4111,.mp 0 []),(7100,.mp 0 [])]) (λk o ah=>?_) PT ?_ ?_);simp only[aL]at ah;(cases h1:Nat.beq k 4103 with|true=>have:=auc h1;subst this;exact⟨rfl,ah⟩|false =>rw[h1]at ah;(cases A:Nat.beq k 4104 with|true=>have:=auc A;subst this;exact⟨rfl,ah⟩|false=>rw[A]at ah;cases ah));exact i1;rintro d aP ⟨lw,bG,b5,vs,rfl,rfl⟩;refine⟨_,E,?_⟩;(conv=>whnf);refine da ?_;intro d_;(conv=>whnf);refine go ?_;refine .inr (af.y4 rfl [.box 4110 lw 0,u 1] (qp [(4110,.mp 0 []),(4111,.mp 0 []),(7100,.mp 0 [])]) (YL [(4110,.mp 0 []),(4111,.mp 0 []),(7100,.mp 0 [])] (gD _ _ _) (λq o G ah=>by(repeat (refine JN G ?_));exact JO G ah)) (GB bG vs b5 lw) ?_ ?_);exact i1;rintro d aP rfl;refine⟨_,E,?_⟩;(conv=>whnf);refine go ?_;refine W.jj 6 (dv:=[.ai (.pointer (some ⟨lw,0,none⟩)),.ai (.pointer none),u 0,u 0]) rfl ⟨aq.YJ,E,E,E,ak⟩ ?_;refine W.qE 7100 12 234 ?_;refine ns (α:=Option Nat) (λ_=>True) [0,4] [4103,4104,4] (λ_=>[(6,.box 6 d_ 0),(7,u zc.1),(8,u zc.2)]) (λx=>[(6,.box d_ [.ai (.pointer (some ⟨lw,0,none⟩)),YK x,u 0,u 0])]) ?_ ?_;(·refine cb (t:=bif C7.2==0 then o.qS else false) ?_ ?_<;>intro hc;(·(have fc:C7.2=0/\o.qS=true:=by cases h:C7.2==0 with|true=>rw[h]at hc;exact⟨by simpa using h,hc⟩|false=>rw[h]at hc;cases hc);rw[atI fc]at xu;have aa:=B7 fc.2;have al':=alx (B:=B) a1 o n bW bF ap aa.wQ aa.w;have YN:=λvs b5 dM=>YH (B:=B) a1 rd (λ_=>rfl) (λ_=>[]) true (.row (.slice none 0 0) [] 12 234) (kA o ap n).aD (kA o ap n).be vs b5 dM C7.1 atw aa.len (λp ay=>⟨(aa.aD p ay).1,λh=>(by cases h),(aa.aD p ay).2⟩) aa.be aa.sum (λi hi x F=>⟨aa.id i x F,λh=>(by cases h),aty,λy hy=>(by cases hy)⟩) (λi hi x F=>YI _);rw[<-xu]at YN;generalize kA o ap n=n' at*;refine go ?_;refine .inr (af.y4 rfl [.a_ 26 [dD o n bW bF] 0 0] (qp [(4103,.mp 0 []),(4104,.mp 0 []),(4110,.mp 0 []),(4111,.mp 0 [])]) (λk o ah=>?_) al' ?_ ?_);simp only[aL]at ah;(cases h1:Nat.beq k 4103 with|true=>have:=auc h1;subst this;exact⟨rfl,by rw[h1]at ah;exact ah⟩|false =>rw[h1]at ah;(cases A:Nat.beq k 4104 with|true=>have:=auc A;subst this;exact⟨rfl,by rw[A]at ah;exact ah⟩|false=>rw[A]at ah;cases ah));exact i1;rintro d jN ⟨PU,asm,tk,fW,rfl,rfl⟩;refine⟨_,E,?_⟩;(conv=>whnf);refine go ?_;refine .inr (af.y4 rfl [.box 4110 PU 0,u C7.1] (qp [(4110,.mp 0 []),(4111,.mp 0 []),(7100,.mp 0 [])]) (YL [(4110,.mp 0 []),(4111,.mp 0 []),(7100,.mp 0 [])] (gD _ _ _) (λq o G ah=>by(repeat (refine JN G ?_));exact JO G ah)) (YN fW tk PU) ?_ ?_);exact i1;rintro d asn rfl;refine⟨_,E,?_⟩;(conv=>whnf);refine go ?_;exact gK (some PU) [(4103,4103),(4104,4104),(4,4),(6,6)] trivial);(have fc:¬(C7.2=0/\o.qS=true):=λh=>by rw[h.1,h.2]at hc;cases hc);rw[atH fc]at xu;subst xu;refine go ?_;exact gK none [(4103,4103),(4104,4104),(4,4),(6,6)] trivial (A:=⟨cO,rfl,bc⟩));intro NO _;obtain⟨v2,ama⟩:=al9 NO;refine W.jj 6 (dv:=[.ai (.pointer (some ⟨lw,0,none⟩)),.ai (.pointer v2),u 0,u 0]) rfl ⟨E,ama,E,E,ak⟩ ?_;refine go ?_;have eW:(o.gL.map pk).length=o.gL.length:=atL _;rw[eW];obtain⟨lL,ob⟩:∃lL,(zc.1+if 0<o.gL.length then(1:Int)else 0)=lL:=⟨_,rfl⟩;rw[ob];refine ns (α:=Unit) (λ_=>True) [4,6,8] [4,6] (λ_=>[(7,u lL)]) (λ_=>[]) ?_ ?_;refine cb (t:=decide ((0:Int)<(o.gL.length:Nat))) ?_ ?_<;>intro hc;rw[atI (by have:=aua hc;omega)]at ob;refine go ?_;exact gK () [(4,4),(6,6)] trivial;rw[atH (by have:=at2 hc;omega),Int.add_zero]at ob;refine go ?_;exact gK () [(4,4),(6,6)] trivial;intro _ _;refine go ?_;refine⟨.bp [.agg [.ai (.pointer (some ⟨lw,0,none⟩)),.ai (.pointer v2),u zc.1,u lL],u zc.2],?_,_,v2,by rfl⟩;(conv=>whnf);apply cB;(conv=>whnf);exact ar
end Go.bR.ck
namespace Go.bR
open Go Go.RowKit
variable{P:Program}{B:World}{f:FuncId}{bo b:Nat}{aB ds:List D}{a8:D->bE->Prop}
theorem c5.freeze(s:Nat){x:D}{H:bE}(hs:H s=some (.box b aB))(F:x.cells=aB)(ee:aB.all D.one=true)(h:c5 P B f (.a_ aB.length [x] 0 0::ds) (λi=>_root_.cond (Nat.beq i s) none (H i)) a8):c5 P B f (.box bo b 0::ds) H a8:=by refine⟨h.1,λw C args Ft I qD hH kJ=>?_⟩;obtain⟨vs,e,h1,A,Z⟩:=hH.cj s _ hs;have tE:Ft b:=hH.cI s _ b hs rfl;have ji:nN w C w (gv C b aB.length):=⟨atQ _,λx _=>Ec C b _ atw x,λ_ _ _ _=>rfl⟩;have a6:c_ Ft w C w (gv C b aB.length):=⟨ji,rfl,rfl,rfl,λy _ hy=>⟨rfl,rx _ _ (λe=>hy (e ▸ tE))⟩⟩;have oI:=A.ext ji;have dF:bh w (gv C b aB.length) (.Q .none aB.length [x]) (.slice (some ⟨b,0,none⟩) 1 1) := xU (xs:=[x]) (vs:=vs) (kj:=(0,0)) (e:=e) h1 (λy hy=>by rw[auv.1 hy,F]) (atQ _) atz (by rw[hr];simp) (λi d N=>by(have hg:aB[i]?=some d:=by simpa[b2,F]using N);obtain⟨aj,an⟩:=lE (l:=vs) (i:=i) (by rw[<-A.1];exact e7 hg);exact⟨aj,an,oI.2 i d aj hg an,A.one ee aj (auf.2 ⟨i,an⟩)⟩) trivial;(have a7:∀{j:Nat} {o:aJ},_root_.cond (Nat.beq j s) none (H j)=some o->j≠s/\H j=some o:=λ{j o} ah=>by cases aa:Nat.beq j s with|true=>rw[aa]at ah;cases ah|false=>rw[aa]at ah;exact⟨(λe=>(by subst e;rw[au1]at aa;cases aa)),ah⟩);(have EP:l6 Ft w (gv C b aB.length) (λi=>_root_.cond (Nat.beq i s) none (H i)):=by refine⟨λj o ah=>?_,λj ex o bM y aw aG bb an cV=>hH.inj j ex o bM y aw (a7 aG).2 (a7 bb).2 an cV,λj o y ah an=>hH.cI j o y (a7 ah).2 an⟩;obtain⟨aa,t1⟩:=a7 ah;exact(hH.cj j o t1).ix ji λy hy=>⟨rfl,rx _ _ (λe=>by subst e;exact hH.inj s j _ o y (Ne.symm aa) hs t1 rfl hy)⟩);(have amb:c' w (gv C b aB.length) (.a_ aB.length [x] 0 0::ds) args:=by refine⟨by have:=kJ.1;simpa using this,λi d v aG bb=>?_⟩;cases i with|zero =>simp at aG;subst aG;have cL:=kJ.2 0 _ v rfl bb;(have eV:v=.pointer (some ⟨b,0,none⟩):=by cases cL;rfl);rw[eV];have:=bh.a_ aB.length [x] 0 0 b 0 1 dF;simpa using this|succ i=>exact(kJ.2 (i+1) d v (by simpa using aG) bb).ext ji);refine(h.2 w _ args Ft I qD EP amb).mono ?_;rintro e w' ⟨v,d,aR,aP,ao,G,ae,amc,nh⟩;exact⟨v,d,aR,aP,ao,G,ae,a6.trans amc (λ_ _ h=>h),nh⟩
end Go.bR
namespace Go.bR.ck
open Go Go.Proofs
variable{B:World}
structure amd (B:World) (o:f0) (n:ad) (ap:List (atG×ad)) (aO:List eM) (cn:List gq) (aH:bQ->List c8):Prop where
 ame:∃y3,aU B 158 [aE n,.bool o.rock] (.bp [.Q .none 6 (aO.map gC),.Q .none 7 (cn.map fl),u y3])
 J2:aO.length<=1000
 bI:cn.length<=1000
 Gl:∀d∈aO,0<=d.cA/\d.cA<(aO.length:Nat)
 J3:∀e∈cn,0<=e.eP/\e.eP<(aO.length:Nat)
 J4:∀d∈aO,d.id.length<=10000/\io d.id
 amf:∀bW bF bG i,i<aO.length->∀x∈e_ o ap aO cn i,AW B (.mp bG (bn (D.int .i64) (oV aO aO.length))) (kd (.a_ 26 [dD o n bW bF] 0 0) bG aO x.ho) (aH x)
 amg:∀i,i<aO.length->∀x∈e_ o ap aO cn i,x.id.length<1000000/\io x.id/\(aH x).length<1000000/\∀y∈aH x,y.qk.length<1000000/\y.data.length<1000000
 qS:o.qS=true->PR o ap n
 dC:0<=(mD o ap aO cn aH).1/\(mD o ap aO cn aH).1<=500000000
 cm:0<=(ly o ap n aO cn aH).1/\(ly o ap n aO cn aH).1<=900000000
noncomputable def xC(o:f0)(n:ad)(ap:List (atG×ad))(aO:List eM)(cn:List gq)(aH:bQ->List c8):Int×Int :=
 if qX n o=0 then(if(ly o ap n aO cn aH).2=0 then((ly o ap n aO cn aH).1+(if 0<o.gL.length then 1 else 0)-1,0)else(0,(ly o ap n aO cn aH).2))else(0,qX n o)
theorem YO(a1:db B)(o:f0)(n:ad)(bC:aC n+n.name.length<10000000)(cd:atG->ad×Int)(bU:List atG)(r_:bU.length<1000000)(ik:aU B 96 [aE n] (.Q .none 1 (aN bU)))(kV:∀p∈bU,aU B 17 [aE n,.O p] (.bp [aE (cd p).1,u (cd p).2]))(aO:List eM)(cn:List gq)(aH:bQ->List c8)(hO:qX n o=0->amd B o n (f2 cd n bU) aO cn aH): aU B 30 [aE n,rX o] (.bp [u (xC o n (f2 cd n bU) aO cn aH).1,u (xC o n (f2 cd n bU) aO cn aH).2]):=by have amh:=af' (B:=B) a1 n o bC;have ami:=aj1 (B:=B) cd n o bU r_ ik kV;have X:xC o n (f2 cd n bU) aO cn aH=if qX n o=0 then(if(ly o (f2 cd n bU) n aO cn aH).2=0 then((ly o (f2 cd n bU) n aO cn aH).1+(if 0<o.gL.length then 1 else 0)-1,0)else(0,(ly o (f2 cd n bU) n aO cn aH).2))else(0,qX n o):=rfl;generalize f2 cd n bU=ap at*;generalize qX n o=YP at*;refine fn Tryz.func30 Tryz.ntmps30 λU=>?_;refine go ?_;intro cm;(conv=>whnf);refine da ?_;intro eR;(conv=>whnf);refine go ?_;refine bs amh ?_;refine cb (t:=!(YP==0)) ?_ ?_<;>intro hc;rw[atH (by simpa using hc)]at X;rw[X];refine go ?_;exact ar;(have C8:YP=0:=by simpa using hc);rw[atI C8]at X;have ay:=hO C8;obtain⟨y3,dg⟩:=ay.ame;have YQ:=λbW bF=>al_ (B:=B) a1 o n bW bF ap aO cn y3 dg ay.J2 ay.bI ay.Gl ay.J3 ay.J4 aH (ay.amf bW bF) ay.amg ay.qS (by have:=ay.dC;omega) (by have:=ay.cm;omega);have g0:=ay.cm;generalize ly o ap n aO cn aH=zc at*;obtain⟨lL,ob⟩:∃lL,(zc.1+if 0<o.gL.length then(1:Int)else 0)=lL:=⟨_,rfl⟩;(have Cs:0<=lL/\lL<=900000001:=by rw[<-ob];split<;>omega);rw[ob]at X YQ;refine go ?_;refine .inr (af.y4 rfl [Xo,aE n,.bj,rX o] (qp [(4102,.mp 0 []),(4103,.mp 0 []),(4104,.mp 0 [])]) (λk o ah=>by cases ah) ami ?_ ?_);exact i1;rintro d aP ⟨d6,bW,bF,rfl,rfl⟩;refine⟨_,E,?_⟩;(conv=>whnf);have amj:c1 B 77 (.box 4102 d6 0::[u 1]) (aL (AQ d6 bW bF o n ap)) _:=c5.freeze 4102 (x:=dD o n bW bF) (aB:=(dD o n bW bF).cells) rfl rfl rfl (by(have e:(λi=>_root_.cond (Nat.beq i 4102) none (aL (AQ d6 bW bF o n ap) i))=aL [(4103,.mp bW (bn aE ap)),(4104,.mp bF (bn bl []))]:=by funext i;simp only[AQ,aL];cases h1:Nat.beq i 4102 with|true=>have:=auc h1;subst this;rfl|false=>rfl);rw[e];exact YQ bW bF);refine go ?_;refine .inr (af.y4 rfl [.box 4102 d6 0,u 1] (qp [(4102,.mp 0 []),(4103,.mp 0 []),(4104,.mp 0 [])]) (λk o ah=>?_) amj ?_ ?_);simp only[aL,AQ]at ah;(cases h1:Nat.beq k 4102 with|true=>have:=auc h1;subst this;exact⟨rfl,by rw[h1]at ah;exact ah⟩|false =>rw[h1]at ah;(cases A:Nat.beq k 4103 with|true=>have:=auc A;subst this;exact⟨rfl,by rw[A]at ah;exact ah⟩|false =>rw[A]at ah;(cases Z:Nat.beq k 4104 with|true=>have:=auc Z;subst this;exact⟨rfl,by rw[Z]at ah;exact ah⟩|false=>rw[Z]at ah;cases ah)));exact i1;rintro d jN ⟨jk,v2,rfl⟩;refine⟨_,E,?_⟩;(conv=>whnf);refine da ?_;intro dL;(conv=>whnf);refine go ?_;refine cb (t:=!(zc.2==0)) ?_ ?_<;>intro bu;rw[atH (by simpa using bu)]at X;rw[X];refine go ?_;exact ar;rw[atI (by simpa using bu)]at X;rw[X];refine go ?_;exact ar
structure nL (m:atG) (bd:Bool) (bL bX:atG):Prop where
 a:oj bL 8=true
 ID:(46:UInt8)∉bL
 kt:(46:UInt8)∉bX
 eq:(bX=[]/\m=bL)\/(bX≠[]/\bd=false/\oj bX 3=true/\m=bL++46::bX)
variable{bL bX:atG}{bd:Bool}
theorem nL.name{m:atG}(h:nL m bd bL bX):XJ m bd:=aka h.a h.ID h.kt h.eq
theorem nL.file{m:atG}(h:nL m bd bL bX):nL m false bL bX:=⟨h.a,h.ID,h.kt,by
 rcases h.eq with h|⟨h1,A,Z,aG⟩
 ·exact .inl h
 exact .inr ⟨h1,rfl,Z,aG⟩⟩
variable{s:atG}
theorem YR{m:Int}(h:oj s m=true):(s.length:Int)<=m:=by simp[oj]at h;exact h.2.1
theorem nL.len{m:atG}(h:nL m bd bL bX):m.length<=12:=by have:=YR h.a;rcases h.eq with⟨_,rfl⟩|⟨_,_,Z,rfl⟩;omega;have:=YR Z;simp;omega
variable{k:Nat}
theorem amk(hs:dX s=true)(bd:Bool)(Y:k<100):∃bL bX,nL (j' 0 (fR 0 s bd).1 (fR 0 s bd).2 k) bd bL bX:=by obtain⟨l,e,h0,h1⟩:=aiZ (.inl rfl) hs bd Y;obtain⟨a,b,h⟩:=h0 rfl;rw[e];(have YS:q0 46=false:=by decide);refine⟨cy a,cy b,XF (m:=8) h.bs h.gR h.zY atz,XG h.bs YS,XG h.cb YS,?_⟩;have G:=h.eq;by_cases I:b=[];rw[atI I]at G;exact .inl ⟨by rw[I];rfl,by rw[G]⟩;rw[atH I]at G;refine .inr ⟨λe=>I (I5.1 e),?_,XF (m:=3) h.cb ?_ h.eR atz,?_⟩;(cases bd with|false=>rfl|true=>exact absurd (h.bd rfl) I);(cases b with|nil=>exact absurd rfl I|cons x r=>simp);rw[G,AI,Wv,NX 46 atz atz];rfl
variable{ag:List ad}{i:Nat}
theorem YT(hn:ag.length<=64)(h:∀k∈ag,dX k.name=true)(hi:i<ag.length):∃bL bX,nL ((cg 0 ag)[i]'(by rw[oi];exact hi)) (ag[i].kind==0) bL bX:=by rw[ai7 hi];obtain⟨j,aa,e⟩:=akc (.inl rfl) (hb 0 (ag.take i)) ag[i] (by rw[td,at7];omega);rw[e];exact amk (h _ (atO hi)) _ aa
theorem aml(i:Nat):[82,82,95,77,79,86]++Lib.decDigits (i+1)=jb (i+1):=by rw[jb,atH atw]
theorem YU:∀k,k<100->(Lib.decDigits k).length<=2:=by decide +kernel
theorem amm(a1:db B)(J:List ad)(hn:J.length<=64)(cD:∀k∈J,dX k.name=true/\k.name.length<1000000000)(mu:gN J):aU B 228 [.Q .none 12 (J.map enc)] (.O (jb (ls (cg 0 J)))):=by obtain⟨lh,ms,oe⟩:=O4 (gp:=cg 0 J) (by rw[oi];exact hn);have gn:=oi 0 J;refine bA Tryz.func228 Tryz.ntmps228 λU=>?_;refine go ?_;refine bs (((Oa a1 (v:=0) atz).call J hn mu cD).1) ?_;refine .inr (af.makeMap λlX=>?_);refine go ?_;refine W.ec (α:={i:Nat // i<=J.length}×List atG) (λx=>[(5,.ai (.map (some lX))),(16,.Q .none 1 (aN (cg 0 J))),(17,u (aN (cg 0 J)).length),(18,u x.1.1)]) (λx=>[(15,.set lX ((cg 0 J).take x.1.1).reverse)]) (λx=>J.length-x.1.1) (⟨0,at4 _⟩,[]) [(15,15)] ⟨ar,rfl,bc⟩ ?_;rintro⟨⟨i,hi⟩,_⟩;dsimp only;refine go ?_;refine aK (decide ((i:Int)<(aN (cg 0 J)).length)) rfl ?_ ?_<;>intro hc;refine fg ?_;(have aI:i<J.length:=by simpa[aN,gn]using hc);(have CP:i<(cg 0 J).length:=by omega);refine gJ ?_;refine⟨λ_=>by simp[aN];omega,?_⟩;refine go ?_;refine⟨.O (cg 0 J)[i],λ_=>by simp[aN,CP],?_⟩;refine go ?_;refine .inr (af.BA 15 (dS:=9) (dZ:=4) rfl rfl rfl rfl rfl rfl ?_);refine go ?_;exact⟨(⟨i+1,aI⟩,[]),[(15,15)],by show _-(i+1)<_-i;omega,ar,rfl,rfl,atJ (λV=>some (aJ.set lX V)) (by rw[atM CP,List.reverse_append];rfl),ak⟩;refine go ?_;(have ci:i=J.length:=by simp[aN,gn]at hc;omega);have ht:(cg 0 J).take i=cg 0 J:=aug atw;rw[ht];refine go ?_;refine W.ec (α:={i:Nat // i<=ls (cg 0 J)}) (λx=>[(5,.ai (.map (some lX))),(8,.O (jb x.1)),(9,u ((x.1:Int)+1))]) (λx=>[(15,.set lX (cg 0 J).reverse)]) (λx=>ls (cg 0 J)-x.1) ⟨0,at4 _⟩ [(15,15)] ⟨ar,rfl,bc⟩ ?_;rintro⟨i,hi⟩;dsimp only;refine go ?_;refine .inr (af.Hq 15 (dS:=9) (dZ:=4) rfl rfl atE rfl rfl rfl ?_);refine go ?_;refine aK _ rfl ?_ ?_<;>intro hc;refine fg ?_;(have hm:jb i∈cg 0 J:=by simpa using hc);(have aI:i<ls (cg 0 J):=by rcases at3 i (ls (cg 0 J))with h|h;exact h;(have:i=ls (cg 0 J):=by omega);subst this;exact absurd hm ms);have jI:=YU (i+1) atw;refine kq ?_;refine mS ?_;refine⟨[u ((i+1:Nat):Int)],_,λ_=>NU (i+1) atw,ar,?_⟩;(conv=>whnf);refine mR ?_;exact⟨⟨i+1,aI⟩,[(15,15)],by show _-(i+1)<_-i;omega,⟨E,aq.of_eq (atJ D.O (aml i)),E,ak⟩,rfl,bc⟩;refine go ?_;(have hm:jb i∉cg 0 J:=by simpa using hc);(have:i=ls (cg 0 J):=by rcases at3 i (ls (cg 0 J))with h|h;exact absurd (oe i h) hm;omega);subst this;exact E
theorem GC(i:Int)(s:Nat)(hi:-1<=i/\i<1000000)(hs:s<=1):aU B 227 [u i,.a_ 1 [u (s:Int)] 0 0] (u (if i<=0 then i else i+s)):=by refine bA Tryz.func227 Tryz.ntmps227 λU=>?_;refine go ?_;refine aK _ rfl ?_ ?_<;>intro hc;refine go ?_;(have h0:i<=0:=by simpa using hc);rw[atI h0];exact E;apply co;apply b4;refine x4 (u (s:Int)) ?_;refine go ?_;(have h0:¬i<=0:=by simpa using hc);rw[atH h0];exact E
theorem PV(x:aT):∀{ag:List ad} {cR:List atG} {i:Nat} (h:i<ag.length) (bB:i<cR.length) (c:e4),fm (ag.take (i+1)) (cR.take (i+1)) x c=fm (ag.take i) (cR.take i) x c++(if(b0 x ag[i] cR[i] (c.jt (fm (ag.take i) (cR.take i) x c))).any then b0 x ag[i] cR[i] (c.jt (fm (ag.take i) (cR.take i) x c))::fT ag[i] (b0 x ag[i] cR[i] (c.jt (fm (ag.take i) (cR.take i) x c))) ((c.jt (fm (ag.take i) (cR.take i) x c)).add (b0 x ag[i] cR[i] (c.jt (fm (ag.take i) (cR.take i) x c))))else[])
 |k::r,m::cR,0,_,_,c=>by simp only[avm,av4,fm,e4.akd,avT,auG,au6]
 |k::r,m::cR,i+1,h,bB,c=>by(have hi:i<r.length:=by simpa using h);(have hm:i<cR.length:=by simpa using bB);simp only[avm,fm,au9];by_cases ha:(b0 x k m c).any=true;rw[atI ha,atI ha];have aZ:=PV x hi hm ((c.add (b0 x k m c)).jt (fT k (b0 x k m c) (c.add (b0 x k m c))));(have e:c.jt (b0 x k m c::(fT k (b0 x k m c) (c.add (b0 x k m c))++fm (r.take i) (cR.take i) x ((c.add (b0 x k m c)).jt (fT k (b0 x k m c) (c.add (b0 x k m c))))))=((c.add (b0 x k m c)).jt (fT k (b0 x k m c) (c.add (b0 x k m c)))).jt (fm (r.take i) (cR.take i) x ((c.add (b0 x k m c)).jt (fT k (b0 x k m c) (c.add (b0 x k m c))))):=by rw[e4.XL,e4.ake]);rw[e,aZ,auS,aup];rw[atH ha,atH ha];exact PV x hi hm c
mutual
theorem PW:∀(n:ad) (x:aT) (c:e4),(fT n x c).length+1<=fC n
 |.mk _ _ _ _ _ _ _ _ _ _ ag _,x,c=>by
  have:=J5 ag (cg 0 ag) x c;simp only[fT,fC];omega
theorem J5:∀(ag:List ad) (cR:List atG) (x:aT) (c:e4),(fm ag cR x c).length<=eY ag
 |[],_,_,_=>by simp[fm]
 |k::r,[],_,_=>by simp[fm]
 |k::r,m::cR,x,c=>by
  simp only[fm,eY];split
  ·have h1:=PW k (b0 x k m c) (c.add (b0 x k m c));have A:=J5 r cR x ((c.add (b0 x k m c)).jt (fT k (b0 x k m c) (c.add (b0 x k m c))));simp only[atT,atP];omega
  have:=J5 r cR x c;omega
end
theorem YV:∀{ag:List ad} {i:Nat} (h:i<ag.length),eY (ag.take i)+fC ag[i]<=eY ag
 |k::r,0,_=>by simp[eY]
 |k::r,i+1,h=>by have:=YV (ag:=r) (i:=i) (by simpa using h);simp only[avm,eY,au9];omega
mutual
def rf:ad->Prop
 |.mk _ xV _ _ _ _ _ _ _ _ ag _=>(xV≠0->ag=[])/\tm ag
def tm:List ad->Prop
 |[]=>True
 |k::r=>rf k/\tm r
end
theorem J6(n:ad):rf n↔(n.kind≠0->n.J=[])/\tm n.J:=by cases n;simp only[rf]
theorem PX:∀{l:List ad} (_:tm l) {k:ad} (_:k∈l),rf k
 |x::r,h,k,Y=>by simp only[tm]at h;rcases at5.1 Y with rfl|Y;exact h.1;exact PX h.2 Y
structure GD (l:List aT) (s:aT) (p:aT):Prop where
 si:s.si=l.length
 ab:s.ab<l.length
 dr:l[s.ab]?=some p
 bd:p.dd=true
 fi:s.fi=p.di
 any:s.any=true
 iso:s.iso=true->p.iso=true
 rock:s.rock=true->p.rock=true
 lv:s.lv=p.lv+1
 path:s.path=below p.path s.n.name (p.lv+1)
 PY:s.n∈p.n.J
 lev:s.lev=if s.dd then(if p.lev+1=9 then 3 else p.lev+1)else 0
 mv:s.mv=(s.dd&&p.lev+1==9)
 di:s.di=(bP l).length
 mno:s.mno=(ed l).length+1
inductive fs (bm:Bool) (n:ad):List aT->Prop
 |zd (h0:n.kind=0):fs bm n [cU bm n]
 |wl {l:List aT} {s p:aT} (h:fs bm n l) (hs:GD l s p):fs bm n (l++[s])
variable{α:Type}
theorem YW(f:α->Bool)(l:List α)(s:α):((l++[s]).filter f).length=if f s then(l.filter f).length+1 else(l.filter f).length:=by rw[auY,atP];cases h:f s<;>simp[h]
def tn(c:e4)(l:List aT):Prop:=c.dq=l.length/\c.uH=(bP l).length/\c.aX=(ed l).length
theorem tn.add{c:e4}{l:List aT}(h:tn c l)(s:aT):tn (c.add s) (l++[s]):=by obtain⟨h1,A,Z⟩:=h;refine⟨by simp[e4.add,h1],?_,?_⟩;simp only[e4.add,bP,YW];split<;>simp[A,bP];simp only[e4.add,ed,YW];split<;>simp[Z,ed]
theorem tn.jt:∀{m:List aT} {c:e4} {l:List aT} (h:tn c l),tn (c.jt m) (l++m)
 |[],c,l,h=>by rw[auG];exact h
 |s::r,c,l,h=>by have:=(h.add s).jt (m:=r);rw[aup,aw4]at this;exact this
variable{l:List aT}
theorem PZ{x:aT}{k:ad}{m:atG}{c:e4}(F:l[x.si]?=some x)(N:x.dd=true)(hc:tn c l)(Y:k∈x.n.J)(ha:(b0 x k m c).any=true):GD l (b0 x k m c) x:=by obtain⟨h1,A,Z⟩:=hc;(have bf:x.si<l.length:=by rcases at3 x.si l.length with h|h;exact h;rw[atW h]at F;cases F);refine⟨h1,bf,F,N,rfl,ha,λh=>?_,λh=>?_,rfl,rfl,Y,rfl,rfl,A,by show c.aX+1=_;rw[Z]⟩;simp only[b0,atN]at h;exact h.1;simp only[b0,atN]at h;exact h.1
mutual
theorem P0(bm:Bool)(gz:ad):∀(n:ad) (x:aT) (c:e4) (l:List aT),fs bm gz l->x.n=n->rf n->l[x.si]?=some x->tn c l->fs bm gz (l++fT n x c)
 |.mk aX xV t tg gR a2 a3 a4 a5 zX ag cC,x,c,l,I,ze,cD,F,hc=>by
  simp only[fT];have GF:=(J6 _).1 cD;by_cases N:xV=0
  ·refine J7 bm gz ag (cg 0 ag) x c l I (by rw[aT.dd,ze,N];rfl) (λk Y=>?_) GF.2 F hc;rw[ze];exact Y
  have:ag=[]:=GF.1 N;subst this;simpa[fm]using I
theorem J7(bm:Bool)(gz:ad):∀(ag:List ad) (cR:List atG) (x:aT) (c:e4) (l:List aT),fs bm gz l->x.dd=true->(∀k∈ag,k∈x.n.J)->tm ag->l[x.si]?=some x->tn c l->fs bm gz (l++fm ag cR x c)
 |[],_,x,c,l,I,_,_,_,_,_=>by simpa[fm]using I
 |k::r,[],x,c,l,I,_,_,_,_,_=>by simpa[fm]using I
 |k::r,m::cR,x,c,l,I,N,b6,cD,F,hc=>by
  simp only[tm]at cD;simp only[fm];split
  ·rename_i ha;have a6:=PZ (m:=m) F N hc (b6 k atU) ha;have mK:=I.wl a6;have fc:=hc.add (b0 x k m c)
   have xm:(l++[b0 x k m c])[(b0 x k m c).si]?=some (b0 x k m c):=by
    rw[a6.si];simp
   have g0:=P0 bm gz k (b0 x k m c) (c.add (b0 x k m c)) (l++[b0 x k m c]) mK rfl cD.1 xm fc;have bu:=fc.jt (m:=fT k (b0 x k m c) (c.add (b0 x k m c)))
   have bf:x.si<l.length:=by
    rcases at3 x.si l.length with h|h
    ·exact h
    rw[atW h]at F;cases F
   have AN:(l++[b0 x k m c]++fT k (b0 x k m c) (c.add (b0 x k m c)))[x.si]?=some x:=by
    rw[aup,at0 bf];exact F
   have B9:=J7 bm gz r cR x _ _ g0 N (λbz fH=>b6 bz (atY _ fH)) cD.2 AN bu;simpa using B9
  exact J7 bm gz r cR x c l I N (λbz fH=>b6 bz (atY _ fH)) cD.2 F hc
end
theorem YX(bm:Bool){n:ad}(cD:rf n)(h0:n.kind=0):fs bm n (Gi bm n):=by have:=P0 bm n n (cU bm n) ⟨1,1,0⟩ [cU bm n] (.zd h0) rfl cD rfl (by refine⟨rfl,?_,?_⟩;simp[bP,aT.dd,cU,h0];simp[ed,cU]);exact this
theorem fs.tp{bm:Bool}{n:ad}(h:fs bm n l):l[0]?=some (cU bm n)/\0<l.length:=by induction h with|zd h0=>exact⟨rfl,by simp⟩|wl h hs aZ=>exact⟨by rw[at0 aZ.2];exact aZ.1,by simp⟩
theorem fs.kind{bm:Bool}{n:ad}{l:List aT}(h:fs bm n l):n.kind=0:=by induction h with|zd h0=>exact h0|wl h hs aZ=>exact aZ
theorem fs.at{bm:Bool}{n:ad}{l:List aT}(h:fs bm n l):∀{i:Nat} {s:aT},0<i->l[i]?=some s->∃p,GD (l.take i) s p:=by induction h with|zd h0=>intro i s hi hs;rw[atW atx]at hs;cases hs|@wl l s p h a6 aZ =>intro i t hi av;rcases at3 i l.length with al|al;rw[at0 al]at av;rw[avo atw];exact aZ hi av;rcases at3 l.length i with aW|aW;rw[atW atx]at av;cases av;(have:i=l.length:=by omega);subst this;rw[avP]at av;cases av;rw[avo (atQ _),atX];exact⟨p,a6⟩
theorem fs.si{bm:Bool}{n:ad}{l:List aT}(h:fs bm n l){i:Nat}{s:aT}(hs:l[i]?=some s):s.si=i:=by rcases auF i with rfl|hi;rw[h.tp.1]at hs;cases hs;rfl;obtain⟨p,a6⟩:=h.at hi hs;(have bf:i<l.length:=by rcases at3 i l.length with h|h;exact h;rw[atW h]at hs;cases hs);rw[a6.si,at7];omega
theorem fs.lev{bm:Bool}{n:ad}{l:List aT}(I:fs bm n l):∀(i:Nat) (s:aT),l[i]?=some s->0<=s.lev/\s.lev<=8/\(s.dd=true->1<=s.lev)/\(s.dd=false->s.lev=0/\s.mv=false):=by intro i;induction i using Nat.strongRecOn with|_ i aZ =>intro s hs;rcases auF i with rfl|hi;rw[I.tp.1]at hs;cases hs;have Y:=I.kind;refine⟨by show(0:Int)<=1;decide,by show(1:Int)<=8;decide,λ_=>by show(1:Int)<=1;decide,λh=>?_⟩;rw[aT.dd,cU,Y]at h;cases h;obtain⟨p,a6⟩:=I.at hi hs;have bf:=a6.ab;rw[at7]at bf;(have ay:l[s.ab]?=some p:=ays);obtain⟨h1,A,Z,aG⟩:=aZ s.ab atw p ay;have al:=a6.lev;have hm:=a6.mv;have bb:=Z a6.bd;(cases N:s.dd with|true =>rw[N,atI rfl]at al;split at al<;>exact⟨by omega,by omega,λ_=>by omega,λh=>(by cases h)⟩|false =>rw[N]at al hm;rw[atH atz]at al;exact⟨by omega,by omega,λh=>(by cases h),λ_=>⟨al,by rw[hm];rfl⟩⟩)
section
variable{f:α->D}{V:D}{L:List α}
end
variable{t:Nat}
theorem YY{T:List α}{s:α}(h:T[t]?=some s):T.take (t+1)=T.take t++[s]:=by obtain⟨al,rfl⟩:=aun.1 h;exact atM al
def it(aQ:Nat)(bv:atG)(k:Nat):List gq:=if k=0/\aQ≠0 then[⟨[47],bv,0,1,true,false,false⟩]else[]
theorem fs.J8{bm:Bool}{n:ad}(h:fs bm n l):∀(j:Nat) (s:aT),(bP l)[j]?=some s->s.di=j:=by induction h with|zd h0 =>intro j s hs;(have e:bP [cU bm n]=[cU bm n]:=by simp[bP,aT.dd,cU,h0]);rw[e]at hs;(cases j with|zero=>cases hs;rfl|succ j=>cases hs)|@wl l t p h a6 aZ =>intro j s hs;(cases N:t.dd with|false =>(have e:bP (l++[t])=bP l:=by rw[bP,auY];simp[bP,N]);rw[e]at hs;exact aZ j s hs|true =>(have e:bP (l++[t])=bP l++[t]:=by rw[bP,auY];simp[bP,N]);rw[e]at hs;rcases at3 j (bP l).length with aa|aa;rw[at0 aa]at hs;exact aZ j s hs;rcases at3 (bP l).length j with aW|aW;rw[atW atx]at hs;cases hs;(have:j=(bP l).length:=by omega);subst this;rw[avP]at hs;cases hs;exact a6.di)
theorem amn(T:List aT):∀m:Nat,(((List.range m).map λi=>(T.filter λx=>x.fi==i).length).sum)<=T.length:=by
 induction T with
 |nil=>intro m;induction m with
  |zero=>simp
  |succ m aZ=>rw[avl,auq,List.sum_append];simpa using aZ
 |cons s r aZ =>
  intro m
  have key:∀m,((List.range m).map λi=>((s::r).filter λx=>x.fi==i).length).sum<=((List.range m).map λi=>(r.filter λx=>x.fi==i).length).sum+(if s.fi<m then 1 else 0):=by
   intro m
   induction m with
   |zero=>simp
   |succ m P1 =>
    rw[avl,auq,auq,List.sum_append,List.sum_append];simp only[aui,avr,awX,List.sum_nil,av'];rw[auM];by_cases h:s.fi=m
    ·subst h;rw[atH (awY _)]at P1;rw[atI aty,atI atw,atT];omega
    rw[atH (by simpa using h)];by_cases A:s.fi<m
    ·rw[atI A]at P1;rw[atI atw];omega
    rw[atH A]at P1;rw[atH atw];omega
  have h1:=key m;have A:=aZ m;rw[atT];split at h1<;>omega
theorem YZ(s:Nat)(T:List aT)(i:Nat):(mz s T i).length=(T.filter λx=>x.fi==i).length:=by rw[mz,atL]
theorem amo(bv:atG){T:List aT}(kN:∀x∈T,x.fi<=(bP T).length):(ti bv T).length<=2*T.length+1:=by rw[ti];simp only[atP,atL,List.length_flatMap,YZ];have h1:=amn T (1+(bP T).length);(have A:(List.range (1+(bP T).length)).map (λi=>(T.filter λx=>x.fi==i).length)=(T.filter λx=>x.fi==0).length::(List.range (bP T).length).map (λi=>(T.filter λx=>x.fi==i+1).length):=by rw[awy,List.range_succ_eq_map,aui,avN];rfl);rw[A,awX]at h1;have Z:(ed T).length<=T.length:=aum _ _;(have aG:(if eN T=0 then([]:List gq)else[⟨[47],bv,0,1,true,false,false⟩]).length<=1:=by split<;>simp);omega
theorem amp(f:α->Bool)(l:List α)(t:Nat):((l.take t).filter f).length<=(l.filter f).length:=((List.take_sublist t l).filter f).length_le
mutual
theorem Y0:∀(n:ad) (l:Int),iJ n l=true->rf n
 |.mk a b c d e f g h i j ag cC,l,aW=>by
  obtain⟨h1,A⟩:=AG aW;simp only[rf];exact⟨h1.bd,Y1 ag (l+1) A⟩
theorem Y1:∀(ag:List ad) (l:Int),m6 ag l=true->tm ag
 |[],l,aW=>trivial
 |k::r,l,aW=>by
  simp only[m6,atN]at aW;simp only[tm];exact⟨Y0 k l aW.1,Y1 r l aW.2⟩
end
theorem P2{n:ad}(h:valid n=true):rf n/\n.kind=0:=by rw[vW,atN]at h;exact⟨Y0 n 1 h.2,(AG (l:=1) (by cases n;exact h.2)).1.FQ rfl⟩
def rg(s:aT):List D:=[.O s.path,.O (if s.si=0 then[0]else if s.mv then 68::Lib.decDigits s.mno else s.id),u s.lev,u (if s.mv then -1 else(s.fi:Int)),u (s.fi:Int),.bool s.mv]
def tq(s:aT):List D:=[.O s.path,.O (if s.mv then s.file else s.id),u 0,u (-1),.bool (!s.iso),.bool s.rock,.bool s.mv,u (if s.dd then(s.di:Int)else -1)]
def pD(s:aT):D:=.agg (tq s)
def C9(l:List aT)(i:Nat):List aT:=(l.drop 1).filter λx=>x.fi==i
def hF(l:List aT)(i:Nat):List D:=(C9 l i).map pD
def C_(vs:Nat->Value)(e5:List aT)(i:Nat)(s:aT):D:=.agg (rg s++[.Q (.own 0 (vs i)) 8 (hF e5 i)])
def hd(vs:Nat->Value)(eU e5:List aT):List D:=(bP eU).mapIdx λi s=>C_ vs e5 i s
def e6(l:List aT):List D:=(ed l).map λs=>u (s.di:Int)
def kB(vs:Nat->Value)(eU e5:List aT):bE:=λk=>if 300<=k/\k<300+(bP eU).length then some (.own (vs (k-300)) (hF e5 (k-300)).length 8 310)else none
def xD(fE bG fF:Nat):D:=.fn (.func 224) [] [.box 200 fE 0,.box 201 bG 0,.box 202 fF 0]
def P3(fE bG fF:Nat)(b5 mv:Value)(az cR:List D):List (Nat×aJ) :=
 [(200,.box fE [.ai b5]),(201,.box bG [.Q (.own 204 mv) 1 cR]),(202,.box fF [xD fE bG fF]),(203,.row b5 az 7 305),(204,.own mv cR.length 1 3)]
def uL(fE bG fF:Nat)(b5 mv:Value)(vs:Nat->Value)(eU e5:List aT):bE:=cM (P3 fE bG fF b5 mv (hd vs eU e5) (e6 eU)) (kB vs eU e5)
theorem lz(vs:Nat->Value)(eU e5:List aT):(hd vs eU e5).length=(bP eU).length:=by simp[hd]
variable{eU e5:List aT}
theorem GG{vs:Nat->Value}{s:aT}(h:(bP eU)[i]?=some s):(hd vs eU e5)[i]?=some (C_ vs e5 i s):=by rw[hd,auK,h];rfl
theorem P4{vs:Nat->Value}(h:i<(bP eU).length):kB vs eU e5 (i+300)=some (.own (vs i) (hF e5 i).length 8 310):=by rw[kB,atI atw,Nat.add_sub_cancel]
theorem tr{vs:Nat->Value}{o:aJ}(h:kB vs eU e5 k=some o):∃i,k=i+300/\i<(bP eU).length/\o=.own (vs i) (hF e5 i).length 8 310:=by unfold kB at h;split at h;rename_i h1;refine⟨k-300,by omega,by omega,?_⟩;exact(auD h).symm;cases h
variable{fE bG fF:Nat}{b5 mv:Value}
theorem amq{az cR:List D}(h:k<200\/300<=k):aL (P3 fE bG fF b5 mv az cR) k=none:=by refine HV λp ay=>?_;simp only[P3,at5,awh,awB]at ay;rcases ay with rfl|rfl|rfl|rfl|rfl<;>simp<;>omega
theorem Y2{vs:Nat->Value}(h:k<200):uL fE bG fF b5 mv vs eU e5 k=none:=by rw[uL,SO (amq (.inl h)),kB,atH atw]
def sm(vs:Nat->Value)(i:Nat)(v:Value):Nat->Value:=λj=>if j=i then v else vs j
theorem J9(vs:Nat->Value)(i:Nat)(v:Value):sm vs i v i=v:=atI rfl
variable{j:Nat}{v:Value}
theorem J_{vs:Nat->Value}(h:j≠i):sm vs i v j=vs j:=atH h
theorem C'{s:aT}(h:s.dd=true):bP (l++[s])=bP l++[s]:=by rw[bP,auY];simp[bP,h]
theorem J'{s:aT}(h:s.dd=false):bP (l++[s])=bP l:=by rw[bP,auY];simp[bP,h]
theorem Y3{s:aT}(h:s.mv=true):ed (l++[s])=ed l++[s]:=by rw[ed,auY];simp[ed,h]
theorem P5{s:aT}(h:s.mv=false):ed (l++[s])=ed l:=by rw[ed,auY];simp[ed,h]
theorem amr(h:∀x∈l,x.fi<i):hF l i=[]:=by rw[hF,C9,awR.2];rfl;intro x F;have:=h x (avX F);simp;omega
theorem Ka{s:aT}(h0:0<l.length)(i:Nat):hF (l++[s]) i=if s.fi=i then hF l i++[pD s]else hF l i:=by rw[hF,hF,C9,C9,av1 atw,auY];by_cases h:s.fi=i<;>simp[h]
theorem ams{vs:Nat->Value}{s:aT}(h:s.dd=true)(ae:hF e5 (bP l).length=[]): hd vs l e5++[.agg (rg s++[.Q (.own 0 v) 8 []])]=hd (sm vs (bP l).length v) (l++[s]) e5:=by apply au4;intro i;rcases at3 i (bP l).length with hi|hi;rw[at0 (by rw[lz];exact hi),hd,hd,auK,auK,C' h,at0 hi,atK hi];simp only[au7,C_,J_ (show i≠(bP l).length by omega)];rcases at3 (bP l).length i with aW|aW;rw[atW (by simp[lz];omega),atW (by rw[lz,C' h];simp;omega)];(have:i=(bP l).length:=by omega);subst this;have e:(hd vs l e5).length=(bP l).length:=lz _ _ _;rw[auo atw,e,awx,GG (s:=s) (by rw[C' h,avP])];simp only[List.getElem?_cons_zero,C_,J9,ae]
theorem Y4(a b:List D):b2 (a++b)=b2 a++b2 b:=by simp[b2]
theorem P6{vs:Nat->Value}:∀y∈hd vs eU e5,y.cells.length=7:=λy hy=>by
 obtain⟨i,hi⟩:=auf.1 hy;rw[hd,auK]at hi
 cases h:(bP eU)[i]? with
 |none=>rw[h]at hi;cases hi
 |some s=>rw[h]at hi;cases hi;rfl
theorem fs.A5{bm:Bool}{n:ad}(I:fs bm n l){s:aT}(hs:l[s.si]?=some s)(N:s.dd=true):(bP l)[s.di]?=some s/\s.di<(bP l).length:=by obtain⟨j,aa⟩:=auf.1 (auw.2 ⟨at1 hs,N⟩:s∈bP l);have:=I.J8 j s aa;subst this;refine⟨aa,?_⟩;rcases at3 s.di (bP l).length with h|h;exact h;exact absurd ((atW h).symm.trans aa) aty
theorem fs.lv{bm:Bool}{n:ad}{l:List aT}(I:fs bm n l):∀(i:Nat) (s:aT),l[i]?=some s->1<=s.lv/\(i=0->s.lv=1)/\(0<i->2<=s.lv)/\(0<i->s.dd=true->0<s.di):=by intro i;induction i using Nat.strongRecOn with|_ i aZ =>intro s hs;rcases auF i with rfl|hi;rw[I.tp.1]at hs;cases hs;exact⟨auN _,λ_=>rfl,λh=>by omega,λh=>by omega⟩;obtain⟨p,a6⟩:=I.at hi hs;have bf:=a6.ab;rw[at7]at bf;(have ay:l[s.ab]?=some p:=ays);obtain⟨h1,_,_,_⟩:=aZ s.ab atw p ay;have al:=a6.lv;refine⟨by omega,λh=>by omega,λ_=>by omega,λ_ N=>?_⟩;rw[a6.di];have h0:=I.tp.1;have Y:=I.kind;(have:cU bm n∈l.take i:=by have:=at1 (l:=l.take i) (i:=0) (a:=cU bm n) (by rw[auB,atI hi];exact h0);exact this);exact awt (auw.2 ⟨this,by rw[aT.dd,cU,Y];rfl⟩)
theorem fs.Kb{bm:Bool}{n:ad}(I:fs bm n l):∀x∈l,x.fi<(bP l).length:=λx F=>by
 obtain⟨i,hi⟩:=auf.1 F;rcases auF i with rfl|h0
 ·rw[I.tp.1]at hi;cases hi
  have:=I.kind;exact awt (auw.2 ⟨at1 I.tp.1,by rw[aT.dd,cU,this];rfl⟩)
 obtain⟨p,a6⟩:=I.at h0 hi;have bf:=a6.ab;rw[at7]at bf
 have ay:l[x.ab]?=some p:=by
  have:=a6.dr
  rwa [auB,atI atw]at this
 rw[a6.fi];have r_:=I.si ay;exact(I.A5 (by rw[r_];exact ay) a6.bd).2
variable{d:D}{xs:List D}
theorem Y5{b:Bool}(h:k<xs.length):(k:Int)<((bif b then xs.set i d else xs).length:Int):=by cases b<;>simp only[avq,auW,avd]<;>exact av_.2 h
theorem Y6{b:Bool}(h:k<xs.length):k<(bif b then xs.set i d else xs).length:=by cases b<;>simp only[avq,auW,avd]<;>exact h
variable{cv:bE}
theorem y8{L:List (Nat×aJ)}(a1:(L.all λp=>Nat.blt p.1 300)=true)(Y:300<=k):cM L cv k=cv k :=
 SO (HV λp ay=>by
  have:=auE.1 a1 p ay;have:p.1<300:=by simpa using this
  omega)
def Da(d:Nat)(cv:bE):bE:=λk=>if k=d+300 then none else cv k
theorem P7{d:Nat}{vs:Nat->Value}{o:aJ}(h:Da d (kB vs eU e5) k=some o):k≠d+300/\300<=k/\kB vs eU e5 k=some o:=by unfold Da at h;split at h;cases h;rename_i h1;obtain⟨i,rfl,_,_⟩:=tr h;exact⟨h1,by omega,h⟩
theorem amt{vs:Nat->Value}{o:aJ}(h:kB vs eU e5 k=some o):300<=k:=by obtain⟨i,rfl,_,_⟩:=tr h;omega
theorem amu{vs:Nat->Value}{s x:aT}(rh:(bP (l++[s]))[x.di]?=some x)(wm:s.fi=x.di)(r8:0<l.length):
  ∀(i:Nat) (a b:D),((hd vs (l++[s]) l).set x.di (.agg (iy (rg x++[.Q (.own 0 (vs x.di)) 8 (hF l x.di)]) 6 (.Q (.own 148 v) 8 (hF l x.di++[pD s])))))[i]?=some a->
   (hd (sm vs x.di v) (l++[s]) (l++[s]))[i]?=some b->dN a.cells b.cells:=λi a b ha I=>by
 have bf:x.di<(bP (l++[s])).length:=by
  rcases at3 x.di (bP (l++[s])).length with h|h
  ·exact h
  rw[atW h]at rh;cases rh
 by_cases hi:x.di=i
 ·subst hi;rw[av6 (by rw[lz];exact bf)]at ha;rw[GG rh]at I;cases ha;cases I
  simp only[C_,J9,Ka r8,atI wm];exact⟨E,E,E,E,E,E,aq.own _ _,ak⟩
 rw[aw9 hi]at ha;rw[hd,auK]at ha I
 cases h:(bP (l++[s]))[i]? with
 |none=>rw[h]at ha;cases ha
 |some y =>
  rw[h]at ha I;cases ha;cases I
  simp only[C_,J_ (show i≠x.di from λe=>hi e.symm),Ka r8,atH (show¬s.fi=i by omega)];exact dN.refl _
theorem amv{H:bE}{d:Nat}(Y7:H 148=none):∀k bz o bM,H k=some o->H bz=some bM->(if k=d+300 then 148 else k)=(if bz=d+300 then 148 else bz)->k=bz:=λk bz o bM h bB e=>by
 by_cases h1:k=d+300<;>by_cases A:bz=d+300
 ·omega
 ·rw[atI h1,atH A]at e;rw[<-e,Y7]at bB;cases bB
 ·rw[atH h1,atI A]at e;rw[e,Y7]at h;cases h
 rw[atH h1,atH A]at e;exact e
variable{z:au}
theorem amw{L:List (Nat×aJ)}{vs:Nat->Value}{s x:aT}(a1:(L.all λp=>Nat.blt p.1 300)=true)(gS:mJ z L)(X:z.H 148=some (.own v ((hF l x.di).length+1) 8 310))
  (N:∀k o,Da x.di (kB vs (l++[s]) l) k=some o->z.H k=some o) (wm:s.fi=x.di) (r8:0<l.length) :
  ∀k o,cM L (kB (sm vs x.di v) (l++[s]) (l++[s])) k=some o->z.H (if k=x.di+300 then 148 else k)=some o:=λk o h=>by
 unfold cM at h
 cases al:aL L k with
 |some bM =>
  rw[al]at h;cases h
  have Y:k<300:=by
   rcases at3 k 300 with h1|h1
   ·exact h1
   have:aL L k=none:=HV λp ay=>by
    have:=auE.1 a1 p ay;have:p.1<300:=by simpa using this
    omega
   rw[this]at al;cases al
  rw[atH atw];exact gS.aL k _ al
 |none =>
  rw[al]at h;obtain⟨i,rfl,hi,rfl⟩:=tr h;by_cases Db:i=x.di
  ·subst Db;rw[atI rfl,X,J9,Ka r8,atI wm];simp
  rw[atH atw];refine N _ _ ?_;rw[Da,atH atw,P4 hi,J_ Db,Ka r8,atH atw]
def A6:pc:=pc.same λk=>Nat.ble 200 k
theorem amx{H:bE}{vs:Nat->Value}(h:∀k,200<=k->H k=uL fE bG fF b5 mv vs eU e5 k):x6 H A6=uL fE bG fF b5 mv vs eU e5:=by funext k;unfold x6 A6 pc.same;cases Y:Nat.ble 200 k with|true=>simp only[Y,avq];exact h k (aul Y)|false =>simp only[Y,auW];(have:k<200:=by rcases at3 k 200 with h1|h1;exact h1;rw[aw5 h1]at Y;cases Y);exact(Y2 this).symm
variable{aP:bE}
theorem amy{H:bE}(Y:200<=k):BK H aP A6 k=aP k:=by unfold BK A6 pc.same;simp only[aw5 Y,avq]
theorem Kc{vs:Nat->Value}{o:aJ}(h:uL fE bG fF b5 mv vs eU e5 k=some o):200<=k:=by rcases at3 k 200 with h1|h1;rw[Y2 h1]at h;cases h;exact h1
theorem Y8{a b:Nat×aJ}{L:List (Nat×aJ)}(ha:a.1<200)(I:b.1<200)(Y:200<=k):cM (a::b::L) cv k=cM L cv k:=by obtain⟨i,o⟩:=a;obtain⟨j,bM⟩:=b;(have h1:Nat.beq k i=false:=axR);(have A:Nat.beq k j=false:=by cases h:Nat.beq k j with|false=>rfl|true=>have:=avK h;simp at I;omega);unfold cM;simp only[aL,h1,A,auW]
theorem amz{s:aT}(N:s.dd=false)(hm:s.mv=false):tq s=[.O s.path,.O s.id,u 0,u (-1),.bool (!s.iso),.bool s.rock,.bool false,u (-1)]:=by rw[tq,N,hm];rfl
theorem amA{s:aT}(N:s.dd=true)(hm:s.mv=false):tq s=[.O s.path,.O s.id,u 0,u (-1),.bool (!s.iso),.bool s.rock,.bool false,u (s.di:Int)]:=by rw[tq,N,hm];rfl
theorem amB{s:aT}(N:s.dd=true)(hm:s.mv=true):tq s=[.O s.path,.O s.file,u 0,u (-1),.bool (!s.iso),.bool s.rock,.bool true,u (s.di:Int)]:=by rw[tq,N,hm];rfl
theorem amC{s:aT}(hs:s.si≠0)(hm:s.mv=false):rg s=[.O s.path,.O s.id,u s.lev,u (s.fi:Int),u (s.fi:Int),.bool false]:=by rw[rg,atH hs,hm];rfl
theorem amD{s:aT}(hs:s.si≠0)(hm:s.mv=true):rg s=[.O s.path,.O (68::Lib.decDigits s.mno),u s.lev,u (-1),u (s.fi:Int),.bool true]:=by rw[rg,atH hs,hm];rfl
theorem amE{vs:Nat->Value}{s:aT}(h:s.dd=false):hd vs (l++[s]) e5=hd vs l e5:=by rw[hd,hd,J' h]
theorem amF{vs:Nat->Value}{s:aT}(h:s.dd=false):kB vs (l++[s]) e5=kB vs l e5:=by funext k;rw[kB,kB,J' h]
theorem amG{vs:Nat->Value}{s:aT}(h:s.dd=true){o:aJ}(Y:kB (sm vs (bP l).length v) (l++[s]) e5 k=some o): (k=(bP l).length+300/\o=.own v (hF e5 (bP l).length).length 8 310)\/(k≠(bP l).length+300/\kB vs l e5 k=some o):=by obtain⟨i,rfl,hi,rfl⟩:=tr Y;rw[C' h,atP]at hi;by_cases e:i=(bP l).length;subst e;rw[J9];exact .inl ⟨rfl,rfl⟩;rw[J_ e,P4 (by simp at hi;omega)];exact .inr ⟨by omega,rfl⟩
theorem Dc:∀{m:List (Nat×Nat)} {k s:Nat},j0 m=true->(k,s)∈m->m.lookup k=some s
 |(a,b)::r,k,s,hm,h=>by rcases at5.1 h with e|bB;cases e;simp[List.lookup];have h1:=wN hm a b k s atU h;(have ae:j0 r=true:=by simp only[j0,atN]at hm;exact hm.2);(have a7:(k==a)=false:=by rw[auA];intro e;have A:=h1.1 e.symm;simp only[j0,atN,auE,av0]at hm;have Z:=(hm.1 (k,s) bB).1;rw[e,au1]at Z;cases Z);rw[List.lookup,a7];exact Dc ae bB
variable{m:List (Nat×Nat)}
theorem fB.zf{l:List (Nat×D)}{L:List (Nat×aJ)}(h1:jC z l)(ok:j0 m=true)(gk:tO z m L)(hm:(m.all λp=>Nat.blt p.1 300&&Nat.blt p.2 300)=true)(N:∀k o,cv k=some o->300<=k/\z.H k=some o):fB z l (cM L cv):=by(have bf:∀k s,(k,s)∈m->k<300/\s<300:=λk s h=>by have:=auE.1 hm _ h;simpa using this);(have key:∀k o,cM L cv k=some o->(∃s,(k,s)∈m/\z.H s=some o)\/(300<=k/\z.H k=some o):=λk o h=>by unfold cM at h;cases al:aL L k with|some bM=>rw[al]at h;cases h;exact .inl (gk.aL k _ al)|none=>rw[al]at h;exact .inr (N k o h));refine⟨h1,λk=>if 300<=k then k else(m.lookup k).getD 0,λk bz o bM h bB e=>?_,λk o h=>?_⟩;dsimp only at e;rcases key k o h with⟨s,hs,_⟩|⟨A,_⟩<;>rcases key bz bM bB with⟨bo,c7,_⟩|⟨yj,_⟩;have Z:=(bf k s hs).1;have aso:=(bf bz bo c7).1;rw[atH atw,atH atw,Dc ok hs,Dc ok c7]at e;exact(wN ok k s bz bo hs c7).2 e;have Z:=bf k s hs;rw[atH atw,atI yj,Dc ok hs]at e;simp at e;omega;have Z:=bf bz bo c7;rw[atI A,atH atw,Dc ok c7]at e;simp at e;omega;rw[atI A,atI yj]at e;exact e;dsimp only;rcases key k o h with⟨s,hs,Z⟩|⟨A,Z⟩;have aG:=(bf k s hs).1;rw[atH atw,Dc ok hs];exact Z;rw[atI A];exact Z
variable{am:Nat}{K:cJ->au->Prop}{c:Code}
theorem W.amH{U:b7 Tryz.prog B am}(l:α->List (Nat×D))(H:α->bE)(h:∀V,W U c (rK (l V) (H V)) K)(g:(∀V,W U c (rK (l V) (H V)) K)->W U c z K):W U c z K:=g h
variable{f:FuncId}{ds:List D}{a8:D->bE->Prop}
theorem c5.fK{H:bE}{vs:Nat->Value}(h:∀k,200<=k->H k=uL fE bG fF b5 mv vs eU e5 k)(hc:c1 B f ds (uL fE bG fF b5 mv vs eU e5) a8):c1 B f ds (x6 H A6) a8:=by rw[amx h];exact hc
theorem Y9:∀{l:List ad},(∀k∈l,rf k)->tm l
 |[],_=>trivial
 |k::r,h=>⟨h k atU,Y9 λx F=>h x (atY _ F)⟩
theorem Y_(m:atG)(b:Bool):(ka m b).1.length<=m.length+3:=by unfold ka;split;split;simp;split<;>simp;simp
theorem Y'(a1:db B)(bm:Bool)(h5:ad):∀(bD:Nat) (n:ad),aC n<bD->im n->rf n->∀(x:aT) (c:e4) (kC:List aT) (fE bG fF:Nat) (b5 mv:Value) (vs:Nat->Value),x.n=n->fs bm h5 kC->kC[x.si]?=some x->x.dd=true->tn c kC->kC.length+fC n<100->x.path.length+1200*aC n<1000000000->x.lv+aC n<1000000000->c1 B 224 [aE n,u (x.di:Int),u x.lv,.bool x.iso,.bool x.rock,.box 200 fE 0,.box 201 bG 0,.box 202 fF 0] (uL fE bG fF b5 mv vs kC kC) λd aP=>d=.bp []/\∃tk amI fW,aP=uL fE bG fF tk amI fW (kC++fT n x c) (kC++fT n x c):=by refine λbD=>Nat.rec (λn h=>absurd h (avf _)) (λbD aZ n hN cD xE x c kC fE bG fF b5 mv vs ze I F zg ia hlen dg GH=>?_) bD;obtain⟨hn,_,mu,xe⟩:=(s_ n).1 cD;have Za:=((J6 n).1 xE).2;have GI:∀k∈n.J,dX k.name=true/\k.name.length<1000000000:=λk Y=>(qZ xe Y).1;have jG:=oi 0 n.J;have L_:=EJ n;obtain⟨asp,_⟩:=I.lv _ _ F;(have amJ:x.si<kC.length:=by rcases at3 x.si kC.length with h|h;exact h;rw[atW h]at F;cases F);(have amK:kC++fm (n.J.take 0) ((cg 0 n.J).take 0) x c=kC:=by simp[fm]);refine jJ Tryz.func224 Tryz.ntmps224 λU=>?_;refine cl ?_;intro cE;refine k7 ?_;refine⟨[u 0,.Q .none 12 (n.J.map enc)],_,λ_=>((Oa a1 (v:=0) atz).call n.J hn mu GI).1,ar,?_⟩;refine iX ?_;apply oG;refine W.HG (α:={i:Nat // i<=n.J.length}×Value×Value×(Nat->Value)) (λV=>[(1,u (x.di:Int)),(2,u x.lv),(3,.bool x.iso),(4,.bool x.rock),(5,.box 200 fE 0),(6,.box 201 bG 0),(7,.box 202 fF 0),(13,.Q .none 1 (aN (cg 0 n.J))),(33,.Q .none 12 (n.J.map enc)),(34,u (n.J.map enc).length),(35,u (V.1.1:Int))]) (λV=>uL fE bG fF V.2.1 V.2.2.1 V.2.2.2 (kC++fm (n.J.take V.1.1) ((cg 0 n.J).take V.1.1) x c) (kC++fm (n.J.take V.1.1) ((cg 0 n.J).take V.1.1) x c)) (λV=>n.J.length-V.1.1) (⟨0,at4 _⟩,b5,mv,vs) (.same ar (λq o h=>by rw[amK]at h;exact(k5 _ _ (by have:=Kc h;omega)).trans h)) ?_;rintro⟨⟨i,hi⟩,b5,mv,vs⟩;(try dsimp only);apply b4;apply el;refine aK (decide ((i:Int)<(n.J.map enc).length)) rfl ?_ ?_<;>intro hc;(·refine fg ?_;(have aI:i<n.J.length:=by simpa using hc);(have CP:i<(cg 0 n.J).length:=by omega);obtain⟨bL,bX,vZ⟩:=YT hn (λk Y=>(GI k Y).1) aI;have NN:=rP aI;have asq:=YV aI;have eJ:=J5 (n.J.take i) ((cg 0 n.J).take i) x c;have cS:=atJ (λV=>kC++V) (PV x aI CP c);(try dsimp only at cS);rw[<-aup]at cS;have w1:=atO aI;have eW:fs bm h5 (kC++fm (n.J.take i) ((cg 0 n.J).take i) x c):=J7 bm h5 _ _ x c kC I zg (λk Y=>by rw[ze];exact auO Y) (Y9 λk Y=>PX Za (auO Y)) F ia;have Zb:=ia.jt (m:=fm (n.J.take i) ((cg 0 n.J).take i) x c);(have hC:(kC++fm (n.J.take i) ((cg 0 n.J).take i) x c)[x.si]?=some x:=by rw[at0 amJ];exact F);(have mO:(kC++fm (n.J.take i) ((cg 0 n.J).take i) x c).length<=kC.length+eY (n.J.take i):=by rw[atP];omega);have o9:(n.J.map enc)[i]?=some (aE n.J[i]):=rQ aI;have AS:im n.J[i]:=(qZ xe w1).2;have Zc:rf n.J[i]:=PX Za w1;have fA:=(GI _ w1).2;(have amL:n.J[i]∈x.n.J:=by rw[ze];exact w1);have amM:=PZ (k:=n.J[i]) (m:=(cg 0 n.J)[i]) hC zg Zb amL;have asr:=vZ.len;(have Zd:(aN (cg 0 n.J))[i]?=some (.O (cg 0 n.J)[i]):=by simp[aN,CP]);generalize n.J[i]=k at*;generalize(cg 0 n.J)[i]=m at*;generalize kC++fm (n.J.take i) ((cg 0 n.J).take i) x c=l at*;generalize c.jt (fm (n.J.take i) ((cg 0 n.J).take i) x c)=dB at*;have o_:(b0 x k m dB).n=k:=rfl;have P8:(b0 x k m dB).path=below x.path k.name (x.lv+1):=rfl;have Kd:(b0 x k m dB).id=(ka m (k.kind==0)).1:=rfl;have amN:(b0 x k m dB).file=(ka m false).1:=rfl;have amO:(b0 x k m dB).iso=(x.iso&&lg 0 k (x.lv+1)):=rfl;have amP:(b0 x k m dB).rock=(x.rock&&lg 2 k (x.lv+1)):=rfl;have amQ:(b0 x k m dB).lv=x.lv+1:=rfl;have P9:(b0 x k m dB).dd=(k.kind==0):=rfl;have Ze:(b0 x k m dB).any=((b0 x k m dB).iso||(b0 x k m dB).rock):=rfl;generalize b0 x k m dB=s at*;have ass:=BX x.path k.name (x.lv+1);have ast:=Y_ m (k.kind==0);have wn:=Y_ m false;obtain⟨rh,A7⟩:=eW.A5 hC zg;have r8:0<l.length:=eW.tp.2;have asu:=eW.lev _ _ hC;refine vh ?_;refine⟨aE k,λ_=>o9,?_⟩;(conv=>whnf);intro m';apply cB;refine iX ?_;refine mQ ?_;refine .inl ⟨λh=>by simp[du];omega,?_⟩;refine hv ?_;refine⟨[u 0,aE k,u (x.lv+1)],_,λh=>Fe 0 k (x.lv+1),ar,?_⟩;refine tU ?_;refine iX ?_;refine mQ ?_;refine .inl ⟨λh=>by simp[du];omega,?_⟩;apply g2;refine mQ ?_;refine⟨[u 2,aE k,u (x.lv+1)],_,λh=>Fe 2 k (x.lv+1),ar,?_⟩;refine tU ?_;(conv=>whnf);rw[show(bif x.iso then lg 0 k (x.lv+1)else false)=s.iso by rw[jp,amO],show(bif x.rock then lg 2 k (x.lv+1)else false)=s.rock by rw[jp,amP]];refine f_ ?_;refine ib ?_;refine aK _ rfl ?_ ?_<;>intro hc;(·refine W.exit ?_;refine nl ?_;(have ff:¬s.any=true:=axJ);rw[atH ff,auG]at cS;exact⟨(⟨i+1,aI⟩,b5,mv,vs),by show _-(i+1)<_-i;omega,.same ar (λq o h=>by dsimp only at h;rw[cS]at h;have:=Kc h;exact(k5 _ _ atw).trans ((k5 _ _ atw).trans h))⟩);refine fg ?_;(have wk:s.any=true:=axJ);rw[atI wk]at cS;(have Zf:kC++fm (List.take (i+1) n.J) (List.take (i+1) (cg 0 n.J)) x c=(l++[s])++fT k s (dB.add s):=by rw[cS];simp);clear cS;have cS:=Zf;clear Zf;have a6:=amM wk;have amR:=eW.wl a6;(have amS:(l++[s])[s.si]?=some s:=by rw[a6.si];simp);have sR:¬k.kind=0->k.J=[]:=((J6 k).1 Zc).1;have amT:=eW.Kb;refine no ?_;apply cB;refine ic ?_;refine⟨rfl,ak,.inr (af.ey aM 203 rfl rfl rfl rfl rfl rfl rfl atw (by rw[lz];exact av_.2 A7) ?_)⟩;(conv=>whnf);refine⟨rfl,ak,.inr (af.jl aM 203 (i:=x.di) rfl rfl (by rw[lz];exact A7) rfl rfl rfl atz ?_)⟩;(conv=>whnf);refine⟨rfl,ak,.inr (af.me aM 203 (i:=x.di) atC rfl rfl (GG rh) ?_)⟩;refine ic ?_;intro P_;apply eb;apply cB;refine k7 ?_;refine W.HF (α:=Unit) (λ_=>[(1,u (x.di:Int)),(2,u x.lv),(3,.bool x.iso),(4,.bool x.rock),(5,.box 200 fE 0),(6,.box 201 bG 0),(7,.box 202 fF 0),(13,.Q .none 1 (aN (cg 0 n.J))),(33,.Q .none 12 (n.J.map enc)),(34,u (n.J.map enc).length),(35,u (i:Int)),(15,u (i:Int)),(16,.box 16 m' 0),(17,.bool s.iso),(18,.bool s.rock),(19,.box 19 P_ 0),(20,.O s.path)]) (λ_=>cM [(16,.box m' [.O k.name,u k.kind,.O k.dW,.O k.target,u k.cN,u k.n2,u k.n3,u k.n4,u k.n5,u k.n6,.Q .none 12 (k.J.map enc),.Q .none 2 (k.bO.map c4)]),(19,.box P_ (rg x)),(200,.box fE [.ai b5]),(201,.box bG [.Q (.own 204 mv) 1 (e6 l)]),(202,.box fF [xD fE bG fF]),(203,.row b5 (hd vs l l) 7 305),(204,.own mv (e6 l).length 1 3)] (kB vs l l)) ?_ ?_;apply b4;refine aK (decide ((0:Int)<(x.di:Int))) rfl ?_ ?_<;>intro hc;apply kp;refine eB ?_;refine nW ?_;refine mg ?_;(have Zg:0<x.di:=by simpa using hc);(have P':¬x.lv+1<=2:=by rcases auF x.si with h|h;rw[h,eW.tp.1]at hC;cases hC;exact absurd Zg (awY 0);have:=(eW.lv _ _ hC).2.2.1 h;omega);exact⟨(),fB.zf (m:=[(16,16),(19,19),(200,200),(201,201),(202,202),(203,203),(204,204)]) ⟨E,E,E,E,E,E,E,E,E,E,E,E,E,E,E,E,aq.of_eq (atJ D.O (by rw[P8,below,atH P'])),ak⟩ rfl ⟨rfl,bc⟩ rfl (λq o h=>ayf)⟩;refine fg ?_;(have Zg:x.di=0:=by simp at hc;omega);(have P':x.lv+1<=2:=by rcases auF x.si with h|h;have:=(eW.lv _ _ hC).2.1 h;omega;have:=(eW.lv _ _ hC).2.2.2 h zg;omega);exact⟨(),fB.zf (m:=[(16,16),(19,19),(200,200),(201,201),(202,202),(203,203),(204,204)]) ⟨E,E,E,E,E,E,E,E,E,E,E,E,E,E,E,E,aq.of_eq (atJ D.O (by rw[P8,below,atI P'])),ak⟩ rfl ⟨rfl,bc⟩ rfl (λq o h=>ayf)⟩;rintro⟨⟩;refine k7 ?_;rw[<-P9];refine cl ?_;refine⟨λ_=>by simp[aN];omega,?_⟩;(conv=>whnf);refine⟨.O m,λ_=>Zd,?_⟩;(conv=>whnf);refine⟨[.O m,.bool (k.kind==0)],_,λ_=>W1 a1 m _ atw,⟨E,aq.of_eq (atJ D.bool P9),ak⟩,?_⟩;(conv=>whnf);rw[<-Kd];refine cl ?_;intro ri;refine eB ?_;refine W.HF (α:=Value×Value×Nat) (λ_=>[(1,u (x.di:Int)),(2,u x.lv),(3,.bool x.iso),(4,.bool x.rock),(5,.box 200 fE 0),(6,.box 201 bG 0),(7,.box 202 fF 0),(13,.Q .none 1 (aN (cg 0 n.J))),(33,.Q .none 12 (n.J.map enc)),(34,u (n.J.map enc).length),(35,u (i:Int)),(15,u (i:Int)),(16,.box 16 m' 0),(17,.bool s.iso),(18,.bool s.rock),(21,.bool s.dd),(24,.box 24 ri 0)]) (λV=>cM [(16,.box m' [.O k.name,u k.kind,.O k.dW,.O k.target,u k.cN,u k.n2,u k.n3,u k.n4,u k.n5,u k.n6,.Q .none 12 (k.J.map enc),.Q .none 2 (k.bO.map c4)]),(24,.box ri (tq s)),(200,.box fE [.ai V.1]),(201,.box bG [.Q (.own V.2.2 V.2.1) 1 (e6 (l++[s]))]),(202,.box fF [xD fE bG fF]),(203,.row V.1 (if s.dd then hd vs l l++[.agg (rg s++[.bj])]else hd vs l l) 7 305),(204,.own V.2.1 (e6 (l++[s])).length 1 3)] (kB vs l l)) ?_ ?_;apply b4;refine W.cond s.dd rfl (λN=>?_) (λN=>?_);refine iX ?_;refine k6 ?_;intro asv;apply cB;refine no ?_;refine eB ?_;refine⟨rfl,ak,.inr (af.sF aM 203 rfl rfl rfl rfl ?_)⟩;apply eb;apply eb;refine eB ?_;(have dm:((hd vs l l).length:Int)=(s.di:Int):=by rw[lz,a6.di]);rw[dm];refine p4 ?_;refine aK (decide ((8:Int)<x.lev+1)) rfl ?_ ?_<;>intro hc;refine iX ?_;refine eB ?_;refine nm ?_;refine⟨by show(_+_)*8<=_;rw[e6,atL];have:=aum aT.mv l;simp only[aui,avr,atT,auh];unfold ed;omega,by show _+_<=_;rw[e6,atL];have:=aum aT.mv l;simp only[aui,avr,atT,auh];unfold ed;omega,atD,λv=>?_⟩;apply cB;refine k7 ?_;(have Qa:((e6 l++[u (s.di:Int)]).length:Int)=(s.mno:Int):=by rw[atP,e6,atL,a6.mno];rfl);(have Zh:s.mno<100:=by rw[a6.mno];have:=aum aT.mv l;unfold ed;omega);have asw:=YU s.mno Zh;refine⟨[u (s.mno:Int)],_,λ_=>NU s.mno Zh,⟨dt Qa,ak⟩,?_⟩;(conv=>whnf);refine nW ?_;apply cB;apply cB;apply cB;apply cB;refine cl ?_;refine⟨λ_=>by simp[aN];omega,?_⟩;(conv=>whnf);refine⟨.O m,λ_=>Zd,?_⟩;(conv=>whnf);refine⟨[.O m,.bool false],_,λ_=>W1 a1 m _ atw,ar,?_⟩;apply cB;apply kp;refine eB ?_;refine tV ?_;apply cB;apply eb;apply cB;apply eb;refine ic ?_;refine o' ?_;refine⟨rfl,ak,.inr (af.nU aM 203 rfl rfl rfl atD rfl rfl rfl (avY) (by show(_+1)*88<=_;exact ayi) (by show _+1<=_;exact ayi) λbJ yW cap=>?_)⟩;apply eb;refine eB ?_;(have fZ:x.lev=8:=by have hw:(8:Int)<x.lev+1:=(by simpa using hc);omega);(have gu:s.mv=true:=by rw[a6.mv,N,fZ];rfl);(have Qb:s.lev=3:=by rw[a6.lev,N,atI rfl,atI atw]);(have Qc:s.si≠0:=by rw[a6.si];omega);(have uM:e6 l++[u (s.di:Int)]=e6 (l++[s]):=by rw[e6,e6,Y3 gu,auq];rfl);exact⟨(.slice bJ yW cap,v,113),fB.zf (m:=[(16,16),(24,24),(200,200),(201,201),(202,202),(203,138),(204,113)]) ar rfl ⟨rfl,rfl,rfl,atJ (λV=>some (aJ.box ri V)) (by rw[amB N gu,amN];rfl),rfl,rfl,rfl,atJ (λV=>some (aJ.box bG [.Q (.own 113 v) 1 V])) uM,rfl,rfl,rfl,atJ (λV=>some (aJ.row (.slice bJ yW cap) V 7 305)) (by rw[atI N,amD Qc gu,Qb,a6.fi];rfl),rfl,atJ (λV:Nat=>some (aJ.own v V 1 3)) (by rw[<-uM,atP];rfl),ak⟩ rfl (λq o h=>ayf)⟩;refine fg ?_;refine tV ?_;apply cB;apply eb;apply cB;apply eb;refine ic ?_;refine o' ?_;refine⟨rfl,ak,.inr (af.nU aM 203 rfl rfl rfl atD rfl rfl rfl (avY) (by show(_+1)*88<=_;exact ayi) (by show _+1<=_;exact ayi) λbJ yW cap=>?_)⟩;apply eb;refine eB ?_;(have fZ:x.lev+1≠9:=by have hw:¬(8:Int)<x.lev+1:=(by simpa using hc);omega);(have gu:s.mv=false:=by rw[a6.mv,N,awF,auA];exact fZ);(have Qb:s.lev=x.lev+1:=by rw[a6.lev,N,atI rfl,atH fZ]);(have Qc:s.si≠0:=by rw[a6.si];omega);(have uM:e6 l=e6 (l++[s]):=by rw[e6,e6,P5 gu]);exact⟨(.slice bJ yW cap,mv,204),fB.zf (m:=[(16,16),(24,24),(200,200),(201,201),(202,202),(203,138),(204,204)]) ar rfl ⟨rfl,rfl,rfl,atJ (λV=>some (aJ.box ri V)) (by rw[amA N gu];rfl),rfl,rfl,rfl,atJ (λV=>some (aJ.box bG [.Q (.own 204 mv) 1 V])) uM,rfl,rfl,rfl,atJ (λV=>some (aJ.row (.slice bJ yW cap) V 7 305)) (by rw[atI N,amC Qc gu,Qb,a6.fi];rfl),rfl,atJ (λV:List D=>some (aJ.own mv V.length 1 3)) uM,ak⟩ rfl (λq o h=>ayf)⟩;refine fg ?_;(have gu:s.mv=false:=by rw[a6.mv,N];rfl);(have uM:e6 l=e6 (l++[s]):=by rw[e6,e6,P5 gu]);exact⟨(b5,mv,204),fB.zf (m:=[(16,16),(24,24),(200,200),(201,201),(202,202),(203,203),(204,204)]) ar rfl ⟨rfl,rfl,rfl,atJ (λV=>some (aJ.box ri V)) (by rw[amz N gu];rfl),rfl,rfl,rfl,atJ (λV=>some (aJ.box bG [.Q (.own 204 mv) 1 V])) uM,rfl,rfl,rfl,atJ (λV=>some (aJ.row b5 V 7 305)) (by rw[atH (by rw[N];decide)]),rfl,atJ (λV:List D=>some (aJ.own mv V.length 1 3)) uM,ak⟩ rfl (λq o h=>ayf)⟩;rintro⟨nJ,uN,mV⟩;have asx:=rh;refine W.amH (α:={l3:Nat->Value // (bP (l++[s]))[x.di]?=some x/\x.di<(bP (l++[s])).length}) (λ_=>[(1,u (x.di:Int)),(2,u x.lv),(3,.bool x.iso),(4,.bool x.rock),(5,.box 200 fE 0),(6,.box 201 bG 0),(7,.box 202 fF 0),(13,.Q .none 1 (aN (cg 0 n.J))),(33,.Q .none 12 (n.J.map enc)),(34,u (n.J.map enc).length),(35,u (i:Int)),(15,u (i:Int)),(16,.box 16 m' 0),(17,.bool s.iso),(18,.bool s.rock),(21,.bool s.dd),(24,.box 24 ri 0)]) (λV=>cM [(16,.box m' [.O k.name,u k.kind,.O k.dW,.O k.target,u k.cN,u k.n2,u k.n3,u k.n4,u k.n5,u k.n6,.Q .none 12 (k.J.map enc),.Q .none 2 (k.bO.map c4)]),(24,.box ri (tq s)),(200,.box fE [.ai nJ]),(201,.box bG [.Q (.own 204 uN) 1 (e6 (l++[s]))]),(202,.box fF [xD fE bG fF]),(203,.row nJ (hd V.1 (l++[s]) l) 7 305),(204,.own uN (e6 (l++[s])).length 1 3)] (kB V.1 (l++[s]) l)) ?_ (λZi=>?_);rotate_left;refine W.jj 201 (dv:=[.Q (.own 204 uN) 1 (e6 (l++[s]))]) rfl ⟨aq.own _ _,ak⟩ ?_;by_cases N:s.dd=true;have Zj:hF l (bP l).length=[]:=amr amT;have jg:=ams (vs:=vs) (l:=l) (e5:=l) (s:=s) (v:=.slice none 0 0) N Zj;refine W.vk 203 (a':=hd (sm vs (bP l).length (.slice none 0 0)) (l++[s]) l) rfl (by rw[atI N,<-jg,atP,atP];rfl) P6 (by rw[atI N,<-jg,Y4,Y4];exact dN.lP (dN.refl _) ⟨E,E,E,E,E,E,aq.ve,ak⟩) ?_;refine W.tP ((bP l).length+300) 8 310 ?_;refine W.iY _ _ ?_ (Zi ⟨sm vs (bP l).length (.slice none 0 0),by rw[C' N,at0 A7];exact rh,by rw[C' N,atP];omega⟩);refine fB.zf (m:=[(16,16),(24,24),(200,200),(201,201),(202,202),(203,203),(204,204)]) ar rfl ⟨rfl,bc⟩ rfl (λq o h=>?_);rcases amG N h with⟨rfl,rfl⟩|⟨a7,h⟩;refine⟨by omega,?_⟩;rw[pT,Zj];rfl;obtain⟨j,rfl,_,_⟩:=tr h;exact⟨by omega,(k5 _ _ a7).trans h⟩;(have hg:s.dd=false:=by simpa using N);refine W.iY _ _ ?_ (Zi ⟨vs,by rw[J' hg];exact rh,by rw[J' hg];exact A7⟩);refine fB.zf (m:=[(16,16),(24,24),(200,200),(201,201),(202,202),(203,203),(204,204)]) ar rfl ⟨rfl,rfl,rfl,rfl,rfl,rfl,rfl,rfl,rfl,rfl,rfl,atJ (λV=>some (aJ.row nJ V 7 305)) (by rw[atH N,amE hg]),rfl,bc⟩ rfl (λq o h=>?_);rw[amF hg]at h;obtain⟨j,rfl,_,_⟩:=tr h;exact⟨by omega,h⟩;rintro⟨l3,rh,hC⟩;(try dsimp only);have wm:s.fi=x.di:=a6.fi;(have hQ:(hF l x.di).length<=l.length:=by rw[hF,atL,C9];exact avc (aum _ _) aty);apply el;refine W.Sx aM mixed (α:=Value) (λv f=>[(1,u (x.di:Int)),(2,u x.lv),(3,.bool x.iso),(4,.bool x.rock),(5,.box 200 fE 0),(6,.box 201 bG 0),(7,.box 202 fF 0),(13,.Q .none 1 (aN (cg 0 n.J))),(33,.Q .none 12 (n.J.map enc)),(34,u (n.J.map enc).length),(35,u (i:Int)),(15,u (i:Int)),(16,.box 16 m' 0),(17,.bool s.iso),(18,.bool s.rock),(21,.bool s.dd),(24,.box 24 ri 0),(139,bif f 0 then .ai nJ else .any),(140,bif f 1 then u (x.di:Int)else .any),(141,bif f 2 then .ai nJ else .any),(142,bif f 3 then u (x.di:Int)else .any),(143,bif f 4 then .ai (hW nJ (((x.di:Nat):Int).toNat*7))else .any),(144,bif f 5 then .ai (hW nJ (((x.di:Nat):Int).toNat*7+6))else .any),(145,bif f 6 then .Q (.own 0 (l3 x.di)) 8 (hF l x.di)else .any),(146,bif f 7 then pD s else .any),(147,bif f 8 then .Q .dV 8 [pD s]else .any),(148,bif f 9 then .Q (.own 148 v) 8 (hF l x.di++[pD s])else .any),(149,bif f 10 then .ai (hW nJ (((x.di:Nat):Int).toNat*7))else .any),(150,bif f 11 then .ai (hW nJ (((x.di:Nat):Int).toNat*7+6))else .any)]) (λv f=>cM ([(16,.box m' [.O k.name,u k.kind,.O k.dW,.O k.target,u k.cN,u k.n2,u k.n3,u k.n4,u k.n5,u k.n6,.Q .none 12 (k.J.map enc),.Q .none 2 (k.bO.map c4)]),(24,.box ri (tq s)),(200,.box fE [.ai nJ]),(201,.box bG [.Q (.own 204 uN) 1 (e6 (l++[s]))]),(202,.box fF [xD fE bG fF]),(203,.row nJ (bif f 12 then((hd l3 (l++[s]) l).set x.di (.agg (iy (rg x++[.Q (.own 0 (l3 x.di)) 8 (hF l x.di)]) 6 (.Q (.own 148 v) 8 (hF l x.di++[pD s])))))else(hd l3 (l++[s]) l)) 7 305),(204,.own uN (e6 (l++[s])).length 1 3)]++(bif f 9 then[(148,.own v ((hF l x.di).length+1) 8 310)]else[])) (bif f 9 then(Da x.di (kB l3 (l++[s]) l))else kB l3 (l++[s]) l)) atA (.bool true) ?_ ?_ ?_ ?_;exact⟨E,E,E,E,E,E,E,E,E,E,E,E,E,E,E,E,E,.any _,.any _,.any _,.any _,.any _,.any _,.any _,.any _,.any _,.any _,.any _,.any _,ak⟩;exact nr.Mc ⟨rfl,bc⟩ (λk o h=>(y8 rfl (amt h)).trans h);(conv=>whnf);refine⟨λv f bi=>?_,?_⟩;obtain⟨f,rfl⟩:= bi.o f 12 0;apply BG;refine eB ?_;exact fY v;refine Sl ?_;refine⟨λv f bi=>?_,?_⟩;obtain⟨f,rfl⟩:= bi.o f 9 6 (bi.n 6 5 (bi.n 5 4 (bi.n 4 2)));obtain⟨f,rfl⟩:= bi.o f 12 2;apply BG;refine eB ?_;exact fY v;refine Sl ?_;refine⟨λv f bi=>?_,?_⟩;obtain⟨f,rfl⟩:= bi.o f 9 6 (bi.n 6 5 (bi.n 5 4));obtain⟨f,rfl⟩:= bi.o f 12 4;apply p0;refine af.ey aM 203 rfl rfl rfl rfl rfl rfl rfl atw (Y5 (by rw[lz];exact hC)) ?_;exact fY v;refine⟨λv f bi=>?_,?_⟩;obtain⟨f,rfl⟩:= bi.o f 9 6 (bi.n 6 5);obtain⟨f,rfl⟩:= bi.o f 12 5;apply p0;refine af.jl aM 203 (i:=x.di) rfl rfl (Y6 (by rw[lz];exact hC)) rfl rfl rfl atz ?_;exact fY v;refine⟨λv f bi=>?_,?_⟩;obtain⟨f,rfl⟩:= bi.o f 9 6;obtain⟨f,rfl⟩:= bi.o f 12 6;apply p0;refine af.n1 aM 203 (i:=x.di) (j:=6) atC rfl rfl (GG rh) ?_;(conv=>whnf);exact fY v;refine⟨λv f bi=>?_,?_⟩;obtain⟨f,rfl⟩:= bi.o f 9 8 (bi.n 8 7);obtain⟨f,rfl⟩:= bi.o f 12 7;apply BG;refine eB ?_;exact fY v;refine⟨λv f bi=>?_,?_⟩;obtain⟨f,rfl⟩:= bi.o f 9 8;obtain⟨f,rfl⟩:= bi.o f 12 8;apply BG;(conv=>whnf);refine o' ?_;exact fY v;refine⟨λv f bi=>?_,?_⟩;obtain⟨f,rfl⟩:= bi.o f 12 9;apply p0;refine af.SP aM (x.di+300) 0 rfl rfl rfl atD rfl (P4 hC) rfl (by show(_+1)*64<=_;omega) (by show _+1<=_;omega) (λv2=>?_);exact fY v2 (nr.Mc ⟨rfl,bc⟩ (λk o h=>by obtain⟨h1,A,Z⟩:=P7 h;exact(k5 _ _ atw).trans ((k5 _ _ h1).trans ((y8 rfl A).trans Z))));refine⟨λv f bi=>?_,?_⟩;obtain⟨f,rfl⟩:= bi.o f 12 11 (bi.n 11 10);apply p0;refine af.ey aM 203 rfl rfl rfl rfl rfl rfl rfl atw (Y5 (by rw[lz];exact hC)) ?_;exact fY v;refine⟨λv f bi=>?_,?_⟩;obtain⟨f,rfl⟩:= bi.o f 12 11;apply p0;refine af.jl aM 203 (i:=x.di) rfl rfl (Y6 (by rw[lz];exact hC)) rfl rfl rfl atz ?_;exact fY v;refine⟨λv f bi=>?_,?_⟩;(conv=>whnf);apply p0;refine af.vj aM 203 (i:=x.di) (j:=6) atC rfl rfl rfl (GG rh) atz rfl ?_;exact fY v (nr.Mc ⟨rfl,bc⟩ (λk o h=>axV));exact trivial;intro v f M;(conv=>whnf);refine W.iY [(1,u (x.di:Int)),(2,u x.lv),(3,.bool x.iso),(4,.bool x.rock),(5,.box 200 fE 0),(6,.box 201 bG 0),(7,.box 202 fF 0),(13,.Q .none 1 (aN (cg 0 n.J))),(33,.Q .none 12 (n.J.map enc)),(34,u (n.J.map enc).length),(35,u (i:Int)),(15,u (i:Int)),(16,.box 16 m' 0),(17,.bool s.iso),(18,.bool s.rock),(21,.bool s.dd),(24,.box 24 ri 0)] (cM [(16,.box m' [.O k.name,u k.kind,.O k.dW,.O k.target,u k.cN,u k.n2,u k.n3,u k.n4,u k.n5,u k.n6,.Q .none 12 (k.J.map enc),.Q .none 2 (k.bO.map c4)]),(24,.box ri (tq s)),(200,.box fE [.ai nJ]),(201,.box bG [.Q (.own 204 uN) 1 (e6 (l++[s]))]),(202,.box fF [xD fE bG fF]),(203,.row nJ ((hd l3 (l++[s]) l).set x.di (.agg (iy (rg x++[.Q (.own 0 (l3 x.di)) 8 (hF l x.di)]) 6 (.Q (.own 148 v) 8 (hF l x.di++[pD s]))))) 7 305),(204,.own uN (e6 (l++[s])).length 1 3),(148,.own v ((hF l x.di).length+1) 8 310)] (Da x.di (kB l3 (l++[s]) l))) (.same ar (λk o h=>?_)) ?_;show cM (_++(bif f 9 then _ else _)) (bif f 9 then _ else _) k=_;rw[M 9 atA,M 12 atA];exact h;refine W.vk 203 (a':=hd (sm l3 x.di v) (l++[s]) (l++[s])) rfl (by rw[avd,lz,lz]) P6 (dN.b2 (by rw[avd,lz,lz]) (amu rh wm r8)) ?_;refine W.iY [(1,u (x.di:Int)),(2,u x.lv),(3,.bool x.iso),(4,.bool x.rock),(5,.box 200 fE 0),(6,.box 201 bG 0),(7,.box 202 fF 0),(13,.Q .none 1 (aN (cg 0 n.J))),(33,.Q .none 12 (n.J.map enc)),(34,u (n.J.map enc).length),(35,u (i:Int)),(15,u (i:Int)),(16,.box 16 m' 0),(17,.bool s.iso),(18,.bool s.rock),(21,.bool s.dd),(24,.box 24 ri 0)] (cM [(16,.box m' [.O k.name,u k.kind,.O k.dW,.O k.target,u k.cN,u k.n2,u k.n3,u k.n4,u k.n5,u k.n6,.Q .none 12 (k.J.map enc),.Q .none 2 (k.bO.map c4)]),(24,.box ri (tq s)),(200,.box fE [.ai nJ]),(201,.box bG [.Q (.own 204 uN) 1 (e6 (l++[s]))]),(202,.box fF [xD fE bG fF]),(203,.row nJ (hd (sm l3 x.di v) (l++[s]) (l++[s])) 7 305),(204,.own uN (e6 (l++[s])).length 1 3)] (kB (sm l3 x.di v) (l++[s]) (l++[s]))) ⟨ar,λk=>if k=x.di+300 then 148 else k,?_,?_⟩ ?_;exact amv rfl;exact amw rfl ⟨rfl,bc⟩ rfl (λk o h=>axV) wm r8;apply b4;refine W.cond s.dd rfl (λN=>?_) (λN=>?_);refine tV ?_;apply cB;apply eb;apply cB;apply eb;apply eb;apply cB;apply eb;apply eb;refine g5 ?_;apply eb;refine ic ?_;refine⟨rfl,ak,.inr (af.St rfl [aE k,u (s.di:Int),u s.lv,.bool s.iso,.bool s.rock,.box 200 fE 0,.box 201 bG 0,.box 202 fF 0] A6 (c5.fK (λq G=>Y8 (show(16:Nat)<200 by decide) (show(24:Nat)<200 by decide) G) (aZ k atw AS Zc s (dB.add s) (l++[s]) fE bG fF nJ uN (sm l3 x.di v) o_ amR amS N (Zb.add s) (by rw[atP];simp;omega) (by rw[P8];omega) atw)) ⟨E,dt (by rw[atI N]),dt amQ.symm,E,E,E,E,E,ak⟩ ?_)⟩;rintro d aP ⟨rfl,za,amU,xz,rfl⟩;refine⟨_,E,?_⟩;refine nl ?_;exact⟨(⟨i+1,aI⟩,za,amU,xz),by show _-(i+1)<_-i;omega,.same ar (λq o h=>by dsimp only at h;rw[cS]at h;exact(amy (Kc h)).trans h)⟩;(have amV:fT k s (dB.add s)=[]:=by rw[XM,sR (by simpa using P9.symm.trans N)];rfl);rw[amV,auG]at cS;refine rI ?_;exact⟨(⟨i+1,aI⟩,nJ,uN,sm l3 x.di v),by show _-(i+1)<_-i;omega,.same ar (λq o h=>by dsimp only at h;rw[cS]at h;exact(Y8 (show(16:Nat)<200 by decide) (show(24:Nat)<200 by decide) (Kc h)).trans h)⟩);(have ci:i=n.J.length:=by simp at hc;omega);(have bV:fm (n.J.take i) ((cg 0 n.J).take i) x c=fT n x c:=by rw[XM,aug atw,aug atw]);rw[bV];refine W.iY [] (uL fE bG fF b5 mv vs (kC++fT n x c) (kC++fT n x c)) (.same trivial (λq o h=>h)) ?_;refine wT ?_;exact⟨.bp [],ak,rfl,_,_,_,rfl⟩
end Go.bR.ck
