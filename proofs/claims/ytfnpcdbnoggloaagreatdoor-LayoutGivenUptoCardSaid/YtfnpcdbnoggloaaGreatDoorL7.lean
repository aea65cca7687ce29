/- Contracts of the program's functions, part 7. No conditions of its own. -/
import Derived.Test.YtfnpcdbnoggloaaGreatDoorL6
set_option linter.unnecessarySimpa false
set_option linter.unusedSimpArgs false
set_option linter.unusedVariables false
set_option maxRecDepth 100000
set_option maxHeartbeats 16000000
namespace Go.bS.cj
open Go Go.Proofs
variable{B:World}{am:Nat}{z:av}{K:cM->av->Prop}{c:Code}{v:Value}{xs:List D}{k e:Nat}
theorem akt{U:b8 Tryz.prog B am}(s:Nat)(h:v.oneCell'=true->X U c z K)(hs:z.H s=some (.row v xs k e):=by exact rfl):X U c z K :=
 ⟨λa w C M=>by
  obtain⟨dF,cap,W,_⟩:=M.heap.ch s _ hs
  exact(h (by rw[W];rfl)).run a w C M⟩
def eT(aC:List (as8×Int))(vs:Nat->Value)(aZ ly:Nat->Int):List D:=aC.mapIdx λj d=>nH d.1 d.2 (vs j) (aZ j) (ly j)
def iP(vs:Nat->Value)(f:Nat->List D)(n:Nat):bF:=λk=>if 10000<=k/\k<10000+n then some (.row (vs (k-10000)) (f (k-10000)) 12 234)else none
variable{aC:List (as8×Int)}{ly:Nat->Int}
theorem h_{vs:Nat->Value}{aZ:Nat->Int}:(eT aC vs aZ ly).length=aC.length:=by simp[eT]
variable{i:Nat}
theorem CV{vs:Nat->Value}{aZ:Nat->Int}(h:i<aC.length):(eT aC vs aZ ly)[i]?=some (nH aC[i].1 aC[i].2 (vs i) (aZ i) (ly i)):=by unfold eT;rw[aub,ata h];rfl
theorem aku{vs:Nat->Value}{aZ AP JJ:Nat->Int}(h:i<aC.length)(hs:∀j,j≠i->AP j=aZ j/\JJ j=ly j):(eT aC vs aZ ly).set i (nH aC[i].1 aC[i].2 (vs i) (AP i) (JJ i))=eT aC vs AP JJ:=by apply auu;intro j;rw[ave];by_cases d6:i=j;subst d6;rw[as_ rfl,as_ (by rw[h_];exact h),CV h];rw[as9 d6];unfold eT;simp only[aub];rw[(hs j (λh=>d6 h.symm)).1,(hs j (λh=>d6 h.symm)).2]
theorem gG(vs:Nat->Value)(f:Nat->List D)(n:Nat):qa (iP vs f n):=λk o h=>by
 unfold iP at h;split at h
 ·omega
 cases h
theorem Pz{vs:Nat->Value}{f:Nat->List D}{n:Nat}(h:i<n):iP vs f n (10000+i)=some (.row (vs i) (f i) 12 234):=by unfold iP;rw[as_ asZ,auo]
variable{row:List D}
theorem X0{vs:Nat->Value}{f yn:Nat->List D}{n:Nat}(W:vs i=v)(ae:yn i=row)(xl:∀j,j≠i->yn j=f j):
  ∀k o,iP vs yn n k=some o->10000<=k/\((k=10000+i/\o=.row v row 12 234)\/(k≠10000+i/\lV (iP vs f n) (10000+i) k=some o)):=λk o h=>by
 unfold iP at h;split at h
 ·rename_i Y;refine⟨Y.1,?_⟩;by_cases f_:k=10000+i
  ·subst f_;rw[auo,W,ae]at h;exact .inl ⟨rfl,(at3 h).symm⟩
  refine .inr ⟨f_,?_⟩;unfold lV iP;rw[auZ f_,as_ Y,<-xl (k-10000) asZ];exact h
 cases h
def fL(bC:Nat->Int)(a:Int):Nat->Int
 |0=>a
 |i+1=>fL bC a i+bC i
theorem CW{bC:Nat->Int}{a b:Int}{n:Nat}(h:∀i,i<n->0<=bC i/\bC i<=b):∀i,i<=n->a<=fL bC a i/\fL bC a i<=a+b*(i:Int)
 |0,_=>by simp[fL]
 |i+1,hi=>by have h1:=CW (a:=a) h i asZ;have A:=h i asZ;rw[fL];(have:b*((i+1:Nat):Int)=b*(i:Int)+b:=by rw[Int.natCast_succ,Int.mul_add,Int.mul_one]);omega
variable{L:List bP}
section
variable(aG:bP->List c_)(wide:Bool)
def Gn(x y:{x:bP // v8 aG wide x}):Int:=xn x.1.id y.1.id wide
open Classical in
noncomputable def o1(L:List bP):List bP:=if h:∀x∈L,v8 aG wide x then(gf (Gn aG wide) (L.attachWith _ h)).map (·.1)else[]
theorem X1(h:∀x∈L,v8 aG wide x):o1 aG wide L=(gf (Gn aG wide) (L.attachWith _ h)).map (·.1):=auX h
theorem JK:∀x∈o1 aG wide L,v8 aG wide x:=λx I=>by
 unfold o1 at I;split at I
 ·obtain⟨y,_,rfl⟩:=aty.1 I;exact y.2
 cases I
theorem JL:(o1 aG wide L).length<=L.length:=by unfold o1;split;rw[atb,adv,List.length_attachWith];exact atg _;simp
noncomputable def PA(L:List bP):List Int:=(o1 aG wide L).map λx=>qx x.id (gR aG x)
noncomputable def y3(L:List bP):Int:=yJ (PA aG wide L)
def JM(be:Nat->List bP)(n:Nat):List Int:=(List.range n).flatMap λi=>(be i).map λx=>(l5 aG x).2
def v_(be:Nat->List bP)(n:Nat):Int:=((JM aG be n).find? λe=>!(e==0)).getD 0
def j2(o n:Int):Int:=(if n>2048-o.tmod 2048 then o+(2048-o.tmod 2048)else o)+n
noncomputable def v'(be:Nat->List bP)(n:Nat):List Int:=(List.range n).flatMap λi=>(o1 aG wide (be i)).flatMap λx=>(gR aG x).tail
noncomputable def y4(be:Nat->List bP)(n:Nat)(a:Int):Int:=fL (λi=>y3 aG wide (be i)) a n+j9 ((v' aG wide be n).foldl j2 0)
noncomputable def Gp(be:Nat->List bP)(n:Nat)(a:Int):D:=if v_ aG be n=0 then .bo [u (y4 aG wide be n a),u 0]else .bo [u 0,u (v_ aG be n)]
end
variable{aG:bP->List c_}{wide:Bool}
theorem X2(h:L.length<400000):0<=y3 aG wide L/\y3 aG wide L<=2000000:=by have:=JL aG wide (L:=L);exact agM _ (by unfold PA;rw[atb];omega)
theorem akv{n:Nat}(h:i<=n):List.range n=List.range i++(List.range (n-i)).map (·+i):=by obtain⟨m,rfl⟩:∃m,n=i+m:=⟨n-i,by omega⟩;rw[List.range_add,auo];simp only[avZ]
variable{be:Nat->List bP}
theorem akw{n:Nat}(h:∀j,j<n->∀x∈be j,(l5 aG x).2=0):v_ aG be n=0:=by unfold v_;rw[auY.2 (λe ao=>?_)];rfl;obtain⟨j,ad,hm⟩:=au8.1 ao;obtain⟨x,I,rfl⟩:=aty.1 hm;rw[h j (auJ.1 ad) x I];decide
theorem akx{n:Nat}(hi:i<n)(h:∀j,j<i->∀x∈be j,(l5 aG x).2=0)(Y:k<(be i).length)(A:∀j (ad:j<k),(l5 aG (be i)[j]).2=0)(Z:(l5 aG (be i)[k]).2≠0):v_ aG be n=(l5 aG (be i)[k]).2:=by unfold v_;(have aD:JM aG be n=(JM aG be i++((be i).take k).map λx=>(l5 aG x).2)++(l5 aG (be i)[k]).2::(((be i).drop (k+1)).map (λx=>(l5 aG x).2)++((List.range (n-(i+1))).map (·+(i+1))).flatMap λi=>(be i).map λx=>(l5 aG x).2):=by unfold JM;rw[akv (show i+1<=n from hi),au1,auO,au1,auc,List.flatMap_nil,aua];(conv=>lhs;arg 1;arg 2;rw[<-auz k (be i),aue Y,atO,atG]);simp only[atL,auh]);rw[aD,List.find?_append,auY.2 (λe ao=>?_)];rw[Option.none_or,List.find?_cons_of_pos (by simpa using Z)];rfl;rcases atB.1 ao with ao|ao;obtain⟨j,ad,hm⟩:=au8.1 ao;obtain⟨x,I,rfl⟩:=aty.1 hm;rw[h j (auJ.1 ad) x I];decide;obtain⟨x,I,rfl⟩:=aty.1 ao;obtain⟨j,ad,rfl⟩:=atP.1 I;rw[atv]at ad;rw[List.getElem_take,A j asZ];decide
theorem aky(n:Int)(h0:0<=n)(h1:n<1000000000000000):aU B 171 [u n] (u (j9 n)):=by refine fn Tryz.func171 Tryz.ntmps171 λU=>?_;refine go ?_;have G:(n+2048-1).tdiv 2048=(n+2048-1)/2048:=atp asZ;refine sP (λ_=>by simp only[dg];omega) ?_;(conv=>whnf);refine go ?_;exact E
def AQ(B:World)(lC:aI)(S:D)(eF:List c_):Prop:=∃b7 first ct,S=.fn (.func b7) first ct/\cZ B b7 (first++[.fn (.func 173) [] []]++ct) (aK [(7100,lC)]) λd aO=>d=.Q .none 3 (eC eF)/\aO=aK [(7100,lC)]
def wa(bC:Nat->Int)(a:Int)(i j:Nat):Int:=if j<i then fL bC a j else 0
def wb(bC:Nat->Int)(i j:Nat):Int:=if j<i then bC j*2048 else 0
noncomputable def wc(bR:bP->D)(aG:bP->List c_)(wide:Bool)(be:Nat->List bP)(i j:Nat):List D:=if j<i then(o1 aG wide (be j)).map (ki bR aG)else(be j).map (jC bR)
theorem akz(bC:Nat->Int)(a:Int):wa bC a 0=λ_=>0:=funext λj=>as9 asZ
theorem akA(bC:Nat->Int):wb bC 0=λ_=>0:=funext λj=>as9 asZ
theorem akB(bR:bP->D)(aG:bP->List c_)(wide:Bool)(be:Nat->List bP):wc bR aG wide be 0=λi=>(be i).map (jC bR):=funext λj=>as9 asZ
def nJ(bR:bP->D)(aG:bP->List c_)(L:List bP)(k:Nat):List D:=L.mapIdx λj x=>if j<k then ki bR aG x else jC bR x
variable{bR:bP->D}
theorem xz:(nJ bR aG L k).length=L.length:=by simp[nJ]
theorem akC:nJ bR aG L 0=L.map (jC bR):=by apply aus (by simp[nJ]);intro j h1 A;simp[nJ]
theorem akD:nJ bR aG L L.length=L.map (ki bR aG):=by apply aus (by simp[nJ]);intro j h1 A;simp only[nJ,avL,avJ];exact as_ (by simpa[nJ]using h1)
theorem akE(h:k<L.length):(nJ bR aG L k)[k]?=some (jC bR L[k]):=by unfold nJ;rw[aub,ata h];simp
theorem akF(h:k<L.length):(nJ bR aG L k).set k (ki bR aG L[k])=nJ bR aG L (k+1):=by apply aus (by simp[nJ]);intro j h1 A;rw[awq];simp only[nJ,avL];exact aw4
theorem akG(n:Nat):0<=vQ (n:Nat) 0/\vQ (n:Nat) 0<=254:=by unfold vQ;split;omega;split;rename_i h;(have:0<=yH (n:Nat):=by unfold yH;rw[atp asZ];omega);omega;omega
theorem akH(hs:∀x,(bR x).one=true)(aG:bP->List c_)(x:bP):Aa (ki bR aG x):=⟨_,rfl,rfl,CU hs aG x⟩
def rk(bR:bP->D)(aG:bP->List c_)(P:D)(x:bP):D:=.agg [.O x.id,u 0,u 0,u x.fh,u x.c4,u x.gJ,u 1,.O [],u x.leads,bR x,.Q .none 1 (bn (gR aG x)),P]
theorem akI(bR:bP->D)(aG:bP->List c_)(x:bP):rk bR aG .bj x=ki bR aG x:=rfl
def iq(bR:bP->D)(aG:bP->List c_)(L:List bP)(k:Nat):List D:=L.mapIdx λj x=>if j<k then rk bR aG .any x else ki bR aG x
theorem CX:(iq bR aG L k).length=L.length:=by simp[iq]
theorem akJ:iq bR aG L 0=L.map (ki bR aG):=by apply aus (by simp[iq]);intro j h1 A;simp[iq]
theorem akK:iq bR aG L L.length=L.map (rk bR aG .any):=by apply aus (by simp[iq]);intro j h1 A;simp only[iq,avL,avJ];exact as_ (by simpa[iq]using h1)
theorem akL(h:k<L.length):(iq bR aG L k).set k (rk bR aG .any L[k])=iq bR aG L (k+1):=by apply aus (by simp[iq]);intro j h1 A;rw[awq];simp only[iq,avL];exact aw4
theorem akM(h:k<L.length):(iq bR aG L k).set k (rk bR aG .bj L[k])=iq bR aG L k:=by apply aus (by simp[iq]);intro j h1 A;rw[awq];split;rename_i ao;subst ao;simp only[iq,avL];rw[as9 asZ];rfl;rfl
theorem akN(h:k<L.length):(iq bR aG L k)[k]?=some (rk bR aG .bj L[k]):=by unfold iq;rw[aub,ata h];simp[akI]
theorem X3:∀y∈iq bR aG L k,y.cells.length=12:=λy hy=>by
 obtain⟨i,hi,rfl⟩:=awB.1 hy;split<;>rfl
theorem X4{a:D}(h:∀y∈xs,y.cells.length=12)(ha:a.cells.length=12):∀y∈xs.set k a,y.cells.length=12:=λy hy=>by
 rcases avn hy with h1|h1
 ·exact h y h1
 rw[h1];exact ha
theorem X5{a b:D}(h:dK a.cells b.cells):dK (b1 (xs.set k a)) (b1 (xs.set k b)):=by refine dK.b1 as1 λi x y I hy=>?_;rw[ave]at I hy;split at I;rename_i ao;rw[as_ ao]at hy;split at I;rename_i aj;rw[as_ aj]at hy;cases I;cases hy;exact h;cases I;rename_i ao;rw[as9 ao,I]at hy;cases hy;exact E
theorem X6{x:bP}{P X7:D}(h:aq P X7):dK (rk bR aG P x).cells (rk bR aG X7 x).cells :=
 ⟨E,E,E,E,E,E,E,E,E,E,E,h,ai⟩
noncomputable def uJ(bR:bP->D)(aG:bP->List c_)(wide:Bool)(be:Nat->List bP)(i j:Nat):List D:=(o1 aG wide (be j)).map (rk bR aG (if j<i then .any else .bj))
noncomputable def sp(aG:bP->List c_)(wide:Bool)(be:Nat->List bP)(i:Nat):Int:=(v' aG wide be i).foldl j2 0
theorem akO:sp aG wide be (i+1)=((o1 aG wide (be i)).flatMap λx=>(gR aG x).tail).foldl j2 (sp aG wide be i):=by unfold sp v';rw[auO,au1,auf];simp
theorem akP{o n:Int}(ah:0<=o)(ax:0<=n/\n<=300000):o<=j2 o n/\j2 o n<=o+302048:=by unfold j2;rw[aur ah];split<;>omega
theorem X8{l:List Int}(aj:∀n∈l,0<=n/\n<=300000):∀{o:Int},0<=o->0<=l.foldl j2 o/\l.foldl j2 o<=o+302048*(l.length:Int):=by induction l with|nil=>intro o ah;simp;exact ah|cons n l aY =>intro o ah;have h1:=akP ah (aj n atk);have A:=aY (λm hm=>aj m (ato _ hm)) (o:=j2 o n) asZ;rw[auF,ath];omega
theorem akQ{bC:Nat->Int}{a:Int}(h:∀i,0<=bC i):∀{i j:Nat},i<=j->fL bC a i<=fL bC a j:=λ{i j} d6=>by
 induction j with
 |zero=>rw[show i=0 by omega];exact at5 _
 |succ j aY =>
  rcases ats i (j+1)with h1|h1
  ·have:=aY asZ;have:=h j;rw[fL];omega
  rw[show i=j+1 by omega];exact at5 _
theorem X9{l:List f2}(h:∀x∈l,x.id.length<=10000):0<=kH l/\kH l<=10009*(l.length:Int):=by(have:∀k,k<=l.length->0<=kH (l.take k)/\kH (l.take k)<=10009*(k:Int):=λk=>by induction k with|zero=>intro _;simp[kH]|succ k aY =>intro Y;have h1:=aY asZ;have A:=h _ (ate (show k<l.length by omega));have Z:=O2 l[k].id.length;rw[O1 asZ];omega);have:=this l.length (atg _);rw[ati]at this;exact this
theorem akR(aW:dc B)(bR:bP->D)(hs:∀x,(bR x).one=true)(aG:bP->List c_)(wide:Bool)(lC:aI)(aC:List (as8×Int))(be:Nat->List bP)(vs:Nat->Value)(b4:Value)(dJ:Nat)(a:Int)(T:List f2)(ha:0<=a/\a<=1000000000000000)(ax:aC.length<=1000000)(hT:T.length<1000000/\∀x∈T,x.id.length<=10000)(aj:∀i,i<aC.length->(be i).length<400000)(PB:fL (λi=>((be i).length:Nat)) 0 aC.length<=10000000)(kO:∀i,i<aC.length->∀x∈be i,x.id.length<1000000/\(wide=false->im x.id)/\(aG x).length<1000000/\∀y∈aG x,y.qs.length<1000000/\y.data.length<1000000)(Gq:∀i,i<aC.length->∀x∈be i,AQ B lC (bR x) (aG x))(ij:cZ B 170 [.box 4110 dJ 0] (aK [(4110,.box dJ [.bool wide,.al b4,u 0,u 0,u 0]),(4111,.row b4 (eT aC vs (λ_=>0) (λ_=>0)) 5 249)]) λd aO=>d=.Q .none 3 (dZ T)/\aO=aK [(4110,.box dJ [.bool wide,.al b4,u 0,u 0,u 0]),(4111,.row b4 (eT aC vs (λ_=>0) (λ_=>0)) 5 249)]): cZ B 110 [.box 4110 dJ 0,u a] (cU [(4110,.box dJ [.bool wide,.al b4,u 0,u 0,u 0]),(4111,.row b4 (eT aC vs (λ_=>0) (λ_=>0)) 5 249),(7100,lC)] (iP vs (λi=>(be i).map (jC bR)) aC.length)) λd _=>d=Gp aG wide be aC.length (a+2*j9 (kH T)):=by have akS:=X9 hT.2;(have Pe:0<=j9 (kH T)/\j9 (kH T)<=1000000000:=by unfold j9;rw[atp asZ];omega);(have aru:=aju (B:=B) T hT.1 λx I=>by have:=hT.2 x I;omega);have arv:=VP (B:=B) (kH T) akS.1 asZ;generalize bH:kH T=V at*;generalize an:j9 V=ak at*;refine yf Tryz.func110 Tryz.ntmps110 λU=>?_;refine X.jP [(0,.box 4110 dJ 0),(1,u a)] (cU [(4110,.box dJ [.bool wide,.al b4,u 0,u 0,u 0]),(4111,.row b4 (eT aC vs (λ_=>0) (λ_=>0)) 5 249),(7100,lC)] (iP vs (λi=>(be i).map (jC bR)) aC.length)) (fM.same cP λk o h=>h) ?_;apply ep;refine X.qZ rfl (gG _ _ _) λiE=>?_;refine go ?_;intro cg;(conv=>whnf);refine c1 ?_;refine X.jP [(1,u a),(2,.box 2 cg 0)] (cU [(2,.box cg [.box 4110 dJ 0]),(4110,.box dJ [.bool wide,.al b4,u 0,u 0,u 0]),(4111,.row b4 (eT aC vs (λ_=>0) (λ_=>0)) 5 249),(7100,lC)] (iP vs (λi=>(be i).map (jC bR)) aC.length)) (pl [(2,2),(4110,4110),(4111,4111),(7100,7100)] (gG _ _ _)) ?_;apply ep;refine X.qZ rfl (gG _ _ _) λiE=>?_;refine' eJ [(2,.box cg [.box 4110 dJ 0]),(4110,.box dJ [.bool wide,.al b4,u 0,u 0,u 0]),(4111,.row b4 (eT aC vs (λ_=>0) (λ_=>0)) 5 249),(7100,lC)] 0 (λy:Nat=>[_,_,.Q .none 3 (dZ T),u V,_,_,.any]) (λy=>[(6,4110,some (.box dJ [.bool wide,.al b4,u V,u 0,u 0]))]) [0,0,2,6,15,31,63] [(6,4110)] ?_ ?_;rotate_left 4;refine dw ?_;refine bJ (λy=>af.BR rfl [.box 4110 dJ 0] [(4110,4110),(4111,4111)] (hs:=[(4110,.box dJ [.bool wide,.al b4,u 0,u 0,u 0]),(4111,.row b4 (eT aC vs (λ_=>0) (λ_=>0)) 5 249)]) ⟨rfl,bb⟩ ij rfl ar E (cl y)) ?_;refine Go.bS.cj.vs ?_;exact trivial;intro _;(conv=>whnf);refine X.jP [(1,u a),(2,.box 2 cg 0)] (cU [(2,.box cg [.box 4110 dJ 0]),(4110,.box dJ [.bool wide,.al b4,u V,u 0,u 0]),(4111,.row b4 (eT aC vs (λ_=>0) (λ_=>0)) 5 249),(7100,lC)] (iP vs (λi=>(be i).map (jC bR)) aC.length)) (pl [(2,2),(4110,4110),(4111,4111),(7100,7100)] (gG _ _ _)) ?_;apply ep;refine X.qZ rfl (gG _ _ _) λiE=>?_;refine go ?_;refine X.jP [(1,u a),(2,.box 2 cg 0)] (cU [(2,.box cg [.box 4110 dJ 0]),(4110,.box dJ [.bool wide,.al b4,u V,u a,u 0]),(4111,.row b4 (eT aC vs (λ_=>0) (λ_=>0)) 5 249),(7100,lC)] (iP vs (λi=>(be i).map (jC bR)) aC.length)) (pl [(2,2),(4110,4110),(4111,4111),(7100,7100)] (gG _ _ _)) ?_;refine X.qZ rfl (gG _ _ _) λiE=>?_;refine' eJ [(2,.box cg [.box 4110 dJ 0]),(4110,.box dJ [.bool wide,.al b4,u V,u a,u 0]),(4111,.row b4 (eT aC vs (λ_=>0) (λ_=>0)) 5 249),(7100,lC)] 0 (λy:Nat=>[_,_,_,_,_,_,_,u (a+ak),_,_,.any]) (λy=>[(10,4110,some (.box dJ [.bool wide,.al b4,u V,u a,u (a+ak)]))]) [0,0,0,4,12,28,60,126,255,511,1023] [(10,4110)] ?_ ?_;rotate_left 9;refine dw ?_;refine Go.bS.cj.vs ?_;exact trivial;intro _;(conv=>whnf);refine X.jP [(1,u a),(2,.box 2 cg 0)] (cU [(2,.box cg [.box 4110 dJ 0]),(4110,.box dJ [.bool wide,.al b4,u V,u a,u (a+ak)]),(4111,.row b4 (eT aC vs (λ_=>0) (λ_=>0)) 5 249),(7100,lC)] (iP vs (λi=>(be i).map (jC bR)) aC.length)) (pl [(2,2),(4110,4110),(4111,4111),(7100,7100)] (gG _ _ _)) ?_;apply ep;refine X.qZ rfl (gG _ _ _) λiE=>?_;refine' eJ [(2,.box cg [.box 4110 dJ 0]),(4110,.box dJ [.bool wide,.al b4,u V,u a,u (a+ak)]),(4111,.row b4 (eT aC vs (λ_=>0) (λ_=>0)) 5 249),(7100,lC)] 0 (λy:Nat=>[_,_,_,_,_,_,_,_,_,u (a+ak+ak),_]) (λy=>[]) [0,1,3,7,0,16,48,112,240,511,1023] [] ?_ ?_;rotate_left 10;refine dw ?_;exact trivial;intro _;(conv=>whnf);(have akT:a+2*ak=a+ak+ak:=by omega);rw[akT];obtain⟨a2,CG⟩:∃a2,a+ak+ak=a2:=⟨_,rfl⟩;rw[CG];(have nT:0<=a2/\a2<=1000010000000000:=by omega);refine X.jP [(1,u a2),(2,.box 2 cg 0)] (cU [(2,.box cg [.box 4110 dJ 0]),(4110,.box dJ [.bool wide,.al b4,u V,u a,u (a+ak)]),(4111,.row b4 (eT aC vs (λ_=>0) (λ_=>0)) 5 249),(7100,lC)] (iP vs (λi=>(be i).map (jC bR)) aC.length)) (pl [(2,2),(4110,4110),(4111,4111),(7100,7100)] (gG _ _ _) (h1:=⟨.of_eq (by rw[<-CG];rfl),E,ai⟩)) ?_;apply nW;refine X.qZ rfl (gG _ _ _) λiE=>?_;refine akt 4111 (λxo=>?_);refine X.ajw 4110 2 (s_ wide b4 V a (a+ak)) rfl rfl as2 rfl (by simp only[avO,List.all_nil,D.one,xo,Bool.and_self]) ?_;refine iG 2 2 1 (.a8 5 [s_ wide b4 V a (a+ak)] 0 0) ?_;refine go ?_;refine dN (af.rJ aM 4111 rfl rfl rfl rfl) ?_;rw[h_];generalize akU:a+ak=JN;refine X.jP [(1,u a2),(2,.a8 1 [.a8 5 [s_ wide b4 V a JN] 0 0] 0 0),(57,u (aC.length:Nat)),(58,u 0)] (cU [(7100,lC),(4111,.row b4 (eT aC vs (λ_=>0) (λ_=>0)) 5 249)] (iP vs (λi=>(be i).map (jC bR)) aC.length)) (pl [(7100,7100),(4111,4111)] (gG _ _ _)) ?_;have arw:=VP (B:=B) 0 as2 as2;obtain⟨bC,hN⟩:∃bC:Nat->Int,(λi=>y3 aG wide (be i))=bC:=⟨_,rfl⟩;(have PC:∀i,i<aC.length->0<=bC i/\bC i<=2000000:=λi hi=>by rw[<-hN];exact X2 (aj i hi));refine z8 (λx:Nat=>x<=aC.length/\∀j,j<x->∀y∈be j,(l5 aG y).2=0) [2,57] [7100] (λx=>[(1,u (fL bC a2 x)),(58,u x)]) (λx=>[(4111,.row b4 (eT aC vs (wa bC a2 x) (wb bC x)) 5 249)]) (λx=>iP vs (wc bR aG wide be x) aC.length) (λx=>aC.length-x) 0 ⟨atq _,λj ad=>absurd ad asZ⟩ ?_ (h1:=by rw[akz,akA,akB];exact fM.same cP λk o h=>h);rintro i ⟨cd,PD⟩;rcases ats i aC.length with cz|cz;(·(have wC:wc bR aG wide be i i=nJ bR aG (be i) 0:=by rw[akC];exact as9 asZ);refine X.B1 (f0:=.row (vs i) (nJ bR aG (be i) 0) 12 234) 7500 (10000+i) rfl (gG _ _ _) (by rw[Pz cz,wC]) rfl as2 λGl=>?_;have lx:=CV (vs:=vs) (aZ:=wa bC a2 i) (ly:=wb bC i) cz;have qV:=aj i cz;refine go ?_;refine wU (t:=decide ((i:Int)<(aC.length:Nat))) (by simpa using cz) ?_;refine dN (af.ej aM 4111 rfl rfl rfl rfl rfl rfl rfl asZ (by rw[h_];omega)) ?_;refine dN (af.ri 4111 (i:=i) rfl rfl (by rw[h_];omega)) ?_;refine dN (af.jr aM 4111 (i:=i) rfl rfl (by rw[h_];omega) rfl rfl rfl as2) ?_;refine dN (af.n1 aM 4111 (i:=i) (j:=2) rfl rfl rfl lx) ?_;refine dN (af.rJ aM 7500 rfl rfl rfl rfl) ?_;rw[xz];refine fZ (λk:Nat=>k<=(be i).length/\∀j (ad:j<(be i).length),j<k->(l5 aG (be i)[j]).2=0) [1,2,6,7,8,57,58,71] [7100,4111] (λk=>[(72,u k)]) (λk=>[(7500,.row (vs i) (nJ bR aG (be i) k) 12 234)]) (λk=>(be i).length-k) 0 ⟨atq _,λj ad h=>absurd h asZ⟩ [(7100,7100),(4111,4111),(7500,7500)] ?_;rintro k ⟨Y,CY⟩;refine go ?_;refine cb (t:=decide ((k:Int)<(be i).length)) ?_ ?_<;>intro hc;(·(have eR:k<(be i).length:=by simpa using hc);obtain⟨b7,first,ct,akV,akW⟩:=Gq i cz _ (ate eR);obtain⟨n0,X_,sZ,TS⟩:=kO i cz _ (ate eR);have py:=akE (bR:=bR) (aG:=aG) eR;have XZ:=VQ (B:=B) ((be i)[k].id.length:Nat) 0;have akX:=ag0 (B:=B) (aG (be i)[k]) (254-vQ ((be i)[k].id.length:Nat) 0) sZ TS;have akY:uv (aG (be i)[k]) (254-vQ ((be i)[k].id.length:Nat) 0)=l5 aG (be i)[k]:=rfl;have lh:=akG (be i)[k].id.length;rw[akY]at akX;generalize JO:(be i)[k]=x at*;refine go ?_;refine dN (af.ri 4111 (i:=i) rfl rfl (by rw[h_];omega)) ?_;refine dN (af.jr aM 4111 (i:=i) rfl rfl (by rw[h_];omega) rfl rfl rfl as2) ?_;refine dN (af.n1 aM 4111 (i:=i) (j:=2) rfl rfl rfl lx) ?_;refine dN (af.ej aM 7500 rfl rfl rfl rfl rfl rfl rfl asZ (by rw[xz];omega)) ?_;refine' eJ [(7100,lC),(4111,.row b4 (eT aC vs (wa bC a2 i) (wb bC i)) 5 249),(7500,.row (vs i) (nJ bR aG (be i) k) 12 234)] 0 (λy:Nat=>[_,_,_,.fn (.func b7) first ct,.Q .none 3 (eC (aG x)),_,_,_,_,_,_,_,_,_,_,_,_,_,_]) (λy=>[]) [0,1,3,7,15,0,32,96,224,480,992,2047,4095,8191,16383,32767,32767,65535,262143] [] ?_ ?_;rotate_left 17;refine dw ?_;refine bJ (λy=>af.ri 7500 (i:=k) rfl rfl (by rw[xz];omega) (cl y)) ?_;refine bJ (λy=>af.jr aM 7500 (i:=k) rfl rfl (by rw[xz];omega) rfl rfl rfl as2 (cl y)) ?_;refine bJ (λy=>af.n1 aM 7500 (i:=k) (j:=9) rfl rfl rfl py (cl y (Z:=aq.of_eq akV))) ?_;refine bJ (λy=>af.BR rfl (first++[.fn (.func 173) [] []]++ct) [(7100,7100)] (hs:=[(7100,lC)]) ⟨rfl,bb⟩ akW rfl (dK.refl _) E (cl y)) ?_;refine bJ (λy=>af.ri 7500 (i:=k) rfl rfl (by rw[xz];omega) (cl y)) ?_;refine bJ (λy=>af.jr aM 7500 (i:=k) rfl rfl (by rw[xz];omega) rfl rfl rfl as2 (cl y)) ?_;refine bJ (λy=>af.jr aM 7500 (i:=k) rfl rfl (by rw[xz];omega) rfl rfl rfl as2 (cl y)) ?_;refine bJ (λy=>af.n1 aM 7500 (i:=k) (j:=0) rfl rfl rfl py (cl y)) ?_;exact trivial;intro _;(conv=>whnf);refine go ?_;refine cb ?_ ?_<;>intro hc;(have Gr:(l5 aG x).2≠0:=by simpa using hc);have Pb:=akx (aG:=aG) (n:=aC.length) cz PD eR (λj ad=>CY j asZ ad) (by rw[JO];exact Gr);rw[JO]at Pb;refine go ?_;exact⟨.bo [u 0,u (l5 aG x).2],ar,(by rw[Gp,Pb,as9 Gr])⟩;(have Gr:(l5 aG x).2=0:=by simpa using hc);obtain⟨jD,xA,wX⟩:=XY Gr;(have akZ:=ai7 (B:=B) (l5 aG x).1 (by have:(l5 aG x).1.length<=64:=xA;omega) λg aV=>by obtain⟨sj,qu⟩:=wX g aV;exact⟨by omega,λy hy=>by have:=qu y hy;omega⟩);have oe:=akF (bR:=bR) (aG:=aG) eR;rw[JO]at oe;refine go ?_;refine bp akZ ?_;refine dN (af.ri 7500 (i:=k) rfl rfl (by rw[xz];omega)) ?_;refine dN (af.jr aM 7500 (i:=k) rfl rfl (by rw[xz];omega) rfl rfl rfl as2) ?_;refine dN (af.vh aM 7500 (i:=k) (j:=10) rfl rfl rfl rfl py as2 rfl) ?_;refine eK (k+1) [(7100,7100),(4111,4111),(7500,7500)] ⟨by omega,λj ad h=>?_⟩ (A:=⟨cP,rfl,rfl,rfl,rfl,rfl,rfl,rX oe,ai⟩);rcases ats j k with pa|pa;exact CY j ad pa;(have ak0:j=k:=by omega);subst ak0;rw[JO];exact Gr);(have lM:k=(be i).length:=by simp at hc;omega);subst lM;rw[akD];refine X.exit ?_;(conv=>whnf);(have Gs:∀x∈be i,v8 aG wide x:=λx I=>by obtain⟨j,ad,rfl⟩:=atP.1 I;exact⟨(kO i cz _ I).1,(kO i cz _ I).2.1,CY j ad ad⟩);have X':=lY.MW (B:=B) (b_:={x:bP // v8 aG wide x}) (λx=>ki bR aG x.1) (λx=>akH hs aG x.1) (Gn aG wide) 177 [.a8 1 [.a8 5 [s_ wide b4 V a JN] 0 0] 0 0] (λx y=>akq aW bR hs aG x.1 y.1 wide b4 V a JN x.2 y.2) (vs i) ((be i).attachWith _ Gs) (by rw[List.length_attachWith];exact qV);rw[show((be i).attachWith _ Gs).map (λx=>ki bR aG x.1)=(be i).map (ki bR aG)from List.attachWith_map_val Gs,show(gf (Gn aG wide) ((be i).attachWith _ Gs)).map (λx=>ki bR aG x.1)=(o1 aG wide (be i)).map (ki bR aG)from by rw[X1 aG wide Gs,avl];rfl]at X';refine go ?_;refine dN (af.ri 4111 (i:=i) rfl rfl (by rw[h_];omega)) ?_;refine dN (af.jr aM 4111 (i:=i) rfl rfl (by rw[h_];omega) rfl rfl rfl as2) ?_;refine dN (af.n1 aM 4111 (i:=i) (j:=2) rfl rfl rfl lx) ?_;refine mn [(2000,7500)] X' ?_;refine dN (af.ri 4111 (i:=i) rfl rfl (by rw[h_];omega)) ?_;refine dN (af.jr aM 4111 (i:=i) rfl rfl (by rw[h_];omega) rfl rfl rfl as2) ?_;refine dN (af.n1 aM 4111 (i:=i) (j:=2) rfl rfl rfl lx) ?_;refine dN (af.rJ aM 7500 rfl rfl rfl rfl) ?_;rw[atb];have eS:=JL aG wide (L:=be i);have xy:=JK aG wide (L:=be i);obtain⟨R,fF⟩:∃R,o1 aG wide (be i)=R:=⟨_,rfl⟩;rw[fF]at eS xy⊢;refine X.own 8 1000 1 3 rfl (λw0=>?_);refine fZ (λx:Nat×Value=>x.1<=R.length) [1,2,6,7,57,58,116,117] [7100,4111,7500] (λx=>[(8,.Q (.own 1000 x.2) 1 (bn ((R.take x.1).map λy=>qx y.id (gR aG y)))),(118,u x.1)]) (λx=>[(1000,.own x.2 (bn ((R.take x.1).map λy=>qx y.id (gR aG y))).length 1 3)]) (λx=>R.length-x.1) (0,w0) (atq _) [(7100,7100),(4111,4111),(7500,7500),(1000,1000)] ?_;rintro⟨k,w⟩ Y;dsimp only at Y⊢;refine go ?_;refine cb (t:=decide ((k:Int)<R.length)) ?_ ?_<;>intro hc;(have eR:k<R.length:=by simpa using hc);have cD:=xy _ (ate eR);have ak1:=akr (B:=B) bR hs aG R[k] cD.2.2;refine go ?_;(have CZ:(R.map (ki bR aG))[k]?=some (ki bR aG R[k]):=by simp[eR]);(have cX:(R.take k).map (λy=>qx y.id (gR aG y))++[qx R[k].id (gR aG R[k])]=(R.take (k+1)).map λy=>qx y.id (gR aG y):=by rw[atc eR,atO];rfl);refine dN (af.ej aM 7500 rfl rfl rfl rfl rfl rfl rfl asZ as0) ?_;refine dN (af.n1 aM 7500 (i:=k) (j:=0) rfl rfl rfl CZ) ?_;intro qt;(conv=>whnf);refine c1 ?_;rw[show[D.O R[k].id,u 0,u 0,u R[k].fh,u R[k].c4,u R[k].gJ,u 1,.O [],u R[k].leads,bR R[k],.Q .none 1 (bn (gR aG R[k])),.bj].all D.one=true from CU hs aG R[k]];(conv=>whnf);refine c1 ?_;refine iG 14 14 12 (ki bR aG R[k]) ?_ (d9:=CU hs aG R[k]);refine go ?_;refine bp ak1 ?_;refine MI (by show(_+1)*8<=_;simp only[bn,atb,atv];omega) (by show _+1<=_;simp only[bn,atb,atv];omega) λgN=>?_;(have qb:bn ((R.take k).map λy=>qx y.id (gR aG y))++[u (qx R[k].id (gR aG R[k]))]=bn ((R.take (k+1)).map λy=>qx y.id (gR aG y)):=by rw[<-cX];simp[bn]);exact eK (k+1,gN) [(7100,7100),(4111,4111),(7500,7500),(1000,126)] eR (A:=⟨⟨E,E,E,E,E,E,E,E,aq.j6 qb,E,ai⟩,rfl,rfl,rfl,rfl,rfl,rfl,rfl,rfl,ky (by rw[<-qb];simp),ai⟩);(have lM:k=R.length:=by simp at hc;omega);subst lM;rw[ati];have Ya:=agN (B:=B) (R.map λy=>qx y.id (gR aG y)) (by rw[atb];omega);(have ak2:yJ (R.map λy=>qx y.id (gR aG y))=bC i:=by rw[<-fF,<-hN];rfl);rw[ak2]at Ya;have Ik:=PC i cz;have o8:=CW (a:=a2) PC i asZ;refine X.exit ?_;(conv=>whnf);refine go ?_;refine bp Ya ?_;refine dN (af.ri 4111 (i:=i) rfl rfl (by rw[h_];omega)) ?_;refine dN (af.jr aM 4111 (i:=i) rfl rfl (by rw[h_];omega) rfl rfl rfl as2) ?_;refine dN (af.vh aM 4111 (i:=i) (j:=3) rfl rfl rfl rfl lx as2 rfl) ?_;refine dN (af.ri 4111 (i:=i) rfl rfl (by rw[auG,h_];omega)) ?_;refine dN (af.jr aM 4111 (i:=i) rfl rfl (by rw[auG,h_];omega) rfl rfl rfl as2) ?_;refine dN (af.vh aM 4111 (i:=i) (j:=4) rfl rfl rfl rfl (by rw[avv (by rw[h_];omega)]) as2 rfl) ?_;(have l_:∀q,((eT aC vs (wa bC a2 i) (wb bC i)).set i q).set i (nH aC[i].1 aC[i].2 (vs i) (fL bC a2 i) (bC i*2048))=eT aC vs (wa bC a2 (i+1)) (wb bC (i+1)):=λq=>by have:=aku (vs:=vs) (aZ:=wa bC a2 i) (ly:=wb bC i) (AP:=wa bC a2 (i+1)) (JJ:=wb bC (i+1)) cz (λj ad=>by unfold wa wb;by_cases h:j<i;rw[as_ h,as_ asZ,as_ h,as_ asZ];exact⟨rfl,rfl⟩;rw[as9 h,as9 asZ,as9 h,as9 asZ];exact⟨rfl,rfl⟩);rw[List.set_set,<-this];congr 2;exact(as_ asZ).symm;exact(as_ asZ).symm);(have hZ:∀j,j≠i->wc bR aG wide be (i+1) j=wc bR aG wide be i j:=λj ad=>by unfold wc;by_cases h:j<i;rw[as_ h,as_ asZ];rw[as9 h,as9 asZ]);(have zt:wc bR aG wide be (i+1) i=R.map (ki bR aG):=by unfold wc;rw[as_ asZ,fF]);exact yk (i+1) ⟨cz,λj ad y hy=>(avc.1 ad).elim (λh=>PD j h y hy) (λh=>by subst h;obtain⟨q,G,rfl⟩:=atP.1 hy;exact CY q G G)⟩ (wV (f0:=.row (vs i) (R.map (ki bR aG)) 12 234) [(7100,7100),(4111,4111)] (10000+i) 7500 asZ (CS (gG _ _ _) _) (X0 rfl zt hZ) (fY:=⟨rfl,rfl,rfl,rX (l_ _),ai⟩)));(have qb:i=aC.length:=by omega);subst qb;clear cz cd;refine X.qZ rfl (gG _ _ _) λiE=>?_;refine go ?_;refine cb (t:=decide ((aC.length:Int)<(aC.length:Nat))) (λhc=>by simp at hc) (λhc=>?_);refine X.exit ?_;(conv=>whnf);obtain⟨bw,iM⟩:∃bw,fL bC a2 aC.length=bw:=⟨_,rfl⟩;have ak3:=CW (a:=a2) PC aC.length (atg _);rw[iM]at ak3⊢;(have arx:0<=bw/\bw<=2000000000000000:=by omega);(have PE:iP vs (wc bR aG wide be aC.length) aC.length=iP vs (uJ bR aG wide be 0) aC.length:=by funext k;unfold iP;split;rename_i Y;congr 2;unfold wc uJ;rw[as_ asZ,as9 asZ];rfl;rfl);(have rI:Gp aG wide be aC.length a2=.bo [u (bw+j9 (sp aG wide be aC.length)),u 0]:=by unfold Gp;rw[as_ (akw PD),y4,<-iM,<-hN];rfl);rw[rI];obtain⟨JP,ak4⟩:∃JP,wa bC a2 aC.length=JP:=⟨_,rfl⟩;obtain⟨JQ,ak5⟩:∃JQ,wb bC aC.length=JQ:=⟨_,rfl⟩;rw[ak4,ak5,PE];refine X.jP [(1,u bw),(2,.a8 1 [.a8 5 [s_ wide b4 V a JN] 0 0] 0 0)] (cU [(4111,.row b4 (eT aC vs JP JQ) 5 249)] (iP vs (uJ bR aG wide be 0) aC.length)) (pl [(4111,4111)] (gG _ _ _)) ?_;refine go ?_;refine dN (af.rJ aM 4111 rfl rfl rfl rfl) ?_;rw[h_];obtain⟨AR,C1⟩:∃AR:Nat->Int,fL (λi=>((be i).length:Nat)) 0=AR:=⟨_,rfl⟩;(have hcs:∀i,AR (i+1)=AR i+((be i).length:Nat):=λi=>by rw[<-C1];rfl);(have l':∀i,i<=aC.length->AR i<=10000000:=λi hi=>by rw[<-C1];exact Int.le_trans (akQ (λj=>by omega) hi) PB);(have ic:AR 0=0:=by rw[<-C1];rfl);have Yb:sp aG wide be 0=0:=rfl;refine z8 (λx:Nat=>x<=aC.length/\0<=sp aG wide be x/\sp aG wide be x<=20000000*AR x) [1,2,147] [4111] (λx=>[(16,u (sp aG wide be x)),(148,u x)]) (λ_=>[]) (λx=>iP vs (uJ bR aG wide be x) aC.length) (λx=>aC.length-x) 0 ⟨atq _,by rw[Yb];omega,by rw[Yb,ic];omega⟩ ?_ (h1:=by exact fM.same cP λk o h=>h);rintro i ⟨cd,Yc,ary⟩;rcases ats i aC.length with cz|cz;obtain⟨R,fF⟩:∃R,o1 aG wide (be i)=R:=⟨_,rfl⟩;have eS:=JL aG wide (L:=be i);have xy:=JK aG wide (L:=be i);rw[fF]at eS xy;(have PE:uJ bR aG wide be i i=iq bR aG R 0:=by rw[akJ,uJ,fF,as9 asZ];rfl);have PF:=akO (aG:=aG) (wide:=wide) (be:=be) (i:=i);rw[fF]at PF;generalize sp aG wide be i=f0 at*;have arz:=hcs i;have arA:=l' (i+1) cz;have qV:=aj i cz;refine X.B1 (f0:=.row (vs i) (iq bR aG R 0) 12 234) 7500 (10000+i) rfl (gG _ _ _) (by rw[Pz cz,PE]) rfl as2 λGl=>?_;have lx:=CV (vs:=vs) (aZ:=JP) (ly:=JQ) cz;refine go ?_;refine wU (t:=decide ((i:Int)<(aC.length:Nat))) (by simpa using cz) ?_;refine dN (af.ej aM 4111 rfl rfl rfl rfl rfl rfl rfl asZ (by rw[h_];omega)) ?_;refine dN (af.jr aM 4111 (i:=i) rfl rfl (by rw[h_];omega) rfl rfl rfl as2) ?_;refine dN (af.n1 aM 4111 (i:=i) (j:=2) rfl rfl rfl lx) ?_;refine dN (af.rJ aM 7500 rfl rfl rfl rfl) ?_;rw[CX];refine fZ (λk:Nat=>k<=R.length/\0<=((R.take k).flatMap λy=>(gR aG y).tail).foldl j2 f0/\((R.take k).flatMap λy=>(gR aG y).tail).foldl j2 f0<=f0+20000000*(k:Int)) [1,2,17,147,148,159] [4111] (λk=>[(16,u (((R.take k).flatMap λy=>(gR aG y).tail).foldl j2 f0)),(160,u k)]) (λk=>[(7500,.row (vs i) (iq bR aG R k) 12 234)]) (λk=>R.length-k) 0 ⟨atq _,Yc,by simp⟩ [(4111,4111),(7500,7500)] ?_;rintro k ⟨Y,iy,pW⟩;refine go ?_;refine cb (t:=decide ((k:Int)<R.length)) ?_ ?_<;>intro hc;(have eR:k<R.length:=by simpa using hc);obtain⟨dH,cs,ut⟩:=JI (xy _ (ate eR)).2.2;have py:=akN (bR:=bR) (aG:=aG) eR;have ak6:=akL (bR:=bR) (aG:=aG) eR;have ma:=X5 (xs:=iq bR aG R k) (k:=k) (X6 (bR:=bR) (aG:=aG) (x:=R[k]) aq.qR);rw[akM eR]at ma;(have a1:((R.take (k+1)).flatMap λy=>(gR aG y).tail).foldl j2 f0=(gR aG R[k]).tail.foldl j2 (((R.take k).flatMap λy=>(gR aG y).tail).foldl j2 f0):=by rw[atc eR,au1,auf];simp);generalize((R.take k).flatMap λy=>(gR aG y).tail).foldl j2 f0=dk at*;generalize R[k]=x at*;refine go ?_;refine dN (af.ej aM 4111 rfl rfl rfl rfl rfl rfl rfl asZ (by rw[h_];omega)) ?_;refine dN (af.jr aM 4111 (i:=i) rfl rfl (by rw[h_];omega) rfl rfl rfl as2) ?_;refine dN (af.n1 aM 4111 (i:=i) (j:=2) rfl rfl rfl lx) ?_;refine dN (af.ej aM 7500 rfl rfl rfl rfl rfl rfl rfl asZ (by rw[CX];omega)) ?_;refine dN (af.ri 7500 (i:=k) rfl rfl (by rw[CX];omega)) ?_;refine dN (af.jr aM 7500 (i:=k) rfl rfl (by rw[CX];omega) rfl rfl rfl as2) ?_;refine dN (af.n1 aM 7500 (i:=k) (j:=10) rfl rfl rfl py) ?_;refine And.intro (λ_=>by simp only[bn,atb];omega) ?_;(conv=>whnf);refine c1 ?_;obtain⟨jE,g0⟩:∃jE,(gR aG x).tail=jE:=⟨_,rfl⟩;(have AH:jE.length<=63:=by rw[<-g0,List.length_tail];omega);have Yd:∀n∈jE,0<=n/\n<=300000:=λn ax=>ut n (by rw[<-g0]at ax;exact awx ax);rw[g0]at a1;rw[show List.drop (Int.toNat 1) (List.take (((bn (gR aG x)).length:Nat):Int).toNat (bn (gR aG x)))=bn jE by rw[atE,ati,<-g0];simp[bn],show(bn jE).length=jE.length from atb _];refine X.vi 7500 rfl as1 (X4 X3 rfl) ma ?_;refine X.p2 8000 2 269 ?_;refine go ?_;refine fZ (λx:Nat×Value×List D=>x.1<=jE.length/\x.2.2.length=x.1) [1,2,17,18,19,147,148,159,160,177,178] [4111] (λy=>[(16,u ((jE.take y.1).foldl j2 dk)),(179,u y.1)]) (λy=>[(7500,.row (vs i) ((iq bR aG R k).set k (rk bR aG (.al y.2.1) x)) 12 234),(8000,.row y.2.1 y.2.2 2 269)]) (λy=>jE.length-y.1) (0,.slice none 0 0,[]) ⟨atq _,rfl⟩ [(4111,4111),(7500,7500),(8000,8000)] ?_;rintro⟨m,v,bT⟩ ⟨hm,q8⟩;dsimp only at hm q8⊢;have JR:=X8 (l:=jE.take m) (λn ax=>Yd n (aud ax)) iy;rw[atv]at JR;have G:((iq bR aG R k).set k (rk bR aG (.al v) x))[k]?=some (rk bR aG (.al v) x):=avv (by rw[CX];exact eR);(have lj:((iq bR aG R k).set k (rk bR aG (.al v) x)).length=R.length:=by rw[auG,CX]);refine go ?_;refine cb (t:=decide ((m:Int)<(jE.length:Nat))) ?_ ?_<;>intro hc;(have gw:m<jE.length:=by simpa using hc);have pf:=Yd _ (ate gw);(have vZ:(bn jE)[m]?=some (.int .i64 jE[m]):=by simp[bn,gw]);(have Ye:(jE.take (m+1)).foldl j2 dk=j2 ((jE.take m).foldl j2 dk) jE[m]:=by rw[atc gw,auf];rfl);obtain⟨lN,Z⟩:∃lN,lN=if jE[m]>2048-((jE.take m).foldl j2 dk).tmod 2048 then(jE.take m).foldl j2 dk+(2048-((jE.take m).foldl j2 dk).tmod 2048)else(jE.take m).foldl j2 dk:=⟨_,rfl⟩;generalize(jE.take m).foldl j2 dk=dn at*;(have arB:(jE.take (m+1)).foldl j2 dk=lN+jE[m]:=by rw[Ye,Z];rfl);clear Ye;(have arC:0<=dn.tmod 2048/\dn.tmod 2048<2048:=by rw[aur JR.1];omega);(have Cw:dn<=300000000000000:=by omega);(have arD:dn<=lN/\lN<=dn+2048:=by rw[Z];split<;>omega);(have arE:0<=lN.tdiv 2048/\lN.tdiv 2048<=300000000000000:=by rw[atp asZ];omega);refine go ?_;refine And.intro (λ_=>by simp only[bn,atb];omega) ?_;(conv=>whnf);refine c1 ?_;refine bD (u jE[m]) vZ ?_;refine m6 (α:=Unit) (λ_=>True) [1,2,17,18,19,21,147,148,159,160,177,178,179] [4111,7500,8000] (λ_=>[(16,u lN)]) (λ_=>[]) ?_ ?_;refine g_ (λbs=>?_) (λbs=>?_);rw[as_ (by simpa using bs)]at Z;subst Z;exact gn () [(4111,4111),(7500,7500),(8000,8000)] trivial;rw[as9 (by simpa using bs)]at Z;subst Z;exact gn () [(4111,4111),(7500,7500),(8000,8000)] trivial;intro _ _;(have arF:0<=lN.tmod 2048/\lN.tmod 2048<2048:=by rw[aur asZ];omega);refine go ?_;refine dN (af.ri 7500 (i:=k) rfl rfl (by rw[lj];omega)) ?_;refine dN (af.jr aM 7500 (i:=k) rfl rfl (by rw[lj];omega) rfl rfl rfl as2) ?_;refine dN (af.n1 aM 7500 (i:=k) (j:=11) rfl rfl rfl G) ?_;refine .inr (af.oJ aM 8000 rfl rfl rfl as6 rfl rfl rfl as1 (by show(_+1)*16<=_;omega) (by show _+1<=_;omega) λbQ gQ cap=>?_);(conv=>whnf);refine c1 ?_;refine dN (af.ri 7500 (i:=k) rfl rfl (by rw[lj];omega)) ?_;refine dN (af.jr aM 7500 (i:=k) rfl rfl (by rw[lj];omega) rfl rfl rfl as2) ?_;refine dN (af.vh aM 7500 (i:=k) (j:=11) rfl rfl rfl rfl G as2 rfl) ?_;have Mh:∀d,((iq bR aG R k).set k (rk bR aG (.al v) x)).set k d=(iq bR aG R k).set k d:=λd=>List.set_set ..;exact eK (m+1,.slice bQ gQ cap,bT++[.agg [u (bw+lN.tdiv 2048),u (lN.tmod 2048)]]) [(4111,4111),(7500,7500),(8000,205)] ⟨gw,by simp[q8]⟩ (A:=⟨cP,rfl,rfl,rfl,rfl,rX (Mh _),rfl,bb⟩);(have PG:m=jE.length:=by simp at hc;omega);subst PG;rw[ati]at JR⊢;rw[<-a1]at JR⊢;refine X.exit ?_;(conv=>whnf);refine X.vi 7500 rfl as1 (X4 X3 rfl) (X5 (X6 (.any _))) ?_;refine go ?_;exact eK (k+1) [(4111,4111),(7500,7500)] ⟨eR,by omega,by omega⟩ (A:=⟨cP,rfl,rfl,rfl,rfl,rX ak6,ai⟩);(have lM:k=R.length:=by simp at hc;omega);subst lM;rw[ati,<-PF];rw[ati,<-PF]at iy pW;(have hZ:∀j,j≠i->uJ bR aG wide be (i+1) j=uJ bR aG wide be i j:=λj ad=>by unfold uJ;by_cases h:j<i;rw[as_ h,as_ asZ];rw[as9 h,as9 asZ]);(have zt:uJ bR aG wide be (i+1) i=iq bR aG R R.length:=by rw[akK];unfold uJ;rw[as_ asZ,fF]);refine X.exit ?_;(conv=>whnf);refine go ?_;exact yk (i+1) ⟨cz,iy,by omega⟩ (wV (f0:=.row (vs i) (iq bR aG R R.length) 12 234) [(4111,4111)] (10000+i) 7500 asZ (CS (gG _ _ _) _) (X0 rfl zt hZ));(have qb:i=aC.length:=by omega);subst qb;have ak7:=aky (B:=B) (sp aG wide be aC.length) Yc (by have:=l' aC.length (atg _);omega);refine X.qZ rfl (gG _ _ _) λiE=>?_;refine go ?_;refine cb (t:=decide ((aC.length:Int)<(aC.length:Nat))) (λhc=>by simp at hc) (λhc=>?_);refine X.exit ?_;(conv=>whnf);(have arG:0<=j9 (sp aG wide be aC.length)/\j9 (sp aG wide be aC.length)<=1000000000000:=by have:=l' aC.length (atg _);unfold j9;rw[atp asZ];omega);refine go ?_;refine bp ak7 ?_;exact⟨.bo [u (bw+j9 (sp aG wide be aC.length)),u 0],ar,rfl⟩
end Go.bS.cj
namespace Go.bS
open Go Go.RowKit
variable{k:Nat}
theorem JS{c:Nat}{a b:Option aI}{o:aI}(Y:10000<=k)(h:b=some o)(hc:Nat.blt c 10000=true:=by exact rfl):_root_.cond (Nat.beq k c) a b=some o:=by rw[auZ (by have:=atH hc;omega)];exact h
variable{aZ:List (Nat×aI)}{cv:bF}
theorem y5{o:aI}(Y:10000<=k)(h:cv k=some o)(aj:sS aZ=true:=by exact rfl):cU aZ cv k=some o:=by unfold cU;cases hs:aK aZ k with|some x=>have:=vp aj hs;omega|none=>exact h
variable{az:av}
theorem xB{l:List (Nat × D)}{aZ:List (Nat × aI)}(m : List (Nat × Nat))(cG : qa cv)(sD : ∀k o,10000<=k->cv k = some o->az.H k = some o := by
      intro k o Y G
      repeat (refine JS Y ?_)
      exact y5 Y G) (h1:jI az l:=by exact Go.bS.cj.cP) (hm:j4 m=true:=by exact rfl) (fY:tO az m aZ:=by exact Go.bS.cj.cP) (a1:sS aZ=true:=by exact rfl) (gB:yj 10000 m=true:=by exact rfl) :
  fM az l (cU aZ cv):=by
 have h:=fM.pl (cv:=cv) m h1 hm fY a1 gB cG
 have e:li cv az.H=az.H:=funext λk=>by
  unfold li
  cases N:cv k with
  |none=>rfl
  |some o=>exact(sD k o (cG k o N) N).symm
 rw[e]at h;exact h
def qy(aZ:List (Nat×aI)):Nat->Bool:=λk=>Nat.ble 10000 k||(aK aZ k).isSome
theorem Yf(h:10000<=k):qy aZ k=true:=by unfold qy;rw[aww h];rfl
variable{z:av}
theorem PH{aZ:List (Nat × aI)}(cG : qa cv)(sD : ∀k o,10000<=k->cv k = some o->z.H k = some o := by
      intro k o Y G
      repeat (refine JS Y ?_)
      exact y5 Y G) (h1:mP z aZ:=by repeat (first|exact trivial|refine⟨rfl,?_⟩)):∀k o,cU aZ cv k=some o->qy aZ k=true/\z.H k=some o:=λk o h=>by
 unfold cU at h
 cases hs:aK aZ k with
 |some x =>
  rw[hs]at h;cases h
  exact⟨by unfold qy;rw[hs];simp,h1.aK k _ hs⟩
 |none =>
  rw[hs]at h;exact⟨Yf (cG k o h),sD k o (cG k o h) h⟩
theorem JT{AP:List (Nat×aI)}{H:bF}{o:aI}(Y:10000<=k)(h:cv k=some o)(aj:sS AP=true:=by exact rfl):CT (qy aZ) H (cU AP cv) k=some o:=by unfold CT;rw[Yf Y];exact y5 Y h aj
variable{α:Type}
def ak8(eu:α->Prop)(l:α->List (Nat×D))(aZ:α->List (Nat×aI))(cv:α->bF)(K:cM->av->Prop):cM->av->Prop
 |.normal,z=>∃x,eu x/\fM z (l x) (cU (aZ x) (cv x))
 |.exit id,z=>K (.exit id) z
 |.ret,z=>K .ret z
end Go.bS
namespace Go.bS.cj
open Go Go.Proofs
variable{B:World}{am:Nat}{z:av}{K:cM->av->Prop}{α:Type}{cQ:List (Nat×aI)}
theorem PI{U:b8 Tryz.prog B am}{a b:Code}(eu:α->Prop)(hr wA:List Nat)(l:α->List (Nat×D))(aZ:α->List (Nat×aI))(cv:α->bF){L:List (Nat×D)}
  (h:X U a z (ak8 eu (λx=>L++l x) (λx=>cQ++aZ x) cv K)) (bz:∀x,eu x->X U b (EI (L++l x) (cQ++aZ x) (cv x)) K) (aW:t1 z hr L:=by exact ye) (hO:yd z wA cQ:=by exact ye):X U a z (zi U b K) :=
 h.mono λe az Y=>by
  cases e with
  |normal=>obtain⟨x,I,h1⟩:=Y;exact(bz x I).jP _ _ h1
  |exit id=>exact Y
  |ret=>exact Y
structure k8 where
 aC:List (as8×Int)
 be:Nat->List bP
def hR(s:k8)(i:Nat)(x:bP):k8:=⟨s.aC,λj=>if j=i then s.be j++[x]else s.be j⟩
def mH(s:k8)(id:as8)(p:Nat)(a b:bP):k8:=⟨s.aC++[(id,(p:Int))],λj=>if j=s.aC.length then[a,b]else s.be j⟩
def y6(path:as8):Int:=Lib.lastIndexByte ⟨⟨path⟩⟩ 47
def JU(path:as8):as8:=path.take (if y6 path>0 then y6 path else 0).toNat
theorem ak9(path:as8):y6 path<=(path.length:Nat):=by unfold y6;rcases Lib.lastIndexByte_spec ⟨⟨path⟩⟩ 47 with⟨h,_⟩|⟨i,hi,h,_⟩;rw[h];omega;rw[h];have:i<path.length:=hi;omega
section
variable(o:f1)(ap:List (as8×aa))
def rl(n:aa)(path:as8)(bW:Nat):aa:=if 1<bW then g2 ap (JU path)else n
def ng(path name:as8)(bW:Nat):as8:=if 1<bW then path++[47]++name else name
mutual
def jF(n:aa)(path id:as8)(cA bW:Nat)(s:k8):k8 :=
 match n with
 |.mk a b c d e f g h i j ag cC=>iQ ag (k4 1 ag).1 s.aC.length path bW (mH s id cA ⟨[0],h,o.c4,2,s.aC.length,.e3⟩ ⟨[1],(rl ap (.mk a b c d e f g h i j ag cC) path bW).n4,o.c4,2,cA,.e3⟩)
def iQ:List aa->List as8->Nat->as8->Nat->k8->k8
 |[],_,_,_,_,s=>s
 |k::ag,aX,d8,path,bW,s=>iQ ag aX.tail d8 path bW (if lo 1 k (bW+1:Nat)=true then
   (if k.kind=0 then hR (jF k (ng path k.name bW) (fj (aX.headD [])) d8 (bW+1) s) d8 ⟨fj (aX.headD []),k.n4,o.c4,2,s.aC.length,.e3⟩else hR s d8 ⟨fj (aX.headD []),k.n4,o.c4,0,-1,.e3⟩)else s)
end
def AS(k : aa)(aX : as8)(d8 : Nat)(path : as8)(bW : Nat)(s : k8): k8 := if lo 1 k (bW + 1 : Nat) = true then
      (if k.kind=0 then hR (jF o ap k (ng path k.name bW) (fj aX) d8 (bW+1) s) d8 ⟨fj aX,k.n4,o.c4,2,s.aC.length,.e3⟩else hR s d8 ⟨fj aX,k.n4,o.c4,0,-1,.e3⟩)else s
theorem Yg:∀(ag:List aa) (aX:List as8) (k:aa) (d8:Nat) (path:as8) (bW:Nat) (s:k8),iQ o ap (ag++[k]) aX d8 path bW s=AS o ap k ((aX[ag.length]?).getD []) d8 path bW (iQ o ap ag aX d8 path bW s)
 |[],aX,k,d8,path,bW,s=>by rw[auw,iQ,iQ,iQ,AS];(have:aX.headD []=(aX[0]?).getD []:=by cases aX<;>rfl);rw[this];rfl
 |x::ag,aX,k,d8,path,bW,s=>by rw[auh,iQ,iQ,Yg ag];(have:(aX.tail[ag.length]?).getD []=(aX[(x::ag).length]?).getD []:=by rw[List.getElem?_tail];rfl);rw[this]
theorem ak_(n:aa)(path id:as8)(cA bW:Nat)(s:k8):jF o ap n path id cA bW s=iQ o ap n.J (k4 1 n.J).1 s.aC.length path bW (mH s id cA ⟨[0],n.n4,o.c4,2,s.aC.length,.e3⟩ ⟨[1],(rl ap n path bW).n4,o.c4,2,cA,.e3⟩):=by cases n;rw[jF]
end
mutual
def o2(n:aa):Nat :=
 match n with
 |.mk a b c d e f g h i j ag cC=>a.length+2+kI ag
def kI:List aa->Nat
 |[]=>0
 |k::ag=>o2 k+kI ag
end
theorem AT(n:aa):o2 n=n.name.length+2+kI n.J:=by cases n;rw[o2]
theorem PJ:∀{l:List aa} {k:aa},k∈l->o2 k<=kI l
 |x::r,k,h=>by rw[kI];rcases atu.1 h with e|e;subst e;omega;have:=PJ e;omega
theorem Yh:∀(l:List aa),2*l.length<=kI l
 |[]=>by simp[kI]
 |x::r=>by rw[kI,ath];have:=Yh r;have:=AT x;omega
theorem JV:∀(l r:List aa),kI (l++r)=kI l+kI r
 |[],r=>by simp[kI]
 |x::l,r=>by rw[auh,kI,kI,JV l r];omega
mutual
theorem JW(o:f1)(ap:List (as8×aa))(n:aa)(path id:as8)(cA bW:Nat)(s:k8):s.aC.length<(jF o ap n path id cA bW s).aC.length/\(jF o ap n path id cA bW s).aC.length<=s.aC.length+o2 n/\(∀j,j<s.aC.length->(jF o ap n path id cA bW s).be j=s.be j):=by
 match n with
 |.mk a b c d e f g h i j ag cC =>
  rw[jF,o2];have:=Gt o ap ag (k4 1 ag).1 s.aC.length path bW (mH s id cA ⟨[0],h,o.c4,2,s.aC.length,.e3⟩ ⟨[1],(rl ap (.mk a b c d e f g h i j ag cC) path bW).n4,o.c4,2,cA,.e3⟩) (by simp[mH]);have aj:(mH s id cA ⟨[0],h,o.c4,2,s.aC.length,.e3⟩ ⟨[1],(rl ap (.mk a b c d e f g h i j ag cC) path bW).n4,o.c4,2,cA,.e3⟩).aC.length=s.aC.length+1:=by simp[mH]
  rw[aj]at this;refine⟨by omega,by omega,λj ad=>?_⟩;rw[this.2.2.1 j asZ asZ];simp only[mH];rw[as9 asZ]
theorem Gt(o:f1)(ap:List (as8×aa))(ag:List aa)(aX:List as8)(d8:Nat)(path:as8)(bW:Nat)(s:k8)(ha:d8<s.aC.length):s.aC.length<=(iQ o ap ag aX d8 path bW s).aC.length/\(iQ o ap ag aX d8 path bW s).aC.length<=s.aC.length+kI ag/\(∀j,j<s.aC.length->j≠d8->(iQ o ap ag aX d8 path bW s).be j=s.be j)/\((iQ o ap ag aX d8 path bW s).be d8).length<=(s.be d8).length+ag.length:=by
 match ag with
 |[]=>rw[iQ];simp[kI]
 |k::ag =>
  rw[iQ,kI,ath];split
  ·split
   ·have h1:=JW o ap k (ng path k.name bW) (fj (aX.headD [])) d8 (bW+1) s;have A:=Gt o ap ag aX.tail d8 path bW (hR (jF o ap k (ng path k.name bW) (fj (aX.headD [])) d8 (bW+1) s) d8 ⟨fj (aX.headD []),k.n4,o.c4,2,s.aC.length,.e3⟩) (by simp only[hR];omega);have Z:=h1.2.2 d8 ha;have aj:(hR (jF o ap k (ng path k.name bW) (fj (aX.headD [])) d8 (bW+1) s) d8 ⟨fj (aX.headD []),k.n4,o.c4,2,s.aC.length,.e3⟩).aC.length=(jF o ap k (ng path k.name bW) (fj (aX.headD [])) d8 (bW+1) s).aC.length:=rfl;have G:((hR (jF o ap k (ng path k.name bW) (fj (aX.headD [])) d8 (bW+1) s) d8 ⟨fj (aX.headD []),k.n4,o.c4,2,s.aC.length,.e3⟩).be d8).length=(s.be d8).length+1:=by simp only[hR,aum];rw[atf,Z];rfl
    refine⟨by omega,by omega,λj ad a6=>?_,by omega⟩;rw[A.2.2.1 j asZ a6];simp only[hR];rw[as9 a6,h1.2.2 j ad]
   have A:=Gt o ap ag aX.tail d8 path bW (hR s d8 ⟨fj (aX.headD []),k.n4,o.c4,0,-1,.e3⟩) (by simp only[hR];omega);have aj:(hR s d8 ⟨fj (aX.headD []),k.n4,o.c4,0,-1,.e3⟩).aC.length=s.aC.length:=rfl;have G:((hR s d8 ⟨fj (aX.headD []),k.n4,o.c4,0,-1,.e3⟩).be d8).length=(s.be d8).length+1:=by simp only[hR,aum];rw[atf];rfl
   refine⟨by omega,by omega,λj ad a6=>?_,by omega⟩;rw[A.2.2.1 j asZ a6];simp only[hR];rw[as9 a6]
  have A:=Gt o ap ag aX.tail d8 path bW s ha;refine⟨by omega,by omega,λj ad a6=>A.2.2.1 j ad a6,by omega⟩
end
abbrev rm:bP->D:=λ_=>.fn (.func 229) [] []
abbrev nh(s:k8)(vs:Nat->Value):bF:=iP vs (λi=>(s.be i).map (jC rm)) s.aC.length
inductive y7:aa->Prop
 |mk (n:aa) (h1:(k4 1 n.J).1.length=n.J.length) (A:∀x∈(k4 1 n.J).1,x.length<5000) (Z:∀k∈n.J,y7 k):y7 n
theorem ak'(aC:List (as8×Int))(vs:Nat->Value)(id:as8)(p:Nat)(v:Value):eT aC vs (λ_=>0) (λ_=>0)++[nH id (p:Nat) v 0 0]=eT (aC++[(id,(p:Int))]) (λj=>if j=aC.length then v else vs j) (λ_=>0) (λ_=>0):=by unfold eT;rw[List.mapIdx_append];congr 1;apply auu;intro j;simp only[aub];rcases ats j aC.length with ad|ad;rw[as9 asZ];rw[atj asZ];rfl;simp
variable{v:Value}
theorem ala{s:k8}{vs:Nat->Value}{id:as8}{cA:Nat}{a b:bP}:∀k o,nh (mH s id cA a b) (λj=>if j=s.aC.length then v else vs j) k=some o->10000<=k/\((k=10000+s.aC.length/\o=.row v [jC rm a,jC rm b] 12 234)\/(k≠10000+s.aC.length/\nh s vs k=some o)):=λk o h=>by
 unfold nh iP at h;have aj:(mH s id cA a b).aC.length=s.aC.length+1:=by simp[mH]
 rw[aj]at h;split at h
 ·rename_i Y;refine⟨Y.1,?_⟩;by_cases f_:k=10000+s.aC.length
  ·subst f_;rw[auo]at h;dsimp only at h;rw[as_ rfl]at h;refine .inl ⟨rfl,?_⟩;have:=(at3 h).symm;rw[this];simp[mH]
  refine .inr ⟨f_,?_⟩;unfold nh iP;dsimp only at h;rw[as9 asZ]at h;rw[as_ asZ,<-h];simp only[mH];rw[as9 asZ]
 cases h
variable{aC:List (as8×Int)}{i:Nat}
theorem alb{vs:Nat->Value}(h:i<aC.length):(eT aC vs (λ_=>0) (λ_=>0)).set i (nH aC[i].1 aC[i].2 v 0 0)=eT aC (λj=>if j=i then v else vs j) (λ_=>0) (λ_=>0):=by apply auu;intro j;rw[ave];by_cases d6:i=j;subst d6;rw[as_ rfl,as_ (by rw[h_];exact h),CV h,as_ rfl];rw[as9 d6];unfold eT;simp only[aub];rw[as9 (λh=>d6 h.symm)]
theorem alc{s:k8}{vs:Nat->Value}{x:bP}:∀k o,nh (hR s i x) (λj=>if j=i then v else vs j) k=some o->10000<=k/\((k=10000+i/\o=.row v ((s.be i).map (jC rm)++[jC rm x]) 12 234)\/(k≠10000+i/\lV (nh s vs) (10000+i) k=some o)):=λk o h=>by
 unfold nh iP at h;have aj:(hR s i x).aC.length=s.aC.length:=rfl;rw[aj]at h;split at h
 ·rename_i Y;refine⟨Y.1,?_⟩;by_cases f_:k=10000+i
  ·subst f_;rw[auo]at h;dsimp only at h;rw[as_ rfl]at h;refine .inl ⟨rfl,?_⟩;have:=(at3 h).symm;rw[this];simp[hR]
  refine .inr ⟨f_,?_⟩;unfold lV nh iP;dsimp only at h;rw[as9 asZ]at h;rw[auZ f_,as_ Y,<-h];simp only[hR];rw[as9 asZ];rfl
 cases h
theorem ald(aW:dc B)(o:f1)(hw:aa)(bU bE dJ cT:Nat)(ap:List (as8×aa)):∀(m:Nat) (n:aa) (path id:as8) (cA bW:Nat) (s:k8) (vs:Nat->Value) (b4:Value),o2 n<=m->y7 n->(s.aC.length+o2 n<=1000000/\path.length+bW+kI n.J<=1000000)->
  cZ B 181 [aE n,.O path,.O id,u (cA:Nat),u (bW:Nat),.a8 1 [.box 4110 dJ 0] 0 0,.a8 1 [.a8 26 [dE o hw bU bE] 0 0] 0 0,.box 4 cT 0] (cU [(4103,.mp bU (br aE ap)),(4104,.mp bE (br a_ [])),(4,.box cT [.fn (.func 181) [] [.a8 1 [.box 4110 dJ 0] 0 0,.a8 1 [.a8 26 [dE o hw bU bE] 0 0] 0 0,.box 4 cT 0]]),(4110,.box dJ [.bool true,.al b4,u 0,u 0,u 0]),(4111,.row b4 (eT s.aC vs (λ_=>0) (λ_=>0)) 5 249)] (nh s vs))
   λd aO=>∃tl gy,d=.bo []/\aO=cU [(4103,.mp bU (br aE ap)),(4104,.mp bE (br a_ [])),(4,.box cT [.fn (.func 181) [] [.a8 1 [.box 4110 dJ 0] 0 0,.a8 1 [.a8 26 [dE o hw bU bE] 0 0] 0 0,.box 4 cT 0]]),(4110,.box dJ [.bool true,.al tl,u 0,u 0,u 0]),(4111,.row tl (eT (jF o ap n path id cA bW s).aC gy (λ_=>0) (λ_=>0)) 5 249)] (nh (jF o ap n path id cA bW s) gy):=by
 intro m
 induction m with
 |zero=>intro n path id cA bW s vs b4 hm _ _;rw[AT]at hm;omega
 |succ m aY =>
 intro n path id cA bW s vs b4 hm kb F;have cH:=AT n;obtain⟨_,jD,xA,wX⟩:=kb;refine yf Tryz.func181 Tryz.ntmps181 λU=>?_;refine X.jP [(0,aE n),(1,.O path),(2,.O id),(3,u (cA:Nat)),(4,u (bW:Nat)),(5,.a8 1 [.box 4110 dJ 0] 0 0),(6,.a8 1 [.a8 26 [dE o hw bU bE] 0 0] 0 0),(7,.box 4 cT 0)] (cU [(4103,.mp bU (br aE ap)),(4104,.mp bE (br a_ [])),(4,.box cT [.fn (.func 181) [] [.a8 1 [.box 4110 dJ 0] 0 0,.a8 1 [.a8 26 [dE o hw bU bE] 0 0] 0 0,.box 4 cT 0]]),(4110,.box dJ [.bool true,.al b4,u 0,u 0,u 0]),(4111,.row b4 (eT s.aC vs (λ_=>0) (λ_=>0)) 5 249)] (nh s vs)) (fM.same cP λk o h=>h) ?_;refine go ?_;intro cF
 (conv=>whnf)
 refine c1 ?_;refine iG 8 8 12 (aE n) ?_;refine go ?_;refine dN (af.rJ aM 4111 rfl rfl rfl rfl) ?_;rw[h_];intro qt
 (conv=>whnf)
 refine go ?_
 refine X.jP [(1,.O path),(2,.O id),(3,u (cA:Nat)),(4,u (bW:Nat)),(5,.a8 1 [.box 4110 dJ 0] 0 0),(6,.a8 1 [.a8 26 [dE o hw bU bE] 0 0] 0 0),(7,.box 4 cT 0),(8,.a8 12 [aE n] 0 0),(13,u (s.aC.length:Nat)),(14,.box 14 qt 0),(31,.bool (decide ((bW:Int)>1)))]
  (cU [(4103,.mp bU (br aE ap)),(4104,.mp bE (br a_ [])),(4110,.box dJ [.bool true,.al b4,u 0,u 0,u 0]),(4111,.row b4 (eT s.aC vs (λ_=>0) (λ_=>0)) 5 249),(4,.box cT [.fn (.func 181) [] [.a8 1 [.box 4110 dJ 0] 0 0,.a8 1 [.a8 26 [dE o hw bU bE] 0 0] 0 0,.box 4 cT 0]]),(14,.box qt (aE n).cells)] (nh s vs)) (xB [(4103,4103),(4104,4104),(4110,4110),(4111,4111),(4,4),(14,14)] (gG _ _ _)) ?_
 refine PI (α:=Unit) (λ_=>True) [1,2,3,4,5,6,7,8,13,14] [4103,4104,4110,4111,4] (λ_=>[]) (λ_=>[(14,.box qt (aE (rl ap n path bW)).cells)]) (λ_=>nh s vs) ?_ ?_
 ·refine X.qZ rfl (gG _ _ _) λiE=>?_;refine cb (t:=decide ((bW:Int)>1)) ?_ ?_<;>intro hc
  ·refine go ?_;have arH:aU B 24 [.O path,.int .u8 47] (u (y6 path)):=TP (B:=B) path 47 asZ;have xl:=ak9 path;have ale:JU path=path.take (if y6 path>0 then y6 path else 0).toNat:=rfl;have uK:rl ap n path bW=g2 ap (JU path):=by unfold rl;rw[as_ (by have:=atw hc;omega)]
   generalize y6 path=V at*;generalize JU path=JX at*;refine' eJ [(4103,.mp bU (br aE ap)),(4104,.mp bE (br a_ [])),(4110,.box dJ [.bool true,.al b4,u 0,u 0,u 0]),(4111,.row b4 (eT s.aC vs (λ_=>0) (λ_=>0)) 5 249),(4,.box cT [.fn (.func 181) [] [.a8 1 [.box 4110 dJ 0] 0 0,.a8 1 [.a8 26 [dE o hw bU bE] 0 0] 0 0,.box 4 cT 0]]),(14,.box qt (aE n).cells)] 0 (λy:Nat=>[_,_,_,_,_,_,_,_,.O JX,aE (g2 ap JX),.any]) (λy=>[(10,14,some (.box qt (aE (g2 ap JX)).cells))]) [0,1,3,7,0,0,32,96,240,511,1023] [(10,14)] ?_ ?_
   rotate_left 8
   ·refine dw ?_;refine⟨λy=>.inl ?_,dw ?_⟩
    ·(conv=>whnf)
     refine⟨λ_=>?_,?_⟩
     ·split<;>omega
     (conv=>whnf)
     rw[ale];exact E
    refine bJ (λy=>af.oY 4103 (dV:=9) (ek:=44) (enc:=aE) (l:=ap) (k:=JX) (V:=AG) rfl rfl rfl rfl rfl as7 (λw C=>Jq w C) (cl y)) ?_;refine Go.bS.cj.vs ?_;exact trivial
   intro _
   (conv=>whnf)
   refine go ?_;rw[uK];exact⟨(),ai,pl [(4103,4103),(4104,4104),(4110,4110),(4111,4111),(4,4),(14,14)] (gG _ _ _)⟩
  refine go ?_;have uK:rl ap n path bW=n:=by unfold rl;rw[as9 (by have:=atl hc;omega)]
  rw[uK];exact⟨(),ai,pl [(4103,4103),(4104,4104),(4110,4110),(4111,4111),(4,4),(14,14)] (gG _ _ _)⟩
 intro _ _;refine go ?_;refine X.qZ rfl (gG _ _ _) λiE=>?_;have Pt:=lg.mk<|CL (B:=B) o hw n bU bE [0] (s.aC.length:Nat) 2 (by rw[show decide ((0:Int)<=((s.aC.length:Nat):Int))=true from aug asZ];rfl)
 have Pu:=lg.mk<|CL (B:=B) o hw (rl ap n path bW) bU bE [1] (cA:Nat) 2 (by rw[show decide ((0:Int)<=((cA:Nat):Int))=true from aug asZ];rfl)
 generalize nT:rl ap n path bW=ab at*
 refine' eJ [(4103,.mp bU (br aE ap)),(4104,.mp bE (br a_ [])),(4110,.box dJ [.bool true,.al b4,u 0,u 0,u 0]),(4111,.row b4 (eT s.aC vs (λ_=>0) (λ_=>0)) 5 249),(4,.box cT [.fn (.func 181) [] [.a8 1 [.box 4110 dJ 0] 0 0,.a8 1 [.a8 26 [dE o hw bU bE] 0 0] 0 0,.box 4 cT 0]]),(14,.box qt (aE ab).cells)] (α:=Nat×Option Addr×Nat×Nat) (0,none,0,0)
  (λy=>[_,_,_,_,_,_,_,_,_,_,_,_,_,_,_,.al (.slice (some ⟨y.1,0,none⟩) 2 2),nH id (cA:Nat) (.slice (some ⟨y.1,0,none⟩) 2 2) 0 0,.Q .dR 5 [nH id (cA:Nat) (.slice (some ⟨y.1,0,none⟩) 2 2) 0 0],.al (.slice y.2.1 y.2.2.1 y.2.2.2),_,_,.any])
  (λy=>[(15,7500,some (.row (.slice (some ⟨y.1,0,none⟩) 2 2) [jC rm ⟨[0],n.n4,o.c4,2,(s.aC.length:Nat),.e3⟩,jC rm ⟨[1],ab.n4,o.c4,2,(cA:Nat),.e3⟩] 12 234)),(18,4111,none),(18,60,some (.row (.slice y.2.1 y.2.2.1 y.2.2.2) (eT s.aC vs (λ_=>0) (λ_=>0)++[nH id (cA:Nat) (.slice (some ⟨y.1,0,none⟩) 2 2) 0 0]) 5 249)),(21,4110,some (.box dJ [.bool true,.al (.slice y.2.1 y.2.2.1 y.2.2.2),u 0,u 0,u 0]))]) [0,0,2,6,14,0,0,0,0,0,896,0,0,0,16256,32640,65504,131040,262142,524287,1048575,2097151] [(15,7500),(18,4111),(18,60),(21,4110)] ?_ ?_
 rotate_left 17
 ·refine dw ?_;refine⟨λy=>.inl ?_,dw ?_⟩
  ·(conv=>whnf)
   refine⟨_,_,λ_=>Pt.cn,i_,?_⟩;exact E
  refine⟨λy=>.inl ?_,dw ?_⟩
  ·(conv=>whnf)
   refine⟨_,_,λ_=>Pu.cn,i_,?_⟩;exact E
  refine bJ (λy=>af.MG aM (q:=7500) rfl rfl rfl as2 as2 rfl (show _/\_/\_ from⟨rfl,by simp[tC,iO,ou,D.cells,D.jl,D.one],λb=>dT (b,y.2)⟩)) ?_;refine bJ (λy=>af.oJ aM 4111 rfl rfl rfl as6 rfl rfl rfl as1 (by rw[h_];show(_+1)*64<=_;omega) (by rw[h_];show _+1<=_;omega) (λbQ gQ cap=>dT (y.1,bQ,gQ,cap))) ?_;refine Go.bS.cj.vs ?_;exact trivial
 rintro⟨sl,bQ,gQ,cap⟩
 (conv=>whnf)
 obtain⟨eW,hq⟩:∃eW,mH s id cA ⟨[0],n.n4,o.c4,2,(s.aC.length:Nat),.e3⟩ ⟨[1],ab.n4,o.c4,2,(cA:Nat),.e3⟩=eW:=⟨_,rfl⟩;have alf:jF o ap n path id cA bW s=iQ o ap n.J (k4 1 n.J).1 s.aC.length path bW eW:=by rw[ak_,nT,hq]
 rw[alf];have Yi:eW.aC=s.aC++[(id,(cA:Int))]:=by rw[<-hq];rfl
 have ku:eW.aC.length=s.aC.length+1:=by rw[Yi];simp
 have alg:(eW.be s.aC.length).length=2:=by rw[<-hq];simp[mH]
 have yC:=ala (s:=s) (vs:=vs) (id:=id) (cA:=cA) (a:=⟨[0],n.n4,o.c4,2,(s.aC.length:Nat),.e3⟩) (b:=⟨[1],ab.n4,o.c4,2,(cA:Nat),.e3⟩) (v:=.slice (some ⟨sl,0,none⟩) 2 2);rw[hq]at yC;have iz:=ak' s.aC vs id cA (.slice (some ⟨sl,0,none⟩) 2 2);rw[<-Yi]at iz;obtain⟨lD,Yj⟩:∃lD,(λj=>if j=s.aC.length then Value.slice (some ⟨sl,0,none⟩) 2 2 else vs j)=lD:=⟨_,rfl⟩;rw[Yj]at yC iz
 refine X.jP [(1,.O path),(4,u (bW:Nat)),(5,.a8 1 [.box 4110 dJ 0] 0 0),(6,.a8 1 [.a8 26 [dE o hw bU bE] 0 0] 0 0),(7,.box 4 cT 0),(8,.a8 12 [aE n] 0 0),(13,u (s.aC.length:Nat))]
  (cU [(4103,.mp bU (br aE ap)),(4104,.mp bE (br a_ [])),(4110,.box dJ [.bool true,.al (.slice bQ gQ cap),u 0,u 0,u 0]),(4111,.row (.slice bQ gQ cap) (eT eW.aC lD (λ_=>0) (λ_=>0)) 5 249),(4,.box cT [.fn (.func 181) [] [.a8 1 [.box 4110 dJ 0] 0 0,.a8 1 [.a8 26 [dE o hw bU bE] 0 0] 0 0,.box 4 cT 0]])] (nh eW lD))
  (wV [(4103,4103),(4104,4104),(4110,4110),(4111,60),(4,4)] (10000+s.aC.length) 7500 asZ (gG _ _ _) yC (fY:=⟨rfl,rfl,rfl,rfl,rfl,rfl,rfl,rX iz,rfl,bb⟩)) ?_
 have Ah:=Yh n.J;have m':=ajX (B:=B) aW 1 n.J asZ λk Y=>by have:=PJ Y;have:=AT k;omega
 generalize Yk:(k4 1 n.J).1=qz at*;generalize Value.slice bQ gQ cap=nK at*;clear Pt Pu yC iz Yj;refine go ?_;refine bp m' ?_;have alh:(n.J.map enc).length=n.J.length:=atb _
 have ali:∀i (h:i<n.J.length),(n.J.map enc)[(i:Int).toNat]?=some (aE n.J[i]):=λi h=>by
  rw[atE,atA,ata h];simp[rQ]
 generalize n.J.map enc=alj at*
 have alk:∀(i:Nat) (x:as8),qz[i]?=some x->(aN qz)[(i:Int).toNat]?=some (.O x):=λi x h=>by
  rw[atE];simp[aN,h]
 have arI:(aN qz).length=qz.length:=by simp[aN]
 generalize aN qz=JY at*;rw[alh]
 refine z8 (λx:Nat×Value×(Nat->Value)=>x.1<=n.J.length) [1,4,5,6,7,13,15,70,71] [4103,4104,4] (λx=>[(72,u x.1)])
  (λx=>[(4110,.box dJ [.bool true,.al x.2.1,u 0,u 0,u 0]),(4111,.row x.2.1 (eT (iQ o ap (n.J.take x.1) qz s.aC.length path bW eW).aC x.2.2 (λ_=>0) (λ_=>0)) 5 249)])
  (λx=>nh (iQ o ap (n.J.take x.1) qz s.aC.length path bW eW) x.2.2) (λx=>n.J.length-x.1) (0,nK,lD) (atq _) ?_
  (h1:=by rw[avu,iQ];exact xB [(4103,4103),(4104,4104),(4,4),(4110,4110),(4111,4111)] (gG _ _ _))
 rintro⟨i,y8,wd⟩ hi;dsimp only at hi⊢;have qW:=Gt o ap (n.J.take i) qz s.aC.length path bW eW asZ
 have pe:∀(h:i<n.J.length),iQ o ap (n.J.take (i+1)) qz s.aC.length path bW eW=AS o ap n.J[i] ((qz[i]?).getD []) s.aC.length path bW (iQ o ap (n.J.take i) qz s.aC.length path bW eW):=λh=>by
  rw[atc h,Yg,atv,avQ asZ]
 have EE:kI (n.J.take i)<=kI n.J:=by
  have h:=JV (n.J.take i) (n.J.drop i);rw[auz]at h;omega
 have BV:∀(h:i<n.J.length),kI (n.J.take i)+o2 n.J[i]<=kI n.J:=λh=>by
  have A:=JV (n.J.take (i+1)) (n.J.drop (i+1));rw[auz,atc h,JV]at A;simp only[kI]at A;omega
 generalize jn:iQ o ap (n.J.take i) qz s.aC.length path bW eW=gl at*;refine go ?_;refine cb (t:=decide ((i:Int)<(n.J.length:Nat))) ?_ ?_<;>intro hc
 ·have cz:i<n.J.length:=by have:=atw hc;omega
  have wW:n.J[i]∈n.J:=ate cz;have lM:=ali i cz;have arJ:=BV cz;have C2:=pe cz;have Jw:=wX _ wW;have arK:=AT n.J[i];obtain⟨aX,PK⟩:∃aX,qz[i]?=some aX:=⟨_,ata asZ⟩;have arL:aX.length<5000:=xA aX (atr PK);have alm:=alk i aX PK;rw[PK]at C2;replace C2:iQ o ap (n.J.take (i+1)) qz s.aC.length path bW eW=AS o ap n.J[i] aX s.aC.length path bW gl:=C2;generalize n.J[i]=k at*;have aln:=Fb (B:=B) 1 k ((bW+1:Nat):Int);refine go ?_;refine bD (aE k) lM ?_;intro O0
  (conv=>whnf)
  refine c1 ?_;refine iG 18 18 12 (aE k) ?_;refine go ?_;refine bp aln ?_;refine cb (t:=!(lo 1 k ((bW+1:Nat):Int))) ?_ ?_<;>intro bs
  ·have qq:AS o ap k aX s.aC.length path bW gl=gl:=by unfold AS;rw[as9 (by simpa using bs)]
   rw[qq]at C2;refine go ?_
   refine yk (i+1,y8,wd) cz (by
    dsimp only;rw[C2]
    exact xB [(4103,4103),(4104,4104),(4,4),(4110,4110),(4111,4111)] (gG _ _ _))
  refine go ?_;refine PI (α:=Unit) (λ_=>True) [1,4,5,6,7,13,15,17,18,70,71,72] [4103,4104,4,4110,4111] (λ_=>[(19,.O (ng path k.name bW))]) (λ_=>[]) (λ_=>nh gl wd) ?_ ?_
  ·refine cb (t:=decide ((bW:Int)>1)) ?_ ?_<;>intro dx
   ·have PL:ng path k.name bW=path++[47]++k.name:=by unfold ng;rw[as_ (by have:=atw dx;omega)]
    refine go ?_;rw[PL];exact⟨(),ai,xB [(4103,4103),(4104,4104),(4,4),(4110,4110),(4111,4111)] (gG _ _ _)⟩
   have PL:ng path k.name bW=k.name:=by unfold ng;rw[as9 (by have:=atl dx;omega)]
   refine go ?_;rw[PL];exact⟨(),ai,xB [(4103,4103),(4104,4104),(4,4),(4110,4110),(4111,4111)] (gG _ _ _)⟩
  intro _ _
  have eA:(ng path k.name bW).length<=path.length+k.name.length+1:=by
   unfold ng;split
   ·simp;omega
   omega
  generalize alo:ng path k.name bW=below at*;have alp:=afB (B:=B) aW aX asZ;refine go ?_;refine bD (.O aX) alm ?_;refine bp alp ?_;obtain⟨h7,qq⟩:∃h7,(if k.kind=0 then jF o ap k below (fj aX) s.aC.length (bW+1) gl else gl)=h7:=⟨_,rfl⟩;obtain⟨eU,JZ⟩:∃eU:Int,(if k.kind=0 then(gl.aC.length:Int)else -1)=eU:=⟨_,rfl⟩
  refine PI (α:=Value×(Nat->Value)) (λ_=>True) [1,4,5,6,7,13,15,17,18,19,20,70,71,72] [4103,4104,4] (λ_=>[(22,u eU)])
   (λx=>[(4110,.box dJ [.bool true,.al x.1,u 0,u 0,u 0]),(4111,.row x.1 (eT h7.aC x.2 (λ_=>0) (λ_=>0)) 5 249)]) (λx=>nh h7 x.2) ?_ ?_
  ·refine cb (t:=k.kind==0) ?_ ?_<;>intro dx
   ·have jT:k.kind=0:=by simpa using dx
    rw[as_ jT]at qq JZ;refine go ?_;refine dN (af.rJ aM 4111 rfl rfl rfl rfl) ?_;rw[h_];refine .inr (af.y2 rfl [aE k,.O below,.O (fj aX),u (s.aC.length:Nat),u ((bW+1:Nat):Int),.a8 1 [.box 4110 dJ 0] 0 0,.a8 1 [.a8 26 [dE o hw bU bE] 0 0] 0 0,.box 4 cT 0] (qy [(4103,.mp bU (br aE ap)),(4104,.mp bE (br a_ [])),(4,.box cT [.fn (.func 181) [] [.a8 1 [.box 4110 dJ 0] 0 0,.a8 1 [.a8 26 [dE o hw bU bE] 0 0] 0 0,.box 4 cT 0]]),(4110,.box dJ [.bool true,.al y8,u 0,u 0,u 0]),(4111,.row y8 (eT gl.aC wd (λ_=>0) (λ_=>0)) 5 249)]) (PH (gG _ _ _)) (aY k below (fj aX) s.aC.length (bW+1) gl wd y8 asZ Jw asZ) ?_ ?_)
    ·exact i_
    rintro d aO ⟨tl,gy,rfl,rfl⟩;refine⟨_,E,?_⟩;rw[qq]
    (conv=>whnf)
    refine go ?_;exact⟨(tl,gy),ai,xB [(4103,4103),(4104,4104),(4,4),(4110,4110),(4111,4111)] (gG _ _ _) (sD:=λq o G ah=>JT G ah)⟩
   have jT:¬k.kind=0:=by simpa using dx
   rw[as9 jT]at qq JZ;subst qq;refine go ?_;exact⟨(y8,wd),ai,xB [(4103,4103),(4104,4104),(4,4),(4110,4110),(4111,4111)] (gG _ _ _)⟩
  rintro⟨y9,rn⟩ _
  have PM:s.aC.length<h7.aC.length:=by
   rw[<-qq];split
   ·have:=(JW o ap k below (fj aX) s.aC.length (bW+1) gl).1;omega
   omega
  have arM:h7.aC.length<=1000000/\(h7.be s.aC.length).length<=1000000:=by
   have bH:=qW.2.2.2;rw[alg,atv]at bH;have PN:i<=n.J.length:=hi;rw[<-qq];split
   ·have alq:=JW o ap k below (fj aX) s.aC.length (bW+1) gl;rw[alq.2.2 s.aC.length asZ];omega
   omega
  have Yl:iQ o ap (n.J.take (i+1)) qz s.aC.length path bW eW=hR h7 s.aC.length ⟨fj aX,k.n4,o.c4,if k.kind=0 then 2 else 0,eU,.e3⟩:=by
   rw[C2];unfold AS
   rw[as_ (by simpa using bs),alo,<-qq,<-JZ];split<;>rfl
  obtain⟨gJ,dm⟩:∃gJ:Int,(if k.kind=0 then(2:Int)else 0)=gJ:=⟨_,rfl⟩;rw[dm]at Yl;have Px:=lg.mk<|CL (B:=B) o hw k bU bE (fj aX) eU gJ (by rw[<-dm,<-JZ];split<;>simp<;>omega)
  refine X.B1 (f0:=.row (rn s.aC.length) ((h7.be s.aC.length).map (jC rm)) 12 234) 7500 (10000+s.aC.length) rfl (gG _ _ _) (Pz PM) rfl as2 λGl=>?_;refine go ?_
  refine' eJ [(7500,.row (rn s.aC.length) ((h7.be s.aC.length).map (jC rm)) 12 234),(4103,.mp bU (br aE ap)),(4104,.mp bE (br a_ [])),(4,.box cT [.fn (.func 181) [] [.a8 1 [.box 4110 dJ 0] 0 0,.a8 1 [.a8 26 [dE o hw bU bE] 0 0] 0 0,.box 4 cT 0]]),(4110,.box dJ [.bool true,.al y9,u 0,u 0,u 0]),(4111,.row y9 (eT h7.aC rn (λ_=>0) (λ_=>0)) 5 249)] 0
   (λy=>[_,_,_,_,_,_,_,_,ou (fj aX) k.n4 o.c4 gJ eU .bj,.box 23 y 0,.any]) (λy=>[(9,23,some (.box y [.O [],u 0,u 0,u 0,u 0,u 0,u 0,.O [],u 0,.al .nilFunc,.bj,.bj])),(10,23,some (.box y (ou (fj aX) k.n4 o.c4 gJ eU .bj).cells))]) [0,0,0,0,0,30,0,0,255,0,1023] [(9,23),(10,23)] ?_ ?_
  rotate_left 8
  ·refine dw ?_;refine⟨λy=>.inl ?_,dw ?_⟩
   ·(conv=>whnf)
    refine⟨_,_,λ_=>Px.cn,i_,?_⟩;exact E
   refine bJ (λy=>af.EH rfl [.a8 26 [dE o hw bU bE] 0 0,ou (fj aX) k.n4 o.c4 gJ eU .bj,aE k,.O below] [(4104,4104)] (by exact r0) (XW o hw k bU bE (fj aX) below k.n4 o.c4 gJ eU) rfl (by exact i_) (cl y)) ?_;refine wL ?_;exact trivial
  intro Ym
  (conv=>whnf)
  refine go ?_;have lx:=CV (vs:=rn) (aZ:=λ_=>0) (ly:=λ_=>0) PM
  refine' eJ [(7500,.row (rn s.aC.length) ((h7.be s.aC.length).map (jC rm)) 12 234),(4103,.mp bU (br aE ap)),(4104,.mp bE (br a_ [])),(4,.box cT [.fn (.func 181) [] [.a8 1 [.box 4110 dJ 0] 0 0,.a8 1 [.a8 26 [dE o hw bU bE] 0 0] 0 0,.box 4 cT 0]]),(4110,.box dJ [.bool true,.al y9,u 0,u 0,u 0]),(4111,.row y9 (eT h7.aC rn (λ_=>0) (λ_=>0)) 5 249),(23,.box Ym (ou (fj aX) k.n4 o.c4 gJ eU .bj).cells)] (α:=Option Addr×Nat×Nat) (none,0,0)
   (λy=>[_,_,_,_,_,_,_,_,_,_,_,_,_,_,.Q .dR 12 [ou (fj aX) k.n4 o.c4 gJ eU .bj],.al (.slice y.1 y.2.1 y.2.2),_,_,.any])
   (λy=>[(15,7500,none),(15,139,some (.row (.slice y.1 y.2.1 y.2.2) (((h7.be s.aC.length).map (jC rm))++[ou (fj aX) k.n4 o.c4 gJ eU .bj]) 12 234)),
    (18,4111,some (.row y9 ((eT h7.aC rn (λ_=>0) (λ_=>0)).set s.aC.length (nH h7.aC[s.aC.length].1 h7.aC[s.aC.length].2 (.slice y.1 y.2.1 y.2.2) 0 0)) 5 249))]) [0,1,3,7,0,0,32,96,224,0,992,2016,4064,0,8192,32736,65535,131071,262143] [(15,7500),(15,139),(18,4111)] ?_ ?_
  rotate_left 16
  ·refine dw ?_;refine bJ (λy=>af.ej aM 4111 rfl rfl rfl rfl rfl rfl rfl asZ (by rw[h_];omega) (cl y)) ?_;refine bJ (λy=>af.jr aM 4111 (i:=s.aC.length) rfl rfl (by rw[h_];omega) rfl rfl rfl as2 (cl y)) ?_;refine bJ (λy=>af.n1 aM 4111 (i:=s.aC.length) (j:=2) rfl rfl rfl lx (cl y)) ?_;refine bJ (λy=>af.oJ aM 7500 rfl rfl rfl as6 rfl rfl rfl as1 (by rw[atb];show(_+1)*144<=_;omega) (by rw[atb];show _+1<=_;omega) (λbQ gQ cap=>dT (bQ,gQ,cap))) ?_;refine bJ (λy=>af.ej aM 4111 rfl rfl rfl rfl rfl rfl rfl asZ (by rw[h_];omega) (cl y)) ?_;refine bJ (λy=>af.jr aM 4111 (i:=s.aC.length) rfl rfl (by rw[h_];omega) rfl rfl rfl as2 (cl y)) ?_;refine bJ (λy=>af.vh aM 4111 (i:=s.aC.length) (j:=2) rfl rfl rfl rfl lx as2 rfl (cl y)) ?_;exact trivial
  rintro⟨bQ,gQ,cap⟩
  (conv=>whnf)
  have l_:=alb (vs:=rn) (v:=.slice bQ gQ cap) PM;have alr:=alc (s:=h7) (vs:=rn) (i:=s.aC.length) (x:=⟨fj aX,k.n4,o.c4,gJ,eU,.e3⟩) (v:=.slice bQ gQ cap)
  refine X.jP [(1,.O path),(4,u (bW:Nat)),(5,.a8 1 [.box 4110 dJ 0] 0 0),(6,.a8 1 [.a8 26 [dE o hw bU bE] 0 0] 0 0),(7,.box 4 cT 0),(13,u (s.aC.length:Nat)),(15,.Q .none 1 JY),(70,.Q .none 12 alj),(71,u (n.J.length:Nat)),(72,u (i:Nat))]
   (cU [(4103,.mp bU (br aE ap)),(4104,.mp bE (br a_ [])),(4,.box cT [.fn (.func 181) [] [.a8 1 [.box 4110 dJ 0] 0 0,.a8 1 [.a8 26 [dE o hw bU bE] 0 0] 0 0,.box 4 cT 0]]),(4110,.box dJ [.bool true,.al y9,u 0,u 0,u 0]),(4111,.row y9 (eT (hR h7 s.aC.length ⟨fj aX,k.n4,o.c4,gJ,eU,.e3⟩).aC (λj=>if j=s.aC.length then .slice bQ gQ cap else rn j) (λ_=>0) (λ_=>0)) 5 249)] (nh (hR h7 s.aC.length ⟨fj aX,k.n4,o.c4,gJ,eU,.e3⟩) (λj=>if j=s.aC.length then .slice bQ gQ cap else rn j)))
   (wV (f0:=.row (.slice bQ gQ cap) ((h7.be s.aC.length).map (jC rm)++[jC rm ⟨fj aX,k.n4,o.c4,gJ,eU,.e3⟩]) 12 234) [(4103,4103),(4104,4104),(4,4),(4110,4110),(4111,4111)] (10000+s.aC.length) 139 asZ (CS (gG _ _ _) _) alr (fY:=⟨rfl,rfl,rfl,rfl,rfl,rfl,rfl,rfl,rfl,rX l_,ai⟩)) ?_
  rw[<-Yl];refine go ?_;exact yk (i+1,y9,λj=>if j=s.aC.length then .slice bQ gQ cap else rn j) cz (xB [(4103,4103),(4104,4104),(4,4),(4110,4110),(4111,4111)] (gG _ _ _))
 have cd:i=n.J.length:=by have:=atl hc;omega
 subst cd;rw[ati]at jn;rw[jn];refine X.exit ?_
 (conv=>whnf)
 exact⟨.bo [],ai,y8,wd,rfl,rfl⟩
def kJ(o:f1)(ap:List (as8×aa))(n:aa):k8:=jF o ap n [] [0] 0 1 ⟨[],λ_=>[]⟩
theorem als(aW:dc B)(o:f1)(n:aa)(bU bE:Nat)(ap:List (as8×aa))(kb:y7 n)(cH:o2 n<1000000): cZ B 111 [.a8 26 [dE o n bU bE] 0 0] (aK [(4103,.mp bU (br aE ap)),(4104,.mp bE (br a_ []))]) λd aO=>∃dY cT b4 vs,d=.box 4110 dY 0/\aO=cU [(4103,.mp bU (br aE ap)),(4104,.mp bE (br a_ [])),(4,.box cT [.fn (.func 181) [] [.a8 1 [.box 4110 dY 0] 0 0,.a8 1 [.a8 26 [dE o n bU bE] 0 0] 0 0,.box 4 cT 0]]),(4110,.box dY [.bool true,.al b4,u 0,u 0,u 0]),(4111,.row b4 (eT (kJ o ap n).aC vs (λ_=>0) (λ_=>0)) 5 249)] (nh (kJ o ap n) vs):=by refine yf Tryz.func111 Tryz.ntmps111 λU=>?_;refine go ?_;intro dB;(conv=>whnf);refine c1 ?_;refine iG 1 1 1 (.a8 26 [dE o n bU bE] 0 0) ?_;refine go ?_;intro dY;(conv=>whnf);refine c1 ?_;intro eG;(conv=>whnf);refine c1 ?_;refine X.jp 6 (du:=[.bool true,.al (.slice none 0 0),u 0,u 0,u 0]) rfl ⟨E,aq.qR,E,E,E,ai⟩ ?_;refine X.jp 3 (du:=[.box 4110 dY 0]) rfl ⟨aq.box,ai⟩ ?_;refine X.p2 4111 5 249 ?_;refine iG 3 3 1 (.box 4110 dY 0) ?_;refine X.fb [(1,.a8 1 [.a8 26 [dE o n bU bE] 0 0] 0 0),(3,.a8 1 [.box 4110 dY 0] 0 0)] [(4103,.mp bU (br aE ap)),(4104,.mp bE (br a_ [])),(4110,.box dY [.bool true,.al (.slice none 0 0),u 0,u 0,u 0]),(4111,.row (.slice none 0 0) [] 5 249)] [(4103,4103),(4104,4104),(4110,6),(4111,4111)] ⟨cP,rfl,cP⟩ ?_;refine go ?_;intro cT;(conv=>whnf);refine go ?_;refine X.zI aM 5 mixed as3 ?_;(conv=>whnf);refine go ?_;have alt:=ald (B:=B) aW o n bU bE dY cT ap (o2 n) n [] [0] 0 1 ⟨[],λ_=>[]⟩ (λ_=>.nilFunc) (.slice none 0 0) (atg _) kb (by have:=AT n;simp;omega);refine .inr (af.y2 rfl [aE n,.O [],.O [0],u ((0:Nat):Int),u ((1:Nat):Int),.a8 1 [.box 4110 dY 0] 0 0,.a8 1 [.a8 26 [dE o n bU bE] 0 0] 0 0,.box 4 cT 0] (qy [(4103,.mp bU (br aE ap)),(4104,.mp bE (br a_ [])),(4,.box cT [.fn (.func 181) [] [.a8 1 [.box 4110 dY 0] 0 0,.a8 1 [.a8 26 [dE o n bU bE] 0 0] 0 0,.box 4 cT 0]]),(4110,.box dY [.bool true,.al (.slice none 0 0),u 0,u 0,u 0]),(4111,.row (.slice none 0 0) [] 5 249)]) (PH (gG _ _ _) (λk o Y h=>by unfold iP at h;rw[as9 as1]at h;cases h)) alt ?_ ?_);exact i_;rintro d aO ⟨tl,gy,rfl,rfl⟩;refine⟨_,E,?_⟩;(conv=>whnf);refine X.jP [(3,.a8 1 [.box 4110 dY 0] 0 0)] (cU [(4103,.mp bU (br aE ap)),(4104,.mp bE (br a_ [])),(4,.box cT [.fn (.func 181) [] [.a8 1 [.box 4110 dY 0] 0 0,.a8 1 [.a8 26 [dE o n bU bE] 0 0] 0 0,.box 4 cT 0]]),(4110,.box dY [.bool true,.al tl,u 0,u 0,u 0]),(4111,.row tl (eT (kJ o ap n).aC gy (λ_=>0) (λ_=>0)) 5 249)] (nh (kJ o ap n) gy)) (xB [(4103,4103),(4104,4104),(4,4),(4110,4110),(4111,4111)] (gG _ _ _) (sD:=λq o G ah=>JT G ah)) ?_;refine go ?_;exact⟨.box 4110 dY 0,E,dY,cT,tl,gy,rfl,rfl⟩
variable{c:Code}{ak:Value}{xs:List D}{k e:Nat}
theorem alu{U:b8 Tryz.prog B am}(s i j:Nat){x:D}(I:xs[i]?=some x)(ad:j<k)(an:x.cells[j]?=some (.al ak))(h:ak.oneCell'=true->X U c z K)(hs:z.H s=some (.row v xs k e):=by exact rfl):X U c z K :=
 ⟨λa w C M=>by
  have hi:=e9 I;obtain⟨b,cap,vs,_,_,_,Y,_,_,_,ae⟩:=kj.pos (M.heap.ch s _ hs) hi;obtain⟨aeY,_,h1,A⟩:=ae (i*k+j) (.al ak) (by rw[wz Y I ad];exact an);rw[h1.gb]at A
  exact(h A).run a w C M⟩
def mI(aC:List (as8×Int))(aZ:Nat->Int):List f2:=aC.mapIdx λj d=>⟨d.1,aZ j,d.2+1⟩
theorem C3{aZ:Nat->Int}:(mI aC aZ).length=aC.length:=by simp[mI]
theorem alv{aZ:Nat->Int}(h:i<aC.length):(mI aC aZ).take (i+1)=(mI aC aZ).take i++[⟨aC[i].1,aZ i,aC[i].2+1⟩]:=by rw[atc (by rw[C3];exact h)];simp[mI]
theorem alw(aC:List (as8×Int))(vs:Nat->Value)(aZ ly:Nat->Int)(wide:Bool)(b4:Value)(bT iJ CM:Int)(dJ:Nat)(T:List f2)(es:List Int)(H9:Int)(ax:aC.length<=1000000)(aw:∀d∈aC,0<=d.2/\d.2<=1000000000)(PO:aU B 239 [.Q .none 3 (dZ (mI aC aZ)),.bool wide] (.bo [.Q .none 3 (dZ T),.Q .none 1 (bn es),u H9])): cZ B 170 [.box 4110 dJ 0] (aK [(4110,.box dJ [.bool wide,.al b4,u bT,u iJ,u CM]),(4111,.row b4 (eT aC vs aZ ly) 5 249)]) λd aO=>d=.Q .none 3 (dZ T)/\aO=aK [(4110,.box dJ [.bool wide,.al b4,u bT,u iJ,u CM]),(4111,.row b4 (eT aC vs aZ ly) 5 249)]:=by refine ko Tryz.func170 Tryz.ntmps170 λU=>?_;refine go ?_;refine dN (af.rJ aM 4111 rfl rfl rfl rfl) ?_;rw[h_];refine X.own 3 1000 3 320 rfl (λw0=>?_);refine fZ (λx:Nat×Value=>x.1<=aC.length) [0,12,13] [4110,4111] (λx=>[(3,.Q (.own 1000 x.2) 3 (dZ ((mI aC aZ).take x.1))),(14,u x.1)]) (λx=>[(1000,.own x.2 (dZ ((mI aC aZ).take x.1)).length 3 320)]) (λx=>aC.length-x.1) (0,w0) (atq _) [(4110,4110),(4111,4111),(1000,1000)] ?_;rintro⟨i,w⟩ hi;dsimp only at hi⊢;refine go ?_;refine cb (t:=decide ((i:Int)<(aC.length:Nat))) ?_ ?_<;>intro hc;(have cz:i<aC.length:=by simpa using hc);have lx:=CV (vs:=vs) (aZ:=aZ) (ly:=ly) cz;have cX:=alv (aZ:=aZ) cz;have PP:=aw _ (ate cz);generalize aC[i]=d at*;refine alu 4111 i 2 lx (show 2<5 by decide) rfl λAJ=>?_;refine go ?_;refine dN (af.ej aM 4111 rfl rfl rfl rfl rfl rfl rfl asZ (by rw[h_];omega)) ?_;refine dN (af.n1 aM 4111 (i:=i) (j:=0) rfl rfl rfl lx) ?_;intro cJ;(conv=>whnf);refine c1 ?_;rw[show[D.O d.1,u d.2,.al (vs i),u (aZ i),u (ly i)].all D.one=true by simp only[avO,List.all_nil,D.one,AJ,Bool.and_self]];(conv=>whnf);refine c1 ?_;refine iG 5 5 5 (nH d.1 d.2 (vs i) (aZ i) (ly i)) ?_ (d9:=by show[D.O d.1,u d.2,.al (vs i),u (aZ i),u (ly i)].all D.one=true;simp only[avO,List.all_nil,D.one,AJ,Bool.and_self]);refine go ?_;refine MI (by show(_+1)*32<=_;simp only[dZ,atb,atv,C3];omega) (by show _+1<=_;simp only[dZ,atb,atv,C3];omega) λgN=>?_;(have qb:dZ ((mI aC aZ).take i)++[.agg [.O d.1,u (aZ i),u (d.2+1)]]=dZ ((mI aC aZ).take (i+1)):=by rw[cX];simp[dZ,kG]);exact eK (i+1,gN) [(4110,4110),(4111,4111),(1000,28)] cz (A:=⟨⟨E,E,E,aq.j6 qb,E,ai⟩,rfl,rfl,rfl,rfl,rfl,rfl,ky (by rw[<-qb];simp),ai⟩);(have qb:i=aC.length:=by simp at hc;omega);subst qb;rw[show(mI aC aZ).take aC.length=mI aC aZ by rw[<-C3 (aC:=aC) (aZ:=aZ),ati]];refine X.exit ?_;(conv=>whnf);refine go ?_;refine bp PO ?_;exact⟨.Q .none 3 (dZ T),E,rfl,bb⟩
section
variable{b_:Type}
theorem Gu(L:List b_)(i j:Nat):(mq L i j).Perm L:=by unfold mq;split;rename_i x y I hy;obtain⟨hi,rfl⟩:=atI.1 I;obtain⟨ad,rfl⟩:=atI.1 hy;exact List.set_set_perm hi ad;exact E
theorem J0(L:List b_)(a b:Nat):∀n,(mr L a b n).Perm L
 |0=>.refl _
 |n+1=>(Gu _ _ _).trans (J0 L a b n)
theorem PQ(m:Nat)(L:List b_)(i j:Nat):(pm m L i j).Perm L:=by
 rw[pm];split
 ·exact J0 ..
 split
 ·exact(PQ m _ _ _).trans (J0 ..)
 split
 ·exact(PQ m _ _ _).trans (J0 ..)
 exact E
termination_by i+j
variable(ca:b_->b_->Int)
theorem Yn(a:Nat):∀(j:Nat) (L:List b_),(vr ca a j L).Perm L
 |0,_=>.refl _
 |j+1,L=>by rw[vr];split;exact(Yn a j _).trans (Gu ..);exact E
theorem PR(a:Nat)(L:List b_):∀n,(q0 ca a L n).Perm L
 |0=>.refl _
 |n+1=>(Yn ca a _ _).trans (PR a L n)
theorem Yo(L:List b_)(a:Nat):∀n,(qd L a n).Perm L
 |0=>.refl _
 |n+1=>(Gu _ _ _).trans (Yo L a n)
theorem Yp(L:List b_)(m:Nat):∀n,(qe L m n).Perm L
 |0=>.refl _
 |n+1=>(Gu _ _ _).trans (Yp L m n)
theorem J1:∀(f:Nat) (L:List b_) (a m b:Nat),(po ca f L a m b).Perm L
 |0,_,_,_,_=>.refl _
 |f+1,L,a,m,b=>by rw[po];split;exact Yo ..;split;exact Yp ..;simp only;(have h1:(if qf ca L a m b<m/\qf ca L a m b<(a+b)/2 then pm m L (m-qf ca L a m b) ((a+b)/2-qf ca L a m b)else L).Perm L:=by split;exact PQ ..;exact E);generalize(if qf ca L a m b<m/\qf ca L a m b<(a+b)/2 then pm m L (m-qf ca L a m b) ((a+b)/2-qf ca L a m b)else L)=vu at*;(have A:(if a<qf ca L a m b/\qf ca L a m b<(a+b)/2 then po ca f vu a (qf ca L a m b) ((a+b)/2)else vu).Perm L:=by split;exact(J1 f _ _ _ _).trans h1;exact h1);split;exact(J1 f _ _ _ _).trans A;exact A
theorem Yq(n a:Nat)(L:List b_):(q1 ca n a L).Perm L:=by
 rw[q1];split
 ·exact(Yq n _ _).trans (PR ..)
 exact PR ..
termination_by n-a
theorem Yr(n aR a:Nat)(L:List b_):(sV ca n aR a L).Perm L:=by
 rw[sV];split
 ·exact(Yr n aR _ _).trans (J1 ..)
 split
 ·exact J1 ..
 exact E
termination_by n-a
theorem Ys(n aR:Nat)(L:List b_):(t7 ca n aR L).Perm L:=by
 rw[t7];split
 ·exact(Ys n _ _).trans (Yr ..)
 exact E
termination_by n-aR
theorem PS(L:List b_):(gf ca L).Perm L:=(Ys ca _ _ _).trans (Yq ca _ _ _)
end
theorem alx(e:f2):aU B 283 [kG e] (.bool (bif bif bif e.id !=[]then decide ((e.id.length:Int)<=255)else false then e.id !=[0]else false then e.id !=[1]else false)):=by refine fn Tryz.func283 Tryz.ntmps283 λU=>?_;refine go ?_;intro dB;(conv=>whnf);refine c1 ?_;refine iG 1 1 3 (kG e) ?_;refine go ?_;exact E
theorem Yt(aW:dc B)(l:List f2)(wide:Bool)(i j:Nat)(hi:i<l.length)(ad:j<l.length)(aj:∀x∈l,x.id.length<100000000/\(wide=false->im x.id)):aU B 284 [u i,u j,.a8 1 [.Q .none 3 (dZ l)] 0 0,.a8 1 [.bool wide] 0 0] (u (xn l[i].id l[j].id wide)):=by have Py:=Xe (B:=B) aW l[i].id l[j].id wide (aj _ (ate hi)).1 (aj _ (ate ad)).1 (λh=>⟨(aj _ (ate hi)).2 h,(aj _ (ate ad)).2 h⟩);(have aly:(dZ l)[i]?=some (kG l[i]):=by simp[dZ,hi]);(have alz:(dZ l)[j]?=some (kG l[j]):=by simp[dZ,ad]);refine fn Tryz.func284 Tryz.ntmps284 λU=>?_;refine go ?_;refine vo ?_;refine And.intro (λ_=>by simp only[dZ,atb];omega) ?_;(conv=>whnf);refine c1 ?_;refine bD (kG l[i]) aly ?_;refine And.intro (λ_=>by simp only[dZ,atb];omega) ?_;(conv=>whnf);refine c1 ?_;refine bD (kG l[j]) alz ?_;refine bp Py ?_;exact E
section
variable(L:List f2)(wide:Bool)
def jG(p:Int):Nat->List (Fin L.length)
 |0=>[]
 |m+1=>jG p m++if h:m+1<L.length then(if L[m+1].dq=p then[⟨m+1,h⟩]else[])else[]
theorem Yu{p:Int}{m:Nat}{x:Fin L.length}(h:x∈jG L p m):1<=x.1/\x.1<=m/\L[x].dq=p:=by induction m with|zero=>cases h|succ m aY =>rw[jG]at h;rcases atB.1 h with h|h;obtain⟨a,b,c⟩:=aY h;exact⟨a,by omega,c⟩;split at h;split at h;rw[atW]at h;subst h;exact⟨by simp,atg _,by assumption⟩;cases h;cases h
theorem PT{p:Int}{m:Nat}:(jG L p m).Nodup:=by induction m with|zero=>exact List.nodup_nil|succ m aY =>rw[jG];refine List.nodup_append.2 ⟨aY,?_,λx I y hy e=>?_⟩;split;split;simp;exact List.nodup_nil;exact List.nodup_nil;subst e;have:=(Yu L I).2.1;split at hy;split at hy;rw[atW]at hy;subst hy;simp at this;omega;cases hy;cases hy
def J2(x y:Fin L.length):Int:=xn L[x].id L[y].id wide
def AU(p:Int):List (Fin L.length):=gf (J2 L wide) (jG L p (L.length-1))
theorem Yv{p:Int}{x:Fin L.length}(h:x∈AU L wide p):1<=x.1/\L[x].dq=p:=by have:=Yu L ((PS _ _).mem_iff.1 h);exact⟨this.1,this.2.2⟩
theorem Yw{p:Int}:(AU L wide p).Nodup:=(PS _ _).nodup_iff.2 (PT L)
def sq(l:List (Fin L.length)):Nat->Bool
 |0=>false
 |1=>false
 |k+2=>sq l (k+1)||(match l[k]?,l[k+1]? with|some x,some y=>J2 L wide x y==0|_,_=>false)
def eE(h0:0<L.length):Nat->List (Fin L.length)×Bool
 |0=>([⟨0,h0⟩],false)
 |a+1=>match(eE h0 a).1[a]? with
  |some x=>((eE h0 a).1++AU L wide (x.1+1:Nat),(eE h0 a).2||sq L wide (AU L wide (x.1+1:Nat)) (AU L wide (x.1+1:Nat)).length)
  |none=>eE h0 a
theorem PU(h0:0<L.length):∀a,(eE L wide h0 a).1.Nodup/\(∀y∈(eE L wide h0 a).1,y.1=0\/(1<=y.1/\∃j,j<a/\∃x,(eE L wide h0 a).1[j]?=some x/\L[y].dq=((x.1+1:Nat):Int)))
 |0=>⟨by simp[eE],λy hy=>by rw[eE,atW]at hy;subst hy;exact .inl rfl⟩
 |a+1=>by obtain⟨h1,A⟩:=PU h0 a;rw[eE];split;rename_i x I;have kB:=(atI.1 I).1;refine⟨List.nodup_append.2 ⟨h1,Yw L wide,λy hy V bH e=>?_⟩,λy hy=>?_⟩;subst e;obtain⟨cO,d0⟩:=Yv L wide bH;rcases A y hy with Z|⟨_,j,ad,b0,Bg,aw⟩;omega;rw[d0]at aw;have:x=b0:=Fin.ext asZ;subst this;obtain⟨sj,qu⟩:=atI.1 I;obtain⟨xg,Yx⟩:=atI.1 Bg;have:=(List.getElem_inj h1).1 (qu.trans Yx.symm);omega;rcases atB.1 hy with hy|hy;rcases A y hy with Z|⟨cO,j,ad,b0,Bg,aw⟩;exact .inl Z;exact .inr ⟨cO,j,by omega,b0,by rw[atn asZ];exact Bg,aw⟩;obtain⟨cO,d0⟩:=Yv L wide hy;exact .inr ⟨cO,a,by omega,x,by rw[atn kB];exact I,d0⟩;refine⟨h1,λy hy=>?_⟩;rcases A y hy with Z|⟨cO,j,ad,r⟩;exact .inl Z;exact .inr ⟨cO,j,by omega,r⟩
theorem Yy{α:Type}[DecidableEq α]:∀(l m:List α),l.Nodup->(∀x∈l,x∈m)->l.length<=m.length
 |[],_,_,_=>atq _
 |x::l,m,h,hs=>by obtain⟨h1,A⟩:=ava.1 h;have Z:=Yy l (m.erase x) A λy hy=>(List.mem_erase_of_ne (λe:y=x=>h1 (e ▸ hy))).2 (hs y (ato _ hy));have aD:=List.length_erase_of_mem (hs x atk);have bc:0<m.length:=avU (hs x atk);rw[ath];omega
theorem J3{n:Nat}{l:List (Fin n)}(h:l.Nodup):l.length<=n:=by have:=Yy l (List.finRange n) h λx _=>List.mem_finRange x;rwa [List.length_finRange]at this
theorem Yz(h0:0<L.length)(a:Nat):(eE L wide h0 a).1.length<=L.length:=J3 (PU L wide h0 a).1
theorem YA(h0:0<L.length){a:Nat}(h:(eE L wide h0 a).1.length<=a):∀k,eE L wide h0 (a+k)=eE L wide h0 a
 |0=>rfl
 |k+1=>by have:=YA h0 h k;rw[<-au9,eE,this,atj asZ]
def J4(e:f2):Bool:=bif bif bif e.id !=[]then decide ((e.id.length:Int)<=255)else false then e.id !=[0]else false then e.id !=[1]else false
def xC(n:Nat)(e:f2):Bool:=bif bif !J4 e then true else decide (e.dq<1)then true else decide (e.dq>(n:Int))
def gH(l:List (Fin L.length)):Nat->List Int×List f2
 |0=>(List.replicate L.length 0,[])
 |k+1=>match l[k]? with
  |some x=>((gH l k).1.set x.1 (k+1:Nat),(gH l k).2++[⟨L[x].id,L[x].rd,(((gH l k).1.set x.1 (k+1:Nat))[(L[x].dq-1).toNat]?).getD 0⟩])
  |none=>gH l k
def nL:List f2×List Int×Int :=
 if 1024<L.length then([],[],7)
 else if h0:0<L.length then
  if(bif L[0].id==[0]then L[0].dq==1 else false)=false then([],[],1)
  else if(L.drop 1).any (xC L.length)=true then([],[],1)
  else if(eE L wide h0 L.length).1.length<L.length then([],[],13)
  else if 0<=e2 (λx=>!CP x.rd) L then([],[],2)
  else if(eE L wide h0 L.length).2=true then([],[],5)
  else((gH L (eE L wide h0 L.length).1 L.length).2,(gH L (eE L wide h0 L.length).1 L.length).1,0)
 else([],[],1)
end
variable{b:Nat}
theorem PV(h:(aI.row (.slice none 0 0) [] k e).ef b):False:=by obtain⟨n,cap,h,A⟩:=h;exact axQ
theorem alA{U:b8 Tryz.prog B am}(n k e:Nat)(h:X U c {t:=z.t,H:=λj=>if 10000<=j/\j<10000+n then some (.row (.slice none 0 0) [] k e)else z.H j} K):X U c z K :=
 ⟨λa w C M=>h.run a w C ⟨M.tmps,⟨λs o ah=>by
   dsimp only at ah;split at ah
   ·cases ah;exact⟨none,0,rfl,atg _,atq _,λx I=>(by cases I),λdF gc=>(by cases gc),λh=>absurd h as1⟩
   ·exact M.heap.ch s o ah,λs bq o bL b a6 h1 A an cW=>by
   dsimp only at h1 A;split at h1
   ·cases h1;exact PV an
   ·split at A
    ·cases A;exact PV cW
    exact M.heap.inj s bq o bL b a6 h1 A an cW,λs o b h1 an=>by
   dsimp only at h1;split at h1
   ·cases h1;exact(PV an).elim
   exact M.heap.cN s o b h1 an⟩,M.size,M.defers,M.step⟩⟩
variable{dst:Option Tmp}{dV ek:TypeId}{x:Operand}{c8:TypeDesc}{cy:List (D×D)}
theorem YB{K:av->Prop}{t:TypeId}{m:Operand}(s:Nat){k:D}(hm:Tryz.prog.underlying t=some (.map dV ek))(N:Tryz.prog.underlying dV=some c8)(I:z.ba m=.al (.map (some b)))(hs:z.H s=some (.mp b cy))(G:z.ba x=k)(Y:m7 c8 k=true)(b5:∀x∈cy,m7 c8 x.1=true)(aV:j7 cy k=some (.al v)\/(j7 cy k=none/\v=.slice none 0 0))(bH:∀w,(zeroValue ek).run Tryz.prog w=.ok (.slice none 0 0) w)(hK:K (z.put dst (.al v))):af Tryz.prog B am z dst (.lookup t m x false) K:=by rcases aV with aV|⟨aV,rfl⟩;exact af.Ib s hm N I hs G Y b5 aV hK;exact af.MO s hm N I hs G Y b5 aV bH (λw C=>.al _) hK
def hx{n:Nat}(l:List (Fin n)):List D:=l.map λi=>u (i.1:Nat)
def o3(L:List f2)(vs:Nat->Value)(f:Nat->List (Fin L.length)):bF:=λk=>if 10000<=k/\k<10000+(L.length+1)then some (.row (vs (k-10000)) (hx (f (k-10000))) 1 3)else none
theorem AV(L:List f2)(vs:Nat->Value)(f:Nat->List (Fin L.length)):qa (o3 L vs f):=λk o h=>by
 unfold o3 at h;split at h
 ·omega
 cases h
theorem YC{L:List f2}{vs:Nat->Value}{f:Nat->List (Fin L.length)}(h:i<=L.length):o3 L vs f (10000+i)=some (.row (vs i) (hx (f i)) 1 3):=by unfold o3;rw[as_ asZ,auo]
variable{gy:Nat->Value}{row:List D}
theorem alB{L:List f2}{vs:Nat->Value}{f yn:Nat->List (Fin L.length)}(W:gy i=v)(fK:∀j,j≠i->gy j=vs j)(ae:hx (yn i)=row)(xl:∀j,j≠i->yn j=f j):
  ∀k o,o3 L gy yn k=some o->10000<=k/\((k=10000+i/\o=.row v row 1 3)\/(k≠10000+i/\lV (o3 L vs f) (10000+i) k=some o)):=λk o h=>by
 unfold o3 at h;split at h
 ·rename_i Y;refine⟨Y.1,?_⟩;by_cases f_:k=10000+i
  ·subst f_;rw[auo,W,ae]at h;exact .inl ⟨rfl,(at3 h).symm⟩
  refine .inr ⟨f_,?_⟩;unfold lV o3;rw[auZ f_,as_ Y,<-xl (k-10000) asZ,<-fK (k-10000) asZ];exact h
 cases h
def pI(l:List (Int×Value)):List (D×D):=l.map λx=>(u x.1,.al x.2)
def ro(l:List (Int×Value))(p:Int):Option Value:=(l.find? λx=>x.1==p).map (·.2)
def AW(l:List (Int×Value))(k:Int)(v:Value):List (Int×Value):=match ro l k with
 |some _=>l.map λx=>if x.1==k then(x.1,v)else x
 |none=>l++[(k,v)]
theorem YD(l:List (Int×Value))(k:Int):j7 (pI l) (u k)=(ro l k).map D.al:=by unfold j7 ro pI;induction l with|nil=>rfl|cons x r aY =>rw[atG,avh,avh];show(match x.1==k with|true=>_|false=>_:Option (D×D)).map _=_;(cases x.1==k with|true=>rfl|false=>exact aY)
theorem alC(l:List (Int×Value))(k:Int)(v:Value):nw (pI l) (u k) (.al v)=pI (AW l k v):=by unfold nw AW;rw[YD];cases h:ro l k with|none=>simp[pI]|some y =>simp only[auD,pI,avl];apply avK;intro x I;show(if(x.1==k)=true then _ else _)=(λx:Int×Value=>(u x.1,D.al x.2)) (if(x.1==k)=true then(x.1,v)else x);split<;>rfl
theorem alD(l:List (Int×Value))(k p:Int)(v:Value):ro (l.map λx=>if x.1==k then(x.1,v)else x) p=if p=k then(ro l k).map (λ_=>v)else ro l p:=by unfold ro;induction l with|nil=>split<;>rfl|cons x r aY =>rw[atG,avh,avh,avh];by_cases I:x.1=k;rw[as_ (by simpa using I)];by_cases aw:p=k;subst aw;rw[as_ rfl,show(x.1==p)=true by simpa using I];rfl;(have alE:(x.1==p)=false:=by rw[I];simpa using λe:k=p=>aw e.symm);rw[as9 aw]at aY⊢;rw[show((x.1,v).1==p)=false from alE];exact aY;rw[as9 (by simpa using I)];by_cases aw:p=k;subst aw;rw[as_ rfl]at aY⊢;rw[show(x.1==p)=false by simpa using I];exact aY;rw[as9 aw]at aY⊢;(cases x.1==p with|true=>rfl|false=>exact aY)
theorem alF(l:List (Int×Value))(k p:Int)(v:Value):ro (AW l k v) p=if p=k then some v else ro l p:=by unfold AW;cases h:ro l k with|some y=>simp only;rw[alD,h];rfl|none =>simp only;unfold ro at h⊢;rw[List.find?_append];by_cases aw:p=k;subst aw;rw[as_ rfl];rw[awi]at h;rw[h];simp;rw[as9 aw];(cases M:l.find? (λx=>x.1==p)with|some y=>rfl|none=>simp[show¬k=p from λe=>aw e.symm])
def Gv(l:List (Int×Value))(vs:Nat->Value):Prop:=∀p:Nat,ro l p=some (vs p)\/(ro l p=none/\vs p=.slice none 0 0)
theorem alG:Gv [] (λ_=>.slice none 0 0):=λp=>.inr ⟨rfl,rfl⟩
theorem alH{l:List (Int×Value)}{vs:Nat->Value}(h:Gv l vs)(P:Nat)(v:Value):Gv (AW l P v) (λj=>if j=P then v else vs j):=λp=>by
 rw[alF];by_cases aw:p=P
 ·subst aw;rw[as_ rfl];exact .inl (as' some (as_ rfl).symm)
 rw[as9 asZ];dsimp only;rw[as9 aw];exact h p
theorem YE{l:List (Int×Value)}{vs:Nat->Value}(h:Gv l vs)(p:Nat):j7 (pI l) (u p)=some (.al (vs p))\/(j7 (pI l) (u p)=none/\vs p=.slice none 0 0):=by rw[YD];rcases h p with h|⟨h,A⟩;rw[h];exact .inl rfl;rw[h];exact .inr ⟨rfl,A⟩
theorem PW(l:List (Int×Value)):∀x∈pI l,m7 (.int .i64) x.1=true:=λx I=>by
 obtain⟨y,_,rfl⟩:=aty.1 I;rfl
theorem alI{L:List f2}{H:bF}(hH:H 34=some (.mp b [])){o:aI}(h:cU [(34,.mp b [])] (o3 L (λ_=>.slice none 0 0) λp=>jG L p 0) k=some o):(if 10000<=k/\k<10000+(L.length+1)then some (.row (.slice none 0 0) [] 1 3)else H k)=some o:=by unfold cU aK o3 at h;by_cases Y:k=34;subst Y;rw[as9 asZ,hH];exact h;rw[auZ Y]at h;simp only[aun,aK]at h;split at h;rename_i ae;rw[as_ ae];exact h;cases h
def sr(L:List f2)(vs:Nat->Value)(f:Nat->List (Fin L.length))(tm:Nat->Bool):bF:=λk=>if tm (k-10000)=true then none else o3 L vs f k
theorem YF(L:List f2)(vs:Nat->Value)(f:Nat->List (Fin L.length))(tm:Nat->Bool):qa (sr L vs f tm):=λk o h=>by
 unfold sr at h;split at h
 ·cases h
 exact AV _ _ _ k o h
variable{tm:Nat->Bool}
theorem alJ{L:List f2}{vs:Nat->Value}{f:Nat->List (Fin L.length)}(h:i<=L.length)(N:tm i=false):sr L vs f tm (10000+i)=some (.row (vs i) (hx (f i)) 1 3):=by unfold sr;rw[auo,as9 (by rw[N];decide),YC h]
theorem alK{L:List f2}{vs:Nat->Value}{f:Nat->List (Fin L.length)}{PX:Nat->Bool}{P:Nat}(N:∀p,PX p=(tm p||p==P)):sr L vs f PX=lV (sr L vs f tm) (10000+P):=by funext k;unfold lV;cases F:Nat.beq k (10000+P)with|true =>have:=atx F;subst this;unfold sr;rw[auo,N,as_ as1];rfl|false =>show sr L vs f PX k=sr L vs f tm k;unfold sr;rw[N];by_cases Y:10000<=k;rw[show(k-10000==P)=false by(have:k≠10000+P:=λe=>by rw[e,auB]at F;cases F);simp;omega];simp;(have:o3 L vs f k=none:=by unfold o3;rw[as9 asZ]);rw[this];split<;>split<;>rfl
variable{dk dn:aI}
theorem alL{L:List f2}{vs:Nat->Value}{f:Nat->List (Fin L.length)}{H:bF}(h1:H 34=some dk)(A:H 1000=some dn)(ae:∀k o,10000<=k->o3 L vs f k=some o->H k=some o){o:aI}(h:cU [(34,dk),(1000,dn)] (sr L vs f tm) k=some o):H k=some o:=by unfold cU aK at h;by_cases Y:k=34;subst Y;rw[h1];exact h;rw[auZ Y]at h;simp only[aun]at h;unfold aK at h;by_cases te:k=1000;subst te;rw[A];exact h;rw[auZ te]at h;simp only[aun,aK]at h;unfold sr at h;split at h;cases h;exact ae k o (AV _ _ _ k o h) h
def C4(L:List f2)(wide:Bool)(h0:0<L.length)(a:Nat)(p:Nat):Bool:=((eE L wide h0 a).1.take a).any λx=>x.1+1==p
variable{wide:Bool}
theorem alM{L:List f2}{h0:0<L.length}{a:Nat}{x:Fin L.length}(I:(eE L wide h0 a).1[a]?=some x):C4 L wide h0 a (x.1+1)=false:=by
 unfold C4;rw[List.any_eq_false];intro y hy e;have b':y.1+1=x.1+1:=by simpa using e
 have alN:y=x:=Fin.ext asZ;subst alN;obtain⟨j,ad,YG⟩:=atP.1 hy;rw[atv]at ad;rw[List.getElem_take]at YG;obtain⟨ha,PY⟩:=atI.1 I;have:=(List.getElem_inj (PU L wide h0 a).1).1 (YG.trans PY.symm);omega
theorem alO{L:List f2}{h0:0<L.length}{a:Nat}{x:Fin L.length}(I:(eE L wide h0 a).1[a]?=some x)(p:Nat):C4 L wide h0 (a+1) p=(C4 L wide h0 a p||p==x.1+1):=by obtain⟨ha,PY⟩:=atI.1 I;unfold C4;(have h1:(eE L wide h0 (a+1)).1=(eE L wide h0 a).1++AU L wide (x.1+1:Nat):=by rw[eE,I]);rw[h1,auR asZ,atc ha,List.any_append,PY];simp only[awn,List.any_nil,Bool.or_false];(have hc:(x.1+1==p)=(p==x.1+1):=by by_cases h:x.1+1=p;rw[h];rw[show(x.1+1==p)=false from atK.2 h,show(p==x.1+1)=false from atK.2 λe=>h e.symm]);rw[hc]
theorem Gw{U:b8 Tryz.prog B am}(s j:Nat)(h:X U c {t:=λi=>_root_.cond (Nat.beq i j) (.Q .none k xs) (z.t i),H:=λi=>_root_.cond (Nat.beq i s) none (z.H i)} K)
  (hs:z.H s=some (.row v xs k e):=by exact rfl) (ad:z.t j=.al v:=by exact rfl):X U c z K :=
 X.commit s hs _ (λw C ae i ak an=>by
   show bh w C (_root_.cond (Nat.beq i j) _ _) ak
   cases hi:Nat.beq i j with
   |false=>exact an
   |true =>
    have:=atx hi;subst this
    rw[ad]at an
    rw[an.gb];exact ae.jl) (λi o ah=>by
   replace ah:_root_.cond (Nat.beq i s) none (z.H i)=some o:=ah
   cases hi:Nat.beq i s with
   |true=>rw[hi]at ah;cases ah
   |false =>
    rw[hi]at ah;refine .inr ⟨λe=>?_,ah⟩
    subst e;rw[auB]at hi;cases hi) h
theorem PZ(L:List f2)(l:List (Fin L.length)):∀k,(gH L l k).1.length=L.length
 |0=>by rw[gH];simp
 |k+1=>by rw[gH];split;simp only;rw[auG,PZ L l k];exact PZ L l k
theorem YH(L:List f2)(l:List (Fin L.length)):∀k,k<=l.length->(gH L l k).2.length=k
 |0,_=>by rw[gH];rfl
 |k+1,h=>by rw[gH,ata asZ];simp only;rw[atf,YH L l k asZ];rfl
theorem alP(aW:dc B)(L:List f2)(wide:Bool)(kO:∀x∈L,x.id.length<100000000/\(wide=false->im x.id))(Gx:∀x∈L,-1000000000<=x.dq/\x.dq<=1000000000)(mW:L.length<1000000): aU B 239 [.Q .none 3 (dZ L),.bool wide] (.bo [.Q .none 3 (dZ (nL L wide).1),.Q .none 1 (bn (nL L wide).2.1),u (nL L wide).2.2]):=by have dj:(dZ L).length=L.length:=atb _;refine fn Tryz.func239 Tryz.ntmps239 λU=>?_;refine go ?_;intro cg;(conv=>whnf);refine c1 ?_;intro eG;(conv=>whnf);refine c1 ?_;refine iG 2 2 1 (.Q .none 3 (dZ L)) ?_;refine iG 3 3 1 (.bool wide) ?_;refine go ?_;rw[dj];refine cb (t:=decide ((L.length:Int)>1024)) ?_ ?_<;>intro hc;(have uL:nL L wide=([],[],7):=by unfold nL;rw[as_ (by have:=atw hc;omega)]);rw[uL];refine go ?_;exact⟨.nil,.nil,E,ai⟩;(have Wb:L.length<=1024:=by have:=atl hc;omega);(obtain⟨ez,C5⟩:∃ez:f2,∀h:0<L.length,ez=L[0]:=by by_cases h:0<L.length;exact⟨L[0],λ_=>rfl⟩;exact⟨⟨[],0,0⟩,λA=>absurd A h⟩);have YI:=ajt (B:=B) ez.id ez.rd ez.dq;(have pv:0<L.length->(dZ L)[0]?=some (kG ez):=λh=>by rw[C5 h];simp[dZ,h]);(have J5:(!(L.length:Int)==0)=true->0<L.length:=λh=>by rcases at1 L.length with h0|h0;rw[h0]at h;cases h;exact h0);refine go ?_;rw[dj];refine And.intro (λh=>⟨by decide,by have:=J5 h;omega⟩) ?_;(conv=>whnf);refine c1 ?_;refine⟨kG ez,λh=>pv (J5 h),?_⟩;(conv=>whnf);refine c1 ?_;refine bp YI ?_;refine cb ?_ ?_<;>intro hc;(have uL:nL L wide=([],[],1):=by unfold nL;rw[as9 asZ];split;rename_i h0;rw[as_];rw[<-C5 h0];(cases ae:(bif ez.id==[0]then ez.dq==1 else false)with|false=>rfl|true=>rw[ae]at hc;simp at hc;first|omega|(rw[hc]at h0;simp at h0));rfl);rw[uL];refine go ?_;exact⟨.nil,.nil,E,ai⟩;(have h0:0<L.length:=by rcases at1 L.length with h0|h0;rw[h0]at hc;simp at hc;exact h0);(have uM:(bif L[0].id==[0]then L[0].dq==1 else false)=true:=by rw[<-C5 h0];cases ae:(bif ez.id==[0]then ez.dq==1 else false)with|true=>rfl|false=>rw[ae]at hc;simp at hc);clear YI pv J5 hc C5;refine go ?_;refine .inr (af.t6 λbK=>?_);(conv=>whnf);refine c1 ?_;refine go ?_;rw[dj,show List.drop (Int.toNat 1) (List.take ((L.length:Nat):Int).toNat (dZ L))=dZ (L.drop 1) by rw[atE,<-dj,ati];simp[dZ],show(dZ (L.drop 1)).length=L.length-1 by simp[dZ]];refine alA (L.length+1) 1 3 ?_;refine z8 (λx:Nat×List (Int×Value)×(Nat->Value)=>x.1<=L.length-1/\(∀j (ad:j<L.length),1<=j->j<=x.1->xC L.length L[j]=false)/\Gv x.2.1 x.2.2) [2,3,7,36,37] [] (λx=>[(38,u x.1)]) (λx=>[(34,.mp bK (pI x.2.1))]) (λx=>o3 L x.2.2 λp=>jG L p x.1) (λx=>L.length-1-x.1) (0,[],λ_=>.slice none 0 0) ⟨atq _,λj ad h1 A=>absurd h1 (by dsimp only at A;omega),alG⟩ ?_ (h1:=by exact fM.same cP λk o h=>by exact alI rfl h);rintro⟨m,cy,vs⟩ ⟨hm,F,P0⟩;(have jN:(dZ (L.drop 1)).length=L.length-1:=by simp[dZ]);rcases ats m (L.length-1)with gw|gw;(·(have lm:m+1<L.length:=by omega);(have vZ:(dZ (L.drop 1))[m]?=some (kG L[m+1]):=by simp only[dZ,atA,avd];rw[avZ,ata lm];rfl);have PP:=Gx _ (ate lm);(have f_:∀p:Nat,jG L (p:Int) (m+1)=jG L p m++if L[m+1].dq=(p:Int)then[⟨m+1,lm⟩]else[]:=λp=>by rw[jG,auX lm]);have P1:=alx (B:=B) L[m+1];rw[show(bif bif bif L[m+1].id !=[]then decide ((L[m+1].id.length:Int)<=255)else false then L[m+1].id !=[0]else false then L[m+1].id !=[1]else false)=J4 L[m+1]from rfl]at P1;have oP:=F;cases xD:xC L.length L[m+1]with|true =>(have uL:nL L wide=([],[],1):=by unfold nL;rw[as9 asZ,auX h0,as9 (by rw[uM];decide),as_];rw[aut];exact⟨L[m+1],by rw[atP];exact⟨m,by simp;omega,by simp[avZ]⟩,xD⟩);rw[uL];have AX:=xD;unfold xC at AX;generalize L[m+1]=e at*;rw[<-dj]at AX;refine X.qZ rfl (AV _ _ _) λiE=>?_;refine go ?_;refine wU (t:=decide ((m:Int)<((L.length-1:Nat):Int))) (by simpa using gw) ?_;refine bD (kG e) vZ ?_;intro iI;(conv=>whnf);refine c1 ?_;refine iG 9 9 3 (kG e) ?_;refine go ?_;refine bp P1 ?_;refine wU AX ?_;exact⟨.nil,.nil,E,ai⟩|false =>have AX:=xD;unfold xC at AX;(obtain⟨P,YJ,xw,ij⟩:∃P:Nat,1<=P/\P<=L.length/\L[m+1].dq=(P:Int):=by unfold xC at xD;cases ax:J4 L[m+1]with|false=>rw[ax]at xD;cases xD|true =>rw[ax]at xD;simp at xD;exact⟨L[m+1].dq.toNat,by omega,by omega,by omega⟩);generalize km:L[m+1]=e at*;rw[<-dj]at AX;refine X.B1 (f0:=.row (vs P) (hx (jG L P m)) 1 3) 7500 (10000+P) rfl (AV _ _ _) (YC xw) rfl as2 λGl=>?_;refine go ?_;refine wU (t:=decide ((m:Int)<((L.length-1:Nat):Int))) (by simpa using gw) ?_;refine bD (kG e) vZ ?_;intro iI;(conv=>whnf);refine c1 ?_;refine iG 9 9 3 (kG e) ?_;refine go ?_;refine bp P1 ?_;refine B0 AX ?_;have eR:(jG L (P:Int) m).length<=L.length:=J3 (PT L);refine' eJ [(34,.mp bK (pI cy)),(7500,.row (vs P) (hx (jG L P m)) 1 3)] (α:=Option Addr×Nat×Nat) (none,0,0) (λy=>[_,_,_,_,_,_,.al (vs P),_,u ((m:Int)+1),.Q .dR 1 [u ((m:Int)+1)],.al (.slice y.1 y.2.1 y.2.2),.any]) (λy=>[(10,7500,none),(10,68,some (.row (.slice y.1 y.2.1 y.2.2) (hx (jG L P m)++[u ((m:Int)+1)]) 1 3)),(11,34,some (.mp bK (nw (pI cy) (u e.dq) (.al (.slice y.1 y.2.1 y.2.2)))))]) [0,0,2,0,0,16,56,0,128,384,1016,2047] [(10,7500),(10,68),(11,34)] ?_ ?_;rotate_left 7;refine dw ?_;refine bJ (λy=>YB 34 rfl rfl rfl rfl rfl rfl (PW cy) (by rw[ij];exact YE P0 P) as7 (cl y)) ?_;refine bJ (λy=>af.oJ aM 7500 rfl rfl rfl as6 rfl rfl rfl as1 (by show(_+1)*8<=_;simp only[hx,atb];omega) (by show _+1<=_;simp only[hx,atb];omega) (λbQ gQ cap=>dT (bQ,gQ,cap))) ?_;refine bJ (λy=>af.z_ 34 rfl rfl rfl rfl rfl rfl (PW cy) (cl y)) ?_;exact trivial;rintro⟨bQ,gQ,cap⟩;(conv=>whnf);refine go ?_;(have ae:hx (jG L (P:Int) (m+1))=hx (jG L P m)++[u ((m:Int)+1)]:=by rw[f_ P,as_ ij];simp[hx]);(have xl:∀j:Nat,j≠P->jG L (j:Int) (m+1)=jG L j m:=λj ad=>by rw[f_ j,as9 (by rw[ij];omega),aua]);(have g':nw (pI cy) (u e.dq) (.al (.slice bQ gQ cap))=pI (AW cy P (.slice bQ gQ cap)):=by rw[ij];exact alC _ _ _);(have g6:∀j (ad:j<L.length),1<=j->j<=m+1->xC L.length L[j]=false:=λj ad h1 A=>by rcases ats m j with h|h;(have alQ:j=m+1:=by omega);subst alQ;rw[km];exact xD;exact F j ad h1 h);exact yk (m+1,AW cy P (.slice bQ gQ cap),λj=>if j=P then .slice bQ gQ cap else vs j) ⟨gw,g6,alH P0 P _⟩ (wV (f0:=.row (.slice bQ gQ cap) (hx (jG L P m)++[u ((m:Int)+1)]) 1 3) [(34,34)] (10000+P) 68 asZ (CS (AV _ _ _) _) (alB (as_ rfl) (λj ad=>as9 ad) ae xl) (fY:=⟨rfl,H3 g',ai⟩)));(have PG:m=L.length-1:=by omega);subst PG;refine X.qZ rfl (AV _ _ _) λiE=>?_;refine go ?_;refine cb (t:=decide (((L.length-1:Nat):Int)<((L.length-1:Nat):Int))) (λhc=>by simp at hc) (λhc=>?_);refine X.exit ?_;(conv=>whnf);refine X.jP [(2,.a8 1 [.Q .none 3 (dZ L)] 0 0),(3,.a8 1 [.bool wide] 0 0),(7,.al (.map (some bK)))] (cU [(34,.mp bK (pI cy))] (o3 L vs λp=>jG L p (L.length-1))) (pl [(34,34)] (AV _ _ _)) ?_;refine go ?_;refine X.own 10 1000 1 3 rfl (λw0=>?_);refine z8 (λx:Nat×Value=>x.1<=(eE L wide h0 x.1).1.length) [2,3,7] [34] (λx=>[(10,.Q (.own 1000 x.2) 1 (hx (eE L wide h0 x.1).1)),(11,.bool (eE L wide h0 x.1).2),(12,u x.1)]) (λx=>[(1000,.own x.2 (hx (eE L wide h0 x.1).1).length 1 3)]) (λx=>sr L vs (λp=>jG L p (L.length-1)) (C4 L wide h0 x.1)) (λx=>L.length-x.1) (0,w0) (atq _) ?_ (h1:=by exact fM.same cP λk o h=>alL rfl rfl (λk o Y h=>by(have bY:¬k=1000:=by omega);(have b':¬k=34:=by omega);show(bif Nat.beq k 1000 then _ else cU [(34,.mp bK (pI cy))] (o3 L vs λp=>jG L p (L.length-1)) k)=_;rw[auZ bY];simp only[aun,cU,aK,auZ b'];exact h) h);rintro⟨q,w⟩ G;dsimp only at G;cases I:(eE L wide h0 q).1[q]? with|none =>(have arN:q=(eE L wide h0 q).1.length:=by have:=List.getElem?_eq_none_iff.1 I;omega);have hlen:=Yz L wide h0 q;(have a1:eE L wide h0 L.length=eE L wide h0 q:=by have h1:=YA L wide h0 (a:=q) asZ (L.length-q);rwa [show q+(L.length-q)=L.length by omega]at h1);(have qA:¬(L.drop 1).any (xC L.length)=true:=λh=>by obtain⟨e,ao,q3⟩:=aut.1 h;obtain⟨j,ad,rfl⟩:=atP.1 ao;rw[List.getElem_drop]at q3;rw[aul]at ad;have:=F (1+j) asZ asZ asZ;rw[this]at q3;cases q3);(have ol:∀j (ad:j<L.length),1<=L[j].dq/\L[j].dq<=(L.length:Int):=λj ad=>by rcases at1 j with h|h;subst h;(cases ae:L[0].id==[0]with|false=>rw[ae]at uM;cases uM|true =>rw[ae]at uM;(have:L[0].dq=1:=by simpa using uM);omega);have:=F j ad h asZ;unfold xC at this;cases ax:J4 L[j]with|false=>rw[ax]at this;cases this|true=>rw[ax]at this;simp at this;omega);(have uL:nL L wide=if(eE L wide h0 q).1.length<L.length then([],[],13)else if 0<=e2 (λx=>!CP x.rd) L then([],[],2)else if(eE L wide h0 q).2=true then([],[],5)else((gH L (eE L wide h0 q).1 L.length).2,(gH L (eE L wide h0 q).1 L.length).1,0):=by unfold nL;rw[as9 asZ,auX h0,as9 (by rw[uM];decide),as9 qA,a1]);refine X.jP [(2,.a8 1 [.Q .none 3 (dZ L)] 0 0),(10,.Q (.own 1000 w) 1 (hx (eE L wide h0 q).1)),(11,.bool (eE L wide h0 q).2),(12,u q)] (aK [(1000,.own w (hx (eE L wide h0 q).1).length 1 3)]) (fM.same cP λk o h=>?_) ?_;simp only[aK]at h;(cases Y:Nat.beq k 1000 with|false=>rw[Y]at h;cases h|true =>rw[Y]at h;have:=atx Y;subst this;exact h);generalize(eE L wide h0 q).1=cQ at*;generalize(eE L wide h0 q).2=er at*;have eR:(hx cQ).length=cQ.length:=atb _;rw[uL];refine go ?_;rw[eR];refine B0 (t:=decide ((q:Int)<(cQ.length:Nat))) as0 ?_;rw[eR,dj];refine cb (t:=decide ((cQ.length:Int)<(L.length:Nat))) ?_ ?_<;>intro hc;rw[as_ (by have:=atw hc;omega)];refine go ?_;exact⟨.nil,.nil,E,ai⟩;(have aj0:cQ.length=L.length:=by have:=atl hc;omega);rw[as9 asZ];have YK:=ajU (B:=B) L asZ 287 (λx=>!CP x.rd) λk _=>ajR k;refine go ?_;refine bp YK ?_;refine cb (t:=decide (0<=e2 (λx=>!CP x.rd) L)) ?_ ?_<;>intro hc;rw[as_ (atw hc)];refine go ?_;exact⟨.nil,.nil,E,ai⟩;rw[as9 (atl hc)];refine go ?_;refine cb (t:=er) ?_ ?_<;>intro hc;rw[as_ hc];refine go ?_;exact⟨.nil,.nil,E,ai⟩;rw[as9 (by rw[hc];decide)];clear YK uL I a1;refine go ?_;rw[dj];refine .inr (af.x4 aM (n:=L.length) (cO:=.i64) (d0:=.i64) (V:=u 0) rfl rfl rfl rfl rfl rfl rfl (by show 8*L.length<=_;omega) asZ λdy=>?_);(conv=>whnf);refine go ?_;rw[dj];refine .inr (af.L6 aM (n:=L.length) (cO:=.i64) (d0:=.i64) rfl rfl rfl rfl rfl rfl (by show 32*L.length<=_;omega) asZ λalR=>?_);(conv=>whnf);refine go ?_;rw[show List.replicate L.length (u 0)=bn (gH L cQ 0).1 by simp[bn,gH],eR];refine fZ (λx:Nat×Value=>x.1<=cQ.length) [2,16,129,130] [1000] (λx=>[(17,.Q (.own 128 x.2) 3 (dZ (gH L cQ x.1).2)),(131,u x.1)]) (λx=>[(125,.row dy (bn (gH L cQ x.1).1) 1 3),(128,.own x.2 (dZ (gH L cQ x.1).2).length 3 320)]) (λx=>cQ.length-x.1) (0,alR) (atq _) [(1000,1000),(125,125),(128,128)] ?_;rintro⟨k,YL⟩ Y;dsimp only at Y⊢;refine go ?_;refine cb (t:=decide ((k:Int)<(cQ.length:Nat))) ?_ ?_<;>intro bs;(have P2:k<cQ.length:=by have:=atw bs;omega);have ku:=PZ L cQ k;have nx:=YH L cQ k asZ;(obtain⟨es,e,hL,P3,km,hd,mx,sH⟩:∃(es:Nat) (e:f2),es<L.length/\(hx cQ)[(k:Int).toNat]?=some (.int .i64 (es:Nat))/\(dZ L)[((es:Nat):Int).toNat]?=some (kG e)/\1<=e.dq/\e.dq<=(L.length:Nat)/\gH L cQ (k+1)=((gH L cQ k).1.set es ((k+1:Nat):Int),(gH L cQ k).2++[⟨e.id,e.rd,(((gH L cQ k).1.set es ((k+1:Nat):Int))[(e.dq-1).toNat]?).getD 0⟩]):=by refine⟨cQ[k].1,L[cQ[k].1],cQ[k].2,?_,?_,(ol cQ[k].1 cQ[k].2).1,(ol cQ[k].1 cQ[k].2).2,?_⟩;rw[atE];simp only[hx,atA];rw[ata P2];rfl;rw[atE];simp[dZ];rw[gH,ata P2];rfl);obtain⟨Gy,YM⟩:∃Gy,((gH L cQ k).1.set es ((k+1:Nat):Int))[(e.dq-1).toNat]?=some Gy:=⟨_,ata (by rw[auG,ku];omega)⟩;rw[YM]at sH;(have n0:(bn (gH L cQ k).1).length=L.length:=by simp[bn,ku]);(have X_:(dZ (gH L cQ k).2).length=k:=by simp[dZ,nx]);(have x3:(bn (gH L cQ k).1).set es (u ((k:Int)+1))=bn ((gH L cQ k).1.set es ((k+1:Nat):Int)):=by simp[bn,awy]);(have qB:(bn ((gH L cQ k).1.set es ((k+1:Nat):Int)))[(e.dq-1).toNat]?=some (.int .i64 Gy):=by simp only[bn,atA,YM];rfl);(have alS:((bn (gH L cQ k).1).set es (.int .i64 ((k:Int)+1)))[(e.dq-1).toNat]?=some (.int .i64 Gy):=by rw[x3];exact qB);(have alT:(bn (gH L cQ k).1).set es (u ((k:Int)+1))=bn (gH L cQ (k+1)).1:=by rw[x3,sH]);(have YN:dZ (gH L cQ k).2++[kG ⟨e.id,e.rd,Gy⟩]=dZ (gH L cQ (k+1)).2:=by rw[sH];simp[dZ]);refine go ?_;refine bD _ P3 ?_;refine .inr (af.ej aM 125 rfl rfl rfl rfl rfl rfl rfl asZ (by rw[n0];omega) ?_);(conv=>whnf);refine c1 ?_;refine .inr (af.mg aM 125 (i:=es) rfl rfl rfl rfl (by rw[n0];omega) rfl ?_);(conv=>whnf);refine go ?_;refine bD (kG e) km ?_;intro rc;(conv=>whnf);refine go ?_;refine .inr (af.ej aM 125 rfl rfl rfl rfl rfl rfl rfl asZ (by rw[auG,n0];omega) ?_);(conv=>whnf);refine c1 ?_;refine .inr (af.la aM 125 (i:=(e.dq-1).toNat) rfl rfl rfl alS ?_);(conv=>whnf);refine go ?_;intro alU;(conv=>whnf);refine go ?_;exact eK (k+1,alU) [(1000,1000),(125,125),(128,155)] P2 (A:=⟨⟨E,E,E,E,aq.j6 YN,E,ai⟩,rfl,rfl,rfl,rfl,rX alT,rfl,ky (by rw[<-YN,atf];rfl),ai⟩);(have f_:k=L.length:=by have:=atl bs;omega);subst f_;refine X.exit ?_;(conv=>whnf);refine Gw 125 16 ?_;refine go ?_;exact⟨.jl _,E,E,ai⟩|some x =>have lj:=(atI.1 I).1;have ij:=alJ (L:=L) (vs:=vs) (f:=λp=>jG L (p:Nat) (L.length-1)) (i:=x.1+1) asZ (alM I);refine X.B1 (f0:=.row (vs (x.1+1)) (hx (jG L ((x.1+1:Nat):Int) (L.length-1))) 1 3) 7500 (10000+(x.1+1)) rfl (YF _ _ _ _) ij rfl as2 λGl=>?_;(have P3:(hx (eE L wide h0 q).1)[q]?=some (.int .i64 (x.1:Nat)):=by simp only[hx,atA,I];rfl);have gB:(hx (eE L wide h0 q).1).length=(eE L wide h0 q).1.length:=atb _;have alV:=lZ.MW (B:=B) (b_:=Fin L.length) (λi=>u (i.1:Nat)) (λi=>⟨_,rfl,ai,ai⟩) (J2 L wide) 284 [.a8 1 [.Q .none 3 (dZ L)] 0 0,.a8 1 [.bool wide] 0 0] (λi j=>Yt aW L wide i.1 j.1 i.2 j.2 kO) (vs (x.1+1)) (jG L ((x.1+1:Nat):Int) (L.length-1)) (by have:=J3 (PT L (p:=((x.1+1:Nat):Int)) (m:=L.length-1));omega);refine go ?_;refine wU (t:=decide ((q:Int)<((hx (eE L wide h0 q).1).length:Nat))) (by rw[gB];simpa using lj) ?_;refine bD (u (x.1:Nat)) P3 ?_;refine dN (YB 34 rfl rfl rfl rfl rfl rfl (PW cy) (YE P0 (x.1+1)) as7) ?_;refine mn [(2000,7500)] alV ?_;refine Gw 7500 13 ?_;obtain⟨bV,gd⟩:∃bV,AU L wide ((x.1+1:Nat):Int)=bV:=⟨_,rfl⟩;rw[show(gf (J2 L wide) (jG L ((x.1+1:Nat):Int) (L.length-1))).map (λi=>u (i.1:Nat))=hx bV from by rw[<-gd];rfl];(have J6:(eE L wide h0 q).2=((eE L wide h0 q).2||sq L wide bV 1):=by simp[sq]);have alW:(hx bV).length=bV.length:=atb _;(have arO:bV.length<=L.length:=by rw[<-gd];exact J3 (Yw L wide));refine go ?_;refine fZ (λk:Nat=>1<=k/\(k=1\/k<=bV.length)) [2,3,7,10,12,13,14] [34,1000] (λk=>[(11,.bool ((eE L wide h0 q).2||sq L wide bV k)),(15,u k)]) (λ_=>[]) (λk=>bV.length+1-k) 1 ⟨atg _,.inl rfl⟩ [(34,34),(1000,1000)] ?_;rintro k ⟨yO,te⟩;refine go ?_;rw[alW];refine cb (t:=decide ((k:Int)<(bV.length:Nat))) ?_ ?_<;>intro hc;obtain⟨er,m5⟩:∃er,((eE L wide h0 q).2||sq L wide bV k)=er:=⟨_,rfl⟩;(have eR:k<bV.length:=by have:=atw hc;omega);(have vL:(hx bV)[((k:Int)-1).toNat]?=some (.int .i64 (bV[k-1].1:Nat)):=by rw[show((k:Int)-1).toNat=k-1 by omega];simp only[hx,atA];rw[ata asZ];rfl);(have w9:(hx bV)[(k:Int).toNat]?=some (.int .i64 (bV[k].1:Nat)):=by rw[atE];simp only[hx,atA];rw[ata asZ];rfl);have alX:=Yt (B:=B) aW L wide bV[k-1].1 bV[k].1 bV[k-1].2 bV[k].2 kO;(have alY:sq L wide bV (k+1)=(sq L wide bV k||xn L[bV[k-1].1].id L[bV[k].1].id wide==0):=by obtain⟨bB,rfl⟩:∃bB,k=bB+1:=⟨k-1,by omega⟩;rw[sq,ata asZ,ata asZ];rfl);generalize xn L[bV[k-1].1].id L[bV[k].1].id wide=ca at*;rw[m5];refine go ?_;refine vo ?_;refine bD _ vL ?_;refine bD _ w9 ?_;refine bp alX ?_;(have dm:(bif er then true else ca==0)=((eE L wide h0 q).2||sq L wide bV (k+1)):=by rw[alY,<-Bool.or_assoc,m5];cases er<;>rfl);exact eK (k+1) [(34,34),(1000,1000)] ⟨by omega,.inr asZ⟩;(have alZ:sq L wide bV k=sq L wide bV bV.length:=by have kn:=atl hc;rcases te with h|h;subst h;(match F:bV.length with|0=>rfl|1=>rfl|n+2=>omega);rw[show k=bV.length by omega]);have arP:=Yz L wide h0 q;(have x0:eE L wide h0 (q+1)=((eE L wide h0 q).1++bV,(eE L wide h0 q).2||sq L wide bV bV.length):=by rw[eE,I];simp only;rw[gd]);have al0:=alK (L:=L) (vs:=vs) (f:=λp=>jG L (p:Nat) (L.length-1)) (alO (L:=L) (wide:=wide) (h0:=h0) I);(have iy:hx (eE L wide h0 q).1++hx bV=hx (eE L wide h0 (q+1)).1:=by rw[x0];simp[hx]);rw[alZ];refine X.exit ?_;(conv=>whnf);refine go ?_;intro gN;(conv=>whnf);refine go ?_;refine yk (q+1,gN) (by dsimp only;rw[x0];simp only[atf];omega) (by dsimp only;rw[al0];exact pl [(34,34),(1000,111)] (CS (YF _ _ _ _) _) (h1:=⟨E,E,E,aq.j6 iy,EA (by rw[x0]),E,ai⟩) (fY:=⟨rfl,rfl,rfl,ky (by rw[<-iy,atf]),ai⟩))
theorem YO(L:List f2)(l:List (Fin L.length)):∀k,(gH L l k).2.length<=k/\∀x∈(gH L l k).2,∃y∈L,x.id=y.id
 |0=>by rw[gH];exact⟨atg _,λx I=>by cases I⟩
 |k+1=>by have aY:=YO L l k;rw[gH];split;simp only[atf,ath,atD];refine⟨by omega,λx I=>?_⟩;rcases atB.1 I with h|h;exact aY.2 x h;rw[atW]at h;subst h;exact⟨_,ate _,rfl⟩;exact⟨by omega,aY.2⟩
theorem YP(L:List f2)(wide:Bool):(nL L wide).1.length<=L.length/\∀x∈(nL L wide).1,∃y∈L,x.id=y.id:=by unfold nL;repeat (first|(exact⟨atq _,λx I=>by cases I⟩)|(exact YO L _ _)|split)
noncomputable def ss(aG:bP->List c_)(wide:Bool)(aC:List (as8×Int))(be:Nat->List bP)(a:Int):Int×Int :=
 if v_ aG be aC.length=0 then(y4 aG wide be aC.length (a+2*j9 (kH (nL (mI aC λ_=>0) wide).1)),0)else(0,v_ aG be aC.length)
theorem YQ(aW:dc B)(bR:bP->D)(hs:∀x,(bR x).one=true)(aG:bP->List c_)(wide:Bool)(lC:aI)(aC:List (as8×Int))(be:Nat->List bP)(vs:Nat->Value)(b4:Value)(dJ:Nat)(a:Int)(ha:0<=a/\a<=1000000000000000)(ax:aC.length<=100000)(M:∀p∈aC,p.1.length<=10000/\(wide=false->im p.1)/\0<=p.2/\p.2<=1000000)(aj:∀i,i<aC.length->(be i).length<400000)(PB:fL (λi=>((be i).length:Nat)) 0 aC.length<=10000000)(kO:∀i,i<aC.length->∀x∈be i,x.id.length<1000000/\(wide=false->im x.id)/\(aG x).length<1000000/\∀y∈aG x,y.qs.length<1000000/\y.data.length<1000000)(Gq:∀i,i<aC.length->∀x∈be i,AQ B lC (bR x) (aG x)): cZ B 110 [.box 4110 dJ 0,u a] (cU [(4110,.box dJ [.bool wide,.al b4,u 0,u 0,u 0]),(4111,.row b4 (eT aC vs (λ_=>0) (λ_=>0)) 5 249),(7100,lC)] (iP vs (λi=>(be i).map (jC bR)) aC.length)) λd _=>d=.bo [u (ss aG wide aC be a).1,u (ss aG wide aC be a).2]:=by(have J7:∀x∈mI aC (λ_=>0),x.id.length<=10000/\(wide=false->im x.id)/\1<=x.dq/\x.dq<=1000001:=λx I=>by obtain⟨j,ad,rfl⟩:=awB.1 I;have:=M aC[j] (ate _);exact⟨this.1,this.2.1,by dsimp only;omega,by dsimp only;omega⟩);have dj:=C3 (aC:=aC) (aZ:=λ_=>0);have ah:=YP (mI aC λ_=>0) wide;have PO:=alP (B:=B) aW (mI aC λ_=>0) wide (λx I=>⟨by have:=(J7 x I).1;omega,(J7 x I).2.1⟩) (λx I=>by have:=(J7 x I).2.2;omega) asZ;have al1:=alw (B:=B) aC vs (λ_=>0) (λ_=>0) wide b4 0 0 0 dJ _ _ _ asZ (λd N=>by have:=(M d N).2.2;omega) PO;have Gz:=akR aW bR hs aG wide lC aC be vs b4 dJ a (nL (mI aC λ_=>0) wide).1 ha asZ ⟨by omega,λx I=>by obtain⟨y,hy,ao⟩:=ah.2 x I;rw[ao];exact(J7 y hy).1⟩ aj PB kO Gq al1;refine Gz.mono ?_;intro d aO h;rw[h];unfold Gp ss;split<;>rfl
theorem al2(aP:List eM)(vs:Nat->Value):k7 aP vs aP.length=eT (aP.map λd=>(d.id,d.cA)) vs (λ_=>0) (λ_=>0):=by unfold k7 eT;apply aus;simp;intro j h1 A;simp
theorem al3(bV:D)(bK:Nat)(aP:List eM)(vs:Nat->Value)(be:Nat->List bP)(n:Nat):nI bV bK aP vs be n=iP vs (λi=>(be i).map (jC λx=>kh bV bK aP x.hu)) n:=rfl
variable{f:FuncId}{ds:List D}{d:D}
theorem mO.P4(hs:List (Nat×aI))(h:aU B f ds d):cZ B f ds (aK hs) λd' aO=>d'=d/\aO=aK hs :=
 ⟨h.1,λw C args Ft F aj hH ae=>(h.2 w C args F ae).mono λe w' ⟨v,aQ,ao,W,a1⟩ =>
  ⟨v,d,aQ,aK hs,ao,⟨rfl,rfl⟩,W,⟨a1.ext,a1.os,a1.tape,a1.output,λb qN ax=>a1.iv b qN λh=>h.elim⟩,
   ⟨(hH.tJ a1).ch,(hH.tJ a1).inj,λs o b ah an=>.inl ((hH.tJ a1).cN s o b ah an)⟩⟩⟩
theorem YR(lC:aI):AQ B lC (.fn (.func 229) [] []) []:=⟨229,[],[],rfl,mO.P4 _ (agJ 173)⟩
theorem aq.YS{o:Nat}:aq (.box k b o) (.al (.pointer (some ⟨b,o,none⟩))):=⟨λw C ak h=>by rw[h.wu];exact .al _⟩
def YT:Option Nat->D
 |none=>.al (.pointer none)
 |some b=>.box 4110 b 0
theorem al4(x:Option Nat):∃p,aq (YT x) (.al (.pointer p)):=by cases x with|none=>exact⟨_,E⟩|some b=>exact⟨_,aq.YS⟩
variable{cv:bF}
theorem YU{aZ:List (Nat × aI)}(ag : List (Nat × aI))(cG : qa cv)(sD : ∀k o,10000<=k->cv k = some o->z.H k = some o)(h1 : mP z aZ := by repeat (first|exact trivial|refine⟨rfl,?_⟩))(Y : ∀k,(aK aZ k).isSome = (aK ag k).isSome := by
      intro k;simp only[aK]
      repeat (first|rfl|(cases Nat.beq k _;simp only[aun];rotate_left;rfl))):∀k o,cU aZ cv k=some o->qy ag k=true/\z.H k=some o:=λk o h=>by
 have:=PH cG sD h1 k o h;exact⟨by have A:=this.1;unfold qy at A⊢;rw[<-Y];exact A,this.2⟩
structure P5 (o:f1) (ap:List (as8×aa)) (n:aa):Prop where
 wJ:y7 n
 w:o2 n<1000000
 len:(kJ o ap n).aC.length<=100000
 aC:∀p∈(kJ o ap n).aC,p.1.length<=10000/\0<=p.2/\p.2<=1000000
 be:∀i,i<(kJ o ap n).aC.length->((kJ o ap n).be i).length<400000
 sum:fL (λi=>(((kJ o ap n).be i).length:Nat)) 0 (kJ o ap n).aC.length<=10000000
 id:∀i,∀x∈(kJ o ap n).be i,x.id.length<1000000
noncomputable def mJ(o:f1)(ap:List (as8×aa))(aP:List eM)(cm:List gu)(aG:bP->List c_):Int×Int:=ss aG false (aP.map λd=>(d.id,d.cA)) (e' o ap aP cm) 1
noncomputable def lE(o:f1)(ap:List (as8×aa))(n:aa)(aP:List eM)(cm:List gu)(aG:bP->List c_):Int×Int :=
 if(mJ o ap aP cm aG).2=0/\o.q4=true then ss (λ_=>[]) true (kJ o ap n).aC (kJ o ap n).be (mJ o ap aP cm aG).1 else mJ o ap aP cm aG
theorem al5(aW:dc B)(o:f1)(n:aa)(bU bE:Nat)(ap:List (as8×aa))(aP:List eM)(cm:List gu)(y1:Int)(Gj:aU B 158 [aE n,.bool o.rock] (.bo [.Q .none 6 (aP.map gF),.Q .none 7 (cm.map fl),u y1]))(N:aP.length<=1000)(fr:cm.length<=1000)(s_:∀d∈aP,0<=d.cA/\d.cA<(aP.length:Nat))(m5:∀e∈cm,0<=e.eP/\e.eP<(aP.length:Nat))(P6:∀d∈aP,d.id.length<=10000/\im d.id)(aG:bP->List c_)(Gq:∀bK i,i<aP.length->∀x∈e' o ap aP cm i,AQ B (.mp bK (br (D.int .i64) (o0 aP aP.length))) (kh (.a8 26 [dE o n bU bE] 0 0) bK aP x.hu) (aG x))(kO:∀i,i<aP.length->∀x∈e' o ap aP cm i,x.id.length<1000000/\im x.id/\(aG x).length<1000000/\∀y∈aG x,y.qs.length<1000000/\y.data.length<1000000)(B5:o.q4=true->P5 o ap n)(mS:0<=(mJ o ap aP cm aG).1/\(mJ o ap aP cm aG).1<=1000000000000)(g6:0<=(lE o ap n aP cm aG).1/\(lE o ap n aP cm aG).1<=1000000000000): cZ B 77 [.a8 26 [dE o n bU bE] 0 0,u 1] (aK [(4103,.mp bU (br aE ap)),(4104,.mp bE (br a_ []))]) λd aO=>∃ig v2,d=.bo [.agg [.al (.pointer ig),.al (.pointer v2),u (lE o ap n aP cm aG).1,u ((lE o ap n aP cm aG).1+if 0<o.gh.length then 1 else 0)],u (lE o ap n aP cm aG).2]:=by have P7:=akm (B:=B) o n bU bE ap aP cm y1 Gj asZ asZ s_ m5;simp only[al2,al3]at P7;have dm:(aP.map λd=>(d.id,d.cA)).length=aP.length:=atb _;obtain⟨aC,sF⟩:∃aC,(aP.map λd=>(d.id,d.cA))=aC:=⟨_,rfl⟩;(have xt:∀p∈aC,p.1.length<=10000/\(false=false->im p.1)/\0<=p.2/\p.2<=1000000:=λp aw=>by rw[<-sF]at aw;obtain⟨d,r1,rfl⟩:=aty.1 aw;have:=P6 d r1;have:=s_ d r1;exact⟨(P6 d r1).1,λ_=>(P6 d r1).2,by dsimp only;omega,by dsimp only;omega⟩);(have YV:∀i,i<aP.length->(e' o ap aP cm i).length<400000:=λi _=>by have:=Gi (o:=o) (ap:=ap) (aP:=aP) (cm:=cm) (i:=i);omega);(have AE:fL (λi=>((e' o ap aP cm i).length:Nat)) 0 aP.length<=10000000:=by have:=CW (bC:=λi=>((e' o ap aP cm i).length:Nat)) (a:=0) (b:=1002) (n:=aP.length) (λi hi=>⟨by omega,by have:=Gi (o:=o) (ap:=ap) (aP:=aP) (cm:=cm) (i:=i);omega⟩) aP.length (atg _);omega);(have YJ:mJ o ap aP cm aG=ss aG false aC (e' o ap aP cm) 1:=by unfold mJ;rw[sF]);have xw:lE o ap n aP cm aG=if(mJ o ap aP cm aG).2=0/\o.q4=true then ss (λ_=>[]) true (kJ o ap n).aC (kJ o ap n).be (mJ o ap aP cm aG).1 else mJ o ap aP cm aG:=rfl;rw[sF]at P7 dm;rw[<-dm]at YV AE;have Gz:=λbK vs b4 dJ=>YQ (B:=B) aW (λx=>kh (.a8 26 [dE o n bU bE] 0 0) bK aP x.hu) (λx=>JD _ _ _ _) aG false (.mp bK (br (D.int .i64) (o0 aP aP.length))) aC (e' o ap aP cm) vs b4 dJ 1 asZ asZ xt YV AE (λi hi x I=>by have:=kO i asZ x I;exact⟨this.1,λ_=>this.2.1,this.2.2.1,this.2.2.2⟩) (λi hi x I=>Gq bK i asZ x I);rw[<-YJ]at Gz;simp only[dm]at Gz;generalize NN:mJ o ap aP cm aG=C6 at*;generalize NO:lE o ap n aP cm aG=y_ at*;refine yf Tryz.func77 Tryz.ntmps77 λU=>?_;refine go ?_;intro cT;(conv=>whnf);refine go ?_;refine .inr (af.y2 rfl [.a8 26 [dE o n bU bE] 0 0] (qy [(4103,.mp 0 []),(4104,.mp 0 []),(4110,.mp 0 []),(4111,.mp 0 []),(7100,.mp 0 [])]) (λk o ah=>?_) P7 ?_ ?_);simp only[aK]at ah;(cases h1:Nat.beq k 4103 with|true=>have:=atx h1;subst this;exact⟨rfl,ah⟩|false =>rw[h1]at ah;(cases A:Nat.beq k 4104 with|true=>have:=atx A;subst this;exact⟨rfl,ah⟩|false=>rw[A]at ah;cases ah));exact i_;rintro d aO ⟨lB,bK,b4,vs,rfl,rfl⟩;refine⟨_,E,?_⟩;(conv=>whnf);refine c1 ?_;intro dY;(conv=>whnf);refine go ?_;refine .inr (af.y2 rfl [.box 4110 lB 0,u 1] (qy [(4110,.mp 0 []),(4111,.mp 0 []),(7100,.mp 0 [])]) (YU [(4110,.mp 0 []),(4111,.mp 0 []),(7100,.mp 0 [])] (gG _ _ _) (λq o G ah=>by(repeat (refine JS G ?_));exact JT G ah)) (Gz bK vs b4 lB) ?_ ?_);exact i_;rintro d aO rfl;refine⟨_,E,?_⟩;(conv=>whnf);refine go ?_;refine X.jp 6 (du:=[.al (.pointer (some ⟨lB,0,none⟩)),.al (.pointer none),u 0,u 0]) rfl ⟨aq.YS,E,E,E,ai⟩ ?_;refine X.p2 7100 12 234 ?_;refine m6 (α:=Option Nat) (λ_=>True) [0,4] [4103,4104,4] (λ_=>[(6,.box 6 dY 0),(7,u y_.1),(8,u y_.2)]) (λx=>[(6,.box dY [.al (.pointer (some ⟨lB,0,none⟩)),YT x,u 0,u 0])]) ?_ ?_;(·refine cb (t:=bif C6.2==0 then o.q4 else false) ?_ ?_<;>intro hc;(·(have fc:C6.2=0/\o.q4=true:=by cases h:C6.2==0 with|true=>rw[h]at hc;exact⟨by simpa using h,hc⟩|false=>rw[h]at hc;cases hc);rw[as_ fc]at xw;have ad:=B5 fc.2;have al6:=als (B:=B) aW o n bU bE ap ad.wJ ad.w;have YW:=λvs b4 dJ=>YQ (B:=B) aW rm (λ_=>rfl) (λ_=>[]) true (.row (.slice none 0 0) [] 12 234) (kJ o ap n).aC (kJ o ap n).be vs b4 dJ C6.1 asZ ad.len (λp aw=>⟨(ad.aC p aw).1,λh=>(by cases h),(ad.aC p aw).2⟩) ad.be ad.sum (λi hi x I=>⟨ad.id i x I,λh=>(by cases h),as1,λy hy=>(by cases hy)⟩) (λi hi x I=>YR _);rw[<-xw]at YW;generalize kJ o ap n=oa at*;refine go ?_;refine .inr (af.y2 rfl [.a8 26 [dE o n bU bE] 0 0] (qy [(4103,.mp 0 []),(4104,.mp 0 []),(4110,.mp 0 []),(4111,.mp 0 [])]) (λk o ah=>?_) al6 ?_ ?_);simp only[aK]at ah;(cases h1:Nat.beq k 4103 with|true=>have:=atx h1;subst this;exact⟨rfl,by rw[h1]at ah;exact ah⟩|false =>rw[h1]at ah;(cases A:Nat.beq k 4104 with|true=>have:=atx A;subst this;exact⟨rfl,by rw[A]at ah;exact ah⟩|false=>rw[A]at ah;cases ah));exact i_;rintro d jS ⟨P8,arQ,tl,gy,rfl,rfl⟩;refine⟨_,E,?_⟩;(conv=>whnf);refine go ?_;refine .inr (af.y2 rfl [.box 4110 P8 0,u C6.1] (qy [(4110,.mp 0 []),(4111,.mp 0 []),(7100,.mp 0 [])]) (YU [(4110,.mp 0 []),(4111,.mp 0 []),(7100,.mp 0 [])] (gG _ _ _) (λq o G ah=>by(repeat (refine JS G ?_));exact JT G ah)) (YW gy tl P8) ?_ ?_);exact i_;rintro d arR rfl;refine⟨_,E,?_⟩;(conv=>whnf);refine go ?_;exact gn (some P8) [(4103,4103),(4104,4104),(4,4),(6,6)] trivial);(have fc:¬(C6.2=0/\o.q4=true):=λh=>by rw[h.1,h.2]at hc;cases hc);rw[as9 fc]at xw;subst xw;refine go ?_;exact gn none [(4103,4103),(4104,4104),(4,4),(6,6)] trivial (A:=⟨cP,rfl,bb⟩));intro N5 _;obtain⟨v2,al7⟩:=al4 N5;refine X.jp 6 (du:=[.al (.pointer (some ⟨lB,0,none⟩)),.al (.pointer v2),u 0,u 0]) rfl ⟨E,al7,E,E,ai⟩ ?_;refine go ?_;have eA:(o.gh.map pp).length=o.gh.length:=atb _;rw[eA];obtain⟨lO,pv⟩:∃lO,(y_.1+if 0<o.gh.length then(1:Int)else 0)=lO:=⟨_,rfl⟩;rw[pv];refine m6 (α:=Unit) (λ_=>True) [4,6,8] [4,6] (λ_=>[(7,u lO)]) (λ_=>[]) ?_ ?_;refine cb (t:=decide ((0:Int)<(o.gh.length:Nat))) ?_ ?_<;>intro hc;rw[as_ (by have:=atw hc;omega)]at pv;refine go ?_;exact gn () [(4,4),(6,6)] trivial;rw[as9 (by have:=atl hc;omega),Int.add_zero]at pv;refine go ?_;exact gn () [(4,4),(6,6)] trivial;intro _ _;refine go ?_;refine⟨.bo [.agg [.al (.pointer (some ⟨lB,0,none⟩)),.al (.pointer v2),u y_.1,u lO],u y_.2],?_,_,v2,by rfl⟩;(conv=>whnf);apply cB;(conv=>whnf);exact ar
end Go.bS.cj
namespace Go.bS
open Go Go.RowKit
variable{P:Program}{B:World}{f:FuncId}{bq b:Nat}{aA ds:List D}{a7:D->bF->Prop}
theorem c7.freeze(s:Nat){x:D}{H:bF}(hs:H s=some (.box b aA))(I:x.cells=aA)(d9:aA.all D.one=true)(h:c7 P B f (.a8 aA.length [x] 0 0::ds) (λi=>_root_.cond (Nat.beq i s) none (H i)) a7):c7 P B f (.box bq b 0::ds) H a7:=by refine⟨h.1,λw C args Ft F qQ hH kr=>?_⟩;obtain⟨vs,e,h1,A,Z⟩:=hH.ch s _ hs;have tE:Ft b:=hH.cN s _ b hs rfl;have jo:nO w C w (gz C b aA.length):=⟨atg _,λx _=>D9 C b _ asZ x,λ_ _ _ _=>rfl⟩;have a1:da Ft w C w (gz C b aA.length):=⟨jo,rfl,rfl,rfl,λy _ hy=>⟨rfl,rE _ _ (λe=>hy (e ▸ tE))⟩⟩;have qW:=A.ext jo;have dM:bh w (gz C b aA.length) (.Q .none aA.length [x]) (.slice (some ⟨b,0,none⟩) 1 1) := xW (xs:=[x]) (vs:=vs) (ko:=(0,0)) (e:=e) h1 (λy hy=>by rw[atW.1 hy,I]) (atg _) as2 (by rw[hB];simp) (λi d N=>by(have ho:aA[i]?=some d:=by simpa[b1,I]using N);obtain⟨ak,an⟩:=lI (l:=vs) (i:=i) (by rw[<-A.1];exact e9 ho);exact⟨ak,an,qW.2 i d ak ho an,A.one d9 ak (atz.2 ⟨i,an⟩)⟩) trivial;(have a6:∀{j:Nat} {o:aI},_root_.cond (Nat.beq j s) none (H j)=some o->j≠s/\H j=some o:=λ{j o} ah=>by cases ad:Nat.beq j s with|true=>rw[ad]at ah;cases ah|false=>rw[ad]at ah;exact⟨(λe=>(by subst e;rw[auB]at ad;cases ad)),ah⟩);(have EK:l8 Ft w (gz C b aA.length) (λi=>_root_.cond (Nat.beq i s) none (H i)):=by refine⟨λj o ah=>?_,λj ew o bL y ax aD bc an cW=>hH.inj j ew o bL y ax (a6 aD).2 (a6 bc).2 an cW,λj o y ah an=>hH.cN j o y (a6 ah).2 an⟩;obtain⟨ad,tY⟩:=a6 ah;exact(hH.ch j o tY).iv jo λy hy=>⟨rfl,rE _ _ (λe=>by subst e;exact hH.inj s j _ o y (Ne.symm ad) hs tY rfl hy)⟩);(have al8:db w (gz C b aA.length) (.a8 aA.length [x] 0 0::ds) args:=by refine⟨by have:=kr.1;simpa using this,λi d v aD bc=>?_⟩;cases i with|zero =>simp at aD;subst aD;have cL:=kr.2 0 _ v rfl bc;(have eV:v=.pointer (some ⟨b,0,none⟩):=by cases cL;rfl);rw[eV];have:=bh.a8 aA.length [x] 0 0 b 0 1 dM;simpa using this|succ i=>exact(kr.2 (i+1) d v (by simpa using aD) bc).ext jo);refine(h.2 w _ args Ft F qQ EK al8).mono ?_;rintro e w' ⟨v,d,aQ,aO,ao,G,ae,al9,no⟩;exact⟨v,d,aQ,aO,ao,G,ae,a1.trans al9 (λ_ _ h=>h),no⟩
end Go.bS
namespace Go.bS.cj
open Go Go.Proofs
variable{B:World}
structure al_ (B:World) (o:f1) (n:aa) (ap:List (as8×aa)) (aP:List eM) (cm:List gu) (aG:bP->List c_):Prop where
 al':∃y1,aU B 158 [aE n,.bool o.rock] (.bo [.Q .none 6 (aP.map gF),.Q .none 7 (cm.map fl),u y1])
 J8:aP.length<=1000
 bD:cm.length<=1000
 Gh:∀d∈aP,0<=d.cA/\d.cA<(aP.length:Nat)
 J9:∀e∈cm,0<=e.eP/\e.eP<(aP.length:Nat)
 J_:∀d∈aP,d.id.length<=10000/\im d.id
 ama:∀bU bE bK i,i<aP.length->∀x∈e' o ap aP cm i,AQ B (.mp bK (br (D.int .i64) (o0 aP aP.length))) (kh (.a8 26 [dE o n bU bE] 0 0) bK aP x.hu) (aG x)
 amb:∀i,i<aP.length->∀x∈e' o ap aP cm i,x.id.length<1000000/\im x.id/\(aG x).length<1000000/\∀y∈aG x,y.qs.length<1000000/\y.data.length<1000000
 q4:o.q4=true->P5 o ap n
 dB:0<=(mJ o ap aP cm aG).1/\(mJ o ap aP cm aG).1<=500000000
 cg:0<=(lE o ap n aP cm aG).1/\(lE o ap n aP cm aG).1<=900000000
noncomputable def xE(o:f1)(n:aa)(ap:List (as8×aa))(aP:List eM)(cm:List gu)(aG:bP->List c_):Int×Int :=
 if q7 n o=0 then(if(lE o ap n aP cm aG).2=0 then((lE o ap n aP cm aG).1+(if 0<o.gh.length then 1 else 0)-1,0)else(0,(lE o ap n aP cm aG).2))else(0,q7 n o)
theorem YX(aW:dc B)(o:f1)(n:aa)(bH:aB n+n.name.length<10000000)(cu:as8->aa×Int)(bT:List as8)(q8:bT.length<1000000)(ij:aU B 96 [aE n] (.Q .none 1 (aN bT)))(kb:∀p∈bT,aU B 17 [aE n,.O p] (.bo [aE (cu p).1,u (cu p).2]))(aP:List eM)(cm:List gu)(aG:bP->List c_)(hO:q7 n o=0->al_ B o n (f3 cu n bT) aP cm aG): aU B 30 [aE n,r6 o] (.bo [u (xE o n (f3 cu n bT) aP cm aG).1,u (xE o n (f3 cu n bT) aP cm aG).2]):=by have amc:=af7 (B:=B) aW n o bH;have amd:=ajW (B:=B) cu n o bT q8 ij kb;have W:xE o n (f3 cu n bT) aP cm aG=if q7 n o=0 then(if(lE o (f3 cu n bT) n aP cm aG).2=0 then((lE o (f3 cu n bT) n aP cm aG).1+(if 0<o.gh.length then 1 else 0)-1,0)else(0,(lE o (f3 cu n bT) n aP cm aG).2))else(0,q7 n o):=rfl;generalize f3 cu n bT=ap at*;generalize q7 n o=YY at*;refine fn Tryz.func30 Tryz.ntmps30 λU=>?_;refine go ?_;intro cg;(conv=>whnf);refine c1 ?_;intro eG;(conv=>whnf);refine go ?_;refine bp amc ?_;refine cb (t:=!(YY==0)) ?_ ?_<;>intro hc;rw[as9 (by simpa using hc)]at W;rw[W];refine go ?_;exact ar;(have C7:YY=0:=by simpa using hc);rw[as_ C7]at W;have aw:=hO C7;obtain⟨y1,dj⟩:=aw.al';have YZ:=λbU bE=>al5 (B:=B) aW o n bU bE ap aP cm y1 dj aw.J8 aw.bD aw.Gh aw.J9 aw.J_ aG (aw.ama bU bE) aw.amb aw.q4 (by have:=aw.dB;omega) (by have:=aw.cg;omega);have g6:=aw.cg;generalize lE o ap n aP cm aG=y_ at*;obtain⟨lO,pv⟩:∃lO,(y_.1+if 0<o.gh.length then(1:Int)else 0)=lO:=⟨_,rfl⟩;(have vL:0<=lO/\lO<=900000001:=by rw[<-pv];split<;>omega);rw[pv]at W YZ;refine go ?_;refine .inr (af.y2 rfl [Xt,aE n,.bj,r6 o] (qy [(4102,.mp 0 []),(4103,.mp 0 []),(4104,.mp 0 [])]) (λk o ah=>by cases ah) amd ?_ ?_);exact i_;rintro d aO ⟨dX,bU,bE,rfl,rfl⟩;refine⟨_,E,?_⟩;(conv=>whnf);have ame:cZ B 77 (.box 4102 dX 0::[u 1]) (aK (AI dX bU bE o n ap)) _:=c7.freeze 4102 (x:=dE o n bU bE) (aA:=(dE o n bU bE).cells) rfl rfl rfl (by(have e:(λi=>_root_.cond (Nat.beq i 4102) none (aK (AI dX bU bE o n ap) i))=aK [(4103,.mp bU (br aE ap)),(4104,.mp bE (br a_ []))]:=by funext i;simp only[AI,aK];cases h1:Nat.beq i 4102 with|true=>have:=atx h1;subst this;rfl|false=>rfl);rw[e];exact YZ bU bE);refine go ?_;refine .inr (af.y2 rfl [.box 4102 dX 0,u 1] (qy [(4102,.mp 0 []),(4103,.mp 0 []),(4104,.mp 0 [])]) (λk o ah=>?_) ame ?_ ?_);simp only[aK,AI]at ah;(cases h1:Nat.beq k 4102 with|true=>have:=atx h1;subst this;exact⟨rfl,by rw[h1]at ah;exact ah⟩|false =>rw[h1]at ah;(cases A:Nat.beq k 4103 with|true=>have:=atx A;subst this;exact⟨rfl,by rw[A]at ah;exact ah⟩|false =>rw[A]at ah;(cases Z:Nat.beq k 4104 with|true=>have:=atx Z;subst this;exact⟨rfl,by rw[Z]at ah;exact ah⟩|false=>rw[Z]at ah;cases ah)));exact i_;rintro d jS ⟨ig,v2,rfl⟩;refine⟨_,E,?_⟩;(conv=>whnf);refine c1 ?_;intro dI;(conv=>whnf);refine go ?_;refine cb (t:=!(y_.2==0)) ?_ ?_<;>intro bs;rw[as9 (by simpa using bs)]at W;rw[W];refine go ?_;exact ar;rw[as_ (by simpa using bs)]at W;rw[W];refine go ?_;exact ar
structure nM (m:as8) (bd:Bool) (bw bV:as8):Prop where
 a:oq bw 8=true
 IG:(46:UInt8)∉bw
 iF:(46:UInt8)∉bV
 eq:(bV=[]/\m=bw)\/(bV≠[]/\bd=false/\oq bV 3=true/\m=bw++46::bV)
variable{bw bV:as8}{bd:Bool}
theorem nM.name{m:as8}(h:nM m bd bw bV):XO m bd:=aj7 h.a h.IG h.iF h.eq
theorem nM.file{m:as8}(h:nM m bd bw bV):nM m false bw bV:=⟨h.a,h.IG,h.iF,by
 rcases h.eq with h|⟨h1,A,Z,aD⟩
 ·exact .inl h
 exact .inr ⟨h1,rfl,Z,aD⟩⟩
variable{s:as8}
theorem Y0{m:Int}(h:oq s m=true):(s.length:Int)<=m:=by simp[oq]at h;exact h.2.1
theorem nM.len{m:as8}(h:nM m bd bw bV):m.length<=12:=by have:=Y0 h.a;rcases h.eq with⟨_,rfl⟩|⟨_,_,Z,rfl⟩;omega;have:=Y0 Z;simp;omega
variable{k:Nat}
theorem amf(hs:dQ s=true)(bd:Bool)(Y:k<100):∃bw bV,nM (kd 0 (fQ 0 s bd).1 (fQ 0 s bd).2 k) bd bw bV:=by obtain⟨l,e,h0,h1⟩:=aiV (.inl rfl) hs bd Y;obtain⟨a,b,h⟩:=h0 rfl;rw[e];(have Y1:q' 46=false:=by decide);refine⟨cw a,cw b,XK (m:=8) h.bp h.gT h.zW as2,XL h.bp Y1,XL h.cb Y1,?_⟩;have G:=h.eq;by_cases F:b=[];rw[as_ F]at G;exact .inl ⟨by rw[F];rfl,by rw[G]⟩;rw[as9 F]at G;refine .inr ⟨λe=>F (I8.1 e),?_,XK (m:=3) h.cb ?_ h.eG as2,?_⟩;(cases bd with|false=>rfl|true=>exact absurd (h.bd rfl) F);(cases b with|nil=>exact absurd rfl F|cons x r=>simp);rw[G,AC,WB,Oc 46 as2 as2];rfl
variable{ag:List aa}{i:Nat}
theorem Y2(gP:ag.length<=64)(h:∀k∈ag,dQ k.name=true)(hi:i<ag.length):∃bw bV,nM ((ce 0 ag)[i]'(by rw[oo];exact hi)) (ag[i].kind==0) bw bV:=by rw[ai3 hi];obtain⟨j,ad,e⟩:=aj9 (.inl rfl) (hj 0 (ag.take i)) ag[i] (by rw[th,atv];omega);rw[e];exact amf (h _ (ate hi)) _ ad
theorem amg(i:Nat):[82,82,95,77,79,86]++Lib.decDigits (i+1)=jg (i+1):=by rw[jg,as9 asZ]
theorem Y3:∀k,k<100->(Lib.decDigits k).length<=2:=by decide +kernel
theorem amh(aW:dc B)(J:List aa)(gP:J.length<=64)(cD:∀k∈J,dQ k.name=true/\k.name.length<1000000000)(mz:gM J):aU B 228 [.Q .none 12 (J.map enc)] (.O (jg (lz (ce 0 J)))):=by obtain⟨kD,lp,m_⟩:=Pl (gs:=ce 0 J) (by rw[oo];exact gP);have gr:=oo 0 J;refine bA Tryz.func228 Tryz.ntmps228 λU=>?_;refine go ?_;refine bp (((Ot aW (v:=0) as2).call J gP mz cD).1) ?_;refine .inr (af.makeMap λl2=>?_);refine go ?_;refine X.ec (α:={i:Nat // i<=J.length}×List as8) (λx=>[(5,.al (.map (some l2))),(16,.Q .none 1 (aN (ce 0 J))),(17,u (aN (ce 0 J)).length),(18,u x.1.1)]) (λx=>[(15,.set l2 ((ce 0 J).take x.1.1).reverse)]) (λx=>J.length-x.1.1) (⟨0,atq _⟩,[]) [(15,15)] ⟨ar,rfl,bb⟩ ?_;rintro⟨⟨i,hi⟩,_⟩;dsimp only;refine go ?_;refine aJ (decide ((i:Int)<(aN (ce 0 J)).length)) rfl ?_ ?_<;>intro hc;refine ff ?_;(have aH:i<J.length:=by simpa[aN,gr]using hc);(have CN:i<(ce 0 J).length:=by omega);refine gK ?_;refine⟨λ_=>by simp[aN];omega,?_⟩;refine go ?_;refine⟨.O (ce 0 J)[i],λ_=>by simp[aN,CN],?_⟩;refine go ?_;refine .inr (af.D_ 15 (dV:=9) (ek:=4) rfl rfl rfl rfl rfl rfl ?_);refine go ?_;exact⟨(⟨i+1,aH⟩,[]),[(15,15)],by show _-(i+1)<_-i;omega,ar,rfl,rfl,as' (λV=>some (aI.set l2 V)) (by rw[atc CN,List.reverse_append];rfl),ai⟩;refine go ?_;(have cd:i=J.length:=by simp[aN,gr]at hc;omega);have hC:(ce 0 J).take i=ce 0 J:=atC asZ;rw[hC];refine go ?_;refine X.ec (α:={i:Nat // i<=lz (ce 0 J)}) (λx=>[(5,.al (.map (some l2))),(8,.O (jg x.1)),(9,u ((x.1:Int)+1))]) (λx=>[(15,.set l2 (ce 0 J).reverse)]) (λx=>lz (ce 0 J)-x.1) ⟨0,atq _⟩ [(15,15)] ⟨ar,rfl,bb⟩ ?_;rintro⟨i,hi⟩;dsimp only;refine go ?_;refine .inr (af.L7 15 (dV:=9) (ek:=4) rfl rfl as7 rfl rfl rfl ?_);refine go ?_;refine aJ _ rfl ?_ ?_<;>intro hc;refine ff ?_;(have hm:jg i∈ce 0 J:=by simpa using hc);(have aH:i<lz (ce 0 J):=by rcases ats i (lz (ce 0 J))with h|h;exact h;(have:i=lz (ce 0 J):=by omega);subst this;exact absurd hm lp);have jN:=Y3 (i+1) asZ;refine kx ?_;refine m0 ?_;refine⟨[u ((i+1:Nat):Int)],_,λ_=>N' (i+1) asZ,ar,?_⟩;(conv=>whnf);refine mZ ?_;exact⟨⟨i+1,aH⟩,[(15,15)],by show _-(i+1)<_-i;omega,⟨E,aq.of_eq (as' D.O (amg i)),E,ai⟩,rfl,bb⟩;refine go ?_;(have hm:jg i∉ce 0 J:=by simpa using hc);(have:i=lz (ce 0 J):=by rcases ats i (lz (ce 0 J))with h|h;exact absurd (m_ i h) hm;omega);subst this;exact E
theorem GA(i:Int)(s:Nat)(hi:-1<=i/\i<1000000)(hs:s<=1):aU B 227 [u i,.a8 1 [u (s:Int)] 0 0] (u (if i<=0 then i else i+s)):=by refine bA Tryz.func227 Tryz.ntmps227 λU=>?_;refine go ?_;refine aJ _ rfl ?_ ?_<;>intro hc;refine go ?_;(have h0:i<=0:=by simpa using hc);rw[as_ h0];exact E;apply cr;apply b2;refine x6 (u (s:Int)) ?_;refine go ?_;(have h0:¬i<=0:=by simpa using hc);rw[as9 h0];exact E
theorem P9(x:aT):∀{ag:List aa} {cS:List as8} {i:Nat} (h:i<ag.length) (bz:i<cS.length) (c:e6),fm (ag.take (i+1)) (cS.take (i+1)) x c=fm (ag.take i) (cS.take i) x c++(if(bX x ag[i] cS[i] (c.jA (fm (ag.take i) (cS.take i) x c))).any then bX x ag[i] cS[i] (c.jA (fm (ag.take i) (cS.take i) x c))::fT ag[i] (bX x ag[i] cS[i] (c.jA (fm (ag.take i) (cS.take i) x c))) ((c.jA (fm (ag.take i) (cS.take i) x c)).add (bX x ag[i] cS[i] (c.jA (fm (ag.take i) (cS.take i) x c))))else[])
 |k::r,m::cS,0,_,_,c=>by simp only[auP,avu,fm,e6.aj_,avk,aua,auw]
 |k::r,m::cS,i+1,h,bz,c=>by(have hi:i<r.length:=by simpa using h);(have hm:i<cS.length:=by simpa using bz);simp only[auP,fm,auA];by_cases ha:(bX x k m c).any=true;rw[as_ ha,as_ ha];have aY:=P9 x hi hm ((c.add (bX x k m c)).jA (fT k (bX x k m c) (c.add (bX x k m c))));(have e:c.jA (bX x k m c::(fT k (bX x k m c) (c.add (bX x k m c))++fm (r.take i) (cS.take i) x ((c.add (bX x k m c)).jA (fT k (bX x k m c) (c.add (bX x k m c))))))=((c.add (bX x k m c)).jA (fT k (bX x k m c) (c.add (bX x k m c)))).jA (fm (r.take i) (cS.take i) x ((c.add (bX x k m c)).jA (fT k (bX x k m c) (c.add (bX x k m c))))):=by rw[e6.XQ,e6.aj']);rw[e,aY,auh,atL];rw[as9 ha,as9 ha];exact P9 x hi hm c
mutual
theorem P_:∀(n:aa) (x:aT) (c:e6),(fT n x c).length+1<=fH n
 |.mk _ _ _ _ _ _ _ _ _ _ ag _,x,c=>by
  have:=J' ag (ce 0 ag) x c;simp only[fT,fH];omega
theorem J':∀(ag:List aa) (cS:List as8) (x:aT) (c:e6),(fm ag cS x c).length<=eX ag
 |[],_,_,_=>by simp[fm]
 |k::r,[],_,_=>by simp[fm]
 |k::r,m::cS,x,c=>by
  simp only[fm,eX];split
  ·have h1:=P_ k (bX x k m c) (c.add (bX x k m c));have A:=J' r cS x ((c.add (bX x k m c)).jA (fT k (bX x k m c) (c.add (bX x k m c))));simp only[ath,atf];omega
  have:=J' r cS x c;omega
end
theorem Y4:∀{ag:List aa} {i:Nat} (h:i<ag.length),eX (ag.take i)+fH ag[i]<=eX ag
 |k::r,0,_=>by simp[eX]
 |k::r,i+1,h=>by have:=Y4 (ag:=r) (i:=i) (by simpa using h);simp only[auP,eX,auA];omega
mutual
def rp:aa->Prop
 |.mk _ xX _ _ _ _ _ _ _ _ ag _=>(xX≠0->ag=[])/\tn ag
def tn:List aa->Prop
 |[]=>True
 |k::r=>rp k/\tn r
end
theorem Ka(n:aa):rp n↔(n.kind≠0->n.J=[])/\tn n.J:=by cases n;simp only[rp]
theorem P':∀{l:List aa} (_:tn l) {k:aa} (_:k∈l),rp k
 |x::r,h,k,Y=>by simp only[tn]at h;rcases atu.1 Y with rfl|Y;exact h.1;exact P' h.2 Y
structure GB (l:List aT) (s:aT) (p:aT):Prop where
 si:s.si=l.length
 ab:s.ab<l.length
 dq:l[s.ab]?=some p
 bd:p.de=true
 fi:s.fi=p.di
 any:s.any=true
 iso:s.iso=true->p.iso=true
 rock:s.rock=true->p.rock=true
 lv:s.lv=p.lv+1
 path:s.path=below p.path s.n.name (p.lv+1)
 Qa:s.n∈p.n.J
 lev:s.lev=if s.de then(if p.lev+1=9 then 3 else p.lev+1)else 0
 mv:s.mv=(s.de&&p.lev+1==9)
 di:s.di=(bO l).length
 mno:s.mno=(ee l).length+1
inductive fs (bm:Bool) (n:aa):List aT->Prop
 |y' (h0:n.kind=0):fs bm n [cV bm n]
 |we {l:List aT} {s p:aT} (h:fs bm n l) (hs:GB l s p):fs bm n (l++[s])
variable{α:Type}
theorem Y5(f:α->Bool)(l:List α)(s:α):((l++[s]).filter f).length=if f s then(l.filter f).length+1 else(l.filter f).length:=by rw[auy,atf];cases h:f s<;>simp[h]
def tp(c:e6)(l:List aT):Prop:=c.dp=l.length/\c.uI=(bO l).length/\c.aX=(ee l).length
theorem tp.add{c:e6}{l:List aT}(h:tp c l)(s:aT):tp (c.add s) (l++[s]):=by obtain⟨h1,A,Z⟩:=h;refine⟨by simp[e6.add,h1],?_,?_⟩;simp only[e6.add,bO,Y5];split<;>simp[A,bO];simp only[e6.add,ee,Y5];split<;>simp[Z,ee]
theorem tp.jA:∀{m:List aT} {c:e6} {l:List aT} (h:tp c l),tp (c.jA m) (l++m)
 |[],c,l,h=>by rw[aua];exact h
 |s::r,c,l,h=>by have:=(h.add s).jA (m:=r);rw[atL,awv]at this;exact this
variable{l:List aT}
theorem Qb{x:aT}{k:aa}{m:as8}{c:e6}(I:l[x.si]?=some x)(N:x.de=true)(hc:tp c l)(Y:k∈x.n.J)(ha:(bX x k m c).any=true):GB l (bX x k m c) x:=by obtain⟨h1,A,Z⟩:=hc;(have bi:x.si<l.length:=by rcases ats x.si l.length with h|h;exact h;rw[atj h]at I;cases I);refine⟨h1,bi,I,N,rfl,ha,λh=>?_,λh=>?_,rfl,rfl,Y,rfl,rfl,A,by show c.aX+1=_;rw[Z]⟩;simp only[bX,atd]at h;exact h.1;simp only[bX,atd]at h;exact h.1
mutual
theorem Qc(bm:Bool)(gg:aa):∀(n:aa) (x:aT) (c:e6) (l:List aT),fs bm gg l->x.n=n->rp n->l[x.si]?=some x->tp c l->fs bm gg (l++fT n x c)
 |.mk aX xX t tg gT a2 a3 a4 a5 zV ag cC,x,c,l,F,za,cD,I,hc=>by
  simp only[fT];have GC:=(Ka _).1 cD;by_cases N:xX=0
  ·refine Kb bm gg ag (ce 0 ag) x c l F (by rw[aT.de,za,N];rfl) (λk Y=>?_) GC.2 I hc;rw[za];exact Y
  have:ag=[]:=GC.1 N;subst this;simpa[fm]using F
theorem Kb(bm:Bool)(gg:aa):∀(ag:List aa) (cS:List as8) (x:aT) (c:e6) (l:List aT),fs bm gg l->x.de=true->(∀k∈ag,k∈x.n.J)->tn ag->l[x.si]?=some x->tp c l->fs bm gg (l++fm ag cS x c)
 |[],_,x,c,l,F,_,_,_,_,_=>by simpa[fm]using F
 |k::r,[],x,c,l,F,_,_,_,_,_=>by simpa[fm]using F
 |k::r,m::cS,x,c,l,F,N,b5,cD,I,hc=>by
  simp only[tn]at cD;simp only[fm];split
  ·rename_i ha;have a1:=Qb (m:=m) I N hc (b5 k atk) ha;have mS:=F.we a1;have fc:=hc.add (bX x k m c)
   have CK:(l++[bX x k m c])[(bX x k m c).si]?=some (bX x k m c):=by
    rw[a1.si];simp
   have g6:=Qc bm gg k (bX x k m c) (c.add (bX x k m c)) (l++[bX x k m c]) mS rfl cD.1 CK fc;have bs:=fc.jA (m:=fT k (bX x k m c) (c.add (bX x k m c)))
   have bi:x.si<l.length:=by
    rcases ats x.si l.length with h|h
    ·exact h
    rw[atj h]at I;cases I
   have F':(l++[bX x k m c]++fT k (bX x k m c) (c.add (bX x k m c)))[x.si]?=some x:=by
    rw[atL,atn bi];exact I
   have B7:=Kb bm gg r cS x _ _ g6 N (λbB fD=>b5 bB (ato _ fD)) cD.2 F' bs;simpa using B7
  exact Kb bm gg r cS x c l F N (λbB fD=>b5 bB (ato _ fD)) cD.2 I hc
end
theorem Y6(bm:Bool){n:aa}(cD:rp n)(h0:n.kind=0):fs bm n (Gf bm n):=by have:=Qc bm n n (cV bm n) ⟨1,1,0⟩ [cV bm n] (.y' h0) rfl cD rfl (by refine⟨rfl,?_,?_⟩;simp[bO,aT.de,cV,h0];simp[ee,cV]);exact this
theorem fs.tq{bm:Bool}{n:aa}(h:fs bm n l):l[0]?=some (cV bm n)/\0<l.length:=by induction h with|y' h0=>exact⟨rfl,by simp⟩|we h hs aY=>exact⟨by rw[atn aY.2];exact aY.1,by simp⟩
theorem fs.kind{bm:Bool}{n:aa}{l:List aT}(h:fs bm n l):n.kind=0:=by induction h with|y' h0=>exact h0|we h hs aY=>exact aY
theorem fs.at{bm:Bool}{n:aa}{l:List aT}(h:fs bm n l):∀{i:Nat} {s:aT},0<i->l[i]?=some s->∃p,GB (l.take i) s p:=by induction h with|y' h0=>intro i s hi hs;rw[atj as0]at hs;cases hs|@we l s p h a1 aY =>intro i t hi au;rcases ats i l.length with aj|aj;rw[atn aj]at au;rw[auR asZ];exact aY hi au;rcases ats l.length i with aV|aV;rw[atj as0]at au;cases au;(have:i=l.length:=by omega);subst this;rw[avg]at au;cases au;rw[auR (atg _),ati];exact⟨p,a1⟩
theorem fs.si{bm:Bool}{n:aa}{l:List aT}(h:fs bm n l){i:Nat}{s:aT}(hs:l[i]?=some s):s.si=i:=by rcases at1 i with rfl|hi;rw[h.tq.1]at hs;cases hs;rfl;obtain⟨p,a1⟩:=h.at hi hs;(have bi:i<l.length:=by rcases ats i l.length with h|h;exact h;rw[atj h]at hs;cases hs);rw[a1.si,atv];omega
theorem fs.lev{bm:Bool}{n:aa}{l:List aT}(F:fs bm n l):∀(i:Nat) (s:aT),l[i]?=some s->0<=s.lev/\s.lev<=8/\(s.de=true->1<=s.lev)/\(s.de=false->s.lev=0/\s.mv=false):=by intro i;induction i using Nat.strongRecOn with|_ i aY =>intro s hs;rcases at1 i with rfl|hi;rw[F.tq.1]at hs;cases hs;have Y:=F.kind;refine⟨by show(0:Int)<=1;decide,by show(1:Int)<=8;decide,λ_=>by show(1:Int)<=1;decide,λh=>?_⟩;rw[aT.de,cV,Y]at h;cases h;obtain⟨p,a1⟩:=F.at hi hs;have bi:=a1.ab;rw[atv]at bi;(have aw:l[s.ab]?=some p:=axY);obtain⟨h1,A,Z,aD⟩:=aY s.ab asZ p aw;have aj:=a1.lev;have hm:=a1.mv;have bc:=Z a1.bd;(cases N:s.de with|true =>rw[N,as_ rfl]at aj;split at aj<;>exact⟨by omega,by omega,λ_=>by omega,λh=>(by cases h)⟩|false =>rw[N]at aj hm;rw[as9 as2]at aj;exact⟨by omega,by omega,λh=>(by cases h),λ_=>⟨aj,by rw[hm];rfl⟩⟩)
section
variable{f:α->D}{V:D}{L:List α}
end
variable{t:Nat}
theorem Y7{T:List α}{s:α}(h:T[t]?=some s):T.take (t+1)=T.take t++[s]:=by obtain⟨aj,rfl⟩:=atI.1 h;exact atc aj
def ir(aS:Nat)(bu:as8)(k:Nat):List gu:=if k=0/\aS≠0 then[⟨[47],bu,0,1,true,false,false⟩]else[]
theorem fs.Kc{bm:Bool}{n:aa}(h:fs bm n l):∀(j:Nat) (s:aT),(bO l)[j]?=some s->s.di=j:=by induction h with|y' h0 =>intro j s hs;(have e:bO [cV bm n]=[cV bm n]:=by simp[bO,aT.de,cV,h0]);rw[e]at hs;(cases j with|zero=>cases hs;rfl|succ j=>cases hs)|@we l t p h a1 aY =>intro j s hs;(cases N:t.de with|false =>(have e:bO (l++[t])=bO l:=by rw[bO,auy];simp[bO,N]);rw[e]at hs;exact aY j s hs|true =>(have e:bO (l++[t])=bO l++[t]:=by rw[bO,auy];simp[bO,N]);rw[e]at hs;rcases ats j (bO l).length with ad|ad;rw[atn ad]at hs;exact aY j s hs;rcases ats (bO l).length j with aV|aV;rw[atj as0]at hs;cases hs;(have:j=(bO l).length:=by omega);subst this;rw[avg]at hs;cases hs;exact a1.di)
theorem ami(T:List aT):∀m:Nat,(((List.range m).map λi=>(T.filter λx=>x.fi==i).length).sum)<=T.length:=by
 induction T with
 |nil=>intro m;induction m with
  |zero=>simp
  |succ m aY=>rw[auO,atO,List.sum_append];simpa using aY
 |cons s r aY =>
  intro m
  have key:∀m,((List.range m).map λi=>((s::r).filter λx=>x.fi==i).length).sum<=((List.range m).map λi=>(r.filter λx=>x.fi==i).length).sum+(if s.fi<m then 1 else 0):=by
   intro m
   induction m with
   |zero=>simp
   |succ m Qd =>
    rw[auO,atO,atO,List.sum_append,List.sum_append];simp only[atG,auT,awo,List.sum_nil,avA];rw[aui];by_cases h:s.fi=m
    ·subst h;rw[as9 (awp _)]at Qd;rw[as_ as1,as_ asZ,ath];omega
    rw[as9 (by simpa using h)];by_cases A:s.fi<m
    ·rw[as_ A]at Qd;rw[as_ asZ];omega
    rw[as9 A]at Qd;rw[as9 asZ];omega
  have h1:=key m;have A:=aY m;rw[ath];split at h1<;>omega
theorem Y8(s:Nat)(T:List aT)(i:Nat):(mF s T i).length=(T.filter λx=>x.fi==i).length:=by rw[mF,atb]
theorem amj(bu:as8){T:List aT}(kX:∀x∈T,x.fi<=(bO T).length):(tk bu T).length<=2*T.length+1:=by rw[tk];simp only[atf,atb,List.length_flatMap,Y8];have h1:=ami T (1+(bO T).length);(have A:(List.range (1+(bO T).length)).map (λi=>(T.filter λx=>x.fi==i).length)=(T.filter λx=>x.fi==0).length::(List.range (bO T).length).map (λi=>(T.filter λx=>x.fi==i+1).length):=by rw[avZ,List.range_succ_eq_map,atG,avl];rfl);rw[A,awo]at h1;have Z:(ee T).length<=T.length:=atN _ _;(have aD:(if eN T=0 then([]:List gu)else[⟨[47],bu,0,1,true,false,false⟩]).length<=1:=by split<;>simp);omega
theorem amk(f:α->Bool)(l:List α)(t:Nat):((l.take t).filter f).length<=(l.filter f).length:=((List.take_sublist t l).filter f).length_le
mutual
theorem Y9:∀(n:aa) (l:Int),iK n l=true->rp n
 |.mk a b c d e f g h i j ag cC,l,aV=>by
  obtain⟨h1,A⟩:=AA aV;simp only[rp];exact⟨h1.bd,Y_ ag (l+1) A⟩
theorem Y_:∀(ag:List aa) (l:Int),nc ag l=true->tn ag
 |[],l,aV=>trivial
 |k::r,l,aV=>by
  simp only[nc,atd]at aV;simp only[tn];exact⟨Y9 k l aV.1,Y_ r l aV.2⟩
end
theorem Qe{n:aa}(h:valid n=true):rp n/\n.kind=0:=by rw[vT,atd]at h;exact⟨Y9 n 1 h.2,(AA (l:=1) (by cases n;exact h.2)).1.FM rfl⟩
def rq(s:aT):List D:=[.O s.path,.O (if s.si=0 then[0]else if s.mv then 68::Lib.decDigits s.mno else s.id),u s.lev,u (if s.mv then -1 else(s.fi:Int)),u (s.fi:Int),.bool s.mv]
def tr(s:aT):List D:=[.O s.path,.O (if s.mv then s.file else s.id),u 0,u (-1),.bool (!s.iso),.bool s.rock,.bool s.mv,u (if s.de then(s.di:Int)else -1)]
def pJ(s:aT):D:=.agg (tr s)
def C8(l:List aT)(i:Nat):List aT:=(l.drop 1).filter λx=>x.fi==i
def hS(l:List aT)(i:Nat):List D:=(C8 l i).map pJ
def C9(vs:Nat->Value)(e7:List aT)(i:Nat)(s:aT):D:=.agg (rq s++[.Q (.own 0 (vs i)) 8 (hS e7 i)])
def hk(vs:Nat->Value)(eU e7:List aT):List D:=(bO eU).mapIdx λi s=>C9 vs e7 i s
def e8(l:List aT):List D:=(ee l).map λs=>u (s.di:Int)
def kK(vs:Nat->Value)(eU e7:List aT):bF:=λk=>if 300<=k/\k<300+(bO eU).length then some (.own (vs (k-300)) (hS e7 (k-300)).length 8 310)else none
def xF(fy bK fz:Nat):D:=.fn (.func 224) [] [.box 200 fy 0,.box 201 bK 0,.box 202 fz 0]
def Qf(fy bK fz:Nat)(b4 mv:Value)(bG cS:List D):List (Nat×aI) :=
 [(200,.box fy [.al b4]),(201,.box bK [.Q (.own 204 mv) 1 cS]),(202,.box fz [xF fy bK fz]),(203,.row b4 bG 7 305),(204,.own mv cS.length 1 3)]
def uN(fy bK fz:Nat)(b4 mv:Value)(vs:Nat->Value)(eU e7:List aT):bF:=cU (Qf fy bK fz b4 mv (hk vs eU e7) (e8 eU)) (kK vs eU e7)
theorem lF(vs:Nat->Value)(eU e7:List aT):(hk vs eU e7).length=(bO eU).length:=by simp[hk]
variable{eU e7:List aT}
theorem GD{vs:Nat->Value}{s:aT}(h:(bO eU)[i]?=some s):(hk vs eU e7)[i]?=some (C9 vs e7 i s):=by rw[hk,aub,h];rfl
theorem Qg{vs:Nat->Value}(h:i<(bO eU).length):kK vs eU e7 (i+300)=some (.own (vs i) (hS e7 i).length 8 310):=by rw[kK,as_ asZ,Nat.add_sub_cancel]
theorem ts{vs:Nat->Value}{o:aI}(h:kK vs eU e7 k=some o):∃i,k=i+300/\i<(bO eU).length/\o=.own (vs i) (hS e7 i).length 8 310:=by unfold kK at h;split at h;rename_i h1;refine⟨k-300,by omega,by omega,?_⟩;exact(at3 h).symm;cases h
variable{fy bK fz:Nat}{b4 mv:Value}
theorem aml{bG cS:List D}(h:k<200\/300<=k):aK (Qf fy bK fz b4 mv bG cS) k=none:=by refine HY λp aw=>?_;simp only[Qf,atu,avI,av2]at aw;rcases aw with rfl|rfl|rfl|rfl|rfl<;>simp<;>omega
theorem Y'{vs:Nat->Value}(h:k<200):uN fy bK fz b4 mv vs eU e7 k=none:=by rw[uN,SS (aml (.inl h)),kK,as9 asZ]
def st(vs:Nat->Value)(i:Nat)(v:Value):Nat->Value:=λj=>if j=i then v else vs j
theorem Kd(vs:Nat->Value)(i:Nat)(v:Value):st vs i v i=v:=as_ rfl
variable{j:Nat}{v:Value}
theorem Ke{vs:Nat->Value}(h:j≠i):st vs i v j=vs j:=as9 h
theorem C_{s:aT}(h:s.de=true):bO (l++[s])=bO l++[s]:=by rw[bO,auy];simp[bO,h]
theorem Kf{s:aT}(h:s.de=false):bO (l++[s])=bO l:=by rw[bO,auy];simp[bO,h]
theorem Za{s:aT}(h:s.mv=true):ee (l++[s])=ee l++[s]:=by rw[ee,auy];simp[ee,h]
theorem Qh{s:aT}(h:s.mv=false):ee (l++[s])=ee l:=by rw[ee,auy];simp[ee,h]
theorem amm(h:∀x∈l,x.fi<i):hS l i=[]:=by rw[hS,C8,awj.2];rfl;intro x I;have:=h x (avp I);simp;omega
theorem Kg{s:aT}(h0:0<l.length)(i:Nat):hS (l++[s]) i=if s.fi=i then hS l i++[pJ s]else hS l i:=by rw[hS,hS,C8,C8,avs asZ,auy];by_cases h:s.fi=i<;>simp[h]
theorem amn{vs:Nat->Value}{s:aT}(h:s.de=true)(ae:hS e7 (bO l).length=[]): hk vs l e7++[.agg (rq s++[.Q (.own 0 v) 8 []])]=hk (st vs (bO l).length v) (l++[s]) e7:=by apply auu;intro i;rcases ats i (bO l).length with hi|hi;rw[atn (by rw[lF];exact hi),hk,hk,aub,aub,C_ h,atn hi,ata hi];simp only[auD,C9,Ke (show i≠(bO l).length by omega)];rcases ats (bO l).length i with aV|aV;rw[atj (by simp[lF];omega),atj (by rw[lF,C_ h];simp;omega)];(have:i=(bO l).length:=by omega);subst this;have e:(hk vs l e7).length=(bO l).length:=lF _ _ _;rw[atJ asZ,e,avY,GD (s:=s) (by rw[C_ h,avg])];simp only[List.getElem?_cons_zero,C9,Kd,ae]
theorem Zb(a b:List D):b1 (a++b)=b1 a++b1 b:=by simp[b1]
theorem Qi{vs:Nat->Value}:∀y∈hk vs eU e7,y.cells.length=7:=λy hy=>by
 obtain⟨i,hi⟩:=atz.1 hy;rw[hk,aub]at hi
 cases h:(bO eU)[i]? with
 |none=>rw[h]at hi;cases hi
 |some s=>rw[h]at hi;cases hi;rfl
theorem fs.AY{bm:Bool}{n:aa}(F:fs bm n l){s:aT}(hs:l[s.si]?=some s)(N:s.de=true):(bO l)[s.di]?=some s/\s.di<(bO l).length:=by obtain⟨j,ad⟩:=atz.1 (at2.2 ⟨atr hs,N⟩:s∈bO l);have:=F.Kc j s ad;subst this;refine⟨ad,?_⟩;rcases ats s.di (bO l).length with h|h;exact h;exact absurd ((atj h).symm.trans ad) as1
theorem fs.lv{bm:Bool}{n:aa}{l:List aT}(F:fs bm n l):∀(i:Nat) (s:aT),l[i]?=some s->1<=s.lv/\(i=0->s.lv=1)/\(0<i->2<=s.lv)/\(0<i->s.de=true->0<s.di):=by intro i;induction i using Nat.strongRecOn with|_ i aY =>intro s hs;rcases at1 i with rfl|hi;rw[F.tq.1]at hs;cases hs;exact⟨at5 _,λ_=>rfl,λh=>by omega,λh=>by omega⟩;obtain⟨p,a1⟩:=F.at hi hs;have bi:=a1.ab;rw[atv]at bi;(have aw:l[s.ab]?=some p:=axY);obtain⟨h1,_,_,_⟩:=aY s.ab asZ p aw;have aj:=a1.lv;refine⟨by omega,λh=>by omega,λ_=>by omega,λ_ N=>?_⟩;rw[a1.di];have h0:=F.tq.1;have Y:=F.kind;(have:cV bm n∈l.take i:=by have:=atr (l:=l.take i) (i:=0) (a:=cV bm n) (by rw[atZ,as_ hi];exact h0);exact this);exact avU (at2.2 ⟨this,by rw[aT.de,cV,Y];rfl⟩)
theorem fs.Kh{bm:Bool}{n:aa}(F:fs bm n l):∀x∈l,x.fi<(bO l).length:=λx I=>by
 obtain⟨i,hi⟩:=atz.1 I;rcases at1 i with rfl|h0
 ·rw[F.tq.1]at hi;cases hi
  have:=F.kind;exact avU (at2.2 ⟨atr F.tq.1,by rw[aT.de,cV,this];rfl⟩)
 obtain⟨p,a1⟩:=F.at h0 hi;have bi:=a1.ab;rw[atv]at bi
 have aw:l[x.ab]?=some p:=by
  have:=a1.dq
  rwa [atZ,as_ asZ]at this
 rw[a1.fi];have q8:=F.si aw;exact(F.AY (by rw[q8];exact aw) a1.bd).2
variable{d:D}{xs:List D}
theorem Zc{b:Bool}(h:k<xs.length):(k:Int)<((bif b then xs.set i d else xs).length:Int):=by cases b<;>simp only[auS,aun,auG]<;>exact avz.2 h
theorem Zd{b:Bool}(h:k<xs.length):k<(bif b then xs.set i d else xs).length:=by cases b<;>simp only[auS,aun,auG]<;>exact h
variable{cv:bF}
theorem y5{L:List (Nat×aI)}(aW:(L.all λp=>Nat.blt p.1 300)=true)(Y:300<=k):cU L cv k=cv k :=
 SS (HY λp aw=>by
  have:=at0.1 aW p aw;have:p.1<300:=by simpa using this
  omega)
def C'(d:Nat)(cv:bF):bF:=λk=>if k=d+300 then none else cv k
theorem Qj{d:Nat}{vs:Nat->Value}{o:aI}(h:C' d (kK vs eU e7) k=some o):k≠d+300/\300<=k/\kK vs eU e7 k=some o:=by unfold C' at h;split at h;cases h;rename_i h1;obtain⟨i,rfl,_,_⟩:=ts h;exact⟨h1,by omega,h⟩
theorem amo{vs:Nat->Value}{o:aI}(h:kK vs eU e7 k=some o):300<=k:=by obtain⟨i,rfl,_,_⟩:=ts h;omega
theorem amp{vs:Nat->Value}{s x:aT}(rr:(bO (l++[s]))[x.di]?=some x)(wg:s.fi=x.di)(sd:0<l.length):
  ∀(i:Nat) (a b:D),((hk vs (l++[s]) l).set x.di (.agg (iw (rq x++[.Q (.own 0 (vs x.di)) 8 (hS l x.di)]) 6 (.Q (.own 148 v) 8 (hS l x.di++[pJ s])))))[i]?=some a->
   (hk (st vs x.di v) (l++[s]) (l++[s]))[i]?=some b->dK a.cells b.cells:=λi a b ha F=>by
 have bi:x.di<(bO (l++[s])).length:=by
  rcases ats x.di (bO (l++[s])).length with h|h
  ·exact h
  rw[atj h]at rr;cases rr
 by_cases hi:x.di=i
 ·subst hi;rw[avv (by rw[lF];exact bi)]at ha;rw[GD rr]at F;cases ha;cases F
  simp only[C9,Kd,Kg sd,as_ wg];exact⟨E,E,E,E,E,E,aq.own _ _,ai⟩
 rw[awA hi]at ha;rw[hk,aub]at ha F
 cases h:(bO (l++[s]))[i]? with
 |none=>rw[h]at ha;cases ha
 |some y =>
  rw[h]at ha F;cases ha;cases F
  simp only[C9,Ke (show i≠x.di from λe=>hi e.symm),Kg sd,as9 (show¬s.fi=i by omega)];exact dK.refl _
theorem amq{H:bF}{d:Nat}(Ze:H 148=none):∀k bB o bL,H k=some o->H bB=some bL->(if k=d+300 then 148 else k)=(if bB=d+300 then 148 else bB)->k=bB:=λk bB o bL h bz e=>by
 by_cases h1:k=d+300<;>by_cases A:bB=d+300
 ·omega
 ·rw[as_ h1,as9 A]at e;rw[<-e,Ze]at bz;cases bz
 ·rw[as9 h1,as_ A]at e;rw[e,Ze]at h;cases h
 rw[as9 h1,as9 A]at e;exact e
variable{z:av}
theorem amr{L:List (Nat×aI)}{vs:Nat->Value}{s x:aT}(aW:(L.all λp=>Nat.blt p.1 300)=true)(gV:mP z L)(W:z.H 148=some (.own v ((hS l x.di).length+1) 8 310))
  (N:∀k o,C' x.di (kK vs (l++[s]) l) k=some o->z.H k=some o) (wg:s.fi=x.di) (sd:0<l.length) :
  ∀k o,cU L (kK (st vs x.di v) (l++[s]) (l++[s])) k=some o->z.H (if k=x.di+300 then 148 else k)=some o:=λk o h=>by
 unfold cU at h
 cases aj:aK L k with
 |some bL =>
  rw[aj]at h;cases h
  have Y:k<300:=by
   rcases ats k 300 with h1|h1
   ·exact h1
   have:aK L k=none:=HY λp aw=>by
    have:=at0.1 aW p aw;have:p.1<300:=by simpa using this
    omega
   rw[this]at aj;cases aj
  rw[as9 asZ];exact gV.aK k _ aj
 |none =>
  rw[aj]at h;obtain⟨i,rfl,hi,rfl⟩:=ts h;by_cases Da:i=x.di
  ·subst Da;rw[as_ rfl,W,Kd,Kg sd,as_ wg];simp
  rw[as9 asZ];refine N _ _ ?_;rw[C',as9 asZ,Qg hi,Ke Da,Kg sd,as9 asZ]
def AZ:pj:=pj.same λk=>Nat.ble 200 k
theorem ams{H:bF}{vs:Nat->Value}(h:∀k,200<=k->H k=uN fy bK fz b4 mv vs eU e7 k):x8 H AZ=uN fy bK fz b4 mv vs eU e7:=by funext k;unfold x8 AZ pj.same;cases Y:Nat.ble 200 k with|true=>simp only[Y,auS];exact h k (atH Y)|false =>simp only[Y,aun];(have:k<200:=by rcases ats k 200 with h1|h1;exact h1;rw[aww h1]at Y;cases Y);exact(Y' this).symm
variable{aO:bF}
theorem amt{H:bF}(Y:200<=k):BH H aO AZ k=aO k:=by unfold BH AZ pj.same;simp only[aww Y,auS]
theorem Ki{vs:Nat->Value}{o:aI}(h:uN fy bK fz b4 mv vs eU e7 k=some o):200<=k:=by rcases ats k 200 with h1|h1;rw[Y' h1]at h;cases h;exact h1
theorem Zf{a b:Nat×aI}{L:List (Nat×aI)}(ha:a.1<200)(F:b.1<200)(Y:200<=k):cU (a::b::L) cv k=cU L cv k:=by obtain⟨i,o⟩:=a;obtain⟨j,bL⟩:=b;(have h1:Nat.beq k i=false:=axm);(have A:Nat.beq k j=false:=by cases h:Nat.beq k j with|false=>rfl|true=>have:=avb h;simp at F;omega);unfold cU;simp only[aK,h1,A,aun]
theorem amu{s:aT}(N:s.de=false)(hm:s.mv=false):tr s=[.O s.path,.O s.id,u 0,u (-1),.bool (!s.iso),.bool s.rock,.bool false,u (-1)]:=by rw[tr,N,hm];rfl
theorem amv{s:aT}(N:s.de=true)(hm:s.mv=false):tr s=[.O s.path,.O s.id,u 0,u (-1),.bool (!s.iso),.bool s.rock,.bool false,u (s.di:Int)]:=by rw[tr,N,hm];rfl
theorem amw{s:aT}(N:s.de=true)(hm:s.mv=true):tr s=[.O s.path,.O s.file,u 0,u (-1),.bool (!s.iso),.bool s.rock,.bool true,u (s.di:Int)]:=by rw[tr,N,hm];rfl
theorem amx{s:aT}(hs:s.si≠0)(hm:s.mv=false):rq s=[.O s.path,.O s.id,u s.lev,u (s.fi:Int),u (s.fi:Int),.bool false]:=by rw[rq,as9 hs,hm];rfl
theorem amy{s:aT}(hs:s.si≠0)(hm:s.mv=true):rq s=[.O s.path,.O (68::Lib.decDigits s.mno),u s.lev,u (-1),u (s.fi:Int),.bool true]:=by rw[rq,as9 hs,hm];rfl
theorem amz{vs:Nat->Value}{s:aT}(h:s.de=false):hk vs (l++[s]) e7=hk vs l e7:=by rw[hk,hk,Kf h]
theorem amA{vs:Nat->Value}{s:aT}(h:s.de=false):kK vs (l++[s]) e7=kK vs l e7:=by funext k;rw[kK,kK,Kf h]
theorem amB{vs:Nat->Value}{s:aT}(h:s.de=true){o:aI}(Y:kK (st vs (bO l).length v) (l++[s]) e7 k=some o): (k=(bO l).length+300/\o=.own v (hS e7 (bO l).length).length 8 310)\/(k≠(bO l).length+300/\kK vs l e7 k=some o):=by obtain⟨i,rfl,hi,rfl⟩:=ts Y;rw[C_ h,atf]at hi;by_cases e:i=(bO l).length;subst e;rw[Kd];exact .inl ⟨rfl,rfl⟩;rw[Ke e,Qg (by simp at hi;omega)];exact .inr ⟨by omega,rfl⟩
theorem Db:∀{m:List (Nat×Nat)} {k s:Nat},j4 m=true->(k,s)∈m->m.lookup k=some s
 |(a,b)::r,k,s,hm,h=>by rcases atu.1 h with e|bz;cases e;simp[List.lookup];have h1:=wF hm a b k s atk h;(have ae:j4 r=true:=by simp only[j4,atd]at hm;exact hm.2);(have a6:(k==a)=false:=by rw[atK];intro e;have A:=h1.1 e.symm;simp only[j4,atd,at0,avr]at hm;have Z:=(hm.1 (k,s) bz).1;rw[e,auB]at Z;cases Z);rw[List.lookup,a6];exact Db ae bz
variable{m:List (Nat×Nat)}
theorem fM.zb{l:List (Nat×D)}{L:List (Nat×aI)}(h1:jI z l)(ok:j4 m=true)(fY:tO z m L)(hm:(m.all λp=>Nat.blt p.1 300&&Nat.blt p.2 300)=true)(N:∀k o,cv k=some o->300<=k/\z.H k=some o):fM z l (cU L cv):=by(have bi:∀k s,(k,s)∈m->k<300/\s<300:=λk s h=>by have:=at0.1 hm _ h;simpa using this);(have key:∀k o,cU L cv k=some o->(∃s,(k,s)∈m/\z.H s=some o)\/(300<=k/\z.H k=some o):=λk o h=>by unfold cU at h;cases aj:aK L k with|some bL=>rw[aj]at h;cases h;exact .inl (fY.aK k _ aj)|none=>rw[aj]at h;exact .inr (N k o h));refine⟨h1,λk=>if 300<=k then k else(m.lookup k).getD 0,λk bB o bL h bz e=>?_,λk o h=>?_⟩;dsimp only at e;rcases key k o h with⟨s,hs,_⟩|⟨A,_⟩<;>rcases key bB bL bz with⟨bq,c9,_⟩|⟨vq,_⟩;have Z:=(bi k s hs).1;have Qk:=(bi bB bq c9).1;rw[as9 asZ,as9 asZ,Db ok hs,Db ok c9]at e;exact(wF ok k s bB bq hs c9).2 e;have Z:=bi k s hs;rw[as9 asZ,as_ vq,Db ok hs]at e;simp at e;omega;have Z:=bi bB bq c9;rw[as_ A,as9 asZ,Db ok c9]at e;simp at e;omega;rw[as_ A,as_ vq]at e;exact e;dsimp only;rcases key k o h with⟨s,hs,Z⟩|⟨A,Z⟩;have aD:=(bi k s hs).1;rw[as9 asZ,Db ok hs];exact Z;rw[as_ A];exact Z
variable{am:Nat}{K:cM->av->Prop}{c:Code}
theorem X.amC{U:b8 Tryz.prog B am}(l:α->List (Nat×D))(H:α->bF)(h:∀V,X U c (rR (l V) (H V)) K)(g:(∀V,X U c (rR (l V) (H V)) K)->X U c z K):X U c z K:=g h
variable{f:FuncId}{ds:List D}{a7:D->bF->Prop}
theorem c7.fG{H:bF}{vs:Nat->Value}(h:∀k,200<=k->H k=uN fy bK fz b4 mv vs eU e7 k)(hc:cZ B f ds (uN fy bK fz b4 mv vs eU e7) a7):cZ B f ds (x8 H AZ) a7:=by rw[ams h];exact hc
theorem Zg:∀{l:List aa},(∀k∈l,rp k)->tn l
 |[],_=>trivial
 |k::r,h=>⟨h k atk,Zg λx I=>h x (ato _ I)⟩
theorem Zh(m:as8)(b:Bool):(ke m b).1.length<=m.length+3:=by unfold ke;split;split;simp;split<;>simp;simp
theorem Zi(aW:dc B)(bm:Bool)(hw:aa):∀(bC:Nat) (n:aa),aB n<bC->il n->rp n->∀(x:aT) (c:e6) (kL:List aT) (fy bK fz:Nat) (b4 mv:Value) (vs:Nat->Value),x.n=n->fs bm hw kL->kL[x.si]?=some x->x.de=true->tp c kL->kL.length+fH n<100->x.path.length+1200*aB n<1000000000->x.lv+aB n<1000000000->cZ B 224 [aE n,u (x.di:Int),u x.lv,.bool x.iso,.bool x.rock,.box 200 fy 0,.box 201 bK 0,.box 202 fz 0] (uN fy bK fz b4 mv vs kL kL) λd aO=>d=.bo []/\∃tl amD gy,aO=uN fy bK fz tl amD gy (kL++fT n x c) (kL++fT n x c):=by refine λbC=>Nat.rec (λn h=>absurd h (auI _)) (λbC aY n hN cD xG x c kL fy bK fz b4 mv vs za F I zc ic hlen dj GF=>?_) bC;obtain⟨gP,_,mz,xe⟩:=(tc n).1 cD;have Zj:=((Ka n).1 xG).2;have GG:∀k∈n.J,dQ k.name=true/\k.name.length<1000000000:=λk Y=>(q_ xe Y).1;have jL:=oo 0 n.J;have HT:=EF n;obtain⟨arS,_⟩:=F.lv _ _ I;(have amE:x.si<kL.length:=by rcases ats x.si kL.length with h|h;exact h;rw[atj h]at I;cases I);(have amF:kL++fm (n.J.take 0) ((ce 0 n.J).take 0) x c=kL:=by simp[fm]);refine jO Tryz.func224 Tryz.ntmps224 λU=>?_;refine ck ?_;intro cF;refine lc ?_;refine⟨[u 0,.Q .none 12 (n.J.map enc)],_,λ_=>((Ot aW (v:=0) as2).call n.J gP mz GG).1,ar,?_⟩;refine i1 ?_;apply oK;refine X.HI (α:={i:Nat // i<=n.J.length}×Value×Value×(Nat->Value)) (λV=>[(1,u (x.di:Int)),(2,u x.lv),(3,.bool x.iso),(4,.bool x.rock),(5,.box 200 fy 0),(6,.box 201 bK 0),(7,.box 202 fz 0),(13,.Q .none 1 (aN (ce 0 n.J))),(33,.Q .none 12 (n.J.map enc)),(34,u (n.J.map enc).length),(35,u (V.1.1:Int))]) (λV=>uN fy bK fz V.2.1 V.2.2.1 V.2.2.2 (kL++fm (n.J.take V.1.1) ((ce 0 n.J).take V.1.1) x c) (kL++fm (n.J.take V.1.1) ((ce 0 n.J).take V.1.1) x c)) (λV=>n.J.length-V.1.1) (⟨0,atq _⟩,b4,mv,vs) (.same ar (λq o h=>by rw[amF]at h;exact(mc _ _ (by have:=Ki h;omega)).trans h)) ?_;rintro⟨⟨i,hi⟩,b4,mv,vs⟩;(try dsimp only);apply b2;apply ep;refine aJ (decide ((i:Int)<(n.J.map enc).length)) rfl ?_ ?_<;>intro hc;(·refine ff ?_;(have aH:i<n.J.length:=by simpa using hc);(have CN:i<(ce 0 n.J).length:=by omega);obtain⟨bw,bV,vW⟩:=Y2 gP (λk Y=>(GG k Y).1) aH;have N4:=rY aH;have arT:=Y4 aH;have eS:=J' (n.J.take i) ((ce 0 n.J).take i) x c;have cX:=as' (λV=>kL++V) (P9 x aH CN c);(try dsimp only at cX);rw[<-atL]at cX;have wW:=ate aH;have eA:fs bm hw (kL++fm (n.J.take i) ((ce 0 n.J).take i) x c):=Kb bm hw _ _ x c kL F zc (λk Y=>by rw[za];exact aud Y) (Zg λk Y=>P' Zj (aud Y)) I ic;have Zk:=ic.jA (m:=fm (n.J.take i) ((ce 0 n.J).take i) x c);(have hL:(kL++fm (n.J.take i) ((ce 0 n.J).take i) x c)[x.si]?=some x:=by rw[atn amE];exact I);(have mW:(kL++fm (n.J.take i) ((ce 0 n.J).take i) x c).length<=kL.length+eX (n.J.take i):=by rw[atf];omega);have pd:(n.J.map enc)[i]?=some (aE n.J[i]):=rZ aH;have AK:il n.J[i]:=(q_ xe wW).2;have Zl:rp n.J[i]:=P' Zj wW;have f_:=(GG _ wW).2;(have amG:n.J[i]∈x.n.J:=by rw[za];exact wW);have amH:=Qb (k:=n.J[i]) (m:=(ce 0 n.J)[i]) hL zc Zk amG;have arU:=vW.len;(have Zm:(aN (ce 0 n.J))[i]?=some (.O (ce 0 n.J)[i]):=by simp[aN,CN]);generalize n.J[i]=k at*;generalize(ce 0 n.J)[i]=m at*;generalize kL++fm (n.J.take i) ((ce 0 n.J).take i) x c=l at*;generalize c.jA (fm (n.J.take i) ((ce 0 n.J).take i) x c)=dC at*;have pe:(bX x k m dC).n=k:=rfl;have Ql:(bX x k m dC).path=below x.path k.name (x.lv+1):=rfl;have Kj:(bX x k m dC).id=(ke m (k.kind==0)).1:=rfl;have amI:(bX x k m dC).file=(ke m false).1:=rfl;have amJ:(bX x k m dC).iso=(x.iso&&lo 0 k (x.lv+1)):=rfl;have amK:(bX x k m dC).rock=(x.rock&&lo 2 k (x.lv+1)):=rfl;have amL:(bX x k m dC).lv=x.lv+1:=rfl;have Qm:(bX x k m dC).de=(k.kind==0):=rfl;have Zn:(bX x k m dC).any=((bX x k m dC).iso||(bX x k m dC).rock):=rfl;generalize bX x k m dC=s at*;have arV:=BU x.path k.name (x.lv+1);have arW:=Zh m (k.kind==0);have wh:=Zh m false;obtain⟨rr,A0⟩:=eA.AY hL zc;have sd:0<l.length:=eA.tq.2;have arX:=eA.lev _ _ hL;refine vf ?_;refine⟨aE k,λ_=>pd,?_⟩;(conv=>whnf);intro mE;apply cB;refine i1 ?_;refine mY ?_;refine .inl ⟨λh=>by simp[dg];omega,?_⟩;refine hE ?_;refine⟨[u 0,aE k,u (x.lv+1)],_,λh=>Fb 0 k (x.lv+1),ar,?_⟩;refine tU ?_;refine i1 ?_;refine mY ?_;refine .inl ⟨λh=>by simp[dg];omega,?_⟩;apply g8;refine mY ?_;refine⟨[u 2,aE k,u (x.lv+1)],_,λh=>Fb 2 k (x.lv+1),ar,?_⟩;refine tU ?_;(conv=>whnf);rw[show(bif x.iso then lo 0 k (x.lv+1)else false)=s.iso by rw[ju,amJ],show(bif x.rock then lo 2 k (x.lv+1)else false)=s.rock by rw[ju,amK]];refine f' ?_;refine ie ?_;refine aJ _ rfl ?_ ?_<;>intro hc;(·refine X.exit ?_;refine np ?_;(have fe:¬s.any=true:=axd);rw[as9 fe,aua]at cX;exact⟨(⟨i+1,aH⟩,b4,mv,vs),by show _-(i+1)<_-i;omega,.same ar (λq o h=>by dsimp only at h;rw[cX]at h;have:=Ki h;exact(mc _ _ asZ).trans ((mc _ _ asZ).trans h))⟩);refine ff ?_;(have qA:s.any=true:=axd);rw[as_ qA]at cX;(have Zo:kL++fm (List.take (i+1) n.J) (List.take (i+1) (ce 0 n.J)) x c=(l++[s])++fT k s (dC.add s):=by rw[cX];simp);clear cX;have cX:=Zo;clear Zo;have a1:=amH qA;have amM:=eA.we a1;(have amN:(l++[s])[s.si]?=some s:=by rw[a1.si];simp);have sU:¬k.kind=0->k.J=[]:=((Ka k).1 Zl).1;have amO:=eA.Kh;refine nt ?_;apply cB;refine jq ?_;refine⟨rfl,ai,.inr (af.ej aM 203 rfl rfl rfl rfl rfl rfl rfl asZ (by rw[lF];exact avz.2 A0) ?_)⟩;(conv=>whnf);refine⟨rfl,ai,.inr (af.jr aM 203 (i:=x.di) rfl rfl (by rw[lF];exact A0) rfl rfl rfl as2 ?_)⟩;(conv=>whnf);refine⟨rfl,ai,.inr (af.la aM 203 (i:=x.di) as5 rfl rfl (GD rr) ?_)⟩;refine jq ?_;intro Qn;apply d_;apply cB;refine lc ?_;refine X.HH (α:=Unit) (λ_=>[(1,u (x.di:Int)),(2,u x.lv),(3,.bool x.iso),(4,.bool x.rock),(5,.box 200 fy 0),(6,.box 201 bK 0),(7,.box 202 fz 0),(13,.Q .none 1 (aN (ce 0 n.J))),(33,.Q .none 12 (n.J.map enc)),(34,u (n.J.map enc).length),(35,u (i:Int)),(15,u (i:Int)),(16,.box 16 mE 0),(17,.bool s.iso),(18,.bool s.rock),(19,.box 19 Qn 0),(20,.O s.path)]) (λ_=>cU [(16,.box mE [.O k.name,u k.kind,.O k.d7,.O k.target,u k.cx,u k.n2,u k.n3,u k.n4,u k.n5,u k.n6,.Q .none 12 (k.J.map enc),.Q .none 2 (k.bN.map c6)]),(19,.box Qn (rq x)),(200,.box fy [.al b4]),(201,.box bK [.Q (.own 204 mv) 1 (e8 l)]),(202,.box fz [xF fy bK fz]),(203,.row b4 (hk vs l l) 7 305),(204,.own mv (e8 l).length 1 3)] (kK vs l l)) ?_ ?_;apply b2;refine aJ (decide ((0:Int)<(x.di:Int))) rfl ?_ ?_<;>intro hc;apply kw;refine eB ?_;refine nX ?_;refine mj ?_;(have Zp:0<x.di:=by simpa using hc);(have Qo:¬x.lv+1<=2:=by rcases at1 x.si with h|h;rw[h,eA.tq.1]at hL;cases hL;exact absurd Zp (awp 0);have:=(eA.lv _ _ hL).2.2.1 h;omega);exact⟨(),fM.zb (m:=[(16,16),(19,19),(200,200),(201,201),(202,202),(203,203),(204,204)]) ⟨E,E,E,E,E,E,E,E,E,E,E,E,E,E,E,E,aq.of_eq (as' D.O (by rw[Ql,below,as9 Qo])),ai⟩ rfl ⟨rfl,bb⟩ rfl (λq o h=>axL)⟩;refine ff ?_;(have Zp:x.di=0:=by simp at hc;omega);(have Qo:x.lv+1<=2:=by rcases at1 x.si with h|h;have:=(eA.lv _ _ hL).2.1 h;omega;have:=(eA.lv _ _ hL).2.2.2 h zc;omega);exact⟨(),fM.zb (m:=[(16,16),(19,19),(200,200),(201,201),(202,202),(203,203),(204,204)]) ⟨E,E,E,E,E,E,E,E,E,E,E,E,E,E,E,E,aq.of_eq (as' D.O (by rw[Ql,below,as_ Qo])),ai⟩ rfl ⟨rfl,bb⟩ rfl (λq o h=>axL)⟩;rintro⟨⟩;refine lc ?_;rw[<-Qm];refine ck ?_;refine⟨λ_=>by simp[aN];omega,?_⟩;(conv=>whnf);refine⟨.O m,λ_=>Zm,?_⟩;(conv=>whnf);refine⟨[.O m,.bool (k.kind==0)],_,λ_=>W8 aW m _ asZ,⟨E,aq.of_eq (as' D.bool Qm),ai⟩,?_⟩;(conv=>whnf);rw[<-Kj];refine ck ?_;intro su;refine eB ?_;refine X.HH (α:=Value×Value×Nat) (λ_=>[(1,u (x.di:Int)),(2,u x.lv),(3,.bool x.iso),(4,.bool x.rock),(5,.box 200 fy 0),(6,.box 201 bK 0),(7,.box 202 fz 0),(13,.Q .none 1 (aN (ce 0 n.J))),(33,.Q .none 12 (n.J.map enc)),(34,u (n.J.map enc).length),(35,u (i:Int)),(15,u (i:Int)),(16,.box 16 mE 0),(17,.bool s.iso),(18,.bool s.rock),(21,.bool s.de),(24,.box 24 su 0)]) (λV=>cU [(16,.box mE [.O k.name,u k.kind,.O k.d7,.O k.target,u k.cx,u k.n2,u k.n3,u k.n4,u k.n5,u k.n6,.Q .none 12 (k.J.map enc),.Q .none 2 (k.bN.map c6)]),(24,.box su (tr s)),(200,.box fy [.al V.1]),(201,.box bK [.Q (.own V.2.2 V.2.1) 1 (e8 (l++[s]))]),(202,.box fz [xF fy bK fz]),(203,.row V.1 (if s.de then hk vs l l++[.agg (rq s++[.bj])]else hk vs l l) 7 305),(204,.own V.2.1 (e8 (l++[s])).length 1 3)] (kK vs l l)) ?_ ?_;apply b2;refine X.cond s.de rfl (λN=>?_) (λN=>?_);refine i1 ?_;refine lb ?_;intro arY;apply cB;refine nt ?_;refine eB ?_;refine⟨rfl,ai,.inr (af.rJ aM 203 rfl rfl rfl rfl ?_)⟩;apply d_;apply d_;refine eB ?_;(have dm:((hk vs l l).length:Int)=(s.di:Int):=by rw[lF,a1.di]);rw[dm];refine p8 ?_;refine aJ (decide ((8:Int)<x.lev+1)) rfl ?_ ?_<;>intro hc;refine i1 ?_;refine eB ?_;refine nr ?_;refine⟨by show(_+_)*8<=_;rw[e8,atb];have:=atN aT.mv l;simp only[atG,auT,ath,atD];unfold ee;omega,by show _+_<=_;rw[e8,atb];have:=atN aT.mv l;simp only[atG,auT,ath,atD];unfold ee;omega,as6,λv=>?_⟩;apply cB;refine lc ?_;(have Qp:((e8 l++[u (s.di:Int)]).length:Int)=(s.mno:Int):=by rw[atf,e8,atb,a1.mno];rfl);(have Zq:s.mno<100:=by rw[a1.mno];have:=atN aT.mv l;unfold ee;omega);have arZ:=Y3 s.mno Zq;refine⟨[u (s.mno:Int)],_,λ_=>N' s.mno Zq,⟨dr Qp,ai⟩,?_⟩;(conv=>whnf);refine nX ?_;apply cB;apply cB;apply cB;apply cB;refine ck ?_;refine⟨λ_=>by simp[aN];omega,?_⟩;(conv=>whnf);refine⟨.O m,λ_=>Zm,?_⟩;(conv=>whnf);refine⟨[.O m,.bool false],_,λ_=>W8 aW m _ asZ,ar,?_⟩;apply cB;apply kw;refine eB ?_;refine tV ?_;apply cB;apply d_;apply cB;apply d_;refine jq ?_;refine pg ?_;refine⟨rfl,ai,.inr (af.oJ aM 203 rfl rfl rfl as6 rfl rfl rfl (avq) (by show(_+1)*88<=_;exact axO) (by show _+1<=_;exact axO) λbQ yT cap=>?_)⟩;apply d_;refine eB ?_;(have fX:x.lev=8:=by have hF:(8:Int)<x.lev+1:=(by simpa using hc);omega);(have gx:s.mv=true:=by rw[a1.mv,N,fX];rfl);(have Qq:s.lev=3:=by rw[a1.lev,N,as_ rfl,as_ asZ]);(have Qr:s.si≠0:=by rw[a1.si];omega);(have uO:e8 l++[u (s.di:Int)]=e8 (l++[s]):=by rw[e8,e8,Za gx,atO];rfl);exact⟨(.slice bQ yT cap,v,113),fM.zb (m:=[(16,16),(24,24),(200,200),(201,201),(202,202),(203,138),(204,113)]) ar rfl ⟨rfl,rfl,rfl,as' (λV=>some (aI.box su V)) (by rw[amw N gx,amI];rfl),rfl,rfl,rfl,as' (λV=>some (aI.box bK [.Q (.own 113 v) 1 V])) uO,rfl,rfl,rfl,as' (λV=>some (aI.row (.slice bQ yT cap) V 7 305)) (by rw[as_ N,amy Qr gx,Qq,a1.fi];rfl),rfl,as' (λV:Nat=>some (aI.own v V 1 3)) (by rw[<-uO,atf];rfl),ai⟩ rfl (λq o h=>axL)⟩;refine ff ?_;refine tV ?_;apply cB;apply d_;apply cB;apply d_;refine jq ?_;refine pg ?_;refine⟨rfl,ai,.inr (af.oJ aM 203 rfl rfl rfl as6 rfl rfl rfl (avq) (by show(_+1)*88<=_;exact axO) (by show _+1<=_;exact axO) λbQ yT cap=>?_)⟩;apply d_;refine eB ?_;(have fX:x.lev+1≠9:=by have hF:¬(8:Int)<x.lev+1:=(by simpa using hc);omega);(have gx:s.mv=false:=by rw[a1.mv,N,av6,atK];exact fX);(have Qq:s.lev=x.lev+1:=by rw[a1.lev,N,as_ rfl,as9 fX]);(have Qr:s.si≠0:=by rw[a1.si];omega);(have uO:e8 l=e8 (l++[s]):=by rw[e8,e8,Qh gx]);exact⟨(.slice bQ yT cap,mv,204),fM.zb (m:=[(16,16),(24,24),(200,200),(201,201),(202,202),(203,138),(204,204)]) ar rfl ⟨rfl,rfl,rfl,as' (λV=>some (aI.box su V)) (by rw[amv N gx];rfl),rfl,rfl,rfl,as' (λV=>some (aI.box bK [.Q (.own 204 mv) 1 V])) uO,rfl,rfl,rfl,as' (λV=>some (aI.row (.slice bQ yT cap) V 7 305)) (by rw[as_ N,amx Qr gx,Qq,a1.fi];rfl),rfl,as' (λV:List D=>some (aI.own mv V.length 1 3)) uO,ai⟩ rfl (λq o h=>axL)⟩;refine ff ?_;(have gx:s.mv=false:=by rw[a1.mv,N];rfl);(have uO:e8 l=e8 (l++[s]):=by rw[e8,e8,Qh gx]);exact⟨(b4,mv,204),fM.zb (m:=[(16,16),(24,24),(200,200),(201,201),(202,202),(203,203),(204,204)]) ar rfl ⟨rfl,rfl,rfl,as' (λV=>some (aI.box su V)) (by rw[amu N gx];rfl),rfl,rfl,rfl,as' (λV=>some (aI.box bK [.Q (.own 204 mv) 1 V])) uO,rfl,rfl,rfl,as' (λV=>some (aI.row b4 V 7 305)) (by rw[as9 (by rw[N];decide)]),rfl,as' (λV:List D=>some (aI.own mv V.length 1 3)) uO,ai⟩ rfl (λq o h=>axL)⟩;rintro⟨nK,uP,mo⟩;have ar0:=rr;refine X.amC (α:={lD:Nat->Value // (bO (l++[s]))[x.di]?=some x/\x.di<(bO (l++[s])).length}) (λ_=>[(1,u (x.di:Int)),(2,u x.lv),(3,.bool x.iso),(4,.bool x.rock),(5,.box 200 fy 0),(6,.box 201 bK 0),(7,.box 202 fz 0),(13,.Q .none 1 (aN (ce 0 n.J))),(33,.Q .none 12 (n.J.map enc)),(34,u (n.J.map enc).length),(35,u (i:Int)),(15,u (i:Int)),(16,.box 16 mE 0),(17,.bool s.iso),(18,.bool s.rock),(21,.bool s.de),(24,.box 24 su 0)]) (λV=>cU [(16,.box mE [.O k.name,u k.kind,.O k.d7,.O k.target,u k.cx,u k.n2,u k.n3,u k.n4,u k.n5,u k.n6,.Q .none 12 (k.J.map enc),.Q .none 2 (k.bN.map c6)]),(24,.box su (tr s)),(200,.box fy [.al nK]),(201,.box bK [.Q (.own 204 uP) 1 (e8 (l++[s]))]),(202,.box fz [xF fy bK fz]),(203,.row nK (hk V.1 (l++[s]) l) 7 305),(204,.own uP (e8 (l++[s])).length 1 3)] (kK V.1 (l++[s]) l)) ?_ (λZr=>?_);rotate_left;refine X.jp 201 (du:=[.Q (.own 204 uP) 1 (e8 (l++[s]))]) rfl ⟨aq.own _ _,ai⟩ ?_;by_cases N:s.de=true;have Zs:hS l (bO l).length=[]:=amm amO;have iz:=amn (vs:=vs) (l:=l) (e7:=l) (s:=s) (v:=.slice none 0 0) N Zs;refine X.vi 203 (a':=hk (st vs (bO l).length (.slice none 0 0)) (l++[s]) l) rfl (by rw[as_ N,<-iz,atf,atf];rfl) Qi (by rw[as_ N,<-iz,Zb,Zb];exact dK.kY (dK.refl _) ⟨E,E,E,E,E,E,aq.vc,ai⟩) ?_;refine X.tQ ((bO l).length+300) 8 310 ?_;refine X.jP _ _ ?_ (Zr ⟨st vs (bO l).length (.slice none 0 0),by rw[C_ N,atn A0];exact rr,by rw[C_ N,atf];omega⟩);refine fM.zb (m:=[(16,16),(24,24),(200,200),(201,201),(202,202),(203,203),(204,204)]) ar rfl ⟨rfl,bb⟩ rfl (λq o h=>?_);rcases amB N h with⟨rfl,rfl⟩|⟨a6,h⟩;refine⟨by omega,?_⟩;rw[qL,Zs];rfl;obtain⟨j,rfl,_,_⟩:=ts h;exact⟨by omega,(mc _ _ a6).trans h⟩;(have ho:s.de=false:=by simpa using N);refine X.jP _ _ ?_ (Zr ⟨vs,by rw[Kf ho];exact rr,by rw[Kf ho];exact A0⟩);refine fM.zb (m:=[(16,16),(24,24),(200,200),(201,201),(202,202),(203,203),(204,204)]) ar rfl ⟨rfl,rfl,rfl,rfl,rfl,rfl,rfl,rfl,rfl,rfl,rfl,as' (λV=>some (aI.row nK V 7 305)) (by rw[as9 N,amz ho]),rfl,bb⟩ rfl (λq o h=>?_);rw[amA ho]at h;obtain⟨j,rfl,_,_⟩:=ts h;exact⟨by omega,h⟩;rintro⟨lD,rr,hL⟩;(try dsimp only);have wg:s.fi=x.di:=a1.fi;(have hZ:(hS l x.di).length<=l.length:=by rw[hS,atb,C8];exact auC (atN _ _) as1);apply ep;refine X.SB aM mixed (α:=Value) (λv f=>[(1,u (x.di:Int)),(2,u x.lv),(3,.bool x.iso),(4,.bool x.rock),(5,.box 200 fy 0),(6,.box 201 bK 0),(7,.box 202 fz 0),(13,.Q .none 1 (aN (ce 0 n.J))),(33,.Q .none 12 (n.J.map enc)),(34,u (n.J.map enc).length),(35,u (i:Int)),(15,u (i:Int)),(16,.box 16 mE 0),(17,.bool s.iso),(18,.bool s.rock),(21,.bool s.de),(24,.box 24 su 0),(139,bif f 0 then .al nK else .any),(140,bif f 1 then u (x.di:Int)else .any),(141,bif f 2 then .al nK else .any),(142,bif f 3 then u (x.di:Int)else .any),(143,bif f 4 then .al (g7 nK (((x.di:Nat):Int).toNat*7))else .any),(144,bif f 5 then .al (g7 nK (((x.di:Nat):Int).toNat*7+6))else .any),(145,bif f 6 then .Q (.own 0 (lD x.di)) 8 (hS l x.di)else .any),(146,bif f 7 then pJ s else .any),(147,bif f 8 then .Q .dR 8 [pJ s]else .any),(148,bif f 9 then .Q (.own 148 v) 8 (hS l x.di++[pJ s])else .any),(149,bif f 10 then .al (g7 nK (((x.di:Nat):Int).toNat*7))else .any),(150,bif f 11 then .al (g7 nK (((x.di:Nat):Int).toNat*7+6))else .any)]) (λv f=>cU ([(16,.box mE [.O k.name,u k.kind,.O k.d7,.O k.target,u k.cx,u k.n2,u k.n3,u k.n4,u k.n5,u k.n6,.Q .none 12 (k.J.map enc),.Q .none 2 (k.bN.map c6)]),(24,.box su (tr s)),(200,.box fy [.al nK]),(201,.box bK [.Q (.own 204 uP) 1 (e8 (l++[s]))]),(202,.box fz [xF fy bK fz]),(203,.row nK (bif f 12 then((hk lD (l++[s]) l).set x.di (.agg (iw (rq x++[.Q (.own 0 (lD x.di)) 8 (hS l x.di)]) 6 (.Q (.own 148 v) 8 (hS l x.di++[pJ s])))))else(hk lD (l++[s]) l)) 7 305),(204,.own uP (e8 (l++[s])).length 1 3)]++(bif f 9 then[(148,.own v ((hS l x.di).length+1) 8 310)]else[])) (bif f 9 then(C' x.di (kK lD (l++[s]) l))else kK lD (l++[s]) l)) as3 (.bool true) ?_ ?_ ?_ ?_;exact⟨E,E,E,E,E,E,E,E,E,E,E,E,E,E,E,E,E,.any _,.any _,.any _,.any _,.any _,.any _,.any _,.any _,.any _,.any _,.any _,.any _,ai⟩;exact nv.Mv ⟨rfl,bb⟩ (λk o h=>(y5 rfl (amo h)).trans h);(conv=>whnf);refine⟨λv f bg=>?_,?_⟩;obtain⟨f,rfl⟩:= bg.o f 12 0;apply BD;refine eB ?_;exact fW v;refine Sp ?_;refine⟨λv f bg=>?_,?_⟩;obtain⟨f,rfl⟩:= bg.o f 9 6 (bg.n 6 5 (bg.n 5 4 (bg.n 4 2)));obtain⟨f,rfl⟩:= bg.o f 12 2;apply BD;refine eB ?_;exact fW v;refine Sp ?_;refine⟨λv f bg=>?_,?_⟩;obtain⟨f,rfl⟩:= bg.o f 9 6 (bg.n 6 5 (bg.n 5 4));obtain⟨f,rfl⟩:= bg.o f 12 4;apply p4;refine af.ej aM 203 rfl rfl rfl rfl rfl rfl rfl asZ (Zc (by rw[lF];exact hL)) ?_;exact fW v;refine⟨λv f bg=>?_,?_⟩;obtain⟨f,rfl⟩:= bg.o f 9 6 (bg.n 6 5);obtain⟨f,rfl⟩:= bg.o f 12 5;apply p4;refine af.jr aM 203 (i:=x.di) rfl rfl (Zd (by rw[lF];exact hL)) rfl rfl rfl as2 ?_;exact fW v;refine⟨λv f bg=>?_,?_⟩;obtain⟨f,rfl⟩:= bg.o f 9 6;obtain⟨f,rfl⟩:= bg.o f 12 6;apply p4;refine af.n1 aM 203 (i:=x.di) (j:=6) as5 rfl rfl (GD rr) ?_;(conv=>whnf);exact fW v;refine⟨λv f bg=>?_,?_⟩;obtain⟨f,rfl⟩:= bg.o f 9 8 (bg.n 8 7);obtain⟨f,rfl⟩:= bg.o f 12 7;apply BD;refine eB ?_;exact fW v;refine⟨λv f bg=>?_,?_⟩;obtain⟨f,rfl⟩:= bg.o f 9 8;obtain⟨f,rfl⟩:= bg.o f 12 8;apply BD;(conv=>whnf);refine pg ?_;exact fW v;refine⟨λv f bg=>?_,?_⟩;obtain⟨f,rfl⟩:= bg.o f 12 9;apply p4;refine af.ST aM (x.di+300) 0 rfl rfl rfl as6 rfl (Qg hL) rfl (by show(_+1)*64<=_;omega) (by show _+1<=_;omega) (λv2=>?_);exact fW v2 (nv.Mv ⟨rfl,bb⟩ (λk o h=>by obtain⟨h1,A,Z⟩:=Qj h;exact(mc _ _ asZ).trans ((mc _ _ h1).trans ((y5 rfl A).trans Z))));refine⟨λv f bg=>?_,?_⟩;obtain⟨f,rfl⟩:= bg.o f 12 11 (bg.n 11 10);apply p4;refine af.ej aM 203 rfl rfl rfl rfl rfl rfl rfl asZ (Zc (by rw[lF];exact hL)) ?_;exact fW v;refine⟨λv f bg=>?_,?_⟩;obtain⟨f,rfl⟩:= bg.o f 12 11;apply p4;refine af.jr aM 203 (i:=x.di) rfl rfl (Zd (by rw[lF];exact hL)) rfl rfl rfl as2 ?_;exact fW v;refine⟨λv f bg=>?_,?_⟩;(conv=>whnf);apply p4;refine af.vh aM 203 (i:=x.di) (j:=6) as5 rfl rfl rfl (GD rr) as2 rfl ?_;exact fW v (nv.Mv ⟨rfl,bb⟩ (λk o h=>axq));exact trivial;intro v f M;(conv=>whnf);refine X.jP [(1,u (x.di:Int)),(2,u x.lv),(3,.bool x.iso),(4,.bool x.rock),(5,.box 200 fy 0),(6,.box 201 bK 0),(7,.box 202 fz 0),(13,.Q .none 1 (aN (ce 0 n.J))),(33,.Q .none 12 (n.J.map enc)),(34,u (n.J.map enc).length),(35,u (i:Int)),(15,u (i:Int)),(16,.box 16 mE 0),(17,.bool s.iso),(18,.bool s.rock),(21,.bool s.de),(24,.box 24 su 0)] (cU [(16,.box mE [.O k.name,u k.kind,.O k.d7,.O k.target,u k.cx,u k.n2,u k.n3,u k.n4,u k.n5,u k.n6,.Q .none 12 (k.J.map enc),.Q .none 2 (k.bN.map c6)]),(24,.box su (tr s)),(200,.box fy [.al nK]),(201,.box bK [.Q (.own 204 uP) 1 (e8 (l++[s]))]),(202,.box fz [xF fy bK fz]),(203,.row nK ((hk lD (l++[s]) l).set x.di (.agg (iw (rq x++[.Q (.own 0 (lD x.di)) 8 (hS l x.di)]) 6 (.Q (.own 148 v) 8 (hS l x.di++[pJ s]))))) 7 305),(204,.own uP (e8 (l++[s])).length 1 3),(148,.own v ((hS l x.di).length+1) 8 310)] (C' x.di (kK lD (l++[s]) l))) (.same ar (λk o h=>?_)) ?_;show cU (_++(bif f 9 then _ else _)) (bif f 9 then _ else _) k=_;rw[M 9 as3,M 12 as3];exact h;refine X.vi 203 (a':=hk (st lD x.di v) (l++[s]) (l++[s])) rfl (by rw[auG,lF,lF]) Qi (dK.b1 (by rw[auG,lF,lF]) (amp rr wg sd)) ?_;refine X.jP [(1,u (x.di:Int)),(2,u x.lv),(3,.bool x.iso),(4,.bool x.rock),(5,.box 200 fy 0),(6,.box 201 bK 0),(7,.box 202 fz 0),(13,.Q .none 1 (aN (ce 0 n.J))),(33,.Q .none 12 (n.J.map enc)),(34,u (n.J.map enc).length),(35,u (i:Int)),(15,u (i:Int)),(16,.box 16 mE 0),(17,.bool s.iso),(18,.bool s.rock),(21,.bool s.de),(24,.box 24 su 0)] (cU [(16,.box mE [.O k.name,u k.kind,.O k.d7,.O k.target,u k.cx,u k.n2,u k.n3,u k.n4,u k.n5,u k.n6,.Q .none 12 (k.J.map enc),.Q .none 2 (k.bN.map c6)]),(24,.box su (tr s)),(200,.box fy [.al nK]),(201,.box bK [.Q (.own 204 uP) 1 (e8 (l++[s]))]),(202,.box fz [xF fy bK fz]),(203,.row nK (hk (st lD x.di v) (l++[s]) (l++[s])) 7 305),(204,.own uP (e8 (l++[s])).length 1 3)] (kK (st lD x.di v) (l++[s]) (l++[s]))) ⟨ar,λk=>if k=x.di+300 then 148 else k,?_,?_⟩ ?_;exact amq rfl;exact amr rfl ⟨rfl,bb⟩ rfl (λk o h=>axq) wg sd;apply b2;refine X.cond s.de rfl (λN=>?_) (λN=>?_);refine tV ?_;apply cB;apply d_;apply cB;apply d_;apply d_;apply cB;apply d_;apply d_;refine g9 ?_;apply d_;refine jq ?_;refine⟨rfl,ai,.inr (af.Sw rfl [aE k,u (s.di:Int),u s.lv,.bool s.iso,.bool s.rock,.box 200 fy 0,.box 201 bK 0,.box 202 fz 0] AZ (c7.fG (λq G=>Zf (show(16:Nat)<200 by decide) (show(24:Nat)<200 by decide) G) (aY k asZ AK Zl s (dC.add s) (l++[s]) fy bK fz nK uP (st lD x.di v) pe amM amN N (Zk.add s) (by rw[atf];simp;omega) (by rw[Ql];omega) asZ)) ⟨E,dr (by rw[as_ N]),dr amL.symm,E,E,E,E,E,ai⟩ ?_)⟩;rintro d aO ⟨rfl,y8,amP,wd,rfl⟩;refine⟨_,E,?_⟩;refine np ?_;exact⟨(⟨i+1,aH⟩,y8,amP,wd),by show _-(i+1)<_-i;omega,.same ar (λq o h=>by dsimp only at h;rw[cX]at h;exact(amt (Ki h)).trans h)⟩;(have amQ:fT k s (dC.add s)=[]:=by rw[XR,sU (by simpa using Qm.symm.trans N)];rfl);rw[amQ,aua]at cX;refine rP ?_;exact⟨(⟨i+1,aH⟩,nK,uP,st lD x.di v),by show _-(i+1)<_-i;omega,.same ar (λq o h=>by dsimp only at h;rw[cX]at h;exact(Zf (show(16:Nat)<200 by decide) (show(24:Nat)<200 by decide) (Ki h)).trans h)⟩);(have cd:i=n.J.length:=by simp at hc;omega);(have bY:fm (n.J.take i) ((ce 0 n.J).take i) x c=fT n x c:=by rw[XR,atC asZ,atC asZ]);rw[bY];refine X.jP [] (uN fy bK fz b4 mv vs (kL++fT n x c) (kL++fT n x c)) (.same trivial (λq o h=>h)) ?_;refine wM ?_;exact⟨.bo [],ai,rfl,_,_,_,rfl⟩
end Go.bS.cj
