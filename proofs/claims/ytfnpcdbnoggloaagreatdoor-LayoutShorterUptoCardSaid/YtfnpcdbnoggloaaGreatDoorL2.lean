/- Contracts of the program's functions, part 2. No conditions of its own. -/
import Derived.Test.YtfnpcdbnoggloaaGreatDoorL1
import Derived.ChangeKeysEq
import Derived.Lib.UnsafeStr
import Derived.Deep.AppendSrc
import Derived.Deep.Upon
import Derived.Lib.AppendZerosOnto
import Derived.Laws.Externs
import Derived.Laws.IdiomCopy
import Derived.RangeFuncBox
import Derived.RangeFuncLeaves
import Derived.Shelf.Abstract
import Derived.WalkKit
import Derived.OwnWalkIn
import Derived.TacticsInMore
import Derived.LoopNIn
import Derived.LoopIn
import Derived.Test.YtfnpcdbnoggloaaGreatDoorProg
import Derived.Shelf.SlIter.Collect
import Derived.RangeFuncKeeps
set_option linter.unnecessarySimpa false
set_option linter.unusedSimpArgs false
set_option linter.unusedVariables false
set_option maxRecDepth 100000
set_option maxHeartbeats 16000000
namespace Go.bV
open Go Go.RowKit
variable{P:Program}{B:World}{al:Nat}{ops:Array Oper}{α:Type}
def Eo(ops:Array Oper)(j k:Nat):Bool:=match ops.toList[j]? with
 |some o=>o.after.toList.any λe=>Region.binds .any e&&Nat.beq e.on k
 |none=>false
def p_(ops:Array Oper)(f:Nat->Bool):Prop:=∀j k,Eo ops j k=true->f j=true->f k=true
theorem p_.e4{f:Nat->Bool}(h:p_ ops f)(j k:Nat)(O:Eo ops j k=true)(Z:f k=false):f j=false:=by cases ad:f j with|false=>rfl|true=>rw[h j k O ad]at Z;cases Z
theorem p_.n{f:Nat->Bool}(h:p_ ops f)(j k:Nat)(Z:f k=false:=by rfl)(O:Eo ops j k=true:=by rfl):f j=false:=h.e4 j k O Z
theorem p_.o{cR:Nat->Bool}(h:p_ ops cR)(f:Nat->Bool)(j k:Nat)(Z:cR k=false:=by rfl)(O:Eo ops j k=true:=by rfl)(e:f j=cR j:=by rfl):∃g:Nat->Bool,f=λi=>_root_.cond (Nat.beq i j) false (g i):=⟨f,funext λi=>by cases G:Nat.beq i j with|false=>rfl|true=>rw[awI G];exact e.trans (h.e4 j k O Z)⟩
variable{be:Array Bool}{i:Nat}
theorem p_.set(h:p_ ops (ep be)){o:Oper}(hi:i<be.size)(ag:ops[i]?=some o)(l0:∀e∈o.after.toList,Region.binds .any e=true->be.getD e.on false=true):p_ ops (ep (be.setIfInBounds i true)):=by intro j k O ad;rw[Ek hi]at ad⊢;by_cases Z:k=i;subst Z;simp[hM];(have fv:Nat.beq k i=false:=by cases G:Nat.beq k i with|false=>rfl|true=>exact absurd (avb G) Z);rw[show hM (ep be) i k=ep be k by simp[hM,fv]];by_cases fq:j=i;subst fq;unfold Eo at O;rw[show ops.toList[j]?=some o by simpa using ag]at O;obtain⟨e,aq,G⟩:=av'.1 O;obtain⟨lo,g_⟩:=Bool.and_eq_true_iff.1 G;have:=avb g_;subst this;exact l0 e aq lo;(have gm:Nat.beq j i=false:=by cases G:Nat.beq j i with|false=>rfl|true=>exact absurd (avb G) fq);(have b0:hM (ep be) i j=ep be j:=by simp[hM,gm]);rw[b0]at ad;exact h j k O ad
def HG(P:Program)(B:World)(al:Nat)(ay:List bC)(all:Array Oper)(l:α->(Nat->Bool)->List (Nat×D))(hs:α->(Nat->Bool)->List (Nat×aJ)):List Oper->Nat->Prop
 |[],_=>True
 |o::r,i=>(∀x g,p_ all (fP g o.after.toList i)->Ee P B al ay (ht (l x (fP g o.after.toList i)) (hs x (fP g o.after.toList i))) o.dst o.op λaA=>∃bw,jD aA (l bw (hM (fP g o.after.toList i) i))/\mI aA (hs bw (hM (fP g o.after.toList i) i)))/\HG P B al ay all l hs r (i+1)
variable{all:Array Oper}
theorem adw{ay:List bC}{l:α->(Nat->Bool)->List (Nat×D)}{hs:α->(Nat->Bool)->List (Nat×aJ)}{r:List Oper}:∀{n:Nat},HG P B al ay all l hs r n->∀{i:Nat} {o:Oper},r[i]?=some o->∀x f,p_ all (fP f o.after.toList (n+i))->Ee P B al ay (ht (l x (fP f o.after.toList (n+i))) (hs x (fP f o.after.toList (n+i)))) o.dst o.op λaA=>∃bw,jD aA (l bw (hM (fP f o.after.toList (n+i)) (n+i)))/\mI aA (hs bw (hM (fP f o.after.toList (n+i)) (n+i))):=by induction r with|nil=>intro n _ i o h;simp at h|cons x r aV =>intro n h i o ag y f;exact ayk
theorem SY{ay:List bC}(hT:df P ay){W:b5 P B al}{a6:av->Prop}{Q':Exit->Act->World->Prop}(fO:∀z a w C,bI W w C z a->a6 z->Q' .normal a w)(aw:BK al ops.toList 0=true)(l:α->(Nat->Bool)->List (Nat×D))(hs:α->(Nat->Bool)->List (Nat×aJ))(pm:∀x f,(∀i,i<ops.size->f i=true)->a6 (ht (l x f) (hs x f)))(step:HG P B al ay ops l hs ops.toList 0): ∀(n:Nat) (x:α) (be:Array Bool) (a:Act) (w:World) (C:Nat->Nat),be.size=ops.size->be.toList.count false=n->bI W w C (ht (l x (ep be)) (hs x (ep be))) a->p_ ops (ep be)->wpAny P .any ops Q' n be a w
 |0,x,be,a,w,C,hsz,hc,M,bf=>by(have hL:∀i,i<ops.size->ep be i=true:=λi hi=>ayl);refine⟨?_,fO _ _ _ _ M (pm _ _ hL)⟩;cases af:Region.ready .any ops be with|nil=>rfl|cons i r =>obtain⟨o,ag,hi,h1,_⟩:=BL (af ▸ auY:i∈Region.ready .any ops be);have A:=hL i hi;(have bg:i<be.size:=by omega);simp only[ep,Array.getD,bg,awu]at h1 A;rw[h1]at A;cases A
 |n+1,x,be,a,w,C,hsz,hc,M,bf=>by(have qL:0<be.toList.count false:=by omega);have mJ:=aw7.1 qL;obtain⟨i,hi,G⟩:=List.getElem_of_mem mJ;(have ls:i<be.size:=by simpa using hi);have aZ:Region.ready .any ops be≠[]:=adh aw hsz i i rfl auD (ay7);refine⟨λe=>absurd e aZ,λi hi=>?_⟩;obtain⟨o,ag,SZ,qM,l0⟩:=BL hi;obtain⟨aS,O,_⟩:=SM aw (i:=i) (o:=o) (by simpa using ag);have I:=adw step (i:=i) (o:=o) (by simpa using ag) x (ep be);rw[avu]at I;(have qB:fP (ep be) o.after.toList i=ep be:=ayg);rw[qB]at I;have I:=I bf;unfold wpOp;simp only[ag];rw[auO (by simp[Region.wanted,aS])];refine .inl (Oper.wp_mono (λbv w' cA=>?_) (SI hT M aS O I Q'));obtain⟨aA,aW,⟨bw,h1,A⟩,aa⟩:=cA;(have mn:i<be.size:=by omega);rw[<-Ek mn]at h1 A;refine SY hT fO aw l hs pm step n bw _ bv w' aW (by simpa using hsz) ?_ (aa.G8 h1 A) (bf.set mn ag l0);exact ax9
variable{W:b5 P B al}{id:Nat}{z:av}{K:cM->av->Prop}
theorem Y.adx{ay:List bC}(hT:df P ay)(hm:P.follows .mixedOrders=true)
  (l:α->(Nat->Bool)->List (Nat×D)) (hs:α->(Nat->Bool)->List (Nat×aJ)) (aw:BK al ops.toList 0=true) (eI:α)
  (h1:jD z (l eI λ_=>false)) (A:mI z (hs eI λ_=>false)) (step:HG P B al ay ops l hs ops.toList 0)
  (pm:∀x f,(∀i,i<ops.size->f i=true)->K .normal (ht (l x f) (hs x f))) :
  Y W (.region id ops true) z K :=
 ⟨λa w C M=>wp_region_any hm (by
  have e:ep (Array.replicate ops.size false)=λ_=>false:=by
   funext i
   simp only[ep,Array.getD];split<;>simp
  exact SY hT (W:=W) (a6:=K .normal) (λz a w C bK hK=>⟨.normal,z,C,rfl,hK,bK⟩) aw l hs pm step _ eI _ _ _ C auF auF (by rw[e];exact M.drew.G8 h1 A) (by rw[e];exact λj k _ h=>by cases h))⟩
def Ep(P:Program)(B:World)(ay:List bC)(al:Nat)(ops:Array Oper):List Oper->av->(av->Prop)->Prop
 |[],z,K=>K z
 |⟨dst,op,_,_,_,guard⟩::rest,z,K=>iY al dst=true/\(match guard with
  |none=>True
  |some (j,iE)=>∃g,(ops[j]?).bind (·.dst)=some g/\z.t g=.bool iE)/\
  ((nS P B ay z dst op λaA=>Ep P B ay al ops rest aA K)\/ah P B al z dst op λaA=>Ep P B ay al ops rest aA K)
theorem S0{ay:List bC}(hT:df P ay){W:b5 P B al}{ops:Array Oper}{a6:Exit->Act->World->Prop}{K:av->Prop}(fO:∀aA bv w' aW,K aA->bI W w' aW aA bv->a6 .normal bv w'): ∀{l:List Oper} {z:av} (_:Ep P B ay al ops l z K) {a:Act} {w:World} {C:Nat->Nat} (_:bI W w C z a),wpList P ops a6 l a w
 |[],_,I,_,_,_,M=>fO _ _ _ _ I M
 |o::rest,z,I,a,w,C,M=>by obtain⟨O,aS,I⟩:=I;(have next:∀bv w',(∃aA aW,Ep P B ay al ops rest aA K/\bI W w' aW aA bv)->wpList P ops a6 rest bv w':=λbv w' ⟨aA,aW,h1,A⟩=>S0 hT fO h1 A);(have cz:Region.wanted o (yielded ops a.tmps)=true:=ayj);unfold wpList;rw[auO cz];rcases I with I|I;(·exact .inl (Oper.wp_mono next (tK hT M O I a6)));obtain⟨dst,op,type,pos,after,guard⟩:=o;exact .inl (Oper.wp_mono next (I.run W w C a M O type pos after a6))
theorem Y.Me{ay:List bC}(hT:df P ay)(I:Ep P B ay al ops ops.toList z (K .normal)):Y W (.region id ops false) z K :=
 ⟨λ_ _ _ M=>wp_region_list (S0 hT (λaA _ _ aW hK bK=>⟨.normal,aA,aW,rfl,hK,bK⟩) I M)⟩
variable{dst:Option Tmp}{sO qN k3:Operand}{gn a2 a3:Int}
theorem ah.ady{K:av->Prop}{t e:TypeId}{i:TypeInfo}{q:IntKind}(au:P.underlying t=some (.array 3 e))(hi:P.info? e=some i)(hsz:i.size=1)
  (bn:∀w,(zeroValue t).run P w=.ok (.agg #[.int q 0,.int q 0,.int q 0]) w) (h0:z.bb sO=.int q gn) (h1:z.bb qN=.int q a2) (A:z.bb k3=.int q a3)
  (hK:K (z.put dst (.agg [.int q gn,.int q a2,.int q a3]))):ah P B al z dst (.build t #[(0,sO),(1,qN),(2,k3)]) K :=
 .val λW w C a M type pos after=>by
  have v0:=cI M.tmps sO;rw[h0]at v0
  have jr:=cI M.tmps qN;rw[h1]at jr
  have v2:=cI M.tmps k3;rw[A]at v2
  refine⟨.agg #[.int q gn,.int q a2,.int q a3],w,C,z,_,?_,M,.agg [.int q gn,.int q a2,.int q a3] [.int q gn,.int q a2,.int q a3] rfl (λj d v O X=>?_),hK⟩
  ·simp[execOp,v0.fC,jr.fC,v2.fC,Instr.build,bn,run_underlying au,zw hi,hsz,Result.andThen,Instr.fill,Value.cells]
  match j with
  |0=>cases O;cases X;exact .int _ _
  |1=>cases O;cases X;exact .int _ _
  |2=>cases O;cases X;exact .int _ _
  |j+3=>simp at O
variable{C:Nat->Nat}{a:Act}{w:World}{v:Value}{xs:List D}{k e:Nat}
theorem bI.commit(M:bI W w C z a)(s:Nat)(hs:z.H s=some (.row v xs k e))(aA:av)(ax:∀w C,bh w C (.T (.own s v) k xs) v->∀j ao,bh w C (z.t j) ao->bh w C (aA.t j) ao)(cA:∀j o,aA.H j=some o->(j=s/\o=.own v xs.length k e)\/(j≠s/\z.H j=some o)): ∃aW,bh w aW (.T (.own s v) k xs) v/\bI W w aW aA a:=by obtain⟨bv,cap,X,hc,hm,Z,fg,cz⟩:=M.heap.cl s _ hs;by_cases h0:0<cap;obtain⟨b,vs,rfl,G,hsz,da,af⟩:=cz h0;have fw:aJ.es (.row v xs k e) b:=⟨_,cap,X,h0⟩;have j5:nQ w C w (gw C b (xs.length*k)):=⟨auW _,λx _=>Ei C b _ auD x,λ_ _ _ _=>rfl⟩;have a1:de (λx=>x=b) w C w (gw C b (xs.length*k)):=⟨j5,rfl,rfl,rfl,λx _ J=>⟨rfl,rC _ _ J⟩⟩;(have dQ:bh w (gw C b (xs.length*k)) (.T (.own s v) k xs) v:=by have:=xX (w:=w) (C:=gw C b (xs.length*k)) (tg:=.own s v) (k:=k) (xs:=xs) (vs:=vs.toList) (b:=b) (e:=e) (kv:=(0,0)) (cap:=cap) G Z hc hm (by rw[h2];exact auW _) (λj d O=>ayO) X.symm;rw[X]at this⊢;exact this);refine⟨gw C b (xs.length*k),dQ,⟨λj=>ax _ _ dQ j _ ((M.tmps j).ext j5),⟨λj o ag=>?_,λj ez o bN x aZ h1 A au c0=>?_,λj o x ag au=>?_⟩,M.size,M.defers,?_⟩⟩;rcases cA j o ag with⟨rfl,rfl⟩|⟨ad,ag⟩;exact⟨_,cap,X,hc,hm,λ_=>⟨b,vs,rfl,G,hsz,h2 _ _ _⟩⟩;exact(M.heap.cl j o ag).iB j5 λx J=>⟨rfl,rC _ _ λe=>by subst e;exact M.heap.inj j s o _ x ad ag hs J fw⟩;(have key:∀j o,aA.H j=some o->o.es x->∃dt,z.H j=some dt/\dt.es x:=λj o ag au=>by rcases cA j o ag with⟨rfl,rfl⟩|⟨_,ag⟩;obtain⟨bN,iF,aa,aF⟩:=au;rw[X]at aa;have:=pf aa;subst this;exact⟨_,hs,fw⟩;exact⟨o,ag,au⟩);obtain⟨dt,aa,aF⟩:=key j o h1 au;obtain⟨lY,a8,cN⟩:=key ez bN A c0;exact M.heap.inj j ez dt lY x aZ aa a8 aF cN;rcases cA j o ag with⟨rfl,rfl⟩|⟨_,ag⟩;obtain⟨bN,iF,aa,aF⟩:=au;rw[X]at aa;have:=pf aa;subst this;exact M.heap.cQ _ _ _ hs fw;exact M.heap.cQ j o x ag au;refine M.step.trans a1 λx J wM=>?_;subst wM;rcases M.heap.cQ s _ _ hs fw with h1|h1;exact h1;omega;have J:xs=[]:=au1 auD;subst J;(have hcap:cap=0:=by omega);subst hcap;(have dQ:bh w C (.T (.own s v) k []) v:=by cases bv with|none=>rw[X];exact .jj _ _ none rfl|some dT =>obtain⟨b,rfl,G⟩:=fg dT rfl;rw[X];exact .T _ _ [] b 0 0 (λ_=>undef) rfl G (auW _) (au7 _) (λx J=>by cases J) auF (λj d O=>by simp[b4]at O) (λj d O=>by simp[b4]at O) (λj d O=>by simp[b4]at O));(have tN:∀j o x,aA.H j=some o->o.es x->j≠s/\z.H j=some o:=λj o x ag au=>by rcases cA j o ag with⟨rfl,rfl⟩|A;obtain⟨bN,iF,aa,aF⟩:=au;rw[X]at aa;simp only[Value.slice.injEq]at aa;simp at aF;omega;exact A);refine⟨C,dQ,⟨λj=>ax _ _ dQ j _ (M.tmps j),⟨λj o ag=>?_,λj ez o bN x aZ h1 A au c0=>?_,λj o x ag au=>?_⟩,M.size,M.defers,M.step⟩⟩;rcases cA j o ag with⟨rfl,rfl⟩|⟨ad,ag⟩;exact⟨_,0,X,auW _,au7 _,λh=>absurd h auF⟩;exact M.heap.cl j o ag;exact M.heap.inj j ez o bN x aZ (tN j o x h1 au).2 (tN ez bN x A c0).2 au c0;exact M.heap.cQ j o x (tN j o x ag au).2 au
variable{c:Code}{aD:List D}{b:Nat}
theorem Y.HH(s q i:Nat)(hs:z.H s=some (.row v xs k e))(I:z.H q=some (.box b aD))(Mk:q≠s)(hi:aD[i]?=some (.am v))
  (h:Y W c ((z.b_ s none).b_ q (some (.box b (iD aD i (.T .none k xs))))) K):Y W c z K :=
 ⟨λa w C M=>by
  obtain⟨aW,dQ,fZ⟩:=M.commit s hs (z.b_ s none) (λw C _ j ao af=>af) (λj o ag=>by
   by_cases ad:j=s
   ·subst ad;rw[rG]at ag;cases ag
   rw[mK z none ad]at ag;exact .inr ⟨ad,ag⟩)
  have rD:(z.b_ s none).H q=some (.box b aD):=by rw[mK z none Mk];exact I
  exact h.run a w aW (fZ.Hz q rD λdm af=>db.cell af λao au=>(db.SN af hi au) ▸ dQ.jk)⟩
theorem Y.BP(s j:Nat)(x:D)(ad:z.t j=.box s b 0)(hs:z.H s=some (.box b aD))(J:x.cells=aD)(en:aD.all D.one=true)
  (h:Y W c {t:=λi=>_root_.cond (Nat.beq i j) (.a7 aD.length [x] 0 0) (z.t i),H:=λi=>_root_.cond (Nat.beq i s) none (z.H i)} K) (aw:∀(w:World) (C:Nat->Nat) v,bh w C (.box s b 0) v->v=.pointer (some ⟨b,0,none⟩):=by intro w C v h;cases h;rfl):Y W c z K :=
 ⟨λa w C M=>by
  obtain⟨vs,e,h1,A,aa⟩:=M.heap.cl s _ hs;have j5:nQ w C w (gw C b aD.length):=⟨auW _,λx _=>Ei C b _ auD x,λ_ _ _ _=>rfl⟩;have a1:de (λx=>x=b) w C w (gw C b aD.length):=⟨j5,rfl,rfl,rfl,λx _ J=>⟨rfl,rC _ _ J⟩⟩
  have fZ:bI W w (gw C b aD.length) (z.b_ s none) a:=M.b_ a1 (λx J=>by subst J;exact M.heap.cQ s _ x hs rfl)
   (λbp o x aZ ag au J=>ayV) (λx J=>by cases J)
  have qO:=A.ext j5
  have dQ:bh w (gw C b aD.length) (.T .none aD.length [x]) (.slice (some ⟨b,0,none⟩) 1 1) :=
   xX (xs:=[x]) (vs:=vs) (kv:=(0,0)) (e:=e) h1 (λy hy=>by rw[avs.1 hy,J]) (auW _) auG (by rw[h2];simp) (λi d O=>by
    have hu:aD[i]?=some d:=by simpa[b4,J]using O
    obtain⟨ao,au⟩:=lU (l:=vs) (i:=i) (by rw[<-A.1];exact fu hu)
    exact⟨ao,au,qO.2 i d ao hu au,A.one en ao (avd.2 ⟨i,au⟩)⟩) trivial
  refine h.run a w _ ⟨λi=>?_,⟨λi o ag=>?_,λi g9 o bN y aZ ha G=>?_,λi o y ag=>?_⟩,fZ.size,fZ.defers,fZ.step⟩
  ·show bh _ _ (_root_.cond (Nat.beq i j) _ _) _
   cases hi:Nat.beq i j with
   |false=>exact fZ.tmps i
   |true =>
    have:=avb hi;subst this
    have a8:=M.tmps i;rw[ad]at a8;rw[aw _ _ _ a8];have:=bh.a7 aD.length [x] 0 0 b 0 1 dQ;simpa using this
  ·refine fZ.heap.cl i o ?_;exact ag
  ·exact fZ.heap.inj i g9 o bN y aZ ha G
  exact fZ.heap.cQ i o y ag⟩
variable{x:Operand}
theorem ah.Ml{K:av->Prop}{off:Nat}(J:z.bb x=.a7 k xs i off)(hK:K (z.put dst (.a7 k xs i off))):ah P B al z dst (.nilCheck x) K :=
 .val λW w C a M type pos after=>by
  have X:=cI M.tmps x;rw[J]at X
  refine⟨a.eval x,w,C,z,_,?_,M,X,hK⟩
  have key:∃dT,a.eval x=.pointer (some dT):=by
   generalize a.eval x=ao at X
   cases X with
   |a7 k xs i off b o cap h=>exact⟨_,rfl⟩
  obtain⟨dT,h⟩:=key;simp only[execOp,h,Sem.run_pure]
variable{rt:TypeId}
theorem ah.adz{K:av->Prop}{t ce:TypeId}{off:Nat}(aw:P.underlying t=some (.pointer ce))(J:z.bb x=.a7 k xs i off)(hK:K (z.put dst (.bool false))):ah P B al z dst (.binOp .eql t x (.const (.pointer none)) rt) K :=
 .val λW w C a M type pos after=>by
  have X:=cI M.tmps x;rw[J]at X
  have key:∃dT,a.eval x=.pointer (some dT):=by
   generalize a.eval x=ao at X
   cases X with
   |a7 k xs i off b o cap h=>exact⟨_,rfl⟩
  obtain⟨dT,h⟩:=key;refine⟨.bool false,w,C,z,_,?_,M,.bool _,hK⟩;have e2:a.eval (.const (.pointer none))=.pointer none:=rfl;have aF:=zv (P:=P) .eql t x (.const (.pointer none)) (.pointer (some dT)) (.pointer none) w auF auF
  have cN:(binOp .eql t (.pointer (some dT)) (.pointer none)).run P w=.ok (.bool false) w:=by
   have h:∀d:Nat,(Op.equalIn (d+1) t (.pointer (some dT)) (.pointer none)).run P w=.ok false w:=λd=>by
    simp[Op.equalIn,run_underlying aw]
   simp only[binOp];simp[Op.equal,Op.maxDepth,h 9999]
  simp only[execOp,h,e2,Sem.run_bind,aF,cN,Result.andThen_ok,Sem.run_pure]
theorem ah.adA{K:av->Prop}{t ce:TypeId}(aw:P.underlying t=some (.pointer ce))(J:z.bb x=.am (.pointer none))(hK:K (z.put dst (.bool true))):ah P B al z dst (.binOp .eql t x (.const (.pointer none)) rt) K :=
 .val λW w C a M type pos after=>by
  have X:=cI M.tmps x;rw[J]at X
  have h:a.eval x=.pointer none:=by
   generalize a.eval x=ao at X;cases X;rfl
  refine⟨.bool true,w,C,z,_,?_,M,.bool _,hK⟩;have e2:a.eval (.const (.pointer none))=.pointer none:=rfl;have aF:=zv (P:=P) .eql t x (.const (.pointer none)) (.pointer none) (.pointer none) w auF auF
  have cN:(binOp .eql t (.pointer none) (.pointer none)).run P w=.ok (.bool true) w:=by
   have h:∀d:Nat,(Op.equalIn (d+1) t (.pointer none) (.pointer none)).run P w=.ok true w:=λd=>by
    simp[Op.equalIn,run_underlying aw]
   simp only[binOp];simp[Op.equal,Op.maxDepth,h 9999]
  simp only[execOp,h,e2,Sem.run_bind,aF,cN,Result.andThen_ok,Sem.run_pure]
variable{K:av->Prop}{ay:List bC}{j:Nat}{d:D}
theorem adB(Z:∀x∈xs,x.cells.length=k)(hi:xs[i]?=some (.agg aD))(ad:j<k)(m:Nat): (b4 (xs.set i (.agg (iD aD j d))))[m]?=if m=i*k+j then some d else(b4 xs)[m]?:=by have c1:=fu hi;have hcs:aD.length=k:=Z _ (au5 hi);(have hy:(D.agg (iD aD j d)).cells.length=k:=by show(iD aD j d).length=k;rw[Lu,hcs]);have dg:=qx Z;(have dP:i*k+k<=xs.length*k:=by rw[<-awP];exact aww k c1);rw[Hw Z c1 hy,rH _ _ _ (by rw[dg,hy];exact dP)];by_cases h:i*k<=m/\m<i*k+k;rw[auO ⟨h.1,by rw[hy];exact h.2,by omega⟩];show(iD aD j d)[m-i*k]?=_;rw[Lv];have A:=wD Z hi (j:=m-i*k) auD;rw[show i*k+(m-i*k)=m by omega]at A;by_cases e:m=i*k+j;rw[auO ⟨by omega,by omega⟩,auO e];rw[auN auD,auN e,A];rfl;rw[auN (λcA=>h ⟨cA.1,by have:=cA.2.1;rw[hy]at this;exact this⟩),auN auD]
variable{t:Nat}{ce:bC}
theorem ah.js(hT:df P ay){f:Nat}(s:Nat){m o aB:Nat}{me:Bool}(J:z.bb x=.am (h5 v m))(hs:z.H s=some (.row v xs k e))(hi:i<xs.length)
  (ax:dC ay t=some ce) (b2:ce.kind=.struct) (o9:ce.o_[f]?=some (o,aB,me)) (hsz:aB≠0) (hK:K (z.put dst (.am (h5 v (m+o))))):ah P B al z dst (.fieldAddr t x f) K :=
 .val λW w C a M type pos after=>by
  obtain⟨c5,rfl⟩:=hT.get ax;have X:=cI M.tmps x;rw[J]at X
  obtain⟨b,cap,vs,rfl,_⟩:=ks.pos (i:=i) (M.heap.cl s _ hs) hi;obtain⟨b',ku,tE,_⟩:=c5.Bo b2;obtain⟨gI,dg,xV,⟨qz,DS,DT⟩,_,_⟩:=He tE o9;have Bq:b'[f]?=some gI:=by simpa using dg
  refine⟨_,w,C,z,_,?_,M,.am _,hK⟩;simp[execOp,X.gh,h5,Instr.fieldAt,run_underlying ku,Bq,Instr.sureAddr,fieldPlace,zw DS,DT,hsz,xV,p1]
variable{y:Operand}
theorem ah.vj(hT:df P ay)(s:Nat)(J:z.bb x=.am (h5 v (i*k+j)))(hs:z.H s=some (.row v xs k e))(ax:dC ay t=some ce)(hsz:ce.aB=1)
  (hi:xs[i]?=some (.agg aD)) (ad:j<k) (ag:(z.bb y).one=true) (hK:K ((z.b_ s (some (.row v (xs.set i (.agg (iD aD j (z.bb y)))) k e))).put dst .undef)):ah P B al z dst (.store t x y) K :=
 .unit λW w C a M type pos after=>by
  obtain⟨c5,rfl⟩:=hT.get ax;have c1:=fu hi;have X:=cI M.tmps x;rw[J]at X
  have hy:=cI M.tmps y;obtain⟨h1,A⟩:=hy.oA ag;obtain⟨b,cap,vs,rfl,hc,hm,Z,G,gc,da,af⟩:=ks.pos (M.heap.cl s _ hs) c1;have dP:i*k+k<=cap*k:=by rw[<-awP];exact aww k (avx c1 hc)
  have hv:i*k+j+0+(a.eval y).cells.toList.length<=vs.size:=by rw[h1,gc];simp;omega
  have cZ:=run_storeCells_at P b (i*k+j) e (a.eval y).cells.toList 0 vs w G hv (by rw[h1];simpa using A);simp only[aw9]at cZ;have a1:=de.setRow (C:=C) (n:=0) G (aD:=(vs.toList.take (i*k+j)++(a.eval y).cells.toList++vs.toList.drop (i*k+j+(a.eval y).cells.toList.length)).toArray) auD (λo ag=>by omega);have fw:aJ.es (.row (.slice (some ⟨b,0,none⟩) xs.length cap) xs k e) b:=⟨_,cap,rfl,by omega⟩;refine⟨_,_,_,?_,M.b_ a1 (s:=s) (λx J=>azl) (λbp bN ey aZ dn au nV=>?_) λQ bn=>?_,hK⟩
  ·simp only[h5,avu]at X;simp only[execOp,X.gh,Instr.storeAt,Instr.sureAddr,Sem.run_bind,Sem.run_pure,Result.andThen_ok,storeVar,c5.size,hsz,h1];rw[h1]at cZ;rw[auN auF];exact(auP (λr=>Result.andThen r λ_ w'=>Result.ok Next.skip w') cZ).trans rfl
  ·subst nV;exact M.heap.inj bp s bN _ ey aZ dn hs au fw
  cases bn
  refine⟨⟨_,cap,by rw[awc],by simpa using hc,hm,λQ bn=>?_,λdT gR=>⟨b,by cases gR;rfl,by simpa using ij G⟩,λ_=>⟨b,_,rfl,setRow_heap w b _ _ e _ G,?_,h2 _ _ _,λm d O=>?_⟩⟩,λx J=>?_⟩
  ·rcases awS bn with bn|rfl
   ·exact Z Q bn
   show(iD aD j (z.bb y)).length=k;rw[Lu];exact Z _ (au5 hi)
  ·simp only[avN,auV,au9,avX,awG,h1];simp;omega
  ·rw[adB Z hi ad]at O;rw[awH,rH _ _ _ (by simpa using hv)];have kA:(a.eval y).cells.toList.length=1:=by rw[h1];rfl
   rw[kA];by_cases tX:m=i*k+j
   ·rw[auO tX]at O;simp only[avi]at O;subst O;rw[auO ⟨by omega,by omega,by simp;omega⟩,tX,axt];exact⟨a.eval y,by rw[h1];rfl,hy.ext (by rw[kA]at a1;exact a1.ext),A⟩
   rw[auN tX]at O;rw[auN auD];obtain⟨ao,aa,aF,a8⟩:=af m d O;exact⟨ao,by simpa using aa,aF.ext (by rw[kA]at a1;exact a1.ext),a8⟩
  obtain⟨dK,iF,dU,_⟩:=J;simp only[Value.slice.injEq,avi,Addr.mk.injEq]at dU;obtain⟨⟨rfl,_⟩,_⟩:=dU;exact⟨M.heap.cQ s _ _ hs fw,.inl rfl⟩
variable{aH:bC}
theorem S1{e:bC}(aq:e.f' P)(i1:aH.f' P)(b2:e.kind=.slice aH.t)(bn:aH.zero.isSome=true)(h0:0<aH.aB){n:Nat}(ar:n*aH.aB<=16777216){ds:List (Nat×D)}(sF:ds.length=n)(dQ:tC aH.aB 0 ds){vs:List (Nat×Value)}(h1:vs.map (·.1)=ds.map (·.1))(A:db w C (ds.map (·.2)) (vs.map (·.2))): ∃dm:List Value,(Instr.buildSlice e.t n ⟨vs⟩).run P w=.ok (.slice (some ⟨w.heap.size,0,none⟩) n n) (w.alloc (.cells dm.toArray aH.t))/\dm.length=n*aH.aB/\(∀x∈ds.map (·.2),x.cells.length=aH.aB)/\∀(j:Nat) d,(b4 (ds.map (·.2)))[j]?=some d->∃ao,dm[j]?=some ao/\bh w C d ao/\ao.oneCell'=true:=by obtain⟨Q,bn⟩:=axH.1 bn;obtain⟨i,hi,hs,_,oB⟩:=i1.pZ;obtain⟨e1,oC,nf,iH⟩:=oB Q bn;obtain⟨tF,hcells⟩:=Lw dQ;have au:=aq.j2 b2;(have o':vs.length=n:=by have:=A.1;simp only[auS]at this;omega);(have gc:vs=((vs.map (·.2)).zipIdx 0).map λx=>(x.2,x.1):=ayd);(have hsz:∀(j:Nat) d v,(ds.map (·.2))[j]?=some d->(vs.map (·.2))[j]?=some v->d.cells.length=aH.aB/\v.cells.size=aH.aB/\db w C d.cells v.cells.toList/\∀ao∈v.cells.toList,ao.oneCell'=true:=ayu);(have mJ:∀v∈vs.map (·.2),v.cells.size=aH.aB:=ayo);have DX:=Great.fill_whole h0 (vs.map (·.2)) ((Array.range (n*aH.aB)).map (e1.cells[·%e1.cells.size]!)) mJ (by simp only[auS,o',Array.size_map,Array.size_range]);rw[<-gc]at DX;(have cZ:(Instr.buildSlice e.t n ⟨vs⟩).run P w=.ok (.slice (some ⟨w.heap.size,0,none⟩) n n) (w.alloc (.cells ((vs.map (·.2)).flatMap λv=>v.cells.toList).toArray aH.t)):=ax');(have aj:(ds.map (·.2)).length=n:=by simpa using sF);(have Z:∀x∈ds.map (·.2),x.cells.length=aH.aB:=ayp);have dg:=Lx (w:=w) (C:=C) (ds:=ds.map (·.2)) (vs:=vs.map (·.2)) A.1 (λi d v O X=>(hsz i d v O X).2.2.1);refine⟨_,cZ,?_,Z,λj d O=>?_⟩;rw[<-dg.1];show(b4 _).length=_;rw[qx Z,aj];exact ayc
variable{bP:Array (Nat×Operand)}
theorem ah.adC(hT:df P ay){bJ n s q:Nat}(ax:dC ay t=some ce)(b2:ce.kind=.slice bJ)(fr:dC ay bJ=some aH)(aa:Nat.ble (n*aH.aB) 16777216=true)(aF:Nat.blt 0 aH.aB=true)(a8:aH.zero.isSome=true)
  (I:zt true z bP.toList λds=>ds.length=n/\tC aH.aB 0 ds/\∀v,K ((z.b_ q (some (.row v (ds.map (·.2)) aH.aB bJ))).put (some s) (.am v))):ah P B al z (some s) (.buildSlice t n bP) K :=
 .val λW w C a M type pos after=>by
  obtain⟨c5,rfl⟩:=hT.get ax;obtain⟨fp,rfl⟩:=hT.get fr;obtain⟨ds,⟨sF,dQ,hK⟩,tF,p3⟩:=DV I;have cN:=p3 rfl w C a.eval (λx J=>cI M.tmps x.2)
  obtain⟨dm,cZ,zS,Z,af⟩:=S1 (P:=P) c5 fp b2 a8 (avx (avt _) (avj aF)) (avj aa) sF dQ
   (w:=w) (C:=C) (vs:=(bP.map λ(i,x)=>(i,a.eval x)).toList) (by simp[tF]) (by simpa[axa]using cN)
  have aj:(ds.map (·.2)).length=n:=by simpa using sF
  have a1:=de.alloc (λ_=>False) w C (.cells dm.toArray aH.t) 0;refine⟨_,_,_,_,_,?_,M.newObj q (mN:=.row (.slice (some ⟨w.heap.size,0,none⟩) n n) (ds.map (·.2)) aH.aB aH.t) (o:=.cells dm.toArray aH.t) ?_ ?_,.am _,hK _⟩
  ·simp only[execOp];rw[Sem.run_bind,cZ];rfl
  ·refine⟨_,n,by rw[aj],by omega,?_,Z,λdT gR=>⟨_,by cases gR;rfl,ij (lV w _)⟩,λ_=>⟨w.heap.size,_,rfl,lV w _,by simpa using zS,h2 _ _ _,λj d O=>?_⟩⟩
   ·simp only[maxLen];have e2:=avj aa;have f1:n<=n*aH.aB:=axL n (avx (avt _) (avj aF));omega
   obtain⟨ao,e2,f1,hP⟩:=af j d O;exact⟨ao,by simpa using e2,f1.ext a1.ext,hP⟩
  rintro b ⟨dK,cap,h,_⟩;exact pf h
theorem dO.get:∀{wA aP:List D},dO wA aP->wA.length=aP.length/\∀(j:Nat) d',aP[j]?=some d'->∃d,wA[j]?=some d/\ap d d'
 |[],[],_=>⟨rfl,λj d' h=>by simp at h⟩
 |a::r,b::s,h=>by obtain⟨h1,A⟩:=dO.get h.2;refine⟨by simp[h1],λj d' O=>?_⟩;cases j with|zero=>cases O;exact⟨a,rfl,h.1⟩|succ j=>exact A j d' O
 |[],_::_,h=>h.elim
 |_::_,[],h=>h.elim
variable{bl:List D}
theorem ap.adD{t:iA}(h:dO (b4 xs) (b4 bl))(aj:xs.length=bl.length)(Z:∀y∈bl,y.cells.length=k):ap (.T t k xs) (.T t k bl) :=
 ⟨λw C v af=>by
  obtain⟨_,aS⟩:=h.get
  cases af with
  |jj t k a ax =>
   have:bl=[]:=au1 (by simpa using aj.symm)
   subst this;exact .jj _ _ a ax
  |T t k xs b o cap g ax G hc hm fv da gg en cA =>
   rw[aj]at ax hc da⊢;refine .T t k bl b o cap g ax G hc hm Z da (λj d O=>?_) (λj d O=>?_) (λj d O=>?_)
   ·obtain⟨he,h1,_⟩:=aS j d O;exact gg j he h1
   ·obtain⟨he,h1,_⟩:=aS j d O;exact en j he h1
   obtain⟨he,h1,A⟩:=aS j d O;exact A.le _ _ _ (cA j he h1)⟩
structure pn where
 ga:Nat->Option Nat
 BQ:Nat->Option Nat
 pU:∀j s,ga j=some s↔BQ s=some j
def pn.same(p:Nat->Bool):pn:=⟨λj=>bif p j then some j else none,λj=>bif p j then some j else none,λj s=>by
  by_cases e:j=s
  ·subst e;rfl
  have nR:¬s=j:=λh=>e h.symm
  cases p j<;>cases p s<;>simp[e,nR]⟩
def x8(H:bH)(m:pn):bH:=λj=>match m.ga j with|some s=>H s|none=>none
def BR(H aO:bH)(m:pn):bH:=λs=>match m.BQ s with|some j=>aO j|none=>H s
theorem HI{H:bH}{m:pn}{o:aJ}(h:x8 H m j=some o):∃s,m.ga j=some s/\H s=some o:=by unfold x8 at h;cases e:m.ga j with|none=>rw[e]at h;cases h|some s=>rw[e]at h;exact⟨s,rfl,h⟩
variable{aO:bH}
theorem HJ{H:bH}{m:pn}{s:Nat}{o:aJ}(h:BR H aO m s=some o):(∃j,m.BQ s=some j/\aO j=some o)\/(m.BQ s=none/\H s=some o):=by unfold BR at h;cases e:m.BQ s with|none=>rw[e]at h;exact .inr ⟨rfl,h⟩|some j=>rw[e]at h;exact .inl ⟨j,rfl,h⟩
theorem pn.inj{m:pn}{j ez s bp:Nat}(h:m.ga j=some s)(bt:m.ga ez=some bp):j=ez↔s=bp :=
 ⟨λe=>by subst e;rw[h]at bt;exact avB bt,λe=>by
  subst e;have h1:=(m.pU j s).1 h;have A:=(m.pU ez s).1 bt
  rw[h1]at A;exact avB A⟩
variable{f:FuncId}{ds:List D}{a6:D->bH->Prop}
theorem adE(M:bI W w C z a)(m:pn){args:List Value}(hc:c8 P B f ds (x8 z.H m) a6)(af:db w C ds args)(O:iY al dst=true){K:av->Prop}(hK:∀d aO,a6 d aO->∃d',ap d d'/\K (({t:=z.t,H:=BR z.H aO m}:av).put dst d')): Calls P f ⟨args⟩ w λe w'=>∃v,e=.returned v/\∃aA aW,K aA/\bI W w' aW aA (a.put dst v):=by let Ft:Nat->Prop:=λb=>∃k s o,m.ga k=some s/\z.H s=some o/\o.es b;have tM:∀b,Ft b->W.pW b:=λb ⟨k,s,o,_,h1,A⟩=>M.heap.cQ s o b h1 A;(have hH:mc Ft w C (x8 z.H m):=by refine⟨λj o ag=>?_,λj ez o bN b aZ h1 A au c0=>?_,λj o b ag au=>?_⟩;obtain⟨s,_,h⟩:=HI ag;exact M.heap.cl s o h;obtain⟨s,hs,h⟩:=HI h1;obtain⟨bp,dn,bt⟩:=HI A;have i6:s≠bp:=λe=>aZ ((pn.inj hs dn).2 e);exact M.heap.inj s bp o bN b i6 h bt au c0;obtain⟨s,hs,h⟩:=HI ag;exact⟨j,s,o,hs,h,au⟩);refine(hc.2 w C args Ft M.base (λb G=>W.DG (tM b G)) hH af).mono ?_;rintro e w' ⟨v,d,aW,aO,rfl,fO,eX,hs,nk⟩;obtain⟨d',dP,hK⟩:=hK d aO fO;refine⟨v,rfl,_,aW,hK,bI.put ?_ O (dP.le _ _ _ eX)⟩;have qD:∀j o,m.BQ j=none->z.H j=some o->∀b,o.es b->¬Ft b/\b<w.heap.size:=λj o ad ag b G => ⟨λ⟨k,s,bN,h1,A,aa⟩=>M.heap.inj j s o bN b (λe=>by subst e;rw[(m.pU k j).1 h1]at ad;cases ad) ag A G aa,(M.heap.cl j o ag).lt G⟩;refine⟨λi=>(M.tmps i).ext hs.ext,⟨λj o ag=>?_,λj ez o bN b aZ h1 A au c0=>?_,λj o b ag au=>?_⟩,M.size,M.defers,?_⟩;rcases HJ ag with⟨k,_,h⟩|⟨ad,h⟩;exact nk.cl k o h;exact(M.heap.cl j o h).iB hs.ext λb G=>hs.iB b (qD j o ad h b G).2 (qD j o ad h b G).1;rcases HJ h1 with⟨k,Z,h⟩|⟨ad,h⟩<;>rcases HJ A with⟨bE,fv,bt⟩|⟨gm,bt⟩;exact nk.inj k bE o bN b (λe=>aZ ((pn.inj ((m.pU k j).2 Z) ((m.pU bE ez).2 fv)).1 e)) h bt au c0;obtain⟨aa,aF⟩:=qD ez bN gm bt b c0;rcases nk.cQ k o b h au with a8|a8;exact aa a8;omega;obtain⟨aa,aF⟩:=qD j o ad h b au;rcases nk.cQ bE bN b bt c0 with a8|a8;exact aa a8;omega;exact M.heap.inj j ez o bN b aZ h bt au c0;rcases HJ ag with⟨k,_,h⟩|⟨ad,h⟩;rcases nk.cQ k o b h au with a8|a8;exact tM b a8;exact .inr (av6 M.step.ext.size a8);exact M.heap.cQ j o b h au;exact M.step.trans hs λb G bK=>aze
def rR(l:List (Nat×D))(H:bH):av:={t:=λj=>(aM l j).getD .any,H}
structure fQ (z:av) (l:List (Nat×D)) (H:bH):Prop where
 t:jD z l
 h:∃ga:Nat->Nat,(∀k bE o bN,H k=some o->H bE=some bN->ga k=ga bE->k=bE)/\∀k o,H k=some o->z.H (ga k)=some o
theorem fQ.same{l:List (Nat×D)}{H:bH}(h1:jD z l)(A:∀k o,H k=some o->z.H k=some o):fQ z l H:=⟨h1,λk=>k,λ_ _ _ _ _ _ e=>e,A⟩
section
variable{K:cM->av->Prop}
theorem bI.Er{l:List (Nat×D)}{H:bH}(h:bI W w C z a)(Z:fQ z l H):bI W w C (rR l H) a:=by
 obtain⟨ga,hi,hH⟩:=Z.h
 exact⟨λi=>(Z.t.aM i).le _ _ _ (h.tmps i),
  ⟨λs o ag=>h.heap.cl (ga s) o (hH s o ag),λs bp o bN b ar aa aF=>h.heap.inj (ga s) (ga bp) o bN b (λe=>ar (hi s bp o bN aa aF e)) (hH s o aa) (hH bp bN aF),
   λs o b ag=>h.heap.cQ (ga s) o b (hH s o ag)⟩,h.size,h.defers,h.step⟩
theorem Y.jK(l:List (Nat×D))(H:bH)(h1:fQ z l H)(h:Y W c (rR l H) K):Y W c z K :=
 ⟨λa w C M=>h.run a w C (M.Er h1)⟩
def HK(l:α->List (Nat×D))(H:α->bH)(K:cM->av->Prop):cM->av->Prop
 |.normal,z=>∃x,fQ z (l x) (H x)
 |.exit id,z=>K (.exit id) z
 |.ret,z=>K .ret z
theorem Y.HK{a b:Code}{α:Type}(l:α->List (Nat×D))(H:α->bH)(h:Y W a z (HK l H K))(bt:∀x,Y W b (rR (l x) (H x)) K):Y W (.seq a b) z K :=
 .seq (h.mono λe aA Z=>by
  cases e with
  |normal=>obtain⟨x,h1⟩:=Z;exact(bt x).jK _ _ h1
  |exit id=>exact Z
  |ret=>exact Z)
def HL(l:α->List (Nat×D))(H:α->bH)(fD:α->Nat)(x:α)(K:cM->av->Prop):cM->av->Prop
 |.normal,z=>∃bw,fD bw<fD x/\fQ z (l bw) (H bw)
 |.exit id,z=>K (.exit id) z
 |.ret,z=>K .ret z
theorem Y.HL{c:Code}{α:Type}(l:α->List (Nat×D))(H:α->bH)(fD:α->Nat)(eI:α)(h1:fQ z (l eI) (H eI))
  (round:∀x,Y W c (rR (l x) (H x)) (HL l H fD x K)):Y W (.loop c) z K :=
 ⟨λa w C M=>by
  have o9:=M.Er h1;intro b k aD
  have key:∀n x,fD x=n->∀a w C,bI W w C (rR (l x) (H x)) a->
    ∃e bv w',(∃c9 aA aW,e=cM.ga c9/\K c9 aA/\bI W w' aW aA bv)/\Arrives P (lone (b.at a (.code c::.inLoop c::k)) aD w) b k aD e bv w':=by
   intro n
   induction n using Nat.strongRecOn with
   |_ n aV =>
    intro x ar a w C M;obtain⟨e,ty,tz,⟨c9,xT,tA,aq,hK,bK⟩,oy⟩:=(round x).run a w C M b (.inLoop c::k) aD;subst aq
    cases c9 with
    |normal =>
     obtain⟨bw,bg,aa⟩:=hK;obtain⟨DH,a₂,DI,DJ,DK⟩:=aV (fD bw) (ar ▸ bg) bw rfl ty tz tA (bK.Er aa);exact⟨DH,a₂,DI,DJ,.of_steps (Steps.trans oy (.one step_inLoop)) DK⟩
    |exit id=>exact⟨_,ty,tz,⟨.exit id,xT,tA,rfl,hK,bK⟩,.pass (x:=.inLoop c) rfl (λ_ _=>.inl (by simp[cM.ga])) oy⟩
    |ret=>exact⟨_,ty,tz,⟨.ret,xT,tA,rfl,hK,bK⟩,.pass (x:=.inLoop c) rfl (λ_ _=>.inl (by simp[cM.ga])) oy⟩
  obtain⟨e,bv,w',I,oy⟩:=key _ eI rfl a w C o9
  exact⟨e,bv,w',I,.of_steps (.one step_loop) oy⟩⟩
end
variable{args:Array Operand}{mM:Array TypeId}{b6:FuncId}{cs:List D}
section
theorem ah.S2{f:Operand}{first:List D}(M:z.bb f=.fn (.func b6) first cs)
  (g8:List D) (m:pn)  (hc:c8 P B b6 g8 (x8 z.H m) a6) (dP:dO (first++args.toList.map z.bb++cs) g8)
  (hK:∀d aO,a6 d aO->∃d',ap d d'/\K (({t:=z.t,H:=BR z.H aO m}:av).put dst d')):ah P B al z dst (.call ⟨.value f,args,mM⟩) K :=
 ⟨λW w C a mg O type pos after Q'=>by
  have pe:=cI mg.tmps f;rw[M]at pe;obtain⟨fN,hr,X,h1,A⟩:=pe.uX
  have aa:db w C (args.toList.map z.bb) (args.toList.map a.eval) :=
   ⟨by simp,λi d v O X=>by
    simp only[au']at O X
    cases J:args.toList[i]? with
    |none=>rw[J]at O;cases O
    |some x=>rw[J]at O X;cases O;cases X;exact cI mg.tmps x⟩
  have aF:=dP.rB ((h1.append aa).append A);obtain⟨fn,jm,rF,kY⟩:=hc.1;have G:fn.body.isNone=false:=by cases G:fn.body<;>simp[G]at rF⊢
  have cZ:(execOp a.eval ⟨dst,.call ⟨.value f,args,mM⟩,type,pos,after,none⟩).run P w=.ok (.enter b6 ⟨fN++args.toList.map a.eval++hr⟩) w:=by
   simp only[execOp,resolve,X,Deferred.ofValue,Sem.run_bind,Sem.run_pure,Result.andThen_ok,invoke,callFunc,run_program,jm,kY,G,avT,awq];congr 2
   apply awC;simp
  simp only[Oper.wp,cZ,Oper.upon]
  exact(adE mg m hc aF O hK).mono λe w' ⟨v,aq,h⟩=>by subst aq;exact h⟩
theorem bI.adF(h:bI W w C z a)(s:Nat)(hs:z.H s=some (.row v xs k e))(aj:xs.length=bl.length)(Z:∀y∈bl,y.cells.length=k)(dP:dO (b4 xs) (b4 bl)): bI W w C (z.b_ s (some (.row v bl k e))) a:=by have ag:=h.heap.cl s _ hs;have Hk:∀b,(aJ.row v bl k e).es b->(aJ.row v xs k e).es b:=λb G=>G;refine h.b_ (Ft:=λb=>(aJ.row v xs k e).es b) (.refl _ _ _) (λb G=>h.heap.cQ s _ b hs G) (λbp o b ar h1 A=>h.heap.inj bp s o _ b ar h1 hs A) λx J=>?_;cases J;refine⟨?_,λb G=>?_⟩;obtain⟨dT,cap,bZ,b0,kx,zT,BS,Es⟩:=ag;refine⟨dT,cap,by rw[<-aj];exact bZ,by rw[<-aj];exact b0,kx,Z,BS,λhc=>?_⟩;obtain⟨b,vs,qP,zU,adG,adH,adI⟩:=Es hc;refine⟨b,vs,qP,zU,adG,adH,λj d ad=>?_⟩;obtain⟨he,g1,fI⟩:=(dO.get dP).2 j d ad;obtain⟨ao,g3,g4,Mm⟩:=adI j he g1;exact⟨ao,g3,fI.le _ _ _ g4,Mm⟩;exact⟨h.heap.cQ s _ b hs (Hk b G),.inl (Hk b G)⟩
theorem Y.vk{K:cM->av->Prop}(s:Nat)(hs:z.H s=some (.row v xs k e))(aj:xs.length=bl.length)(Z:∀y∈bl,y.cells.length=k)(dP:dO (b4 xs) (b4 bl))
  (h:Y W c (z.b_ s (some (.row v bl k e))) K):Y W c z K:=⟨λa w C M=>h.run a w C (M.adF s hs aj Z dP)⟩
end
def wT(al:Nat):List Oper->Nat->Bool
 |[],_=>true
 |o::r,i=>iY al o.dst&&(o.after.toList.all λe=>!Region.binds .any e||Nat.blt e.on i)&&wT al r (i+1)
theorem Mn{l:List Oper}:∀{n:Nat},wT al l n=true->∀{i:Nat} {o:Oper},l[i]?=some o->iY al o.dst=true/\∀e∈o.after.toList,Region.binds .any e=true->e.on<n+i:=by induction l with|nil=>intro n _ i o h;simp at h|cons x r aV =>intro n h i o ag;simp only[wT,auQ]at h;obtain⟨⟨A,aa⟩,aF⟩:=h;(cases i with|zero =>simp at ag;subst ag;refine⟨A,λe aq G=>?_⟩;have:=avz.1 aa e aq;rw[G]at this;(have:=by simpa using this);omega|succ i =>have:=aV aF (i:=i) (o:=o) (by simpa using ag);refine⟨this.1,λe aq G=>?_⟩;have:=this.2 e aq G;omega)
def ns(z:av)(H:bH):Prop:=∀k o,H k=some o->z.H k=some o
variable{hs:List (Nat×aJ)}
theorem ns.uZ(h:mI z hs):ns z (aM hs):=λk o ag=>h.aM k o ag
def S3(P:Program)(B:World)(al:Nat)(ay:List bC)(ops:Array Oper)(z:av)(o:Oper)(K:av->Prop):Prop :=
 (match o.guard with
  |none=>True
  |some (j,iE)=>∃g,(ops[j]?).bind (·.dst)=some g/\z.t g=.bool iE)/\(nS P B ay z o.dst o.op K\/ah P B al z o.dst o.op K)
theorem S4(aw:wT al ops.toList 0=true)(hsz:be.size=ops.size): ∀(n i:Nat),n=i->i<ops.size->be.getD i true=false->Region.ready .any ops be≠[]:=by intro n;induction n using Nat.strongRecOn with|_ n aV =>intro i ar hi aj;subst ar;have ag:ops[n]?=some ops[n]:=awd hi;have dh:=Mn aw (i:=n) (o:=ops[n]) (by simpa using ag);by_cases af:∀e∈ops[n].after.toList,Region.binds Region.Mode.any e=true->be.getD e.on false=true;intro aq;(have:n∈Region.ready Region.Mode.any ops be:=ayf);rw[aq]at this;cases this;simp only[Classical.not_forall]at af;obtain⟨e,aq,G,aZ⟩:=af;have bg:=dh.2 e aq G;simp only[avu]at bg;refine aV e.on bg e.on rfl auD ?_;(have BM:e.on<be.size:=by omega);simp only[Array.getD,BM,awu]at aZ⊢;simpa using aZ
def HM(P:Program)(B:World)(al:Nat)(ay:List bC)(all:Array Oper)(l:α->(Nat->Bool)->List (Nat×D))(hs:α->(Nat->Bool)->bH):List Oper->Nat->Prop
 |[],_=>True
 |o::r,i=>(∀x g,p_ all (fP g o.after.toList i)->S3 P B al ay all (rR (l x (fP g o.after.toList i)) (hs x (fP g o.after.toList i))) o λaA=>∃bw,jD aA (l bw (hM (fP g o.after.toList i) i))/\ns aA (hs bw (hM (fP g o.after.toList i) i)))/\HM P B al ay all l hs r (i+1)
theorem adJ{ay:List bC}{l:α->(Nat->Bool)->List (Nat×D)}{hs:α->(Nat->Bool)->bH}{r:List Oper}:∀{n:Nat},HM P B al ay all l hs r n->∀{i:Nat} {o:Oper},r[i]?=some o->∀x f,p_ all (fP f o.after.toList (n+i))->S3 P B al ay all (rR (l x (fP f o.after.toList (n+i))) (hs x (fP f o.after.toList (n+i)))) o λaA=>∃bw,jD aA (l bw (hM (fP f o.after.toList (n+i)) (n+i)))/\ns aA (hs bw (hM (fP f o.after.toList (n+i)) (n+i))):=by induction r with|nil=>intro n _ i o h;simp at h|cons x r aV =>intro n h i o ag y f;exact ayk
theorem S5{ay:List bC}(hT:df P ay){W:b5 P B al}{a6:av->Prop}{Q':Exit->Act->World->Prop}(fO:∀z a w C,bI W w C z a->a6 z->Q' .normal a w)(aw:wT al ops.toList 0=true)(l:α->(Nat->Bool)->List (Nat×D))(hs:α->(Nat->Bool)->bH)(pm:∀x f,(∀i,i<ops.size->f i=true)->a6 (rR (l x f) (hs x f)))(step:HM P B al ay ops l hs ops.toList 0): ∀(n:Nat) (x:α) (be:Array Bool) (a:Act) (w:World) (C:Nat->Nat),be.size=ops.size->be.toList.count false=n->bI W w C (rR (l x (ep be)) (hs x (ep be))) a->p_ ops (ep be)->wpAny P .any ops Q' n be a w
 |0,x,be,a,w,C,hsz,hc,M,bf=>by(have hL:∀i,i<ops.size->ep be i=true:=λi hi=>ayl);refine⟨?_,fO _ _ _ _ M (pm _ _ hL)⟩;cases af:Region.ready .any ops be with|nil=>rfl|cons i r =>obtain⟨o,ag,hi,h1,_⟩:=BL (af ▸ auY:i∈Region.ready .any ops be);have A:=hL i hi;(have bg:i<be.size:=by omega);simp only[ep,Array.getD,bg,awu]at h1 A;rw[h1]at A;cases A
 |n+1,x,be,a,w,C,hsz,hc,M,bf=>by(have qL:0<be.toList.count false:=by omega);have mJ:=aw7.1 qL;obtain⟨i,hi,G⟩:=List.getElem_of_mem mJ;(have ls:i<be.size:=by simpa using hi);have aZ:Region.ready .any ops be≠[]:=S4 aw hsz i i rfl auD (ay7);refine⟨λe=>absurd e aZ,λi hi=>?_⟩;obtain⟨o,ag,SZ,qM,l0⟩:=BL hi;obtain⟨O,_⟩:=Mn aw (i:=i) (o:=o) (by simpa using ag);have I:=adJ step (i:=i) (o:=o) (by simpa using ag) x (ep be);rw[avu]at I;(have qB:fP (ep be) o.after.toList i=ep be:=ayg);rw[qB]at I;have I:=I bf;unfold wpOp;simp only[ag];obtain⟨aS,I⟩:=I;(have cz:Region.wanted o (yielded ops a.tmps)=true:=ayj);rw[auO cz];(have zV:o.wp P a w (λbv w'=>∃aA aW,(∃bw,jD aA (l bw (hM (ep be) i))/\ns aA (hs bw (hM (ep be) i)))/\bI W w' aW aA bv) Q':=by rcases I with I|I;exact tK hT M O I Q';obtain⟨dst,op,type,pos,after,guard⟩:=o;exact I.run W w C a M O type pos after Q');refine .inl (Oper.wp_mono (λbv w' cA=>?_) zV);obtain⟨aA,aW,⟨bw,h1,A⟩,aa⟩:=cA;(have mn:i<be.size:=by omega);rw[<-Ek mn]at h1 A;refine S5 hT fO aw l hs pm step n bw _ bv w' aW (by simpa using hsz) ?_ (aa.Er (.same h1 A)) (bf.set mn ag l0);exact ax9
theorem Y.S6{ay:List bC}(hT:df P ay){K:cM->av->Prop}(hm:P.follows .mixedOrders=true)
  (l:α->(Nat->Bool)->List (Nat×D)) (hs:α->(Nat->Bool)->bH) (aw:wT al ops.toList 0=true) (eI:α)
  (h1:jD z (l eI λ_=>false)) (A:ns z (hs eI λ_=>false)) (step:HM P B al ay ops l hs ops.toList 0)
  (pm:∀x f,(∀i,i<ops.size->f i=true)->K .normal (rR (l x f) (hs x f))) :
  Y W (.region id ops true) z K :=
 ⟨λa w C M=>wp_region_any hm (by
  have e:ep (Array.replicate ops.size false)=λ_=>false:=by
   funext i
   simp only[ep,Array.getD];split<;>simp
  exact S5 hT (W:=W) (a6:=K .normal) (λz a w C bK hK=>⟨.normal,z,C,rfl,hK,bK⟩) aw l hs pm step _ eI _ _ _ C auF auF (by rw[e];exact M.drew.Er (.same h1 A)) (by rw[e];exact λj k _ h=>by cases h))⟩
end Go.bV

namespace Go.bV
open Go Go.RowKit
variable{P:Program}{B:World}{al:Nat}{ops:Array Oper}{α:Type}{a:Act}{w:World}
theorem adK{o:Oper}{K:Act->World->Prop}{a6:Exit->Act->World->Prop}(cA:o.wp P a w K a6):
  o.wp P a w (λbv w'=>K bv w'/\∃v ds,bv=({a with defers:=ds}:Act).put o.dst v) a6:=by
 unfold Oper.wp at*;generalize(execOp a.eval o).run P w=r at*
 cases r with
 |ok n w' =>
  cases n<;>simp only[Oper.upon]at cA⊢ <;>
   first
    |exact⟨cA,_,a.defers,rfl⟩
    |exact⟨cA,_,_,rfl⟩
    |exact Calls.mono cA (λe rz aq=>by cases e<;>first|exact⟨aq,_,a.defers,rfl⟩|exact aq)
    |exact Rows.mono cA (λ_ _ aq=>⟨aq,_,a.defers,rfl⟩)
 |halt x w'=>cases x<;>simp only[Oper.upon]at cA⊢<;>exact cA
variable{dst:Option Tmp}{v:Value}{i:Nat}
theorem adL{ds:List Deferred}(h:dst≠some i):(({a with defers:=ds}:Act).put dst v).tmps.getD i undef=a.tmps.getD i undef:=by cases dst with|none=>rfl|some t =>have aZ:t≠i:=λe=>h (by rw[e]);simp[Act.put,axi aZ]
def x9(z vl aA:av)(eu:Nat->Bool)(dst:Option Tmp):av :=
 {t:=λi=>if dst=some i then aA.t i else z.t i,H:=λk=>if(vl.H k).isSome||eu k then aA.H k else z.H k}
variable{W:b5 P B al}{C:Nat->Nat}{z:av}
theorem adM{ay:List bC}(hT:df P ay){vl:av}(M:bI W w C z a){o:Oper}(O:iY al o.dst=true)(ax:∀i,ap (z.t i) (vl.t i))(hH:∀k x,vl.H k=some x->z.H k=some x)(eu:Nat->Bool){K:av->Prop}(I:nS P B ay vl o.dst o.op K\/ah P B al vl o.dst o.op K)(a6:Exit->Act->World->Prop): o.wp P a w (λbv w'=>∃aA aW,K aA/\bI W w' aW (x9 z vl aA eu o.dst) bv) a6:=by let iL:b5 P B al:={w0:=w,C0:=C,Ft:=λb=>∃k x,vl.H k=some x/\x.es b,base:=M.base,low:=λb ⟨k,x,h,au⟩=>W.DG (M.heap.cQ k x b (hH k x h) au)};have fZ:bI iL w C vl a:=⟨λi=>(ax i).le _ _ _ (M.tmps i),⟨λk x h=>M.heap.cl k x (hH k x h),λs bp x y b ar h1 A=>M.heap.inj s bp x y b ar (hH s x h1) (hH bp y A),λk x b h au=>.inl ⟨k,x,h,au⟩⟩,M.size,M.defers,de.refl _ _ _⟩;(have h1:o.wp P a w (λbv w'=>∃aA aW,K aA/\bI iL w' aW aA bv) a6:=by rcases I with I|I;exact tK hT fZ O I a6;have:=I.run iL w C a fZ O o.type o.pos o.after a6;obtain⟨dst,op,type,pos,after,guard⟩:=o;exact this);(have Et:∀b,iL.pW b->W.pW b:=λb h=>by rcases h with⟨k,x,h,au⟩|h;exact M.heap.cQ k x b (hH k x h) au;exact .inr (av6 M.step.ext.size h));refine Oper.wp_mono (λbv w' ⟨⟨aA,aW,hK,bK⟩,v,ds,ha⟩=>⟨aA,aW,hK,?_⟩) (adK h1);(have BT:∀k x b,((vl.H k).isSome||eu k)=false->z.H k=some x->x.es b->b<w.heap.size/\¬iL.Ft b:=λk x b X J au=>by refine⟨(M.heap.cl k x J).lt au,λ⟨bE,bw,h,c0⟩=>?_⟩;(have aZ:bE≠k:=λe=>by subst e;rw[h]at X;simp at X);exact M.heap.inj bE k bw x b aZ (hH bE bw h) J c0 au);refine⟨λi=>?_,⟨λk x J=>?_,λs bp x y b ar J hy au c0=>?_,λk x b J au=>?_⟩,bK.size,bK.defers,M.step.trans bK.step λb G zW=>?_⟩;simp only[x9];by_cases lW:o.dst=some i;rw[auO lW];exact bK.tmps i;rw[auN lW,ha,adL lW];exact(M.tmps i).ext bK.step.ext;simp only[x9]at J;split at J;exact bK.heap.cl k x J;rename_i X;(have X:=by simpa using X);(exact(M.heap.cl k x J).iB bK.step.ext λb G=>by have:=BT k x b (by simpa using X) J G;exact bK.step.iB b this.1 this.2);simp only[x9]at J hy;split at J<;>split at hy;exact bK.heap.inj s bp x y b ar J hy au c0;rename_i h1 A;have:=BT bp y b (by simpa using A) hy c0;rcases bK.heap.cQ s x b J au with h|h;exact this.2 h;have aa:=this.1;change w.heap.size<=b at h;omega;rename_i h1 A;have:=BT s x b (by simpa using h1) J au;rcases bK.heap.cQ bp y b hy c0 with h|h;exact this.2 h;have aa:=this.1;change w.heap.size<=b at h;omega;exact M.heap.inj s bp x y b ar J hy au c0;simp only[x9]at J;split at J;exact Et b (bK.heap.cQ k x b J au);exact M.heap.cQ k x b J au;rcases Et b (.inl zW)with h|h;exact h;omega
theorem bI.le{W:b5 P B al}{w:World}{C:Nat->Nat}{z aA:av}{a:Act}(h:bI W w C z a)(ax:∀i,ap (z.t i) (aA.t i))(hH:∀k x,aA.H k=some x->z.H k=some x):bI W w C aA a :=
 ⟨λi=>(ax i).le _ _ _ (h.tmps i),⟨λk x J=>h.heap.cl k x (hH k x J),λs bp x y b ar h1 A=>h.heap.inj s bp x y b ar (hH s x h1) (hH bp y A),λk x b J=>h.heap.cQ k x b (hH k x J)⟩,h.size,h.defers,h.step⟩
def HN(m k:Nat):Bool:=Nat.beq (Nat.land (Nat.shiftRight m k) 1) 1
theorem HO(m k:Nat):HN m k=m.testBit k:=by unfold HN;have h1:Nat.land (Nat.shiftRight m k) 1=(m >>> k)%2:=Nat.and_one_is_mod _;rw[h1,Nat.testBit_eq_decide_div_mod_eq,Nat.shiftRight_eq_div_pow];cases h:Nat.beq (m/2 ^ k%2) 1 with|true=>have:=avb h;simp[this]|false =>(have:m/2 ^ k%2≠1:=λe=>by rw[e]at h;cases h);simp[this]
def kC(ai:List Nat)(i k:Nat):Bool:=HN (ai.getD i 0) k
def x_(ai:List Nat):List Edge->Nat
 |[]=>0
 |e::r=>cond (Region.binds .any e) (Nat.lor (Nat.lor (Nat.shiftLeft 1 e.on) (ai.getD e.on 0)) (x_ ai r)) (x_ ai r)
def BU(ai:List Nat):List Oper->Nat->Bool
 |[],_=>true
 |o::r,i=>Nat.beq (ai.getD i 0) (x_ ai o.after.toList)&&BU ai r (i+1)
theorem Mo{ai:List Nat}{k:Nat}:∀{l:List Edge},HN (x_ ai l) k=true->∃e∈l,Region.binds .any e=true/\(e.on=k\/kC ai e.on k=true)
 |[],h=>by simp[x_,HO]at h
 |e::r,h=>by simp only[x_]at h;cases G:Region.binds .any e with|false=>rw[G]at h;obtain⟨nR,h1,A⟩:=Mo (l:=r) h;exact⟨nR,.tail _ h1,A⟩|true =>rw[G]at h;(have bt:((1 <<< e.on ||| ai.getD e.on 0) ||| x_ ai r).testBit k=true:=by rw[<-HO];exact h);rw[Nat.testBit_or,Nat.testBit_or,av3,av3]at bt;rcases bt with(h1|h1)|h1;refine⟨e,.head _,G,.inl ?_⟩;rw[Nat.testBit_shiftLeft]at h1;simp only[auQ,avp]at h1;have A:=h1.2;(have:k-e.on=0:=by cases bn:k-e.on with|zero=>rfl|succ n=>rw[bn]at A;simp[Nat.testBit_succ]at A);omega;exact⟨e,.head _,G,.inr (by unfold kC;rw[HO];exact h1)⟩;obtain⟨nR,A,aa⟩:=Mo (l:=r) (by rw[HO];exact h1);exact⟨nR,.tail _ A,aa⟩
theorem S7{ai:List Nat}:∀{l:List Oper} {n:Nat},BU ai l n=true->∀{i:Nat} {o:Oper},l[i]?=some o->ai.getD (n+i) 0=x_ ai o.after.toList
 |[],_,_,i,o,h=>by simp at h
 |x::r,n,h,i,o,ag=>by simp only[BU,auQ]at h;cases i with|zero=>simp at ag;subst ag;exact avb h.1|succ i=>have:=S7 h.2 (i:=i) (o:=o) (by simpa using ag);rw[show n+1+i=n+(i+1) by omega]at this;exact this
def Mp(ai:List Nat)(f:Nat->Bool):Prop:=∀i k,f i=true->kC ai i k=true->f k=true
def wr:List Oper->Nat->Nat->Option Nat
 |[],_,_=>none
 |o::r,i,j=>match o.dst with
  |some t=>cond (Nat.beq t j) (some i) (wr r (i+1) j)
  |none=>wr r (i+1) j
def BV:List Oper->Bool
 |[]=>true
 |o::r=>(match o.dst with
  |some t=>(wr r 0 t).isNone
  |none=>true)&&BV r
theorem HP{j:Nat}:∀{l:List Oper} {n:Nat},wr l n j=none->∀{i:Nat} {o:Oper},l[i]?=some o->o.dst≠some j
 |[],_,_,i,o,h=>by simp at h
 |x::r,n,h,i,o,ag=>by simp only[wr]at h;cases i with|zero =>simp at ag;subst ag;intro O;rw[O]at h;simp at h|succ i =>split at h;rename_i t ax;(cases G:Nat.beq t j with|true=>rw[G]at h;cases h|false=>rw[G]at h;exact HP (l:=r) h (i:=i) (by simpa using ag));exact HP (l:=r) h (i:=i) (by simpa using ag)
theorem S8{j k:Nat}:∀{l:List Oper} {n:Nat},wr l n j=some k->BV l=true->n<=k/\∀{i:Nat} {o:Oper},l[i]?=some o->(o.dst=some j↔n+i=k)
 |[],_,h,_=>by simp[wr]at h
 |x::r,n,h,ag=>by simp only[BV,auQ]at ag;(have Hg:wr r (n+1) j=some k->x.dst≠some j->n<=k/\∀{i:Nat} {o:Oper},(x::r)[i]?=some o->(o.dst=some j↔n+i=k):=λh J=>by obtain⟨h1,A⟩:=S8 h ag.2;refine⟨by omega,λ{i o} hi=>?_⟩;cases i with|zero=>simp at hi;subst hi;exact⟨λe=>absurd e J,λe=>by omega⟩|succ i=>rw[A (i:=i) (by simpa using hi)];constructor<;>intro e<;>omega);simp only[wr]at h;split at h;rename_i t ax;(cases G:Nat.beq t j with|true =>rw[G]at h;have adN:=avb G;subst adN;(have Z:n=k:=by simpa using h);subst Z;refine⟨auW _,λ{i o} hi=>?_⟩;(cases i with|zero=>simp at hi;subst hi;exact⟨λ_=>rfl,λ_=>ax⟩|succ i =>have h1:=ag.1;rw[ax]at h1;have:=HP (l:=r) (n:=0) (by simpa using h1) (i:=i) (by simpa using hi);exact⟨λe=>absurd e this,λe=>by omega⟩)|false =>rw[G]at h;exact Hg h (λe=>by rw[ax]at e;simp only[avi]at e;subst e;rw[av9]at G;cases G));rename_i ax;exact Hg h (λe=>by rw[ax]at e;cases e)
theorem Mq{j k:Nat}:∀{l:List Oper} {n:Nat},wr l n j=some k->k<n+l.length
 |[],_,h=>by simp[wr]at h
 |x::r,n,h=>by
  simp only[wr]at h;split at h
  ·rename_i t ax
   cases G:Nat.beq t j with
   |true => rw[G]at h;have : n = k := by simpa using h
            simp;omega
   |false=>rw[G]at h;have:=Mq (l:=r) h;simp;omega
  have:=Mq (l:=r) h;simp;omega
def l1:List (Nat×Nat×Option aJ)->(Nat->Bool)->Nat->Option (Option aJ)
 |[],_,_=>none
 |(i,bE,o)::r,f,k=>match l1 r f k with
  |some bN=>some bN
  |none=>cond (Nat.beq bE k&&f i) (some o) none
def bK(Mr:bH)(bb:List (Nat×Nat×Option aJ))(f:Nat->Bool)(k:Nat):Option aJ:=match l1 bb f k with
 |some o=>o
 |none=>Mr k
def mo:List (Nat×Nat×Option aJ)->List (Nat×Nat)
 |[]=>[]
 |(i,k,_)::r=>(i,k)::mo r
def x'(ai:List Nat)(n:Nat):List (Nat×Nat)->Bool
 |[]=>true
 |(i,k)::r=>Nat.blt i n&&(r.all λe=>!Nat.beq e.2 k||Nat.beq e.1 i||kC ai e.1 i)&&x' ai n r
def S9(ai:List Nat)(S:List (Nat×Nat))(i k:Nat):Bool:=S.all λe=>!Nat.beq e.2 k||(kC ai i e.1||(kC ai e.1 i||Nat.beq e.1 i))
def gT(Mr:bH)(ai:List Nat)(S:List (Nat×Nat))(bb:List (Nat×Nat×Option aJ))(i k:Nat):Option aJ:=cond (S9 ai S i k) (bK Mr bb (kC ai i) k) none
def HQ(t0:Nat->D)(l:List Oper)(ai:List Nat)(R:List D)(i j:Nat):D:=match wr l 0 j with
 |some k=>cond (kC ai i k) (R.getD k .any) (cond (Nat.beq k i||kC ai k i) (t0 j) .any)
 |none=>t0 j
def sP(ai:List Nat)(i:Nat):Nat->List D->List D
 |_,[]=>[]
 |n,d::r=>cond (Nat.beq n i||kC ai n i) .any d::sP ai i (n+1) r
def vm(ai:List Nat)(i:Nat):List (Nat×Nat×Option aJ)->List (Nat×Nat×Option aJ)
 |[]=>[]
 |(j,k,o)::r=>(j,k,cond (Nat.beq j i||kC ai j i) none o)::vm ai i r
def Eu(S:List (Nat×Nat))(i:Nat):Bool:=S.all λe=>!Nat.beq e.1 i
def qQ(S:List (Nat×Nat))(i k:Nat):Bool:=S.any λe=>Nat.beq e.1 i&&Nat.beq e.2 k
theorem HR{f g:Nat->Bool}{k:Nat}:∀{bb:List (Nat×Nat×Option aJ)},(∀e∈mo bb,e.2=k->f e.1=g e.1)->l1 bb f k=l1 bb g k
 |[],_=>rfl
 |(i,bE,o)::r,h=>by have aV:=HR (bb:=r) λe aq=>h e (.tail _ aq);simp only[l1,aV];cases G:Nat.beq bE k with|true=>rw[h (i,bE) (.head _) (avb G)]|false=>rfl
theorem S_{ai:List Nat}{i k:Nat}{f:Nat->Bool}(M:∀j,f j=true->j≠i/\kC ai j i=false):∀{bb S':List (Nat×Nat×Option aJ)},vm ai i S'=vm ai i bb->l1 S' f k=l1 bb f k
 |[],[],_=>rfl
 |(j,q,o)::r,(ez,pa,bN)::adO,h=>by simp only[vm,awT,Prod.mk.injEq]at h;obtain⟨⟨rfl,rfl,ag⟩,af⟩:=h;simp only[l1,S_ M af];cases Ms:f ez with|true=>obtain⟨h1,A⟩:=M ez Ms;rw[awv h1,A]at ag;simp only[Bool.or_self,avZ]at ag;rw[ag]|false=>simp
 |[],(_,_,_)::_,h=>by simp[vm]at h
 |(_,_,_)::_,[],h=>by simp[vm]at h
theorem Ta{ai:List Nat}{i:Nat}:∀{l h7:List D} {n:Nat},sP ai i n h7=sP ai i n l->∀{k:Nat},n+k≠i->kC ai (n+k) i=false->h7.getD k .any=l.getD k .any
 |[],[],_,_,_,_,_=>rfl
 |a::r,b::adO,n,h,k,h1,A=>by simp only[sP,awT]at h;cases k with|zero =>have aa:=h.1;rw[awv (by simpa using h1),show kC ai n i=false by simpa using A]at aa;simpa using aa|succ k=>have:=Ta h.2 (k:=k) auD (by rw[show n+1+k=n+(k+1) by omega];exact A);simpa using this
 |[],_::_,_,h,_,_,_=>by simp[sP]at h
 |_::_,[],_,h,_,_,_=>by simp[sP]at h
theorem Tb{ai:List Nat}{n i k:Nat}{f:Nat->Bool}(hi:f i=true)(M:∀j,f j=true->kC ai j i=false):∀{bb:List (Nat×Nat×Option aJ)},x' ai n (mo bb)=true->qQ (mo bb) i k=true->∃o,(i,k,o)∈bb/\l1 bb f k=some o
 |[],_,h=>by simp[mo,qQ]at h
 |(j,q,o)::r,ag,h=>by simp only[mo,x',auQ]at ag;simp only[mo,qQ,axU,av3,auQ]at h;by_cases af:qQ (mo r) i k=true;obtain⟨bN,h1,A⟩:=Tb hi M ag.2 af;exact⟨bN,.tail _ h1,by simp only[l1,A]⟩;rcases h with⟨h1,A⟩|h;have:=avb h1;subst this;have:=avb A;subst this;refine⟨o,.head _,?_⟩;(have ar:∀{l:List (Nat×Nat×Option aJ)},((mo l).all λe=>!Nat.beq e.2 q||Nat.beq e.1 j||kC ai e.1 j)=true->¬qQ (mo l) j q=true->l1 l f q=none:=by intro l;induction l with|nil=>intro _ _;rfl|cons e l aV =>obtain⟨ez,pa,bN⟩:=e;intro ha G;simp only[mo,axk,auQ,av3,awY]at ha;simp only[mo,qQ,axU,av3,auQ,not_or]at G;simp only[l1];rw[aV ha.2 G.2];(cases I:Nat.beq pa q with|false=>rfl|true =>rcases ha.1 with(aa|aa)|aa;rw[I]at aa;cases aa;exact absurd ⟨aa,I⟩ G.1;(cases Ms:f ez with|false=>rfl|true=>rw[M ez Ms]at aa;cases aa)));simp only[l1,ar ag.1.2 af,av9,hi,Bool.and_self,awo];exact absurd h af
variable{k:Nat}
theorem Tc{f:Nat->Bool}:∀{bb:List (Nat×Nat×Option aJ)},qQ (mo bb) i k=false->l1 bb (hM f i) k=l1 bb f k
 |bb,h=>HR λe aq Z=>by(have:e.1≠i:=λbZ=>by have:qQ (mo bb) i k=true:=av'.2 ⟨e,aq,by rw[bZ,Z,av9,av9];rfl⟩;rw[h]at this;cases this);simp[hM,awv this]
section
variable(ai:List Nat)(S:List (Nat×Nat))(t0:Nat->D)(dG:List (Nat×aJ))(R:α->List D)(d7:α->List (Nat×Nat×Option aJ))
def fR(ops:Array Oper)(x:α)(f:Nat->Bool):av :=
 {t:=λj=>match wr ops.toList 0 j with
   |some k=>cond (f k) ((R x).getD k .any) (t0 j)
   |none=>t0 j,H:=bK (aM dG) (d7 x) f}
def tY(ops:Array Oper)(x:α)(i:Nat):av:={t:=HQ t0 ops.toList ai (R x) i,H:=gT (aM dG) ai S (d7 x) i}
def BW(ops:Array Oper)(x:α):av :=
 {t:=λj=>match wr ops.toList 0 j with
   |some k=>(R x).getD k .any
   |none=>t0 j,H:=λk=>match l1 (d7 x) (λ_=>true) k with
   |some o=>o
   |none=>aM dG k}
def HS(dst:Option Tmp)(aA:av)(d:D):Prop:=match dst with
 |some t=>ap (aA.t t) d
 |none=>True
def wU(i:Nat)(aA:av):List (Nat×Nat×Option aJ)->Prop
 |[]=>True
 |(j,k,o)::r=>cond (Nat.beq j i) (match o with
  |some o=>aA.H k=some o/\wU i aA r
  |none=>wU i aA r) (wU i aA r)
def ya(S:List (Nat×Nat))(i:Nat)(aA:av)(hm:Nat->Option aJ):List Nat->Prop
 |[]=>True
 |k::r=>cond (qQ S i k) (ya S i aA hm r) (match hm k with
  |some o=>aA.H k=some o/\ya S i aA hm r
  |none=>ya S i aA hm r)
def jL(x:α)(i:Nat)(dst:Option Tmp)(aA:av):Prop :=
 ∃bw,sP ai i 0 (R bw)=sP ai i 0 (R x)/\vm ai i (d7 bw)=vm ai i (d7 x)/\HS dst aA ((R bw).getD i .any)/\wU i aA (d7 bw)/\ya S i aA (gT (aM dG) ai S (d7 x) i) (dG.map (·.1)++S.map (·.2))
def Mt(P:Program)(B:World)(al:Nat)(ay:List bC)(ops:Array Oper)(x:α)(i:Nat)(o:Oper):Prop :=
 cond (Eu S i) (pY P B ay (tY ai S t0 dG R d7 ops x i) true o.op λd=>ap d ((R x).getD i .any)) False\/
  (nS P B ay (tY ai S t0 dG R d7 ops x i) o.dst o.op (jL ai S dG R d7 x i o.dst)\/ah P B al (tY ai S t0 dG R d7 ops x i) o.dst o.op (jL ai S dG R d7 x i o.dst))
def Mu(P:Program)(B:World)(al:Nat)(ay:List bC)(ops:Array Oper)(x:α)(i:Nat)(o:Oper):Prop :=
 match o.guard with
 |none=>Mt ai S t0 dG R d7 P B al ay ops x i o
 |some (j,iE)=>∃g b,(ops[j]?).bind (·.dst)=some g/\HQ t0 ops.toList ai (R x) i g=.bool b/\
  ((b=iE/\Mt ai S t0 dG R d7 P B al ay ops x i o)\/(b=!iE/\Eu S i=true/\ap .undef ((R x).getD i .any))\/
   cond (Eu S i) (pY P B ay (tY ai S t0 dG R d7 ops x i) (b==iE) o.op λd=>ap (.mb (b==iE) d) ((R x).getD i .any)) False)
def Ev(P:Program)(B:World)(al:Nat)(ay:List bC)(ops:Array Oper):List Oper->Nat->Prop
 |[],_=>True
 |o::r,i=>(∀x,Mu ai S t0 dG R d7 P B al ay ops x i o)/\Ev P B al ay ops r (i+1)
theorem adP{ay:List bC}{l:List Oper}:∀{n:Nat},Ev ai S t0 dG R d7 P B al ay ops l n->∀{i:Nat} {o:Oper},l[i]?=some o->∀x,Mu ai S t0 dG R d7 P B al ay ops x (n+i) o:=by induction l with|nil=>intro n _ i o h;simp at h|cons y r aV =>intro n h i o ag x;(cases i with|zero=>simp at ag;subst ag;exact h.1 x|succ i=>have:=aV h.2 (i:=i) (by simpa using ag) x;rw[show n+1+i=n+(i+1) by omega]at this;exact this)
end
theorem HT{i k:Nat}{aA:av}{o:aJ}:∀{bb:List (Nat×Nat×Option aJ)},wU i aA bb->(i,k,some o)∈bb->aA.H k=some o
 |[],_,h=>by cases h
 |(j,q,bN)::r,h,hm=>by
  rcases au8.1 hm with h1|h1
  ·simp only[Prod.mk.injEq]at h1;obtain⟨rfl,rfl,rfl⟩:=h1;simp only[wU,av9,awo]at h;exact h.1
  simp only[wU]at h
  cases G:Nat.beq j i with
  |false=>rw[G]at h;exact HT h h1
  |true=>rw[G]at h;cases bN with
   |none=>exact HT h h1
   |some bN=>exact HT h.2 h1
theorem HU{S:List (Nat×Nat)}{i k:Nat}{aA:av}{hm:Nat->Option aJ}{o:aJ}(ar:qQ S i k=false)(Z:hm k=some o):∀{l:List Nat},ya S i aA hm l->k∈l->aA.H k=some o
 |[],_,h=>by cases h
 |q::r,h,I=>by simp only[ya]at h;rcases au8.1 I with h1|h1;subst h1;rw[ar,Z]at h;exact h.1;cases G:qQ S i q with|true=>rw[G]at h;exact HU ar Z h h1|false =>rw[G]at h;simp only[avZ]at h;split at h;exact HU ar Z h.2 h1;exact HU ar Z h h1
theorem Td{rQ:Type}:∀{l:List (Nat×rQ)} {k:Nat} {x:rQ},aM l k=some x->k∈l.map (·.1)
 |[],_,_,h=>by simp[aM]at h
 |(i,d)::r,k,x,h=>by simp only[aM]at h;cases G:Nat.beq k i with|true=>have:=avb G;subst this;simp|false=>rw[G]at h;exact .tail _ (Td h)
theorem Te{f:Nat->Bool}{k:Nat}{o:Option aJ}:∀{bb:List (Nat×Nat×Option aJ)},l1 bb f k=some o->k∈(mo bb).map (·.2)
 |[],h=>by simp[l1]at h
 |(i,q,bN)::r,h=>by simp only[l1]at h;cases aj:l1 r f k with|some y=>exact .tail _ (Te aj)|none =>rw[aj]at h;(cases G:Nat.beq q k with|true=>have:=avb G;subst this;exact .head _|false=>rw[G]at h;simp at h)
variable{ai:List Nat}{S:List (Nat×Nat)}{t0:Nat->D}{dG:List (Nat×aJ)}{R:α->List D}{d7:α->List (Nat×Nat×Option aJ)}
theorem adQ{x:α}{f:Nat->Bool}(gU:mo (d7 x)=S)(hc:Mp ai f)(BX:∀k,kC ai i k=true->f k=true)(j7:f i=false): (∀j,ap ((fR t0 dG R d7 ops x f).t j) ((tY ai S t0 dG R d7 ops x i).t j))/\∀k o,(tY ai S t0 dG R d7 ops x i).H k=some o->(fR t0 dG R d7 ops x f).H k=some o:=by constructor;intro j;simp only[fR,tY,HQ];(cases cz:wr ops.toList 0 j with|none=>exact .refl _|some k =>simp only;(cases h1:kC ai i k with|true=>rw[BX k h1];exact .refl _|false =>(cases A:(Nat.beq k i||kC ai k i)with|false=>exact .any _|true =>(have:f k=false:=by cases Z:f k with|false=>rfl|true =>rcases av3 _ _ ▸ A with aa|aa;have:=avb aa;subst this;rw[j7]at Z;cases Z;rw[hc k i Z aa]at j7;cases j7);rw[this];exact .refl _)));intro k o h;simp only[tY,gT]at h;cases nU:S9 ai S i k with|false=>rw[nU]at h;cases h|true =>rw[nU]at h;simp only[awo]at h;simp only[fR];unfold bK at h⊢;rw[HR (g:=f)]at h;exact h;intro e aq Z;rw[gU]at aq;have:=avz.1 nU e aq;simp only[Z,av9,Bool.not_true,Bool.false_or,av3]at this;(cases h1:kC ai i e.1 with|true=>rw[BX _ h1]|false =>rw[h1]at this;(cases fv:f e.1 with|false=>rfl|true =>rcases this with aa|aa|aa;cases aa;rw[hc _ i fv aa]at j7;cases j7;have:=avb aa;rw[this]at fv;rw[j7]at fv;cases fv))
theorem Tf{ay:List bC}(hT:df P ay){W:b5 P B al}{a6:av->Prop}{Q':Exit->Act->World->Prop}(fO:∀z a w C,bI W w C z a->a6 z->Q' .normal a w)(aw:wT al ops.toList 0=true)(ag:BV ops.toList=true)(HV:BU ai ops.toList 0=true)(gU:∀x,mo (d7 x)=S)(wV:x' ai ops.size S=true)(pm:∀x,a6 (BW t0 dG R d7 ops x))(step:Ev ai S t0 dG R d7 P B al ay ops ops.toList 0): ∀(n:Nat) (x:α) (be:Array Bool) (a:Act) (w:World) (C:Nat->Nat),be.size=ops.size->be.toList.count false=n->bI W w C (fR t0 dG R d7 ops x (ep be)) a->Mp ai (ep be)->wpAny P .any ops Q' n be a w
 |0,x,be,a,w,C,hsz,hc,M,bf=>by(have hL:∀i,i<ops.size->ep be i=true:=λi hi=>ayl);(have bg:∀e∈S,e.1<ops.size:=by(have:∀{l:List (Nat×Nat)},x' ai ops.size l=true->∀e∈l,e.1<ops.size:=by intro l;induction l with|nil=>intro _ e aq;cases aq|cons y l aV =>intro h e aq;simp only[x',auQ]at h;rcases au8.1 aq with rfl|aq;exact avx (avt _) (avj h.1.1);exact aV h.2 e aq);exact this wV);refine⟨?_,fO _ _ _ _ (M.le (aA:=BW t0 dG R d7 ops x) (λj=>?_) (λk o h=>?_)) (pm x)⟩;(cases af:Region.ready .any ops be with|nil=>rfl|cons i r =>obtain⟨o,ag,hi,h1,_⟩:=BL (af ▸ auY:i∈Region.ready .any ops be);have A:=hL i hi;(have bg:i<be.size:=by omega);simp only[ep,Array.getD,bg,awu]at h1 A;rw[h1]at A;cases A);simp only[fR,BW];(cases cz:wr ops.toList 0 j with|none=>exact .refl _|some k=>have:=Mq cz;simp only;rw[hL k (by simpa using this)];exact .refl _);simp only[BW]at h;simp only[fR,bK];rw[HR (g:=λ_=>true) (λe aq _=>hL e.1 (bg e (gU x ▸ aq)))];exact h
 |n+1,x,be,a,w,C,hsz,hc,M,bf=>by(have qL:0<be.toList.count false:=by omega);have mJ:=aw7.1 qL;obtain⟨i,hi,G⟩:=List.getElem_of_mem mJ;(have ls:i<be.size:=by simpa using hi);have aZ:Region.ready .any ops be≠[]:=S4 aw hsz i i rfl auD (ay7);refine⟨λe=>absurd e aZ,λi hi=>?_⟩;obtain⟨o,po,SZ,qM,l0⟩:=BL hi;(have hx:ops.toList[i]?=some o:=by simpa using po);obtain⟨O,_⟩:=Mn aw (i:=i) (o:=o) hx;have I:=adP _ _ _ _ _ _ step hx x;rw[avu]at I;(have mn:i<be.size:=by omega);(have j7:ep be i=false:=by simp only[ep,Array.getD,mn,awu]at qM⊢;exact qM);have Tg:=S7 HV hx;rw[avu]at Tg;(have BX:∀k,kC ai i k=true->ep be k=true:=λk Z=>by unfold kC at Z;rw[Tg]at Z;obtain⟨e,aq,G,h1⟩:=Mo Z;have A:ep be e.on=true:=l0 e aq G;rcases h1 with h1|h1;rw[<-h1];exact A;exact bf _ _ A h1);(have adR:Mp ai (ep (be.setIfInBounds i true)):=by rw[Ek mn];intro j k ad Z;simp only[hM]at ad⊢;cases kw:Nat.beq k i with|true=>rfl|false =>simp only[avZ];(cases fq:Nat.beq j i with|true=>have:=avb fq;subst this;exact BX k Z|false=>rw[fq]at ad;exact bf j k ad Z));unfold wpOp;simp only[po];(have BY:(be.setIfInBounds i true).toList.count false=n:=ax9);(have Mv:∀j,ep be j=true->j≠i/\kC ai j i=false:=λj ad=>by refine⟨(λe=>by rw[e,j7]at ad;cases ad),?_⟩;cases h:kC ai j i with|false=>rfl|true=>rw[bf j i ad h]at j7;cases j7);obtain⟨HW,vn⟩:=adQ (ops:=ops) (t0:=t0) (dG:=dG) (R:=R) (d7:=d7) (gU x) bf BX j7;(have tmps:∀(aA:av) (bw:α),sP ai i 0 (R bw)=sP ai i 0 (R x)->(∀j,o.dst=some j->ap (aA.t j) ((R bw).getD i .any))->(∀j,o.dst≠some j->aA.t j=(fR t0 dG R d7 ops x (ep be)).t j)->∀j,ap (aA.t j) ((fR t0 dG R d7 ops bw (hM (ep be) i)).t j):=λaA bw eJ h1 A j=>by simp only[fR];cases cz:wr ops.toList 0 j with|none =>have aa:o.dst≠some j:=HP cz hx;have:=A j aa;simp only[fR,cz]at this;rw[this];exact .refl _|some k =>have aF:=(S8 cz ag).2 hx;rw[avu]at aF;simp only;(cases kw:Nat.beq k i with|true =>have:=avb kw;subst this;simp only[hM,av9,awo];exact h1 j (aF.2 rfl)|false =>(have aZ:i≠k:=λe=>by rw[e,av9]at kw;cases kw);have:=A j (λe=>aZ (aF.1 e));simp only[fR,cz]at this;rw[this];simp only[hM,kw,avZ];(cases Z:ep be k with|false=>exact .refl _|true =>obtain⟨a8,cN⟩:=Mv k Z;have:=Ta eJ (k:=k) (by simpa using a8) (by simpa using cN);simp only[awo];rw[this];exact .refl _)));(have go:∀(bw:α) (aA:av) (bv:Act) (w':World) (aW:Nat->Nat),bI W w' aW aA bv->(∀j,ap (aA.t j) ((fR t0 dG R d7 ops bw (hM (ep be) i)).t j))->(∀k p,(fR t0 dG R d7 ops bw (hM (ep be) i)).H k=some p->aA.H k=some p)->wpAny P .any ops Q' n (be.setIfInBounds i true) bv w':=λbw aA bv w' aW bK h1 A=>by refine Tf hT fO aw ag HV gU wV pm step n bw _ bv w' aW (by simpa using hsz) BY ?_ adR;rw[Ek mn];exact bK.le h1 A);(have same:Eu S i=true->∀k p,(fR t0 dG R d7 ops x (hM (ep be) i)).H k=some p->(fR t0 dG R d7 ops x (ep be)).H k=some p:=λar k p h=>by simp only[fR,bK]at h⊢;rw[Tc]at h;exact h;cases cA:qQ (mo (d7 x)) i k with|false=>rfl|true =>rw[gU x]at cA;obtain⟨e,aq,h1⟩:=av'.1 cA;have:=avz.1 ar e aq;rw[auQ]at h1;rw[h1.1]at this;cases this);(have quiet:∀(aA:av) (bv:Act) (w':World) (aW:Nat->Nat),Eu S i=true->(∃d,ap d ((R x).getD i .any)/\aA=(fR t0 dG R d7 ops x (ep be)).put o.dst d)->bI W w' aW aA bv->wpAny P .any ops Q' n (be.setIfInBounds i true) bv w':=by rintro aA bv w' aW ar ⟨d,hu,rfl⟩ bK;refine go x _ bv w' aW bK (tmps _ x rfl (λj ad=>?_) (λj ad=>?_)) (λk p h=>?_);rw[ad];simp only[av.put,av9,awo];exact hu;exact LR λt ax e=>ad (by rw[ax,e]);rw[D1];exact same ar k p h);(have wz:Mt ai S t0 dG R d7 P B al ay ops x i o->o.wp P a w (λbv w'=>wpAny P .any ops Q' n (be.setIfInBounds i true) bv w') Q':=by intro I;rcases I with I|I;replace I:=ig I;obtain⟨ar,I⟩:=I;obtain⟨d,hK,hu⟩:=Bu hT I;have zV:=zH (a6:=Q') (K:=λaA=>∃d,ap d ((R x).getD i .any)/\aA=(fR t0 dG R d7 ops x (ep be)).put o.dst d) M O (d:=d) ⟨d,hK,rfl⟩ (hu rfl a.eval w C W.pW M.base ⟨λk y h=>M.heap.cl k y (vn k y h),λs bp y Q b wK h1 A=>M.heap.inj s bp y Q b wK (vn s y h1) (vn bp Q A),λk y b h=>M.heap.cQ k y b (vn k y h)⟩ (λy _=>cI (z:=tY ai S t0 dG R d7 ops x i) (λj=>(HW j).le _ _ _ (M.tmps j)) y));exact Oper.wp_mono (λbv w' ⟨aA,aW,h1,A⟩=>quiet aA bv w' aW ar h1 A) zV;have zV:=adM hT M O HW vn (qQ S i) I Q';refine Oper.wp_mono (λbv w' ⟨aA,aW,⟨bw,eJ,mV,h1,A,aa⟩,aF⟩=>?_) zV;refine go bw _ bv w' aW aF (tmps _ bw eJ (λj ad=>?_) (λj ad=>?_)) (λk p h=>?_);simp only[x9];rw[auO ad];unfold HS at h1;rw[ad]at h1;exact h1;simp only[x9];rw[auN ad];simp only[x9];have Mw:mo (d7 bw)=S:=gU bw;cases aq:qQ S i k with|true =>obtain⟨BZ,a8,cN⟩:=Tb (bb:=d7 bw) (n:=ops.size) (i:=i) (k:=k) (f:=hM (ep be) i) (by simp[hM]) (λj ad=>by cases fq:Nat.beq j i with|true =>have:=avb fq;subst this;(cases hs:kC ai j j with|false=>rfl|true=>rw[BX j hs]at j7;cases j7)|false=>simp only[hM,fq,avZ]at ad;exact(Mv j ad).2) (by rw[Mw];exact wV) (by rw[Mw];exact aq);simp only[fR,bK,cN]at h;subst h;rw[auO auF];exact HT A a8|false =>(have a8:(fR t0 dG R d7 ops x (ep be)).H k=some p:=by simp only[fR,bK]at h⊢;rw[Tc (by rw[Mw];exact aq),S_ Mv mV]at h;exact h);by_cases hm:((tY ai S t0 dG R d7 ops x i).H k).isSome=true;rw[auO (by simp[hm])];obtain⟨BZ,zX⟩:=axH.1 hm;have:=vn k BZ zX;rw[this]at a8;simp only[avi]at a8;subst a8;refine HU aq zX aa ?_;rw[avf];simp only[fR,bK]at this;split at this;rename_i y hy;right;have:=Te hy;rw[gU x]at this;exact this;left;exact Td this;rw[auN (by simpa using hm)];exact a8);unfold Mu at I;cases mU:o.guard with|none =>rw[mU]at I;rw[auO (by simp[Region.wanted,mU])];exact .inl (wz I)|some zR =>obtain⟨j,iE⟩:=zR;rw[mU]at I;obtain⟨g,b,h1,A,I⟩:=I;have jF:=(HW g).le _ _ _ (M.tmps g);change bh w C (HQ t0 ops.toList ai (R x) i g) _ at jF;rw[A]at jF;have hy:=x0 h1 jF.hY;rcases I with⟨rfl,I⟩|⟨rfl,ar,I⟩|I;rw[auO (by simp[Region.wanted,mU,hy])];exact .inl (wz I);rw[auN (by cases iE<;>simp[Region.wanted,mU,hy])];exact quiet _ _ _ _ ar ⟨.undef,I,rfl⟩ (M.put O .undef);replace I:=ig I;obtain⟨ar,I⟩:=I;(have cz:Region.wanted o (yielded ops a.tmps)=(b==iE):=by simp only[Region.wanted,mU,hy];cases b<;>cases iE<;>rfl);rw[cz];obtain⟨d,hK,hu⟩:=Bu hT I;(cases G:(b==iE)with|false =>rw[auN auF];rw[G]at hK;exact quiet _ _ _ _ ar ⟨_,hK,rfl⟩ (M.put O (.uW _))|true =>rw[auO rfl];rw[G]at hK;have aa:=hu G a.eval w C W.pW M.base ⟨λk y h=>M.heap.cl k y (vn k y h),λs bp y Q b wK h1 A=>M.heap.inj s bp y Q b wK (vn s y h1) (vn bp Q A),λk y b h=>M.heap.cQ k y b (vn k y h)⟩ (λy _=>cI (z:=tY ai S t0 dG R d7 ops x i) (λj=>(HW j).le _ _ _ (M.tmps j)) y);have zV:=zH (a6:=Q') (K:=λaA=>∃d,ap d ((R x).getD i .any)/\aA=(fR t0 dG R d7 ops x (ep be)).put o.dst d) M O (d:=.mb true d) ⟨_,hK,rfl⟩ (by generalize(execOp a.eval o).run P w=r at*;cases r with|halt _ _=>exact aa|ok n w' =>(cases n with|value v=>obtain⟨aW,af,hs⟩:=aa;exact⟨aW,.pT _ _ af,hs⟩|enter f args=>exact⟨aa.1,aa.2.mono λe rz ⟨v,lT,aq,af,hs⟩=>⟨v,lT,aq,.pT _ _ af,hs⟩⟩|_=>exact aa));exact .inl (Oper.wp_mono (λbv w' ⟨aA,aW,h1,A⟩=>quiet aA bv w' aW ar h1 A) zV))
variable{id:Nat}{K:cM->av->Prop}
theorem Y.adS{ay:List bC}(hT:df P ay)(hm:P.follows .mixedOrders=true)(dG:List (Nat×aJ))(eI:α)
  (R:α->List D) (d7:α->List (Nat×Nat×Option aJ)) (ai:List Nat) (S:List (Nat×Nat)) (gi:(wT al ops.toList 0&&(BV ops.toList&&(BU ai ops.toList 0&&x' ai ops.size S)))=true)
  (gU:∀x,mo (d7 x)=S) (h0:mI z dG) (step:Ev ai S z.t dG R d7 P B al ay ops ops.toList 0) (pm:∀x,K .normal (BW z.t dG R d7 ops x)) :
  Y W (.region id ops true) z K :=
 ⟨λa w C M=>wp_region_any hm (by
  simp only[auQ]at gi;obtain⟨aw,ag,HV,wV⟩:=gi
  have e:ep (Array.replicate ops.size false)=λ_=>false:=by
   funext i
   simp only[ep,Array.getD];split<;>simp
  have adT:∀(bb:List (Nat×Nat×Option aJ)) k,l1 bb (λ_=>false) k=none:=λbb k=>by
   induction bb with
   |nil=>rfl
   |cons e r aV=>obtain⟨i,q,o⟩:=e;simp only[l1,aV,Bool.and_false,avZ]
  refine Tf hT (W:=W) (a6:=K .normal) (λz a w C bK hK=>⟨.normal,z,C,rfl,hK,bK⟩) aw ag HV gU wV pm step _ eI _ _ _ C auF auF ?_ (by rw[e];exact λi k h _=>by cases h);rw[e];refine M.drew.le (λj=>?_) (λk o h=>?_)
  ·simp only[fR];cases wr ops.toList 0 j<;>exact .refl _
  simp only[fR,bK,adT]at h
  exact h0.aM k o h)⟩
variable{ay:List bC}{K:av->Prop}{b:Nat}{aD:List D}
theorem bI.adU{s:Nat}{e:TypeId}(h:bI W w C z a)(hs:z.H s=some (.kT b e aD)):bI W w C (z.b_ s (some (.box b aD))) a:=by have G:(z.b_ s (some (.box b aD))).H s=some (.box b aD):=rG _ _ _;(have key:∀k o,(z.b_ s (some (.box b aD))).H k=some o->∃dt,z.H k=some dt/\(∀x,o.es x->dt.es x)/\(tx w C dt->tx w C o):=λk o ag=>by by_cases Z:k=s;subst Z;rw[G]at ag;cases ag;exact⟨_,hs,λx J=>J,λ⟨vs,h1,A,aa⟩=>⟨vs,e,h1,A,aa⟩⟩;rw[mK _ _ Z]at ag;exact⟨o,ag,λ_ J=>J,id⟩);refine⟨h.tmps,⟨λk o ag=>?_,λk bE o bN x aZ h1 A au c0=>?_,λk o x ag au=>?_⟩,h.size,h.defers,h.step⟩;obtain⟨dt,h1,_,aa⟩:=key k o ag;exact aa (h.heap.cl k dt h1);obtain⟨dt,aa,aF,_⟩:=key k o h1;obtain⟨lY,a8,cN,_⟩:=key bE bN A;exact h.heap.inj k bE dt lY x aZ aa a8 (aF x au) (cN x c0);obtain⟨dt,aa,aF,_⟩:=key k o ag;exact h.heap.cQ k dt x aa (aF x au)
variable{t:Nat}{x:Operand}
theorem ah.HX(hT:df P ay){s off:Nat}{e:TypeId}(J:z.bb x=.box s b off)(hs:z.H s=some (.kT b e aD))
  (aj:zp ay (z.b_ s (some (.box b aD))) true t (.box s b off) λd=>K (z.put dst d)):ah P B al z dst (.load t x) K :=
 .val λW w C a M type pos after=>by
  obtain⟨d,hK,O⟩:=Sc (P:=P) hT aj;have X:=cI M.tmps x;rw[J]at X
  obtain⟨ao,au,af⟩:=O rfl w C W.pW _ (M.adU hs).heap X;exact⟨ao,w,C,z,d,by simp[execOp,au],M,af,hK⟩
variable{e:Nat}{ce:bC}{Q:List D}
theorem ah.Th(hT:df P ay){s:Nat}(aq:dC ay e=some ce)(bn:ce.zero=some Q)(hK:∀b:Nat,K ((z.b_ s (some (.kT b e Q))).put (some s) (.box s b 0))):ah P B al z (some s) (.alloc e) K :=
 .val λW w C a M type pos after=>by
  obtain⟨c5,rfl⟩:=hT.get aq;obtain⟨i,hi,_,_,oB⟩:=c5.pZ;obtain⟨e1,oC,nf,iH⟩:=oB Q bn;have a1:=de.alloc (λ_=>False) w C (.cells e1.cells ce.t) 0
  refine⟨.pointer (some ⟨w.heap.size,0,none⟩),w.alloc (.cells e1.cells ce.t),_,_,_,by simp[execOp,Instr.alloc,zeroValue,typeInfo,hi,oC,newVar,newRow],
   M.newObj s (mN:=.kT w.heap.size ce.t Q) (o:=.cells e1.cells ce.t) ⟨e1.cells.toList,lV _ _,(iH w C).ext a1.ext,h2 _ _ _⟩ (λb G=>G),.box _ _ _,hK w.heap.size⟩
theorem adV(h:bI W w C z a){e:bC}(aq:e.f' P){s off:Nat}{bJ:TypeId}(hH:z.H s=some (.kT b bJ aD)){x:D}{K:List D->Prop}(I:Bl e off aD x K)(af:bh w C x v): ∃dA w' aW,K dA/\(Instr.storeAt e.t (.pointer (some ⟨b,off,none⟩)) v).run P w=.ok () w'/\bI W w' aW (z.b_ s (some (.kT b bJ dA))) a:=by obtain⟨ds,hK,dP,p3⟩:=Sr I;obtain⟨h1,A,aa⟩:=p3 w C v af;obtain⟨vs,G,hZ,da⟩:=h.heap.cl s _ hH;(have hv:off+0+v.cells.toList.length<=(⟨vs⟩:Array Value).size:=by have:=h1.1;have:=hZ.1;simp only[avN];omega);have cZ:=run_storeCells_at P b off bJ v.cells.toList 0 ⟨vs⟩ w G hv aa;simp only[aw9]at cZ;have a1:=de.setRow (C:=C) (n:=0) G (aD:=(vs.take off++v.cells.toList++vs.drop (off+v.cells.toList.length)).toArray) auD (λo ag=>by omega);refine⟨_,_,_,hK,?_,h.b_ a1 (s:=s) (λx J=>by subst J;exact h.heap.cQ s _ _ hH rfl) (λbp bN ey aZ dn au nV=>?_) λy hy=>?_⟩;simp only[Instr.storeAt,Instr.sureAddr,Sem.run_bind,Sem.run_pure,Result.andThen_ok,storeVar,aq.size,A];simpa using cZ;subst nV;exact h.heap.inj bp s bN _ ey aZ dn hH au rfl;cases hy;refine⟨⟨_,setRow_heap w b _ _ bJ _ G,?_,h2 _ _ _⟩,λx J=>?_⟩;have LK:=(hZ.ext a1.ext).laid (h1.ext a1.ext) dP (r:=(vs.take off++v.cells.toList++vs.drop (off+v.cells.toList.length)).toArray) (by simp only[avN,auV,au9,avX];simp only[avN]at hv;omega) (λk=>by rw[awH];exact rH vs v.cells.toList off (by simpa using hv) k);simpa using LK;simp only[aJ.es]at J;subst J;exact⟨h.heap.cQ s _ x hH rfl,.inl rfl⟩
variable{y:Operand}
theorem ah.Ti(hT:df P ay){s off:Nat}{e:TypeId}(J:z.bb x=.box s b off)(hs:z.H s=some (.kT b e aD))(ax:dC ay t=some ce)
  (I:Bl ce off aD (z.bb y) λdA=>K ((z.b_ s (some (.kT b e dA))).put dst .undef)):ah P B al z dst (.store t x y) K :=
 .unit λW w C a M type pos after=>by
  obtain⟨c5,rfl⟩:=hT.get ax;obtain⟨dA,w',aW,hK,cZ,fZ⟩:=adV M c5 hs I (cI M.tmps y);have X:=cI M.tmps x;rw[J]at X;exact⟨w',aW,_,by simp only[execOp,X.wy,Sem.run_bind,cZ,Result.andThen_ok,Sem.run_pure],fZ,hK⟩
variable{aH:bC}{xs:List D}{aP:auM}{ln:TypeId}
theorem adW(h:bI W w C z a){e:bC}(aq:e.f' P)(i1:aH.f' P)(b2:e.kind=.slice aH.t)(bn:aH.zero≠none)(h1:aH.aB=1){d8:TypeId}(qR:P.underlying d8=some .string){vs:Value}(mL:(xs.length+aP.length)*aH.bytes<=140737488355328)(nh:xs.length+aP.length<=9223372036854775807)(h0:0<aP.length){q dst:Nat}(hH:z.H q=some (.row vs xs aH.aB aH.t)): ∃v w' aW,(Builtin.append_ #[e.t,d8] ln #[vs,.string ⟨⟨aP⟩⟩]).run P w=.ok v w'/\bI W w' aW ((z.b_ q none).b_ dst (some (.row v (xs++aP.map λc=>D.int .u8 c.toNat) aH.aB aH.t))) a:=by obtain⟨i,hi,hsz,_⟩:=i1.pZ;have aj:(aP.map λc=>D.int .u8 c.toNat).length=aP.length:=auS _;(have dg:b4 (aP.map λc=>D.int .u8 c.toNat)=aP.map λc=>D.int .u8 c.toNat:=rM λx J=>by obtain⟨c,_,rfl⟩:=au_.1 J;rfl);refine SK h aq i1 b2 bn (bl:=aP.map λc=>D.int .u8 c.toNat) (hw:=byteCells ⟨⟨aP⟩⟩) (by rw[h1,aj];exact Src.ofString w qR ⟨⟨aP⟩⟩) (λj d O=>?_) (λx J=>?_) (by rw[aj];exact mL) (by rw[aj];exact nh) (by rw[aj];exact h0) hH λb cap fX G rJ hv=>?_;rw[dg,au']at O;obtain⟨c,hc,rfl⟩:=avS.1 O;exact⟨.int .u8 c.toNat,by simp[byteCells,hc],.int .u8 _,rfl⟩;obtain⟨c,_,rfl⟩:=au_.1 J;rw[h1];rfl;have lo:(byteCells ⟨⟨aP⟩⟩).length=aP.length:=byteCells_length _;rw[aj]at rJ;rw[lo,h1,axr]at hv;rw[aj,lo,h1,axr];exact Lib.run_append_room_string w e.t d8 ln aH.t i (aq.j2 b2) qR hi (hsz.trans h1) b xs.length cap fX G ⟨⟨aP⟩⟩ rJ hv
theorem ah.adX(hT:df P ay){d8 bJ s:Nat}(q:Nat)(ax:dC ay t=some ce)(b2:ce.kind=.slice bJ)(fr:dC ay bJ=some aH)(bn:aH.zero≠none)(h1:aH.aB=1)
  (qR:P.underlying d8=some .string) (J:z.bb x=.am v) (hH:z.H q=some (.row v xs 1 bJ)) (hy:z.bb y=.N aP) (h0:0<aP.length) (mL:(xs.length+aP.length)*aH.bytes<=140737488355328) (nh:xs.length+aP.length<=9223372036854775807)
  (hK:∀c':Value,K (((z.b_ q none).b_ s (some (.row c' (xs++aP.map λc=>D.int .u8 c.toNat) 1 bJ))).put (some s) (.am c'))):ah P B al z (some s) (.call ⟨.builtin .append,#[x,y],#[t,d8]⟩) K :=
 .val λW w C a M type pos after=>by
  obtain⟨c5,rfl⟩:=hT.get ax;obtain⟨fp,rfl⟩:=hT.get fr;have fY:=cI M.tmps x;rw[J]at fY
  have k1:=cI M.tmps y;rw[hy]at k1
  obtain⟨c',w',aW,cZ,fZ⟩:=adW M c5 fp b2 bn h1 qR (vs:=v) mL nh h0 (q:=q) (dst:=s) (ln:=type) (by rw[h1];exact hH);rw[h1]at fZ;refine⟨c',w',aW,_,_,?_,fZ,.am c',hK c'⟩;rw[<-fY.gh,<-k1.kS]at cZ;simp[execOp,resolve,invoke,builtin,cZ]
variable{dA:List D}{c:Code}
theorem Y.Tj{K:cM->av->Prop}(s:Nat){e:TypeId}(hs:z.H s=some (.kT b e aD))(dP:dO aD dA)(h:Y W c (z.b_ s (some (.kT b e dA))) K):Y W c z K :=
 ⟨λa w C M=>h.run a w C (M.b_ (Ft:=λx=>x=b) (.refl _ _ _) (λx J=>by subst J;exact M.heap.cQ s _ _ hs rfl) (λbp o x aZ ag au J=>by subst J;exact M.heap.inj bp s o _ x aZ ag hs au rfl) (λx J=>by
  cases J
  obtain⟨vs,h1,A,aa⟩:=M.heap.cl s _ hs
  exact⟨⟨vs,h1,dP.rB A,aa⟩,λy hy=>by simp only[aJ.es]at hy;subst hy;exact⟨M.heap.cQ s _ _ hs rfl,.inl rfl⟩⟩))⟩
variable{cap:Nat}
theorem ah.adY{t:TypeId}{n:Nat}{K:av->Prop}(J:z.bb x=.am (.slice (some ⟨b,0,none⟩) n cap))(hc:cap≠0)(hK:K (z.put dst (.am (.pointer (some ⟨b,0,none⟩))))):
  ah P B al z dst (.call ⟨.builtin .unsafeSliceData,#[x],#[t]⟩) K :=
 .val λW w C a M type pos after=>by
  have X:=cI M.tmps x;rw[J]at X
  have af:=X.gh;refine⟨_,w,C,z,_,?_,M,.am _,hK⟩;simp[execOp,resolve,invoke,builtin,af,Lib.run_unsafeSliceData_row (P:=P) w _ _ _ _ _ hc]
theorem de.freeze{w:World}{C:Nat->Nat}{b n:Nat}(da:C b=0):de (λx=>x=b) w C (w.freeze ⟨b,0,none⟩ n) C:=by unfold World.freeze;split;exact de.refl _ _ _;(have Z:∀(f:Obj->Obj) x,x≠b->(w.heap.modify b f)[x]?=w.heap[x]?:=λf x J=>by simp only[aw_];rw[auN (λe=>J e.symm)]);refine⟨⟨by simp,λ_ _=>auW _,λx i J hi=>?_⟩,rfl,rfl,rfl,λx J ar=>⟨Z _ x ar,rfl⟩⟩;(have aZ:x≠b:=λe=>by subst e;omega);simp only[World.cell?];rw[Z _ x aZ]
theorem ah.adZ(hT:df P ay){d8 bJ:Nat}(q:Nat){K:av->Prop}(ax:dC ay t=some ce)(b2:ce.kind=.slice bJ)(fr:dC ay bJ=some aH)(h1:aH.aB=1)
  (qR:P.underlying d8=some .string) (J:z.bb x=.am v) (hH:z.H q=some (.row v xs k e)) (hy:z.bb y=.N []) (hK:K (z.put dst (.am v))):ah P B al z dst (.call ⟨.builtin .append,#[x,y],#[t,d8]⟩) K :=
 .val λW w C a M type pos after=>by
  obtain⟨c5,rfl⟩:=hT.get ax;obtain⟨fp,rfl⟩:=hT.get fr;have au:=c5.j2 b2;obtain⟨i,hi,hsz,tI,oB⟩:=fp.pZ;have fY:=cI M.tmps x;rw[J]at fY
  have k1:=cI M.tmps y;rw[hy]at k1
  obtain⟨bS,cap,X,hc,_⟩:=M.heap.cl q _ hH;subst X;have p':i.size=1:=auD
  have BJ:=Src.ofString (P:=P) w qR ⟨⟨[]⟩⟩
  have cZ:(Builtin.append_ #[ce.t,d8] type #[.slice bS xs.length cap,.string ⟨⟨[]⟩⟩]).run P w=.ok (.slice bS xs.length cap) w :=
   run_append_nothing w ce.t d8 type aH.t i au hi bS xs.length cap hc _ (by rw[p'];exact BJ)
  have bZ:=fY.gh;have b0:=k1.kS;rw[<-bZ,<-b0]at cZ;rw[bZ]at cZ;refine⟨.slice bS xs.length cap,w,C,z,_,?_,M,.am _,hK⟩;simp[execOp,resolve,invoke,builtin,bZ,cZ]
theorem bI.B0{q s:Nat}{o:aJ}(h:bI W w C z a)(hH:z.H q=some o):bI W w C ((z.b_ q none).b_ s (some o)) a:=by refine(h.drop q).b_ (Ft:=λb=>aJ.es o b) (.refl _ _ _) (λb G=>h.heap.cQ q _ b hH G) (λbp bN b aZ dn c0 G=>?_) λx J=>?_;by_cases I:bp=q;subst I;rw[rG]at dn;cases dn;rw[mK z none I]at dn;exact h.heap.inj bp q bN _ b I dn hH c0 G;cases J;exact⟨h.heap.cl q _ hH,λb G=>⟨h.heap.cQ q _ b hH G,.inl G⟩⟩
theorem ah.ad0(hT:df P ay){d8 bJ s:Nat}(q:Nat){K:av->Prop}(ax:dC ay t=some ce)(b2:ce.kind=.slice bJ)(fr:dC ay bJ=some aH)(bn:aH.zero≠none)(h1:aH.aB=1)(qR:P.underlying d8=some .string)(J:z.bb x=.am v)(hH:z.H q=some (.row v xs 1 bJ))(hy:z.bb y=.N aP)(mL:(xs.length+aP.length)*aH.bytes<=140737488355328)(nh:xs.length+aP.length<=9223372036854775807)(hK:∀c':Value,K (((z.b_ q none).b_ s (some (.row c' (xs++aP.map λc=>D.int .u8 c.toNat) 1 bJ))).put (some s) (.am c'))):ah P B al z (some s) (.call ⟨.builtin .append,#[x,y],#[t,d8]⟩) K:=by cases aP with|cons c r=>exact .adX hT q ax b2 fr bn h1 qR J hH hy auF mL nh hK|nil =>have A:ah P B al z (some s) (.call ⟨.builtin .append,#[x,y],#[t,d8]⟩) (λaA=>aA=z.put (some s) (.am v)):=.adZ hT q ax b2 fr h1 qR J hH hy rfl;have aa:=hK v;simp only[awp,avC]at aa;refine⟨λW w C a M O type pos after a6=>Oper.wp_mono (λbv w' ⟨aA,aW,aq,bK⟩=>?_) (A.run W w C a M O type pos after a6)⟩;subst aq;exact⟨_,aW,aa,bK.B0 (q:=q) (s:=s) (by rw[D1];exact hH)⟩
theorem ah.ad1(hT:df P ay){Mx Tk bJ:TypeId}(q:Nat){K:av->Prop}(HY:P.underlying Mx=some (.pointer bJ))(fr:dC ay bJ=some aH)(h1:aH.aB=1)
  (hH:z.H q=some (.row (.slice (some ⟨b,0,none⟩) aP.length cap) (aP.map λc=>D.int .u8 c.toNat) 1 bJ)) (J:z.bb x=.am (.pointer (some ⟨b,0,none⟩))) (hy:z.bb y=.int .i64 (aP.length:Nat)) (h0:0<aP.length)
  (nh:aP.length<=9223372036854775807) (hK:K ((z.b_ q none).put dst (.N aP))):ah P B al z dst (.call ⟨.builtin .unsafeString,#[x,y],#[Mx,Tk]⟩) K :=
 .val λW w C a M type pos after=>by
  obtain⟨fp,rfl⟩:=hT.get fr;have fY:=cI M.tmps x;rw[J]at fY
  have k1:=cI M.tmps y;rw[hy]at k1
  have pc:=M.heap.cl q _ hH;obtain⟨bS,iF,X,hc,hm,Z,fg,cz⟩:=pc;simp only[Value.slice.injEq]at X;obtain⟨rfl,_,rfl⟩:=X;have ad2:(aP.map λc=>D.int .u8 c.toNat).length=aP.length:=by simp
  rw[ad2]at hc;obtain⟨ey,vs,sI,G,hsz,da,af⟩:=cz auD;cases sI
  have fw:aJ.es (.row (.slice (some ⟨b,0,none⟩) aP.length cap) (aP.map λc=>D.int .u8 c.toNat) 1 aH.t) b:=⟨_,cap,rfl,by omega⟩;have dg:b4 (aP.map λc=>D.int .u8 c.toNat)=aP.map λc=>D.int .u8 c.toNat:=rM (λx J=>by obtain⟨c,_,rfl⟩:=au_.1 J;rfl)
  have gg:∀j x,aP[j]?=some x->w.cell? ((⟨b,0,none⟩:Addr).add j)=some (.int .u8 x.toNat):=λj x ad=>by
   obtain⟨ao,aa,aF,_⟩:=af j (.int .u8 x.toNat) (by rw[dg,au',ad];rfl);rw[p1,avu];simp only[World.cell?,G];rw[aF.fC]at aa;simpa using aa
  have cZ:=Lib.run_unsafeString_row (P:=P) w Mx Tk type aH.t HY (by rw[fp.cellsOf,h1]) b (cap*1) (by simp[World.shape?,G,hsz]) aP (by intro e;subst e;simp at h0) auD nh gg;refine⟨.string ⟨aP.toArray⟩,w.freeze ⟨b,0,none⟩ aP.length,C,z.b_ q none,.N aP,?_,M.b_ (Ft:=λx=>x=b) (de.freeze da) (λx J=>by subst J;exact M.heap.cQ q _ _ hH fw) (λbp o x aZ ag au J=>by subst J;exact M.heap.inj bp q o _ x aZ ag hH au fw) (λx J=>by cases J),.N aP,hK⟩;have bZ:=fY.gh;have b0:=k1.fC;simp[execOp,resolve,invoke,builtin,bZ,b0,cZ]
def cV(l:List (Nat×aJ))(cx:bH):bH:=λs=>match aM l s with|some o=>some o|none=>cx s
variable{cx:bH}
theorem ns.My{l:List (Nat×aJ)}(h:mI z l)(O:∀k o,cx k=some o->z.H k=some o):ns z (cV l cx):=λk o ag=>by
 unfold cV at ag
 cases aj:aM l k with
 |some bN=>rw[aj]at ag;cases ag;exact h.aM k _ aj
 |none=>rw[aj]at ag;exact O k o ag
theorem Tl{l:List (Nat×aJ)}(h:aM l k=none):cV l cx k=cx k:=by unfold cV;rw[h]
theorem HZ{α:Type}:∀{l:List (Nat×α)} {k:Nat},(∀p∈l,p.1≠k)->aM l k=none
 |[],_,_=>rfl
 |(i,d)::r,k,h=>by have h1:=h (i,d) auY;simp only[aM];cases G:Nat.beq k i with|true=>exact absurd (avb G).symm h1|false=>exact HZ λp aw=>h p (auZ _ aw)
variable{j:Nat}{bl:List D}{tg:iA}
section
theorem ah.n9(hT:df P ay)(s:Nat)(J:z.bb x=.am (h5 v (i*k+j)))(hs:z.H s=some (.row v xs k e))(ax:dC ay t=some ce){y:D}
  (hy:xs[i]?=some y) (aj:DP ce k j y λd=>K (z.put dst d)):ah P B al z dst (.load t x) K :=
 .val λW w C a M type pos after=>by
  obtain⟨c5,rfl⟩:=hT.get ax;have X:=cI M.tmps x;rw[J]at X
  obtain⟨b,cap,vs,rfl,_,_,Z,G,hsz,_,af⟩:=ks.pos (M.heap.cl s _ hs) (fu hy);obtain⟨d,hK,O⟩:=Lp c5 aj
  obtain⟨ao,au,L4⟩:=O w C b (0+i*k) (λj=>vs.getD (i*k+j) undef) (Z y (au5 hy)) (λj d O=>by
   have ad:j<k:=by rw[<-Z y (au5 hy)];exact fu O
   obtain⟨ao,h1,A,_⟩:=af (i*k+j) d (by rw[wD Z hy ad];exact O);refine⟨?_,?_⟩
   ·simp only[World.cell?,G,avu];simp[h1,aws]
   simp[aws,h1,A])
  refine⟨ao,w,C,z,d,?_,M,L4,hK⟩;simp only[h5]at X
  have dU:a.eval x=.pointer (some ⟨b,0+i*k+j,none⟩):=by
   rw[X.gh,awy]
  simp only[execOp,dU,Sem.run_bind,au,Result.andThen_ok,Sem.run_pure]
theorem ah.Tm(hT:df P ay){bJ s:Nat}(q pa:Nat)(ax:dC ay t=some ce)(b2:ce.kind=.slice bJ)(fr:dC ay bJ=some aH)(bn:aH.zero≠none)
  (J:z.bb x=.T (.own pa v) aH.aB xs) (hH:z.H q=some (.own v xs.length aH.aB bJ)) (hy:z.bb y=.T tg aH.aB bl) (mL:(xs.length+bl.length)*aH.bytes<=140737488355328) (nh:xs.length+bl.length<=9223372036854775807)
  (hK:∀c':Value,K (((z.b_ q none).b_ s (some (.own c' (xs.length+bl.length) aH.aB bJ))).put (some s) (.T (.own s c') aH.aB (xs++bl)))):ah P B al z (some s) (.call ⟨.builtin .append,#[x,y],#[t,t]⟩) K :=
 .val λW w C a M type pos after=>by
  obtain⟨c5,rfl⟩:=hT.get ax;obtain⟨fp,rfl⟩:=hT.get fr;have fY:=cI M.tmps x;rw[J]at fY
  have k1:=cI M.tmps y;rw[hy]at k1
  have qS:a.eval x=v:=by
   rcases fY.kt with⟨_,_,ax⟩|⟨b,o,cap,g,_,ax,_⟩
   ·exact ax
   exact ax
  obtain⟨c',w',aW,cZ,eX,fZ⟩:=Ss (a:=a) M c5 fp b2 bn fY k1 mL nh (q:=q) (dst:=s) (ln:=type) (.inr (by rw[qS];exact hH));refine⟨c',w',aW,_,_,?_,fZ,eX,hK c'⟩;simp[execOp,resolve,invoke,builtin,cZ]
end
set_option linter.unusedVariables false in
theorem dO.l2:∀{a b c d:List D},dO a b->dO c d->dO (a++c) (b++d)
 |[],[],_,_,_,A=>A
 |a0::ad3,lu::Tn,c,d,h1,A=>⟨h1.1,dO.l2 (a:=ad3) (b:=Tn) h1.2 A⟩
theorem dO.b4:∀{xs bl:List D},xs.length=bl.length->(∀(i:Nat) x y,xs[i]?=some x->bl[i]?=some y->dO x.cells y.cells)->dO (b4 xs) (b4 bl)
 |[],[],_,_=>trivial
 |x::xs,y::bl,aj,h=>dO.l2 (h 0 x y rfl rfl) (dO.b4 (xs:=xs) (bl:=bl) (by simpa using aj) λi a b ha G=>h (i+1) a b ha G)
theorem Y.To{K:cM->av->Prop}(h:Y W c z λe aA=>∃l hs m,nZ aA l hs m/\K e (ht l hs)):Y W c z K :=
 ⟨λa w C M=>wp_mono (h.run a w C M) λ_ _ _ ⟨c9,_,aW,aq,⟨_,_,_,Z,hK⟩,bK⟩=>⟨c9,_,aW,aq,hK,bK.Hv Z⟩⟩
theorem ad4(f:Nat->Bool)(n:Nat)(h:∀i,i<n->f i=true):∃g:Nat->Bool,f=λj=>_root_.cond (Nat.blt j n) true (g j) :=
 ⟨f,funext λj=>by
  cases G:Nat.blt j n with
  |false=>rfl
  |true=>exact h j (by simpa using G)⟩
theorem Ew(f:Nat->Bool)(k:Nat)(h:f k=true):∃g:Nat->Bool,f=λj=>_root_.cond (Nat.beq j k) true (g j) :=
 ⟨f,funext λj=>by cases G:Nat.beq j k with|false=>rfl|true=>rw[avb G];exact h⟩
def yb(H:bH):List (Nat×Nat)->List (Nat×aJ)->Prop
 |[],[]=>True
 |(k,s)::m,(bE,o)::hs=>k=bE/\H s=some o/\yb H m hs
 |_,_=>False
theorem Mz{H:bH}:∀{m:List (Nat×Nat)} {hs:List (Nat×aJ)},yb H m hs->∀j,gy H m j=aM hs j
 |[],[],_,j=>rfl
 |(k,s)::m,(bE,o)::hs,h,j=>by obtain⟨rfl,h1,A⟩:=h;have aV:=Mz A j;simp only[gy,aM]at aV⊢;cases Nat.beq j k with|true=>exact h1|false=>exact aV
variable{f:FuncId}{ds:List D}{a6:D->bH->Prop}{m:List (Nat×Nat)}{hs:List (Nat×aJ)}
theorem c8.wW{H:bH}(h:yb H m hs)(hc:c8 P B f ds (aM hs) a6):c8 P B f ds (gy H m) a6:=by rw[show gy H m=aM hs from funext (Mz h)];exact hc
theorem Tp{H:bH}:∀{m:List (Nat×Nat)},j4 m=true->∀p∈m,gy H m p.1=H p.2
 |(k,s)::r,hm,p,aw=>by rw[j4,auQ]at hm;simp only[gy];rcases au8.1 aw with rfl|aw;simp;have h1:=avz.1 hm.1 p aw;rw[auQ]at h1;(have A:Nat.beq p.1 k=false:=by simpa using h1.1);rw[A];exact Tp hm.2 p aw
theorem Tq{H aO:bH}:∀{m:List (Nat×Nat)},(∀p∈m,aO p.1=H p.2)->qC H aO m=H
 |[],_=>rfl
 |(k,s)::r,h=>by funext j;simp only[qC];cases G:Nat.beq j s with|true=>rw[avb G];exact h (k,s) auY|false=>exact congrFun (Tq λp aw=>h p (auZ _ aw)) j
variable{args:Array Operand}{mM:Array TypeId}{b6:FuncId}{cs:List D}{d':D}
theorem ah.B1{K:av->Prop}{f:Operand}{first:List D}(M:z.bb f=.fn (.func b6) first cs)
  (g8:List D) (m:List (Nat×Nat))  {he:D} (h:yb z.H m hs) (hc:c8 P B b6 g8 (aM hs) λd aO=>d=he/\aO=aM hs) (hm:j4 m=true) (dP:dO (first++args.toList.map z.bb++cs) g8)
   (O:ap he d') (hK:K (z.put dst d')):ah P B al z dst (.call ⟨.value f,args,mM⟩) K :=
 ah.call M g8 m (c8.wW h hc) hm dP λd aO I=>by
  obtain⟨rfl,rfl⟩:=I;refine⟨d',O,?_⟩;have e:aM hs=gy z.H m:=(funext (Mz h)).symm;rw[show qC z.H (aM hs) m=z.H from Tq λp aw=>by rw[e];exact Tp hm p aw];exact hK
theorem ah.Ex{K:av->Prop}{t:TypeId}{m:Operand}(h:ah P B al z dst (.mapUpdate t m x y) K):ah P B al z dst (.insert t m x y) K :=
 ⟨λW w C a M O type pos after a6=>h.1 W w C a M O type pos after a6⟩
def MA(H:bH):List (Nat×Nat)->Prop
 |[]=>True
 |(_,s)::m=>H s=none/\MA H m
theorem Tr{H:bH}:∀{m:List (Nat×Nat)},MA H m->∀j,gy H m j=none
 |[],_,j=>rfl
 |(k,s)::m,h,j=>by have aV:=Tr h.2 j;simp only[gy];cases Nat.beq j k with|true=>exact h.1|false=>exact aV
theorem c8.Ts{H:bH}(h:MA H m)(hc:c8 P B f ds bH.none a6):c8 P B f ds (gy H m) a6:=by rw[show gy H m=bH.none from funext (Tr h)];exact hc
theorem Y.ad5{K:cM->av->Prop}(s:Nat)(hs:z.H s=some (.row v xs k e))(h0:0<xs.length)
  (h:∀b cap,v=.slice (some ⟨b,0,none⟩) xs.length cap->xs.length<=cap->cap<=maxLen->Y W c z K):Y W c z K :=
 ⟨λa w C M=>by
  obtain⟨b,cap,vs,X,hc,hm,_⟩:=ks.pos (i:=0) (M.heap.cl s _ hs) h0
  exact(h b cap X hc hm).run a w C M⟩
variable{op:Op}
theorem ah.plain(hT:df P ay)(I:nS P B ay z dst op K):ah P B al z dst op K :=
 ⟨λW w C a M O type pos after a6=>tK hT M O I a6⟩
variable{sO qN k3:Operand}{gn a2 a3:Int}
theorem ah.ad6{t e:TypeId}{H0 H1 MB MC MD ME MF MG MH:Operand}{i:TypeInfo}{q:IntKind}{a0 a4 a5 zY Ey zZ a9 Ez EA:Int}(au:P.underlying t=some (.array 12 e))(hi:P.info? e=some i)(hsz:i.size=1)
  (bn:∀w,(zeroValue t).run P w=.ok (.agg #[.int q 0,.int q 0,.int q 0,.int q 0,.int q 0,.int q 0,.int q 0,.int q 0,.int q 0,.int q 0,.int q 0,.int q 0]) w) (h0:z.bb sO=.int q a0) (h1:z.bb qN=.int q gn) (A:z.bb k3=.int q a2) (aa:z.bb H0=.int q a3) (aF:z.bb H1=.int q a4) (a8:z.bb MB=.int q a5) (cN:z.bb MC=.int q zY) (e2:z.bb MD=.int q Ey) (f1:z.bb ME=.int q zZ) (hP:z.bb MF=.int q a9) (sQ:z.bb MG=.int q Ez) (rS:z.bb MH=.int q EA)
  (hK:K (z.put dst (.agg [.int q a0,.int q gn,.int q a2,.int q a3,.int q a4,.int q a5,.int q zY,.int q Ey,.int q zZ,.int q a9,.int q Ez,.int q EA]))):ah P B al z dst (.build t #[(0,sO),(1,qN),(2,k3),(3,H0),(4,H1),(5,MB),(6,MC),(7,MD),(8,ME),(9,MF),(10,MG),(11,MH)]) K :=
 .val λW w C a M type pos after=>by
  have v0:=cI M.tmps sO;rw[h0]at v0
  have jr:=cI M.tmps qN;rw[h1]at jr
  have v2:=cI M.tmps k3;rw[A]at v2
  have v3:=cI M.tmps H0;rw[aa]at v3
  have v4:=cI M.tmps H1;rw[aF]at v4
  have v5:=cI M.tmps MB;rw[a8]at v5
  have B2:=cI M.tmps MC;rw[cN]at B2
  have H2:=cI M.tmps MD;rw[e2]at H2
  have Tt:=cI M.tmps ME;rw[f1]at Tt
  have v9:=cI M.tmps MF;rw[hP]at v9
  have Tu:=cI M.tmps MG;rw[sQ]at Tu
  have Tv:=cI M.tmps MH;rw[rS]at Tv
  refine⟨.agg #[.int q a0,.int q gn,.int q a2,.int q a3,.int q a4,.int q a5,.int q zY,.int q Ey,.int q zZ,.int q a9,.int q Ez,.int q EA],w,C,z,_,?_,M,.agg [.int q a0,.int q gn,.int q a2,.int q a3,.int q a4,.int q a5,.int q zY,.int q Ey,.int q zZ,.int q a9,.int q Ez,.int q EA] [.int q a0,.int q gn,.int q a2,.int q a3,.int q a4,.int q a5,.int q zY,.int q Ey,.int q zZ,.int q a9,.int q Ez,.int q EA] rfl (λj d v O X=>?_),hK⟩
  ·simp[execOp,v0.fC,jr.fC,v2.fC,v3.fC,v4.fC,v5.fC,B2.fC,H2.fC,Tt.fC,v9.fC,Tu.fC,Tv.fC,Instr.build,bn,run_underlying au,zw hi,hsz,Result.andThen,Instr.fill,Value.cells]
  match j with
  |0=>cases O;cases X;exact .int _ _
  |1=>cases O;cases X;exact .int _ _
  |2=>cases O;cases X;exact .int _ _
  |3=>cases O;cases X;exact .int _ _
  |4=>cases O;cases X;exact .int _ _
  |5=>cases O;cases X;exact .int _ _
  |6=>cases O;cases X;exact .int _ _
  |7=>cases O;cases X;exact .int _ _
  |8=>cases O;cases X;exact .int _ _
  |9=>cases O;cases X;exact .int _ _
  |10=>cases O;cases X;exact .int _ _
  |11=>cases O;cases X;exact .int _ _
  |j+12=>simp at O
variable{eO:Operand}{Eg:IntKind}{qz:TypeInfo}
theorem ah.ad7{bJ n:Nat}{s off:Nat}{i:Int}(au:P.underlying t=some (.array n bJ))(hi:P.info? bJ=some qz)(J:z.bb x=.box s b off)(pp:z.bb eO=.int Eg i)
  (h0:0<=i) (h1:i<n) (hK:K (z.put dst (.box s b (off+i.toNat*qz.size)))):ah P B al z dst (.indexAddr t x eO) K :=
 .val λW w C a M type pos after=>by
  have X:=cI M.tmps x;rw[J]at X
  have Eh:=cI M.tmps eO;rw[pp]at Eh
  refine⟨.pointer (some ⟨b,off+i.toNat*qz.size,none⟩),w,C,z,_,?_,M,.box _ _ _,hK⟩;simp[execOp,Instr.indexAt,X.wy,Eh.fC,asIntOf,run_underlying au,Instr.sureAddr,h0,h1,zw hi,p1]
variable{d:D}
theorem ah.ad8(hT:df P ay){s off:Nat}(J:z.bb x=.box s b off)(hs:z.H s=some (.box b aD))(ax:dC ay t=some ce)(ha:ce.agg=false)(hc:aD[off]?=some d)
  (hK:K (z.put dst d)):ah P B al z dst (.load t x) K :=
 ah.plain hT (by
  show opn true (z.bb x) λx=>zp ay z true t x λd=>K (z.put dst d);rw[J];show zp ay z true t (.box s b off) λd=>K (z.put dst d);unfold zp;rw[ax];simp only[hs,DO,ha,hc]
  exact⟨trivial,hK⟩)
variable{oz kW:Nat}{rN:bC}
theorem ah.rT(hT:df P ay){bJ:Nat}(ax:dC ay oz=some ce)(b2:ce.kind=.N)(O:dC ay kW=some rN)(pg:rN.kind=.slice bJ)
  (fr:dC ay bJ=some aH) (lX:aH.kind=.int .u8) (J:z.bb x=.N aP) (hlen:aP.length<=1000000000000)
  (hK:K (z.put dst (.T .none 1 (aP.map λc=>D.int .u8 c.toNat)))):ah P B al z dst (.convert oz kW x) K :=
 .val λW w C a M type pos after=>by
  obtain⟨c5,rfl⟩:=hT.get ax;obtain⟨zL,rfl⟩:=hT.get O;obtain⟨fp,rfl⟩:=hT.get fr;have X:=cI M.tmps x;rw[J]at X
  have i6:(⟨⟨aP⟩⟩:ByteArray).size=aP.length:=rfl;have cZ:=run_bytes_of_string (P:=P) w ce.t rN.t aH.t ⟨⟨aP⟩⟩ (c5.p0 b2) (zL.j2 pg) (fp.sD lX);rw[i6]at cZ;have jl:=grownCap_ge w aP.length 0 aH.t;have BH:=grownCap_le_maxLen w aP.length 0 aH.t (by unfold maxLen;omega);generalize hcap:grownCap w aP.length 0 aH.t=cap at*;generalize MI:((bytesRow ⟨⟨aP⟩⟩ cap).size,(bytesRow ⟨⟨aP⟩⟩ cap).size+1)=kv at*;have tQ:bI W w.drew C z a:=M.tH (de.drew _ w C);have MJ:=tQ.tH (de.alloc (λ_=>False) w.drew C (.cells (bytesRow ⟨⟨aP⟩⟩ cap) aH.t kv) aP.length);have gs:(aP.map λc=>D.int .u8 c.toNat).length=aP.length:=auS ..;have en:∀x∈(aP.map λc=>D.int .u8 c.toNat),x.cells=[x]:=λx J=>by obtain⟨c,_,rfl⟩:=au_.1 J;rfl
  have H3:b4 (aP.map λc=>D.int .u8 c.toNat)=aP.map λc=>D.int .u8 c.toNat:=rM en;refine⟨.slice (some ⟨w.heap.size,0,none⟩) aP.length cap,_,_,z,.T .none 1 (aP.map λc=>D.int .u8 c.toNat),?_,MJ,?_,hK⟩
  ·simp only[execOp,X.kS,Sem.run_bind,cZ,Result.andThen_ok,Sem.run_pure]
  have EB:(w.drew.alloc (.cells (bytesRow ⟨⟨aP⟩⟩ cap) aH.t kv)).heap[w.heap.size]?=some (.cells (bytesRow ⟨⟨aP⟩⟩ cap) aH.t kv):=lV w.drew _
  have h:=bh.T (w:=w.drew.alloc (.cells (bytesRow ⟨⟨aP⟩⟩ cap) aH.t kv)) (C:=gw C w.drew.heap.size aP.length) .none 1 (aP.map λc=>D.int .u8 c.toNat) w.heap.size 0 cap (λj=>.int .u8 ((aP.getD j 0).toNat:Nat)) trivial (ij EB) (by rw[gs];exact jl) BH
   (λx J=>by rw[en x J];rfl) (by rw[gs];show 0+aP.length*1<=gw C w.heap.size aP.length w.heap.size;rw[h2];omega)
   (λj d O=>by
    rw[H3,au',avS]at O;obtain⟨c,hc,rfl⟩:=O;have ad:j<aP.length:=(avk.1 hc).1;have h4:aP.getD j 0=c:=by rw[awE,hc];rfl
    unfold World.cell?;rw[EB];show(bytesRow ⟨⟨aP⟩⟩ cap)[0+j]?=_;rw[avu,h4];unfold bytesRow;rw[axB (by simpa using ad)]
    simp[hc])
   (λj d O=>rfl)
   (λj d O=>by
    rw[H3,au',avS]at O;obtain⟨c,hc,rfl⟩:=O;have h4:aP.getD j 0=c:=by rw[awE,hc];rfl
    show bh _ _ (.int .u8 (c.toNat:Nat)) (.int .u8 ((aP.getD j 0).toNat:Nat))
    rw[h4];exact .int _ _)
  rw[gs]at h;exact h
def tZ(P:Program)(B:World)(ay:List bC)(al:Nat)(ops:Array Oper):List Oper->av->(av->Prop)->Prop
 |[],z,K=>K z
 |⟨dst,op,_,_,_,guard⟩::rest,z,K=>iY al dst=true/\(match guard with
  |none=>(nS P B ay z dst op λaA=>tZ P B ay al ops rest aA K)\/ah P B al z dst op λaA=>tZ P B ay al ops rest aA K
  |some (j,iE)=>∃g b,(ops[j]?).bind (·.dst)=some g/\z.t g=.bool b/\
   ((b=iE/\((nS P B ay z dst op λaA=>tZ P B ay al ops rest aA K)\/ah P B al z dst op λaA=>tZ P B ay al ops rest aA K))\/(b=!iE/\tZ P B ay al ops rest (z.put dst .undef) K)))
theorem Tw{ay:List bC}(hT:df P ay){W:b5 P B al}{ops:Array Oper}{a6:Exit->Act->World->Prop}{K:av->Prop}(fO:∀aA bv w' aW,K aA->bI W w' aW aA bv->a6 .normal bv w'): ∀{l:List Oper} {z:av} (_:tZ P B ay al ops l z K) {a:Act} {w:World} {C:Nat->Nat} (_:bI W w C z a),wpList P ops a6 l a w
 |[],_,I,_,_,_,M=>fO _ _ _ _ I M
 |o::rest,z,I,a,w,C,M=>by obtain⟨O,I⟩:=I;(have next:∀bv w',(∃aA aW,tZ P B ay al ops rest aA K/\bI W w' aW aA bv)->wpList P ops a6 rest bv w':=λbv w' ⟨aA,aW,h1,A⟩=>Tw hT fO h1 A);(have wz:((nS P B ay z o.dst o.op λaA=>tZ P B ay al ops rest aA K)\/ah P B al z o.dst o.op λaA=>tZ P B ay al ops rest aA K)->o.wp P a w (λbv w'=>wpList P ops a6 rest bv w') a6:=λI=>by rcases I with I|I;(·exact Oper.wp_mono next (tK hT M O I a6));obtain⟨dst,op,type,pos,after,guard⟩:=o;exact Oper.wp_mono next (I.run W w C a M O type pos after a6));unfold wpList;cases mU:o.guard with|none =>rw[mU]at I;rw[auO (by simp[Region.wanted,mU])];exact .inl (wz I)|some zR =>obtain⟨j,iE⟩:=zR;rw[mU]at I;obtain⟨g,b,h1,A,I⟩:=I;have jF:=M.tmps g;rw[A]at jF;have hy:=x0 h1 jF.hY;rcases I with⟨rfl,I⟩|⟨rfl,I⟩;rw[auO (by simp[Region.wanted,mU,hy])];exact .inl (wz I);rw[auN (by cases iE<;>simp[Region.wanted,mU,hy])];(exact next _ _ ⟨_,_,I,M.put O .undef⟩)
theorem Y.EC{ay:List bC}(hT:df P ay){K:cM->av->Prop}(I:tZ P B ay al ops ops.toList z (K .normal)):Y W (.region id ops false) z K :=
 ⟨λ_ _ _ M=>wp_region_list (Tw hT (λaA _ _ aW hK bK=>⟨.normal,aA,aW,rfl,hK,bK⟩) I M)⟩
theorem ah.H4{K:av->Prop}{c a b:Operand}{g:Bool}(hc:z.bb c=.bool g)(aS:g=true)(hK:K (z.put dst (z.bb a))):ah P B al z dst (.pick c a b) K :=
 .val λW w C x M type pos after=>by
  subst aS;have X:=cI M.tmps c;rw[hc]at X
  exact⟨_,w,C,z,_,by simp[execOp,X.hY,asBool],M,cI M.tmps a,hK⟩
theorem ah.ED{K:av->Prop}{c a b:Operand}{g:Bool}(hc:z.bb c=.bool g)(aS:g=false)(hK:K (z.put dst (z.bb b))):ah P B al z dst (.pick c a b) K :=
 .val λW w C x M type pos after=>by
  subst aS;have X:=cI M.tmps c;rw[hc]at X
  exact⟨_,w,C,z,_,by simp[execOp,X.hY,asBool],M,cI M.tmps b,hK⟩
variable{cP d0:IntKind}
theorem ah.ad9{K:av->Prop}{ay:List bC}(hT:df P ay){l c:Operand}{bJ n:Nat}{Q:D}{s:Nat}(ax:dC ay t=some ce)(b2:ce.kind=.slice bJ)(fr:dC ay bJ=some aH)(bn:aH.zero=some [Q])(en:Q.one=true)
  (aj:z.bb l=.int cP n) (hc:z.bb c=.int d0 n) (G:aH.bytes*n<=281474976710656) (ar:n<=9223372036854775807)
  (hK:∀b,K ((z.b_ s (some (.row (.slice (some ⟨b,0,none⟩) n n) (List.replicate n Q) 1 bJ))).put (some s) (.am (.slice (some ⟨b,0,none⟩) n n)))):ah P B al z (some s) (.makeSlice t l c) K :=
 .val λW w C a M type pos after=>by
  obtain⟨c5,rfl⟩:=hT.get ax;obtain⟨fp,rfl⟩:=hT.get fr;have o':=cI M.tmps l;rw[aj]at o'
  have sL:=cI M.tmps c;rw[hc]at sL
  obtain⟨e1,iH,nf,cZ⟩:=L6 c5 fp b2 w cP d0 n n (auW _) G ar bn
  have L7:∃ao,e1.cells=#[ao]:=by
   have h1:=(iH w C).1;generalize e1.cells=aD at h1⊢;obtain⟨l⟩:=aD
   match l,h1 with
   |[ao],_=>exact⟨ao,rfl⟩
  obtain⟨ao,au⟩:=L7;have eX:∀w C,bh w C Q ao:=λw C=>by have:=(iH w C).2 0 Q ao rfl (by rw[au];rfl);exact this
  have L8:=((eX w C).oA en).2;have hsz:aH.aB=1:=by rw[<-nf];rfl
  rw[au,hsz,axr]at cZ;refine⟨_,_,_,_,_,?_,M.newObj s (mN:=.row (.slice (some ⟨w.heap.size,0,none⟩) n n) (List.replicate n Q) 1 aH.t) (o:=.cells (madeCells #[ao] n) aH.t) ?_ ?_,.am _,hK _⟩
  ·simp only[execOp,o'.fC,sL.fC,Sem.run_bind,cZ,Result.andThen_ok,Sem.run_pure]
  ·have h1:∀x∈List.replicate n Q,x.cells=[x]:=λx J=>by rw[List.eq_of_mem_replicate J];exact D.oA en
   refine⟨_,n,by simp,by simp,by simp only[maxLen];omega,λx J=>by rw[h1 x J];rfl,λdT gR=>⟨_,by cases gR;rfl,ij (lV w _)⟩,λ_=>⟨w.heap.size,_,rfl,lV w _,by simp[size_madeCells],h2 _ _ _,λj d O=>?_⟩⟩;have dg:=L5 en n;rw[dg]at O;have ad:j<n:=by have:=fu O;simpa using this
   have BF:d=Q:=by simp[ad]at O;exact O.symm
   subst BF;refine⟨ao,?_,eX _ _,L8⟩;rw[<-awr,toList_madeCells_one];simp[ad]
  rintro b ⟨dK,cap,h,_⟩;exact pf h
theorem ah.yc(hT:df P ay)(s:Nat)(J:z.bb x=.am (h5 v (i*k)))(hs:z.H s=some (.row v xs k e))(ax:dC ay t=some ce)(hsz:ce.aB=k)
  (hi:i<xs.length) (EE:z.bb y=.agg aD) (hcs:aD.length=k) (en:aD.all D.one=true) (hK:K ((z.b_ s (some (.row v (xs.set i (.agg aD)) k e))).put dst .undef)):ah P B al z dst (.store t x y) K :=
 .unit λW w C a M type pos after=>by
  obtain⟨c5,rfl⟩:=hT.get ax;have X:=cI M.tmps x;rw[J]at X
  have hy:=cI M.tmps y;rw[EE]at hy;obtain⟨dm,x1,hZ⟩:=hy.tw;have h1:(a.eval y).cells.toList=dm:=by rw[x1];rfl
  have zS:dm.length=k:=by rw[<-hZ.1,hcs]
  have A:∀ao∈dm,ao.oneCell'=true:=λao au=>by
   obtain⟨j,ad⟩:=avd.1 au;have rK:=fu ad;obtain⟨d,O⟩:=lU (l:=aD) (i:=j) auD;exact((hZ.2 j d ao O ad).oA (avz.1 en d (au5 O))).2
  obtain⟨b,cap,vs,rfl,hc,hm,Z,G,gc,da,af⟩:=ks.pos (M.heap.cl s _ hs) hi;have dP:i*k+k<=cap*k:=by rw[<-awP];exact aww k (avx hi hc)
  have Hj:i*k+k<=xs.length*k:=by rw[<-awP];exact aww k hi
  have hv:i*k+0+dm.length<=vs.size:=by rw[zS,gc];omega
  have cZ:=run_storeCells_at P b (i*k) e dm 0 vs w G hv A;simp only[aw9]at cZ hv;have a1:=de.setRow (C:=C) (n:=0) G (aD:=(vs.toList.take (i*k)++dm++vs.toList.drop (i*k+dm.length)).toArray) auD (λo ag=>by omega);have fw:aJ.es (.row (.slice (some ⟨b,0,none⟩) xs.length cap) xs k e) b:=⟨_,cap,rfl,by omega⟩;have x3:=Hw Z hi (x:=.agg aD) hcs;have dg:=qx Z;refine⟨_,_,_,?_,M.b_ a1 (s:=s) (λx J=>azl) (λbp bN ey aZ dn au nV=>?_) λQ bn=>?_,hK⟩
  ·simp only[h5,avu]at X;have Bt:(a.eval y).cells.size=k:=by rw[<-awG,h1,zS]
   simp only[execOp,X.gh,Instr.storeAt,Instr.sureAddr,Sem.run_bind,Sem.run_pure,Result.andThen_ok,storeVar,c5.size,hsz,h1];rw[auN (by rw[Bt];simp)];exact(auP (λr=>Result.andThen r λ_ w'=>Result.ok Next.skip w') cZ).trans rfl
  ·subst nV;exact M.heap.inj bp s bN _ ey aZ dn hs au fw
  cases bn
  refine⟨⟨_,cap,by rw[awc],by simpa using hc,hm,λQ bn=>?_,λdT gR=>⟨b,by cases gR;rfl,by simpa using ij G⟩,λ_=>⟨b,_,rfl,setRow_heap w b _ _ e _ G,?_,h2 _ _ _,λm d O=>?_⟩⟩,λx J=>?_⟩
  ·rcases awS bn with bn|rfl
   ·exact Z Q bn
   exact hcs
  ·simp only[avN,auV,au9,avX,awG];omega
  ·rw[x3,rH _ _ _ (by rw[dg];show i*k+aD.length<=_;rw[hcs];exact Hj)]at O;rw[awH,rH _ _ _ (by simpa using hv)];have pq:(D.agg aD).cells.length=k:=hcs;rw[pq]at O
   have gs:m<xs.length*k:=by
    by_cases h:i*k<=m/\m<i*k+k/\m<(b4 xs).length
    ·rw[<-dg];exact h.2.2
    rw[auN h]at O;have:=fu O;omega
   by_cases h:i*k<=m/\m<i*k+k
   ·rw[auO ⟨h.1,h.2,by rw[dg];exact gs⟩]at O;have hu:aD[m-i*k]?=some d:=O;obtain⟨ao,au⟩:=lU (l:=dm) (i:=m-i*k) auD;rw[auO ⟨h.1,by omega,by simp;omega⟩];exact⟨ao,au,(hZ.2 _ _ _ hu au).ext a1.ext,A ao (au5 au)⟩
   rw[auN (λcA=>h ⟨cA.1,cA.2.1⟩)]at O;rw[auN (λcA=>h ⟨cA.1,by omega⟩)];obtain⟨ao,aa,aF,a8⟩:=af m d O;exact⟨ao,by simpa using aa,aF.ext a1.ext,a8⟩
  obtain⟨dK,iF,dU,_⟩:=J;simp only[Value.slice.injEq,avi,Addr.mk.injEq]at dU;obtain⟨⟨rfl,_⟩,_⟩:=dU;exact⟨M.heap.cQ s _ _ hs fw,.inl rfl⟩
theorem c8.sub{H:bH}{Q':D->bH->Prop}(h:c8 P B f ds H a6)(I:∀d aO,a6 d aO->∃vo,(∀j o,vo j=some o->aO j=some o)/\Q' d vo):c8 P B f ds H Q' :=
 ⟨h.1,λw C args Ft G qE hH kX=>(h.2 w C args Ft G qE hH kX).mono λcn w' ⟨v,d,aW,aO,aq,fO,af,a1,By⟩=>by
  obtain⟨vo,hs,ad_⟩:=I d aO fO
  exact⟨v,d,aW,vo,aq,ad_,af,a1,⟨λj o ag=>By.cl j o (hs j o ag),λj ez o bN x aZ h1 A=>By.inj j ez o bN x aZ (hs j o h1) (hs ez bN A),λj o x ag=>By.cQ j o x (hs j o ag)⟩⟩⟩
theorem ah.ad'(hT:df P ay){bJ:Nat}(q:Nat){d0:Nat}(ax:dC ay t=some ce)(b2:ce.kind=.slice bJ)(fr:dC ay bJ=some aH)
  (J:z.bb x=.am v) (hH:z.H q=some (.row v xs k e)) (hy:z.bb y=.T tg d0 bl) (h0:bl=[]) (hK:K (z.put dst (.am v))):ah P B al z dst (.call ⟨.builtin .append,#[x,y],#[t,t]⟩) K :=
 .val λW w C a M type pos after=>by
  subst h0;obtain⟨c5,rfl⟩:=hT.get ax;obtain⟨fp,rfl⟩:=hT.get fr;have au:=c5.j2 b2;obtain⟨i,hi,hsz,tI,oB⟩:=fp.pZ;have fY:=cI M.tmps x;rw[J]at fY
  have k1:=cI M.tmps y;rw[hy]at k1
  obtain⟨bv,cap,EF,hc,_⟩:=M.heap.cl q _ hH
  have hs:Src P i.size ce.t (a.eval y) 0 [] w:=by
   rcases k1.kt with⟨_,⟨a0,X⟩,_⟩|⟨b,o,iF,g,X,_⟩
   ·rw[X]
    cases a0 with
    |none=>exact Src.ofNil w au _
    |some dT=>exact Src.ofSlice w au dT 0 _ [] auF (λj ao h=>by simp at h) (λao h=>by simp at h)
   rw[X];exact Src.ofSlice w au _ 0 _ [] auF (λj ao h=>by simp at h) (λao h=>by simp at h)
  have cZ:=run_append_nothing (P:=P) w ce.t ce.t type aH.t i au hi bv xs.length cap hc (a.eval y) hs;rw[<-EF,<-fY.gh]at cZ;refine⟨a.eval x,w,C,z,_,?_,M,by rw[fY.gh];exact .am _,hK⟩;simp[execOp,resolve,invoke,builtin,cZ]
variable{bP:Array (Nat×Operand)}
theorem ah.MK(hT:df P ay){bJ n s q:Nat}(ax:dC ay t=some ce)(b2:ce.kind=.slice bJ)(fr:dC ay bJ=some aH)(aa:Nat.ble (n*aH.aB) 16777216=true)(aF:Nat.blt 0 aH.aB=true)(a8:aH.zero.isSome=true)
  (I:zt true z bP.toList λds=>ds.length=n/\tC aH.aB 0 ds/\∀b,K ((z.b_ q (some (.row (.slice (some ⟨b,0,none⟩) n n) (ds.map (·.2)) aH.aB bJ))).put (some s) (.am (.slice (some ⟨b,0,none⟩) n n)))):ah P B al z (some s) (.buildSlice t n bP) K :=
 .val λW w C a M type pos after=>by
  obtain⟨c5,rfl⟩:=hT.get ax;obtain⟨fp,rfl⟩:=hT.get fr;obtain⟨ds,⟨sF,dQ,hK⟩,tF,p3⟩:=DV I;have cN:=p3 rfl w C a.eval (λx J=>cI M.tmps x.2)
  obtain⟨dm,cZ,zS,Z,af⟩:=S1 (P:=P) c5 fp b2 a8 (avx (avt _) (avj aF)) (avj aa) sF dQ
   (w:=w) (C:=C) (vs:=(bP.map λ(i,x)=>(i,a.eval x)).toList) (by simp[tF]) (by simpa[axa]using cN)
  have aj:(ds.map (·.2)).length=n:=by simpa using sF
  have a1:=de.alloc (λ_=>False) w C (.cells dm.toArray aH.t) 0;refine⟨_,_,_,_,_,?_,M.newObj q (mN:=.row (.slice (some ⟨w.heap.size,0,none⟩) n n) (ds.map (·.2)) aH.aB aH.t) (o:=.cells dm.toArray aH.t) ?_ ?_,.am _,hK _⟩
  ·simp only[execOp];rw[Sem.run_bind,cZ];rfl
  ·refine⟨_,n,by rw[aj],by omega,?_,Z,λdT gR=>⟨_,by cases gR;rfl,ij (lV w _)⟩,λ_=>⟨w.heap.size,_,rfl,lV w _,by simpa using zS,h2 _ _ _,λj d O=>?_⟩⟩
   ·simp only[maxLen];have e2:=avj aa;have f1:n<=n*aH.aB:=axL n (avx (avt _) (avj aF));omega
   obtain⟨ao,e2,f1,hP⟩:=af j d O;exact⟨ao,by simpa using e2,f1.ext a1.ext,hP⟩
  rintro b ⟨dK,cap,h,_⟩;exact pf h
end Go.bV

namespace Go.bV
open Go Go.RowKit
variable{P:Program}{B:World}{al:Nat}{W:b5 P B al}{K:cM->av->Prop}{v:Value}{xs:List D}{k e:Nat}{hs:List (Nat×aJ)}{c:Code}
theorem Y.vp(s j:Nat){r:List (Nat×D)}(pi:aM hs s=none)(h:Y W c (ht ((j,.T .none k xs)::r) hs) K):Y W c (ht ((j,.am v)::r) ((s,.row v xs k e)::hs)) K:=by have pj:Nat.beq s s=true:=av9 s;refine Y.commit s (v:=v) (xs:=xs) (k:=k) (e:=e) (by simp only[ht,aM,pj,awo]) (ht ((j,.T .none k xs)::r) hs) (λw C af i ao hi=>?_) (λi o ag=>?_) h;simp only[ht,aM]at hi⊢;(cases G:Nat.beq i j with|true =>rw[G]at hi;simp only[awo,avG]at hi⊢;rw[hi.gh];exact af.jk|false=>rw[G]at hi;exact hi);refine .inr ⟨λe=>(by subst e;simp only[ht]at ag;rw[pi]at ag;cases ag),?_⟩;simp only[ht,aM]at ag⊢;cases G:Nat.beq i s with|true=>have:=avb G;subst this;rw[pi]at ag;cases ag|false=>simpa using ag
structure lw (a6:Prop):Prop where
 ck:a6
theorem sR{a b c:Prop}(h:a)(k:b):(a/\b)\/c:=.inl ⟨h,k⟩
variable{p:Prop}{z:av}{dst:Option Tmp}{op:Op}
theorem z1{K:av->Prop}(h:p):p\/ah P B al z dst op K:=.inl h
variable{args:Array Operand}{mM:Array TypeId}
theorem vq{f:Operand}{K:av->Prop}(h:p):p\/ah P B al z dst (.call ⟨.value f,args,mM⟩) K:=.inl h
def Tx:List Oper->Bool
 |[]=>true
 |o::r=>o.guard.isNone&&Tx r
def Ty:List Oper->Bool
 |[]=>true
 |o::r=>(match o.op with
  |.call c=>match c.callee with
   |.builtin _=>true
   |_=>false
  |_=>true)&&Ty r
variable{ops:Array Oper}{id:Nat}
theorem Y.aea{ay:List bC}(hT:df P ay)(hm:P.follows .mixedOrders=true)(gi:(Hr ops&&Ty ops.toList)=true)
  (I:jE P B ay al ops ops.toList z (K .normal)):Y W (.region id ops true) z K:=.tL hT hm (by rw[auQ]at gi;exact gi.1) I
theorem Y.Tz{ay:List bC}(hT:df P ay)(_:Tx ops.toList=true)(I:tZ P B ay al ops ops.toList z (K .normal)):Y W (.region id ops false) z K :=
 .EC hT I
theorem TA{K:av->Prop}(h:p):p\/ah P B al z dst (.alloc 164) K:=.inl h
variable{x:Operand}
theorem TB{t:TypeId}{K:av->Prop}(_:z.bb x=.am v)(h:p):p\/ah P B al z dst (.call ⟨.builtin .len,#[x],#[t]⟩) K:=.inl h
variable{α:Type}{i:Nat}
theorem z6{l:List α}{e:α->D}{Q:Int}(bn:Q=(i:Nat))(h:i<l.length):(l.map e)[Q.toNat]?=some (e l[i]):=by subst bn;simp[h]
inductive t1 (z:av):List Nat->List (Nat×D)->Prop
 |nil:t1 z [] []
 |cons {j:Nat} {d:D} {r:List Nat} {L:List (Nat×D)} (h:z.t j=d) (af:t1 z r L):t1 z (j::r) ((j,d)::L)
inductive yd (z:av):List Nat->List (Nat×aJ)->Prop
 |nil:yd z [] []
 |cons {j:Nat} {d:aJ} {r:List Nat} {L:List (Nat×aJ)} (h:z.H j=some d) (af:yd z r L):yd z (j::r) ((j,d)::L)
theorem t1.sub{hA:List Nat}{L:List (Nat×D)}(h:t1 z hA L):jD z L:=by induction h with|nil=>trivial|cons h af aV=>exact⟨.of_eq h,aV⟩
variable{d d':D}
theorem aeb(h:DM d λx=>x=d'):d=d':=(zo d (λx=>x=d')).1 h
variable{bl:List D}
theorem sS(h:xs=bl):some (aJ.row v xs k e)=some (aJ.row v bl k e):=by rw[h]
variable{b:Nat}
theorem ML{xs bl:List (D×D)}(h:xs=bl):some (aJ.mp b xs)=some (aJ.mp b bl):=by rw[h]
theorem aec(h:xs=bl):some (aJ.box b xs)=some (aJ.box b bl):=by rw[h]
end Go.bV
namespace Go.bV.ct
open Go Go.Proofs
variable{B:World}
theorem H5{k:IntKind}{a b:Int}(h:a=b):ap (.int k a) (.int k b):=.of_eq (by rw[h])
theorem TC{a b:Bool}(h:a=b):ap (.bool a) (.bool b):=.of_eq (by rw[h])
variable{p:Prop}
theorem t6(h:p:=by first|exact .refl _|exact ap.box|exact ap.nil|exact .any _|exact .jk _|exact .of_eq (by assumption)|exact H5 auD|exact H5 auE|exact TC (by assumption)):p:=h
theorem H6(h:p:=by first|exact rfl|exact sS (by assumption)|exact ML (by assumption)|exact aec (by assumption)):p:=h
variable{tg:iA}{k:Nat}{xs bl:List D}
theorem aed(h:xs=bl):ap (.T tg k xs) (.T .none k bl):=by rw[h];exact .jk _
theorem cX(h:p:=by
 repeat (first|exact trivial|(refine⟨t6,?_⟩)|(refine⟨rfl,H6,?_⟩)|(refine⟨?_,rfl,?_⟩))):p:=h
theorem ja(h:p:=by
 repeat (first|exact trivial|exact dO.refl _|(refine⟨t6,?_⟩))):p:=h
theorem ye(h:p:=by
 repeat (first|exact .nil|(refine' t1.cons (aeb ?_) ?_;rotate_left 2;· (conv=>whnf))|(refine' t1.cons rfl ?_;rotate_left 1)|(refine' yd.cons _ _;rotate_left 2;exact rfl))):p:=h
theorem dc{a6:Prop}(q:a6)(f:lw a6->p:=by
 intro hB
 repeat (first
  |(refine And.intro (show(_:Nat)=_ from by first|(with_reducible rfl)|(simp;done)|(simp;omega)) ?_;conv=>whnf)
  |(refine And.intro rfl ?_;conv=>whnf)
  |(refine And.intro trivial ?_;conv=>whnf)
  |(refine sR (λh=>ayY) ?_;conv=>whnf)
  |(refine sR (ayY) ?_;conv=>whnf)
  |(refine And.intro (show _<=_ from by first|omega|(simp only[auS,auX,avh,auV]at*;omega)) ?_;conv=>whnf)
  |(refine And.intro (show _≠none from λh=>by cases h) ?_;conv=>whnf)
  |(refine⟨_,λh=>z6 rfl auD,?_⟩;conv=>whnf)
  |(refine⟨_,λ_=>rfl,?_⟩;conv=>whnf)
  |(refine And.intro (λh=>h) ?_;conv=>whnf)
  |(refine And.intro (λh0 h=>ay_) ?_;conv=>whnf)
  |(refine And.intro (λh=>by first|omega|(simp at*;omega)) ?_;conv=>whnf)
  |((fail_if_success refine vq ?_);(fail_if_success refine TB rfl ?_);(fail_if_success refine TA ?_);refine z1 ?_;(conv=>whnf);(fail_if_success show False))
 )
 exact hB.ck):p:=f ⟨q⟩
theorem go{a6:Prop}(q:a6)(f:lw a6->p:=by
 intro hB
 repeat (first
  |(refine Y.seq ?_)
  |(refine Y.block ?_)
  |(refine Y.scope ?_)
  |(refine Y.skip ?_;conv=>whnf)
  |(refine Y.exit ?_;conv=>whnf)
  |(refine Y.ret ?_;conv=>whnf)
  |(refine Y.Tz aN (by rfl) ?_;conv=>whnf)
  |(refine Y.region aN ?_;conv=>whnf)
  |(refine Y.aea aN mixed auH ?_;(conv=>whnf);refine dc ?_;(fail_if_success show False))
  |(refine Y.cond false rfl auK (λ_=>?_))
  |(refine Y.cond true rfl (λ_=>?_) auK)
  |(refine And.intro (show(_:Nat)=_ from by first|(with_reducible rfl)|(simp;done)|(simp;omega)) ?_;conv=>whnf)
  |(refine And.intro rfl ?_;conv=>whnf)
  |(refine And.intro trivial ?_;conv=>whnf)
  |(refine sR (λh=>ayY) ?_;conv=>whnf)
  |(refine sR (ayY) ?_;conv=>whnf)
  |(refine And.intro (show _<=_ from by first|omega|(simp only[auS,auX,avh,auV]at*;omega)) ?_;conv=>whnf)
  |(refine And.intro (show _≠none from λh=>by cases h) ?_;conv=>whnf)
  |(refine⟨_,λh=>z6 rfl auD,?_⟩;conv=>whnf)
  |(refine⟨_,λ_=>rfl,?_⟩;conv=>whnf)
  |(refine And.intro (λh=>h) ?_;conv=>whnf)
  |(refine And.intro (λh0 h=>ay_) ?_;conv=>whnf)
  |(refine And.intro (λh=>by first|omega|(simp at*;omega)) ?_;conv=>whnf)
  |((fail_if_success refine vq ?_);(fail_if_success refine TB rfl ?_);(fail_if_success refine TA ?_);refine z1 ?_;(conv=>whnf);(fail_if_success show False))
 )
 exact hB.ck):p:=f ⟨q⟩
theorem bq{a6 C:Prop}(c:C)(q:a6)(f:C->lw a6->p:=by
 intro Sq hB
 first|(refine vq ?_;conv=>whnf)|skip
 refine⟨_,_,λ_=>Sq,ja,?_⟩
 (conv=>whnf)
 refine go ?_
 exact hB.ck):p:=f c ⟨q⟩
theorem fn{f:FuncId}{fn:Func}{body:Code}{al:Nat}{ds:List D}{d:D}(M:Tryz.prog.funcs[f]?=some fn)(p6:fn.ntmps=al)(h:∀W:b5 Tryz.prog B al,Y W body (entry ds bH.none) (LW ay fn.results.toList d))
  (G : fn.body = some body := by rfl) (ar : (fn.name == "runtime.NumGoroutine") = false := by decide +kernel) (aj : Nat.ble ds.length al = true := by rfl) : mH Tryz.prog B f ds d := mH.intro aN M G ar p6 aj h
variable{f:FuncId}{body:Code}{al:Nat}{ds:List D}{a6:D->bH->Prop}
theorem yf{fn:Func}{H:bH}(M:Tryz.prog.funcs[f]?=some fn)(p6:fn.ntmps=al)(h:∀W:b5 Tryz.prog B al,Y W body (entry ds H) (Ec ay fn.results.toList a6))
  (G : fn.body = some body := by rfl) (ar : (fn.name == "runtime.NumGoroutine") = false := by decide +kernel) (aj : Nat.ble ds.length al = true := by rfl) : c8 Tryz.prog B f ds H a6 := c8.intro aN M G ar p6 aj h
def l3:List nr->Nat
 |[]=>0
 |s::r=>2+s.name.length+s.target.length+l3 r
mutual
def aB:U->Nat
 |.mk _ _ c d _ _ _ _ _ _ ae ch=>2+c.length+d.length+l3 ch+eD ae
def eD:List U->Nat
 |[]=>0
 |n::r=>2*n.name.length+2+aB n+eD r
end
theorem j8(n:U):aB n=2+n.cU.length+n.target.length+l3 n.bD+eD n.F:=by cases n;simp only[aB]
theorem EG:∀{l:List U} {i:Nat} (h:i<l.length),2*(l[i]).name.length+2+aB l[i]<=eD l
 |n::r,0,_=>by simp only[awQ,eD];omega
 |n::r,i+1,h=>by have:=EG (l:=r) (i:=i) (by simpa using h);simp only[av8,eD];omega
theorem z7:∀(l:List U),2*l.length<=eD l
 |[]=>by simp[eD]
 |n::r=>by have:=z7 r;simp only[eD,auX];omega
theorem H7:∀{l:List nr} {i:Nat} (h:i<l.length),2+(l[i]).name.length+(l[i]).target.length<=l3 l
 |n::r,0,_=>by simp only[awQ,l3];omega
 |n::r,i+1,h=>by have:=H7 (l:=r) (i:=i) (by simpa using h);simp only[av8,l3];omega
theorem EH:∀(l:List nr),2*l.length<=l3 l
 |[]=>by simp[l3]
 |n::r=>by have:=EH r;simp only[l3,auX];omega
variable{i:Nat}
theorem qT{n:U}(h:i<n.F.length):2*(n.F[i]).name.length+2+aB n.F[i]+2+n.cU.length+n.target.length+l3 n.bD<=aB n:=by have:=EG h;have:=j8 n;omega
theorem vr(n:U):2*n.F.length+2<=aB n:=by have:=z7 n.F;have:=j8 n;omega
theorem rU{n:U}(h:i<n.F.length):(n.F.map enc)[i]?=some (az n.F[i]):=by rw[BO _ h,qK]
theorem lx{l:List U}(h:i<l.length):(l.map enc)[i]?=some (az l[i]):=by rw[BO _ h,qK]
def below(p n:auM)(l:Int):auM:=if l<=2 then n else p++[47]++n
theorem TD(p n:auM)(l:Int)(h:p.length+n.length<1000000000):aT B 192 [.N p,.N n,u l] (.N (below p n l)):=by refine bB Tryz.func192 Tryz.ntmps192 λW=>?_;refine go ?_;refine aI _ rfl ?_ ?_<;>intro hc;refine go ?_;exact ap.of_eq (auP D.N (by rw[below,auO (by simpa using hc)]));apply ci;refine cc ?_;refine pk ?_;refine mS ?_;exact ap.of_eq (auP D.N (by rw[below,auN (by simpa using hc)]))
theorem TE(p n:auM)(l:Int)(h:p.length+n.length<1000000000)(h1:1<=l):aT B 150 [.N p,.N n,u l] (.N (below p n (l+1))):=by refine bB Tryz.func150 Tryz.ntmps150 λW=>?_;refine go ?_;refine aI _ rfl ?_ ?_<;>intro hc;refine go ?_;exact ap.of_eq (auP D.N (by simp at hc;rw[below,auO auD]));apply ci;refine cc ?_;refine pk ?_;refine mS ?_;exact ap.of_eq (auP D.N (by simp at hc;rw[below,auN auD]))
theorem B3(p n:auM)(l:Int):(below p n l).length<=p.length+1+n.length:=by unfold below;split<;>simp<;>omega
structure EI (S:Type) where
 dj:S->aJ
 dt:S->aJ
variable{S:Type}
def EI.H(bL:EI S)(s:S):bH:=aM [(2000,bL.dj s),(2001,bL.dt s)]
theorem aee{x:Bool×S}(h:(!x.1)=true):x=(false,x.2):=by obtain⟨a,b⟩:=x;cases a<;>simp_all
theorem aef{x:Bool×S}(h:(!x.1)=false):x=(true,x.2):=by obtain⟨a,b⟩:=x;cases a<;>simp_all
section fJ
variable(f:U->auM->Int->S->Bool×S)
mutual
def fJ:U->auM->Int->S->Bool×S
 |.mk a b c d e qP g h i j ae ch,p,l,s =>
  match f (.mk a b c d e qP g h i j ae ch) p l s with
  |(false,bp)=>(false,bp)
  |(true,bp)=>kD ae p l bp
def kD:List U->auM->Int->S->Bool×S
 |[],_,_,s=>(true,s)
 |k::r,p,l,s =>
  match fJ k (below p k.name (l+1)) (l+1) s with
  |(false,bp)=>(false,bp)
  |(true,bp)=>kD r p l bp
end
theorem H8(n:U)(p:auM)(l:Int)(s:S):fJ f n p l s=match f n p l s with
  |(false,bp)=>(false,bp)
  |(true,bp)=>kD f n.F p l bp:=by cases n;simp only[fJ]
end fJ
theorem TF(bL:EI S)(f:U->auM->Int->S->Bool×S)(b6:Nat)(cs:List D)(DZ:∀n p l s,p.length+aB n+l.toNat+n.name.length<100000000->1<=l->c4 B b6 ([az n,.N p,u l]++cs) (bL.H s) λd aO=>d=.bool (f n p l s).1/\aO=bL.H (f n p l s).2):∀(bA:Nat) (n:U) (p:auM) (l:Int) (s:S),aB n<bA->p.length+aB n+l.toNat+n.name.length<100000000->1<=l->c4 B 125 [az n,.N p,u l,.fn (.func b6) [] cs] (bL.H s) λd aO=>d=.bool (fJ f n p l s).1/\aO=bL.H (fJ f n p l s).2:=by refine λbA=>Nat.rec (λn p l s h=>absurd h (av_ _)) (λbA aV n p l s hN G aj=>?_) bA;refine jI Tryz.func125 Tryz.ntmps125 λW=>?_;refine cc ?_;intro b;apply n0;refine Y.SG aN ?_;refine go ?_;refine x7 ?_;refine⟨_,[(2000,2000),(2001,2001)],_,DZ n p l s G aj,rfl,⟨E,E,E,?_⟩,?_⟩;exact dO.refl _;rintro d aO ⟨rfl,rfl⟩;refine p8 ?_;refine aI _ rfl ?_ ?_<;>intro hc;apply eh;(have cz:fJ f n p l s=(false,(f n p l s).2):=by rw[H8];cases M:f n p l s;rw[M]at hc;simp_all);refine lZ ?_;refine Y.gS [(8,.bool false)] [(2000,bL.dj (f n p l s).2),(2001,bL.dt (f n p l s).2)] [(2000,2000),(2001,2001)] ⟨an,rfl,a_⟩ ?_;refine go ?_;exact⟨_,E,by rw[cz];rfl,by rw[cz];rfl⟩;refine go ?_;(have cz:fJ f n p l s=kD f n.F p l (f n p l s).2:=by rw[H8];cases M:f n p l s;rw[M]at hc;simp_all);refine go ?_;refine Y.ee (α:={x:Nat×S // x.1<=n.F.length/\fJ f n p l s=kD f (n.F.drop x.1) p l x.2}) (λx=>[(1,.N p),(2,u l),(3,.fn (.func b6) [] cs),(18,.T .none 12 (n.F.map enc)),(19,u (n.F.map enc).length),(20,u x.1.1)]) (λx=>[(2000,bL.dj x.1.2),(2001,bL.dt x.1.2)]) (λx=>n.F.length-x.1.1) ⟨(0,(f n p l s).2),by omega,cz⟩ [(2000,2000),(2001,2001)] ⟨an,rfl,a_⟩ ?_;generalize dG:s=hC at*;rintro⟨⟨i,s⟩,hi,EJ⟩;dsimp only at hi EJ⊢;refine go ?_;refine aI _ rfl ?_ ?_<;>intro hc;refine eY ?_;(have n_:i<n.F.length:=by simpa using hc);have b2:=qT n_;have fg:=B3 p n.F[i].name (l+1);have eK:=vr n;have ly:=avL n_;refine vg ?_;refine⟨az n.F[i],λ_=>rU n_,?_⟩;refine go ?_;intro b;(conv=>whnf);refine dc ?_;apply eh;refine Y.SH aN 10 mixed auI ?_;refine go ?_;refine bq (TD p n.F[i].name (l+1) auD) ?_;refine x7 ?_;refine⟨_,[(2000,2000),(2001,2001)],_,aV n.F[i] (below p n.F[i].name (l+1)) (l+1) s auD auD auD,rfl,an,?_⟩;rintro d aO ⟨rfl,rfl⟩;refine p8 ?_;refine aI _ rfl ?_ ?_<;>intro hc;apply eh;have B4:fJ f n.F[i] (below p n.F[i].name (l+1)) (l+1) s=(false,(fJ f n.F[i] (below p n.F[i].name (l+1)) (l+1) s).2):=aee hc;(have z8:fJ f n p l hC=(false,(fJ f n.F[i] (below p n.F[i].name (l+1)) (l+1) s).2):=by rw[EJ,ly,kD,B4]);refine lZ ?_;refine Y.gS [(8,.bool false)] [(2000,bL.dj (fJ f n.F[i] (below p n.F[i].name (l+1)) (l+1) s).2),(2001,bL.dt (fJ f n.F[i] (below p n.F[i].name (l+1)) (l+1) s).2)] [(2000,2000),(2001,2001)] ⟨an,rfl,a_⟩ ?_;refine go ?_;exact⟨_,E,by rw[z8];rfl,by rw[z8];rfl⟩;refine go ?_;(have z8:fJ f n p l hC=kD f (n.F.drop (i+1)) p l (fJ f n.F[i] (below p n.F[i].name (l+1)) (l+1) s).2:=by rw[EJ,ly,kD,aef hc]);refine go ?_;exact⟨⟨(i+1,(fJ f n.F[i] (below p n.F[i].name (l+1)) (l+1) s).2),by omega,z8⟩,[(2000,2000),(2001,2001)],ay',an,rfl,a_⟩;refine Y.exit ?_;(have z8:fJ f n p l hC=(true,s):=by rw[EJ,aw5 (by simp at hc;omega),kD]);refine cc ?_;refine Y.gS [(8,.bool true)] [(2000,bL.dj s),(2001,bL.dt s)] [(2000,2000),(2001,2001)] ⟨an,rfl,a_⟩ ?_;refine go ?_;exact⟨_,E,by rw[z8];rfl,by rw[z8];rfl⟩
def wr(n:Int):Int:=IntKind.i64.wrap n
theorem aeg{n:Int}(h:-9223372036854775808<=n/\n<=9223372036854775807):wr n=n:=by unfold wr;rw[IntKind.wrap_i64];omega
theorem aeh(n m:Int):wr (wr n+m)=wr (n+m):=by unfold wr;simp only[IntKind.wrap_i64];omega
mutual
def fd:U->Nat
 |.mk _ _ _ _ _ _ _ _ _ _ ae _=>1+eQ ae
def eQ:List U->Nat
 |[]=>0
 |n::r=>fd n+eQ r
end
theorem EK(n:U):fd n=1+eQ n.F:=by cases n;simp only[fd]
mutual
theorem B5:∀n:U,fd n<=aB n
 |.mk a b c d e f g h i j ae ch=>by have:=EL ae;simp only[fd,aB];omega
theorem EL:∀l:List U,eQ l<=eD l
 |[]=>by simp[eQ,eD]
 |n::r=>by have:=B5 n;have:=EL r;simp only[eQ,eD];omega
end
def B6(_:U)(_:auM)(_:Int)(s:Int):Bool×Int:=(true,wr (s+1))
mutual
theorem TG:∀(n:U) (p:auM) (l:Int) (s:Int),fJ B6 n p l s=(true,wr (s+fd n))
 |.mk a b c d e f g h i j ae ch,p,l,s=>by
  simp only[fJ,B6,fd];rw[TH ae p l (s+1)];congr 2
  omega
theorem TH:∀(l:List U) (p:auM) (v:Int) (s:Int),kD B6 l p v (wr s)=(true,wr (s+eQ l))
 |[],p,v,s=>by simp only[kD,eQ];congr 2;omega
 |n::r,p,v,s=>by
  simp only[kD,eQ];rw[TG n _ _ (wr s),aeh];simp only;rw[TH r];congr 2
  omega
end
def MM(b:Nat):EI Int:=⟨λs=>.box b [u s],λ_=>BI⟩
theorem aei(d_:Nat)(n:U)(p:auM)(l:Int)(s:Int):c4 B 191 ([az n,.N p,u l]++[.box 2000 d_ 0]) ((MM d_).H s) λd aO=>d=.bool (B6 n p l s).1/\aO=(MM d_).H (B6 n p l s).2:=by refine jI Tryz.func191 Tryz.ntmps191 λW=>?_;refine cc ?_;intro b;refine kB ?_;refine .inr ?_;apply cj;refine cc ?_;refine Y.gS [(7,.bool true)] [(2000,.box d_ [u (wr (s+1))]),(2001,BI)] [(2000,2000),(2001,2001)] ⟨an,rfl,a_⟩ ?_;exact azr
theorem aej(n:U)(h:aB n+n.name.length<10000000):aT B 124 [az n] (u (fd n)):=by refine bB Tryz.func124 Tryz.ntmps124 λW=>?_;refine cc ?_;intro b;refine cc ?_;intro H9;refine ej ?_;refine Y.BI 2001 ?_;refine vd ?_;apply mj;refine ej ?_;refine .inr (ah.call rfl [az n,.N [],u 1,.fn (.func 191) [] [.box 2000 H9 0]] [(2000,3),(2001,2001)] (TF (MM H9) B6 191 [.box 2000 H9 0] (λn p l s _ _=>aei H9 n p l s) _ n [] 1 0 (avt _) auE auD) rfl ⟨E,E,E,ap.fn trivial ⟨ap.box,ak⟩,ak⟩ ?_);rintro d aO ⟨rfl,rfl⟩;refine⟨_,E,?_⟩;refine gK ?_;refine hz ?_;refine dx ?_;rw[TG];have:=B5 n;exact(aeg auD).trans auD
end Go.bV.ct


namespace Go.bV
open Go Go.RowKit
variable{P:Program}{B:World}{al:Nat}{z:av}{dst:Option Tmp}{K:av->Prop}{ay:List bC}{W:b5 P B al}{c:Code}{v:Value}{xs:List D}{k e:Nat}
theorem Y.B7{K:cM->av->Prop}(s:Nat)(hs:z.H s=some (.row v xs k e))
  (h:∀a cap,v=.slice a xs.length cap->xs.length<=cap->cap<=maxLen->Y W c z K):Y W c z K :=
 ⟨λa w C M=>by
  obtain⟨bv,cap,X,hc,hm,_⟩:=M.heap.cl s _ hs
  exact(h bv cap X hc hm).run a w C M⟩
theorem ap.uW{d:D}:ap .undef (.mb false d):=⟨λ_ _ _ h=>by rw[h.ach];exact .uW _⟩
variable{α:Type}
def H_(eC:α->Prop)(l:α->List (Nat×D))(hs:α->List (Nat×aJ))(fD:α->Nat)(x:α)(K:cM->av->Prop):cM->av->Prop
 |.normal,z=>∃bw m,eC bw/\fD bw<fD x/\nZ z (l bw) (hs bw) m
 |.exit id,z=>K (.exit id) z
 |.ret,z=>K .ret z
theorem Y.H_{W:b5 P B al}{z:av}{K:cM->av->Prop}{c:Code}{α:Type}{eC:α->Prop}(l:α->List (Nat×D))(hs:α->List (Nat×aJ))(fD:α->Nat)(eI:α)(i0:eC eI)(m:List (Nat×Nat))(h1:nZ z (l eI) (hs eI) m)
  (round:∀x,eC x->Y W c (ht (l x) (hs x)) (Go.bV.H_ eC l hs fD x K)):Y W (.loop c) z K :=
 Y.ee (α:={x // eC x}) (λx=>l x.1) (λx=>hs x.1) (λx=>fD x.1) ⟨eI,i0⟩ m h1 λx=>(round x.1 x.2).mono λe aA h=>by
  cases e with
  |normal=>obtain⟨bw,u_,h1,A,aa⟩:=h;exact⟨⟨bw,h1⟩,u_,A,aa⟩
  |exit id=>exact h
  |ret=>exact h
end Go.bV
namespace Go.bV.ct
open Go Go.Proofs
variable{B:World}{al id:Nat}{ops:Array Oper}{z:av}{K:cM->av->Prop}{α:Type}
theorem eU{W:b5 Tryz.prog B al}(dG:List (Nat×aJ))(eI:α)
  (R:α->List D) (d7:α->List (Nat×Nat×Option aJ)) (ai:List Nat) (S:List (Nat×Nat)) (step:Ev ai S z.t dG R d7 Tryz.prog B al ay ops ops.toList 0) (pm:∀x,K .normal (BW z.t dG R d7 ops x))
  (gi:(wT al ops.toList 0&&(BV ops.toList&&(BU ai ops.toList 0&&x' ai ops.size S)))=true:=by decide +kernel)
  (gU:∀x,mo (d7 x)=S:=by exact λ_=>rfl) (h0:mI z dG:=by repeat (first|exact trivial|refine⟨rfl,?_⟩)):Y W (.region id ops true) z K:=Y.adS aN mixed dG eI R d7 ai S gi gU h0 step pm
variable{p:Prop}
theorem dB{a6:Prop}(q:a6)(f:lw a6->p:=by
 intro hB
 (try conv=>whnf)
 repeat (first
  |(refine⟨λy => .inl ?_,?_⟩
    ·(conv=>whnf)
     repeat (first
      |exact .refl _
      |(refine And.intro rfl ?_;conv=>whnf)
      |(refine And.intro trivial ?_;conv=>whnf)
      |(refine sR (λh=>ayY) ?_;conv=>whnf)
      |(refine sR (ayY) ?_;conv=>whnf)
      |(refine⟨_,λh=>z6 rfl auD,?_⟩;conv=>whnf)
      |(refine⟨_,λ_=>rfl,?_⟩;conv=>whnf)
      |(refine And.intro (λh=>h) ?_;conv=>whnf)
      |(refine And.intro (λh=>by first|omega|(simp at*;omega)) ?_;conv=>whnf)
      |(refine⟨_,_,λ_=>by assumption,ja,?_⟩;conv=>whnf))
    (try conv=>whnf))
  |(refine⟨λy => ⟨_,_,rfl,rfl,.inl ⟨by assumption,.inl ?_⟩⟩,?_⟩
    ·(conv=>whnf)
     repeat (first
      |exact .refl _
      |(refine And.intro rfl ?_;conv=>whnf)
      |(refine And.intro trivial ?_;conv=>whnf)
      |(refine sR (λh=>ayY) ?_;conv=>whnf)
      |(refine sR (ayY) ?_;conv=>whnf)
      |(refine⟨_,λh=>z6 rfl auD,?_⟩;conv=>whnf)
      |(refine⟨_,λ_=>rfl,?_⟩;conv=>whnf)
      |(refine And.intro (λh=>h) ?_;conv=>whnf)
      |(refine And.intro (λh=>by first|omega|(simp at*;omega)) ?_;conv=>whnf)
      |(refine⟨_,_,λ_=>by assumption,ja,?_⟩;conv=>whnf))
    (try conv=>whnf))
  |(refine⟨λy => ⟨_,_,rfl,rfl,.inr (.inl ⟨by first|assumption|(show _ = false;assumption)|(show _ = true;assumption),rfl,?_⟩)⟩,?_⟩
    ·exact .refl _
    (try conv=>whnf))
  |(refine⟨λy => ⟨_,_,rfl,rfl,.inr (.inr ?_)⟩,?_⟩
    ·(conv=>whnf)
     repeat (first
      |exact .refl _
      |(refine And.intro rfl ?_;conv=>whnf)
      |(refine And.intro trivial ?_;conv=>whnf)
      |(refine sR (λh=>ayY) ?_;conv=>whnf)
      |(refine sR (ayY) ?_;conv=>whnf)
      |(refine⟨_,λh=>z6 rfl auD,?_⟩;conv=>whnf)
      |(refine⟨_,λ_=>rfl,?_⟩;conv=>whnf)
      |(refine And.intro (λh=>h) ?_;conv=>whnf)
      |(refine And.intro (λh=>by first|omega|(simp at*;omega)) ?_;conv=>whnf)
      |(refine⟨_,_,λ_=>by assumption,ja,?_⟩;conv=>whnf))
    (try conv=>whnf)))
 exact hB.ck):p:=f ⟨q⟩
variable{R:α->List D}{i:Nat}{dst:Option Tmp}{aA:av}
theorem ed{ai:List Nat}{S:List (Nat×Nat)}{dG:List (Nat×aJ)}{d7:α->List (Nat×Nat×Option aJ)}{x:α}(bw:α)
  (h1:sP ai i 0 (R bw)=sP ai i 0 (R x):=by exact rfl) (A:vm ai i (d7 bw)=vm ai i (d7 x):=by exact rfl) (aa:HS dst aA ((R bw).getD i .any):=by first|exact .refl _|exact trivial|exact t6) (aF:wU i aA (d7 bw):=by
   (conv=>whnf);repeat (first|exact trivial|(refine⟨H6,?_⟩;conv=>whnf))) (a8:ya S i aA (gT (aM dG) ai S (d7 x) i) (dG.map (·.1)++S.map (·.2)):=by
   (conv=>whnf);repeat (first|exact trivial|(refine And.intro rfl ?_;conv=>whnf))):jL ai S dG R d7 x i dst aA:=⟨bw,h1,A,aa,aF,a8⟩
theorem cB{ai:List Nat}{S:List (Nat × Nat)}{dG:List (Nat × aJ)}{d7:α->List (Nat × Nat × Option aJ)}(x : α)(aa : HS dst aA ((R x).getD i .any) := by first|exact .refl _|exact trivial|exact t6)(aF : wU i aA (d7 x) := by
      (conv=>whnf);repeat (first|exact trivial|(refine⟨H6,?_⟩;conv=>whnf))) (a8:ya S i aA (gT (aM dG) ai S (d7 x) i) (dG.map (·.1)++S.map (·.2)):=by
      (conv=>whnf);repeat (first|exact trivial|(refine And.intro rfl ?_;conv=>whnf))):jL ai S dG R d7 x i dst aA:=⟨x,rfl,rfl,aa,aF,a8⟩
variable{fK:Prop}
theorem bQ{a b c:α->Prop}{a6:Prop}(h:∀y,c y)(q:a6)(f:lw a6->fK:=by intro hB;refine dB ?_;exact hB.ck):(∀y,a y\/(b y\/c y))/\fK:=⟨λy=>.inr (.inr (h y)),f ⟨q⟩⟩
theorem B8{a b c:α->Prop}{a6:Prop}(h:∀y,b y)(q:a6)(f:lw a6->fK:=by intro hB;refine dB ?_;exact hB.ck):(∀y,a y\/(b y\/c y))/\fK:=⟨λy=>.inr (.inl (h y)),f ⟨q⟩⟩
theorem Em{a6:Prop}(q:a6)(f:lw a6->p:=by
 intro hB;refine⟨λy=>.inr (.inl ?_),?_⟩
 ·(conv=>whnf)
  intro k4;exact ed k4
 refine dB ?_
 exact hB.ck):p:=f ⟨q⟩
theorem vs{a6:Prop}(q:a6)(f:lw a6->p:=by
 intro hB;refine⟨λy=>.inr (.inl ?_),?_⟩
 ·(conv=>whnf)
  apply cj;exact cB y
 refine dB ?_
 exact hB.ck):p:=f ⟨q⟩
theorem dR{v yg a6:Prop}(c:yg->fK)(q:a6)(f:lw a6->yg:=by exact ay3):v\/fK:=.inr (c (f ⟨q⟩))
variable{v:Value}{j k:Nat}
theorem B9(h:i=j):ap (.am (h5 v (i*k))) (.am (h5 v (j*k))):=.of_eq (by rw[h])
theorem bJ{bL a6:Prop}{a b:α->Prop}(y:α)(h:a y)(q:a6)(f:lw a6->b y:=by exact ay3):∃y,(bL->a y)/\b y:=⟨y,λ_=>h,f ⟨q⟩⟩
theorem MN{bL bY C:Prop}{K a6:Value->Prop}(h1:bL)(A:bY)(q:∀v,a6 v)(aa:C:=by exact λh=>by cases h)(f:∀v,lw (a6 v)->K v:=by intro v hB;(conv=>whnf);refine go ?_;exact hB.ck):bL/\bY/\C/\∀v,K v:=⟨h1,A,aa,λv=>f v ⟨q v⟩⟩
theorem yh{W:b5 Tryz.prog B al}{a6:Prop}(q:a6)(gi:Hr ops=true:=by decide +kernel)(f:lw a6->jE Tryz.prog B ay al ops ops.toList z (K .normal):=by exact ay3):Y W (.region id ops true) z K:=Y.tL aN mixed gi (f ⟨q⟩)
variable{c:Code}{cL:List (Nat×aJ)}
theorem hf{W:b5 Tryz.prog B al}(eC:α->Prop)(hA wE:List Nat)(l:α->List (Nat×D))(hs:α->List (Nat×aJ))(fD:α->Nat)(eI:α)(i0:eC eI)(m:List (Nat×Nat)){L:List (Nat×D)}
  (round:∀x,eC x->Y W c (ht (L++l x) (cL++hs x)) (H_ eC (λx=>L++l x) (λx=>cL++hs x) fD x K)) (aX:t1 z hA L:=by exact ye) (hO:yd z wE cL:=by exact ye)
  (h1:nZ z (L++l eI) (cL++hs eI) m:=by exact⟨cX,rfl,cX⟩):Y W (.loop c) z K:=Y.H_ (λx=>L++l x) (λx=>cL++hs x) (λx=>fD x) eI i0 m h1 round
variable{eC:α->Prop}{fD:α->Nat}
theorem fs{l:α->List (Nat×D)}{hs:α->List (Nat×aJ)}{x:α}(bw:α)(m:List (Nat×Nat))(g9:eC bw)(h1:fD bw<fD x:=by(try dsimp only);omega)(A:nZ z (l bw) (hs bw) m:=by exact⟨cX,rfl,cX⟩):
  ∃bw m,eC bw/\fD bw<fD x/\nZ z (l bw) (hs bw) m:=⟨bw,m,g9,h1,A⟩
def aek(eC:α->Prop)(l:α->List (Nat×D))(hs:α->List (Nat×aJ))(K:cM->av->Prop):cM->av->Prop
 |.normal,z=>∃x m,eC x/\nZ z (l x) (hs x) m
 |.exit id,z=>K (.exit id) z
 |.ret,z=>K .ret z
theorem nt{W:b5 Tryz.prog B al}{a b:Code}(eC:α->Prop)(hA wE:List Nat)(l:α->List (Nat×D))(hs:α->List (Nat×aJ)){L:List (Nat×D)}
  (h:Y W a z (aek eC (λx=>L++l x) (λx=>cL++hs x) K)) (bt:∀x,eC x->Y W b (ht (L++l x) (cL++hs x)) K) (aX:t1 z hA L:=by exact ye) (hO:yd z wE cL:=by exact ye):Y W a z (zm W b K) :=
 h.mono λe aA Z=>by
  cases e with
  |normal=>obtain⟨x,m,J,h1⟩:=Z;exact(bt x J).fc _ _ m h1
  |exit id=>exact Z
  |ret=>exact Z
theorem gL{l:α->List (Nat×D)}{hs:α->List (Nat×aJ)}(bw:α)(m:List (Nat×Nat))(g9:eC bw)(A:nZ z (l bw) (hs bw) m:=by exact⟨cX,rfl,cX⟩):∃bw m,eC bw/\nZ z (l bw) (hs bw) m:=⟨bw,m,g9,A⟩
theorem gV{W:b5 Tryz.prog B al}{c:Operand}{x y:Code}{t:Bool}{bL bY:Prop}(h1:t=true->bL)(A:t=false->bY)(hc:z.bb c=.bool t:=by exact rfl)(qP:lw bL->Y W x z K:=by exact azn)
  (zU:lw bY->Y W y z K:=by exact azn):Y W (.cond c x y) z K:=Y.cond t hc (λh=>qP ⟨h1 h⟩) λh=>zU ⟨A h⟩
theorem cb{W:b5 Tryz.prog B al}{c:Operand}{x y:Code}{t:Bool}(h1:t=true->Y W x z K)(A:t=false->Y W y z K)(hc:z.bb c=.bool t:=by exact rfl):Y W (.cond c x y) z K:=Y.cond t hc h1 A
theorem wX{W:b5 Tryz.prog B al}{c:Operand}{x y:Code}{t:Bool}{bL:Prop}(h:t=true)(q:bL)(hc:z.bb c=.bool t:=by exact rfl)(qP:lw bL->Y W x z K:=by exact azn):Y W (.cond c x y) z K:=Y.cond t hc (λ_=>qP ⟨q⟩) λbt=>by rw[h]at bt;cases bt
theorem H'{W:b5 Tryz.prog B al}{c:Operand}{x y:Code}{t:Bool}{bL:Prop}(h:t=false)(q:bL)(hc:z.bb c=.bool t:=by exact rfl)(qP:lw bL->Y W y z K:=by exact azn):Y W (.cond c x y) z K:=Y.cond t hc (λbt=>by rw[h]at bt;cases bt) λ_=>qP ⟨q⟩
variable{d:D}
theorem pr{l:List α}{e:α->D}{Q:Nat}(h:i<l.length)(O:e l[i]=d)(bn:Q=i:=by first|rfl|omega):(l.map e)[Q]?=some d:=by subst bn;simp[h,O]
end Go.bV.ct
namespace Go.bV
open Go Go.RowKit
variable{P:Program}{B:World}{al:Nat}{z:av}{dst:Option Tmp}{op:Op}{sA:av->Prop}
theorem ah.ael{K:av->Prop}(h:ah P B al z dst op sA)(Z:∀(W:b5 P B al) (w:World) (C:Nat->Nat) (a:Act) (aA:av),bI W w C aA a->sA aA->K aA):ah P B al z dst op K :=
 ⟨λW w C a M O type pos after a6=>Oper.wp_mono (λbv w' ⟨aA,aW,h1,A⟩=>⟨aA,aW,Z W w' aW bv aA A h1,A⟩) (h.run W w C a M O type pos after a6)⟩
variable{t:Nat}{x y:Operand}{v:Value}{xs:List D}{aP:auM}{ce aH:bC}
theorem ah.aem{ay:List bC}(hT:df P ay){d8 bJ s:Nat}(q:Nat){K:av->Prop}(ax:dC ay t=some ce)(b2:ce.kind=.slice bJ)(fr:dC ay bJ=some aH)(bn:aH.zero≠none)(h1:aH.aB=1)
  (qR:P.underlying d8=some .string) (J:z.bb x=.am v) (hH:z.H q=some (.row v xs 1 bJ)) (hy:z.bb y=.N aP) (mL:(xs.length+aP.length)*aH.bytes<=140737488355328) (nh:xs.length+aP.length<=9223372036854775807)
  (hK:∀a n cap,K (((z.b_ q none).b_ s (some (.row (.slice a n cap) (xs++aP.map λc=>D.int .u8 c.toNat) 1 bJ))).put (some s) (.am (.slice a n cap)))):ah P B al z (some s) (.call ⟨.builtin .append,#[x,y],#[t,d8]⟩) K :=
 ah.ael (sA:=λaA=>∃c',aA=((z.b_ q none).b_ s (some (.row c' (xs++aP.map λc=>D.int .u8 c.toNat) 1 bJ))).put (some s) (.am c')) (.ad0 hT q ax b2 fr bn h1 qR J hH hy mL nh λc'=>⟨c',rfl⟩) λW w C a aA M ⟨c',aq⟩=>by
  subst aq;have:=M.heap.cl s (.row c' (xs++aP.map λc=>D.int .u8 c.toNat) 1 bJ) (by rw[D1];exact rG ..);obtain⟨dT,cap,rfl,_⟩:=this;exact hK _ _ _
theorem Y.B0{W:b5 P B al}{z:av}{K:cM->av->Prop}{c:Code}(s q:Nat){o:aJ}(hs:z.H s=some o)(h:Y W c ((z.b_ s none).b_ q (some o)) K):Y W c z K:=⟨λa w C M=>h.run a w C (M.B0 hs)⟩
variable{args:Array Operand}{mM:Array TypeId}{b6:FuncId}{cs:List D}{hs:List (Nat×aJ)}
theorem ah.EM{K:av->Prop}{f:Operand}{first:List D}(M:z.bb f=.fn (.func b6) first cs)
  (g8:List D) (m:List (Nat×Nat)) {dn:List (Nat×aJ)} {he:D} (h:yb z.H m hs) (hc:c8 P B b6 g8 (aM hs) λd aO=>d=he/\aO=aM dn) (hm:j4 m=true) (dP:dO (first++args.toList.map z.bb++cs) g8)
  (hK:K (({t:=z.t,H:=qC z.H (aM dn) m}:av).put dst he)):ah P B al z dst (.call ⟨.value f,args,mM⟩) K :=
 ah.call M g8 m (c8.wW h hc) hm dP λd aO I=>by
  obtain⟨rfl,rfl⟩:=I;exact⟨_,.refl _,hK⟩
variable{α:Type}{eC:α->Prop}{dn:α->List (Nat×aJ)}{he:α->D}
theorem ah.yi{K:av->Prop}{f:Operand}{first:List D}(M:z.bb f=.fn (.func b6) first cs)
  (g8:List D) (m:List (Nat×Nat))      (h:yb z.H m hs) (hc:c8 P B b6 g8 (aM hs) λd aO=>∃x,eC x/\d=he x/\aO=aM (dn x)) (hm:j4 m=true) (dP:dO (first++args.toList.map z.bb++cs) g8)
  (hK:∀x,eC x->K (({t:=z.t,H:=qC z.H (aM (dn x)) m}:av).put dst (he x))):ah P B al z dst (.call ⟨.value f,args,mM⟩) K :=
 ah.call M g8 m (c8.wW h hc) hm dP λd aO I=>by
  obtain⟨x,J,rfl,rfl⟩:=I;exact⟨_,.refl _,hK x J⟩
variable{eO:Operand}{aD:List D}{Eg:IntKind}{qz:TypeInfo}{d:D}
theorem ah.aen{K:av->Prop}{bJ n:Nat}{i:Int}(au:P.underlying t=some (.array n bJ))(hi:P.info? bJ=some qz)(hsz:qz.size=1)(kU:wB P bJ=some false)
  (J:z.bb x=.agg aD) (pp:z.bb eO=.int Eg i) (h0:0<=i) (h1:i<n) (O:aD[i.toNat]?=some d) (hK:K (z.put dst d)):ah P B al z dst (.index t x eO) K :=
 .val λW w C a M type pos after=>by
  have bQ:=cI M.tmps x;rw[J]at bQ
  obtain⟨vs,fY,af⟩:=bQ.tw;have u2:=cI M.tmps eO;rw[pp]at u2
  have bg:i.toNat<vs.length:=by rw[<-af.1];exact fu O
  refine⟨vs[i.toNat],w,C,z,d,?_,M,af.2 _ _ _ O (auR bg),hK⟩;simp[execOp,Instr.index,asIntOf,fY,u2.fC,run_underlying au,h0,h1,zw hi,hsz,part,Hd kU,bg,Result.andThen]
end Go.bV
namespace Go.bV.ct
open Go Go.Proofs
variable{B:World}{p:Prop}
theorem rV(h:p:=by repeat (first|exact trivial|(refine⟨rfl,H6,?_⟩))):p:=h
variable{al:Nat}{z:av}{dst:Option Tmp}{args:Array Operand}{mM:Array TypeId}{b6:FuncId}{cs g8:List D}{hs:List (Nat×aJ)}{α:Type}{eC:α->Prop}{dn:α->List (Nat×aJ)}{he:α->D}
theorem ps{v:Prop}{K:av->Prop}{f:Operand}{first:List D}(m:List (Nat×Nat))
  (hc:c8 Tryz.prog B b6 g8 (aM hs) λd aO=>∃x,eC x/\d=he x/\aO=aM (dn x)) {a6:α->Prop} (q:∀x,eC x->a6 x) (M:z.bb f=.fn (.func b6) first cs:=by exact rfl) (h:yb z.H m hs:=by exact rV) (hm:j4 m=true:=by exact rfl) (dP:dO (first++args.toList.map z.bb++cs) g8:=by exact ja)
  (g:∀x,lw (a6 x)->K (({t:=z.t,H:=qC z.H (aM (dn x)) m}:av).put dst (he x)):=by intro x hB;(conv=>whnf);refine go ?_;exact hB.ck):v\/ah Tryz.prog B al z dst (.call ⟨.value f,args,mM⟩) K:=.inr (ah.yi M g8 m h hc hm dP λx J=>g x ⟨q x J⟩)
theorem mq{v a6:Prop}{K:av->Prop}{f:Operand}{first:List D}(m:List (Nat×Nat)){dn:List (Nat×aJ)}{he:D}
  (hc:c8 Tryz.prog B b6 g8 (aM hs) λd aO=>d=he/\aO=aM dn) (q:a6) (M:z.bb f=.fn (.func b6) first cs:=by exact rfl) (h:yb z.H m hs:=by exact rV) (hm:j4 m=true:=by exact rfl) (dP:dO (first++args.toList.map z.bb++cs) g8:=by exact ja)
  (g:lw a6->K (({t:=z.t,H:=qC z.H (aM dn) m}:av).put dst he):=by exact ay3):v\/ah Tryz.prog B al z dst (.call ⟨.value f,args,mM⟩) K:=.inr (ah.EM M g8 m h hc hm dP (g ⟨q⟩))
def yj(H:bH):List (Nat×aJ)->Prop
 |[]=>True
 |(k,o)::r=>H k=some o/\yj H r
theorem yj.get{H:bH}:∀{l:List (Nat×aJ)},yj H l->∀j o,aM l j=some o->H j=some o
 |[],_,_,_,h=>by cases h
 |(k,x)::r,h,j,o,ad=>by simp only[aM]at ad;cases G:Nat.beq j k with|true=>rw[G]at ad;have:=avb G;subst this;simp at ad;subst ad;exact h.1|false=>rw[G]at ad;exact yj.get h.2 j o ad
variable{f:FuncId}{body:Code}{ds:List D}
theorem kv{fn:Func}{H:bH}{he:D}{dn:List (Nat×aJ)}(M:Tryz.prog.funcs[f]?=some fn)(p6:fn.ntmps=al)(h:∀W:b5 Tryz.prog B al,Y W body (entry ds H) (Ec ay fn.results.toList λd aO=>d=he/\yj aO dn))
  (G : fn.body = some body := by exact rfl) (ar : (fn.name == "runtime.NumGoroutine") = false := by decide +kernel) (aj : Nat.ble ds.length al = true := by exact rfl) : c8 Tryz.prog B f ds H λd aO => d = he/\aO = aM dn :=
 c8.sub (yf M p6 h G ar aj) λd aO ⟨h1,A⟩=>⟨aM dn,λj o ad=>A.get j o ad,h1,rfl⟩
theorem EN{fn:Func}{H:bH}(M:Tryz.prog.funcs[f]?=some fn)(p6:fn.ntmps=al)(h:∀W:b5 Tryz.prog B al,Y W body (entry ds H) (Ec ay fn.results.toList λd aO=>∃x,eC x/\d=he x/\yj aO (dn x)))
  (G : fn.body = some body := by exact rfl) (ar : (fn.name == "runtime.NumGoroutine") = false := by decide +kernel) (aj : Nat.ble ds.length al = true := by exact rfl) : c8 Tryz.prog B f ds H λd aO => ∃x,eC x/\d = he x/\aO = aM (dn x) :=
 c8.sub (yf M p6 h G ar aj) λd aO ⟨x,h0,h1,A⟩=>⟨aM (dn x),λj o ad=>A.get j o ad,x,h0,h1,rfl⟩
theorem TI{p:List (Nat×D)->List (Nat×aJ)->Prop}(l:List (Nat×D))(hs:List (Nat×aJ))(m:List (Nat×Nat))(q:p l hs)(h:nZ z l hs m:=by exact⟨cX,rfl,cX⟩):∃l hs m,nZ z l hs m/\p l hs:=⟨l,hs,m,h,q⟩
end Go.bV.ct
namespace Go.bV
open Go Go.RowKit
variable{P:Program}{B:World}{al:Nat}
def lz(jM H:bH):bH:=λk=>match jM k with|some o=>some o|none=>H k
variable{W:b5 P B al}{c:Code}{z:av}{K:cM->av->Prop}
theorem Y.frame(vo jM:bH)(h1:∀k o,vo k=some o->z.H k=some o)(A:∀k o,jM k=some o->z.H k=some o)(O:∀k o bN,vo k=some o->jM k=some bN->False)
  (h:∀iL:b5 P B al,Y iL c {t:=z.t,H:=vo} λe aA=>K e {t:=aA.t,H:=lz jM aA.H}):Y W c z K :=
 ⟨λa w C M=>by
  let iL:b5 P B al:={w0:=w,C0:=C,Ft:=λb=>∃k x,vo k=some x/\x.es b,base:=M.base,low:=λb ⟨k,x,h,au⟩=>W.DG (M.heap.cQ k x b (h1 k x h) au)}
  have fZ:bI iL w C {t:=z.t,H:=vo} a:=⟨M.tmps,⟨λk x h=>M.heap.cl k x (h1 k x h),λs bp x y b ar g1 fI=>M.heap.inj s bp x y b ar (h1 s x g1) (h1 bp y fI),λk x b h au=>.inl ⟨k,x,h,au⟩⟩,M.size,M.defers,de.refl _ _ _⟩
  have Et:∀b,iL.pW b->W.pW b:=λb h=>by
   rcases h with⟨k,x,h,au⟩|h
   ·exact M.heap.cQ k x b (h1 k x h) au
   exact .inr (av6 M.step.ext.size h)
  have BT:∀k x b,jM k=some x->x.es b->b<w.heap.size/\¬iL.Ft b:=λk x b J au=>by
   refine⟨(M.heap.cl k x (A k x J)).lt au,λ⟨bE,bw,h,c0⟩=>?_⟩;have aZ:bE≠k:=λe=>by subst e;exact O bE bw x h J
   exact M.heap.inj bE k bw x b aZ (h1 bE bw h) (A k x J) c0 au
  refine wp_mono ((h iL).run a w C fZ) λe bv w' ⟨c9,aA,aW,aq,hK,bK⟩=>⟨c9,_,aW,aq,hK,?_⟩
  have Ia:∀{k x},lz jM aA.H k=some x->jM k=some x\/(jM k=none/\aA.H k=some x):=λ{k x} J=>by
   unfold lz at J
   cases Z:jM k with
   |some o=>rw[Z]at J;exact .inl J
   |none=>rw[Z]at J;exact .inr ⟨rfl,J⟩
  have apart:∀s x y b,jM s=some x->x.es b->∀bp,aA.H bp=some y->y.es b->False:=λs x y b ag au bp hy c0=>by
   have:=BT s x b ag au;rcases bK.heap.cQ bp y b hy c0 with h|h
   ·exact this.2 h
   have aa:=this.1;change w.heap.size<=b at h;omega
  refine⟨bK.tmps,⟨λk x J=>?_,λs bp x y b ar J hy au c0=>?_,λk x b J au=>?_⟩,bK.size,bK.defers,M.step.trans bK.step λb G zW=>?_⟩
  ·rcases Ia J with ag|⟨_,ag⟩
   ·exact(M.heap.cl k _ (A k _ ag)).iB bK.step.ext λb G=>by
     have:=BT k _ b ag G;exact bK.step.iB b this.1 this.2
   exact bK.heap.cl k x ag
  ·rcases Ia J with ag|⟨_,ag⟩<;>rcases Ia hy with po|⟨_,po⟩
   ·exact M.heap.inj s bp _ _ b ar (A s _ ag) (A bp _ po) au c0
   ·exact apart s x y b ag au bp po c0
   ·exact apart bp y x b po c0 s ag au
   exact bK.heap.inj s bp x y b ar ag po au c0
  ·rcases Ia J with ag|⟨_,ag⟩
   ·exact M.heap.cQ k _ b (A k _ ag) au
   exact Et b (bK.heap.cQ k x b ag au)
  rcases Et b (.inl zW)with h|h
  ·exact h
  omega⟩
theorem Y.aeo(H:bH)(ga:Nat->Nat)(hi:∀k bE o bN,H k=some o->H bE=some bN->ga k=ga bE->k=bE)(hH:∀k o,H k=some o->z.H (ga k)=some o)
  (h:Y W c {t:=z.t,H:=H} K):Y W c z K :=
 ⟨λa w C M=>h.run a w C ⟨M.tmps,⟨λs o ag=>M.heap.cl (ga s) o (hH s o ag),λs bp o bN b ar aa aF=>M.heap.inj (ga s) (ga bp) o bN b (λe=>ar (hi s bp o bN aa aF e)) (hH s o aa) (hH bp bN aF),
  λs o b ag=>M.heap.cQ (ga s) o b (hH s o ag)⟩,M.size,M.defers,M.step⟩⟩
def l4(H:bH)(gz:Nat):bH:=λk=>bif Nat.beq k gz then none else H k
def qa(H:bH):Prop:=∀k o,H k=some o->10000<=k
def sT:List (Nat×aJ)->Bool
 |[]=>true
 |(k,_)::r=>Nat.blt k 10000&&sT r
theorem vt:∀{aY:List (Nat×aJ)},sT aY=true->∀{k:Nat} {o:aJ},aM aY k=some o->k<10000
 |[],_,_,_,h=>by cases h
 |(i,x)::r,aj,k,o,h=>by simp only[sT,auQ]at aj;simp only[aM]at h;cases G:Nat.beq k i with|true=>have:=avb G;subst this;exact avj aj.1|false=>rw[G]at h;exact vt aj.2 h
def EO(l:List (Nat×D))(aY:List (Nat×aJ))(cx:bH):av:=rR l (cV aY cx)
variable{aY:List (Nat×aJ)}{cx:bH}{f2:aJ}
theorem Y.B_{l:List (Nat×D)}(q gz:Nat)(a1:sT aY=true)(cA:qa cx)(Z:cx gz=some f2)(I:aM aY q=none)(lA:q<10000)(h:∀iL:b5 P B al,Y iL c (ht l ((q,f2)::aY)) λe aA=>K e {t:=aA.t,H:=lz (l4 cx gz) aA.H}):Y W c (EO l aY cx) K:=by have jN:=cA gz f2 Z;refine Y.aeo (λk=>bif Nat.beq k q then some f2 else cV aY (l4 cx gz) k) (λk=>bif Nat.beq k q then gz else k) (λk bE o bN g1 fI e=>?_) (λk o ag=>?_) ?_;(have bg:∀k o,(bif Nat.beq k q then some f2 else cV aY (l4 cx gz) k)=some o->k≠gz:=λk o g e=>by subst e;have:Nat.beq k q=false:=awv auD;rw[this]at g;simp only[avZ,cV]at g;cases hs:aM aY k with|some x=>have:=vt a1 hs;omega|none=>rw[hs]at g;simp only[l4,av9,awo]at g;cases g);cases G:Nat.beq k q<;>cases sI:Nat.beq bE q<;>rw[G,sI]at e<;>simp only[awo,avZ]at e;exact e;exact absurd e (bg k o g1);exact absurd e.symm (bg bE bN fI);rw[avb G,avb sI];(cases G:Nat.beq k q with|true =>rw[G]at ag;simp only[awo]at ag⊢;cases ag;show cV aY cx gz=some f2;unfold cV;(cases hs:aM aY gz with|some x=>have:=vt a1 hs;omega|none=>exact Z)|false =>rw[G]at ag;simp only[avZ]at ag⊢;show cV aY cx k=some o;unfold cV at ag⊢;(cases hs:aM aY k with|some x=>rw[hs]at ag;exact ag|none =>rw[hs]at ag;simp only[l4]at ag;(cases g_:Nat.beq k gz with|true=>rw[g_]at ag;cases ag|false=>rw[g_]at ag;exact ag)));refine Y.frame (aM ((q,f2)::aY)) (l4 cx gz) (λk o ag=>?_) (λk o ag=>?_) (λk o bN g1 fI=>?_) h;simp only[aM]at ag;show(bif Nat.beq k q then some f2 else cV aY (l4 cx gz) k)=some o;(cases G:Nat.beq k q with|true=>rw[G]at ag;exact ag|false=>rw[G]at ag;simp only[avZ]at ag⊢;unfold cV;rw[ag]);(have aa:10000<=k:=by simp only[l4]at ag;cases g_:Nat.beq k gz with|true=>rw[g_]at ag;cases ag|false=>rw[g_]at ag;exact cA k o ag);show(bif Nat.beq k q then some f2 else cV aY (l4 cx gz) k)=some o;rw[awv (by omega:k≠q)];simp only[avZ,cV];(cases hs:aM aY k with|some x=>have:=vt a1 hs;omega|none=>exact ag);(have aa:10000<=k:=by simp only[l4]at fI;cases g_:Nat.beq k gz with|true=>rw[g_]at fI;cases fI|false=>rw[g_]at fI;exact cA k bN fI);simp only[aM]at g1;rw[awv (by omega:k≠q)]at g1;have:=vt a1 (show aM aY k=some o from g1);omega
theorem Y.qU{l:List (Nat×D)}(a1:sT aY=true)(cA:qa cx)(h:∀iL:b5 P B al,Y iL c (ht l aY) λe aA=>K e {t:=aA.t,H:=lz cx aA.H}):Y W c (EO l aY cx) K:=by refine Y.frame (aM aY) cx (λk o ag=>?_) (λk o ag=>?_) (λk o bN g1 fI=>?_) h;show cV aY cx k=some o;unfold cV;rw[ag];show cV aY cx k=some o;unfold cV;(cases hs:aM aY k with|some x=>have:=vt a1 hs;have:=cA k o ag;omega|none=>exact ag);have:=vt a1 g1;have:=cA k bN fI;omega
def yk(mW:Nat):List (Nat×Nat)->Bool
 |[]=>true
 |(_,s)::r=>Nat.blt s 10000&&(!Nat.beq s mW&&yk mW r)
theorem MO{mW:Nat}:∀{m:List (Nat×Nat)},yk mW m=true->∀{k s:Nat},(k,s)∈m->s<10000/\s≠mW
 |(i,x)::r,h,k,s,hm=>by simp only[yk,auQ]at h;rcases au8.1 hm with e|e;cases e;exact⟨avj h.1,λe=>by subst e;have:=h.2.1;simp at this⟩;exact MO h.2.2 e
theorem EP:∀{m:List (Nat×Nat)},j4 m=true->∀{k s:Nat},(k,s)∈m->aM m k=some s
 |(i,x)::r,h,k,s,hm=>by simp only[j4,auQ]at h;simp only[aM];rcases au8.1 hm with e|e;cases e;simp;have:=avz.1 h.1 (k,s) e;simp only[auQ]at this;(have A:Nat.beq k i=false:=by simpa using this.1);rw[A];exact EP h.2 e
variable{aA:av}
theorem fQ.wY{jM:bH}{l:List (Nat×D)}(m:List (Nat×Nat))(gz mW:Nat)(jN:10000<=gz)(EQ:mW<10000)(h1:jD aA l)(hm:j4 m=true)(gT:tO aA m aY)(a1:sT aY=true)(hx:yk mW m=true)(I:aA.H mW=some f2)(ER:qa jM)(O:∀k o,cx k=some o->10000<=k/\((k=gz/\o=f2)\/(k≠gz/\jM k=some o))):fQ {t:=aA.t,H:=lz jM aA.H} l (cV aY cx):=by(have Ib:∀k,k<10000->jM k=none:=λk Z=>by cases h:jM k with|none=>rfl|some o=>have:=ER k o h;omega);(have sU:∀{k o},cV aY cx k=some o->(k<10000/\∃s,(k,s)∈m/\aM m k=some s/\s<10000/\s≠mW/\aA.H s=some o)\/(10000<=k/\cx k=some o):=λ{k o} h=>by unfold cV at h;cases hs:aM aY k with|some x =>rw[hs]at h;cases h;obtain⟨s,hQ,ag⟩:=gT.aM k _ hs;have:=MO hx hQ;exact .inl ⟨vt a1 hs,s,hQ,EP hm hQ,this.1,this.2,ag⟩|none=>rw[hs]at h;exact .inr ⟨(O k o h).1,h⟩);(have ax:jD {t:=aA.t,H:=lz jM aA.H} l:=ayK);refine⟨ax,λk=>if k<10000 then(aM m k).getD k else if k=gz then mW else k,λk bE o bN g1 fI e=>?_,λk o g=>?_⟩;rcases sU g1 with⟨Z,s,hQ,aj,iJ,kz,_⟩|⟨Z,tG⟩<;>rcases sU fI with⟨fv,bp,MP,mF,aep,aeq,_⟩|⟨fv,aer⟩;simp only[Z,fv,avV,aj,mF,avG]at e;exact(wL hm k s bE bp hQ MP).2 e;simp only[Z,avV,aj,avG,auN (by omega:¬bE<10000)]at e;split at e;exact absurd e kz;omega;simp only[fv,avV,mF,avG,auN (by omega:¬k<10000)]at e;split at e;exact absurd e.symm aeq;omega;simp only[auN (by omega:¬k<10000),auN (by omega:¬bE<10000)]at e;split at e<;>split at e<;>omega;rcases sU g with⟨Z,s,hQ,aj,iJ,_,ag⟩|⟨Z,tG⟩;simp only[Z,avV,aj,avG];show lz jM aA.H s=some o;unfold lz;rw[Ib s iJ];exact ag;simp only[auN (by omega:¬k<10000)];rcases(O k o tG).2 with⟨rfl,rfl⟩|⟨aZ,A⟩;rw[auO rfl];show lz jM aA.H mW=some o;unfold lz;rw[Ib mW EQ];exact I;rw[auN aZ];show lz jM aA.H k=some o;unfold lz;rw[A]
theorem fQ.pt{l:List (Nat×D)}(m:List (Nat×Nat))(h1:jD aA l)(hm:j4 m=true)(gT:tO aA m aY)(a1:sT aY=true)(hx:yk 10000 m=true)(cA:qa cx):fQ {t:=aA.t,H:=lz cx aA.H} l (cV aY cx):=by(have Ib:∀k,k<10000->cx k=none:=λk Z=>by cases h:cx k with|none=>rfl|some o=>have:=cA k o h;omega);(have sU:∀{k o},cV aY cx k=some o->(k<10000/\∃s,(k,s)∈m/\aM m k=some s/\s<10000/\aA.H s=some o)\/(10000<=k/\cx k=some o):=λ{k o} h=>by unfold cV at h;cases hs:aM aY k with|some x =>rw[hs]at h;cases h;obtain⟨s,hQ,ag⟩:=gT.aM k _ hs;have:=MO hx hQ;exact .inl ⟨vt a1 hs,s,hQ,EP hm hQ,this.1,ag⟩|none=>rw[hs]at h;exact .inr ⟨cA k o h,h⟩);(have ax:jD {t:=aA.t,H:=lz cx aA.H} l:=ayK);refine⟨ax,λk=>if k<10000 then(aM m k).getD k else k,λk bE o bN g1 fI e=>?_,λk o g=>?_⟩;rcases sU g1 with⟨Z,s,hQ,aj,iJ,_⟩|⟨Z,tG⟩<;>rcases sU fI with⟨fv,bp,MP,mF,aep,_⟩|⟨fv,aer⟩;simp only[Z,fv,avV,aj,mF,avG]at e;exact(wL hm k s bE bp hQ MP).2 e;simp only[Z,avV,aj,avG,auN (by omega:¬bE<10000)]at e;omega;simp only[fv,avV,mF,avG,auN (by omega:¬k<10000)]at e;omega;simp only[auN (by omega:¬k<10000),auN (by omega:¬bE<10000)]at e;exact e;rcases sU g with⟨Z,s,hQ,aj,iJ,ag⟩|⟨Z,tG⟩;simp only[Z,avV,aj,avG];show lz cx aA.H s=some o;unfold lz;rw[Ib s iJ];exact ag;simp only[auN (by omega:¬k<10000)];show lz cx aA.H k=some o;unfold lz;rw[tG]
variable{α:Type}
def Ic(eC:α->Prop)(l:α->List (Nat×D))(aY:α->List (Nat×aJ))(cx:α->bH)(fD:α->Nat)(x:α)(K:cM->av->Prop):cM->av->Prop
 |.normal,z=>∃bw,eC bw/\fD bw<fD x/\fQ z (l bw) (cV (aY bw) (cx bw))
 |.exit id,z=>K (.exit id) z
 |.ret,z=>K .ret z
theorem Y.Ic{W:b5 P B al}{z:av}{K:cM->av->Prop}{c:Code}{α:Type}{eC:α->Prop}(l:α->List (Nat×D))(aY:α->List (Nat×aJ))(cx:α->bH)(fD:α->Nat)(eI:α)(i0:eC eI)(h1:fQ z (l eI) (cV (aY eI) (cx eI)))
  (round:∀x,eC x->Y W c (EO (l x) (aY x) (cx x)) (Go.bV.Ic eC l aY cx fD x K)):Y W (.loop c) z K :=
 Y.HL (α:={x // eC x}) (λx=>l x.1) (λx=>cV (aY x.1) (cx x.1)) (λx=>fD x.1) ⟨eI,i0⟩ h1 λx=>(round x.1 x.2).mono λe aA h=>by
  cases e with
  |normal=>obtain⟨bw,h1,A,aa⟩:=h;exact⟨⟨bw,h1⟩,A,aa⟩
  |exit id=>exact h
  |ret=>exact h
variable{m:List (Nat×Nat)}
theorem fQ.aes{l:List (Nat×D)}(h:nZ z l aY m):fQ z l (cV aY λ_=>none):=by refine⟨h.t,λk=>(aM m k).getD k,λk bE o bN g1 fI e=>?_,λk o g=>?_⟩;(have sU:∀{k o},cV aY (λ_=>none) k=some o->∃s,(k,s)∈m/\aM m k=some s:=λ{k o} bt=>by unfold cV at bt;cases hs:aM aY k with|some x=>obtain⟨s,hQ,_⟩:=h.h.aM k _ hs;exact⟨s,hQ,EP h.ok hQ⟩|none=>rw[hs]at bt;cases bt);obtain⟨s,h1,A⟩:=sU g1;obtain⟨bp,mX,yl⟩:=sU fI;simp only[A,yl,avG]at e;exact(wL h.ok k s bE bp h1 mX).2 e;unfold cV at g;cases hs:aM aY k with|some x =>rw[hs]at g;cases g;obtain⟨s,hQ,ag⟩:=h.h.aM k _ hs;simp only[EP h.ok hQ,avG];exact ag|none=>rw[hs]at g;cases g
end Go.bV
namespace Go.bV.ct
open Go Go.Proofs
variable{B:World}{al:Nat}{z:av}{K:cM->av->Prop}{c:Code}{b:Nat}{aD:List D}
theorem jb{W:b5 Tryz.prog B al}(s j k:Nat)(x:D)(h:Y W c {t:=λi=>_root_.cond (Nat.beq i j) (.a7 k [x] 0 0) (z.t i),H:=λi=>_root_.cond (Nat.beq i s) none (z.H i)} K)(ad:z.t j=.box s b 0:=by exact rfl)(hs:z.H s=some (.box b aD):=by exact rfl)(J:x.cells=aD:=by exact rfl)(Z:x.cells.length=k:=by exact rfl)(en:aD.all D.one=true:=by exact rfl):Y W c z K:=by subst Z;refine Y.BP s j x ad hs J en ?_;rw[<-J];exact h
variable{α:Type}{cL:List (Nat×aJ)}
theorem z_{W:b5 Tryz.prog B al}(eC:α->Prop)(hA wE:List Nat)(l:α->List (Nat×D))(aY:α->List (Nat×aJ))(cx:α->bH)(fD:α->Nat)(eI:α)(i0:eC eI){L:List (Nat×D)}
  (round:∀x,eC x->Y W c (EO (L++l x) (cL++aY x) (cx x)) (Ic eC (λx=>L++l x) (λx=>cL++aY x) cx fD x K)) (aX:t1 z hA L:=by exact ye) (hO:yd z wE cL:=by exact ye) (h1:fQ z (L++l eI) (cV (cL++aY eI) (cx eI))):Y W (.loop c) z K :=
 Y.Ic (λx=>L++l x) (λx=>cL++aY x) cx fD eI i0 h1 round
variable{eC:α->Prop}{fD:α->Nat}
theorem ym{l:α->List (Nat×D)}{aY:α->List (Nat×aJ)}{cx:α->bH}{x:α}(bw:α)(g9:eC bw)(A:fQ z (l bw) (cV (aY bw) (cx bw)))(h1:fD bw<fD x:=by(try dsimp only);omega):∃bw,eC bw/\fD bw<fD x/\fQ z (l bw) (cV (aY bw) (cx bw)):=⟨bw,g9,h1,A⟩
theorem wY{aA:av}{jM cx:bH}{l:List (Nat×D)}{aY:List (Nat×aJ)}(m:List (Nat×Nat))(gz mW:Nat){f2:aJ}(jN:10000<=gz)(ER:qa jM)(O:∀k o,cx k=some o->10000<=k/\((k=gz/\o=f2)\/(k≠gz/\jM k=some o)))(EQ:mW<10000:=by decide)(I:aA.H mW=some f2:=by exact rfl)(h1:jD aA l:=by exact cX)(hm:j4 m=true:=by exact rfl)(gT:tO aA m aY:=by exact cX)(a1:sT aY=true:=by exact rfl)(hx:yk mW m=true:=by exact rfl):
  fQ {t:=aA.t,H:=lz jM aA.H} l (cV aY cx):=fQ.wY m gz mW jN EQ h1 hm gT a1 hx I ER O
theorem pt{aA:av}{cx:bH}{l:List (Nat×D)}{aY:List (Nat×aJ)}(m:List (Nat×Nat))(cA:qa cx)(h1:jD aA l:=by exact cX)(hm:j4 m=true:=by exact rfl)(gT:tO aA m aY:=by exact cX)(a1:sT aY=true:=by exact rfl)(hx:yk 10000 m=true:=by exact rfl):
  fQ {t:=aA.t,H:=lz cx aA.H} l (cV aY cx):=fQ.pt m h1 hm gT a1 hx cA
end Go.bV.ct
namespace Go.bV
open Go Go.RowKit Go.MapKept
variable{P:Program}{B:World}{al:Nat}{z:av}{dst:Option Tmp}{K:av->Prop}{ay:List bC}
def mY:TypeDesc->D->Bool
 |.string,.N _=>true
 |.int k,.int bE _=>pX k bE
 |.bool,.bool _=>true
 |_,_=>false
def oL:D->D->Bool
 |.N a,.N b=>a==b
 |.int _ a,.int _ b=>a==b
 |.bool a,.bool b=>a==b
 |_,_=>false
def j9(cE:List (D×D))(k:D):Option D:=(cE.find? λx=>oL x.1 k).map (·.2)
def nu(cE:List (D×D))(k d:D):List (D×D) :=
 match j9 cE k with
 |some _=>cE.map λx=>if oL x.1 k then(x.1,d)else x
 |none=>cE++[(k,d)]
variable{c9:TypeDesc}
theorem ES{k:D}(h:mY c9 k=true):∃v,mG k=some v/\IsKey c9 v:=by unfold mY at h;split at h;exact⟨_,rfl,trivial⟩;exact⟨_,rfl,(Hc h).symm⟩;exact⟨_,rfl,trivial⟩;cases h
theorem TJ{k:D}(h:mY c9 k=true):(c9=.string/\∃s,k=.N s)\/(∃q n,c9=.int q/\k=.int q n)\/(c9=.bool/\∃b,k=.bool b):=by unfold mY at h;split at h;exact .inl ⟨rfl,_,rfl⟩;have:=Hc h;subst this;exact .inr (.inl ⟨_,_,rfl,rfl⟩);exact .inr (.inr ⟨rfl,_,rfl⟩);cases h
theorem B'{k bE:D}(h:mY c9 k=true)(bt:mY c9 bE=true):oL k bE=true↔mG k=mG bE:=by(rcases TJ h with⟨rfl,s,rfl⟩|⟨q,n,rfl,rfl⟩|⟨rfl,s,rfl⟩<;>rcases TJ bt with⟨e,bp,rfl⟩|⟨pa,dK,e,rfl⟩|⟨e,bp,rfl⟩<;>first|(cases e;done)|skip);simp[oL,mG];cases e;simp[oL,mG];simp[oL,mG]
variable{w:World}{C:Nat->Nat}{v ao:Value}
theorem MQ{k:D}(h:mG k=some ao)(af:bh w C k v):v=ao:=by(cases k<;>simp only[mG]at h<;>first|(cases h;done)|(simp only[avi]at h;subst h));exact af.hY;exact af.fC;exact af.kS
variable{cE:List (D×D)}{d:D}
theorem TK{k:D}(h:j9 cE k=some d):∃(i:Nat) (bE:D),cE[i]?=some (bE,d)/\oL bE k=true:=by unfold j9 at h;cases M:cE.find? λx=>oL x.1 k with|none=>rw[M]at h;cases h|some x =>rw[M]at h;cases h;obtain⟨i,hi⟩:=avd.1 (axb M);have:=ax7 M;exact⟨i,x.1,hi,this⟩
theorem TL{k:D}(h:j9 cE k=none):∀x∈cE,oL x.1 k=false:=by unfold j9 at h;rw[axP,awn]at h;intro x J;simpa using h x J
variable{b:Nat}
theorem Bi.find{k:D}{ed:Value}(Z:mY c9 k=true)(lB:mG k=some ed)(b2:∀x∈cE,mY c9 x.1=true)(h:Bi w C b cE):∃eN iX,w.heap[b]?=some (.map eN iX)/\C b=0/\eN.size=cE.length/\(∀(i:Nat) k d e,cE[i]?=some (k,d)->eN[i]?=some e->mG k=some e.key/\bh w C d e.val)/\(∀(i j:Nat) k bE d d',cE[i]?=some (k,d)->cE[j]?=some (bE,d')->mG k=mG bE->i=j)/\((j9 cE k=none/\Instr.findNow c9 ed eN.toList 0=some none)\/∃j bE d e,j9 cE k=some d/\cE[j]?=some (bE,d)/\mG bE=some ed/\eN[j]?=some e/\e.key=ed/\Instr.findNow c9 ed eN.toList 0=some (some (j,e.val))/\bh w C d e.val):=by obtain⟨eN,iX,G,da,aj,ar,af⟩:=h;refine⟨eN,iX,G,da,aj,af,ar,?_⟩;(have n_:IsKey c9 ed:=by obtain⟨v,h1,A⟩:=ES Z;rw[lB]at h1;cases h1;exact A);(have hL:∀x∈eN.toList,IsKey c9 x.key:=λx J=>by obtain⟨i,hi⟩:=avd.1 J;rw[awr]at hi;(have bg:i<cE.length:=by rw[<-aj];exact(awt.1 hi).1);obtain⟨h1,_⟩:=af i cE[i].1 cE[i].2 x (by simp[bg]) hi;obtain⟨v,A,aa⟩:=ES (b2 cE[i] (auT bg));rw[h1]at A;cases A;exact aa);rcases findNow_spec n_ eN.toList 0 hL with⟨h1,A⟩|⟨j,e,h1,A,aa⟩;left;refine⟨?_,h1⟩;(cases aS:j9 cE k with|none=>rfl|some d =>exfalso;obtain⟨i,bE,hi,aq⟩:=TK aS;have bg:=(avk.1 hi).1;(have qb:eN[i]?=some eN[i]:=by simp[aj,bg]);obtain⟨aF,_⟩:=af i bE d _ hi qb;rw[B' (b2 _ (au5 hi)) Z,aF,lB]at aq;exact A _ auF (avB aq));right;rw[avu]at h1;(have MR:eN[j]?=some e:=by rw[<-awr];exact A);(have bg:j<cE.length:=by rw[<-aj];exact(awt.1 MR).1);(have ad:cE[j]?=some (cE[j].1,cE[j].2):=by simp[bg]);obtain⟨aF,a8⟩:=af j _ _ e ad MR;rw[aa]at aF;cases aS:j9 cE k with|none =>exfalso;have:=TL aS cE[j] (auT bg);rw[(B' (b2 _ (auT bg)) Z).2 (by rw[aF,lB])]at this;cases this|some d =>obtain⟨i,bE,hi,aq⟩:=TK aS;rw[B' (b2 _ (au5 hi)) Z,lB]at aq;have d6:=ar i j bE _ d _ hi ad (by rw[aq,aF]);subst d6;rw[hi]at ad;(have b0:d=cE[i].2:=by simpa using auP (λx=>(x.map Prod.snd)) ad);exact⟨i,bE,d,e,rfl,hi,aq,MR,aa,h1,by rw[b0];exact a8⟩
theorem ah.vu{t:TypeId}{s:Nat}(hK:∀b,K ((z.b_ s (some (.mp b []))).put (some s) (.am (.map (some b))))):ah P B al z (some s) (.makeMap t none) K :=
 .val λW w C a M type pos after=>by
  refine⟨.map (some w.heap.size),_,_,_,_,?_,M.newObj s (mN:=.mp w.heap.size []) (o:=.map #[] 0) ⟨#[],0,lV w _,h2 _ _ _,rfl,λi j k bE d d' h=>by simp at h,λi k d e h=>by simp at h⟩ (λb G=>G),.am _,hK _⟩;simp[execOp,Instr.makeMap,Result.andThen]
variable{em eB:TypeId}{x:Operand}{ok:Bool}
theorem ah.Id{t:TypeId}{m:Operand}(s:Nat){k:D}(hm:P.underlying t=some (.map em eB))(O:P.underlying em=some c9)
  (J:z.bb m=.am (.map (some b))) (hs:z.H s=some (.mp b cE)) (I:z.bb x=k) (Z:mY c9 k=true) (b2:∀x∈cE,mY c9 x.1=true) (aS:j9 cE k=some d)
  (hK:K (z.put dst (if ok then .bm [d,.bool true]else d))):ah P B al z dst (.lookup t m x ok) K :=
 .val λW w C a M type pos after=>by
  have oH:=cI M.tmps m;rw[J]at oH
  have fY:=cI M.tmps x;rw[I]at fY
  obtain⟨ed,lB,n_⟩:=ES Z;have Ca:=MQ lB fY;obtain⟨eN,iX,G,da,aj,af,ar,hc⟩:=Bi.find Z lB b2 (M.heap.cl s _ hs);rcases hc with⟨h1,_⟩|⟨j,bE,d',e,h1,A,aa,aF,a8,cN,e2⟩
  ·rw[aS]at h1;cases h1
  rw[aS]at h1;cases h1
  refine⟨if ok then .tuple #[e.val,.bool true]else e.val,w,C,z,_,?_,M,?_,hK⟩
  ·simp only[execOp,oH.gh,Ca,Instr.lookup,Sem.run_bind,run_underlying hm,Result.andThen,Go.MapKept.run_getObj_map G,Sem.run_pure,run_checkKey O n_,run_findKey O cN]
  cases ok with
  |true=>exact .bm [d,.bool true] [e.val,.bool true] rfl (λi q v I X=>by
    match i,I,X with
    |0,I,X=>simp at I X;subst I;subst X;exact e2
    |1,I,X=>simp at I X;subst I;subst X;exact .bool _
    |n+2,I,X=>simp at I)
  |false=>exact e2
variable{e1:Value}
theorem ah.MS{t:TypeId}{m:Operand}(s:Nat){k Q:D}(hm:P.underlying t=some (.map em eB))(O:P.underlying em=some c9)
  (J:z.bb m=.am (.map (some b))) (hs:z.H s=some (.mp b cE)) (I:z.bb x=k) (Z:mY c9 k=true) (b2:∀x∈cE,mY c9 x.1=true) (aS:j9 cE k=none)
  (bn:∀w,(zeroValue eB).run P w=.ok e1 w) (iH:∀w C,bh w C Q e1)
  (hK:K (z.put dst (if ok then .bm [Q,.bool false]else Q))):ah P B al z dst (.lookup t m x ok) K :=
 .val λW w C a M type pos after=>by
  have oH:=cI M.tmps m;rw[J]at oH
  have fY:=cI M.tmps x;rw[I]at fY
  obtain⟨ed,lB,n_⟩:=ES Z;have Ca:=MQ lB fY;obtain⟨eN,iX,G,da,aj,af,ar,hc⟩:=Bi.find Z lB b2 (M.heap.cl s _ hs);rcases hc with⟨_,cN⟩|⟨j,bE,d',e,h1,_⟩
  ·refine⟨if ok then .tuple #[e1,.bool false]else e1,w,C,z,_,?_,M,?_,hK⟩
   ·simp only[execOp,oH.gh,Ca,Instr.lookup,Sem.run_bind,run_underlying hm,Result.andThen,Go.MapKept.run_getObj_map G,Sem.run_pure,run_checkKey O n_,run_findKey O cN,bn]
   cases ok with
   |true=>exact .bm [Q,.bool false] [e1,.bool false] rfl (λi q v I X=>by
     match i,I,X with
     |0,I,X=>simp at I X;subst I;subst X;exact iH _ _
     |1,I,X=>simp at I X;subst I;subst X;exact .bool _
     |n+2,I,X=>simp at I)
   |false=>exact iH _ _
  rw[aS]at h1;cases h1
variable{y:Operand}
theorem ah.z'{t:TypeId}{m:Operand}(s:Nat){k:D}(hm:P.underlying t=some (.map em eB))(O:P.underlying em=some c9)
  (J:z.bb m=.am (.map (some b))) (hs:z.H s=some (.mp b cE)) (I:z.bb x=k) (Z:mY c9 k=true) (b2:∀x∈cE,mY c9 x.1=true)
  (hK:K ((z.b_ s (some (.mp b (nu cE k (z.bb y))))).put dst .undef)):ah P B al z dst (.mapUpdate t m x y) K :=
 .unit λW w C a M type pos after=>by
  have oH:=cI M.tmps m;rw[J]at oH
  have fY:=cI M.tmps x;rw[I]at fY
  have k1:=cI M.tmps y;obtain⟨ed,lB,n_⟩:=ES Z;have Ca:=MQ lB fY;obtain⟨eN,iX,G,da,aj,af,ar,hc⟩:=Bi.find Z lB b2 (M.heap.cl s _ hs);have fw:aJ.es (.mp b cE) b:=rfl
  have oE:∀oI u',(∀w',nQ w C w' C->∃Ie ET,Obj.map oI u'=Obj.map Ie ET/\Ie.size=(nu cE k (z.bb y)).length/\(∀(i j:Nat) cP d0 d d',(nu cE k (z.bb y))[i]?=some (cP,d)->(nu cE k (z.bb y))[j]?=some (d0,d')->mG cP=mG d0->i=j)/\
    ∀(i:Nat) cP d e,(nu cE k (z.bb y))[i]?=some (cP,d)->Ie[i]?=some e->mG cP=some e.key/\bh w' C d e.val)->
    bI W {w with heap:=w.heap.setIfInBounds b (.map oI u')} C (z.b_ s (some (.mp b (nu cE k (z.bb y))))) a:=λoI u' h1=>by
   have a1:=de.Hx (bN:=.map oI u') G da;refine M.b_ a1 (s:=s) (λx J=>azl) (λbp bN ey aZ dn au nV=>?_) λQ bn=>?_
   ·subst nV;exact M.heap.inj bp s bN _ ey aZ dn hs au fw
   cases bn
   obtain⟨Ie,ET,bZ,A,aa,aF⟩:=h1 _ a1.ext;cases bZ
   exact⟨⟨oI,u',(heap_set G).1,da,A,aa,aF⟩,λx J=>⟨by cases J;exact M.heap.cQ s _ _ hs fw,.inl J⟩⟩
  rcases hc with⟨h1,cN⟩|⟨j,bE,d',e,h1,A,aa,aF,a8,cN,e2⟩
  ·have hQ:nu cE k (z.bb y)=cE++[(k,z.bb y)]:=by rw[nu,h1]
   refine⟨_,C,_,?_,oE (eN.push ⟨ed,a.eval y,iX⟩) (iX+1) (λw' aq=>⟨_,_,rfl,?_,?_,?_⟩),hK⟩
   ·simp only[execOp,oH.gh,Ca,Instr.mapUpdate,Sem.run_bind,run_underlying hm,Result.andThen,Go.MapKept.run_getObj_map G,Sem.run_pure,run_checkKey O n_,run_findKey O cN,run_setObj_map _ G]
   ·rw[hQ];simp[aj]
   ·rw[hQ];intro i g9 cP d0 d d' hi ls sV
    have Hy:∀(i:Nat) cP d,cE[i]?=some (cP,d)->mG cP≠some ed:=λi cP d hi e=>by
     have:=TL h1 _ (au5 hi);rw[(B' (b2 _ (au5 hi)) Z).2 (by rw[e,lB])]at this;cases this
    have split:∀(i:Nat) cP d,(cE++[(k,z.bb y)])[i]?=some (cP,d)->(i<cE.length/\cE[i]?=some (cP,d))\/(i=cE.length/\cP=k):=λi cP d hi=>by
     rcases au6 i cE.length with bg|jl
     ·rw[au3 bg]at hi;exact .inl ⟨bg,hi⟩
     rw[avl jl]at hi
     have:i-cE.length=0:=by
      rcases avA (i-cE.length)with h|h
      ·exact h
      rw[au0 auE]at hi;cases hi
     rw[this]at hi;simp at hi;exact .inr ⟨by omega,hi.1.symm⟩
    rcases split i cP d hi with⟨f1,hP⟩|⟨f1,hP⟩<;>rcases split g9 d0 d' ls with⟨sQ,rS⟩|⟨sQ,rS⟩
    ·exact ar i g9 cP d0 d d' hP rS sV
    ·exact absurd (by rw[sV,rS,lB]) (Hy i cP d hP)
    ·exact absurd (by rw[<-sV,hP,lB]) (Hy g9 d0 d' rS)
    omega
   rw[hQ];intro i cP d e hi pb;rcases au6 i cE.length with bg|jl
   ·rw[au3 bg]at hi;rw[Array.getElem?_push,auN auD]at pb;exact⟨(af i cP d e hi pb).1,(af i cP d e hi pb).2.ext aq⟩
   rw[avl jl]at hi
   have kE:i-cE.length=0:=by
    rcases avA (i-cE.length)with h|h
    ·exact h
    rw[au0 auE]at hi;cases hi
   rw[kE]at hi;simp at hi;obtain⟨rfl,rfl⟩:=hi;rw[Array.getElem?_push,auO auD]at pb;cases pb
   exact⟨lB,k1.ext aq⟩
  have hQ:nu cE k (z.bb y)=cE.map λx=>if oL x.1 k then(x.1,z.bb y)else x:=by rw[nu,h1]
  have qB:∀(i:Nat) cP d1,(nu cE k (z.bb y))[i]?=some (cP,d1)->∃he,cE[i]?=some (cP,he)/\d1=(if i=j then z.bb y else he):=λi cP d1 hi=>by
   rw[hQ,au']at hi
   cases kw:cE[i]? with
   |none=>rw[kw]at hi;cases hi
   |some x =>
    obtain⟨gz,he⟩:=x;rw[kw]at hi;simp only[av5,avi]at hi;have j_:=b2 _ (au5 kw);by_cases d6:i=j
    ·subst d6;rw[A]at kw;cases kw
     have aq:oL bE k=true:=(B' j_ Z).2 (by rw[aa,lB]);rw[auO aq]at hi;cases hi
     exact⟨d',rfl,by rw[auO rfl]⟩
    have aq:¬oL gz k=true:=λh=>by
     rw[B' j_ Z,lB]at h;exact d6 (ar i j gz bE he d' kw A (by rw[h,aa]))
    rw[auN aq]at hi;cases hi
    exact⟨_,rfl,by rw[auN d6]⟩
  refine⟨_,C,_,?_,oE (eN.modify j λe=>{e with key:=ed,val:=a.eval y}) iX (λw' aq=>⟨_,_,rfl,?_,?_,?_⟩),hK⟩
  ·simp only[execOp,oH.gh,Ca,Instr.mapUpdate,Sem.run_bind,run_underlying hm,Result.andThen,Go.MapKept.run_getObj_map G,Sem.run_pure,run_checkKey O n_,run_findKey O cN,run_setObj_map _ G,aF,av5,avG,a8,run_keyThatStays n_]
  ·rw[hQ];simp[aj]
  ·intro i g9 cP d0 d1 d2 hi ls sV;obtain⟨bZ,f1,_⟩:=qB i cP d1 hi;obtain⟨b0,hP,_⟩:=qB g9 d0 d2 ls;exact ar i g9 cP d0 bZ b0 f1 hP sV
  intro i cP d1 bZ hi pb;obtain⟨he,f1,hP⟩:=qB i cP d1 hi;rw[aw_]at pb;by_cases d6:j=i
  ·subst d6;rw[auO rfl,aF]at pb;simp only[av5,avi]at pb;rw[auO rfl]at hP;subst hP;subst pb;have:=(af j cP _ e f1 aF).1;exact⟨by rw[this,a8],k1.ext aq⟩
  rw[auN d6]at pb;rw[auN (λe=>d6 e.symm)]at hP;subst hP;exact⟨(af i cP _ bZ f1 pb).1,(af i cP _ bZ f1 pb).2.ext aq⟩
end Go.bV

namespace Go.bV.ct
open Go Go.Proofs
variable{B:World}{i j:Nat}
section Mi
variable{bU:Type}
def mr(L:List bU)(i j:Nat):List bU:=match L[i]?,L[j]? with
 |some x,some y=>(L.set i y).set j x
 |_,_=>L
theorem EU(L:List bU)(i j:Nat):(mr L i j).length=L.length:=by unfold mr;split<;>simp
theorem aet{L:List bU}(hi:i<L.length)(ad:j<L.length):mr L i j=(L.set i L[j]).set j L[i]:=by unfold mr;rw[auR hi,auR ad]
theorem If{L:List bU}{e:bU->D}(hi:i<L.length)(ad:j<L.length):((L.map e).set i (e L[j])).set j (e L[i])=(mr L i j).map e:=by rw[aet hi ad,axG,axG]
def k5(L:List bU)(a b:Nat):Nat->List bU
 |0=>L
 |n+1=>mr (k5 L a b n) (a+n) (b+n)
theorem Aa(L:List bU)(a b:Nat):∀n,(k5 L a b n).length=L.length
 |0=>rfl
 |n+1=>by rw[k5,EU,Aa L a b n]
end Mi
abbrev l5.jc(v:Value)(xs:List D):aJ:=.row v xs 12 234
abbrev l5.hA(v:Value)(i:Nat):Value:=h5 v (i*12)
abbrev l5.hD(c:List D):D:=.agg c
def Ab(d:D):Prop:=∃aD,d=l5.hD aD/\aD.length=12/\aD.all D.one=true
variable{p:Prop}
theorem TM(h:p:=by
 refine kv TN TO λW=>?_;refine go ?_;refine hf (λi=>i<=n) [0,1,2,3,4] [] (λi=>[(10,u i)]) (λi=>[(2000,jc v ((k5 L a b i).map e))]) (λi=>n-i) 0 (au7 _) [(2000,2000)] λi hi=>?_;refine go ?_;refine gV (t:=decide ((i:Int)<n)) (λhc=>?_) (λhc=>?_)
 ·have p':i<n:=by simpa using hc
  have fe:=Aa L a b i;have aG:a+i<(k5 L a b i).length:=auD
  have wZ:b+i<(k5 L a b i).length:=auD
  obtain⟨ff,bZ,dL,dj⟩:=aq (k5 L a b i)[b+i];obtain⟨ea,b0,cC,dt⟩:=aq (k5 L a b i)[a+i];have MT:(((k5 L a b i).map e).set (a+i) (hD ff)).set (b+i) (hD ea)=(k5 L a b (i+1)).map e:=by rw[<-bZ,<-b0,If aG wZ];rfl
  refine' eU [(2000,jc v ((k5 L a b i).map e))] 0 (λy=>[_,_,_,_,_,_,_,_,_,_,_,_,.am (hA v (b+i)),hD ff,_,_,_,_,.am (hA v (a+i)),hD ea,.am (hA v (a+i)),.any,.am (hA v (b+i)),.any]) (λ_=>[(21,2000,some (jc v (((k5 L a b i).map e).set (a+i) (hD ff)))),(23,2000,some (jc v ((k5 L a b (i+1)).map e)))]) [0,0,0,6,0,0,0,96,0,0,0,1536,3840,7936,0,0,0,98304,245760,507904,1048335,2096911,4194303,8388607] [(21,2000),(23,2000)] ?_ ?_
  rotate_left 16
  ·refine dB ?_;refine bQ (λy=>ah.eG aN 2000 rfl rfl rfl rfl rfl rfl rfl auD auE (cB y)) ?_;refine bQ (λy=>ah.mh aN (i:=b+i) 2000 rfl rfl rfl (pr wZ bZ) (cB y)) ?_;refine bQ (λy=>ah.eG aN 2000 rfl rfl rfl rfl rfl rfl rfl auD auE (cB y)) ?_;refine bQ (λy=>ah.mh aN (i:=a+i) 2000 rfl rfl rfl (pr aG b0) (cB y)) ?_;refine bQ (λy=>ah.eG aN 2000 rfl rfl rfl rfl rfl rfl rfl auD auE (cB y)) ?_;refine bQ (λy=>by first|exact ah.yc aN (i:=a+i) 2000 rfl rfl rfl rfl auE rfl dL dj (cB y)|exact ah.nl aN (i:=a+i) 2000 rfl rfl rfl rfl auE rfl (cB y)) ?_;refine bQ (λy=>ah.eG aN 2000 rfl rfl rfl rfl rfl rfl rfl auD auE (cB y)) ?_;refine bQ (λy=>by first|exact ah.yc aN (i:=b+i) 2000 rfl rfl rfl rfl auE rfl cC dt (cB y)|exact ah.nl aN (i:=b+i) 2000 rfl rfl rfl rfl auE rfl (cB y)) ?_;exact trivial
  intro _
  (conv=>whnf)
  refine go ?_;exact fs (i+1) [(2000,2000)] p'
 have cr:i=n:=by simp at hc;omega
 subst cr
 exact⟨.bm [],ak,rfl,a_⟩):p:=h
abbrev l5.TN:=@Tryz.func364
abbrev l5.TO:=@Tryz.ntmps364
variable{bU:Type}
theorem l5.Ig(e:bU->D)(aq:∀x,Ab (e x))(v:Value)(L:List bU)(a b n:Nat)(b6:Nat)(cs:List D)(ha:a+n<=L.length)(G:b+n<=L.length)(aj:L.length<1000000):
  c4 B 364 [.am v,u a,u b,u n,.fn (.func b6) [] cs] (aM [(2000,.row v (L.map e) 12 234)]) λd aO=>d=.bm []/\aO=aM [(2000,.row v ((k5 L a b n).map e) 12 234)]:=TM
section
def lC(m:Nat)(L:List bU)(i j:Nat):List bU :=
 if i=j then k5 L (m-i) m i
 else if h:j<i/\0<j then lC m (k5 L (m-i) m j) (i-j) j
 else if h:i<j/\0<i then lC m (k5 L (m-i) (m+j-i) i) i (j-i)
 else L
termination_by i+j
theorem Ih(m:Nat)(L:List bU)(i j:Nat):(lC m L i j).length=L.length:=by
 rw[lC];split
 ·exact Aa ..
 split
 ·rw[Ih,Aa]
 split
 ·rw[Ih,Aa]
 rfl
termination_by i+j
end
theorem TP(h:p:=by
 refine kv TQ TR λW=>?_;refine go ?_;refine hf (α:=List bU×Nat×Nat) (λx=>0<x.2.1/\x.2.1<=m/\0<x.2.2/\m+x.2.2<=L.length/\x.1.length=L.length/\lC m x.1 x.2.1 x.2.2=lC m L (m-a) (b-m)) [0,1,2,3,4] [] (λx=>[(10,u x.2.1),(11,u x.2.2)]) (λx=>[(2000,jc v (x.1.map e))]) (λx=>x.2.1+x.2.2) (L,m-a,b-m) ⟨by dsimp only;omega,by dsimp only;omega,by dsimp only;omega,by dsimp only;omega,rfl,rfl⟩ [(2000,2000)] ?_;rintro⟨jO,i,j⟩ ⟨h1,A,aa,aF,a8,cN⟩;dsimp only at*;refine go ?_;refine gV (t:=(i:Int)!=j) (λhc=>?_) (λhc=>?_)
 ·have aZ:i≠j:=by simp at hc;omega
  rw[lC,auN aZ]at cN;refine gV (t:=decide ((j:Int)<i)) (λhc=>?_) (λhc=>?_)
  ·have fq:j<i:=by simpa using hc
   rw[awu ⟨fq,aa⟩]at cN;refine mq [(2000,2000)] (Ig e aq v jO (m-i) m j b6 cs auD auD auD) ?_;exact fs (k5 jO (m-i) m j,i-j,j) [(2000,2000)] ⟨by dsimp only;omega,by dsimp only;omega,aa,aF,by rw[Aa];exact a8,cN⟩
  have fq:i<j:=by simp at hc;omega
  rw[axx auD,awu ⟨fq,h1⟩]at cN;refine mq [(2000,2000)] (Ig e aq v jO (m-i) (m+j-i) i b6 cs auD auD auD) ?_;exact fs (k5 jO (m-i) (m+j-i) i,i,j-i) [(2000,2000)] ⟨h1,A,by dsimp only;omega,by dsimp only;omega,by rw[Aa];exact a8,cN⟩
 have d6:i=j:=by simp at hc;omega
 subst d6;rw[lC,auO rfl]at cN;refine mq [(2000,2000)] (Ig e aq v jO (m-i) m i b6 cs auD auD auD) ?_;rw[cN]
 exact⟨.bm [],ak,rfl,a_⟩):p:=h
abbrev l5.TQ:=@Tryz.func328
abbrev l5.TR:=@Tryz.ntmps328
theorem l5.TS(e:bU->D)(aq:∀x,Ab (e x))(v:Value)(L:List bU)(a m b:Nat)(b6:Nat)(cs:List D)(ha:a<m)(G:m<b)(fg:b<=L.length)(aj:L.length<1000000):
  c4 B 328 [.am v,u a,u m,u b,.fn (.func b6) [] cs] (aM [(2000,.row v (L.map e) 12 234)]) λd aO=>d=.bm []/\aO=aM [(2000,.row v ((lC m L (m-a) (b-m)).map e) 12 234)]:=TP
section
variable(bF:bU->bU->Int)
def nv(L:List bU)(i j:Nat):Bool:=match L[i]?,L[j]? with
 |some x,some y=>decide (bF x y<0)
 |_,_=>false
theorem EV{L:List bU}(hi:i<L.length)(ad:j<L.length):nv bF L i j=decide (bF L[i] L[j]<0):=by unfold nv;rw[auR hi,auR ad]
def qV(a:Nat):Nat->List bU->List bU
 |0,L=>L
 |j+1,L=>if a<j+1/\nv bF L (j+1) j=true then qV a j (mr L (j+1) j)else L
theorem TT(a:Nat):∀(j:Nat) (L:List bU),(qV bF a j L).length=L.length
 |0,_=>rfl
 |j+1,L=>by rw[qV];split;rw[TT,EU];rfl
def oM(a:Nat)(L:List bU):Nat->List bU
 |0=>L
 |n+1=>qV bF a (a+n+1) (oM a L n)
theorem EW(a:Nat)(L:List bU):∀n,(oM bF a L n).length=L.length
 |0=>rfl
 |n+1=>by rw[oM,TT,EW]
end
theorem TU(h:p:=by
 refine kv TV TW λW=>?_;refine go ?_;refine hf (λn=>n<=b-(a+1)) [0,1,2,3] [] (λn=>[(8,u ((a+1+n:Nat):Int))]) (λn=>[(2000,jc v ((oM bF a L n).map e))]) (λn=>b-n) 0 (au7 _) [(2000,2000)] λn ar=>?_;refine go ?_;refine gV (t:=decide (((a+1+n:Nat):Int)<b)) (λhc=>?_) (λhc=>?_)
 ·have wZ:a+1+n<b:=by simp at hc;omega
  refine hf (λx=>x.2<=a+1+n/\a<=x.2/\x.1.length=L.length/\qV bF a x.2 x.1=oM bF a L (n+1)) [0,1,2,3,8] [] (λx=>[(9,u x.2)]) (λx=>[(2000,jc v (x.1.map e))]) (λx=>x.2) (oM bF a L n,a+1+n) ⟨auW _,by omega,EW ..,by rw[oM,show a+n+1=a+1+n by omega]⟩ [(2000,2000)] ?_;rintro⟨jO,j⟩ ⟨h1,A,aa,aF⟩;dsimp only at h1 A aa aF⊢;refine go ?_;by_cases asv:a<j
  ·have aS:decide ((a:Int)<j)=true:=avP auD;have ad:j<jO.length:=auD
   have vv:j-1<jO.length:=auD
   obtain⟨ff,bZ,dL,dj⟩:=aq jO[j];obtain⟨ea,b0,cC,dt⟩:=aq jO[j-1];have n':=hcmp jO[j] jO[j-1];rw[bZ,b0]at n';refine' eU [(2000,jc v (jO.map e))] 0 (λy=>[_,_,_,_,_,_,_,.am (hA v j),hD ff,_,_,_,.am (hA v (j-1)),hD ea,_,_,_]) (λ_=>[]) [0,0,3,7,15,15,15,111,239,15,15,1039,3599,7695,16383,32767,65535] [] ?_ ?_
   rotate_left 13
   ·refine dB ?_;refine⟨λy=>⟨_,_,rfl,rfl,.inl ⟨aS,.inr (.inr (ah.eG aN 2000 rfl rfl rfl rfl rfl rfl rfl auD auE (cB y)))⟩⟩,dB ?_⟩;refine⟨λy=>⟨_,_,rfl,rfl,.inl ⟨aS,.inr (.inr (ah.mh aN (i:=j) 2000 rfl rfl rfl (pr ad bZ) (cB y)))⟩⟩,dB ?_⟩;refine⟨λy=>⟨_,_,rfl,rfl,.inl ⟨aS,.inr (.inr (ah.eG aN 2000 rfl rfl rfl rfl rfl rfl rfl auD auE (cB y (aa:=B9 auD))))⟩⟩,dB ?_⟩;refine⟨λy=>⟨_,_,rfl,rfl,.inl ⟨aS,.inr (.inr (ah.mh aN (i:=j-1) 2000 rfl rfl rfl (pr vv b0) (cB y)))⟩⟩,dB ?_⟩;exact trivial
   intro _
   (conv=>whnf)
   refine go ?_;refine gV (λhc=>?_) (λhc=>?_)
   ·have bg:nv bF jO (j-1+1) (j-1)=true:=by
     rw[show j-1+1=j by omega,EV bF ad vv];rw[aS]at hc;exact hc
    rw[show j=j-1+1 by omega,qV,auO ⟨by omega,bg⟩,show j-1+1=j by omega]at aF;have MT:((jO.map e).set j (hD ea)).set (j-1) (hD ff)=(mr jO j (j-1)).map e:=by rw[<-bZ,<-b0,If ad vv]
    refine' eU [(2000,jc v (jO.map e))] 0 (λy=>[_,_,_,_,_,_,_,_,.am (hA v (j-1)),hD ea,_,_,.am (hA v j),hD ff,.am (hA v j),.any,.am (hA v (j-1)),.any]) (λ_=>[(15,2000,some (jc v ((jO.map e).set j (hD ea)))),(17,2000,some (jc v ((mr jO j (j-1)).map e)))]) [0,0,0,0,8,0,0,64,224,480,0,0,3072,7168,16355,32739,65535,131071] [(15,2000),(17,2000)] ?_ ?_
    rotate_left 10
    ·refine dB ?_;refine bQ (λy=>ah.eG aN 2000 rfl rfl rfl rfl rfl rfl rfl auD auE (cB y (aa:=B9 auD))) ?_;refine bQ (λy=>ah.mh aN (i:=j-1) 2000 rfl rfl rfl (pr vv b0) (cB y)) ?_;refine bQ (λy=>ah.eG aN 2000 rfl rfl rfl rfl rfl rfl rfl auD auE (cB y)) ?_;refine bQ (λy=>ah.mh aN (i:=j) 2000 rfl rfl rfl (pr ad bZ) (cB y)) ?_;refine bQ (λy=>ah.eG aN 2000 rfl rfl rfl rfl rfl rfl rfl auD auE (cB y)) ?_;refine bQ (λy=>by first|exact ah.yc aN (i:=j) 2000 rfl rfl rfl rfl auE rfl cC dt (cB y)|exact ah.nl aN (i:=j) 2000 rfl rfl rfl rfl auE rfl (cB y)) ?_;refine bQ (λy=>ah.eG aN 2000 rfl rfl rfl rfl rfl rfl rfl auD auE (cB y (aa:=B9 auD))) ?_;refine bQ (λy=>by first|exact ah.yc aN (i:=j-1) 2000 rfl rfl rfl rfl auE rfl dL dj (cB y)|exact ah.nl aN (i:=j-1) 2000 rfl rfl rfl rfl auE rfl (cB y)) ?_;exact trivial
    intro _
    (conv=>whnf)
    refine go ?_;exact fs (mr jO j (j-1),j-1) [(2000,2000)] ⟨by dsimp only;omega,by dsimp only;omega,by rw[EU];exact aa,aF⟩
   have bg:¬(a<j-1+1/\nv bF jO (j-1+1) (j-1)=true):=λh=>by
    have a8:=h.2;rw[show j-1+1=j by omega,EV bF ad vv]at a8;rw[aS]at hc;rw[a8]at hc;cases hc
   rw[show j=j-1+1 by omega,qV,auN bg]at aF;subst aF;exact fs (n+1) [(2000,2000)] auD
  have aS:decide ((a:Int)<j)=false:=avw auD
  have aX:jO=oM bF a L (n+1):=by
   rw[<-aF]
   cases j with
   |zero=>rfl
   |succ k=>rw[qV,auN (λh=>by omega)]
  refine' eU [(2000,jc v (jO.map e))] 0 (λy=>[_,_,_,_,_,_,_,_,_,_,_,_,_,_,_,_,.bool false]) (λ_=>[]) [0,0,3,7,15,15,15,111,239,15,15,1039,3599,7695,16383,32767,65535] [] ?_ ?_
  rotate_left 16
  ·refine dB ?_;refine bQ (λy=>ah.ED rfl aS (cB y)) ?_;exact trivial
  intro _
  (conv=>whnf)
  refine go ?_;subst aX;exact fs (n+1) [(2000,2000)] auD
 have oN:n=b-(a+1):=by simp at hc;omega
 subst oN
 exact⟨.bm [],ak,rfl,a_⟩):p:=h
abbrev l5.TV:=@Tryz.func290
abbrev l5.TW:=@Tryz.ntmps290
theorem l5.MU(e:bU->D)(aq:∀x,Ab (e x))(bF:bU->bU->Int)(b6:Nat)(cs:List D)(hcmp:∀x y,aT B b6 (e x::e y::cs) (u (bF x y)))(v:Value)(L:List bU)(a b:Nat)(G:b<=L.length)(aj:L.length<1000000)(ha:a<=b):
  c4 B 290 [.am v,u a,u b,.fn (.func b6) [] cs] (aM [(2000,.row v (L.map e) 12 234)]) λd aO=>d=.bm []/\aO=aM [(2000,.row v ((oM bF a L (b-(a+1))).map e) 12 234)]:=TU
section
variable(bF:bU->bU->Int)
def ms(c:Nat->Bool)(i j:Nat):Nat :=
 if h:i<j then(if c ((i+j)/2)then ms c ((i+j)/2+1) j else ms c i ((i+j)/2))else i
termination_by j-i
theorem MV(c:Nat->Bool)(i j:Nat)(h:i<=j):i<=ms c i j/\ms c i j<=j:=by
 rw[ms];split
 ·split
  ·have:=MV c ((i+j)/2+1) j auD;omega
  have:=MV c i ((i+j)/2) auD;omega
 omega
termination_by j-i
def oa(L:List bU)(a:Nat):Nat->List bU
 |0=>L
 |n+1=>mr (oa L a n) (a+n) (a+n+1)
def ob(L:List bU)(m:Nat):Nat->List bU
 |0=>L
 |n+1=>mr (ob L m n) (m-n) (m-n-1)
theorem MW(L:List bU)(a:Nat):∀n,(oa L a n).length=L.length
 |0=>rfl
 |n+1=>by rw[oa,EU,MW L a n]
theorem MX(L:List bU)(a:Nat):∀n,(ob L a n).length=L.length
 |0=>rfl
 |n+1=>by rw[ob,EU,MX L a n]
def hg(L:List bU)(a m b:Nat):Nat:=ms (λc=>!nv bF L ((a+b)/2+m-1-c) c) (if(a+b)/2<m then(a+b)/2+m-b else a) (if(a+b)/2<m then(a+b)/2 else m)
def l6:Nat->List bU->Nat->Nat->Nat->List bU
 |0,L,_,_,_=>L
 |f+1,L,a,m,b =>
  if m=a+1 then oa L a (ms (λh=>nv bF L h a) m b-1-a)
  else if b=m+1 then ob L m (m-ms (λh=>!nv bF L m h) a m)
  else
   let d:=(a+b)/2
   let s:=hg bF L a m b
   let qc:=if s<m/\s<d then lC m L (m-s) (d-s)else L
   let vw:=if a<s/\s<d then l6 f qc a s d else qc
   if d<d+m-s/\d+m-s<b then l6 f vw d (d+m-s) b else vw
theorem EX:∀(f:Nat) (L:List bU) (a m b:Nat),(l6 bF f L a m b).length=L.length
 |0,_,_,_,_=>rfl
 |f+1,L,a,m,b=>by rw[l6];split;exact MW ..;split;exact MX ..;simp only;repeat (first|rfl|exact Ih ..|rw[EX f]|split)
def oc(n a:Nat)(L:List bU):List bU :=
 if h:a+20<=n then oc n (a+20) (oM bF a L 19)else oM bF a L (n-(a+1))
termination_by n-a
def pu(n aP a:Nat)(L:List bU):List bU :=
 if h:a+2*aP<=n/\0<aP then pu n aP (a+2*aP) (l6 bF (n+1) L a (a+aP) (a+2*aP))
 else if a+aP<n then l6 bF (n+1) L a (a+aP) n else L
termination_by n-a
def qd(n aP:Nat)(L:List bU):List bU :=
 if h:aP<n/\0<aP then qd n (2*aP) (pu bF n aP 0 L)else L
termination_by n-aP
def fR(L:List bU):List bU:=qd bF L.length 20 (oc bF L.length 0 L)
theorem MY(n a:Nat)(L:List bU):(oc bF n a L).length=L.length:=by
 rw[oc];split
 ·rw[MY,EW]
 exact EW ..
termination_by n-a
theorem Ii(n aP a:Nat)(L:List bU):(pu bF n aP a L).length=L.length:=by
 rw[pu];split
 ·rw[Ii,EX]
 split
 ·exact EX ..
 rfl
termination_by n-a
theorem TX(n aP:Nat)(L:List bU):(qd bF n aP L).length=L.length:=by
 rw[qd];split
 ·rw[TX,Ii]
 rfl
termination_by n-aP
theorem aeu(L:List bU):(fR bF L).length=L.length:=by rw[fR,TX,MY]
end
theorem Ij(i j:Nat):Int.fdiv ((i:Int)+(j:Int)) (2 ^ min (Int.toNat 1) (IntKind.bits .u64))=(((i+j)/2:Nat):Int):=by show Int.fdiv ((i:Int)+(j:Int)) 2=_;rw[Int.fdiv_eq_ediv_of_nonneg _ auG];omega
theorem TY(h:p:=by
 intro f
 induction f with
 |zero=>intro L a m b h;omega
 |succ f aV =>
 intro L a m b M asw oO fg aj;refine kv TZ T0 λW=>?_;refine go ?_;refine gV (t:=(m:Int)-a==1) (λhc=>?_) (λhc=>?_)
 ·have hm:m=a+1:=by simp at hc;omega
  refine hf (λx=>m<=x.1/\x.1<=x.2/\x.2<=b/\ms (λh=>nv bF L h a) x.1 x.2=ms (λh=>nv bF L h a) m b) [0,1,2,3,4] [2000] (λx=>[(10,u x.1),(11,u x.2)]) (λx=>[]) (λx=>x.2-x.1) (m,b) ⟨auW _,by dsimp only;omega,auW _,rfl⟩ [(2000,2000)] ?_;rintro⟨i,j⟩ ⟨h1,A,aa,aF⟩;dsimp only at h1 A aa aF⊢;refine go ?_;refine gV (t:=decide ((i:Int)<j)) (λhc=>?_) (λhc=>?_)
  ·have d6:i<j:=by simpa using hc
   rw[Ij];refine go ?_;generalize cA:(i+j)/2=h at*;have yn:h<L.length:=auD
   have pv:a<L.length:=auD
   obtain⟨ff,bZ,dL,dj⟩:=aq L[h];obtain⟨ea,b0,cC,dt⟩:=aq L[a];have n':=hcmp L[h] L[a];rw[bZ,b0]at n';have bg:=EV bF yn pv;rw[ms,awu d6,cA,bg]at aF;refine' eU [(2000,jc v (L.map e))] 0 (λy=>[_,_,_,.am (hA v (h)),hD ff,_,_,.am (hA v (a)),hD ea,_,_]) (λ_=>[]) [0,0,0,6,14,0,0,96,224,511,1023] [] ?_ ?_
   rotate_left 7
   ·refine dB ?_;refine bQ (λy=>ah.eG aN 2000 rfl rfl rfl rfl rfl rfl rfl auD auE (cB y)) ?_;refine bQ (λy=>ah.mh aN (i:=h) 2000 rfl rfl rfl (pr yn bZ) (cB y)) ?_;refine bQ (λy=>ah.eG aN 2000 rfl rfl rfl rfl rfl rfl rfl auD auE (cB y)) ?_;refine bQ (λy=>ah.mh aN (i:=a) 2000 rfl rfl rfl (pr pv b0) (cB y)) ?_;exact trivial
   intro _
   (conv=>whnf)
   refine go ?_;refine gV (t:=decide (bF L[h] L[a]<0)) (λhc=>?_) (λhc=>?_)
   ·rw[auO hc]at aF;exact fs (h+1,j) [(2000,2000)] ⟨by dsimp only;omega,by dsimp only;omega,aa,aF⟩
   rw[auN (by simp[hc])]at aF;exact fs (i,h) [(2000,2000)] ⟨h1,by dsimp only;omega,by dsimp only;omega,aF⟩
  have d6:i=j:=by simp at hc;omega
  subst d6;rw[ms,axx auD]at aF;refine hf (λn=>n<=i-1-a) [0,1,2,3,4,10] [] (λn=>[(13,u ((a+n:Nat):Int))]) (λn=>[(2000,jc v ((oa L a n).map e))]) (λn=>i-n) 0 (au7 _) [(2000,2000)] λn ar=>?_;refine go ?_;refine gV (t:=decide (((a+n:Nat):Int)<(i:Int)-1)) (λhc=>?_) (λhc=>?_)
  ·have aev:a+n<i-1:=by simp at hc;omega
   have fe:=MW L a n;have I:a+n<(oa L a n).length:=auD
   have aw:a+n+1<(oa L a n).length:=auD
   obtain⟨ff,bZ,dL,dj⟩:=aq (oa L a n)[a+n+1];obtain⟨ea,b0,cC,dt⟩:=aq (oa L a n)[a+n];have MT:(((oa L a n).map e).set (a+n) (hD ff)).set (a+n+1) (hD ea)=(mr (oa L a n) (a+n) (a+n+1)).map e:=by rw[<-bZ,<-b0,If I aw]
   refine' eU [(2000,jc v ((oa L a n).map e))] 0 (λy=>[_,_,_,_,_,_,_,_,.am (hA v (a+n+1)),hD ff,_,_,.am (hA v (a+n)),hD ea,.am (hA v (a+n)),.any,.am (hA v (a+n+1)),.any]) (λ_=>[(15,2000,some (jc v (((oa L a n).map e).set (a+n) (hD ff)))),(17,2000,some (jc v ((mr (oa L a n) (a+n) (a+n+1)).map e)))]) [0,0,0,0,8,0,0,64,224,480,0,0,3072,7168,16355,32739,65535,131071] [(15,2000),(17,2000)] ?_ ?_
   rotate_left 10
   ·refine dB ?_;refine bQ (λy=>ah.eG aN 2000 rfl rfl rfl rfl rfl rfl rfl auD auE (cB y)) ?_;refine bQ (λy=>ah.mh aN (i:=a+n+1) 2000 rfl rfl rfl (pr aw bZ) (cB y)) ?_;refine bQ (λy=>ah.eG aN 2000 rfl rfl rfl rfl rfl rfl rfl auD auE (cB y)) ?_;refine bQ (λy=>ah.mh aN (i:=a+n) 2000 rfl rfl rfl (pr I b0) (cB y)) ?_;refine bQ (λy=>ah.eG aN 2000 rfl rfl rfl rfl rfl rfl rfl auD auE (cB y)) ?_;refine bQ (λy=>by first|exact ah.yc aN (i:=a+n) 2000 rfl rfl rfl rfl auE rfl dL dj (cB y)|exact ah.nl aN (i:=a+n) 2000 rfl rfl rfl rfl auE rfl (cB y)) ?_;refine bQ (λy=>ah.eG aN 2000 rfl rfl rfl rfl rfl rfl rfl auD auE (cB y)) ?_;refine bQ (λy=>by first|exact ah.yc aN (i:=a+n+1) 2000 rfl rfl rfl rfl auE rfl cC dt (cB y)|exact ah.nl aN (i:=a+n+1) 2000 rfl rfl rfl rfl auE rfl (cB y)) ?_;exact trivial
   intro _
   (conv=>whnf)
   refine go ?_;exact fs (n+1) [(2000,2000)] auD
  have aZ:n=i-1-a:=by simp at hc;omega
  rw[l6,auO hm,<-aF,<-aZ];exact⟨.bm [],ak,rfl,a_⟩
 have hm:¬m=a+1:=λh=>by simp at hc;omega
 refine gV (t:=(b:Int)-m==1) (λhc=>?_) (λhc=>?_)
 ·have G:b=m+1:=by simp at hc;omega
  refine hf (λx=>a<=x.1/\x.1<=x.2/\x.2<=m/\ms (λh=>!nv bF L m h) x.1 x.2=ms (λh=>!nv bF L m h) a m) [0,1,2,3,4] [2000] (λx=>[(14,u x.1),(15,u x.2)]) (λx=>[]) (λx=>x.2-x.1) (a,m) ⟨auW _,by dsimp only;omega,auW _,rfl⟩ [(2000,2000)] ?_;rintro⟨i,j⟩ ⟨h1,A,aa,aF⟩;dsimp only at h1 A aa aF⊢;refine go ?_;refine gV (t:=decide ((i:Int)<j)) (λhc=>?_) (λhc=>?_)
  ·have d6:i<j:=by simpa using hc
   rw[Ij];refine go ?_;generalize cA:(i+j)/2=h at*;have yn:h<L.length:=auD
   have pv:m<L.length:=auD
   obtain⟨ff,bZ,dL,dj⟩:=aq L[m];obtain⟨ea,b0,cC,dt⟩:=aq L[h];have n':=hcmp L[m] L[h];rw[bZ,b0]at n';have bg:=EV bF pv yn;rw[ms,awu d6,cA,bg]at aF;refine' eU [(2000,jc v (L.map e))] 0 (λy=>[_,_,_,.am (hA v (m)),hD ff,_,_,.am (hA v (h)),hD ea,_,_,_]) (λ_=>[]) [0,0,0,6,14,0,0,96,224,511,1023,2047] [] ?_ ?_
   rotate_left 8
   ·refine dB ?_;refine bQ (λy=>ah.eG aN 2000 rfl rfl rfl rfl rfl rfl rfl auD auE (cB y)) ?_;refine bQ (λy=>ah.mh aN (i:=m) 2000 rfl rfl rfl (pr pv bZ) (cB y)) ?_;refine bQ (λy=>ah.eG aN 2000 rfl rfl rfl rfl rfl rfl rfl auD auE (cB y)) ?_;refine bQ (λy=>ah.mh aN (i:=h) 2000 rfl rfl rfl (pr yn b0) (cB y)) ?_;exact trivial
   intro _
   (conv=>whnf)
   refine go ?_;refine gV (t:=!decide (bF L[m] L[h]<0)) (λhc=>?_) (λhc=>?_)
   ·rw[auO hc]at aF;exact fs (h+1,j) [(2000,2000)] ⟨by dsimp only;omega,by dsimp only;omega,aa,aF⟩
   rw[auN (by simp[hc])]at aF;exact fs (i,h) [(2000,2000)] ⟨h1,by dsimp only;omega,by dsimp only;omega,aF⟩
  have d6:i=j:=by simp at hc;omega
  subst d6;rw[ms,axx auD]at aF;refine hf (λn=>n<=m-i) [0,1,2,3,4,14] [] (λn=>[(17,u ((m-n:Nat):Int))]) (λn=>[(2000,jc v ((ob L m n).map e))]) (λn=>m-n) 0 (au7 _) [(2000,2000)] λn ar=>?_;refine go ?_;refine gV (t:=decide ((i:Int)<((m-n:Nat):Int))) (λhc=>?_) (λhc=>?_)
  ·have aev:i<m-n:=by simp at hc;omega
   have fe:=MX L m n;have I:m-n<(ob L m n).length:=auD
   have aw:m-n-1<(ob L m n).length:=auD
   obtain⟨ff,bZ,dL,dj⟩:=aq (ob L m n)[m-n-1];obtain⟨ea,b0,cC,dt⟩:=aq (ob L m n)[m-n];have MT:(((ob L m n).map e).set (m-n) (hD ff)).set (m-n-1) (hD ea)=(mr (ob L m n) (m-n) (m-n-1)).map e:=by rw[<-bZ,<-b0,If I aw]
   refine' eU [(2000,jc v ((ob L m n).map e))] 0 (λy=>[_,_,_,_,_,_,_,_,.am (hA v (m-n-1)),hD ff,_,_,.am (hA v (m-n)),hD ea,.am (hA v (m-n)),.any,.am (hA v (m-n-1)),.any]) (λ_=>[(15,2000,some (jc v (((ob L m n).map e).set (m-n) (hD ff)))),(17,2000,some (jc v ((mr (ob L m n) (m-n) (m-n-1)).map e)))]) [0,0,0,0,8,0,0,64,224,480,0,0,3072,7168,16355,32739,65535,131071] [(15,2000),(17,2000)] ?_ ?_
   rotate_left 10
   ·refine dB ?_;refine bQ (λy=>ah.eG aN 2000 rfl rfl rfl rfl rfl rfl rfl auD auE (cB y (aa:=B9 auD))) ?_;refine bQ (λy=>ah.mh aN (i:=m-n-1) 2000 rfl rfl rfl (pr aw bZ) (cB y)) ?_;refine bQ (λy=>ah.eG aN 2000 rfl rfl rfl rfl rfl rfl rfl auD auE (cB y)) ?_;refine bQ (λy=>ah.mh aN (i:=m-n) 2000 rfl rfl rfl (pr I b0) (cB y)) ?_;refine bQ (λy=>ah.eG aN 2000 rfl rfl rfl rfl rfl rfl rfl auD auE (cB y)) ?_;refine bQ (λy=>by first|exact ah.yc aN (i:=m-n) 2000 rfl rfl rfl rfl auE rfl dL dj (cB y)|exact ah.nl aN (i:=m-n) 2000 rfl rfl rfl rfl auE rfl (cB y)) ?_;refine bQ (λy=>ah.eG aN 2000 rfl rfl rfl rfl rfl rfl rfl auD auE (cB y (aa:=B9 auD))) ?_;refine bQ (λy=>by first|exact ah.yc aN (i:=m-n-1) 2000 rfl rfl rfl rfl auE rfl cC dt (cB y)|exact ah.nl aN (i:=m-n-1) 2000 rfl rfl rfl rfl auE rfl (cB y)) ?_;exact trivial
   intro _
   (conv=>whnf)
   refine go ?_;exact fs (n+1) [(2000,2000)] auD
  have aZ:n=m-i:=by simp at hc;omega
  rw[l6,auN hm,auO G,<-aF,<-aZ];exact⟨.bm [],ak,rfl,a_⟩
 have G:¬b=m+1:=λh=>by simp at hc;omega
 rw[Ij];refine go ?_;have O:((a+b)/2)*2<=a+b/\a+b<=((a+b)/2)*2+1:=auD
 rw[l6,auN hm,auN G];have gU:hg bF L a m b=ms (λc=>!nv bF L ((a+b)/2+m-1-c) c) (if(a+b)/2<m then(a+b)/2+m-b else a) (if(a+b)/2<m then(a+b)/2 else m):=rfl;generalize(a+b)/2=d at*;simp only;refine nt (λx:Nat×Nat=>((m<=d/\x.1=a/\x.2=m)\/(d<m/\x.1+b=d+m/\x.2=d))/\hg bF L a m b=ms (λc=>!nv bF L (d+m-1-c) c) x.1 x.2) [0,1,2,3,4,18,19] [2000] (λx=>[(20,u x.1),(21,u x.2)]) (λ_=>[]) ?_ ?_
 ·refine gV (t:=decide ((d:Int)<m)) (λhc=>?_) (λhc=>?_)
  ·have rW:d<m:=by simpa using hc
   rw[auO rW,auO rW]at gU;exact gL (d+m-b,d) [(2000,2000)] ⟨.inr ⟨rW,by dsimp only;omega,rfl⟩,gU⟩
  have rW:¬d<m:=by simpa using hc
  rw[auN rW,auN rW]at gU;exact gL (a,m) [(2000,2000)] ⟨.inl ⟨by omega,rfl,rfl⟩,gU⟩
 rintro⟨hC,gW⟩ ⟨h0,h1⟩;dsimp only at h0 h1⊢;have cr:=MV (λc=>!nv bF L (d+m-1-c) c) hC gW auD;refine go ?_;refine hf (λx=>hC<=x.1/\x.1<=x.2/\x.2<=gW/\ms (λc=>!nv bF L (d+m-1-c) c) x.1 x.2=hg bF L a m b) [0,1,2,3,4,18,19,22] [2000] (λx=>[(20,u x.1),(21,u x.2)]) (λx=>[]) (λx=>x.2-x.1) (hC,gW) ⟨auW _,by dsimp only;omega,auW _,h1.symm⟩ [(2000,2000)] ?_;rintro⟨i,j⟩ ⟨A,aa,aF,a8⟩;dsimp only at A aa aF a8⊢;refine go ?_;refine gV (t:=decide ((i:Int)<j)) (λhc=>?_) (λhc=>?_)
 ·have d6:i<j:=by simpa using hc
  rw[Ij];refine go ?_;generalize cA:(i+j)/2=h at*;have yn:h<L.length:=auD
  have pv:d+m-1-h<L.length:=auD
  obtain⟨ff,bZ,dL,dj⟩:=aq L[d+m-1-h];obtain⟨ea,b0,cC,dt⟩:=aq L[h];have n':=hcmp L[d+m-1-h] L[h];rw[bZ,b0]at n';have bg:=EV bF pv yn;rw[ms,awu d6,cA,bg]at a8;refine' eU [(2000,jc v (L.map e))] 0 (λy=>[_,_,_,_,_,.am (hA v (d+m-1-h)),hD ff,_,_,.am (hA v (h)),hD ea,_,_,_]) (λ_=>[]) [0,0,0,0,12,30,62,0,0,384,896,2047,4095,8191] [] ?_ ?_
  rotate_left 10
  ·refine dB ?_;refine bQ (λy=>ah.eG aN 2000 rfl rfl rfl rfl rfl rfl rfl auD auE (cB y (aa:=B9 auD))) ?_;refine bQ (λy=>ah.mh aN (i:=d+m-1-h) 2000 rfl rfl rfl (pr pv bZ) (cB y)) ?_;refine bQ (λy=>ah.eG aN 2000 rfl rfl rfl rfl rfl rfl rfl auD auE (cB y)) ?_;refine bQ (λy=>ah.mh aN (i:=h) 2000 rfl rfl rfl (pr yn b0) (cB y)) ?_;exact trivial
  intro _
  (conv=>whnf)
  refine go ?_;refine gV (t:=!decide (bF L[d+m-1-h] L[h]<0)) (λhc=>?_) (λhc=>?_)
  ·rw[auO hc]at a8;exact fs (h+1,j) [(2000,2000)] ⟨by dsimp only;omega,by dsimp only;omega,aF,a8⟩
  rw[auN (by simp[hc])]at a8;exact fs (i,h) [(2000,2000)] ⟨A,by dsimp only;omega,by dsimp only;omega,a8⟩
 have d6:i=j:=by simp at hc;omega
 subst d6;rw[ms,axx auD]at a8;rw[<-a8];clear a8 h1 gU cr;have Ac:i<=m/\i<=d/\a<=i/\d+m-i<=b:=auD
 refine nt (λx=>x=if i<m/\i<d then lC m L (m-i) (d-i)else L) [0,1,2,3,4,18,20,24] [] (λ_=>[]) (λx=>[(2000,jc v (x.map e))]) ?_ ?_
 ·refine gV (λhc=>?_) (λhc=>?_)
  ·have e6:i<m/\i<d:=by revert hc;cases h:decide ((i:Int)<m)<;>simp at h⊢<;>omega
   have Z:=TS (B:=B) e aq v L i m (d+m-i) b6 cs auD auD auD aj;rw[show d+m-i-m=d-i by omega]at Z;refine mq [(2000,2000)] Z ?_;exact gL _ [(2000,2000)] (by rw[auO e6])
  have e6:¬(i<m/\i<d):=by revert hc;cases h:decide ((i:Int)<m)<;>simp at h⊢<;>omega
  exact gL _ [(2000,2000)] (by rw[auN e6])
 intro qc T1;have kA:qc.length=L.length:=by rw[T1];split<;>first|rfl|exact Ih ..
 rw[<-T1];refine go ?_;refine nt (λx=>x=if a<i/\i<d then l6 bF f qc a i d else qc) [0,3,4,18,24] [] (λ_=>[]) (λx=>[(2000,jc v (x.map e))]) ?_ ?_
 ·refine gV (λhc=>?_) (λhc=>?_)
  ·have e6:a<i/\i<d:=by revert hc;cases h:decide ((a:Int)<i)<;>simp at h⊢<;>omega
   refine mq [(2000,2000)] (aV qc a i d auD auD auD auD auD) ?_;exact gL _ [(2000,2000)] (by rw[auO e6])
  have e6:¬(a<i/\i<d):=by revert hc;cases h:decide ((a:Int)<i)<;>simp at h⊢<;>omega
  exact gL _ [(2000,2000)] (by rw[auN e6])
 intro vw T2;have nw:vw.length=L.length:=by rw[T2];split<;>first|exact kA|rw[EX,kA]
 rw[<-T2];refine go ?_;refine gV (λhc=>?_) (λhc=>?_)
 ·have e6:d<d+m-i/\d+m-i<b:=by revert hc;cases h:decide ((d:Int)<(d:Int)+m-i)<;>simp at h⊢<;>omega
  rw[auO e6];refine mq [(2000,2000)] (aV vw d (d+m-i) b auD auD auD auD auD) ?_;exact⟨.bm [],ak,rfl,a_⟩
 have e6:¬(d<d+m-i/\d+m-i<b):=by revert hc;cases h:decide ((d:Int)<(d:Int)+m-i)<;>simp at h⊢<;>omega
 rw[auN e6]
 exact⟨.bm [],ak,rfl,a_⟩):p:=h
abbrev l5.TZ:=@Tryz.func291
abbrev l5.T0:=@Tryz.ntmps291
theorem l5.MZ(e:bU->D)(aq:∀x,Ab (e x))(bF:bU->bU->Int)(b6:Nat)(cs:List D)(hcmp:∀x y,aT B b6 (e x::e y::cs) (u (bF x y)))(v:Value):∀(f:Nat) (L:List bU) (a m b:Nat),b-a<f->a<m->m<b->b<=L.length->L.length<1000000->
  c4 B 291 [.am v,u a,u m,u b,.fn (.func b6) [] cs] (aM [(2000,.row v (L.map e) 12 234)]) λd aO=>d=.bm []/\aO=aM [(2000,.row v ((l6 bF f L a m b).map e) 12 234)]:=TY
theorem T3(h:p:=by
 generalize ar:L.length=n at*;refine kv T4 T5 λW=>?_;refine go ?_;refine hf (λx:List bU×Nat=>x.2<=n/\x.1.length=n/\oc bF n x.2 x.1=oc bF n 0 L) [0,1,2,6] [] (λx=>[(7,u x.2),(8,u ((x.2+20:Nat):Int))]) (λx=>[(2000,jc v (x.1.map e))]) (λx=>n-x.2) (L,0) ⟨au7 _,ar,rfl⟩ [(2000,2000)] ?_;rintro⟨jO,a⟩ ⟨h1,A,aa⟩;dsimp only at h1 A aa⊢;refine go ?_;refine gV (t:=decide (((a+20:Nat):Int)<=n)) (λhc=>?_) (λhc=>?_)
 ·have G:a+20<=n:=by simp at hc;omega
  rw[oc,awu G]at aa;have Z:=MU (B:=B) e aq bF b6 cs hcmp v jO a (a+20) auD auD auD;rw[show a+20-(a+1)=19 by omega]at Z;refine mq [(2000,2000)] Z ?_;exact fs (oM bF a jO 19,a+20) [(2000,2000)] ⟨G,by rw[EW];exact A,aa⟩
 have G:¬a+20<=n:=by simp at hc;omega
 rw[oc,axx G]at aa;have Z:=MU (B:=B) e aq bF b6 cs hcmp v jO a n auD auD auD;rw[aa]at Z;refine mq [(2000,2000)] Z ?_;have fe:(oc bF n 0 L).length=n:=by rw[MY,ar]
 have a1:fR bF L=qd bF n 20 (oc bF n 0 L):=by rw[fR,ar]
 rw[a1];refine hf (λx:List bU×Nat=>0<x.2/\x.2<=2*n+20/\x.1.length=n/\qd bF n x.2 x.1=qd bF n 20 (oc bF n 0 L)) [0,1,2] [] (λx=>[(6,u x.2)]) (λx=>[(2000,jc v (x.1.map e))]) (λx=>n-x.2) (oc bF n 0 L,20) ⟨by dsimp only;omega,by dsimp only;omega,fe,rfl⟩ [(2000,2000)] ?_;rintro⟨vw,aP⟩ ⟨g1,fI,g3,g4⟩;dsimp only at g1 fI g3 g4⊢;refine go ?_;refine gV (t:=decide ((aP:Int)<n)) (λbx=>?_) (λbx=>?_)
 ·have oN:aP<n:=by simpa using bx
  rw[qd,awu ⟨oN,g1⟩]at g4;refine hf (λx:List bU×Nat=>x.2<=n/\x.1.length=n/\pu bF n aP x.2 x.1=pu bF n aP 0 vw) [0,1,2,6] [] (λx=>[(7,u x.2),(8,u ((x.2+2*aP:Nat):Int))]) (λx=>[(2000,jc v (x.1.map e))]) (λx=>n-x.2) (vw,0) ⟨au7 _,g3,rfl⟩ [(2000,2000)] ?_;rintro⟨M0,a⟩ ⟨cP,d0,nx⟩;dsimp only at cP d0 nx⊢;refine go ?_;refine gV (t:=decide (((a+2*aP:Nat):Int)<=n)) (λeb=>?_) (λeb=>?_)
  ·have G:a+2*aP<=n:=by simp at eb;omega
   rw[pu,awu ⟨G,g1⟩]at nx;refine mq [(2000,2000)] (MZ e aq bF b6 cs hcmp v (n+1) M0 a (a+aP) (a+2*aP) auD auD auD auD auD) ?_;exact fs (l6 bF (n+1) M0 a (a+aP) (a+2*aP),a+2*aP) [(2000,2000)] ⟨G,by rw[EX];exact d0,nx⟩
  have G:¬a+2*aP<=n:=by simp at eb;omega
  rw[pu,axx auD]at nx;refine gV (t:=decide ((a:Int)+aP<n)) (λod=>?_) (λod=>?_)
  ·have hm:a+aP<n:=by simp at od;omega
   rw[auO hm]at nx;have Z:=MZ (B:=B) e aq bF b6 cs hcmp v (n+1) M0 a (a+aP) n auD auD auD auD auD;rw[nx]at Z;refine mq [(2000,2000)] Z ?_;exact fs (pu bF n aP 0 vw,2*aP) [(2000,2000)] ⟨by dsimp only;omega,by dsimp only;omega,by rw[Ii];exact g3,g4⟩
  have hm:¬a+aP<n:=by simp at od;omega
  rw[auN hm]at nx;subst nx;exact fs (pu bF n aP 0 vw,2*aP) [(2000,2000)] ⟨by dsimp only;omega,by dsimp only;omega,by rw[Ii];exact g3,g4⟩
 have oN:¬aP<n:=by simpa using bx
 rw[qd,axx auD]at g4;rw[<-g4]
 exact⟨.bm [],ak,rfl,a_⟩):p:=h
abbrev l5.T4:=@Tryz.func243
abbrev l5.T5:=@Tryz.ntmps243
theorem l5.T6(e:bU->D)(aq:∀x,Ab (e x))(bF:bU->bU->Int)(b6:Nat)(cs:List D)(hcmp:∀x y,aT B b6 (e x::e y::cs) (u (bF x y)))(v:Value)(L:List bU)(aj:L.length<400000):
  c4 B 243 [.am v,u L.length,.fn (.func b6) [] cs] (aM [(2000,.row v (L.map e) 12 234)]) λd aO=>d=.bm []/\aO=aM [(2000,.row v ((fR bF L).map e) 12 234)]:=T3
theorem T7(h:p:=by
 refine kv T8 T9 λW=>?_;refine go ?_;refine dR (ah.sK aN 2000 rfl rfl rfl rfl) ?_;have Z:=T6 (B:=B) e aq bF b6 cs hcmp v L aj;rw[show L.length=(L.map e).length by simp]at Z;refine mq [(2000,2000)] Z ?_
 exact⟨.bm [],ak,rfl,a_⟩):p:=h
abbrev l5.T8:=@Tryz.func176
abbrev l5.T9:=@Tryz.ntmps176
theorem l5.M1(e:bU->D)(aq:∀x,Ab (e x))(bF:bU->bU->Int)(b6:Nat)(cs:List D)(hcmp:∀x y,aT B b6 (e x::e y::cs) (u (bF x y)))(v:Value)(L:List bU)(aj:L.length<400000):
  c4 B 176 [.am v,.fn (.func b6) [] cs] (aM [(2000,.row v (L.map e) 12 234)]) λd aO=>d=.bm []/\aO=aM [(2000,.row v ((fR bF L).map e) 12 234)]:=T7
abbrev l7.jc(v:Value)(xs:List D):aJ:=.row v xs 1 3
abbrev l7.hA(v:Value)(i:Nat):Value:=h5 v (i*1)
abbrev l7.hD(n:Int):D:=u n
def Cb(d:D):Prop:=∃n,d=l7.hD n/\True/\True
abbrev l7.TN:=@Tryz.func391
abbrev l7.TO:=@Tryz.ntmps391
theorem l7.Ig(e:bU->D)(aq:∀x,Cb (e x))(v:Value)(L:List bU)(a b n:Nat)(b6:Nat)(cs:List D)(ha:a+n<=L.length)(G:b+n<=L.length)(aj:L.length<1000000):
  c4 B 391 [.am v,u a,u b,u n,.fn (.func b6) [] cs] (aM [(2000,.row v (L.map e) 1 3)]) λd aO=>d=.bm []/\aO=aM [(2000,.row v ((k5 L a b n).map e) 1 3)]:=TM
abbrev l7.TQ:=@Tryz.func378
abbrev l7.TR:=@Tryz.ntmps378
theorem l7.TS(e:bU->D)(aq:∀x,Cb (e x))(v:Value)(L:List bU)(a m b:Nat)(b6:Nat)(cs:List D)(ha:a<m)(G:m<b)(fg:b<=L.length)(aj:L.length<1000000):
  c4 B 378 [.am v,u a,u m,u b,.fn (.func b6) [] cs] (aM [(2000,.row v (L.map e) 1 3)]) λd aO=>d=.bm []/\aO=aM [(2000,.row v ((lC m L (m-a) (b-m)).map e) 1 3)]:=TP
abbrev l7.TV:=@Tryz.func336
abbrev l7.TW:=@Tryz.ntmps336
theorem l7.MU(e:bU->D)(aq:∀x,Cb (e x))(bF:bU->bU->Int)(b6:Nat)(cs:List D)(hcmp:∀x y,aT B b6 (e x::e y::cs) (u (bF x y)))(v:Value)(L:List bU)(a b:Nat)(G:b<=L.length)(aj:L.length<1000000)(ha:a<=b):
  c4 B 336 [.am v,u a,u b,.fn (.func b6) [] cs] (aM [(2000,.row v (L.map e) 1 3)]) λd aO=>d=.bm []/\aO=aM [(2000,.row v ((oM bF a L (b-(a+1))).map e) 1 3)]:=TU
abbrev l7.TZ:=@Tryz.func363
abbrev l7.T0:=@Tryz.ntmps363
theorem l7.MZ(e:bU->D)(aq:∀x,Cb (e x))(bF:bU->bU->Int)(b6:Nat)(cs:List D)(hcmp:∀x y,aT B b6 (e x::e y::cs) (u (bF x y)))(v:Value):∀(f:Nat) (L:List bU) (a m b:Nat),b-a<f->a<m->m<b->b<=L.length->L.length<1000000->
  c4 B 363 [.am v,u a,u m,u b,.fn (.func b6) [] cs] (aM [(2000,.row v (L.map e) 1 3)]) λd aO=>d=.bm []/\aO=aM [(2000,.row v ((l6 bF f L a m b).map e) 1 3)]:=TY
abbrev l7.T4:=@Tryz.func326
abbrev l7.T5:=@Tryz.ntmps326
theorem l7.T6(e:bU->D)(aq:∀x,Cb (e x))(bF:bU->bU->Int)(b6:Nat)(cs:List D)(hcmp:∀x y,aT B b6 (e x::e y::cs) (u (bF x y)))(v:Value)(L:List bU)(aj:L.length<400000):
  c4 B 326 [.am v,u L.length,.fn (.func b6) [] cs] (aM [(2000,.row v (L.map e) 1 3)]) λd aO=>d=.bm []/\aO=aM [(2000,.row v ((fR bF L).map e) 1 3)]:=T3
abbrev l7.T8:=@Tryz.func285
abbrev l7.T9:=@Tryz.ntmps285
theorem l7.M1(e:bU->D)(aq:∀x,Cb (e x))(bF:bU->bU->Int)(b6:Nat)(cs:List D)(hcmp:∀x y,aT B b6 (e x::e y::cs) (u (bF x y)))(v:Value)(L:List bU)(aj:L.length<400000):
  c4 B 285 [.am v,.fn (.func b6) [] cs] (aM [(2000,.row v (L.map e) 1 3)]) λd aO=>d=.bm []/\aO=aM [(2000,.row v ((fR bF L).map e) 1 3)]:=T7
end Go.bV.ct
namespace Go.Proofs
open Go.RowKit Go.Shelf
attribute [local go_sem] Oper.semAt_some
variable{α:Type}
def fS.upto(f:Nat->α)(k:Nat):List α:=(List.range k).map f
theorem fS.T_(f:Nat->α)(k:Nat):fS.upto f (k+1)=fS.upto f k++[f k]:=by simp[fS.upto,awh]
theorem fS.aew(f:Nat->α)(k:Nat):(fS.upto f k).length=k:=by simp[fS.upto]
theorem fS.aex(zs:List auM):fS.upto (λj=>zs[j]?.getD []) zs.length=zs:=by apply av1;simp[fS.upto];intro i h1 A;simp[fS.upto,A]
theorem fS.aey(cR:Fence)(n:Nat)(e2:cR.fn 93)(ny:cR.round=none)(ar:1<=n)(l sW t7 oP b off len cap:Nat)(zs:List auM)(T':len*16<=140737488351232)(G:b<oP)(oe Ik:List auM->World->Prop)
  (EY:∀pre x b8,oe pre b8->pre.length<len->YieldAt cR (n-1) Tryz.prog l #[.string ⟨⟨x⟩⟩] b8 λe i_ =>
   (e=.returned (.bool true)/\oe (pre++[x]) i_/\Below oP b8 i_)\/(e=.returned (.bool false)/\Ik (pre++[x]) i_))
  (b8:World) (M2:b8.cell? ⟨sW,t7,none⟩=some (.slice (some ⟨b,off,none⟩) len cap)) (hc:∀j,j<len->b8.cell? ⟨b,off+j,none⟩=some (.string ⟨⟨zs[j]?.getD []⟩⟩)) (h0:oe [] b8) :
  CallsIn cR n Tryz.prog 93 #[.func (.yield l) #[] #[],.pointer (some ⟨sW,t7,none⟩)] b8 λe i_=>(∃v,e=.returned v)/\
   ((∃bl,bl=fS.upto (λj=>zs[j]?.getD []) len/\oe bl i_)\/(∃pre,(∃k,k<=len/\pre=fS.upto (λj=>zs[j]?.getD []) k)/\Ik pre i_)):=by
 refine callsIn_of_wp Tryz.func93 rfl e2 ?_ ny;simp only[Tryz.ntmps93,avN,auX,avh,Nat.reduceAdd,Nat.reduceSub,axz,axA,axO,axD,av4,avQ]
 gi_wp2
 gi_loopw [7] (λi wr=>∃k:Nat,k<=len/\i=.int .i64 k/\oe (fS.upto (λj=>zs[j]?.getD []) k) wr/\Below oP b8 wr)
  (λi _=>len-(intOf i).toNat)
 case atStart=>exact⟨0,au7 _,rfl,h0,Below.refl _ _⟩
 case round =>
  obtain⟨k,Z,rfl,Il,c2⟩:=hrel;have aez:k<len->wr.cell? ⟨b,off+k,none⟩=some (.string ⟨⟨zs[k]?.getD []⟩⟩):=λh=>(c2.cell (p:=⟨b,off+k,none⟩) G).trans (hc k h);by_cases bg:k<len
  ·obtain⟨fn,tmps,assign,body,hy,eJ⟩:=EY _ (zs[k]?.getD []) wr Il (by rw[fS.aew];exact bg);have asx:=aez bg
   gi_wp2
   refine eJ.mono ?_;rintro e yo (⟨rfl,aeA,M3⟩|⟨rfl,aeB⟩)
   ·
    gi_wp2
    go_roundw
    case rel=>exact⟨k+1,by omega,by simp,by rw[fS.T_];exact aeA,c2.trans M3⟩
    case measure=>simp[intOf];omega
   gi_wp2
   refine bodyPost_ret (results_none rfl _ _ _) rfl ?_;exact⟨⟨_,rfl⟩,.inr ⟨_,⟨k+1,by omega,(fS.T_ _ _).symm⟩,aeB⟩⟩
  obtain rfl:k=len:=auD
  gi_wp2
  go_end0
  exact⟨⟨_,rfl⟩,.inl ⟨_,rfl,Il⟩⟩
variable{k:Nat}
theorem fS.aeC(zs:List auM)(Z:k<=zs.length):fS.upto (λj=>zs[j]?.getD []) k=zs.take k:=by apply av1;simp[fS.upto,Z];intro i h1 A;(have:i<zs.length:=by simp[fS.upto]at h1;omega);simp[fS.upto,this]
def fS.EZ(oP:Nat)(b8:World)(mZ:Value)(zs:List auM):Prop :=
 ((∃a,mZ=.slice a 0 0)/\zs=[])\/∃b off cap,mZ=.slice (some ⟨b,off,none⟩) zs.length cap/\b<oP/\∀j,j<zs.length->b8.cell? ⟨b,off+j,none⟩=some (.string ⟨⟨zs[j]?.getD []⟩⟩)
variable{oP:Nat}{mZ:Value}
theorem fS.EZ.below{bL bY:World}(h:Below oP bL bY){zs:List auM}:fS.EZ oP bL mZ zs->fS.EZ oP bY mZ zs
 |.inl e=>.inl e
 |.inr ⟨b,off,cap,e,G,hc⟩=>.inr ⟨b,off,cap,e,G,λj ad=>(h.cell (p:=⟨b,off+j,none⟩) G).trans (hc j ad)⟩
theorem fS.aeD(cR:Fence)(n:Nat)(e2:cR.fn 93)(ny:cR.round=none)(l sW t7:Nat)(a:Option Addr)(oe:List auM->World->Prop)(b8:World)(M2:b8.cell? ⟨sW,t7,none⟩=some (.slice a 0 0))(h0:oe [] b8):
  CallsIn cR n Tryz.prog 93 #[.func (.yield l) #[] #[],.pointer (some ⟨sW,t7,none⟩)] b8 λe i_=>(∃v,e=.returned v)/\oe [] i_:=by
 refine callsIn_of_wp Tryz.func93 rfl e2 ?_ ny;simp only[Tryz.ntmps93,avN,auX,avh,Nat.reduceAdd,Nat.reduceSub,axz,axA,axO,axD,av4,avQ]
 gi_wp2
 gi_loopw [7] (λi wr=>i=.int .i64 0/\oe [] wr) (λ_ _=>0)
 case atStart=>exact⟨rfl,h0⟩
 case round =>
  obtain⟨rfl,Il⟩:=hrel
  gi_wp2
  go_end0
  exact⟨⟨_,rfl⟩,Il⟩
theorem fS.Ua(cR:Fence)(n:Nat)(e2:cR.fn 93)(ny:cR.round=none)(ar:1<=n)(sW t7 oP:Nat)(mZ:Value)(zs:List auM)(T':zs.length*16<=140737488351232)(w:World)(M2:sW<w.heap.size)(aeE:oP<=w.heap.size)
  (hc:w.cell? ⟨sW,t7,none⟩=some mZ) (bf:fS.EZ oP w mZ zs) :
  SeqStopsK cR n Tryz.prog 93 #[.pointer (some ⟨sW,t7,none⟩)] (λx:auM=>#[Value.string ⟨⟨x⟩⟩]) (Below oP) (λbl=>bl=zs) (λpre=>pre <+: zs) zs.length w:=λl oe Ik b8 Ad _ _ EY h0=>by
 have og:=(Ad.cell (p:=⟨sW,t7,none⟩) M2).trans hc;rcases bf.below (Ad.mono aeE)with⟨⟨a,rfl⟩,rfl⟩|⟨b,off,cap,rfl,G,hcs⟩
 ·exact(fS.aeD cR n e2 ny l sW t7 a oe b8 og h0).mono λe i_ ⟨aq,ad⟩=>⟨aq,.inl ⟨_,rfl,ad⟩⟩
 refine(fS.aey cR n e2 ny ar l sW t7 oP b off zs.length cap zs T' G oe Ik EY b8 og hcs h0).mono ?_;rintro e i_ ⟨aq,⟨bl,rfl,ad⟩|⟨pre,⟨k,Z,rfl⟩,ad⟩⟩
 ·exact⟨aq,.inl ⟨_,fS.aex zs,ad⟩⟩
 exact⟨aq,.inr ⟨_,by rw[fS.aeC zs Z];exact List.take_prefix _ _,ad⟩⟩
open Go.Maps Go.Sort
variable{P:Program}{ρ:Ren}{w0 b8 i_:World}
theorem aeF{n:Nat}(h:Below n w0 b8)(bt:Below n w0 i_)(hs:b8.heap.size<=i_.heap.size):Below n b8 i_ :=
 ⟨bt.os.trans h.os.symm,bt.tape.trans h.tape.symm,bt.output.trans h.output.symm,hs,λk Z=>(bt.block k Z).trans (h.block k Z).symm⟩
theorem fS.aeG{cR:Fence}{m l:Nat}{x:auM}{oe:List auM->World->Prop}{pre:List auM}(Cc:oe pre b8)(G:∀s b8,oe s b8->Below oP w0 b8)(h:YieldAt cR m P l #[encStr x] b8 λe i_=>e=.returned (.bool true)/\oe (pre++[x]) i_/\KeepsWalks b8 i_): YieldAt cR m P l #[encStr x] b8 λe i_=>(e=.returned (.bool true)/\oe (pre++[x]) i_/\Below oP b8 i_)\/(e=.returned (.bool false)/\False):=by obtain⟨fn,tmps,assign,body,hy,eJ⟩:=h;exact⟨fn,tmps,assign,body,hy,eJ.mono λe w' ⟨h1,A,aa⟩=>.inl ⟨h1,A,aeF (G _ _ Cc) (G _ _ A) aa.size⟩⟩
theorem fS.aeH(L:SlLaysZ.n11 P ρ)(cR:Fence)(n:Nat)(rS:cR.fn (ρ.f 11))(ny:cR.round=none)(ar:2<=n)(g:Nat)(rX:Array Value)(M4:cR.fn g)(eg:∀args w,(callFunc g args).run P w=.ok (.enter g args) w)
  (S nn:List auM->Prop) (bA:Nat) (hN:bA<=maxLen) (Im:bA*16<=140737488355328) (w:World) (M5:SeqStopsK cR (n-1) P g rX (λx=>#[encStr x]) (Below w.heap.size) S nn bA w) :
  CallsIn cR n P (ρ.f 11) #[.slice none 0 0,.func (.func g) #[] rX] w λe w'=>∃(v:Value) (ch:List auM),e=.returned v/\S ch/\w'.ownsRow w.heap.size (ρ.t 26) 1 v ch.length (ch.map encStr)/\(v=.slice none 0 0↔ch=[])/\Below w.heap.size w w':=by
 have h1:1<=n:=auD
 have mixed:=L.mixed;have t0:=L.t0;have a0:=L.a0;have z0:=L.z0;have v0:=L.v0;have t24:=L.t24;have a24:=L.a24;have z24:=L.z24;have v24:=L.v24;have t26:=L.t26;have a26:=L.a26;have z26:=L.z26;have v26:=L.v26;have t28:=L.t28;have a28:=L.a28;have z28:=L.z28;have v28:=L.v28
 have aZ:ρ.t 24≠ρ.t 26:=λe=>by have h:=L.t24;rw[e,L.t26]at h;cases h
 have u0:=run_underlying L.t0;have u24:=run_underlying L.t24;have u26:=run_underlying L.t26;have u28:=run_underlying L.t28
 obtain⟨_,_,M6⟩:=L.f11;refine callsIn_of_wp_marks M6 rfl rS ?_ ny;simp only[SlBodyZ.n11_ntmps ρ,avN,auX,avh,Nat.reduceAdd,Nat.reduceSub,axz,axA,axO,axD,av4,avQ]
 gi_wp2
 refine wpIn_rangeFunc ?_;intro fn jm;rw[ny];obtain⟨B,Io⟩:∃B,w.alloc (.cells #[.slice none 0 0] (ρ.t 24))=B:=⟨_,rfl⟩;have dG:B.heap.size=w.heap.size+1:=by rw[<-Io];simp
 have pe:B.heap[w.heap.size]?=some (.cells #[.slice none 0 0] (ρ.t 24) (0,0)):=by rw[<-Io];exact World.alloc_heap_new w _
 have tS:Below w.heap.size w B:=by rw[<-Io];exact(Below.refl _ w).alloc (auW _) _
 rw[Io];obtain⟨vx,Cd⟩:∃vx,(B.alloc (.deferred (some []))).alloc (.loop (AnyZ.apRec ρ fn (.func (.func g) #[] rX) w.heap.size B.heap.size .ready none))=vx:=⟨_,rfl⟩
 have Hn:∀k,k<B.heap.size->vx.heap[k]?=B.heap[k]?:=λk Z=>by
  rw[<-Cd];exact(Below.heap_alloc _ _ k auE).trans (Below.heap_alloc _ _ k Z)
 have lo:Below w.heap.size w vx:=by rw[<-Cd];exact(tS.alloc tS.size _).alloc (by have:=tS.size;simp;omega) _
 have iJ:vx.heap.size=B.heap.size+2:=by rw[<-Cd];simp
 have gT:AnyZ.ApAt ρ w fn (.func (.func g) #[] rX) w.heap.size (B.heap.size+1) B.heap.size [] vx :=
  ⟨⟨_,(Hn w.heap.size auD).trans pe,⟨rfl,.inl ⟨rfl,rfl⟩⟩,by simp⟩,
   by rw[<-Cd];have:=World.alloc_heap_new (B.alloc (.deferred (some []))) (.loop (AnyZ.apRec ρ fn (.func (.func g) #[] rX) w.heap.size B.heap.size .ready none));rwa [World.size_alloc]at this,
   by rw[<-Cd];exact(Below.heap_alloc _ _ _ auF).trans (World.alloc_heap_new B _),lo⟩
 refine⟨B.heap.size+1,[{target:=.collected B.heap.size,args:=#[]}],vx,{target:=.fn (.func g) rX,args:=#[.func (.yield (B.heap.size+1)) #[] #[]]},vx,g,
  #[.func (.yield (B.heap.size+1)) #[] #[]]++rX,vx,?_,?_,?_,?_,λ_=>h1,?_⟩
 ·rw[<-Cd];exact run_enterLoop_outer _ _ _ _ _
 ·simp[resolve,go_sem]
 ·intro w1 fZ;simp[Target.leads]at fZ;subst fZ;exact M4
 ·simp[invoke,go_sem,eg]
 refine(M5 (B.heap.size+1) (AnyZ.ApAt ρ w fn (.func (.func g) #[] rX) w.heap.size (B.heap.size+1) B.heap.size) (λ_ _=>False) vx lo (AnyZ.ap_abides ρ _ _ _ _ _ _ _ lo.size) (λ_ _ _ _ hs _ _=>hs)
  (λpre x b8 Cc aj=>fS.aeG Cc (λs b8 h=>AnyZ.ApAt.below h)<|AnyZ.apYield {L with} cR (n-1-1) w fn jm _ w.heap.size (B.heap.size+1) B.heap.size auD auD auD (auW _) auD bA hN Im pre x b8 Cc aj) gT).mono ?_
 rintro e Ub ⟨⟨v0,rfl⟩,pc⟩;obtain⟨ch,gU,A⟩:=pc.resolve_right (λ⟨_,_,M⟩=>M);obtain⟨v,X,dQ,p2⟩:=A.box;have u9:=run_endLoop (P:=P) A.L (by simp[AnyZ.apRec]);obtain⟨yo,E0⟩:∃yo,Ub.putObj (B.heap.size+1) (.loop {AnyZ.apRec ρ fn (.func (.func g) #[] rX) w.heap.size B.heap.size .ready none with state:=.exhausted})=yo:=⟨_,rfl⟩;rw[E0]at u9;have w2:Ub.grownBy yo (some (B.heap.size+1)):=by rw[<-E0];exact grownBy_putObj_a _ _ _
 have Ae:yo.heap[w.heap.size]?=some (.cells #[v] (ρ.t 24) (0,0)):=by rw[<-E0];exact(World.putObj_heap_other auD).trans X
 have Uc:yo.heap[B.heap.size]?=some (.deferred (some [])):=by rw[<-E0];exact(World.putObj_heap_other auD).trans A.K
 have Ud:=dQ.kept w2 (ownsRow_ne_a dQ A.L (λfX e=>by first|cases e|exact aZ (Obj.cells.inj e).2.1));have Ce:Below w.heap.size w yo:=A.below.grown w2 A.below.size (λk e=>by cases e;omega);obtain⟨eb,Ip⟩:=cell_of_box_a Ae;clear E0;refine⟨none,yo,u9,?_⟩
 gi_wp2
 rw[<-dG];refine⟨by simp,.inl ⟨_,_,rfl,run_takeDeferred Uc,?_⟩⟩;exact⟨_,results_tmp rfl _ _ _,v,ch,rfl,gU,Ud.kept (grownBy_putObj_a _ _ _) (ownsRow_ne_a Ud Uc (λfX e=>by first|cases e|exact aZ (Obj.cells.inj e).2.1)),p2,Ce.grown (grownBy_putObj_a _ _ _) Ce.size (λk e=>by cases e;omega)⟩
theorem fS.Ue(L:SlLaysZ.n8 P ρ)(cR:Fence)(n:Nat)(f1:cR.fn (ρ.f 8))(rS:cR.fn (ρ.f 11))(ny:cR.round=none)(ar:3<=n)(g:Nat)(rX:Array Value)(M4:cR.fn g)(eg:∀args w,(callFunc g args).run P w=.ok (.enter g args) w)(S nn:List auM->Prop)(bA:Nat)(hN:bA<=maxLen)(Im:bA*16<=140737488355328)(w:World)(M5:SeqStopsK cR (n-1-1) P g rX (λx=>#[encStr x]) (Below w.heap.size) S nn bA w): CallsIn cR n P (ρ.f 8) #[.func (.func g) #[] rX] w λe w'=>∃(v:Value) (ch:List auM),e=.returned v/\S ch/\w'.ownsRow w.heap.size (ρ.t 26) 1 v ch.length (ch.map encStr)/\(v=.slice none 0 0↔ch=[])/\Below w.heap.size w w':=by(have h1:1<=n:=by omega);have Uf:∀args w,(callFunc (ρ.f 11) args).run P w=.ok (.enter (ρ.f 11) args) w:=L.f11.enters rfl;have mixed:=L.mixed;have t0:=L.t0;have a0:=L.a0;have z0:=L.z0;have v0:=L.v0;have t24:=L.t24;have a24:=L.a24;have z24:=L.z24;have v24:=L.v24;have t26:=L.t26;have a26:=L.a26;have z26:=L.z26;have v26:=L.v26;have t28:=L.t28;have a28:=L.a28;have z28:=L.z28;have v28:=L.v28;have u0:=run_underlying L.t0;have u24:=run_underlying L.t24;have u26:=run_underlying L.t26;have u28:=run_underlying L.t28;obtain⟨_,_,M6⟩:=L.f8;refine callsIn_of_wp M6 rfl f1 ?_ ny;simp only[SlBodyZ.n8_ntmps ρ,avN,auX,avh,Nat.reduceAdd,Nat.reduceSub,axz,axA,axO,axD,av4,avQ];gi_wp2_with (gi_at_fn (ρ.f 11);refine(fS.aeH {L with} cR (n-1) rS ny auD g rX M4 eg S nn bA hN Im _ M5).mono ?_;rintro e w' ⟨v,ch,rfl,gU,dQ,p2,G⟩);go_ret;exact⟨v,ch,rfl,gU,dQ,p2,G⟩
end Go.Proofs
