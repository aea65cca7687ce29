/- Contracts of the program's functions, part 2. No conditions of its own. -/
import Derived.Test.YtfnpcdbnoggloaaGreatDoorL1
import Derived.ChangeKeysEq
import Derived.Lib.UnsafeStr
import Derived.Deep.AppendSrc
import Derived.Deep.Upon
import Derived.Lib.AppendZerosOnto
import Derived.Laws.Externs
import Derived.Laws.IdiomCopy
import Derived.RangeFuncBox
import Derived.RangeFuncLeaves
import Derived.Shelf.Abstract
import Derived.WalkKit
import Derived.OwnWalkIn
import Derived.TacticsInMore
import Derived.LoopNIn
import Derived.LoopIn
import Derived.Test.YtfnpcdbnoggloaaGreatDoorProg
import Derived.Shelf.SlIter.Collect
import Derived.RangeFuncKeeps
import Derived.DeepKeys3
set_option linter.unnecessarySimpa false
set_option linter.unusedSimpArgs false
set_option linter.unusedVariables false
set_option maxRecDepth 100000
set_option maxHeartbeats 16000000
namespace Go.bS
open Go Go.RowKit
variable{P:Program}{B:World}{am:Nat}
def Ez(P:Program)(B:World)(ay:List bx)(am:Nat)(ops:Array Oper):List Oper->aw->(aw->Prop)->Prop
 |[],A,K=>K A
 |⟨dst,op,_,_,_,guard⟩::rest,A,K=>iY am dst=true/\(match guard with
  |none=>True
  |some (j,iG)=>∃g,(ops[j]?).bind (·.dst)=some g/\A.t g=.bool iG)/\
  ((n1 P B ay A dst op λaz=>Ez P B ay am ops rest az K)\/af P B am A dst op λaz=>Ez P B ay am ops rest az K)
theorem Sw{ay:List bx}(hT:dg P ay){U:b7 P B am}{ops:Array Oper}{a6:Exit->Act->World->Prop}{K:aw->Prop}(f_:∀az bv w' aO,K az->bG U w' aO az bv->a6 .normal bv w'): ∀{l:List Oper} {A:aw} (_:Ez P B ay am ops l A K) {a:Act} {w:World} {C:Nat->Nat} (_:bG U w C A a),wpList P ops a6 l a w
 |[],_,I,_,_,_,M=>f_ _ _ _ _ I M
 |o::rest,A,I,a,w,C,M=>by obtain⟨N,aT,I⟩:=I;(have next:∀bv w',(∃az aO,Ez P B ay am ops rest az K/\bG U w' aO az bv)->wpList P ops a6 rest bv w':=λbv w' ⟨az,aO,h1,z⟩=>Sw hT f_ h1 z);(have cG:Region.wanted o (yielded ops a.tmps)=true:=axp);unfold wpList;rw[atH cG];rcases I with I|I;(·exact .inl (Oper.wp_mono next (tR hT M N I a6)));obtain⟨dst,op,type,pos,after,guard⟩:=o;exact .inl (Oper.wp_mono next (I.run U w C a M N type pos after a6))
variable{U:b7 P B am}{id:Nat}{ops:Array Oper}{A:aw}{K:cK->aw->Prop}
theorem Y.Mg{ay:List bx}(hT:dg P ay)(I:Ez P B ay am ops ops.toList A (K .normal)):Y U (.region id ops false) A K :=
 ⟨λ_ _ _ M=>wp_region_list (Sw hT (λaz _ _ aO hK bJ=>⟨.normal,az,aO,rfl,hK,bJ⟩) I M)⟩
variable{dst:Option Tmp}{sT mE hU:Operand}{ga a2 a3:Int}
theorem af.acF{K:aw->Prop}{t e:TypeId}{i:TypeInfo}{q:IntKind}(ao:P.underlying t=some (.array 3 e))(hi:P.info? e=some i)(hsz:i.size=1)
  (bz:∀w,(zeroValue t).run P w=.ok (.agg #[.int q 0,.int q 0,.int q 0]) w) (h0:A.a8 sT=.int q ga) (h1:A.a8 mE=.int q a2) (z:A.a8 hU=.int q a3)
  (hK:K (A.put dst (.agg [.int q ga,.int q a2,.int q a3]))):af P B am A dst (.build t #[(0,sT),(1,mE),(2,hU)]) K :=
 .val λU w C a M type pos after=>by
  have v0:=cr M.tmps sT;rw[h0]at v0
  have jz:=cr M.tmps mE;rw[h1]at jz
  have v2:=cr M.tmps hU;rw[z]at v2
  refine⟨.agg #[.int q ga,.int q a2,.int q a3],w,C,A,_,?_,M,.agg [.int q ga,.int q a2,.int q a3] [.int q ga,.int q a2,.int q a3] rfl (λj d v N W=>?_),hK⟩
  ·simp[execOp,v0.fr,jz.fr,v2.fr,Instr.build,bz,run_underlying ao,zH hi,hsz,Result.andThen,Instr.fill,Value.cells]
  match j with
  |0=>cases N;cases W;exact .int _ _
  |1=>cases N;cases W;exact .int _ _
  |2=>cases N;cases W;exact .int _ _
  |j+3=>simp at N
variable{C:Nat->Nat}{a:Act}{w:World}{v:Value}{xs:List D}{k e:Nat}
theorem bG.commit(M:bG U w C A a)(s:Nat)(hs:A.H s=some (.row v xs k e))(az:aw)(ax:∀w C,bf w C (.Q (.own s v) k xs) v->∀j aj,bf w C (A.t j) aj->bf w C (az.t j) aj)(cy:∀j o,az.H j=some o->(j=s/\o=.own v xs.length k e)\/(j≠s/\A.H j=some o)): ∃aO,bf w aO (.Q (.own s v) k xs) v/\bG U w aO az a:=by obtain⟨bv,cap,W,hc,hm,X,eJ,cG⟩:=M.heap.b' s _ hs;by_cases h0:0<cap;obtain⟨b,vs,rfl,G,hsz,c6,ae⟩:=cG h0;have eK:aI.ec (.row v xs k e) b:=⟨_,cap,W,h0⟩;have jw:n0 w C w (gy C b (xs.length*k)):=⟨atP _,λx _=>En C b _ atv x,λ_ _ _ _=>rfl⟩;have aZ:c7 (λx=>x=b) w C w (gy C b (xs.length*k)):=⟨jw,rfl,rfl,rfl,λx _ F=>⟨rfl,rI _ _ F⟩⟩;(have dN:bf w (gy C b (xs.length*k)) (.Q (.own s v) k xs) v:=by have:=x2 (w:=w) (C:=gy C b (xs.length*k)) (tg:=.own s v) (k:=k) (xs:=xs) (vs:=vs.toList) (b:=b) (e:=e) (j_:=(0,0)) (cap:=cap) G X hc hm (by rw[ht];exact atP _) (λj d N=>axW) W.symm;rw[W]at this⊢;exact this);refine⟨gy C b (xs.length*k),dN,⟨λj=>ax _ _ dN j _ ((M.tmps j).ext jw),⟨λj o ag=>?_,λj eu o bI x aX h1 z ao cS=>?_,λj o x ag ao=>?_⟩,M.size,M.defers,?_⟩⟩;rcases cy j o ag with⟨rfl,rfl⟩|⟨Z,ag⟩;exact⟨_,cap,W,hc,hm,λ_=>⟨b,vs,rfl,G,hsz,ht _ _ _⟩⟩;exact(M.heap.b' j o ag).iE jw λx F=>⟨rfl,rI _ _ λe=>by subst e;exact M.heap.inj j s o _ x Z ag hs F eK⟩;(have key:∀j o,az.H j=some o->o.ec x->∃da,A.H j=some da/\da.ec x:=λj o ag ao=>by rcases cy j o ag with⟨rfl,rfl⟩|⟨_,ag⟩;obtain⟨bI,h6,aa,aC⟩:=ao;rw[W]at aa;have:=pa aa;subst this;exact⟨_,hs,eK⟩;exact⟨o,ag,ao⟩);obtain⟨da,aa,aC⟩:=key j o h1 ao;obtain⟨jU,a_,cC⟩:=key eu bI z cS;exact M.heap.inj j eu da jU x aX aa a_ aC cC;rcases cy j o ag with⟨rfl,rfl⟩|⟨_,ag⟩;obtain⟨bI,h6,aa,aC⟩:=ao;rw[W]at aa;have:=pa aa;subst this;exact M.heap.cJ _ _ _ hs eK;exact M.heap.cJ j o x ag ao;refine M.step.trans aZ λx F wO=>?_;subst wO;rcases M.heap.cJ s _ _ hs eK with h1|h1;exact h1;omega;have F:xs=[]:=atY atv;subst F;(have hcap:cap=0:=by omega);subst hcap;(have dN:bf w C (.Q (.own s v) k []) v:=by cases bv with|none=>rw[W];exact .jr _ _ none rfl|some dF =>obtain⟨b,rfl,G⟩:=eJ dF rfl;rw[W];exact .Q _ _ [] b 0 0 (λ_=>undef) rfl G (atP _) (at7 _) (λx F=>by cases F) atx (λj d N=>by simp[b1]at N) (λj d N=>by simp[b1]at N) (λj d N=>by simp[b1]at N));(have tT:∀j o x,az.H j=some o->o.ec x->j≠s/\A.H j=some o:=λj o x ag ao=>by rcases cy j o ag with⟨rfl,rfl⟩|z;obtain⟨bI,h6,aa,aC⟩:=ao;rw[W]at aa;simp only[Value.slice.injEq]at aa;simp at aC;omega;exact z);refine⟨C,dN,⟨λj=>ax _ _ dN j _ (M.tmps j),⟨λj o ag=>?_,λj eu o bI x aX h1 z ao cS=>?_,λj o x ag ao=>?_⟩,M.size,M.defers,M.step⟩⟩;rcases cy j o ag with⟨rfl,rfl⟩|⟨Z,ag⟩;exact⟨_,0,W,atP _,at7 _,λh=>absurd h atx⟩;exact M.heap.b' j o ag;exact M.heap.inj j eu o bI x aX (tT j o x h1 ao).2 (tT eu bI x z cS).2 ao cS;exact M.heap.cJ j o x (tT j o x ag ao).2 ao
variable{c:Code}{aA:List D}{b:Nat}
theorem Y.HJ(s q i:Nat)(hs:A.H s=some (.row v xs k e))(I:A.H q=some (.box b aA))(Ml:q≠s)(hi:aA[i]?=some (.an v))
  (h:Y U c ((A.b2 s none).b2 q (some (.box b (iF aA i (.Q .none k xs))))) K):Y U c A K :=
 ⟨λa w C M=>by
  obtain⟨aO,dN,fW⟩:=M.commit s hs (A.b2 s none) (λw C _ j aj ae=>ae) (λj o ag=>by
   by_cases Z:j=s
   ·subst Z;rw[qK]at ag;cases ag
   rw[mw A none Z]at ag;exact .inr ⟨Z,ag⟩)
  have vd:(A.b2 s none).H q=some (.box b aA):=by rw[mw A none Ml];exact I
  exact h.run a w aO (fW.HB q vd λdh ae=>db.cell ae λaj ao=>(db.Sk ae hi ao) ▸ dN.js)⟩
theorem Y.BZ(s j:Nat)(x:D)(Z:A.t j=.box s b 0)(hs:A.H s=some (.box b aA))(F:x.cells=aA)(ef:aA.all D.one=true)
  (h:Y U c {t:=λi=>_root_.cond (Nat.beq i j) (.a7 aA.length [x] 0 0) (A.t i),H:=λi=>_root_.cond (Nat.beq i s) none (A.H i)} K) (au:∀(w:World) (C:Nat->Nat) v,bf w C (.box s b 0) v->v=.pointer (some ⟨b,0,none⟩):=by intro w C v h;cases h;rfl):Y U c A K :=
 ⟨λa w C M=>by
  obtain⟨vs,e,h1,z,aa⟩:=M.heap.b' s _ hs;have jw:n0 w C w (gy C b aA.length):=⟨atP _,λx _=>En C b _ atv x,λ_ _ _ _=>rfl⟩;have aZ:c7 (λx=>x=b) w C w (gy C b aA.length):=⟨jw,rfl,rfl,rfl,λx _ F=>⟨rfl,rI _ _ F⟩⟩
  have fW:bG U w (gy C b aA.length) (A.b2 s none) a:=M.b2 aZ (λx F=>by subst F;exact M.heap.cJ s _ x hs rfl)
   (λbp o x aX ag ao F=>ax3) (λx F=>by cases F)
  have qW:=z.ext jw
  have dN:bf w (gy C b aA.length) (.Q .none aA.length [x]) (.slice (some ⟨b,0,none⟩) 1 1) :=
   x2 (xs:=[x]) (vs:=vs) (j_:=(0,0)) (e:=e) h1 (λy hy=>by rw[auv.1 hy,F]) (atP _) aty (by rw[ht];simp) (λi d N=>by
    have hr:aA[i]?=some d:=by simpa[b1,F]using N
    obtain⟨aj,ao⟩:=lW (l:=vs) (i:=i) (by rw[<-z.1];exact e8 hr)
    exact⟨aj,ao,qW.2 i d aj hr ao,z.one ef aj (aub.2 ⟨i,ao⟩)⟩) trivial
  refine h.run a w _ ⟨λi=>?_,⟨λi o ag=>?_,λi hu o bI y aX ha G=>?_,λi o y ag=>?_⟩,fW.size,fW.defers,fW.step⟩
  ·show bf _ _ (_root_.cond (Nat.beq i j) _ _) _
   cases hi:Nat.beq i j with
   |false=>exact fW.tmps i
   |true =>
    have:=aua hi;subst this
    have a_:=M.tmps i;rw[Z]at a_;rw[au _ _ _ a_];have:=bf.a7 aA.length [x] 0 0 b 0 1 dN;simpa using this
  ·refine fW.heap.b' i o ?_;exact ag
  ·exact fW.heap.inj i hu o bI y aX ha G
  exact fW.heap.cJ i o y ag⟩
variable{x:Operand}{i:Nat}
theorem af.Mm{K:aw->Prop}{off:Nat}(F:A.a8 x=.a7 k xs i off)(hK:K (A.put dst (.a7 k xs i off))):af P B am A dst (.nilCheck x) K :=
 .val λU w C a M type pos after=>by
  have W:=cr M.tmps x;rw[F]at W
  refine⟨a.eval x,w,C,A,_,?_,M,W,hK⟩
  have key:∃dF,a.eval x=.pointer (some dF):=by
   generalize a.eval x=aj at W
   cases W with
   |a7 k xs i off b o cap h=>exact⟨_,rfl⟩
  obtain⟨dF,h⟩:=key;simp only[execOp,h,Sem.run_pure]
variable{rt:TypeId}
theorem af.acG{K:aw->Prop}{t ca:TypeId}{off:Nat}(au:P.underlying t=some (.pointer ca))(F:A.a8 x=.a7 k xs i off)(hK:K (A.put dst (.bool false))):af P B am A dst (.binOp .eql t x (.const (.pointer none)) rt) K :=
 .val λU w C a M type pos after=>by
  have W:=cr M.tmps x;rw[F]at W
  have key:∃dF,a.eval x=.pointer (some dF):=by
   generalize a.eval x=aj at W
   cases W with
   |a7 k xs i off b o cap h=>exact⟨_,rfl⟩
  obtain⟨dF,h⟩:=key;refine⟨.bool false,w,C,A,_,?_,M,.bool _,hK⟩;have eV:a.eval (.const (.pointer none))=.pointer none:=rfl;have aC:=zG (P:=P) .eql t x (.const (.pointer none)) (.pointer (some dF)) (.pointer none) w atx atx
  have cC:(binOp .eql t (.pointer (some dF)) (.pointer none)).run P w=.ok (.bool false) w:=by
   have h:∀d:Nat,(Op.equalIn (d+1) t (.pointer (some dF)) (.pointer none)).run P w=.ok false w:=λd=>by
    simp[Op.equalIn,run_underlying au]
   simp only[binOp];simp[Op.equal,Op.maxDepth,h 9999]
  simp only[execOp,h,eV,Sem.run_bind,aC,cC,Result.andThen_ok,Sem.run_pure]
theorem af.acH{K:aw->Prop}{t ca:TypeId}(au:P.underlying t=some (.pointer ca))(F:A.a8 x=.an (.pointer none))(hK:K (A.put dst (.bool true))):af P B am A dst (.binOp .eql t x (.const (.pointer none)) rt) K :=
 .val λU w C a M type pos after=>by
  have W:=cr M.tmps x;rw[F]at W
  have h:a.eval x=.pointer none:=by
   generalize a.eval x=aj at W;cases W;rfl
  refine⟨.bool true,w,C,A,_,?_,M,.bool _,hK⟩;have eV:a.eval (.const (.pointer none))=.pointer none:=rfl;have aC:=zG (P:=P) .eql t x (.const (.pointer none)) (.pointer none) (.pointer none) w atx atx
  have cC:(binOp .eql t (.pointer none) (.pointer none)).run P w=.ok (.bool true) w:=by
   have h:∀d:Nat,(Op.equalIn (d+1) t (.pointer none) (.pointer none)).run P w=.ok true w:=λd=>by
    simp[Op.equalIn,run_underlying au]
   simp only[binOp];simp[Op.equal,Op.maxDepth,h 9999]
  simp only[execOp,h,eV,Sem.run_bind,aC,cC,Result.andThen_ok,Sem.run_pure]
variable{K:aw->Prop}{ay:List bx}{j:Nat}{d:D}
theorem acI(X:∀x∈xs,x.cells.length=k)(hi:xs[i]?=some (.agg aA))(Z:j<k)(m:Nat): (b1 (xs.set i (.agg (iF aA j d))))[m]?=if m=i*k+j then some d else(b1 xs)[m]?:=by have c0:=e8 hi;have hcs:aA.length=k:=X _ (at2 hi);(have hy:(D.agg (iF aA j d)).cells.length=k:=by show(iF aA j d).length=k;rw[Lw,hcs]);have du:=pP X;(have dV:i*k+k<=xs.length*k:=by rw[<-avR];exact avh k c0);rw[HA X c0 hy,p0 _ _ _ (by rw[du,hy];exact dV)];by_cases h:i*k<=m/\m<i*k+k;rw[atH ⟨h.1,by rw[hy];exact h.2,by omega⟩];show(iF aA j d)[m-i*k]?=_;rw[Lx];have z:=wF X hi (j:=m-i*k) atv;rw[show i*k+(m-i*k)=m by omega]at z;by_cases e:m=i*k+j;rw[atH ⟨by omega,by omega⟩,atH e];rw[atG atv,atG e,z];rfl;rw[atG (λcy=>h ⟨cy.1,by have:=cy.2.1;rw[hy]at this;exact this⟩),atG atv]
variable{t:Nat}{ca:bx}
theorem af.jA(hT:dg P ay){f:Nat}(s:Nat){m o aB:Nat}{mq:Bool}(F:A.a8 x=.an (h_ v m))(hs:A.H s=some (.row v xs k e))(hi:i<xs.length)
  (ax:dw ay t=some ca) (b5:ca.kind=.struct) (lV:ca.o4[f]?=some (o,aB,mq)) (hsz:aB≠0) (hK:K (A.put dst (.an (h_ v (m+o))))):af P B am A dst (.fieldAddr t x f) K :=
 .val λU w C a M type pos after=>by
  obtain⟨c1,rfl⟩:=hT.get ax;have W:=cr M.tmps x;rw[F]at W
  obtain⟨b,cap,vs,rfl,_⟩:=kx.pos (i:=i) (M.heap.b' s _ hs) hi;obtain⟨bW,mr,tK,_⟩:=c1.By b5;obtain⟨gf,du,x0,⟨qG,DY,tL⟩,_,_⟩:=Hl tK lV;have BA:bW[f]?=some gf:=by simpa using du
  refine⟨_,w,C,A,_,?_,M,.an _,hK⟩;simp[execOp,W.fL,h_,Instr.fieldAt,run_underlying mr,BA,Instr.sureAddr,fieldPlace,zH DY,tL,hsz,x0,o5]
variable{y:Operand}
theorem af.vo(hT:dg P ay)(s:Nat)(F:A.a8 x=.an (h_ v (i*k+j)))(hs:A.H s=some (.row v xs k e))(ax:dw ay t=some ca)(hsz:ca.aB=1)
  (hi:xs[i]?=some (.agg aA)) (Z:j<k) (ag:(A.a8 y).one=true) (hK:K ((A.b2 s (some (.row v (xs.set i (.agg (iF aA j (A.a8 y)))) k e))).put dst .undef)):af P B am A dst (.store t x y) K :=
 .unit λU w C a M type pos after=>by
  obtain⟨c1,rfl⟩:=hT.get ax;have c0:=e8 hi;have W:=cr M.tmps x;rw[F]at W
  have hy:=cr M.tmps y;obtain⟨h1,z⟩:=hy.oJ ag;obtain⟨b,cap,vs,rfl,hc,hm,X,G,fM,c6,ae⟩:=kx.pos (M.heap.b' s _ hs) c0;have dV:i*k+k<=cap*k:=by rw[<-avR];exact avh k (auy c0 hc)
  have g5:i*k+j+0+(a.eval y).cells.toList.length<=vs.size:=by rw[h1,fM];simp;omega
  have cU:=run_storeCells_at P b (i*k+j) e (a.eval y).cells.toList 0 vs w G g5 (by rw[h1];simpa using z);simp only[av_]at cU;have aZ:=c7.setRow (C:=C) (n:=0) G (aA:=(vs.toList.take (i*k+j)++(a.eval y).cells.toList++vs.toList.drop (i*k+j+(a.eval y).cells.toList.length)).toArray) atv (λo ag=>by omega);have eK:aI.ec (.row (.slice (some ⟨b,0,none⟩) xs.length cap) xs k e) b:=⟨_,cap,rfl,by omega⟩;refine⟨_,_,_,?_,M.b2 aZ (s:=s) (λx F=>ayv) (λbp bI eh aX c4 ao m5=>?_) λV bz=>?_,hK⟩
  ·simp only[h_,aut]at W;simp only[execOp,W.fL,Instr.storeAt,Instr.sureAddr,Sem.run_bind,Sem.run_pure,Result.andThen_ok,storeVar,c1.size,hsz,h1];rw[h1]at cU;rw[atG atx];exact(atI (λr=>Result.andThen r λ_ w'=>Result.ok Next.skip w') cU).trans rfl
  ·subst m5;exact M.heap.inj bp s bI _ eh aX c4 hs ao eK
  cases bz
  refine⟨⟨_,cap,by rw[avc],by simpa using hc,hm,λV bz=>?_,λdF gg=>⟨b,by cases gg;rfl,by simpa using hR G⟩,λ_=>⟨b,_,rfl,setRow_heap w b _ _ e _ G,?_,ht _ _ _,λm d N=>?_⟩⟩,λx F=>?_⟩
  ·rcases avT bz with bz|rfl
   ·exact X V bz
   show(iF aA j (A.a8 y)).length=k;rw[Lw];exact X _ (at2 hi)
  ·simp only[auH,atO,at4,auS,avy,h1];simp;omega
  ·rw[acI X hi Z]at N;rw[avz,p0 _ _ _ (by simpa using g5)];have kE:(a.eval y).cells.toList.length=1:=by rw[h1];rfl
   rw[kE];by_cases t6:m=i*k+j
   ·rw[atH t6]at N;simp only[aus]at N;subst N;rw[atH ⟨by omega,by omega,by simp;omega⟩,t6,aww];exact⟨a.eval y,by rw[h1];rfl,hy.ext (by rw[kE]at aZ;exact aZ.ext),z⟩
   rw[atG t6]at N;rw[atG atv];obtain⟨aj,aa,aC,a_⟩:=ae m d N;exact⟨aj,by simpa using aa,aC.ext (by rw[kE]at aZ;exact aZ.ext),a_⟩
  obtain⟨h5,h6,dM,_⟩:=F;simp only[Value.slice.injEq,aus,Addr.mk.injEq]at dM;obtain⟨⟨rfl,_⟩,_⟩:=dM;exact⟨M.heap.cJ s _ _ hs eK,.inl rfl⟩
variable{aF:bx}
theorem Sx{e:bx}(ak:e.gk P)(kA:aF.gk P)(b5:e.kind=.slice aF.t)(bz:aF.zero.isSome=true)(h0:0<aF.aB){n:Nat}(av:n*aF.aB<=16777216){ds:List (Nat×D)}(sJ:ds.length=n)(dN:tI aF.aB 0 ds){vs:List (Nat×Value)}(h1:vs.map (·.1)=ds.map (·.1))(z:db w C (ds.map (·.2)) (vs.map (·.2))): ∃dh:List Value,(Instr.buildSlice e.t n ⟨vs⟩).run P w=.ok (.slice (some ⟨w.heap.size,0,none⟩) n n) (w.alloc (.cells dh.toArray aF.t))/\dh.length=n*aF.aB/\(∀x∈ds.map (·.2),x.cells.length=aF.aB)/\∀(j:Nat) d,(b1 (ds.map (·.2)))[j]?=some d->∃aj,dh[j]?=some aj/\bf w C d aj/\aj.oneCell'=true:=by obtain⟨V,bz⟩:=avM.1 bz;obtain⟨i,hi,hs,_,nw⟩:=kA.qF;obtain⟨ei,lX,mt,jR⟩:=nw V bz;obtain⟨tN,hcells⟩:=Lz dN;have ao:=ak.ky b5;(have o6:vs.length=n:=by have:=z.1;simp only[atL]at this;omega);(have fM:vs=((vs.map (·.2)).zipIdx 0).map λx=>(x.2,x.1):=axj);(have hsz:∀(j:Nat) d v,(ds.map (·.2))[j]?=some d->(vs.map (·.2))[j]?=some v->d.cells.length=aF.aB/\v.cells.size=aF.aB/\db w C d.cells v.cells.toList/\∀aj∈v.cells.toList,aj.oneCell'=true:=axA);(have lY:∀v∈vs.map (·.2),v.cells.size=aF.aB:=axu);have D2:=Great.fill_whole h0 (vs.map (·.2)) ((Array.range (n*aF.aB)).map (ei.cells[·%ei.cells.size]!)) lY (by simp only[atL,o6,Array.size_map,Array.size_range]);rw[<-fM]at D2;(have cU:(Instr.buildSlice e.t n ⟨vs⟩).run P w=.ok (.slice (some ⟨w.heap.size,0,none⟩) n n) (w.alloc (.cells ((vs.map (·.2)).flatMap λv=>v.cells.toList).toArray aF.t)):=axf);(have al:(ds.map (·.2)).length=n:=by simpa using sJ);(have X:∀x∈ds.map (·.2),x.cells.length=aF.aB:=axw);have du:=LA (w:=w) (C:=C) (ds:=ds.map (·.2)) (vs:=vs.map (·.2)) z.1 (λi d v N W=>(hsz i d v N W).2.2.1);refine⟨_,cU,?_,X,λj d N=>?_⟩;rw[<-du.1];show(b1 _).length=_;rw[pP X,al];exact axi
variable{s:Nat}{bP:Array (Nat×Operand)}
theorem af.acJ(hT:dg P ay){bH n q:Nat}(ax:dw ay t=some ca)(b5:ca.kind=.slice bH)(fu:dw ay bH=some aF)(aa:Nat.ble (n*aF.aB) 16777216=true)(aC:Nat.blt 0 aF.aB=true)(a_:aF.zero.isSome=true)
  (I:zF true A bP.toList λds=>ds.length=n/\tI aF.aB 0 ds/\∀v,K ((A.b2 q (some (.row v (ds.map (·.2)) aF.aB bH))).put (some s) (.an v))):af P B am A (some s) (.buildSlice t n bP) K :=
 .val λU w C a M type pos after=>by
  obtain⟨c1,rfl⟩:=hT.get ax;obtain⟨fs,rfl⟩:=hT.get fu;obtain⟨ds,⟨sJ,dN,hK⟩,tN,pX⟩:=D0 I;have cC:=pX rfl w C a.eval (λx F=>cr M.tmps x.2)
  obtain⟨dh,cU,z_,X,ae⟩:=Sx (P:=P) c1 fs b5 a_ (auy (auw _) (auk aC)) (auk aa) sJ dN
   (w:=w) (C:=C) (vs:=(bP.map λ(i,x)=>(i,a.eval x)).toList) (by simp[tN]) (by simpa[awc]using cC)
  have al:(ds.map (·.2)).length=n:=by simpa using sJ
  have aZ:=c7.alloc (λ_=>False) w C (.cells dh.toArray aF.t) 0;refine⟨_,_,_,_,_,?_,M.newObj q (mA:=.row (.slice (some ⟨w.heap.size,0,none⟩) n n) (ds.map (·.2)) aF.aB aF.t) (o:=.cells dh.toArray aF.t) ?_ ?_,.an _,hK _⟩
  ·simp only[execOp];rw[Sem.run_bind,cU];rfl
  ·refine⟨_,n,by rw[al],by omega,?_,X,λdF gg=>⟨_,by cases gg;rfl,hR (kB w _)⟩,λ_=>⟨w.heap.size,_,rfl,kB w _,by simpa using z_,ht _ _ _,λj d N=>?_⟩⟩
   ·simp only[maxLen];have eV:=auk aa;have fZ:n<=n*aF.aB:=awS n (auy (auw _) (auk aC));omega
   obtain⟨aj,eV,fZ,hI⟩:=ae j d N;exact⟨aj,by simpa using eV,fZ.ext aZ.ext,hI⟩
  rintro b ⟨h5,cap,h,_⟩;exact pa h
theorem dL.get:∀{wC aP:List D},dL wC aP->wC.length=aP.length/\∀(j:Nat) d',aP[j]?=some d'->∃d,wC[j]?=some d/\aq d d'
 |[],[],_=>⟨rfl,λj d' h=>by simp at h⟩
 |a::r,b::s,h=>by obtain⟨h1,z⟩:=dL.get h.2;refine⟨by simp[h1],λj d' N=>?_⟩;cases j with|zero=>cases N;exact⟨a,rfl,h.1⟩|succ j=>exact z j d' N
 |[],_::_,h=>h.elim
 |_::_,[],h=>h.elim
variable{a':List D}
theorem aq.acK{t:iD}(h:dL (b1 xs) (b1 a'))(al:xs.length=a'.length)(X:∀y∈a',y.cells.length=k):aq (.Q t k xs) (.Q t k a') :=
 ⟨λw C v ae=>by
  obtain⟨_,aT⟩:=h.get
  cases ae with
  |jr t k a ax =>
   have:a'=[]:=atY (by simpa using al.symm)
   subst this;exact .jr _ _ a ax
  |Q t k xs b o cap g ax G hc hm fA c6 gd ef cy =>
   rw[al]at ax hc c6⊢;refine .Q t k a' b o cap g ax G hc hm X c6 (λj d N=>?_) (λj d N=>?_) (λj d N=>?_)
   ·obtain⟨g',h1,_⟩:=aT j d N;exact gd j g' h1
   ·obtain⟨g',h1,_⟩:=aT j d N;exact ef j g' h1
   obtain⟨g',h1,z⟩:=aT j d N;exact z.le _ _ _ (cy j g' h1)⟩
structure ph where
 f7:Nat->Option Nat
 B0:Nat->Option Nat
 pQ:∀j s,f7 j=some s↔B0 s=some j
def ph.same(p:Nat->Bool):ph:=⟨λj=>bif p j then some j else none,λj=>bif p j then some j else none,λj s=>by
  by_cases e:j=s
  ·subst e;rfl
  have oI:¬s=j:=λh=>e h.symm
  cases p j<;>cases p s<;>simp[e,oI]⟩
def yd(H:bF)(m:ph):bF:=λj=>match m.f7 j with|some s=>H s|none=>none
def B1(H aM:bF)(m:ph):bF:=λs=>match m.B0 s with|some j=>aM j|none=>H s
theorem HK{H:bF}{m:ph}{o:aI}(h:yd H m j=some o):∃s,m.f7 j=some s/\H s=some o:=by unfold yd at h;cases e:m.f7 j with|none=>rw[e]at h;cases h|some s=>rw[e]at h;exact⟨s,rfl,h⟩
variable{aM:bF}
theorem HL{H:bF}{m:ph}{o:aI}(h:B1 H aM m s=some o):(∃j,m.B0 s=some j/\aM j=some o)\/(m.B0 s=none/\H s=some o):=by unfold B1 at h;cases e:m.B0 s with|none=>rw[e]at h;exact .inr ⟨rfl,h⟩|some j=>rw[e]at h;exact .inl ⟨j,rfl,h⟩
theorem ph.inj{m:ph}{j eu s bp:Nat}(h:m.f7 j=some s)(bq:m.f7 eu=some bp):j=eu↔s=bp :=
 ⟨λe=>by subst e;rw[h]at bq;exact auA bq,λe=>by
  subst e;have h1:=(m.pQ j s).1 h;have z:=(m.pQ eu s).1 bq
  rw[h1]at z;exact auA z⟩
variable{f:FuncId}{ds:List D}{a6:D->bF->Prop}
theorem acL(M:bG U w C A a)(m:ph){args:List Value}(hc:c8 P B f ds (yd A.H m) a6)(ae:db w C ds args)(N:iY am dst=true){K:aw->Prop}(hK:∀d aM,a6 d aM->∃d',aq d d'/\K (({t:=A.t,H:=B1 A.H aM m}:aw).put dst d')): Calls P f ⟨args⟩ w λe w'=>∃v,e=.returned v/\∃az aO,K az/\bG U w' aO az (a.put dst v):=by let Ft:Nat->Prop:=λb=>∃k s o,m.f7 k=some s/\A.H s=some o/\o.ec b;have tS:∀b,Ft b->U.pS b:=λb ⟨k,s,o,_,h1,z⟩=>M.heap.cJ s o b h1 z;(have hH:mo Ft w C (yd A.H m):=by refine⟨λj o ag=>?_,λj eu o bI b aX h1 z ao cS=>?_,λj o b ag ao=>?_⟩;obtain⟨s,_,h⟩:=HK ag;exact M.heap.b' s o h;obtain⟨s,hs,h⟩:=HK h1;obtain⟨bp,c4,bq⟩:=HK z;have i6:s≠bp:=λe=>aX ((ph.inj hs c4).2 e);exact M.heap.inj s bp o bI b i6 h bq ao cS;obtain⟨s,hs,h⟩:=HK ag;exact⟨j,s,o,hs,h,ao⟩);refine(hc.2 w C args Ft M.base (λb G=>U.DM (tS b G)) hH ae).mono ?_;rintro e w' ⟨v,d,aO,aM,rfl,f_,eO,hs,nB⟩;obtain⟨d',dV,hK⟩:=hK d aM f_;refine⟨v,rfl,_,aO,hK,bG.put ?_ N (dV.le _ _ _ eO)⟩;have qP:∀j o,m.B0 j=none->A.H j=some o->∀b,o.ec b->¬Ft b/\b<w.heap.size:=λj o Z ag b G => ⟨λ⟨k,s,bI,h1,z,aa⟩=>M.heap.inj j s o bI b (λe=>by subst e;rw[(m.pQ k j).1 h1]at Z;cases Z) ag z G aa,(M.heap.b' j o ag).lt G⟩;refine⟨λi=>(M.tmps i).ext hs.ext,⟨λj o ag=>?_,λj eu o bI b aX h1 z ao cS=>?_,λj o b ag ao=>?_⟩,M.size,M.defers,?_⟩;rcases HL ag with⟨k,_,h⟩|⟨Z,h⟩;exact nB.b' k o h;exact(M.heap.b' j o h).iE hs.ext λb G=>hs.iE b (qP j o Z h b G).2 (qP j o Z h b G).1;rcases HL h1 with⟨k,X,h⟩|⟨Z,h⟩<;>rcases HL z with⟨bC,fA,bq⟩|⟨gl,bq⟩;exact nB.inj k bC o bI b (λe=>aX ((ph.inj ((m.pQ k j).2 X) ((m.pQ bC eu).2 fA)).1 e)) h bq ao cS;obtain⟨aa,aC⟩:=qP eu bI gl bq b cS;rcases nB.cJ k o b h ao with a_|a_;exact aa a_;omega;obtain⟨aa,aC⟩:=qP j o Z h b ao;rcases nB.cJ bC bI b bq cS with a_|a_;exact aa a_;omega;exact M.heap.inj j eu o bI b aX h bq ao cS;rcases HL ag with⟨k,_,h⟩|⟨Z,h⟩;rcases nB.cJ k o b h ao with a_|a_;exact tS b a_;exact .inr (avb M.step.ext.size a_);exact M.heap.cJ j o b h ao;exact M.step.trans hs λb G bJ=>ayn
def rW(l:List (Nat×D))(H:bF):aw:={t:=λj=>(aK l j).getD .any,H}
structure fO (A:aw) (l:List (Nat×D)) (H:bF):Prop where
 t:jP A l
 h:∃f7:Nat->Nat,(∀k bC o bI,H k=some o->H bC=some bI->f7 k=f7 bC->k=bC)/\∀k o,H k=some o->A.H (f7 k)=some o
theorem fO.same{l:List (Nat×D)}{H:bF}(h1:jP A l)(z:∀k o,H k=some o->A.H k=some o):fO A l H:=⟨h1,λk=>k,λ_ _ _ _ _ _ e=>e,z⟩
variable{α:Type}
section
variable{K:cK->aw->Prop}
theorem bG.EA{l:List (Nat×D)}{H:bF}(h:bG U w C A a)(X:fO A l H):bG U w C (rW l H) a:=by
 obtain⟨f7,hi,hH⟩:=X.h
 exact⟨λi=>(X.t.aK i).le _ _ _ (h.tmps i),
  ⟨λs o ag=>h.heap.b' (f7 s) o (hH s o ag),λs bp o bI b av aa aC=>h.heap.inj (f7 s) (f7 bp) o bI b (λe=>av (hi s bp o bI aa aC e)) (hH s o aa) (hH bp bI aC),
   λs o b ag=>h.heap.cJ (f7 s) o b (hH s o ag)⟩,h.size,h.defers,h.step⟩
theorem Y.jX(l:List (Nat×D))(H:bF)(h1:fO A l H)(h:Y U c (rW l H) K):Y U c A K :=
 ⟨λa w C M=>h.run a w C (M.EA h1)⟩
def HM(l:α->List (Nat×D))(H:α->bF)(K:cK->aw->Prop):cK->aw->Prop
 |.normal,A=>∃x,fO A (l x) (H x)
 |.exit id,A=>K (.exit id) A
 |.ret,A=>K .ret A
theorem Y.HM{a b:Code}{α:Type}(l:α->List (Nat×D))(H:α->bF)(h:Y U a A (HM l H K))(bq:∀x,Y U b (rW (l x) (H x)) K):Y U (.seq a b) A K :=
 .seq (h.mono λe az X=>by
  cases e with
  |normal=>obtain⟨x,h1⟩:=X;exact(bq x).jX _ _ h1
  |exit id=>exact X
  |ret=>exact X)
def HN(l:α->List (Nat×D))(H:α->bF)(fz:α->Nat)(x:α)(K:cK->aw->Prop):cK->aw->Prop
 |.normal,A=>∃bU,fz bU<fz x/\fO A (l bU) (H bU)
 |.exit id,A=>K (.exit id) A
 |.ret,A=>K .ret A
theorem Y.HN{c:Code}{α:Type}(l:α->List (Nat×D))(H:α->bF)(fz:α->Nat)(ey:α)(h1:fO A (l ey) (H ey))
  (round:∀x,Y U c (rW (l x) (H x)) (HN l H fz x K)):Y U (.loop c) A K :=
 ⟨λa w C M=>by
  have lV:=M.EA h1;intro b k aA
  have key:∀n x,fz x=n->∀a w C,bG U w C (rW (l x) (H x)) a->
    ∃e bv w',(∃c3 az aO,e=cK.f7 c3/\K c3 az/\bG U w' aO az bv)/\Arrives P (lone (b.at a (.code c::.inLoop c::k)) aA w) b k aA e bv w':=by
   intro n
   induction n using Nat.strongRecOn with
   |_ n aY =>
    intro x av a w C M;obtain⟨e,tF,tG,⟨c3,xY,tH,ak,hK,bJ⟩,oG⟩:=(round x).run a w C M b (.inLoop c::k) aA;subst ak
    cases c3 with
    |normal =>
     obtain⟨bU,bi,aa⟩:=hK;obtain⟨DN,a₂,DO,DP,DQ⟩:=aY (fz bU) (av ▸ bi) bU rfl tF tG tH (bJ.EA aa);exact⟨DN,a₂,DO,DP,.of_steps (Steps.trans oG (.one step_inLoop)) DQ⟩
    |exit id=>exact⟨_,tF,tG,⟨.exit id,xY,tH,rfl,hK,bJ⟩,.pass (x:=.inLoop c) rfl (λ_ _=>.inl (by simp[cK.f7])) oG⟩
    |ret=>exact⟨_,tF,tG,⟨.ret,xY,tH,rfl,hK,bJ⟩,.pass (x:=.inLoop c) rfl (λ_ _=>.inl (by simp[cK.f7])) oG⟩
  obtain⟨e,bv,w',I,oG⟩:=key _ ey rfl a w C lV
  exact⟨e,bv,w',I,.of_steps (.one step_loop) oG⟩⟩
end
variable{args:Array Operand}{m8:Array TypeId}{b6:FuncId}{cq:List D}
section
theorem af.Sy{f:Operand}{first:List D}(M:A.a8 f=.fn (.func b6) first cq)
  (g2:List D) (m:ph)  (hc:c8 P B b6 g2 (yd A.H m) a6) (dV:dL (first++args.toList.map A.a8++cq) g2)
  (hK:∀d aM,a6 d aM->∃d',aq d d'/\K (({t:=A.t,H:=B1 A.H aM m}:aw).put dst d')):af P B am A dst (.call ⟨.value f,args,m8⟩) K :=
 ⟨λU w C a l1 N type pos after Q'=>by
  have o':=cr l1.tmps f;rw[M]at o';obtain⟨fK,hp,W,h1,z⟩:=o'.u9
  have aa:db w C (args.toList.map A.a8) (args.toList.map a.eval) :=
   ⟨by simp,λi d v N W=>by
    simp only[aud]at N W
    cases F:args.toList[i]? with
    |none=>rw[F]at N;cases N
    |some x=>rw[F]at N W;cases N;cases W;exact cr l1.tmps x⟩
  have aC:=dV.rH ((h1.append aa).append z);obtain⟨fn,i7,rK,mu⟩:=hc.1;have G:fn.body.isNone=false:=by cases G:fn.body<;>simp[G]at rK⊢
  have cU:(execOp a.eval ⟨dst,.call ⟨.value f,args,m8⟩,type,pos,after,none⟩).run P w=.ok (.enter b6 ⟨fK++args.toList.map a.eval++hp⟩) w:=by
   simp only[execOp,resolve,W,Deferred.ofValue,Sem.run_bind,Sem.run_pure,Result.andThen_ok,invoke,callFunc,run_program,i7,mu,G,auR,avq];congr 2
   apply avE;simp
  simp only[Oper.wp,cU,Oper.upon]
  exact(acL l1 m hc aC N hK).mono λe w' ⟨v,ak,h⟩=>by subst ak;exact h⟩
theorem bG.acM(h:bG U w C A a)(s:Nat)(hs:A.H s=some (.row v xs k e))(al:xs.length=a'.length)(X:∀y∈a',y.cells.length=k)(dV:dL (b1 xs) (b1 a')): bG U w C (A.b2 s (some (.row v a' k e))) a:=by have ag:=h.heap.b' s _ hs;have Hr:∀b,(aI.row v a' k e).ec b->(aI.row v xs k e).ec b:=λb G=>G;refine h.b2 (Ft:=λb=>(aI.row v xs k e).ec b) (.refl _ _ _) (λb G=>h.heap.cJ s _ b hs G) (λbp o b av h1 z=>h.heap.inj bp s o _ b av h1 hs z) λx F=>?_;cases F;refine⟨?_,λb G=>?_⟩;obtain⟨dF,cap,bT,b0,j',z',B2,EB⟩:=ag;refine⟨dF,cap,by rw[<-al];exact bT,by rw[<-al];exact b0,j',X,B2,λhc=>?_⟩;obtain⟨b,vs,jc,lo,sU,f4,EC⟩:=EB hc;refine⟨b,vs,jc,lo,sU,f4,λj d Z=>?_⟩;obtain⟨g',g1,eP⟩:=(dL.get dV).2 j d Z;obtain⟨aj,g3,g4,B3⟩:=EC j g' g1;exact⟨aj,g3,eP.le _ _ _ g4,B3⟩;exact⟨h.heap.cJ s _ b hs (Hr b G),.inl (Hr b G)⟩
theorem Y.vp{K:cK->aw->Prop}(s:Nat)(hs:A.H s=some (.row v xs k e))(al:xs.length=a'.length)(X:∀y∈a',y.cells.length=k)(dV:dL (b1 xs) (b1 a'))
  (h:Y U c (A.b2 s (some (.row v a' k e))) K):Y U c A K:=⟨λa w C M=>h.run a w C (M.acM s hs al X dV)⟩
end
def wW(am:Nat):List Oper->Nat->Bool
 |[],_=>true
 |o::r,i=>iY am o.dst&&(o.after.toList.all λe=>!Region.binds .any e||Nat.blt e.on i)&&wW am r (i+1)
theorem Mn{l:List Oper}:∀{n:Nat},wW am l n=true->∀{i:Nat} {o:Oper},l[i]?=some o->iY am o.dst=true/\∀e∈o.after.toList,Region.binds .any e=true->e.on<n+i:=by induction l with|nil=>intro n _ i o h;simp at h|cons x r aY =>intro n h i o ag;simp only[wW,atM]at h;obtain⟨⟨z,aa⟩,aC⟩:=h;(cases i with|zero =>simp at ag;subst ag;refine⟨z,λe ak G=>?_⟩;have:=auC.1 aa e ak;rw[G]at this;(have:=by simpa using this);omega|succ i =>have:=aY aC (i:=i) (o:=o) (by simpa using ag);refine⟨this.1,λe ak G=>?_⟩;have:=this.2 e ak G;omega)
def nI(A:aw)(H:bF):Prop:=∀k o,H k=some o->A.H k=some o
variable{hs:List (Nat×aI)}
theorem nI.va(h:m2 A hs):nI A (aK hs):=λk o ag=>h.aK k o ag
def Sz(P:Program)(B:World)(am:Nat)(ay:List bx)(ops:Array Oper)(A:aw)(o:Oper)(K:aw->Prop):Prop :=
 (match o.guard with
  |none=>True
  |some (j,iG)=>∃g,(ops[j]?).bind (·.dst)=some g/\A.t g=.bool iG)/\(n1 P B ay A o.dst o.op K\/af P B am A o.dst o.op K)
variable{bd:Array Bool}
theorem SA(au:wW am ops.toList 0=true)(hsz:bd.size=ops.size): ∀(n i:Nat),n=i->i<ops.size->bd.getD i true=false->Region.ready .any ops bd≠[]:=by intro n;induction n using Nat.strongRecOn with|_ n aY =>intro i av hi al;subst av;have ag:ops[n]?=some ops[n]:=avd hi;have dd:=Mn au (i:=n) (o:=ops[n]) (by simpa using ag);by_cases ae:∀e∈ops[n].after.toList,Region.binds Region.Mode.any e=true->bd.getD e.on false=true;intro ak;(have:n∈Region.ready Region.Mode.any ops bd:=axl);rw[ak]at this;cases this;simp only[Classical.not_forall]at ae;obtain⟨e,ak,G,aX⟩:=ae;have bi:=dd.2 e ak G;simp only[aut]at bi;refine aY e.on bi e.on rfl atv ?_;(have BV:e.on<bd.size:=by omega);simp only[Array.getD,BV,avv]at aX⊢;simpa using aX
def HO(P:Program)(B:World)(am:Nat)(ay:List bx)(all:Array Oper)(l:α->(Nat->Bool)->List (Nat×D))(hs:α->(Nat->Bool)->bF):List Oper->Nat->Prop
 |[],_=>True
 |o::r,i=>(∀x g,p_ all (fN g o.after.toList i)->Sz P B am ay all (rW (l x (fN g o.after.toList i)) (hs x (fN g o.after.toList i))) o λaz=>∃bU,jP az (l bU (hF (fN g o.after.toList i) i))/\nI az (hs bU (hF (fN g o.after.toList i) i)))/\HO P B am ay all l hs r (i+1)
theorem acN{ay:List bx}{all:Array Oper}{l:α->(Nat->Bool)->List (Nat×D)}{hs:α->(Nat->Bool)->bF}{r:List Oper}:∀{n:Nat},HO P B am ay all l hs r n->∀{i:Nat} {o:Oper},r[i]?=some o->∀x f,p_ all (fN f o.after.toList (n+i))->Sz P B am ay all (rW (l x (fN f o.after.toList (n+i))) (hs x (fN f o.after.toList (n+i)))) o λaz=>∃bU,jP az (l bU (hF (fN f o.after.toList (n+i)) (n+i)))/\nI az (hs bU (hF (fN f o.after.toList (n+i)) (n+i))):=by induction r with|nil=>intro n _ i o h;simp at h|cons x r aY =>intro n h i o ag y f;exact axq
theorem SB{ay:List bx}(hT:dg P ay){U:b7 P B am}{a6:aw->Prop}{Q':Exit->Act->World->Prop}(f_:∀A a w C,bG U w C A a->a6 A->Q' .normal a w)(au:wW am ops.toList 0=true)(l:α->(Nat->Bool)->List (Nat×D))(hs:α->(Nat->Bool)->bF)(pg:∀x f,(∀i,i<ops.size->f i=true)->a6 (rW (l x f) (hs x f)))(step:HO P B am ay ops l hs ops.toList 0): ∀(n:Nat) (x:α) (bd:Array Bool) (a:Act) (w:World) (C:Nat->Nat),bd.size=ops.size->bd.toList.count false=n->bG U w C (rW (l x (ej bd)) (hs x (ej bd))) a->p_ ops (ej bd)->wpAny P .any ops Q' n bd a w
 |0,x,bd,a,w,C,hsz,hc,M,be=>by(have hE:∀i,i<ops.size->ej bd i=true:=λi hi=>axr);refine⟨?_,f_ _ _ _ _ M (pg _ _ hE)⟩;cases ae:Region.ready .any ops bd with|nil=>rfl|cons i r =>obtain⟨o,ag,hi,h1,_⟩:=BU (ae ▸ atS:i∈Region.ready .any ops bd);have z:=hE i hi;(have bi:i<bd.size:=by omega);simp only[ej,Array.getD,bi,avv]at h1 z;rw[h1]at z;cases z
 |n+1,x,bd,a,w,C,hsz,hc,M,be=>by(have p':0<bd.toList.count false:=by omega);have lY:=av8.1 p';obtain⟨i,hi,G⟩:=List.getElem_of_mem lY;(have l6:i<bd.size:=by simpa using hi);have aX:Region.ready .any ops bd≠[]:=SA au hsz i i rfl atv (aye);refine⟨λe=>absurd e aX,λi hi=>?_⟩;obtain⟨o,ag,Sv,qV,l5⟩:=BU hi;obtain⟨N,_⟩:=Mn au (i:=i) (o:=o) (by simpa using ag);have I:=acN step (i:=i) (o:=o) (by simpa using ag) x (ej bd);rw[aut]at I;(have qJ:fN (ej bd) o.after.toList i=ej bd:=axm);rw[qJ]at I;have I:=I be;unfold wpOp;simp only[ag];obtain⟨aT,I⟩:=I;(have cG:Region.wanted o (yielded ops a.tmps)=true:=axp);rw[atH cG];(have Aa:o.wp P a w (λbv w'=>∃az aO,(∃bU,jP az (l bU (hF (ej bd) i))/\nI az (hs bU (hF (ej bd) i)))/\bG U w' aO az bv) Q':=by rcases I with I|I;exact tR hT M N I Q';obtain⟨dst,op,type,pos,after,guard⟩:=o;exact I.run U w C a M N type pos after Q');refine .inl (Oper.wp_mono (λbv w' cy=>?_) Aa);obtain⟨az,aO,⟨bU,h1,z⟩,aa⟩:=cy;(have mD:i<bd.size:=by omega);rw[<-Et mD]at h1 z;refine SB hT f_ au l hs pg step n bU _ bv w' aO (by simpa using hsz) ?_ (aa.EA (.same h1 z)) (be.set mD ag l5);exact axd
theorem Y.SC{ay:List bx}(hT:dg P ay){K:cK->aw->Prop}(hm:P.follows .mixedOrders=true)
  (l:α->(Nat->Bool)->List (Nat×D)) (hs:α->(Nat->Bool)->bF) (au:wW am ops.toList 0=true) (ey:α)
  (h1:jP A (l ey λ_=>false)) (z:nI A (hs ey λ_=>false)) (step:HO P B am ay ops l hs ops.toList 0)
  (pg:∀x f,(∀i,i<ops.size->f i=true)->K .normal (rW (l x f) (hs x f))) :
  Y U (.region id ops true) A K :=
 ⟨λa w C M=>wp_region_any hm (by
  have e:ej (Array.replicate ops.size false)=λ_=>false:=by
   funext i
   simp only[ej,Array.getD];split<;>simp
  exact SB hT (U:=U) (a6:=K .normal) (λA a w C bJ hK=>⟨.normal,A,C,rfl,hK,bJ⟩) au l hs pg step _ ey _ _ _ C atx atx (by rw[e];exact M.drew.EA (.same h1 z)) (by rw[e];exact λj k _ h=>by cases h))⟩
end Go.bS

namespace Go.bS
open Go Go.RowKit
variable{P:Program}{B:World}{am:Nat}{ops:Array Oper}{α:Type}{a:Act}{w:World}
theorem acO{o:Oper}{K:Act->World->Prop}{a6:Exit->Act->World->Prop}(cy:o.wp P a w K a6):
  o.wp P a w (λbv w'=>K bv w'/\∃v ds,bv=({a with defers:=ds}:Act).put o.dst v) a6:=by
 unfold Oper.wp at*;generalize(execOp a.eval o).run P w=r at*
 cases r with
 |ok n w' =>
  cases n<;>simp only[Oper.upon]at cy⊢ <;>
   first
    |exact⟨cy,_,a.defers,rfl⟩
    |exact⟨cy,_,_,rfl⟩
    |exact Calls.mono cy (λe rF ak=>by cases e<;>first|exact⟨ak,_,a.defers,rfl⟩|exact ak)
    |exact Rows.mono cy (λ_ _ ak=>⟨ak,_,a.defers,rfl⟩)
 |halt x w'=>cases x<;>simp only[Oper.upon]at cy⊢<;>exact cy
variable{dst:Option Tmp}{v:Value}{i:Nat}
theorem acP{ds:List Deferred}(h:dst≠some i):(({a with defers:=ds}:Act).put dst v).tmps.getD i undef=a.tmps.getD i undef:=by cases dst with|none=>rfl|some t =>have aX:t≠i:=λe=>h (by rw[e]);simp[Act.put,awi aX]
def ye(A vq az:aw)(ep:Nat->Bool)(dst:Option Tmp):aw :=
 {t:=λi=>if dst=some i then az.t i else A.t i,H:=λk=>if(vq.H k).isSome||ep k then az.H k else A.H k}
variable{U:b7 P B am}{C:Nat->Nat}{A:aw}
theorem acQ{ay:List bx}(hT:dg P ay){vq:aw}(M:bG U w C A a){o:Oper}(N:iY am o.dst=true)(ax:∀i,aq (A.t i) (vq.t i))(hH:∀k x,vq.H k=some x->A.H k=some x)(ep:Nat->Bool){K:aw->Prop}(I:n1 P B ay vq o.dst o.op K\/af P B am vq o.dst o.op K)(a6:Exit->Act->World->Prop): o.wp P a w (λbv w'=>∃az aO,K az/\bG U w' aO (ye A vq az ep o.dst) bv) a6:=by let iL:b7 P B am:={w0:=w,C0:=C,Ft:=λb=>∃k x,vq.H k=some x/\x.ec b,base:=M.base,low:=λb ⟨k,x,h,ao⟩=>U.DM (M.heap.cJ k x b (hH k x h) ao)};have fW:bG iL w C vq a:=⟨λi=>(ax i).le _ _ _ (M.tmps i),⟨λk x h=>M.heap.b' k x (hH k x h),λs bp x y b av h1 z=>M.heap.inj s bp x y b av (hH s x h1) (hH bp y z),λk x b h ao=>.inl ⟨k,x,h,ao⟩⟩,M.size,M.defers,c7.refl _ _ _⟩;(have h1:o.wp P a w (λbv w'=>∃az aO,K az/\bG iL w' aO az bv) a6:=by rcases I with I|I;exact tR hT fW N I a6;have:=I.run iL w C a fW N o.type o.pos o.after a6;obtain⟨dst,op,type,pos,after,guard⟩:=o;exact this);(have ED:∀b,iL.pS b->U.pS b:=λb h=>by rcases h with⟨k,x,h,ao⟩|h;exact M.heap.cJ k x b (hH k x h) ao;exact .inr (avb M.step.ext.size h));refine Oper.wp_mono (λbv w' ⟨⟨az,aO,hK,bJ⟩,v,ds,ha⟩=>⟨az,aO,hK,?_⟩) (acO h1);(have B4:∀k x b,((vq.H k).isSome||ep k)=false->A.H k=some x->x.ec b->b<w.heap.size/\¬iL.Ft b:=λk x b W F ao=>by refine⟨(M.heap.b' k x F).lt ao,λ⟨bC,bU,h,cS⟩=>?_⟩;(have aX:bC≠k:=λe=>by subst e;rw[h]at W;simp at W);exact M.heap.inj bC k bU x b aX (hH bC bU h) F cS ao);refine⟨λi=>?_,⟨λk x F=>?_,λs bp x y b av F hy ao cS=>?_,λk x b F ao=>?_⟩,bJ.size,bJ.defers,M.step.trans bJ.step λb G Ab=>?_⟩;simp only[ye];by_cases lZ:o.dst=some i;rw[atH lZ];exact bJ.tmps i;rw[atG lZ,ha,acP lZ];exact(M.tmps i).ext bJ.step.ext;simp only[ye]at F;split at F;exact bJ.heap.b' k x F;rename_i W;(have W:=by simpa using W);(exact(M.heap.b' k x F).iE bJ.step.ext λb G=>by have:=B4 k x b (by simpa using W) F G;exact bJ.step.iE b this.1 this.2);simp only[ye]at F hy;split at F<;>split at hy;exact bJ.heap.inj s bp x y b av F hy ao cS;rename_i h1 z;have:=B4 bp y b (by simpa using z) hy cS;rcases bJ.heap.cJ s x b F ao with h|h;exact this.2 h;have aa:=this.1;change w.heap.size<=b at h;omega;rename_i h1 z;have:=B4 s x b (by simpa using h1) F ao;rcases bJ.heap.cJ bp y b hy cS with h|h;exact this.2 h;have aa:=this.1;change w.heap.size<=b at h;omega;exact M.heap.inj s bp x y b av F hy ao cS;simp only[ye]at F;split at F;exact ED b (bJ.heap.cJ k x b F ao);exact M.heap.cJ k x b F ao;rcases ED b (.inl Ab)with h|h;exact h;omega
theorem bG.le{U:b7 P B am}{w:World}{C:Nat->Nat}{A az:aw}{a:Act}(h:bG U w C A a)(ax:∀i,aq (A.t i) (az.t i))(hH:∀k x,az.H k=some x->A.H k=some x):bG U w C az a :=
 ⟨λi=>(ax i).le _ _ _ (h.tmps i),⟨λk x F=>h.heap.b' k x (hH k x F),λs bp x y b av h1 z=>h.heap.inj s bp x y b av (hH s x h1) (hH bp y z),λk x b F=>h.heap.cJ k x b (hH k x F)⟩,h.size,h.defers,h.step⟩
def HP(m k:Nat):Bool:=Nat.beq (Nat.land (Nat.shiftRight m k) 1) 1
theorem HQ(m k:Nat):HP m k=m.testBit k:=by unfold HP;have h1:Nat.land (Nat.shiftRight m k) 1=(m >>> k)%2:=Nat.and_one_is_mod _;rw[h1,Nat.testBit_eq_decide_div_mod_eq,Nat.shiftRight_eq_div_pow];cases h:Nat.beq (m/2 ^ k%2) 1 with|true=>have:=aua h;simp[this]|false =>(have:m/2 ^ k%2≠1:=λe=>by rw[e]at h;cases h);simp[this]
def kH(ap:List Nat)(i k:Nat):Bool:=HP (ap.getD i 0) k
def yf(ap:List Nat):List Edge->Nat
 |[]=>0
 |e::r=>cond (Region.binds .any e) (Nat.lor (Nat.lor (Nat.shiftLeft 1 e.on) (ap.getD e.on 0)) (yf ap r)) (yf ap r)
def B5(ap:List Nat):List Oper->Nat->Bool
 |[],_=>true
 |o::r,i=>Nat.beq (ap.getD i 0) (yf ap o.after.toList)&&B5 ap r (i+1)
theorem Mo{ap:List Nat}{k:Nat}:∀{l:List Edge},HP (yf ap l) k=true->∃e∈l,Region.binds .any e=true/\(e.on=k\/kH ap e.on k=true)
 |[],h=>by simp[yf,HQ]at h
 |e::r,h=>by simp only[yf]at h;cases G:Region.binds .any e with|false=>rw[G]at h;obtain⟨oI,h1,z⟩:=Mo (l:=r) h;exact⟨oI,.tail _ h1,z⟩|true =>rw[G]at h;(have bq:((1 <<< e.on ||| ap.getD e.on 0) ||| yf ap r).testBit k=true:=by rw[<-HQ];exact h);rw[Nat.testBit_or,Nat.testBit_or,au3,au3]at bq;rcases bq with(h1|h1)|h1;refine⟨e,.head _,G,.inl ?_⟩;rw[Nat.testBit_shiftLeft]at h1;simp only[atM,aup]at h1;have z:=h1.2;(have:k-e.on=0:=by cases bz:k-e.on with|zero=>rfl|succ n=>rw[bz]at z;simp[Nat.testBit_succ]at z);omega;exact⟨e,.head _,G,.inr (by unfold kH;rw[HQ];exact h1)⟩;obtain⟨oI,z,aa⟩:=Mo (l:=r) (by rw[HQ];exact h1);exact⟨oI,.tail _ z,aa⟩
theorem SD{ap:List Nat}:∀{l:List Oper} {n:Nat},B5 ap l n=true->∀{i:Nat} {o:Oper},l[i]?=some o->ap.getD (n+i) 0=yf ap o.after.toList
 |[],_,_,i,o,h=>by simp at h
 |x::r,n,h,i,o,ag=>by simp only[B5,atM]at h;cases i with|zero=>simp at ag;subst ag;exact aua h.1|succ i=>have:=SD h.2 (i:=i) (o:=o) (by simpa using ag);rw[show n+1+i=n+(i+1) by omega]at this;exact this
def Mp(ap:List Nat)(f:Nat->Bool):Prop:=∀i k,f i=true->kH ap i k=true->f k=true
def wr:List Oper->Nat->Nat->Option Nat
 |[],_,_=>none
 |o::r,i,j=>match o.dst with
  |some t=>cond (Nat.beq t j) (some i) (wr r (i+1) j)
  |none=>wr r (i+1) j
def B6:List Oper->Bool
 |[]=>true
 |o::r=>(match o.dst with
  |some t=>(wr r 0 t).isNone
  |none=>true)&&B6 r
theorem HR{j:Nat}:∀{l:List Oper} {n:Nat},wr l n j=none->∀{i:Nat} {o:Oper},l[i]?=some o->o.dst≠some j
 |[],_,_,i,o,h=>by simp at h
 |x::r,n,h,i,o,ag=>by simp only[wr]at h;cases i with|zero =>simp at ag;subst ag;intro N;rw[N]at h;simp at h|succ i =>split at h;rename_i t ax;(cases G:Nat.beq t j with|true=>rw[G]at h;cases h|false=>rw[G]at h;exact HR (l:=r) h (i:=i) (by simpa using ag));exact HR (l:=r) h (i:=i) (by simpa using ag)
theorem SE{j k:Nat}:∀{l:List Oper} {n:Nat},wr l n j=some k->B6 l=true->n<=k/\∀{i:Nat} {o:Oper},l[i]?=some o->(o.dst=some j↔n+i=k)
 |[],_,h,_=>by simp[wr]at h
 |x::r,n,h,ag=>by simp only[B6,atM]at ag;(have Hn:wr r (n+1) j=some k->x.dst≠some j->n<=k/\∀{i:Nat} {o:Oper},(x::r)[i]?=some o->(o.dst=some j↔n+i=k):=λh F=>by obtain⟨h1,z⟩:=SE h ag.2;refine⟨by omega,λ{i o} hi=>?_⟩;cases i with|zero=>simp at hi;subst hi;exact⟨λe=>absurd e F,λe=>by omega⟩|succ i=>rw[z (i:=i) (by simpa using hi)];constructor<;>intro e<;>omega);simp only[wr]at h;split at h;rename_i t ax;(cases G:Nat.beq t j with|true =>rw[G]at h;have acR:=aua G;subst acR;(have X:n=k:=by simpa using h);subst X;refine⟨atP _,λ{i o} hi=>?_⟩;(cases i with|zero=>simp at hi;subst hi;exact⟨λ_=>rfl,λ_=>ax⟩|succ i =>have h1:=ag.1;rw[ax]at h1;have:=HR (l:=r) (n:=0) (by simpa using h1) (i:=i) (by simpa using hi);exact⟨λe=>absurd e this,λe=>by omega⟩)|false =>rw[G]at h;exact Hn h (λe=>by rw[ax]at e;simp only[aus]at e;subst e;rw[au7]at G;cases G));rename_i ax;exact Hn h (λe=>by rw[ax]at e;cases e)
theorem Mq{j k:Nat}:∀{l:List Oper} {n:Nat},wr l n j=some k->k<n+l.length
 |[],_,h=>by simp[wr]at h
 |x::r,n,h=>by
  simp only[wr]at h;split at h
  ·rename_i t ax
   cases G:Nat.beq t j with
   |true => rw[G]at h;have : n = k := by simpa using h
            simp;omega
   |false=>rw[G]at h;have:=Mq (l:=r) h;simp;omega
  have:=Mq (l:=r) h;simp;omega
def l7:List (Nat×Nat×Option aI)->(Nat->Bool)->Nat->Option (Option aI)
 |[],_,_=>none
 |(i,bC,o)::r,f,k=>match l7 r f k with
  |some bI=>some bI
  |none=>cond (Nat.beq bC k&&f i) (some o) none
def bJ(Mr:bF)(a8:List (Nat×Nat×Option aI))(f:Nat->Bool)(k:Nat):Option aI:=match l7 a8 f k with
 |some o=>o
 |none=>Mr k
def mF:List (Nat×Nat×Option aI)->List (Nat×Nat)
 |[]=>[]
 |(i,k,_)::r=>(i,k)::mF r
def yg(ap:List Nat)(n:Nat):List (Nat×Nat)->Bool
 |[]=>true
 |(i,k)::r=>Nat.blt i n&&(r.all λe=>!Nat.beq e.2 k||Nat.beq e.1 i||kH ap e.1 i)&&yg ap n r
def SF(ap:List Nat)(S:List (Nat×Nat))(i k:Nat):Bool:=S.all λe=>!Nat.beq e.2 k||(kH ap i e.1||(kH ap e.1 i||Nat.beq e.1 i))
def gL(Mr:bF)(ap:List Nat)(S:List (Nat×Nat))(a8:List (Nat×Nat×Option aI))(i k:Nat):Option aI:=cond (SF ap S i k) (bJ Mr a8 (kH ap i) k) none
def HS(t0:Nat->D)(l:List Oper)(ap:List Nat)(R:List D)(i j:Nat):D:=match wr l 0 j with
 |some k=>cond (kH ap i k) (R.getD k .any) (cond (Nat.beq k i||kH ap k i) (t0 j) .any)
 |none=>t0 j
def sV(ap:List Nat)(i:Nat):Nat->List D->List D
 |_,[]=>[]
 |n,d::r=>cond (Nat.beq n i||kH ap n i) .any d::sV ap i (n+1) r
def vr(ap:List Nat)(i:Nat):List (Nat×Nat×Option aI)->List (Nat×Nat×Option aI)
 |[]=>[]
 |(j,k,o)::r=>(j,k,cond (Nat.beq j i||kH ap j i) none o)::vr ap i r
def EE(S:List (Nat×Nat))(i:Nat):Bool:=S.all λe=>!Nat.beq e.1 i
def qX(S:List (Nat×Nat))(i k:Nat):Bool:=S.any λe=>Nat.beq e.1 i&&Nat.beq e.2 k
theorem HT{f g:Nat->Bool}{k:Nat}:∀{a8:List (Nat×Nat×Option aI)},(∀e∈mF a8,e.2=k->f e.1=g e.1)->l7 a8 f k=l7 a8 g k
 |[],_=>rfl
 |(i,bC,o)::r,h=>by have aY:=HT (a8:=r) λe ak=>h e (.tail _ ak);simp only[l7,aY];cases G:Nat.beq bC k with|true=>rw[h (i,bC) (.head _) (aua G)]|false=>rfl
theorem SG{ap:List Nat}{i k:Nat}{f:Nat->Bool}(M:∀j,f j=true->j≠i/\kH ap j i=false):∀{a8 SH:List (Nat×Nat×Option aI)},vr ap i SH=vr ap i a8->l7 SH f k=l7 a8 f k
 |[],[],_=>rfl
 |(j,q,o)::r,(eu,fh,bI)::acS,h=>by simp only[vr,avU,Prod.mk.injEq]at h;obtain⟨⟨rfl,rfl,ag⟩,ae⟩:=h;simp only[l7,SG M ae];cases Ms:f eu with|true=>obtain⟨h1,z⟩:=M eu Ms;rw[avw h1,z]at ag;simp only[Bool.or_self,auV]at ag;rw[ag]|false=>simp
 |[],(_,_,_)::_,h=>by simp[vr]at h
 |(_,_,_)::_,[],h=>by simp[vr]at h
theorem SI{ap:List Nat}{i:Nat}:∀{l hV:List D} {n:Nat},sV ap i n hV=sV ap i n l->∀{k:Nat},n+k≠i->kH ap (n+k) i=false->hV.getD k .any=l.getD k .any
 |[],[],_,_,_,_,_=>rfl
 |a::r,b::acS,n,h,k,h1,z=>by simp only[sV,avU]at h;cases k with|zero =>have aa:=h.1;rw[avw (by simpa using h1),show kH ap n i=false by simpa using z]at aa;simpa using aa|succ k=>have:=SI h.2 (k:=k) atv (by rw[show n+1+k=n+(k+1) by omega];exact z);simpa using this
 |[],_::_,_,h,_,_,_=>by simp[sV]at h
 |_::_,[],_,h,_,_,_=>by simp[sV]at h
theorem SJ{ap:List Nat}{n i k:Nat}{f:Nat->Bool}(hi:f i=true)(M:∀j,f j=true->kH ap j i=false):∀{a8:List (Nat×Nat×Option aI)},yg ap n (mF a8)=true->qX (mF a8) i k=true->∃o,(i,k,o)∈a8/\l7 a8 f k=some o
 |[],_,h=>by simp[mF,qX]at h
 |(j,q,o)::r,ag,h=>by simp only[mF,yg,atM]at ag;simp only[mF,qX,awZ,au3,atM]at h;by_cases ae:qX (mF r) i k=true;obtain⟨bI,h1,z⟩:=SJ hi M ag.2 ae;exact⟨bI,.tail _ h1,by simp only[l7,z]⟩;rcases h with⟨h1,z⟩|h;have:=aua h1;subst this;have:=aua z;subst this;refine⟨o,.head _,?_⟩;(have av:∀{l:List (Nat×Nat×Option aI)},((mF l).all λe=>!Nat.beq e.2 q||Nat.beq e.1 j||kH ap e.1 j)=true->¬qX (mF l) j q=true->l7 l f q=none:=by intro l;induction l with|nil=>intro _ _;rfl|cons e l aY =>obtain⟨eu,fh,bI⟩:=e;intro ha G;simp only[mF,awk,atM,au3,avZ]at ha;simp only[mF,qX,awZ,au3,atM,not_or]at G;simp only[l7];rw[aY ha.2 G.2];(cases I:Nat.beq fh q with|false=>rfl|true =>rcases ha.1 with(aa|aa)|aa;rw[I]at aa;cases aa;exact absurd ⟨aa,I⟩ G.1;(cases Ms:f eu with|false=>rfl|true=>rw[M eu Ms]at aa;cases aa)));simp only[l7,av ag.1.2 ae,au7,hi,aw2,avo];exact absurd h ae
variable{k:Nat}
theorem SK{f:Nat->Bool}:∀{a8:List (Nat×Nat×Option aI)},qX (mF a8) i k=false->l7 a8 (hF f i) k=l7 a8 f k
 |a8,h=>HT λe ak X=>by(have:e.1≠i:=λbT=>by have:qX (mF a8) i k=true:=au1.2 ⟨e,ak,by rw[bT,X,au7,au7];rfl⟩;rw[h]at this;cases this);simp[hF,avw this]
section
variable(ap:List Nat)(S:List (Nat×Nat))(t0:Nat->D)(dj:List (Nat×aI))(R:α->List D)(dW:α->List (Nat×Nat×Option aI))
def gi(ops:Array Oper)(x:α)(f:Nat->Bool):aw :=
 {t:=λj=>match wr ops.toList 0 j with
   |some k=>cond (f k) ((R x).getD k .any) (t0 j)
   |none=>t0 j,H:=bJ (aK dj) (dW x) f}
def t7(ops:Array Oper)(x:α)(i:Nat):aw:={t:=HS t0 ops.toList ap (R x) i,H:=gL (aK dj) ap S (dW x) i}
def B7(ops:Array Oper)(x:α):aw :=
 {t:=λj=>match wr ops.toList 0 j with
   |some k=>(R x).getD k .any
   |none=>t0 j,H:=λk=>match l7 (dW x) (λ_=>true) k with
   |some o=>o
   |none=>aK dj k}
def HU(dst:Option Tmp)(az:aw)(d:D):Prop:=match dst with
 |some t=>aq (az.t t) d
 |none=>True
def wX(i:Nat)(az:aw):List (Nat×Nat×Option aI)->Prop
 |[]=>True
 |(j,k,o)::r=>cond (Nat.beq j i) (match o with
  |some o=>az.H k=some o/\wX i az r
  |none=>wX i az r) (wX i az r)
def yh(S:List (Nat×Nat))(i:Nat)(az:aw)(hm:Nat->Option aI):List Nat->Prop
 |[]=>True
 |k::r=>cond (qX S i k) (yh S i az hm r) (match hm k with
  |some o=>az.H k=some o/\yh S i az hm r
  |none=>yh S i az hm r)
def jY(x:α)(i:Nat)(dst:Option Tmp)(az:aw):Prop :=
 ∃bU,sV ap i 0 (R bU)=sV ap i 0 (R x)/\vr ap i (dW bU)=vr ap i (dW x)/\HU dst az ((R bU).getD i .any)/\wX i az (dW bU)/\yh S i az (gL (aK dj) ap S (dW x) i) (dj.map (·.1)++S.map (·.2))
def Mt(P:Program)(B:World)(am:Nat)(ay:List bx)(ops:Array Oper)(x:α)(i:Nat)(o:Oper):Prop :=
 cond (EE S i) (pU P B ay (t7 ap S t0 dj R dW ops x i) true o.op λd=>aq d ((R x).getD i .any)) False\/
  (n1 P B ay (t7 ap S t0 dj R dW ops x i) o.dst o.op (jY ap S dj R dW x i o.dst)\/af P B am (t7 ap S t0 dj R dW ops x i) o.dst o.op (jY ap S dj R dW x i o.dst))
def Mu(P:Program)(B:World)(am:Nat)(ay:List bx)(ops:Array Oper)(x:α)(i:Nat)(o:Oper):Prop :=
 match o.guard with
 |none=>Mt ap S t0 dj R dW P B am ay ops x i o
 |some (j,iG)=>∃g b,(ops[j]?).bind (·.dst)=some g/\HS t0 ops.toList ap (R x) i g=.bool b/\
  ((b=iG/\Mt ap S t0 dj R dW P B am ay ops x i o)\/(b=!iG/\EE S i=true/\aq .undef ((R x).getD i .any))\/
   cond (EE S i) (pU P B ay (t7 ap S t0 dj R dW ops x i) (b==iG) o.op λd=>aq (.mn (b==iG) d) ((R x).getD i .any)) False)
def EF(P:Program)(B:World)(am:Nat)(ay:List bx)(ops:Array Oper):List Oper->Nat->Prop
 |[],_=>True
 |o::r,i=>(∀x,Mu ap S t0 dj R dW P B am ay ops x i o)/\EF P B am ay ops r (i+1)
theorem acT{ay:List bx}{l:List Oper}:∀{n:Nat},EF ap S t0 dj R dW P B am ay ops l n->∀{i:Nat} {o:Oper},l[i]?=some o->∀x,Mu ap S t0 dj R dW P B am ay ops x (n+i) o:=by induction l with|nil=>intro n _ i o h;simp at h|cons y r aY =>intro n h i o ag x;(cases i with|zero=>simp at ag;subst ag;exact h.1 x|succ i=>have:=aY h.2 (i:=i) (by simpa using ag) x;rw[show n+1+i=n+(i+1) by omega]at this;exact this)
end
theorem HV{i k:Nat}{az:aw}{o:aI}:∀{a8:List (Nat×Nat×Option aI)},wX i az a8->(i,k,some o)∈a8->az.H k=some o
 |[],_,h=>by cases h
 |(j,q,bI)::r,h,hm=>by
  rcases at6.1 hm with h1|h1
  ·simp only[Prod.mk.injEq]at h1;obtain⟨rfl,rfl,rfl⟩:=h1;simp only[wX,au7,avo]at h;exact h.1
  simp only[wX]at h
  cases G:Nat.beq j i with
  |false=>rw[G]at h;exact HV h h1
  |true=>rw[G]at h;cases bI with
   |none=>exact HV h h1
   |some bI=>exact HV h.2 h1
theorem HW{S:List (Nat×Nat)}{i k:Nat}{az:aw}{hm:Nat->Option aI}{o:aI}(av:qX S i k=false)(X:hm k=some o):∀{l:List Nat},yh S i az hm l->k∈l->az.H k=some o
 |[],_,h=>by cases h
 |q::r,h,I=>by simp only[yh]at h;rcases at6.1 I with h1|h1;subst h1;rw[av,X]at h;exact h.1;cases G:qX S i q with|true=>rw[G]at h;exact HW av X h h1|false =>rw[G]at h;simp only[auV]at h;split at h;exact HW av X h.2 h1;exact HW av X h h1
theorem SL{wV:Type}:∀{l:List (Nat×wV)} {k:Nat} {x:wV},aK l k=some x->k∈l.map (·.1)
 |[],_,_,h=>by simp[aK]at h
 |(i,d)::r,k,x,h=>by simp only[aK]at h;cases G:Nat.beq k i with|true=>have:=aua G;subst this;simp|false=>rw[G]at h;exact .tail _ (SL h)
theorem SM{f:Nat->Bool}{k:Nat}{o:Option aI}:∀{a8:List (Nat×Nat×Option aI)},l7 a8 f k=some o->k∈(mF a8).map (·.2)
 |[],h=>by simp[l7]at h
 |(i,q,bI)::r,h=>by simp only[l7]at h;cases al:l7 r f k with|some y=>exact .tail _ (SM al)|none =>rw[al]at h;(cases G:Nat.beq q k with|true=>have:=aua G;subst this;exact .head _|false=>rw[G]at h;simp at h)
variable{ap:List Nat}{S:List (Nat×Nat)}{t0:Nat->D}{dj:List (Nat×aI)}{R:α->List D}{dW:α->List (Nat×Nat×Option aI)}
theorem acU{x:α}{f:Nat->Bool}(gc:mF (dW x)=S)(hc:Mp ap f)(B8:∀k,kH ap i k=true->f k=true)(k3:f i=false): (∀j,aq ((gi t0 dj R dW ops x f).t j) ((t7 ap S t0 dj R dW ops x i).t j))/\∀k o,(t7 ap S t0 dj R dW ops x i).H k=some o->(gi t0 dj R dW ops x f).H k=some o:=by constructor;intro j;simp only[gi,t7,HS];(cases cG:wr ops.toList 0 j with|none=>exact .refl _|some k =>simp only;(cases h1:kH ap i k with|true=>rw[B8 k h1];exact .refl _|false =>(cases z:(Nat.beq k i||kH ap k i)with|false=>exact .any _|true =>(have:f k=false:=by cases X:f k with|false=>rfl|true =>rcases au3 _ _ ▸ z with aa|aa;have:=aua aa;subst this;rw[k3]at X;cases X;rw[hc k i X aa]at k3;cases k3);rw[this];exact .refl _)));intro k o h;simp only[t7,gL]at h;cases ms:SF ap S i k with|false=>rw[ms]at h;cases h|true =>rw[ms]at h;simp only[avo]at h;simp only[gi];unfold bJ at h⊢;rw[HT (g:=f)]at h;exact h;intro e ak X;rw[gc]at ak;have:=auC.1 ms e ak;simp only[X,au7,Bool.not_true,Bool.false_or,au3]at this;(cases h1:kH ap i e.1 with|true=>rw[B8 _ h1]|false =>rw[h1]at this;(cases fA:f e.1 with|false=>rfl|true =>rcases this with aa|aa|aa;cases aa;rw[hc _ i fA aa]at k3;cases k3;have:=aua aa;rw[this]at fA;rw[k3]at fA;cases fA))
theorem SN{ay:List bx}(hT:dg P ay){U:b7 P B am}{a6:aw->Prop}{Q':Exit->Act->World->Prop}(f_:∀A a w C,bG U w C A a->a6 A->Q' .normal a w)(au:wW am ops.toList 0=true)(ag:B6 ops.toList=true)(HX:B5 ap ops.toList 0=true)(gc:∀x,mF (dW x)=S)(t8:yg ap ops.size S=true)(pg:∀x,a6 (B7 t0 dj R dW ops x))(step:EF ap S t0 dj R dW P B am ay ops ops.toList 0): ∀(n:Nat) (x:α) (bd:Array Bool) (a:Act) (w:World) (C:Nat->Nat),bd.size=ops.size->bd.toList.count false=n->bG U w C (gi t0 dj R dW ops x (ej bd)) a->Mp ap (ej bd)->wpAny P .any ops Q' n bd a w
 |0,x,bd,a,w,C,hsz,hc,M,be=>by(have hE:∀i,i<ops.size->ej bd i=true:=λi hi=>axr);(have bi:∀e∈S,e.1<ops.size:=by(have:∀{l:List (Nat×Nat)},yg ap ops.size l=true->∀e∈l,e.1<ops.size:=by intro l;induction l with|nil=>intro _ e ak;cases ak|cons y l aY =>intro h e ak;simp only[yg,atM]at h;rcases at6.1 ak with rfl|ak;exact auy (auw _) (auk h.1.1);exact aY h.2 e ak);exact this t8);refine⟨?_,f_ _ _ _ _ (M.le (az:=B7 t0 dj R dW ops x) (λj=>?_) (λk o h=>?_)) (pg x)⟩;(cases ae:Region.ready .any ops bd with|nil=>rfl|cons i r =>obtain⟨o,ag,hi,h1,_⟩:=BU (ae ▸ atS:i∈Region.ready .any ops bd);have z:=hE i hi;(have bi:i<bd.size:=by omega);simp only[ej,Array.getD,bi,avv]at h1 z;rw[h1]at z;cases z);simp only[gi,B7];(cases cG:wr ops.toList 0 j with|none=>exact .refl _|some k=>have:=Mq cG;simp only;rw[hE k (by simpa using this)];exact .refl _);simp only[B7]at h;simp only[gi,bJ];rw[HT (g:=λ_=>true) (λe ak _=>hE e.1 (bi e (gc x ▸ ak)))];exact h
 |n+1,x,bd,a,w,C,hsz,hc,M,be=>by(have p':0<bd.toList.count false:=by omega);have lY:=av8.1 p';obtain⟨i,hi,G⟩:=List.getElem_of_mem lY;(have l6:i<bd.size:=by simpa using hi);have aX:Region.ready .any ops bd≠[]:=SA au hsz i i rfl atv (aye);refine⟨λe=>absurd e aX,λi hi=>?_⟩;obtain⟨o,t_,Sv,qV,l5⟩:=BU hi;(have gJ:ops.toList[i]?=some o:=by simpa using t_);obtain⟨N,_⟩:=Mn au (i:=i) (o:=o) gJ;have I:=acT _ _ _ _ _ _ step gJ x;rw[aut]at I;(have mD:i<bd.size:=by omega);(have k3:ej bd i=false:=by simp only[ej,Array.getD,mD,avv]at qV⊢;exact qV);have SO:=SD HX gJ;rw[aut]at SO;(have B8:∀k,kH ap i k=true->ej bd k=true:=λk X=>by unfold kH at X;rw[SO]at X;obtain⟨e,ak,G,h1⟩:=Mo X;have z:ej bd e.on=true:=l5 e ak G;rcases h1 with h1|h1;rw[<-h1];exact z;exact be _ _ z h1);(have acV:Mp ap (ej (bd.setIfInBounds i true)):=by rw[Et mD];intro j k Z X;simp only[hF]at Z⊢;cases kC:Nat.beq k i with|true=>rfl|false =>simp only[auV];(cases fc:Nat.beq j i with|true=>have:=aua fc;subst this;exact B8 k X|false=>rw[fc]at Z;exact be j k Z X));unfold wpOp;simp only[t_];(have Mv:(bd.setIfInBounds i true).toList.count false=n:=axd);(have Mw:∀j,ej bd j=true->j≠i/\kH ap j i=false:=λj Z=>by refine⟨(λe=>by rw[e,k3]at Z;cases Z),?_⟩;cases h:kH ap j i with|false=>rfl|true=>rw[be j i Z h]at k3;cases k3);obtain⟨HY,vt⟩:=acU (ops:=ops) (t0:=t0) (dj:=dj) (R:=R) (dW:=dW) (gc x) be B8 k3;(have tmps:∀(az:aw) (bU:α),sV ap i 0 (R bU)=sV ap i 0 (R x)->(∀j,o.dst=some j->aq (az.t j) ((R bU).getD i .any))->(∀j,o.dst≠some j->az.t j=(gi t0 dj R dW ops x (ej bd)).t j)->∀j,aq (az.t j) ((gi t0 dj R dW ops bU (hF (ej bd) i)).t j):=λaz bU fG h1 z j=>by simp only[gi];cases cG:wr ops.toList 0 j with|none =>have aa:o.dst≠some j:=HR cG gJ;have:=z j aa;simp only[gi,cG]at this;rw[this];exact .refl _|some k =>have aC:=(SE cG ag).2 gJ;rw[aut]at aC;simp only;(cases kC:Nat.beq k i with|true =>have:=aua kC;subst this;simp only[hF,au7,avo];exact h1 j (aC.2 rfl)|false =>(have aX:i≠k:=λe=>by rw[e,au7]at kC;cases kC);have:=z j (λe=>aX (aC.1 e));simp only[gi,cG]at this;rw[this];simp only[hF,kC,auV];(cases X:ej bd k with|false=>exact .refl _|true =>obtain⟨a_,cC⟩:=Mw k X;have:=SI fG (k:=k) (by simpa using a_) (by simpa using cC);simp only[avo];rw[this];exact .refl _)));(have go:∀(bU:α) (az:aw) (bv:Act) (w':World) (aO:Nat->Nat),bG U w' aO az bv->(∀j,aq (az.t j) ((gi t0 dj R dW ops bU (hF (ej bd) i)).t j))->(∀k p,(gi t0 dj R dW ops bU (hF (ej bd) i)).H k=some p->az.H k=some p)->wpAny P .any ops Q' n (bd.setIfInBounds i true) bv w':=λbU az bv w' aO bJ h1 z=>by refine SN hT f_ au ag HX gc t8 pg step n bU _ bv w' aO (by simpa using hsz) Mv ?_ acV;rw[Et mD];exact bJ.le h1 z);(have same:EE S i=true->∀k p,(gi t0 dj R dW ops x (hF (ej bd) i)).H k=some p->(gi t0 dj R dW ops x (ej bd)).H k=some p:=λav k p h=>by simp only[gi,bJ]at h⊢;rw[SK]at h;exact h;cases cy:qX (mF (dW x)) i k with|false=>rfl|true =>rw[gc x]at cy;obtain⟨e,ak,h1⟩:=au1.1 cy;have:=auC.1 av e ak;rw[atM]at h1;rw[h1.1]at this;cases this);(have quiet:∀(az:aw) (bv:Act) (w':World) (aO:Nat->Nat),EE S i=true->(∃d,aq d ((R x).getD i .any)/\az=(gi t0 dj R dW ops x (ej bd)).put o.dst d)->bG U w' aO az bv->wpAny P .any ops Q' n (bd.setIfInBounds i true) bv w':=by rintro az bv w' aO av ⟨d,hr,rfl⟩ bJ;refine go x _ bv w' aO bJ (tmps _ x rfl (λj Z=>?_) (λj Z=>?_)) (λk p h=>?_);rw[Z];simp only[aw.put,au7,avo];exact hr;exact LR λt ax e=>Z (by rw[ax,e]);rw[D7];exact same av k p h);(have wB:Mt ap S t0 dj R dW P B am ay ops x i o->o.wp P a w (λbv w'=>wpAny P .any ops Q' n (bd.setIfInBounds i true) bv w') Q':=by intro I;rcases I with I|I;replace I:=il I;obtain⟨av,I⟩:=I;obtain⟨d,hK,hr⟩:=BD hT I;have Aa:=zS (a6:=Q') (K:=λaz=>∃d,aq d ((R x).getD i .any)/\az=(gi t0 dj R dW ops x (ej bd)).put o.dst d) M N (d:=d) ⟨d,hK,rfl⟩ (hr rfl a.eval w C U.pS M.base ⟨λk y h=>M.heap.b' k y (vt k y h),λs bp y V b wL h1 z=>M.heap.inj s bp y V b wL (vt s y h1) (vt bp V z),λk y b h=>M.heap.cJ k y b (vt k y h)⟩ (λy _=>cr (A:=t7 ap S t0 dj R dW ops x i) (λj=>(HY j).le _ _ _ (M.tmps j)) y));exact Oper.wp_mono (λbv w' ⟨az,aO,h1,z⟩=>quiet az bv w' aO av h1 z) Aa;have Aa:=acQ hT M N HY vt (qX S i) I Q';refine Oper.wp_mono (λbv w' ⟨az,aO,⟨bU,fG,l8,h1,z,aa⟩,aC⟩=>?_) Aa;refine go bU _ bv w' aO aC (tmps _ bU fG (λj Z=>?_) (λj Z=>?_)) (λk p h=>?_);simp only[ye];rw[atH Z];unfold HU at h1;rw[Z]at h1;exact h1;simp only[ye];rw[atG Z];simp only[ye];have Mx:mF (dW bU)=S:=gc bU;cases ak:qX S i k with|true =>obtain⟨B9,a_,cC⟩:=SJ (a8:=dW bU) (n:=ops.size) (i:=i) (k:=k) (f:=hF (ej bd) i) (by simp[hF]) (λj Z=>by cases fc:Nat.beq j i with|true =>have:=aua fc;subst this;(cases hs:kH ap j j with|false=>rfl|true=>rw[B8 j hs]at k3;cases k3)|false=>simp only[hF,fc,auV]at Z;exact(Mw j Z).2) (by rw[Mx];exact t8) (by rw[Mx];exact ak);simp only[gi,bJ,cC]at h;subst h;rw[atH atx];exact HV z a_|false =>(have a_:(gi t0 dj R dW ops x (ej bd)).H k=some p:=by simp only[gi,bJ]at h⊢;rw[SK (by rw[Mx];exact ak),SG Mw l8]at h;exact h);by_cases hm:((t7 ap S t0 dj R dW ops x i).H k).isSome=true;rw[atH (by simp[hm])];obtain⟨B9,Ac⟩:=avM.1 hm;have:=vt k B9 Ac;rw[this]at a_;simp only[aus]at a_;subst a_;refine HW ak Ac aa ?_;rw[at1];simp only[gi,bJ]at this;split at this;rename_i y hy;right;have:=SM hy;rw[gc x]at this;exact this;left;exact SL this;rw[atG (by simpa using hm)];exact a_);unfold Mu at I;cases nd:o.guard with|none =>rw[nd]at I;rw[atH (by simp[Region.wanted,nd])];exact .inl (wB I)|some z8 =>obtain⟨j,iG⟩:=z8;rw[nd]at I;obtain⟨g,b,h1,z,I⟩:=I;have jT:=(HY g).le _ _ _ (M.tmps g);change bf w C (HS t0 ops.toList ap (R x) i g) _ at jT;rw[z]at jT;have hy:=x7 h1 jT.h4;rcases I with⟨rfl,I⟩|⟨rfl,av,I⟩|I;rw[atH (by simp[Region.wanted,nd,hy])];exact .inl (wB I);rw[atG (by cases iG<;>simp[Region.wanted,nd,hy])];exact quiet _ _ _ _ av ⟨.undef,I,rfl⟩ (M.put N .undef);replace I:=il I;obtain⟨av,I⟩:=I;(have cG:Region.wanted o (yielded ops a.tmps)=(b==iG):=by simp only[Region.wanted,nd,hy];cases b<;>cases iG<;>rfl);rw[cG];obtain⟨d,hK,hr⟩:=BD hT I;(cases G:(b==iG)with|false =>rw[atG atx];rw[G]at hK;exact quiet _ _ _ _ av ⟨_,hK,rfl⟩ (M.put N (.u7 _))|true =>rw[atH rfl];rw[G]at hK;have aa:=hr G a.eval w C U.pS M.base ⟨λk y h=>M.heap.b' k y (vt k y h),λs bp y V b wL h1 z=>M.heap.inj s bp y V b wL (vt s y h1) (vt bp V z),λk y b h=>M.heap.cJ k y b (vt k y h)⟩ (λy _=>cr (A:=t7 ap S t0 dj R dW ops x i) (λj=>(HY j).le _ _ _ (M.tmps j)) y);have Aa:=zS (a6:=Q') (K:=λaz=>∃d,aq d ((R x).getD i .any)/\az=(gi t0 dj R dW ops x (ej bd)).put o.dst d) M N (d:=.mn true d) ⟨_,hK,rfl⟩ (by generalize(execOp a.eval o).run P w=r at*;cases r with|halt _ _=>exact aa|ok n w' =>(cases n with|value v=>obtain⟨aO,ae,hs⟩:=aa;exact⟨aO,.pO _ _ ae,hs⟩|enter f args=>exact⟨aa.1,aa.2.mono λe rF ⟨v,lU,ak,ae,hs⟩=>⟨v,lU,ak,.pO _ _ ae,hs⟩⟩|_=>exact aa));exact .inl (Oper.wp_mono (λbv w' ⟨az,aO,h1,z⟩=>quiet az bv w' aO av h1 z) Aa))
variable{id:Nat}{K:cK->aw->Prop}
theorem Y.acW{ay:List bx}(hT:dg P ay)(hm:P.follows .mixedOrders=true)(dj:List (Nat×aI))(ey:α)
  (R:α->List D) (dW:α->List (Nat×Nat×Option aI)) (ap:List Nat) (S:List (Nat×Nat)) (gh:(wW am ops.toList 0&&(B6 ops.toList&&(B5 ap ops.toList 0&&yg ap ops.size S)))=true)
  (gc:∀x,mF (dW x)=S) (h0:m2 A dj) (step:EF ap S A.t dj R dW P B am ay ops ops.toList 0) (pg:∀x,K .normal (B7 A.t dj R dW ops x)) :
  Y U (.region id ops true) A K :=
 ⟨λa w C M=>wp_region_any hm (by
  simp only[atM]at gh;obtain⟨au,ag,HX,t8⟩:=gh
  have e:ej (Array.replicate ops.size false)=λ_=>false:=by
   funext i
   simp only[ej,Array.getD];split<;>simp
  have acX:∀(a8:List (Nat×Nat×Option aI)) k,l7 a8 (λ_=>false) k=none:=λa8 k=>by
   induction a8 with
   |nil=>rfl
   |cons e r aY=>obtain⟨i,q,o⟩:=e;simp only[l7,aY,Bool.and_false,auV]
  refine SN hT (U:=U) (a6:=K .normal) (λA a w C bJ hK=>⟨.normal,A,C,rfl,hK,bJ⟩) au ag HX gc t8 pg step _ ey _ _ _ C atx atx ?_ (by rw[e];exact λi k h _=>by cases h);rw[e];refine M.drew.le (λj=>?_) (λk o h=>?_)
  ·simp only[gi];cases wr ops.toList 0 j<;>exact .refl _
  simp only[gi,bJ,acX]at h
  exact h0.aK k o h)⟩
variable{ay:List bx}{K:aw->Prop}{s b:Nat}{aA:List D}
theorem bG.acY{e:TypeId}(h:bG U w C A a)(hs:A.H s=some (.kU b e aA)):bG U w C (A.b2 s (some (.box b aA))) a:=by have G:(A.b2 s (some (.box b aA))).H s=some (.box b aA):=qK _ _ _;(have key:∀k o,(A.b2 s (some (.box b aA))).H k=some o->∃da,A.H k=some da/\(∀x,o.ec x->da.ec x)/\(tE w C da->tE w C o):=λk o ag=>by by_cases X:k=s;subst X;rw[G]at ag;cases ag;exact⟨_,hs,λx F=>F,λ⟨vs,h1,z,aa⟩=>⟨vs,e,h1,z,aa⟩⟩;rw[mw _ _ X]at ag;exact⟨o,ag,λ_ F=>F,id⟩);refine⟨h.tmps,⟨λk o ag=>?_,λk bC o bI x aX h1 z ao cS=>?_,λk o x ag ao=>?_⟩,h.size,h.defers,h.step⟩;obtain⟨da,h1,_,aa⟩:=key k o ag;exact aa (h.heap.b' k da h1);obtain⟨da,aa,aC,_⟩:=key k o h1;obtain⟨jU,a_,cC,_⟩:=key bC bI z;exact h.heap.inj k bC da jU x aX aa a_ (aC x ao) (cC x cS);obtain⟨da,aa,aC,_⟩:=key k o ag;exact h.heap.cJ k da x aa (aC x ao)
variable{t:Nat}{x:Operand}
theorem af.HZ(hT:dg P ay){off:Nat}{e:TypeId}(F:A.a8 x=.box s b off)(hs:A.H s=some (.kU b e aA))
  (al:zC ay (A.b2 s (some (.box b aA))) true t (.box s b off) λd=>K (A.put dst d)):af P B am A dst (.load t x) K :=
 .val λU w C a M type pos after=>by
  obtain⟨d,hK,N⟩:=RO (P:=P) hT al;have W:=cr M.tmps x;rw[F]at W
  obtain⟨aj,ao,ae⟩:=N rfl w C U.pS _ (M.acY hs).heap W;exact⟨aj,w,C,A,d,by simp[execOp,ao],M,ae,hK⟩
variable{e:Nat}{ca:bx}{V:List D}
theorem af.SP(hT:dg P ay)(ak:dw ay e=some ca)(bz:ca.zero=some V)(hK:∀b:Nat,K ((A.b2 s (some (.kU b e V))).put (some s) (.box s b 0))):af P B am A (some s) (.alloc e) K :=
 .val λU w C a M type pos after=>by
  obtain⟨c1,rfl⟩:=hT.get ak;obtain⟨i,hi,_,_,nw⟩:=c1.qF;obtain⟨ei,lX,mt,jR⟩:=nw V bz;have aZ:=c7.alloc (λ_=>False) w C (.cells ei.cells ca.t) 0
  refine⟨.pointer (some ⟨w.heap.size,0,none⟩),w.alloc (.cells ei.cells ca.t),_,_,_,by simp[execOp,Instr.alloc,zeroValue,typeInfo,hi,lX,newVar,newRow],
   M.newObj s (mA:=.kU w.heap.size ca.t V) (o:=.cells ei.cells ca.t) ⟨ei.cells.toList,kB _ _,(jR w C).ext aZ.ext,ht _ _ _⟩ (λb G=>G),.box _ _ _,hK w.heap.size⟩
theorem acZ(h:bG U w C A a){e:bx}(ak:e.gk P){off:Nat}{bH:TypeId}(hH:A.H s=some (.kU b bH aA)){x:D}{K:List D->Prop}(I:Bv e off aA x K)(ae:bf w C x v): ∃dt w' aO,K dt/\(Instr.storeAt e.t (.pointer (some ⟨b,off,none⟩)) v).run P w=.ok () w'/\bG U w' aO (A.b2 s (some (.kU b bH dt))) a:=by obtain⟨ds,hK,dV,pX⟩:=R2 I;obtain⟨h1,z,aa⟩:=pX w C v ae;obtain⟨vs,G,h7,c6⟩:=h.heap.b' s _ hH;(have g5:off+0+v.cells.toList.length<=(⟨vs⟩:Array Value).size:=by have:=h1.1;have:=h7.1;simp only[auH];omega);have cU:=run_storeCells_at P b off bH v.cells.toList 0 ⟨vs⟩ w G g5 aa;simp only[av_]at cU;have aZ:=c7.setRow (C:=C) (n:=0) G (aA:=(vs.take off++v.cells.toList++vs.drop (off+v.cells.toList.length)).toArray) atv (λo ag=>by omega);refine⟨_,_,_,hK,?_,h.b2 aZ (s:=s) (λx F=>by subst F;exact h.heap.cJ s _ _ hH rfl) (λbp bI eh aX c4 ao m5=>?_) λy hy=>?_⟩;simp only[Instr.storeAt,Instr.sureAddr,Sem.run_bind,Sem.run_pure,Result.andThen_ok,storeVar,ak.size,z];simpa using cU;subst m5;exact h.heap.inj bp s bI _ eh aX c4 hH ao rfl;cases hy;refine⟨⟨_,setRow_heap w b _ _ bH _ G,?_,ht _ _ _⟩,λx F=>?_⟩;have LN:=(h7.ext aZ.ext).laid (h1.ext aZ.ext) dV (r:=(vs.take off++v.cells.toList++vs.drop (off+v.cells.toList.length)).toArray) (by simp only[auH,atO,at4,auS];simp only[auH]at g5;omega) (λk=>by rw[avz];exact p0 vs v.cells.toList off (by simpa using g5) k);simpa using LN;simp only[aI.ec]at F;subst F;exact⟨h.heap.cJ s _ x hH rfl,.inl rfl⟩
variable{y:Operand}
theorem af.SQ(hT:dg P ay){off:Nat}{e:TypeId}(F:A.a8 x=.box s b off)(hs:A.H s=some (.kU b e aA))(ax:dw ay t=some ca)
  (I:Bv ca off aA (A.a8 y) λdt=>K ((A.b2 s (some (.kU b e dt))).put dst .undef)):af P B am A dst (.store t x y) K :=
 .unit λU w C a M type pos after=>by
  obtain⟨c1,rfl⟩:=hT.get ax;obtain⟨dt,w',aO,hK,cU,fW⟩:=acZ M c1 hs I (cr M.tmps y);have W:=cr M.tmps x;rw[F]at W;exact⟨w',aO,_,by simp only[execOp,W.wA,Sem.run_bind,cU,Result.andThen_ok,Sem.run_pure],fW,hK⟩
variable{aF:bx}{xs a':List D}{aP:atE}{kD:TypeId}
theorem ac0(h:bG U w C A a){e:bx}(ak:e.gk P)(kA:aF.gk P)(b5:e.kind=.slice aF.t)(bz:aF.zero≠none)(h1:aF.aB=1){gM:TypeId}(qY:P.underlying gM=some .string){vs:Value}(BF:a'=aP.map λc=>D.int .u8 c.toNat)(mx:(xs.length+a'.length)*aF.bytes<=140737488355328)(oK:xs.length+a'.length<=9223372036854775807)(h0:0<a'.length){q dst:Nat}(hH:A.H q=some (.row vs xs aF.aB aF.t)): ∃v w' aO,(Builtin.append_ #[e.t,gM] kD #[vs,.string ⟨⟨aP⟩⟩]).run P w=.ok v w'/\bG U w' aO ((A.b2 q none).b2 dst (some (.row v (xs++a') aF.aB aF.t))) a:=by have ao:=ak.ky b5;obtain⟨i,hi,hsz,o8,nw⟩:=kA.qF;obtain⟨V,bz⟩:=awG.1 bz;obtain⟨ei,lX,mt,jR⟩:=nw V bz;(have D6:ei.cells.size=aF.aB:=by have:=(jR w C).1;rw[mt]at this;simpa using this.symm);have M:=h.drop q;(have hlen:(xs++a').length=xs.length+a'.length:=by simp);obtain⟨bQ,cap,fM,hcap,BE,p2,_,cG⟩:=h.heap.b' q _ hH;(have eJ:a'.length=aP.length:=by rw[BF];simp);(have ne:i.size=1:=by omega);(have B_:Src P i.size gM (.string ⟨⟨aP⟩⟩) a'.length (byteCells ⟨⟨aP⟩⟩) w:=by have:=Src.ofString (P:=P) w qY ⟨⟨aP⟩⟩;rw[ne,eJ];exact this);obtain⟨ft,H0⟩:∃ft,ft=byteCells ⟨⟨aP⟩⟩:=⟨_,rfl⟩;rw[<-H0]at B_;(have jS:ft.length=a'.length*aF.aB:=by rw[H0,eJ,h1];simp[byteCells]);(have BG:∀x∈a',x.cells.length=aF.aB:=λx F=>by rw[BF]at F;obtain⟨c,_,rfl⟩:=at3.1 F;rw[h1];rfl);have B':b1 a'=a':=rO (λx F=>by rw[BF]at F;obtain⟨c,_,rfl⟩:=at3.1 F;rfl);(have x5:∀(j:Nat) d,(b1 a')[j]?=some d->∃aj,ft[j]?=some aj/\bf w C d aj/\aj.oneCell'=true:=λj d N=>by rw[B',BF,aud]at N;obtain⟨c,hc,rfl⟩:=auQ.1 N;refine⟨.int .u8 c.toNat,?_,.int .u8 _,rfl⟩;rw[H0];simp only[byteCells,aud];simp[hc]);(have wK:ft.length=a'.length*i.size:=by rw[jS,hsz]);(have Es:∀x∈xs++a',x.cells.length=aF.aB:=λx F=>ax5);have du:=pP p2;(have fresh:∀(k0:List Value) (hD:Nat),k0.length=xs.length*aF.aB->(∀(j:Nat) d,(b1 xs)[j]?=some d->∃aj,k0[j]?=some aj/\bf w C d aj/\aj.oneCell'=true)->∀v,v=.slice (some ⟨w.heap.size,0,none⟩) (xs.length+a'.length) (grownCap w (xs.length+a'.length) hD aF.t)->∀w',w'=w.drew.alloc (.cells (k0.toArray++ft.toArray++Builtin.zeroCells ei.cells (grownCap w (xs.length+a'.length) hD aF.t-(xs.length+a'.length))) aF.t)->∃aO,bG U w' aO ((A.b2 q none).b2 dst (some (.row v (xs++a') aF.aB aF.t))) a:=axc);subst fM;by_cases hS:0<cap;obtain⟨b,fx,rfl,G,hcs,Ht,my⟩:=cG hS;have eK:aI.ec (.row (.slice (some ⟨b,0,none⟩) xs.length cap) xs aF.aB aF.t) b:=⟨_,cap,rfl,hS⟩;(have acl:xs.length*aF.aB<=fx.size:=by rw[hcs];exact avh _ hcap);by_cases sM:xs.length+a'.length<=cap;(have g5:xs.length*i.size+ft.length<=fx.size:=by rw[hsz,jS,hcs,<-awH];exact avh _ sM);(have ae:(Builtin.append_ #[e.t,gM] kD #[.slice (some ⟨b,0,none⟩) xs.length cap,.string ⟨⟨aP⟩⟩]).run P w=.ok (.slice (some ⟨b,0,none⟩) (xs.length+a'.length) cap) (w.setRow b (fx.toList.take (xs.length*aF.aB)++ft++fx.toList.drop (xs.length*aF.aB+ft.length)).toArray):=by have bT:(⟨⟨aP⟩⟩:ByteArray).size=a'.length:=eJ.symm;(have b0:xs.length+a'.length<=fx.size:=by rw[hcs,h1];omega);have:=Lib.run_append_room_string (P:=P) w e.t gM kD aF.t i ao qY hi ne b xs.length cap fx G ⟨⟨aP⟩⟩ (by rw[bT];exact sM) (by rw[bT];exact b0);rw[bT]at this;rw[jS,h1,awt,awt,H0];exact this);rw[hsz]at g5;have aZ:=c7.setRow (C:=C) (n:=0) G (aA:=(fx.toList.take (xs.length*aF.aB)++ft++fx.toList.drop (xs.length*aF.aB+ft.length)).toArray) atv (λo ag=>by omega);refine⟨_,_,_,ae,M.b2 aZ (λx F=>ayu) (λbp o eh aX c4 cS qN=>?_) λx F=>?_⟩;subst qN;by_cases I:bp=q;subst I;rw[qK]at c4;cases c4;rw[mw A none I]at c4;exact h.heap.inj bp q o _ eh I c4 hH cS eK;cases F;refine⟨⟨_,cap,by rw[hlen],by rw[hlen];exact sM,BE,Es,λdF gg=>⟨b,by cases gg;rfl,auy (hR G) aZ.ext.size⟩,λ_=>⟨b,_,rfl,setRow_heap w b fx _ aF.t _ G,?_,ht _ _ _,λj d N=>?_⟩⟩,λx F=>?_⟩;simp only[auH,atO,at4,auS,avy];omega;rw[x1,p1]at N;rw[avz];split at N;obtain⟨aj,ao,ae,ag⟩:=my j d N;refine⟨aj,?_,ae.ext aZ.ext,ag⟩;rw[p0 _ _ _ atw,atG atv];simpa using ao;obtain⟨aj,ao,ae,ag⟩:=x5 _ d N;refine⟨aj,?_,ae.ext aZ.ext,ag⟩;have:=e8 ao;rw[p0 _ _ _ atw,atH ⟨by omega,by omega,by simp;omega⟩,<-du];exact ao;obtain⟨h5,h6,dM,_⟩:=F;simp only[Value.slice.injEq,aus,Addr.mk.injEq]at dM;obtain⟨⟨rfl,_⟩,_⟩:=dM;exact⟨h.heap.cJ q _ _ hH eK,.inl rfl⟩;(have BH:∀(j:Nat) aj,(fx.toList.take (xs.length*aF.aB))[j]?=some aj->w.cell? ((⟨b,0,none⟩:Addr).add j)=some aj:=λj aj Z=>axN);have ae:=run_append_grow_src (P:=P) w e.t gM kD aF.t i ei ao hi lX (some ⟨b,0,none⟩) xs.length cap (fx.toList.take (xs.length*aF.aB)) (run_firstCells_some w.drew i.size xs.length ⟨b,0,none⟩ xs.length cap _ (by rw[hsz];simp;omega) (by simpa using BH)) _ a'.length ft B_ atv atv (ayx);rw[show(fx.toList.take (xs.length*aF.aB)++ft).toArray=(fx.toList.take (xs.length*aF.aB)).toArray++ft.toArray by simp]at ae;obtain⟨aO,h1⟩:=fresh (fx.toList.take (xs.length*aF.aB)) cap atw (λj d N=>axH) _ rfl _ rfl;exact⟨_,_,aO,ae,h1⟩;have F:xs=[]:=atY atv;subst F;(have Mb:cap=0:=by omega);subst Mb;cases bQ with|none =>simp only[auf,aut]at mx oK fresh;have ae:=run_append_grow_src (P:=P) w e.t gM kD aF.t i ei ao hi lX none 0 0 [] (run_firstCells_none w.drew i.size 0 0 0) _ a'.length ft B_ atv atv (ax8);rw[show(([]:List Value)++ft).toArray=([]:List Value).toArray++ft.toArray by simp,aut]at ae;obtain⟨aO,z⟩:=fresh [] 0 atx (λj d N=>by simp[b1]at N) _ rfl _ rfl;exact⟨_,_,aO,ae,by simpa using z⟩|some zR =>have ae:=run_append_grow_src (P:=P) w e.t gM kD aF.t i ei ao hi lX (some zR) 0 0 [] (run_firstCells_some w.drew i.size 0 zR 0 0 [] atx (λj aj Z=>by simp at Z)) _ a'.length ft B_ atv atv (ax8);rw[show(([]:List Value)++ft).toArray=([]:List Value).toArray++ft.toArray by simp]at ae;obtain⟨aO,z⟩:=fresh [] 0 atx (λj d N=>by simp[b1]at N) _ rfl _ rfl;exact⟨_,_,aO,ae,by simpa using z⟩
variable{gM:Nat}
theorem af.ac1(hT:dg P ay){bH:Nat}(q:Nat)(ax:dw ay t=some ca)(b5:ca.kind=.slice bH)(fu:dw ay bH=some aF)(bz:aF.zero≠none)(h1:aF.aB=1)
  (qY:P.underlying gM=some .string) (F:A.a8 x=.an v) (hH:A.H q=some (.row v xs 1 bH)) (hy:A.a8 y=.O aP) (h0:0<aP.length) (mx:(xs.length+aP.length)*aF.bytes<=140737488355328) (oK:xs.length+aP.length<=9223372036854775807)
  (hK:∀c':Value,K (((A.b2 q none).b2 s (some (.row c' (xs++aP.map λc=>D.int .u8 c.toNat) 1 bH))).put (some s) (.an c'))):af P B am A (some s) (.call ⟨.builtin .append,#[x,y],#[t,gM]⟩) K :=
 .val λU w C a M type pos after=>by
  obtain⟨c1,rfl⟩:=hT.get ax;obtain⟨fs,rfl⟩:=hT.get fu;have fj:=cr M.tmps x;rw[F]at fj
  have jV:=cr M.tmps y;rw[hy]at jV
  have al:(aP.map λc=>D.int .u8 c.toNat).length=aP.length:=by simp
  obtain⟨c',w',aO,cU,fW⟩:=ac0 M c1 fs b5 bz h1 qY (xs:=xs) (a':=aP.map λc=>D.int .u8 c.toNat) (aP:=aP) (vs:=v) (q:=q) rfl (by rw[al];exact mx) (by rw[al];exact oK) (by rw[al];exact h0) (dst:=s) (kD:=type) (by rw[h1];exact hH);rw[h1]at fW;refine⟨c',w',aO,_,_,?_,fW,.an c',hK c'⟩;rw[<-fj.fL,<-jV.kw]at cU;simp[execOp,resolve,invoke,builtin,cU]
variable{dt:List D}{c:Code}
theorem Y.SR{K:cK->aw->Prop}(s:Nat){e:TypeId}(hs:A.H s=some (.kU b e aA))(dV:dL aA dt)(h:Y U c (A.b2 s (some (.kU b e dt))) K):Y U c A K :=
 ⟨λa w C M=>h.run a w C (M.b2 (Ft:=λx=>x=b) (.refl _ _ _) (λx F=>by subst F;exact M.heap.cJ s _ _ hs rfl) (λbp o x aX ag ao F=>by subst F;exact M.heap.inj bp s o _ x aX ag hs ao rfl) (λx F=>by
  cases F
  obtain⟨vs,h1,z,aa⟩:=M.heap.b' s _ hs
  exact⟨⟨vs,h1,dV.rH z,aa⟩,λy hy=>by simp only[aI.ec]at hy;subst hy;exact⟨M.heap.cJ s _ _ hs rfl,.inl rfl⟩⟩))⟩
variable{cap:Nat}
theorem af.ac2{t:TypeId}{n:Nat}{K:aw->Prop}(F:A.a8 x=.an (.slice (some ⟨b,0,none⟩) n cap))(hc:cap≠0)(hK:K (A.put dst (.an (.pointer (some ⟨b,0,none⟩))))):
  af P B am A dst (.call ⟨.builtin .unsafeSliceData,#[x],#[t]⟩) K :=
 .val λU w C a M type pos after=>by
  have W:=cr M.tmps x;rw[F]at W
  have ae:=W.fL;refine⟨_,w,C,A,_,?_,M,.an _,hK⟩;simp[execOp,resolve,invoke,builtin,ae,Lib.run_unsafeSliceData_row (P:=P) w _ _ _ _ _ hc]
theorem c7.freeze{w:World}{C:Nat->Nat}{b n:Nat}(c6:C b=0):c7 (λx=>x=b) w C (w.freeze ⟨b,0,none⟩ n) C:=by unfold World.freeze;split;exact c7.refl _ _ _;(have X:∀(f:Obj->Obj) x,x≠b->(w.heap.modify b f)[x]?=w.heap[x]?:=λf x F=>by simp only[av'];rw[atG (λe=>F e.symm)]);refine⟨⟨by simp,λ_ _=>atP _,λx i F hi=>?_⟩,rfl,rfl,rfl,λx F av=>⟨X _ x av,rfl⟩⟩;(have aX:x≠b:=λe=>by subst e;omega);simp only[World.cell?];rw[X _ x aX]
theorem af.ac3(hT:dg P ay){bH:Nat}(q:Nat){K:aw->Prop}(ax:dw ay t=some ca)(b5:ca.kind=.slice bH)(fu:dw ay bH=some aF)(h1:aF.aB=1)
  (qY:P.underlying gM=some .string) (F:A.a8 x=.an v) (hH:A.H q=some (.row v xs k e)) (hy:A.a8 y=.O []) (hK:K (A.put dst (.an v))):af P B am A dst (.call ⟨.builtin .append,#[x,y],#[t,gM]⟩) K :=
 .val λU w C a M type pos after=>by
  obtain⟨c1,rfl⟩:=hT.get ax;obtain⟨fs,rfl⟩:=hT.get fu;have ao:=c1.ky b5;obtain⟨i,hi,hsz,o8,nw⟩:=fs.qF;have fj:=cr M.tmps x;rw[F]at fj
  have jV:=cr M.tmps y;rw[hy]at jV
  obtain⟨bQ,cap,W,hc,_⟩:=M.heap.b' q _ hH;subst W;have ne:i.size=1:=atv
  have B_:=Src.ofString (P:=P) w qY ⟨⟨[]⟩⟩
  have cU:(Builtin.append_ #[ca.t,gM] type #[.slice bQ xs.length cap,.string ⟨⟨[]⟩⟩]).run P w=.ok (.slice bQ xs.length cap) w :=
   run_append_nothing w ca.t gM type aF.t i ao hi bQ xs.length cap hc _ (by rw[ne];exact B_)
  have bT:=fj.fL;have b0:=jV.kw;rw[<-bT,<-b0]at cU;rw[bT]at cU;refine⟨.slice bQ xs.length cap,w,C,A,_,?_,M,.an _,hK⟩;simp[execOp,resolve,invoke,builtin,bT,cU]
theorem bG.Ca{q:Nat}{o:aI}(h:bG U w C A a)(hH:A.H q=some o):bG U w C ((A.b2 q none).b2 s (some o)) a:=by refine(h.drop q).b2 (Ft:=λb=>aI.ec o b) (.refl _ _ _) (λb G=>h.heap.cJ q _ b hH G) (λbp bI b aX c4 cS G=>?_) λx F=>?_;by_cases I:bp=q;subst I;rw[qK]at c4;cases c4;rw[mw A none I]at c4;exact h.heap.inj bp q bI _ b I c4 hH cS G;cases F;exact⟨h.heap.b' q _ hH,λb G=>⟨h.heap.cJ q _ b hH G,.inl G⟩⟩
theorem af.ac4(hT:dg P ay){bH:Nat}(q:Nat){K:aw->Prop}(ax:dw ay t=some ca)(b5:ca.kind=.slice bH)(fu:dw ay bH=some aF)(bz:aF.zero≠none)(h1:aF.aB=1)(qY:P.underlying gM=some .string)(F:A.a8 x=.an v)(hH:A.H q=some (.row v xs 1 bH))(hy:A.a8 y=.O aP)(mx:(xs.length+aP.length)*aF.bytes<=140737488355328)(oK:xs.length+aP.length<=9223372036854775807)(hK:∀c':Value,K (((A.b2 q none).b2 s (some (.row c' (xs++aP.map λc=>D.int .u8 c.toNat) 1 bH))).put (some s) (.an c'))):af P B am A (some s) (.call ⟨.builtin .append,#[x,y],#[t,gM]⟩) K:=by cases aP with|cons c r=>exact .ac1 hT q ax b5 fu bz h1 qY F hH hy atx mx oK hK|nil =>have z:af P B am A (some s) (.call ⟨.builtin .append,#[x,y],#[t,gM]⟩) (λaz=>az=A.put (some s) (.an v)):=.ac3 hT q ax b5 fu h1 qY F hH hy rfl;have aa:=hK v;simp only[avp,auK]at aa;refine⟨λU w C a M N type pos after a6=>Oper.wp_mono (λbv w' ⟨az,aO,ak,bJ⟩=>?_) (z.run U w C a M N type pos after a6)⟩;subst ak;exact⟨_,aO,aa,bJ.Ca (q:=q) (s:=s) (by rw[D7];exact hH)⟩
theorem af.ac5(hT:dg P ay){My SS bH:TypeId}(q:Nat){K:aw->Prop}(H1:P.underlying My=some (.pointer bH))(fu:dw ay bH=some aF)(h1:aF.aB=1)
  (hH:A.H q=some (.row (.slice (some ⟨b,0,none⟩) aP.length cap) (aP.map λc=>D.int .u8 c.toNat) 1 bH)) (F:A.a8 x=.an (.pointer (some ⟨b,0,none⟩))) (hy:A.a8 y=.int .i64 (aP.length:Nat)) (h0:0<aP.length)
  (oK:aP.length<=9223372036854775807) (hK:K ((A.b2 q none).put dst (.O aP))):af P B am A dst (.call ⟨.builtin .unsafeString,#[x,y],#[My,SS]⟩) K :=
 .val λU w C a M type pos after=>by
  obtain⟨fs,rfl⟩:=hT.get fu;have fj:=cr M.tmps x;rw[F]at fj
  have jV:=cr M.tmps y;rw[hy]at jV
  have my:=M.heap.b' q _ hH;obtain⟨bQ,h6,W,hc,hm,X,eJ,cG⟩:=my;simp only[Value.slice.injEq]at W;obtain⟨rfl,_,rfl⟩:=W;have ac6:(aP.map λc=>D.int .u8 c.toNat).length=aP.length:=by simp
  rw[ac6]at hc;obtain⟨eh,vs,qN,G,hsz,c6,ae⟩:=cG atv;cases qN
  have eK:aI.ec (.row (.slice (some ⟨b,0,none⟩) aP.length cap) (aP.map λc=>D.int .u8 c.toNat) 1 aF.t) b:=⟨_,cap,rfl,by omega⟩;have du:b1 (aP.map λc=>D.int .u8 c.toNat)=aP.map λc=>D.int .u8 c.toNat:=rO (λx F=>by obtain⟨c,_,rfl⟩:=at3.1 F;rfl)
  have gd:∀j x,aP[j]?=some x->w.cell? ((⟨b,0,none⟩:Addr).add j)=some (.int .u8 x.toNat):=λj x Z=>by
   obtain⟨aj,aa,aC,_⟩:=ae j (.int .u8 x.toNat) (by rw[du,aud,Z];rfl);rw[o5,aut];simp only[World.cell?,G];rw[aC.fr]at aa;simpa using aa
  have cU:=Lib.run_unsafeString_row (P:=P) w My SS type aF.t H1 (by rw[fs.cellsOf,h1]) b (cap*1) (by simp[World.shape?,G,hsz]) aP (by intro e;subst e;simp at h0) atv oK gd;refine⟨.string ⟨aP.toArray⟩,w.freeze ⟨b,0,none⟩ aP.length,C,A.b2 q none,.O aP,?_,M.b2 (Ft:=λx=>x=b) (c7.freeze c6) (λx F=>by subst F;exact M.heap.cJ q _ _ hH eK) (λbp o x aX ag ao F=>by subst F;exact M.heap.inj bp q o _ x aX ag hH ao eK) (λx F=>by cases F),.O aP,hK⟩;have bT:=fj.fL;have b0:=jV.fr;simp[execOp,resolve,invoke,builtin,bT,b0,cU]
def cQ(l:List (Nat×aI))(ct:bF):bF:=λs=>match aK l s with|some o=>some o|none=>ct s
variable{ct:bF}
theorem nI.Mz{l:List (Nat×aI)}(h:m2 A l)(N:∀k o,ct k=some o->A.H k=some o):nI A (cQ l ct):=λk o ag=>by
 unfold cQ at ag
 cases al:aK l k with
 |some bI=>rw[al]at ag;cases ag;exact h.aK k _ al
 |none=>rw[al]at ag;exact N k o ag
theorem ST{l:List (Nat×aI)}(h:aK l k=none):cQ l ct k=ct k:=by unfold cQ;rw[h]
theorem H2{α:Type}:∀{l:List (Nat×α)} {k:Nat},(∀p∈l,p.1≠k)->aK l k=none
 |[],_,_=>rfl
 |(i,d)::r,k,h=>by have h1:=h (i,d) atS;simp only[aK];cases G:Nat.beq k i with|true=>exact absurd (aua G).symm h1|false=>exact H2 λp au=>h p (atU _ au)
variable{j:Nat}{tg:iD}
section
theorem af.od(hT:dg P ay)(s:Nat)(F:A.a8 x=.an (h_ v (i*k+j)))(hs:A.H s=some (.row v xs k e))(ax:dw ay t=some ca){y:D}
  (hy:xs[i]?=some y) (al:DV ca k j y λd=>K (A.put dst d)):af P B am A dst (.load t x) K :=
 .val λU w C a M type pos after=>by
  obtain⟨c1,rfl⟩:=hT.get ax;have W:=cr M.tmps x;rw[F]at W
  obtain⟨b,cap,vs,rfl,_,_,X,G,hsz,_,ae⟩:=kx.pos (M.heap.b' s _ hs) (e8 hy);obtain⟨d,hK,N⟩:=Lr c1 al
  obtain⟨aj,ao,L4⟩:=N w C b (0+i*k) (λj=>vs.getD (i*k+j) undef) (X y (at2 hy)) (λj d N=>by
   have Z:j<k:=by rw[<-X y (at2 hy)];exact e8 N
   obtain⟨aj,h1,z,_⟩:=ae (i*k+j) d (by rw[wF X hy Z];exact N);refine⟨?_,?_⟩
   ·simp only[World.cell?,G,aut];simp[h1,avt]
   simp[avt,h1,z])
  refine⟨aj,w,C,A,d,?_,M,L4,hK⟩;simp only[h_]at W
  have dM:a.eval x=.pointer (some ⟨b,0+i*k+j,none⟩):=by
   rw[W.fL,avF]
  simp only[execOp,dM,Sem.run_bind,ao,Result.andThen_ok,Sem.run_pure]
theorem af.SU(hT:dg P ay){bH:Nat}(q fh:Nat)(ax:dw ay t=some ca)(b5:ca.kind=.slice bH)(fu:dw ay bH=some aF)(bz:aF.zero≠none)
  (F:A.a8 x=.Q (.own fh v) aF.aB xs) (hH:A.H q=some (.own v xs.length aF.aB bH)) (hy:A.a8 y=.Q tg aF.aB a') (mx:(xs.length+a'.length)*aF.bytes<=140737488355328) (oK:xs.length+a'.length<=9223372036854775807)
  (hK:∀c':Value,K (((A.b2 q none).b2 s (some (.own c' (xs.length+a'.length) aF.aB bH))).put (some s) (.Q (.own s c') aF.aB (xs++a')))):af P B am A (some s) (.call ⟨.builtin .append,#[x,y],#[t,t]⟩) K :=
 .val λU w C a M type pos after=>by
  obtain⟨c1,rfl⟩:=hT.get ax;obtain⟨fs,rfl⟩:=hT.get fu;have fj:=cr M.tmps x;rw[F]at fj
  have jV:=cr M.tmps y;rw[hy]at jV
  have rX:a.eval x=v:=by
   rcases fj.kz with⟨_,_,ax⟩|⟨b,o,cap,g,_,ax,_⟩
   ·exact ax
   exact ax
  obtain⟨c',w',aO,cU,eO,fW⟩:=R3 (a:=a) M c1 fs b5 bz fj jV mx oK (q:=q) (dst:=s) (kD:=type) (.inr (by rw[rX];exact hH));refine⟨c',w',aO,_,_,?_,fW,eO,hK c'⟩;simp[execOp,resolve,invoke,builtin,cU]
end
set_option linter.unusedVariables false in
theorem dL.l9:∀{a b c d:List D},dL a b->dL c d->dL (a++c) (b++d)
 |[],[],_,_,_,z=>z
 |a0::ac7,lp::SV,c,d,h1,z=>⟨h1.1,dL.l9 (a:=ac7) (b:=SV) h1.2 z⟩
theorem dL.b1:∀{xs a':List D},xs.length=a'.length->(∀(i:Nat) x y,xs[i]?=some x->a'[i]?=some y->dL x.cells y.cells)->dL (b1 xs) (b1 a')
 |[],[],_,_=>trivial
 |x::xs,y::a',al,h=>dL.l9 (h 0 x y rfl rfl) (dL.b1 (xs:=xs) (a':=a') (by simpa using al) λi a b ha G=>h (i+1) a b ha G)
theorem Y.SX{K:cK->aw->Prop}(h:Y U c A λe az=>∃l hs m,n_ az l hs m/\K e (hq l hs)):Y U c A K :=
 ⟨λa w C M=>wp_mono (h.run a w C M) λ_ _ _ ⟨c3,_,aO,ak,⟨_,_,_,X,hK⟩,bJ⟩=>⟨c3,_,aO,ak,hK,bJ.Hz X⟩⟩
theorem ac8(f:Nat->Bool)(n:Nat)(h:∀i,i<n->f i=true):∃g:Nat->Bool,f=λj=>_root_.cond (Nat.blt j n) true (g j) :=
 ⟨f,funext λj=>by
  cases G:Nat.blt j n with
  |false=>rfl
  |true=>exact h j (by simpa using G)⟩
theorem EG(f:Nat->Bool)(k:Nat)(h:f k=true):∃g:Nat->Bool,f=λj=>_root_.cond (Nat.beq j k) true (g j) :=
 ⟨f,funext λj=>by cases G:Nat.beq j k with|false=>rfl|true=>rw[aua G];exact h⟩
def yi(H:bF):List (Nat×Nat)->List (Nat×aI)->Prop
 |[],[]=>True
 |(k,s)::m,(bC,o)::hs=>k=bC/\H s=some o/\yi H m hs
 |_,_=>False
theorem MA{H:bF}:∀{m:List (Nat×Nat)} {hs:List (Nat×aI)},yi H m hs->∀j,gA H m j=aK hs j
 |[],[],_,j=>rfl
 |(k,s)::m,(bC,o)::hs,h,j=>by obtain⟨rfl,h1,z⟩:=h;have aY:=MA z j;simp only[gA,aK]at aY⊢;cases Nat.beq j k with|true=>exact h1|false=>exact aY
variable{f:FuncId}{ds:List D}{a6:D->bF->Prop}{m:List (Nat×Nat)}{hs:List (Nat×aI)}
theorem c8.wY{H:bF}(h:yi H m hs)(hc:c8 P B f ds (aK hs) a6):c8 P B f ds (gA H m) a6:=by rw[show gA H m=aK hs from funext (MA h)];exact hc
theorem SY{H:bF}:∀{m:List (Nat×Nat)},ka m=true->∀p∈m,gA H m p.1=H p.2
 |(k,s)::r,hm,p,au=>by rw[ka,atM]at hm;simp only[gA];rcases at6.1 au with rfl|au;simp;have h1:=auC.1 hm.1 p au;rw[atM]at h1;(have z:Nat.beq p.1 k=false:=by simpa using h1.1);rw[z];exact SY hm.2 p au
theorem SZ{H aM:bF}:∀{m:List (Nat×Nat)},(∀p∈m,aM p.1=H p.2)->qO H aM m=H
 |[],_=>rfl
 |(k,s)::r,h=>by funext j;simp only[qO];cases G:Nat.beq j s with|true=>rw[aua G];exact h (k,s) atS|false=>exact congrFun (SZ λp au=>h p (atU _ au)) j
variable{args:Array Operand}{m8:Array TypeId}{b6:FuncId}{cq:List D}{d':D}
theorem af.Cb{K:aw->Prop}{f:Operand}{first:List D}(M:A.a8 f=.fn (.func b6) first cq)
  (g2:List D) (m:List (Nat×Nat))  {g':D} (h:yi A.H m hs) (hc:c8 P B b6 g2 (aK hs) λd aM=>d=g'/\aM=aK hs) (hm:ka m=true) (dV:dL (first++args.toList.map A.a8++cq) g2)
   (N:aq g' d') (hK:K (A.put dst d')):af P B am A dst (.call ⟨.value f,args,m8⟩) K :=
 af.call M g2 m (c8.wY h hc) hm dV λd aM I=>by
  obtain⟨rfl,rfl⟩:=I;refine⟨d',N,?_⟩;have e:aK hs=gA A.H m:=(funext (MA h)).symm;rw[show qO A.H (aK hs) m=A.H from SZ λp au=>by rw[e];exact SY hm p au];exact hK
theorem af.yj{K:aw->Prop}{t:TypeId}{m:Operand}(h:af P B am A dst (.mapUpdate t m x y) K):af P B am A dst (.insert t m x y) K :=
 ⟨λU w C a M N type pos after a6=>h.1 U w C a M N type pos after a6⟩
def MB(H:bF):List (Nat×Nat)->Prop
 |[]=>True
 |(_,s)::m=>H s=none/\MB H m
theorem S0{H:bF}:∀{m:List (Nat×Nat)},MB H m->∀j,gA H m j=none
 |[],_,j=>rfl
 |(k,s)::m,h,j=>by have aY:=S0 h.2 j;simp only[gA];cases Nat.beq j k with|true=>exact h.1|false=>exact aY
theorem c8.S1{H:bF}(h:MB H m)(hc:c8 P B f ds bF.none a6):c8 P B f ds (gA H m) a6:=by rw[show gA H m=bF.none from funext (S0 h)];exact hc
theorem Y.ac9{K:cK->aw->Prop}(s:Nat)(hs:A.H s=some (.row v xs k e))(h0:0<xs.length)
  (h:∀b cap,v=.slice (some ⟨b,0,none⟩) xs.length cap->xs.length<=cap->cap<=maxLen->Y U c A K):Y U c A K :=
 ⟨λa w C M=>by
  obtain⟨b,cap,vs,W,hc,hm,_⟩:=kx.pos (i:=0) (M.heap.b' s _ hs) h0
  exact(h b cap W hc hm).run a w C M⟩
variable{op:Op}
theorem af.plain(hT:dg P ay)(I:n1 P B ay A dst op K):af P B am A dst op K :=
 ⟨λU w C a M N type pos after a6=>tR hT M N I a6⟩
variable{sT mE hU:Operand}{a0 ga a2 a3:Int}
theorem af.ac_{t e:TypeId}{H3 MC MD ME MF MG MH MI MJ:Operand}{i:TypeInfo}{q:IntKind}{a4 a5 Ad EH Ae a9 EI EJ:Int}(ao:P.underlying t=some (.array 12 e))(hi:P.info? e=some i)(hsz:i.size=1)
  (bz:∀w,(zeroValue t).run P w=.ok (.agg #[.int q 0,.int q 0,.int q 0,.int q 0,.int q 0,.int q 0,.int q 0,.int q 0,.int q 0,.int q 0,.int q 0,.int q 0]) w) (h0:A.a8 sT=.int q a0) (h1:A.a8 mE=.int q ga) (z:A.a8 hU=.int q a2) (aa:A.a8 H3=.int q a3) (aC:A.a8 MC=.int q a4) (a_:A.a8 MD=.int q a5) (cC:A.a8 ME=.int q Ad) (eV:A.a8 MF=.int q EH) (fZ:A.a8 MG=.int q Ae) (hI:A.a8 MH=.int q a9) (sW:A.a8 MI=.int q EI) (rY:A.a8 MJ=.int q EJ)
  (hK:K (A.put dst (.agg [.int q a0,.int q ga,.int q a2,.int q a3,.int q a4,.int q a5,.int q Ad,.int q EH,.int q Ae,.int q a9,.int q EI,.int q EJ]))):af P B am A dst (.build t #[(0,sT),(1,mE),(2,hU),(3,H3),(4,MC),(5,MD),(6,ME),(7,MF),(8,MG),(9,MH),(10,MI),(11,MJ)]) K :=
 .val λU w C a M type pos after=>by
  have v0:=cr M.tmps sT;rw[h0]at v0
  have jz:=cr M.tmps mE;rw[h1]at jz
  have v2:=cr M.tmps hU;rw[z]at v2
  have v3:=cr M.tmps H3;rw[aa]at v3
  have v4:=cr M.tmps MC;rw[aC]at v4
  have v5:=cr M.tmps MD;rw[a_]at v5
  have Cc:=cr M.tmps ME;rw[cC]at Cc
  have H4:=cr M.tmps MF;rw[eV]at H4
  have S2:=cr M.tmps MG;rw[fZ]at S2
  have v9:=cr M.tmps MH;rw[hI]at v9
  have S3:=cr M.tmps MI;rw[sW]at S3
  have S4:=cr M.tmps MJ;rw[rY]at S4
  refine⟨.agg #[.int q a0,.int q ga,.int q a2,.int q a3,.int q a4,.int q a5,.int q Ad,.int q EH,.int q Ae,.int q a9,.int q EI,.int q EJ],w,C,A,_,?_,M,.agg [.int q a0,.int q ga,.int q a2,.int q a3,.int q a4,.int q a5,.int q Ad,.int q EH,.int q Ae,.int q a9,.int q EI,.int q EJ] [.int q a0,.int q ga,.int q a2,.int q a3,.int q a4,.int q a5,.int q Ad,.int q EH,.int q Ae,.int q a9,.int q EI,.int q EJ] rfl (λj d v N W=>?_),hK⟩
  ·simp[execOp,v0.fr,jz.fr,v2.fr,v3.fr,v4.fr,v5.fr,Cc.fr,H4.fr,S2.fr,v9.fr,S3.fr,S4.fr,Instr.build,bz,run_underlying ao,zH hi,hsz,Result.andThen,Instr.fill,Value.cells]
  match j with
  |0=>cases N;cases W;exact .int _ _
  |1=>cases N;cases W;exact .int _ _
  |2=>cases N;cases W;exact .int _ _
  |3=>cases N;cases W;exact .int _ _
  |4=>cases N;cases W;exact .int _ _
  |5=>cases N;cases W;exact .int _ _
  |6=>cases N;cases W;exact .int _ _
  |7=>cases N;cases W;exact .int _ _
  |8=>cases N;cases W;exact .int _ _
  |9=>cases N;cases W;exact .int _ _
  |10=>cases N;cases W;exact .int _ _
  |11=>cases N;cases W;exact .int _ _
  |j+12=>simp at N
variable{fV:Operand}{El:IntKind}{qG:TypeInfo}
theorem af.ac'{bH n:Nat}{off:Nat}{i:Int}(ao:P.underlying t=some (.array n bH))(hi:P.info? bH=some qG)(F:A.a8 x=.box s b off)(rZ:A.a8 fV=.int El i)
  (h0:0<=i) (h1:i<n) (hK:K (A.put dst (.box s b (off+i.toNat*qG.size)))):af P B am A dst (.indexAddr t x fV) K :=
 .val λU w C a M type pos after=>by
  have W:=cr M.tmps x;rw[F]at W
  have Em:=cr M.tmps fV;rw[rZ]at Em
  refine⟨.pointer (some ⟨b,off+i.toNat*qG.size,none⟩),w,C,A,_,?_,M,.box _ _ _,hK⟩;simp[execOp,Instr.indexAt,W.wA,Em.fr,asIntOf,run_underlying ao,Instr.sureAddr,h0,h1,zH hi,o5]
variable{d:D}
theorem af.ada(hT:dg P ay){off:Nat}(F:A.a8 x=.box s b off)(hs:A.H s=some (.box b aA))(ax:dw ay t=some ca)(ha:ca.agg=false)(hc:aA[off]?=some d)
  (hK:K (A.put dst d)):af P B am A dst (.load t x) K :=
 af.plain hT (by
  show opn true (A.a8 x) λx=>zC ay A true t x λd=>K (A.put dst d);rw[F];show zC ay A true t (.box s b off) λd=>K (A.put dst d);unfold zC;rw[ax];simp only[hs,DU,ha,hc]
  exact⟨trivial,hK⟩)
variable{oH kY:Nat}{rP:bx}
theorem af.r0(hT:dg P ay){bH:Nat}(ax:dw ay oH=some ca)(b5:ca.kind=.O)(N:dw ay kY=some rP)(pb:rP.kind=.slice bH)
  (fu:dw ay bH=some aF) (l2:aF.kind=.int .u8) (F:A.a8 x=.O aP) (hlen:aP.length<=1000000000000)
  (hK:K (A.put dst (.Q .none 1 (aP.map λc=>D.int .u8 c.toNat)))):af P B am A dst (.convert oH kY x) K :=
 .val λU w C a M type pos after=>by
  obtain⟨c1,rfl⟩:=hT.get ax;obtain⟨zY,rfl⟩:=hT.get N;obtain⟨fs,rfl⟩:=hT.get fu;have W:=cr M.tmps x;rw[F]at W
  have i6:(⟨⟨aP⟩⟩:ByteArray).size=aP.length:=rfl;have cU:=run_bytes_of_string (P:=P) w ca.t rP.t aF.t ⟨⟨aP⟩⟩ (c1.pV b5) (zY.ky pb) (fs.sH l2);rw[i6]at cU;have io:=grownCap_ge w aP.length 0 aF.t;have BR:=grownCap_le_maxLen w aP.length 0 aF.t (by unfold maxLen;omega);generalize hcap:grownCap w aP.length 0 aF.t=cap at*;generalize H5:((bytesRow ⟨⟨aP⟩⟩ cap).size,(bytesRow ⟨⟨aP⟩⟩ cap).size+1)=j_ at*;have m9:bG U w.drew C A a:=M.tQ (c7.drew _ w C);have MK:=m9.tQ (c7.alloc (λ_=>False) w.drew C (.cells (bytesRow ⟨⟨aP⟩⟩ cap) aF.t j_) aP.length);have gv:(aP.map λc=>D.int .u8 c.toNat).length=aP.length:=atL ..;have ef:∀x∈(aP.map λc=>D.int .u8 c.toNat),x.cells=[x]:=λx F=>by obtain⟨c,_,rfl⟩:=at3.1 F;rfl
  have B':b1 (aP.map λc=>D.int .u8 c.toNat)=aP.map λc=>D.int .u8 c.toNat:=rO ef;refine⟨.slice (some ⟨w.heap.size,0,none⟩) aP.length cap,_,_,A,.Q .none 1 (aP.map λc=>D.int .u8 c.toNat),?_,MK,?_,hK⟩
  ·simp only[execOp,W.kw,Sem.run_bind,cU,Result.andThen_ok,Sem.run_pure]
  have EK:(w.drew.alloc (.cells (bytesRow ⟨⟨aP⟩⟩ cap) aF.t j_)).heap[w.heap.size]?=some (.cells (bytesRow ⟨⟨aP⟩⟩ cap) aF.t j_):=kB w.drew _
  have h:=bf.Q (w:=w.drew.alloc (.cells (bytesRow ⟨⟨aP⟩⟩ cap) aF.t j_)) (C:=gy C w.drew.heap.size aP.length) .none 1 (aP.map λc=>D.int .u8 c.toNat) w.heap.size 0 cap (λj=>.int .u8 ((aP.getD j 0).toNat:Nat)) trivial (hR EK) (by rw[gv];exact io) BR
   (λx F=>by rw[ef x F];rfl) (by rw[gv];show 0+aP.length*1<=gy C w.heap.size aP.length w.heap.size;rw[ht];omega)
   (λj d N=>by
    rw[B',aud,auQ]at N;obtain⟨c,hc,rfl⟩:=N;have Z:j<aP.length:=(aui.1 hc).1;have h9:aP.getD j 0=c:=by rw[avG,hc];rfl
    unfold World.cell?;rw[EK];show(bytesRow ⟨⟨aP⟩⟩ cap)[0+j]?=_;rw[aut,h9];unfold bytesRow;rw[awE (by simpa using Z)]
    simp[hc])
   (λj d N=>rfl)
   (λj d N=>by
    rw[B',aud,auQ]at N;obtain⟨c,hc,rfl⟩:=N;have h9:aP.getD j 0=c:=by rw[avG,hc];rfl
    show bf _ _ (.int .u8 (c.toNat:Nat)) (.int .u8 ((aP.getD j 0).toNat:Nat))
    rw[h9];exact .int _ _)
  rw[gv]at h;exact h
def t'(P:Program)(B:World)(ay:List bx)(am:Nat)(ops:Array Oper):List Oper->aw->(aw->Prop)->Prop
 |[],A,K=>K A
 |⟨dst,op,_,_,_,guard⟩::rest,A,K=>iY am dst=true/\(match guard with
  |none=>(n1 P B ay A dst op λaz=>t' P B ay am ops rest az K)\/af P B am A dst op λaz=>t' P B ay am ops rest az K
  |some (j,iG)=>∃g b,(ops[j]?).bind (·.dst)=some g/\A.t g=.bool b/\
   ((b=iG/\((n1 P B ay A dst op λaz=>t' P B ay am ops rest az K)\/af P B am A dst op λaz=>t' P B ay am ops rest az K))\/(b=!iG/\t' P B ay am ops rest (A.put dst .undef) K)))
theorem S5{ay:List bx}(hT:dg P ay){U:b7 P B am}{ops:Array Oper}{a6:Exit->Act->World->Prop}{K:aw->Prop}(f_:∀az bv w' aO,K az->bG U w' aO az bv->a6 .normal bv w'): ∀{l:List Oper} {A:aw} (_:t' P B ay am ops l A K) {a:Act} {w:World} {C:Nat->Nat} (_:bG U w C A a),wpList P ops a6 l a w
 |[],_,I,_,_,_,M=>f_ _ _ _ _ I M
 |o::rest,A,I,a,w,C,M=>by obtain⟨N,I⟩:=I;(have next:∀bv w',(∃az aO,t' P B ay am ops rest az K/\bG U w' aO az bv)->wpList P ops a6 rest bv w':=λbv w' ⟨az,aO,h1,z⟩=>S5 hT f_ h1 z);(have wB:((n1 P B ay A o.dst o.op λaz=>t' P B ay am ops rest az K)\/af P B am A o.dst o.op λaz=>t' P B ay am ops rest az K)->o.wp P a w (λbv w'=>wpList P ops a6 rest bv w') a6:=λI=>by rcases I with I|I;(·exact Oper.wp_mono next (tR hT M N I a6));obtain⟨dst,op,type,pos,after,guard⟩:=o;exact Oper.wp_mono next (I.run U w C a M N type pos after a6));unfold wpList;cases nd:o.guard with|none =>rw[nd]at I;rw[atH (by simp[Region.wanted,nd])];exact .inl (wB I)|some z8 =>obtain⟨j,iG⟩:=z8;rw[nd]at I;obtain⟨g,b,h1,z,I⟩:=I;have jT:=M.tmps g;rw[z]at jT;have hy:=x7 h1 jT.h4;rcases I with⟨rfl,I⟩|⟨rfl,I⟩;rw[atH (by simp[Region.wanted,nd,hy])];exact .inl (wB I);rw[atG (by cases iG<;>simp[Region.wanted,nd,hy])];(exact next _ _ ⟨_,_,I,M.put N .undef⟩)
theorem Y.Af{ay:List bx}(hT:dg P ay){K:cK->aw->Prop}(I:t' P B ay am ops ops.toList A (K .normal)):Y U (.region id ops false) A K :=
 ⟨λ_ _ _ M=>wp_region_list (S5 hT (λaz _ _ aO hK bJ=>⟨.normal,az,aO,rfl,hK,bJ⟩) I M)⟩
theorem af.H6{K:aw->Prop}{c a b:Operand}{g:Bool}(hc:A.a8 c=.bool g)(aT:g=true)(hK:K (A.put dst (A.a8 a))):af P B am A dst (.pick c a b) K :=
 .val λU w C x M type pos after=>by
  subst aT;have W:=cr M.tmps c;rw[hc]at W
  exact⟨_,w,C,A,_,by simp[execOp,W.h4,asBool],M,cr M.tmps a,hK⟩
theorem af.wZ{K:aw->Prop}{c a b:Operand}{g:Bool}(hc:A.a8 c=.bool g)(aT:g=false)(hK:K (A.put dst (A.a8 b))):af P B am A dst (.pick c a b) K :=
 .val λU w C x M type pos after=>by
  subst aT;have W:=cr M.tmps c;rw[hc]at W
  exact⟨_,w,C,A,_,by simp[execOp,W.h4,asBool],M,cr M.tmps b,hK⟩
variable{ce dn:IntKind}
theorem af.adb{K:aw->Prop}{ay:List bx}(hT:dg P ay){l c:Operand}{bH n:Nat}{V:D}(ax:dw ay t=some ca)(b5:ca.kind=.slice bH)(fu:dw ay bH=some aF)(bz:aF.zero=some [V])(ef:V.one=true)
  (al:A.a8 l=.int ce n) (hc:A.a8 c=.int dn n) (G:aF.bytes*n<=281474976710656) (av:n<=9223372036854775807)
  (hK:∀b,K ((A.b2 s (some (.row (.slice (some ⟨b,0,none⟩) n n) (List.replicate n V) 1 bH))).put (some s) (.an (.slice (some ⟨b,0,none⟩) n n)))):af P B am A (some s) (.makeSlice t l c) K :=
 .val λU w C a M type pos after=>by
  obtain⟨c1,rfl⟩:=hT.get ax;obtain⟨fs,rfl⟩:=hT.get fu;have o6:=cr M.tmps l;rw[al]at o6
  have sR:=cr M.tmps c;rw[hc]at sR
  obtain⟨ei,jR,mt,cU⟩:=L6 c1 fs b5 w ce dn n n (atP _) G av bz
  have L7:∃aj,ei.cells=#[aj]:=by
   have h1:=(jR w C).1;generalize ei.cells=aA at h1⊢;obtain⟨l⟩:=aA
   match l,h1 with
   |[aj],_=>exact⟨aj,rfl⟩
  obtain⟨aj,ao⟩:=L7;have eO:∀w C,bf w C V aj:=λw C=>by have:=(jR w C).2 0 V aj rfl (by rw[ao];rfl);exact this
  have L8:=((eO w C).oJ ef).2;have hsz:aF.aB=1:=by rw[<-mt];rfl
  rw[ao,hsz,awt]at cU;refine⟨_,_,_,_,_,?_,M.newObj s (mA:=.row (.slice (some ⟨w.heap.size,0,none⟩) n n) (List.replicate n V) 1 aF.t) (o:=.cells (madeCells #[aj] n) aF.t) ?_ ?_,.an _,hK _⟩
  ·simp only[execOp,o6.fr,sR.fr,Sem.run_bind,cU,Result.andThen_ok,Sem.run_pure]
  ·have h1:∀x∈List.replicate n V,x.cells=[x]:=λx F=>by rw[List.eq_of_mem_replicate F];exact D.oJ ef
   refine⟨_,n,by simp,by simp,by simp only[maxLen];omega,λx F=>by rw[h1 x F];rfl,λdF gg=>⟨_,by cases gg;rfl,hR (kB w _)⟩,λ_=>⟨w.heap.size,_,rfl,kB w _,by simp[size_madeCells],ht _ _ _,λj d N=>?_⟩⟩;have du:=L5 ef n;rw[du]at N;have Z:j<n:=by have:=e8 N;simpa using this
   have L9:d=V:=by simp[Z]at N;exact N.symm
   subst L9;refine⟨aj,?_,eO _ _,L8⟩;rw[<-au',toList_madeCells_one];simp[Z]
  rintro b ⟨h5,cap,h,_⟩;exact pa h
theorem af.yk(hT:dg P ay)(s:Nat)(F:A.a8 x=.an (h_ v (i*k)))(hs:A.H s=some (.row v xs k e))(ax:dw ay t=some ca)(hsz:ca.aB=k)
  (hi:i<xs.length) (EL:A.a8 y=.agg aA) (hcs:aA.length=k) (ef:aA.all D.one=true) (hK:K ((A.b2 s (some (.row v (xs.set i (.agg aA)) k e))).put dst .undef)):af P B am A dst (.store t x y) K :=
 .unit λU w C a M type pos after=>by
  obtain⟨c1,rfl⟩:=hT.get ax;have W:=cr M.tmps x;rw[F]at W
  have hy:=cr M.tmps y;rw[EL]at hy;obtain⟨dh,x8,h7⟩:=hy.sD;have h1:(a.eval y).cells.toList=dh:=by rw[x8];rfl
  have z_:dh.length=k:=by rw[<-h7.1,hcs]
  have z:∀aj∈dh,aj.oneCell'=true:=λaj ao=>by
   obtain⟨j,Z⟩:=aub.1 ao;have tV:=e8 Z;obtain⟨d,N⟩:=lW (l:=aA) (i:=j) atv;exact((h7.2 j d aj N Z).oJ (auC.1 ef d (at2 N))).2
  obtain⟨b,cap,vs,rfl,hc,hm,X,G,fM,c6,ae⟩:=kx.pos (M.heap.b' s _ hs) hi;have dV:i*k+k<=cap*k:=by rw[<-avR];exact avh k (auy hi hc)
  have Hq:i*k+k<=xs.length*k:=by rw[<-avR];exact avh k hi
  have g5:i*k+0+dh.length<=vs.size:=by rw[z_,fM];omega
  have cU:=run_storeCells_at P b (i*k) e dh 0 vs w G g5 z;simp only[av_]at cU g5;have aZ:=c7.setRow (C:=C) (n:=0) G (aA:=(vs.toList.take (i*k)++dh++vs.toList.drop (i*k+dh.length)).toArray) atv (λo ag=>by omega);have eK:aI.ec (.row (.slice (some ⟨b,0,none⟩) xs.length cap) xs k e) b:=⟨_,cap,rfl,by omega⟩;have x9:=HA X hi (x:=.agg aA) hcs;have du:=pP X;refine⟨_,_,_,?_,M.b2 aZ (s:=s) (λx F=>ayv) (λbp bI eh aX c4 ao m5=>?_) λV bz=>?_,hK⟩
  ·simp only[h_,aut]at W;have BC:(a.eval y).cells.size=k:=by rw[<-avy,h1,z_]
   simp only[execOp,W.fL,Instr.storeAt,Instr.sureAddr,Sem.run_bind,Sem.run_pure,Result.andThen_ok,storeVar,c1.size,hsz,h1];rw[atG (by rw[BC];simp)];exact(atI (λr=>Result.andThen r λ_ w'=>Result.ok Next.skip w') cU).trans rfl
  ·subst m5;exact M.heap.inj bp s bI _ eh aX c4 hs ao eK
  cases bz
  refine⟨⟨_,cap,by rw[avc],by simpa using hc,hm,λV bz=>?_,λdF gg=>⟨b,by cases gg;rfl,by simpa using hR G⟩,λ_=>⟨b,_,rfl,setRow_heap w b _ _ e _ G,?_,ht _ _ _,λm d N=>?_⟩⟩,λx F=>?_⟩
  ·rcases avT bz with bz|rfl
   ·exact X V bz
   exact hcs
  ·simp only[auH,atO,at4,auS,avy];omega
  ·rw[x9,p0 _ _ _ (by rw[du];show i*k+aA.length<=_;rw[hcs];exact Hq)]at N;rw[avz,p0 _ _ _ (by simpa using g5)];have pi:(D.agg aA).cells.length=k:=hcs;rw[pi]at N
   have gv:m<xs.length*k:=by
    by_cases h:i*k<=m/\m<i*k+k/\m<(b1 xs).length
    ·rw[<-du];exact h.2.2
    rw[atG h]at N;have:=e8 N;omega
   by_cases h:i*k<=m/\m<i*k+k
   ·rw[atH ⟨h.1,h.2,by rw[du];exact gv⟩]at N;have hr:aA[m-i*k]?=some d:=N;obtain⟨aj,ao⟩:=lW (l:=dh) (i:=m-i*k) atv;rw[atH ⟨h.1,by omega,by simp;omega⟩];exact⟨aj,ao,(h7.2 _ _ _ hr ao).ext aZ.ext,z aj (at2 ao)⟩
   rw[atG (λcy=>h ⟨cy.1,cy.2.1⟩)]at N;rw[atG (λcy=>h ⟨cy.1,by omega⟩)];obtain⟨aj,aa,aC,a_⟩:=ae m d N;exact⟨aj,by simpa using aa,aC.ext aZ.ext,a_⟩
  obtain⟨h5,h6,dM,_⟩:=F;simp only[Value.slice.injEq,aus,Addr.mk.injEq]at dM;obtain⟨⟨rfl,_⟩,_⟩:=dM;exact⟨M.heap.cJ s _ _ hs eK,.inl rfl⟩
theorem c8.sub{H:bF}{Q':D->bF->Prop}(h:c8 P B f ds H a6)(I:∀d aM,a6 d aM->∃vu,(∀j o,vu j=some o->aM j=some o)/\Q' d vu):c8 P B f ds H Q' :=
 ⟨h.1,λw C args Ft G qQ hH kZ=>(h.2 w C args Ft G qQ hH kZ).mono λck w' ⟨v,d,aO,aM,ak,f_,ae,aZ,BI⟩=>by
  obtain⟨vu,hs,adc⟩:=I d aM f_
  exact⟨v,d,aO,vu,ak,adc,ae,aZ,⟨λj o ag=>BI.b' j o (hs j o ag),λj eu o bI x aX h1 z=>BI.inj j eu o bI x aX (hs j o h1) (hs eu bI z),λj o x ag=>BI.cJ j o x (hs j o ag)⟩⟩⟩
theorem af.ade(hT:dg P ay){bH:Nat}(q:Nat){dn:Nat}(ax:dw ay t=some ca)(b5:ca.kind=.slice bH)(fu:dw ay bH=some aF)
  (F:A.a8 x=.an v) (hH:A.H q=some (.row v xs k e)) (hy:A.a8 y=.Q tg dn a') (h0:a'=[]) (hK:K (A.put dst (.an v))):af P B am A dst (.call ⟨.builtin .append,#[x,y],#[t,t]⟩) K :=
 .val λU w C a M type pos after=>by
  subst h0;obtain⟨c1,rfl⟩:=hT.get ax;obtain⟨fs,rfl⟩:=hT.get fu;have ao:=c1.ky b5;obtain⟨i,hi,hsz,o8,nw⟩:=fs.qF;have fj:=cr M.tmps x;rw[F]at fj
  have jV:=cr M.tmps y;rw[hy]at jV
  obtain⟨bv,cap,EM,hc,_⟩:=M.heap.b' q _ hH
  have hs:Src P i.size ca.t (a.eval y) 0 [] w:=by
   rcases jV.kz with⟨_,⟨a0,W⟩,_⟩|⟨b,o,h6,g,W,_⟩
   ·rw[W]
    cases a0 with
    |none=>exact Src.ofNil w ao _
    |some dF=>exact Src.ofSlice w ao dF 0 _ [] atx (λj aj h=>by simp at h) (λaj h=>by simp at h)
   rw[W];exact Src.ofSlice w ao _ 0 _ [] atx (λj aj h=>by simp at h) (λaj h=>by simp at h)
  have cU:=run_append_nothing (P:=P) w ca.t ca.t type aF.t i ao hi bv xs.length cap hc (a.eval y) hs;rw[<-EM,<-fj.fL]at cU;refine⟨a.eval x,w,C,A,_,?_,M,by rw[fj.fL];exact .an _,hK⟩;simp[execOp,resolve,invoke,builtin,cU]
variable{bP:Array (Nat×Operand)}
theorem af.ML(hT:dg P ay){bH n q:Nat}(ax:dw ay t=some ca)(b5:ca.kind=.slice bH)(fu:dw ay bH=some aF)(aa:Nat.ble (n*aF.aB) 16777216=true)(aC:Nat.blt 0 aF.aB=true)(a_:aF.zero.isSome=true)
  (I:zF true A bP.toList λds=>ds.length=n/\tI aF.aB 0 ds/\∀b,K ((A.b2 q (some (.row (.slice (some ⟨b,0,none⟩) n n) (ds.map (·.2)) aF.aB bH))).put (some s) (.an (.slice (some ⟨b,0,none⟩) n n)))):af P B am A (some s) (.buildSlice t n bP) K :=
 .val λU w C a M type pos after=>by
  obtain⟨c1,rfl⟩:=hT.get ax;obtain⟨fs,rfl⟩:=hT.get fu;obtain⟨ds,⟨sJ,dN,hK⟩,tN,pX⟩:=D0 I;have cC:=pX rfl w C a.eval (λx F=>cr M.tmps x.2)
  obtain⟨dh,cU,z_,X,ae⟩:=Sx (P:=P) c1 fs b5 a_ (auy (auw _) (auk aC)) (auk aa) sJ dN
   (w:=w) (C:=C) (vs:=(bP.map λ(i,x)=>(i,a.eval x)).toList) (by simp[tN]) (by simpa[awc]using cC)
  have al:(ds.map (·.2)).length=n:=by simpa using sJ
  have aZ:=c7.alloc (λ_=>False) w C (.cells dh.toArray aF.t) 0;refine⟨_,_,_,_,_,?_,M.newObj q (mA:=.row (.slice (some ⟨w.heap.size,0,none⟩) n n) (ds.map (·.2)) aF.aB aF.t) (o:=.cells dh.toArray aF.t) ?_ ?_,.an _,hK _⟩
  ·simp only[execOp];rw[Sem.run_bind,cU];rfl
  ·refine⟨_,n,by rw[al],by omega,?_,X,λdF gg=>⟨_,by cases gg;rfl,hR (kB w _)⟩,λ_=>⟨w.heap.size,_,rfl,kB w _,by simpa using z_,ht _ _ _,λj d N=>?_⟩⟩
   ·simp only[maxLen];have eV:=auk aa;have fZ:n<=n*aF.aB:=awS n (auy (auw _) (auk aC));omega
   obtain⟨aj,eV,fZ,hI⟩:=ae j d N;exact⟨aj,by simpa using eV,fZ.ext aZ.ext,hI⟩
  rintro b ⟨h5,cap,h,_⟩;exact pa h
end Go.bS

namespace Go.bS
open Go Go.RowKit
variable{P:Program}{B:World}{am:Nat}{U:b7 P B am}{K:cK->aw->Prop}{v:Value}{xs:List D}{k e:Nat}{hs:List (Nat×aI)}{c:Code}
theorem Y.vv(s j:Nat){r:List (Nat×D)}(pd:aK hs s=none)(h:Y U c (hq ((j,.Q .none k xs)::r) hs) K):Y U c (hq ((j,.an v)::r) ((s,.row v xs k e)::hs)) K:=by have n':Nat.beq s s=true:=au7 s;refine Y.commit s (v:=v) (xs:=xs) (k:=k) (e:=e) (by simp only[hq,aK,n',avo]) (hq ((j,.Q .none k xs)::r) hs) (λw C ae i aj hi=>?_) (λi o ag=>?_) h;simp only[hq,aK]at hi⊢;(cases G:Nat.beq i j with|true =>rw[G]at hi;simp only[avo,auI]at hi⊢;rw[hi.fL];exact ae.js|false=>rw[G]at hi;exact hi);refine .inr ⟨λe=>(by subst e;simp only[hq]at ag;rw[pd]at ag;cases ag),?_⟩;simp only[hq,aK]at ag⊢;cases G:Nat.beq i s with|true=>have:=aua G;subst this;rw[pd]at ag;cases ag|false=>simpa using ag
structure lq (a6:Prop):Prop where
 cm:a6
theorem sX{a b c:Prop}(h:a)(k:b):(a/\b)\/c:=.inl ⟨h,k⟩
variable{p:Prop}{A:aw}{dst:Option Tmp}{op:Op}
theorem Ag{K:aw->Prop}(h:p):p\/af P B am A dst op K:=.inl h
variable{args:Array Operand}{m8:Array TypeId}
theorem Ah{f:Operand}{K:aw->Prop}(h:p):p\/af P B am A dst (.call ⟨.value f,args,m8⟩) K:=.inl h
def S6:List Oper->Bool
 |[]=>true
 |o::r=>o.guard.isNone&&S6 r
def S7:List Oper->Bool
 |[]=>true
 |o::r=>(match o.op with
  |.call c=>match c.callee with
   |.builtin _=>true
   |_=>false
  |_=>true)&&S7 r
variable{ops:Array Oper}{id:Nat}
theorem Y.adf{ay:List bx}(hT:dg P ay)(hm:P.follows .mixedOrders=true)(gh:(Hv ops&&S7 ops.toList)=true)
  (I:jQ P B ay am ops ops.toList A (K .normal)):Y U (.region id ops true) A K:=.vf hT hm (by rw[atM]at gh;exact gh.1) I
theorem Y.S8{ay:List bx}(hT:dg P ay)(_:S6 ops.toList=true)(I:t' P B ay am ops ops.toList A (K .normal)):Y U (.region id ops false) A K :=
 .Af hT I
theorem S9{K:aw->Prop}(h:p):p\/af P B am A dst (.alloc 164) K:=.inl h
variable{x:Operand}
theorem S_{t:TypeId}{K:aw->Prop}(_:A.a8 x=.an v)(h:p):p\/af P B am A dst (.call ⟨.builtin .len,#[x],#[t]⟩) K:=.inl h
variable{α:Type}{i:Nat}
theorem Ai{l:List α}{e:α->D}{V:Int}(bz:V=(i:Nat))(h:i<l.length):(l.map e)[V.toNat]?=some (e l[i]):=by subst bz;simp[h]
inductive ua (A:aw):List Nat->List (Nat×D)->Prop
 |nil:ua A [] []
 |cons {j:Nat} {d:D} {r:List Nat} {L:List (Nat×D)} (h:A.t j=d) (ae:ua A r L):ua A (j::r) ((j,d)::L)
inductive yl (A:aw):List Nat->List (Nat×aI)->Prop
 |nil:yl A [] []
 |cons {j:Nat} {d:aI} {r:List Nat} {L:List (Nat×aI)} (h:A.H j=some d) (ae:yl A r L):yl A (j::r) ((j,d)::L)
theorem ua.sub{hv:List Nat}{L:List (Nat×D)}(h:ua A hv L):jP A L:=by induction h with|nil=>trivial|cons h ae aY=>exact⟨.of_eq h,aY⟩
variable{d d':D}
theorem adg(h:DS d λx=>x=d'):d=d':=(zB d (λx=>x=d')).1 h
variable{a':List D}
theorem sY(h:xs=a'):some (aI.row v xs k e)=some (aI.row v a' k e):=by rw[h]
variable{b:Nat}
theorem vw{xs a':List (D×D)}(h:xs=a'):some (aI.mp b xs)=some (aI.mp b a'):=by rw[h]
theorem adh(h:xs=a'):some (aI.box b xs)=some (aI.box b a'):=by rw[h]
end Go.bS
namespace Go.bS.cp
open Go Go.Proofs
variable{B:World}
theorem Cd{k:IntKind}{a b:Int}(h:a=b):aq (.int k a) (.int k b):=.of_eq (by rw[h])
theorem S'{a b:Bool}(h:a=b):aq (.bool a) (.bool b):=.of_eq (by rw[h])
variable{p:Prop}
theorem ub(h:p:=by first|exact .refl _|exact aq.box|exact aq.nil|exact .any _|exact .js _|exact .of_eq (by assumption)|exact Cd atv|exact Cd atw|exact S' (by assumption)):p:=h
theorem H7(h:p:=by first|exact rfl|exact sY (by assumption)|exact vw (by assumption)|exact adh (by assumption)):p:=h
variable{tg:iD}{k:Nat}{xs a':List D}
theorem adi(h:xs=a'):aq (.Q tg k xs) (.Q .none k a'):=by rw[h];exact .js _
theorem cH(h:p:=by
 repeat (first|exact trivial|(refine⟨ub,?_⟩)|(refine⟨rfl,H7,?_⟩)|(refine⟨?_,rfl,?_⟩))):p:=h
theorem jd(h:p:=by
 repeat (first|exact trivial|exact dL.refl _|(refine⟨ub,?_⟩))):p:=h
theorem ym(h:p:=by
 repeat (first|exact .nil|(refine' ua.cons (adg ?_) ?_;rotate_left 2;· (conv=>whnf))|(refine' ua.cons rfl ?_;rotate_left 1)|(refine' yl.cons _ _;rotate_left 2;exact rfl))):p:=h
theorem cT{a6:Prop}(q:a6)(f:lq a6->p:=by
 intro hw
 repeat (first
  |(refine And.intro (show(_:Nat)=_ from by first|(with_reducible rfl)|(simp;done)|(simp;omega)) ?_;conv=>whnf)
  |(refine And.intro rfl ?_;conv=>whnf)
  |(refine And.intro trivial ?_;conv=>whnf)
  |(refine sX (λh=>ax6) ?_;conv=>whnf)
  |(refine sX (ax6) ?_;conv=>whnf)
  |(refine And.intro (show _<=_ from by first|omega|(simp only[atL,atQ,auf,atO]at*;omega)) ?_;conv=>whnf)
  |(refine And.intro (show _≠none from λh=>by cases h) ?_;conv=>whnf)
  |(refine⟨_,λh=>Ai rfl atv,?_⟩;conv=>whnf)
  |(refine⟨_,λ_=>rfl,?_⟩;conv=>whnf)
  |(refine And.intro (λh=>h) ?_;conv=>whnf)
  |(refine And.intro (λh0 h=>ayh) ?_;conv=>whnf)
  |(refine And.intro (λh=>by first|omega|(simp at*;omega)) ?_;conv=>whnf)
  |((fail_if_success refine Ah ?_);(fail_if_success refine S_ rfl ?_);(fail_if_success refine S9 ?_);refine Ag ?_;(conv=>whnf);(fail_if_success show False))
 )
 exact hw.cm):p:=f ⟨q⟩
theorem go{a6:Prop}(q:a6)(f:lq a6->p:=by
 intro hw
 repeat (first
  |(refine Y.seq ?_)
  |(refine Y.block ?_)
  |(refine Y.scope ?_)
  |(refine Y.skip ?_;conv=>whnf)
  |(refine Y.exit ?_;conv=>whnf)
  |(refine Y.ret ?_;conv=>whnf)
  |(refine Y.S8 aL (by rfl) ?_;conv=>whnf)
  |(refine Y.region aL ?_;conv=>whnf)
  |(refine Y.adf aL mixed atz ?_;(conv=>whnf);refine cT ?_;(fail_if_success show False))
  |(refine Y.cond false rfl atC (λ_=>?_))
  |(refine Y.cond true rfl (λ_=>?_) atC)
  |(refine And.intro (show(_:Nat)=_ from by first|(with_reducible rfl)|(simp;done)|(simp;omega)) ?_;conv=>whnf)
  |(refine And.intro rfl ?_;conv=>whnf)
  |(refine And.intro trivial ?_;conv=>whnf)
  |(refine sX (λh=>ax6) ?_;conv=>whnf)
  |(refine sX (ax6) ?_;conv=>whnf)
  |(refine And.intro (show _<=_ from by first|omega|(simp only[atL,atQ,auf,atO]at*;omega)) ?_;conv=>whnf)
  |(refine And.intro (show _≠none from λh=>by cases h) ?_;conv=>whnf)
  |(refine⟨_,λh=>Ai rfl atv,?_⟩;conv=>whnf)
  |(refine⟨_,λ_=>rfl,?_⟩;conv=>whnf)
  |(refine And.intro (λh=>h) ?_;conv=>whnf)
  |(refine And.intro (λh0 h=>ayh) ?_;conv=>whnf)
  |(refine And.intro (λh=>by first|omega|(simp at*;omega)) ?_;conv=>whnf)
  |((fail_if_success refine Ah ?_);(fail_if_success refine S_ rfl ?_);(fail_if_success refine S9 ?_);refine Ag ?_;(conv=>whnf);(fail_if_success show False))
 )
 exact hw.cm):p:=f ⟨q⟩
theorem br{a6 C:Prop}(c:C)(q:a6)(f:C->lq a6->p:=by
 intro R1 hw
 first|(refine Ah ?_;conv=>whnf)|skip
 refine⟨_,_,λ_=>R1,jd,?_⟩
 (conv=>whnf)
 refine go ?_
 exact hw.cm):p:=f c ⟨q⟩
theorem fn{f:FuncId}{fn:Func}{body:Code}{am:Nat}{ds:List D}{d:D}(M:Tryz.prog.funcs[f]?=some fn)(p3:fn.ntmps=am)(h:∀U:b7 Tryz.prog B am,Y U body (entry ds bF.none) (LW ay fn.results.toList d))
  (G : fn.body = some body := by rfl) (av : (fn.name == "runtime.NumGoroutine") = false := by decide +kernel) (al : Nat.ble ds.length am = true := by rfl) : m0 Tryz.prog B f ds d := m0.intro aL M G av p3 al h
variable{f:FuncId}{body:Code}{am:Nat}{ds:List D}{a6:D->bF->Prop}
theorem yn{fn:Func}{H:bF}(M:Tryz.prog.funcs[f]?=some fn)(p3:fn.ntmps=am)(h:∀U:b7 Tryz.prog B am,Y U body (entry ds H) (Eh ay fn.results.toList a6))
  (G : fn.body = some body := by rfl) (av : (fn.name == "runtime.NumGoroutine") = false := by decide +kernel) (al : Nat.ble ds.length am = true := by rfl) : c8 Tryz.prog B f ds H a6 := c8.intro aL M G av p3 al h
def l_:List nH->Nat
 |[]=>0
 |s::r=>2+s.name.length+s.target.length+l_ r
mutual
def aB:ad->Nat
 |.mk _ _ c d _ _ _ _ _ _ ah cE=>2+c.length+d.length+l_ cE+eF ah
def eF:List ad->Nat
 |[]=>0
 |n::r=>2*n.name.length+2+aB n+eF r
end
theorem l'(n:ad):aB n=2+n.dB.length+n.target.length+l_ n.bK+eF n.J:=by cases n;simp only[aB]
theorem EN:∀{l:List ad} {i:Nat} (h:i<l.length),2*(l[i]).name.length+2+aB l[i]<=eF l
 |n::r,0,_=>by simp only[av5,eF];omega
 |n::r,i+1,h=>by have:=EN (l:=r) (i:=i) (by simpa using h);simp only[au6,eF];omega
theorem Aj:∀(l:List ad),2*l.length<=eF l
 |[]=>by simp[eF]
 |n::r=>by have:=Aj r;simp only[eF,atQ];omega
theorem H8:∀{l:List nH} {i:Nat} (h:i<l.length),2+(l[i]).name.length+(l[i]).target.length<=l_ l
 |n::r,0,_=>by simp only[av5,l_];omega
 |n::r,i+1,h=>by have:=H8 (l:=r) (i:=i) (by simpa using h);simp only[au6,l_];omega
theorem EO:∀(l:List nH),2*l.length<=l_ l
 |[]=>by simp[l_]
 |n::r=>by have:=EO r;simp only[l_,atQ];omega
variable{i:Nat}
theorem r1{n:ad}(h:i<n.J.length):2*(n.J[i]).name.length+2+aB n.J[i]+2+n.dB.length+n.target.length+l_ n.bK<=aB n:=by have:=EN h;have:=l' n;omega
theorem vx(n:ad):2*n.J.length+2<=aB n:=by have:=Aj n.J;have:=l' n;omega
theorem r2{n:ad}(h:i<n.J.length):(n.J.map enc)[i]?=some (aH n.J[i]):=by rw[BX _ h,rV]
theorem oe{l:List ad}(h:i<l.length):(l.map enc)[i]?=some (aH l[i]):=by rw[BX _ h,rV]
def below(p n:atE)(l:Int):atE:=if l<=2 then n else p++[47]++n
theorem Ta(p n:atE)(l:Int)(h:p.length+n.length<1000000000):aS B 192 [.O p,.O n,u l] (.O (below p n l)):=by refine bB Tryz.func192 Tryz.ntmps192 λU=>?_;refine go ?_;refine aJ _ rfl ?_ ?_<;>intro hc;refine go ?_;exact aq.of_eq (atI D.O (by rw[below,atH (by simpa using hc)]));apply cl;refine ch ?_;refine p6 ?_;refine nb ?_;exact aq.of_eq (atI D.O (by rw[below,atG (by simpa using hc)]))
theorem Tb(p n:atE)(l:Int)(h:p.length+n.length<1000000000)(h1:1<=l):aS B 150 [.O p,.O n,u l] (.O (below p n (l+1))):=by refine bB Tryz.func150 Tryz.ntmps150 λU=>?_;refine go ?_;refine aJ _ rfl ?_ ?_<;>intro hc;refine go ?_;exact aq.of_eq (atI D.O (by simp at hc;rw[below,atH atv]));apply cl;refine ch ?_;refine p6 ?_;refine nb ?_;exact aq.of_eq (atI D.O (by simp at hc;rw[below,atG atv]))
theorem Ce(p n:atE)(l:Int):(below p n l).length<=p.length+1+n.length:=by unfold below;split<;>simp<;>omega
structure EP (S:Type) where
 c9:S->aI
 da:S->aI
variable{S:Type}
def EP.H(bA:EP S)(s:S):bF:=aK [(2000,bA.c9 s),(2001,bA.da s)]
theorem adj{x:Bool×S}(h:(!x.1)=true):x=(false,x.2):=by obtain⟨a,b⟩:=x;cases a<;>simp_all
theorem adk{x:Bool×S}(h:(!x.1)=false):x=(true,x.2):=by obtain⟨a,b⟩:=x;cases a<;>simp_all
section fH
variable(f:ad->atE->Int->S->Bool×S)
mutual
def fH:ad->atE->Int->S->Bool×S
 |.mk a b c d e jc g h i j ah cE,p,l,s =>
  match f (.mk a b c d e jc g h i j ah cE) p l s with
  |(false,bp)=>(false,bp)
  |(true,bp)=>kI ah p l bp
def kI:List ad->atE->Int->S->Bool×S
 |[],_,_,s=>(true,s)
 |k::r,p,l,s =>
  match fH k (below p k.name (l+1)) (l+1) s with
  |(false,bp)=>(false,bp)
  |(true,bp)=>kI r p l bp
end
theorem H9(n:ad)(p:atE)(l:Int)(s:S):fH f n p l s=match f n p l s with
  |(false,bp)=>(false,bp)
  |(true,bp)=>kI f n.J p l bp:=by cases n;simp only[fH]
end fH
theorem Tc(bA:EP S)(f:ad->atE->Int->S->Bool×S)(b6:Nat)(cq:List D)(D4:∀n p l s,p.length+aB n+l.toNat+n.name.length<100000000->1<=l->cV B b6 ([aH n,.O p,u l]++cq) (bA.H s) λd aM=>d=.bool (f n p l s).1/\aM=bA.H (f n p l s).2):∀(bD:Nat) (n:ad) (p:atE) (l:Int) (s:S),aB n<bD->p.length+aB n+l.toNat+n.name.length<100000000->1<=l->cV B 125 [aH n,.O p,u l,.fn (.func b6) [] cq] (bA.H s) λd aM=>d=.bool (fH f n p l s).1/\aM=bA.H (fH f n p l s).2:=by refine λbD=>Nat.rec (λn p l s h=>absurd h (avf _)) (λbD aY n p l s hN G al=>?_) bD;refine jW Tryz.func125 Tryz.ntmps125 λU=>?_;refine ch ?_;intro b;apply m';refine Y.Sf aL ?_;refine go ?_;refine yc ?_;refine⟨_,[(2000,2000),(2001,2001)],_,D4 n p l s G al,rfl,⟨E,E,E,?_⟩,?_⟩;exact dL.refl _;rintro d aM ⟨rfl,rfl⟩;refine p7 ?_;refine aJ _ rfl ?_ ?_<;>intro hc;apply en;(have cG:fH f n p l s=(false,(f n p l s).2):=by rw[H9];cases M:f n p l s;rw[M]at hc;simp_all);refine nc ?_;refine Y.gU [(8,.bool false)] [(2000,bA.c9 (f n p l s).2),(2001,bA.da (f n p l s).2)] [(2000,2000),(2001,2001)] ⟨ar,rfl,ba⟩ ?_;refine go ?_;exact⟨_,E,by rw[cG];rfl,by rw[cG];rfl⟩;refine go ?_;(have cG:fH f n p l s=kI f n.J p l (f n p l s).2:=by rw[H9];cases M:f n p l s;rw[M]at hc;simp_all);refine go ?_;refine Y.ed (α:={x:Nat×S // x.1<=n.J.length/\fH f n p l s=kI f (n.J.drop x.1) p l x.2}) (λx=>[(1,.O p),(2,u l),(3,.fn (.func b6) [] cq),(18,.Q .none 12 (n.J.map enc)),(19,u (n.J.map enc).length),(20,u x.1.1)]) (λx=>[(2000,bA.c9 x.1.2),(2001,bA.da x.1.2)]) (λx=>n.J.length-x.1.1) ⟨(0,(f n p l s).2),by omega,cG⟩ [(2000,2000),(2001,2001)] ⟨ar,rfl,ba⟩ ?_;generalize dj:s=gN at*;rintro⟨⟨i,s⟩,hi,EQ⟩;dsimp only at hi EQ⊢;refine go ?_;refine aJ _ rfl ?_ ?_<;>intro hc;refine fk ?_;(have og:i<n.J.length:=by simpa using hc);have b5:=r1 og;have eJ:=Ce p n.J[i].name (l+1);have eQ:=vx n;have lr:=auN og;refine vm ?_;refine⟨aH n.J[i],λ_=>r2 og,?_⟩;refine go ?_;intro b;(conv=>whnf);refine cT ?_;apply en;refine Y.Sg aL 10 mixed atA ?_;refine go ?_;refine br (Ta p n.J[i].name (l+1) atv) ?_;refine yc ?_;refine⟨_,[(2000,2000),(2001,2001)],_,aY n.J[i] (below p n.J[i].name (l+1)) (l+1) s atv atv atv,rfl,ar,?_⟩;rintro d aM ⟨rfl,rfl⟩;refine p7 ?_;refine aJ _ rfl ?_ ?_<;>intro hc;apply en;have Cf:fH f n.J[i] (below p n.J[i].name (l+1)) (l+1) s=(false,(fH f n.J[i] (below p n.J[i].name (l+1)) (l+1) s).2):=adj hc;(have Ak:fH f n p l gN=(false,(fH f n.J[i] (below p n.J[i].name (l+1)) (l+1) s).2):=by rw[EQ,lr,kI,Cf]);refine nc ?_;refine Y.gU [(8,.bool false)] [(2000,bA.c9 (fH f n.J[i] (below p n.J[i].name (l+1)) (l+1) s).2),(2001,bA.da (fH f n.J[i] (below p n.J[i].name (l+1)) (l+1) s).2)] [(2000,2000),(2001,2001)] ⟨ar,rfl,ba⟩ ?_;refine go ?_;exact⟨_,E,by rw[Ak];rfl,by rw[Ak];rfl⟩;refine go ?_;(have Ak:fH f n p l gN=kI f (n.J.drop (i+1)) p l (fH f n.J[i] (below p n.J[i].name (l+1)) (l+1) s).2:=by rw[EQ,lr,kI,adk hc]);refine go ?_;exact⟨⟨(i+1,(fH f n.J[i] (below p n.J[i].name (l+1)) (l+1) s).2),by omega,Ak⟩,[(2000,2000),(2001,2001)],ayi,ar,rfl,ba⟩;refine Y.exit ?_;(have Ak:fH f n p l gN=(true,s):=by rw[EQ,av6 (by simp at hc;omega),kI]);refine ch ?_;refine Y.gU [(8,.bool true)] [(2000,bA.c9 s),(2001,bA.da s)] [(2000,2000),(2001,2001)] ⟨ar,rfl,ba⟩ ?_;refine go ?_;exact⟨_,E,by rw[Ak];rfl,by rw[Ak];rfl⟩
def wr(n:Int):Int:=IntKind.i64.wrap n
theorem adl{n:Int}(h:-9223372036854775808<=n/\n<=9223372036854775807):wr n=n:=by unfold wr;rw[IntKind.wrap_i64];omega
theorem adm(n m:Int):wr (wr n+m)=wr (n+m):=by unfold wr;simp only[IntKind.wrap_i64];omega
mutual
def fI:ad->Nat
 |.mk _ _ _ _ _ _ _ _ _ _ ah _=>1+eW ah
def eW:List ad->Nat
 |[]=>0
 |n::r=>fI n+eW r
end
theorem ER(n:ad):fI n=1+eW n.J:=by cases n;simp only[fI]
mutual
theorem Cg:∀n:ad,fI n<=aB n
 |.mk a b c d e f g h i j ah cE=>by have:=ES ah;simp only[fI,aB];omega
theorem ES:∀l:List ad,eW l<=eF l
 |[]=>by simp[eW,eF]
 |n::r=>by have:=Cg n;have:=ES r;simp only[eW,eF];omega
end
def Ch(_:ad)(_:atE)(_:Int)(s:Int):Bool×Int:=(true,wr (s+1))
mutual
theorem Td:∀(n:ad) (p:atE) (l:Int) (s:Int),fH Ch n p l s=(true,wr (s+fI n))
 |.mk a b c d e f g h i j ah cE,p,l,s=>by
  simp only[fH,Ch,fI];rw[Te ah p l (s+1)];congr 2
  omega
theorem Te:∀(l:List ad) (p:atE) (v:Int) (s:Int),kI Ch l p v (wr s)=(true,wr (s+eW l))
 |[],p,v,s=>by simp only[kI,eW];congr 2;omega
 |n::r,p,v,s=>by
  simp only[kI,eW];rw[Td n _ _ (wr s),adm];simp only;rw[Te r];congr 2
  omega
end
def MM(b:Nat):EP Int:=⟨λs=>.box b [u s],λ_=>BS⟩
theorem adn(dY:Nat)(n:ad)(p:atE)(l:Int)(s:Int):cV B 191 ([aH n,.O p,u l]++[.box 2000 dY 0]) ((MM dY).H s) λd aM=>d=.bool (Ch n p l s).1/\aM=(MM dY).H (Ch n p l s).2:=by refine jW Tryz.func191 Tryz.ntmps191 λU=>?_;refine ch ?_;intro b;refine lm ?_;refine .inr ?_;apply cD;refine ch ?_;refine Y.gU [(7,.bool true)] [(2000,.box dY [u (wr (s+1))]),(2001,BS)] [(2000,2000),(2001,2001)] ⟨ar,rfl,ba⟩ ?_;exact ayC
theorem ado(n:ad)(h:aB n+n.name.length<10000000):aS B 124 [aH n] (u (fI n)):=by refine bB Tryz.func124 Tryz.ntmps124 λU=>?_;refine ch ?_;intro b;refine ch ?_;intro H_;refine ez ?_;refine Y.BS 2001 ?_;refine vk ?_;apply mB;refine ez ?_;refine .inr (af.call rfl [aH n,.O [],u 1,.fn (.func 191) [] [.box 2000 H_ 0]] [(2000,3),(2001,2001)] (Tc (MM H_) Ch 191 [.box 2000 H_ 0] (λn p l s _ _=>adn H_ n p l s) _ n [] 1 0 (auw _) atw atv) rfl ⟨E,E,E,aq.fn trivial ⟨aq.box,ai⟩,ai⟩ ?_);rintro d aM ⟨rfl,rfl⟩;refine⟨_,E,?_⟩;refine jb ?_;refine iJ ?_;refine dp ?_;rw[Td];have:=Cg n;exact(adl atv).trans atv
end Go.bS.cp


namespace Go.bS
open Go Go.RowKit
variable{P:Program}{B:World}{am:Nat}{A:aw}{dst:Option Tmp}{K:aw->Prop}{ay:List bx}{U:b7 P B am}{c:Code}{v:Value}{xs:List D}{k e:Nat}
theorem Y.Ci{K:cK->aw->Prop}(s:Nat)(hs:A.H s=some (.row v xs k e))
  (h:∀a cap,v=.slice a xs.length cap->xs.length<=cap->cap<=maxLen->Y U c A K):Y U c A K :=
 ⟨λa w C M=>by
  obtain⟨bv,cap,W,hc,hm,_⟩:=M.heap.b' s _ hs
  exact(h bv cap W hc hm).run a w C M⟩
theorem aq.u7{d:D}:aq .undef (.mn false d):=⟨λ_ _ _ h=>by rw[h.abq];exact .u7 _⟩
variable{α:Type}
def H'(et:α->Prop)(l:α->List (Nat×D))(hs:α->List (Nat×aI))(fz:α->Nat)(x:α)(K:cK->aw->Prop):cK->aw->Prop
 |.normal,A=>∃bU m,et bU/\fz bU<fz x/\n_ A (l bU) (hs bU) m
 |.exit id,A=>K (.exit id) A
 |.ret,A=>K .ret A
theorem Y.H'{U:b7 P B am}{A:aw}{K:cK->aw->Prop}{c:Code}{α:Type}{et:α->Prop}(l:α->List (Nat×D))(hs:α->List (Nat×aI))(fz:α->Nat)(ey:α)(i0:et ey)(m:List (Nat×Nat))(h1:n_ A (l ey) (hs ey) m)
  (round:∀x,et x->Y U c (hq (l x) (hs x)) (Go.bS.H' et l hs fz x K)):Y U (.loop c) A K :=
 Y.ed (α:={x // et x}) (λx=>l x.1) (λx=>hs x.1) (λx=>fz x.1) ⟨ey,i0⟩ m h1 λx=>(round x.1 x.2).mono λe az h=>by
  cases e with
  |normal=>obtain⟨bU,wN,h1,z,aa⟩:=h;exact⟨⟨bU,h1⟩,wN,z,aa⟩
  |exit id=>exact h
  |ret=>exact h
end Go.bS
namespace Go.bS.cp
open Go Go.Proofs
variable{B:World}{am id:Nat}{ops:Array Oper}{A:aw}{K:cK->aw->Prop}{α:Type}
theorem eR{U:b7 Tryz.prog B am}(dj:List (Nat×aI))(ey:α)
  (R:α->List D) (dW:α->List (Nat×Nat×Option aI)) (ap:List Nat) (S:List (Nat×Nat)) (step:EF ap S A.t dj R dW Tryz.prog B am ay ops ops.toList 0) (pg:∀x,K .normal (B7 A.t dj R dW ops x))
  (gh:(wW am ops.toList 0&&(B6 ops.toList&&(B5 ap ops.toList 0&&yg ap ops.size S)))=true:=by decide +kernel)
  (gc:∀x,mF (dW x)=S:=by exact λ_=>rfl) (h0:m2 A dj:=by repeat (first|exact trivial|refine⟨rfl,?_⟩)):Y U (.region id ops true) A K:=Y.acW aL mixed dj ey R dW ap S gh gc h0 step pg
variable{p:Prop}
theorem dC{a6:Prop}(q:a6)(f:lq a6->p:=by
 intro hw
 (try conv=>whnf)
 repeat (first
  |(refine⟨λy => .inl ?_,?_⟩
    ·(conv=>whnf)
     repeat (first
      |exact .refl _
      |(refine And.intro rfl ?_;conv=>whnf)
      |(refine And.intro trivial ?_;conv=>whnf)
      |(refine sX (λh=>ax6) ?_;conv=>whnf)
      |(refine sX (ax6) ?_;conv=>whnf)
      |(refine⟨_,λh=>Ai rfl atv,?_⟩;conv=>whnf)
      |(refine⟨_,λ_=>rfl,?_⟩;conv=>whnf)
      |(refine And.intro (λh=>h) ?_;conv=>whnf)
      |(refine And.intro (λh=>by first|omega|(simp at*;omega)) ?_;conv=>whnf)
      |(refine⟨_,_,λ_=>by assumption,jd,?_⟩;conv=>whnf))
    (try conv=>whnf))
  |(refine⟨λy => ⟨_,_,rfl,rfl,.inl ⟨by assumption,.inl ?_⟩⟩,?_⟩
    ·(conv=>whnf)
     repeat (first
      |exact .refl _
      |(refine And.intro rfl ?_;conv=>whnf)
      |(refine And.intro trivial ?_;conv=>whnf)
      |(refine sX (λh=>ax6) ?_;conv=>whnf)
      |(refine sX (ax6) ?_;conv=>whnf)
      |(refine⟨_,λh=>Ai rfl atv,?_⟩;conv=>whnf)
      |(refine⟨_,λ_=>rfl,?_⟩;conv=>whnf)
      |(refine And.intro (λh=>h) ?_;conv=>whnf)
      |(refine And.intro (λh=>by first|omega|(simp at*;omega)) ?_;conv=>whnf)
      |(refine⟨_,_,λ_=>by assumption,jd,?_⟩;conv=>whnf))
    (try conv=>whnf))
  |(refine⟨λy => ⟨_,_,rfl,rfl,.inr (.inl ⟨by first|assumption|(show _ = false;assumption)|(show _ = true;assumption),rfl,?_⟩)⟩,?_⟩
    ·exact .refl _
    (try conv=>whnf))
  |(refine⟨λy => ⟨_,_,rfl,rfl,.inr (.inr ?_)⟩,?_⟩
    ·(conv=>whnf)
     repeat (first
      |exact .refl _
      |(refine And.intro rfl ?_;conv=>whnf)
      |(refine And.intro trivial ?_;conv=>whnf)
      |(refine sX (λh=>ax6) ?_;conv=>whnf)
      |(refine sX (ax6) ?_;conv=>whnf)
      |(refine⟨_,λh=>Ai rfl atv,?_⟩;conv=>whnf)
      |(refine⟨_,λ_=>rfl,?_⟩;conv=>whnf)
      |(refine And.intro (λh=>h) ?_;conv=>whnf)
      |(refine And.intro (λh=>by first|omega|(simp at*;omega)) ?_;conv=>whnf)
      |(refine⟨_,_,λ_=>by assumption,jd,?_⟩;conv=>whnf))
    (try conv=>whnf)))
 exact hw.cm):p:=f ⟨q⟩
variable{R:α->List D}{i:Nat}{dst:Option Tmp}{az:aw}
theorem d0{ap:List Nat}{S:List (Nat×Nat)}{dj:List (Nat×aI)}{dW:α->List (Nat×Nat×Option aI)}{x:α}(bU:α)
  (h1:sV ap i 0 (R bU)=sV ap i 0 (R x):=by exact rfl) (z:vr ap i (dW bU)=vr ap i (dW x):=by exact rfl) (aa:HU dst az ((R bU).getD i .any):=by first|exact .refl _|exact trivial|exact ub) (aC:wX i az (dW bU):=by
   (conv=>whnf);repeat (first|exact trivial|(refine⟨H7,?_⟩;conv=>whnf))) (a_:yh S i az (gL (aK dj) ap S (dW x) i) (dj.map (·.1)++S.map (·.2)):=by
   (conv=>whnf);repeat (first|exact trivial|(refine And.intro rfl ?_;conv=>whnf))):jY ap S dj R dW x i dst az:=⟨bU,h1,z,aa,aC,a_⟩
theorem cz{ap:List Nat}{S:List (Nat × Nat)}{dj:List (Nat × aI)}{dW:α->List (Nat × Nat × Option aI)}(x : α)(aa : HU dst az ((R x).getD i .any) := by first|exact .refl _|exact trivial|exact ub)(aC : wX i az (dW x) := by
      (conv=>whnf);repeat (first|exact trivial|(refine⟨H7,?_⟩;conv=>whnf))) (a_:yh S i az (gL (aK dj) ap S (dW x) i) (dj.map (·.1)++S.map (·.2)):=by
      (conv=>whnf);repeat (first|exact trivial|(refine And.intro rfl ?_;conv=>whnf))):jY ap S dj R dW x i dst az:=⟨x,rfl,rfl,aa,aC,a_⟩
variable{ff:Prop}
theorem bR{a b c:α->Prop}{a6:Prop}(h:∀y,c y)(q:a6)(f:lq a6->ff:=by intro hw;refine dC ?_;exact hw.cm):(∀y,a y\/(b y\/c y))/\ff:=⟨λy=>.inr (.inr (h y)),f ⟨q⟩⟩
theorem Cj{a b c:α->Prop}{a6:Prop}(h:∀y,b y)(q:a6)(f:lq a6->ff:=by intro hw;refine dC ?_;exact hw.cm):(∀y,a y\/(b y\/c y))/\ff:=⟨λy=>.inr (.inl (h y)),f ⟨q⟩⟩
theorem HG{a6:Prop}(q:a6)(f:lq a6->p:=by
 intro hw;refine⟨λy=>.inr (.inl ?_),?_⟩
 ·(conv=>whnf)
  intro k4;exact d0 k4
 refine dC ?_
 exact hw.cm):p:=f ⟨q⟩
theorem vs{a6:Prop}(q:a6)(f:lq a6->p:=by
 intro hw;refine⟨λy=>.inr (.inl ?_),?_⟩
 ·(conv=>whnf)
  apply cD;exact cz y
 refine dC ?_
 exact hw.cm):p:=f ⟨q⟩
theorem dD{v Ia a6:Prop}(c:Ia->ff)(q:a6)(f:lq a6->Ia:=by exact aya):v\/ff:=.inr (c (f ⟨q⟩))
variable{v:Value}{j k:Nat}
theorem Ck(h:i=j):aq (.an (h_ v (i*k))) (.an (h_ v (j*k))):=.of_eq (by rw[h])
theorem bH{bA a6:Prop}{a b:α->Prop}(y:α)(h:a y)(q:a6)(f:lq a6->b y:=by exact aya):∃y,(bA->a y)/\b y:=⟨y,λ_=>h,f ⟨q⟩⟩
theorem MN{bA bX C:Prop}{K a6:Value->Prop}(h1:bA)(z:bX)(q:∀v,a6 v)(aa:C:=by exact λh=>by cases h)(f:∀v,lq (a6 v)->K v:=by intro v hw;(conv=>whnf);refine go ?_;exact hw.cm):bA/\bX/\C/\∀v,K v:=⟨h1,z,aa,λv=>f v ⟨q v⟩⟩
theorem yo{U:b7 Tryz.prog B am}{a6:Prop}(q:a6)(gh:Hv ops=true:=by decide +kernel)(f:lq a6->jQ Tryz.prog B ay am ops ops.toList A (K .normal):=by exact aya):Y U (.region id ops true) A K:=Y.vf aL mixed gh (f ⟨q⟩)
variable{c:Code}{dH:List (Nat×aI)}
theorem gn{U:b7 Tryz.prog B am}(et:α->Prop)(hv wG:List Nat)(l:α->List (Nat×D))(hs:α->List (Nat×aI))(fz:α->Nat)(ey:α)(i0:et ey)(m:List (Nat×Nat)){L:List (Nat×D)}
  (round:∀x,et x->Y U c (hq (L++l x) (dH++hs x)) (H' et (λx=>L++l x) (λx=>dH++hs x) fz x K)) (aV:ua A hv L:=by exact ym) (hO:yl A wG dH:=by exact ym)
  (h1:n_ A (L++l ey) (dH++hs ey) m:=by exact⟨cH,rfl,cH⟩):Y U (.loop c) A K:=Y.H' (λx=>L++l x) (λx=>dH++hs x) (λx=>fz x) ey i0 m h1 round
variable{et:α->Prop}{fz:α->Nat}
theorem eX{l:α->List (Nat×D)}{hs:α->List (Nat×aI)}{x:α}(bU:α)(m:List (Nat×Nat))(hu:et bU)(h1:fz bU<fz x:=by(try dsimp only);omega)(z:n_ A (l bU) (hs bU) m:=by exact⟨cH,rfl,cH⟩):
  ∃bU m,et bU/\fz bU<fz x/\n_ A (l bU) (hs bU) m:=⟨bU,m,hu,h1,z⟩
def adp(et:α->Prop)(l:α->List (Nat×D))(hs:α->List (Nat×aI))(K:cK->aw->Prop):cK->aw->Prop
 |.normal,A=>∃x m,et x/\n_ A (l x) (hs x) m
 |.exit id,A=>K (.exit id) A
 |.ret,A=>K .ret A
theorem nf{U:b7 Tryz.prog B am}{a b:Code}(et:α->Prop)(hv wG:List Nat)(l:α->List (Nat×D))(hs:α->List (Nat×aI)){L:List (Nat×D)}
  (h:Y U a A (adp et (λx=>L++l x) (λx=>dH++hs x) K)) (bq:∀x,et x->Y U b (hq (L++l x) (dH++hs x)) K) (aV:ua A hv L:=by exact ym) (hO:yl A wG dH:=by exact ym):Y U a A (zz U b K) :=
 h.mono λe az X=>by
  cases e with
  |normal=>obtain⟨x,m,F,h1⟩:=X;exact(bq x F).fd _ _ m h1
  |exit id=>exact X
  |ret=>exact X
theorem gp{l:α->List (Nat×D)}{hs:α->List (Nat×aI)}(bU:α)(m:List (Nat×Nat))(hu:et bU)(z:n_ A (l bU) (hs bU) m:=by exact⟨cH,rfl,cH⟩):∃bU m,et bU/\n_ A (l bU) (hs bU) m:=⟨bU,m,hu,z⟩
theorem hb{U:b7 Tryz.prog B am}{c:Operand}{x y:Code}{t:Bool}{bA bX:Prop}(h1:t=true->bA)(z:t=false->bX)(hc:A.a8 c=.bool t:=by exact rfl)(jc:lq bA->Y U x A K:=by exact ayz)
  (lo:lq bX->Y U y A K:=by exact ayz):Y U (.cond c x y) A K:=Y.cond t hc (λh=>jc ⟨h1 h⟩) λh=>lo ⟨z h⟩
theorem cb{U:b7 Tryz.prog B am}{c:Operand}{x y:Code}{t:Bool}(h1:t=true->Y U x A K)(z:t=false->Y U y A K)(hc:A.a8 c=.bool t:=by exact rfl):Y U (.cond c x y) A K:=Y.cond t hc h1 z
theorem w1{U:b7 Tryz.prog B am}{c:Operand}{x y:Code}{t:Bool}{bA:Prop}(h:t=true)(q:bA)(hc:A.a8 c=.bool t:=by exact rfl)(jc:lq bA->Y U x A K:=by exact ayz):Y U (.cond c x y) A K:=Y.cond t hc (λ_=>jc ⟨q⟩) λbq=>by rw[h]at bq;cases bq
theorem yp{U:b7 Tryz.prog B am}{c:Operand}{x y:Code}{t:Bool}{bA:Prop}(h:t=false)(q:bA)(hc:A.a8 c=.bool t:=by exact rfl)(jc:lq bA->Y U y A K:=by exact ayz):Y U (.cond c x y) A K:=Y.cond t hc (λbq=>by rw[h]at bq;cases bq) λ_=>jc ⟨q⟩
variable{d:D}
theorem pj{l:List α}{e:α->D}{V:Nat}(h:i<l.length)(N:e l[i]=d)(bz:V=i:=by first|rfl|omega):(l.map e)[V]?=some d:=by subst bz;simp[h,N]
end Go.bS.cp
namespace Go.bS
open Go Go.RowKit
variable{P:Program}{B:World}{am:Nat}{A:aw}{dst:Option Tmp}{op:Op}{sE:aw->Prop}
theorem af.adq{K:aw->Prop}(h:af P B am A dst op sE)(X:∀(U:b7 P B am) (w:World) (C:Nat->Nat) (a:Act) (az:aw),bG U w C az a->sE az->K az):af P B am A dst op K :=
 ⟨λU w C a M N type pos after a6=>Oper.wp_mono (λbv w' ⟨az,aO,h1,z⟩=>⟨az,aO,X U w' aO bv az z h1,z⟩) (h.run U w C a M N type pos after a6)⟩
variable{t gM s:Nat}{x y:Operand}{v:Value}{xs:List D}{aP:atE}{ca aF:bx}
theorem af.adr{ay:List bx}(hT:dg P ay){bH:Nat}(q:Nat){K:aw->Prop}(ax:dw ay t=some ca)(b5:ca.kind=.slice bH)(fu:dw ay bH=some aF)(bz:aF.zero≠none)(h1:aF.aB=1)
  (qY:P.underlying gM=some .string) (F:A.a8 x=.an v) (hH:A.H q=some (.row v xs 1 bH)) (hy:A.a8 y=.O aP) (mx:(xs.length+aP.length)*aF.bytes<=140737488355328) (oK:xs.length+aP.length<=9223372036854775807)
  (hK:∀a n cap,K (((A.b2 q none).b2 s (some (.row (.slice a n cap) (xs++aP.map λc=>D.int .u8 c.toNat) 1 bH))).put (some s) (.an (.slice a n cap)))):af P B am A (some s) (.call ⟨.builtin .append,#[x,y],#[t,gM]⟩) K :=
 af.adq (sE:=λaz=>∃c',az=((A.b2 q none).b2 s (some (.row c' (xs++aP.map λc=>D.int .u8 c.toNat) 1 bH))).put (some s) (.an c')) (.ac4 hT q ax b5 fu bz h1 qY F hH hy mx oK λc'=>⟨c',rfl⟩) λU w C a az M ⟨c',ak⟩=>by
  subst ak;have:=M.heap.b' s (.row c' (xs++aP.map λc=>D.int .u8 c.toNat) 1 bH) (by rw[D7];exact qK ..);obtain⟨dF,cap,rfl,_⟩:=this;exact hK _ _ _
theorem Y.Ca{U:b7 P B am}{A:aw}{K:cK->aw->Prop}{c:Code}(s q:Nat){o:aI}(hs:A.H s=some o)(h:Y U c ((A.b2 s none).b2 q (some o)) K):Y U c A K:=⟨λa w C M=>h.run a w C (M.Ca hs)⟩
variable{args:Array Operand}{m8:Array TypeId}{b6:FuncId}{cq:List D}{hs:List (Nat×aI)}
theorem af.ET{K:aw->Prop}{f:Operand}{first:List D}(M:A.a8 f=.fn (.func b6) first cq)
  (g2:List D) (m:List (Nat×Nat)) {c4:List (Nat×aI)} {g':D} (h:yi A.H m hs) (hc:c8 P B b6 g2 (aK hs) λd aM=>d=g'/\aM=aK c4) (hm:ka m=true) (dV:dL (first++args.toList.map A.a8++cq) g2)
  (hK:K (({t:=A.t,H:=qO A.H (aK c4) m}:aw).put dst g')):af P B am A dst (.call ⟨.value f,args,m8⟩) K :=
 af.call M g2 m (c8.wY h hc) hm dV λd aM I=>by
  obtain⟨rfl,rfl⟩:=I;exact⟨_,.refl _,hK⟩
variable{α:Type}{et:α->Prop}{c4:α->List (Nat×aI)}{g':α->D}
theorem af.yq{K:aw->Prop}{f:Operand}{first:List D}(M:A.a8 f=.fn (.func b6) first cq)
  (g2:List D) (m:List (Nat×Nat))      (h:yi A.H m hs) (hc:c8 P B b6 g2 (aK hs) λd aM=>∃x,et x/\d=g' x/\aM=aK (c4 x)) (hm:ka m=true) (dV:dL (first++args.toList.map A.a8++cq) g2)
  (hK:∀x,et x->K (({t:=A.t,H:=qO A.H (aK (c4 x)) m}:aw).put dst (g' x))):af P B am A dst (.call ⟨.value f,args,m8⟩) K :=
 af.call M g2 m (c8.wY h hc) hm dV λd aM I=>by
  obtain⟨x,F,rfl,rfl⟩:=I;exact⟨_,.refl _,hK x F⟩
variable{fV:Operand}{aA:List D}{El:IntKind}{qG:TypeInfo}{d:D}
theorem af.ads{K:aw->Prop}{bH n:Nat}{i:Int}(ao:P.underlying t=some (.array n bH))(hi:P.info? bH=some qG)(hsz:qG.size=1)(kW:wD P bH=some false)
  (F:A.a8 x=.agg aA) (rZ:A.a8 fV=.int El i) (h0:0<=i) (h1:i<n) (N:aA[i.toNat]?=some d) (hK:K (A.put dst d)):af P B am A dst (.index t x fV) K :=
 .val λU w C a M type pos after=>by
  have bR:=cr M.tmps x;rw[F]at bR
  obtain⟨vs,fj,ae⟩:=bR.sD;have vb:=cr M.tmps fV;rw[rZ]at vb
  have bi:i.toNat<vs.length:=by rw[<-ae.1];exact e8 N
  refine⟨vs[i.toNat],w,C,A,d,?_,M,ae.2 _ _ _ N (atJ bi),hK⟩;simp[execOp,Instr.index,asIntOf,fj,vb.fr,run_underlying ao,h0,h1,zH hi,hsz,part,Hk kW,bi,Result.andThen]
end Go.bS
namespace Go.bS.cp
open Go Go.Proofs
variable{B:World}{p:Prop}
theorem r3(h:p:=by repeat (first|exact trivial|(refine⟨rfl,H7,?_⟩))):p:=h
variable{am:Nat}{A:aw}{dst:Option Tmp}{args:Array Operand}{m8:Array TypeId}{b6:FuncId}{cq g2:List D}{hs:List (Nat×aI)}{α:Type}{et:α->Prop}{c4:α->List (Nat×aI)}{g':α->D}
theorem uc{v:Prop}{K:aw->Prop}{f:Operand}{first:List D}(m:List (Nat×Nat))
  (hc:c8 Tryz.prog B b6 g2 (aK hs) λd aM=>∃x,et x/\d=g' x/\aM=aK (c4 x)) {a6:α->Prop} (q:∀x,et x->a6 x) (M:A.a8 f=.fn (.func b6) first cq:=by exact rfl) (h:yi A.H m hs:=by exact r3) (hm:ka m=true:=by exact rfl) (dV:dL (first++args.toList.map A.a8++cq) g2:=by exact jd)
  (g:∀x,lq (a6 x)->K (({t:=A.t,H:=qO A.H (aK (c4 x)) m}:aw).put dst (g' x)):=by intro x hw;(conv=>whnf);refine go ?_;exact hw.cm):v\/af Tryz.prog B am A dst (.call ⟨.value f,args,m8⟩) K:=.inr (af.yq M g2 m h hc hm dV λx F=>g x ⟨q x F⟩)
theorem ke{v a6:Prop}{K:aw->Prop}{f:Operand}{first:List D}(m:List (Nat×Nat)){c4:List (Nat×aI)}{g':D}
  (hc:c8 Tryz.prog B b6 g2 (aK hs) λd aM=>d=g'/\aM=aK c4) (q:a6) (M:A.a8 f=.fn (.func b6) first cq:=by exact rfl) (h:yi A.H m hs:=by exact r3) (hm:ka m=true:=by exact rfl) (dV:dL (first++args.toList.map A.a8++cq) g2:=by exact jd)
  (g:lq a6->K (({t:=A.t,H:=qO A.H (aK c4) m}:aw).put dst g'):=by exact aya):v\/af Tryz.prog B am A dst (.call ⟨.value f,args,m8⟩) K:=.inr (af.ET M g2 m h hc hm dV (g ⟨q⟩))
def yr(H:bF):List (Nat×aI)->Prop
 |[]=>True
 |(k,o)::r=>H k=some o/\yr H r
theorem yr.get{H:bF}:∀{l:List (Nat×aI)},yr H l->∀j o,aK l j=some o->H j=some o
 |[],_,_,_,h=>by cases h
 |(k,x)::r,h,j,o,Z=>by simp only[aK]at Z;cases G:Nat.beq j k with|true=>rw[G]at Z;have:=aua G;subst this;simp at Z;subst Z;exact h.1|false=>rw[G]at Z;exact yr.get h.2 j o Z
variable{f:FuncId}{body:Code}{ds:List D}
theorem j_{fn:Func}{H:bF}{g':D}{c4:List (Nat×aI)}(M:Tryz.prog.funcs[f]?=some fn)(p3:fn.ntmps=am)(h:∀U:b7 Tryz.prog B am,Y U body (entry ds H) (Eh ay fn.results.toList λd aM=>d=g'/\yr aM c4))
  (G : fn.body = some body := by exact rfl) (av : (fn.name == "runtime.NumGoroutine") = false := by decide +kernel) (al : Nat.ble ds.length am = true := by exact rfl) : c8 Tryz.prog B f ds H λd aM => d = g'/\aM = aK c4 :=
 c8.sub (yn M p3 h G av al) λd aM ⟨h1,z⟩=>⟨aK c4,λj o Z=>z.get j o Z,h1,rfl⟩
theorem oP{fn:Func}{H:bF}(M:Tryz.prog.funcs[f]?=some fn)(p3:fn.ntmps=am)(h:∀U:b7 Tryz.prog B am,Y U body (entry ds H) (Eh ay fn.results.toList λd aM=>∃x,et x/\d=g' x/\yr aM (c4 x)))
  (G : fn.body = some body := by exact rfl) (av : (fn.name == "runtime.NumGoroutine") = false := by decide +kernel) (al : Nat.ble ds.length am = true := by exact rfl) : c8 Tryz.prog B f ds H λd aM => ∃x,et x/\d = g' x/\aM = aK (c4 x) :=
 c8.sub (yn M p3 h G av al) λd aM ⟨x,h0,h1,z⟩=>⟨aK (c4 x),λj o Z=>z.get j o Z,x,h0,h1,rfl⟩
theorem Tf{p:List (Nat×D)->List (Nat×aI)->Prop}(l:List (Nat×D))(hs:List (Nat×aI))(m:List (Nat×Nat))(q:p l hs)(h:n_ A l hs m:=by exact⟨cH,rfl,cH⟩):∃l hs m,n_ A l hs m/\p l hs:=⟨l,hs,m,h,q⟩
end Go.bS.cp
namespace Go.bS
open Go Go.RowKit
variable{P:Program}{B:World}{am:Nat}
def ls(jZ H:bF):bF:=λk=>match jZ k with|some o=>some o|none=>H k
variable{U:b7 P B am}{c:Code}{A:aw}{K:cK->aw->Prop}
theorem Y.frame(vu jZ:bF)(h1:∀k o,vu k=some o->A.H k=some o)(z:∀k o,jZ k=some o->A.H k=some o)(N:∀k o bI,vu k=some o->jZ k=some bI->False)
  (h:∀iL:b7 P B am,Y iL c {t:=A.t,H:=vu} λe az=>K e {t:=az.t,H:=ls jZ az.H}):Y U c A K :=
 ⟨λa w C M=>by
  let iL:b7 P B am:={w0:=w,C0:=C,Ft:=λb=>∃k x,vu k=some x/\x.ec b,base:=M.base,low:=λb ⟨k,x,h,ao⟩=>U.DM (M.heap.cJ k x b (h1 k x h) ao)}
  have fW:bG iL w C {t:=A.t,H:=vu} a:=⟨M.tmps,⟨λk x h=>M.heap.b' k x (h1 k x h),λs bp x y b av g1 eP=>M.heap.inj s bp x y b av (h1 s x g1) (h1 bp y eP),λk x b h ao=>.inl ⟨k,x,h,ao⟩⟩,M.size,M.defers,c7.refl _ _ _⟩
  have ED:∀b,iL.pS b->U.pS b:=λb h=>by
   rcases h with⟨k,x,h,ao⟩|h
   ·exact M.heap.cJ k x b (h1 k x h) ao
   exact .inr (avb M.step.ext.size h)
  have B4:∀k x b,jZ k=some x->x.ec b->b<w.heap.size/\¬iL.Ft b:=λk x b F ao=>by
   refine⟨(M.heap.b' k x (z k x F)).lt ao,λ⟨bC,bU,h,cS⟩=>?_⟩;have aX:bC≠k:=λe=>by subst e;exact N bC bU x h F
   exact M.heap.inj bC k bU x b aX (h1 bC bU h) (z k x F) cS ao
  refine wp_mono ((h iL).run a w C fW) λe bv w' ⟨c3,az,aO,ak,hK,bJ⟩=>⟨c3,_,aO,ak,hK,?_⟩
  have Ib:∀{k x},ls jZ az.H k=some x->jZ k=some x\/(jZ k=none/\az.H k=some x):=λ{k x} F=>by
   unfold ls at F
   cases X:jZ k with
   |some o=>rw[X]at F;exact .inl F
   |none=>rw[X]at F;exact .inr ⟨rfl,F⟩
  have apart:∀s x y b,jZ s=some x->x.ec b->∀bp,az.H bp=some y->y.ec b->False:=λs x y b ag ao bp hy cS=>by
   have:=B4 s x b ag ao;rcases bJ.heap.cJ bp y b hy cS with h|h
   ·exact this.2 h
   have aa:=this.1;change w.heap.size<=b at h;omega
  refine⟨bJ.tmps,⟨λk x F=>?_,λs bp x y b av F hy ao cS=>?_,λk x b F ao=>?_⟩,bJ.size,bJ.defers,M.step.trans bJ.step λb G Ab=>?_⟩
  ·rcases Ib F with ag|⟨_,ag⟩
   ·exact(M.heap.b' k _ (z k _ ag)).iE bJ.step.ext λb G=>by
     have:=B4 k _ b ag G;exact bJ.step.iE b this.1 this.2
   exact bJ.heap.b' k x ag
  ·rcases Ib F with ag|⟨_,ag⟩<;>rcases Ib hy with t_|⟨_,t_⟩
   ·exact M.heap.inj s bp _ _ b av (z s _ ag) (z bp _ t_) ao cS
   ·exact apart s x y b ag ao bp t_ cS
   ·exact apart bp y x b t_ cS s ag ao
   exact bJ.heap.inj s bp x y b av ag t_ ao cS
  ·rcases Ib F with ag|⟨_,ag⟩
   ·exact M.heap.cJ k _ b (z k _ ag) ao
   exact ED b (bJ.heap.cJ k x b ag ao)
  rcases ED b (.inl Ab)with h|h
  ·exact h
  omega⟩
theorem Y.adt(H:bF)(f7:Nat->Nat)(hi:∀k bC o bI,H k=some o->H bC=some bI->f7 k=f7 bC->k=bC)(hH:∀k o,H k=some o->A.H (f7 k)=some o)
  (h:Y U c {t:=A.t,H:=H} K):Y U c A K :=
 ⟨λa w C M=>h.run a w C ⟨M.tmps,⟨λs o ag=>M.heap.b' (f7 s) o (hH s o ag),λs bp o bI b av aa aC=>M.heap.inj (f7 s) (f7 bp) o bI b (λe=>av (hi s bp o bI aa aC e)) (hH s o aa) (hH bp bI aC),
  λs o b ag=>M.heap.cJ (f7 s) o b (hH s o ag)⟩,M.size,M.defers,M.step⟩⟩
def ma(H:bF)(gB:Nat):bF:=λk=>bif Nat.beq k gB then none else H k
def qa(H:bF):Prop:=∀k o,H k=some o->10000<=k
def sZ:List (Nat×aI)->Bool
 |[]=>true
 |(k,_)::r=>Nat.blt k 10000&&sZ r
theorem vy:∀{a1:List (Nat×aI)},sZ a1=true->∀{k:Nat} {o:aI},aK a1 k=some o->k<10000
 |[],_,_,_,h=>by cases h
 |(i,x)::r,al,k,o,h=>by simp only[sZ,atM]at al;simp only[aK]at h;cases G:Nat.beq k i with|true=>have:=aua G;subst this;exact auk al.1|false=>rw[G]at h;exact vy al.2 h
def EU(l:List (Nat×D))(a1:List (Nat×aI))(ct:bF):aw:=rW l (cQ a1 ct)
variable{a1:List (Nat×aI)}{ct:bF}{f0:aI}
theorem Y.Cl{l:List (Nat×D)}(q gB:Nat)(aZ:sZ a1=true)(cy:qa ct)(X:ct gB=some f0)(I:aK a1 q=none)(lu:q<10000)(h:∀iL:b7 P B am,Y iL c (hq l ((q,f0)::a1)) λe az=>K e {t:=az.t,H:=ls (ma ct gB) az.H}):Y U c (EU l a1 ct) K:=by have j0:=cy gB f0 X;refine Y.adt (λk=>bif Nat.beq k q then some f0 else cQ a1 (ma ct gB) k) (λk=>bif Nat.beq k q then gB else k) (λk bC o bI g1 eP e=>?_) (λk o ag=>?_) ?_;(have bi:∀k o,(bif Nat.beq k q then some f0 else cQ a1 (ma ct gB) k)=some o->k≠gB:=λk o g e=>by subst e;have:Nat.beq k q=false:=avw atv;rw[this]at g;simp only[auV,cQ]at g;cases hs:aK a1 k with|some x=>have:=vy aZ hs;omega|none=>rw[hs]at g;simp only[ma,au7,avo]at g;cases g);cases G:Nat.beq k q<;>cases qN:Nat.beq bC q<;>rw[G,qN]at e<;>simp only[avo,auV]at e;exact e;exact absurd e (bi k o g1);exact absurd e.symm (bi bC bI eP);rw[aua G,aua qN];(cases G:Nat.beq k q with|true =>rw[G]at ag;simp only[avo]at ag⊢;cases ag;show cQ a1 ct gB=some f0;unfold cQ;(cases hs:aK a1 gB with|some x=>have:=vy aZ hs;omega|none=>exact X)|false =>rw[G]at ag;simp only[auV]at ag⊢;show cQ a1 ct k=some o;unfold cQ at ag⊢;(cases hs:aK a1 k with|some x=>rw[hs]at ag;exact ag|none =>rw[hs]at ag;simp only[ma]at ag;(cases g8:Nat.beq k gB with|true=>rw[g8]at ag;cases ag|false=>rw[g8]at ag;exact ag)));refine Y.frame (aK ((q,f0)::a1)) (ma ct gB) (λk o ag=>?_) (λk o ag=>?_) (λk o bI g1 eP=>?_) h;simp only[aK]at ag;show(bif Nat.beq k q then some f0 else cQ a1 (ma ct gB) k)=some o;(cases G:Nat.beq k q with|true=>rw[G]at ag;exact ag|false=>rw[G]at ag;simp only[auV]at ag⊢;unfold cQ;rw[ag]);(have aa:10000<=k:=by simp only[ma]at ag;cases g8:Nat.beq k gB with|true=>rw[g8]at ag;cases ag|false=>rw[g8]at ag;exact cy k o ag);show(bif Nat.beq k q then some f0 else cQ a1 (ma ct gB) k)=some o;rw[avw (by omega:k≠q)];simp only[auV,cQ];(cases hs:aK a1 k with|some x=>have:=vy aZ hs;omega|none=>exact ag);(have aa:10000<=k:=by simp only[ma]at eP;cases g8:Nat.beq k gB with|true=>rw[g8]at eP;cases eP|false=>rw[g8]at eP;exact cy k bI eP);simp only[aK]at g1;rw[avw (by omega:k≠q)]at g1;have:=vy aZ (show aK a1 k=some o from g1);omega
theorem Y.qZ{l:List (Nat×D)}(aZ:sZ a1=true)(cy:qa ct)(h:∀iL:b7 P B am,Y iL c (hq l a1) λe az=>K e {t:=az.t,H:=ls ct az.H}):Y U c (EU l a1 ct) K:=by refine Y.frame (aK a1) ct (λk o ag=>?_) (λk o ag=>?_) (λk o bI g1 eP=>?_) h;show cQ a1 ct k=some o;unfold cQ;rw[ag];show cQ a1 ct k=some o;unfold cQ;(cases hs:aK a1 k with|some x=>have:=vy aZ hs;have:=cy k o ag;omega|none=>exact ag);have:=vy aZ g1;have:=cy k bI eP;omega
def ys(ng:Nat):List (Nat×Nat)->Bool
 |[]=>true
 |(_,s)::r=>Nat.blt s 10000&&(!Nat.beq s ng&&ys ng r)
theorem MO{ng:Nat}:∀{m:List (Nat×Nat)},ys ng m=true->∀{k s:Nat},(k,s)∈m->s<10000/\s≠ng
 |(i,x)::r,h,k,s,hm=>by simp only[ys,atM]at h;rcases at6.1 hm with e|e;cases e;exact⟨auk h.1,λe=>by subst e;have:=h.2.1;simp at this⟩;exact MO h.2.2 e
theorem EV:∀{m:List (Nat×Nat)},ka m=true->∀{k s:Nat},(k,s)∈m->aK m k=some s
 |(i,x)::r,h,k,s,hm=>by simp only[ka,atM]at h;simp only[aK];rcases at6.1 hm with e|e;cases e;simp;have:=auC.1 h.1 (k,s) e;simp only[atM]at this;(have z:Nat.beq k i=false:=by simpa using this.1);rw[z];exact EV h.2 e
variable{az:aw}
theorem fO.w2{jZ:bF}{l:List (Nat×D)}(m:List (Nat×Nat))(gB ng:Nat)(j0:10000<=gB)(MP:ng<10000)(h1:jP az l)(hm:ka m=true)(gL:tU az m a1)(aZ:sZ a1=true)(gJ:ys ng m=true)(I:az.H ng=some f0)(EW:qa jZ)(N:∀k o,ct k=some o->10000<=k/\((k=gB/\o=f0)\/(k≠gB/\jZ k=some o))):fO {t:=az.t,H:=ls jZ az.H} l (cQ a1 ct):=by(have Ic:∀k,k<10000->jZ k=none:=λk X=>by cases h:jZ k with|none=>rfl|some o=>have:=EW k o h;omega);(have s0:∀{k o},cQ a1 ct k=some o->(k<10000/\∃s,(k,s)∈m/\aK m k=some s/\s<10000/\s≠ng/\az.H s=some o)\/(10000<=k/\ct k=some o):=λ{k o} h=>by unfold cQ at h;cases hs:aK a1 k with|some x =>rw[hs]at h;cases h;obtain⟨s,hJ,ag⟩:=gL.aK k _ hs;have:=MO gJ hJ;exact .inl ⟨vy aZ hs,s,hJ,EV hm hJ,this.1,this.2,ag⟩|none=>rw[hs]at h;exact .inr ⟨(N k o h).1,h⟩);(have ax:jP {t:=az.t,H:=ls jZ az.H} l:=axS);refine⟨ax,λk=>if k<10000 then(aK m k).getD k else if k=gB then ng else k,λk bC o bI g1 eP e=>?_,λk o g=>?_⟩;rcases s0 g1 with⟨X,s,hJ,al,g6,ju,_⟩|⟨X,tP⟩<;>rcases s0 eP with⟨fA,bp,MQ,mY,adu,adv,_⟩|⟨fA,adw⟩;simp only[X,fA,auT,al,mY,auI]at e;exact(wM hm k s bC bp hJ MQ).2 e;simp only[X,auT,al,auI,atG (by omega:¬bC<10000)]at e;split at e;exact absurd e ju;omega;simp only[fA,auT,mY,auI,atG (by omega:¬k<10000)]at e;split at e;exact absurd e.symm adv;omega;simp only[atG (by omega:¬k<10000),atG (by omega:¬bC<10000)]at e;split at e<;>split at e<;>omega;rcases s0 g with⟨X,s,hJ,al,g6,_,ag⟩|⟨X,tP⟩;simp only[X,auT,al,auI];show ls jZ az.H s=some o;unfold ls;rw[Ic s g6];exact ag;simp only[atG (by omega:¬k<10000)];rcases(N k o tP).2 with⟨rfl,rfl⟩|⟨aX,z⟩;rw[atH rfl];show ls jZ az.H ng=some o;unfold ls;rw[Ic ng MP];exact I;rw[atG aX];show ls jZ az.H k=some o;unfold ls;rw[z]
theorem fO.pk{l:List (Nat×D)}(m:List (Nat×Nat))(h1:jP az l)(hm:ka m=true)(gL:tU az m a1)(aZ:sZ a1=true)(gJ:ys 10000 m=true)(cy:qa ct):fO {t:=az.t,H:=ls ct az.H} l (cQ a1 ct):=by(have Ic:∀k,k<10000->ct k=none:=λk X=>by cases h:ct k with|none=>rfl|some o=>have:=cy k o h;omega);(have s0:∀{k o},cQ a1 ct k=some o->(k<10000/\∃s,(k,s)∈m/\aK m k=some s/\s<10000/\az.H s=some o)\/(10000<=k/\ct k=some o):=λ{k o} h=>by unfold cQ at h;cases hs:aK a1 k with|some x =>rw[hs]at h;cases h;obtain⟨s,hJ,ag⟩:=gL.aK k _ hs;have:=MO gJ hJ;exact .inl ⟨vy aZ hs,s,hJ,EV hm hJ,this.1,ag⟩|none=>rw[hs]at h;exact .inr ⟨cy k o h,h⟩);(have ax:jP {t:=az.t,H:=ls ct az.H} l:=axS);refine⟨ax,λk=>if k<10000 then(aK m k).getD k else k,λk bC o bI g1 eP e=>?_,λk o g=>?_⟩;rcases s0 g1 with⟨X,s,hJ,al,g6,_⟩|⟨X,tP⟩<;>rcases s0 eP with⟨fA,bp,MQ,mY,adu,_⟩|⟨fA,adw⟩;simp only[X,fA,auT,al,mY,auI]at e;exact(wM hm k s bC bp hJ MQ).2 e;simp only[X,auT,al,auI,atG (by omega:¬bC<10000)]at e;omega;simp only[fA,auT,mY,auI,atG (by omega:¬k<10000)]at e;omega;simp only[atG (by omega:¬k<10000),atG (by omega:¬bC<10000)]at e;exact e;rcases s0 g with⟨X,s,hJ,al,g6,ag⟩|⟨X,tP⟩;simp only[X,auT,al,auI];show ls ct az.H s=some o;unfold ls;rw[Ic s g6];exact ag;simp only[atG (by omega:¬k<10000)];show ls ct az.H k=some o;unfold ls;rw[tP]
variable{α:Type}
def Id(et:α->Prop)(l:α->List (Nat×D))(a1:α->List (Nat×aI))(ct:α->bF)(fz:α->Nat)(x:α)(K:cK->aw->Prop):cK->aw->Prop
 |.normal,A=>∃bU,et bU/\fz bU<fz x/\fO A (l bU) (cQ (a1 bU) (ct bU))
 |.exit id,A=>K (.exit id) A
 |.ret,A=>K .ret A
theorem Y.Id{U:b7 P B am}{A:aw}{K:cK->aw->Prop}{c:Code}{α:Type}{et:α->Prop}(l:α->List (Nat×D))(a1:α->List (Nat×aI))(ct:α->bF)(fz:α->Nat)(ey:α)(i0:et ey)(h1:fO A (l ey) (cQ (a1 ey) (ct ey)))
  (round:∀x,et x->Y U c (EU (l x) (a1 x) (ct x)) (Go.bS.Id et l a1 ct fz x K)):Y U (.loop c) A K :=
 Y.HN (α:={x // et x}) (λx=>l x.1) (λx=>cQ (a1 x.1) (ct x.1)) (λx=>fz x.1) ⟨ey,i0⟩ h1 λx=>(round x.1 x.2).mono λe az h=>by
  cases e with
  |normal=>obtain⟨bU,h1,z,aa⟩:=h;exact⟨⟨bU,h1⟩,z,aa⟩
  |exit id=>exact h
  |ret=>exact h
variable{m:List (Nat×Nat)}
theorem fO.adx{l:List (Nat×D)}(h:n_ A l a1 m):fO A l (cQ a1 λ_=>none):=by refine⟨h.t,λk=>(aK m k).getD k,λk bC o bI g1 eP e=>?_,λk o g=>?_⟩;(have s0:∀{k o},cQ a1 (λ_=>none) k=some o->∃s,(k,s)∈m/\aK m k=some s:=λ{k o} bq=>by unfold cQ at bq;cases hs:aK a1 k with|some x=>obtain⟨s,hJ,_⟩:=h.h.aK k _ hs;exact⟨s,hJ,EV h.ok hJ⟩|none=>rw[hs]at bq;cases bq);obtain⟨s,h1,z⟩:=s0 g1;obtain⟨bp,mb,vz⟩:=s0 eP;simp only[z,vz,auI]at e;exact(wM h.ok k s bC bp h1 mb).2 e;unfold cQ at g;cases hs:aK a1 k with|some x =>rw[hs]at g;cases g;obtain⟨s,hJ,ag⟩:=h.h.aK k _ hs;simp only[EV h.ok hJ,auI];exact ag|none=>rw[hs]at g;cases g
end Go.bS
namespace Go.bS.cp
open Go Go.Proofs
variable{B:World}{am:Nat}{A:aw}{K:cK->aw->Prop}{c:Code}{b:Nat}{aA:List D}
theorem jB{U:b7 Tryz.prog B am}(s j k:Nat)(x:D)(h:Y U c {t:=λi=>_root_.cond (Nat.beq i j) (.a7 k [x] 0 0) (A.t i),H:=λi=>_root_.cond (Nat.beq i s) none (A.H i)} K)(Z:A.t j=.box s b 0:=by exact rfl)(hs:A.H s=some (.box b aA):=by exact rfl)(F:x.cells=aA:=by exact rfl)(X:x.cells.length=k:=by exact rfl)(ef:aA.all D.one=true:=by exact rfl):Y U c A K:=by subst X;refine Y.BZ s j x Z hs F ef ?_;rw[<-F];exact h
variable{α:Type}{dH:List (Nat×aI)}
theorem Al{U:b7 Tryz.prog B am}(et:α->Prop)(hv wG:List Nat)(l:α->List (Nat×D))(a1:α->List (Nat×aI))(ct:α->bF)(fz:α->Nat)(ey:α)(i0:et ey){L:List (Nat×D)}
  (round:∀x,et x->Y U c (EU (L++l x) (dH++a1 x) (ct x)) (Id et (λx=>L++l x) (λx=>dH++a1 x) ct fz x K)) (aV:ua A hv L:=by exact ym) (hO:yl A wG dH:=by exact ym) (h1:fO A (L++l ey) (cQ (dH++a1 ey) (ct ey))):Y U (.loop c) A K :=
 Y.Id (λx=>L++l x) (λx=>dH++a1 x) ct fz ey i0 h1 round
variable{et:α->Prop}{fz:α->Nat}
theorem yt{l:α->List (Nat×D)}{a1:α->List (Nat×aI)}{ct:α->bF}{x:α}(bU:α)(hu:et bU)(z:fO A (l bU) (cQ (a1 bU) (ct bU)))(h1:fz bU<fz x:=by(try dsimp only);omega):∃bU,et bU/\fz bU<fz x/\fO A (l bU) (cQ (a1 bU) (ct bU)):=⟨bU,hu,h1,z⟩
theorem w2{az:aw}{jZ ct:bF}{l:List (Nat×D)}{a1:List (Nat×aI)}(m:List (Nat×Nat))(gB ng:Nat){f0:aI}(j0:10000<=gB)(EW:qa jZ)(N:∀k o,ct k=some o->10000<=k/\((k=gB/\o=f0)\/(k≠gB/\jZ k=some o)))(MP:ng<10000:=by decide)(I:az.H ng=some f0:=by exact rfl)(h1:jP az l:=by exact cH)(hm:ka m=true:=by exact rfl)(gL:tU az m a1:=by exact cH)(aZ:sZ a1=true:=by exact rfl)(gJ:ys ng m=true:=by exact rfl):
  fO {t:=az.t,H:=ls jZ az.H} l (cQ a1 ct):=fO.w2 m gB ng j0 MP h1 hm gL aZ gJ I EW N
theorem pk{az:aw}{ct:bF}{l:List (Nat×D)}{a1:List (Nat×aI)}(m:List (Nat×Nat))(cy:qa ct)(h1:jP az l:=by exact cH)(hm:ka m=true:=by exact rfl)(gL:tU az m a1:=by exact cH)(aZ:sZ a1=true:=by exact rfl)(gJ:ys 10000 m=true:=by exact rfl):
  fO {t:=az.t,H:=ls ct az.H} l (cQ a1 ct):=fO.pk m h1 hm gL aZ gJ cy
end Go.bS.cp
namespace Go.bS
open Go Go.RowKit Go.MapKept
variable{P:Program}{B:World}{am:Nat}{A:aw}{dst:Option Tmp}{K:aw->Prop}{ay:List bx}
def mG:TypeDesc->D->Bool
 |.string,.O _=>true
 |.int k,.int bC _=>pT k bC
 |.bool,.bool _=>true
 |_,_=>false
def oh:D->D->Bool
 |.O a,.O b=>a==b
 |.int _ a,.int _ b=>a==b
 |.bool a,.bool b=>a==b
 |_,_=>false
def jC(cA:List (D×D))(k:D):Option D:=(cA.find? λx=>oh x.1 k).map (·.2)
def mH(cA:List (D×D))(k d:D):List (D×D) :=
 match jC cA k with
 |some _=>cA.map λx=>if oh x.1 k then(x.1,d)else x
 |none=>cA++[(k,d)]
variable{c3:TypeDesc}
theorem EX{k:D}(h:mG c3 k=true):∃v,mZ k=some v/\IsKey c3 v:=by unfold mG at h;split at h;exact⟨_,rfl,trivial⟩;exact⟨_,rfl,(Hj h).symm⟩;exact⟨_,rfl,trivial⟩;cases h
theorem Tg{k:D}(h:mG c3 k=true):(c3=.string/\∃s,k=.O s)\/(∃q n,c3=.int q/\k=.int q n)\/(c3=.bool/\∃b,k=.bool b):=by unfold mG at h;split at h;exact .inl ⟨rfl,_,rfl⟩;have:=Hj h;subst this;exact .inr (.inl ⟨_,_,rfl,rfl⟩);exact .inr (.inr ⟨rfl,_,rfl⟩);cases h
theorem Cm{k bC:D}(h:mG c3 k=true)(bq:mG c3 bC=true):oh k bC=true↔mZ k=mZ bC:=by(rcases Tg h with⟨rfl,s,rfl⟩|⟨q,n,rfl,rfl⟩|⟨rfl,s,rfl⟩<;>rcases Tg bq with⟨e,bp,rfl⟩|⟨fh,h5,e,rfl⟩|⟨e,bp,rfl⟩<;>first|(cases e;done)|skip);simp[oh,mZ];cases e;simp[oh,mZ];simp[oh,mZ]
variable{w:World}{C:Nat->Nat}{v aj:Value}
theorem MR{k:D}(h:mZ k=some aj)(ae:bf w C k v):v=aj:=by(cases k<;>simp only[mZ]at h<;>first|(cases h;done)|(simp only[aus]at h;subst h));exact ae.h4;exact ae.fr;exact ae.kw
variable{cA:List (D×D)}{d:D}
theorem Th{k:D}(h:jC cA k=some d):∃(i:Nat) (bC:D),cA[i]?=some (bC,d)/\oh bC k=true:=by unfold jC at h;cases M:cA.find? λx=>oh x.1 k with|none=>rw[M]at h;cases h|some x =>rw[M]at h;cases h;obtain⟨i,hi⟩:=aub.1 (awM M);have:=List.find?_some M;exact⟨i,x.1,hi,this⟩
theorem Ti{k:D}(h:jC cA k=none):∀x∈cA,oh x.1 k=false:=by unfold jC at h;rw[av3,avi]at h;intro x F;simpa using h x F
variable{b:Nat}
theorem Bs.find{k:D}{d0:Value}(X:mG c3 k=true)(lw:mZ k=some d0)(b5:∀x∈cA,mG c3 x.1=true)(h:Bs w C b cA):∃eC iX,w.heap[b]?=some (.map eC iX)/\C b=0/\eC.size=cA.length/\(∀(i:Nat) k d e,cA[i]?=some (k,d)->eC[i]?=some e->mZ k=some e.key/\bf w C d e.val)/\(∀(i j:Nat) k bC d d',cA[i]?=some (k,d)->cA[j]?=some (bC,d')->mZ k=mZ bC->i=j)/\((jC cA k=none/\Instr.findNow c3 d0 eC.toList 0=some none)\/∃j bC d e,jC cA k=some d/\cA[j]?=some (bC,d)/\mZ bC=some d0/\eC[j]?=some e/\e.key=d0/\Instr.findNow c3 d0 eC.toList 0=some (some (j,e.val))/\bf w C d e.val):=by obtain⟨eC,iX,G,c6,al,av,ae⟩:=h;refine⟨eC,iX,G,c6,al,ae,av,?_⟩;(have og:IsKey c3 d0:=by obtain⟨v,h1,z⟩:=EX X;rw[lw]at h1;cases h1;exact z);(have hE:∀x∈eC.toList,IsKey c3 x.key:=λx F=>by obtain⟨i,hi⟩:=aub.1 F;rw[au']at hi;(have bi:i<cA.length:=by rw[<-al];exact(avu.1 hi).1);obtain⟨h1,_⟩:=ae i cA[i].1 cA[i].2 x (by simp[bi]) hi;obtain⟨v,z,aa⟩:=EX (b5 cA[i] (atK bi));rw[h1]at z;cases z;exact aa);rcases findNow_spec og eC.toList 0 hE with⟨h1,z⟩|⟨j,e,h1,z,aa⟩;left;refine⟨?_,h1⟩;(cases aT:jC cA k with|none=>rfl|some d =>exfalso;obtain⟨i,bC,hi,ak⟩:=Th aT;have bi:=(aui.1 hi).1;(have qb:eC[i]?=some eC[i]:=by simp[al,bi]);obtain⟨aC,_⟩:=ae i bC d _ hi qb;rw[Cm (b5 _ (at2 hi)) X,aC,lw]at ak;exact z _ atx (auA ak));right;rw[aut]at h1;(have MS:eC[j]?=some e:=by rw[<-au'];exact z);(have bi:j<cA.length:=by rw[<-al];exact(avu.1 MS).1);(have Z:cA[j]?=some (cA[j].1,cA[j].2):=by simp[bi]);obtain⟨aC,a_⟩:=ae j _ _ e Z MS;rw[aa]at aC;cases aT:jC cA k with|none =>exfalso;have:=Ti aT cA[j] (atK bi);rw[(Cm (b5 _ (atK bi)) X).2 (by rw[aC,lw])]at this;cases this|some d =>obtain⟨i,bC,hi,ak⟩:=Th aT;rw[Cm (b5 _ (at2 hi)) X,lw]at ak;have d7:=av i j bC _ d _ hi Z (by rw[ak,aC]);subst d7;rw[hi]at Z;(have b0:d=cA[i].2:=by simpa using atI (λx=>(x.map Prod.snd)) Z);exact⟨i,bC,d,e,rfl,hi,ak,MS,aa,h1,by rw[b0];exact a_⟩
variable{s:Nat}
theorem af.ud{t:TypeId}(hK:∀b,K ((A.b2 s (some (.mp b []))).put (some s) (.an (.map (some b))))):af P B am A (some s) (.makeMap t none) K :=
 .val λU w C a M type pos after=>by
  refine⟨.map (some w.heap.size),_,_,_,_,?_,M.newObj s (mA:=.mp w.heap.size []) (o:=.map #[] 0) ⟨#[],0,kB w _,ht _ _ _,rfl,λi j k bC d d' h=>by simp at h,λi k d e h=>by simp at h⟩ (λb G=>G),.an _,hK _⟩;simp[execOp,Instr.makeMap,Result.andThen]
variable{dA d9:TypeId}{x:Operand}{ok:Bool}
theorem af.Ie{t:TypeId}{m:Operand}(s:Nat){k:D}(hm:P.underlying t=some (.map dA d9))(N:P.underlying dA=some c3)
  (F:A.a8 m=.an (.map (some b))) (hs:A.H s=some (.mp b cA)) (I:A.a8 x=k) (X:mG c3 k=true) (b5:∀x∈cA,mG c3 x.1=true) (aT:jC cA k=some d)
  (hK:K (A.put dst (if ok then .bl [d,.bool true]else d))):af P B am A dst (.lookup t m x ok) K :=
 .val λU w C a M type pos after=>by
  have k1:=cr M.tmps m;rw[F]at k1
  have fj:=cr M.tmps x;rw[I]at fj
  obtain⟨d0,lw,og⟩:=EX X;have Cn:=MR lw fj;obtain⟨eC,iX,G,c6,al,ae,av,hc⟩:=Bs.find X lw b5 (M.heap.b' s _ hs);rcases hc with⟨h1,_⟩|⟨j,bC,d',e,h1,z,aa,aC,a_,cC,eV⟩
  ·rw[aT]at h1;cases h1
  rw[aT]at h1;cases h1
  refine⟨if ok then .tuple #[e.val,.bool true]else e.val,w,C,A,_,?_,M,?_,hK⟩
  ·simp only[execOp,k1.fL,Cn,Instr.lookup,Sem.run_bind,run_underlying hm,Result.andThen,Go.MapKept.run_getObj_map G,Sem.run_pure,run_checkKey N og,run_findKey N cC]
  cases ok with
  |true=>exact .bl [d,.bool true] [e.val,.bool true] rfl (λi q v I W=>by
    match i,I,W with
    |0,I,W=>simp at I W;subst I;subst W;exact eV
    |1,I,W=>simp at I W;subst I;subst W;exact .bool _
    |n+2,I,W=>simp at I)
  |false=>exact eV
variable{ei:Value}
theorem af.If{t:TypeId}{m:Operand}(s:Nat){k V:D}(hm:P.underlying t=some (.map dA d9))(N:P.underlying dA=some c3)
  (F:A.a8 m=.an (.map (some b))) (hs:A.H s=some (.mp b cA)) (I:A.a8 x=k) (X:mG c3 k=true) (b5:∀x∈cA,mG c3 x.1=true) (aT:jC cA k=none)
  (bz:∀w,(zeroValue d9).run P w=.ok ei w) (jR:∀w C,bf w C V ei)
  (hK:K (A.put dst (if ok then .bl [V,.bool false]else V))):af P B am A dst (.lookup t m x ok) K :=
 .val λU w C a M type pos after=>by
  have k1:=cr M.tmps m;rw[F]at k1
  have fj:=cr M.tmps x;rw[I]at fj
  obtain⟨d0,lw,og⟩:=EX X;have Cn:=MR lw fj;obtain⟨eC,iX,G,c6,al,ae,av,hc⟩:=Bs.find X lw b5 (M.heap.b' s _ hs);rcases hc with⟨_,cC⟩|⟨j,bC,d',e,h1,_⟩
  ·refine⟨if ok then .tuple #[ei,.bool false]else ei,w,C,A,_,?_,M,?_,hK⟩
   ·simp only[execOp,k1.fL,Cn,Instr.lookup,Sem.run_bind,run_underlying hm,Result.andThen,Go.MapKept.run_getObj_map G,Sem.run_pure,run_checkKey N og,run_findKey N cC,bz]
   cases ok with
   |true=>exact .bl [V,.bool false] [ei,.bool false] rfl (λi q v I W=>by
     match i,I,W with
     |0,I,W=>simp at I W;subst I;subst W;exact jR _ _
     |1,I,W=>simp at I W;subst I;subst W;exact .bool _
     |n+2,I,W=>simp at I)
   |false=>exact jR _ _
  rw[aT]at h1;cases h1
variable{y:Operand}
theorem af.yu{t:TypeId}{m:Operand}(s:Nat){k:D}(hm:P.underlying t=some (.map dA d9))(N:P.underlying dA=some c3)
  (F:A.a8 m=.an (.map (some b))) (hs:A.H s=some (.mp b cA)) (I:A.a8 x=k) (X:mG c3 k=true) (b5:∀x∈cA,mG c3 x.1=true)
  (hK:K ((A.b2 s (some (.mp b (mH cA k (A.a8 y))))).put dst .undef)):af P B am A dst (.mapUpdate t m x y) K :=
 .unit λU w C a M type pos after=>by
  have k1:=cr M.tmps m;rw[F]at k1
  have fj:=cr M.tmps x;rw[I]at fj
  have jV:=cr M.tmps y;obtain⟨d0,lw,og⟩:=EX X;have Cn:=MR lw fj;obtain⟨eC,iX,G,c6,al,ae,av,hc⟩:=Bs.find X lw b5 (M.heap.b' s _ hs);have eK:aI.ec (.mp b cA) b:=rfl
  have ny:∀oM vh,(∀w',n0 w C w' C->∃Ig EY,Obj.map oM vh=Obj.map Ig EY/\Ig.size=(mH cA k (A.a8 y)).length/\(∀(i j:Nat) ce dn d d',(mH cA k (A.a8 y))[i]?=some (ce,d)->(mH cA k (A.a8 y))[j]?=some (dn,d')->mZ ce=mZ dn->i=j)/\
    ∀(i:Nat) ce d e,(mH cA k (A.a8 y))[i]?=some (ce,d)->Ig[i]?=some e->mZ ce=some e.key/\bf w' C d e.val)->
    bG U {w with heap:=w.heap.setIfInBounds b (.map oM vh)} C (A.b2 s (some (.mp b (mH cA k (A.a8 y))))) a:=λoM vh h1=>by
   have aZ:=c7.Eo (bI:=.map oM vh) G c6;refine M.b2 aZ (s:=s) (λx F=>ayv) (λbp bI eh aX c4 ao m5=>?_) λV bz=>?_
   ·subst m5;exact M.heap.inj bp s bI _ eh aX c4 hs ao eK
   cases bz
   obtain⟨Ig,EY,bT,z,aa,aC⟩:=h1 _ aZ.ext;cases bT
   exact⟨⟨oM,vh,(heap_set G).1,c6,z,aa,aC⟩,λx F=>⟨ayw,.inl F⟩⟩
  rcases hc with⟨h1,cC⟩|⟨j,bC,d',e,h1,z,aa,aC,a_,cC,eV⟩
  ·have hJ:mH cA k (A.a8 y)=cA++[(k,A.a8 y)]:=by rw[mH,h1]
   refine⟨_,C,_,?_,ny (eC.push ⟨d0,a.eval y,iX⟩) (iX+1) (λw' ak=>⟨_,_,rfl,?_,?_,?_⟩),hK⟩
   ·simp only[execOp,k1.fL,Cn,Instr.mapUpdate,Sem.run_bind,run_underlying hm,Result.andThen,Go.MapKept.run_getObj_map G,Sem.run_pure,run_checkKey N og,run_findKey N cC,run_setObj_map _ G]
   ·rw[hJ];simp[al]
   ·rw[hJ];intro i hu ce dn d d' hi l6 s1
    have ya:∀(i:Nat) ce d,cA[i]?=some (ce,d)->mZ ce≠some d0:=λi ce d hi e=>by
     have:=Ti h1 _ (at2 hi);rw[(Cm (b5 _ (at2 hi)) X).2 (by rw[e,lw])]at this;cases this
    have split:∀(i:Nat) ce d,(cA++[(k,A.a8 y)])[i]?=some (ce,d)->(i<cA.length/\cA[i]?=some (ce,d))\/(i=cA.length/\ce=k):=λi ce d hi=>by
     rcases at5 i cA.length with bi|io
     ·rw[atZ bi]at hi;exact .inl ⟨bi,hi⟩
     rw[aul io]at hi
     have:i-cA.length=0:=by
      rcases auD (i-cA.length)with h|h
      ·exact h
      rw[atT atw]at hi;cases hi
     rw[this]at hi;simp at hi;exact .inr ⟨by omega,hi.1.symm⟩
    rcases split i ce d hi with⟨fZ,hI⟩|⟨fZ,hI⟩<;>rcases split hu dn d' l6 with⟨sW,rY⟩|⟨sW,rY⟩
    ·exact av i hu ce dn d d' hI rY s1
    ·exact absurd (by rw[s1,rY,lw]) (ya i ce d hI)
    ·exact absurd (by rw[<-s1,hI,lw]) (ya hu dn d' rY)
    omega
   rw[hJ];intro i ce d e hi o7;rcases at5 i cA.length with bi|io
   ·rw[atZ bi]at hi;rw[Array.getElem?_push,atG atv]at o7;exact⟨(ae i ce d e hi o7).1,(ae i ce d e hi o7).2.ext ak⟩
   rw[aul io]at hi
   have k5:i-cA.length=0:=by
    rcases auD (i-cA.length)with h|h
    ·exact h
    rw[atT atw]at hi;cases hi
   rw[k5]at hi;simp at hi;obtain⟨rfl,rfl⟩:=hi;rw[Array.getElem?_push,atH atv]at o7;cases o7
   exact⟨lw,jV.ext ak⟩
  have hJ:mH cA k (A.a8 y)=cA.map λx=>if oh x.1 k then(x.1,A.a8 y)else x:=by rw[mH,h1]
  have qJ:∀(i:Nat) ce d1,(mH cA k (A.a8 y))[i]?=some (ce,d1)->∃g',cA[i]?=some (ce,g')/\d1=(if i=j then A.a8 y else g'):=λi ce d1 hi=>by
   rw[hJ,aud]at hi
   cases kC:cA[i]? with
   |none=>rw[kC]at hi;cases hi
   |some x =>
    obtain⟨gB,g'⟩:=x;rw[kC]at hi;simp only[au8,aus]at hi;have w3:=b5 _ (at2 kC);by_cases d7:i=j
    ·subst d7;rw[z]at kC;cases kC
     have ak:oh bC k=true:=(Cm w3 X).2 (by rw[aa,lw]);rw[atH ak]at hi;cases hi
     exact⟨d',rfl,by rw[atH rfl]⟩
    have ak:¬oh gB k=true:=λh=>by
     rw[Cm w3 X,lw]at h;exact d7 (av i j gB bC g' d' kC z (by rw[h,aa]))
    rw[atG ak]at hi;cases hi
    exact⟨_,rfl,by rw[atG d7]⟩
  refine⟨_,C,_,?_,ny (eC.modify j λe=>{e with key:=d0,val:=a.eval y}) iX (λw' ak=>⟨_,_,rfl,?_,?_,?_⟩),hK⟩
  ·simp only[execOp,k1.fL,Cn,Instr.mapUpdate,Sem.run_bind,run_underlying hm,Result.andThen,Go.MapKept.run_getObj_map G,Sem.run_pure,run_checkKey N og,run_findKey N cC,run_setObj_map _ G,aC,au8,auI,a_,run_keyThatStays og]
  ·rw[hJ];simp[al]
  ·intro i hu ce dn d1 d2 hi l6 s1;obtain⟨bT,fZ,_⟩:=qJ i ce d1 hi;obtain⟨b0,hI,_⟩:=qJ hu dn d2 l6;exact av i hu ce dn bT b0 fZ hI s1
  intro i ce d1 bT hi o7;obtain⟨g',fZ,hI⟩:=qJ i ce d1 hi;rw[av']at o7;by_cases d7:j=i
  ·subst d7;rw[atH rfl,aC]at o7;simp only[au8,aus]at o7;rw[atH rfl]at hI;subst hI;subst o7;have:=(ae j ce _ e fZ aC).1;exact⟨by rw[this,a_],jV.ext ak⟩
  rw[atG d7]at o7;rw[atG (λe=>d7 e.symm)]at hI;subst hI;exact⟨(ae i ce _ bT fZ o7).1,(ae i ce _ bT fZ o7).2.ext ak⟩
end Go.bS

namespace Go.bS.cp
open Go Go.Proofs
variable{B:World}{i j:Nat}
section Mk
variable{b9:Type}
def oi(L:List b9)(i j:Nat):List b9:=match L[i]?,L[j]? with
 |some x,some y=>(L.set i y).set j x
 |_,_=>L
theorem EZ(L:List b9)(i j:Nat):(oi L i j).length=L.length:=by unfold oi;split<;>simp
theorem ady{L:List b9}(hi:i<L.length)(Z:j<L.length):oi L i j=(L.set i L[j]).set j L[i]:=by unfold oi;rw[atJ hi,atJ Z]
theorem Ih{L:List b9}{e:b9->D}(hi:i<L.length)(Z:j<L.length):((L.map e).set i (e L[j])).set j (e L[i])=(oi L i j).map e:=by rw[ady hi Z,aw',aw']
def mI(L:List b9)(a b:Nat):Nat->List b9
 |0=>L
 |n+1=>oi (mI L a b n) (a+n) (b+n)
theorem Am(L:List b9)(a b:Nat):∀n,(mI L a b n).length=L.length
 |0=>rfl
 |n+1=>by rw[mI,EZ,Am L a b n]
end Mk
abbrev mc.je(v:Value)(xs:List D):aI:=.row v xs 12 234
abbrev mc.hv(v:Value)(i:Nat):Value:=h_ v (i*12)
abbrev mc.hd(c:List D):D:=.agg c
def An(d:D):Prop:=∃aA,d=mc.hd aA/\aA.length=12/\aA.all D.one=true
variable{p:Prop}
theorem Tj(h:p:=by
 refine j_ Tk Tl λU=>?_;refine go ?_;refine gn (λi=>i<=n) [0,1,2,3,4] [] (λi=>[(10,u i)]) (λi=>[(2000,je v ((mI L a b i).map e))]) (λi=>n-i) 0 (at7 _) [(2000,2000)] λi hi=>?_;refine go ?_;refine hb (t:=decide ((i:Int)<n)) (λhc=>?_) (λhc=>?_)
 ·have ne:i<n:=by simpa using hc
  have fg:=Am L a b i;have aE:a+i<(mI L a b i).length:=atv
  have w4:b+i<(mI L a b i).length:=atv
  obtain⟨ek,bT,dI,c9⟩:=ak (mI L a b i)[b+i];obtain⟨dq,b0,cu,da⟩:=ak (mI L a b i)[a+i];have MT:(((mI L a b i).map e).set (a+i) (hd ek)).set (b+i) (hd dq)=(mI L a b (i+1)).map e:=by rw[<-bT,<-b0,Ih aE w4];rfl
  refine' eR [(2000,je v ((mI L a b i).map e))] 0 (λy=>[_,_,_,_,_,_,_,_,_,_,_,_,.an (hv v (b+i)),hd ek,_,_,_,_,.an (hv v (a+i)),hd dq,.an (hv v (a+i)),.any,.an (hv v (b+i)),.any]) (λ_=>[(21,2000,some (je v (((mI L a b i).map e).set (a+i) (hd ek)))),(23,2000,some (je v ((mI L a b (i+1)).map e)))]) [0,0,0,6,0,0,0,96,0,0,0,1536,3840,7936,0,0,0,98304,245760,507904,1048335,2096911,4194303,8388607] [(21,2000),(23,2000)] ?_ ?_
  rotate_left 16
  ·refine dC ?_;refine bR (λy=>af.ev aL 2000 rfl rfl rfl rfl rfl rfl rfl atv atw (cz y)) ?_;refine bR (λy=>af.mz aL (i:=b+i) 2000 rfl rfl rfl (pj w4 bT) (cz y)) ?_;refine bR (λy=>af.ev aL 2000 rfl rfl rfl rfl rfl rfl rfl atv atw (cz y)) ?_;refine bR (λy=>af.mz aL (i:=a+i) 2000 rfl rfl rfl (pj aE b0) (cz y)) ?_;refine bR (λy=>af.ev aL 2000 rfl rfl rfl rfl rfl rfl rfl atv atw (cz y)) ?_;refine bR (λy=>by first|exact af.yk aL (i:=a+i) 2000 rfl rfl rfl rfl atw rfl dI c9 (cz y)|exact af.nC aL (i:=a+i) 2000 rfl rfl rfl rfl atw rfl (cz y)) ?_;refine bR (λy=>af.ev aL 2000 rfl rfl rfl rfl rfl rfl rfl atv atw (cz y)) ?_;refine bR (λy=>by first|exact af.yk aL (i:=b+i) 2000 rfl rfl rfl rfl atw rfl cu da (cz y)|exact af.nC aL (i:=b+i) 2000 rfl rfl rfl rfl atw rfl (cz y)) ?_;exact trivial
  intro _
  (conv=>whnf)
  refine go ?_;exact eX (i+1) [(2000,2000)] ne
 have cg:i=n:=by simp at hc;omega
 subst cg
 exact⟨.bl [],ai,rfl,ba⟩):p:=h
abbrev mc.Tk:=@Tryz.func364
abbrev mc.Tl:=@Tryz.ntmps364
variable{b9:Type}
theorem mc.Ii(e:b9->D)(ak:∀x,An (e x))(v:Value)(L:List b9)(a b n:Nat)(b6:Nat)(cq:List D)(ha:a+n<=L.length)(G:b+n<=L.length)(al:L.length<1000000):
  cV B 364 [.an v,u a,u b,u n,.fn (.func b6) [] cq] (aK [(2000,.row v (L.map e) 12 234)]) λd aM=>d=.bl []/\aM=aK [(2000,.row v ((mI L a b n).map e) 12 234)]:=Tj
section
def pl(m:Nat)(L:List b9)(i j:Nat):List b9 :=
 if i=j then mI L (m-i) m i
 else if h:j<i/\0<j then pl m (mI L (m-i) m j) (i-j) j
 else if h:i<j/\0<i then pl m (mI L (m-i) (m+j-i) i) i (j-i)
 else L
termination_by i+j
theorem Ij(m:Nat)(L:List b9)(i j:Nat):(pl m L i j).length=L.length:=by
 rw[pl];split
 ·exact Am ..
 split
 ·rw[Ij,Am]
 split
 ·rw[Ij,Am]
 rfl
termination_by i+j
end
theorem Tm(h:p:=by
 refine j_ Tn To λU=>?_;refine go ?_;refine gn (α:=List b9×Nat×Nat) (λx=>0<x.2.1/\x.2.1<=m/\0<x.2.2/\m+x.2.2<=L.length/\x.1.length=L.length/\pl m x.1 x.2.1 x.2.2=pl m L (m-a) (b-m)) [0,1,2,3,4] [] (λx=>[(10,u x.2.1),(11,u x.2.2)]) (λx=>[(2000,je v (x.1.map e))]) (λx=>x.2.1+x.2.2) (L,m-a,b-m) ⟨by dsimp only;omega,by dsimp only;omega,by dsimp only;omega,by dsimp only;omega,rfl,rfl⟩ [(2000,2000)] ?_;rintro⟨j1,i,j⟩ ⟨h1,z,aa,aC,a_,cC⟩;dsimp only at*;refine go ?_;refine hb (t:=(i:Int)!=j) (λhc=>?_) (λhc=>?_)
 ·have aX:i≠j:=by simp at hc;omega
  rw[pl,atG aX]at cC;refine hb (t:=decide ((j:Int)<i)) (λhc=>?_) (λhc=>?_)
  ·have fc:j<i:=by simpa using hc
   rw[avv ⟨fc,aa⟩]at cC;refine ke [(2000,2000)] (Ii e ak v j1 (m-i) m j b6 cq atv atv atv) ?_;exact eX (mI j1 (m-i) m j,i-j,j) [(2000,2000)] ⟨by dsimp only;omega,by dsimp only;omega,aa,aC,by rw[Am];exact a_,cC⟩
  have fc:i<j:=by simp at hc;omega
  rw[awQ atv,avv ⟨fc,h1⟩]at cC;refine ke [(2000,2000)] (Ii e ak v j1 (m-i) (m+j-i) i b6 cq atv atv atv) ?_;exact eX (mI j1 (m-i) (m+j-i) i,i,j-i) [(2000,2000)] ⟨h1,z,by dsimp only;omega,by dsimp only;omega,by rw[Am];exact a_,cC⟩
 have d7:i=j:=by simp at hc;omega
 subst d7;rw[pl,atH rfl]at cC;refine ke [(2000,2000)] (Ii e ak v j1 (m-i) m i b6 cq atv atv atv) ?_;rw[cC]
 exact⟨.bl [],ai,rfl,ba⟩):p:=h
abbrev mc.Tn:=@Tryz.func328
abbrev mc.To:=@Tryz.ntmps328
theorem mc.Tp(e:b9->D)(ak:∀x,An (e x))(v:Value)(L:List b9)(a m b:Nat)(b6:Nat)(cq:List D)(ha:a<m)(G:m<b)(eJ:b<=L.length)(al:L.length<1000000):
  cV B 328 [.an v,u a,u m,u b,.fn (.func b6) [] cq] (aK [(2000,.row v (L.map e) 12 234)]) λd aM=>d=.bl []/\aM=aK [(2000,.row v ((pl m L (m-a) (b-m)).map e) 12 234)]:=Tm
section
variable(b_:b9->b9->Int)
def pm(L:List b9)(i j:Nat):Bool:=match L[i]?,L[j]? with
 |some x,some y=>decide (b_ x y<0)
 |_,_=>false
theorem E0{L:List b9}(hi:i<L.length)(Z:j<L.length):pm b_ L i j=decide (b_ L[i] L[j]<0):=by unfold pm;rw[atJ hi,atJ Z]
def vA(a:Nat):Nat->List b9->List b9
 |0,L=>L
 |j+1,L=>if a<j+1/\pm b_ L (j+1) j=true then vA a j (oi L (j+1) j)else L
theorem Tq(a:Nat):∀(j:Nat) (L:List b9),(vA b_ a j L).length=L.length
 |0,_=>rfl
 |j+1,L=>by rw[vA];split;rw[Tq,EZ];rfl
def q0(a:Nat)(L:List b9):Nat->List b9
 |0=>L
 |n+1=>vA b_ a (a+n+1) (q0 a L n)
theorem E1(a:Nat)(L:List b9):∀n,(q0 b_ a L n).length=L.length
 |0=>rfl
 |n+1=>by rw[q0,Tq,E1]
end
theorem Tr(h:p:=by
 refine j_ Ts Tt λU=>?_;refine go ?_;refine gn (λn=>n<=b-(a+1)) [0,1,2,3] [] (λn=>[(8,u ((a+1+n:Nat):Int))]) (λn=>[(2000,je v ((q0 b_ a L n).map e))]) (λn=>b-n) 0 (at7 _) [(2000,2000)] λn av=>?_;refine go ?_;refine hb (t:=decide (((a+1+n:Nat):Int)<b)) (λhc=>?_) (λhc=>?_)
 ·have w4:a+1+n<b:=by simp at hc;omega
  refine gn (λx=>x.2<=a+1+n/\a<=x.2/\x.1.length=L.length/\vA b_ a x.2 x.1=q0 b_ a L (n+1)) [0,1,2,3,8] [] (λx=>[(9,u x.2)]) (λx=>[(2000,je v (x.1.map e))]) (λx=>x.2) (q0 b_ a L n,a+1+n) ⟨atP _,by omega,E1 ..,by rw[q0,show a+n+1=a+1+n by omega]⟩ [(2000,2000)] ?_;rintro⟨j1,j⟩ ⟨h1,z,aa,aC⟩;dsimp only at h1 z aa aC⊢;refine go ?_;by_cases ars:a<j
  ·have aT:decide ((a:Int)<j)=true:=auM atv;have Z:j<j1.length:=atv
   have vB:j-1<j1.length:=atv
   obtain⟨ek,bT,dI,c9⟩:=ak j1[j];obtain⟨dq,b0,cu,da⟩:=ak j1[j-1];have oj:=hcmp j1[j] j1[j-1];rw[bT,b0]at oj;refine' eR [(2000,je v (j1.map e))] 0 (λy=>[_,_,_,_,_,_,_,.an (hv v j),hd ek,_,_,_,.an (hv v (j-1)),hd dq,_,_,_]) (λ_=>[]) [0,0,3,7,15,15,15,111,239,15,15,1039,3599,7695,16383,32767,65535] [] ?_ ?_
   rotate_left 13
   ·refine dC ?_;refine⟨λy=>⟨_,_,rfl,rfl,.inl ⟨aT,.inr (.inr (af.ev aL 2000 rfl rfl rfl rfl rfl rfl rfl atv atw (cz y)))⟩⟩,dC ?_⟩;refine⟨λy=>⟨_,_,rfl,rfl,.inl ⟨aT,.inr (.inr (af.mz aL (i:=j) 2000 rfl rfl rfl (pj Z bT) (cz y)))⟩⟩,dC ?_⟩;refine⟨λy=>⟨_,_,rfl,rfl,.inl ⟨aT,.inr (.inr (af.ev aL 2000 rfl rfl rfl rfl rfl rfl rfl atv atw (cz y (aa:=Ck atv))))⟩⟩,dC ?_⟩;refine⟨λy=>⟨_,_,rfl,rfl,.inl ⟨aT,.inr (.inr (af.mz aL (i:=j-1) 2000 rfl rfl rfl (pj vB b0) (cz y)))⟩⟩,dC ?_⟩;exact trivial
   intro _
   (conv=>whnf)
   refine go ?_;refine hb (λhc=>?_) (λhc=>?_)
   ·have bi:pm b_ j1 (j-1+1) (j-1)=true:=by
     rw[show j-1+1=j by omega,E0 b_ Z vB];rw[aT]at hc;exact hc
    rw[show j=j-1+1 by omega,vA,atH ⟨by omega,bi⟩,show j-1+1=j by omega]at aC;have MT:((j1.map e).set j (hd dq)).set (j-1) (hd ek)=(oi j1 j (j-1)).map e:=by rw[<-bT,<-b0,Ih Z vB]
    refine' eR [(2000,je v (j1.map e))] 0 (λy=>[_,_,_,_,_,_,_,_,.an (hv v (j-1)),hd dq,_,_,.an (hv v j),hd ek,.an (hv v j),.any,.an (hv v (j-1)),.any]) (λ_=>[(15,2000,some (je v ((j1.map e).set j (hd dq)))),(17,2000,some (je v ((oi j1 j (j-1)).map e)))]) [0,0,0,0,8,0,0,64,224,480,0,0,3072,7168,16355,32739,65535,131071] [(15,2000),(17,2000)] ?_ ?_
    rotate_left 10
    ·refine dC ?_;refine bR (λy=>af.ev aL 2000 rfl rfl rfl rfl rfl rfl rfl atv atw (cz y (aa:=Ck atv))) ?_;refine bR (λy=>af.mz aL (i:=j-1) 2000 rfl rfl rfl (pj vB b0) (cz y)) ?_;refine bR (λy=>af.ev aL 2000 rfl rfl rfl rfl rfl rfl rfl atv atw (cz y)) ?_;refine bR (λy=>af.mz aL (i:=j) 2000 rfl rfl rfl (pj Z bT) (cz y)) ?_;refine bR (λy=>af.ev aL 2000 rfl rfl rfl rfl rfl rfl rfl atv atw (cz y)) ?_;refine bR (λy=>by first|exact af.yk aL (i:=j) 2000 rfl rfl rfl rfl atw rfl cu da (cz y)|exact af.nC aL (i:=j) 2000 rfl rfl rfl rfl atw rfl (cz y)) ?_;refine bR (λy=>af.ev aL 2000 rfl rfl rfl rfl rfl rfl rfl atv atw (cz y (aa:=Ck atv))) ?_;refine bR (λy=>by first|exact af.yk aL (i:=j-1) 2000 rfl rfl rfl rfl atw rfl dI c9 (cz y)|exact af.nC aL (i:=j-1) 2000 rfl rfl rfl rfl atw rfl (cz y)) ?_;exact trivial
    intro _
    (conv=>whnf)
    refine go ?_;exact eX (oi j1 j (j-1),j-1) [(2000,2000)] ⟨by dsimp only;omega,by dsimp only;omega,by rw[EZ];exact aa,aC⟩
   have bi:¬(a<j-1+1/\pm b_ j1 (j-1+1) (j-1)=true):=λh=>by
    have a_:=h.2;rw[show j-1+1=j by omega,E0 b_ Z vB]at a_;rw[aT]at hc;rw[a_]at hc;cases hc
   rw[show j=j-1+1 by omega,vA,atG bi]at aC;subst aC;exact eX (n+1) [(2000,2000)] atv
  have aT:decide ((a:Int)<j)=false:=aug atv
  have aV:j1=q0 b_ a L (n+1):=by
   rw[<-aC]
   cases j with
   |zero=>rfl
   |succ k=>rw[vA,atG (λh=>by omega)]
  refine' eR [(2000,je v (j1.map e))] 0 (λy=>[_,_,_,_,_,_,_,_,_,_,_,_,_,_,_,_,.bool false]) (λ_=>[]) [0,0,3,7,15,15,15,111,239,15,15,1039,3599,7695,16383,32767,65535] [] ?_ ?_
  rotate_left 16
  ·refine dC ?_;refine bR (λy=>af.wZ rfl aT (cz y)) ?_;exact trivial
  intro _
  (conv=>whnf)
  refine go ?_;subst aV;exact eX (n+1) [(2000,2000)] atv
 have ol:n=b-(a+1):=by simp at hc;omega
 subst ol
 exact⟨.bl [],ai,rfl,ba⟩):p:=h
abbrev mc.Ts:=@Tryz.func290
abbrev mc.Tt:=@Tryz.ntmps290
theorem mc.MU(e:b9->D)(ak:∀x,An (e x))(b_:b9->b9->Int)(b6:Nat)(cq:List D)(hcmp:∀x y,aS B b6 (e x::e y::cq) (u (b_ x y)))(v:Value)(L:List b9)(a b:Nat)(G:b<=L.length)(al:L.length<1000000)(ha:a<=b):
  cV B 290 [.an v,u a,u b,.fn (.func b6) [] cq] (aK [(2000,.row v (L.map e) 12 234)]) λd aM=>d=.bl []/\aM=aK [(2000,.row v ((q0 b_ a L (b-(a+1))).map e) 12 234)]:=Tr
section
variable(b_:b9->b9->Int)
def mJ(c:Nat->Bool)(i j:Nat):Nat :=
 if h:i<j then(if c ((i+j)/2)then mJ c ((i+j)/2+1) j else mJ c i ((i+j)/2))else i
termination_by j-i
theorem MV(c:Nat->Bool)(i j:Nat)(h:i<=j):i<=mJ c i j/\mJ c i j<=j:=by
 rw[mJ];split
 ·split
  ·have:=MV c ((i+j)/2+1) j atv;omega
  have:=MV c i ((i+j)/2) atv;omega
 omega
termination_by j-i
def qc(L:List b9)(a:Nat):Nat->List b9
 |0=>L
 |n+1=>oi (qc L a n) (a+n) (a+n+1)
def qd(L:List b9)(m:Nat):Nat->List b9
 |0=>L
 |n+1=>oi (qd L m n) (m-n) (m-n-1)
theorem MW(L:List b9)(a:Nat):∀n,(qc L a n).length=L.length
 |0=>rfl
 |n+1=>by rw[qc,EZ,MW L a n]
theorem MX(L:List b9)(a:Nat):∀n,(qd L a n).length=L.length
 |0=>rfl
 |n+1=>by rw[qd,EZ,MX L a n]
def qe(L:List b9)(a m b:Nat):Nat:=mJ (λc=>!pm b_ L ((a+b)/2+m-1-c) c) (if(a+b)/2<m then(a+b)/2+m-b else a) (if(a+b)/2<m then(a+b)/2 else m)
def pn:Nat->List b9->Nat->Nat->Nat->List b9
 |0,L,_,_,_=>L
 |f+1,L,a,m,b =>
  if m=a+1 then qc L a (mJ (λh=>pm b_ L h a) m b-1-a)
  else if b=m+1 then qd L m (m-mJ (λh=>!pm b_ L m h) a m)
  else
   let d:=(a+b)/2
   let s:=qe b_ L a m b
   let vC:=if s<m/\s<d then pl m L (m-s) (d-s)else L
   let vD:=if a<s/\s<d then pn f vC a s d else vC
   if d<d+m-s/\d+m-s<b then pn f vD d (d+m-s) b else vD
theorem E2:∀(f:Nat) (L:List b9) (a m b:Nat),(pn b_ f L a m b).length=L.length
 |0,_,_,_,_=>rfl
 |f+1,L,a,m,b=>by rw[pn];split;exact MW ..;split;exact MX ..;simp only;repeat (first|rfl|exact Ij ..|rw[E2 f]|split)
def q1(n a:Nat)(L:List b9):List b9 :=
 if h:a+20<=n then q1 n (a+20) (q0 b_ a L 19)else q0 b_ a L (n-(a+1))
termination_by n-a
def s2(n aP a:Nat)(L:List b9):List b9 :=
 if h:a+2*aP<=n/\0<aP then s2 n aP (a+2*aP) (pn b_ (n+1) L a (a+aP) (a+2*aP))
 else if a+aP<n then pn b_ (n+1) L a (a+aP) n else L
termination_by n-a
def ue(n aP:Nat)(L:List b9):List b9 :=
 if h:aP<n/\0<aP then ue n (2*aP) (s2 b_ n aP 0 L)else L
termination_by n-aP
def gi(L:List b9):List b9:=ue b_ L.length 20 (q1 b_ L.length 0 L)
theorem MY(n a:Nat)(L:List b9):(q1 b_ n a L).length=L.length:=by
 rw[q1];split
 ·rw[MY,E1]
 exact E1 ..
termination_by n-a
theorem Ik(n aP a:Nat)(L:List b9):(s2 b_ n aP a L).length=L.length:=by
 rw[s2];split
 ·rw[Ik,E2]
 split
 ·exact E2 ..
 rfl
termination_by n-a
theorem Tu(n aP:Nat)(L:List b9):(ue b_ n aP L).length=L.length:=by
 rw[ue];split
 ·rw[Tu,Ik]
 rfl
termination_by n-aP
theorem adz(L:List b9):(gi b_ L).length=L.length:=by rw[gi,Tu,MY]
end
theorem Il(i j:Nat):Int.fdiv ((i:Int)+(j:Int)) (2 ^ min (Int.toNat 1) (IntKind.bits .u64))=(((i+j)/2:Nat):Int):=by show Int.fdiv ((i:Int)+(j:Int)) 2=_;rw[Int.fdiv_eq_ediv_of_nonneg _ aty];omega
theorem Tv(h:p:=by
 intro f
 induction f with
 |zero=>intro L a m b h;omega
 |succ f aY =>
 intro L a m b M art po eJ al;refine j_ Tw Tx λU=>?_;refine go ?_;refine hb (t:=(m:Int)-a==1) (λhc=>?_) (λhc=>?_)
 ·have hm:m=a+1:=by simp at hc;omega
  refine gn (λx=>m<=x.1/\x.1<=x.2/\x.2<=b/\mJ (λh=>pm b_ L h a) x.1 x.2=mJ (λh=>pm b_ L h a) m b) [0,1,2,3,4] [2000] (λx=>[(10,u x.1),(11,u x.2)]) (λx=>[]) (λx=>x.2-x.1) (m,b) ⟨atP _,by dsimp only;omega,atP _,rfl⟩ [(2000,2000)] ?_;rintro⟨i,j⟩ ⟨h1,z,aa,aC⟩;dsimp only at h1 z aa aC⊢;refine go ?_;refine hb (t:=decide ((i:Int)<j)) (λhc=>?_) (λhc=>?_)
  ·have d7:i<j:=by simpa using hc
   rw[Il];refine go ?_;generalize cy:(i+j)/2=h at*;have yv:h<L.length:=atv
   have pp:a<L.length:=atv
   obtain⟨ek,bT,dI,c9⟩:=ak L[h];obtain⟨dq,b0,cu,da⟩:=ak L[a];have oj:=hcmp L[h] L[a];rw[bT,b0]at oj;have bi:=E0 b_ yv pp;rw[mJ,avv d7,cy,bi]at aC;refine' eR [(2000,je v (L.map e))] 0 (λy=>[_,_,_,.an (hv v (h)),hd ek,_,_,.an (hv v (a)),hd dq,_,_]) (λ_=>[]) [0,0,0,6,14,0,0,96,224,511,1023] [] ?_ ?_
   rotate_left 7
   ·refine dC ?_;refine bR (λy=>af.ev aL 2000 rfl rfl rfl rfl rfl rfl rfl atv atw (cz y)) ?_;refine bR (λy=>af.mz aL (i:=h) 2000 rfl rfl rfl (pj yv bT) (cz y)) ?_;refine bR (λy=>af.ev aL 2000 rfl rfl rfl rfl rfl rfl rfl atv atw (cz y)) ?_;refine bR (λy=>af.mz aL (i:=a) 2000 rfl rfl rfl (pj pp b0) (cz y)) ?_;exact trivial
   intro _
   (conv=>whnf)
   refine go ?_;refine hb (t:=decide (b_ L[h] L[a]<0)) (λhc=>?_) (λhc=>?_)
   ·rw[atH hc]at aC;exact eX (h+1,j) [(2000,2000)] ⟨by dsimp only;omega,by dsimp only;omega,aa,aC⟩
   rw[atG (by simp[hc])]at aC;exact eX (i,h) [(2000,2000)] ⟨h1,by dsimp only;omega,by dsimp only;omega,aC⟩
  have d7:i=j:=by simp at hc;omega
  subst d7;rw[mJ,awQ atv]at aC;refine gn (λn=>n<=i-1-a) [0,1,2,3,4,10] [] (λn=>[(13,u ((a+n:Nat):Int))]) (λn=>[(2000,je v ((qc L a n).map e))]) (λn=>i-n) 0 (at7 _) [(2000,2000)] λn av=>?_;refine go ?_;refine hb (t:=decide (((a+n:Nat):Int)<(i:Int)-1)) (λhc=>?_) (λhc=>?_)
  ·have adA:a+n<i-1:=by simp at hc;omega
   have fg:=MW L a n;have I:a+n<(qc L a n).length:=atv
   have au:a+n+1<(qc L a n).length:=atv
   obtain⟨ek,bT,dI,c9⟩:=ak (qc L a n)[a+n+1];obtain⟨dq,b0,cu,da⟩:=ak (qc L a n)[a+n];have MT:(((qc L a n).map e).set (a+n) (hd ek)).set (a+n+1) (hd dq)=(oi (qc L a n) (a+n) (a+n+1)).map e:=by rw[<-bT,<-b0,Ih I au]
   refine' eR [(2000,je v ((qc L a n).map e))] 0 (λy=>[_,_,_,_,_,_,_,_,.an (hv v (a+n+1)),hd ek,_,_,.an (hv v (a+n)),hd dq,.an (hv v (a+n)),.any,.an (hv v (a+n+1)),.any]) (λ_=>[(15,2000,some (je v (((qc L a n).map e).set (a+n) (hd ek)))),(17,2000,some (je v ((oi (qc L a n) (a+n) (a+n+1)).map e)))]) [0,0,0,0,8,0,0,64,224,480,0,0,3072,7168,16355,32739,65535,131071] [(15,2000),(17,2000)] ?_ ?_
   rotate_left 10
   ·refine dC ?_;refine bR (λy=>af.ev aL 2000 rfl rfl rfl rfl rfl rfl rfl atv atw (cz y)) ?_;refine bR (λy=>af.mz aL (i:=a+n+1) 2000 rfl rfl rfl (pj au bT) (cz y)) ?_;refine bR (λy=>af.ev aL 2000 rfl rfl rfl rfl rfl rfl rfl atv atw (cz y)) ?_;refine bR (λy=>af.mz aL (i:=a+n) 2000 rfl rfl rfl (pj I b0) (cz y)) ?_;refine bR (λy=>af.ev aL 2000 rfl rfl rfl rfl rfl rfl rfl atv atw (cz y)) ?_;refine bR (λy=>by first|exact af.yk aL (i:=a+n) 2000 rfl rfl rfl rfl atw rfl dI c9 (cz y)|exact af.nC aL (i:=a+n) 2000 rfl rfl rfl rfl atw rfl (cz y)) ?_;refine bR (λy=>af.ev aL 2000 rfl rfl rfl rfl rfl rfl rfl atv atw (cz y)) ?_;refine bR (λy=>by first|exact af.yk aL (i:=a+n+1) 2000 rfl rfl rfl rfl atw rfl cu da (cz y)|exact af.nC aL (i:=a+n+1) 2000 rfl rfl rfl rfl atw rfl (cz y)) ?_;exact trivial
   intro _
   (conv=>whnf)
   refine go ?_;exact eX (n+1) [(2000,2000)] atv
  have aX:n=i-1-a:=by simp at hc;omega
  rw[pn,atH hm,<-aC,<-aX];exact⟨.bl [],ai,rfl,ba⟩
 have hm:¬m=a+1:=λh=>by simp at hc;omega
 refine hb (t:=(b:Int)-m==1) (λhc=>?_) (λhc=>?_)
 ·have G:b=m+1:=by simp at hc;omega
  refine gn (λx=>a<=x.1/\x.1<=x.2/\x.2<=m/\mJ (λh=>!pm b_ L m h) x.1 x.2=mJ (λh=>!pm b_ L m h) a m) [0,1,2,3,4] [2000] (λx=>[(14,u x.1),(15,u x.2)]) (λx=>[]) (λx=>x.2-x.1) (a,m) ⟨atP _,by dsimp only;omega,atP _,rfl⟩ [(2000,2000)] ?_;rintro⟨i,j⟩ ⟨h1,z,aa,aC⟩;dsimp only at h1 z aa aC⊢;refine go ?_;refine hb (t:=decide ((i:Int)<j)) (λhc=>?_) (λhc=>?_)
  ·have d7:i<j:=by simpa using hc
   rw[Il];refine go ?_;generalize cy:(i+j)/2=h at*;have yv:h<L.length:=atv
   have pp:m<L.length:=atv
   obtain⟨ek,bT,dI,c9⟩:=ak L[m];obtain⟨dq,b0,cu,da⟩:=ak L[h];have oj:=hcmp L[m] L[h];rw[bT,b0]at oj;have bi:=E0 b_ pp yv;rw[mJ,avv d7,cy,bi]at aC;refine' eR [(2000,je v (L.map e))] 0 (λy=>[_,_,_,.an (hv v (m)),hd ek,_,_,.an (hv v (h)),hd dq,_,_,_]) (λ_=>[]) [0,0,0,6,14,0,0,96,224,511,1023,2047] [] ?_ ?_
   rotate_left 8
   ·refine dC ?_;refine bR (λy=>af.ev aL 2000 rfl rfl rfl rfl rfl rfl rfl atv atw (cz y)) ?_;refine bR (λy=>af.mz aL (i:=m) 2000 rfl rfl rfl (pj pp bT) (cz y)) ?_;refine bR (λy=>af.ev aL 2000 rfl rfl rfl rfl rfl rfl rfl atv atw (cz y)) ?_;refine bR (λy=>af.mz aL (i:=h) 2000 rfl rfl rfl (pj yv b0) (cz y)) ?_;exact trivial
   intro _
   (conv=>whnf)
   refine go ?_;refine hb (t:=!decide (b_ L[m] L[h]<0)) (λhc=>?_) (λhc=>?_)
   ·rw[atH hc]at aC;exact eX (h+1,j) [(2000,2000)] ⟨by dsimp only;omega,by dsimp only;omega,aa,aC⟩
   rw[atG (by simp[hc])]at aC;exact eX (i,h) [(2000,2000)] ⟨h1,by dsimp only;omega,by dsimp only;omega,aC⟩
  have d7:i=j:=by simp at hc;omega
  subst d7;rw[mJ,awQ atv]at aC;refine gn (λn=>n<=m-i) [0,1,2,3,4,14] [] (λn=>[(17,u ((m-n:Nat):Int))]) (λn=>[(2000,je v ((qd L m n).map e))]) (λn=>m-n) 0 (at7 _) [(2000,2000)] λn av=>?_;refine go ?_;refine hb (t:=decide ((i:Int)<((m-n:Nat):Int))) (λhc=>?_) (λhc=>?_)
  ·have adA:i<m-n:=by simp at hc;omega
   have fg:=MX L m n;have I:m-n<(qd L m n).length:=atv
   have au:m-n-1<(qd L m n).length:=atv
   obtain⟨ek,bT,dI,c9⟩:=ak (qd L m n)[m-n-1];obtain⟨dq,b0,cu,da⟩:=ak (qd L m n)[m-n];have MT:(((qd L m n).map e).set (m-n) (hd ek)).set (m-n-1) (hd dq)=(oi (qd L m n) (m-n) (m-n-1)).map e:=by rw[<-bT,<-b0,Ih I au]
   refine' eR [(2000,je v ((qd L m n).map e))] 0 (λy=>[_,_,_,_,_,_,_,_,.an (hv v (m-n-1)),hd ek,_,_,.an (hv v (m-n)),hd dq,.an (hv v (m-n)),.any,.an (hv v (m-n-1)),.any]) (λ_=>[(15,2000,some (je v (((qd L m n).map e).set (m-n) (hd ek)))),(17,2000,some (je v ((oi (qd L m n) (m-n) (m-n-1)).map e)))]) [0,0,0,0,8,0,0,64,224,480,0,0,3072,7168,16355,32739,65535,131071] [(15,2000),(17,2000)] ?_ ?_
   rotate_left 10
   ·refine dC ?_;refine bR (λy=>af.ev aL 2000 rfl rfl rfl rfl rfl rfl rfl atv atw (cz y (aa:=Ck atv))) ?_;refine bR (λy=>af.mz aL (i:=m-n-1) 2000 rfl rfl rfl (pj au bT) (cz y)) ?_;refine bR (λy=>af.ev aL 2000 rfl rfl rfl rfl rfl rfl rfl atv atw (cz y)) ?_;refine bR (λy=>af.mz aL (i:=m-n) 2000 rfl rfl rfl (pj I b0) (cz y)) ?_;refine bR (λy=>af.ev aL 2000 rfl rfl rfl rfl rfl rfl rfl atv atw (cz y)) ?_;refine bR (λy=>by first|exact af.yk aL (i:=m-n) 2000 rfl rfl rfl rfl atw rfl dI c9 (cz y)|exact af.nC aL (i:=m-n) 2000 rfl rfl rfl rfl atw rfl (cz y)) ?_;refine bR (λy=>af.ev aL 2000 rfl rfl rfl rfl rfl rfl rfl atv atw (cz y (aa:=Ck atv))) ?_;refine bR (λy=>by first|exact af.yk aL (i:=m-n-1) 2000 rfl rfl rfl rfl atw rfl cu da (cz y)|exact af.nC aL (i:=m-n-1) 2000 rfl rfl rfl rfl atw rfl (cz y)) ?_;exact trivial
   intro _
   (conv=>whnf)
   refine go ?_;exact eX (n+1) [(2000,2000)] atv
  have aX:n=m-i:=by simp at hc;omega
  rw[pn,atG hm,atH G,<-aC,<-aX];exact⟨.bl [],ai,rfl,ba⟩
 have G:¬b=m+1:=λh=>by simp at hc;omega
 rw[Il];refine go ?_;have N:((a+b)/2)*2<=a+b/\a+b<=((a+b)/2)*2+1:=atv
 rw[pn,atG hm,atG G];have gc:qe b_ L a m b=mJ (λc=>!pm b_ L ((a+b)/2+m-1-c) c) (if(a+b)/2<m then(a+b)/2+m-b else a) (if(a+b)/2<m then(a+b)/2 else m):=rfl;generalize(a+b)/2=d at*;simp only;refine nf (λx:Nat×Nat=>((m<=d/\x.1=a/\x.2=m)\/(d<m/\x.1+b=d+m/\x.2=d))/\qe b_ L a m b=mJ (λc=>!pm b_ L (d+m-1-c) c) x.1 x.2) [0,1,2,3,4,18,19] [2000] (λx=>[(20,u x.1),(21,u x.2)]) (λ_=>[]) ?_ ?_
 ·refine hb (t:=decide ((d:Int)<m)) (λhc=>?_) (λhc=>?_)
  ·have r4:d<m:=by simpa using hc
   rw[atH r4,atH r4]at gc;exact gp (d+m-b,d) [(2000,2000)] ⟨.inr ⟨r4,by dsimp only;omega,rfl⟩,gc⟩
  have r4:¬d<m:=by simpa using hc
  rw[atG r4,atG r4]at gc;exact gp (a,m) [(2000,2000)] ⟨.inl ⟨by omega,rfl,rfl⟩,gc⟩
 rintro⟨gN,gC⟩ ⟨h0,h1⟩;dsimp only at h0 h1⊢;have cg:=MV (λc=>!pm b_ L (d+m-1-c) c) gN gC atv;refine go ?_;refine gn (λx=>gN<=x.1/\x.1<=x.2/\x.2<=gC/\mJ (λc=>!pm b_ L (d+m-1-c) c) x.1 x.2=qe b_ L a m b) [0,1,2,3,4,18,19,22] [2000] (λx=>[(20,u x.1),(21,u x.2)]) (λx=>[]) (λx=>x.2-x.1) (gN,gC) ⟨atP _,by dsimp only;omega,atP _,h1.symm⟩ [(2000,2000)] ?_;rintro⟨i,j⟩ ⟨z,aa,aC,a_⟩;dsimp only at z aa aC a_⊢;refine go ?_;refine hb (t:=decide ((i:Int)<j)) (λhc=>?_) (λhc=>?_)
 ·have d7:i<j:=by simpa using hc
  rw[Il];refine go ?_;generalize cy:(i+j)/2=h at*;have yv:h<L.length:=atv
  have pp:d+m-1-h<L.length:=atv
  obtain⟨ek,bT,dI,c9⟩:=ak L[d+m-1-h];obtain⟨dq,b0,cu,da⟩:=ak L[h];have oj:=hcmp L[d+m-1-h] L[h];rw[bT,b0]at oj;have bi:=E0 b_ pp yv;rw[mJ,avv d7,cy,bi]at a_;refine' eR [(2000,je v (L.map e))] 0 (λy=>[_,_,_,_,_,.an (hv v (d+m-1-h)),hd ek,_,_,.an (hv v (h)),hd dq,_,_,_]) (λ_=>[]) [0,0,0,0,12,30,62,0,0,384,896,2047,4095,8191] [] ?_ ?_
  rotate_left 10
  ·refine dC ?_;refine bR (λy=>af.ev aL 2000 rfl rfl rfl rfl rfl rfl rfl atv atw (cz y (aa:=Ck atv))) ?_;refine bR (λy=>af.mz aL (i:=d+m-1-h) 2000 rfl rfl rfl (pj pp bT) (cz y)) ?_;refine bR (λy=>af.ev aL 2000 rfl rfl rfl rfl rfl rfl rfl atv atw (cz y)) ?_;refine bR (λy=>af.mz aL (i:=h) 2000 rfl rfl rfl (pj yv b0) (cz y)) ?_;exact trivial
  intro _
  (conv=>whnf)
  refine go ?_;refine hb (t:=!decide (b_ L[d+m-1-h] L[h]<0)) (λhc=>?_) (λhc=>?_)
  ·rw[atH hc]at a_;exact eX (h+1,j) [(2000,2000)] ⟨by dsimp only;omega,by dsimp only;omega,aC,a_⟩
  rw[atG (by simp[hc])]at a_;exact eX (i,h) [(2000,2000)] ⟨z,by dsimp only;omega,by dsimp only;omega,a_⟩
 have d7:i=j:=by simp at hc;omega
 subst d7;rw[mJ,awQ atv]at a_;rw[<-a_];clear a_ h1 gc cg;have Ao:i<=m/\i<=d/\a<=i/\d+m-i<=b:=atv
 refine nf (λx=>x=if i<m/\i<d then pl m L (m-i) (d-i)else L) [0,1,2,3,4,18,20,24] [] (λ_=>[]) (λx=>[(2000,je v (x.map e))]) ?_ ?_
 ·refine hb (λhc=>?_) (λhc=>?_)
  ·have eZ:i<m/\i<d:=by revert hc;cases h:decide ((i:Int)<m)<;>simp at h⊢<;>omega
   have X:=Tp (B:=B) e ak v L i m (d+m-i) b6 cq atv atv atv al;rw[show d+m-i-m=d-i by omega]at X;refine ke [(2000,2000)] X ?_;exact gp _ [(2000,2000)] (by rw[atH eZ])
  have eZ:¬(i<m/\i<d):=by revert hc;cases h:decide ((i:Int)<m)<;>simp at h⊢<;>omega
  exact gp _ [(2000,2000)] (by rw[atG eZ])
 intro vC Ty;have kE:vC.length=L.length:=by rw[Ty];split<;>first|rfl|exact Ij ..
 rw[<-Ty];refine go ?_;refine nf (λx=>x=if a<i/\i<d then pn b_ f vC a i d else vC) [0,3,4,18,24] [] (λ_=>[]) (λx=>[(2000,je v (x.map e))]) ?_ ?_
 ·refine hb (λhc=>?_) (λhc=>?_)
  ·have eZ:a<i/\i<d:=by revert hc;cases h:decide ((a:Int)<i)<;>simp at h⊢<;>omega
   refine ke [(2000,2000)] (aY vC a i d atv atv atv atv atv) ?_;exact gp _ [(2000,2000)] (by rw[atH eZ])
  have eZ:¬(a<i/\i<d):=by revert hc;cases h:decide ((a:Int)<i)<;>simp at h⊢<;>omega
  exact gp _ [(2000,2000)] (by rw[atG eZ])
 intro vD vE;have nJ:vD.length=L.length:=by rw[vE];split<;>first|exact kE|rw[E2,kE]
 rw[<-vE];refine go ?_;refine hb (λhc=>?_) (λhc=>?_)
 ·have eZ:d<d+m-i/\d+m-i<b:=by revert hc;cases h:decide ((d:Int)<(d:Int)+m-i)<;>simp at h⊢<;>omega
  rw[atH eZ];refine ke [(2000,2000)] (aY vD d (d+m-i) b atv atv atv atv atv) ?_;exact⟨.bl [],ai,rfl,ba⟩
 have eZ:¬(d<d+m-i/\d+m-i<b):=by revert hc;cases h:decide ((d:Int)<(d:Int)+m-i)<;>simp at h⊢<;>omega
 rw[atG eZ]
 exact⟨.bl [],ai,rfl,ba⟩):p:=h
abbrev mc.Tw:=@Tryz.func291
abbrev mc.Tx:=@Tryz.ntmps291
theorem mc.MZ(e:b9->D)(ak:∀x,An (e x))(b_:b9->b9->Int)(b6:Nat)(cq:List D)(hcmp:∀x y,aS B b6 (e x::e y::cq) (u (b_ x y)))(v:Value):∀(f:Nat) (L:List b9) (a m b:Nat),b-a<f->a<m->m<b->b<=L.length->L.length<1000000->
  cV B 291 [.an v,u a,u m,u b,.fn (.func b6) [] cq] (aK [(2000,.row v (L.map e) 12 234)]) λd aM=>d=.bl []/\aM=aK [(2000,.row v ((pn b_ f L a m b).map e) 12 234)]:=Tv
theorem Tz(h:p:=by
 generalize av:L.length=n at*;refine j_ TA TB λU=>?_;refine go ?_;refine gn (λx:List b9×Nat=>x.2<=n/\x.1.length=n/\q1 b_ n x.2 x.1=q1 b_ n 0 L) [0,1,2,6] [] (λx=>[(7,u x.2),(8,u ((x.2+20:Nat):Int))]) (λx=>[(2000,je v (x.1.map e))]) (λx=>n-x.2) (L,0) ⟨at7 _,av,rfl⟩ [(2000,2000)] ?_;rintro⟨j1,a⟩ ⟨h1,z,aa⟩;dsimp only at h1 z aa⊢;refine go ?_;refine hb (t:=decide (((a+20:Nat):Int)<=n)) (λhc=>?_) (λhc=>?_)
 ·have G:a+20<=n:=by simp at hc;omega
  rw[q1,avv G]at aa;have X:=MU (B:=B) e ak b_ b6 cq hcmp v j1 a (a+20) atv atv atv;rw[show a+20-(a+1)=19 by omega]at X;refine ke [(2000,2000)] X ?_;exact eX (q0 b_ a j1 19,a+20) [(2000,2000)] ⟨G,by rw[E1];exact z,aa⟩
 have G:¬a+20<=n:=by simp at hc;omega
 rw[q1,awQ G]at aa;have X:=MU (B:=B) e ak b_ b6 cq hcmp v j1 a n atv atv atv;rw[aa]at X;refine ke [(2000,2000)] X ?_;have fg:(q1 b_ n 0 L).length=n:=by rw[MY,av]
 have aZ:gi b_ L=ue b_ n 20 (q1 b_ n 0 L):=by rw[gi,av]
 rw[aZ];refine gn (λx:List b9×Nat=>0<x.2/\x.2<=2*n+20/\x.1.length=n/\ue b_ n x.2 x.1=ue b_ n 20 (q1 b_ n 0 L)) [0,1,2] [] (λx=>[(6,u x.2)]) (λx=>[(2000,je v (x.1.map e))]) (λx=>n-x.2) (q1 b_ n 0 L,20) ⟨by dsimp only;omega,by dsimp only;omega,fg,rfl⟩ [(2000,2000)] ?_;rintro⟨vD,aP⟩ ⟨g1,eP,g3,g4⟩;dsimp only at g1 eP g3 g4⊢;refine go ?_;refine hb (t:=decide ((aP:Int)<n)) (λbw=>?_) (λbw=>?_)
 ·have ol:aP<n:=by simpa using bw
  rw[ue,avv ⟨ol,g1⟩]at g4;refine gn (λx:List b9×Nat=>x.2<=n/\x.1.length=n/\s2 b_ n aP x.2 x.1=s2 b_ n aP 0 vD) [0,1,2,6] [] (λx=>[(7,u x.2),(8,u ((x.2+2*aP:Nat):Int))]) (λx=>[(2000,je v (x.1.map e))]) (λx=>n-x.2) (vD,0) ⟨at7 _,g3,rfl⟩ [(2000,2000)] ?_;rintro⟨M0,a⟩ ⟨ce,dn,nK⟩;dsimp only at ce dn nK⊢;refine go ?_;refine hb (t:=decide (((a+2*aP:Nat):Int)<=n)) (λdO=>?_) (λdO=>?_)
  ·have G:a+2*aP<=n:=by simp at dO;omega
   rw[s2,avv ⟨G,g1⟩]at nK;refine ke [(2000,2000)] (MZ e ak b_ b6 cq hcmp v (n+1) M0 a (a+aP) (a+2*aP) atv atv atv atv atv) ?_;exact eX (pn b_ (n+1) M0 a (a+aP) (a+2*aP),a+2*aP) [(2000,2000)] ⟨G,by rw[E2];exact dn,nK⟩
  have G:¬a+2*aP<=n:=by simp at dO;omega
  rw[s2,awQ atv]at nK;refine hb (t:=decide ((a:Int)+aP<n)) (λkf=>?_) (λkf=>?_)
  ·have hm:a+aP<n:=by simp at kf;omega
   rw[atH hm]at nK;have X:=MZ (B:=B) e ak b_ b6 cq hcmp v (n+1) M0 a (a+aP) n atv atv atv atv atv;rw[nK]at X;refine ke [(2000,2000)] X ?_;exact eX (s2 b_ n aP 0 vD,2*aP) [(2000,2000)] ⟨by dsimp only;omega,by dsimp only;omega,by rw[Ik];exact g3,g4⟩
  have hm:¬a+aP<n:=by simp at kf;omega
  rw[atG hm]at nK;subst nK;exact eX (s2 b_ n aP 0 vD,2*aP) [(2000,2000)] ⟨by dsimp only;omega,by dsimp only;omega,by rw[Ik];exact g3,g4⟩
 have ol:¬aP<n:=by simpa using bw
 rw[ue,awQ atv]at g4;rw[<-g4]
 exact⟨.bl [],ai,rfl,ba⟩):p:=h
abbrev mc.TA:=@Tryz.func243
abbrev mc.TB:=@Tryz.ntmps243
theorem mc.TC(e:b9->D)(ak:∀x,An (e x))(b_:b9->b9->Int)(b6:Nat)(cq:List D)(hcmp:∀x y,aS B b6 (e x::e y::cq) (u (b_ x y)))(v:Value)(L:List b9)(al:L.length<400000):
  cV B 243 [.an v,u L.length,.fn (.func b6) [] cq] (aK [(2000,.row v (L.map e) 12 234)]) λd aM=>d=.bl []/\aM=aK [(2000,.row v ((gi b_ L).map e) 12 234)]:=Tz
theorem TD(h:p:=by
 refine j_ TE TF λU=>?_;refine go ?_;refine dD (af.sQ aL 2000 rfl rfl rfl rfl) ?_;have X:=TC (B:=B) e ak b_ b6 cq hcmp v L al;rw[show L.length=(L.map e).length by simp]at X;refine ke [(2000,2000)] X ?_
 exact⟨.bl [],ai,rfl,ba⟩):p:=h
abbrev mc.TE:=@Tryz.func176
abbrev mc.TF:=@Tryz.ntmps176
theorem mc.M1(e:b9->D)(ak:∀x,An (e x))(b_:b9->b9->Int)(b6:Nat)(cq:List D)(hcmp:∀x y,aS B b6 (e x::e y::cq) (u (b_ x y)))(v:Value)(L:List b9)(al:L.length<400000):
  cV B 176 [.an v,.fn (.func b6) [] cq] (aK [(2000,.row v (L.map e) 12 234)]) λd aM=>d=.bl []/\aM=aK [(2000,.row v ((gi b_ L).map e) 12 234)]:=TD
abbrev me.je(v:Value)(xs:List D):aI:=.row v xs 1 3
abbrev me.hv(v:Value)(i:Nat):Value:=h_ v (i*1)
abbrev me.hd(n:Int):D:=u n
def Co(d:D):Prop:=∃n,d=me.hd n/\True/\True
abbrev me.Tk:=@Tryz.func391
abbrev me.Tl:=@Tryz.ntmps391
theorem me.Ii(e:b9->D)(ak:∀x,Co (e x))(v:Value)(L:List b9)(a b n:Nat)(b6:Nat)(cq:List D)(ha:a+n<=L.length)(G:b+n<=L.length)(al:L.length<1000000):
  cV B 391 [.an v,u a,u b,u n,.fn (.func b6) [] cq] (aK [(2000,.row v (L.map e) 1 3)]) λd aM=>d=.bl []/\aM=aK [(2000,.row v ((mI L a b n).map e) 1 3)]:=Tj
abbrev me.Tn:=@Tryz.func378
abbrev me.To:=@Tryz.ntmps378
theorem me.Tp(e:b9->D)(ak:∀x,Co (e x))(v:Value)(L:List b9)(a m b:Nat)(b6:Nat)(cq:List D)(ha:a<m)(G:m<b)(eJ:b<=L.length)(al:L.length<1000000):
  cV B 378 [.an v,u a,u m,u b,.fn (.func b6) [] cq] (aK [(2000,.row v (L.map e) 1 3)]) λd aM=>d=.bl []/\aM=aK [(2000,.row v ((pl m L (m-a) (b-m)).map e) 1 3)]:=Tm
abbrev me.Ts:=@Tryz.func336
abbrev me.Tt:=@Tryz.ntmps336
theorem me.MU(e:b9->D)(ak:∀x,Co (e x))(b_:b9->b9->Int)(b6:Nat)(cq:List D)(hcmp:∀x y,aS B b6 (e x::e y::cq) (u (b_ x y)))(v:Value)(L:List b9)(a b:Nat)(G:b<=L.length)(al:L.length<1000000)(ha:a<=b):
  cV B 336 [.an v,u a,u b,.fn (.func b6) [] cq] (aK [(2000,.row v (L.map e) 1 3)]) λd aM=>d=.bl []/\aM=aK [(2000,.row v ((q0 b_ a L (b-(a+1))).map e) 1 3)]:=Tr
abbrev me.Tw:=@Tryz.func363
abbrev me.Tx:=@Tryz.ntmps363
theorem me.MZ(e:b9->D)(ak:∀x,Co (e x))(b_:b9->b9->Int)(b6:Nat)(cq:List D)(hcmp:∀x y,aS B b6 (e x::e y::cq) (u (b_ x y)))(v:Value):∀(f:Nat) (L:List b9) (a m b:Nat),b-a<f->a<m->m<b->b<=L.length->L.length<1000000->
  cV B 363 [.an v,u a,u m,u b,.fn (.func b6) [] cq] (aK [(2000,.row v (L.map e) 1 3)]) λd aM=>d=.bl []/\aM=aK [(2000,.row v ((pn b_ f L a m b).map e) 1 3)]:=Tv
abbrev me.TA:=@Tryz.func326
abbrev me.TB:=@Tryz.ntmps326
theorem me.TC(e:b9->D)(ak:∀x,Co (e x))(b_:b9->b9->Int)(b6:Nat)(cq:List D)(hcmp:∀x y,aS B b6 (e x::e y::cq) (u (b_ x y)))(v:Value)(L:List b9)(al:L.length<400000):
  cV B 326 [.an v,u L.length,.fn (.func b6) [] cq] (aK [(2000,.row v (L.map e) 1 3)]) λd aM=>d=.bl []/\aM=aK [(2000,.row v ((gi b_ L).map e) 1 3)]:=Tz
abbrev me.TE:=@Tryz.func285
abbrev me.TF:=@Tryz.ntmps285
theorem me.M1(e:b9->D)(ak:∀x,Co (e x))(b_:b9->b9->Int)(b6:Nat)(cq:List D)(hcmp:∀x y,aS B b6 (e x::e y::cq) (u (b_ x y)))(v:Value)(L:List b9)(al:L.length<400000):
  cV B 285 [.an v,.fn (.func b6) [] cq] (aK [(2000,.row v (L.map e) 1 3)]) λd aM=>d=.bl []/\aM=aK [(2000,.row v ((gi b_ L).map e) 1 3)]:=TD
end Go.bS.cp
namespace Go.Proofs
open Go.RowKit Go.Shelf
attribute [local go_sem] Oper.semAt_some
variable{α:Type}
def fP.upto(f:Nat->α)(k:Nat):List α:=(List.range k).map f
theorem fP.TG(f:Nat->α)(k:Nat):fP.upto f (k+1)=fP.upto f k++[f k]:=by simp[fP.upto,ave]
theorem fP.adB(f:Nat->α)(k:Nat):(fP.upto f k).length=k:=by simp[fP.upto]
theorem fP.adC(zs:List atE):fP.upto (λj=>zs[j]?.getD []) zs.length=zs:=by apply au0;simp[fP.upto];intro i h1 z;simp[fP.upto,z]
theorem fP.adD(fY:Fence)(n:Nat)(eV:fY.fn 93)(s3:fY.round=none)(av:1<=n)(l s4 uf oQ b off len cap:Nat)(zs:List atE)(TH:len*16<=140737488351232)(G:b<oQ)(om Im:List atE->World->Prop)
  (E3:∀pre x bo,om pre bo->pre.length<len->YieldAt fY (n-1) Tryz.prog l #[.string ⟨⟨x⟩⟩] bo λe ja =>
   (e=.returned (.bool true)/\om (pre++[x]) ja/\Below oQ bo ja)\/(e=.returned (.bool false)/\Im (pre++[x]) ja))
  (bo:World) (M2:bo.cell? ⟨s4,uf,none⟩=some (.slice (some ⟨b,off,none⟩) len cap)) (hc:∀j,j<len->bo.cell? ⟨b,off+j,none⟩=some (.string ⟨⟨zs[j]?.getD []⟩⟩)) (h0:om [] bo) :
  CallsIn fY n Tryz.prog 93 #[.func (.yield l) #[] #[],.pointer (some ⟨s4,uf,none⟩)] bo λe ja=>(∃v,e=.returned v)/\
   ((∃a',a'=fP.upto (λj=>zs[j]?.getD []) len/\om a' ja)\/(∃pre,(∃k,k<=len/\pre=fP.upto (λj=>zs[j]?.getD []) k)/\Im pre ja)):=by
 refine callsIn_of_wp Tryz.func93 rfl eV ?_ s3;simp only[Tryz.ntmps93,auH,atQ,auf,Nat.reduceAdd,Nat.reduceSub,awC,awD,awU,awI,au4,auO]
 gi_wp2
 gi_loopw [7] (λi wr=>∃k:Nat,k<=len/\i=.int .i64 k/\om (fP.upto (λj=>zs[j]?.getD []) k) wr/\Below oQ bo wr)
  (λi _=>len-(intOf i).toNat)
 case atStart=>exact⟨0,at7 _,rfl,h0,Below.refl _ _⟩
 case round =>
  obtain⟨k,X,rfl,Io,cW⟩:=hrel;have adE:k<len->wr.cell? ⟨b,off+k,none⟩=some (.string ⟨⟨zs[k]?.getD []⟩⟩):=λh=>(cW.cell (p:=⟨b,off+k,none⟩) G).trans (hc k h);by_cases bi:k<len
  ·obtain⟨fn,tmps,assign,body,hy,fG⟩:=E3 _ (zs[k]?.getD []) wr Io (by rw[fP.adB];exact bi);have aru:=adE bi
   gi_wp2
   refine fG.mono ?_;rintro e yw (⟨rfl,adF,M3⟩|⟨rfl,adG⟩)
   ·
    gi_wp2
    go_roundw
    case rel=>exact⟨k+1,by omega,by simp,by rw[fP.TG];exact adF,cW.trans M3⟩
    case measure=>simp[intOf];omega
   gi_wp2
   refine bodyPost_ret (results_none rfl _ _ _) rfl ?_;exact⟨⟨_,rfl⟩,.inr ⟨_,⟨k+1,by omega,(fP.TG _ _).symm⟩,adG⟩⟩
  obtain rfl:k=len:=atv
  gi_wp2
  go_end0
  exact⟨⟨_,rfl⟩,.inl ⟨_,rfl,Io⟩⟩
variable{k:Nat}
theorem fP.adH(zs:List atE)(X:k<=zs.length):fP.upto (λj=>zs[j]?.getD []) k=zs.take k:=by apply au0;simp[fP.upto,X];intro i h1 z;(have:i<zs.length:=by simp[fP.upto]at h1;omega);simp[fP.upto,this]
def fP.E4(oQ:Nat)(bo:World)(nh:Value)(zs:List atE):Prop :=
 ((∃a,nh=.slice a 0 0)/\zs=[])\/∃b off cap,nh=.slice (some ⟨b,off,none⟩) zs.length cap/\b<oQ/\∀j,j<zs.length->bo.cell? ⟨b,off+j,none⟩=some (.string ⟨⟨zs[j]?.getD []⟩⟩)
variable{oQ:Nat}{nh:Value}
theorem fP.E4.below{bA bX:World}(h:Below oQ bA bX){zs:List atE}:fP.E4 oQ bA nh zs->fP.E4 oQ bX nh zs
 |.inl e=>.inl e
 |.inr ⟨b,off,cap,e,G,hc⟩=>.inr ⟨b,off,cap,e,G,λj Z=>(h.cell (p:=⟨b,off+j,none⟩) G).trans (hc j Z)⟩
theorem fP.adI(fY:Fence)(n:Nat)(eV:fY.fn 93)(s3:fY.round=none)(l s4 uf:Nat)(a:Option Addr)(om:List atE->World->Prop)(bo:World)(M2:bo.cell? ⟨s4,uf,none⟩=some (.slice a 0 0))(h0:om [] bo):
  CallsIn fY n Tryz.prog 93 #[.func (.yield l) #[] #[],.pointer (some ⟨s4,uf,none⟩)] bo λe ja=>(∃v,e=.returned v)/\om [] ja:=by
 refine callsIn_of_wp Tryz.func93 rfl eV ?_ s3;simp only[Tryz.ntmps93,auH,atQ,auf,Nat.reduceAdd,Nat.reduceSub,awC,awD,awU,awI,au4,auO]
 gi_wp2
 gi_loopw [7] (λi wr=>i=.int .i64 0/\om [] wr) (λ_ _=>0)
 case atStart=>exact⟨rfl,h0⟩
 case round =>
  obtain⟨rfl,Io⟩:=hrel
  gi_wp2
  go_end0
  exact⟨⟨_,rfl⟩,Io⟩
theorem fP.TI(fY:Fence)(n:Nat)(eV:fY.fn 93)(s3:fY.round=none)(av:1<=n)(s4 uf oQ:Nat)(nh:Value)(zs:List atE)(TH:zs.length*16<=140737488351232)(w:World)(M2:s4<w.heap.size)(adJ:oQ<=w.heap.size)
  (hc:w.cell? ⟨s4,uf,none⟩=some nh) (be:fP.E4 oQ w nh zs) :
  SeqStopsK fY n Tryz.prog 93 #[.pointer (some ⟨s4,uf,none⟩)] (λx:atE=>#[Value.string ⟨⟨x⟩⟩]) (Below oQ) (λa'=>a'=zs) (λpre=>pre <+: zs) zs.length w:=λl om Im bo Ap _ _ E3 h0=>by
 have oo:=(Ap.cell (p:=⟨s4,uf,none⟩) M2).trans hc;rcases be.below (Ap.mono adJ)with⟨⟨a,rfl⟩,rfl⟩|⟨b,off,cap,rfl,G,hcs⟩
 ·exact(fP.adI fY n eV s3 l s4 uf a om bo oo h0).mono λe ja ⟨ak,Z⟩=>⟨ak,.inl ⟨_,rfl,Z⟩⟩
 refine(fP.adD fY n eV s3 av l s4 uf oQ b off zs.length cap zs TH G om Im E3 bo oo hcs h0).mono ?_;rintro e ja ⟨ak,⟨a',rfl,Z⟩|⟨pre,⟨k,X,rfl⟩,Z⟩⟩
 ·exact⟨ak,.inl ⟨_,fP.adC zs,Z⟩⟩
 exact⟨ak,.inr ⟨_,by rw[fP.adH zs X];exact List.take_prefix _ _,Z⟩⟩
open Go.Maps Go.Sort
variable{P:Program}{ρ:Ren}{w0 bo ja:World}
theorem adK{n:Nat}(h:Below n w0 bo)(bq:Below n w0 ja)(hs:bo.heap.size<=ja.heap.size):Below n bo ja :=
 ⟨bq.os.trans h.os.symm,bq.tape.trans h.tape.symm,bq.output.trans h.output.symm,hs,λk X=>(bq.block k X).trans (h.block k X).symm⟩
theorem fP.adL{fY:Fence}{m l:Nat}{x:atE}{om:List atE->World->Prop}{pre:List atE}(Cp:om pre bo)(G:∀s bo,om s bo->Below oQ w0 bo)(h:YieldAt fY m P l #[encStr x] bo λe ja=>e=.returned (.bool true)/\om (pre++[x]) ja/\KeepsWalks bo ja): YieldAt fY m P l #[encStr x] bo λe ja=>(e=.returned (.bool true)/\om (pre++[x]) ja/\Below oQ bo ja)\/(e=.returned (.bool false)/\False):=by obtain⟨fn,tmps,assign,body,hy,fG⟩:=h;exact⟨fn,tmps,assign,body,hy,fG.mono λe w' ⟨h1,z,aa⟩=>.inl ⟨h1,z,adK (G _ _ Cp) (G _ _ z) aa.size⟩⟩
theorem fP.adM(L:SlLaysZ.n11 P ρ)(fY:Fence)(n:Nat)(rY:fY.fn (ρ.f 11))(s3:fY.round=none)(av:2<=n)(g:Nat)(r5:Array Value)(M4:fY.fn g)(eg:∀args w,(callFunc g args).run P w=.ok (.enter g args) w)
  (S oa:List atE->Prop) (bD:Nat) (hN:bD<=maxLen) (Ip:bD*16<=140737488355328) (w:World) (M5:SeqStopsK fY (n-1) P g r5 (λx=>#[encStr x]) (Below w.heap.size) S oa bD w) :
  CallsIn fY n P (ρ.f 11) #[.slice none 0 0,.func (.func g) #[] r5] w λe w'=>∃(v:Value) (cE:List atE),e=.returned v/\S cE/\w'.ownsRow w.heap.size (ρ.t 26) 1 v cE.length (cE.map encStr)/\(v=.slice none 0 0↔cE=[])/\Below w.heap.size w w':=by
 have h1:1<=n:=atv
 have mixed:=L.mixed;have t0:=L.t0;have a0:=L.a0;have z0:=L.z0;have v0:=L.v0;have t24:=L.t24;have a24:=L.a24;have z24:=L.z24;have v24:=L.v24;have t26:=L.t26;have a26:=L.a26;have z26:=L.z26;have v26:=L.v26;have t28:=L.t28;have a28:=L.a28;have z28:=L.z28;have v28:=L.v28
 have aX:ρ.t 24≠ρ.t 26:=λe=>by have h:=L.t24;rw[e,L.t26]at h;cases h
 have u0:=run_underlying L.t0;have u24:=run_underlying L.t24;have u26:=run_underlying L.t26;have u28:=run_underlying L.t28
 obtain⟨_,_,M6⟩:=L.f11;refine callsIn_of_wp_marks M6 rfl rY ?_ s3;simp only[SlBodyZ.n11_ntmps ρ,auH,atQ,auf,Nat.reduceAdd,Nat.reduceSub,awC,awD,awU,awI,au4,auO]
 gi_wp2
 refine wpIn_rangeFunc ?_;intro fn i7;rw[s3];obtain⟨B,Iq⟩:∃B,w.alloc (.cells #[.slice none 0 0] (ρ.t 24))=B:=⟨_,rfl⟩;have dj:B.heap.size=w.heap.size+1:=by rw[<-Iq];simp
 have o':B.heap[w.heap.size]?=some (.cells #[.slice none 0 0] (ρ.t 24) (0,0)):=by rw[<-Iq];exact World.alloc_heap_new w _
 have rR:Below w.heap.size w B:=by rw[<-Iq];exact(Below.refl _ w).alloc (atP _) _
 rw[Iq];obtain⟨vF,Cq⟩:∃vF,(B.alloc (.deferred (some []))).alloc (.loop (AnyZ.apRec ρ fn (.func (.func g) #[] r5) w.heap.size B.heap.size .ready none))=vF:=⟨_,rfl⟩
 have Hs:∀k,k<B.heap.size->vF.heap[k]?=B.heap[k]?:=λk X=>by
  rw[<-Cq];exact(Below.heap_alloc _ _ k atw).trans (Below.heap_alloc _ _ k X)
 have m6:Below w.heap.size w vF:=by rw[<-Cq];exact(rR.alloc rR.size _).alloc (by have:=rR.size;simp;omega) _
 have g6:vF.heap.size=B.heap.size+2:=by rw[<-Cq];simp
 have gL:AnyZ.ApAt ρ w fn (.func (.func g) #[] r5) w.heap.size (B.heap.size+1) B.heap.size [] vF :=
  ⟨⟨_,(Hs w.heap.size atv).trans o',⟨rfl,.inl ⟨rfl,rfl⟩⟩,by simp⟩,
   by rw[<-Cq];have:=World.alloc_heap_new (B.alloc (.deferred (some []))) (.loop (AnyZ.apRec ρ fn (.func (.func g) #[] r5) w.heap.size B.heap.size .ready none));rwa [World.size_alloc]at this,
   by rw[<-Cq];exact(Below.heap_alloc _ _ _ atx).trans (World.alloc_heap_new B _),m6⟩
 refine⟨B.heap.size+1,[{target:=.collected B.heap.size,args:=#[]}],vF,{target:=.fn (.func g) r5,args:=#[.func (.yield (B.heap.size+1)) #[] #[]]},vF,g,
  #[.func (.yield (B.heap.size+1)) #[] #[]]++r5,vF,?_,?_,?_,?_,λ_=>h1,?_⟩
 ·rw[<-Cq];exact run_enterLoop_outer _ _ _ _ _
 ·simp[resolve,go_sem]
 ·intro oq fW;simp[Target.leads]at fW;subst fW;exact M4
 ·simp[invoke,go_sem,eg]
 refine(M5 (B.heap.size+1) (AnyZ.ApAt ρ w fn (.func (.func g) #[] r5) w.heap.size (B.heap.size+1) B.heap.size) (λ_ _=>False) vF m6 (AnyZ.ap_abides ρ _ _ _ _ _ _ _ m6.size) (λ_ _ _ _ hs _ _=>hs)
  (λpre x bo Cp al=>fP.adL Cp (λs bo h=>AnyZ.ApAt.below h)<|AnyZ.apYield {L with} fY (n-1-1) w fn i7 _ w.heap.size (B.heap.size+1) B.heap.size atv atv atv (atP _) atv bD hN Ip pre x bo Cp al) gL).mono ?_
 rintro e TJ ⟨⟨v0,rfl⟩,my⟩;obtain⟨cE,gc,z⟩:=my.resolve_right (λ⟨_,_,M⟩=>M);obtain⟨v,W,dN,pW⟩:=z.box;have sP:=run_endLoop (P:=P) z.L (by simp[AnyZ.apRec]);obtain⟨yw,E5⟩:∃yw,TJ.putObj (B.heap.size+1) (.loop {AnyZ.apRec ρ fn (.func (.func g) #[] r5) w.heap.size B.heap.size .ready none with state:=.exhausted})=yw:=⟨_,rfl⟩;rw[E5]at sP;have Aq:TJ.grownBy yw (some (B.heap.size+1)):=by rw[<-E5];exact grownBy_putObj_a _ _ _
 have Ar:yw.heap[w.heap.size]?=some (.cells #[v] (ρ.t 24) (0,0)):=by rw[<-E5];exact(World.putObj_heap_other atv).trans W
 have TK:yw.heap[B.heap.size]?=some (.deferred (some [])):=by rw[<-E5];exact(World.putObj_heap_other atv).trans z.K
 have TL:=dN.kept Aq (ownsRow_ne_a dN z.L (λfx e=>by first|cases e|exact aX (Obj.cells.inj e).2.1));have Cr:Below w.heap.size w yw:=z.below.grown Aq z.below.size (λk e=>by cases e;omega);obtain⟨dO,yx⟩:=cell_of_box_a Ar;clear E5;refine⟨none,yw,sP,?_⟩
 gi_wp2
 rw[<-dj];refine⟨by simp,.inl ⟨_,_,rfl,run_takeDeferred TK,?_⟩⟩;exact⟨_,results_tmp rfl _ _ _,v,cE,rfl,gc,TL.kept (grownBy_putObj_a _ _ _) (ownsRow_ne_a TL TK (λfx e=>by first|cases e|exact aX (Obj.cells.inj e).2.1)),pW,Cr.grown (grownBy_putObj_a _ _ _) Cr.size (λk e=>by cases e;omega)⟩
theorem fP.TM(L:SlLaysZ.n8 P ρ)(fY:Fence)(n:Nat)(fZ:fY.fn (ρ.f 8))(rY:fY.fn (ρ.f 11))(s3:fY.round=none)(av:3<=n)(g:Nat)(r5:Array Value)(M4:fY.fn g)(eg:∀args w,(callFunc g args).run P w=.ok (.enter g args) w)(S oa:List atE->Prop)(bD:Nat)(hN:bD<=maxLen)(Ip:bD*16<=140737488355328)(w:World)(M5:SeqStopsK fY (n-1-1) P g r5 (λx=>#[encStr x]) (Below w.heap.size) S oa bD w): CallsIn fY n P (ρ.f 8) #[.func (.func g) #[] r5] w λe w'=>∃(v:Value) (cE:List atE),e=.returned v/\S cE/\w'.ownsRow w.heap.size (ρ.t 26) 1 v cE.length (cE.map encStr)/\(v=.slice none 0 0↔cE=[])/\Below w.heap.size w w':=by(have h1:1<=n:=by omega);have TN:∀args w,(callFunc (ρ.f 11) args).run P w=.ok (.enter (ρ.f 11) args) w:=L.f11.enters rfl;have mixed:=L.mixed;have t0:=L.t0;have a0:=L.a0;have z0:=L.z0;have v0:=L.v0;have t24:=L.t24;have a24:=L.a24;have z24:=L.z24;have v24:=L.v24;have t26:=L.t26;have a26:=L.a26;have z26:=L.z26;have v26:=L.v26;have t28:=L.t28;have a28:=L.a28;have z28:=L.z28;have v28:=L.v28;have u0:=run_underlying L.t0;have u24:=run_underlying L.t24;have u26:=run_underlying L.t26;have u28:=run_underlying L.t28;obtain⟨_,_,M6⟩:=L.f8;refine callsIn_of_wp M6 rfl fZ ?_ s3;simp only[SlBodyZ.n8_ntmps ρ,auH,atQ,auf,Nat.reduceAdd,Nat.reduceSub,awC,awD,awU,awI,au4,auO];gi_wp2_with (gi_at_fn (ρ.f 11);refine(fP.adM {L with} fY (n-1) rY s3 atv g r5 M4 eg S oa bD hN Ip _ M5).mono ?_;rintro e w' ⟨v,cE,rfl,gc,dN,pW,G⟩);go_ret;exact⟨v,cE,rfl,gc,dN,pW,G⟩
end Go.Proofs
namespace Go.bS
open Go Go.RowKit Go.MapKept
variable{P:Program}{B:World}{am:Nat}{A:aw}{dst:Option Tmp}{K:aw->Prop}{ay:List bx}{s:Nat}
theorem af.adN{t:TypeId}(hK:∀b,K ((A.b2 s (some (.b' b (.map #[] 0)))).put (some s) (.an (.map (some b))))):af P B am A (some s) (.makeMap t none) K :=
 .val λU w C a M type pos after=>by
  refine⟨.map (some w.heap.size),_,_,_,_,?_,M.newObj s (mA:=.b' w.heap.size (.map #[] 0)) (o:=.map #[] 0) ⟨kB w _,ht _ _ _⟩ (λb G=>G),.an _,hK _⟩;simp[execOp,Instr.makeMap,Result.andThen]
end Go.bS
