/- Contracts of the program's functions, part 3. No conditions of its own. -/
import Derived.Test.YtfnpcdbnoggloaaGreatDoorL2
import Derived.RangeFuncBox
import Derived.RangeFuncLeaves
import Derived.Shelf.Abstract
import Derived.WalkKit
import Derived.OwnWalkIn
import Derived.TacticsInMore
import Derived.LoopNIn
import Derived.LoopIn
import Derived.Test.YtfnpcdbnoggloaaGreatDoorProg
import Derived.Shelf.SlIter.Collect
import Derived.RangeFuncKeeps
set_option linter.unnecessarySimpa false
set_option linter.unusedSimpArgs false
set_option linter.unusedVariables false
set_option maxRecDepth 100000
set_option maxHeartbeats 16000000
namespace Go.bS
open Go Go.RowKit
variable{P:Program}{B:World}{am:Nat}
theorem aq.uZ{d:D}:aq .undef (.l7 false d):=⟨λ_ _ _ h=>by rw[h.abm];exact .uZ _⟩
variable{α:Type}
def H8(eu:α->Prop)(l:α->List (Nat×D))(hs:α->List (Nat×aI))(fv:α->Nat)(x:α)(K:cM->av->Prop):cM->av->Prop
 |.normal,z=>∃b0 m,eu b0/\fv b0<fv x/\nV z (l b0) (hs b0) m
 |.exit id,z=>K (.exit id) z
 |.ret,z=>K .ret z
theorem X.H8{U:b8 P B am}{z:av}{K:cM->av->Prop}{c:Code}{α:Type}{eu:α->Prop}(l:α->List (Nat×D))(hs:α->List (Nat×aI))(fv:α->Nat)(ez:α)(i0:eu ez)(m:List (Nat×Nat))(h1:nV z (l ez) (hs ez) m)
  (round:∀x,eu x->X U c (hn (l x) (hs x)) (Go.bS.H8 eu l hs fv x K)):X U (.loop c) z K :=
 X.ec (α:={x // eu x}) (λx=>l x.1) (λx=>hs x.1) (λx=>fv x.1) ⟨ez,i0⟩ m h1 λx=>(round x.1 x.2).mono λe az h=>by
  cases e with
  |normal=>obtain⟨b0,wG,h1,A,Z⟩:=h;exact⟨⟨b0,h1⟩,wG,A,Z⟩
  |exit id=>exact h
  |ret=>exact h
end Go.bS
namespace Go.bS.cj
open Go Go.Proofs
variable{B:World}{am id:Nat}{ops:Array Oper}{z:av}{K:cM->av->Prop}{α:Type}
theorem eJ{U:b8 Tryz.prog B am}(dt:List (Nat×aI))(ez:α)
  (R:α->List D) (dU:α->List (Nat×Nat×Option aI)) (ap:List Nat) (S:List (Nat×Nat)) (step:En ap S z.t dt R dU Tryz.prog B am ay ops ops.toList 0) (pi:∀x,K .normal (BM z.t dt R dU ops x))
  (gd:(wQ am ops.toList 0&&(BL ops.toList&&(BK ap ops.toList 0&&x' ap ops.size S)))=true:=by decide +kernel)
  (gV:∀x,mm (dU x)=S:=by exact λ_=>rfl) (h0:mP z dt:=by repeat (first|exact trivial|refine⟨rfl,?_⟩)):X U (.region id ops true) z K:=X.acS aM mixed dt ez R dU ap S gd gV h0 step pi
variable{p:Prop}
theorem dw{a7:Prop}(q:a7)(f:lg a7->p:=by
 intro ht
 (try conv=>whnf)
 repeat (first
  |(refine⟨λy => .inl ?_,?_⟩
    ·(conv=>whnf)
     repeat (first
      |exact .refl _
      |(refine And.intro rfl ?_;conv=>whnf)
      |(refine And.intro trivial ?_;conv=>whnf)
      |(refine sP (λh=>axz) ?_;conv=>whnf)
      |(refine sP (axz) ?_;conv=>whnf)
      |(refine⟨_,λh=>zZ rfl asZ,?_⟩;conv=>whnf)
      |(refine⟨_,λ_=>rfl,?_⟩;conv=>whnf)
      |(refine And.intro (λh=>h) ?_;conv=>whnf)
      |(refine And.intro (λh=>by first|omega|(simp at*;omega)) ?_;conv=>whnf)
      |(refine⟨_,_,λ_=>by assumption,i_,?_⟩;conv=>whnf))
    (try conv=>whnf))
  |(refine⟨λy => ⟨_,_,rfl,rfl,.inl ⟨by assumption,.inl ?_⟩⟩,?_⟩
    ·(conv=>whnf)
     repeat (first
      |exact .refl _
      |(refine And.intro rfl ?_;conv=>whnf)
      |(refine And.intro trivial ?_;conv=>whnf)
      |(refine sP (λh=>axz) ?_;conv=>whnf)
      |(refine sP (axz) ?_;conv=>whnf)
      |(refine⟨_,λh=>zZ rfl asZ,?_⟩;conv=>whnf)
      |(refine⟨_,λ_=>rfl,?_⟩;conv=>whnf)
      |(refine And.intro (λh=>h) ?_;conv=>whnf)
      |(refine And.intro (λh=>by first|omega|(simp at*;omega)) ?_;conv=>whnf)
      |(refine⟨_,_,λ_=>by assumption,i_,?_⟩;conv=>whnf))
    (try conv=>whnf))
  |(refine⟨λy => ⟨_,_,rfl,rfl,.inr (.inl ⟨by first|assumption|(show _ = false;assumption)|(show _ = true;assumption),rfl,?_⟩)⟩,?_⟩
    ·exact .refl _
    (try conv=>whnf))
  |(refine⟨λy => ⟨_,_,rfl,rfl,.inr (.inr ?_)⟩,?_⟩
    ·(conv=>whnf)
     repeat (first
      |exact .refl _
      |(refine And.intro rfl ?_;conv=>whnf)
      |(refine And.intro trivial ?_;conv=>whnf)
      |(refine sP (λh=>axz) ?_;conv=>whnf)
      |(refine sP (axz) ?_;conv=>whnf)
      |(refine⟨_,λh=>zZ rfl asZ,?_⟩;conv=>whnf)
      |(refine⟨_,λ_=>rfl,?_⟩;conv=>whnf)
      |(refine And.intro (λh=>h) ?_;conv=>whnf)
      |(refine And.intro (λh=>by first|omega|(simp at*;omega)) ?_;conv=>whnf)
      |(refine⟨_,_,λ_=>by assumption,i_,?_⟩;conv=>whnf))
    (try conv=>whnf)))
 exact ht.cn):p:=f ⟨q⟩
variable{R:α->List D}{i:Nat}{dst:Option Tmp}{az:av}
theorem dT{ap:List Nat}{S:List (Nat×Nat)}{dt:List (Nat×aI)}{dU:α->List (Nat×Nat×Option aI)}{x:α}(b0:α)
  (h1:sN ap i 0 (R b0)=sN ap i 0 (R x):=by exact rfl) (A:vk ap i (dU b0)=vk ap i (dU x):=by exact rfl) (Z:HP dst az ((R b0).getD i .any):=by first|exact .refl _|exact trivial|exact sQ) (aD:wR i az (dU b0):=by
   (conv=>whnf);repeat (first|exact trivial|(refine⟨H4,?_⟩;conv=>whnf))) (bc:ya S i az (fY (aK dt) ap S (dU x) i) (dt.map (·.1)++S.map (·.2)):=by
   (conv=>whnf);repeat (first|exact trivial|(refine And.intro rfl ?_;conv=>whnf))):jQ ap S dt R dU x i dst az:=⟨b0,h1,A,Z,aD,bc⟩
theorem cl{ap:List Nat}{S:List (Nat × Nat)}{dt:List (Nat × aI)}{dU:α->List (Nat × Nat × Option aI)}(x : α)(Z : HP dst az ((R x).getD i .any) := by first|exact .refl _|exact trivial|exact sQ)(aD : wR i az (dU x) := by
      (conv=>whnf);repeat (first|exact trivial|(refine⟨H4,?_⟩;conv=>whnf))) (bc:ya S i az (fY (aK dt) ap S (dU x) i) (dt.map (·.1)++S.map (·.2)):=by
      (conv=>whnf);repeat (first|exact trivial|(refine And.intro rfl ?_;conv=>whnf))):jQ ap S dt R dU x i dst az:=⟨x,rfl,rfl,Z,aD,bc⟩
variable{es:Prop}
theorem bJ{a b c:α->Prop}{a7:Prop}(h:∀y,c y)(q:a7)(f:lg a7->es:=by intro ht;refine dw ?_;exact ht.cn):(∀y,a y\/(b y\/c y))/\es:=⟨λy=>.inr (.inr (h y)),f ⟨q⟩⟩
theorem yg{a b c:α->Prop}{a7:Prop}(h:∀y,b y)(q:a7)(f:lg a7->es:=by intro ht;refine dw ?_;exact ht.cn):(∀y,a y\/(b y\/c y))/\es:=⟨λy=>.inr (.inl (h y)),f ⟨q⟩⟩
theorem HB{a7:Prop}(q:a7)(f:lg a7->p:=by
 intro ht;refine⟨λy=>.inr (.inl ?_),?_⟩
 ·(conv=>whnf)
  intro iF;exact dT iF
 refine dw ?_
 exact ht.cn):p:=f ⟨q⟩
theorem vs{a7:Prop}(q:a7)(f:lg a7->p:=by
 intro ht;refine⟨λy=>.inr (.inl ?_),?_⟩
 ·(conv=>whnf)
  apply cB;exact cl y
 refine dw ?_
 exact ht.cn):p:=f ⟨q⟩
theorem dN{v H9 a7:Prop}(c:H9->es)(q:a7)(f:lg a7->H9:=by exact axF):v\/es:=.inr (c (f ⟨q⟩))
variable{v:Value}{j k:Nat}
theorem BZ(h:i=j):aq (.al (g7 v (i*k))) (.al (g7 v (j*k))):=.of_eq (by rw[h])
theorem bD{bw a7:Prop}{a b:α->Prop}(y:α)(h:a y)(q:a7)(f:lg a7->b y:=by exact axF):∃y,(bw->a y)/\b y:=⟨y,λ_=>h,f ⟨q⟩⟩
theorem MI{bw bV C:Prop}{K a7:Value->Prop}(h1:bw)(A:bV)(q:∀v,a7 v)(Z:C:=by exact λh=>by cases h)(f:∀v,lg (a7 v)->K v:=by intro v ht;(conv=>whnf);refine go ?_;exact ht.cn):bw/\bV/\C/\∀v,K v:=⟨h1,A,Z,λv=>f v ⟨q v⟩⟩
theorem vo{U:b8 Tryz.prog B am}{a7:Prop}(q:a7)(gd:Ho ops=true:=by decide +kernel)(f:lg a7->jJ Tryz.prog B ay am ops ops.toList z (K .normal):=by exact axF):X U (.region id ops true) z K:=X.u_ aM mixed gd (f ⟨q⟩)
variable{c:Code}{cQ:List (Nat×aI)}
theorem fZ{U:b8 Tryz.prog B am}(eu:α->Prop)(hr wA:List Nat)(l:α->List (Nat×D))(hs:α->List (Nat×aI))(fv:α->Nat)(ez:α)(i0:eu ez)(m:List (Nat×Nat)){L:List (Nat×D)}
  (round:∀x,eu x->X U c (hn (L++l x) (cQ++hs x)) (H8 eu (λx=>L++l x) (λx=>cQ++hs x) fv x K)) (aW:t1 z hr L:=by exact ye) (hO:yd z wA cQ:=by exact ye)
  (h1:nV z (L++l ez) (cQ++hs ez) m:=by exact⟨cP,rfl,cP⟩):X U (.loop c) z K:=X.H8 (λx=>L++l x) (λx=>cQ++hs x) (λx=>fv x) ez i0 m h1 round
variable{eu:α->Prop}{fv:α->Nat}
theorem eK{l:α->List (Nat×D)}{hs:α->List (Nat×aI)}{x:α}(b0:α)(m:List (Nat×Nat))(hp:eu b0)(h1:fv b0<fv x:=by(try dsimp only);omega)(A:nV z (l b0) (hs b0) m:=by exact⟨cP,rfl,cP⟩):
  ∃b0 m,eu b0/\fv b0<fv x/\nV z (l b0) (hs b0) m:=⟨b0,m,hp,h1,A⟩
def adl(eu:α->Prop)(l:α->List (Nat×D))(hs:α->List (Nat×aI))(K:cM->av->Prop):cM->av->Prop
 |.normal,z=>∃x m,eu x/\nV z (l x) (hs x) m
 |.exit id,z=>K (.exit id) z
 |.ret,z=>K .ret z
theorem m6{U:b8 Tryz.prog B am}{a b:Code}(eu:α->Prop)(hr wA:List Nat)(l:α->List (Nat×D))(hs:α->List (Nat×aI)){L:List (Nat×D)}
  (h:X U a z (adl eu (λx=>L++l x) (λx=>cQ++hs x) K)) (bz:∀x,eu x->X U b (hn (L++l x) (cQ++hs x)) K) (aW:t1 z hr L:=by exact ye) (hO:yd z wA cQ:=by exact ye):X U a z (zi U b K) :=
 h.mono λe az Y=>by
  cases e with
  |normal=>obtain⟨x,m,I,h1⟩:=Y;exact(bz x I).fb _ _ m h1
  |exit id=>exact Y
  |ret=>exact Y
theorem gn{l:α->List (Nat×D)}{hs:α->List (Nat×aI)}(b0:α)(m:List (Nat×Nat))(hp:eu b0)(A:nV z (l b0) (hs b0) m:=by exact⟨cP,rfl,cP⟩):∃b0 m,eu b0/\nV z (l b0) (hs b0) m:=⟨b0,m,hp,A⟩
theorem g_{U:b8 Tryz.prog B am}{c:Operand}{x y:Code}{t:Bool}{bw bV:Prop}(h1:t=true->bw)(A:t=false->bV)(hc:z.ba c=.bool t:=by exact rfl)(oN:lg bw->X U x z K:=by exact ax3)
  (wP:lg bV->X U y z K:=by exact ax3):X U (.cond c x y) z K:=X.cond t hc (λh=>oN ⟨h1 h⟩) λh=>wP ⟨A h⟩
theorem cb{U:b8 Tryz.prog B am}{c:Operand}{x y:Code}{t:Bool}(h1:t=true->X U x z K)(A:t=false->X U y z K)(hc:z.ba c=.bool t:=by exact rfl):X U (.cond c x y) z K:=X.cond t hc h1 A
theorem wU{U:b8 Tryz.prog B am}{c:Operand}{x y:Code}{t:Bool}{bw:Prop}(h:t=true)(q:bw)(hc:z.ba c=.bool t:=by exact rfl)(oN:lg bw->X U x z K:=by exact ax3):X U (.cond c x y) z K:=X.cond t hc (λ_=>oN ⟨q⟩) λbz=>by rw[h]at bz;cases bz
theorem B0{U:b8 Tryz.prog B am}{c:Operand}{x y:Code}{t:Bool}{bw:Prop}(h:t=false)(q:bw)(hc:z.ba c=.bool t:=by exact rfl)(oN:lg bw->X U y z K:=by exact ax3):X U (.cond c x y) z K:=X.cond t hc (λbz=>by rw[h]at bz;cases bz) λ_=>oN ⟨q⟩
variable{d:D}
theorem n_{l:List α}{e:α->D}{V:Nat}(h:i<l.length)(N:e l[i]=d)(bH:V=i:=by first|rfl|omega):(l.map e)[V]?=some d:=by subst bH;simp[h,N]
end Go.bS.cj
namespace Go.bS
open Go Go.RowKit
variable{P:Program}{B:World}{am:Nat}{z:av}{dst:Option Tmp}{op:Op}{sz:av->Prop}
theorem af.adm{K:av->Prop}(h:af P B am z dst op sz)(Y:∀(U:b8 P B am) (w:World) (C:Nat->Nat) (a:Act) (az:av),bI U w C az a->sz az->K az):af P B am z dst op K :=
 ⟨λU w C a M N type pos after a7=>Oper.wp_mono (λbv w' ⟨az,aQ,h1,A⟩=>⟨az,aQ,Y U w' aQ bv az A h1,A⟩) (h.run U w C a M N type pos after a7)⟩
variable{t jR:Nat}{x y:Operand}{v:Value}{xs:List D}{aR:as8}{cc aF:bx}
theorem af.adn{ay:List bx}(hT:dh P ay){bD s:Nat}(q:Nat){K:av->Prop}(au:dv ay t=some cc)(b5:cc.kind=.slice bD)(fr:dv ay bD=some aF)(bH:aF.zero≠none)(h1:aF.aB=1)
  (qY:P.underlying jR=some .string) (I:z.ba x=.al v) (hH:z.H q=some (.row v xs 1 bD)) (hy:z.ba y=.O aR) (me:(xs.length+aR.length)*aF.bytes<=140737488355328) (mR:xs.length+aR.length<=9223372036854775807)
  (hK:∀a n cap,K (((z.b6 q none).b6 s (some (.row (.slice a n cap) (xs++aR.map λc=>D.int .u8 c.toNat) 1 bD))).put (some s) (.al (.slice a n cap)))):af P B am z (some s) (.call ⟨.builtin .append,#[x,y],#[t,jR]⟩) K :=
 af.adm (sz:=λaz=>∃c',az=((z.b6 q none).b6 s (some (.row c' (xs++aR.map λc=>D.int .u8 c.toNat) 1 bD))).put (some s) (.al c')) (.ac0 hT q au b5 fr bH h1 qY I hH hy me mR λc'=>⟨c',rfl⟩) λU w C a az M ⟨c',ao⟩=>by
  subst ao;have:=M.heap.ch s (.row c' (xs++aR.map λc=>D.int .u8 c.toNat) 1 bD) (by rw[DQ];exact qL ..);obtain⟨dF,cap,rfl,_⟩:=this;exact hK _ _ _
theorem X.zU{U:b8 P B am}{z:av}{K:cM->av->Prop}{c:Code}(s q:Nat){o:aI}(hs:z.H s=some o)(h:X U c ((z.b6 s none).b6 q (some o)) K):X U c z K:=⟨λa w C M=>h.run a w C (M.zU hs)⟩
variable{args:Array Operand}{mU:Array TypeId}{b7:FuncId}{ct:List D}{hs:List (Nat×aI)}
theorem af.EH{K:av->Prop}{f:Operand}{first:List D}(M:z.ba f=.fn (.func b7) first ct)
  (g5:List D) (m:List (Nat×Nat)) {c9:List (Nat×aI)} {gU:D} (h:yb z.H m hs) (hc:c7 P B b7 g5 (aK hs) λd aO=>d=gU/\aO=aK c9) (hm:j4 m=true) (dS:dK (first++args.toList.map z.ba++ct) g5)
  (hK:K (({t:=z.t,H:=qO z.H (aK c9) m}:av).put dst gU)):af P B am z dst (.call ⟨.value f,args,mU⟩) K :=
 af.call M g5 m (c7.wT h hc) hm dS λd aO G=>by
  obtain⟨rfl,rfl⟩:=G;exact⟨_,.refl _,hK⟩
variable{α:Type}{eu:α->Prop}{c9:α->List (Nat×aI)}{gU:α->D}
theorem af.yh{K:av->Prop}{f:Operand}{first:List D}(M:z.ba f=.fn (.func b7) first ct)
  (g5:List D) (m:List (Nat×Nat))      (h:yb z.H m hs) (hc:c7 P B b7 g5 (aK hs) λd aO=>∃x,eu x/\d=gU x/\aO=aK (c9 x)) (hm:j4 m=true) (dS:dK (first++args.toList.map z.ba++ct) g5)
  (hK:∀x,eu x->K (({t:=z.t,H:=qO z.H (aK (c9 x)) m}:av).put dst (gU x))):af P B am z dst (.call ⟨.value f,args,mU⟩) K :=
 af.call M g5 m (c7.wT h hc) hm dS λd aO G=>by
  obtain⟨x,I,rfl,rfl⟩:=G;exact⟨_,.refl _,hK x I⟩
variable{fC:Operand}{aA:List D}{D7:IntKind}{qK:TypeInfo}{d:D}
theorem af.ado{K:av->Prop}{bD n:Nat}{i:Int}(an:P.underlying t=some (.array n bD))(hi:P.info? bD=some qK)(hsz:qK.size=1)(kP:wx P bD=some false)
  (I:z.ba x=.agg aA) (rU:z.ba fC=.int D7 i) (h0:0<=i) (h1:i<n) (N:aA[i.toNat]?=some d) (hK:K (z.put dst d)):af P B am z dst (.index t x fC) K :=
 .val λU w C a M type pos after=>by
  have bJ:=cI M.tmps x;rw[I]at bJ
  obtain⟨vs,fU,ae⟩:=bJ.tx;have u5:=cI M.tmps fC;rw[rU]at u5
  have bi:i.toNat<vs.length:=by rw[<-ae.1];exact e9 N
  refine⟨vs[i.toNat],w,C,z,d,?_,M,ae.2 _ _ _ N (ata bi),hK⟩;simp[execOp,Instr.index,asIntOf,fU,u5.fu,run_underlying an,h0,h1,zr hi,hsz,part,Hb kP,bi,Result.andThen]
end Go.bS
namespace Go.bS.cj
open Go Go.Proofs
variable{B:World}{p:Prop}
theorem r0(h:p:=by repeat (first|exact trivial|(refine⟨rfl,H4,?_⟩))):p:=h
variable{am:Nat}{z:av}{dst:Option Tmp}{args:Array Operand}{mU:Array TypeId}{b7:FuncId}{ct g5:List D}{hs:List (Nat×aI)}{α:Type}{eu:α->Prop}{c9:α->List (Nat×aI)}{gU:α->D}
theorem sR{v:Prop}{K:av->Prop}{f:Operand}{first:List D}(m:List (Nat×Nat))
  (hc:c7 Tryz.prog B b7 g5 (aK hs) λd aO=>∃x,eu x/\d=gU x/\aO=aK (c9 x)) {a7:α->Prop} (q:∀x,eu x->a7 x) (M:z.ba f=.fn (.func b7) first ct:=by exact rfl) (h:yb z.H m hs:=by exact r0) (hm:j4 m=true:=by exact rfl) (dS:dK (first++args.toList.map z.ba++ct) g5:=by exact i_)
  (g:∀x,lg (a7 x)->K (({t:=z.t,H:=qO z.H (aK (c9 x)) m}:av).put dst (gU x)):=by intro x ht;(conv=>whnf);refine go ?_;exact ht.cn):v\/af Tryz.prog B am z dst (.call ⟨.value f,args,mU⟩) K:=.inr (af.yh M g5 m h hc hm dS λx I=>g x ⟨q x I⟩)
theorem mn{v a7:Prop}{K:av->Prop}{f:Operand}{first:List D}(m:List (Nat×Nat)){c9:List (Nat×aI)}{gU:D}
  (hc:c7 Tryz.prog B b7 g5 (aK hs) λd aO=>d=gU/\aO=aK c9) (q:a7) (M:z.ba f=.fn (.func b7) first ct:=by exact rfl) (h:yb z.H m hs:=by exact r0) (hm:j4 m=true:=by exact rfl) (dS:dK (first++args.toList.map z.ba++ct) g5:=by exact i_)
  (g:lg a7->K (({t:=z.t,H:=qO z.H (aK c9) m}:av).put dst gU):=by exact axF):v\/af Tryz.prog B am z dst (.call ⟨.value f,args,mU⟩) K:=.inr (af.EH M g5 m h hc hm dS (g ⟨q⟩))
def yi(H:bF):List (Nat×aI)->Prop
 |[]=>True
 |(k,o)::r=>H k=some o/\yi H r
theorem yi.get{H:bF}:∀{l:List (Nat×aI)},yi H l->∀j o,aK l j=some o->H j=some o
 |[],_,_,_,h=>by cases h
 |(k,x)::r,h,j,o,ad=>by simp only[aK]at ad;cases F:Nat.beq j k with|true=>rw[F]at ad;have:=atx F;subst this;simp at ad;subst ad;exact h.1|false=>rw[F]at ad;exact yi.get h.2 j o ad
variable{f:FuncId}{body:Code}{ds:List D}
theorem ko{fn:Func}{H:bF}{gU:D}{c9:List (Nat×aI)}(M:Tryz.prog.funcs[f]?=some fn)(p1:fn.ntmps=am)(h:∀U:b8 Tryz.prog B am,X U body (entry ds H) (D3 ay fn.results.toList λd aO=>d=gU/\yi aO c9))
  (F : fn.body = some body := by exact rfl) (ax : (fn.name == "runtime.NumGoroutine") = false := by decide +kernel) (aj : Nat.ble ds.length am = true := by exact rfl) : c7 Tryz.prog B f ds H λd aO => d = gU/\aO = aK c9 :=
 c7.sub (yf M p1 h F ax aj) λd aO ⟨h1,A⟩=>⟨aK c9,λj o ad=>A.get j o ad,h1,rfl⟩
theorem z7{fn:Func}{H:bF}(M:Tryz.prog.funcs[f]?=some fn)(p1:fn.ntmps=am)(h:∀U:b8 Tryz.prog B am,X U body (entry ds H) (D3 ay fn.results.toList λd aO=>∃x,eu x/\d=gU x/\yi aO (c9 x)))
  (F : fn.body = some body := by exact rfl) (ax : (fn.name == "runtime.NumGoroutine") = false := by decide +kernel) (aj : Nat.ble ds.length am = true := by exact rfl) : c7 Tryz.prog B f ds H λd aO => ∃x,eu x/\d = gU x/\aO = aK (c9 x) :=
 c7.sub (yf M p1 h F ax aj) λd aO ⟨x,h0,h1,A⟩=>⟨aK (c9 x),λj o ad=>A.get j o ad,x,h0,h1,rfl⟩
theorem Tc{p:List (Nat×D)->List (Nat×aI)->Prop}(l:List (Nat×D))(hs:List (Nat×aI))(m:List (Nat×Nat))(q:p l hs)(h:nV z l hs m:=by exact⟨cP,rfl,cP⟩):∃l hs m,nV z l hs m/\p l hs:=⟨l,hs,m,h,q⟩
end Go.bS.cj
namespace Go.bS
open Go Go.RowKit
variable{P:Program}{B:World}{am:Nat}
def li(jS H:bF):bF:=λk=>match jS k with|some o=>some o|none=>H k
variable{U:b8 P B am}{c:Code}{z:av}{K:cM->av->Prop}
theorem X.frame(vl jS:bF)(h1:∀k o,vl k=some o->z.H k=some o)(A:∀k o,jS k=some o->z.H k=some o)(N:∀k o bL,vl k=some o->jS k=some bL->False)
  (h:∀iE:b8 P B am,X iE c {t:=z.t,H:=vl} λe az=>K e {t:=az.t,H:=li jS az.H}):X U c z K :=
 ⟨λa w C M=>by
  let iE:b8 P B am:={w0:=w,C0:=C,Ft:=λb=>∃k x,vl k=some x/\x.ef b,base:=M.base,low:=λb ⟨k,x,h,an⟩=>U.Dt (M.heap.cN k x b (h1 k x h) an)}
  have fV:bI iE w C {t:=z.t,H:=vl} a:=⟨M.tmps,⟨λk x h=>M.heap.ch k x (h1 k x h),λs bq x y b ax g1 fx=>M.heap.inj s bq x y b ax (h1 s x g1) (h1 bq y fx),λk x b h an=>.inl ⟨k,x,h,an⟩⟩,M.size,M.defers,da.refl _ _ _⟩
  have El:∀b,iE.pQ b->U.pQ b:=λb h=>by
   rcases h with⟨k,x,h,an⟩|h
   ·exact M.heap.cN k x b (h1 k x h) an
   exact .inr (auC M.step.ext.size h)
  have BJ:∀k x b,jS k=some x->x.ef b->b<w.heap.size/\¬iE.Ft b:=λk x b I an=>by
   refine⟨(M.heap.ch k x (A k x I)).lt an,λ⟨bB,b0,h,cW⟩=>?_⟩;have a6:bB≠k:=λe=>by subst e;exact N bB b0 x h I
   exact M.heap.inj bB k b0 x b a6 (h1 bB b0 h) (A k x I) cW an
  refine wp_mono ((h iE).run a w C fV) λe bv w' ⟨c8,az,aQ,ao,hK,bM⟩=>⟨c8,_,aQ,ao,hK,?_⟩
  have H_:∀{k x},li jS az.H k=some x->jS k=some x\/(jS k=none/\az.H k=some x):=λ{k x} I=>by
   unfold li at I
   cases Y:jS k with
   |some o=>rw[Y]at I;exact .inl I
   |none=>rw[Y]at I;exact .inr ⟨rfl,I⟩
  have apart:∀s x y b,jS s=some x->x.ef b->∀bq,az.H bq=some y->y.ef b->False:=λs x y b ah an bq hy cW=>by
   have:=BJ s x b ah an;rcases bM.heap.cN bq y b hy cW with h|h
   ·exact this.2 h
   have Z:=this.1;change w.heap.size<=b at h;omega
  refine⟨bM.tmps,⟨λk x I=>?_,λs bq x y b ax I hy an cW=>?_,λk x b I an=>?_⟩,bM.size,bM.defers,M.step.trans bM.step λb F zS=>?_⟩
  ·rcases H_ I with ah|⟨_,ah⟩
   ·exact(M.heap.ch k _ (A k _ ah)).iv bM.step.ext λb F=>by
     have:=BJ k _ b ah F;exact bM.step.iv b this.1 this.2
   exact bM.heap.ch k x ah
  ·rcases H_ I with ah|⟨_,ah⟩<;>rcases H_ hy with tY|⟨_,tY⟩
   ·exact M.heap.inj s bq _ _ b ax (A s _ ah) (A bq _ tY) an cW
   ·exact apart s x y b ah an bq tY cW
   ·exact apart bq y x b tY cW s ah an
   exact bM.heap.inj s bq x y b ax ah tY an cW
  ·rcases H_ I with ah|⟨_,ah⟩
   ·exact M.heap.cN k _ b (A k _ ah) an
   exact El b (bM.heap.cN k x b ah an)
  rcases El b (.inl zS)with h|h
  ·exact h
  omega⟩
theorem X.adp(H:bF)(f7:Nat->Nat)(hi:∀k bB o bL,H k=some o->H bB=some bL->f7 k=f7 bB->k=bB)(hH:∀k o,H k=some o->z.H (f7 k)=some o)
  (h:X U c {t:=z.t,H:=H} K):X U c z K :=
 ⟨λa w C M=>h.run a w C ⟨M.tmps,⟨λs o ah=>M.heap.ch (f7 s) o (hH s o ah),λs bq o bL b ax Z aD=>M.heap.inj (f7 s) (f7 bq) o bL b (λe=>ax (hi s bq o bL Z aD e)) (hH s o Z) (hH bq bL aD),
  λs o b ah=>M.heap.cN (f7 s) o b (hH s o ah)⟩,M.size,M.defers,M.step⟩⟩
def lV(H:bF)(gD:Nat):bF:=λk=>bif Nat.beq k gD then none else H k
def qa(H:bF):Prop:=∀k o,H k=some o->10000<=k
def sS:List (Nat×aI)->Bool
 |[]=>true
 |(k,_)::r=>Nat.blt k 10000&&sS r
theorem vp:∀{aZ:List (Nat×aI)},sS aZ=true->∀{k:Nat} {o:aI},aK aZ k=some o->k<10000
 |[],_,_,_,h=>by cases h
 |(i,x)::r,aj,k,o,h=>by simp only[sS,atd]at aj;simp only[aK]at h;cases F:Nat.beq k i with|true=>have:=atx F;subst this;exact atH aj.1|false=>rw[F]at h;exact vp aj.2 h
def EI(l:List (Nat×D))(aZ:List (Nat×aI))(cv:bF):av:=rR l (cU aZ cv)
variable{aZ:List (Nat×aI)}{cv:bF}{f0:aI}
theorem X.B1{l:List (Nat×D)}(q gD:Nat)(a1:sS aZ=true)(cG:qa cv)(Y:cv gD=some f0)(G:aK aZ q=none)(lj:q<10000)(h:∀iE:b8 P B am,X iE c (hn l ((q,f0)::aZ)) λe az=>K e {t:=az.t,H:=li (lV cv gD) az.H}):X U c (EI l aZ cv) K:=by have jT:=cG gD f0 Y;refine X.adp (λk=>bif Nat.beq k q then some f0 else cU aZ (lV cv gD) k) (λk=>bif Nat.beq k q then gD else k) (λk bB o bL g1 fx e=>?_) (λk o ah=>?_) ?_;(have bi:∀k o,(bif Nat.beq k q then some f0 else cU aZ (lV cv gD) k)=some o->k≠gD:=λk o g e=>by subst e;have:Nat.beq k q=false:=auZ asZ;rw[this]at g;simp only[aun,cU]at g;cases hs:aK aZ k with|some x=>have:=vp a1 hs;omega|none=>rw[hs]at g;simp only[lV,auB,auS]at g;cases g);cases F:Nat.beq k q<;>cases qN:Nat.beq bB q<;>rw[F,qN]at e<;>simp only[auS,aun]at e;exact e;exact absurd e (bi k o g1);exact absurd e.symm (bi bB bL fx);rw[atx F,atx qN];(cases F:Nat.beq k q with|true =>rw[F]at ah;simp only[auS]at ah⊢;cases ah;show cU aZ cv gD=some f0;unfold cU;(cases hs:aK aZ gD with|some x=>have:=vp a1 hs;omega|none=>exact Y)|false =>rw[F]at ah;simp only[aun]at ah⊢;show cU aZ cv k=some o;unfold cU at ah⊢;(cases hs:aK aZ k with|some x=>rw[hs]at ah;exact ah|none =>rw[hs]at ah;simp only[lV]at ah;(cases g6:Nat.beq k gD with|true=>rw[g6]at ah;cases ah|false=>rw[g6]at ah;exact ah)));refine X.frame (aK ((q,f0)::aZ)) (lV cv gD) (λk o ah=>?_) (λk o ah=>?_) (λk o bL g1 fx=>?_) h;simp only[aK]at ah;show(bif Nat.beq k q then some f0 else cU aZ (lV cv gD) k)=some o;(cases F:Nat.beq k q with|true=>rw[F]at ah;exact ah|false=>rw[F]at ah;simp only[aun]at ah⊢;unfold cU;rw[ah]);(have Z:10000<=k:=by simp only[lV]at ah;cases g6:Nat.beq k gD with|true=>rw[g6]at ah;cases ah|false=>rw[g6]at ah;exact cG k o ah);show(bif Nat.beq k q then some f0 else cU aZ (lV cv gD) k)=some o;rw[auZ (by omega:k≠q)];simp only[aun,cU];(cases hs:aK aZ k with|some x=>have:=vp a1 hs;omega|none=>exact ah);(have Z:10000<=k:=by simp only[lV]at fx;cases g6:Nat.beq k gD with|true=>rw[g6]at fx;cases fx|false=>rw[g6]at fx;exact cG k bL fx);simp only[aK]at g1;rw[auZ (by omega:k≠q)]at g1;have:=vp a1 (show aK aZ k=some o from g1);omega
theorem X.qZ{l:List (Nat×D)}(a1:sS aZ=true)(cG:qa cv)(h:∀iE:b8 P B am,X iE c (hn l aZ) λe az=>K e {t:=az.t,H:=li cv az.H}):X U c (EI l aZ cv) K:=by refine X.frame (aK aZ) cv (λk o ah=>?_) (λk o ah=>?_) (λk o bL g1 fx=>?_) h;show cU aZ cv k=some o;unfold cU;rw[ah];show cU aZ cv k=some o;unfold cU;(cases hs:aK aZ k with|some x=>have:=vp a1 hs;have:=cG k o ah;omega|none=>exact ah);have:=vp a1 g1;have:=cG k bL fx;omega
def yj(mo:Nat):List (Nat×Nat)->Bool
 |[]=>true
 |(_,s)::r=>Nat.blt s 10000&&(!Nat.beq s mo&&yj mo r)
theorem MJ{mo:Nat}:∀{m:List (Nat×Nat)},yj mo m=true->∀{k s:Nat},(k,s)∈m->s<10000/\s≠mo
 |(i,x)::r,h,k,s,hm=>by simp only[yj,atd]at h;rcases atu.1 hm with e|e;cases e;exact⟨atH h.1,λe=>by subst e;have:=h.2.1;simp at this⟩;exact MJ h.2.2 e
theorem EJ:∀{m:List (Nat×Nat)},j4 m=true->∀{k s:Nat},(k,s)∈m->aK m k=some s
 |(i,x)::r,h,k,s,hm=>by simp only[j4,atd]at h;simp only[aK];rcases atu.1 hm with e|e;cases e;simp;have:=at0.1 h.1 (k,s) e;simp only[atd]at this;(have A:Nat.beq k i=false:=by simpa using this.1);rw[A];exact EJ h.2 e
variable{az:av}
theorem fM.wV{jS:bF}{l:List (Nat×D)}(m:List (Nat×Nat))(gD mo:Nat)(jT:10000<=gD)(MK:mo<10000)(h1:jI az l)(hm:j4 m=true)(fY:tO az m aZ)(a1:sS aZ=true)(gB:yj mo m=true)(G:az.H mo=some f0)(EK:qa jS)(N:∀k o,cv k=some o->10000<=k/\((k=gD/\o=f0)\/(k≠gD/\jS k=some o))):fM {t:=az.t,H:=li jS az.H} l (cU aZ cv):=by(have H':∀k,k<10000->jS k=none:=λk Y=>by cases h:jS k with|none=>rfl|some o=>have:=EK k o h;omega);(have sT:∀{k o},cU aZ cv k=some o->(k<10000/\∃s,(k,s)∈m/\aK m k=some s/\s<10000/\s≠mo/\az.H s=some o)\/(10000<=k/\cv k=some o):=λ{k o} h=>by unfold cU at h;cases hs:aK aZ k with|some x =>rw[hs]at h;cases h;obtain⟨s,g',ah⟩:=fY.aK k _ hs;have:=MJ gB g';exact .inl ⟨vp a1 hs,s,g',EJ hm g',this.1,this.2,ah⟩|none=>rw[hs]at h;exact .inr ⟨(N k o h).1,h⟩);(have au:jI {t:=az.t,H:=li jS az.H} l:=axl);refine⟨au,λk=>if k<10000 then(aK m k).getD k else if k=gD then mo else k,λk bB o bL g1 fx e=>?_,λk o g=>?_⟩;rcases sT g1 with⟨Y,s,g',aj,hq,jn,_⟩|⟨Y,tI⟩<;>rcases sT fx with⟨fD,bq,ML,mM,adq,adr,_⟩|⟨fD,ads⟩;simp only[Y,fD,aum,aj,mM,at7]at e;exact(wF hm k s bB bq g' ML).2 e;simp only[Y,aum,aj,at7,as9 (by omega:¬bB<10000)]at e;split at e;exact absurd e jn;omega;simp only[fD,aum,mM,at7,as9 (by omega:¬k<10000)]at e;split at e;exact absurd e.symm adr;omega;simp only[as9 (by omega:¬k<10000),as9 (by omega:¬bB<10000)]at e;split at e<;>split at e<;>omega;rcases sT g with⟨Y,s,g',aj,hq,_,ah⟩|⟨Y,tI⟩;simp only[Y,aum,aj,at7];show li jS az.H s=some o;unfold li;rw[H' s hq];exact ah;simp only[as9 (by omega:¬k<10000)];rcases(N k o tI).2 with⟨rfl,rfl⟩|⟨a6,A⟩;rw[as_ rfl];show li jS az.H mo=some o;unfold li;rw[H' mo MK];exact G;rw[as9 a6];show li jS az.H k=some o;unfold li;rw[A]
theorem fM.pl{l:List (Nat×D)}(m:List (Nat×Nat))(h1:jI az l)(hm:j4 m=true)(fY:tO az m aZ)(a1:sS aZ=true)(gB:yj 10000 m=true)(cG:qa cv):fM {t:=az.t,H:=li cv az.H} l (cU aZ cv):=by(have H':∀k,k<10000->cv k=none:=λk Y=>by cases h:cv k with|none=>rfl|some o=>have:=cG k o h;omega);(have sT:∀{k o},cU aZ cv k=some o->(k<10000/\∃s,(k,s)∈m/\aK m k=some s/\s<10000/\az.H s=some o)\/(10000<=k/\cv k=some o):=λ{k o} h=>by unfold cU at h;cases hs:aK aZ k with|some x =>rw[hs]at h;cases h;obtain⟨s,g',ah⟩:=fY.aK k _ hs;have:=MJ gB g';exact .inl ⟨vp a1 hs,s,g',EJ hm g',this.1,ah⟩|none=>rw[hs]at h;exact .inr ⟨cG k o h,h⟩);(have au:jI {t:=az.t,H:=li cv az.H} l:=axl);refine⟨au,λk=>if k<10000 then(aK m k).getD k else k,λk bB o bL g1 fx e=>?_,λk o g=>?_⟩;rcases sT g1 with⟨Y,s,g',aj,hq,_⟩|⟨Y,tI⟩<;>rcases sT fx with⟨fD,bq,ML,mM,adq,_⟩|⟨fD,ads⟩;simp only[Y,fD,aum,aj,mM,at7]at e;exact(wF hm k s bB bq g' ML).2 e;simp only[Y,aum,aj,at7,as9 (by omega:¬bB<10000)]at e;omega;simp only[fD,aum,mM,at7,as9 (by omega:¬k<10000)]at e;omega;simp only[as9 (by omega:¬k<10000),as9 (by omega:¬bB<10000)]at e;exact e;rcases sT g with⟨Y,s,g',aj,hq,ah⟩|⟨Y,tI⟩;simp only[Y,aum,aj,at7];show li cv az.H s=some o;unfold li;rw[H' s hq];exact ah;simp only[as9 (by omega:¬k<10000)];show li cv az.H k=some o;unfold li;rw[tI]
variable{α:Type}
def Ia(eu:α->Prop)(l:α->List (Nat×D))(aZ:α->List (Nat×aI))(cv:α->bF)(fv:α->Nat)(x:α)(K:cM->av->Prop):cM->av->Prop
 |.normal,z=>∃b0,eu b0/\fv b0<fv x/\fM z (l b0) (cU (aZ b0) (cv b0))
 |.exit id,z=>K (.exit id) z
 |.ret,z=>K .ret z
theorem X.Ia{U:b8 P B am}{z:av}{K:cM->av->Prop}{c:Code}{α:Type}{eu:α->Prop}(l:α->List (Nat×D))(aZ:α->List (Nat×aI))(cv:α->bF)(fv:α->Nat)(ez:α)(i0:eu ez)(h1:fM z (l ez) (cU (aZ ez) (cv ez)))
  (round:∀x,eu x->X U c (EI (l x) (aZ x) (cv x)) (Go.bS.Ia eu l aZ cv fv x K)):X U (.loop c) z K :=
 X.HI (α:={x // eu x}) (λx=>l x.1) (λx=>cU (aZ x.1) (cv x.1)) (λx=>fv x.1) ⟨ez,i0⟩ h1 λx=>(round x.1 x.2).mono λe az h=>by
  cases e with
  |normal=>obtain⟨b0,h1,A,Z⟩:=h;exact⟨⟨b0,h1⟩,A,Z⟩
  |exit id=>exact h
  |ret=>exact h
variable{m:List (Nat×Nat)}
theorem fM.adt{l:List (Nat×D)}(h:nV z l aZ m):fM z l (cU aZ λ_=>none):=by refine⟨h.t,λk=>(aK m k).getD k,λk bB o bL g1 fx e=>?_,λk o g=>?_⟩;(have sT:∀{k o},cU aZ (λ_=>none) k=some o->∃s,(k,s)∈m/\aK m k=some s:=λ{k o} bz=>by unfold cU at bz;cases hs:aK aZ k with|some x=>obtain⟨s,g',_⟩:=h.h.aK k _ hs;exact⟨s,g',EJ h.ok g'⟩|none=>rw[hs]at bz;cases bz);obtain⟨s,h1,A⟩:=sT g1;obtain⟨bq,lW,vq⟩:=sT fx;simp only[A,vq,at7]at e;exact(wF h.ok k s bB bq h1 lW).2 e;unfold cU at g;cases hs:aK aZ k with|some x =>rw[hs]at g;cases g;obtain⟨s,g',ah⟩:=h.h.aK k _ hs;simp only[EJ h.ok g',at7];exact ah|none=>rw[hs]at g;cases g
end Go.bS
namespace Go.bS.cj
open Go Go.Proofs
variable{B:World}{am:Nat}{z:av}{K:cM->av->Prop}{c:Code}{b:Nat}{aA:List D}
theorem iG{U:b8 Tryz.prog B am}(s j k:Nat)(x:D)(h:X U c {t:=λi=>_root_.cond (Nat.beq i j) (.a8 k [x] 0 0) (z.t i),H:=λi=>_root_.cond (Nat.beq i s) none (z.H i)} K)(ad:z.t j=.box s b 0:=by exact rfl)(hs:z.H s=some (.box b aA):=by exact rfl)(I:x.cells=aA:=by exact rfl)(Y:x.cells.length=k:=by exact rfl)(d9:aA.all D.one=true:=by exact rfl):X U c z K:=by subst Y;refine X.BF s j x ad hs I d9 ?_;rw[<-I];exact h
variable{α:Type}{cQ:List (Nat×aI)}
theorem z8{U:b8 Tryz.prog B am}(eu:α->Prop)(hr wA:List Nat)(l:α->List (Nat×D))(aZ:α->List (Nat×aI))(cv:α->bF)(fv:α->Nat)(ez:α)(i0:eu ez){L:List (Nat×D)}
  (round:∀x,eu x->X U c (EI (L++l x) (cQ++aZ x) (cv x)) (Ia eu (λx=>L++l x) (λx=>cQ++aZ x) cv fv x K)) (aW:t1 z hr L:=by exact ye) (hO:yd z wA cQ:=by exact ye) (h1:fM z (L++l ez) (cU (cQ++aZ ez) (cv ez))):X U (.loop c) z K :=
 X.Ia (λx=>L++l x) (λx=>cQ++aZ x) cv fv ez i0 h1 round
variable{eu:α->Prop}{fv:α->Nat}
theorem yk{l:α->List (Nat×D)}{aZ:α->List (Nat×aI)}{cv:α->bF}{x:α}(b0:α)(hp:eu b0)(A:fM z (l b0) (cU (aZ b0) (cv b0)))(h1:fv b0<fv x:=by(try dsimp only);omega):∃b0,eu b0/\fv b0<fv x/\fM z (l b0) (cU (aZ b0) (cv b0)):=⟨b0,hp,h1,A⟩
theorem wV{az:av}{jS cv:bF}{l:List (Nat×D)}{aZ:List (Nat×aI)}(m:List (Nat×Nat))(gD mo:Nat){f0:aI}(jT:10000<=gD)(EK:qa jS)(N:∀k o,cv k=some o->10000<=k/\((k=gD/\o=f0)\/(k≠gD/\jS k=some o)))(MK:mo<10000:=by decide)(G:az.H mo=some f0:=by exact rfl)(h1:jI az l:=by exact cP)(hm:j4 m=true:=by exact rfl)(fY:tO az m aZ:=by exact cP)(a1:sS aZ=true:=by exact rfl)(gB:yj mo m=true:=by exact rfl):
  fM {t:=az.t,H:=li jS az.H} l (cU aZ cv):=fM.wV m gD mo jT MK h1 hm fY a1 gB G EK N
theorem pl{az:av}{cv:bF}{l:List (Nat×D)}{aZ:List (Nat×aI)}(m:List (Nat×Nat))(cG:qa cv)(h1:jI az l:=by exact cP)(hm:j4 m=true:=by exact rfl)(fY:tO az m aZ:=by exact cP)(a1:sS aZ=true:=by exact rfl)(gB:yj 10000 m=true:=by exact rfl):
  fM {t:=az.t,H:=li cv az.H} l (cU aZ cv):=fM.pl m h1 hm fY a1 gB cG
end Go.bS.cj
namespace Go.bS
open Go Go.RowKit Go.MapKept
variable{P:Program}{B:World}{am:Nat}{z:av}{dst:Option Tmp}{K:av->Prop}{ay:List bx}
def m7:TypeDesc->D->Bool
 |.string,.O _=>true
 |.int k,.int bB _=>pR k bB
 |.bool,.bool _=>true
 |_,_=>false
def oO:D->D->Bool
 |.O a,.O b=>a==b
 |.int _ a,.int _ b=>a==b
 |.bool a,.bool b=>a==b
 |_,_=>false
def j7(cy:List (D×D))(k:D):Option D:=(cy.find? λx=>oO x.1 k).map (·.2)
def nw(cy:List (D×D))(k d:D):List (D×D) :=
 match j7 cy k with
 |some _=>cy.map λx=>if oO x.1 k then(x.1,d)else x
 |none=>cy++[(k,d)]
variable{c8:TypeDesc}
theorem EL{k:D}(h:m7 c8 k=true):∃v,mN k=some v/\IsKey c8 v:=by unfold m7 at h;split at h;exact⟨_,rfl,trivial⟩;exact⟨_,rfl,(Ha h).symm⟩;exact⟨_,rfl,trivial⟩;cases h
theorem Td{k:D}(h:m7 c8 k=true):(c8=.string/\∃s,k=.O s)\/(∃q n,c8=.int q/\k=.int q n)\/(c8=.bool/\∃b,k=.bool b):=by unfold m7 at h;split at h;exact .inl ⟨rfl,_,rfl⟩;have:=Ha h;subst this;exact .inr (.inl ⟨_,_,rfl,rfl⟩);exact .inr (.inr ⟨rfl,_,rfl⟩);cases h
theorem B2{k bB:D}(h:m7 c8 k=true)(bz:m7 c8 bB=true):oO k bB=true↔mN k=mN bB:=by(rcases Td h with⟨rfl,s,rfl⟩|⟨q,n,rfl,rfl⟩|⟨rfl,s,rfl⟩<;>rcases Td bz with⟨e,bq,rfl⟩|⟨rF,hX,e,rfl⟩|⟨e,bq,rfl⟩<;>first|(cases e;done)|skip);simp[oO,mN];cases e;simp[oO,mN];simp[oO,mN]
variable{w:World}{C:Nat->Nat}{v ak:Value}
theorem MM{k:D}(h:mN k=some ak)(ae:bh w C k v):v=ak:=by(cases k<;>simp only[mN]at h<;>first|(cases h;done)|(simp only[atQ]at h;subst h));exact ae.hW;exact ae.fu;exact ae.kM
variable{cy:List (D×D)}{d:D}
theorem Te{k:D}(h:j7 cy k=some d):∃(i:Nat) (bB:D),cy[i]?=some (bB,d)/\oO bB k=true:=by unfold j7 at h;cases M:cy.find? λx=>oO x.1 k with|none=>rw[M]at h;cases h|some x =>rw[M]at h;cases h;obtain⟨i,hi⟩:=atz.1 (av' M);have:=List.find?_some M;exact⟨i,x.1,hi,this⟩
theorem Tf{k:D}(h:j7 cy k=none):∀x∈cy,oO x.1 k=false:=by unfold j7 at h;rw[awi,auY]at h;intro x I;simpa using h x I
variable{b:Nat}
theorem A'.find{k:D}{dT:Value}(Y:m7 c8 k=true)(lk:mN k=some dT)(b5:∀x∈cy,m7 c8 x.1=true)(h:A' w C b cy):∃eF iU,w.heap[b]?=some (.map eF iU)/\C b=0/\eF.size=cy.length/\(∀(i:Nat) k d e,cy[i]?=some (k,d)->eF[i]?=some e->mN k=some e.key/\bh w C d e.val)/\(∀(i j:Nat) k bB d d',cy[i]?=some (k,d)->cy[j]?=some (bB,d')->mN k=mN bB->i=j)/\((j7 cy k=none/\Instr.findNow c8 dT eF.toList 0=some none)\/∃j bB d e,j7 cy k=some d/\cy[j]?=some (bB,d)/\mN bB=some dT/\eF[j]?=some e/\e.key=dT/\Instr.findNow c8 dT eF.toList 0=some (some (j,e.val))/\bh w C d e.val):=by obtain⟨eF,iU,F,df,aj,ax,ae⟩:=h;refine⟨eF,iU,F,df,aj,ae,ax,?_⟩;(have n9:IsKey c8 dT:=by obtain⟨v,h1,A⟩:=EL Y;rw[lk]at h1;cases h1;exact A);(have hC:∀x∈eF.toList,IsKey c8 x.key:=λx I=>by obtain⟨i,hi⟩:=atz.1 I;rw[auE]at hi;(have bi:i<cy.length:=by rw[<-aj];exact(auW.1 hi).1);obtain⟨h1,_⟩:=ae i cy[i].1 cy[i].2 x (by simp[bi]) hi;obtain⟨v,A,Z⟩:=EL (b5 cy[i] (ate bi));rw[h1]at A;cases A;exact Z);rcases findNow_spec n9 eF.toList 0 hC with⟨h1,A⟩|⟨j,e,h1,A,Z⟩;left;refine⟨?_,h1⟩;(cases aV:j7 cy k with|none=>rfl|some d =>exfalso;obtain⟨i,bB,hi,ao⟩:=Te aV;have bi:=(atI.1 hi).1;(have qb:eF[i]?=some eF[i]:=by simp[aj,bi]);obtain⟨aD,_⟩:=ae i bB d _ hi qb;rw[B2 (b5 _ (atr hi)) Y,aD,lk]at ao;exact A _ as1 (at3 ao));right;rw[atT]at h1;(have MN:eF[j]?=some e:=by rw[<-auE];exact A);(have bi:j<cy.length:=by rw[<-aj];exact(auW.1 MN).1);(have ad:cy[j]?=some (cy[j].1,cy[j].2):=by simp[bi]);obtain⟨aD,bc⟩:=ae j _ _ e ad MN;rw[Z]at aD;cases aV:j7 cy k with|none =>exfalso;have:=Tf aV cy[j] (ate bi);rw[(B2 (b5 _ (ate bi)) Y).2 (by rw[aD,lk])]at this;cases this|some d =>obtain⟨i,bB,hi,ao⟩:=Te aV;rw[B2 (b5 _ (atr hi)) Y,lk]at ao;have d6:=ax i j bB _ d _ hi ad (by rw[ao,aD]);subst d6;rw[hi]at ad;(have b':d=cy[i].2:=by simpa using as' (λx=>(x.map Prod.snd)) ad);exact⟨i,bB,d,e,rfl,hi,ao,MN,Z,h1,by rw[b'];exact bc⟩
theorem af.t6{t:TypeId}{s:Nat}(hK:∀b,K ((z.b6 s (some (.mp b []))).put (some s) (.al (.map (some b))))):af P B am z (some s) (.makeMap t none) K :=
 .val λU w C a M type pos after=>by
  refine⟨.map (some w.heap.size),_,_,_,_,?_,M.newObj s (mV:=.mp w.heap.size []) (o:=.map #[] 0) ⟨#[],0,kR w _,hB _ _ _,rfl,λi j k bB d d' h=>by simp at h,λi k d e h=>by simp at h⟩ (λb F=>F),.al _,hK _⟩;simp[execOp,Instr.makeMap,Result.andThen]
variable{dV ek:TypeId}{x:Operand}{ok:Bool}
theorem af.Ib{t:TypeId}{m:Operand}(s:Nat){k:D}(hm:P.underlying t=some (.map dV ek))(N:P.underlying dV=some c8)
  (I:z.ba m=.al (.map (some b))) (hs:z.H s=some (.mp b cy)) (G:z.ba x=k) (Y:m7 c8 k=true) (b5:∀x∈cy,m7 c8 x.1=true) (aV:j7 cy k=some d)
  (hK:K (z.put dst (if ok then .bo [d,.bool true]else d))):af P B am z dst (.lookup t m x ok) K :=
 .val λU w C a M type pos after=>by
  have oH:=cI M.tmps m;rw[I]at oH
  have fU:=cI M.tmps x;rw[G]at fU
  obtain⟨dT,lk,n9⟩:=EL Y;have B3:=MM lk fU;obtain⟨eF,iU,F,df,aj,ae,ax,hc⟩:=A'.find Y lk b5 (M.heap.ch s _ hs);rcases hc with⟨h1,_⟩|⟨j,bB,d',e,h1,A,Z,aD,bc,cL,eV⟩
  ·rw[aV]at h1;cases h1
  rw[aV]at h1;cases h1
  refine⟨if ok then .tuple #[e.val,.bool true]else e.val,w,C,z,_,?_,M,?_,hK⟩
  ·simp only[execOp,oH.gb,B3,Instr.lookup,Sem.run_bind,run_underlying hm,Result.andThen,Go.MapKept.run_getObj_map F,Sem.run_pure,run_checkKey N n9,run_findKey N cL]
  cases ok with
  |true=>exact .bo [d,.bool true] [e.val,.bool true] rfl (λi q v G W=>by
    match i,G,W with
    |0,G,W=>simp at G W;subst G;subst W;exact eV
    |1,G,W=>simp at G W;subst G;subst W;exact .bool _
    |n+2,G,W=>simp at G)
  |false=>exact eV
variable{ei:Value}
theorem af.MO{t:TypeId}{m:Operand}(s:Nat){k V:D}(hm:P.underlying t=some (.map dV ek))(N:P.underlying dV=some c8)
  (I:z.ba m=.al (.map (some b))) (hs:z.H s=some (.mp b cy)) (G:z.ba x=k) (Y:m7 c8 k=true) (b5:∀x∈cy,m7 c8 x.1=true) (aV:j7 cy k=none)
  (bH:∀w,(zeroValue ek).run P w=.ok ei w) (jK:∀w C,bh w C V ei)
  (hK:K (z.put dst (if ok then .bo [V,.bool false]else V))):af P B am z dst (.lookup t m x ok) K :=
 .val λU w C a M type pos after=>by
  have oH:=cI M.tmps m;rw[I]at oH
  have fU:=cI M.tmps x;rw[G]at fU
  obtain⟨dT,lk,n9⟩:=EL Y;have B3:=MM lk fU;obtain⟨eF,iU,F,df,aj,ae,ax,hc⟩:=A'.find Y lk b5 (M.heap.ch s _ hs);rcases hc with⟨_,cL⟩|⟨j,bB,d',e,h1,_⟩
  ·refine⟨if ok then .tuple #[ei,.bool false]else ei,w,C,z,_,?_,M,?_,hK⟩
   ·simp only[execOp,oH.gb,B3,Instr.lookup,Sem.run_bind,run_underlying hm,Result.andThen,Go.MapKept.run_getObj_map F,Sem.run_pure,run_checkKey N n9,run_findKey N cL,bH]
   cases ok with
   |true=>exact .bo [V,.bool false] [ei,.bool false] rfl (λi q v G W=>by
     match i,G,W with
     |0,G,W=>simp at G W;subst G;subst W;exact jK _ _
     |1,G,W=>simp at G W;subst G;subst W;exact .bool _
     |n+2,G,W=>simp at G)
   |false=>exact jK _ _
  rw[aV]at h1;cases h1
variable{y:Operand}
theorem af.z_{t:TypeId}{m:Operand}(s:Nat){k:D}(hm:P.underlying t=some (.map dV ek))(N:P.underlying dV=some c8)
  (I:z.ba m=.al (.map (some b))) (hs:z.H s=some (.mp b cy)) (G:z.ba x=k) (Y:m7 c8 k=true) (b5:∀x∈cy,m7 c8 x.1=true)
  (hK:K ((z.b6 s (some (.mp b (nw cy k (z.ba y))))).put dst .undef)):af P B am z dst (.mapUpdate t m x y) K :=
 .unit λU w C a M type pos after=>by
  have oH:=cI M.tmps m;rw[I]at oH
  have fU:=cI M.tmps x;rw[G]at fU
  have kW:=cI M.tmps y;obtain⟨dT,lk,n9⟩:=EL Y;have B3:=MM lk fU;obtain⟨eF,iU,F,df,aj,ae,ax,hc⟩:=A'.find Y lk b5 (M.heap.ch s _ hs);have e_:aI.ef (.mp b cy) b:=rfl
  have oF:∀oI va,(∀w',nO w C w' C->∃Ic EM,Obj.map oI va=Obj.map Ic EM/\Ic.size=(nw cy k (z.ba y)).length/\(∀(i j:Nat) cO d0 d d',(nw cy k (z.ba y))[i]?=some (cO,d)->(nw cy k (z.ba y))[j]?=some (d0,d')->mN cO=mN d0->i=j)/\
    ∀(i:Nat) cO d e,(nw cy k (z.ba y))[i]?=some (cO,d)->Ic[i]?=some e->mN cO=some e.key/\bh w' C d e.val)->
    bI U {w with heap:=w.heap.setIfInBounds b (.map oI va)} C (z.b6 s (some (.mp b (nw cy k (z.ba y))))) a:=λoI va h1=>by
   have a1:=da.Hu (bL:=.map oI va) F df;refine M.b6 a1 (s:=s) (λx I=>ax0) (λbq bL eo a6 c9 an nS=>?_) λV bH=>?_
   ·subst nS;exact M.heap.inj bq s bL _ eo a6 c9 hs an e_
   cases bH
   obtain⟨Ic,EM,bY,A,Z,aD⟩:=h1 _ a1.ext;cases bY
   exact⟨⟨oI,va,(heap_set F).1,df,A,Z,aD⟩,λx I=>⟨by cases I;exact M.heap.cN s _ _ hs e_,.inl I⟩⟩
  rcases hc with⟨h1,cL⟩|⟨j,bB,d',e,h1,A,Z,aD,bc,cL,eV⟩
  ·have g':nw cy k (z.ba y)=cy++[(k,z.ba y)]:=by rw[nw,h1]
   refine⟨_,C,_,?_,oF (eF.push ⟨dT,a.eval y,iU⟩) (iU+1) (λw' ao=>⟨_,_,rfl,?_,?_,?_⟩),hK⟩
   ·simp only[execOp,oH.gb,B3,Instr.mapUpdate,Sem.run_bind,run_underlying hm,Result.andThen,Go.MapKept.run_getObj_map F,Sem.run_pure,run_checkKey N n9,run_findKey N cL,run_setObj_map _ F]
   ·rw[g'];simp[aj]
   ·rw[g'];intro i hp cO d0 d d' hi lQ sU
    have Hv:∀(i:Nat) cO d,cy[i]?=some (cO,d)->mN cO≠some dT:=λi cO d hi e=>by
     have:=Tf h1 _ (atr hi);rw[(B2 (b5 _ (atr hi)) Y).2 (by rw[e,lk])]at this;cases this
    have split:∀(i:Nat) cO d,(cy++[(k,z.ba y)])[i]?=some (cO,d)->(i<cy.length/\cy[i]?=some (cO,d))\/(i=cy.length/\cO=k):=λi cO d hi=>by
     rcases ats i cy.length with bi|h2
     ·rw[atn bi]at hi;exact .inl ⟨bi,hi⟩
     rw[atJ h2]at hi
     have:i-cy.length=0:=by
      rcases at1 (i-cy.length)with h|h
      ·exact h
      rw[atj as0]at hi;cases hi
     rw[this]at hi;simp at hi;exact .inr ⟨by omega,hi.1.symm⟩
    rcases split i cO d hi with⟨fX,hF⟩|⟨fX,hF⟩<;>rcases split hp d0 d' lQ with⟨sO,rT⟩|⟨sO,rT⟩
    ·exact ax i hp cO d0 d d' hF rT sU
    ·exact absurd (by rw[sU,rT,lk]) (Hv i cO d hF)
    ·exact absurd (by rw[<-sU,hF,lk]) (Hv hp d0 d' rT)
    omega
   rw[g'];intro i cO d e hi o9;rcases ats i cy.length with bi|h2
   ·rw[atn bi]at hi;rw[Array.getElem?_push,as9 asZ]at o9;exact⟨(ae i cO d e hi o9).1,(ae i cO d e hi o9).2.ext ao⟩
   rw[atJ h2]at hi
   have lX:i-cy.length=0:=by
    rcases at1 (i-cy.length)with h|h
    ·exact h
    rw[atj as0]at hi;cases hi
   rw[lX]at hi;simp at hi;obtain⟨rfl,rfl⟩:=hi;rw[Array.getElem?_push,as_ asZ]at o9;cases o9
   exact⟨lk,kW.ext ao⟩
  have g':nw cy k (z.ba y)=cy.map λx=>if oO x.1 k then(x.1,z.ba y)else x:=by rw[nw,h1]
  have o8:∀(i:Nat) cO d1,(nw cy k (z.ba y))[i]?=some (cO,d1)->∃gU,cy[i]?=some (cO,gU)/\d1=(if i=j then z.ba y else gU):=λi cO d1 hi=>by
   rw[g',atA]at hi
   cases kp:cy[i]? with
   |none=>rw[kp]at hi;cases hi
   |some x =>
    obtain⟨gD,gU⟩:=x;rw[kp]at hi;simp only[auD,atQ]at hi;have wW:=b5 _ (atr kp);by_cases d6:i=j
    ·subst d6;rw[A]at kp;cases kp
     have ao:oO bB k=true:=(B2 wW Y).2 (by rw[Z,lk]);rw[as_ ao]at hi;cases hi
     exact⟨d',rfl,by rw[as_ rfl]⟩
    have ao:¬oO gD k=true:=λh=>by
     rw[B2 wW Y,lk]at h;exact d6 (ax i j gD bB gU d' kp A (by rw[h,Z]))
    rw[as9 ao]at hi;cases hi
    exact⟨_,rfl,by rw[as9 d6]⟩
  refine⟨_,C,_,?_,oF (eF.modify j λe=>{e with key:=dT,val:=a.eval y}) iU (λw' ao=>⟨_,_,rfl,?_,?_,?_⟩),hK⟩
  ·simp only[execOp,oH.gb,B3,Instr.mapUpdate,Sem.run_bind,run_underlying hm,Result.andThen,Go.MapKept.run_getObj_map F,Sem.run_pure,run_checkKey N n9,run_findKey N cL,run_setObj_map _ F,aD,auD,at7,bc,run_keyThatStays n9]
  ·rw[g'];simp[aj]
  ·intro i hp cO d0 d1 d2 hi lQ sU;obtain⟨bY,fX,_⟩:=o8 i cO d1 hi;obtain⟨b',hF,_⟩:=o8 hp d0 d2 lQ;exact ax i hp cO d0 bY b' fX hF sU
  intro i cO d1 bY hi o9;obtain⟨gU,fX,hF⟩:=o8 i cO d1 hi;rw[avB]at o9;by_cases d6:j=i
  ·subst d6;rw[as_ rfl,aD]at o9;simp only[auD,atQ]at o9;rw[as_ rfl]at hF;subst hF;subst o9;have:=(ae j cO _ e fX aD).1;exact⟨by rw[this,bc],kW.ext ao⟩
  rw[as9 d6]at o9;rw[as9 (λe=>d6 e.symm)]at hF;subst hF;exact⟨(ae i cO _ bY fX o9).1,(ae i cO _ bY fX o9).2.ext ao⟩
end Go.bS

namespace Go.bS.cj
open Go Go.Proofs
variable{B:World}{i j:Nat}
section Mg
variable{b_:Type}
def mq(L:List b_)(i j:Nat):List b_:=match L[i]?,L[j]? with
 |some x,some y=>(L.set i y).set j x
 |_,_=>L
theorem EN(L:List b_)(i j:Nat):(mq L i j).length=L.length:=by unfold mq;split<;>simp
theorem adu{L:List b_}(hi:i<L.length)(ad:j<L.length):mq L i j=(L.set i L[j]).set j L[i]:=by unfold mq;rw[ata hi,ata ad]
theorem EO{L:List b_}{e:b_->D}(hi:i<L.length)(ad:j<L.length):((L.map e).set i (e L[j])).set j (e L[i])=(mq L i j).map e:=by rw[adu hi ad,awy,awy]
def mr(L:List b_)(a b:Nat):Nat->List b_
 |0=>L
 |n+1=>mq (mr L a b n) (a+n) (b+n)
theorem z'(L:List b_)(a b:Nat):∀n,(mr L a b n).length=L.length
 |0=>rfl
 |n+1=>by rw[mr,EN,z' L a b n]
end Mg
abbrev lY.i'(v:Value)(xs:List D):aI:=.row v xs 12 234
abbrev lY.hr(v:Value)(i:Nat):Value:=g7 v (i*12)
abbrev lY.ih(c:List D):D:=.agg c
def Aa(d:D):Prop:=∃aA,d=lY.ih aA/\aA.length=12/\aA.all D.one=true
variable{p:Prop}
theorem Tg(h:p:=by
 refine ko Th Ti λU=>?_;refine go ?_;refine fZ (λi=>i<=n) [0,1,2,3,4] [] (λi=>[(10,u i)]) (λi=>[(2000,i' v ((mr L a b i).map e))]) (λi=>n-i) 0 (atq _) [(2000,2000)] λi hi=>?_;refine go ?_;refine g_ (t:=decide ((i:Int)<n)) (λhc=>?_) (λhc=>?_)
 ·have n0:i<n:=by simpa using hc
  have eS:=z' L a b i;have aH:a+i<(mr L a b i).length:=asZ
  have qc:b+i<(mr L a b i).length:=asZ
  obtain⟨ev,bY,dH,dk⟩:=ao (mr L a b i)[b+i];obtain⟨dC,b',cs,dn⟩:=ao (mr L a b i)[a+i];have Id:(((mr L a b i).map e).set (a+i) (ih ev)).set (b+i) (ih dC)=(mr L a b (i+1)).map e:=by rw[<-bY,<-b',EO aH qc];rfl
  refine' eJ [(2000,i' v ((mr L a b i).map e))] 0 (λy=>[_,_,_,_,_,_,_,_,_,_,_,_,.al (hr v (b+i)),ih ev,_,_,_,_,.al (hr v (a+i)),ih dC,.al (hr v (a+i)),.any,.al (hr v (b+i)),.any]) (λ_=>[(21,2000,some (i' v (((mr L a b i).map e).set (a+i) (ih ev)))),(23,2000,some (i' v ((mr L a b (i+1)).map e)))]) [0,0,0,6,0,0,0,96,0,0,0,1536,3840,7936,0,0,0,98304,245760,507904,1048335,2096911,4194303,8388607] [(21,2000),(23,2000)] ?_ ?_
  rotate_left 16
  ·refine dw ?_;refine bJ (λy=>af.ej aM 2000 rfl rfl rfl rfl rfl rfl rfl asZ as0 (cl y)) ?_;refine bJ (λy=>af.la aM (i:=b+i) 2000 rfl rfl rfl (n_ qc bY) (cl y)) ?_;refine bJ (λy=>af.ej aM 2000 rfl rfl rfl rfl rfl rfl rfl asZ as0 (cl y)) ?_;refine bJ (λy=>af.la aM (i:=a+i) 2000 rfl rfl rfl (n_ aH b') (cl y)) ?_;refine bJ (λy=>af.ej aM 2000 rfl rfl rfl rfl rfl rfl rfl asZ as0 (cl y)) ?_;refine bJ (λy=>by first|exact af.yc aM (i:=a+i) 2000 rfl rfl rfl rfl as0 rfl dH dk (cl y)|exact af.mg aM (i:=a+i) 2000 rfl rfl rfl rfl as0 rfl (cl y)) ?_;refine bJ (λy=>af.ej aM 2000 rfl rfl rfl rfl rfl rfl rfl asZ as0 (cl y)) ?_;refine bJ (λy=>by first|exact af.yc aM (i:=b+i) 2000 rfl rfl rfl rfl as0 rfl cs dn (cl y)|exact af.mg aM (i:=b+i) 2000 rfl rfl rfl rfl as0 rfl (cl y)) ?_;exact trivial
  intro _
  (conv=>whnf)
  refine go ?_;exact eK (i+1) [(2000,2000)] n0
 have cd:i=n:=by simp at hc;omega
 subst cd
 exact⟨.bo [],ai,rfl,bb⟩):p:=h
abbrev lY.Th:=@Tryz.func364
abbrev lY.Ti:=@Tryz.ntmps364
variable{b_:Type}
theorem lY.Ie(e:b_->D)(ao:∀x,Aa (e x))(v:Value)(L:List b_)(a b n:Nat)(b7:Nat)(ct:List D)(ha:a+n<=L.length)(F:b+n<=L.length)(aj:L.length<1000000):
  cZ B 364 [.al v,u a,u b,u n,.fn (.func b7) [] ct] (aK [(2000,.row v (L.map e) 12 234)]) λd aO=>d=.bo []/\aO=aK [(2000,.row v ((mr L a b n).map e) 12 234)]:=Tg
section
def pm(m:Nat)(L:List b_)(i j:Nat):List b_ :=
 if i=j then mr L (m-i) m i
 else if h:j<i/\0<j then pm m (mr L (m-i) m j) (i-j) j
 else if h:i<j/\0<i then pm m (mr L (m-i) (m+j-i) i) i (j-i)
 else L
termination_by i+j
theorem If(m:Nat)(L:List b_)(i j:Nat):(pm m L i j).length=L.length:=by
 rw[pm];split
 ·exact z' ..
 split
 ·rw[If,z']
 split
 ·rw[If,z']
 rfl
termination_by i+j
end
theorem Tj(h:p:=by
 refine ko Tk Tl λU=>?_;refine go ?_;refine fZ (α:=List b_×Nat×Nat) (λx=>0<x.2.1/\x.2.1<=m/\0<x.2.2/\m+x.2.2<=L.length/\x.1.length=L.length/\pm m x.1 x.2.1 x.2.2=pm m L (m-a) (b-m)) [0,1,2,3,4] [] (λx=>[(10,u x.2.1),(11,u x.2.2)]) (λx=>[(2000,i' v (x.1.map e))]) (λx=>x.2.1+x.2.2) (L,m-a,b-m) ⟨by dsimp only;omega,by dsimp only;omega,by dsimp only;omega,by dsimp only;omega,rfl,rfl⟩ [(2000,2000)] ?_;rintro⟨gp,i,j⟩ ⟨h1,A,Z,aD,bc,cL⟩;dsimp only at*;refine go ?_;refine g_ (t:=(i:Int)!=j) (λhc=>?_) (λhc=>?_)
 ·have a6:i≠j:=by simp at hc;omega
  rw[pm,as9 a6]at cL;refine g_ (t:=decide ((j:Int)<i)) (λhc=>?_) (λhc=>?_)
  ·have fq:j<i:=by simpa using hc
   rw[auX ⟨fq,Z⟩]at cL;refine mn [(2000,2000)] (Ie e ao v gp (m-i) m j b7 ct asZ asZ asZ) ?_;exact eK (mr gp (m-i) m j,i-j,j) [(2000,2000)] ⟨by dsimp only;omega,by dsimp only;omega,Z,aD,by rw[z'];exact bc,cL⟩
  have fq:i<j:=by simp at hc;omega
  rw[awd asZ,auX ⟨fq,h1⟩]at cL;refine mn [(2000,2000)] (Ie e ao v gp (m-i) (m+j-i) i b7 ct asZ asZ asZ) ?_;exact eK (mr gp (m-i) (m+j-i) i,i,j-i) [(2000,2000)] ⟨h1,A,by dsimp only;omega,by dsimp only;omega,by rw[z'];exact bc,cL⟩
 have d6:i=j:=by simp at hc;omega
 subst d6;rw[pm,as_ rfl]at cL;refine mn [(2000,2000)] (Ie e ao v gp (m-i) m i b7 ct asZ asZ asZ) ?_;rw[cL]
 exact⟨.bo [],ai,rfl,bb⟩):p:=h
abbrev lY.Tk:=@Tryz.func328
abbrev lY.Tl:=@Tryz.ntmps328
theorem lY.Tm(e:b_->D)(ao:∀x,Aa (e x))(v:Value)(L:List b_)(a m b:Nat)(b7:Nat)(ct:List D)(ha:a<m)(F:m<b)(eA:b<=L.length)(aj:L.length<1000000):
  cZ B 328 [.al v,u a,u m,u b,.fn (.func b7) [] ct] (aK [(2000,.row v (L.map e) 12 234)]) λd aO=>d=.bo []/\aO=aK [(2000,.row v ((pm m L (m-a) (b-m)).map e) 12 234)]:=Tj
section
variable(ca:b_->b_->Int)
def pn(L:List b_)(i j:Nat):Bool:=match L[i]?,L[j]? with
 |some x,some y=>decide (ca x y<0)
 |_,_=>false
theorem EP{L:List b_}(hi:i<L.length)(ad:j<L.length):pn ca L i j=decide (ca L[i] L[j]<0):=by unfold pn;rw[ata hi,ata ad]
def vr(a:Nat):Nat->List b_->List b_
 |0,L=>L
 |j+1,L=>if a<j+1/\pn ca L (j+1) j=true then vr a j (mq L (j+1) j)else L
theorem Tn(a:Nat):∀(j:Nat) (L:List b_),(vr ca a j L).length=L.length
 |0,_=>rfl
 |j+1,L=>by rw[vr];split;rw[Tn,EN];rfl
def q0(a:Nat)(L:List b_):Nat->List b_
 |0=>L
 |n+1=>vr ca a (a+n+1) (q0 a L n)
theorem EQ(a:Nat)(L:List b_):∀n,(q0 ca a L n).length=L.length
 |0=>rfl
 |n+1=>by rw[q0,Tn,EQ]
end
theorem To(h:p:=by
 refine ko Tp Tq λU=>?_;refine go ?_;refine fZ (λn=>n<=b-(a+1)) [0,1,2,3] [] (λn=>[(8,u ((a+1+n:Nat):Int))]) (λn=>[(2000,i' v ((q0 ca a L n).map e))]) (λn=>b-n) 0 (atq _) [(2000,2000)] λn ax=>?_;refine go ?_;refine g_ (t:=decide (((a+1+n:Nat):Int)<b)) (λhc=>?_) (λhc=>?_)
 ·have qc:a+1+n<b:=by simp at hc;omega
  refine fZ (λx=>x.2<=a+1+n/\a<=x.2/\x.1.length=L.length/\vr ca a x.2 x.1=q0 ca a L (n+1)) [0,1,2,3,8] [] (λx=>[(9,u x.2)]) (λx=>[(2000,i' v (x.1.map e))]) (λx=>x.2) (q0 ca a L n,a+1+n) ⟨atg _,by omega,EQ ..,by rw[q0,show a+n+1=a+1+n by omega]⟩ [(2000,2000)] ?_;rintro⟨gp,j⟩ ⟨h1,A,Z,aD⟩;dsimp only at h1 A Z aD⊢;refine go ?_;by_cases aqT:a<j
  ·have aV:decide ((a:Int)<j)=true:=aug asZ;have ad:j<gp.length:=asZ
   have vt:j-1<gp.length:=asZ
   obtain⟨ev,bY,dH,dk⟩:=ao gp[j];obtain⟨dC,b',cs,dn⟩:=ao gp[j-1];have n':=hcmp gp[j] gp[j-1];rw[bY,b']at n';refine' eJ [(2000,i' v (gp.map e))] 0 (λy=>[_,_,_,_,_,_,_,.al (hr v j),ih ev,_,_,_,.al (hr v (j-1)),ih dC,_,_,_]) (λ_=>[]) [0,0,3,7,15,15,15,111,239,15,15,1039,3599,7695,16383,32767,65535] [] ?_ ?_
   rotate_left 13
   ·refine dw ?_;refine⟨λy=>⟨_,_,rfl,rfl,.inl ⟨aV,.inr (.inr (af.ej aM 2000 rfl rfl rfl rfl rfl rfl rfl asZ as0 (cl y)))⟩⟩,dw ?_⟩;refine⟨λy=>⟨_,_,rfl,rfl,.inl ⟨aV,.inr (.inr (af.la aM (i:=j) 2000 rfl rfl rfl (n_ ad bY) (cl y)))⟩⟩,dw ?_⟩;refine⟨λy=>⟨_,_,rfl,rfl,.inl ⟨aV,.inr (.inr (af.ej aM 2000 rfl rfl rfl rfl rfl rfl rfl asZ as0 (cl y (Z:=BZ asZ))))⟩⟩,dw ?_⟩;refine⟨λy=>⟨_,_,rfl,rfl,.inl ⟨aV,.inr (.inr (af.la aM (i:=j-1) 2000 rfl rfl rfl (n_ vt b') (cl y)))⟩⟩,dw ?_⟩;exact trivial
   intro _
   (conv=>whnf)
   refine go ?_;refine g_ (λhc=>?_) (λhc=>?_)
   ·have bi:pn ca gp (j-1+1) (j-1)=true:=by
     rw[show j-1+1=j by omega,EP ca ad vt];rw[aV]at hc;exact hc
    rw[show j=j-1+1 by omega,vr,as_ ⟨by omega,bi⟩,show j-1+1=j by omega]at aD;have Id:((gp.map e).set j (ih dC)).set (j-1) (ih ev)=(mq gp j (j-1)).map e:=by rw[<-bY,<-b',EO ad vt]
    refine' eJ [(2000,i' v (gp.map e))] 0 (λy=>[_,_,_,_,_,_,_,_,.al (hr v (j-1)),ih dC,_,_,.al (hr v j),ih ev,.al (hr v j),.any,.al (hr v (j-1)),.any]) (λ_=>[(15,2000,some (i' v ((gp.map e).set j (ih dC)))),(17,2000,some (i' v ((mq gp j (j-1)).map e)))]) [0,0,0,0,8,0,0,64,224,480,0,0,3072,7168,16355,32739,65535,131071] [(15,2000),(17,2000)] ?_ ?_
    rotate_left 10
    ·refine dw ?_;refine bJ (λy=>af.ej aM 2000 rfl rfl rfl rfl rfl rfl rfl asZ as0 (cl y (Z:=BZ asZ))) ?_;refine bJ (λy=>af.la aM (i:=j-1) 2000 rfl rfl rfl (n_ vt b') (cl y)) ?_;refine bJ (λy=>af.ej aM 2000 rfl rfl rfl rfl rfl rfl rfl asZ as0 (cl y)) ?_;refine bJ (λy=>af.la aM (i:=j) 2000 rfl rfl rfl (n_ ad bY) (cl y)) ?_;refine bJ (λy=>af.ej aM 2000 rfl rfl rfl rfl rfl rfl rfl asZ as0 (cl y)) ?_;refine bJ (λy=>by first|exact af.yc aM (i:=j) 2000 rfl rfl rfl rfl as0 rfl cs dn (cl y)|exact af.mg aM (i:=j) 2000 rfl rfl rfl rfl as0 rfl (cl y)) ?_;refine bJ (λy=>af.ej aM 2000 rfl rfl rfl rfl rfl rfl rfl asZ as0 (cl y (Z:=BZ asZ))) ?_;refine bJ (λy=>by first|exact af.yc aM (i:=j-1) 2000 rfl rfl rfl rfl as0 rfl dH dk (cl y)|exact af.mg aM (i:=j-1) 2000 rfl rfl rfl rfl as0 rfl (cl y)) ?_;exact trivial
    intro _
    (conv=>whnf)
    refine go ?_;exact eK (mq gp j (j-1),j-1) [(2000,2000)] ⟨by dsimp only;omega,by dsimp only;omega,by rw[EN];exact Z,aD⟩
   have bi:¬(a<j-1+1/\pn ca gp (j-1+1) (j-1)=true):=λh=>by
    have bc:=h.2;rw[show j-1+1=j by omega,EP ca ad vt]at bc;rw[aV]at hc;rw[bc]at hc;cases hc
   rw[show j=j-1+1 by omega,vr,as9 bi]at aD;subst aD;exact eK (n+1) [(2000,2000)] asZ
  have aV:decide ((a:Int)<j)=false:=atU asZ
  have aW:gp=q0 ca a L (n+1):=by
   rw[<-aD]
   cases j with
   |zero=>rfl
   |succ k=>rw[vr,as9 (λh=>by omega)]
  refine' eJ [(2000,i' v (gp.map e))] 0 (λy=>[_,_,_,_,_,_,_,_,_,_,_,_,_,_,_,_,.bool false]) (λ_=>[]) [0,0,3,7,15,15,15,111,239,15,15,1039,3599,7695,16383,32767,65535] [] ?_ ?_
  rotate_left 16
  ·refine dw ?_;refine bJ (λy=>af.Ex rfl aV (cl y)) ?_;exact trivial
  intro _
  (conv=>whnf)
  refine go ?_;subst aW;exact eK (n+1) [(2000,2000)] asZ
 have oP:n=b-(a+1):=by simp at hc;omega
 subst oP
 exact⟨.bo [],ai,rfl,bb⟩):p:=h
abbrev lY.Tp:=@Tryz.func290
abbrev lY.Tq:=@Tryz.ntmps290
theorem lY.MP(e:b_->D)(ao:∀x,Aa (e x))(ca:b_->b_->Int)(b7:Nat)(ct:List D)(hcmp:∀x y,aU B b7 (e x::e y::ct) (u (ca x y)))(v:Value)(L:List b_)(a b:Nat)(F:b<=L.length)(aj:L.length<1000000)(ha:a<=b):
  cZ B 290 [.al v,u a,u b,.fn (.func b7) [] ct] (aK [(2000,.row v (L.map e) 12 234)]) λd aO=>d=.bo []/\aO=aK [(2000,.row v ((q0 ca a L (b-(a+1))).map e) 12 234)]:=To
section
variable(ca:b_->b_->Int)
def ms(c:Nat->Bool)(i j:Nat):Nat :=
 if h:i<j then(if c ((i+j)/2)then ms c ((i+j)/2+1) j else ms c i ((i+j)/2))else i
termination_by j-i
theorem MQ(c:Nat->Bool)(i j:Nat)(h:i<=j):i<=ms c i j/\ms c i j<=j:=by
 rw[ms];split
 ·split
  ·have:=MQ c ((i+j)/2+1) j asZ;omega
  have:=MQ c i ((i+j)/2) asZ;omega
 omega
termination_by j-i
def qd(L:List b_)(a:Nat):Nat->List b_
 |0=>L
 |n+1=>mq (qd L a n) (a+n) (a+n+1)
def qe(L:List b_)(m:Nat):Nat->List b_
 |0=>L
 |n+1=>mq (qe L m n) (m-n) (m-n-1)
theorem MR(L:List b_)(a:Nat):∀n,(qd L a n).length=L.length
 |0=>rfl
 |n+1=>by rw[qd,EN,MR L a n]
theorem MS(L:List b_)(a:Nat):∀n,(qe L a n).length=L.length
 |0=>rfl
 |n+1=>by rw[qe,EN,MS L a n]
def qf(L:List b_)(a m b:Nat):Nat:=ms (λc=>!pn ca L ((a+b)/2+m-1-c) c) (if(a+b)/2<m then(a+b)/2+m-b else a) (if(a+b)/2<m then(a+b)/2 else m)
def po:Nat->List b_->Nat->Nat->Nat->List b_
 |0,L,_,_,_=>L
 |f+1,L,a,m,b =>
  if m=a+1 then qd L a (ms (λh=>pn ca L h a) m b-1-a)
  else if b=m+1 then qe L m (m-ms (λh=>!pn ca L m h) a m)
  else
   let d:=(a+b)/2
   let s:=qf ca L a m b
   let vu:=if s<m/\s<d then pm m L (m-s) (d-s)else L
   let vv:=if a<s/\s<d then po f vu a s d else vu
   if d<d+m-s/\d+m-s<b then po f vv d (d+m-s) b else vv
theorem ER:∀(f:Nat) (L:List b_) (a m b:Nat),(po ca f L a m b).length=L.length
 |0,_,_,_,_=>rfl
 |f+1,L,a,m,b=>by rw[po];split;exact MR ..;split;exact MS ..;simp only;repeat (first|rfl|exact If ..|rw[ER f]|split)
def q1(n a:Nat)(L:List b_):List b_ :=
 if h:a+20<=n then q1 n (a+20) (q0 ca a L 19)else q0 ca a L (n-(a+1))
termination_by n-a
def sV(n aR a:Nat)(L:List b_):List b_ :=
 if h:a+2*aR<=n/\0<aR then sV n aR (a+2*aR) (po ca (n+1) L a (a+aR) (a+2*aR))
 else if a+aR<n then po ca (n+1) L a (a+aR) n else L
termination_by n-a
def t7(n aR:Nat)(L:List b_):List b_ :=
 if h:aR<n/\0<aR then t7 n (2*aR) (sV ca n aR 0 L)else L
termination_by n-aR
def gf(L:List b_):List b_:=t7 ca L.length 20 (q1 ca L.length 0 L)
theorem MT(n a:Nat)(L:List b_):(q1 ca n a L).length=L.length:=by
 rw[q1];split
 ·rw[MT,EQ]
 exact EQ ..
termination_by n-a
theorem Ig(n aR a:Nat)(L:List b_):(sV ca n aR a L).length=L.length:=by
 rw[sV];split
 ·rw[Ig,ER]
 split
 ·exact ER ..
 rfl
termination_by n-a
theorem Tr(n aR:Nat)(L:List b_):(t7 ca n aR L).length=L.length:=by
 rw[t7];split
 ·rw[Tr,Ig]
 rfl
termination_by n-aR
theorem adv(L:List b_):(gf ca L).length=L.length:=by rw[gf,Tr,MT]
end
theorem Ih(i j:Nat):Int.fdiv ((i:Int)+(j:Int)) (2 ^ min (Int.toNat 1) (IntKind.bits .u64))=(((i+j)/2:Nat):Int):=by show Int.fdiv ((i:Int)+(j:Int)) 2=_;rw[Int.fdiv_eq_ediv_of_nonneg _ as2];omega
theorem Ts(h:p:=by
 intro f
 induction f with
 |zero=>intro L a m b h;omega
 |succ f aY =>
 intro L a m b M aqU mt eA aj;refine ko Tt Tu λU=>?_;refine go ?_;refine g_ (t:=(m:Int)-a==1) (λhc=>?_) (λhc=>?_)
 ·have hm:m=a+1:=by simp at hc;omega
  refine fZ (λx=>m<=x.1/\x.1<=x.2/\x.2<=b/\ms (λh=>pn ca L h a) x.1 x.2=ms (λh=>pn ca L h a) m b) [0,1,2,3,4] [2000] (λx=>[(10,u x.1),(11,u x.2)]) (λx=>[]) (λx=>x.2-x.1) (m,b) ⟨atg _,by dsimp only;omega,atg _,rfl⟩ [(2000,2000)] ?_;rintro⟨i,j⟩ ⟨h1,A,Z,aD⟩;dsimp only at h1 A Z aD⊢;refine go ?_;refine g_ (t:=decide ((i:Int)<j)) (λhc=>?_) (λhc=>?_)
  ·have d6:i<j:=by simpa using hc
   rw[Ih];refine go ?_;generalize cG:(i+j)/2=h at*;have yl:h<L.length:=asZ
   have kB:a<L.length:=asZ
   obtain⟨ev,bY,dH,dk⟩:=ao L[h];obtain⟨dC,b',cs,dn⟩:=ao L[a];have n':=hcmp L[h] L[a];rw[bY,b']at n';have bi:=EP ca yl kB;rw[ms,auX d6,cG,bi]at aD;refine' eJ [(2000,i' v (L.map e))] 0 (λy=>[_,_,_,.al (hr v (h)),ih ev,_,_,.al (hr v (a)),ih dC,_,_]) (λ_=>[]) [0,0,0,6,14,0,0,96,224,511,1023] [] ?_ ?_
   rotate_left 7
   ·refine dw ?_;refine bJ (λy=>af.ej aM 2000 rfl rfl rfl rfl rfl rfl rfl asZ as0 (cl y)) ?_;refine bJ (λy=>af.la aM (i:=h) 2000 rfl rfl rfl (n_ yl bY) (cl y)) ?_;refine bJ (λy=>af.ej aM 2000 rfl rfl rfl rfl rfl rfl rfl asZ as0 (cl y)) ?_;refine bJ (λy=>af.la aM (i:=a) 2000 rfl rfl rfl (n_ kB b') (cl y)) ?_;exact trivial
   intro _
   (conv=>whnf)
   refine go ?_;refine g_ (t:=decide (ca L[h] L[a]<0)) (λhc=>?_) (λhc=>?_)
   ·rw[as_ hc]at aD;exact eK (h+1,j) [(2000,2000)] ⟨by dsimp only;omega,by dsimp only;omega,Z,aD⟩
   rw[as9 (by simp[hc])]at aD;exact eK (i,h) [(2000,2000)] ⟨h1,by dsimp only;omega,by dsimp only;omega,aD⟩
  have d6:i=j:=by simp at hc;omega
  subst d6;rw[ms,awd asZ]at aD;refine fZ (λn=>n<=i-1-a) [0,1,2,3,4,10] [] (λn=>[(13,u ((a+n:Nat):Int))]) (λn=>[(2000,i' v ((qd L a n).map e))]) (λn=>i-n) 0 (atq _) [(2000,2000)] λn ax=>?_;refine go ?_;refine g_ (t:=decide (((a+n:Nat):Int)<(i:Int)-1)) (λhc=>?_) (λhc=>?_)
  ·have adw:a+n<i-1:=by simp at hc;omega
   have eS:=MR L a n;have G:a+n<(qd L a n).length:=asZ
   have aw:a+n+1<(qd L a n).length:=asZ
   obtain⟨ev,bY,dH,dk⟩:=ao (qd L a n)[a+n+1];obtain⟨dC,b',cs,dn⟩:=ao (qd L a n)[a+n];have Id:(((qd L a n).map e).set (a+n) (ih ev)).set (a+n+1) (ih dC)=(mq (qd L a n) (a+n) (a+n+1)).map e:=by rw[<-bY,<-b',EO G aw]
   refine' eJ [(2000,i' v ((qd L a n).map e))] 0 (λy=>[_,_,_,_,_,_,_,_,.al (hr v (a+n+1)),ih ev,_,_,.al (hr v (a+n)),ih dC,.al (hr v (a+n)),.any,.al (hr v (a+n+1)),.any]) (λ_=>[(15,2000,some (i' v (((qd L a n).map e).set (a+n) (ih ev)))),(17,2000,some (i' v ((mq (qd L a n) (a+n) (a+n+1)).map e)))]) [0,0,0,0,8,0,0,64,224,480,0,0,3072,7168,16355,32739,65535,131071] [(15,2000),(17,2000)] ?_ ?_
   rotate_left 10
   ·refine dw ?_;refine bJ (λy=>af.ej aM 2000 rfl rfl rfl rfl rfl rfl rfl asZ as0 (cl y)) ?_;refine bJ (λy=>af.la aM (i:=a+n+1) 2000 rfl rfl rfl (n_ aw bY) (cl y)) ?_;refine bJ (λy=>af.ej aM 2000 rfl rfl rfl rfl rfl rfl rfl asZ as0 (cl y)) ?_;refine bJ (λy=>af.la aM (i:=a+n) 2000 rfl rfl rfl (n_ G b') (cl y)) ?_;refine bJ (λy=>af.ej aM 2000 rfl rfl rfl rfl rfl rfl rfl asZ as0 (cl y)) ?_;refine bJ (λy=>by first|exact af.yc aM (i:=a+n) 2000 rfl rfl rfl rfl as0 rfl dH dk (cl y)|exact af.mg aM (i:=a+n) 2000 rfl rfl rfl rfl as0 rfl (cl y)) ?_;refine bJ (λy=>af.ej aM 2000 rfl rfl rfl rfl rfl rfl rfl asZ as0 (cl y)) ?_;refine bJ (λy=>by first|exact af.yc aM (i:=a+n+1) 2000 rfl rfl rfl rfl as0 rfl cs dn (cl y)|exact af.mg aM (i:=a+n+1) 2000 rfl rfl rfl rfl as0 rfl (cl y)) ?_;exact trivial
   intro _
   (conv=>whnf)
   refine go ?_;exact eK (n+1) [(2000,2000)] asZ
  have a6:n=i-1-a:=by simp at hc;omega
  rw[po,as_ hm,<-aD,<-a6];exact⟨.bo [],ai,rfl,bb⟩
 have hm:¬m=a+1:=λh=>by simp at hc;omega
 refine g_ (t:=(b:Int)-m==1) (λhc=>?_) (λhc=>?_)
 ·have F:b=m+1:=by simp at hc;omega
  refine fZ (λx=>a<=x.1/\x.1<=x.2/\x.2<=m/\ms (λh=>!pn ca L m h) x.1 x.2=ms (λh=>!pn ca L m h) a m) [0,1,2,3,4] [2000] (λx=>[(14,u x.1),(15,u x.2)]) (λx=>[]) (λx=>x.2-x.1) (a,m) ⟨atg _,by dsimp only;omega,atg _,rfl⟩ [(2000,2000)] ?_;rintro⟨i,j⟩ ⟨h1,A,Z,aD⟩;dsimp only at h1 A Z aD⊢;refine go ?_;refine g_ (t:=decide ((i:Int)<j)) (λhc=>?_) (λhc=>?_)
  ·have d6:i<j:=by simpa using hc
   rw[Ih];refine go ?_;generalize cG:(i+j)/2=h at*;have yl:h<L.length:=asZ
   have kB:m<L.length:=asZ
   obtain⟨ev,bY,dH,dk⟩:=ao L[m];obtain⟨dC,b',cs,dn⟩:=ao L[h];have n':=hcmp L[m] L[h];rw[bY,b']at n';have bi:=EP ca kB yl;rw[ms,auX d6,cG,bi]at aD;refine' eJ [(2000,i' v (L.map e))] 0 (λy=>[_,_,_,.al (hr v (m)),ih ev,_,_,.al (hr v (h)),ih dC,_,_,_]) (λ_=>[]) [0,0,0,6,14,0,0,96,224,511,1023,2047] [] ?_ ?_
   rotate_left 8
   ·refine dw ?_;refine bJ (λy=>af.ej aM 2000 rfl rfl rfl rfl rfl rfl rfl asZ as0 (cl y)) ?_;refine bJ (λy=>af.la aM (i:=m) 2000 rfl rfl rfl (n_ kB bY) (cl y)) ?_;refine bJ (λy=>af.ej aM 2000 rfl rfl rfl rfl rfl rfl rfl asZ as0 (cl y)) ?_;refine bJ (λy=>af.la aM (i:=h) 2000 rfl rfl rfl (n_ yl b') (cl y)) ?_;exact trivial
   intro _
   (conv=>whnf)
   refine go ?_;refine g_ (t:=!decide (ca L[m] L[h]<0)) (λhc=>?_) (λhc=>?_)
   ·rw[as_ hc]at aD;exact eK (h+1,j) [(2000,2000)] ⟨by dsimp only;omega,by dsimp only;omega,Z,aD⟩
   rw[as9 (by simp[hc])]at aD;exact eK (i,h) [(2000,2000)] ⟨h1,by dsimp only;omega,by dsimp only;omega,aD⟩
  have d6:i=j:=by simp at hc;omega
  subst d6;rw[ms,awd asZ]at aD;refine fZ (λn=>n<=m-i) [0,1,2,3,4,14] [] (λn=>[(17,u ((m-n:Nat):Int))]) (λn=>[(2000,i' v ((qe L m n).map e))]) (λn=>m-n) 0 (atq _) [(2000,2000)] λn ax=>?_;refine go ?_;refine g_ (t:=decide ((i:Int)<((m-n:Nat):Int))) (λhc=>?_) (λhc=>?_)
  ·have adw:i<m-n:=by simp at hc;omega
   have eS:=MS L m n;have G:m-n<(qe L m n).length:=asZ
   have aw:m-n-1<(qe L m n).length:=asZ
   obtain⟨ev,bY,dH,dk⟩:=ao (qe L m n)[m-n-1];obtain⟨dC,b',cs,dn⟩:=ao (qe L m n)[m-n];have Id:(((qe L m n).map e).set (m-n) (ih ev)).set (m-n-1) (ih dC)=(mq (qe L m n) (m-n) (m-n-1)).map e:=by rw[<-bY,<-b',EO G aw]
   refine' eJ [(2000,i' v ((qe L m n).map e))] 0 (λy=>[_,_,_,_,_,_,_,_,.al (hr v (m-n-1)),ih ev,_,_,.al (hr v (m-n)),ih dC,.al (hr v (m-n)),.any,.al (hr v (m-n-1)),.any]) (λ_=>[(15,2000,some (i' v (((qe L m n).map e).set (m-n) (ih ev)))),(17,2000,some (i' v ((mq (qe L m n) (m-n) (m-n-1)).map e)))]) [0,0,0,0,8,0,0,64,224,480,0,0,3072,7168,16355,32739,65535,131071] [(15,2000),(17,2000)] ?_ ?_
   rotate_left 10
   ·refine dw ?_;refine bJ (λy=>af.ej aM 2000 rfl rfl rfl rfl rfl rfl rfl asZ as0 (cl y (Z:=BZ asZ))) ?_;refine bJ (λy=>af.la aM (i:=m-n-1) 2000 rfl rfl rfl (n_ aw bY) (cl y)) ?_;refine bJ (λy=>af.ej aM 2000 rfl rfl rfl rfl rfl rfl rfl asZ as0 (cl y)) ?_;refine bJ (λy=>af.la aM (i:=m-n) 2000 rfl rfl rfl (n_ G b') (cl y)) ?_;refine bJ (λy=>af.ej aM 2000 rfl rfl rfl rfl rfl rfl rfl asZ as0 (cl y)) ?_;refine bJ (λy=>by first|exact af.yc aM (i:=m-n) 2000 rfl rfl rfl rfl as0 rfl dH dk (cl y)|exact af.mg aM (i:=m-n) 2000 rfl rfl rfl rfl as0 rfl (cl y)) ?_;refine bJ (λy=>af.ej aM 2000 rfl rfl rfl rfl rfl rfl rfl asZ as0 (cl y (Z:=BZ asZ))) ?_;refine bJ (λy=>by first|exact af.yc aM (i:=m-n-1) 2000 rfl rfl rfl rfl as0 rfl cs dn (cl y)|exact af.mg aM (i:=m-n-1) 2000 rfl rfl rfl rfl as0 rfl (cl y)) ?_;exact trivial
   intro _
   (conv=>whnf)
   refine go ?_;exact eK (n+1) [(2000,2000)] asZ
  have a6:n=m-i:=by simp at hc;omega
  rw[po,as9 hm,as_ F,<-aD,<-a6];exact⟨.bo [],ai,rfl,bb⟩
 have F:¬b=m+1:=λh=>by simp at hc;omega
 rw[Ih];refine go ?_;have N:((a+b)/2)*2<=a+b/\a+b<=((a+b)/2)*2+1:=asZ
 rw[po,as9 hm,as9 F];have gV:qf ca L a m b=ms (λc=>!pn ca L ((a+b)/2+m-1-c) c) (if(a+b)/2<m then(a+b)/2+m-b else a) (if(a+b)/2<m then(a+b)/2 else m):=rfl;generalize(a+b)/2=d at*;simp only;refine m6 (λx:Nat×Nat=>((m<=d/\x.1=a/\x.2=m)\/(d<m/\x.1+b=d+m/\x.2=d))/\qf ca L a m b=ms (λc=>!pn ca L (d+m-1-c) c) x.1 x.2) [0,1,2,3,4,18,19] [2000] (λx=>[(20,u x.1),(21,u x.2)]) (λ_=>[]) ?_ ?_
 ·refine g_ (t:=decide ((d:Int)<m)) (λhc=>?_) (λhc=>?_)
  ·have r1:d<m:=by simpa using hc
   rw[as_ r1,as_ r1]at gV;exact gn (d+m-b,d) [(2000,2000)] ⟨.inr ⟨r1,by dsimp only;omega,rfl⟩,gV⟩
  have r1:¬d<m:=by simpa using hc
  rw[as9 r1,as9 r1]at gV;exact gn (a,m) [(2000,2000)] ⟨.inl ⟨by omega,rfl,rfl⟩,gV⟩
 rintro⟨gL,gg⟩ ⟨h0,h1⟩;dsimp only at h0 h1⊢;have cd:=MQ (λc=>!pn ca L (d+m-1-c) c) gL gg asZ;refine go ?_;refine fZ (λx=>gL<=x.1/\x.1<=x.2/\x.2<=gg/\ms (λc=>!pn ca L (d+m-1-c) c) x.1 x.2=qf ca L a m b) [0,1,2,3,4,18,19,22] [2000] (λx=>[(20,u x.1),(21,u x.2)]) (λx=>[]) (λx=>x.2-x.1) (gL,gg) ⟨atg _,by dsimp only;omega,atg _,h1.symm⟩ [(2000,2000)] ?_;rintro⟨i,j⟩ ⟨A,Z,aD,bc⟩;dsimp only at A Z aD bc⊢;refine go ?_;refine g_ (t:=decide ((i:Int)<j)) (λhc=>?_) (λhc=>?_)
 ·have d6:i<j:=by simpa using hc
  rw[Ih];refine go ?_;generalize cG:(i+j)/2=h at*;have yl:h<L.length:=asZ
  have kB:d+m-1-h<L.length:=asZ
  obtain⟨ev,bY,dH,dk⟩:=ao L[d+m-1-h];obtain⟨dC,b',cs,dn⟩:=ao L[h];have n':=hcmp L[d+m-1-h] L[h];rw[bY,b']at n';have bi:=EP ca kB yl;rw[ms,auX d6,cG,bi]at bc;refine' eJ [(2000,i' v (L.map e))] 0 (λy=>[_,_,_,_,_,.al (hr v (d+m-1-h)),ih ev,_,_,.al (hr v (h)),ih dC,_,_,_]) (λ_=>[]) [0,0,0,0,12,30,62,0,0,384,896,2047,4095,8191] [] ?_ ?_
  rotate_left 10
  ·refine dw ?_;refine bJ (λy=>af.ej aM 2000 rfl rfl rfl rfl rfl rfl rfl asZ as0 (cl y (Z:=BZ asZ))) ?_;refine bJ (λy=>af.la aM (i:=d+m-1-h) 2000 rfl rfl rfl (n_ kB bY) (cl y)) ?_;refine bJ (λy=>af.ej aM 2000 rfl rfl rfl rfl rfl rfl rfl asZ as0 (cl y)) ?_;refine bJ (λy=>af.la aM (i:=h) 2000 rfl rfl rfl (n_ yl b') (cl y)) ?_;exact trivial
  intro _
  (conv=>whnf)
  refine go ?_;refine g_ (t:=!decide (ca L[d+m-1-h] L[h]<0)) (λhc=>?_) (λhc=>?_)
  ·rw[as_ hc]at bc;exact eK (h+1,j) [(2000,2000)] ⟨by dsimp only;omega,by dsimp only;omega,aD,bc⟩
  rw[as9 (by simp[hc])]at bc;exact eK (i,h) [(2000,2000)] ⟨A,by dsimp only;omega,by dsimp only;omega,bc⟩
 have d6:i=j:=by simp at hc;omega
 subst d6;rw[ms,awd asZ]at bc;rw[<-bc];clear bc h1 gV cd;have Ab:i<=m/\i<=d/\a<=i/\d+m-i<=b:=asZ
 refine m6 (λx=>x=if i<m/\i<d then pm m L (m-i) (d-i)else L) [0,1,2,3,4,18,20,24] [] (λ_=>[]) (λx=>[(2000,i' v (x.map e))]) ?_ ?_
 ·refine g_ (λhc=>?_) (λhc=>?_)
  ·have fc:i<m/\i<d:=by revert hc;cases h:decide ((i:Int)<m)<;>simp at h⊢<;>omega
   have Y:=Tm (B:=B) e ao v L i m (d+m-i) b7 ct asZ asZ asZ aj;rw[show d+m-i-m=d-i by omega]at Y;refine mn [(2000,2000)] Y ?_;exact gn _ [(2000,2000)] (by rw[as_ fc])
  have fc:¬(i<m/\i<d):=by revert hc;cases h:decide ((i:Int)<m)<;>simp at h⊢<;>omega
  exact gn _ [(2000,2000)] (by rw[as9 fc])
 intro vu Tv;have ku:vu.length=L.length:=by rw[Tv];split<;>first|rfl|exact If ..
 rw[<-Tv];refine go ?_;refine m6 (λx=>x=if a<i/\i<d then po ca f vu a i d else vu) [0,3,4,18,24] [] (λ_=>[]) (λx=>[(2000,i' v (x.map e))]) ?_ ?_
 ·refine g_ (λhc=>?_) (λhc=>?_)
  ·have fc:a<i/\i<d:=by revert hc;cases h:decide ((a:Int)<i)<;>simp at h⊢<;>omega
   refine mn [(2000,2000)] (aY vu a i d asZ asZ asZ asZ asZ) ?_;exact gn _ [(2000,2000)] (by rw[as_ fc])
  have fc:¬(a<i/\i<d):=by revert hc;cases h:decide ((a:Int)<i)<;>simp at h⊢<;>omega
  exact gn _ [(2000,2000)] (by rw[as9 fc])
 intro vv Tw;have nx:vv.length=L.length:=by rw[Tw];split<;>first|exact ku|rw[ER,ku]
 rw[<-Tw];refine go ?_;refine g_ (λhc=>?_) (λhc=>?_)
 ·have fc:d<d+m-i/\d+m-i<b:=by revert hc;cases h:decide ((d:Int)<(d:Int)+m-i)<;>simp at h⊢<;>omega
  rw[as_ fc];refine mn [(2000,2000)] (aY vv d (d+m-i) b asZ asZ asZ asZ asZ) ?_;exact⟨.bo [],ai,rfl,bb⟩
 have fc:¬(d<d+m-i/\d+m-i<b):=by revert hc;cases h:decide ((d:Int)<(d:Int)+m-i)<;>simp at h⊢<;>omega
 rw[as9 fc]
 exact⟨.bo [],ai,rfl,bb⟩):p:=h
abbrev lY.Tt:=@Tryz.func291
abbrev lY.Tu:=@Tryz.ntmps291
theorem lY.MU(e:b_->D)(ao:∀x,Aa (e x))(ca:b_->b_->Int)(b7:Nat)(ct:List D)(hcmp:∀x y,aU B b7 (e x::e y::ct) (u (ca x y)))(v:Value):∀(f:Nat) (L:List b_) (a m b:Nat),b-a<f->a<m->m<b->b<=L.length->L.length<1000000->
  cZ B 291 [.al v,u a,u m,u b,.fn (.func b7) [] ct] (aK [(2000,.row v (L.map e) 12 234)]) λd aO=>d=.bo []/\aO=aK [(2000,.row v ((po ca f L a m b).map e) 12 234)]:=Ts
theorem Tx(h:p:=by
 generalize ax:L.length=n at*;refine ko Ty Tz λU=>?_;refine go ?_;refine fZ (λx:List b_×Nat=>x.2<=n/\x.1.length=n/\q1 ca n x.2 x.1=q1 ca n 0 L) [0,1,2,6] [] (λx=>[(7,u x.2),(8,u ((x.2+20:Nat):Int))]) (λx=>[(2000,i' v (x.1.map e))]) (λx=>n-x.2) (L,0) ⟨atq _,ax,rfl⟩ [(2000,2000)] ?_;rintro⟨gp,a⟩ ⟨h1,A,Z⟩;dsimp only at h1 A Z⊢;refine go ?_;refine g_ (t:=decide (((a+20:Nat):Int)<=n)) (λhc=>?_) (λhc=>?_)
 ·have F:a+20<=n:=by simp at hc;omega
  rw[q1,auX F]at Z;have Y:=MP (B:=B) e ao ca b7 ct hcmp v gp a (a+20) asZ asZ asZ;rw[show a+20-(a+1)=19 by omega]at Y;refine mn [(2000,2000)] Y ?_;exact eK (q0 ca a gp 19,a+20) [(2000,2000)] ⟨F,by rw[EQ];exact A,Z⟩
 have F:¬a+20<=n:=by simp at hc;omega
 rw[q1,awd F]at Z;have Y:=MP (B:=B) e ao ca b7 ct hcmp v gp a n asZ asZ asZ;rw[Z]at Y;refine mn [(2000,2000)] Y ?_;have eS:(q1 ca n 0 L).length=n:=by rw[MT,ax]
 have a1:gf ca L=t7 ca n 20 (q1 ca n 0 L):=by rw[gf,ax]
 rw[a1];refine fZ (λx:List b_×Nat=>0<x.2/\x.2<=2*n+20/\x.1.length=n/\t7 ca n x.2 x.1=t7 ca n 20 (q1 ca n 0 L)) [0,1,2] [] (λx=>[(6,u x.2)]) (λx=>[(2000,i' v (x.1.map e))]) (λx=>n-x.2) (q1 ca n 0 L,20) ⟨by dsimp only;omega,by dsimp only;omega,eS,rfl⟩ [(2000,2000)] ?_;rintro⟨vv,aR⟩ ⟨g1,fx,g3,g4⟩;dsimp only at g1 fx g3 g4⊢;refine go ?_;refine g_ (t:=decide ((aR:Int)<n)) (λbs=>?_) (λbs=>?_)
 ·have oP:aR<n:=by simpa using bs
  rw[t7,auX ⟨oP,g1⟩]at g4;refine fZ (λx:List b_×Nat=>x.2<=n/\x.1.length=n/\sV ca n aR x.2 x.1=sV ca n aR 0 vv) [0,1,2,6] [] (λx=>[(7,u x.2),(8,u ((x.2+2*aR:Nat):Int))]) (λx=>[(2000,i' v (x.1.map e))]) (λx=>n-x.2) (vv,0) ⟨atq _,g3,rfl⟩ [(2000,2000)] ?_;rintro⟨MV,a⟩ ⟨cO,d0,mu⟩;dsimp only at cO d0 mu⊢;refine go ?_;refine g_ (t:=decide (((a+2*aR:Nat):Int)<=n)) (λdx=>?_) (λdx=>?_)
  ·have F:a+2*aR<=n:=by simp at dx;omega
   rw[sV,auX ⟨F,g1⟩]at mu;refine mn [(2000,2000)] (MU e ao ca b7 ct hcmp v (n+1) MV a (a+aR) (a+2*aR) asZ asZ asZ asZ asZ) ?_;exact eK (po ca (n+1) MV a (a+aR) (a+2*aR),a+2*aR) [(2000,2000)] ⟨F,by rw[ER];exact d0,mu⟩
  have F:¬a+2*aR<=n:=by simp at dx;omega
  rw[sV,awd asZ]at mu;refine g_ (t:=decide ((a:Int)+aR<n)) (λmw=>?_) (λmw=>?_)
  ·have hm:a+aR<n:=by simp at mw;omega
   rw[as_ hm]at mu;have Y:=MU (B:=B) e ao ca b7 ct hcmp v (n+1) MV a (a+aR) n asZ asZ asZ asZ asZ;rw[mu]at Y;refine mn [(2000,2000)] Y ?_;exact eK (sV ca n aR 0 vv,2*aR) [(2000,2000)] ⟨by dsimp only;omega,by dsimp only;omega,by rw[Ig];exact g3,g4⟩
  have hm:¬a+aR<n:=by simp at mw;omega
  rw[as9 hm]at mu;subst mu;exact eK (sV ca n aR 0 vv,2*aR) [(2000,2000)] ⟨by dsimp only;omega,by dsimp only;omega,by rw[Ig];exact g3,g4⟩
 have oP:¬aR<n:=by simpa using bs
 rw[t7,awd asZ]at g4;rw[<-g4]
 exact⟨.bo [],ai,rfl,bb⟩):p:=h
abbrev lY.Ty:=@Tryz.func243
abbrev lY.Tz:=@Tryz.ntmps243
theorem lY.TA(e:b_->D)(ao:∀x,Aa (e x))(ca:b_->b_->Int)(b7:Nat)(ct:List D)(hcmp:∀x y,aU B b7 (e x::e y::ct) (u (ca x y)))(v:Value)(L:List b_)(aj:L.length<400000):
  cZ B 243 [.al v,u L.length,.fn (.func b7) [] ct] (aK [(2000,.row v (L.map e) 12 234)]) λd aO=>d=.bo []/\aO=aK [(2000,.row v ((gf ca L).map e) 12 234)]:=Tx
theorem TB(h:p:=by
 refine ko TC TD λU=>?_;refine go ?_;refine dN (af.rJ aM 2000 rfl rfl rfl rfl) ?_;have Y:=TA (B:=B) e ao ca b7 ct hcmp v L aj;rw[show L.length=(L.map e).length by simp]at Y;refine mn [(2000,2000)] Y ?_
 exact⟨.bo [],ai,rfl,bb⟩):p:=h
abbrev lY.TC:=@Tryz.func176
abbrev lY.TD:=@Tryz.ntmps176
theorem lY.MW(e:b_->D)(ao:∀x,Aa (e x))(ca:b_->b_->Int)(b7:Nat)(ct:List D)(hcmp:∀x y,aU B b7 (e x::e y::ct) (u (ca x y)))(v:Value)(L:List b_)(aj:L.length<400000):
  cZ B 176 [.al v,.fn (.func b7) [] ct] (aK [(2000,.row v (L.map e) 12 234)]) λd aO=>d=.bo []/\aO=aK [(2000,.row v ((gf ca L).map e) 12 234)]:=TB
abbrev lZ.i'(v:Value)(xs:List D):aI:=.row v xs 1 3
abbrev lZ.hr(v:Value)(i:Nat):Value:=g7 v (i*1)
abbrev lZ.ih(n:Int):D:=u n
def B4(d:D):Prop:=∃n,d=lZ.ih n/\True/\True
abbrev lZ.Th:=@Tryz.func391
abbrev lZ.Ti:=@Tryz.ntmps391
theorem lZ.Ie(e:b_->D)(ao:∀x,B4 (e x))(v:Value)(L:List b_)(a b n:Nat)(b7:Nat)(ct:List D)(ha:a+n<=L.length)(F:b+n<=L.length)(aj:L.length<1000000):
  cZ B 391 [.al v,u a,u b,u n,.fn (.func b7) [] ct] (aK [(2000,.row v (L.map e) 1 3)]) λd aO=>d=.bo []/\aO=aK [(2000,.row v ((mr L a b n).map e) 1 3)]:=Tg
abbrev lZ.Tk:=@Tryz.func378
abbrev lZ.Tl:=@Tryz.ntmps378
theorem lZ.Tm(e:b_->D)(ao:∀x,B4 (e x))(v:Value)(L:List b_)(a m b:Nat)(b7:Nat)(ct:List D)(ha:a<m)(F:m<b)(eA:b<=L.length)(aj:L.length<1000000):
  cZ B 378 [.al v,u a,u m,u b,.fn (.func b7) [] ct] (aK [(2000,.row v (L.map e) 1 3)]) λd aO=>d=.bo []/\aO=aK [(2000,.row v ((pm m L (m-a) (b-m)).map e) 1 3)]:=Tj
abbrev lZ.Tp:=@Tryz.func336
abbrev lZ.Tq:=@Tryz.ntmps336
theorem lZ.MP(e:b_->D)(ao:∀x,B4 (e x))(ca:b_->b_->Int)(b7:Nat)(ct:List D)(hcmp:∀x y,aU B b7 (e x::e y::ct) (u (ca x y)))(v:Value)(L:List b_)(a b:Nat)(F:b<=L.length)(aj:L.length<1000000)(ha:a<=b):
  cZ B 336 [.al v,u a,u b,.fn (.func b7) [] ct] (aK [(2000,.row v (L.map e) 1 3)]) λd aO=>d=.bo []/\aO=aK [(2000,.row v ((q0 ca a L (b-(a+1))).map e) 1 3)]:=To
abbrev lZ.Tt:=@Tryz.func363
abbrev lZ.Tu:=@Tryz.ntmps363
theorem lZ.MU(e:b_->D)(ao:∀x,B4 (e x))(ca:b_->b_->Int)(b7:Nat)(ct:List D)(hcmp:∀x y,aU B b7 (e x::e y::ct) (u (ca x y)))(v:Value):∀(f:Nat) (L:List b_) (a m b:Nat),b-a<f->a<m->m<b->b<=L.length->L.length<1000000->
  cZ B 363 [.al v,u a,u m,u b,.fn (.func b7) [] ct] (aK [(2000,.row v (L.map e) 1 3)]) λd aO=>d=.bo []/\aO=aK [(2000,.row v ((po ca f L a m b).map e) 1 3)]:=Ts
abbrev lZ.Ty:=@Tryz.func326
abbrev lZ.Tz:=@Tryz.ntmps326
theorem lZ.TA(e:b_->D)(ao:∀x,B4 (e x))(ca:b_->b_->Int)(b7:Nat)(ct:List D)(hcmp:∀x y,aU B b7 (e x::e y::ct) (u (ca x y)))(v:Value)(L:List b_)(aj:L.length<400000):
  cZ B 326 [.al v,u L.length,.fn (.func b7) [] ct] (aK [(2000,.row v (L.map e) 1 3)]) λd aO=>d=.bo []/\aO=aK [(2000,.row v ((gf ca L).map e) 1 3)]:=Tx
abbrev lZ.TC:=@Tryz.func285
abbrev lZ.TD:=@Tryz.ntmps285
theorem lZ.MW(e:b_->D)(ao:∀x,B4 (e x))(ca:b_->b_->Int)(b7:Nat)(ct:List D)(hcmp:∀x y,aU B b7 (e x::e y::ct) (u (ca x y)))(v:Value)(L:List b_)(aj:L.length<400000):
  cZ B 285 [.al v,.fn (.func b7) [] ct] (aK [(2000,.row v (L.map e) 1 3)]) λd aO=>d=.bo []/\aO=aK [(2000,.row v ((gf ca L).map e) 1 3)]:=TB
end Go.bS.cj
namespace Go.Proofs
open Go.RowKit Go.Shelf
attribute [local go_sem] Oper.semAt_some
variable{α:Type}
def fN.upto(f:Nat->α)(k:Nat):List α:=(List.range k).map f
theorem fN.TE(f:Nat->α)(k:Nat):fN.upto f (k+1)=fN.upto f k++[f k]:=by simp[fN.upto,auO]
theorem fN.adx(f:Nat->α)(k:Nat):(fN.upto f k).length=k:=by simp[fN.upto]
theorem fN.ady(zs:List as8):fN.upto (λj=>zs[j]?.getD []) zs.length=zs:=by apply aus;simp[fN.upto];intro i h1 A;simp[fN.upto,A]
theorem fN.adz(ea:Fence)(n:Nat)(eV:ea.fn 93)(sW:ea.round=none)(ax:1<=n)(l sX t8 oQ b off len cap:Nat)(zs:List as8)(TF:len*16<=140737488351232)(F:b<oQ)(oa Ii:List as8->World->Prop)
  (ES:∀pre x bl,oa pre bl->pre.length<len->YieldAt ea (n-1) Tryz.prog l #[.string ⟨⟨x⟩⟩] bl λe h5 =>
   (e=.returned (.bool true)/\oa (pre++[x]) h5/\Below oQ bl h5)\/(e=.returned (.bool false)/\Ii (pre++[x]) h5))
  (bl:World) (MX:bl.cell? ⟨sX,t8,none⟩=some (.slice (some ⟨b,off,none⟩) len cap)) (hc:∀j,j<len->bl.cell? ⟨b,off+j,none⟩=some (.string ⟨⟨zs[j]?.getD []⟩⟩)) (h0:oa [] bl) :
  CallsIn ea n Tryz.prog 93 #[.func (.yield l) #[] #[],.pointer (some ⟨sX,t8,none⟩)] bl λe h5=>(∃v,e=.returned v)/\
   ((∃a',a'=fN.upto (λj=>zs[j]?.getD []) len/\oa a' h5)\/(∃pre,(∃k,k<=len/\pre=fN.upto (λj=>zs[j]?.getD []) k)/\Ii pre h5)):=by
 refine callsIn_of_wp Tryz.func93 rfl eV ?_ sW;simp only[Tryz.ntmps93,at6,ath,atD,Nat.reduceAdd,Nat.reduceSub,av3,av4,awh,av9,auw,auh]
 gi_wp2
 gi_loopw [7] (λi wr=>∃k:Nat,k<=len/\i=.int .i64 k/\oa (fN.upto (λj=>zs[j]?.getD []) k) wr/\Below oQ bl wr)
  (λi _=>len-(intOf i).toNat)
 case atStart=>exact⟨0,atq _,rfl,h0,Below.refl _ _⟩
 case round =>
  obtain⟨k,Y,rfl,Ij,cX⟩:=hrel;have adA:k<len->wr.cell? ⟨b,off+k,none⟩=some (.string ⟨⟨zs[k]?.getD []⟩⟩):=λh=>(cX.cell (p:=⟨b,off+k,none⟩) F).trans (hc k h);by_cases bi:k<len
  ·obtain⟨fn,tmps,assign,body,hy,fF⟩:=ES _ (zs[k]?.getD []) wr Ij (by rw[fN.adx];exact bi);have aqV:=adA bi
   gi_wp2
   refine fF.mono ?_;rintro e ym (⟨rfl,adB,MY⟩|⟨rfl,adC⟩)
   ·
    gi_wp2
    go_roundw
    case rel=>exact⟨k+1,by omega,by simp,by rw[fN.TE];exact adB,cX.trans MY⟩
    case measure=>simp[intOf];omega
   gi_wp2
   refine bodyPost_ret (results_none rfl _ _ _) rfl ?_;exact⟨⟨_,rfl⟩,.inr ⟨_,⟨k+1,by omega,(fN.TE _ _).symm⟩,adC⟩⟩
  obtain rfl:k=len:=asZ
  gi_wp2
  go_end0
  exact⟨⟨_,rfl⟩,.inl ⟨_,rfl,Ij⟩⟩
variable{k:Nat}
theorem fN.adD(zs:List as8)(Y:k<=zs.length):fN.upto (λj=>zs[j]?.getD []) k=zs.take k:=by apply aus;simp[fN.upto,Y];intro i h1 A;(have:i<zs.length:=by simp[fN.upto]at h1;omega);simp[fN.upto,this]
def fN.ET(oQ:Nat)(bl:World)(m8:Value)(zs:List as8):Prop :=
 ((∃a,m8=.slice a 0 0)/\zs=[])\/∃b off cap,m8=.slice (some ⟨b,off,none⟩) zs.length cap/\b<oQ/\∀j,j<zs.length->bl.cell? ⟨b,off+j,none⟩=some (.string ⟨⟨zs[j]?.getD []⟩⟩)
variable{oQ:Nat}{m8:Value}
theorem fN.ET.below{bw bV:World}(h:Below oQ bw bV){zs:List as8}:fN.ET oQ bw m8 zs->fN.ET oQ bV m8 zs
 |.inl e=>.inl e
 |.inr ⟨b,off,cap,e,F,hc⟩=>.inr ⟨b,off,cap,e,F,λj ad=>(h.cell (p:=⟨b,off+j,none⟩) F).trans (hc j ad)⟩
theorem fN.adE(ea:Fence)(n:Nat)(eV:ea.fn 93)(sW:ea.round=none)(l sX t8:Nat)(a:Option Addr)(oa:List as8->World->Prop)(bl:World)(MX:bl.cell? ⟨sX,t8,none⟩=some (.slice a 0 0))(h0:oa [] bl):
  CallsIn ea n Tryz.prog 93 #[.func (.yield l) #[] #[],.pointer (some ⟨sX,t8,none⟩)] bl λe h5=>(∃v,e=.returned v)/\oa [] h5:=by
 refine callsIn_of_wp Tryz.func93 rfl eV ?_ sW;simp only[Tryz.ntmps93,at6,ath,atD,Nat.reduceAdd,Nat.reduceSub,av3,av4,awh,av9,auw,auh]
 gi_wp2
 gi_loopw [7] (λi wr=>i=.int .i64 0/\oa [] wr) (λ_ _=>0)
 case atStart=>exact⟨rfl,h0⟩
 case round =>
  obtain⟨rfl,Ij⟩:=hrel
  gi_wp2
  go_end0
  exact⟨⟨_,rfl⟩,Ij⟩
theorem fN.TG(ea:Fence)(n:Nat)(eV:ea.fn 93)(sW:ea.round=none)(ax:1<=n)(sX t8 oQ:Nat)(m8:Value)(zs:List as8)(TF:zs.length*16<=140737488351232)(w:World)(MX:sX<w.heap.size)(adF:oQ<=w.heap.size)
  (hc:w.cell? ⟨sX,t8,none⟩=some m8) (bg:fN.ET oQ w m8 zs) :
  SeqStopsK ea n Tryz.prog 93 #[.pointer (some ⟨sX,t8,none⟩)] (λx:as8=>#[Value.string ⟨⟨x⟩⟩]) (Below oQ) (λa'=>a'=zs) (λpre=>pre <+: zs) zs.length w:=λl oa Ii bl sY _ _ ES h0=>by
 have ob:=(sY.cell (p:=⟨sX,t8,none⟩) MX).trans hc;rcases bg.below (sY.mono adF)with⟨⟨a,rfl⟩,rfl⟩|⟨b,off,cap,rfl,F,hcs⟩
 ·exact(fN.adE ea n eV sW l sX t8 a oa bl ob h0).mono λe h5 ⟨ao,ad⟩=>⟨ao,.inl ⟨_,rfl,ad⟩⟩
 refine(fN.adz ea n eV sW ax l sX t8 oQ b off zs.length cap zs TF F oa Ii ES bl ob hcs h0).mono ?_;rintro e h5 ⟨ao,⟨a',rfl,ad⟩|⟨pre,⟨k,Y,rfl⟩,ad⟩⟩
 ·exact⟨ao,.inl ⟨_,fN.ady zs,ad⟩⟩
 exact⟨ao,.inr ⟨_,by rw[fN.adD zs Y];exact List.take_prefix _ _,ad⟩⟩
open Go.Maps Go.Sort
variable{P:Program}{ρ:Ren}{w0 bl h5:World}
theorem adG{n:Nat}(h:Below n w0 bl)(bz:Below n w0 h5)(hs:bl.heap.size<=h5.heap.size):Below n bl h5 :=
 ⟨bz.os.trans h.os.symm,bz.tape.trans h.tape.symm,bz.output.trans h.output.symm,hs,λk Y=>(bz.block k Y).trans (h.block k Y).symm⟩
theorem fN.adH{ea:Fence}{m l:Nat}{x:as8}{oa:List as8->World->Prop}{pre:List as8}(B5:oa pre bl)(F:∀s bl,oa s bl->Below oQ w0 bl)(h:YieldAt ea m P l #[encStr x] bl λe h5=>e=.returned (.bool true)/\oa (pre++[x]) h5/\KeepsWalks bl h5): YieldAt ea m P l #[encStr x] bl λe h5=>(e=.returned (.bool true)/\oa (pre++[x]) h5/\Below oQ bl h5)\/(e=.returned (.bool false)/\False):=by obtain⟨fn,tmps,assign,body,hy,fF⟩:=h;exact⟨fn,tmps,assign,body,hy,fF.mono λe w' ⟨h1,A,Z⟩=>.inl ⟨h1,A,adG (F _ _ B5) (F _ _ A) Z.size⟩⟩
theorem fN.adI(L:SlLaysZ.n11 P ρ)(ea:Fence)(n:Nat)(rT:ea.fn (ρ.f 11))(sW:ea.round=none)(ax:2<=n)(g:Nat)(r2:Array Value)(MZ:ea.fn g)(eg:∀args w,(callFunc g args).run P w=.ok (.enter g args) w)
  (S nX:List as8->Prop) (bC:Nat) (hN:bC<=maxLen) (Ik:bC*16<=140737488355328) (w:World) (M0:SeqStopsK ea (n-1) P g r2 (λx=>#[encStr x]) (Below w.heap.size) S nX bC w) :
  CallsIn ea n P (ρ.f 11) #[.slice none 0 0,.func (.func g) #[] r2] w λe w'=>∃(v:Value) (cC:List as8),e=.returned v/\S cC/\w'.ownsRow w.heap.size (ρ.t 26) 1 v cC.length (cC.map encStr)/\(v=.slice none 0 0↔cC=[])/\Below w.heap.size w w':=by
 have h1:1<=n:=asZ
 have mixed:=L.mixed;have t0:=L.t0;have a0:=L.a0;have z0:=L.z0;have v0:=L.v0;have t24:=L.t24;have a24:=L.a24;have z24:=L.z24;have v24:=L.v24;have t26:=L.t26;have a26:=L.a26;have z26:=L.z26;have v26:=L.v26;have t28:=L.t28;have a28:=L.a28;have z28:=L.z28;have v28:=L.v28
 have a6:ρ.t 24≠ρ.t 26:=λe=>by have h:=L.t24;rw[e,L.t26]at h;cases h
 have u0:=run_underlying L.t0;have u24:=run_underlying L.t24;have u26:=run_underlying L.t26;have u28:=run_underlying L.t28
 obtain⟨_,_,M1⟩:=L.f11;refine callsIn_of_wp_marks M1 rfl rT ?_ sW;simp only[SlBodyZ.n11_ntmps ρ,at6,ath,atD,Nat.reduceAdd,Nat.reduceSub,av3,av4,awh,av9,auw,auh]
 gi_wp2
 refine wpIn_rangeFunc ?_;intro fn iz;rw[sW];obtain⟨B,Il⟩:∃B,w.alloc (.cells #[.slice none 0 0] (ρ.t 24))=B:=⟨_,rfl⟩;have dt:B.heap.size=w.heap.size+1:=by rw[<-Il];simp
 have pb:B.heap[w.heap.size]?=some (.cells #[.slice none 0 0] (ρ.t 24) (0,0)):=by rw[<-Il];exact World.alloc_heap_new w _
 have rN:Below w.heap.size w B:=by rw[<-Il];exact(Below.refl _ w).alloc (atg _) _
 rw[Il];obtain⟨vw,B6⟩:∃vw,(B.alloc (.deferred (some []))).alloc (.loop (AnyZ.apRec ρ fn (.func (.func g) #[] r2) w.heap.size B.heap.size .ready none))=vw:=⟨_,rfl⟩
 have Hl:∀k,k<B.heap.size->vw.heap[k]?=B.heap[k]?:=λk Y=>by
  rw[<-B6];exact(Below.heap_alloc _ _ k as0).trans (Below.heap_alloc _ _ k Y)
 have mS:Below w.heap.size w vw:=by rw[<-B6];exact(rN.alloc rN.size _).alloc (by have:=rN.size;simp;omega) _
 have hq:vw.heap.size=B.heap.size+2:=by rw[<-B6];simp
 have fY:AnyZ.ApAt ρ w fn (.func (.func g) #[] r2) w.heap.size (B.heap.size+1) B.heap.size [] vw :=
  ⟨⟨_,(Hl w.heap.size asZ).trans pb,⟨rfl,.inl ⟨rfl,rfl⟩⟩,by simp⟩,
   by rw[<-B6];have:=World.alloc_heap_new (B.alloc (.deferred (some []))) (.loop (AnyZ.apRec ρ fn (.func (.func g) #[] r2) w.heap.size B.heap.size .ready none));rwa [World.size_alloc]at this,
   by rw[<-B6];exact(Below.heap_alloc _ _ _ as1).trans (World.alloc_heap_new B _),mS⟩
 refine⟨B.heap.size+1,[{target:=.collected B.heap.size,args:=#[]}],vw,{target:=.fn (.func g) r2,args:=#[.func (.yield (B.heap.size+1)) #[] #[]]},vw,g,
  #[.func (.yield (B.heap.size+1)) #[] #[]]++r2,vw,?_,?_,?_,?_,λ_=>h1,?_⟩
 ·rw[<-B6];exact run_enterLoop_outer _ _ _ _ _
 ·simp[resolve,go_sem]
 ·intro yn fV;simp[Target.leads]at fV;subst fV;exact MZ
 ·simp[invoke,go_sem,eg]
 refine(M0 (B.heap.size+1) (AnyZ.ApAt ρ w fn (.func (.func g) #[] r2) w.heap.size (B.heap.size+1) B.heap.size) (λ_ _=>False) vw mS (AnyZ.ap_abides ρ _ _ _ _ _ _ _ mS.size) (λ_ _ _ _ hs _ _=>hs)
  (λpre x bl B5 aj=>fN.adH B5 (λs bl h=>AnyZ.ApAt.below h)<|AnyZ.apYield {L with} ea (n-1-1) w fn iz _ w.heap.size (B.heap.size+1) B.heap.size asZ asZ asZ (atg _) asZ bC hN Ik pre x bl B5 aj) fY).mono ?_
 rintro e TH ⟨⟨v0,rfl⟩,mf⟩;obtain⟨cC,gV,A⟩:=mf.resolve_right (λ⟨_,_,M⟩=>M);obtain⟨v,W,dM,pU⟩:=A.box;have rI:=run_endLoop (P:=P) A.L (by simp[AnyZ.apRec]);obtain⟨ym,EU⟩:∃ym,TH.putObj (B.heap.size+1) (.loop {AnyZ.apRec ρ fn (.func (.func g) #[] r2) w.heap.size B.heap.size .ready none with state:=.exhausted})=ym:=⟨_,rfl⟩;rw[EU]at rI;have wX:TH.grownBy ym (some (B.heap.size+1)):=by rw[<-EU];exact grownBy_putObj_a _ _ _
 have Ac:ym.heap[w.heap.size]?=some (.cells #[v] (ρ.t 24) (0,0)):=by rw[<-EU];exact(World.putObj_heap_other asZ).trans W
 have TI:ym.heap[B.heap.size]?=some (.deferred (some [])):=by rw[<-EU];exact(World.putObj_heap_other asZ).trans A.K
 have TJ:=dM.kept wX (ownsRow_ne_a dM A.L (λft e=>by first|cases e|exact a6 (Obj.cells.inj e).2.1));have B7:Below w.heap.size w ym:=A.below.grown wX A.below.size (λk e=>by cases e;omega);obtain⟨dx,t_⟩:=cell_of_box_a Ac;clear EU;refine⟨none,ym,rI,?_⟩
 gi_wp2
 rw[<-dt];refine⟨by simp,.inl ⟨_,_,rfl,run_takeDeferred TI,?_⟩⟩;exact⟨_,results_tmp rfl _ _ _,v,cC,rfl,gV,TJ.kept (grownBy_putObj_a _ _ _) (ownsRow_ne_a TJ TI (λft e=>by first|cases e|exact a6 (Obj.cells.inj e).2.1)),pU,B7.grown (grownBy_putObj_a _ _ _) B7.size (λk e=>by cases e;omega)⟩
theorem fN.TK(L:SlLaysZ.n8 P ρ)(ea:Fence)(n:Nat)(fX:ea.fn (ρ.f 8))(rT:ea.fn (ρ.f 11))(sW:ea.round=none)(ax:3<=n)(g:Nat)(r2:Array Value)(MZ:ea.fn g)(eg:∀args w,(callFunc g args).run P w=.ok (.enter g args) w)(S nX:List as8->Prop)(bC:Nat)(hN:bC<=maxLen)(Ik:bC*16<=140737488355328)(w:World)(M0:SeqStopsK ea (n-1-1) P g r2 (λx=>#[encStr x]) (Below w.heap.size) S nX bC w): CallsIn ea n P (ρ.f 8) #[.func (.func g) #[] r2] w λe w'=>∃(v:Value) (cC:List as8),e=.returned v/\S cC/\w'.ownsRow w.heap.size (ρ.t 26) 1 v cC.length (cC.map encStr)/\(v=.slice none 0 0↔cC=[])/\Below w.heap.size w w':=by(have h1:1<=n:=by omega);have TL:∀args w,(callFunc (ρ.f 11) args).run P w=.ok (.enter (ρ.f 11) args) w:=L.f11.enters rfl;have mixed:=L.mixed;have t0:=L.t0;have a0:=L.a0;have z0:=L.z0;have v0:=L.v0;have t24:=L.t24;have a24:=L.a24;have z24:=L.z24;have v24:=L.v24;have t26:=L.t26;have a26:=L.a26;have z26:=L.z26;have v26:=L.v26;have t28:=L.t28;have a28:=L.a28;have z28:=L.z28;have v28:=L.v28;have u0:=run_underlying L.t0;have u24:=run_underlying L.t24;have u26:=run_underlying L.t26;have u28:=run_underlying L.t28;obtain⟨_,_,M1⟩:=L.f8;refine callsIn_of_wp M1 rfl fX ?_ sW;simp only[SlBodyZ.n8_ntmps ρ,at6,ath,atD,Nat.reduceAdd,Nat.reduceSub,av3,av4,awh,av9,auw,auh];gi_wp2_with (gi_at_fn (ρ.f 11);refine(fN.adI {L with} ea (n-1) rT sW asZ g r2 MZ eg S nX bC hN Ik _ M0).mono ?_;rintro e w' ⟨v,cC,rfl,gV,dM,pU,F⟩);go_ret;exact⟨v,cC,rfl,gV,dM,pU,F⟩
end Go.Proofs
