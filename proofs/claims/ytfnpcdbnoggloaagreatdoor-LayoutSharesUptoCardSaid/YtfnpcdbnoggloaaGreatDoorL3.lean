/- Contracts of the program's functions, part 3. No conditions of its own. -/
import Derived.Test.YtfnpcdbnoggloaaGreatDoorL2
import Derived.RangeFuncBox
import Derived.RangeFuncLeaves
import Derived.Shelf.Abstract
import Derived.WalkKit
import Derived.OwnWalkIn
import Derived.TacticsInMore
import Derived.LoopNIn
import Derived.LoopIn
import Derived.Test.YtfnpcdbnoggloaaGreatDoorProg
import Derived.Shelf.SlIter.Collect
import Derived.RangeFuncKeeps
set_option linter.unnecessarySimpa false
set_option linter.unusedSimpArgs false
set_option linter.unusedVariables false
set_option maxRecDepth 100000
set_option maxHeartbeats 16000000
namespace Go.bR
open Go Go.RowKit
variable{P:Program}{B:World}{am:Nat}
theorem aq.u2{d:D}:aq .undef (.l5 false d):=⟨λ_ _ _ h=>by rw[h.abi];exact .u2 _⟩
variable{α:Type}
def H3(eu:α->Prop)(l:α->List (Nat×D))(hs:α->List (Nat×aJ))(fx:α->Nat)(x:α)(K:cJ->au->Prop):cJ->au->Prop
 |.normal,z=>∃b1 m,eu b1/\fx b1<fx x/\nS z (l b1) (hs b1) m
 |.exit id,z=>K (.exit id) z
 |.ret,z=>K .ret z
theorem W.H3{U:b7 P B am}{z:au}{K:cJ->au->Prop}{c:Code}{α:Type}{eu:α->Prop}(l:α->List (Nat×D))(hs:α->List (Nat×aJ))(fx:α->Nat)(ek:α)(i0:eu ek)(m:List (Nat×Nat))(h1:nS z (l ek) (hs ek) m)
  (round:∀x,eu x->W U c (hf (l x) (hs x)) (Go.bR.H3 eu l hs fx x K)):W U (.loop c) z K :=
 W.ec (α:={x // eu x}) (λx=>l x.1) (λx=>hs x.1) (λx=>fx x.1) ⟨ek,i0⟩ m h1 λx=>(round x.1 x.2).mono λe aA h=>by
  cases e with
  |normal=>obtain⟨b1,nT,h1,A,Z⟩:=h;exact⟨⟨b1,h1⟩,nT,A,Z⟩
  |exit id=>exact h
  |ret=>exact h
end Go.bR
namespace Go.bR.ck
open Go Go.Proofs
variable{B:World}{am id:Nat}{ops:Array Oper}{z:au}{K:cJ->au->Prop}{α:Type}
theorem eH{U:b7 Tryz.prog B am}(dA:List (Nat×aJ))(ek:α)
  (R:α->List D) (dY:α->List (Nat×Nat×Option aJ)) (ap:List Nat) (S:List (Nat×Nat)) (step:Eu ap S z.t dA R dY Tryz.prog B am ax ops ops.toList 0) (pb:∀x,K .normal (BP z.t dA R dY ops x))
  (gc:(wW am ops.toList 0&&(BO ops.toList&&(BN ap ops.toList 0&&x9 ap ops.size S)))=true:=by decide +kernel)
  (gS:∀x,mi (dY x)=S:=by exact λ_=>rfl) (h0:mJ z dA:=by repeat (first|exact trivial|refine⟨rfl,?_⟩)):W U (.region id ops true) z K:=W.acQ aM mixed dA ek R dY ap S gc gS h0 step pb
variable{p:Prop}
theorem dw{a8:Prop}(q:a8)(f:k_ a8->p:=by
 intro hl
 (try conv=>whnf)
 repeat (first
  |(refine⟨λy => .inl ?_,?_⟩
    ·(conv=>whnf)
     repeat (first
      |exact .refl _
      |(refine And.intro rfl ?_;conv=>whnf)
      |(refine And.intro trivial ?_;conv=>whnf)
      |(refine sL (λh=>ax5) ?_;conv=>whnf)
      |(refine sL (ax5) ?_;conv=>whnf)
      |(refine⟨_,λh=>z7 rfl atw,?_⟩;conv=>whnf)
      |(refine⟨_,λ_=>rfl,?_⟩;conv=>whnf)
      |(refine And.intro (λh=>h) ?_;conv=>whnf)
      |(refine And.intro (λh=>by first|omega|(simp at*;omega)) ?_;conv=>whnf)
      |(refine⟨_,_,λ_=>by assumption,i1,?_⟩;conv=>whnf))
    (try conv=>whnf))
  |(refine⟨λy => ⟨_,_,rfl,rfl,.inl ⟨by assumption,.inl ?_⟩⟩,?_⟩
    ·(conv=>whnf)
     repeat (first
      |exact .refl _
      |(refine And.intro rfl ?_;conv=>whnf)
      |(refine And.intro trivial ?_;conv=>whnf)
      |(refine sL (λh=>ax5) ?_;conv=>whnf)
      |(refine sL (ax5) ?_;conv=>whnf)
      |(refine⟨_,λh=>z7 rfl atw,?_⟩;conv=>whnf)
      |(refine⟨_,λ_=>rfl,?_⟩;conv=>whnf)
      |(refine And.intro (λh=>h) ?_;conv=>whnf)
      |(refine And.intro (λh=>by first|omega|(simp at*;omega)) ?_;conv=>whnf)
      |(refine⟨_,_,λ_=>by assumption,i1,?_⟩;conv=>whnf))
    (try conv=>whnf))
  |(refine⟨λy => ⟨_,_,rfl,rfl,.inr (.inl ⟨by first|assumption|(show _ = false;assumption)|(show _ = true;assumption),rfl,?_⟩)⟩,?_⟩
    ·exact .refl _
    (try conv=>whnf))
  |(refine⟨λy => ⟨_,_,rfl,rfl,.inr (.inr ?_)⟩,?_⟩
    ·(conv=>whnf)
     repeat (first
      |exact .refl _
      |(refine And.intro rfl ?_;conv=>whnf)
      |(refine And.intro trivial ?_;conv=>whnf)
      |(refine sL (λh=>ax5) ?_;conv=>whnf)
      |(refine sL (ax5) ?_;conv=>whnf)
      |(refine⟨_,λh=>z7 rfl atw,?_⟩;conv=>whnf)
      |(refine⟨_,λ_=>rfl,?_⟩;conv=>whnf)
      |(refine And.intro (λh=>h) ?_;conv=>whnf)
      |(refine And.intro (λh=>by first|omega|(simp at*;omega)) ?_;conv=>whnf)
      |(refine⟨_,_,λ_=>by assumption,i1,?_⟩;conv=>whnf))
    (try conv=>whnf)))
 exact hl.cr):p:=f ⟨q⟩
variable{R:α->List D}{i:Nat}{dst:Option Tmp}{aA:au}
theorem dh{ap:List Nat}{S:List (Nat×Nat)}{dA:List (Nat×aJ)}{dY:α->List (Nat×Nat×Option aJ)}{x:α}(b1:α)
  (h1:sJ ap i 0 (R b1)=sJ ap i 0 (R x):=by exact rfl) (A:vm ap i (dY b1)=vm ap i (dY x):=by exact rfl) (Z:HN dst aA ((R b1).getD i .any):=by first|exact .refl _|exact trivial|exact sN) (aG:wX i aA (dY b1):=by
   (conv=>whnf);repeat (first|exact trivial|(refine⟨HZ,?_⟩;conv=>whnf))) (bb:x_ S i aA (gk (aL dA) ap S (dY x) i) (dA.map (·.1)++S.map (·.2)):=by
   (conv=>whnf);repeat (first|exact trivial|(refine And.intro rfl ?_;conv=>whnf))):jL ap S dA R dY x i dst aA:=⟨b1,h1,A,Z,aG,bb⟩
theorem cw{ap:List Nat}{S:List (Nat × Nat)}{dA:List (Nat × aJ)}{dY:α->List (Nat × Nat × Option aJ)}(x : α)(Z : HN dst aA ((R x).getD i .any) := by first|exact .refl _|exact trivial|exact sN)(aG : wX i aA (dY x) := by
      (conv=>whnf);repeat (first|exact trivial|(refine⟨HZ,?_⟩;conv=>whnf))) (bb:x_ S i aA (gk (aL dA) ap S (dY x) i) (dA.map (·.1)++S.map (·.2)):=by
      (conv=>whnf);repeat (first|exact trivial|(refine And.intro rfl ?_;conv=>whnf))):jL ap S dA R dY x i dst aA:=⟨x,rfl,rfl,Z,aG,bb⟩
variable{fu:Prop}
theorem bS{a b c:α->Prop}{a8:Prop}(h:∀y,c y)(q:a8)(f:k_ a8->fu:=by intro hl;refine dw ?_;exact hl.cr):(∀y,a y\/(b y\/c y))/\fu:=⟨λy=>.inr (.inr (h y)),f ⟨q⟩⟩
theorem B2{a b c:α->Prop}{a8:Prop}(h:∀y,b y)(q:a8)(f:k_ a8->fu:=by intro hl;refine dw ?_;exact hl.cr):(∀y,a y\/(b y\/c y))/\fu:=⟨λy=>.inr (.inl (h y)),f ⟨q⟩⟩
theorem Ej{a8:Prop}(q:a8)(f:k_ a8->p:=by
 intro hl;refine⟨λy=>.inr (.inl ?_),?_⟩
 ·(conv=>whnf)
  intro kt;exact dh kt
 refine dw ?_
 exact hl.cr):p:=f ⟨q⟩
theorem vs{a8:Prop}(q:a8)(f:k_ a8->p:=by
 intro hl;refine⟨λy=>.inr (.inl ?_),?_⟩
 ·(conv=>whnf)
  apply cB;exact cw y
 refine dw ?_
 exact hl.cr):p:=f ⟨q⟩
theorem dQ{v H4 a8:Prop}(c:H4->fu)(q:a8)(f:k_ a8->H4:=by exact ax'):v\/fu:=.inr (c (f ⟨q⟩))
variable{v:Value}{j k:Nat}
theorem B3(h:i=j):aq (.ai (hW v (i*k))) (.ai (hW v (j*k))):=.of_eq (by rw[h])
theorem bI{bL a8:Prop}{a b:α->Prop}(y:α)(h:a y)(q:a8)(f:k_ a8->b y:=by exact ax'):∃y,(bL->a y)/\b y:=⟨y,λ_=>h,f ⟨q⟩⟩
theorem Mq{bL bX C:Prop}{K a8:Value->Prop}(h1:bL)(A:bX)(q:∀v,a8 v)(Z:C:=by exact λh=>by cases h)(f:∀v,k_ (a8 v)->K v:=by intro v hl;(conv=>whnf);refine go ?_;exact hl.cr):bL/\bX/\C/\∀v,K v:=⟨h1,A,Z,λv=>f v ⟨q v⟩⟩
theorem yf{U:b7 Tryz.prog B am}{a8:Prop}(q:a8)(gc:Hk ops=true:=by decide +kernel)(f:k_ a8->jD Tryz.prog B ax am ops ops.toList z (K .normal):=by exact ax'):W U (.region id ops true) z K:=W.u' aM mixed gc (f ⟨q⟩)
variable{c:Code}{dI:List (Nat×aJ)}
theorem gf{U:b7 Tryz.prog B am}(eu:α->Prop)(hk wI:List Nat)(l:α->List (Nat×D))(hs:α->List (Nat×aJ))(fx:α->Nat)(ek:α)(i0:eu ek)(m:List (Nat×Nat)){L:List (Nat×D)}
  (round:∀x,eu x->W U c (hf (L++l x) (dI++hs x)) (H3 eu (λx=>L++l x) (λx=>dI++hs x) fx x K)) (a1:t7 z hk L:=by exact yd) (hO:yc z wI dI:=by exact yd)
  (h1:nS z (L++l ek) (dI++hs ek) m:=by exact⟨cO,rfl,cO⟩):W U (.loop c) z K:=W.H3 (λx=>L++l x) (λx=>dI++hs x) (λx=>fx x) ek i0 m h1 round
variable{eu:α->Prop}{fx:α->Nat}
theorem eI{l:α->List (Nat×D)}{hs:α->List (Nat×aJ)}{x:α}(b1:α)(m:List (Nat×Nat))(hh:eu b1)(h1:fx b1<fx x:=by(try dsimp only);omega)(A:nS z (l b1) (hs b1) m:=by exact⟨cO,rfl,cO⟩):
  ∃b1 m,eu b1/\fx b1<fx x/\nS z (l b1) (hs b1) m:=⟨b1,m,hh,h1,A⟩
def adi(eu:α->Prop)(l:α->List (Nat×D))(hs:α->List (Nat×aJ))(K:cJ->au->Prop):cJ->au->Prop
 |.normal,z=>∃x m,eu x/\nS z (l x) (hs x) m
 |.exit id,z=>K (.exit id) z
 |.ret,z=>K .ret z
theorem ns{U:b7 Tryz.prog B am}{a b:Code}(eu:α->Prop)(hk wI:List Nat)(l:α->List (Nat×D))(hs:α->List (Nat×aJ)){L:List (Nat×D)}
  (h:W U a z (adi eu (λx=>L++l x) (λx=>dI++hs x) K)) (bB:∀x,eu x->W U b (hf (L++l x) (dI++hs x)) K) (a1:t7 z hk L:=by exact yd) (hO:yc z wI dI:=by exact yd):W U a z (zo U b K) :=
 h.mono λe aA Y=>by
  cases e with
  |normal=>obtain⟨x,m,F,h1⟩:=Y;exact(bB x F).fb _ _ m h1
  |exit id=>exact Y
  |ret=>exact Y
theorem gK{l:α->List (Nat×D)}{hs:α->List (Nat×aJ)}(b1:α)(m:List (Nat×Nat))(hh:eu b1)(A:nS z (l b1) (hs b1) m:=by exact⟨cO,rfl,cO⟩):∃b1 m,eu b1/\nS z (l b1) (hs b1) m:=⟨b1,m,hh,A⟩
theorem g6{U:b7 Tryz.prog B am}{c:Operand}{x y:Code}{t:Bool}{bL bX:Prop}(h1:t=true->bL)(A:t=false->bX)(hc:z.ba c=.bool t:=by exact rfl)(nZ:k_ bL->W U x z K:=by exact ayx)
  (tX:k_ bX->W U y z K:=by exact ayx):W U (.cond c x y) z K:=W.cond t hc (λh=>nZ ⟨h1 h⟩) λh=>tX ⟨A h⟩
theorem cb{U:b7 Tryz.prog B am}{c:Operand}{x y:Code}{t:Bool}(h1:t=true->W U x z K)(A:t=false->W U y z K)(hc:z.ba c=.bool t:=by exact rfl):W U (.cond c x y) z K:=W.cond t hc h1 A
theorem vr{U:b7 Tryz.prog B am}{c:Operand}{x y:Code}{t:Bool}{bL:Prop}(h:t=true)(q:bL)(hc:z.ba c=.bool t:=by exact rfl)(nZ:k_ bL->W U x z K:=by exact ayx):W U (.cond c x y) z K:=W.cond t hc (λ_=>nZ ⟨q⟩) λbB=>by rw[h]at bB;cases bB
theorem z'{U:b7 Tryz.prog B am}{c:Operand}{x y:Code}{t:Bool}{bL:Prop}(h:t=false)(q:bL)(hc:z.ba c=.bool t:=by exact rfl)(nZ:k_ bL->W U y z K:=by exact ayx):W U (.cond c x y) z K:=W.cond t hc (λbB=>by rw[h]at bB;cases bB) λ_=>nZ ⟨q⟩
variable{d:D}
theorem pe{l:List α}{e:α->D}{V:Nat}(h:i<l.length)(N:e l[i]=d)(bC:V=i:=by first|rfl|omega):(l.map e)[V]?=some d:=by subst bC;simp[h,N]
end Go.bR.ck
namespace Go.bR
open Go Go.RowKit
variable{P:Program}{B:World}{am:Nat}{z:au}{dst:Option Tmp}{op:Op}{st:au->Prop}
theorem af.adj{K:au->Prop}(h:af P B am z dst op st)(Y:∀(U:b7 P B am) (w:World) (C:Nat->Nat) (a:Act) (aA:au),bH U w C aA a->st aA->K aA):af P B am z dst op K :=
 ⟨λU w C a M N type pos after a8=>Oper.wp_mono (λbw w' ⟨aA,aR,h1,A⟩=>⟨aA,aR,Y U w' aR bw aA A h1,A⟩) (h.run U w C a M N type pos after a8)⟩
variable{t jM:Nat}{x y:Operand}{v:Value}{xs:List D}{aS:atG}{cc aF:bx}
theorem af.adk{ax:List bx}(hT:df P ax){bI s:Nat}(q:Nat){K:au->Prop}(av:dx ax t=some cc)(b6:cc.kind=.slice bI)(fq:dx ax bI=some aF)(bC:aF.zero≠none)(h1:aF.aC=1)
  (qM:P.underlying jM=some .string) (F:z.ba x=.ai v) (hH:z.H q=some (.row v xs 1 bI)) (hy:z.ba y=.O aS) (ma:(xs.length+aS.length)*aF.bytes<=140737488355328) (oA:xs.length+aS.length<=9223372036854775807)
  (hK:∀a n cap,K (((z.bZ q none).bZ s (some (.row (.slice a n cap) (xs++aS.map λc=>D.int .u8 c.toNat) 1 bI))).put (some s) (.ai (.slice a n cap)))):af P B am z (some s) (.call ⟨.builtin .append,#[x,y],#[t,jM]⟩) K :=
 af.adj (st:=λaA=>∃c9,aA=((z.bZ q none).bZ s (some (.row c9 (xs++aS.map λc=>D.int .u8 c.toNat) 1 bI))).put (some s) (.ai c9)) (.acY hT q av b6 fq bC h1 qM F hH hy ma oA λc9=>⟨c9,rfl⟩) λU w C a aA M ⟨c9,ao⟩=>by
  subst ao;have:=M.heap.cj s (.row c9 (xs++aS.map λc=>D.int .u8 c.toNat) 1 bI) (by rw[DV];exact pT ..);obtain⟨dE,cap,rfl,_⟩:=this;exact hK _ _ _
theorem W.BT{U:b7 P B am}{z:au}{K:cJ->au->Prop}{c:Code}(s q:Nat){o:aJ}(hs:z.H s=some o)(h:W U c ((z.bZ s none).bZ q (some o)) K):W U c z K:=⟨λa w C M=>h.run a w C (M.BT hs)⟩
variable{args:Array Operand}{mM:Array TypeId}{b8:FuncId}{cu:List D}{hs:List (Nat×aJ)}
theorem af.EL{K:au->Prop}{f:Operand}{first:List D}(M:z.ba f=.fn (.func b8) first cu)
  (gZ:List D) (m:List (Nat×Nat)) {c7:List (Nat×aJ)} {eX:D} (h:x' z.H m hs) (hc:c5 P B b8 gZ (aL hs) λd aP=>d=eX/\aP=aL c7) (hm:j0 m=true) (dO:dN (first++args.toList.map z.ba++cu) gZ)
  (hK:K (({t:=z.t,H:=qB z.H (aL c7) m}:au).put dst eX)):af P B am z dst (.call ⟨.value f,args,mM⟩) K :=
 af.call M gZ m (c5.wZ h hc) hm dO λd aP G=>by
  obtain⟨rfl,rfl⟩:=G;exact⟨_,.refl _,hK⟩
variable{α:Type}{eu:α->Prop}{c7:α->List (Nat×aJ)}{eX:α->D}
theorem af.yg{K:au->Prop}{f:Operand}{first:List D}(M:z.ba f=.fn (.func b8) first cu)
  (gZ:List D) (m:List (Nat×Nat))      (h:x' z.H m hs) (hc:c5 P B b8 gZ (aL hs) λd aP=>∃x,eu x/\d=eX x/\aP=aL (c7 x)) (hm:j0 m=true) (dO:dN (first++args.toList.map z.ba++cu) gZ)
  (hK:∀x,eu x->K (({t:=z.t,H:=qB z.H (aL (c7 x)) m}:au).put dst (eX x))):af P B am z dst (.call ⟨.value f,args,mM⟩) K :=
 af.call M gZ m (c5.wZ h hc) hm dO λd aP G=>by
  obtain⟨x,F,rfl,rfl⟩:=G;exact⟨_,.refl _,hK x F⟩
variable{fV:Operand}{aB:List D}{Ea:IntKind}{qy:TypeInfo}{d:D}
theorem af.adl{K:au->Prop}{bI n:Nat}{i:Int}(an:P.underlying t=some (.array n bI))(hi:P.info? bI=some qy)(hsz:qy.size=1)(jZ:wF P bI=some false)
  (F:z.ba x=.agg aB) (rN:z.ba fV=.int Ea i) (h0:0<=i) (h1:i<n) (N:aB[i.toNat]?=some d) (hK:K (z.put dst d)):af P B am z dst (.index t x fV) K :=
 .val λU w C a M type pos after=>by
  have bS:=cG M.tmps x;rw[F]at bS
  obtain⟨vs,fX,ae⟩:=bS.tx;have u6:=cG M.tmps fV;rw[rN]at u6
  have bf:i.toNat<vs.length:=by rw[<-ae.1];exact e7 N
  refine⟨vs[i.toNat],w,C,z,d,?_,M,ae.2 _ _ _ N (atK bf),hK⟩;simp[execOp,Instr.index,asIntOf,fX,u6.fw,run_underlying an,h0,h1,zx hi,hsz,part,G_ jZ,bf,Result.andThen]
end Go.bR
namespace Go.bR.ck
open Go Go.Proofs
variable{B:World}{p:Prop}
theorem rR(h:p:=by repeat (first|exact trivial|(refine⟨rfl,HZ,?_⟩))):p:=h
variable{am:Nat}{z:au}{dst:Option Tmp}{args:Array Operand}{mM:Array TypeId}{b8:FuncId}{cu gZ:List D}{hs:List (Nat×aJ)}{α:Type}{eu:α->Prop}{c7:α->List (Nat×aJ)}{eX:α->D}
theorem t8{v:Prop}{K:au->Prop}{f:Operand}{first:List D}(m:List (Nat×Nat))
  (hc:c5 Tryz.prog B b8 gZ (aL hs) λd aP=>∃x,eu x/\d=eX x/\aP=aL (c7 x)) {a8:α->Prop} (q:∀x,eu x->a8 x) (M:z.ba f=.fn (.func b8) first cu:=by exact rfl) (h:x' z.H m hs:=by exact rR) (hm:j0 m=true:=by exact rfl) (dO:dN (first++args.toList.map z.ba++cu) gZ:=by exact i1)
  (g:∀x,k_ (a8 x)->K (({t:=z.t,H:=qB z.H (aL (c7 x)) m}:au).put dst (eX x)):=by intro x hl;(conv=>whnf);refine go ?_;exact hl.cr):v\/af Tryz.prog B am z dst (.call ⟨.value f,args,mM⟩) K:=.inr (af.yg M gZ m h hc hm dO λx F=>g x ⟨q x F⟩)
theorem mj{v a8:Prop}{K:au->Prop}{f:Operand}{first:List D}(m:List (Nat×Nat)){c7:List (Nat×aJ)}{eX:D}
  (hc:c5 Tryz.prog B b8 gZ (aL hs) λd aP=>d=eX/\aP=aL c7) (q:a8) (M:z.ba f=.fn (.func b8) first cu:=by exact rfl) (h:x' z.H m hs:=by exact rR) (hm:j0 m=true:=by exact rfl) (dO:dN (first++args.toList.map z.ba++cu) gZ:=by exact i1)
  (g:k_ a8->K (({t:=z.t,H:=qB z.H (aL c7) m}:au).put dst eX):=by exact ax'):v\/af Tryz.prog B am z dst (.call ⟨.value f,args,mM⟩) K:=.inr (af.EL M gZ m h hc hm dO (g ⟨q⟩))
def yh(H:bE):List (Nat×aJ)->Prop
 |[]=>True
 |(k,o)::r=>H k=some o/\yh H r
theorem yh.get{H:bE}:∀{l:List (Nat×aJ)},yh H l->∀j o,aL l j=some o->H j=some o
 |[],_,_,_,h=>by cases h
 |(k,x)::r,h,j,o,aa=>by simp only[aL]at aa;cases I:Nat.beq j k with|true=>rw[I]at aa;have:=auc I;subst this;simp at aa;subst aa;exact h.1|false=>rw[I]at aa;exact yh.get h.2 j o aa
variable{f:FuncId}{body:Code}{ds:List D}
theorem kj{fn:Func}{H:bE}{eX:D}{c7:List (Nat×aJ)}(M:Tryz.prog.funcs[f]?=some fn)(pY:fn.ntmps=am)(h:∀U:b7 Tryz.prog B am,W U body (entry ds H) (D8 ax fn.results.toList λd aP=>d=eX/\yh aP c7))
  (I : fn.body = some body := by exact rfl) (aw : (fn.name == "runtime.NumGoroutine") = false := by decide +kernel) (al : Nat.ble ds.length am = true := by exact rfl) : c5 Tryz.prog B f ds H λd aP => d = eX/\aP = aL c7 :=
 c5.sub (ye M pY h I aw al) λd aP ⟨h1,A⟩=>⟨aL c7,λj o aa=>A.get j o aa,h1,rfl⟩
theorem EM{fn:Func}{H:bE}(M:Tryz.prog.funcs[f]?=some fn)(pY:fn.ntmps=am)(h:∀U:b7 Tryz.prog B am,W U body (entry ds H) (D8 ax fn.results.toList λd aP=>∃x,eu x/\d=eX x/\yh aP (c7 x)))
  (I : fn.body = some body := by exact rfl) (aw : (fn.name == "runtime.NumGoroutine") = false := by decide +kernel) (al : Nat.ble ds.length am = true := by exact rfl) : c5 Tryz.prog B f ds H λd aP => ∃x,eu x/\d = eX x/\aP = aL (c7 x) :=
 c5.sub (ye M pY h I aw al) λd aP ⟨x,h0,h1,A⟩=>⟨aL (c7 x),λj o aa=>A.get j o aa,x,h0,h1,rfl⟩
theorem Tb{p:List (Nat×D)->List (Nat×aJ)->Prop}(l:List (Nat×D))(hs:List (Nat×aJ))(m:List (Nat×Nat))(q:p l hs)(h:nS z l hs m:=by exact⟨cO,rfl,cO⟩):∃l hs m,nS z l hs m/\p l hs:=⟨l,hs,m,h,q⟩
end Go.bR.ck
namespace Go.bR
open Go Go.RowKit
variable{P:Program}{B:World}{am:Nat}
def la(jN H:bE):bE:=λk=>match jN k with|some o=>some o|none=>H k
variable{U:b7 P B am}{c:Code}{z:au}{K:cJ->au->Prop}
theorem W.frame(vo jN:bE)(h1:∀k o,vo k=some o->z.H k=some o)(A:∀k o,jN k=some o->z.H k=some o)(N:∀k o bM,vo k=some o->jN k=some bM->False)
  (h:∀ie:b7 P B am,W ie c {t:=z.t,H:=vo} λe aA=>K e {t:=aA.t,H:=la jN aA.H}):W U c z K :=
 ⟨λa w C M=>by
  let ie:b7 P B am:={w0:=w,C0:=C,Ft:=λb=>∃k x,vo k=some x/\x.ef b,base:=M.base,low:=λb ⟨k,x,h,an⟩=>U.Dw (M.heap.cI k x b (h1 k x h) an)}
  have fI:bH ie w C {t:=z.t,H:=vo} a:=⟨M.tmps,⟨λk x h=>M.heap.cj k x (h1 k x h),λs bo x y b aw g1 fe=>M.heap.inj s bo x y b aw (h1 s x g1) (h1 bo y fe),λk x b h an=>.inl ⟨k,x,h,an⟩⟩,M.size,M.defers,c_.refl _ _ _⟩
  have Es:∀b,ie.pL b->U.pL b:=λb h=>by
   rcases h with⟨k,x,h,an⟩|h
   ·exact M.heap.cI k x b (h1 k x h) an
   exact .inr (avc M.step.ext.size h)
  have BM:∀k x b,jN k=some x->x.ef b->b<w.heap.size/\¬ie.Ft b:=λk x b F an=>by
   refine⟨(M.heap.cj k x (A k x F)).lt an,λ⟨bz,b1,h,cV⟩=>?_⟩;have a7:bz≠k:=λe=>by subst e;exact N bz b1 x h F
   exact M.heap.inj bz k b1 x b a7 (h1 bz b1 h) (A k x F) cV an
  refine wp_mono ((h ie).run a w C fI) λe bw w' ⟨c6,aA,aR,ao,hK,bN⟩=>⟨c6,_,aR,ao,hK,?_⟩
  have H5:∀{k x},la jN aA.H k=some x->jN k=some x\/(jN k=none/\aA.H k=some x):=λ{k x} F=>by
   unfold la at F
   cases Y:jN k with
   |some o=>rw[Y]at F;exact .inl F
   |none=>rw[Y]at F;exact .inr ⟨rfl,F⟩
  have apart:∀s x y b,jN s=some x->x.ef b->∀bo,aA.H bo=some y->y.ef b->False:=λs x y b ah an bo hy cV=>by
   have:=BM s x b ah an;rcases bN.heap.cI bo y b hy cV with h|h
   ·exact this.2 h
   have Z:=this.1;change w.heap.size<=b at h;omega
  refine⟨bN.tmps,⟨λk x F=>?_,λs bo x y b aw F hy an cV=>?_,λk x b F an=>?_⟩,bN.size,bN.defers,M.step.trans bN.step λb I zV=>?_⟩
  ·rcases H5 F with ah|⟨_,ah⟩
   ·exact(M.heap.cj k _ (A k _ ah)).ix bN.step.ext λb I=>by
     have:=BM k _ b ah I;exact bN.step.ix b this.1 this.2
   exact bN.heap.cj k x ah
  ·rcases H5 F with ah|⟨_,ah⟩<;>rcases H5 hy with t1|⟨_,t1⟩
   ·exact M.heap.inj s bo _ _ b aw (A s _ ah) (A bo _ t1) an cV
   ·exact apart s x y b ah an bo t1 cV
   ·exact apart bo y x b t1 cV s ah an
   exact bN.heap.inj s bo x y b aw ah t1 an cV
  ·rcases H5 F with ah|⟨_,ah⟩
   ·exact M.heap.cI k _ b (A k _ ah) an
   exact Es b (bN.heap.cI k x b ah an)
  rcases Es b (.inl zV)with h|h
  ·exact h
  omega⟩
theorem W.adm(H:bE)(f5:Nat->Nat)(hi:∀k bz o bM,H k=some o->H bz=some bM->f5 k=f5 bz->k=bz)(hH:∀k o,H k=some o->z.H (f5 k)=some o)
  (h:W U c {t:=z.t,H:=H} K):W U c z K :=
 ⟨λa w C M=>h.run a w C ⟨M.tmps,⟨λs o ah=>M.heap.cj (f5 s) o (hH s o ah),λs bo o bM b aw Z aG=>M.heap.inj (f5 s) (f5 bo) o bM b (λe=>aw (hi s bo o bM Z aG e)) (hH s o Z) (hH bo bM aG),
  λs o b ah=>M.heap.cI (f5 s) o b (hH s o ah)⟩,M.size,M.defers,M.step⟩⟩
def kO(H:bE)(gy:Nat):bE:=λk=>bif Nat.beq k gy then none else H k
def pf(H:bE):Prop:=∀k o,H k=some o->10000<=k
def sO:List (Nat×aJ)->Bool
 |[]=>true
 |(k,_)::r=>Nat.blt k 10000&&sO r
theorem vt:∀{aY:List (Nat×aJ)},sO aY=true->∀{k:Nat} {o:aJ},aL aY k=some o->k<10000
 |[],_,_,_,h=>by cases h
 |(i,x)::r,al,k,o,h=>by simp only[sO,atN]at al;simp only[aL]at h;cases I:Nat.beq k i with|true=>have:=auc I;subst this;exact aul al.1|false=>rw[I]at h;exact vt al.2 h
def EN(l:List (Nat×D))(aY:List (Nat×aJ))(cv:bE):au:=rK l (cM aY cv)
variable{aY:List (Nat×aJ)}{cv:bE}{fD:aJ}
theorem W.Aa{l:List (Nat×D)}(q gy:Nat)(a6:sO aY=true)(cF:pf cv)(Y:cv gy=some fD)(G:aL aY q=none)(lb:q<10000)(h:∀ie:b7 P B am,W ie c (hf l ((q,fD)::aY)) λe aA=>K e {t:=aA.t,H:=la (kO cv gy) aA.H}):W U c (EN l aY cv) K:=by have jO:=cF gy fD Y;refine W.adm (λk=>bif Nat.beq k q then some fD else cM aY (kO cv gy) k) (λk=>bif Nat.beq k q then gy else k) (λk bz o bM g1 fe e=>?_) (λk o ah=>?_) ?_;(have bf:∀k o,(bif Nat.beq k q then some fD else cM aY (kO cv gy) k)=some o->k≠gy:=λk o g e=>by subst e;have:Nat.beq k q=false:=au' atw;rw[this]at g;simp only[auW,cM]at g;cases hs:aL aY k with|some x=>have:=vt a6 hs;omega|none=>rw[hs]at g;simp only[kO,au1,avq]at g;cases g);cases I:Nat.beq k q<;>cases qA:Nat.beq bz q<;>rw[I,qA]at e<;>simp only[avq,auW]at e;exact e;exact absurd e (bf k o g1);exact absurd e.symm (bf bz bM fe);rw[auc I,auc qA];(cases I:Nat.beq k q with|true =>rw[I]at ah;simp only[avq]at ah⊢;cases ah;show cM aY cv gy=some fD;unfold cM;(cases hs:aL aY gy with|some x=>have:=vt a6 hs;omega|none=>exact Y)|false =>rw[I]at ah;simp only[auW]at ah⊢;show cM aY cv k=some o;unfold cM at ah⊢;(cases hs:aL aY k with|some x=>rw[hs]at ah;exact ah|none =>rw[hs]at ah;simp only[kO]at ah;(cases g0:Nat.beq k gy with|true=>rw[g0]at ah;cases ah|false=>rw[g0]at ah;exact ah)));refine W.frame (aL ((q,fD)::aY)) (kO cv gy) (λk o ah=>?_) (λk o ah=>?_) (λk o bM g1 fe=>?_) h;simp only[aL]at ah;show(bif Nat.beq k q then some fD else cM aY (kO cv gy) k)=some o;(cases I:Nat.beq k q with|true=>rw[I]at ah;exact ah|false=>rw[I]at ah;simp only[auW]at ah⊢;unfold cM;rw[ah]);(have Z:10000<=k:=by simp only[kO]at ah;cases g0:Nat.beq k gy with|true=>rw[g0]at ah;cases ah|false=>rw[g0]at ah;exact cF k o ah);show(bif Nat.beq k q then some fD else cM aY (kO cv gy) k)=some o;rw[au' (by omega:k≠q)];simp only[auW,cM];(cases hs:aL aY k with|some x=>have:=vt a6 hs;omega|none=>exact ah);(have Z:10000<=k:=by simp only[kO]at fe;cases g0:Nat.beq k gy with|true=>rw[g0]at fe;cases fe|false=>rw[g0]at fe;exact cF k bM fe);simp only[aL]at g1;rw[au' (by omega:k≠q)]at g1;have:=vt a6 (show aL aY k=some o from g1);omega
theorem W.p6{l:List (Nat×D)}(a6:sO aY=true)(cF:pf cv)(h:∀ie:b7 P B am,W ie c (hf l aY) λe aA=>K e {t:=aA.t,H:=la cv aA.H}):W U c (EN l aY cv) K:=by refine W.frame (aL aY) cv (λk o ah=>?_) (λk o ah=>?_) (λk o bM g1 fe=>?_) h;show cM aY cv k=some o;unfold cM;rw[ah];show cM aY cv k=some o;unfold cM;(cases hs:aL aY k with|some x=>have:=vt a6 hs;have:=cF k o ah;omega|none=>exact ah);have:=vt a6 g1;have:=cF k bM fe;omega
def yi(mV:Nat):List (Nat×Nat)->Bool
 |[]=>true
 |(_,s)::r=>Nat.blt s 10000&&(!Nat.beq s mV&&yi mV r)
theorem Mr{mV:Nat}:∀{m:List (Nat×Nat)},yi mV m=true->∀{k s:Nat},(k,s)∈m->s<10000/\s≠mV
 |(i,x)::r,h,k,s,hm=>by simp only[yi,atN]at h;rcases at5.1 hm with e|e;cases e;exact⟨aul h.1,λe=>by subst e;have:=h.2.1;simp at this⟩;exact Mr h.2.2 e
theorem EO:∀{m:List (Nat×Nat)},j0 m=true->∀{k s:Nat},(k,s)∈m->aL m k=some s
 |(i,x)::r,h,k,s,hm=>by simp only[j0,atN]at h;simp only[aL];rcases at5.1 hm with e|e;cases e;simp;have:=auE.1 h.1 (k,s) e;simp only[atN]at this;(have A:Nat.beq k i=false:=by simpa using this.1);rw[A];exact EO h.2 e
variable{aA:au}
theorem fB.t_{jN:bE}{l:List (Nat×D)}(m:List (Nat×Nat))(gy mV:Nat)(jO:10000<=gy)(H6:mV<10000)(h1:jC aA l)(hm:j0 m=true)(gk:tO aA m aY)(a6:sO aY=true)(gI:yi mV m=true)(G:aA.H mV=some fD)(EP:pf jN)(N:∀k o,cv k=some o->10000<=k/\((k=gy/\o=fD)\/(k≠gy/\jN k=some o))):fB {t:=aA.t,H:=la jN aA.H} l (cM aY cv):=by(have H7:∀k,k<10000->jN k=none:=λk Y=>by cases h:jN k with|none=>rfl|some o=>have:=EP k o h;omega);(have sP:∀{k o},cM aY cv k=some o->(k<10000/\∃s,(k,s)∈m/\aL m k=some s/\s<10000/\s≠mV/\aA.H s=some o)\/(10000<=k/\cv k=some o):=λ{k o} h=>by unfold cM at h;cases hs:aL aY k with|some x =>rw[hs]at h;cases h;obtain⟨s,g7,ah⟩:=gk.aL k _ hs;have:=Mr gI g7;exact .inl ⟨vt a6 hs,s,g7,EO hm g7,this.1,this.2,ah⟩|none=>rw[hs]at h;exact .inr ⟨(N k o h).1,h⟩);(have av:jC {t:=aA.t,H:=la jN aA.H} l:=axQ);refine⟨av,λk=>if k<10000 then(aL m k).getD k else if k=gy then mV else k,λk bz o bM g1 fe e=>?_,λk o g=>?_⟩;rcases sP g1 with⟨Y,s,g7,al,hV,jh,_⟩|⟨Y,tI⟩<;>rcases sP fe with⟨fH,bo,Ms,mG,adn,ado,_⟩|⟨fH,adp⟩;simp only[Y,fH,auX,al,mG,auJ]at e;exact(wN hm k s bz bo g7 Ms).2 e;simp only[Y,auX,al,auJ,atH (by omega:¬bz<10000)]at e;split at e;exact absurd e jh;omega;simp only[fH,auX,mG,auJ,atH (by omega:¬k<10000)]at e;split at e;exact absurd e.symm ado;omega;simp only[atH (by omega:¬k<10000),atH (by omega:¬bz<10000)]at e;split at e<;>split at e<;>omega;rcases sP g with⟨Y,s,g7,al,hV,_,ah⟩|⟨Y,tI⟩;simp only[Y,auX,al,auJ];show la jN aA.H s=some o;unfold la;rw[H7 s hV];exact ah;simp only[atH (by omega:¬k<10000)];rcases(N k o tI).2 with⟨rfl,rfl⟩|⟨a7,A⟩;rw[atI rfl];show la jN aA.H mV=some o;unfold la;rw[H7 mV H6];exact G;rw[atH a7];show la jN aA.H k=some o;unfold la;rw[A]
theorem fB.oJ{l:List (Nat×D)}(m:List (Nat×Nat))(h1:jC aA l)(hm:j0 m=true)(gk:tO aA m aY)(a6:sO aY=true)(gI:yi 10000 m=true)(cF:pf cv):fB {t:=aA.t,H:=la cv aA.H} l (cM aY cv):=by(have H7:∀k,k<10000->cv k=none:=λk Y=>by cases h:cv k with|none=>rfl|some o=>have:=cF k o h;omega);(have sP:∀{k o},cM aY cv k=some o->(k<10000/\∃s,(k,s)∈m/\aL m k=some s/\s<10000/\aA.H s=some o)\/(10000<=k/\cv k=some o):=λ{k o} h=>by unfold cM at h;cases hs:aL aY k with|some x =>rw[hs]at h;cases h;obtain⟨s,g7,ah⟩:=gk.aL k _ hs;have:=Mr gI g7;exact .inl ⟨vt a6 hs,s,g7,EO hm g7,this.1,ah⟩|none=>rw[hs]at h;exact .inr ⟨cF k o h,h⟩);(have av:jC {t:=aA.t,H:=la cv aA.H} l:=axQ);refine⟨av,λk=>if k<10000 then(aL m k).getD k else k,λk bz o bM g1 fe e=>?_,λk o g=>?_⟩;rcases sP g1 with⟨Y,s,g7,al,hV,_⟩|⟨Y,tI⟩<;>rcases sP fe with⟨fH,bo,Ms,mG,adn,_⟩|⟨fH,adp⟩;simp only[Y,fH,auX,al,mG,auJ]at e;exact(wN hm k s bz bo g7 Ms).2 e;simp only[Y,auX,al,auJ,atH (by omega:¬bz<10000)]at e;omega;simp only[fH,auX,mG,auJ,atH (by omega:¬k<10000)]at e;omega;simp only[atH (by omega:¬k<10000),atH (by omega:¬bz<10000)]at e;exact e;rcases sP g with⟨Y,s,g7,al,hV,ah⟩|⟨Y,tI⟩;simp only[Y,auX,al,auJ];show la cv aA.H s=some o;unfold la;rw[H7 s hV];exact ah;simp only[atH (by omega:¬k<10000)];show la cv aA.H k=some o;unfold la;rw[tI]
variable{α:Type}
def H8(eu:α->Prop)(l:α->List (Nat×D))(aY:α->List (Nat×aJ))(cv:α->bE)(fx:α->Nat)(x:α)(K:cJ->au->Prop):cJ->au->Prop
 |.normal,z=>∃b1,eu b1/\fx b1<fx x/\fB z (l b1) (cM (aY b1) (cv b1))
 |.exit id,z=>K (.exit id) z
 |.ret,z=>K .ret z
theorem W.H8{U:b7 P B am}{z:au}{K:cJ->au->Prop}{c:Code}{α:Type}{eu:α->Prop}(l:α->List (Nat×D))(aY:α->List (Nat×aJ))(cv:α->bE)(fx:α->Nat)(ek:α)(i0:eu ek)(h1:fB z (l ek) (cM (aY ek) (cv ek)))
  (round:∀x,eu x->W U c (EN (l x) (aY x) (cv x)) (Go.bR.H8 eu l aY cv fx x K)):W U (.loop c) z K :=
 W.HG (α:={x // eu x}) (λx=>l x.1) (λx=>cM (aY x.1) (cv x.1)) (λx=>fx x.1) ⟨ek,i0⟩ h1 λx=>(round x.1 x.2).mono λe aA h=>by
  cases e with
  |normal=>obtain⟨b1,h1,A,Z⟩:=h;exact⟨⟨b1,h1⟩,A,Z⟩
  |exit id=>exact h
  |ret=>exact h
variable{m:List (Nat×Nat)}
theorem fB.adq{l:List (Nat×D)}(h:nS z l aY m):fB z l (cM aY λ_=>none):=by refine⟨h.t,λk=>(aL m k).getD k,λk bz o bM g1 fe e=>?_,λk o g=>?_⟩;(have sP:∀{k o},cM aY (λ_=>none) k=some o->∃s,(k,s)∈m/\aL m k=some s:=λ{k o} bB=>by unfold cM at bB;cases hs:aL aY k with|some x=>obtain⟨s,g7,_⟩:=h.h.aL k _ hs;exact⟨s,g7,EO h.ok g7⟩|none=>rw[hs]at bB;cases bB);obtain⟨s,h1,A⟩:=sP g1;obtain⟨bo,mW,yj⟩:=sP fe;simp only[A,yj,auJ]at e;exact(wN h.ok k s bz bo h1 mW).2 e;unfold cM at g;cases hs:aL aY k with|some x =>rw[hs]at g;cases g;obtain⟨s,g7,ah⟩:=h.h.aL k _ hs;simp only[EO h.ok g7,auJ];exact ah|none=>rw[hs]at g;cases g
end Go.bR
namespace Go.bR.ck
open Go Go.Proofs
variable{B:World}{am:Nat}{z:au}{K:cJ->au->Prop}{c:Code}{b:Nat}{aB:List D}
theorem iF{U:b7 Tryz.prog B am}(s j k:Nat)(x:D)(h:W U c {t:=λi=>_root_.cond (Nat.beq i j) (.a_ k [x] 0 0) (z.t i),H:=λi=>_root_.cond (Nat.beq i s) none (z.H i)} K)(aa:z.t j=.box s b 0:=by exact rfl)(hs:z.H s=some (.box b aB):=by exact rfl)(F:x.cells=aB:=by exact rfl)(Y:x.cells.length=k:=by exact rfl)(ee:aB.all D.one=true:=by exact rfl):W U c z K:=by subst Y;refine W.BI s j x aa hs F ee ?_;rw[<-F];exact h
variable{α:Type}{dI:List (Nat×aJ)}
theorem yk{U:b7 Tryz.prog B am}(eu:α->Prop)(hk wI:List Nat)(l:α->List (Nat×D))(aY:α->List (Nat×aJ))(cv:α->bE)(fx:α->Nat)(ek:α)(i0:eu ek){L:List (Nat×D)}
  (round:∀x,eu x->W U c (EN (L++l x) (dI++aY x) (cv x)) (H8 eu (λx=>L++l x) (λx=>dI++aY x) cv fx x K)) (a1:t7 z hk L:=by exact yd) (hO:yc z wI dI:=by exact yd) (h1:fB z (L++l ek) (cM (dI++aY ek) (cv ek))):W U (.loop c) z K :=
 W.H8 (λx=>L++l x) (λx=>dI++aY x) cv fx ek i0 h1 round
variable{eu:α->Prop}{fx:α->Nat}
theorem vu{l:α->List (Nat×D)}{aY:α->List (Nat×aJ)}{cv:α->bE}{x:α}(b1:α)(hh:eu b1)(A:fB z (l b1) (cM (aY b1) (cv b1)))(h1:fx b1<fx x:=by(try dsimp only);omega):∃b1,eu b1/\fx b1<fx x/\fB z (l b1) (cM (aY b1) (cv b1)):=⟨b1,hh,h1,A⟩
theorem t_{aA:au}{jN cv:bE}{l:List (Nat×D)}{aY:List (Nat×aJ)}(m:List (Nat×Nat))(gy mV:Nat){fD:aJ}(jO:10000<=gy)(EP:pf jN)(N:∀k o,cv k=some o->10000<=k/\((k=gy/\o=fD)\/(k≠gy/\jN k=some o)))(H6:mV<10000:=by decide)(G:aA.H mV=some fD:=by exact rfl)(h1:jC aA l:=by exact cO)(hm:j0 m=true:=by exact rfl)(gk:tO aA m aY:=by exact cO)(a6:sO aY=true:=by exact rfl)(gI:yi mV m=true:=by exact rfl):
  fB {t:=aA.t,H:=la jN aA.H} l (cM aY cv):=fB.t_ m gy mV jO H6 h1 hm gk a6 gI G EP N
theorem oJ{aA:au}{cv:bE}{l:List (Nat×D)}{aY:List (Nat×aJ)}(m:List (Nat×Nat))(cF:pf cv)(h1:jC aA l:=by exact cO)(hm:j0 m=true:=by exact rfl)(gk:tO aA m aY:=by exact cO)(a6:sO aY=true:=by exact rfl)(gI:yi 10000 m=true:=by exact rfl):
  fB {t:=aA.t,H:=la cv aA.H} l (cM aY cv):=fB.oJ m h1 hm gk a6 gI cF
end Go.bR.ck
namespace Go.bR
open Go Go.RowKit Go.MapKept
variable{P:Program}{B:World}{am:Nat}{z:au}{dst:Option Tmp}{K:au->Prop}{ax:List bx}
def mX:TypeDesc->D->Bool
 |.string,.O _=>true
 |.int k,.int bz _=>pM k bz
 |.bool,.bool _=>true
 |_,_=>false
def oK:D->D->Bool
 |.O a,.O b=>a==b
 |.int _ a,.int _ b=>a==b
 |.bool a,.bool b=>a==b
 |_,_=>false
def jm(b3:List (D×D))(k:D):Option D:=(b3.find? λx=>oK x.1 k).map (·.2)
def ml(b3:List (D×D))(k d:D):List (D×D) :=
 match jm b3 k with
 |some _=>b3.map λx=>if oK x.1 k then(x.1,d)else x
 |none=>b3++[(k,d)]
variable{c6:TypeDesc}
theorem EQ{k:D}(h:mX c6 k=true):∃v,mH k=some v/\IsKey c6 v:=by unfold mX at h;split at h;exact⟨_,rfl,trivial⟩;exact⟨_,rfl,(G9 h).symm⟩;exact⟨_,rfl,trivial⟩;cases h
theorem Tc{k:D}(h:mX c6 k=true):(c6=.string/\∃s,k=.O s)\/(∃q n,c6=.int q/\k=.int q n)\/(c6=.bool/\∃b,k=.bool b):=by unfold mX at h;split at h;exact .inl ⟨rfl,_,rfl⟩;have:=G9 h;subst this;exact .inr (.inl ⟨_,_,rfl,rfl⟩);exact .inr (.inr ⟨rfl,_,rfl⟩);cases h
theorem B4{k bz:D}(h:mX c6 k=true)(bB:mX c6 bz=true):oK k bz=true↔mH k=mH bz:=by(rcases Tc h with⟨rfl,s,rfl⟩|⟨q,n,rfl,rfl⟩|⟨rfl,s,rfl⟩<;>rcases Tc bB with⟨e,bo,rfl⟩|⟨ry,hM,e,rfl⟩|⟨e,bo,rfl⟩<;>first|(cases e;done)|skip);simp[oK,mH];cases e;simp[oK,mH];simp[oK,mH]
variable{w:World}{C:Nat->Nat}{v aj:Value}
theorem Mt{k:D}(h:mH k=some aj)(ae:bh w C k v):v=aj:=by(cases k<;>simp only[mH]at h<;>first|(cases h;done)|(simp only[aus]at h;subst h));exact ae.hL;exact ae.fw;exact ae.kD
variable{b3:List (D×D)}{d:D}
theorem Td{k:D}(h:jm b3 k=some d):∃(i:Nat) (bz:D),b3[i]?=some (bz,d)/\oK bz k=true:=by unfold jm at h;cases M:b3.find? λx=>oK x.1 k with|none=>rw[M]at h;cases h|some x =>rw[M]at h;cases h;obtain⟨i,hi⟩:=auf.1 (awe M);have:=aw_ M;exact⟨i,x.1,hi,this⟩
theorem Te{k:D}(h:jm b3 k=none):∀x∈b3,oK x.1 k=false:=by unfold jm at h;rw[av5,avj]at h;intro x F;simpa using h x F
variable{b:Nat}
theorem Bb.find{k:D}{dh:Value}(Y:mX c6 k=true)(lc:mH k=some dh)(b6:∀x∈b3,mX c6 x.1=true)(h:Bb w C b b3):∃ew h7,w.heap[b]?=some (.map ew h7)/\C b=0/\ew.size=b3.length/\(∀(i:Nat) k d e,b3[i]?=some (k,d)->ew[i]?=some e->mH k=some e.key/\bh w C d e.val)/\(∀(i j:Nat) k bz d d',b3[i]?=some (k,d)->b3[j]?=some (bz,d')->mH k=mH bz->i=j)/\((jm b3 k=none/\Instr.findNow c6 dh ew.toList 0=some none)\/∃j bz d e,jm b3 k=some d/\b3[j]?=some (bz,d)/\mH bz=some dh/\ew[j]?=some e/\e.key=dh/\Instr.findNow c6 dh ew.toList 0=some (some (j,e.val))/\bh w C d e.val):=by obtain⟨ew,h7,I,de,al,aw,ae⟩:=h;refine⟨ew,h7,I,de,al,ae,aw,?_⟩;(have n9:IsKey c6 dh:=by obtain⟨v,h1,A⟩:=EQ Y;rw[lc]at h1;cases h1;exact A);(have ht:∀x∈ew.toList,IsKey c6 x.key:=λx F=>by obtain⟨i,hi⟩:=auf.1 F;rw[ava]at hi;(have bf:i<b3.length:=by rw[<-al];exact(avu.1 hi).1);obtain⟨h1,_⟩:=ae i b3[i].1 b3[i].2 x (by simp[bf]) hi;obtain⟨v,A,Z⟩:=EQ (b6 b3[i] (atO bf));rw[h1]at A;cases A;exact Z);rcases findNow_spec n9 ew.toList 0 ht with⟨h1,A⟩|⟨j,e,h1,A,Z⟩;left;refine⟨?_,h1⟩;(cases aW:jm b3 k with|none=>rfl|some d =>exfalso;obtain⟨i,bz,hi,ao⟩:=Td aW;have bf:=(aun.1 hi).1;(have oL:ew[i]?=some ew[i]:=by simp[al,bf]);obtain⟨aG,_⟩:=ae i bz d _ hi oL;rw[B4 (b6 _ (at1 hi)) Y,aG,lc]at ao;exact A _ aty (auD ao));right;rw[auu]at h1;(have Mu:ew[j]?=some e:=by rw[<-ava];exact A);(have bf:j<b3.length:=by rw[<-al];exact(avu.1 Mu).1);(have aa:b3[j]?=some (b3[j].1,b3[j].2):=by simp[bf]);obtain⟨aG,bb⟩:=ae j _ _ e aa Mu;rw[Z]at aG;cases aW:jm b3 k with|none =>exfalso;have:=Te aW b3[j] (atO bf);rw[(B4 (b6 _ (atO bf)) Y).2 (by rw[aG,lc])]at this;cases this|some d =>obtain⟨i,bz,hi,ao⟩:=Td aW;rw[B4 (b6 _ (at1 hi)) Y,lc]at ao;have d9:=aw i j bz _ d _ hi aa (by rw[ao,aG]);subst d9;rw[hi]at aa;(have b9:d=b3[i].2:=by simpa using atJ (λx=>(x.map Prod.snd)) aa);exact⟨i,bz,d,e,rfl,hi,ao,Mu,Z,h1,by rw[b9];exact bb⟩
theorem af.sQ{t:TypeId}{s:Nat}(hK:∀b,K ((z.bZ s (some (.mp b []))).put (some s) (.ai (.map (some b))))):af P B am z (some s) (.makeMap t none) K :=
 .val λU w C a M type pos after=>by
  refine⟨.map (some w.heap.size),_,_,_,_,?_,M.newObj s (mN:=.mp w.heap.size []) (o:=.map #[] 0) ⟨#[],0,kH w _,hr _ _ _,rfl,λi j k bz d d' h=>by simp at h,λi k d e h=>by simp at h⟩ (λb I=>I),.ai _,hK _⟩;simp[execOp,Instr.makeMap,Result.andThen]
variable{dS dZ:TypeId}{x:Operand}{ok:Bool}
theorem af.H9{t:TypeId}{m:Operand}(s:Nat){k:D}(hm:P.underlying t=some (.map dS dZ))(N:P.underlying dS=some c6)
  (F:z.ba m=.ai (.map (some b))) (hs:z.H s=some (.mp b b3)) (G:z.ba x=k) (Y:mX c6 k=true) (b6:∀x∈b3,mX c6 x.1=true) (aW:jm b3 k=some d)
  (hK:K (z.put dst (if ok then .bp [d,.bool true]else d))):af P B am z dst (.lookup t m x ok) K :=
 .val λU w C a M type pos after=>by
  have oE:=cG M.tmps m;rw[F]at oE
  have fX:=cG M.tmps x;rw[G]at fX
  obtain⟨dh,lc,n9⟩:=EQ Y;have B5:=Mt lc fX;obtain⟨ew,h7,I,de,al,ae,aw,hc⟩:=Bb.find Y lc b6 (M.heap.cj s _ hs);rcases hc with⟨h1,_⟩|⟨j,bz,d',e,h1,A,Z,aG,bb,cL,eV⟩
  ·rw[aW]at h1;cases h1
  rw[aW]at h1;cases h1
  refine⟨if ok then .tuple #[e.val,.bool true]else e.val,w,C,z,_,?_,M,?_,hK⟩
  ·simp only[execOp,oE.f4,B5,Instr.lookup,Sem.run_bind,run_underlying hm,Result.andThen,Go.MapKept.run_getObj_map I,Sem.run_pure,run_checkKey N n9,run_findKey N cL]
  cases ok with
  |true=>exact .bp [d,.bool true] [e.val,.bool true] rfl (λi q v G X=>by
    match i,G,X with
    |0,G,X=>simp at G X;subst G;subst X;exact eV
    |1,G,X=>simp at G X;subst G;subst X;exact .bool _
    |n+2,G,X=>simp at G)
  |false=>exact eV
variable{eh:Value}
theorem af.Mv{t:TypeId}{m:Operand}(s:Nat){k V:D}(hm:P.underlying t=some (.map dS dZ))(N:P.underlying dS=some c6)
  (F:z.ba m=.ai (.map (some b))) (hs:z.H s=some (.mp b b3)) (G:z.ba x=k) (Y:mX c6 k=true) (b6:∀x∈b3,mX c6 x.1=true) (aW:jm b3 k=none)
  (bC:∀w,(zeroValue dZ).run P w=.ok eh w) (jF:∀w C,bh w C V eh)
  (hK:K (z.put dst (if ok then .bp [V,.bool false]else V))):af P B am z dst (.lookup t m x ok) K :=
 .val λU w C a M type pos after=>by
  have oE:=cG M.tmps m;rw[F]at oE
  have fX:=cG M.tmps x;rw[G]at fX
  obtain⟨dh,lc,n9⟩:=EQ Y;have B5:=Mt lc fX;obtain⟨ew,h7,I,de,al,ae,aw,hc⟩:=Bb.find Y lc b6 (M.heap.cj s _ hs);rcases hc with⟨_,cL⟩|⟨j,bz,d',e,h1,_⟩
  ·refine⟨if ok then .tuple #[eh,.bool false]else eh,w,C,z,_,?_,M,?_,hK⟩
   ·simp only[execOp,oE.f4,B5,Instr.lookup,Sem.run_bind,run_underlying hm,Result.andThen,Go.MapKept.run_getObj_map I,Sem.run_pure,run_checkKey N n9,run_findKey N cL,bC]
   cases ok with
   |true=>exact .bp [V,.bool false] [eh,.bool false] rfl (λi q v G X=>by
     match i,G,X with
     |0,G,X=>simp at G X;subst G;subst X;exact jF _ _
     |1,G,X=>simp at G X;subst G;subst X;exact .bool _
     |n+2,G,X=>simp at G)
   |false=>exact jF _ _
  rw[aW]at h1;cases h1
variable{y:Operand}
theorem af.yl{t:TypeId}{m:Operand}(s:Nat){k:D}(hm:P.underlying t=some (.map dS dZ))(N:P.underlying dS=some c6)
  (F:z.ba m=.ai (.map (some b))) (hs:z.H s=some (.mp b b3)) (G:z.ba x=k) (Y:mX c6 k=true) (b6:∀x∈b3,mX c6 x.1=true)
  (hK:K ((z.bZ s (some (.mp b (ml b3 k (z.ba y))))).put dst .undef)):af P B am z dst (.mapUpdate t m x y) K :=
 .unit λU w C a M type pos after=>by
  have oE:=cG M.tmps m;rw[F]at oE
  have fX:=cG M.tmps x;rw[G]at fX
  have kM:=cG M.tmps y;obtain⟨dh,lc,n9⟩:=EQ Y;have B5:=Mt lc fX;obtain⟨ew,h7,I,de,al,ae,aw,hc⟩:=Bb.find Y lc b6 (M.heap.cj s _ hs);have e8:aJ.ef (.mp b b3) b:=rfl
  have oB:∀oF vc,(∀w',nN w C w' C->∃H_ ER,Obj.map oF vc=Obj.map H_ ER/\H_.size=(ml b3 k (z.ba y)).length/\(∀(i j:Nat) cq d8 d d',(ml b3 k (z.ba y))[i]?=some (cq,d)->(ml b3 k (z.ba y))[j]?=some (d8,d')->mH cq=mH d8->i=j)/\
    ∀(i:Nat) cq d e,(ml b3 k (z.ba y))[i]?=some (cq,d)->H_[i]?=some e->mH cq=some e.key/\bh w' C d e.val)->
    bH U {w with heap:=w.heap.setIfInBounds b (.map oF vc)} C (z.bZ s (some (.mp b (ml b3 k (z.ba y))))) a:=λoF vc h1=>by
   have a6:=c_.Hr (bM:=.map oF vc) I de;refine M.bZ a6 (s:=s) (λx F=>ayu) (λbo bM eo a7 c7 an nQ=>?_) λV bC=>?_
   ·subst nQ;exact M.heap.inj bo s bM _ eo a7 c7 hs an e8
   cases bC
   obtain⟨H_,ER,bV,A,Z,aG⟩:=h1 _ a6.ext;cases bV
   exact⟨⟨oF,vc,(heap_set I).1,de,A,Z,aG⟩,λx F=>⟨by cases F;exact M.heap.cI s _ _ hs e8,.inl F⟩⟩
  rcases hc with⟨h1,cL⟩|⟨j,bz,d',e,h1,A,Z,aG,bb,cL,eV⟩
  ·have g7:ml b3 k (z.ba y)=b3++[(k,z.ba y)]:=by rw[ml,h1]
   refine⟨_,C,_,?_,oB (ew.push ⟨dh,a.eval y,h7⟩) (h7+1) (λw' ao=>⟨_,_,rfl,?_,?_,?_⟩),hK⟩
   ·simp only[execOp,oE.f4,B5,Instr.mapUpdate,Sem.run_bind,run_underlying hm,Result.andThen,Go.MapKept.run_getObj_map I,Sem.run_pure,run_checkKey N n9,run_findKey N cL,run_setObj_map _ I]
   ·rw[g7];simp[al]
   ·rw[g7];intro i hh cq d8 d d' hi lN sR
    have Hs:∀(i:Nat) cq d,b3[i]?=some (cq,d)->mH cq≠some dh:=λi cq d hi e=>by
     have:=Te h1 _ (at1 hi);rw[(B4 (b6 _ (at1 hi)) Y).2 (by rw[e,lc])]at this;cases this
    have split:∀(i:Nat) cq d,(b3++[(k,z.ba y)])[i]?=some (cq,d)->(i<b3.length/\b3[i]?=some (cq,d))\/(i=b3.length/\cq=k):=λi cq d hi=>by
     rcases at3 i b3.length with bf|h'
     ·rw[at0 bf]at hi;exact .inl ⟨bf,hi⟩
     rw[auo h']at hi
     have:i-b3.length=0:=by
      rcases auF (i-b3.length)with h|h
      ·exact h
      rw[atW atx]at hi;cases hi
     rw[this]at hi;simp at hi;exact .inr ⟨by omega,hi.1.symm⟩
    rcases split i cq d hi with⟨fZ,hw⟩|⟨fZ,hw⟩<;>rcases split hh d8 d' lN with⟨sK,rM⟩|⟨sK,rM⟩
    ·exact aw i hh cq d8 d d' hw rM sR
    ·exact absurd (by rw[sR,rM,lc]) (Hs i cq d hw)
    ·exact absurd (by rw[<-sR,hw,lc]) (Hs hh d8 d' rM)
    omega
   rw[g7];intro i cq d e hi o3;rcases at3 i b3.length with bf|h'
   ·rw[at0 bf]at hi;rw[Array.getElem?_push,atH atw]at o3;exact⟨(ae i cq d e hi o3).1,(ae i cq d e hi o3).2.ext ao⟩
   rw[auo h']at hi
   have kP:i-b3.length=0:=by
    rcases auF (i-b3.length)with h|h
    ·exact h
    rw[atW atx]at hi;cases hi
   rw[kP]at hi;simp at hi;obtain⟨rfl,rfl⟩:=hi;rw[Array.getElem?_push,atI atw]at o3;cases o3
   exact⟨lc,kM.ext ao⟩
  have g7:ml b3 k (z.ba y)=b3.map λx=>if oK x.1 k then(x.1,z.ba y)else x:=by rw[ml,h1]
  have o2:∀(i:Nat) cq d1,(ml b3 k (z.ba y))[i]?=some (cq,d1)->∃eX,b3[i]?=some (cq,eX)/\d1=(if i=j then z.ba y else eX):=λi cq d1 hi=>by
   rw[g7,aud]at hi
   cases kk:b3[i]? with
   |none=>rw[kk]at hi;cases hi
   |some x =>
    obtain⟨gy,eX⟩:=x;rw[kk]at hi;simp only[au7,aus]at hi;have w1:=b6 _ (at1 kk);by_cases d9:i=j
    ·subst d9;rw[A]at kk;cases kk
     have ao:oK bz k=true:=(B4 w1 Y).2 (by rw[Z,lc]);rw[atI ao]at hi;cases hi
     exact⟨d',rfl,by rw[atI rfl]⟩
    have ao:¬oK gy k=true:=λh=>by
     rw[B4 w1 Y,lc]at h;exact d9 (aw i j gy bz eX d' kk A (by rw[h,Z]))
    rw[atH ao]at hi;cases hi
    exact⟨_,rfl,by rw[atH d9]⟩
  refine⟨_,C,_,?_,oB (ew.modify j λe=>{e with key:=dh,val:=a.eval y}) h7 (λw' ao=>⟨_,_,rfl,?_,?_,?_⟩),hK⟩
  ·simp only[execOp,oE.f4,B5,Instr.mapUpdate,Sem.run_bind,run_underlying hm,Result.andThen,Go.MapKept.run_getObj_map I,Sem.run_pure,run_checkKey N n9,run_findKey N cL,run_setObj_map _ I,aG,au7,auJ,bb,run_keyThatStays n9]
  ·rw[g7];simp[al]
  ·intro i hh cq d8 d1 d2 hi lN sR;obtain⟨bV,fZ,_⟩:=o2 i cq d1 hi;obtain⟨b9,hw,_⟩:=o2 hh d8 d2 lN;exact aw i hh cq d8 bV b9 fZ hw sR
  intro i cq d1 bV hi o3;obtain⟨eX,fZ,hw⟩:=o2 i cq d1 hi;rw[awa]at o3;by_cases d9:j=i
  ·subst d9;rw[atI rfl,aG]at o3;simp only[au7,aus]at o3;rw[atI rfl]at hw;subst hw;subst o3;have:=(ae j cq _ e fZ aG).1;exact⟨by rw[this,bb],kM.ext ao⟩
  rw[atH d9]at o3;rw[atH (λe=>d9 e.symm)]at hw;subst hw;exact⟨(ae i cq _ bV fZ o3).1,(ae i cq _ bV fZ o3).2.ext ao⟩
end Go.bR

namespace Go.bR.ck
open Go Go.Proofs
variable{B:World}{i j:Nat}
section LZ
variable{b':Type}
def n_(L:List b')(i j:Nat):List b':=match L[i]?,L[j]? with
 |some x,some y=>(L.set i y).set j x
 |_,_=>L
theorem ES(L:List b')(i j:Nat):(n_ L i j).length=L.length:=by unfold n_;split<;>simp
theorem adr{L:List b'}(hi:i<L.length)(aa:j<L.length):n_ L i j=(L.set i L[j]).set j L[i]:=by unfold n_;rw[atK hi,atK aa]
theorem H'{L:List b'}{e:b'->D}(hi:i<L.length)(aa:j<L.length):((L.map e).set i (e L[j])).set j (e L[i])=(n_ L i j).map e:=by rw[adr hi aa,aw7,aw7]
def mm(L:List b')(a b:Nat):Nat->List b'
 |0=>L
 |n+1=>n_ (mm L a b n) (a+n) (b+n)
theorem Ab(L:List b')(a b:Nat):∀n,(mm L a b n).length=L.length
 |0=>rfl
 |n+1=>by rw[mm,ES,Ab L a b n]
end LZ
abbrev lS.i6(v:Value)(xs:List D):aJ:=.row v xs 12 234
abbrev lS.hk(v:Value)(i:Nat):Value:=hW v (i*12)
abbrev lS.ig(c:List D):D:=.agg c
def Ac(d:D):Prop:=∃aB,d=lS.ig aB/\aB.length=12/\aB.all D.one=true
variable{p:Prop}
theorem Tf(h:p:=by
 refine kj Tg Th λU=>?_;refine go ?_;refine gf (λi=>i<=n) [0,1,2,3,4] [] (λi=>[(10,u i)]) (λi=>[(2000,i6 v ((mm L a b i).map e))]) (λi=>n-i) 0 (at4 _) [(2000,2000)] λi hi=>?_;refine go ?_;refine g6 (t:=decide ((i:Int)<n)) (λhc=>?_) (λhc=>?_)
 ·have n0:i<n:=by simpa using hc
  have eJ:=Ab L a b i;have aI:a+i<(mm L a b i).length:=atw
  have w2:b+i<(mm L a b i).length:=atw
  obtain⟨ev,bV,dJ,dj⟩:=ao (mm L a b i)[b+i];obtain⟨dB,b9,cx,dn⟩:=ao (mm L a b i)[a+i];have Mw:(((mm L a b i).map e).set (a+i) (ig ev)).set (b+i) (ig dB)=(mm L a b (i+1)).map e:=by rw[<-bV,<-b9,H' aI w2];rfl
  refine' eH [(2000,i6 v ((mm L a b i).map e))] 0 (λy=>[_,_,_,_,_,_,_,_,_,_,_,_,.ai (hk v (b+i)),ig ev,_,_,_,_,.ai (hk v (a+i)),ig dB,.ai (hk v (a+i)),.any,.ai (hk v (b+i)),.any]) (λ_=>[(21,2000,some (i6 v (((mm L a b i).map e).set (a+i) (ig ev)))),(23,2000,some (i6 v ((mm L a b (i+1)).map e)))]) [0,0,0,6,0,0,0,96,0,0,0,1536,3840,7936,0,0,0,98304,245760,507904,1048335,2096911,4194303,8388607] [(21,2000),(23,2000)] ?_ ?_
  rotate_left 16
  ·refine dw ?_;refine bS (λy=>af.ey aM 2000 rfl rfl rfl rfl rfl rfl rfl atw atx (cw y)) ?_;refine bS (λy=>af.me aM (i:=b+i) 2000 rfl rfl rfl (pe w2 bV) (cw y)) ?_;refine bS (λy=>af.ey aM 2000 rfl rfl rfl rfl rfl rfl rfl atw atx (cw y)) ?_;refine bS (λy=>af.me aM (i:=a+i) 2000 rfl rfl rfl (pe aI b9) (cw y)) ?_;refine bS (λy=>af.ey aM 2000 rfl rfl rfl rfl rfl rfl rfl atw atx (cw y)) ?_;refine bS (λy=>by first|exact af.yb aM (i:=a+i) 2000 rfl rfl rfl rfl atx rfl dJ dj (cw y)|exact af.ni aM (i:=a+i) 2000 rfl rfl rfl rfl atx rfl (cw y)) ?_;refine bS (λy=>af.ey aM 2000 rfl rfl rfl rfl rfl rfl rfl atw atx (cw y)) ?_;refine bS (λy=>by first|exact af.yb aM (i:=b+i) 2000 rfl rfl rfl rfl atx rfl cx dn (cw y)|exact af.ni aM (i:=b+i) 2000 rfl rfl rfl rfl atx rfl (cw y)) ?_;exact trivial
  intro _
  (conv=>whnf)
  refine go ?_;exact eI (i+1) [(2000,2000)] n0
 have ci:i=n:=by simp at hc;omega
 subst ci
 exact⟨.bp [],ak,rfl,bc⟩):p:=h
abbrev lS.Tg:=@Tryz.func364
abbrev lS.Th:=@Tryz.ntmps364
variable{b':Type}
theorem lS.Ia(e:b'->D)(ao:∀x,Ac (e x))(v:Value)(L:List b')(a b n:Nat)(b8:Nat)(cu:List D)(ha:a+n<=L.length)(I:b+n<=L.length)(al:L.length<1000000):
  c1 B 364 [.ai v,u a,u b,u n,.fn (.func b8) [] cu] (aL [(2000,.row v (L.map e) 12 234)]) λd aP=>d=.bp []/\aP=aL [(2000,.row v ((mm L a b n).map e) 12 234)]:=Tf
section
def pg(m:Nat)(L:List b')(i j:Nat):List b' :=
 if i=j then mm L (m-i) m i
 else if h:j<i/\0<j then pg m (mm L (m-i) m j) (i-j) j
 else if h:i<j/\0<i then pg m (mm L (m-i) (m+j-i) i) i (j-i)
 else L
termination_by i+j
theorem Ib(m:Nat)(L:List b')(i j:Nat):(pg m L i j).length=L.length:=by
 rw[pg];split
 ·exact Ab ..
 split
 ·rw[Ib,Ab]
 split
 ·rw[Ib,Ab]
 rfl
termination_by i+j
end
theorem Ti(h:p:=by
 refine kj Tj Tk λU=>?_;refine go ?_;refine gf (α:=List b'×Nat×Nat) (λx=>0<x.2.1/\x.2.1<=m/\0<x.2.2/\m+x.2.2<=L.length/\x.1.length=L.length/\pg m x.1 x.2.1 x.2.2=pg m L (m-a) (b-m)) [0,1,2,3,4] [] (λx=>[(10,u x.2.1),(11,u x.2.2)]) (λx=>[(2000,i6 v (x.1.map e))]) (λx=>x.2.1+x.2.2) (L,m-a,b-m) ⟨by dsimp only;omega,by dsimp only;omega,by dsimp only;omega,by dsimp only;omega,rfl,rfl⟩ [(2000,2000)] ?_;rintro⟨jP,i,j⟩ ⟨h1,A,Z,aG,bb,cL⟩;dsimp only at*;refine go ?_;refine g6 (t:=(i:Int)!=j) (λhc=>?_) (λhc=>?_)
 ·have a7:i≠j:=by simp at hc;omega
  rw[pg,atH a7]at cL;refine g6 (t:=decide ((j:Int)<i)) (λhc=>?_) (λhc=>?_)
  ·have e9:j<i:=by simpa using hc
   rw[avw ⟨e9,Z⟩]at cL;refine mj [(2000,2000)] (Ia e ao v jP (m-i) m j b8 cu atw atw atw) ?_;exact eI (mm jP (m-i) m j,i-j,j) [(2000,2000)] ⟨by dsimp only;omega,by dsimp only;omega,Z,aG,by rw[Ab];exact bb,cL⟩
  have e9:i<j:=by simp at hc;omega
  rw[awM atw,avw ⟨e9,h1⟩]at cL;refine mj [(2000,2000)] (Ia e ao v jP (m-i) (m+j-i) i b8 cu atw atw atw) ?_;exact eI (mm jP (m-i) (m+j-i) i,i,j-i) [(2000,2000)] ⟨h1,A,by dsimp only;omega,by dsimp only;omega,by rw[Ab];exact bb,cL⟩
 have d9:i=j:=by simp at hc;omega
 subst d9;rw[pg,atI rfl]at cL;refine mj [(2000,2000)] (Ia e ao v jP (m-i) m i b8 cu atw atw atw) ?_;rw[cL]
 exact⟨.bp [],ak,rfl,bc⟩):p:=h
abbrev lS.Tj:=@Tryz.func328
abbrev lS.Tk:=@Tryz.ntmps328
theorem lS.Tl(e:b'->D)(ao:∀x,Ac (e x))(v:Value)(L:List b')(a m b:Nat)(b8:Nat)(cu:List D)(ha:a<m)(I:m<b)(eW:b<=L.length)(al:L.length<1000000):
  c1 B 328 [.ai v,u a,u m,u b,.fn (.func b8) [] cu] (aL [(2000,.row v (L.map e) 12 234)]) λd aP=>d=.bp []/\aP=aL [(2000,.row v ((pg m L (m-a) (b-m)).map e) 12 234)]:=Ti
section
variable(ca:b'->b'->Int)
def ph(L:List b')(i j:Nat):Bool:=match L[i]?,L[j]? with
 |some x,some y=>decide (ca x y<0)
 |_,_=>false
theorem ET{L:List b'}(hi:i<L.length)(aa:j<L.length):ph ca L i j=decide (ca L[i] L[j]<0):=by unfold ph;rw[atK hi,atK aa]
def vv(a:Nat):Nat->List b'->List b'
 |0,L=>L
 |j+1,L=>if a<j+1/\ph ca L (j+1) j=true then vv a j (n_ L (j+1) j)else L
theorem Tm(a:Nat):∀(j:Nat) (L:List b'),(vv ca a j L).length=L.length
 |0,_=>rfl
 |j+1,L=>by rw[vv];split;rw[Tm,ES];rfl
def qN(a:Nat)(L:List b'):Nat->List b'
 |0=>L
 |n+1=>vv ca a (a+n+1) (qN a L n)
theorem EU(a:Nat)(L:List b'):∀n,(qN ca a L n).length=L.length
 |0=>rfl
 |n+1=>by rw[qN,Tm,EU]
end
theorem Tn(h:p:=by
 refine kj To Tp λU=>?_;refine go ?_;refine gf (λn=>n<=b-(a+1)) [0,1,2,3] [] (λn=>[(8,u ((a+1+n:Nat):Int))]) (λn=>[(2000,i6 v ((qN ca a L n).map e))]) (λn=>b-n) 0 (at4 _) [(2000,2000)] λn aw=>?_;refine go ?_;refine g6 (t:=decide (((a+1+n:Nat):Int)<b)) (λhc=>?_) (λhc=>?_)
 ·have w2:a+1+n<b:=by simp at hc;omega
  refine gf (λx=>x.2<=a+1+n/\a<=x.2/\x.1.length=L.length/\vv ca a x.2 x.1=qN ca a L (n+1)) [0,1,2,3,8] [] (λx=>[(9,u x.2)]) (λx=>[(2000,i6 v (x.1.map e))]) (λx=>x.2) (qN ca a L n,a+1+n) ⟨atQ _,by omega,EU ..,by rw[qN,show a+n+1=a+1+n by omega]⟩ [(2000,2000)] ?_;rintro⟨jP,j⟩ ⟨h1,A,Z,aG⟩;dsimp only at h1 A Z aG⊢;refine go ?_;by_cases arn:a<j
  ·have aW:decide ((a:Int)<j)=true:=auC atw;have aa:j<jP.length:=atw
   have vw:j-1<jP.length:=atw
   obtain⟨ev,bV,dJ,dj⟩:=ao jP[j];obtain⟨dB,b9,cx,dn⟩:=ao jP[j-1];have mY:=hcmp jP[j] jP[j-1];rw[bV,b9]at mY;refine' eH [(2000,i6 v (jP.map e))] 0 (λy=>[_,_,_,_,_,_,_,.ai (hk v j),ig ev,_,_,_,.ai (hk v (j-1)),ig dB,_,_,_]) (λ_=>[]) [0,0,3,7,15,15,15,111,239,15,15,1039,3599,7695,16383,32767,65535] [] ?_ ?_
   rotate_left 13
   ·refine dw ?_;refine⟨λy=>⟨_,_,rfl,rfl,.inl ⟨aW,.inr (.inr (af.ey aM 2000 rfl rfl rfl rfl rfl rfl rfl atw atx (cw y)))⟩⟩,dw ?_⟩;refine⟨λy=>⟨_,_,rfl,rfl,.inl ⟨aW,.inr (.inr (af.me aM (i:=j) 2000 rfl rfl rfl (pe aa bV) (cw y)))⟩⟩,dw ?_⟩;refine⟨λy=>⟨_,_,rfl,rfl,.inl ⟨aW,.inr (.inr (af.ey aM 2000 rfl rfl rfl rfl rfl rfl rfl atw atx (cw y (Z:=B3 atw))))⟩⟩,dw ?_⟩;refine⟨λy=>⟨_,_,rfl,rfl,.inl ⟨aW,.inr (.inr (af.me aM (i:=j-1) 2000 rfl rfl rfl (pe vw b9) (cw y)))⟩⟩,dw ?_⟩;exact trivial
   intro _
   (conv=>whnf)
   refine go ?_;refine g6 (λhc=>?_) (λhc=>?_)
   ·have bf:ph ca jP (j-1+1) (j-1)=true:=by
     rw[show j-1+1=j by omega,ET ca aa vw];rw[aW]at hc;exact hc
    rw[show j=j-1+1 by omega,vv,atI ⟨by omega,bf⟩,show j-1+1=j by omega]at aG;have Mw:((jP.map e).set j (ig dB)).set (j-1) (ig ev)=(n_ jP j (j-1)).map e:=by rw[<-bV,<-b9,H' aa vw]
    refine' eH [(2000,i6 v (jP.map e))] 0 (λy=>[_,_,_,_,_,_,_,_,.ai (hk v (j-1)),ig dB,_,_,.ai (hk v j),ig ev,.ai (hk v j),.any,.ai (hk v (j-1)),.any]) (λ_=>[(15,2000,some (i6 v ((jP.map e).set j (ig dB)))),(17,2000,some (i6 v ((n_ jP j (j-1)).map e)))]) [0,0,0,0,8,0,0,64,224,480,0,0,3072,7168,16355,32739,65535,131071] [(15,2000),(17,2000)] ?_ ?_
    rotate_left 10
    ·refine dw ?_;refine bS (λy=>af.ey aM 2000 rfl rfl rfl rfl rfl rfl rfl atw atx (cw y (Z:=B3 atw))) ?_;refine bS (λy=>af.me aM (i:=j-1) 2000 rfl rfl rfl (pe vw b9) (cw y)) ?_;refine bS (λy=>af.ey aM 2000 rfl rfl rfl rfl rfl rfl rfl atw atx (cw y)) ?_;refine bS (λy=>af.me aM (i:=j) 2000 rfl rfl rfl (pe aa bV) (cw y)) ?_;refine bS (λy=>af.ey aM 2000 rfl rfl rfl rfl rfl rfl rfl atw atx (cw y)) ?_;refine bS (λy=>by first|exact af.yb aM (i:=j) 2000 rfl rfl rfl rfl atx rfl cx dn (cw y)|exact af.ni aM (i:=j) 2000 rfl rfl rfl rfl atx rfl (cw y)) ?_;refine bS (λy=>af.ey aM 2000 rfl rfl rfl rfl rfl rfl rfl atw atx (cw y (Z:=B3 atw))) ?_;refine bS (λy=>by first|exact af.yb aM (i:=j-1) 2000 rfl rfl rfl rfl atx rfl dJ dj (cw y)|exact af.ni aM (i:=j-1) 2000 rfl rfl rfl rfl atx rfl (cw y)) ?_;exact trivial
    intro _
    (conv=>whnf)
    refine go ?_;exact eI (n_ jP j (j-1),j-1) [(2000,2000)] ⟨by dsimp only;omega,by dsimp only;omega,by rw[ES];exact Z,aG⟩
   have bf:¬(a<j-1+1/\ph ca jP (j-1+1) (j-1)=true):=λh=>by
    have bb:=h.2;rw[show j-1+1=j by omega,ET ca aa vw]at bb;rw[aW]at hc;rw[bb]at hc;cases hc
   rw[show j=j-1+1 by omega,vv,atH bf]at aG;subst aG;exact eI (n+1) [(2000,2000)] atw
  have aW:decide ((a:Int)<j)=false:=auk atw
  have a1:jP=qN ca a L (n+1):=by
   rw[<-aG]
   cases j with
   |zero=>rfl
   |succ k=>rw[vv,atH (λh=>by omega)]
  refine' eH [(2000,i6 v (jP.map e))] 0 (λy=>[_,_,_,_,_,_,_,_,_,_,_,_,_,_,_,_,.bool false]) (λ_=>[]) [0,0,3,7,15,15,15,111,239,15,15,1039,3599,7695,16383,32767,65535] [] ?_ ?_
  rotate_left 16
  ·refine dw ?_;refine bS (λy=>af.BW rfl aW (cw y)) ?_;exact trivial
  intro _
  (conv=>whnf)
  refine go ?_;subst a1;exact eI (n+1) [(2000,2000)] atw
 have oM:n=b-(a+1):=by simp at hc;omega
 subst oM
 exact⟨.bp [],ak,rfl,bc⟩):p:=h
abbrev lS.To:=@Tryz.func290
abbrev lS.Tp:=@Tryz.ntmps290
theorem lS.Mx(e:b'->D)(ao:∀x,Ac (e x))(ca:b'->b'->Int)(b8:Nat)(cu:List D)(hcmp:∀x y,aU B b8 (e x::e y::cu) (u (ca x y)))(v:Value)(L:List b')(a b:Nat)(I:b<=L.length)(al:L.length<1000000)(ha:a<=b):
  c1 B 290 [.ai v,u a,u b,.fn (.func b8) [] cu] (aL [(2000,.row v (L.map e) 12 234)]) λd aP=>d=.bp []/\aP=aL [(2000,.row v ((qN ca a L (b-(a+1))).map e) 12 234)]:=Tn
section
variable(ca:b'->b'->Int)
def mn(c:Nat->Bool)(i j:Nat):Nat :=
 if h:i<j then(if c ((i+j)/2)then mn c ((i+j)/2+1) j else mn c i ((i+j)/2))else i
termination_by j-i
theorem My(c:Nat->Bool)(i j:Nat)(h:i<=j):i<=mn c i j/\mn c i j<=j:=by
 rw[mn];split
 ·split
  ·have:=My c ((i+j)/2+1) j atw;omega
  have:=My c i ((i+j)/2) atw;omega
 omega
termination_by j-i
def p7(L:List b')(a:Nat):Nat->List b'
 |0=>L
 |n+1=>n_ (p7 L a n) (a+n) (a+n+1)
def p8(L:List b')(m:Nat):Nat->List b'
 |0=>L
 |n+1=>n_ (p8 L m n) (m-n) (m-n-1)
theorem Mz(L:List b')(a:Nat):∀n,(p7 L a n).length=L.length
 |0=>rfl
 |n+1=>by rw[p7,ES,Mz L a n]
theorem MA(L:List b')(a:Nat):∀n,(p8 L a n).length=L.length
 |0=>rfl
 |n+1=>by rw[p8,ES,MA L a n]
def p9(L:List b')(a m b:Nat):Nat:=mn (λc=>!ph ca L ((a+b)/2+m-1-c) c) (if(a+b)/2<m then(a+b)/2+m-b else a) (if(a+b)/2<m then(a+b)/2 else m)
def pi:Nat->List b'->Nat->Nat->Nat->List b'
 |0,L,_,_,_=>L
 |f+1,L,a,m,b =>
  if m=a+1 then p7 L a (mn (λh=>ph ca L h a) m b-1-a)
  else if b=m+1 then p8 L m (m-mn (λh=>!ph ca L m h) a m)
  else
   let d:=(a+b)/2
   let s:=p9 ca L a m b
   let vx:=if s<m/\s<d then pg m L (m-s) (d-s)else L
   let vy:=if a<s/\s<d then pi f vx a s d else vx
   if d<d+m-s/\d+m-s<b then pi f vy d (d+m-s) b else vy
theorem EV:∀(f:Nat) (L:List b') (a m b:Nat),(pi ca f L a m b).length=L.length
 |0,_,_,_,_=>rfl
 |f+1,L,a,m,b=>by rw[pi];split;exact Mz ..;split;exact MA ..;simp only;repeat (first|rfl|exact Ib ..|rw[EV f]|split)
def qO(n a:Nat)(L:List b'):List b' :=
 if h:a+20<=n then qO n (a+20) (qN ca a L 19)else qN ca a L (n-(a+1))
termination_by n-a
def sS(n aS a:Nat)(L:List b'):List b' :=
 if h:a+2*aS<=n/\0<aS then sS n aS (a+2*aS) (pi ca (n+1) L a (a+aS) (a+2*aS))
 else if a+aS<n then pi ca (n+1) L a (a+aS) n else L
termination_by n-a
def t'(n aS:Nat)(L:List b'):List b' :=
 if h:aS<n/\0<aS then t' n (2*aS) (sS ca n aS 0 L)else L
termination_by n-aS
def gd(L:List b'):List b':=t' ca L.length 20 (qO ca L.length 0 L)
theorem MB(n a:Nat)(L:List b'):(qO ca n a L).length=L.length:=by
 rw[qO];split
 ·rw[MB,EU]
 exact EU ..
termination_by n-a
theorem Ic(n aS a:Nat)(L:List b'):(sS ca n aS a L).length=L.length:=by
 rw[sS];split
 ·rw[Ic,EV]
 split
 ·exact EV ..
 rfl
termination_by n-a
theorem Tq(n aS:Nat)(L:List b'):(t' ca n aS L).length=L.length:=by
 rw[t'];split
 ·rw[Tq,Ic]
 rfl
termination_by n-aS
theorem ads(L:List b'):(gd ca L).length=L.length:=by rw[gd,Tq,MB]
end
theorem Id(i j:Nat):Int.fdiv ((i:Int)+(j:Int)) (2 ^ min (Int.toNat 1) (IntKind.bits .u64))=(((i+j)/2:Nat):Int):=by show Int.fdiv ((i:Int)+(j:Int)) 2=_;rw[Int.fdiv_eq_ediv_of_nonneg _ atz];omega
theorem Tr(h:p:=by
 intro f
 induction f with
 |zero=>intro L a m b h;omega
 |succ f aZ =>
 intro L a m b M aro oN eW al;refine kj Ts Tt λU=>?_;refine go ?_;refine g6 (t:=(m:Int)-a==1) (λhc=>?_) (λhc=>?_)
 ·have hm:m=a+1:=by simp at hc;omega
  refine gf (λx=>m<=x.1/\x.1<=x.2/\x.2<=b/\mn (λh=>ph ca L h a) x.1 x.2=mn (λh=>ph ca L h a) m b) [0,1,2,3,4] [2000] (λx=>[(10,u x.1),(11,u x.2)]) (λx=>[]) (λx=>x.2-x.1) (m,b) ⟨atQ _,by dsimp only;omega,atQ _,rfl⟩ [(2000,2000)] ?_;rintro⟨i,j⟩ ⟨h1,A,Z,aG⟩;dsimp only at h1 A Z aG⊢;refine go ?_;refine g6 (t:=decide ((i:Int)<j)) (λhc=>?_) (λhc=>?_)
  ·have d9:i<j:=by simpa using hc
   rw[Id];refine go ?_;generalize cF:(i+j)/2=h at*;have ym:h<L.length:=atw
   have pj:a<L.length:=atw
   obtain⟨ev,bV,dJ,dj⟩:=ao L[h];obtain⟨dB,b9,cx,dn⟩:=ao L[a];have mY:=hcmp L[h] L[a];rw[bV,b9]at mY;have bf:=ET ca ym pj;rw[mn,avw d9,cF,bf]at aG;refine' eH [(2000,i6 v (L.map e))] 0 (λy=>[_,_,_,.ai (hk v (h)),ig ev,_,_,.ai (hk v (a)),ig dB,_,_]) (λ_=>[]) [0,0,0,6,14,0,0,96,224,511,1023] [] ?_ ?_
   rotate_left 7
   ·refine dw ?_;refine bS (λy=>af.ey aM 2000 rfl rfl rfl rfl rfl rfl rfl atw atx (cw y)) ?_;refine bS (λy=>af.me aM (i:=h) 2000 rfl rfl rfl (pe ym bV) (cw y)) ?_;refine bS (λy=>af.ey aM 2000 rfl rfl rfl rfl rfl rfl rfl atw atx (cw y)) ?_;refine bS (λy=>af.me aM (i:=a) 2000 rfl rfl rfl (pe pj b9) (cw y)) ?_;exact trivial
   intro _
   (conv=>whnf)
   refine go ?_;refine g6 (t:=decide (ca L[h] L[a]<0)) (λhc=>?_) (λhc=>?_)
   ·rw[atI hc]at aG;exact eI (h+1,j) [(2000,2000)] ⟨by dsimp only;omega,by dsimp only;omega,Z,aG⟩
   rw[atH (by simp[hc])]at aG;exact eI (i,h) [(2000,2000)] ⟨h1,by dsimp only;omega,by dsimp only;omega,aG⟩
  have d9:i=j:=by simp at hc;omega
  subst d9;rw[mn,awM atw]at aG;refine gf (λn=>n<=i-1-a) [0,1,2,3,4,10] [] (λn=>[(13,u ((a+n:Nat):Int))]) (λn=>[(2000,i6 v ((p7 L a n).map e))]) (λn=>i-n) 0 (at4 _) [(2000,2000)] λn aw=>?_;refine go ?_;refine g6 (t:=decide (((a+n:Nat):Int)<(i:Int)-1)) (λhc=>?_) (λhc=>?_)
  ·have adt:a+n<i-1:=by simp at hc;omega
   have eJ:=Mz L a n;have G:a+n<(p7 L a n).length:=atw
   have ay:a+n+1<(p7 L a n).length:=atw
   obtain⟨ev,bV,dJ,dj⟩:=ao (p7 L a n)[a+n+1];obtain⟨dB,b9,cx,dn⟩:=ao (p7 L a n)[a+n];have Mw:(((p7 L a n).map e).set (a+n) (ig ev)).set (a+n+1) (ig dB)=(n_ (p7 L a n) (a+n) (a+n+1)).map e:=by rw[<-bV,<-b9,H' G ay]
   refine' eH [(2000,i6 v ((p7 L a n).map e))] 0 (λy=>[_,_,_,_,_,_,_,_,.ai (hk v (a+n+1)),ig ev,_,_,.ai (hk v (a+n)),ig dB,.ai (hk v (a+n)),.any,.ai (hk v (a+n+1)),.any]) (λ_=>[(15,2000,some (i6 v (((p7 L a n).map e).set (a+n) (ig ev)))),(17,2000,some (i6 v ((n_ (p7 L a n) (a+n) (a+n+1)).map e)))]) [0,0,0,0,8,0,0,64,224,480,0,0,3072,7168,16355,32739,65535,131071] [(15,2000),(17,2000)] ?_ ?_
   rotate_left 10
   ·refine dw ?_;refine bS (λy=>af.ey aM 2000 rfl rfl rfl rfl rfl rfl rfl atw atx (cw y)) ?_;refine bS (λy=>af.me aM (i:=a+n+1) 2000 rfl rfl rfl (pe ay bV) (cw y)) ?_;refine bS (λy=>af.ey aM 2000 rfl rfl rfl rfl rfl rfl rfl atw atx (cw y)) ?_;refine bS (λy=>af.me aM (i:=a+n) 2000 rfl rfl rfl (pe G b9) (cw y)) ?_;refine bS (λy=>af.ey aM 2000 rfl rfl rfl rfl rfl rfl rfl atw atx (cw y)) ?_;refine bS (λy=>by first|exact af.yb aM (i:=a+n) 2000 rfl rfl rfl rfl atx rfl dJ dj (cw y)|exact af.ni aM (i:=a+n) 2000 rfl rfl rfl rfl atx rfl (cw y)) ?_;refine bS (λy=>af.ey aM 2000 rfl rfl rfl rfl rfl rfl rfl atw atx (cw y)) ?_;refine bS (λy=>by first|exact af.yb aM (i:=a+n+1) 2000 rfl rfl rfl rfl atx rfl cx dn (cw y)|exact af.ni aM (i:=a+n+1) 2000 rfl rfl rfl rfl atx rfl (cw y)) ?_;exact trivial
   intro _
   (conv=>whnf)
   refine go ?_;exact eI (n+1) [(2000,2000)] atw
  have a7:n=i-1-a:=by simp at hc;omega
  rw[pi,atI hm,<-aG,<-a7];exact⟨.bp [],ak,rfl,bc⟩
 have hm:¬m=a+1:=λh=>by simp at hc;omega
 refine g6 (t:=(b:Int)-m==1) (λhc=>?_) (λhc=>?_)
 ·have I:b=m+1:=by simp at hc;omega
  refine gf (λx=>a<=x.1/\x.1<=x.2/\x.2<=m/\mn (λh=>!ph ca L m h) x.1 x.2=mn (λh=>!ph ca L m h) a m) [0,1,2,3,4] [2000] (λx=>[(14,u x.1),(15,u x.2)]) (λx=>[]) (λx=>x.2-x.1) (a,m) ⟨atQ _,by dsimp only;omega,atQ _,rfl⟩ [(2000,2000)] ?_;rintro⟨i,j⟩ ⟨h1,A,Z,aG⟩;dsimp only at h1 A Z aG⊢;refine go ?_;refine g6 (t:=decide ((i:Int)<j)) (λhc=>?_) (λhc=>?_)
  ·have d9:i<j:=by simpa using hc
   rw[Id];refine go ?_;generalize cF:(i+j)/2=h at*;have ym:h<L.length:=atw
   have pj:m<L.length:=atw
   obtain⟨ev,bV,dJ,dj⟩:=ao L[m];obtain⟨dB,b9,cx,dn⟩:=ao L[h];have mY:=hcmp L[m] L[h];rw[bV,b9]at mY;have bf:=ET ca pj ym;rw[mn,avw d9,cF,bf]at aG;refine' eH [(2000,i6 v (L.map e))] 0 (λy=>[_,_,_,.ai (hk v (m)),ig ev,_,_,.ai (hk v (h)),ig dB,_,_,_]) (λ_=>[]) [0,0,0,6,14,0,0,96,224,511,1023,2047] [] ?_ ?_
   rotate_left 8
   ·refine dw ?_;refine bS (λy=>af.ey aM 2000 rfl rfl rfl rfl rfl rfl rfl atw atx (cw y)) ?_;refine bS (λy=>af.me aM (i:=m) 2000 rfl rfl rfl (pe pj bV) (cw y)) ?_;refine bS (λy=>af.ey aM 2000 rfl rfl rfl rfl rfl rfl rfl atw atx (cw y)) ?_;refine bS (λy=>af.me aM (i:=h) 2000 rfl rfl rfl (pe ym b9) (cw y)) ?_;exact trivial
   intro _
   (conv=>whnf)
   refine go ?_;refine g6 (t:=!decide (ca L[m] L[h]<0)) (λhc=>?_) (λhc=>?_)
   ·rw[atI hc]at aG;exact eI (h+1,j) [(2000,2000)] ⟨by dsimp only;omega,by dsimp only;omega,Z,aG⟩
   rw[atH (by simp[hc])]at aG;exact eI (i,h) [(2000,2000)] ⟨h1,by dsimp only;omega,by dsimp only;omega,aG⟩
  have d9:i=j:=by simp at hc;omega
  subst d9;rw[mn,awM atw]at aG;refine gf (λn=>n<=m-i) [0,1,2,3,4,14] [] (λn=>[(17,u ((m-n:Nat):Int))]) (λn=>[(2000,i6 v ((p8 L m n).map e))]) (λn=>m-n) 0 (at4 _) [(2000,2000)] λn aw=>?_;refine go ?_;refine g6 (t:=decide ((i:Int)<((m-n:Nat):Int))) (λhc=>?_) (λhc=>?_)
  ·have adt:i<m-n:=by simp at hc;omega
   have eJ:=MA L m n;have G:m-n<(p8 L m n).length:=atw
   have ay:m-n-1<(p8 L m n).length:=atw
   obtain⟨ev,bV,dJ,dj⟩:=ao (p8 L m n)[m-n-1];obtain⟨dB,b9,cx,dn⟩:=ao (p8 L m n)[m-n];have Mw:(((p8 L m n).map e).set (m-n) (ig ev)).set (m-n-1) (ig dB)=(n_ (p8 L m n) (m-n) (m-n-1)).map e:=by rw[<-bV,<-b9,H' G ay]
   refine' eH [(2000,i6 v ((p8 L m n).map e))] 0 (λy=>[_,_,_,_,_,_,_,_,.ai (hk v (m-n-1)),ig ev,_,_,.ai (hk v (m-n)),ig dB,.ai (hk v (m-n)),.any,.ai (hk v (m-n-1)),.any]) (λ_=>[(15,2000,some (i6 v (((p8 L m n).map e).set (m-n) (ig ev)))),(17,2000,some (i6 v ((n_ (p8 L m n) (m-n) (m-n-1)).map e)))]) [0,0,0,0,8,0,0,64,224,480,0,0,3072,7168,16355,32739,65535,131071] [(15,2000),(17,2000)] ?_ ?_
   rotate_left 10
   ·refine dw ?_;refine bS (λy=>af.ey aM 2000 rfl rfl rfl rfl rfl rfl rfl atw atx (cw y (Z:=B3 atw))) ?_;refine bS (λy=>af.me aM (i:=m-n-1) 2000 rfl rfl rfl (pe ay bV) (cw y)) ?_;refine bS (λy=>af.ey aM 2000 rfl rfl rfl rfl rfl rfl rfl atw atx (cw y)) ?_;refine bS (λy=>af.me aM (i:=m-n) 2000 rfl rfl rfl (pe G b9) (cw y)) ?_;refine bS (λy=>af.ey aM 2000 rfl rfl rfl rfl rfl rfl rfl atw atx (cw y)) ?_;refine bS (λy=>by first|exact af.yb aM (i:=m-n) 2000 rfl rfl rfl rfl atx rfl dJ dj (cw y)|exact af.ni aM (i:=m-n) 2000 rfl rfl rfl rfl atx rfl (cw y)) ?_;refine bS (λy=>af.ey aM 2000 rfl rfl rfl rfl rfl rfl rfl atw atx (cw y (Z:=B3 atw))) ?_;refine bS (λy=>by first|exact af.yb aM (i:=m-n-1) 2000 rfl rfl rfl rfl atx rfl cx dn (cw y)|exact af.ni aM (i:=m-n-1) 2000 rfl rfl rfl rfl atx rfl (cw y)) ?_;exact trivial
   intro _
   (conv=>whnf)
   refine go ?_;exact eI (n+1) [(2000,2000)] atw
  have a7:n=m-i:=by simp at hc;omega
  rw[pi,atH hm,atI I,<-aG,<-a7];exact⟨.bp [],ak,rfl,bc⟩
 have I:¬b=m+1:=λh=>by simp at hc;omega
 rw[Id];refine go ?_;have N:((a+b)/2)*2<=a+b/\a+b<=((a+b)/2)*2+1:=atw
 rw[pi,atH hm,atH I];have gS:p9 ca L a m b=mn (λc=>!ph ca L ((a+b)/2+m-1-c) c) (if(a+b)/2<m then(a+b)/2+m-b else a) (if(a+b)/2<m then(a+b)/2 else m):=rfl;generalize(a+b)/2=d at*;simp only;refine ns (λx:Nat×Nat=>((m<=d/\x.1=a/\x.2=m)\/(d<m/\x.1+b=d+m/\x.2=d))/\p9 ca L a m b=mn (λc=>!ph ca L (d+m-1-c) c) x.1 x.2) [0,1,2,3,4,18,19] [2000] (λx=>[(20,u x.1),(21,u x.2)]) (λ_=>[]) ?_ ?_
 ·refine g6 (t:=decide ((d:Int)<m)) (λhc=>?_) (λhc=>?_)
  ·have rS:d<m:=by simpa using hc
   rw[atI rS,atI rS]at gS;exact gK (d+m-b,d) [(2000,2000)] ⟨.inr ⟨rS,by dsimp only;omega,rfl⟩,gS⟩
  have rS:¬d<m:=by simpa using hc
  rw[atH rS,atH rS]at gS;exact gK (a,m) [(2000,2000)] ⟨.inl ⟨by omega,rfl,rfl⟩,gS⟩
 rintro⟨gl,gz⟩ ⟨h0,h1⟩;dsimp only at h0 h1⊢;have ci:=My (λc=>!ph ca L (d+m-1-c) c) gl gz atw;refine go ?_;refine gf (λx=>gl<=x.1/\x.1<=x.2/\x.2<=gz/\mn (λc=>!ph ca L (d+m-1-c) c) x.1 x.2=p9 ca L a m b) [0,1,2,3,4,18,19,22] [2000] (λx=>[(20,u x.1),(21,u x.2)]) (λx=>[]) (λx=>x.2-x.1) (gl,gz) ⟨atQ _,by dsimp only;omega,atQ _,h1.symm⟩ [(2000,2000)] ?_;rintro⟨i,j⟩ ⟨A,Z,aG,bb⟩;dsimp only at A Z aG bb⊢;refine go ?_;refine g6 (t:=decide ((i:Int)<j)) (λhc=>?_) (λhc=>?_)
 ·have d9:i<j:=by simpa using hc
  rw[Id];refine go ?_;generalize cF:(i+j)/2=h at*;have ym:h<L.length:=atw
  have pj:d+m-1-h<L.length:=atw
  obtain⟨ev,bV,dJ,dj⟩:=ao L[d+m-1-h];obtain⟨dB,b9,cx,dn⟩:=ao L[h];have mY:=hcmp L[d+m-1-h] L[h];rw[bV,b9]at mY;have bf:=ET ca pj ym;rw[mn,avw d9,cF,bf]at bb;refine' eH [(2000,i6 v (L.map e))] 0 (λy=>[_,_,_,_,_,.ai (hk v (d+m-1-h)),ig ev,_,_,.ai (hk v (h)),ig dB,_,_,_]) (λ_=>[]) [0,0,0,0,12,30,62,0,0,384,896,2047,4095,8191] [] ?_ ?_
  rotate_left 10
  ·refine dw ?_;refine bS (λy=>af.ey aM 2000 rfl rfl rfl rfl rfl rfl rfl atw atx (cw y (Z:=B3 atw))) ?_;refine bS (λy=>af.me aM (i:=d+m-1-h) 2000 rfl rfl rfl (pe pj bV) (cw y)) ?_;refine bS (λy=>af.ey aM 2000 rfl rfl rfl rfl rfl rfl rfl atw atx (cw y)) ?_;refine bS (λy=>af.me aM (i:=h) 2000 rfl rfl rfl (pe ym b9) (cw y)) ?_;exact trivial
  intro _
  (conv=>whnf)
  refine go ?_;refine g6 (t:=!decide (ca L[d+m-1-h] L[h]<0)) (λhc=>?_) (λhc=>?_)
  ·rw[atI hc]at bb;exact eI (h+1,j) [(2000,2000)] ⟨by dsimp only;omega,by dsimp only;omega,aG,bb⟩
  rw[atH (by simp[hc])]at bb;exact eI (i,h) [(2000,2000)] ⟨A,by dsimp only;omega,by dsimp only;omega,bb⟩
 have d9:i=j:=by simp at hc;omega
 subst d9;rw[mn,awM atw]at bb;rw[<-bb];clear bb h1 gS ci;have Ad:i<=m/\i<=d/\a<=i/\d+m-i<=b:=atw
 refine ns (λx=>x=if i<m/\i<d then pg m L (m-i) (d-i)else L) [0,1,2,3,4,18,20,24] [] (λ_=>[]) (λx=>[(2000,i6 v (x.map e))]) ?_ ?_
 ·refine g6 (λhc=>?_) (λhc=>?_)
  ·have fc:i<m/\i<d:=by revert hc;cases h:decide ((i:Int)<m)<;>simp at h⊢<;>omega
   have Y:=Tl (B:=B) e ao v L i m (d+m-i) b8 cu atw atw atw al;rw[show d+m-i-m=d-i by omega]at Y;refine mj [(2000,2000)] Y ?_;exact gK _ [(2000,2000)] (by rw[atI fc])
  have fc:¬(i<m/\i<d):=by revert hc;cases h:decide ((i:Int)<m)<;>simp at h⊢<;>omega
  exact gK _ [(2000,2000)] (by rw[atH fc])
 intro vx Tu;have ko:vx.length=L.length:=by rw[Tu];split<;>first|rfl|exact Ib ..
 rw[<-Tu];refine go ?_;refine ns (λx=>x=if a<i/\i<d then pi ca f vx a i d else vx) [0,3,4,18,24] [] (λ_=>[]) (λx=>[(2000,i6 v (x.map e))]) ?_ ?_
 ·refine g6 (λhc=>?_) (λhc=>?_)
  ·have fc:a<i/\i<d:=by revert hc;cases h:decide ((a:Int)<i)<;>simp at h⊢<;>omega
   refine mj [(2000,2000)] (aZ vx a i d atw atw atw atw atw) ?_;exact gK _ [(2000,2000)] (by rw[atI fc])
  have fc:¬(a<i/\i<d):=by revert hc;cases h:decide ((a:Int)<i)<;>simp at h⊢<;>omega
  exact gK _ [(2000,2000)] (by rw[atH fc])
 intro vy Tv;have nt:vy.length=L.length:=by rw[Tv];split<;>first|exact ko|rw[EV,ko]
 rw[<-Tv];refine go ?_;refine g6 (λhc=>?_) (λhc=>?_)
 ·have fc:d<d+m-i/\d+m-i<b:=by revert hc;cases h:decide ((d:Int)<(d:Int)+m-i)<;>simp at h⊢<;>omega
  rw[atI fc];refine mj [(2000,2000)] (aZ vy d (d+m-i) b atw atw atw atw atw) ?_;exact⟨.bp [],ak,rfl,bc⟩
 have fc:¬(d<d+m-i/\d+m-i<b):=by revert hc;cases h:decide ((d:Int)<(d:Int)+m-i)<;>simp at h⊢<;>omega
 rw[atH fc]
 exact⟨.bp [],ak,rfl,bc⟩):p:=h
abbrev lS.Ts:=@Tryz.func291
abbrev lS.Tt:=@Tryz.ntmps291
theorem lS.MC(e:b'->D)(ao:∀x,Ac (e x))(ca:b'->b'->Int)(b8:Nat)(cu:List D)(hcmp:∀x y,aU B b8 (e x::e y::cu) (u (ca x y)))(v:Value):∀(f:Nat) (L:List b') (a m b:Nat),b-a<f->a<m->m<b->b<=L.length->L.length<1000000->
  c1 B 291 [.ai v,u a,u m,u b,.fn (.func b8) [] cu] (aL [(2000,.row v (L.map e) 12 234)]) λd aP=>d=.bp []/\aP=aL [(2000,.row v ((pi ca f L a m b).map e) 12 234)]:=Tr
theorem Tw(h:p:=by
 generalize aw:L.length=n at*;refine kj Tx Ty λU=>?_;refine go ?_;refine gf (λx:List b'×Nat=>x.2<=n/\x.1.length=n/\qO ca n x.2 x.1=qO ca n 0 L) [0,1,2,6] [] (λx=>[(7,u x.2),(8,u ((x.2+20:Nat):Int))]) (λx=>[(2000,i6 v (x.1.map e))]) (λx=>n-x.2) (L,0) ⟨at4 _,aw,rfl⟩ [(2000,2000)] ?_;rintro⟨jP,a⟩ ⟨h1,A,Z⟩;dsimp only at h1 A Z⊢;refine go ?_;refine g6 (t:=decide (((a+20:Nat):Int)<=n)) (λhc=>?_) (λhc=>?_)
 ·have I:a+20<=n:=by simp at hc;omega
  rw[qO,avw I]at Z;have Y:=Mx (B:=B) e ao ca b8 cu hcmp v jP a (a+20) atw atw atw;rw[show a+20-(a+1)=19 by omega]at Y;refine mj [(2000,2000)] Y ?_;exact eI (qN ca a jP 19,a+20) [(2000,2000)] ⟨I,by rw[EU];exact A,Z⟩
 have I:¬a+20<=n:=by simp at hc;omega
 rw[qO,awM I]at Z;have Y:=Mx (B:=B) e ao ca b8 cu hcmp v jP a n atw atw atw;rw[Z]at Y;refine mj [(2000,2000)] Y ?_;have eJ:(qO ca n 0 L).length=n:=by rw[MB,aw]
 have a6:gd ca L=t' ca n 20 (qO ca n 0 L):=by rw[gd,aw]
 rw[a6];refine gf (λx:List b'×Nat=>0<x.2/\x.2<=2*n+20/\x.1.length=n/\t' ca n x.2 x.1=t' ca n 20 (qO ca n 0 L)) [0,1,2] [] (λx=>[(6,u x.2)]) (λx=>[(2000,i6 v (x.1.map e))]) (λx=>n-x.2) (qO ca n 0 L,20) ⟨by dsimp only;omega,by dsimp only;omega,eJ,rfl⟩ [(2000,2000)] ?_;rintro⟨vy,aS⟩ ⟨g1,fe,g3,g4⟩;dsimp only at g1 fe g3 g4⊢;refine go ?_;refine g6 (t:=decide ((aS:Int)<n)) (λbu=>?_) (λbu=>?_)
 ·have oM:aS<n:=by simpa using bu
  rw[t',avw ⟨oM,g1⟩]at g4;refine gf (λx:List b'×Nat=>x.2<=n/\x.1.length=n/\sS ca n aS x.2 x.1=sS ca n aS 0 vy) [0,1,2,6] [] (λx=>[(7,u x.2),(8,u ((x.2+2*aS:Nat):Int))]) (λx=>[(2000,i6 v (x.1.map e))]) (λx=>n-x.2) (vy,0) ⟨at4 _,g3,rfl⟩ [(2000,2000)] ?_;rintro⟨MD,a⟩ ⟨cq,d8,nu⟩;dsimp only at cq d8 nu⊢;refine go ?_;refine g6 (t:=decide (((a+2*aS:Nat):Int)<=n)) (λdK=>?_) (λdK=>?_)
  ·have I:a+2*aS<=n:=by simp at dK;omega
   rw[sS,avw ⟨I,g1⟩]at nu;refine mj [(2000,2000)] (MC e ao ca b8 cu hcmp v (n+1) MD a (a+aS) (a+2*aS) atw atw atw atw atw) ?_;exact eI (pi ca (n+1) MD a (a+aS) (a+2*aS),a+2*aS) [(2000,2000)] ⟨I,by rw[EV];exact d8,nu⟩
  have I:¬a+2*aS<=n:=by simp at dK;omega
  rw[sS,awM atw]at nu;refine g6 (t:=decide ((a:Int)+aS<n)) (λmo=>?_) (λmo=>?_)
  ·have hm:a+aS<n:=by simp at mo;omega
   rw[atI hm]at nu;have Y:=MC (B:=B) e ao ca b8 cu hcmp v (n+1) MD a (a+aS) n atw atw atw atw atw;rw[nu]at Y;refine mj [(2000,2000)] Y ?_;exact eI (sS ca n aS 0 vy,2*aS) [(2000,2000)] ⟨by dsimp only;omega,by dsimp only;omega,by rw[Ic];exact g3,g4⟩
  have hm:¬a+aS<n:=by simp at mo;omega
  rw[atH hm]at nu;subst nu;exact eI (sS ca n aS 0 vy,2*aS) [(2000,2000)] ⟨by dsimp only;omega,by dsimp only;omega,by rw[Ic];exact g3,g4⟩
 have oM:¬aS<n:=by simpa using bu
 rw[t',awM atw]at g4;rw[<-g4]
 exact⟨.bp [],ak,rfl,bc⟩):p:=h
abbrev lS.Tx:=@Tryz.func243
abbrev lS.Ty:=@Tryz.ntmps243
theorem lS.Tz(e:b'->D)(ao:∀x,Ac (e x))(ca:b'->b'->Int)(b8:Nat)(cu:List D)(hcmp:∀x y,aU B b8 (e x::e y::cu) (u (ca x y)))(v:Value)(L:List b')(al:L.length<400000):
  c1 B 243 [.ai v,u L.length,.fn (.func b8) [] cu] (aL [(2000,.row v (L.map e) 12 234)]) λd aP=>d=.bp []/\aP=aL [(2000,.row v ((gd ca L).map e) 12 234)]:=Tw
theorem TA(h:p:=by
 refine kj TB TC λU=>?_;refine go ?_;refine dQ (af.sF aM 2000 rfl rfl rfl rfl) ?_;have Y:=Tz (B:=B) e ao ca b8 cu hcmp v L al;rw[show L.length=(L.map e).length by simp]at Y;refine mj [(2000,2000)] Y ?_
 exact⟨.bp [],ak,rfl,bc⟩):p:=h
abbrev lS.TB:=@Tryz.func176
abbrev lS.TC:=@Tryz.ntmps176
theorem lS.ME(e:b'->D)(ao:∀x,Ac (e x))(ca:b'->b'->Int)(b8:Nat)(cu:List D)(hcmp:∀x y,aU B b8 (e x::e y::cu) (u (ca x y)))(v:Value)(L:List b')(al:L.length<400000):
  c1 B 176 [.ai v,.fn (.func b8) [] cu] (aL [(2000,.row v (L.map e) 12 234)]) λd aP=>d=.bp []/\aP=aL [(2000,.row v ((gd ca L).map e) 12 234)]:=TA
abbrev lT.i6(v:Value)(xs:List D):aJ:=.row v xs 1 3
abbrev lT.hk(v:Value)(i:Nat):Value:=hW v (i*1)
abbrev lT.ig(n:Int):D:=u n
def B6(d:D):Prop:=∃n,d=lT.ig n/\True/\True
abbrev lT.Tg:=@Tryz.func391
abbrev lT.Th:=@Tryz.ntmps391
theorem lT.Ia(e:b'->D)(ao:∀x,B6 (e x))(v:Value)(L:List b')(a b n:Nat)(b8:Nat)(cu:List D)(ha:a+n<=L.length)(I:b+n<=L.length)(al:L.length<1000000):
  c1 B 391 [.ai v,u a,u b,u n,.fn (.func b8) [] cu] (aL [(2000,.row v (L.map e) 1 3)]) λd aP=>d=.bp []/\aP=aL [(2000,.row v ((mm L a b n).map e) 1 3)]:=Tf
abbrev lT.Tj:=@Tryz.func378
abbrev lT.Tk:=@Tryz.ntmps378
theorem lT.Tl(e:b'->D)(ao:∀x,B6 (e x))(v:Value)(L:List b')(a m b:Nat)(b8:Nat)(cu:List D)(ha:a<m)(I:m<b)(eW:b<=L.length)(al:L.length<1000000):
  c1 B 378 [.ai v,u a,u m,u b,.fn (.func b8) [] cu] (aL [(2000,.row v (L.map e) 1 3)]) λd aP=>d=.bp []/\aP=aL [(2000,.row v ((pg m L (m-a) (b-m)).map e) 1 3)]:=Ti
abbrev lT.To:=@Tryz.func336
abbrev lT.Tp:=@Tryz.ntmps336
theorem lT.Mx(e:b'->D)(ao:∀x,B6 (e x))(ca:b'->b'->Int)(b8:Nat)(cu:List D)(hcmp:∀x y,aU B b8 (e x::e y::cu) (u (ca x y)))(v:Value)(L:List b')(a b:Nat)(I:b<=L.length)(al:L.length<1000000)(ha:a<=b):
  c1 B 336 [.ai v,u a,u b,.fn (.func b8) [] cu] (aL [(2000,.row v (L.map e) 1 3)]) λd aP=>d=.bp []/\aP=aL [(2000,.row v ((qN ca a L (b-(a+1))).map e) 1 3)]:=Tn
abbrev lT.Ts:=@Tryz.func363
abbrev lT.Tt:=@Tryz.ntmps363
theorem lT.MC(e:b'->D)(ao:∀x,B6 (e x))(ca:b'->b'->Int)(b8:Nat)(cu:List D)(hcmp:∀x y,aU B b8 (e x::e y::cu) (u (ca x y)))(v:Value):∀(f:Nat) (L:List b') (a m b:Nat),b-a<f->a<m->m<b->b<=L.length->L.length<1000000->
  c1 B 363 [.ai v,u a,u m,u b,.fn (.func b8) [] cu] (aL [(2000,.row v (L.map e) 1 3)]) λd aP=>d=.bp []/\aP=aL [(2000,.row v ((pi ca f L a m b).map e) 1 3)]:=Tr
abbrev lT.Tx:=@Tryz.func326
abbrev lT.Ty:=@Tryz.ntmps326
theorem lT.Tz(e:b'->D)(ao:∀x,B6 (e x))(ca:b'->b'->Int)(b8:Nat)(cu:List D)(hcmp:∀x y,aU B b8 (e x::e y::cu) (u (ca x y)))(v:Value)(L:List b')(al:L.length<400000):
  c1 B 326 [.ai v,u L.length,.fn (.func b8) [] cu] (aL [(2000,.row v (L.map e) 1 3)]) λd aP=>d=.bp []/\aP=aL [(2000,.row v ((gd ca L).map e) 1 3)]:=Tw
abbrev lT.TB:=@Tryz.func285
abbrev lT.TC:=@Tryz.ntmps285
theorem lT.ME(e:b'->D)(ao:∀x,B6 (e x))(ca:b'->b'->Int)(b8:Nat)(cu:List D)(hcmp:∀x y,aU B b8 (e x::e y::cu) (u (ca x y)))(v:Value)(L:List b')(al:L.length<400000):
  c1 B 285 [.ai v,.fn (.func b8) [] cu] (aL [(2000,.row v (L.map e) 1 3)]) λd aP=>d=.bp []/\aP=aL [(2000,.row v ((gd ca L).map e) 1 3)]:=TA
end Go.bR.ck
namespace Go.Proofs
open Go.RowKit Go.Shelf
attribute [local go_sem] Oper.semAt_some
variable{α:Type}
def fO.upto(f:Nat->α)(k:Nat):List α:=(List.range k).map f
theorem fO.TD(f:Nat->α)(k:Nat):fO.upto f (k+1)=fO.upto f k++[f k]:=by simp[fO.upto,avl]
theorem fO.adu(f:Nat->α)(k:Nat):(fO.upto f k).length=k:=by simp[fO.upto]
theorem fO.adv(zs:List atG):fO.upto (λj=>zs[j]?.getD []) zs.length=zs:=by apply au3;simp[fO.upto];intro i h1 A;simp[fO.upto,A]
theorem fO.adw(ep:Fence)(n:Nat)(eV:ep.fn 93)(sT:ep.round=none)(aw:1<=n)(l sU ua oO b off len cap:Nat)(zs:List atG)(TE:len*16<=140737488351232)(I:b<oO)(n' Ie:List atG->World->Prop)
  (EW:∀pre x bq,n' pre bq->pre.length<len->YieldAt ep (n-1) Tryz.prog l #[.string ⟨⟨x⟩⟩] bq λe iW =>
   (e=.returned (.bool true)/\n' (pre++[x]) iW/\Below oO bq iW)\/(e=.returned (.bool false)/\Ie (pre++[x]) iW))
  (bq:World) (MF:bq.cell? ⟨sU,ua,none⟩=some (.slice (some ⟨b,off,none⟩) len cap)) (hc:∀j,j<len->bq.cell? ⟨b,off+j,none⟩=some (.string ⟨⟨zs[j]?.getD []⟩⟩)) (h0:n' [] bq) :
  CallsIn ep n Tryz.prog 93 #[.func (.yield l) #[] #[],.pointer (some ⟨sU,ua,none⟩)] bq λe iW=>(∃v,e=.returned v)/\
   ((∃a',a'=fO.upto (λj=>zs[j]?.getD []) len/\n' a' iW)\/(∃pre,(∃k,k<=len/\pre=fO.upto (λj=>zs[j]?.getD []) k)/\Ie pre iW)):=by
 refine callsIn_of_wp Tryz.func93 rfl eV ?_ sT;simp only[Tryz.ntmps93,auI,atT,auh,Nat.reduceAdd,Nat.reduceSub,awC,awD,awQ,awI,au6,auS]
 gi_wp2
 gi_loopw [7] (λi wr=>∃k:Nat,k<=len/\i=.int .i64 k/\n' (fO.upto (λj=>zs[j]?.getD []) k) wr/\Below oO bq wr)
  (λi _=>len-(intOf i).toNat)
 case atStart=>exact⟨0,at4 _,rfl,h0,Below.refl _ _⟩
 case round =>
  obtain⟨k,Y,rfl,If,cS⟩:=hrel;have adx:k<len->wr.cell? ⟨b,off+k,none⟩=some (.string ⟨⟨zs[k]?.getD []⟩⟩):=λh=>(cS.cell (p:=⟨b,off+k,none⟩) I).trans (hc k h);by_cases bf:k<len
  ·obtain⟨fn,tmps,assign,body,hy,fJ⟩:=EW _ (zs[k]?.getD []) wr If (by rw[fO.adu];exact bf);have arp:=adx bf
   gi_wp2
   refine fJ.mono ?_;rintro e yn (⟨rfl,ady,MG⟩|⟨rfl,adz⟩)
   ·
    gi_wp2
    go_roundw
    case rel=>exact⟨k+1,by omega,by simp,by rw[fO.TD];exact ady,cS.trans MG⟩
    case measure=>simp[intOf];omega
   gi_wp2
   refine bodyPost_ret (results_none rfl _ _ _) rfl ?_;exact⟨⟨_,rfl⟩,.inr ⟨_,⟨k+1,by omega,(fO.TD _ _).symm⟩,adz⟩⟩
  obtain rfl:k=len:=atw
  gi_wp2
  go_end0
  exact⟨⟨_,rfl⟩,.inl ⟨_,rfl,If⟩⟩
variable{k:Nat}
theorem fO.adA(zs:List atG)(Y:k<=zs.length):fO.upto (λj=>zs[j]?.getD []) k=zs.take k:=by apply au3;simp[fO.upto,Y];intro i h1 A;(have:i<zs.length:=by simp[fO.upto]at h1;omega);simp[fO.upto,this]
def fO.EX(oO:Nat)(bq:World)(mZ:Value)(zs:List atG):Prop :=
 ((∃a,mZ=.slice a 0 0)/\zs=[])\/∃b off cap,mZ=.slice (some ⟨b,off,none⟩) zs.length cap/\b<oO/\∀j,j<zs.length->bq.cell? ⟨b,off+j,none⟩=some (.string ⟨⟨zs[j]?.getD []⟩⟩)
variable{oO:Nat}{mZ:Value}
theorem fO.EX.below{bL bX:World}(h:Below oO bL bX){zs:List atG}:fO.EX oO bL mZ zs->fO.EX oO bX mZ zs
 |.inl e=>.inl e
 |.inr ⟨b,off,cap,e,I,hc⟩=>.inr ⟨b,off,cap,e,I,λj aa=>(h.cell (p:=⟨b,off+j,none⟩) I).trans (hc j aa)⟩
theorem fO.adB(ep:Fence)(n:Nat)(eV:ep.fn 93)(sT:ep.round=none)(l sU ua:Nat)(a:Option Addr)(n':List atG->World->Prop)(bq:World)(MF:bq.cell? ⟨sU,ua,none⟩=some (.slice a 0 0))(h0:n' [] bq):
  CallsIn ep n Tryz.prog 93 #[.func (.yield l) #[] #[],.pointer (some ⟨sU,ua,none⟩)] bq λe iW=>(∃v,e=.returned v)/\n' [] iW:=by
 refine callsIn_of_wp Tryz.func93 rfl eV ?_ sT;simp only[Tryz.ntmps93,auI,atT,auh,Nat.reduceAdd,Nat.reduceSub,awC,awD,awQ,awI,au6,auS]
 gi_wp2
 gi_loopw [7] (λi wr=>i=.int .i64 0/\n' [] wr) (λ_ _=>0)
 case atStart=>exact⟨rfl,h0⟩
 case round =>
  obtain⟨rfl,If⟩:=hrel
  gi_wp2
  go_end0
  exact⟨⟨_,rfl⟩,If⟩
theorem fO.TF(ep:Fence)(n:Nat)(eV:ep.fn 93)(sT:ep.round=none)(aw:1<=n)(sU ua oO:Nat)(mZ:Value)(zs:List atG)(TE:zs.length*16<=140737488351232)(w:World)(MF:sU<w.heap.size)(adC:oO<=w.heap.size)
  (hc:w.cell? ⟨sU,ua,none⟩=some mZ) (bi:fO.EX oO w mZ zs) :
  SeqStopsK ep n Tryz.prog 93 #[.pointer (some ⟨sU,ua,none⟩)] (λx:atG=>#[Value.string ⟨⟨x⟩⟩]) (Below oO) (λa'=>a'=zs) (λpre=>pre <+: zs) zs.length w:=λl n' Ie bq Ae _ _ EW h0=>by
 have oa:=(Ae.cell (p:=⟨sU,ua,none⟩) MF).trans hc;rcases bi.below (Ae.mono adC)with⟨⟨a,rfl⟩,rfl⟩|⟨b,off,cap,rfl,I,hcs⟩
 ·exact(fO.adB ep n eV sT l sU ua a n' bq oa h0).mono λe iW ⟨ao,aa⟩=>⟨ao,.inl ⟨_,rfl,aa⟩⟩
 refine(fO.adw ep n eV sT aw l sU ua oO b off zs.length cap zs TE I n' Ie EW bq oa hcs h0).mono ?_;rintro e iW ⟨ao,⟨a',rfl,aa⟩|⟨pre,⟨k,Y,rfl⟩,aa⟩⟩
 ·exact⟨ao,.inl ⟨_,fO.adv zs,aa⟩⟩
 exact⟨ao,.inr ⟨_,by rw[fO.adA zs Y];exact List.take_prefix _ _,aa⟩⟩
open Go.Maps Go.Sort
variable{P:Program}{ρ:Ren}{w0 bq iW:World}
theorem adD{n:Nat}(h:Below n w0 bq)(bB:Below n w0 iW)(hs:bq.heap.size<=iW.heap.size):Below n bq iW :=
 ⟨bB.os.trans h.os.symm,bB.tape.trans h.tape.symm,bB.output.trans h.output.symm,hs,λk Y=>(bB.block k Y).trans (h.block k Y).symm⟩
theorem fO.adE{ep:Fence}{m l:Nat}{x:atG}{n':List atG->World->Prop}{pre:List atG}(B7:n' pre bq)(I:∀s bq,n' s bq->Below oO w0 bq)(h:YieldAt ep m P l #[encStr x] bq λe iW=>e=.returned (.bool true)/\n' (pre++[x]) iW/\KeepsWalks bq iW): YieldAt ep m P l #[encStr x] bq λe iW=>(e=.returned (.bool true)/\n' (pre++[x]) iW/\Below oO bq iW)\/(e=.returned (.bool false)/\False):=by obtain⟨fn,tmps,assign,body,hy,fJ⟩:=h;exact⟨fn,tmps,assign,body,hy,fJ.mono λe w' ⟨h1,A,Z⟩=>.inl ⟨h1,A,adD (I _ _ B7) (I _ _ A) Z.size⟩⟩
theorem fO.adF(L:SlLaysZ.n11 P ρ)(ep:Fence)(n:Nat)(rM:ep.fn (ρ.f 11))(sT:ep.round=none)(aw:2<=n)(g:Nat)(rT:Array Value)(MH:ep.fn g)(eg:∀args w,(callFunc g args).run P w=.ok (.enter g args) w)
  (S nW:List atG->Prop) (bD:Nat) (hN:bD<=maxLen) (Ig:bD*16<=140737488355328) (w:World) (MI:SeqStopsK ep (n-1) P g rT (λx=>#[encStr x]) (Below w.heap.size) S nW bD w) :
  CallsIn ep n P (ρ.f 11) #[.slice none 0 0,.func (.func g) #[] rT] w λe w'=>∃(v:Value) (cC:List atG),e=.returned v/\S cC/\w'.ownsRow w.heap.size (ρ.t 26) 1 v cC.length (cC.map encStr)/\(v=.slice none 0 0↔cC=[])/\Below w.heap.size w w':=by
 have h1:1<=n:=atw
 have mixed:=L.mixed;have t0:=L.t0;have a0:=L.a0;have z0:=L.z0;have v0:=L.v0;have t24:=L.t24;have a24:=L.a24;have z24:=L.z24;have v24:=L.v24;have t26:=L.t26;have a26:=L.a26;have z26:=L.z26;have v26:=L.v26;have t28:=L.t28;have a28:=L.a28;have z28:=L.z28;have v28:=L.v28
 have a7:ρ.t 24≠ρ.t 26:=λe=>by have h:=L.t24;rw[e,L.t26]at h;cases h
 have u0:=run_underlying L.t0;have u24:=run_underlying L.t24;have u26:=run_underlying L.t26;have u28:=run_underlying L.t28
 obtain⟨_,_,MJ⟩:=L.f11;refine callsIn_of_wp_marks MJ rfl rM ?_ sT;simp only[SlBodyZ.n11_ntmps ρ,auI,atT,auh,Nat.reduceAdd,Nat.reduceSub,awC,awD,awQ,awI,au6,auS]
 gi_wp2
 refine wpIn_rangeFunc ?_;intro fn jg;rw[sT];obtain⟨B,Ih⟩:∃B,w.alloc (.cells #[.slice none 0 0] (ρ.t 24))=B:=⟨_,rfl⟩;have dA:B.heap.size=w.heap.size+1:=by rw[<-Ih];simp
 have o7:B.heap[w.heap.size]?=some (.cells #[.slice none 0 0] (ρ.t 24) (0,0)):=by rw[<-Ih];exact World.alloc_heap_new w _
 have tR:Below w.heap.size w B:=by rw[<-Ih];exact(Below.refl _ w).alloc (atQ _) _
 rw[Ih];obtain⟨vz,B8⟩:∃vz,(B.alloc (.deferred (some []))).alloc (.loop (AnyZ.apRec ρ fn (.func (.func g) #[] rT) w.heap.size B.heap.size .ready none))=vz:=⟨_,rfl⟩
 have Hh:∀k,k<B.heap.size->vz.heap[k]?=B.heap[k]?:=λk Y=>by
  rw[<-B8];exact(Below.heap_alloc _ _ k atx).trans (Below.heap_alloc _ _ k Y)
 have mK:Below w.heap.size w vz:=by rw[<-B8];exact(tR.alloc tR.size _).alloc (by have:=tR.size;simp;omega) _
 have hV:vz.heap.size=B.heap.size+2:=by rw[<-B8];simp
 have gk:AnyZ.ApAt ρ w fn (.func (.func g) #[] rT) w.heap.size (B.heap.size+1) B.heap.size [] vz :=
  ⟨⟨_,(Hh w.heap.size atw).trans o7,⟨rfl,.inl ⟨rfl,rfl⟩⟩,by simp⟩,
   by rw[<-B8];have:=World.alloc_heap_new (B.alloc (.deferred (some []))) (.loop (AnyZ.apRec ρ fn (.func (.func g) #[] rT) w.heap.size B.heap.size .ready none));rwa [World.size_alloc]at this,
   by rw[<-B8];exact(Below.heap_alloc _ _ _ aty).trans (World.alloc_heap_new B _),mK⟩
 refine⟨B.heap.size+1,[{target:=.collected B.heap.size,args:=#[]}],vz,{target:=.fn (.func g) rT,args:=#[.func (.yield (B.heap.size+1)) #[] #[]]},vz,g,
  #[.func (.yield (B.heap.size+1)) #[] #[]]++rT,vz,?_,?_,?_,?_,λ_=>h1,?_⟩
 ·rw[<-B8];exact run_enterLoop_outer _ _ _ _ _
 ·simp[resolve,go_sem]
 ·intro yo fI;simp[Target.leads]at fI;subst fI;exact MH
 ·simp[invoke,go_sem,eg]
 refine(MI (B.heap.size+1) (AnyZ.ApAt ρ w fn (.func (.func g) #[] rT) w.heap.size (B.heap.size+1) B.heap.size) (λ_ _=>False) vz mK (AnyZ.ap_abides ρ _ _ _ _ _ _ _ mK.size) (λ_ _ _ _ hs _ _=>hs)
  (λpre x bq B7 al=>fO.adE B7 (λs bq h=>AnyZ.ApAt.below h)<|AnyZ.apYield {L with} ep (n-1-1) w fn jg _ w.heap.size (B.heap.size+1) B.heap.size atw atw atw (atQ _) atw bD hN Ig pre x bq B7 al) gk).mono ?_
 rintro e TG ⟨⟨v0,rfl⟩,mb⟩;obtain⟨cC,gS,A⟩:=mb.resolve_right (λ⟨_,_,M⟩=>M);obtain⟨v,X,dF,pP⟩:=A.box;have va:=run_endLoop (P:=P) A.L (by simp[AnyZ.apRec]);obtain⟨yn,EY⟩:∃yn,TG.putObj (B.heap.size+1) (.loop {AnyZ.apRec ρ fn (.func (.func g) #[] rT) w.heap.size B.heap.size .ready none with state:=.exhausted})=yn:=⟨_,rfl⟩;rw[EY]at va;have w3:TG.grownBy yn (some (B.heap.size+1)):=by rw[<-EY];exact grownBy_putObj_a _ _ _
 have Af:yn.heap[w.heap.size]?=some (.cells #[v] (ρ.t 24) (0,0)):=by rw[<-EY];exact(World.putObj_heap_other atw).trans X
 have TH:yn.heap[B.heap.size]?=some (.deferred (some [])):=by rw[<-EY];exact(World.putObj_heap_other atw).trans A.K
 have TI:=dF.kept w3 (ownsRow_ne_a dF A.L (λft e=>by first|cases e|exact a7 (Obj.cells.inj e).2.1));have B9:Below w.heap.size w yn:=A.below.grown w3 A.below.size (λk e=>by cases e;omega);obtain⟨dK,yp⟩:=cell_of_box_a Af;clear EY;refine⟨none,yn,va,?_⟩
 gi_wp2
 rw[<-dA];refine⟨by simp,.inl ⟨_,_,rfl,run_takeDeferred TH,?_⟩⟩;exact⟨_,results_tmp rfl _ _ _,v,cC,rfl,gS,TI.kept (grownBy_putObj_a _ _ _) (ownsRow_ne_a TI TH (λft e=>by first|cases e|exact a7 (Obj.cells.inj e).2.1)),pP,B9.grown (grownBy_putObj_a _ _ _) B9.size (λk e=>by cases e;omega)⟩
theorem fO.TJ(L:SlLaysZ.n8 P ρ)(ep:Fence)(n:Nat)(fZ:ep.fn (ρ.f 8))(rM:ep.fn (ρ.f 11))(sT:ep.round=none)(aw:3<=n)(g:Nat)(rT:Array Value)(MH:ep.fn g)(eg:∀args w,(callFunc g args).run P w=.ok (.enter g args) w)(S nW:List atG->Prop)(bD:Nat)(hN:bD<=maxLen)(Ig:bD*16<=140737488355328)(w:World)(MI:SeqStopsK ep (n-1-1) P g rT (λx=>#[encStr x]) (Below w.heap.size) S nW bD w): CallsIn ep n P (ρ.f 8) #[.func (.func g) #[] rT] w λe w'=>∃(v:Value) (cC:List atG),e=.returned v/\S cC/\w'.ownsRow w.heap.size (ρ.t 26) 1 v cC.length (cC.map encStr)/\(v=.slice none 0 0↔cC=[])/\Below w.heap.size w w':=by(have h1:1<=n:=by omega);have TK:∀args w,(callFunc (ρ.f 11) args).run P w=.ok (.enter (ρ.f 11) args) w:=L.f11.enters rfl;have mixed:=L.mixed;have t0:=L.t0;have a0:=L.a0;have z0:=L.z0;have v0:=L.v0;have t24:=L.t24;have a24:=L.a24;have z24:=L.z24;have v24:=L.v24;have t26:=L.t26;have a26:=L.a26;have z26:=L.z26;have v26:=L.v26;have t28:=L.t28;have a28:=L.a28;have z28:=L.z28;have v28:=L.v28;have u0:=run_underlying L.t0;have u24:=run_underlying L.t24;have u26:=run_underlying L.t26;have u28:=run_underlying L.t28;obtain⟨_,_,MJ⟩:=L.f8;refine callsIn_of_wp MJ rfl fZ ?_ sT;simp only[SlBodyZ.n8_ntmps ρ,auI,atT,auh,Nat.reduceAdd,Nat.reduceSub,awC,awD,awQ,awI,au6,auS];gi_wp2_with (gi_at_fn (ρ.f 11);refine(fO.adF {L with} ep (n-1) rM sT atw g rT MH eg S nW bD hN Ig _ MI).mono ?_;rintro e w' ⟨v,cC,rfl,gS,dF,pP,I⟩);go_ret;exact⟨v,cC,rfl,gS,dF,pP,I⟩
end Go.Proofs
