/- A program logic of my own over the model, and contracts of this program's functions by it: part 7. No conditions of its own: each theorem states its own. -/
import Derived.Test.YtgaeiadnclmadaaGreatDoorL6
import Derived.Test.YtgaeiadnclmadaaGreatDoorCards
import Derived.Test.YtgaeiadnclmadaaGreatDoorTie
import Derived.ProofKit
import Derived.OpenShut
import Derived.Deep.DeepHandedRow
import Derived.Lib.LaidTab
import Derived.Lib.LaidU8
import Derived.Stop.LaidErr
import Derived.Test.YtgaeiadnclmadaaGreatDoorProg
set_option linter.unnecessarySimpa false
set_option linter.unusedSimpArgs false
set_option linter.unusedVariables false
/- Contracts: Equal of trees; the law ViewdiffEquals. By program (mk.py). -/

namespace Go.Tame.V
open Go Go.Proofs
variable {W0 : World}
set_option maxRecDepth 10000
set_option linter.unusedVariables false
set_option linter.unusedSimpArgs false

noncomputable def eqT (a b : NV) : Bool:=@decide (a = b) (Classical.propDecidable _)
theorem eqT_iff {a b : NV} : eqT a b = true ↔ a = b:=@decide_eq_true_iff _ (Classical.propDecidable _)
theorem eqT_ne {a b : NV} (h : a ≠ b) : eqT a b = false:=@decide_eq_false _ (Classical.propDecidable _) h
theorem eqT_rfl (a : NV) : eqT a a = true:=eqT_iff.2 rfl

theorem F25 : ∀ (N : Nat) (a b : NV),sz a < N → sz a < 100000000 → DFun Tryz.prog W0 13 [encTop a,encTop b] (.bool (eqT a b)):=by
 refine fun N => Nat.rec (fun a b h => absurd h (Nat.not_lt_zero _)) (fun N ih a b hN hz => ?_) N
 have hsze:=sz_eq a
 have hkk:=szL_len a.kids
 have hss:=szS_len a.streams
 refine DFun.intro ti_ok Tryz.func13 rfl (by decide +kernel) Tryz.ntmps13 rfl fun Γ => ?_
 refine Tri.seq ?_
 refine Tri.region ti_ok ?_
 conv => whnf
 intro b2
 conv => whnf
 intro b3
 conv => whnf
 refine Tri.seq ?_
 refine Tri.seq ?_
 refine Tri.region ti_ok ?_
 conv => whnf
 refine ⟨rfl,?_⟩
 conv => whnf
 refine ⟨rfl,?_⟩
 conv => whnf
 refine ⟨fun h => h,?_⟩
 conv => whnf
 refine ⟨rfl,?_⟩
 conv => whnf
 refine ⟨fun h => h,?_⟩
 conv => whnf
 refine ⟨rfl,?_⟩
 conv => whnf
 refine ⟨fun h => h,?_⟩
 conv => whnf
 refine ⟨fun h => h,?_⟩
 conv => whnf
 refine ⟨fun h0 h => by first | exact h | (rw [h]; rfl) | (rw [h0,h]; rfl),?_⟩
 conv => whnf
 refine ⟨fun h => h,?_⟩
 conv => whnf
 refine ⟨rfl,?_⟩
 conv => whnf
 refine ⟨fun h => h,?_⟩
 conv => whnf
 refine ⟨rfl,?_⟩
 conv => whnf
 refine ⟨fun h => h,?_⟩
 conv => whnf
 refine ⟨fun h => h,?_⟩
 conv => whnf
 refine ⟨fun h0 h => by first | exact h | (rw [h]; rfl) | (rw [h0,h]; rfl),?_⟩
 conv => whnf
 refine ⟨fun h => h,?_⟩
 conv => whnf
 refine ⟨rfl,?_⟩
 conv => whnf
 refine ⟨fun h => h,?_⟩
 conv => whnf
 refine ⟨rfl,?_⟩
 conv => whnf
 refine ⟨fun h => h,?_⟩
 conv => whnf
 refine ⟨fun h => h,?_⟩
 conv => whnf
 refine ⟨fun h0 h => by first | exact h | (rw [h]; rfl) | (rw [h0,h]; rfl),?_⟩
 conv => whnf
 refine ⟨fun h => h,?_⟩
 conv => whnf
 refine ⟨rfl,?_⟩
 conv => whnf
 refine ⟨fun h => h,?_⟩
 conv => whnf
 refine ⟨rfl,?_⟩
 conv => whnf
 refine ⟨fun h => h,?_⟩
 conv => whnf
 refine ⟨fun h => h,?_⟩
 conv => whnf
 refine ⟨fun h0 h => by first | exact h | (rw [h]; rfl) | (rw [h0,h]; rfl),?_⟩
 conv => whnf
 refine ⟨fun h => h,?_⟩
 conv => whnf
 refine ⟨rfl,?_⟩
 conv => whnf
 refine ⟨fun h => h,?_⟩
 conv => whnf
 refine ⟨rfl,?_⟩
 conv => whnf
 refine ⟨fun h => h,?_⟩
 conv => whnf
 refine ⟨fun h => h,?_⟩
 conv => whnf
 refine ⟨fun h0 h => by first | exact h | (rw [h]; rfl) | (rw [h0,h]; rfl),?_⟩
 conv => whnf
 refine ⟨fun h => h,?_⟩
 conv => whnf
 refine ⟨rfl,?_⟩
 conv => whnf
 refine ⟨fun h => h,?_⟩
 conv => whnf
 refine ⟨rfl,?_⟩
 conv => whnf
 refine ⟨fun h => h,?_⟩
 conv => whnf
 refine ⟨fun h => h,?_⟩
 conv => whnf
 refine ⟨fun h0 h => by first | exact h | (rw [h]; rfl) | (rw [h0,h]; rfl),?_⟩
 conv => whnf
 refine ⟨fun h => h,?_⟩
 conv => whnf
 refine ⟨rfl,?_⟩
 conv => whnf
 refine ⟨fun h => h,?_⟩
 conv => whnf
 refine ⟨rfl,?_⟩
 conv => whnf
 refine ⟨fun h => h,?_⟩
 conv => whnf
 refine ⟨fun h => h,?_⟩
 conv => whnf
 refine ⟨fun h0 h => by first | exact h | (rw [h]; rfl) | (rw [h0,h]; rfl),?_⟩
 conv => whnf
 refine ⟨fun h => h,?_⟩
 conv => whnf
 refine ⟨rfl,?_⟩
 conv => whnf
 refine ⟨fun h => h,?_⟩
 conv => whnf
 refine ⟨rfl,?_⟩
 conv => whnf
 refine ⟨fun h => h,?_⟩
 conv => whnf
 refine ⟨fun h => h,?_⟩
 conv => whnf
 refine ⟨fun h0 h => by first | exact h | (rw [h]; rfl) | (rw [h0,h]; rfl),?_⟩
 conv => whnf
 refine ⟨fun h => h,?_⟩
 conv => whnf
 refine ⟨rfl,?_⟩
 conv => whnf
 refine ⟨fun h => h,?_⟩
 conv => whnf
 refine ⟨rfl,?_⟩
 conv => whnf
 refine ⟨fun h => h,?_⟩
 conv => whnf
 refine ⟨fun h => h,?_⟩
 conv => whnf
 refine ⟨fun h0 h => by first | exact h | (rw [h]; rfl) | (rw [h0,h]; rfl),?_⟩
 conv => whnf
 refine ⟨fun h => h,?_⟩
 conv => whnf
 refine ⟨rfl,?_⟩
 conv => whnf
 refine ⟨fun h => h,?_⟩
 conv => whnf
 refine ⟨fun h => h,?_⟩
 conv => whnf
 refine ⟨rfl,?_⟩
 conv => whnf
 refine ⟨fun h => h,?_⟩
 conv => whnf
 refine ⟨fun h => h,?_⟩
 conv => whnf
 refine ⟨fun h => h,?_⟩
 conv => whnf
 refine ⟨fun h0 h => by first | exact h | (rw [h]; rfl) | (rw [h0,h]; rfl),?_⟩
 conv => whnf
 refine ⟨fun h => h,?_⟩
 conv => whnf
 refine ⟨rfl,?_⟩
 conv => whnf
 refine ⟨fun h => h,?_⟩
 conv => whnf
 refine ⟨fun h => h,?_⟩
 conv => whnf
 refine ⟨rfl,?_⟩
 conv => whnf
 refine ⟨fun h => h,?_⟩
 conv => whnf
 refine ⟨fun h => h,?_⟩
 conv => whnf
 refine ⟨fun h => h,?_⟩
 conv => whnf
 refine ⟨fun h0 h => by first | exact h | (rw [h]; rfl) | (rw [h0,h]; rfl),?_⟩
 conv => whnf
 refine Tri.cond _ rfl (fun hc => ?_) (fun hc => ?_)
 ·refine Tri.seq ?_
  refine Tri.region ti_ok ?_
  conv => whnf
  refine Tri.ret ?_
  conv => whnf
  refine DLe.of_eq (congrArg D.bool (eqT_ne fun e => ?_).symm)
  subst e
  simp at hc
 ·refine Tri.skip ?_
  conv => whnf
  simp only [bif_or,Bool.or_eq_false_iff,Bool.not_eq_false',beq_iff_eq,List.length_map,Int.ofNat_inj,bne_eq_false_iff_eq] at hc
  obtain ⟨⟨⟨⟨⟨⟨⟨⟨⟨⟨⟨e1,e2⟩,e3⟩,e4⟩,e5⟩,e6⟩,e7⟩,e8⟩,e9⟩,e10⟩,e11⟩,e12⟩:=hc
  refine Tri.seq ?_
  refine Tri.seq ?_
  refine Tri.region ti_ok ?_
  conv => whnf
  refine Tri.block ?_
  refine Tri.loopK (α:={ i : Nat // i ≤ a.streams.length ∧ a.streams.take i = b.streams.take i }) (fun x => [(2,.box 2 b2 0),(3,.box 3 b3 0),(5,.int .i64 x.1)]) (fun x => [(2,.box b2 [.str a.name,.int .i64 a.kind,.str a.text,.str a.target,.int .i64 a.n1,.int .i64 a.n2,.int .i64 a.n3,.int .i64 a.n4,.int .i64 a.n5,.int .i64 a.n6,.sl .none 12 (a.kids.map enc),.sl .none 2 (a.streams.map encS)]),(3,.box b3 [.str b.name,.int .i64 b.kind,.str b.text,.str b.target,.int .i64 b.n1,.int .i64 b.n2,.int .i64 b.n3,.int .i64 b.n4,.int .i64 b.n5,.int .i64 b.n6,.sl .none 12 (b.kids.map enc),.sl .none 2 (b.streams.map encS)])]) (fun x => a.streams.length - x.1) ⟨0,Nat.zero_le _,rfl⟩ [(2,2),(3,3)]
   ⟨⟨.refl _,.refl _,.refl _,trivial⟩,rfl,rfl,rfl,rfl,rfl,trivial⟩ ?_
  rintro ⟨i,hi,hp⟩
  dsimp only at hi hp ⊢
  refine Tri.seq ?_
  refine Tri.seq ?_
  refine Tri.region ti_ok ?_
  conv => whnf
  refine ⟨rfl,?_⟩
  conv => whnf
  refine Tri.cond _ rfl (fun hc => ?_) (fun hc => ?_)
  ·refine Tri.skip ?_
   conv => whnf
   have hia : i < a.streams.length:=by simpa using hc
   have hib : i < b.streams.length:=by omega
   refine Tri.seq ?_
   refine Tri.block ?_
   refine Tri.seq ?_
   refine Tri.draw ti_ok mixed (by kernel_rfl) ?_
   conv => whnf
   refine ⟨rfl,?_⟩
   conv => whnf
   refine ⟨fun _ => by simp; omega,?_⟩
   conv => whnf
   refine ⟨encS a.streams[i],fun _ => get_map _ hia,?_⟩
   conv => whnf
   refine ⟨rfl,?_⟩
   conv => whnf
   refine ⟨fun _ => by simp; omega,?_⟩
   conv => whnf
   refine ⟨encS b.streams[i],fun _ => get_map _ hib,?_⟩
   conv => whnf
   refine Tri.cond _ rfl (fun hc => ?_) (fun hc => ?_)
   ·refine Tri.seq ?_
    refine Tri.region ti_ok ?_
    conv => whnf
    refine Tri.ret ?_
    conv => whnf
    refine DLe.of_eq (congrArg D.bool (eqT_ne fun e => ?_).symm)
    subst e
    simp at hc
   ·refine Tri.skip ?_
    conv => whnf
    have he : a.streams[i] = b.streams[i]:=by
     simp at hc
     cases h1 : a.streams[i]; cases h2 : b.streams[i]; simp_all
    refine Tri.region ti_ok ?_
    conv => whnf
    refine .inl ⟨fun _ => by simp only [InR]; omega,?_⟩
    conv => whnf
    exact ⟨⟨i + 1,hia,take_next hia hib hp he⟩,[(2,2),(3,3)],by show a.streams.length - (i + 1) < a.streams.length - i; omega,⟨.refl _,.refl _,.refl _,trivial⟩,rfl,rfl,rfl,rfl,rfl,trivial⟩
  ·refine Tri.exit ?_
   conv => whnf
   have hst : a.streams = b.streams:=of_decide_eq_true (eq_of_take e12 (by simpa using hc) hp).symm
   refine Tri.seq ?_
   refine Tri.seq ?_
   refine Tri.region ti_ok ?_
   conv => whnf
   refine Tri.block ?_
   refine Tri.loopK (α:={ i : Nat // i ≤ a.kids.length ∧ a.kids.take i = b.kids.take i }) (fun x => [(2,.box 2 b2 0),(3,.box 3 b3 0),(6,.int .i64 x.1)]) (fun x => [(2,.box b2 [.str a.name,.int .i64 a.kind,.str a.text,.str a.target,.int .i64 a.n1,.int .i64 a.n2,.int .i64 a.n3,.int .i64 a.n4,.int .i64 a.n5,.int .i64 a.n6,.sl .none 12 (a.kids.map enc),.sl .none 2 (a.streams.map encS)]),(3,.box b3 [.str b.name,.int .i64 b.kind,.str b.text,.str b.target,.int .i64 b.n1,.int .i64 b.n2,.int .i64 b.n3,.int .i64 b.n4,.int .i64 b.n5,.int .i64 b.n6,.sl .none 12 (b.kids.map enc),.sl .none 2 (b.streams.map encS)])]) (fun x => a.kids.length - x.1) ⟨0,Nat.zero_le _,rfl⟩ [(2,2),(3,3)]
    ⟨⟨.refl _,.refl _,.refl _,trivial⟩,rfl,rfl,rfl,rfl,rfl,trivial⟩ ?_
   rintro ⟨i,hi,hp⟩
   dsimp only at hi hp ⊢
   refine Tri.seq ?_
   refine Tri.seq ?_
   refine Tri.region ti_ok ?_
   conv => whnf
   refine ⟨rfl,?_⟩
   conv => whnf
   refine Tri.cond _ rfl (fun hc => ?_) (fun hc => ?_)
   ·refine Tri.skip ?_
    conv => whnf
    have hia : i < a.kids.length:=by simpa using hc
    have hib : i < b.kids.length:=by omega
    have hkz:=kid_sz hia
    refine Tri.seq ?_
    refine Tri.block ?_
    refine Tri.seq ?_
    refine Tri.draw ti_ok mixed (by kernel_rfl) ?_
    conv => whnf
    refine ⟨rfl,?_⟩
    conv => whnf
    refine ⟨fun _ => by simp; omega,?_⟩
    conv => whnf
    refine ⟨encTop a.kids[i],fun _ => get_kids hia,?_⟩
    conv => whnf
    refine ⟨rfl,?_⟩
    conv => whnf
    refine ⟨fun _ => by simp; omega,?_⟩
    conv => whnf
    refine ⟨encTop b.kids[i],fun _ => get_kids hib,?_⟩
    conv => whnf
    refine ⟨[encTop a.kids[i],encTop b.kids[i]],_,fun _ => ih a.kids[i] b.kids[i] (by omega) (by omega),⟨.refl _,.refl _,trivial⟩,?_⟩
    conv => whnf
    refine Tri.cond _ rfl (fun hc => ?_) (fun hc => ?_)
    ·refine Tri.seq ?_
     refine Tri.region ti_ok ?_
     conv => whnf
     refine Tri.ret ?_
     conv => whnf
     refine DLe.of_eq (congrArg D.bool (eqT_ne fun e => ?_).symm)
     subst e
     rw [eqT_rfl] at hc
     cases hc
    ·refine Tri.skip ?_
     conv => whnf
     have he : a.kids[i] = b.kids[i]:=by
      refine eqT_iff.1 ?_
      cases h : eqT a.kids[i] b.kids[i] with
      | true => rfl
      | false => rw [h] at hc; cases hc
     refine Tri.region ti_ok ?_
     conv => whnf
     refine .inl ⟨fun _ => by simp only [InR]; omega,?_⟩
     conv => whnf
     exact ⟨⟨i + 1,hia,take_next hia hib hp he⟩,[(2,2),(3,3)],by show a.kids.length - (i + 1) < a.kids.length - i; omega,⟨.refl _,.refl _,.refl _,trivial⟩,rfl,rfl,rfl,rfl,rfl,trivial⟩
   ·refine Tri.exit ?_
    conv => whnf
    refine Tri.seq ?_
    refine Tri.region ti_ok ?_
    conv => whnf
    refine Tri.ret ?_
    conv => whnf
    have hin : ¬ i < a.kids.length:=by simpa using hc
    have hkd : a.kids = b.kids:=by
     rw [List.take_of_length_le (by omega),List.take_of_length_le (by omega)] at hp
     exact hp
    refine DLe.of_eq (congrArg D.bool (eqT_iff.2 ?_).symm)
    cases a; cases b
    simp_all

theorem getN_sz : ∀ (q : List (List UInt8)) (n x : NV),getN n q = some x → sz x ≤ sz n
 | [],n,x,h => by simp only [getN,Option.some.injEq] at h; subst h; exact Nat.le_refl _
 | m::q,n,x,h => by
  simp only [getN] at h
  cases hf : findK m n.kids with
  | none => rw [hf] at h; cases h
  | some k =>
   rw [hf] at h
   obtain ⟨i,hi,e⟩:=List.mem_iff_getElem.1 (findK_name hf).1
   have h1:=kid_sz hi
   have h2:=getN_sz q k x h
   rw [e] at h1
   omega
end Go.Tame.V
/- Contracts: sourcetree's clone. By program (mkn4.py,mk.py). -/
namespace Go.Tame.V
open Go Go.Proofs
variable {W0 : World}
set_option maxRecDepth 10000
set_option linter.unusedVariables false
set_option linter.unusedSimpArgs false

theorem kids_next {l : List NV} {i : Nat} (h : i < l.length) : (l.take i).map encTop ++ [encTop l[i]] = (l.take (i + 1)).map encTop:=by
 rw [List.take_add_one,List.getElem?_eq_getElem h,List.map_append]; rfl

theorem G117 : ∀ (N : Nat) (n : NV),sz n < N → sz n < 1000000000 → DFun Tryz.prog W0 67 [encTop n] (encTop n):=by
 refine fun N => Nat.rec (fun n h => absurd h (Nat.not_lt_zero _)) (fun N ih n hN hz => ?_) N
 have hss : 2 * n.streams.length ≤ sz n:=by have:=szS_len n.streams; have:=sz_eq n; omega
 have hkl : 2 * n.kids.length ≤ sz n:=by have:=szL_len n.kids; have:=sz_eq n; omega
 refine DFun.intro ti_ok Tryz.func67 rfl (by decide +kernel) Tryz.ntmps67 rfl fun Γ => ?_
 refine Tri.seq ?_
 refine Tri.region ti_ok ?_
 conv => whnf
 intro b1
 conv => whnf
 intro b2
 conv => whnf
 refine Tri.seq ?_
 refine Tri.region ti_ok ?_
 conv => whnf
 refine ⟨rfl,?_⟩
 conv => whnf
 refine ⟨[.sl .none 2 (n.streams.map encS)],_,fun _ => F104 n.streams (by omega),⟨.refl _,trivial⟩,?_⟩
 conv => whnf
 refine ⟨rfl,?_⟩
 conv => whnf
 refine Tri.seq ?_
 refine Tri.region ti_ok ?_
 conv => whnf
 refine ⟨rfl,?_⟩
 conv => whnf
 refine Tri.seq ?_
 refine Tri.region ti_ok ?_
 conv => whnf
 refine ⟨rfl,?_⟩
 conv => whnf
 refine Tri.seq ?_
 refine Tri.seq ?_
 refine Tri.region ti_ok ?_
 conv => whnf
 refine Tri.block ?_
 refine Tri.boxLe 1 (cs':=[.str n.name,.int .i64 n.kind,.str n.text,.str n.target,.int .i64 n.n1,.int .i64 n.n2,.int .i64 n.n3,.int .i64 n.n4,.int .i64 n.n5,.int .i64 n.n6,.raw (.slice none 0 0),.sl .none 2 (n.streams.map encS)]) rfl ⟨.refl _,.refl _,.refl _,.refl _,.refl _,.refl _,.refl _,.refl _,.refl _,.refl _,DLe.nilRaw,.refl _,trivial⟩ ?_
 refine Tri.rowNil 109 12 25 ?_
 refine Tri.loopK (α:={ x : Nat × Value // x.1 ≤ n.kids.length }) (fun x => [(1,.box 1 b1 0),(2,.box 2 b2 0),(13,.sl .none 12 (n.kids.map enc)),(14,.int .i64 (n.kids.map enc).length),(15,.int .i64 x.1.1)]) (fun x => [(2,.box b2 [.str [],.int .i64 0,.str [],.str [],.int .i64 0,.int .i64 0,.int .i64 0,.int .i64 0,.int .i64 0,.int .i64 0,.nils,.nils]),(1,.box b1 [.str n.name,.int .i64 n.kind,.str n.text,.str n.target,.int .i64 n.n1,.int .i64 n.n2,.int .i64 n.n3,.int .i64 n.n4,.int .i64 n.n5,.int .i64 n.n6,.raw x.1.2,.sl .none 2 (n.streams.map encS)]),(109,.row x.1.2 ((n.kids.take x.1.1).map encTop) 12 25)]) (fun x => n.kids.length - x.1.1) ⟨(0,.slice none 0 0),Nat.zero_le _⟩ [(2,2),(1,1),(109,109)]
  ⟨⟨.refl _,.refl _,.refl _,.refl _,.refl _,trivial⟩,rfl,rfl,rfl,rfl,rfl,rfl,congrArg (fun z => some (HObj.row (.slice none 0 0) z 12 25)) (by simp),trivial⟩ ?_
 rintro ⟨⟨i,rv⟩,hi⟩
 dsimp only at hi ⊢
 refine Tri.seq ?_
 refine Tri.region ti_ok ?_
 conv => whnf
 refine Tri.seq ?_
 refine Tri.cond (decide ((i : Int) < (n.kids.map enc).length)) rfl (fun hc => ?_) (fun hc => ?_)
 ·refine Tri.skip ?_
  conv => whnf
  refine Tri.seq ?_
  refine Tri.block ?_
  refine Tri.seq ?_
  refine Tri.region ti_ok ?_
  have hia : i < n.kids.length:=by simpa using hc
  have hkz:=kid_sz hia
  conv => whnf
  refine ⟨fun _ => by simp; omega,?_⟩
  conv => whnf
  refine ⟨encTop n.kids[i],fun _ => get_kid hia,?_⟩
  conv => whnf
  intro b5
  conv => whnf
  refine ⟨rfl,?_⟩
  conv => whnf
  refine Tri.drawTailX ti_ok 5 mixed (by kernel_rfl) ?_
  conv => whnf
  refine ⟨rfl,?_⟩
  conv => whnf
  refine ⟨rfl,?_⟩
  conv => whnf
  refine ⟨[encTop n.kids[i]],_,fun _ => ih n.kids[i] (by omega) (by omega),⟨.refl _,trivial⟩,?_⟩
  conv => whnf
  refine ⟨trivial,?_⟩
  conv => whnf
  refine .inr (XOp.rowAppend ti_ok 109 rfl rfl rfl (fun h => by cases h) rfl rfl rfl (Nat.zero_lt_one) ?_ ?_ fun aa mm cap => ?_)
  ·show (_ + 1) * 152 ≤ _
   simp; omega
  ·show _ + 1 ≤ _
   simp; omega
  refine .inl ?_
  conv => whnf
  refine ⟨rfl,?_⟩
  conv => whnf
  refine Tri.region ti_ok ?_
  conv => whnf
  refine .inl ⟨fun _ => by simp only [InR]; omega,?_⟩
  conv => whnf
  exact ⟨⟨(i + 1,.slice aa mm cap),hia⟩,[(2,2),(1,1),(109,24)],by show _ - (i + 1) < _ - i; omega,⟨.refl _,.refl _,.refl _,.refl _,.refl _,trivial⟩,rfl,rfl,rfl,rfl,rfl,rfl,congrArg (fun z => some (HObj.row (.slice aa mm cap) z 12 25)) (by exact kids_next hia),trivial⟩
 ·refine Tri.exit ?_
  have hin : i = n.kids.length:=by simp at hc; omega
  have hrow : (n.kids.take i).map encTop = n.kids.map enc:=by
   subst hin; rw [List.take_length,show enc = encTop from funext enc_eq]
  rw [hrow]
  refine Tri.commitBox 109 1 10 rfl rfl (by decide) rfl ?_
  conv => whnf
  refine Tri.seq ?_
  refine Tri.region ti_ok ?_
  conv => whnf
  refine ⟨rfl,?_⟩
  conv => whnf
  refine ⟨rfl,?_⟩
  conv => whnf
  refine Tri.ret ?_
  conv => whnf
  refine ⟨rfl,?_⟩
  conv => whnf
  exact DLe.of_eq rfl
end Go.Tame.V
/- Contracts: sourcetree's find and Get. By program (mk.py). -/
namespace Go.Tame.V
open Go Go.Proofs
variable {W0 : World}
set_option maxRecDepth 10000
set_option linter.unusedVariables false
set_option linter.unusedSimpArgs false

theorem G160 (k : NV) (q : List UInt8) : DFun Tryz.prog W0 97 [encTop k,.elm 1 [.str q] 0 0] (.bool (k.name == q)):=by
 refine DFun.intro ti_ok Tryz.func97 rfl (by decide +kernel) Tryz.ntmps97 rfl fun Γ => ?_
 refine Tri.seq ?_
 refine Tri.region ti_ok ?_
 conv => whnf
 intro b
 conv => whnf
 refine Tri.seq ?_
 refine Tri.region ti_ok ?_
 conv => whnf
 refine ⟨rfl,?_⟩
 conv => whnf
 refine ⟨.str q,fun _ => rfl,?_⟩
 conv => whnf
 refine Tri.ret ?_
 conv => whnf
 exact .refl _
theorem G96 (l : List NV) (q : List UInt8) (hl : l.length < 1000000000) : DFun Tryz.prog W0 48 [.sl .none 12 (l.map enc),.fn (.func 97) [] [.elm 1 [.str q] 0 0]] (.int .i64 (firstIdx (fun k : NV => k.name == q) l)):=by
 refine DFun.intro ti_ok Tryz.func48 rfl (by decide +kernel) Tryz.ntmps48 rfl fun Γ => ?_
 refine Tri.seq ?_
 refine Tri.region ti_ok ?_
 conv => whnf
 refine Tri.seq ?_
 refine Tri.seq ?_
 refine Tri.region ti_ok ?_
 conv => whnf
 refine Tri.block ?_
 refine Tri.loop (α:={ i : Nat // i ≤ l.length ∧ ∀ j (h : j < l.length),j < i → ((l[j]).name == q) = false }) (fun x => [(0,.sl .none 12 (l.map enc)),(1,.fn (.func 97) [] [.elm 1 [.str q] 0 0]),(7,.int .i64 (l.map enc).length),(8,.int .i64 x.1)]) (fun _ => []) (fun x => l.length - x.1) ⟨0,by simp⟩ ⟨.refl _,.refl _,.refl _,.refl _,trivial⟩ trivial ?_
 rintro ⟨i,hi,hp⟩
 dsimp only
 refine Tri.seq ?_
 refine Tri.region ti_ok ?_
 conv => whnf
 refine Tri.seq ?_
 refine Tri.cond (decide ((i : Int) < (l.map enc).length)) rfl (fun hc => ?_) (fun hc => ?_)
 ·refine Tri.skip ?_
  conv => whnf
  refine Tri.seq ?_
  refine Tri.block ?_
  refine Tri.seq ?_
  refine Tri.region ti_ok ?_
  have hia : i < l.length:=by simpa using hc
  conv => whnf
  refine Tri.seq ?_
  refine Tri.region ti_ok ?_
  conv => whnf
  refine ⟨fun _ => by simp; omega,?_⟩
  conv => whnf
  refine ⟨encTop l[i],fun _ => get_kids hia,?_⟩
  conv => whnf
  refine ⟨[encTop l[i],.elm 1 [.str q] 0 0],_,fun _ => G160 l[i] q,⟨.refl _,.refl _,trivial⟩,?_⟩
  conv => whnf
  refine Tri.cond _ rfl (fun hc => ?_) (fun hc => ?_)
  ·refine Tri.seq ?_
   refine Tri.region ti_ok ?_
   conv => whnf
   refine Tri.ret ?_
   conv => whnf
   exact intDLe (firstIdx_some (p:=fun k : NV => k.name == q) hia hp hc).symm
  ·refine Tri.skip ?_
   conv => whnf
   refine Tri.region ti_ok ?_
   conv => whnf
   refine .inl ⟨fun _ => by simp [InR]; omega,?_⟩
   conv => whnf
   exact ⟨⟨i + 1,by omega,fun j hj hlt => (Nat.lt_succ_iff_lt_or_eq.1 hlt).elim (hp j hj) fun e => by subst e; exact hc⟩,by show _ - (i + 1) < _ - i; omega,⟨.refl _,.refl _,.refl _,.refl _,trivial⟩,trivial⟩
 ·refine Tri.exit ?_
  conv => whnf
  refine Tri.seq ?_
  refine Tri.region ti_ok ?_
  conv => whnf
  refine Tri.ret ?_
  conv => whnf
  exact intDLe (firstIdx_none (p:=fun k : NV => k.name == q) fun j hj => hp j hj (by simp at hc; omega)).symm
/-- The place that find returns: of node n at index j of a row,behind these names. -/
def findD : List D → Nat → NV → List (List UInt8) → D
 | xs,j,n,[] => .elm 12 xs j 0
 | xs,j,n,m::r => if kidIx n m < 0 then .raw (.pointer none) else match n.kids[(kidIx n m).toNat]? with
  | some k => findD (n.kids.map enc) (kidIx n m).toNat k r
  | none => .raw (.pointer none)
theorem findD_getN : ∀ (r : List (List UInt8)) (xs : List D) (j : Nat) (n : NV),xs[j]? = some (encTop n) → (getN n r = none ∧ findD xs j n r = .raw (.pointer none)) ∨ ∃ m ys i,getN n r = some m ∧ findD xs j n r = .elm 12 ys i 0 ∧ ys[i]? = some (encTop m)
 | [],xs,j,n,h => .inr ⟨n,xs,j,rfl,rfl,h⟩
 | m::r,xs,j,n,h => by
  simp only [getN,findD]
  rcases kid_find n m with ⟨h1,h2⟩ | ⟨i,hi,h1,h2⟩
  ·rw [h1,h2]; exact .inl ⟨rfl,if_pos (by decide)⟩
  ·rw [h1,h2,if_neg (by omega),show ((i : Nat) : Int).toNat = i from rfl,List.getElem?_eq_getElem hi]
   exact findD_getN r _ i _ (get_kid hi)

theorem G116 (hL : LibOk W0) (s : List UInt8) (hs : s.length < 1000000000) (xs : List D) (j : Nat) (n : NV) (hj : xs[j]? = some (encTop n)) (hz : sz n < 1000000000) : DFun Tryz.prog W0 66 [.elm 12 xs j 0,.str s] (if s = [] then .elm 12 xs j 0 else findD xs j n (splitG 47 [] s)):=by
 refine DFun.intro ti_ok Tryz.func66 rfl (by decide +kernel) Tryz.ntmps66 rfl fun Γ => ?_
 refine Tri.seq ?_
 refine Tri.region ti_ok ?_
 conv => whnf
 refine Tri.seq ?_
 refine Tri.seq ?_
 refine Tri.region ti_ok ?_
 conv => whnf
 refine Tri.cond _ rfl (fun hc => ?_) (fun hc => ?_)
 ·refine Tri.seq ?_
  refine Tri.region ti_ok ?_
  conv => whnf
  refine Tri.ret ?_
  conv => whnf
  exact DLe.of_eq (if_pos (by simpa using hc)).symm
 ·refine Tri.skip ?_
  conv => whnf
  refine Tri.seq ?_
  refine Tri.seq ?_
  refine Tri.region ti_ok ?_
  have hne : s ≠ []:=by simpa using hc
  conv => whnf
  refine ⟨[.str s,.str [47]],_,fun _ => F121 hL s 47 hs,⟨.refl _,.refl _,trivial⟩,?_⟩
  conv => whnf
  refine Tri.block ?_
  refine Tri.loop (α:={ x : Nat × List D × Nat × NV // x.1 ≤ (splitG 47 [] s).length ∧ x.2.1[x.2.2.1]? = some (encTop x.2.2.2) ∧ findD x.2.1 x.2.2.1 x.2.2.2 ((splitG 47 [] s).drop x.1) = findD xs j n (splitG 47 [] s) ∧ sz x.2.2.2 < 1000000000 }) (fun x => [(0,.elm 12 x.1.2.1 x.1.2.2.1 0),(12,.sl .none 1 (strs (splitG 47 [] s))),(13,.int .i64 (strs (splitG 47 [] s)).length),(14,.int .i64 x.1.1)]) (fun _ => []) (fun x => (splitG 47 [] s).length - x.1.1) ⟨(0,xs,j,n),Nat.zero_le _,hj,rfl,hz⟩ ⟨.refl _,DLe.full,.refl _,.refl _,trivial⟩ trivial ?_
  rintro ⟨⟨i,ys,jj,m⟩,hi,hm,hd,hzm⟩
  obtain ⟨hsl,_⟩:=splitG_len (c:=47) s []
  dsimp only at hi hm hd hzm ⊢
  refine Tri.seq ?_
  refine Tri.region ti_ok ?_
  conv => whnf
  refine Tri.seq ?_
  refine Tri.cond (decide ((i : Int) < (strs (splitG 47 [] s)).length)) rfl (fun hc => ?_) (fun hc => ?_)
  ·refine Tri.skip ?_
   conv => whnf
   refine Tri.seq ?_
   refine Tri.block ?_
   refine Tri.seq ?_
   refine Tri.region ti_ok ?_
   have hia : i < (splitG 47 [] s).length:=by simpa [strs] using hc
   have hkl:=kids_len m
   have hdr : (splitG 47 [] s).drop i = (splitG 47 [] s)[i]::(splitG 47 [] s).drop (i + 1):=List.drop_eq_getElem_cons hia
   conv => whnf
   refine ⟨fun _ => by simp [strs]; omega,?_⟩
   conv => whnf
   refine ⟨.str (splitG 47 [] s)[i],fun _ => by simp [strs,hia],?_⟩
   conv => whnf
   intro b
   conv => whnf
   refine ⟨rfl,?_⟩
   conv => whnf
   refine Tri.seq ?_
   refine Tri.boxElm 6 6 (.str (splitG 47 [] s)[i]) rfl rfl rfl rfl ?_
   refine Tri.regionG ti_ok ?_
   conv => whnf
   refine ⟨rfl,trivial,.inl ?_⟩
   conv => whnf
   refine ⟨rfl,trivial,.inr (XOp.checkElm rfl ?_)⟩
   conv => whnf
   refine ⟨rfl,trivial,.inl ?_⟩
   conv => whnf
   refine ⟨rfl,trivial,.inl ⟨encTop m,fun _ => hm,?_⟩⟩
   conv => whnf
   refine ⟨rfl,trivial,.inl ?_⟩
   conv => whnf
   refine ⟨rfl,trivial,.inl ⟨[.sl .none 12 (m.kids.map enc),.fn (.func 97) [] [.elm 1 [.str (splitG 47 [] s)[i]] 0 0]],_,fun _ => G96 m.kids _ (by omega),⟨.refl _,.refl _,trivial⟩,?_⟩⟩
   conv => whnf
   refine ⟨rfl,trivial,.inl ?_⟩

   conv => whnf
   refine Tri.seq ?_
   refine Tri.seq ?_
   refine Tri.region ti_ok ?_
   conv => whnf
   refine Tri.cond (decide (kidIx m (splitG 47 [] s)[i] < 0)) rfl (fun hc => ?_) (fun hc => ?_)
   ·refine Tri.seq ?_
    refine Tri.region ti_ok ?_
    conv => whnf
    refine Tri.ret ?_
    conv => whnf
    refine DLe.of_eq ?_
    rw [if_neg hne,← hd,hdr]
    exact (if_pos (by simpa using hc)).symm
   ·refine Tri.skip ?_
    conv => whnf
    have hix : ∃ (i' : Nat) (h : i' < m.kids.length),kidIx m (splitG 47 [] s)[i] = i' ∧ findK (splitG 47 [] s)[i] m.kids = some m.kids[i']:=by
     rcases kid_find m (splitG 47 [] s)[i] with ⟨h1,_⟩ | h
     ·rw [h1] at hc; simp at hc
     ·exact h
    obtain ⟨i',hi',he,_⟩:=hix
    have hks:=kid_sz hi'
    rw [show firstIdx (fun k : NV => k.name == (splitG 47 [] s)[i]) m.kids = (i' : Int) from he]
    refine Tri.regionG ti_ok ?_
    conv => whnf
    refine ⟨rfl,trivial,.inl ?_⟩
    conv => whnf
    refine ⟨rfl,trivial,.inr (XOp.checkElm rfl ?_)⟩
    conv => whnf
    refine ⟨rfl,trivial,.inl ?_⟩
    conv => whnf
    refine ⟨rfl,trivial,.inl ⟨encTop m,fun _ => hm,?_⟩⟩
    conv => whnf
    refine ⟨rfl,trivial,.inl ?_⟩
    conv => whnf
    refine ⟨rfl,trivial,.inl ⟨fun _ => by simp; omega,?_⟩⟩
    conv => whnf
    refine ⟨rfl,trivial,.inl ?_⟩

    conv => whnf
    refine Tri.region ti_ok ?_
    conv => whnf
    refine .inl ⟨fun _ => by simp [InR]; omega,?_⟩
    conv => whnf
    exact ⟨⟨(i + 1,m.kids.map enc,i',m.kids[i']),hia,get_kid hi',by rw [← hd,hdr]; simp only [findD,he]; rw [if_neg (by omega),show ((i' : Nat) : Int).toNat = i' from rfl,List.getElem?_eq_getElem hi'],by show sz m.kids[i'] < _; omega⟩,by show _ - (i + 1) < _ - i; omega,⟨.refl _,.refl _,.refl _,.refl _,trivial⟩,trivial⟩
  ·refine Tri.exit ?_
   conv => whnf
   refine Tri.seq ?_
   refine Tri.region ti_ok ?_
   conv => whnf
   refine Tri.ret ?_
   conv => whnf
   refine DLe.of_eq ?_
   have hin : i = (splitG 47 [] s).length:=by simp [strs] at hc; omega
   rw [if_neg hne,← hd,hin,List.drop_length]
   rfl
theorem G66 (hL : LibOk W0) (s : List UInt8) (hs : s.length < 1000000000) (n : NV) (hn : Fits n) (hv : valid n = true) : DFun Tryz.prog W0 35 [encTop n,.str s] (.tup [encTop (getR n s).1,.int .i64 (getR n s).2]):=by
 refine DFun.intro ti_ok Tryz.func35 rfl (by decide +kernel) Tryz.ntmps35 rfl fun Γ => ?_
 have hz:=hn
 unfold Fits at hz
 refine Tri.seq ?_
 refine Tri.region ti_ok ?_
 conv => whnf
 intro b2
 conv => whnf
 intro b4
 conv => whnf
 refine Tri.seq ?_
 refine Tri.seq ?_
 refine Tri.region ti_ok ?_
 conv => whnf
 refine ⟨rfl,?_⟩
 conv => whnf
 refine ⟨[encTop n],_,fun _ => F39 hL n (by omega),⟨.refl _,trivial⟩,?_⟩
 conv => whnf
 refine Tri.cond _ rfl (fun hc => ?_) (fun hc => ?_)
 ·refine Tri.seq ?_
  exfalso
  rw [hv] at hc; cases hc
 ·refine Tri.skip ?_
  conv => whnf
  refine Tri.seq ?_
  refine Tri.boxElm 2 2 (encTop n) rfl rfl rfl rfl ?_
  have hform : ∃ d,DFun Tryz.prog W0 66 [.elm 12 [encTop n] 0 0,.str s] d ∧ ((d = .raw (.pointer none) ∧ getR n s = (zeroN,6)) ∨ ∃ m ys i,d = .elm 12 ys i 0 ∧ ys[i]? = some (encTop m) ∧ getR n s = (m,0) ∧ sz m ≤ sz n):=by
   refine ⟨_,G116 hL s hs [encTop n] 0 n rfl (by omega),?_⟩
   by_cases h0 : s = []
   ·rw [if_pos h0]
    exact .inr ⟨n,_,_,rfl,rfl,by rw [getR,if_pos h0],Nat.le_refl _⟩
   ·rw [if_neg h0,getR,if_neg h0]
    rcases findD_getN (splitG 47 [] s) [encTop n] 0 n rfl with ⟨h1,h2⟩ | ⟨m,ys,i,h1,h2,h3⟩
    ·rw [h1,h2]; exact .inl ⟨rfl,rfl⟩
    ·rw [h1,h2]; exact .inr ⟨m,ys,i,rfl,h3,rfl,getN_sz _ _ _ h1⟩
  obtain ⟨d,hG,⟨rfl,hR⟩ | ⟨m,ys,i,rfl,hi,hR,hsm⟩⟩:=hform
  ·refine Tri.region ti_ok ?_
   conv => whnf
   refine ⟨[.elm 12 [encTop n] 0 0,.str s],_,fun _ => hG,⟨.refl _,.refl _,trivial⟩,?_⟩
   conv => whnf
   refine Tri.seq ?_
   refine Tri.seq ?_
   refine Tri.regionG ti_ok ?_
   conv => whnf
   refine ⟨rfl,trivial,.inl ?_⟩
   conv => whnf
   refine ⟨rfl,trivial,.inr (XOp.nilNil rfl rfl ?_)⟩
   conv => whnf
   refine Tri.cond true rfl (fun hc => ?_) (fun hc => by cases hc)
   refine Tri.seq ?_
   refine Tri.region ti_ok ?_
   conv => whnf
   refine ⟨rfl,?_⟩
   conv => whnf
   refine Tri.ret ?_
   conv => whnf
   refine ⟨rfl,?_⟩
   conv => whnf
   rw [hR]
   exact ⟨zeroD,.refl _,trivial⟩
  ·refine Tri.region ti_ok ?_
   conv => whnf
   refine ⟨[.elm 12 [encTop n] 0 0,.str s],_,fun _ => hG,⟨.refl _,.refl _,trivial⟩,?_⟩
   conv => whnf
   refine Tri.seq ?_
   refine Tri.seq ?_
   refine Tri.regionG ti_ok ?_
   conv => whnf
   refine ⟨rfl,trivial,.inl ?_⟩
   conv => whnf
   refine ⟨rfl,trivial,.inr (XOp.nilElm rfl rfl ?_)⟩
   conv => whnf
   refine Tri.cond false rfl (fun hc => by cases hc) (fun hc => ?_)
   refine Tri.skip ?_
   conv => whnf
   refine Tri.seq ?_
   refine Tri.regionG ti_ok ?_
   conv => whnf
   refine ⟨rfl,trivial,.inl ?_⟩
   conv => whnf
   refine ⟨rfl,trivial,.inr (XOp.checkElm rfl ?_)⟩
   conv => whnf
   refine ⟨rfl,trivial,.inl ⟨encTop m,fun _ => hi,?_⟩⟩
   conv => whnf
   refine ⟨rfl,trivial,.inl ⟨[encTop m],_,fun _ => G117 _ m (Nat.lt_succ_self _) (by omega),⟨.refl _,trivial⟩,?_⟩⟩
   conv => whnf
   refine ⟨rfl,trivial,.inl ⟨rfl,?_⟩⟩
   conv => whnf
   refine ⟨rfl,trivial,.inl ?_⟩
   conv => whnf
   refine Tri.ret ?_
   conv => whnf
   refine ⟨rfl,?_⟩
   conv => whnf
   rw [hR]
   exact ⟨DLe.of_eq rfl,.refl _,trivial⟩
end Go.Tame.V
/- Contracts: the paths of a tree,gathered by a walk; items; options of discs. By program (mkk3.py,mk.py). -/
namespace Go.Tame.V
open Go Go.Proofs
variable {W0 : World}
set_option maxRecDepth 10000
set_option linter.unusedVariables false
set_option linter.unusedSimpArgs false

/-- What the walk keeps: the paths so far. -/
def PA (bb : Nat) (acc : List (List UInt8)) (v : Value) : Heap:=look [(2000,.box bb [.sl (.own 2001 v) 1 (strs acc)]),(2001,.own v (strs acc).length 1 9)]

theorem K65 (bb : Nat) (n : NV) (p : List UInt8) (l : Int) (acc : List (List UInt8)) (v : Value) (hacc : acc.length < 10000000) : DCall Tryz.prog W0 65 ([encTop n,.str p,.int .i64 l] ++ [.box 2000 bb 0]) (PA bb acc v) fun d H' => ∃ v',d = .bool true ∧ H' = PA bb (acc ++ [p]) v':=by
 refine DCall.intro ti_ok Tryz.func65 rfl (by decide +kernel) Tryz.ntmps65 rfl fun Γ => ?_
 refine Tri.seq ?_
 refine Tri.region ti_ok ?_
 conv => whnf
 intro b
 conv => whnf
 refine Tri.seq ?_
 refine Tri.region ti_ok ?_
 conv => whnf
 refine ⟨rfl,?_⟩
 conv => whnf
 refine ⟨trivial,?_⟩
 conv => whnf
 refine ⟨rfl,rfl,?_⟩
 conv => whnf
 refine ⟨by show (_ + 1) * 16 ≤ _; simp [strs]; omega,by show _ + 1 ≤ _; simp [strs]; omega,(fun h => by cases h),fun v1 => ?_⟩
 conv => whnf
 refine ⟨rfl,?_⟩
 conv => whnf
 refine Tri.seq ?_
 refine Tri.region ti_ok ?_
 conv => whnf
 have he : strs acc ++ [D.str p] = strs (acc ++ [p]):=by simp [strs]
 refine Tri.boxLe 2000 (cs':=[.sl (.own 2001 v1) 1 (strs (acc ++ [p]))]) rfl ⟨DLe.trans (DLe.of_eq (congrArg (D.sl (.own 11 v1) 1) he)) (DLe.own 11 2001),trivial⟩ ?_
 refine Tri.retK [(7,.bool true)] [(2000,.box bb [.sl (.own 2001 v1) 1 (strs (acc ++ [p]))]),(2001,.own v1 (strs (acc ++ [p])).length 1 9)] [(2000,2000),(2001,11)] ⟨⟨.refl _,trivial⟩,rfl,rfl,rfl,rfl,congrArg (fun z => some (HObj.own v1 z 1 9)) (by simp [strs]),trivial⟩ ?_
 conv => whnf
 exact ⟨_,.refl _,v1,rfl,rfl⟩

theorem szL_split : ∀ {l : List NV} {i : Nat} (h : i < l.length),szL (l.take i) + sz l[i] ≤ szL l
 | k::r,0,_ => by simp only [List.take_zero,szL,List.getElem_cons_zero]; omega
 | k::r,i + 1,h => by
  have:=szL_split (l:=r) (i:=i) (by simpa using h)
  simp only [List.take_succ_cons,szL,List.getElem_cons_succ]; omega
theorem K64 (bb : Nat) : ∀ (N : Nat) (n : NV) (p : List UInt8) (l : Int) (acc : List (List UInt8)) (v : Value),sz n < N → p.length + sz n + l.toNat + n.name.length < 100000000 → 1 ≤ l → acc.length + sz n < 10000000 →
  DCall Tryz.prog W0 64 [encTop n,.str p,.int .i64 l,.fn (.func 65) [] [.box 2000 bb 0]] (PA bb acc v) fun d H' => ∃ v',d = .bool true ∧ H' = PA bb (acc ++ pathsS n p l) v':=by
 refine fun N => Nat.rec (fun n p l acc v h => absurd h (Nat.not_lt_zero _)) (fun N ih n p l acc v hN hb hl hacc => ?_) N
 refine DCall.intro ti_ok Tryz.func64 rfl (by decide +kernel) Tryz.ntmps64 rfl fun Γ => ?_
 refine Tri.seq ?_
 refine Tri.region ti_ok ?_
 conv => whnf
 intro b
 conv => whnf
 refine Tri.seq ?_
 refine Tri.seq ?_
 refine Tri.regionE ti_ok ?_
 conv => whnf
 refine ⟨rfl,?_⟩
 conv => whnf
 refine .inr ?_
 conv => whnf
 refine ⟨_,[(2000,2000),(2001,2001)],_,K65 bb n p l acc v (by omega),rfl,⟨.refl _,.refl _,.refl _,?_⟩,?_⟩
 ·exact LeL.refl _
 rintro d H' ⟨v1,rfl,rfl⟩
 refine ⟨_,.refl _,?_⟩
 conv => whnf
 refine Tri.cond _ rfl (fun hc => ?_) (fun hc => ?_)
 ·exact absurd hc (by simp)
 ·refine Tri.skip ?_
  conv => whnf
  refine Tri.seq ?_
  refine Tri.seq ?_
  refine Tri.region ti_ok ?_
  conv => whnf
  refine ⟨rfl,?_⟩
  conv => whnf
  refine Tri.block ?_
  have h0 : acc ++ [p] ++ pathsSL (n.kids.take 0) p l = acc ++ [p]:=by simp [pathsSL]
  refine Tri.loopK (α:={ x : Nat × Value // x.1 ≤ n.kids.length })
   (fun x => [(1,.str p),(2,.int .i64 l),(3,.fn (.func 65) [] [.box 2000 bb 0]),(18,.sl .none 12 (n.kids.map enc)),(19,.int .i64 (n.kids.map enc).length),(20,.int .i64 x.1.1)])
   (fun x => [(2000,.box bb [.sl (.own 2001 x.1.2) 1 (strs (acc ++ [p] ++ pathsSL (n.kids.take x.1.1) p l))]),(2001,.own x.1.2 (strs (acc ++ [p] ++ pathsSL (n.kids.take x.1.1) p l)).length 1 9)]) (fun x => n.kids.length - x.1.1) ⟨(0,v1),by simp⟩ [(2000,2000),(2001,2001)]
   ⟨⟨.refl _,.refl _,.refl _,.refl _,.refl _,.refl _,trivial⟩,rfl,rfl,congrArg (fun z => some (HObj.box bb [.sl (.own 2001 v1) 1 (strs z)])) h0.symm,rfl,congrArg (fun z => some (HObj.own v1 (strs z).length 1 9)) h0.symm,trivial⟩ ?_
  rintro ⟨⟨i,v2⟩,hi⟩
  dsimp only at hi ⊢
  refine Tri.seq ?_
  refine Tri.region ti_ok ?_
  conv => whnf
  refine Tri.seq ?_
  refine Tri.cond _ rfl (fun hc => ?_) (fun hc => ?_)
  ·refine Tri.skip ?_
   conv => whnf
   have hik : i < n.kids.length:=by simpa using hc
   have hks:=kid_sz hik
   have hbl:=below_len p n.kids[i].name (l + 1)
   have hkl:=kids_len n
   have hnx:=pathsSL_next hik p l
   have hll:=pathsSL_len (n.kids.take i) p l
   have hlt:=szL_split hik
   have hcz:=cntL_sz (n.kids.take i)
   have hsze:=sz_eq n
   refine Tri.seq ?_
   refine Tri.block ?_
   refine Tri.seq ?_
   refine Tri.region ti_ok ?_
   conv => whnf
   refine ⟨fun _ => by simp; omega,?_⟩
   conv => whnf
   refine ⟨encTop n.kids[i],fun _ => get_kid hik,?_⟩
   conv => whnf
   intro b
   conv => whnf
   refine ⟨rfl,?_⟩
   conv => whnf
   refine Tri.seq ?_
   refine Tri.drawTailE ti_ok 10 mixed (by kernel_rfl) ?_
   conv => whnf
   refine ⟨rfl,?_⟩
   conv => whnf
   refine ⟨rfl,?_⟩
   conv => whnf
   refine .inl ⟨fun _ => by simp [InR]; omega,?_⟩
   conv => whnf
   refine ⟨[.str p,.str n.kids[i].name,.int .i64 (l + 1)],_,fun _ => F99 p n.kids[i].name (l + 1) (by omega),⟨.refl _,.refl _,.refl _,trivial⟩,?_⟩
   conv => whnf
   refine .inl ⟨fun _ => by simp [InR]; omega,?_⟩
   conv => whnf
   refine .inr ?_
   conv => whnf
   refine ⟨_,[(2000,2000),(2001,2001)],_,ih n.kids[i] (below p n.kids[i].name (l + 1)) (l + 1) (acc ++ [p] ++ pathsSL (n.kids.take i) p l) v2 (by omega) (by omega) (by omega) (by simp only [List.length_append,List.length_cons,List.length_nil]; omega),rfl,⟨.refl _,.refl _,.refl _,.refl _,trivial⟩,?_⟩
   rintro d H' ⟨v3,rfl,rfl⟩
   refine ⟨_,.refl _,?_⟩
   conv => whnf
   refine Tri.cond _ rfl (fun hc => ?_) (fun hc => ?_)
   ·exact absurd hc (by simp)
   ·refine Tri.skip ?_
    conv => whnf
    refine Tri.region ti_ok ?_
    conv => whnf
    refine .inl ⟨fun _ => by simp [InR]; omega,?_⟩
    conv => whnf
    have he : acc ++ [p] ++ pathsSL (n.kids.take i) p l ++ pathsS n.kids[i] (below p n.kids[i].name (l + 1)) (l + 1) = acc ++ [p] ++ pathsSL (n.kids.take (i + 1)) p l:=by rw [hnx,List.append_assoc]
    exact ⟨⟨(i + 1,v3),by omega⟩,[(2000,2000),(2001,2001)],by show n.kids.length - (i + 1) < n.kids.length - i; omega,⟨.refl _,.refl _,.refl _,.refl _,.refl _,.refl _,trivial⟩,rfl,rfl,congrArg (fun z => some (HObj.box bb [.sl (.own 2001 v3) 1 (strs z)])) he,rfl,congrArg (fun z => some (HObj.own v3 (strs z).length 1 9)) he,trivial⟩
  ·refine Tri.exit ?_
   have hin : i = n.kids.length:=by simp at hc; omega
   have he : acc ++ [p] ++ pathsSL (n.kids.take i) p l = acc ++ pathsS n p l:=by
    rw [hin,List.take_length,pathsS_eq,List.append_assoc]; rfl
   conv => whnf
   refine Tri.seq ?_
   refine Tri.region ti_ok ?_
   conv => whnf
   refine Tri.retK [(8,.bool true)] [(2000,.box bb [.sl (.own 2001 v2) 1 (strs (acc ++ pathsS n p l))]),(2001,.own v2 (strs (acc ++ pathsS n p l)).length 1 9)] [(2000,2000),(2001,2001)] ⟨⟨.refl _,trivial⟩,rfl,rfl,congrArg (fun z => some (HObj.box bb [.sl (.own 2001 v2) 1 (strs z)])) he,rfl,congrArg (fun z => some (HObj.own v2 (strs z).length 1 9)) he,trivial⟩ ?_
   conv => whnf
   exact ⟨_,.refl _,v2,rfl,rfl⟩

theorem K34 (hL : LibOk W0) (n : NV) (hn : Fits n) : DFun Tryz.prog W0 34 [encTop n] (.sl .none 1 (strs (if valid n then pathsS n [] 1 else []))):=by
 refine DFun.intro ti_ok Tryz.func34 rfl (by decide +kernel) Tryz.ntmps34 rfl fun Γ => ?_
 refine Tri.seq ?_
 refine Tri.region ti_ok ?_
 conv => whnf
 intro b
 conv => whnf
 refine Tri.seq ?_
 refine Tri.seq ?_
 refine Tri.region ti_ok ?_
 conv => whnf
 refine ⟨rfl,?_⟩
 conv => whnf
 refine ⟨[encTop n],_,fun _ => F39 hL n (by unfold Fits at hn; omega),⟨.refl _,trivial⟩,?_⟩
 conv => whnf
 refine Tri.cond _ rfl (fun hc => ?_) (fun hc => ?_)
 ·refine Tri.seq ?_
  refine Tri.region ti_ok ?_
  conv => whnf
  refine Tri.ret ?_
  conv => whnf
  have hv : valid n = false:=by simpa using hc
  rw [hv]
  exact DLe.nil
 ·refine Tri.skip ?_
  have hv : valid n = true:=by simpa using hc
  rw [if_pos hv]
  conv => whnf
  refine Tri.seq ?_
  refine Tri.region ti_ok ?_
  conv => whnf
  intro b
  conv => whnf
  refine Tri.seq ?_
  refine Tri.ownNil 2001 1 9 ?_
  refine Tri.boxLe 3 (cs':=[.sl (.own 2001 (.slice none 0 0)) 1 []]) rfl ⟨DLe.nilOwn,trivial⟩ ?_
  refine Tri.regionX ti_ok ?_
  conv => whnf
  refine .inl ?_
  conv => whnf
  refine ⟨rfl,?_⟩
  conv => whnf
  refine .inr (XOp.call rfl [encTop n,.str [],.int .i64 1,.fn (.func 65) [] [.box 2000 b 0]] [(2000,3),(2001,2001)] (K64 b _ n [] 1 [] (.slice none 0 0) (Nat.lt_succ_self _) (by simp; unfold Fits at hn; omega) (by omega) (by simp; unfold Fits at hn; omega)) rfl ⟨.refl _,.refl _,.refl _,DLe.fn trivial ⟨DLe.box,trivial⟩,trivial⟩ ?_)
  rintro d H' ⟨v',rfl,rfl⟩
  refine ⟨_,.refl _,?_⟩
  conv => whnf
  refine Tri.seq ?_
  refine Tri.region ti_ok ?_
  conv => whnf
  refine ⟨rfl,?_⟩
  conv => whnf
  refine Tri.ret ?_
  conv => whnf
  exact DLe.unown
end Go.Tame.V
/- Contracts: options of a disc,items of a tree,options of discs. By program (mk.py). -/
namespace Go.Tame.V
open Go Go.Proofs
variable {W0 : World}
set_option maxRecDepth 10000
set_option linter.unusedVariables false
set_option linter.unusedSimpArgs false

theorem DCall.freshK {f : FuncId} {ds : List D} {Q : D → Heap → Prop} {H : Heap} {k s : Nat} (h : H s = none) (hc : DCall Tryz.prog W0 f ds Heap.none Q) : DCall Tryz.prog W0 f ds (handed H [(k,s)]) Q:=by
 have e : handed H [(k,s)] = Heap.none:=by
  funext j
  simp only [handed,Heap.none]
  cases Nat.beq j k with
  | true => exact h
  | false => rfl
 rw [e]; exact hc
/-- The options of a disc with some items. -/
def hasP (items : List (List UInt8)) (p : List UInt8) : Bool:=items.any fun x => p == x
def optV (m : MV) (items : List (List UInt8)) : MV:={ m with boot:=m.boot.filter fun b => hasP items b.path }
theorem opt_filter (l : List BE) (items : List (List UInt8)) : (l.filter fun b => !!items.any fun x => b.path == x) = l.filter fun b => hasP items b.path:=by
 congr 1; funext b; exact Bool.not_not _

theorem K15 (m : MV) (items : List (List UInt8)) (hm : m.boot.length < 1000000) (hi : items.length < 1000000000) : DFun Tryz.prog W0 15 [encM m,.sl .none 1 (strs items)] (encM (optV m items)):=by
 by_cases h0 : m.boot = []
 ·refine DFun.intro ti_ok Tryz.func15 rfl (by decide +kernel) Tryz.ntmps15 rfl fun Γ => ?_
  refine Tri.seq ?_
  refine Tri.region ti_ok ?_
  conv => whnf
  intro b1
  conv => whnf
  intro b2
  conv => whnf
  intro b3
  conv => whnf
  refine Tri.boxElm 3 3 (.sl .none 1 (strs items)) rfl rfl rfl rfl ?_
  refine Tri.seq ?_
  refine Tri.region ti_ok ?_
  conv => whnf
  refine ⟨rfl,?_⟩
  conv => whnf
  rw [h0]
  refine ⟨[.sl .none 6 (([] : List BE).map encB)],_,fun _ => K39 [] (by simp),⟨.refl _,trivial⟩,?_⟩
  conv => whnf
  refine ⟨[.sl .none 6 [],.fn (.func 40) [] [.elm 1 [.sl .none 1 (strs items)] 0 0]],_,fun _ => K38e 40 _ (fun k hk => by cases hk),⟨.refl _,.refl _,trivial⟩,?_⟩
  conv => whnf
  refine ⟨rfl,?_⟩
  conv => whnf
  refine Tri.seq ?_
  refine Tri.region ti_ok ?_
  conv => whnf
  refine ⟨rfl,?_⟩
  conv => whnf
  refine ⟨rfl,?_⟩
  conv => whnf
  refine Tri.ret ?_
  conv => whnf
  refine ⟨rfl,?_⟩
  conv => whnf
  have he : optV m items = { m with boot:=[] }:=by simp [optV,h0]
  rw [he]
  exact .refl _
 have hpos : 0 < m.boot.length:=List.length_pos_iff.2 h0
 refine DFun.intro ti_ok Tryz.func15 rfl (by decide +kernel) Tryz.ntmps15 rfl fun Γ => ?_
 refine Tri.seq ?_
 refine Tri.region ti_ok ?_
 conv => whnf
 intro b1
 conv => whnf
 intro b2
 conv => whnf
 intro b3
 conv => whnf
 refine Tri.boxElm 3 3 (.sl .none 1 (strs items)) rfl rfl rfl rfl ?_
 refine Tri.seq ?_
 refine Tri.regionX ti_ok ?_
 conv => whnf
 refine .inl ?_
 conv => whnf
 refine ⟨rfl,?_⟩
 conv => whnf
 refine .inr (XOp.call rfl [.sl .none 6 (m.boot.map encB)] [(2000,70)] (DCall.freshK rfl (K39r (m.boot.map encB) encB_cells (by simpa using hpos) (by simpa using hm))) rfl ⟨.refl _,trivial⟩ ?_)
 rintro d H' ⟨v,rfl,rfl⟩
 refine ⟨_,.refl _,?_⟩
 conv => whnf
 refine .inr (XOp.call rfl [.raw v,.fn (.func 40) [] [.elm 1 [.sl .none 1 (strs items)] 0 0]] [(2000,70)] (DCall.heapK rfl (K38 m.boot hm hpos v 40 [.elm 1 [.sl .none 1 (strs items)] 0 0] (fun b => !items.any fun x => b.path == x) (fun k _ => K40 items k hi))) rfl ⟨.refl _,.refl _,trivial⟩ ?_)
 rintro d H' ⟨aa,nn,cc,rfl,rfl⟩
 refine ⟨_,.refl _,?_⟩
 conv => whnf
 refine .inl ?_
 conv => whnf
 refine ⟨rfl,?_⟩
 conv => whnf
 refine Tri.commitBox 70 2 10 rfl rfl (by decide) rfl ?_
 refine Tri.seq ?_
 refine Tri.region ti_ok ?_
 conv => whnf
 refine ⟨rfl,?_⟩
 conv => whnf
 refine ⟨rfl,?_⟩
 conv => whnf
 refine Tri.ret ?_
 conv => whnf
 refine ⟨rfl,?_⟩
 conv => whnf
 rw [opt_filter]
 exact .refl _

def isItem (n : NV) (p : List UInt8) : Bool:=decide ((getR n p).2 = 0) && (decide (p ≠ []) && (decide ((getR n p).1.kind ≠ 0) || decide ((getR n p).1.kids.length = 0)))
theorem isItem_eq (n : NV) (p : List UInt8) : (bif (bif (getR n p).2 == 0 then !(p == []) else false) then (bif (getR n p).1.kind != 0 then true else (((((getR n p).1.kids.map enc).length : Nat) : Int) == 0)) else false) = isItem n p:=by
 unfold isItem
 by_cases h1 : (getR n p).2 = 0
 ·by_cases h2 : p = []
  ·simp [h1,h2]
  ·by_cases h3 : (getR n p).1.kind = 0
   ·have h4 : ((getR n p).1.kids.map enc).length = (getR n p).1.kids.length:=List.length_map _
    rw [h4]
    cases hk : (getR n p).1.kids with
    | nil => simp [h1,h2,h3]
    | cons x r => simp [h1,h2,h3]; omega
   ·simp [h1,h2,h3]
 ·simp [h1]
mutual
theorem pathsS_plen : ∀ (n : NV) (q : List UInt8) (l : Int),∀ p ∈ pathsS n q l,p.length ≤ q.length + sz n
 | .mk _ _ _ _ _ _ _ _ _ _ ks ss,q,l,p,hp => by
  simp only [pathsS,List.mem_cons] at hp
  rcases hp with rfl | hp
  ·omega
  ·have:=pathsSL_plen ks q l p hp
   simp only [sz]; omega
theorem pathsSL_plen : ∀ (ks : List NV) (q : List UInt8) (l : Int),∀ p ∈ pathsSL ks q l,p.length ≤ q.length + szL ks
 | [],q,l,p,hp => by cases hp
 | k::r,q,l,p,hp => by
  simp only [pathsSL,List.mem_append] at hp
  simp only [szL]
  rcases hp with hp | hp
  ·have:=pathsS_plen k _ _ p hp
   have:=below_len q k.name (l + 1)
   omega
  ·have:=pathsSL_plen r q l p hp
   omega
end
def itemsF (n : NV) (l : List (List UInt8)) : List (List UInt8):=l.filter (isItem n)
theorem itemsF_next {n : NV} {l : List (List UInt8)} {i : Nat} (h : i < l.length) : itemsF n (l.take (i + 1)) = itemsF n (l.take i) ++ (if isItem n l[i] then [l[i]] else []):=by
 rw [itemsF,itemsF,List.take_succ_eq_append_getElem h,List.filter_append]
 congr 1
 by_cases hx : isItem n l[i] = true
 ·simp [hx]
 ·simp [hx]
def itemsV (n : NV) : List (List UInt8):=if valid n then itemsF n (pathsS n [] 1) else []
theorem K11 (hL : LibOk W0) (n : NV) (hn : Fits n) : DFun Tryz.prog W0 11 [encTop n] (.sl .none 1 (strs (itemsV n))):=by
 refine DFun.intro ti_ok Tryz.func11 rfl (by decide +kernel) Tryz.ntmps11 rfl fun Γ => ?_
 refine Tri.seq ?_
 refine Tri.region ti_ok ?_
 conv => whnf
 intro b1
 conv => whnf
 refine Tri.seq ?_
 refine Tri.region ti_ok ?_
 conv => whnf
 refine Tri.seq ?_
 refine Tri.seq ?_
 refine Tri.region ti_ok ?_
 conv => whnf
 refine ⟨rfl,?_⟩
 conv => whnf
 refine ⟨[encTop n],_,fun _ => K34 hL n hn,⟨.refl _,trivial⟩,?_⟩
 conv => whnf
 generalize hL0 : (if valid n then pathsS n [] 1 else []) = L
 have hall : ∀ p ∈ L,valid n = true ∧ p.length < 1000000000:=by
  intro p hp
  by_cases hv : valid n = true
  ·rw [if_pos hv] at hL0
   subst hL0
   exact ⟨hv,by have:=pathsS_plen n [] 1 p hp; simp at this; unfold Fits at hn; omega⟩
  ·rw [if_neg hv] at hL0; subst hL0; cases hp
 have hLl : L.length < 10000000:=by
  rw [← hL0]; split
  ·rw [pathsS_len]; have:=cnt_sz n; unfold Fits at hn; omega
  ·simp
 refine Tri.block ?_
 refine Tri.ownNil 1000 1 9 ?_
 refine Tri.loopK (α:={ i : Nat // i ≤ L.length } × Value) (fun x => [(1,.box 1 b1 0),(3,.sl (.own 1000 x.2) 1 (strs (itemsF n (L.take x.1.1)))),(9,.sl .none 1 (strs L)),(10,.int .i64 (strs L).length),(11,.int .i64 x.1.1)]) (fun x => [(1,.box b1 (encTop n).cells),(1000,.own x.2 (strs (itemsF n (L.take x.1.1))).length 1 9)]) (fun x => L.length - x.1.1) (⟨0,by omega⟩,.slice none 0 0) [(1,1),(1000,1000)]
  ⟨⟨.refl _,DLe.nilOwn,.refl _,.refl _,.refl _,trivial⟩,rfl,rfl,rfl,rfl,rfl,trivial⟩ ?_
 rintro ⟨⟨i,hi⟩,w⟩
 dsimp only at hi ⊢
 refine Tri.seq ?_
 refine Tri.region ti_ok ?_
 conv => whnf
 refine Tri.seq ?_
 refine Tri.cond _ rfl (fun hc => ?_) (fun hc => ?_)
 ·refine Tri.skip ?_
  conv => whnf
  have hia : i < L.length:=by simpa [strs] using hc
  obtain ⟨hv,hpl⟩:=hall _ (List.getElem_mem hia)
  refine Tri.seq ?_
  refine Tri.block ?_
  refine Tri.seq ?_
  refine Tri.region ti_ok ?_
  conv => whnf
  refine ⟨fun _ => by simp [strs]; omega,?_⟩
  conv => whnf
  refine ⟨.str L[i],fun _ => by simp [strs,hia],?_⟩
  conv => whnf
  refine Tri.seq ?_
  refine Tri.region ti_ok ?_
  conv => whnf
  refine ⟨rfl,?_⟩
  conv => whnf
  refine ⟨[encTop n,.str L[i]],_,fun _ => G66 hL L[i] hpl n hn hv,⟨.refl _,.refl _,trivial⟩,?_⟩
  conv => whnf
  intro b6
  conv => whnf
  refine ⟨rfl,?_⟩
  conv => whnf
  refine Tri.seq ?_
  refine Tri.region ti_ok ?_
  conv => whnf
  refine ⟨fun h => h,?_⟩
  conv => whnf
  refine ⟨fun h0 h => by first | exact h | (rw [h]; rfl) | (rw [h0,h]; rfl),?_⟩
  conv => whnf
  refine ⟨fun h => h,?_⟩
  conv => whnf
  refine ⟨rfl,?_⟩
  conv => whnf
  refine ⟨fun h => h,?_⟩
  conv => whnf
  refine ⟨fun h => h,?_⟩
  conv => whnf
  refine ⟨fun h => h,?_⟩
  conv => whnf
  refine ⟨rfl,?_⟩
  conv => whnf
  refine ⟨fun h => h,?_⟩
  conv => whnf
  refine ⟨fun h => h,?_⟩
  conv => whnf
  refine ⟨fun h => h,?_⟩
  conv => whnf
  refine ⟨fun h0 h => by first | exact h | (rw [h]; rfl) | (rw [h0,h]; rfl),?_⟩
  conv => whnf
  refine ⟨fun h0 h => by first | exact h | (rw [h]; rfl) | (rw [h0,h]; rfl),?_⟩
  conv => whnf
  refine Tri.cond (isItem n L[i]) (congrArg D.bool (isItem_eq n L[i])) (fun hc => ?_) (fun hc => ?_)
  ·have hll : (itemsF n (L.take i)).length ≤ L.length:=by have:=List.length_filter_le (isItem n) (L.take i); rw [itemsF]; simp only [List.length_take] at this; omega
   have he : strs (itemsF n (L.take i)) ++ [D.str L[i]] = strs (itemsF n (L.take (i + 1))):=by rw [itemsF_next hia,if_pos hc]; simp [strs]
   refine Tri.region ti_ok ?_
   conv => whnf
   refine ⟨trivial,?_⟩
   conv => whnf
   refine ⟨rfl,rfl,?_⟩
   conv => whnf
   refine ⟨by show (_ + 1) * 16 ≤ _; simp [strs]; omega,by show _ + 1 ≤ _; simp [strs]; omega,(fun h => by cases h),fun v => ?_⟩
   conv => whnf
   refine Tri.region ti_ok ?_
   conv => whnf
   refine .inl ⟨fun _ => by simp [InR]; omega,?_⟩
   conv => whnf
   exact ⟨(⟨i + 1,by omega⟩,v),[(1,1),(1000,41)],by show L.length - (i + 1) < L.length - i; omega,⟨.refl _,DLe.ownEq he,.refl _,.refl _,.refl _,trivial⟩,rfl,rfl,rfl,rfl,ownH (by rw [← he,List.length_append]; rfl),trivial⟩
  ·refine Tri.skip ?_
   conv => whnf
   refine Tri.region ti_ok ?_
   conv => whnf
   refine .inl ⟨fun _ => by simp [InR]; omega,?_⟩
   conv => whnf
   have he : strs (itemsF n (L.take i)) = strs (itemsF n (L.take (i + 1))):=by rw [itemsF_next hia,if_neg (by rw [hc]; simp),List.append_nil]
   exact ⟨(⟨i + 1,by omega⟩,w),[(1,1),(1000,1000)],by show L.length - (i + 1) < L.length - i; omega,⟨.refl _,DLe.of_eq (congrArg (D.sl _ 1) he),.refl _,.refl _,.refl _,trivial⟩,rfl,rfl,rfl,rfl,ownH (by rw [he]),trivial⟩
 ·refine Tri.exit ?_
  conv => whnf
  refine Tri.seq ?_
  refine Tri.region ti_ok ?_
  conv => whnf
  refine Tri.ret ?_
  conv => whnf
  have hil : i = L.length:=by simp [strs] at hc; omega
  have he : itemsF n (L.take i) = itemsV n:=by
   rw [hil,List.take_length,← hL0,itemsV]
   split <;> rfl
  rw [he]
  exact DLe.unown
theorem itemsV_len {n : NV} (hn : Fits n) : (itemsV n).length < 1000000000:=by
 unfold itemsV
 split
 ·have h1:=List.length_filter_le (isItem n) (pathsS n [] 1)
  rw [pathsS_len] at h1
  have h2:=cnt_sz n
  unfold Fits at hn
  rw [itemsF]; omega
 ·simp
end Go.Tame.V
/- Contracts: the options of the discs of a set; the law DiscsetNumbers. By program (mk.py). -/
namespace Go.Tame.V
open Go Go.Proofs
variable {W0 : World}
set_option maxRecDepth 10000
set_option linter.unusedVariables false
set_option linter.unusedSimpArgs false

theorem off (f : Nat → Bool) (k : Nat) (h : f k = false) : ∃ g : Nat → Bool,f = fun j => _root_.cond (Nat.beq j k) false (g j) :=
 ⟨f,funext fun j => by cases hb : Nat.beq j k with | false => rfl | true => rw [beq_true hb]; exact h⟩
end Go.Tame.V
/- Contracts: the law DiscsetNumbers,given its example. By program (mk.py). -/
namespace Go.Tame.V
open Go Go.Proofs
variable {W0 : World}
set_option maxRecDepth 10000
set_option linter.unusedVariables false
set_option linter.unusedSimpArgs false

end Go.Tame.V
/- The readings of this seat's arguments,as data by value; what is laid. -/
namespace Go.Tame.V
open Go Go.Proofs Go.RowKit Go.ChangeShapes Go.Deep Go.WideShapes Go.ChangeAt
open YtgaeiadnclmadaaGreatDoor (Rows.uptoBulk Rows.uptoBulkAll)
set_option maxRecDepth 100000
variable {H : Type} {enc0 : TypeId × Value → H} {W : World}

abbrev bulk (d : DataW H) : Nat:=YtgaeiadnclmadaaGreatDoor.Rows.uptoBulk d
abbrev bulkA (d : List (DataW H)) : Nat:=YtgaeiadnclmadaaGreatDoor.Rows.uptoBulkAll d

theorem sum_good {α : Type} {m : α → Nat} {c : Nat} : ∀ {l : List α} {ds : List (DataW H)},ds.length = l.length → (∀ (i : Nat) a y,l[i]? = some a → ds[i]? = some y → m a ≤ c * bulk y) → (l.map m).sum ≤ c * bulkA ds
 | [],[],_,_ => by simp
 | a::l,y::ds,hl,h => by
  have h1:=h 0 a y rfl rfl
  have h2:=sum_good (l:=l) (ds:=ds) (by simpa using hl) fun i a y h3 h4 => h (i + 1) a y (by simpa using h3) (by simpa using h4)
  have h3 : c * bulkA (y::ds) = c * bulk y + c * bulkA ds:=by simp only [bulkA,bulk,YtgaeiadnclmadaaGreatDoor.Rows.uptoBulkAll,Nat.mul_add]
  rw [h3,List.map_cons,List.sum_cons]
  omega
theorem sum_goodS {α : Type} {m : α → Nat} {c : Nat} {l : List α} {d : DataW H} (h : goodS (fun a y => m a ≤ c * bulk y) l d) : (l.map m).sum ≤ c * bulk d:=by
 rcases h with ⟨rfl,rfl⟩ | ⟨ds,sp,rfl,hl,hg⟩
 ·simp
 ·have:=sum_good hl hg
  have h3 : c * bulk (.slice ds sp) = c * bulkA ds + c * bulkA sp + c * 1:=by simp only [bulkA,bulk,YtgaeiadnclmadaaGreatDoor.Rows.uptoBulk,Nat.mul_add]
  rw [h3]
  omega
theorem szS_sum : ∀ l : List SV,szS l = (l.map fun s => 2 + s.name.length + s.target.length).sum
 | [] => rfl
 | s::r => by simp only [szS,List.map_cons,List.sum_cons,szS_sum r]
theorem szL_sum : ∀ l : List NV,szL l = (l.map fun n => 2 * n.name.length + 2 + sz n).sum
 | [] => by simp [szL]
 | s::r => by simp only [szL,List.map_cons,List.sum_cons,szL_sum r]

theorem rd_stream (n : Nat) : Rd enc0 Tryz.prog W n 71 encS (fun s d => 2 + s.name.length + s.target.length ≤ 1 * bulk d):=by
 intro cs x h
 obtain ⟨xs,m,rfl,hx,hcl,hxl,hf⟩:=trod_fields Tryz.underlying71 (by kernel_rfl) (by kernel_rfl) h
 match cs,hcl,xs,hxl with
 | [c0,c1],_,[y0,y1],_ =>
  obtain ⟨s0,r0,e0,_⟩:=Rd.str (enc:=enc0) (W:=W) (n:=m) Tryz.underlying9 [c0] y0 (hf 0 _ c0 y0 rfl rfl rfl)
  obtain ⟨s1,r1,e1,_⟩:=Rd.str (enc:=enc0) (W:=W) (n:=m) Tryz.underlying9 [c1] y1 (hf 1 _ c1 y1 rfl rfl rfl)
  refine ⟨⟨s0,s1⟩,.cons r0.head (.cons r1.head (.nil _ _)),?_⟩
  rw [hx]
  simp only [List.map_cons,List.map_nil,e0,e1,bulk,YtgaeiadnclmadaaGreatDoor.Rows.uptoBulk,YtgaeiadnclmadaaGreatDoor.Rows.uptoBulkAll]
  omega

theorem rd_node : ∀ (N n : Nat),n < N → Rd enc0 Tryz.prog W n 25 enc (fun s d => 2 * s.name.length + 2 + sz s ≤ 2 * bulk d)
 | 0,n,hn => absurd hn (Nat.not_lt_zero _)
 | N + 1,n,hn => by
  intro cs x h
  obtain ⟨xs,m,rfl,hx,hcl,hxl,hf⟩:=trod_fields Tryz.underlying25 (by kernel_rfl) (by kernel_rfl) h
  match cs,hcl,xs,hxl with
  | [c0,c1,c2,c3,c4,c5,c6,c7,c8,c9,c10,c11],_,[y0,y1,y2,y3,y4,y5,y6,y7,y8,y9,y10,y11],_ =>
   obtain ⟨s0,r0,e0,_⟩:=Rd.str (enc:=enc0) (W:=W) (n:=m) Tryz.underlying9 [c0] y0 (hf 0 _ c0 y0 rfl rfl rfl)
   obtain ⟨s1,r1,e1,_⟩:=Rd.int (enc:=enc0) (W:=W) (n:=m) Tryz.underlying3 [c1] y1 (hf 1 _ c1 y1 rfl rfl rfl)
   obtain ⟨s2,r2,e2,_⟩:=Rd.str (enc:=enc0) (W:=W) (n:=m) Tryz.underlying9 [c2] y2 (hf 2 _ c2 y2 rfl rfl rfl)
   obtain ⟨s3,r3,e3,_⟩:=Rd.str (enc:=enc0) (W:=W) (n:=m) Tryz.underlying9 [c3] y3 (hf 3 _ c3 y3 rfl rfl rfl)
   obtain ⟨s4,r4,e4,_⟩:=Rd.int (enc:=enc0) (W:=W) (n:=m) Tryz.underlying3 [c4] y4 (hf 4 _ c4 y4 rfl rfl rfl)
   obtain ⟨s5,r5,e5,_⟩:=Rd.int (enc:=enc0) (W:=W) (n:=m) Tryz.underlying3 [c5] y5 (hf 5 _ c5 y5 rfl rfl rfl)
   obtain ⟨s6,r6,e6,_⟩:=Rd.int (enc:=enc0) (W:=W) (n:=m) Tryz.underlying3 [c6] y6 (hf 6 _ c6 y6 rfl rfl rfl)
   obtain ⟨s7,r7,e7,_⟩:=Rd.int (enc:=enc0) (W:=W) (n:=m) Tryz.underlying3 [c7] y7 (hf 7 _ c7 y7 rfl rfl rfl)
   obtain ⟨s8,r8,e8,_⟩:=Rd.int (enc:=enc0) (W:=W) (n:=m) Tryz.underlying3 [c8] y8 (hf 8 _ c8 y8 rfl rfl rfl)
   obtain ⟨s9,r9,e9,_⟩:=Rd.int (enc:=enc0) (W:=W) (n:=m) Tryz.underlying3 [c9] y9 (hf 9 _ c9 y9 rfl rfl rfl)
   obtain ⟨ks,r10,e10⟩:=Rd.slice (enc:=enc0) (W:=W) (fuel:=m) Tryz.underlying22 (k:=12) (f:=enc) (by kernel_rfl) (by omega) (fun a => by rw [enc_eq]; exact ⟨rfl,rfl⟩) (fun m' hm' => rd_node N m' (by omega)) [c10] y10 (hf 10 _ c10 y10 rfl rfl rfl)
   obtain ⟨ss,r11,e11⟩:=Rd.slice (enc:=enc0) (W:=W) (fuel:=m) Tryz.underlying23 (k:=2) (f:=encS) (by kernel_rfl) (by omega) (fun a => ⟨rfl,rfl⟩) (fun m' _ => rd_stream m') [c11] y11 (hf 11 _ c11 y11 rfl rfl rfl)
   refine ⟨⟨s0,s1,s2,s3,s4,s5,s6,s7,s8,s9,ks,ss⟩,?_,?_⟩
   ·rw [enc_eq]
    exact .cons r0.head (.cons r1.head (.cons r2.head (.cons r3.head (.cons r4.head (.cons r5.head (.cons r6.head (.cons r7.head (.cons r8.head (.cons r9.head (.cons r10.head (.cons r11.head (.nil _ _))))))))))))
   ·have h10:=sum_goodS e10
    have h11:=sum_goodS e11
    rw [← szL_sum] at h10
    rw [← szS_sum] at h11
    rw [hx]
    dsimp only
    rw [sz_eq]
    simp only [List.map_cons,List.map_nil,e0,e1,e2,e3,e4,e5,e6,e7,e8,e9,bulk,YtgaeiadnclmadaaGreatDoor.Rows.uptoBulk,YtgaeiadnclmadaaGreatDoor.Rows.uptoBulkAll] at h10 h11 ⊢
    omega

/-- A node that came in. -/
theorem open_node {v : Value} {d : DataW H} {p : List MemPlace} {base : Nat} (hv : Value.okWide Tryz.prog W .any base 25 v) (h : DataW.Trod enc0 Tryz.prog W 0 (fun _ => true) true 25 v d p) :
  ∃ n : NV,Rep W (allC W) (encTop n) v ∧ 2 * n.name.length + 2 + sz n ≤ 2 * bulk d:=by
 obtain ⟨fuel,hf⟩:=h
 obtain ⟨cs,rfl,_⟩:=okWide_struct Tryz.underlying25 hv
 obtain ⟨n,hr,hg⟩:=rd_node (enc0:=enc0) (W:=W) _ fuel (Nat.lt_succ_self _) _ _ hf
 rw [enc_eq] at hr
 obtain ⟨l⟩:=cs
 exact ⟨n,.agg _ _ hr.1 hr.2,hg⟩

theorem callsTrue {f : Nat} {ds : List D} {args : Array Value} (h : DFun Tryz.prog W f ds (.bool true)) (hr : RepL W (allC W) ds args.toList) :
  Calls Tryz.prog f args W fun e w' => e = .returned (.bool true) ∧ Below W.heap.size W w':=by
 obtain ⟨l⟩:=args
 refine (h.2 W (allC W) l (Below.refl _ _) hr).mono ?_
 rintro e w' ⟨v,C',rfl,hv,hs⟩
 rw [hv.bool_inv]
 exact ⟨rfl,Base.step (Below.refl _ _) hs fun _ h => h.elim⟩

theorem laidOut : laidOutB Tryz.prog = true:=by kernel_rfl
theorem stays_all {W' : World} (hb : Below W.heap.size W W') {sp : Nat → Bool} : ∀ {ts : List TypeId} {vs : List Value} {ds : List (DataW H)} {ps : List MemPlace},
  (∀ t ∈ ts,Tryz.prog.readableRec t = true ∧ t < Tryz.prog.types.size) → DataW.TrodAll enc0 Tryz.prog W 0 (fun _ => true) true ts vs ds ps → (∀ x ∈ ps,x.block < W.heap.size) → (∀ x ∈ ps,sp x.block = true) →
  DataW.TrodAll enc0 Tryz.prog W' 0 sp true ts vs ds ps
 | [],[],[],_,_,h,_,_ => h
 | t::ts,v::vs,d::ds,_,ht,⟨p,q,h1,h2,e⟩,hlt,hsp => by
  subst e
  exact ⟨p,q,stays laidOut (ht t List.mem_cons_self).1 (ht t List.mem_cons_self).2 h1 hb (fun x hx => hlt x (by simp [hx])) sp (fun x hx => hsp x (by simp [hx])),
   stays_all hb (fun t h => ht t (List.mem_cons_of_mem _ h)) h2 (fun x hx => hlt x (by simp [hx])) (fun x hx => hsp x (by simp [hx])),rfl⟩

def laidList : List (String × DataW Unit):=YtgaeiadnclmadaaGreatDoor.Rows.discsetNumbersRow.laid
theorem libOk (hL : laidMetH Tryz.prog laidList W) (hsh : W.ShapedOpen Tryz.prog) : LibOk W:=by
 have hL' : laidMet Tryz.prog laidList W:=hL
 refine ⟨utf8Tabs_of_reads (ρ:=Tryz.lays260_ren) Tryz.lays260 ⟨by kernel_rfl,by kernel_rfl,by kernel_rfl,by kernel_rfl,by kernel_rfl,by kernel_rfl,by kernel_rfl⟩
  (Lib.laidMet.reads hL' (.tail _ (.tail _ (.tail _ (.tail _ (.head _)))))) (Lib.laidMet.reads hL' (.tail _ (.tail _ (.tail _ (.head _))))),?_,?_⟩
 ·obtain ⟨h1,_⟩:=hsh
  obtain ⟨cs,hcs,hsz,hrow⟩:=h1 0 #[.int .i64 0] 3 (by decide +kernel) (by kernel_rfl)
  obtain ⟨ts,hts,_,hcell⟩:=hrow (by kernel_rfl)
  have hts' : ts = [3]:=by
   have : Tryz.prog.cellTypes Tryz.prog.depth 3 = some [3]:=by kernel_rfl
   exact Option.some.inj (hts.symm.trans this)
  subst hts'
  have h0 : cs[0]? = some (cs[0]'(by rw [hsz]; decide)):=Array.getElem?_eq_getElem _
  obtain ⟨u,hu,hok⟩:=hcell 0 _ h0
  have hu' : u = 3:=by simpa using hu.symm
  subst hu'
  have hc : W.cell? ⟨0,0,none⟩ = some (cs[0]'(by rw [hsz]; decide)):=by
   simp only [World.cell?,hcs]
   simpa using h0
  generalize cs[0]'(by rw [hsz]; decide) = v at hok hc
  unfold Cell.ok at hok
  rw [Tryz.underlying3] at hok
  cases v with
  | int k n => obtain ⟨rfl,_⟩:=hok; exact ⟨n,hc⟩
  | _ => exact hok.elim
 ·exact Lib.tabIs_of_head (rest:=_) (g:=3) (t:=427) (e:=379) (n:=20) (by kernel_rfl) (by kernel_rfl) (by kernel_rfl) (by kernel_rfl) (by kernel_rfl) (by kernel_rfl) hL'.tail.tail
/-! ### options of a disc -/
structure VolV where
 name : List UInt8
 set : List UInt8
 pub : List UInt8
 prep : List UInt8
 app : List UInt8
 num : Int
 discs : Int
 time : Int
def encVol (v : VolV) : D:=.agg [.str v.name,.str v.set,.str v.pub,.str v.prep,.str v.app,.int .i64 v.num,.int .i64 v.discs,.int .i64 v.time]
theorem rd_be (n : Nat) : Rd enc0 Tryz.prog W n 54 encB (fun _ d => 1 ≤ 1 * bulk d):=by
 intro cs x h
 obtain ⟨xs,m,rfl,hx,hcl,hxl,hf⟩:=trod_fields Tryz.underlying54 (by kernel_rfl) (by kernel_rfl) h
 match cs,hcl,xs,hxl with
 | [c0,c1,c2,c3,c4,c5],_,[y0,y1,y2,y3,y4,y5],_ =>
  obtain ⟨s0,r0,_⟩:=Rd.str (enc:=enc0) (W:=W) (n:=m) Tryz.underlying9 [c0] y0 (hf 0 _ c0 y0 rfl rfl rfl)
  obtain ⟨s1,r1,_⟩:=Rd.int (enc:=enc0) (W:=W) (n:=m) Tryz.underlying3 [c1] y1 (hf 1 _ c1 y1 rfl rfl rfl)
  obtain ⟨s2,r2,_⟩:=Rd.int (enc:=enc0) (W:=W) (n:=m) Tryz.underlying3 [c2] y2 (hf 2 _ c2 y2 rfl rfl rfl)
  obtain ⟨s3,r3,_⟩:=Rd.int (enc:=enc0) (W:=W) (n:=m) Tryz.underlying3 [c3] y3 (hf 3 _ c3 y3 rfl rfl rfl)
  obtain ⟨s4,r4,_⟩:=Rd.int (enc:=enc0) (W:=W) (n:=m) Tryz.underlying3 [c4] y4 (hf 4 _ c4 y4 rfl rfl rfl)
  obtain ⟨s5,r5,_⟩:=Rd.bool (enc:=enc0) (W:=W) (n:=m) Tryz.underlying4 [c5] y5 (hf 5 _ c5 y5 rfl rfl rfl)
  refine ⟨⟨s0,s1,s2,s3,s4,s5⟩,.cons r0.head (.cons r1.head (.cons r2.head (.cons r3.head (.cons r4.head (.cons r5.head (.nil _ _)))))),?_⟩
  rw [hx]
  simp only [bulk,YtgaeiadnclmadaaGreatDoor.Rows.uptoBulk]
  omega
theorem rd_vol (n : Nat) : Rd enc0 Tryz.prog W n 28 encVol (fun v d => v.name.length + v.set.length + v.pub.length + v.prep.length + v.app.length ≤ bulk d):=by
 intro cs x h
 obtain ⟨xs,m,rfl,hx,hcl,hxl,hf⟩:=trod_fields Tryz.underlying28 (by kernel_rfl) (by kernel_rfl) h
 match cs,hcl,xs,hxl with
 | [c0,c1,c2,c3,c4,c5,c6,c7],_,[y0,y1,y2,y3,y4,y5,y6,y7],_ =>
  obtain ⟨s0,r0,e0,_⟩:=Rd.str (enc:=enc0) (W:=W) (n:=m) Tryz.underlying9 [c0] y0 (hf 0 _ c0 y0 rfl rfl rfl)
  obtain ⟨s1,r1,e1,_⟩:=Rd.str (enc:=enc0) (W:=W) (n:=m) Tryz.underlying9 [c1] y1 (hf 1 _ c1 y1 rfl rfl rfl)
  obtain ⟨s2,r2,e2,_⟩:=Rd.str (enc:=enc0) (W:=W) (n:=m) Tryz.underlying9 [c2] y2 (hf 2 _ c2 y2 rfl rfl rfl)
  obtain ⟨s3,r3,e3,_⟩:=Rd.str (enc:=enc0) (W:=W) (n:=m) Tryz.underlying9 [c3] y3 (hf 3 _ c3 y3 rfl rfl rfl)
  obtain ⟨s4,r4,e4,_⟩:=Rd.str (enc:=enc0) (W:=W) (n:=m) Tryz.underlying9 [c4] y4 (hf 4 _ c4 y4 rfl rfl rfl)
  obtain ⟨s5,r5,e5,_⟩:=Rd.int (enc:=enc0) (W:=W) (n:=m) Tryz.underlying3 [c5] y5 (hf 5 _ c5 y5 rfl rfl rfl)
  obtain ⟨s6,r6,e6,_⟩:=Rd.int (enc:=enc0) (W:=W) (n:=m) Tryz.underlying3 [c6] y6 (hf 6 _ c6 y6 rfl rfl rfl)
  obtain ⟨s7,r7,e7,_⟩:=Rd.int (enc:=enc0) (W:=W) (n:=m) Tryz.underlying3 [c7] y7 (hf 7 _ c7 y7 rfl rfl rfl)
  refine ⟨⟨s0,s1,s2,s3,s4,s5,s6,s7⟩,.cons r0.head (.cons r1.head (.cons r2.head (.cons r3.head (.cons r4.head (.cons r5.head (.cons r6.head (.cons r7.head (.nil _ _)))))))),?_⟩
  rw [hx]
  simp only [List.map_cons,List.map_nil,e0,e1,e2,e3,e4,e5,e6,e7,bulk,YtgaeiadnclmadaaGreatDoor.Rows.uptoBulk,YtgaeiadnclmadaaGreatDoor.Rows.uptoBulkAll]
  omega
theorem rd_master (n : Nat) : Rd enc0 Tryz.prog W n 31 encM (fun m d => m.name.length + m.set.length + m.pub.length + m.prep.length + m.app.length ≤ bulk d ∧ m.boot.length ≤ bulk d):=by
 intro cs x h
 obtain ⟨xs,m,rfl,rfl,hl,hxl,hf⟩:=DataW.trod_struct Tryz.underlying31 h
 have hC : Tryz.prog.cellsOf 31 = 13:=by kernel_rfl
 have g28 : Tryz.prog.cellsOf 28 = 8:=by kernel_rfl
 have g3 : Tryz.prog.cellsOf 3 = 1:=by kernel_rfl
 have g29 : Tryz.prog.cellsOf 29 = 1:=by kernel_rfl
 have g4 : Tryz.prog.cellsOf 4 = 1:=by kernel_rfl
 match cs,hl.trans hC,xs,hxl with
 | [c0,c1,c2,c3,c4,c5,c6,c7,c8,c9,c10,c11,c12],_,[y0,y1,y2,y3,y4,y5],_ =>
  have h0 : DataW.trod enc0 Tryz.prog W 0 (fun _ => true) true m 28 (List.take (Tryz.prog.cellsOf 28) (List.drop 0 [c0,c1,c2,c3,c4,c5,c6,c7,c8,c9,c10,c11,c12])) = some y0:=hf 0 _ rfl
  have h1 : DataW.trod enc0 Tryz.prog W 0 (fun _ => true) true m 3 (List.take (Tryz.prog.cellsOf 3) (List.drop 8 [c0,c1,c2,c3,c4,c5,c6,c7,c8,c9,c10,c11,c12])) = some y1:=hf 1 _ rfl
  have h2 : DataW.trod enc0 Tryz.prog W 0 (fun _ => true) true m 3 (List.take (Tryz.prog.cellsOf 3) (List.drop 9 [c0,c1,c2,c3,c4,c5,c6,c7,c8,c9,c10,c11,c12])) = some y2:=hf 2 _ rfl
  have h3 : DataW.trod enc0 Tryz.prog W 0 (fun _ => true) true m 29 (List.take (Tryz.prog.cellsOf 29) (List.drop 10 [c0,c1,c2,c3,c4,c5,c6,c7,c8,c9,c10,c11,c12])) = some y3:=hf 3 _ rfl
  have h4 : DataW.trod enc0 Tryz.prog W 0 (fun _ => true) true m 3 (List.take (Tryz.prog.cellsOf 3) (List.drop 11 [c0,c1,c2,c3,c4,c5,c6,c7,c8,c9,c10,c11,c12])) = some y4:=hf 4 _ rfl
  have h5 : DataW.trod enc0 Tryz.prog W 0 (fun _ => true) true m 4 (List.take (Tryz.prog.cellsOf 4) (List.drop 12 [c0,c1,c2,c3,c4,c5,c6,c7,c8,c9,c10,c11,c12])) = some y5:=hf 5 _ rfl
  rw [g28] at h0; rw [g3] at h1 h2 h4; rw [g29] at h3; rw [g4] at h5
  obtain ⟨⟨s0,s1,s2,s3,s4,s5,s6,s7⟩,r0,e0⟩:=rd_vol m [c0,c1,c2,c3,c4,c5,c6,c7] y0 h0
  obtain ⟨s8,r1,e1,_⟩:=Rd.int (enc:=enc0) (W:=W) (n:=m) Tryz.underlying3 [c8] y1 h1
  obtain ⟨s9,r2,e2,_⟩:=Rd.int (enc:=enc0) (W:=W) (n:=m) Tryz.underlying3 [c9] y2 h2
  obtain ⟨bs,r3,e3⟩:=Rd.slice (enc:=enc0) (W:=W) (fuel:=m) Tryz.underlying29 (k:=6) (f:=encB) (by kernel_rfl) (by omega) (fun a => ⟨rfl,rfl⟩) (fun m' _ => rd_be m') [c10] y3 h3
  obtain ⟨s11,r4,e4,_⟩:=Rd.int (enc:=enc0) (W:=W) (n:=m) Tryz.underlying3 [c11] y4 h4
  obtain ⟨s12,r5,e5⟩:=Rd.bool (enc:=enc0) (W:=W) (n:=m) Tryz.underlying4 [c12] y5 h5
  refine ⟨⟨s0,s1,s2,s3,s4,s5,s6,s7,s8,s9,bs,s11,s12⟩,RepL.append r0 (.cons r1.head (.cons r2.head (.cons r3.head (.cons r4.head (.cons r5.head (.nil _ _)))))),?_⟩
  have hb:=sum_goodS (m:=fun _ => 1) e3
  simp only [List.map_const',List.sum_replicate_nat,Nat.mul_one,Nat.one_mul] at hb
  simp only [List.map_cons,List.map_nil,bulk,YtgaeiadnclmadaaGreatDoor.Rows.uptoBulk,YtgaeiadnclmadaaGreatDoor.Rows.uptoBulkAll] at e0 hb ⊢
  constructor <;> omega
/-- Options that came in. -/
theorem open_master {v : Value} {d : DataW H} {p : List MemPlace} {base : Nat} (hv : Value.okWide Tryz.prog W .any base 31 v) (h : DataW.Trod enc0 Tryz.prog W 0 (fun _ => true) true 31 v d p) :
  ∃ m : MV,Rep W (allC W) (encM m) v ∧ m.name.length + m.set.length + m.pub.length + m.prep.length + m.app.length ≤ bulk d ∧ m.boot.length ≤ bulk d:=by
 obtain ⟨fuel,hf⟩:=h
 obtain ⟨cs,rfl,_⟩:=okWide_struct Tryz.underlying31 hv
 obtain ⟨m,hr,hg⟩:=rd_master (enc0:=enc0) (W:=W) fuel _ _ hf
 obtain ⟨l⟩:=cs
 exact ⟨m,.agg _ _ hr.1 hr.2,hg⟩

theorem own : ownKnob Tryz.prog.godebug = none:=by kernel_rfl

/-- A world that holds what is laid. -/
noncomputable def laidWorld (os : Os) : World :=
 let w0:=World.holding Tryz.prog os ⟨#[],#[],[]⟩
 let put (h : Array Obj) (g : Nat) (cs : Array Value) : Array Obj:=h.modify g fun
  | .cells _ t frozen => .cells cs t frozen
  | o => o
 let h1:=put w0.heap 1 (Lib.firstTab.map fun z => Value.int .u8 z).toArray
 let h2:=put h1 2 ((List.range 16).flatMap fun i => [Value.int .u8 (Lib.accLo i),Value.int .u8 (Lib.accHi i)]).toArray
 let h3:=put h2 3 (Lib.pow10Tab.map fun z => Value.int .u64 z).toArray
 let h4:=put h3 4 ([0,1,28,2,29,14,24,3,30,22,20,15,25,17,4,8,31,27,13,23,21,19,16,7,26,12,18,6,11,5,10,9].map fun z => Value.int .u8 z).toArray
 let h5:=put h4 5 ([0,1,56,2,57,49,28,3,61,58,42,50,38,29,17,4,62,47,59,36,45,43,51,22,53,39,33,30,24,18,12,5,63,55,48,27,60,41,37,16,46,35,44,21,52,32,23,11,54,26,40,15,34,20,31,10,25,14,19,9,13,8,7,6].map fun z => Value.int .u8 z).toArray
 { w0 with heap:=h5 }
theorem laid_met (os : Os) (args : Array Value) : laidMet Tryz.prog laidList ((laidWorld os).forCall (fun _ _ => 0) ⟨#[],args,[]⟩).memory :=
 laidMet_of_run' 8 (by kernel_rfl) (by kernel_rfl)
end Go.Tame.V
/- Readings of further arguments: lists of texts. -/
namespace Go.Tame.V
open Go Go.Proofs Go.RowKit Go.ChangeShapes Go.Deep Go.WideShapes Go.ChangeAt
open YtgaeiadnclmadaaGreatDoor (Rows.uptoBulk Rows.uptoBulkAll)
set_option maxRecDepth 100000
variable {H : Type} {enc0 : TypeId × Value → H} {W : World}
theorem rd_txt (n : Nat) : Rd enc0 Tryz.prog W n 9 (fun s : List UInt8 => .str s) (fun _ d => 1 ≤ 1 * bulk d):=by
 intro cs x h
 obtain ⟨s,hr,e,_⟩:=Rd.str (enc:=enc0) (W:=W) (n:=n) Tryz.underlying9 cs x h
 refine ⟨s,hr,?_⟩
 rw [e]
 simp only [bulk,YtgaeiadnclmadaaGreatDoor.Rows.uptoBulk]
 omega
/-- Texts that came in. -/
theorem open_strs {v : Value} {d : DataW H} {p : List MemPlace} {base : Nat} (hv : Value.okWide Tryz.prog W .any base 26 v) (h : DataW.Trod enc0 Tryz.prog W 0 (fun _ => true) true 26 v d p) :
  ∃ l : List (List UInt8),Rep W (allC W) (.sl .none 1 (strs l)) v ∧ l.length ≤ bulk d:=by
 obtain ⟨fuel,hf⟩:=h
 obtain ⟨a,l,c,rfl⟩:=okWide_slice Tryz.underlying26 hv
 obtain ⟨l,hr,hg⟩:=Rd.slice (enc:=enc0) (W:=W) (fuel:=fuel) Tryz.underlying26 (k:=1) (f:=fun s : List UInt8 => D.str s) (by kernel_rfl) (by omega) (fun a => ⟨rfl,rfl⟩) (fun m _ => rd_txt m) _ _ hf
 have h1:=sum_goodS (m:=fun _ => 1) hg
 simp only [List.map_const',List.sum_replicate_nat,Nat.mul_one,Nat.one_mul] at h1
 exact ⟨l,hr.head,h1⟩
end Go.Tame.V
/- For the seat r4: the library's contracts,for computing. -/
namespace Go.Tame.V
open Go Go.Proofs Go.Ev
variable {W0 : World}
set_option linter.unusedVariables false
set_option maxRecDepth 20000
theorem q172 (s p : List UInt8) (hs : s.length ≤ 9223372036854775807) : DFun Tryz.prog W0 351 [.str s,.str p] (.str (Lib.trimSuffix s p)) :=
 .pure (callable Tryz.func351 rfl (by decide +kernel)) rfl rfl fun w _ => Tryz.strings_TrimSuffix ⟨⟨s⟩⟩ ⟨⟨p⟩⟩ w hs
theorem q143 (i : Nat) (hi : i < 100) : DFun Tryz.prog W0 230 [.int .i64 (i : Nat)] (.str (Lib.decDigits i)) :=
 .pure (callable Tryz.func230 rfl (by decide +kernel)) rfl rfl fun w _ => Tryz.strconv_Itoa_small i hi w
noncomputable def qCmp : List D → Option D
 | [.str s,.str p] => some (.int .i64 (Lib.compareBytes s p))
 | _ => none
noncomputable def qContains : List D → Option D
 | [.str s,.str [c]] => some (.bool (decide (0 ≤ Lib.indexByte s c)))
 | _ => none
noncomputable def qTrimPrefix : List D → Option D
 | [.str s,.str p] => some (.str (Lib.trimPrefix s p))
 | _ => none
noncomputable def qTrimSuffix : List D → Option D
 | [.str s,.str p] => match Nat.ble s.length 100000 with | true => some (.str (Lib.trimSuffix s p)) | false => none
 | _ => none
noncomputable def qCount : List D → Option D
 | [.str s,.str [c]] => some (.int .i64 ((Lib.countByte s c : Nat) : Int))
 | _ => none
noncomputable def qItoa : List D → Option D
 | [.int .i64 (.ofNat i)] => match Nat.blt i 100 with | true => some (.str (Lib.decDigits i)) | false => none
 | _ => none
noncomputable def qIndexB : List D → Option D
 | [.str s,.int .u8 c] => some (.int .i64 (Lib.indexByte s c.toNat.toUInt8))
 | _ => none
noncomputable def qIndex : List D → Option D
 | [.str s,.str p] => match Nat.blt s.length 100000 with | true => some (.int .i64 (Lib.index s p)) | false => none
 | _ => none
theorem qCmp_ok : ∀ ds d,qCmp ds = some d → DFun Tryz.prog W0 73 ds d:=by
 intro ds d h
 unfold qCmp at h
 split at h
 ·cases h; exact F110 _ _
 ·cases h
theorem qContains_ok : ∀ ds d,qContains ds = some d → DFun Tryz.prog W0 121 ds d:=by
 intro ds d h
 unfold qContains at h
 split at h
 ·cases h; exact F119 _ _
 ·cases h
theorem qTrimPrefix_ok : ∀ ds d,qTrimPrefix ds = some d → DFun Tryz.prog W0 123 ds d:=by
 intro ds d h
 unfold qTrimPrefix at h
 split at h
 ·cases h; exact F122 _ _
 ·cases h
theorem qTrimSuffix_ok : ∀ ds d,qTrimSuffix ds = some d → DFun Tryz.prog W0 351 ds d:=by
 intro ds d h
 unfold qTrimSuffix at h
 split at h
 ·split at h
  ·rename_i hl
   have:=Nat.le_of_ble_eq_true hl
   cases h; exact q172 _ _ (by omega)
  ·cases h
 ·cases h
theorem qCount_ok : ∀ ds d,qCount ds = some d → DFun Tryz.prog W0 138 ds d:=by
 intro ds d h
 unfold qCount at h
 split at h
 ·rename_i s c
  cases h
  exact .pure (callable Tryz.func138 rfl (by decide +kernel)) rfl rfl fun w _ => Tryz.strings_Count_one ⟨⟨s⟩⟩ c w
 ·cases h
theorem qItoa_ok : ∀ ds d,qItoa ds = some d → DFun Tryz.prog W0 230 ds d:=by
 intro ds d h
 unfold qItoa at h
 split at h
 ·split at h
  ·rename_i hl
   cases h; exact q143 _ (Nat.le_of_ble_eq_true hl)
  ·cases h
 ·cases h
theorem qIndexB_ok : ∀ ds d,qIndexB ds = some d → DFun Tryz.prog W0 179 ds d:=by
 intro ds d h
 unfold qIndexB at h
 split at h
 ·rename_i s c
  cases h
  exact .pure (callable Tryz.func179 rfl (by decide +kernel)) rfl rfl fun w _ => Tryz.stringslite_IndexByte ⟨⟨s⟩⟩ c w
 ·cases h
theorem qIndex_ok (hL : LibOk W0) : ∀ ds d,qIndex ds = some d → DFun Tryz.prog W0 162 ds d:=by
 intro ds d h
 unfold qIndex at h
 split at h
 ·rename_i s p
  split at h
  ·rename_i hl
   cases h
   obtain ⟨m,hm⟩:=hL.maxlen
   have hlt:=Nat.le_of_ble_eq_true hl
   exact .pure (callable Tryz.func162 rfl (by decide +kernel)) rfl rfl fun w hb => Tryz.stringslite_Index ⟨⟨s⟩⟩ ⟨⟨p⟩⟩ m w (by show s.length < _; omega) (cell_base hb hm)
  ·cases h
 ·cases h
theorem z390 (w : World) : Sem.run Tryz.prog (zeroValue 390) w = Result.ok (Value.agg (Array.replicate 256 (Value.bool false))) w:=by
 first | rfl | exact (by decide +kernel)
noncomputable def qIndexAny : List D → Option D
 | [.str s,.str c] => match Nat.blt s.length 100000 && (Nat.blt c.length 1000 && (s.all (fun b => Nat.blt b.toNat 128) && c.all (fun b => Nat.blt b.toNat 128))) with | true => some (.int .i64 (Lib.indexAny s c)) | false => none
 | _ => none
theorem qIndexAny_ok : ∀ ds d,qIndexAny ds = some d → DFun Tryz.prog W0 292 ds d:=by
 intro ds d h
 unfold qIndexAny at h
 split at h
 ·rename_i s c
  split at h
  ·rename_i hl
   cases h
   simp only [Bool.and_eq_true,List.all_eq_true] at hl
   obtain ⟨h1,h2,h3,h4⟩:=hl
   have h1:=Nat.le_of_ble_eq_true h1
   have h2:=Nat.le_of_ble_eq_true h2
   exact .lift (callable Tryz.func292 rfl (by decide +kernel)) rfl fun w hb => (Tryz.strings_IndexAny z390 ⟨⟨s⟩⟩ ⟨⟨c⟩⟩ w (by show s.length < _; omega) (by show c.length < _; omega) (fun j b hb => Nat.le_of_ble_eq_true (h3 b (List.mem_of_getElem? hb))) (fun j b hb => Nat.le_of_ble_eq_true (h4 b (List.mem_of_getElem? hb)))).mono fun e w' ⟨he,hw⟩ => ⟨_,he,fun C => .int _ _,hw⟩
  ·cases h
 ·cases h
/-- The table without the calls computed apart. -/
noncomputable def libL : List (Nat × (List AV → Go.Ev.St → Option (AV × Go.Ev.St))):=[(73,puO (oraD qCmp)),(121,puO (oraD qContains)),(123,puO (oraD qTrimPrefix)),(351,puO (oraD qTrimSuffix)),(138,puO (oraD qCount)),(230,puO (oraD qItoa)),(179,puO (oraD qIndexB)),(162,puO (oraD qIndex)),(292,puO (oraD qIndexAny))]
theorem libL_ok (hL : LibOk W0) : ∀ p ∈ libL,OraOk Tryz.prog W0 p.1 p.2:=by
 intro p hp
 simp only [libL,List.mem_cons,List.not_mem_nil,or_false] at hp
 rcases hp with rfl | rfl | rfl | rfl | rfl | rfl | rfl | rfl | rfl
 ·exact (oraD_ok qCmp_ok).ok
 ·exact (oraD_ok qContains_ok).ok
 ·exact (oraD_ok qTrimPrefix_ok).ok
 ·exact (oraD_ok qTrimSuffix_ok).ok
 ·exact (oraD_ok qCount_ok).ok
 ·exact (oraD_ok qItoa_ok).ok
 ·exact (oraD_ok qIndexB_ok).ok
 ·exact (oraD_ok (qIndex_ok hL)).ok
 ·exact (oraD_ok qIndexAny_ok).ok
end Go.Tame.V
/- For the seat r4: calls of Valid,computed. By program (mkaw4.py). -/
namespace Go.Tame.V
open Go Go.Proofs Go.Ev
variable {W0 : World}
set_option maxRecDepth 100000
set_option maxHeartbeats 0
set_option linter.unusedVariables false
noncomputable def v1a : List AV:=[.agg [.str 0 0,.int .i64 (.ofNat 0),.str 0 0,.str 0 0,.int .i64 (.ofNat 0),.int .i64 (.ofNat 0),.int .i64 (.ofNat 0),.int .i64 (.ofNat 315532800),.int .i64 (.ofNat 0),.int .i64 (.ofNat 0),.sl 0 0 3 (.known 3),.sl0]]
noncomputable def v1s : Go.Ev.St:=mkSt [.cells 2 36 (lay 2 [.str 1 97,.int .i64 (.ofNat 1),.str 1 97,.str 0 0,.int .i64 (.ofNat 0),.int .i64 (.ofNat 0),.int .i64 (.ofNat 0),.int .i64 (.ofNat 315532800),.int .i64 (.ofNat 0),.int .i64 (.ofNat 0),.sl0,.sl0,.str 1 100,.int .i64 (.ofNat 0),.str 0 0,.str 0 0,.int .i64 (.ofNat 5),.int .i64 (.ofNat 0),.int .i64 (.ofNat 0),.int .i64 (.ofNat 315532800),.int .i64 (.ofNat 0),.int .i64 (.ofNat 0),.sl 1 0 1 (.known 1),.sl0,.str 1 101,.int .i64 (.ofNat 0),.str 0 0,.str 0 0,.int .i64 (.ofNat 0),.int .i64 (.ofNat 0),.int .i64 (.ofNat 0),.int .i64 (.ofNat 315532800),.int .i64 (.ofNat 0),.int .i64 (.ofNat 0),.sl0,.sl0] 0 .nil) 25 12 false,
 .cells 2 12 (lay 2 [.str 1 98,.int .i64 (.ofNat 1),.str 1 98,.str 0 0,.int .i64 (.ofNat 0),.int .i64 (.ofNat 0),.int .i64 (.ofNat 0),.int .i64 (.ofNat 315532800),.int .i64 (.ofNat 0),.int .i64 (.ofNat 0),.sl0,.sl0] 0 .nil) 25 12 false]
theorem v1_run : runC (tabO libL) Tryz.prog 200 29 v1a v1s (.bool true) = true:=by decide +kernel
theorem v1_ora (hL : LibOk W0) : OraOk Tryz.prog W0 29 (puO (memo v1s v1a (.bool true))):=runC_ok rfl (tabO_ok (libL_ok hL)) v1_run rfl rfl
noncomputable def v2a : List AV:=[.agg [.str 0 0,.int .i64 (.ofNat 0),.str 0 0,.str 0 0,.int .i64 (.ofNat 0),.int .i64 (.ofNat 0),.int .i64 (.ofNat 0),.int .i64 (.ofNat 315532800),.int .i64 (.ofNat 0),.int .i64 (.ofNat 0),.sl0,.sl0]]
noncomputable def v2s : Go.Ev.St:=mkSt []
theorem v2_run : runC (tabO libL) Tryz.prog 200 29 v2a v2s (.bool true) = true:=by decide +kernel
theorem v2_ora (hL : LibOk W0) : OraOk Tryz.prog W0 29 (puO (memo v2s v2a (.bool true))):=runC_ok rfl (tabO_ok (libL_ok hL)) v2_run rfl rfl
noncomputable def v3a : List AV:=[.agg [.str 0 0,.int .i64 (.ofNat 0),.str 0 0,.str 0 0,.int .i64 (.ofNat 0),.int .i64 (.ofNat 0),.int .i64 (.ofNat 0),.int .i64 (.ofNat 315532800),.int .i64 (.ofNat 0),.int .i64 (.ofNat 0),.sl 0 0 1 (.rest 0),.sl0]]
noncomputable def v3s : Go.Ev.St:=mkSt [.cells 2 12 (lay 2 [.str 1 97,.int .i64 (.ofNat 1),.str 1 97,.str 0 0,.int .i64 (.ofNat 0),.int .i64 (.ofNat 0),.int .i64 (.ofNat 0),.int .i64 (.ofNat 315532800),.int .i64 (.ofNat 0),.int .i64 (.ofNat 0),.sl0,.sl0] 0 .nil) 25 12 true]
theorem v3_run : runC (tabO libL) Tryz.prog 200 29 v3a v3s (.bool true) = true:=by decide +kernel
theorem v3_ora (hL : LibOk W0) : OraOk Tryz.prog W0 29 (puO (memo v3s v3a (.bool true))):=runC_ok rfl (tabO_ok (libL_ok hL)) v3_run rfl rfl
noncomputable def v4a : List AV:=[.agg [.str 0 0,.int .i64 (.ofNat 0),.str 0 0,.str 0 0,.int .i64 (.ofNat 0),.int .i64 (.ofNat 0),.int .i64 (.ofNat 0),.int .i64 (.ofNat 315532800),.int .i64 (.ofNat 0),.int .i64 (.ofNat 0),.sl 0 0 3 (.rest 0),.sl0]]
noncomputable def v4s : Go.Ev.St:=mkSt [.cells 2 36 (lay 2 [.str 1 97,.int .i64 (.ofNat 1),.str 1 97,.str 0 0,.int .i64 (.ofNat 0),.int .i64 (.ofNat 0),.int .i64 (.ofNat 0),.int .i64 (.ofNat 315532800),.int .i64 (.ofNat 0),.int .i64 (.ofNat 0),.sl0,.sl0,.str 1 100,.int .i64 (.ofNat 0),.str 0 0,.str 0 0,.int .i64 (.ofNat 5),.int .i64 (.ofNat 0),.int .i64 (.ofNat 0),.int .i64 (.ofNat 315532800),.int .i64 (.ofNat 0),.int .i64 (.ofNat 0),.sl 1 0 1 (.rest 0),.sl0,.str 1 101,.int .i64 (.ofNat 0),.str 0 0,.str 0 0,.int .i64 (.ofNat 0),.int .i64 (.ofNat 0),.int .i64 (.ofNat 0),.int .i64 (.ofNat 315532800),.int .i64 (.ofNat 0),.int .i64 (.ofNat 0),.sl0,.sl0] 0 .nil) 25 12 true,
 .cells 2 12 (lay 2 [.str 1 98,.int .i64 (.ofNat 1),.str 1 98,.str 0 0,.int .i64 (.ofNat 0),.int .i64 (.ofNat 0),.int .i64 (.ofNat 0),.int .i64 (.ofNat 315532800),.int .i64 (.ofNat 0),.int .i64 (.ofNat 0),.sl0,.sl0] 0 .nil) 25 12 true]
theorem v4_run : runC (tabO libL) Tryz.prog 200 29 v4a v4s (.bool true) = true:=by decide +kernel
theorem v4_ora (hL : LibOk W0) : OraOk Tryz.prog W0 29 (puO (memo v4s v4a (.bool true))):=runC_ok rfl (tabO_ok (libL_ok hL)) v4_run rfl rfl
noncomputable def v5a : List AV:=[.agg [.str 0 0,.int .i64 (.ofNat 0),.str 0 0,.str 0 0,.int .i64 (.ofNat 0),.int .i64 (.ofNat 0),.int .i64 (.ofNat 0),.int .i64 (.ofNat 315532800),.int .i64 (.ofNat 0),.int .i64 (.ofNat 0),.sl 0 0 2 (.rest 0),.sl0]]
noncomputable def v5s : Go.Ev.St:=mkSt [.cells 2 24 (lay 2 [.str 1 97,.int .i64 (.ofNat 1),.str 1 97,.str 0 0,.int .i64 (.ofNat 0),.int .i64 (.ofNat 0),.int .i64 (.ofNat 0),.int .i64 (.ofNat 315532800),.int .i64 (.ofNat 0),.int .i64 (.ofNat 0),.sl0,.sl0,.str 1 100,.int .i64 (.ofNat 0),.str 0 0,.str 0 0,.int .i64 (.ofNat 5),.int .i64 (.ofNat 0),.int .i64 (.ofNat 0),.int .i64 (.ofNat 315532800),.int .i64 (.ofNat 0),.int .i64 (.ofNat 0),.sl 1 0 1 (.rest 0),.sl0] 0 .nil) 25 12 true,
 .cells 2 12 (lay 2 [.str 1 98,.int .i64 (.ofNat 1),.str 1 98,.str 0 0,.int .i64 (.ofNat 0),.int .i64 (.ofNat 0),.int .i64 (.ofNat 0),.int .i64 (.ofNat 315532800),.int .i64 (.ofNat 0),.int .i64 (.ofNat 0),.sl0,.sl0] 0 .nil) 25 12 true]
theorem v5_run : runC (tabO libL) Tryz.prog 200 29 v5a v5s (.bool true) = true:=by decide +kernel
theorem v5_ora (hL : LibOk W0) : OraOk Tryz.prog W0 29 (puO (memo v5s v5a (.bool true))):=runC_ok rfl (tabO_ok (libL_ok hL)) v5_run rfl rfl
noncomputable def v6a : List AV:=[.agg [.str 0 0,.int .i64 (.ofNat 0),.str 0 0,.str 0 0,.int .i64 (.ofNat 0),.int .i64 (.ofNat 0),.int .i64 (.ofNat 0),.int .i64 (.ofNat 315532800),.int .i64 (.ofNat 0),.int .i64 (.ofNat 0),.sl 0 0 2 (.rest 0),.sl0]]
noncomputable def v6s : Go.Ev.St:=mkSt [.cells 2 24 (lay 2 [.str 1 100,.int .i64 (.ofNat 0),.str 0 0,.str 0 0,.int .i64 (.ofNat 5),.int .i64 (.ofNat 0),.int .i64 (.ofNat 0),.int .i64 (.ofNat 315532800),.int .i64 (.ofNat 0),.int .i64 (.ofNat 0),.sl 1 0 1 (.rest 0),.sl0,.str 1 101,.int .i64 (.ofNat 0),.str 0 0,.str 0 0,.int .i64 (.ofNat 0),.int .i64 (.ofNat 0),.int .i64 (.ofNat 0),.int .i64 (.ofNat 315532800),.int .i64 (.ofNat 0),.int .i64 (.ofNat 0),.sl0,.sl0] 0 .nil) 25 12 true,
 .cells 2 12 (lay 2 [.str 1 98,.int .i64 (.ofNat 1),.str 1 98,.str 0 0,.int .i64 (.ofNat 0),.int .i64 (.ofNat 0),.int .i64 (.ofNat 0),.int .i64 (.ofNat 315532800),.int .i64 (.ofNat 0),.int .i64 (.ofNat 0),.sl0,.sl0] 0 .nil) 25 12 true]
theorem v6_run : runC (tabO libL) Tryz.prog 200 29 v6a v6s (.bool true) = true:=by decide +kernel
theorem v6_ora (hL : LibOk W0) : OraOk Tryz.prog W0 29 (puO (memo v6s v6a (.bool true))):=runC_ok rfl (tabO_ok (libL_ok hL)) v6_run rfl rfl
noncomputable def o29 : List AV → Go.Ev.St → Option (AV × Go.Ev.St):=orO (puO (memo v1s v1a (.bool true))) (orO (puO (memo v2s v2a (.bool true))) (orO (puO (memo v3s v3a (.bool true))) (orO (puO (memo v4s v4a (.bool true))) (orO (puO (memo v5s v5a (.bool true))) (puO (memo v6s v6a (.bool true)))))))
theorem o29_ok (hL : LibOk W0) : OraOk Tryz.prog W0 29 o29:=orO_ok (v1_ora hL) (orO_ok (v2_ora hL) (orO_ok (v3_ora hL) (orO_ok (v4_ora hL) (orO_ok (v5_ora hL) (v6_ora hL)))))
noncomputable def libL2 : List (Nat × (List AV → Go.Ev.St → Option (AV × Go.Ev.St))):=(29,o29)::libL
theorem libL2_ok (hL : LibOk W0) : ∀ p ∈ libL2,OraOk Tryz.prog W0 p.1 p.2:=by
 intro p hp
 rcases List.mem_cons.1 hp with rfl | hp
 ·exact o29_ok hL
 ·exact libL_ok hL p hp
end Go.Tame.V
