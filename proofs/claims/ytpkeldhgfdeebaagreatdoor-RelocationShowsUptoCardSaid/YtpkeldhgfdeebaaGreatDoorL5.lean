/- A program logic of my own over the model, and contracts of this program's functions by it: part 5. No conditions of its own: each theorem states its own. -/
import Derived.Test.YtpkeldhgfdeebaaGreatDoorL4
import Derived.Test.YtpkeldhgfdeebaaGreatDoorCards
import Derived.Test.YtpkeldhgfdeebaaGreatDoorTie
import Derived.ProofKit
import Derived.OpenShut
import Derived.Deep.DeepHandedRow
import Derived.Lib.LaidTab
import Derived.Lib.LaidU8
import Derived.Stop.LaidErr
set_option linter.unnecessarySimpa false
set_option linter.unusedSimpArgs false
set_option linter.unusedVariables false
/- Contracts: the other way of views: tree,View. By program (mk54.py,mk.py). -/
namespace Go.Tame.V
open Go Go.Proofs
variable {W0 : World}
set_option maxRecDepth 10000
set_option linter.unusedVariables false
set_option linter.unusedSimpArgs false

mutual
theorem okZ_show (nm : List NV → List (List UInt8)) (v : Int) : ∀ (n : NV) (d : Int),okT n → okZ (showG nm v d n)
 | .mk a b c t e f g h i j ks ss,d,h1 => by
  simp only [okT] at h1
  simp only [showG,okZ]
  have hp:=sortN_perm (showGL nm v (d + 1) ks (nm ks))
  have hl:=showGL_len nm v (d + 1) ks (nm ks)
  refine ⟨by rw [hp.length_eq]; omega,by split <;> first | omega | simp,okZL_mem.2 fun k hk => ?_⟩
  exact okZL_show nm v ks (nm ks) (d + 1) h1.2.2.2 k (hp.subset hk)
theorem okZL_show (nm : List NV → List (List UInt8)) (v : Int) : ∀ (l : List NV) (ms : List (List UInt8)) (d : Int),okL l → ∀ x ∈ showGL nm v d l ms,okZ x
 | [],ms,d,_ => by simp [showGL]
 | k::r,[],d,_ => by simp [showGL]
 | k::r,m::ms,d,h1 => by
  simp only [okL] at h1
  intro x hx
  have ih:=okZL_show nm v r ms d h1.2
  simp only [showGL] at hx
  split at hx
  ·rcases List.mem_cons.1 hx with rfl | hx
   ·have:=okZ_show nm v k d h1.1.2
    rw [okZ_eq] at this ⊢
    exact this
   ·exact ih x hx
  ·exact ih x hx
end
theorem namesG_len (v : Int) (ks : List NV) : (namesG v ks).length = ks.length:=by simp [namesG,usedG_len]

theorem F54 (v : Int) (hv : viewOk v = true) (hnd : NamesNd (namesG v)) : ∀ (N : Nat) (n : NV),sz n < N → okT n → okS n → ∀ (m : List UInt8) (d : Int),0 ≤ d → d + sz n < 1000000000 → DFun Tryz.prog W0 64 [.int .i64 v,encTop n,.str m,.int .i64 d] (encTop ((showG (namesG v) v d n).named m)):=by
 refine fun N => Nat.rec (fun n h => absurd h (Nat.not_lt_zero _)) (fun N ih n hN hok hos m d hd hd2 => ?_) N
 obtain ⟨h64,hsn,hinc,hokl⟩:=(okT_eq n).1 hok
 have hks : ∀ k ∈ n.kids,nameOk k.name = true ∧ k.name.length < 1000000000:=fun k hk => (okL_get hokl hk).1
 have hnl:=namesG_len v n.kids
 refine DFun.intro ti_ok Tryz.func64 rfl (by decide +kernel) Tryz.ntmps64 rfl fun Γ => ?_
 refine Tri.seq ?_
 refine Tri.region ti_ok ?_
 conv => whnf
 intro b5
 conv => whnf
 intro b8
 conv => whnf
 refine Tri.seq ?_
 refine Tri.region ti_ok ?_
 conv => whnf
 refine ⟨rfl,?_⟩
 conv => whnf
 refine ⟨[.int .i64 v,encTop n,.str m],_,fun _ => F71 v n m hsn,⟨.refl _,.refl _,.refl _,trivial⟩,?_⟩
 conv => whnf
 intro b9
 conv => whnf
 refine ⟨rfl,?_⟩
 conv => whnf
 refine Tri.seq ?_
 refine Tri.region ti_ok ?_
 conv => whnf
 refine ⟨rfl,?_⟩
 conv => whnf
 refine ⟨[.int .i64 v,.sl .none 12 (n.kids.map enc)],_,fun _ => F72 v hv n.kids h64 hks hinc,⟨.refl _,.refl _,trivial⟩,?_⟩
 conv => whnf
 refine Tri.seq ?_
 refine Tri.seq ?_
 refine Tri.region ti_ok ?_
 conv => whnf
 refine Tri.block ?_
 refine Tri.boxLe 9 (cs':=[.str m,.int .i64 n.kind,.str n.text,.str n.target,.int .i64 (if keeps v then n.n1 else 0),.int .i64 (if keeps v then n.n2 else 0),.int .i64 (if keeps v then n.n3 else 0),.int .i64 n.n4,.int .i64 0,.int .i64 0,.raw (.slice none 0 0),.sl .none 2 ((if v = 3 then n.streams else []).map encS)]) rfl ⟨.refl _,.refl _,.refl _,.refl _,.refl _,.refl _,.refl _,.refl _,.refl _,.refl _,DLe.nilRaw,.refl _,trivial⟩ ?_
 refine Tri.rowNil 109 12 25 ?_
 refine Tri.loopK (α:={ x : Nat × Value // x.1 ≤ n.kids.length }) (fun x => [(0,.int .i64 v),(3,.int .i64 d),(5,.box 5 b5 0),(8,.box 8 b8 0),(9,.box 9 b9 0),(10,.sl .none 1 (strs (namesG v n.kids))),(12,.int .i64 x.1.1)]) (fun x => [(5,.box b5 (cellsN n)),(8,.box b8 [.str [],.int .i64 0,.str [],.str [],.int .i64 0,.int .i64 0,.int .i64 0,.int .i64 0,.int .i64 0,.int .i64 0,.nils,.nils]),(9,.box b9 [.str m,.int .i64 n.kind,.str n.text,.str n.target,.int .i64 (if keeps v then n.n1 else 0),.int .i64 (if keeps v then n.n2 else 0),.int .i64 (if keeps v then n.n3 else 0),.int .i64 n.n4,.int .i64 0,.int .i64 0,.raw x.1.2,.sl .none 2 ((if v = 3 then n.streams else []).map encS)]),(109,.row x.1.2 ((showGL (namesG v) v (d + 1) (n.kids.take x.1.1) ((namesG v n.kids).take x.1.1)).map encTop) 12 25)]) (fun x => n.kids.length - x.1.1) ⟨(0,.slice none 0 0),Nat.zero_le _⟩ [(5,5),(8,8),(9,9),(109,109)]
  ⟨⟨.refl _,.refl _,.refl _,.refl _,.refl _,.refl _,.refl _,trivial⟩,rfl,rfl,rfl,rfl,rfl,rfl,rfl,rfl,congrArg (fun z => some (HObj.row (.slice none 0 0) z 12 25)) (by simp [showGL]),trivial⟩ ?_
 rintro ⟨⟨i,rv⟩,hi⟩
 dsimp only at hi ⊢
 refine Tri.seq ?_
 refine Tri.seq ?_
 refine Tri.region ti_ok ?_
 conv => whnf
 refine ⟨rfl,?_⟩
 conv => whnf
 refine Tri.cond _ rfl (fun hc => ?_) (fun hc => ?_)
 ·refine Tri.skip ?_
  conv => whnf
  have hia : i < n.kids.length:=by simpa using hc
  have hin : i < (namesG v n.kids).length:=by omega
  have hkz:=kid_sz hia
  refine Tri.seq ?_
  refine Tri.block ?_
  refine Tri.seq ?_
  refine Tri.region ti_ok ?_
  conv => whnf
  refine ⟨rfl,?_⟩
  conv => whnf
  refine ⟨fun _ => by simp; omega,?_⟩
  conv => whnf
  refine ⟨encTop n.kids[i],fun _ => get_kid hia,?_⟩
  conv => whnf
  refine .inl ⟨fun _ => by simp only [InR]; omega,?_⟩
  conv => whnf
  refine ⟨[.int .i64 v,encTop n.kids[i],.int .i64 (d + 1)],_,fun _ => F73 v _ _,⟨.refl _,.refl _,.refl _,trivial⟩,?_⟩
  conv => whnf
  refine Tri.cond _ rfl (fun hc => ?_) (fun hc => ?_)
  ·have hs : shown v n.kids[i] (d + 1) = true:=hc
   refine Tri.drawTailX ti_ok 16 mixed (by kernel_rfl) ?_
   conv => whnf
   refine ⟨rfl,?_⟩
   conv => whnf
   refine ⟨rfl,?_⟩
   conv => whnf
   refine ⟨fun _ => by simp; omega,?_⟩
   conv => whnf
   refine ⟨encTop n.kids[i],fun _ => get_kid hia,?_⟩
   conv => whnf
   refine ⟨fun _ => by simp [strs]; omega,?_⟩
   conv => whnf
   refine ⟨.str (namesG v n.kids)[i],fun _ => by simp [strs,hin],?_⟩
   conv => whnf
   refine .inl ⟨fun _ => by simp only [InR]; omega,?_⟩
   conv => whnf
   refine ⟨[.int .i64 v,encTop n.kids[i],.str (namesG v n.kids)[i],.int .i64 (d + 1)],_,fun _ => ih n.kids[i] (by omega) (okL_get hokl (List.getElem_mem hia)).2 (okSL_get ((okS_eq n).1 hos).2 (List.getElem_mem hia)) (namesG v n.kids)[i] (d + 1) (by omega) (by omega),⟨.refl _,.refl _,.refl _,.refl _,trivial⟩,?_⟩
   conv => whnf
   refine ⟨trivial,?_⟩
   conv => whnf
   refine .inr (XOp.rowAppend ti_ok 109 rfl rfl rfl (fun h => by cases h) rfl rfl rfl (Nat.zero_lt_one) ?_ ?_ fun aa mm cap => ?_)
   ·have:=showGL_len (namesG v) v (d + 1) (n.kids.take i) ((namesG v n.kids).take i)
    show (_ + 1) * 152 ≤ _
    simp at this ⊢; omega
   ·have:=showGL_len (namesG v) v (d + 1) (n.kids.take i) ((namesG v n.kids).take i)
    show _ + 1 ≤ _
    simp at this ⊢; omega
   refine .inl ?_
   conv => whnf
   refine ⟨rfl,?_⟩
   conv => whnf
   refine Tri.region ti_ok ?_
   conv => whnf
   refine .inl ⟨fun _ => by simp only [InR]; omega,?_⟩
   conv => whnf
   exact ⟨⟨(i + 1,.slice aa mm cap),hia⟩,[(5,5),(8,8),(9,9),(109,56)],by show _ - (i + 1) < _ - i; omega,⟨.refl _,.refl _,.refl _,.refl _,.refl _,.refl _,.refl _,trivial⟩,rfl,rfl,rfl,rfl,rfl,rfl,rfl,rfl,congrArg (fun z => some (HObj.row (.slice aa mm cap) z 12 25)) (by rw [showGL_next (namesG v) v (d + 1) hia hin,if_pos hs,showG_named]; simp; rfl),trivial⟩
  ·have hs : shown v n.kids[i] (d + 1) = false:=hc
   refine Tri.skip ?_
   conv => whnf
   refine Tri.region ti_ok ?_
   conv => whnf
   refine .inl ⟨fun _ => by simp only [InR]; omega,?_⟩
   conv => whnf
   exact ⟨⟨(i + 1,rv),hia⟩,[(5,5),(8,8),(9,9),(109,109)],by show _ - (i + 1) < _ - i; omega,⟨.refl _,.refl _,.refl _,.refl _,.refl _,.refl _,.refl _,trivial⟩,rfl,rfl,rfl,rfl,rfl,rfl,rfl,rfl,congrArg (fun z => some (HObj.row rv z 12 25)) (by rw [showGL_next (namesG v) v (d + 1) hia hin,hs]; simp),trivial⟩
 ·refine Tri.exit ?_
  conv => whnf
  have hin : i = n.kids.length:=by simp at hc; omega
  have hrow : (showGL (namesG v) v (d + 1) (n.kids.take i) ((namesG v n.kids).take i)).map encTop = (showGL (namesG v) v (d + 1) n.kids (namesG v n.kids)).map enc:=by
   subst hin; rw [List.take_length,List.take_of_length_le (by omega),show enc = encTop from funext enc_eq]
  rw [hrow]
  refine Tri.commitBox 109 9 10 rfl rfl (by decide) rfl ?_
  refine Tri.seq ?_
  refine Tri.region ti_ok ?_
  conv => whnf
  refine ⟨rfl,?_⟩
  conv => whnf
  have hout:=okZL_show (namesG v) v n.kids (namesG v n.kids) (d + 1) hokl
  have hlen:=showGL_len (namesG v) v (d + 1) n.kids (namesG v n.kids)
  refine ⟨[encTop ⟨m,n.kind,n.text,n.target,if keeps v then n.n1 else 0,if keeps v then n.n2 else 0,if keeps v then n.n3 else 0,n.n4,0,0,showGL (namesG v) v (d + 1) n.kids (namesG v n.kids),if v = 3 then n.streams else []⟩],_,fun _ => F74 _ _ (Nat.lt_succ_self _) ((okZ_eq _).2 ⟨by show (showGL (namesG v) v (d + 1) n.kids (namesG v n.kids)).length ≤ 64; omega,by show List.length (if v = 3 then n.streams else []) < _; split <;> first | omega | simp,okZL_mem.2 hout⟩),⟨.refl _,trivial⟩,?_⟩
  conv => whnf
  refine ⟨rfl,?_⟩
  conv => whnf
  refine Tri.ret ?_
  conv => whnf
  refine ⟨rfl,?_⟩
  conv => whnf
  rw [srtT_out (namesG v) v hnd n d m hok hos]
  exact DLe.of_eq rfl
end Go.Tame.V
/- Contracts: the other way of views: View,Check. By program (mk.py). -/
namespace Go.Tame.V
open Go Go.Proofs
variable {W0 : World}
set_option maxRecDepth 10000
set_option linter.unusedVariables false
set_option linter.unusedSimpArgs false

theorem F31 (v : Int) (hnd : viewOk v = true → NamesNd (namesG v)) (n : NV) (hn : Fits n) : DFun Tryz.prog W0 18 [.int .i64 v,encTop n] (.tup [encTop (viewR (namesG v) v n).1,.int .i64 (viewR (namesG v) v n).2]):=by
 refine DFun.intro ti_ok Tryz.func18 rfl (by decide +kernel) Tryz.ntmps18 rfl fun Γ => ?_
 refine Tri.seq ?_
 refine Tri.region ti_ok ?_
 conv => whnf
 intro b4
 conv => whnf
 intro b6
 conv => whnf
 refine Tri.seq ?_
 refine Tri.seq ?_
 refine Tri.region ti_ok ?_
 conv => whnf
 refine ⟨[.int .i64 v],_,fun _ => F53 v,⟨.refl _,trivial⟩,?_⟩
 conv => whnf
 refine Tri.cond _ rfl (fun hc => ?_) (fun hc => ?_)
 ·refine Tri.seq ?_
  refine Tri.region ti_ok ?_
  conv => whnf
  refine ⟨rfl,?_⟩
  conv => whnf
  refine Tri.ret ?_
  conv => whnf
  have h1 : viewOk v = false:=by simpa using hc
  have h2 : viewR (namesG v) v n = (zeroN,2):=by rw [viewR,if_pos h1]
  rw [h2]
  refine ⟨rfl,?_⟩
  conv => whnf
  exact ⟨zeroD,.refl _,trivial⟩
 ·refine Tri.skip ?_
  conv => whnf
  refine Tri.seq ?_
  refine Tri.seq ?_
  refine Tri.region ti_ok ?_
  conv => whnf
  refine ⟨rfl,?_⟩
  conv => whnf
  refine ⟨[encTop n],_,fun _ => F20 n hn,⟨.refl _,trivial⟩,?_⟩
  conv => whnf
  refine Tri.cond _ rfl (fun hc => ?_) (fun hc => ?_)
  ·refine Tri.seq ?_
   refine Tri.region ti_ok ?_
   conv => whnf
   refine ⟨rfl,?_⟩
   conv => whnf
   refine Tri.ret ?_
   conv => whnf
   have h1 : ¬ viewOk v = false:=by intro h; rename_i h0; rw [h] at h0; cases h0
   have h3 : valid n = false:=by simpa using hc
   have h2 : viewR (namesG v) v n = (zeroN,1):=by rw [viewR,if_neg h1,if_pos h3]
   rw [h2]
   refine ⟨rfl,?_⟩
   conv => whnf
   exact ⟨zeroD,.refl _,trivial⟩
  ·refine Tri.skip ?_
   conv => whnf
   refine Tri.seq ?_
   refine Tri.region ti_ok ?_
   conv => whnf
   refine ⟨rfl,?_⟩
   conv => whnf
   have h1 : viewOk v = true:=by rename_i h0; simpa using h0
   have h3 : valid n = true:=by simpa using hc
   have h5 : n.name = []:=by
    have:=h3
    rw [valid_good,Bool.and_eq_true] at this
    exact (goodB_good this.2).1.name1 rfl
   have h6 : (showG (namesG v) v 1 n).named [] = showG (namesG v) v 1 n:=by rw [showG_eq]; simp only [NV.named,h5]
   have hz:=hn
   unfold Fits at hz
   refine ⟨[.int .i64 v,encTop n,.str [],.int .i64 1],encTop (showG (namesG v) v 1 n),fun _ => by
    have:=F54 (W0:=W0) v h1 (hnd h1) _ n (Nat.lt_succ_self _) (valid_okT h3) (valid_okS h3) [] 1 (by omega) (by omega)
    rw [h6] at this
    exact this,⟨.refl _,.refl _,.refl _,.refl _,trivial⟩,?_⟩
   conv => whnf
   refine ⟨rfl,?_⟩
   conv => whnf
   refine Tri.ret ?_
   conv => whnf
   have h2 : viewR (namesG v) v n = (showG (namesG v) v 1 n,0):=by rw [viewR,if_neg (by rw [h1]; simp),if_neg (by rw [h3]; simp)]
   rw [h2]
   refine ⟨rfl,?_⟩
   conv => whnf
   exact ⟨.refl _,.refl _,trivial⟩

end Go.Tame.V
/- The names of every view; how large a shown tree is; a shown tree,shown again. Plain. -/
namespace Go.Tame.V
open Go Go.Proofs
variable {W0 : World}
set_option maxRecDepth 10000
set_option linter.unusedVariables false
set_option linter.unusedSimpArgs false

theorem namesG01 {v : Int} (hv : v = 0 ∨ v = 1) : namesG v = namesA v:=by
 funext ks
 rw [namesG,namesA]
 congr 1
 refine snoc_rec (p:=fun ks => usedG v ks = usedOf v ks) rfl (fun l x ih => ?_) ks
 rw [usedG_snoc,usedOf_snoc,ih,pickG,if_pos hv]
theorem namesG23 {v : Int} (hv : v = 2 ∨ v = 3) : namesG v = fun ks => ks.map NV.name:=by
 funext ks
 rw [namesG]
 refine snoc_rec (p:=fun ks => (usedG v ks).reverse = ks.map NV.name) rfl (fun l x ih => ?_) ks
 rw [usedG_snoc,pickG,if_neg (by omega),List.reverse_cons,ih]; simp
theorem view4 {v : Int} (h : viewOk v = true) : v = 0 ∨ v = 1 ∨ v = 2 ∨ v = 3:=by simp [viewOk] at h; omega
theorem namesGok (hL : LibOk W0) {v : Int} (h : viewOk v = true) : NamesOk W0 v (namesG v):=by
 rcases view4 h with h | h | h | h
 ·rw [namesG01 (.inl h)]; exact names01 hL (.inl h)
 ·rw [namesG01 (.inr h)]; exact names01 hL (.inr h)
 ·rw [namesG23 (.inl h)]; exact names23 hL (.inl h)
 ·rw [namesG23 (.inr h)]; exact names23 hL (.inr h)
theorem namesNd (hL : LibOk W0) {v : Int} (h : viewOk v = true) : NamesNd (namesG v):=fun ks h1 h2 h3 => ((namesGok hL h).call ks h1 h2 h3).2.2.1

theorem szS_ssize : ∀ l : List SV,szS l ≤ ssize l
 | [] => by simp [szS]
 | s::r => by
  have:=szS_ssize r
  simp only [szS,ssize]; omega
mutual
theorem sz_tsize : ∀ n : NV,2 * n.name.length + 2 + sz n ≤ 2 * tsize n
 | .mk a b c d e f g h i j ks ss => by
  have h1:=szL_tsize ks
  have h2:=szS_ssize ss
  simp only [sz,tsize]; omega
theorem szL_tsize : ∀ l : List NV,szL l ≤ 2 * tsizeL l
 | [] => by simp [szL]
 | n::r => by
  have h1:=sz_tsize n
  have h2:=szL_tsize r
  simp only [szL,tsizeL]; omega
end
theorem few_sz {n : NV} {s : Int} (h : few1 n s = true) : (sz n : Int) ≤ 2 * s ∧ cnt n ≤ 40:=by
 simp only [few1,Bool.and_eq_true,decide_eq_true_eq] at h
 have:=sz_tsize n
 omega
theorem szL_perm {a b : List NV} (h : a.Perm b) : szL a = szL b:=by
 induction h with
 | nil => rfl
 | cons x _ ih => simp only [szL,ih]
 | swap x y l => simp only [szL]; omega
 | trans _ _ h1 h2 => exact h1.trans h2
def NamesSh (nm : List NV → List (List UInt8)) : Prop:=∀ ks : List NV,ks.length ≤ 64 → inc ks → (∀ k ∈ ks,nameOk k.name = true ∧ k.name.length < 1000000000) → ∀ m ∈ nm ks,m.length ≤ 1100
theorem namesSh (hL : LibOk W0) {v : Int} (h : viewOk v = true) : NamesSh (namesG v):=fun ks h1 h2 h3 => ((namesGok hL h).call ks h1 h2 h3).2.2.2
mutual
theorem sz_show (nm : List NV → List (List UInt8)) (v : Int) (hs : NamesSh nm) : ∀ (n : NV) (d : Int),okT n → sz (showG nm v d n) + 2200 ≤ sz n + 2200 * cnt n
 | .mk a b c t e f g h i j ks ss,d,h1 => by
  simp only [okT] at h1
  have h2:=szL_show nm v hs ks (nm ks) (d + 1) h1.2.2.2 (hs ks h1.1 h1.2.2.1 fun k hk => (okL_get h1.2.2.2 hk).1)
  have h3:=szL_perm (sortN_perm (showGL nm v (d + 1) ks (nm ks)))
  have h4 : szS (if v = 3 then ss else []) ≤ szS ss:=by split <;> simp [szS]
  simp only [showG,sz,cnt]
  rw [h3]; omega
theorem szL_show (nm : List NV → List (List UInt8)) (v : Int) (hs : NamesSh nm) : ∀ (l : List NV) (ms : List (List UInt8)) (d : Int),okL l → (∀ m ∈ ms,m.length ≤ 1100) → szL (showGL nm v d l ms) ≤ szL l + 2200 * cntL l
 | [],ms,d,_,_ => by simp [showGL,szL]
 | k::r,[],d,_,_ => by simp [showGL,szL]
 | k::r,m::ms,d,h1,hm => by
  simp only [okL] at h1
  have h2:=szL_show nm v hs r ms d h1.2 fun x hx => hm x (List.mem_cons_of_mem _ hx)
  have h3:=sz_show nm v hs k d h1.1.2
  have h4:=hm m List.mem_cons_self
  have h5 : sz ((showG nm v d k).named m) = sz (showG nm v d k):=sz_named _ _
  simp only [showGL]
  split
  ·simp only [szL,cntL]
   have h6 : ((showG nm v d k).named m).name = m:=rfl
   rw [h5,h6]; omega
  ·simp only [szL,cntL]; omega
end
theorem show_name (nm : List NV → List (List UInt8)) (v d : Int) (n : NV) : (showG nm v d n).name = n.name:=by rw [showG_eq]
theorem show_fits (nm : List NV → List (List UInt8)) (v : Int) (hs : NamesSh nm) {n : NV} (hv : valid n = true) (hf : few1 n 100000 = true) : Fits (showG nm v 1 n) ∧ sz (showG nm v 1 n) < 300000:=by
 have h1:=sz_show nm v hs n 1 (valid_okT hv)
 have h2:=few_sz hf
 have h3 : n.name = []:=by
  rw [valid_good,Bool.and_eq_true] at hv
  exact (goodB_good hv.2).1.name1 rfl
 unfold Fits
 rw [show_name,h3]
 simp only [List.length_nil]
 omega

end Go.Tame.V
/- naming.show,with a function that is called for each node. By program (mk63.py,mk.py). -/
namespace Go.Tame.V
open Go Go.Proofs
variable {W0 : World}
set_option maxRecDepth 10000
set_option linter.unusedVariables false
set_option linter.unusedSimpArgs false

section
variable {S : Type} (upd : List UInt8 → List UInt8 → S → S) (nm : List NV → List (List UInt8)) (v : Int)
end

end Go.Tame.V
/- naming.tree,with a function that is called for each node. By program (mk.py). -/
namespace Go.Tame.V
open Go Go.Proofs
variable {W0 : World}
set_option maxRecDepth 10000
set_option linter.unusedVariables false
set_option linter.unusedSimpArgs false

end Go.Tame.V
/- naming.show,with a function that is called for each node and keeps three objects. By program (mkn1.py,mk.py). -/
namespace Go.Tame.V
open Go Go.Proofs
variable {W0 : World}
set_option maxRecDepth 10000
set_option linter.unusedVariables false
set_option linter.unusedSimpArgs false

structure WS3 (S : Type) where
 o1 : S → HObj
 o2 : S → HObj
 o3 : S → HObj
def WS3.H {S : Type} (A : WS3 S) (s : S) : Heap:=look [(2000,A.o1 s),(2001,A.o2 s),(2002,A.o3 s)]
end Go.Tame.V
/- naming.tree,with a function that is called for each node. By program (mk.py). -/
namespace Go.Tame.V
open Go Go.Proofs
variable {W0 : World}
set_option maxRecDepth 10000
set_option linter.unusedVariables false
set_option linter.unusedSimpArgs false

end Go.Tame.V
/- The functions that Path and Source call for each node. By program (mk.py). -/
namespace Go.Tame.V
open Go Go.Proofs
variable {W0 : World}
set_option maxRecDepth 10000
set_option linter.unusedVariables false
set_option linter.unusedSimpArgs false

end Go.Tame.V
/- Contracts: sourcetree's clone. By program (mkn4.py,mk.py). -/
namespace Go.Tame.V
open Go Go.Proofs
variable {W0 : World}
set_option maxRecDepth 10000
set_option linter.unusedVariables false
set_option linter.unusedSimpArgs false

end Go.Tame.V
/- Paths of a tree by lists of names; trees that do not differ. Plain. -/
namespace Go.Tame.V
open Go Go.Proofs
set_option maxRecDepth 10000
set_option linter.unusedVariables false
set_option linter.unusedSimpArgs false


/-- Names,each behind a slash. -/
def tailF (q : List (List UInt8)) : List UInt8:=q.flatMap fun m => 47::m
def joinF : List (List UInt8) → List UInt8
 | [] => []
 | m::r => m ++ tailF r
mutual
/-- The paths as texts: p is the node's own,at level l. -/
def pathsS : NV → List UInt8 → Int → List (List UInt8)
 | .mk _ _ _ _ _ _ _ _ _ _ ks _,p,l => p::pathsSL ks p l
def pathsSL : List NV → List UInt8 → Int → List (List UInt8)
 | [],_,_ => []
 | k::r,p,l => pathsS k (below p k.name (l + 1)) (l + 1) ++ pathsSL r p l
end
theorem pathsS_eq (n : NV) (p : List UInt8) (l : Int) : pathsS n p l = p::pathsSL n.kids p l:=by cases n; simp only [pathsS]
theorem split_tail : ∀ (ms : List (List UInt8)) (p : List UInt8),(47 : UInt8) ∉ p → (∀ m ∈ ms,(47 : UInt8) ∉ m) → splitG 47 [] (p ++ tailF ms) = p::ms
 | [],p,hp,_ => by simp [tailF,splitG_no p [] hp]
 | m::r,p,hp,h => by
  have e : p ++ tailF (m::r) = p ++ 47::(m ++ tailF r):=by simp [tailF]
  rw [e,splitG_at p [] _ hp,split_tail r m (h m List.mem_cons_self) fun x hx => h x (List.mem_cons_of_mem _ hx)]
  simp
/-- A path of names. -/
def okP (q : List (List UInt8)) : Prop:=∀ m ∈ q,nameOk m = true
theorem name_noslash {m : List UInt8} (h : nameOk m = true) : (47 : UInt8) ∉ m:=by
 intro hm
 unfold nameOk at h
 rw [if_pos (.inr (.inr hm))] at h
 cases h
theorem joinF_nil {q : List (List UInt8)} (h : okP q) : joinF q = [] ↔ q = []:=by
 cases q with
 | nil => simp [joinF]
 | cons m r =>
  have:=name_ne (h m List.mem_cons_self)
  simp [joinF,this]
theorem split_join {q : List (List UInt8)} (h : okP q) (hq : q ≠ []) : splitG 47 [] (joinF q) = q:=by
 cases q with
 | nil => exact absurd rfl hq
 | cons m r => exact split_tail r m (name_noslash (h m List.mem_cons_self)) fun x hx => name_noslash (h x (List.mem_cons_of_mem _ hx))
theorem joinF_inj {q q' : List (List UInt8)} (h : okP q) (h' : okP q') (e : joinF q = joinF q') : q = q':=by
 by_cases h0 : q = []
 ·subst h0
  exact ((joinF_nil h').1 (by rw [← e]; rfl)).symm
 ·have h1 : q' ≠ []:=fun h2 => h0 ((joinF_nil h).1 (by rw [e,h2]; rfl))
  rw [← split_join h h0,e,split_join h' h1]
end Go.Tame.V
/- Contracts: the other way of trees: paths,Get,Equal. By program (mk.py). -/
namespace Go.Tame.V
open Go Go.Proofs
variable {W0 : World}
set_option maxRecDepth 10000
set_option linter.unusedVariables false
set_option linter.unusedSimpArgs false

mutual
theorem pathsS_len : ∀ (n : NV) (p : List UInt8) (l : Int),(pathsS n p l).length = cnt n
 | .mk _ _ _ _ _ _ _ _ _ _ ks _,p,l => by
  have:=pathsSL_len ks p l
  simp only [pathsS,cnt,List.length_cons]; omega
theorem pathsSL_len : ∀ (ks : List NV) (p : List UInt8) (l : Int),(pathsSL ks p l).length = cntL ks
 | [],p,l => rfl
 | k::r,p,l => by
  have h1:=pathsS_len k (below p k.name (l + 1)) (l + 1)
  have h2:=pathsSL_len r p l
  simp only [pathsSL,cntL,List.length_append]; omega
end
theorem pathsSL_next : ∀ {ks : List NV} {i : Nat} (h : i < ks.length) (p : List UInt8) (l : Int),pathsSL (ks.take (i + 1)) p l = pathsSL (ks.take i) p l ++ pathsS ks[i] (below p ks[i].name (l + 1)) (l + 1)
 | k::r,0,_,p,l => by simp [pathsSL]
 | k::r,i + 1,h,p,l => by
  have:=pathsSL_next (ks:=r) (i:=i) (by simpa using h) p l
  simp only [List.take_succ_cons,pathsSL,List.getElem_cons_succ]
  rw [this]; simp

theorem F46 : ∀ (N : Nat) (n : NV),sz n < N → sz n < 10000000 → ∀ (p : List UInt8) (l : Int),1 ≤ l → p.length + sz n < 100000000 → l + sz n < 1000000000 → DFun Tryz.prog W0 70 [encTop n,.str p,.int .i64 l] (.sl .none 1 (strs (pathsS n p l))):=by
 refine fun N => Nat.rec (fun n h => absurd h (Nat.not_lt_zero _)) (fun N ih n hN hz p l hl hp hls => ?_) N
 refine DFun.intro ti_ok Tryz.func70 rfl (by decide +kernel) Tryz.ntmps70 rfl fun Γ => ?_
 refine Tri.seq ?_
 refine Tri.region ti_ok ?_
 conv => whnf
 intro b3
 conv => whnf
 refine Tri.seq ?_
 refine Tri.region ti_ok ?_
 conv => whnf
 refine ⟨trivial,?_⟩
 conv => whnf
 refine Tri.seq ?_
 refine Tri.seq ?_
 refine Tri.region ti_ok ?_
 conv => whnf
 refine Tri.block ?_
 refine Tri.own 7 1000 1 9 rfl (fun w => ?_)
 refine Tri.loopK (α:={ i : Nat // i ≤ n.kids.length } × Value) (fun x => [(1,.str p),(2,.int .i64 l),(3,.box 3 b3 0),(7,.sl (.own 1000 x.2) 1 (strs (p::pathsSL (n.kids.take x.1.1) p l))),(8,.int .i64 x.1.1)]) (fun x => [(3,.box b3 [.str n.name,.int .i64 n.kind,.str n.text,.str n.target,.int .i64 n.n1,.int .i64 n.n2,.int .i64 n.n3,.int .i64 n.n4,.int .i64 n.n5,.int .i64 n.n6,.sl .none 12 (n.kids.map enc),.sl .none 2 (n.streams.map encS)]),(1000,.own x.2 (strs (p::pathsSL (n.kids.take x.1.1) p l)).length 1 9)]) (fun x => n.kids.length - x.1.1) (⟨0,Nat.zero_le _⟩,w) [(3,3),(1000,1000)]
  ⟨⟨.refl _,.refl _,.refl _,.refl _,.refl _,trivial⟩,rfl,rfl,rfl,rfl,rfl,trivial⟩ ?_
 rintro ⟨⟨i,hi⟩,w⟩
 dsimp only at hi ⊢
 refine Tri.seq ?_
 refine Tri.seq ?_
 refine Tri.region ti_ok ?_
 conv => whnf
 refine ⟨rfl,?_⟩
 conv => whnf
 refine Tri.cond _ rfl (fun hc => ?_) (fun hc => ?_)
 ·refine Tri.skip ?_
  conv => whnf
  have hia : i < n.kids.length:=by simpa using hc
  have hkz:=kid_sz hia
  have hbl:=below_len p n.kids[i].name (l + 1)
  have hnx:=pathsSL_next hia p l
  have hll:=pathsSL_len (n.kids.take i) p l
  have hlt:=cntL_take n.kids i
  have hcz:=cntL_sz n.kids
  have hsze:=sz_eq n
  have hkl:=pathsS_len n.kids[i] (below p n.kids[i].name (l + 1)) (l + 1)
  have hks:=cnt_sz n.kids[i]
  have hkk:=szL_len n.kids
  refine Tri.seq ?_
  refine Tri.block ?_
  refine Tri.drawTail ti_ok 18 mixed (by kernel_rfl) ?_
  conv => whnf
  refine ⟨rfl,?_⟩
  conv => whnf
  refine ⟨fun _ => by simp; omega,?_⟩
  conv => whnf
  refine ⟨encTop n.kids[i],fun _ => get_kids hia,?_⟩
  conv => whnf
  refine ⟨rfl,?_⟩
  conv => whnf
  refine ⟨fun _ => by simp; omega,?_⟩
  conv => whnf
  refine ⟨encTop n.kids[i],fun _ => get_kids hia,?_⟩
  conv => whnf
  refine ⟨[.str p,.str n.kids[i].name,.int .i64 l],_,fun _ => F68 p n.kids[i].name l (by omega) hl,⟨.refl _,.refl _,.refl _,trivial⟩,?_⟩
  conv => whnf
  refine .inl ⟨fun _ => by simp only [InR]; omega,?_⟩
  conv => whnf
  refine ⟨[encTop n.kids[i],.str (below p n.kids[i].name (l + 1)),.int .i64 (l + 1)],_,fun _ => ih n.kids[i] (by omega) (by omega) (below p n.kids[i].name (l + 1)) (l + 1) (by omega) (by omega) (by omega),⟨.refl _,.refl _,.refl _,trivial⟩,?_⟩
  conv => whnf
  refine ⟨rfl,rfl,?_⟩
  conv => whnf
  refine ⟨by show (_ + _) * 16 ≤ _; simp [strs]; omega,by show _ + _ ≤ _; simp [strs]; omega,(fun h => by cases h),fun v => ?_⟩
  conv => whnf
  refine Tri.region ti_ok ?_
  conv => whnf
  refine .inl ⟨fun _ => by simp only [InR]; omega,?_⟩
  conv => whnf
  have he : strs (p::pathsSL (n.kids.take i) p l) ++ strs (pathsS n.kids[i] (below p n.kids[i].name (l + 1)) (l + 1)) = strs (p::pathsSL (n.kids.take (i + 1)) p l):=by rw [hnx]; simp [strs]
  exact ⟨(⟨i + 1,hia⟩,v),[(3,3),(1000,36)],by show n.kids.length - (i + 1) < n.kids.length - i; omega,⟨.refl _,.refl _,.refl _,DLe.ownEq he,.refl _,trivial⟩,rfl,rfl,rfl,rfl,ownH (by rw [← he,List.length_append]),trivial⟩
 ·refine Tri.exit ?_
  conv => whnf
  refine Tri.seq ?_
  refine Tri.region ti_ok ?_
  conv => whnf
  refine Tri.ret ?_
  conv => whnf
  have hin : i = n.kids.length:=by simp at hc; omega
  have e : n.kids.take i = n.kids:=List.take_of_length_le (by omega)
  rw [e,← pathsS_eq]
  exact DLe.unown

end Go.Tame.V
/- Contracts: Equal of trees; the law ViewdiffEquals. By program (mk.py). -/
namespace Go.Tame.V
open Go Go.Proofs
variable {W0 : World}
set_option maxRecDepth 10000
set_option linter.unusedVariables false
set_option linter.unusedSimpArgs false

end Go.Tame.V
/- Contracts: sourcetree's find and Get. By program (mk.py). -/
namespace Go.Tame.V
open Go Go.Proofs
variable {W0 : World}
set_option maxRecDepth 10000
set_option linter.unusedVariables false
set_option linter.unusedSimpArgs false

end Go.Tame.V
/- The paths of the nodes that a view shows. Plain. -/
namespace Go.Tame.V
open Go Go.Proofs
set_option maxRecDepth 10000
set_option linter.unusedVariables false
set_option linter.unusedSimpArgs false

section
variable (nm : List NV → List (List UInt8)) (v : Int)
mutual
/-- The paths,in the view and in the source,of a node and of what a view shows below it. -/
def prs (d : Int) : NV → List UInt8 → List UInt8 → List (List UInt8 × List UInt8)
 | .mk _ _ _ _ _ _ _ _ _ _ ks _,p,q => (p,q)::prsL d ks (nm ks) p q
def prsL (d : Int) : List NV → List (List UInt8) → List UInt8 → List UInt8 → List (List UInt8 × List UInt8)
 | k::r,m::ms,p,q => if shown v k (d + 1) then prs (d + 1) k (joinQ p m (d == 1)) (joinQ q k.name (d == 1)) ++ prsL d r ms p q else prsL d r ms p q
 | _,_,_,_ => []
end
theorem prs_eq (d : Int) (n : NV) (p q : List UInt8) : prs nm v d n p q = (p,q)::prsL nm v d n.kids (nm n.kids) p q:=by cases n; simp only [prs]
/-- The source paths are some of the tree's paths,in their order. -/
theorem joinQ_below (p m : List UInt8) {d : Int} (hd : 1 ≤ d) : joinQ p m (d == 1) = below p m (d + 1):=by
 unfold joinQ below
 by_cases h : d = 1
 ·subst h; rfl
 ·rw [if_neg (by simpa using h),if_neg (by omega)]
mutual
theorem prs_sub : ∀ (n : NV) (d : Int) (p q : List UInt8),1 ≤ d → ((prs nm v d n p q).map Prod.snd).Sublist (pathsS n q d)
 | .mk _ _ _ _ _ _ _ _ _ _ ks _,d,p,q,hd => by
  simp only [prs,pathsS,List.map_cons]
  exact (prsL_sub ks (nm ks) d p q hd).cons_cons q
theorem prsL_sub : ∀ (l : List NV) (ms : List (List UInt8)) (d : Int) (p q : List UInt8),1 ≤ d → ((prsL nm v d l ms p q).map Prod.snd).Sublist (pathsSL l q d)
 | [],ms,d,p,q,hd => by simp [prsL]
 | k::r,[],d,p,q,hd => by simp [prsL]
 | k::r,m::ms,d,p,q,hd => by
  have ih:=prsL_sub r ms d p q hd
  simp only [prsL,pathsSL]
  split
  ·rw [List.map_append,joinQ_below q k.name hd]
   exact (prs_sub k (d + 1) _ _ (by omega)).append ih
  ·exact ih.trans (List.sublist_append_right _ _)
end
end
end Go.Tame.V
/- Contracts: naming's Path and Source. By program (mk.py). -/
namespace Go.Tame.V
open Go Go.Proofs
variable {W0 : World}
set_option maxRecDepth 10000
set_option linter.unusedVariables false
set_option linter.unusedSimpArgs false

end Go.Tame.V
/- Contracts: the other way of paths: pairs. By program (mk.py). -/
namespace Go.Tame.V
open Go Go.Proofs
variable {W0 : World}
set_option maxRecDepth 10000
set_option linter.unusedVariables false
set_option linter.unusedSimpArgs false

theorem prs_len (nm : List NV → List (List UInt8)) (v : Int) (n : NV) (d : Int) (p q : List UInt8) (hd : 1 ≤ d) : (prs nm v d n p q).length ≤ cnt n:=by
 have h:=(prs_sub nm v n d p q hd).length_le
 rw [List.length_map,pathsS_len] at h; exact h
end Go.Tame.V
/- The names of any kids,in any order. Plain. -/
namespace Go.Tame.V
open Go Go.Proofs
variable {W0 : World}
set_option maxRecDepth 10000
set_option linter.unusedVariables false
set_option linter.unusedSimpArgs false

/-- The name that the kid with the name m gets,among kids in order. -/
def nameFor (v : Int) (ks : List NV) (m : List UInt8) : List UInt8:=(((ks.map NV.name).zip (namesG v ks)).lookup m).getD []
def namesU (v : Int) (kids : List NV) : List (List UInt8):=kids.map fun k => nameFor v (sortN kids) k.name
def allOk (kids : List NV) : Bool:=kids.all fun k => nameOk k.name
/-- What Names hands back. -/
def namesR (v : Int) (kids : List NV) : List (List UInt8) × Int :=
 if viewOk v = false then ([],2) else if 64 < kids.length then ([],7) else if allOk kids = false then ([],4) else if ¬ (kids.map NV.name).Nodup then ([],5) else (namesU v kids,0)
theorem lookup_zip : ∀ {a : List (List UInt8)} {b : List (List UInt8)} {i : Nat} (hn : a.Nodup) (h : i < a.length) (h' : i < b.length),(a.zip b).lookup a[i] = some b[i]
 | x::a,y::b,0,_,_,_ => by simp [List.lookup]
 | x::a,y::b,i + 1,hn,h,h' => by
  rw [List.nodup_cons] at hn
  have ih:=lookup_zip (a:=a) (b:=b) (i:=i) hn.2 (by simpa using h) (by simpa using h')
  have hne : ((a[i]'(by simpa using h)) == x) = false:=by
   rw [beq_eq_false_iff_ne]
   intro e
   exact hn.1 (e ▸ List.getElem_mem _)
  simp only [List.zip_cons_cons,List.getElem_cons_succ,List.lookup,hne]
  exact ih
theorem nameFor_get {v : Int} {ks : List NV} (hn : (ks.map NV.name).Nodup) {t : Nat} (h : t < ks.length) : nameFor v ks ks[t].name = (namesG v ks)[t]'(by rw [namesG_len]; exact h):=by
 have:=lookup_zip (a:=ks.map NV.name) (b:=namesG v ks) (i:=t) hn (by simpa using h) (by rw [namesG_len]; exact h)
 rw [List.getElem_map] at this
 rw [nameFor,this]; rfl
theorem inc_nodup {ks : List NV} (h : inc ks) : (ks.map NV.name).Nodup:=by
 rw [List.nodup_iff_pairwise_ne,List.pairwise_map]
 exact List.pairwise_iff_getElem.2 fun i j hi hj hij => bl_ne (inc_get h hij hj)
theorem namesU_inc {v : Int} {ks : List NV} (h : inc ks) : namesU v ks = namesG v ks:=by
 rw [namesU,sortN_id h]
 apply List.ext_getElem (by simp [namesG_len])
 intro i h1 h2
 rw [List.getElem_map,nameFor_get (inc_nodup h)]

theorem idxOf_get : ∀ {L : List Nat} {t : Nat} (hn : L.Nodup) (ht : t < L.length),L.idxOf L[t] = t
 | x::r,0,_,_ => by simp
 | x::r,t + 1,hn,ht => by
  rw [List.nodup_cons] at hn
  have ht' : t < r.length:=by simpa using ht
  have hne : ¬ (x == r[t]) = true:=fun e => hn.1 (by rw [beq_iff_eq] at e; rw [e]; exact List.getElem_mem ht')
  rw [List.getElem_cons_succ,List.idxOf_cons,Bool.cond_eq_ite,if_neg hne,idxOf_get hn.2 ht']
/-- An order of the places,sorted by the names there. -/
structure Order (kids : List NV) (L : List Nat) : Prop where
 perm : L.Perm (List.range kids.length)
 sorted : ∀ (i j : Nat) (hi : i < L.length) (hj : j < L.length),i < j → Op.bytesLess (kids.getD L[j] default).name (kids.getD L[i] default).name = false
def inOrder (kids : List NV) (L : List Nat) : List NV:=L.map fun i => kids.getD i default
section
variable {kids : List NV} {L : List Nat}
theorem Order.len (h : Order kids L) : L.length = kids.length:=by rw [h.perm.length_eq]; simp
theorem Order.lt (h : Order kids L) {t : Nat} (ht : t < L.length) : L[t] < kids.length:=List.mem_range.1 (h.perm.subset (List.getElem_mem ht))
theorem Order.nodup (h : Order kids L) : L.Nodup:=h.perm.nodup_iff.2 List.nodup_range
theorem Order.mem (h : Order kids L) {j : Nat} (hj : j < kids.length) : j ∈ L:=h.perm.symm.subset (List.mem_range.2 hj)
theorem order_perm (h : Order kids L) : (inOrder kids L).Perm kids:=by
 have h1:=h.perm.map fun i => kids.getD i default
 have h2 : (List.range kids.length).map (fun i => kids.getD i default) = kids:=by
  apply List.ext_getElem (by simp)
  intro i h1 h2
  simp at h1
  simp [List.getD,h1]
 rw [h2] at h1; exact h1
theorem order_len (h : Order kids L) : (inOrder kids L).length = kids.length:=(order_perm h).length_eq
theorem order_get (h : Order kids L) {t : Nat} (ht : t < L.length) : (inOrder kids L)[t]'(by simp [inOrder]; exact ht) = kids[L[t]]'(h.lt ht):=by
 simp [inOrder,List.getD,h.lt ht]
/-- Without equal neighbours the order rises. -/
theorem order_inc (h : Order kids L) (hn : ∀ t,(h1 : t + 1 < L.length) → (kids.getD L[t] default).name ≠ (kids.getD L[t + 1] default).name) : inc (inOrder kids L):=fun i hi => by
 have hi' : i + 1 < L.length:=by rw [h.len,← order_len h]; exact hi
 have h1:=h.sorted i (i + 1) (by omega) hi' (by omega)
 have h2:=hn i hi'
 have e : ∀ t,(ht : t < L.length) → ((inOrder kids L).getD t default) = kids.getD L[t] default:=fun t ht => by simp [inOrder,List.getD,ht]
 rw [e i (by omega),e (i + 1) hi']
 cases h3 : Op.bytesLess (kids.getD L[i] default).name (kids.getD L[i + 1] default).name with
 | true => rfl
 | false => exact absurd (bl_total _ _ h3 h1) h2
theorem order_sort (h : Order kids L) (hi : inc (inOrder kids L)) : sortN kids = inOrder kids L:=by
 refine sorted_nodes hi ((sortN_perm kids).trans (order_perm h).symm) fun i j hi hj hij => List.pairwise_iff_getElem.1 (sortN_sorted kids) i j hi hj hij
theorem order_nodup (h : Order kids L) (hi : inc (inOrder kids L)) : (kids.map NV.name).Nodup:=((order_perm h).map NV.name).nodup_iff.1 (inc_nodup hi)
theorem order_dup (h : Order kids L) {s t : Nat} (hs : s < t) (ht : t < L.length) (e : (kids.getD L[s] default).name = (kids.getD L[t] default).name) : ¬ (kids.map NV.name).Nodup:=fun hn => by
 have h1:=h.lt (t:=s) (by omega)
 have h2:=h.lt ht
 have hne : L[s] ≠ L[t]:=fun e => by
  have:=(List.pairwise_iff_getElem.1 (List.nodup_iff_pairwise_ne.1 h.nodup)) s t (by omega) ht hs
  exact this e
 rw [List.nodup_iff_pairwise_ne,List.pairwise_map] at hn
 have hp:=List.pairwise_iff_getElem.1 hn
 simp only [List.getD,List.getElem?_eq_getElem h1,List.getElem?_eq_getElem h2,Option.getD_some] at e
 rcases Nat.lt_trichotomy L[s] L[t] with l | l | l
 ·exact hp _ _ h1 h2 l e
 ·exact hne l
 ·exact hp _ _ h2 h1 l e.symm

/-- The row of names,some places of which are set. -/
def rowF (n : Nat) (L : List Nat) (g : Nat → List UInt8) (t : Nat) : List D:=(List.range n).map fun j => if j ∈ L.take t then .str (g j) else .str []
theorem rowF_len {n : Nat} {g : Nat → List UInt8} {t : Nat} : (rowF n L g t).length = n:=by simp [rowF]
theorem rowF_zero {n : Nat} {g : Nat → List UInt8} : rowF n L g 0 = List.replicate n (.str []):=by
 apply List.ext_getElem (by simp [rowF])
 intro i h1 h2
 simp [rowF]
theorem rowF_set {n : Nat} {g : Nat → List UInt8} {t : Nat} (ht : t < L.length) (hl : L[t] < n) : (rowF n L g t).set L[t] (.str (g L[t])) = rowF n L g (t + 1):=by
 apply List.ext_getElem (by simp [rowF])
 intro i h1 h2
 rw [List.getElem_set]
 simp only [rowF,List.getElem_map,List.getElem_range,List.take_succ_eq_append_getElem ht,List.mem_append,List.mem_singleton]
 by_cases e : L[t] = i
 ·subst e; simp
 ·have e' : ¬ i = L[t]:=fun h => e h.symm
  rw [if_neg e]; simp [e']
theorem rowF_all {v : Int} (h : Order kids L) {g : Nat → List UInt8} (hg : ∀ j,(hj : j < kids.length) → g j = nameFor v (sortN kids) kids[j].name) : rowF kids.length L g L.length = strs (namesU v kids):=by
 apply List.ext_getElem (by simp [rowF,strs,namesU])
 intro i h1 h2
 have hi : i < kids.length:=by simpa [rowF] using h1
 simp only [rowF,strs,namesU,List.getElem_map,List.getElem_range,List.take_length]
 rw [if_pos (h.mem hi),hg i hi]
/-- The name at a place,by the place's position in the order. -/
def pickAt (v : Int) (kids : List NV) (L : List Nat) (j : Nat) : List UInt8:=(namesG v (inOrder kids L)).getD (L.idxOf j) []
theorem pickAt_get (h : Order kids L) {v : Int} {t : Nat} (ht : t < L.length) : pickAt v kids L L[t] = pickG v (usedG v ((inOrder kids L).take t)) (kids[L[t]]'(h.lt ht)):=by
 have hlen : t < (inOrder kids L).length:=by simp [inOrder]; exact ht
 rw [pickAt,idxOf_get h.nodup ht]
 have h1 : t < (namesG v (inOrder kids L)).length:=by rw [namesG_len]; exact hlen
 rw [List.getD,List.getElem?_eq_getElem h1,Option.getD_some,← order_get h ht]
 -- the t-th of the names is made out of the first t kids
 have key : ∀ (ks : List NV) (t : Nat) (ht : t < ks.length),(namesG v ks)[t]'(by rw [namesG_len]; exact ht) = pickG v (usedG v (ks.take t)) ks[t]:=by
  intro ks t ht
  have e : ∀ ks : List NV,∀ m,m ≤ ks.length → (usedG v ks).reverse.take m = (usedG v (ks.take m)).reverse:=by
   intro ks
   refine snoc_rec (p:=fun ks => ∀ m,m ≤ ks.length → (usedG v ks).reverse.take m = (usedG v (ks.take m)).reverse) (fun m hm => by simp at hm; subst hm; rfl) (fun l x ih m hm => ?_) ks
   rw [usedG_snoc,List.reverse_cons]
   by_cases hml : m ≤ l.length
   ·rw [List.take_append_of_le_length (by simp [usedG_len]; exact hml),ih m hml,List.take_append_of_le_length hml]
   ·have hm' : m = l.length + 1:=by simp at hm; omega
    subst hm'
    rw [List.take_of_length_le (by simp [usedG_len]),List.take_of_length_le (by simp),usedG_snoc,List.reverse_cons]
  have h2:=e ks (t + 1) (by omega)
  have h3 : (namesG v ks)[t]? = ((namesG v ks).take (t + 1))[t]?:=by rw [List.getElem?_take,if_pos (by omega)]
  have h4 : (namesG v ks).take (t + 1) = (usedG v (ks.take (t + 1))).reverse:=h2
  rw [h4,usedG_take ht,List.reverse_cons,List.getElem?_append_right (by simp [usedG_len]; omega)] at h3
  have h5 : (usedG v (ks.take t)).reverse.length = t:=by simp [usedG_len]; omega
  rw [h5,Nat.sub_self] at h3
  rw [List.getElem?_eq_getElem (by rw [namesG_len]; exact ht)] at h3
  simpa using h3
 exact key _ t hlen
theorem pickAt_for (h : Order kids L) {v : Int} (hi : inc (inOrder kids L)) {j : Nat} (hj : j < kids.length) : pickAt v kids L j = nameFor v (sortN kids) kids[j].name:=by
 obtain ⟨t,ht,rfl⟩:=List.mem_iff_getElem.1 (h.mem hj)
 have hlen : t < (inOrder kids L).length:=by simp [inOrder]; exact ht
 rw [order_sort h hi,← order_get h ht,nameFor_get (inc_nodup hi) hlen,pickAt,idxOf_get h.nodup ht,List.getD,List.getElem?_eq_getElem (by rw [namesG_len]; exact hlen),Option.getD_some]
end
/-- The sort of a row of places,by the names there. -/
theorem sort_order (kids : List NV) (hlen : kids.length < 1000000) (bb : Nat) (v : Value) :
  DCall Tryz.prog W0 76 [.raw v,.fn (.func 77) [] [.box 2000 bb 0]] (look [(2001,.row v (places kids.length) 1 3),(2000,.box bb [.sl .none 12 (kids.map enc)])]) fun d H' =>
   d = .tup [] ∧ ∃ L : List Nat,Order kids L ∧ H' = look [(2001,.row v (L.map encI) 1 3),(2000,.box bb [.sl .none 12 (kids.map enc)])]:=by
 by_cases h0 : 0 < kids.length
 ·have hc:=F123 (W0:=W0) kids h0 hlen bb v (List.finRange kids.length) (by simpa using h0) (by simpa using hlen)
  rw [places_fin] at hc
  refine hc.mono ?_
  rintro d H' ⟨rfl,ds',hp,hs,rfl⟩
  refine ⟨rfl,ds'.map (fun x => x.1),⟨?_,fun i j hi hj hij => ?_⟩,by rw [List.map_map]; rfl⟩
  ·have:=hp.map (fun x : Fin kids.length => x.1)
   have e : (List.finRange kids.length).map (fun x : Fin kids.length => x.1) = List.range kids.length:=by
    apply List.ext_getElem (by simp)
    intro i h1 h2
    simp
   rwa [e] at this
  ·simp only [List.length_map] at hi hj
   have:=hs i j hi hj hij
   simpa [List.getD] using this
 ·have hn : kids = []:=List.eq_nil_of_length_eq_zero (by omega)
  subst hn
  refine (F123_nil v _ _).mono ?_
  rintro d H' ⟨rfl,rfl⟩
  exact ⟨rfl,[],⟨.refl _,fun i j hi => by simp at hi⟩,rfl⟩
end Go.Tame.V
/- The names that are made for a view are names. Plain. -/
namespace Go.Tame.V
open Go Go.Proofs
set_option maxRecDepth 10000
set_option linter.unusedVariables false
set_option linter.unusedSimpArgs false

theorem enc_slash {r : Int} (h : isChar r = true) (hi : (47 : UInt8) ∈ (Utf8.encode r).data.toList) : r = 47:=by
 obtain ⟨h1,h2,h3⟩:=(isChar_iff r).1 h
 obtain ⟨n,rfl⟩ : ∃ n : Nat,r = n:=⟨r.toNat,by omega⟩
 have hU : ∀ x : Nat,x < 256 → (UInt8.ofNat x).toNat = x:=fun x hx => by rw [UInt8.toNat_ofNat']; omega
 have e47 : (47 : UInt8).toNat = 47:=rfl
 have hne : ∀ x : Nat,x < 256 → 128 ≤ x → (47 : UInt8) ≠ UInt8.ofNat x:=fun x hx h128 e => by
  have:=congrArg UInt8.toNat e
  rw [hU x hx] at this
  omega
 have hv : Utf8.valid (n : Int) = true:=by simp [Utf8.valid]; omega
 by_cases h1' : n < 128
 ·have e : (Utf8.encode (n : Int)).data.toList = [UInt8.ofNat n]:=by
   unfold Utf8.encode; simp only [hv,if_true,Int.toNat_natCast]; rw [if_pos h1']
  rw [e,List.mem_singleton] at hi
  have:=congrArg UInt8.toNat hi
  rw [hU n (by omega)] at this
  omega
 ·exfalso
  by_cases h2 : n < 2048
  ·have e : (Utf8.encode (n : Int)).data.toList = [UInt8.ofNat (192 + n / 64),UInt8.ofNat (128 + n % 64)]:=by
    unfold Utf8.encode; simp only [hv,if_true,Int.toNat_natCast]; rw [if_neg h1',if_pos h2]
   rw [e] at hi
   simp only [List.mem_cons,List.mem_nil_iff,or_false] at hi
   rcases hi with hi | hi
   ·exact hne (192 + n / 64) (by omega) (by omega) hi
   ·exact hne (128 + n % 64) (by omega) (by omega) hi
  ·have e : (Utf8.encode (n : Int)).data.toList = [UInt8.ofNat (224 + n / 4096),UInt8.ofNat (128 + n / 64 % 64),UInt8.ofNat (128 + n % 64)]:=by
    unfold Utf8.encode; simp only [hv,if_true,Int.toNat_natCast]; rw [if_neg h1',if_neg h2,if_pos (by omega)]
   rw [e] at hi
   simp only [List.mem_cons,List.mem_nil_iff,or_false] at hi
   rcases hi with hi | hi | hi
   ·exact hne (224 + n / 4096) (by omega) (by omega) hi
   ·exact hne (128 + n / 64 % 64) (by omega) (by omega) hi
   ·exact hne (128 + n % 64) (by omega) (by omega) hi
theorem runes_slash {l : List Int} (h : ∀ r ∈ l,isChar r = true) (hm : (47 : UInt8) ∈ runesB l) : (47 : Int) ∈ l:=by
 induction l with
 | nil => simp [runesB] at hm
 | cons r l ih =>
  have e : runesB (r::l) = (Utf8.encode r).data.toList ++ runesB l:=by simp [runesB]
  rw [e,List.mem_append] at hm
  rcases hm with hm | hm
  ·rw [enc_slash (h r List.mem_cons_self) hm]; exact List.mem_cons_self
  ·exact List.mem_cons_of_mem _ (ih (fun x hx => h x (List.mem_cons_of_mem _ hx)) hm)
/-- Some characters are a name. -/
theorem nameOk_runes {l : List Int} (h : ∀ r ∈ l,isChar r = true) (h1 : 1 ≤ l.length) (h2 : l.length ≤ 64) (h3 : (47 : Int) ∉ l) (h4 : l ≠ [46]) (h5 : l ≠ [46,46]) : nameOk (runesB l) = true:=by
 have hc:=charsP_of l h
 have hlen:=runesB_len l
 have hd : charsP [46] = some [46]:=by decide +kernel
 have hdd : charsP [46,46] = some [46,46]:=by decide +kernel
 unfold nameOk
 rw [if_neg]
 ·have hch : chars (runesB l) = (l,0):=by
   unfold chars
   rw [if_neg (by omega),hc]
  rw [hch]
  simp [h1,h2]
 ·rintro (e | e | e)
  ·rw [e,hd] at hc; simp at hc; exact h4 hc.symm
  ·rw [e,hdd] at hc; simp at hc; exact h5 hc.symm
  ·exact h3 (runes_slash h e)

theorem jolC_slash (r : Int) : jolC r ≠ 47:=by
 unfold jolC
 split
 ·decide
 ·rename_i h
  intro e
  subst e
  exact h (by decide)
theorem isoC_slash (r : Int) : isoC r ≠ 47 ∧ isoC r ≠ 46:=by
 unfold isoC
 split
 ·constructor <;> omega
 ·split
  ·rename_i h
   constructor <;> (intro e; subst e; exact absurd h.2 (by decide))
  ·constructor <;> decide
theorem mapC_slash (v r : Int) : mapC v r ≠ 47:=by
 unfold mapC
 split
 ·exact (isoC_slash r).1
 ·exact jolC_slash r
theorem suf_digs {k : Nat} (hk : k < 100) : ∀ r ∈ sufI k,48 ≤ r ∧ r ≤ 57:=by
 revert k
 have : ∀ k : Fin 100,∀ r ∈ sufI k.1,48 ≤ r ∧ r ≤ 57:=by decide +kernel
 intro k hk
 exact this ⟨k,hk⟩
theorem suf_pos {k : Nat} (hk : k < 100) (h0 : 0 < k) : 1 ≤ (sufI k).length:=by
 revert k
 have : ∀ k : Fin 100,0 < k.1 → 1 ≤ (sufI k.1).length:=by decide +kernel
 intro k hk h0
 exact this ⟨k,hk⟩ h0
theorem dotI_le : ∀ l : List Int,dotI l < l.length ∧ -1 ≤ dotI l
 | [] => by simp [dotI]
 | x::r => by
  have:=dotI_le r
  simp only [dotI,List.length_cons]
  split
  ·omega
  ·split <;> omega
/-- A made name is a name. -/
theorem made_ok {v : Int} (hv : v = 0 ∨ v = 1) {s : List UInt8} (hs : nameOk s = true) (dir : Bool) {k : Nat} (hk : k < 100) : nameOk (numS v (wantS v s dir).1 (wantS v s dir).2 k) = true:=by
 obtain ⟨l,hc,_,_,hl1,hl2⟩:=name_chars hs
 obtain ⟨hb,hch⟩:=chars_bytes s.length s l (Nat.le_refl _) hc
 obtain ⟨q1,q2,q3⟩:=cut_chars v hc dir
 have hne46 : l ≠ [46]:=fun e => by
  subst e
  have : s = [46]:=by rw [← hb]; decide +kernel
  rw [this] at hs; revert hs; decide +kernel
 have hne4646 : l ≠ [46,46]:=fun e => by
  subst e
  have : s = [46,46]:=by rw [← hb]; decide +kernel
  rw [this] at hs; revert hs; decide +kernel
 obtain ⟨pc1,pc2⟩:=parts_char (v:=v) (dir:=dir) hch
 -- the parts
 have hparts : 1 ≤ (partsC v l dir).1.length ∧ (partsC v l dir).1.length ≤ 64 ∧ (v = 1 → (partsC v l dir).2.length ≤ 16) ∧ ((partsC v l dir).2 = [] → v = 1 → (partsC v l dir).1 = l):=by
  have hd:=dotI_le l
  unfold partsC
  split
  ·rename_i h
   refine ⟨by simp; omega,by simp; omega,fun h1 => ?_,fun h2 => ?_⟩
   ·rcases h.2.2.2 with h3 | h3
    ·omega
    ·simp; omega
   ·intro _
    rw [List.drop_eq_nil_iff] at h2
    omega
  ·split
   ·rename_i h
    exact ⟨by simp; omega,by simp; omega,fun _ => by simp,fun _ h1 => absurd h.2.1 (by omega)⟩
   ·exact ⟨hl1,hl2,fun _ => by simp,fun _ _ => rfl⟩
 have hw : wantS v s dir = ((partsC v l dir).1.map (mapC v),if (partsC v l dir).2 = [] then [] else 46::((partsC v l dir).2.map (mapC v)).take (mostC v)):=by
  unfold wantS
  rw [q1,q2]
  by_cases h : (partsC v l dir).2 = []
  ·rw [if_pos (q3.2 h),if_pos h]
  ·rw [if_neg (fun e => h (q3.1 e)),if_neg h]
 rw [hw]
 generalize (partsC v l dir).1 = a at *
 generalize (partsC v l dir).2 = b at *
 dsimp only
 obtain ⟨ha1,ha2,hb16,hbn⟩:=hparts
 have hA : ∀ r ∈ a.map (mapC v),isChar r = true ∧ r ≠ 47:=fun r hr => by
  obtain ⟨x,hx,rfl⟩:=List.mem_map.1 hr
  exact ⟨mapC_char (pc1 x hx),mapC_slash v x⟩
 generalize hE : (if b = [] then [] else 46::(b.map (mapC v)).take (mostC v)) = ex
 have hEx : (∀ r ∈ ex,isChar r = true ∧ r ≠ 47) ∧ (ex = [] ∨ 2 ≤ ex.length) ∧ (v = 0 → ex.length ≤ 4) ∧ (v = 1 → ex.length ≤ 17) ∧ (ex = [] → b = []):=by
  rw [← hE]
  by_cases h : b = []
  ·rw [if_pos h]
   exact ⟨fun r hr => by (cases hr),.inl rfl,fun _ => by (simp),fun _ => by (simp),fun _ => h⟩
  ·rw [if_neg h]
   have hbl : 1 ≤ b.length:=by cases b with | nil => exact absurd rfl h | cons x r => simp
   refine ⟨fun r hr => ?_,.inr ?_,fun h0 => ?_,fun h1 => ?_,fun e => by cases e⟩
   ·rcases List.mem_cons.1 hr with rfl | hr
    ·exact ⟨by decide,by decide⟩
    ·obtain ⟨x,hx,rfl⟩:=List.mem_map.1 (List.mem_of_mem_take hr)
     exact ⟨mapC_char (pc2 x hx),mapC_slash v x⟩
   ·have : 1 ≤ mostC v:=by unfold mostC; split <;> omega
    simp; omega
   ·have : mostC v = 3:=by unfold mostC; rw [if_pos h0]
    simp; omega
   ·have:=hb16 h1
    simp; omega
 obtain ⟨he1,he2,he3,he4,he5⟩:=hEx
 have hS:=suf_digs hk
 have hSl:=sufI_len hk
 have hst : stemN v (a.map (mapC v)) ex k ≤ a.length ∧ 1 ≤ stemN v (a.map (mapC v)) ex k ∧ stemN v (a.map (mapC v)) ex k + (sufI k).length + ex.length ≤ 64 ∧ (v = 1 → k = 0 → ex = [] → stemN v (a.map (mapC v)) ex k = a.length):=by
  unfold stemN roomI
  rw [List.length_map]
  rcases hv with rfl | rfl
  ·have:=he3 rfl
   rw [show ((0 : Int) == 1) = false from rfl,cond_false]
   refine ⟨by split <;> split <;> omega,by split <;> split <;> omega,by split <;> split <;> omega,fun h => by omega⟩
  ·have:=he4 rfl
   rw [show ((1 : Int) == 1) = true from rfl,cond_true]
   refine ⟨by split <;> split <;> omega,by split <;> split <;> omega,by split <;> split <;> omega,fun _ h0 h1 => ?_⟩
   subst h0 h1
   have : (sufI 0).length = 0:=rfl
   rw [this]
   simp only [List.length_nil]
   split <;> split <;> omega
 obtain ⟨hs1,hs2,hs3,hs4⟩:=hst
 rw [numS]
 have htl : ((a.map (mapC v)).take (stemN v (a.map (mapC v)) ex k)).length = stemN v (a.map (mapC v)) ex k:=by simp; omega
 generalize hN : stemN v (a.map (mapC v)) ex k = N at *
 have hall : ∀ r ∈ (a.map (mapC v)).take N ++ sufI k ++ ex,isChar r = true ∧ r ≠ 47:=fun r hr => by
  rcases List.mem_append.1 hr with hr | hr
  ·rcases List.mem_append.1 hr with hr | hr
   ·exact hA r (List.mem_of_mem_take hr)
   ·have:=hS r hr
    exact ⟨(isChar_iff r).2 (by omega),by omega⟩
  ·exact he1 r hr
 have hlen : ((a.map (mapC v)).take N ++ sufI k ++ ex).length = N + (sufI k).length + ex.length:=by
  rw [List.length_append,List.length_append,htl]
 -- not one or two points
 have hpt : ∀ m : Nat,1 ≤ m → m ≤ 2 → (a.map (mapC v)).take N ++ sufI k ++ ex = List.replicate m 46 → l = List.replicate m 46:=fun m hm1 hm2 e => by
  have hel:=congrArg List.length e
  rw [hlen,List.length_replicate] at hel
  have hex : ex = []:=by
   rcases he2 with h | h
   ·exact h
   ·omega
  have hbn':=he5 hex
  have hk0 : k = 0:=by
   rcases Nat.eq_zero_or_pos k with h | h
   ·exact h
   ·exfalso
    have h1:=suf_pos hk h
    obtain ⟨x,hx⟩ : ∃ x,x ∈ sufI k:=by
     cases hsx : sufI k with
     | nil => rw [hsx] at h1; simp at h1
     | cons x r => exact ⟨x,List.mem_cons_self⟩
    have h2:=hS x hx
    have h3 : x ∈ List.replicate m (46 : Int):=by rw [← e]; simp [hx]
    have:=(List.mem_replicate.1 h3).2
    omega
  subst hk0 hex
  have hsz : (sufI 0) = []:=rfl
  rw [hsz,List.append_nil,List.append_nil] at e
  rcases hv with rfl | rfl
  ·exfalso
   cases a with
   | nil => simp at ha1
   | cons x r =>
    obtain ⟨N',rfl⟩ : ∃ N',N = N' + 1:=⟨N - 1,by omega⟩
    have h3 : mapC 0 x ∈ List.replicate m (46 : Int):=by rw [← e]; simp
    have h4:=(List.mem_replicate.1 h3).2
    exact (isoC_slash x).2 (by simpa [mapC] using h4)
  ·have hNa:=hs4 rfl rfl rfl
   rw [hNa,List.take_of_length_le (by simp)] at e
   have hal : a = l:=hbn hbn' rfl
   subst hal
   have hmm : ∀ x ∈ a,x = 46:=fun x hx => by
    have h3 : mapC 1 x ∈ List.replicate m (46 : Int):=by rw [← e]; exact List.mem_map.2 ⟨x,hx,rfl⟩
    have h4:=(List.mem_replicate.1 h3).2
    have h5 : jolC x = 46:=by simpa [mapC] using h4
    unfold jolC at h5
    split at h5
    ·omega
    ·exact h5
   refine List.eq_replicate_iff.2 ⟨?_,hmm⟩
   have:=congrArg List.length e
   simpa using this
 refine nameOk_runes (fun r hr => (hall r hr).1) (by rw [hlen]; omega) (by rw [hlen]; omega) (fun hm => (hall 47 hm).2 rfl) (fun e => ?_) (fun e => ?_)
 ·exact hne46 (hpt 1 (by omega) (by omega) e)
 ·exact hne4646 (hpt 2 (by omega) (by omega) e)
theorem pickG_ok {v : Int} (hv : viewOk v = true) {k : NV} (hk : nameOk k.name = true) {U : List (List UInt8)} (hU : U.length ≤ 64) : nameOk (pickG v U k) = true:=by
 unfold pickG
 split
 ·rename_i h
  exact made_ok h hk (k.kind == 0) (fresh_ok v U _ _ hU).1
 ·exact hk
theorem usedG_ok {v : Int} (hv : viewOk v = true) (ks : List NV) : ks.length ≤ 64 → (∀ k ∈ ks,nameOk k.name = true) → ∀ m ∈ usedG v ks,nameOk m = true:=by
 refine snoc_rec (p:=fun ks => ks.length ≤ 64 → (∀ k ∈ ks,nameOk k.name = true) → ∀ m ∈ usedG v ks,nameOk m = true) (fun _ _ m hm => by simp [usedG] at hm) (fun l x ih hl h m hm => ?_) ks
 simp at hl
 rw [usedG_snoc] at hm
 rcases List.mem_cons.1 hm with rfl | hm
 ·exact pickG_ok hv (h x (by simp)) (by rw [usedG_len]; omega)
 ·exact ih (by omega) (fun k hk => h k (by simp [hk])) m hm
theorem namesG_ok {v : Int} (hv : viewOk v = true) {ks : List NV} (h64 : ks.length ≤ 64) (h : ∀ k ∈ ks,nameOk k.name = true) : ∀ m ∈ namesG v ks,nameOk m = true:=fun m hm => usedG_ok hv ks h64 h m (List.mem_reverse.1 hm)
end Go.Tame.V
/- Made names,made again: the same. A shown tree,shown again. Plain. -/
namespace Go.Tame.V
open Go Go.Proofs
set_option maxRecDepth 10000
set_option linter.unusedVariables false
set_option linter.unusedSimpArgs false

theorem want_runes (v : Int) {l : List Int} (h : ∀ r ∈ l,isChar r = true) (dir : Bool) :
  wantS v (runesB l) dir = ((partsC v l dir).1.map (mapC v),if (partsC v l dir).2 = [] then [] else 46::((partsC v l dir).2.map (mapC v)).take (mostC v)):=by
 obtain ⟨q1,q2,q3⟩:=cut_chars v (charsP_of l h) dir
 unfold wantS
 rw [q1,q2]
 by_cases h : (partsC v l dir).2 = []
 ·rw [if_pos (q3.2 h),if_pos h]
 ·rw [if_neg (fun e => h (q3.1 e)),if_neg h]
/-- Characters that Joliet allows. -/
def jolOk (l : List Int) : Prop:=(∀ r ∈ l,isChar r = true ∧ jolC r = r) ∧ l.length ≤ 64
/-- A stem and an extension of the ISO view. -/
structure IsoOk (dir : Bool) (l : List Int) (a b : List Int) : Prop where
 a1 : 1 ≤ a.length
 a8 : a.length ≤ 8
 b3 : b.length ≤ 3
 ca : ∀ r ∈ a,isChar r = true ∧ isoC r = r
 cb : ∀ r ∈ b,isChar r = true ∧ isoC r = r
 dir : dir = true → b = []
 eq : l = if b = [] then a else a ++ 46::b
end Go.Tame.V
/- What made names look like; they are made of themselves. Plain. -/
namespace Go.Tame.V
open Go Go.Proofs
set_option maxRecDepth 10000
set_option linter.unusedVariables false
set_option linter.unusedSimpArgs false

theorem iso_idem {r : Int} (h : isChar r = true) : isoC (isoC r) = isoC r:=by
 obtain ⟨h1,_,_⟩:=(isChar_iff r).1 h
 by_cases h2 : 97 ≤ r ∧ r ≤ 122
 ·have e : isoC r = r - 97 + 65:=by rw [isoC,if_pos h2]
  rw [e,isoC,if_neg (by omega),if_pos ⟨by omega,by simp [dB]; omega⟩]
 ·by_cases h3 : r < 128 ∧ dB r = true
  ·have e : isoC r = r:=by rw [isoC,if_neg h2,if_pos h3]
   rw [e,e]
  ·have e : isoC r = 95:=by rw [isoC,if_neg h2,if_neg h3]
   rw [e]; decide
theorem jol_idem (r : Int) : jolC (jolC r) = jolC r:=by
 by_cases h : special r = true
 ·have e : jolC r = 95:=by rw [jolC,if_pos h]
  rw [e]; decide
 ·have e : jolC r = r:=by rw [jolC,if_neg h]
  rw [e,e]
theorem digit_fix {r : Int} (h : 48 ≤ r ∧ r ≤ 57) : isChar r = true ∧ isoC r = r ∧ jolC r = r:=by
 refine ⟨(isChar_iff r).2 (by omega),?_,?_⟩
 ·rw [isoC,if_neg (by omega),if_pos ⟨by omega,by simp [dB]; omega⟩]
 ·rw [jolC,if_neg]
  simp [special]; omega
/-- A made name,taken apart. -/
theorem made_shape {v : Int} (hv : v = 0 ∨ v = 1) {s : List UInt8} (hs : nameOk s = true) (dir : Bool) {k : Nat} (hk : k < 100) :
  ∃ l,numS v (wantS v s dir).1 (wantS v s dir).2 k = runesB l ∧ (v = 0 → ∃ a b,IsoOk dir l a b) ∧ jolOk l:=by
 obtain ⟨l,hc,_,_,hl1,hl2⟩:=name_chars hs
 obtain ⟨hb,hch⟩:=chars_bytes s.length s l (Nat.le_refl _) hc
 obtain ⟨pc1,pc2⟩:=parts_char (v:=v) (dir:=dir) hch
 have hw:=want_runes v hch dir
 rw [hb] at hw
 have hparts : 1 ≤ (partsC v l dir).1.length ∧ (v = 1 → (partsC v l dir).2.length ≤ 16) ∧ (dir = true → (partsC v l dir).2 = []):=by
  have hd:=dotI_le l
  unfold partsC
  split
  ·rename_i h
   refine ⟨by simp; omega,fun h1 => ?_,fun h2 => ?_⟩
   ·rcases h.2.2.2 with h3 | h3
    ·omega
    ·simp; omega
   ·rw [h.1] at h2; cases h2
  ·split
   ·rename_i h
    exact ⟨by simp; omega,fun _ => by simp,fun _ => rfl⟩
   ·exact ⟨hl1,fun _ => by simp,fun _ => rfl⟩
 rw [hw]
 generalize (partsC v l dir).1 = a at *
 generalize (partsC v l dir).2 = b at *
 obtain ⟨ha1,hb16,hdir⟩:=hparts
 dsimp only
 refine ⟨_,rfl,fun h0 => ?_,?_⟩
 ·subst h0
  have hS:=suf_digs hk
  have hSl:=sufI_len hk
  have hst : stemN 0 (a.map (mapC 0)) (if b = [] then [] else 46::(b.map (mapC 0)).take (mostC 0)) k + (sufI k).length ≤ 8 ∧ 1 ≤ stemN 0 (a.map (mapC 0)) (if b = [] then [] else 46::(b.map (mapC 0)).take (mostC 0)) k:=by
   unfold stemN roomI
   rw [List.length_map,show ((0 : Int) == 1) = false from rfl,cond_false]
   refine ⟨by split <;> split <;> omega,by split <;> split <;> omega⟩
  generalize stemN 0 (a.map (mapC 0)) (if b = [] then [] else 46::(b.map (mapC 0)).take (mostC 0)) k = N at *
  have hmost : mostC 0 = 3:=by decide
  rw [hmost]
  have hfix : ∀ x : List Int,(∀ r ∈ x,isChar r = true) → ∀ r ∈ x.map (mapC 0),isChar r = true ∧ isoC r = r:=fun x hx r hr => by
   obtain ⟨y,hy,rfl⟩:=List.mem_map.1 hr
   have e : mapC 0 y = isoC y:=by simp [mapC]
   rw [e]
   exact ⟨by have:=mapC_char (v:=0) (hx y hy); rwa [e] at this,iso_idem (hx y hy)⟩
  refine ⟨(a.map (mapC 0)).take N ++ sufI k,(b.map (mapC 0)).take 3,?_⟩
  refine ⟨by simp; omega,by simp; omega,by simp; omega,fun r hr => ?_,fun r hr => hfix b pc2 r (List.mem_of_mem_take hr),fun hd => by rw [hdir hd]; rfl,?_⟩
  ·rcases List.mem_append.1 hr with hr | hr
   ·exact hfix a pc1 r (List.mem_of_mem_take hr)
   ·have:=digit_fix (hS r hr)
    exact ⟨this.1,this.2.1⟩
  ·by_cases hbn : b = []
   ·subst hbn; simp
   ·have hb3 : ¬ (b.map (mapC 0)).take 3 = []:=by
     cases b with
     | nil => exact absurd rfl hbn
     | cons x r => simp
    rw [if_neg hbn,if_neg hb3]
 ·have hS:=suf_digs hk
  have hSl:=sufI_len hk
  have hfix : ∀ x : List Int,(∀ r ∈ x,isChar r = true) → ∀ r ∈ x.map (mapC v),isChar r = true ∧ jolC r = r:=fun x hx r hr => by
   obtain ⟨y,hy,rfl⟩:=List.mem_map.1 hr
   refine ⟨mapC_char (hx y hy),?_⟩
   unfold mapC
   split
   ·-- a d-character or a line
    have h1:=iso_idem (hx y hy)
    rw [jolC,if_neg]
    intro hsp
    generalize isoC y = z at *
    have hz : z = 42 ∨ z = 47 ∨ z = 58 ∨ z = 59 ∨ z = 63 ∨ z = 92:=by simp [special] at hsp; omega
    rcases hz with rfl | rfl | rfl | rfl | rfl | rfl <;> revert h1 <;> decide
   ·exact jol_idem y
  have hex : ∀ r ∈ (if b = [] then [] else 46::(b.map (mapC v)).take (mostC v)),isChar r = true ∧ jolC r = r:=fun r hr => by
   split at hr
   ·cases hr
   ·rcases List.mem_cons.1 hr with rfl | hr
    ·exact ⟨by decide,by decide⟩
    ·exact hfix b pc2 r (List.mem_of_mem_take hr)
  have hexl : (if b = [] then [] else 46::(b.map (mapC v)).take (mostC v)).length ≤ 17 ∧ (v = 0 → (if b = [] then [] else 46::(b.map (mapC v)).take (mostC v)).length ≤ 4):=by
   split
   ·simp
   ·refine ⟨?_,fun h0 => ?_⟩
    ·rcases hv with h0 | h1
     ·have : mostC v = 3:=by unfold mostC; rw [if_pos h0]
      simp; omega
     ·have:=hb16 h1
      simp; omega
    ·have : mostC v = 3:=by unfold mostC; rw [if_pos h0]
     simp; omega
  generalize (if b = [] then [] else 46::(b.map (mapC v)).take (mostC v)) = ex at *
  have hst : stemN v (a.map (mapC v)) ex k + (sufI k).length + ex.length ≤ 64:=by
   unfold stemN roomI
   rw [List.length_map]
   rcases hv with rfl | rfl
   ·have:=hexl.2 rfl
    rw [show ((0 : Int) == 1) = false from rfl,cond_false]
    split <;> split <;> omega
   ·rw [show ((1 : Int) == 1) = true from rfl,cond_true]
    split <;> split <;> omega
  refine ⟨fun r hr => ?_,by simp; omega⟩
  rcases List.mem_append.1 hr with hr | hr
  ·rcases List.mem_append.1 hr with hr | hr
   ·exact hfix a pc1 r (List.mem_of_mem_take hr)
   ·have:=digit_fix (hS r hr)
    exact ⟨this.1,this.2.2⟩
  ·exact hex r hr
end Go.Tame.V
/- A shown tree is valid,and shows itself. Plain. -/
namespace Go.Tame.V
open Go Go.Proofs
set_option maxRecDepth 10000
set_option linter.unusedVariables false
set_option linter.unusedSimpArgs false

theorem nz_none {f : Nat → Int} : ∀ {k i : Nat},(∀ j,i ≤ j → j < i + k → f j = 0) → firstNZ f i k = 0
 | 0,i,_ => rfl
 | k + 1,i,h => by
  simp only [firstNZ]
  rw [if_pos (h i (Nat.le_refl _) (by omega))]
  exact nz_none fun j h1 h2 => h j (by omega) (by omega)
/-- The rules hold. -/
theorem one_of {n : NV} {l : Int} (h : Good n l) (hl : 1 ≤ l) : one n l = 0:=by
 refine nz_none fun i _ hi => ?_
 have hk:=h.kind0
 match i,hi with
 | 0,_ =>
  have : cKind n l = false:=by
   simp only [cKind,Bool.or_eq_false_iff,Bool.and_eq_false_iff,decide_eq_false_iff_not,beq_eq_false_iff_ne,Bool.not_eq_false',beq_iff_eq]
   refine ⟨⟨by omega,by omega⟩,?_⟩
   by_cases h1 : l = 1
   ·exact .inr (h.kind1 h1)
   ·exact .inl h1
  simp [ruleI,rKind,this]
 | 1,_ =>
  have : cName n l = false:=by
   simp only [cName,Bool.or_eq_false_iff,Bool.and_eq_false_iff,decide_eq_false_iff_not,beq_eq_false_iff_ne,Bool.not_eq_false',beq_iff_eq]
   by_cases h1 : l = 1
   ·exact ⟨.inr (h.name1 h1),.inl (by omega)⟩
   ·exact ⟨.inl h1,.inr (h.name2 (by omega))⟩
  simp [ruleI,rName,this]
 | 2,_ =>
  have : cParts n = false:=by
   simp only [cParts,Bool.or_eq_false_iff,Bool.and_eq_false_iff,decide_eq_false_iff_not,beq_eq_false_iff_ne,Bool.not_eq_false',beq_iff_eq]
   refine ⟨⟨?_,?_⟩,?_⟩
   ·by_cases h1 : n.kind = 1
    ·exact .inl h1
    ·have:=h.file h1
     exact .inr ⟨this.1,by rw [this.2]; simp⟩
   ·by_cases h1 : n.kind = 2
    ·exact .inl h1
    ·exact .inr (h.link h1)
   ·by_cases h1 : n.kind = 0
    ·exact .inl h1
    ·exact .inr (by rw [h.dir h1]; simp)
  simp [ruleI,rParts,this]
 | 3,_ =>
  have : cTarget n = false:=by
   simp only [cTarget,Bool.and_eq_false_iff,beq_eq_false_iff_ne,Bool.not_eq_false']
   by_cases h1 : n.kind = 2
   ·exact .inr (h.target h1)
   ·exact .inl h1
  simp [ruleI,rTarget,this]
 | 4,_ =>
  have h1:=h.n1; have h2:=h.n2; have h3:=h.n3; have h4:=h.n4; have h5:=h.n5; have h6:=h.n6
  have : cNumbers n = false:=by
   simp only [cNumbers,within,Bool.or_eq_false_iff,Bool.not_eq_false',Bool.and_eq_true,decide_eq_true_eq]
   exact ⟨⟨⟨⟨⟨h1,h2⟩,h3⟩,h4⟩,h5⟩,h6⟩
  simp [ruleI,rNumbers,this]
 | 5,_ =>
  have h1:=h.level; have h2:=h.size; have h3:=h.kids64; have h4:=h.streams4
  have hc : cSizes n l = false:=by
   simp only [cSizes,Bool.or_eq_false_iff,decide_eq_false_iff_not]
   exact ⟨⟨⟨by omega,by omega⟩,by omega⟩,by omega⟩
  simp only [ruleI,rSizes,hc]
  rw [if_neg (by simp)]
  refine nz_none fun j _ hj => ?_
  have:=(h.streams j (by omega)).1
  simp [fZ]; omega
 | 6,_ =>
  simp only [ruleI,rStreams]
  exact nz_none fun j _ hj => (h.streams j (by omega)).2
 | 7,_ =>
  simp only [ruleI,rKids]
  refine nz_none fun j h1 hj => ?_
  have hlt:=h.inc (j - 1) (by omega)
  have e : j - 1 + 1 = j:=by omega
  rw [e] at hlt
  have hlt' : Op.bytesLess (kAt n (j - 1)).name (kAt n j).name = true:=hlt
  simp only [fK,ordE]
  rw [if_neg (bl_ne hlt'),if_neg (by rw [bl_asymm hlt']; simp)]

mutual
theorem cnt_show (nm : List NV → List (List UInt8)) (v : Int) : ∀ (n : NV) (d : Int),cnt (showG nm v d n) ≤ cnt n
 | .mk a b c t e f g h i j ks ss,d => by
  have h1:=cntL_show nm v ks (nm ks) (d + 1)
  have h2 : cntL (sortN (showGL nm v (d + 1) ks (nm ks))) = cntL (showGL nm v (d + 1) ks (nm ks)):=cntL_perm (sortN_perm _)
  simp only [showG,cnt]; omega
theorem cntL_show (nm : List NV → List (List UInt8)) (v : Int) : ∀ (l : List NV) (ms : List (List UInt8)) (d : Int),cntL (showGL nm v d l ms) ≤ cntL l
 | [],ms,d => by simp [showGL]
 | k::r,[],d => by simp [showGL,cntL]
 | k::r,m::ms,d => by
  have h1:=cnt_show nm v k d
  have h2:=cntL_show nm v r ms d
  have h3 : cnt ((showG nm v d k).named m) = cnt (showG nm v d k):=by rw [cnt_eq,cnt_eq]; rfl
  simp only [showGL]
  split
  ·simp only [cntL]; omega
  ·simp only [cntL]; omega
theorem cntL_perm {a b : List NV} (h : a.Perm b) : cntL a = cntL b:=by
 induction h with
 | nil => rfl
 | cons x _ ih => simp only [cntL,ih]
 | swap x y l => simp only [cntL]; omega
 | trans _ _ h1 h2 => exact h1.trans h2
end
mutual
theorem good_show {v : Int} (hv : viewOk v = true) : ∀ (n : NV) (l : Int) (m : List UInt8),1 ≤ l → goodB n l = true → (l = 1 → m = []) → (1 < l → nameOk m = true) → goodB ((showG (namesG v) v l n).named m) l = true
 | .mk a b c t e f g h i j ks ss,l,m,hl,hg,hm1,hm2 => by
  obtain ⟨G,hL⟩:=goodB_good hg
  have hok:=good_okT _ l hl hg
  simp only [okT] at hok
  have hgl:=good_showL hv ks (namesG v ks) (l + 1) (by omega) hL fun x hx => namesG_ok hv hok.1 (fun k hk => (okL_get hok.2.2.2 hk).1.1) x hx
  have hp:=sortN_perm (showGL (namesG v) v (l + 1) ks (namesG v ks))
  have hlen:=showGL_len (namesG v) v (l + 1) ks (namesG v ks)
  have hnd : ((showGL (namesG v) v (l + 1) ks (namesG v ks)).map NV.name).Nodup :=
   (showGL_names (namesG v) v (l + 1) ks (namesG v ks)).nodup (namesG_nd hv hok.1 hok.2.2.1)
  rw [goodB_eq,Bool.and_eq_true]
  refine ⟨?_,goodL_of fun k hk => ?_⟩
  ·rw [beq_iff_eq]
   refine one_of ?_ hl
   rw [showG_eq]
   have h64 : ks.length ≤ 64:=G.kids64
   have hss : ∀ (P : List SV → Prop),P ss → P [] → P (if v = 3 then ss else []):=fun P h1 h2 => by split <;> assumption
   exact {
    kind0:=G.kind0
    kind1:=G.kind1
    name1:=hm1
    name2:=hm2
    file:=fun h1 => ⟨(G.file h1).1,hss (fun x => x = []) (G.file h1).2 rfl⟩
    link:=G.link
    dir:=fun h1 => by
     have : ks = []:=G.dir h1
     subst this
     show sortN (showGL (namesG v) v (l + 1) [] (namesG v [])) = []
     simp [showGL,sortN]
    target:=G.target
    n1:=by have:=G.n1; show 0 ≤ (if keeps v = true then e else 0) ∧ (if keeps v = true then e else 0) ≤ 4095; split <;> omega
    n2:=by have:=G.n2; show 0 ≤ (if keeps v = true then f else 0) ∧ (if keeps v = true then f else 0) ≤ 65535; split <;> omega
    n3:=by have:=G.n3; show 0 ≤ (if keeps v = true then g else 0) ∧ (if keeps v = true then g else 0) ≤ 65535; split <;> omega
    n4:=G.n4
    n5:=by show (-1048576 : Int) ≤ 0 ∧ (0 : Int) ≤ 1048576; omega
    n6:=by show (0 : Int) ≤ 0 ∧ (0 : Int) ≤ 15; omega
    level:=G.level
    size:=G.size
    kids64:=by show (sortN (showGL (namesG v) v (l + 1) ks (namesG v ks))).length ≤ 64; rw [hp.length_eq]; omega
    streams4:=by have : ss.length ≤ 4:=G.streams4; show (if v = 3 then ss else []).length ≤ 4; split <;> first | omega | simp
    streams:=fun i hi => by
     have hs:=G.streams
     by_cases h3 : v = 3
     ·subst h3; exact hs i hi
     ·exfalso
      have : (if v = 3 then ss else ([] : List SV)) = []:=if_neg h3
      have hi' : i < (if v = 3 then ss else ([] : List SV)).length:=hi
      rw [this] at hi'; simp at hi'
    inc:=sortN_inc hnd }
  ·have hk' : k ∈ sortN (showGL (namesG v) v (l + 1) ks (namesG v ks)):=by
    rw [showG_eq] at hk; exact hk
   exact hgl k (hp.subset hk')
theorem good_showL {v : Int} (hv : viewOk v = true) : ∀ (ks : List NV) (ms : List (List UInt8)) (l : Int),2 ≤ l → goodL ks l = true → (∀ m ∈ ms,nameOk m = true) → ∀ k ∈ showGL (namesG v) v l ks ms,goodB k l = true
 | [],ms,l,_,_,_ => by simp [showGL]
 | k::r,[],l,_,_,_ => by simp [showGL]
 | k::r,m::ms,l,hl,hg,hm => by
  simp only [goodL,Bool.and_eq_true] at hg
  intro x hx
  have ih:=good_showL hv r ms l hl hg.2 fun y hy => hm y (List.mem_cons_of_mem _ hy)
  simp only [showGL] at hx
  split at hx
  ·rcases List.mem_cons.1 hx with rfl | hx
   ·exact good_show hv k l m (by omega) hg.1 (fun e => by omega) fun _ => hm m List.mem_cons_self
   ·exact ih x hx
  ·exact ih x hx
theorem namesG_nd {v : Int} (hv : viewOk v = true) {ks : List NV} (h64 : ks.length ≤ 64) (hi : inc ks) : (namesG v ks).Nodup:=by
 rcases view4 hv with h | h | h | h
 ·rw [namesG01 (.inl h),namesA,List.nodup_iff_pairwise_ne,List.pairwise_reverse]; exact (List.nodup_iff_pairwise_ne.1 (usedOf_nodup v ks h64)).imp Ne.symm
 ·rw [namesG01 (.inr h),namesA,List.nodup_iff_pairwise_ne,List.pairwise_reverse]; exact (List.nodup_iff_pairwise_ne.1 (usedOf_nodup v ks h64)).imp Ne.symm
 ·rw [namesG23 (.inl h)]; exact inc_nodup hi
 ·rw [namesG23 (.inr h)]; exact inc_nodup hi
end
/-- The tree of a view is a valid tree. -/
theorem show_valid {v : Int} (hv : viewOk v = true) {n : NV} (h : valid n = true) : valid (showG (namesG v) v 1 n) = true:=by
 have hn:=valid_name' h
 rw [valid_good,Bool.and_eq_true,decide_eq_true_eq] at h ⊢
 have h1:=cnt_show (namesG v) v n 1
 have h2:=good_show hv n 1 [] (Int.le_refl _) h.2 (fun _ => rfl) (fun e => absurd e (by omega))
 have e : (showG (namesG v) v 1 n).named [] = showG (namesG v) v 1 n:=by rw [showG_eq]; simp only [NV.named,hn]
 rw [e] at h2
 exact ⟨by omega,h2⟩
where
 valid_name' {n : NV} (h : valid n = true) : n.name = []:=by
  rw [valid_good,Bool.and_eq_true] at h
  exact (goodB_good h.2).1.name1 rfl

theorem namesG_at {v : Int} {ks : List NV} {t : Nat} (ht : t < ks.length) : (namesG v ks)[t]'(by rw [namesG_len]; exact ht) = pickG v (usedG v (ks.take t)) ks[t]:=by
 have e : ∀ ks : List NV,∀ m,m ≤ ks.length → (usedG v ks).reverse.take m = (usedG v (ks.take m)).reverse:=by
  intro ks
  refine snoc_rec (p:=fun ks => ∀ m,m ≤ ks.length → (usedG v ks).reverse.take m = (usedG v (ks.take m)).reverse) (fun m hm => by simp at hm; subst hm; rfl) (fun l x ih m hm => ?_) ks
  rw [usedG_snoc,List.reverse_cons]
  by_cases hml : m ≤ l.length
  ·rw [List.take_append_of_le_length (by simp [usedG_len]; exact hml),ih m hml,List.take_append_of_le_length hml]
  ·have hm' : m = l.length + 1:=by simp at hm; omega
   subst hm'
   rw [List.take_of_length_le (by simp [usedG_len]),List.take_of_length_le (by simp),usedG_snoc,List.reverse_cons]
 have h2:=e ks (t + 1) (by omega)
 have h3 : (namesG v ks)[t]? = ((namesG v ks).take (t + 1))[t]?:=by rw [List.getElem?_take,if_pos (by omega)]
 have h4 : (namesG v ks).take (t + 1) = (usedG v (ks.take (t + 1))).reverse:=h2
 rw [h4,usedG_take ht,List.reverse_cons,List.getElem?_append_right (by simp [usedG_len]; omega)] at h3
 have h5 : (usedG v (ks.take t)).reverse.length = t:=by simp [usedG_len]; omega
 rw [h5,Nat.sub_self,List.getElem?_eq_getElem (by rw [namesG_len]; exact ht)] at h3
 simpa using h3
end Go.Tame.V
/- The paths in a view of the nodes that it shows are the paths of the shown tree. Plain. -/
namespace Go.Tame.V
open Go Go.Proofs
set_option maxRecDepth 10000
set_option linter.unusedVariables false
set_option linter.unusedSimpArgs false

theorem pathsSL_flat : ∀ (ks : List NV) (p : List UInt8) (l : Int),pathsSL ks p l = ks.flatMap fun k => pathsS k (below p k.name (l + 1)) (l + 1)
 | [],p,l => by simp [pathsSL]
 | k::r,p,l => by simp only [pathsSL,List.flatMap_cons,pathsSL_flat r p l]
theorem pathsSL_perm {a b : List NV} (h : a.Perm b) (p : List UInt8) (l : Int) : (pathsSL a p l).Perm (pathsSL b p l):=by
 rw [pathsSL_flat,pathsSL_flat]; exact h.flatMap_right _
theorem pathsS_named (n : NV) (m p : List UInt8) (l : Int) : pathsS (n.named m) p l = pathsS n p l:=by cases n; simp only [NV.named,pathsS]
section
variable (nm : List NV → List (List UInt8)) (v : Int)
mutual
theorem prs_shown : ∀ (n : NV) (d : Int) (p q : List UInt8),1 ≤ d → ((prs nm v d n p q).map Prod.fst).Perm (pathsS (showG nm v d n) p d)
 | .mk _ _ _ _ _ _ _ _ _ _ ks _,d,p,q,hd => by
  simp only [prs,showG,pathsS,List.map_cons]
  exact ((prsL_shown ks (nm ks) d p q hd).trans (pathsSL_perm (sortN_perm _).symm p d)).cons _
theorem prsL_shown : ∀ (l : List NV) (ms : List (List UInt8)) (d : Int) (p q : List UInt8),1 ≤ d → ((prsL nm v d l ms p q).map Prod.fst).Perm (pathsSL (showGL nm v (d + 1) l ms) p d)
 | [],ms,d,p,q,hd => by simp [prsL,showGL,pathsSL]
 | k::r,[],d,p,q,hd => by simp [prsL,showGL,pathsSL]
 | k::r,m::ms,d,p,q,hd => by
  have ih:=prsL_shown r ms d p q hd
  simp only [prsL,showGL]
  split
  ·rw [List.map_append,joinQ_below p m hd]
   simp only [pathsSL]
   refine List.Perm.append ?_ ih
   rw [pathsS_named,show (NV.named (showG nm v (d + 1) k) m).name = m from rfl]
   exact prs_shown k (d + 1) _ _ (by omega)
  ·exact ih
end
end
end Go.Tame.V
/- Contracts: the other way of Path and Source. By program (mk.py). -/
namespace Go.Tame.V
open Go Go.Proofs
variable {W0 : World}
set_option maxRecDepth 10000
set_option linter.unusedVariables false
set_option linter.unusedSimpArgs false

end Go.Tame.V
/- Contracts: the chapter's example. By program (mk.py). -/
namespace Go.Tame.V
open Go Go.Proofs
variable {W0 : World}
set_option maxRecDepth 10000
set_option linter.unusedVariables false
set_option linter.unusedSimpArgs false

end Go.Tame.V
/- Contracts: identifiers. By program (mk.py). -/
namespace Go.Tame.V
open Go Go.Proofs
variable {W0 : World}
set_option maxRecDepth 10000
set_option linter.unusedVariables false
set_option linter.unusedSimpArgs false

theorem G81 (hL : LibOk W0) (s p : List UInt8) (hs : s.length < 4294967281) : DFun Tryz.prog W0 81 [.str s,.str p] (.tup [.str (Lib.cut s p).1,.str (Lib.cut s p).2.1,.bool (Lib.cut s p).2.2]):=by
 obtain ⟨m,hm⟩:=hL.maxlen
 exact .lift (callable Tryz.func81 rfl (by decide +kernel)) rfl fun w hb => (Tryz.strings_Cut ⟨⟨s⟩⟩ ⟨⟨p⟩⟩ m w hs (cell_base hb hm)).mono fun e w' ⟨he,n,hw⟩ => by
  subst hw
  exact ⟨_,he,fun C => .tup _ _ rfl fun i d v hd hv => by
   match i with
   | 0 => cases hd; cases hv; exact .str _
   | 1 => cases hd; cases hv; exact .str _
   | 2 => cases hd; cases hv; exact .bool _
   | i + 3 => simp at hd,⟨rfl,rfl,rfl,Nat.le_refl _,fun _ _ => rfl⟩⟩
def cutSuf (s p : List UInt8) : List UInt8 × Bool:=if Lib.hasSuffix s p then (s.take (s.length - p.length),true) else (s,false)
def isDB (s : List UInt8) (m : Int) : Bool:=decide ((1 : Int) ≤ s.length) && (decide ((s.length : Int) ≤ m) && dStr s)
theorem G82 (s : List UInt8) (m : Int) : DFun Tryz.prog W0 82 [.str s,.int .i64 m] (.bool (isDB s m)):=by
 refine DFun.intro ti_ok Tryz.func82 rfl (by decide +kernel) Tryz.ntmps82 rfl fun Γ => ?_
 refine Tri.seq ?_
 refine Tri.region ti_ok ?_
 conv => whnf
 refine Tri.seq ?_
 refine Tri.region ti_ok ?_
 conv => whnf
 refine ⟨fun h => h,?_⟩
 conv => whnf
 refine ⟨fun h => h,?_⟩
 conv => whnf
 refine ⟨fun h => h,?_⟩
 conv => whnf
 refine ⟨fun h0 h => by first | exact h | (rw [h]; rfl) | (rw [h0,h]; rfl),?_⟩
 conv => whnf
 refine ⟨fun h => h,?_⟩
 conv => whnf
 refine ⟨[.str s],_,fun h => F171 s,⟨.refl _,trivial⟩,?_⟩
 conv => whnf
 refine ⟨fun h0 h => by first | exact h | (rw [h]; rfl) | (rw [h0,h]; rfl),?_⟩
 conv => whnf
 refine Tri.ret ?_
 conv => whnf
 refine DLe.of_eq (congrArg D.bool ?_)
 unfold isDB
 by_cases h1 : (1 : Int) ≤ s.length <;> by_cases h2 : (s.length : Int) ≤ m <;> simp [h1,h2]
/-- Whether a text can be a name in the ISO view. -/
def validI (s : List UInt8) (dir : Bool) : Bool:=!((Lib.cut s [46]).2.2 && (dir || !isDB (Lib.cut s [46]).2.1 3)) && isDB (Lib.cut s [46]).1 8
theorem G31 (hL : LibOk W0) (s : List UInt8) (dir : Bool) (hs : s.length < 1000000000) : DFun Tryz.prog W0 31 [.int .i64 0,.str s,.bool dir] (.bool (validI s dir)):=by
 refine DFun.intro ti_ok Tryz.func31 rfl (by decide +kernel) Tryz.ntmps31 rfl fun Γ => ?_
 refine Tri.seq ?_
 refine Tri.region ti_ok ?_
 conv => whnf
 refine Tri.seq ?_
 refine Tri.seq ?_
 refine Tri.region ti_ok ?_
 conv => whnf
 refine Tri.block ?_
 refine Tri.seq ?_
 refine Tri.region ti_ok ?_
 conv => whnf
 refine Tri.cond true rfl (fun hc => ?_) (fun hc => by cases hc)
 ·refine Tri.seq ?_
  refine Tri.region ti_ok ?_
  conv => whnf
  refine ⟨[.str s,.str [46]],_,fun _ => G81 hL s [46] (by omega),⟨.refl _,.refl _,trivial⟩,?_⟩
  conv => whnf
  refine Tri.seq ?_
  refine Tri.seq ?_
  refine Tri.region ti_ok ?_
  conv => whnf
  refine ⟨fun h => h,?_⟩
  conv => whnf
  refine ⟨fun h => h,?_⟩
  conv => whnf
  refine ⟨[.str (Lib.cut s [46]).2.1,.int .i64 3],_,fun h => G82 _ 3,⟨.refl _,.refl _,trivial⟩,?_⟩
  conv => whnf
  refine ⟨fun h => h,?_⟩
  conv => whnf
  refine ⟨fun h => h,?_⟩
  conv => whnf
  refine ⟨fun h0 h => by first | exact h | (rw [h]; rfl) | (rw [h0,h]; rfl),?_⟩
  conv => whnf
  refine ⟨fun h0 h => by first | exact h | (rw [h]; rfl) | (rw [h0,h]; rfl),?_⟩
  conv => whnf
  refine Tri.cond _ rfl (fun hc => ?_) (fun hc => ?_)
  ·refine Tri.seq ?_
   refine Tri.region ti_ok ?_
   conv => whnf
   refine Tri.ret ?_
   conv => whnf
   have hc' : ((Lib.cut s [46]).2.2 && (dir || !isDB (Lib.cut s [46]).2.1 3)) = true:=by revert hc; cases (Lib.cut s [46]).2.2 <;> cases dir <;> simp
   refine DLe.of_eq (congrArg D.bool ?_)
   rw [validI,hc']; rfl
  ·refine Tri.skip ?_
   conv => whnf
   refine Tri.seq ?_
   refine Tri.region ti_ok ?_
   conv => whnf
   refine ⟨[.str (Lib.cut s [46]).1,.int .i64 8],_,fun _ => G82 _ 8,⟨.refl _,.refl _,trivial⟩,?_⟩
   conv => whnf
   refine Tri.ret ?_
   conv => whnf
   have hc' : ((Lib.cut s [46]).2.2 && (dir || !isDB (Lib.cut s [46]).2.1 3)) = false:=by revert hc; cases (Lib.cut s [46]).2.2 <;> cases dir <;> simp
   refine DLe.of_eq (congrArg D.bool ?_)
   rw [validI,hc']; rfl
def hasDot (s : List UInt8) : Bool:=decide (0 ≤ Lib.indexByte s 46)
/-- What Identifier returns. -/
def identI (s : List UInt8) (dir : Bool) : List UInt8 × Int :=
 if validI s dir = true then if dir = true then (s,0) else if hasDot s = true then (s ++ [59,49],0) else (s ++ [46,59,49],0) else ([],4)
theorem G32 (hL : LibOk W0) (s : List UInt8) (dir : Bool) (hs : s.length < 1000000000) : DFun Tryz.prog W0 32 [.str s,.bool dir] (.tup [.str (identI s dir).1,.int .i64 (identI s dir).2]):=by
 refine DFun.intro ti_ok Tryz.func32 rfl (by decide +kernel) Tryz.ntmps32 rfl fun Γ => ?_
 refine Tri.seq ?_
 refine Tri.region ti_ok ?_
 conv => whnf
 refine Tri.seq ?_
 refine Tri.seq ?_
 refine Tri.region ti_ok ?_
 conv => whnf
 refine ⟨[.int .i64 0,.str s,.bool dir],_,fun _ => G31 hL s dir hs,⟨.refl _,.refl _,.refl _,trivial⟩,?_⟩
 conv => whnf
 refine Tri.cond _ rfl (fun hc => ?_) (fun hc => ?_)
 ·refine Tri.seq ?_
  refine Tri.region ti_ok ?_
  conv => whnf
  refine Tri.ret ?_
  conv => whnf
  have h : ¬ validI s dir = true:=by simpa using hc
  rw [identI,if_neg h]
  exact ⟨.refl _,.refl _,trivial⟩
 ·refine Tri.skip ?_
  conv => whnf
  refine Tri.seq ?_
  refine Tri.block ?_
  refine Tri.seq ?_
  have h : validI s dir = true:=by simpa using hc
  refine Tri.region ti_ok ?_
  conv => whnf
  refine Tri.cond dir rfl (fun hd => ?_) (fun hd => ?_)
  ·refine Tri.seq ?_
   refine Tri.region ti_ok ?_
   conv => whnf
   refine Tri.ret ?_
   conv => whnf
   rw [identI,if_pos h,if_pos hd]
   exact ⟨.refl _,.refl _,trivial⟩
  ·refine Tri.seq ?_
   refine Tri.region ti_ok ?_
   conv => whnf
   refine ⟨[.str s,.str [46]],_,fun _ => F119 s 46,⟨.refl _,.refl _,trivial⟩,?_⟩
   conv => whnf
   refine Tri.cond (hasDot s) rfl (fun h2 => ?_) (fun h2 => ?_)
   ·refine Tri.seq ?_
    refine Tri.region ti_ok ?_
    conv => whnf
    refine ⟨fun _ => by simp; omega,?_⟩
    conv => whnf
    refine Tri.ret ?_
    conv => whnf
    rw [identI,if_pos h,if_neg (by rw [hd]; simp),if_pos h2]
    exact ⟨.refl _,.refl _,trivial⟩
   ·refine Tri.skip ?_
    conv => whnf
    refine Tri.seq ?_
    refine Tri.region ti_ok ?_
    conv => whnf
    refine ⟨fun _ => by simp; omega,?_⟩
    conv => whnf
    refine Tri.ret ?_
    conv => whnf
    rw [identI,if_pos h,if_neg (by rw [hd]; simp),if_neg (by rw [h2]; simp)]
    exact ⟨.refl _,.refl _,trivial⟩
def chkI (id m : List UInt8) (dir : Bool) : List UInt8 × Int:=if (identI m dir).2 = 0 ∧ (identI m dir).1 = id then (m,0) else ([],4)
/-- What Name returns. -/
def nameI (id : List UInt8) (dir : Bool) : List UInt8 × Int :=
 if dir = true then chkI id id dir else if (cutSuf id [59,49]).2 = true then chkI id (Lib.trimSuffix (cutSuf id [59,49]).1 [46]) dir else ([],4)
end Go.Tame.V
/- The chapter's example,evaluated. Plain. -/
namespace Go.Tame.V
open Go Go.Proofs
set_option maxRecDepth 10000
set_option linter.unusedVariables false
set_option linter.unusedSimpArgs false

end Go.Tame.V
/- Contracts: Names,of any kids. By program (mk66.py,mk.py). -/
namespace Go.Tame.V
open Go Go.Proofs
variable {W0 : World}
set_option maxRecDepth 10000
set_option linter.unusedVariables false
set_option linter.unusedSimpArgs false

end Go.Tame.V
/- Contracts: awake. By program (mkn12.py,mk.py). -/
namespace Go.Tame.V
open Go Go.Proofs
variable {W0 : World}
set_option maxRecDepth 10000
set_option linter.unusedVariables false
set_option linter.unusedSimpArgs false

end Go.Tame.V
/- The readings of this seat's arguments,as data by value; what is laid. -/
namespace Go.Tame.V
open Go Go.Proofs Go.RowKit Go.ChangeShapes Go.Deep Go.WideShapes
open YtpkeldhgfdeebaaGreatDoor (Rows.uptoBulk Rows.uptoBulkAll)
set_option maxRecDepth 100000
variable {H : Type} {enc0 : TypeId × Value → H} {W : World}

abbrev bulk (d : DataW H) : Nat:=YtpkeldhgfdeebaaGreatDoor.Rows.uptoBulk d
abbrev bulkA (d : List (DataW H)) : Nat:=YtpkeldhgfdeebaaGreatDoor.Rows.uptoBulkAll d

theorem sum_good {α : Type} {m : α → Nat} {c : Nat} : ∀ {l : List α} {ds : List (DataW H)},ds.length = l.length → (∀ (i : Nat) a y,l[i]? = some a → ds[i]? = some y → m a ≤ c * bulk y) → (l.map m).sum ≤ c * bulkA ds
 | [],[],_,_ => by simp
 | a::l,y::ds,hl,h => by
  have h1:=h 0 a y rfl rfl
  have h2:=sum_good (l:=l) (ds:=ds) (by simpa using hl) fun i a y h3 h4 => h (i + 1) a y (by simpa using h3) (by simpa using h4)
  have h3 : c * bulkA (y::ds) = c * bulk y + c * bulkA ds:=by simp only [bulkA,bulk,YtpkeldhgfdeebaaGreatDoor.Rows.uptoBulkAll,Nat.mul_add]
  rw [h3,List.map_cons,List.sum_cons]
  omega
theorem sum_goodS {α : Type} {m : α → Nat} {c : Nat} {l : List α} {d : DataW H} (h : goodS (fun a y => m a ≤ c * bulk y) l d) : (l.map m).sum ≤ c * bulk d:=by
 rcases h with ⟨rfl,rfl⟩ | ⟨ds,sp,rfl,hl,hg⟩
 ·simp
 ·have:=sum_good hl hg
  have h3 : c * bulk (.slice ds sp) = c * bulkA ds + c * bulkA sp + c * 1:=by simp only [bulkA,bulk,YtpkeldhgfdeebaaGreatDoor.Rows.uptoBulk,Nat.mul_add]
  rw [h3]
  omega
theorem szS_sum : ∀ l : List SV,szS l = (l.map fun s => 2 + s.name.length + s.target.length).sum
 | [] => rfl
 | s::r => by simp only [szS,List.map_cons,List.sum_cons,szS_sum r]
theorem szL_sum : ∀ l : List NV,szL l = (l.map fun n => 2 * n.name.length + 2 + sz n).sum
 | [] => by simp [szL]
 | s::r => by simp only [szL,List.map_cons,List.sum_cons,szL_sum r]

theorem rd_stream (n : Nat) : Rd enc0 Tryz.prog W n 87 encS (fun s d => 2 + s.name.length + s.target.length ≤ 1 * bulk d):=by
 intro cs x h
 obtain ⟨xs,m,rfl,hx,hcl,hxl,hf⟩:=trod_fields Tryz.underlying87 (by kernel_rfl) (by kernel_rfl) h
 match cs,hcl,xs,hxl with
 | [c0,c1],_,[y0,y1],_ =>
  obtain ⟨s0,r0,e0,_⟩:=Rd.str (enc:=enc0) (W:=W) (n:=m) Tryz.underlying9 [c0] y0 (hf 0 _ c0 y0 rfl rfl rfl)
  obtain ⟨s1,r1,e1,_⟩:=Rd.str (enc:=enc0) (W:=W) (n:=m) Tryz.underlying9 [c1] y1 (hf 1 _ c1 y1 rfl rfl rfl)
  refine ⟨⟨s0,s1⟩,.cons r0.head (.cons r1.head (.nil _ _)),?_⟩
  rw [hx]
  simp only [List.map_cons,List.map_nil,e0,e1,bulk,YtpkeldhgfdeebaaGreatDoor.Rows.uptoBulk,YtpkeldhgfdeebaaGreatDoor.Rows.uptoBulkAll]
  omega

theorem rd_node : ∀ (N n : Nat),n < N → Rd enc0 Tryz.prog W n 25 enc (fun s d => 2 * s.name.length + 2 + sz s ≤ 2 * bulk d)
 | 0,n,hn => absurd hn (Nat.not_lt_zero _)
 | N + 1,n,hn => by
  intro cs x h
  obtain ⟨xs,m,rfl,hx,hcl,hxl,hf⟩:=trod_fields Tryz.underlying25 (by kernel_rfl) (by kernel_rfl) h
  match cs,hcl,xs,hxl with
  | [c0,c1,c2,c3,c4,c5,c6,c7,c8,c9,c10,c11],_,[y0,y1,y2,y3,y4,y5,y6,y7,y8,y9,y10,y11],_ =>
   obtain ⟨s0,r0,e0,_⟩:=Rd.str (enc:=enc0) (W:=W) (n:=m) Tryz.underlying9 [c0] y0 (hf 0 _ c0 y0 rfl rfl rfl)
   obtain ⟨s1,r1,e1,_⟩:=Rd.int (enc:=enc0) (W:=W) (n:=m) Tryz.underlying3 [c1] y1 (hf 1 _ c1 y1 rfl rfl rfl)
   obtain ⟨s2,r2,e2,_⟩:=Rd.str (enc:=enc0) (W:=W) (n:=m) Tryz.underlying9 [c2] y2 (hf 2 _ c2 y2 rfl rfl rfl)
   obtain ⟨s3,r3,e3,_⟩:=Rd.str (enc:=enc0) (W:=W) (n:=m) Tryz.underlying9 [c3] y3 (hf 3 _ c3 y3 rfl rfl rfl)
   obtain ⟨s4,r4,e4,_⟩:=Rd.int (enc:=enc0) (W:=W) (n:=m) Tryz.underlying3 [c4] y4 (hf 4 _ c4 y4 rfl rfl rfl)
   obtain ⟨s5,r5,e5,_⟩:=Rd.int (enc:=enc0) (W:=W) (n:=m) Tryz.underlying3 [c5] y5 (hf 5 _ c5 y5 rfl rfl rfl)
   obtain ⟨s6,r6,e6,_⟩:=Rd.int (enc:=enc0) (W:=W) (n:=m) Tryz.underlying3 [c6] y6 (hf 6 _ c6 y6 rfl rfl rfl)
   obtain ⟨s7,r7,e7,_⟩:=Rd.int (enc:=enc0) (W:=W) (n:=m) Tryz.underlying3 [c7] y7 (hf 7 _ c7 y7 rfl rfl rfl)
   obtain ⟨s8,r8,e8,_⟩:=Rd.int (enc:=enc0) (W:=W) (n:=m) Tryz.underlying3 [c8] y8 (hf 8 _ c8 y8 rfl rfl rfl)
   obtain ⟨s9,r9,e9,_⟩:=Rd.int (enc:=enc0) (W:=W) (n:=m) Tryz.underlying3 [c9] y9 (hf 9 _ c9 y9 rfl rfl rfl)
   obtain ⟨ks,r10,e10⟩:=Rd.slice (enc:=enc0) (W:=W) (fuel:=m) Tryz.underlying22 (k:=12) (f:=enc) (by kernel_rfl) (by omega) (fun a => by rw [enc_eq]; exact ⟨rfl,rfl⟩) (fun m' hm' => rd_node N m' (by omega)) [c10] y10 (hf 10 _ c10 y10 rfl rfl rfl)
   obtain ⟨ss,r11,e11⟩:=Rd.slice (enc:=enc0) (W:=W) (fuel:=m) Tryz.underlying23 (k:=2) (f:=encS) (by kernel_rfl) (by omega) (fun a => ⟨rfl,rfl⟩) (fun m' _ => rd_stream m') [c11] y11 (hf 11 _ c11 y11 rfl rfl rfl)
   refine ⟨⟨s0,s1,s2,s3,s4,s5,s6,s7,s8,s9,ks,ss⟩,?_,?_⟩
   ·rw [enc_eq]
    exact .cons r0.head (.cons r1.head (.cons r2.head (.cons r3.head (.cons r4.head (.cons r5.head (.cons r6.head (.cons r7.head (.cons r8.head (.cons r9.head (.cons r10.head (.cons r11.head (.nil _ _))))))))))))
   ·have h10:=sum_goodS e10
    have h11:=sum_goodS e11
    rw [← szL_sum] at h10
    rw [← szS_sum] at h11
    rw [hx]
    dsimp only
    rw [sz_eq]
    simp only [List.map_cons,List.map_nil,e0,e1,e2,e3,e4,e5,e6,e7,e8,e9,bulk,YtpkeldhgfdeebaaGreatDoor.Rows.uptoBulk,YtpkeldhgfdeebaaGreatDoor.Rows.uptoBulkAll] at h10 h11 ⊢
    omega

/-- A node that came in. -/
theorem open_node {v : Value} {d : DataW H} {p : List MemPlace} {base : Nat} (hv : Value.okWide Tryz.prog W .any base 25 v) (h : DataW.Trod enc0 Tryz.prog W 0 (fun _ => true) true 25 v d p) :
  ∃ n : NV,Rep W (allC W) (encTop n) v ∧ 2 * n.name.length + 2 + sz n ≤ 2 * bulk d:=by
 obtain ⟨fuel,hf⟩:=h
 obtain ⟨cs,rfl,_⟩:=okWide_struct Tryz.underlying25 hv
 obtain ⟨n,hr,hg⟩:=rd_node (enc0:=enc0) (W:=W) _ fuel (Nat.lt_succ_self _) _ _ hf
 rw [enc_eq] at hr
 obtain ⟨l⟩:=cs
 exact ⟨n,.agg _ _ hr.1 hr.2,hg⟩

theorem callsTrue {f : Nat} {ds : List D} {args : Array Value} (h : DFun Tryz.prog W f ds (.bool true)) (hr : RepL W (allC W) ds args.toList) :
  Calls Tryz.prog f args W fun e w' => e = .returned (.bool true) ∧ Below W.heap.size W w':=by
 obtain ⟨l⟩:=args
 refine (h.2 W (allC W) l (Below.refl _ _) hr).mono ?_
 rintro e w' ⟨v,C',rfl,hv,hs⟩
 rw [hv.bool_inv]
 exact ⟨rfl,Base.step (Below.refl _ _) hs fun _ h => h.elim⟩

theorem laidOut : laidOutB Tryz.prog = true:=by kernel_rfl
theorem stays_all {W' : World} (hb : Below W.heap.size W W') {sp : Nat → Bool} : ∀ {ts : List TypeId} {vs : List Value} {ds : List (DataW H)} {ps : List MemPlace},
  (∀ t ∈ ts,Tryz.prog.readableRec t = true ∧ t < Tryz.prog.types.size) → DataW.TrodAll enc0 Tryz.prog W 0 (fun _ => true) true ts vs ds ps → (∀ x ∈ ps,x.block < W.heap.size) → (∀ x ∈ ps,sp x.block = true) →
  DataW.TrodAll enc0 Tryz.prog W' 0 sp true ts vs ds ps
 | [],[],[],_,_,h,_,_ => h
 | t::ts,v::vs,d::ds,_,ht,⟨p,q,h1,h2,e⟩,hlt,hsp => by
  subst e
  exact ⟨p,q,stays laidOut (ht t List.mem_cons_self).1 (ht t List.mem_cons_self).2 h1 hb (fun x hx => hlt x (by simp [hx])) sp (fun x hx => hsp x (by simp [hx])),
   stays_all hb (fun t h => ht t (List.mem_cons_of_mem _ h)) h2 (fun x hx => hlt x (by simp [hx])) (fun x hx => hsp x (by simp [hx])),rfl⟩

def laidList : List (String × DataW Unit):=YtpkeldhgfdeebaaGreatDoor.Rows.namingViewsRow.laid
theorem libOk (hL : laidMetH Tryz.prog laidList W) (hsh : W.ShapedOpen Tryz.prog) : LibOk W:=by
 have hL' : laidMet Tryz.prog laidList W:=hL
 refine ⟨utf8Tabs_of_reads (ρ:=Tryz.lays260_ren) Tryz.lays260 ⟨by kernel_rfl,by kernel_rfl,by kernel_rfl,by kernel_rfl,by kernel_rfl,by kernel_rfl,by kernel_rfl⟩
  (Lib.laidMet.reads hL' (.tail _ (.tail _ (.tail _ (.tail _ (.head _)))))) (Lib.laidMet.reads hL' (.tail _ (.tail _ (.tail _ (.head _))))),?_,?_⟩
 ·obtain ⟨h1,_⟩:=hsh
  obtain ⟨cs,hcs,hsz,hrow⟩:=h1 0 #[.int .i64 0] 3 (by decide +kernel) (by kernel_rfl)
  obtain ⟨ts,hts,_,hcell⟩:=hrow (by kernel_rfl)
  have hts' : ts = [3]:=by
   have : Tryz.prog.cellTypes Tryz.prog.depth 3 = some [3]:=by kernel_rfl
   exact Option.some.inj (hts.symm.trans this)
  subst hts'
  have h0 : cs[0]? = some (cs[0]'(by rw [hsz]; decide)):=Array.getElem?_eq_getElem _
  obtain ⟨u,hu,hok⟩:=hcell 0 _ h0
  have hu' : u = 3:=by simpa using hu.symm
  subst hu'
  have hc : W.cell? ⟨0,0,none⟩ = some (cs[0]'(by rw [hsz]; decide)):=by
   simp only [World.cell?,hcs]
   simpa using h0
  generalize cs[0]'(by rw [hsz]; decide) = v at hok hc
  unfold Cell.ok at hok
  rw [Tryz.underlying3] at hok
  cases v with
  | int k n => obtain ⟨rfl,_⟩:=hok; exact ⟨n,hc⟩
  | _ => exact hok.elim
 ·exact Lib.tabIs_of_head (rest:=_) (g:=3) (t:=237) (e:=165) (n:=20) (by kernel_rfl) (by kernel_rfl) (by kernel_rfl) (by kernel_rfl) (by kernel_rfl) (by kernel_rfl) hL'.tail.tail
end Go.Tame.V
/- The statement on Format,Count and Below: from the contract to the card. -/
namespace Go.Tame.V
open Go Go.Proofs Go.RowKit Go.ChangeShapes Go.Deep Go.WideShapes Go.ChangeAt
open YtpkeldhgfdeebaaGreatDoor
set_option maxRecDepth 100000

theorem own : ownKnob Tryz.prog.godebug = none:=by kernel_rfl

/-- A world that holds what is laid. -/
noncomputable def laidWorld (os : Os) : World :=
 let w0:=World.holding Tryz.prog os ⟨#[],#[],[]⟩
 let put (h : Array Obj) (g : Nat) (cs : Array Value) : Array Obj:=h.modify g fun
  | .cells _ t frozen => .cells cs t frozen
  | o => o
 let h1:=put w0.heap 1 (Lib.firstTab.map fun z => Value.int .u8 z).toArray
 let h2:=put h1 2 ((List.range 16).flatMap fun i => [Value.int .u8 (Lib.accLo i),Value.int .u8 (Lib.accHi i)]).toArray
 let h3:=put h2 3 (Lib.pow10Tab.map fun z => Value.int .u64 z).toArray
 let h4:=put h3 4 ([0,1,28,2,29,14,24,3,30,22,20,15,25,17,4,8,31,27,13,23,21,19,16,7,26,12,18,6,11,5,10,9].map fun z => Value.int .u8 z).toArray
 let h5:=put h4 5 ([0,1,56,2,57,49,28,3,61,58,42,50,38,29,17,4,62,47,59,36,45,43,51,22,53,39,33,30,24,18,12,5,63,55,48,27,60,41,37,16,46,35,44,21,52,32,23,11,54,26,40,15,34,20,31,10,25,14,19,9,13,8,7,6].map fun z => Value.int .u8 z).toArray
 { w0 with heap:=h5 }
theorem laid_met (os : Os) (args : Array Value) : laidMet Tryz.prog laidList ((laidWorld os).forCall (fun _ _ => 0) ⟨#[],args,[]⟩).memory :=
 laidMet_of_run' 8 (by kernel_rfl) (by kernel_rfl)
end Go.Tame.V
