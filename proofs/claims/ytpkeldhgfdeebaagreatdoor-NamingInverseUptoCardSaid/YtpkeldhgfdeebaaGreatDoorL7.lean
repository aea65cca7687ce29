/- A program logic of my own over the model, and contracts of this program's functions by it: part 7. No conditions of its own: each theorem states its own. -/
import Derived.Test.YtpkeldhgfdeebaaGreatDoorL6
set_option linter.unnecessarySimpa false
set_option linter.unusedSimpArgs false
set_option linter.unusedVariables false
/- Laws: NamingViews, NamingPaths. By program (mk.py). -/
namespace Go.Tame.V
open Go Go.Proofs
variable {W0 : World}
set_option maxRecDepth 10000
set_option linter.unusedVariables false
set_option linter.unusedSimpArgs false

theorem few_up {n : NV} (h : few1 n 20000 = true) : few1 n 100000 = true := by
  simp only [few1, Bool.and_eq_true, decide_eq_true_eq] at h ⊢
  omega
theorem few_sz2 {n : NV} (h : few1 n 20000 = true) : sz n ≤ 40000 := by
  have := few_sz h; omega
theorem view_sz (hL : LibOk W0) {v : Int} {n : NV} (h : few1 n 20000 = true) : Fits (viewR (namesG v) v n).1 ∧ sz (viewR (namesG v) v n).1 < 300000 := by
  unfold viewR
  split
  · exact ⟨by unfold Fits; decide, by decide⟩
  · split
    · exact ⟨by unfold Fits; decide, by decide⟩
    · rename_i h1 h2
      exact show_fits (namesG v) v (namesSh hL (by simpa using h1)) (by simpa using h2) (few_up h)

theorem G3 (hL : LibOk W0) (v : Int) (n : NV) (hn : Fits n) : DFun Tryz.prog W0 3 [.int .i64 v, encTop n] (.bool true) := by
  refine DFun.intro ti_ok Tryz.func3 rfl (by decide +kernel) Tryz.ntmps3 rfl fun Γ => ?_
  refine Tri.seq ?_
  refine Tri.region ti_ok ?_
  conv => whnf
  intro b3
  conv => whnf
  refine Tri.seq ?_
  refine Tri.seq ?_
  refine Tri.region ti_ok ?_
  conv => whnf
  refine ⟨[], _, fun _ => G15 hL, trivial, ?_⟩
  conv => whnf
  refine Tri.cond _ rfl (fun hc => ?_) (fun hc => ?_)
  · refine Tri.seq ?_
    refine Tri.region ti_ok ?_
    conv => whnf
    refine Tri.ret ?_
    conv => whnf
    cases hc
  · refine Tri.skip ?_
    conv => whnf
    refine Tri.seq ?_
    refine Tri.seq ?_
    refine Tri.region ti_ok ?_
    conv => whnf
    refine ⟨rfl, ?_⟩
    conv => whnf
    refine ⟨[encTop n, .int .i64 20000], _, fun _ => F26 n 20000 hn, ⟨.refl _, .refl _, trivial⟩, ?_⟩
    conv => whnf
    refine Tri.cond _ rfl (fun hc => ?_) (fun hc => ?_)
    · refine Tri.seq ?_
      refine Tri.region ti_ok ?_
      conv => whnf
      refine Tri.ret ?_
      conv => whnf
      exact .refl _
    · refine Tri.skip ?_
      conv => whnf
      refine Tri.seq ?_
      have hf : few1 n 20000 = true := by simpa using hc
      have hs := few_sz2 hf
      have hvs := view_sz hL (v := v) hf
      have hz := hn
      unfold Fits at hz
      refine Tri.region ti_ok ?_
      conv => whnf
      refine ⟨rfl, ?_⟩
      conv => whnf
      refine ⟨[.int .i64 v, encTop n], _, fun _ => F42 hL (namesG v) v (fun h => namesGok hL h) n (by omega) (fun _ => by omega), ⟨.refl _, .refl _, trivial⟩, ?_⟩
      conv => whnf
      intro b5
      conv => whnf
      refine ⟨rfl, ?_⟩
      conv => whnf
      refine Tri.seq ?_
      refine Tri.region ti_ok ?_
      conv => whnf
      refine ⟨rfl, ?_⟩
      conv => whnf
      refine ⟨[.int .i64 v, encTop n], _, fun _ => F31 v (fun h => namesNd hL h) n hn, ⟨.refl _, .refl _, trivial⟩, ?_⟩
      conv => whnf
      intro b7
      conv => whnf
      refine ⟨rfl, ?_⟩
      conv => whnf
      refine Tri.seq ?_
      refine Tri.region ti_ok ?_
      conv => whnf
      refine ⟨rfl, ?_⟩
      conv => whnf
      refine ⟨rfl, ?_⟩
      conv => whnf
      refine ⟨fun h => h, ?_⟩
      conv => whnf
      refine ⟨fun h => h, ?_⟩
      conv => whnf
      refine ⟨[encTop (viewR (namesG v) v n).1, encTop (viewR (namesG v) v n).1], _, fun h => F25 _ _ _ (Nat.lt_succ_self _) (by omega), ⟨.refl _, .refl _, trivial⟩, ?_⟩
      conv => whnf
      refine ⟨fun h0 h => by first | exact h | (rw [h]; rfl) | (rw [h0, h]; rfl), ?_⟩
      conv => whnf
      refine Tri.ret ?_
      conv => whnf
      exact DLe.of_eq (congrArg D.bool (by simp [eqT_rfl]))
theorem G4 (hL : LibOk W0) (v : Int) (n : NV) (hn : Fits n) (x y : List UInt8) (hx : x.length < 1000000000) (hy : y.length < 1000000000) : DFun Tryz.prog W0 4 [.int .i64 v, encTop n, .str x, .str y] (.bool true) := by
  refine DFun.intro ti_ok Tryz.func4 rfl (by decide +kernel) Tryz.ntmps4 rfl fun Γ => ?_
  refine Tri.seq ?_
  refine Tri.region ti_ok ?_
  conv => whnf
  intro b5
  conv => whnf
  refine Tri.seq ?_
  refine Tri.seq ?_
  refine Tri.region ti_ok ?_
  conv => whnf
  refine ⟨[], _, fun _ => G15 hL, trivial, ?_⟩
  conv => whnf
  refine Tri.cond _ rfl (fun hc => ?_) (fun hc => ?_)
  · refine Tri.seq ?_
    refine Tri.region ti_ok ?_
    conv => whnf
    refine Tri.ret ?_
    conv => whnf
    cases hc
  · refine Tri.skip ?_
    conv => whnf
    refine Tri.seq ?_
    refine Tri.seq ?_
    refine Tri.region ti_ok ?_
    conv => whnf
    refine ⟨rfl, ?_⟩
    conv => whnf
    refine ⟨[encTop n, .int .i64 20000], _, fun _ => F26 n 20000 hn, ⟨.refl _, .refl _, trivial⟩, ?_⟩
    conv => whnf
    refine Tri.cond _ rfl (fun hc => ?_) (fun hc => ?_)
    · refine Tri.seq ?_
      refine Tri.region ti_ok ?_
      conv => whnf
      refine Tri.ret ?_
      conv => whnf
      exact .refl _
    · refine Tri.skip ?_
      conv => whnf
      refine Tri.seq ?_
      have hf : few1 n 20000 = true := by simpa using hc
      have hs := few_sz2 hf
      refine Tri.region ti_ok ?_
      conv => whnf
      refine ⟨rfl, ?_⟩
      conv => whnf
      refine ⟨[.int .i64 v, encTop n, .str x], _, fun _ => G20 hL (namesG v) v (fun h => namesGok hL h) n hn (fun _ => by omega) x hx, ⟨.refl _, .refl _, .refl _, trivial⟩, ?_⟩
      conv => whnf
      refine Tri.seq ?_
      refine Tri.region ti_ok ?_
      conv => whnf
      refine ⟨rfl, ?_⟩
      conv => whnf
      refine ⟨[.int .i64 v, encTop n, .str x], _, fun _ => G21 hL v n hn (fun _ => by omega) x hx, ⟨.refl _, .refl _, .refl _, trivial⟩, ?_⟩
      conv => whnf
      refine Tri.seq ?_
      refine Tri.region ti_ok ?_
      conv => whnf
      refine ⟨rfl, ?_⟩
      conv => whnf
      refine ⟨[.int .i64 v, encTop n, .str y], _, fun _ => G22 hL (namesG v) v (fun h => namesGok hL h) n hn (fun _ => by omega) y hy, ⟨.refl _, .refl _, .refl _, trivial⟩, ?_⟩
      conv => whnf
      refine Tri.seq ?_
      refine Tri.region ti_ok ?_
      conv => whnf
      refine ⟨rfl, ?_⟩
      conv => whnf
      refine ⟨[.int .i64 v, encTop n, .str y], _, fun _ => G23 hL v n hn (fun _ => by omega) y, ⟨.refl _, .refl _, .refl _, trivial⟩, ?_⟩
      conv => whnf
      refine Tri.seq ?_
      refine Tri.region ti_ok ?_
      conv => whnf
      refine ⟨fun h => h, ?_⟩
      conv => whnf
      refine ⟨fun h => h, ?_⟩
      conv => whnf
      refine ⟨fun h0 h => by first | exact h | (rw [h]; rfl) | (rw [h0, h]; rfl), ?_⟩
      conv => whnf
      refine ⟨fun h => h, ?_⟩
      conv => whnf
      refine ⟨fun h => h, ?_⟩
      conv => whnf
      refine ⟨fun h0 h => by first | exact h | (rw [h]; rfl) | (rw [h0, h]; rfl), ?_⟩
      conv => whnf
      refine ⟨fun h => h, ?_⟩
      conv => whnf
      refine ⟨fun h => h, ?_⟩
      conv => whnf
      refine ⟨fun h0 h => by first | exact h | (rw [h]; rfl) | (rw [h0, h]; rfl), ?_⟩
      conv => whnf
      refine Tri.ret ?_
      conv => whnf
      exact DLe.of_eq (congrArg D.bool (by simp))
end Go.Tame.V
/- Law: NamingAgain. By program (mk.py). -/
namespace Go.Tame.V
open Go Go.Proofs
variable {W0 : World}
set_option maxRecDepth 10000
set_option linter.unusedVariables false
set_option linter.unusedSimpArgs false

theorem view_again {v w : Int} (hvw : w = v ∨ v = 0 ∧ w = 1) {n : NV} (h0 : (viewR (namesG v) v n).2 = 0) : viewR (namesG w) w (viewR (namesG v) v n).1 = ((viewR (namesG v) v n).1, 0) ∧ valid (viewR (namesG v) v n).1 = true := by
  obtain ⟨hv, hn⟩ := viewR_valid h0
  have hw : viewOk w = true := by
    rcases hvw with rfl | ⟨_, rfl⟩
    · exact hv
    · decide
  have e : viewR (namesG v) v n = (showG (namesG v) v 1 n, 0) := by rw [viewR, if_neg (by rw [hv]; decide), if_neg (by rw [hn]; decide)]
  have h1 := show_valid hv hn
  rw [e]
  dsimp only
  exact ⟨by rw [viewR, if_neg (by rw [hw]; decide), if_neg (by rw [h1]; decide), show_twice hvw hv hn], h1⟩
theorem view_bad {v : Int} {n : NV} (h0 : ¬ (viewR (namesG v) v n).2 = 0) : (viewR (namesG v) v n).1 = zeroN := by
  unfold viewR at h0 ⊢
  split
  · rfl
  · split
    · rfl
    · rename_i h1 h2
      rw [if_neg h1, if_neg h2] at h0; exact absurd rfl h0

theorem G5 (hL : LibOk W0) (v : Int) (n : NV) (hn : Fits n) : DFun Tryz.prog W0 5 [.int .i64 v, encTop n] (.bool true) := by
  refine DFun.intro ti_ok Tryz.func5 rfl (by decide +kernel) Tryz.ntmps5 rfl fun Γ => ?_
  refine Tri.seq ?_
  refine Tri.region ti_ok ?_
  conv => whnf
  intro b3
  conv => whnf
  refine Tri.seq ?_
  refine Tri.seq ?_
  refine Tri.region ti_ok ?_
  conv => whnf
  refine ⟨[], _, fun _ => G15 hL, trivial, ?_⟩
  conv => whnf
  refine Tri.cond _ rfl (fun hc => ?_) (fun hc => ?_)
  · refine Tri.seq ?_
    refine Tri.region ti_ok ?_
    conv => whnf
    refine Tri.ret ?_
    conv => whnf
    cases hc
  · refine Tri.skip ?_
    conv => whnf
    refine Tri.seq ?_
    refine Tri.seq ?_
    refine Tri.region ti_ok ?_
    conv => whnf
    refine ⟨rfl, ?_⟩
    conv => whnf
    refine ⟨[encTop n, .int .i64 20000], _, fun _ => F26 n 20000 hn, ⟨.refl _, .refl _, trivial⟩, ?_⟩
    conv => whnf
    refine Tri.cond _ rfl (fun hc => ?_) (fun hc => ?_)
    · refine Tri.seq ?_
      refine Tri.region ti_ok ?_
      conv => whnf
      refine Tri.ret ?_
      conv => whnf
      exact .refl _
    · refine Tri.skip ?_
      conv => whnf
      refine Tri.seq ?_
      have hf : few1 n 20000 = true := by simpa using hc
      have hs := few_sz2 hf
      have hvs := view_sz hL (v := v) hf
      have hvz := hvs.1
      have hz := hn
      unfold Fits at hz hvz
      refine Tri.region ti_ok ?_
      conv => whnf
      refine ⟨rfl, ?_⟩
      conv => whnf
      refine ⟨[.int .i64 v, encTop n], _, fun _ => F42 hL (namesG v) v (fun h => namesGok hL h) n (by omega) (fun _ => by omega), ⟨.refl _, .refl _, trivial⟩, ?_⟩
      conv => whnf
      intro b5
      conv => whnf
      refine ⟨rfl, ?_⟩
      conv => whnf
      refine Tri.seq ?_
      refine Tri.seq ?_
      refine Tri.region ti_ok ?_
      conv => whnf
      refine Tri.cond _ rfl (fun hc => ?_) (fun hc => ?_)
      · refine Tri.seq ?_
        refine Tri.region ti_ok ?_
        conv => whnf
        refine ⟨rfl, ?_⟩
        conv => whnf
        refine Tri.ret ?_
        conv => whnf
        have h0 : ¬ (viewR (namesG v) v n).2 = 0 := by simpa using hc
        refine DLe.of_eq (congrArg D.bool ?_)
        rw [view_bad h0]; rfl
      · refine Tri.skip ?_
        conv => whnf
        refine Tri.seq ?_
        have h0 : (viewR (namesG v) v n).2 = 0 := by simpa using hc
        obtain ⟨hag, hval⟩ := view_again (.inl rfl) h0
        have hG : DFun Tryz.prog W0 17 [.int .i64 v, encTop (viewR (namesG v) v n).1] (.tup [encTop (viewR (namesG v) v n).1, .int .i64 0]) := by
          have := F42 hL (namesG v) v (fun h => namesGok hL h) (viewR (namesG v) v n).1 (by omega) (fun _ => by omega)
          rw [hag] at this; exact this
        refine Tri.region ti_ok ?_
        conv => whnf
        refine ⟨rfl, ?_⟩
        conv => whnf
        refine ⟨[.int .i64 v, encTop (viewR (namesG v) v n).1], _, fun _ => hG, ⟨.refl _, .refl _, trivial⟩, ?_⟩
        conv => whnf
        intro b7
        conv => whnf
        refine ⟨rfl, ?_⟩
        conv => whnf
        refine Tri.seq ?_
        refine Tri.seq ?_
        refine Tri.region ti_ok ?_
        conv => whnf
        refine ⟨rfl, ?_⟩
        conv => whnf
        refine ⟨rfl, ?_⟩
        conv => whnf
        refine ⟨fun h => h, ?_⟩
        conv => whnf
        refine ⟨fun h => h, ?_⟩
        conv => whnf
        refine ⟨[encTop (viewR (namesG v) v n).1, encTop (viewR (namesG v) v n).1], _, fun h => F25 _ _ _ (Nat.lt_succ_self _) (by omega), ⟨.refl _, .refl _, trivial⟩, ?_⟩
        conv => whnf
        refine ⟨fun h => h, ?_⟩
        conv => whnf
        refine ⟨fun h0 h => by first | exact h | (rw [h]; rfl) | (rw [h0, h]; rfl), ?_⟩
        conv => whnf
        refine ⟨rfl, ?_⟩
        conv => whnf
        refine ⟨fun h => h, ?_⟩
        conv => whnf
        refine ⟨[encTop (viewR (namesG v) v n).1], _, fun h => F20 _ hvz, ⟨.refl _, trivial⟩, ?_⟩
        conv => whnf
        refine ⟨fun h => h, ?_⟩
        conv => whnf
        refine ⟨fun h0 h => by first | exact h | (rw [h]; rfl) | (rw [h0, h]; rfl), ?_⟩
        conv => whnf
        refine Tri.cond _ rfl (fun hc => ?_) (fun hc => ?_)
        · refine Tri.seq ?_
          refine Tri.region ti_ok ?_
          conv => whnf
          refine Tri.ret ?_
          conv => whnf
          exfalso
          simp [hval, eqT_rfl] at hc
        · refine Tri.skip ?_
          conv => whnf
          refine Tri.seq ?_
          refine Tri.seq ?_
          refine Tri.region ti_ok ?_
          conv => whnf
          refine Tri.cond _ rfl (fun hc => ?_) (fun hc => ?_)
          · refine Tri.seq ?_
            refine Tri.region ti_ok ?_
            conv => whnf
            refine Tri.ret ?_
            conv => whnf
            exact .refl _
          · refine Tri.skip ?_
            conv => whnf
            refine Tri.seq ?_
            have hv0 : v = 0 := by simpa using hc
            subst hv0
            have hJ : DFun Tryz.prog W0 17 [.int .i64 1, encTop (viewR (namesG 0) 0 n).1] (.tup [encTop (viewR (namesG 0) 0 n).1, .int .i64 0]) := by
              have := F42 hL (namesG 1) 1 (fun h => namesGok hL h) (viewR (namesG 0) 0 n).1 (by omega) (fun _ => by omega)
              rw [(view_again (.inr ⟨rfl, rfl⟩) h0).1] at this; exact this
            refine Tri.region ti_ok ?_
            conv => whnf
            refine ⟨rfl, ?_⟩
            conv => whnf
            refine ⟨[.int .i64 1, encTop (viewR (namesG 0) 0 n).1], _, fun _ => hJ, ⟨.refl _, .refl _, trivial⟩, ?_⟩
            conv => whnf
            refine ⟨rfl, ?_⟩
            conv => whnf
            refine Tri.seq ?_
            refine Tri.region ti_ok ?_
            conv => whnf
            refine ⟨rfl, ?_⟩
            conv => whnf
            refine ⟨rfl, ?_⟩
            conv => whnf
            refine ⟨fun h => h, ?_⟩
            conv => whnf
            refine ⟨fun h => h, ?_⟩
            conv => whnf
            refine ⟨[encTop (viewR (namesG 0) 0 n).1, encTop (viewR (namesG 0) 0 n).1], _, fun h => F25 _ _ _ (Nat.lt_succ_self _) (by omega), ⟨.refl _, .refl _, trivial⟩, ?_⟩
            conv => whnf
            refine ⟨fun h0 h => by first | exact h | (rw [h]; rfl) | (rw [h0, h]; rfl), ?_⟩
            conv => whnf
            refine Tri.ret ?_
            conv => whnf
            exact DLe.of_eq (congrArg D.bool (by simp [eqT_rfl]))
end Go.Tame.V
/- Paths there and back: the plain law of NamingInverse. Plain. -/
namespace Go.Tame.V
open Go Go.Proofs
set_option maxRecDepth 10000
set_option linter.unusedVariables false
set_option linter.unusedSimpArgs false

section
variable (nm : List NV → List (List UInt8)) (v : Int)
mutual
/-- The shown nodes: the names on the way there in the view and in the source, and the node. -/
def prsQ (d : Int) : NV → List (List (List UInt8) × List (List UInt8) × NV)
  | .mk a b c t e f g h i j ks ss => ([], [], .mk a b c t e f g h i j ks ss) :: prsQL d ks (nm ks)
def prsQL (d : Int) : List NV → List (List UInt8) → List (List (List UInt8) × List (List UInt8) × NV)
  | k :: r, m :: ms => if shown v k (d + 1) then ((prsQ (d + 1) k).map fun z => (m :: z.1, k.name :: z.2.1, z.2.2)) ++ prsQL d r ms else prsQL d r ms
  | _, _ => []
end
theorem prsQ_eq (d : Int) (n : NV) : prsQ nm v d n = ([], [], n) :: prsQL nm v d n.kids (nm n.kids) := by cases n; simp only [prsQ]
mutual
theorem prs_deep : ∀ (n : NV) (d : Int) (p q : List UInt8), 2 ≤ d → prs nm v d n p q = (prsQ nm v d n).map fun z => (p ++ tailF z.1, q ++ tailF z.2.1)
  | .mk _ _ _ _ _ _ _ _ _ _ ks _, d, p, q, h => by
    simp only [prs, prsQ, List.map_cons]
    rw [prsL_deep ks (nm ks) d p q h]
    simp [tailF]
theorem prsL_deep : ∀ (l : List NV) (ms : List (List UInt8)) (d : Int) (p q : List UInt8), 2 ≤ d → prsL nm v d l ms p q = (prsQL nm v d l ms).map fun z => (p ++ tailF z.1, q ++ tailF z.2.1)
  | [], ms, d, p, q, h => by simp [prsL, prsQL]
  | k :: r, [], d, p, q, h => by simp [prsL, prsQL]
  | k :: r, m :: ms, d, p, q, h => by
    have ih := prsL_deep r ms d p q h
    have hd : (d == 1) = false := by simp; omega
    simp only [prsL, prsQL]
    split
    · rw [prs_deep k (d + 1) _ _ (by omega), ih, List.map_append, List.map_map]
      congr 1
      refine List.map_congr_left fun z _ => ?_
      simp [joinQ, hd, tailF]
    · exact ih
end
theorem prsL_top : ∀ (l : List NV) (ms : List (List UInt8)), prsL nm v 1 l ms [] [] = (prsQL nm v 1 l ms).map fun z => (joinF z.1, joinF z.2.1)
  | [], ms => by simp [prsL, prsQL]
  | k :: r, [] => by simp [prsL, prsQL]
  | k :: r, m :: ms => by
    have ih := prsL_top r ms
    simp only [prsL, prsQL]
    split
    · rw [prs_deep nm v k _ _ _ (by omega), ih, List.map_append, List.map_map]
      congr 1
    · exact ih
theorem prs_top (n : NV) : prs nm v 1 n [] [] = (prsQ nm v 1 n).map fun z => (joinF z.1, joinF z.2.1) := by
  rw [prs_eq, prsQ_eq, prsL_top]; rfl
theorem prsQL_mem : ∀ {l : List NV} {ms : List (List UInt8)} {d : Int} {z : List (List UInt8) × List (List UInt8) × NV}, z ∈ prsQL nm v d l ms →
    ∃ k ∈ l, ∃ m, ∃ z' ∈ prsQ nm v (d + 1) k, (showG nm v (d + 1) k).named m ∈ showGL nm v (d + 1) l ms ∧ z = (m :: z'.1, k.name :: z'.2.1, z'.2.2)
  | [], ms, d, z, h => by simp [prsQL] at h
  | k :: r, [], d, z, h => by simp [prsQL] at h
  | k :: r, m :: ms, d, z, h => by
    simp only [prsQL] at h
    simp only [showGL]
    split at h
    · rename_i hs
      rcases List.mem_append.1 h with h | h
      · obtain ⟨z', hz', rfl⟩ := List.mem_map.1 h
        exact ⟨k, List.mem_cons_self, m, z', hz', by rw [if_pos hs]; exact List.mem_cons_self, rfl⟩
      · obtain ⟨k', hk', m', z', h1, h2, h3⟩ := prsQL_mem h
        exact ⟨k', List.mem_cons_of_mem _ hk', m', z', h1, by rw [if_pos hs]; exact List.mem_cons_of_mem _ h2, h3⟩
    · rename_i hs
      obtain ⟨k', hk', m', z', h1, h2, h3⟩ := prsQL_mem h
      exact ⟨k', List.mem_cons_of_mem _ hk', m', z', h1, by rw [if_neg hs]; exact h2, h3⟩
end
def sameC (a b : NV) : Prop := a.text = b.text ∧ a.kind = b.kind ∧ a.target = b.target ∧ a.n4 = b.n4
theorem getN_named {n y : NV} {m : List UInt8} : ∀ {q : List (List UInt8)}, getN n q = some y → ∃ y', getN (n.named m) q = some y' ∧ sameC y y'
  | [], h => by
    simp only [getN, Option.some.injEq] at h
    subst h
    exact ⟨n.named m, rfl, rfl, rfl, rfl, rfl⟩
  | x :: r, h => ⟨y, by simp only [getN] at h ⊢; exact h, rfl, rfl, rfl, rfl⟩
theorem prsQ_at (nm : List NV → List (List UInt8)) (v : Int) : ∀ (N : Nat) (n : NV), sz n < N → ∀ (d : Int), okT n → okT (showG nm v d n) → ∀ z ∈ prsQ nm v d n, getN n z.2.1 = some z.2.2 ∧ ∃ y, getN (showG nm v d n) z.1 = some y ∧ sameC z.2.2 y := by
  refine fun N => Nat.rec (fun n h => absurd h (Nat.not_lt_zero _)) (fun N ih n hN d hok hsh z hz => ?_) N
  rw [prsQ_eq] at hz
  rcases List.mem_cons.1 hz with rfl | hz
  · refine ⟨rfl, showG nm v d n, rfl, ?_⟩
    rw [showG_eq]; exact ⟨rfl, rfl, rfl, rfl⟩
  · obtain ⟨k, hk, m, z', hz', hm, rfl⟩ := prsQL_mem nm v hz
    have hkm : (showG nm v (d + 1) k).named m ∈ (showG nm v d n).kids := by
      rw [showG_eq]
      exact (sortN_perm _).mem_iff.2 hm
    have hok2 : okT (showG nm v (d + 1) k) := (okT_named _ _).1 (okT_kid hsh hkm)
    obtain ⟨i, hi, rfl⟩ := List.mem_iff_getElem.1 hk
    have hkz := kid_sz hi
    obtain ⟨h1, y, h2, h3⟩ := ih n.kids[i] (by omega) (d + 1) (okT_kid hok hk) hok2 z' hz'
    obtain ⟨y', h4, h5⟩ := getN_named (m := m) h2
    refine ⟨by rw [getN_cons (okT_inc hok) hk rfl]; exact h1, y', (getN_cons (m := m) (okT_inc hsh) hkm rfl).trans h4, ?_⟩
    exact ⟨h3.1.trans h5.1, h3.2.1.trans h5.2.1, h3.2.2.1.trans h5.2.2.1, h3.2.2.2.trans h5.2.2.2⟩
theorem find_nodup {α β : Type} [BEq α] [LawfulBEq α] {f : β → α} : ∀ {l : List β} {y : β}, (l.map f).Nodup → y ∈ l → l.find? (fun z => f z == f y) = some y
  | a :: r, y, hn, hy => by
    rw [List.map_cons, List.nodup_cons] at hn
    rcases List.mem_cons.1 hy with rfl | hy
    · simp
    · have hne : ¬ (f a == f y) = true := fun e => hn.1 (by rw [beq_iff_eq] at e; rw [e]; exact List.mem_map.2 ⟨y, hy, rfl⟩)
      rw [List.find?_cons_of_neg (p := fun z => f z == f y) hne]
      exact find_nodup hn.2 hy
theorem count_sub {α β : Type} [BEq α] [LawfulBEq α] (f : β → α) : ∀ (l : List α) (s : List β), (s.map f).Sublist l → l.Nodup → l.countP (fun p => (s.find? fun y => f y == p).isSome) = s.length
  | [], s, h, _ => by
    have : s = [] := by simpa using h
    subst this; rfl
  | a :: l, s, h, hn => by
    rw [List.nodup_cons] at hn
    rcases List.sublist_cons_iff.1 h with h | ⟨r, hr, h⟩
    · have hna : ¬ (s.find? fun y => f y == a).isSome = true := by
        intro e
        obtain ⟨y, hy⟩ := Option.isSome_iff_exists.1 e
        have h1 := List.mem_of_find?_eq_some hy
        have h2 : f y = a := by simpa using List.find?_some hy
        exact hn.1 (h.subset (List.mem_map.2 ⟨y, h1, h2⟩))
      rw [List.countP_cons_of_neg (p := fun p => (s.find? fun y => f y == p).isSome) hna, count_sub f l s h hn.2]
    · cases s with
      | nil => cases hr
      | cons y s =>
        simp only [List.map_cons, List.cons.injEq] at hr
        obtain ⟨h1, h2⟩ := hr
        subst h1 h2
        rw [List.countP_cons_of_pos (by simp), List.length_cons, ← count_sub f l s h hn.2]
        congr 1
        refine List.countP_congr fun p hp => ?_
        have hne : ¬ (f y == p) = true := fun e => hn.1 (by rw [beq_iff_eq] at e; rw [e]; exact hp)
        rw [List.find?_cons_of_neg (p := fun z => f z == p) hne]
/-- A path of the tree leads to a node. -/
theorem path_get {n : NV} (h : okT n) {p : List UInt8} (hp : p ∈ pathsS n [] 1) : ∃ x, getR n p = (x, 0) := by
  rw [pathsS_top] at hp
  obtain ⟨q, hq, rfl⟩ := List.mem_map.1 hp
  obtain ⟨x, hx⟩ := (getN_mem q n h).1 hq
  exact ⟨x, by rw [getR_join (path_ok q n h hq), hx]⟩
/-- A pair of paths: back again, and to equal contents. -/
theorem pair_back {v : Int} (hv : viewOk v = true) {n : NV} (hn : valid n = true) {y : List UInt8 × List UInt8} (hy : y ∈ prs (namesG v) v 1 n [] []) :
    (prs (namesG v) v 1 n [] []).find? (fun z => z.1 == y.1) = some y ∧ ∃ a b, getR n y.2 = (a, 0) ∧ getR (showG (namesG v) v 1 n) y.1 = (b, 0) ∧ sameC a b := by
  refine ⟨find_nodup (prs_nodup1 hv hn) hy, ?_⟩
  rw [prs_top] at hy
  obtain ⟨z, hz, rfl⟩ := List.mem_map.1 hy
  have h1 := valid_okT hn
  have h2 := valid_okT (show_valid hv hn)
  obtain ⟨h3, b, h4, h5⟩ := prsQ_at (namesG v) v _ n (Nat.lt_succ_self _) 1 h1 h2 z hz
  refine ⟨z.2.2, b, ?_, ?_, h5⟩
  · dsimp only
    rw [getR_join (path_ok _ n h1 ((getN_mem _ n h1).2 ⟨_, h3⟩)), h3]
  · dsimp only
    rw [getR_join (path_ok _ _ h2 ((getN_mem _ _ h2).2 ⟨_, h4⟩)), h4]
theorem pairs_count {v : Int} (hv : viewOk v = true) {n : NV} (hn : valid n = true) : (pathsS n [] 1).countP (fun p => ((prs (namesG v) v 1 n [] []).find? fun y => y.2 == p).isSome) = cnt (showG (namesG v) v 1 n) := by
  rw [count_sub Prod.snd _ _ (prs_sub (namesG v) v n 1 [] [] (Int.le_refl _)) (paths_nodup (valid_okT hn))]
  have := (prs_shown (namesG v) v n 1 [] [] (Int.le_refl _)).length_eq
  rw [List.length_map, pathsS_len] at this
  exact this
end Go.Tame.V
/- Law: NamingInverse. By program (mk.py). -/
namespace Go.Tame.V
open Go Go.Proofs
variable {W0 : World}
set_option maxRecDepth 10000
set_option linter.unusedVariables false
set_option linter.unusedSimpArgs false

def foundB (v : Int) (n : NV) (p : List UInt8) : Bool := ((prs (namesG v) v 1 n [] []).find? fun y => y.2 == p).isSome
theorem count_next {α : Type} (f : α → Bool) (l : List α) {i : Nat} (h : i < l.length) : (l.take (i + 1)).countP f = (l.take i).countP f + if f l[i] then 1 else 0 := by
  rw [List.take_succ_eq_append_getElem h, List.countP_append, List.countP_singleton]
theorem joinF_len (q : List (List UInt8)) : (joinF q).length ≤ (tailF q).length := by
  cases q with
  | nil => exact Nat.le_refl _
  | cons m r => simp [joinF, tailF]
theorem pathsS_bound {n : NV} {p : List UInt8} (h : p ∈ pathsS n [] 1) : p.length ≤ sz n := by
  rw [pathsS_top] at h
  obtain ⟨q, hq, rfl⟩ := List.mem_map.1 h
  have := path_len q n hq
  have := joinF_len q
  omega
theorem pair_mem {v : Int} {n : NV} {y : List UInt8 × List UInt8} (h : y ∈ prs (namesG v) v 1 n [] []) : y.1 ∈ pathsS (showG (namesG v) v 1 n) [] 1 :=
  (prs_shown (namesG v) v n 1 [] [] (Int.le_refl _)).mem_iff.1 (List.mem_map.2 ⟨y, h, rfl⟩)

theorem G6 (hL : LibOk W0) (v : Int) (n : NV) (hn : Fits n) : DFun Tryz.prog W0 6 [.int .i64 v, encTop n] (.bool true) := by
  refine DFun.intro ti_ok Tryz.func6 rfl (by decide +kernel) Tryz.ntmps6 rfl fun Γ => ?_
  refine Tri.seq ?_
  refine Tri.region ti_ok ?_
  conv => whnf
  intro b3
  conv => whnf
  refine Tri.seq ?_
  refine Tri.seq ?_
  refine Tri.region ti_ok ?_
  conv => whnf
  refine ⟨[], _, fun _ => G15 hL, trivial, ?_⟩
  conv => whnf
  refine Tri.cond _ rfl (fun hc => ?_) (fun hc => ?_)
  · refine Tri.seq ?_
    refine Tri.region ti_ok ?_
    conv => whnf
    refine Tri.ret ?_
    conv => whnf
    cases hc
  · refine Tri.skip ?_
    conv => whnf
    refine Tri.seq ?_
    refine Tri.seq ?_
    refine Tri.region ti_ok ?_
    conv => whnf
    refine ⟨rfl, ?_⟩
    conv => whnf
    refine ⟨[encTop n, .int .i64 20000], _, fun _ => F26 n 20000 hn, ⟨.refl _, .refl _, trivial⟩, ?_⟩
    conv => whnf
    refine Tri.cond _ rfl (fun hc => ?_) (fun hc => ?_)
    · refine Tri.seq ?_
      refine Tri.region ti_ok ?_
      conv => whnf
      refine Tri.ret ?_
      conv => whnf
      exact .refl _
    · refine Tri.skip ?_
      conv => whnf
      refine Tri.seq ?_
      have hf : few1 n 20000 = true := by simpa using hc
      have hs := few_sz2 hf
      have hvs := view_sz hL (v := v) hf
      have hvz := hvs.1
      have hz := hn
      unfold Fits at hz hvz
      refine Tri.region ti_ok ?_
      conv => whnf
      refine ⟨rfl, ?_⟩
      conv => whnf
      refine ⟨[.int .i64 v, encTop n], _, fun _ => F42 hL (namesG v) v (fun h => namesGok hL h) n (by omega) (fun _ => by omega), ⟨.refl _, .refl _, trivial⟩, ?_⟩
      conv => whnf
      intro b5
      conv => whnf
      refine ⟨rfl, ?_⟩
      conv => whnf
      refine Tri.seq ?_
      refine Tri.seq ?_
      refine Tri.region ti_ok ?_
      conv => whnf
      refine Tri.cond _ rfl (fun hc => ?_) (fun hc => ?_)
      · refine Tri.seq ?_
        refine Tri.region ti_ok ?_
        conv => whnf
        refine Tri.ret ?_
        conv => whnf
        exact .refl _
      · refine Tri.skip ?_
        conv => whnf
        refine Tri.seq ?_
        have h0 : (viewR (namesG v) v n).2 = 0 := by simpa using hc
        obtain ⟨hvo, hval⟩ := viewR_valid h0
        have hok := valid_okT hval
        have hVe : (viewR (namesG v) v n).1 = showG (namesG v) v 1 n := by rw [viewR, if_neg (by rw [hvo]; decide), if_neg (by rw [hval]; decide)]
        have hVv := show_valid hvo hval
        refine Tri.region ti_ok ?_
        conv => whnf
        refine Tri.seq ?_
        refine Tri.seq ?_
        refine Tri.region ti_ok ?_
        conv => whnf
        refine ⟨rfl, ?_⟩
        conv => whnf
        refine ⟨[encTop n], _, fun _ => F24 n hn hval, ⟨.refl _, trivial⟩, ?_⟩
        conv => whnf
        refine Tri.block ?_
        generalize hP : pathsS n [] 1 = P
        have hPl : P.length ≤ 40 := by have := pathsS_len n [] 1; rw [hP] at this; have := few_sz hf; omega
        rw [hVe] at hvs hvz ⊢
        generalize hV : showG (namesG v) v 1 n = V at *
        refine Tri.loop (α := { i : Nat // i ≤ P.length }) (fun x => [(0, .int .i64 v), (3, .box 3 b3 0), (5, .box 5 b5 0), (7, .int .i64 ((P.take x.1).countP (foundB v n) : Nat)), (32, .sl .none 1 (strs P)), (33, .int .i64 (strs P).length), (34, .int .i64 x.1)]) (fun _ => [(3, .box b3 (cellsN n)), (5, .box b5 (cellsN V))]) (fun x => P.length - x.1) ⟨0, by simp⟩ ⟨.refl _, .refl _, .refl _, .refl _, .refl _, .refl _, .refl _, trivial⟩ ⟨rfl, rfl, trivial⟩ ?_
        rintro ⟨i, hi⟩
        dsimp only
        refine Tri.seq ?_
        refine Tri.region ti_ok ?_
        conv => whnf
        refine Tri.seq ?_
        refine Tri.cond (decide ((i : Int) < (strs P).length)) rfl (fun hc => ?_) (fun hc => ?_)
        · refine Tri.skip ?_
          conv => whnf
          refine Tri.seq ?_
          refine Tri.block ?_
          refine Tri.seq ?_
          refine Tri.region ti_ok ?_
          have hia : i < P.length := by simpa [strs] using hc
          have hmem : P[i] ∈ pathsS n [] 1 := by rw [hP]; exact List.getElem_mem hia
          have hpl := pathsS_bound hmem
          obtain ⟨x, hx⟩ := path_get hok hmem
          have hcn := count_next (foundB v n) P hia
          have hcl := List.countP_le_length (p := foundB v n) (l := P.take i)
          rw [List.length_take] at hcl
          have hdis : ∃ (q : List UInt8) (e : Int), DFun Tryz.prog W0 20 [.int .i64 v, encTop n, .str P[i]] (.tup [.str q, .int .i64 e]) ∧ ((e = 8 ∧ foundB v n P[i] = false) ∨ (e = 0 ∧ foundB v n P[i] = true ∧ (q, P[i]) ∈ prs (namesG v) v 1 n [] [])) := by
            have hG := G20 hL (namesG v) v (fun h => namesGok hL h) n hn (fun _ => by omega) P[i] (by omega)
            rw [pathV_find h0 P[i] (by rw [hx])] at hG
            cases hfd : (prs (namesG v) v 1 n [] []).find? (fun y => y.2 == P[i]) with
            | none => rw [hfd] at hG; exact ⟨_, _, hG, .inl ⟨rfl, by rw [foundB, hfd]; rfl⟩⟩
            | some y =>
              rw [hfd] at hG
              have h2 : y.2 = P[i] := by simpa using List.find?_some hfd
              exact ⟨_, _, hG, .inr ⟨rfl, by rw [foundB, hfd]; rfl, by rw [← h2]; exact List.mem_of_find?_eq_some hfd⟩⟩
          obtain ⟨q, e, hG, hd⟩ := hdis
          conv => whnf
          refine ⟨fun _ => by simp [strs]; omega, ?_⟩
          conv => whnf
          refine ⟨.str P[i], fun _ => by simp [strs, hia], ?_⟩
          conv => whnf
          refine Tri.seq ?_
          refine Tri.region ti_ok ?_
          conv => whnf
          refine ⟨rfl, ?_⟩
          conv => whnf
          refine ⟨[.int .i64 v, encTop n, .str P[i]], _, fun _ => hG, ⟨.refl _, .refl _, .refl _, trivial⟩, ?_⟩
          conv => whnf
          refine Tri.seq ?_
          refine Tri.seq ?_
          refine Tri.region ti_ok ?_
          conv => whnf
          refine Tri.cond _ rfl (fun hc => ?_) (fun hc => ?_)
          · refine Tri.exit ?_
            conv => whnf
            refine Tri.region ti_ok ?_
            conv => whnf
            refine .inl ⟨fun _ => by simp [InR]; omega, ?_⟩
            conv => whnf
            have he : e = 8 := by simpa using hc
            have hff : foundB v n P[i] = false := by
              rcases hd with ⟨_, h⟩ | ⟨h, _⟩
              · exact h
              · omega
            have hc2 : (P.take (i + 1)).countP (foundB v n) = (P.take i).countP (foundB v n) := by rw [hcn, hff]; rfl
            exact ⟨⟨i + 1, hia⟩, by show _ - (i + 1) < _ - i; omega, ⟨.refl _, .refl _, .refl _, intDLe (by rw [hc2]), .refl _, .refl _, .refl _, trivial⟩, ⟨rfl, rfl, trivial⟩⟩
          · refine Tri.skip ?_
            conv => whnf
            refine Tri.seq ?_
            have he : ¬ e = 8 := by simpa using hc
            obtain ⟨rfl, hff, hqm⟩ : e = 0 ∧ foundB v n P[i] = true ∧ (q, P[i]) ∈ prs (namesG v) v 1 n [] [] := by
              rcases hd with ⟨h, _⟩ | h
              · exact absurd h he
              · exact h
            obtain ⟨hbk, a, b, hga, hgb, hab⟩ := pair_back hvo hval hqm
            dsimp only at hbk hga hgb
            rw [hV] at hgb
            have hql : q.length ≤ sz V := by have := pathsS_bound (pair_mem hqm); rw [hV] at this; exact this
            have hS : DFun Tryz.prog W0 22 [.int .i64 v, encTop n, .str q] (.tup [.str P[i], .int .i64 0]) := by
              have := G22 hL (namesG v) v (fun h => namesGok hL h) n hn (fun _ => by omega) q (by omega)
              rw [sourceV_find h0 q, hbk] at this; exact this
            have hA : DFun Tryz.prog W0 26 [encTop n, .str P[i]] (.tup [encTop a, .int .i64 0]) := by
              have := F21 (W0 := W0) n P[i] hn hval (by omega)
              rw [hga] at this; exact this
            have hB : DFun Tryz.prog W0 26 [encTop V, .str q] (.tup [encTop b, .int .i64 0]) := by
              have := F21 (W0 := W0) V q (by unfold Fits; omega) hVv (by omega)
              rw [hgb] at this; exact this
            refine Tri.region ti_ok ?_
            conv => whnf
            refine .inl ⟨fun _ => by simp only [InR]; omega, ?_⟩
            conv => whnf
            refine Tri.seq ?_
            refine Tri.region ti_ok ?_
            conv => whnf
            refine ⟨rfl, ?_⟩
            conv => whnf
            refine ⟨[.int .i64 v, encTop n, .str q], _, fun _ => hS, ⟨.refl _, .refl _, .refl _, trivial⟩, ?_⟩
            conv => whnf
            refine Tri.seq ?_
            refine Tri.region ti_ok ?_
            conv => whnf
            refine ⟨rfl, ?_⟩
            conv => whnf
            refine ⟨[encTop n, .str P[i]], _, fun _ => hA, ⟨.refl _, .refl _, trivial⟩, ?_⟩
            conv => whnf
            intro b14
            conv => whnf
            refine ⟨rfl, ?_⟩
            conv => whnf
            refine Tri.seq ?_
            refine Tri.region ti_ok ?_
            conv => whnf
            refine ⟨rfl, ?_⟩
            conv => whnf
            refine ⟨[encTop V, .str q], _, fun _ => hB, ⟨.refl _, .refl _, trivial⟩, ?_⟩
            conv => whnf
            intro b16
            conv => whnf
            refine ⟨rfl, ?_⟩
            conv => whnf
            refine Tri.seq ?_
            refine Tri.region ti_ok ?_
            conv => whnf
            refine ⟨fun h => h, ?_⟩
            conv => whnf
            refine ⟨fun h0 h => by first | exact h | (rw [h]; rfl) | (rw [h0, h]; rfl), ?_⟩
            conv => whnf
            refine ⟨fun h => h, ?_⟩
            conv => whnf
            refine ⟨fun h => h, ?_⟩
            conv => whnf
            refine ⟨fun h0 h => by first | exact h | (rw [h]; rfl) | (rw [h0, h]; rfl), ?_⟩
            conv => whnf
            refine ⟨fun h => h, ?_⟩
            conv => whnf
            refine ⟨fun h0 h => by first | exact h | (rw [h]; rfl) | (rw [h0, h]; rfl), ?_⟩
            conv => whnf
            refine ⟨fun h => h, ?_⟩
            conv => whnf
            refine ⟨fun h0 h => by first | exact h | (rw [h]; rfl) | (rw [h0, h]; rfl), ?_⟩
            conv => whnf
            refine ⟨fun h => h, ?_⟩
            conv => whnf
            refine ⟨rfl, ?_⟩
            conv => whnf
            refine ⟨fun h => h, ?_⟩
            conv => whnf
            refine ⟨rfl, ?_⟩
            conv => whnf
            refine ⟨fun h => h, ?_⟩
            conv => whnf
            refine ⟨fun h => h, ?_⟩
            conv => whnf
            refine ⟨fun h0 h => by first | exact h | (rw [h]; rfl) | (rw [h0, h]; rfl), ?_⟩
            conv => whnf
            refine ⟨fun h => h, ?_⟩
            conv => whnf
            refine ⟨rfl, ?_⟩
            conv => whnf
            refine ⟨fun h => h, ?_⟩
            conv => whnf
            refine ⟨rfl, ?_⟩
            conv => whnf
            refine ⟨fun h => h, ?_⟩
            conv => whnf
            refine ⟨fun h => h, ?_⟩
            conv => whnf
            refine ⟨fun h0 h => by first | exact h | (rw [h]; rfl) | (rw [h0, h]; rfl), ?_⟩
            conv => whnf
            refine ⟨fun h => h, ?_⟩
            conv => whnf
            refine ⟨rfl, ?_⟩
            conv => whnf
            refine ⟨fun h => h, ?_⟩
            conv => whnf
            refine ⟨rfl, ?_⟩
            conv => whnf
            refine ⟨fun h => h, ?_⟩
            conv => whnf
            refine ⟨fun h => h, ?_⟩
            conv => whnf
            refine ⟨fun h0 h => by first | exact h | (rw [h]; rfl) | (rw [h0, h]; rfl), ?_⟩
            conv => whnf
            refine ⟨fun h => h, ?_⟩
            conv => whnf
            refine ⟨rfl, ?_⟩
            conv => whnf
            refine ⟨fun h => h, ?_⟩
            conv => whnf
            refine ⟨rfl, ?_⟩
            conv => whnf
            refine ⟨fun h => h, ?_⟩
            conv => whnf
            refine ⟨fun h => h, ?_⟩
            conv => whnf
            refine ⟨fun h0 h => by first | exact h | (rw [h]; rfl) | (rw [h0, h]; rfl), ?_⟩
            conv => whnf
            refine Tri.cond _ rfl (fun hc => ?_) (fun hc => ?_)
            · refine Tri.seq ?_
              refine Tri.region ti_ok ?_
              conv => whnf
              refine Tri.ret ?_
              conv => whnf
              exfalso
              obtain ⟨e1, e2, e3, e4⟩ := hab
              simp [e1, e2, e3, e4] at hc
            · refine Tri.skip ?_
              conv => whnf
              refine Tri.region ti_ok ?_
              conv => whnf
              refine .inl ⟨fun _ => by simp [InR]; omega, ?_⟩
              conv => whnf
              have hc2 : (P.take (i + 1)).countP (foundB v n) = (P.take i).countP (foundB v n) + 1 := by rw [hcn, hff]; rfl
              exact ⟨⟨i + 1, hia⟩, by show _ - (i + 1) < _ - i; omega, ⟨.refl _, .refl _, .refl _, intDLe (by rw [hc2]; rfl), .refl _, .refl _, .refl _, trivial⟩, ⟨rfl, rfl, trivial⟩⟩
        · refine Tri.exit ?_
          conv => whnf
          refine Tri.seq ?_
          refine Tri.region ti_ok ?_
          conv => whnf
          refine ⟨rfl, ?_⟩
          conv => whnf
          refine ⟨[encTop V], _, fun _ => F47 _ V (Nat.lt_succ_self _) (by omega), ⟨.refl _, trivial⟩, ?_⟩
          conv => whnf
          refine Tri.ret ?_
          conv => whnf
          have hin : P.take i = P := List.take_of_length_le (by simp [strs] at hc; omega)
          have hct : P.countP (foundB v n) = cnt V := by rw [← hP, ← hV]; exact pairs_count hvo hval
          refine DLe.of_eq (congrArg D.bool ?_)
          rw [hin, hct]; simp
end Go.Tame.V
