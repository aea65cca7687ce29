/- A program logic of my own over the model, and contracts of this program's functions by it: part 7. No conditions of its own: each theorem states its own. -/
import Derived.Test.YtpkeldhgfdeebaaGreatDoorL6
set_option linter.unnecessarySimpa false
set_option linter.unusedSimpArgs false
set_option linter.unusedVariables false
/- Laws: NamingViews, NamingPaths. By program (mk.py). -/
namespace Go.Tame.V
open Go Go.Proofs
variable {W0 : World}
set_option maxRecDepth 10000
set_option linter.unusedVariables false
set_option linter.unusedSimpArgs false

theorem few_up {n : NV} (h : few1 n 20000 = true) : few1 n 100000 = true := by
  simp only [few1, Bool.and_eq_true, decide_eq_true_eq] at h ⊢
  omega
theorem few_sz2 {n : NV} (h : few1 n 20000 = true) : sz n ≤ 40000 := by
  have := few_sz h; omega
theorem view_sz (hL : LibOk W0) {v : Int} {n : NV} (h : few1 n 20000 = true) : Fits (viewR (namesG v) v n).1 ∧ sz (viewR (namesG v) v n).1 < 300000 := by
  unfold viewR
  split
  · exact ⟨by unfold Fits; decide, by decide⟩
  · split
    · exact ⟨by unfold Fits; decide, by decide⟩
    · rename_i h1 h2
      exact show_fits (namesG v) v (namesSh hL (by simpa using h1)) (by simpa using h2) (few_up h)

theorem G3 (hL : LibOk W0) (v : Int) (n : NV) (hn : Fits n) : DFun Tryz.prog W0 3 [.int .i64 v, encTop n] (.bool true) := by
  refine DFun.intro ti_ok Tryz.func3 rfl (by decide +kernel) Tryz.ntmps3 rfl fun Γ => ?_
  refine Tri.seq ?_
  refine Tri.region ti_ok ?_
  conv => whnf
  intro b3
  conv => whnf
  refine Tri.seq ?_
  refine Tri.seq ?_
  refine Tri.region ti_ok ?_
  conv => whnf
  refine ⟨[], _, fun _ => G15 hL, trivial, ?_⟩
  conv => whnf
  refine Tri.cond _ rfl (fun hc => ?_) (fun hc => ?_)
  · refine Tri.seq ?_
    refine Tri.region ti_ok ?_
    conv => whnf
    refine Tri.ret ?_
    conv => whnf
    cases hc
  · refine Tri.skip ?_
    conv => whnf
    refine Tri.seq ?_
    refine Tri.seq ?_
    refine Tri.region ti_ok ?_
    conv => whnf
    refine ⟨rfl, ?_⟩
    conv => whnf
    refine ⟨[encTop n, .int .i64 20000], _, fun _ => F26 n 20000 hn, ⟨.refl _, .refl _, trivial⟩, ?_⟩
    conv => whnf
    refine Tri.cond _ rfl (fun hc => ?_) (fun hc => ?_)
    · refine Tri.seq ?_
      refine Tri.region ti_ok ?_
      conv => whnf
      refine Tri.ret ?_
      conv => whnf
      exact .refl _
    · refine Tri.skip ?_
      conv => whnf
      refine Tri.seq ?_
      have hf : few1 n 20000 = true := by simpa using hc
      have hs := few_sz2 hf
      have hvs := view_sz hL (v := v) hf
      have hz := hn
      unfold Fits at hz
      refine Tri.region ti_ok ?_
      conv => whnf
      refine ⟨rfl, ?_⟩
      conv => whnf
      refine ⟨[.int .i64 v, encTop n], _, fun _ => F42 hL (namesG v) v (fun h => namesGok hL h) n (by omega) (fun _ => by omega), ⟨.refl _, .refl _, trivial⟩, ?_⟩
      conv => whnf
      intro b5
      conv => whnf
      refine ⟨rfl, ?_⟩
      conv => whnf
      refine Tri.seq ?_
      refine Tri.region ti_ok ?_
      conv => whnf
      refine ⟨rfl, ?_⟩
      conv => whnf
      refine ⟨[.int .i64 v, encTop n], _, fun _ => F31 v (fun h => namesNd hL h) n hn, ⟨.refl _, .refl _, trivial⟩, ?_⟩
      conv => whnf
      intro b7
      conv => whnf
      refine ⟨rfl, ?_⟩
      conv => whnf
      refine Tri.seq ?_
      refine Tri.region ti_ok ?_
      conv => whnf
      refine ⟨rfl, ?_⟩
      conv => whnf
      refine ⟨rfl, ?_⟩
      conv => whnf
      refine ⟨fun h => h, ?_⟩
      conv => whnf
      refine ⟨fun h => h, ?_⟩
      conv => whnf
      refine ⟨[encTop (viewR (namesG v) v n).1, encTop (viewR (namesG v) v n).1], _, fun h => F25 _ _ _ (Nat.lt_succ_self _) (by omega), ⟨.refl _, .refl _, trivial⟩, ?_⟩
      conv => whnf
      refine ⟨fun h0 h => by first | exact h | (rw [h]; rfl) | (rw [h0, h]; rfl), ?_⟩
      conv => whnf
      refine Tri.ret ?_
      conv => whnf
      exact DLe.of_eq (congrArg D.bool (by simp [eqT_rfl]))
end Go.Tame.V
