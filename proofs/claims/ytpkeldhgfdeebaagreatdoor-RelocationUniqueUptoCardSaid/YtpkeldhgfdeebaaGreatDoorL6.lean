/- A program logic of my own over the model, and contracts of this program's functions by it: part 6. No conditions of its own: each theorem states its own. -/
import Derived.Test.YtpkeldhgfdeebaaGreatDoorL5
set_option linter.unnecessarySimpa false
set_option linter.unusedSimpArgs false
set_option linter.unusedVariables false
/- Contracts: awake. By program (mkrm.py, mk.py). -/
namespace Go.Tame.V
open Go Go.Proofs
variable {W0 : World}
set_option maxRecDepth 100000
set_option linter.unusedVariables false
set_option linter.unusedSimpArgs false

def dirs8 : List DirV := [⟨[], [0], 1, 0, 0, false⟩, ⟨[47], [82, 82, 95, 77, 79, 86, 69, 68], 2, 0, 0, false⟩, ⟨[97], [65], 2, 0, 0, false⟩, ⟨[97, 47, 97], [65], 3, 2, 2, false⟩, ⟨[97, 47, 97, 47, 97], [65], 4, 3, 3, false⟩,
  ⟨[97, 47, 97, 47, 97, 47, 97], [65], 5, 4, 4, false⟩, ⟨[97, 47, 97, 47, 97, 47, 97, 47, 97], [65], 6, 5, 5, false⟩, ⟨[97, 47, 97, 47, 97, 47, 97, 47, 97, 47, 97], [65], 7, 6, 6, false⟩,
  ⟨[97, 47, 97, 47, 97, 47, 97, 47, 97, 47, 97, 47, 97], [65], 8, 7, 7, false⟩, ⟨[97, 47, 97, 47, 97, 47, 97, 47, 97, 47, 97, 47, 97, 47, 97], [68, 49], 3, 1, 8, true⟩]
def ents8 : List EntV := [⟨[47], [82, 82, 95, 77, 79, 86, 69, 68], 0, 1, true, false, false⟩, ⟨[97], [65], 0, 2, false, true, false⟩, ⟨[97, 47, 97, 47, 97, 47, 97, 47, 97, 47, 97, 47, 97, 47, 97], [68, 49], 1, 9, true, true, false⟩,
  ⟨[97, 47, 97], [65], 2, 3, false, true, false⟩, ⟨[97, 47, 97, 47, 97], [65], 3, 4, false, true, false⟩, ⟨[97, 47, 97, 47, 97, 47, 97], [65], 4, 5, false, true, false⟩, ⟨[97, 47, 97, 47, 97, 47, 97, 47, 97], [65], 5, 6, false, true, false⟩,
  ⟨[97, 47, 97, 47, 97, 47, 97, 47, 97, 47, 97], [65], 6, 7, false, true, false⟩, ⟨[97, 47, 97, 47, 97, 47, 97, 47, 97, 47, 97, 47, 97], [65], 7, 8, false, true, false⟩,
  ⟨[97, 47, 97, 47, 97, 47, 97, 47, 97, 47, 97, 47, 97, 47, 97], [65, 46, 59, 49], 8, -1, true, true, true⟩]
theorem plan8 : planV true (chainT 7) = (dirs8, ents8, 0) := by decide +kernel
theorem phys8 : physV dirs8 9 = ([[82, 82, 95, 77, 79, 86, 69, 68], [68, 49]], 0) := by decide +kernel
theorem need8 : needV (chainT 7) = true := by decide +kernel
theorem need7 : needV (chainT 6) = false := by decide +kernel
theorem len8 : (planV true (chainT 7)).1.length < 1000000000 := by decide +kernel
theorem len7 : (planV true (chainT 6)).1.length < 1000000000 := by decide +kernel
theorem few8 : valid (chainT 7) = true → cnt (chainT 7) < 99 ∧ sz (chainT 7) < 800000 := by decide +kernel
theorem few7 : valid (chainT 6) = true → cnt (chainT 6) < 99 ∧ sz (chainT 6) < 800000 := by decide +kernel
theorem fits8 : Fits (chainT 7) := by unfold Fits; decide +kernel
theorem fits7 : Fits (chainT 6) := by unfold Fits; decide +kernel
def two26 : List NV := [.mk [120] 0 [] [] 0 0 0 0 0 0 [] [], .mk [121] 1 [] [] 0 0 0 0 0 0 [] []]
theorem two_inc : inc two26 := fun i hi => by
  have : i = 0 := by simp [two26] at hi; omega
  subst this; decide +kernel
theorem two_g : namesG 0 two26 = [[88], [89]] := by decide +kernel
theorem two_names : namesR 0 two26 = ([[88], [89]], 0) := by
  rw [namesR, if_neg (by decide), if_neg (by decide +kernel), if_neg (by decide +kernel), if_neg (by decide +kernel), namesU_inc two_inc, two_g]
theorem two_len : ∀ k ∈ two26, k.name.length < 1000000000 := by decide +kernel
theorem two_nl : ∀ m ∈ ([[88], [89]] : List (List UInt8)), m.length < 1000000000 := by decide +kernel
theorem two_ids : ((if (List.range two26.length).all (fun j => (idAt [[88], [89]] two26 j).2 == 0) then strs (idsL [[88], [89]] two26) else []) = strs [[88], [89, 46, 59, 49]]) ∧ ((if (List.range two26.length).all (fun j => (idAt [[88], [89]] two26 j).2 == 0) then (0 : Int) else 4) = 0) := by
  have h : (List.range two26.length).all (fun j => (idAt [[88], [89]] two26 j).2 == 0) = true := by decide +kernel
  have h2 : idsL [[88], [89]] two26 = [[88], [89, 46, 59, 49]] := by decide +kernel
  rw [if_pos h, if_pos h, h2]; exact ⟨rfl, rfl⟩
set_option maxHeartbeats 4000000 in
theorem G39 (hL : LibOk W0) : DFun Tryz.prog W0 39 [] (.bool true) := by
  refine DFun.intro ti2_ok Tryz.func39 rfl (by decide +kernel) Tryz.ntmps39 rfl fun Γ => ?_
  have hP : DFun Tryz.prog W0 40 [encTop (chainT 7), .bool true] (.tup [.sl .none 6 (dirs8.map encDir), .sl .none 7 (ents8.map encEnt), .int .i64 0]) := by
    have h := G40 (W0 := W0) hL true (chainT 7) fits8 few8
    rw [plan8] at h; exact h
  have hQ : DFun Tryz.prog W0 48 [.sl .none 6 (dirs8.map encDir), .int .i64 9] (.tup [.sl .none 1 (strs [[82, 82, 95, 77, 79, 86, 69, 68], [68, 49]]), .int .i64 0]) := by
    have h := G48 (W0 := W0) dirs8 9 (by decide)
    rw [phys8] at h; exact h
  have hI : DFun Tryz.prog W0 46 [.sl .none 12 (two26.map enc)] (.tup [.sl .none 1 (strs [[88], [89, 46, 59, 49]]), .int .i64 0]) := by
    have h := G46 (W0 := W0) hL two26 (by decide) two_len (by rw [two_names]) (by rw [two_names]; exact two_nl) (by rw [two_names]; rfl)
    rw [two_names, two_ids.1, two_ids.2] at h; exact h
  have hN8 : DFun Tryz.prog W0 50 [encTop (chainT 7)] (.bool true) := by
    have h := G50 (W0 := W0) hL (chainT 7) fits8 few8 len8
    rw [need8] at h; exact h
  have hN7 : DFun Tryz.prog W0 50 [encTop (chainT 6)] (.bool false) := by
    have h := G50 (W0 := W0) hL (chainT 6) fits7 few7 len7
    rw [need7] at h; exact h
  refine Tri.seq ?_
  refine Tri.region ti2_ok ?_
  conv => whnf
  refine Tri.seq ?_
  refine Tri.region ti2_ok ?_
  conv => whnf
  refine ⟨[.int .i64 ((8 : Nat) : Int)], _, fun _ => G87 8 (by decide) (by decide), ⟨.refl _, trivial⟩, ?_⟩
  conv => whnf
  refine ⟨[encTop (chainT 7), .bool true], _, fun _ => hP, ⟨.refl _, .refl _, trivial⟩, ?_⟩
  conv => whnf
  refine Tri.seq ?_
  refine Tri.seq ?_
  refine Tri.region ti2_ok ?_
  conv => whnf
  refine ⟨fun h => h, ?_⟩
  conv => whnf
  refine ⟨fun h => h, ?_⟩
  conv => whnf
  refine ⟨fun h0 h => by first | exact h | (rw [h]; rfl) | (rw [h0, h]; rfl), ?_⟩
  conv => whnf
  refine ⟨fun h => h, ?_⟩
  conv => whnf
  refine ⟨fun _ => by decide +kernel, ?_⟩
  conv => whnf
  refine ⟨fun h => h, ?_⟩
  conv => whnf
  refine ⟨fun h => h, ?_⟩
  conv => whnf
  refine ⟨_, fun _ => rfl, ?_⟩
  conv => whnf
  refine ⟨fun h => h, ?_⟩
  conv => whnf
  refine ⟨fun h0 h => by first | exact h | (rw [h]; rfl) | (rw [h0, h]; rfl), ?_⟩
  conv => whnf
  refine ⟨fun h => h, ?_⟩
  conv => whnf
  refine ⟨fun _ => by decide +kernel, ?_⟩
  conv => whnf
  refine ⟨fun h => h, ?_⟩
  conv => whnf
  refine ⟨fun h => h, ?_⟩
  conv => whnf
  refine ⟨_, fun _ => rfl, ?_⟩
  conv => whnf
  refine ⟨fun h => h, ?_⟩
  conv => whnf
  refine ⟨fun h0 h => by first | exact h | (rw [h]; rfl) | (rw [h0, h]; rfl), ?_⟩
  conv => whnf
  refine ⟨fun h => h, ?_⟩
  conv => whnf
  refine ⟨fun _ => by decide +kernel, ?_⟩
  conv => whnf
  refine ⟨fun h => h, ?_⟩
  conv => whnf
  refine ⟨_, fun _ => rfl, ?_⟩
  conv => whnf
  refine ⟨fun h => h, ?_⟩
  conv => whnf
  refine ⟨fun h => h, ?_⟩
  conv => whnf
  refine ⟨fun h0 h => by first | exact h | (rw [h]; rfl) | (rw [h0, h]; rfl), ?_⟩
  conv => whnf
  refine ⟨fun h => h, ?_⟩
  conv => whnf
  refine ⟨fun h => h, ?_⟩
  conv => whnf
  refine ⟨fun h0 h => by first | exact h | (rw [h]; rfl) | (rw [h0, h]; rfl), ?_⟩
  conv => whnf
  refine ⟨fun h => h, ?_⟩
  conv => whnf
  refine ⟨fun _ => by decide +kernel, ?_⟩
  conv => whnf
  refine ⟨fun h => h, ?_⟩
  conv => whnf
  refine ⟨fun h => h, ?_⟩
  conv => whnf
  refine ⟨_, fun _ => rfl, ?_⟩
  conv => whnf
  refine ⟨fun h => h, ?_⟩
  conv => whnf
  refine ⟨fun h0 h => by first | exact h | (rw [h]; rfl) | (rw [h0, h]; rfl), ?_⟩
  conv => whnf
  refine ⟨fun h => h, ?_⟩
  conv => whnf
  refine ⟨fun _ => by decide +kernel, ?_⟩
  conv => whnf
  refine ⟨fun h => h, ?_⟩
  conv => whnf
  refine ⟨fun h => h, ?_⟩
  conv => whnf
  refine ⟨_, fun _ => rfl, ?_⟩
  conv => whnf
  refine ⟨fun h => h, ?_⟩
  conv => whnf
  refine ⟨fun h0 h => by first | exact h | (rw [h]; rfl) | (rw [h0, h]; rfl), ?_⟩
  conv => whnf
  refine ⟨fun h => h, ?_⟩
  conv => whnf
  refine ⟨fun _ => by decide +kernel, ?_⟩
  conv => whnf
  refine ⟨fun h => h, ?_⟩
  conv => whnf
  refine ⟨fun h => h, ?_⟩
  conv => whnf
  refine ⟨_, fun _ => rfl, ?_⟩
  conv => whnf
  refine ⟨fun h => h, ?_⟩
  conv => whnf
  refine ⟨fun h0 h => by first | exact h | (rw [h]; rfl) | (rw [h0, h]; rfl), ?_⟩
  conv => whnf
  refine ⟨fun h => h, ?_⟩
  conv => whnf
  refine ⟨fun _ => by decide +kernel, ?_⟩
  conv => whnf
  refine ⟨fun h => h, ?_⟩
  conv => whnf
  refine ⟨fun h => h, ?_⟩
  conv => whnf
  refine ⟨_, fun _ => rfl, ?_⟩
  conv => whnf
  refine ⟨fun h => h, ?_⟩
  conv => whnf
  refine ⟨fun h0 h => by first | exact h | (rw [h]; rfl) | (rw [h0, h]; rfl), ?_⟩
  conv => whnf
  refine ⟨fun h => h, ?_⟩
  conv => whnf
  refine ⟨fun _ => by decide +kernel, ?_⟩
  conv => whnf
  refine ⟨fun h => h, ?_⟩
  conv => whnf
  refine ⟨fun h => h, ?_⟩
  conv => whnf
  refine ⟨_, fun _ => rfl, ?_⟩
  conv => whnf
  refine ⟨fun h => h, ?_⟩
  conv => whnf
  refine ⟨fun h0 h => by first | exact h | (rw [h]; rfl) | (rw [h0, h]; rfl), ?_⟩
  conv => whnf
  refine Tri.cond false (by kernel_rfl) (fun hc => ?_) (fun hc => ?_)
  · cases hc
  · refine Tri.skip ?_
    conv => whnf
    refine Tri.seq ?_
    refine Tri.region ti2_ok ?_
    conv => whnf
    refine ⟨[.sl .none 6 (dirs8.map encDir), .int .i64 9], _, fun _ => hQ, ⟨.refl _, .refl _, trivial⟩, ?_⟩
    conv => whnf
    refine Tri.seq ?_
    refine Tri.region ti2_ok ?_
    conv => whnf
    refine ⟨trivial, ?_⟩
    conv => whnf
    refine ⟨[.sl .none 12 (two26.map enc)], _, fun _ => hI, ⟨DLe.trans DLe.full (DLe.slMap ⟨.refl _, .refl _, .refl _, .refl _, .refl _, .refl _, .refl _, .refl _, .refl _, .refl _, DLe.nil, DLe.nil, .refl _, .refl _, .refl _, .refl _, .refl _, .refl _, .refl _, .refl _, .refl _, .refl _, DLe.nil, DLe.nil, trivial⟩ rfl (fun y hy => by obtain ⟨z, _, rfl⟩ := List.mem_map.1 hy; cases z; rfl)), trivial⟩, ?_⟩
    conv => whnf
    refine Tri.seq ?_
    refine Tri.region ti2_ok ?_
    conv => whnf
    refine ⟨trivial, ?_⟩
    conv => whnf
    refine ⟨fun h => h, ?_⟩
    conv => whnf
    refine ⟨fun h => h, ?_⟩
    conv => whnf
    refine ⟨[.sl .none 1 (([[82, 82, 95, 77, 79, 86, 69, 68], [68, 49]] : List (List UInt8)).map D.str), .sl .none 1 (([[82, 82, 95, 77, 79, 86, 69, 68], [68, 49]] : List (List UInt8)).map D.str)], _, fun _ => F23 _ _ (by decide) (by decide), ⟨.refl _, DLe.full, trivial⟩, ?_⟩
    conv => whnf
    refine ⟨fun h0 h => by first | exact h | (rw [h]; rfl) | (rw [h0, h]; rfl), ?_⟩
    conv => whnf
    refine ⟨fun h => h, ?_⟩
    conv => whnf
    refine ⟨fun h0 h => by first | exact h | (rw [h]; rfl) | (rw [h0, h]; rfl), ?_⟩
    conv => whnf
    refine ⟨trivial, ?_⟩
    conv => whnf
    refine ⟨fun h => h, ?_⟩
    conv => whnf
    refine ⟨fun h => h, ?_⟩
    conv => whnf
    refine ⟨[.sl .none 1 (([[88], [89, 46, 59, 49]] : List (List UInt8)).map D.str), .sl .none 1 (([[88], [89, 46, 59, 49]] : List (List UInt8)).map D.str)], _, fun _ => F23 _ _ (by decide) (by decide), ⟨.refl _, DLe.full, trivial⟩, ?_⟩
    conv => whnf
    refine ⟨fun h0 h => by first | exact h | (rw [h]; rfl) | (rw [h0, h]; rfl), ?_⟩
    conv => whnf
    refine ⟨[.int .i64 ((8 : Nat) : Int)], _, fun _ => G87 8 (by decide) (by decide), ⟨.refl _, trivial⟩, ?_⟩
    conv => whnf
    refine ⟨fun h => h, ?_⟩
    conv => whnf
    refine ⟨[encTop (chainT 7)], _, fun _ => hN8, ⟨.refl _, trivial⟩, ?_⟩
    conv => whnf
    refine ⟨fun h0 h => by first | exact h | (rw [h]; rfl) | (rw [h0, h]; rfl), ?_⟩
    conv => whnf
    refine ⟨[.int .i64 ((7 : Nat) : Int)], _, fun _ => G87 7 (by decide) (by decide), ⟨.refl _, trivial⟩, ?_⟩
    conv => whnf
    refine ⟨fun h => h, ?_⟩
    conv => whnf
    refine ⟨[encTop (chainT 6)], _, fun _ => hN7, ⟨.refl _, trivial⟩, ?_⟩
    conv => whnf
    refine ⟨fun h => h, ?_⟩
    conv => whnf
    refine ⟨fun h0 h => by first | exact h | (rw [h]; rfl) | (rw [h0, h]; rfl), ?_⟩
    conv => whnf
    refine Tri.ret ?_
    conv => whnf
    exact .refl _
end Go.Tame.V
/- Laws: RelocationPlans. By program (mkrn.py, mk.py). -/
namespace Go.Tame.V
open Go Go.Proofs
variable {W0 : World}
set_option maxRecDepth 10000
set_option linter.unusedVariables false
set_option linter.unusedSimpArgs false

theorem plan_lenD (rr : Bool) (n : NV) : (planV rr n).1.length ≤ 2 * cnt n + 2 := by
  unfold planV
  split
  · have h := spT_len n (rootX rr n) ⟨1, 1, 0⟩
    have h2 : (dirsX (spT n (rootX rr n) ⟨1, 1, 0⟩)).length ≤ (spT n (rootX rr n) ⟨1, 1, 0⟩).length := List.length_filter_le _ _
    simp only [dirsP, List.length_cons, List.length_append, List.length_map]
    split <;> simp <;> omega
  · simp
theorem planE_len (rn : List UInt8) (T : List XS) : (entsP rn T).length ≤ ((dirsX T).length + 1) * (2 * T.length + 1) := by
  rw [← entU_plan]; exact entU_len _ _ _ _
theorem plan_lenE (rr : Bool) (n : NV) (hc : cnt n ≤ 40) : (planV rr n).2.1.length ≤ 100000 := by
  unfold planV
  split
  · have h := spT_len n (rootX rr n) ⟨1, 1, 0⟩
    have h2 : (dirsX (spT n (rootX rr n) ⟨1, 1, 0⟩)).length ≤ (spT n (rootX rr n) ⟨1, 1, 0⟩).length := List.length_filter_le _ _
    have h3 := planE_len (rrN (rrK (namesG 0 n.kids))) (spT n (rootX rr n) ⟨1, 1, 0⟩)
    have h4 : ((dirsX (spT n (rootX rr n) ⟨1, 1, 0⟩)).length + 1) * (2 * (spT n (rootX rr n) ⟨1, 1, 0⟩).length + 1) ≤ 100 * 200 := Nat.mul_le_mul (by omega) (by omega)
    show (entsP _ _).length ≤ _
    omega
  · simp
end Go.Tame.V
/- What holds of the directories of a plan. Plain. -/
namespace Go.Tame.V
open Go Go.Proofs
set_option maxRecDepth 10000
set_option linter.unusedVariables false
set_option linter.unusedSimpArgs false

mutual
theorem spT_all (P : XS → Prop) (h : ∀ x k m c, (child x k m c).any = true → P (child x k m c)) : ∀ (n : NV) (x : XS) (c : Cn), ∀ s ∈ spT n x c, P s
  | .mk _ _ _ _ _ _ _ _ _ _ ks _, x, c, s, hs => by
    simp only [spT] at hs
    exact spL_all P h ks _ x c s hs
theorem spL_all (P : XS → Prop) (h : ∀ x k m c, (child x k m c).any = true → P (child x k m c)) : ∀ (ks : List NV) (ms : List (List UInt8)) (x : XS) (c : Cn), ∀ s ∈ spL ks ms x c, P s
  | k :: r, m :: ms, x, c, s, hs => by
    simp only [spL] at hs
    split at hs
    · rename_i ha
      rcases List.mem_cons.1 hs with rfl | hs
      · exact h x k m c ha
      · rcases List.mem_append.1 hs with hs | hs
        · exact spT_all P h k _ _ s hs
        · exact spL_all P h r ms x _ s hs
    · exact spL_all P h r ms x c s hs
  | [], _, _, _, s, hs => by simp [spL] at hs
  | _ :: _, [], _, _, s, hs => by simp [spL] at hs
end
theorem spT_iso (n : NV) (x : XS) (c : Cn) : ∀ s ∈ spT n x c, s.iso = true → shown 0 s.n s.lv = true :=
  spT_all _ (fun x k m c _ h => by simp only [child, Bool.and_eq_true] at h ⊢; exact h.2) n x c
theorem shown_deep {n : NV} {l : Int} (hd : n.kind = 0) (h : shown 0 n l = true) : l ≤ 8 := by
  unfold shown at h
  rw [hd] at h
  rcases Int.lt_or_le 8 l with h1 | h1
  · rw [decide_eq_true h1] at h
    split at h
    · cases h
    · simp at h
  · exact h1
theorem dirsP_zero (rn : List UInt8) (T : List XS) : (dirsP rn T)[0]? = some rootDir := rfl
theorem shiftX_01 (T : List XS) : shiftX T = 0 ∨ shiftX T = 1 := by
  unfold shiftX; split
  · exact .inl rfl
  · exact .inr rfl
theorem dirsP_len (rn : List UInt8) (T : List XS) : (dirsP rn T).length = 1 + shiftX T + (dirsX T).length := by
  rcases shiftX_01 T with h | h
  · rw [dirsP, h, if_pos rfl]; simp; omega
  · rw [dirsP, h, if_neg (by decide)]; simp; omega
theorem dirsP_at {rn : List UInt8} {T : List XS} {k : Nat} {s : XS} (h : (dirsX T)[k]? = some s) : (dirsP rn T)[ixS (shiftX T) (k + 1)]? = some (s.dirV (shiftX T)) := by
  rcases shiftX_01 T with h1 | h1
  · rw [dirsP, h1, if_pos rfl, ixS, if_neg (by omega)]; simp [h]
  · rw [dirsP, h1, if_neg (show ¬ (1 : Nat) = 0 by decide), ixS, if_neg (by omega)]; simp [h]
theorem dirsP_one {rn : List UInt8} {T : List XS} (h : shiftX T = 1) : (dirsP rn T)[1]? = some ⟨[47], rn, 2, 0, 0, false⟩ := by
  rw [dirsP, h]; rfl
theorem dirsP_inv {rn : List UInt8} {T : List XS} {i : Nat} {x : DirV} (h : (dirsP rn T)[i]? = some x) :
    (i = 0 ∧ x = rootDir) ∨ (i = 1 ∧ shiftX T = 1 ∧ x = ⟨[47], rn, 2, 0, 0, false⟩) ∨ ∃ k s, (dirsX T)[k]? = some s ∧ i = ixS (shiftX T) (k + 1) ∧ x = s.dirV (shiftX T) := by
  have hl := dirsP_len rn T
  have hlt : i < (dirsP rn T).length := by
    rcases Nat.lt_or_ge i (dirsP rn T).length with h1 | h1
    · exact h1
    · rw [List.getElem?_eq_none h1] at h; cases h
  have hsh : shiftX T ≤ 1 := by unfold shiftX; split <;> omega
  rcases Nat.eq_zero_or_pos i with rfl | h0
  · rw [dirsP_zero] at h; exact .inl ⟨rfl, (Option.some.inj h).symm⟩
  · by_cases h1 : i = 1 ∧ shiftX T = 1
    · obtain ⟨rfl, h2⟩ := h1
      rw [dirsP_one h2] at h; exact .inr (.inl ⟨rfl, h2, (Option.some.inj h).symm⟩)
    · refine .inr (.inr ?_)
      have hk : i - 1 - shiftX T < (dirsX T).length := by omega
      have hs := List.getElem?_eq_getElem hk
      have hi : ixS (shiftX T) (i - 1 - shiftX T + 1) = i := by rw [ixS, if_neg (by omega)]; omega
      have := dirsP_at (rn := rn) hs
      rw [hi, h] at this
      exact ⟨_, _, hs, hi.symm, Option.some.inj this⟩
theorem shiftX_mv {T : List XS} {s : XS} (hs : s ∈ T) (hm : s.mv = true) : shiftX T = 1 := by
  have : s ∈ movX T := List.mem_filter.2 ⟨hs, hm⟩
  have := List.length_pos_of_mem this
  rw [shiftX, if_neg (by omega)]
/-- Without Rock Ridge no node has it; levels are those of the source tree at most. -/
theorem Built.lv_le {rr : Bool} {n : NV} {l : List XS} (hb : Built rr n l) : ∀ (i : Nat) (s : XS), l[i]? = some s → s.lev ≤ s.lv ∧ (s.rock = true → rr = true) := by
  intro i
  induction i using Nat.strongRecOn with
  | _ i ih =>
    intro s hs
    rcases Nat.eq_zero_or_pos i with rfl | hi
    · rw [hb.root0.1] at hs; cases hs; exact ⟨Int.le_refl _, fun h => h⟩
    · obtain ⟨p, hst⟩ := hb.at hi hs
      have hlt := hst.ab
      rw [List.length_take] at hlt
      have hp : l[s.ab]? = some p := by
        have := hst.par
        rwa [List.getElem?_take, if_pos (by omega)] at this
      obtain ⟨h1, h2⟩ := ih s.ab (by omega) p hp
      have h0 := (hb.lev _ _ hp).1
      have hl := hst.lev
      have hv := hst.lv
      refine ⟨?_, fun h => h2 (hst.rock h)⟩
      split at hl
      · split at hl <;> omega
      · omega
end Go.Tame.V
/- Laws: RelocationLevels. By program (mkro.py, mk.py). -/
namespace Go.Tame.V
open Go Go.Proofs
variable {W0 : World}
set_option maxRecDepth 10000
set_option linter.unusedVariables false
set_option linter.unusedSimpArgs false

theorem plan_bad {rr : Bool} {n : NV} (h : valid n = false) : planV rr n = ([], [], 1) := by rw [planV, if_neg (by rw [h]; decide)]
theorem plan_good {rr : Bool} {n : NV} (h : valid n = true) : ∃ rn T, planV rr n = (dirsP rn T, entsP rn T, 0) ∧ Built rr n (rootX rr n :: T) ∧ T = spT n (rootX rr n) ⟨1, 1, 0⟩ ∧ rn = rrN (rrK (namesG 0 n.kids)) := by
  obtain ⟨hokd, hk0⟩ := valid_okD h
  exact ⟨_, _, by rw [planV, if_pos h], built_spots rr hokd hk0, rfl, rfl⟩
end Go.Tame.V
/- Paths and counts in a plan. Plain. -/
namespace Go.Tame.V
open Go Go.Proofs
set_option maxRecDepth 10000
set_option linter.unusedVariables false
set_option linter.unusedSimpArgs false

/-- The nodes of a plan have good names and kids. -/
theorem Built.okN {rr : Bool} {n : NV} (hn : okT n) {l : List XS} (hb : Built rr n l) : ∀ (i : Nat) (s : XS), l[i]? = some s → okT s.n ∧ (0 < i → nameOk s.n.name = true) := by
  intro i
  induction i using Nat.strongRecOn with
  | _ i ih =>
    intro s hs
    rcases Nat.eq_zero_or_pos i with rfl | hi
    · rw [hb.root0.1] at hs; cases hs; exact ⟨hn, fun h => absurd h (Nat.lt_irrefl _)⟩
    · obtain ⟨p, hst⟩ := hb.at hi hs
      have hlt := hst.ab
      rw [List.length_take] at hlt
      have hp : l[s.ab]? = some p := by
        have := hst.par
        rwa [List.getElem?_take, if_pos (by omega)] at this
      obtain ⟨h1, _⟩ := ih s.ab (by omega) p hp
      obtain ⟨_, _, _, hk⟩ := (okT_eq p.n).1 h1
      have h2 := okL_get hk hst.kid
      exact ⟨h2.2, fun _ => h2.1.1⟩
/-- The parent of a node. -/
theorem Built.par {rr : Bool} {n : NV} {l : List XS} (hb : Built rr n l) {i : Nat} {s : XS} (hi : 0 < i) (hs : l[i]? = some s) : ∃ p, StepOk (l.take i) s p ∧ l[s.ab]? = some p ∧ s.ab < i := by
  obtain ⟨p, hst⟩ := hb.at hi hs
  have hlt := hst.ab
  rw [List.length_take] at hlt
  have hp : l[s.ab]? = some p := by
    have := hst.par
    rwa [List.getElem?_take, if_pos (by omega)] at this
  exact ⟨p, hst, hp, by omega⟩
/-- A path of a node: not "/", and its slashes. -/
theorem Built.pathN {rr : Bool} {n : NV} (hn : okT n) {l : List XS} (hb : Built rr n l) : ∀ (i : Nat) (s : XS), l[i]? = some s → s.path ≠ [47] ∧ (0 < i → ((s.path.count 47 : Nat) : Int) = s.lv - 2) := by
  intro i
  induction i using Nat.strongRecOn with
  | _ i ih =>
    intro s hs
    rcases Nat.eq_zero_or_pos i with rfl | hi
    · rw [hb.root0.1] at hs; cases hs; exact ⟨by show ([] : List UInt8) ≠ [47]; decide, fun h => absurd h (Nat.lt_irrefl _)⟩
    · obtain ⟨p, hst, hp, hlt⟩ := hb.par hi hs
      obtain ⟨h1, h2⟩ := ih s.ab (by omega) p hp
      have hno := (hb.okN hn i s hs).2 hi
      have hns := name_noslash hno
      have hne := name_ne hno
      have hpa := hst.path
      have hlv := hst.lv
      have hplv := hb.lv _ _ hp
      have hc0 : s.n.name.count 47 = 0 := List.count_eq_zero.2 hns
      rw [Go.Tame.V.below] at hpa
      split at hpa
      · rename_i h3
        rw [hpa]
        refine ⟨fun e => hns (by rw [e]; exact List.mem_cons_self), fun _ => ?_⟩
        rw [hc0]; omega
      · rename_i h3
        rw [hpa]
        refine ⟨fun e => ?_, fun _ => ?_⟩
        · have := congrArg List.length e
          have h4 : 0 < s.n.name.length := List.length_pos_iff.2 hne
          simp at this; omega
        · have h5 : 0 < s.ab := by
            rcases Nat.eq_zero_or_pos s.ab with h | h
            · have := hplv.2.1 h; omega
            · exact h
          have h6 := h2 h5
          rw [List.count_append, List.count_append, hc0]
          simp; omega
/-- Relocated directories are deep. -/
theorem Built.mvDeep {rr : Bool} {n : NV} {l : List XS} (hb : Built rr n l) {i : Nat} {s : XS} (hi : 0 < i) (hs : l[i]? = some s) (hm : s.mv = true) : 9 ≤ s.lv := by
  obtain ⟨p, hst, hp, hlt⟩ := hb.par hi hs
  have h1 := hst.mv
  rw [hm] at h1
  have h2 : p.lev + 1 = 9 := by
    have := h1.symm
    rw [Bool.and_eq_true] at this
    simpa using this.2
  have h3 := (hb.lv_le _ _ hp).1
  have h4 := hst.lv
  omega
/-- Every record of nodes by folders. -/
theorem filter_sumP (f : XS → Bool) (T : List XS) : ∀ m : Nat, (∀ x ∈ T, x.fi < m) → ((List.range m).map fun i => (T.filter fun x => x.fi == i).countP f).sum = T.countP f := by
  induction T with
  | nil => intro m _; induction m with
    | zero => rfl
    | succ m ih => rw [List.range_succ, List.map_append, List.sum_append]; simpa using ih
  | cons s r ih =>
    intro m hm
    have ih2 := ih m (fun x hx => hm x (List.mem_cons_of_mem _ hx))
    have key : ∀ m, ((List.range m).map fun i => ((s :: r).filter fun x => x.fi == i).countP f).sum = ((List.range m).map fun i => (r.filter fun x => x.fi == i).countP f).sum + (if s.fi < m then (if f s then 1 else 0) else 0) := by
      intro m
      induction m with
      | zero => simp
      | succ m ih3 =>
        rw [List.range_succ, List.map_append, List.map_append, List.sum_append, List.sum_append, ih3]
        simp only [List.map_cons, List.map_nil, List.sum_cons, List.sum_nil, Nat.add_zero]
        rw [List.filter_cons]
        by_cases h : s.fi = m
        · subst h
          rw [if_neg (Nat.lt_irrefl _), if_pos (by simp), if_pos (by omega), List.countP_cons]; omega
        · rw [if_neg (show ¬ (s.fi == m) = true by simpa using h)]
          by_cases h2 : s.fi < m
          · simp only [if_pos h2, if_pos (show s.fi < m + 1 by omega)]; omega
          · simp only [if_neg h2, if_neg (show ¬ s.fi < m + 1 by omega)]; omega
    rw [key, ih2, if_pos (hm s List.mem_cons_self), List.countP_cons]
theorem countP_flatMap {α β : Type} (g : β → Bool) (F : α → List β) (l : List α) : (l.flatMap F).countP g = (l.map fun a => (F a).countP g).sum := by
  induction l with
  | nil => rfl
  | cons a r ih => rw [List.flatMap_cons, List.countP_append, ih]; simp
/-- How many records are Moved. -/
theorem ents_moved (rn : List UInt8) {T : List XS} (hfi : ∀ x ∈ T, x.fi ≤ (dirsX T).length) : (entsP rn T).countP EntV.mov = (movX T).length := by
  have h1 := filter_sumP XS.mv T ((dirsX T).length + 1) (fun x hx => by have := hfi x hx; omega)
  have h2 : ∀ i, (recsAt (shiftX T) T i).countP EntV.mov = (T.filter fun x => x.fi == i).countP XS.mv := fun i => by
    rw [recsAt, List.countP_map]; rfl
  rw [entsP, List.countP_append, List.countP_append, List.countP_append, countP_flatMap, h2]
  simp only [h2]
  rw [List.range_succ_eq_map] at h1
  simp only [List.map_cons, List.sum_cons, List.map_map] at h1
  have h3 : ((movX T).map (XS.movV (shiftX T))).countP EntV.mov = 0 := by
    rw [List.countP_eq_zero]
    intro e he
    obtain ⟨x, _, rfl⟩ := List.mem_map.1 he
    simp [XS.movV]
  have h4 : (if shiftX T = 0 then ([] : List EntV) else [⟨[47], rn, 0, 1, true, false, false⟩]).countP EntV.mov = 0 := by
    split <;> rfl
  have h5 : T.countP XS.mv = (movX T).length := by rw [movX, List.countP_eq_length_filter]
  rw [h3, h4, ← h5, ← h1]
  simp [Function.comp_def]
theorem dirs_moved (rn : List UInt8) (T : List XS) (hmd : ∀ s ∈ T, s.mv = true → s.isDir = true) : (dirsP rn T).countP DirV.reloc = (movX T).length := by
  have h1 : ((dirsX T).map (XS.dirV (shiftX T))).countP DirV.reloc = (movX T).length := by
    rw [List.countP_map, dirsX, List.countP_filter, movX, List.countP_eq_length_filter.symm]
    refine List.countP_congr fun s hs => ?_
    constructor
    · intro h; simp [XS.dirV] at h; exact h.1
    · intro h; simp [XS.dirV, h, hmd s hs h]
  rw [dirsP, List.countP_cons, List.countP_append, h1]
  split <;> simp [rootDir]
theorem dirs_moving (rn : List UInt8) {T : List XS} (hp : ∀ s ∈ T, s.path ≠ [47]) : (dirsP rn T).countP (fun d => d.path == [47]) = shiftX T := by
  have h1 : ((dirsX T).map (XS.dirV (shiftX T))).countP (fun d => d.path == [47]) = 0 := by
    rw [List.countP_eq_zero]
    intro d hd
    obtain ⟨s, hs, rfl⟩ := List.mem_map.1 hd
    have := hp s (List.mem_filter.1 hs).1
    simpa [XS.dirV] using this
  rw [dirsP, List.countP_cons, List.countP_append, h1]
  rcases shiftX_01 T with h | h <;> rw [h] <;> simp [rootDir]
end Go.Tame.V
/- Laws: RelocationPlain. By program (mkrp.py, mk.py). -/
namespace Go.Tame.V
open Go Go.Proofs
variable {W0 : World}
set_option maxRecDepth 10000
set_option linter.unusedVariables false
set_option linter.unusedSimpArgs false

theorem G52 (s : List UInt8) : DFun Tryz.prog W0 52 [.str s, .str [47]] (.int .i64 ((s.count 47 : Nat) : Int)) :=
  .pure (callable Tryz.func52 rfl (by decide +kernel)) rfl rfl fun w _ => Tryz.strings_Count_one ⟨⟨s⟩⟩ 47 w
def isRR (d : DirV) : Bool := d.path == [47]
theorem countP_next {α : Type} {f : α → Bool} {l : List α} {i : Nat} {x : α} (h : l[i]? = some x) : (l.take (i + 1)).countP f = (l.take i).countP f + (if f x then 1 else 0) := by
  rw [take_nxt h, List.countP_append]; simp [List.countP_cons]
theorem countP_take {α : Type} (f : α → Bool) (l : List α) (i : Nat) : (l.take i).countP f ≤ l.countP f := (List.take_sublist i l).countP_le
/-- Without Rock Ridge. -/
theorem plain_no {n : NV} {T : List XS} (hn : okT n) (hb : Built false n (rootX false n :: T)) (hio : ∀ s ∈ T, s.iso = true → shown 0 s.n s.lv = true) (rn : List UInt8) :
    (∀ d ∈ dirsP rn T, d.reloc = false ∧ d.path ≠ [47]) ∧ ∀ e ∈ entsP rn T, e.hid = false ∧ e.att = false ∧ e.mov = false ∧ e.path ≠ [47] := by
  have hat : ∀ s ∈ T, s.iso = true ∧ s.rock = false ∧ s.mv = false ∧ s.path ≠ [47] := fun s hs => by
    obtain ⟨t, ht⟩ := List.mem_iff_getElem?.1 hs
    have h1 : (rootX false n :: T)[t + 1]? = some s := ht
    obtain ⟨p, hst, hp, hlt⟩ := hb.par (Nat.succ_pos t) h1
    have hrk : s.rock = false := by
      cases h : s.rock with
      | false => rfl
      | true => exact absurd ((hb.lv_le _ _ h1).2 h) (by decide)
    have hiso : s.iso = true := by
      have := hst.any
      rw [XS.any, hrk, Bool.or_false] at this; exact this
    refine ⟨hiso, hrk, ?_, (hb.pathN hn _ _ h1).1⟩
    cases hm : s.mv with
    | false => rfl
    | true =>
      have h2 := hb.mvDeep (Nat.succ_pos t) h1 hm
      have h3 := hst.mv
      rw [hm] at h3
      have h4 : s.isDir = true := by
        cases h : s.isDir with
        | true => rfl
        | false => rw [h] at h3; cases h3
      have := shown_deep (by simpa [XS.isDir] using h4) (hio s hs hiso)
      omega
  have hm0 : movX T = [] := by
    rw [movX, List.filter_eq_nil_iff]
    intro s hs
    rw [(hat s hs).2.2.1]; decide
  have hsh : shiftX T = 0 := by rw [shiftX, hm0]; rfl
  refine ⟨fun d hd => ?_, fun e he => ?_⟩
  · rw [dirsP, hsh, if_pos rfl] at hd
    rcases List.mem_cons.1 hd with rfl | hd
    · exact ⟨rfl, by decide⟩
    · rw [List.nil_append] at hd
      obtain ⟨s, hs, rfl⟩ := List.mem_map.1 hd
      have := hat s (List.mem_filter.1 hs).1
      exact ⟨this.2.2.1, this.2.2.2⟩
  · have key : ∀ i, e ∈ recsAt 0 T i → e.hid = false ∧ e.att = false ∧ e.mov = false ∧ e.path ≠ [47] := fun i h => by
      obtain ⟨s, hs, rfl⟩ := List.mem_map.1 h
      obtain ⟨h1, h2, h3, h4⟩ := hat s (List.mem_filter.1 hs).1
      exact ⟨by simp [XS.entV, h1], h2, h3, h4⟩
    rw [entsP, hsh, if_pos rfl, hm0] at he
    simp only [List.nil_append, List.map_nil, List.append_nil] at he
    rcases List.mem_append.1 he with h | h
    · exact key 0 h
    · obtain ⟨i, _, h⟩ := List.mem_flatMap.1 h
      exact key _ h
/-- With Rock Ridge. -/
theorem plain_yes {n : NV} {T : List XS} (hn : okT n) (hb : Built true n (rootX true n :: T)) (rn : List UInt8) :
    (∀ d ∈ dirsP rn T, d.reloc = true → 7 ≤ d.path.count 47) ∧ (dirsP rn T).countP isRR = shiftX T ∧ (dirsP rn T).countP DirV.reloc = (entsP rn T).countP EntV.mov ∧ (dirsP rn T).any DirV.reloc = decide (shiftX T = 1) := by
  have hat : ∀ s ∈ T, s.path ≠ [47] ∧ (s.mv = true → s.isDir = true ∧ 7 ≤ s.path.count 47) ∧ s.fi ≤ (dirsX T).length := fun s hs => by
    obtain ⟨t, ht⟩ := List.mem_iff_getElem?.1 hs
    have h1 : (rootX true n :: T)[t + 1]? = some s := ht
    obtain ⟨p, hst, hp, hlt⟩ := hb.par (Nat.succ_pos t) h1
    obtain ⟨h2, h3⟩ := hb.pathN hn _ _ h1
    refine ⟨h2, fun hm => ⟨?_, ?_⟩, ?_⟩
    · have h3 := hst.mv
      rw [hm] at h3
      cases h : s.isDir with
      | true => rfl
      | false => rw [h] at h3; cases h3
    · have h4 := hb.mvDeep (Nat.succ_pos t) h1 hm
      have h5 := h3 (Nat.succ_pos t)
      omega
    · have := hb.fi_lt s (List.mem_of_getElem? h1)
      rw [show dirsX (rootX true n :: T) = rootX true n :: dirsX T by rw [dirsX, List.filter_cons, if_pos (by rw [XS.isDir, rootX, hb.kind]; rfl)]; rfl] at this
      simpa [Nat.lt_succ_iff] using this
  have hmv := dirs_moved rn T (fun s hs hm => ((hat s hs).2.1 hm).1)
  refine ⟨fun d hd hr => ?_, dirs_moving rn (fun s hs => (hat s hs).1), by rw [hmv, ents_moved rn (fun s hs => (hat s hs).2.2)], ?_⟩
  · obtain ⟨i, hi⟩ := List.mem_iff_getElem?.1 hd
    rcases dirsP_inv hi with ⟨_, rfl⟩ | ⟨_, _, rfl⟩ | ⟨k, s, hs, _, rfl⟩
    · cases hr
    · cases hr
    · exact ((hat s (List.mem_filter.1 (List.mem_of_getElem? hs)).1).2.1 hr).2
  · have h1 : (dirsP rn T).any DirV.reloc = decide (0 < (dirsP rn T).countP DirV.reloc) := by
      rw [Bool.eq_iff_iff, decide_eq_true_iff, List.countP_pos_iff, List.any_eq_true]
    rw [h1, hmv]
    unfold shiftX
    rw [decide_eq_decide]
    split <;> omega
set_option maxHeartbeats 4000000 in
theorem G12 (hL : LibOk W0) (n : NV) (hn : Fits n) : DFun Tryz.prog W0 12 [encTop n] (.bool true) := by
  refine DFun.intro ti2_ok Tryz.func12 rfl (by decide +kernel) Tryz.ntmps12 rfl fun Γ => ?_
  refine Tri.seq ?_
  refine Tri.region ti2_ok ?_
  conv => whnf
  intro b1
  conv => whnf
  refine Tri.seq ?_
  refine Tri.seq ?_
  refine Tri.region ti2_ok ?_
  conv => whnf
  refine ⟨[], _, fun _ => G39 hL, trivial, ?_⟩
  conv => whnf
  refine Tri.cond _ rfl (fun hc => ?_) (fun hc => ?_)
  · cases hc
  · refine Tri.skip ?_
    conv => whnf
    refine Tri.seq ?_
    refine Tri.seq ?_
    refine Tri.region ti2_ok ?_
    conv => whnf
    refine ⟨rfl, ?_⟩
    conv => whnf
    refine ⟨[encTop n, .int .i64 20000], _, fun _ => F26 n 20000 hn, ⟨.refl _, .refl _, trivial⟩, ?_⟩
    conv => whnf
    refine Tri.cond _ rfl (fun hc => ?_) (fun hc => ?_)
    · refine Tri.seq ?_
      refine Tri.region ti2_ok ?_
      conv => whnf
      refine Tri.ret ?_
      conv => whnf
      exact .refl _
    · refine Tri.skip ?_
      conv => whnf
      have hf : few1 n 20000 = true := by simpa using hc
      have hs := few_sz2 hf
      have hcn := (few_sz hf).2
      have hld := plan_lenD false n
      have hle := plan_lenE false n hcn
      have hld2 := plan_lenD true n
      have hle2 := plan_lenE true n hcn
      refine Tri.seq ?_
      refine Tri.region ti2_ok ?_
      conv => whnf
      refine ⟨rfl, ?_⟩
      conv => whnf
      refine ⟨[encTop n, .bool false], _, fun _ => G40 hL false n hn (fun _ => ⟨by omega, by omega⟩), ⟨.refl _, .refl _, trivial⟩, ?_⟩
      conv => whnf
      refine Tri.seq ?_
      refine Tri.seq ?_
      refine Tri.region ti2_ok ?_
      conv => whnf
      refine Tri.cond ((planV false n).2.2 != 0) rfl (fun hc => ?_) (fun hc => ?_)
      · have hv : valid n = false := by
          cases h : valid n with
          | false => rfl
          | true => rw [planV, if_pos h] at hc; cases hc
        refine Tri.seq ?_
        refine Tri.region ti2_ok ?_
        conv => whnf
        refine ⟨rfl, ?_⟩
        conv => whnf
        refine ⟨[encTop n], _, fun _ => G50 hL n hn (fun _ => ⟨by omega, by omega⟩) (by omega), ⟨.refl _, trivial⟩, ?_⟩
        conv => whnf
        refine Tri.ret ?_
        conv => whnf
        exact DLe.of_eq (congrArg D.bool (by rw [needV, plan_bad hv]; rfl))
      · refine Tri.skip ?_
        conv => whnf
        have hv : valid n = true := by
          cases h : valid n with
          | true => rfl
          | false => rw [plan_bad h] at hc; cases hc
        have hokt := valid_okT hv
        obtain ⟨rn, T, hp, hb, hT, _⟩ := plan_good (rr := false) hv
        have hio : ∀ s ∈ T, s.iso = true → shown 0 s.n s.lv = true := by rw [hT]; exact spT_iso _ _ _
        obtain ⟨hD, hE⟩ := plain_no hokt hb hio rn
        rw [hp] at hld hle ⊢
        dsimp only at hld hle ⊢
        generalize dirsP rn T = Df at *
        generalize entsP rn T = Ef at *
        refine Tri.seq ?_
        refine Tri.seq ?_
        refine Tri.region ti2_ok ?_
        conv => whnf
        refine Tri.block ?_
        refine Tri.loop (α := { i : Nat // i ≤ Df.length }) (fun z => [(1, .box 1 b1 0), (4, .sl .none 7 (Ef.map encEnt)), (32, .sl .none 6 (Df.map encDir)), (33, .int .i64 ((Df.map encDir).length : Int)), (34, .int .i64 (z.1 : Int))]) (fun _ => [(1, .box b1 (cellsN n))]) (fun z => Df.length - z.1) ⟨0, Nat.zero_le _⟩ ⟨.refl _, .refl _, .refl _, .refl _, .refl _, trivial⟩ ⟨rfl, trivial⟩ ?_
        rintro ⟨i, hi⟩
        try dsimp only
        refine Tri.seq ?_
        refine Tri.region ti2_ok ?_
        conv => whnf
        refine Tri.seq ?_
        refine Tri.cond (decide ((i : Int) < ((Df.map encDir).length : Int))) rfl (fun hc => ?_) (fun hc => ?_)
        · refine Tri.skip ?_
          conv => whnf
          have hia : i < Df.length := by simpa using hc
          obtain ⟨d, hd⟩ : ∃ d, Df[i]? = some d := ⟨_, List.getElem?_eq_getElem hia⟩
          have hde : (Df.map encDir)[i]? = some (encDir d) := by rw [List.getElem?_map, hd]; rfl
          obtain ⟨h1, h2⟩ := hD d (List.mem_of_getElem? hd)
          refine Tri.seq ?_
          refine Tri.block ?_
          refine Tri.seq ?_
          refine Tri.region ti2_ok ?_
          conv => whnf
          refine ⟨fun _ => ⟨Int.natCast_nonneg _, of_decide_eq_true hc⟩, ?_⟩
          conv => whnf
          refine ⟨encDir d, fun _ => hde, ?_⟩
          conv => whnf
          intro b7
          conv => whnf
          refine ⟨rfl, ?_⟩
          conv => whnf
          refine Tri.seq ?_
          refine Tri.region ti2_ok ?_
          conv => whnf
          refine ⟨rfl, ?_⟩
          conv => whnf
          refine ⟨fun h => h, ?_⟩
          conv => whnf
          refine ⟨rfl, ?_⟩
          conv => whnf
          refine ⟨fun h => h, ?_⟩
          conv => whnf
          refine ⟨fun h0 h => by first | exact h | (rw [h]; rfl) | (rw [h0, h]; rfl), ?_⟩
          conv => whnf
          refine Tri.cond _ rfl (fun hc => ?_) (fun hc => ?_)
          · exfalso
            simp [h1, h2] at hc
          · refine Tri.skip ?_
            conv => whnf
            refine Tri.region ti2_ok ?_
            conv => whnf
            refine .inl ⟨fun _ => by simp [InR]; omega, ?_⟩
            conv => whnf
            exact ⟨⟨i + 1, hia⟩, by show _ - (i + 1) < _ - i; omega, ⟨.refl _, .refl _, .refl _, .refl _, .refl _, trivial⟩, ⟨rfl, trivial⟩⟩
        · refine Tri.exit ?_
          conv => whnf
          refine Tri.seq ?_
          refine Tri.seq ?_
          refine Tri.region ti2_ok ?_
          conv => whnf
          refine Tri.block ?_
          refine Tri.loop (α := { i : Nat // i ≤ Ef.length }) (fun z => [(1, .box 1 b1 0), (46, .sl .none 7 (Ef.map encEnt)), (47, .int .i64 ((Ef.map encEnt).length : Int)), (48, .int .i64 (z.1 : Int))]) (fun _ => [(1, .box b1 (cellsN n))]) (fun z => Ef.length - z.1) ⟨0, Nat.zero_le _⟩ ⟨.refl _, .refl _, .refl _, .refl _, trivial⟩ ⟨rfl, trivial⟩ ?_
          rintro ⟨j, hj⟩
          try dsimp only
          refine Tri.seq ?_
          refine Tri.region ti2_ok ?_
          conv => whnf
          refine Tri.seq ?_
          refine Tri.cond (decide ((j : Int) < ((Ef.map encEnt).length : Int))) rfl (fun hc => ?_) (fun hc => ?_)
          · refine Tri.skip ?_
            conv => whnf
            have hja : j < Ef.length := by simpa using hc
            obtain ⟨e, he⟩ : ∃ e, Ef[j]? = some e := ⟨_, List.getElem?_eq_getElem hja⟩
            have hee : (Ef.map encEnt)[j]? = some (encEnt e) := by rw [List.getElem?_map, he]; rfl
            obtain ⟨h1, h2, h3, h4⟩ := hE e (List.mem_of_getElem? he)
            refine Tri.seq ?_
            refine Tri.block ?_
            refine Tri.seq ?_
            refine Tri.region ti2_ok ?_
            conv => whnf
            refine ⟨fun _ => ⟨Int.natCast_nonneg _, of_decide_eq_true hc⟩, ?_⟩
            conv => whnf
            refine ⟨encEnt e, fun _ => hee, ?_⟩
            conv => whnf
            intro b9
            conv => whnf
            refine ⟨rfl, ?_⟩
            conv => whnf
            refine Tri.seq ?_
            refine Tri.region ti2_ok ?_
            conv => whnf
            refine ⟨rfl, ?_⟩
            conv => whnf
            refine ⟨fun h => h, ?_⟩
            conv => whnf
            refine ⟨rfl, ?_⟩
            conv => whnf
            refine ⟨fun h0 h => by first | exact h | (rw [h]; rfl) | (rw [h0, h]; rfl), ?_⟩
            conv => whnf
            refine ⟨fun h => h, ?_⟩
            conv => whnf
            refine ⟨rfl, ?_⟩
            conv => whnf
            refine ⟨fun h0 h => by first | exact h | (rw [h]; rfl) | (rw [h0, h]; rfl), ?_⟩
            conv => whnf
            refine ⟨fun h => h, ?_⟩
            conv => whnf
            refine ⟨rfl, ?_⟩
            conv => whnf
            refine ⟨fun h => h, ?_⟩
            conv => whnf
            refine ⟨fun h0 h => by first | exact h | (rw [h]; rfl) | (rw [h0, h]; rfl), ?_⟩
            conv => whnf
            refine Tri.cond _ rfl (fun hc => ?_) (fun hc => ?_)
            · exfalso
              simp [h1, h2, h3, h4] at hc
            · refine Tri.skip ?_
              conv => whnf
              refine Tri.region ti2_ok ?_
              conv => whnf
              refine .inl ⟨fun _ => by simp [InR]; omega, ?_⟩
              conv => whnf
              exact ⟨⟨j + 1, hja⟩, by show _ - (j + 1) < _ - j; omega, ⟨.refl _, .refl _, .refl _, .refl _, trivial⟩, ⟨rfl, trivial⟩⟩
          · clear hT
            refine Tri.exit ?_
            conv => whnf
            refine Tri.seq ?_
            refine Tri.region ti2_ok ?_
            conv => whnf
            refine ⟨rfl, ?_⟩
            conv => whnf
            refine ⟨[encTop n, .bool true], _, fun _ => G40 hL true n hn (fun _ => ⟨by omega, by omega⟩), ⟨.refl _, .refl _, trivial⟩, ?_⟩
            conv => whnf
            have hNe : needV n = bif decide ((planV true n).2.2 = 0) then (planV true n).1.any DirV.reloc else false := rfl
            have hNd := G50 (W0 := W0) hL n hn (fun _ => ⟨by omega, by omega⟩) (by omega)
            obtain ⟨rn2, T2, hp2, hb2, _, _⟩ := plan_good (rr := true) hv
            obtain ⟨hS, hRR, hMV, hAny⟩ := plain_yes hokt hb2 rn2
            rw [hp2] at hld2 hle2 hNe ⊢
            dsimp only at hld2 hle2 hNe ⊢
            rw [hAny] at hNe
            have hsh := shiftX_01 T2
            generalize dirsP rn2 T2 = Dt at *
            generalize entsP rn2 T2 = Et at *
            generalize shiftX T2 = sh at *
            have hc1 : Dt.countP isRR ≤ Dt.length := List.countP_le_length
            have hc2 : Dt.countP DirV.reloc ≤ Dt.length := List.countP_le_length
            refine Tri.seq ?_
            refine Tri.region ti2_ok ?_
            conv => whnf
            refine Tri.seq ?_
            refine Tri.seq ?_
            refine Tri.region ti2_ok ?_
            conv => whnf
            refine Tri.block ?_
            refine Tri.loop (α := { i : Nat // i ≤ Dt.length }) (fun z => [(1, .box 1 b1 0), (4, .sl .none 7 (Et.map encEnt)), (5, .int .i64 0), (10, .int .i64 (((Dt.take z.1).countP isRR : Nat) : Int)), (11, .int .i64 (((Dt.take z.1).countP DirV.reloc : Nat) : Int)), (74, .sl .none 6 (Dt.map encDir)), (75, .int .i64 ((Dt.map encDir).length : Int)), (76, .int .i64 (z.1 : Int))]) (fun _ => [(1, .box b1 (cellsN n))]) (fun z => Dt.length - z.1) ⟨0, Nat.zero_le _⟩ ⟨.refl _, .refl _, .refl _, .refl _, .refl _, .refl _, .refl _, .refl _, trivial⟩ ⟨rfl, trivial⟩ ?_
            rintro ⟨i, hi⟩
            try dsimp only
            refine Tri.seq ?_
            refine Tri.region ti2_ok ?_
            conv => whnf
            refine Tri.seq ?_
            refine Tri.cond (decide ((i : Int) < ((Dt.map encDir).length : Int))) rfl (fun hc => ?_) (fun hc => ?_)
            · refine Tri.skip ?_
              conv => whnf
              have hia : i < Dt.length := by simpa using hc
              obtain ⟨d, hd⟩ : ∃ d, Dt[i]? = some d := ⟨_, List.getElem?_eq_getElem hia⟩
              have hde : (Dt.map encDir)[i]? = some (encDir d) := by rw [List.getElem?_map, hd]; rfl
              have hn1 := countP_next (f := isRR) hd
              have hn2 := countP_next (f := DirV.reloc) hd
              have ht1 := countP_take isRR Dt i
              have ht2 := countP_take DirV.reloc Dt i
              have h7 := hS d (List.mem_of_getElem? hd)
              refine Tri.seq ?_
              refine Tri.block ?_
              refine Tri.seq ?_
              refine Tri.region ti2_ok ?_
              conv => whnf
              refine ⟨fun _ => ⟨Int.natCast_nonneg _, of_decide_eq_true hc⟩, ?_⟩
              conv => whnf
              refine ⟨encDir d, fun _ => hde, ?_⟩
              conv => whnf
              intro b13
              conv => whnf
              refine ⟨rfl, ?_⟩
              conv => whnf
              refine Tri.joinK (α := Unit) (fun _ => [(1, .box 1 b1 0), (4, .sl .none 7 (Et.map encEnt)), (5, .int .i64 0), (10, .int .i64 (((Dt.take (i + 1)).countP isRR : Nat) : Int)), (11, .int .i64 (((Dt.take i).countP DirV.reloc : Nat) : Int)), (74, .sl .none 6 (Dt.map encDir)), (75, .int .i64 ((Dt.map encDir).length : Int)), (76, .int .i64 (i : Int)), (13, .box 13 b13 0)]) (fun _ => [(1, .box b1 (cellsN n)), (13, .box b13 (dcs d))]) ?_ ?_
              · refine Tri.seq ?_
                refine Tri.region ti2_ok ?_
                conv => whnf
                refine ⟨rfl, ?_⟩
                conv => whnf
                refine Tri.cond (d.path == [47]) rfl (fun hc => ?_) (fun hc => ?_)
                · refine Tri.region ti2_ok ?_
                  conv => whnf
                  refine .inl ⟨fun _ => by simp [InR]; omega, ?_⟩
                  conv => whnf
                  exact ⟨(), [(1, 1), (13, 13)], ⟨.refl _, .refl _, .refl _, intDLe (by rw [hn1, isRR, hc]; rfl), .refl _, .refl _, .refl _, .refl _, .refl _, trivial⟩, rfl, rfl, rfl, rfl, rfl, trivial⟩
                · refine Tri.skip ?_
                  conv => whnf
                  exact ⟨(), [(1, 1), (13, 13)], ⟨.refl _, .refl _, .refl _, intDLe (by rw [hn1, isRR, hc]; rfl), .refl _, .refl _, .refl _, .refl _, .refl _, trivial⟩, rfl, rfl, rfl, rfl, rfl, trivial⟩
              · rintro ⟨⟩
                refine Tri.seq ?_
                refine Tri.region ti2_ok ?_
                conv => whnf
                refine ⟨rfl, ?_⟩
                conv => whnf
                refine Tri.cond d.reloc rfl (fun hc => ?_) (fun hc => ?_)
                · refine Tri.seq ?_
                  refine Tri.region ti2_ok ?_
                  conv => whnf
                  refine .inl ⟨fun _ => by simp [InR]; omega, ?_⟩
                  conv => whnf
                  refine Tri.seq ?_
                  refine Tri.region ti2_ok ?_
                  conv => whnf
                  refine ⟨rfl, ?_⟩
                  conv => whnf
                  refine ⟨[.str d.path, .str [47]], _, fun _ => G52 d.path, ⟨.refl _, .refl _, trivial⟩, ?_⟩
                  conv => whnf
                  refine Tri.cond (decide (((d.path.count 47 : Nat) : Int) < 7)) rfl (fun hc2 => ?_) (fun hc2 => ?_)
                  · exfalso
                    have h8 := h7 hc
                    have h9 := of_decide_eq_true hc2
                    omega
                  · refine Tri.skip ?_
                    conv => whnf
                    refine Tri.region ti2_ok ?_
                    conv => whnf
                    refine .inl ⟨fun _ => by simp [InR]; omega, ?_⟩
                    conv => whnf
                    exact ⟨⟨i + 1, hia⟩, by show _ - (i + 1) < _ - i; omega, ⟨.refl _, .refl _, .refl _, .refl _, intDLe (by rw [hn2, hc]; rfl), .refl _, .refl _, .refl _, trivial⟩, ⟨rfl, trivial⟩⟩
                · refine Tri.skip ?_
                  conv => whnf
                  refine Tri.region ti2_ok ?_
                  conv => whnf
                  refine .inl ⟨fun _ => by simp [InR]; omega, ?_⟩
                  conv => whnf
                  exact ⟨⟨i + 1, hia⟩, by show _ - (i + 1) < _ - i; omega, ⟨.refl _, .refl _, .refl _, .refl _, intDLe (by rw [hn2, hc]; rfl), .refl _, .refl _, .refl _, trivial⟩, ⟨rfl, trivial⟩⟩
            · have hin : i = Dt.length := by simp at hc; omega
              rw [hin, List.take_length, hRR, hMV]
              have hEl : Et.countP EntV.mov ≤ Et.length := List.countP_le_length
              refine Tri.exit ?_
              conv => whnf
              refine Tri.seq ?_
              refine Tri.seq ?_
              refine Tri.region ti2_ok ?_
              conv => whnf
              refine Tri.block ?_
              refine Tri.loop (α := { i : Nat // i ≤ Et.length }) (fun z => [(1, .box 1 b1 0), (5, .int .i64 0), (10, .int .i64 (sh : Int)), (11, .int .i64 (((Et.countP EntV.mov : Nat) : Int) - (((Et.take z.1).countP EntV.mov : Nat) : Int))), (94, .sl .none 7 (Et.map encEnt)), (95, .int .i64 ((Et.map encEnt).length : Int)), (96, .int .i64 (z.1 : Int))]) (fun _ => [(1, .box b1 (cellsN n))]) (fun z => Et.length - z.1) ⟨0, Nat.zero_le _⟩ ⟨.refl _, .refl _, .refl _, intDLe (by simp), .refl _, .refl _, .refl _, trivial⟩ ⟨rfl, trivial⟩ ?_
              rintro ⟨j, hj⟩
              try dsimp only
              refine Tri.seq ?_
              refine Tri.region ti2_ok ?_
              conv => whnf
              refine Tri.seq ?_
              refine Tri.cond (decide ((j : Int) < ((Et.map encEnt).length : Int))) rfl (fun hc => ?_) (fun hc => ?_)
              · refine Tri.skip ?_
                conv => whnf
                have hja : j < Et.length := by simpa using hc
                obtain ⟨e, he⟩ : ∃ e, Et[j]? = some e := ⟨_, List.getElem?_eq_getElem hja⟩
                have hee : (Et.map encEnt)[j]? = some (encEnt e) := by rw [List.getElem?_map, he]; rfl
                have hn3 := countP_next (f := EntV.mov) he
                have ht3 := countP_take EntV.mov Et j
                refine Tri.seq ?_
                refine Tri.block ?_
                refine Tri.seq ?_
                refine Tri.region ti2_ok ?_
                conv => whnf
                refine ⟨fun _ => ⟨Int.natCast_nonneg _, of_decide_eq_true hc⟩, ?_⟩
                conv => whnf
                refine ⟨encEnt e, fun _ => hee, ?_⟩
                conv => whnf
                intro b15
                conv => whnf
                refine ⟨rfl, ?_⟩
                conv => whnf
                refine Tri.seq ?_
                refine Tri.region ti2_ok ?_
                conv => whnf
                refine ⟨rfl, ?_⟩
                conv => whnf
                refine Tri.cond e.mov rfl (fun hc => ?_) (fun hc => ?_)
                · refine Tri.region ti2_ok ?_
                  conv => whnf
                  refine .inl ⟨fun _ => by simp [InR]; omega, ?_⟩
                  conv => whnf
                  refine Tri.region ti2_ok ?_
                  conv => whnf
                  refine .inl ⟨fun _ => by simp [InR]; omega, ?_⟩
                  conv => whnf
                  exact ⟨⟨j + 1, hja⟩, by show _ - (j + 1) < _ - j; omega, ⟨.refl _, .refl _, .refl _, intDLe (by rw [hc, if_pos rfl] at hn3; show _ = _ - (((Et.take (j + 1)).countP EntV.mov : Nat) : Int); omega), .refl _, .refl _, .refl _, trivial⟩, ⟨rfl, trivial⟩⟩
                · refine Tri.skip ?_
                  conv => whnf
                  refine Tri.region ti2_ok ?_
                  conv => whnf
                  refine .inl ⟨fun _ => by simp [InR]; omega, ?_⟩
                  conv => whnf
                  exact ⟨⟨j + 1, hja⟩, by show _ - (j + 1) < _ - j; omega, ⟨.refl _, .refl _, .refl _, intDLe (by rw [hc, if_neg (by decide)] at hn3; show _ = _ - (((Et.take (j + 1)).countP EntV.mov : Nat) : Int); omega), .refl _, .refl _, .refl _, trivial⟩, ⟨rfl, trivial⟩⟩
              · have hjn : j = Et.length := by simp at hc; omega
                rw [hjn, List.take_length, Int.sub_self]
                refine Tri.exit ?_
                conv => whnf
                refine Tri.seq ?_
                refine Tri.region ti2_ok ?_
                conv => whnf
                refine ⟨fun h => h, ?_⟩
                conv => whnf
                refine ⟨fun h0 h => by first | exact h | (rw [h]; rfl) | (rw [h0, h]; rfl), ?_⟩
                conv => whnf
                refine ⟨fun h => h, ?_⟩
                conv => whnf
                refine ⟨rfl, ?_⟩
                conv => whnf
                refine ⟨fun h => h, ?_⟩
                conv => whnf
                refine ⟨[encTop n], _, fun h => hNd, ⟨.refl _, trivial⟩, ?_⟩
                conv => whnf
                refine ⟨fun h => h, ?_⟩
                conv => whnf
                refine ⟨fun h => h, ?_⟩
                conv => whnf
                refine ⟨fun h0 h => by first | exact h | (rw [h]; rfl) | (rw [h0, h]; rfl), ?_⟩
                conv => whnf
                refine ⟨fun h => h, ?_⟩
                conv => whnf
                refine ⟨fun h0 h => by first | exact h | (rw [h]; rfl) | (rw [h0, h]; rfl), ?_⟩
                conv => whnf
                refine Tri.ret ?_
                conv => whnf
                exact DLe.of_eq (congrArg D.bool (by rw [hNe]; rcases hsh with rfl | rfl <;> rfl))
end Go.Tame.V
/- Identifiers of siblings. Plain. -/
namespace Go.Tame.V
open Go Go.Proofs
set_option maxRecDepth 10000
set_option linter.unusedVariables false
set_option linter.unusedSimpArgs false

/-- The identifier of a good name. -/
def idOf (m : List UInt8) (dir : Bool) : List UInt8 := if dir = true then m else if hasDot m = true then m ++ [59, 49] else m ++ [46, 59, 49]
theorem IsoForm.ident {m A B : List UInt8} {dir : Bool} (h : IsoForm m dir A B) : (identI m dir).1 = idOf m dir := by
  rw [identI, if_pos h.name.valid, idOf]
  split
  · rfl
  · split <;> rfl
theorem idOf_f (m : List UInt8) : idOf m false = if hasDot m = true then m ++ [59, 49] else m ++ [46, 59, 49] := rfl
theorem isDB_no {s : List UInt8} {k : Int} {c : UInt8} (h : isDB s k = true) (hc : dU c = false) : c ∉ s := by
  intro hm
  simp only [isDB, dStr, Bool.and_eq_true, List.all_eq_true] at h
  have := h.2.2.2 c hm
  rw [hc] at this; cases this
theorem IsoForm.no59 {m A B : List UInt8} {dir : Bool} (h : IsoForm m dir A B) : (59 : UInt8) ∉ m := by
  have h1 := isDB_no (c := 59) h.a (by decide)
  rcases h.eq with ⟨_, rfl⟩ | ⟨_, _, h3, rfl⟩
  · exact h1
  · have h2 := isDB_no (c := 59) h3 (by decide)
    intro hm
    rcases List.mem_append.1 hm with hm | hm
    · exact h1 hm
    · rcases List.mem_cons.1 hm with hm | hm
      · cases hm
      · exact h2 hm
theorem idOf_file {m : List UInt8} : (59 : UInt8) ∈ idOf m false := by
  rw [idOf, if_neg (by decide)]
  split <;> simp
theorem IsoForm.dots {m A B : List UInt8} {dir : Bool} (h : IsoForm m dir A B) : (hasDot m = true ↔ B ≠ []) ∧ (m = if B = [] then A else A ++ 46 :: B) := by
  rw [hasDot_iff, decide_eq_true_iff]
  rcases h.eq with ⟨rfl, rfl⟩ | ⟨h1, _, _, rfl⟩
  · exact ⟨⟨fun hm => absurd hm h.na, fun hb => absurd rfl hb⟩, by rw [if_pos rfl]⟩
  · exact ⟨⟨fun _ => h1, fun _ => by simp⟩, by rw [if_neg h1]⟩
theorem split46 {A A' B B' : List UInt8} (h : (46 : UInt8) ∉ A) (h' : (46 : UInt8) ∉ A') (e : A ++ 46 :: B = A' ++ 46 :: B') : A = A' ∧ B = B' := by
  induction A generalizing A' with
  | nil =>
    cases A' with
    | nil => exact ⟨rfl, by simpa using e⟩
    | cons a r => simp at e; exact absurd (by rw [← e.1]; exact List.mem_cons_self) h'
  | cons a r ih =>
    cases A' with
    | nil => simp at e; exact absurd (by rw [e.1]; exact List.mem_cons_self) h
    | cons a' r' =>
      simp only [List.cons_append, List.cons.injEq] at e
      obtain ⟨h1, h2⟩ := ih (fun hm => h (List.mem_cons_of_mem _ hm)) (fun hm => h' (List.mem_cons_of_mem _ hm)) e.2
      exact ⟨by rw [e.1, h1], h2⟩
/-- Good names with one identifier are one. -/
theorem idOf_inj {m A B m' A' B' : List UInt8} {d d' : Bool} (h : IsoForm m d A B) (h' : IsoForm m' d' A' B') (e : idOf m d = idOf m' d') : m = m' := by
  cases d with
  | true =>
    cases d' with
    | true => simpa [idOf] using e
    | false =>
      have h1 : (59 : UInt8) ∈ idOf m true := by rw [e]; exact idOf_file
      rw [idOf, if_pos rfl] at h1
      exact absurd h1 h.no59
  | false =>
    cases d' with
    | true =>
      have h1 : (59 : UInt8) ∈ idOf m' true := by rw [← e]; exact idOf_file
      rw [idOf, if_pos rfl] at h1
      exact absurd h1 h'.no59
    | false =>
      rw [idOf_f, idOf_f] at e
      obtain ⟨hd, hm⟩ := h.dots
      obtain ⟨hd', hm'⟩ := h'.dots
      by_cases h1 : B = [] <;> by_cases h2 : B' = []
      · rw [if_neg (fun h3 => (hd.1 h3) h1), if_neg (fun h3 => (hd'.1 h3) h2)] at e
        exact List.append_cancel_right e
      · rw [if_neg (fun h3 => (hd.1 h3) h1), if_pos (hd'.2 h2)] at e
        have e2 : m ++ [46] = m' := List.append_cancel_right (by simpa using e : m ++ [46] ++ [59, 49] = m' ++ [59, 49])
        rw [hm, if_pos h1, hm', if_neg h2] at e2
        have := split46 h.na h'.na e2
        exact absurd this.2.symm h2
      · rw [if_pos (hd.2 h1), if_neg (fun h3 => (hd'.1 h3) h2)] at e
        have e2 : m = m' ++ [46] := List.append_cancel_right (by simpa using e : m ++ [59, 49] = m' ++ [46] ++ [59, 49])
        rw [hm, if_neg h1, hm', if_pos h2] at e2
        have := split46 h.na h'.na e2
        exact absurd this.2 h1
      · rw [if_pos (hd.2 h1), if_pos (hd'.2 h2)] at e
        exact List.append_cancel_right e

/-- s is the j-th kid of p, with the identifiers of its name. -/
def KidAt (p s : XS) (j : Nat) : Prop := p.n.kids[j]? = some s.n ∧ ∃ m, (namesG 0 p.n.kids)[j]? = some m ∧ s.id = (identI m (s.n.kind == 0)).1 ∧ s.file = (identI m false).1
/-- Siblings stand in the order of the kids. -/
def Sib (l : List XS) : Prop := ∀ i' s', 0 < i' → l[i']? = some s' → ∃ p j', l[s'.ab]? = some p ∧ p.isDir = true ∧ s'.fi = p.di ∧ KidAt p s' j' ∧ ∀ i s, 0 < i → i < i' → l[i]? = some s → s.fi = s'.fi → ∃ j, j < j' ∧ KidAt p s j
theorem Cn.addL_nf (l : List XS) : ∀ c : Cn, c.nf ≤ (c.addL l).nf := by
  induction l with
  | nil => intro c; exact Nat.le_refl _
  | cons s r ih =>
    intro c
    rw [Cn.addL_cons]
    refine Nat.le_trans ?_ (ih _)
    simp only [Cn.add]; split <;> omega
theorem Cn.add_nf (c : Cn) (s : XS) : c.nf ≤ (c.add s).nf := by simp only [Cn.add]; split <;> omega
mutual
theorem spT_fi : ∀ (n : NV) (x : XS) (c : Cn), ∀ s ∈ spT n x c, s.fi = x.di ∨ c.nf ≤ s.fi
  | .mk _ _ _ _ _ _ _ _ _ _ ks _, x, c, s, hs => by
    simp only [spT] at hs
    exact spL_fi ks _ x c s hs
theorem spL_fi : ∀ (ks : List NV) (ms : List (List UInt8)) (x : XS) (c : Cn), ∀ s ∈ spL ks ms x c, s.fi = x.di ∨ c.nf ≤ s.fi
  | k :: r, m :: ms, x, c, s, hs => by
    simp only [spL] at hs
    split at hs
    · rcases List.mem_cons.1 hs with rfl | hs
      · exact .inl rfl
      · rcases List.mem_append.1 hs with hs | hs
        · have := Cn.add_nf c (child x k m c)
          rcases spT_fi k _ _ s hs with h | h
          · exact .inr (by rw [h]; exact Nat.le_refl _)
          · exact .inr (by omega)
        · have h1 := Cn.add_nf c (child x k m c)
          have h2 := Cn.addL_nf (spT k (child x k m c) (c.add (child x k m c))) (c.add (child x k m c))
          rcases spL_fi r ms x _ s hs with h | h
          · exact .inl h
          · exact .inr (by omega)
    · exact spL_fi r ms x c s hs
  | [], _, _, _, s, hs => by simp [spL] at hs
  | _ :: _, [], _, _, s, hs => by simp [spL] at hs
end
theorem Sib.snoc {l : List XS} (h : Sib l) {s p : XS} {j' : Nat} (hab : s.ab < l.length) (hp : l[s.ab]? = some p) (hd : p.isDir = true) (hf : s.fi = p.di) (hk : KidAt p s j') (hold : ∀ i t, 0 < i → l[i]? = some t → t.fi = s.fi → ∃ j, j < j' ∧ KidAt p t j) : Sib (l ++ [s]) := by
  intro i' s' h0 hs'
  rcases Nat.lt_or_ge i' l.length with hl | hl
  · rw [List.getElem?_append_left hl] at hs'
    obtain ⟨q, j, h1, h2, h3, h4, h5⟩ := h i' s' h0 hs'
    have hql : s'.ab < l.length := by
      rcases Nat.lt_or_ge s'.ab l.length with h | h
      · exact h
      · rw [List.getElem?_eq_none h] at h1; cases h1
    refine ⟨q, j, by rw [List.getElem?_append_left hql]; exact h1, h2, h3, h4, fun i t hi hii ht => ?_⟩
    rw [List.getElem?_append_left (by omega)] at ht
    exact h5 i t hi hii ht
  · rcases Nat.lt_or_ge l.length i' with hg | hg
    · rw [List.getElem?_eq_none (by simp; omega)] at hs'; cases hs'
    · have : i' = l.length := by omega
      subst this
      rw [List.getElem?_concat_length] at hs'
      cases hs'
      refine ⟨p, j', by rw [List.getElem?_append_left hab]; exact hp, hd, hf, hk, fun i t hi hii ht => ?_⟩
      rw [List.getElem?_append_left hii] at ht
      exact hold i t hi ht
mutual
theorem sib_T (rr : Bool) (r0 : NV) : ∀ (n : NV) (x : XS) (c : Cn) (l : List XS), Built rr r0 l → Sib l → x.n = n → okD n → l[x.si]? = some x → CnOk c l → (∀ i s, 0 < i → l[i]? = some s → s.fi ≠ x.di) → Sib (l ++ spT n x c)
  | .mk nm kd t tg a1 a2 a3 a4 a5 a6 ks ss, x, c, l, hb, hs, hxn, hok, hx, hc, hno => by
    simp only [spT]
    have hok' := (okD_eq _).1 hok
    by_cases hd : kd = 0
    · have hkx : x.n.kids = ks := congrArg NV.kids hxn
      exact sib_L rr r0 ks (namesG 0 ks) x c l 0 hb hs (by rw [XS.isDir, hxn, hd]; rfl) (by rw [hkx]; rfl) (by rw [hkx]; rfl) hok'.2 hx hc (fun i s h0 h1 h2 => absurd h2 (hno i s h0 h1))
    · have : ks = [] := hok'.1 hd
      subst this
      simpa [spL] using hs
theorem sib_L (rr : Bool) (r0 : NV) : ∀ (ks : List NV) (ms : List (List UInt8)) (x : XS) (c : Cn) (l : List XS) (off : Nat), Built rr r0 l → Sib l → x.isDir = true → x.n.kids.drop off = ks → (namesG 0 x.n.kids).drop off = ms → okDL ks → l[x.si]? = some x → CnOk c l →
    (∀ i s, 0 < i → l[i]? = some s → s.fi = x.di → ∃ j, j < off ∧ KidAt x s j) → Sib (l ++ spL ks ms x c)
  | [], _, x, c, l, off, hb, hs, _, _, _, _, _, _, _ => by simpa [spL] using hs
  | k :: r, [], x, c, l, off, hb, hs, _, _, _, _, _, _, _ => by simpa [spL] using hs
  | k :: r, m :: ms, x, c, l, off, hb, hs, hd, hks, hms, hok, hx, hc, hinv => by
    simp only [okDL] at hok
    have hk0 : x.n.kids[off]? = some k := by
      have := congrArg (fun z => z[0]?) hks
      simpa using this
    have hm0 : (namesG 0 x.n.kids)[off]? = some m := by
      have := congrArg (fun z => z[0]?) hms
      simpa using this
    have hks2 : x.n.kids.drop (off + 1) = r := by rw [← List.drop_drop, hks]; rfl
    have hms2 : (namesG 0 x.n.kids).drop (off + 1) = ms := by rw [← List.drop_drop, hms]; rfl
    simp only [spL]
    split
    · rename_i ha
      have hst := child_step (m := m) hx hd hc (List.mem_of_getElem? hk0) ha
      have hb1 := hb.snoc hst
      have hc1 := hc.add (child x k m c)
      have hkid : KidAt x (child x k m c) off := ⟨hk0, m, hm0, rfl, rfl⟩
      have hs1 : Sib (l ++ [child x k m c]) := hs.snoc hst.ab hst.par hd rfl hkid (fun i t h0 h1 h2 => hinv i t h0 h1 h2)
      have hx1 : (l ++ [child x k m c])[(child x k m c).si]? = some (child x k m c) := by
        rw [hst.si]; simp
      have hxlt : x.di < (dirsX l).length := (hb.folder hx hd).2
      have hdi : (child x k m c).di = (dirsX l).length := hst.di
      have hno : ∀ i s, 0 < i → (l ++ [child x k m c])[i]? = some s → s.fi ≠ (child x k m c).di := fun i s h0 h1 => by
        rcases List.mem_append.1 (List.mem_of_getElem? h1) with h2 | h2
        · have := hb.fi_lt s h2; omega
        · rw [List.mem_singleton] at h2
          subst h2
          have : (child x k m c).fi = x.di := rfl
          omega
      have hs2 := sib_T rr r0 k (child x k m c) (c.add (child x k m c)) (l ++ [child x k m c]) hb1 hs1 rfl hok.1 hx1 hc1 hno
      have hb2 := built_T rr r0 k (child x k m c) (c.add (child x k m c)) (l ++ [child x k m c]) hb1 rfl hok.1 hx1 hc1
      have hc2 := hc1.addL (m := spT k (child x k m c) (c.add (child x k m c)))
      have hlt : x.si < l.length := by
        rcases Nat.lt_or_ge x.si l.length with h | h
        · exact h
        · rw [List.getElem?_eq_none h] at hx; cases hx
      have hx2 : (l ++ [child x k m c] ++ spT k (child x k m c) (c.add (child x k m c)))[x.si]? = some x := by
        rw [List.append_assoc, List.getElem?_append_left hlt]; exact hx
      have hinv2 : ∀ i s, 0 < i → (l ++ [child x k m c] ++ spT k (child x k m c) (c.add (child x k m c)))[i]? = some s → s.fi = x.di → ∃ j, j < off + 1 ∧ KidAt x s j := fun i s h0 h1 h2 => by
        rcases Nat.lt_or_ge i l.length with hi | hi
        · rw [List.append_assoc, List.getElem?_append_left hi] at h1
          obtain ⟨j, hj, hk⟩ := hinv i s h0 h1 h2
          exact ⟨j, by omega, hk⟩
        · rcases Nat.lt_or_ge l.length i with hg | hg
          · rw [List.getElem?_append_right (by simp; omega)] at h1
            have hcn : (dirsX l).length ≤ (c.add (child x k m c)).nf := by
              have := Cn.add_nf c (child x k m c)
              have := hc.2.1
              omega
            rcases spT_fi k _ _ s (List.mem_of_getElem? h1) with h3 | h3
            · rw [h3, hdi] at h2; omega
            · omega
          · have : i = l.length := by omega
            subst this
            rw [List.append_assoc, List.getElem?_append_right (Nat.le_refl _), Nat.sub_self] at h1
            simp at h1
            subst h1
            exact ⟨off, Nat.lt_succ_self _, hkid⟩
      have hs3 := sib_L rr r0 r ms x _ _ (off + 1) hb2 hs2 hd hks2 hms2 hok.2 hx2 hc2 hinv2
      simpa using hs3
    · exact sib_L rr r0 r ms x c l (off + 1) hb hs hd hks2 hms2 hok.2 hx hc (fun i s h0 h1 h2 => by
        obtain ⟨j, hj, hk⟩ := hinv i s h0 h1 h2
        exact ⟨j, by omega, hk⟩)
end
theorem sib_spots (rr : Bool) {n : NV} (hok : okD n) (h0 : n.kind = 0) : Sib (spots rr n) := by
  refine sib_T rr n n (rootX rr n) ⟨1, 1, 0⟩ [rootX rr n] (.root h0) ?_ rfl hok rfl ?_ ?_
  · intro i s hi hs
    rw [List.getElem?_eq_none (by simp; omega)] at hs; cases hs
  · refine ⟨rfl, ?_, ?_⟩
    · simp [dirsX, XS.isDir, rootX, h0]
    · simp [movX, rootX]
  · intro i s hi hs
    rw [List.getElem?_eq_none (by simp; omega)] at hs; cases hs
end Go.Tame.V
/- What holds of the records of a plan. Plain. -/
namespace Go.Tame.V
open Go Go.Proofs
set_option maxRecDepth 10000
set_option linter.unusedVariables false
set_option linter.unusedSimpArgs false

theorem digit_inj : ∀ a, a < 120 → ∀ b, b < 120 → Lib.decDigits a = Lib.decDigits b → a = b := by decide +kernel
theorem digit_no : ∀ a, a < 120 → (32 : UInt8) ∉ Lib.decDigits a ∧ (59 : UInt8) ∉ Lib.decDigits a := by decide +kernel
theorem rrN_no : ∀ k, k < 100 → (59 : UInt8) ∉ rrN k := by decide +kernel
theorem splitC {c : UInt8} {A A' B B' : List UInt8} (h : c ∉ A) (h' : c ∉ A') (e : A ++ c :: B = A' ++ c :: B') : A = A' ∧ B = B' := by
  induction A generalizing A' with
  | nil =>
    cases A' with
    | nil => exact ⟨rfl, by simpa using e⟩
    | cons a r => simp at e; exact absurd (by rw [← e.1]; exact List.mem_cons_self) h'
  | cons a r ih =>
    cases A' with
    | nil => simp at e; exact absurd (by rw [e.1]; exact List.mem_cons_self) h
    | cons a' r' =>
      simp only [List.cons_append, List.cons.injEq] at e
      obtain ⟨h1, h2⟩ := ih (fun hm => h (List.mem_cons_of_mem _ hm)) (fun hm => h' (List.mem_cons_of_mem _ hm)) e.2
      exact ⟨by rw [e.1, h1], h2⟩
theorem suf_no {s : List UInt8} (h : (59 : UInt8) ∉ s) : Lib.hasSuffix s [59, 49] = false := by
  cases hs : Lib.hasSuffix s [59, 49] with
  | false => rfl
  | true =>
    rw [Lib.hasSuffix, List.isSuffixOf_iff_suffix] at hs
    obtain ⟨t, rfl⟩ := hs
    exact absurd (by simp) h
/-- Relocated directories are numbered. -/
theorem Built.mnos {rr : Bool} {n : NV} {l : List XS} (h : Built rr n l) : ∀ (j : Nat) (s : XS), (movX l)[j]? = some s → s.mno = j + 1 := by
  induction h with
  | root h0 =>
    intro j s hs
    have e : movX [rootX rr n] = [] := by simp [movX, rootX]
    rw [e] at hs; simp at hs
  | @snoc l t p h hst ih =>
    intro j s hs
    cases hd : t.mv with
    | false => rw [movX_stay hd] at hs; exact ih j s hs
    | true =>
      rw [movX_snoc hd] at hs
      rcases Nat.lt_or_ge j (movX l).length with hj | hj
      · rw [List.getElem?_append_left hj] at hs; exact ih j s hs
      · rcases Nat.lt_or_ge (movX l).length j with hg | hg
        · rw [List.getElem?_eq_none (by simp; omega)] at hs; cases hs
        · have : j = (movX l).length := by omega
          subst this
          rw [List.getElem?_concat_length] at hs
          cases hs; exact hst.mno
/-- What is known of a node but the root: its name and identifiers. -/
structure Node26 (rr : Bool) (n : NV) (T : List XS) (s : XS) : Prop where
  fi : s.fi ≤ (dirsX T).length
  dir : s.isDir = true → ∃ q, (dirsX T)[q]? = some s ∧ s.di = q + 1
  mvd : s.mv = true → s.isDir = true
  name : ∃ p j m A B, KidAt p s j ∧ p.di = s.fi ∧ (rootX rr n :: T)[p.si]? = some p ∧ p.isDir = true ∧ (namesG 0 p.n.kids)[j]? = some m ∧ IsoForm m (s.n.kind == 0) A B ∧ (if s.mv then s.file else s.id) = idOf m (s.isDir && !s.mv) ∧ (p.di = 0 → p = rootX rr n)
theorem ids_name {s p : XS} {j : Nat} {m A B : List UInt8} (hk : KidAt p s j) (hm : (namesG 0 p.n.kids)[j]? = some m) (hf : IsoForm m (s.n.kind == 0) A B) : (if s.mv then s.file else s.id) = idOf m (s.isDir && !s.mv) := by
  obtain ⟨_, m', hm', h1, h2⟩ := hk
  rw [hm] at hm'
  cases hm'
  cases hv : s.mv with
  | true => rw [if_pos rfl, h2, hf.file.ident]; simp
  | false => rw [if_neg (by decide), h1, hf.ident]; simp [XS.isDir]
theorem node26 {rr : Bool} {n : NV} {T : List XS} (hn : okT n) (hb : Built rr n (rootX rr n :: T)) (hs : Sib (rootX rr n :: T)) {s : XS} (hT : s ∈ T) : Node26 rr n T s := by
  obtain ⟨t, ht⟩ := List.mem_iff_getElem?.1 hT
  have h1 : (rootX rr n :: T)[t + 1]? = some s := ht
  have hrd : (rootX rr n).isDir = true := by rw [XS.isDir, rootX, hb.kind]; rfl
  have hdT : dirsX (rootX rr n :: T) = rootX rr n :: dirsX T := by rw [dirsX, List.filter_cons, if_pos hrd]; rfl
  obtain ⟨p, hst, hp, hlt⟩ := hb.par (Nat.succ_pos t) h1
  obtain ⟨p', j, hp', hpd, hfi, hk, _⟩ := hs (t + 1) s (Nat.succ_pos t) h1
  rw [hp] at hp'; cases hp'
  have hpi := hb.si hp
  have hokp := (hb.okN hn _ _ hp).1
  obtain ⟨h64, _, _, hokl⟩ := (okT_eq p.n).1 hokp
  have hk' := hk
  obtain ⟨hkj, m, hm, hid, hfile⟩ := hk'
  have hjl : j < p.n.kids.length := by
    rcases Nat.lt_or_ge j p.n.kids.length with h | h
    · exact h
    · rw [List.getElem?_eq_none h] at hkj; cases hkj
  obtain ⟨A, B, hf⟩ := names_form h64 (fun k hk => (okL_get hokl hk).1.1) hjl
  have hm2 : (namesG 0 p.n.kids)[j]'(by rw [namesG_len]; exact hjl) = m := by
    rw [List.getElem?_eq_getElem (by rw [namesG_len]; exact hjl)] at hm; exact Option.some.inj hm
  have hk2 : p.n.kids[j] = s.n := by
    rw [List.getElem?_eq_getElem hjl] at hkj; exact Option.some.inj hkj
  rw [hm2, hk2] at hf
  refine ⟨?_, fun hd => ?_, fun hmv => ?_, p, j, m, A, B, hk, hst.fi.symm, by rw [hpi]; exact hp, hpd, hm, hf, ids_name hk hm hf, fun h0 => ?_⟩
  · have := hb.fi_lt s (List.mem_of_getElem? h1)
    rw [hdT] at this
    simpa [Nat.lt_succ_iff] using this
  · obtain ⟨hsf, _⟩ := hb.folder (by rw [hb.si h1]; exact h1) hd
    rw [hdT] at hsf
    have h0 : s.di ≠ 0 := by
      have := (hb.lv _ _ h1).2.2.2 (Nat.succ_pos t) hd; omega
    obtain ⟨q, hq⟩ : ∃ q, s.di = q + 1 := ⟨s.di - 1, by omega⟩
    rw [hq] at hsf
    exact ⟨q, hsf, hq⟩
  · have h3 := hst.mv
    rw [hmv] at h3
    cases h : s.isDir with
    | true => rfl
    | false => rw [h] at h3; cases h3
  · obtain ⟨hpf, _⟩ := hb.folder (by rw [hpi]; exact hp) hpd
    rw [h0, hdT] at hpf
    exact (Option.some.inj hpf).symm
/-- Siblings' identifiers differ. -/
theorem sib_ids {rr : Bool} {n : NV} {T : List XS} (hn : okT n) (hb : Built rr n (rootX rr n :: T)) (hs : Sib (rootX rr n :: T)) :
    T.Pairwise fun s s' => s.fi = s'.fi → (if s.mv then s.file else s.id) ≠ (if s'.mv then s'.file else s'.id) := by
  rw [List.pairwise_iff_getElem]
  intro i i' hi hi' hlt hfi e
  have h1 : (rootX rr n :: T)[i + 1]? = some T[i] := by simp
  have h2 : (rootX rr n :: T)[i' + 1]? = some T[i'] := by simp
  generalize T[i] = s at *
  generalize T[i'] = s' at *
  obtain ⟨p, j', hp, hpd, hf, hk', hold⟩ := hs (i' + 1) s' (Nat.succ_pos _) h2
  obtain ⟨j, hj, hk⟩ := hold (i + 1) s (Nat.succ_pos _) (by omega) h1 hfi
  have hokp := (hb.okN hn _ _ hp).1
  obtain ⟨h64, _, hinc, hokl⟩ := (okT_eq p.n).1 hokp
  have form : ∀ (t : XS) (k : Nat), KidAt p t k → ∃ m A B, (namesG 0 p.n.kids)[k]? = some m ∧ IsoForm m (t.n.kind == 0) A B := fun t k hk => by
    obtain ⟨hkj, m, hm, _, _⟩ := hk
    have hjl : k < p.n.kids.length := by
      rcases Nat.lt_or_ge k p.n.kids.length with h | h
      · exact h
      · rw [List.getElem?_eq_none h] at hkj; cases hkj
    obtain ⟨A, B, hf⟩ := names_form h64 (fun k hk => (okL_get hokl hk).1.1) hjl
    have hm2 : (namesG 0 p.n.kids)[k]'(by rw [namesG_len]; exact hjl) = m := by
      rw [List.getElem?_eq_getElem (by rw [namesG_len]; exact hjl)] at hm; exact Option.some.inj hm
    have hk2 : p.n.kids[k] = t.n := by
      rw [List.getElem?_eq_getElem hjl] at hkj; exact Option.some.inj hkj
    rw [hm2, hk2] at hf
    exact ⟨m, A, B, hm, hf⟩
  obtain ⟨m, A, B, hm, hform⟩ := form s j hk
  obtain ⟨m', A', B', hm', hform'⟩ := form s' j' hk'
  rw [ids_name hk hm hform, ids_name hk' hm' hform'] at e
  have hF : ∀ (t : XS) (m A B : List UInt8), IsoForm m (t.n.kind == 0) A B → IsoForm m (t.isDir && !t.mv) A B := fun t m A B h => by
    cases t.mv with
    | true => simpa using h.file
    | false => simpa [XS.isDir] using h
  have := idOf_inj (hF _ _ _ _ hform) (hF _ _ _ _ hform') e
  subst this
  have hnd := namesG_nd (v := 0) (by decide) h64 hinc
  rw [List.nodup_iff_pairwise_ne, List.pairwise_iff_getElem] at hnd
  have hl : j < (namesG 0 p.n.kids).length := by
    rcases Nat.lt_or_ge j (namesG 0 p.n.kids).length with h | h
    · exact h
    · rw [List.getElem?_eq_none h] at hm; cases hm
  have hl' : j' < (namesG 0 p.n.kids).length := by
    rcases Nat.lt_or_ge j' (namesG 0 p.n.kids).length with h | h
    · exact h
    · rw [List.getElem?_eq_none h] at hm'; cases hm'
  rw [List.getElem?_eq_getElem hl] at hm
  rw [List.getElem?_eq_getElem hl'] at hm'
  exact hnd j j' hl hl' hj ((Option.some.inj hm).trans (Option.some.inj hm').symm)
end Go.Tame.V
/- The records of a plan: in order, different, one for each directory. Plain. -/
namespace Go.Tame.V
open Go Go.Proofs
set_option maxRecDepth 10000
set_option linter.unusedVariables false
set_option linter.unusedSimpArgs false

theorem blockR_inn {sh : Nat} {rn : List UInt8} {T : List XS} {k : Nat} {e : EntV} (h : e ∈ blockR sh rn T k) : e.inn = (k : Int) := by
  unfold blockR at h
  split at h
  · rename_i h1
    obtain ⟨s, _, rfl⟩ := List.mem_map.1 h
    rw [h1.1]; rfl
  · rcases List.mem_append.1 h with h | h
    · unfold preR at h
      split at h
      · rename_i h1
        rw [List.mem_singleton] at h; subst h; rw [h1.1]; rfl
      · cases h
    · obtain ⟨s, hs, rfl⟩ := List.mem_map.1 h
      have := (List.mem_filter.1 hs).2
      simp only [beq_iff_eq] at this
      show ((ixS sh s.fi : Nat) : Int) = _
      rw [this]
theorem ixS_inj {sh i j : Nat} (h : ixS sh i = ixS sh j) : i = j := by
  unfold ixS at h
  split at h <;> split at h <;> omega
theorem suf_append' (m : List UInt8) : Lib.hasSuffix (m ++ [46, 59, 49]) [59, 49] = true := by
  have := suf_append (m ++ [46]) [59, 49]
  simpa using this
/-- The records stand in order, and those of one directory have different identifiers. -/
theorem ents_pairs {rr : Bool} {n : NV} {T : List XS} (hn : okT n) (hb : Built rr n (rootX rr n :: T)) (hs : Sib (rootX rr n :: T)) (hT : T.length < 100) :
    (entsP (rrN (rrK (namesG 0 n.kids))) T).Pairwise fun e e' => e.inn ≤ e'.inn ∧ (e.inn = e'.inn → e.id ≠ e'.id) := by
  have hfis : ∀ x ∈ T, x.fi ≤ (dirsX T).length := fun x hx => (node26 hn hb hs hx).fi
  rw [← ents_blocks _ hfis, List.pairwise_flatMap]
  obtain ⟨h64, _, _, _⟩ := (okT_eq n).1 hn
  obtain ⟨hr1, hr2, _⟩ := rr_ok (U := namesG 0 n.kids) (by rw [namesG_len]; exact h64)
  refine ⟨fun k _ => ?_, ?_⟩
  · refine List.Pairwise.imp_of_mem (R := fun e e' => e.id ≠ e'.id) (fun ha hb' hR => ⟨by rw [blockR_inn ha, blockR_inn hb']; exact Int.le_refl _, fun _ => hR⟩) ?_
    unfold blockR
    split
    · rename_i h1
      rw [List.pairwise_map, List.pairwise_iff_getElem]
      intro i i' hi hi' hlt e
      have hm : movX (rootX rr n :: T) = movX T := by rw [movX, List.filter_cons, if_neg (by simp [rootX])]; rfl
      have g1 := hb.mnos i _ (by rw [hm]; exact List.getElem?_eq_getElem hi)
      have g2 := hb.mnos i' _ (by rw [hm]; exact List.getElem?_eq_getElem hi')
      have hml : (movX T).length ≤ T.length := List.length_filter_le _ _
      have e2 : Lib.decDigits (movX T)[i].mno = Lib.decDigits (movX T)[i'].mno := by simpa [XS.movV] using e
      have := digit_inj _ (by omega) _ (by omega) e2
      omega
    · rename_i h1
      rw [List.pairwise_append]
      refine ⟨?_, ?_, ?_⟩
      · unfold preR; split
        · exact List.pairwise_singleton _ _
        · exact List.Pairwise.nil
      · rw [List.pairwise_map]
        have hp := (sib_ids hn hb hs).filter (fun x => ixS (shiftX T) x.fi == k)
        refine hp.imp_of_mem fun ha hb' hR => ?_
        have g1 := (List.mem_filter.1 ha).2
        have g2 := (List.mem_filter.1 hb').2
        simp only [beq_iff_eq] at g1 g2
        exact hR (ixS_inj (g1.trans g2.symm))
      · intro e he e' he' hid
        unfold preR at he
        split at he
        · rename_i h2
          rw [List.mem_singleton] at he; subst he
          obtain ⟨s, hs', rfl⟩ := List.mem_map.1 he'
          obtain ⟨hsT, hsk⟩ := List.mem_filter.1 hs'
          simp only [beq_iff_eq] at hsk
          have hf0 : s.fi = 0 := by
            rw [h2.1] at hsk
            unfold ixS at hsk; split at hsk <;> omega
          obtain ⟨p, j, m, A, B, hk, hpf, hp, hpd, hm, hform, hids, hroot⟩ := (node26 hn hb hs hsT).name
          have hpr := hroot (by rw [hpf, hf0])
          subst hpr
          have hid2 : rrN (rrK (namesG 0 n.kids)) = idOf m (s.isDir && !s.mv) := by rw [← hids]; exact hid
          cases hd : (s.isDir && !s.mv) with
          | true =>
            rw [hd, idOf, if_pos rfl] at hid2
            have hmm : m ∈ namesG 0 n.kids := List.mem_of_getElem? hm
            rw [hid2] at hr2
            exact hr2 hmm
          | false =>
            rw [hd] at hid2
            have := rrN_no _ hr1
            rw [hid2] at this
            exact this idOf_file
        · cases he
  · rw [List.pairwise_iff_getElem]
    intro i i' hi hi' hlt e he e' he'
    rw [blockR_inn he, blockR_inn he']
    simp only [List.getElem_range]
    exact ⟨by omega, fun h => by omega⟩
/-- What the law says of each record. -/
structure EntOk (D : List DirV) (e : EntV) : Prop where
  inn : 0 ≤ e.inn ∧ e.inn < D.length
  dir : -1 ≤ e.dir ∧ e.dir < D.length
  suf : Lib.hasSuffix e.id [59, 49] = decide (e.dir < 0)
  tgt : 0 ≤ e.dir → ∃ d, D[e.dir.toNat]? = some d ∧ d.parent = e.inn ∧ d.id = e.id ∧ d.path = e.path
theorem ents_ok {rr : Bool} {n : NV} {T : List XS} (hn : okT n) (hb : Built rr n (rootX rr n :: T)) (hs : Sib (rootX rr n :: T)) (hT : T.length < 100) :
    ∀ e ∈ entsP (rrN (rrK (namesG 0 n.kids))) T, EntOk (dirsP (rrN (rrK (namesG 0 n.kids))) T) e := by
  intro e he
  obtain ⟨h64, _, _, _⟩ := (okT_eq n).1 hn
  obtain ⟨hr1, hr2, _⟩ := rr_ok (U := namesG 0 n.kids) (by rw [namesG_len]; exact h64)
  have hl := dirsP_len (rrN (rrK (namesG 0 n.kids))) T
  have hrec : ∀ i, e ∈ recsAt (shiftX T) T i → EntOk (dirsP (rrN (rrK (namesG 0 n.kids))) T) e := fun i h => by
    obtain ⟨s, hs', rfl⟩ := List.mem_map.1 h
    obtain ⟨hsT, _⟩ := List.mem_filter.1 hs'
    obtain ⟨hfi, hdir, hmvd, p, j, m, A, B, hk, hpf, hp, hpd, hm, hform, hids, hroot⟩ := node26 hn hb hs hsT
    have hix : ixS (shiftX T) s.fi < 1 + shiftX T + (dirsX T).length := by unfold ixS; split <;> omega
    have hid : (s.entV (shiftX T)).id = idOf m (s.isDir && !s.mv) := hids
    refine ⟨⟨Int.natCast_nonneg _, by rw [hl]; exact Int.ofNat_lt.2 hix⟩, ?_, ?_, ?_⟩
    · show -1 ≤ (if (s.isDir && !s.mv) = true then ((ixS (shiftX T) s.di : Nat) : Int) else -1) ∧ (if (s.isDir && !s.mv) = true then ((ixS (shiftX T) s.di : Nat) : Int) else -1) < _
      split
      · rename_i h1
        rw [Bool.and_eq_true] at h1
        obtain ⟨q, hq, hqd⟩ := hdir h1.1
        have hql : q < (dirsX T).length := by
          rcases Nat.lt_or_ge q (dirsX T).length with h | h
          · exact h
          · rw [List.getElem?_eq_none h] at hq; cases hq
        rw [hqd, hl, ixS, if_neg (by omega)]
        omega
      · omega
    · rw [hid]
      show _ = decide ((if (s.isDir && !s.mv) = true then ((ixS (shiftX T) s.di : Nat) : Int) else -1) < 0)
      cases hd : (s.isDir && !s.mv) with
      | true =>
        rw [if_pos rfl, decide_eq_false (by omega), idOf, if_pos rfl]
        exact suf_no hform.no59
      | false =>
        rw [if_neg (by decide), decide_eq_true (by decide), idOf_f]
        split
        · exact suf_append m [59, 49]
        · exact suf_append' m
    · intro h0
      have h1 : (s.isDir && !s.mv) = true := by
        cases hd : (s.isDir && !s.mv) with
        | true => rfl
        | false =>
          have : (s.entV (shiftX T)).dir = -1 := by show (if (s.isDir && !s.mv) = true then _ else _) = _; rw [hd]; rfl
          omega
      have hdirE : (s.entV (shiftX T)).dir = ((ixS (shiftX T) s.di : Nat) : Int) := by show (if (s.isDir && !s.mv) = true then _ else _) = _; rw [if_pos h1]
      rw [Bool.and_eq_true] at h1
      have hmv : s.mv = false := by simpa using h1.2
      obtain ⟨q, hq, hqd⟩ := hdir h1.1
      refine ⟨s.dirV (shiftX T), by rw [hdirE, Int.toNat_natCast, hqd]; exact dirsP_at hq, ?_, ?_, rfl⟩
      · simp [XS.dirV, XS.entV, hmv]
      · simp [XS.dirV, XS.entV, hmv]
  rw [entsP] at he
  rcases List.mem_append.1 he with he | he
  · rcases List.mem_append.1 he with he | he
    · rcases List.mem_append.1 he with he | he
      · split at he
        · cases he
        · rename_i h1
          rw [List.mem_singleton] at he; subst he
          have hsh : shiftX T = 1 := by rcases shiftX_01 T with h | h; · exact absurd h h1
                                        · exact h
          refine ⟨⟨Int.le_refl _, by rw [hl]; show (0 : Int) < _; omega⟩, ⟨by show (-1 : Int) ≤ 1; decide, by rw [hl, hsh]; show (1 : Int) < _; omega⟩, ?_, fun _ => ⟨_, dirsP_one hsh, rfl, rfl, rfl⟩⟩
          show Lib.hasSuffix (rrN (rrK (namesG 0 n.kids))) [59, 49] = _
          rw [suf_no (rrN_no _ hr1)]; rfl
      · exact hrec 0 he
    · obtain ⟨s, hs', rfl⟩ := List.mem_map.1 he
      obtain ⟨hsT, hmv⟩ := List.mem_filter.1 hs'
      obtain ⟨hfi, hdir, hmvd, _⟩ := node26 hn hb hs hsT
      obtain ⟨q, hq, hqd⟩ := hdir (hmvd hmv)
      have hql : q < (dirsX T).length := by
        rcases Nat.lt_or_ge q (dirsX T).length with h | h
        · exact h
        · rw [List.getElem?_eq_none h] at hq; cases hq
      have hsh := shiftX_mv hsT hmv
      have hm : movX (rootX rr n :: T) = movX T := by rw [movX, List.filter_cons, if_neg (by simp [rootX])]; rfl
      obtain ⟨i, hi⟩ := List.mem_iff_getElem?.1 hs'
      have hno := hb.mnos i s (by rw [hm]; exact hi)
      have hil : i < (movX T).length := by
        rcases Nat.lt_or_ge i (movX T).length with h | h
        · exact h
        · rw [List.getElem?_eq_none h] at hi; cases hi
      have hml : (movX T).length ≤ T.length := List.length_filter_le _ _
      have hdirE : (s.movV (shiftX T)).dir = ((ixS (shiftX T) s.di : Nat) : Int) := rfl
      refine ⟨⟨by show (0 : Int) ≤ 1; decide, by rw [hl, hsh]; show (1 : Int) < _; omega⟩, ⟨by rw [hdirE]; omega, ?_⟩, ?_, fun _ => ⟨s.dirV (shiftX T), by rw [hdirE, Int.toNat_natCast, hqd]; exact dirsP_at hq, ?_, ?_, rfl⟩⟩
      · rw [hdirE, hqd, hl, ixS, if_neg (by omega)]; omega
      · show Lib.hasSuffix (68 :: Lib.decDigits s.mno) [59, 49] = decide (((ixS (shiftX T) s.di : Nat) : Int) < 0)
        rw [suf_no, decide_eq_false (by omega)]
        intro h
        rcases List.mem_cons.1 h with h | h
        · cases h
        · exact (digit_no _ (by omega)).2 h
      · simp [XS.dirV, XS.movV, hmv]
      · simp [XS.dirV, XS.movV, hmv]
  · obtain ⟨i, _, he⟩ := List.mem_flatMap.1 he
    exact hrec _ he
end Go.Tame.V
/- Each directory of a plan but the root has one record. Plain. -/
namespace Go.Tame.V
open Go Go.Proofs
set_option maxRecDepth 10000
set_option linter.unusedVariables false
set_option linter.unusedSimpArgs false

theorem count_di (sh k : Nat) : ∀ (D : List XS) (off : Nat), (∀ q s, D[q]? = some s → s.di = q + off + 1) → D.countP (fun s => s.di + sh == k) = if off + 1 + sh ≤ k ∧ k < off + 1 + sh + D.length then 1 else 0
  | [], off, _ => by rw [if_neg (by simp)]; rfl
  | s :: r, off, h => by
    have h0 := h 0 s rfl
    have ih := count_di sh k r (off + 1) (fun q t ht => by have := h (q + 1) t ht; omega)
    rw [List.countP_cons, ih]
    simp only [List.length_cons, beq_iff_eq]
    by_cases h1 : s.di + sh = k
    · rw [if_pos h1, if_neg (by omega), if_pos (by omega)]
    · rw [if_neg h1]
      by_cases h2 : off + 1 + 1 + sh ≤ k ∧ k < off + 1 + 1 + sh + r.length
      · rw [if_pos h2, if_pos (by omega)]
      · rw [if_neg h2, if_neg (by omega)]
theorem countP_two {α : Type} (f g h : α → Bool) : ∀ (l : List α), (∀ s ∈ l, (if f s then 1 else 0) + (if g s then 1 else 0) = (if h s then 1 else (0 : Nat))) → l.countP f + l.countP g = l.countP h
  | [], _ => rfl
  | s :: r, hs => by
    have ih := countP_two f g h r (fun t ht => hs t (List.mem_cons_of_mem _ ht))
    have := hs s List.mem_cons_self
    rw [List.countP_cons, List.countP_cons, List.countP_cons]; omega
theorem ents_lead {rr : Bool} {n : NV} {T : List XS} (hn : okT n) (hb : Built rr n (rootX rr n :: T)) (hs : Sib (rootX rr n :: T)) (rn : List UInt8) {k : Nat} (hk : k < (dirsP rn T).length) :
    (entsP rn T).countP (fun e => e.dir == (k : Int)) = if k = 0 then 0 else 1 := by
  have hN : ∀ s ∈ T, Node26 rr n T s := fun s h => node26 hn hb hs h
  have hrd : (rootX rr n).isDir = true := by rw [XS.isDir, rootX, hb.kind]; rfl
  have hdT : dirsX (rootX rr n :: T) = rootX rr n :: dirsX T := by rw [dirsX, List.filter_cons, if_pos hrd]; rfl
  rw [dirsP_len] at hk
  obtain ⟨sh, hsh⟩ : ∃ sh, shiftX T = sh := ⟨_, rfl⟩
  have h01 := shiftX_01 T
  rw [hsh] at hk h01
  have h1 := filter_sumP (fun s => s.isDir && !s.mv && (ixS sh s.di == k)) T ((dirsX T).length + 1) (fun x hx => by have := (hN x hx).fi; omega)
  have h2 : ∀ i, (recsAt sh T i).countP (fun e => e.dir == (k : Int)) = (T.filter fun x => x.fi == i).countP (fun s => s.isDir && !s.mv && (ixS sh s.di == k)) := fun i => by
    rw [recsAt, List.countP_map]
    refine List.countP_congr fun s _ => ?_
    show ((if (s.isDir && !s.mv) = true then ((ixS sh s.di : Nat) : Int) else -1) == (k : Int)) = true ↔ _
    cases hd : (s.isDir && !s.mv) with
    | true => rw [if_pos rfl]; simp; omega
    | false => rw [if_neg (by decide)]; simp
  have h3 : ((movX T).map (XS.movV sh)).countP (fun e => e.dir == (k : Int)) = T.countP (fun s => s.mv && (ixS sh s.di == k)) := by
    rw [List.countP_map, movX, List.countP_filter]
    refine List.countP_congr fun s _ => ?_
    show ((((ixS sh s.di : Nat) : Int) == (k : Int)) && s.mv) = true ↔ _
    rw [Bool.and_comm]; simp
    intro _; omega
  have h4 := countP_two (fun s : XS => s.isDir && !s.mv && (ixS sh s.di == k)) (fun s => s.mv && (ixS sh s.di == k)) (fun s => (ixS sh s.di == k) && s.isDir) T (fun s hsT => by
    have := (hN s hsT).mvd
    cases hd : s.isDir <;> cases hm : s.mv <;> cases (ixS sh s.di == k) <;> simp_all)
  have h5 : T.countP (fun s => (ixS sh s.di == k) && s.isDir) = (dirsX T).countP (fun s => s.di + sh == k) := by
    rw [dirsX, List.countP_filter]
    refine List.countP_congr fun s hsT => ?_
    cases hd : s.isDir with
    | false => simp
    | true =>
      obtain ⟨q, _, hq⟩ := (hN s hsT).dir hd
      rw [ixS, if_neg (by omega)]
  have h6 := count_di sh k (dirsX T) 0 (fun q s hq => by
    have := hb.dis (q + 1) s (by rw [hdT]; exact hq)
    omega)
  rw [entsP, hsh, List.countP_append, List.countP_append, List.countP_append, countP_flatMap, h2, h3]
  simp only [h2]
  rw [List.range_succ_eq_map] at h1
  simp only [List.map_cons, List.sum_cons, List.map_map, Function.comp_def] at h1
  have h7 : (if sh = 0 then ([] : List EntV) else [⟨[47], rn, 0, 1, true, false, false⟩]).countP (fun e => e.dir == (k : Int)) = if sh = 1 ∧ k = 1 then 1 else 0 := by
    rcases h01 with h | h
    · rw [h, if_pos rfl, if_neg (by omega)]; rfl
    · rw [h, if_neg (by decide), List.countP_cons]
      by_cases hk1 : k = 1
      · subst hk1; rfl
      · have : (((1 : Int)) == (k : Int)) = false := by rw [beq_eq_false_iff_ne]; omega
        simp [this, hk1]
  rw [h7]
  have h8 : ∀ (a b c d : Nat), b + d + c = (if k = 0 ∨ (sh = 1 ∧ k = 1) then 0 else 1) → a = (if sh = 1 ∧ k = 1 then 1 else 0) → a + b + c + d = if k = 0 then 0 else 1 := fun a b c d hx ha => by
    subst ha
    split at hx <;> split <;> split <;> omega
  refine h8 _ _ _ _ ?_ rfl
  have e1 : ((List.range (dirsX T).length).map fun a => (T.filter fun x => x.fi == a + 1).countP (fun s => s.isDir && !s.mv && (ixS sh s.di == k))).sum = ((List.range (dirsX T).length).map fun a => (T.filter fun x => x.fi == Nat.succ a).countP (fun s => s.isDir && !s.mv && (ixS sh s.di == k))).sum := rfl
  rw [e1, h1, h4, h5, h6]
  split <;> split <;> omega
end Go.Tame.V
/- Laws: RelocationUnique. By program (mkrq.py, mk.py). -/
namespace Go.Tame.V
open Go Go.Proofs
variable {W0 : World}
set_option maxRecDepth 10000
set_option linter.unusedVariables false
set_option linter.unusedSimpArgs false

theorem G54 (s : List UInt8) (hs : s.length < 1000000000) : DFun Tryz.prog W0 54 [.str s, .str [59, 49]] (.bool (Lib.hasSuffix s [59, 49])) :=
  .pure (callable Tryz.func54 rfl (by decide +kernel)) rfl rfl fun w _ => Tryz.strings_HasSuffix ⟨⟨s⟩⟩ ⟨⟨[59, 49]⟩⟩ w (by show s.length ≤ _; omega)
/-- What the law keeps of a record. -/
def keyOf (e : EntV) : List UInt8 := Lib.decDigits e.inn.toNat ++ [32] ++ e.id
def keysR (E : List EntV) (j : Nat) : List (List UInt8) := ((E.take j).map keyOf).reverse
theorem keysR_next {E : List EntV} {j : Nat} {e : EntV} (h : E[j]? = some e) : keyOf e :: keysR E j = keysR E (j + 1) := by
  rw [keysR, keysR, take_nxt h]; simp
def lastR (E : List EntV) (j : Nat) : Int := if j = 0 then 0 else (E.getD (j - 1) default).inn
theorem lastR_next {E : List EntV} {j : Nat} {e : EntV} (h : E[j]? = some e) : lastR E (j + 1) = e.inn := by
  rw [lastR, if_neg (by omega), Nat.add_sub_cancel, List.getD_eq_getElem?_getD, h]; rfl
def leadsR (E : List EntV) (N j : Nat) : List D := (List.range N).map fun k : Nat => .int .i64 (((E.take j).countP (fun e => e.dir == (k : Int)) : Nat) : Int)
theorem leadsR_len (E : List EntV) (N j : Nat) : (leadsR E N j).length = N := by simp [leadsR]
theorem leadsR_get {E : List EntV} {N j k : Nat} (h : k < N) : (leadsR E N j)[k]? = some (.int .i64 (((E.take j).countP (fun e => e.dir == (k : Int)) : Nat) : Int)) := by simp [leadsR, h]
theorem leadsR_zero (E : List EntV) (N : Nat) : List.replicate N (D.int .i64 0) = leadsR E N 0 := by
  rw [leadsR]; simp [List.map_const']
theorem leadsR_stay {E : List EntV} {N j : Nat} {e : EntV} (h : E[j]? = some e) (hd : e.dir < 0) : leadsR E N j = leadsR E N (j + 1) := by
  rw [leadsR, leadsR]
  refine List.map_congr_left fun k hk => ?_
  rw [countP_next h]
  have : (e.dir == (k : Int)) = false := by rw [beq_eq_false_iff_ne]; omega
  rw [this]; simp
theorem leadsR_set {E : List EntV} {N j q : Nat} {e : EntV} (h : E[j]? = some e) (hd : e.dir = (q : Int)) (hq : q < N) :
    (leadsR E N j).set q (.int .i64 ((((E.take j).countP (fun e => e.dir == (q : Int)) : Nat) : Int) + 1)) = leadsR E N (j + 1) := by
  apply List.ext_getElem?
  intro k
  rcases Nat.lt_or_ge k N with hk | hk
  · rw [List.getElem?_set, leadsR_len, leadsR_get (j := j + 1) hk, countP_next h]
    by_cases h1 : q = k
    · subst h1
      rw [if_pos rfl, if_pos hk]
      have : (e.dir == (q : Int)) = true := by rw [beq_iff_eq]; exact hd
      rw [this]; simp
    · rw [if_neg h1, leadsR_get hk]
      have : (e.dir == (k : Int)) = false := by rw [beq_eq_false_iff_ne]; omega
      rw [this]; simp
  · rw [List.getElem?_eq_none (by simp [leadsR_len]; omega), List.getElem?_eq_none (by rw [leadsR_len]; omega)]
/-- The keys are new, the directories rise. -/
theorem keys_new {E : List EntV} (hP : E.Pairwise fun e e' => e.inn ≤ e'.inn ∧ (e.inn = e'.inn → e.id ≠ e'.id)) (hI : ∀ e ∈ E, 0 ≤ e.inn ∧ e.inn < 120) {j : Nat} {e : EntV} (h : E[j]? = some e) : keyOf e ∉ keysR E j ∧ lastR E j ≤ e.inn := by
  rw [List.pairwise_iff_getElem] at hP
  obtain ⟨hj, rfl⟩ := List.getElem?_eq_some_iff.1 h
  refine ⟨fun hm => ?_, ?_⟩
  · rw [keysR, List.mem_reverse] at hm
    obtain ⟨t, ht, hk⟩ := List.mem_map.1 hm
    obtain ⟨i, hi⟩ := List.mem_iff_getElem?.1 ht
    rw [List.getElem?_take] at hi
    split at hi
    · rename_i hij
      obtain ⟨hil, rfl⟩ := List.getElem?_eq_some_iff.1 hi
      have h1 := hI E[i] (List.getElem_mem _)
      have h2 := hI E[j] (List.getElem_mem _)
      unfold keyOf at hk
      rw [List.append_assoc, List.append_assoc, List.singleton_append, List.singleton_append] at hk
      obtain ⟨g1, g2⟩ := splitC (digit_no _ (by omega)).1 (digit_no _ (by omega)).1 hk
      have g3 := digit_inj _ (by omega) _ (by omega) g1
      exact (hP i j hil hj hij).2 (by omega) g2
    · cases hi
  · rw [lastR]
    split
    · exact (hI E[j] (List.getElem_mem _)).1
    · have h3 : j - 1 < E.length := by omega
      rw [List.getD_eq_getElem?_getD, List.getElem?_eq_getElem h3]
      exact (hP (j - 1) j h3 hj (by omega)).1
theorem idOf_len {m A B : List UInt8} {d d' : Bool} (h : IsoForm m d A B) : (idOf m d').length ≤ 15 := by
  have := h.len
  unfold idOf
  split
  · omega
  · split <;> simp <;> omega
theorem ents_idl {rr : Bool} {n : NV} {T : List XS} (hn : okT n) (hb : Built rr n (rootX rr n :: T)) (hs : Sib (rootX rr n :: T)) (hT : T.length < 100) :
    ∀ e ∈ entsP (rrN (rrK (namesG 0 n.kids))) T, e.id.length < 100 := by
  intro e he
  obtain ⟨h64, _, _, _⟩ := (okT_eq n).1 hn
  obtain ⟨hr1, _, _⟩ := rr_ok (U := namesG 0 n.kids) (by rw [namesG_len]; exact h64)
  have hrl : (rrN (rrK (namesG 0 n.kids))).length ≤ 8 := by
    rw [rrN]; split
    · decide
    · have := dig_len _ hr1; simp; omega
  have hrec : ∀ i, e ∈ recsAt (shiftX T) T i → e.id.length < 100 := fun i h => by
    obtain ⟨s, hs', rfl⟩ := List.mem_map.1 h
    obtain ⟨p, j, m, A, B, hk, hpf, hp, hpd, hm, hform, hids, hroot⟩ := (node26 hn hb hs (List.mem_filter.1 hs').1).name
    have hid : (s.entV (shiftX T)).id = idOf m (s.isDir && !s.mv) := hids
    rw [hid]
    have := idOf_len (d' := (s.isDir && !s.mv)) hform
    omega
  rw [entsP] at he
  rcases List.mem_append.1 he with he | he
  · rcases List.mem_append.1 he with he | he
    · rcases List.mem_append.1 he with he | he
      · split at he
        · cases he
        · rw [List.mem_singleton] at he; subst he
          show (rrN _).length < 100
          omega
      · exact hrec 0 he
    · obtain ⟨s, hs', rfl⟩ := List.mem_map.1 he
      have hm : movX (rootX rr n :: T) = movX T := by rw [movX, List.filter_cons, if_neg (by simp [rootX])]; rfl
      obtain ⟨i, hi⟩ := List.mem_iff_getElem?.1 hs'
      have hno := hb.mnos i s (by rw [hm]; exact hi)
      have hil : i < (movX T).length := by
        rcases Nat.lt_or_ge i (movX T).length with h | h
        · exact h
        · rw [List.getElem?_eq_none h] at hi; cases hi
      have hml : (movX T).length ≤ T.length := List.length_filter_le _ _
      have hd : ∀ a, a < 120 → (Lib.decDigits a).length ≤ 3 := by decide +kernel
      have := hd s.mno (by omega)
      show (68 :: Lib.decDigits s.mno).length < 100
      simp; omega
  · obtain ⟨i, _, he⟩ := List.mem_flatMap.1 he
    exact hrec _ he
set_option maxHeartbeats 8000000 in
theorem G13 (hL : LibOk W0) (n : NV) (hn : Fits n) (rr : Bool) : DFun Tryz.prog W0 13 [encTop n, .bool rr] (.bool true) := by
  refine DFun.intro ti2_ok Tryz.func13 rfl (by decide +kernel) Tryz.ntmps13 rfl fun Γ => ?_
  refine Tri.seq ?_
  refine Tri.region ti2_ok ?_
  conv => whnf
  intro b2
  conv => whnf
  refine Tri.seq ?_
  refine Tri.seq ?_
  refine Tri.region ti2_ok ?_
  conv => whnf
  refine ⟨[], _, fun _ => G39 hL, trivial, ?_⟩
  conv => whnf
  refine Tri.cond _ rfl (fun hc => ?_) (fun hc => ?_)
  · cases hc
  · refine Tri.skip ?_
    conv => whnf
    refine Tri.seq ?_
    refine Tri.seq ?_
    refine Tri.region ti2_ok ?_
    conv => whnf
    refine ⟨rfl, ?_⟩
    conv => whnf
    refine ⟨[encTop n, .int .i64 20000], _, fun _ => F26 n 20000 hn, ⟨.refl _, .refl _, trivial⟩, ?_⟩
    conv => whnf
    refine Tri.cond _ rfl (fun hc => ?_) (fun hc => ?_)
    · refine Tri.seq ?_
      refine Tri.region ti2_ok ?_
      conv => whnf
      refine Tri.ret ?_
      conv => whnf
      exact .refl _
    · refine Tri.skip ?_
      conv => whnf
      have hf : few1 n 20000 = true := by simpa using hc
      have hs := few_sz2 hf
      have hcn := (few_sz hf).2
      have hld := plan_lenD rr n
      have hle := plan_lenE rr n hcn
      refine Tri.seq ?_
      refine Tri.region ti2_ok ?_
      conv => whnf
      refine ⟨rfl, ?_⟩
      conv => whnf
      refine ⟨[encTop n, .bool rr], _, fun _ => G40 hL rr n hn (fun _ => ⟨by omega, by omega⟩), ⟨.refl _, .refl _, trivial⟩, ?_⟩
      conv => whnf
      refine Tri.seq ?_
      refine Tri.seq ?_
      refine Tri.region ti2_ok ?_
      conv => whnf
      refine Tri.cond ((planV rr n).2.2 != 0) rfl (fun hc => ?_) (fun hc => ?_)
      · have hv : valid n = false := by
          cases h : valid n with
          | false => rfl
          | true => rw [planV, if_pos h] at hc; cases hc
        have hp := plan_bad (rr := rr) hv
        refine Tri.seq ?_
        refine Tri.region ti2_ok ?_
        conv => whnf
        refine Tri.ret ?_
        conv => whnf
        exact DLe.of_eq (congrArg D.bool (by rw [hp]; rfl))
      · refine Tri.skip ?_
        conv => whnf
        have hv : valid n = true := by
          cases h : valid n with
          | true => rfl
          | false => rw [plan_bad h] at hc; cases hc
        have hokt := valid_okT hv
        obtain ⟨hokd, hk0⟩ := valid_okD hv
        obtain ⟨rn, T, hp, hb, hT, hrn⟩ := plan_good (rr := rr) hv
        have hsib : Sib (rootX rr n :: T) := by rw [hT]; exact sib_spots rr hokd hk0
        have hTl : T.length < 100 := by have := spT_len n (rootX rr n) ⟨1, 1, 0⟩; rw [← hT] at this; omega
        have hPair := ents_pairs hokt hb hsib hTl
        have hOk := ents_ok hokt hb hsib hTl
        have hIdl := ents_idl hokt hb hsib hTl
        rw [← hrn] at hPair hOk hIdl
        have hLead := fun (k : Nat) (hk : k < (dirsP rn T).length) => ents_lead hokt hb hsib rn hk
        rw [hp] at hld hle ⊢
        dsimp only at hld hle ⊢
        generalize dirsP rn T = Ds at *
        generalize entsP rn T = Es at *
        have hInn : ∀ e ∈ Es, 0 ≤ e.inn ∧ e.inn < 120 := fun e he => by have := (hOk e he).inn; omega
        refine Tri.seq ?_
        refine Tri.regionX ti2_ok ?_
        conv => whnf
        refine .inr (XOp.makeMap fun mb => ?_)
        conv => whnf
        refine Tri.seq ?_
        refine Tri.regionX ti2_ok ?_
        conv => whnf
        refine .inr (XOp.makeRow ti2_ok (n := Ds.length) (k1 := .i64) (k2 := .i64) (z := .int .i64 0) rfl rfl rfl rfl rfl ?_ ?_ (by show 8 * _ ≤ _; omega) (by omega) fun lv => ?_)
        · show D.int _ _ = _; simp
        · show D.int _ _ = _; simp
        conv => whnf
        refine Tri.seq ?_
        refine Tri.region ti2_ok ?_
        conv => whnf
        refine Tri.seq ?_
        refine Tri.seq ?_
        refine Tri.region ti2_ok ?_
        conv => whnf
        refine Tri.block ?_
        refine Tri.loopK (α := { j : Nat // j ≤ Es.length }) (fun z => [(5, .sl .none 6 (Ds.map encDir)), (8, .raw (.map (some mb))), (9, .raw lv), (10, .int .i64 (lastR Es z.1)), (38, .sl .none 7 (Es.map encEnt)), (39, .int .i64 ((Es.map encEnt).length : Int)), (40, .int .i64 (z.1 : Int))]) (fun z => [(34, .set mb (keysR Es z.1)), (37, .row lv (leadsR Es Ds.length z.1) 1 3)]) (fun z => Es.length - z.1) ⟨0, Nat.zero_le _⟩ [(34, 34), (37, 37)]
          ⟨⟨.refl _, .refl _, .refl _, .refl _, .refl _, .refl _, .refl _, trivial⟩, rfl, rfl, rfl, rfl, congrArg (fun z => some (HObj.row lv z 1 3)) (leadsR_zero Es Ds.length), trivial⟩ ?_
        rintro ⟨j, hj⟩
        try dsimp only
        refine Tri.seq ?_
        refine Tri.region ti2_ok ?_
        conv => whnf
        refine Tri.seq ?_
        refine Tri.cond (decide ((j : Int) < ((Es.map encEnt).length : Int))) rfl (fun hc => ?_) (fun hc => ?_)
        · refine Tri.skip ?_
          conv => whnf
          have hja : j < Es.length := by simpa using hc
          obtain ⟨e, he⟩ : ∃ e, Es[j]? = some e := ⟨_, List.getElem?_eq_getElem hja⟩
          have hee : (Es.map encEnt)[j]? = some (encEnt e) := by rw [List.getElem?_map, he]; rfl
          have hem := List.mem_of_getElem? he
          have hok := hOk e hem
          obtain ⟨hin0, hin1⟩ := hok.inn
          have hi120 := hInn e hem
          obtain ⟨hnew, hlast⟩ := keys_new hPair hInn he
          have hidl := hIdl e hem
          have hdl : (Lib.decDigits e.inn.toNat).length ≤ 2 := dig_len _ (by omega)
          have hel : ((Ds.map encDir).length : Int) = Ds.length := by simp
          have c1 : decide (e.inn < lastR Es j) = false := decide_eq_false (by omega)
          have c2 : decide (e.inn ≥ ((Ds.map encDir).length : Int)) = false := decide_eq_false (by omega)
          have c3 : decide (keyOf e ∈ keysR Es j) = false := decide_eq_false hnew
          have c4 : Lib.hasSuffix e.id [59, 49] = decide (e.dir < 0) := hok.suf
          have c5 : (decide (e.dir < 0) == decide (0 ≤ e.dir)) = false := by
            by_cases h : e.dir < 0
            · rw [decide_eq_true h, decide_eq_false (by omega)]; rfl
            · rw [decide_eq_false h, decide_eq_true (by omega)]; rfl
          have c6 : decide (e.dir ≥ ((Ds.map encDir).length : Int)) = false := decide_eq_false (by have := hok.dir.2; omega)
          refine Tri.seq ?_
          refine Tri.block ?_
          refine Tri.seq ?_
          refine Tri.region ti2_ok ?_
          conv => whnf
          refine ⟨fun _ => ⟨Int.natCast_nonneg _, of_decide_eq_true hc⟩, ?_⟩
          conv => whnf
          refine ⟨encEnt e, fun _ => hee, ?_⟩
          conv => whnf
          intro b12
          conv => whnf
          refine ⟨rfl, ?_⟩
          conv => whnf
          refine Tri.seq ?_
          refine Tri.draw ti2_ok mixed (by kernel_rfl) ?_
          conv => whnf
          refine ⟨rfl, ?_⟩
          conv => whnf
          refine ⟨[.int .i64 ((e.inn.toNat : Nat) : Int)], _, fun _ => F118r e.inn.toNat (by omega), ⟨intDLe (by omega), trivial⟩, ?_⟩
          conv => whnf
          refine ⟨fun _ => by simp; omega, ?_⟩
          conv => whnf
          refine ⟨rfl, ?_⟩
          conv => whnf
          refine ⟨fun _ => by simp; omega, ?_⟩
          conv => whnf
          refine Tri.forgetG [(5, .sl .none 6 (Ds.map encDir)), (8, .raw (.map (some mb))), (9, .raw lv), (10, .int .i64 (lastR Es j)), (38, .sl .none 7 (Es.map encEnt)), (39, .int .i64 ((Es.map encEnt).length : Int)), (40, .int .i64 (j : Int)), (12, .box 12 b12 0), (13, .str (keyOf e))] (look [(34, .set mb (keysR Es j)), (37, .row lv (leadsR Es Ds.length j) 1 3), (12, .box b12 [.str e.path, .str e.id, .int .i64 e.inn, .int .i64 e.dir, .bool e.hid, .bool e.att, .bool e.mov])]) (.same ⟨.refl _, .refl _, .refl _, .refl _, .refl _, .refl _, .refl _, .refl _, .refl _, trivial⟩ (SubHF.of ⟨rfl, rfl, rfl, trivial⟩)) ?_
          refine Tri.seq ?_
          refine Tri.seq ?_
          refine Tri.bitsG ti2_ok mixed (α := Unit) (fun _ f => [(5, .sl .none 6 (Ds.map encDir)), (8, .raw (.map (some mb))), (9, .raw lv), (10, .int .i64 (lastR Es j)), (38, .sl .none 7 (Es.map encEnt)), (39, .int .i64 ((Es.map encEnt).length : Int)), (40, .int .i64 (j : Int)), (12, .box 12 b12 0), (13, .str (keyOf e)), (51, bif f 0 then .box 12 b12 2 else .any), (52, bif f 1 then .int .i64 e.inn else .any), (53, bif f 2 then .int .i64 (lastR Es j) else .any), (54, bif f 3 then .bool false else .any), (55, bif f 4 then .bool false else .any), (56, bif f 5 then .box 12 b12 2 else .any), (57, bif f 6 then .int .i64 e.inn else .any), (58, bif f 7 then .sl .none 6 (Ds.map encDir) else .any), (59, bif f 8 then .int .i64 ((Ds.map encDir).length : Int) else .any), (60, bif f 9 then .bool false else .any), (61, bif f 10 then .bool false else .any), (62, bif f 11 then .bool false else .any), (63, bif f 12 then .raw (.map (some mb)) else .any), (64, bif f 13 then .str (keyOf e) else .any), (65, bif f 14 then .bool false else .any), (66, bif f 15 then .bool false else .any), (67, bif f 16 then .bool false else .any), (68, bif f 17 then .box 12 b12 1 else .any), (69, bif f 18 then .str e.id else .any), (70, bif f 19 then .bool (decide (e.dir < 0)) else .any), (71, bif f 20 then .box 12 b12 3 else .any), (72, bif f 21 then .int .i64 e.dir else .any), (73, bif f 22 then .bool (decide (0 ≤ e.dir)) else .any), (74, bif f 23 then .bool false else .any), (75, bif f 24 then .bool false else .any), (76, bif f 25 then .bool false else .any), (77, bif f 26 then .box 12 b12 3 else .any), (78, bif f 27 then .int .i64 e.dir else .any), (79, bif f 28 then .sl .none 6 (Ds.map encDir) else .any), (80, bif f 29 then .int .i64 ((Ds.map encDir).length : Int) else .any), (81, bif f 30 then .bool false else .any), (82, bif f 31 then .bool false else .any)])
            (fun _ f => look [(34, .set mb (keysR Es j)), (37, .row lv (leadsR Es Ds.length j) 1 3), (12, .box b12 [.str e.path, .str e.id, .int .i64 e.inn, .int .i64 e.dir, .bool e.hid, .bool e.att, .bool e.mov])]) (by decide +kernel) () ?_ ?_ ?_ ?_
          · exact ⟨.refl _, .refl _, .refl _, .refl _, .refl _, .refl _, .refl _, .refl _, .refl _, .any _, .any _, .any _, .any _, .any _, .any _, .any _, .any _, .any _, .any _, .any _, .any _, .any _, .any _, .any _, .any _, .any _, .any _, .any _, .any _, .any _, .any _, .any _, .any _, .any _, .any _, .any _, .any _, .any _, .any _, .any _, .any _, trivial⟩
          · exact SubHF.of (hs := [(34, .set mb (keysR Es j)), (37, .row lv (leadsR Es Ds.length j) 1 3), (12, .box b12 [.str e.path, .str e.id, .int .i64 e.inn, .int .i64 e.dir, .bool e.hid, .bool e.att, .bool e.mov])]) ⟨rfl, rfl, rfl, trivial⟩
          · conv => whnf
            refine ⟨fun _ f hI => ?_, ?_⟩
            · conv => whnf
              refine ⟨trivial, .inl ?_⟩
              conv => whnf
              exact ⟨(), ⟨.refl _, .refl _, .refl _, .refl _, .refl _, .refl _, .refl _, .refl _, .refl _, .refl _, .refl _, .refl _, .refl _, .refl _, .refl _, .refl _, .refl _, .refl _, .refl _, .refl _, .refl _, .refl _, .refl _, .refl _, .refl _, .refl _, .refl _, .refl _, .refl _, .refl _, .refl _, .refl _, .refl _, .refl _, .refl _, .refl _, .refl _, .refl _, .refl _, .refl _, .refl _, trivial⟩, fun k o h => h⟩
            refine ⟨fun _ f hI => ?_, ?_⟩
            · conv => whnf
              refine ⟨trivial, .inl ?_⟩
              conv => whnf
              refine ⟨rfl, ?_⟩
              conv => whnf
              exact ⟨(), ⟨.refl _, .refl _, .refl _, .refl _, .refl _, .refl _, .refl _, .refl _, .refl _, .refl _, .refl _, .refl _, .refl _, .refl _, .refl _, .refl _, .refl _, .refl _, .refl _, .refl _, .refl _, .refl _, .refl _, .refl _, .refl _, .refl _, .refl _, .refl _, .refl _, .refl _, .refl _, .refl _, .refl _, .refl _, .refl _, .refl _, .refl _, .refl _, .refl _, .refl _, .refl _, trivial⟩, fun k o h => h⟩
            refine ⟨fun _ f hI => ?_, ?_⟩
            · conv => whnf
              refine ⟨trivial, .inl ?_⟩
              conv => whnf
              exact ⟨(), ⟨.refl _, .refl _, .refl _, .refl _, .refl _, .refl _, .refl _, .refl _, .refl _, .refl _, .refl _, .refl _, .refl _, .refl _, .refl _, .refl _, .refl _, .refl _, .refl _, .refl _, .refl _, .refl _, .refl _, .refl _, .refl _, .refl _, .refl _, .refl _, .refl _, .refl _, .refl _, .refl _, .refl _, .refl _, .refl _, .refl _, .refl _, .refl _, .refl _, .refl _, .refl _, trivial⟩, fun k o h => h⟩
            refine ⟨fun _ f hI => ?_, ?_⟩
            · conv => whnf
              refine ⟨trivial, .inl ?_⟩
              conv => whnf
              exact ⟨(), ⟨.refl _, .refl _, .refl _, .refl _, .refl _, .refl _, .refl _, .refl _, .refl _, .refl _, .refl _, .refl _, DLe.of_eq (congrArg D.bool c1), .refl _, .refl _, .refl _, .refl _, .refl _, .refl _, .refl _, .refl _, .refl _, .refl _, .refl _, .refl _, .refl _, .refl _, .refl _, .refl _, .refl _, .refl _, .refl _, .refl _, .refl _, .refl _, .refl _, .refl _, .refl _, .refl _, .refl _, .refl _, trivial⟩, fun k o h => h⟩
            refine ⟨fun _ f hI => ?_, ?_⟩
            · conv => whnf
              refine ⟨trivial, .inl ?_⟩
              conv => whnf
              exact ⟨(), ⟨.refl _, .refl _, .refl _, .refl _, .refl _, .refl _, .refl _, .refl _, .refl _, .refl _, .refl _, .refl _, .refl _, .refl _, .refl _, .refl _, .refl _, .refl _, .refl _, .refl _, .refl _, .refl _, .refl _, .refl _, .refl _, .refl _, .refl _, .refl _, .refl _, .refl _, .refl _, .refl _, .refl _, .refl _, .refl _, .refl _, .refl _, .refl _, .refl _, .refl _, .refl _, trivial⟩, fun k o h => h⟩
            refine ⟨fun _ f hI => ?_, ?_⟩
            · conv => whnf
              refine ⟨⟨_, rfl, rfl⟩, .inl ?_⟩
              conv => whnf
              exact ⟨(), ⟨.refl _, .refl _, .refl _, .refl _, .refl _, .refl _, .refl _, .refl _, .refl _, .refl _, .refl _, .refl _, .refl _, .refl _, .refl _, .refl _, .refl _, .refl _, .refl _, .refl _, .refl _, .refl _, .refl _, .refl _, .refl _, .refl _, .refl _, .refl _, .refl _, .refl _, .refl _, .refl _, .refl _, .refl _, .refl _, .refl _, .refl _, .refl _, .refl _, .refl _, .refl _, trivial⟩, fun k o h => h⟩
            refine ⟨fun _ f hI => ?_, ?_⟩
            · conv => whnf
              refine ⟨⟨_, rfl, rfl⟩, .inl ?_⟩
              conv => whnf
              refine ⟨rfl, ?_⟩
              conv => whnf
              exact ⟨(), ⟨.refl _, .refl _, .refl _, .refl _, .refl _, .refl _, .refl _, .refl _, .refl _, .refl _, .refl _, .refl _, .refl _, .refl _, .refl _, .refl _, .refl _, .refl _, .refl _, .refl _, .refl _, .refl _, .refl _, .refl _, .refl _, .refl _, .refl _, .refl _, .refl _, .refl _, .refl _, .refl _, .refl _, .refl _, .refl _, .refl _, .refl _, .refl _, .refl _, .refl _, .refl _, trivial⟩, fun k o h => h⟩
            refine ⟨fun _ f hI => ?_, ?_⟩
            · conv => whnf
              refine ⟨⟨_, rfl, rfl⟩, .inl ?_⟩
              conv => whnf
              exact ⟨(), ⟨.refl _, .refl _, .refl _, .refl _, .refl _, .refl _, .refl _, .refl _, .refl _, .refl _, .refl _, .refl _, .refl _, .refl _, .refl _, .refl _, .refl _, .refl _, .refl _, .refl _, .refl _, .refl _, .refl _, .refl _, .refl _, .refl _, .refl _, .refl _, .refl _, .refl _, .refl _, .refl _, .refl _, .refl _, .refl _, .refl _, .refl _, .refl _, .refl _, .refl _, .refl _, trivial⟩, fun k o h => h⟩
            refine ⟨fun _ f hI => ?_, ?_⟩
            · conv => whnf
              refine ⟨⟨_, rfl, rfl⟩, .inl ?_⟩
              conv => whnf
              exact ⟨(), ⟨.refl _, .refl _, .refl _, .refl _, .refl _, .refl _, .refl _, .refl _, .refl _, .refl _, .refl _, .refl _, .refl _, .refl _, .refl _, .refl _, .refl _, .refl _, .refl _, .refl _, .refl _, .refl _, .refl _, .refl _, .refl _, .refl _, .refl _, .refl _, .refl _, .refl _, .refl _, .refl _, .refl _, .refl _, .refl _, .refl _, .refl _, .refl _, .refl _, .refl _, .refl _, trivial⟩, fun k o h => h⟩
            refine ⟨fun _ f hI => ?_, ?_⟩
            · conv => whnf
              refine ⟨⟨_, rfl, rfl⟩, .inl ?_⟩
              conv => whnf
              exact ⟨(), ⟨.refl _, .refl _, .refl _, .refl _, .refl _, .refl _, .refl _, .refl _, .refl _, .refl _, .refl _, .refl _, .refl _, .refl _, .refl _, .refl _, .refl _, .refl _, DLe.of_eq (congrArg D.bool c2), .refl _, .refl _, .refl _, .refl _, .refl _, .refl _, .refl _, .refl _, .refl _, .refl _, .refl _, .refl _, .refl _, .refl _, .refl _, .refl _, .refl _, .refl _, .refl _, .refl _, .refl _, .refl _, trivial⟩, fun k o h => h⟩
            refine ⟨fun _ f hI => ?_, ?_⟩
            · conv => whnf
              refine ⟨trivial, .inl ?_⟩
              conv => whnf
              exact ⟨(), ⟨.refl _, .refl _, .refl _, .refl _, .refl _, .refl _, .refl _, .refl _, .refl _, .refl _, .refl _, .refl _, .refl _, .refl _, .refl _, .refl _, .refl _, .refl _, .refl _, .refl _, .refl _, .refl _, .refl _, .refl _, .refl _, .refl _, .refl _, .refl _, .refl _, .refl _, .refl _, .refl _, .refl _, .refl _, .refl _, .refl _, .refl _, .refl _, .refl _, .refl _, .refl _, trivial⟩, fun k o h => h⟩
            refine ⟨fun _ f hI => ?_, ?_⟩
            · conv => whnf
              refine ⟨trivial, .inl ?_⟩
              conv => whnf
              exact ⟨(), ⟨.refl _, .refl _, .refl _, .refl _, .refl _, .refl _, .refl _, .refl _, .refl _, .refl _, .refl _, .refl _, .refl _, .refl _, .refl _, .refl _, .refl _, .refl _, .refl _, .refl _, .refl _, .refl _, .refl _, .refl _, .refl _, .refl _, .refl _, .refl _, .refl _, .refl _, .refl _, .refl _, .refl _, .refl _, .refl _, .refl _, .refl _, .refl _, .refl _, .refl _, .refl _, trivial⟩, fun k o h => h⟩
            refine ⟨fun _ f hI => ?_, ?_⟩
            · conv => whnf
              refine ⟨⟨_, rfl, rfl⟩, .inl ?_⟩
              conv => whnf
              exact ⟨(), ⟨.refl _, .refl _, .refl _, .refl _, .refl _, .refl _, .refl _, .refl _, .refl _, .refl _, .refl _, .refl _, .refl _, .refl _, .refl _, .refl _, .refl _, .refl _, .refl _, .refl _, .refl _, .refl _, .refl _, .refl _, .refl _, .refl _, .refl _, .refl _, .refl _, .refl _, .refl _, .refl _, .refl _, .refl _, .refl _, .refl _, .refl _, .refl _, .refl _, .refl _, .refl _, trivial⟩, fun k o h => h⟩
            refine ⟨fun _ f hI => ?_, ?_⟩
            · conv => whnf
              refine ⟨⟨_, rfl, rfl⟩, .inl ?_⟩
              conv => whnf
              exact ⟨(), ⟨.refl _, .refl _, .refl _, .refl _, .refl _, .refl _, .refl _, .refl _, .refl _, .refl _, .refl _, .refl _, .refl _, .refl _, .refl _, .refl _, .refl _, .refl _, .refl _, .refl _, .refl _, .refl _, .refl _, .refl _, .refl _, .refl _, .refl _, .refl _, .refl _, .refl _, .refl _, .refl _, .refl _, .refl _, .refl _, .refl _, .refl _, .refl _, .refl _, .refl _, .refl _, trivial⟩, fun k o h => h⟩
            refine ⟨fun _ f hI => ?_, ?_⟩
            · conv => whnf
              refine ⟨⟨_, rfl, rfl⟩, .inr ?_⟩
              refine XOp.setLookup 34 (kt := 9) (et := 4) rfl rfl (fun w => rfl) rfl rfl rfl ?_
              exact ⟨(), ⟨.refl _, .refl _, .refl _, .refl _, .refl _, .refl _, .refl _, .refl _, .refl _, .refl _, .refl _, .refl _, .refl _, .refl _, .refl _, .refl _, .refl _, .refl _, .refl _, .refl _, .refl _, .refl _, .refl _, DLe.of_eq (congrArg D.bool c3), .refl _, .refl _, .refl _, .refl _, .refl _, .refl _, .refl _, .refl _, .refl _, .refl _, .refl _, .refl _, .refl _, .refl _, .refl _, .refl _, .refl _, trivial⟩, fun k o h => h⟩
            refine ⟨fun _ f hI => ?_, ?_⟩
            · conv => whnf
              refine ⟨trivial, .inl ?_⟩
              conv => whnf
              exact ⟨(), ⟨.refl _, .refl _, .refl _, .refl _, .refl _, .refl _, .refl _, .refl _, .refl _, .refl _, .refl _, .refl _, .refl _, .refl _, .refl _, .refl _, .refl _, .refl _, .refl _, .refl _, .refl _, .refl _, .refl _, .refl _, .refl _, .refl _, .refl _, .refl _, .refl _, .refl _, .refl _, .refl _, .refl _, .refl _, .refl _, .refl _, .refl _, .refl _, .refl _, .refl _, .refl _, trivial⟩, fun k o h => h⟩
            refine ⟨fun _ f hI => ?_, ?_⟩
            · conv => whnf
              refine ⟨trivial, .inl ?_⟩
              conv => whnf
              exact ⟨(), ⟨.refl _, .refl _, .refl _, .refl _, .refl _, .refl _, .refl _, .refl _, .refl _, .refl _, .refl _, .refl _, .refl _, .refl _, .refl _, .refl _, .refl _, .refl _, .refl _, .refl _, .refl _, .refl _, .refl _, .refl _, .refl _, .refl _, .refl _, .refl _, .refl _, .refl _, .refl _, .refl _, .refl _, .refl _, .refl _, .refl _, .refl _, .refl _, .refl _, .refl _, .refl _, trivial⟩, fun k o h => h⟩
            refine ⟨fun _ f hI => ?_, ?_⟩
            · conv => whnf
              refine ⟨⟨_, rfl, rfl⟩, .inl ?_⟩
              conv => whnf
              exact ⟨(), ⟨.refl _, .refl _, .refl _, .refl _, .refl _, .refl _, .refl _, .refl _, .refl _, .refl _, .refl _, .refl _, .refl _, .refl _, .refl _, .refl _, .refl _, .refl _, .refl _, .refl _, .refl _, .refl _, .refl _, .refl _, .refl _, .refl _, .refl _, .refl _, .refl _, .refl _, .refl _, .refl _, .refl _, .refl _, .refl _, .refl _, .refl _, .refl _, .refl _, .refl _, .refl _, trivial⟩, fun k o h => h⟩
            refine ⟨fun _ f hI => ?_, ?_⟩
            · conv => whnf
              refine ⟨⟨_, rfl, rfl⟩, .inl ?_⟩
              conv => whnf
              refine ⟨rfl, ?_⟩
              conv => whnf
              exact ⟨(), ⟨.refl _, .refl _, .refl _, .refl _, .refl _, .refl _, .refl _, .refl _, .refl _, .refl _, .refl _, .refl _, .refl _, .refl _, .refl _, .refl _, .refl _, .refl _, .refl _, .refl _, .refl _, .refl _, .refl _, .refl _, .refl _, .refl _, .refl _, .refl _, .refl _, .refl _, .refl _, .refl _, .refl _, .refl _, .refl _, .refl _, .refl _, .refl _, .refl _, .refl _, .refl _, trivial⟩, fun k o h => h⟩
            refine ⟨fun _ f hI => ?_, ?_⟩
            · conv => whnf
              refine ⟨⟨_, rfl, rfl⟩, .inl ?_⟩
              conv => whnf
              refine ⟨[.str e.id, .str [59, 49]], _, fun _ => G54 e.id (by omega), ⟨.refl _, .refl _, trivial⟩, ?_⟩
              conv => whnf
              exact ⟨(), ⟨.refl _, .refl _, .refl _, .refl _, .refl _, .refl _, .refl _, .refl _, .refl _, .refl _, .refl _, .refl _, .refl _, .refl _, .refl _, .refl _, .refl _, .refl _, .refl _, .refl _, .refl _, .refl _, .refl _, .refl _, .refl _, .refl _, .refl _, .refl _, DLe.of_eq (congrArg D.bool c4), .refl _, .refl _, .refl _, .refl _, .refl _, .refl _, .refl _, .refl _, .refl _, .refl _, .refl _, .refl _, trivial⟩, fun k o h => h⟩
            refine ⟨fun _ f hI => ?_, ?_⟩
            · conv => whnf
              refine ⟨⟨_, rfl, rfl⟩, .inl ?_⟩
              conv => whnf
              exact ⟨(), ⟨.refl _, .refl _, .refl _, .refl _, .refl _, .refl _, .refl _, .refl _, .refl _, .refl _, .refl _, .refl _, .refl _, .refl _, .refl _, .refl _, .refl _, .refl _, .refl _, .refl _, .refl _, .refl _, .refl _, .refl _, .refl _, .refl _, .refl _, .refl _, .refl _, .refl _, .refl _, .refl _, .refl _, .refl _, .refl _, .refl _, .refl _, .refl _, .refl _, .refl _, .refl _, trivial⟩, fun k o h => h⟩
            refine ⟨fun _ f hI => ?_, ?_⟩
            · conv => whnf
              refine ⟨⟨_, rfl, rfl⟩, .inl ?_⟩
              conv => whnf
              refine ⟨rfl, ?_⟩
              conv => whnf
              exact ⟨(), ⟨.refl _, .refl _, .refl _, .refl _, .refl _, .refl _, .refl _, .refl _, .refl _, .refl _, .refl _, .refl _, .refl _, .refl _, .refl _, .refl _, .refl _, .refl _, .refl _, .refl _, .refl _, .refl _, .refl _, .refl _, .refl _, .refl _, .refl _, .refl _, .refl _, .refl _, .refl _, .refl _, .refl _, .refl _, .refl _, .refl _, .refl _, .refl _, .refl _, .refl _, .refl _, trivial⟩, fun k o h => h⟩
            refine ⟨fun _ f hI => ?_, ?_⟩
            · conv => whnf
              refine ⟨⟨_, rfl, rfl⟩, .inl ?_⟩
              conv => whnf
              exact ⟨(), ⟨.refl _, .refl _, .refl _, .refl _, .refl _, .refl _, .refl _, .refl _, .refl _, .refl _, .refl _, .refl _, .refl _, .refl _, .refl _, .refl _, .refl _, .refl _, .refl _, .refl _, .refl _, .refl _, .refl _, .refl _, .refl _, .refl _, .refl _, .refl _, .refl _, .refl _, .refl _, .refl _, .refl _, .refl _, .refl _, .refl _, .refl _, .refl _, .refl _, .refl _, .refl _, trivial⟩, fun k o h => h⟩
            refine ⟨fun _ f hI => ?_, ?_⟩
            · conv => whnf
              refine ⟨⟨_, rfl, rfl⟩, .inl ?_⟩
              conv => whnf
              exact ⟨(), ⟨.refl _, .refl _, .refl _, .refl _, .refl _, .refl _, .refl _, .refl _, .refl _, .refl _, .refl _, .refl _, .refl _, .refl _, .refl _, .refl _, .refl _, .refl _, .refl _, .refl _, .refl _, .refl _, .refl _, .refl _, .refl _, .refl _, .refl _, .refl _, .refl _, .refl _, .refl _, .refl _, DLe.of_eq (congrArg D.bool c5), .refl _, .refl _, .refl _, .refl _, .refl _, .refl _, .refl _, .refl _, trivial⟩, fun k o h => h⟩
            refine ⟨fun _ f hI => ?_, ?_⟩
            · conv => whnf
              refine ⟨trivial, .inl ?_⟩
              conv => whnf
              exact ⟨(), ⟨.refl _, .refl _, .refl _, .refl _, .refl _, .refl _, .refl _, .refl _, .refl _, .refl _, .refl _, .refl _, .refl _, .refl _, .refl _, .refl _, .refl _, .refl _, .refl _, .refl _, .refl _, .refl _, .refl _, .refl _, .refl _, .refl _, .refl _, .refl _, .refl _, .refl _, .refl _, .refl _, .refl _, .refl _, .refl _, .refl _, .refl _, .refl _, .refl _, .refl _, .refl _, trivial⟩, fun k o h => h⟩
            refine ⟨fun _ f hI => ?_, ?_⟩
            · conv => whnf
              refine ⟨trivial, .inl ?_⟩
              conv => whnf
              exact ⟨(), ⟨.refl _, .refl _, .refl _, .refl _, .refl _, .refl _, .refl _, .refl _, .refl _, .refl _, .refl _, .refl _, .refl _, .refl _, .refl _, .refl _, .refl _, .refl _, .refl _, .refl _, .refl _, .refl _, .refl _, .refl _, .refl _, .refl _, .refl _, .refl _, .refl _, .refl _, .refl _, .refl _, .refl _, .refl _, .refl _, .refl _, .refl _, .refl _, .refl _, .refl _, .refl _, trivial⟩, fun k o h => h⟩
            refine ⟨fun _ f hI => ?_, ?_⟩
            · conv => whnf
              refine ⟨⟨_, rfl, rfl⟩, .inl ?_⟩
              conv => whnf
              exact ⟨(), ⟨.refl _, .refl _, .refl _, .refl _, .refl _, .refl _, .refl _, .refl _, .refl _, .refl _, .refl _, .refl _, .refl _, .refl _, .refl _, .refl _, .refl _, .refl _, .refl _, .refl _, .refl _, .refl _, .refl _, .refl _, .refl _, .refl _, .refl _, .refl _, .refl _, .refl _, .refl _, .refl _, .refl _, .refl _, .refl _, .refl _, .refl _, .refl _, .refl _, .refl _, .refl _, trivial⟩, fun k o h => h⟩
            refine ⟨fun _ f hI => ?_, ?_⟩
            · conv => whnf
              refine ⟨⟨_, rfl, rfl⟩, .inl ?_⟩
              conv => whnf
              refine ⟨rfl, ?_⟩
              conv => whnf
              exact ⟨(), ⟨.refl _, .refl _, .refl _, .refl _, .refl _, .refl _, .refl _, .refl _, .refl _, .refl _, .refl _, .refl _, .refl _, .refl _, .refl _, .refl _, .refl _, .refl _, .refl _, .refl _, .refl _, .refl _, .refl _, .refl _, .refl _, .refl _, .refl _, .refl _, .refl _, .refl _, .refl _, .refl _, .refl _, .refl _, .refl _, .refl _, .refl _, .refl _, .refl _, .refl _, .refl _, trivial⟩, fun k o h => h⟩
            refine ⟨fun _ f hI => ?_, ?_⟩
            · conv => whnf
              refine ⟨⟨_, rfl, rfl⟩, .inl ?_⟩
              conv => whnf
              exact ⟨(), ⟨.refl _, .refl _, .refl _, .refl _, .refl _, .refl _, .refl _, .refl _, .refl _, .refl _, .refl _, .refl _, .refl _, .refl _, .refl _, .refl _, .refl _, .refl _, .refl _, .refl _, .refl _, .refl _, .refl _, .refl _, .refl _, .refl _, .refl _, .refl _, .refl _, .refl _, .refl _, .refl _, .refl _, .refl _, .refl _, .refl _, .refl _, .refl _, .refl _, .refl _, .refl _, trivial⟩, fun k o h => h⟩
            refine ⟨fun _ f hI => ?_, ?_⟩
            · conv => whnf
              refine ⟨⟨_, rfl, rfl⟩, .inl ?_⟩
              conv => whnf
              exact ⟨(), ⟨.refl _, .refl _, .refl _, .refl _, .refl _, .refl _, .refl _, .refl _, .refl _, .refl _, .refl _, .refl _, .refl _, .refl _, .refl _, .refl _, .refl _, .refl _, .refl _, .refl _, .refl _, .refl _, .refl _, .refl _, .refl _, .refl _, .refl _, .refl _, .refl _, .refl _, .refl _, .refl _, .refl _, .refl _, .refl _, .refl _, .refl _, .refl _, .refl _, .refl _, .refl _, trivial⟩, fun k o h => h⟩
            refine ⟨fun _ f hI => ?_, ?_⟩
            · conv => whnf
              refine ⟨⟨_, rfl, rfl⟩, .inl ?_⟩
              conv => whnf
              exact ⟨(), ⟨.refl _, .refl _, .refl _, .refl _, .refl _, .refl _, .refl _, .refl _, .refl _, .refl _, .refl _, .refl _, .refl _, .refl _, .refl _, .refl _, .refl _, .refl _, .refl _, .refl _, .refl _, .refl _, .refl _, .refl _, .refl _, .refl _, .refl _, .refl _, .refl _, .refl _, .refl _, .refl _, .refl _, .refl _, .refl _, .refl _, .refl _, .refl _, .refl _, DLe.of_eq (congrArg D.bool c6), .refl _, trivial⟩, fun k o h => h⟩
            refine ⟨fun _ f hI => ?_, ?_⟩
            · conv => whnf
              refine ⟨trivial, .inl ?_⟩
              conv => whnf
              exact ⟨(), ⟨.refl _, .refl _, .refl _, .refl _, .refl _, .refl _, .refl _, .refl _, .refl _, .refl _, .refl _, .refl _, .refl _, .refl _, .refl _, .refl _, .refl _, .refl _, .refl _, .refl _, .refl _, .refl _, .refl _, .refl _, .refl _, .refl _, .refl _, .refl _, .refl _, .refl _, .refl _, .refl _, .refl _, .refl _, .refl _, .refl _, .refl _, .refl _, .refl _, .refl _, .refl _, trivial⟩, fun k o h => h⟩
            exact trivial
          · intro _ f hf
            conv => whnf
            refine Tri.forgetG [(5, .sl .none 6 (Ds.map encDir)), (8, .raw (.map (some mb))), (9, .raw lv), (10, .int .i64 (lastR Es j)), (38, .sl .none 7 (Es.map encEnt)), (39, .int .i64 ((Es.map encEnt).length : Int)), (40, .int .i64 (j : Int)), (12, .box 12 b12 0), (13, .str (keyOf e)), (82, .bool false)] (look [(34, .set mb (keysR Es j)), (37, .row lv (leadsR Es Ds.length j) 1 3), (12, .box b12 [.str e.path, .str e.id, .int .i64 e.inn, .int .i64 e.dir, .bool e.hid, .bool e.att, .bool e.mov])]) (.same ⟨.refl _, .refl _, .refl _, .refl _, .refl _, .refl _, .refl _, .refl _, .refl _, ?_, trivial⟩ (SubHF.of ⟨rfl, rfl, rfl, trivial⟩)) ?_
            · show DLe (bif f 31 then _ else _) _
              rw [hf 31 (by decide +kernel)]; exact .refl _
            refine Tri.cond false rfl (fun hc => ?_) (fun hc => ?_)
            · cases hc
            · refine Tri.skip ?_
              conv => whnf
              refine Tri.seq ?_
              refine Tri.bitsG ti2_ok mixed (α := Unit) (fun _ f => [(5, .sl .none 6 (Ds.map encDir)), (8, .raw (.map (some mb))), (9, .raw lv), (38, .sl .none 7 (Es.map encEnt)), (39, .int .i64 ((Es.map encEnt).length : Int)), (40, .int .i64 (j : Int)), (12, .box 12 b12 0), (13, .str (keyOf e)), (83, bif f 0 then .raw (.map (some mb)) else .any), (84, bif f 1 then .str (keyOf e) else .any), (85, bif f 2 then .box 12 b12 2 else .any), (86, bif f 3 then .int .i64 e.inn else .any), (10, bif f 5 then .int .i64 e.inn else .int .i64 (lastR Es j))])
                (fun _ f => look [(34, .set mb (bif f 4 then keyOf e :: keysR Es j else keysR Es j)), (37, .row lv (leadsR Es Ds.length j) 1 3), (12, .box b12 [.str e.path, .str e.id, .int .i64 e.inn, .int .i64 e.dir, .bool e.hid, .bool e.att, .bool e.mov])]) (by decide +kernel) () ?_ ?_ ?_ ?_
              · exact ⟨.refl _, .refl _, .refl _, .refl _, .refl _, .refl _, .refl _, .refl _, .any _, .any _, .any _, .any _, .refl _, trivial⟩
              · exact SubHF.of ⟨rfl, rfl, rfl, trivial⟩
              · conv => whnf
                refine ⟨fun _ f hI => ?_, ?_⟩
                · obtain ⟨f, rfl⟩ := off f 4 (hI.no 4 0 rfl rfl)
                  obtain ⟨f, rfl⟩ := off f 5 (hI.no 5 0 rfl rfl)
                  conv => whnf
                  refine ⟨trivial, .inl ?_⟩
                  conv => whnf
                  exact ⟨(), ⟨.refl _, .refl _, .refl _, .refl _, .refl _, .refl _, .refl _, .refl _, .refl _, .refl _, .refl _, .refl _, .refl _, trivial⟩, fun k o h => h⟩
                refine ⟨fun _ f hI => ?_, ?_⟩
                · obtain ⟨f, rfl⟩ := off f 4 (hI.no 4 1 rfl rfl)
                  obtain ⟨f, rfl⟩ := off f 5 (hI.no 5 1 rfl rfl)
                  conv => whnf
                  refine ⟨trivial, .inl ?_⟩
                  conv => whnf
                  exact ⟨(), ⟨.refl _, .refl _, .refl _, .refl _, .refl _, .refl _, .refl _, .refl _, .refl _, .refl _, .refl _, .refl _, .refl _, trivial⟩, fun k o h => h⟩
                refine ⟨fun _ f hI => ?_, ?_⟩
                · obtain ⟨f, rfl⟩ := off f 5 (hI.no 5 2 rfl rfl)
                  conv => whnf
                  refine ⟨trivial, .inl ?_⟩
                  conv => whnf
                  exact ⟨(), ⟨.refl _, .refl _, .refl _, .refl _, .refl _, .refl _, .refl _, .refl _, .refl _, .refl _, .refl _, .refl _, .refl _, trivial⟩, fun k o h => h⟩
                refine ⟨fun _ f hI => ?_, ?_⟩
                · obtain ⟨f, rfl⟩ := off f 5 (hI.no 5 3 rfl rfl)
                  conv => whnf
                  refine ⟨trivial, .inl ?_⟩
                  conv => whnf
                  refine ⟨rfl, ?_⟩
                  conv => whnf
                  exact ⟨(), ⟨.refl _, .refl _, .refl _, .refl _, .refl _, .refl _, .refl _, .refl _, .refl _, .refl _, .refl _, .refl _, .refl _, trivial⟩, fun k o h => h⟩
                refine ⟨fun _ f hI => ?_, ?_⟩
                · obtain ⟨f, rfl⟩ := off f 5 (hI.no 5 4 rfl rfl)
                  conv => whnf
                  refine ⟨trivial, .inr ?_⟩
                  refine XOp.setUpdate 34 (kt := 9) (et := 4) rfl rfl rfl rfl rfl rfl ?_
                  exact ⟨(), ⟨.refl _, .refl _, .refl _, .refl _, .refl _, .refl _, .refl _, .refl _, .refl _, .refl _, .refl _, .refl _, .refl _, trivial⟩, SubHF.of ⟨rfl, rfl, rfl, trivial⟩⟩
                refine ⟨fun _ f hI => ?_, ?_⟩
                · conv => whnf
                  refine ⟨trivial, .inl ?_⟩
                  conv => whnf
                  exact ⟨(), ⟨.refl _, .refl _, .refl _, .refl _, .refl _, .refl _, .refl _, .refl _, .refl _, .refl _, .refl _, .refl _, .refl _, trivial⟩, fun k o h => h⟩
                exact trivial
              · intro _ f hf
                conv => whnf
                refine Tri.forgetK [(5, .sl .none 6 (Ds.map encDir)), (8, .raw (.map (some mb))), (9, .raw lv), (10, .int .i64 (e.inn)), (38, .sl .none 7 (Es.map encEnt)), (39, .int .i64 ((Es.map encEnt).length : Int)), (40, .int .i64 (j : Int)), (12, .box 12 b12 0), (13, .str (keyOf e))] [(34, .set mb (keyOf e :: keysR Es j)), (37, .row lv (leadsR Es Ds.length j) 1 3), (12, .box b12 [.str e.path, .str e.id, .int .i64 e.inn, .int .i64 e.dir, .bool e.hid, .bool e.att, .bool e.mov])] [(34, 34), (37, 37), (12, 12)] ⟨⟨.refl _, .refl _, .refl _, ?_, .refl _, .refl _, .refl _, .refl _, .refl _, trivial⟩, rfl, rfl, ?_, rfl, rfl, rfl, rfl, trivial⟩ ?_
                · show DLe (bif f 5 then _ else _) _
                  rw [hf 5 (by decide +kernel)]; exact .refl _
                · show some (HObj.set mb (bif f 4 then _ else _)) = _
                  rw [hf 4 (by decide +kernel)]; rfl
                refine Tri.seq ?_
                refine Tri.seq ?_
                refine Tri.region ti2_ok ?_
                conv => whnf
                refine ⟨rfl, ?_⟩
                conv => whnf
                refine Tri.cond (decide (e.dir < 0)) rfl (fun hc => ?_) (fun hc => ?_)
                · have hneg := of_decide_eq_true hc
                  refine Tri.exit ?_
                  conv => whnf
                  refine Tri.region ti2_ok ?_
                  conv => whnf
                  refine .inl ⟨fun _ => by simp [InR]; omega, ?_⟩
                  conv => whnf
                  exact ⟨⟨j + 1, hja⟩, [(34, 34), (37, 37)], by show _ - (j + 1) < _ - j; omega, ⟨.refl _, .refl _, .refl _, intDLe (lastR_next he).symm, .refl _, .refl _, .refl _, trivial⟩, rfl, rfl, congrArg (fun z => some (HObj.set mb z)) (keysR_next he), rfl, congrArg (fun z => some (HObj.row lv z 1 3)) (leadsR_stay he hneg), trivial⟩
                · have hpos : 0 ≤ e.dir := by have := of_decide_eq_false hc; omega
                  obtain ⟨d, hd, hd1, hd2, hd3⟩ := hok.tgt hpos
                  obtain ⟨q, hq⟩ : ∃ q : Nat, e.dir = (q : Int) := ⟨e.dir.toNat, by omega⟩
                  have hqN : q < Ds.length := by have := hok.dir.2; omega
                  have hlg := leadsR_get (E := Es) (j := j) hqN
                  have hll := leadsR_len Es Ds.length j
                  have hde : (Ds.map encDir)[e.dir.toNat]? = some (encDir d) := by rw [List.getElem?_map, hd]; rfl
                  have hcl : (Es.take j).countP (fun e => e.dir == (q : Int)) ≤ j := Nat.le_trans List.countP_le_length (by rw [List.length_take]; omega)
                  have hset := leadsR_set he hq hqN
                  refine Tri.skip ?_
                  conv => whnf
                  refine Tri.seq ?_
                  refine Tri.regionX ti2_ok ?_
                  conv => whnf
                  refine .inl ?_
                  conv => whnf
                  refine ⟨rfl, ?_⟩
                  conv => whnf
                  refine .inr (XOp.rowIndex ti2_ok 37 rfl rfl rfl rfl rfl rfl rfl (by omega) (by rw [hll]; omega) ?_)
                  conv => whnf
                  refine .inr (XOp.rowLoad ti2_ok 37 (i := q) (by rw [hq, Int.toNat_natCast]; rfl) rfl rfl hlg ?_)
                  conv => whnf
                  refine .inl ⟨fun _ => by simp [InR]; omega, ?_⟩
                  conv => whnf
                  refine .inr (XOp.rowIndex ti2_ok 37 rfl rfl rfl rfl rfl rfl rfl (by omega) (by rw [hll]; omega) ?_)
                  conv => whnf
                  refine .inr (XOp.rowStore ti2_ok 37 (i := q) (by rw [hq, Int.toNat_natCast]; rfl) rfl rfl rfl (by rw [hll]; omega) rfl ?_)
                  conv => whnf
                  refine Tri.seq ?_
                  refine Tri.region ti2_ok ?_
                  conv => whnf
                  refine ⟨rfl, ?_⟩
                  conv => whnf
                  refine ⟨fun _ => ⟨hpos, by have := hok.dir.2; rw [List.length_map]; omega⟩, ?_⟩
                  conv => whnf
                  refine ⟨encDir d, fun _ => hde, ?_⟩
                  conv => whnf
                  intro b14
                  conv => whnf
                  refine ⟨rfl, ?_⟩
                  conv => whnf
                  refine Tri.seq ?_
                  refine Tri.region ti2_ok ?_
                  conv => whnf
                  refine ⟨rfl, ?_⟩
                  conv => whnf
                  refine ⟨rfl, ?_⟩
                  conv => whnf
                  refine ⟨fun h => h, ?_⟩
                  conv => whnf
                  refine ⟨rfl, ?_⟩
                  conv => whnf
                  refine ⟨fun h => h, ?_⟩
                  conv => whnf
                  refine ⟨rfl, ?_⟩
                  conv => whnf
                  refine ⟨fun h => h, ?_⟩
                  conv => whnf
                  refine ⟨fun h => h, ?_⟩
                  conv => whnf
                  refine ⟨fun h0 h => by first | exact h | (rw [h]; rfl) | (rw [h0, h]; rfl), ?_⟩
                  conv => whnf
                  refine ⟨fun h => h, ?_⟩
                  conv => whnf
                  refine ⟨rfl, ?_⟩
                  conv => whnf
                  refine ⟨fun h => h, ?_⟩
                  conv => whnf
                  refine ⟨rfl, ?_⟩
                  conv => whnf
                  refine ⟨fun h => h, ?_⟩
                  conv => whnf
                  refine ⟨fun h => h, ?_⟩
                  conv => whnf
                  refine ⟨fun h0 h => by first | exact h | (rw [h]; rfl) | (rw [h0, h]; rfl), ?_⟩
                  conv => whnf
                  refine Tri.cond _ rfl (fun hc => ?_) (fun hc => ?_)
                  · exfalso
                    simp [hd1, hd2, hd3] at hc
                  · refine Tri.skip ?_
                    conv => whnf
                    refine Tri.region ti2_ok ?_
                    conv => whnf
                    refine .inl ⟨fun _ => by simp [InR]; omega, ?_⟩
                    conv => whnf
                    exact ⟨⟨j + 1, hja⟩, [(34, 34), (37, 37)], by show _ - (j + 1) < _ - j; omega, ⟨.refl _, .refl _, .refl _, intDLe (lastR_next he).symm, .refl _, .refl _, .refl _, trivial⟩, rfl, rfl, congrArg (fun z => some (HObj.set mb z)) (keysR_next he), rfl, congrArg (fun z => some (HObj.row lv z 1 3)) hset, trivial⟩
        · have hjn : j = Es.length := by simp at hc; omega
          have hrow : leadsR Es Ds.length j = leadsR Es Ds.length Es.length := by rw [hjn]
          refine Tri.forgetK [(9, .raw lv)] [(37, .row lv (leadsR Es Ds.length Es.length) 1 3)] [(37, 37)] ⟨⟨.refl _, trivial⟩, rfl, rfl, congrArg (fun z => some (HObj.row lv z 1 3)) hrow, trivial⟩ ?_
          refine Tri.commitSt 37 9 rfl ?_
          have hll := leadsR_len Es Ds.length Es.length
          refine Tri.exit ?_
          conv => whnf
          refine Tri.seq ?_
          refine Tri.seq ?_
          refine Tri.region ti2_ok ?_
          conv => whnf
          refine Tri.block ?_
          refine Tri.loop (α := { i : Nat // i ≤ Ds.length }) (fun z => [(122, .sl .none 1 (leadsR Es Ds.length Es.length)), (123, .int .i64 (Ds.length : Int)), (124, .int .i64 (z.1 : Int))]) (fun _ => []) (fun z => Ds.length - z.1) ⟨0, Nat.zero_le _⟩ ⟨.refl _, intDLe (by rw [hll]), .refl _, trivial⟩ trivial ?_
          rintro ⟨i, hi⟩
          try dsimp only
          refine Tri.seq ?_
          refine Tri.region ti2_ok ?_
          conv => whnf
          refine Tri.seq ?_
          refine Tri.cond (decide ((i : Int) < (Ds.length : Int))) rfl (fun hc => ?_) (fun hc => ?_)
          · refine Tri.skip ?_
            conv => whnf
            have hia : i < Ds.length := by simpa using hc
            have hg := leadsR_get (E := Es) (j := Es.length) hia
            rw [List.take_length, hLead i hia] at hg
            refine Tri.seq ?_
            refine Tri.block ?_
            refine Tri.seq ?_
            refine Tri.region ti2_ok ?_
            conv => whnf
            refine ⟨fun _ => ⟨Int.natCast_nonneg _, by rw [hll]; exact of_decide_eq_true hc⟩, ?_⟩
            conv => whnf
            refine ⟨_, fun _ => hg, ?_⟩
            conv => whnf
            refine Tri.seq ?_
            refine Tri.region ti2_ok ?_
            conv => whnf
            refine ⟨fun h => h, ?_⟩
            conv => whnf
            refine ⟨fun h0 h => by first | exact h | (rw [h]; rfl) | (rw [h0, h]; rfl), ?_⟩
            conv => whnf
            refine Tri.cond _ rfl (fun hc => ?_) (fun hc => ?_)
            · exfalso
              by_cases h0 : i = 0 <;> simp [h0] at hc
            · refine Tri.skip ?_
              conv => whnf
              refine Tri.region ti2_ok ?_
              conv => whnf
              refine .inl ⟨fun _ => by simp [InR]; omega, ?_⟩
              conv => whnf
              exact ⟨⟨i + 1, hia⟩, by show _ - (i + 1) < _ - i; omega, ⟨.refl _, .refl _, .refl _, trivial⟩, trivial⟩
          · refine Tri.exit ?_
            conv => whnf
            refine Tri.seq ?_
            refine Tri.region ti2_ok ?_
            conv => whnf
            refine Tri.ret ?_
            conv => whnf
            exact .refl _
end Go.Tame.V
