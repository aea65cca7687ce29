/- A program logic of my own over the model, and contracts of this program's functions by it: part 3. No conditions of its own: each theorem states its own. -/
import Derived.Test.YtggomolcfgmdkaaGreatDoorL2
set_option linter.unnecessarySimpa false
set_option linter.unusedSimpArgs false
set_option linter.unusedVariables false
/- A row that stands from here on, as a kept variable's cell. No program's text. -/
namespace Go.Tame
open Go Go.RowKit

variable {P : Program} {W0 : World} {nt : Nat} {σ : DSt} {K : DExit → DSt → Prop}

theorem FR.commit {Γ : Ctx P W0 nt} {C : Nat → Nat} {a : Act} {w : World} (hf : FR Γ w C σ a) (s : Nat) {v : Value} {xs : List D} {k e : Nat} (hs : σ.H s = some (.row v xs k e)) (σ' : DSt)
    (ht : ∀ w C, Rep w C (.sl (.own s v) k xs) v → ∀ j u, Rep w C (σ.t j) u → Rep w C (σ'.t j) u) (hh : ∀ j o, σ'.H j = some o → (j = s ∧ o = .own v xs.length k e) ∨ (j ≠ s ∧ σ.H j = some o)) :
    ∃ C', Rep w C' (.sl (.own s v) k xs) v ∧ FR Γ w C' σ' a := by
  obtain ⟨a', cap, hv, hc, hm, hk, hbl, hw⟩ := hf.heap.obj s _ hs
  by_cases h0 : 0 < cap
  · obtain ⟨b, vs, rfl, hb, hsz, hC, hr⟩ := hw h0
    have huse : HObj.uses (.row v xs k e) b := ⟨_, cap, hv, h0⟩
    have hext : Ext w C w (upd C b (xs.length * k)) := ⟨Nat.le_refl _, fun x _ => upd_le C b _ (by omega) x, fun _ _ _ _ => rfl⟩
    have hst : Step (fun x => x = b) w C w (upd C b (xs.length * k)) := ⟨hext, rfl, rfl, rfl, fun x _ hx => ⟨rfl, upd_ne _ _ hx⟩⟩
    have hrow : Rep w (upd C b (xs.length * k)) (.sl (.own s v) k xs) v := by
      have := rep_row (w := w) (C := upd C b (xs.length * k)) (tg := .own s v) (k := k) (xs := xs) (vs := vs.toList) (b := b) (e := e) (fz := (0, 0)) (cap := cap) hb hk hc hm (by rw [upd_same]; exact Nat.le_refl _)
        (fun j d hd => by obtain ⟨u, h1, h2, h3⟩ := hr j d hd; exact ⟨u, by simpa using h1, h2.ext hext, h3⟩) hv.symm
      rw [hv] at this ⊢; exact this
    refine ⟨upd C b (xs.length * k), hrow, ⟨fun j => ht _ _ hrow j _ ((hf.tmps j).ext hext), ⟨fun j o ho => ?_, fun j j' o o' x hne h1 h2 hu hu' => ?_, fun j o x ho hu => ?_⟩, hf.size, hf.defers, ?_⟩⟩
    · rcases hh j o ho with ⟨rfl, rfl⟩ | ⟨hj, ho⟩
      · exact ⟨_, cap, hv, hc, hm, fun _ => ⟨b, vs, rfl, hb, hsz, upd_same _ _ _⟩⟩
      · exact (hf.heap.obj j o ho).keep hext fun x hx => ⟨rfl, upd_ne _ _ fun e => by subst e; exact hf.heap.inj j s o _ x hj ho hs hx huse⟩
    · have key : ∀ j o, σ'.H j = some o → o.uses x → ∃ o2, σ.H j = some o2 ∧ o2.uses x := fun j o ho hu => by
        rcases hh j o ho with ⟨rfl, rfl⟩ | ⟨_, ho⟩
        · obtain ⟨o', cap', h3, h4⟩ := hu
          rw [hv] at h3
          have := slice_uses h3; subst this
          exact ⟨_, hs, huse⟩
        · exact ⟨o, ho, hu⟩
      obtain ⟨o2, h3, h4⟩ := key j o h1 hu
      obtain ⟨o3, h5, h6⟩ := key j' o' h2 hu'
      exact hf.heap.inj j j' o2 o3 x hne h3 h5 h4 h6
    · rcases hh j o ho with ⟨rfl, rfl⟩ | ⟨_, ho⟩
      · obtain ⟨o', cap', h3, h4⟩ := hu
        rw [hv] at h3
        have := slice_uses h3; subst this
        exact hf.heap.foot _ _ _ hs huse
      · exact hf.heap.foot j o x ho hu
    · refine hf.step.trans hst fun x hx hxb => ?_
      subst hxb
      rcases hf.heap.foot s _ _ hs huse with h1 | h1
      · exact h1
      · omega
  · have hx : xs = [] := List.eq_nil_of_length_eq_zero (by omega)
    subst hx
    have hcap : cap = 0 := by omega
    subst hcap
    have hrow : Rep w C (.sl (.own s v) k []) v := by
      cases a' with
      | none => rw [hv]; exact .sl0 _ _ none rfl
      | some ad =>
        obtain ⟨b, rfl, hb⟩ := hbl ad rfl
        rw [hv]
        exact .sl _ _ [] b 0 0 (fun _ => undef) rfl hb (Nat.le_refl _) (Nat.zero_le _) (fun x hx => by cases hx) (by simp) (fun j d hd => by simp [flat] at hd) (fun j d hd => by simp [flat] at hd) (fun j d hd => by simp [flat] at hd)
    have hnu : ∀ j o x, σ'.H j = some o → o.uses x → j ≠ s ∧ σ.H j = some o := fun j o x ho hu => by
      rcases hh j o ho with ⟨rfl, rfl⟩ | h2
      · obtain ⟨o', cap', h3, h4⟩ := hu
        rw [hv] at h3
        simp only [Value.slice.injEq] at h3
        simp at h4; omega
      · exact h2
    refine ⟨C, hrow, ⟨fun j => ht _ _ hrow j _ (hf.tmps j), ⟨fun j o ho => ?_, fun j j' o o' x hne h1 h2 hu hu' => ?_, fun j o x ho hu => ?_⟩, hf.size, hf.defers, hf.step⟩⟩
    · rcases hh j o ho with ⟨rfl, rfl⟩ | ⟨hj, ho⟩
      · exact ⟨_, 0, hv, Nat.le_refl _, Nat.zero_le _, fun h => absurd h (by simp)⟩
      · exact hf.heap.obj j o ho
    · exact hf.heap.inj j j' o o' x hne (hnu j o x h1 hu).2 (hnu j' o' x h2 hu').2 hu hu'
    · exact hf.heap.foot j o x (hnu j o x ho hu).2 hu

/-- The row that a kept variable's cell holds stands from here on. -/
theorem Tri.commitBox {Γ : Ctx P W0 nt} {c : Code} (s q i : Nat) {v : Value} {xs cs : List D} {b k e : Nat} (hs : σ.H s = some (.row v xs k e)) (hq : σ.H q = some (.box b cs)) (hsq : q ≠ s) (hi : cs[i]? = some (.raw v))
    (h : Tri Γ c ((σ.setH s none).setH q (some (.box b (setAt cs i (.sl .none k xs))))) K) : Tri Γ c σ K :=
  ⟨fun a w C hf => by
    obtain ⟨C', hrow, hf'⟩ := hf.commit s hs (σ.setH s none) (fun w C _ j u hr => hr) (fun j o ho => by
      by_cases hj : j = s
      · subst hj; rw [setH_same] at ho; cases ho
      · rw [setH_ne σ none hj] at ho; exact .inr ⟨hj, ho⟩)
    have hq' : (σ.setH s none).H q = some (.box b cs) := by rw [setH_ne σ none hsq]; exact hq
    exact h.run a w C' (hf'.reBox q hq' fun us hr => RepL.cell hr fun u hu => (RepL.raw_get hr hi hu) ▸ hrow.untag)⟩
end Go.Tame
