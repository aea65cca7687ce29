/- A program logic of my own over the model, and contracts of this program's functions by it: part 6. No conditions of its own: each theorem states its own. -/
import Derived.Test.YtpkeldhgfdeebaaGreatDoorL5
set_option linter.unnecessarySimpa false
set_option linter.unusedSimpArgs false
set_option linter.unusedVariables false
/- Readings of further arguments: lists of nodes. -/
namespace Go.Tame.V
open Go Go.Proofs Go.RowKit Go.ChangeShapes Go.Deep Go.WideShapes
open YtpkeldhgfdeebaaGreatDoor (Rows.uptoBulk Rows.uptoBulkAll)
set_option maxRecDepth 100000
variable {H : Type} {enc0 : TypeId × Value → H} {W : World}
theorem rd_nodes (n : Nat) : Rd enc0 Tryz.prog W n 22 (fun l : List NV => .sl .none 12 (l.map enc)) (goodS fun s d => 2 * s.name.length + 2 + sz s ≤ 2 * bulk d) :=
  Rd.slice (f := enc) (k := 12) Tryz.underlying22 (by kernel_rfl) (by omega) (fun a => by rw [enc_eq]; exact ⟨rfl, rfl⟩) fun m _ => rd_node (m + 1) m (Nat.lt_succ_self _)
theorem szL_mem {l : List NV} {k : NV} (h : k ∈ l) : k.name.length ≤ szL l ∧ sz k ≤ szL l := by
  induction l with
  | nil => cases h
  | cons a r ih =>
    simp only [szL]
    rcases List.mem_cons.1 h with rfl | h
    · constructor <;> omega
    · have := ih h; constructor <;> omega
/-- Nodes that came in. -/
theorem open_nodes {v : Value} {d : DataW H} {p : List MemPlace} {base : Nat} (hv : Value.okWide Tryz.prog W .any base 22 v) (h : DataW.Trod enc0 Tryz.prog W 0 (fun _ => true) true 22 v d p) :
    ∃ l : List NV, Rep W (allC W) (.sl .none 12 (l.map enc)) v ∧ 2 * l.length ≤ 2 * bulk d ∧ szL l ≤ 2 * bulk d := by
  obtain ⟨fuel, hf⟩ := h
  obtain ⟨a, l, c, rfl⟩ := okWide_slice Tryz.underlying22 hv
  obtain ⟨l, hr, hg⟩ := rd_nodes fuel _ _ hf
  have h1 := sum_goodS hg
  rw [← szL_sum] at h1
  replace h1 : szL l ≤ 2 * bulk d := h1
  have h2 := szL_len l
  exact ⟨l, hr.head, by omega, h1⟩
end Go.Tame.V
/- Laws: NamingViews, NamingPaths. By program (mk.py). -/
namespace Go.Tame.V
open Go Go.Proofs
variable {W0 : World}
set_option maxRecDepth 10000
set_option linter.unusedVariables false
set_option linter.unusedSimpArgs false

end Go.Tame.V
/- Law: NamingAgain. By program (mk.py). -/
namespace Go.Tame.V
open Go Go.Proofs
variable {W0 : World}
set_option maxRecDepth 10000
set_option linter.unusedVariables false
set_option linter.unusedSimpArgs false

end Go.Tame.V
/- Paths there and back: the plain law of NamingInverse. Plain. -/
namespace Go.Tame.V
open Go Go.Proofs
set_option maxRecDepth 10000
set_option linter.unusedVariables false
set_option linter.unusedSimpArgs false

section
variable (nm : List NV → List (List UInt8)) (v : Int)
end
end Go.Tame.V
/- Law: NamingInverse. By program (mk.py). -/
namespace Go.Tame.V
open Go Go.Proofs
variable {W0 : World}
set_option maxRecDepth 10000
set_option linter.unusedVariables false
set_option linter.unusedSimpArgs false

end Go.Tame.V
/- Contracts: Clone and Delete with rows that may be written. By program (mkn16.py, mk.py). -/
namespace Go.Tame.V
open Go Go.Proofs
variable {W0 : World}
set_option maxRecDepth 10000
set_option linter.unusedVariables false
set_option linter.unusedSimpArgs false

theorem addr_add (b n : Nat) : ((⟨b, 0, none⟩ : Addr).add n) = ⟨b, n, none⟩ := by
  cases n with
  | zero => rfl
  | succ n => simp [Addr.add]

theorem G34r (xs : List D) (hk : ∀ x ∈ xs, x.cells.length = 12) (h0 : 0 < xs.length) (h : xs.length < 1000000) : DCall Tryz.prog W0 34 [.sl .none 12 xs] Heap.none fun d H' => ∃ v, d = .raw v ∧ H' = look [(2000, .row v xs 12 25)] := by
  refine DCall.intro ti_ok Tryz.func34 rfl (by decide +kernel) Tryz.ntmps34 rfl fun Γ => ?_
  refine Tri.seq ?_
  refine Tri.region ti_ok ?_
  conv => whnf
  refine Tri.seq ?_
  refine Tri.seq ?_
  refine Tri.regionX ti_ok ?_
  conv => whnf
  refine .inr (XOp.nilEq (el := 25) ti_ok rfl rfl rfl fun nb hnb => ?_)
  conv => whnf
  refine Tri.cond _ rfl (fun hc => ?_) (fun hc => ?_)
  · refine Tri.seq ?_
    refine Tri.region ti_ok ?_
    conv => whnf
    refine Tri.ret ?_
    conv => whnf
    exfalso
    have := hnb hc
    rw [this] at h0; simp at h0
  · refine Tri.skip ?_
    conv => whnf
    refine Tri.seq ?_
    refine Tri.regionG ti_ok ?_
    conv => whnf
    refine ⟨rfl, trivial, .inr (XOp.buildRow (q := 100) ti_ok rfl rfl rfl rfl rfl rfl ?_)⟩
    conv => whnf
    refine ⟨rfl, trivial, fun v0 => ?_⟩
    conv => whnf
    refine ⟨rfl, trivial, .inl ?_⟩
    conv => whnf
    refine ⟨rfl, trivial, .inr (XOp.rowAppend ti_ok 100 rfl rfl rfl (fun h => by cases h) rfl rfl rfl h0 (by show (0 + _) * 152 ≤ _; omega) (by show 0 + _ ≤ _; omega) fun aa m cap => ?_)⟩
    conv => whnf
    refine ⟨rfl, trivial, .inl ?_⟩
    refine Tri.retK [(2, .raw (.slice aa m cap))] [(2000, .row (.slice aa m cap) xs 12 25)] [(2000, 7)] ⟨⟨.refl _, trivial⟩, rfl, rfl, congrArg (fun z => some (HObj.row (.slice aa m cap) z 12 25)) (List.nil_append _), trivial⟩ ?_
    conv => whnf
    exact ⟨_, .refl _, _, rfl, rfl⟩
theorem G36r (xs : List D) (hk : ∀ x ∈ xs, x.cells.length = 1) (h0 : 0 < xs.length) (h : xs.length < 1000000) : DCall Tryz.prog W0 36 [.sl .none 1 xs] Heap.none fun d H' => ∃ v, d = .raw v ∧ H' = look [(2000, .row v xs 1 9)] := by
  refine DCall.intro ti_ok Tryz.func36 rfl (by decide +kernel) Tryz.ntmps36 rfl fun Γ => ?_
  refine Tri.seq ?_
  refine Tri.region ti_ok ?_
  conv => whnf
  refine Tri.seq ?_
  refine Tri.seq ?_
  refine Tri.regionX ti_ok ?_
  conv => whnf
  refine .inr (XOp.nilEq (el := 9) ti_ok rfl rfl rfl fun nb hnb => ?_)
  conv => whnf
  refine Tri.cond _ rfl (fun hc => ?_) (fun hc => ?_)
  · refine Tri.seq ?_
    refine Tri.region ti_ok ?_
    conv => whnf
    refine Tri.ret ?_
    conv => whnf
    exfalso
    have := hnb hc
    rw [this] at h0; simp at h0
  · refine Tri.skip ?_
    conv => whnf
    refine Tri.seq ?_
    refine Tri.regionG ti_ok ?_
    conv => whnf
    refine ⟨rfl, trivial, .inr (XOp.buildRow (q := 100) ti_ok rfl rfl rfl rfl rfl rfl ?_)⟩
    conv => whnf
    refine ⟨rfl, trivial, fun v0 => ?_⟩
    conv => whnf
    refine ⟨rfl, trivial, .inl ?_⟩
    conv => whnf
    refine ⟨rfl, trivial, .inr (XOp.rowAppend ti_ok 100 rfl rfl rfl (fun h => by cases h) rfl rfl rfl h0 (by show (0 + _) * 16 ≤ _; omega) (by show 0 + _ ≤ _; omega) fun aa m cap => ?_)⟩
    conv => whnf
    refine ⟨rfl, trivial, .inl ?_⟩
    refine Tri.retK [(2, .raw (.slice aa m cap))] [(2000, .row (.slice aa m cap) xs 1 9)] [(2000, 7)] ⟨⟨.refl _, trivial⟩, rfl, rfl, congrArg (fun z => some (HObj.row (.slice aa m cap) z 1 9)) (List.nil_append _), trivial⟩ ?_
    conv => whnf
    exact ⟨_, .refl _, _, rfl, rfl⟩
theorem G37 (xs : List D) (v : Value) (i j : Nat) (hij : i < j) (hj : j ≤ xs.length) : DCall Tryz.prog W0 37 [.raw v, .int .i64 (i : Int), .int .i64 (j : Int)] (look [(2000, .row v xs 12 25)]) fun d H' => ∃ v, d = .raw v ∧ H' = look [(2000, .row v (xs.take i ++ xs.drop j) 12 25)] := by
  refine DCall.intro ti_ok Tryz.func37 rfl (by decide +kernel) Tryz.ntmps37 rfl fun Γ => ?_
  refine Tri.rowKnow 2000 rfl (by omega) fun b cap hv hcl hcm => ?_
  subst hv
  have hc0 : (if cap = 0 then (some ⟨b, 0, none⟩ : Option Addr) else Option.map (fun x : Addr => x.add (0 * 12)) (some ⟨b, 0, none⟩)) = some ⟨b, 0, none⟩ := by rw [if_neg (by omega)]; rfl
  obtain ⟨ad, hcj, had⟩ : ∃ ad, (if cap = j then (some ⟨b, 0, none⟩ : Option Addr) else Option.map (fun x : Addr => x.add (j * 12)) (some ⟨b, 0, none⟩)) = some ad ∧ (xs.length - j = 0 ∨ ad = ⟨b, j * 12, none⟩) := by
    by_cases h : cap = j
    · exact ⟨_, by rw [if_pos h], .inl (by omega)⟩
    · exact ⟨_, by rw [if_neg h]; rfl, .inr (addr_add b _)⟩
  refine Tri.seq ?_
  refine Tri.region ti_ok ?_
  conv => whnf
  refine Tri.seq ?_
  refine Tri.regionX ti_ok ?_
  conv => whnf
  refine .inr (XOp.cut3 ti_ok rfl rfl rfl rfl (.inr ⟨_, _, rfl, rfl⟩) rfl rfl (by omega) (by omega) (by omega) fun u => ?_)
  conv => whnf
  refine Tri.seq ?_
  refine Tri.seq ?_
  refine Tri.region ti_ok ?_
  conv => whnf
  refine Tri.cond _ rfl (fun hc => ?_) (fun hc => ?_)
  · refine Tri.seq ?_
    refine Tri.region ti_ok ?_
    conv => whnf
    refine Tri.ret ?_
    conv => whnf
    exfalso
    simp at hc; omega
  · refine Tri.skip ?_
    conv => whnf
    refine Tri.seq ?_
    refine Tri.regionX ti_ok ?_
    conv => whnf
    refine Tri.seq ?_
    refine Tri.bitsI ti_ok mixed (α := Unit) (fun _ f => [(1, .int .i64 (i : Int)), (2, .int .i64 (j : Int)), (7, .int .i64 xs.length), (20, bif f 0 then .raw (.slice (some ⟨b, 0, none⟩) xs.length cap) else .any), (21, bif f 1 then .int .i64 (i : Int) else .any), (22, bif f 2 then .raw (.slice (some ⟨b, 0, none⟩) i cap) else .any), (23, bif f 3 then .raw (.slice (some ⟨b, 0, none⟩) xs.length cap) else .any), (24, bif f 4 then .int .i64 (j : Int) else .any), (25, bif f 5 then .raw (.slice (some ad) (xs.length - j) (cap - j)) else .any), (26, bif f 6 then .raw (.slice (some ⟨b, 0, none⟩) (i + (xs.length - j)) cap) else .any), (0, bif f 7 then .raw (.slice (some ⟨b, 0, none⟩) (i + (xs.length - j)) cap) else .raw (.slice (some ⟨b, 0, none⟩) xs.length cap))])
      (fun _ f => [(2000, bif f 6 then .row (.slice (some ⟨b, 0, none⟩) (i + (xs.length - j)) cap) (xs.take i ++ xs.drop j) 12 25 else .row (.slice (some ⟨b, 0, none⟩) xs.length cap) xs 12 25)]) (by decide +kernel) () ?_ ?_ ?_ ?_
    · exact ⟨.refl _, .refl _, .refl _, .any _, .any _, .any _, .any _, .any _, .any _, .any _, .refl _, trivial⟩
    · exact ⟨rfl, trivial⟩
    · conv => whnf
      refine ⟨fun _ f hI => ?_, ?_⟩
      · obtain ⟨f, rfl⟩ := off f 7 (hI.no 7 0 rfl rfl)
        conv => whnf
        exact ⟨(), ⟨.refl _, .refl _, .refl _, .refl _, .refl _, .refl _, .refl _, .refl _, .refl _, .refl _, .refl _, trivial⟩, rfl, trivial⟩
      refine ⟨fun _ f hI => ?_, ?_⟩
      · conv => whnf
        exact ⟨(), ⟨.refl _, .refl _, .refl _, .refl _, .refl _, .refl _, .refl _, .refl _, .refl _, .refl _, .refl _, trivial⟩, rfl, trivial⟩
      refine ⟨fun _ f hI => ?_, ?_⟩
      · conv => whnf
        refine .inr (XOp.cut ti_ok (l := 0) (r := i) rfl rfl rfl rfl (.inl ⟨rfl, rfl⟩) (.inr ⟨_, _, rfl, rfl⟩) (by omega) (by omega) ?_)
        rw [hc0]
        exact ⟨(), ⟨.refl _, .refl _, .refl _, .refl _, .refl _, .refl _, .refl _, .refl _, .refl _, .refl _, .refl _, trivial⟩, rfl, trivial⟩
      refine ⟨fun _ f hI => ?_, ?_⟩
      · obtain ⟨f, rfl⟩ := off f 7 (hI.no 7 3 rfl rfl)
        conv => whnf
        exact ⟨(), ⟨.refl _, .refl _, .refl _, .refl _, .refl _, .refl _, .refl _, .refl _, .refl _, .refl _, .refl _, trivial⟩, rfl, trivial⟩
      refine ⟨fun _ f hI => ?_, ?_⟩
      · conv => whnf
        exact ⟨(), ⟨.refl _, .refl _, .refl _, .refl _, .refl _, .refl _, .refl _, .refl _, .refl _, .refl _, .refl _, trivial⟩, rfl, trivial⟩
      refine ⟨fun _ f hI => ?_, ?_⟩
      · conv => whnf
        refine .inr (XOp.cut ti_ok (l := j) (r := xs.length) rfl rfl rfl rfl (.inr ⟨_, _, rfl, rfl⟩) (.inl ⟨rfl, rfl⟩) (by omega) (by omega) ?_)
        rw [show (if cap = j then (some ⟨b, 0, none⟩ : Option Addr) else _) = some ad from hcj]
        exact ⟨(), ⟨.refl _, .refl _, .refl _, .refl _, .refl _, .refl _, .refl _, .refl _, .refl _, .refl _, .refl _, trivial⟩, rfl, trivial⟩
      refine ⟨fun _ f hI => ?_, ?_⟩
      · conv => whnf
        refine .inr (XOp.joinRow ti_ok 2000 rfl rfl rfl rfl rfl rfl rfl had (by omega) (by omega) (by omega) ?_)
        exact ⟨(), ⟨.refl _, .refl _, .refl _, .refl _, .refl _, .refl _, .refl _, .refl _, .refl _, .refl _, .refl _, trivial⟩, rfl, trivial⟩
      refine ⟨fun _ f hI => ?_, ?_⟩
      · conv => whnf
        exact ⟨(), ⟨.refl _, .refl _, .refl _, .refl _, .refl _, .refl _, .refl _, .refl _, .refl _, .refl _, .refl _, trivial⟩, rfl, trivial⟩
      exact trivial
    · intro _ f hf
      conv => whnf
      refine Tri.forgetK [(0, .raw (.slice (some ⟨b, 0, none⟩) (i + (xs.length - j)) cap)), (7, .int .i64 xs.length)] [(2000, .row (.slice (some ⟨b, 0, none⟩) (i + (xs.length - j)) cap) (xs.take i ++ xs.drop j) 12 25)] [(2000, 2000)] ⟨⟨?_, .refl _, trivial⟩, rfl, rfl, ?_, trivial⟩ ?_
      · show DLe (bif f 7 then _ else _) _
        rw [hf 7 (by decide +kernel)]; exact .refl _
      · show some (bif f 6 then _ else _) = _
        rw [hf 6 (by decide +kernel)]; rfl
      have hl2 : (xs.take i ++ xs.drop j).length = i + (xs.length - j) := by simp; omega
      have hn2 : ¬ cap = i + (xs.length - j) := by omega
      rw [← hl2] at hn2 ⊢
      refine Tri.seq ?_
      refine Tri.regionX ti_ok ?_
      conv => whnf
      refine .inr (XOp.cut ti_ok (l := (xs.take i ++ xs.drop j).length) (r := xs.length) rfl rfl rfl rfl (.inr ⟨_, _, rfl, rfl⟩) (.inr ⟨_, _, rfl, rfl⟩) (by omega) (by omega) ?_)
      conv => whnf
      refine .inr (XOp.clearRow ti_ok 2000 (m := xs.length - (xs.take i ++ xs.drop j).length) (cy := cap - (xs.take i ++ xs.drop j).length) (b := b) (cap := cap) (xs := xs.take i ++ xs.drop j) (l := (xs.take i ++ xs.drop j).length) (ad := ⟨b, (xs.take i ++ xs.drop j).length * 12, none⟩) rfl rfl rfl rfl rfl (fun z hz => by cases hz; rfl) ?_ rfl rfl (by omega) (Nat.le_refl _) (by omega) ?_)
      · refine Eq.trans (congrArg (fun z : Option Addr => D.raw (.slice z _ _)) (if_neg hn2)) ?_
        exact congrArg (fun z : Addr => D.raw (.slice (some z) _ _)) (addr_add b _)
      conv => whnf
      refine Tri.seq ?_
      refine Tri.region ti_ok ?_
      conv => whnf
      refine Tri.retK [(6, .raw (.slice (some ⟨b, 0, none⟩) (xs.take i ++ xs.drop j).length cap))] [(2000, .row (.slice (some ⟨b, 0, none⟩) (xs.take i ++ xs.drop j).length cap) (xs.take i ++ xs.drop j) 12 25)] [(2000, 2000)] ⟨⟨.refl _, trivial⟩, rfl, rfl, rfl, trivial⟩ ?_
      conv => whnf
      exact ⟨_, .refl _, _, rfl, rfl⟩
theorem G38 (xs : List D) (v : Value) (i j : Nat) (hij : i < j) (hj : j ≤ xs.length) : DCall Tryz.prog W0 38 [.raw v, .int .i64 (i : Int), .int .i64 (j : Int)] (look [(2000, .row v xs 1 9)]) fun d H' => ∃ v, d = .raw v ∧ H' = look [(2000, .row v (xs.take i ++ xs.drop j) 1 9)] := by
  refine DCall.intro ti_ok Tryz.func38 rfl (by decide +kernel) Tryz.ntmps38 rfl fun Γ => ?_
  refine Tri.rowKnow 2000 rfl (by omega) fun b cap hv hcl hcm => ?_
  subst hv
  have hc0 : (if cap = 0 then (some ⟨b, 0, none⟩ : Option Addr) else Option.map (fun x : Addr => x.add (0 * 1)) (some ⟨b, 0, none⟩)) = some ⟨b, 0, none⟩ := by rw [if_neg (by omega)]; rfl
  obtain ⟨ad, hcj, had⟩ : ∃ ad, (if cap = j then (some ⟨b, 0, none⟩ : Option Addr) else Option.map (fun x : Addr => x.add (j * 1)) (some ⟨b, 0, none⟩)) = some ad ∧ (xs.length - j = 0 ∨ ad = ⟨b, j * 1, none⟩) := by
    by_cases h : cap = j
    · exact ⟨_, by rw [if_pos h], .inl (by omega)⟩
    · exact ⟨_, by rw [if_neg h]; rfl, .inr (addr_add b _)⟩
  refine Tri.seq ?_
  refine Tri.region ti_ok ?_
  conv => whnf
  refine Tri.seq ?_
  refine Tri.regionX ti_ok ?_
  conv => whnf
  refine .inr (XOp.cut3 ti_ok rfl rfl rfl rfl (.inr ⟨_, _, rfl, rfl⟩) rfl rfl (by omega) (by omega) (by omega) fun u => ?_)
  conv => whnf
  refine Tri.seq ?_
  refine Tri.seq ?_
  refine Tri.region ti_ok ?_
  conv => whnf
  refine Tri.cond _ rfl (fun hc => ?_) (fun hc => ?_)
  · refine Tri.seq ?_
    refine Tri.region ti_ok ?_
    conv => whnf
    refine Tri.ret ?_
    conv => whnf
    exfalso
    simp at hc; omega
  · refine Tri.skip ?_
    conv => whnf
    refine Tri.seq ?_
    refine Tri.regionX ti_ok ?_
    conv => whnf
    refine Tri.seq ?_
    refine Tri.bitsI ti_ok mixed (α := Unit) (fun _ f => [(1, .int .i64 (i : Int)), (2, .int .i64 (j : Int)), (7, .int .i64 xs.length), (20, bif f 0 then .raw (.slice (some ⟨b, 0, none⟩) xs.length cap) else .any), (21, bif f 1 then .int .i64 (i : Int) else .any), (22, bif f 2 then .raw (.slice (some ⟨b, 0, none⟩) i cap) else .any), (23, bif f 3 then .raw (.slice (some ⟨b, 0, none⟩) xs.length cap) else .any), (24, bif f 4 then .int .i64 (j : Int) else .any), (25, bif f 5 then .raw (.slice (some ad) (xs.length - j) (cap - j)) else .any), (26, bif f 6 then .raw (.slice (some ⟨b, 0, none⟩) (i + (xs.length - j)) cap) else .any), (0, bif f 7 then .raw (.slice (some ⟨b, 0, none⟩) (i + (xs.length - j)) cap) else .raw (.slice (some ⟨b, 0, none⟩) xs.length cap))])
      (fun _ f => [(2000, bif f 6 then .row (.slice (some ⟨b, 0, none⟩) (i + (xs.length - j)) cap) (xs.take i ++ xs.drop j) 1 9 else .row (.slice (some ⟨b, 0, none⟩) xs.length cap) xs 1 9)]) (by decide +kernel) () ?_ ?_ ?_ ?_
    · exact ⟨.refl _, .refl _, .refl _, .any _, .any _, .any _, .any _, .any _, .any _, .any _, .refl _, trivial⟩
    · exact ⟨rfl, trivial⟩
    · conv => whnf
      refine ⟨fun _ f hI => ?_, ?_⟩
      · obtain ⟨f, rfl⟩ := off f 7 (hI.no 7 0 rfl rfl)
        conv => whnf
        exact ⟨(), ⟨.refl _, .refl _, .refl _, .refl _, .refl _, .refl _, .refl _, .refl _, .refl _, .refl _, .refl _, trivial⟩, rfl, trivial⟩
      refine ⟨fun _ f hI => ?_, ?_⟩
      · conv => whnf
        exact ⟨(), ⟨.refl _, .refl _, .refl _, .refl _, .refl _, .refl _, .refl _, .refl _, .refl _, .refl _, .refl _, trivial⟩, rfl, trivial⟩
      refine ⟨fun _ f hI => ?_, ?_⟩
      · conv => whnf
        refine .inr (XOp.cut ti_ok (l := 0) (r := i) rfl rfl rfl rfl (.inl ⟨rfl, rfl⟩) (.inr ⟨_, _, rfl, rfl⟩) (by omega) (by omega) ?_)
        rw [hc0]
        exact ⟨(), ⟨.refl _, .refl _, .refl _, .refl _, .refl _, .refl _, .refl _, .refl _, .refl _, .refl _, .refl _, trivial⟩, rfl, trivial⟩
      refine ⟨fun _ f hI => ?_, ?_⟩
      · obtain ⟨f, rfl⟩ := off f 7 (hI.no 7 3 rfl rfl)
        conv => whnf
        exact ⟨(), ⟨.refl _, .refl _, .refl _, .refl _, .refl _, .refl _, .refl _, .refl _, .refl _, .refl _, .refl _, trivial⟩, rfl, trivial⟩
      refine ⟨fun _ f hI => ?_, ?_⟩
      · conv => whnf
        exact ⟨(), ⟨.refl _, .refl _, .refl _, .refl _, .refl _, .refl _, .refl _, .refl _, .refl _, .refl _, .refl _, trivial⟩, rfl, trivial⟩
      refine ⟨fun _ f hI => ?_, ?_⟩
      · conv => whnf
        refine .inr (XOp.cut ti_ok (l := j) (r := xs.length) rfl rfl rfl rfl (.inr ⟨_, _, rfl, rfl⟩) (.inl ⟨rfl, rfl⟩) (by omega) (by omega) ?_)
        rw [show (if cap = j then (some ⟨b, 0, none⟩ : Option Addr) else _) = some ad from hcj]
        exact ⟨(), ⟨.refl _, .refl _, .refl _, .refl _, .refl _, .refl _, .refl _, .refl _, .refl _, .refl _, .refl _, trivial⟩, rfl, trivial⟩
      refine ⟨fun _ f hI => ?_, ?_⟩
      · conv => whnf
        refine .inr (XOp.joinRow ti_ok 2000 rfl rfl rfl rfl rfl rfl rfl had (by omega) (by omega) (by omega) ?_)
        exact ⟨(), ⟨.refl _, .refl _, .refl _, .refl _, .refl _, .refl _, .refl _, .refl _, .refl _, .refl _, .refl _, trivial⟩, rfl, trivial⟩
      refine ⟨fun _ f hI => ?_, ?_⟩
      · conv => whnf
        exact ⟨(), ⟨.refl _, .refl _, .refl _, .refl _, .refl _, .refl _, .refl _, .refl _, .refl _, .refl _, .refl _, trivial⟩, rfl, trivial⟩
      exact trivial
    · intro _ f hf
      conv => whnf
      refine Tri.forgetK [(0, .raw (.slice (some ⟨b, 0, none⟩) (i + (xs.length - j)) cap)), (7, .int .i64 xs.length)] [(2000, .row (.slice (some ⟨b, 0, none⟩) (i + (xs.length - j)) cap) (xs.take i ++ xs.drop j) 1 9)] [(2000, 2000)] ⟨⟨?_, .refl _, trivial⟩, rfl, rfl, ?_, trivial⟩ ?_
      · show DLe (bif f 7 then _ else _) _
        rw [hf 7 (by decide +kernel)]; exact .refl _
      · show some (bif f 6 then _ else _) = _
        rw [hf 6 (by decide +kernel)]; rfl
      have hl2 : (xs.take i ++ xs.drop j).length = i + (xs.length - j) := by simp; omega
      have hn2 : ¬ cap = i + (xs.length - j) := by omega
      rw [← hl2] at hn2 ⊢
      refine Tri.seq ?_
      refine Tri.regionX ti_ok ?_
      conv => whnf
      refine .inr (XOp.cut ti_ok (l := (xs.take i ++ xs.drop j).length) (r := xs.length) rfl rfl rfl rfl (.inr ⟨_, _, rfl, rfl⟩) (.inr ⟨_, _, rfl, rfl⟩) (by omega) (by omega) ?_)
      conv => whnf
      refine .inr (XOp.clearRow ti_ok 2000 (m := xs.length - (xs.take i ++ xs.drop j).length) (cy := cap - (xs.take i ++ xs.drop j).length) (b := b) (cap := cap) (xs := xs.take i ++ xs.drop j) (l := (xs.take i ++ xs.drop j).length) (ad := ⟨b, (xs.take i ++ xs.drop j).length * 1, none⟩) rfl rfl rfl rfl rfl (fun z hz => by cases hz; rfl) ?_ rfl rfl (by omega) (Nat.le_refl _) (by omega) ?_)
      · refine Eq.trans (congrArg (fun z : Option Addr => D.raw (.slice z _ _)) (if_neg hn2)) ?_
        exact congrArg (fun z : Addr => D.raw (.slice (some z) _ _)) (addr_add b _)
      conv => whnf
      refine Tri.seq ?_
      refine Tri.region ti_ok ?_
      conv => whnf
      refine Tri.retK [(6, .raw (.slice (some ⟨b, 0, none⟩) (xs.take i ++ xs.drop j).length cap))] [(2000, .row (.slice (some ⟨b, 0, none⟩) (xs.take i ++ xs.drop j).length cap) (xs.take i ++ xs.drop j) 1 9)] [(2000, 2000)] ⟨⟨.refl _, trivial⟩, rfl, rfl, rfl, trivial⟩ ?_
      conv => whnf
      exact ⟨_, .refl _, _, rfl, rfl⟩
end Go.Tame.V
/- The names without the greatest one: the plain law of NamingStable. Plain. -/
namespace Go.Tame.V
open Go Go.Proofs
set_option maxRecDepth 10000
set_option linter.unusedVariables false
set_option linter.unusedSimpArgs false

/-- The place of the greatest name among the first places. -/
def lastIx (kids : List NV) : Nat → Nat
  | 0 => 0
  | i + 1 => if Op.bytesLess (kids.getD (lastIx kids i) default).name (kids.getD i default).name = true then i else lastIx kids i
theorem lastIx_lt (kids : List NV) : ∀ i, 0 < i → lastIx kids i < i
  | 0, h => absurd h (by decide)
  | i + 1, _ => by
    simp only [lastIx]
    split
    · omega
    · rcases Nat.eq_zero_or_pos i with rfl | h
      · simp [lastIx]
      · have := lastIx_lt kids i h; omega
theorem lastIx_le (kids : List NV) (i : Nat) : lastIx kids i ≤ i := by
  rcases Nat.eq_zero_or_pos i with rfl | h
  · simp [lastIx]
  · have := lastIx_lt kids i h; omega
theorem lastIx_max (kids : List NV) : ∀ i, ∀ j, j < i → Op.bytesLess (kids.getD (lastIx kids i) default).name (kids.getD j default).name = false
  | 0, j, h => absurd h (by omega)
  | i + 1, j, h => by
    simp only [lastIx]
    split
    · rename_i hl
      rcases Nat.lt_or_ge j i with hj | hj
      · have h1 := lastIx_max kids i j hj
        cases h2 : Op.bytesLess (kids.getD i default).name (kids.getD j default).name with
        | false => rfl
        | true => rw [bl_trans _ _ _ hl h2] at h1; cases h1
      · have : j = i := by omega
        subst this; exact bl_irrefl _
    · rename_i hl
      rcases Nat.lt_or_ge j i with hj | hj
      · exact lastIx_max kids i j hj
      · have : j = i := by omega
        subst this; simpa using hl

theorem namesR_ok {v : Int} {kids : List NV} (h : (namesR v kids).2 = 0) : viewOk v = true ∧ kids.length ≤ 64 ∧ allOk kids = true ∧ (kids.map NV.name).Nodup ∧ namesR v kids = (namesU v kids, 0) := by
  unfold namesR at h ⊢
  split at h
  · cases h
  · rename_i h1
    split at h
    · cases h
    · rename_i h2
      split at h
      · cases h
      · rename_i h3
        split at h
        · cases h
        · rename_i h4
          rw [if_neg h1, if_neg h2, if_neg h3, if_neg h4]
          exact ⟨by simpa using h1, by omega, by simpa using h3, by simpa using h4, rfl⟩
theorem namesR_of {v : Int} {kids : List NV} (h1 : viewOk v = true) (h2 : kids.length ≤ 64) (h3 : allOk kids = true) (h4 : (kids.map NV.name).Nodup) : namesR v kids = (namesU v kids, 0) := by
  unfold namesR
  rw [if_neg (by rw [h1]; decide), if_neg (by omega), if_neg (by rw [h3]; decide), if_neg (by simpa using h4)]
theorem namesR_bad {v : Int} {kids : List NV} (h : ¬ (namesR v kids).2 = 0) : (namesR v kids).1 = [] := by
  unfold namesR at h ⊢
  split
  · rfl
  · rename_i h1
    split
    · rfl
    · rename_i h2
      split
      · rfl
      · rename_i h3
        split
        · rfl
        · rename_i h4
          rw [if_neg h1, if_neg h2, if_neg h3, if_neg h4] at h; exact absurd rfl h
theorem namesU_len (v : Int) (kids : List NV) : (namesU v kids).length = kids.length := by simp [namesU]

theorem namesG_snoc (v : Int) (S : List NV) (g : NV) : namesG v (S ++ [g]) = namesG v S ++ [pickG v (usedG v S) g] := by
  rw [namesG, usedG_snoc, List.reverse_cons]; rfl

/-- The names of the others do not change. -/
theorem stable {v : Int} {kids : List NV} (h0 : (namesR v kids).2 = 0) {t : Nat} (ht : t < kids.length) (hmax : ∀ j, j < kids.length → Op.bytesLess (kids.getD t default).name (kids.getD j default).name = false) :
    namesR v (kids.eraseIdx t) = ((namesU v kids).eraseIdx t, 0) := by
  obtain ⟨h1, h2, h3, h4, -⟩ := namesR_ok h0
  have hsub : (kids.eraseIdx t).Sublist kids := List.eraseIdx_sublist kids t
  have h4' : ((kids.eraseIdx t).map NV.name).Nodup := (hsub.map NV.name).nodup h4
  rw [namesR_of h1 (Nat.le_trans hsub.length_le h2) (by rw [allOk, List.all_eq_true] at h3 ⊢; exact fun x hx => h3 x (hsub.subset hx)) h4']
  congr 1
  have hperm : (kids[t] :: kids.eraseIdx t).Perm kids := by
    have e : kids.take t ++ kids[t] :: kids.drop (t + 1) = kids := by rw [← List.drop_eq_getElem_cons ht, List.take_append_drop]
    have h := (List.perm_middle (a := kids[t]) (l₁ := kids.take t) (l₂ := kids.drop (t + 1))).symm
    rw [e] at h
    rw [List.eraseIdx_eq_take_drop_succ]; exact h
  have hSp : (sortN (kids.eraseIdx t)).Perm (kids.eraseIdx t) := sortN_perm _
  have hn2 : ((kids[t] :: kids.eraseIdx t).map NV.name).Nodup := (hperm.map NV.name).nodup_iff.2 h4
  rw [List.map_cons, List.nodup_cons] at hn2
  have hless : ∀ x ∈ sortN (kids.eraseIdx t), Op.bytesLess x.name kids[t].name = true := fun x hx => by
    have hx' := hSp.mem_iff.1 hx
    obtain ⟨j, hj, rfl⟩ := List.mem_iff_getElem.1 (hsub.subset hx')
    have hne : kids[j].name ≠ kids[t].name := fun e => hn2.1 (by rw [← e]; exact List.mem_map.2 ⟨_, hx', rfl⟩)
    have h5 := hmax j hj
    simp only [List.getD, List.getElem?_eq_getElem ht, List.getElem?_eq_getElem hj, Option.getD_some] at h5
    cases h6 : Op.bytesLess kids[j].name kids[t].name with
    | true => rfl
    | false => exact absurd (bl_total _ _ h6 h5) hne
  have hiS : inc (sortN (kids.eraseIdx t)) := sortN_inc h4'
  have hinc : inc (sortN (kids.eraseIdx t) ++ [kids[t]]) := fun i hi => by
    have hl : (sortN (kids.eraseIdx t) ++ [kids[t]]).length = (sortN (kids.eraseIdx t)).length + 1 := by simp
    rw [hl] at hi
    rcases Nat.lt_or_ge (i + 1) (sortN (kids.eraseIdx t)).length with hh | hh
    · have := hiS i hh
      have e1 : (sortN (kids.eraseIdx t) ++ [kids[t]]).getD i default = (sortN (kids.eraseIdx t)).getD i default := by
        simp only [List.getD]; rw [List.getElem?_append_left (by omega)]
      have e2 : (sortN (kids.eraseIdx t) ++ [kids[t]]).getD (i + 1) default = (sortN (kids.eraseIdx t)).getD (i + 1) default := by
        simp only [List.getD]; rw [List.getElem?_append_left hh]
      rw [e1, e2]; exact this
    · have hil : i < (sortN (kids.eraseIdx t)).length := by omega
      have hie : i + 1 = (sortN (kids.eraseIdx t)).length := by omega
      have := hless _ (List.getElem_mem hil)
      have e1 : (sortN (kids.eraseIdx t) ++ [kids[t]]).getD i default = (sortN (kids.eraseIdx t))[i] := by
        simp only [List.getD]; rw [List.getElem?_append_left hil, List.getElem?_eq_getElem hil]; rfl
      have e2 : (sortN (kids.eraseIdx t) ++ [kids[t]]).getD (i + 1) default = kids[t] := by
        simp only [List.getD]; rw [hie, List.getElem?_concat_length]; rfl
      rw [e1, e2]; exact this
  have hs : sortN kids = sortN (kids.eraseIdx t) ++ [kids[t]] := by
    refine sortN_of hinc (hperm.symm.trans ?_)
    exact (List.Perm.cons _ hSp.symm).trans (List.perm_append_singleton _ _).symm
  rw [namesU, namesU, hs]
  have e : (List.map (fun k : NV => nameFor v (sortN (kids.eraseIdx t) ++ [kids[t]]) k.name) kids).eraseIdx t = (kids.eraseIdx t).map (fun k : NV => nameFor v (sortN (kids.eraseIdx t) ++ [kids[t]]) k.name) := by
    rw [List.eraseIdx_eq_take_drop_succ, List.eraseIdx_eq_take_drop_succ, List.map_append, List.map_take, List.map_drop]
  rw [e]
  refine List.map_congr_left fun k hk => ?_
  obtain ⟨j, hj, rfl⟩ := List.mem_iff_getElem.1 (hSp.mem_iff.2 hk)
  rw [nameFor_get (inc_nodup hiS) hj]
  have hj' : j < (sortN (kids.eraseIdx t) ++ [kids[t]]).length := by simp; omega
  have := nameFor_get (v := v) (inc_nodup hinc) hj'
  rw [List.getElem_append_left hj] at this
  rw [this]
  have e2 := namesG_snoc v (sortN (kids.eraseIdx t)) kids[t]
  simp only [e2]
  rw [List.getElem_append_left]
end Go.Tame.V
/- Law: NamingStable. By program (mk.py). -/
namespace Go.Tame.V
open Go Go.Proofs
variable {W0 : World}
set_option maxRecDepth 10000
set_option linter.unusedVariables false
set_option linter.unusedSimpArgs false

theorem DCall.fresh {f : FuncId} {ds : List D} {Q : D → Heap → Prop} {H : Heap} {k s : Nat} (h : H s = none) (hc : DCall Tryz.prog W0 f ds Heap.none Q) : DCall Tryz.prog W0 f ds (handed H [(k, s)]) Q := by
  have e : handed H [(k, s)] = Heap.none := by
    funext j
    simp only [handed, Heap.none]
    cases Nat.beq j k with
    | true => exact h
    | false => rfl
  rw [e]; exact hc
theorem DCall.heap {f : FuncId} {ds : List D} {Q : D → Heap → Prop} {H : Heap} {k s : Nat} {o : HObj} (h : H s = some o) (hc : DCall Tryz.prog W0 f ds (look [(k, o)]) Q) : DCall Tryz.prog W0 f ds (handed H [(k, s)]) Q := by
  have e : handed H [(k, s)] = look [(k, o)] := by
    funext j
    simp only [handed, look]
    cases Nat.beq j k with
    | true => exact h
    | false => rfl
  rw [e]; exact hc

theorem G73 (n : NV) : DFun Tryz.prog W0 73 [encTop n] (.bool (decide (400 < (n.name.length : Int)))) := by
  refine DFun.intro ti_ok Tryz.func73 rfl (by decide +kernel) Tryz.ntmps73 rfl fun Γ => ?_
  refine Tri.seq ?_
  refine Tri.region ti_ok ?_
  conv => whnf
  intro b1
  conv => whnf
  refine Tri.seq ?_
  refine Tri.region ti_ok ?_
  conv => whnf
  refine ⟨rfl, ?_⟩
  conv => whnf
  refine Tri.ret ?_
  conv => whnf
  exact .refl _
/-- IndexFunc over nodes. -/
theorem G96g (l : List NV) (hl : l.length < 1000000000) (fid : Nat) (caps : List D) (p : NV → Bool) (hp0 : ∀ k ∈ l, DFun Tryz.prog W0 fid (encTop k :: caps) (.bool (p k))) : DFun Tryz.prog W0 96 [.sl .none 12 (l.map enc), .fn (.func fid) [] caps] (.int .i64 (firstIdx p l)) := by
  refine DFun.intro ti_ok Tryz.func96 rfl (by decide +kernel) Tryz.ntmps96 rfl fun Γ => ?_
  refine Tri.seq ?_
  refine Tri.region ti_ok ?_
  conv => whnf
  refine Tri.seq ?_
  refine Tri.seq ?_
  refine Tri.region ti_ok ?_
  conv => whnf
  refine Tri.block ?_
  refine Tri.loop (α := { i : Nat // i ≤ l.length ∧ ∀ j (h : j < l.length), j < i → p (l[j]) = false }) (fun x => [(0, .sl .none 12 (l.map enc)), (1, .fn (.func fid) [] caps), (7, .int .i64 (l.map enc).length), (8, .int .i64 x.1)]) (fun _ => []) (fun x => l.length - x.1) ⟨0, by simp⟩ ⟨.refl _, .refl _, .refl _, .refl _, trivial⟩ trivial ?_
  rintro ⟨i, hi, hp⟩
  dsimp only
  refine Tri.seq ?_
  refine Tri.region ti_ok ?_
  conv => whnf
  refine Tri.seq ?_
  refine Tri.cond (decide ((i : Int) < (l.map enc).length)) rfl (fun hc => ?_) (fun hc => ?_)
  · refine Tri.skip ?_
    conv => whnf
    refine Tri.seq ?_
    refine Tri.block ?_
    refine Tri.seq ?_
    refine Tri.region ti_ok ?_
    have hia : i < l.length := by simpa using hc
    conv => whnf
    refine Tri.seq ?_
    refine Tri.region ti_ok ?_
    conv => whnf
    refine ⟨fun _ => by simp; omega, ?_⟩
    conv => whnf
    refine ⟨encTop l[i], fun _ => get_kids hia, ?_⟩
    conv => whnf
    refine ⟨encTop l[i] :: caps, _, fun _ => hp0 l[i] (List.getElem_mem hia), ⟨.refl _, LeL.refl _⟩, ?_⟩
    conv => whnf
    refine Tri.cond _ rfl (fun hc => ?_) (fun hc => ?_)
    · refine Tri.seq ?_
      refine Tri.region ti_ok ?_
      conv => whnf
      refine Tri.ret ?_
      conv => whnf
      exact intDLe (firstIdx_some (p := p) hia hp hc).symm
    · refine Tri.skip ?_
      conv => whnf
      refine Tri.region ti_ok ?_
      conv => whnf
      refine .inl ⟨fun _ => by simp [InR]; omega, ?_⟩
      conv => whnf
      exact ⟨⟨i + 1, by omega, fun j hj hlt => (Nat.lt_succ_iff_lt_or_eq.1 hlt).elim (hp j hj) fun e => by subst e; exact hc⟩, by show _ - (i + 1) < _ - i; omega, ⟨.refl _, .refl _, .refl _, .refl _, trivial⟩, trivial⟩
  · refine Tri.exit ?_
    conv => whnf
    refine Tri.seq ?_
    refine Tri.region ti_ok ?_
    conv => whnf
    refine Tri.ret ?_
    conv => whnf
    exact intDLe (firstIdx_none (p := p) fun j hj => hp j hj (by simp at hc; omega)).symm
theorem G44 (l : List NV) (hl : l.length < 1000000000) (fid : Nat) (caps : List D) (p : NV → Bool) (hp0 : ∀ k ∈ l, DFun Tryz.prog W0 fid (encTop k :: caps) (.bool (p k))) : DFun Tryz.prog W0 44 [.sl .none 12 (l.map enc), .fn (.func fid) [] caps] (.bool (l.any p)) := by
  refine DFun.intro ti_ok Tryz.func44 rfl (by decide +kernel) Tryz.ntmps44 rfl fun Γ => ?_
  refine Tri.seq ?_
  refine Tri.region ti_ok ?_
  conv => whnf
  refine Tri.seq ?_
  refine Tri.region ti_ok ?_
  conv => whnf
  refine ⟨[.sl .none 12 (l.map enc), .fn (.func fid) [] caps], _, fun _ => G96g l hl fid caps p hp0, ⟨.refl _, .refl _, trivial⟩, ?_⟩
  conv => whnf
  refine Tri.ret ?_
  conv => whnf
  exact DLe.of_eq (congrArg D.bool (firstIdx_any p l))
def fewK (l : List NV) : Bool := decide ((l.length : Int) ≤ 70) && !l.any fun k => decide (400 < (k.name.length : Int))
theorem G28 (l : List NV) (hl : l.length < 1000000000) : DFun Tryz.prog W0 28 [.sl .none 12 (l.map enc)] (.bool (fewK l)) := by
  refine DFun.intro ti_ok Tryz.func28 rfl (by decide +kernel) Tryz.ntmps28 rfl fun Γ => ?_
  refine Tri.seq ?_
  refine Tri.region ti_ok ?_
  conv => whnf
  refine Tri.seq ?_
  refine Tri.region ti_ok ?_
  conv => whnf
  refine ⟨fun h => h, ?_⟩
  conv => whnf
  refine ⟨[.sl .none 12 (l.map enc), .fn (.func 73) [] []], _, fun h => G44 l hl 73 [] _ (fun k _ => G73 k), ⟨.refl _, .refl _, trivial⟩, ?_⟩
  conv => whnf
  refine ⟨fun h => h, ?_⟩
  conv => whnf
  refine ⟨fun h0 h => by first | exact h | (rw [h]; rfl) | (rw [h0, h]; rfl), ?_⟩
  conv => whnf
  refine Tri.ret ?_
  conv => whnf
  refine DLe.of_eq (congrArg D.bool ?_)
  rw [fewK, show (List.map enc l).length = l.length from List.length_map ..]
  cases decide ((l.length : Int) ≤ 70) <;> rfl
theorem few_len {l : List NV} (h : fewK l = true) : l.length < 1000000 := by
  simp [fewK] at h; omega
theorem G8 (hL : LibOk W0) (v : Int) (kids : List NV) (hlen : kids.length < 1000000000) (hnl : ∀ k ∈ kids, k.name.length < 1000000000) : DFun Tryz.prog W0 8 [.int .i64 v, .sl .none 12 (kids.map enc)] (.bool true) := by
  refine DFun.intro ti_ok Tryz.func8 rfl (by decide +kernel) Tryz.ntmps8 rfl fun Γ => ?_
  refine Tri.seq ?_
  refine Tri.region ti_ok ?_
  conv => whnf
  refine Tri.seq ?_
  refine Tri.seq ?_
  refine Tri.region ti_ok ?_
  conv => whnf
  refine ⟨[], _, fun _ => G15 hL, trivial, ?_⟩
  conv => whnf
  refine Tri.cond _ rfl (fun hc => ?_) (fun hc => ?_)
  · refine Tri.seq ?_
    refine Tri.region ti_ok ?_
    conv => whnf
    refine Tri.ret ?_
    conv => whnf
    cases hc
  · refine Tri.skip ?_
    conv => whnf
    refine Tri.seq ?_
    refine Tri.seq ?_
    refine Tri.region ti_ok ?_
    conv => whnf
    refine ⟨[.sl .none 12 (kids.map enc)], _, fun _ => G28 kids hlen, ⟨.refl _, trivial⟩, ?_⟩
    conv => whnf
    refine ⟨fun h => h, ?_⟩
    conv => whnf
    refine ⟨fun h => h, ?_⟩
    conv => whnf
    refine ⟨fun h0 h => by first | exact h | (rw [h]; rfl) | (rw [h0, h]; rfl), ?_⟩
    conv => whnf
    refine Tri.cond _ rfl (fun hc => ?_) (fun hc => ?_)
    · refine Tri.seq ?_
      refine Tri.region ti_ok ?_
      conv => whnf
      refine Tri.ret ?_
      conv => whnf
      exact .refl _
    · refine Tri.skip ?_
      conv => whnf
      have h0 : 0 < kids.length := by
        rcases Nat.eq_zero_or_pos kids.length with h | h
        · exfalso
          cases hf : fewK kids with
          | true => simp [hf, h] at hc
          | false => simp [hf] at hc
        · exact h
      have hlen := few_len (by cases hf : fewK kids with | true => rfl | false => simp [hf] at hc)
      refine Tri.seq ?_
      refine Tri.region ti_ok ?_
      conv => whnf
      refine ⟨[.int .i64 v, .sl .none 12 (kids.map enc)], _, fun _ => F105g hL v kids hlen hnl, ⟨.refl _, .refl _, trivial⟩, ?_⟩
      conv => whnf
      refine Tri.seq ?_
      refine Tri.seq ?_
      refine Tri.region ti_ok ?_
      conv => whnf
      refine Tri.cond _ rfl (fun hc => ?_) (fun hc => ?_)
      · refine Tri.seq ?_
        refine Tri.region ti_ok ?_
        conv => whnf
        refine Tri.ret ?_
        conv => whnf
        exact .refl _
      · refine Tri.skip ?_
        conv => whnf
        have hr0 : (namesR v kids).2 = 0 := by simpa using hc
        obtain ⟨hvo, h64, hok, hnd, hR⟩ := namesR_ok hr0
        have hnm : (namesR v kids).1 = namesU v kids := by rw [hR]
        rw [hnm]
        have hul := namesU_len v kids
        refine Tri.seq ?_
        refine Tri.region ti_ok ?_
        conv => whnf
        refine Tri.seq ?_
        refine Tri.seq ?_
        refine Tri.region ti_ok ?_
        conv => whnf
        refine Tri.block ?_
        refine Tri.loop (α := { i : Nat // i ≤ kids.length }) (fun x => [(0, .int .i64 v), (1, .sl .none 12 (kids.map enc)), (5, .sl .none 1 (strs (namesU v kids))), (7, .int .i64 ((lastIx kids x.1 : Nat) : Int)), (29, .sl .none 12 (kids.map enc)), (30, .int .i64 (kids.map enc).length), (31, .int .i64 x.1)]) (fun _ => []) (fun x => kids.length - x.1) ⟨0, Nat.zero_le _⟩ ⟨.refl _, .refl _, .refl _, .refl _, .refl _, .refl _, .refl _, trivial⟩ trivial ?_
        rintro ⟨i, hi⟩
        dsimp only
        refine Tri.seq ?_
        refine Tri.region ti_ok ?_
        conv => whnf
        refine Tri.seq ?_
        refine Tri.cond (decide ((i : Int) < (kids.map enc).length)) rfl (fun hc => ?_) (fun hc => ?_)
        · refine Tri.skip ?_
          conv => whnf
          refine Tri.seq ?_
          refine Tri.block ?_
          refine Tri.seq ?_
          have hia : i < kids.length := by simpa using hc
          have hle := lastIx_le kids i
          have hll : lastIx kids i < kids.length := by omega
          have hgd : (kids.map enc)[lastIx kids i]? = some (encTop (kids.getD (lastIx kids i) default)) := by rw [get_kids hll]; simp [List.getD, hll]
          have hgi : kids[i] = kids.getD i default := by simp [List.getD, hia]
          refine Tri.region ti_ok ?_
          conv => whnf
          refine ⟨fun _ => by simp; omega, ?_⟩
          conv => whnf
          refine ⟨encTop kids[i], fun _ => get_kids hia, ?_⟩
          conv => whnf
          intro b9
          conv => whnf
          refine ⟨rfl, ?_⟩
          conv => whnf
          refine Tri.seq ?_
          refine Tri.draw ti_ok mixed (by kernel_rfl) ?_
          conv => whnf
          refine ⟨rfl, ?_⟩
          conv => whnf
          refine ⟨fun _ => by simp; omega, ?_⟩
          conv => whnf
          refine ⟨encTop (kids.getD (lastIx kids i) default), fun _ => hgd, ?_⟩
          conv => whnf
          refine Tri.cond _ rfl (fun hc0 => ?_) (fun hc0 => ?_)
          · refine Tri.region ti_ok ?_
            conv => whnf
            refine Tri.region ti_ok ?_
            conv => whnf
            refine .inl ⟨fun _ => by simp [InR]; omega, ?_⟩
            conv => whnf
            have hc : Op.bytesLess (kids.getD (lastIx kids i) default).name kids[i].name = true := by
              simp only [Bool.not_eq_true', Bool.or_eq_false_iff, beq_eq_false_iff_ne] at hc0
              cases h : Op.bytesLess (kids.getD (lastIx kids i) default).name kids[i].name with
              | true => rfl
              | false => exact absurd (bl_total _ _ hc0.1 h) hc0.2
            have hx : lastIx kids (i + 1) = i := by rw [lastIx, if_pos (by rw [← hgi]; exact hc)]
            exact ⟨⟨i + 1, hia⟩, by show _ - (i + 1) < _ - i; omega, ⟨.refl _, .refl _, .refl _, intDLe (by rw [hx]), .refl _, .refl _, .refl _, trivial⟩, trivial⟩
          · refine Tri.skip ?_
            conv => whnf
            refine Tri.region ti_ok ?_
            conv => whnf
            refine .inl ⟨fun _ => by simp [InR]; omega, ?_⟩
            conv => whnf
            have hc : Op.bytesLess (kids.getD (lastIx kids i) default).name kids[i].name = false := by
              simp only [Bool.not_eq_false', Bool.or_eq_true, beq_iff_eq] at hc0
              rcases hc0 with h | h
              · exact bl_asymm h
              · rw [h]; exact bl_irrefl _
            have hx : lastIx kids (i + 1) = lastIx kids i := by rw [lastIx, if_neg (by rw [← hgi, hc]; decide)]
            exact ⟨⟨i + 1, hia⟩, by show _ - (i + 1) < _ - i; omega, ⟨.refl _, .refl _, .refl _, intDLe (by rw [hx]), .refl _, .refl _, .refl _, trivial⟩, trivial⟩
        · refine Tri.exit ?_
          conv => whnf
          have hin : i = kids.length := by simp at hc; omega
          subst hin
          have ht := lastIx_lt kids kids.length h0
          have hst := stable hr0 ht (lastIx_max kids kids.length)
          generalize lastIx kids kids.length = t at *
          refine Tri.seq ?_
          refine Tri.seq ?_
          refine Tri.region ti_ok ?_
          conv => whnf
          refine Tri.cond _ rfl (fun hc => ?_) (fun hc => ?_)
          · refine Tri.seq ?_
            refine Tri.region ti_ok ?_
            conv => whnf
            refine Tri.ret ?_
            conv => whnf
            exfalso
            simp [strs, hul] at hc
          · refine Tri.skip ?_
            conv => whnf
            refine Tri.seq ?_
            refine Tri.regionX ti_ok ?_
            conv => whnf
            refine .inr (XOp.call rfl [.sl .none 12 (kids.map enc)] [(2000, 54)] (DCall.fresh rfl (G34r (kids.map enc) (fun x hx => by obtain ⟨z, _, rfl⟩ := List.mem_map.1 hx; cases z; rfl) (by simpa using h0) (by simpa using hlen))) rfl ⟨.refl _, trivial⟩ ?_)
            rintro d H' ⟨rv, rfl, rfl⟩
            refine ⟨_, .refl _, ?_⟩
            conv => whnf
            refine .inl ⟨fun _ => by simp [InR]; omega, ?_⟩
            conv => whnf
            refine .inr (XOp.call rfl [.raw rv, .int .i64 (t : Int), .int .i64 ((t + 1 : Nat) : Int)] [(2000, 54)] (DCall.heap rfl (G37 (kids.map enc) rv t (t + 1) (by omega) (by simp; omega))) rfl ⟨.refl _, .refl _, .refl _, trivial⟩ ?_)
            rintro d H' ⟨rv2, rfl, rfl⟩
            refine ⟨_, .refl _, ?_⟩
            conv => whnf
            refine .inr (XOp.commit 54 58 rfl rfl (XOp.plain ti_ok ?_))
            conv => whnf
            have hdel : (kids.map enc).take t ++ (kids.map enc).drop (t + 1) = (kids.eraseIdx t).map enc := by rw [List.eraseIdx_eq_take_drop_succ, List.map_append, List.map_take, List.map_drop]
            have hdel2 : (strs (namesU v kids)).take t ++ (strs (namesU v kids)).drop (t + 1) = strs ((namesU v kids).eraseIdx t) := by rw [List.eraseIdx_eq_take_drop_succ, strs, strs, List.map_append, List.map_take, List.map_drop]
            have hF := F105g hL v (kids.eraseIdx t) (Nat.lt_of_le_of_lt (List.eraseIdx_sublist kids t).length_le hlen) (fun k hk => hnl k ((List.eraseIdx_sublist kids t).subset hk))
            rw [hst] at hF
            refine ⟨[.int .i64 v, .sl .none 12 ((kids.eraseIdx t).map enc)], _, fun _ => hF, ⟨.refl _, DLe.of_eq (congrArg (D.sl .none 12) hdel), trivial⟩, ?_⟩
            conv => whnf
            refine Tri.seq ?_
            refine Tri.regionG ti_ok ?_
            conv => whnf
            refine ⟨rfl, trivial, .inl ?_⟩
            conv => whnf
            refine ⟨rfl, trivial, .inl ?_⟩
            conv => whnf
            refine ⟨rfl, trivial, .inl ?_⟩
            conv => whnf
            refine ⟨rfl, ⟨_, rfl, rfl⟩, .inl ?_⟩
            conv => whnf
            refine ⟨rfl, ⟨_, rfl, rfl⟩, .inl ?_⟩
            conv => whnf
            refine ⟨rfl, ⟨_, rfl, rfl⟩, .inr (XOp.call rfl [.sl .none 1 (strs (namesU v kids))] [(2000, 67)] (DCall.fresh rfl (G36r (strs (namesU v kids)) (fun x hx => by obtain ⟨z, _, rfl⟩ := List.mem_map.1 hx; rfl) (by simp [strs, hul, h0]) (by simp [strs, hul]; omega))) rfl ⟨.refl _, trivial⟩ ?_)⟩
            rintro d H' ⟨rv3, rfl, rfl⟩
            refine ⟨_, .refl _, ?_⟩
            conv => whnf
            refine ⟨rfl, ⟨_, rfl, rfl⟩, .inl ?_⟩
            conv => whnf
            refine ⟨rfl, ⟨_, rfl, rfl⟩, .inl ?_⟩
            conv => whnf
            refine ⟨rfl, ⟨_, rfl, rfl⟩, .inl ?_⟩
            conv => whnf
            refine .inl ⟨fun _ => by simp [InR]; omega, ?_⟩
            conv => whnf
            refine ⟨rfl, ⟨_, rfl, rfl⟩, .inr (XOp.call rfl [.raw rv3, .int .i64 (t : Int), .int .i64 ((t + 1 : Nat) : Int)] [(2000, 67)] (DCall.heap rfl (G38 (strs (namesU v kids)) rv3 t (t + 1) (by omega) (by simp [strs, hul]; omega))) rfl ⟨.refl _, .refl _, .refl _, trivial⟩ ?_)⟩
            rintro d H' ⟨rv4, rfl, rfl⟩
            refine ⟨_, .refl _, ?_⟩
            conv => whnf
            have hE := F23 (W0 := W0) ((namesU v kids).eraseIdx t) ((namesU v kids).eraseIdx t) (Nat.lt_of_le_of_lt (List.eraseIdx_sublist (namesU v kids) t).length_le (by omega)) (Nat.lt_of_le_of_lt (List.eraseIdx_sublist (namesU v kids) t).length_le (by omega))
            refine ⟨rfl, ⟨_, rfl, rfl⟩, .inr (XOp.commit 67 71 rfl rfl (XOp.plain ti_ok ?_))⟩
            conv => whnf
            refine ⟨[.sl .none 1 (strs ((namesU v kids).eraseIdx t)), .sl .none 1 (strs ((namesU v kids).eraseIdx t))], _, fun _ => hE, ⟨.refl _, DLe.of_eq (congrArg (D.sl .none 1) hdel2), trivial⟩, ?_⟩
            conv => whnf
            refine ⟨rfl, trivial, .inl ?_⟩
            conv => whnf
            refine ⟨rfl, trivial, .inl ?_⟩
            conv => whnf
            refine Tri.ret ?_
            conv => whnf
            refine DLe.of_eq (congrArg D.bool (a₁ := decide ((namesU v kids).eraseIdx t = (namesU v kids).eraseIdx t)) (a₂ := true) ?_)
            simp
end Go.Tame.V
/- Names of a directory: different, valid, the same in any order; identifiers stand for them: the plain law of NamingUnique. Plain. -/
namespace Go.Tame.V
open Go Go.Proofs
set_option maxRecDepth 10000
set_option linter.unusedVariables false
set_option linter.unusedSimpArgs false

theorem namesU_perm {v : Int} {kids : List NV} (hn : (kids.map NV.name).Nodup) : (namesU v kids).Perm (namesG v (sortN kids)) := by
  have hi := sortN_inc hn
  rw [← namesU_inc hi, namesU, namesU, sortN_id hi]
  exact ((sortN_perm kids).map _).symm
theorem namesU_nd {v : Int} {kids : List NV} (h : (namesR v kids).2 = 0) : (namesU v kids).Nodup := by
  obtain ⟨h1, h2, h3, h4, -⟩ := namesR_ok h
  refine (namesU_perm h4).nodup_iff.2 (namesG_nd h1 ?_ (sortN_inc h4))
  rw [(sortN_perm kids).length_eq]; exact h2
/-- Each name is picked for its kid. -/
theorem namesU_pick {v : Int} {kids : List NV} (hn : (kids.map NV.name).Nodup) {i : Nat} (hi : i < kids.length) :
    ∃ U : List (List UInt8), U.length ≤ kids.length ∧ (namesU v kids)[i]'(by rw [namesU_len]; exact hi) = pickG v U kids[i] := by
  have hinc := sortN_inc hn
  have hm : kids[i] ∈ sortN kids := (sortN_perm kids).mem_iff.2 (List.getElem_mem hi)
  obtain ⟨t, ht, e⟩ := List.mem_iff_getElem.1 hm
  have hl := (sortN_perm kids).length_eq
  refine ⟨usedG v ((sortN kids).take t), by rw [usedG_len, List.length_take]; omega, ?_⟩
  simp only [namesU, List.getElem_map]
  rw [← e, nameFor_get (inc_nodup hinc) ht, namesG_at ht]
theorem turn_names {v : Int} {kids : List NV} (h : (namesR v kids).2 = 0) (k : Nat) : namesR v (kids.drop k ++ kids.take k) = ((namesU v kids).drop k ++ (namesU v kids).take k, 0) := by
  obtain ⟨h1, h2, h3, h4, -⟩ := namesR_ok h
  have hp : (kids.drop k ++ kids.take k).Perm kids := List.perm_append_comm.trans (by rw [List.take_append_drop])
  rw [namesR_of h1 (by rw [hp.length_eq]; exact h2) (by rw [allOk, List.all_eq_true] at h3 ⊢; exact fun x hx => h3 x (hp.subset hx)) ((hp.map NV.name).nodup_iff.2 h4)]
  congr 1
  rw [namesU, namesU, sortN_of (sortN_inc h4) (hp.trans (sortN_perm kids).symm), List.map_append, List.map_drop, List.map_take]

theorem iso_d {r : Int} (h : isChar r = true) (e : isoC r = r) : 0 ≤ r ∧ r < 128 ∧ dB r = true := by
  unfold isoC at e
  split at e
  · omega
  · split at e
    · rename_i h1
      simp [isChar] at h
      exact ⟨by omega, h1.1, h1.2⟩
    · subst e; decide
theorem iso_bytes : ∀ {a : List Int}, (∀ r ∈ a, isChar r = true ∧ isoC r = r) → runesB a = a.map fun r => UInt8.ofNat r.toNat
  | [], _ => by simp [runesB]
  | r :: l, h => by
    obtain ⟨h1, h2⟩ := h r List.mem_cons_self
    obtain ⟨h3, h4, _⟩ := iso_d h1 h2
    rw [runesB_cons, enc_ascii r h3 h4, iso_bytes fun x hx => h x (List.mem_cons_of_mem _ hx)]; rfl
theorem iso_isDB {a : List Int} (h : ∀ r ∈ a, isChar r = true ∧ isoC r = r) {m : Nat} (h1 : 1 ≤ a.length) (h2 : a.length ≤ m) (hm : m ≤ 64) : isDB (runesB a) m = true := by
  rw [iso_bytes h, isDB, dStr]
  simp only [List.length_map, List.all_map, Bool.and_eq_true, decide_eq_true_eq, List.all_eq_true, Function.comp]
  refine ⟨by omega, by omega, by omega, fun r hr => ?_⟩
  obtain ⟨h3, h4, h5⟩ := iso_d (h r hr).1 (h r hr).2
  rw [dU]
  have : ((UInt8.ofNat r.toNat).toNat : Int) = r := by simp; omega
  rw [this]; exact h5
theorem iso_no {a : List Int} (h : ∀ r ∈ a, isChar r = true ∧ isoC r = r) {c : UInt8} (hc : dU c = false) : c ∉ runesB a := by
  rw [iso_bytes h]
  intro hm
  obtain ⟨r, hr, e⟩ := List.mem_map.1 hm
  obtain ⟨h3, h4, h5⟩ := iso_d (h r hr).1 (h r hr).2
  rw [← e, dU] at hc
  have : ((UInt8.ofNat r.toNat).toNat : Int) = r := by simp; omega
  rw [this, h5] at hc; cases hc

theorem occ_one (s : List UInt8) (c : UInt8) (j : Nat) : Lib.occAt s [c] j = (s[j]? == some c) := by
  unfold Lib.occAt
  induction s generalizing j with
  | nil => simp
  | cons b l ih =>
    cases j with
    | zero => simp; exact Bool.eq_iff_iff.2 ⟨fun h => by simp at h ⊢; exact h.symm, fun h => by simp at h ⊢; exact h.symm⟩
    | succ j => simpa using ih j
theorem index_dot {A B : List UInt8} (h : (46 : UInt8) ∉ A) : Lib.index (A ++ 46 :: B) [46] = A.length := by
  refine Lib.index_first (by simp) ?_ fun j hj => ?_
  · rw [occ_one]; simp
  · rw [occ_one, List.getElem?_append_left hj, List.getElem?_eq_getElem hj]
    simp only [beq_eq_false_iff_ne, ne_eq, Option.some.injEq]
    intro e; exact h (e ▸ List.getElem_mem hj)
theorem index_nodot {A : List UInt8} (h : (46 : UInt8) ∉ A) : Lib.index A [46] = -1 := by
  refine Lib.index_none fun j hj => ?_
  rw [occ_one]
  rcases Nat.lt_or_ge j A.length with hl | hl
  · rw [List.getElem?_eq_getElem hl]
    simp only [beq_eq_false_iff_ne, ne_eq, Option.some.injEq]
    intro e; exact h (e ▸ List.getElem_mem hl)
  · rw [List.getElem?_eq_none hl]; rfl
theorem cut_dot {A B : List UInt8} (h : (46 : UInt8) ∉ A) : Lib.cut (A ++ 46 :: B) [46] = (A, B, true) := by
  rw [Lib.cut, index_dot h, if_pos (by omega)]
  simp
theorem cut_nodot {A : List UInt8} (h : (46 : UInt8) ∉ A) : Lib.cut A [46] = (A, [], false) := by
  rw [Lib.cut, index_nodot h, if_neg (by decide)]
theorem byte_mem (c : UInt8) : ∀ s : List UInt8, 0 ≤ Lib.indexByte s c ↔ c ∈ s
  | [] => by simp [Lib.indexByte]
  | b :: l => by
    have ih := byte_mem c l
    have hg := Lib.indexByte_ge l c
    unfold Lib.indexByte
    split
    · rename_i h
      have : b = c := by simpa using h
      subst this; simp
    · rename_i h
      have hne : ¬ c = b := fun e => h (by rw [e]; simp)
      split
      · rename_i h1
        have h1' : Lib.indexByte l c = -1 := by simpa using h1
        rw [h1'] at ih
        simp only [List.mem_cons, hne, false_or, ← ih]
      · rename_i h1
        have h1' : ¬ Lib.indexByte l c = -1 := by simpa using h1
        simp only [List.mem_cons, hne, false_or, ← ih]
        omega
theorem hasDot_iff (s : List UInt8) : hasDot s = decide ((46 : UInt8) ∈ s) := by
  rw [hasDot]
  exact decide_eq_decide.2 (byte_mem 46 s)
/-- A name of the ISO view: valid, with an identifier that stands for it. -/
structure IsoName (m : List UInt8) (dir : Bool) : Prop where
  valid : validI m dir = true
  back : (identI m dir).2 = 0 ∧ nameI (identI m dir).1 dir = (m, 0)
theorem suf_append (a b : List UInt8) : Lib.hasSuffix (a ++ b) b = true := by
  rw [Lib.hasSuffix, List.isSuffixOf_iff_suffix]; exact ⟨a, rfl⟩
theorem cutSuf_append (a b : List UInt8) : cutSuf (a ++ b) b = (a, true) := by
  rw [cutSuf, if_pos (suf_append a b)]
  simp
theorem isoName_of {m A B : List UInt8} {dir : Bool} (hA : isDB A 8 = true) (h46 : (46 : UInt8) ∉ A) (h46' : (46 : UInt8) ∉ B) (h : (B = [] ∧ m = A) ∨ (B ≠ [] ∧ dir = false ∧ isDB B 3 = true ∧ m = A ++ 46 :: B)) : IsoName m dir := by
  have hv : validI m dir = true := by
    rcases h with ⟨_, rfl⟩ | ⟨_, rfl, h3, rfl⟩
    · rw [validI, cut_nodot h46]; simpa using hA
    · rw [validI, cut_dot h46]; simp [hA, h3]
  refine ⟨hv, ?_⟩
  cases dir with
  | true =>
    have e : identI m true = (m, 0) := by rw [identI, if_pos hv, if_pos rfl]
    refine ⟨by rw [e], ?_⟩
    rw [e, nameI, if_pos rfl, chkI, e, if_pos ⟨rfl, rfl⟩]
  | false =>
    rcases h with ⟨hB, rfl⟩ | ⟨hB, _, h3, hm⟩
    · have hd : hasDot m = false := by rw [hasDot_iff]; simpa using h46
      have e : identI m false = (m ++ [46, 59, 49], 0) := by rw [identI, if_pos hv, if_neg (by decide), if_neg (by rw [hd]; decide)]
      refine ⟨by rw [e], ?_⟩
      have e1 : m ++ [46, 59, 49] = (m ++ [46]) ++ [59, 49] := by simp
      have e2 : Lib.trimSuffix (m ++ [46]) [46] = m := by rw [Lib.trimSuffix, if_pos (suf_append _ _)]; simp
      have e3 : cutSuf (m ++ [46, 59, 49]) [59, 49] = (m ++ [46], true) := by rw [e1]; exact cutSuf_append _ _
      rw [e, nameI, if_neg (by decide), e3, if_pos rfl, e2, chkI, e, if_pos ⟨rfl, rfl⟩]
    · have hd : hasDot m = true := by rw [hasDot_iff, hm]; simp
      have e : identI m false = (m ++ [59, 49], 0) := by rw [identI, if_pos hv, if_neg (by decide), if_pos hd]
      refine ⟨by rw [e], ?_⟩
      have e3 := cutSuf_append m [59, 49]
      have e2 : Lib.trimSuffix m [46] = m := by
        rw [Lib.trimSuffix, if_neg]
        intro hs
        rw [Lib.hasSuffix, List.isSuffixOf_iff_suffix] at hs
        obtain ⟨x, hx⟩ := hs
        have h1 : m.getLast? = some 46 := by rw [← hx]; simp
        rw [hm, List.getLast?_append, List.getLast?_cons] at h1
        obtain ⟨y, hy⟩ := List.exists_mem_of_ne_nil _ hB
        cases hl : B.getLast? with
        | none => rw [List.getLast?_eq_none_iff] at hl; exact hB hl
        | some z =>
          rw [hl] at h1
          simp at h1
          exact h46' (h1 ▸ List.mem_of_getLast? hl)
      rw [e, nameI, if_neg (by decide), e3, if_pos rfl, e2, chkI, e, if_pos ⟨rfl, rfl⟩]
theorem made_iso {s : List UInt8} (hs : nameOk s = true) (dir : Bool) {k : Nat} (hk : k < 100) : IsoName (numS 0 (wantS 0 s dir).1 (wantS 0 s dir).2 k) dir := by
  obtain ⟨l, e, h0, h1⟩ := made_shape (.inl rfl) hs dir hk
  obtain ⟨a, b, h⟩ := h0 rfl
  rw [e]
  have hd46 : dU 46 = false := by decide
  refine isoName_of (A := runesB a) (B := runesB b) (iso_isDB (m := 8) h.ca h.a1 h.a8 (by decide)) (iso_no h.ca hd46) (iso_no h.cb hd46) ?_
  have hq := h.eq
  by_cases hb : b = []
  · rw [if_pos hb] at hq
    exact .inl ⟨by rw [hb]; rfl, by rw [hq]⟩
  · rw [if_neg hb] at hq
    refine .inr ⟨fun e => hb (runesB_nil.1 e), ?_, iso_isDB (m := 3) h.cb ?_ h.b3 (by decide), ?_⟩
    · cases dir with
      | false => rfl
      | true => exact absurd (h.dir rfl) hb
    · cases b with
      | nil => exact absurd rfl hb
      | cons x r => simp
    · rw [hq, runesB_append, runesB_cons, enc_ascii 46 (by decide) (by decide)]; rfl
theorem pick_numS {v : Int} (hv : v = 0 ∨ v = 1) (U : List (List UInt8)) (k : NV) (hU : U.length ≤ 64) : ∃ j, j < 100 ∧ pickG v U k = numS v (wantS v k.name (k.kind == 0)).1 (wantS v k.name (k.kind == 0)).2 j := by
  exact ⟨freshK v U (wantS v k.name (k.kind == 0)).1 (wantS v k.name (k.kind == 0)).2, (fresh_ok v U _ _ hU).1, by rw [pickG, if_pos hv]; rfl⟩
end Go.Tame.V
/- Law: NamingUnique. By program (mkn18.py, mk.py). -/
namespace Go.Tame.V
open Go Go.Proofs
variable {W0 : World}
set_option maxRecDepth 10000
set_option linter.unusedVariables false
set_option linter.unusedSimpArgs false

theorem enc_low {r : Int} (h : isChar r = true) {c : UInt8} (hc : c.toNat < 128) (hi : c ∈ (Utf8.encode r).data.toList) : r = c.toNat := by
  obtain ⟨h1, h2, h3⟩ := (isChar_iff r).1 h
  obtain ⟨n, rfl⟩ : ∃ n : Nat, r = n := ⟨r.toNat, by omega⟩
  have hU : ∀ x : Nat, x < 256 → (UInt8.ofNat x).toNat = x := fun x hx => by rw [UInt8.toNat_ofNat']; omega
  have hne : ∀ x : Nat, x < 256 → 128 ≤ x → c ≠ UInt8.ofNat x := fun x hx h128 e => by
    have := congrArg UInt8.toNat e
    rw [hU x hx] at this
    omega
  have hv : Utf8.valid (n : Int) = true := by simp [Utf8.valid]; omega
  by_cases h1' : n < 128
  · have e : (Utf8.encode (n : Int)).data.toList = [UInt8.ofNat n] := by
      unfold Utf8.encode; simp only [hv, if_true, Int.toNat_natCast]; rw [if_pos h1']
    rw [e, List.mem_singleton] at hi
    have := congrArg UInt8.toNat hi
    rw [hU n (by omega)] at this
    omega
  · exfalso
    by_cases h2 : n < 2048
    · have e : (Utf8.encode (n : Int)).data.toList = [UInt8.ofNat (192 + n / 64), UInt8.ofNat (128 + n % 64)] := by
        unfold Utf8.encode; simp only [hv, if_true, Int.toNat_natCast]; rw [if_neg h1', if_pos h2]
      rw [e] at hi
      simp only [List.mem_cons, List.mem_nil_iff, or_false] at hi
      rcases hi with hi | hi
      · exact hne (192 + n / 64) (by omega) (by omega) hi
      · exact hne (128 + n % 64) (by omega) (by omega) hi
    · have e : (Utf8.encode (n : Int)).data.toList = [UInt8.ofNat (224 + n / 4096), UInt8.ofNat (128 + n / 64 % 64), UInt8.ofNat (128 + n % 64)] := by
        unfold Utf8.encode; simp only [hv, if_true, Int.toNat_natCast]; rw [if_neg h1', if_neg h2, if_pos (by omega)]
      rw [e] at hi
      simp only [List.mem_cons, List.mem_nil_iff, or_false] at hi
      rcases hi with hi | hi | hi
      · exact hne (224 + n / 4096) (by omega) (by omega) hi
      · exact hne (128 + n / 64 % 64) (by omega) (by omega) hi
      · exact hne (128 + n % 64) (by omega) (by omega) hi
theorem runes_low {l : List Int} (h : ∀ r ∈ l, isChar r = true) {c : UInt8} (hc : c.toNat < 128) (hm : c ∈ runesB l) : (c.toNat : Int) ∈ l := by
  induction l with
  | nil => simp [runesB] at hm
  | cons r l ih =>
    rw [runesB_cons, List.mem_append] at hm
    rcases hm with hm | hm
    · rw [enc_low (h r List.mem_cons_self) hc hm]; exact List.mem_cons_self
    · exact List.mem_cons_of_mem _ (ih (fun x hx => h x (List.mem_cons_of_mem _ hx)) hm)
theorem jol_special {r : Int} (h : jolC r = r) : special r = false := by
  cases hs : special r with
  | false => rfl
  | true => rw [jolC, if_pos hs] at h; subst h; exact absurd hs (by decide)
theorem forb_special : ∀ b ∈ forb, special (b.toNat : Int) = true := by decide +kernel
theorem jol_none {l : List Int} (h : jolOk l) : Lib.indexAny (runesB l) forb = -1 := by
  refine Lib.indexAny_none fun j b hj hb => ?_
  cases hc : forb.contains b with
  | false => rfl
  | true =>
    have hm : b ∈ forb := by simpa using hc
    have h1 := runes_low (fun r hr => (h.1 r hr).1) (forb_small b hm) (List.mem_of_getElem? hb)
    have h2 := jol_special (h.1 _ h1).2
    rw [forb_special b hm] at h2; cases h2
theorem iter_rune (s : List UInt8) (r : Int) (h : isChar r = true) (hs : special r = false) : DFun Tryz.prog W0 177 [.str forb, .int .i32 r] (.int .i64 (-1)) := by
  obtain ⟨h1, h2, h3⟩ := (isChar_iff r).1 h
  by_cases h128 : r < 128
  · have hn : r = (r.toNat : Int) := by omega
    have ht := special_tab r.toNat (by omega)
    rw [← hn, hs] at ht
    have hg := Lib.indexByte_ge forb r.toNat.toUInt8
    have e : Lib.indexByte forb r.toNat.toUInt8 = -1 := by
      have := of_decide_eq_false ht
      omega
    refine .pure (callable Tryz.func177 rfl (by decide +kernel)) rfl rfl fun w _ => ?_
    have := Tryz.strings_IndexRune_ascii ⟨⟨forb⟩⟩ r w (by omega) h128
    rw [e] at this; exact this
  · exact F190 r (by omega) h2 h3
theorem G129s (s : List UInt8) (h8 : s.length ≤ 8) (l : List Int) (hc0 : charsP s = some l) (hl : ∀ r ∈ l, isChar r = true ∧ special r = false) : DFun Tryz.prog W0 129 [.str s, .str forb] (.int .i64 (-1)) := by
  refine DFun.intro ti_ok Tryz.func129 rfl (by decide +kernel) Tryz.ntmps129 rfl fun Γ => ?_
  refine Tri.seq ?_
  refine Tri.region ti_ok ?_
  conv => whnf
  refine Tri.seq ?_
  refine Tri.seq ?_
  refine Tri.region ti_ok ?_
  conv => whnf
  refine Tri.cond _ rfl (fun hc => ?_) (fun hc => ?_)
  · cases hc
  · refine Tri.skip ?_
    conv => whnf
    refine Tri.seq ?_
    refine Tri.seq ?_
    refine Tri.region ti_ok ?_
    conv => whnf
    refine Tri.cond _ rfl (fun hc => ?_) (fun hc => ?_)
    · exfalso
      exact absurd hc (by decide)
    · refine Tri.skip ?_
      conv => whnf
      refine Tri.joinK (α := Unit) (fun x => [(0, .str s), (1, .str forb)]) (fun x => []) ?_ ?_
      · refine Tri.seq ?_
        refine Tri.region ti_ok ?_
        conv => whnf
        refine ⟨[.int .i64 s.length], .bool false, fun _ => .pure (vs := [.int .i64 s.length]) (v := .bool false) (callable Tryz.func178 rfl (by decide +kernel)) rfl rfl fun w _ => (by have := Tryz.strings_shouldUseASCIISet s.length w; rw [show decide ((8 : Int) < (s.length : Int)) = false from decide_eq_false (by omega)] at this; exact this), ⟨.refl _, trivial⟩, ?_⟩
        conv => whnf
        refine Tri.cond _ rfl (fun hc => ?_) (fun hc => ?_)
        · cases hc
        · refine Tri.skip ?_
          conv => whnf
          exact ⟨(), [], ⟨.refl _, .refl _, trivial⟩, rfl, trivial⟩
      · rintro ⟨⟩
        refine Tri.seq ?_
        refine Tri.seq ?_
        refine Tri.regionX ti_ok ?_
        conv => whnf
        refine .inr (XOp.rangeStr rfl rfl fun bi => ?_)
        conv => whnf
        refine Tri.block ?_
        refine Tri.loopK (α := { p : Nat // p ≤ s.length ∧ ∃ l2, charsP (s.drop p) = some l2 ∧ ∀ r ∈ l2, isChar r = true ∧ special r = false }) (fun x => [(1, .str forb), (45, .raw (.pointer (some ⟨bi, 0, none⟩)))]) (fun x => [(45, .obj bi (.stringIter ⟨⟨s⟩⟩ x.1))]) (fun x => s.length - x.1) ⟨0, Nat.zero_le _, l, hc0, hl⟩ [(45, 45)] ⟨⟨.refl _, .refl _, trivial⟩, rfl, rfl, rfl, trivial⟩ ?_
        rintro ⟨p, hp, l2, hl2, hr2⟩
        dsimp only
        refine Tri.seq ?_
        refine Tri.regionX ti_ok ?_
        conv => whnf
        refine .inr (XOp.nextStr 45 rfl rfl (fun hlt => ?_) (fun hlt => ?_))
        · have hne : s.drop p ≠ [] := fun e => by have := congrArg List.length e; simp at this; omega
          obtain ⟨h1, h2, _⟩ := decode_size (s.drop p) hne
          rw [charsP_cons hne] at hl2
          cases hb : badAt (s.drop p) with
          | true => rw [hb] at hl2; cases hl2
          | false =>
            rw [hb] at hl2
            simp only [Bool.false_eq_true, if_false, Option.map_eq_some_iff] at hl2
            obtain ⟨l', hl', rfl⟩ := hl2
            rw [List.length_drop] at h2
            rw [List.drop_drop] at hl'
            obtain ⟨hr3, hr4⟩ := hr2 _ List.mem_cons_self
            rw [decode_at_drop s p hlt]
            conv => whnf
            refine Tri.seq ?_
            refine Tri.cond _ rfl (fun hc => ?_) (fun hc => ?_)
            · refine Tri.skip ?_
              conv => whnf
              refine Tri.block ?_
              refine Tri.seq ?_
              refine Tri.region ti_ok ?_
              conv => whnf
              refine Tri.seq ?_
              refine Tri.region ti_ok ?_
              conv => whnf
              refine ⟨[.str forb, .int .i32 ((dec (s.drop p)).1 : Nat)], _, fun _ => iter_rune s _ hr3 hr4, ⟨.refl _, .refl _, trivial⟩, ?_⟩
              conv => whnf
              refine Tri.cond _ rfl (fun hc => ?_) (fun hc => ?_)
              · exfalso
                exact absurd hc (by decide)
              · refine Tri.skip ?_
                conv => whnf
                exact ⟨⟨p + (dec (s.drop p)).2, by omega, l', hl', fun r hr => hr2 r (List.mem_cons_of_mem _ hr)⟩, [(45, 45)], by show _ - (p + _) < _ - p; omega, ⟨.refl _, .refl _, trivial⟩, rfl, rfl, rfl, trivial⟩
            · cases hc
        · conv => whnf
          refine Tri.seq ?_
          refine Tri.cond _ rfl (fun hc => ?_) (fun hc => ?_)
          · cases hc
          · refine Tri.exit ?_
            conv => whnf
            refine Tri.seq ?_
            refine Tri.region ti_ok ?_
            conv => whnf
            refine Tri.ret ?_
            conv => whnf
            exact .refl _
theorem G129 {l : List Int} (h : jolOk l) : DFun Tryz.prog W0 129 [.str (runesB l), .str forb] (.int .i64 (-1)) := by
  have hlen := runesB_len l
  have h64 := h.2
  by_cases h8 : (runesB l).length ≤ 8
  · exact G129s (runesB l) h8 l (charsP_of l fun r hr => (h.1 r hr).1) fun r hr => ⟨(h.1 r hr).1, jol_special (h.1 r hr).2⟩
  · refine .lift (vs := [.string ⟨⟨runesB l⟩⟩, .string ⟨⟨forb⟩⟩]) (callable Tryz.func129 rfl (by decide +kernel)) rfl fun w _ => ?_
    have hz : ∀ w, (zeroValue 184).run Tryz.prog w = .ok (.agg (Array.replicate 256 (.bool false))) w := fun w => by rfl
    refine (Tryz.strings_IndexAny_long hz ⟨⟨runesB l⟩⟩ ⟨⟨forb⟩⟩ w (by decide) (by show 8 < (runesB l).length; omega) (by show (runesB l).length < _; omega) (by decide) (fun j b hb => forb_small b (List.mem_of_getElem? hb))).mono fun e w' ⟨he, hw⟩ => ?_
    refine ⟨_, he, fun C => ?_, ?_⟩
    · have e2 := jol_none h
      show Rep w' C (.int .i64 (-1)) (.int .i64 (Lib.indexAny (runesB l) forb))
      rw [e2]; exact .int _ _
    · rw [hw]
      exact ((RowKit.Below.refl _ _).alloc (Nat.le_refl _) _).alloc (by simp) _
theorem G83 {l : List Int} (h : jolOk l) : DFun Tryz.prog W0 83 [.str (runesB l), .str forb] (.bool false) := by
  refine DFun.intro ti_ok Tryz.func83 rfl (by decide +kernel) Tryz.ntmps83 rfl fun Γ => ?_
  refine Tri.seq ?_
  refine Tri.region ti_ok ?_
  conv => whnf
  refine Tri.seq ?_
  refine Tri.region ti_ok ?_
  conv => whnf
  refine ⟨[.str (runesB l), .str forb], _, fun _ => G129 h, ⟨.refl _, .refl _, trivial⟩, ?_⟩
  conv => whnf
  refine Tri.ret ?_
  conv => whnf
  exact DLe.of_eq rfl
/-- Valid holds of the names that a view gives. -/
def OwnName (v : Int) (s : List UInt8) (dir : Bool) : Prop := nameOk s = true ∧ s.length < 1000000000 ∧ (v = 0 → validI s dir = true) ∧ (v = 1 → ∃ l, s = runesB l ∧ jolOk l)
theorem G31o (hL : LibOk W0) (v : Int) (hv : viewOk v = true) (s : List UInt8) (dir : Bool) (h : OwnName v s dir) : DFun Tryz.prog W0 31 [.int .i64 v, .str s, .bool dir] (.bool true) := by
  by_cases h0 : v = 0
  · subst h0
    have := G31 (W0 := W0) hL s dir h.2.1
    rw [h.2.2.1 rfl] at this; exact this
  obtain ⟨hn, hs, _, hj⟩ := h
  refine DFun.intro ti_ok Tryz.func31 rfl (by decide +kernel) Tryz.ntmps31 rfl fun Γ => ?_
  refine Tri.seq ?_
  refine Tri.region ti_ok ?_
  conv => whnf
  refine Tri.seq ?_
  refine Tri.seq ?_
  refine Tri.region ti_ok ?_
  conv => whnf
  refine Tri.block ?_
  refine Tri.seq ?_
  refine Tri.region ti_ok ?_
  conv => whnf
  refine Tri.cond _ rfl (fun hc => ?_) (fun hc => ?_)
  · exfalso
    exact h0 (by simpa using hc)
  · refine Tri.seq ?_
    refine Tri.region ti_ok ?_
    conv => whnf
    refine Tri.cond _ rfl (fun hc => ?_) (fun hc => ?_)
    · refine Tri.seq ?_
      refine Tri.region ti_ok ?_
      conv => whnf
      refine ⟨[.str s], _, fun _ => F100 hL s hs, ⟨.refl _, trivial⟩, ?_⟩
      conv => whnf
      refine ⟨fun h => h, ?_⟩
      conv => whnf
      refine ⟨[.str s, .str forb], _, fun h => (by
        obtain ⟨l, rfl, hl⟩ := hj (by simpa using hc)
        exact G83 hl), ⟨.refl _, .refl _, trivial⟩, ?_⟩
      conv => whnf
      refine ⟨fun h => h, ?_⟩
      conv => whnf
      refine ⟨fun h0 h => by first | exact h | (rw [h]; rfl) | (rw [h0, h]; rfl), ?_⟩
      conv => whnf
      refine Tri.ret ?_
      conv => whnf
      exact DLe.of_eq (by rw [hn]; rfl)
    · refine Tri.skip ?_
      conv => whnf
      refine Tri.seq ?_
      refine Tri.region ti_ok ?_
      conv => whnf
      refine ⟨[.int .i64 v], _, fun _ => F91 v, ⟨.refl _, trivial⟩, ?_⟩
      conv => whnf
      refine ⟨fun h => h, ?_⟩
      conv => whnf
      refine ⟨[.str s], _, fun h => F100 hL s hs, ⟨.refl _, trivial⟩, ?_⟩
      conv => whnf
      refine ⟨fun h0 h => by first | exact h | (rw [h]; rfl) | (rw [h0, h]; rfl), ?_⟩
      conv => whnf
      refine Tri.ret ?_
      conv => whnf
      exact DLe.of_eq (by rw [hn, hv]; rfl)
theorem G30 (l : List (List UInt8)) (s : List UInt8) (hl : l.length < 1000000000) : DFun Tryz.prog W0 30 [.sl .none 1 (strs l), .str s] (.int .i64 (firstIdx (fun x => s == x) l)) := by
  refine DFun.intro ti_ok Tryz.func30 rfl (by decide +kernel) Tryz.ntmps30 rfl fun Γ => ?_
  refine Tri.seq ?_
  refine Tri.region ti_ok ?_
  conv => whnf
  refine Tri.seq ?_
  refine Tri.seq ?_
  refine Tri.region ti_ok ?_
  conv => whnf
  refine Tri.block ?_
  refine Tri.loop (α := { i : Nat // i ≤ l.length ∧ ∀ j (h : j < l.length), j < i → (s == l[j]) = false }) (fun x => [(0, .sl .none 1 (strs l)), (1, .str s), (7, .int .i64 (strs l).length), (8, .int .i64 x.1)]) (fun _ => []) (fun x => l.length - x.1) ⟨0, by simp⟩ ⟨.refl _, .refl _, .refl _, .refl _, trivial⟩ trivial ?_
  rintro ⟨i, hi, hp⟩
  dsimp only
  refine Tri.seq ?_
  refine Tri.region ti_ok ?_
  conv => whnf
  refine Tri.seq ?_
  refine Tri.cond (decide ((i : Int) < (strs l).length)) rfl (fun hc => ?_) (fun hc => ?_)
  · refine Tri.skip ?_
    conv => whnf
    refine Tri.seq ?_
    refine Tri.block ?_
    refine Tri.seq ?_
    have hia : i < l.length := by simpa [strs] using hc
    refine Tri.region ti_ok ?_
    conv => whnf
    refine Tri.seq ?_
    refine Tri.region ti_ok ?_
    conv => whnf
    refine ⟨fun _ => by simp [strs]; omega, ?_⟩
    conv => whnf
    refine ⟨.str l[i], fun _ => by simp [strs, hia], ?_⟩
    conv => whnf
    refine Tri.cond (s == l[i]) rfl (fun hc => ?_) (fun hc => ?_)
    · refine Tri.seq ?_
      refine Tri.region ti_ok ?_
      conv => whnf
      refine Tri.ret ?_
      conv => whnf
      exact intDLe (firstIdx_some (p := fun x => s == x) hia hp hc).symm
    · refine Tri.skip ?_
      conv => whnf
      refine Tri.region ti_ok ?_
      conv => whnf
      refine .inl ⟨fun _ => by simp [InR]; omega, ?_⟩
      conv => whnf
      exact ⟨⟨i + 1, by omega, fun j hj hlt => (Nat.lt_succ_iff_lt_or_eq.1 hlt).elim (hp j hj) fun e => by subst e; exact hc⟩, by show _ - (i + 1) < _ - i; omega, ⟨.refl _, .refl _, .refl _, .refl _, trivial⟩, trivial⟩
  · refine Tri.exit ?_
    conv => whnf
    refine Tri.seq ?_
    refine Tri.region ti_ok ?_
    conv => whnf
    refine Tri.ret ?_
    conv => whnf
    exact intDLe (firstIdx_none (p := fun x => s == x) fun j hj => hp j hj (by simp [strs] at hc; omega)).symm
theorem G34o (xs : List D) (hk : ∀ x ∈ xs, x.cells.length = 12) (h0 : 0 < xs.length) (h : xs.length < 1000000) : DCall Tryz.prog W0 34 [.sl .none 12 xs] Heap.none fun d H' => ∃ v, d = .sl (.own 2000 v) 12 xs ∧ H' = look [(2000, .own v xs.length 12 25)] := by
  refine DCall.intro ti_ok Tryz.func34 rfl (by decide +kernel) Tryz.ntmps34 rfl fun Γ => ?_
  refine Tri.seq ?_
  refine Tri.region ti_ok ?_
  conv => whnf
  refine Tri.seq ?_
  refine Tri.seq ?_
  refine Tri.regionX ti_ok ?_
  conv => whnf
  refine .inr (XOp.nilEq (el := 25) ti_ok rfl rfl rfl fun nb hnb => ?_)
  conv => whnf
  refine Tri.cond _ rfl (fun hc => ?_) (fun hc => ?_)
  · refine Tri.seq ?_
    refine Tri.region ti_ok ?_
    conv => whnf
    refine Tri.ret ?_
    conv => whnf
    exfalso
    have := hnb hc
    rw [this] at h0; simp at h0
  · refine Tri.skip ?_
    conv => whnf
    refine Tri.seq ?_
    refine Tri.region ti_ok ?_
    conv => whnf
    refine ⟨trivial, ?_⟩
    conv => whnf
    refine ⟨by show (0 + _) * 152 ≤ _; omega, by show 0 + _ ≤ _; omega, (fun h => by cases h), fun w => ?_⟩
    conv => whnf
    refine Tri.retK [(2, .sl (.own 2000 w) 12 xs)] [(2000, .own w xs.length 12 25)] [(2000, 7)] ⟨⟨DLe.trans (DLe.of_eq (congrArg (D.sl _ 12) (List.nil_append _))) (DLe.own _ _), trivial⟩, rfl, rfl, congrArg (fun z => some (HObj.own w z 12 25)) (Nat.zero_add _), trivial⟩ ?_
    conv => whnf
    exact ⟨_, .refl _, _, rfl, rfl⟩
theorem G36o (xs : List D) (hk : ∀ x ∈ xs, x.cells.length = 1) (h0 : 0 < xs.length) (h : xs.length < 1000000) : DCall Tryz.prog W0 36 [.sl .none 1 xs] Heap.none fun d H' => ∃ v, d = .sl (.own 2000 v) 1 xs ∧ H' = look [(2000, .own v xs.length 1 9)] := by
  refine DCall.intro ti_ok Tryz.func36 rfl (by decide +kernel) Tryz.ntmps36 rfl fun Γ => ?_
  refine Tri.seq ?_
  refine Tri.region ti_ok ?_
  conv => whnf
  refine Tri.seq ?_
  refine Tri.seq ?_
  refine Tri.regionX ti_ok ?_
  conv => whnf
  refine .inr (XOp.nilEq (el := 9) ti_ok rfl rfl rfl fun nb hnb => ?_)
  conv => whnf
  refine Tri.cond _ rfl (fun hc => ?_) (fun hc => ?_)
  · refine Tri.seq ?_
    refine Tri.region ti_ok ?_
    conv => whnf
    refine Tri.ret ?_
    conv => whnf
    exfalso
    have := hnb hc
    rw [this] at h0; simp at h0
  · refine Tri.skip ?_
    conv => whnf
    refine Tri.seq ?_
    refine Tri.region ti_ok ?_
    conv => whnf
    refine ⟨trivial, ?_⟩
    conv => whnf
    refine ⟨by show (0 + _) * 16 ≤ _; omega, by show 0 + _ ≤ _; omega, (fun h => by cases h), fun w => ?_⟩
    conv => whnf
    refine Tri.retK [(2, .sl (.own 2000 w) 1 xs)] [(2000, .own w xs.length 1 9)] [(2000, 7)] ⟨⟨DLe.trans (DLe.of_eq (congrArg (D.sl _ 1) (List.nil_append _))) (DLe.own _ _), trivial⟩, rfl, rfl, congrArg (fun z => some (HObj.own w z 1 9)) (Nat.zero_add _), trivial⟩ ?_
    conv => whnf
    exact ⟨_, .refl _, _, rfl, rfl⟩

theorem idx_nodup {l : List (List UInt8)} (hn : l.Nodup) {i : Nat} (hi : i < l.length) : firstIdx (fun x => l[i] == x) l = i :=
  firstIdx_some (p := fun x => l[i] == x) hi (fun j hj hlt => by
    have := (List.pairwise_iff_getElem.1 (List.nodup_iff_pairwise_ne.1 hn)) j i hj hi hlt
    simp only [beq_eq_false_iff_ne, ne_eq]
    exact fun e => this e.symm) (by simp)
theorem own_name {v : Int} {kids : List NV} (h : (namesR v kids).2 = 0) {i : Nat} (hi : i < kids.length) (hb : ∀ k ∈ kids, k.name.length < 1000000000) :
    OwnName v ((namesU v kids)[i]'(by rw [namesU_len]; exact hi)) (kids[i].kind == 0) ∧ (v = 0 → IsoName ((namesU v kids)[i]'(by rw [namesU_len]; exact hi)) (kids[i].kind == 0)) := by
  obtain ⟨h1, h2, h3, h4, -⟩ := namesR_ok h
  obtain ⟨U, hU, e⟩ := namesU_pick (v := v) h4 hi
  have hk : nameOk kids[i].name = true := List.all_eq_true.1 h3 _ (List.getElem_mem hi)
  have hok := pickG_ok h1 hk (U := U) (by omega)
  rw [e]
  by_cases hv : v = 0 ∨ v = 1
  · obtain ⟨j, hj, e2⟩ := pick_numS hv U kids[i] (by omega)
    obtain ⟨l, e3, _, hjol⟩ := made_shape hv hk (kids[i].kind == 0) hj
    have hbl : (pickG v U kids[i]).length < 1000000000 := by
      rw [e2, e3]; have := runesB_len l; have := hjol.2; omega
    refine ⟨⟨hok, hbl, fun h0 => ?_, fun _ => ⟨l, by rw [e2, e3], hjol⟩⟩, fun h0 => ?_⟩
    · subst h0; rw [e2]; exact (made_iso hk _ hj).valid
    · subst h0; rw [e2]; exact made_iso hk _ hj
  · have e2 : pickG v U kids[i] = kids[i].name := by rw [pickG, if_neg hv]
    rw [e2] at hok ⊢
    exact ⟨⟨hok, hb _ (List.getElem_mem hi), fun h0 => absurd (.inl h0) hv, fun h0 => absurd (.inr h0) hv⟩, fun h0 => absurd (.inl h0) hv⟩
theorem G7 (hL : LibOk W0) (v : Int) (kids : List NV) (hlen : kids.length < 1000000000) (hnl : ∀ k ∈ kids, k.name.length < 1000000000) (t : Int) (ht : 0 ≤ t ∧ t ≤ 255) : DFun Tryz.prog W0 7 [.int .i64 v, .sl .none 12 (kids.map enc), .int .u8 t] (.bool true) := by
  refine DFun.intro ti_ok Tryz.func7 rfl (by decide +kernel) Tryz.ntmps7 rfl fun Γ => ?_
  refine Tri.seq ?_
  refine Tri.region ti_ok ?_
  conv => whnf
  refine Tri.seq ?_
  refine Tri.seq ?_
  refine Tri.region ti_ok ?_
  conv => whnf
  refine ⟨[], _, fun _ => G15 hL, trivial, ?_⟩
  conv => whnf
  refine Tri.cond _ rfl (fun hc => ?_) (fun hc => ?_)
  · refine Tri.seq ?_
    refine Tri.region ti_ok ?_
    conv => whnf
    refine Tri.ret ?_
    conv => whnf
    cases hc
  · refine Tri.skip ?_
    conv => whnf
    refine Tri.seq ?_
    refine Tri.seq ?_
    refine Tri.region ti_ok ?_
    conv => whnf
    refine ⟨[.sl .none 12 (kids.map enc)], _, fun _ => G28 kids hlen, ⟨.refl _, trivial⟩, ?_⟩
    conv => whnf
    refine Tri.cond _ rfl (fun hc => ?_) (fun hc => ?_)
    · refine Tri.seq ?_
      refine Tri.region ti_ok ?_
      conv => whnf
      refine Tri.ret ?_
      conv => whnf
      exact .refl _
    · refine Tri.skip ?_
      conv => whnf
      have hlen := few_len (l := kids) (by simpa using hc)
      refine Tri.seq ?_
      refine Tri.region ti_ok ?_
      conv => whnf
      refine ⟨[.int .i64 v, .sl .none 12 (kids.map enc)], _, fun _ => F105g hL v kids hlen hnl, ⟨.refl _, .refl _, trivial⟩, ?_⟩
      conv => whnf
      refine Tri.seq ?_
      refine Tri.seq ?_
      refine Tri.region ti_ok ?_
      conv => whnf
      refine Tri.cond _ rfl (fun hc => ?_) (fun hc => ?_)
      · refine Tri.seq ?_
        refine Tri.region ti_ok ?_
        conv => whnf
        refine Tri.ret ?_
        conv => whnf
        have hb : ¬ (namesR v kids).2 = 0 := by simpa using hc
        rw [namesR_bad hb]
        exact .refl _
      · refine Tri.skip ?_
        conv => whnf
        have hr0 : (namesR v kids).2 = 0 := by simpa using hc
        obtain ⟨hvo, h64, hok, hnd, hR⟩ := namesR_ok hr0
        have hnm : (namesR v kids).1 = namesU v kids := by rw [hR]
        rw [hnm]
        have hul := namesU_len v kids
        have hund := namesU_nd hr0
        refine Tri.seq ?_
        refine Tri.seq ?_
        refine Tri.region ti_ok ?_
        conv => whnf
        refine Tri.cond _ rfl (fun hc => ?_) (fun hc => ?_)
        · refine Tri.seq ?_
          refine Tri.region ti_ok ?_
          conv => whnf
          refine Tri.ret ?_
          conv => whnf
          exfalso
          simp [strs, hul] at hc
        · refine Tri.skip ?_
          conv => whnf
          refine Tri.seq ?_
          refine Tri.seq ?_
          refine Tri.region ti_ok ?_
          conv => whnf
          refine Tri.block ?_
          refine Tri.loop (α := { i : Nat // i ≤ kids.length }) (fun x => [(0, .int .i64 v), (1, .sl .none 12 (kids.map enc)), (2, .int .u8 t), (7, .sl .none 1 (strs (namesU v kids))), (40, .sl .none 1 (strs (namesU v kids))), (41, .int .i64 (strs (namesU v kids)).length), (42, .int .i64 x.1)]) (fun _ => []) (fun x => kids.length - x.1) ⟨0, Nat.zero_le _⟩ ⟨.refl _, .refl _, .refl _, .refl _, .refl _, .refl _, .refl _, trivial⟩ trivial ?_
          rintro ⟨i, hi⟩
          dsimp only
          refine Tri.seq ?_
          refine Tri.region ti_ok ?_
          conv => whnf
          refine Tri.seq ?_
          refine Tri.cond (decide ((i : Int) < (strs (namesU v kids)).length)) rfl (fun hc => ?_) (fun hc => ?_)
          · refine Tri.skip ?_
            conv => whnf
            refine Tri.seq ?_
            refine Tri.block ?_
            refine Tri.seq ?_
            have hia : i < kids.length := by simpa [strs, hul] using hc
            have hiu : i < (namesU v kids).length := by omega
            obtain ⟨hown, hiso⟩ := own_name hr0 hia hnl
            refine Tri.region ti_ok ?_
            conv => whnf
            refine ⟨fun _ => by simp [strs]; omega, ?_⟩
            conv => whnf
            refine ⟨.str (namesU v kids)[i], fun _ => by simp [strs, hiu], ?_⟩
            conv => whnf
            refine Tri.seq ?_
            refine Tri.region ti_ok ?_
            conv => whnf
            refine ⟨fun _ => by simp; omega, ?_⟩
            conv => whnf
            refine ⟨encTop kids[i], fun _ => get_kids hia, ?_⟩
            conv => whnf
            refine Tri.seq ?_
            refine Tri.seq ?_
            refine Tri.region ti_ok ?_
            conv => whnf
            refine ⟨[.sl .none 1 (strs (namesU v kids)), .str (namesU v kids)[i]], _, fun _ => G30 _ _ (by omega), ⟨.refl _, .refl _, trivial⟩, ?_⟩
            conv => whnf
            refine ⟨fun h => h, ?_⟩
            conv => whnf
            refine ⟨fun h => h, ?_⟩
            conv => whnf
            refine ⟨fun h => h, ?_⟩
            conv => whnf
            refine ⟨[.int .i64 v, .str (namesU v kids)[i], .bool (kids[i].kind == 0)], _, fun h => G31o hL v hvo _ _ hown, ⟨.refl _, .refl _, .refl _, trivial⟩, ?_⟩
            conv => whnf
            refine ⟨fun h => h, ?_⟩
            conv => whnf
            refine ⟨fun h0 h => by first | exact h | (rw [h]; rfl) | (rw [h0, h]; rfl), ?_⟩
            conv => whnf
            refine Tri.cond _ rfl (fun hc => ?_) (fun hc => ?_)
            · refine Tri.seq ?_
              refine Tri.region ti_ok ?_
              conv => whnf
              refine Tri.ret ?_
              conv => whnf
              exfalso
              rw [idx_nodup hund hiu] at hc
              simp at hc
            · refine Tri.skip ?_
              conv => whnf
              refine Tri.seq ?_
              refine Tri.seq ?_
              refine Tri.region ti_ok ?_
              conv => whnf
              refine Tri.cond _ rfl (fun hc => ?_) (fun hc => ?_)
              · refine Tri.exit ?_
                conv => whnf
                refine Tri.region ti_ok ?_
                conv => whnf
                refine .inl ⟨fun _ => by simp [InR]; omega, ?_⟩
                conv => whnf
                exact ⟨⟨i + 1, hia⟩, by show _ - (i + 1) < _ - i; omega, ⟨.refl _, .refl _, .refl _, .refl _, .refl _, .refl _, .refl _, trivial⟩, trivial⟩
              · refine Tri.skip ?_
                conv => whnf
                have h0 : v = 0 := by simpa using hc
                obtain ⟨hiv, hi1, hi2⟩ := hiso h0
                have hidl : (identI (namesU v kids)[i] (kids[i].kind == 0)).1.length < 1000000000 := by
                  obtain ⟨U, hU, e⟩ := namesU_pick (v := v) hnd hia
                  have hk : nameOk kids[i].name = true := List.all_eq_true.1 hok _ (List.getElem_mem hia)
                  obtain ⟨j, hj, e2⟩ := pick_numS (.inl h0) U kids[i] (by omega)
                  obtain ⟨l, e3, _, hjol⟩ := made_shape (.inl h0) hk (kids[i].kind == 0) hj
                  have hbl : (namesU v kids)[i].length ≤ 256 := by
                    rw [e, e2, e3]; have := runesB_len l; have := hjol.2; omega
                  rw [identI, if_pos hiv]
                  split
                  · show (namesU v kids)[i].length < _; omega
                  · split <;> simp <;> omega
                refine Tri.seq ?_
                refine Tri.region ti_ok ?_
                conv => whnf
                refine ⟨[.str (namesU v kids)[i], .bool (kids[i].kind == 0)], _, fun _ => G32 hL _ _ hown.2.1, ⟨.refl _, .refl _, trivial⟩, ?_⟩
                conv => whnf
                refine Tri.seq ?_
                refine Tri.region ti_ok ?_
                conv => whnf
                refine ⟨[.str (identI (namesU v kids)[i] (kids[i].kind == 0)).1, .bool (kids[i].kind == 0)], _, fun _ => G33 hL _ _ hidl, ⟨.refl _, .refl _, trivial⟩, ?_⟩
                conv => whnf
                refine Tri.seq ?_
                refine Tri.region ti_ok ?_
                conv => whnf
                refine ⟨fun h => h, ?_⟩
                conv => whnf
                refine ⟨fun h0 h => by first | exact h | (rw [h]; rfl) | (rw [h0, h]; rfl), ?_⟩
                conv => whnf
                refine ⟨fun h => h, ?_⟩
                conv => whnf
                refine ⟨fun h => h, ?_⟩
                conv => whnf
                refine ⟨fun h0 h => by first | exact h | (rw [h]; rfl) | (rw [h0, h]; rfl), ?_⟩
                conv => whnf
                refine Tri.cond _ rfl (fun hc => ?_) (fun hc => ?_)
                · refine Tri.seq ?_
                  refine Tri.region ti_ok ?_
                  conv => whnf
                  refine Tri.ret ?_
                  conv => whnf
                  exfalso
                  rw [hi1, hi2] at hc
                  simp at hc
                · refine Tri.skip ?_
                  conv => whnf
                  refine Tri.region ti_ok ?_
                  conv => whnf
                  refine .inl ⟨fun _ => by simp [InR]; omega, ?_⟩
                  conv => whnf
                  exact ⟨⟨i + 1, hia⟩, by show _ - (i + 1) < _ - i; omega, ⟨.refl _, .refl _, .refl _, .refl _, .refl _, .refl _, .refl _, trivial⟩, trivial⟩
          · refine Tri.exit ?_
            conv => whnf
            refine Tri.seq ?_
            refine Tri.seq ?_
            refine Tri.region ti_ok ?_
            conv => whnf
            refine Tri.cond _ rfl (fun hc => ?_) (fun hc => ?_)
            · refine Tri.seq ?_
              refine Tri.region ti_ok ?_
              conv => whnf
              refine Tri.ret ?_
              conv => whnf
              exact .refl _
            · refine Tri.skip ?_
              conv => whnf
              have hk0 : 0 < kids.length := by
                rcases Nat.eq_zero_or_pos kids.length with h | h
                · exfalso
                  rw [show (List.map enc kids).length = kids.length from List.length_map .., h] at hc
                  exact absurd hc (by decide)
                · exact h
              have hmod : (t.tmod (kids.length : Int)) = ((t.toNat % kids.length : Nat) : Int) := by
                obtain ⟨n, rfl⟩ : ∃ n : Nat, t = n := ⟨t.toNat, by omega⟩
                rfl
              have hrl : t.toNat % kids.length < kids.length := Nat.mod_lt _ hk0
              refine Tri.seq ?_
              refine Tri.region ti_ok ?_
              conv => whnf
              refine .inl ⟨by simp [InR]; omega, ?_⟩
              conv => whnf
              refine ⟨fun _ => by rw [List.length_map]; omega, ?_⟩
              conv => whnf
              rw [show ((kids.map enc).length : Int) = (kids.length : Int) by simp, hmod]
              generalize t.toNat % kids.length = r at *
              have hkd : ((kids.map enc).take (kids.map enc).length).drop r = (kids.drop r).map enc := by rw [List.take_length, List.map_drop]
              have hkt : ((kids.map enc).take r).drop 0 = (kids.take r).map enc := by rw [List.map_take]; rfl
              have hcd : ∀ x ∈ (kids.drop r).map enc, x.cells.length = 12 := fun x hx => by obtain ⟨z, _, rfl⟩ := List.mem_map.1 hx; cases z; rfl
              have hd0 : 0 < ((kids.drop r).map enc).length := by simp; omega
              have hdl : ((kids.drop r).map enc).length < 1000000 := by simp; omega
              refine Tri.seq ?_
              refine Tri.bitsG ti_ok mixed (α := Value × Value) (fun x f => [(0, .int .i64 v), (1, .sl .none 12 (kids.map enc)), (7, .sl .none 1 (strs (namesU v kids))), (16, .int .i64 (r : Int)), (99, bif f 0 then .sl .none 12 (kids.map enc) else .any), (100, bif f 1 then .int .i64 (r : Int) else .any), (101, bif f 2 then .sl .none 12 ((kids.drop r).map enc) else .any), (102, bif f 3 then .sl (.own 102 x.1) 12 ((kids.drop r).map enc) else .any), (103, bif f 4 then .sl .none 12 (kids.map enc) else .any), (104, bif f 5 then .int .i64 (r : Int) else .any), (105, bif f 6 then .sl .none 12 ((kids.take r).map enc) else .any), (106, bif f 7 then .sl (.own 106 x.2) 12 (((kids.drop r).map enc) ++ ((kids.take r).map enc)) else .any), (17, bif f 8 then .sl (.own 106 x.2) 12 (((kids.drop r).map enc) ++ ((kids.take r).map enc)) else .any)])
                (fun x f => look (bif f 7 then [(106, .own x.2 (((kids.drop r).map enc).length + ((kids.take r).map enc).length) 12 25)] else bif f 3 then [(102, .own x.1 ((kids.drop r).map enc).length 12 25)] else [])) (by decide +kernel) (.bool true, .bool true) ?_ ?_ ?_ ?_
              · exact ⟨.refl _, .refl _, .refl _, .refl _, .any _, .any _, .any _, .any _, .any _, .any _, .any _, .any _, .any _, trivial⟩
              · exact fun k o h => by cases h
              · conv => whnf
                refine ⟨fun x f hI => ?_, ?_⟩
                · obtain ⟨f, rfl⟩ := off f 7 (hI.no 7 3 rfl (hI.no 3 2 rfl (hI.no 2 0 rfl rfl)))
                  conv => whnf
                  refine ⟨trivial, .inl ?_⟩
                  conv => whnf
                  exact ⟨x, ⟨.refl _, .refl _, .refl _, .refl _, .refl _, .refl _, .refl _, .refl _, .refl _, .refl _, .refl _, .refl _, .refl _, trivial⟩, fun k o h => h⟩
                refine ⟨fun x f hI => ?_, ?_⟩
                · obtain ⟨f, rfl⟩ := off f 7 (hI.no 7 3 rfl (hI.no 3 2 rfl (hI.no 2 1 rfl rfl)))
                  conv => whnf
                  refine ⟨trivial, .inl ?_⟩
                  conv => whnf
                  exact ⟨x, ⟨.refl _, .refl _, .refl _, .refl _, .refl _, .refl _, .refl _, .refl _, .refl _, .refl _, .refl _, .refl _, .refl _, trivial⟩, fun k o h => h⟩
                refine ⟨fun x f hI => ?_, ?_⟩
                · obtain ⟨f, rfl⟩ := off f 7 (hI.no 7 3 rfl (hI.no 3 2 rfl rfl))
                  conv => whnf
                  refine ⟨trivial, .inl ?_⟩
                  conv => whnf
                  refine ⟨fun _ => by simp; omega, ?_⟩
                  conv => whnf
                  exact ⟨x, ⟨.refl _, .refl _, .refl _, .refl _, .refl _, .refl _, DLe.of_eq (congrArg (D.sl .none 12) hkd), .refl _, .refl _, .refl _, .refl _, .refl _, .refl _, trivial⟩, fun k o h => h⟩
                refine ⟨fun x f hI => ?_, ?_⟩
                · obtain ⟨f, rfl⟩ := off f 7 (hI.no 7 3 rfl rfl)
                  conv => whnf
                  refine ⟨trivial, .inr ?_⟩
                  refine XOp.call rfl [.sl .none 12 ((kids.drop r).map enc)] [(2000, 102)] (DCall.fresh rfl (G34o ((kids.drop r).map enc) hcd hd0 hdl)) rfl ⟨.refl _, trivial⟩ ?_
                  rintro d H' ⟨w, rfl, rfl⟩
                  refine ⟨_, DLe.own _ 102, ?_⟩
                  exact ⟨(w, x.2), ⟨.refl _, .refl _, .refl _, .refl _, .refl _, .refl _, .refl _, .refl _, .refl _, .refl _, .refl _, .refl _, .refl _, trivial⟩, SubHF.of (hs := [(102, .own w ((kids.drop r).map enc).length 12 25)]) ⟨rfl, trivial⟩⟩
                refine ⟨fun x f hI => ?_, ?_⟩
                · obtain ⟨f, rfl⟩ := off f 7 (hI.no 7 6 rfl (hI.no 6 4 rfl rfl))
                  conv => whnf
                  refine ⟨trivial, .inl ?_⟩
                  conv => whnf
                  exact ⟨x, ⟨.refl _, .refl _, .refl _, .refl _, .refl _, .refl _, .refl _, .refl _, .refl _, .refl _, .refl _, .refl _, .refl _, trivial⟩, fun k o h => h⟩
                refine ⟨fun x f hI => ?_, ?_⟩
                · obtain ⟨f, rfl⟩ := off f 7 (hI.no 7 6 rfl (hI.no 6 5 rfl rfl))
                  conv => whnf
                  refine ⟨trivial, .inl ?_⟩
                  conv => whnf
                  exact ⟨x, ⟨.refl _, .refl _, .refl _, .refl _, .refl _, .refl _, .refl _, .refl _, .refl _, .refl _, .refl _, .refl _, .refl _, trivial⟩, fun k o h => h⟩
                refine ⟨fun x f hI => ?_, ?_⟩
                · obtain ⟨f, rfl⟩ := off f 7 (hI.no 7 6 rfl rfl)
                  conv => whnf
                  refine ⟨trivial, .inl ?_⟩
                  conv => whnf
                  refine ⟨fun _ => by simp; omega, ?_⟩
                  conv => whnf
                  exact ⟨x, ⟨.refl _, .refl _, .refl _, .refl _, .refl _, .refl _, .refl _, .refl _, .refl _, .refl _, DLe.of_eq (congrArg (D.sl .none 12) hkt), .refl _, .refl _, trivial⟩, fun k o h => h⟩
                refine ⟨fun x f hI => ?_, ?_⟩
                · obtain ⟨f, rfl⟩ := off f 8 (hI.no 8 7 rfl rfl)
                  conv => whnf
                  refine ⟨trivial, .inl ?_⟩
                  conv => whnf
                  refine ⟨rfl, rfl, ?_⟩
                  conv => whnf
                  refine ⟨by show (_ + _) * _ ≤ _; simp; omega, by show _ + _ ≤ _; simp; omega, (fun h => by cases h), fun w => ?_⟩
                  exact ⟨(x.1, w), ⟨.refl _, .refl _, .refl _, .refl _, .refl _, .refl _, .refl _, .refl _, .refl _, .refl _, .refl _, .refl _, .refl _, trivial⟩, SubHF.of (hs := [(106, .own w (((kids.drop r).map enc).length + ((kids.take r).map enc).length) 12 25)]) ⟨rfl, trivial⟩⟩
                refine ⟨fun x f hI => ?_, ?_⟩
                · conv => whnf
                  refine ⟨trivial, .inl ?_⟩
                  conv => whnf
                  exact ⟨x, ⟨.refl _, .refl _, .refl _, .refl _, .refl _, .refl _, .refl _, .refl _, .refl _, .refl _, .refl _, .refl _, .refl _, trivial⟩, fun k o h => h⟩
                exact trivial
              · intro x f hf
                conv => whnf
                refine Tri.forgetG [(0, .int .i64 v), (7, .sl .none 1 (strs (namesU v kids))), (16, .int .i64 (r : Int)), (17, .sl .none 12 ((kids.drop r ++ kids.take r).map enc))] Heap.none (.same ⟨.refl _, .refl _, .refl _, ?_, trivial⟩ (fun _ _ h => by cases h)) ?_
                · show DLe (bif f 8 then _ else _) _
                  rw [hf 8 (by decide +kernel), List.map_append]; exact DLe.unown
                have hrt := turn_names hr0 r
                have ht0 : (namesR v (kids.drop r ++ kids.take r)).2 = 0 := by rw [hrt]
                have hfin : DFun Tryz.prog W0 35 [.sl .none 1 (strs (namesR v (kids.drop r ++ kids.take r)).1), .sl .none 1 (((strs (namesU v kids)).drop r) ++ ((strs (namesU v kids)).take r))] (.bool true) := by
                  have := F23 (W0 := W0) (namesR v (kids.drop r ++ kids.take r)).1 ((namesU v kids).drop r ++ (namesU v kids).take r) (by rw [hrt]; simp [namesU_len]; omega) (by simp [namesU_len]; omega)
                  rw [hrt] at this ⊢
                  simpa [strs, List.map_append, List.map_drop, List.map_take] using this
                have hsd : (((strs (namesU v kids)).take (strs (namesU v kids)).length).drop r) = ((strs (namesU v kids)).drop r) := by rw [List.take_length]
                have hst : (((strs (namesU v kids)).take r).drop 0) = ((strs (namesU v kids)).take r) := rfl
                have hsc : ∀ x ∈ ((strs (namesU v kids)).drop r), x.cells.length = 1 := fun x hx => by obtain ⟨z, _, rfl⟩ := List.mem_map.1 (List.mem_of_mem_drop hx); rfl
                have hsd0 : 0 < ((strs (namesU v kids)).drop r).length := by simp [strs, namesU_len]; omega
                have hsdl : ((strs (namesU v kids)).drop r).length < 1000000 := by simp [strs, namesU_len]; omega
                refine Tri.seq ?_
                refine Tri.region ti_ok ?_
                conv => whnf
                refine ⟨[.int .i64 v, .sl .none 12 ((kids.drop r ++ kids.take r).map enc)], _, fun _ => F105g hL v (kids.drop r ++ kids.take r) (by simp; omega) (fun k hk => hnl k ((List.mem_append.1 hk).elim List.mem_of_mem_drop List.mem_of_mem_take)), ⟨.refl _, .refl _, trivial⟩, ?_⟩
                conv => whnf
                refine Tri.seq ?_
                refine Tri.bitsG ti_ok mixed (α := Value × Value) (fun x f => [(7, .sl .none 1 (strs (namesU v kids))), (8, .int .i64 (namesR v (kids.drop r ++ kids.take r)).2), (16, .int .i64 (r : Int)), (18, .sl .none 1 (strs (namesR v (kids.drop r ++ kids.take r)).1)), (113, bif f 0 then .int .i64 0 else .any), (114, bif f 1 then .bool true else .any), (115, bif f 2 then .bool true else .any), (116, bif f 3 then .sl .none 1 (strs (namesR v (kids.drop r ++ kids.take r)).1) else .any), (117, bif f 4 then .sl .none 1 (strs (namesU v kids)) else .any), (118, bif f 5 then .int .i64 (r : Int) else .any), (119, bif f 6 then .sl .none 1 ((strs (namesU v kids)).drop r) else .any), (120, bif f 7 then .sl (.own 120 x.1) 1 ((strs (namesU v kids)).drop r) else .any), (121, bif f 8 then .sl .none 1 (strs (namesU v kids)) else .any), (122, bif f 9 then .int .i64 (r : Int) else .any), (123, bif f 10 then .sl .none 1 ((strs (namesU v kids)).take r) else .any), (124, bif f 11 then .sl (.own 124 x.2) 1 (((strs (namesU v kids)).drop r) ++ ((strs (namesU v kids)).take r)) else .any), (125, bif f 12 then .bool true else .any), (126, bif f 13 then .bool true else .any), (6, bif f 14 then .bool true else .any)])
                  (fun x f => look (bif f 11 then [(124, .own x.2 (((strs (namesU v kids)).drop r).length + ((strs (namesU v kids)).take r).length) 1 9)] else bif f 7 then [(120, .own x.1 ((strs (namesU v kids)).drop r).length 1 9)] else [])) (by decide +kernel) (.bool true, .bool true) ?_ ?_ ?_ ?_
                · exact ⟨.refl _, .refl _, .refl _, .refl _, .any _, .any _, .any _, .any _, .any _, .any _, .any _, .any _, .any _, .any _, .any _, .any _, .any _, .any _, .any _, trivial⟩
                · exact fun k o h => by cases h
                · conv => whnf
                  refine ⟨fun x f hI => ?_, ?_⟩
                  · obtain ⟨f, rfl⟩ := off f 11 (hI.no 11 7 rfl (hI.no 7 2 rfl (hI.no 2 1 rfl (hI.no 1 0 rfl rfl))))
                    conv => whnf
                    refine ⟨trivial, .inl ?_⟩
                    conv => whnf
                    exact ⟨x, ⟨.refl _, .refl _, .refl _, .refl _, DLe.of_eq (congrArg (D.int .i64) ht0), .refl _, .refl _, .refl _, .refl _, .refl _, .refl _, .refl _, .refl _, .refl _, .refl _, .refl _, .refl _, .refl _, .refl _, trivial⟩, fun k o h => h⟩
                  refine ⟨fun x f hI => ?_, ?_⟩
                  · obtain ⟨f, rfl⟩ := off f 11 (hI.no 11 7 rfl (hI.no 7 2 rfl (hI.no 2 1 rfl rfl)))
                    conv => whnf
                    refine ⟨trivial, .inl ?_⟩
                    conv => whnf
                    exact ⟨x, ⟨.refl _, .refl _, .refl _, .refl _, .refl _, .refl _, .refl _, .refl _, .refl _, .refl _, .refl _, .refl _, .refl _, .refl _, .refl _, .refl _, .refl _, .refl _, .refl _, trivial⟩, fun k o h => h⟩
                  refine ⟨fun x f hI => ?_, ?_⟩
                  · obtain ⟨f, rfl⟩ := off f 11 (hI.no 11 7 rfl (hI.no 7 2 rfl rfl))
                    conv => whnf
                    refine ⟨trivial, .inl ?_⟩
                    conv => whnf
                    exact ⟨x, ⟨.refl _, .refl _, .refl _, .refl _, .refl _, .refl _, .refl _, .refl _, .refl _, .refl _, .refl _, .refl _, .refl _, .refl _, .refl _, .refl _, .refl _, .refl _, .refl _, trivial⟩, fun k o h => h⟩
                  refine ⟨fun x f hI => ?_, ?_⟩
                  · conv => whnf
                    refine ⟨⟨_, rfl, rfl⟩, .inl ?_⟩
                    conv => whnf
                    exact ⟨x, ⟨.refl _, .refl _, .refl _, .refl _, .refl _, .refl _, .refl _, .refl _, .refl _, .refl _, .refl _, .refl _, .refl _, .refl _, .refl _, .refl _, .refl _, .refl _, .refl _, trivial⟩, fun k o h => h⟩
                  refine ⟨fun x f hI => ?_, ?_⟩
                  · obtain ⟨f, rfl⟩ := off f 11 (hI.no 11 7 rfl (hI.no 7 6 rfl (hI.no 6 4 rfl rfl)))
                    conv => whnf
                    refine ⟨⟨_, rfl, rfl⟩, .inl ?_⟩
                    conv => whnf
                    exact ⟨x, ⟨.refl _, .refl _, .refl _, .refl _, .refl _, .refl _, .refl _, .refl _, .refl _, .refl _, .refl _, .refl _, .refl _, .refl _, .refl _, .refl _, .refl _, .refl _, .refl _, trivial⟩, fun k o h => h⟩
                  refine ⟨fun x f hI => ?_, ?_⟩
                  · obtain ⟨f, rfl⟩ := off f 11 (hI.no 11 7 rfl (hI.no 7 6 rfl (hI.no 6 5 rfl rfl)))
                    conv => whnf
                    refine ⟨⟨_, rfl, rfl⟩, .inl ?_⟩
                    conv => whnf
                    exact ⟨x, ⟨.refl _, .refl _, .refl _, .refl _, .refl _, .refl _, .refl _, .refl _, .refl _, .refl _, .refl _, .refl _, .refl _, .refl _, .refl _, .refl _, .refl _, .refl _, .refl _, trivial⟩, fun k o h => h⟩
                  refine ⟨fun x f hI => ?_, ?_⟩
                  · obtain ⟨f, rfl⟩ := off f 11 (hI.no 11 7 rfl (hI.no 7 6 rfl rfl))
                    conv => whnf
                    refine ⟨⟨_, rfl, rfl⟩, .inl ?_⟩
                    conv => whnf
                    refine ⟨fun _ => by simp [strs, namesU_len]; omega, ?_⟩
                    conv => whnf
                    exact ⟨x, ⟨.refl _, .refl _, .refl _, .refl _, .refl _, .refl _, .refl _, .refl _, .refl _, .refl _, DLe.of_eq (congrArg (D.sl .none 1) hsd), .refl _, .refl _, .refl _, .refl _, .refl _, .refl _, .refl _, .refl _, trivial⟩, fun k o h => h⟩
                  refine ⟨fun x f hI => ?_, ?_⟩
                  · obtain ⟨f, rfl⟩ := off f 11 (hI.no 11 7 rfl rfl)
                    conv => whnf
                    refine ⟨⟨_, rfl, rfl⟩, .inr ?_⟩
                    refine XOp.call rfl [.sl .none 1 ((strs (namesU v kids)).drop r)] [(2000, 120)] (DCall.fresh rfl (G36o ((strs (namesU v kids)).drop r) hsc hsd0 hsdl)) rfl ⟨.refl _, trivial⟩ ?_
                    rintro d H' ⟨w, rfl, rfl⟩
                    refine ⟨_, DLe.own _ 120, ?_⟩
                    exact ⟨(w, x.2), ⟨.refl _, .refl _, .refl _, .refl _, .refl _, .refl _, .refl _, .refl _, .refl _, .refl _, .refl _, .refl _, .refl _, .refl _, .refl _, .refl _, .refl _, .refl _, .refl _, trivial⟩, SubHF.of (hs := [(120, .own w ((strs (namesU v kids)).drop r).length 1 9)]) ⟨rfl, trivial⟩⟩
                  refine ⟨fun x f hI => ?_, ?_⟩
                  · obtain ⟨f, rfl⟩ := off f 11 (hI.no 11 10 rfl (hI.no 10 8 rfl rfl))
                    conv => whnf
                    refine ⟨⟨_, rfl, rfl⟩, .inl ?_⟩
                    conv => whnf
                    exact ⟨x, ⟨.refl _, .refl _, .refl _, .refl _, .refl _, .refl _, .refl _, .refl _, .refl _, .refl _, .refl _, .refl _, .refl _, .refl _, .refl _, .refl _, .refl _, .refl _, .refl _, trivial⟩, fun k o h => h⟩
                  refine ⟨fun x f hI => ?_, ?_⟩
                  · obtain ⟨f, rfl⟩ := off f 11 (hI.no 11 10 rfl (hI.no 10 9 rfl rfl))
                    conv => whnf
                    refine ⟨⟨_, rfl, rfl⟩, .inl ?_⟩
                    conv => whnf
                    exact ⟨x, ⟨.refl _, .refl _, .refl _, .refl _, .refl _, .refl _, .refl _, .refl _, .refl _, .refl _, .refl _, .refl _, .refl _, .refl _, .refl _, .refl _, .refl _, .refl _, .refl _, trivial⟩, fun k o h => h⟩
                  refine ⟨fun x f hI => ?_, ?_⟩
                  · obtain ⟨f, rfl⟩ := off f 11 (hI.no 11 10 rfl rfl)
                    conv => whnf
                    refine ⟨⟨_, rfl, rfl⟩, .inl ?_⟩
                    conv => whnf
                    refine ⟨fun _ => by simp [strs, namesU_len]; omega, ?_⟩
                    conv => whnf
                    exact ⟨x, ⟨.refl _, .refl _, .refl _, .refl _, .refl _, .refl _, .refl _, .refl _, .refl _, .refl _, .refl _, .refl _, .refl _, .refl _, DLe.of_eq (congrArg (D.sl .none 1) hst), .refl _, .refl _, .refl _, .refl _, trivial⟩, fun k o h => h⟩
                  refine ⟨fun x f hI => ?_, ?_⟩
                  · conv => whnf
                    refine ⟨⟨_, rfl, rfl⟩, .inl ?_⟩
                    conv => whnf
                    refine ⟨rfl, rfl, ?_⟩
                    conv => whnf
                    refine ⟨by show (_ + _) * _ ≤ _; simp [strs, namesU_len]; omega, by show _ + _ ≤ _; simp [strs, namesU_len]; omega, (fun h => by cases h), fun w => ?_⟩
                    exact ⟨(x.1, w), ⟨.refl _, .refl _, .refl _, .refl _, .refl _, .refl _, .refl _, .refl _, .refl _, .refl _, .refl _, .refl _, .refl _, .refl _, .refl _, .refl _, .refl _, .refl _, .refl _, trivial⟩, SubHF.of (hs := [(124, .own w (((strs (namesU v kids)).drop r).length + ((strs (namesU v kids)).take r).length) 1 9)]) ⟨rfl, trivial⟩⟩
                  refine ⟨fun x f hI => ?_, ?_⟩
                  · conv => whnf
                    refine ⟨⟨_, rfl, rfl⟩, .inl ?_⟩
                    conv => whnf
                    refine ⟨[.sl .none 1 (strs (namesR v (kids.drop r ++ kids.take r)).1), .sl .none 1 (((strs (namesU v kids)).drop r) ++ ((strs (namesU v kids)).take r))], _, fun _ => hfin, ⟨.refl _, DLe.unown, trivial⟩, ?_⟩
                    conv => whnf
                    exact ⟨x, ⟨.refl _, .refl _, .refl _, .refl _, .refl _, .refl _, .refl _, .refl _, .refl _, .refl _, .refl _, .refl _, .refl _, .refl _, .refl _, .refl _, .refl _, .refl _, .refl _, trivial⟩, fun k o h => h⟩
                  refine ⟨fun x f hI => ?_, ?_⟩
                  · conv => whnf
                    refine ⟨trivial, .inl ?_⟩
                    conv => whnf
                    exact ⟨x, ⟨.refl _, .refl _, .refl _, .refl _, .refl _, .refl _, .refl _, .refl _, .refl _, .refl _, .refl _, .refl _, .refl _, .refl _, .refl _, .refl _, .refl _, .refl _, .refl _, trivial⟩, fun k o h => h⟩
                  refine ⟨fun x f hI => ?_, ?_⟩
                  · conv => whnf
                    refine ⟨trivial, .inl ?_⟩
                    conv => whnf
                    exact ⟨x, ⟨.refl _, .refl _, .refl _, .refl _, .refl _, .refl _, .refl _, .refl _, .refl _, .refl _, .refl _, .refl _, .refl _, .refl _, .refl _, .refl _, .refl _, .refl _, .refl _, trivial⟩, fun k o h => h⟩
                  exact trivial
                · intro x f hf
                  conv => whnf
                  refine Tri.forgetG [(6, .bool true)] Heap.none (.same ⟨?_, trivial⟩ (fun _ _ h => by cases h)) ?_
                  · show DLe (bif f 14 then _ else _) _
                    rw [hf 14 (by decide +kernel)]; exact .refl _
                  refine Tri.ret ?_
                  conv => whnf
                  exact .refl _
end Go.Tame.V
