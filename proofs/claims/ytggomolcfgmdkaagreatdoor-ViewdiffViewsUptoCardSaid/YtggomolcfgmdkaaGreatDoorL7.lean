/- A program logic of my own over the model, and contracts of this program's functions by it: part 7. No conditions of its own: each theorem states its own. -/
import Derived.Test.YtggomolcfgmdkaaGreatDoorL6
set_option linter.unnecessarySimpa false
set_option linter.unusedSimpArgs false
set_option linter.unusedVariables false
/- Contracts: the other way of trees: Sort. By program (mk53.py, mk.py). -/
namespace Go.Tame.V
open Go Go.Proofs
variable {W0 : World}
set_option maxRecDepth 10000
set_option linter.unusedVariables false
set_option linter.unusedSimpArgs false

mutual
/-- Few kids, and few streams, everywhere. -/
def okZ : NV → Prop
  | .mk _ _ _ _ _ _ _ _ _ _ ks ss => ks.length ≤ 64 ∧ ss.length < 1000000000 ∧ okZL ks
def okZL : List NV → Prop
  | [] => True
  | k :: r => okZ k ∧ okZL r
end
theorem okZ_eq (n : NV) : okZ n ↔ n.kids.length ≤ 64 ∧ n.streams.length < 1000000000 ∧ okZL n.kids := by cases n; simp only [okZ]
theorem okZL_mem : ∀ {l : List NV}, okZL l ↔ ∀ k ∈ l, okZ k
  | [] => by simp [okZL]
  | x :: r => by simp only [okZL, okZL_mem (l := r), List.forall_mem_cons]
theorem posN_first {α : Type} {key : α → List UInt8} {out : List α} {x : α} {p : Nat} (h : p < out.length) (hb : Op.bytesLess (key x) (key out[p]) = true) : posN key out x (p + 1) = posN key out x p := by
  simp only [posN, List.getElem?_eq_getElem h, hb, if_true]
theorem posN_stop {α : Type} {key : α → List UInt8} {out : List α} {x : α} {p : Nat} (h : p < out.length) (hb : Op.bytesLess (key x) (key out[p]) = false) : posN key out x (p + 1) = p + 1 := by
  simp only [posN, List.getElem?_eq_getElem h]; rw [if_neg (by rw [hb]; simp)]
theorem insS_split {α : Type} {key : α → List UInt8} {out : List α} {x : α} {p : Nat} (h : posN key out x out.length = p) : insS key out x = out.take p ++ x :: out.drop p := by subst h; rfl
theorem isort_take {α β : Type} {key : α → List UInt8} {f : β → α} {l : List β} {i : Nat} (h : i < l.length) : isort key ((l.take (i + 1)).map f) = insS key (isort key ((l.take i).map f)) (f l[i]) := by
  rw [List.take_succ_eq_append_getElem h, List.map_append, List.map_cons, List.map_nil, isort_snoc]

theorem F74 : ∀ (N : Nat) (n : NV), sz n < N → okZ n → DFun Tryz.prog W0 74 [encTop n] (encTop (srtT n)) := by
  refine fun N => Nat.rec (fun n h => absurd h (Nat.not_lt_zero _)) (fun N ih n hN hok => ?_) N
  obtain ⟨h64, hsn, hokl⟩ := (okZ_eq n).1 hok
  rw [okZL_mem] at hokl
  refine DFun.intro ti_ok Tryz.func74 rfl (by decide +kernel) Tryz.ntmps74 rfl fun Γ => ?_
  refine Tri.seq ?_
  refine Tri.region ti_ok ?_
  conv => whnf
  intro b1
  conv => whnf
  intro b2
  conv => whnf
  refine Tri.seq ?_
  refine Tri.region ti_ok ?_
  conv => whnf
  refine ⟨trivial, ?_⟩
  conv => whnf
  refine Tri.seq ?_
  refine Tri.seq ?_
  refine Tri.region ti_ok ?_
  conv => whnf
  refine Tri.block ?_
  refine Tri.loopK (α := { i : Nat // i ≤ n.kids.length }) (fun y => [(1, .box 1 b1 0), (2, .box 2 b2 0), (3, .sl .none 12 ((isort NV.name ((n.kids.take y.1).map srtT)).map encTop)), (4, .int .i64 y.1)]) (fun _ => [(1, .box b1 (cellsN n)), (2, .box b2 [.str [], .int .i64 0, .str [], .str [], .int .i64 0, .int .i64 0, .int .i64 0, .int .i64 0, .int .i64 0, .int .i64 0, .nils, .nils])]) (fun y => n.kids.length - y.1) ⟨0, Nat.zero_le _⟩ [(1, 1), (2, 2)]
    ⟨⟨.refl _, .refl _, DLe.full, .refl _, trivial⟩, rfl, rfl, rfl, rfl, rfl, trivial⟩ ?_
  rintro ⟨i, hi⟩
  dsimp only at hi ⊢
  refine Tri.seq ?_
  refine Tri.seq ?_
  refine Tri.region ti_ok ?_
  conv => whnf
  refine ⟨rfl, ?_⟩
  conv => whnf
  refine Tri.cond _ rfl (fun hc => ?_) (fun hc => ?_)
  · refine Tri.skip ?_
    conv => whnf
    have hia : i < n.kids.length := by simpa using hc
    have hkz := kid_sz hia
    have hOl : (isort NV.name ((n.kids.take i).map srtT)).length = i := by rw [isort_len]; simp; omega
    have hst := isort_take (key := NV.name) (f := srtT) hia
    generalize hOO : isort NV.name ((n.kids.take i).map srtT) = O at *
    refine Tri.seq ?_
    refine Tri.block ?_
    refine Tri.seq ?_
    refine Tri.region ti_ok ?_
    conv => whnf
    refine ⟨rfl, ?_⟩
    conv => whnf
    refine ⟨fun _ => by simp; omega, ?_⟩
    conv => whnf
    refine ⟨encTop n.kids[i], fun _ => get_kids hia, ?_⟩
    conv => whnf
    refine ⟨[encTop n.kids[i]], _, fun _ => ih n.kids[i] (by omega) (hokl _ (List.getElem_mem hia)), ⟨.refl _, trivial⟩, ?_⟩
    conv => whnf
    generalize hxx : srtT n.kids[i] = x at *
    intro b5
    conv => whnf
    refine ⟨rfl, ?_⟩
    conv => whnf
    refine Tri.seq ?_
    refine Tri.region ti_ok ?_
    conv => whnf
    refine Tri.seq ?_
    refine Tri.block ?_
    refine Tri.loopK (α := { p : Nat // p ≤ i ∧ posN NV.name O x O.length = posN NV.name O x p }) (fun y => [(1, .box 1 b1 0), (2, .box 2 b2 0), (3, .sl .none 12 (O.map encTop)), (4, .int .i64 i), (5, .box 5 b5 0), (6, .int .i64 y.1)]) (fun _ => [(1, .box b1 (cellsN n)), (2, .box b2 [.str [], .int .i64 0, .str [], .str [], .int .i64 0, .int .i64 0, .int .i64 0, .int .i64 0, .int .i64 0, .int .i64 0, .nils, .nils]), (5, .box b5 (cellsN x))]) (fun y => y.1) ⟨i, Nat.le_refl _, by rw [hOl]⟩ [(1, 1), (2, 2), (5, 5)]
      ⟨⟨.refl _, .refl _, .refl _, .refl _, .refl _, DLe.of_eq (congrArg (D.int .i64) (by simp [hOl])), trivial⟩, rfl, rfl, rfl, rfl, rfl, rfl, rfl, trivial⟩ ?_
    rintro ⟨p, hp, hpos⟩
    dsimp only at hp hpos ⊢
    have hgo : ∀ j, (h : j < O.length) → (O.map encTop)[j]? = some (encTop O[j]) := fun j h => by simp [h]
    refine Tri.seq ?_
    refine Tri.seq ?_
    refine Tri.draw ti_ok mixed (by kernel_rfl) ?_
    conv => whnf
    refine ⟨fun h => h, ?_⟩
    conv => whnf
    refine .inl ⟨fun h => by simp only [InR]; omega, ?_⟩
    conv => whnf
    refine ⟨fun h => h, ?_⟩
    conv => whnf
    refine ⟨fun h => h, ?_⟩
    conv => whnf
    refine ⟨fun h => by simp at h; simp; omega, ?_⟩
    conv => whnf
    refine ⟨fun h => h, ?_⟩
    conv => whnf
    refine ⟨fun h => h, ?_⟩
    conv => whnf
    refine ⟨encTop (O.getD (p - 1) default), fun h => by
      have h0 : 0 < p := by simpa using h
      rw [pred_toNat h0, hgo (p - 1) (by omega)]; simp [List.getD, show p - 1 < O.length by omega], ?_⟩
    conv => whnf
    refine ⟨fun h => h, ?_⟩
    conv => whnf
    refine ⟨rfl, ?_⟩
    conv => whnf
    refine ⟨fun h => h, ?_⟩
    conv => whnf
    refine ⟨fun h => h, ?_⟩
    conv => whnf
    refine ⟨fun h0 h => by first | exact h | (rw [h]; rfl) | (rw [h0, h]; rfl), ?_⟩
    conv => whnf
    refine Tri.cond _ rfl (fun hc => ?_) (fun hc => ?_)
    · have h0 : 0 < p := by
        cases h0 : decide ((0 : Int) < p) with
        | false => rw [h0] at hc; cases hc
        | true => simpa using h0
      have hb : Op.bytesLess x.name (O[p - 1]'(by omega)).name = true := by
        have h1 : decide ((0 : Int) < p) = true := by simpa using h0
        rw [h1] at hc
        have e : O.getD (p - 1) default = O[p - 1]'(by omega) := by simp [List.getD, show p - 1 < O.length by omega]
        rw [e] at hc
        have hc2 : (!(Op.bytesLess (O[p - 1]'(by omega)).name x.name || (O[p - 1]'(by omega)).name == x.name)) = true := hc
        simp only [Bool.not_eq_true', Bool.or_eq_false_iff, beq_eq_false_iff_ne] at hc2
        cases h3 : Op.bytesLess x.name (O[p - 1]'(by omega)).name with
        | true => rfl
        | false => exact absurd (bl_total _ _ hc2.1 h3) hc2.2
      refine Tri.skip ?_
      conv => whnf
      refine Tri.block ?_
      refine Tri.region ti_ok ?_
      conv => whnf
      refine .inl ⟨fun _ => by simp only [InR]; omega, ?_⟩
      conv => whnf
      exact ⟨⟨p - 1, by omega, by
        have := posN_first (key := NV.name) (x := x) (p := p - 1) (by omega) hb
        rw [show p - 1 + 1 = p by omega] at this
        rw [hpos, this]⟩, [(1, 1), (2, 2), (5, 5)], by show p - 1 < p; omega, ⟨.refl _, .refl _, .refl _, .refl _, .refl _, DLe.of_eq (congrArg (D.int .i64) (by show (p : Int) - 1 = ((p - 1 : Nat) : Int); omega)), trivial⟩, rfl, rfl, rfl, rfl, rfl, rfl, rfl, trivial⟩
    · refine Tri.exit ?_
      conv => whnf
      have hps : posN NV.name O x O.length = p := by
        rw [hpos]
        cases p with
        | zero => rfl
        | succ p =>
          have hpl : p < O.length := by omega
          have h1 : decide ((0 : Int) < (p + 1 : Nat)) = true := by simp
          rw [h1] at hc
          have e : O.getD (p + 1 - 1) default = O[p] := by simp [List.getD, hpl]
          rw [e] at hc
          have hc2 : (!(Op.bytesLess O[p].name x.name || O[p].name == x.name)) = false := hc
          refine posN_stop hpl ?_
          cases h3 : Op.bytesLess x.name O[p].name with
          | false => rfl
          | true => rw [bl_asymm h3, beq_eq_false_iff_ne.2 (bl_ne h3).symm] at hc2; simp at hc2
      have hins := insS_split hps
      have hT : (List.take ((p : Nat) : Int).toNat (O.map encTop)).drop (Int.toNat 0) = (O.take p).map encTop := by simp
      have hD : (List.take (((O.map encTop).length : Nat) : Int).toNat (O.map encTop)).drop ((p : Nat) : Int).toNat = (O.drop p).map encTop := by rw [List.take_of_length_le (by simp)]; simp
      have hN : ∀ w : Value, DLe (.sl (.own 51 w) 12 ((O.take p).map encTop ++ ([encTop x] ++ (O.drop p).map encTop))) (.sl .none 12 ((insS NV.name O x).map encTop)) := fun w => by
        rw [hins]; simp only [List.map_append, List.map_cons, List.singleton_append]; exact DLe.unown
      refine Tri.bitsI ti_ok mixed (α := Unit) (fun _ f => [(1, .box 1 b1 0), (2, .box 2 b2 0), (4, .int .i64 i), (5, .box 5 b5 0), (6, .int .i64 p), (3, bif f 11 then .sl .none 12 ((insS NV.name O x).map encTop) else .sl .none 12 (O.map encTop)), (41, bif f 0 then .sl .none 12 (O.map encTop) else .any), (42, bif f 1 then .int .i64 p else .any), (43, bif f 2 then .int .i64 p else .any), (44, bif f 3 then .sl .full 12 ((O.take p).map encTop) else .any), (45, bif f 4 then encTop x else .any), (46, bif f 5 then .sl .full 12 [encTop x] else .any), (47, bif f 6 then .sl .none 12 (O.map encTop) else .any), (48, bif f 7 then .int .i64 p else .any), (49, bif f 8 then .sl .none 12 ((O.drop p).map encTop) else .any), (50, bif f 9 then .sl .none 12 ([encTop x] ++ (O.drop p).map encTop) else .any), (51, bif f 10 then .sl .none 12 ((insS NV.name O x).map encTop) else .any)])
        (fun _ f => [(1, .box b1 (cellsN n)), (2, .box b2 [.str [], .int .i64 0, .str [], .str [], .int .i64 0, .int .i64 0, .int .i64 0, .int .i64 0, .int .i64 0, .int .i64 0, .nils, .nils]), (5, .box b5 (cellsN x))]) (by decide +kernel) () ?_ ?_ ?_ ?_
      · exact ⟨.refl _, .refl _, .refl _, .refl _, .refl _, .refl _, .any _, .any _, .any _, .any _, .any _, .any _, .any _, .any _, .any _, .any _, .any _, trivial⟩
      · exact ⟨rfl, rfl, rfl, trivial⟩
      · conv => whnf
        refine ⟨fun _ f hI => ?_, ?_⟩
        · obtain ⟨f, rfl⟩ := off f 11 (hI.no 11 0 rfl rfl)
          conv => whnf
          exact ⟨(), ⟨.refl _, .refl _, .refl _, .refl _, .refl _, .refl _, .refl _, .refl _, .refl _, .refl _, .refl _, .refl _, .refl _, .refl _, .refl _, .refl _, .refl _, trivial⟩, rfl, rfl, rfl, trivial⟩
        refine ⟨fun _ f hI => ?_, ?_⟩
        · obtain ⟨f, rfl⟩ := off f 11 (hI.no 11 1 rfl rfl)
          conv => whnf
          exact ⟨(), ⟨.refl _, .refl _, .refl _, .refl _, .refl _, .refl _, .refl _, .refl _, .refl _, .refl _, .refl _, .refl _, .refl _, .refl _, .refl _, .refl _, .refl _, trivial⟩, rfl, rfl, rfl, trivial⟩
        refine ⟨fun _ f hI => ?_, ?_⟩
        · obtain ⟨f, rfl⟩ := off f 11 (hI.no 11 2 rfl rfl)
          conv => whnf
          exact ⟨(), ⟨.refl _, .refl _, .refl _, .refl _, .refl _, .refl _, .refl _, .refl _, .refl _, .refl _, .refl _, .refl _, .refl _, .refl _, .refl _, .refl _, .refl _, trivial⟩, rfl, rfl, rfl, trivial⟩
        refine ⟨fun _ f hI => ?_, ?_⟩
        · obtain ⟨f, rfl⟩ := off f 11 (hI.no 11 3 rfl rfl)
          conv => whnf
          refine .inl ?_
          conv => whnf
          refine ⟨fun _ => ⟨rfl, by omega, by omega, by simp; omega⟩, ?_⟩
          conv => whnf
          exact ⟨(), ⟨.refl _, .refl _, .refl _, .refl _, .refl _, .refl _, .refl _, .refl _, .refl _, DLe.of_eq (congrArg (D.sl .full _) hT), .refl _, .refl _, .refl _, .refl _, .refl _, .refl _, .refl _, trivial⟩, rfl, rfl, rfl, trivial⟩
        refine ⟨fun _ f hI => ?_, ?_⟩
        · obtain ⟨f, rfl⟩ := off f 11 (hI.no 11 4 rfl rfl)
          conv => whnf
          refine .inl ?_
          conv => whnf
          refine ⟨rfl, ?_⟩
          conv => whnf
          exact ⟨(), ⟨.refl _, .refl _, .refl _, .refl _, .refl _, .refl _, .refl _, .refl _, .refl _, .refl _, .refl _, .refl _, .refl _, .refl _, .refl _, .refl _, .refl _, trivial⟩, rfl, rfl, rfl, trivial⟩
        refine ⟨fun _ f hI => ?_, ?_⟩
        · obtain ⟨f, rfl⟩ := off f 11 (hI.no 11 5 rfl rfl)
          conv => whnf
          refine ⟨trivial, ?_⟩
          conv => whnf
          exact ⟨(), ⟨.refl _, .refl _, .refl _, .refl _, .refl _, .refl _, .refl _, .refl _, .refl _, .refl _, .refl _, .refl _, .refl _, .refl _, .refl _, .refl _, .refl _, trivial⟩, rfl, rfl, rfl, trivial⟩
        refine ⟨fun _ f hI => ?_, ?_⟩
        · obtain ⟨f, rfl⟩ := off f 11 (hI.no 11 6 rfl rfl)
          conv => whnf
          exact ⟨(), ⟨.refl _, .refl _, .refl _, .refl _, .refl _, .refl _, .refl _, .refl _, .refl _, .refl _, .refl _, .refl _, .refl _, .refl _, .refl _, .refl _, .refl _, trivial⟩, rfl, rfl, rfl, trivial⟩
        refine ⟨fun _ f hI => ?_, ?_⟩
        · obtain ⟨f, rfl⟩ := off f 11 (hI.no 11 7 rfl rfl)
          conv => whnf
          exact ⟨(), ⟨.refl _, .refl _, .refl _, .refl _, .refl _, .refl _, .refl _, .refl _, .refl _, .refl _, .refl _, .refl _, .refl _, .refl _, .refl _, .refl _, .refl _, trivial⟩, rfl, rfl, rfl, trivial⟩
        refine ⟨fun _ f hI => ?_, ?_⟩
        · obtain ⟨f, rfl⟩ := off f 11 (hI.no 11 8 rfl rfl)
          conv => whnf
          refine .inl ?_
          conv => whnf
          refine ⟨fun _ => by simp; omega, ?_⟩
          conv => whnf
          exact ⟨(), ⟨.refl _, .refl _, .refl _, .refl _, .refl _, .refl _, .refl _, .refl _, .refl _, .refl _, .refl _, .refl _, .refl _, .refl _, DLe.of_eq (congrArg (D.sl .none _) hD), .refl _, .refl _, trivial⟩, rfl, rfl, rfl, trivial⟩
        refine ⟨fun _ f hI => ?_, ?_⟩
        · obtain ⟨f, rfl⟩ := off f 11 (hI.no 11 9 rfl rfl)
          conv => whnf
          refine .inl ?_
          conv => whnf
          refine ⟨by show (_ + _) * _ ≤ _; simp; omega, by show _ + _ ≤ _; simp; omega, (fun h => by cases h), fun w1 => ?_⟩
          exact ⟨(), ⟨.refl _, .refl _, .refl _, .refl _, .refl _, .refl _, .refl _, .refl _, .refl _, .refl _, .refl _, .refl _, .refl _, .refl _, .refl _, DLe.unown, .refl _, trivial⟩, rfl, rfl, rfl, trivial⟩
        refine ⟨fun _ f hI => ?_, ?_⟩
        · obtain ⟨f, rfl⟩ := off f 11 (hI.no 11 10 rfl rfl)
          conv => whnf
          refine .inl ?_
          conv => whnf
          refine ⟨by show (_ + _) * _ ≤ _; simp; omega, by show _ + _ ≤ _; simp; omega, (fun h => by cases h), fun w1 => ?_⟩
          exact ⟨(), ⟨.refl _, .refl _, .refl _, .refl _, .refl _, .refl _, .refl _, .refl _, .refl _, .refl _, .refl _, .refl _, .refl _, .refl _, .refl _, .refl _, hN _, trivial⟩, rfl, rfl, rfl, trivial⟩
        refine ⟨fun _ f hI => ?_, ?_⟩
        · conv => whnf
          exact ⟨(), ⟨.refl _, .refl _, .refl _, .refl _, .refl _, .refl _, .refl _, .refl _, .refl _, .refl _, .refl _, .refl _, .refl _, .refl _, .refl _, .refl _, .refl _, trivial⟩, rfl, rfl, rfl, trivial⟩
        exact trivial
      · intro _ f hf
        obtain ⟨f, rfl⟩ := on f 11 (hf 11 (by decide +kernel))
        conv => whnf
        refine Tri.region ti_ok ?_
        conv => whnf
        refine .inl ⟨fun _ => by simp only [InR]; omega, ?_⟩
        conv => whnf
        exact ⟨⟨i + 1, hia⟩, [(1, 1), (2, 2)], by show n.kids.length - (i + 1) < n.kids.length - i; omega, ⟨.refl _, .refl _, DLe.of_eq (congrArg (D.sl .none 12) (by rw [hst])), .refl _, trivial⟩, rfl, rfl, rfl, rfl, rfl, trivial⟩
  · refine Tri.exit ?_
    conv => whnf
    have hin : i = n.kids.length := by simp at hc; omega
    have hall : (n.kids.take i).map srtT = n.kids.map srtT := by rw [List.take_of_length_le (by omega)]
    rw [hall]
    refine Tri.seq ?_
    refine Tri.region ti_ok ?_
    conv => whnf
    refine ⟨trivial, ?_⟩
    conv => whnf
    refine Tri.seq ?_
    refine Tri.seq ?_
    refine Tri.region ti_ok ?_
    conv => whnf
    refine Tri.block ?_
    refine Tri.loopK (α := { i : Nat // i ≤ n.streams.length }) (fun y => [(1, .box 1 b1 0), (2, .box 2 b2 0), (3, .sl .none 12 ((isort NV.name (n.kids.map srtT)).map encTop)), (7, .sl .none 2 ((isort SV.name (n.streams.take y.1)).map encS)), (8, .int .i64 y.1)]) (fun _ => [(1, .box b1 (cellsN n)), (2, .box b2 [.str [], .int .i64 0, .str [], .str [], .int .i64 0, .int .i64 0, .int .i64 0, .int .i64 0, .int .i64 0, .int .i64 0, .nils, .nils])]) (fun y => n.streams.length - y.1) ⟨0, Nat.zero_le _⟩ [(1, 1), (2, 2)]
      ⟨⟨.refl _, .refl _, .refl _, DLe.full, .refl _, trivial⟩, rfl, rfl, rfl, rfl, rfl, trivial⟩ ?_
    rintro ⟨i, hi⟩
    dsimp only at hi ⊢
    refine Tri.seq ?_
    refine Tri.seq ?_
    refine Tri.region ti_ok ?_
    conv => whnf
    refine ⟨rfl, ?_⟩
    conv => whnf
    refine Tri.cond _ rfl (fun hc => ?_) (fun hc => ?_)
    · refine Tri.skip ?_
      conv => whnf
      have hia : i < n.streams.length := by simpa using hc
      have hQl : (isort SV.name (n.streams.take i)).length = i := by rw [isort_len]; simp; omega
      have hst : isort SV.name (n.streams.take (i + 1)) = insS SV.name (isort SV.name (n.streams.take i)) n.streams[i] := by
        rw [List.take_succ_eq_append_getElem hia, isort_snoc]
      generalize hQQ : isort SV.name (n.streams.take i) = Q at *
      have hgs : (n.streams.map encS)[((i : Nat) : Int).toNat]? = some (encS n.streams[i]) := by simp [hia]
      refine Tri.seq ?_
      refine Tri.block ?_
      refine Tri.seq ?_
      refine Tri.region ti_ok ?_
      conv => whnf
      refine Tri.seq ?_
      refine Tri.block ?_
      refine Tri.loopK (α := { p : Nat // p ≤ i ∧ posN SV.name Q n.streams[i] Q.length = posN SV.name Q n.streams[i] p }) (fun y => [(1, .box 1 b1 0), (2, .box 2 b2 0), (3, .sl .none 12 ((isort NV.name (n.kids.map srtT)).map encTop)), (7, .sl .none 2 (Q.map encS)), (8, .int .i64 i), (9, .int .i64 y.1)]) (fun _ => [(1, .box b1 (cellsN n)), (2, .box b2 [.str [], .int .i64 0, .str [], .str [], .int .i64 0, .int .i64 0, .int .i64 0, .int .i64 0, .int .i64 0, .int .i64 0, .nils, .nils])]) (fun y => y.1) ⟨i, Nat.le_refl _, by rw [hQl]⟩ [(1, 1), (2, 2)]
        ⟨⟨.refl _, .refl _, .refl _, .refl _, .refl _, DLe.of_eq (congrArg (D.int .i64) (by simp [hQl])), trivial⟩, rfl, rfl, rfl, rfl, rfl, trivial⟩ ?_
      rintro ⟨p, hp, hpos⟩
      dsimp only at hp hpos ⊢
      have hgo : ∀ j, (h : j < Q.length) → (Q.map encS)[j]? = some (encS Q[j]) := fun j h => by simp [h]
      refine Tri.seq ?_
      refine Tri.seq ?_
      refine Tri.draw ti_ok mixed (by kernel_rfl) ?_
      conv => whnf
      refine ⟨fun h => h, ?_⟩
      conv => whnf
      refine .inl ⟨fun h => by simp only [InR]; omega, ?_⟩
      conv => whnf
      refine ⟨fun h => h, ?_⟩
      conv => whnf
      refine ⟨fun h => h, ?_⟩
      conv => whnf
      refine ⟨fun h => by simp at h; simp; omega, ?_⟩
      conv => whnf
      refine ⟨fun h => h, ?_⟩
      conv => whnf
      refine ⟨fun h => h, ?_⟩
      conv => whnf
      refine ⟨encS (Q.getD (p - 1) default), fun h => by
        have h0 : 0 < p := by simpa using h
        rw [pred_toNat h0, hgo (p - 1) (by omega)]; simp [List.getD, show p - 1 < Q.length by omega], ?_⟩
      conv => whnf
      refine ⟨fun h => h, ?_⟩
      conv => whnf
      refine ⟨rfl, ?_⟩
      conv => whnf
      refine ⟨fun h => h, ?_⟩
      conv => whnf
      refine ⟨fun h => h, ?_⟩
      conv => whnf
      refine ⟨fun h => by simp; omega, ?_⟩
      conv => whnf
      refine ⟨fun h => h, ?_⟩
      conv => whnf
      refine ⟨fun h => h, ?_⟩
      conv => whnf
      refine ⟨encS n.streams[i], fun h => hgs, ?_⟩
      conv => whnf
      refine ⟨fun h => h, ?_⟩
      conv => whnf
      refine ⟨fun h => h, ?_⟩
      conv => whnf
      refine ⟨fun h0 h => by first | exact h | (rw [h]; rfl) | (rw [h0, h]; rfl), ?_⟩
      conv => whnf
      refine Tri.cond _ rfl (fun hc => ?_) (fun hc => ?_)
      · have h0 : 0 < p := by
          cases h0 : decide ((0 : Int) < p) with
          | false => rw [h0] at hc; cases hc
          | true => simpa using h0
        have hb : Op.bytesLess n.streams[i].name (Q[p - 1]'(by omega)).name = true := by
          have h1 : decide ((0 : Int) < p) = true := by simpa using h0
          rw [h1] at hc
          have e : Q.getD (p - 1) default = Q[p - 1]'(by omega) := by simp [List.getD, show p - 1 < Q.length by omega]
          rw [e] at hc
          have hc2 : (!(Op.bytesLess (Q[p - 1]'(by omega)).name n.streams[i].name || (Q[p - 1]'(by omega)).name == n.streams[i].name)) = true := hc
          simp only [Bool.not_eq_true', Bool.or_eq_false_iff, beq_eq_false_iff_ne] at hc2
          cases h3 : Op.bytesLess n.streams[i].name (Q[p - 1]'(by omega)).name with
          | true => rfl
          | false => exact absurd (bl_total _ _ hc2.1 h3) hc2.2
        refine Tri.skip ?_
        conv => whnf
        refine Tri.block ?_
        refine Tri.region ti_ok ?_
        conv => whnf
        refine .inl ⟨fun _ => by simp only [InR]; omega, ?_⟩
        conv => whnf
        exact ⟨⟨p - 1, by omega, by
          have := posN_first (key := SV.name) (x := n.streams[i]) (p := p - 1) (by omega) hb
          rw [show p - 1 + 1 = p by omega] at this
          rw [hpos, this]⟩, [(1, 1), (2, 2)], by show p - 1 < p; omega, ⟨.refl _, .refl _, .refl _, .refl _, .refl _, DLe.of_eq (congrArg (D.int .i64) (by show (p : Int) - 1 = ((p - 1 : Nat) : Int); omega)), trivial⟩, rfl, rfl, rfl, rfl, rfl, trivial⟩
      · refine Tri.exit ?_
        conv => whnf
        have hps : posN SV.name Q n.streams[i] Q.length = p := by
          rw [hpos]
          cases p with
          | zero => rfl
          | succ p =>
            have hpl : p < Q.length := by omega
            have h1 : decide ((0 : Int) < (p + 1 : Nat)) = true := by simp
            rw [h1] at hc
            have e : Q.getD (p + 1 - 1) default = Q[p] := by simp [List.getD, hpl]
            rw [e] at hc
            have hc2 : (!(Op.bytesLess Q[p].name n.streams[i].name || Q[p].name == n.streams[i].name)) = false := hc
            refine posN_stop hpl ?_
            cases h3 : Op.bytesLess n.streams[i].name Q[p].name with
            | false => rfl
            | true => rw [bl_asymm h3, beq_eq_false_iff_ne.2 (bl_ne h3).symm] at hc2; simp at hc2
        have hins := insS_split hps
        have hT : (List.take ((p : Nat) : Int).toNat (Q.map encS)).drop (Int.toNat 0) = (Q.take p).map encS := by simp
        have hD : (List.take (((Q.map encS).length : Nat) : Int).toNat (Q.map encS)).drop ((p : Nat) : Int).toNat = (Q.drop p).map encS := by rw [List.take_of_length_le (by simp)]; simp
        have hN : ∀ w : Value, DLe (.sl (.own 95 w) 2 ((Q.take p).map encS ++ ([encS n.streams[i]] ++ (Q.drop p).map encS))) (.sl .none 2 ((insS SV.name Q n.streams[i]).map encS)) := fun w => by
          rw [hins]; simp only [List.map_append, List.map_cons, List.singleton_append]; exact DLe.unown
        refine Tri.bitsI ti_ok mixed (α := Unit) (fun _ f => [(1, .box 1 b1 0), (2, .box 2 b2 0), (3, .sl .none 12 ((isort NV.name (n.kids.map srtT)).map encTop)), (8, .int .i64 i), (9, .int .i64 p), (7, bif f 15 then .sl .none 2 ((insS SV.name Q n.streams[i]).map encS) else .sl .none 2 (Q.map encS)), (81, bif f 0 then .sl .none 2 (Q.map encS) else .any), (82, bif f 1 then .int .i64 p else .any), (83, bif f 2 then .int .i64 p else .any), (84, bif f 3 then .sl .full 2 ((Q.take p).map encS) else .any), (85, bif f 4 then .box 1 b1 11 else .any), (86, bif f 5 then .sl .none 2 (n.streams.map encS) else .any), (87, bif f 6 then .int .i64 i else .any), (88, bif f 7 then .elm 2 (n.streams.map encS) i 0 else .any), (89, bif f 8 then encS n.streams[i] else .any), (90, bif f 9 then .sl .full 2 [encS n.streams[i]] else .any), (91, bif f 10 then .sl .none 2 (Q.map encS) else .any), (92, bif f 11 then .int .i64 p else .any), (93, bif f 12 then .sl .none 2 ((Q.drop p).map encS) else .any), (94, bif f 13 then .sl .none 2 ([encS n.streams[i]] ++ (Q.drop p).map encS) else .any), (95, bif f 14 then .sl .none 2 ((insS SV.name Q n.streams[i]).map encS) else .any)])
          (fun _ f => [(1, .box b1 (cellsN n)), (2, .box b2 [.str [], .int .i64 0, .str [], .str [], .int .i64 0, .int .i64 0, .int .i64 0, .int .i64 0, .int .i64 0, .int .i64 0, .nils, .nils])]) (by decide +kernel) () ?_ ?_ ?_ ?_
        · exact ⟨.refl _, .refl _, .refl _, .refl _, .refl _, .refl _, .any _, .any _, .any _, .any _, .any _, .any _, .any _, .any _, .any _, .any _, .any _, .any _, .any _, .any _, .any _, trivial⟩
        · exact ⟨rfl, rfl, trivial⟩
        · conv => whnf
          refine ⟨fun _ f hI => ?_, ?_⟩
          · obtain ⟨f, rfl⟩ := off f 15 (hI.no 15 0 rfl rfl)
            conv => whnf
            exact ⟨(), ⟨.refl _, .refl _, .refl _, .refl _, .refl _, .refl _, .refl _, .refl _, .refl _, .refl _, .refl _, .refl _, .refl _, .refl _, .refl _, .refl _, .refl _, .refl _, .refl _, .refl _, .refl _, trivial⟩, rfl, rfl, trivial⟩
          refine ⟨fun _ f hI => ?_, ?_⟩
          · obtain ⟨f, rfl⟩ := off f 15 (hI.no 15 1 rfl rfl)
            conv => whnf
            exact ⟨(), ⟨.refl _, .refl _, .refl _, .refl _, .refl _, .refl _, .refl _, .refl _, .refl _, .refl _, .refl _, .refl _, .refl _, .refl _, .refl _, .refl _, .refl _, .refl _, .refl _, .refl _, .refl _, trivial⟩, rfl, rfl, trivial⟩
          refine ⟨fun _ f hI => ?_, ?_⟩
          · obtain ⟨f, rfl⟩ := off f 15 (hI.no 15 2 rfl rfl)
            conv => whnf
            exact ⟨(), ⟨.refl _, .refl _, .refl _, .refl _, .refl _, .refl _, .refl _, .refl _, .refl _, .refl _, .refl _, .refl _, .refl _, .refl _, .refl _, .refl _, .refl _, .refl _, .refl _, .refl _, .refl _, trivial⟩, rfl, rfl, trivial⟩
          refine ⟨fun _ f hI => ?_, ?_⟩
          · obtain ⟨f, rfl⟩ := off f 15 (hI.no 15 3 rfl rfl)
            conv => whnf
            refine .inl ?_
            conv => whnf
            refine ⟨fun _ => ⟨rfl, by omega, by omega, by simp; omega⟩, ?_⟩
            conv => whnf
            exact ⟨(), ⟨.refl _, .refl _, .refl _, .refl _, .refl _, .refl _, .refl _, .refl _, .refl _, DLe.of_eq (congrArg (D.sl .full _) hT), .refl _, .refl _, .refl _, .refl _, .refl _, .refl _, .refl _, .refl _, .refl _, .refl _, .refl _, trivial⟩, rfl, rfl, trivial⟩
          refine ⟨fun _ f hI => ?_, ?_⟩
          · obtain ⟨f, rfl⟩ := off f 15 (hI.no 15 4 rfl rfl)
            conv => whnf
            exact ⟨(), ⟨.refl _, .refl _, .refl _, .refl _, .refl _, .refl _, .refl _, .refl _, .refl _, .refl _, .refl _, .refl _, .refl _, .refl _, .refl _, .refl _, .refl _, .refl _, .refl _, .refl _, .refl _, trivial⟩, rfl, rfl, trivial⟩
          refine ⟨fun _ f hI => ?_, ?_⟩
          · obtain ⟨f, rfl⟩ := off f 15 (hI.no 15 5 rfl rfl)
            conv => whnf
            refine .inl ?_
            conv => whnf
            refine ⟨rfl, ?_⟩
            conv => whnf
            exact ⟨(), ⟨.refl _, .refl _, .refl _, .refl _, .refl _, .refl _, .refl _, .refl _, .refl _, .refl _, .refl _, .refl _, .refl _, .refl _, .refl _, .refl _, .refl _, .refl _, .refl _, .refl _, .refl _, trivial⟩, rfl, rfl, trivial⟩
          refine ⟨fun _ f hI => ?_, ?_⟩
          · obtain ⟨f, rfl⟩ := off f 15 (hI.no 15 6 rfl rfl)
            conv => whnf
            exact ⟨(), ⟨.refl _, .refl _, .refl _, .refl _, .refl _, .refl _, .refl _, .refl _, .refl _, .refl _, .refl _, .refl _, .refl _, .refl _, .refl _, .refl _, .refl _, .refl _, .refl _, .refl _, .refl _, trivial⟩, rfl, rfl, trivial⟩
          refine ⟨fun _ f hI => ?_, ?_⟩
          · obtain ⟨f, rfl⟩ := off f 15 (hI.no 15 7 rfl rfl)
            conv => whnf
            refine .inl ?_
            conv => whnf
            refine ⟨fun _ => by simp; omega, ?_⟩
            conv => whnf
            exact ⟨(), ⟨.refl _, .refl _, .refl _, .refl _, .refl _, .refl _, .refl _, .refl _, .refl _, .refl _, .refl _, .refl _, .refl _, .refl _, .refl _, .refl _, .refl _, .refl _, .refl _, .refl _, .refl _, trivial⟩, rfl, rfl, trivial⟩
          refine ⟨fun _ f hI => ?_, ?_⟩
          · obtain ⟨f, rfl⟩ := off f 15 (hI.no 15 8 rfl rfl)
            conv => whnf
            refine .inl ?_
            conv => whnf
            refine ⟨encS n.streams[i], fun _ => hgs, ?_⟩
            conv => whnf
            exact ⟨(), ⟨.refl _, .refl _, .refl _, .refl _, .refl _, .refl _, .refl _, .refl _, .refl _, .refl _, .refl _, .refl _, .refl _, .refl _, .refl _, .refl _, .refl _, .refl _, .refl _, .refl _, .refl _, trivial⟩, rfl, rfl, trivial⟩
          refine ⟨fun _ f hI => ?_, ?_⟩
          · obtain ⟨f, rfl⟩ := off f 15 (hI.no 15 9 rfl rfl)
            conv => whnf
            refine ⟨trivial, ?_⟩
            conv => whnf
            exact ⟨(), ⟨.refl _, .refl _, .refl _, .refl _, .refl _, .refl _, .refl _, .refl _, .refl _, .refl _, .refl _, .refl _, .refl _, .refl _, .refl _, .refl _, .refl _, .refl _, .refl _, .refl _, .refl _, trivial⟩, rfl, rfl, trivial⟩
          refine ⟨fun _ f hI => ?_, ?_⟩
          · obtain ⟨f, rfl⟩ := off f 15 (hI.no 15 10 rfl rfl)
            conv => whnf
            exact ⟨(), ⟨.refl _, .refl _, .refl _, .refl _, .refl _, .refl _, .refl _, .refl _, .refl _, .refl _, .refl _, .refl _, .refl _, .refl _, .refl _, .refl _, .refl _, .refl _, .refl _, .refl _, .refl _, trivial⟩, rfl, rfl, trivial⟩
          refine ⟨fun _ f hI => ?_, ?_⟩
          · obtain ⟨f, rfl⟩ := off f 15 (hI.no 15 11 rfl rfl)
            conv => whnf
            exact ⟨(), ⟨.refl _, .refl _, .refl _, .refl _, .refl _, .refl _, .refl _, .refl _, .refl _, .refl _, .refl _, .refl _, .refl _, .refl _, .refl _, .refl _, .refl _, .refl _, .refl _, .refl _, .refl _, trivial⟩, rfl, rfl, trivial⟩
          refine ⟨fun _ f hI => ?_, ?_⟩
          · obtain ⟨f, rfl⟩ := off f 15 (hI.no 15 12 rfl rfl)
            conv => whnf
            refine .inl ?_
            conv => whnf
            refine ⟨fun _ => by simp; omega, ?_⟩
            conv => whnf
            exact ⟨(), ⟨.refl _, .refl _, .refl _, .refl _, .refl _, .refl _, .refl _, .refl _, .refl _, .refl _, .refl _, .refl _, .refl _, .refl _, .refl _, .refl _, .refl _, .refl _, DLe.of_eq (congrArg (D.sl .none _) hD), .refl _, .refl _, trivial⟩, rfl, rfl, trivial⟩
          refine ⟨fun _ f hI => ?_, ?_⟩
          · obtain ⟨f, rfl⟩ := off f 15 (hI.no 15 13 rfl rfl)
            conv => whnf
            refine .inl ?_
            conv => whnf
            refine ⟨by show (_ + _) * _ ≤ _; simp; omega, by show _ + _ ≤ _; simp; omega, (fun h => by cases h), fun w1 => ?_⟩
            exact ⟨(), ⟨.refl _, .refl _, .refl _, .refl _, .refl _, .refl _, .refl _, .refl _, .refl _, .refl _, .refl _, .refl _, .refl _, .refl _, .refl _, .refl _, .refl _, .refl _, .refl _, DLe.unown, .refl _, trivial⟩, rfl, rfl, trivial⟩
          refine ⟨fun _ f hI => ?_, ?_⟩
          · obtain ⟨f, rfl⟩ := off f 15 (hI.no 15 14 rfl rfl)
            conv => whnf
            refine .inl ?_
            conv => whnf
            refine ⟨by show (_ + _) * _ ≤ _; simp; omega, by show _ + _ ≤ _; simp; omega, (fun h => by cases h), fun w1 => ?_⟩
            exact ⟨(), ⟨.refl _, .refl _, .refl _, .refl _, .refl _, .refl _, .refl _, .refl _, .refl _, .refl _, .refl _, .refl _, .refl _, .refl _, .refl _, .refl _, .refl _, .refl _, .refl _, .refl _, hN _, trivial⟩, rfl, rfl, trivial⟩
          refine ⟨fun _ f hI => ?_, ?_⟩
          · conv => whnf
            exact ⟨(), ⟨.refl _, .refl _, .refl _, .refl _, .refl _, .refl _, .refl _, .refl _, .refl _, .refl _, .refl _, .refl _, .refl _, .refl _, .refl _, .refl _, .refl _, .refl _, .refl _, .refl _, .refl _, trivial⟩, rfl, rfl, trivial⟩
          exact trivial
        · intro _ f hf
          obtain ⟨f, rfl⟩ := on f 15 (hf 15 (by decide +kernel))
          conv => whnf
          refine Tri.region ti_ok ?_
          conv => whnf
          refine .inl ⟨fun _ => by simp only [InR]; omega, ?_⟩
          conv => whnf
          exact ⟨⟨i + 1, hia⟩, [(1, 1), (2, 2)], by show n.streams.length - (i + 1) < n.streams.length - i; omega, ⟨.refl _, .refl _, .refl _, DLe.of_eq (congrArg (D.sl .none 2) (by rw [hst])), .refl _, trivial⟩, rfl, rfl, rfl, rfl, rfl, trivial⟩
    · refine Tri.exit ?_
      conv => whnf
      have hin : i = n.streams.length := by simp at hc; omega
      have hall : n.streams.take i = n.streams := List.take_of_length_le (by omega)
      rw [hall]
      refine Tri.seq ?_
      refine Tri.region ti_ok ?_
      conv => whnf
      refine ⟨rfl, ?_⟩
      conv => whnf
      refine ⟨rfl, ?_⟩
      conv => whnf
      refine Tri.seq ?_
      refine Tri.region ti_ok ?_
      conv => whnf
      refine ⟨rfl, ?_⟩
      conv => whnf
      refine ⟨rfl, ?_⟩
      conv => whnf
      refine Tri.ret ?_
      conv => whnf
      refine ⟨rfl, ?_⟩
      conv => whnf
      have hfin : encTop (srtT n) = .agg [.str n.name, .int .i64 n.kind, .str n.text, .str n.target, .int .i64 n.n1, .int .i64 n.n2, .int .i64 n.n3, .int .i64 n.n4, .int .i64 n.n5, .int .i64 n.n6, .sl .none 12 ((isort NV.name (n.kids.map srtT)).map encTop), .sl .none 2 ((isort SV.name n.streams).map encS)] := by
        rw [srtT_eq, encTop, show enc = encTop from funext enc_eq]
      refine DLe.of_eq ?_
      rw [hfin]; rfl
end Go.Tame.V
/- Contracts: the other way of views: tree, View. By program (mk54.py, mk.py). -/
namespace Go.Tame.V
open Go Go.Proofs
variable {W0 : World}
set_option maxRecDepth 10000
set_option linter.unusedVariables false
set_option linter.unusedSimpArgs false

mutual
theorem okZ_show (nm : List NV → List (List UInt8)) (v : Int) : ∀ (n : NV) (d : Int), okT n → okZ (showG nm v d n)
  | .mk a b c t e f g h i j ks ss, d, h1 => by
    simp only [okT] at h1
    simp only [showG, okZ]
    have hp := sortN_perm (showGL nm v (d + 1) ks (nm ks))
    have hl := showGL_len nm v (d + 1) ks (nm ks)
    refine ⟨by rw [hp.length_eq]; omega, by split <;> first | omega | simp, okZL_mem.2 fun k hk => ?_⟩
    exact okZL_show nm v ks (nm ks) (d + 1) h1.2.2.2 k (hp.subset hk)
theorem okZL_show (nm : List NV → List (List UInt8)) (v : Int) : ∀ (l : List NV) (ms : List (List UInt8)) (d : Int), okL l → ∀ x ∈ showGL nm v d l ms, okZ x
  | [], ms, d, _ => by simp [showGL]
  | k :: r, [], d, _ => by simp [showGL]
  | k :: r, m :: ms, d, h1 => by
    simp only [okL] at h1
    intro x hx
    have ih := okZL_show nm v r ms d h1.2
    simp only [showGL] at hx
    split at hx
    · rcases List.mem_cons.1 hx with rfl | hx
      · have := okZ_show nm v k d h1.1.2
        rw [okZ_eq] at this ⊢
        exact this
      · exact ih x hx
    · exact ih x hx
end
theorem namesG_len (v : Int) (ks : List NV) : (namesG v ks).length = ks.length := by simp [namesG, usedG_len]

theorem F54 (v : Int) (hv : viewOk v = true) (hnd : NamesNd (namesG v)) : ∀ (N : Nat) (n : NV), sz n < N → okT n → okS n → ∀ (m : List UInt8) (d : Int), 0 ≤ d → d + sz n < 1000000000 → DFun Tryz.prog W0 54 [.int .i64 v, encTop n, .str m, .int .i64 d] (encTop ((showG (namesG v) v d n).named m)) := by
  refine fun N => Nat.rec (fun n h => absurd h (Nat.not_lt_zero _)) (fun N ih n hN hok hos m d hd hd2 => ?_) N
  obtain ⟨h64, hsn, hinc, hokl⟩ := (okT_eq n).1 hok
  have hks : ∀ k ∈ n.kids, nameOk k.name = true ∧ k.name.length < 1000000000 := fun k hk => (okL_get hokl hk).1
  have hnl := namesG_len v n.kids
  refine DFun.intro ti_ok Tryz.func54 rfl (by decide +kernel) Tryz.ntmps54 rfl fun Γ => ?_
  refine Tri.seq ?_
  refine Tri.region ti_ok ?_
  conv => whnf
  intro b5
  conv => whnf
  intro b8
  conv => whnf
  refine Tri.seq ?_
  refine Tri.region ti_ok ?_
  conv => whnf
  refine ⟨rfl, ?_⟩
  conv => whnf
  refine ⟨[.int .i64 v, encTop n, .str m], _, fun _ => F71 v n m hsn, ⟨.refl _, .refl _, .refl _, trivial⟩, ?_⟩
  conv => whnf
  intro b9
  conv => whnf
  refine ⟨rfl, ?_⟩
  conv => whnf
  refine Tri.seq ?_
  refine Tri.region ti_ok ?_
  conv => whnf
  refine ⟨rfl, ?_⟩
  conv => whnf
  refine ⟨[.int .i64 v, .sl .none 12 (n.kids.map enc)], _, fun _ => F72 v hv n.kids h64 hks hinc, ⟨.refl _, .refl _, trivial⟩, ?_⟩
  conv => whnf
  refine Tri.seq ?_
  refine Tri.seq ?_
  refine Tri.region ti_ok ?_
  conv => whnf
  refine Tri.block ?_
  refine Tri.boxLe 9 (cs' := [.str m, .int .i64 n.kind, .str n.text, .str n.target, .int .i64 (if keeps v then n.n1 else 0), .int .i64 (if keeps v then n.n2 else 0), .int .i64 (if keeps v then n.n3 else 0), .int .i64 n.n4, .int .i64 0, .int .i64 0, .raw (.slice none 0 0), .sl .none 2 ((if v = 3 then n.streams else []).map encS)]) rfl ⟨.refl _, .refl _, .refl _, .refl _, .refl _, .refl _, .refl _, .refl _, .refl _, .refl _, DLe.nilRaw, .refl _, trivial⟩ ?_
  refine Tri.rowNil 109 12 25 ?_
  refine Tri.loopK (α := { x : Nat × Value // x.1 ≤ n.kids.length }) (fun x => [(0, .int .i64 v), (3, .int .i64 d), (5, .box 5 b5 0), (8, .box 8 b8 0), (9, .box 9 b9 0), (10, .sl .none 1 (strs (namesG v n.kids))), (12, .int .i64 x.1.1)]) (fun x => [(5, .box b5 (cellsN n)), (8, .box b8 [.str [], .int .i64 0, .str [], .str [], .int .i64 0, .int .i64 0, .int .i64 0, .int .i64 0, .int .i64 0, .int .i64 0, .nils, .nils]), (9, .box b9 [.str m, .int .i64 n.kind, .str n.text, .str n.target, .int .i64 (if keeps v then n.n1 else 0), .int .i64 (if keeps v then n.n2 else 0), .int .i64 (if keeps v then n.n3 else 0), .int .i64 n.n4, .int .i64 0, .int .i64 0, .raw x.1.2, .sl .none 2 ((if v = 3 then n.streams else []).map encS)]), (109, .row x.1.2 ((showGL (namesG v) v (d + 1) (n.kids.take x.1.1) ((namesG v n.kids).take x.1.1)).map encTop) 12 25)]) (fun x => n.kids.length - x.1.1) ⟨(0, .slice none 0 0), Nat.zero_le _⟩ [(5, 5), (8, 8), (9, 9), (109, 109)]
    ⟨⟨.refl _, .refl _, .refl _, .refl _, .refl _, .refl _, .refl _, trivial⟩, rfl, rfl, rfl, rfl, rfl, rfl, rfl, rfl, congrArg (fun z => some (HObj.row (.slice none 0 0) z 12 25)) (by simp [showGL]), trivial⟩ ?_
  rintro ⟨⟨i, rv⟩, hi⟩
  dsimp only at hi ⊢
  refine Tri.seq ?_
  refine Tri.seq ?_
  refine Tri.region ti_ok ?_
  conv => whnf
  refine ⟨rfl, ?_⟩
  conv => whnf
  refine Tri.cond _ rfl (fun hc => ?_) (fun hc => ?_)
  · refine Tri.skip ?_
    conv => whnf
    have hia : i < n.kids.length := by simpa using hc
    have hin : i < (namesG v n.kids).length := by omega
    have hkz := kid_sz hia
    refine Tri.seq ?_
    refine Tri.block ?_
    refine Tri.seq ?_
    refine Tri.region ti_ok ?_
    conv => whnf
    refine ⟨rfl, ?_⟩
    conv => whnf
    refine ⟨fun _ => by simp; omega, ?_⟩
    conv => whnf
    refine ⟨encTop n.kids[i], fun _ => get_kid hia, ?_⟩
    conv => whnf
    refine .inl ⟨fun _ => by simp only [InR]; omega, ?_⟩
    conv => whnf
    refine ⟨[.int .i64 v, encTop n.kids[i], .int .i64 (d + 1)], _, fun _ => F73 v _ _, ⟨.refl _, .refl _, .refl _, trivial⟩, ?_⟩
    conv => whnf
    refine Tri.cond _ rfl (fun hc => ?_) (fun hc => ?_)
    · have hs : shown v n.kids[i] (d + 1) = true := hc
      refine Tri.drawTailX ti_ok 16 mixed (by kernel_rfl) ?_
      conv => whnf
      refine ⟨rfl, ?_⟩
      conv => whnf
      refine ⟨rfl, ?_⟩
      conv => whnf
      refine ⟨fun _ => by simp; omega, ?_⟩
      conv => whnf
      refine ⟨encTop n.kids[i], fun _ => get_kid hia, ?_⟩
      conv => whnf
      refine ⟨fun _ => by simp [strs]; omega, ?_⟩
      conv => whnf
      refine ⟨.str (namesG v n.kids)[i], fun _ => by simp [strs, hin], ?_⟩
      conv => whnf
      refine .inl ⟨fun _ => by simp only [InR]; omega, ?_⟩
      conv => whnf
      refine ⟨[.int .i64 v, encTop n.kids[i], .str (namesG v n.kids)[i], .int .i64 (d + 1)], _, fun _ => ih n.kids[i] (by omega) (okL_get hokl (List.getElem_mem hia)).2 (okSL_get ((okS_eq n).1 hos).2 (List.getElem_mem hia)) (namesG v n.kids)[i] (d + 1) (by omega) (by omega), ⟨.refl _, .refl _, .refl _, .refl _, trivial⟩, ?_⟩
      conv => whnf
      refine ⟨trivial, ?_⟩
      conv => whnf
      refine .inr (XOp.rowAppend ti_ok 109 rfl rfl rfl (fun h => by cases h) rfl rfl rfl (Nat.zero_lt_one) ?_ ?_ fun aa mm cap => ?_)
      · have := showGL_len (namesG v) v (d + 1) (n.kids.take i) ((namesG v n.kids).take i)
        show (_ + 1) * 152 ≤ _
        simp at this ⊢; omega
      · have := showGL_len (namesG v) v (d + 1) (n.kids.take i) ((namesG v n.kids).take i)
        show _ + 1 ≤ _
        simp at this ⊢; omega
      refine .inl ?_
      conv => whnf
      refine ⟨rfl, ?_⟩
      conv => whnf
      refine Tri.region ti_ok ?_
      conv => whnf
      refine .inl ⟨fun _ => by simp only [InR]; omega, ?_⟩
      conv => whnf
      exact ⟨⟨(i + 1, .slice aa mm cap), hia⟩, [(5, 5), (8, 8), (9, 9), (109, 56)], by show _ - (i + 1) < _ - i; omega, ⟨.refl _, .refl _, .refl _, .refl _, .refl _, .refl _, .refl _, trivial⟩, rfl, rfl, rfl, rfl, rfl, rfl, rfl, rfl, congrArg (fun z => some (HObj.row (.slice aa mm cap) z 12 25)) (by rw [showGL_next (namesG v) v (d + 1) hia hin, if_pos hs, showG_named]; simp; rfl), trivial⟩
    · have hs : shown v n.kids[i] (d + 1) = false := hc
      refine Tri.skip ?_
      conv => whnf
      refine Tri.region ti_ok ?_
      conv => whnf
      refine .inl ⟨fun _ => by simp only [InR]; omega, ?_⟩
      conv => whnf
      exact ⟨⟨(i + 1, rv), hia⟩, [(5, 5), (8, 8), (9, 9), (109, 109)], by show _ - (i + 1) < _ - i; omega, ⟨.refl _, .refl _, .refl _, .refl _, .refl _, .refl _, .refl _, trivial⟩, rfl, rfl, rfl, rfl, rfl, rfl, rfl, rfl, congrArg (fun z => some (HObj.row rv z 12 25)) (by rw [showGL_next (namesG v) v (d + 1) hia hin, hs]; simp), trivial⟩
  · refine Tri.exit ?_
    conv => whnf
    have hin : i = n.kids.length := by simp at hc; omega
    have hrow : (showGL (namesG v) v (d + 1) (n.kids.take i) ((namesG v n.kids).take i)).map encTop = (showGL (namesG v) v (d + 1) n.kids (namesG v n.kids)).map enc := by
      subst hin; rw [List.take_length, List.take_of_length_le (by omega), show enc = encTop from funext enc_eq]
    rw [hrow]
    refine Tri.commitBox 109 9 10 rfl rfl (by decide) rfl ?_
    refine Tri.seq ?_
    refine Tri.region ti_ok ?_
    conv => whnf
    refine ⟨rfl, ?_⟩
    conv => whnf
    have hout := okZL_show (namesG v) v n.kids (namesG v n.kids) (d + 1) hokl
    have hlen := showGL_len (namesG v) v (d + 1) n.kids (namesG v n.kids)
    refine ⟨[encTop ⟨m, n.kind, n.text, n.target, if keeps v then n.n1 else 0, if keeps v then n.n2 else 0, if keeps v then n.n3 else 0, n.n4, 0, 0, showGL (namesG v) v (d + 1) n.kids (namesG v n.kids), if v = 3 then n.streams else []⟩], _, fun _ => F74 _ _ (Nat.lt_succ_self _) ((okZ_eq _).2 ⟨by show (showGL (namesG v) v (d + 1) n.kids (namesG v n.kids)).length ≤ 64; omega, by show List.length (if v = 3 then n.streams else []) < _; split <;> first | omega | simp, okZL_mem.2 hout⟩), ⟨.refl _, trivial⟩, ?_⟩
    conv => whnf
    refine ⟨rfl, ?_⟩
    conv => whnf
    refine Tri.ret ?_
    conv => whnf
    refine ⟨rfl, ?_⟩
    conv => whnf
    rw [srtT_out (namesG v) v hnd n d m hok hos]
    exact DLe.of_eq rfl
end Go.Tame.V
/- Contracts: the other way of views: View, Check. By program (mk.py). -/
namespace Go.Tame.V
open Go Go.Proofs
variable {W0 : World}
set_option maxRecDepth 10000
set_option linter.unusedVariables false
set_option linter.unusedSimpArgs false

theorem F31 (v : Int) (hnd : viewOk v = true → NamesNd (namesG v)) (n : NV) (hn : Fits n) : DFun Tryz.prog W0 31 [.int .i64 v, encTop n] (.tup [encTop (viewR (namesG v) v n).1, .int .i64 (viewR (namesG v) v n).2]) := by
  refine DFun.intro ti_ok Tryz.func31 rfl (by decide +kernel) Tryz.ntmps31 rfl fun Γ => ?_
  refine Tri.seq ?_
  refine Tri.region ti_ok ?_
  conv => whnf
  intro b4
  conv => whnf
  intro b6
  conv => whnf
  refine Tri.seq ?_
  refine Tri.seq ?_
  refine Tri.region ti_ok ?_
  conv => whnf
  refine ⟨[.int .i64 v], _, fun _ => F53 v, ⟨.refl _, trivial⟩, ?_⟩
  conv => whnf
  refine Tri.cond _ rfl (fun hc => ?_) (fun hc => ?_)
  · refine Tri.seq ?_
    refine Tri.region ti_ok ?_
    conv => whnf
    refine ⟨rfl, ?_⟩
    conv => whnf
    refine Tri.ret ?_
    conv => whnf
    have h1 : viewOk v = false := by simpa using hc
    have h2 : viewR (namesG v) v n = (zeroN, 2) := by rw [viewR, if_pos h1]
    rw [h2]
    refine ⟨rfl, ?_⟩
    conv => whnf
    exact ⟨zeroD, .refl _, trivial⟩
  · refine Tri.skip ?_
    conv => whnf
    refine Tri.seq ?_
    refine Tri.seq ?_
    refine Tri.region ti_ok ?_
    conv => whnf
    refine ⟨rfl, ?_⟩
    conv => whnf
    refine ⟨[encTop n], _, fun _ => F20 n hn, ⟨.refl _, trivial⟩, ?_⟩
    conv => whnf
    refine Tri.cond _ rfl (fun hc => ?_) (fun hc => ?_)
    · refine Tri.seq ?_
      refine Tri.region ti_ok ?_
      conv => whnf
      refine ⟨rfl, ?_⟩
      conv => whnf
      refine Tri.ret ?_
      conv => whnf
      have h1 : ¬ viewOk v = false := by intro h; rename_i h0; rw [h] at h0; cases h0
      have h3 : valid n = false := by simpa using hc
      have h2 : viewR (namesG v) v n = (zeroN, 1) := by rw [viewR, if_neg h1, if_pos h3]
      rw [h2]
      refine ⟨rfl, ?_⟩
      conv => whnf
      exact ⟨zeroD, .refl _, trivial⟩
    · refine Tri.skip ?_
      conv => whnf
      refine Tri.seq ?_
      refine Tri.region ti_ok ?_
      conv => whnf
      refine ⟨rfl, ?_⟩
      conv => whnf
      have h1 : viewOk v = true := by rename_i h0; simpa using h0
      have h3 : valid n = true := by simpa using hc
      have h5 : n.name = [] := by
        have := h3
        rw [valid_good, Bool.and_eq_true] at this
        exact (goodB_good this.2).1.name1 rfl
      have h6 : (showG (namesG v) v 1 n).named [] = showG (namesG v) v 1 n := by rw [showG_eq]; simp only [NV.named, h5]
      have hz := hn
      unfold Fits at hz
      refine ⟨[.int .i64 v, encTop n, .str [], .int .i64 1], encTop (showG (namesG v) v 1 n), fun _ => by
        have := F54 (W0 := W0) v h1 (hnd h1) _ n (Nat.lt_succ_self _) (valid_okT h3) (valid_okS h3) [] 1 (by omega) (by omega)
        rw [h6] at this
        exact this, ⟨.refl _, .refl _, .refl _, .refl _, trivial⟩, ?_⟩
      conv => whnf
      refine ⟨rfl, ?_⟩
      conv => whnf
      refine Tri.ret ?_
      conv => whnf
      have h2 : viewR (namesG v) v n = (showG (namesG v) v 1 n, 0) := by rw [viewR, if_neg (by rw [h1]; simp), if_neg (by rw [h3]; simp)]
      rw [h2]
      refine ⟨rfl, ?_⟩
      conv => whnf
      exact ⟨.refl _, .refl _, trivial⟩

theorem F19 (v : Int) (hnd : viewOk v = true → NamesNd (namesG v)) (a b : NV) (ha : Fits a) (hb : Fits b) (hv : valid a = true → viewOk v = true → Fits (showG (namesG v) v 1 a)) : DFun Tryz.prog W0 19 [.int .i64 v, encTop a, encTop b] (.tup [.sl .none 2 (encDs (checkR (namesG v) v a b).1), .int .i64 (checkR (namesG v) v a b).2]) := by
  refine DFun.intro ti_ok Tryz.func19 rfl (by decide +kernel) Tryz.ntmps19 rfl fun Γ => ?_
  refine Tri.seq ?_
  refine Tri.region ti_ok ?_
  conv => whnf
  intro b4
  conv => whnf
  intro b5
  conv => whnf
  refine Tri.seq ?_
  refine Tri.seq ?_
  refine Tri.region ti_ok ?_
  conv => whnf
  refine ⟨fun h => h, ?_⟩
  conv => whnf
  refine ⟨fun h0 h => by first | exact h | (rw [h]; rfl) | (rw [h0, h]; rfl), ?_⟩
  conv => whnf
  refine Tri.cond _ rfl (fun hc => ?_) (fun hc => ?_)
  · refine Tri.seq ?_
    refine Tri.region ti_ok ?_
    conv => whnf
    refine Tri.ret ?_
    conv => whnf
    have h1 : viewOk v = false := by simpa using (viewOk_not v).symm.trans hc
    have h2 : checkR (namesG v) v a b = ([], 2) := by rw [checkR, if_pos h1]
    rw [h2]
    exact ⟨DLe.nil, .refl _, trivial⟩
  · refine Tri.skip ?_
    conv => whnf
    refine Tri.seq ?_
    have h1 : viewOk v = true := by
      have := (viewOk_not v).symm.trans hc
      simpa using this
    have ha' := ha
    have hb' := hb
    unfold Fits at ha' hb'
    refine Tri.seq ?_
    refine Tri.region ti_ok ?_
    conv => whnf
    refine ⟨rfl, ?_⟩
    conv => whnf
    refine ⟨[encTop a], _, fun _ => F20 a ha, ⟨.refl _, trivial⟩, ?_⟩
    conv => whnf
    refine ⟨rfl, ?_⟩
    conv => whnf
    refine ⟨fun h => h, ?_⟩
    conv => whnf
    refine ⟨[encTop b], _, fun h => F20 b hb, ⟨.refl _, trivial⟩, ?_⟩
    conv => whnf
    refine ⟨fun h => h, ?_⟩
    conv => whnf
    refine ⟨fun h0 h => by first | exact h | (rw [h]; rfl) | (rw [h0, h]; rfl), ?_⟩
    conv => whnf
    refine Tri.cond _ rfl (fun hc => ?_) (fun hc => ?_)
    · refine Tri.seq ?_
      refine Tri.region ti_ok ?_
      conv => whnf
      refine Tri.ret ?_
      conv => whnf
      have hv2 := (not_both _ _).symm.trans hc
      have h2 : checkR (namesG v) v a b = ([], 1) := by
        rw [checkR, if_neg (by rw [h1]; simp), if_neg (by intro ⟨h3, h4⟩; rw [h3, h4] at hv2; cases hv2)]
      rw [h2]
      exact ⟨DLe.nil, .refl _, trivial⟩
    · refine Tri.skip ?_
      conv => whnf
      have hv2 := (not_both _ _).symm.trans hc
      have h34 : valid a = true ∧ valid b = true := by
        cases h5 : valid a <;> cases h6 : valid b <;> simp_all
      have h7 := hv h34.1
      have hR : viewR (namesG v) v a = (showG (namesG v) v 1 a, 0) := by rw [viewR, if_neg (by rw [h1]; simp), if_neg (by rw [h34.1]; simp)]
      have hC : checkR (namesG v) v a b = compare (showG (namesG v) v 1 a) b := by rw [checkR, if_neg (by rw [h1]; simp), if_pos h34]
      refine Tri.seq ?_
      refine Tri.region ti_ok ?_
      conv => whnf
      refine ⟨rfl, ?_⟩
      conv => whnf
      refine ⟨[.int .i64 v, encTop a], .tup [encTop (showG (namesG v) v 1 a), .int .i64 0], fun _ => by
        have := F31 (W0 := W0) v hnd a ha
        rw [hR] at this
        exact this, ⟨.refl _, .refl _, trivial⟩, ?_⟩
      conv => whnf
      intro b8
      conv => whnf
      refine ⟨rfl, ?_⟩
      conv => whnf
      refine Tri.seq ?_
      refine Tri.seq ?_
      refine Tri.region ti_ok ?_
      conv => whnf
      refine Tri.cond _ rfl (fun hc => ?_) (fun hc => ?_)
      · refine Tri.seq ?_
        refine Tri.region ti_ok ?_
        conv => whnf
        refine Tri.ret ?_
        conv => whnf
        exfalso
        cases hc
      · refine Tri.skip ?_
        conv => whnf
        refine Tri.seq ?_
        refine Tri.region ti_ok ?_
        conv => whnf
        refine ⟨rfl, ?_⟩
        conv => whnf
        refine ⟨rfl, ?_⟩
        conv => whnf
        refine ⟨[encTop (showG (namesG v) v 1 a), encTop b], _, fun _ => F14 _ _ (h7 h1) hb, ⟨.refl _, .refl _, trivial⟩, ?_⟩
        conv => whnf
        refine Tri.ret ?_
        conv => whnf
        rw [hC]
        exact ⟨.refl _, .refl _, trivial⟩
end Go.Tame.V
/- The names of every view; how large a shown tree is; a shown tree, shown again. Plain. -/
namespace Go.Tame.V
open Go Go.Proofs
variable {W0 : World}
set_option maxRecDepth 10000
set_option linter.unusedVariables false
set_option linter.unusedSimpArgs false

theorem namesG01 {v : Int} (hv : v = 0 ∨ v = 1) : namesG v = namesA v := by
  funext ks
  rw [namesG, namesA]
  congr 1
  refine snoc_rec (p := fun ks => usedG v ks = usedOf v ks) rfl (fun l x ih => ?_) ks
  rw [usedG_snoc, usedOf_snoc, ih, pickG, if_pos hv]
theorem namesG23 {v : Int} (hv : v = 2 ∨ v = 3) : namesG v = fun ks => ks.map NV.name := by
  funext ks
  rw [namesG]
  refine snoc_rec (p := fun ks => (usedG v ks).reverse = ks.map NV.name) rfl (fun l x ih => ?_) ks
  rw [usedG_snoc, pickG, if_neg (by omega), List.reverse_cons, ih]; simp
theorem view4 {v : Int} (h : viewOk v = true) : v = 0 ∨ v = 1 ∨ v = 2 ∨ v = 3 := by simp [viewOk] at h; omega
theorem namesGok (hL : LibOk W0) {v : Int} (h : viewOk v = true) : NamesOk W0 v (namesG v) := by
  rcases view4 h with h | h | h | h
  · rw [namesG01 (.inl h)]; exact names01 hL (.inl h)
  · rw [namesG01 (.inr h)]; exact names01 hL (.inr h)
  · rw [namesG23 (.inl h)]; exact names23 hL (.inl h)
  · rw [namesG23 (.inr h)]; exact names23 hL (.inr h)
theorem namesNd (hL : LibOk W0) {v : Int} (h : viewOk v = true) : NamesNd (namesG v) := fun ks h1 h2 h3 => ((namesGok hL h).call ks h1 h2 h3).2.2.1

theorem szS_ssize : ∀ l : List SV, szS l ≤ ssize l
  | [] => by simp [szS]
  | s :: r => by
    have := szS_ssize r
    simp only [szS, ssize]; omega
mutual
theorem sz_tsize : ∀ n : NV, 2 * n.name.length + 2 + sz n ≤ 2 * tsize n
  | .mk a b c d e f g h i j ks ss => by
    have h1 := szL_tsize ks
    have h2 := szS_ssize ss
    simp only [sz, tsize]; omega
theorem szL_tsize : ∀ l : List NV, szL l ≤ 2 * tsizeL l
  | [] => by simp [szL]
  | n :: r => by
    have h1 := sz_tsize n
    have h2 := szL_tsize r
    simp only [szL, tsizeL]; omega
end
theorem few_sz {n : NV} {s : Int} (h : few1 n s = true) : (sz n : Int) ≤ 2 * s ∧ cnt n ≤ 40 := by
  simp only [few1, Bool.and_eq_true, decide_eq_true_eq] at h
  have := sz_tsize n
  omega
theorem szL_perm {a b : List NV} (h : a.Perm b) : szL a = szL b := by
  induction h with
  | nil => rfl
  | cons x _ ih => simp only [szL, ih]
  | swap x y l => simp only [szL]; omega
  | trans _ _ h1 h2 => exact h1.trans h2
def NamesSh (nm : List NV → List (List UInt8)) : Prop := ∀ ks : List NV, ks.length ≤ 64 → inc ks → (∀ k ∈ ks, nameOk k.name = true ∧ k.name.length < 1000000000) → ∀ m ∈ nm ks, m.length ≤ 1100
theorem namesSh (hL : LibOk W0) {v : Int} (h : viewOk v = true) : NamesSh (namesG v) := fun ks h1 h2 h3 => ((namesGok hL h).call ks h1 h2 h3).2.2.2
mutual
theorem sz_show (nm : List NV → List (List UInt8)) (v : Int) (hs : NamesSh nm) : ∀ (n : NV) (d : Int), okT n → sz (showG nm v d n) + 2200 ≤ sz n + 2200 * cnt n
  | .mk a b c t e f g h i j ks ss, d, h1 => by
    simp only [okT] at h1
    have h2 := szL_show nm v hs ks (nm ks) (d + 1) h1.2.2.2 (hs ks h1.1 h1.2.2.1 fun k hk => (okL_get h1.2.2.2 hk).1)
    have h3 := szL_perm (sortN_perm (showGL nm v (d + 1) ks (nm ks)))
    have h4 : szS (if v = 3 then ss else []) ≤ szS ss := by split <;> simp [szS]
    simp only [showG, sz, cnt]
    rw [h3]; omega
theorem szL_show (nm : List NV → List (List UInt8)) (v : Int) (hs : NamesSh nm) : ∀ (l : List NV) (ms : List (List UInt8)) (d : Int), okL l → (∀ m ∈ ms, m.length ≤ 1100) → szL (showGL nm v d l ms) ≤ szL l + 2200 * cntL l
  | [], ms, d, _, _ => by simp [showGL, szL]
  | k :: r, [], d, _, _ => by simp [showGL, szL]
  | k :: r, m :: ms, d, h1, hm => by
    simp only [okL] at h1
    have h2 := szL_show nm v hs r ms d h1.2 fun x hx => hm x (List.mem_cons_of_mem _ hx)
    have h3 := sz_show nm v hs k d h1.1.2
    have h4 := hm m List.mem_cons_self
    have h5 : sz ((showG nm v d k).named m) = sz (showG nm v d k) := sz_named _ _
    simp only [showGL]
    split
    · simp only [szL, cntL]
      have h6 : ((showG nm v d k).named m).name = m := rfl
      rw [h5, h6]; omega
    · simp only [szL, cntL]; omega
end
theorem show_name (nm : List NV → List (List UInt8)) (v d : Int) (n : NV) : (showG nm v d n).name = n.name := by rw [showG_eq]
theorem show_fits (nm : List NV → List (List UInt8)) (v : Int) (hs : NamesSh nm) {n : NV} (hv : valid n = true) (hf : few1 n 100000 = true) : Fits (showG nm v 1 n) ∧ sz (showG nm v 1 n) < 300000 := by
  have h1 := sz_show nm v hs n 1 (valid_okT hv)
  have h2 := few_sz hf
  have h3 : n.name = [] := by
    rw [valid_good, Bool.and_eq_true] at hv
    exact (goodB_good hv.2).1.name1 rfl
  unfold Fits
  rw [show_name, h3]
  simp only [List.length_nil]
  omega

/-- At the views 2 and 3 a shown tree shows itself. -/
theorem shown23 {v : Int} (hv : v = 2 ∨ v = 3) {n : NV} (h : n.n6 = 0) (d : Int) : shown v n d = true := by
  rw [shown_alt, h]
  rcases hv with rfl | rfl
  · rw [if_neg (by decide), if_neg (by simp)]; rfl
  · rw [if_neg (by decide), if_neg (by simp)]; rfl
def idNm : List NV → List (List UInt8) := fun ks => ks.map NV.name
theorem named_self (n : NV) : n.named n.name = n := by cases n; rfl
mutual
theorem show_again {v : Int} (hv : v = 2 ∨ v = 3) : ∀ (n : NV) (d d' : Int), okT n → showG idNm v d' (showG idNm v d n) = showG idNm v d n
  | .mk a b c t e f g h i j ks ss, d, d', h1 => by
    simp only [okT] at h1
    have hk : keeps v = true := by rcases hv with rfl | rfl <;> rfl
    have ih := showL_again hv ks (idNm ks) (d + 1) (d' + 1) h1.2.2.2
    have hnd : NamesNd idNm := fun ks h64 hinc hok => by
      rw [idNm, List.nodup_iff_pairwise_ne, List.pairwise_map]
      exact List.pairwise_iff_getElem.2 fun i j hi hj hij => bl_ne (inc_get hinc hij hj)
    have hn := showGL_nd idNm v hnd (d + 1) h1.1 h1.2.2.1 h1.2.2.2
    have hp := sortN_perm (showGL idNm v (d + 1) ks (idNm ks))
    have hall : ∀ l : List NV, (∀ x ∈ l, x.n6 = 0 ∧ showG idNm v (d' + 1) x = x) → showGL idNm v (d' + 1) l (idNm l) = l := by
      intro l
      induction l with
      | nil => intro _; rfl
      | cons x r ihr =>
        intro hx
        have h0 := hx x List.mem_cons_self
        have hr := ihr fun y hy => hx y (List.mem_cons_of_mem _ hy)
        have e : idNm (x :: r) = x.name :: idNm r := rfl
        rw [e]
        simp only [showGL]
        rw [if_pos (shown23 hv h0.1 _), h0.2, named_self, hr]
    simp only [showG, hk, if_true]
    rw [hall _ fun x hx => ih x (hp.subset hx), sortN_id (sortN_inc hn)]
    congr 1
    split <;> rfl
theorem showL_again {v : Int} (hv : v = 2 ∨ v = 3) : ∀ (l : List NV) (ms : List (List UInt8)) (d d' : Int), okL l → ∀ x ∈ showGL idNm v d l ms, x.n6 = 0 ∧ showG idNm v d' x = x
  | [], ms, d, d', _ => by simp [showGL]
  | k :: r, [], d, d', _ => by simp [showGL]
  | k :: r, m :: ms, d, d', h1 => by
    simp only [okL] at h1
    intro x hx
    have ih := showL_again hv r ms d d' h1.2
    simp only [showGL] at hx
    split at hx
    · rcases List.mem_cons.1 hx with rfl | hx
      · refine ⟨by rw [showG_eq]; rfl, ?_⟩
        rw [showG_named, show_again hv k d d' h1.1.2]
      · exact ih x hx
    · exact ih x hx
end
end Go.Tame.V
/- The laws of Check: ViewdiffChecks, ViewdiffViews. By program (mk.py). -/
namespace Go.Tame.V
open Go Go.Proofs
variable {W0 : World}
set_option maxRecDepth 10000
set_option linter.unusedVariables false
set_option linter.unusedSimpArgs false

theorem checkR_len {nm : List NV → List (List UInt8)} {v : Int} {a b : NV} (hb : Fits b) (h : valid a = true → viewOk v = true → sz (showG nm v 1 a) < 300000) : (checkR nm v a b).1.length < 1000000000 := by
  unfold checkR
  split
  · simp
  · rename_i hv
    split
    · rename_i h2
      have h3 := h h2.1 (by simpa using hv)
      unfold compare
      split
      · have := cmpT_len [] (showG nm v 1 a) b
        unfold Fits at hb
        simp only; omega
      · simp
    · simp

theorem F4 (hL : LibOk W0) (v : Int) (a b : NV) (ha : Fits a) (hb : Fits b) : DFun Tryz.prog W0 4 [.int .i64 v, encTop a, encTop b] (.bool true) := by
  refine DFun.intro ti_ok Tryz.func4 rfl (by decide +kernel) Tryz.ntmps4 rfl fun Γ => ?_
  refine Tri.seq ?_
  refine Tri.region ti_ok ?_
  conv => whnf
  intro ba
  conv => whnf
  intro bb
  conv => whnf
  refine Tri.seq ?_
  refine Tri.seq ?_
  refine Tri.region ti_ok ?_
  conv => whnf
  refine ⟨[], _, fun _ => F11 hL, trivial, ?_⟩
  conv => whnf
  refine Tri.cond _ rfl (fun hc => ?_) (fun hc => ?_)
  · refine Tri.seq ?_
    refine Tri.region ti_ok ?_
    conv => whnf
    refine Tri.ret ?_
    conv => whnf
    cases hc
  · refine Tri.skip ?_
    conv => whnf
    refine Tri.seq ?_
    refine Tri.seq ?_
    refine Tri.region ti_ok ?_
    conv => whnf
    refine ⟨rfl, ?_⟩
    conv => whnf
    refine ⟨rfl, ?_⟩
    conv => whnf
    refine ⟨[encTop a, encTop b], _, fun _ => F12 a b ha hb, ⟨.refl _, .refl _, trivial⟩, ?_⟩
    conv => whnf
    refine Tri.cond _ rfl (fun hc => ?_) (fun hc => ?_)
    · refine Tri.seq ?_
      refine Tri.region ti_ok ?_
      conv => whnf
      refine Tri.ret ?_
      conv => whnf
      exact .refl _
    · refine Tri.skip ?_
      conv => whnf
      have hfab : few1 a 100000 = true ∧ few1 b 100000 = true := by simpa using hc
      have hsh : valid a = true → viewOk v = true → Fits (showG (namesG v) v 1 a) ∧ sz (showG (namesG v) v 1 a) < 300000 := fun h1 h2 => show_fits (namesG v) v (namesSh hL h2) h1 hfab.1
      have hsa := few_sz hfab.1
      have hlen := checkR_len (nm := namesG v) (v := v) (a := a) hb fun h1 h2 => (hsh h1 h2).2
      refine Tri.seq ?_
      refine Tri.region ti_ok ?_
      conv => whnf
      refine ⟨rfl, ?_⟩
      conv => whnf
      refine ⟨rfl, ?_⟩
      conv => whnf
      refine ⟨[.int .i64 v, encTop a, encTop b], _, fun _ => F18 hL (namesG v) v (fun h => namesGok hL h) a b ha hb (fun h => ⟨by omega, fun h2 => (hsh h h2).1⟩), ⟨.refl _, .refl _, .refl _, trivial⟩, ?_⟩
      conv => whnf
      refine Tri.seq ?_
      refine Tri.region ti_ok ?_
      conv => whnf
      refine ⟨rfl, ?_⟩
      conv => whnf
      refine ⟨rfl, ?_⟩
      conv => whnf
      refine ⟨[.int .i64 v, encTop a, encTop b], _, fun _ => F19 v (fun h => namesNd hL h) a b ha hb (fun h h2 => (hsh h h2).1), ⟨.refl _, .refl _, .refl _, trivial⟩, ?_⟩
      conv => whnf
      refine Tri.seq ?_
      refine Tri.region ti_ok ?_
      conv => whnf
      refine ⟨fun h => h, ?_⟩
      conv => whnf
      refine ⟨fun h => h, ?_⟩
      conv => whnf
      refine ⟨[.sl .none 2 (encDs (checkR (namesG v) v a b).1), .sl .none 2 (encDs (checkR (namesG v) v a b).1)], _, fun h => F15 _ _ hlen hlen, ⟨.refl _, .refl _, trivial⟩, ?_⟩
      conv => whnf
      refine ⟨fun h0 h => by first | exact h | (rw [h]; rfl) | (rw [h0, h]; rfl), ?_⟩
      conv => whnf
      refine Tri.ret ?_
      conv => whnf
      exact DLe.of_eq (congrArg D.bool (by simp))

theorem F9 (hL : LibOk W0) (k : Int) (hk : 0 ≤ k ∧ k ≤ 255) (n : NV) (hn : Fits n) : DFun Tryz.prog W0 9 [.int .u8 k, encTop n] (.bool true) := by
  refine DFun.intro ti_ok Tryz.func9 rfl (by decide +kernel) Tryz.ntmps9 rfl fun Γ => ?_
  refine Tri.seq ?_
  refine Tri.region ti_ok ?_
  conv => whnf
  intro b3
  conv => whnf
  refine Tri.seq ?_
  refine Tri.seq ?_
  refine Tri.region ti_ok ?_
  conv => whnf
  refine ⟨[], _, fun _ => F11 hL, trivial, ?_⟩
  conv => whnf
  refine Tri.cond _ rfl (fun hc => ?_) (fun hc => ?_)
  · refine Tri.seq ?_
    refine Tri.region ti_ok ?_
    conv => whnf
    refine Tri.ret ?_
    conv => whnf
    cases hc
  · refine Tri.skip ?_
    conv => whnf
    refine Tri.seq ?_
    refine Tri.seq ?_
    refine Tri.region ti_ok ?_
    conv => whnf
    refine ⟨rfl, ?_⟩
    conv => whnf
    refine ⟨[encTop n, .int .i64 100000], _, fun _ => F26 n 100000 hn, ⟨.refl _, .refl _, trivial⟩, ?_⟩
    conv => whnf
    refine ⟨rfl, ?_⟩
    conv => whnf
    refine ⟨fun h => h, ?_⟩
    conv => whnf
    refine ⟨[encTop n], _, fun h => F20 n hn, ⟨.refl _, trivial⟩, ?_⟩
    conv => whnf
    refine ⟨fun h => h, ?_⟩
    conv => whnf
    refine ⟨fun h0 h => by first | exact h | (rw [h]; rfl) | (rw [h0, h]; rfl), ?_⟩
    conv => whnf
    refine Tri.cond _ rfl (fun hc => ?_) (fun hc => ?_)
    · refine Tri.seq ?_
      refine Tri.region ti_ok ?_
      conv => whnf
      refine Tri.ret ?_
      conv => whnf
      exact .refl _
    · refine Tri.skip ?_
      conv => whnf
      have hfv : few1 n 100000 = true ∧ valid n = true := by
        cases h1 : few1 n 100000 <;> cases h2 : valid n <;> simp_all
      obtain ⟨hf, hval⟩ := hfv
      refine Tri.seq ?_
      refine Tri.region ti_ok ?_
      conv => whnf
      refine .inl ⟨by simp only [InR]; omega, ?_⟩
      conv => whnf
      refine ⟨fun _ => by decide, ?_⟩
      conv => whnf
      refine Tri.seq ?_
      have hv0 : 0 ≤ Int.tmod k 4 ∧ Int.tmod k 4 < 4 := ⟨Int.tmod_nonneg 4 hk.1, Int.tmod_lt_of_pos k (by decide)⟩
      generalize hvv : Int.tmod k 4 = v at *
      have hvo : viewOk v = true := by simp [viewOk, hv0.1, hv0.2]
      have hS := show_fits (namesG v) v (namesSh hL hvo) hval hf
      have hR : viewR (namesG v) v n = (showG (namesG v) v 1 n, 0) := by rw [viewR, if_neg (by rw [hvo]; simp), if_neg (by rw [hval]; simp)]
      have hszn := few_sz hf
      refine Tri.region ti_ok ?_
      conv => whnf
      refine ⟨rfl, ?_⟩
      conv => whnf
      refine ⟨[.int .i64 v, encTop n], .tup [encTop (showG (namesG v) v 1 n), .int .i64 0], fun _ => by
        have := F31 (W0 := W0) v (fun h => namesNd hL h) n hn
        rw [hR] at this
        exact this, ⟨.refl _, .refl _, trivial⟩, ?_⟩
      conv => whnf
      intro b6
      conv => whnf
      refine ⟨rfl, ?_⟩
      conv => whnf
      refine Tri.seq ?_
      refine Tri.seq ?_
      refine Tri.region ti_ok ?_
      conv => whnf
      refine ⟨rfl, ?_⟩
      conv => whnf
      refine ⟨fun h => h, ?_⟩
      conv => whnf
      refine ⟨[encTop (showG (namesG v) v 1 n)], _, fun h => F20 _ hS.1, ⟨.refl _, trivial⟩, ?_⟩
      conv => whnf
      refine ⟨fun h => h, ?_⟩
      conv => whnf
      refine ⟨fun h0 h => by first | exact h | (rw [h]; rfl) | (rw [h0, h]; rfl), ?_⟩
      conv => whnf
      refine Tri.cond _ rfl (fun hc => ?_) (fun hc => ?_)
      · refine Tri.seq ?_
        refine Tri.region ti_ok ?_
        conv => whnf
        refine Tri.ret ?_
        conv => whnf
        exact .refl _
      · refine Tri.skip ?_
        conv => whnf
        have hvS : valid (showG (namesG v) v 1 n) = true := by simpa using hc
        have hC : ∀ m : NV, valid m = true → showG (namesG v) v 1 m = showG (namesG v) v 1 n → checkR (namesG v) v m (showG (namesG v) v 1 n) = ([], 0) := fun m hm e => by
          rw [checkR, if_neg (by rw [hvo]; simp), if_pos ⟨hm, hvS⟩, e, compare_ok hvS hvS, cmpT_self]
        refine Tri.seq ?_
        refine Tri.region ti_ok ?_
        conv => whnf
        refine ⟨rfl, ?_⟩
        conv => whnf
        refine ⟨rfl, ?_⟩
        conv => whnf
        refine ⟨[.int .i64 v, encTop n, encTop (showG (namesG v) v 1 n)], .tup [.sl .none 2 [], .int .i64 0], fun _ => by
          have := F18 hL (namesG v) v (fun h => namesGok hL h) n (showG (namesG v) v 1 n) hn hS.1 (fun h => ⟨by omega, fun h2 => hS.1⟩)
          rw [hC n hval rfl] at this
          exact this, ⟨.refl _, .refl _, .refl _, trivial⟩, ?_⟩
        conv => whnf
        refine Tri.seq ?_
        refine Tri.seq ?_
        refine Tri.region ti_ok ?_
        conv => whnf
        refine ⟨fun h => h, ?_⟩
        conv => whnf
        refine ⟨fun h => h, ?_⟩
        conv => whnf
        refine ⟨fun h0 h => by first | exact h | (rw [h]; rfl) | (rw [h0, h]; rfl), ?_⟩
        conv => whnf
        refine Tri.cond _ rfl (fun hc => ?_) (fun hc => ?_)
        · refine Tri.seq ?_
          refine Tri.region ti_ok ?_
          conv => whnf
          refine Tri.ret ?_
          conv => whnf
          cases hc
        · refine Tri.skip ?_
          conv => whnf
          refine Tri.seq ?_
          refine Tri.seq ?_
          refine Tri.region ti_ok ?_
          conv => whnf
          refine ⟨fun h => h, ?_⟩
          conv => whnf
          refine ⟨fun h0 h => by first | exact h | (rw [h]; rfl) | (rw [h0, h]; rfl), ?_⟩
          conv => whnf
          refine Tri.cond _ rfl (fun hc => ?_) (fun hc => ?_)
          · refine Tri.seq ?_
            refine Tri.region ti_ok ?_
            conv => whnf
            refine Tri.ret ?_
            conv => whnf
            exact .refl _
          · refine Tri.skip ?_
            conv => whnf
            have hv23 : v = 2 ∨ v = 3 := by
              have h0 : (v == 0) = false := by cases h : (v == 0) with | false => rfl | true => rw [h] at hc; cases hc
              have h1 : (v == 1) = false := by rw [h0] at hc; exact hc
              simp at h0 h1; omega
            have hagain : showG (namesG v) v 1 (showG (namesG v) v 1 n) = showG (namesG v) v 1 n := by
              rw [namesG23 hv23]; exact show_again hv23 n 1 1 (valid_okT hval)
            refine Tri.seq ?_
            refine Tri.region ti_ok ?_
            conv => whnf
            refine ⟨rfl, ?_⟩
            conv => whnf
            refine ⟨rfl, ?_⟩
            conv => whnf
            refine ⟨[.int .i64 v, encTop (showG (namesG v) v 1 n), encTop (showG (namesG v) v 1 n)], .tup [.sl .none 2 [], .int .i64 0], fun _ => by
              have := F18 hL (namesG v) v (fun h => namesGok hL h) (showG (namesG v) v 1 n) (showG (namesG v) v 1 n) hS.1 hS.1 (fun h => ⟨by omega, fun h2 => by rw [hagain]; exact hS.1⟩)
              rw [hC _ hvS hagain] at this
              exact this, ⟨.refl _, .refl _, .refl _, trivial⟩, ?_⟩
            conv => whnf
            refine Tri.seq ?_
            refine Tri.region ti_ok ?_
            conv => whnf
            refine ⟨fun h => h, ?_⟩
            conv => whnf
            refine ⟨fun h => h, ?_⟩
            conv => whnf
            refine ⟨fun h0 h => by first | exact h | (rw [h]; rfl) | (rw [h0, h]; rfl), ?_⟩
            conv => whnf
            refine Tri.ret ?_
            conv => whnf
            exact .refl _
end Go.Tame.V
