/- A program logic of my own over the model, and contracts of this program's functions by it: part 5. No conditions of its own: each theorem states its own. -/
import Derived.Test.YtpkeldhgfdeebaaGreatDoorL4
import Derived.Test.YtpkeldhgfdeebaaGreatDoorCards
import Derived.Test.YtpkeldhgfdeebaaGreatDoorTie
import Derived.ProofKit
import Derived.OpenShut
import Derived.Deep.DeepHandedRow
import Derived.Lib.LaidTab
import Derived.Lib.LaidU8
import Derived.Stop.LaidErr
set_option linter.unnecessarySimpa false
set_option linter.unusedSimpArgs false
set_option linter.unusedVariables false
/- Contracts: Names, of any kids. By program (mk66.py, mk.py). -/
namespace Go.Tame.V
open Go Go.Proofs
variable {W0 : World}
set_option maxRecDepth 10000
set_option linter.unusedVariables false
set_option linter.unusedSimpArgs false

theorem F105g (hL : LibOk W0) (v : Int) (kids : List NV) (hlen : kids.length < 1000000) (hnl : ∀ k ∈ kids, k.name.length < 1000000000) : DFun Tryz.prog W0 29 [.int .i64 v, .sl .none 12 (kids.map enc)] (.tup [.sl .none 1 (strs (namesR v kids).1), .int .i64 (namesR v kids).2]) := by
 refine DFun.intro ti_ok Tryz.func29 rfl (by decide +kernel) Tryz.ntmps29 rfl fun Γ => ?_
 refine Tri.seq ?_
 refine Tri.region ti_ok ?_
 conv => whnf
 intro bk
 conv => whnf
 refine Tri.seq ?_
 refine Tri.seq ?_
 refine Tri.region ti_ok ?_
 conv => whnf
 refine ⟨[.int .i64 v], _, fun _ => F91 v, ⟨.refl _, trivial⟩, ?_⟩
 conv => whnf
 refine Tri.cond _ rfl (fun hc => ?_) (fun hc => ?_)
 ·refine Tri.seq ?_
  refine Tri.region ti_ok ?_
  conv => whnf
  refine Tri.ret ?_
  conv => whnf
  have h1 : viewOk v = false := by simpa using hc
  have hR : namesR v kids = ([], 2) := by rw [namesR, if_pos h1]
  rw [hR]
  exact ⟨DLe.nil, .refl _, trivial⟩
 ·refine Tri.skip ?_
  conv => whnf
  have hvo : viewOk v = true := by simpa using hc
  refine Tri.seq ?_
  refine Tri.seq ?_
  refine Tri.region ti_ok ?_
  conv => whnf
  refine ⟨rfl, ?_⟩
  conv => whnf
  refine Tri.cond _ rfl (fun hc => ?_) (fun hc => ?_)
  ·refine Tri.seq ?_
   refine Tri.region ti_ok ?_
   conv => whnf
   refine Tri.ret ?_
   conv => whnf
   have h1 : 64 < kids.length := by simp at hc; omega
   have hR : namesR v kids = ([], 7) := by rw [namesR, if_neg (by rw [hvo]; simp), if_pos h1]
   rw [hR]
   exact ⟨DLe.nil, .refl _, trivial⟩
  ·refine Tri.skip ?_
   conv => whnf
   have h64 : kids.length ≤ 64 := by simp at hc; omega
   refine Tri.seq ?_
   refine Tri.regionX ti_ok ?_
   conv => whnf
   refine .inl ?_
   conv => whnf
   refine ⟨rfl, ?_⟩
   conv => whnf
   refine .inr (XOp.makeRow ti_ok (n := kids.length) (k1 := .i64) (k2 := .i64) (z := .int .i64 0) rfl rfl rfl rfl rfl ?_ ?_ (by show 8 * _ ≤ _; omega) (by omega) fun rv => ?_)
   ·show D.int _ _ = _; simp
   ·show D.int _ _ = _; simp
   conv => whnf
   refine Tri.seq ?_
   refine Tri.seq ?_
   refine Tri.region ti_ok ?_
   conv => whnf
   refine ⟨rfl, ?_⟩
   conv => whnf
   refine Tri.block ?_
   refine Tri.loopK (α := { i : Nat // i ≤ kids.length ∧ ∀ j, (hj : j < kids.length) → j < i → nameOk kids[j].name = true }) (fun x => [(0, .int .i64 v), (3, .box 3 bk 0), (6, .raw rv), (25, .sl .none 12 (kids.map enc)), (26, .int .i64 (kids.map enc).length), (27, .int .i64 x.1)])
    (fun x => [(24, .row rv (places x.1 ++ List.replicate (kids.length - x.1) (.int .i64 0)) 1 3), (3, .box bk [.sl .none 12 (kids.map enc)])]) (fun x => kids.length - x.1) ⟨0, by omega, fun j _ h => absurd h (Nat.not_lt_zero _)⟩ [(24, 24), (3, 3)]
    ⟨⟨.refl _, .refl _, .refl _, .refl _, .refl _, .refl _, trivial⟩, rfl, rfl, rfl, rfl, rfl, trivial⟩ ?_
   rintro ⟨i, hi, hoki⟩
   dsimp only
   refine Tri.seq ?_
   refine Tri.region ti_ok ?_
   conv => whnf
   refine Tri.seq ?_
   refine Tri.cond _ rfl (fun hc => ?_) (fun hc => ?_)
   ·refine Tri.skip ?_
    conv => whnf
    have hia : i < kids.length := by simpa using hc
    have hpl : (places i).length = i := by simp [places]
    refine Tri.seq ?_
    refine Tri.block ?_
    refine Tri.seq ?_
    refine Tri.region ti_ok ?_
    conv => whnf
    refine ⟨fun _ => by simp; omega, ?_⟩
    conv => whnf
    refine ⟨encTop kids[i], fun _ => get_kids hia, ?_⟩
    conv => whnf
    intro b8
    conv => whnf
    refine ⟨rfl, ?_⟩
    conv => whnf
    refine Tri.seq ?_
    refine Tri.seq ?_
    refine Tri.region ti_ok ?_
    conv => whnf
    refine ⟨rfl, ?_⟩
    conv => whnf
    refine ⟨[.str kids[i].name], _, fun _ => F100 hL _ (hnl _ (List.getElem_mem hia)), ⟨.refl _, trivial⟩, ?_⟩
    conv => whnf
    refine Tri.cond _ rfl (fun hc => ?_) (fun hc => ?_)
    ·refine Tri.seq ?_
     refine Tri.region ti_ok ?_
     conv => whnf
     refine Tri.ret ?_
     conv => whnf
     have h1 : allOk kids = false := by
      rw [allOk, List.all_eq_false]
      exact ⟨kids[i], List.getElem_mem hia, by simpa using hc⟩
     have hR : namesR v kids = ([], 4) := by rw [namesR, if_neg (by rw [hvo]; simp), if_neg (by omega), if_pos h1]
     rw [hR]
     exact ⟨DLe.nil, .refl _, trivial⟩
    ·refine Tri.skip ?_
     conv => whnf
     have hoi : nameOk kids[i].name = true := by simpa using hc
     refine Tri.regionX ti_ok ?_
     conv => whnf
     refine .inr (XOp.rowIndex ti_ok 24 rfl rfl rfl rfl rfl rfl rfl (by omega) (by simp [hpl]; omega) ?_)
     conv => whnf
     conv => whnf
     refine .inr (XOp.rowStore ti_ok 24 (i := i) (by rw [Int.toNat_natCast]; rfl) rfl rfl rfl (by simp [hpl]; omega) rfl ?_)
     conv => whnf
     conv => whnf
     refine Tri.region ti_ok ?_
     conv => whnf
     refine .inl ⟨fun _ => by simp [InR]; omega, ?_⟩
     conv => whnf
     exact ⟨⟨i + 1, by omega, fun j hj hji => if e : j = i then by subst e; exact hoi else hoki j hj (by omega)⟩, [(24, 24), (3, 3)], by show _ - (i + 1) < _ - i; omega, ⟨.refl _, .refl _, .refl _, .refl _, .refl _, .refl _, trivial⟩, rfl, rfl, congrArg (fun z => some (HObj.row rv z 1 3)) (places_set hia _), rfl, rfl, trivial⟩
   ·refine Tri.exit ?_
    conv => whnf
    refine Tri.seq ?_
    have hin : i = kids.length := by simp at hc; omega
    have hrow : places i ++ List.replicate (kids.length - i) (D.int .i64 0) = places kids.length := by subst hin; simp
    rw [hrow]
    have hall : ∀ k ∈ kids, nameOk k.name = true := fun k hk => by
     obtain ⟨j, hj, rfl⟩ := List.mem_iff_getElem.1 hk
     exact hoki j hj (by omega)
    have hallb : allOk kids = true := by rw [allOk, List.all_eq_true]; exact hall
    refine Tri.regionX ti_ok ?_
    conv => whnf
    refine .inr (XOp.call rfl [.raw rv, .fn (.func 77) [] [.box 2000 bk 0]] [(2001, 24), (2000, 3)] (sort_order kids hlen bk rv) rfl ⟨.refl _, DLe.fn trivial ⟨DLe.box, trivial⟩, trivial⟩ ?_)
    rintro d H' ⟨rfl, L, hO, rfl⟩
    refine ⟨_, .refl _, ?_⟩
    conv => whnf
    refine Tri.forgetK [(6, .raw rv), (0, .int .i64 v), (3, .box 3 bk 0)] [(24, .row rv (L.map encI) 1 3), (3, .box bk [.sl .none 12 (kids.map enc)])] [(24, 24), (3, 3)] ⟨⟨.refl _, .refl _, .refl _, trivial⟩, rfl, rfl, rfl, rfl, rfl, trivial⟩ ?_
    refine Tri.commitSt 24 6 rfl ?_
    have hLl := hO.len
    refine Tri.seq ?_
    refine Tri.regionX ti_ok ?_
    conv => whnf
    refine .inl ?_
    conv => whnf
    refine ⟨rfl, ?_⟩
    conv => whnf
    refine .inr (XOp.makeRow ti_ok (n := kids.length) (k1 := .i64) (k2 := .i64) (z := .str []) rfl rfl rfl rfl rfl ?_ ?_ (by show 16 * _ ≤ _; omega) (by omega) fun nv => ?_)
    ·show D.int _ _ = _; simp
    ·show D.int _ _ = _; simp
    conv => whnf
    refine .inr (XOp.makeMap fun mb => ?_)
    conv => whnf
    refine Tri.seq ?_
    refine Tri.seq ?_
    refine Tri.region ti_ok ?_
    conv => whnf
    refine Tri.block ?_
    refine Tri.loopK (α := { t : Nat // t ≤ L.length ∧ ∀ j, (hj : j + 1 < L.length) → j + 1 < t → (kids.getD L[j] default).name ≠ (kids.getD L[j + 1] default).name }) (fun x => [(0, .int .i64 v), (3, .box 3 bk 0), (6, .sl .none 1 (L.map encI)), (48, .sl .none 1 (L.map encI)), (49, .int .i64 (L.map encI).length), (50, .int .i64 x.1), (9, .raw nv), (10, .raw (.map (some mb)))])
     (fun x => [(46, .row nv (rowF kids.length L (pickAt v kids L) x.1) 1 9), (47, .set mb (usedG v ((inOrder kids L).take x.1))), (3, .box bk [.sl .none 12 (kids.map enc)])]) (fun x => L.length - x.1) ⟨0, by omega, fun j _ h => absurd h (Nat.not_lt_zero _)⟩ [(46, 46), (47, 47), (3, 3)]
     ⟨⟨.refl _, .refl _, .refl _, .refl _, .refl _, .refl _, .refl _, .refl _, trivial⟩, rfl, rfl, congrArg (fun z => some (HObj.row nv z 1 9)) rowF_zero.symm, rfl, rfl, rfl, rfl, trivial⟩ ?_
    rintro ⟨t, ht, hnei⟩
    dsimp only
    refine Tri.seq ?_
    refine Tri.region ti_ok ?_
    conv => whnf
    refine Tri.seq ?_
    refine Tri.cond _ rfl (fun hc => ?_) (fun hc => ?_)
    ·refine Tri.skip ?_
     conv => whnf
     have hta : t < L.length := by simpa using hc
     have hkt : L[t] < kids.length := hO.lt hta
     have hord : ∀ j, (hj : j < L.length) → (L.map encI)[j]? = some (.int .i64 (L[j] : Nat)) := fun j hj => by simp [encI, hj]
     have hkd : ∀ j, j < kids.length → (kids.map enc)[j]? = some (encTop (kids.getD j default)) := fun j hj => by rw [get_kids hj]; simp [List.getD, hj]
     have hke : kids.getD L[t] default = kids[L[t]] := by simp [List.getD, hkt]
     have hpr : ∀ (h : 0 < t), kids.getD (L.getD (t - 1) 0) default = kids.getD (L[t - 1]'(by omega)) default := fun h => by simp [List.getD, show t - 1 < L.length by omega]
     have hlp : 0 < t → L.getD (t - 1) 0 < kids.length := fun h => by
      have := hO.lt (t := t - 1) (by omega)
      simpa [List.getD, show t - 1 < L.length by omega] using this
     refine Tri.seq ?_
     refine Tri.block ?_
     refine Tri.seq ?_
     refine Tri.region ti_ok ?_
     conv => whnf
     refine ⟨fun _ => by simp; omega, ?_⟩
     conv => whnf
     refine ⟨.int .i64 (L[t] : Nat), fun _ => hord t hta, ?_⟩
     conv => whnf
     refine Tri.seq ?_
     refine Tri.seq ?_
     refine Tri.draw ti_ok mixed (by kernel_rfl) ?_
     conv => whnf
     refine ⟨rfl, ?_⟩
     conv => whnf
     refine ⟨fun h => h, ?_⟩
     conv => whnf
     refine .inl ⟨fun h => by simp only [InR]; omega, ?_⟩
     conv => whnf
     refine ⟨fun h => h, ?_⟩
     conv => whnf
     refine ⟨fun h => h, ?_⟩
     conv => whnf
     refine ⟨fun h => by simp at h; simp; omega, ?_⟩
     conv => whnf
     refine ⟨fun h => h, ?_⟩
     conv => whnf
     refine ⟨.int .i64 ((L.getD (t - 1) 0 : Nat) : Int), fun h => by
      have h0 : 0 < t := by simpa using h
      rw [pred_toNat h0, hord (t - 1) (by omega)]; simp [List.getD, show t - 1 < L.length by omega], ?_⟩
     conv => whnf
     refine ⟨fun h => h, ?_⟩
     conv => whnf
     refine ⟨fun h => h, ?_⟩
     conv => whnf
     refine ⟨fun h => by
      have := hlp (by simpa using h)
      rw [List.length_map]; omega, ?_⟩
     conv => whnf
     refine ⟨fun h => h, ?_⟩
     conv => whnf
     refine ⟨fun h => h, ?_⟩
     conv => whnf
     refine ⟨encTop (kids.getD (L.getD (t - 1) 0) default), fun h => hkd _ (hlp (by simpa using h)), ?_⟩
     conv => whnf
     refine ⟨rfl, ?_⟩
     conv => whnf
     refine ⟨fun h => h, ?_⟩
     conv => whnf
     refine ⟨fun h => h, ?_⟩
     conv => whnf
     refine ⟨fun h => by simp; omega, ?_⟩
     conv => whnf
     refine ⟨fun h => h, ?_⟩
     conv => whnf
     refine ⟨fun h => h, ?_⟩
     conv => whnf
     refine ⟨encTop kids[L[t]], fun h => get_kids hkt, ?_⟩
     conv => whnf
     refine ⟨fun h => h, ?_⟩
     conv => whnf
     refine ⟨fun h => h, ?_⟩
     conv => whnf
     refine ⟨fun h0 h => by first | exact h | (rw [h]; rfl) | (rw [h0, h]; rfl), ?_⟩
     conv => whnf
     refine Tri.cond _ rfl (fun hc => ?_) (fun hc => ?_)
     ·refine Tri.seq ?_
      refine Tri.region ti_ok ?_
      conv => whnf
      refine Tri.ret ?_
      conv => whnf
      cases h0 : decide ((0 : Int) < t) with
      | false => rw [h0] at hc; cases hc
      | true =>
       have ht0 : 0 < t := by simpa using h0
       rw [h0] at hc
       have hc2 : ((kids.getD (L.getD (t - 1) 0) default).name == kids[L[t]].name) = true := hc
       rw [hpr ht0, ← hke, beq_iff_eq] at hc2
       have hd := order_dup hO (s := t - 1) (t := t) (by omega) hta hc2
       have hR : namesR v kids = ([], 5) := by rw [namesR, if_neg (by rw [hvo]; simp), if_neg (by omega), if_neg (by rw [hallb]; simp), if_pos hd]
       rw [hR]
       exact ⟨DLe.nil, .refl _, trivial⟩
     ·refine Tri.skip ?_
      conv => whnf
      have hnew : ∀ j, (hj : j + 1 < L.length) → j + 1 < t + 1 → (kids.getD L[j] default).name ≠ (kids.getD L[j + 1] default).name := fun j hj hjt => by
       by_cases e : j + 1 = t
       ·subst e
        intro h
        have h1 : decide ((0 : Int) < (j + 1 : Nat)) = true := by simp
        rw [h1] at hc
        have hc2 : ((kids.getD (L.getD (j + 1 - 1) 0) default).name == kids[L[j + 1]].name) = false := hc
        rw [hpr (by omega), ← hke, beq_eq_false_iff_ne] at hc2
        exact hc2 h
       ·exact hnei j hj (by omega)
      have hpk := pickAt_get hO (v := v) hta
      have hrs := rowF_set (g := pickAt v kids L) hta hkt
      have hOl := order_len hO
      have hus : usedG v ((inOrder kids L).take (t + 1)) = pickAt v kids L L[t] :: usedG v ((inOrder kids L).take t) := by
       rw [usedG_take (by omega), hpk, order_get hO hta]
      have hUl : (usedG v ((inOrder kids L).take t)).length = t := by rw [usedG_len]; simp; omega
      have hoki := hall kids[L[t]] (List.getElem_mem hkt)
      have hgk := get_kids hkt
      have hrl := rowF_len (n := kids.length) (L := L) (g := pickAt v kids L) (t := t)
      generalize usedG v ((inOrder kids L).take t) = U at *
      generalize rowF kids.length L (pickAt v kids L) t = Rw at *
      clear hord hpr hlp hkd hc
      generalize hkk : kids[L[t]] = k at *
      generalize hix : L[t] = ix at *
      refine Tri.seq ?_
      refine Tri.region ti_ok ?_
      conv => whnf
      refine ⟨rfl, ?_⟩
      conv => whnf
      refine ⟨fun _ => by simp; omega, ?_⟩
      conv => whnf
      refine ⟨encTop k, fun _ => hgk, ?_⟩
      conv => whnf
      refine Tri.seq ?_
      refine Tri.seq ?_
      refine Tri.region ti_ok ?_
      conv => whnf
      refine ⟨fun h => h, ?_⟩
      conv => whnf
      refine ⟨fun h0 h => by first | exact h | (rw [h]; rfl) | (rw [h0, h]; rfl), ?_⟩
      conv => whnf
      refine Tri.cond _ rfl (fun hc => ?_) (fun hc => ?_)
      ·refine Tri.seq ?_
       have hv01 : v = 0 ∨ v = 1 := by
        cases h0 : (v == 0) with
        | true => exact .inl (by simpa using h0)
        | false => rw [h0] at hc; exact .inr (by simpa using hc)
       have hnl := name_len hoki
       obtain ⟨l, hl, _, _, _, _⟩ := name_chars hoki
       have hcalled := F125 (W0 := W0) v k.name l (k.kind == 0) (by omega) hl
       have hwl := want_len v k.name (k.kind == 0)
       have hfr := fresh_ok v U (wantS v k.name (k.kind == 0)).1 (wantS v k.name (k.kind == 0)).2 (by omega)
       have hpk2 : pickAt v kids L ix = numS v (wantS v k.name (k.kind == 0)).1 (wantS v k.name (k.kind == 0)).2 (freshK v U (wantS v k.name (k.kind == 0)).1 (wantS v k.name (k.kind == 0)).2) := by
        rw [hpk, pickG, if_pos hv01]; rfl
       generalize (wantS v k.name (k.kind == 0)).1 = st at *
       generalize (wantS v k.name (k.kind == 0)).2 = ex at *
       generalize hK : freshK v U st ex = K at *
       refine Tri.region ti_ok ?_
       conv => whnf
       refine ⟨rfl, ?_⟩
       conv => whnf
       refine ⟨fun _ => by simp; omega, ?_⟩
       conv => whnf
       refine ⟨encTop k, fun _ => hgk, ?_⟩
       conv => whnf
       refine ⟨[.int .i64 v, .str k.name, .bool (k.kind == 0)], _, fun _ => hcalled, ⟨.refl _, .refl _, .refl _, trivial⟩, ?_⟩
       conv => whnf
       intro b14
       conv => whnf
       refine ⟨rfl, ?_⟩
       conv => whnf
       refine Tri.seq ?_
       refine Tri.region ti_ok ?_
       conv => whnf
       refine ⟨rfl, ?_⟩
       conv => whnf
       refine ⟨[wantD st ex, .int .i64 v, .int .i64 (0 : Nat)], _, fun _ => F126 v st ex 0 (by omega) (by omega) (by omega), ⟨.refl _, .refl _, .refl _, trivial⟩, ?_⟩
       conv => whnf
       refine Tri.seq ?_
       refine Tri.region ti_ok ?_
       conv => whnf
       refine Tri.block ?_
       refine Tri.loopK (α := { j : Nat // j ≤ K }) (fun x => [(0, .int .i64 v), (3, .box 3 bk 0), (6, .sl .none 1 (L.map encI)), (48, .sl .none 1 (L.map encI)), (49, .int .i64 (L.map encI).length), (50, .int .i64 t), (9, .raw nv), (10, .raw (.map (some mb))), (12, .int .i64 (ix : Nat)), (13, .str (numS v st ex x.1)), (14, .box 14 b14 0), (15, .int .i64 ((x.1 + 1 : Nat) : Int))])
        (fun x => [(46, .row nv Rw 1 9), (47, .set mb U), (3, .box bk [.sl .none 12 (kids.map enc)]), (14, .box b14 [.sl .none 1 (ints32 st), .sl .none 1 (ints32 ex)])]) (fun x => K - x.1) ⟨0, by omega⟩ [(46, 46), (47, 47), (3, 3), (14, 14)]
        ⟨⟨.refl _, .refl _, .refl _, .refl _, .refl _, .refl _, .refl _, .refl _, .refl _, .refl _, .refl _, .refl _, trivial⟩, rfl, rfl, rfl, rfl, rfl, rfl, rfl, rfl, rfl, trivial⟩ ?_
       rintro ⟨j, hj⟩
       dsimp only
       refine Tri.seq ?_
       refine Tri.seq ?_
       refine Tri.regionX ti_ok ?_
       conv => whnf
       refine .inr (XOp.setLookup 47 (kt := 9) (et := 4) rfl rfl (fun w => rfl) rfl rfl rfl ?_)
       refine Tri.cond _ rfl (fun hc => ?_) (fun hc => ?_)
       ·refine Tri.skip ?_
        conv => whnf
        refine Tri.seq ?_
        refine Tri.block ?_
        refine Tri.region ti_ok ?_
        have hjU : numS v st ex j ∈ U := of_decide_eq_true hc
        have hjK : j < K := by
         rcases Nat.lt_or_ge j K with h | h
         ·exact h
         ·have : j = K := by omega
          subst this; exact absurd hjU hfr.2.1
        conv => whnf
        refine ⟨rfl, ?_⟩
        conv => whnf
        refine ⟨[wantD st ex, .int .i64 v, .int .i64 ((j + 1 : Nat) : Int)], _, fun _ => F126 v st ex (j + 1) (by omega) (by omega) (by omega), ⟨.refl _, .refl _, .refl _, trivial⟩, ?_⟩
        conv => whnf
        refine Tri.region ti_ok ?_
        conv => whnf
        refine .inl ⟨fun _ => by simp only [InR]; omega, ?_⟩
        conv => whnf
        exact ⟨⟨j + 1, by omega⟩, [(46, 46), (47, 47), (3, 3), (14, 14)], by show K - (j + 1) < K - j; omega, ⟨.refl _, .refl _, .refl _, .refl _, .refl _, .refl _, .refl _, .refl _, .refl _, .refl _, .refl _, .refl _, trivial⟩, rfl, rfl, rfl, rfl, rfl, rfl, rfl, rfl, rfl, trivial⟩
       ·refine Tri.exit ?_
        conv => whnf
        refine Tri.regionX ti_ok ?_
        have hjU : numS v st ex j ∉ U := of_decide_eq_false hc
        have hjK : j = K := by
         rcases Nat.lt_or_ge j K with h | h
         ·exact absurd (hfr.2.2 j h) hjU
         ·omega
        subst hjK
        conv => whnf
        refine .inr (XOp.setUpdate 47 (kt := 9) (et := 4) rfl rfl rfl rfl rfl rfl ?_)
        conv => whnf
        refine .inr (XOp.rowIndex ti_ok 46 rfl rfl rfl rfl rfl rfl rfl (by omega) (by rw [hrl]; omega) ?_)
        conv => whnf
        conv => whnf
        refine .inr (XOp.rowStore ti_ok 46 (i := ix) (by rw [Int.toNat_natCast]; rfl) rfl rfl rfl (by rw [hrl]; omega) rfl ?_)
        conv => whnf
        conv => whnf
        refine Tri.region ti_ok ?_
        conv => whnf
        refine .inl ⟨fun _ => by simp only [InR]; omega, ?_⟩
        conv => whnf
        exact ⟨⟨t + 1, by omega, hnew⟩, [(46, 46), (47, 47), (3, 3)], by show _ - (t + 1) < _ - t; omega, ⟨.refl _, .refl _, .refl _, .refl _, .refl _, .refl _, .refl _, .refl _, trivial⟩, rfl, rfl, congrArg (fun z => some (HObj.row nv z 1 9)) (by rw [← hpk2]; exact hrs), rfl,
         congrArg (fun z => some (HObj.set mb z)) (by dsimp only; rw [hus, hpk2]), rfl, rfl, trivial⟩
      ·have hv01 : ¬ (v = 0 ∨ v = 1) := by
        rintro (rfl | rfl) <;> cases hc
       have hpk2 : pickAt v kids L ix = k.name := by rw [hpk, pickG, if_neg hv01]
       refine Tri.skip ?_
       conv => whnf
       refine Tri.regionX ti_ok ?_
       conv => whnf
       refine .inr (XOp.setUpdate 47 (kt := 9) (et := 4) rfl rfl rfl rfl rfl rfl ?_)
       conv => whnf
       refine .inr (XOp.rowIndex ti_ok 46 rfl rfl rfl rfl rfl rfl rfl (by omega) (by rw [hrl]; omega) ?_)
       conv => whnf
       conv => whnf
       refine .inr (XOp.rowStore ti_ok 46 (i := ix) (by rw [Int.toNat_natCast]; rfl) rfl rfl rfl (by rw [hrl]; omega) rfl ?_)
       conv => whnf
       conv => whnf
       refine Tri.region ti_ok ?_
       conv => whnf
       refine .inl ⟨fun _ => by simp only [InR]; omega, ?_⟩
       conv => whnf
       exact ⟨⟨t + 1, by omega, hnew⟩, [(46, 46), (47, 47), (3, 3)], by show _ - (t + 1) < _ - t; omega, ⟨.refl _, .refl _, .refl _, .refl _, .refl _, .refl _, .refl _, .refl _, trivial⟩, rfl, rfl, congrArg (fun z => some (HObj.row nv z 1 9)) (by rw [← hpk2]; exact hrs), rfl,
        congrArg (fun z => some (HObj.set mb z)) (by dsimp only; rw [hus, hpk2]), rfl, rfl, trivial⟩
    ·refine Tri.exit ?_
     conv => whnf
     have htn : t = L.length := by simp at hc; omega
     have hinc : inc (inOrder kids L) := order_inc hO fun j hj => hnei j hj (by omega)
     have hnd := order_nodup hO hinc
     have hR : namesR v kids = (namesU v kids, 0) := by rw [namesR, if_neg (by rw [hvo]; simp), if_neg (by omega), if_neg (by rw [hallb]; simp), if_neg (by simp [hnd])]
     have hrow2 : rowF kids.length L (pickAt v kids L) t = strs (namesU v kids) := by
      rw [htn]; exact rowF_all hO fun j hj => pickAt_for hO hinc hj
     rw [hrow2, hR]
     refine Tri.forgetK [(9, .raw nv)] [(46, .row nv (strs (namesU v kids)) 1 9)] [(46, 46)] ⟨⟨.refl _, trivial⟩, rfl, rfl, rfl, trivial⟩ ?_
     refine Tri.commitSt 46 9 rfl ?_
     refine Tri.seq ?_
     refine Tri.region ti_ok ?_
     conv => whnf
     refine Tri.ret ?_
     conv => whnf
     exact ⟨.refl _, .refl _, trivial⟩
end Go.Tame.V
/- Contracts: awake. By program (mkn12.py, mk.py). -/
namespace Go.Tame.V
open Go Go.Proofs
variable {W0 : World}
set_option maxRecDepth 10000
set_option linter.unusedVariables false
set_option linter.unusedSimpArgs false

end Go.Tame.V
/- The readings of this seat's arguments, as data by value; what is laid. -/
namespace Go.Tame.V
open Go Go.Proofs Go.RowKit Go.ChangeShapes Go.Deep Go.WideShapes
open YtpkeldhgfdeebaaGreatDoor (Rows.uptoBulk Rows.uptoBulkAll)
set_option maxRecDepth 100000
variable {H : Type} {enc0 : TypeId × Value → H} {W : World}

abbrev bulk (d : DataW H) : Nat := YtpkeldhgfdeebaaGreatDoor.Rows.uptoBulk d
abbrev bulkA (d : List (DataW H)) : Nat := YtpkeldhgfdeebaaGreatDoor.Rows.uptoBulkAll d

theorem sum_good {α : Type} {m : α → Nat} {c : Nat} : ∀ {l : List α} {ds : List (DataW H)}, ds.length = l.length → (∀ (i : Nat) a y, l[i]? = some a → ds[i]? = some y → m a ≤ c * bulk y) → (l.map m).sum ≤ c * bulkA ds
 | [], [], _, _ => by simp
 | a :: l, y :: ds, hl, h => by
  have h1 := h 0 a y rfl rfl
  have h2 := sum_good (l := l) (ds := ds) (by simpa using hl) fun i a y h3 h4 => h (i + 1) a y (by simpa using h3) (by simpa using h4)
  have h3 : c * bulkA (y :: ds) = c * bulk y + c * bulkA ds := by simp only [bulkA, bulk, YtpkeldhgfdeebaaGreatDoor.Rows.uptoBulkAll, Nat.mul_add]
  rw [h3, List.map_cons, List.sum_cons]
  omega
theorem sum_goodS {α : Type} {m : α → Nat} {c : Nat} {l : List α} {d : DataW H} (h : goodS (fun a y => m a ≤ c * bulk y) l d) : (l.map m).sum ≤ c * bulk d := by
 rcases h with ⟨rfl, rfl⟩ | ⟨ds, sp, rfl, hl, hg⟩
 ·simp
 ·have := sum_good hl hg
  have h3 : c * bulk (.slice ds sp) = c * bulkA ds + c * bulkA sp + c * 1 := by simp only [bulkA, bulk, YtpkeldhgfdeebaaGreatDoor.Rows.uptoBulk, Nat.mul_add]
  rw [h3]
  omega
theorem szS_sum : ∀ l : List SV, szS l = (l.map fun s => 2 + s.name.length + s.target.length).sum
 | [] => rfl
 | s :: r => by simp only [szS, List.map_cons, List.sum_cons, szS_sum r]
theorem szL_sum : ∀ l : List NV, szL l = (l.map fun n => 2 * n.name.length + 2 + sz n).sum
 | [] => by simp [szL]
 | s :: r => by simp only [szL, List.map_cons, List.sum_cons, szL_sum r]

theorem rd_stream (n : Nat) : Rd enc0 Tryz.prog W n 87 encS (fun s d => 2 + s.name.length + s.target.length ≤ 1 * bulk d) := by
 intro cs x h
 obtain ⟨xs, m, rfl, hx, hcl, hxl, hf⟩ := trod_fields Tryz.underlying87 (by kernel_rfl) (by kernel_rfl) h
 match cs, hcl, xs, hxl with
 | [c0, c1], _, [y0, y1], _ =>
  obtain ⟨s0, r0, e0, _⟩ := Rd.str (enc := enc0) (W := W) (n := m) Tryz.underlying9 [c0] y0 (hf 0 _ c0 y0 rfl rfl rfl)
  obtain ⟨s1, r1, e1, _⟩ := Rd.str (enc := enc0) (W := W) (n := m) Tryz.underlying9 [c1] y1 (hf 1 _ c1 y1 rfl rfl rfl)
  refine ⟨⟨s0, s1⟩, .cons r0.head (.cons r1.head (.nil _ _)), ?_⟩
  rw [hx]
  simp only [List.map_cons, List.map_nil, e0, e1, bulk, YtpkeldhgfdeebaaGreatDoor.Rows.uptoBulk, YtpkeldhgfdeebaaGreatDoor.Rows.uptoBulkAll]
  omega

theorem rd_node : ∀ (N n : Nat), n < N → Rd enc0 Tryz.prog W n 25 enc (fun s d => 2 * s.name.length + 2 + sz s ≤ 2 * bulk d)
 | 0, n, hn => absurd hn (Nat.not_lt_zero _)
 | N + 1, n, hn => by
  intro cs x h
  obtain ⟨xs, m, rfl, hx, hcl, hxl, hf⟩ := trod_fields Tryz.underlying25 (by kernel_rfl) (by kernel_rfl) h
  match cs, hcl, xs, hxl with
  | [c0, c1, c2, c3, c4, c5, c6, c7, c8, c9, c10, c11], _, [y0, y1, y2, y3, y4, y5, y6, y7, y8, y9, y10, y11], _ =>
   obtain ⟨s0, r0, e0, _⟩ := Rd.str (enc := enc0) (W := W) (n := m) Tryz.underlying9 [c0] y0 (hf 0 _ c0 y0 rfl rfl rfl)
   obtain ⟨s1, r1, e1, _⟩ := Rd.int (enc := enc0) (W := W) (n := m) Tryz.underlying3 [c1] y1 (hf 1 _ c1 y1 rfl rfl rfl)
   obtain ⟨s2, r2, e2, _⟩ := Rd.str (enc := enc0) (W := W) (n := m) Tryz.underlying9 [c2] y2 (hf 2 _ c2 y2 rfl rfl rfl)
   obtain ⟨s3, r3, e3, _⟩ := Rd.str (enc := enc0) (W := W) (n := m) Tryz.underlying9 [c3] y3 (hf 3 _ c3 y3 rfl rfl rfl)
   obtain ⟨s4, r4, e4, _⟩ := Rd.int (enc := enc0) (W := W) (n := m) Tryz.underlying3 [c4] y4 (hf 4 _ c4 y4 rfl rfl rfl)
   obtain ⟨s5, r5, e5, _⟩ := Rd.int (enc := enc0) (W := W) (n := m) Tryz.underlying3 [c5] y5 (hf 5 _ c5 y5 rfl rfl rfl)
   obtain ⟨s6, r6, e6, _⟩ := Rd.int (enc := enc0) (W := W) (n := m) Tryz.underlying3 [c6] y6 (hf 6 _ c6 y6 rfl rfl rfl)
   obtain ⟨s7, r7, e7, _⟩ := Rd.int (enc := enc0) (W := W) (n := m) Tryz.underlying3 [c7] y7 (hf 7 _ c7 y7 rfl rfl rfl)
   obtain ⟨s8, r8, e8, _⟩ := Rd.int (enc := enc0) (W := W) (n := m) Tryz.underlying3 [c8] y8 (hf 8 _ c8 y8 rfl rfl rfl)
   obtain ⟨s9, r9, e9, _⟩ := Rd.int (enc := enc0) (W := W) (n := m) Tryz.underlying3 [c9] y9 (hf 9 _ c9 y9 rfl rfl rfl)
   obtain ⟨ks, r10, e10⟩ := Rd.slice (enc := enc0) (W := W) (fuel := m) Tryz.underlying22 (k := 12) (f := enc) (by kernel_rfl) (by omega) (fun a => by rw [enc_eq]; exact ⟨rfl, rfl⟩) (fun m' hm' => rd_node N m' (by omega)) [c10] y10 (hf 10 _ c10 y10 rfl rfl rfl)
   obtain ⟨ss, r11, e11⟩ := Rd.slice (enc := enc0) (W := W) (fuel := m) Tryz.underlying23 (k := 2) (f := encS) (by kernel_rfl) (by omega) (fun a => ⟨rfl, rfl⟩) (fun m' _ => rd_stream m') [c11] y11 (hf 11 _ c11 y11 rfl rfl rfl)
   refine ⟨⟨s0, s1, s2, s3, s4, s5, s6, s7, s8, s9, ks, ss⟩, ?_, ?_⟩
   ·rw [enc_eq]
    exact .cons r0.head (.cons r1.head (.cons r2.head (.cons r3.head (.cons r4.head (.cons r5.head (.cons r6.head (.cons r7.head (.cons r8.head (.cons r9.head (.cons r10.head (.cons r11.head (.nil _ _))))))))))))
   ·have h10 := sum_goodS e10
    have h11 := sum_goodS e11
    rw [← szL_sum] at h10
    rw [← szS_sum] at h11
    rw [hx]
    dsimp only
    rw [sz_eq]
    simp only [List.map_cons, List.map_nil, e0, e1, e2, e3, e4, e5, e6, e7, e8, e9, bulk, YtpkeldhgfdeebaaGreatDoor.Rows.uptoBulk, YtpkeldhgfdeebaaGreatDoor.Rows.uptoBulkAll] at h10 h11 ⊢
    omega

/-- A node that came in. -/
theorem open_node {v : Value} {d : DataW H} {p : List MemPlace} {base : Nat} (hv : Value.okWide Tryz.prog W .any base 25 v) (h : DataW.Trod enc0 Tryz.prog W 0 (fun _ => true) true 25 v d p) :
  ∃ n : NV, Rep W (allC W) (encTop n) v ∧ 2 * n.name.length + 2 + sz n ≤ 2 * bulk d := by
 obtain ⟨fuel, hf⟩ := h
 obtain ⟨cs, rfl, _⟩ := okWide_struct Tryz.underlying25 hv
 obtain ⟨n, hr, hg⟩ := rd_node (enc0 := enc0) (W := W) _ fuel (Nat.lt_succ_self _) _ _ hf
 rw [enc_eq] at hr
 obtain ⟨l⟩ := cs
 exact ⟨n, .agg _ _ hr.1 hr.2, hg⟩

theorem callsTrue {f : Nat} {ds : List D} {args : Array Value} (h : DFun Tryz.prog W f ds (.bool true)) (hr : RepL W (allC W) ds args.toList) :
  Calls Tryz.prog f args W fun e w' => e = .returned (.bool true) ∧ Below W.heap.size W w' := by
 obtain ⟨l⟩ := args
 refine (h.2 W (allC W) l (Below.refl _ _) hr).mono ?_
 rintro e w' ⟨v, C', rfl, hv, hs⟩
 rw [hv.bool_inv]
 exact ⟨rfl, Base.step (Below.refl _ _) hs fun _ h => h.elim⟩

theorem laidOut : laidOutB Tryz.prog = true := by kernel_rfl
theorem stays_all {W' : World} (hb : Below W.heap.size W W') {sp : Nat → Bool} : ∀ {ts : List TypeId} {vs : List Value} {ds : List (DataW H)} {ps : List MemPlace},
  (∀ t ∈ ts, Tryz.prog.readableRec t = true ∧ t < Tryz.prog.types.size) → DataW.TrodAll enc0 Tryz.prog W 0 (fun _ => true) true ts vs ds ps → (∀ x ∈ ps, x.block < W.heap.size) → (∀ x ∈ ps, sp x.block = true) →
  DataW.TrodAll enc0 Tryz.prog W' 0 sp true ts vs ds ps
 | [], [], [], _, _, h, _, _ => h
 | t :: ts, v :: vs, d :: ds, _, ht, ⟨p, q, h1, h2, e⟩, hlt, hsp => by
  subst e
  exact ⟨p, q, stays laidOut (ht t List.mem_cons_self).1 (ht t List.mem_cons_self).2 h1 hb (fun x hx => hlt x (by simp [hx])) sp (fun x hx => hsp x (by simp [hx])),
   stays_all hb (fun t h => ht t (List.mem_cons_of_mem _ h)) h2 (fun x hx => hlt x (by simp [hx])) (fun x hx => hsp x (by simp [hx])), rfl⟩

def laidList : List (String × DataW Unit) := YtpkeldhgfdeebaaGreatDoor.Rows.namingViewsRow.laid
theorem libOk (hL : laidMetH Tryz.prog laidList W) (hsh : W.ShapedOpen Tryz.prog) : LibOk W := by
 have hL' : laidMet Tryz.prog laidList W := hL
 refine ⟨utf8Tabs_of_reads (ρ := Tryz.lays260_ren) Tryz.lays260 ⟨by kernel_rfl, by kernel_rfl, by kernel_rfl, by kernel_rfl, by kernel_rfl, by kernel_rfl, by kernel_rfl⟩
  (Lib.laidMet.reads hL' (.tail _ (.tail _ (.tail _ (.tail _ (.head _)))))) (Lib.laidMet.reads hL' (.tail _ (.tail _ (.tail _ (.head _))))), ?_, ?_⟩
 ·obtain ⟨h1, _⟩ := hsh
  obtain ⟨cs, hcs, hsz, hrow⟩ := h1 0 #[.int .i64 0] 3 (by decide +kernel) (by kernel_rfl)
  obtain ⟨ts, hts, _, hcell⟩ := hrow (by kernel_rfl)
  have hts' : ts = [3] := by
   have : Tryz.prog.cellTypes Tryz.prog.depth 3 = some [3] := by kernel_rfl
   exact Option.some.inj (hts.symm.trans this)
  subst hts'
  have h0 : cs[0]? = some (cs[0]'(by rw [hsz]; decide)) := Array.getElem?_eq_getElem _
  obtain ⟨u, hu, hok⟩ := hcell 0 _ h0
  have hu' : u = 3 := by simpa using hu.symm
  subst hu'
  have hc : W.cell? ⟨0, 0, none⟩ = some (cs[0]'(by rw [hsz]; decide)) := by
   simp only [World.cell?, hcs]
   simpa using h0
  generalize cs[0]'(by rw [hsz]; decide) = v at hok hc
  unfold Cell.ok at hok
  rw [Tryz.underlying3] at hok
  cases v with
  | int k n => obtain ⟨rfl, _⟩ := hok; exact ⟨n, hc⟩
  | _ => exact hok.elim
 ·exact Lib.tabIs_of_head (rest := _) (g := 3) (t := 237) (e := 165) (n := 20) (by kernel_rfl) (by kernel_rfl) (by kernel_rfl) (by kernel_rfl) (by kernel_rfl) (by kernel_rfl) hL'.tail.tail
end Go.Tame.V
/- The statement on Format, Count and Below: from the contract to the card. -/
namespace Go.Tame.V
open Go Go.Proofs Go.RowKit Go.ChangeShapes Go.Deep Go.WideShapes Go.ChangeAt
open YtpkeldhgfdeebaaGreatDoor
set_option maxRecDepth 100000

theorem own : ownKnob Tryz.prog.godebug = none := by kernel_rfl

/-- A world that holds what is laid. -/
noncomputable def laidWorld (os : Os) : World :=
 let w0 := World.holding Tryz.prog os ⟨#[], #[], []⟩
 let put (h : Array Obj) (g : Nat) (cs : Array Value) : Array Obj := h.modify g fun
  | .cells _ t frozen => .cells cs t frozen
  | o => o
 let h1 := put w0.heap 1 (Lib.firstTab.map fun z => Value.int .u8 z).toArray
 let h2 := put h1 2 ((List.range 16).flatMap fun i => [Value.int .u8 (Lib.accLo i), Value.int .u8 (Lib.accHi i)]).toArray
 let h3 := put h2 3 (Lib.pow10Tab.map fun z => Value.int .u64 z).toArray
 let h4 := put h3 4 ([0, 1, 28, 2, 29, 14, 24, 3, 30, 22, 20, 15, 25, 17, 4, 8, 31, 27, 13, 23, 21, 19, 16, 7, 26, 12, 18, 6, 11, 5, 10, 9].map fun z => Value.int .u8 z).toArray
 let h5 := put h4 5 ([0, 1, 56, 2, 57, 49, 28, 3, 61, 58, 42, 50, 38, 29, 17, 4, 62, 47, 59, 36, 45, 43, 51, 22, 53, 39, 33, 30, 24, 18, 12, 5, 63, 55, 48, 27, 60, 41, 37, 16, 46, 35, 44, 21, 52, 32, 23, 11, 54, 26, 40, 15, 34, 20, 31, 10, 25, 14, 19, 9, 13, 8, 7, 6].map fun z => Value.int .u8 z).toArray
 { w0 with heap := h5 }
theorem laid_met (os : Os) (args : Array Value) : laidMet Tryz.prog laidList ((laidWorld os).forCall (fun _ _ => 0) ⟨#[], args, []⟩).memory :=
 laidMet_of_run' 8 (by kernel_rfl) (by kernel_rfl)
end Go.Tame.V
