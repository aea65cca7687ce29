/- A program logic of my own over the model, and contracts of this program's functions by it: part 8. No conditions of its own: each theorem states its own. -/
import Derived.Test.YtpkeldhgfdeebaaGreatDoorL7
set_option linter.unnecessarySimpa false
set_option linter.unusedSimpArgs false
set_option linter.unusedVariables false
/- Contracts: the reference's Names of any kids; its Identifiers. By program (mkru.py, mk.py). -/
namespace Go.Tame.V
open Go Go.Proofs
variable {W0 : World}
set_option maxRecDepth 10000
set_option linter.unusedVariables false
set_option linter.unusedSimpArgs false

theorem inc_of_nodup {kids : List NV} {L : List Nat} (hO : Order kids L) (hn : (kids.map NV.name).Nodup) : inc (inOrder kids L) := by
 refine order_inc hO fun t h1 e => ?_
 have h2 := hO.lt (t := t) (by omega)
 have h3 := hO.lt h1
 have h4 : L[t] ≠ L[t + 1] := fun e2 => by
  have := hO.nodup
  rw [List.nodup_iff_pairwise_ne, List.pairwise_iff_getElem] at this
  exact this t (t + 1) (by omega) h1 (by omega) e2
 rw [List.nodup_iff_pairwise_ne, List.pairwise_map, List.pairwise_iff_getElem] at hn
 rw [List.getD_eq_getElem?_getD, List.getD_eq_getElem?_getD, List.getElem?_eq_getElem h2, List.getElem?_eq_getElem h3] at e
 rcases Nat.lt_or_ge L[t] L[t + 1] with h | h
 ·exact hn _ _ h2 h3 h e
 ·exact hn _ _ h3 h2 (by omega) e.symm
set_option maxHeartbeats 4000000 in
theorem G97g (v : Int) (kids : List NV) (hlen : kids.length < 1000000) (hnl : ∀ k ∈ kids, k.name.length < 1000000000) : DFun Tryz.prog W0 97 [.int .i64 v, .sl .none 12 (kids.map enc)] (.tup [.sl .none 1 (strs (namesR v kids).1), .int .i64 (namesR v kids).2]) := by
 refine DFun.intro ti_ok Tryz.func97 rfl (by decide +kernel) Tryz.ntmps97 rfl fun Γ => ?_
 refine Tri.seq ?_
 refine Tri.region ti_ok ?_
 conv => whnf
 refine Tri.seq ?_
 refine Tri.seq ?_
 refine Tri.region ti_ok ?_
 conv => whnf
 refine ⟨[.int .i64 v], _, fun _ => F53 v, ⟨.refl _, trivial⟩, ?_⟩
 conv => whnf
 refine Tri.cond _ rfl (fun hc => ?_) (fun hc => ?_)
 ·refine Tri.seq ?_
  refine Tri.region ti_ok ?_
  conv => whnf
  refine Tri.ret ?_
  conv => whnf
  have h1 : viewOk v = false := by simpa using hc
  have hR : namesR v kids = ([], 2) := by rw [namesR, if_pos h1]
  rw [hR]
  exact ⟨DLe.nil, .refl _, trivial⟩
 ·refine Tri.skip ?_
  conv => whnf
  have hvo : viewOk v = true := by simpa using hc
  refine Tri.seq ?_
  refine Tri.seq ?_
  refine Tri.region ti_ok ?_
  conv => whnf
  refine Tri.cond _ rfl (fun hc => ?_) (fun hc => ?_)
  ·refine Tri.seq ?_
   refine Tri.region ti_ok ?_
   conv => whnf
   refine Tri.ret ?_
   conv => whnf
   have h1 : 64 < kids.length := by simp at hc; omega
   have hR : namesR v kids = ([], 7) := by rw [namesR, if_neg (by rw [hvo]; simp), if_pos h1]
   rw [hR]
   exact ⟨DLe.nil, .refl _, trivial⟩
  ·refine Tri.skip ?_
   conv => whnf
   have h64 : kids.length ≤ 64 := by simp at hc; omega
   refine Tri.seq ?_
   refine Tri.seq ?_
   refine Tri.region ti_ok ?_
   conv => whnf
   refine Tri.block ?_
   refine Tri.loop (α := { i : Nat // i ≤ kids.length ∧ ∀ j, (hj : j < kids.length) → j < i → nameOk kids[j].name = true }) (fun x => [(0, .int .i64 v), (1, .sl .none 12 (kids.map enc)), (6, .int .i64 x.1)]) (fun _ => []) (fun x => kids.length - x.1) ⟨0, by omega, fun j _ h => absurd h (Nat.not_lt_zero _)⟩ ⟨.refl _, .refl _, .refl _, trivial⟩ trivial ?_
   rintro ⟨i, hi, hoki⟩
   dsimp only
   refine Tri.seq ?_
   refine Tri.seq ?_
   refine Tri.region ti_ok ?_
   conv => whnf
   refine Tri.cond _ rfl (fun hc => ?_) (fun hc => ?_)
   ·refine Tri.skip ?_
    conv => whnf
    refine Tri.seq ?_
    refine Tri.block ?_
    refine Tri.seq ?_
    refine Tri.region ti_ok ?_
    have hia : i < kids.length := by simpa using hc
    conv => whnf
    refine ⟨fun _ => by simp; omega, ?_⟩
    conv => whnf
    refine ⟨encTop kids[i], fun _ => get_kids hia, ?_⟩
    conv => whnf
    refine ⟨[.str kids[i].name], _, fun _ => F94 _ (hnl _ (List.getElem_mem hia)), ⟨.refl _, trivial⟩, ?_⟩
    conv => whnf
    refine Tri.cond _ rfl (fun hc => ?_) (fun hc => ?_)
    ·refine Tri.seq ?_
     refine Tri.region ti_ok ?_
     conv => whnf
     refine Tri.ret ?_
     conv => whnf
     have h1 : allOk kids = false := by
      rw [allOk, List.all_eq_false]
      exact ⟨kids[i], List.getElem_mem hia, by simpa using hc⟩
     have hR : namesR v kids = ([], 4) := by rw [namesR, if_neg (by rw [hvo]; simp), if_neg (by omega), if_pos h1]
     rw [hR]
     exact ⟨DLe.nil, .refl _, trivial⟩
    ·refine Tri.skip ?_
     conv => whnf
     refine Tri.region ti_ok ?_
     conv => whnf
     refine .inl ⟨fun _ => by simp only [InR]; omega, ?_⟩
     conv => whnf
     have hoi : nameOk kids[i].name = true := by simpa using hc
     exact ⟨⟨i + 1, by omega, fun j hj hji => if e : j = i then by subst e; exact hoi else hoki j hj (by omega)⟩, by show kids.length - (i + 1) < kids.length - i; omega, ⟨.refl _, .refl _, .refl _, trivial⟩, trivial⟩
   ·refine Tri.exit ?_
    conv => whnf
    have hin : i = kids.length := by simp at hc; omega
    have hok : ∀ k ∈ kids, nameOk k.name = true := fun k hk => by
     obtain ⟨j, hj, rfl⟩ := List.mem_iff_getElem.1 hk
     exact hoki j hj (by omega)
    have hallb : allOk kids = true := by rw [allOk, List.all_eq_true]; exact hok
    clear hoki hin hi
    refine Tri.seq ?_
    refine Tri.seq ?_
    refine Tri.region ti_ok ?_
    conv => whnf
    refine Tri.block ?_
    refine Tri.loop (α := { i : Nat // i ≤ kids.length ∧ ∀ a b, (ha : a < kids.length) → (hb : b < a) → a < i → kids[b].name ≠ kids[a].name }) (fun x => [(0, .int .i64 v), (1, .sl .none 12 (kids.map enc)), (7, .int .i64 x.1)]) (fun _ => []) (fun x => kids.length - x.1) ⟨0, by omega, fun a b _ _ h => absurd h (Nat.not_lt_zero _)⟩ ⟨.refl _, .refl _, .refl _, trivial⟩ trivial ?_
    rintro ⟨i, hi, hdi⟩
    dsimp only
    refine Tri.seq ?_
    refine Tri.seq ?_
    refine Tri.region ti_ok ?_
    conv => whnf
    refine Tri.cond _ rfl (fun hc => ?_) (fun hc => ?_)
    ·refine Tri.skip ?_
     conv => whnf
     refine Tri.seq ?_
     refine Tri.block ?_
     refine Tri.seq ?_
     refine Tri.region ti_ok ?_
     have hia : i < kids.length := by simpa using hc
     conv => whnf
     refine Tri.block ?_
     refine Tri.loop (α := { j : Nat // j ≤ i ∧ ∀ b, (hb : b < i) → b < j → kids[b].name ≠ kids[i].name }) (fun x => [(0, .int .i64 v), (1, .sl .none 12 (kids.map enc)), (7, .int .i64 i), (8, .int .i64 x.1)]) (fun _ => []) (fun x => i - x.1) ⟨0, by omega, fun b _ h => absurd h (Nat.not_lt_zero _)⟩ ⟨.refl _, .refl _, .refl _, .refl _, trivial⟩ trivial ?_
     rintro ⟨j, hj, hdj⟩
     dsimp only
     refine Tri.seq ?_
     refine Tri.seq ?_
     refine Tri.region ti_ok ?_
     conv => whnf
     refine Tri.cond _ rfl (fun hc => ?_) (fun hc => ?_)
     ·refine Tri.skip ?_
      conv => whnf
      refine Tri.seq ?_
      refine Tri.block ?_
      refine Tri.seq ?_
      refine Tri.draw ti_ok mixed (by kernel_rfl) ?_
      have hja : j < i := by simpa using hc
      conv => whnf
      refine ⟨fun _ => by simp; omega, ?_⟩
      conv => whnf
      refine ⟨encTop kids[i], fun _ => get_kids hia, ?_⟩
      conv => whnf
      refine ⟨fun _ => by simp; omega, ?_⟩
      conv => whnf
      refine ⟨encTop kids[j], fun _ => get_kids (by omega), ?_⟩
      conv => whnf
      refine Tri.cond _ rfl (fun hc => ?_) (fun hc => ?_)
      ·refine Tri.seq ?_
       refine Tri.region ti_ok ?_
       conv => whnf
       refine Tri.ret ?_
       conv => whnf
       have he : kids[i].name = kids[j].name := by simpa using hc
       have hnd : ¬ (kids.map NV.name).Nodup := fun hn => by
        rw [List.nodup_iff_pairwise_ne, List.pairwise_map, List.pairwise_iff_getElem] at hn
        exact hn j i (by omega) hia hja he.symm
       have hR : namesR v kids = ([], 5) := by rw [namesR, if_neg (by rw [hvo]; simp), if_neg (by omega), if_neg (by rw [hallb]; simp), if_pos hnd]
       rw [hR]
       exact ⟨DLe.nil, .refl _, trivial⟩
      ·refine Tri.skip ?_
       conv => whnf
       refine Tri.region ti_ok ?_
       conv => whnf
       refine .inl ⟨fun _ => by simp only [InR]; omega, ?_⟩
       conv => whnf
       have hne : kids[j].name ≠ kids[i].name := fun e => by rw [e] at hc; simp at hc
       exact ⟨⟨j + 1, by omega, fun b hb hbj => if e : b = j then by subst e; exact hne else hdj b hb (by omega)⟩, by show i - (j + 1) < i - j; omega, ⟨.refl _, .refl _, .refl _, .refl _, trivial⟩, trivial⟩
     ·refine Tri.exit ?_
      conv => whnf
      refine Tri.region ti_ok ?_
      conv => whnf
      refine .inl ⟨fun _ => by simp only [InR]; omega, ?_⟩
      conv => whnf
      have hjn : j = i := by simp at hc; omega
      exact ⟨⟨i + 1, by omega, fun a b ha hb hai => if e : a = i then by subst e; exact hdj b hb (by omega) else hdi a b ha hb (by omega)⟩, by show kids.length - (i + 1) < kids.length - i; omega, ⟨.refl _, .refl _, .refl _, trivial⟩, trivial⟩
    ·refine Tri.exit ?_
     conv => whnf
     have hin : i = kids.length := by simp at hc; omega
     have hnd : (kids.map NV.name).Nodup := by
      rw [List.nodup_iff_pairwise_ne, List.pairwise_map, List.pairwise_iff_getElem]
      intro b a hb ha hba
      exact hdi a b ha hba (by omega)
     clear hdi hin hi
     have hO := ordL_order kids
     have hinc := inc_of_nodup hO hnd
     have hR : namesR v kids = (namesU v kids, 0) := by rw [namesR, if_neg (by rw [hvo]; simp), if_neg (by omega), if_neg (by rw [hallb]; simp), if_neg (by simp [hnd])]
     have hG := G136 (W0 := W0) kids h64
     generalize ordL kids kids.length = L at *
     have hLl := hO.len
     rw [hR]
     refine Tri.seq ?_
     refine Tri.regionX ti_ok ?_
     conv => whnf
     refine .inr (XOp.makeRow ti_ok (n := kids.length) (k1 := .i64) (k2 := .i64) (z := .str []) rfl rfl rfl rfl rfl ?_ ?_ (by show 16 * _ ≤ _; omega) (by omega) fun nv => ?_)
     ·show D.int _ _ = _; simp
     ·show D.int _ _ = _; simp
     conv => whnf
     refine Tri.seq ?_
     refine Tri.region ti_ok ?_
     conv => whnf
     refine ⟨trivial, ?_⟩
     conv => whnf
     refine Tri.seq ?_
     refine Tri.region ti_ok ?_
     conv => whnf
     refine ⟨[.sl .none 12 (kids.map enc)], _, fun _ => hG, ⟨.refl _, trivial⟩, ?_⟩
     conv => whnf
     refine Tri.seq ?_
     refine Tri.seq ?_
     refine Tri.region ti_ok ?_
     conv => whnf
     refine Tri.block ?_
     refine Tri.own 10 1000 1 9 rfl (fun w => ?_)
     refine Tri.loopK (α := { t : Nat // t ≤ L.length } × Value) (fun x => [(0, .int .i64 v), (1, .sl .none 12 (kids.map enc)), (9, .raw nv), (10, .sl (.own 1000 x.2) 1 (strs (usedG v ((inOrder kids L).take x.1)).reverse)), (11, .sl .none 1 (L.map encI)), (12, .int .i64 x.1.1)])
      (fun x => [(59, .row nv (rowF kids.length L (pickAt v kids L) x.1) 1 9), (1000, .own x.2 (strs (usedG v ((inOrder kids L).take x.1)).reverse).length 1 9)]) (fun x => L.length - x.1) (⟨0, by omega⟩, w) [(59, 59), (1000, 1000)]
      ⟨⟨.refl _, .refl _, .refl _, .refl _, .refl _, .refl _, trivial⟩, rfl, rfl, congrArg (fun z => some (HObj.row nv z 1 9)) rowF_zero.symm, rfl, rfl, trivial⟩ ?_
     rintro ⟨⟨t, ht⟩, w⟩
     dsimp only
     refine Tri.seq ?_
     refine Tri.seq ?_
     refine Tri.region ti_ok ?_
     conv => whnf
     refine Tri.cond _ rfl (fun hc => ?_) (fun hc => ?_)
     ·refine Tri.skip ?_
      conv => whnf
      refine Tri.seq ?_
      refine Tri.block ?_
      refine Tri.seq ?_
      refine Tri.region ti_ok ?_
      have hta : t < L.length := by simpa using hc
      have hkt : L[t] < kids.length := hO.lt hta
      have hLd : (L.map encI)[t]? = some (.int .i64 (L[t] : Nat)) := by simp [encI, hta]
      have hkd : (kids.map enc)[L[t]]? = some (encTop kids[L[t]]) := get_kids hkt
      have hiol : (inOrder kids L).length = L.length := by simp [inOrder]
      have hpa := pickAt_get hO (v := v) hta
      have hrs := rowF_set (L := L) (g := pickAt v kids L) hta hkt
      have hrl : (rowF kids.length L (pickAt v kids L) t).length = kids.length := rowF_len
      have hio : (inOrder kids L)[t]'(by omega) = kids[L[t]] := by simp [inOrder, List.getD_eq_getElem?_getD, hkt]
      have hus := usedG_take (v := v) (ks := inOrder kids L) (t := t) (by omega)
      rw [hio] at hus
      have hUl : (usedG v ((inOrder kids L).take t)).length = t := by rw [usedG_len, List.length_take]; omega
      obtain ⟨l, hl, hch, _, _, hl64⟩ := name_chars (hok _ (List.getElem_mem hkt))
      have hnl2 := name_len (hok _ (List.getElem_mem hkt))
      generalize kids[L[t]] = k at *
      generalize L[t] = ix at *
      have hcalled := fun (hv : v = 0 ∨ v = 1) (q : Nat) (hk : q < 100) => F96 (W0 := W0) v hv k.name l (k.kind == 0) q hk (by omega) hl hch hl64
      have hfr := fresh_ok v (usedG v ((inOrder kids L).take t)) (wantS v k.name (k.kind == 0)).1 (wantS v k.name (k.kind == 0)).2 (by omega)
      have hpk : v = 0 ∨ v = 1 → pickG v (usedG v ((inOrder kids L).take t)) k = numS v (wantS v k.name (k.kind == 0)).1 (wantS v k.name (k.kind == 0)).2 (freshK v (usedG v ((inOrder kids L).take t)) (wantS v k.name (k.kind == 0)).1 (wantS v k.name (k.kind == 0)).2) := fun h => by rw [pickG, if_pos h]; rfl
      have hpn : ¬ (v = 0 ∨ v = 1) → pickG v (usedG v ((inOrder kids L).take t)) k = k.name := fun h => by rw [pickG, if_neg h]
      generalize (wantS v k.name (k.kind == 0)).1 = st at *
      generalize (wantS v k.name (k.kind == 0)).2 = ex at *
      generalize usedG v ((inOrder kids L).take t) = U at *
      generalize hK : freshK v U st ex = K at *
      have hsU : (strs U.reverse).length = t := by simp [strs, hUl]
      conv => whnf
      refine ⟨fun _ => by simp; omega, ?_⟩
      conv => whnf
      refine ⟨.int .i64 (ix : Nat), fun _ => hLd, ?_⟩
      conv => whnf
      refine ⟨fun _ => by simp; omega, ?_⟩
      conv => whnf
      refine ⟨encTop k, fun _ => hkd, ?_⟩
      conv => whnf
      intro b13
      conv => whnf
      refine ⟨rfl, ?_⟩
      conv => whnf
      refine Tri.seq ?_
      refine Tri.region ti_ok ?_
      conv => whnf
      refine ⟨rfl, ?_⟩
      conv => whnf
      refine Tri.joinK (α := Unit) (fun x => [(0, .int .i64 v), (1, .sl .none 12 (kids.map enc)), (9, .raw nv), (10, .sl (.own 1000 w) 1 (strs U.reverse)), (11, .sl .none 1 (L.map encI)), (12, .int .i64 t), (14, .str (pickG v U k))])
       (fun x => [(59, .row nv (rowF kids.length L (pickAt v kids L) t) 1 9), (1000, .own w (strs U.reverse).length 1 9)]) ?_ ?_
      ·refine Tri.seq ?_
       refine Tri.region ti_ok ?_
       conv => whnf
       refine ⟨fun h => h, ?_⟩
       conv => whnf
       refine ⟨fun h0 h => by first | exact h | (rw [h]; rfl) | (rw [h0, h]; rfl), ?_⟩
       conv => whnf
       refine Tri.cond _ rfl (fun hc => ?_) (fun hc => ?_)
       ·refine Tri.seq ?_
        refine Tri.region ti_ok ?_
        have hv01 : v = 0 ∨ v = 1 := by rw [bif_or] at hc; simpa using hc
        conv => whnf
        refine Tri.seq ?_
        refine Tri.region ti_ok ?_
        conv => whnf
        refine ⟨rfl, ?_⟩
        conv => whnf
        refine ⟨rfl, ?_⟩
        conv => whnf
        refine ⟨[.int .i64 v, .str k.name, .bool (k.kind == 0), .int .i64 (0 : Nat)], _, fun _ => hcalled hv01 0 (by omega), ⟨.refl _, .refl _, .refl _, .refl _, trivial⟩, ?_⟩
        conv => whnf
        refine Tri.block ?_
        refine Tri.loopK (α := { j : Nat // j ≤ K }) (fun x => [(0, .int .i64 v), (1, .sl .none 12 (kids.map enc)), (9, .raw nv), (10, .sl (.own 1000 w) 1 (strs U.reverse)), (11, .sl .none 1 (L.map encI)), (12, .int .i64 t), (13, .box 13 b13 0), (14, .str (numS v st ex x.1)), (15, .int .i64 (x.1 : Nat))])
         (fun x => [(59, .row nv (rowF kids.length L (pickAt v kids L) t) 1 9), (1000, .own w (strs U.reverse).length 1 9), (13, .box b13 (cellsN k))]) (fun x => K - x.1) ⟨0, by omega⟩ [(59, 59), (1000, 1000), (13, 13)]
         ⟨⟨.refl _, .refl _, .refl _, .refl _, .refl _, .refl _, .refl _, .refl _, .refl _, trivial⟩, rfl, rfl, rfl, rfl, rfl, rfl, rfl, trivial⟩ ?_
        rintro ⟨j, hj⟩
        dsimp only
        refine Tri.seq ?_
        refine Tri.seq ?_
        refine Tri.region ti_ok ?_
        conv => whnf
        refine ⟨[.sl .none 1 (strs U.reverse), .str (numS v st ex j)], _, fun _ => F97 _ _ (by simp [hUl]; omega), ⟨DLe.unown, .refl _, trivial⟩, ?_⟩
        conv => whnf
        refine Tri.cond _ rfl (fun hc => ?_) (fun hc => ?_)
        ·refine Tri.skip ?_
         conv => whnf
         refine Tri.block ?_
         refine Tri.seq ?_
         refine Tri.region ti_ok ?_
         have hjU : numS v st ex j ∈ U := by simpa using hc
         have hjK : j < K := by
          rcases Nat.lt_or_ge j K with h | h
          ·exact h
          ·have : j = K := by omega
           subst this; exact absurd hjU hfr.2.1
         conv => whnf
         refine .inl ⟨fun _ => by simp only [InR]; omega, ?_⟩
         conv => whnf
         refine Tri.region ti_ok ?_
         conv => whnf
         refine ⟨rfl, ?_⟩
         conv => whnf
         refine ⟨rfl, ?_⟩
         conv => whnf
         refine ⟨[.int .i64 v, .str k.name, .bool (k.kind == 0), .int .i64 ((j + 1 : Nat) : Int)], _, fun _ => hcalled hv01 (j + 1) (by omega), ⟨.refl _, .refl _, .refl _, .refl _, trivial⟩, ?_⟩
         conv => whnf
         exact ⟨⟨j + 1, by omega⟩, [(59, 59), (1000, 1000), (13, 13)], by show K - (j + 1) < K - j; omega, ⟨.refl _, .refl _, .refl _, .refl _, .refl _, .refl _, .refl _, .refl _, .refl _, trivial⟩, rfl, rfl, rfl, rfl, rfl, rfl, rfl, trivial⟩
        ·refine Tri.exit ?_
         conv => whnf
         have hjU : numS v st ex j ∉ U := by simpa using hc
         have hjK : j = K := by
          rcases Nat.lt_or_ge j K with h | h
          ·exact absurd (hfr.2.2 j h) hjU
          ·omega
         exact ⟨(), [(59, 59), (1000, 1000)], ⟨.refl _, .refl _, .refl _, .refl _, .refl _, .refl _, DLe.of_eq (congrArg D.str (by rw [hpk hv01, hjK])), trivial⟩, rfl, rfl, rfl, rfl, rfl, trivial⟩
       ·refine Tri.skip ?_
        conv => whnf
        have hv23 : ¬ (v = 0 ∨ v = 1) := by rw [bif_or] at hc; simpa using hc
        exact ⟨(), [(59, 59), (1000, 1000)], ⟨.refl _, .refl _, .refl _, .refl _, .refl _, .refl _, DLe.of_eq (congrArg D.str (by rw [hpn hv23])), trivial⟩, rfl, rfl, rfl, rfl, rfl, trivial⟩
      ·rintro ⟨⟩
       refine Tri.seq ?_
       refine Tri.region ti_ok ?_
       conv => whnf
       refine ⟨trivial, ?_⟩
       conv => whnf
       refine ⟨rfl, rfl, ?_⟩
       conv => whnf
       refine ⟨by show (_ + 1) * 16 ≤ _; omega, by show _ + 1 ≤ _; omega, (fun h => by cases h), fun w => ?_⟩
       conv => whnf
       refine Tri.regionX ti_ok ?_
       conv => whnf
       refine .inl ?_
       conv => whnf
       refine ⟨fun _ => by simp; omega, ?_⟩
       conv => whnf
       refine .inl ?_
       conv => whnf
       refine ⟨.int .i64 (ix : Nat), fun _ => hLd, ?_⟩
       conv => whnf
       refine .inr (XOp.rowIndex ti_ok 59 rfl rfl rfl rfl rfl rfl rfl (by omega) (by rw [hrl]; omega) ?_)
       conv => whnf
       conv => whnf
       refine .inr (XOp.rowStore ti_ok 59 (i := ix) (by rw [Int.toNat_natCast]; rfl) rfl rfl rfl (by rw [hrl]; omega) rfl ?_)
       conv => whnf
       conv => whnf
       refine Tri.region ti_ok ?_
       conv => whnf
       refine .inl ⟨fun _ => by simp only [InR]; omega, ?_⟩
       conv => whnf
       exact ⟨(⟨t + 1, by omega⟩, w), [(59, 59), (1000, 108)], by show _ - (t + 1) < _ - t; omega, ⟨.refl _, .refl _, .refl _, DLe.ownEq (by dsimp only; rw [hus]; simp [strs]; rfl), .refl _, .refl _, trivial⟩, rfl, rfl, congrArg (fun z => some (HObj.row nv z 1 9)) (by rw [← hpa]; exact hrs), rfl, ownH (by dsimp only; rw [hus]; simp [strs]), trivial⟩
     ·refine Tri.exit ?_
      conv => whnf
      have htn : t = L.length := by simp at hc; omega
      have hrow2 : rowF kids.length L (pickAt v kids L) t = strs (namesU v kids) := by
       rw [htn]; exact rowF_all hO fun j hj => pickAt_for hO hinc hj
      rw [hrow2]
      refine Tri.forgetK [(9, .raw nv)] [(59, .row nv (strs (namesU v kids)) 1 9)] [(59, 59)] ⟨⟨.refl _, trivial⟩, rfl, rfl, rfl, trivial⟩ ?_
      refine Tri.commitSt 59 9 rfl ?_
      refine Tri.seq ?_
      refine Tri.region ti_ok ?_
      conv => whnf
      refine Tri.ret ?_
      conv => whnf
      exact ⟨.refl _, .refl _, trivial⟩
/-- The names of any kids have the form. -/
theorem names_formU {kids : List NV} (h64 : kids.length ≤ 64) (hok : ∀ k ∈ kids, nameOk k.name = true) (hn : (kids.map NV.name).Nodup) {j : Nat} (hj : j < kids.length) : ∃ A B, IsoForm ((namesU 0 kids).getD j []) (kids[j].kind == 0) A B := by
 have hO := ordL_order kids
 have hinc := inc_of_nodup hO hn
 generalize ordL kids kids.length = L at *
 have hu : (namesU 0 kids).getD j [] = pickAt 0 kids L j := by
  rw [pickAt_for hO hinc hj]
  simp [namesU, List.getD_eq_getElem?_getD, hj]
 obtain ⟨t, ht, rfl⟩ := List.mem_iff_getElem.1 (hO.mem hj)
 have hiol : (inOrder kids L).length = L.length := by simp [inOrder]
 have hio : (inOrder kids L)[t]'(by omega) = kids[L[t]] := by simp [inOrder, List.getD_eq_getElem?_getD, hj]
 obtain ⟨A, B, hf⟩ := names_form (ks := inOrder kids L) (by rw [hiol, hO.len]; exact h64) (fun k hk => by
  obtain ⟨q, hq, rfl⟩ := List.mem_iff_getElem.1 hk
  have hq2 : q < L.length := by omega
  have : (inOrder kids L)[q] = kids[L[q]]'(hO.lt hq2) := by simp [inOrder, List.getD_eq_getElem?_getD, hO.lt hq2]
  rw [this]; exact hok _ (List.getElem_mem _)) (i := t) (by omega)
 have hp : pickAt 0 kids L L[t] = (namesG 0 (inOrder kids L))[t]'(by rw [namesG_len]; omega) := by
  rw [pickAt, idxOf_get hO.nodup ht, List.getD_eq_getElem?_getD, List.getElem?_eq_getElem (by rw [namesG_len]; omega)]; rfl
 rw [hu, hp, ← hio]
 exact ⟨A, B, hf⟩
/-- What Identifiers returns. -/
def idsV (kids : List NV) : List (List UInt8) × Int := if (namesR 0 kids).2 = 0 then (idsL (namesR 0 kids).1 kids, 0) else ([], (namesR 0 kids).2)
set_option maxHeartbeats 4000000 in
theorem G47 (kids : List NV) (hlen : kids.length < 1000000) (hnl : ∀ k ∈ kids, k.name.length < 1000000000) : DFun Tryz.prog W0 47 [.sl .none 12 (kids.map enc)] (.tup [.sl .none 1 (strs (idsV kids).1), .int .i64 (idsV kids).2]) := by
 refine DFun.intro ti2_ok Tryz.func47 rfl (by decide +kernel) Tryz.ntmps47 rfl fun Γ => ?_
 refine Tri.seq ?_
 refine Tri.region ti2_ok ?_
 conv => whnf
 refine Tri.seq ?_
 refine Tri.region ti2_ok ?_
 conv => whnf
 refine ⟨[.int .i64 0, .sl .none 12 (kids.map enc)], _, fun _ => G97g 0 kids hlen hnl, ⟨.refl _, .refl _, trivial⟩, ?_⟩
 conv => whnf
 refine Tri.seq ?_
 refine Tri.seq ?_
 refine Tri.region ti2_ok ?_
 conv => whnf
 refine Tri.cond ((namesR 0 kids).2 != 0) rfl (fun hc => ?_) (fun hc => ?_)
 ·refine Tri.seq ?_
  refine Tri.region ti2_ok ?_
  conv => whnf
  refine Tri.ret ?_
  conv => whnf
  have h : ¬ (namesR 0 kids).2 = 0 := by simpa using hc
  rw [idsV, if_neg h]
  exact ⟨DLe.nil, .refl _, trivial⟩
 ·refine Tri.skip ?_
  conv => whnf
  have he : (namesR 0 kids).2 = 0 := by simpa using hc
  obtain ⟨_, h64, hall, hnd, hR⟩ := namesR_ok he
  have hform := fun (j : Nat) (hj : j < kids.length) => names_formU h64 (fun k hk => by rw [allOk, List.all_eq_true] at hall; exact hall k hk) hnd hj
  rw [idsV, if_pos he]
  have hNl : (namesR 0 kids).1.length = kids.length := by rw [hR]; exact namesU_len 0 kids
  have hN1 : (namesR 0 kids).1 = namesU 0 kids := by rw [hR]
  rw [← hN1] at hform
  generalize (namesR 0 kids).1 = N at *
  have hsN : (strs N).length = N.length := by simp [strs]
  refine Tri.seq ?_
  refine Tri.region ti2_ok ?_
  conv => whnf
  refine ⟨trivial, ?_⟩
  conv => whnf
  refine Tri.seq ?_
  refine Tri.seq ?_
  refine Tri.region ti2_ok ?_
  conv => whnf
  refine Tri.block ?_
  refine Tri.own 6 1000 1 9 rfl (fun w0 => ?_)
  refine Tri.loopK (α := { i : Nat // i ≤ N.length } × Value) (fun z => [(0, .sl .none 12 (kids.map enc)), (4, .sl .none 1 (strs N)), (6, .sl (.own 1000 z.2) 1 (strs ((idsL N kids).take z.1.1))), (7, .int .i64 (z.1.1 : Int))]) (fun z => [(1000, .own z.2 (strs ((idsL N kids).take z.1.1)).length 1 9)]) (fun z => N.length - z.1.1) (⟨0, Nat.zero_le _⟩, w0) [(1000, 1000)]
   ⟨⟨.refl _, .refl _, .refl _, .refl _, trivial⟩, rfl, rfl, rfl, trivial⟩ ?_
  rintro ⟨⟨i, hi⟩, w⟩
  try dsimp only
  refine Tri.seq ?_
  refine Tri.seq ?_
  refine Tri.region ti2_ok ?_
  conv => whnf
  refine Tri.cond (decide ((i : Int) < ((strs N).length : Int))) rfl (fun hc => ?_) (fun hc => ?_)
  ·refine Tri.skip ?_
   conv => whnf
   have hia : i < N.length := by rw [hsN] at hc; simpa using hc
   have hkl : i < kids.length := by omega
   obtain ⟨A, B, hf⟩ := hform i hkl
   have hNd : (strs N)[i]? = some (.str (N.getD i [])) := by rw [strs, List.getElem?_map, List.getElem?_eq_getElem hia, List.getD_eq_getElem?_getD, List.getElem?_eq_getElem hia]; rfl
   have hkd : (kids.map enc)[i]? = some (encTop kids[i]) := get_kids hkl
   have hidl : (idsL N kids).length = N.length := by simp [idsL]
   have hid : (idsL N kids)[i]? = some (identI (N.getD i []) (kids[i].kind == 0)).1 := by
    rw [idsL, List.getElem?_map, List.getElem?_range hia]
    simp [idAt, List.getD_eq_getElem?_getD, hkl]
   have hnx : strs ((idsL N kids).take i) ++ [.str (identI (N.getD i []) (kids[i].kind == 0)).1] = strs ((idsL N kids).take (i + 1)) := by
    rw [take_nxt hid]; simp [strs]
   have hsl : (strs ((idsL N kids).take i)).length ≤ 100 := by simp [strs]; omega
   refine Tri.seq ?_
   refine Tri.block ?_
   refine Tri.seq ?_
   refine Tri.draw ti2_ok mixed (by kernel_rfl) ?_
   conv => whnf
   refine ⟨fun _ => ⟨Int.natCast_nonneg _, by rw [hsN]; exact Int.ofNat_lt.2 hia⟩, ?_⟩
   conv => whnf
   refine ⟨.str (N.getD i []), fun _ => hNd, ?_⟩
   conv => whnf
   refine ⟨fun _ => by simp; omega, ?_⟩
   conv => whnf
   refine ⟨encTop kids[i], fun _ => hkd, ?_⟩
   conv => whnf
   refine ⟨[.str (N.getD i []), .bool (kids[i].kind == 0)], _, fun _ => G98 hf, ⟨.refl _, .refl _, trivial⟩, ?_⟩
   conv => whnf
   refine Tri.region ti2_ok ?_
   conv => whnf
   refine ⟨trivial, ?_⟩
   conv => whnf
   refine ⟨rfl, rfl, ?_⟩
   conv => whnf
   refine ⟨by show (_ + 1) * 16 ≤ _; omega, by show _ + 1 ≤ _; omega, (fun h => by cases h), fun w2 => ?_⟩
   conv => whnf
   refine Tri.region ti2_ok ?_
   conv => whnf
   refine .inl ⟨fun _ => by simp [InR]; omega, ?_⟩
   conv => whnf
   exact ⟨(⟨i + 1, hia⟩, w2), [(1000, 42)], by show _ - (i + 1) < _ - i; omega, ⟨.refl _, .refl _, DLe.trans (DLe.of_eq (congrArg (D.sl (.own 42 w2) 1) hnx)) (DLe.own _ _), .refl _, trivial⟩, rfl, rfl, congrArg (fun z : Nat => some (HObj.own w2 z 1 9)) (by rw [← hnx]; exact List.length_append.symm), trivial⟩
  ·have hin : i = N.length := by rw [hsN] at hc; have := of_decide_eq_false hc; omega
   have hidl : (idsL N kids).length = N.length := by simp [idsL]
   have hall2 : (idsL N kids).take i = idsL N kids := by rw [List.take_of_length_le]; omega
   rw [hall2]
   refine Tri.exit ?_
   conv => whnf
   refine Tri.seq ?_
   refine Tri.region ti2_ok ?_
   conv => whnf
   refine Tri.ret ?_
   conv => whnf
   exact ⟨DLe.unown, .refl _, trivial⟩
end Go.Tame.V
/- Laws: RelocationNames. By program (mkrv.py, mk.py). -/
namespace Go.Tame.V
open Go Go.Proofs
variable {W0 : World}
set_option maxRecDepth 10000
set_option linter.unusedVariables false
set_option linter.unusedSimpArgs false

set_option maxHeartbeats 4000000 in
theorem G46e (hL : LibOk W0) (kids : List NV) (hlen : kids.length < 1000000) (hnl : ∀ k ∈ kids, k.name.length < 1000000000) (he : (namesR 0 kids).2 ≠ 0) : DFun Tryz.prog W0 46 [.sl .none 12 (kids.map enc)] (.tup [.sl .none 1 [], .int .i64 (namesR 0 kids).2]) := by
 refine DFun.intro ti2_ok Tryz.func46 rfl (by decide +kernel) Tryz.ntmps46 rfl fun Γ => ?_
 refine Tri.seq ?_
 refine Tri.region ti2_ok ?_
 conv => whnf
 refine Tri.seq ?_
 refine Tri.region ti2_ok ?_
 conv => whnf
 refine ⟨[.int .i64 0, .sl .none 12 (kids.map enc)], _, fun _ => F105g hL 0 kids hlen hnl, ⟨.refl _, .refl _, trivial⟩, ?_⟩
 conv => whnf
 refine Tri.seq ?_
 refine Tri.seq ?_
 refine Tri.region ti2_ok ?_
 conv => whnf
 refine Tri.cond ((namesR 0 kids).2 != 0) rfl (fun hc => ?_) (fun hc => ?_)
 ·refine Tri.seq ?_
  refine Tri.region ti2_ok ?_
  conv => whnf
  refine Tri.ret ?_
  conv => whnf
  exact ⟨DLe.nil, .refl _, trivial⟩
 ·exact absurd (by simpa using hc) he
theorem G46g (hL : LibOk W0) (kids : List NV) (hlen : kids.length < 1000000) (hnl : ∀ k ∈ kids, k.name.length < 1000000000) : DFun Tryz.prog W0 46 [.sl .none 12 (kids.map enc)] (.tup [.sl .none 1 (strs (idsV kids).1), .int .i64 (idsV kids).2]) := by
 by_cases he : (namesR 0 kids).2 = 0
 ·obtain ⟨_, h64, hall, hnd, hR⟩ := namesR_ok he
  have hform := fun (j : Nat) (hj : j < kids.length) => names_formU h64 (fun k hk => by rw [allOk, List.all_eq_true] at hall; exact hall k hk) hnd hj
  have hN1 : (namesR 0 kids).1 = namesU 0 kids := by rw [hR]
  have hNl : (namesR 0 kids).1.length = kids.length := by rw [hN1]; exact namesU_len 0 kids
  have hok : (List.range kids.length).all (fun j => (idAt (namesR 0 kids).1 kids j).2 == 0) = true := by
   rw [List.all_eq_true]
   intro j hj
   have hj' : j < kids.length := by simpa using hj
   obtain ⟨A, B, hf⟩ := hform j hj'
   rw [← hN1] at hf
   have := hf.name.back.1
   rw [idAt, List.getD_eq_getElem?_getD (l := kids), List.getElem?_eq_getElem hj']
   simpa using this
  have h := G46 (W0 := W0) hL kids hlen hnl he (fun m hm => by
   obtain ⟨j, hj, rfl⟩ := List.mem_iff_getElem.1 hm
   obtain ⟨A, B, hf⟩ := hform j (by omega)
   have := hf.len
   rw [← hN1, List.getD_eq_getElem?_getD, List.getElem?_eq_getElem hj] at this
   simp at this; omega) hNl
  rw [if_pos hok, if_pos hok] at h
  rw [idsV, if_pos he]
  exact h
 ·have h := G46e (W0 := W0) hL kids hlen hnl he
  rw [idsV, if_neg he]
  exact h
set_option maxHeartbeats 4000000 in
theorem G45 (k : NV) : DFun Tryz.prog W0 45 [encTop k] (.bool (decide (400 < (k.name.length : Int)))) := by
 refine DFun.intro ti2_ok Tryz.func45 rfl (by decide +kernel) Tryz.ntmps45 rfl fun Γ => ?_
 refine Tri.seq ?_
 refine Tri.region ti2_ok ?_
 conv => whnf
 intro b1
 conv => whnf
 refine Tri.seq ?_
 refine Tri.region ti2_ok ?_
 conv => whnf
 refine ⟨rfl, ?_⟩
 conv => whnf
 refine Tri.ret ?_
 conv => whnf
 exact .refl _
theorem need_eq {n : NV} : needR n = needV n := by
 unfold needR needV
 cases hv : valid n with
 | false => rw [plan_bad hv]; rfl
 | true =>
  obtain ⟨rn, T, hp, hb, _, _⟩ := plan_good (rr := true) hv
  have hokt := valid_okT hv
  obtain ⟨_, _, _, hAny⟩ := plain_yes hokt hb rn
  rw [hp]
  dsimp only
  rw [hAny]
  have hl := dirsP_len rn T
  rcases shiftX_01 T with h | h
  ·rw [h]
   rw [decide_eq_true (show (0 : Int) = 0 from rfl), cond_true, cond_true]
   by_cases h1 : ((dirsP rn T).length : Int) > 1
   ·rw [decide_eq_true h1, cond_true]
    have hlt : 1 < (dirsP rn T).length := by omega
    rw [List.getD_eq_getElem?_getD, List.getElem?_eq_getElem hlt]
    have hx := List.getElem?_eq_getElem hlt
    rcases dirsP_inv hx with ⟨h2, _⟩ | ⟨_, h2, _⟩ | ⟨k, s, hs, _, h3⟩
    ·omega
    ·omega
    ·simp only [Option.getD_some]
     rw [h3]
     obtain ⟨t, ht⟩ := List.mem_iff_getElem?.1 (List.mem_filter.1 (List.mem_of_getElem? hs)).1
     have := (hb.pathN hokt (t + 1) s ht).1
     simpa [XS.dirV] using this
   ·rw [decide_eq_false h1]; rfl
  ·rw [h, List.getD_eq_getElem?_getD, dirsP_one h]
   have h1 : ((dirsP rn T).length : Int) > 1 := by omega
   rw [decide_eq_true h1]; rfl
set_option maxHeartbeats 4000000 in
theorem G10 (hL : LibOk W0) (kids : List NV) (hkl : kids.length < 1000000000) (hkn : ∀ k ∈ kids, k.name.length < 1000000000) (n : NV) (hn : Fits n) (l : List DirV) (i : Int) : DFun Tryz.prog W0 10 [.sl .none 12 (kids.map enc), encTop n, .sl .none 6 (l.map encDir), .int .i64 i] (.bool true) := by
 refine DFun.intro ti2_ok Tryz.func10 rfl (by decide +kernel) Tryz.ntmps10 rfl fun Γ => ?_
 refine Tri.seq ?_
 refine Tri.region ti2_ok ?_
 conv => whnf
 intro b5
 conv => whnf
 refine Tri.seq ?_
 refine Tri.seq ?_
 refine Tri.region ti2_ok ?_
 conv => whnf
 refine ⟨[], _, fun _ => G39 hL, trivial, ?_⟩
 conv => whnf
 refine Tri.cond _ rfl (fun hc => ?_) (fun hc => ?_)
 ·cases hc
 ·refine Tri.skip ?_
  conv => whnf
  refine Tri.seq ?_
  refine Tri.seq ?_
  refine Tri.region ti2_ok ?_
  conv => whnf
  refine ⟨rfl, ?_⟩
  conv => whnf
  refine ⟨[encTop n, .int .i64 20000], _, fun _ => F26 n 20000 hn, ⟨.refl _, .refl _, trivial⟩, ?_⟩
  conv => whnf
  refine ⟨fun h => h, ?_⟩
  conv => whnf
  refine ⟨fun h => h, ?_⟩
  conv => whnf
  refine ⟨fun h0 h => by first | exact h | (rw [h]; rfl) | (rw [h0, h]; rfl), ?_⟩
  conv => whnf
  refine ⟨fun h => h, ?_⟩
  conv => whnf
  refine ⟨fun h => h, ?_⟩
  conv => whnf
  refine ⟨fun h0 h => by first | exact h | (rw [h]; rfl) | (rw [h0, h]; rfl), ?_⟩
  conv => whnf
  refine ⟨fun h => h, ?_⟩
  conv => whnf
  refine ⟨[.sl .none 12 (kids.map enc), .fn (.func 45) [] []], _, fun h => G44 kids hkl 45 [] (fun k => decide (400 < (k.name.length : Int))) (fun k _ => G45 k), ⟨.refl _, .refl _, trivial⟩, ?_⟩
  conv => whnf
  refine ⟨fun h0 h => by first | exact h | (rw [h]; rfl) | (rw [h0, h]; rfl), ?_⟩
  conv => whnf
  refine Tri.cond (bif (bif (bif !few1 n 20000 then true else decide (((kids.map enc).length : Int) > 70)) then true else decide (((l.map encDir).length : Int) > 40)) then true else kids.any fun k => decide (400 < (k.name.length : Int))) rfl (fun hc => ?_) (fun hc => ?_)
  ·refine Tri.seq ?_
   refine Tri.region ti2_ok ?_
   conv => whnf
   refine Tri.ret ?_
   conv => whnf
   exact .refl _
  ·refine Tri.skip ?_
   conv => whnf
   have hcc : few1 n 20000 = true ∧ kids.length ≤ 70 ∧ l.length ≤ 40 := by
    rw [List.length_map, List.length_map] at hc
    cases hf : few1 n 20000 with
    | false => rw [hf] at hc; cases hc
    | true =>
     rw [hf] at hc
     by_cases h1 : (kids.length : Int) > 70
     ·rw [decide_eq_true h1] at hc; cases hc
     ·by_cases h2 : (l.length : Int) > 40
      ·rw [decide_eq_false h1, decide_eq_true h2] at hc; cases hc
      ·exact ⟨rfl, by omega, by omega⟩
   obtain ⟨hf, hk70, hl40⟩ := hcc
   have hs := few_sz2 hf
   have hcn := (few_sz hf).2
   have hld := plan_lenD true n
   have hNe := need_eq (n := n)
   have hidl : (idsV kids).1.length < 1000000000 := by
    rw [idsV]; split
    ·rename_i he
     obtain ⟨_, _, _, _, hR⟩ := namesR_ok he
     rw [hR]; simp [idsL, namesU_len]; omega
    ·show (0 : Nat) < _; decide
   have hpw : ∀ (m : Nat) (j : Int) (x : List (List UInt8)), physW l m j = some x → x.length ≤ m := by
    intro m
    induction m with
    | zero =>
     intro j x h
     by_cases h0 : j = 0
     ·subst h0; rw [physW_zero] at h; cases h; exact Nat.le_refl _
     ·rw [physW_none h0] at h; cases h
    | succ m ih =>
     intro j x h
     by_cases h0 : j = 0
     ·subst h0; rw [physW_zero] at h; cases h; exact Nat.zero_le _
     ·rw [physW_next h0] at h
      split at h
      ·cases h2 : physW l m (l.getD j.toNat default).parent with
       | none => rw [h2] at h; cases h
       | some y => rw [h2] at h; cases h; have := ih _ _ h2; simp; omega
      ·cases h
   have hphl : (physV l i).1.length < 1000000000 := by
    unfold physV
    split
    ·show (0 : Nat) < _; decide
    ·split
     ·rename_i x hx
      have := hpw _ _ _ hx
      show x.reverse.length < _
      rw [List.length_reverse]; omega
     ·show (0 : Nat) < _; decide
   refine Tri.seq ?_
   refine Tri.region ti2_ok ?_
   conv => whnf
   refine ⟨[.sl .none 12 (kids.map enc)], _, fun _ => G46g hL kids (by omega) hkn, ⟨.refl _, trivial⟩, ?_⟩
   conv => whnf
   refine Tri.seq ?_
   refine Tri.region ti2_ok ?_
   conv => whnf
   refine ⟨[.sl .none 12 (kids.map enc)], _, fun _ => G47 kids (by omega) hkn, ⟨.refl _, trivial⟩, ?_⟩
   conv => whnf
   refine Tri.seq ?_
   refine Tri.region ti2_ok ?_
   conv => whnf
   refine ⟨[.sl .none 6 (l.map encDir), .int .i64 i], _, fun _ => G48 l i (by omega), ⟨.refl _, .refl _, trivial⟩, ?_⟩
   conv => whnf
   refine Tri.seq ?_
   refine Tri.region ti2_ok ?_
   conv => whnf
   refine ⟨[.sl .none 6 (l.map encDir), .int .i64 i], _, fun _ => G49 l i (by omega), ⟨.refl _, .refl _, trivial⟩, ?_⟩
   conv => whnf
   refine Tri.seq ?_
   refine Tri.draw ti2_ok mixed (by kernel_rfl) ?_
   conv => whnf
   refine ⟨[.sl .none 1 ((idsV kids).1.map D.str), .sl .none 1 ((idsV kids).1.map D.str)], _, fun _ => F23 _ _ hidl hidl, ⟨.refl _, .refl _, trivial⟩, ?_⟩
   conv => whnf
   refine ⟨fun h => h, ?_⟩
   conv => whnf
   refine ⟨fun h => h, ?_⟩
   conv => whnf
   refine ⟨fun h0 h => by first | exact h | (rw [h]; rfl) | (rw [h0, h]; rfl), ?_⟩
   conv => whnf
   refine ⟨rfl, ?_⟩
   conv => whnf
   refine ⟨fun h => h, ?_⟩
   conv => whnf
   refine ⟨[encTop n], _, fun h => G50 hL n hn (fun _ => ⟨by omega, by omega⟩) (by omega), ⟨.refl _, trivial⟩, ?_⟩
   conv => whnf
   refine ⟨rfl, ?_⟩
   conv => whnf
   refine ⟨fun h => h, ?_⟩
   conv => whnf
   refine ⟨[encTop n], _, fun h => G51 hL n hn (fun _ => ⟨by omega, by omega⟩), ⟨.refl _, trivial⟩, ?_⟩
   conv => whnf
   refine ⟨fun h => h, ?_⟩
   conv => whnf
   refine ⟨fun h => h, ?_⟩
   conv => whnf
   refine ⟨fun h0 h => by first | exact h | (rw [h]; rfl) | (rw [h0, h]; rfl), ?_⟩
   conv => whnf
   refine ⟨fun h => h, ?_⟩
   conv => whnf
   refine ⟨fun h => h, ?_⟩
   conv => whnf
   refine ⟨[.sl .none 1 ((physV l i).1.map D.str), .sl .none 1 ((physV l i).1.map D.str)], _, fun h => F23 _ _ hphl hphl, ⟨.refl _, .refl _, trivial⟩, ?_⟩
   conv => whnf
   refine ⟨fun h0 h => by first | exact h | (rw [h]; rfl) | (rw [h0, h]; rfl), ?_⟩
   conv => whnf
   refine ⟨fun h => h, ?_⟩
   conv => whnf
   refine ⟨fun h => h, ?_⟩
   conv => whnf
   refine ⟨fun h0 h => by first | exact h | (rw [h]; rfl) | (rw [h0, h]; rfl), ?_⟩
   conv => whnf
   refine Tri.ret ?_
   conv => whnf
   exact DLe.of_eq (congrArg D.bool (by simp [hNe]))
end Go.Tame.V
