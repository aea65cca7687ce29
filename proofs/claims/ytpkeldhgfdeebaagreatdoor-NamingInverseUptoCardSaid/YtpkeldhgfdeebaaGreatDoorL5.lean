/- A program logic of my own over the model, and contracts of this program's functions by it: part 5. No conditions of its own: each theorem states its own. -/
import Derived.Test.YtpkeldhgfdeebaaGreatDoorL4
set_option linter.unnecessarySimpa false
set_option linter.unusedSimpArgs false
set_option linter.unusedVariables false
/- Contracts: the other way of names: Names. By program (mk.py). -/
namespace Go.Tame.V
open Go Go.Proofs
variable {W0 : World}
set_option maxRecDepth 10000
set_option linter.unusedVariables false
set_option linter.unusedSimpArgs false

def pickG (v : Int) (u : List (List UInt8)) (k : NV) : List UInt8 := if v = 0 ∨ v = 1 then pickN v u k else k.name
/-- The names at any view, the last one ahead. -/
def usedG (v : Int) (ks : List NV) : List (List UInt8) := ks.foldl (fun u k => pickG v u k :: u) []
def namesG (v : Int) (ks : List NV) : List (List UInt8) := (usedG v ks).reverse
theorem usedG_snoc (v : Int) (ks : List NV) (k : NV) : usedG v (ks ++ [k]) = pickG v (usedG v ks) k :: usedG v ks := by simp [usedG]
theorem usedG_len (v : Int) (ks : List NV) : (usedG v ks).length = ks.length := by
  refine snoc_rec (p := fun ks => (usedG v ks).length = ks.length) rfl (fun l x ih => ?_) ks
  rw [usedG_snoc]; simp [ih]
theorem usedG_take {v : Int} {ks : List NV} {t : Nat} (h : t < ks.length) : usedG v (ks.take (t + 1)) = pickG v (usedG v (ks.take t)) ks[t] :: usedG v (ks.take t) := by
  rw [List.take_succ_eq_append_getElem h, usedG_snoc]
theorem strs_setG {v : Int} {kids : List NV} {t : Nat} (h : t < kids.length) (z : D) : (strs (usedG v (kids.take t)).reverse ++ List.replicate (kids.length - t) z).set t (.str (pickG v (usedG v (kids.take t)) kids[t])) = strs (usedG v (kids.take (t + 1))).reverse ++ List.replicate (kids.length - (t + 1)) z := by
  rw [usedG_take h]
  have hl : (strs (usedG v (kids.take t)).reverse).length = t := by simp [strs, usedG_len]; omega
  rw [List.set_append_right _ _ (by omega), hl, Nat.sub_self, show kids.length - t = (kids.length - (t + 1)) + 1 by omega, List.replicate_succ]
  simp [strs]
def cellsN (n : NV) : List D := [.str n.name, .int .i64 n.kind, .str n.text, .str n.target, .int .i64 n.n1, .int .i64 n.n2, .int .i64 n.n3, .int .i64 n.n4, .int .i64 n.n5, .int .i64 n.n6, .sl .none 12 (n.kids.map enc), .sl .none 2 (n.streams.map encS)]

theorem F72 (v : Int) (hv : viewOk v = true) (kids : List NV) (h64 : kids.length ≤ 64) (hok : ∀ k ∈ kids, nameOk k.name = true ∧ k.name.length < 1000000000) (hinc : inc kids) : DFun Tryz.prog W0 97 [.int .i64 v, .sl .none 12 (kids.map enc)] (.tup [.sl .none 1 (strs (namesG v kids)), .int .i64 0]) := by
  refine DFun.intro ti_ok Tryz.func97 rfl (by decide +kernel) Tryz.ntmps97 rfl fun Γ => ?_
  refine Tri.seq ?_
  refine Tri.region ti_ok ?_
  conv => whnf
  refine Tri.seq ?_
  refine Tri.seq ?_
  refine Tri.region ti_ok ?_
  conv => whnf
  refine ⟨[.int .i64 v], _, fun _ => F53 v, ⟨.refl _, trivial⟩, ?_⟩
  conv => whnf
  refine Tri.cond _ rfl (fun hc => ?_) (fun hc => ?_)
  · refine Tri.seq ?_
    exfalso
    rw [hv] at hc; cases hc
  · refine Tri.skip ?_
    conv => whnf
    refine Tri.seq ?_
    refine Tri.seq ?_
    refine Tri.region ti_ok ?_
    conv => whnf
    refine Tri.cond _ rfl (fun hc => ?_) (fun hc => ?_)
    · refine Tri.seq ?_
      exfalso
      simp at hc; omega
    · refine Tri.skip ?_
      conv => whnf
      refine Tri.seq ?_
      refine Tri.seq ?_
      refine Tri.region ti_ok ?_
      conv => whnf
      refine Tri.block ?_
      refine Tri.loop (α := { i : Nat // i ≤ kids.length }) (fun x => [(0, .int .i64 v), (1, .sl .none 12 (kids.map enc)), (6, .int .i64 x.1)]) (fun _ => []) (fun x => kids.length - x.1) ⟨0, by omega⟩ ⟨.refl _, .refl _, .refl _, trivial⟩ trivial ?_
      rintro ⟨i, hi⟩
      dsimp only
      refine Tri.seq ?_
      refine Tri.seq ?_
      refine Tri.region ti_ok ?_
      conv => whnf
      refine Tri.cond _ rfl (fun hc => ?_) (fun hc => ?_)
      · refine Tri.skip ?_
        conv => whnf
        refine Tri.seq ?_
        refine Tri.block ?_
        refine Tri.seq ?_
        refine Tri.region ti_ok ?_
        have hia : i < kids.length := by simpa using hc
        conv => whnf
        refine ⟨fun _ => by simp; omega, ?_⟩
        conv => whnf
        refine ⟨encTop kids[i], fun _ => get_kids hia, ?_⟩
        conv => whnf
        refine ⟨[.str kids[i].name], _, fun _ => F94 _ (hok _ (List.getElem_mem hia)).2, ⟨.refl _, trivial⟩, ?_⟩
        conv => whnf
        refine Tri.cond _ rfl (fun hc => ?_) (fun hc => ?_)
        · refine Tri.seq ?_
          exfalso
          rw [(hok _ (List.getElem_mem hia)).1] at hc; cases hc
        · refine Tri.skip ?_
          conv => whnf
          refine Tri.region ti_ok ?_
          conv => whnf
          refine .inl ⟨fun _ => by simp only [InR]; omega, ?_⟩
          conv => whnf
          exact ⟨⟨i + 1, by omega⟩, by show kids.length - (i + 1) < kids.length - i; omega, ⟨.refl _, .refl _, .refl _, trivial⟩, trivial⟩
      · refine Tri.exit ?_
        conv => whnf
        refine Tri.seq ?_
        refine Tri.seq ?_
        refine Tri.region ti_ok ?_
        conv => whnf
        refine Tri.block ?_
        refine Tri.loop (α := { i : Nat // i ≤ kids.length }) (fun x => [(0, .int .i64 v), (1, .sl .none 12 (kids.map enc)), (7, .int .i64 x.1)]) (fun _ => []) (fun x => kids.length - x.1) ⟨0, by omega⟩ ⟨.refl _, .refl _, .refl _, trivial⟩ trivial ?_
        rintro ⟨i, hi⟩
        dsimp only
        refine Tri.seq ?_
        refine Tri.seq ?_
        refine Tri.region ti_ok ?_
        conv => whnf
        refine Tri.cond _ rfl (fun hc => ?_) (fun hc => ?_)
        · refine Tri.skip ?_
          conv => whnf
          refine Tri.seq ?_
          refine Tri.block ?_
          refine Tri.seq ?_
          refine Tri.region ti_ok ?_
          have hia : i < kids.length := by simpa using hc
          conv => whnf
          refine Tri.block ?_
          refine Tri.loop (α := { j : Nat // j ≤ i }) (fun x => [(0, .int .i64 v), (1, .sl .none 12 (kids.map enc)), (7, .int .i64 i), (8, .int .i64 x.1)]) (fun _ => []) (fun x => i - x.1) ⟨0, by omega⟩ ⟨.refl _, .refl _, .refl _, .refl _, trivial⟩ trivial ?_
          rintro ⟨j, hj⟩
          dsimp only
          refine Tri.seq ?_
          refine Tri.seq ?_
          refine Tri.region ti_ok ?_
          conv => whnf
          refine Tri.cond _ rfl (fun hc => ?_) (fun hc => ?_)
          · refine Tri.skip ?_
            conv => whnf
            refine Tri.seq ?_
            refine Tri.block ?_
            refine Tri.seq ?_
            refine Tri.draw ti_ok mixed (by kernel_rfl) ?_
            have hja : j < i := by simpa using hc
            conv => whnf
            refine ⟨fun _ => by simp; omega, ?_⟩
            conv => whnf
            refine ⟨encTop kids[i], fun _ => get_kids hia, ?_⟩
            conv => whnf
            refine ⟨fun _ => by simp; omega, ?_⟩
            conv => whnf
            refine ⟨encTop kids[j], fun _ => get_kids (by omega), ?_⟩
            conv => whnf
            refine Tri.cond _ rfl (fun hc => ?_) (fun hc => ?_)
            · refine Tri.seq ?_
              exfalso
              have hne := bl_ne (inc_get hinc hja hia)
              have : kids[i].name = kids[j].name := by simpa using hc
              exact hne this.symm
            · refine Tri.skip ?_
              conv => whnf
              refine Tri.region ti_ok ?_
              conv => whnf
              refine .inl ⟨fun _ => by simp only [InR]; omega, ?_⟩
              conv => whnf
              exact ⟨⟨j + 1, by omega⟩, by show i - (j + 1) < i - j; omega, ⟨.refl _, .refl _, .refl _, .refl _, trivial⟩, trivial⟩
          · refine Tri.exit ?_
            conv => whnf
            refine Tri.region ti_ok ?_
            conv => whnf
            refine .inl ⟨fun _ => by simp only [InR]; omega, ?_⟩
            conv => whnf
            exact ⟨⟨i + 1, by omega⟩, by show kids.length - (i + 1) < kids.length - i; omega, ⟨.refl _, .refl _, .refl _, trivial⟩, trivial⟩
        · refine Tri.exit ?_
          conv => whnf
          refine Tri.seq ?_
          refine Tri.regionX ti_ok ?_
          conv => whnf
          refine .inr (XOp.makeRow ti_ok (n := kids.length) (k1 := .i64) (k2 := .i64) (z := .str []) rfl rfl rfl rfl rfl ?_ ?_ (by show 16 * _ ≤ _; omega) (by omega) fun nv => ?_)
          · show D.int _ _ = _; simp
          · show D.int _ _ = _; simp
          conv => whnf
          refine Tri.seq ?_
          refine Tri.region ti_ok ?_
          conv => whnf
          refine ⟨trivial, ?_⟩
          conv => whnf
          refine Tri.seq ?_
          refine Tri.region ti_ok ?_
          conv => whnf
          refine ⟨[.sl .none 12 (kids.map enc)], _, fun _ => F95 kids hinc h64, ⟨.refl _, trivial⟩, ?_⟩
          conv => whnf
          refine Tri.seq ?_
          refine Tri.seq ?_
          refine Tri.region ti_ok ?_
          conv => whnf
          refine Tri.block ?_
          refine Tri.own 10 1000 1 9 rfl (fun w => ?_)
          refine Tri.loopK (α := { t : Nat // t ≤ kids.length } × Value) (fun x => [(0, .int .i64 v), (1, .sl .none 12 (kids.map enc)), (9, .raw nv), (10, .sl (.own 1000 x.2) 1 (strs (usedG v (kids.take x.1)).reverse)), (11, .sl .none 1 (places kids.length)), (12, .int .i64 x.1.1)])
            (fun x => [(59, .row nv (strs (usedG v (kids.take x.1)).reverse ++ List.replicate (kids.length - x.1) (.str [])) 1 9), (1000, .own x.2 (strs (usedG v (kids.take x.1)).reverse).length 1 9)]) (fun x => kids.length - x.1) (⟨0, by omega⟩, w) [(59, 59), (1000, 1000)]
            ⟨⟨.refl _, .refl _, .refl _, .refl _, .refl _, .refl _, trivial⟩, rfl, rfl, rfl, rfl, rfl, trivial⟩ ?_
          rintro ⟨⟨t, ht⟩, w⟩
          dsimp only
          refine Tri.seq ?_
          refine Tri.seq ?_
          refine Tri.region ti_ok ?_
          conv => whnf
          refine Tri.cond _ rfl (fun hc => ?_) (fun hc => ?_)
          · refine Tri.skip ?_
            conv => whnf
            refine Tri.seq ?_
            refine Tri.block ?_
            refine Tri.seq ?_
            refine Tri.region ti_ok ?_
            have hta : t < kids.length := by simp [places] at hc; omega
            have hnl := name_len (hok _ (List.getElem_mem hta)).1
            obtain ⟨l, hl, hch, _, _, hl64⟩ := name_chars (hok _ (List.getElem_mem hta)).1
            have hcalled := fun (hv : v = 0 ∨ v = 1) (k : Nat) (hk : k < 100) => F96 (W0 := W0) v hv kids[t].name l (kids[t].kind == 0) k hk (by omega) hl hch hl64
            have hus := usedG_take (v := v) hta
            have hset := strs_setG (v := v) hta (.str [])
            have hUl : (usedG v (kids.take t)).length = t := by rw [usedG_len]; simp; omega
            have hfr := fresh_ok v (usedG v (kids.take t)) (wantS v kids[t].name (kids[t].kind == 0)).1 (wantS v kids[t].name (kids[t].kind == 0)).2 (by omega)
            have hpk : v = 0 ∨ v = 1 → pickG v (usedG v (kids.take t)) kids[t] = numS v (wantS v kids[t].name (kids[t].kind == 0)).1 (wantS v kids[t].name (kids[t].kind == 0)).2 (freshK v (usedG v (kids.take t)) (wantS v kids[t].name (kids[t].kind == 0)).1 (wantS v kids[t].name (kids[t].kind == 0)).2) := fun h => by rw [pickG, if_pos h]; rfl
            have hpn : ¬ (v = 0 ∨ v = 1) → pickG v (usedG v (kids.take t)) kids[t] = kids[t].name := fun h => by rw [pickG, if_neg h]
            generalize (wantS v kids[t].name (kids[t].kind == 0)).1 = st at *
            generalize (wantS v kids[t].name (kids[t].kind == 0)).2 = ex at *
            generalize usedG v (kids.take t) = U at *
            generalize hK : freshK v U st ex = K at *
            have hsU : (strs U.reverse).length = t := by simp [strs, hUl]
            conv => whnf
            refine ⟨fun _ => by simp [places]; omega, ?_⟩
            conv => whnf
            refine ⟨.int .i64 (t : Nat), fun _ => by simp [places, hta], ?_⟩
            conv => whnf
            refine ⟨fun _ => by simp; omega, ?_⟩
            conv => whnf
            refine ⟨encTop kids[t], fun _ => get_kids hta, ?_⟩
            conv => whnf
            intro b13
            conv => whnf
            refine ⟨rfl, ?_⟩
            conv => whnf
            refine Tri.seq ?_
            refine Tri.region ti_ok ?_
            conv => whnf
            refine ⟨rfl, ?_⟩
            conv => whnf
            refine Tri.joinK (α := Unit) (fun x => [(0, .int .i64 v), (1, .sl .none 12 (kids.map enc)), (9, .raw nv), (10, .sl (.own 1000 w) 1 (strs U.reverse)), (11, .sl .none 1 (places kids.length)), (12, .int .i64 t), (14, .str (pickG v U kids[t]))])
              (fun x => [(59, .row nv (strs U.reverse ++ List.replicate (kids.length - t) (.str [])) 1 9), (1000, .own w (strs U.reverse).length 1 9)]) ?_ ?_
            · refine Tri.seq ?_
              refine Tri.region ti_ok ?_
              conv => whnf
              refine ⟨fun h => h, ?_⟩
              conv => whnf
              refine ⟨fun h0 h => by first | exact h | (rw [h]; rfl) | (rw [h0, h]; rfl), ?_⟩
              conv => whnf
              refine Tri.cond _ rfl (fun hc => ?_) (fun hc => ?_)
              · refine Tri.seq ?_
                refine Tri.region ti_ok ?_
                have hv01 : v = 0 ∨ v = 1 := by rw [bif_or] at hc; simpa using hc
                conv => whnf
                refine Tri.seq ?_
                refine Tri.region ti_ok ?_
                conv => whnf
                refine ⟨rfl, ?_⟩
                conv => whnf
                refine ⟨rfl, ?_⟩
                conv => whnf
                refine ⟨[.int .i64 v, .str kids[t].name, .bool (kids[t].kind == 0), .int .i64 (0 : Nat)], _, fun _ => hcalled hv01 0 (by omega), ⟨.refl _, .refl _, .refl _, .refl _, trivial⟩, ?_⟩
                conv => whnf
                refine Tri.block ?_
                refine Tri.loopK (α := { j : Nat // j ≤ K }) (fun x => [(0, .int .i64 v), (1, .sl .none 12 (kids.map enc)), (9, .raw nv), (10, .sl (.own 1000 w) 1 (strs U.reverse)), (11, .sl .none 1 (places kids.length)), (12, .int .i64 t), (13, .box 13 b13 0), (14, .str (numS v st ex x.1)), (15, .int .i64 (x.1 : Nat))])
                  (fun x => [(59, .row nv (strs U.reverse ++ List.replicate (kids.length - t) (.str [])) 1 9), (1000, .own w (strs U.reverse).length 1 9), (13, .box b13 (cellsN kids[t]))]) (fun x => K - x.1) ⟨0, by omega⟩ [(59, 59), (1000, 1000), (13, 13)]
                  ⟨⟨.refl _, .refl _, .refl _, .refl _, .refl _, .refl _, .refl _, .refl _, .refl _, trivial⟩, rfl, rfl, rfl, rfl, rfl, rfl, rfl, trivial⟩ ?_
                rintro ⟨j, hj⟩
                dsimp only
                refine Tri.seq ?_
                refine Tri.seq ?_
                refine Tri.region ti_ok ?_
                conv => whnf
                refine ⟨[.sl .none 1 (strs U.reverse), .str (numS v st ex j)], _, fun _ => F97 _ _ (by simp [hUl]; omega), ⟨DLe.unown, .refl _, trivial⟩, ?_⟩
                conv => whnf
                refine Tri.cond _ rfl (fun hc => ?_) (fun hc => ?_)
                · refine Tri.skip ?_
                  conv => whnf
                  refine Tri.block ?_
                  refine Tri.seq ?_
                  refine Tri.region ti_ok ?_
                  have hjU : numS v st ex j ∈ U := by simpa using hc
                  have hjK : j < K := by
                    rcases Nat.lt_or_ge j K with h | h
                    · exact h
                    · have : j = K := by omega
                      subst this; exact absurd hjU hfr.2.1
                  conv => whnf
                  refine .inl ⟨fun _ => by simp only [InR]; omega, ?_⟩
                  conv => whnf
                  refine Tri.region ti_ok ?_
                  conv => whnf
                  refine ⟨rfl, ?_⟩
                  conv => whnf
                  refine ⟨rfl, ?_⟩
                  conv => whnf
                  refine ⟨[.int .i64 v, .str kids[t].name, .bool (kids[t].kind == 0), .int .i64 ((j + 1 : Nat) : Int)], _, fun _ => hcalled hv01 (j + 1) (by omega), ⟨.refl _, .refl _, .refl _, .refl _, trivial⟩, ?_⟩
                  conv => whnf
                  exact ⟨⟨j + 1, by omega⟩, [(59, 59), (1000, 1000), (13, 13)], by show K - (j + 1) < K - j; omega, ⟨.refl _, .refl _, .refl _, .refl _, .refl _, .refl _, .refl _, .refl _, .refl _, trivial⟩, rfl, rfl, rfl, rfl, rfl, rfl, rfl, trivial⟩
                · refine Tri.exit ?_
                  conv => whnf
                  have hjU : numS v st ex j ∉ U := by simpa using hc
                  have hjK : j = K := by
                    rcases Nat.lt_or_ge j K with h | h
                    · exact absurd (hfr.2.2 j h) hjU
                    · omega
                  exact ⟨(), [(59, 59), (1000, 1000)], ⟨.refl _, .refl _, .refl _, .refl _, .refl _, .refl _, DLe.of_eq (congrArg D.str (by rw [hpk hv01, hjK])), trivial⟩, rfl, rfl, rfl, rfl, rfl, trivial⟩
              · refine Tri.skip ?_
                conv => whnf
                have hv23 : ¬ (v = 0 ∨ v = 1) := by rw [bif_or] at hc; simpa using hc
                exact ⟨(), [(59, 59), (1000, 1000)], ⟨.refl _, .refl _, .refl _, .refl _, .refl _, .refl _, DLe.of_eq (congrArg D.str (by rw [hpn hv23])), trivial⟩, rfl, rfl, rfl, rfl, rfl, trivial⟩
            · rintro ⟨⟩
              refine Tri.seq ?_
              refine Tri.region ti_ok ?_
              conv => whnf
              refine ⟨trivial, ?_⟩
              conv => whnf
              refine ⟨rfl, rfl, ?_⟩
              conv => whnf
              refine ⟨by show (_ + 1) * 16 ≤ _; omega, by show _ + 1 ≤ _; omega, (fun h => by cases h), fun w => ?_⟩
              conv => whnf
              refine Tri.regionX ti_ok ?_
              conv => whnf
              refine .inl ?_
              conv => whnf
              refine ⟨fun _ => by simp [places]; omega, ?_⟩
              conv => whnf
              refine .inl ?_
              conv => whnf
              refine ⟨.int .i64 (t : Nat), fun _ => by simp [places, hta], ?_⟩
              conv => whnf
              refine .inr (XOp.rowIndex ti_ok 59 rfl rfl rfl rfl rfl rfl rfl (by omega) (by simp [hsU]; omega) ?_)
              conv => whnf
              conv => whnf
              refine .inr (XOp.rowStore ti_ok 59 (i := t) (by rw [Int.toNat_natCast]; rfl) rfl rfl rfl (by simp [hsU]; omega) rfl ?_)
              conv => whnf
              conv => whnf
              refine Tri.region ti_ok ?_
              conv => whnf
              refine .inl ⟨fun _ => by simp only [InR]; omega, ?_⟩
              conv => whnf
              exact ⟨(⟨t + 1, by omega⟩, w), [(59, 59), (1000, 108)], by show _ - (t + 1) < _ - t; omega, ⟨.refl _, .refl _, .refl _, DLe.ownEq (by dsimp only; rw [hus]; simp [strs]; rfl), .refl _, .refl _, trivial⟩, rfl, rfl, congrArg (fun z => some (HObj.row nv z 1 9)) hset, rfl, ownH (by dsimp only; rw [hus]; simp [strs]), trivial⟩
          · refine Tri.exit ?_
            conv => whnf
            have htn : t = kids.length := by simp [places] at hc; omega
            have hrow2 : strs (usedG v (kids.take t)).reverse ++ List.replicate (kids.length - t) (D.str []) = strs (namesG v kids) := by
              subst htn; rw [List.take_of_length_le (Nat.le_refl _)]; simp [namesG]
            rw [hrow2]
            refine Tri.forgetK [(9, .raw nv)] [(59, .row nv (strs (namesG v kids)) 1 9)] [(59, 59)] ⟨⟨.refl _, trivial⟩, rfl, rfl, rfl, trivial⟩ ?_
            refine Tri.commitSt 59 9 rfl ?_
            refine Tri.seq ?_
            refine Tri.region ti_ok ?_
            conv => whnf
            refine Tri.ret ?_
            conv => whnf
            exact ⟨.refl _, .refl _, trivial⟩
end Go.Tame.V
/- Contracts: the other way of views: shown. By program (mk.py). -/
namespace Go.Tame.V
open Go Go.Proofs
variable {W0 : World}
set_option maxRecDepth 10000
set_option linter.unusedVariables false
set_option linter.unusedSimpArgs false

theorem shown_alt (v : Int) (n : NV) (l : Int) : shown v n l = (if !viewOk v || hiddenAt n.n6 v then false else if (n.kind == 2 && (v == 0 || v == 1)) then false else ((!(v == 0) || !(n.kind == 0)) || decide (l ≤ 8))) := by
  unfold shown
  split
  · rfl
  · rename_i h
    have hv : viewOk v = true := by cases hh : viewOk v with | true => rfl | false => rw [hh] at h; simp at h
    have hv4 : v = 0 ∨ v = 1 ∨ v = 2 ∨ v = 3 := by simp [viewOk] at hv; omega
    have hl : decide (l ≤ 8) = !decide (8 < l) := by rw [← decide_not]; congr 1; simp
    rw [hl]
    generalize decide (8 < l) = b
    by_cases h2 : n.kind = 2
    · rcases hv4 with rfl | rfl | rfl | rfl <;> cases b <;> simp [h2]
    · by_cases h0 : n.kind = 0
      · rcases hv4 with rfl | rfl | rfl | rfl <;> cases b <;> simp [h0]
      · have e0 : (n.kind == 0) = false := by simpa using h0
        have e2 : (n.kind == 2) = false := by simpa using h2
        rw [e0, e2]
        rcases hv4 with rfl | rfl | rfl | rfl <;> cases b <;> rfl
theorem F73 (v : Int) (n : NV) (l : Int) : DFun Tryz.prog W0 114 [.int .i64 v, encTop n, .int .i64 l] (.bool (shown v n l)) := by
  refine DFun.intro ti_ok Tryz.func114 rfl (by decide +kernel) Tryz.ntmps114 rfl fun Γ => ?_
  refine Tri.seq ?_
  refine Tri.region ti_ok ?_
  conv => whnf
  intro b
  conv => whnf
  refine Tri.seq ?_
  refine Tri.seq ?_
  refine Tri.region ti_ok ?_
  conv => whnf
  refine ⟨[.int .i64 v], _, fun _ => F53 v, ⟨.refl _, trivial⟩, ?_⟩
  conv => whnf
  refine ⟨fun h => h, ?_⟩
  conv => whnf
  refine ⟨rfl, ?_⟩
  conv => whnf
  refine ⟨fun h => h, ?_⟩
  conv => whnf
  refine ⟨fun h => h, ?_⟩
  conv => whnf
  refine ⟨fun h => by unfold viewOk at h; simp at h; omega, ?_⟩
  conv => whnf
  refine ⟨fun h => h, ?_⟩
  conv => whnf
  refine ⟨fun h => h, ?_⟩
  conv => whnf
  refine ⟨fun h0 h => by first | exact h | (rw [h]; rfl) | (rw [h0, h]; rfl), ?_⟩
  conv => whnf
  refine Tri.cond (!viewOk v || hiddenAt n.n6 v) (by simp only [← bif_or]; rfl) (fun hc => ?_) (fun hc => ?_)
  · refine Tri.seq ?_
    refine Tri.region ti_ok ?_
    conv => whnf
    refine Tri.ret ?_
    conv => whnf
    exact DLe.of_eq (congrArg D.bool (by rw [shown_alt, if_pos hc]))
  · refine Tri.skip ?_
    have hc1 := hc
    conv => whnf
    refine Tri.seq ?_
    refine Tri.seq ?_
    refine Tri.region ti_ok ?_
    conv => whnf
    refine ⟨rfl, ?_⟩
    conv => whnf
    refine ⟨fun h => h, ?_⟩
    conv => whnf
    refine ⟨fun h => h, ?_⟩
    conv => whnf
    refine ⟨fun h => h, ?_⟩
    conv => whnf
    refine ⟨fun h => h, ?_⟩
    conv => whnf
    refine ⟨fun h0 h => by first | exact h | (rw [h]; rfl) | (rw [h0, h]; rfl), ?_⟩
    conv => whnf
    refine ⟨fun h0 h => by first | exact h | (rw [h]; rfl) | (rw [h0, h]; rfl), ?_⟩
    conv => whnf
    refine Tri.cond (n.kind == 2 && (v == 0 || v == 1)) (by simp only [← bif_and, ← bif_or]; rfl) (fun hc => ?_) (fun hc => ?_)
    · refine Tri.seq ?_
      refine Tri.region ti_ok ?_
      conv => whnf
      refine Tri.ret ?_
      conv => whnf
      exact DLe.of_eq (congrArg D.bool (by rw [shown_alt, if_neg (by rw [hc1]; simp), if_pos hc]))
    · refine Tri.skip ?_
      conv => whnf
      refine Tri.seq ?_
      refine Tri.region ti_ok ?_
      conv => whnf
      refine ⟨fun h => h, ?_⟩
      conv => whnf
      refine ⟨rfl, ?_⟩
      conv => whnf
      refine ⟨fun h => h, ?_⟩
      conv => whnf
      refine ⟨fun h0 h => by first | exact h | (rw [h]; rfl) | (rw [h0, h]; rfl), ?_⟩
      conv => whnf
      refine ⟨fun h => h, ?_⟩
      conv => whnf
      refine ⟨fun h0 h => by first | exact h | (rw [h]; rfl) | (rw [h0, h]; rfl), ?_⟩
      conv => whnf
      refine Tri.ret ?_
      conv => whnf
      refine DLe.of_eq (congrArg D.bool ?_)
      rw [shown_alt, if_neg (by rw [hc1]; simp), if_neg (by rw [hc]; simp)]
      simp only [← bif_or]
      rfl
end Go.Tame.V
/- Contracts: the other way of views: one node. By program (mk50.py, mk.py). -/
namespace Go.Tame.V
open Go Go.Proofs
variable {W0 : World}
set_option maxRecDepth 10000
set_option linter.unusedVariables false
set_option linter.unusedSimpArgs false

def oneD (v : Int) (n : NV) (m : List UInt8) : D := .agg [.str m, .int .i64 n.kind, .str n.text, .str n.target, .int .i64 (if keeps v then n.n1 else 0), .int .i64 (if keeps v then n.n2 else 0), .int .i64 (if keeps v then n.n3 else 0), .int .i64 n.n4, .int .i64 0, .int .i64 0, .nils, .sl .none 2 ((if v = 3 then n.streams else []).map encS)]
theorem F71 (v : Int) (n : NV) (m : List UInt8) (hs : n.streams.length < 1000000000) : DFun Tryz.prog W0 113 [.int .i64 v, encTop n, .str m] (oneD v n m) := by
  refine DFun.intro ti_ok Tryz.func113 rfl (by decide +kernel) Tryz.ntmps113 rfl fun Γ => ?_
  refine Tri.seq ?_
  refine Tri.region ti_ok ?_
  conv => whnf
  intro b4
  conv => whnf
  intro b6
  conv => whnf
  refine Tri.seq ?_
  refine Tri.region ti_ok ?_
  conv => whnf
  refine ⟨rfl, ?_⟩
  conv => whnf
  refine ⟨rfl, ?_⟩
  conv => whnf
  refine ⟨rfl, ?_⟩
  conv => whnf
  refine ⟨rfl, ?_⟩
  conv => whnf
  intro b7
  conv => whnf
  refine ⟨rfl, ?_⟩
  conv => whnf
  have hx : ∀ x : Int, keeps v = true → (if keeps v then x else 0) = x := fun x h => by rw [if_pos h]
  have hy : ∀ x : Int, keeps v = false → (if keeps v then x else 0) = 0 := fun x h => by rw [if_neg (by rw [h]; simp)]
  have hend : ∀ d : D, DLe d (.sl .none 2 ((if v = 3 then n.streams else []).map encS)) → DLe (.agg [.str m, .int .i64 n.kind, .str n.text, .str n.target, .int .i64 (if keeps v then n.n1 else 0), .int .i64 (if keeps v then n.n2 else 0), .int .i64 (if keeps v then n.n3 else 0), .int .i64 n.n4, .int .i64 0, .int .i64 0, .nils, d]) (oneD v n m) := fun d h =>
    DLe.agg ⟨.refl _, .refl _, .refl _, .refl _, .refl _, .refl _, .refl _, .refl _, .refl _, .refl _, .refl _, h, trivial⟩
  have hx1 := hx n.n1; have hx2 := hx n.n2; have hx3 := hx n.n3; have hy1 := hy n.n1; have hy2 := hy n.n2; have hy3 := hy n.n3
  generalize (if keeps v then n.n1 else 0) = x1 at *
  generalize (if keeps v then n.n2 else 0) = x2 at *
  generalize (if keeps v then n.n3 else 0) = x3 at *
  refine Tri.joinK (α := Unit) (fun x => [(0, .int .i64 v), (4, .box 4 b4 0), (6, .box 6 b6 0), (7, .box 7 b7 0)]) (fun x => [(4, .box b4 (cellsN n)), (6, .box b6 [.str [], .int .i64 0, .str [], .str [], .int .i64 0, .int .i64 0, .int .i64 0, .int .i64 0, .int .i64 0, .int .i64 0, .nils, .nils]), (7, .box b7 [.str m, .int .i64 n.kind, .str n.text, .str n.target, .int .i64 x1, .int .i64 x2, .int .i64 x3, .int .i64 n.n4, .int .i64 0, .int .i64 0, .nils, .nils])]) ?_ ?_
  · refine Tri.seq ?_
    refine Tri.region ti_ok ?_
    conv => whnf
    refine ⟨fun h => h, ?_⟩
    conv => whnf
    refine ⟨fun h0 h => by first | exact h | (rw [h]; rfl) | (rw [h0, h]; rfl), ?_⟩
    conv => whnf
    refine Tri.cond _ rfl (fun hc => ?_) (fun hc => ?_)
    · have hk : keeps v = true := by rw [bif_or] at hc; exact hc
      refine Tri.bits ti_ok mixed (fun f => [(0, .int .i64 v), (4, .box 4 b4 0), (6, .box 6 b6 0), (7, .box 7 b7 0), (24, bif f 0 then .box 4 b4 4 else .any), (25, bif f 1 then .int .i64 n.n1 else .any), (26, bif f 2 then .box 4 b4 5 else .any), (27, bif f 3 then .int .i64 n.n2 else .any), (28, bif f 4 then .box 4 b4 6 else .any), (29, bif f 5 then .int .i64 n.n3 else .any), (30, bif f 6 then .box 7 b7 4 else .any), (31, bif f 8 then .box 7 b7 5 else .any), (32, bif f 10 then .box 7 b7 6 else .any)])
        (fun f => [(4, .box b4 (cellsN n)), (6, .box b6 [.str [], .int .i64 0, .str [], .str [], .int .i64 0, .int .i64 0, .int .i64 0, .int .i64 0, .int .i64 0, .int .i64 0, .nils, .nils]), (7, .box b7 [.str m, .int .i64 n.kind, .str n.text, .str n.target, bif f 7 then .int .i64 n.n1 else .int .i64 0, bif f 9 then .int .i64 n.n2 else .int .i64 0, bif f 11 then .int .i64 n.n3 else .int .i64 0, .int .i64 n.n4, .int .i64 0, .int .i64 0, .nils, .nils])]) (by decide +kernel) ?_ ?_ ?_ ?_
      · exact ⟨.refl _, .refl _, .refl _, .refl _, .any _, .any _, .any _, .any _, .any _, .any _, .any _, .any _, .any _, trivial⟩
      · exact ⟨rfl, rfl, rfl, trivial⟩
      · conv => whnf
        refine ⟨fun f => ?_, ?_⟩
        · conv => whnf
          exact ⟨⟨.refl _, .refl _, .refl _, .refl _, .refl _, .refl _, .refl _, .refl _, .refl _, .refl _, .refl _, .refl _, .refl _, trivial⟩, rfl, rfl, rfl, trivial⟩
        refine ⟨fun f => ?_, ?_⟩
        · conv => whnf
          refine ⟨rfl, ?_⟩
          conv => whnf
          exact ⟨⟨.refl _, .refl _, .refl _, .refl _, .refl _, .refl _, .refl _, .refl _, .refl _, .refl _, .refl _, .refl _, .refl _, trivial⟩, rfl, rfl, rfl, trivial⟩
        refine ⟨fun f => ?_, ?_⟩
        · conv => whnf
          exact ⟨⟨.refl _, .refl _, .refl _, .refl _, .refl _, .refl _, .refl _, .refl _, .refl _, .refl _, .refl _, .refl _, .refl _, trivial⟩, rfl, rfl, rfl, trivial⟩
        refine ⟨fun f => ?_, ?_⟩
        · conv => whnf
          refine ⟨rfl, ?_⟩
          conv => whnf
          exact ⟨⟨.refl _, .refl _, .refl _, .refl _, .refl _, .refl _, .refl _, .refl _, .refl _, .refl _, .refl _, .refl _, .refl _, trivial⟩, rfl, rfl, rfl, trivial⟩
        refine ⟨fun f => ?_, ?_⟩
        · conv => whnf
          exact ⟨⟨.refl _, .refl _, .refl _, .refl _, .refl _, .refl _, .refl _, .refl _, .refl _, .refl _, .refl _, .refl _, .refl _, trivial⟩, rfl, rfl, rfl, trivial⟩
        refine ⟨fun f => ?_, ?_⟩
        · conv => whnf
          refine ⟨rfl, ?_⟩
          conv => whnf
          exact ⟨⟨.refl _, .refl _, .refl _, .refl _, .refl _, .refl _, .refl _, .refl _, .refl _, .refl _, .refl _, .refl _, .refl _, trivial⟩, rfl, rfl, rfl, trivial⟩
        refine ⟨fun f => ?_, ?_⟩
        · conv => whnf
          exact ⟨⟨.refl _, .refl _, .refl _, .refl _, .refl _, .refl _, .refl _, .refl _, .refl _, .refl _, .refl _, .refl _, .refl _, trivial⟩, rfl, rfl, rfl, trivial⟩
        refine ⟨fun f => ?_, ?_⟩
        · conv => whnf
          refine ⟨rfl, ?_⟩
          conv => whnf
          exact ⟨⟨.refl _, .refl _, .refl _, .refl _, .refl _, .refl _, .refl _, .refl _, .refl _, .refl _, .refl _, .refl _, .refl _, trivial⟩, rfl, rfl, rfl, trivial⟩
        refine ⟨fun f => ?_, ?_⟩
        · conv => whnf
          exact ⟨⟨.refl _, .refl _, .refl _, .refl _, .refl _, .refl _, .refl _, .refl _, .refl _, .refl _, .refl _, .refl _, .refl _, trivial⟩, rfl, rfl, rfl, trivial⟩
        refine ⟨fun f => ?_, ?_⟩
        · conv => whnf
          refine ⟨rfl, ?_⟩
          conv => whnf
          exact ⟨⟨.refl _, .refl _, .refl _, .refl _, .refl _, .refl _, .refl _, .refl _, .refl _, .refl _, .refl _, .refl _, .refl _, trivial⟩, rfl, rfl, rfl, trivial⟩
        refine ⟨fun f => ?_, ?_⟩
        · conv => whnf
          exact ⟨⟨.refl _, .refl _, .refl _, .refl _, .refl _, .refl _, .refl _, .refl _, .refl _, .refl _, .refl _, .refl _, .refl _, trivial⟩, rfl, rfl, rfl, trivial⟩
        refine ⟨fun f => ?_, ?_⟩
        · conv => whnf
          refine ⟨rfl, ?_⟩
          conv => whnf
          exact ⟨⟨.refl _, .refl _, .refl _, .refl _, .refl _, .refl _, .refl _, .refl _, .refl _, .refl _, .refl _, .refl _, .refl _, trivial⟩, rfl, rfl, rfl, trivial⟩
        exact trivial
      · intro f hf
        have e7 := hf 7 (by decide +kernel)
        have e9 := hf 9 (by decide +kernel)
        have e11 := hf 11 (by decide +kernel)
        refine ⟨(), [(4, 4), (6, 6), (7, 7)], ⟨.refl _, .refl _, .refl _, .refl _, trivial⟩, rfl, rfl, rfl, rfl, rfl, rfl, ?_, trivial⟩
        show some (HObj.box b7 _) = some (HObj.box b7 _)
        rw [e7, e9, e11, hx1 hk, hx2 hk, hx3 hk]
        rfl
    · refine Tri.skip ?_
      conv => whnf
      have hk : keeps v = false := by rw [bif_or] at hc; exact hc
      rw [hy1 hk, hy2 hk, hy3 hk]
      exact ⟨(), [(4, 4), (6, 6), (7, 7)], ⟨.refl _, .refl _, .refl _, .refl _, trivial⟩, rfl, rfl, rfl, rfl, rfl, rfl, rfl, trivial⟩
  · rintro ⟨⟩
    refine Tri.seq ?_
    refine Tri.seq ?_
    refine Tri.region ti_ok ?_
    conv => whnf
    refine Tri.cond _ rfl (fun hc => ?_) (fun hc => ?_)
    · refine Tri.region ti_ok ?_
      conv => whnf
      refine ⟨trivial, ?_⟩
      conv => whnf
      refine ⟨rfl, ?_⟩
      conv => whnf
      refine ⟨by show (_ + _) * _ ≤ _; simp; omega, by show _ + _ ≤ _; simp; omega, (fun h => by cases h), fun w => ?_⟩
      conv => whnf
      refine ⟨rfl, ?_⟩
      conv => whnf
      refine Tri.seq ?_
      refine Tri.region ti_ok ?_
      conv => whnf
      refine ⟨rfl, ?_⟩
      conv => whnf
      refine ⟨rfl, ?_⟩
      conv => whnf
      refine Tri.ret ?_
      conv => whnf
      have h3 : v = 3 := by simpa using hc
      refine ⟨rfl, ?_⟩
      conv => whnf
      refine hend _ ?_
      rw [if_pos h3]; exact DLe.unown
    · refine Tri.skip ?_
      conv => whnf
      refine Tri.seq ?_
      refine Tri.region ti_ok ?_
      conv => whnf
      refine ⟨rfl, ?_⟩
      conv => whnf
      refine ⟨rfl, ?_⟩
      conv => whnf
      refine Tri.ret ?_
      conv => whnf
      have h3 : ¬ v = 3 := by simpa using hc
      refine ⟨rfl, ?_⟩
      conv => whnf
      refine hend _ ?_
      rw [if_neg h3]; exact DLe.nil
end Go.Tame.V
/- Insertion, in the order of names. Plain. -/
namespace Go.Tame.V
open Go Go.Proofs
set_option maxRecDepth 10000
set_option linter.unusedVariables false
set_option linter.unusedSimpArgs false
variable {α : Type} (key : α → List UInt8)

/-- Where x goes among the first p of out, looked for from behind. -/
def posN (out : List α) (x : α) : Nat → Nat
  | 0 => 0
  | p + 1 => match out[p]? with
    | some y => if Op.bytesLess (key x) (key y) then posN out x p else p + 1
    | none => posN out x p
def insS (out : List α) (x : α) : List α := out.take (posN key out x out.length) ++ x :: out.drop (posN key out x out.length)
def isort (l : List α) : List α := l.foldl (insS key) []
theorem posN_le (out : List α) (x : α) : ∀ p, posN key out x p ≤ p
  | 0 => Nat.le_refl _
  | p + 1 => by
    have := posN_le out x p
    simp only [posN]
    split
    · split <;> omega
    · omega
def LeK (a b : α) : Prop := Op.bytesLess (key b) (key a) = false
theorem le_tr {a b c : List UInt8} (h1 : Op.bytesLess b a = false) (h2 : Op.bytesLess c b = false) : Op.bytesLess c a = false := by
  cases h : Op.bytesLess c a with
  | false => rfl
  | true =>
    cases h3 : Op.bytesLess a b with
    | false => rw [bl_total _ _ h3 h1] at h; rw [h] at h2; cases h2
    | true => rw [bl_trans _ _ _ h h3] at h2; cases h2
theorem posN_spec {out : List α} {x : α} (hs : out.Pairwise (LeK key)) :
    ∀ p, (hp : p ≤ out.length) → (∀ j, j < posN key out x p → (hj : j < out.length) → LeK key out[j] x) ∧ ∀ j, posN key out x p ≤ j → (hj : j < p) → LeK key x (out[j]'(by omega))
  | 0, _ => ⟨fun j h hj => by simp [posN] at h, fun j h hj => by omega⟩
  | p + 1, hp => by
    have ih := posN_spec (x := x) hs p (by omega)
    have hget : out[p]? = some (out[p]'(by omega)) := List.getElem?_eq_getElem (by omega)
    by_cases hb : Op.bytesLess (key x) (key (out[p]'(by omega))) = true
    · have e : posN key out x (p + 1) = posN key out x p := by simp only [posN, hget, hb, if_true]
      refine ⟨fun j hj hl => ih.1 j (by omega) hl, fun j h1 h2 => ?_⟩
      by_cases hj : j < p
      · exact ih.2 j (by omega) hj
      · have : j = p := by omega
        subst this
        exact bl_asymm hb
    · have e : posN key out x (p + 1) = p + 1 := by simp only [posN, hget]; rw [if_neg hb]
      refine ⟨fun j hj hl => ?_, fun j h1 h2 => by omega⟩
      have hpx : LeK key (out[p]'(by omega)) x := by simpa [LeK] using hb
      by_cases hj' : j < p
      · have := List.pairwise_iff_getElem.1 hs j p (by omega) (by omega) hj'
        exact le_tr this hpx
      · have : j = p := by omega
        subst this; exact hpx
theorem insS_perm (out : List α) (x : α) : (insS key out x).Perm (x :: out) := by
  unfold insS
  have h := List.perm_middle (a := x) (l₁ := out.take (posN key out x out.length)) (l₂ := out.drop (posN key out x out.length))
  rwa [List.take_append_drop] at h
theorem insS_sorted {out : List α} {x : α} (hs : out.Pairwise (LeK key)) : (insS key out x).Pairwise (LeK key) := by
  obtain ⟨h1, h2⟩ := posN_spec key (x := x) hs out.length (Nat.le_refl _)
  have hle := posN_le key out x out.length
  unfold insS
  generalize posN key out x out.length = p at *
  have ha : ∀ a ∈ out.take p, LeK key a x := fun a ha => by
    obtain ⟨j, hj, rfl⟩ := List.mem_iff_getElem.1 ha
    rw [List.getElem_take]
    exact h1 j (by simp at hj; omega) (by simp at hj; omega)
  have hb : ∀ b ∈ out.drop p, LeK key x b := fun b hb => by
    obtain ⟨j, hj, rfl⟩ := List.mem_iff_getElem.1 hb
    rw [List.getElem_drop]
    exact h2 (p + j) (by omega) (by simp at hj; omega)
  have hs' := hs
  rw [← List.take_append_drop p out, List.pairwise_append] at hs'
  rw [List.pairwise_append, List.pairwise_cons]
  refine ⟨hs'.1, ⟨hb, hs'.2.1⟩, fun a h b h' => ?_⟩
  rcases List.mem_cons.1 h' with rfl | h'
  · exact ha a h
  · exact hs'.2.2 a h b h'
theorem isort_snoc (l : List α) (x : α) : isort key (l ++ [x]) = insS key (isort key l) x := by simp [isort]
theorem isort_spec (l : List α) : (isort key l).Perm l ∧ (isort key l).Pairwise (LeK key) := by
  refine snoc_rec (p := fun l => (isort key l).Perm l ∧ (isort key l).Pairwise (LeK key)) ⟨.refl _, List.Pairwise.nil⟩ (fun l x ih => ?_) l
  rw [isort_snoc]
  refine ⟨(insS_perm key _ x).trans ?_, insS_sorted key ih.2⟩
  exact (List.Perm.cons x ih.1).trans (List.perm_append_comm (l₁ := [x]) (l₂ := l))
theorem isort_len (l : List α) : (isort key l).length = l.length := by
  refine snoc_rec (p := fun l => (isort key l).length = l.length) rfl (fun l x ih => ?_) l
  rw [isort_snoc, (insS_perm key _ x).length_eq]; simp [ih]
end Go.Tame.V
/- The sorted tree. Plain. -/
namespace Go.Tame.V
open Go Go.Proofs
set_option maxRecDepth 10000
set_option linter.unusedVariables false

mutual
def srtT : NV → NV
  | .mk a b c t e f g h i j ks ss => .mk a b c t e f g h i j (isort NV.name (srtTL ks)) (isort SV.name ss)
def srtTL : List NV → List NV
  | [] => []
  | k :: r => srtT k :: srtTL r
end
theorem srtTL_map : ∀ l : List NV, srtTL l = l.map srtT
  | [] => rfl
  | k :: r => by simp only [srtTL, List.map_cons, srtTL_map r]
theorem srtT_eq (n : NV) : srtT n = ⟨n.name, n.kind, n.text, n.target, n.n1, n.n2, n.n3, n.n4, n.n5, n.n6, isort NV.name (n.kids.map srtT), isort SV.name n.streams⟩ := by
  cases n; simp only [srtT, srtTL_map]
theorem srtT_named (n : NV) (m : List UInt8) : srtT (n.named m) = (srtT n).named m := by simp only [srtT_eq, NV.named]

theorem isort_id {α : Type} (key : α → List UInt8) (l : List α) : l.Pairwise (fun a b => Op.bytesLess (key a) (key b) = true) → isort key l = l := by
  refine snoc_rec (p := fun l => l.Pairwise (fun a b => Op.bytesLess (key a) (key b) = true) → isort key l = l) (fun _ => rfl) (fun l x ih h => ?_) l
  rw [List.pairwise_append] at h
  rw [isort_snoc, ih h.1]
  have hp : posN key l x l.length = l.length := by
    cases hl : l.length with
    | zero => rfl
    | succ p =>
      have hg : l[p]? = some (l[p]'(by omega)) := List.getElem?_eq_getElem (by omega)
      simp only [posN, hg]
      rw [if_neg]
      have := h.2.2 _ (List.getElem_mem (by omega : p < l.length)) x (by simp)
      rw [bl_asymm this]; simp
  rw [insS, hp]; simp

theorem isort_sortN {l : List NV} (h : (l.map NV.name).Nodup) : isort NV.name l = sortN l :=
  sorted_nodes (sortN_inc h) ((isort_spec NV.name l).1.trans (sortN_perm l).symm) fun i j hi hj hij => List.pairwise_iff_getElem.1 (isort_spec NV.name l).2 i j hi hj hij

mutual
/-- The streams of all nodes rise. -/
def okS : NV → Prop
  | .mk _ _ _ _ _ _ _ _ _ _ ks ss => ss.Pairwise (fun a b => Op.bytesLess a.name b.name = true) ∧ okSL ks
def okSL : List NV → Prop
  | [] => True
  | k :: r => okS k ∧ okSL r
end
theorem okS_eq (n : NV) : okS n ↔ n.streams.Pairwise (fun a b => Op.bytesLess a.name b.name = true) ∧ okSL n.kids := by cases n; simp only [okS]
theorem okSL_get : ∀ {l : List NV} (_ : okSL l) {k : NV} (_ : k ∈ l), okS k
  | x :: r, h, k, hk => by
    simp only [okSL] at h
    rcases List.mem_cons.1 hk with rfl | hk
    · exact h.1
    · exact okSL_get h.2 hk

def NamesNd (nm : List NV → List (List UInt8)) : Prop := ∀ ks : List NV, ks.length ≤ 64 → inc ks → (∀ k ∈ ks, nameOk k.name = true ∧ k.name.length < 1000000000) → (nm ks).Nodup

theorem showGL_nd (nm : List NV → List (List UInt8)) (v : Int) (hn : NamesNd nm) {ks : List NV} (d : Int) (h64 : ks.length ≤ 64) (hinc : inc ks) (hok : okL ks) : ((showGL nm v d ks (nm ks)).map NV.name).Nodup :=
  (showGL_names nm v d ks (nm ks)).nodup (hn ks h64 hinc fun k hk => (okL_get hok hk).1)
mutual
theorem srtT_show (nm : List NV → List (List UInt8)) (v : Int) (hn : NamesNd nm) : ∀ (n : NV) (d : Int), okT n → okS n → srtT (showG nm v d n) = showG nm v d n
  | .mk a b c t e f g h i j ks ss, d, h1, h2 => by
    simp only [okT] at h1
    simp only [okS] at h2
    have ih := srtTL_show nm v hn ks (nm ks) (d + 1) h1.2.2.2 h2.2
    have hnd := showGL_nd nm v hn (d + 1) h1.1 h1.2.2.1 h1.2.2.2
    have hs := sortN_perm (showGL nm v (d + 1) ks (nm ks))
    have e1 : (sortN (showGL nm v (d + 1) ks (nm ks))).map srtT = sortN (showGL nm v (d + 1) ks (nm ks)) :=
      (List.map_congr_left fun x hx => ih x (hs.subset hx)).trans (List.map_id' _)
    have e2 : isort SV.name (if v = 3 then ss else []) = if v = 3 then ss else [] := by
      split
      · exact isort_id _ _ h2.1
      · rfl
    simp only [showG, srtT, srtTL_map]
    rw [e1, isort_id NV.name _ (List.pairwise_iff_getElem.2 fun i j hi hj hij => inc_get (sortN_inc hnd) hij hj), e2]
theorem srtTL_show (nm : List NV → List (List UInt8)) (v : Int) (hn : NamesNd nm) : ∀ (l : List NV) (ms : List (List UInt8)) (d : Int), okL l → okSL l → ∀ x ∈ showGL nm v d l ms, srtT x = x
  | [], ms, d, _, _ => by simp [showGL]
  | k :: r, [], d, _, _ => by simp [showGL]
  | k :: r, m :: ms, d, h1, h2 => by
    simp only [okL] at h1
    simp only [okSL] at h2
    intro x hx
    have ih := srtTL_show nm v hn r ms d h1.2 h2.2
    simp only [showGL] at hx
    split at hx
    · rcases List.mem_cons.1 hx with rfl | hx
      · rw [srtT_named, srtT_show nm v hn k d h1.1.2 h2.1]
      · exact ih x hx
    · exact ih x hx
end
/-- The node that is built, sorted. -/
theorem srtT_out (nm : List NV → List (List UInt8)) (v : Int) (hn : NamesNd nm) (n : NV) (d : Int) (m : List UInt8) (h1 : okT n) (h2 : okS n) :
    srtT ⟨m, n.kind, n.text, n.target, if keeps v then n.n1 else 0, if keeps v then n.n2 else 0, if keeps v then n.n3 else 0, n.n4, 0, 0, showGL nm v (d + 1) n.kids (nm n.kids), if v = 3 then n.streams else []⟩ = (showG nm v d n).named m := by
  obtain ⟨h64, hsn, hinc, hokl⟩ := (okT_eq n).1 h1
  obtain ⟨hs1, hs2⟩ := (okS_eq n).1 h2
  have hnd := showGL_nd nm v hn (d + 1) h64 hinc hokl
  have ih := srtTL_show nm v hn n.kids (nm n.kids) (d + 1) hokl hs2
  have e1 : (showGL nm v (d + 1) n.kids (nm n.kids)).map srtT = showGL nm v (d + 1) n.kids (nm n.kids) :=
    (List.map_congr_left fun x hx => ih x hx).trans (List.map_id' _)
  have e2 : isort SV.name (if v = 3 then n.streams else []) = if v = 3 then n.streams else [] := by
    split
    · exact isort_id _ _ hs1
    · rfl
  rw [srtT_eq, showG_eq]
  simp only [NV.named]
  rw [e1, isort_sortN hnd, e2]

mutual
theorem good_okS : ∀ (n : NV) (l : Int), goodB n l = true → okS n
  | .mk a b c d e f g h i j ks ss, l, hg => by
    obtain ⟨h1, h2⟩ := goodB_good hg
    simp only [okS]
    have hs : ∀ i, i + 1 < ss.length → Op.bytesLess (ss.getD i default).name (ss.getD (i + 1) default).name = true := fun i hi => by
      have h3 := (h1.streams (i + 1) (by simpa using hi)).2
      simp only [fS, stAt, Nat.add_sub_cancel, ordE] at h3
      rw [if_pos (Nat.succ_pos i)] at h3
      split at h3
      · by_cases h4 : (ss.getD i default).name = (ss.getD (i + 1) default).name
        · rw [if_pos h4] at h3; cases h3
        · rw [if_neg h4] at h3
          by_cases h5 : Op.bytesLess (ss.getD (i + 1) default).name (ss.getD i default).name = true
          · rw [if_pos h5] at h3; cases h3
          · cases h6 : Op.bytesLess (ss.getD i default).name (ss.getD (i + 1) default).name with
            | true => rfl
            | false => exact absurd (bl_total _ _ h6 (by simpa using h5)) h4
      · cases h3
    have hlt : ∀ (j i : Nat), i < j → j < ss.length → Op.bytesLess (ss.getD i default).name (ss.getD j default).name = true := by
      intro j
      induction j with
      | zero => intro i h; omega
      | succ j ih =>
        intro i hij hj
        by_cases e : i = j
        · subst e; exact hs i hj
        · exact bl_trans _ _ _ (ih i (by omega) (by omega)) (hs j hj)
    refine ⟨List.pairwise_iff_getElem.2 fun i j hi hj hij => ?_, good_okSL ks (l + 1) h2⟩
    have := hlt j i hij hj
    simpa [List.getD, hi, hj] using this
theorem good_okSL : ∀ (ks : List NV) (l : Int), goodL ks l = true → okSL ks
  | [], l, hg => trivial
  | k :: r, l, hg => by
    simp only [goodL, Bool.and_eq_true] at hg
    simp only [okSL]
    exact ⟨good_okS k l hg.1, good_okSL r l hg.2⟩
end
theorem valid_okS {n : NV} (h : valid n = true) : okS n := by
  rw [valid_good, Bool.and_eq_true] at h
  exact good_okS n 1 h.2
end Go.Tame.V
/- Contracts: the other way of trees: Sort. By program (mk53.py, mk.py). -/
namespace Go.Tame.V
open Go Go.Proofs
variable {W0 : World}
set_option maxRecDepth 10000
set_option linter.unusedVariables false
set_option linter.unusedSimpArgs false

mutual
/-- Few kids, and few streams, everywhere. -/
def okZ : NV → Prop
  | .mk _ _ _ _ _ _ _ _ _ _ ks ss => ks.length ≤ 64 ∧ ss.length < 1000000000 ∧ okZL ks
def okZL : List NV → Prop
  | [] => True
  | k :: r => okZ k ∧ okZL r
end
theorem okZ_eq (n : NV) : okZ n ↔ n.kids.length ≤ 64 ∧ n.streams.length < 1000000000 ∧ okZL n.kids := by cases n; simp only [okZ]
theorem okZL_mem : ∀ {l : List NV}, okZL l ↔ ∀ k ∈ l, okZ k
  | [] => by simp [okZL]
  | x :: r => by simp only [okZL, okZL_mem (l := r), List.forall_mem_cons]
theorem posN_first {α : Type} {key : α → List UInt8} {out : List α} {x : α} {p : Nat} (h : p < out.length) (hb : Op.bytesLess (key x) (key out[p]) = true) : posN key out x (p + 1) = posN key out x p := by
  simp only [posN, List.getElem?_eq_getElem h, hb, if_true]
theorem posN_stop {α : Type} {key : α → List UInt8} {out : List α} {x : α} {p : Nat} (h : p < out.length) (hb : Op.bytesLess (key x) (key out[p]) = false) : posN key out x (p + 1) = p + 1 := by
  simp only [posN, List.getElem?_eq_getElem h]; rw [if_neg (by rw [hb]; simp)]
theorem insS_split {α : Type} {key : α → List UInt8} {out : List α} {x : α} {p : Nat} (h : posN key out x out.length = p) : insS key out x = out.take p ++ x :: out.drop p := by subst h; rfl
theorem isort_take {α β : Type} {key : α → List UInt8} {f : β → α} {l : List β} {i : Nat} (h : i < l.length) : isort key ((l.take (i + 1)).map f) = insS key (isort key ((l.take i).map f)) (f l[i]) := by
  rw [List.take_succ_eq_append_getElem h, List.map_append, List.map_cons, List.map_nil, isort_snoc]

theorem F74 : ∀ (N : Nat) (n : NV), sz n < N → okZ n → DFun Tryz.prog W0 115 [encTop n] (encTop (srtT n)) := by
  refine fun N => Nat.rec (fun n h => absurd h (Nat.not_lt_zero _)) (fun N ih n hN hok => ?_) N
  obtain ⟨h64, hsn, hokl⟩ := (okZ_eq n).1 hok
  rw [okZL_mem] at hokl
  refine DFun.intro ti_ok Tryz.func115 rfl (by decide +kernel) Tryz.ntmps115 rfl fun Γ => ?_
  refine Tri.seq ?_
  refine Tri.region ti_ok ?_
  conv => whnf
  intro b1
  conv => whnf
  intro b2
  conv => whnf
  refine Tri.seq ?_
  refine Tri.region ti_ok ?_
  conv => whnf
  refine ⟨trivial, ?_⟩
  conv => whnf
  refine Tri.seq ?_
  refine Tri.seq ?_
  refine Tri.region ti_ok ?_
  conv => whnf
  refine Tri.block ?_
  refine Tri.loopK (α := { i : Nat // i ≤ n.kids.length }) (fun y => [(1, .box 1 b1 0), (2, .box 2 b2 0), (3, .sl .none 12 ((isort NV.name ((n.kids.take y.1).map srtT)).map encTop)), (4, .int .i64 y.1)]) (fun _ => [(1, .box b1 (cellsN n)), (2, .box b2 [.str [], .int .i64 0, .str [], .str [], .int .i64 0, .int .i64 0, .int .i64 0, .int .i64 0, .int .i64 0, .int .i64 0, .nils, .nils])]) (fun y => n.kids.length - y.1) ⟨0, Nat.zero_le _⟩ [(1, 1), (2, 2)]
    ⟨⟨.refl _, .refl _, DLe.full, .refl _, trivial⟩, rfl, rfl, rfl, rfl, rfl, trivial⟩ ?_
  rintro ⟨i, hi⟩
  dsimp only at hi ⊢
  refine Tri.seq ?_
  refine Tri.seq ?_
  refine Tri.region ti_ok ?_
  conv => whnf
  refine ⟨rfl, ?_⟩
  conv => whnf
  refine Tri.cond _ rfl (fun hc => ?_) (fun hc => ?_)
  · refine Tri.skip ?_
    conv => whnf
    have hia : i < n.kids.length := by simpa using hc
    have hkz := kid_sz hia
    have hOl : (isort NV.name ((n.kids.take i).map srtT)).length = i := by rw [isort_len]; simp; omega
    have hst := isort_take (key := NV.name) (f := srtT) hia
    generalize hOO : isort NV.name ((n.kids.take i).map srtT) = O at *
    refine Tri.seq ?_
    refine Tri.block ?_
    refine Tri.seq ?_
    refine Tri.region ti_ok ?_
    conv => whnf
    refine ⟨rfl, ?_⟩
    conv => whnf
    refine ⟨fun _ => by simp; omega, ?_⟩
    conv => whnf
    refine ⟨encTop n.kids[i], fun _ => get_kids hia, ?_⟩
    conv => whnf
    refine ⟨[encTop n.kids[i]], _, fun _ => ih n.kids[i] (by omega) (hokl _ (List.getElem_mem hia)), ⟨.refl _, trivial⟩, ?_⟩
    conv => whnf
    generalize hxx : srtT n.kids[i] = x at *
    intro b5
    conv => whnf
    refine ⟨rfl, ?_⟩
    conv => whnf
    refine Tri.seq ?_
    refine Tri.region ti_ok ?_
    conv => whnf
    refine Tri.seq ?_
    refine Tri.block ?_
    refine Tri.loopK (α := { p : Nat // p ≤ i ∧ posN NV.name O x O.length = posN NV.name O x p }) (fun y => [(1, .box 1 b1 0), (2, .box 2 b2 0), (3, .sl .none 12 (O.map encTop)), (4, .int .i64 i), (5, .box 5 b5 0), (6, .int .i64 y.1)]) (fun _ => [(1, .box b1 (cellsN n)), (2, .box b2 [.str [], .int .i64 0, .str [], .str [], .int .i64 0, .int .i64 0, .int .i64 0, .int .i64 0, .int .i64 0, .int .i64 0, .nils, .nils]), (5, .box b5 (cellsN x))]) (fun y => y.1) ⟨i, Nat.le_refl _, by rw [hOl]⟩ [(1, 1), (2, 2), (5, 5)]
      ⟨⟨.refl _, .refl _, .refl _, .refl _, .refl _, DLe.of_eq (congrArg (D.int .i64) (by simp [hOl])), trivial⟩, rfl, rfl, rfl, rfl, rfl, rfl, rfl, trivial⟩ ?_
    rintro ⟨p, hp, hpos⟩
    dsimp only at hp hpos ⊢
    have hgo : ∀ j, (h : j < O.length) → (O.map encTop)[j]? = some (encTop O[j]) := fun j h => by simp [h]
    refine Tri.seq ?_
    refine Tri.seq ?_
    refine Tri.draw ti_ok mixed (by kernel_rfl) ?_
    conv => whnf
    refine ⟨fun h => h, ?_⟩
    conv => whnf
    refine .inl ⟨fun h => by simp only [InR]; omega, ?_⟩
    conv => whnf
    refine ⟨fun h => h, ?_⟩
    conv => whnf
    refine ⟨fun h => h, ?_⟩
    conv => whnf
    refine ⟨fun h => by simp at h; simp; omega, ?_⟩
    conv => whnf
    refine ⟨fun h => h, ?_⟩
    conv => whnf
    refine ⟨fun h => h, ?_⟩
    conv => whnf
    refine ⟨encTop (O.getD (p - 1) default), fun h => by
      have h0 : 0 < p := by simpa using h
      rw [pred_toNat h0, hgo (p - 1) (by omega)]; simp [List.getD, show p - 1 < O.length by omega], ?_⟩
    conv => whnf
    refine ⟨fun h => h, ?_⟩
    conv => whnf
    refine ⟨rfl, ?_⟩
    conv => whnf
    refine ⟨fun h => h, ?_⟩
    conv => whnf
    refine ⟨fun h => h, ?_⟩
    conv => whnf
    refine ⟨fun h0 h => by first | exact h | (rw [h]; rfl) | (rw [h0, h]; rfl), ?_⟩
    conv => whnf
    refine Tri.cond _ rfl (fun hc => ?_) (fun hc => ?_)
    · have h0 : 0 < p := by
        cases h0 : decide ((0 : Int) < p) with
        | false => rw [h0] at hc; cases hc
        | true => simpa using h0
      have hb : Op.bytesLess x.name (O[p - 1]'(by omega)).name = true := by
        have h1 : decide ((0 : Int) < p) = true := by simpa using h0
        rw [h1] at hc
        have e : O.getD (p - 1) default = O[p - 1]'(by omega) := by simp [List.getD, show p - 1 < O.length by omega]
        rw [e] at hc
        have hc2 : (!(Op.bytesLess (O[p - 1]'(by omega)).name x.name || (O[p - 1]'(by omega)).name == x.name)) = true := hc
        simp only [Bool.not_eq_true', Bool.or_eq_false_iff, beq_eq_false_iff_ne] at hc2
        cases h3 : Op.bytesLess x.name (O[p - 1]'(by omega)).name with
        | true => rfl
        | false => exact absurd (bl_total _ _ hc2.1 h3) hc2.2
      refine Tri.skip ?_
      conv => whnf
      refine Tri.block ?_
      refine Tri.region ti_ok ?_
      conv => whnf
      refine .inl ⟨fun _ => by simp only [InR]; omega, ?_⟩
      conv => whnf
      exact ⟨⟨p - 1, by omega, by
        have := posN_first (key := NV.name) (x := x) (p := p - 1) (by omega) hb
        rw [show p - 1 + 1 = p by omega] at this
        rw [hpos, this]⟩, [(1, 1), (2, 2), (5, 5)], by show p - 1 < p; omega, ⟨.refl _, .refl _, .refl _, .refl _, .refl _, DLe.of_eq (congrArg (D.int .i64) (by show (p : Int) - 1 = ((p - 1 : Nat) : Int); omega)), trivial⟩, rfl, rfl, rfl, rfl, rfl, rfl, rfl, trivial⟩
    · refine Tri.exit ?_
      conv => whnf
      have hps : posN NV.name O x O.length = p := by
        rw [hpos]
        cases p with
        | zero => rfl
        | succ p =>
          have hpl : p < O.length := by omega
          have h1 : decide ((0 : Int) < (p + 1 : Nat)) = true := by simp
          rw [h1] at hc
          have e : O.getD (p + 1 - 1) default = O[p] := by simp [List.getD, hpl]
          rw [e] at hc
          have hc2 : (!(Op.bytesLess O[p].name x.name || O[p].name == x.name)) = false := hc
          refine posN_stop hpl ?_
          cases h3 : Op.bytesLess x.name O[p].name with
          | false => rfl
          | true => rw [bl_asymm h3, beq_eq_false_iff_ne.2 (bl_ne h3).symm] at hc2; simp at hc2
      have hins := insS_split hps
      have hT : (List.take ((p : Nat) : Int).toNat (O.map encTop)).drop (Int.toNat 0) = (O.take p).map encTop := by simp
      have hD : (List.take (((O.map encTop).length : Nat) : Int).toNat (O.map encTop)).drop ((p : Nat) : Int).toNat = (O.drop p).map encTop := by rw [List.take_of_length_le (by simp)]; simp
      have hN : ∀ w : Value, DLe (.sl (.own 51 w) 12 ((O.take p).map encTop ++ ([encTop x] ++ (O.drop p).map encTop))) (.sl .none 12 ((insS NV.name O x).map encTop)) := fun w => by
        rw [hins]; simp only [List.map_append, List.map_cons, List.singleton_append]; exact DLe.unown
      refine Tri.bitsI ti_ok mixed (α := Unit) (fun _ f => [(1, .box 1 b1 0), (2, .box 2 b2 0), (4, .int .i64 i), (5, .box 5 b5 0), (6, .int .i64 p), (3, bif f 11 then .sl .none 12 ((insS NV.name O x).map encTop) else .sl .none 12 (O.map encTop)), (41, bif f 0 then .sl .none 12 (O.map encTop) else .any), (42, bif f 1 then .int .i64 p else .any), (43, bif f 2 then .int .i64 p else .any), (44, bif f 3 then .sl .full 12 ((O.take p).map encTop) else .any), (45, bif f 4 then encTop x else .any), (46, bif f 5 then .sl .full 12 [encTop x] else .any), (47, bif f 6 then .sl .none 12 (O.map encTop) else .any), (48, bif f 7 then .int .i64 p else .any), (49, bif f 8 then .sl .none 12 ((O.drop p).map encTop) else .any), (50, bif f 9 then .sl .none 12 ([encTop x] ++ (O.drop p).map encTop) else .any), (51, bif f 10 then .sl .none 12 ((insS NV.name O x).map encTop) else .any)])
        (fun _ f => [(1, .box b1 (cellsN n)), (2, .box b2 [.str [], .int .i64 0, .str [], .str [], .int .i64 0, .int .i64 0, .int .i64 0, .int .i64 0, .int .i64 0, .int .i64 0, .nils, .nils]), (5, .box b5 (cellsN x))]) (by decide +kernel) () ?_ ?_ ?_ ?_
      · exact ⟨.refl _, .refl _, .refl _, .refl _, .refl _, .refl _, .any _, .any _, .any _, .any _, .any _, .any _, .any _, .any _, .any _, .any _, .any _, trivial⟩
      · exact ⟨rfl, rfl, rfl, trivial⟩
      · conv => whnf
        refine ⟨fun _ f hI => ?_, ?_⟩
        · obtain ⟨f, rfl⟩ := off f 11 (hI.no 11 0 rfl rfl)
          conv => whnf
          exact ⟨(), ⟨.refl _, .refl _, .refl _, .refl _, .refl _, .refl _, .refl _, .refl _, .refl _, .refl _, .refl _, .refl _, .refl _, .refl _, .refl _, .refl _, .refl _, trivial⟩, rfl, rfl, rfl, trivial⟩
        refine ⟨fun _ f hI => ?_, ?_⟩
        · obtain ⟨f, rfl⟩ := off f 11 (hI.no 11 1 rfl rfl)
          conv => whnf
          exact ⟨(), ⟨.refl _, .refl _, .refl _, .refl _, .refl _, .refl _, .refl _, .refl _, .refl _, .refl _, .refl _, .refl _, .refl _, .refl _, .refl _, .refl _, .refl _, trivial⟩, rfl, rfl, rfl, trivial⟩
        refine ⟨fun _ f hI => ?_, ?_⟩
        · obtain ⟨f, rfl⟩ := off f 11 (hI.no 11 2 rfl rfl)
          conv => whnf
          exact ⟨(), ⟨.refl _, .refl _, .refl _, .refl _, .refl _, .refl _, .refl _, .refl _, .refl _, .refl _, .refl _, .refl _, .refl _, .refl _, .refl _, .refl _, .refl _, trivial⟩, rfl, rfl, rfl, trivial⟩
        refine ⟨fun _ f hI => ?_, ?_⟩
        · obtain ⟨f, rfl⟩ := off f 11 (hI.no 11 3 rfl rfl)
          conv => whnf
          refine .inl ?_
          conv => whnf
          refine ⟨fun _ => ⟨rfl, by omega, by omega, by simp; omega⟩, ?_⟩
          conv => whnf
          exact ⟨(), ⟨.refl _, .refl _, .refl _, .refl _, .refl _, .refl _, .refl _, .refl _, .refl _, DLe.of_eq (congrArg (D.sl .full _) hT), .refl _, .refl _, .refl _, .refl _, .refl _, .refl _, .refl _, trivial⟩, rfl, rfl, rfl, trivial⟩
        refine ⟨fun _ f hI => ?_, ?_⟩
        · obtain ⟨f, rfl⟩ := off f 11 (hI.no 11 4 rfl rfl)
          conv => whnf
          refine .inl ?_
          conv => whnf
          refine ⟨rfl, ?_⟩
          conv => whnf
          exact ⟨(), ⟨.refl _, .refl _, .refl _, .refl _, .refl _, .refl _, .refl _, .refl _, .refl _, .refl _, .refl _, .refl _, .refl _, .refl _, .refl _, .refl _, .refl _, trivial⟩, rfl, rfl, rfl, trivial⟩
        refine ⟨fun _ f hI => ?_, ?_⟩
        · obtain ⟨f, rfl⟩ := off f 11 (hI.no 11 5 rfl rfl)
          conv => whnf
          refine ⟨trivial, ?_⟩
          conv => whnf
          exact ⟨(), ⟨.refl _, .refl _, .refl _, .refl _, .refl _, .refl _, .refl _, .refl _, .refl _, .refl _, .refl _, .refl _, .refl _, .refl _, .refl _, .refl _, .refl _, trivial⟩, rfl, rfl, rfl, trivial⟩
        refine ⟨fun _ f hI => ?_, ?_⟩
        · obtain ⟨f, rfl⟩ := off f 11 (hI.no 11 6 rfl rfl)
          conv => whnf
          exact ⟨(), ⟨.refl _, .refl _, .refl _, .refl _, .refl _, .refl _, .refl _, .refl _, .refl _, .refl _, .refl _, .refl _, .refl _, .refl _, .refl _, .refl _, .refl _, trivial⟩, rfl, rfl, rfl, trivial⟩
        refine ⟨fun _ f hI => ?_, ?_⟩
        · obtain ⟨f, rfl⟩ := off f 11 (hI.no 11 7 rfl rfl)
          conv => whnf
          exact ⟨(), ⟨.refl _, .refl _, .refl _, .refl _, .refl _, .refl _, .refl _, .refl _, .refl _, .refl _, .refl _, .refl _, .refl _, .refl _, .refl _, .refl _, .refl _, trivial⟩, rfl, rfl, rfl, trivial⟩
        refine ⟨fun _ f hI => ?_, ?_⟩
        · obtain ⟨f, rfl⟩ := off f 11 (hI.no 11 8 rfl rfl)
          conv => whnf
          refine .inl ?_
          conv => whnf
          refine ⟨fun _ => by simp; omega, ?_⟩
          conv => whnf
          exact ⟨(), ⟨.refl _, .refl _, .refl _, .refl _, .refl _, .refl _, .refl _, .refl _, .refl _, .refl _, .refl _, .refl _, .refl _, .refl _, DLe.of_eq (congrArg (D.sl .none _) hD), .refl _, .refl _, trivial⟩, rfl, rfl, rfl, trivial⟩
        refine ⟨fun _ f hI => ?_, ?_⟩
        · obtain ⟨f, rfl⟩ := off f 11 (hI.no 11 9 rfl rfl)
          conv => whnf
          refine .inl ?_
          conv => whnf
          refine ⟨by show (_ + _) * _ ≤ _; simp; omega, by show _ + _ ≤ _; simp; omega, (fun h => by cases h), fun w1 => ?_⟩
          exact ⟨(), ⟨.refl _, .refl _, .refl _, .refl _, .refl _, .refl _, .refl _, .refl _, .refl _, .refl _, .refl _, .refl _, .refl _, .refl _, .refl _, DLe.unown, .refl _, trivial⟩, rfl, rfl, rfl, trivial⟩
        refine ⟨fun _ f hI => ?_, ?_⟩
        · obtain ⟨f, rfl⟩ := off f 11 (hI.no 11 10 rfl rfl)
          conv => whnf
          refine .inl ?_
          conv => whnf
          refine ⟨by show (_ + _) * _ ≤ _; simp; omega, by show _ + _ ≤ _; simp; omega, (fun h => by cases h), fun w1 => ?_⟩
          exact ⟨(), ⟨.refl _, .refl _, .refl _, .refl _, .refl _, .refl _, .refl _, .refl _, .refl _, .refl _, .refl _, .refl _, .refl _, .refl _, .refl _, .refl _, hN _, trivial⟩, rfl, rfl, rfl, trivial⟩
        refine ⟨fun _ f hI => ?_, ?_⟩
        · conv => whnf
          exact ⟨(), ⟨.refl _, .refl _, .refl _, .refl _, .refl _, .refl _, .refl _, .refl _, .refl _, .refl _, .refl _, .refl _, .refl _, .refl _, .refl _, .refl _, .refl _, trivial⟩, rfl, rfl, rfl, trivial⟩
        exact trivial
      · intro _ f hf
        obtain ⟨f, rfl⟩ := on f 11 (hf 11 (by decide +kernel))
        conv => whnf
        refine Tri.region ti_ok ?_
        conv => whnf
        refine .inl ⟨fun _ => by simp only [InR]; omega, ?_⟩
        conv => whnf
        exact ⟨⟨i + 1, hia⟩, [(1, 1), (2, 2)], by show n.kids.length - (i + 1) < n.kids.length - i; omega, ⟨.refl _, .refl _, DLe.of_eq (congrArg (D.sl .none 12) (by rw [hst])), .refl _, trivial⟩, rfl, rfl, rfl, rfl, rfl, trivial⟩
  · refine Tri.exit ?_
    conv => whnf
    have hin : i = n.kids.length := by simp at hc; omega
    have hall : (n.kids.take i).map srtT = n.kids.map srtT := by rw [List.take_of_length_le (by omega)]
    rw [hall]
    refine Tri.seq ?_
    refine Tri.region ti_ok ?_
    conv => whnf
    refine ⟨trivial, ?_⟩
    conv => whnf
    refine Tri.seq ?_
    refine Tri.seq ?_
    refine Tri.region ti_ok ?_
    conv => whnf
    refine Tri.block ?_
    refine Tri.loopK (α := { i : Nat // i ≤ n.streams.length }) (fun y => [(1, .box 1 b1 0), (2, .box 2 b2 0), (3, .sl .none 12 ((isort NV.name (n.kids.map srtT)).map encTop)), (7, .sl .none 2 ((isort SV.name (n.streams.take y.1)).map encS)), (8, .int .i64 y.1)]) (fun _ => [(1, .box b1 (cellsN n)), (2, .box b2 [.str [], .int .i64 0, .str [], .str [], .int .i64 0, .int .i64 0, .int .i64 0, .int .i64 0, .int .i64 0, .int .i64 0, .nils, .nils])]) (fun y => n.streams.length - y.1) ⟨0, Nat.zero_le _⟩ [(1, 1), (2, 2)]
      ⟨⟨.refl _, .refl _, .refl _, DLe.full, .refl _, trivial⟩, rfl, rfl, rfl, rfl, rfl, trivial⟩ ?_
    rintro ⟨i, hi⟩
    dsimp only at hi ⊢
    refine Tri.seq ?_
    refine Tri.seq ?_
    refine Tri.region ti_ok ?_
    conv => whnf
    refine ⟨rfl, ?_⟩
    conv => whnf
    refine Tri.cond _ rfl (fun hc => ?_) (fun hc => ?_)
    · refine Tri.skip ?_
      conv => whnf
      have hia : i < n.streams.length := by simpa using hc
      have hQl : (isort SV.name (n.streams.take i)).length = i := by rw [isort_len]; simp; omega
      have hst : isort SV.name (n.streams.take (i + 1)) = insS SV.name (isort SV.name (n.streams.take i)) n.streams[i] := by
        rw [List.take_succ_eq_append_getElem hia, isort_snoc]
      generalize hQQ : isort SV.name (n.streams.take i) = Q at *
      have hgs : (n.streams.map encS)[((i : Nat) : Int).toNat]? = some (encS n.streams[i]) := by simp [hia]
      refine Tri.seq ?_
      refine Tri.block ?_
      refine Tri.seq ?_
      refine Tri.region ti_ok ?_
      conv => whnf
      refine Tri.seq ?_
      refine Tri.block ?_
      refine Tri.loopK (α := { p : Nat // p ≤ i ∧ posN SV.name Q n.streams[i] Q.length = posN SV.name Q n.streams[i] p }) (fun y => [(1, .box 1 b1 0), (2, .box 2 b2 0), (3, .sl .none 12 ((isort NV.name (n.kids.map srtT)).map encTop)), (7, .sl .none 2 (Q.map encS)), (8, .int .i64 i), (9, .int .i64 y.1)]) (fun _ => [(1, .box b1 (cellsN n)), (2, .box b2 [.str [], .int .i64 0, .str [], .str [], .int .i64 0, .int .i64 0, .int .i64 0, .int .i64 0, .int .i64 0, .int .i64 0, .nils, .nils])]) (fun y => y.1) ⟨i, Nat.le_refl _, by rw [hQl]⟩ [(1, 1), (2, 2)]
        ⟨⟨.refl _, .refl _, .refl _, .refl _, .refl _, DLe.of_eq (congrArg (D.int .i64) (by simp [hQl])), trivial⟩, rfl, rfl, rfl, rfl, rfl, trivial⟩ ?_
      rintro ⟨p, hp, hpos⟩
      dsimp only at hp hpos ⊢
      have hgo : ∀ j, (h : j < Q.length) → (Q.map encS)[j]? = some (encS Q[j]) := fun j h => by simp [h]
      refine Tri.seq ?_
      refine Tri.seq ?_
      refine Tri.draw ti_ok mixed (by kernel_rfl) ?_
      conv => whnf
      refine ⟨fun h => h, ?_⟩
      conv => whnf
      refine .inl ⟨fun h => by simp only [InR]; omega, ?_⟩
      conv => whnf
      refine ⟨fun h => h, ?_⟩
      conv => whnf
      refine ⟨fun h => h, ?_⟩
      conv => whnf
      refine ⟨fun h => by simp at h; simp; omega, ?_⟩
      conv => whnf
      refine ⟨fun h => h, ?_⟩
      conv => whnf
      refine ⟨fun h => h, ?_⟩
      conv => whnf
      refine ⟨encS (Q.getD (p - 1) default), fun h => by
        have h0 : 0 < p := by simpa using h
        rw [pred_toNat h0, hgo (p - 1) (by omega)]; simp [List.getD, show p - 1 < Q.length by omega], ?_⟩
      conv => whnf
      refine ⟨fun h => h, ?_⟩
      conv => whnf
      refine ⟨rfl, ?_⟩
      conv => whnf
      refine ⟨fun h => h, ?_⟩
      conv => whnf
      refine ⟨fun h => h, ?_⟩
      conv => whnf
      refine ⟨fun h => by simp; omega, ?_⟩
      conv => whnf
      refine ⟨fun h => h, ?_⟩
      conv => whnf
      refine ⟨fun h => h, ?_⟩
      conv => whnf
      refine ⟨encS n.streams[i], fun h => hgs, ?_⟩
      conv => whnf
      refine ⟨fun h => h, ?_⟩
      conv => whnf
      refine ⟨fun h => h, ?_⟩
      conv => whnf
      refine ⟨fun h0 h => by first | exact h | (rw [h]; rfl) | (rw [h0, h]; rfl), ?_⟩
      conv => whnf
      refine Tri.cond _ rfl (fun hc => ?_) (fun hc => ?_)
      · have h0 : 0 < p := by
          cases h0 : decide ((0 : Int) < p) with
          | false => rw [h0] at hc; cases hc
          | true => simpa using h0
        have hb : Op.bytesLess n.streams[i].name (Q[p - 1]'(by omega)).name = true := by
          have h1 : decide ((0 : Int) < p) = true := by simpa using h0
          rw [h1] at hc
          have e : Q.getD (p - 1) default = Q[p - 1]'(by omega) := by simp [List.getD, show p - 1 < Q.length by omega]
          rw [e] at hc
          have hc2 : (!(Op.bytesLess (Q[p - 1]'(by omega)).name n.streams[i].name || (Q[p - 1]'(by omega)).name == n.streams[i].name)) = true := hc
          simp only [Bool.not_eq_true', Bool.or_eq_false_iff, beq_eq_false_iff_ne] at hc2
          cases h3 : Op.bytesLess n.streams[i].name (Q[p - 1]'(by omega)).name with
          | true => rfl
          | false => exact absurd (bl_total _ _ hc2.1 h3) hc2.2
        refine Tri.skip ?_
        conv => whnf
        refine Tri.block ?_
        refine Tri.region ti_ok ?_
        conv => whnf
        refine .inl ⟨fun _ => by simp only [InR]; omega, ?_⟩
        conv => whnf
        exact ⟨⟨p - 1, by omega, by
          have := posN_first (key := SV.name) (x := n.streams[i]) (p := p - 1) (by omega) hb
          rw [show p - 1 + 1 = p by omega] at this
          rw [hpos, this]⟩, [(1, 1), (2, 2)], by show p - 1 < p; omega, ⟨.refl _, .refl _, .refl _, .refl _, .refl _, DLe.of_eq (congrArg (D.int .i64) (by show (p : Int) - 1 = ((p - 1 : Nat) : Int); omega)), trivial⟩, rfl, rfl, rfl, rfl, rfl, trivial⟩
      · refine Tri.exit ?_
        conv => whnf
        have hps : posN SV.name Q n.streams[i] Q.length = p := by
          rw [hpos]
          cases p with
          | zero => rfl
          | succ p =>
            have hpl : p < Q.length := by omega
            have h1 : decide ((0 : Int) < (p + 1 : Nat)) = true := by simp
            rw [h1] at hc
            have e : Q.getD (p + 1 - 1) default = Q[p] := by simp [List.getD, hpl]
            rw [e] at hc
            have hc2 : (!(Op.bytesLess Q[p].name n.streams[i].name || Q[p].name == n.streams[i].name)) = false := hc
            refine posN_stop hpl ?_
            cases h3 : Op.bytesLess n.streams[i].name Q[p].name with
            | false => rfl
            | true => rw [bl_asymm h3, beq_eq_false_iff_ne.2 (bl_ne h3).symm] at hc2; simp at hc2
        have hins := insS_split hps
        have hT : (List.take ((p : Nat) : Int).toNat (Q.map encS)).drop (Int.toNat 0) = (Q.take p).map encS := by simp
        have hD : (List.take (((Q.map encS).length : Nat) : Int).toNat (Q.map encS)).drop ((p : Nat) : Int).toNat = (Q.drop p).map encS := by rw [List.take_of_length_le (by simp)]; simp
        have hN : ∀ w : Value, DLe (.sl (.own 95 w) 2 ((Q.take p).map encS ++ ([encS n.streams[i]] ++ (Q.drop p).map encS))) (.sl .none 2 ((insS SV.name Q n.streams[i]).map encS)) := fun w => by
          rw [hins]; simp only [List.map_append, List.map_cons, List.singleton_append]; exact DLe.unown
        refine Tri.bitsI ti_ok mixed (α := Unit) (fun _ f => [(1, .box 1 b1 0), (2, .box 2 b2 0), (3, .sl .none 12 ((isort NV.name (n.kids.map srtT)).map encTop)), (8, .int .i64 i), (9, .int .i64 p), (7, bif f 15 then .sl .none 2 ((insS SV.name Q n.streams[i]).map encS) else .sl .none 2 (Q.map encS)), (81, bif f 0 then .sl .none 2 (Q.map encS) else .any), (82, bif f 1 then .int .i64 p else .any), (83, bif f 2 then .int .i64 p else .any), (84, bif f 3 then .sl .full 2 ((Q.take p).map encS) else .any), (85, bif f 4 then .box 1 b1 11 else .any), (86, bif f 5 then .sl .none 2 (n.streams.map encS) else .any), (87, bif f 6 then .int .i64 i else .any), (88, bif f 7 then .elm 2 (n.streams.map encS) i 0 else .any), (89, bif f 8 then encS n.streams[i] else .any), (90, bif f 9 then .sl .full 2 [encS n.streams[i]] else .any), (91, bif f 10 then .sl .none 2 (Q.map encS) else .any), (92, bif f 11 then .int .i64 p else .any), (93, bif f 12 then .sl .none 2 ((Q.drop p).map encS) else .any), (94, bif f 13 then .sl .none 2 ([encS n.streams[i]] ++ (Q.drop p).map encS) else .any), (95, bif f 14 then .sl .none 2 ((insS SV.name Q n.streams[i]).map encS) else .any)])
          (fun _ f => [(1, .box b1 (cellsN n)), (2, .box b2 [.str [], .int .i64 0, .str [], .str [], .int .i64 0, .int .i64 0, .int .i64 0, .int .i64 0, .int .i64 0, .int .i64 0, .nils, .nils])]) (by decide +kernel) () ?_ ?_ ?_ ?_
        · exact ⟨.refl _, .refl _, .refl _, .refl _, .refl _, .refl _, .any _, .any _, .any _, .any _, .any _, .any _, .any _, .any _, .any _, .any _, .any _, .any _, .any _, .any _, .any _, trivial⟩
        · exact ⟨rfl, rfl, trivial⟩
        · conv => whnf
          refine ⟨fun _ f hI => ?_, ?_⟩
          · obtain ⟨f, rfl⟩ := off f 15 (hI.no 15 0 rfl rfl)
            conv => whnf
            exact ⟨(), ⟨.refl _, .refl _, .refl _, .refl _, .refl _, .refl _, .refl _, .refl _, .refl _, .refl _, .refl _, .refl _, .refl _, .refl _, .refl _, .refl _, .refl _, .refl _, .refl _, .refl _, .refl _, trivial⟩, rfl, rfl, trivial⟩
          refine ⟨fun _ f hI => ?_, ?_⟩
          · obtain ⟨f, rfl⟩ := off f 15 (hI.no 15 1 rfl rfl)
            conv => whnf
            exact ⟨(), ⟨.refl _, .refl _, .refl _, .refl _, .refl _, .refl _, .refl _, .refl _, .refl _, .refl _, .refl _, .refl _, .refl _, .refl _, .refl _, .refl _, .refl _, .refl _, .refl _, .refl _, .refl _, trivial⟩, rfl, rfl, trivial⟩
          refine ⟨fun _ f hI => ?_, ?_⟩
          · obtain ⟨f, rfl⟩ := off f 15 (hI.no 15 2 rfl rfl)
            conv => whnf
            exact ⟨(), ⟨.refl _, .refl _, .refl _, .refl _, .refl _, .refl _, .refl _, .refl _, .refl _, .refl _, .refl _, .refl _, .refl _, .refl _, .refl _, .refl _, .refl _, .refl _, .refl _, .refl _, .refl _, trivial⟩, rfl, rfl, trivial⟩
          refine ⟨fun _ f hI => ?_, ?_⟩
          · obtain ⟨f, rfl⟩ := off f 15 (hI.no 15 3 rfl rfl)
            conv => whnf
            refine .inl ?_
            conv => whnf
            refine ⟨fun _ => ⟨rfl, by omega, by omega, by simp; omega⟩, ?_⟩
            conv => whnf
            exact ⟨(), ⟨.refl _, .refl _, .refl _, .refl _, .refl _, .refl _, .refl _, .refl _, .refl _, DLe.of_eq (congrArg (D.sl .full _) hT), .refl _, .refl _, .refl _, .refl _, .refl _, .refl _, .refl _, .refl _, .refl _, .refl _, .refl _, trivial⟩, rfl, rfl, trivial⟩
          refine ⟨fun _ f hI => ?_, ?_⟩
          · obtain ⟨f, rfl⟩ := off f 15 (hI.no 15 4 rfl rfl)
            conv => whnf
            exact ⟨(), ⟨.refl _, .refl _, .refl _, .refl _, .refl _, .refl _, .refl _, .refl _, .refl _, .refl _, .refl _, .refl _, .refl _, .refl _, .refl _, .refl _, .refl _, .refl _, .refl _, .refl _, .refl _, trivial⟩, rfl, rfl, trivial⟩
          refine ⟨fun _ f hI => ?_, ?_⟩
          · obtain ⟨f, rfl⟩ := off f 15 (hI.no 15 5 rfl rfl)
            conv => whnf
            refine .inl ?_
            conv => whnf
            refine ⟨rfl, ?_⟩
            conv => whnf
            exact ⟨(), ⟨.refl _, .refl _, .refl _, .refl _, .refl _, .refl _, .refl _, .refl _, .refl _, .refl _, .refl _, .refl _, .refl _, .refl _, .refl _, .refl _, .refl _, .refl _, .refl _, .refl _, .refl _, trivial⟩, rfl, rfl, trivial⟩
          refine ⟨fun _ f hI => ?_, ?_⟩
          · obtain ⟨f, rfl⟩ := off f 15 (hI.no 15 6 rfl rfl)
            conv => whnf
            exact ⟨(), ⟨.refl _, .refl _, .refl _, .refl _, .refl _, .refl _, .refl _, .refl _, .refl _, .refl _, .refl _, .refl _, .refl _, .refl _, .refl _, .refl _, .refl _, .refl _, .refl _, .refl _, .refl _, trivial⟩, rfl, rfl, trivial⟩
          refine ⟨fun _ f hI => ?_, ?_⟩
          · obtain ⟨f, rfl⟩ := off f 15 (hI.no 15 7 rfl rfl)
            conv => whnf
            refine .inl ?_
            conv => whnf
            refine ⟨fun _ => by simp; omega, ?_⟩
            conv => whnf
            exact ⟨(), ⟨.refl _, .refl _, .refl _, .refl _, .refl _, .refl _, .refl _, .refl _, .refl _, .refl _, .refl _, .refl _, .refl _, .refl _, .refl _, .refl _, .refl _, .refl _, .refl _, .refl _, .refl _, trivial⟩, rfl, rfl, trivial⟩
          refine ⟨fun _ f hI => ?_, ?_⟩
          · obtain ⟨f, rfl⟩ := off f 15 (hI.no 15 8 rfl rfl)
            conv => whnf
            refine .inl ?_
            conv => whnf
            refine ⟨encS n.streams[i], fun _ => hgs, ?_⟩
            conv => whnf
            exact ⟨(), ⟨.refl _, .refl _, .refl _, .refl _, .refl _, .refl _, .refl _, .refl _, .refl _, .refl _, .refl _, .refl _, .refl _, .refl _, .refl _, .refl _, .refl _, .refl _, .refl _, .refl _, .refl _, trivial⟩, rfl, rfl, trivial⟩
          refine ⟨fun _ f hI => ?_, ?_⟩
          · obtain ⟨f, rfl⟩ := off f 15 (hI.no 15 9 rfl rfl)
            conv => whnf
            refine ⟨trivial, ?_⟩
            conv => whnf
            exact ⟨(), ⟨.refl _, .refl _, .refl _, .refl _, .refl _, .refl _, .refl _, .refl _, .refl _, .refl _, .refl _, .refl _, .refl _, .refl _, .refl _, .refl _, .refl _, .refl _, .refl _, .refl _, .refl _, trivial⟩, rfl, rfl, trivial⟩
          refine ⟨fun _ f hI => ?_, ?_⟩
          · obtain ⟨f, rfl⟩ := off f 15 (hI.no 15 10 rfl rfl)
            conv => whnf
            exact ⟨(), ⟨.refl _, .refl _, .refl _, .refl _, .refl _, .refl _, .refl _, .refl _, .refl _, .refl _, .refl _, .refl _, .refl _, .refl _, .refl _, .refl _, .refl _, .refl _, .refl _, .refl _, .refl _, trivial⟩, rfl, rfl, trivial⟩
          refine ⟨fun _ f hI => ?_, ?_⟩
          · obtain ⟨f, rfl⟩ := off f 15 (hI.no 15 11 rfl rfl)
            conv => whnf
            exact ⟨(), ⟨.refl _, .refl _, .refl _, .refl _, .refl _, .refl _, .refl _, .refl _, .refl _, .refl _, .refl _, .refl _, .refl _, .refl _, .refl _, .refl _, .refl _, .refl _, .refl _, .refl _, .refl _, trivial⟩, rfl, rfl, trivial⟩
          refine ⟨fun _ f hI => ?_, ?_⟩
          · obtain ⟨f, rfl⟩ := off f 15 (hI.no 15 12 rfl rfl)
            conv => whnf
            refine .inl ?_
            conv => whnf
            refine ⟨fun _ => by simp; omega, ?_⟩
            conv => whnf
            exact ⟨(), ⟨.refl _, .refl _, .refl _, .refl _, .refl _, .refl _, .refl _, .refl _, .refl _, .refl _, .refl _, .refl _, .refl _, .refl _, .refl _, .refl _, .refl _, .refl _, DLe.of_eq (congrArg (D.sl .none _) hD), .refl _, .refl _, trivial⟩, rfl, rfl, trivial⟩
          refine ⟨fun _ f hI => ?_, ?_⟩
          · obtain ⟨f, rfl⟩ := off f 15 (hI.no 15 13 rfl rfl)
            conv => whnf
            refine .inl ?_
            conv => whnf
            refine ⟨by show (_ + _) * _ ≤ _; simp; omega, by show _ + _ ≤ _; simp; omega, (fun h => by cases h), fun w1 => ?_⟩
            exact ⟨(), ⟨.refl _, .refl _, .refl _, .refl _, .refl _, .refl _, .refl _, .refl _, .refl _, .refl _, .refl _, .refl _, .refl _, .refl _, .refl _, .refl _, .refl _, .refl _, .refl _, DLe.unown, .refl _, trivial⟩, rfl, rfl, trivial⟩
          refine ⟨fun _ f hI => ?_, ?_⟩
          · obtain ⟨f, rfl⟩ := off f 15 (hI.no 15 14 rfl rfl)
            conv => whnf
            refine .inl ?_
            conv => whnf
            refine ⟨by show (_ + _) * _ ≤ _; simp; omega, by show _ + _ ≤ _; simp; omega, (fun h => by cases h), fun w1 => ?_⟩
            exact ⟨(), ⟨.refl _, .refl _, .refl _, .refl _, .refl _, .refl _, .refl _, .refl _, .refl _, .refl _, .refl _, .refl _, .refl _, .refl _, .refl _, .refl _, .refl _, .refl _, .refl _, .refl _, hN _, trivial⟩, rfl, rfl, trivial⟩
          refine ⟨fun _ f hI => ?_, ?_⟩
          · conv => whnf
            exact ⟨(), ⟨.refl _, .refl _, .refl _, .refl _, .refl _, .refl _, .refl _, .refl _, .refl _, .refl _, .refl _, .refl _, .refl _, .refl _, .refl _, .refl _, .refl _, .refl _, .refl _, .refl _, .refl _, trivial⟩, rfl, rfl, trivial⟩
          exact trivial
        · intro _ f hf
          obtain ⟨f, rfl⟩ := on f 15 (hf 15 (by decide +kernel))
          conv => whnf
          refine Tri.region ti_ok ?_
          conv => whnf
          refine .inl ⟨fun _ => by simp only [InR]; omega, ?_⟩
          conv => whnf
          exact ⟨⟨i + 1, hia⟩, [(1, 1), (2, 2)], by show n.streams.length - (i + 1) < n.streams.length - i; omega, ⟨.refl _, .refl _, .refl _, DLe.of_eq (congrArg (D.sl .none 2) (by rw [hst])), .refl _, trivial⟩, rfl, rfl, rfl, rfl, rfl, trivial⟩
    · refine Tri.exit ?_
      conv => whnf
      have hin : i = n.streams.length := by simp at hc; omega
      have hall : n.streams.take i = n.streams := List.take_of_length_le (by omega)
      rw [hall]
      refine Tri.seq ?_
      refine Tri.region ti_ok ?_
      conv => whnf
      refine ⟨rfl, ?_⟩
      conv => whnf
      refine ⟨rfl, ?_⟩
      conv => whnf
      refine Tri.seq ?_
      refine Tri.region ti_ok ?_
      conv => whnf
      refine ⟨rfl, ?_⟩
      conv => whnf
      refine ⟨rfl, ?_⟩
      conv => whnf
      refine Tri.ret ?_
      conv => whnf
      refine ⟨rfl, ?_⟩
      conv => whnf
      have hfin : encTop (srtT n) = .agg [.str n.name, .int .i64 n.kind, .str n.text, .str n.target, .int .i64 n.n1, .int .i64 n.n2, .int .i64 n.n3, .int .i64 n.n4, .int .i64 n.n5, .int .i64 n.n6, .sl .none 12 ((isort NV.name (n.kids.map srtT)).map encTop), .sl .none 2 ((isort SV.name n.streams).map encS)] := by
        rw [srtT_eq, encTop, show enc = encTop from funext enc_eq]
      refine DLe.of_eq ?_
      rw [hfin]; rfl
end Go.Tame.V
/- Contracts: the other way of views: tree, View. By program (mk54.py, mk.py). -/
namespace Go.Tame.V
open Go Go.Proofs
variable {W0 : World}
set_option maxRecDepth 10000
set_option linter.unusedVariables false
set_option linter.unusedSimpArgs false

mutual
theorem okZ_show (nm : List NV → List (List UInt8)) (v : Int) : ∀ (n : NV) (d : Int), okT n → okZ (showG nm v d n)
  | .mk a b c t e f g h i j ks ss, d, h1 => by
    simp only [okT] at h1
    simp only [showG, okZ]
    have hp := sortN_perm (showGL nm v (d + 1) ks (nm ks))
    have hl := showGL_len nm v (d + 1) ks (nm ks)
    refine ⟨by rw [hp.length_eq]; omega, by split <;> first | omega | simp, okZL_mem.2 fun k hk => ?_⟩
    exact okZL_show nm v ks (nm ks) (d + 1) h1.2.2.2 k (hp.subset hk)
theorem okZL_show (nm : List NV → List (List UInt8)) (v : Int) : ∀ (l : List NV) (ms : List (List UInt8)) (d : Int), okL l → ∀ x ∈ showGL nm v d l ms, okZ x
  | [], ms, d, _ => by simp [showGL]
  | k :: r, [], d, _ => by simp [showGL]
  | k :: r, m :: ms, d, h1 => by
    simp only [okL] at h1
    intro x hx
    have ih := okZL_show nm v r ms d h1.2
    simp only [showGL] at hx
    split at hx
    · rcases List.mem_cons.1 hx with rfl | hx
      · have := okZ_show nm v k d h1.1.2
        rw [okZ_eq] at this ⊢
        exact this
      · exact ih x hx
    · exact ih x hx
end
theorem namesG_len (v : Int) (ks : List NV) : (namesG v ks).length = ks.length := by simp [namesG, usedG_len]

theorem F54 (v : Int) (hv : viewOk v = true) (hnd : NamesNd (namesG v)) : ∀ (N : Nat) (n : NV), sz n < N → okT n → okS n → ∀ (m : List UInt8) (d : Int), 0 ≤ d → d + sz n < 1000000000 → DFun Tryz.prog W0 64 [.int .i64 v, encTop n, .str m, .int .i64 d] (encTop ((showG (namesG v) v d n).named m)) := by
  refine fun N => Nat.rec (fun n h => absurd h (Nat.not_lt_zero _)) (fun N ih n hN hok hos m d hd hd2 => ?_) N
  obtain ⟨h64, hsn, hinc, hokl⟩ := (okT_eq n).1 hok
  have hks : ∀ k ∈ n.kids, nameOk k.name = true ∧ k.name.length < 1000000000 := fun k hk => (okL_get hokl hk).1
  have hnl := namesG_len v n.kids
  refine DFun.intro ti_ok Tryz.func64 rfl (by decide +kernel) Tryz.ntmps64 rfl fun Γ => ?_
  refine Tri.seq ?_
  refine Tri.region ti_ok ?_
  conv => whnf
  intro b5
  conv => whnf
  intro b8
  conv => whnf
  refine Tri.seq ?_
  refine Tri.region ti_ok ?_
  conv => whnf
  refine ⟨rfl, ?_⟩
  conv => whnf
  refine ⟨[.int .i64 v, encTop n, .str m], _, fun _ => F71 v n m hsn, ⟨.refl _, .refl _, .refl _, trivial⟩, ?_⟩
  conv => whnf
  intro b9
  conv => whnf
  refine ⟨rfl, ?_⟩
  conv => whnf
  refine Tri.seq ?_
  refine Tri.region ti_ok ?_
  conv => whnf
  refine ⟨rfl, ?_⟩
  conv => whnf
  refine ⟨[.int .i64 v, .sl .none 12 (n.kids.map enc)], _, fun _ => F72 v hv n.kids h64 hks hinc, ⟨.refl _, .refl _, trivial⟩, ?_⟩
  conv => whnf
  refine Tri.seq ?_
  refine Tri.seq ?_
  refine Tri.region ti_ok ?_
  conv => whnf
  refine Tri.block ?_
  refine Tri.boxLe 9 (cs' := [.str m, .int .i64 n.kind, .str n.text, .str n.target, .int .i64 (if keeps v then n.n1 else 0), .int .i64 (if keeps v then n.n2 else 0), .int .i64 (if keeps v then n.n3 else 0), .int .i64 n.n4, .int .i64 0, .int .i64 0, .raw (.slice none 0 0), .sl .none 2 ((if v = 3 then n.streams else []).map encS)]) rfl ⟨.refl _, .refl _, .refl _, .refl _, .refl _, .refl _, .refl _, .refl _, .refl _, .refl _, DLe.nilRaw, .refl _, trivial⟩ ?_
  refine Tri.rowNil 109 12 25 ?_
  refine Tri.loopK (α := { x : Nat × Value // x.1 ≤ n.kids.length }) (fun x => [(0, .int .i64 v), (3, .int .i64 d), (5, .box 5 b5 0), (8, .box 8 b8 0), (9, .box 9 b9 0), (10, .sl .none 1 (strs (namesG v n.kids))), (12, .int .i64 x.1.1)]) (fun x => [(5, .box b5 (cellsN n)), (8, .box b8 [.str [], .int .i64 0, .str [], .str [], .int .i64 0, .int .i64 0, .int .i64 0, .int .i64 0, .int .i64 0, .int .i64 0, .nils, .nils]), (9, .box b9 [.str m, .int .i64 n.kind, .str n.text, .str n.target, .int .i64 (if keeps v then n.n1 else 0), .int .i64 (if keeps v then n.n2 else 0), .int .i64 (if keeps v then n.n3 else 0), .int .i64 n.n4, .int .i64 0, .int .i64 0, .raw x.1.2, .sl .none 2 ((if v = 3 then n.streams else []).map encS)]), (109, .row x.1.2 ((showGL (namesG v) v (d + 1) (n.kids.take x.1.1) ((namesG v n.kids).take x.1.1)).map encTop) 12 25)]) (fun x => n.kids.length - x.1.1) ⟨(0, .slice none 0 0), Nat.zero_le _⟩ [(5, 5), (8, 8), (9, 9), (109, 109)]
    ⟨⟨.refl _, .refl _, .refl _, .refl _, .refl _, .refl _, .refl _, trivial⟩, rfl, rfl, rfl, rfl, rfl, rfl, rfl, rfl, congrArg (fun z => some (HObj.row (.slice none 0 0) z 12 25)) (by simp [showGL]), trivial⟩ ?_
  rintro ⟨⟨i, rv⟩, hi⟩
  dsimp only at hi ⊢
  refine Tri.seq ?_
  refine Tri.seq ?_
  refine Tri.region ti_ok ?_
  conv => whnf
  refine ⟨rfl, ?_⟩
  conv => whnf
  refine Tri.cond _ rfl (fun hc => ?_) (fun hc => ?_)
  · refine Tri.skip ?_
    conv => whnf
    have hia : i < n.kids.length := by simpa using hc
    have hin : i < (namesG v n.kids).length := by omega
    have hkz := kid_sz hia
    refine Tri.seq ?_
    refine Tri.block ?_
    refine Tri.seq ?_
    refine Tri.region ti_ok ?_
    conv => whnf
    refine ⟨rfl, ?_⟩
    conv => whnf
    refine ⟨fun _ => by simp; omega, ?_⟩
    conv => whnf
    refine ⟨encTop n.kids[i], fun _ => get_kid hia, ?_⟩
    conv => whnf
    refine .inl ⟨fun _ => by simp only [InR]; omega, ?_⟩
    conv => whnf
    refine ⟨[.int .i64 v, encTop n.kids[i], .int .i64 (d + 1)], _, fun _ => F73 v _ _, ⟨.refl _, .refl _, .refl _, trivial⟩, ?_⟩
    conv => whnf
    refine Tri.cond _ rfl (fun hc => ?_) (fun hc => ?_)
    · have hs : shown v n.kids[i] (d + 1) = true := hc
      refine Tri.drawTailX ti_ok 16 mixed (by kernel_rfl) ?_
      conv => whnf
      refine ⟨rfl, ?_⟩
      conv => whnf
      refine ⟨rfl, ?_⟩
      conv => whnf
      refine ⟨fun _ => by simp; omega, ?_⟩
      conv => whnf
      refine ⟨encTop n.kids[i], fun _ => get_kid hia, ?_⟩
      conv => whnf
      refine ⟨fun _ => by simp [strs]; omega, ?_⟩
      conv => whnf
      refine ⟨.str (namesG v n.kids)[i], fun _ => by simp [strs, hin], ?_⟩
      conv => whnf
      refine .inl ⟨fun _ => by simp only [InR]; omega, ?_⟩
      conv => whnf
      refine ⟨[.int .i64 v, encTop n.kids[i], .str (namesG v n.kids)[i], .int .i64 (d + 1)], _, fun _ => ih n.kids[i] (by omega) (okL_get hokl (List.getElem_mem hia)).2 (okSL_get ((okS_eq n).1 hos).2 (List.getElem_mem hia)) (namesG v n.kids)[i] (d + 1) (by omega) (by omega), ⟨.refl _, .refl _, .refl _, .refl _, trivial⟩, ?_⟩
      conv => whnf
      refine ⟨trivial, ?_⟩
      conv => whnf
      refine .inr (XOp.rowAppend ti_ok 109 rfl rfl rfl (fun h => by cases h) rfl rfl rfl (Nat.zero_lt_one) ?_ ?_ fun aa mm cap => ?_)
      · have := showGL_len (namesG v) v (d + 1) (n.kids.take i) ((namesG v n.kids).take i)
        show (_ + 1) * 152 ≤ _
        simp at this ⊢; omega
      · have := showGL_len (namesG v) v (d + 1) (n.kids.take i) ((namesG v n.kids).take i)
        show _ + 1 ≤ _
        simp at this ⊢; omega
      refine .inl ?_
      conv => whnf
      refine ⟨rfl, ?_⟩
      conv => whnf
      refine Tri.region ti_ok ?_
      conv => whnf
      refine .inl ⟨fun _ => by simp only [InR]; omega, ?_⟩
      conv => whnf
      exact ⟨⟨(i + 1, .slice aa mm cap), hia⟩, [(5, 5), (8, 8), (9, 9), (109, 56)], by show _ - (i + 1) < _ - i; omega, ⟨.refl _, .refl _, .refl _, .refl _, .refl _, .refl _, .refl _, trivial⟩, rfl, rfl, rfl, rfl, rfl, rfl, rfl, rfl, congrArg (fun z => some (HObj.row (.slice aa mm cap) z 12 25)) (by rw [showGL_next (namesG v) v (d + 1) hia hin, if_pos hs, showG_named]; simp; rfl), trivial⟩
    · have hs : shown v n.kids[i] (d + 1) = false := hc
      refine Tri.skip ?_
      conv => whnf
      refine Tri.region ti_ok ?_
      conv => whnf
      refine .inl ⟨fun _ => by simp only [InR]; omega, ?_⟩
      conv => whnf
      exact ⟨⟨(i + 1, rv), hia⟩, [(5, 5), (8, 8), (9, 9), (109, 109)], by show _ - (i + 1) < _ - i; omega, ⟨.refl _, .refl _, .refl _, .refl _, .refl _, .refl _, .refl _, trivial⟩, rfl, rfl, rfl, rfl, rfl, rfl, rfl, rfl, congrArg (fun z => some (HObj.row rv z 12 25)) (by rw [showGL_next (namesG v) v (d + 1) hia hin, hs]; simp), trivial⟩
  · refine Tri.exit ?_
    conv => whnf
    have hin : i = n.kids.length := by simp at hc; omega
    have hrow : (showGL (namesG v) v (d + 1) (n.kids.take i) ((namesG v n.kids).take i)).map encTop = (showGL (namesG v) v (d + 1) n.kids (namesG v n.kids)).map enc := by
      subst hin; rw [List.take_length, List.take_of_length_le (by omega), show enc = encTop from funext enc_eq]
    rw [hrow]
    refine Tri.commitBox 109 9 10 rfl rfl (by decide) rfl ?_
    refine Tri.seq ?_
    refine Tri.region ti_ok ?_
    conv => whnf
    refine ⟨rfl, ?_⟩
    conv => whnf
    have hout := okZL_show (namesG v) v n.kids (namesG v n.kids) (d + 1) hokl
    have hlen := showGL_len (namesG v) v (d + 1) n.kids (namesG v n.kids)
    refine ⟨[encTop ⟨m, n.kind, n.text, n.target, if keeps v then n.n1 else 0, if keeps v then n.n2 else 0, if keeps v then n.n3 else 0, n.n4, 0, 0, showGL (namesG v) v (d + 1) n.kids (namesG v n.kids), if v = 3 then n.streams else []⟩], _, fun _ => F74 _ _ (Nat.lt_succ_self _) ((okZ_eq _).2 ⟨by show (showGL (namesG v) v (d + 1) n.kids (namesG v n.kids)).length ≤ 64; omega, by show List.length (if v = 3 then n.streams else []) < _; split <;> first | omega | simp, okZL_mem.2 hout⟩), ⟨.refl _, trivial⟩, ?_⟩
    conv => whnf
    refine ⟨rfl, ?_⟩
    conv => whnf
    refine Tri.ret ?_
    conv => whnf
    refine ⟨rfl, ?_⟩
    conv => whnf
    rw [srtT_out (namesG v) v hnd n d m hok hos]
    exact DLe.of_eq rfl
end Go.Tame.V
/- Contracts: the other way of views: View, Check. By program (mk.py). -/
namespace Go.Tame.V
open Go Go.Proofs
variable {W0 : World}
set_option maxRecDepth 10000
set_option linter.unusedVariables false
set_option linter.unusedSimpArgs false

theorem F31 (v : Int) (hnd : viewOk v = true → NamesNd (namesG v)) (n : NV) (hn : Fits n) : DFun Tryz.prog W0 18 [.int .i64 v, encTop n] (.tup [encTop (viewR (namesG v) v n).1, .int .i64 (viewR (namesG v) v n).2]) := by
  refine DFun.intro ti_ok Tryz.func18 rfl (by decide +kernel) Tryz.ntmps18 rfl fun Γ => ?_
  refine Tri.seq ?_
  refine Tri.region ti_ok ?_
  conv => whnf
  intro b4
  conv => whnf
  intro b6
  conv => whnf
  refine Tri.seq ?_
  refine Tri.seq ?_
  refine Tri.region ti_ok ?_
  conv => whnf
  refine ⟨[.int .i64 v], _, fun _ => F53 v, ⟨.refl _, trivial⟩, ?_⟩
  conv => whnf
  refine Tri.cond _ rfl (fun hc => ?_) (fun hc => ?_)
  · refine Tri.seq ?_
    refine Tri.region ti_ok ?_
    conv => whnf
    refine ⟨rfl, ?_⟩
    conv => whnf
    refine Tri.ret ?_
    conv => whnf
    have h1 : viewOk v = false := by simpa using hc
    have h2 : viewR (namesG v) v n = (zeroN, 2) := by rw [viewR, if_pos h1]
    rw [h2]
    refine ⟨rfl, ?_⟩
    conv => whnf
    exact ⟨zeroD, .refl _, trivial⟩
  · refine Tri.skip ?_
    conv => whnf
    refine Tri.seq ?_
    refine Tri.seq ?_
    refine Tri.region ti_ok ?_
    conv => whnf
    refine ⟨rfl, ?_⟩
    conv => whnf
    refine ⟨[encTop n], _, fun _ => F20 n hn, ⟨.refl _, trivial⟩, ?_⟩
    conv => whnf
    refine Tri.cond _ rfl (fun hc => ?_) (fun hc => ?_)
    · refine Tri.seq ?_
      refine Tri.region ti_ok ?_
      conv => whnf
      refine ⟨rfl, ?_⟩
      conv => whnf
      refine Tri.ret ?_
      conv => whnf
      have h1 : ¬ viewOk v = false := by intro h; rename_i h0; rw [h] at h0; cases h0
      have h3 : valid n = false := by simpa using hc
      have h2 : viewR (namesG v) v n = (zeroN, 1) := by rw [viewR, if_neg h1, if_pos h3]
      rw [h2]
      refine ⟨rfl, ?_⟩
      conv => whnf
      exact ⟨zeroD, .refl _, trivial⟩
    · refine Tri.skip ?_
      conv => whnf
      refine Tri.seq ?_
      refine Tri.region ti_ok ?_
      conv => whnf
      refine ⟨rfl, ?_⟩
      conv => whnf
      have h1 : viewOk v = true := by rename_i h0; simpa using h0
      have h3 : valid n = true := by simpa using hc
      have h5 : n.name = [] := by
        have := h3
        rw [valid_good, Bool.and_eq_true] at this
        exact (goodB_good this.2).1.name1 rfl
      have h6 : (showG (namesG v) v 1 n).named [] = showG (namesG v) v 1 n := by rw [showG_eq]; simp only [NV.named, h5]
      have hz := hn
      unfold Fits at hz
      refine ⟨[.int .i64 v, encTop n, .str [], .int .i64 1], encTop (showG (namesG v) v 1 n), fun _ => by
        have := F54 (W0 := W0) v h1 (hnd h1) _ n (Nat.lt_succ_self _) (valid_okT h3) (valid_okS h3) [] 1 (by omega) (by omega)
        rw [h6] at this
        exact this, ⟨.refl _, .refl _, .refl _, .refl _, trivial⟩, ?_⟩
      conv => whnf
      refine ⟨rfl, ?_⟩
      conv => whnf
      refine Tri.ret ?_
      conv => whnf
      have h2 : viewR (namesG v) v n = (showG (namesG v) v 1 n, 0) := by rw [viewR, if_neg (by rw [h1]; simp), if_neg (by rw [h3]; simp)]
      rw [h2]
      refine ⟨rfl, ?_⟩
      conv => whnf
      exact ⟨.refl _, .refl _, trivial⟩

end Go.Tame.V
/- The names of every view; how large a shown tree is; a shown tree, shown again. Plain. -/
namespace Go.Tame.V
open Go Go.Proofs
variable {W0 : World}
set_option maxRecDepth 10000
set_option linter.unusedVariables false
set_option linter.unusedSimpArgs false

theorem namesG01 {v : Int} (hv : v = 0 ∨ v = 1) : namesG v = namesA v := by
  funext ks
  rw [namesG, namesA]
  congr 1
  refine snoc_rec (p := fun ks => usedG v ks = usedOf v ks) rfl (fun l x ih => ?_) ks
  rw [usedG_snoc, usedOf_snoc, ih, pickG, if_pos hv]
theorem namesG23 {v : Int} (hv : v = 2 ∨ v = 3) : namesG v = fun ks => ks.map NV.name := by
  funext ks
  rw [namesG]
  refine snoc_rec (p := fun ks => (usedG v ks).reverse = ks.map NV.name) rfl (fun l x ih => ?_) ks
  rw [usedG_snoc, pickG, if_neg (by omega), List.reverse_cons, ih]; simp
theorem view4 {v : Int} (h : viewOk v = true) : v = 0 ∨ v = 1 ∨ v = 2 ∨ v = 3 := by simp [viewOk] at h; omega
theorem namesGok (hL : LibOk W0) {v : Int} (h : viewOk v = true) : NamesOk W0 v (namesG v) := by
  rcases view4 h with h | h | h | h
  · rw [namesG01 (.inl h)]; exact names01 hL (.inl h)
  · rw [namesG01 (.inr h)]; exact names01 hL (.inr h)
  · rw [namesG23 (.inl h)]; exact names23 hL (.inl h)
  · rw [namesG23 (.inr h)]; exact names23 hL (.inr h)
theorem namesNd (hL : LibOk W0) {v : Int} (h : viewOk v = true) : NamesNd (namesG v) := fun ks h1 h2 h3 => ((namesGok hL h).call ks h1 h2 h3).2.2.1

theorem szS_ssize : ∀ l : List SV, szS l ≤ ssize l
  | [] => by simp [szS]
  | s :: r => by
    have := szS_ssize r
    simp only [szS, ssize]; omega
mutual
theorem sz_tsize : ∀ n : NV, 2 * n.name.length + 2 + sz n ≤ 2 * tsize n
  | .mk a b c d e f g h i j ks ss => by
    have h1 := szL_tsize ks
    have h2 := szS_ssize ss
    simp only [sz, tsize]; omega
theorem szL_tsize : ∀ l : List NV, szL l ≤ 2 * tsizeL l
  | [] => by simp [szL]
  | n :: r => by
    have h1 := sz_tsize n
    have h2 := szL_tsize r
    simp only [szL, tsizeL]; omega
end
theorem few_sz {n : NV} {s : Int} (h : few1 n s = true) : (sz n : Int) ≤ 2 * s ∧ cnt n ≤ 40 := by
  simp only [few1, Bool.and_eq_true, decide_eq_true_eq] at h
  have := sz_tsize n
  omega
theorem szL_perm {a b : List NV} (h : a.Perm b) : szL a = szL b := by
  induction h with
  | nil => rfl
  | cons x _ ih => simp only [szL, ih]
  | swap x y l => simp only [szL]; omega
  | trans _ _ h1 h2 => exact h1.trans h2
def NamesSh (nm : List NV → List (List UInt8)) : Prop := ∀ ks : List NV, ks.length ≤ 64 → inc ks → (∀ k ∈ ks, nameOk k.name = true ∧ k.name.length < 1000000000) → ∀ m ∈ nm ks, m.length ≤ 1100
theorem namesSh (hL : LibOk W0) {v : Int} (h : viewOk v = true) : NamesSh (namesG v) := fun ks h1 h2 h3 => ((namesGok hL h).call ks h1 h2 h3).2.2.2
mutual
theorem sz_show (nm : List NV → List (List UInt8)) (v : Int) (hs : NamesSh nm) : ∀ (n : NV) (d : Int), okT n → sz (showG nm v d n) + 2200 ≤ sz n + 2200 * cnt n
  | .mk a b c t e f g h i j ks ss, d, h1 => by
    simp only [okT] at h1
    have h2 := szL_show nm v hs ks (nm ks) (d + 1) h1.2.2.2 (hs ks h1.1 h1.2.2.1 fun k hk => (okL_get h1.2.2.2 hk).1)
    have h3 := szL_perm (sortN_perm (showGL nm v (d + 1) ks (nm ks)))
    have h4 : szS (if v = 3 then ss else []) ≤ szS ss := by split <;> simp [szS]
    simp only [showG, sz, cnt]
    rw [h3]; omega
theorem szL_show (nm : List NV → List (List UInt8)) (v : Int) (hs : NamesSh nm) : ∀ (l : List NV) (ms : List (List UInt8)) (d : Int), okL l → (∀ m ∈ ms, m.length ≤ 1100) → szL (showGL nm v d l ms) ≤ szL l + 2200 * cntL l
  | [], ms, d, _, _ => by simp [showGL, szL]
  | k :: r, [], d, _, _ => by simp [showGL, szL]
  | k :: r, m :: ms, d, h1, hm => by
    simp only [okL] at h1
    have h2 := szL_show nm v hs r ms d h1.2 fun x hx => hm x (List.mem_cons_of_mem _ hx)
    have h3 := sz_show nm v hs k d h1.1.2
    have h4 := hm m List.mem_cons_self
    have h5 : sz ((showG nm v d k).named m) = sz (showG nm v d k) := sz_named _ _
    simp only [showGL]
    split
    · simp only [szL, cntL]
      have h6 : ((showG nm v d k).named m).name = m := rfl
      rw [h5, h6]; omega
    · simp only [szL, cntL]; omega
end
theorem show_name (nm : List NV → List (List UInt8)) (v d : Int) (n : NV) : (showG nm v d n).name = n.name := by rw [showG_eq]
theorem show_fits (nm : List NV → List (List UInt8)) (v : Int) (hs : NamesSh nm) {n : NV} (hv : valid n = true) (hf : few1 n 100000 = true) : Fits (showG nm v 1 n) ∧ sz (showG nm v 1 n) < 300000 := by
  have h1 := sz_show nm v hs n 1 (valid_okT hv)
  have h2 := few_sz hf
  have h3 : n.name = [] := by
    rw [valid_good, Bool.and_eq_true] at hv
    exact (goodB_good hv.2).1.name1 rfl
  unfold Fits
  rw [show_name, h3]
  simp only [List.length_nil]
  omega

theorem named_self (n : NV) : n.named n.name = n := by cases n; rfl
end Go.Tame.V
/- naming.show, with a function that is called for each node. By program (mk63.py, mk.py). -/
namespace Go.Tame.V
open Go Go.Proofs
variable {W0 : World}
set_option maxRecDepth 10000
set_option linter.unusedVariables false
set_option linter.unusedSimpArgs false

section
variable {S : Type} (upd : List UInt8 → List UInt8 → S → S) (nm : List NV → List (List UInt8)) (v : Int)
mutual
/-- The state behind a node and what is below it: p is the path in the view, q that in the source. -/
def vis (d : Int) : NV → List UInt8 → List UInt8 → S → S
  | .mk _ _ _ _ _ _ _ _ _ _ ks _, p, q, s => visL d ks (nm ks) p q (upd p q s)
def visL (d : Int) : List NV → List (List UInt8) → List UInt8 → List UInt8 → S → S
  | k :: r, m :: ms, p, q, s => if shown v k (d + 1) then visL d r ms p q (vis (d + 1) k (joinQ p m (d == 1)) (joinQ q k.name (d == 1)) s) else visL d r ms p q s
  | _, _, _, _, s => s
end
theorem vis_eq (d : Int) (n : NV) (p q : List UInt8) (s : S) : vis upd nm v d n p q s = visL upd nm v d n.kids (nm n.kids) p q (upd p q s) := by cases n; simp only [vis]
theorem vis_named (d : Int) (n : NV) (m p q : List UInt8) (s : S) : vis upd nm v d (n.named m) p q s = vis upd nm v d n p q s := by rw [vis_eq, vis_eq]; rfl
theorem visL_nil (d : Int) (ms : List (List UInt8)) (p q : List UInt8) (s : S) : visL upd nm v d [] ms p q s = s := by simp only [visL]
end

end Go.Tame.V
/- naming.tree, with a function that is called for each node. By program (mk.py). -/
namespace Go.Tame.V
open Go Go.Proofs
variable {W0 : World}
set_option maxRecDepth 10000
set_option linter.unusedVariables false
set_option linter.unusedSimpArgs false

/-- The state behind a tree's view. -/
def visR {S : Type} (upd : List UInt8 → List UInt8 → S → S) (nm : List NV → List (List UInt8)) (v : Int) (n : NV) (s : S) : S :=
  if viewOk v = true ∧ valid n = true then vis upd nm v 1 n [] [] s else s
end Go.Tame.V
/- naming.show, with a function that is called for each node and keeps three objects. By program (mkn1.py, mk.py). -/
namespace Go.Tame.V
open Go Go.Proofs
variable {W0 : World}
set_option maxRecDepth 10000
set_option linter.unusedVariables false
set_option linter.unusedSimpArgs false

structure WS3 (S : Type) where
  o1 : S → HObj
  o2 : S → HObj
  o3 : S → HObj
def WS3.H {S : Type} (A : WS3 S) (s : S) : Heap := look [(2000, A.o1 s), (2001, A.o2 s), (2002, A.o3 s)]
/-- The function that is called for each node: by the paths there and here it changes the state. -/
def VisitOk3 {S : Type} (W0 : World) (A : WS3 S) (upd : List UInt8 → List UInt8 → S → S) (fid : Nat) (caps : List D) : Prop :=
  ∀ (n : NV) (p q : List UInt8) (s : S), DCall Tryz.prog W0 fid ([encQ n p q] ++ caps) (A.H s) fun r H' => r = .tup [] ∧ H' 2000 = some (A.o1 (upd p q s)) ∧ H' 2001 = some (A.o2 (upd p q s)) ∧ H' 2002 = some (A.o3 (upd p q s))
theorem F92x {S : Type} (A : WS3 S) (upd : List UInt8 → List UInt8 → S → S) (fid : Nat) (caps : List D) (hvisit : VisitOk3 W0 A upd fid caps) (nm : List NV → List (List UInt8)) (v : Int) (hnm : NamesOk W0 v nm) : ∀ (N : Nat) (n : NV), sz n < N → okT n → ∀ (p q : List UInt8) (d : Int) (s : S), 0 ≤ d → d + sz n < 1000000000 → p.length + 1200 * sz n < 1000000000 → q.length + sz n < 1000000000 → DCall Tryz.prog W0 112 [.int .i64 v, encQ n p q, .int .i64 d, .fn (.func fid) [] caps] (A.H s) fun r H' => r = encTop (showG nm v d n) ∧ H' 2000 = some (A.o1 (vis upd nm v d n p q s)) ∧ H' 2001 = some (A.o2 (vis upd nm v d n p q s)) ∧ H' 2002 = some (A.o3 (vis upd nm v d n p q s)) := by
  refine fun N => Nat.rec (fun n h => absurd h (Nat.not_lt_zero _)) (fun N ih n hN hok p q d s hd hd2 hp hq => ?_) N
  obtain ⟨h64, hsn, hinc, hokl⟩ := (okT_eq n).1 hok
  have hks : ∀ k ∈ n.kids, nameOk k.name = true ∧ k.name.length < 1000000000 := fun k hk => (okL_get hokl hk).1
  obtain ⟨hcall, hnl, hnd, hnb⟩ := hnm.call n.kids h64 hinc hks
  refine DCall.intro ti_ok Tryz.func112 rfl (by decide +kernel) Tryz.ntmps112 rfl fun Γ => ?_
  refine Tri.seq ?_
  refine Tri.region ti_ok ?_
  conv => whnf
  intro b5
  conv => whnf
  intro b8
  conv => whnf
  refine Tri.seq ?_
  refine Tri.region ti_ok ?_
  conv => whnf
  refine ⟨rfl, ?_⟩
  conv => whnf
  intro b9
  conv => whnf
  refine ⟨rfl, ?_⟩
  conv => whnf
  refine Tri.seq ?_
  refine Tri.region ti_ok ?_
  conv => whnf
  refine ⟨rfl, ?_⟩
  conv => whnf
  refine ⟨rfl, ?_⟩
  conv => whnf
  refine ⟨rfl, ?_⟩
  conv => whnf
  refine ⟨rfl, ?_⟩
  conv => whnf
  refine ⟨rfl, ?_⟩
  conv => whnf
  intro b10
  conv => whnf
  refine ⟨rfl, ?_⟩
  conv => whnf
  refine Tri.joinK (α := Unit) (fun x => [(0, .int .i64 v), (2, .int .i64 d), (3, .fn (.func fid) [] caps), (5, .box 5 b5 0), (8, .box 8 b8 0), (9, .box 9 b9 0), (10, .box 10 b10 0)]) (fun x => [(2000, A.o1 s), (2001, A.o2 s), (2002, A.o3 s), (5, .box b5 [.str n.name, .int .i64 n.kind, .str n.text, .str n.target, .int .i64 n.n1, .int .i64 n.n2, .int .i64 n.n3, .int .i64 n.n4, .int .i64 n.n5, .int .i64 n.n6, .sl .none 12 (n.kids.map enc), .sl .none 2 (n.streams.map encS), .str p, .str q]), (8, .box b8 [.str [], .int .i64 0, .str [], .str [], .int .i64 0, .int .i64 0, .int .i64 0, .int .i64 0, .int .i64 0, .int .i64 0, .nils, .nils]), (9, .box b9 [.str n.name, .int .i64 n.kind, .str n.text, .str n.target, .int .i64 n.n1, .int .i64 n.n2, .int .i64 n.n3, .int .i64 n.n4, .int .i64 n.n5, .int .i64 n.n6, .sl .none 12 (n.kids.map enc), .sl .none 2 (n.streams.map encS)]), (10, .box b10 [.str n.name, .int .i64 n.kind, .str n.text, .str n.target, .int .i64 (if keeps v then n.n1 else 0), .int .i64 (if keeps v then n.n2 else 0), .int .i64 (if keeps v then n.n3 else 0), .int .i64 n.n4, .int .i64 0, .int .i64 0, .nils, .nils])]) ?_ ?_
  · refine Tri.seq ?_
    refine Tri.region ti_ok ?_
    conv => whnf
    refine ⟨fun h => h, ?_⟩
    conv => whnf
    refine ⟨fun h0 h => by first | exact h | (rw [h]; rfl) | (rw [h0, h]; rfl), ?_⟩
    conv => whnf
    refine Tri.cond _ rfl (fun hc => ?_) (fun hc => ?_)
    · have hk : keeps v = true := by
        cases h1 : (v == 2) with
        | true => simp only [keeps, h1, Bool.true_or]
        | false =>
          rw [h1] at hc
          simpa [keeps, h1] using hc
      rw [hk]
      refine Tri.bits ti_ok mixed (fun f => [(0, .int .i64 v), (2, .int .i64 d), (3, .fn (.func fid) [] caps), (5, .box 5 b5 0), (8, .box 8 b8 0), (9, .box 9 b9 0), (10, .box 10 b10 0),
        (35, bif f 0 then .box 9 b9 4 else .any), (36, bif f 1 then .int .i64 n.n1 else .any), (37, bif f 2 then .box 9 b9 5 else .any), (38, bif f 3 then .int .i64 n.n2 else .any), (39, bif f 4 then .box 9 b9 6 else .any), (40, bif f 5 then .int .i64 n.n3 else .any), (41, bif f 6 then .box 10 b10 4 else .any), (42, bif f 8 then .box 10 b10 5 else .any), (43, bif f 10 then .box 10 b10 6 else .any)])
        (fun f => [(2000, A.o1 s), (2001, A.o2 s), (2002, A.o3 s), (5, .box b5 [.str n.name, .int .i64 n.kind, .str n.text, .str n.target, .int .i64 n.n1, .int .i64 n.n2, .int .i64 n.n3, .int .i64 n.n4, .int .i64 n.n5, .int .i64 n.n6, .sl .none 12 (n.kids.map enc), .sl .none 2 (n.streams.map encS), .str p, .str q]), (8, .box b8 [.str [], .int .i64 0, .str [], .str [], .int .i64 0, .int .i64 0, .int .i64 0, .int .i64 0, .int .i64 0, .int .i64 0, .nils, .nils]), (9, .box b9 [.str n.name, .int .i64 n.kind, .str n.text, .str n.target, .int .i64 n.n1, .int .i64 n.n2, .int .i64 n.n3, .int .i64 n.n4, .int .i64 n.n5, .int .i64 n.n6, .sl .none 12 (n.kids.map enc), .sl .none 2 (n.streams.map encS)]), (10, .box b10 [.str n.name, .int .i64 n.kind, .str n.text, .str n.target, bif f 7 then .int .i64 n.n1 else .int .i64 0, bif f 9 then .int .i64 n.n2 else .int .i64 0, bif f 11 then .int .i64 n.n3 else .int .i64 0, .int .i64 n.n4, .int .i64 0, .int .i64 0, .nils, .nils])]) (by decide +kernel) ?_ ?_ ?_ ?_
      · exact ⟨.refl _, .refl _, .refl _, .refl _, .refl _, .refl _, .refl _, .any _, .any _, .any _, .any _, .any _, .any _, .any _, .any _, .any _, trivial⟩
      · exact ⟨rfl, rfl, rfl, rfl, rfl, rfl, rfl, trivial⟩
      · conv => whnf
        refine ⟨fun f => ?_, ?_⟩
        · conv => whnf
          exact ⟨⟨.refl _, .refl _, .refl _, .refl _, .refl _, .refl _, .refl _, .refl _, .refl _, .refl _, .refl _, .refl _, .refl _, .refl _, .refl _, .refl _, trivial⟩, rfl, rfl, rfl, rfl, rfl, rfl, rfl, trivial⟩
        refine ⟨fun f => ?_, ?_⟩
        · conv => whnf
          refine ⟨rfl, ?_⟩
          conv => whnf
          exact ⟨⟨.refl _, .refl _, .refl _, .refl _, .refl _, .refl _, .refl _, .refl _, .refl _, .refl _, .refl _, .refl _, .refl _, .refl _, .refl _, .refl _, trivial⟩, rfl, rfl, rfl, rfl, rfl, rfl, rfl, trivial⟩
        refine ⟨fun f => ?_, ?_⟩
        · conv => whnf
          exact ⟨⟨.refl _, .refl _, .refl _, .refl _, .refl _, .refl _, .refl _, .refl _, .refl _, .refl _, .refl _, .refl _, .refl _, .refl _, .refl _, .refl _, trivial⟩, rfl, rfl, rfl, rfl, rfl, rfl, rfl, trivial⟩
        refine ⟨fun f => ?_, ?_⟩
        · conv => whnf
          refine ⟨rfl, ?_⟩
          conv => whnf
          exact ⟨⟨.refl _, .refl _, .refl _, .refl _, .refl _, .refl _, .refl _, .refl _, .refl _, .refl _, .refl _, .refl _, .refl _, .refl _, .refl _, .refl _, trivial⟩, rfl, rfl, rfl, rfl, rfl, rfl, rfl, trivial⟩
        refine ⟨fun f => ?_, ?_⟩
        · conv => whnf
          exact ⟨⟨.refl _, .refl _, .refl _, .refl _, .refl _, .refl _, .refl _, .refl _, .refl _, .refl _, .refl _, .refl _, .refl _, .refl _, .refl _, .refl _, trivial⟩, rfl, rfl, rfl, rfl, rfl, rfl, rfl, trivial⟩
        refine ⟨fun f => ?_, ?_⟩
        · conv => whnf
          refine ⟨rfl, ?_⟩
          conv => whnf
          exact ⟨⟨.refl _, .refl _, .refl _, .refl _, .refl _, .refl _, .refl _, .refl _, .refl _, .refl _, .refl _, .refl _, .refl _, .refl _, .refl _, .refl _, trivial⟩, rfl, rfl, rfl, rfl, rfl, rfl, rfl, trivial⟩
        refine ⟨fun f => ?_, ?_⟩
        · conv => whnf
          exact ⟨⟨.refl _, .refl _, .refl _, .refl _, .refl _, .refl _, .refl _, .refl _, .refl _, .refl _, .refl _, .refl _, .refl _, .refl _, .refl _, .refl _, trivial⟩, rfl, rfl, rfl, rfl, rfl, rfl, rfl, trivial⟩
        refine ⟨fun f => ?_, ?_⟩
        · conv => whnf
          refine ⟨rfl, ?_⟩
          conv => whnf
          exact ⟨⟨.refl _, .refl _, .refl _, .refl _, .refl _, .refl _, .refl _, .refl _, .refl _, .refl _, .refl _, .refl _, .refl _, .refl _, .refl _, .refl _, trivial⟩, rfl, rfl, rfl, rfl, rfl, rfl, rfl, trivial⟩
        refine ⟨fun f => ?_, ?_⟩
        · conv => whnf
          exact ⟨⟨.refl _, .refl _, .refl _, .refl _, .refl _, .refl _, .refl _, .refl _, .refl _, .refl _, .refl _, .refl _, .refl _, .refl _, .refl _, .refl _, trivial⟩, rfl, rfl, rfl, rfl, rfl, rfl, rfl, trivial⟩
        refine ⟨fun f => ?_, ?_⟩
        · conv => whnf
          refine ⟨rfl, ?_⟩
          conv => whnf
          exact ⟨⟨.refl _, .refl _, .refl _, .refl _, .refl _, .refl _, .refl _, .refl _, .refl _, .refl _, .refl _, .refl _, .refl _, .refl _, .refl _, .refl _, trivial⟩, rfl, rfl, rfl, rfl, rfl, rfl, rfl, trivial⟩
        refine ⟨fun f => ?_, ?_⟩
        · conv => whnf
          exact ⟨⟨.refl _, .refl _, .refl _, .refl _, .refl _, .refl _, .refl _, .refl _, .refl _, .refl _, .refl _, .refl _, .refl _, .refl _, .refl _, .refl _, trivial⟩, rfl, rfl, rfl, rfl, rfl, rfl, rfl, trivial⟩
        refine ⟨fun f => ?_, ?_⟩
        · conv => whnf
          refine ⟨rfl, ?_⟩
          conv => whnf
          exact ⟨⟨.refl _, .refl _, .refl _, .refl _, .refl _, .refl _, .refl _, .refl _, .refl _, .refl _, .refl _, .refl _, .refl _, .refl _, .refl _, .refl _, trivial⟩, rfl, rfl, rfl, rfl, rfl, rfl, rfl, trivial⟩
        exact trivial
      · intro f hf
        have e7 := hf 7 (by decide +kernel)
        have e9 := hf 9 (by decide +kernel)
        have e11 := hf 11 (by decide +kernel)
        refine ⟨(), [(2000, 2000), (2001, 2001), (2002, 2002), (5, 5), (8, 8), (9, 9), (10, 10)], ⟨.refl _, .refl _, .refl _, .refl _, .refl _, .refl _, .refl _, trivial⟩, rfl, rfl, rfl, rfl, rfl, rfl, rfl, rfl, rfl, rfl, rfl, rfl, rfl, rfl, ?_, trivial⟩
        show some (HObj.box b10 [.str n.name, .int .i64 n.kind, .str n.text, .str n.target, bif f 7 then .int .i64 n.n1 else .int .i64 0, bif f 9 then .int .i64 n.n2 else .int .i64 0, bif f 11 then .int .i64 n.n3 else .int .i64 0, .int .i64 n.n4, .int .i64 0, .int .i64 0, .nils, .nils]) = _
        rw [e7, e9, e11]; rfl
    · refine Tri.skip ?_
      conv => whnf
      have hk : keeps v = false := by
        cases h1 : (v == 2) with
        | true => rw [h1] at hc; cases hc
        | false =>
          rw [h1] at hc
          simpa [keeps, h1] using hc
      rw [hk]
      exact ⟨(), [(2000, 2000), (2001, 2001), (2002, 2002), (5, 5), (8, 8), (9, 9), (10, 10)], ⟨.refl _, .refl _, .refl _, .refl _, .refl _, .refl _, .refl _, trivial⟩, rfl, rfl, rfl, rfl, rfl, rfl, rfl, rfl, rfl, rfl, rfl, rfl, rfl, rfl, rfl, trivial⟩
  · rintro ⟨⟩
    refine Tri.joinK (α := { x : D // DLe x (.sl .none 2 ((if v = 3 then n.streams else []).map encS)) }) (fun x => [(0, .int .i64 v), (2, .int .i64 d), (3, .fn (.func fid) [] caps), (5, .box 5 b5 0), (8, .box 8 b8 0), (9, .box 9 b9 0), (10, .box 10 b10 0)]) (fun x => [(2000, A.o1 s), (2001, A.o2 s), (2002, A.o3 s), (5, .box b5 [.str n.name, .int .i64 n.kind, .str n.text, .str n.target, .int .i64 n.n1, .int .i64 n.n2, .int .i64 n.n3, .int .i64 n.n4, .int .i64 n.n5, .int .i64 n.n6, .sl .none 12 (n.kids.map enc), .sl .none 2 (n.streams.map encS), .str p, .str q]), (8, .box b8 [.str [], .int .i64 0, .str [], .str [], .int .i64 0, .int .i64 0, .int .i64 0, .int .i64 0, .int .i64 0, .int .i64 0, .nils, .nils]), (9, .box b9 [.str n.name, .int .i64 n.kind, .str n.text, .str n.target, .int .i64 n.n1, .int .i64 n.n2, .int .i64 n.n3, .int .i64 n.n4, .int .i64 n.n5, .int .i64 n.n6, .sl .none 12 (n.kids.map enc), .sl .none 2 (n.streams.map encS)]), (10, .box b10 [.str n.name, .int .i64 n.kind, .str n.text, .str n.target, .int .i64 (if keeps v then n.n1 else 0), .int .i64 (if keeps v then n.n2 else 0), .int .i64 (if keeps v then n.n3 else 0), .int .i64 n.n4, .int .i64 0, .int .i64 0, .nils, x.1])]) ?_ ?_
    · refine Tri.seq ?_
      refine Tri.region ti_ok ?_
      conv => whnf
      refine Tri.cond _ rfl (fun hc => ?_) (fun hc => ?_)
      · refine Tri.region ti_ok ?_
        conv => whnf
        refine ⟨rfl, ?_⟩
        conv => whnf
        refine ⟨[.sl .none 2 (n.streams.map encS)], _, fun _ => F104 n.streams hsn, ⟨.refl _, trivial⟩, ?_⟩
        conv => whnf
        refine ⟨rfl, ?_⟩
        conv => whnf
        have hv3 : v = 3 := by simpa using hc
        exact ⟨⟨.sl .none 2 (n.streams.map encS), by rw [if_pos hv3]; exact .refl _⟩, [(2000, 2000), (2001, 2001), (2002, 2002), (5, 5), (8, 8), (9, 9), (10, 10)], ⟨.refl _, .refl _, .refl _, .refl _, .refl _, .refl _, .refl _, trivial⟩, rfl, rfl, rfl, rfl, rfl, rfl, rfl, rfl, rfl, rfl, rfl, rfl, rfl, rfl, rfl, trivial⟩
      · refine Tri.skip ?_
        conv => whnf
        have hv3 : ¬ v = 3 := by simpa using hc
        exact ⟨⟨.nils, by rw [if_neg hv3]; exact .nil⟩, [(2000, 2000), (2001, 2001), (2002, 2002), (5, 5), (8, 8), (9, 9), (10, 10)], ⟨.refl _, .refl _, .refl _, .refl _, .refl _, .refl _, .refl _, trivial⟩, rfl, rfl, rfl, rfl, rfl, rfl, rfl, rfl, rfl, rfl, rfl, rfl, rfl, rfl, rfl, trivial⟩
    · rintro ⟨sd, hsd⟩
      refine Tri.boxLe 10 (cs' := [.str n.name, .int .i64 n.kind, .str n.text, .str n.target, .int .i64 (if keeps v then n.n1 else 0), .int .i64 (if keeps v then n.n2 else 0), .int .i64 (if keeps v then n.n3 else 0), .int .i64 n.n4, .int .i64 0, .int .i64 0, .nils, .sl .none 2 ((if v = 3 then n.streams else []).map encS)]) rfl ⟨.refl _, .refl _, .refl _, .refl _, .refl _, .refl _, .refl _, .refl _, .refl _, .refl _, .refl _, hsd, trivial⟩ ?_
      refine Tri.seq ?_
      refine Tri.regionX ti_ok ?_
      conv => whnf
      refine .inl ?_
      conv => whnf
      refine ⟨rfl, ?_⟩
      conv => whnf
      refine .inr (XOp.call rfl ([encQ n p q] ++ caps) [(2000, 2000), (2001, 2001), (2002, 2002)] (hvisit n p q s) rfl ⟨.refl _, LeL.refl _⟩ ?_)
      rintro d' H' ⟨rfl, e1, e2, e3⟩
      refine ⟨_, .refl _, ?_⟩
      conv => whnf
      refine Tri.forgetK [(0, .int .i64 v), (2, .int .i64 d), (3, .fn (.func fid) [] caps), (5, .box 5 b5 0), (8, .box 8 b8 0), (9, .box 9 b9 0), (10, .box 10 b10 0)] [(2000, A.o1 (upd p q s)), (2001, A.o2 (upd p q s)), (2002, A.o3 (upd p q s)), (5, .box b5 [.str n.name, .int .i64 n.kind, .str n.text, .str n.target, .int .i64 n.n1, .int .i64 n.n2, .int .i64 n.n3, .int .i64 n.n4, .int .i64 n.n5, .int .i64 n.n6, .sl .none 12 (n.kids.map enc), .sl .none 2 (n.streams.map encS), .str p, .str q]), (8, .box b8 [.str [], .int .i64 0, .str [], .str [], .int .i64 0, .int .i64 0, .int .i64 0, .int .i64 0, .int .i64 0, .int .i64 0, .nils, .nils]), (9, .box b9 [.str n.name, .int .i64 n.kind, .str n.text, .str n.target, .int .i64 n.n1, .int .i64 n.n2, .int .i64 n.n3, .int .i64 n.n4, .int .i64 n.n5, .int .i64 n.n6, .sl .none 12 (n.kids.map enc), .sl .none 2 (n.streams.map encS)]), (10, .box b10 [.str n.name, .int .i64 n.kind, .str n.text, .str n.target, .int .i64 (if keeps v then n.n1 else 0), .int .i64 (if keeps v then n.n2 else 0), .int .i64 (if keeps v then n.n3 else 0), .int .i64 n.n4, .int .i64 0, .int .i64 0, .nils, .sl .none 2 ((if v = 3 then n.streams else []).map encS)])] [(2000, 2000), (2001, 2001), (2002, 2002), (5, 5), (8, 8), (9, 9), (10, 10)] ⟨⟨.refl _, .refl _, .refl _, .refl _, .refl _, .refl _, .refl _, trivial⟩, rfl, rfl, e1, rfl, e2, rfl, e3, rfl, rfl, rfl, rfl, rfl, rfl, rfl, rfl, trivial⟩ ?_
      refine Tri.seq ?_
      refine Tri.region ti_ok ?_
      conv => whnf
      refine ⟨rfl, ?_⟩
      conv => whnf
      refine ⟨[.int .i64 v, .sl .none 12 (n.kids.map enc)], _, fun _ => hcall, ⟨.refl _, .refl _, trivial⟩, ?_⟩
      conv => whnf
      refine Tri.seq ?_
      refine Tri.seq ?_
      refine Tri.region ti_ok ?_
      conv => whnf
      refine ⟨rfl, ?_⟩
      conv => whnf
      refine Tri.block ?_
      refine Tri.boxLe 10 (cs' := [.str n.name, .int .i64 n.kind, .str n.text, .str n.target, .int .i64 (if keeps v then n.n1 else 0), .int .i64 (if keeps v then n.n2 else 0), .int .i64 (if keeps v then n.n3 else 0), .int .i64 n.n4, .int .i64 0, .int .i64 0, .raw (.slice none 0 0), .sl .none 2 ((if v = 3 then n.streams else []).map encS)]) rfl ⟨.refl _, .refl _, .refl _, .refl _, .refl _, .refl _, .refl _, .refl _, .refl _, .refl _, DLe.nilRaw, .refl _, trivial⟩ ?_
      refine Tri.rowNil 109 12 25 ?_
      refine Tri.loopK (α := { x : (Nat × S) × Value // x.1.1 ≤ n.kids.length ∧ visL upd nm v d n.kids (nm n.kids) p q (upd p q s) = visL upd nm v d (n.kids.drop x.1.1) ((nm n.kids).drop x.1.1) p q x.1.2 }) (fun x => [(0, .int .i64 v), (2, .int .i64 d), (3, .fn (.func fid) [] caps), (5, .box 5 b5 0), (8, .box 8 b8 0), (9, .box 9 b9 0), (10, .box 10 b10 0), (11, .sl .none 1 (strs (nm n.kids))), (61, .sl .none 12 (n.kids.map enc)), (62, .int .i64 (n.kids.map enc).length), (63, .int .i64 x.1.1.1)]) (fun x => [(2000, A.o1 x.1.1.2), (2001, A.o2 x.1.1.2), (2002, A.o3 x.1.1.2), (5, .box b5 [.str n.name, .int .i64 n.kind, .str n.text, .str n.target, .int .i64 n.n1, .int .i64 n.n2, .int .i64 n.n3, .int .i64 n.n4, .int .i64 n.n5, .int .i64 n.n6, .sl .none 12 (n.kids.map enc), .sl .none 2 (n.streams.map encS), .str p, .str q]), (8, .box b8 [.str [], .int .i64 0, .str [], .str [], .int .i64 0, .int .i64 0, .int .i64 0, .int .i64 0, .int .i64 0, .int .i64 0, .nils, .nils]), (9, .box b9 [.str n.name, .int .i64 n.kind, .str n.text, .str n.target, .int .i64 n.n1, .int .i64 n.n2, .int .i64 n.n3, .int .i64 n.n4, .int .i64 n.n5, .int .i64 n.n6, .sl .none 12 (n.kids.map enc), .sl .none 2 (n.streams.map encS)]), (10, .box b10 [.str n.name, .int .i64 n.kind, .str n.text, .str n.target, .int .i64 (if keeps v then n.n1 else 0), .int .i64 (if keeps v then n.n2 else 0), .int .i64 (if keeps v then n.n3 else 0), .int .i64 n.n4, .int .i64 0, .int .i64 0, .raw x.1.2, .sl .none 2 ((if v = 3 then n.streams else []).map encS)]), (109, .row x.1.2 ((showGL nm v (d + 1) (n.kids.take x.1.1.1) ((nm n.kids).take x.1.1.1)).map encTop) 12 25)]) (fun x => n.kids.length - x.1.1.1) ⟨((0, upd p q s), .slice none 0 0), Nat.zero_le _, rfl⟩ [(2000, 2000), (2001, 2001), (2002, 2002), (5, 5), (8, 8), (9, 9), (10, 10), (109, 109)]
        ⟨⟨.refl _, .refl _, .refl _, .refl _, .refl _, .refl _, .refl _, .refl _, .refl _, .refl _, .refl _, trivial⟩, rfl, rfl, rfl, rfl, rfl, rfl, rfl, rfl, rfl, rfl, rfl, rfl, rfl, rfl, rfl, rfl, congrArg (fun z => some (HObj.row (.slice none 0 0) z 12 25)) (by simp [showGL]), trivial⟩ ?_
      generalize hs0 : upd p q s = s0 at *
      generalize hs00 : s = s00 at *
      rintro ⟨⟨⟨i, s⟩, rv⟩, hi, hvis⟩
      dsimp only at hi hvis ⊢
      refine Tri.seq ?_
      refine Tri.region ti_ok ?_
      conv => whnf
      refine Tri.seq ?_
      refine Tri.cond _ rfl (fun hc => ?_) (fun hc => ?_)
      · refine Tri.skip ?_
        conv => whnf
        have hia : i < n.kids.length := by simpa using hc
        have hin : i < (nm n.kids).length := by omega
        have hkz := kid_sz hia
        have hdk : n.kids.drop i = n.kids[i] :: n.kids.drop (i + 1) := List.drop_eq_getElem_cons hia
        have hdn : (nm n.kids).drop i = (nm n.kids)[i] :: (nm n.kids).drop (i + 1) := List.drop_eq_getElem_cons hin
        have hmb := hnb _ (List.getElem_mem hin)
        have hj1 := joinQ_len p (nm n.kids)[i] (d == 1)
        have hj2 := joinQ_len q n.kids[i].name (d == 1)
        refine Tri.seq ?_
        refine Tri.block ?_
        refine Tri.seq ?_
        refine Tri.region ti_ok ?_
        conv => whnf
        refine ⟨fun _ => by simp; omega, ?_⟩
        conv => whnf
        refine ⟨encTop n.kids[i], fun _ => get_kid hia, ?_⟩
        conv => whnf
        intro b14
        conv => whnf
        refine ⟨rfl, ?_⟩
        conv => whnf
        refine Tri.seq ?_
        refine Tri.region ti_ok ?_
        conv => whnf
        refine ⟨rfl, ?_⟩
        conv => whnf
        refine ⟨fun h => h, ?_⟩
        conv => whnf
        refine .inl ⟨fun h => by simp only [InR]; omega, ?_⟩
        conv => whnf
        refine ⟨fun h => h, ?_⟩
        conv => whnf
        refine ⟨fun h => h, ?_⟩
        conv => whnf
        refine ⟨fun h => h, ?_⟩
        conv => whnf
        refine ⟨[.int .i64 v, encTop n.kids[i], .int .i64 (d + 1)], _, fun h => F106 v _ _, ⟨.refl _, .refl _, .refl _, trivial⟩, ?_⟩
        conv => whnf
        refine ⟨fun h0 h => by first | exact h | (rw [h]; rfl) | (rw [h0, h]; rfl), ?_⟩
        conv => whnf
        refine Tri.cond _ rfl (fun hc => ?_) (fun hc => ?_)
        · refine Tri.seq ?_
          have hs : shown v n.kids[i] (d + 1) = true := by
            cases h1 : decide ((i : Int) < ((strs (nm n.kids)).length : Int)) with
            | true => rw [h1] at hc; exact hc
            | false => rw [h1] at hc; cases hc
          refine Tri.region ti_ok ?_
          conv => whnf
          refine ⟨rfl, ?_⟩
          conv => whnf
          refine ⟨rfl, ?_⟩
          conv => whnf
          refine ⟨[.str q, .str n.kids[i].name, .bool (d == 1)], _, fun _ => F107 _ _ _ (by omega), ⟨.refl _, .refl _, .refl _, trivial⟩, ?_⟩
          conv => whnf
          refine Tri.seq ?_
          refine Tri.region ti_ok ?_
          conv => whnf
          refine ⟨fun _ => by simp [strs]; omega, ?_⟩
          conv => whnf
          refine ⟨.str (nm n.kids)[i], fun _ => by simp [strs, hin], ?_⟩
          conv => whnf
          refine ⟨rfl, ?_⟩
          conv => whnf
          generalize hX : (showGL nm v (d + 1) (n.kids.take i) ((nm n.kids).take i)).map encTop = X at *
          have hXl : X.length ≤ 64 := by rw [← hX, List.length_map]; have := showGL_len nm v (d + 1) (n.kids.take i) ((nm n.kids).take i); simp at this; omega
          have hXn : X ++ [encTop (showG nm v (d + 1) (n.kids[i].named (nm n.kids)[i]))] = (showGL nm v (d + 1) (n.kids.take (i + 1)) ((nm n.kids).take (i + 1))).map encTop := by rw [showGL_next nm v (d + 1) hia hin, if_pos hs, ← hX]; simp
          have hrec := ih (n.kids[i].named (nm n.kids)[i]) (by rw [sz_named]; omega) ((okT_named _ _).2 (okL_get hokl (List.getElem_mem hia)).2) (joinQ p (nm n.kids)[i] (d == 1)) (joinQ q n.kids[i].name (d == 1)) (d + 1) s (by omega) (by rw [sz_named]; omega) (by rw [sz_named]; omega) (by rw [sz_named]; omega)
          rw [vis_named] at hrec
          have hnext : visL upd nm v d (n.kids.drop i) ((nm n.kids).drop i) p q s = visL upd nm v d (n.kids.drop (i + 1)) ((nm n.kids).drop (i + 1)) p q (vis upd nm v (d + 1) n.kids[i] (joinQ p (nm n.kids)[i] (d == 1)) (joinQ q n.kids[i].name (d == 1)) s) := by rw [hdk, hdn, visL, if_pos hs]
          generalize showG nm v (d + 1) (n.kids[i].named (nm n.kids)[i]) = R at *
          generalize vis upd nm v (d + 1) n.kids[i] (joinQ p (nm n.kids)[i] (d == 1)) (joinQ q n.kids[i].name (d == 1)) s = s' at *
          generalize (nm n.kids)[i] = M at *
          generalize n.kids[i] = k at *
          refine Tri.bitsI ti_ok mixed (α := Option Addr × Nat × Nat) (fun x f => [(0, .int .i64 v), (2, .int .i64 d), (3, .fn (.func fid) [] caps), (5, .box 5 b5 0), (8, .box 8 b8 0), (9, .box 9 b9 0), (10, .box 10 b10 0), (11, .sl .none 1 (strs (nm n.kids))), (14, .box 14 b14 0), (15, .str (joinQ q k.name (d == 1))), (61, .sl .none 12 (n.kids.map enc)), (62, .int .i64 (n.kids.map enc).length), (63, .int .i64 i), (91, bif f 0 then .box 10 b10 10 else .any), (92, bif f 1 then .raw rv else .any), (93, bif f 2 then .int .i64 v else .any), (94, bif f 3 then encTop (k.named M) else .any), (95, bif f 4 then .box 5 b5 12 else .any), (96, bif f 5 then .str p else .any), (97, bif f 6 then .box 14 b14 0 else .any), (98, bif f 7 then .str M else .any), (99, bif f 8 then .int .i64 d else .any), (100, bif f 9 then .bool (d == 1) else .any), (101, bif f 10 then .str (joinQ p M (d == 1)) else .any), (102, bif f 11 then .str (joinQ q k.name (d == 1)) else .any), (103, bif f 12 then encQ (k.named M) (joinQ p M (d == 1)) (joinQ q k.name (d == 1)) else .any), (104, bif f 13 then .int .i64 d else .any), (105, bif f 14 then .int .i64 (d + 1) else .any), (106, bif f 15 then .fn (.func fid) [] caps else .any), (107, bif f 16 then encTop R else .any), (108, bif f 17 then .sl .full 12 [encTop R] else .any), (109, bif f 18 then .raw (.slice x.1 x.2.1 x.2.2) else .any), (110, bif f 19 then .box 10 b10 10 else .any)])
            (fun x f => [(2000, A.o1 (bif f 16 then s' else s)), (2001, A.o2 (bif f 16 then s' else s)), (2002, A.o3 (bif f 16 then s' else s)), (5, HObj.box b5 [.str n.name, .int .i64 n.kind, .str n.text, .str n.target, .int .i64 n.n1, .int .i64 n.n2, .int .i64 n.n3, .int .i64 n.n4, .int .i64 n.n5, .int .i64 n.n6, .sl .none 12 (n.kids.map enc), .sl .none 2 (n.streams.map encS), .str p, .str q]), (8, HObj.box b8 [.str [], .int .i64 0, .str [], .str [], .int .i64 0, .int .i64 0, .int .i64 0, .int .i64 0, .int .i64 0, .int .i64 0, .nils, .nils]), (9, HObj.box b9 [.str n.name, .int .i64 n.kind, .str n.text, .str n.target, .int .i64 n.n1, .int .i64 n.n2, .int .i64 n.n3, .int .i64 n.n4, .int .i64 n.n5, .int .i64 n.n6, .sl .none 12 (n.kids.map enc), .sl .none 2 (n.streams.map encS)]), (10, HObj.box b10 [.str n.name, .int .i64 n.kind, .str n.text, .str n.target, .int .i64 (if keeps v then n.n1 else 0), .int .i64 (if keeps v then n.n2 else 0), .int .i64 (if keeps v then n.n3 else 0), .int .i64 n.n4, .int .i64 0, .int .i64 0, .raw (bif f 20 then .slice x.1 x.2.1 x.2.2 else rv), .sl .none 2 ((if v = 3 then n.streams else []).map encS)]), (14, HObj.box b14 [.str M, .int .i64 k.kind, .str k.text, .str k.target, .int .i64 k.n1, .int .i64 k.n2, .int .i64 k.n3, .int .i64 k.n4, .int .i64 k.n5, .int .i64 k.n6, .sl .none 12 (k.kids.map enc), .sl .none 2 (k.streams.map encS)]), (109, bif f 18 then HObj.row (.slice x.1 x.2.1 x.2.2) (X ++ [encTop R]) 12 25 else HObj.row rv X 12 25)]) (by decide +kernel) (none, 0, 0) ?_ ?_ ?_ ?_
          · exact ⟨.refl _, .refl _, .refl _, .refl _, .refl _, .refl _, .refl _, .refl _, .refl _, .refl _, .refl _, .refl _, .refl _, .any _, .any _, .any _, .any _, .any _, .any _, .any _, .any _, .any _, .any _, .any _, .any _, .any _, .any _, .any _, .any _, .any _, .any _, .any _, .any _, trivial⟩
          · exact ⟨rfl, rfl, rfl, rfl, rfl, rfl, rfl, rfl, rfl, trivial⟩
          · conv => whnf
            refine ⟨fun x f hI => ?_, ?_⟩
            · obtain ⟨f, rfl⟩ := off f 20 (hI.no 20 0 rfl rfl)
              conv => whnf
              exact ⟨x, ⟨.refl _, .refl _, .refl _, .refl _, .refl _, .refl _, .refl _, .refl _, .refl _, .refl _, .refl _, .refl _, .refl _, .refl _, .refl _, .refl _, .refl _, .refl _, .refl _, .refl _, .refl _, .refl _, .refl _, .refl _, .refl _, .refl _, .refl _, .refl _, .refl _, .refl _, .refl _, .refl _, .refl _, trivial⟩, rfl, rfl, rfl, rfl, rfl, rfl, rfl, rfl, rfl, trivial⟩
            refine ⟨fun x f hI => ?_, ?_⟩
            · obtain ⟨f, rfl⟩ := off f 20 (hI.no 20 1 rfl rfl)
              conv => whnf
              refine .inl ?_
              conv => whnf
              refine ⟨rfl, ?_⟩
              conv => whnf
              exact ⟨x, ⟨.refl _, .refl _, .refl _, .refl _, .refl _, .refl _, .refl _, .refl _, .refl _, .refl _, .refl _, .refl _, .refl _, .refl _, .refl _, .refl _, .refl _, .refl _, .refl _, .refl _, .refl _, .refl _, .refl _, .refl _, .refl _, .refl _, .refl _, .refl _, .refl _, .refl _, .refl _, .refl _, .refl _, trivial⟩, rfl, rfl, rfl, rfl, rfl, rfl, rfl, rfl, rfl, trivial⟩
            refine ⟨fun x f hI => ?_, ?_⟩
            · obtain ⟨f, rfl⟩ := off f 20 (hI.no 20 2 rfl rfl)
              conv => whnf
              exact ⟨x, ⟨.refl _, .refl _, .refl _, .refl _, .refl _, .refl _, .refl _, .refl _, .refl _, .refl _, .refl _, .refl _, .refl _, .refl _, .refl _, .refl _, .refl _, .refl _, .refl _, .refl _, .refl _, .refl _, .refl _, .refl _, .refl _, .refl _, .refl _, .refl _, .refl _, .refl _, .refl _, .refl _, .refl _, trivial⟩, rfl, rfl, rfl, rfl, rfl, rfl, rfl, rfl, rfl, trivial⟩
            refine ⟨fun x f hI => ?_, ?_⟩
            · obtain ⟨f, rfl⟩ := off f 20 (hI.no 20 3 rfl rfl)
              conv => whnf
              refine .inl ?_
              conv => whnf
              refine ⟨rfl, ?_⟩
              conv => whnf
              exact ⟨x, ⟨.refl _, .refl _, .refl _, .refl _, .refl _, .refl _, .refl _, .refl _, .refl _, .refl _, .refl _, .refl _, .refl _, .refl _, .refl _, .refl _, .refl _, .refl _, .refl _, .refl _, .refl _, .refl _, .refl _, .refl _, .refl _, .refl _, .refl _, .refl _, .refl _, .refl _, .refl _, .refl _, .refl _, trivial⟩, rfl, rfl, rfl, rfl, rfl, rfl, rfl, rfl, rfl, trivial⟩
            refine ⟨fun x f hI => ?_, ?_⟩
            · obtain ⟨f, rfl⟩ := off f 20 (hI.no 20 4 rfl rfl)
              conv => whnf
              exact ⟨x, ⟨.refl _, .refl _, .refl _, .refl _, .refl _, .refl _, .refl _, .refl _, .refl _, .refl _, .refl _, .refl _, .refl _, .refl _, .refl _, .refl _, .refl _, .refl _, .refl _, .refl _, .refl _, .refl _, .refl _, .refl _, .refl _, .refl _, .refl _, .refl _, .refl _, .refl _, .refl _, .refl _, .refl _, trivial⟩, rfl, rfl, rfl, rfl, rfl, rfl, rfl, rfl, rfl, trivial⟩
            refine ⟨fun x f hI => ?_, ?_⟩
            · obtain ⟨f, rfl⟩ := off f 20 (hI.no 20 5 rfl rfl)
              conv => whnf
              refine .inl ?_
              conv => whnf
              refine ⟨rfl, ?_⟩
              conv => whnf
              exact ⟨x, ⟨.refl _, .refl _, .refl _, .refl _, .refl _, .refl _, .refl _, .refl _, .refl _, .refl _, .refl _, .refl _, .refl _, .refl _, .refl _, .refl _, .refl _, .refl _, .refl _, .refl _, .refl _, .refl _, .refl _, .refl _, .refl _, .refl _, .refl _, .refl _, .refl _, .refl _, .refl _, .refl _, .refl _, trivial⟩, rfl, rfl, rfl, rfl, rfl, rfl, rfl, rfl, rfl, trivial⟩
            refine ⟨fun x f hI => ?_, ?_⟩
            · obtain ⟨f, rfl⟩ := off f 20 (hI.no 20 6 rfl rfl)
              conv => whnf
              exact ⟨x, ⟨.refl _, .refl _, .refl _, .refl _, .refl _, .refl _, .refl _, .refl _, .refl _, .refl _, .refl _, .refl _, .refl _, .refl _, .refl _, .refl _, .refl _, .refl _, .refl _, .refl _, .refl _, .refl _, .refl _, .refl _, .refl _, .refl _, .refl _, .refl _, .refl _, .refl _, .refl _, .refl _, .refl _, trivial⟩, rfl, rfl, rfl, rfl, rfl, rfl, rfl, rfl, rfl, trivial⟩
            refine ⟨fun x f hI => ?_, ?_⟩
            · obtain ⟨f, rfl⟩ := off f 20 (hI.no 20 7 rfl rfl)
              conv => whnf
              refine .inl ?_
              conv => whnf
              refine ⟨rfl, ?_⟩
              conv => whnf
              exact ⟨x, ⟨.refl _, .refl _, .refl _, .refl _, .refl _, .refl _, .refl _, .refl _, .refl _, .refl _, .refl _, .refl _, .refl _, .refl _, .refl _, .refl _, .refl _, .refl _, .refl _, .refl _, .refl _, .refl _, .refl _, .refl _, .refl _, .refl _, .refl _, .refl _, .refl _, .refl _, .refl _, .refl _, .refl _, trivial⟩, rfl, rfl, rfl, rfl, rfl, rfl, rfl, rfl, rfl, trivial⟩
            refine ⟨fun x f hI => ?_, ?_⟩
            · obtain ⟨f, rfl⟩ := off f 20 (hI.no 20 8 rfl rfl)
              conv => whnf
              exact ⟨x, ⟨.refl _, .refl _, .refl _, .refl _, .refl _, .refl _, .refl _, .refl _, .refl _, .refl _, .refl _, .refl _, .refl _, .refl _, .refl _, .refl _, .refl _, .refl _, .refl _, .refl _, .refl _, .refl _, .refl _, .refl _, .refl _, .refl _, .refl _, .refl _, .refl _, .refl _, .refl _, .refl _, .refl _, trivial⟩, rfl, rfl, rfl, rfl, rfl, rfl, rfl, rfl, rfl, trivial⟩
            refine ⟨fun x f hI => ?_, ?_⟩
            · obtain ⟨f, rfl⟩ := off f 20 (hI.no 20 9 rfl rfl)
              conv => whnf
              exact ⟨x, ⟨.refl _, .refl _, .refl _, .refl _, .refl _, .refl _, .refl _, .refl _, .refl _, .refl _, .refl _, .refl _, .refl _, .refl _, .refl _, .refl _, .refl _, .refl _, .refl _, .refl _, .refl _, .refl _, .refl _, .refl _, .refl _, .refl _, .refl _, .refl _, .refl _, .refl _, .refl _, .refl _, .refl _, trivial⟩, rfl, rfl, rfl, rfl, rfl, rfl, rfl, rfl, rfl, trivial⟩
            refine ⟨fun x f hI => ?_, ?_⟩
            · obtain ⟨f, rfl⟩ := off f 20 (hI.no 20 10 rfl rfl)
              conv => whnf
              refine .inl ?_
              conv => whnf
              refine ⟨[.str p, .str M, .bool (d == 1)], _, fun _ => F107 _ _ _ (by omega), ⟨.refl _, .refl _, .refl _, trivial⟩, ?_⟩
              conv => whnf
              exact ⟨x, ⟨.refl _, .refl _, .refl _, .refl _, .refl _, .refl _, .refl _, .refl _, .refl _, .refl _, .refl _, .refl _, .refl _, .refl _, .refl _, .refl _, .refl _, .refl _, .refl _, .refl _, .refl _, .refl _, .refl _, .refl _, .refl _, .refl _, .refl _, .refl _, .refl _, .refl _, .refl _, .refl _, .refl _, trivial⟩, rfl, rfl, rfl, rfl, rfl, rfl, rfl, rfl, rfl, trivial⟩
            refine ⟨fun x f hI => ?_, ?_⟩
            · obtain ⟨f, rfl⟩ := off f 20 (hI.no 20 11 rfl rfl)
              conv => whnf
              exact ⟨x, ⟨.refl _, .refl _, .refl _, .refl _, .refl _, .refl _, .refl _, .refl _, .refl _, .refl _, .refl _, .refl _, .refl _, .refl _, .refl _, .refl _, .refl _, .refl _, .refl _, .refl _, .refl _, .refl _, .refl _, .refl _, .refl _, .refl _, .refl _, .refl _, .refl _, .refl _, .refl _, .refl _, .refl _, trivial⟩, rfl, rfl, rfl, rfl, rfl, rfl, rfl, rfl, rfl, trivial⟩
            refine ⟨fun x f hI => ?_, ?_⟩
            · obtain ⟨f, rfl⟩ := off f 20 (hI.no 20 12 rfl rfl)
              conv => whnf
              exact ⟨x, ⟨.refl _, .refl _, .refl _, .refl _, .refl _, .refl _, .refl _, .refl _, .refl _, .refl _, .refl _, .refl _, .refl _, .refl _, .refl _, .refl _, .refl _, .refl _, .refl _, .refl _, .refl _, .refl _, .refl _, .refl _, .refl _, .refl _, .refl _, .refl _, .refl _, .refl _, .refl _, .refl _, .refl _, trivial⟩, rfl, rfl, rfl, rfl, rfl, rfl, rfl, rfl, rfl, trivial⟩
            refine ⟨fun x f hI => ?_, ?_⟩
            · obtain ⟨f, rfl⟩ := off f 20 (hI.no 20 13 rfl rfl)
              conv => whnf
              exact ⟨x, ⟨.refl _, .refl _, .refl _, .refl _, .refl _, .refl _, .refl _, .refl _, .refl _, .refl _, .refl _, .refl _, .refl _, .refl _, .refl _, .refl _, .refl _, .refl _, .refl _, .refl _, .refl _, .refl _, .refl _, .refl _, .refl _, .refl _, .refl _, .refl _, .refl _, .refl _, .refl _, .refl _, .refl _, trivial⟩, rfl, rfl, rfl, rfl, rfl, rfl, rfl, rfl, rfl, trivial⟩
            refine ⟨fun x f hI => ?_, ?_⟩
            · obtain ⟨f, rfl⟩ := off f 20 (hI.no 20 14 rfl rfl)
              conv => whnf
              refine .inl ⟨fun _ => by simp only [InR]; omega, ?_⟩
              conv => whnf
              exact ⟨x, ⟨.refl _, .refl _, .refl _, .refl _, .refl _, .refl _, .refl _, .refl _, .refl _, .refl _, .refl _, .refl _, .refl _, .refl _, .refl _, .refl _, .refl _, .refl _, .refl _, .refl _, .refl _, .refl _, .refl _, .refl _, .refl _, .refl _, .refl _, .refl _, .refl _, .refl _, .refl _, .refl _, .refl _, trivial⟩, rfl, rfl, rfl, rfl, rfl, rfl, rfl, rfl, rfl, trivial⟩
            refine ⟨fun x f hI => ?_, ?_⟩
            · obtain ⟨f, rfl⟩ := off f 20 (hI.no 20 15 rfl rfl)
              conv => whnf
              exact ⟨x, ⟨.refl _, .refl _, .refl _, .refl _, .refl _, .refl _, .refl _, .refl _, .refl _, .refl _, .refl _, .refl _, .refl _, .refl _, .refl _, .refl _, .refl _, .refl _, .refl _, .refl _, .refl _, .refl _, .refl _, .refl _, .refl _, .refl _, .refl _, .refl _, .refl _, .refl _, .refl _, .refl _, .refl _, trivial⟩, rfl, rfl, rfl, rfl, rfl, rfl, rfl, rfl, rfl, trivial⟩
            refine ⟨fun x f hI => ?_, ?_⟩
            · obtain ⟨f, rfl⟩ := off f 20 (hI.no 20 16 rfl rfl)
              conv => whnf
              refine .inr (XOp.call rfl [.int .i64 v, encQ (k.named M) (joinQ p M (d == 1)) (joinQ q k.name (d == 1)), .int .i64 (d + 1), .fn (.func fid) [] caps] [(2000, 2000), (2001, 2001), (2002, 2002)] hrec rfl ⟨.refl _, .refl _, .refl _, .refl _, trivial⟩ ?_)
              rintro d' H' ⟨rfl, e1, e2, e3⟩
              exact ⟨_, .refl _, x, ⟨.refl _, .refl _, .refl _, .refl _, .refl _, .refl _, .refl _, .refl _, .refl _, .refl _, .refl _, .refl _, .refl _, .refl _, .refl _, .refl _, .refl _, .refl _, .refl _, .refl _, .refl _, .refl _, .refl _, .refl _, .refl _, .refl _, .refl _, .refl _, .refl _, .refl _, .refl _, .refl _, .refl _, trivial⟩, e1, e2, e3, rfl, rfl, rfl, rfl, rfl, rfl, trivial⟩
            refine ⟨fun x f hI => ?_, ?_⟩
            · obtain ⟨f, rfl⟩ := off f 20 (hI.no 20 17 rfl rfl)
              conv => whnf
              refine ⟨trivial, ?_⟩
              conv => whnf
              exact ⟨x, ⟨.refl _, .refl _, .refl _, .refl _, .refl _, .refl _, .refl _, .refl _, .refl _, .refl _, .refl _, .refl _, .refl _, .refl _, .refl _, .refl _, .refl _, .refl _, .refl _, .refl _, .refl _, .refl _, .refl _, .refl _, .refl _, .refl _, .refl _, .refl _, .refl _, .refl _, .refl _, .refl _, .refl _, trivial⟩, rfl, rfl, rfl, rfl, rfl, rfl, rfl, rfl, rfl, trivial⟩
            refine ⟨fun x f hI => ?_, ?_⟩
            · obtain ⟨f, rfl⟩ := off f 20 (hI.no 20 18 rfl rfl)
              conv => whnf
              refine .inr (XOp.rowAppend ti_ok 109 rfl rfl rfl (fun h => by cases h) rfl rfl rfl (Nat.zero_lt_one) ?_ ?_ fun aa mm cap => ?_)
              · show (_ + 1) * 152 ≤ _; first | omega | (simp; omega)
              · show _ + 1 ≤ _; first | omega | (simp; omega)
              refine ⟨(aa, mm, cap), ⟨.refl _, .refl _, .refl _, .refl _, .refl _, .refl _, .refl _, .refl _, .refl _, .refl _, .refl _, .refl _, .refl _, .refl _, .refl _, .refl _, .refl _, .refl _, .refl _, .refl _, .refl _, .refl _, .refl _, .refl _, .refl _, .refl _, .refl _, .refl _, .refl _, .refl _, .refl _, .refl _, .refl _, trivial⟩, rfl, rfl, rfl, rfl, rfl, rfl, rfl, rfl, ?_, trivial⟩
              exact congrArg (fun z => some (HObj.row (.slice aa mm cap) z 12 25)) (by simp)
            refine ⟨fun x f hI => ?_, ?_⟩
            · obtain ⟨f, rfl⟩ := off f 20 (hI.no 20 19 rfl rfl)
              conv => whnf
              exact ⟨x, ⟨.refl _, .refl _, .refl _, .refl _, .refl _, .refl _, .refl _, .refl _, .refl _, .refl _, .refl _, .refl _, .refl _, .refl _, .refl _, .refl _, .refl _, .refl _, .refl _, .refl _, .refl _, .refl _, .refl _, .refl _, .refl _, .refl _, .refl _, .refl _, .refl _, .refl _, .refl _, .refl _, .refl _, trivial⟩, rfl, rfl, rfl, rfl, rfl, rfl, rfl, rfl, rfl, trivial⟩
            refine ⟨fun x f hI => ?_, ?_⟩
            · conv => whnf
              refine .inl ?_
              conv => whnf
              refine ⟨rfl, ?_⟩
              conv => whnf
              exact ⟨x, ⟨.refl _, .refl _, .refl _, .refl _, .refl _, .refl _, .refl _, .refl _, .refl _, .refl _, .refl _, .refl _, .refl _, .refl _, .refl _, .refl _, .refl _, .refl _, .refl _, .refl _, .refl _, .refl _, .refl _, .refl _, .refl _, .refl _, .refl _, .refl _, .refl _, .refl _, .refl _, .refl _, .refl _, trivial⟩, rfl, rfl, rfl, rfl, rfl, rfl, rfl, rfl, rfl, trivial⟩
            exact trivial
          · intro x f hf
            obtain ⟨f, rfl⟩ := on f 16 (hf 16 (by decide +kernel))
            obtain ⟨f, rfl⟩ := on f 18 (hf 18 (by decide +kernel))
            obtain ⟨f, rfl⟩ := on f 20 (hf 20 (by decide +kernel))
            conv => whnf
            refine Tri.region ti_ok ?_
            conv => whnf
            refine .inl ⟨fun _ => by simp [InR]; omega, ?_⟩
            conv => whnf
            exact ⟨⟨((i + 1, s'), .slice x.1 x.2.1 x.2.2), hia, hvis.trans hnext⟩, [(2000, 2000), (2001, 2001), (2002, 2002), (5, 5), (8, 8), (9, 9), (10, 10), (109, 109)], by show _ - (i + 1) < _ - i; omega, ⟨.refl _, .refl _, .refl _, .refl _, .refl _, .refl _, .refl _, .refl _, .refl _, .refl _, .refl _, trivial⟩, rfl, rfl, rfl, rfl, rfl, rfl, rfl, rfl, rfl, rfl, rfl, rfl, rfl, rfl, rfl, rfl, congrArg (fun z => some (HObj.row (.slice x.1 x.2.1 x.2.2) z 12 25)) hXn, trivial⟩
        · have hs : shown v n.kids[i] (d + 1) = false := by
            have h1 : decide ((i : Int) < ((strs (nm n.kids)).length : Int)) = true := by simp [strs]; omega
            rw [h1] at hc; exact hc
          refine Tri.skip ?_
          conv => whnf
          refine Tri.region ti_ok ?_
          conv => whnf
          refine .inl ⟨fun _ => by simp [InR]; omega, ?_⟩
          conv => whnf
          exact ⟨⟨((i + 1, s), rv), hia, by rw [hvis, hdk, hdn, visL, if_neg (by rw [hs]; simp)]⟩, [(2000, 2000), (2001, 2001), (2002, 2002), (5, 5), (8, 8), (9, 9), (10, 10), (109, 109)], by show _ - (i + 1) < _ - i; omega, ⟨.refl _, .refl _, .refl _, .refl _, .refl _, .refl _, .refl _, .refl _, .refl _, .refl _, .refl _, trivial⟩, rfl, rfl, rfl, rfl, rfl, rfl, rfl, rfl, rfl, rfl, rfl, rfl, rfl, rfl, rfl, rfl, congrArg (fun z => some (HObj.row rv z 12 25)) (by rw [showGL_next nm v (d + 1) hia hin, hs]; simp), trivial⟩
      · refine Tri.exit ?_
        conv => whnf
        have hin : i = n.kids.length := by simp at hc; omega
        have hrow : (showGL nm v (d + 1) (n.kids.take i) ((nm n.kids).take i)).map encTop = (showGL nm v (d + 1) n.kids (nm n.kids)).map encTop := by
          subst hin; rw [List.take_length, List.take_of_length_le (by omega)]
        rw [hrow]
        have hlen := showGL_len nm v (d + 1) n.kids (nm n.kids)
        have hnodup : ((showGL nm v (d + 1) n.kids (nm n.kids)).map NV.name).Nodup := (showGL_names nm v (d + 1) n.kids (nm n.kids)).nodup hnd
        refine Tri.seq ?_
        refine Tri.regionX ti_ok ?_
        conv => whnf
        refine .inl ?_
        conv => whnf
        refine ⟨rfl, ?_⟩
        conv => whnf
        refine .inr (XOp.call rfl [.raw rv, .fn (.func 158) [] []] [(2001, 109)] (sort_names _ hnodup (by omega) rv) rfl ⟨.refl _, .refl _, trivial⟩ ?_)
        rintro d' H' ⟨rfl, rfl⟩
        refine ⟨_, .refl _, ?_⟩
        conv => whnf
        refine Tri.forgetK [(113, .raw rv), (8, .box 8 b8 0), (10, .box 10 b10 0)] [(109, .row rv ((sortN (showGL nm v (d + 1) n.kids (nm n.kids))).map encTop) 12 25), (8, .box b8 [.str [], .int .i64 0, .str [], .str [], .int .i64 0, .int .i64 0, .int .i64 0, .int .i64 0, .int .i64 0, .int .i64 0, .nils, .nils]), (10, .box b10 [.str n.name, .int .i64 n.kind, .str n.text, .str n.target, .int .i64 (if keeps v then n.n1 else 0), .int .i64 (if keeps v then n.n2 else 0), .int .i64 (if keeps v then n.n3 else 0), .int .i64 n.n4, .int .i64 0, .int .i64 0, .raw rv, .sl .none 2 ((if v = 3 then n.streams else []).map encS)]), (2000, A.o1 s), (2001, A.o2 s), (2002, A.o3 s)] [(109, 109), (8, 8), (10, 10), (2000, 2000), (2001, 2001), (2002, 2002)] ⟨⟨.refl _, .refl _, .refl _, trivial⟩, rfl, rfl, rfl, rfl, rfl, rfl, rfl, rfl, rfl, rfl, rfl, rfl, rfl, trivial⟩ ?_
        refine Tri.commitOwn 109 113 rfl ?_
        refine Tri.boxOf 10 113 (cs' := [.str n.name, .int .i64 n.kind, .str n.text, .str n.target, .int .i64 (if keeps v then n.n1 else 0), .int .i64 (if keeps v then n.n2 else 0), .int .i64 (if keeps v then n.n3 else 0), .int .i64 n.n4, .int .i64 0, .int .i64 0, .sl .none 12 ((sortN (showGL nm v (d + 1) n.kids (nm n.kids))).map encTop), .sl .none 2 ((if v = 3 then n.streams else []).map encS)]) rfl rfl (fun w C hr us h => RepL.cell (i := 10) h fun u hu => (h.raw_get (i := 10) rfl hu) ▸ hr) ?_
        refine Tri.seq ?_
        refine Tri.region ti_ok ?_
        conv => whnf
        refine ⟨rfl, ?_⟩
        conv => whnf
        refine ⟨rfl, ?_⟩
        conv => whnf
        refine Tri.ret ?_
        conv => whnf
        have hv0 : vis upd nm v d n p q s00 = s := by
          rw [vis_eq, hs0, hvis, List.drop_eq_nil_of_le (by omega), visL_nil]
        rw [hv0]
        refine ⟨encTop (showG nm v d n), ⟨rfl, ?_⟩, rfl, rfl, rfl, rfl⟩
        conv => whnf
        rw [showG_eq]
        refine DLe.agg ?_
        refine ⟨.refl _, .refl _, .refl _, .refl _, .refl _, .refl _, .refl _, .refl _, .refl _, .refl _, DLe.of_eq (congrArg (D.sl .none 12) ?_), DLe.refl _, trivial⟩
        exact List.map_congr_left fun k _ => (enc_eq k).symm
end Go.Tame.V
/- naming.tree, with a function that is called for each node. By program (mk.py). -/
namespace Go.Tame.V
open Go Go.Proofs
variable {W0 : World}
set_option maxRecDepth 10000
set_option linter.unusedVariables false
set_option linter.unusedSimpArgs false

theorem F65x {S : Type} (A : WS3 S) (upd : List UInt8 → List UInt8 → S → S) (fid : Nat) (caps : List D) (hvisit : VisitOk3 W0 A upd fid caps) (hL : LibOk W0) (nm : List NV → List (List UInt8)) (v : Int) (hnm : viewOk v = true → NamesOk W0 v nm) (n : NV) (hz : sz n + n.name.length < 10000000) (hv : valid n = true → sz n < 800000) (s : S) : DCall Tryz.prog W0 61 [.int .i64 v, encTop n, .fn (.func fid) [] caps] (A.H s) fun r H' => r = .tup [encTop (viewR nm v n).1, .int .i64 (viewR nm v n).2] ∧ H' 2000 = some (A.o1 (visR upd nm v n s)) ∧ H' 2001 = some (A.o2 (visR upd nm v n s)) ∧ H' 2002 = some (A.o3 (visR upd nm v n s)) := by
  refine DCall.intro ti_ok Tryz.func61 rfl (by decide +kernel) Tryz.ntmps61 rfl fun Γ => ?_
  refine Tri.seq ?_
  refine Tri.region ti_ok ?_
  conv => whnf
  intro b4
  conv => whnf
  intro b6
  conv => whnf
  refine Tri.seq ?_
  refine Tri.seq ?_
  refine Tri.region ti_ok ?_
  conv => whnf
  refine ⟨[.int .i64 v], _, fun _ => F91 v, ⟨.refl _, trivial⟩, ?_⟩
  conv => whnf
  refine Tri.cond _ rfl (fun hc => ?_) (fun hc => ?_)
  · refine Tri.seq ?_
    refine Tri.region ti_ok ?_
    conv => whnf
    refine ⟨rfl, ?_⟩
    conv => whnf
    refine Tri.ret ?_
    conv => whnf
    have h1 : viewOk v = false := by simpa using hc
    have h2 : viewR nm v n = (zeroN, 2) := by rw [viewR, if_pos h1]
    have h3 : visR upd nm v n s = s := by rw [visR, if_neg (by rw [h1]; simp)]
    rw [h2, h3]
    refine ⟨.tup [encTop zeroN, .int .i64 2], ?_, rfl, rfl, rfl, rfl⟩
    refine ⟨rfl, ?_⟩
    conv => whnf
    exact ⟨zeroD, .refl _, trivial⟩
  · refine Tri.skip ?_
    conv => whnf
    refine Tri.seq ?_
    refine Tri.seq ?_
    refine Tri.region ti_ok ?_
    conv => whnf
    refine ⟨rfl, ?_⟩
    conv => whnf
    refine ⟨[encTop n], _, fun _ => F39 hL n hz, ⟨.refl _, trivial⟩, ?_⟩
    conv => whnf
    refine Tri.cond _ rfl (fun hc => ?_) (fun hc => ?_)
    · refine Tri.seq ?_
      refine Tri.region ti_ok ?_
      conv => whnf
      refine ⟨rfl, ?_⟩
      conv => whnf
      refine Tri.ret ?_
      conv => whnf
      have h1 : ¬ viewOk v = false := by intro h; rename_i h0; rw [h] at h0; cases h0
      have h3 : valid n = false := by simpa using hc
      have h2 : viewR nm v n = (zeroN, 1) := by rw [viewR, if_neg h1, if_pos h3]
      have h4 : visR upd nm v n s = s := by rw [visR, if_neg (by rw [h3]; simp)]
      rw [h2, h4]
      refine ⟨.tup [encTop zeroN, .int .i64 1], ?_, rfl, rfl, rfl, rfl⟩
      refine ⟨rfl, ?_⟩
      conv => whnf
      exact ⟨zeroD, .refl _, trivial⟩
    · refine Tri.skip ?_
      conv => whnf
      refine Tri.seq ?_
      refine Tri.regionX ti_ok ?_
      conv => whnf
      refine .inl ?_
      conv => whnf
      refine ⟨rfl, ?_⟩
      conv => whnf
      have h1 : viewOk v = true := by rename_i h0; simpa using h0
      have h3 : valid n = true := by simpa using hc
      have h4 := hv h3
      refine .inr (XOp.call rfl [.int .i64 v, encQ n [] [], .int .i64 1, .fn (.func fid) [] caps] [(2000, 2000), (2001, 2001), (2002, 2002)] (F92x A upd fid caps hvisit nm v (hnm h1) _ n (Nat.lt_succ_self _) (valid_okT h3) [] [] 1 s (by omega) (by omega) (by simp only [List.length_nil]; omega) (by simp only [List.length_nil]; omega)) rfl ⟨.refl _, .refl _, .refl _, .refl _, trivial⟩ ?_)
      rintro d' H' ⟨rfl, e1, e2, e3⟩
      refine ⟨_, .refl _, ?_⟩
      conv => whnf
      refine .inl ?_
      conv => whnf
      refine ⟨rfl, ?_⟩
      conv => whnf
      refine Tri.ret ?_
      conv => whnf
      have h2 : viewR nm v n = (showG nm v 1 n, 0) := by rw [viewR, if_neg (by rw [h1]; simp), if_neg (by rw [h3]; simp)]
      have h5 : visR upd nm v n s = vis upd nm v 1 n [] [] s := by rw [visR, if_pos ⟨h1, h3⟩]
      rw [h2, h5]
      refine ⟨.tup [encTop (showG nm v 1 n), .int .i64 0], ?_, rfl, e1, e2, e3⟩
      refine ⟨rfl, ?_⟩
      conv => whnf
      exact ⟨.refl _, .refl _, trivial⟩
end Go.Tame.V
/- The functions that Path and Source call for each node. By program (mk.py). -/
namespace Go.Tame.V
open Go Go.Proofs
variable {W0 : World}
set_option maxRecDepth 10000
set_option linter.unusedVariables false
set_option linter.unusedSimpArgs false

/-- What Path and Source keep: what is looked for, what is found, the error's number. -/
def pathA (b1 b2 b3 : Nat) (x : List UInt8) : WS3 (List UInt8 × Int) := ⟨fun _ => .box b1 [.str x], fun s => .box b2 [.str s.1], fun s => .box b3 [.int .i64 s.2]⟩
def updP (x : List UInt8) (p q : List UInt8) (s : List UInt8 × Int) : List UInt8 × Int := if q == x then (p, 0) else s
def updS (x : List UInt8) (p q : List UInt8) (s : List UInt8 × Int) : List UInt8 × Int := if p == x then (q, 0) else s

theorem G65 (b1 b2 b3 : Nat) (x : List UInt8) (n : NV) (p q : List UInt8) (s : List UInt8 × Int) : DCall Tryz.prog W0 65 ([encQ n p q] ++ [.box 2000 b1 0, .box 2001 b2 0, .box 2002 b3 0]) ((pathA b1 b2 b3 x).H s) fun r H' => r = .tup [] ∧ H' 2000 = some ((pathA b1 b2 b3 x).o1 (updP x p q s)) ∧ H' 2001 = some ((pathA b1 b2 b3 x).o2 (updP x p q s)) ∧ H' 2002 = some ((pathA b1 b2 b3 x).o3 (updP x p q s)) := by
  refine DCall.intro ti_ok Tryz.func65 rfl (by decide +kernel) Tryz.ntmps65 rfl fun Γ => ?_
  refine Tri.seq ?_
  refine Tri.region ti_ok ?_
  conv => whnf
  intro b4
  conv => whnf
  refine Tri.seq ?_
  refine Tri.region ti_ok ?_
  conv => whnf
  refine ⟨rfl, ?_⟩
  conv => whnf
  refine ⟨rfl, ?_⟩
  conv => whnf
  refine Tri.cond _ rfl (fun hc => ?_) (fun hc => ?_)
  · refine Tri.region ti_ok ?_
    conv => whnf
    refine ⟨rfl, ?_⟩
    conv => whnf
    refine ⟨rfl, ?_⟩
    conv => whnf
    refine ⟨rfl, ?_⟩
    conv => whnf
    have hu : updP x p q s = (p, 0) := by rw [updP, if_pos hc]
    rw [hu]
    exact ⟨.tup [], trivial, rfl, rfl, rfl, rfl⟩
  · refine Tri.skip ?_
    conv => whnf
    have hu : updP x p q s = s := by rw [updP, if_neg (by rw [hc]; simp)]
    rw [hu]
    exact ⟨.tup [], trivial, rfl, rfl, rfl, rfl⟩
theorem G68 (b1 b2 b3 : Nat) (x : List UInt8) (n : NV) (p q : List UInt8) (s : List UInt8 × Int) : DCall Tryz.prog W0 68 ([encQ n p q] ++ [.box 2000 b1 0, .box 2001 b2 0, .box 2002 b3 0]) ((pathA b1 b2 b3 x).H s) fun r H' => r = .tup [] ∧ H' 2000 = some ((pathA b1 b2 b3 x).o1 (updS x p q s)) ∧ H' 2001 = some ((pathA b1 b2 b3 x).o2 (updS x p q s)) ∧ H' 2002 = some ((pathA b1 b2 b3 x).o3 (updS x p q s)) := by
  refine DCall.intro ti_ok Tryz.func68 rfl (by decide +kernel) Tryz.ntmps68 rfl fun Γ => ?_
  refine Tri.seq ?_
  refine Tri.region ti_ok ?_
  conv => whnf
  intro b4
  conv => whnf
  refine Tri.seq ?_
  refine Tri.region ti_ok ?_
  conv => whnf
  refine ⟨rfl, ?_⟩
  conv => whnf
  refine ⟨rfl, ?_⟩
  conv => whnf
  refine Tri.cond _ rfl (fun hc => ?_) (fun hc => ?_)
  · refine Tri.region ti_ok ?_
    conv => whnf
    refine ⟨rfl, ?_⟩
    conv => whnf
    refine ⟨rfl, ?_⟩
    conv => whnf
    refine ⟨rfl, ?_⟩
    conv => whnf
    have hu : updS x p q s = (q, 0) := by rw [updS, if_pos hc]
    rw [hu]
    exact ⟨.tup [], trivial, rfl, rfl, rfl, rfl⟩
  · refine Tri.skip ?_
    conv => whnf
    have hu : updS x p q s = s := by rw [updS, if_neg (by rw [hc]; simp)]
    rw [hu]
    exact ⟨.tup [], trivial, rfl, rfl, rfl, rfl⟩
theorem visitP (b1 b2 b3 : Nat) (x : List UInt8) : VisitOk3 W0 (pathA b1 b2 b3 x) (updP x) 65 [.box 2000 b1 0, .box 2001 b2 0, .box 2002 b3 0] := fun n p q s => G65 b1 b2 b3 x n p q s
theorem visitS (b1 b2 b3 : Nat) (x : List UInt8) : VisitOk3 W0 (pathA b1 b2 b3 x) (updS x) 68 [.box 2000 b1 0, .box 2001 b2 0, .box 2002 b3 0] := fun n p q s => G68 b1 b2 b3 x n p q s
end Go.Tame.V
/- Contracts: sourcetree's clone. By program (mkn4.py, mk.py). -/
namespace Go.Tame.V
open Go Go.Proofs
variable {W0 : World}
set_option maxRecDepth 10000
set_option linter.unusedVariables false
set_option linter.unusedSimpArgs false

theorem kids_next {l : List NV} {i : Nat} (h : i < l.length) : (l.take i).map encTop ++ [encTop l[i]] = (l.take (i + 1)).map encTop := by
  rw [List.take_add_one, List.getElem?_eq_getElem h, List.map_append]; rfl

theorem G117 : ∀ (N : Nat) (n : NV), sz n < N → sz n < 1000000000 → DFun Tryz.prog W0 117 [encTop n] (encTop n) := by
  refine fun N => Nat.rec (fun n h => absurd h (Nat.not_lt_zero _)) (fun N ih n hN hz => ?_) N
  have hss : 2 * n.streams.length ≤ sz n := by have := szS_len n.streams; have := sz_eq n; omega
  have hkl : 2 * n.kids.length ≤ sz n := by have := szL_len n.kids; have := sz_eq n; omega
  refine DFun.intro ti_ok Tryz.func117 rfl (by decide +kernel) Tryz.ntmps117 rfl fun Γ => ?_
  refine Tri.seq ?_
  refine Tri.region ti_ok ?_
  conv => whnf
  intro b1
  conv => whnf
  intro b2
  conv => whnf
  refine Tri.seq ?_
  refine Tri.region ti_ok ?_
  conv => whnf
  refine ⟨rfl, ?_⟩
  conv => whnf
  refine ⟨[.sl .none 2 (n.streams.map encS)], _, fun _ => F104 n.streams (by omega), ⟨.refl _, trivial⟩, ?_⟩
  conv => whnf
  refine ⟨rfl, ?_⟩
  conv => whnf
  refine Tri.seq ?_
  refine Tri.region ti_ok ?_
  conv => whnf
  refine ⟨rfl, ?_⟩
  conv => whnf
  refine Tri.seq ?_
  refine Tri.region ti_ok ?_
  conv => whnf
  refine ⟨rfl, ?_⟩
  conv => whnf
  refine Tri.seq ?_
  refine Tri.seq ?_
  refine Tri.region ti_ok ?_
  conv => whnf
  refine Tri.block ?_
  refine Tri.boxLe 1 (cs' := [.str n.name, .int .i64 n.kind, .str n.text, .str n.target, .int .i64 n.n1, .int .i64 n.n2, .int .i64 n.n3, .int .i64 n.n4, .int .i64 n.n5, .int .i64 n.n6, .raw (.slice none 0 0), .sl .none 2 (n.streams.map encS)]) rfl ⟨.refl _, .refl _, .refl _, .refl _, .refl _, .refl _, .refl _, .refl _, .refl _, .refl _, DLe.nilRaw, .refl _, trivial⟩ ?_
  refine Tri.rowNil 109 12 25 ?_
  refine Tri.loopK (α := { x : Nat × Value // x.1 ≤ n.kids.length }) (fun x => [(1, .box 1 b1 0), (2, .box 2 b2 0), (13, .sl .none 12 (n.kids.map enc)), (14, .int .i64 (n.kids.map enc).length), (15, .int .i64 x.1.1)]) (fun x => [(2, .box b2 [.str [], .int .i64 0, .str [], .str [], .int .i64 0, .int .i64 0, .int .i64 0, .int .i64 0, .int .i64 0, .int .i64 0, .nils, .nils]), (1, .box b1 [.str n.name, .int .i64 n.kind, .str n.text, .str n.target, .int .i64 n.n1, .int .i64 n.n2, .int .i64 n.n3, .int .i64 n.n4, .int .i64 n.n5, .int .i64 n.n6, .raw x.1.2, .sl .none 2 (n.streams.map encS)]), (109, .row x.1.2 ((n.kids.take x.1.1).map encTop) 12 25)]) (fun x => n.kids.length - x.1.1) ⟨(0, .slice none 0 0), Nat.zero_le _⟩ [(2, 2), (1, 1), (109, 109)]
    ⟨⟨.refl _, .refl _, .refl _, .refl _, .refl _, trivial⟩, rfl, rfl, rfl, rfl, rfl, rfl, congrArg (fun z => some (HObj.row (.slice none 0 0) z 12 25)) (by simp), trivial⟩ ?_
  rintro ⟨⟨i, rv⟩, hi⟩
  dsimp only at hi ⊢
  refine Tri.seq ?_
  refine Tri.region ti_ok ?_
  conv => whnf
  refine Tri.seq ?_
  refine Tri.cond (decide ((i : Int) < (n.kids.map enc).length)) rfl (fun hc => ?_) (fun hc => ?_)
  · refine Tri.skip ?_
    conv => whnf
    refine Tri.seq ?_
    refine Tri.block ?_
    refine Tri.seq ?_
    refine Tri.region ti_ok ?_
    have hia : i < n.kids.length := by simpa using hc
    have hkz := kid_sz hia
    conv => whnf
    refine ⟨fun _ => by simp; omega, ?_⟩
    conv => whnf
    refine ⟨encTop n.kids[i], fun _ => get_kid hia, ?_⟩
    conv => whnf
    intro b5
    conv => whnf
    refine ⟨rfl, ?_⟩
    conv => whnf
    refine Tri.drawTailX ti_ok 5 mixed (by kernel_rfl) ?_
    conv => whnf
    refine ⟨rfl, ?_⟩
    conv => whnf
    refine ⟨rfl, ?_⟩
    conv => whnf
    refine ⟨[encTop n.kids[i]], _, fun _ => ih n.kids[i] (by omega) (by omega), ⟨.refl _, trivial⟩, ?_⟩
    conv => whnf
    refine ⟨trivial, ?_⟩
    conv => whnf
    refine .inr (XOp.rowAppend ti_ok 109 rfl rfl rfl (fun h => by cases h) rfl rfl rfl (Nat.zero_lt_one) ?_ ?_ fun aa mm cap => ?_)
    · show (_ + 1) * 152 ≤ _
      simp; omega
    · show _ + 1 ≤ _
      simp; omega
    refine .inl ?_
    conv => whnf
    refine ⟨rfl, ?_⟩
    conv => whnf
    refine Tri.region ti_ok ?_
    conv => whnf
    refine .inl ⟨fun _ => by simp only [InR]; omega, ?_⟩
    conv => whnf
    exact ⟨⟨(i + 1, .slice aa mm cap), hia⟩, [(2, 2), (1, 1), (109, 24)], by show _ - (i + 1) < _ - i; omega, ⟨.refl _, .refl _, .refl _, .refl _, .refl _, trivial⟩, rfl, rfl, rfl, rfl, rfl, rfl, congrArg (fun z => some (HObj.row (.slice aa mm cap) z 12 25)) (by exact kids_next hia), trivial⟩
  · refine Tri.exit ?_
    have hin : i = n.kids.length := by simp at hc; omega
    have hrow : (n.kids.take i).map encTop = n.kids.map enc := by
      subst hin; rw [List.take_length, show enc = encTop from funext enc_eq]
    rw [hrow]
    refine Tri.commitBox 109 1 10 rfl rfl (by decide) rfl ?_
    conv => whnf
    refine Tri.seq ?_
    refine Tri.region ti_ok ?_
    conv => whnf
    refine ⟨rfl, ?_⟩
    conv => whnf
    refine ⟨rfl, ?_⟩
    conv => whnf
    refine Tri.ret ?_
    conv => whnf
    refine ⟨rfl, ?_⟩
    conv => whnf
    exact DLe.of_eq rfl
end Go.Tame.V
/- Paths of a tree by lists of names; trees that do not differ. Plain. -/
namespace Go.Tame.V
open Go Go.Proofs
set_option maxRecDepth 10000
set_option linter.unusedVariables false
set_option linter.unusedSimpArgs false

mutual
def pathsN : NV → List (List (List UInt8))
  | .mk _ _ _ _ _ _ _ _ _ _ ks _ => [] :: pathsNL ks
def pathsNL : List NV → List (List (List UInt8))
  | [] => []
  | k :: r => (pathsN k).map (fun q => k.name :: q) ++ pathsNL r
end
theorem pathsN_eq (n : NV) : pathsN n = [] :: pathsNL n.kids := by cases n; simp only [pathsN]
def findK (q : List UInt8) (ks : List NV) : Option NV := ks.find? fun k => k.name == q
def getN : NV → List (List UInt8) → Option NV
  | n, [] => some n
  | n, m :: ms => match findK m n.kids with
    | some k => getN k ms
    | none => none
theorem mem_pathsNL : ∀ {ks : List NV} {p : List (List UInt8)}, p ∈ pathsNL ks ↔ ∃ k ∈ ks, ∃ q ∈ pathsN k, p = k.name :: q
  | [], p => by simp [pathsNL]
  | k :: r, p => by
    have ih := mem_pathsNL (ks := r) (p := p)
    simp only [pathsNL, List.mem_append, List.mem_map, List.mem_cons, ih]
    constructor
    · rintro (⟨q, hq, rfl⟩ | ⟨x, hx, q, hq, rfl⟩)
      · exact ⟨k, .inl rfl, q, hq, rfl⟩
      · exact ⟨x, .inr hx, q, hq, rfl⟩
    · rintro ⟨x, rfl | hx, q, hq, rfl⟩
      · exact .inl ⟨q, hq, rfl⟩
      · exact .inr ⟨x, hx, q, hq, rfl⟩
theorem nil_mem (n : NV) : [] ∈ pathsN n := by rw [pathsN_eq]; exact List.mem_cons_self
theorem cons_mem {n : NV} {m : List UInt8} {q : List (List UInt8)} : m :: q ∈ pathsN n ↔ ∃ k ∈ n.kids, k.name = m ∧ q ∈ pathsN k := by
  rw [pathsN_eq, List.mem_cons, mem_pathsNL]
  constructor
  · rintro (h | ⟨k, hk, q', hq, h⟩)
    · cases h
    · cases h; exact ⟨k, hk, rfl, hq⟩
  · rintro ⟨k, hk, rfl, hq⟩
    exact .inr ⟨k, hk, q, hq, rfl⟩
theorem inc_name {ks : List NV} (h : inc ks) {x y : NV} (hx : x ∈ ks) (hy : y ∈ ks) (e : x.name = y.name) : x = y := by
  obtain ⟨i, hi, rfl⟩ := List.mem_iff_getElem.1 hx
  obtain ⟨j, hj, rfl⟩ := List.mem_iff_getElem.1 hy
  rcases Nat.lt_trichotomy i j with l | l | l
  · exact absurd e (bl_ne (inc_get h l hj))
  · subst l; rfl
  · exact absurd e.symm (bl_ne (inc_get h l hi))
theorem findK_inc {ks : List NV} (h : inc ks) {k : NV} (hk : k ∈ ks) : findK k.name ks = some k := by
  unfold findK
  cases hf : ks.find? (fun x => x.name == k.name) with
  | none =>
    have := List.find?_eq_none.1 hf k hk
    simp at this
  | some x =>
    have h1 := List.mem_of_find?_eq_some hf
    have h2 := List.find?_some hf
    rw [inc_name h h1 hk (by simpa using h2)]
theorem findK_name {ks : List NV} {q : List UInt8} {k : NV} (h : findK q ks = some k) : k ∈ ks ∧ k.name = q :=
  ⟨List.mem_of_find?_eq_some h, by simpa using List.find?_some h⟩
theorem getN_cons {n k : NV} {m : List UInt8} {q : List (List UInt8)} (hi : inc n.kids) (hk : k ∈ n.kids) (e : k.name = m) : getN n (m :: q) = getN k q := by
  subst e; simp only [getN, findK_inc hi hk]
/-- The kids of every node rise. -/
theorem okT_inc {n : NV} (h : okT n) : inc n.kids := ((okT_eq n).1 h).2.2.1
theorem okT_kid {n k : NV} (h : okT n) (hk : k ∈ n.kids) : okT k := (okL_get ((okT_eq n).1 h).2.2.2 hk).2
theorem okT_name {n k : NV} (h : okT n) (hk : k ∈ n.kids) : nameOk k.name = true := (okL_get ((okT_eq n).1 h).2.2.2 hk).1.1

theorem getN_mem : ∀ (q : List (List UInt8)) (n : NV), okT n → (q ∈ pathsN n ↔ ∃ x, getN n q = some x)
  | [], n, h => by simp [getN, nil_mem]
  | m :: q, n, h => by
    rw [cons_mem]
    constructor
    · rintro ⟨k, hk, rfl, hq⟩
      rw [getN_cons (okT_inc h) hk rfl]
      exact (getN_mem q k (okT_kid h hk)).1 hq
    · rintro ⟨x, hx⟩
      simp only [getN] at hx
      cases hf : findK m n.kids with
      | none => rw [hf] at hx; cases hx
      | some k =>
        rw [hf] at hx
        obtain ⟨h1, h2⟩ := findK_name hf
        exact ⟨k, h1, h2, (getN_mem q k (okT_kid h h1)).2 ⟨x, hx⟩⟩


/-- Names, each behind a slash. -/
def tailF (q : List (List UInt8)) : List UInt8 := q.flatMap fun m => 47 :: m
def joinF : List (List UInt8) → List UInt8
  | [] => []
  | m :: r => m ++ tailF r
mutual
/-- The paths as texts: p is the node's own, at level l. -/
def pathsS : NV → List UInt8 → Int → List (List UInt8)
  | .mk _ _ _ _ _ _ _ _ _ _ ks _, p, l => p :: pathsSL ks p l
def pathsSL : List NV → List UInt8 → Int → List (List UInt8)
  | [], _, _ => []
  | k :: r, p, l => pathsS k (below p k.name (l + 1)) (l + 1) ++ pathsSL r p l
end
theorem pathsS_eq (n : NV) (p : List UInt8) (l : Int) : pathsS n p l = p :: pathsSL n.kids p l := by cases n; simp only [pathsS]
mutual
theorem pathsS_deep : ∀ (n : NV) (p : List UInt8) (l : Int), 2 ≤ l → pathsS n p l = (pathsN n).map fun q => p ++ tailF q
  | .mk _ _ _ _ _ _ _ _ _ _ ks _, p, l, h => by
    simp only [pathsS, pathsN, List.map_cons]
    rw [pathsSL_deep ks p l h]
    simp [tailF]
theorem pathsSL_deep : ∀ (ks : List NV) (p : List UInt8) (l : Int), 2 ≤ l → pathsSL ks p l = (pathsNL ks).map fun q => p ++ tailF q
  | [], p, l, h => rfl
  | k :: r, p, l, h => by
    simp only [pathsSL, pathsNL, List.map_append, List.map_map]
    rw [pathsSL_deep r p l h, pathsS_deep k _ (l + 1) (by omega), below, if_neg (by omega)]
    congr 1
    refine List.map_congr_left fun q _ => ?_
    simp [tailF]
end
theorem pathsSL_top : ∀ (ks : List NV), pathsSL ks [] 1 = (pathsNL ks).map joinF
  | [] => rfl
  | k :: r => by
    simp only [pathsSL, pathsNL, List.map_append, List.map_map]
    rw [pathsSL_top r, pathsS_deep k _ _ (by omega), below, if_pos (by omega)]
    congr 1
theorem pathsS_top (n : NV) : pathsS n [] 1 = (pathsN n).map joinF := by
  rw [pathsS_eq, pathsN_eq, pathsSL_top]; rfl
theorem split_tail : ∀ (ms : List (List UInt8)) (p : List UInt8), (47 : UInt8) ∉ p → (∀ m ∈ ms, (47 : UInt8) ∉ m) → splitG 47 [] (p ++ tailF ms) = p :: ms
  | [], p, hp, _ => by simp [tailF, splitG_no p [] hp]
  | m :: r, p, hp, h => by
    have e : p ++ tailF (m :: r) = p ++ 47 :: (m ++ tailF r) := by simp [tailF]
    rw [e, splitG_at p [] _ hp, split_tail r m (h m List.mem_cons_self) fun x hx => h x (List.mem_cons_of_mem _ hx)]
    simp
/-- A path of names. -/
def okP (q : List (List UInt8)) : Prop := ∀ m ∈ q, nameOk m = true
theorem name_noslash {m : List UInt8} (h : nameOk m = true) : (47 : UInt8) ∉ m := by
  intro hm
  unfold nameOk at h
  rw [if_pos (.inr (.inr hm))] at h
  cases h
theorem joinF_nil {q : List (List UInt8)} (h : okP q) : joinF q = [] ↔ q = [] := by
  cases q with
  | nil => simp [joinF]
  | cons m r =>
    have := name_ne (h m List.mem_cons_self)
    simp [joinF, this]
theorem split_join {q : List (List UInt8)} (h : okP q) (hq : q ≠ []) : splitG 47 [] (joinF q) = q := by
  cases q with
  | nil => exact absurd rfl hq
  | cons m r => exact split_tail r m (name_noslash (h m List.mem_cons_self)) fun x hx => name_noslash (h x (List.mem_cons_of_mem _ hx))
theorem joinF_inj {q q' : List (List UInt8)} (h : okP q) (h' : okP q') (e : joinF q = joinF q') : q = q' := by
  by_cases h0 : q = []
  · subst h0
    exact ((joinF_nil h').1 (by rw [← e]; rfl)).symm
  · have h1 : q' ≠ [] := fun h2 => h0 ((joinF_nil h).1 (by rw [e, h2]; rfl))
    rw [← split_join h h0, e, split_join h' h1]
theorem path_ok : ∀ (q : List (List UInt8)) (n : NV), okT n → q ∈ pathsN n → okP q
  | [], n, _, _ => fun m hm => by cases hm
  | m :: q, n, h, hq => by
    obtain ⟨k, hk, e, hq⟩ := cons_mem.1 hq
    intro x hx
    rcases List.mem_cons.1 hx with rfl | hx
    · rw [← e]; exact okT_name h hk
    · exact path_ok q k (okT_kid h hk) hq x hx
end Go.Tame.V
/- Contracts: the other way of trees: paths, Get, Equal. By program (mk.py). -/
namespace Go.Tame.V
open Go Go.Proofs
variable {W0 : World}
set_option maxRecDepth 10000
set_option linter.unusedVariables false
set_option linter.unusedSimpArgs false

mutual
theorem pathsS_len : ∀ (n : NV) (p : List UInt8) (l : Int), (pathsS n p l).length = cnt n
  | .mk _ _ _ _ _ _ _ _ _ _ ks _, p, l => by
    have := pathsSL_len ks p l
    simp only [pathsS, cnt, List.length_cons]; omega
theorem pathsSL_len : ∀ (ks : List NV) (p : List UInt8) (l : Int), (pathsSL ks p l).length = cntL ks
  | [], p, l => rfl
  | k :: r, p, l => by
    have h1 := pathsS_len k (below p k.name (l + 1)) (l + 1)
    have h2 := pathsSL_len r p l
    simp only [pathsSL, cntL, List.length_append]; omega
end
theorem pathsSL_next : ∀ {ks : List NV} {i : Nat} (h : i < ks.length) (p : List UInt8) (l : Int), pathsSL (ks.take (i + 1)) p l = pathsSL (ks.take i) p l ++ pathsS ks[i] (below p ks[i].name (l + 1)) (l + 1)
  | k :: r, 0, _, p, l => by simp [pathsSL]
  | k :: r, i + 1, h, p, l => by
    have := pathsSL_next (ks := r) (i := i) (by simpa using h) p l
    simp only [List.take_succ_cons, pathsSL, List.getElem_cons_succ]
    rw [this]; simp

theorem F46 : ∀ (N : Nat) (n : NV), sz n < N → sz n < 10000000 → ∀ (p : List UInt8) (l : Int), 1 ≤ l → p.length + sz n < 100000000 → l + sz n < 1000000000 → DFun Tryz.prog W0 70 [encTop n, .str p, .int .i64 l] (.sl .none 1 (strs (pathsS n p l))) := by
  refine fun N => Nat.rec (fun n h => absurd h (Nat.not_lt_zero _)) (fun N ih n hN hz p l hl hp hls => ?_) N
  refine DFun.intro ti_ok Tryz.func70 rfl (by decide +kernel) Tryz.ntmps70 rfl fun Γ => ?_
  refine Tri.seq ?_
  refine Tri.region ti_ok ?_
  conv => whnf
  intro b3
  conv => whnf
  refine Tri.seq ?_
  refine Tri.region ti_ok ?_
  conv => whnf
  refine ⟨trivial, ?_⟩
  conv => whnf
  refine Tri.seq ?_
  refine Tri.seq ?_
  refine Tri.region ti_ok ?_
  conv => whnf
  refine Tri.block ?_
  refine Tri.own 7 1000 1 9 rfl (fun w => ?_)
  refine Tri.loopK (α := { i : Nat // i ≤ n.kids.length } × Value) (fun x => [(1, .str p), (2, .int .i64 l), (3, .box 3 b3 0), (7, .sl (.own 1000 x.2) 1 (strs (p :: pathsSL (n.kids.take x.1.1) p l))), (8, .int .i64 x.1.1)]) (fun x => [(3, .box b3 [.str n.name, .int .i64 n.kind, .str n.text, .str n.target, .int .i64 n.n1, .int .i64 n.n2, .int .i64 n.n3, .int .i64 n.n4, .int .i64 n.n5, .int .i64 n.n6, .sl .none 12 (n.kids.map enc), .sl .none 2 (n.streams.map encS)]), (1000, .own x.2 (strs (p :: pathsSL (n.kids.take x.1.1) p l)).length 1 9)]) (fun x => n.kids.length - x.1.1) (⟨0, Nat.zero_le _⟩, w) [(3, 3), (1000, 1000)]
    ⟨⟨.refl _, .refl _, .refl _, .refl _, .refl _, trivial⟩, rfl, rfl, rfl, rfl, rfl, trivial⟩ ?_
  rintro ⟨⟨i, hi⟩, w⟩
  dsimp only at hi ⊢
  refine Tri.seq ?_
  refine Tri.seq ?_
  refine Tri.region ti_ok ?_
  conv => whnf
  refine ⟨rfl, ?_⟩
  conv => whnf
  refine Tri.cond _ rfl (fun hc => ?_) (fun hc => ?_)
  · refine Tri.skip ?_
    conv => whnf
    have hia : i < n.kids.length := by simpa using hc
    have hkz := kid_sz hia
    have hbl := below_len p n.kids[i].name (l + 1)
    have hnx := pathsSL_next hia p l
    have hll := pathsSL_len (n.kids.take i) p l
    have hlt := cntL_take n.kids i
    have hcz := cntL_sz n.kids
    have hsze := sz_eq n
    have hkl := pathsS_len n.kids[i] (below p n.kids[i].name (l + 1)) (l + 1)
    have hks := cnt_sz n.kids[i]
    have hkk := szL_len n.kids
    refine Tri.seq ?_
    refine Tri.block ?_
    refine Tri.drawTail ti_ok 18 mixed (by kernel_rfl) ?_
    conv => whnf
    refine ⟨rfl, ?_⟩
    conv => whnf
    refine ⟨fun _ => by simp; omega, ?_⟩
    conv => whnf
    refine ⟨encTop n.kids[i], fun _ => get_kids hia, ?_⟩
    conv => whnf
    refine ⟨rfl, ?_⟩
    conv => whnf
    refine ⟨fun _ => by simp; omega, ?_⟩
    conv => whnf
    refine ⟨encTop n.kids[i], fun _ => get_kids hia, ?_⟩
    conv => whnf
    refine ⟨[.str p, .str n.kids[i].name, .int .i64 l], _, fun _ => F68 p n.kids[i].name l (by omega) hl, ⟨.refl _, .refl _, .refl _, trivial⟩, ?_⟩
    conv => whnf
    refine .inl ⟨fun _ => by simp only [InR]; omega, ?_⟩
    conv => whnf
    refine ⟨[encTop n.kids[i], .str (below p n.kids[i].name (l + 1)), .int .i64 (l + 1)], _, fun _ => ih n.kids[i] (by omega) (by omega) (below p n.kids[i].name (l + 1)) (l + 1) (by omega) (by omega) (by omega), ⟨.refl _, .refl _, .refl _, trivial⟩, ?_⟩
    conv => whnf
    refine ⟨rfl, rfl, ?_⟩
    conv => whnf
    refine ⟨by show (_ + _) * 16 ≤ _; simp [strs]; omega, by show _ + _ ≤ _; simp [strs]; omega, (fun h => by cases h), fun v => ?_⟩
    conv => whnf
    refine Tri.region ti_ok ?_
    conv => whnf
    refine .inl ⟨fun _ => by simp only [InR]; omega, ?_⟩
    conv => whnf
    have he : strs (p :: pathsSL (n.kids.take i) p l) ++ strs (pathsS n.kids[i] (below p n.kids[i].name (l + 1)) (l + 1)) = strs (p :: pathsSL (n.kids.take (i + 1)) p l) := by rw [hnx]; simp [strs]
    exact ⟨(⟨i + 1, hia⟩, v), [(3, 3), (1000, 36)], by show n.kids.length - (i + 1) < n.kids.length - i; omega, ⟨.refl _, .refl _, .refl _, DLe.ownEq he, .refl _, trivial⟩, rfl, rfl, rfl, rfl, ownH (by rw [← he, List.length_append]), trivial⟩
  · refine Tri.exit ?_
    conv => whnf
    refine Tri.seq ?_
    refine Tri.region ti_ok ?_
    conv => whnf
    refine Tri.ret ?_
    conv => whnf
    have hin : i = n.kids.length := by simp at hc; omega
    have e : n.kids.take i = n.kids := List.take_of_length_le (by omega)
    rw [e, ← pathsS_eq]
    exact DLe.unown

theorem F24 (n : NV) (hn : Fits n) (hv : valid n = true) : DFun Tryz.prog W0 25 [encTop n] (.sl .none 1 (strs (pathsS n [] 1))) := by
  refine DFun.intro ti_ok Tryz.func25 rfl (by decide +kernel) Tryz.ntmps25 rfl fun Γ => ?_
  refine Tri.seq ?_
  refine Tri.region ti_ok ?_
  conv => whnf
  intro b1
  conv => whnf
  refine Tri.seq ?_
  refine Tri.seq ?_
  refine Tri.region ti_ok ?_
  conv => whnf
  refine ⟨rfl, ?_⟩
  conv => whnf
  refine ⟨[encTop n], _, fun _ => F20 n hn, ⟨.refl _, trivial⟩, ?_⟩
  conv => whnf
  refine Tri.cond _ rfl (fun hc => ?_) (fun hc => ?_)
  · refine Tri.seq ?_
    exfalso
    rw [hv] at hc; cases hc
  · refine Tri.skip ?_
    conv => whnf
    refine Tri.seq ?_
    refine Tri.region ti_ok ?_
    conv => whnf
    refine ⟨rfl, ?_⟩
    conv => whnf
    have hz := hn
    unfold Fits at hz
    refine ⟨[encTop n, .str [], .int .i64 1], _, fun _ => F46 _ n (Nat.lt_succ_self _) (by omega) [] 1 (by omega) (by simp; omega) (by omega), ⟨.refl _, .refl _, .refl _, trivial⟩, ?_⟩
    conv => whnf
    refine Tri.ret ?_
    conv => whnf
    exact .refl _

/-- The node at a path, or none and the error's number. -/
def getR (n : NV) (s : List UInt8) : NV × Int :=
  if s = [] then (n, 0) else match getN n (splitG 47 [] s) with
    | some x => (x, 0)
    | none => (zeroN, 6)
theorem getR_join {q : List (List UInt8)} (h : okP q) (n : NV) : getR n (joinF q) = match getN n q with | some x => (x, 0) | none => (zeroN, 6) := by
  unfold getR
  by_cases h0 : q = []
  · subst h0; rfl
  · rw [if_neg (fun e => h0 ((joinF_nil h).1 e)), split_join h h0]
theorem kid_find (n : NV) (q : List UInt8) : (kidIx n q = -1 ∧ findK q n.kids = none) ∨ ∃ (i : Nat) (h : i < n.kids.length), kidIx n q = i ∧ findK q n.kids = some n.kids[i] := by
  cases hf : findK q n.kids with
  | none =>
    refine .inl ⟨?_, rfl⟩
    unfold findK at hf
    exact firstIdx_none fun j hj => by simpa using List.find?_eq_none.1 hf _ (List.getElem_mem hj)
  | some k =>
    unfold findK at hf
    obtain ⟨h1, i, h2, h3, h4⟩ := List.find?_eq_some_iff_getElem.1 hf
    refine .inr ⟨i, h2, ?_, by rw [h3]⟩
    exact firstIdx_some (p := fun k : NV => k.name == q) h2 (fun j hj hji => by simpa using h4 j hji) (by rw [h3]; exact h1)
theorem fits_kid {n k : NV} (hn : Fits n) (hk : k ∈ n.kids) : Fits k := by
  obtain ⟨i, hi, rfl⟩ := List.mem_iff_getElem.1 hk
  have := kid_sz hi
  unfold Fits at hn ⊢
  omega

theorem F21 (n : NV) (s : List UInt8) (hn : Fits n) (hv : valid n = true) (hs : s.length < 1000000000) : DFun Tryz.prog W0 26 [encTop n, .str s] (.tup [encTop (getR n s).1, .int .i64 (getR n s).2]) := by
  refine DFun.intro ti_ok Tryz.func26 rfl (by decide +kernel) Tryz.ntmps26 rfl fun Γ => ?_
  refine Tri.seq ?_
  refine Tri.region ti_ok ?_
  conv => whnf
  intro b2
  conv => whnf
  intro b4
  conv => whnf
  refine Tri.seq ?_
  refine Tri.seq ?_
  refine Tri.region ti_ok ?_
  conv => whnf
  refine ⟨rfl, ?_⟩
  conv => whnf
  refine ⟨[encTop n], _, fun _ => F20 n hn, ⟨.refl _, trivial⟩, ?_⟩
  conv => whnf
  refine Tri.cond _ rfl (fun hc => ?_) (fun hc => ?_)
  · refine Tri.seq ?_
    exfalso
    rw [hv] at hc; cases hc
  · refine Tri.skip ?_
    conv => whnf
    refine Tri.seq ?_
    refine Tri.seq ?_
    refine Tri.region ti_ok ?_
    conv => whnf
    refine Tri.cond _ rfl (fun hc => ?_) (fun hc => ?_)
    · refine Tri.seq ?_
      refine Tri.region ti_ok ?_
      conv => whnf
      refine ⟨rfl, ?_⟩
      conv => whnf
      refine ⟨rfl, ?_⟩
      conv => whnf
      refine Tri.ret ?_
      conv => whnf
      have h0 : s = [] := by simpa using hc
      have hR : getR n s = (n, 0) := by rw [getR, if_pos h0]
      rw [hR]
      refine ⟨rfl, ?_⟩
      conv => whnf
      exact ⟨.refl _, .refl _, trivial⟩
    · refine Tri.skip ?_
      conv => whnf
      have h0 : ¬ s = [] := by simpa using hc
      refine Tri.seq ?_
      refine Tri.region ti_ok ?_
      conv => whnf
      refine ⟨[.str s, .int .u8 47], _, fun _ => F44 s 47 hs, ⟨.refl _, .refl _, trivial⟩, ?_⟩
      conv => whnf
      refine Tri.seq ?_
      have hLl := (splitG_len (c := 47) s []).1
      generalize hL : splitG 47 [] s = L at *
      refine Tri.seq ?_
      refine Tri.region ti_ok ?_
      conv => whnf
      refine Tri.block ?_
      refine Tri.loopK (α := { x : Nat × NV // x.1 ≤ L.length ∧ getN n L = getN x.2 (L.drop x.1) ∧ Fits x.2 }) (fun x => [(1, .str s), (2, .box 2 b2 0), (4, .box 4 b4 0), (6, .sl .none 1 (strs L)), (7, .int .i64 x.1.1)]) (fun x => [(2, .box b2 [.str x.1.2.name, .int .i64 x.1.2.kind, .str x.1.2.text, .str x.1.2.target, .int .i64 x.1.2.n1, .int .i64 x.1.2.n2, .int .i64 x.1.2.n3, .int .i64 x.1.2.n4, .int .i64 x.1.2.n5, .int .i64 x.1.2.n6, .sl .none 12 (x.1.2.kids.map enc), .sl .none 2 (x.1.2.streams.map encS)]), (4, .box b4 [.str [], .int .i64 0, .str [], .str [], .int .i64 0, .int .i64 0, .int .i64 0, .int .i64 0, .int .i64 0, .int .i64 0, .nils, .nils])]) (fun x => L.length - x.1.1) ⟨(0, n), Nat.zero_le _, rfl, hn⟩ [(2, 2), (4, 4)]
        ⟨⟨.refl _, .refl _, .refl _, .refl _, .refl _, trivial⟩, rfl, rfl, rfl, rfl, rfl, trivial⟩ ?_
      rintro ⟨⟨i, m⟩, hi, hg, hm⟩
      dsimp only at hi hg hm ⊢
      refine Tri.seq ?_
      refine Tri.seq ?_
      refine Tri.region ti_ok ?_
      conv => whnf
      refine Tri.cond _ rfl (fun hc => ?_) (fun hc => ?_)
      · refine Tri.skip ?_
        conv => whnf
        have hia : i < L.length := by simpa [strs] using hc
        have hd : L.drop i = L[i] :: L.drop (i + 1) := List.drop_eq_getElem_cons hia
        refine Tri.seq ?_
        refine Tri.block ?_
        refine Tri.seq ?_
        refine Tri.draw ti_ok mixed (by kernel_rfl) ?_
        conv => whnf
        refine ⟨rfl, ?_⟩
        conv => whnf
        refine ⟨fun _ => by simp [strs]; omega, ?_⟩
        conv => whnf
        refine ⟨.str L[i], fun _ => by simp [strs, hia], ?_⟩
        conv => whnf
        refine ⟨[encTop m, .str L[i]], _, fun _ => F45 m L[i] hm, ⟨.refl _, .refl _, trivial⟩, ?_⟩
        conv => whnf
        refine Tri.seq ?_
        refine Tri.seq ?_
        refine Tri.region ti_ok ?_
        conv => whnf
        refine Tri.cond _ rfl (fun hc => ?_) (fun hc => ?_)
        · refine Tri.seq ?_
          refine Tri.region ti_ok ?_
          conv => whnf
          refine ⟨rfl, ?_⟩
          conv => whnf
          refine Tri.ret ?_
          conv => whnf
          have hR : getR n s = (zeroN, 6) := by
            rcases kid_find m L[i] with ⟨h1, h2⟩ | ⟨j, hj, h1, h2⟩
            · rw [getR, if_neg h0, hL, hg, hd]; simp only [getN, h2]
            · rw [h1] at hc; simp at hc; omega
          rw [hR]
          refine ⟨rfl, ?_⟩
          conv => whnf
          exact ⟨zeroD, .refl _, trivial⟩
        · obtain ⟨j, hj, h1, h2⟩ : ∃ (j : Nat) (h : j < m.kids.length), kidIx m L[i] = j ∧ findK L[i] m.kids = some m.kids[j] := by
            rcases kid_find m L[i] with ⟨h1, h2⟩ | h
            · rw [h1] at hc; simp at hc
            · exact h
          refine Tri.skip ?_
          conv => whnf
          refine Tri.region ti_ok ?_
          conv => whnf
          refine ⟨rfl, ?_⟩
          conv => whnf
          rw [h1]
          refine ⟨fun _ => by simp; omega, ?_⟩
          conv => whnf
          refine ⟨encTop m.kids[j], fun _ => get_kids hj, ?_⟩
          conv => whnf
          refine ⟨rfl, ?_⟩
          conv => whnf
          refine Tri.region ti_ok ?_
          conv => whnf
          refine .inl ⟨fun _ => by simp only [InR]; omega, ?_⟩
          conv => whnf
          exact ⟨⟨(i + 1, m.kids[j]), hia, by rw [hg, hd]; simp only [getN, h2], fits_kid hm (List.getElem_mem hj)⟩, [(2, 2), (4, 4)], by show L.length - (i + 1) < L.length - i; omega, ⟨.refl _, .refl _, .refl _, .refl _, .refl _, trivial⟩, rfl, rfl, rfl, rfl, rfl, trivial⟩
      · refine Tri.exit ?_
        conv => whnf
        refine Tri.seq ?_
        refine Tri.region ti_ok ?_
        conv => whnf
        refine ⟨rfl, ?_⟩
        conv => whnf
        refine ⟨rfl, ?_⟩
        conv => whnf
        refine Tri.ret ?_
        conv => whnf
        have hin : L.drop i = [] := by
          have : ¬ i < L.length := by simpa [strs] using hc
          exact List.drop_eq_nil_of_le (by omega)
        have hR : getR n s = (m, 0) := by rw [getR, if_neg h0, hL, hg, hin]; rfl
        rw [hR]
        refine ⟨rfl, ?_⟩
        conv => whnf
        exact ⟨.refl _, .refl _, trivial⟩
end Go.Tame.V
/- Contracts: Equal of trees; the law ViewdiffEquals. By program (mk.py). -/
namespace Go.Tame.V
open Go Go.Proofs
variable {W0 : World}
set_option maxRecDepth 10000
set_option linter.unusedVariables false
set_option linter.unusedSimpArgs false

noncomputable def eqT (a b : NV) : Bool := @decide (a = b) (Classical.propDecidable _)
theorem eqT_iff {a b : NV} : eqT a b = true ↔ a = b := @decide_eq_true_iff _ (Classical.propDecidable _)
theorem eqT_ne {a b : NV} (h : a ≠ b) : eqT a b = false := @decide_eq_false _ (Classical.propDecidable _) h
theorem eqT_rfl (a : NV) : eqT a a = true := eqT_iff.2 rfl

theorem F25 : ∀ (N : Nat) (a b : NV), sz a < N → sz a < 100000000 → DFun Tryz.prog W0 19 [encTop a, encTop b] (.bool (eqT a b)) := by
  refine fun N => Nat.rec (fun a b h => absurd h (Nat.not_lt_zero _)) (fun N ih a b hN hz => ?_) N
  have hsze := sz_eq a
  have hkk := szL_len a.kids
  have hss := szS_len a.streams
  refine DFun.intro ti_ok Tryz.func19 rfl (by decide +kernel) Tryz.ntmps19 rfl fun Γ => ?_
  refine Tri.seq ?_
  refine Tri.region ti_ok ?_
  conv => whnf
  intro b2
  conv => whnf
  intro b3
  conv => whnf
  refine Tri.seq ?_
  refine Tri.seq ?_
  refine Tri.region ti_ok ?_
  conv => whnf
  refine ⟨rfl, ?_⟩
  conv => whnf
  refine ⟨rfl, ?_⟩
  conv => whnf
  refine ⟨fun h => h, ?_⟩
  conv => whnf
  refine ⟨rfl, ?_⟩
  conv => whnf
  refine ⟨fun h => h, ?_⟩
  conv => whnf
  refine ⟨rfl, ?_⟩
  conv => whnf
  refine ⟨fun h => h, ?_⟩
  conv => whnf
  refine ⟨fun h => h, ?_⟩
  conv => whnf
  refine ⟨fun h0 h => by first | exact h | (rw [h]; rfl) | (rw [h0, h]; rfl), ?_⟩
  conv => whnf
  refine ⟨fun h => h, ?_⟩
  conv => whnf
  refine ⟨rfl, ?_⟩
  conv => whnf
  refine ⟨fun h => h, ?_⟩
  conv => whnf
  refine ⟨rfl, ?_⟩
  conv => whnf
  refine ⟨fun h => h, ?_⟩
  conv => whnf
  refine ⟨fun h => h, ?_⟩
  conv => whnf
  refine ⟨fun h0 h => by first | exact h | (rw [h]; rfl) | (rw [h0, h]; rfl), ?_⟩
  conv => whnf
  refine ⟨fun h => h, ?_⟩
  conv => whnf
  refine ⟨rfl, ?_⟩
  conv => whnf
  refine ⟨fun h => h, ?_⟩
  conv => whnf
  refine ⟨rfl, ?_⟩
  conv => whnf
  refine ⟨fun h => h, ?_⟩
  conv => whnf
  refine ⟨fun h => h, ?_⟩
  conv => whnf
  refine ⟨fun h0 h => by first | exact h | (rw [h]; rfl) | (rw [h0, h]; rfl), ?_⟩
  conv => whnf
  refine ⟨fun h => h, ?_⟩
  conv => whnf
  refine ⟨rfl, ?_⟩
  conv => whnf
  refine ⟨fun h => h, ?_⟩
  conv => whnf
  refine ⟨rfl, ?_⟩
  conv => whnf
  refine ⟨fun h => h, ?_⟩
  conv => whnf
  refine ⟨fun h => h, ?_⟩
  conv => whnf
  refine ⟨fun h0 h => by first | exact h | (rw [h]; rfl) | (rw [h0, h]; rfl), ?_⟩
  conv => whnf
  refine ⟨fun h => h, ?_⟩
  conv => whnf
  refine ⟨rfl, ?_⟩
  conv => whnf
  refine ⟨fun h => h, ?_⟩
  conv => whnf
  refine ⟨rfl, ?_⟩
  conv => whnf
  refine ⟨fun h => h, ?_⟩
  conv => whnf
  refine ⟨fun h => h, ?_⟩
  conv => whnf
  refine ⟨fun h0 h => by first | exact h | (rw [h]; rfl) | (rw [h0, h]; rfl), ?_⟩
  conv => whnf
  refine ⟨fun h => h, ?_⟩
  conv => whnf
  refine ⟨rfl, ?_⟩
  conv => whnf
  refine ⟨fun h => h, ?_⟩
  conv => whnf
  refine ⟨rfl, ?_⟩
  conv => whnf
  refine ⟨fun h => h, ?_⟩
  conv => whnf
  refine ⟨fun h => h, ?_⟩
  conv => whnf
  refine ⟨fun h0 h => by first | exact h | (rw [h]; rfl) | (rw [h0, h]; rfl), ?_⟩
  conv => whnf
  refine ⟨fun h => h, ?_⟩
  conv => whnf
  refine ⟨rfl, ?_⟩
  conv => whnf
  refine ⟨fun h => h, ?_⟩
  conv => whnf
  refine ⟨rfl, ?_⟩
  conv => whnf
  refine ⟨fun h => h, ?_⟩
  conv => whnf
  refine ⟨fun h => h, ?_⟩
  conv => whnf
  refine ⟨fun h0 h => by first | exact h | (rw [h]; rfl) | (rw [h0, h]; rfl), ?_⟩
  conv => whnf
  refine ⟨fun h => h, ?_⟩
  conv => whnf
  refine ⟨rfl, ?_⟩
  conv => whnf
  refine ⟨fun h => h, ?_⟩
  conv => whnf
  refine ⟨rfl, ?_⟩
  conv => whnf
  refine ⟨fun h => h, ?_⟩
  conv => whnf
  refine ⟨fun h => h, ?_⟩
  conv => whnf
  refine ⟨fun h0 h => by first | exact h | (rw [h]; rfl) | (rw [h0, h]; rfl), ?_⟩
  conv => whnf
  refine ⟨fun h => h, ?_⟩
  conv => whnf
  refine ⟨rfl, ?_⟩
  conv => whnf
  refine ⟨fun h => h, ?_⟩
  conv => whnf
  refine ⟨rfl, ?_⟩
  conv => whnf
  refine ⟨fun h => h, ?_⟩
  conv => whnf
  refine ⟨fun h => h, ?_⟩
  conv => whnf
  refine ⟨fun h0 h => by first | exact h | (rw [h]; rfl) | (rw [h0, h]; rfl), ?_⟩
  conv => whnf
  refine ⟨fun h => h, ?_⟩
  conv => whnf
  refine ⟨rfl, ?_⟩
  conv => whnf
  refine ⟨fun h => h, ?_⟩
  conv => whnf
  refine ⟨fun h => h, ?_⟩
  conv => whnf
  refine ⟨rfl, ?_⟩
  conv => whnf
  refine ⟨fun h => h, ?_⟩
  conv => whnf
  refine ⟨fun h => h, ?_⟩
  conv => whnf
  refine ⟨fun h => h, ?_⟩
  conv => whnf
  refine ⟨fun h0 h => by first | exact h | (rw [h]; rfl) | (rw [h0, h]; rfl), ?_⟩
  conv => whnf
  refine ⟨fun h => h, ?_⟩
  conv => whnf
  refine ⟨rfl, ?_⟩
  conv => whnf
  refine ⟨fun h => h, ?_⟩
  conv => whnf
  refine ⟨fun h => h, ?_⟩
  conv => whnf
  refine ⟨rfl, ?_⟩
  conv => whnf
  refine ⟨fun h => h, ?_⟩
  conv => whnf
  refine ⟨fun h => h, ?_⟩
  conv => whnf
  refine ⟨fun h => h, ?_⟩
  conv => whnf
  refine ⟨fun h0 h => by first | exact h | (rw [h]; rfl) | (rw [h0, h]; rfl), ?_⟩
  conv => whnf
  refine Tri.cond _ rfl (fun hc => ?_) (fun hc => ?_)
  · refine Tri.seq ?_
    refine Tri.region ti_ok ?_
    conv => whnf
    refine Tri.ret ?_
    conv => whnf
    refine DLe.of_eq (congrArg D.bool (eqT_ne fun e => ?_).symm)
    subst e
    simp at hc
  · refine Tri.skip ?_
    conv => whnf
    simp only [bif_or, Bool.or_eq_false_iff, Bool.not_eq_false', beq_iff_eq, List.length_map, Int.ofNat_inj, bne_eq_false_iff_eq] at hc
    obtain ⟨⟨⟨⟨⟨⟨⟨⟨⟨⟨⟨e1, e2⟩, e3⟩, e4⟩, e5⟩, e6⟩, e7⟩, e8⟩, e9⟩, e10⟩, e11⟩, e12⟩ := hc
    refine Tri.seq ?_
    refine Tri.seq ?_
    refine Tri.region ti_ok ?_
    conv => whnf
    refine Tri.block ?_
    refine Tri.loopK (α := { i : Nat // i ≤ a.streams.length ∧ a.streams.take i = b.streams.take i }) (fun x => [(2, .box 2 b2 0), (3, .box 3 b3 0), (5, .int .i64 x.1)]) (fun x => [(2, .box b2 [.str a.name, .int .i64 a.kind, .str a.text, .str a.target, .int .i64 a.n1, .int .i64 a.n2, .int .i64 a.n3, .int .i64 a.n4, .int .i64 a.n5, .int .i64 a.n6, .sl .none 12 (a.kids.map enc), .sl .none 2 (a.streams.map encS)]), (3, .box b3 [.str b.name, .int .i64 b.kind, .str b.text, .str b.target, .int .i64 b.n1, .int .i64 b.n2, .int .i64 b.n3, .int .i64 b.n4, .int .i64 b.n5, .int .i64 b.n6, .sl .none 12 (b.kids.map enc), .sl .none 2 (b.streams.map encS)])]) (fun x => a.streams.length - x.1) ⟨0, Nat.zero_le _, rfl⟩ [(2, 2), (3, 3)]
      ⟨⟨.refl _, .refl _, .refl _, trivial⟩, rfl, rfl, rfl, rfl, rfl, trivial⟩ ?_
    rintro ⟨i, hi, hp⟩
    dsimp only at hi hp ⊢
    refine Tri.seq ?_
    refine Tri.seq ?_
    refine Tri.region ti_ok ?_
    conv => whnf
    refine ⟨rfl, ?_⟩
    conv => whnf
    refine Tri.cond _ rfl (fun hc => ?_) (fun hc => ?_)
    · refine Tri.skip ?_
      conv => whnf
      have hia : i < a.streams.length := by simpa using hc
      have hib : i < b.streams.length := by omega
      refine Tri.seq ?_
      refine Tri.block ?_
      refine Tri.seq ?_
      refine Tri.draw ti_ok mixed (by kernel_rfl) ?_
      conv => whnf
      refine ⟨rfl, ?_⟩
      conv => whnf
      refine ⟨fun _ => by simp; omega, ?_⟩
      conv => whnf
      refine ⟨encS a.streams[i], fun _ => get_map _ hia, ?_⟩
      conv => whnf
      refine ⟨rfl, ?_⟩
      conv => whnf
      refine ⟨fun _ => by simp; omega, ?_⟩
      conv => whnf
      refine ⟨encS b.streams[i], fun _ => get_map _ hib, ?_⟩
      conv => whnf
      refine Tri.cond _ rfl (fun hc => ?_) (fun hc => ?_)
      · refine Tri.seq ?_
        refine Tri.region ti_ok ?_
        conv => whnf
        refine Tri.ret ?_
        conv => whnf
        refine DLe.of_eq (congrArg D.bool (eqT_ne fun e => ?_).symm)
        subst e
        simp at hc
      · refine Tri.skip ?_
        conv => whnf
        have he : a.streams[i] = b.streams[i] := by
          simp at hc
          cases h1 : a.streams[i]; cases h2 : b.streams[i]; simp_all
        refine Tri.region ti_ok ?_
        conv => whnf
        refine .inl ⟨fun _ => by simp only [InR]; omega, ?_⟩
        conv => whnf
        exact ⟨⟨i + 1, hia, take_next hia hib hp he⟩, [(2, 2), (3, 3)], by show a.streams.length - (i + 1) < a.streams.length - i; omega, ⟨.refl _, .refl _, .refl _, trivial⟩, rfl, rfl, rfl, rfl, rfl, trivial⟩
    · refine Tri.exit ?_
      conv => whnf
      have hst : a.streams = b.streams := of_decide_eq_true (eq_of_take e12 (by simpa using hc) hp).symm
      refine Tri.seq ?_
      refine Tri.seq ?_
      refine Tri.region ti_ok ?_
      conv => whnf
      refine Tri.block ?_
      refine Tri.loopK (α := { i : Nat // i ≤ a.kids.length ∧ a.kids.take i = b.kids.take i }) (fun x => [(2, .box 2 b2 0), (3, .box 3 b3 0), (6, .int .i64 x.1)]) (fun x => [(2, .box b2 [.str a.name, .int .i64 a.kind, .str a.text, .str a.target, .int .i64 a.n1, .int .i64 a.n2, .int .i64 a.n3, .int .i64 a.n4, .int .i64 a.n5, .int .i64 a.n6, .sl .none 12 (a.kids.map enc), .sl .none 2 (a.streams.map encS)]), (3, .box b3 [.str b.name, .int .i64 b.kind, .str b.text, .str b.target, .int .i64 b.n1, .int .i64 b.n2, .int .i64 b.n3, .int .i64 b.n4, .int .i64 b.n5, .int .i64 b.n6, .sl .none 12 (b.kids.map enc), .sl .none 2 (b.streams.map encS)])]) (fun x => a.kids.length - x.1) ⟨0, Nat.zero_le _, rfl⟩ [(2, 2), (3, 3)]
        ⟨⟨.refl _, .refl _, .refl _, trivial⟩, rfl, rfl, rfl, rfl, rfl, trivial⟩ ?_
      rintro ⟨i, hi, hp⟩
      dsimp only at hi hp ⊢
      refine Tri.seq ?_
      refine Tri.seq ?_
      refine Tri.region ti_ok ?_
      conv => whnf
      refine ⟨rfl, ?_⟩
      conv => whnf
      refine Tri.cond _ rfl (fun hc => ?_) (fun hc => ?_)
      · refine Tri.skip ?_
        conv => whnf
        have hia : i < a.kids.length := by simpa using hc
        have hib : i < b.kids.length := by omega
        have hkz := kid_sz hia
        refine Tri.seq ?_
        refine Tri.block ?_
        refine Tri.seq ?_
        refine Tri.draw ti_ok mixed (by kernel_rfl) ?_
        conv => whnf
        refine ⟨rfl, ?_⟩
        conv => whnf
        refine ⟨fun _ => by simp; omega, ?_⟩
        conv => whnf
        refine ⟨encTop a.kids[i], fun _ => get_kids hia, ?_⟩
        conv => whnf
        refine ⟨rfl, ?_⟩
        conv => whnf
        refine ⟨fun _ => by simp; omega, ?_⟩
        conv => whnf
        refine ⟨encTop b.kids[i], fun _ => get_kids hib, ?_⟩
        conv => whnf
        refine ⟨[encTop a.kids[i], encTop b.kids[i]], _, fun _ => ih a.kids[i] b.kids[i] (by omega) (by omega), ⟨.refl _, .refl _, trivial⟩, ?_⟩
        conv => whnf
        refine Tri.cond _ rfl (fun hc => ?_) (fun hc => ?_)
        · refine Tri.seq ?_
          refine Tri.region ti_ok ?_
          conv => whnf
          refine Tri.ret ?_
          conv => whnf
          refine DLe.of_eq (congrArg D.bool (eqT_ne fun e => ?_).symm)
          subst e
          rw [eqT_rfl] at hc
          cases hc
        · refine Tri.skip ?_
          conv => whnf
          have he : a.kids[i] = b.kids[i] := by
            refine eqT_iff.1 ?_
            cases h : eqT a.kids[i] b.kids[i] with
            | true => rfl
            | false => rw [h] at hc; cases hc
          refine Tri.region ti_ok ?_
          conv => whnf
          refine .inl ⟨fun _ => by simp only [InR]; omega, ?_⟩
          conv => whnf
          exact ⟨⟨i + 1, hia, take_next hia hib hp he⟩, [(2, 2), (3, 3)], by show a.kids.length - (i + 1) < a.kids.length - i; omega, ⟨.refl _, .refl _, .refl _, trivial⟩, rfl, rfl, rfl, rfl, rfl, trivial⟩
      · refine Tri.exit ?_
        conv => whnf
        refine Tri.seq ?_
        refine Tri.region ti_ok ?_
        conv => whnf
        refine Tri.ret ?_
        conv => whnf
        have hin : ¬ i < a.kids.length := by simpa using hc
        have hkd : a.kids = b.kids := by
          rw [List.take_of_length_le (by omega), List.take_of_length_le (by omega)] at hp
          exact hp
        refine DLe.of_eq (congrArg D.bool (eqT_iff.2 ?_).symm)
        cases a; cases b
        simp_all

theorem getN_sz : ∀ (q : List (List UInt8)) (n x : NV), getN n q = some x → sz x ≤ sz n
  | [], n, x, h => by simp only [getN, Option.some.injEq] at h; subst h; exact Nat.le_refl _
  | m :: q, n, x, h => by
    simp only [getN] at h
    cases hf : findK m n.kids with
    | none => rw [hf] at h; cases h
    | some k =>
      rw [hf] at h
      obtain ⟨i, hi, e⟩ := List.mem_iff_getElem.1 (findK_name hf).1
      have h1 := kid_sz hi
      have h2 := getN_sz q k x h
      rw [e] at h1
      omega
theorem path_len : ∀ (q : List (List UInt8)) (n : NV), q ∈ pathsN n → (tailF q).length ≤ sz n
  | [], n, _ => by simp [tailF]
  | m :: q, n, h => by
    obtain ⟨k, hk, rfl, hq⟩ := cons_mem.1 h
    obtain ⟨i, hi, rfl⟩ := List.mem_iff_getElem.1 hk
    have := kid_sz hi
    have := path_len q _ hq
    simp only [tailF, List.flatMap_cons, List.length_append, List.length_cons] at this ⊢
    omega
end Go.Tame.V
/- Contracts: sourcetree's find and Get. By program (mk.py). -/
namespace Go.Tame.V
open Go Go.Proofs
variable {W0 : World}
set_option maxRecDepth 10000
set_option linter.unusedVariables false
set_option linter.unusedSimpArgs false

theorem G160 (k : NV) (q : List UInt8) : DFun Tryz.prog W0 160 [encTop k, .elm 1 [.str q] 0 0] (.bool (k.name == q)) := by
  refine DFun.intro ti_ok Tryz.func160 rfl (by decide +kernel) Tryz.ntmps160 rfl fun Γ => ?_
  refine Tri.seq ?_
  refine Tri.region ti_ok ?_
  conv => whnf
  intro b
  conv => whnf
  refine Tri.seq ?_
  refine Tri.region ti_ok ?_
  conv => whnf
  refine ⟨rfl, ?_⟩
  conv => whnf
  refine ⟨.str q, fun _ => rfl, ?_⟩
  conv => whnf
  refine Tri.ret ?_
  conv => whnf
  exact .refl _
theorem G96 (l : List NV) (q : List UInt8) (hl : l.length < 1000000000) : DFun Tryz.prog W0 96 [.sl .none 12 (l.map enc), .fn (.func 160) [] [.elm 1 [.str q] 0 0]] (.int .i64 (firstIdx (fun k : NV => k.name == q) l)) := by
  refine DFun.intro ti_ok Tryz.func96 rfl (by decide +kernel) Tryz.ntmps96 rfl fun Γ => ?_
  refine Tri.seq ?_
  refine Tri.region ti_ok ?_
  conv => whnf
  refine Tri.seq ?_
  refine Tri.seq ?_
  refine Tri.region ti_ok ?_
  conv => whnf
  refine Tri.block ?_
  refine Tri.loop (α := { i : Nat // i ≤ l.length ∧ ∀ j (h : j < l.length), j < i → ((l[j]).name == q) = false }) (fun x => [(0, .sl .none 12 (l.map enc)), (1, .fn (.func 160) [] [.elm 1 [.str q] 0 0]), (7, .int .i64 (l.map enc).length), (8, .int .i64 x.1)]) (fun _ => []) (fun x => l.length - x.1) ⟨0, by simp⟩ ⟨.refl _, .refl _, .refl _, .refl _, trivial⟩ trivial ?_
  rintro ⟨i, hi, hp⟩
  dsimp only
  refine Tri.seq ?_
  refine Tri.region ti_ok ?_
  conv => whnf
  refine Tri.seq ?_
  refine Tri.cond (decide ((i : Int) < (l.map enc).length)) rfl (fun hc => ?_) (fun hc => ?_)
  · refine Tri.skip ?_
    conv => whnf
    refine Tri.seq ?_
    refine Tri.block ?_
    refine Tri.seq ?_
    refine Tri.region ti_ok ?_
    have hia : i < l.length := by simpa using hc
    conv => whnf
    refine Tri.seq ?_
    refine Tri.region ti_ok ?_
    conv => whnf
    refine ⟨fun _ => by simp; omega, ?_⟩
    conv => whnf
    refine ⟨encTop l[i], fun _ => get_kids hia, ?_⟩
    conv => whnf
    refine ⟨[encTop l[i], .elm 1 [.str q] 0 0], _, fun _ => G160 l[i] q, ⟨.refl _, .refl _, trivial⟩, ?_⟩
    conv => whnf
    refine Tri.cond _ rfl (fun hc => ?_) (fun hc => ?_)
    · refine Tri.seq ?_
      refine Tri.region ti_ok ?_
      conv => whnf
      refine Tri.ret ?_
      conv => whnf
      exact intDLe (firstIdx_some (p := fun k : NV => k.name == q) hia hp hc).symm
    · refine Tri.skip ?_
      conv => whnf
      refine Tri.region ti_ok ?_
      conv => whnf
      refine .inl ⟨fun _ => by simp [InR]; omega, ?_⟩
      conv => whnf
      exact ⟨⟨i + 1, by omega, fun j hj hlt => (Nat.lt_succ_iff_lt_or_eq.1 hlt).elim (hp j hj) fun e => by subst e; exact hc⟩, by show _ - (i + 1) < _ - i; omega, ⟨.refl _, .refl _, .refl _, .refl _, trivial⟩, trivial⟩
  · refine Tri.exit ?_
    conv => whnf
    refine Tri.seq ?_
    refine Tri.region ti_ok ?_
    conv => whnf
    refine Tri.ret ?_
    conv => whnf
    exact intDLe (firstIdx_none (p := fun k : NV => k.name == q) fun j hj => hp j hj (by simp at hc; omega)).symm
/-- The place that find returns: of node n at index j of a row, behind these names. -/
def findD : List D → Nat → NV → List (List UInt8) → D
  | xs, j, n, [] => .elm 12 xs j 0
  | xs, j, n, m :: r => if kidIx n m < 0 then .raw (.pointer none) else match n.kids[(kidIx n m).toNat]? with
    | some k => findD (n.kids.map enc) (kidIx n m).toNat k r
    | none => .raw (.pointer none)
theorem findD_getN : ∀ (r : List (List UInt8)) (xs : List D) (j : Nat) (n : NV), xs[j]? = some (encTop n) → (getN n r = none ∧ findD xs j n r = .raw (.pointer none)) ∨ ∃ m ys i, getN n r = some m ∧ findD xs j n r = .elm 12 ys i 0 ∧ ys[i]? = some (encTop m)
  | [], xs, j, n, h => .inr ⟨n, xs, j, rfl, rfl, h⟩
  | m :: r, xs, j, n, h => by
    simp only [getN, findD]
    rcases kid_find n m with ⟨h1, h2⟩ | ⟨i, hi, h1, h2⟩
    · rw [h1, h2]; exact .inl ⟨rfl, if_pos (by decide)⟩
    · rw [h1, h2, if_neg (by omega), show ((i : Nat) : Int).toNat = i from rfl, List.getElem?_eq_getElem hi]
      exact findD_getN r _ i _ (get_kid hi)

theorem G116 (hL : LibOk W0) (s : List UInt8) (hs : s.length < 1000000000) (xs : List D) (j : Nat) (n : NV) (hj : xs[j]? = some (encTop n)) (hz : sz n < 1000000000) : DFun Tryz.prog W0 116 [.elm 12 xs j 0, .str s] (if s = [] then .elm 12 xs j 0 else findD xs j n (splitG 47 [] s)) := by
  refine DFun.intro ti_ok Tryz.func116 rfl (by decide +kernel) Tryz.ntmps116 rfl fun Γ => ?_
  refine Tri.seq ?_
  refine Tri.region ti_ok ?_
  conv => whnf
  refine Tri.seq ?_
  refine Tri.seq ?_
  refine Tri.region ti_ok ?_
  conv => whnf
  refine Tri.cond _ rfl (fun hc => ?_) (fun hc => ?_)
  · refine Tri.seq ?_
    refine Tri.region ti_ok ?_
    conv => whnf
    refine Tri.ret ?_
    conv => whnf
    exact DLe.of_eq (if_pos (by simpa using hc)).symm
  · refine Tri.skip ?_
    conv => whnf
    refine Tri.seq ?_
    refine Tri.seq ?_
    refine Tri.region ti_ok ?_
    have hne : s ≠ [] := by simpa using hc
    conv => whnf
    refine ⟨[.str s, .str [47]], _, fun _ => F121 hL s 47 hs, ⟨.refl _, .refl _, trivial⟩, ?_⟩
    conv => whnf
    refine Tri.block ?_
    refine Tri.loop (α := { x : Nat × List D × Nat × NV // x.1 ≤ (splitG 47 [] s).length ∧ x.2.1[x.2.2.1]? = some (encTop x.2.2.2) ∧ findD x.2.1 x.2.2.1 x.2.2.2 ((splitG 47 [] s).drop x.1) = findD xs j n (splitG 47 [] s) ∧ sz x.2.2.2 < 1000000000 }) (fun x => [(0, .elm 12 x.1.2.1 x.1.2.2.1 0), (12, .sl .none 1 (strs (splitG 47 [] s))), (13, .int .i64 (strs (splitG 47 [] s)).length), (14, .int .i64 x.1.1)]) (fun _ => []) (fun x => (splitG 47 [] s).length - x.1.1) ⟨(0, xs, j, n), Nat.zero_le _, hj, rfl, hz⟩ ⟨.refl _, DLe.full, .refl _, .refl _, trivial⟩ trivial ?_
    rintro ⟨⟨i, ys, jj, m⟩, hi, hm, hd, hzm⟩
    obtain ⟨hsl, _⟩ := splitG_len (c := 47) s []
    dsimp only at hi hm hd hzm ⊢
    refine Tri.seq ?_
    refine Tri.region ti_ok ?_
    conv => whnf
    refine Tri.seq ?_
    refine Tri.cond (decide ((i : Int) < (strs (splitG 47 [] s)).length)) rfl (fun hc => ?_) (fun hc => ?_)
    · refine Tri.skip ?_
      conv => whnf
      refine Tri.seq ?_
      refine Tri.block ?_
      refine Tri.seq ?_
      refine Tri.region ti_ok ?_
      have hia : i < (splitG 47 [] s).length := by simpa [strs] using hc
      have hkl := kids_len m
      have hdr : (splitG 47 [] s).drop i = (splitG 47 [] s)[i] :: (splitG 47 [] s).drop (i + 1) := List.drop_eq_getElem_cons hia
      conv => whnf
      refine ⟨fun _ => by simp [strs]; omega, ?_⟩
      conv => whnf
      refine ⟨.str (splitG 47 [] s)[i], fun _ => by simp [strs, hia], ?_⟩
      conv => whnf
      intro b
      conv => whnf
      refine ⟨rfl, ?_⟩
      conv => whnf
      refine Tri.seq ?_
      refine Tri.boxElm 6 6 (.str (splitG 47 [] s)[i]) rfl rfl rfl rfl ?_
      refine Tri.regionG ti_ok ?_
      conv => whnf
      refine ⟨rfl, trivial, .inl ?_⟩
      conv => whnf
      refine ⟨rfl, trivial, .inr (XOp.checkElm rfl ?_)⟩
      conv => whnf
      refine ⟨rfl, trivial, .inl ?_⟩
      conv => whnf
      refine ⟨rfl, trivial, .inl ⟨encTop m, fun _ => hm, ?_⟩⟩
      conv => whnf
      refine ⟨rfl, trivial, .inl ?_⟩
      conv => whnf
      refine ⟨rfl, trivial, .inl ⟨[.sl .none 12 (m.kids.map enc), .fn (.func 160) [] [.elm 1 [.str (splitG 47 [] s)[i]] 0 0]], _, fun _ => G96 m.kids _ (by omega), ⟨.refl _, .refl _, trivial⟩, ?_⟩⟩
      conv => whnf
      refine ⟨rfl, trivial, .inl ?_⟩
      
      conv => whnf
      refine Tri.seq ?_
      refine Tri.seq ?_
      refine Tri.region ti_ok ?_
      conv => whnf
      refine Tri.cond (decide (kidIx m (splitG 47 [] s)[i] < 0)) rfl (fun hc => ?_) (fun hc => ?_)
      · refine Tri.seq ?_
        refine Tri.region ti_ok ?_
        conv => whnf
        refine Tri.ret ?_
        conv => whnf
        refine DLe.of_eq ?_
        rw [if_neg hne, ← hd, hdr]
        exact (if_pos (by simpa using hc)).symm
      · refine Tri.skip ?_
        conv => whnf
        have hix : ∃ (i' : Nat) (h : i' < m.kids.length), kidIx m (splitG 47 [] s)[i] = i' ∧ findK (splitG 47 [] s)[i] m.kids = some m.kids[i'] := by
          rcases kid_find m (splitG 47 [] s)[i] with ⟨h1, _⟩ | h
          · rw [h1] at hc; simp at hc
          · exact h
        obtain ⟨i', hi', he, _⟩ := hix
        have hks := kid_sz hi'
        rw [show firstIdx (fun k : NV => k.name == (splitG 47 [] s)[i]) m.kids = (i' : Int) from he]
        refine Tri.regionG ti_ok ?_
        conv => whnf
        refine ⟨rfl, trivial, .inl ?_⟩
        conv => whnf
        refine ⟨rfl, trivial, .inr (XOp.checkElm rfl ?_)⟩
        conv => whnf
        refine ⟨rfl, trivial, .inl ?_⟩
        conv => whnf
        refine ⟨rfl, trivial, .inl ⟨encTop m, fun _ => hm, ?_⟩⟩
        conv => whnf
        refine ⟨rfl, trivial, .inl ?_⟩
        conv => whnf
        refine ⟨rfl, trivial, .inl ⟨fun _ => by simp; omega, ?_⟩⟩
        conv => whnf
        refine ⟨rfl, trivial, .inl ?_⟩
        
        conv => whnf
        refine Tri.region ti_ok ?_
        conv => whnf
        refine .inl ⟨fun _ => by simp [InR]; omega, ?_⟩
        conv => whnf
        exact ⟨⟨(i + 1, m.kids.map enc, i', m.kids[i']), hia, get_kid hi', by rw [← hd, hdr]; simp only [findD, he]; rw [if_neg (by omega), show ((i' : Nat) : Int).toNat = i' from rfl, List.getElem?_eq_getElem hi'], by show sz m.kids[i'] < _; omega⟩, by show _ - (i + 1) < _ - i; omega, ⟨.refl _, .refl _, .refl _, .refl _, trivial⟩, trivial⟩
    · refine Tri.exit ?_
      conv => whnf
      refine Tri.seq ?_
      refine Tri.region ti_ok ?_
      conv => whnf
      refine Tri.ret ?_
      conv => whnf
      refine DLe.of_eq ?_
      have hin : i = (splitG 47 [] s).length := by simp [strs] at hc; omega
      rw [if_neg hne, ← hd, hin, List.drop_length]
      rfl
theorem G66 (hL : LibOk W0) (s : List UInt8) (hs : s.length < 1000000000) (n : NV) (hn : Fits n) (hv : valid n = true) : DFun Tryz.prog W0 66 [encTop n, .str s] (.tup [encTop (getR n s).1, .int .i64 (getR n s).2]) := by
  refine DFun.intro ti_ok Tryz.func66 rfl (by decide +kernel) Tryz.ntmps66 rfl fun Γ => ?_
  have hz := hn
  unfold Fits at hz
  refine Tri.seq ?_
  refine Tri.region ti_ok ?_
  conv => whnf
  intro b2
  conv => whnf
  intro b4
  conv => whnf
  refine Tri.seq ?_
  refine Tri.seq ?_
  refine Tri.region ti_ok ?_
  conv => whnf
  refine ⟨rfl, ?_⟩
  conv => whnf
  refine ⟨[encTop n], _, fun _ => F39 hL n (by omega), ⟨.refl _, trivial⟩, ?_⟩
  conv => whnf
  refine Tri.cond _ rfl (fun hc => ?_) (fun hc => ?_)
  · refine Tri.seq ?_
    exfalso
    rw [hv] at hc; cases hc
  · refine Tri.skip ?_
    conv => whnf
    refine Tri.seq ?_
    refine Tri.boxElm 2 2 (encTop n) rfl rfl rfl rfl ?_
    have hform : ∃ d, DFun Tryz.prog W0 116 [.elm 12 [encTop n] 0 0, .str s] d ∧ ((d = .raw (.pointer none) ∧ getR n s = (zeroN, 6)) ∨ ∃ m ys i, d = .elm 12 ys i 0 ∧ ys[i]? = some (encTop m) ∧ getR n s = (m, 0) ∧ sz m ≤ sz n) := by
      refine ⟨_, G116 hL s hs [encTop n] 0 n rfl (by omega), ?_⟩
      by_cases h0 : s = []
      · rw [if_pos h0]
        exact .inr ⟨n, _, _, rfl, rfl, by rw [getR, if_pos h0], Nat.le_refl _⟩
      · rw [if_neg h0, getR, if_neg h0]
        rcases findD_getN (splitG 47 [] s) [encTop n] 0 n rfl with ⟨h1, h2⟩ | ⟨m, ys, i, h1, h2, h3⟩
        · rw [h1, h2]; exact .inl ⟨rfl, rfl⟩
        · rw [h1, h2]; exact .inr ⟨m, ys, i, rfl, h3, rfl, getN_sz _ _ _ h1⟩
    obtain ⟨d, hG, ⟨rfl, hR⟩ | ⟨m, ys, i, rfl, hi, hR, hsm⟩⟩ := hform
    · refine Tri.region ti_ok ?_
      conv => whnf
      refine ⟨[.elm 12 [encTop n] 0 0, .str s], _, fun _ => hG, ⟨.refl _, .refl _, trivial⟩, ?_⟩
      conv => whnf
      refine Tri.seq ?_
      refine Tri.seq ?_
      refine Tri.regionG ti_ok ?_
      conv => whnf
      refine ⟨rfl, trivial, .inl ?_⟩
      conv => whnf
      refine ⟨rfl, trivial, .inr (XOp.nilNil rfl rfl ?_)⟩
      conv => whnf
      refine Tri.cond true rfl (fun hc => ?_) (fun hc => by cases hc)
      refine Tri.seq ?_
      refine Tri.region ti_ok ?_
      conv => whnf
      refine ⟨rfl, ?_⟩
      conv => whnf
      refine Tri.ret ?_
      conv => whnf
      refine ⟨rfl, ?_⟩
      conv => whnf
      rw [hR]
      exact ⟨zeroD, .refl _, trivial⟩
    · refine Tri.region ti_ok ?_
      conv => whnf
      refine ⟨[.elm 12 [encTop n] 0 0, .str s], _, fun _ => hG, ⟨.refl _, .refl _, trivial⟩, ?_⟩
      conv => whnf
      refine Tri.seq ?_
      refine Tri.seq ?_
      refine Tri.regionG ti_ok ?_
      conv => whnf
      refine ⟨rfl, trivial, .inl ?_⟩
      conv => whnf
      refine ⟨rfl, trivial, .inr (XOp.nilElm rfl rfl ?_)⟩
      conv => whnf
      refine Tri.cond false rfl (fun hc => by cases hc) (fun hc => ?_)
      refine Tri.skip ?_
      conv => whnf
      refine Tri.seq ?_
      refine Tri.regionG ti_ok ?_
      conv => whnf
      refine ⟨rfl, trivial, .inl ?_⟩
      conv => whnf
      refine ⟨rfl, trivial, .inr (XOp.checkElm rfl ?_)⟩
      conv => whnf
      refine ⟨rfl, trivial, .inl ⟨encTop m, fun _ => hi, ?_⟩⟩
      conv => whnf
      refine ⟨rfl, trivial, .inl ⟨[encTop m], _, fun _ => G117 _ m (Nat.lt_succ_self _) (by omega), ⟨.refl _, trivial⟩, ?_⟩⟩
      conv => whnf
      refine ⟨rfl, trivial, .inl ⟨rfl, ?_⟩⟩
      conv => whnf
      refine ⟨rfl, trivial, .inl ?_⟩
      conv => whnf
      refine Tri.ret ?_
      conv => whnf
      refine ⟨rfl, ?_⟩
      conv => whnf
      rw [hR]
      exact ⟨DLe.of_eq rfl, .refl _, trivial⟩
end Go.Tame.V
/- The paths of the nodes that a view shows. Plain. -/
namespace Go.Tame.V
open Go Go.Proofs
set_option maxRecDepth 10000
set_option linter.unusedVariables false
set_option linter.unusedSimpArgs false

section
variable (nm : List NV → List (List UInt8)) (v : Int)
mutual
/-- The paths, in the view and in the source, of a node and of what a view shows below it. -/
def prs (d : Int) : NV → List UInt8 → List UInt8 → List (List UInt8 × List UInt8)
  | .mk _ _ _ _ _ _ _ _ _ _ ks _, p, q => (p, q) :: prsL d ks (nm ks) p q
def prsL (d : Int) : List NV → List (List UInt8) → List UInt8 → List UInt8 → List (List UInt8 × List UInt8)
  | k :: r, m :: ms, p, q => if shown v k (d + 1) then prs (d + 1) k (joinQ p m (d == 1)) (joinQ q k.name (d == 1)) ++ prsL d r ms p q else prsL d r ms p q
  | _, _, _, _ => []
end
theorem prs_eq (d : Int) (n : NV) (p q : List UInt8) : prs nm v d n p q = (p, q) :: prsL nm v d n.kids (nm n.kids) p q := by cases n; simp only [prs]
mutual
theorem vis_fold {S : Type} (upd : List UInt8 → List UInt8 → S → S) : ∀ (n : NV) (d : Int) (p q : List UInt8) (s : S), vis upd nm v d n p q s = (prs nm v d n p q).foldl (fun s x => upd x.1 x.2 s) s
  | .mk _ _ _ _ _ _ _ _ _ _ ks _, d, p, q, s => by
    simp only [vis, prs, List.foldl_cons]
    exact visL_fold upd ks (nm ks) d p q _
theorem visL_fold {S : Type} (upd : List UInt8 → List UInt8 → S → S) : ∀ (l : List NV) (ms : List (List UInt8)) (d : Int) (p q : List UInt8) (s : S), visL upd nm v d l ms p q s = (prsL nm v d l ms p q).foldl (fun s x => upd x.1 x.2 s) s
  | [], ms, d, p, q, s => by simp [visL, prsL]
  | k :: r, [], d, p, q, s => by simp [visL, prsL]
  | k :: r, m :: ms, d, p, q, s => by
    simp only [visL, prsL]
    split
    · rw [vis_fold upd k, visL_fold upd r, List.foldl_append]
    · exact visL_fold upd r ms d p q s
end
/-- The source paths are some of the tree's paths, in their order. -/
theorem joinQ_below (p m : List UInt8) {d : Int} (hd : 1 ≤ d) : joinQ p m (d == 1) = below p m (d + 1) := by
  unfold joinQ below
  by_cases h : d = 1
  · subst h; rfl
  · rw [if_neg (by simpa using h), if_neg (by omega)]
mutual
theorem prs_sub : ∀ (n : NV) (d : Int) (p q : List UInt8), 1 ≤ d → ((prs nm v d n p q).map Prod.snd).Sublist (pathsS n q d)
  | .mk _ _ _ _ _ _ _ _ _ _ ks _, d, p, q, hd => by
    simp only [prs, pathsS, List.map_cons]
    exact (prsL_sub ks (nm ks) d p q hd).cons_cons q
theorem prsL_sub : ∀ (l : List NV) (ms : List (List UInt8)) (d : Int) (p q : List UInt8), 1 ≤ d → ((prsL nm v d l ms p q).map Prod.snd).Sublist (pathsSL l q d)
  | [], ms, d, p, q, hd => by simp [prsL]
  | k :: r, [], d, p, q, hd => by simp [prsL]
  | k :: r, m :: ms, d, p, q, hd => by
    have ih := prsL_sub r ms d p q hd
    simp only [prsL, pathsSL]
    split
    · rw [List.map_append, joinQ_below q k.name hd]
      exact (prs_sub k (d + 1) _ _ (by omega)).append ih
    · exact ih.trans (List.sublist_append_right _ _)
end
end
theorem pathsN_nodup : ∀ (N : Nat) (n : NV), sz n < N → okT n → (pathsN n).Nodup := by
  refine fun N => Nat.rec (fun n h => absurd h (Nat.not_lt_zero _)) (fun N ih n hN hok => ?_) N
  have hl : ∀ ks : List NV, inc ks → (∀ k ∈ ks, sz k < N ∧ okT k) → (pathsNL ks).Nodup := by
    intro ks
    induction ks with
    | nil => intro _ _; exact List.nodup_nil
    | cons k r ihr =>
      intro hi hk
      obtain ⟨h1, h2⟩ := hk k List.mem_cons_self
      have hr : inc r := fun i hi' => by
        have := hi (i + 1) (by simpa using hi')
        simpa [List.getD] using this
      simp only [pathsNL]
      rw [List.nodup_append]
      refine ⟨?_, ihr hr fun z hz => hk z (List.mem_cons_of_mem _ hz), fun a ha b hb => ?_⟩
      · exact List.Pairwise.map _ (fun x y hxy e => hxy (by simpa using e)) (ih k h1 h2)
      · obtain ⟨q, _, rfl⟩ := List.mem_map.1 ha
        obtain ⟨z, hz, q', _, rfl⟩ := mem_pathsNL.1 hb
        intro e
        simp only [List.cons.injEq] at e
        obtain ⟨i, hi', rfl⟩ := List.mem_iff_getElem.1 hz
        have := inc_get hi (i := 0) (j := i + 1) (by omega) (by simpa using hi')
        simp at this
        exact bl_ne this e.1
  rw [pathsN_eq, List.nodup_cons]
  refine ⟨fun h => ?_, hl n.kids (okT_inc hok) fun k hk => ?_⟩
  · obtain ⟨k, _, q, _, e⟩ := mem_pathsNL.1 h
    cases e
  · obtain ⟨i, hi, rfl⟩ := List.mem_iff_getElem.1 hk
    have := kid_sz hi
    exact ⟨by omega, okT_kid hok hk⟩
theorem paths_nodup {n : NV} (h : okT n) : (pathsS n [] 1).Nodup := by
  rw [pathsS_top]
  refine List.pairwise_map.2 (List.Pairwise.imp_of_mem (fun {a b} ha hb hab e => hab (joinF_inj (path_ok a n h ha) (path_ok b n h hb) e)) (pathsN_nodup _ n (Nat.lt_succ_self _) h))
/-- No two shown nodes have the same path in the source. -/
theorem prs_nodup (nm : List NV → List (List UInt8)) (v : Int) {n : NV} (h : okT n) : ((prs nm v 1 n [] []).map Prod.snd).Nodup := (prs_sub nm v n 1 [] [] (Int.le_refl _)).nodup (paths_nodup h)

/-- The last of some pairs that fits is the first one, if no two fit. -/
theorem last_first {α β : Type} [BEq α] [LawfulBEq α] (f : β → α) (g : β → List UInt8) (x : α) : ∀ (l : List β) (s : List UInt8 × Int), (l.map f).Nodup →
    l.foldl (fun s y => if f y == x then (g y, 0) else s) s = match l.find? (fun y => f y == x) with | some y => (g y, 0) | none => s
  | [], s, _ => rfl
  | y :: r, s, h => by
    rw [List.map_cons, List.nodup_cons] at h
    have ih := last_first f g x r
    simp only [List.foldl_cons, List.find?_cons]
    by_cases e : f y == x
    · rw [if_pos e, ih _ h.2, e]
      have : r.find? (fun y => f y == x) = none := by
        rw [List.find?_eq_none]
        intro z hz hzx
        have h1 : f z = x := by simpa using hzx
        have h2 : f y = x := by simpa using e
        exact h.1 (List.mem_map.2 ⟨z, hz, h1.trans h2.symm⟩)
      rw [this]
    · rw [if_neg e, ih _ h.2]
      have e' : (f y == x) = false := by simpa using e
      rw [e']
end Go.Tame.V
/- Contracts: naming's Path and Source. By program (mk.py). -/
namespace Go.Tame.V
open Go Go.Proofs
variable {W0 : World}
set_option maxRecDepth 10000
set_option linter.unusedVariables false
set_option linter.unusedSimpArgs false

/-- What Path returns. -/
def pathV (nm : List NV → List (List UInt8)) (v : Int) (n : NV) (x : List UInt8) : List UInt8 × Int :=
  if (viewR nm v n).2 = 0 then if (getR n x).2 = 0 then visR (updP x) nm v n ([], 8) else ([], 6) else ([], (viewR nm v n).2)
/-- What Source returns. -/
def sourceV (nm : List NV → List (List UInt8)) (v : Int) (n : NV) (x : List UInt8) : List UInt8 × Int :=
  if (viewR nm v n).2 = 0 then visR (updS x) nm v n ([], 6) else ([], (viewR nm v n).2)
theorem viewR_valid {nm : List NV → List (List UInt8)} {v : Int} {n : NV} (h : (viewR nm v n).2 = 0) : viewOk v = true ∧ valid n = true := by
  unfold viewR at h
  split at h
  · cases h
  · split at h
    · cases h
    · rename_i h1 h2
      exact ⟨by simpa using h1, by simpa using h2⟩

theorem G20 (hL : LibOk W0) (nm : List NV → List (List UInt8)) (v : Int) (hnm : viewOk v = true → NamesOk W0 v nm) (n : NV) (hn : Fits n) (hv : valid n = true → sz n < 800000) (x : List UInt8) (hx : x.length < 1000000000) : DFun Tryz.prog W0 20 [.int .i64 v, encTop n, .str x] (.tup [.str (pathV nm v n x).1, .int .i64 (pathV nm v n x).2]) := by
  refine DFun.intro ti_ok Tryz.func20 rfl (by decide +kernel) Tryz.ntmps20 rfl fun Γ => ?_
  have hz := hn
  unfold Fits at hz
  refine Tri.seq ?_
  refine Tri.region ti_ok ?_
  conv => whnf
  intro b4
  conv => whnf
  intro b5
  conv => whnf
  refine Tri.seq ?_
  refine Tri.region ti_ok ?_
  conv => whnf
  intro b8
  conv => whnf
  intro b9
  conv => whnf
  refine ⟨rfl, ?_⟩
  conv => whnf
  refine ⟨rfl, ?_⟩
  conv => whnf
  refine Tri.seq ?_
  refine Tri.seq ?_
  refine Tri.regionX ti_ok ?_
  conv => whnf
  refine .inl ?_
  conv => whnf
  refine ⟨rfl, ?_⟩
  conv => whnf
  refine .inr (XOp.call rfl [.int .i64 v, encTop n, .fn (.func 65) [] [.box 2000 b5 0, .box 2001 b8 0, .box 2002 b9 0]] [(2000, 5), (2001, 8), (2002, 9)] (F65x (pathA b5 b8 b9 x) (updP x) 65 _ (visitP b5 b8 b9 x) hL nm v hnm n (by omega) hv ([], 8)) rfl ⟨.refl _, .refl _, DLe.fn trivial ⟨DLe.box, DLe.box, DLe.box, trivial⟩, trivial⟩ ?_)
  rintro d' H' ⟨rfl, e1, e2, e3⟩
  refine ⟨_, .refl _, ?_⟩
  conv => whnf
  intro b10
  conv => whnf
  refine .inl ?_
  conv => whnf
  refine ⟨rfl, ?_⟩
  conv => whnf
  refine Tri.seq ?_
  refine Tri.forgetK [(0, .int .i64 v), (4, .box 4 b4 0), (5, .box 5 b5 0), (8, .box 8 b8 0), (9, .box 9 b9 0), (11, .int .i64 (viewR nm v n).2)] [(4, .box b4 (cellsN n)), (5, .box b5 [.str x]), (8, .box b8 [.str (visR (updP x) nm v n ([], 8)).1]), (9, .box b9 [.int .i64 (visR (updP x) nm v n ([], 8)).2])] [(4, 4), (5, 5), (8, 8), (9, 9)] ⟨⟨.refl _, .refl _, .refl _, .refl _, .refl _, .refl _, trivial⟩, rfl, rfl, rfl, rfl, e1, rfl, e2, rfl, e3, trivial⟩ ?_
  refine Tri.region ti_ok ?_
  conv => whnf
  refine Tri.cond _ rfl (fun hc => ?_) (fun hc => ?_)
  · refine Tri.seq ?_
    refine Tri.region ti_ok ?_
    conv => whnf
    refine Tri.ret ?_
    conv => whnf
    have h0 : ¬ (viewR nm v n).2 = 0 := by simpa using hc
    rw [show pathV nm v n x = ([], (viewR nm v n).2) from by rw [pathV, if_neg h0]]
    exact ⟨.refl _, .refl _, trivial⟩
  · refine Tri.skip ?_
    conv => whnf
    refine Tri.seq ?_
    refine Tri.seq ?_
    refine Tri.region ti_ok ?_
    have h0 : (viewR nm v n).2 = 0 := by simpa using hc
    conv => whnf
    refine ⟨rfl, ?_⟩
    conv => whnf
    refine ⟨rfl, ?_⟩
    conv => whnf
    refine ⟨[encTop n, .str x], _, fun _ => G66 hL x hx n hn (viewR_valid h0).2, ⟨.refl _, .refl _, trivial⟩, ?_⟩
    conv => whnf
    intro b12
    conv => whnf
    refine ⟨rfl, ?_⟩
    conv => whnf
    refine Tri.seq ?_
    refine Tri.region ti_ok ?_
    conv => whnf
    refine Tri.cond _ rfl (fun hc => ?_) (fun hc => ?_)
    · refine Tri.seq ?_
      refine Tri.region ti_ok ?_
      conv => whnf
      refine Tri.ret ?_
      conv => whnf
      have h1 : ¬ (getR n x).2 = 0 := by simpa using hc
      rw [show pathV nm v n x = ([], 6) from by rw [pathV, if_pos h0, if_neg h1]]
      exact ⟨.refl _, .refl _, trivial⟩
    · refine Tri.skip ?_
      conv => whnf
      refine Tri.seq ?_
      refine Tri.draw ti_ok mixed (by kernel_rfl) ?_
      have h1 : (getR n x).2 = 0 := by simpa using hc
      conv => whnf
      refine ⟨rfl, ?_⟩
      conv => whnf
      refine ⟨rfl, ?_⟩
      conv => whnf
      refine Tri.ret ?_
      conv => whnf
      rw [show pathV nm v n x = visR (updP x) nm v n ([], 8) from by rw [pathV, if_pos h0, if_pos h1]]
      exact ⟨.refl _, .refl _, trivial⟩
theorem G22 (hL : LibOk W0) (nm : List NV → List (List UInt8)) (v : Int) (hnm : viewOk v = true → NamesOk W0 v nm) (n : NV) (hn : Fits n) (hv : valid n = true → sz n < 800000) (x : List UInt8) (hx : x.length < 1000000000) : DFun Tryz.prog W0 22 [.int .i64 v, encTop n, .str x] (.tup [.str (sourceV nm v n x).1, .int .i64 (sourceV nm v n x).2]) := by
  refine DFun.intro ti_ok Tryz.func22 rfl (by decide +kernel) Tryz.ntmps22 rfl fun Γ => ?_
  have hz := hn
  unfold Fits at hz
  refine Tri.seq ?_
  refine Tri.region ti_ok ?_
  conv => whnf
  intro b4
  conv => whnf
  intro b5
  conv => whnf
  refine Tri.seq ?_
  refine Tri.region ti_ok ?_
  conv => whnf
  intro b8
  conv => whnf
  intro b9
  conv => whnf
  refine ⟨rfl, ?_⟩
  conv => whnf
  refine ⟨rfl, ?_⟩
  conv => whnf
  refine Tri.seq ?_
  refine Tri.seq ?_
  refine Tri.regionX ti_ok ?_
  conv => whnf
  refine .inl ?_
  conv => whnf
  refine ⟨rfl, ?_⟩
  conv => whnf
  refine .inr (XOp.call rfl [.int .i64 v, encTop n, .fn (.func 68) [] [.box 2000 b5 0, .box 2001 b8 0, .box 2002 b9 0]] [(2000, 5), (2001, 8), (2002, 9)] (F65x (pathA b5 b8 b9 x) (updS x) 68 _ (visitS b5 b8 b9 x) hL nm v hnm n (by omega) hv ([], 6)) rfl ⟨.refl _, .refl _, DLe.fn trivial ⟨DLe.box, DLe.box, DLe.box, trivial⟩, trivial⟩ ?_)
  rintro d' H' ⟨rfl, e1, e2, e3⟩
  refine ⟨_, .refl _, ?_⟩
  conv => whnf
  intro b10
  conv => whnf
  refine .inl ?_
  conv => whnf
  refine ⟨rfl, ?_⟩
  conv => whnf
  refine Tri.seq ?_
  refine Tri.forgetK [(0, .int .i64 v), (4, .box 4 b4 0), (5, .box 5 b5 0), (8, .box 8 b8 0), (9, .box 9 b9 0), (11, .int .i64 (viewR nm v n).2)] [(4, .box b4 (cellsN n)), (5, .box b5 [.str x]), (8, .box b8 [.str (visR (updS x) nm v n ([], 6)).1]), (9, .box b9 [.int .i64 (visR (updS x) nm v n ([], 6)).2])] [(4, 4), (5, 5), (8, 8), (9, 9)] ⟨⟨.refl _, .refl _, .refl _, .refl _, .refl _, .refl _, trivial⟩, rfl, rfl, rfl, rfl, e1, rfl, e2, rfl, e3, trivial⟩ ?_
  refine Tri.region ti_ok ?_
  conv => whnf
  refine Tri.cond _ rfl (fun hc => ?_) (fun hc => ?_)
  · refine Tri.seq ?_
    refine Tri.region ti_ok ?_
    conv => whnf
    refine Tri.ret ?_
    conv => whnf
    have h0 : ¬ (viewR nm v n).2 = 0 := by simpa using hc
    rw [show sourceV nm v n x = ([], (viewR nm v n).2) from by rw [sourceV, if_neg h0]]
    exact ⟨.refl _, .refl _, trivial⟩
  · refine Tri.skip ?_
    conv => whnf
    refine Tri.seq ?_
    refine Tri.draw ti_ok mixed (by kernel_rfl) ?_
    have h0 : (viewR nm v n).2 = 0 := by simpa using hc
    conv => whnf
    refine ⟨rfl, ?_⟩
    conv => whnf
    refine ⟨rfl, ?_⟩
    conv => whnf
    refine Tri.ret ?_
    conv => whnf
    rw [show sourceV nm v n x = visR (updS x) nm v n ([], 6) from by rw [sourceV, if_pos h0]]
    exact ⟨.refl _, .refl _, trivial⟩
end Go.Tame.V
/- Contracts: the other way of paths: pairs. By program (mk.py). -/
namespace Go.Tame.V
open Go Go.Proofs
variable {W0 : World}
set_option maxRecDepth 10000
set_option linter.unusedVariables false
set_option linter.unusedSimpArgs false

def encPr (x : List UInt8 × List UInt8) : D := .agg [.str x.2, .str x.1]
theorem prsL_next (nm : List NV → List (List UInt8)) (v d : Int) (p q : List UInt8) : ∀ {l : List NV} {ms : List (List UInt8)} {i : Nat} (h : i < l.length) (h' : i < ms.length),
    prsL nm v d (l.take (i + 1)) (ms.take (i + 1)) p q = prsL nm v d (l.take i) (ms.take i) p q ++ (if shown v l[i] (d + 1) then prs nm v (d + 1) l[i] (joinQ p ms[i] (d == 1)) (joinQ q l[i].name (d == 1)) else [])
  | k :: r, m :: ms, 0, _, _ => by simp [prsL]
  | k :: r, m :: ms, i + 1, h, h' => by
    have := prsL_next nm v d p q (l := r) (ms := ms) (i := i) (by simpa using h) (by simpa using h')
    simp only [List.take_succ_cons, prsL, List.getElem_cons_succ]
    rw [this]
    split <;> simp
theorem prs_len (nm : List NV → List (List UInt8)) (v : Int) (n : NV) (d : Int) (p q : List UInt8) (hd : 1 ≤ d) : (prs nm v d n p q).length ≤ cnt n := by
  have h := (prs_sub nm v n d p q hd).length_le
  rw [List.length_map, pathsS_len] at h; exact h
theorem prsL_len (nm : List NV → List (List UInt8)) (v : Int) (l : List NV) (ms : List (List UInt8)) (d : Int) (p q : List UInt8) (hd : 1 ≤ d) : (prsL nm v d l ms p q).length ≤ cntL l := by
  have h := (prsL_sub nm v l ms d p q hd).length_le
  rw [List.length_map, pathsSL_len] at h; exact h

theorem G67 (hL : LibOk W0) (v : Int) (hv : viewOk v = true) : ∀ (N : Nat) (n : NV), sz n < N → okT n → ∀ (p q : List UInt8) (d : Int), 1 ≤ d → d + sz n < 1000000000 → p.length + 1200 * sz n < 1000000000 → q.length + sz n < 1000000000 → DFun Tryz.prog W0 67 [.int .i64 v, encTop n, .str q, .str p, .int .i64 d] (.sl .none 2 ((prs (namesG v) v d n p q).map encPr)) := by
  refine fun N => Nat.rec (fun n h => absurd h (Nat.not_lt_zero _)) (fun N ih n hN hok p q d hd hd2 hp hq => ?_) N
  obtain ⟨h64, hsn, hinc, hokl⟩ := (okT_eq n).1 hok
  have hks : ∀ k ∈ n.kids, nameOk k.name = true ∧ k.name.length < 1000000000 := fun k hk => (okL_get hokl hk).1
  have hnl := namesG_len v n.kids
  have hnb := ((namesGok hL hv).call n.kids h64 hinc hks).2.2.2
  refine DFun.intro ti_ok Tryz.func67 rfl (by decide +kernel) Tryz.ntmps67 rfl fun Γ => ?_
  refine Tri.seq ?_
  refine Tri.region ti_ok ?_
  conv => whnf
  intro b6
  conv => whnf
  refine Tri.seq ?_
  refine Tri.region ti_ok ?_
  conv => whnf
  refine ⟨trivial, ?_⟩
  conv => whnf
  refine Tri.seq ?_
  refine Tri.region ti_ok ?_
  conv => whnf
  refine ⟨rfl, ?_⟩
  conv => whnf
  refine ⟨[.int .i64 v, .sl .none 12 (n.kids.map enc)], _, fun _ => F72 v hv n.kids h64 hks hinc, ⟨.refl _, .refl _, trivial⟩, ?_⟩
  conv => whnf
  refine Tri.seq ?_
  refine Tri.seq ?_
  refine Tri.region ti_ok ?_
  conv => whnf
  refine Tri.block ?_
  refine Tri.own 11 1000 2 91 rfl (fun w => ?_)
  refine Tri.loopK (α := { i : Nat // i ≤ n.kids.length } × Value) (fun x => [(0, .int .i64 v), (2, .str q), (3, .str p), (4, .int .i64 d), (6, .box 6 b6 0), (11, .sl (.own 1000 x.2) 2 (((p, q) :: prsL (namesG v) v d (n.kids.take x.1.1) ((namesG v n.kids).take x.1.1) p q).map encPr)), (12, .sl .none 1 (strs (namesG v n.kids))), (14, .int .i64 x.1.1)]) (fun x => [(6, .box b6 (cellsN n)), (1000, .own x.2 (((p, q) :: prsL (namesG v) v d (n.kids.take x.1.1) ((namesG v n.kids).take x.1.1) p q).map encPr).length 2 91)]) (fun x => n.kids.length - x.1.1) (⟨0, Nat.zero_le _⟩, w) [(6, 6), (1000, 1000)]
    ⟨⟨.refl _, .refl _, .refl _, .refl _, .refl _, DLe.ownEq (by simp [prsL]; rfl), .refl _, .refl _, trivial⟩, rfl, rfl, rfl, rfl, ownH (by simp [prsL]), trivial⟩ ?_
  rintro ⟨⟨i, hi⟩, w⟩
  dsimp only at hi ⊢
  refine Tri.seq ?_
  refine Tri.seq ?_
  refine Tri.region ti_ok ?_
  conv => whnf
  refine ⟨rfl, ?_⟩
  conv => whnf
  refine Tri.cond _ rfl (fun hc => ?_) (fun hc => ?_)
  · refine Tri.skip ?_
    conv => whnf
    refine Tri.seq ?_
    refine Tri.block ?_
    refine Tri.seq ?_
    refine Tri.region ti_ok ?_
    have hia : i < n.kids.length := by simpa using hc
    have hin : i < (namesG v n.kids).length := by omega
    have hkz := kid_sz hia
    have hjq := below_len q n.kids[i].name (d + 1)
    have hjp := below_len p (namesG v n.kids)[i] (d + 1)
    have hb1 := hnb _ (List.getElem_mem hin)
    have hnx := prsL_next (namesG v) v d p q hia hin
    have hll := prsL_len (namesG v) v (n.kids.take i) ((namesG v n.kids).take i) d p q hd
    have hlt := cntL_take n.kids i
    have hcz := cntL_sz n.kids
    have hsze := sz_eq n
    have hkl := prs_len (namesG v) v n.kids[i] (d + 1) (below p (namesG v n.kids)[i] (d + 1)) (below q n.kids[i].name (d + 1)) (by omega)
    have hks2 := cnt_sz n.kids[i]
    have hkk := szL_len n.kids
    conv => whnf
    refine ⟨rfl, ?_⟩
    conv => whnf
    refine ⟨fun _ => by simp; omega, ?_⟩
    conv => whnf
    refine ⟨encTop n.kids[i], fun _ => get_kids hia, ?_⟩
    conv => whnf
    refine .inl ⟨fun _ => by simp only [InR]; omega, ?_⟩
    conv => whnf
    refine ⟨[.int .i64 v, encTop n.kids[i], .int .i64 (d + 1)], _, fun _ => F73 v _ _, ⟨.refl _, .refl _, .refl _, trivial⟩, ?_⟩
    conv => whnf
    refine Tri.cond _ rfl (fun hc => ?_) (fun hc => ?_)
    · refine Tri.drawTail ti_ok 26 mixed (by kernel_rfl) ?_
      have hs : shown v n.kids[i] (d + 1) = true := hc
      conv => whnf
      refine ⟨rfl, ?_⟩
      conv => whnf
      refine ⟨fun _ => by simp; omega, ?_⟩
      conv => whnf
      refine ⟨encTop n.kids[i], fun _ => get_kids hia, ?_⟩
      conv => whnf
      refine ⟨rfl, ?_⟩
      conv => whnf
      refine ⟨fun _ => by simp; omega, ?_⟩
      conv => whnf
      refine ⟨encTop n.kids[i], fun _ => get_kids hia, ?_⟩
      conv => whnf
      refine ⟨[.str q, .str n.kids[i].name, .int .i64 d], _, fun _ => F68 q n.kids[i].name d (by omega) hd, ⟨.refl _, .refl _, .refl _, trivial⟩, ?_⟩
      conv => whnf
      refine ⟨fun _ => by simp [strs]; omega, ?_⟩
      conv => whnf
      refine ⟨.str (namesG v n.kids)[i], fun _ => by simp [strs, hin], ?_⟩
      conv => whnf
      refine ⟨[.str p, .str (namesG v n.kids)[i], .int .i64 d], _, fun _ => F68 p (namesG v n.kids)[i] d (by omega) hd, ⟨.refl _, .refl _, .refl _, trivial⟩, ?_⟩
      conv => whnf
      refine .inl ⟨fun _ => by simp only [InR]; omega, ?_⟩
      conv => whnf
      refine ⟨[.int .i64 v, encTop n.kids[i], .str (below q n.kids[i].name (d + 1)), .str (below p (namesG v n.kids)[i] (d + 1)), .int .i64 (d + 1)], _, fun _ => ih n.kids[i] (by omega) (okL_get hokl (List.getElem_mem hia)).2 (below p (namesG v n.kids)[i] (d + 1)) (below q n.kids[i].name (d + 1)) (d + 1) (by omega) (by omega) (by omega) (by omega), ⟨.refl _, .refl _, .refl _, .refl _, .refl _, trivial⟩, ?_⟩
      conv => whnf
      refine ⟨rfl, rfl, ?_⟩
      conv => whnf
      refine ⟨by show (_ + _) * 32 ≤ _; simp; omega, by show _ + _ ≤ _; simp; omega, (fun h => by cases h), fun v' => ?_⟩
      conv => whnf
      refine Tri.region ti_ok ?_
      conv => whnf
      refine .inl ⟨fun _ => by simp only [InR]; omega, ?_⟩
      conv => whnf
      have he : ((p, q) :: prsL (namesG v) v d (n.kids.take i) ((namesG v n.kids).take i) p q).map encPr ++ (prs (namesG v) v (d + 1) n.kids[i] (below p (namesG v n.kids)[i] (d + 1)) (below q n.kids[i].name (d + 1))).map encPr = ((p, q) :: prsL (namesG v) v d (n.kids.take (i + 1)) ((namesG v n.kids).take (i + 1)) p q).map encPr := by rw [hnx, if_pos hs, joinQ_below p _ hd, joinQ_below q _ hd]; simp
      exact ⟨(⟨i + 1, hia⟩, v'), [(6, 6), (1000, 68)], by show n.kids.length - (i + 1) < n.kids.length - i; omega, ⟨.refl _, .refl _, .refl _, .refl _, .refl _, DLe.ownEq he, .refl _, .refl _, trivial⟩, rfl, rfl, rfl, rfl, ownH (by rw [← he, List.length_append]), trivial⟩
    · refine Tri.skip ?_
      conv => whnf
      refine Tri.region ti_ok ?_
      conv => whnf
      refine .inl ⟨fun _ => by simp only [InR]; omega, ?_⟩
      conv => whnf
      have hs : shown v n.kids[i] (d + 1) = false := hc
      have he : ((p, q) :: prsL (namesG v) v d (n.kids.take i) ((namesG v n.kids).take i) p q).map encPr = ((p, q) :: prsL (namesG v) v d (n.kids.take (i + 1)) ((namesG v n.kids).take (i + 1)) p q).map encPr := by rw [hnx, hs]; simp
      exact ⟨(⟨i + 1, hia⟩, w), [(6, 6), (1000, 1000)], by show n.kids.length - (i + 1) < n.kids.length - i; omega, ⟨.refl _, .refl _, .refl _, .refl _, .refl _, DLe.ownEq he, .refl _, .refl _, trivial⟩, rfl, rfl, rfl, rfl, ownH (by rw [← he]), trivial⟩
  · refine Tri.exit ?_
    conv => whnf
    refine Tri.seq ?_
    refine Tri.region ti_ok ?_
    conv => whnf
    refine Tri.ret ?_
    conv => whnf
    have hin : i = n.kids.length := by simp at hc; omega
    rw [prs_eq, show n.kids.take i = n.kids from List.take_of_length_le (by omega), show (namesG v n.kids).take i = namesG v n.kids from List.take_of_length_le (by omega)]
    exact DLe.unown
end Go.Tame.V
