/- A program logic of my own over the model, and contracts of this program's functions by it: part 6. No conditions of its own: each theorem states its own. -/
import Derived.Test.YtpkeldhgfdeebaaGreatDoorL5
import Derived.Test.YtpkeldhgfdeebaaGreatDoorCards
import Derived.Test.YtpkeldhgfdeebaaGreatDoorTie
import Derived.ProofKit
import Derived.OpenShut
import Derived.Deep.DeepHandedRow
import Derived.Lib.LaidTab
import Derived.Lib.LaidU8
import Derived.Stop.LaidErr
set_option linter.unnecessarySimpa false
set_option linter.unusedSimpArgs false
set_option linter.unusedVariables false
/- The names of any kids, in any order. Plain. -/
namespace Go.Tame.V
open Go Go.Proofs
variable {W0 : World}
set_option maxRecDepth 10000
set_option linter.unusedVariables false
set_option linter.unusedSimpArgs false

/-- The name that the kid with the name m gets, among kids in order. -/
def nameFor (v : Int) (ks : List NV) (m : List UInt8) : List UInt8 := (((ks.map NV.name).zip (namesG v ks)).lookup m).getD []
def namesU (v : Int) (kids : List NV) : List (List UInt8) := kids.map fun k => nameFor v (sortN kids) k.name
def allOk (kids : List NV) : Bool := kids.all fun k => nameOk k.name
/-- What Names hands back. -/
def namesR (v : Int) (kids : List NV) : List (List UInt8) × Int :=
  if viewOk v = false then ([], 2) else if 64 < kids.length then ([], 7) else if allOk kids = false then ([], 4) else if ¬ (kids.map NV.name).Nodup then ([], 5) else (namesU v kids, 0)
theorem lookup_zip : ∀ {a : List (List UInt8)} {b : List (List UInt8)} {i : Nat} (hn : a.Nodup) (h : i < a.length) (h' : i < b.length), (a.zip b).lookup a[i] = some b[i]
  | x :: a, y :: b, 0, _, _, _ => by simp [List.lookup]
  | x :: a, y :: b, i + 1, hn, h, h' => by
    rw [List.nodup_cons] at hn
    have ih := lookup_zip (a := a) (b := b) (i := i) hn.2 (by simpa using h) (by simpa using h')
    have hne : ((a[i]'(by simpa using h)) == x) = false := by
      rw [beq_eq_false_iff_ne]
      intro e
      exact hn.1 (e ▸ List.getElem_mem _)
    simp only [List.zip_cons_cons, List.getElem_cons_succ, List.lookup, hne]
    exact ih
theorem nameFor_get {v : Int} {ks : List NV} (hn : (ks.map NV.name).Nodup) {t : Nat} (h : t < ks.length) : nameFor v ks ks[t].name = (namesG v ks)[t]'(by rw [namesG_len]; exact h) := by
  have := lookup_zip (a := ks.map NV.name) (b := namesG v ks) (i := t) hn (by simpa using h) (by rw [namesG_len]; exact h)
  rw [List.getElem_map] at this
  rw [nameFor, this]; rfl
theorem inc_nodup {ks : List NV} (h : inc ks) : (ks.map NV.name).Nodup := by
  rw [List.nodup_iff_pairwise_ne, List.pairwise_map]
  exact List.pairwise_iff_getElem.2 fun i j hi hj hij => bl_ne (inc_get h hij hj)
theorem namesU_inc {v : Int} {ks : List NV} (h : inc ks) : namesU v ks = namesG v ks := by
  rw [namesU, sortN_id h]
  apply List.ext_getElem (by simp [namesG_len])
  intro i h1 h2
  rw [List.getElem_map, nameFor_get (inc_nodup h)]

theorem idxOf_get : ∀ {L : List Nat} {t : Nat} (hn : L.Nodup) (ht : t < L.length), L.idxOf L[t] = t
  | x :: r, 0, _, _ => by simp
  | x :: r, t + 1, hn, ht => by
    rw [List.nodup_cons] at hn
    have ht' : t < r.length := by simpa using ht
    have hne : ¬ (x == r[t]) = true := fun e => hn.1 (by rw [beq_iff_eq] at e; rw [e]; exact List.getElem_mem ht')
    rw [List.getElem_cons_succ, List.idxOf_cons, Bool.cond_eq_ite, if_neg hne, idxOf_get hn.2 ht']
/-- An order of the places, sorted by the names there. -/
structure Order (kids : List NV) (L : List Nat) : Prop where
  perm : L.Perm (List.range kids.length)
  sorted : ∀ (i j : Nat) (hi : i < L.length) (hj : j < L.length), i < j → Op.bytesLess (kids.getD L[j] default).name (kids.getD L[i] default).name = false
def inOrder (kids : List NV) (L : List Nat) : List NV := L.map fun i => kids.getD i default
section
variable {kids : List NV} {L : List Nat}
theorem Order.len (h : Order kids L) : L.length = kids.length := by rw [h.perm.length_eq]; simp
theorem Order.lt (h : Order kids L) {t : Nat} (ht : t < L.length) : L[t] < kids.length := List.mem_range.1 (h.perm.subset (List.getElem_mem ht))
theorem Order.nodup (h : Order kids L) : L.Nodup := h.perm.nodup_iff.2 List.nodup_range
theorem Order.mem (h : Order kids L) {j : Nat} (hj : j < kids.length) : j ∈ L := h.perm.symm.subset (List.mem_range.2 hj)
theorem order_perm (h : Order kids L) : (inOrder kids L).Perm kids := by
  have h1 := h.perm.map fun i => kids.getD i default
  have h2 : (List.range kids.length).map (fun i => kids.getD i default) = kids := by
    apply List.ext_getElem (by simp)
    intro i h1 h2
    simp at h1
    simp [List.getD, h1]
  rw [h2] at h1; exact h1
theorem order_len (h : Order kids L) : (inOrder kids L).length = kids.length := (order_perm h).length_eq
theorem order_get (h : Order kids L) {t : Nat} (ht : t < L.length) : (inOrder kids L)[t]'(by simp [inOrder]; exact ht) = kids[L[t]]'(h.lt ht) := by
  simp [inOrder, List.getD, h.lt ht]
/-- Without equal neighbours the order rises. -/
theorem order_inc (h : Order kids L) (hn : ∀ t, (h1 : t + 1 < L.length) → (kids.getD L[t] default).name ≠ (kids.getD L[t + 1] default).name) : inc (inOrder kids L) := fun i hi => by
  have hi' : i + 1 < L.length := by rw [h.len, ← order_len h]; exact hi
  have h1 := h.sorted i (i + 1) (by omega) hi' (by omega)
  have h2 := hn i hi'
  have e : ∀ t, (ht : t < L.length) → ((inOrder kids L).getD t default) = kids.getD L[t] default := fun t ht => by simp [inOrder, List.getD, ht]
  rw [e i (by omega), e (i + 1) hi']
  cases h3 : Op.bytesLess (kids.getD L[i] default).name (kids.getD L[i + 1] default).name with
  | true => rfl
  | false => exact absurd (bl_total _ _ h3 h1) h2
theorem order_sort (h : Order kids L) (hi : inc (inOrder kids L)) : sortN kids = inOrder kids L := by
  refine sorted_nodes hi ((sortN_perm kids).trans (order_perm h).symm) fun i j hi hj hij => List.pairwise_iff_getElem.1 (sortN_sorted kids) i j hi hj hij
theorem order_nodup (h : Order kids L) (hi : inc (inOrder kids L)) : (kids.map NV.name).Nodup := ((order_perm h).map NV.name).nodup_iff.1 (inc_nodup hi)
theorem order_dup (h : Order kids L) {s t : Nat} (hs : s < t) (ht : t < L.length) (e : (kids.getD L[s] default).name = (kids.getD L[t] default).name) : ¬ (kids.map NV.name).Nodup := fun hn => by
  have h1 := h.lt (t := s) (by omega)
  have h2 := h.lt ht
  have hne : L[s] ≠ L[t] := fun e => by
    have := (List.pairwise_iff_getElem.1 (List.nodup_iff_pairwise_ne.1 h.nodup)) s t (by omega) ht hs
    exact this e
  rw [List.nodup_iff_pairwise_ne, List.pairwise_map] at hn
  have hp := List.pairwise_iff_getElem.1 hn
  simp only [List.getD, List.getElem?_eq_getElem h1, List.getElem?_eq_getElem h2, Option.getD_some] at e
  rcases Nat.lt_trichotomy L[s] L[t] with l | l | l
  · exact hp _ _ h1 h2 l e
  · exact hne l
  · exact hp _ _ h2 h1 l e.symm

/-- The row of names, some places of which are set. -/
def rowF (n : Nat) (L : List Nat) (g : Nat → List UInt8) (t : Nat) : List D := (List.range n).map fun j => if j ∈ L.take t then .str (g j) else .str []
theorem rowF_len {n : Nat} {g : Nat → List UInt8} {t : Nat} : (rowF n L g t).length = n := by simp [rowF]
theorem rowF_zero {n : Nat} {g : Nat → List UInt8} : rowF n L g 0 = List.replicate n (.str []) := by
  apply List.ext_getElem (by simp [rowF])
  intro i h1 h2
  simp [rowF]
theorem rowF_set {n : Nat} {g : Nat → List UInt8} {t : Nat} (ht : t < L.length) (hl : L[t] < n) : (rowF n L g t).set L[t] (.str (g L[t])) = rowF n L g (t + 1) := by
  apply List.ext_getElem (by simp [rowF])
  intro i h1 h2
  rw [List.getElem_set]
  simp only [rowF, List.getElem_map, List.getElem_range, List.take_succ_eq_append_getElem ht, List.mem_append, List.mem_singleton]
  by_cases e : L[t] = i
  · subst e; simp
  · have e' : ¬ i = L[t] := fun h => e h.symm
    rw [if_neg e]; simp [e']
theorem rowF_all {v : Int} (h : Order kids L) {g : Nat → List UInt8} (hg : ∀ j, (hj : j < kids.length) → g j = nameFor v (sortN kids) kids[j].name) : rowF kids.length L g L.length = strs (namesU v kids) := by
  apply List.ext_getElem (by simp [rowF, strs, namesU])
  intro i h1 h2
  have hi : i < kids.length := by simpa [rowF] using h1
  simp only [rowF, strs, namesU, List.getElem_map, List.getElem_range, List.take_length]
  rw [if_pos (h.mem hi), hg i hi]
/-- The name at a place, by the place's position in the order. -/
def pickAt (v : Int) (kids : List NV) (L : List Nat) (j : Nat) : List UInt8 := (namesG v (inOrder kids L)).getD (L.idxOf j) []
theorem pickAt_get (h : Order kids L) {v : Int} {t : Nat} (ht : t < L.length) : pickAt v kids L L[t] = pickG v (usedG v ((inOrder kids L).take t)) (kids[L[t]]'(h.lt ht)) := by
  have hlen : t < (inOrder kids L).length := by simp [inOrder]; exact ht
  rw [pickAt, idxOf_get h.nodup ht]
  have h1 : t < (namesG v (inOrder kids L)).length := by rw [namesG_len]; exact hlen
  rw [List.getD, List.getElem?_eq_getElem h1, Option.getD_some, ← order_get h ht]
  -- the t-th of the names is made out of the first t kids
  have key : ∀ (ks : List NV) (t : Nat) (ht : t < ks.length), (namesG v ks)[t]'(by rw [namesG_len]; exact ht) = pickG v (usedG v (ks.take t)) ks[t] := by
    intro ks t ht
    have e : ∀ ks : List NV, ∀ m, m ≤ ks.length → (usedG v ks).reverse.take m = (usedG v (ks.take m)).reverse := by
      intro ks
      refine snoc_rec (p := fun ks => ∀ m, m ≤ ks.length → (usedG v ks).reverse.take m = (usedG v (ks.take m)).reverse) (fun m hm => by simp at hm; subst hm; rfl) (fun l x ih m hm => ?_) ks
      rw [usedG_snoc, List.reverse_cons]
      by_cases hml : m ≤ l.length
      · rw [List.take_append_of_le_length (by simp [usedG_len]; exact hml), ih m hml, List.take_append_of_le_length hml]
      · have hm' : m = l.length + 1 := by simp at hm; omega
        subst hm'
        rw [List.take_of_length_le (by simp [usedG_len]), List.take_of_length_le (by simp), usedG_snoc, List.reverse_cons]
    have h2 := e ks (t + 1) (by omega)
    have h3 : (namesG v ks)[t]? = ((namesG v ks).take (t + 1))[t]? := by rw [List.getElem?_take, if_pos (by omega)]
    have h4 : (namesG v ks).take (t + 1) = (usedG v (ks.take (t + 1))).reverse := h2
    rw [h4, usedG_take ht, List.reverse_cons, List.getElem?_append_right (by simp [usedG_len]; omega)] at h3
    have h5 : (usedG v (ks.take t)).reverse.length = t := by simp [usedG_len]; omega
    rw [h5, Nat.sub_self] at h3
    rw [List.getElem?_eq_getElem (by rw [namesG_len]; exact ht)] at h3
    simpa using h3
  exact key _ t hlen
theorem pickAt_for (h : Order kids L) {v : Int} (hi : inc (inOrder kids L)) {j : Nat} (hj : j < kids.length) : pickAt v kids L j = nameFor v (sortN kids) kids[j].name := by
  obtain ⟨t, ht, rfl⟩ := List.mem_iff_getElem.1 (h.mem hj)
  have hlen : t < (inOrder kids L).length := by simp [inOrder]; exact ht
  rw [order_sort h hi, ← order_get h ht, nameFor_get (inc_nodup hi) hlen, pickAt, idxOf_get h.nodup ht, List.getD, List.getElem?_eq_getElem (by rw [namesG_len]; exact hlen), Option.getD_some]
end
/-- The sort of a row of places, by the names there. -/
theorem sort_order (kids : List NV) (hlen : kids.length < 1000000) (bb : Nat) (v : Value) :
    DCall Tryz.prog W0 76 [.raw v, .fn (.func 77) [] [.box 2000 bb 0]] (look [(2001, .row v (places kids.length) 1 3), (2000, .box bb [.sl .none 12 (kids.map enc)])]) fun d H' =>
      d = .tup [] ∧ ∃ L : List Nat, Order kids L ∧ H' = look [(2001, .row v (L.map encI) 1 3), (2000, .box bb [.sl .none 12 (kids.map enc)])] := by
  by_cases h0 : 0 < kids.length
  · have hc := F123 (W0 := W0) kids h0 hlen bb v (List.finRange kids.length) (by simpa using h0) (by simpa using hlen)
    rw [places_fin] at hc
    refine hc.mono ?_
    rintro d H' ⟨rfl, ds', hp, hs, rfl⟩
    refine ⟨rfl, ds'.map (fun x => x.1), ⟨?_, fun i j hi hj hij => ?_⟩, by rw [List.map_map]; rfl⟩
    · have := hp.map (fun x : Fin kids.length => x.1)
      have e : (List.finRange kids.length).map (fun x : Fin kids.length => x.1) = List.range kids.length := by
        apply List.ext_getElem (by simp)
        intro i h1 h2
        simp
      rwa [e] at this
    · simp only [List.length_map] at hi hj
      have := hs i j hi hj hij
      simpa [List.getD] using this
  · have hn : kids = [] := List.eq_nil_of_length_eq_zero (by omega)
    subst hn
    refine (F123_nil v _ _).mono ?_
    rintro d H' ⟨rfl, rfl⟩
    exact ⟨rfl, [], ⟨.refl _, fun i j hi => by simp at hi⟩, rfl⟩
end Go.Tame.V
/- The names that are made for a view are names. Plain. -/
namespace Go.Tame.V
open Go Go.Proofs
set_option maxRecDepth 10000
set_option linter.unusedVariables false
set_option linter.unusedSimpArgs false

theorem enc_slash {r : Int} (h : isChar r = true) (hi : (47 : UInt8) ∈ (Utf8.encode r).data.toList) : r = 47 := by
  obtain ⟨h1, h2, h3⟩ := (isChar_iff r).1 h
  obtain ⟨n, rfl⟩ : ∃ n : Nat, r = n := ⟨r.toNat, by omega⟩
  have hU : ∀ x : Nat, x < 256 → (UInt8.ofNat x).toNat = x := fun x hx => by rw [UInt8.toNat_ofNat']; omega
  have e47 : (47 : UInt8).toNat = 47 := rfl
  have hne : ∀ x : Nat, x < 256 → 128 ≤ x → (47 : UInt8) ≠ UInt8.ofNat x := fun x hx h128 e => by
    have := congrArg UInt8.toNat e
    rw [hU x hx] at this
    omega
  have hv : Utf8.valid (n : Int) = true := by simp [Utf8.valid]; omega
  by_cases h1' : n < 128
  · have e : (Utf8.encode (n : Int)).data.toList = [UInt8.ofNat n] := by
      unfold Utf8.encode; simp only [hv, if_true, Int.toNat_natCast]; rw [if_pos h1']
    rw [e, List.mem_singleton] at hi
    have := congrArg UInt8.toNat hi
    rw [hU n (by omega)] at this
    omega
  · exfalso
    by_cases h2 : n < 2048
    · have e : (Utf8.encode (n : Int)).data.toList = [UInt8.ofNat (192 + n / 64), UInt8.ofNat (128 + n % 64)] := by
        unfold Utf8.encode; simp only [hv, if_true, Int.toNat_natCast]; rw [if_neg h1', if_pos h2]
      rw [e] at hi
      simp only [List.mem_cons, List.mem_nil_iff, or_false] at hi
      rcases hi with hi | hi
      · exact hne (192 + n / 64) (by omega) (by omega) hi
      · exact hne (128 + n % 64) (by omega) (by omega) hi
    · have e : (Utf8.encode (n : Int)).data.toList = [UInt8.ofNat (224 + n / 4096), UInt8.ofNat (128 + n / 64 % 64), UInt8.ofNat (128 + n % 64)] := by
        unfold Utf8.encode; simp only [hv, if_true, Int.toNat_natCast]; rw [if_neg h1', if_neg h2, if_pos (by omega)]
      rw [e] at hi
      simp only [List.mem_cons, List.mem_nil_iff, or_false] at hi
      rcases hi with hi | hi | hi
      · exact hne (224 + n / 4096) (by omega) (by omega) hi
      · exact hne (128 + n / 64 % 64) (by omega) (by omega) hi
      · exact hne (128 + n % 64) (by omega) (by omega) hi
theorem runes_slash {l : List Int} (h : ∀ r ∈ l, isChar r = true) (hm : (47 : UInt8) ∈ runesB l) : (47 : Int) ∈ l := by
  induction l with
  | nil => simp [runesB] at hm
  | cons r l ih =>
    have e : runesB (r :: l) = (Utf8.encode r).data.toList ++ runesB l := by simp [runesB]
    rw [e, List.mem_append] at hm
    rcases hm with hm | hm
    · rw [enc_slash (h r List.mem_cons_self) hm]; exact List.mem_cons_self
    · exact List.mem_cons_of_mem _ (ih (fun x hx => h x (List.mem_cons_of_mem _ hx)) hm)
/-- Some characters are a name. -/
theorem nameOk_runes {l : List Int} (h : ∀ r ∈ l, isChar r = true) (h1 : 1 ≤ l.length) (h2 : l.length ≤ 64) (h3 : (47 : Int) ∉ l) (h4 : l ≠ [46]) (h5 : l ≠ [46, 46]) : nameOk (runesB l) = true := by
  have hc := charsP_of l h
  have hlen := runesB_len l
  have hd : charsP [46] = some [46] := by decide +kernel
  have hdd : charsP [46, 46] = some [46, 46] := by decide +kernel
  unfold nameOk
  rw [if_neg]
  · have hch : chars (runesB l) = (l, 0) := by
      unfold chars
      rw [if_neg (by omega), hc]
    rw [hch]
    simp [h1, h2]
  · rintro (e | e | e)
    · rw [e, hd] at hc; simp at hc; exact h4 hc.symm
    · rw [e, hdd] at hc; simp at hc; exact h5 hc.symm
    · exact h3 (runes_slash h e)

theorem jolC_slash (r : Int) : jolC r ≠ 47 := by
  unfold jolC
  split
  · decide
  · rename_i h
    intro e
    subst e
    exact h (by decide)
theorem isoC_slash (r : Int) : isoC r ≠ 47 ∧ isoC r ≠ 46 := by
  unfold isoC
  split
  · constructor <;> omega
  · split
    · rename_i h
      constructor <;> (intro e; subst e; exact absurd h.2 (by decide))
    · constructor <;> decide
theorem mapC_slash (v r : Int) : mapC v r ≠ 47 := by
  unfold mapC
  split
  · exact (isoC_slash r).1
  · exact jolC_slash r
theorem suf_digs {k : Nat} (hk : k < 100) : ∀ r ∈ sufI k, 48 ≤ r ∧ r ≤ 57 := by
  revert k
  have : ∀ k : Fin 100, ∀ r ∈ sufI k.1, 48 ≤ r ∧ r ≤ 57 := by decide +kernel
  intro k hk
  exact this ⟨k, hk⟩
theorem suf_pos {k : Nat} (hk : k < 100) (h0 : 0 < k) : 1 ≤ (sufI k).length := by
  revert k
  have : ∀ k : Fin 100, 0 < k.1 → 1 ≤ (sufI k.1).length := by decide +kernel
  intro k hk h0
  exact this ⟨k, hk⟩ h0
theorem dotI_le : ∀ l : List Int, dotI l < l.length ∧ -1 ≤ dotI l
  | [] => by simp [dotI]
  | x :: r => by
    have := dotI_le r
    simp only [dotI, List.length_cons]
    split
    · omega
    · split <;> omega
/-- A made name is a name. -/
theorem made_ok {v : Int} (hv : v = 0 ∨ v = 1) {s : List UInt8} (hs : nameOk s = true) (dir : Bool) {k : Nat} (hk : k < 100) : nameOk (numS v (wantS v s dir).1 (wantS v s dir).2 k) = true := by
  obtain ⟨l, hc, _, _, hl1, hl2⟩ := name_chars hs
  obtain ⟨hb, hch⟩ := chars_bytes s.length s l (Nat.le_refl _) hc
  obtain ⟨q1, q2, q3⟩ := cut_chars v hc dir
  have hne46 : l ≠ [46] := fun e => by
    subst e
    have : s = [46] := by rw [← hb]; decide +kernel
    rw [this] at hs; revert hs; decide +kernel
  have hne4646 : l ≠ [46, 46] := fun e => by
    subst e
    have : s = [46, 46] := by rw [← hb]; decide +kernel
    rw [this] at hs; revert hs; decide +kernel
  obtain ⟨pc1, pc2⟩ := parts_char (v := v) (dir := dir) hch
  -- the parts
  have hparts : 1 ≤ (partsC v l dir).1.length ∧ (partsC v l dir).1.length ≤ 64 ∧ (v = 1 → (partsC v l dir).2.length ≤ 16) ∧ ((partsC v l dir).2 = [] → v = 1 → (partsC v l dir).1 = l) := by
    have hd := dotI_le l
    unfold partsC
    split
    · rename_i h
      refine ⟨by simp; omega, by simp; omega, fun h1 => ?_, fun h2 => ?_⟩
      · rcases h.2.2.2 with h3 | h3
        · omega
        · simp; omega
      · intro _
        rw [List.drop_eq_nil_iff] at h2
        omega
    · split
      · rename_i h
        exact ⟨by simp; omega, by simp; omega, fun _ => by simp, fun _ h1 => absurd h.2.1 (by omega)⟩
      · exact ⟨hl1, hl2, fun _ => by simp, fun _ _ => rfl⟩
  have hw : wantS v s dir = ((partsC v l dir).1.map (mapC v), if (partsC v l dir).2 = [] then [] else 46 :: ((partsC v l dir).2.map (mapC v)).take (mostC v)) := by
    unfold wantS
    rw [q1, q2]
    by_cases h : (partsC v l dir).2 = []
    · rw [if_pos (q3.2 h), if_pos h]
    · rw [if_neg (fun e => h (q3.1 e)), if_neg h]
  rw [hw]
  generalize (partsC v l dir).1 = a at *
  generalize (partsC v l dir).2 = b at *
  dsimp only
  obtain ⟨ha1, ha2, hb16, hbn⟩ := hparts
  have hA : ∀ r ∈ a.map (mapC v), isChar r = true ∧ r ≠ 47 := fun r hr => by
    obtain ⟨x, hx, rfl⟩ := List.mem_map.1 hr
    exact ⟨mapC_char (pc1 x hx), mapC_slash v x⟩
  generalize hE : (if b = [] then [] else 46 :: (b.map (mapC v)).take (mostC v)) = ex
  have hEx : (∀ r ∈ ex, isChar r = true ∧ r ≠ 47) ∧ (ex = [] ∨ 2 ≤ ex.length) ∧ (v = 0 → ex.length ≤ 4) ∧ (v = 1 → ex.length ≤ 17) ∧ (ex = [] → b = []) := by
    rw [← hE]
    by_cases h : b = []
    · rw [if_pos h]
      exact ⟨fun r hr => by (cases hr), .inl rfl, fun _ => by (simp), fun _ => by (simp), fun _ => h⟩
    · rw [if_neg h]
      have hbl : 1 ≤ b.length := by cases b with | nil => exact absurd rfl h | cons x r => simp
      refine ⟨fun r hr => ?_, .inr ?_, fun h0 => ?_, fun h1 => ?_, fun e => by cases e⟩
      · rcases List.mem_cons.1 hr with rfl | hr
        · exact ⟨by decide, by decide⟩
        · obtain ⟨x, hx, rfl⟩ := List.mem_map.1 (List.mem_of_mem_take hr)
          exact ⟨mapC_char (pc2 x hx), mapC_slash v x⟩
      · have : 1 ≤ mostC v := by unfold mostC; split <;> omega
        simp; omega
      · have : mostC v = 3 := by unfold mostC; rw [if_pos h0]
        simp; omega
      · have := hb16 h1
        simp; omega
  obtain ⟨he1, he2, he3, he4, he5⟩ := hEx
  have hS := suf_digs hk
  have hSl := sufI_len hk
  have hst : stemN v (a.map (mapC v)) ex k ≤ a.length ∧ 1 ≤ stemN v (a.map (mapC v)) ex k ∧ stemN v (a.map (mapC v)) ex k + (sufI k).length + ex.length ≤ 64 ∧ (v = 1 → k = 0 → ex = [] → stemN v (a.map (mapC v)) ex k = a.length) := by
    unfold stemN roomI
    rw [List.length_map]
    rcases hv with rfl | rfl
    · have := he3 rfl
      rw [show ((0 : Int) == 1) = false from rfl, cond_false]
      refine ⟨by split <;> split <;> omega, by split <;> split <;> omega, by split <;> split <;> omega, fun h => by omega⟩
    · have := he4 rfl
      rw [show ((1 : Int) == 1) = true from rfl, cond_true]
      refine ⟨by split <;> split <;> omega, by split <;> split <;> omega, by split <;> split <;> omega, fun _ h0 h1 => ?_⟩
      subst h0 h1
      have : (sufI 0).length = 0 := rfl
      rw [this]
      simp only [List.length_nil]
      split <;> split <;> omega
  obtain ⟨hs1, hs2, hs3, hs4⟩ := hst
  rw [numS]
  have htl : ((a.map (mapC v)).take (stemN v (a.map (mapC v)) ex k)).length = stemN v (a.map (mapC v)) ex k := by simp; omega
  generalize hN : stemN v (a.map (mapC v)) ex k = N at *
  have hall : ∀ r ∈ (a.map (mapC v)).take N ++ sufI k ++ ex, isChar r = true ∧ r ≠ 47 := fun r hr => by
    rcases List.mem_append.1 hr with hr | hr
    · rcases List.mem_append.1 hr with hr | hr
      · exact hA r (List.mem_of_mem_take hr)
      · have := hS r hr
        exact ⟨(isChar_iff r).2 (by omega), by omega⟩
    · exact he1 r hr
  have hlen : ((a.map (mapC v)).take N ++ sufI k ++ ex).length = N + (sufI k).length + ex.length := by
    rw [List.length_append, List.length_append, htl]
  -- not one or two points
  have hpt : ∀ m : Nat, 1 ≤ m → m ≤ 2 → (a.map (mapC v)).take N ++ sufI k ++ ex = List.replicate m 46 → l = List.replicate m 46 := fun m hm1 hm2 e => by
    have hel := congrArg List.length e
    rw [hlen, List.length_replicate] at hel
    have hex : ex = [] := by
      rcases he2 with h | h
      · exact h
      · omega
    have hbn' := he5 hex
    have hk0 : k = 0 := by
      rcases Nat.eq_zero_or_pos k with h | h
      · exact h
      · exfalso
        have h1 := suf_pos hk h
        obtain ⟨x, hx⟩ : ∃ x, x ∈ sufI k := by
          cases hsx : sufI k with
          | nil => rw [hsx] at h1; simp at h1
          | cons x r => exact ⟨x, List.mem_cons_self⟩
        have h2 := hS x hx
        have h3 : x ∈ List.replicate m (46 : Int) := by rw [← e]; simp [hx]
        have := (List.mem_replicate.1 h3).2
        omega
    subst hk0 hex
    have hsz : (sufI 0) = [] := rfl
    rw [hsz, List.append_nil, List.append_nil] at e
    rcases hv with rfl | rfl
    · exfalso
      cases a with
      | nil => simp at ha1
      | cons x r =>
        obtain ⟨N', rfl⟩ : ∃ N', N = N' + 1 := ⟨N - 1, by omega⟩
        have h3 : mapC 0 x ∈ List.replicate m (46 : Int) := by rw [← e]; simp
        have h4 := (List.mem_replicate.1 h3).2
        exact (isoC_slash x).2 (by simpa [mapC] using h4)
    · have hNa := hs4 rfl rfl rfl
      rw [hNa, List.take_of_length_le (by simp)] at e
      have hal : a = l := hbn hbn' rfl
      subst hal
      have hmm : ∀ x ∈ a, x = 46 := fun x hx => by
        have h3 : mapC 1 x ∈ List.replicate m (46 : Int) := by rw [← e]; exact List.mem_map.2 ⟨x, hx, rfl⟩
        have h4 := (List.mem_replicate.1 h3).2
        have h5 : jolC x = 46 := by simpa [mapC] using h4
        unfold jolC at h5
        split at h5
        · omega
        · exact h5
      refine List.eq_replicate_iff.2 ⟨?_, hmm⟩
      have := congrArg List.length e
      simpa using this
  refine nameOk_runes (fun r hr => (hall r hr).1) (by rw [hlen]; omega) (by rw [hlen]; omega) (fun hm => (hall 47 hm).2 rfl) (fun e => ?_) (fun e => ?_)
  · exact hne46 (hpt 1 (by omega) (by omega) e)
  · exact hne4646 (hpt 2 (by omega) (by omega) e)
theorem pickG_ok {v : Int} (hv : viewOk v = true) {k : NV} (hk : nameOk k.name = true) {U : List (List UInt8)} (hU : U.length ≤ 64) : nameOk (pickG v U k) = true := by
  unfold pickG
  split
  · rename_i h
    exact made_ok h hk (k.kind == 0) (fresh_ok v U _ _ hU).1
  · exact hk
theorem usedG_ok {v : Int} (hv : viewOk v = true) (ks : List NV) : ks.length ≤ 64 → (∀ k ∈ ks, nameOk k.name = true) → ∀ m ∈ usedG v ks, nameOk m = true := by
  refine snoc_rec (p := fun ks => ks.length ≤ 64 → (∀ k ∈ ks, nameOk k.name = true) → ∀ m ∈ usedG v ks, nameOk m = true) (fun _ _ m hm => by simp [usedG] at hm) (fun l x ih hl h m hm => ?_) ks
  simp at hl
  rw [usedG_snoc] at hm
  rcases List.mem_cons.1 hm with rfl | hm
  · exact pickG_ok hv (h x (by simp)) (by rw [usedG_len]; omega)
  · exact ih (by omega) (fun k hk => h k (by simp [hk])) m hm
theorem namesG_ok {v : Int} (hv : viewOk v = true) {ks : List NV} (h64 : ks.length ≤ 64) (h : ∀ k ∈ ks, nameOk k.name = true) : ∀ m ∈ namesG v ks, nameOk m = true := fun m hm => usedG_ok hv ks h64 h m (List.mem_reverse.1 hm)
end Go.Tame.V
/- Made names, made again: the same. A shown tree, shown again. Plain. -/
namespace Go.Tame.V
open Go Go.Proofs
set_option maxRecDepth 10000
set_option linter.unusedVariables false
set_option linter.unusedSimpArgs false

theorem dotI_at : ∀ {l : List Int}, 0 ≤ dotI l → l = l.take (dotI l).toNat ++ 46 :: l.drop (dotI l + 1).toNat
  | [], h => by simp [dotI] at h
  | x :: r, h => by
    simp only [dotI] at h ⊢
    by_cases h1 : 0 ≤ dotI r
    · rw [if_pos h1]
      have ih := dotI_at h1
      have e1 : (dotI r + 1).toNat = (dotI r).toNat + 1 := by omega
      have e2 : (dotI r + 1 + 1).toNat = (dotI r + 1).toNat + 1 := by omega
      rw [e2, e1, List.take_succ_cons, List.drop_succ_cons, ← e1]
      simp only [List.cons_append]
      congr 1
    · rw [if_neg h1] at h ⊢
      by_cases h2 : x = 46
      · rw [if_pos h2]; subst h2; simp
      · rw [if_neg h2] at h; omega
theorem map_id_of {α : Type} {f : α → α} {l : List α} (h : ∀ x ∈ l, f x = x) : l.map f = l := (List.map_congr_left h).trans (List.map_id' l)
theorem want_runes (v : Int) {l : List Int} (h : ∀ r ∈ l, isChar r = true) (dir : Bool) :
    wantS v (runesB l) dir = ((partsC v l dir).1.map (mapC v), if (partsC v l dir).2 = [] then [] else 46 :: ((partsC v l dir).2.map (mapC v)).take (mostC v)) := by
  obtain ⟨q1, q2, q3⟩ := cut_chars v (charsP_of l h) dir
  unfold wantS
  rw [q1, q2]
  by_cases h : (partsC v l dir).2 = []
  · rw [if_pos (q3.2 h), if_pos h]
  · rw [if_neg (fun e => h (q3.1 e)), if_neg h]
/-- Characters that Joliet allows. -/
def jolOk (l : List Int) : Prop := (∀ r ∈ l, isChar r = true ∧ jolC r = r) ∧ l.length ≤ 64
theorem jol_again {l : List Int} (h : jolOk l) (dir : Bool) : numS 1 (wantS 1 (runesB l) dir).1 (wantS 1 (runesB l) dir).2 0 = runesB l := by
  obtain ⟨h1, h2⟩ := h
  have hm : ∀ x : List Int, (∀ r ∈ x, r ∈ l) → x.map (mapC 1) = x := fun x hx => map_id_of fun r hr => by
    have := (h1 r (hx r hr)).2
    simpa [mapC] using this
  have hmost : mostC 1 = 64 := by decide
  rw [want_runes 1 (fun r hr => (h1 r hr).1) dir]
  unfold partsC
  split
  · rename_i hp
    have hl := dotI_at (l := l) (by omega)
    rw [hm _ fun r hr => List.mem_of_mem_take hr, hm _ fun r hr => List.mem_of_mem_drop hr, hmost]
    have hb : ¬ l.drop (dotI l + 1).toNat = [] := fun e => by
      rw [List.drop_eq_nil_iff] at e; omega
    have hbl : (l.drop (dotI l + 1).toNat).length ≤ 16 := by
      rcases hp.2.2.2 with h | h
      · omega
      · simp; omega
    have hal : (l.take (dotI l).toNat).length = (dotI l).toNat := by simp; omega
    have hlen := congrArg List.length hl
    rw [List.length_append, List.length_cons] at hlen
    dsimp only
    rw [if_neg hb, List.take_of_length_le (i := 64) (l := l.drop (dotI l + 1).toNat) (by omega)]
    generalize l.take (dotI l).toNat = a at *
    generalize l.drop (dotI l + 1).toNat = b at *
    have hsN : stemN 1 a (46 :: b) 0 = a.length := by
      unfold stemN roomI
      have : (sufI 0).length = 0 := rfl
      rw [this, show ((1 : Int) == 1) = true from rfl, cond_true]
      simp only [List.length_cons]
      split <;> split <;> omega
    rw [numS, hsN, List.take_of_length_le (Nat.le_refl _), show sufI 0 = [] from rfl, List.append_nil, ← hl]
  · split
    · rename_i h; omega
    · rw [hm _ fun r hr => hr]
      dsimp only
      rw [if_pos rfl]
      have hsN : stemN 1 l [] 0 = l.length := by
        unfold stemN roomI
        have : (sufI 0).length = 0 := rfl
        rw [this, show ((1 : Int) == 1) = true from rfl, cond_true]
        simp only [List.length_nil]
        split <;> split <;> omega
      rw [numS, hsN, List.take_of_length_le (Nat.le_refl _), show sufI 0 = [] from rfl, List.append_nil, List.append_nil]
/-- A stem and an extension of the ISO view. -/
structure IsoOk (dir : Bool) (l : List Int) (a b : List Int) : Prop where
  a1 : 1 ≤ a.length
  a8 : a.length ≤ 8
  b3 : b.length ≤ 3
  ca : ∀ r ∈ a, isChar r = true ∧ isoC r = r
  cb : ∀ r ∈ b, isChar r = true ∧ isoC r = r
  dir : dir = true → b = []
  eq : l = if b = [] then a else a ++ 46 :: b
theorem iso_again {dir : Bool} {l a b : List Int} (h : IsoOk dir l a b) : numS 0 (wantS 0 (runesB l) dir).1 (wantS 0 (runesB l) dir).2 0 = runesB l := by
  have hm : ∀ x : List Int, (∀ r ∈ x, isoC r = r) → x.map (mapC 0) = x := fun x hx => map_id_of fun r hr => by
    have := hx r hr
    simpa [mapC] using this
  have hna : ∀ x : List Int, (∀ r ∈ x, isChar r = true ∧ isoC r = r) → (46 : Int) ∉ x := fun x hx hm46 => by
    have := (hx 46 hm46).2
    exact (isoC_slash 46).2 this
  have hch : ∀ r ∈ l, isChar r = true := fun r hr => by
    rw [h.eq] at hr
    split at hr
    · exact (h.ca r hr).1
    · rcases List.mem_append.1 hr with hr | hr
      · exact (h.ca r hr).1
      · rcases List.mem_cons.1 hr with rfl | hr
        · decide
        · exact (h.cb r hr).1
  have hmost : mostC 0 = 3 := by decide
  rw [want_runes 0 hch dir]
  by_cases hb : b = []
  · have hl : l = a := by rw [h.eq, if_pos hb]
    have hd := dotI_none (hna a h.ca)
    have hp : partsC 0 l dir = (a, []) := by
      unfold partsC
      rw [hl, hd, if_neg (by omega), if_neg (by omega)]
    rw [hp]
    dsimp only
    rw [if_pos rfl, hm a fun r hr => (h.ca r hr).2, hl]
    have hsN : stemN 0 a [] 0 = a.length := by
      have := h.a8
      unfold stemN roomI
      have h0 : (sufI 0).length = 0 := rfl
      rw [h0, show ((0 : Int) == 1) = false from rfl, cond_false]
      split <;> split <;> omega
    rw [numS, hsN, List.take_of_length_le (Nat.le_refl _), show sufI 0 = [] from rfl, List.append_nil, List.append_nil]
  · have hl : l = a ++ 46 :: b := by rw [h.eq, if_neg hb]
    have hdir : dir = false := by
      cases dir with
      | false => rfl
      | true => exact absurd (h.dir rfl) hb
    have hd := dotI_some a (hna b h.cb)
    rw [← hl] at hd
    have hbl : 1 ≤ b.length := by cases b with | nil => exact absurd rfl hb | cons x r => simp
    have hlen : l.length = a.length + 1 + b.length := by rw [hl]; simp; omega
    have ha1 := h.a1
    have hp : partsC 0 l dir = (a, b) := by
      unfold partsC
      rw [if_pos ⟨hdir, by omega, by omega, .inl rfl⟩, hd, hl]
      have e : (((a.length : Nat) : Int) + 1).toNat = a.length + 1 := by omega
      rw [e]
      simp
    rw [hp]
    dsimp only
    rw [if_neg hb, hm a fun r hr => (h.ca r hr).2, hm b fun r hr => (h.cb r hr).2, hmost, List.take_of_length_le h.b3]
    have hsN : stemN 0 a (46 :: b) 0 = a.length := by
      have := h.a8
      unfold stemN roomI
      have h0 : (sufI 0).length = 0 := rfl
      rw [h0, show ((0 : Int) == 1) = false from rfl, cond_false]
      split <;> split <;> omega
    rw [numS, hsN, List.take_of_length_le (Nat.le_refl _), show sufI 0 = [] from rfl, List.append_nil, hl]
end Go.Tame.V
/- What made names look like; they are made of themselves. Plain. -/
namespace Go.Tame.V
open Go Go.Proofs
set_option maxRecDepth 10000
set_option linter.unusedVariables false
set_option linter.unusedSimpArgs false

theorem iso_idem {r : Int} (h : isChar r = true) : isoC (isoC r) = isoC r := by
  obtain ⟨h1, _, _⟩ := (isChar_iff r).1 h
  by_cases h2 : 97 ≤ r ∧ r ≤ 122
  · have e : isoC r = r - 97 + 65 := by rw [isoC, if_pos h2]
    rw [e, isoC, if_neg (by omega), if_pos ⟨by omega, by simp [dB]; omega⟩]
  · by_cases h3 : r < 128 ∧ dB r = true
    · have e : isoC r = r := by rw [isoC, if_neg h2, if_pos h3]
      rw [e, e]
    · have e : isoC r = 95 := by rw [isoC, if_neg h2, if_neg h3]
      rw [e]; decide
theorem jol_idem (r : Int) : jolC (jolC r) = jolC r := by
  by_cases h : special r = true
  · have e : jolC r = 95 := by rw [jolC, if_pos h]
    rw [e]; decide
  · have e : jolC r = r := by rw [jolC, if_neg h]
    rw [e, e]
theorem digit_fix {r : Int} (h : 48 ≤ r ∧ r ≤ 57) : isChar r = true ∧ isoC r = r ∧ jolC r = r := by
  refine ⟨(isChar_iff r).2 (by omega), ?_, ?_⟩
  · rw [isoC, if_neg (by omega), if_pos ⟨by omega, by simp [dB]; omega⟩]
  · rw [jolC, if_neg]
    simp [special]; omega
/-- A made name, taken apart. -/
theorem made_shape {v : Int} (hv : v = 0 ∨ v = 1) {s : List UInt8} (hs : nameOk s = true) (dir : Bool) {k : Nat} (hk : k < 100) :
    ∃ l, numS v (wantS v s dir).1 (wantS v s dir).2 k = runesB l ∧ (v = 0 → ∃ a b, IsoOk dir l a b) ∧ jolOk l := by
  obtain ⟨l, hc, _, _, hl1, hl2⟩ := name_chars hs
  obtain ⟨hb, hch⟩ := chars_bytes s.length s l (Nat.le_refl _) hc
  obtain ⟨pc1, pc2⟩ := parts_char (v := v) (dir := dir) hch
  have hw := want_runes v hch dir
  rw [hb] at hw
  have hparts : 1 ≤ (partsC v l dir).1.length ∧ (v = 1 → (partsC v l dir).2.length ≤ 16) ∧ (dir = true → (partsC v l dir).2 = []) := by
    have hd := dotI_le l
    unfold partsC
    split
    · rename_i h
      refine ⟨by simp; omega, fun h1 => ?_, fun h2 => ?_⟩
      · rcases h.2.2.2 with h3 | h3
        · omega
        · simp; omega
      · rw [h.1] at h2; cases h2
    · split
      · rename_i h
        exact ⟨by simp; omega, fun _ => by simp, fun _ => rfl⟩
      · exact ⟨hl1, fun _ => by simp, fun _ => rfl⟩
  rw [hw]
  generalize (partsC v l dir).1 = a at *
  generalize (partsC v l dir).2 = b at *
  obtain ⟨ha1, hb16, hdir⟩ := hparts
  dsimp only
  refine ⟨_, rfl, fun h0 => ?_, ?_⟩
  · subst h0
    have hS := suf_digs hk
    have hSl := sufI_len hk
    have hst : stemN 0 (a.map (mapC 0)) (if b = [] then [] else 46 :: (b.map (mapC 0)).take (mostC 0)) k + (sufI k).length ≤ 8 ∧ 1 ≤ stemN 0 (a.map (mapC 0)) (if b = [] then [] else 46 :: (b.map (mapC 0)).take (mostC 0)) k := by
      unfold stemN roomI
      rw [List.length_map, show ((0 : Int) == 1) = false from rfl, cond_false]
      refine ⟨by split <;> split <;> omega, by split <;> split <;> omega⟩
    generalize stemN 0 (a.map (mapC 0)) (if b = [] then [] else 46 :: (b.map (mapC 0)).take (mostC 0)) k = N at *
    have hmost : mostC 0 = 3 := by decide
    rw [hmost]
    have hfix : ∀ x : List Int, (∀ r ∈ x, isChar r = true) → ∀ r ∈ x.map (mapC 0), isChar r = true ∧ isoC r = r := fun x hx r hr => by
      obtain ⟨y, hy, rfl⟩ := List.mem_map.1 hr
      have e : mapC 0 y = isoC y := by simp [mapC]
      rw [e]
      exact ⟨by have := mapC_char (v := 0) (hx y hy); rwa [e] at this, iso_idem (hx y hy)⟩
    refine ⟨(a.map (mapC 0)).take N ++ sufI k, (b.map (mapC 0)).take 3, ?_⟩
    refine ⟨by simp; omega, by simp; omega, by simp; omega, fun r hr => ?_, fun r hr => hfix b pc2 r (List.mem_of_mem_take hr), fun hd => by rw [hdir hd]; rfl, ?_⟩
    · rcases List.mem_append.1 hr with hr | hr
      · exact hfix a pc1 r (List.mem_of_mem_take hr)
      · have := digit_fix (hS r hr)
        exact ⟨this.1, this.2.1⟩
    · by_cases hbn : b = []
      · subst hbn; simp
      · have hb3 : ¬ (b.map (mapC 0)).take 3 = [] := by
          cases b with
          | nil => exact absurd rfl hbn
          | cons x r => simp
        rw [if_neg hbn, if_neg hb3]
  · have hS := suf_digs hk
    have hSl := sufI_len hk
    have hfix : ∀ x : List Int, (∀ r ∈ x, isChar r = true) → ∀ r ∈ x.map (mapC v), isChar r = true ∧ jolC r = r := fun x hx r hr => by
      obtain ⟨y, hy, rfl⟩ := List.mem_map.1 hr
      refine ⟨mapC_char (hx y hy), ?_⟩
      unfold mapC
      split
      · -- a d-character or a line
        have h1 := iso_idem (hx y hy)
        rw [jolC, if_neg]
        intro hsp
        generalize isoC y = z at *
        have hz : z = 42 ∨ z = 47 ∨ z = 58 ∨ z = 59 ∨ z = 63 ∨ z = 92 := by simp [special] at hsp; omega
        rcases hz with rfl | rfl | rfl | rfl | rfl | rfl <;> revert h1 <;> decide
      · exact jol_idem y
    have hex : ∀ r ∈ (if b = [] then [] else 46 :: (b.map (mapC v)).take (mostC v)), isChar r = true ∧ jolC r = r := fun r hr => by
      split at hr
      · cases hr
      · rcases List.mem_cons.1 hr with rfl | hr
        · exact ⟨by decide, by decide⟩
        · exact hfix b pc2 r (List.mem_of_mem_take hr)
    have hexl : (if b = [] then [] else 46 :: (b.map (mapC v)).take (mostC v)).length ≤ 17 ∧ (v = 0 → (if b = [] then [] else 46 :: (b.map (mapC v)).take (mostC v)).length ≤ 4) := by
      split
      · simp
      · refine ⟨?_, fun h0 => ?_⟩
        · rcases hv with h0 | h1
          · have : mostC v = 3 := by unfold mostC; rw [if_pos h0]
            simp; omega
          · have := hb16 h1
            simp; omega
        · have : mostC v = 3 := by unfold mostC; rw [if_pos h0]
          simp; omega
    generalize (if b = [] then [] else 46 :: (b.map (mapC v)).take (mostC v)) = ex at *
    have hst : stemN v (a.map (mapC v)) ex k + (sufI k).length + ex.length ≤ 64 := by
      unfold stemN roomI
      rw [List.length_map]
      rcases hv with rfl | rfl
      · have := hexl.2 rfl
        rw [show ((0 : Int) == 1) = false from rfl, cond_false]
        split <;> split <;> omega
      · rw [show ((1 : Int) == 1) = true from rfl, cond_true]
        split <;> split <;> omega
    refine ⟨fun r hr => ?_, by simp; omega⟩
    rcases List.mem_append.1 hr with hr | hr
    · rcases List.mem_append.1 hr with hr | hr
      · exact hfix a pc1 r (List.mem_of_mem_take hr)
      · have := digit_fix (hS r hr)
        exact ⟨this.1, this.2.2⟩
    · exact hex r hr
/-- A name that is made of itself, in this view, for a kid of this kind. -/
def Self (v : Int) (m : List UInt8) (dir : Bool) : Prop := numS v (wantS v m dir).1 (wantS v m dir).2 0 = m
theorem made_self {v : Int} (hv : v = 0 ∨ v = 1) {s : List UInt8} (hs : nameOk s = true) (dir : Bool) {k : Nat} (hk : k < 100) : Self v (numS v (wantS v s dir).1 (wantS v s dir).2 k) dir := by
  obtain ⟨l, e, h0, h1⟩ := made_shape hv hs dir hk
  unfold Self
  rw [e]
  rcases hv with rfl | rfl
  · obtain ⟨a, b, h⟩ := h0 rfl
    exact iso_again h
  · exact jol_again h1 dir
/-- Names of the ISO view are their own names in Joliet. -/
theorem made_jol {s : List UInt8} (hs : nameOk s = true) (dir dir' : Bool) {k : Nat} (hk : k < 100) : Self 1 (numS 0 (wantS 0 s dir).1 (wantS 0 s dir).2 k) dir' := by
  obtain ⟨l, e, _, h1⟩ := made_shape (.inl rfl) hs dir hk
  unfold Self
  rw [e]
  exact jol_again h1 dir'
theorem fresh_self {v : Int} {U : List (List UInt8)} {st ex : List Int} (hU : numS v st ex 0 ∉ U) : freshK v U st ex = 0 := by
  unfold freshK
  have : ((List.range 100).find? fun k => decide (numS v st ex k ∉ U)) = some 0 := by
    rw [show List.range 100 = 0 :: (List.range 99).map (· + 1) from by decide +kernel, List.find?_cons]
    have : decide (numS v st ex 0 ∉ U) = true := by simpa using hU
    rw [this]
  rw [this]; rfl
theorem pick_self {v : Int} (hv : v = 0 ∨ v = 1) {U : List (List UInt8)} {k : NV} (h : Self v k.name (k.kind == 0)) (hU : k.name ∉ U) : pickG v U k = k.name := by
  have e : pickG v U k = numS v (wantS v k.name (k.kind == 0)).1 (wantS v k.name (k.kind == 0)).2 (freshK v U (wantS v k.name (k.kind == 0)).1 (wantS v k.name (k.kind == 0)).2) := by
    rw [pickG, if_pos hv]; rfl
  rw [e, fresh_self (by rw [h]; exact hU)]
  exact h
/-- Kids with names of their own keep them. -/
theorem names_self {v : Int} (hv : v = 0 ∨ v = 1) (ks : List NV) : (ks.map NV.name).Nodup → (∀ k ∈ ks, Self v k.name (k.kind == 0)) → namesG v ks = ks.map NV.name := by
  rw [namesG]
  refine snoc_rec (p := fun ks => (ks.map NV.name).Nodup → (∀ k ∈ ks, Self v k.name (k.kind == 0)) → (usedG v ks).reverse = ks.map NV.name) (fun _ _ => rfl) (fun l x ih hn h => ?_) ks
  rw [List.map_append, List.nodup_append] at hn
  have hl := ih hn.1 fun k hk => h k (by simp [hk])
  rw [usedG_snoc, List.reverse_cons, hl, List.map_append, pick_self hv (h x (by simp))]
  · rfl
  · intro hx
    have : x.name ∈ (usedG v l).reverse := List.mem_reverse.2 hx
    rw [hl] at this
    exact hn.2.2 _ this x.name (by simp) rfl
end Go.Tame.V
/- A shown tree is valid, and shows itself. Plain. -/
namespace Go.Tame.V
open Go Go.Proofs
set_option maxRecDepth 10000
set_option linter.unusedVariables false
set_option linter.unusedSimpArgs false

theorem nz_none {f : Nat → Int} : ∀ {k i : Nat}, (∀ j, i ≤ j → j < i + k → f j = 0) → firstNZ f i k = 0
  | 0, i, _ => rfl
  | k + 1, i, h => by
    simp only [firstNZ]
    rw [if_pos (h i (Nat.le_refl _) (by omega))]
    exact nz_none fun j h1 h2 => h j (by omega) (by omega)
/-- The rules hold. -/
theorem one_of {n : NV} {l : Int} (h : Good n l) (hl : 1 ≤ l) : one n l = 0 := by
  refine nz_none fun i _ hi => ?_
  have hk := h.kind0
  match i, hi with
  | 0, _ =>
    have : cKind n l = false := by
      simp only [cKind, Bool.or_eq_false_iff, Bool.and_eq_false_iff, decide_eq_false_iff_not, beq_eq_false_iff_ne, Bool.not_eq_false', beq_iff_eq]
      refine ⟨⟨by omega, by omega⟩, ?_⟩
      by_cases h1 : l = 1
      · exact .inr (h.kind1 h1)
      · exact .inl h1
    simp [ruleI, rKind, this]
  | 1, _ =>
    have : cName n l = false := by
      simp only [cName, Bool.or_eq_false_iff, Bool.and_eq_false_iff, decide_eq_false_iff_not, beq_eq_false_iff_ne, Bool.not_eq_false', beq_iff_eq]
      by_cases h1 : l = 1
      · exact ⟨.inr (h.name1 h1), .inl (by omega)⟩
      · exact ⟨.inl h1, .inr (h.name2 (by omega))⟩
    simp [ruleI, rName, this]
  | 2, _ =>
    have : cParts n = false := by
      simp only [cParts, Bool.or_eq_false_iff, Bool.and_eq_false_iff, decide_eq_false_iff_not, beq_eq_false_iff_ne, Bool.not_eq_false', beq_iff_eq]
      refine ⟨⟨?_, ?_⟩, ?_⟩
      · by_cases h1 : n.kind = 1
        · exact .inl h1
        · have := h.file h1
          exact .inr ⟨this.1, by rw [this.2]; simp⟩
      · by_cases h1 : n.kind = 2
        · exact .inl h1
        · exact .inr (h.link h1)
      · by_cases h1 : n.kind = 0
        · exact .inl h1
        · exact .inr (by rw [h.dir h1]; simp)
    simp [ruleI, rParts, this]
  | 3, _ =>
    have : cTarget n = false := by
      simp only [cTarget, Bool.and_eq_false_iff, beq_eq_false_iff_ne, Bool.not_eq_false']
      by_cases h1 : n.kind = 2
      · exact .inr (h.target h1)
      · exact .inl h1
    simp [ruleI, rTarget, this]
  | 4, _ =>
    have h1 := h.n1; have h2 := h.n2; have h3 := h.n3; have h4 := h.n4; have h5 := h.n5; have h6 := h.n6
    have : cNumbers n = false := by
      simp only [cNumbers, within, Bool.or_eq_false_iff, Bool.not_eq_false', Bool.and_eq_true, decide_eq_true_eq]
      exact ⟨⟨⟨⟨⟨h1, h2⟩, h3⟩, h4⟩, h5⟩, h6⟩
    simp [ruleI, rNumbers, this]
  | 5, _ =>
    have h1 := h.level; have h2 := h.size; have h3 := h.kids64; have h4 := h.streams4
    have hc : cSizes n l = false := by
      simp only [cSizes, Bool.or_eq_false_iff, decide_eq_false_iff_not]
      exact ⟨⟨⟨by omega, by omega⟩, by omega⟩, by omega⟩
    simp only [ruleI, rSizes, hc]
    rw [if_neg (by simp)]
    refine nz_none fun j _ hj => ?_
    have := (h.streams j (by omega)).1
    simp [fZ]; omega
  | 6, _ =>
    simp only [ruleI, rStreams]
    exact nz_none fun j _ hj => (h.streams j (by omega)).2
  | 7, _ =>
    simp only [ruleI, rKids]
    refine nz_none fun j h1 hj => ?_
    have hlt := h.inc (j - 1) (by omega)
    have e : j - 1 + 1 = j := by omega
    rw [e] at hlt
    have hlt' : Op.bytesLess (kAt n (j - 1)).name (kAt n j).name = true := hlt
    simp only [fK, ordE]
    rw [if_neg (bl_ne hlt'), if_neg (by rw [bl_asymm hlt']; simp)]

mutual
theorem cnt_show (nm : List NV → List (List UInt8)) (v : Int) : ∀ (n : NV) (d : Int), cnt (showG nm v d n) ≤ cnt n
  | .mk a b c t e f g h i j ks ss, d => by
    have h1 := cntL_show nm v ks (nm ks) (d + 1)
    have h2 : cntL (sortN (showGL nm v (d + 1) ks (nm ks))) = cntL (showGL nm v (d + 1) ks (nm ks)) := cntL_perm (sortN_perm _)
    simp only [showG, cnt]; omega
theorem cntL_show (nm : List NV → List (List UInt8)) (v : Int) : ∀ (l : List NV) (ms : List (List UInt8)) (d : Int), cntL (showGL nm v d l ms) ≤ cntL l
  | [], ms, d => by simp [showGL]
  | k :: r, [], d => by simp [showGL, cntL]
  | k :: r, m :: ms, d => by
    have h1 := cnt_show nm v k d
    have h2 := cntL_show nm v r ms d
    have h3 : cnt ((showG nm v d k).named m) = cnt (showG nm v d k) := by rw [cnt_eq, cnt_eq]; rfl
    simp only [showGL]
    split
    · simp only [cntL]; omega
    · simp only [cntL]; omega
theorem cntL_perm {a b : List NV} (h : a.Perm b) : cntL a = cntL b := by
  induction h with
  | nil => rfl
  | cons x _ ih => simp only [cntL, ih]
  | swap x y l => simp only [cntL]; omega
  | trans _ _ h1 h2 => exact h1.trans h2
end
mutual
theorem good_show {v : Int} (hv : viewOk v = true) : ∀ (n : NV) (l : Int) (m : List UInt8), 1 ≤ l → goodB n l = true → (l = 1 → m = []) → (1 < l → nameOk m = true) → goodB ((showG (namesG v) v l n).named m) l = true
  | .mk a b c t e f g h i j ks ss, l, m, hl, hg, hm1, hm2 => by
    obtain ⟨G, hL⟩ := goodB_good hg
    have hok := good_okT _ l hl hg
    simp only [okT] at hok
    have hgl := good_showL hv ks (namesG v ks) (l + 1) (by omega) hL fun x hx => namesG_ok hv hok.1 (fun k hk => (okL_get hok.2.2.2 hk).1.1) x hx
    have hp := sortN_perm (showGL (namesG v) v (l + 1) ks (namesG v ks))
    have hlen := showGL_len (namesG v) v (l + 1) ks (namesG v ks)
    have hnd : ((showGL (namesG v) v (l + 1) ks (namesG v ks)).map NV.name).Nodup :=
      (showGL_names (namesG v) v (l + 1) ks (namesG v ks)).nodup (namesG_nd hv hok.1 hok.2.2.1)
    rw [goodB_eq, Bool.and_eq_true]
    refine ⟨?_, goodL_of fun k hk => ?_⟩
    · rw [beq_iff_eq]
      refine one_of ?_ hl
      rw [showG_eq]
      have h64 : ks.length ≤ 64 := G.kids64
      have hss : ∀ (P : List SV → Prop), P ss → P [] → P (if v = 3 then ss else []) := fun P h1 h2 => by split <;> assumption
      exact {
        kind0 := G.kind0
        kind1 := G.kind1
        name1 := hm1
        name2 := hm2
        file := fun h1 => ⟨(G.file h1).1, hss (fun x => x = []) (G.file h1).2 rfl⟩
        link := G.link
        dir := fun h1 => by
          have : ks = [] := G.dir h1
          subst this
          show sortN (showGL (namesG v) v (l + 1) [] (namesG v [])) = []
          simp [showGL, sortN]
        target := G.target
        n1 := by have := G.n1; show 0 ≤ (if keeps v = true then e else 0) ∧ (if keeps v = true then e else 0) ≤ 4095; split <;> omega
        n2 := by have := G.n2; show 0 ≤ (if keeps v = true then f else 0) ∧ (if keeps v = true then f else 0) ≤ 65535; split <;> omega
        n3 := by have := G.n3; show 0 ≤ (if keeps v = true then g else 0) ∧ (if keeps v = true then g else 0) ≤ 65535; split <;> omega
        n4 := G.n4
        n5 := by show (-1048576 : Int) ≤ 0 ∧ (0 : Int) ≤ 1048576; omega
        n6 := by show (0 : Int) ≤ 0 ∧ (0 : Int) ≤ 15; omega
        level := G.level
        size := G.size
        kids64 := by show (sortN (showGL (namesG v) v (l + 1) ks (namesG v ks))).length ≤ 64; rw [hp.length_eq]; omega
        streams4 := by have : ss.length ≤ 4 := G.streams4; show (if v = 3 then ss else []).length ≤ 4; split <;> first | omega | simp
        streams := fun i hi => by
          have hs := G.streams
          by_cases h3 : v = 3
          · subst h3; exact hs i hi
          · exfalso
            have : (if v = 3 then ss else ([] : List SV)) = [] := if_neg h3
            have hi' : i < (if v = 3 then ss else ([] : List SV)).length := hi
            rw [this] at hi'; simp at hi'
        inc := sortN_inc hnd }
    · have hk' : k ∈ sortN (showGL (namesG v) v (l + 1) ks (namesG v ks)) := by
        rw [showG_eq] at hk; exact hk
      exact hgl k (hp.subset hk')
theorem good_showL {v : Int} (hv : viewOk v = true) : ∀ (ks : List NV) (ms : List (List UInt8)) (l : Int), 2 ≤ l → goodL ks l = true → (∀ m ∈ ms, nameOk m = true) → ∀ k ∈ showGL (namesG v) v l ks ms, goodB k l = true
  | [], ms, l, _, _, _ => by simp [showGL]
  | k :: r, [], l, _, _, _ => by simp [showGL]
  | k :: r, m :: ms, l, hl, hg, hm => by
    simp only [goodL, Bool.and_eq_true] at hg
    intro x hx
    have ih := good_showL hv r ms l hl hg.2 fun y hy => hm y (List.mem_cons_of_mem _ hy)
    simp only [showGL] at hx
    split at hx
    · rcases List.mem_cons.1 hx with rfl | hx
      · exact good_show hv k l m (by omega) hg.1 (fun e => by omega) fun _ => hm m List.mem_cons_self
      · exact ih x hx
    · exact ih x hx
theorem namesG_nd {v : Int} (hv : viewOk v = true) {ks : List NV} (h64 : ks.length ≤ 64) (hi : inc ks) : (namesG v ks).Nodup := by
  rcases view4 hv with h | h | h | h
  · rw [namesG01 (.inl h), namesA, List.nodup_iff_pairwise_ne, List.pairwise_reverse]; exact (List.nodup_iff_pairwise_ne.1 (usedOf_nodup v ks h64)).imp Ne.symm
  · rw [namesG01 (.inr h), namesA, List.nodup_iff_pairwise_ne, List.pairwise_reverse]; exact (List.nodup_iff_pairwise_ne.1 (usedOf_nodup v ks h64)).imp Ne.symm
  · rw [namesG23 (.inl h)]; exact inc_nodup hi
  · rw [namesG23 (.inr h)]; exact inc_nodup hi
end
/-- The tree of a view is a valid tree. -/
theorem show_valid {v : Int} (hv : viewOk v = true) {n : NV} (h : valid n = true) : valid (showG (namesG v) v 1 n) = true := by
  have hn := valid_name' h
  rw [valid_good, Bool.and_eq_true, decide_eq_true_eq] at h ⊢
  have h1 := cnt_show (namesG v) v n 1
  have h2 := good_show hv n 1 [] (Int.le_refl _) h.2 (fun _ => rfl) (fun e => absurd e (by omega))
  have e : (showG (namesG v) v 1 n).named [] = showG (namesG v) v 1 n := by rw [showG_eq]; simp only [NV.named, hn]
  rw [e] at h2
  exact ⟨by omega, h2⟩
where
  valid_name' {n : NV} (h : valid n = true) : n.name = [] := by
    rw [valid_good, Bool.and_eq_true] at h
    exact (goodB_good h.2).1.name1 rfl

mutual
/-- A tree that the view w shows as it is. -/
def FixT (w : Int) : Int → NV → Prop
  | d, .mk _ _ _ _ e f g _ i j ks ss => i = 0 ∧ j = 0 ∧ (keeps w = false → e = 0 ∧ f = 0 ∧ g = 0) ∧ (w ≠ 3 → ss = []) ∧ inc ks ∧ FixL w (d + 1) ks
def FixL (w : Int) : Int → List NV → Prop
  | _, [] => True
  | d, k :: r => ((w = 0 ∨ w = 1 → Self w k.name (k.kind == 0)) ∧ shown w k d = true ∧ FixT w d k) ∧ FixL w d r
end
theorem FixL_mem {w d : Int} : ∀ {l : List NV}, FixL w d l ↔ ∀ k ∈ l, (w = 0 ∨ w = 1 → Self w k.name (k.kind == 0)) ∧ shown w k d = true ∧ FixT w d k
  | [] => by simp [FixL]
  | x :: r => by simp only [FixL, FixL_mem (l := r), List.forall_mem_cons]
theorem names_fix {w d : Int} (hw : viewOk w = true) {ks : List NV} (hi : inc ks) (h : FixL w d ks) : namesG w ks = ks.map NV.name := by
  have h := FixL_mem.1 h
  rcases view4 hw with e | e | e | e
  · exact names_self (.inl e) ks (inc_nodup hi) fun k hk => (h k hk).1 (.inl e)
  · exact names_self (.inr e) ks (inc_nodup hi) fun k hk => (h k hk).1 (.inr e)
  · rw [namesG23 (.inl e)]
  · rw [namesG23 (.inr e)]
mutual
theorem show_fix {w : Int} (hw : viewOk w = true) : ∀ (n : NV) (d : Int), FixT w d n → showG (namesG w) w d n = n
  | .mk a b c t e f g h i j ks ss, d, hf => by
    simp only [FixT] at hf
    obtain ⟨rfl, rfl, h3, h4, h5, h6⟩ := hf
    have hn := names_fix hw h5 h6
    have hl := showL_fix hw ks (d + 1) h6
    simp only [showG]
    rw [hn, hl, sortN_id h5]
    have e1 : (if keeps w = true then e else 0) = e := by
      split
      · rfl
      · rename_i hk; exact ((h3 (by simpa using hk)).1).symm
    have e2 : (if keeps w = true then f else 0) = f := by
      split
      · rfl
      · rename_i hk; exact ((h3 (by simpa using hk)).2.1).symm
    have e3 : (if keeps w = true then g else 0) = g := by
      split
      · rfl
      · rename_i hk; exact ((h3 (by simpa using hk)).2.2).symm
    have e4 : (if w = 3 then ss else []) = ss := by
      split
      · rfl
      · rename_i hk; exact (h4 hk).symm
    rw [e1, e2, e3, e4]
theorem showL_fix {w : Int} (hw : viewOk w = true) : ∀ (ks : List NV) (d : Int), FixL w d ks → showGL (namesG w) w d ks (ks.map NV.name) = ks
  | [], d, _ => by simp [showGL]
  | k :: r, d, h => by
    simp only [FixL] at h
    obtain ⟨⟨_, h2, h3⟩, h4⟩ := h
    simp only [List.map_cons, showGL]
    rw [if_pos h2, show_fix hw k d h3, showL_fix hw r d h4, named_self]
end
/-- What the names of kids are at a view. -/
def SelfL (w : Int) : List NV → List (List UInt8) → Prop
  | k :: r, m :: ms => (w = 0 ∨ w = 1 → Self w m (k.kind == 0)) ∧ SelfL w r ms
  | _, _ => True
theorem selfL_of {w : Int} : ∀ {ks : List NV} {ms : List (List UInt8)}, (∀ i, (hi : i < ks.length) → (hm : i < ms.length) → w = 0 ∨ w = 1 → Self w ms[i] (ks[i].kind == 0)) → SelfL w ks ms
  | [], ms, _ => by simp [SelfL]
  | k :: r, [], _ => by simp [SelfL]
  | k :: r, m :: ms, h => ⟨h 0 (by simp) (by simp), selfL_of fun i hi hm => h (i + 1) (by simpa using hi) (by simpa using hm)⟩
theorem namesG_at {v : Int} {ks : List NV} {t : Nat} (ht : t < ks.length) : (namesG v ks)[t]'(by rw [namesG_len]; exact ht) = pickG v (usedG v (ks.take t)) ks[t] := by
  have e : ∀ ks : List NV, ∀ m, m ≤ ks.length → (usedG v ks).reverse.take m = (usedG v (ks.take m)).reverse := by
    intro ks
    refine snoc_rec (p := fun ks => ∀ m, m ≤ ks.length → (usedG v ks).reverse.take m = (usedG v (ks.take m)).reverse) (fun m hm => by simp at hm; subst hm; rfl) (fun l x ih m hm => ?_) ks
    rw [usedG_snoc, List.reverse_cons]
    by_cases hml : m ≤ l.length
    · rw [List.take_append_of_le_length (by simp [usedG_len]; exact hml), ih m hml, List.take_append_of_le_length hml]
    · have hm' : m = l.length + 1 := by simp at hm; omega
      subst hm'
      rw [List.take_of_length_le (by simp [usedG_len]), List.take_of_length_le (by simp), usedG_snoc, List.reverse_cons]
  have h2 := e ks (t + 1) (by omega)
  have h3 : (namesG v ks)[t]? = ((namesG v ks).take (t + 1))[t]? := by rw [List.getElem?_take, if_pos (by omega)]
  have h4 : (namesG v ks).take (t + 1) = (usedG v (ks.take (t + 1))).reverse := h2
  rw [h4, usedG_take ht, List.reverse_cons, List.getElem?_append_right (by simp [usedG_len]; omega)] at h3
  have h5 : (usedG v (ks.take t)).reverse.length = t := by simp [usedG_len]; omega
  rw [h5, Nat.sub_self, List.getElem?_eq_getElem (by rw [namesG_len]; exact ht)] at h3
  simpa using h3
/-- Names of a view are names of their own in it; those of the ISO view in Joliet, too. -/
theorem selfL_names {v w : Int} (hvw : w = v ∨ v = 0 ∧ w = 1) {ks : List NV} (h64 : ks.length ≤ 64) (h : ∀ k ∈ ks, nameOk k.name = true) : SelfL w ks (namesG v ks) := by
  refine selfL_of fun i hi hm hw01 => ?_
  rw [namesG_at hi]
  have hU : (usedG v (ks.take i)).length ≤ 64 := by rw [usedG_len]; simp; omega
  have hv01 : v = 0 ∨ v = 1 := by omega
  rw [pickG, if_pos hv01]
  have hk := h _ (List.getElem_mem hi)
  have hfr := (fresh_ok v (usedG v (ks.take i)) (wantS v ks[i].name (ks[i].kind == 0)).1 (wantS v ks[i].name (ks[i].kind == 0)).2 hU).1
  rcases hvw with rfl | ⟨rfl, rfl⟩
  · exact made_self hv01 hk _ hfr
  · exact made_jol hk _ _ hfr
theorem shown_again {v w : Int} (hvw : w = v ∨ v = 0 ∧ w = 1) {k : NV} {d : Int} (hv : viewOk v = true) (hs : shown v k d = true) {k' : NV} (e1 : k'.kind = k.kind) (e2 : k'.n6 = 0) : shown w k' d = true := by
  have hw : viewOk w = true := by
    rcases hvw with rfl | ⟨_, rfl⟩
    · exact hv
    · rfl
  have hh : hiddenAt 0 w = false := by
    rcases view4 hw with rfl | rfl | rfl | rfl <;> decide
  rw [shown_alt] at hs ⊢
  rw [e1, e2, hh, hw]
  split at hs
  · cases hs
  · split at hs
    · cases hs
    · rename_i h1 h2
      rw [if_neg (by simp)]
      rcases hvw with rfl | ⟨rfl, rfl⟩
      · rw [if_neg h2]; exact hs
      · rw [if_neg (by simpa using h2)]; rfl
mutual
theorem fix_show {v w : Int} (hvw : w = v ∨ v = 0 ∧ w = 1) (hv : viewOk v = true) : ∀ (n : NV) (d : Int), okT n → FixT w d (showG (namesG v) v d n)
  | .mk a b c t e f g h i j ks ss, d, hok => by
    simp only [okT] at hok
    have hnames : ∀ k ∈ ks, nameOk k.name = true := fun k hk => (okL_get hok.2.2.2 hk).1.1
    have hself := selfL_names hvw hok.1 hnames
    have hl := fix_showL hvw hv ks (namesG v ks) (d + 1) hok.2.2.2 hself
    have hp := sortN_perm (showGL (namesG v) v (d + 1) ks (namesG v ks))
    have hnd := (showGL_names (namesG v) v (d + 1) ks (namesG v ks)).nodup (namesG_nd hv hok.1 hok.2.2.1)
    simp only [showG, FixT]
    refine ⟨trivial, trivial, fun hk => ?_, fun h3 => ?_, sortN_inc hnd, FixL_mem.2 fun k hk => hl k (hp.subset hk)⟩
    · have hkv : keeps v = false := by
        rcases hvw with rfl | ⟨rfl, _⟩
        · exact hk
        · rfl
      rw [hkv]
      exact ⟨rfl, rfl, rfl⟩
    · rw [if_neg (by omega)]
theorem fix_showL {v w : Int} (hvw : w = v ∨ v = 0 ∧ w = 1) (hv : viewOk v = true) : ∀ (l : List NV) (ms : List (List UInt8)) (d : Int), okL l → SelfL w l ms → ∀ k ∈ showGL (namesG v) v d l ms, (w = 0 ∨ w = 1 → Self w k.name (k.kind == 0)) ∧ shown w k d = true ∧ FixT w d k
  | [], ms, d, _, _ => by simp [showGL]
  | k :: r, [], d, _, _ => by simp [showGL]
  | k :: r, m :: ms, d, hok, hs => by
    simp only [okL] at hok
    simp only [SelfL] at hs
    intro x hx
    have ih := fix_showL hvw hv r ms d hok.2 hs.2
    simp only [showGL] at hx
    split at hx
    · rename_i hsh
      rcases List.mem_cons.1 hx with rfl | hx
      · have hf := fix_show hvw hv k d hok.1.2
        have hkind : (showG (namesG v) v d k).kind = k.kind := by rw [showG_eq]
        refine ⟨fun h01 => ?_, shown_again hvw hv hsh (by show (showG (namesG v) v d k).kind = _; exact hkind) (by show (showG (namesG v) v d k).n6 = 0; rw [showG_eq]), ?_⟩
        · show Self w m ((showG (namesG v) v d k).kind == 0)
          rw [hkind]; exact hs.1 h01
        · have e : ∀ (z : NV) (m : List UInt8), FixT w d z → FixT w d (z.named m) := fun z m hz => by
            cases z; simp only [NV.named, FixT] at hz ⊢; exact hz
          exact e _ m hf
      · exact ih x hx
    · exact ih x hx
end
/-- The tree of a view shows itself; that of the ISO view in Joliet, too. -/
theorem show_twice {v w : Int} (hvw : w = v ∨ v = 0 ∧ w = 1) (hv : viewOk v = true) {n : NV} (h : valid n = true) : showG (namesG w) w 1 (showG (namesG v) v 1 n) = showG (namesG v) v 1 n := by
  have hw : viewOk w = true := by
    rcases hvw with rfl | ⟨_, rfl⟩
    · exact hv
    · rfl
  exact show_fix hw _ 1 (fix_show hvw hv n 1 (valid_okT h))
end Go.Tame.V
/- The paths in a view of the nodes that it shows are the paths of the shown tree. Plain. -/
namespace Go.Tame.V
open Go Go.Proofs
set_option maxRecDepth 10000
set_option linter.unusedVariables false
set_option linter.unusedSimpArgs false

theorem pathsSL_flat : ∀ (ks : List NV) (p : List UInt8) (l : Int), pathsSL ks p l = ks.flatMap fun k => pathsS k (below p k.name (l + 1)) (l + 1)
  | [], p, l => by simp [pathsSL]
  | k :: r, p, l => by simp only [pathsSL, List.flatMap_cons, pathsSL_flat r p l]
theorem pathsSL_perm {a b : List NV} (h : a.Perm b) (p : List UInt8) (l : Int) : (pathsSL a p l).Perm (pathsSL b p l) := by
  rw [pathsSL_flat, pathsSL_flat]; exact h.flatMap_right _
theorem pathsS_named (n : NV) (m p : List UInt8) (l : Int) : pathsS (n.named m) p l = pathsS n p l := by cases n; simp only [NV.named, pathsS]
section
variable (nm : List NV → List (List UInt8)) (v : Int)
mutual
theorem prs_shown : ∀ (n : NV) (d : Int) (p q : List UInt8), 1 ≤ d → ((prs nm v d n p q).map Prod.fst).Perm (pathsS (showG nm v d n) p d)
  | .mk _ _ _ _ _ _ _ _ _ _ ks _, d, p, q, hd => by
    simp only [prs, showG, pathsS, List.map_cons]
    exact ((prsL_shown ks (nm ks) d p q hd).trans (pathsSL_perm (sortN_perm _).symm p d)).cons _
theorem prsL_shown : ∀ (l : List NV) (ms : List (List UInt8)) (d : Int) (p q : List UInt8), 1 ≤ d → ((prsL nm v d l ms p q).map Prod.fst).Perm (pathsSL (showGL nm v (d + 1) l ms) p d)
  | [], ms, d, p, q, hd => by simp [prsL, showGL, pathsSL]
  | k :: r, [], d, p, q, hd => by simp [prsL, showGL, pathsSL]
  | k :: r, m :: ms, d, p, q, hd => by
    have ih := prsL_shown r ms d p q hd
    simp only [prsL, showGL]
    split
    · rw [List.map_append, joinQ_below p m hd]
      simp only [pathsSL]
      refine List.Perm.append ?_ ih
      rw [pathsS_named, show (NV.named (showG nm v (d + 1) k) m).name = m from rfl]
      exact prs_shown k (d + 1) _ _ (by omega)
    · exact ih
end
end
/-- No two shown nodes have the same path in the view. -/
theorem prs_nodup1 {v : Int} (hv : viewOk v = true) {n : NV} (h : valid n = true) : ((prs (namesG v) v 1 n [] []).map Prod.fst).Nodup :=
  (prs_shown (namesG v) v n 1 [] [] (Int.le_refl _)).nodup_iff.2 (paths_nodup (valid_okT (show_valid hv h)))

/-- Path's walk over the pairs finds the first that fits. -/
theorem visR_path {v : Int} (hv : viewOk v = true) {n : NV} (h : valid n = true) (x : List UInt8) (s : List UInt8 × Int) :
    visR (fun p q s => if q == x then (p, 0) else s) (namesG v) v n s = match (prs (namesG v) v 1 n [] []).find? (fun y => y.2 == x) with | some y => (y.1, 0) | none => s := by
  rw [visR, if_pos ⟨hv, h⟩, vis_fold]
  refine Eq.trans (last_first Prod.snd Prod.fst x _ s (prs_nodup (namesG v) v (valid_okT h))) ?_
  generalize List.find? _ _ = o
  cases o <;> rfl
theorem visR_source {v : Int} (hv : viewOk v = true) {n : NV} (h : valid n = true) (x : List UInt8) (s : List UInt8 × Int) :
    visR (fun p q s => if p == x then (q, 0) else s) (namesG v) v n s = match (prs (namesG v) v 1 n [] []).find? (fun y => y.1 == x) with | some y => (y.2, 0) | none => s := by
  rw [visR, if_pos ⟨hv, h⟩, vis_fold]
  refine Eq.trans (last_first Prod.fst Prod.snd x _ s (prs_nodup1 hv h)) ?_
  generalize List.find? _ _ = o
  cases o <;> rfl
end Go.Tame.V
/- Contracts: the other way of Path and Source. By program (mk.py). -/
namespace Go.Tame.V
open Go Go.Proofs
variable {W0 : World}
set_option maxRecDepth 10000
set_option linter.unusedVariables false
set_option linter.unusedSimpArgs false

theorem find_first {α : Type} {p : α → Bool} {l : List α} {i : Nat} (hi : i < l.length) (hp : ∀ j (h : j < l.length), j < i → p l[j] = false) (h : p l[i] = true) : l.find? p = some l[i] :=
  List.find?_eq_some_iff_getElem.2 ⟨h, i, hi, rfl, fun j hj => by simpa using hp j (by omega) hj⟩
theorem pathV_find {v : Int} {n : NV} (h0 : (viewR (namesG v) v n).2 = 0) (x : List UInt8) (h1 : (getR n x).2 = 0) : pathV (namesG v) v n x = match (prs (namesG v) v 1 n [] []).find? (fun y => y.2 == x) with | some y => (y.1, 0) | none => ([], 8) := by
  rw [pathV, if_pos h0, if_pos h1]
  exact visR_path (viewR_valid h0).1 (viewR_valid h0).2 x ([], 8)
theorem sourceV_find {v : Int} {n : NV} (h0 : (viewR (namesG v) v n).2 = 0) (x : List UInt8) : sourceV (namesG v) v n x = match (prs (namesG v) v 1 n [] []).find? (fun y => y.1 == x) with | some y => (y.2, 0) | none => ([], 6) := by
  rw [sourceV, if_pos h0]
  exact visR_source (viewR_valid h0).1 (viewR_valid h0).2 x ([], 6)

theorem G21 (hL : LibOk W0) (v : Int) (n : NV) (hn : Fits n) (hv : valid n = true → sz n < 800000) (x : List UInt8) (hx : x.length < 1000000000) : DFun Tryz.prog W0 21 [.int .i64 v, encTop n, .str x] (.tup [.str (pathV (namesG v) v n x).1, .int .i64 (pathV (namesG v) v n x).2]) := by
  refine DFun.intro ti_ok Tryz.func21 rfl (by decide +kernel) Tryz.ntmps21 rfl fun Γ => ?_
  have hz := hn
  unfold Fits at hz
  refine Tri.seq ?_
  refine Tri.region ti_ok ?_
  conv => whnf
  intro b4
  conv => whnf
  refine Tri.seq ?_
  refine Tri.seq ?_
  refine Tri.region ti_ok ?_
  conv => whnf
  refine ⟨rfl, ?_⟩
  conv => whnf
  refine ⟨[.int .i64 v, encTop n], _, fun _ => F31 v (fun h => namesNd hL h) n hn, ⟨.refl _, .refl _, trivial⟩, ?_⟩
  conv => whnf
  intro b8
  conv => whnf
  refine ⟨rfl, ?_⟩
  conv => whnf
  refine Tri.seq ?_
  refine Tri.region ti_ok ?_
  conv => whnf
  refine Tri.cond _ rfl (fun hc => ?_) (fun hc => ?_)
  · refine Tri.seq ?_
    refine Tri.region ti_ok ?_
    conv => whnf
    refine Tri.ret ?_
    conv => whnf
    have h0 : ¬ (viewR (namesG v) v n).2 = 0 := by simpa using hc
    rw [show pathV (namesG v) v n x = ([], (viewR (namesG v) v n).2) from by rw [pathV, if_neg h0]]
    exact ⟨.refl _, .refl _, trivial⟩
  · refine Tri.skip ?_
    conv => whnf
    refine Tri.seq ?_
    refine Tri.seq ?_
    refine Tri.region ti_ok ?_
    have h0 : (viewR (namesG v) v n).2 = 0 := by simpa using hc
    conv => whnf
    refine ⟨rfl, ?_⟩
    conv => whnf
    refine ⟨[encTop n, .str x], _, fun _ => F21 n x hn (viewR_valid h0).2 hx, ⟨.refl _, .refl _, trivial⟩, ?_⟩
    conv => whnf
    intro b10
    conv => whnf
    refine ⟨rfl, ?_⟩
    conv => whnf
    refine Tri.seq ?_
    refine Tri.region ti_ok ?_
    conv => whnf
    refine Tri.cond _ rfl (fun hc => ?_) (fun hc => ?_)
    · refine Tri.seq ?_
      refine Tri.region ti_ok ?_
      conv => whnf
      refine Tri.ret ?_
      conv => whnf
      have h1 : ¬ (getR n x).2 = 0 := by simpa using hc
      have h6 : (getR n x).2 = 6 := by
        by_cases hx0 : x = []
        · rw [getR, if_pos hx0] at h1; exact absurd rfl h1
        · rw [getR, if_neg hx0] at h1 ⊢
          cases hg : getN n (splitG 47 [] x) with
          | some y => rw [hg] at h1; exact absurd rfl h1
          | none => rfl
      rw [show pathV (namesG v) v n x = ([], 6) from by rw [pathV, if_pos h0, if_neg h1], h6]
      exact ⟨.refl _, .refl _, trivial⟩
    · refine Tri.skip ?_
      conv => whnf
      refine Tri.seq ?_
      refine Tri.region ti_ok ?_
      have h1 : (getR n x).2 = 0 := by simpa using hc
      have hvo := (viewR_valid h0).1
      have hok := valid_okT (viewR_valid h0).2
      have hsz := hv (viewR_valid h0).2
      have hpl := prs_len (namesG v) v n 1 [] [] (Int.le_refl _)
      have hcs := cnt_sz n
      conv => whnf
      refine ⟨rfl, ?_⟩
      conv => whnf
      refine ⟨[.int .i64 v, encTop n, .str [], .str [], .int .i64 1], _, fun _ => G67 hL v hvo _ n (Nat.lt_succ_self _) hok [] [] 1 (Int.le_refl _) (by omega) (by simp only [List.length_nil]; omega) (by simp only [List.length_nil]; omega), ⟨.refl _, .refl _, .refl _, .refl _, .refl _, trivial⟩, ?_⟩
      conv => whnf
      refine Tri.seq ?_
      refine Tri.seq ?_
      refine Tri.region ti_ok ?_
      conv => whnf
      refine Tri.block ?_
      generalize hP : prs (namesG v) v 1 n [] [] = P at *
      refine Tri.loop (α := { i : Nat // i ≤ P.length ∧ ∀ j (h : j < P.length), j < i → ((P[j]).2 == x) = false }) (fun i => [(2, .str x), (12, .sl .none 2 (P.map encPr)), (13, .int .i64 i.1)]) (fun _ => []) (fun i => P.length - i.1) ⟨0, by simp⟩ ⟨.refl _, .refl _, .refl _, trivial⟩ trivial ?_
      rintro ⟨i, hi, hp⟩
      dsimp only
      refine Tri.seq ?_
      refine Tri.seq ?_
      refine Tri.region ti_ok ?_
      conv => whnf
      refine Tri.cond _ rfl (fun hc => ?_) (fun hc => ?_)
      · refine Tri.skip ?_
        conv => whnf
        refine Tri.seq ?_
        refine Tri.block ?_
        refine Tri.seq ?_
        refine Tri.region ti_ok ?_
        have hia : i < P.length := by simpa using hc
        conv => whnf
        refine ⟨fun _ => by simp; omega, ?_⟩
        conv => whnf
        refine ⟨encPr P[i], fun _ => by simp [hia], ?_⟩
        conv => whnf
        refine Tri.cond _ rfl (fun hc => ?_) (fun hc => ?_)
        · refine Tri.seq ?_
          refine Tri.region ti_ok ?_
          conv => whnf
          refine ⟨fun _ => by simp; omega, ?_⟩
          conv => whnf
          refine ⟨encPr P[i], fun _ => by simp [hia], ?_⟩
          conv => whnf
          refine Tri.ret ?_
          conv => whnf
          rw [pathV_find h0 x h1, hP, find_first (p := fun y => y.2 == x) hia hp hc]
          exact ⟨.refl _, .refl _, trivial⟩
        · refine Tri.skip ?_
          conv => whnf
          refine Tri.region ti_ok ?_
          conv => whnf
          refine .inl ⟨fun _ => by simp [InR]; omega, ?_⟩
          conv => whnf
          exact ⟨⟨i + 1, by omega, fun j hj hlt => (Nat.lt_succ_iff_lt_or_eq.1 hlt).elim (hp j hj) fun e => by subst e; exact hc⟩, by show _ - (i + 1) < _ - i; omega, ⟨.refl _, .refl _, .refl _, trivial⟩, trivial⟩
      · refine Tri.exit ?_
        conv => whnf
        refine Tri.seq ?_
        refine Tri.region ti_ok ?_
        conv => whnf
        refine Tri.ret ?_
        conv => whnf
        rw [pathV_find h0 x h1, hP, show P.find? (fun y => y.2 == x) = none from List.find?_eq_none.2 fun y hy => by obtain ⟨j, hj, rfl⟩ := List.mem_iff_getElem.1 hy; simpa using hp j hj (by simp at hc; omega)]
        exact ⟨.refl _, .refl _, trivial⟩
theorem G23 (hL : LibOk W0) (v : Int) (n : NV) (hn : Fits n) (hv : valid n = true → sz n < 800000) (x : List UInt8) : DFun Tryz.prog W0 23 [.int .i64 v, encTop n, .str x] (.tup [.str (sourceV (namesG v) v n x).1, .int .i64 (sourceV (namesG v) v n x).2]) := by
  refine DFun.intro ti_ok Tryz.func23 rfl (by decide +kernel) Tryz.ntmps23 rfl fun Γ => ?_
  have hz := hn
  unfold Fits at hz
  refine Tri.seq ?_
  refine Tri.region ti_ok ?_
  conv => whnf
  intro b4
  conv => whnf
  refine Tri.seq ?_
  refine Tri.seq ?_
  refine Tri.region ti_ok ?_
  conv => whnf
  refine ⟨rfl, ?_⟩
  conv => whnf
  refine ⟨[.int .i64 v, encTop n], _, fun _ => F31 v (fun h => namesNd hL h) n hn, ⟨.refl _, .refl _, trivial⟩, ?_⟩
  conv => whnf
  intro b8
  conv => whnf
  refine ⟨rfl, ?_⟩
  conv => whnf
  refine Tri.seq ?_
  refine Tri.region ti_ok ?_
  conv => whnf
  refine Tri.cond _ rfl (fun hc => ?_) (fun hc => ?_)
  · refine Tri.seq ?_
    refine Tri.region ti_ok ?_
    conv => whnf
    refine Tri.ret ?_
    conv => whnf
    have h0 : ¬ (viewR (namesG v) v n).2 = 0 := by simpa using hc
    rw [show sourceV (namesG v) v n x = ([], (viewR (namesG v) v n).2) from by rw [sourceV, if_neg h0]]
    exact ⟨.refl _, .refl _, trivial⟩
  · refine Tri.skip ?_
    conv => whnf
    refine Tri.seq ?_
    refine Tri.region ti_ok ?_
    have h0 : (viewR (namesG v) v n).2 = 0 := by simpa using hc
    have hvo := (viewR_valid h0).1
    have hok := valid_okT (viewR_valid h0).2
    have hsz := hv (viewR_valid h0).2
    have hpl := prs_len (namesG v) v n 1 [] [] (Int.le_refl _)
    have hcs := cnt_sz n
    conv => whnf
    refine ⟨rfl, ?_⟩
    conv => whnf
    refine ⟨[.int .i64 v, encTop n, .str [], .str [], .int .i64 1], _, fun _ => G67 hL v hvo _ n (Nat.lt_succ_self _) hok [] [] 1 (Int.le_refl _) (by omega) (by simp only [List.length_nil]; omega) (by simp only [List.length_nil]; omega), ⟨.refl _, .refl _, .refl _, .refl _, .refl _, trivial⟩, ?_⟩
    conv => whnf
    refine Tri.seq ?_
    refine Tri.seq ?_
    refine Tri.region ti_ok ?_
    conv => whnf
    refine Tri.block ?_
    generalize hP : prs (namesG v) v 1 n [] [] = P at *
    refine Tri.loop (α := { i : Nat // i ≤ P.length ∧ ∀ j (h : j < P.length), j < i → ((P[j]).1 == x) = false }) (fun i => [(2, .str x), (10, .sl .none 2 (P.map encPr)), (11, .int .i64 i.1)]) (fun _ => []) (fun i => P.length - i.1) ⟨0, by simp⟩ ⟨.refl _, .refl _, .refl _, trivial⟩ trivial ?_
    rintro ⟨i, hi, hp⟩
    dsimp only
    refine Tri.seq ?_
    refine Tri.seq ?_
    refine Tri.region ti_ok ?_
    conv => whnf
    refine Tri.cond _ rfl (fun hc => ?_) (fun hc => ?_)
    · refine Tri.skip ?_
      conv => whnf
      refine Tri.seq ?_
      refine Tri.block ?_
      refine Tri.seq ?_
      refine Tri.region ti_ok ?_
      have hia : i < P.length := by simpa using hc
      conv => whnf
      refine ⟨fun _ => by simp; omega, ?_⟩
      conv => whnf
      refine ⟨encPr P[i], fun _ => by simp [hia], ?_⟩
      conv => whnf
      refine Tri.cond _ rfl (fun hc => ?_) (fun hc => ?_)
      · refine Tri.seq ?_
        refine Tri.region ti_ok ?_
        conv => whnf
        refine ⟨fun _ => by simp; omega, ?_⟩
        conv => whnf
        refine ⟨encPr P[i], fun _ => by simp [hia], ?_⟩
        conv => whnf
        refine Tri.ret ?_
        conv => whnf
        rw [sourceV_find h0 x, hP, find_first (p := fun y => y.1 == x) hia hp hc]
        exact ⟨.refl _, .refl _, trivial⟩
      · refine Tri.skip ?_
        conv => whnf
        refine Tri.region ti_ok ?_
        conv => whnf
        refine .inl ⟨fun _ => by simp [InR]; omega, ?_⟩
        conv => whnf
        exact ⟨⟨i + 1, by omega, fun j hj hlt => (Nat.lt_succ_iff_lt_or_eq.1 hlt).elim (hp j hj) fun e => by subst e; exact hc⟩, by show _ - (i + 1) < _ - i; omega, ⟨.refl _, .refl _, .refl _, trivial⟩, trivial⟩
    · refine Tri.exit ?_
      conv => whnf
      refine Tri.seq ?_
      refine Tri.region ti_ok ?_
      conv => whnf
      refine Tri.ret ?_
      conv => whnf
      rw [sourceV_find h0 x, hP, show P.find? (fun y => y.1 == x) = none from List.find?_eq_none.2 fun y hy => by obtain ⟨j, hj, rfl⟩ := List.mem_iff_getElem.1 hy; simpa using hp j hj (by simp at hc; omega)]
      exact ⟨.refl _, .refl _, trivial⟩
end Go.Tame.V
/- Contracts: the chapter's example. By program (mk.py). -/
namespace Go.Tame.V
open Go Go.Proofs
variable {W0 : World}
set_option maxRecDepth 10000
set_option linter.unusedVariables false
set_option linter.unusedSimpArgs false

def exN : List (List UInt8 × Int) := [([82, 69, 65, 68, 77, 69], 1), ([82, 101, 97, 100, 77, 101, 46, 116, 120, 116], 1), ([114, 101, 97, 100, 109, 101], 0), ([114, 101, 97, 100, 109, 101, 46, 116, 101, 120, 116], 1)]
def exV (t : Int) (x : List UInt8 × Int) : NV := ⟨x.1, x.2, [], [], 0, 0, 0, t, 0, 0, [], []⟩
def exCl (t : Int) (x : List UInt8 × Int) : List D := [.str x.1, .int .i64 x.2, .str [], .str [], .int .i64 0, .int .i64 0, .int .i64 0, .int .i64 t, .int .i64 0, .int .i64 0, .nils, .nils]
/-- The nodes of the chapter's example. -/
def exL : List NV := exN.map (exV 315532800)
def exRow (i : Nat) : List D := (exN.take i).map (fun x => .agg (exCl 315532800 x)) ++ (exN.drop i).map (fun x => .agg (exCl 0 x))
theorem exRow_len (i : Nat) : (exRow i).length = 4 := by rw [exRow, List.length_append, List.length_map, List.length_map, ← List.length_append, List.take_append_drop]; rfl
theorem exRow_get {i : Nat} (h : i < 4) : (exRow i)[i]? = some (.agg (exCl 0 exN[i])) := by
  match i, h with
  | 0, _ => rfl
  | 1, _ => rfl
  | 2, _ => rfl
  | 3, _ => rfl
theorem exRow_next {i : Nat} (h : i < 4) : (exRow i).set i (.agg (setAt (exCl 0 exN[i]) 7 (.int .i64 315532800))) = exRow (i + 1) := by
  match i, h with
  | 0, _ => rfl
  | 1, _ => rfl
  | 2, _ => rfl
  | 3, _ => rfl
theorem exD_le : ∀ (l : List (List UInt8 × Int)) (t : Int), LeL (flat (l.map fun x => .agg (exCl t x))) (flat ((l.map (exV t)).map enc))
  | [], t => trivial
  | x :: r, t => ⟨.refl _, .refl _, .refl _, .refl _, .refl _, .refl _, .refl _, .refl _, .refl _, .refl _, DLe.nil, DLe.nil, exD_le r t⟩
theorem exSl_le (tg : Tag) (l : List (List UInt8 × Int)) (t : Int) : DLe (.sl tg 12 (l.map fun x => .agg (exCl t x))) (.sl .none 12 ((l.map (exV t)).map enc)) :=
  DLe.trans DLe.full (DLe.slMap (exD_le l t) (by simp) fun y hy => by obtain ⟨z, _, rfl⟩ := List.mem_map.1 hy; cases z; rfl)

theorem G57 : DFun Tryz.prog W0 57 [] (.sl .none 12 (exL.map enc)) := by
  refine DFun.intro ti_ok Tryz.func57 rfl (by decide +kernel) Tryz.ntmps57 rfl fun Γ => ?_
  refine Tri.seq ?_
  refine Tri.region ti_ok ?_
  conv => whnf
  refine Tri.seq ?_
  refine Tri.regionG ti_ok ?_
  conv => whnf
  refine ⟨rfl, trivial, .inl ?_⟩
  conv => whnf
  refine ⟨rfl, trivial, .inl ?_⟩
  conv => whnf
  refine ⟨rfl, trivial, .inl ?_⟩
  conv => whnf
  refine ⟨rfl, trivial, .inl ?_⟩
  conv => whnf
  refine ⟨rfl, trivial, .inr (XOp.buildRow (q := 100) ti_ok rfl rfl rfl rfl rfl rfl ?_)⟩
  conv => whnf
  refine ⟨rfl, trivial, fun v => ?_⟩
  conv => whnf
  refine ⟨rfl, trivial, .inl ?_⟩
  conv => whnf
  refine Tri.seq ?_
  refine Tri.seq ?_
  refine Tri.regionG ti_ok ?_
  conv => whnf
  refine ⟨rfl, trivial, .inl ?_⟩
  conv => whnf
  refine ⟨rfl, trivial, .inr (XOp.rowLen ti_ok 100 rfl rfl rfl rfl ?_)⟩
  conv => whnf
  refine ⟨rfl, trivial, .inl ?_⟩
  conv => whnf
  refine Tri.block ?_
  refine Tri.loopK (α := { i : Nat // i ≤ 4 }) (fun x => [(1, .raw v), (9, .int .i64 4), (10, .int .i64 x.1)]) (fun x => [(100, .row v (exRow x.1) 12 25)]) (fun x => 4 - x.1) ⟨0, Nat.zero_le _⟩ [(100, 100)] ⟨⟨.refl _, .refl _, .refl _, trivial⟩, rfl, rfl, rfl, trivial⟩ ?_
  rintro ⟨i, hi⟩
  dsimp only at hi ⊢
  refine Tri.seq ?_
  refine Tri.region ti_ok ?_
  conv => whnf
  refine Tri.seq ?_
  refine Tri.cond (decide ((i : Int) < 4)) rfl (fun hc => ?_) (fun hc => ?_)
  · refine Tri.skip ?_
    conv => whnf
    refine Tri.seq ?_
    refine Tri.block ?_
    refine Tri.seq ?_
    refine Tri.region ti_ok ?_
    have hia : i < 4 := by simp at hc; omega
    conv => whnf
    refine Tri.regionG ti_ok ?_
    conv => whnf
    refine ⟨rfl, trivial, .inl ?_⟩
    conv => whnf
    refine ⟨rfl, trivial, .inl ?_⟩
    conv => whnf
    refine ⟨rfl, trivial, .inr (XOp.rowIndex ti_ok 100 rfl rfl rfl rfl rfl rfl rfl (by omega) (by rw [exRow_len]; omega) ?_)⟩
    conv => whnf
    refine ⟨rfl, trivial, .inr (XOp.rowField ti_ok 100 (i := i) rfl rfl (by rw [exRow_len]; omega) rfl rfl rfl (by decide) ?_)⟩
    conv => whnf
    refine ⟨rfl, trivial, .inr (XOp.rowStoreF ti_ok 100 (i := i) (j := 7) rfl rfl rfl rfl (exRow_get hia) (by decide) rfl ?_)⟩
    conv => whnf
    refine Tri.region ti_ok ?_
    conv => whnf
    refine .inl ⟨fun _ => by simp [InR]; omega, ?_⟩
    conv => whnf
    exact ⟨⟨i + 1, hia⟩, [(100, 100)], by show 4 - (i + 1) < 4 - i; omega, ⟨.refl _, .refl _, .refl _, trivial⟩, rfl, rfl, congrArg (fun z => some (HObj.row v z 12 25)) (by exact exRow_next hia), trivial⟩
  · refine Tri.exit ?_
    have hin : i = 4 := by simp at hc; omega
    subst hin
    conv => whnf
    refine Tri.seq ?_
    refine Tri.forgetK [(1, .raw v)] [(100, .row v (exRow 4) 12 25)] [(100, 100)] ⟨⟨.refl _, trivial⟩, rfl, rfl, rfl, trivial⟩ ?_
    refine Tri.commitSt 100 1 rfl ?_
    refine Tri.region ti_ok ?_
    conv => whnf
    refine Tri.ret ?_
    conv => whnf
    exact exSl_le .none exN 315532800
end Go.Tame.V
/- Contracts: identifiers. By program (mk.py). -/
namespace Go.Tame.V
open Go Go.Proofs
variable {W0 : World}
set_option maxRecDepth 10000
set_option linter.unusedVariables false
set_option linter.unusedSimpArgs false

theorem G81 (hL : LibOk W0) (s p : List UInt8) (hs : s.length < 4294967281) : DFun Tryz.prog W0 81 [.str s, .str p] (.tup [.str (Lib.cut s p).1, .str (Lib.cut s p).2.1, .bool (Lib.cut s p).2.2]) := by
  obtain ⟨m, hm⟩ := hL.maxlen
  exact .lift (callable Tryz.func81 rfl (by decide +kernel)) rfl fun w hb => (Tryz.strings_Cut ⟨⟨s⟩⟩ ⟨⟨p⟩⟩ m w hs (cell_base hb hm)).mono fun e w' ⟨he, n, hw⟩ => by
    subst hw
    exact ⟨_, he, fun C => .tup _ _ rfl fun i d v hd hv => by
      match i with
      | 0 => cases hd; cases hv; exact .str _
      | 1 => cases hd; cases hv; exact .str _
      | 2 => cases hd; cases hv; exact .bool _
      | i + 3 => simp at hd, ⟨rfl, rfl, rfl, Nat.le_refl _, fun _ _ => rfl⟩⟩
theorem G105 (s p : List UInt8) (hs : s.length ≤ 9223372036854775807) : DFun Tryz.prog W0 105 [.str s, .str p] (.bool (Lib.hasSuffix s p)) :=
  .pure (callable Tryz.func105 rfl (by decide +kernel)) rfl rfl fun w _ => Tryz.stringslite_HasSuffix ⟨⟨s⟩⟩ ⟨⟨p⟩⟩ w hs
def cutSuf (s p : List UInt8) : List UInt8 × Bool := if Lib.hasSuffix s p then (s.take (s.length - p.length), true) else (s, false)
theorem hasSuffix_len {s p : List UInt8} (h : Lib.hasSuffix s p = true) : p.length ≤ s.length := by
  unfold Lib.hasSuffix at h
  exact (List.isSuffixOf_iff_suffix.1 h).length_le

theorem G130 (s p : List UInt8) (hs : s.length < 1000000000) (hp : p.length < 1000000000) : DFun Tryz.prog W0 130 [.str s, .str p] (.tup [.str (cutSuf s p).1, .bool (cutSuf s p).2]) := by
  refine DFun.intro ti_ok Tryz.func130 rfl (by decide +kernel) Tryz.ntmps130 rfl fun Γ => ?_
  refine Tri.seq ?_
  refine Tri.region ti_ok ?_
  conv => whnf
  refine Tri.seq ?_
  refine Tri.seq ?_
  refine Tri.region ti_ok ?_
  conv => whnf
  refine ⟨[.str s, .str p], _, fun _ => G105 s p (by omega), ⟨.refl _, .refl _, trivial⟩, ?_⟩
  conv => whnf
  refine Tri.cond _ rfl (fun hc => ?_) (fun hc => ?_)
  · refine Tri.seq ?_
    refine Tri.region ti_ok ?_
    conv => whnf
    refine Tri.ret ?_
    conv => whnf
    have h : Lib.hasSuffix s p = false := by simpa using hc
    rw [cutSuf, h]
    exact ⟨.refl _, .refl _, trivial⟩
  · refine Tri.skip ?_
    conv => whnf
    refine Tri.seq ?_
    have h : Lib.hasSuffix s p = true := by simpa using hc
    have hl := hasSuffix_len h
    refine Tri.region ti_ok ?_
    conv => whnf
    refine .inl ⟨fun _ => by simp only [InR]; omega, ?_⟩
    conv => whnf
    refine ⟨fun _ => by simp; omega, ?_⟩
    conv => whnf
    refine Tri.ret ?_
    conv => whnf
    rw [cutSuf, if_pos h]
    exact ⟨DLe.of_eq (congrArg D.str (congrArg (fun z => s.take z) (by omega))), .refl _, trivial⟩
theorem G85 (s p : List UInt8) (hs : s.length < 1000000000) (hp : p.length < 1000000000) : DFun Tryz.prog W0 85 [.str s, .str p] (.tup [.str (cutSuf s p).1, .bool (cutSuf s p).2]) := by
  refine DFun.intro ti_ok Tryz.func85 rfl (by decide +kernel) Tryz.ntmps85 rfl fun Γ => ?_
  refine Tri.seq ?_
  refine Tri.region ti_ok ?_
  conv => whnf
  refine Tri.seq ?_
  refine Tri.region ti_ok ?_
  conv => whnf
  refine ⟨[.str s, .str p], _, fun _ => G130 s p hs hp, ⟨.refl _, .refl _, trivial⟩, ?_⟩
  conv => whnf
  refine Tri.ret ?_
  conv => whnf
  exact ⟨.refl _, .refl _, trivial⟩
def isDB (s : List UInt8) (m : Int) : Bool := decide ((1 : Int) ≤ s.length) && (decide ((s.length : Int) ≤ m) && dStr s)
theorem G82 (s : List UInt8) (m : Int) : DFun Tryz.prog W0 82 [.str s, .int .i64 m] (.bool (isDB s m)) := by
  refine DFun.intro ti_ok Tryz.func82 rfl (by decide +kernel) Tryz.ntmps82 rfl fun Γ => ?_
  refine Tri.seq ?_
  refine Tri.region ti_ok ?_
  conv => whnf
  refine Tri.seq ?_
  refine Tri.region ti_ok ?_
  conv => whnf
  refine ⟨fun h => h, ?_⟩
  conv => whnf
  refine ⟨fun h => h, ?_⟩
  conv => whnf
  refine ⟨fun h => h, ?_⟩
  conv => whnf
  refine ⟨fun h0 h => by first | exact h | (rw [h]; rfl) | (rw [h0, h]; rfl), ?_⟩
  conv => whnf
  refine ⟨fun h => h, ?_⟩
  conv => whnf
  refine ⟨[.str s], _, fun h => F171 s, ⟨.refl _, trivial⟩, ?_⟩
  conv => whnf
  refine ⟨fun h0 h => by first | exact h | (rw [h]; rfl) | (rw [h0, h]; rfl), ?_⟩
  conv => whnf
  refine Tri.ret ?_
  conv => whnf
  refine DLe.of_eq (congrArg D.bool ?_)
  unfold isDB
  by_cases h1 : (1 : Int) ≤ s.length <;> by_cases h2 : (s.length : Int) ≤ m <;> simp [h1, h2]
/-- Whether a text can be a name in the ISO view. -/
def validI (s : List UInt8) (dir : Bool) : Bool := !((Lib.cut s [46]).2.2 && (dir || !isDB (Lib.cut s [46]).2.1 3)) && isDB (Lib.cut s [46]).1 8
theorem G31 (hL : LibOk W0) (s : List UInt8) (dir : Bool) (hs : s.length < 1000000000) : DFun Tryz.prog W0 31 [.int .i64 0, .str s, .bool dir] (.bool (validI s dir)) := by
  refine DFun.intro ti_ok Tryz.func31 rfl (by decide +kernel) Tryz.ntmps31 rfl fun Γ => ?_
  refine Tri.seq ?_
  refine Tri.region ti_ok ?_
  conv => whnf
  refine Tri.seq ?_
  refine Tri.seq ?_
  refine Tri.region ti_ok ?_
  conv => whnf
  refine Tri.block ?_
  refine Tri.seq ?_
  refine Tri.region ti_ok ?_
  conv => whnf
  refine Tri.cond true rfl (fun hc => ?_) (fun hc => by cases hc)
  · refine Tri.seq ?_
    refine Tri.region ti_ok ?_
    conv => whnf
    refine ⟨[.str s, .str [46]], _, fun _ => G81 hL s [46] (by omega), ⟨.refl _, .refl _, trivial⟩, ?_⟩
    conv => whnf
    refine Tri.seq ?_
    refine Tri.seq ?_
    refine Tri.region ti_ok ?_
    conv => whnf
    refine ⟨fun h => h, ?_⟩
    conv => whnf
    refine ⟨fun h => h, ?_⟩
    conv => whnf
    refine ⟨[.str (Lib.cut s [46]).2.1, .int .i64 3], _, fun h => G82 _ 3, ⟨.refl _, .refl _, trivial⟩, ?_⟩
    conv => whnf
    refine ⟨fun h => h, ?_⟩
    conv => whnf
    refine ⟨fun h => h, ?_⟩
    conv => whnf
    refine ⟨fun h0 h => by first | exact h | (rw [h]; rfl) | (rw [h0, h]; rfl), ?_⟩
    conv => whnf
    refine ⟨fun h0 h => by first | exact h | (rw [h]; rfl) | (rw [h0, h]; rfl), ?_⟩
    conv => whnf
    refine Tri.cond _ rfl (fun hc => ?_) (fun hc => ?_)
    · refine Tri.seq ?_
      refine Tri.region ti_ok ?_
      conv => whnf
      refine Tri.ret ?_
      conv => whnf
      have hc' : ((Lib.cut s [46]).2.2 && (dir || !isDB (Lib.cut s [46]).2.1 3)) = true := by revert hc; cases (Lib.cut s [46]).2.2 <;> cases dir <;> simp
      refine DLe.of_eq (congrArg D.bool ?_)
      rw [validI, hc']; rfl
    · refine Tri.skip ?_
      conv => whnf
      refine Tri.seq ?_
      refine Tri.region ti_ok ?_
      conv => whnf
      refine ⟨[.str (Lib.cut s [46]).1, .int .i64 8], _, fun _ => G82 _ 8, ⟨.refl _, .refl _, trivial⟩, ?_⟩
      conv => whnf
      refine Tri.ret ?_
      conv => whnf
      have hc' : ((Lib.cut s [46]).2.2 && (dir || !isDB (Lib.cut s [46]).2.1 3)) = false := by revert hc; cases (Lib.cut s [46]).2.2 <;> cases dir <;> simp
      refine DLe.of_eq (congrArg D.bool ?_)
      rw [validI, hc']; rfl
def hasDot (s : List UInt8) : Bool := decide (0 ≤ Lib.indexByte s 46)
/-- What Identifier returns. -/
def identI (s : List UInt8) (dir : Bool) : List UInt8 × Int :=
  if validI s dir = true then if dir = true then (s, 0) else if hasDot s = true then (s ++ [59, 49], 0) else (s ++ [46, 59, 49], 0) else ([], 4)
theorem G32 (hL : LibOk W0) (s : List UInt8) (dir : Bool) (hs : s.length < 1000000000) : DFun Tryz.prog W0 32 [.str s, .bool dir] (.tup [.str (identI s dir).1, .int .i64 (identI s dir).2]) := by
  refine DFun.intro ti_ok Tryz.func32 rfl (by decide +kernel) Tryz.ntmps32 rfl fun Γ => ?_
  refine Tri.seq ?_
  refine Tri.region ti_ok ?_
  conv => whnf
  refine Tri.seq ?_
  refine Tri.seq ?_
  refine Tri.region ti_ok ?_
  conv => whnf
  refine ⟨[.int .i64 0, .str s, .bool dir], _, fun _ => G31 hL s dir hs, ⟨.refl _, .refl _, .refl _, trivial⟩, ?_⟩
  conv => whnf
  refine Tri.cond _ rfl (fun hc => ?_) (fun hc => ?_)
  · refine Tri.seq ?_
    refine Tri.region ti_ok ?_
    conv => whnf
    refine Tri.ret ?_
    conv => whnf
    have h : ¬ validI s dir = true := by simpa using hc
    rw [identI, if_neg h]
    exact ⟨.refl _, .refl _, trivial⟩
  · refine Tri.skip ?_
    conv => whnf
    refine Tri.seq ?_
    refine Tri.block ?_
    refine Tri.seq ?_
    have h : validI s dir = true := by simpa using hc
    refine Tri.region ti_ok ?_
    conv => whnf
    refine Tri.cond dir rfl (fun hd => ?_) (fun hd => ?_)
    · refine Tri.seq ?_
      refine Tri.region ti_ok ?_
      conv => whnf
      refine Tri.ret ?_
      conv => whnf
      rw [identI, if_pos h, if_pos hd]
      exact ⟨.refl _, .refl _, trivial⟩
    · refine Tri.seq ?_
      refine Tri.region ti_ok ?_
      conv => whnf
      refine ⟨[.str s, .str [46]], _, fun _ => F119 s 46, ⟨.refl _, .refl _, trivial⟩, ?_⟩
      conv => whnf
      refine Tri.cond (hasDot s) rfl (fun h2 => ?_) (fun h2 => ?_)
      · refine Tri.seq ?_
        refine Tri.region ti_ok ?_
        conv => whnf
        refine ⟨fun _ => by simp; omega, ?_⟩
        conv => whnf
        refine Tri.ret ?_
        conv => whnf
        rw [identI, if_pos h, if_neg (by rw [hd]; simp), if_pos h2]
        exact ⟨.refl _, .refl _, trivial⟩
      · refine Tri.skip ?_
        conv => whnf
        refine Tri.seq ?_
        refine Tri.region ti_ok ?_
        conv => whnf
        refine ⟨fun _ => by simp; omega, ?_⟩
        conv => whnf
        refine Tri.ret ?_
        conv => whnf
        rw [identI, if_pos h, if_neg (by rw [hd]; simp), if_neg (by rw [h2]; simp)]
        exact ⟨.refl _, .refl _, trivial⟩
def chkI (id m : List UInt8) (dir : Bool) : List UInt8 × Int := if (identI m dir).2 = 0 ∧ (identI m dir).1 = id then (m, 0) else ([], 4)
/-- What Name returns. -/
def nameI (id : List UInt8) (dir : Bool) : List UInt8 × Int :=
  if dir = true then chkI id id dir else if (cutSuf id [59, 49]).2 = true then chkI id (Lib.trimSuffix (cutSuf id [59, 49]).1 [46]) dir else ([], 4)
theorem G33 (hL : LibOk W0) (id : List UInt8) (dir : Bool) (hs : id.length < 1000000000) : DFun Tryz.prog W0 33 [.str id, .bool dir] (.tup [.str (nameI id dir).1, .int .i64 (nameI id dir).2]) := by
  refine DFun.intro ti_ok Tryz.func33 rfl (by decide +kernel) Tryz.ntmps33 rfl fun Γ => ?_
  have hcl : (cutSuf id [59, 49]).1.length ≤ id.length := by
    unfold cutSuf
    split
    · simp
    · exact Nat.le_refl _
  have htl : (Lib.trimSuffix (cutSuf id [59, 49]).1 [46]).length ≤ id.length := by
    unfold Lib.trimSuffix
    split
    · simp; omega
    · exact hcl
  refine Tri.seq ?_
  refine Tri.region ti_ok ?_
  conv => whnf
  refine Tri.seq ?_
  refine Tri.region ti_ok ?_
  conv => whnf
  refine Tri.joinK (α := { m : List UInt8 // m.length ≤ id.length ∧ nameI id dir = chkI id m dir }) (fun x => [(0, .str id), (1, .bool dir), (6, .str x.1)]) (fun x => []) ?_ ?_
  · refine Tri.seq ?_
    refine Tri.region ti_ok ?_
    conv => whnf
    refine Tri.cond _ rfl (fun hc => ?_) (fun hc => ?_)
    · refine Tri.seq ?_
      refine Tri.region ti_ok ?_
      conv => whnf
      refine ⟨[.str id, .str [59, 49]], _, fun _ => G85 id [59, 49] hs (by decide), ⟨.refl _, .refl _, trivial⟩, ?_⟩
      conv => whnf
      refine Tri.seq ?_
      refine Tri.seq ?_
      refine Tri.region ti_ok ?_
      conv => whnf
      refine Tri.cond _ rfl (fun h2 => ?_) (fun h2 => ?_)
      · refine Tri.seq ?_
        refine Tri.region ti_ok ?_
        conv => whnf
        refine Tri.ret ?_
        conv => whnf
        have hd : ¬ dir = true := by simpa using hc
        have h3 : ¬ (cutSuf id [59, 49]).2 = true := by simpa using h2
        rw [nameI, if_neg hd, if_neg h3]
        exact ⟨.refl _, .refl _, trivial⟩
      · refine Tri.skip ?_
        conv => whnf
        have hd : ¬ dir = true := by simpa using hc
        have h3 : (cutSuf id [59, 49]).2 = true := by simpa using h2
        refine Tri.region ti_ok ?_
        conv => whnf
        refine ⟨[.str (cutSuf id [59, 49]).1, .str [46]], _, fun _ => F172 _ [46] (by omega), ⟨.refl _, .refl _, trivial⟩, ?_⟩
        conv => whnf
        exact ⟨⟨Lib.trimSuffix (cutSuf id [59, 49]).1 [46], htl, by rw [nameI, if_neg hd, if_pos h3]⟩, [], ⟨.refl _, .refl _, .refl _, trivial⟩, rfl, trivial⟩
    · refine Tri.skip ?_
      conv => whnf
      have hd : dir = true := by simpa using hc
      exact ⟨⟨id, Nat.le_refl _, by rw [nameI, if_pos hd]⟩, [], ⟨.refl _, .refl _, .refl _, trivial⟩, rfl, trivial⟩
  · rintro ⟨m, hml, hN⟩
    dsimp only
    refine Tri.seq ?_
    refine Tri.seq ?_
    refine Tri.region ti_ok ?_
    conv => whnf
    refine ⟨[.str m, .bool dir], _, fun _ => G32 hL m dir (by omega), ⟨.refl _, .refl _, trivial⟩, ?_⟩
    conv => whnf
    refine Tri.seq ?_
    refine Tri.region ti_ok ?_
    conv => whnf
    refine ⟨fun h => h, ?_⟩
    conv => whnf
    refine ⟨fun h => h, ?_⟩
    conv => whnf
    refine ⟨fun h0 h => by first | exact h | (rw [h]; rfl) | (rw [h0, h]; rfl), ?_⟩
    conv => whnf
    refine Tri.cond _ rfl (fun hc => ?_) (fun hc => ?_)
    · refine Tri.seq ?_
      refine Tri.region ti_ok ?_
      conv => whnf
      refine Tri.ret ?_
      conv => whnf
      have h3 : ¬ ((identI m dir).2 = 0 ∧ (identI m dir).1 = id) := by
        intro ⟨h4, h5⟩
        simp [h4, h5] at hc
      rw [hN, chkI, if_neg h3]
      exact ⟨.refl _, .refl _, trivial⟩
    · refine Tri.skip ?_
      conv => whnf
      refine Tri.seq ?_
      refine Tri.region ti_ok ?_
      conv => whnf
      refine Tri.ret ?_
      conv => whnf
      have h3 : (identI m dir).2 = 0 ∧ (identI m dir).1 = id := by
        by_cases h4 : (identI m dir).2 = 0
        · refine ⟨h4, ?_⟩
          simpa [h4] using hc
        · simp [h4] at hc
      rw [hN, chkI, if_pos h3]
      exact ⟨.refl _, .refl _, trivial⟩
end Go.Tame.V
/- The chapter's example, evaluated. Plain. -/
namespace Go.Tame.V
open Go Go.Proofs
set_option maxRecDepth 10000
set_option linter.unusedVariables false
set_option linter.unusedSimpArgs false

theorem sortN_of {xs ys : List NV} (hi : inc ys) (hp : xs.Perm ys) : sortN xs = ys :=
  sorted_nodes hi ((sortN_perm xs).trans hp) fun i j hi hj hij => List.pairwise_iff_getElem.1 (sortN_sorted xs) i j hi hj hij
def exNames : List (List UInt8) := [[82, 69, 65, 68, 77, 69], [82, 69, 65, 68, 77, 69, 46, 84, 88, 84], [82, 69, 65, 68, 77, 69, 49], [82, 69, 65, 68, 77, 69, 46, 84, 69, 88]]
theorem exNames_eq : namesG 0 exL = exNames := by decide +kernel
theorem exL_inc : inc exL := fun i hi => by
  have : i < 3 := by have : exL.length = 4 := rfl; omega
  match i, this with
  | 0, _ => decide +kernel
  | 1, _ => decide +kernel
  | 2, _ => decide +kernel
def exT : NV := ⟨[], 0, [], [], 493, 0, 0, 315532800, 0, 0, exL, []⟩
theorem exT_valid : valid exT = true := by decide +kernel
theorem exT_fits : Fits exT := by unfold Fits; decide +kernel
theorem show_exV (t : Int) (x : List UInt8 × Int) (d : Int) : showG (namesG 0) 0 d (exV t x) = exV t x := by
  rw [showG_eq]
  have h : sortN (showGL (namesG 0) 0 (d + 1) (exV t x).kids (namesG 0 (exV t x).kids)) = [] := by
    show sortN (showGL (namesG 0) 0 (d + 1) [] (namesG 0 [])) = []
    rw [showGL]
    · simp [sortN]
    · intro k r m ms h; cases h
  rw [h]; rfl
def exU : List NV := [([82, 69, 65, 68, 77, 69], (1 : Int)), ([82, 69, 65, 68, 77, 69, 46, 84, 88, 84], 1), ([82, 69, 65, 68, 77, 69, 49], 0), ([82, 69, 65, 68, 77, 69, 46, 84, 69, 88], 1)].map (exV 315532800)
def exS : List NV := [([82, 69, 65, 68, 77, 69], (1 : Int)), ([82, 69, 65, 68, 77, 69, 46, 84, 69, 88], 1), ([82, 69, 65, 68, 77, 69, 46, 84, 88, 84], 1), ([82, 69, 65, 68, 77, 69, 49], 0)].map (exV 315532800)
theorem exS_inc : inc exS := fun i hi => by
  have : i < 3 := by have : exS.length = 4 := rfl; omega
  match i, this with
  | 0, _ => decide +kernel
  | 1, _ => decide +kernel
  | 2, _ => decide +kernel
theorem exU_eq : showGL (namesG 0) 0 2 exL exNames = exU := by
  have h : ∀ x ∈ exN, shown 0 (exV 315532800 x) 2 = true := by decide +kernel
  simp only [exL, exN, exNames, List.map_cons, List.map_nil, showGL]
  simp only [show_exV]
  rw [if_pos (h _ (by simp [exN])), if_pos (h _ (by simp [exN])), if_pos (h _ (by simp [exN])), if_pos (h _ (by simp [exN]))]
  rfl
theorem exS_eq : sortN exU = exS := sortN_of exS_inc (by
  simp only [exU, exS, List.map_cons, List.map_nil]
  exact List.Perm.cons _ ((List.perm_append_comm (l₁ := [_, _]) (l₂ := [_])).trans (List.Perm.refl _)))
theorem exView : viewR (namesG 0) 0 exT = (⟨[], 0, [], [], 0, 0, 0, 315532800, 0, 0, exS, []⟩, 0) := by
  rw [viewR, if_neg (by decide), if_neg (by rw [exT_valid]; decide), showG_eq]
  show ((⟨[], 0, [], [], 0, 0, 0, 315532800, 0, 0, sortN (showGL (namesG 0) 0 2 exL (namesG 0 exL)), []⟩ : NV), (0 : Int)) = _
  rw [exNames_eq, exU_eq, exS_eq]
theorem exPrs : prs (namesG 0) 0 1 exT [] [] = ([], []) :: exNames.zip (exN.map Prod.fst) := by decide +kernel
theorem exGet : (getR exT [114, 101, 97, 100, 109, 101]).2 = 0 := by decide +kernel
theorem exPath : pathV (namesG 0) 0 exT [114, 101, 97, 100, 109, 101] = ([82, 69, 65, 68, 77, 69, 49], 0) := by
  rw [pathV_find (by rw [exView]) _ exGet, exPrs]; rfl
theorem exSource : sourceV (namesG 0) 0 exT [82, 69, 65, 68, 77, 69, 49] = ([114, 101, 97, 100, 109, 101], 0) := by
  rw [sourceV_find (by rw [exView]), exPrs]; rfl
theorem exIdent : identI [82, 69, 65, 68, 77, 69] false = ([82, 69, 65, 68, 77, 69, 46, 59, 49], 0) := by decide +kernel
theorem exName : nameI [82, 69, 65, 68, 77, 69, 46, 84, 88, 84, 59, 49] false = ([82, 69, 65, 68, 77, 69, 46, 84, 88, 84], 0) := by decide +kernel
def exJ : List (List UInt8 × Int) := [([97, 63, 98, 46, 99], 1), ([97, 42, 98, 46, 99], 1)]
def exJs : List (List UInt8 × Int) := [([97, 42, 98, 46, 99], 1), ([97, 63, 98, 46, 99], 1)]
theorem exJ_sort : sortN (exJ.map (exV 0)) = exJs.map (exV 0) := sortN_of (fun i hi => by
  have : i < 1 := by have : (exJs.map (exV 0)).length = 2 := rfl; omega
  match i, this with
  | 0, _ => decide +kernel) (List.Perm.swap _ _ [])
theorem exJ_eq : namesR 1 (exJ.map (exV 0)) = ([[97, 95, 98, 49, 46, 99], [97, 95, 98, 46, 99]], 0) := by
  rw [namesR, if_neg (by decide), if_neg (by decide), if_neg (by decide +kernel), if_neg (by decide +kernel), namesU, exJ_sort]
  decide +kernel
theorem exL_eq : namesR 0 exL = (exNames, 0) := by
  rw [namesR, if_neg (by decide), if_neg (by decide +kernel), if_neg (by decide +kernel), if_neg (by decide +kernel), namesU_inc exL_inc, exNames_eq]
theorem exValid : validI [65, 46, 66] false = true ∧ validI [65, 46, 66] true = false := by decide +kernel
theorem exShow : shown 0 exT 8 = true ∧ shown 0 exT 9 = false := by decide +kernel
end Go.Tame.V
/- Contracts: Names, of any kids. By program (mk66.py, mk.py). -/
namespace Go.Tame.V
open Go Go.Proofs
variable {W0 : World}
set_option maxRecDepth 10000
set_option linter.unusedVariables false
set_option linter.unusedSimpArgs false

theorem F105g (hL : LibOk W0) (v : Int) (kids : List NV) (hlen : kids.length < 1000000) (hnl : ∀ k ∈ kids, k.name.length < 1000000000) : DFun Tryz.prog W0 29 [.int .i64 v, .sl .none 12 (kids.map enc)] (.tup [.sl .none 1 (strs (namesR v kids).1), .int .i64 (namesR v kids).2]) := by
  refine DFun.intro ti_ok Tryz.func29 rfl (by decide +kernel) Tryz.ntmps29 rfl fun Γ => ?_
  refine Tri.seq ?_
  refine Tri.region ti_ok ?_
  conv => whnf
  intro bk
  conv => whnf
  refine Tri.seq ?_
  refine Tri.seq ?_
  refine Tri.region ti_ok ?_
  conv => whnf
  refine ⟨[.int .i64 v], _, fun _ => F91 v, ⟨.refl _, trivial⟩, ?_⟩
  conv => whnf
  refine Tri.cond _ rfl (fun hc => ?_) (fun hc => ?_)
  · refine Tri.seq ?_
    refine Tri.region ti_ok ?_
    conv => whnf
    refine Tri.ret ?_
    conv => whnf
    have h1 : viewOk v = false := by simpa using hc
    have hR : namesR v kids = ([], 2) := by rw [namesR, if_pos h1]
    rw [hR]
    exact ⟨DLe.nil, .refl _, trivial⟩
  · refine Tri.skip ?_
    conv => whnf
    have hvo : viewOk v = true := by simpa using hc
    refine Tri.seq ?_
    refine Tri.seq ?_
    refine Tri.region ti_ok ?_
    conv => whnf
    refine ⟨rfl, ?_⟩
    conv => whnf
    refine Tri.cond _ rfl (fun hc => ?_) (fun hc => ?_)
    · refine Tri.seq ?_
      refine Tri.region ti_ok ?_
      conv => whnf
      refine Tri.ret ?_
      conv => whnf
      have h1 : 64 < kids.length := by simp at hc; omega
      have hR : namesR v kids = ([], 7) := by rw [namesR, if_neg (by rw [hvo]; simp), if_pos h1]
      rw [hR]
      exact ⟨DLe.nil, .refl _, trivial⟩
    · refine Tri.skip ?_
      conv => whnf
      have h64 : kids.length ≤ 64 := by simp at hc; omega
      refine Tri.seq ?_
      refine Tri.regionX ti_ok ?_
      conv => whnf
      refine .inl ?_
      conv => whnf
      refine ⟨rfl, ?_⟩
      conv => whnf
      refine .inr (XOp.makeRow ti_ok (n := kids.length) (k1 := .i64) (k2 := .i64) (z := .int .i64 0) rfl rfl rfl rfl rfl ?_ ?_ (by show 8 * _ ≤ _; omega) (by omega) fun rv => ?_)
      · show D.int _ _ = _; simp
      · show D.int _ _ = _; simp
      conv => whnf
      refine Tri.seq ?_
      refine Tri.seq ?_
      refine Tri.region ti_ok ?_
      conv => whnf
      refine ⟨rfl, ?_⟩
      conv => whnf
      refine Tri.block ?_
      refine Tri.loopK (α := { i : Nat // i ≤ kids.length ∧ ∀ j, (hj : j < kids.length) → j < i → nameOk kids[j].name = true }) (fun x => [(0, .int .i64 v), (3, .box 3 bk 0), (6, .raw rv), (25, .sl .none 12 (kids.map enc)), (26, .int .i64 (kids.map enc).length), (27, .int .i64 x.1)])
        (fun x => [(24, .row rv (places x.1 ++ List.replicate (kids.length - x.1) (.int .i64 0)) 1 3), (3, .box bk [.sl .none 12 (kids.map enc)])]) (fun x => kids.length - x.1) ⟨0, by omega, fun j _ h => absurd h (Nat.not_lt_zero _)⟩ [(24, 24), (3, 3)]
        ⟨⟨.refl _, .refl _, .refl _, .refl _, .refl _, .refl _, trivial⟩, rfl, rfl, rfl, rfl, rfl, trivial⟩ ?_
      rintro ⟨i, hi, hoki⟩
      dsimp only
      refine Tri.seq ?_
      refine Tri.region ti_ok ?_
      conv => whnf
      refine Tri.seq ?_
      refine Tri.cond _ rfl (fun hc => ?_) (fun hc => ?_)
      · refine Tri.skip ?_
        conv => whnf
        have hia : i < kids.length := by simpa using hc
        have hpl : (places i).length = i := by simp [places]
        refine Tri.seq ?_
        refine Tri.block ?_
        refine Tri.seq ?_
        refine Tri.region ti_ok ?_
        conv => whnf
        refine ⟨fun _ => by simp; omega, ?_⟩
        conv => whnf
        refine ⟨encTop kids[i], fun _ => get_kids hia, ?_⟩
        conv => whnf
        intro b8
        conv => whnf
        refine ⟨rfl, ?_⟩
        conv => whnf
        refine Tri.seq ?_
        refine Tri.seq ?_
        refine Tri.region ti_ok ?_
        conv => whnf
        refine ⟨rfl, ?_⟩
        conv => whnf
        refine ⟨[.str kids[i].name], _, fun _ => F100 hL _ (hnl _ (List.getElem_mem hia)), ⟨.refl _, trivial⟩, ?_⟩
        conv => whnf
        refine Tri.cond _ rfl (fun hc => ?_) (fun hc => ?_)
        · refine Tri.seq ?_
          refine Tri.region ti_ok ?_
          conv => whnf
          refine Tri.ret ?_
          conv => whnf
          have h1 : allOk kids = false := by
            rw [allOk, List.all_eq_false]
            exact ⟨kids[i], List.getElem_mem hia, by simpa using hc⟩
          have hR : namesR v kids = ([], 4) := by rw [namesR, if_neg (by rw [hvo]; simp), if_neg (by omega), if_pos h1]
          rw [hR]
          exact ⟨DLe.nil, .refl _, trivial⟩
        · refine Tri.skip ?_
          conv => whnf
          have hoi : nameOk kids[i].name = true := by simpa using hc
          refine Tri.regionX ti_ok ?_
          conv => whnf
          refine .inr (XOp.rowIndex ti_ok 24 rfl rfl rfl rfl rfl rfl rfl (by omega) (by simp [hpl]; omega) ?_)
          conv => whnf
          conv => whnf
          refine .inr (XOp.rowStore ti_ok 24 (i := i) (by rw [Int.toNat_natCast]; rfl) rfl rfl rfl (by simp [hpl]; omega) rfl ?_)
          conv => whnf
          conv => whnf
          refine Tri.region ti_ok ?_
          conv => whnf
          refine .inl ⟨fun _ => by simp [InR]; omega, ?_⟩
          conv => whnf
          exact ⟨⟨i + 1, by omega, fun j hj hji => if e : j = i then by subst e; exact hoi else hoki j hj (by omega)⟩, [(24, 24), (3, 3)], by show _ - (i + 1) < _ - i; omega, ⟨.refl _, .refl _, .refl _, .refl _, .refl _, .refl _, trivial⟩, rfl, rfl, congrArg (fun z => some (HObj.row rv z 1 3)) (places_set hia _), rfl, rfl, trivial⟩
      · refine Tri.exit ?_
        conv => whnf
        refine Tri.seq ?_
        have hin : i = kids.length := by simp at hc; omega
        have hrow : places i ++ List.replicate (kids.length - i) (D.int .i64 0) = places kids.length := by subst hin; simp
        rw [hrow]
        have hall : ∀ k ∈ kids, nameOk k.name = true := fun k hk => by
          obtain ⟨j, hj, rfl⟩ := List.mem_iff_getElem.1 hk
          exact hoki j hj (by omega)
        have hallb : allOk kids = true := by rw [allOk, List.all_eq_true]; exact hall
        refine Tri.regionX ti_ok ?_
        conv => whnf
        refine .inr (XOp.call rfl [.raw rv, .fn (.func 77) [] [.box 2000 bk 0]] [(2001, 24), (2000, 3)] (sort_order kids hlen bk rv) rfl ⟨.refl _, DLe.fn trivial ⟨DLe.box, trivial⟩, trivial⟩ ?_)
        rintro d H' ⟨rfl, L, hO, rfl⟩
        refine ⟨_, .refl _, ?_⟩
        conv => whnf
        refine Tri.forgetK [(6, .raw rv), (0, .int .i64 v), (3, .box 3 bk 0)] [(24, .row rv (L.map encI) 1 3), (3, .box bk [.sl .none 12 (kids.map enc)])] [(24, 24), (3, 3)] ⟨⟨.refl _, .refl _, .refl _, trivial⟩, rfl, rfl, rfl, rfl, rfl, trivial⟩ ?_
        refine Tri.commitSt 24 6 rfl ?_
        have hLl := hO.len
        refine Tri.seq ?_
        refine Tri.regionX ti_ok ?_
        conv => whnf
        refine .inl ?_
        conv => whnf
        refine ⟨rfl, ?_⟩
        conv => whnf
        refine .inr (XOp.makeRow ti_ok (n := kids.length) (k1 := .i64) (k2 := .i64) (z := .str []) rfl rfl rfl rfl rfl ?_ ?_ (by show 16 * _ ≤ _; omega) (by omega) fun nv => ?_)
        · show D.int _ _ = _; simp
        · show D.int _ _ = _; simp
        conv => whnf
        refine .inr (XOp.makeMap fun mb => ?_)
        conv => whnf
        refine Tri.seq ?_
        refine Tri.seq ?_
        refine Tri.region ti_ok ?_
        conv => whnf
        refine Tri.block ?_
        refine Tri.loopK (α := { t : Nat // t ≤ L.length ∧ ∀ j, (hj : j + 1 < L.length) → j + 1 < t → (kids.getD L[j] default).name ≠ (kids.getD L[j + 1] default).name }) (fun x => [(0, .int .i64 v), (3, .box 3 bk 0), (6, .sl .none 1 (L.map encI)), (48, .sl .none 1 (L.map encI)), (49, .int .i64 (L.map encI).length), (50, .int .i64 x.1), (9, .raw nv), (10, .raw (.map (some mb)))])
          (fun x => [(46, .row nv (rowF kids.length L (pickAt v kids L) x.1) 1 9), (47, .set mb (usedG v ((inOrder kids L).take x.1))), (3, .box bk [.sl .none 12 (kids.map enc)])]) (fun x => L.length - x.1) ⟨0, by omega, fun j _ h => absurd h (Nat.not_lt_zero _)⟩ [(46, 46), (47, 47), (3, 3)]
          ⟨⟨.refl _, .refl _, .refl _, .refl _, .refl _, .refl _, .refl _, .refl _, trivial⟩, rfl, rfl, congrArg (fun z => some (HObj.row nv z 1 9)) rowF_zero.symm, rfl, rfl, rfl, rfl, trivial⟩ ?_
        rintro ⟨t, ht, hnei⟩
        dsimp only
        refine Tri.seq ?_
        refine Tri.region ti_ok ?_
        conv => whnf
        refine Tri.seq ?_
        refine Tri.cond _ rfl (fun hc => ?_) (fun hc => ?_)
        · refine Tri.skip ?_
          conv => whnf
          have hta : t < L.length := by simpa using hc
          have hkt : L[t] < kids.length := hO.lt hta
          have hord : ∀ j, (hj : j < L.length) → (L.map encI)[j]? = some (.int .i64 (L[j] : Nat)) := fun j hj => by simp [encI, hj]
          have hkd : ∀ j, j < kids.length → (kids.map enc)[j]? = some (encTop (kids.getD j default)) := fun j hj => by rw [get_kids hj]; simp [List.getD, hj]
          have hke : kids.getD L[t] default = kids[L[t]] := by simp [List.getD, hkt]
          have hpr : ∀ (h : 0 < t), kids.getD (L.getD (t - 1) 0) default = kids.getD (L[t - 1]'(by omega)) default := fun h => by simp [List.getD, show t - 1 < L.length by omega]
          have hlp : 0 < t → L.getD (t - 1) 0 < kids.length := fun h => by
            have := hO.lt (t := t - 1) (by omega)
            simpa [List.getD, show t - 1 < L.length by omega] using this
          refine Tri.seq ?_
          refine Tri.block ?_
          refine Tri.seq ?_
          refine Tri.region ti_ok ?_
          conv => whnf
          refine ⟨fun _ => by simp; omega, ?_⟩
          conv => whnf
          refine ⟨.int .i64 (L[t] : Nat), fun _ => hord t hta, ?_⟩
          conv => whnf
          refine Tri.seq ?_
          refine Tri.seq ?_
          refine Tri.draw ti_ok mixed (by kernel_rfl) ?_
          conv => whnf
          refine ⟨rfl, ?_⟩
          conv => whnf
          refine ⟨fun h => h, ?_⟩
          conv => whnf
          refine .inl ⟨fun h => by simp only [InR]; omega, ?_⟩
          conv => whnf
          refine ⟨fun h => h, ?_⟩
          conv => whnf
          refine ⟨fun h => h, ?_⟩
          conv => whnf
          refine ⟨fun h => by simp at h; simp; omega, ?_⟩
          conv => whnf
          refine ⟨fun h => h, ?_⟩
          conv => whnf
          refine ⟨.int .i64 ((L.getD (t - 1) 0 : Nat) : Int), fun h => by
            have h0 : 0 < t := by simpa using h
            rw [pred_toNat h0, hord (t - 1) (by omega)]; simp [List.getD, show t - 1 < L.length by omega], ?_⟩
          conv => whnf
          refine ⟨fun h => h, ?_⟩
          conv => whnf
          refine ⟨fun h => h, ?_⟩
          conv => whnf
          refine ⟨fun h => by
            have := hlp (by simpa using h)
            rw [List.length_map]; omega, ?_⟩
          conv => whnf
          refine ⟨fun h => h, ?_⟩
          conv => whnf
          refine ⟨fun h => h, ?_⟩
          conv => whnf
          refine ⟨encTop (kids.getD (L.getD (t - 1) 0) default), fun h => hkd _ (hlp (by simpa using h)), ?_⟩
          conv => whnf
          refine ⟨rfl, ?_⟩
          conv => whnf
          refine ⟨fun h => h, ?_⟩
          conv => whnf
          refine ⟨fun h => h, ?_⟩
          conv => whnf
          refine ⟨fun h => by simp; omega, ?_⟩
          conv => whnf
          refine ⟨fun h => h, ?_⟩
          conv => whnf
          refine ⟨fun h => h, ?_⟩
          conv => whnf
          refine ⟨encTop kids[L[t]], fun h => get_kids hkt, ?_⟩
          conv => whnf
          refine ⟨fun h => h, ?_⟩
          conv => whnf
          refine ⟨fun h => h, ?_⟩
          conv => whnf
          refine ⟨fun h0 h => by first | exact h | (rw [h]; rfl) | (rw [h0, h]; rfl), ?_⟩
          conv => whnf
          refine Tri.cond _ rfl (fun hc => ?_) (fun hc => ?_)
          · refine Tri.seq ?_
            refine Tri.region ti_ok ?_
            conv => whnf
            refine Tri.ret ?_
            conv => whnf
            cases h0 : decide ((0 : Int) < t) with
            | false => rw [h0] at hc; cases hc
            | true =>
              have ht0 : 0 < t := by simpa using h0
              rw [h0] at hc
              have hc2 : ((kids.getD (L.getD (t - 1) 0) default).name == kids[L[t]].name) = true := hc
              rw [hpr ht0, ← hke, beq_iff_eq] at hc2
              have hd := order_dup hO (s := t - 1) (t := t) (by omega) hta hc2
              have hR : namesR v kids = ([], 5) := by rw [namesR, if_neg (by rw [hvo]; simp), if_neg (by omega), if_neg (by rw [hallb]; simp), if_pos hd]
              rw [hR]
              exact ⟨DLe.nil, .refl _, trivial⟩
          · refine Tri.skip ?_
            conv => whnf
            have hnew : ∀ j, (hj : j + 1 < L.length) → j + 1 < t + 1 → (kids.getD L[j] default).name ≠ (kids.getD L[j + 1] default).name := fun j hj hjt => by
              by_cases e : j + 1 = t
              · subst e
                intro h
                have h1 : decide ((0 : Int) < (j + 1 : Nat)) = true := by simp
                rw [h1] at hc
                have hc2 : ((kids.getD (L.getD (j + 1 - 1) 0) default).name == kids[L[j + 1]].name) = false := hc
                rw [hpr (by omega), ← hke, beq_eq_false_iff_ne] at hc2
                exact hc2 h
              · exact hnei j hj (by omega)
            have hpk := pickAt_get hO (v := v) hta
            have hrs := rowF_set (g := pickAt v kids L) hta hkt
            have hOl := order_len hO
            have hus : usedG v ((inOrder kids L).take (t + 1)) = pickAt v kids L L[t] :: usedG v ((inOrder kids L).take t) := by
              rw [usedG_take (by omega), hpk, order_get hO hta]
            have hUl : (usedG v ((inOrder kids L).take t)).length = t := by rw [usedG_len]; simp; omega
            have hoki := hall kids[L[t]] (List.getElem_mem hkt)
            have hgk := get_kids hkt
            have hrl := rowF_len (n := kids.length) (L := L) (g := pickAt v kids L) (t := t)
            generalize usedG v ((inOrder kids L).take t) = U at *
            generalize rowF kids.length L (pickAt v kids L) t = Rw at *
            clear hord hpr hlp hkd hc
            generalize hkk : kids[L[t]] = k at *
            generalize hix : L[t] = ix at *
            refine Tri.seq ?_
            refine Tri.region ti_ok ?_
            conv => whnf
            refine ⟨rfl, ?_⟩
            conv => whnf
            refine ⟨fun _ => by simp; omega, ?_⟩
            conv => whnf
            refine ⟨encTop k, fun _ => hgk, ?_⟩
            conv => whnf
            refine Tri.seq ?_
            refine Tri.seq ?_
            refine Tri.region ti_ok ?_
            conv => whnf
            refine ⟨fun h => h, ?_⟩
            conv => whnf
            refine ⟨fun h0 h => by first | exact h | (rw [h]; rfl) | (rw [h0, h]; rfl), ?_⟩
            conv => whnf
            refine Tri.cond _ rfl (fun hc => ?_) (fun hc => ?_)
            · refine Tri.seq ?_
              have hv01 : v = 0 ∨ v = 1 := by
                cases h0 : (v == 0) with
                | true => exact .inl (by simpa using h0)
                | false => rw [h0] at hc; exact .inr (by simpa using hc)
              have hnl := name_len hoki
              obtain ⟨l, hl, _, _, _, _⟩ := name_chars hoki
              have hcalled := F125 (W0 := W0) v k.name l (k.kind == 0) (by omega) hl
              have hwl := want_len v k.name (k.kind == 0)
              have hfr := fresh_ok v U (wantS v k.name (k.kind == 0)).1 (wantS v k.name (k.kind == 0)).2 (by omega)
              have hpk2 : pickAt v kids L ix = numS v (wantS v k.name (k.kind == 0)).1 (wantS v k.name (k.kind == 0)).2 (freshK v U (wantS v k.name (k.kind == 0)).1 (wantS v k.name (k.kind == 0)).2) := by
                rw [hpk, pickG, if_pos hv01]; rfl
              generalize (wantS v k.name (k.kind == 0)).1 = st at *
              generalize (wantS v k.name (k.kind == 0)).2 = ex at *
              generalize hK : freshK v U st ex = K at *
              refine Tri.region ti_ok ?_
              conv => whnf
              refine ⟨rfl, ?_⟩
              conv => whnf
              refine ⟨fun _ => by simp; omega, ?_⟩
              conv => whnf
              refine ⟨encTop k, fun _ => hgk, ?_⟩
              conv => whnf
              refine ⟨[.int .i64 v, .str k.name, .bool (k.kind == 0)], _, fun _ => hcalled, ⟨.refl _, .refl _, .refl _, trivial⟩, ?_⟩
              conv => whnf
              intro b14
              conv => whnf
              refine ⟨rfl, ?_⟩
              conv => whnf
              refine Tri.seq ?_
              refine Tri.region ti_ok ?_
              conv => whnf
              refine ⟨rfl, ?_⟩
              conv => whnf
              refine ⟨[wantD st ex, .int .i64 v, .int .i64 (0 : Nat)], _, fun _ => F126 v st ex 0 (by omega) (by omega) (by omega), ⟨.refl _, .refl _, .refl _, trivial⟩, ?_⟩
              conv => whnf
              refine Tri.seq ?_
              refine Tri.region ti_ok ?_
              conv => whnf
              refine Tri.block ?_
              refine Tri.loopK (α := { j : Nat // j ≤ K }) (fun x => [(0, .int .i64 v), (3, .box 3 bk 0), (6, .sl .none 1 (L.map encI)), (48, .sl .none 1 (L.map encI)), (49, .int .i64 (L.map encI).length), (50, .int .i64 t), (9, .raw nv), (10, .raw (.map (some mb))), (12, .int .i64 (ix : Nat)), (13, .str (numS v st ex x.1)), (14, .box 14 b14 0), (15, .int .i64 ((x.1 + 1 : Nat) : Int))])
                (fun x => [(46, .row nv Rw 1 9), (47, .set mb U), (3, .box bk [.sl .none 12 (kids.map enc)]), (14, .box b14 [.sl .none 1 (ints32 st), .sl .none 1 (ints32 ex)])]) (fun x => K - x.1) ⟨0, by omega⟩ [(46, 46), (47, 47), (3, 3), (14, 14)]
                ⟨⟨.refl _, .refl _, .refl _, .refl _, .refl _, .refl _, .refl _, .refl _, .refl _, .refl _, .refl _, .refl _, trivial⟩, rfl, rfl, rfl, rfl, rfl, rfl, rfl, rfl, rfl, trivial⟩ ?_
              rintro ⟨j, hj⟩
              dsimp only
              refine Tri.seq ?_
              refine Tri.seq ?_
              refine Tri.regionX ti_ok ?_
              conv => whnf
              refine .inr (XOp.setLookup 47 (kt := 9) (et := 4) rfl rfl (fun w => rfl) rfl rfl rfl ?_)
              refine Tri.cond _ rfl (fun hc => ?_) (fun hc => ?_)
              · refine Tri.skip ?_
                conv => whnf
                refine Tri.seq ?_
                refine Tri.block ?_
                refine Tri.region ti_ok ?_
                have hjU : numS v st ex j ∈ U := of_decide_eq_true hc
                have hjK : j < K := by
                  rcases Nat.lt_or_ge j K with h | h
                  · exact h
                  · have : j = K := by omega
                    subst this; exact absurd hjU hfr.2.1
                conv => whnf
                refine ⟨rfl, ?_⟩
                conv => whnf
                refine ⟨[wantD st ex, .int .i64 v, .int .i64 ((j + 1 : Nat) : Int)], _, fun _ => F126 v st ex (j + 1) (by omega) (by omega) (by omega), ⟨.refl _, .refl _, .refl _, trivial⟩, ?_⟩
                conv => whnf
                refine Tri.region ti_ok ?_
                conv => whnf
                refine .inl ⟨fun _ => by simp only [InR]; omega, ?_⟩
                conv => whnf
                exact ⟨⟨j + 1, by omega⟩, [(46, 46), (47, 47), (3, 3), (14, 14)], by show K - (j + 1) < K - j; omega, ⟨.refl _, .refl _, .refl _, .refl _, .refl _, .refl _, .refl _, .refl _, .refl _, .refl _, .refl _, .refl _, trivial⟩, rfl, rfl, rfl, rfl, rfl, rfl, rfl, rfl, rfl, trivial⟩
              · refine Tri.exit ?_
                conv => whnf
                refine Tri.regionX ti_ok ?_
                have hjU : numS v st ex j ∉ U := of_decide_eq_false hc
                have hjK : j = K := by
                  rcases Nat.lt_or_ge j K with h | h
                  · exact absurd (hfr.2.2 j h) hjU
                  · omega
                subst hjK
                conv => whnf
                refine .inr (XOp.setUpdate 47 (kt := 9) (et := 4) rfl rfl rfl rfl rfl rfl ?_)
                conv => whnf
                refine .inr (XOp.rowIndex ti_ok 46 rfl rfl rfl rfl rfl rfl rfl (by omega) (by rw [hrl]; omega) ?_)
                conv => whnf
                conv => whnf
                refine .inr (XOp.rowStore ti_ok 46 (i := ix) (by rw [Int.toNat_natCast]; rfl) rfl rfl rfl (by rw [hrl]; omega) rfl ?_)
                conv => whnf
                conv => whnf
                refine Tri.region ti_ok ?_
                conv => whnf
                refine .inl ⟨fun _ => by simp only [InR]; omega, ?_⟩
                conv => whnf
                exact ⟨⟨t + 1, by omega, hnew⟩, [(46, 46), (47, 47), (3, 3)], by show _ - (t + 1) < _ - t; omega, ⟨.refl _, .refl _, .refl _, .refl _, .refl _, .refl _, .refl _, .refl _, trivial⟩, rfl, rfl, congrArg (fun z => some (HObj.row nv z 1 9)) (by rw [← hpk2]; exact hrs), rfl,
                  congrArg (fun z => some (HObj.set mb z)) (by dsimp only; rw [hus, hpk2]), rfl, rfl, trivial⟩
            · have hv01 : ¬ (v = 0 ∨ v = 1) := by
                rintro (rfl | rfl) <;> cases hc
              have hpk2 : pickAt v kids L ix = k.name := by rw [hpk, pickG, if_neg hv01]
              refine Tri.skip ?_
              conv => whnf
              refine Tri.regionX ti_ok ?_
              conv => whnf
              refine .inr (XOp.setUpdate 47 (kt := 9) (et := 4) rfl rfl rfl rfl rfl rfl ?_)
              conv => whnf
              refine .inr (XOp.rowIndex ti_ok 46 rfl rfl rfl rfl rfl rfl rfl (by omega) (by rw [hrl]; omega) ?_)
              conv => whnf
              conv => whnf
              refine .inr (XOp.rowStore ti_ok 46 (i := ix) (by rw [Int.toNat_natCast]; rfl) rfl rfl rfl (by rw [hrl]; omega) rfl ?_)
              conv => whnf
              conv => whnf
              refine Tri.region ti_ok ?_
              conv => whnf
              refine .inl ⟨fun _ => by simp only [InR]; omega, ?_⟩
              conv => whnf
              exact ⟨⟨t + 1, by omega, hnew⟩, [(46, 46), (47, 47), (3, 3)], by show _ - (t + 1) < _ - t; omega, ⟨.refl _, .refl _, .refl _, .refl _, .refl _, .refl _, .refl _, .refl _, trivial⟩, rfl, rfl, congrArg (fun z => some (HObj.row nv z 1 9)) (by rw [← hpk2]; exact hrs), rfl,
                congrArg (fun z => some (HObj.set mb z)) (by dsimp only; rw [hus, hpk2]), rfl, rfl, trivial⟩
        · refine Tri.exit ?_
          conv => whnf
          have htn : t = L.length := by simp at hc; omega
          have hinc : inc (inOrder kids L) := order_inc hO fun j hj => hnei j hj (by omega)
          have hnd := order_nodup hO hinc
          have hR : namesR v kids = (namesU v kids, 0) := by rw [namesR, if_neg (by rw [hvo]; simp), if_neg (by omega), if_neg (by rw [hallb]; simp), if_neg (by simp [hnd])]
          have hrow2 : rowF kids.length L (pickAt v kids L) t = strs (namesU v kids) := by
            rw [htn]; exact rowF_all hO fun j hj => pickAt_for hO hinc hj
          rw [hrow2, hR]
          refine Tri.forgetK [(9, .raw nv)] [(46, .row nv (strs (namesU v kids)) 1 9)] [(46, 46)] ⟨⟨.refl _, trivial⟩, rfl, rfl, rfl, trivial⟩ ?_
          refine Tri.commitSt 46 9 rfl ?_
          refine Tri.seq ?_
          refine Tri.region ti_ok ?_
          conv => whnf
          refine Tri.ret ?_
          conv => whnf
          exact ⟨.refl _, .refl _, trivial⟩
end Go.Tame.V
/- Contracts: awake. By program (mkn12.py, mk.py). -/
namespace Go.Tame.V
open Go Go.Proofs
variable {W0 : World}
set_option maxRecDepth 10000
set_option linter.unusedVariables false
set_option linter.unusedSimpArgs false

def exTc : List D := [.str [], .int .i64 0, .str [], .str [], .int .i64 493, .int .i64 0, .int .i64 0, .int .i64 315532800, .int .i64 0, .int .i64 0, .sl .none 12 (exL.map enc), .nils]
theorem exT_le : DLe (.agg exTc) (encTop exT) := DLe.agg ⟨.refl _, .refl _, .refl _, .refl _, .refl _, .refl _, .refl _, .refl _, .refl _, .refl _, .refl _, DLe.nil, trivial⟩
def exJn : List (List UInt8) := [[97, 95, 98, 49, 46, 99], [97, 95, 98, 46, 99]]
def exVw : NV := ⟨[], 0, [], [], 0, 0, 0, 315532800, 0, 0, exS, []⟩
theorem few_ex : ∀ k ∈ exL, k.name.length < 1000000000 := by decide +kernel
theorem few_exJ : ∀ k ∈ exJ.map (exV 0), k.name.length < 1000000000 := by decide +kernel

theorem G15 (hL : LibOk W0) : DFun Tryz.prog W0 15 [] (.bool true) := by
  refine DFun.intro ti_ok Tryz.func15 rfl (by decide +kernel) Tryz.ntmps15 rfl fun Γ => ?_
  have hN : DFun Tryz.prog W0 29 [.int .i64 0, .sl .none 12 (exL.map enc)] (.tup [.sl .none 1 (strs exNames), .int .i64 0]) := by
    have := F105g hL 0 exL (by decide +kernel) few_ex
    rw [exL_eq] at this; exact this
  have hJ : DFun Tryz.prog W0 29 [.int .i64 1, .sl .none 12 ((exJ.map (exV 0)).map enc)] (.tup [.sl .none 1 (strs exJn), .int .i64 0]) := by
    have := F105g hL 1 (exJ.map (exV 0)) (by decide +kernel) few_exJ
    rw [exJ_eq] at this; exact this
  have hV : DFun Tryz.prog W0 17 [.int .i64 0, encTop exT] (.tup [encTop exVw, .int .i64 0]) := by
    have := F42 hL (namesG 0) 0 (fun h => namesGok hL h) exT (by decide +kernel) (fun _ => by decide +kernel)
    rw [exView] at this; exact this
  have hP : DFun Tryz.prog W0 20 [.int .i64 0, encTop exT, .str [114, 101, 97, 100, 109, 101]] (.tup [.str [82, 69, 65, 68, 77, 69, 49], .int .i64 0]) := by
    have := G20 hL (namesG 0) 0 (fun h => namesGok hL h) exT exT_fits (fun _ => by decide +kernel) [114, 101, 97, 100, 109, 101] (by decide)
    rw [exPath] at this; exact this
  have hS : DFun Tryz.prog W0 22 [.int .i64 0, encTop exT, .str [82, 69, 65, 68, 77, 69, 49]] (.tup [.str [114, 101, 97, 100, 109, 101], .int .i64 0]) := by
    have := G22 hL (namesG 0) 0 (fun h => namesGok hL h) exT exT_fits (fun _ => by decide +kernel) [82, 69, 65, 68, 77, 69, 49] (by decide)
    rw [exSource] at this; exact this
  have hI : DFun Tryz.prog W0 32 [.str [82, 69, 65, 68, 77, 69], .bool false] (.tup [.str [82, 69, 65, 68, 77, 69, 46, 59, 49], .int .i64 0]) := by
    have := G32 hL [82, 69, 65, 68, 77, 69] false (by decide)
    rw [exIdent] at this; exact this
  have hM : DFun Tryz.prog W0 33 [.str [82, 69, 65, 68, 77, 69, 46, 84, 88, 84, 59, 49], .bool false] (.tup [.str [82, 69, 65, 68, 77, 69, 46, 84, 88, 84], .int .i64 0]) := by
    have := G33 hL [82, 69, 65, 68, 77, 69, 46, 84, 88, 84, 59, 49] false (by decide)
    rw [exName] at this; exact this
  have hEq1 : DFun Tryz.prog W0 35 [.sl .none 1 (strs exNames), .sl .none 1 (strs exNames)] (.bool true) := by
    have := F23 (W0 := W0) exNames exNames (by decide) (by decide)
    rw [decide_eq_true rfl] at this; exact this
  have hEq2 : DFun Tryz.prog W0 35 [.sl .none 1 (strs exJn), .sl .none 1 (strs exJn)] (.bool true) := by
    have := F23 (W0 := W0) exJn exJn (by decide) (by decide)
    rw [decide_eq_true rfl] at this; exact this
  have hV1 : DFun Tryz.prog W0 31 [.int .i64 0, .str [65, 46, 66], .bool false] (.bool true) := by
    have := G31 hL [65, 46, 66] false (by decide)
    rw [exValid.1] at this; exact this
  have hV2 : DFun Tryz.prog W0 31 [.int .i64 0, .str [65, 46, 66], .bool true] (.bool false) := by
    have := G31 hL [65, 46, 66] true (by decide)
    rw [exValid.2] at this; exact this
  have hS1 : DFun Tryz.prog W0 58 [.int .i64 0, encTop exT, .int .i64 8] (.bool true) := by
    have := F106 (W0 := W0) 0 exT 8
    rw [exShow.1] at this; exact this
  have hS2 : DFun Tryz.prog W0 58 [.int .i64 0, encTop exT, .int .i64 9] (.bool false) := by
    have := F106 (W0 := W0) 0 exT 9
    rw [exShow.2] at this; exact this
  refine Tri.seq ?_
  refine Tri.region ti_ok ?_
  conv => whnf
  refine Tri.seq ?_
  refine Tri.region ti_ok ?_
  conv => whnf
  refine ⟨[], _, fun _ => G57, trivial, ?_⟩
  conv => whnf
  refine ⟨[.int .i64 0, .sl .none 12 (exL.map enc)], _, fun _ => hN, ⟨.refl _, .refl _, trivial⟩, ?_⟩
  conv => whnf
  refine Tri.seq ?_
  refine Tri.region ti_ok ?_
  conv => whnf
  refine ⟨[], _, fun _ => G57, trivial, ?_⟩
  conv => whnf
  intro b3
  conv => whnf
  refine ⟨rfl, ?_⟩
  conv => whnf
  refine Tri.seq ?_
  refine Tri.region ti_ok ?_
  conv => whnf
  refine ⟨rfl, ?_⟩
  conv => whnf
  refine ⟨[.int .i64 0, encTop exT], _, fun _ => hV, ⟨.refl _, exT_le, trivial⟩, ?_⟩
  conv => whnf
  intro b4
  conv => whnf
  refine ⟨rfl, ?_⟩
  conv => whnf
  refine Tri.seq ?_
  refine Tri.region ti_ok ?_
  conv => whnf
  refine ⟨rfl, ?_⟩
  conv => whnf
  refine ⟨[.int .i64 0, encTop exT, .str [114, 101, 97, 100, 109, 101]], _, fun _ => hP, ⟨.refl _, exT_le, .refl _, trivial⟩, ?_⟩
  conv => whnf
  refine Tri.seq ?_
  refine Tri.region ti_ok ?_
  conv => whnf
  refine ⟨rfl, ?_⟩
  conv => whnf
  refine ⟨[.int .i64 0, encTop exT, .str [82, 69, 65, 68, 77, 69, 49]], _, fun _ => hS, ⟨.refl _, exT_le, .refl _, trivial⟩, ?_⟩
  conv => whnf
  refine Tri.seq ?_
  refine Tri.region ti_ok ?_
  conv => whnf
  refine ⟨[.str [82, 69, 65, 68, 77, 69], .bool false], _, fun _ => hI, ⟨.refl _, .refl _, trivial⟩, ?_⟩
  conv => whnf
  refine Tri.seq ?_
  refine Tri.region ti_ok ?_
  conv => whnf
  refine ⟨[.str [82, 69, 65, 68, 77, 69, 46, 84, 88, 84, 59, 49], .bool false], _, fun _ => hM, ⟨.refl _, .refl _, trivial⟩, ?_⟩
  conv => whnf
  refine Tri.seq ?_
  refine Tri.region ti_ok ?_
  conv => whnf
  refine ⟨trivial, ?_⟩
  conv => whnf
  refine ⟨[.int .i64 1, .sl .none 12 ((exJ.map (exV 0)).map enc)], _, fun _ => hJ, ⟨.refl _, exSl_le .full exJ 0, trivial⟩, ?_⟩
  conv => whnf
  refine Tri.seq ?_
  refine Tri.regionG ti_ok ?_
  conv => whnf
  refine ⟨rfl, trivial, .inl ?_⟩
  conv => whnf
  refine ⟨rfl, trivial, .inl ?_⟩
  conv => whnf
  refine ⟨rfl, trivial, .inl ?_⟩
  conv => whnf
  refine ⟨rfl, ⟨_, rfl, rfl⟩, .inl ?_⟩
  conv => whnf
  refine ⟨rfl, ⟨_, rfl, rfl⟩, .inl ⟨trivial, ?_⟩⟩
  conv => whnf
  refine ⟨rfl, ⟨_, rfl, rfl⟩, .inl ⟨[.sl .none 1 (strs exNames), .sl .none 1 (strs exNames)], _, fun _ => hEq1, ⟨.refl _, DLe.full, trivial⟩, ?_⟩⟩
  conv => whnf
  refine ⟨rfl, trivial, .inl ?_⟩
  conv => whnf
  refine ⟨rfl, trivial, .inl ?_⟩
  conv => whnf
  refine ⟨rfl, ⟨_, rfl, rfl⟩, .inl ?_⟩
  conv => whnf
  refine ⟨rfl, ⟨_, rfl, rfl⟩, .inl ?_⟩
  conv => whnf
  refine ⟨rfl, trivial, .inl ?_⟩
  conv => whnf
  refine ⟨rfl, trivial, .inl ?_⟩
  conv => whnf
  refine ⟨rfl, ⟨_, rfl, rfl⟩, .inl ?_⟩
  conv => whnf
  refine ⟨rfl, ⟨_, rfl, rfl⟩, .inl ⟨rfl, ?_⟩⟩
  conv => whnf
  refine ⟨rfl, ⟨_, rfl, rfl⟩, .inl ?_⟩
  conv => whnf
  refine ⟨rfl, ⟨_, rfl, rfl⟩, .inl ?_⟩
  conv => whnf
  refine ⟨rfl, trivial, .inl ?_⟩
  conv => whnf
  refine ⟨rfl, trivial, .inl ?_⟩
  conv => whnf
  refine ⟨rfl, ⟨_, rfl, rfl⟩, .inl ?_⟩
  conv => whnf
  refine ⟨rfl, ⟨_, rfl, rfl⟩, .inl ⟨rfl, ?_⟩⟩
  conv => whnf
  refine ⟨rfl, ⟨_, rfl, rfl⟩, .inl ⟨fun _ => ⟨by decide, by decide⟩, ?_⟩⟩
  conv => whnf
  refine ⟨rfl, ⟨_, rfl, rfl⟩, .inl ?_⟩
  conv => whnf
  refine ⟨rfl, ⟨_, rfl, rfl⟩, .inl ⟨encTop exS[2], fun _ => rfl, ?_⟩⟩
  conv => whnf
  refine ⟨rfl, ⟨_, rfl, rfl⟩, .inl ?_⟩
  conv => whnf
  refine ⟨rfl, trivial, .inl ?_⟩
  conv => whnf
  refine ⟨rfl, trivial, .inl ?_⟩
  conv => whnf
  refine ⟨rfl, ⟨_, rfl, rfl⟩, .inl ?_⟩
  conv => whnf
  refine ⟨rfl, ⟨_, rfl, rfl⟩, .inl ⟨rfl, ?_⟩⟩
  conv => whnf
  refine ⟨rfl, ⟨_, rfl, rfl⟩, .inl ?_⟩
  conv => whnf
  refine ⟨rfl, trivial, .inl ?_⟩
  conv => whnf
  refine ⟨rfl, trivial, .inl ?_⟩
  conv => whnf
  refine ⟨rfl, ⟨_, rfl, rfl⟩, .inl ?_⟩
  conv => whnf
  refine ⟨rfl, ⟨_, rfl, rfl⟩, .inl ?_⟩
  conv => whnf
  refine ⟨rfl, trivial, .inl ?_⟩
  conv => whnf
  refine ⟨rfl, trivial, .inl ?_⟩
  conv => whnf
  refine ⟨rfl, ⟨_, rfl, rfl⟩, .inl ?_⟩
  conv => whnf
  refine ⟨rfl, ⟨_, rfl, rfl⟩, .inl ?_⟩
  conv => whnf
  refine ⟨rfl, trivial, .inl ?_⟩
  conv => whnf
  refine ⟨rfl, trivial, .inl ?_⟩
  conv => whnf
  refine ⟨rfl, ⟨_, rfl, rfl⟩, .inl ?_⟩
  conv => whnf
  refine ⟨rfl, ⟨_, rfl, rfl⟩, .inl ?_⟩
  conv => whnf
  refine ⟨rfl, trivial, .inl ?_⟩
  conv => whnf
  refine ⟨rfl, trivial, .inl ?_⟩
  conv => whnf
  refine ⟨rfl, ⟨_, rfl, rfl⟩, .inl ?_⟩
  conv => whnf
  refine ⟨rfl, ⟨_, rfl, rfl⟩, .inl ?_⟩
  conv => whnf
  refine ⟨rfl, trivial, .inl ?_⟩
  conv => whnf
  refine ⟨rfl, trivial, .inl ?_⟩
  conv => whnf
  refine ⟨rfl, ⟨_, rfl, rfl⟩, .inl ?_⟩
  conv => whnf
  refine ⟨rfl, ⟨_, rfl, rfl⟩, .inl ?_⟩
  conv => whnf
  refine ⟨rfl, trivial, .inl ?_⟩
  conv => whnf
  refine ⟨rfl, trivial, .inl ?_⟩
  conv => whnf
  refine ⟨rfl, ⟨_, rfl, rfl⟩, .inl ?_⟩
  conv => whnf
  refine ⟨rfl, ⟨_, rfl, rfl⟩, .inl ?_⟩
  conv => whnf
  refine ⟨rfl, trivial, .inl ?_⟩
  conv => whnf
  refine ⟨rfl, trivial, .inl ?_⟩
  conv => whnf
  refine ⟨rfl, ⟨_, rfl, rfl⟩, .inl ?_⟩
  conv => whnf
  refine ⟨rfl, ⟨_, rfl, rfl⟩, .inl ?_⟩
  conv => whnf
  refine ⟨rfl, trivial, .inl ?_⟩
  conv => whnf
  refine ⟨rfl, trivial, .inl ?_⟩
  conv => whnf
  refine ⟨rfl, ⟨_, rfl, rfl⟩, .inl ?_⟩
  conv => whnf
  refine ⟨rfl, ⟨_, rfl, rfl⟩, .inl ?_⟩
  conv => whnf
  refine ⟨rfl, trivial, .inl ?_⟩
  conv => whnf
  refine ⟨rfl, trivial, .inl ?_⟩
  conv => whnf
  refine ⟨rfl, ⟨_, rfl, rfl⟩, .inl ?_⟩
  conv => whnf
  refine ⟨rfl, ⟨_, rfl, rfl⟩, .inl ?_⟩
  conv => whnf
  refine ⟨rfl, trivial, .inl ?_⟩
  conv => whnf
  refine ⟨rfl, trivial, .inl ?_⟩
  conv => whnf
  refine ⟨rfl, ⟨_, rfl, rfl⟩, .inl ?_⟩
  conv => whnf
  refine ⟨rfl, ⟨_, rfl, rfl⟩, .inl ⟨trivial, ?_⟩⟩
  conv => whnf
  refine ⟨rfl, ⟨_, rfl, rfl⟩, .inl ⟨[.sl .none 1 (strs exJn), .sl .none 1 (strs exJn)], _, fun _ => hEq2, ⟨.refl _, DLe.full, trivial⟩, ?_⟩⟩
  conv => whnf
  refine ⟨rfl, trivial, .inl ?_⟩
  conv => whnf
  refine ⟨rfl, trivial, .inl ?_⟩
  conv => whnf
  refine ⟨rfl, ⟨_, rfl, rfl⟩, .inl ⟨[.int .i64 0, .str [65, 46, 66], .bool false], _, fun _ => hV1, ⟨.refl _, .refl _, .refl _, trivial⟩, ?_⟩⟩
  conv => whnf
  refine ⟨rfl, trivial, .inl ?_⟩
  conv => whnf
  refine ⟨rfl, trivial, .inl ?_⟩
  conv => whnf
  refine ⟨rfl, ⟨_, rfl, rfl⟩, .inl ⟨[.int .i64 0, .str [65, 46, 66], .bool true], _, fun _ => hV2, ⟨.refl _, .refl _, .refl _, trivial⟩, ?_⟩⟩
  conv => whnf
  refine ⟨rfl, ⟨_, rfl, rfl⟩, .inl ?_⟩
  conv => whnf
  refine ⟨rfl, trivial, .inl ?_⟩
  conv => whnf
  refine ⟨rfl, trivial, .inl ?_⟩
  conv => whnf
  refine ⟨rfl, ⟨_, rfl, rfl⟩, .inl ⟨rfl, ?_⟩⟩
  conv => whnf
  refine ⟨rfl, ⟨_, rfl, rfl⟩, .inl ⟨[.int .i64 0, encTop exT, .int .i64 8], _, fun _ => hS1, ⟨.refl _, exT_le, .refl _, trivial⟩, ?_⟩⟩
  conv => whnf
  refine ⟨rfl, trivial, .inl ?_⟩
  conv => whnf
  refine ⟨rfl, trivial, .inl ?_⟩
  conv => whnf
  refine ⟨rfl, ⟨_, rfl, rfl⟩, .inl ⟨rfl, ?_⟩⟩
  conv => whnf
  refine ⟨rfl, ⟨_, rfl, rfl⟩, .inl ⟨[.int .i64 0, encTop exT, .int .i64 9], _, fun _ => hS2, ⟨.refl _, exT_le, .refl _, trivial⟩, ?_⟩⟩
  conv => whnf
  refine ⟨rfl, ⟨_, rfl, rfl⟩, .inl ?_⟩
  conv => whnf
  refine ⟨rfl, trivial, .inl ?_⟩
  conv => whnf
  refine ⟨rfl, trivial, .inl ?_⟩
  refine Tri.ret ?_
  conv => whnf
  exact .refl _
end Go.Tame.V
/- The readings of this seat's arguments, as data by value; what is laid. -/
namespace Go.Tame.V
open Go Go.Proofs Go.RowKit Go.ChangeShapes Go.Deep Go.WideShapes
open YtpkeldhgfdeebaaGreatDoor (Rows.uptoBulk Rows.uptoBulkAll)
set_option maxRecDepth 100000
variable {H : Type} {enc0 : TypeId × Value → H} {W : World}

abbrev bulk (d : DataW H) : Nat := YtpkeldhgfdeebaaGreatDoor.Rows.uptoBulk d
abbrev bulkA (d : List (DataW H)) : Nat := YtpkeldhgfdeebaaGreatDoor.Rows.uptoBulkAll d

theorem sum_good {α : Type} {m : α → Nat} {c : Nat} : ∀ {l : List α} {ds : List (DataW H)}, ds.length = l.length → (∀ (i : Nat) a y, l[i]? = some a → ds[i]? = some y → m a ≤ c * bulk y) → (l.map m).sum ≤ c * bulkA ds
  | [], [], _, _ => by simp
  | a :: l, y :: ds, hl, h => by
    have h1 := h 0 a y rfl rfl
    have h2 := sum_good (l := l) (ds := ds) (by simpa using hl) fun i a y h3 h4 => h (i + 1) a y (by simpa using h3) (by simpa using h4)
    have h3 : c * bulkA (y :: ds) = c * bulk y + c * bulkA ds := by simp only [bulkA, bulk, YtpkeldhgfdeebaaGreatDoor.Rows.uptoBulkAll, Nat.mul_add]
    rw [h3, List.map_cons, List.sum_cons]
    omega
theorem sum_goodS {α : Type} {m : α → Nat} {c : Nat} {l : List α} {d : DataW H} (h : goodS (fun a y => m a ≤ c * bulk y) l d) : (l.map m).sum ≤ c * bulk d := by
  rcases h with ⟨rfl, rfl⟩ | ⟨ds, sp, rfl, hl, hg⟩
  · simp
  · have := sum_good hl hg
    have h3 : c * bulk (.slice ds sp) = c * bulkA ds + c * bulkA sp + c * 1 := by simp only [bulkA, bulk, YtpkeldhgfdeebaaGreatDoor.Rows.uptoBulk, Nat.mul_add]
    rw [h3]
    omega
theorem szS_sum : ∀ l : List SV, szS l = (l.map fun s => 2 + s.name.length + s.target.length).sum
  | [] => rfl
  | s :: r => by simp only [szS, List.map_cons, List.sum_cons, szS_sum r]
theorem szL_sum : ∀ l : List NV, szL l = (l.map fun n => 2 * n.name.length + 2 + sz n).sum
  | [] => by simp [szL]
  | s :: r => by simp only [szL, List.map_cons, List.sum_cons, szL_sum r]

theorem rd_stream (n : Nat) : Rd enc0 Tryz.prog W n 87 encS (fun s d => 2 + s.name.length + s.target.length ≤ 1 * bulk d) := by
  intro cs x h
  obtain ⟨xs, m, rfl, hx, hcl, hxl, hf⟩ := trod_fields Tryz.underlying87 (by kernel_rfl) (by kernel_rfl) h
  match cs, hcl, xs, hxl with
  | [c0, c1], _, [y0, y1], _ =>
    obtain ⟨s0, r0, e0, _⟩ := Rd.str (enc := enc0) (W := W) (n := m) Tryz.underlying9 [c0] y0 (hf 0 _ c0 y0 rfl rfl rfl)
    obtain ⟨s1, r1, e1, _⟩ := Rd.str (enc := enc0) (W := W) (n := m) Tryz.underlying9 [c1] y1 (hf 1 _ c1 y1 rfl rfl rfl)
    refine ⟨⟨s0, s1⟩, .cons r0.head (.cons r1.head (.nil _ _)), ?_⟩
    rw [hx]
    simp only [List.map_cons, List.map_nil, e0, e1, bulk, YtpkeldhgfdeebaaGreatDoor.Rows.uptoBulk, YtpkeldhgfdeebaaGreatDoor.Rows.uptoBulkAll]
    omega

theorem rd_node : ∀ (N n : Nat), n < N → Rd enc0 Tryz.prog W n 25 enc (fun s d => 2 * s.name.length + 2 + sz s ≤ 2 * bulk d)
  | 0, n, hn => absurd hn (Nat.not_lt_zero _)
  | N + 1, n, hn => by
    intro cs x h
    obtain ⟨xs, m, rfl, hx, hcl, hxl, hf⟩ := trod_fields Tryz.underlying25 (by kernel_rfl) (by kernel_rfl) h
    match cs, hcl, xs, hxl with
    | [c0, c1, c2, c3, c4, c5, c6, c7, c8, c9, c10, c11], _, [y0, y1, y2, y3, y4, y5, y6, y7, y8, y9, y10, y11], _ =>
      obtain ⟨s0, r0, e0, _⟩ := Rd.str (enc := enc0) (W := W) (n := m) Tryz.underlying9 [c0] y0 (hf 0 _ c0 y0 rfl rfl rfl)
      obtain ⟨s1, r1, e1, _⟩ := Rd.int (enc := enc0) (W := W) (n := m) Tryz.underlying3 [c1] y1 (hf 1 _ c1 y1 rfl rfl rfl)
      obtain ⟨s2, r2, e2, _⟩ := Rd.str (enc := enc0) (W := W) (n := m) Tryz.underlying9 [c2] y2 (hf 2 _ c2 y2 rfl rfl rfl)
      obtain ⟨s3, r3, e3, _⟩ := Rd.str (enc := enc0) (W := W) (n := m) Tryz.underlying9 [c3] y3 (hf 3 _ c3 y3 rfl rfl rfl)
      obtain ⟨s4, r4, e4, _⟩ := Rd.int (enc := enc0) (W := W) (n := m) Tryz.underlying3 [c4] y4 (hf 4 _ c4 y4 rfl rfl rfl)
      obtain ⟨s5, r5, e5, _⟩ := Rd.int (enc := enc0) (W := W) (n := m) Tryz.underlying3 [c5] y5 (hf 5 _ c5 y5 rfl rfl rfl)
      obtain ⟨s6, r6, e6, _⟩ := Rd.int (enc := enc0) (W := W) (n := m) Tryz.underlying3 [c6] y6 (hf 6 _ c6 y6 rfl rfl rfl)
      obtain ⟨s7, r7, e7, _⟩ := Rd.int (enc := enc0) (W := W) (n := m) Tryz.underlying3 [c7] y7 (hf 7 _ c7 y7 rfl rfl rfl)
      obtain ⟨s8, r8, e8, _⟩ := Rd.int (enc := enc0) (W := W) (n := m) Tryz.underlying3 [c8] y8 (hf 8 _ c8 y8 rfl rfl rfl)
      obtain ⟨s9, r9, e9, _⟩ := Rd.int (enc := enc0) (W := W) (n := m) Tryz.underlying3 [c9] y9 (hf 9 _ c9 y9 rfl rfl rfl)
      obtain ⟨ks, r10, e10⟩ := Rd.slice (enc := enc0) (W := W) (fuel := m) Tryz.underlying22 (k := 12) (f := enc) (by kernel_rfl) (by omega) (fun a => by rw [enc_eq]; exact ⟨rfl, rfl⟩) (fun m' hm' => rd_node N m' (by omega)) [c10] y10 (hf 10 _ c10 y10 rfl rfl rfl)
      obtain ⟨ss, r11, e11⟩ := Rd.slice (enc := enc0) (W := W) (fuel := m) Tryz.underlying23 (k := 2) (f := encS) (by kernel_rfl) (by omega) (fun a => ⟨rfl, rfl⟩) (fun m' _ => rd_stream m') [c11] y11 (hf 11 _ c11 y11 rfl rfl rfl)
      refine ⟨⟨s0, s1, s2, s3, s4, s5, s6, s7, s8, s9, ks, ss⟩, ?_, ?_⟩
      · rw [enc_eq]
        exact .cons r0.head (.cons r1.head (.cons r2.head (.cons r3.head (.cons r4.head (.cons r5.head (.cons r6.head (.cons r7.head (.cons r8.head (.cons r9.head (.cons r10.head (.cons r11.head (.nil _ _))))))))))))
      · have h10 := sum_goodS e10
        have h11 := sum_goodS e11
        rw [← szL_sum] at h10
        rw [← szS_sum] at h11
        rw [hx]
        dsimp only
        rw [sz_eq]
        simp only [List.map_cons, List.map_nil, e0, e1, e2, e3, e4, e5, e6, e7, e8, e9, bulk, YtpkeldhgfdeebaaGreatDoor.Rows.uptoBulk, YtpkeldhgfdeebaaGreatDoor.Rows.uptoBulkAll] at h10 h11 ⊢
        omega

/-- A node that came in. -/
theorem open_node {v : Value} {d : DataW H} {p : List MemPlace} {base : Nat} (hv : Value.okWide Tryz.prog W .any base 25 v) (h : DataW.Trod enc0 Tryz.prog W 0 (fun _ => true) true 25 v d p) :
    ∃ n : NV, Rep W (allC W) (encTop n) v ∧ 2 * n.name.length + 2 + sz n ≤ 2 * bulk d := by
  obtain ⟨fuel, hf⟩ := h
  obtain ⟨cs, rfl, _⟩ := okWide_struct Tryz.underlying25 hv
  obtain ⟨n, hr, hg⟩ := rd_node (enc0 := enc0) (W := W) _ fuel (Nat.lt_succ_self _) _ _ hf
  rw [enc_eq] at hr
  obtain ⟨l⟩ := cs
  exact ⟨n, .agg _ _ hr.1 hr.2, hg⟩

theorem callsTrue {f : Nat} {ds : List D} {args : Array Value} (h : DFun Tryz.prog W f ds (.bool true)) (hr : RepL W (allC W) ds args.toList) :
    Calls Tryz.prog f args W fun e w' => e = .returned (.bool true) ∧ Below W.heap.size W w' := by
  obtain ⟨l⟩ := args
  refine (h.2 W (allC W) l (Below.refl _ _) hr).mono ?_
  rintro e w' ⟨v, C', rfl, hv, hs⟩
  rw [hv.bool_inv]
  exact ⟨rfl, Base.step (Below.refl _ _) hs fun _ h => h.elim⟩

theorem laidOut : laidOutB Tryz.prog = true := by kernel_rfl
theorem stays_all {W' : World} (hb : Below W.heap.size W W') {sp : Nat → Bool} : ∀ {ts : List TypeId} {vs : List Value} {ds : List (DataW H)} {ps : List MemPlace},
    (∀ t ∈ ts, Tryz.prog.readableRec t = true ∧ t < Tryz.prog.types.size) → DataW.TrodAll enc0 Tryz.prog W 0 (fun _ => true) true ts vs ds ps → (∀ x ∈ ps, x.block < W.heap.size) → (∀ x ∈ ps, sp x.block = true) →
    DataW.TrodAll enc0 Tryz.prog W' 0 sp true ts vs ds ps
  | [], [], [], _, _, h, _, _ => h
  | t :: ts, v :: vs, d :: ds, _, ht, ⟨p, q, h1, h2, e⟩, hlt, hsp => by
    subst e
    exact ⟨p, q, stays laidOut (ht t List.mem_cons_self).1 (ht t List.mem_cons_self).2 h1 hb (fun x hx => hlt x (by simp [hx])) sp (fun x hx => hsp x (by simp [hx])),
      stays_all hb (fun t h => ht t (List.mem_cons_of_mem _ h)) h2 (fun x hx => hlt x (by simp [hx])) (fun x hx => hsp x (by simp [hx])), rfl⟩

def laidList : List (String × DataW Unit) := YtpkeldhgfdeebaaGreatDoor.Rows.namingViewsRow.laid
theorem libOk (hL : laidMetH Tryz.prog laidList W) (hsh : W.ShapedOpen Tryz.prog) : LibOk W := by
  have hL' : laidMet Tryz.prog laidList W := hL
  refine ⟨utf8Tabs_of_reads (ρ := Tryz.lays260_ren) Tryz.lays260 ⟨by kernel_rfl, by kernel_rfl, by kernel_rfl, by kernel_rfl, by kernel_rfl, by kernel_rfl, by kernel_rfl⟩
    (Lib.laidMet.reads hL' (.tail _ (.tail _ (.tail _ (.tail _ (.head _)))))) (Lib.laidMet.reads hL' (.tail _ (.tail _ (.tail _ (.head _))))), ?_, ?_⟩
  · obtain ⟨h1, _⟩ := hsh
    obtain ⟨cs, hcs, hsz, hrow⟩ := h1 0 #[.int .i64 0] 3 (by decide +kernel) (by kernel_rfl)
    obtain ⟨ts, hts, _, hcell⟩ := hrow (by kernel_rfl)
    have hts' : ts = [3] := by
      have : Tryz.prog.cellTypes Tryz.prog.depth 3 = some [3] := by kernel_rfl
      exact Option.some.inj (hts.symm.trans this)
    subst hts'
    have h0 : cs[0]? = some (cs[0]'(by rw [hsz]; decide)) := Array.getElem?_eq_getElem _
    obtain ⟨u, hu, hok⟩ := hcell 0 _ h0
    have hu' : u = 3 := by simpa using hu.symm
    subst hu'
    have hc : W.cell? ⟨0, 0, none⟩ = some (cs[0]'(by rw [hsz]; decide)) := by
      simp only [World.cell?, hcs]
      simpa using h0
    generalize cs[0]'(by rw [hsz]; decide) = v at hok hc
    unfold Cell.ok at hok
    rw [Tryz.underlying3] at hok
    cases v with
    | int k n => obtain ⟨rfl, _⟩ := hok; exact ⟨n, hc⟩
    | _ => exact hok.elim
  · exact Lib.tabIs_of_head (rest := _) (g := 3) (t := 237) (e := 165) (n := 20) (by kernel_rfl) (by kernel_rfl) (by kernel_rfl) (by kernel_rfl) (by kernel_rfl) (by kernel_rfl) hL'.tail.tail
end Go.Tame.V
/- The statement on Format, Count and Below: from the contract to the card. -/
namespace Go.Tame.V
open Go Go.Proofs Go.RowKit Go.ChangeShapes Go.Deep Go.WideShapes Go.ChangeAt
open YtpkeldhgfdeebaaGreatDoor
set_option maxRecDepth 100000

theorem own : ownKnob Tryz.prog.godebug = none := by kernel_rfl

/-- A world that holds what is laid. -/
noncomputable def laidWorld (os : Os) : World :=
  let w0 := World.holding Tryz.prog os ⟨#[], #[], []⟩
  let put (h : Array Obj) (g : Nat) (cs : Array Value) : Array Obj := h.modify g fun
    | .cells _ t frozen => .cells cs t frozen
    | o => o
  let h1 := put w0.heap 1 (Lib.firstTab.map fun z => Value.int .u8 z).toArray
  let h2 := put h1 2 ((List.range 16).flatMap fun i => [Value.int .u8 (Lib.accLo i), Value.int .u8 (Lib.accHi i)]).toArray
  let h3 := put h2 3 (Lib.pow10Tab.map fun z => Value.int .u64 z).toArray
  let h4 := put h3 4 ([0, 1, 28, 2, 29, 14, 24, 3, 30, 22, 20, 15, 25, 17, 4, 8, 31, 27, 13, 23, 21, 19, 16, 7, 26, 12, 18, 6, 11, 5, 10, 9].map fun z => Value.int .u8 z).toArray
  let h5 := put h4 5 ([0, 1, 56, 2, 57, 49, 28, 3, 61, 58, 42, 50, 38, 29, 17, 4, 62, 47, 59, 36, 45, 43, 51, 22, 53, 39, 33, 30, 24, 18, 12, 5, 63, 55, 48, 27, 60, 41, 37, 16, 46, 35, 44, 21, 52, 32, 23, 11, 54, 26, 40, 15, 34, 20, 31, 10, 25, 14, 19, 9, 13, 8, 7, 6].map fun z => Value.int .u8 z).toArray
  { w0 with heap := h5 }
theorem laid_met (os : Os) (args : Array Value) : laidMet Tryz.prog laidList ((laidWorld os).forCall (fun _ _ => 0) ⟨#[], args, []⟩).memory :=
  laidMet_of_run' 8 (by kernel_rfl) (by kernel_rfl)
end Go.Tame.V
