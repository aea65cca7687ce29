/- A program logic of my own over the model, and contracts of this program's functions by it: part 5. No conditions of its own: each theorem states its own. -/
import Derived.Test.YtpkeldhgfdeebaaGreatDoorL4
import Derived.Test.YtpkeldhgfdeebaaGreatDoorCards
import Derived.Test.YtpkeldhgfdeebaaGreatDoorTie
import Derived.ProofKit
import Derived.OpenShut
import Derived.Deep.DeepHandedRow
import Derived.Lib.LaidTab
import Derived.Lib.LaidU8
import Derived.Stop.LaidErr
set_option linter.unnecessarySimpa false
set_option linter.unusedSimpArgs false
set_option linter.unusedVariables false
/- Contracts: identifiers. By program (mk.py). -/
namespace Go.Tame.V
open Go Go.Proofs
variable {W0 : World}
set_option maxRecDepth 10000
set_option linter.unusedVariables false
set_option linter.unusedSimpArgs false

theorem G81 (hL : LibOk W0) (s p : List UInt8) (hs : s.length < 4294967281) : DFun Tryz.prog W0 81 [.str s, .str p] (.tup [.str (Lib.cut s p).1, .str (Lib.cut s p).2.1, .bool (Lib.cut s p).2.2]) := by
  obtain ⟨m, hm⟩ := hL.maxlen
  exact .lift (callable Tryz.func81 rfl (by decide +kernel)) rfl fun w hb => (Tryz.strings_Cut ⟨⟨s⟩⟩ ⟨⟨p⟩⟩ m w hs (cell_base hb hm)).mono fun e w' ⟨he, n, hw⟩ => by
    subst hw
    exact ⟨_, he, fun C => .tup _ _ rfl fun i d v hd hv => by
      match i with
      | 0 => cases hd; cases hv; exact .str _
      | 1 => cases hd; cases hv; exact .str _
      | 2 => cases hd; cases hv; exact .bool _
      | i + 3 => simp at hd, ⟨rfl, rfl, rfl, Nat.le_refl _, fun _ _ => rfl⟩⟩
def cutSuf (s p : List UInt8) : List UInt8 × Bool := if Lib.hasSuffix s p then (s.take (s.length - p.length), true) else (s, false)
def isDB (s : List UInt8) (m : Int) : Bool := decide ((1 : Int) ≤ s.length) && (decide ((s.length : Int) ≤ m) && dStr s)
theorem G82 (s : List UInt8) (m : Int) : DFun Tryz.prog W0 82 [.str s, .int .i64 m] (.bool (isDB s m)) := by
  refine DFun.intro ti_ok Tryz.func82 rfl (by decide +kernel) Tryz.ntmps82 rfl fun Γ => ?_
  refine Tri.seq ?_
  refine Tri.region ti_ok ?_
  conv => whnf
  refine Tri.seq ?_
  refine Tri.region ti_ok ?_
  conv => whnf
  refine ⟨fun h => h, ?_⟩
  conv => whnf
  refine ⟨fun h => h, ?_⟩
  conv => whnf
  refine ⟨fun h => h, ?_⟩
  conv => whnf
  refine ⟨fun h0 h => by first | exact h | (rw [h]; rfl) | (rw [h0, h]; rfl), ?_⟩
  conv => whnf
  refine ⟨fun h => h, ?_⟩
  conv => whnf
  refine ⟨[.str s], _, fun h => F171 s, ⟨.refl _, trivial⟩, ?_⟩
  conv => whnf
  refine ⟨fun h0 h => by first | exact h | (rw [h]; rfl) | (rw [h0, h]; rfl), ?_⟩
  conv => whnf
  refine Tri.ret ?_
  conv => whnf
  refine DLe.of_eq (congrArg D.bool ?_)
  unfold isDB
  by_cases h1 : (1 : Int) ≤ s.length <;> by_cases h2 : (s.length : Int) ≤ m <;> simp [h1, h2]
/-- Whether a text can be a name in the ISO view. -/
def validI (s : List UInt8) (dir : Bool) : Bool := !((Lib.cut s [46]).2.2 && (dir || !isDB (Lib.cut s [46]).2.1 3)) && isDB (Lib.cut s [46]).1 8
theorem G31 (hL : LibOk W0) (s : List UInt8) (dir : Bool) (hs : s.length < 1000000000) : DFun Tryz.prog W0 31 [.int .i64 0, .str s, .bool dir] (.bool (validI s dir)) := by
  refine DFun.intro ti_ok Tryz.func31 rfl (by decide +kernel) Tryz.ntmps31 rfl fun Γ => ?_
  refine Tri.seq ?_
  refine Tri.region ti_ok ?_
  conv => whnf
  refine Tri.seq ?_
  refine Tri.seq ?_
  refine Tri.region ti_ok ?_
  conv => whnf
  refine Tri.block ?_
  refine Tri.seq ?_
  refine Tri.region ti_ok ?_
  conv => whnf
  refine Tri.cond true rfl (fun hc => ?_) (fun hc => by cases hc)
  · refine Tri.seq ?_
    refine Tri.region ti_ok ?_
    conv => whnf
    refine ⟨[.str s, .str [46]], _, fun _ => G81 hL s [46] (by omega), ⟨.refl _, .refl _, trivial⟩, ?_⟩
    conv => whnf
    refine Tri.seq ?_
    refine Tri.seq ?_
    refine Tri.region ti_ok ?_
    conv => whnf
    refine ⟨fun h => h, ?_⟩
    conv => whnf
    refine ⟨fun h => h, ?_⟩
    conv => whnf
    refine ⟨[.str (Lib.cut s [46]).2.1, .int .i64 3], _, fun h => G82 _ 3, ⟨.refl _, .refl _, trivial⟩, ?_⟩
    conv => whnf
    refine ⟨fun h => h, ?_⟩
    conv => whnf
    refine ⟨fun h => h, ?_⟩
    conv => whnf
    refine ⟨fun h0 h => by first | exact h | (rw [h]; rfl) | (rw [h0, h]; rfl), ?_⟩
    conv => whnf
    refine ⟨fun h0 h => by first | exact h | (rw [h]; rfl) | (rw [h0, h]; rfl), ?_⟩
    conv => whnf
    refine Tri.cond _ rfl (fun hc => ?_) (fun hc => ?_)
    · refine Tri.seq ?_
      refine Tri.region ti_ok ?_
      conv => whnf
      refine Tri.ret ?_
      conv => whnf
      have hc' : ((Lib.cut s [46]).2.2 && (dir || !isDB (Lib.cut s [46]).2.1 3)) = true := by revert hc; cases (Lib.cut s [46]).2.2 <;> cases dir <;> simp
      refine DLe.of_eq (congrArg D.bool ?_)
      rw [validI, hc']; rfl
    · refine Tri.skip ?_
      conv => whnf
      refine Tri.seq ?_
      refine Tri.region ti_ok ?_
      conv => whnf
      refine ⟨[.str (Lib.cut s [46]).1, .int .i64 8], _, fun _ => G82 _ 8, ⟨.refl _, .refl _, trivial⟩, ?_⟩
      conv => whnf
      refine Tri.ret ?_
      conv => whnf
      have hc' : ((Lib.cut s [46]).2.2 && (dir || !isDB (Lib.cut s [46]).2.1 3)) = false := by revert hc; cases (Lib.cut s [46]).2.2 <;> cases dir <;> simp
      refine DLe.of_eq (congrArg D.bool ?_)
      rw [validI, hc']; rfl
def hasDot (s : List UInt8) : Bool := decide (0 ≤ Lib.indexByte s 46)
/-- What Identifier returns. -/
def identI (s : List UInt8) (dir : Bool) : List UInt8 × Int :=
  if validI s dir = true then if dir = true then (s, 0) else if hasDot s = true then (s ++ [59, 49], 0) else (s ++ [46, 59, 49], 0) else ([], 4)
theorem G32 (hL : LibOk W0) (s : List UInt8) (dir : Bool) (hs : s.length < 1000000000) : DFun Tryz.prog W0 32 [.str s, .bool dir] (.tup [.str (identI s dir).1, .int .i64 (identI s dir).2]) := by
  refine DFun.intro ti_ok Tryz.func32 rfl (by decide +kernel) Tryz.ntmps32 rfl fun Γ => ?_
  refine Tri.seq ?_
  refine Tri.region ti_ok ?_
  conv => whnf
  refine Tri.seq ?_
  refine Tri.seq ?_
  refine Tri.region ti_ok ?_
  conv => whnf
  refine ⟨[.int .i64 0, .str s, .bool dir], _, fun _ => G31 hL s dir hs, ⟨.refl _, .refl _, .refl _, trivial⟩, ?_⟩
  conv => whnf
  refine Tri.cond _ rfl (fun hc => ?_) (fun hc => ?_)
  · refine Tri.seq ?_
    refine Tri.region ti_ok ?_
    conv => whnf
    refine Tri.ret ?_
    conv => whnf
    have h : ¬ validI s dir = true := by simpa using hc
    rw [identI, if_neg h]
    exact ⟨.refl _, .refl _, trivial⟩
  · refine Tri.skip ?_
    conv => whnf
    refine Tri.seq ?_
    refine Tri.block ?_
    refine Tri.seq ?_
    have h : validI s dir = true := by simpa using hc
    refine Tri.region ti_ok ?_
    conv => whnf
    refine Tri.cond dir rfl (fun hd => ?_) (fun hd => ?_)
    · refine Tri.seq ?_
      refine Tri.region ti_ok ?_
      conv => whnf
      refine Tri.ret ?_
      conv => whnf
      rw [identI, if_pos h, if_pos hd]
      exact ⟨.refl _, .refl _, trivial⟩
    · refine Tri.seq ?_
      refine Tri.region ti_ok ?_
      conv => whnf
      refine ⟨[.str s, .str [46]], _, fun _ => F119 s 46, ⟨.refl _, .refl _, trivial⟩, ?_⟩
      conv => whnf
      refine Tri.cond (hasDot s) rfl (fun h2 => ?_) (fun h2 => ?_)
      · refine Tri.seq ?_
        refine Tri.region ti_ok ?_
        conv => whnf
        refine ⟨fun _ => by simp; omega, ?_⟩
        conv => whnf
        refine Tri.ret ?_
        conv => whnf
        rw [identI, if_pos h, if_neg (by rw [hd]; simp), if_pos h2]
        exact ⟨.refl _, .refl _, trivial⟩
      · refine Tri.skip ?_
        conv => whnf
        refine Tri.seq ?_
        refine Tri.region ti_ok ?_
        conv => whnf
        refine ⟨fun _ => by simp; omega, ?_⟩
        conv => whnf
        refine Tri.ret ?_
        conv => whnf
        rw [identI, if_pos h, if_neg (by rw [hd]; simp), if_neg (by rw [h2]; simp)]
        exact ⟨.refl _, .refl _, trivial⟩
def chkI (id m : List UInt8) (dir : Bool) : List UInt8 × Int := if (identI m dir).2 = 0 ∧ (identI m dir).1 = id then (m, 0) else ([], 4)
/-- What Name returns. -/
def nameI (id : List UInt8) (dir : Bool) : List UInt8 × Int :=
  if dir = true then chkI id id dir else if (cutSuf id [59, 49]).2 = true then chkI id (Lib.trimSuffix (cutSuf id [59, 49]).1 [46]) dir else ([], 4)
end Go.Tame.V
/- The chapter's example, evaluated. Plain. -/
namespace Go.Tame.V
open Go Go.Proofs
set_option maxRecDepth 10000
set_option linter.unusedVariables false
set_option linter.unusedSimpArgs false

end Go.Tame.V
/- Contracts: Names, of any kids. By program (mk66.py, mk.py). -/
namespace Go.Tame.V
open Go Go.Proofs
variable {W0 : World}
set_option maxRecDepth 10000
set_option linter.unusedVariables false
set_option linter.unusedSimpArgs false

end Go.Tame.V
/- Contracts: awake. By program (mkn12.py, mk.py). -/
namespace Go.Tame.V
open Go Go.Proofs
variable {W0 : World}
set_option maxRecDepth 10000
set_option linter.unusedVariables false
set_option linter.unusedSimpArgs false

end Go.Tame.V
/- The readings of this seat's arguments, as data by value; what is laid. -/
namespace Go.Tame.V
open Go Go.Proofs Go.RowKit Go.ChangeShapes Go.Deep Go.WideShapes
open YtpkeldhgfdeebaaGreatDoor (Rows.uptoBulk Rows.uptoBulkAll)
set_option maxRecDepth 100000
variable {H : Type} {enc0 : TypeId × Value → H} {W : World}

abbrev bulk (d : DataW H) : Nat := YtpkeldhgfdeebaaGreatDoor.Rows.uptoBulk d
abbrev bulkA (d : List (DataW H)) : Nat := YtpkeldhgfdeebaaGreatDoor.Rows.uptoBulkAll d

theorem sum_good {α : Type} {m : α → Nat} {c : Nat} : ∀ {l : List α} {ds : List (DataW H)}, ds.length = l.length → (∀ (i : Nat) a y, l[i]? = some a → ds[i]? = some y → m a ≤ c * bulk y) → (l.map m).sum ≤ c * bulkA ds
  | [], [], _, _ => by simp
  | a :: l, y :: ds, hl, h => by
    have h1 := h 0 a y rfl rfl
    have h2 := sum_good (l := l) (ds := ds) (by simpa using hl) fun i a y h3 h4 => h (i + 1) a y (by simpa using h3) (by simpa using h4)
    have h3 : c * bulkA (y :: ds) = c * bulk y + c * bulkA ds := by simp only [bulkA, bulk, YtpkeldhgfdeebaaGreatDoor.Rows.uptoBulkAll, Nat.mul_add]
    rw [h3, List.map_cons, List.sum_cons]
    omega
theorem sum_goodS {α : Type} {m : α → Nat} {c : Nat} {l : List α} {d : DataW H} (h : goodS (fun a y => m a ≤ c * bulk y) l d) : (l.map m).sum ≤ c * bulk d := by
  rcases h with ⟨rfl, rfl⟩ | ⟨ds, sp, rfl, hl, hg⟩
  · simp
  · have := sum_good hl hg
    have h3 : c * bulk (.slice ds sp) = c * bulkA ds + c * bulkA sp + c * 1 := by simp only [bulkA, bulk, YtpkeldhgfdeebaaGreatDoor.Rows.uptoBulk, Nat.mul_add]
    rw [h3]
    omega
theorem szS_sum : ∀ l : List SV, szS l = (l.map fun s => 2 + s.name.length + s.target.length).sum
  | [] => rfl
  | s :: r => by simp only [szS, List.map_cons, List.sum_cons, szS_sum r]
theorem szL_sum : ∀ l : List NV, szL l = (l.map fun n => 2 * n.name.length + 2 + sz n).sum
  | [] => by simp [szL]
  | s :: r => by simp only [szL, List.map_cons, List.sum_cons, szL_sum r]

theorem rd_stream (n : Nat) : Rd enc0 Tryz.prog W n 87 encS (fun s d => 2 + s.name.length + s.target.length ≤ 1 * bulk d) := by
  intro cs x h
  obtain ⟨xs, m, rfl, hx, hcl, hxl, hf⟩ := trod_fields Tryz.underlying87 (by kernel_rfl) (by kernel_rfl) h
  match cs, hcl, xs, hxl with
  | [c0, c1], _, [y0, y1], _ =>
    obtain ⟨s0, r0, e0, _⟩ := Rd.str (enc := enc0) (W := W) (n := m) Tryz.underlying9 [c0] y0 (hf 0 _ c0 y0 rfl rfl rfl)
    obtain ⟨s1, r1, e1, _⟩ := Rd.str (enc := enc0) (W := W) (n := m) Tryz.underlying9 [c1] y1 (hf 1 _ c1 y1 rfl rfl rfl)
    refine ⟨⟨s0, s1⟩, .cons r0.head (.cons r1.head (.nil _ _)), ?_⟩
    rw [hx]
    simp only [List.map_cons, List.map_nil, e0, e1, bulk, YtpkeldhgfdeebaaGreatDoor.Rows.uptoBulk, YtpkeldhgfdeebaaGreatDoor.Rows.uptoBulkAll]
    omega

theorem rd_node : ∀ (N n : Nat), n < N → Rd enc0 Tryz.prog W n 25 enc (fun s d => 2 * s.name.length + 2 + sz s ≤ 2 * bulk d)
  | 0, n, hn => absurd hn (Nat.not_lt_zero _)
  | N + 1, n, hn => by
    intro cs x h
    obtain ⟨xs, m, rfl, hx, hcl, hxl, hf⟩ := trod_fields Tryz.underlying25 (by kernel_rfl) (by kernel_rfl) h
    match cs, hcl, xs, hxl with
    | [c0, c1, c2, c3, c4, c5, c6, c7, c8, c9, c10, c11], _, [y0, y1, y2, y3, y4, y5, y6, y7, y8, y9, y10, y11], _ =>
      obtain ⟨s0, r0, e0, _⟩ := Rd.str (enc := enc0) (W := W) (n := m) Tryz.underlying9 [c0] y0 (hf 0 _ c0 y0 rfl rfl rfl)
      obtain ⟨s1, r1, e1, _⟩ := Rd.int (enc := enc0) (W := W) (n := m) Tryz.underlying3 [c1] y1 (hf 1 _ c1 y1 rfl rfl rfl)
      obtain ⟨s2, r2, e2, _⟩ := Rd.str (enc := enc0) (W := W) (n := m) Tryz.underlying9 [c2] y2 (hf 2 _ c2 y2 rfl rfl rfl)
      obtain ⟨s3, r3, e3, _⟩ := Rd.str (enc := enc0) (W := W) (n := m) Tryz.underlying9 [c3] y3 (hf 3 _ c3 y3 rfl rfl rfl)
      obtain ⟨s4, r4, e4, _⟩ := Rd.int (enc := enc0) (W := W) (n := m) Tryz.underlying3 [c4] y4 (hf 4 _ c4 y4 rfl rfl rfl)
      obtain ⟨s5, r5, e5, _⟩ := Rd.int (enc := enc0) (W := W) (n := m) Tryz.underlying3 [c5] y5 (hf 5 _ c5 y5 rfl rfl rfl)
      obtain ⟨s6, r6, e6, _⟩ := Rd.int (enc := enc0) (W := W) (n := m) Tryz.underlying3 [c6] y6 (hf 6 _ c6 y6 rfl rfl rfl)
      obtain ⟨s7, r7, e7, _⟩ := Rd.int (enc := enc0) (W := W) (n := m) Tryz.underlying3 [c7] y7 (hf 7 _ c7 y7 rfl rfl rfl)
      obtain ⟨s8, r8, e8, _⟩ := Rd.int (enc := enc0) (W := W) (n := m) Tryz.underlying3 [c8] y8 (hf 8 _ c8 y8 rfl rfl rfl)
      obtain ⟨s9, r9, e9, _⟩ := Rd.int (enc := enc0) (W := W) (n := m) Tryz.underlying3 [c9] y9 (hf 9 _ c9 y9 rfl rfl rfl)
      obtain ⟨ks, r10, e10⟩ := Rd.slice (enc := enc0) (W := W) (fuel := m) Tryz.underlying22 (k := 12) (f := enc) (by kernel_rfl) (by omega) (fun a => by rw [enc_eq]; exact ⟨rfl, rfl⟩) (fun m' hm' => rd_node N m' (by omega)) [c10] y10 (hf 10 _ c10 y10 rfl rfl rfl)
      obtain ⟨ss, r11, e11⟩ := Rd.slice (enc := enc0) (W := W) (fuel := m) Tryz.underlying23 (k := 2) (f := encS) (by kernel_rfl) (by omega) (fun a => ⟨rfl, rfl⟩) (fun m' _ => rd_stream m') [c11] y11 (hf 11 _ c11 y11 rfl rfl rfl)
      refine ⟨⟨s0, s1, s2, s3, s4, s5, s6, s7, s8, s9, ks, ss⟩, ?_, ?_⟩
      · rw [enc_eq]
        exact .cons r0.head (.cons r1.head (.cons r2.head (.cons r3.head (.cons r4.head (.cons r5.head (.cons r6.head (.cons r7.head (.cons r8.head (.cons r9.head (.cons r10.head (.cons r11.head (.nil _ _))))))))))))
      · have h10 := sum_goodS e10
        have h11 := sum_goodS e11
        rw [← szL_sum] at h10
        rw [← szS_sum] at h11
        rw [hx]
        dsimp only
        rw [sz_eq]
        simp only [List.map_cons, List.map_nil, e0, e1, e2, e3, e4, e5, e6, e7, e8, e9, bulk, YtpkeldhgfdeebaaGreatDoor.Rows.uptoBulk, YtpkeldhgfdeebaaGreatDoor.Rows.uptoBulkAll] at h10 h11 ⊢
        omega

/-- A node that came in. -/
theorem open_node {v : Value} {d : DataW H} {p : List MemPlace} {base : Nat} (hv : Value.okWide Tryz.prog W .any base 25 v) (h : DataW.Trod enc0 Tryz.prog W 0 (fun _ => true) true 25 v d p) :
    ∃ n : NV, Rep W (allC W) (encTop n) v ∧ 2 * n.name.length + 2 + sz n ≤ 2 * bulk d := by
  obtain ⟨fuel, hf⟩ := h
  obtain ⟨cs, rfl, _⟩ := okWide_struct Tryz.underlying25 hv
  obtain ⟨n, hr, hg⟩ := rd_node (enc0 := enc0) (W := W) _ fuel (Nat.lt_succ_self _) _ _ hf
  rw [enc_eq] at hr
  obtain ⟨l⟩ := cs
  exact ⟨n, .agg _ _ hr.1 hr.2, hg⟩

theorem callsTrue {f : Nat} {ds : List D} {args : Array Value} (h : DFun Tryz.prog W f ds (.bool true)) (hr : RepL W (allC W) ds args.toList) :
    Calls Tryz.prog f args W fun e w' => e = .returned (.bool true) ∧ Below W.heap.size W w' := by
  obtain ⟨l⟩ := args
  refine (h.2 W (allC W) l (Below.refl _ _) hr).mono ?_
  rintro e w' ⟨v, C', rfl, hv, hs⟩
  rw [hv.bool_inv]
  exact ⟨rfl, Base.step (Below.refl _ _) hs fun _ h => h.elim⟩

theorem laidOut : laidOutB Tryz.prog = true := by kernel_rfl
theorem stays_all {W' : World} (hb : Below W.heap.size W W') {sp : Nat → Bool} : ∀ {ts : List TypeId} {vs : List Value} {ds : List (DataW H)} {ps : List MemPlace},
    (∀ t ∈ ts, Tryz.prog.readableRec t = true ∧ t < Tryz.prog.types.size) → DataW.TrodAll enc0 Tryz.prog W 0 (fun _ => true) true ts vs ds ps → (∀ x ∈ ps, x.block < W.heap.size) → (∀ x ∈ ps, sp x.block = true) →
    DataW.TrodAll enc0 Tryz.prog W' 0 sp true ts vs ds ps
  | [], [], [], _, _, h, _, _ => h
  | t :: ts, v :: vs, d :: ds, _, ht, ⟨p, q, h1, h2, e⟩, hlt, hsp => by
    subst e
    exact ⟨p, q, stays laidOut (ht t List.mem_cons_self).1 (ht t List.mem_cons_self).2 h1 hb (fun x hx => hlt x (by simp [hx])) sp (fun x hx => hsp x (by simp [hx])),
      stays_all hb (fun t h => ht t (List.mem_cons_of_mem _ h)) h2 (fun x hx => hlt x (by simp [hx])) (fun x hx => hsp x (by simp [hx])), rfl⟩

def laidList : List (String × DataW Unit) := YtpkeldhgfdeebaaGreatDoor.Rows.namingViewsRow.laid
theorem libOk (hL : laidMetH Tryz.prog laidList W) (hsh : W.ShapedOpen Tryz.prog) : LibOk W := by
  have hL' : laidMet Tryz.prog laidList W := hL
  refine ⟨utf8Tabs_of_reads (ρ := Tryz.lays260_ren) Tryz.lays260 ⟨by kernel_rfl, by kernel_rfl, by kernel_rfl, by kernel_rfl, by kernel_rfl, by kernel_rfl, by kernel_rfl⟩
    (Lib.laidMet.reads hL' (.tail _ (.tail _ (.tail _ (.tail _ (.head _)))))) (Lib.laidMet.reads hL' (.tail _ (.tail _ (.tail _ (.head _))))), ?_, ?_⟩
  · obtain ⟨h1, _⟩ := hsh
    obtain ⟨cs, hcs, hsz, hrow⟩ := h1 0 #[.int .i64 0] 3 (by decide +kernel) (by kernel_rfl)
    obtain ⟨ts, hts, _, hcell⟩ := hrow (by kernel_rfl)
    have hts' : ts = [3] := by
      have : Tryz.prog.cellTypes Tryz.prog.depth 3 = some [3] := by kernel_rfl
      exact Option.some.inj (hts.symm.trans this)
    subst hts'
    have h0 : cs[0]? = some (cs[0]'(by rw [hsz]; decide)) := Array.getElem?_eq_getElem _
    obtain ⟨u, hu, hok⟩ := hcell 0 _ h0
    have hu' : u = 3 := by simpa using hu.symm
    subst hu'
    have hc : W.cell? ⟨0, 0, none⟩ = some (cs[0]'(by rw [hsz]; decide)) := by
      simp only [World.cell?, hcs]
      simpa using h0
    generalize cs[0]'(by rw [hsz]; decide) = v at hok hc
    unfold Cell.ok at hok
    rw [Tryz.underlying3] at hok
    cases v with
    | int k n => obtain ⟨rfl, _⟩ := hok; exact ⟨n, hc⟩
    | _ => exact hok.elim
  · exact Lib.tabIs_of_head (rest := _) (g := 3) (t := 237) (e := 165) (n := 20) (by kernel_rfl) (by kernel_rfl) (by kernel_rfl) (by kernel_rfl) (by kernel_rfl) (by kernel_rfl) hL'.tail.tail
end Go.Tame.V
/- The statement on Format, Count and Below: from the contract to the card. -/
namespace Go.Tame.V
open Go Go.Proofs Go.RowKit Go.ChangeShapes Go.Deep Go.WideShapes Go.ChangeAt
open YtpkeldhgfdeebaaGreatDoor
set_option maxRecDepth 100000

theorem own : ownKnob Tryz.prog.godebug = none := by kernel_rfl

/-- A world that holds what is laid. -/
noncomputable def laidWorld (os : Os) : World :=
  let w0 := World.holding Tryz.prog os ⟨#[], #[], []⟩
  let put (h : Array Obj) (g : Nat) (cs : Array Value) : Array Obj := h.modify g fun
    | .cells _ t frozen => .cells cs t frozen
    | o => o
  let h1 := put w0.heap 1 (Lib.firstTab.map fun z => Value.int .u8 z).toArray
  let h2 := put h1 2 ((List.range 16).flatMap fun i => [Value.int .u8 (Lib.accLo i), Value.int .u8 (Lib.accHi i)]).toArray
  let h3 := put h2 3 (Lib.pow10Tab.map fun z => Value.int .u64 z).toArray
  let h4 := put h3 4 ([0, 1, 28, 2, 29, 14, 24, 3, 30, 22, 20, 15, 25, 17, 4, 8, 31, 27, 13, 23, 21, 19, 16, 7, 26, 12, 18, 6, 11, 5, 10, 9].map fun z => Value.int .u8 z).toArray
  let h5 := put h4 5 ([0, 1, 56, 2, 57, 49, 28, 3, 61, 58, 42, 50, 38, 29, 17, 4, 62, 47, 59, 36, 45, 43, 51, 22, 53, 39, 33, 30, 24, 18, 12, 5, 63, 55, 48, 27, 60, 41, 37, 16, 46, 35, 44, 21, 52, 32, 23, 11, 54, 26, 40, 15, 34, 20, 31, 10, 25, 14, 19, 9, 13, 8, 7, 6].map fun z => Value.int .u8 z).toArray
  { w0 with heap := h5 }
theorem laid_met (os : Os) (args : Array Value) : laidMet Tryz.prog laidList ((laidWorld os).forCall (fun _ _ => 0) ⟨#[], args, []⟩).memory :=
  laidMet_of_run' 8 (by kernel_rfl) (by kernel_rfl)
end Go.Tame.V
