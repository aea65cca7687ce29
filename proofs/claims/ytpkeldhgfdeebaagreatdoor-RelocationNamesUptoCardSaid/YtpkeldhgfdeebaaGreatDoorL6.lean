/- A program logic of my own over the model, and contracts of this program's functions by it: part 6. No conditions of its own: each theorem states its own. -/
import Derived.Test.YtpkeldhgfdeebaaGreatDoorL5
set_option linter.unnecessarySimpa false
set_option linter.unusedSimpArgs false
set_option linter.unusedVariables false
/- Readings of further arguments: lists of nodes. -/
namespace Go.Tame.V
open Go Go.Proofs Go.RowKit Go.ChangeShapes Go.Deep Go.WideShapes
open YtpkeldhgfdeebaaGreatDoor (Rows.uptoBulk Rows.uptoBulkAll)
set_option maxRecDepth 100000
variable {H : Type} {enc0 : TypeId × Value → H} {W : World}
theorem rd_nodes (n : Nat) : Rd enc0 Tryz.prog W n 22 (fun l : List NV => .sl .none 12 (l.map enc)) (goodS fun s d => 2 * s.name.length + 2 + sz s ≤ 2 * bulk d) :=
 Rd.slice (f := enc) (k := 12) Tryz.underlying22 (by kernel_rfl) (by omega) (fun a => by rw [enc_eq]; exact ⟨rfl, rfl⟩) fun m _ => rd_node (m + 1) m (Nat.lt_succ_self _)
theorem szL_mem {l : List NV} {k : NV} (h : k ∈ l) : k.name.length ≤ szL l ∧ sz k ≤ szL l := by
 induction l with
 | nil => cases h
 | cons a r ih =>
  simp only [szL]
  rcases List.mem_cons.1 h with rfl | h
  ·constructor <;> omega
  ·have := ih h; constructor <;> omega
/-- Nodes that came in. -/
theorem open_nodes {v : Value} {d : DataW H} {p : List MemPlace} {base : Nat} (hv : Value.okWide Tryz.prog W .any base 22 v) (h : DataW.Trod enc0 Tryz.prog W 0 (fun _ => true) true 22 v d p) :
  ∃ l : List NV, Rep W (allC W) (.sl .none 12 (l.map enc)) v ∧ 2 * l.length ≤ 2 * bulk d ∧ szL l ≤ 2 * bulk d := by
 obtain ⟨fuel, hf⟩ := h
 obtain ⟨a, l, c, rfl⟩ := okWide_slice Tryz.underlying22 hv
 obtain ⟨l, hr, hg⟩ := rd_nodes fuel _ _ hf
 have h1 := sum_goodS hg
 rw [← szL_sum] at h1
 replace h1 : szL l ≤ 2 * bulk d := h1
 have h2 := szL_len l
 exact ⟨l, hr.head, by omega, h1⟩
end Go.Tame.V
/- Laws: NamingViews, NamingPaths. By program (mk.py). -/
namespace Go.Tame.V
open Go Go.Proofs
variable {W0 : World}
set_option maxRecDepth 10000
set_option linter.unusedVariables false
set_option linter.unusedSimpArgs false

theorem few_sz2 {n : NV} (h : few1 n 20000 = true) : sz n ≤ 40000 := by
 have := few_sz h; omega
end Go.Tame.V
/- Law: NamingAgain. By program (mk.py). -/
namespace Go.Tame.V
open Go Go.Proofs
variable {W0 : World}
set_option maxRecDepth 10000
set_option linter.unusedVariables false
set_option linter.unusedSimpArgs false

end Go.Tame.V
/- Paths there and back: the plain law of NamingInverse. Plain. -/
namespace Go.Tame.V
open Go Go.Proofs
set_option maxRecDepth 10000
set_option linter.unusedVariables false
set_option linter.unusedSimpArgs false

section
variable (nm : List NV → List (List UInt8)) (v : Int)
end
end Go.Tame.V
/- Law: NamingInverse. By program (mk.py). -/
namespace Go.Tame.V
open Go Go.Proofs
variable {W0 : World}
set_option maxRecDepth 10000
set_option linter.unusedVariables false
set_option linter.unusedSimpArgs false

end Go.Tame.V
/- Contracts: Clone and Delete with rows that may be written. By program (mkn16.py, mk.py). -/
namespace Go.Tame.V
open Go Go.Proofs
variable {W0 : World}
set_option maxRecDepth 10000
set_option linter.unusedVariables false
set_option linter.unusedSimpArgs false

theorem addr_add (b n : Nat) : ((⟨b, 0, none⟩ : Addr).add n) = ⟨b, n, none⟩ := by
 cases n with
 | zero => rfl
 | succ n => simp [Addr.add]

end Go.Tame.V
/- The names without the greatest one: the plain law of NamingStable. Plain. -/
namespace Go.Tame.V
open Go Go.Proofs
set_option maxRecDepth 10000
set_option linter.unusedVariables false
set_option linter.unusedSimpArgs false

theorem namesR_ok {v : Int} {kids : List NV} (h : (namesR v kids).2 = 0) : viewOk v = true ∧ kids.length ≤ 64 ∧ allOk kids = true ∧ (kids.map NV.name).Nodup ∧ namesR v kids = (namesU v kids, 0) := by
 unfold namesR at h ⊢
 split at h
 ·cases h
 ·rename_i h1
  split at h
  ·cases h
  ·rename_i h2
   split at h
   ·cases h
   ·rename_i h3
    split at h
    ·cases h
    ·rename_i h4
     rw [if_neg h1, if_neg h2, if_neg h3, if_neg h4]
     exact ⟨by simpa using h1, by omega, by simpa using h3, by simpa using h4, rfl⟩
theorem namesU_len (v : Int) (kids : List NV) : (namesU v kids).length = kids.length := by simp [namesU]

end Go.Tame.V
/- Law: NamingStable. By program (mk.py). -/
namespace Go.Tame.V
open Go Go.Proofs
variable {W0 : World}
set_option maxRecDepth 10000
set_option linter.unusedVariables false
set_option linter.unusedSimpArgs false

theorem DCall.fresh {f : FuncId} {ds : List D} {Q : D → Heap → Prop} {H : Heap} {k s : Nat} (h : H s = none) (hc : DCall Tryz.prog W0 f ds Heap.none Q) : DCall Tryz.prog W0 f ds (handed H [(k, s)]) Q := by
 have e : handed H [(k, s)] = Heap.none := by
  funext j
  simp only [handed, Heap.none]
  cases Nat.beq j k with
  | true => exact h
  | false => rfl
 rw [e]; exact hc
theorem DCall.heap {f : FuncId} {ds : List D} {Q : D → Heap → Prop} {H : Heap} {k s : Nat} {o : HObj} (h : H s = some o) (hc : DCall Tryz.prog W0 f ds (look [(k, o)]) Q) : DCall Tryz.prog W0 f ds (handed H [(k, s)]) Q := by
 have e : handed H [(k, s)] = look [(k, o)] := by
  funext j
  simp only [handed, look]
  cases Nat.beq j k with
  | true => exact h
  | false => rfl
 rw [e]; exact hc

/-- IndexFunc over nodes. -/
theorem G96g (l : List NV) (hl : l.length < 1000000000) (fid : Nat) (caps : List D) (p : NV → Bool) (hp0 : ∀ k ∈ l, DFun Tryz.prog W0 fid (encTop k :: caps) (.bool (p k))) : DFun Tryz.prog W0 96 [.sl .none 12 (l.map enc), .fn (.func fid) [] caps] (.int .i64 (firstIdx p l)) := by
 refine DFun.intro ti_ok Tryz.func96 rfl (by decide +kernel) Tryz.ntmps96 rfl fun Γ => ?_
 refine Tri.seq ?_
 refine Tri.region ti_ok ?_
 conv => whnf
 refine Tri.seq ?_
 refine Tri.seq ?_
 refine Tri.region ti_ok ?_
 conv => whnf
 refine Tri.block ?_
 refine Tri.loop (α := { i : Nat // i ≤ l.length ∧ ∀ j (h : j < l.length), j < i → p (l[j]) = false }) (fun x => [(0, .sl .none 12 (l.map enc)), (1, .fn (.func fid) [] caps), (7, .int .i64 (l.map enc).length), (8, .int .i64 x.1)]) (fun _ => []) (fun x => l.length - x.1) ⟨0, by simp⟩ ⟨.refl _, .refl _, .refl _, .refl _, trivial⟩ trivial ?_
 rintro ⟨i, hi, hp⟩
 dsimp only
 refine Tri.seq ?_
 refine Tri.region ti_ok ?_
 conv => whnf
 refine Tri.seq ?_
 refine Tri.cond (decide ((i : Int) < (l.map enc).length)) rfl (fun hc => ?_) (fun hc => ?_)
 ·refine Tri.skip ?_
  conv => whnf
  refine Tri.seq ?_
  refine Tri.block ?_
  refine Tri.seq ?_
  refine Tri.region ti_ok ?_
  have hia : i < l.length := by simpa using hc
  conv => whnf
  refine Tri.seq ?_
  refine Tri.region ti_ok ?_
  conv => whnf
  refine ⟨fun _ => by simp; omega, ?_⟩
  conv => whnf
  refine ⟨encTop l[i], fun _ => get_kids hia, ?_⟩
  conv => whnf
  refine ⟨encTop l[i] :: caps, _, fun _ => hp0 l[i] (List.getElem_mem hia), ⟨.refl _, LeL.refl _⟩, ?_⟩
  conv => whnf
  refine Tri.cond _ rfl (fun hc => ?_) (fun hc => ?_)
  ·refine Tri.seq ?_
   refine Tri.region ti_ok ?_
   conv => whnf
   refine Tri.ret ?_
   conv => whnf
   exact intDLe (firstIdx_some (p := p) hia hp hc).symm
  ·refine Tri.skip ?_
   conv => whnf
   refine Tri.region ti_ok ?_
   conv => whnf
   refine .inl ⟨fun _ => by simp [InR]; omega, ?_⟩
   conv => whnf
   exact ⟨⟨i + 1, by omega, fun j hj hlt => (Nat.lt_succ_iff_lt_or_eq.1 hlt).elim (hp j hj) fun e => by subst e; exact hc⟩, by show _ - (i + 1) < _ - i; omega, ⟨.refl _, .refl _, .refl _, .refl _, trivial⟩, trivial⟩
 ·refine Tri.exit ?_
  conv => whnf
  refine Tri.seq ?_
  refine Tri.region ti_ok ?_
  conv => whnf
  refine Tri.ret ?_
  conv => whnf
  exact intDLe (firstIdx_none (p := p) fun j hj => hp j hj (by simp at hc; omega)).symm
theorem G44 (l : List NV) (hl : l.length < 1000000000) (fid : Nat) (caps : List D) (p : NV → Bool) (hp0 : ∀ k ∈ l, DFun Tryz.prog W0 fid (encTop k :: caps) (.bool (p k))) : DFun Tryz.prog W0 44 [.sl .none 12 (l.map enc), .fn (.func fid) [] caps] (.bool (l.any p)) := by
 refine DFun.intro ti_ok Tryz.func44 rfl (by decide +kernel) Tryz.ntmps44 rfl fun Γ => ?_
 refine Tri.seq ?_
 refine Tri.region ti_ok ?_
 conv => whnf
 refine Tri.seq ?_
 refine Tri.region ti_ok ?_
 conv => whnf
 refine ⟨[.sl .none 12 (l.map enc), .fn (.func fid) [] caps], _, fun _ => G96g l hl fid caps p hp0, ⟨.refl _, .refl _, trivial⟩, ?_⟩
 conv => whnf
 refine Tri.ret ?_
 conv => whnf
 exact DLe.of_eq (congrArg D.bool (firstIdx_any p l))
end Go.Tame.V
/- Names of a directory: different, valid, the same in any order; identifiers stand for them: the plain law of NamingUnique. Plain. -/
namespace Go.Tame.V
open Go Go.Proofs
set_option maxRecDepth 10000
set_option linter.unusedVariables false
set_option linter.unusedSimpArgs false

theorem iso_d {r : Int} (h : isChar r = true) (e : isoC r = r) : 0 ≤ r ∧ r < 128 ∧ dB r = true := by
 unfold isoC at e
 split at e
 ·omega
 ·split at e
  ·rename_i h1
   simp [isChar] at h
   exact ⟨by omega, h1.1, h1.2⟩
  ·subst e; decide
theorem iso_bytes : ∀ {a : List Int}, (∀ r ∈ a, isChar r = true ∧ isoC r = r) → runesB a = a.map fun r => UInt8.ofNat r.toNat
 | [], _ => by simp [runesB]
 | r :: l, h => by
  obtain ⟨h1, h2⟩ := h r List.mem_cons_self
  obtain ⟨h3, h4, _⟩ := iso_d h1 h2
  rw [runesB_cons, enc_ascii r h3 h4, iso_bytes fun x hx => h x (List.mem_cons_of_mem _ hx)]; rfl
theorem iso_isDB {a : List Int} (h : ∀ r ∈ a, isChar r = true ∧ isoC r = r) {m : Nat} (h1 : 1 ≤ a.length) (h2 : a.length ≤ m) (hm : m ≤ 64) : isDB (runesB a) m = true := by
 rw [iso_bytes h, isDB, dStr]
 simp only [List.length_map, List.all_map, Bool.and_eq_true, decide_eq_true_eq, List.all_eq_true, Function.comp]
 refine ⟨by omega, by omega, by omega, fun r hr => ?_⟩
 obtain ⟨h3, h4, h5⟩ := iso_d (h r hr).1 (h r hr).2
 rw [dU]
 have : ((UInt8.ofNat r.toNat).toNat : Int) = r := by simp; omega
 rw [this]; exact h5
theorem iso_no {a : List Int} (h : ∀ r ∈ a, isChar r = true ∧ isoC r = r) {c : UInt8} (hc : dU c = false) : c ∉ runesB a := by
 rw [iso_bytes h]
 intro hm
 obtain ⟨r, hr, e⟩ := List.mem_map.1 hm
 obtain ⟨h3, h4, h5⟩ := iso_d (h r hr).1 (h r hr).2
 rw [← e, dU] at hc
 have : ((UInt8.ofNat r.toNat).toNat : Int) = r := by simp; omega
 rw [this, h5] at hc; cases hc

theorem occ_one (s : List UInt8) (c : UInt8) (j : Nat) : Lib.occAt s [c] j = (s[j]? == some c) := by
 unfold Lib.occAt
 induction s generalizing j with
 | nil => simp
 | cons b l ih =>
  cases j with
  | zero => simp; exact Bool.eq_iff_iff.2 ⟨fun h => by simp at h ⊢; exact h.symm, fun h => by simp at h ⊢; exact h.symm⟩
  | succ j => simpa using ih j
theorem index_dot {A B : List UInt8} (h : (46 : UInt8) ∉ A) : Lib.index (A ++ 46 :: B) [46] = A.length := by
 refine Lib.index_first (by simp) ?_ fun j hj => ?_
 ·rw [occ_one]; simp
 ·rw [occ_one, List.getElem?_append_left hj, List.getElem?_eq_getElem hj]
  simp only [beq_eq_false_iff_ne, ne_eq, Option.some.injEq]
  intro e; exact h (e ▸ List.getElem_mem hj)
theorem index_nodot {A : List UInt8} (h : (46 : UInt8) ∉ A) : Lib.index A [46] = -1 := by
 refine Lib.index_none fun j hj => ?_
 rw [occ_one]
 rcases Nat.lt_or_ge j A.length with hl | hl
 ·rw [List.getElem?_eq_getElem hl]
  simp only [beq_eq_false_iff_ne, ne_eq, Option.some.injEq]
  intro e; exact h (e ▸ List.getElem_mem hl)
 ·rw [List.getElem?_eq_none hl]; rfl
theorem cut_dot {A B : List UInt8} (h : (46 : UInt8) ∉ A) : Lib.cut (A ++ 46 :: B) [46] = (A, B, true) := by
 rw [Lib.cut, index_dot h, if_pos (by omega)]
 simp
theorem cut_nodot {A : List UInt8} (h : (46 : UInt8) ∉ A) : Lib.cut A [46] = (A, [], false) := by
 rw [Lib.cut, index_nodot h, if_neg (by decide)]
theorem byte_mem (c : UInt8) : ∀ s : List UInt8, 0 ≤ Lib.indexByte s c ↔ c ∈ s
 | [] => by simp [Lib.indexByte]
 | b :: l => by
  have ih := byte_mem c l
  have hg := Lib.indexByte_ge l c
  unfold Lib.indexByte
  split
  ·rename_i h
   have : b = c := by simpa using h
   subst this; simp
  ·rename_i h
   have hne : ¬ c = b := fun e => h (by rw [e]; simp)
   split
   ·rename_i h1
    have h1' : Lib.indexByte l c = -1 := by simpa using h1
    rw [h1'] at ih
    simp only [List.mem_cons, hne, false_or, ← ih]
   ·rename_i h1
    have h1' : ¬ Lib.indexByte l c = -1 := by simpa using h1
    simp only [List.mem_cons, hne, false_or, ← ih]
    omega
theorem hasDot_iff (s : List UInt8) : hasDot s = decide ((46 : UInt8) ∈ s) := by
 rw [hasDot]
 exact decide_eq_decide.2 (byte_mem 46 s)
/-- A name of the ISO view: valid, with an identifier that stands for it. -/
structure IsoName (m : List UInt8) (dir : Bool) : Prop where
 valid : validI m dir = true
 back : (identI m dir).2 = 0 ∧ nameI (identI m dir).1 dir = (m, 0)
theorem suf_append (a b : List UInt8) : Lib.hasSuffix (a ++ b) b = true := by
 rw [Lib.hasSuffix, List.isSuffixOf_iff_suffix]; exact ⟨a, rfl⟩
theorem cutSuf_append (a b : List UInt8) : cutSuf (a ++ b) b = (a, true) := by
 rw [cutSuf, if_pos (suf_append a b)]
 simp
theorem isoName_of {m A B : List UInt8} {dir : Bool} (hA : isDB A 8 = true) (h46 : (46 : UInt8) ∉ A) (h46' : (46 : UInt8) ∉ B) (h : (B = [] ∧ m = A) ∨ (B ≠ [] ∧ dir = false ∧ isDB B 3 = true ∧ m = A ++ 46 :: B)) : IsoName m dir := by
 have hv : validI m dir = true := by
  rcases h with ⟨_, rfl⟩ | ⟨_, rfl, h3, rfl⟩
  ·rw [validI, cut_nodot h46]; simpa using hA
  ·rw [validI, cut_dot h46]; simp [hA, h3]
 refine ⟨hv, ?_⟩
 cases dir with
 | true =>
  have e : identI m true = (m, 0) := by rw [identI, if_pos hv, if_pos rfl]
  refine ⟨by rw [e], ?_⟩
  rw [e, nameI, if_pos rfl, chkI, e, if_pos ⟨rfl, rfl⟩]
 | false =>
  rcases h with ⟨hB, rfl⟩ | ⟨hB, _, h3, hm⟩
  ·have hd : hasDot m = false := by rw [hasDot_iff]; simpa using h46
   have e : identI m false = (m ++ [46, 59, 49], 0) := by rw [identI, if_pos hv, if_neg (by decide), if_neg (by rw [hd]; decide)]
   refine ⟨by rw [e], ?_⟩
   have e1 : m ++ [46, 59, 49] = (m ++ [46]) ++ [59, 49] := by simp
   have e2 : Lib.trimSuffix (m ++ [46]) [46] = m := by rw [Lib.trimSuffix, if_pos (suf_append _ _)]; simp
   have e3 : cutSuf (m ++ [46, 59, 49]) [59, 49] = (m ++ [46], true) := by rw [e1]; exact cutSuf_append _ _
   rw [e, nameI, if_neg (by decide), e3, if_pos rfl, e2, chkI, e, if_pos ⟨rfl, rfl⟩]
  ·have hd : hasDot m = true := by rw [hasDot_iff, hm]; simp
   have e : identI m false = (m ++ [59, 49], 0) := by rw [identI, if_pos hv, if_neg (by decide), if_pos hd]
   refine ⟨by rw [e], ?_⟩
   have e3 := cutSuf_append m [59, 49]
   have e2 : Lib.trimSuffix m [46] = m := by
    rw [Lib.trimSuffix, if_neg]
    intro hs
    rw [Lib.hasSuffix, List.isSuffixOf_iff_suffix] at hs
    obtain ⟨x, hx⟩ := hs
    have h1 : m.getLast? = some 46 := by rw [← hx]; simp
    rw [hm, List.getLast?_append, List.getLast?_cons] at h1
    obtain ⟨y, hy⟩ := List.exists_mem_of_ne_nil _ hB
    cases hl : B.getLast? with
    | none => rw [List.getLast?_eq_none_iff] at hl; exact hB hl
    | some z =>
     rw [hl] at h1
     simp at h1
     exact h46' (h1 ▸ List.mem_of_getLast? hl)
   rw [e, nameI, if_neg (by decide), e3, if_pos rfl, e2, chkI, e, if_pos ⟨rfl, rfl⟩]
theorem pick_numS {v : Int} (hv : v = 0 ∨ v = 1) (U : List (List UInt8)) (k : NV) (hU : U.length ≤ 64) : ∃ j, j < 100 ∧ pickG v U k = numS v (wantS v k.name (k.kind == 0)).1 (wantS v k.name (k.kind == 0)).2 j := by
 exact ⟨freshK v U (wantS v k.name (k.kind == 0)).1 (wantS v k.name (k.kind == 0)).2, (fresh_ok v U _ _ hU).1, by rw [pickG, if_pos hv]; rfl⟩
end Go.Tame.V
/- Law: NamingUnique. By program (mkn18.py, mk.py). -/
namespace Go.Tame.V
open Go Go.Proofs
variable {W0 : World}
set_option maxRecDepth 10000
set_option linter.unusedVariables false
set_option linter.unusedSimpArgs false

end Go.Tame.V
/- The plans of directories and records: data and definitions. Plain. -/
namespace Go.Tame.V
open Go Go.Proofs
set_option maxRecDepth 10000
set_option linter.unusedVariables false
set_option linter.unusedSimpArgs false

/-- A directory of a plan. -/
structure DirV where
 path : List UInt8
 id : List UInt8
 level : Int
 parent : Int
 above : Int
 reloc : Bool
 deriving DecidableEq
instance : Inhabited DirV := ⟨⟨[], [], 0, 0, 0, false⟩⟩
/-- A record of a plan. -/
structure EntV where
 path : List UInt8
 id : List UInt8
 inn : Int
 dir : Int
 hid : Bool
 att : Bool
 mov : Bool
 deriving DecidableEq
instance : Inhabited EntV := ⟨⟨[], [], 0, 0, false, false, false⟩⟩
def encDir (d : DirV) : D := .agg [.str d.path, .str d.id, .int .i64 d.level, .int .i64 d.parent, .int .i64 d.above, .bool d.reloc]
def encEnt (e : EntV) : D := .agg [.str e.path, .str e.id, .int .i64 e.inn, .int .i64 e.dir, .bool e.hid, .bool e.att, .bool e.mov]
/-- A node with a record: what the reference knows of it, and what both plans make of it. -/
structure XS where
 n : NV
 path : List UInt8
 id : List UInt8
 file : List UInt8
 iso : Bool
 rock : Bool
 lv : Int
 si : Nat
 ab : Nat
 fi : Nat
 di : Nat
 lev : Int
 mv : Bool
 mno : Nat
instance : Inhabited XS := ⟨⟨default, [], [], [], false, false, 0, 0, 0, 0, 0, 0, false, 0⟩⟩
def encSp (s : XS) : D := .agg [.str s.n.name, .int .i64 s.n.kind, .str s.n.text, .str s.n.target, .int .i64 s.n.n1, .int .i64 s.n.n2, .int .i64 s.n.n3, .int .i64 s.n.n4, .int .i64 s.n.n5, .int .i64 s.n.n6, .sl .none 12 (s.n.kids.map enc), .sl .none 2 (s.n.streams.map encS),
 .str s.path, .str s.id, .str s.file, .int .i64 (s.ab : Int), .int .i64 s.lv, .bool s.iso, .bool s.rock]
def XS.isDir (s : XS) : Bool := s.n.kind == 0
/-- How many nodes, directories, relocated ones there were. -/
structure Cn where
 ns : Nat
 nf : Nat
 nm : Nat
def Cn.add (c : Cn) (s : XS) : Cn := ⟨c.ns + 1, if s.isDir then c.nf + 1 else c.nf, if s.mv then c.nm + 1 else c.nm⟩
def Cn.addL (c : Cn) (l : List XS) : Cn := l.foldl Cn.add c
theorem Cn.addL_nil (c : Cn) : c.addL [] = c := rfl
theorem Cn.addL_cons (c : Cn) (s : XS) (l : List XS) : c.addL (s :: l) = (c.add s).addL l := rfl
theorem Cn.addL_append (c : Cn) (a b : List XS) : c.addL (a ++ b) = (c.addL a).addL b := by simp [Cn.addL]
theorem Cn.addL_ns (l : List XS) : ∀ c : Cn, (c.addL l).ns = c.ns + l.length := by
 induction l with
 | nil => intro c; rfl
 | cons s r ih => intro c; rw [Cn.addL_cons, ih]; simp [Cn.add]; omega
/-- The node k, which has the name m in the ISO view, in the directory x. -/
def child (x : XS) (k : NV) (m : List UInt8) (c : Cn) : XS :=
 { n := k, path := below x.path k.name (x.lv + 1), id := (identI m (k.kind == 0)).1, file := (identI m false).1, iso := x.iso && shown 0 k (x.lv + 1), rock := x.rock && shown 2 k (x.lv + 1), lv := x.lv + 1, si := c.ns, ab := x.si, fi := x.di, di := c.nf, lev := if k.kind == 0 then (if x.lev + 1 = 9 then 3 else x.lev + 1) else 0, mv := k.kind == 0 && x.lev + 1 == 9, mno := c.nm + 1 }
def XS.any (s : XS) : Bool := s.iso || s.rock
mutual
/-- The nodes with records below a node, in preorder. -/
def spT : NV → XS → Cn → List XS
 | .mk _ _ _ _ _ _ _ _ _ _ ks _, x, c => spL ks (namesG 0 ks) x c
def spL : List NV → List (List UInt8) → XS → Cn → List XS
 | k :: r, m :: ms, x, c => if (child x k m c).any then child x k m c :: (spT k (child x k m c) (c.add (child x k m c)) ++ spL r ms x ((c.add (child x k m c)).addL (spT k (child x k m c) (c.add (child x k m c))))) else spL r ms x c
 | _, _, _, _ => []
end
theorem spT_eq (n : NV) (x : XS) (c : Cn) : spT n x c = spL n.kids (namesG 0 n.kids) x c := by cases n; simp only [spT]
def rootX (rr : Bool) (n : NV) : XS := ⟨n, [], [], [], true, rr, 1, 0, 0, 0, 0, 1, false, 0⟩
/-- All nodes with records; the root is the first. -/
def spots (rr : Bool) (n : NV) : List XS := rootX rr n :: spT n (rootX rr n) ⟨1, 1, 0⟩

/-- The name of the relocation directory, by its number. -/
def rrN (k : Nat) : List UInt8 := if k = 0 then [82, 82, 95, 77, 79, 86, 69, 68] else [82, 82, 95, 77, 79, 86] ++ Lib.decDigits k
theorem rrN_inj : ∀ j, j < 100 → ∀ k, k < 100 → rrN j = rrN k → j = k := by decide +kernel
def rrK (U : List (List UInt8)) : Nat := ((List.range 100).find? fun k => decide (rrN k ∉ U)).getD 0
theorem rr_ok {U : List (List UInt8)} (hu : U.length ≤ 64) : rrK U < 100 ∧ rrN (rrK U) ∉ U ∧ ∀ j, j < rrK U → rrN j ∈ U := by
 unfold rrK
 cases h : (List.range 100).find? fun k => decide (rrN k ∉ U) with
 | none =>
  exfalso
  rw [List.find?_eq_none] at h
  have hn : ((List.range 100).map rrN).Nodup := by
   rw [List.nodup_iff_pairwise_ne, List.pairwise_map]
   refine List.Pairwise.imp_of_mem (R := (· ≠ ·)) ?_ (List.nodup_iff_pairwise_ne.1 List.nodup_range)
   intro a b ha hb hab he
   simp only [List.mem_range] at ha hb
   exact hab (rrN_inj a ha b hb he)
  have hsub : (List.range 100).map rrN ⊆ U := by
   intro x hx
   obtain ⟨i, hi, rfl⟩ := List.mem_map.1 hx
   have := h i hi
   simpa using this
  have := hn.length_le_of_subset hsub
  simp at this; omega
 | some k =>
  obtain ⟨h1, h2, h3⟩ := List.find?_range_eq_some.1 h
  simp only [Option.getD_some]
  exact ⟨by simpa using h2, by simpa using h1, fun j hj => by simpa using h3 j hj⟩

/-- The index in a plan of the directory that is the i-th without the relocation directory. -/
def ixS (s i : Nat) : Nat := if i = 0 then 0 else i + s
def XS.dirV (s : Nat) (x : XS) : DirV := ⟨x.path, if x.mv then 68 :: Lib.decDigits x.mno else x.id, x.lev, if x.mv then 1 else (ixS s x.fi : Nat), (ixS s x.fi : Nat), x.mv⟩
def XS.entV (s : Nat) (x : XS) : EntV := ⟨x.path, if x.mv then x.file else x.id, (ixS s x.fi : Nat), if x.isDir && !x.mv then (ixS s x.di : Nat) else -1, !x.iso, x.rock, x.mv⟩
def XS.movV (s : Nat) (x : XS) : EntV := ⟨x.path, 68 :: Lib.decDigits x.mno, 1, (ixS s x.di : Nat), true, true, false⟩
def rootDir : DirV := ⟨[], [0], 1, 0, 0, false⟩
/-- The nodes but the root; the directories among them; the relocated ones. -/
def dirsX (l : List XS) : List XS := l.filter XS.isDir
def movX (l : List XS) : List XS := l.filter XS.mv
def shiftX (l : List XS) : Nat := if (movX l).length = 0 then 0 else 1
/-- The directories, out of all nodes but the root, and the identifier of the relocation directory. -/
def dirsP (rn : List UInt8) (l : List XS) : List DirV := rootDir :: ((if shiftX l = 0 then [] else [⟨[47], rn, 2, 0, 0, false⟩]) ++ (dirsX l).map (XS.dirV (shiftX l)))
/-- The records in the i-th directory of the source tree. -/
def recsAt (s : Nat) (l : List XS) (i : Nat) : List EntV := (l.filter fun x => x.fi == i).map (XS.entV s)
def entsP (rn : List UInt8) (l : List XS) : List EntV :=
 (if shiftX l = 0 then [] else [⟨[47], rn, 0, 1, true, false, false⟩]) ++ recsAt (shiftX l) l 0 ++ (movX l).map (XS.movV (shiftX l)) ++ ((List.range (dirsX l).length).flatMap fun i => recsAt (shiftX l) l (i + 1))
/-- What Plan returns. -/
def planV (rr : Bool) (n : NV) : List DirV × List EntV × Int :=
 if valid n = true then (dirsP (rrN (rrK (namesG 0 n.kids))) (spT n (rootX rr n) ⟨1, 1, 0⟩), entsP (rrN (rrK (namesG 0 n.kids))) (spT n (rootX rr n) ⟨1, 1, 0⟩), 0) else ([], [], 1)
end Go.Tame.V
/- Readings of further arguments: lists of directories. -/
namespace Go.Tame.V
open Go Go.Proofs Go.RowKit Go.ChangeShapes Go.Deep Go.WideShapes
open YtpkeldhgfdeebaaGreatDoor (Rows.uptoBulk Rows.uptoBulkAll)
set_option maxRecDepth 100000
variable {H : Type} {enc0 : TypeId × Value → H} {W : World}
theorem rd_dir (n : Nat) : Rd enc0 Tryz.prog W n 66 encDir (fun _ _ => True) := by
 intro cs x h
 obtain ⟨xs, m, rfl, hx, hcl, hxl, hf⟩ := trod_fields Tryz.underlying66 (by kernel_rfl) (by kernel_rfl) h
 match cs, hcl, xs, hxl with
 | [c0, c1, c2, c3, c4, c5], _, [y0, y1, y2, y3, y4, y5], _ =>
  obtain ⟨s0, r0, _⟩ := Rd.str (enc := enc0) (W := W) (n := m) Tryz.underlying9 [c0] y0 (hf 0 _ c0 y0 rfl rfl rfl)
  obtain ⟨s1, r1, _⟩ := Rd.str (enc := enc0) (W := W) (n := m) Tryz.underlying9 [c1] y1 (hf 1 _ c1 y1 rfl rfl rfl)
  obtain ⟨s2, r2, _⟩ := Rd.int (enc := enc0) (W := W) (n := m) Tryz.underlying3 [c2] y2 (hf 2 _ c2 y2 rfl rfl rfl)
  obtain ⟨s3, r3, _⟩ := Rd.int (enc := enc0) (W := W) (n := m) Tryz.underlying3 [c3] y3 (hf 3 _ c3 y3 rfl rfl rfl)
  obtain ⟨s4, r4, _⟩ := Rd.int (enc := enc0) (W := W) (n := m) Tryz.underlying3 [c4] y4 (hf 4 _ c4 y4 rfl rfl rfl)
  obtain ⟨s5, r5, _⟩ := Rd.bool (enc := enc0) (W := W) (n := m) Tryz.underlying4 [c5] y5 (hf 5 _ c5 y5 rfl rfl rfl)
  exact ⟨⟨s0, s1, s2, s3, s4, s5⟩, .cons r0.head (.cons r1.head (.cons r2.head (.cons r3.head (.cons r4.head (.cons r5.head (.nil _ _)))))), trivial⟩
/-- Directories that came in. -/
theorem open_dirs {v : Value} {d : DataW H} {p : List MemPlace} {base : Nat} (hv : Value.okWide Tryz.prog W .any base 54 v) (h : DataW.Trod enc0 Tryz.prog W 0 (fun _ => true) true 54 v d p) :
  ∃ l : List DirV, Rep W (allC W) (.sl .none 6 (l.map encDir)) v := by
 obtain ⟨fuel, hf⟩ := h
 obtain ⟨a, l, c, rfl⟩ := okWide_slice Tryz.underlying54 hv
 obtain ⟨l, hr, _⟩ := Rd.slice (enc := enc0) (W := W) (fuel := fuel) Tryz.underlying54 (k := 6) (f := encDir) (by kernel_rfl) (by omega) (fun a => ⟨rfl, rfl⟩) (fun m _ => rd_dir m) _ _ hf
 exact ⟨l, hr.head⟩
end Go.Tame.V
/- Contracts: identifiers the other way, the relocation directory's name, lists compared. By program (mk.py). -/
namespace Go.Tame.V
open Go Go.Proofs
variable {W0 : World}
set_option maxRecDepth 10000
set_option linter.unusedVariables false
set_option linter.unusedSimpArgs false

theorem G233 (s : List UInt8) (h : s.length ≤ 65536) : DFun Tryz.prog W0 233 [.str s] (.bool (s.all dU)) := by
 refine DFun.intro ti2_ok Tryz.func233 rfl (by decide +kernel) Tryz.ntmps233 rfl fun Γ => ?_
 refine Tri.seq ?_
 refine Tri.region ti2_ok ?_
 conv => whnf
 refine Tri.seq ?_
 refine Tri.seq ?_
 refine Tri.region ti2_ok ?_
 conv => whnf
 refine Tri.block ?_
 refine Tri.loop (α := { i : Nat // i ≤ s.length ∧ ∀ j (hj : j < s.length), j < i → dU s[j] = true }) (fun x => [(0, .str s), (3, .int .i64 x.1)]) (fun _ => []) (fun x => s.length - x.1) ⟨0, by simp⟩ ⟨.refl _, .refl _, trivial⟩ trivial ?_
 rintro ⟨i, hi, hp⟩
 dsimp only
 refine Tri.seq ?_
 refine Tri.seq ?_
 refine Tri.region ti2_ok ?_
 conv => whnf
 refine ⟨fun h => h, ?_⟩
 conv => whnf
 refine ⟨fun h0 h => by first | exact h | (rw [h]; rfl) | (rw [h0, h]; rfl), ?_⟩
 conv => whnf
 refine Tri.cond _ rfl (fun hc => ?_) (fun hc => ?_)
 ·refine Tri.skip ?_
  conv => whnf
  have hia : i < s.length := by
   rcases Nat.lt_or_ge i s.length with h | h
   ·exact h
   ·rw [show decide ((i : Int) < (s.length : Int)) = false from decide_eq_false (by omega)] at hc; cases hc
  refine Tri.seq ?_
  refine Tri.block ?_
  refine Tri.seq ?_
  refine Tri.region ti2_ok ?_
  conv => whnf
  refine ⟨s[i], fun _ => ⟨by omega, by simp [hia]⟩, ?_⟩
  conv => whnf
  refine ⟨[.int .u8 s[i].toNat], _, fun _ => F179 s[i].toNat, ⟨.refl _, trivial⟩, ?_⟩
  conv => whnf
  refine Tri.cond _ rfl (fun hc => ?_) (fun hc => ?_)
  ·refine Tri.seq ?_
   refine Tri.region ti2_ok ?_
   conv => whnf
   refine Tri.ret ?_
   conv => whnf
   have : s.all dU = false := by
    rw [List.all_eq_false]
    exact ⟨s[i], List.getElem_mem hia, by simpa [dU] using hc⟩
   rw [this]; exact .refl _
  ·refine Tri.skip ?_
   conv => whnf
   refine Tri.region ti2_ok ?_
   conv => whnf
   refine .inl ⟨fun _ => by simp [InR]; omega, ?_⟩
   conv => whnf
   exact ⟨⟨i + 1, hia, fun j hj hlt => (Nat.lt_succ_iff_lt_or_eq.1 hlt).elim (hp j hj) fun e => by subst e; simpa [dU] using hc⟩, by show _ - (i + 1) < _ - i; omega, ⟨.refl _, .refl _, trivial⟩, trivial⟩
 ·refine Tri.exit ?_
  conv => whnf
  refine Tri.seq ?_
  refine Tri.region ti2_ok ?_
  conv => whnf
  refine Tri.ret ?_
  conv => whnf
  have hin : i = s.length := by
   rcases Nat.lt_or_ge i s.length with h2 | h2
   ·rw [show decide ((i : Int) < (s.length : Int)) = true from decide_eq_true (by omega), show decide ((i : Int) ≤ 65536) = true from decide_eq_true (by omega)] at hc; cases hc
   ·omega
  have : s.all dU = true := by
   rw [List.all_eq_true]
   intro x hx
   obtain ⟨j, hj, rfl⟩ := List.mem_iff_getElem.1 hx
   exact hp j hj (by omega)
  rw [this]
  exact DLe.of_eq (congrArg D.bool (decide_eq_true (by omega)))
theorem G197 (s : List UInt8) (m : Int) (h : s.length ≤ 65536) : DFun Tryz.prog W0 197 [.str s, .int .i64 1, .int .i64 m] (.bool (isDB s m)) := by
 refine DFun.intro ti2_ok Tryz.func197 rfl (by decide +kernel) Tryz.ntmps197 rfl fun Γ => ?_
 refine Tri.seq ?_
 refine Tri.region ti2_ok ?_
 conv => whnf
 refine Tri.seq ?_
 refine Tri.region ti2_ok ?_
 conv => whnf
 refine ⟨fun h => h, ?_⟩
 conv => whnf
 refine ⟨fun h => h, ?_⟩
 conv => whnf
 refine ⟨fun h => h, ?_⟩
 conv => whnf
 refine ⟨fun h0 h => by first | exact h | (rw [h]; rfl) | (rw [h0, h]; rfl), ?_⟩
 conv => whnf
 refine ⟨fun h => h, ?_⟩
 conv => whnf
 refine ⟨[.str s], _, fun h0 => G233 s h, ⟨.refl _, trivial⟩, ?_⟩
 conv => whnf
 refine ⟨fun h0 h => by first | exact h | (rw [h]; rfl) | (rw [h0, h]; rfl), ?_⟩
 conv => whnf
 refine Tri.ret ?_
 conv => whnf
 refine DLe.of_eq (congrArg D.bool ?_)
 unfold isDB dStr
 rw [show decide (s.length ≤ 65536) = true from decide_eq_true h]
 by_cases h1 : (1 : Int) ≤ s.length <;> by_cases h2 : (s.length : Int) ≤ m <;> simp [h1, h2]
/-- The last point of a text. -/
def dotAt (s : List UInt8) : Nat → Int
 | 0 => -1
 | i + 1 => if s[i]? = some 46 then i else dotAt s i
theorem dotAt_none {s : List UInt8} (h : (46 : UInt8) ∉ s) : ∀ i, dotAt s i = -1
 | 0 => rfl
 | i + 1 => by rw [dotAt, if_neg (fun e => h (List.mem_of_getElem? e)), dotAt_none h i]
theorem dotAt_one {A B : List UInt8} (h' : (46 : UInt8) ∉ B) : dotAt (A ++ 46 :: B) (A ++ 46 :: B).length = A.length := by
 have key : ∀ j, j ≤ B.length → dotAt (A ++ 46 :: B) (A.length + 1 + j) = A.length := by
  intro j
  induction j with
  | zero => intro _; rw [Nat.add_zero, dotAt, if_pos (by simp)]
  | succ j ih =>
   intro hj
   rw [← Nat.add_assoc, dotAt, if_neg, ih (by omega)]
   rw [List.getElem?_append_right (by omega), show A.length + 1 + j - A.length = j + 1 by omega, List.getElem?_cons_succ]
   exact fun e => h' (List.mem_of_getElem? e)
 have := key B.length (Nat.le_refl _)
 rw [show (A ++ 46 :: B).length = A.length + 1 + B.length by simp; omega]; exact this
theorem dotAt_bound (s : List UInt8) : ∀ i, -1 ≤ dotAt s i ∧ dotAt s i < i
 | 0 => by simp [dotAt]
 | i + 1 => by
  have := dotAt_bound s i
  rw [dotAt]; split <;> omega
theorem G140 (s : List UInt8) (h : s.length < 1000000000) : DFun Tryz.prog W0 140 [.str s] (.int .i64 (dotAt s s.length)) := by
 refine DFun.intro ti2_ok Tryz.func140 rfl (by decide +kernel) Tryz.ntmps140 rfl fun Γ => ?_
 refine Tri.seq ?_
 refine Tri.region ti2_ok ?_
 conv => whnf
 refine Tri.seq ?_
 refine Tri.region ti2_ok ?_
 conv => whnf
 refine Tri.seq ?_
 refine Tri.seq ?_
 refine Tri.region ti2_ok ?_
 conv => whnf
 refine Tri.block ?_
 refine Tri.loop (α := { i : Nat // i ≤ s.length }) (fun x => [(0, .str s), (3, .int .i64 (dotAt s x.1)), (4, .int .i64 x.1)]) (fun _ => []) (fun x => s.length - x.1) ⟨0, by simp⟩ ⟨.refl _, .refl _, .refl _, trivial⟩ trivial ?_
 rintro ⟨i, hi⟩
 dsimp only
 refine Tri.seq ?_
 refine Tri.seq ?_
 refine Tri.region ti2_ok ?_
 conv => whnf
 refine Tri.cond (decide ((i : Int) < (s.length : Int))) rfl (fun hc => ?_) (fun hc => ?_)
 ·refine Tri.skip ?_
  conv => whnf
  have hia : i < s.length := by simpa using hc
  refine Tri.seq ?_
  refine Tri.block ?_
  refine Tri.seq ?_
  refine Tri.region ti2_ok ?_
  conv => whnf
  refine ⟨s[i], fun _ => ⟨by omega, by simp [hia]⟩, ?_⟩
  conv => whnf
  refine Tri.cond _ rfl (fun hc => ?_) (fun hc => ?_)
  ·refine Tri.region ti2_ok ?_
   conv => whnf
   refine Tri.region ti2_ok ?_
   conv => whnf
   refine .inl ⟨fun _ => by simp [InR]; omega, ?_⟩
   conv => whnf
   have e : dotAt s (i + 1) = i := by
    rw [dotAt, if_pos]
    rw [List.getElem?_eq_getElem hia]
    have h46 : s[i].toNat = 46 := by have h1 : ((s[i].toNat : Nat) : Int) = 46 := by simpa using hc
                                     omega
    rw [show s[i] = 46 from UInt8.toNat_inj.1 h46]
   exact ⟨⟨i + 1, hia⟩, by show _ - (i + 1) < _ - i; omega, ⟨.refl _, intDLe e.symm, .refl _, trivial⟩, trivial⟩
  ·refine Tri.skip ?_
   conv => whnf
   refine Tri.region ti2_ok ?_
   conv => whnf
   refine .inl ⟨fun _ => by simp [InR]; omega, ?_⟩
   conv => whnf
   have e : dotAt s (i + 1) = dotAt s i := by
    rw [dotAt, if_neg]
    rw [List.getElem?_eq_getElem hia]
    intro e
    rw [Option.some.injEq] at e
    rw [e] at hc
    exact absurd hc (by decide)
   exact ⟨⟨i + 1, hia⟩, by show _ - (i + 1) < _ - i; omega, ⟨.refl _, intDLe e.symm, .refl _, trivial⟩, trivial⟩
 ·refine Tri.exit ?_
  conv => whnf
  refine Tri.seq ?_
  refine Tri.region ti2_ok ?_
  conv => whnf
  refine Tri.ret ?_
  conv => whnf
  have hin : i = s.length := by simp at hc; omega
  subst hin; exact .refl _
/-- The shape of a name of the ISO view. -/
structure IsoForm (m : List UInt8) (dir : Bool) (A B : List UInt8) : Prop where
 a : isDB A 8 = true
 na : (46 : UInt8) ∉ A
 nb : (46 : UInt8) ∉ B
 eq : (B = [] ∧ m = A) ∨ (B ≠ [] ∧ dir = false ∧ isDB B 3 = true ∧ m = A ++ 46 :: B)
theorem IsoForm.name {m A B : List UInt8} {dir : Bool} (h : IsoForm m dir A B) : IsoName m dir := isoName_of h.a h.na h.nb h.eq
theorem IsoForm.file {m A B : List UInt8} {dir : Bool} (h : IsoForm m dir A B) : IsoForm m false A B := ⟨h.a, h.na, h.nb, by
 rcases h.eq with h | ⟨h1, h2, h3, h4⟩
 ·exact .inl h
 ·exact .inr ⟨h1, rfl, h3, h4⟩⟩
theorem isDB_len {s : List UInt8} {m : Int} (h : isDB s m = true) : (s.length : Int) ≤ m := by
 simp [isDB] at h; exact h.2.1
theorem IsoForm.len {m A B : List UInt8} {dir : Bool} (h : IsoForm m dir A B) : m.length ≤ 12 := by
 have := isDB_len h.a
 rcases h.eq with ⟨_, rfl⟩ | ⟨_, _, h3, rfl⟩
 ·omega
 ·have := isDB_len h3; simp; omega
theorem made_form {s : List UInt8} (hs : nameOk s = true) (dir : Bool) {k : Nat} (hk : k < 100) : ∃ A B, IsoForm (numS 0 (wantS 0 s dir).1 (wantS 0 s dir).2 k) dir A B := by
 obtain ⟨l, e, h0, h1⟩ := made_shape (.inl rfl) hs dir hk
 obtain ⟨a, b, h⟩ := h0 rfl
 rw [e]
 have hd46 : dU 46 = false := by decide
 refine ⟨runesB a, runesB b, iso_isDB (m := 8) h.ca h.a1 h.a8 (by decide), iso_no h.ca hd46, iso_no h.cb hd46, ?_⟩
 have hq := h.eq
 by_cases hb : b = []
 ·rw [if_pos hb] at hq
  exact .inl ⟨by rw [hb]; rfl, by rw [hq]⟩
 ·rw [if_neg hb] at hq
  refine .inr ⟨fun e => hb (runesB_nil.1 e), ?_, iso_isDB (m := 3) h.cb ?_ h.b3 (by decide), ?_⟩
  ·cases dir with
   | false => rfl
   | true => exact absurd (h.dir rfl) hb
  ·cases b with
   | nil => exact absurd rfl hb
   | cons x r => simp
  ·rw [hq, runesB_append, runesB_cons, enc_ascii 46 (by decide) (by decide)]; rfl
/-- The names of sorted kids in the ISO view have that shape. -/
theorem names_form {ks : List NV} (h64 : ks.length ≤ 64) (h : ∀ k ∈ ks, nameOk k.name = true) {i : Nat} (hi : i < ks.length) : ∃ A B, IsoForm ((namesG 0 ks)[i]'(by rw [namesG_len]; exact hi)) (ks[i].kind == 0) A B := by
 rw [namesG_at hi]
 obtain ⟨j, hj, e⟩ := pick_numS (.inl rfl) (usedG 0 (ks.take i)) ks[i] (by rw [usedG_len, List.length_take]; omega)
 rw [e]
 exact made_form (h _ (List.getElem_mem hi)) _ hj
theorem G139 {m A B : List UInt8} {dir : Bool} (h : IsoForm m dir A B) : DFun Tryz.prog W0 139 [.int .i64 0, .str m, .bool dir] (.bool true) := by
 have hml := h.len
 have hdb := dotAt_bound m m.length
 refine DFun.intro ti_ok Tryz.func139 rfl (by decide +kernel) Tryz.ntmps139 rfl fun Γ => ?_
 refine Tri.seq ?_
 refine Tri.region ti2_ok ?_
 conv => whnf
 refine Tri.seq ?_
 refine Tri.seq ?_
 refine Tri.region ti2_ok ?_
 conv => whnf
 refine ⟨[.int .i64 0], _, fun _ => F53 0, ⟨.refl _, trivial⟩, ?_⟩
 conv => whnf
 refine Tri.cond _ rfl (fun hc => ?_) (fun hc => ?_)
 ·refine Tri.seq ?_
  refine Tri.region ti2_ok ?_
  conv => whnf
  refine Tri.ret ?_
  conv => whnf
  cases hc
 ·refine Tri.skip ?_
  conv => whnf
  refine Tri.seq ?_
  refine Tri.seq ?_
  refine Tri.region ti2_ok ?_
  conv => whnf
  refine Tri.cond _ rfl (fun hc => ?_) (fun hc => ?_)
  ·refine Tri.seq ?_
   refine Tri.region ti2_ok ?_
   conv => whnf
   refine ⟨[.str m], _, fun _ => G140 m (by omega), ⟨.refl _, trivial⟩, ?_⟩
   conv => whnf
   refine Tri.seq ?_
   refine Tri.seq ?_
   refine Tri.region ti2_ok ?_
   conv => whnf
   refine ⟨fun h => h, ?_⟩
   conv => whnf
   refine ⟨fun h0 h => by first | exact h | (rw [h]; rfl) | (rw [h0, h]; rfl), ?_⟩
   conv => whnf
   refine Tri.cond _ rfl (fun hc => ?_) (fun hc => ?_)
   ·refine Tri.seq ?_
    refine Tri.region ti2_ok ?_
    conv => whnf
    refine ⟨[.str m, .int .i64 1, .int .i64 8], _, fun _ => G197 m 8 (by omega), ⟨.refl _, .refl _, .refl _, trivial⟩, ?_⟩
    conv => whnf
    refine Tri.ret ?_
    conv => whnf
    rcases h.eq with ⟨_, rfl⟩ | ⟨_, h2, h3, rfl⟩
    ·rw [h.a]; exact .refl _
    ·exfalso
     rw [h2, dotAt_one h.nb] at hc
     have : decide ((A.length : Int) < 0) = false := decide_eq_false (by omega)
     rw [this] at hc; cases hc
   ·refine Tri.skip ?_
    conv => whnf
    obtain ⟨_, h2, h3, hm⟩ : B ≠ [] ∧ dir = false ∧ isDB B 3 = true ∧ m = A ++ 46 :: B := by
     rcases h.eq with ⟨_, rfl⟩ | h
     ·exfalso
      rw [dotAt_none h.na] at hc
      cases dir <;> cases hc
     ·exact h
    have hd : dotAt m m.length = A.length := by rw [hm, dotAt_one h.nb]
    have hal : A.length + 1 + B.length = m.length := by rw [hm]; simp; omega
    rw [hd]
    have ht : (m.take ((A.length : Nat) : Int).toNat).drop (Int.toNat 0) = A := by
     rw [hm]; simp
    have hdr : (m.take ((m.length : Nat) : Int).toNat).drop ((A.length : Int) + 1).toNat = B := by
     rw [show ((m.length : Nat) : Int).toNat = m.length from rfl, List.take_length, show ((A.length : Int) + 1).toNat = A.length + 1 by omega, hm]
     simp [List.drop_append]
    have hA := isDB_len h.a
    have hB := isDB_len h3
    refine Tri.seq ?_
    refine Tri.region ti2_ok ?_
    conv => whnf
    refine ⟨fun _ => by simp; omega, ?_⟩
    conv => whnf
    refine ⟨[.str A, .int .i64 1, .int .i64 8], _, fun _ => G197 A 8 (by omega), ⟨DLe.of_eq (congrArg D.str ht), .refl _, .refl _, trivial⟩, ?_⟩
    conv => whnf
    refine ⟨fun h => h, ?_⟩
    conv => whnf
    refine .inl ⟨fun h => by simp [InR]; omega, ?_⟩
    conv => whnf
    refine ⟨fun h => h, ?_⟩
    conv => whnf
    refine ⟨fun h => h, ?_⟩
    conv => whnf
    refine ⟨fun h => by simp; omega, ?_⟩
    conv => whnf
    refine ⟨fun h => h, ?_⟩
    conv => whnf
    refine ⟨[.str B, .int .i64 1, .int .i64 3], _, fun _ => G197 B 3 (by omega), ⟨DLe.of_eq (congrArg D.str hdr), .refl _, .refl _, trivial⟩, ?_⟩
    conv => whnf
    refine ⟨fun h0 h => by first | exact h | (rw [h]; rfl) | (rw [h0, h]; rfl), ?_⟩
    conv => whnf
    refine Tri.ret ?_
    conv => whnf
    rw [h.a, h3]; exact .refl _
  ··cases hc
theorem G98 {m A B : List UInt8} {dir : Bool} (h : IsoForm m dir A B) : DFun Tryz.prog W0 98 [.str m, .bool dir] (.tup [.str (identI m dir).1, .int .i64 (identI m dir).2]) := by
 have hml := h.len
 have hv := h.name.valid
 have hid : identI m dir = if dir = true then (m, 0) else if hasDot m = true then (m ++ [59, 49], 0) else (m ++ [46, 59, 49], 0) := by rw [identI, if_pos hv]
 refine DFun.intro ti_ok Tryz.func98 rfl (by decide +kernel) Tryz.ntmps98 rfl fun Γ => ?_
 refine Tri.seq ?_
 refine Tri.region ti2_ok ?_
 conv => whnf
 refine Tri.seq ?_
 refine Tri.seq ?_
 refine Tri.region ti2_ok ?_
 conv => whnf
 refine ⟨[.int .i64 0, .str m, .bool dir], _, fun _ => G139 h, ⟨.refl _, .refl _, .refl _, trivial⟩, ?_⟩
 conv => whnf
 refine Tri.cond _ rfl (fun hc => ?_) (fun hc => ?_)
 ·refine Tri.seq ?_
  refine Tri.region ti2_ok ?_
  conv => whnf
  refine Tri.ret ?_
  conv => whnf
  cases hc
 ·refine Tri.skip ?_
  conv => whnf
  refine Tri.seq ?_
  refine Tri.seq ?_
  refine Tri.region ti2_ok ?_
  conv => whnf
  refine Tri.cond _ rfl (fun hc => ?_) (fun hc => ?_)
  ·refine Tri.seq ?_
   refine Tri.region ti2_ok ?_
   conv => whnf
   refine Tri.ret ?_
   conv => whnf
   have hd : dir = true := hc
   rw [hid, if_pos hd]; exact ⟨.refl _, .refl _, trivial⟩
  ·refine Tri.skip ?_
   conv => whnf
   have hd : dir = false := hc
   have hneg : dotAt m m.length < 0 ↔ ¬ hasDot m = true := by
    rw [hasDot_iff]
    rcases h.eq with ⟨_, hm⟩ | ⟨_, _, _, hm⟩
    ·have h0 : (46 : UInt8) ∉ m := by rw [hm]; exact h.na
     rw [dotAt_none h0]; simp [h0]
    ·rw [hm, dotAt_one h.nb]; simp
   refine Tri.seq ?_
   refine Tri.seq ?_
   refine Tri.region ti2_ok ?_
   conv => whnf
   refine ⟨[.str m], _, fun _ => G140 m (by omega), ⟨.refl _, trivial⟩, ?_⟩
   conv => whnf
   refine Tri.cond _ rfl (fun hc => ?_) (fun hc => ?_)
   ·refine Tri.seq ?_
    refine Tri.region ti2_ok ?_
    conv => whnf
    refine ⟨fun _ => by simp; omega, ?_⟩
    conv => whnf
    refine Tri.ret ?_
    conv => whnf
    have hn : ¬ hasDot m = true := hneg.1 (by simpa using hc)
    rw [hid, if_neg (by rw [hd]; decide), if_neg hn]; exact ⟨.refl _, .refl _, trivial⟩
   ·refine Tri.skip ?_
    conv => whnf
    refine Tri.seq ?_
    refine Tri.region ti2_ok ?_
    conv => whnf
    refine ⟨fun _ => by simp; omega, ?_⟩
    conv => whnf
    refine Tri.ret ?_
    conv => whnf
    have hn : hasDot m = true := by
     cases hh : hasDot m with
     | true => rfl
     | false => exact absurd (hneg.2 (by rw [hh]; decide)) (by simpa using hc)
    rw [hid, if_neg (by rw [hd]; decide), if_pos hn]; exact ⟨.refl _, .refl _, trivial⟩
theorem G134 (l : List (List UInt8)) (s : List UInt8) (hl : l.length < 1000000000) : DFun Tryz.prog W0 134 [.sl .none 1 (strs l), .str s] (.bool (decide (s ∈ l))) := by
 refine DFun.intro ti2_ok Tryz.func134 rfl (by decide +kernel) Tryz.ntmps134 rfl fun Γ => ?_
 refine Tri.seq ?_
 refine Tri.region ti2_ok ?_
 conv => whnf
 refine Tri.seq ?_
 refine Tri.seq ?_
 refine Tri.region ti2_ok ?_
 conv => whnf
 refine Tri.block ?_
 refine Tri.loop (α := { i : Nat // i ≤ l.length ∧ ∀ j (h : j < l.length), j < i → l[j] ≠ s }) (fun x => [(0, .sl .none 1 (strs l)), (1, .str s), (5, .int .i64 x.1)]) (fun _ => []) (fun x => l.length - x.1) ⟨0, by simp⟩ ⟨.refl _, .refl _, .refl _, trivial⟩ trivial ?_
 rintro ⟨i, hi, hp⟩
 dsimp only
 refine Tri.seq ?_
 refine Tri.seq ?_
 refine Tri.region ti2_ok ?_
 conv => whnf
 refine Tri.cond (decide ((i : Int) < (strs l).length)) rfl (fun hc => ?_) (fun hc => ?_)
 ·refine Tri.skip ?_
  conv => whnf
  have hia : i < l.length := by simpa [strs] using hc
  refine Tri.seq ?_
  refine Tri.block ?_
  refine Tri.seq ?_
  refine Tri.region ti2_ok ?_
  conv => whnf
  refine ⟨fun _ => by simp [strs]; omega, ?_⟩
  conv => whnf
  refine ⟨.str l[i], fun _ => by simp [strs, hia], ?_⟩
  conv => whnf
  refine Tri.cond (l[i] == s) rfl (fun hc => ?_) (fun hc => ?_)
  ·refine Tri.seq ?_
   refine Tri.region ti2_ok ?_
   conv => whnf
   refine Tri.ret ?_
   conv => whnf
   have : s ∈ l := by
    have := beq_iff_eq.1 hc
    rw [← this]; exact List.getElem_mem hia
   exact DLe.of_eq (congrArg D.bool (decide_eq_true this).symm)
  ·refine Tri.skip ?_
   conv => whnf
   refine Tri.region ti2_ok ?_
   conv => whnf
   refine .inl ⟨fun _ => by simp [InR]; omega, ?_⟩
   conv => whnf
   exact ⟨⟨i + 1, by omega, fun j hj hlt => (Nat.lt_succ_iff_lt_or_eq.1 hlt).elim (hp j hj) fun e => by subst e; simpa using hc⟩, by show _ - (i + 1) < _ - i; omega, ⟨.refl _, .refl _, .refl _, trivial⟩, trivial⟩
 ·refine Tri.exit ?_
  conv => whnf
  refine Tri.seq ?_
  refine Tri.region ti2_ok ?_
  conv => whnf
  refine Tri.ret ?_
  conv => whnf
  have : s ∉ l := fun hm => by
   obtain ⟨j, hj, e⟩ := List.mem_iff_getElem.1 hm
   exact hp j hj (by simp [strs] at hc; omega) e
  exact DLe.of_eq (congrArg D.bool (decide_eq_false this).symm)
theorem rr_dec (i : Nat) : [82, 82, 95, 77, 79, 86] ++ Lib.decDigits (i + 1) = rrN (i + 1) := by rw [rrN, if_neg (by omega)]
theorem dig_len : ∀ k, k < 100 → (Lib.decDigits k).length ≤ 2 := by decide +kernel
theorem G95 (hL : LibOk W0) (n : NV) (h64 : n.kids.length ≤ 64) (hok : ∀ k ∈ n.kids, nameOk k.name = true ∧ k.name.length < 1000000000) (hinc : inc n.kids) : DFun Tryz.prog W0 95 [encTop n] (.str (rrN (rrK (namesG 0 n.kids)))) := by
 obtain ⟨r1, r2, r3⟩ := rr_ok (U := namesG 0 n.kids) (by rw [namesG_len]; exact h64)
 refine DFun.intro ti_ok Tryz.func95 rfl (by decide +kernel) Tryz.ntmps95 rfl fun Γ => ?_
 refine Tri.seq ?_
 refine Tri.region ti2_ok ?_
 conv => whnf
 intro b1
 conv => whnf
 refine Tri.seq ?_
 refine Tri.region ti2_ok ?_
 conv => whnf
 refine ⟨rfl, ?_⟩
 conv => whnf
 refine ⟨[.int .i64 0, .sl .none 12 (n.kids.map enc)], _, fun _ => F72 0 (by decide) n.kids h64 hok hinc, ⟨.refl _, .refl _, trivial⟩, ?_⟩
 conv => whnf
 refine Tri.seq ?_
 refine Tri.region ti2_ok ?_
 conv => whnf
 refine Tri.seq ?_
 refine Tri.seq ?_
 refine Tri.region ti2_ok ?_
 conv => whnf
 refine Tri.block ?_
 refine Tri.loop (α := { i : Nat // i ≤ rrK (namesG 0 n.kids) }) (fun x => [(3, .sl .none 1 (strs (namesG 0 n.kids))), (5, .str (rrN x.1)), (6, .int .i64 ((x.1 : Int) + 1))]) (fun _ => []) (fun x => rrK (namesG 0 n.kids) - x.1) ⟨0, Nat.zero_le _⟩ ⟨.refl _, .refl _, .refl _, trivial⟩ trivial ?_
 rintro ⟨i, hi⟩
 dsimp only
 refine Tri.seq ?_
 refine Tri.seq ?_
 refine Tri.region ti2_ok ?_
 conv => whnf
 refine ⟨[.sl .none 1 (strs (namesG 0 n.kids)), .str (rrN i)], _, fun _ => G134 _ _ (by rw [namesG_len]; omega), ⟨.refl _, .refl _, trivial⟩, ?_⟩
 conv => whnf
 refine Tri.cond _ rfl (fun hc => ?_) (fun hc => ?_)
 ·refine Tri.skip ?_
  conv => whnf
  have hm : rrN i ∈ namesG 0 n.kids := by simpa using hc
  have hia : i < rrK (namesG 0 n.kids) := by
   rcases Nat.lt_or_ge i (rrK (namesG 0 n.kids)) with h | h
   ·exact h
   ·have : i = rrK (namesG 0 n.kids) := by omega
    subst this; exact absurd hm r2
  have hdl := dig_len (i + 1) (by omega)
  refine Tri.seq ?_
  refine Tri.block ?_
  refine Tri.region ti2_ok ?_
  conv => whnf
  refine ⟨[.int .i64 ((i + 1 : Nat) : Int)], _, fun _ => F118r (i + 1) (by omega), ⟨.refl _, trivial⟩, ?_⟩
  conv => whnf
  refine ⟨fun _ => by simp; omega, ?_⟩
  conv => whnf
  refine Tri.region ti2_ok ?_
  conv => whnf
  refine .inl ⟨fun _ => by simp [InR]; omega, ?_⟩
  conv => whnf
  exact ⟨⟨i + 1, hia⟩, by show _ - (i + 1) < _ - i; omega, ⟨.refl _, DLe.of_eq (congrArg D.str (rr_dec i)), .refl _, trivial⟩, trivial⟩
 ·refine Tri.exit ?_
  conv => whnf
  refine Tri.seq ?_
  refine Tri.region ti2_ok ?_
  conv => whnf
  refine Tri.ret ?_
  conv => whnf
  have hm : rrN i ∉ namesG 0 n.kids := by simpa using hc
  have : i = rrK (namesG 0 n.kids) := by
   rcases Nat.lt_or_ge i (rrK (namesG 0 n.kids)) with h | h
   ·exact absurd (r3 i h) hm
   ·omega
  subst this; exact .refl _
theorem G92 (hL : LibOk W0) (kids : List NV) (h64 : kids.length ≤ 64) (hok : ∀ k ∈ kids, nameOk k.name = true ∧ k.name.length < 1000000000) (hinc : inc kids) : DFun Tryz.prog W0 92 [.sl .none 12 (kids.map enc)] (.str (rrN (rrK (namesG 0 kids)))) := by
 obtain ⟨r1, r2, r3⟩ := rr_ok (U := namesG 0 kids) (by rw [namesG_len]; exact h64)
 have hU := namesG_len 0 kids
 refine DFun.intro ti_ok Tryz.func92 rfl (by decide +kernel) Tryz.ntmps92 rfl fun Γ => ?_
 refine Tri.seq ?_
 refine Tri.region ti2_ok ?_
 conv => whnf
 refine Tri.seq ?_
 refine Tri.region ti2_ok ?_
 conv => whnf
 refine ⟨[.int .i64 0, .sl .none 12 (kids.map enc)], _, fun _ => ((namesGok hL (v := 0) (by decide)).call kids h64 hinc hok).1, ⟨.refl _, .refl _, trivial⟩, ?_⟩
 conv => whnf
 refine Tri.seq ?_
 refine Tri.regionX ti2_ok ?_
 conv => whnf
 refine .inr (XOp.makeMap fun mb => ?_)
 conv => whnf
 refine Tri.seq ?_
 refine Tri.seq ?_
 refine Tri.region ti2_ok ?_
 conv => whnf
 refine Tri.block ?_
 refine Tri.loopK (α := { i : Nat // i ≤ kids.length } × List (List UInt8)) (fun x => [(5, .raw (.map (some mb))), (16, .sl .none 1 (strs (namesG 0 kids))), (17, .int .i64 (strs (namesG 0 kids)).length), (18, .int .i64 x.1.1)]) (fun x => [(15, .set mb ((namesG 0 kids).take x.1.1).reverse)]) (fun x => kids.length - x.1.1) (⟨0, Nat.zero_le _⟩, []) [(15, 15)] ⟨⟨.refl _, .refl _, .refl _, .refl _, trivial⟩, rfl, rfl, rfl, trivial⟩ ?_
 rintro ⟨⟨i, hi⟩, _⟩
 dsimp only
 refine Tri.seq ?_
 refine Tri.region ti2_ok ?_
 conv => whnf
 refine Tri.seq ?_
 refine Tri.cond (decide ((i : Int) < (strs (namesG 0 kids)).length)) rfl (fun hc => ?_) (fun hc => ?_)
 ·refine Tri.skip ?_
  conv => whnf
  have hia : i < kids.length := by simpa [strs, hU] using hc
  have hiu : i < (namesG 0 kids).length := by omega
  refine Tri.seq ?_
  refine Tri.block ?_
  refine Tri.seq ?_
  refine Tri.region ti2_ok ?_
  conv => whnf
  refine ⟨fun _ => by simp [strs]; omega, ?_⟩
  conv => whnf
  refine ⟨.str (namesG 0 kids)[i], fun _ => by simp [strs, hiu], ?_⟩
  conv => whnf
  refine Tri.regionX ti2_ok ?_
  conv => whnf
  refine .inr (XOp.setUpdate 15 (kt := 9) (et := 4) rfl rfl rfl rfl rfl rfl ?_)
  conv => whnf
  refine Tri.region ti2_ok ?_
  conv => whnf
  refine .inl ⟨fun _ => by simp [InR]; omega, ?_⟩
  conv => whnf
  exact ⟨(⟨i + 1, hia⟩, []), [(15, 15)], by show _ - (i + 1) < _ - i; omega, ⟨.refl _, .refl _, .refl _, .refl _, trivial⟩, rfl, rfl, congrArg (fun z => some (HObj.set mb z)) (by rw [List.take_succ_eq_append_getElem hiu, List.reverse_append]; rfl), trivial⟩
 ·refine Tri.exit ?_
  conv => whnf
  have hin : i = kids.length := by simp [strs, hU] at hc; omega
  have hall : (namesG 0 kids).take i = namesG 0 kids := List.take_of_length_le (by omega)
  rw [hall]
  refine Tri.seq ?_
  refine Tri.region ti2_ok ?_
  conv => whnf
  refine Tri.seq ?_
  refine Tri.seq ?_
  refine Tri.region ti2_ok ?_
  conv => whnf
  refine Tri.block ?_
  refine Tri.loopK (α := { i : Nat // i ≤ rrK (namesG 0 kids) }) (fun x => [(5, .raw (.map (some mb))), (8, .str (rrN x.1)), (9, .int .i64 ((x.1 : Int) + 1))]) (fun x => [(15, .set mb (namesG 0 kids).reverse)]) (fun x => rrK (namesG 0 kids) - x.1) ⟨0, Nat.zero_le _⟩ [(15, 15)] ⟨⟨.refl _, .refl _, .refl _, trivial⟩, rfl, rfl, rfl, trivial⟩ ?_
  rintro ⟨i, hi⟩
  dsimp only
  refine Tri.seq ?_
  refine Tri.seq ?_
  refine Tri.regionX ti2_ok ?_
  conv => whnf
  refine .inr (XOp.setLookup 15 (kt := 9) (et := 4) rfl rfl (fun w => rfl) rfl rfl rfl ?_)
  conv => whnf
  refine Tri.cond _ rfl (fun hc => ?_) (fun hc => ?_)
  ·refine Tri.skip ?_
   conv => whnf
   have hm : rrN i ∈ namesG 0 kids := by simpa using hc
   have hia : i < rrK (namesG 0 kids) := by
    rcases Nat.lt_or_ge i (rrK (namesG 0 kids)) with h | h
    ·exact h
    ·have : i = rrK (namesG 0 kids) := by omega
     subst this; exact absurd hm r2
   have hdl := dig_len (i + 1) (by omega)
   refine Tri.seq ?_
   refine Tri.block ?_
   refine Tri.region ti2_ok ?_
   conv => whnf
   refine ⟨[.int .i64 ((i + 1 : Nat) : Int)], _, fun _ => F143 (i + 1) (by omega), ⟨.refl _, trivial⟩, ?_⟩
   conv => whnf
   refine ⟨fun _ => by simp; omega, ?_⟩
   conv => whnf
   refine Tri.region ti2_ok ?_
   conv => whnf
   refine .inl ⟨fun _ => by simp [InR]; omega, ?_⟩
   conv => whnf
   exact ⟨⟨i + 1, hia⟩, [(15, 15)], by show _ - (i + 1) < _ - i; omega, ⟨.refl _, DLe.of_eq (congrArg D.str (rr_dec i)), .refl _, trivial⟩, rfl, rfl, rfl, trivial⟩
  ·refine Tri.exit ?_
   conv => whnf
   refine Tri.seq ?_
   refine Tri.region ti2_ok ?_
   conv => whnf
   refine Tri.ret ?_
   conv => whnf
   have hm : rrN i ∉ namesG 0 kids := by simpa using hc
   have : i = rrK (namesG 0 kids) := by
    rcases Nat.lt_or_ge i (rrK (namesG 0 kids)) with h | h
    ·exact absurd (r3 i h) hm
    ·omega
   subst this; exact .refl _
theorem G91 (i : Int) (s : Nat) (hi : -1 ≤ i ∧ i < 1000000) (hs : s ≤ 1) : DFun Tryz.prog W0 91 [.int .i64 i, .elm 1 [.int .i64 (s : Int)] 0 0] (.int .i64 (if i ≤ 0 then i else i + s)) := by
 refine DFun.intro ti2_ok Tryz.func91 rfl (by decide +kernel) Tryz.ntmps91 rfl fun Γ => ?_
 refine Tri.seq ?_
 refine Tri.region ti2_ok ?_
 conv => whnf
 refine Tri.seq ?_
 refine Tri.seq ?_
 refine Tri.region ti2_ok ?_
 conv => whnf
 refine Tri.cond _ rfl (fun hc => ?_) (fun hc => ?_)
 ·refine Tri.seq ?_
  refine Tri.region ti2_ok ?_
  conv => whnf
  refine Tri.ret ?_
  conv => whnf
  have h0 : i ≤ 0 := by simpa using hc
  rw [if_pos h0]; exact .refl _
 ·refine Tri.skip ?_
  conv => whnf
  refine Tri.seq ?_
  refine Tri.region ti2_ok ?_
  conv => whnf
  refine ⟨.int .i64 (s : Int), fun _ => rfl, ?_⟩
  conv => whnf
  refine .inl ⟨fun _ => by simp [InR]; omega, ?_⟩
  conv => whnf
  refine Tri.ret ?_
  conv => whnf
  have h0 : ¬ i ≤ 0 := by simpa using hc
  rw [if_neg h0]; exact .refl _
theorem get_at {α : Type} {f : α → D} {l : List α} {i : Nat} (h : i < l.length) : (l.map f)[i]? = some (f l[i]) := by simp [h]
end Go.Tame.V
/- Contracts: the reference's spots. By program (mkrc.py, mk.py). -/
namespace Go.Tame.V
open Go Go.Proofs
variable {W0 : World}
set_option maxRecDepth 10000
set_option linter.unusedVariables false
set_option linter.unusedSimpArgs false

theorem spL_next (x : XS) : ∀ {ks : List NV} {ms : List (List UInt8)} {i : Nat} (h : i < ks.length) (h' : i < ms.length) (c : Cn),
  spL (ks.take (i + 1)) (ms.take (i + 1)) x c = spL (ks.take i) (ms.take i) x c ++ (if (child x ks[i] ms[i] (c.addL (spL (ks.take i) (ms.take i) x c))).any then child x ks[i] ms[i] (c.addL (spL (ks.take i) (ms.take i) x c)) :: spT ks[i] (child x ks[i] ms[i] (c.addL (spL (ks.take i) (ms.take i) x c))) ((c.addL (spL (ks.take i) (ms.take i) x c)).add (child x ks[i] ms[i] (c.addL (spL (ks.take i) (ms.take i) x c)))) else [])
 | k :: r, m :: ms, 0, _, _, c => by
  simp only [List.take_succ_cons, List.take_zero, spL, Cn.addL_nil, List.getElem_cons_zero, List.append_nil, List.nil_append]
 | k :: r, m :: ms, i + 1, h, h', c => by
  have hi : i < r.length := by simpa using h
  have hm : i < ms.length := by simpa using h'
  simp only [List.take_succ_cons, spL, List.getElem_cons_succ]
  by_cases ha : (child x k m c).any = true
  ·rw [if_pos ha, if_pos ha]
   have ih := spL_next x hi hm ((c.add (child x k m c)).addL (spT k (child x k m c) (c.add (child x k m c))))
   have e : c.addL (child x k m c :: (spT k (child x k m c) (c.add (child x k m c)) ++ spL (r.take i) (ms.take i) x ((c.add (child x k m c)).addL (spT k (child x k m c) (c.add (child x k m c)))))) = ((c.add (child x k m c)).addL (spT k (child x k m c) (c.add (child x k m c)))).addL (spL (r.take i) (ms.take i) x ((c.add (child x k m c)).addL (spT k (child x k m c) (c.add (child x k m c))))) := by
    rw [Cn.addL_cons, Cn.addL_append]
   rw [e, ih, List.cons_append, List.append_assoc]
  ·rw [if_neg ha, if_neg ha]
   exact spL_next x hi hm c
theorem sp_next (x : XS) (c : Cn) (l0 : List XS) {ks : List NV} {ms : List (List UInt8)} {i : Nat} (h : i < ks.length) (h' : i < ms.length) :
  (l0 ++ x :: spL (ks.take i) (ms.take i) x c ++ (if (child x ks[i] ms[i] (c.addL (spL (ks.take i) (ms.take i) x c))).any then child x ks[i] ms[i] (c.addL (spL (ks.take i) (ms.take i) x c)) :: spT ks[i] (child x ks[i] ms[i] (c.addL (spL (ks.take i) (ms.take i) x c))) ((c.addL (spL (ks.take i) (ms.take i) x c)).add (child x ks[i] ms[i] (c.addL (spL (ks.take i) (ms.take i) x c)))) else [])).map encSp = (l0 ++ x :: spL (ks.take (i + 1)) (ms.take (i + 1)) x c).map encSp := by
 rw [spL_next x h h' c]; simp
mutual
theorem spT_len : ∀ (n : NV) (x : XS) (c : Cn), (spT n x c).length + 1 ≤ cnt n
 | .mk _ _ _ _ _ _ _ _ _ _ ks _, x, c => by
  have := spL_len ks (namesG 0 ks) x c
  simp only [spT, cnt]; omega
theorem spL_len : ∀ (ks : List NV) (ms : List (List UInt8)) (x : XS) (c : Cn), (spL ks ms x c).length ≤ cntL ks
 | [], _, _, _ => by simp [spL]
 | k :: r, [], _, _ => by simp [spL]
 | k :: r, m :: ms, x, c => by
  simp only [spL, cntL]
  split
  ·have h1 := spT_len k (child x k m c) (c.add (child x k m c))
   have h2 := spL_len r ms x ((c.add (child x k m c)).addL (spT k (child x k m c) (c.add (child x k m c))))
   simp only [List.length_cons, List.length_append]; omega
  ·have := spL_len r ms x c; omega
end
theorem kid_cnt : ∀ {ks : List NV} {i : Nat} (h : i < ks.length), cntL (ks.take i) + cnt ks[i] ≤ cntL ks
 | k :: r, 0, _ => by simp [cntL]
 | k :: r, i + 1, h => by have := kid_cnt (ks := r) (i := i) (by simpa using h); simp only [List.take_succ_cons, cntL, List.getElem_cons_succ]; omega

theorem G93 (hL : LibOk W0) (rr : Bool) : ∀ (N : Nat) (n : NV), sz n < N → okT n → ∀ (x : XS) (c : Cn) (l0 : List XS) (v : Value), x.n = n → c.ns = x.si + 1 → l0.length = x.si → (x.rock = true → rr = true) → 1 ≤ x.lv → x.lv + sz n < 1000000000 → x.path.length + 1200 * sz n < 1000000000 → l0.length + cnt n < 1000000 → DCall Tryz.prog W0 93 [.sl (.own 2000 v) 19 (l0.map encSp), encSp x, .bool rr] (look [(2000, .own v (l0.map encSp).length 19 123)]) fun d H' => ∃ v', d = .sl (.own 2000 v') 19 ((l0 ++ x :: spT n x c).map encSp) ∧ H' = look [(2000, .own v' ((l0 ++ x :: spT n x c).map encSp).length 19 123)] := by
 refine fun N => Nat.rec (fun n h => absurd h (Nat.not_lt_zero _)) (fun N ih n hN hok x c l0 v hxn hns hl0 hxr hlv hlv2 hpl hlen => ?_) N
 obtain ⟨h64, _, hinc, hokl⟩ := (okT_eq n).1 hok
 have hnk : ∀ k ∈ n.kids, nameOk k.name = true ∧ k.name.length < 1000000000 := fun k hk => (okL_get hokl hk).1
 have hnl := namesG_len 0 n.kids
 have hcnt := cnt_eq n
 have hxx : encSp x = .agg [.str n.name, .int .i64 n.kind, .str n.text, .str n.target, .int .i64 n.n1, .int .i64 n.n2, .int .i64 n.n3, .int .i64 n.n4, .int .i64 n.n5, .int .i64 n.n6, .sl .none 12 (n.kids.map enc), .sl .none 2 (n.streams.map encS), .str x.path, .str x.id, .str x.file, .int .i64 (x.ab : Int), .int .i64 x.lv, .bool x.iso, .bool x.rock] := by rw [encSp, hxn]
 rw [hxx]
 refine DCall.intro ti2_ok Tryz.func93 rfl (by decide +kernel) Tryz.ntmps93 rfl fun Γ => ?_
 refine Tri.seq ?_
 refine Tri.region ti2_ok ?_
 conv => whnf
 intro b4
 conv => whnf
 refine Tri.seq ?_
 refine Tri.region ti2_ok ?_
 conv => whnf
 refine Tri.seq ?_
 refine Tri.region ti2_ok ?_
 conv => whnf
 refine ⟨rfl, ?_⟩
 conv => whnf
 refine ⟨trivial, ?_⟩
 conv => whnf
 refine ⟨rfl, rfl, ?_⟩
 conv => whnf
 refine ⟨by show (_ + _) * 224 ≤ _; simp; omega, by show _ + _ ≤ _; simp; omega, (fun h => by cases h), fun w => ?_⟩
 conv => whnf
 refine Tri.seq ?_
 refine Tri.region ti2_ok ?_
 conv => whnf
 refine ⟨rfl, ?_⟩
 conv => whnf
 refine ⟨[.int .i64 0, .sl .none 12 (n.kids.map enc)], _, fun _ => F72 0 (by decide) n.kids h64 hnk hinc, ⟨.refl _, .refl _, trivial⟩, ?_⟩
 conv => whnf
 refine Tri.seq ?_
 refine Tri.seq ?_
 refine Tri.region ti2_ok ?_
 conv => whnf
 refine Tri.block ?_
 have h0eq : l0.map encSp ++ [.agg [.str n.name, .int .i64 n.kind, .str n.text, .str n.target, .int .i64 n.n1, .int .i64 n.n2, .int .i64 n.n3, .int .i64 n.n4, .int .i64 n.n5, .int .i64 n.n6, .sl .none 12 (n.kids.map enc), .sl .none 2 (n.streams.map encS), .str x.path, .str x.id, .str x.file, .int .i64 (x.ab : Int), .int .i64 x.lv, .bool x.iso, .bool x.rock]] = (l0 ++ x :: spL (n.kids.take 0) ((namesG 0 n.kids).take 0) x c).map encSp := by
  rw [← hxx]; simp [spL]
 refine Tri.loopK (α := { i : Nat // i ≤ n.kids.length } × Value) (fun z => [(0, .sl (.own 200 z.2) 19 ((l0 ++ x :: spL (n.kids.take z.1.1) ((namesG 0 n.kids).take z.1.1) x c).map encSp)), (2, .bool rr), (4, .box 4 b4 0), (7, .int .i64 (x.si : Int)), (8, .sl .none 1 (strs (namesG 0 n.kids))), (10, .int .i64 (z.1.1 : Int))])
  (fun z => [(200, .own z.2 ((l0 ++ x :: spL (n.kids.take z.1.1) ((namesG 0 n.kids).take z.1.1) x c).map encSp).length 19 123), (4, .box b4 [.str n.name, .int .i64 n.kind, .str n.text, .str n.target, .int .i64 n.n1, .int .i64 n.n2, .int .i64 n.n3, .int .i64 n.n4, .int .i64 n.n5, .int .i64 n.n6, .sl .none 12 (n.kids.map enc), .sl .none 2 (n.streams.map encS), .str x.path, .str x.id, .str x.file, .int .i64 (x.ab : Int), .int .i64 x.lv, .bool x.iso, .bool x.rock])]) (fun z => n.kids.length - z.1.1) (⟨0, Nat.zero_le _⟩, w) [(200, 18), (4, 4)]
  ⟨⟨DLe.trans (DLe.of_eq (congrArg (D.sl (.own 18 w) 19) h0eq)) (DLe.own 18 200), .refl _, .refl _, DLe.of_eq (congrArg (D.int .i64) (by rw [← hl0]; simp)), .refl _, .refl _, trivial⟩, rfl, rfl, congrArg (fun z : Nat => some (HObj.own w z 19 123)) (by rw [← h0eq, List.length_append]; rfl), rfl, rfl, trivial⟩ ?_
 rintro ⟨⟨i, hi⟩, w⟩
 dsimp only
 refine Tri.seq ?_
 refine Tri.seq ?_
 refine Tri.region ti2_ok ?_
 conv => whnf
 refine ⟨rfl, ?_⟩
 conv => whnf
 refine Tri.cond (decide ((i : Int) < (n.kids.map enc).length)) rfl (fun hc => ?_) (fun hc => ?_)
 ·refine Tri.skip ?_
  conv => whnf
  have hia : i < n.kids.length := by simpa using hc
  have hiu : i < (namesG 0 n.kids).length := by omega
  obtain ⟨A, B, hform⟩ := names_form h64 (fun k hk => (hnk k hk).1) hia
  have hkz := kid_sz hia
  have hkc := kid_cnt hia
  have hsl := spL_len (n.kids.take i) ((namesG 0 n.kids).take i) x c
  have hbl := below_len x.path n.kids[i].name (x.lv + 1)
  have hll : (l0 ++ x :: spL (n.kids.take i) ((namesG 0 n.kids).take i) x c).length = l0.length + 1 + (spL (n.kids.take i) ((namesG 0 n.kids).take i) x c).length := by simp; omega
  refine Tri.seq ?_
  refine Tri.block ?_
  refine Tri.seq ?_
  refine Tri.region ti2_ok ?_
  conv => whnf
  refine ⟨rfl, ?_⟩
  conv => whnf
  refine ⟨fun _ => by simp; omega, ?_⟩
  conv => whnf
  refine ⟨encTop n.kids[i], fun _ => get_kid hia, ?_⟩
  conv => whnf
  intro b11
  conv => whnf
  refine ⟨rfl, ?_⟩
  conv => whnf
  refine Tri.seq ?_
  refine Tri.bitsG ti2_ok mixed (α := Nat) (fun y f => [(0, .sl (.own 200 w) 19 ((l0 ++ x :: spL (n.kids.take i) ((namesG 0 n.kids).take i) x c).map encSp)), (2, .bool rr), (4, .box 4 b4 0), (7, .int .i64 (x.si : Int)), (8, .sl .none 1 (strs (namesG 0 n.kids))), (10, .int .i64 (i : Int)), (11, .box 11 b11 0), (40, bif f 0 then encTop n.kids[i] else .any), (41, bif f 1 then .box 4 b4 12 else .any), (42, bif f 2 then .str x.path else .any), (43, bif f 3 then .box 11 b11 0 else .any), (44, bif f 4 then .str n.kids[i].name else .any), (45, bif f 5 then .box 4 b4 16 else .any), (46, bif f 6 then .int .i64 x.lv else .any), (47, bif f 7 then .str (below x.path n.kids[i].name (x.lv + 1)) else .any), (48, bif f 8 then .int .i64 (x.si : Int) else .any), (49, bif f 9 then .box 4 b4 16 else .any), (50, bif f 10 then .int .i64 x.lv else .any), (51, bif f 11 then .int .i64 (x.lv + 1) else .any), (52, bif f 12 then .agg [.str n.kids[i].name, .int .i64 n.kids[i].kind, .str n.kids[i].text, .str n.kids[i].target, .int .i64 n.kids[i].n1, .int .i64 n.kids[i].n2, .int .i64 n.kids[i].n3, .int .i64 n.kids[i].n4, .int .i64 n.kids[i].n5, .int .i64 n.kids[i].n6, .sl .none 12 (n.kids[i].kids.map enc), .sl .none 2 (n.kids[i].streams.map encS), .str (below x.path n.kids[i].name (x.lv + 1)), .str [], .str [], .int .i64 (x.si : Int), .int .i64 (x.lv + 1), .bool false, .bool false] else .any), (12, bif f 13 then .box 12 y 0 else .any)])
   (fun y f => look ([(200, .own w ((l0 ++ x :: spL (n.kids.take i) ((namesG 0 n.kids).take i) x c).map encSp).length 19 123), (4, .box b4 [.str n.name, .int .i64 n.kind, .str n.text, .str n.target, .int .i64 n.n1, .int .i64 n.n2, .int .i64 n.n3, .int .i64 n.n4, .int .i64 n.n5, .int .i64 n.n6, .sl .none 12 (n.kids.map enc), .sl .none 2 (n.streams.map encS), .str x.path, .str x.id, .str x.file, .int .i64 (x.ab : Int), .int .i64 x.lv, .bool x.iso, .bool x.rock]), (11, .box b11 [.str n.kids[i].name, .int .i64 n.kids[i].kind, .str n.kids[i].text, .str n.kids[i].target, .int .i64 n.kids[i].n1, .int .i64 n.kids[i].n2, .int .i64 n.kids[i].n3, .int .i64 n.kids[i].n4, .int .i64 n.kids[i].n5, .int .i64 n.kids[i].n6, .sl .none 12 (n.kids[i].kids.map enc), .sl .none 2 (n.kids[i].streams.map encS)])] ++ (bif f 13 then [(12, .box y (bif f 14 then [.str n.kids[i].name, .int .i64 n.kids[i].kind, .str n.kids[i].text, .str n.kids[i].target, .int .i64 n.kids[i].n1, .int .i64 n.kids[i].n2, .int .i64 n.kids[i].n3, .int .i64 n.kids[i].n4, .int .i64 n.kids[i].n5, .int .i64 n.kids[i].n6, .sl .none 12 (n.kids[i].kids.map enc), .sl .none 2 (n.kids[i].streams.map encS), .str (below x.path n.kids[i].name (x.lv + 1)), .str [], .str [], .int .i64 (x.si : Int), .int .i64 (x.lv + 1), .bool false, .bool false] else [.str [], .int .i64 0, .str [], .str [], .int .i64 0, .int .i64 0, .int .i64 0, .int .i64 0, .int .i64 0, .int .i64 0, .nils, .nils, .str [], .str [], .str [], .int .i64 0, .int .i64 0, .bool false, .bool false]))] else []))) (by decide +kernel) 0 ?_ ?_ ?_ ?_
  ·exact ⟨.refl _, .refl _, .refl _, .refl _, .refl _, .refl _, .refl _, .any _, .any _, .any _, .any _, .any _, .any _, .any _, .any _, .any _, .any _, .any _, .any _, .any _, .any _, trivial⟩
  ·exact SubHF.of (hs := [(200, .own w ((l0 ++ x :: spL (n.kids.take i) ((namesG 0 n.kids).take i) x c).map encSp).length 19 123), (4, .box b4 [.str n.name, .int .i64 n.kind, .str n.text, .str n.target, .int .i64 n.n1, .int .i64 n.n2, .int .i64 n.n3, .int .i64 n.n4, .int .i64 n.n5, .int .i64 n.n6, .sl .none 12 (n.kids.map enc), .sl .none 2 (n.streams.map encS), .str x.path, .str x.id, .str x.file, .int .i64 (x.ab : Int), .int .i64 x.lv, .bool x.iso, .bool x.rock]), (11, .box b11 [.str n.kids[i].name, .int .i64 n.kids[i].kind, .str n.kids[i].text, .str n.kids[i].target, .int .i64 n.kids[i].n1, .int .i64 n.kids[i].n2, .int .i64 n.kids[i].n3, .int .i64 n.kids[i].n4, .int .i64 n.kids[i].n5, .int .i64 n.kids[i].n6, .sl .none 12 (n.kids[i].kids.map enc), .sl .none 2 (n.kids[i].streams.map encS)])]) ⟨rfl, rfl, rfl, trivial⟩
  ·conv => whnf
   refine ⟨fun y f hI => ?_, ?_⟩
   ·obtain ⟨f, rfl⟩ := off f 14 (hI.no 14 0 rfl rfl)
    conv => whnf
    refine ⟨trivial, .inl ?_⟩
    conv => whnf
    refine ⟨rfl, ?_⟩
    conv => whnf
    exact ⟨y, ⟨.refl _, .refl _, .refl _, .refl _, .refl _, .refl _, .refl _, .refl _, .refl _, .refl _, .refl _, .refl _, .refl _, .refl _, .refl _, .refl _, .refl _, .refl _, .refl _, .refl _, .refl _, trivial⟩, fun k o h => h⟩
   refine ⟨fun y f hI => ?_, ?_⟩
   ·obtain ⟨f, rfl⟩ := off f 14 (hI.no 14 1 rfl rfl)
    conv => whnf
    refine ⟨trivial, .inl ?_⟩
    conv => whnf
    exact ⟨y, ⟨.refl _, .refl _, .refl _, .refl _, .refl _, .refl _, .refl _, .refl _, .refl _, .refl _, .refl _, .refl _, .refl _, .refl _, .refl _, .refl _, .refl _, .refl _, .refl _, .refl _, .refl _, trivial⟩, fun k o h => h⟩
   refine ⟨fun y f hI => ?_, ?_⟩
   ·obtain ⟨f, rfl⟩ := off f 14 (hI.no 14 2 rfl rfl)
    conv => whnf
    refine ⟨trivial, .inl ?_⟩
    conv => whnf
    refine ⟨rfl, ?_⟩
    conv => whnf
    exact ⟨y, ⟨.refl _, .refl _, .refl _, .refl _, .refl _, .refl _, .refl _, .refl _, .refl _, .refl _, .refl _, .refl _, .refl _, .refl _, .refl _, .refl _, .refl _, .refl _, .refl _, .refl _, .refl _, trivial⟩, fun k o h => h⟩
   refine ⟨fun y f hI => ?_, ?_⟩
   ·obtain ⟨f, rfl⟩ := off f 14 (hI.no 14 3 rfl rfl)
    conv => whnf
    refine ⟨trivial, .inl ?_⟩
    conv => whnf
    exact ⟨y, ⟨.refl _, .refl _, .refl _, .refl _, .refl _, .refl _, .refl _, .refl _, .refl _, .refl _, .refl _, .refl _, .refl _, .refl _, .refl _, .refl _, .refl _, .refl _, .refl _, .refl _, .refl _, trivial⟩, fun k o h => h⟩
   refine ⟨fun y f hI => ?_, ?_⟩
   ·obtain ⟨f, rfl⟩ := off f 14 (hI.no 14 4 rfl rfl)
    conv => whnf
    refine ⟨trivial, .inl ?_⟩
    conv => whnf
    refine ⟨rfl, ?_⟩
    conv => whnf
    exact ⟨y, ⟨.refl _, .refl _, .refl _, .refl _, .refl _, .refl _, .refl _, .refl _, .refl _, .refl _, .refl _, .refl _, .refl _, .refl _, .refl _, .refl _, .refl _, .refl _, .refl _, .refl _, .refl _, trivial⟩, fun k o h => h⟩
   refine ⟨fun y f hI => ?_, ?_⟩
   ·obtain ⟨f, rfl⟩ := off f 14 (hI.no 14 5 rfl rfl)
    conv => whnf
    refine ⟨trivial, .inl ?_⟩
    conv => whnf
    exact ⟨y, ⟨.refl _, .refl _, .refl _, .refl _, .refl _, .refl _, .refl _, .refl _, .refl _, .refl _, .refl _, .refl _, .refl _, .refl _, .refl _, .refl _, .refl _, .refl _, .refl _, .refl _, .refl _, trivial⟩, fun k o h => h⟩
   refine ⟨fun y f hI => ?_, ?_⟩
   ·obtain ⟨f, rfl⟩ := off f 14 (hI.no 14 6 rfl rfl)
    conv => whnf
    refine ⟨trivial, .inl ?_⟩
    conv => whnf
    refine ⟨rfl, ?_⟩
    conv => whnf
    exact ⟨y, ⟨.refl _, .refl _, .refl _, .refl _, .refl _, .refl _, .refl _, .refl _, .refl _, .refl _, .refl _, .refl _, .refl _, .refl _, .refl _, .refl _, .refl _, .refl _, .refl _, .refl _, .refl _, trivial⟩, fun k o h => h⟩
   refine ⟨fun y f hI => ?_, ?_⟩
   ·obtain ⟨f, rfl⟩ := off f 14 (hI.no 14 7 rfl rfl)
    conv => whnf
    refine ⟨trivial, .inl ?_⟩
    conv => whnf
    refine ⟨[.str x.path, .str n.kids[i].name, .int .i64 x.lv], _, fun _ => F68 _ _ _ (by omega) hlv, ⟨.refl _, .refl _, .refl _, trivial⟩, ?_⟩
    conv => whnf
    exact ⟨y, ⟨.refl _, .refl _, .refl _, .refl _, .refl _, .refl _, .refl _, .refl _, .refl _, .refl _, .refl _, .refl _, .refl _, .refl _, .refl _, .refl _, .refl _, .refl _, .refl _, .refl _, .refl _, trivial⟩, fun k o h => h⟩
   refine ⟨fun y f hI => ?_, ?_⟩
   ·obtain ⟨f, rfl⟩ := off f 14 (hI.no 14 8 rfl rfl)
    conv => whnf
    refine ⟨trivial, .inl ?_⟩
    conv => whnf
    exact ⟨y, ⟨.refl _, .refl _, .refl _, .refl _, .refl _, .refl _, .refl _, .refl _, .refl _, .refl _, .refl _, .refl _, .refl _, .refl _, .refl _, .refl _, .refl _, .refl _, .refl _, .refl _, .refl _, trivial⟩, fun k o h => h⟩
   refine ⟨fun y f hI => ?_, ?_⟩
   ·obtain ⟨f, rfl⟩ := off f 14 (hI.no 14 9 rfl rfl)
    conv => whnf
    refine ⟨trivial, .inl ?_⟩
    conv => whnf
    exact ⟨y, ⟨.refl _, .refl _, .refl _, .refl _, .refl _, .refl _, .refl _, .refl _, .refl _, .refl _, .refl _, .refl _, .refl _, .refl _, .refl _, .refl _, .refl _, .refl _, .refl _, .refl _, .refl _, trivial⟩, fun k o h => h⟩
   refine ⟨fun y f hI => ?_, ?_⟩
   ·obtain ⟨f, rfl⟩ := off f 14 (hI.no 14 10 rfl rfl)
    conv => whnf
    refine ⟨trivial, .inl ?_⟩
    conv => whnf
    refine ⟨rfl, ?_⟩
    conv => whnf
    exact ⟨y, ⟨.refl _, .refl _, .refl _, .refl _, .refl _, .refl _, .refl _, .refl _, .refl _, .refl _, .refl _, .refl _, .refl _, .refl _, .refl _, .refl _, .refl _, .refl _, .refl _, .refl _, .refl _, trivial⟩, fun k o h => h⟩
   refine ⟨fun y f hI => ?_, ?_⟩
   ·obtain ⟨f, rfl⟩ := off f 14 (hI.no 14 11 rfl rfl)
    conv => whnf
    refine ⟨trivial, .inl ?_⟩
    conv => whnf
    refine .inl ⟨fun _ => by simp [InR]; omega, ?_⟩
    conv => whnf
    exact ⟨y, ⟨.refl _, .refl _, .refl _, .refl _, .refl _, .refl _, .refl _, .refl _, .refl _, .refl _, .refl _, .refl _, .refl _, .refl _, .refl _, .refl _, .refl _, .refl _, .refl _, .refl _, .refl _, trivial⟩, fun k o h => h⟩
   refine ⟨fun y f hI => ?_, ?_⟩
   ·obtain ⟨f, rfl⟩ := off f 14 (hI.no 14 12 rfl rfl)
    conv => whnf
    refine ⟨trivial, .inl ?_⟩
    conv => whnf
    exact ⟨y, ⟨.refl _, .refl _, .refl _, .refl _, .refl _, .refl _, .refl _, .refl _, .refl _, .refl _, .refl _, .refl _, .refl _, .refl _, .refl _, .refl _, .refl _, .refl _, .refl _, .refl _, .refl _, trivial⟩, fun k o h => h⟩
   refine ⟨fun y f hI => ?_, ?_⟩
   ·obtain ⟨f, rfl⟩ := off f 14 (hI.no 14 13 rfl rfl)
    conv => whnf
    refine ⟨trivial, .inl ?_⟩
    conv => whnf
    intro nb
    conv => whnf
    exact ⟨nb, ⟨.refl _, .refl _, .refl _, .refl _, .refl _, .refl _, .refl _, .refl _, .refl _, .refl _, .refl _, .refl _, .refl _, .refl _, .refl _, .refl _, .refl _, .refl _, .refl _, .refl _, .refl _, trivial⟩, SubHF.of (hs := [(200, .own w ((l0 ++ x :: spL (n.kids.take i) ((namesG 0 n.kids).take i) x c).map encSp).length 19 123), (4, .box b4 [.str n.name, .int .i64 n.kind, .str n.text, .str n.target, .int .i64 n.n1, .int .i64 n.n2, .int .i64 n.n3, .int .i64 n.n4, .int .i64 n.n5, .int .i64 n.n6, .sl .none 12 (n.kids.map enc), .sl .none 2 (n.streams.map encS), .str x.path, .str x.id, .str x.file, .int .i64 (x.ab : Int), .int .i64 x.lv, .bool x.iso, .bool x.rock]), (11, .box b11 [.str n.kids[i].name, .int .i64 n.kids[i].kind, .str n.kids[i].text, .str n.kids[i].target, .int .i64 n.kids[i].n1, .int .i64 n.kids[i].n2, .int .i64 n.kids[i].n3, .int .i64 n.kids[i].n4, .int .i64 n.kids[i].n5, .int .i64 n.kids[i].n6, .sl .none 12 (n.kids[i].kids.map enc), .sl .none 2 (n.kids[i].streams.map encS)]), (12, .box nb [.str [], .int .i64 0, .str [], .str [], .int .i64 0, .int .i64 0, .int .i64 0, .int .i64 0, .int .i64 0, .int .i64 0, .nils, .nils, .str [], .str [], .str [], .int .i64 0, .int .i64 0, .bool false, .bool false])]) ⟨rfl, rfl, rfl, rfl, trivial⟩⟩
   refine ⟨fun y f hI => ?_, ?_⟩
   ·conv => whnf
    refine ⟨trivial, .inl ?_⟩
    conv => whnf
    refine ⟨rfl, ?_⟩
    conv => whnf
    exact ⟨y, ⟨.refl _, .refl _, .refl _, .refl _, .refl _, .refl _, .refl _, .refl _, .refl _, .refl _, .refl _, .refl _, .refl _, .refl _, .refl _, .refl _, .refl _, .refl _, .refl _, .refl _, .refl _, trivial⟩, SubHF.of (hs := [(200, .own w ((l0 ++ x :: spL (n.kids.take i) ((namesG 0 n.kids).take i) x c).map encSp).length 19 123), (4, .box b4 [.str n.name, .int .i64 n.kind, .str n.text, .str n.target, .int .i64 n.n1, .int .i64 n.n2, .int .i64 n.n3, .int .i64 n.n4, .int .i64 n.n5, .int .i64 n.n6, .sl .none 12 (n.kids.map enc), .sl .none 2 (n.streams.map encS), .str x.path, .str x.id, .str x.file, .int .i64 (x.ab : Int), .int .i64 x.lv, .bool x.iso, .bool x.rock]), (11, .box b11 [.str n.kids[i].name, .int .i64 n.kids[i].kind, .str n.kids[i].text, .str n.kids[i].target, .int .i64 n.kids[i].n1, .int .i64 n.kids[i].n2, .int .i64 n.kids[i].n3, .int .i64 n.kids[i].n4, .int .i64 n.kids[i].n5, .int .i64 n.kids[i].n6, .sl .none 12 (n.kids[i].kids.map enc), .sl .none 2 (n.kids[i].streams.map encS)]), (12, .box y [.str n.kids[i].name, .int .i64 n.kids[i].kind, .str n.kids[i].text, .str n.kids[i].target, .int .i64 n.kids[i].n1, .int .i64 n.kids[i].n2, .int .i64 n.kids[i].n3, .int .i64 n.kids[i].n4, .int .i64 n.kids[i].n5, .int .i64 n.kids[i].n6, .sl .none 12 (n.kids[i].kids.map enc), .sl .none 2 (n.kids[i].streams.map encS), .str (below x.path n.kids[i].name (x.lv + 1)), .str [], .str [], .int .i64 (x.si : Int), .int .i64 (x.lv + 1), .bool false, .bool false])]) ⟨rfl, rfl, rfl, rfl, trivial⟩⟩
   exact trivial
  ·intro y f hf
   conv => whnf
   refine Tri.forgetG [(0, .sl (.own 200 w) 19 ((l0 ++ x :: spL (n.kids.take i) ((namesG 0 n.kids).take i) x c).map encSp)), (2, .bool rr), (4, .box 4 b4 0), (7, .int .i64 (x.si : Int)), (8, .sl .none 1 (strs (namesG 0 n.kids))), (10, .int .i64 (i : Int)), (11, .box 11 b11 0), (12, .box 12 y 0)] (look [(12, .box y [.str n.kids[i].name, .int .i64 n.kids[i].kind, .str n.kids[i].text, .str n.kids[i].target, .int .i64 n.kids[i].n1, .int .i64 n.kids[i].n2, .int .i64 n.kids[i].n3, .int .i64 n.kids[i].n4, .int .i64 n.kids[i].n5, .int .i64 n.kids[i].n6, .sl .none 12 (n.kids[i].kids.map enc), .sl .none 2 (n.kids[i].streams.map encS), .str (below x.path n.kids[i].name (x.lv + 1)), .str [], .str [], .int .i64 (x.si : Int), .int .i64 (x.lv + 1), .bool false, .bool false]), (200, .own w ((l0 ++ x :: spL (n.kids.take i) ((namesG 0 n.kids).take i) x c).map encSp).length 19 123), (4, .box b4 [.str n.name, .int .i64 n.kind, .str n.text, .str n.target, .int .i64 n.n1, .int .i64 n.n2, .int .i64 n.n3, .int .i64 n.n4, .int .i64 n.n5, .int .i64 n.n6, .sl .none 12 (n.kids.map enc), .sl .none 2 (n.streams.map encS), .str x.path, .str x.id, .str x.file, .int .i64 (x.ab : Int), .int .i64 x.lv, .bool x.iso, .bool x.rock]), (11, .box b11 [.str n.kids[i].name, .int .i64 n.kids[i].kind, .str n.kids[i].text, .str n.kids[i].target, .int .i64 n.kids[i].n1, .int .i64 n.kids[i].n2, .int .i64 n.kids[i].n3, .int .i64 n.kids[i].n4, .int .i64 n.kids[i].n5, .int .i64 n.kids[i].n6, .sl .none 12 (n.kids[i].kids.map enc), .sl .none 2 (n.kids[i].streams.map encS)])]) (.same ⟨.refl _, .refl _, .refl _, .refl _, .refl _, .refl _, .refl _, ?_, trivial⟩ (SubHF.of ⟨?_, rfl, rfl, rfl, trivial⟩)) ?_
   ·show DLe (bif f 13 then _ else _) _
    rw [hf 13 (by decide +kernel)]; exact .refl _
   ·show look (([(200, _), (4, _), (11, _)] : List (Nat × HObj)) ++ (bif f 13 then _ else _)) 12 = _
    rw [hf 13 (by decide +kernel), hf 14 (by decide +kernel)]; rfl
   refine Tri.seq ?_
   refine Tri.bitsG ti2_ok mixed (α := Unit) (fun _ f => [(0, .sl (.own 200 w) 19 ((l0 ++ x :: spL (n.kids.take i) ((namesG 0 n.kids).take i) x c).map encSp)), (2, .bool rr), (4, .box 4 b4 0), (7, .int .i64 (x.si : Int)), (8, .sl .none 1 (strs (namesG 0 n.kids))), (10, .int .i64 (i : Int)), (11, .box 11 b11 0), (12, .box 12 y 0), (54, bif f 0 then .sl .none 1 (strs (namesG 0 n.kids)) else .any), (55, bif f 1 then .int .i64 (i : Int) else .any), (56, bif f 2 then .elm 1 (strs (namesG 0 n.kids)) i 0 else .any), (57, bif f 3 then .str (namesG 0 n.kids)[i] else .any), (58, bif f 4 then .box 11 b11 1 else .any), (59, bif f 5 then .int .i64 n.kids[i].kind else .any), (60, bif f 6 then .bool (n.kids[i].kind == 0) else .any), (61, bif f 7 then .tup [.str (identI (namesG 0 n.kids)[i] (n.kids[i].kind == 0)).1, .int .i64 (identI (namesG 0 n.kids)[i] (n.kids[i].kind == 0)).2] else .any), (53, bif f 8 then .tup [.str (identI (namesG 0 n.kids)[i] (n.kids[i].kind == 0)).1, .int .i64 (identI (namesG 0 n.kids)[i] (n.kids[i].kind == 0)).2] else .any), (62, bif f 9 then .str (identI (namesG 0 n.kids)[i] (n.kids[i].kind == 0)).1 else .any), (63, bif f 10 then .int .i64 (identI (namesG 0 n.kids)[i] (n.kids[i].kind == 0)).2 else .any), (64, bif f 11 then .box 12 y 13 else .any)])
    (fun _ f => look [(12, .box y (bif f 12 then [.str n.kids[i].name, .int .i64 n.kids[i].kind, .str n.kids[i].text, .str n.kids[i].target, .int .i64 n.kids[i].n1, .int .i64 n.kids[i].n2, .int .i64 n.kids[i].n3, .int .i64 n.kids[i].n4, .int .i64 n.kids[i].n5, .int .i64 n.kids[i].n6, .sl .none 12 (n.kids[i].kids.map enc), .sl .none 2 (n.kids[i].streams.map encS), .str (below x.path n.kids[i].name (x.lv + 1)), .str (identI (namesG 0 n.kids)[i] (n.kids[i].kind == 0)).1, .str [], .int .i64 (x.si : Int), .int .i64 (x.lv + 1), .bool false, .bool false] else [.str n.kids[i].name, .int .i64 n.kids[i].kind, .str n.kids[i].text, .str n.kids[i].target, .int .i64 n.kids[i].n1, .int .i64 n.kids[i].n2, .int .i64 n.kids[i].n3, .int .i64 n.kids[i].n4, .int .i64 n.kids[i].n5, .int .i64 n.kids[i].n6, .sl .none 12 (n.kids[i].kids.map enc), .sl .none 2 (n.kids[i].streams.map encS), .str (below x.path n.kids[i].name (x.lv + 1)), .str [], .str [], .int .i64 (x.si : Int), .int .i64 (x.lv + 1), .bool false, .bool false])), (200, .own w ((l0 ++ x :: spL (n.kids.take i) ((namesG 0 n.kids).take i) x c).map encSp).length 19 123), (4, .box b4 [.str n.name, .int .i64 n.kind, .str n.text, .str n.target, .int .i64 n.n1, .int .i64 n.n2, .int .i64 n.n3, .int .i64 n.n4, .int .i64 n.n5, .int .i64 n.n6, .sl .none 12 (n.kids.map enc), .sl .none 2 (n.streams.map encS), .str x.path, .str x.id, .str x.file, .int .i64 (x.ab : Int), .int .i64 x.lv, .bool x.iso, .bool x.rock]), (11, .box b11 [.str n.kids[i].name, .int .i64 n.kids[i].kind, .str n.kids[i].text, .str n.kids[i].target, .int .i64 n.kids[i].n1, .int .i64 n.kids[i].n2, .int .i64 n.kids[i].n3, .int .i64 n.kids[i].n4, .int .i64 n.kids[i].n5, .int .i64 n.kids[i].n6, .sl .none 12 (n.kids[i].kids.map enc), .sl .none 2 (n.kids[i].streams.map encS)])]) (by decide +kernel) () ?_ ?_ ?_ ?_
   ·exact ⟨.refl _, .refl _, .refl _, .refl _, .refl _, .refl _, .refl _, .refl _, .any _, .any _, .any _, .any _, .any _, .any _, .any _, .any _, .any _, .any _, .any _, .any _, trivial⟩
   ·exact SubHF.of (hs := [(12, .box y [.str n.kids[i].name, .int .i64 n.kids[i].kind, .str n.kids[i].text, .str n.kids[i].target, .int .i64 n.kids[i].n1, .int .i64 n.kids[i].n2, .int .i64 n.kids[i].n3, .int .i64 n.kids[i].n4, .int .i64 n.kids[i].n5, .int .i64 n.kids[i].n6, .sl .none 12 (n.kids[i].kids.map enc), .sl .none 2 (n.kids[i].streams.map encS), .str (below x.path n.kids[i].name (x.lv + 1)), .str [], .str [], .int .i64 (x.si : Int), .int .i64 (x.lv + 1), .bool false, .bool false]), (200, .own w ((l0 ++ x :: spL (n.kids.take i) ((namesG 0 n.kids).take i) x c).map encSp).length 19 123), (4, .box b4 [.str n.name, .int .i64 n.kind, .str n.text, .str n.target, .int .i64 n.n1, .int .i64 n.n2, .int .i64 n.n3, .int .i64 n.n4, .int .i64 n.n5, .int .i64 n.n6, .sl .none 12 (n.kids.map enc), .sl .none 2 (n.streams.map encS), .str x.path, .str x.id, .str x.file, .int .i64 (x.ab : Int), .int .i64 x.lv, .bool x.iso, .bool x.rock]), (11, .box b11 [.str n.kids[i].name, .int .i64 n.kids[i].kind, .str n.kids[i].text, .str n.kids[i].target, .int .i64 n.kids[i].n1, .int .i64 n.kids[i].n2, .int .i64 n.kids[i].n3, .int .i64 n.kids[i].n4, .int .i64 n.kids[i].n5, .int .i64 n.kids[i].n6, .sl .none 12 (n.kids[i].kids.map enc), .sl .none 2 (n.kids[i].streams.map encS)])]) ⟨rfl, rfl, rfl, rfl, trivial⟩
   ·conv => whnf
    refine ⟨fun _ f hI => ?_, ?_⟩
    ·obtain ⟨f, rfl⟩ := off f 12 (hI.no 12 0 rfl rfl)
     conv => whnf
     refine ⟨trivial, .inl ?_⟩
     conv => whnf
     exact ⟨(), ⟨.refl _, .refl _, .refl _, .refl _, .refl _, .refl _, .refl _, .refl _, .refl _, .refl _, .refl _, .refl _, .refl _, .refl _, .refl _, .refl _, .refl _, .refl _, .refl _, .refl _, trivial⟩, fun k o h => h⟩
    refine ⟨fun _ f hI => ?_, ?_⟩
    ·obtain ⟨f, rfl⟩ := off f 12 (hI.no 12 1 rfl rfl)
     conv => whnf
     refine ⟨trivial, .inl ?_⟩
     conv => whnf
     exact ⟨(), ⟨.refl _, .refl _, .refl _, .refl _, .refl _, .refl _, .refl _, .refl _, .refl _, .refl _, .refl _, .refl _, .refl _, .refl _, .refl _, .refl _, .refl _, .refl _, .refl _, .refl _, trivial⟩, fun k o h => h⟩
    refine ⟨fun _ f hI => ?_, ?_⟩
    ·obtain ⟨f, rfl⟩ := off f 12 (hI.no 12 2 rfl rfl)
     conv => whnf
     refine ⟨trivial, .inl ?_⟩
     conv => whnf
     refine ⟨fun _ => by simp [strs]; omega, ?_⟩
     conv => whnf
     exact ⟨(), ⟨.refl _, .refl _, .refl _, .refl _, .refl _, .refl _, .refl _, .refl _, .refl _, .refl _, DLe.of_eq rfl, .refl _, .refl _, .refl _, .refl _, .refl _, .refl _, .refl _, .refl _, .refl _, trivial⟩, fun k o h => h⟩
    refine ⟨fun _ f hI => ?_, ?_⟩
    ·obtain ⟨f, rfl⟩ := off f 12 (hI.no 12 3 rfl rfl)
     conv => whnf
     refine ⟨trivial, .inl ?_⟩
     conv => whnf
     refine ⟨.str (namesG 0 n.kids)[i], fun _ => by simp [strs, hiu], ?_⟩
     conv => whnf
     exact ⟨(), ⟨.refl _, .refl _, .refl _, .refl _, .refl _, .refl _, .refl _, .refl _, .refl _, .refl _, .refl _, .refl _, .refl _, .refl _, .refl _, .refl _, .refl _, .refl _, .refl _, .refl _, trivial⟩, fun k o h => h⟩
    refine ⟨fun _ f hI => ?_, ?_⟩
    ·obtain ⟨f, rfl⟩ := off f 12 (hI.no 12 4 rfl rfl)
     conv => whnf
     refine ⟨trivial, .inl ?_⟩
     conv => whnf
     exact ⟨(), ⟨.refl _, .refl _, .refl _, .refl _, .refl _, .refl _, .refl _, .refl _, .refl _, .refl _, .refl _, .refl _, .refl _, .refl _, .refl _, .refl _, .refl _, .refl _, .refl _, .refl _, trivial⟩, fun k o h => h⟩
    refine ⟨fun _ f hI => ?_, ?_⟩
    ·obtain ⟨f, rfl⟩ := off f 12 (hI.no 12 5 rfl rfl)
     conv => whnf
     refine ⟨trivial, .inl ?_⟩
     conv => whnf
     refine ⟨rfl, ?_⟩
     conv => whnf
     exact ⟨(), ⟨.refl _, .refl _, .refl _, .refl _, .refl _, .refl _, .refl _, .refl _, .refl _, .refl _, .refl _, .refl _, .refl _, .refl _, .refl _, .refl _, .refl _, .refl _, .refl _, .refl _, trivial⟩, fun k o h => h⟩
    refine ⟨fun _ f hI => ?_, ?_⟩
    ·obtain ⟨f, rfl⟩ := off f 12 (hI.no 12 6 rfl rfl)
     conv => whnf
     refine ⟨trivial, .inl ?_⟩
     conv => whnf
     exact ⟨(), ⟨.refl _, .refl _, .refl _, .refl _, .refl _, .refl _, .refl _, .refl _, .refl _, .refl _, .refl _, .refl _, .refl _, .refl _, .refl _, .refl _, .refl _, .refl _, .refl _, .refl _, trivial⟩, fun k o h => h⟩
    refine ⟨fun _ f hI => ?_, ?_⟩
    ·obtain ⟨f, rfl⟩ := off f 12 (hI.no 12 7 rfl rfl)
     conv => whnf
     refine ⟨trivial, .inl ?_⟩
     conv => whnf
     refine ⟨[.str (namesG 0 n.kids)[i], .bool (n.kids[i].kind == 0)], _, fun _ => G98 hform, ⟨.refl _, .refl _, trivial⟩, ?_⟩
     conv => whnf
     exact ⟨(), ⟨.refl _, .refl _, .refl _, .refl _, .refl _, .refl _, .refl _, .refl _, .refl _, .refl _, .refl _, .refl _, .refl _, .refl _, .refl _, .refl _, .refl _, .refl _, .refl _, .refl _, trivial⟩, fun k o h => h⟩
    refine ⟨fun _ f hI => ?_, ?_⟩
    ·obtain ⟨f, rfl⟩ := off f 12 (hI.no 12 8 rfl rfl)
     conv => whnf
     refine ⟨trivial, .inl ?_⟩
     conv => whnf
     exact ⟨(), ⟨.refl _, .refl _, .refl _, .refl _, .refl _, .refl _, .refl _, .refl _, .refl _, .refl _, .refl _, .refl _, .refl _, .refl _, .refl _, .refl _, .refl _, .refl _, .refl _, .refl _, trivial⟩, fun k o h => h⟩
    refine ⟨fun _ f hI => ?_, ?_⟩
    ·obtain ⟨f, rfl⟩ := off f 12 (hI.no 12 9 rfl rfl)
     conv => whnf
     refine ⟨trivial, .inl ?_⟩
     conv => whnf
     exact ⟨(), ⟨.refl _, .refl _, .refl _, .refl _, .refl _, .refl _, .refl _, .refl _, .refl _, .refl _, .refl _, .refl _, .refl _, .refl _, .refl _, .refl _, .refl _, .refl _, .refl _, .refl _, trivial⟩, fun k o h => h⟩
    refine ⟨fun _ f hI => ?_, ?_⟩
    ·conv => whnf
     refine ⟨trivial, .inl ?_⟩
     conv => whnf
     exact ⟨(), ⟨.refl _, .refl _, .refl _, .refl _, .refl _, .refl _, .refl _, .refl _, .refl _, .refl _, .refl _, .refl _, .refl _, .refl _, .refl _, .refl _, .refl _, .refl _, .refl _, .refl _, trivial⟩, fun k o h => h⟩
    refine ⟨fun _ f hI => ?_, ?_⟩
    ·obtain ⟨f, rfl⟩ := off f 12 (hI.no 12 11 rfl rfl)
     conv => whnf
     refine ⟨trivial, .inl ?_⟩
     conv => whnf
     exact ⟨(), ⟨.refl _, .refl _, .refl _, .refl _, .refl _, .refl _, .refl _, .refl _, .refl _, .refl _, .refl _, .refl _, .refl _, .refl _, .refl _, .refl _, .refl _, .refl _, .refl _, .refl _, trivial⟩, fun k o h => h⟩
    refine ⟨fun _ f hI => ?_, ?_⟩
    ·conv => whnf
     refine ⟨trivial, .inl ?_⟩
     conv => whnf
     refine ⟨rfl, ?_⟩
     conv => whnf
     exact ⟨(), ⟨.refl _, .refl _, .refl _, .refl _, .refl _, .refl _, .refl _, .refl _, .refl _, .refl _, .refl _, .refl _, .refl _, .refl _, .refl _, .refl _, .refl _, .refl _, .refl _, .refl _, trivial⟩, SubHF.of (hs := [(12, .box y [.str n.kids[i].name, .int .i64 n.kids[i].kind, .str n.kids[i].text, .str n.kids[i].target, .int .i64 n.kids[i].n1, .int .i64 n.kids[i].n2, .int .i64 n.kids[i].n3, .int .i64 n.kids[i].n4, .int .i64 n.kids[i].n5, .int .i64 n.kids[i].n6, .sl .none 12 (n.kids[i].kids.map enc), .sl .none 2 (n.kids[i].streams.map encS), .str (below x.path n.kids[i].name (x.lv + 1)), .str (identI (namesG 0 n.kids)[i] (n.kids[i].kind == 0)).1, .str [], .int .i64 (x.si : Int), .int .i64 (x.lv + 1), .bool false, .bool false]), (200, .own w ((l0 ++ x :: spL (n.kids.take i) ((namesG 0 n.kids).take i) x c).map encSp).length 19 123), (4, .box b4 [.str n.name, .int .i64 n.kind, .str n.text, .str n.target, .int .i64 n.n1, .int .i64 n.n2, .int .i64 n.n3, .int .i64 n.n4, .int .i64 n.n5, .int .i64 n.n6, .sl .none 12 (n.kids.map enc), .sl .none 2 (n.streams.map encS), .str x.path, .str x.id, .str x.file, .int .i64 (x.ab : Int), .int .i64 x.lv, .bool x.iso, .bool x.rock]), (11, .box b11 [.str n.kids[i].name, .int .i64 n.kids[i].kind, .str n.kids[i].text, .str n.kids[i].target, .int .i64 n.kids[i].n1, .int .i64 n.kids[i].n2, .int .i64 n.kids[i].n3, .int .i64 n.kids[i].n4, .int .i64 n.kids[i].n5, .int .i64 n.kids[i].n6, .sl .none 12 (n.kids[i].kids.map enc), .sl .none 2 (n.kids[i].streams.map encS)])]) ⟨rfl, rfl, rfl, rfl, trivial⟩⟩
    exact trivial
   ·intro _ f hf
    conv => whnf
    refine Tri.forgetG [(0, .sl (.own 200 w) 19 ((l0 ++ x :: spL (n.kids.take i) ((namesG 0 n.kids).take i) x c).map encSp)), (2, .bool rr), (4, .box 4 b4 0), (7, .int .i64 (x.si : Int)), (8, .sl .none 1 (strs (namesG 0 n.kids))), (10, .int .i64 (i : Int)), (11, .box 11 b11 0), (12, .box 12 y 0)] (look [(12, .box y [.str n.kids[i].name, .int .i64 n.kids[i].kind, .str n.kids[i].text, .str n.kids[i].target, .int .i64 n.kids[i].n1, .int .i64 n.kids[i].n2, .int .i64 n.kids[i].n3, .int .i64 n.kids[i].n4, .int .i64 n.kids[i].n5, .int .i64 n.kids[i].n6, .sl .none 12 (n.kids[i].kids.map enc), .sl .none 2 (n.kids[i].streams.map encS), .str (below x.path n.kids[i].name (x.lv + 1)), .str (identI (namesG 0 n.kids)[i] (n.kids[i].kind == 0)).1, .str [], .int .i64 (x.si : Int), .int .i64 (x.lv + 1), .bool false, .bool false]), (200, .own w ((l0 ++ x :: spL (n.kids.take i) ((namesG 0 n.kids).take i) x c).map encSp).length 19 123), (4, .box b4 [.str n.name, .int .i64 n.kind, .str n.text, .str n.target, .int .i64 n.n1, .int .i64 n.n2, .int .i64 n.n3, .int .i64 n.n4, .int .i64 n.n5, .int .i64 n.n6, .sl .none 12 (n.kids.map enc), .sl .none 2 (n.streams.map encS), .str x.path, .str x.id, .str x.file, .int .i64 (x.ab : Int), .int .i64 x.lv, .bool x.iso, .bool x.rock]), (11, .box b11 [.str n.kids[i].name, .int .i64 n.kids[i].kind, .str n.kids[i].text, .str n.kids[i].target, .int .i64 n.kids[i].n1, .int .i64 n.kids[i].n2, .int .i64 n.kids[i].n3, .int .i64 n.kids[i].n4, .int .i64 n.kids[i].n5, .int .i64 n.kids[i].n6, .sl .none 12 (n.kids[i].kids.map enc), .sl .none 2 (n.kids[i].streams.map encS)])]) (.same ⟨.refl _, .refl _, .refl _, .refl _, .refl _, .refl _, .refl _, .refl _, trivial⟩ (SubHF.of ⟨?_, rfl, rfl, rfl, trivial⟩)) ?_
    ·show some (HObj.box y (bif f 12 then _ else _)) = _
     rw [hf 12 (by decide +kernel)]; rfl
    refine Tri.seq ?_
    refine Tri.region ti2_ok ?_
    conv => whnf
    refine ⟨fun _ => by simp [strs]; omega, ?_⟩
    conv => whnf
    refine ⟨.str (namesG 0 n.kids)[i], fun _ => by simp [strs, hiu], ?_⟩
    conv => whnf
    refine ⟨[.str (namesG 0 n.kids)[i], .bool false], _, fun _ => G98 hform.file, ⟨.refl _, .refl _, trivial⟩, ?_⟩
    conv => whnf
    refine ⟨rfl, ?_⟩
    conv => whnf
    refine Tri.seq ?_
    refine Tri.region ti2_ok ?_
    conv => whnf
    refine ⟨rfl, ?_⟩
    conv => whnf
    refine ⟨rfl, ?_⟩
    conv => whnf
    refine ⟨fun h => h, ?_⟩
    conv => whnf
    refine ⟨rfl, ?_⟩
    conv => whnf
    refine ⟨fun h => h, ?_⟩
    conv => whnf
    refine ⟨fun h => h, ?_⟩
    conv => whnf
    refine ⟨[.int .i64 0, encTop n.kids[i], .int .i64 (x.lv + 1)], _, fun h => F73 0 _ _, ⟨.refl _, .refl _, .refl _, trivial⟩, ?_⟩
    conv => whnf
    refine ⟨fun h0 h => by first | exact h | (rw [h]; rfl) | (rw [h0, h]; rfl), ?_⟩
    conv => whnf
    refine ⟨rfl, ?_⟩
    conv => whnf
    refine Tri.seq ?_
    refine Tri.region ti2_ok ?_
    conv => whnf
    refine ⟨fun h => h, ?_⟩
    conv => whnf
    refine ⟨rfl, ?_⟩
    conv => whnf
    refine ⟨fun h0 h => by first | exact h | (rw [h]; rfl) | (rw [h0, h]; rfl), ?_⟩
    conv => whnf
    refine ⟨rfl, ?_⟩
    conv => whnf
    refine ⟨fun h => h, ?_⟩
    conv => whnf
    refine ⟨rfl, ?_⟩
    conv => whnf
    refine ⟨fun h => h, ?_⟩
    conv => whnf
    refine ⟨fun h => h, ?_⟩
    conv => whnf
    refine ⟨[.int .i64 2, encTop n.kids[i], .int .i64 (x.lv + 1)], _, fun h => F73 2 _ _, ⟨.refl _, .refl _, .refl _, trivial⟩, ?_⟩
    conv => whnf
    refine ⟨fun h0 h => by first | exact h | (rw [h]; rfl) | (rw [h0, h]; rfl), ?_⟩
    conv => whnf
    refine ⟨rfl, ?_⟩
    conv => whnf
    have hiso : (bif x.iso then shown 0 n.kids[i] (x.lv + 1) else false) = (child x n.kids[i] (namesG 0 n.kids)[i] (c.addL (spL (n.kids.take i) ((namesG 0 n.kids).take i) x c))).iso := by rw [bif_and]; rfl
    have hrock : (bif (bif rr then x.rock else false) then shown 2 n.kids[i] (x.lv + 1) else false) = (child x n.kids[i] (namesG 0 n.kids)[i] (c.addL (spL (n.kids.take i) ((namesG 0 n.kids).take i) x c))).rock := by
     rw [bif_and, bif_and]
     show ((rr && x.rock) && _) = (x.rock && _)
     cases hr : x.rock with
     | true => rw [hxr hr]; rfl
     | false => rw [Bool.and_false]
    rw [hiso, hrock]
    refine Tri.seq ?_
    refine Tri.region ti2_ok ?_
    conv => whnf
    refine ⟨rfl, ?_⟩
    conv => whnf
    refine ⟨fun h => h, ?_⟩
    conv => whnf
    refine ⟨rfl, ?_⟩
    conv => whnf
    refine ⟨fun h0 h => by first | exact h | (rw [h]; rfl) | (rw [h0, h]; rfl), ?_⟩
    conv => whnf
    refine Tri.cond _ rfl (fun hc => ?_) (fun hc => ?_)
    ·have hany : (child x n.kids[i] (namesG 0 n.kids)[i] (c.addL (spL (n.kids.take i) ((namesG 0 n.kids).take i) x c))).any = true := by rw [XS.any, ← bif_or]; exact hc
     have hnx := sp_next x c l0 hia hiu
     rw [if_pos hany] at hnx
     refine Tri.regionX ti2_ok ?_
     conv => whnf
     refine .inl ?_
     conv => whnf
     refine ⟨rfl, ?_⟩
     conv => whnf
     refine .inr (XOp.call rfl [.sl (.own 2000 w) 19 ((l0 ++ x :: spL (n.kids.take i) ((namesG 0 n.kids).take i) x c).map encSp), encSp (child x n.kids[i] (namesG 0 n.kids)[i] (c.addL (spL (n.kids.take i) ((namesG 0 n.kids).take i) x c))), .bool rr] [(2000, 200)] (DCall.heap rfl (ih n.kids[i] (by omega) (okT_kid hok (List.getElem_mem hia)) (child x n.kids[i] (namesG 0 n.kids)[i] (c.addL (spL (n.kids.take i) ((namesG 0 n.kids).take i) x c))) ((c.addL (spL (n.kids.take i) ((namesG 0 n.kids).take i) x c)).add (child x n.kids[i] (namesG 0 n.kids)[i] (c.addL (spL (n.kids.take i) ((namesG 0 n.kids).take i) x c)))) (l0 ++ x :: spL (n.kids.take i) ((namesG 0 n.kids).take i) x c) w rfl rfl ?_ ?_ ?_ ?_ ?_ ?_)) rfl ⟨DLe.own _ _, .refl _, .refl _, trivial⟩ ?_)
     ·show _ = (c.addL _).ns
      rw [Cn.addL_ns, hns, List.length_append, List.length_cons, hl0]; omega
     ·intro h
      simp only [child, Bool.and_eq_true] at h
      exact hxr h.1
     ·show 1 ≤ x.lv + 1; omega
     ·show x.lv + 1 + _ < _; omega
     ·show (below _ _ _).length + _ < _; omega
     ·omega
     rintro d H' ⟨v2, rfl, rfl⟩
     refine ⟨_, DLe.own _ 200, ?_⟩
     conv => whnf
     refine Tri.region ti2_ok ?_
     conv => whnf
     refine .inl ⟨fun _ => by simp [InR]; omega, ?_⟩
     conv => whnf
     rw [List.append_assoc, List.cons_append] at *
     exact ⟨(⟨i + 1, hia⟩, v2), [(200, 200), (4, 4)], by show _ - (i + 1) < _ - i; omega, ⟨⟨DLe.of_eq (congrArg (D.sl (.own 200 v2) 19) hnx), .refl _, .refl _, .refl _, .refl _, .refl _, trivial⟩, rfl, rfl, congrArg (fun z : List D => some (HObj.own v2 z.length 19 123)) hnx, rfl, rfl, trivial⟩⟩
    ·have hany : ¬ (child x n.kids[i] (namesG 0 n.kids)[i] (c.addL (spL (n.kids.take i) ((namesG 0 n.kids).take i) x c))).any = true := by rw [XS.any, ← bif_or]; exact fun h => by rw [h] at hc; cases hc
     have hnx := sp_next x c l0 hia hiu
     rw [if_neg hany, List.append_nil] at hnx
     refine Tri.skip ?_
     conv => whnf
     refine Tri.region ti2_ok ?_
     conv => whnf
     refine .inl ⟨fun _ => by simp [InR]; omega, ?_⟩
     conv => whnf
     exact ⟨(⟨i + 1, hia⟩, w), [(200, 200), (4, 4)], by show _ - (i + 1) < _ - i; omega, ⟨⟨DLe.of_eq (congrArg (D.sl (.own 200 w) 19) hnx), .refl _, .refl _, .refl _, .refl _, .refl _, trivial⟩, rfl, rfl, congrArg (fun z : List D => some (HObj.own w z.length 19 123)) hnx, rfl, rfl, trivial⟩⟩
 ·refine Tri.exit ?_
  conv => whnf
  have hin : i = n.kids.length := by simp at hc; omega
  have e1 : spL (n.kids.take i) ((namesG 0 n.kids).take i) x c = spT n x c := by rw [spT_eq, List.take_of_length_le (by omega), List.take_of_length_le (by omega)]
  rw [e1]
  refine Tri.seq ?_
  refine Tri.region ti2_ok ?_
  conv => whnf
  refine Tri.retK [(6, .sl (.own 2000 w) 19 ((l0 ++ x :: spT n x c).map encSp))] [(2000, .own w ((l0 ++ x :: spT n x c).map encSp).length 19 123)] [(2000, 200)] ⟨⟨DLe.own _ _, trivial⟩, rfl, rfl, rfl, trivial⟩ ?_
  conv => whnf
  exact ⟨_, .refl _, _, rfl, rfl⟩
end Go.Tame.V
/- What holds of the list of nodes with records. Plain. -/
namespace Go.Tame.V
open Go Go.Proofs
set_option maxRecDepth 10000
set_option linter.unusedVariables false
set_option linter.unusedSimpArgs false

mutual
/-- Only directories have kids. -/
def okD : NV → Prop
 | .mk _ kd _ _ _ _ _ _ _ _ ks _ => (kd ≠ 0 → ks = []) ∧ okDL ks
def okDL : List NV → Prop
 | [] => True
 | k :: r => okD k ∧ okDL r
end
theorem okD_eq (n : NV) : okD n ↔ (n.kind ≠ 0 → n.kids = []) ∧ okDL n.kids := by cases n; simp only [okD]
theorem okDL_get : ∀ {l : List NV} (_ : okDL l) {k : NV} (_ : k ∈ l), okD k
 | x :: r, h, k, hk => by
  simp only [okDL] at h
  rcases List.mem_cons.1 hk with rfl | hk
  ·exact h.1
  ·exact okDL_get h.2 hk
/-- The node s stands rightly behind the nodes l. -/
structure StepOk (l : List XS) (s : XS) (p : XS) : Prop where
 si : s.si = l.length
 ab : s.ab < l.length
 par : l[s.ab]? = some p
 dir : p.isDir = true
 fi : s.fi = p.di
 any : s.any = true
 iso : s.iso = true → p.iso = true
 rock : s.rock = true → p.rock = true
 lv : s.lv = p.lv + 1
 path : s.path = below p.path s.n.name (p.lv + 1)
 kid : s.n ∈ p.n.kids
 lev : s.lev = if s.isDir then (if p.lev + 1 = 9 then 3 else p.lev + 1) else 0
 mv : s.mv = (s.isDir && p.lev + 1 == 9)
 di : s.di = (dirsX l).length
 mno : s.mno = (movX l).length + 1
/-- A list of nodes with records, from the root on. -/
inductive Built (rr : Bool) (n : NV) : List XS → Prop
 | root (h0 : n.kind = 0) : Built rr n [rootX rr n]
 | snoc {l : List XS} {s p : XS} (h : Built rr n l) (hs : StepOk l s p) : Built rr n (l ++ [s])
theorem filter_snoc {α : Type} (f : α → Bool) (l : List α) (s : α) : ((l ++ [s]).filter f).length = if f s then (l.filter f).length + 1 else (l.filter f).length := by
 rw [List.filter_append, List.length_append]
 cases h : f s <;> simp [h]
/-- The counters say how many there were. -/
def CnOk (c : Cn) (l : List XS) : Prop := c.ns = l.length ∧ c.nf = (dirsX l).length ∧ c.nm = (movX l).length
theorem CnOk.add {c : Cn} {l : List XS} (h : CnOk c l) (s : XS) : CnOk (c.add s) (l ++ [s]) := by
 obtain ⟨h1, h2, h3⟩ := h
 refine ⟨by simp [Cn.add, h1], ?_, ?_⟩
 ·simp only [Cn.add, dirsX, filter_snoc]; split <;> simp [h2, dirsX]
 ·simp only [Cn.add, movX, filter_snoc]; split <;> simp [h3, movX]
theorem CnOk.addL : ∀ {m : List XS} {c : Cn} {l : List XS} (h : CnOk c l), CnOk (c.addL m) (l ++ m)
 | [], c, l, h => by rw [List.append_nil]; exact h
 | s :: r, c, l, h => by
  have := (h.add s).addL (m := r)
  rw [List.append_assoc, List.singleton_append] at this
  exact this
theorem child_step {l : List XS} {x : XS} {k : NV} {m : List UInt8} {c : Cn} (hx : l[x.si]? = some x) (hd : x.isDir = true) (hc : CnOk c l) (hk : k ∈ x.n.kids) (ha : (child x k m c).any = true) : StepOk l (child x k m c) x := by
 obtain ⟨h1, h2, h3⟩ := hc
 have hlt : x.si < l.length := by
  rcases Nat.lt_or_ge x.si l.length with h | h
  ·exact h
  ·rw [List.getElem?_eq_none h] at hx; cases hx
 refine ⟨h1, hlt, hx, hd, rfl, ha, fun h => ?_, fun h => ?_, rfl, rfl, hk, rfl, rfl, h2, by show c.nm + 1 = _; rw [h3]⟩
 ·simp only [child, Bool.and_eq_true] at h; exact h.1
 ·simp only [child, Bool.and_eq_true] at h; exact h.1
mutual
theorem built_T (rr : Bool) (r0 : NV) : ∀ (n : NV) (x : XS) (c : Cn) (l : List XS), Built rr r0 l → x.n = n → okD n → l[x.si]? = some x → CnOk c l → Built rr r0 (l ++ spT n x c)
 | .mk nm kd t tg a1 a2 a3 a4 a5 a6 ks ss, x, c, l, hb, hxn, hok, hx, hc => by
  simp only [spT]
  have hok' := (okD_eq _).1 hok
  by_cases hd : kd = 0
  ·refine built_L rr r0 ks (namesG 0 ks) x c l hb (by rw [XS.isDir, hxn, hd]; rfl) (fun k hk => ?_) hok'.2 hx hc
   rw [hxn]; exact hk
  ·have : ks = [] := hok'.1 hd
   subst this
   simpa [spL] using hb
theorem built_L (rr : Bool) (r0 : NV) : ∀ (ks : List NV) (ms : List (List UInt8)) (x : XS) (c : Cn) (l : List XS), Built rr r0 l → x.isDir = true → (∀ k ∈ ks, k ∈ x.n.kids) → okDL ks → l[x.si]? = some x → CnOk c l → Built rr r0 (l ++ spL ks ms x c)
 | [], _, x, c, l, hb, _, _, _, _, _ => by simpa [spL] using hb
 | k :: r, [], x, c, l, hb, _, _, _, _, _ => by simpa [spL] using hb
 | k :: r, m :: ms, x, c, l, hb, hd, hks, hok, hx, hc => by
  simp only [okDL] at hok
  simp only [spL]
  split
  ·rename_i ha
   have hst := child_step (m := m) hx hd hc (hks k List.mem_cons_self) ha
   have hb1 := hb.snoc hst
   have hc1 := hc.add (child x k m c)
   have hx1 : (l ++ [child x k m c])[(child x k m c).si]? = some (child x k m c) := by
    rw [hst.si]; simp
   have hb2 := built_T rr r0 k (child x k m c) (c.add (child x k m c)) (l ++ [child x k m c]) hb1 rfl hok.1 hx1 hc1
   have hc2 := hc1.addL (m := spT k (child x k m c) (c.add (child x k m c)))
   have hlt : x.si < l.length := by
    rcases Nat.lt_or_ge x.si l.length with h | h
    ·exact h
    ·rw [List.getElem?_eq_none h] at hx; cases hx
   have hx2 : (l ++ [child x k m c] ++ spT k (child x k m c) (c.add (child x k m c)))[x.si]? = some x := by
    rw [List.append_assoc, List.getElem?_append_left hlt]; exact hx
   have hb3 := built_L rr r0 r ms x _ _ hb2 hd (fun k' hk' => hks k' (List.mem_cons_of_mem _ hk')) hok.2 hx2 hc2
   simpa using hb3
  ·exact built_L rr r0 r ms x c l hb hd (fun k' hk' => hks k' (List.mem_cons_of_mem _ hk')) hok.2 hx hc
end
theorem built_spots (rr : Bool) {n : NV} (hok : okD n) (h0 : n.kind = 0) : Built rr n (spots rr n) := by
 have := built_T rr n n (rootX rr n) ⟨1, 1, 0⟩ [rootX rr n] (.root h0) rfl hok rfl (by
  refine ⟨rfl, ?_, ?_⟩
  ·simp [dirsX, XS.isDir, rootX, h0]
  ·simp [movX, rootX])
 exact this
theorem Built.root0 {rr : Bool} {n : NV} {l : List XS} (h : Built rr n l) : l[0]? = some (rootX rr n) ∧ 0 < l.length := by
 induction h with
 | root h0 => exact ⟨rfl, by simp⟩
 | snoc h hs ih => exact ⟨by rw [List.getElem?_append_left ih.2]; exact ih.1, by simp⟩
theorem Built.kind {rr : Bool} {n : NV} {l : List XS} (h : Built rr n l) : n.kind = 0 := by
 induction h with
 | root h0 => exact h0
 | snoc h hs ih => exact ih
/-- Each node but the root stands rightly behind those ahead of it. -/
theorem Built.at {rr : Bool} {n : NV} {l : List XS} (h : Built rr n l) : ∀ {i : Nat} {s : XS}, 0 < i → l[i]? = some s → ∃ p, StepOk (l.take i) s p := by
 induction h with
 | root h0 => intro i s hi hs; rw [List.getElem?_eq_none (by simp; omega)] at hs; cases hs
 | @snoc l s p h hst ih =>
  intro i t hi ht
  rcases Nat.lt_or_ge i l.length with hl | hl
  ·rw [List.getElem?_append_left hl] at ht
   rw [List.take_append_of_le_length (by omega)]
   exact ih hi ht
  ·rcases Nat.lt_or_ge l.length i with hg | hg
   ·rw [List.getElem?_eq_none (by simp; omega)] at ht; cases ht
   ·have : i = l.length := by omega
    subst this
    rw [List.getElem?_concat_length] at ht
    cases ht
    rw [List.take_append_of_le_length (Nat.le_refl _), List.take_length]
    exact ⟨p, hst⟩
theorem Built.si {rr : Bool} {n : NV} {l : List XS} (h : Built rr n l) {i : Nat} {s : XS} (hs : l[i]? = some s) : s.si = i := by
 rcases Nat.eq_zero_or_pos i with rfl | hi
 ·rw [h.root0.1] at hs; cases hs; rfl
 ·obtain ⟨p, hst⟩ := h.at hi hs
  have hlt : i < l.length := by
   rcases Nat.lt_or_ge i l.length with h | h
   ·exact h
   ·rw [List.getElem?_eq_none h] at hs; cases hs
  rw [hst.si, List.length_take]; omega
/-- The levels are from 1 to 8. -/
theorem Built.lev {rr : Bool} {n : NV} {l : List XS} (hb : Built rr n l) : ∀ (i : Nat) (s : XS), l[i]? = some s → 0 ≤ s.lev ∧ s.lev ≤ 8 ∧ (s.isDir = true → 1 ≤ s.lev) ∧ (s.isDir = false → s.lev = 0 ∧ s.mv = false) := by
 intro i
 induction i using Nat.strongRecOn with
 | _ i ih =>
  intro s hs
  rcases Nat.eq_zero_or_pos i with rfl | hi
  ·rw [hb.root0.1] at hs; cases hs
   have hk := hb.kind
   refine ⟨by show (0 : Int) ≤ 1; decide, by show (1 : Int) ≤ 8; decide, fun _ => by show (1 : Int) ≤ 1; decide, fun h => ?_⟩
   rw [XS.isDir, rootX, hk] at h; cases h
  ·obtain ⟨p, hst⟩ := hb.at hi hs
   have hlt := hst.ab
   rw [List.length_take] at hlt
   have hp : l[s.ab]? = some p := by
    have := hst.par
    rwa [List.getElem?_take, if_pos (by omega)] at this
   obtain ⟨h1, h2, h3, h4⟩ := ih s.ab (by omega) p hp
   have hl := hst.lev
   have hm := hst.mv
   have h5 := h3 hst.dir
   cases hd : s.isDir with
   | true =>
    rw [hd, if_pos rfl] at hl
    split at hl <;> exact ⟨by omega, by omega, fun _ => by omega, fun h => (by cases h)⟩
   | false =>
    rw [hd] at hl hm
    rw [if_neg (by decide)] at hl
    exact ⟨by omega, by omega, fun h => (by cases h), fun _ => ⟨hl, by rw [hm]; rfl⟩⟩
end Go.Tame.V
/- Contracts: the reference's levels. By program (mk.py). -/
namespace Go.Tame.V
open Go Go.Proofs
variable {W0 : World}
set_option maxRecDepth 10000
set_option linter.unusedVariables false
set_option linter.unusedSimpArgs false

/-- A row that is done up to a place. -/
def rowP {α : Type} (f : α → D) (z : D) (L : List α) (i : Nat) : List D := (L.take i).map f ++ List.replicate (L.length - i) z
section
variable {α : Type} {f : α → D} {z : D} {L : List α} {i : Nat}
theorem rowP_len (h : i ≤ L.length) : (rowP f z L i).length = L.length := by simp [rowP]; omega
theorem rowP_zero : rowP f z L 0 = List.replicate L.length z := by simp [rowP]
theorem rowP_all : rowP f z L L.length = L.map f := by simp [rowP]
theorem rowP_get (h : i ≤ L.length) {j : Nat} (hj : j < i) : (rowP f z L i)[j]? = some (f (L[j]'(by omega))) := by
 rw [rowP, List.getElem?_append_left (by simp; omega)]
 simp [hj, show j < L.length by omega]
theorem rowP_at (h : i < L.length) : (rowP f z L i)[i]? = some z := by
 rw [rowP, List.getElem?_append_right (by simp; omega), List.getElem?_replicate, if_pos (by simp; omega)]
theorem rowP_set (h : i < L.length) : (rowP f z L i).set i (f L[i]) = rowP f z L (i + 1) := by
 have e : (List.map f (List.take i L)).length = i := by simp; omega
 rw [rowP, List.set_append_right _ _ (by omega), e, Nat.sub_self, show L.length - i = (L.length - (i + 1)) + 1 by omega, List.replicate_succ, List.set_cons_zero, rowP, List.take_succ_eq_append_getElem h, List.map_append, List.append_assoc]
 rfl
theorem rowP_same (h : i < L.length) (e : f L[i] = z) : rowP f z L i = rowP f z L (i + 1) := by
 rw [← rowP_set h, e]
 apply List.ext_getElem?
 intro j
 rw [List.getElem?_set]
 by_cases hj : i = j
 ·subst hj
  rw [if_pos rfl, rowP_at h, if_pos (by rw [rowP_len (by omega)]; exact h)]
 ·rw [if_neg hj]
end
def levD (s : XS) : D := .int .i64 s.lev
def mvD (s : XS) : D := .bool s.mv
theorem G94 {rr : Bool} {n : NV} {L : List XS} (hb : Built rr n L) (hl : L.length < 1000000) : DFun Tryz.prog W0 94 [.sl .none 19 (L.map encSp)] (.tup [.sl .none 1 (L.map levD), .sl .none 1 (L.map mvD)]) := by
 refine DFun.intro ti2_ok Tryz.func94 rfl (by decide +kernel) Tryz.ntmps94 rfl fun Γ => ?_
 refine Tri.seq ?_
 refine Tri.region ti2_ok ?_
 conv => whnf
 refine Tri.seq ?_
 refine Tri.regionX ti2_ok ?_
 conv => whnf
 refine .inr (XOp.makeRow ti2_ok (n := L.length) (k1 := .i64) (k2 := .i64) (z := .int .i64 0) rfl rfl rfl rfl rfl ?_ ?_ (by show 8 * _ ≤ _; omega) (by omega) fun rv => ?_)
 ·show D.int _ _ = _; simp
 ·show D.int _ _ = _; simp
 conv => whnf
 refine Tri.seq ?_
 refine Tri.regionX ti2_ok ?_
 conv => whnf
 refine .inr (XOp.makeRow ti2_ok (n := L.length) (k1 := .i64) (k2 := .i64) (z := .bool false) rfl rfl rfl rfl rfl ?_ ?_ (by show 1 * _ ≤ _; omega) (by omega) fun rm => ?_)
 ·show D.int _ _ = _; simp
 ·show D.int _ _ = _; simp
 conv => whnf
 refine Tri.seq ?_
 refine Tri.seq ?_
 refine Tri.region ti2_ok ?_
 conv => whnf
 refine Tri.block ?_
 refine Tri.loopK (α := { i : Nat // i ≤ L.length }) (fun x => [(0, .sl .none 19 (L.map encSp)), (4, .raw rv), (5, .raw rm), (6, .int .i64 x.1)]) (fun x => [(9, .row rv (rowP levD (.int .i64 0) L x.1) 1 3), (12, .row rm (rowP mvD (.bool false) L x.1) 1 4)]) (fun x => L.length - x.1) ⟨0, Nat.zero_le _⟩ [(9, 9), (12, 12)]
  ⟨⟨.refl _, .refl _, .refl _, .refl _, trivial⟩, rfl, rfl, congrArg (fun z => some (HObj.row rv z 1 3)) rowP_zero.symm, rfl, congrArg (fun z => some (HObj.row rm z 1 4)) rowP_zero.symm, trivial⟩ ?_
 rintro ⟨i, hi⟩
 dsimp only
 refine Tri.seq ?_
 refine Tri.seq ?_
 refine Tri.region ti2_ok ?_
 conv => whnf
 refine Tri.cond (decide ((i : Int) < (L.map encSp).length)) rfl (fun hc => ?_) (fun hc => ?_)
 ·refine Tri.skip ?_
  conv => whnf
  have hia : i < L.length := by simpa using hc
  have hs : L[i]? = some L[i] := List.getElem?_eq_getElem hia
  obtain ⟨hv1, hv2, hv3, hv4⟩ := hb.lev i L[i] hs
  have hlr := rowP_len (f := levD) (z := .int .i64 0) hi
  have hlm := rowP_len (f := mvD) (z := .bool false) hi
  refine Tri.seq ?_
  refine Tri.block ?_
  refine Tri.seq ?_
  refine Tri.seq ?_
  refine Tri.region ti2_ok ?_
  conv => whnf
  refine ⟨fun _ => by simp; omega, ?_⟩
  conv => whnf
  refine ⟨encSp L[i], fun _ => get_at hia, ?_⟩
  conv => whnf
  refine Tri.cond _ rfl (fun hc => ?_) (fun hc => ?_)
  ·refine Tri.exit ?_
   conv => whnf
   refine Tri.region ti2_ok ?_
   conv => whnf
   refine .inl ⟨fun _ => by simp [InR]; omega, ?_⟩
   conv => whnf
   have hd : L[i].isDir = false := by simpa [XS.isDir] using hc
   obtain ⟨h5, h6⟩ := hv4 hd
   exact ⟨⟨i + 1, hia⟩, [(9, 9), (12, 12)], by show _ - (i + 1) < _ - i; omega, ⟨.refl _, .refl _, .refl _, .refl _, trivial⟩, rfl, rfl, congrArg (fun z => some (HObj.row rv z 1 3)) (rowP_same hia (by rw [levD, h5])), rfl, congrArg (fun z => some (HObj.row rm z 1 4)) (rowP_same hia (by rw [mvD, h6])), trivial⟩
  ·refine Tri.skip ?_
   conv => whnf
   have hd : L[i].isDir = true := by simpa [XS.isDir] using hc
   refine Tri.seq ?_
   refine Tri.regionX ti2_ok ?_
   conv => whnf
   refine .inr (XOp.rowIndex ti2_ok 9 rfl rfl rfl rfl rfl rfl rfl (by omega) (by omega) ?_)
   conv => whnf
   conv => whnf
   refine .inr (XOp.rowStore ti2_ok 9 (i := i) (by rw [Int.toNat_natCast]; rfl) rfl rfl rfl (by omega) rfl ?_)
   conv => whnf
   conv => whnf
   obtain ⟨q, hq0, hq1⟩ : ∃ q : Int, (i = 0 → q = 1) ∧ (∀ p, 0 < i → StepOk (L.take i) L[i] p → q = p.lev + 1) := by
    rcases Nat.eq_zero_or_pos i with h | h
    ·exact ⟨1, fun _ => rfl, fun p h' => by omega⟩
    ·obtain ⟨p, hst⟩ := hb.at h hs
     refine ⟨p.lev + 1, fun h' => by omega, fun p' _ hst' => ?_⟩
     have h1 := hst.par
     rw [hst'.par] at h1
     cases h1; rfl
   have hfin : (q = 9 → L[i].lev = 3 ∧ L[i].mv = true) ∧ (q ≠ 9 → L[i].lev = q ∧ L[i].mv = false) := by
    rcases Nat.eq_zero_or_pos i with h | h
    ·have h1 := hq0 h
     subst h
     have hr := hb.root0.1
     rw [hs] at hr
     have hr := Option.some.inj hr
     refine ⟨fun h2 => by omega, fun _ => ?_⟩
     rw [hr, h1]; exact ⟨rfl, rfl⟩
    ·obtain ⟨p, hst⟩ := hb.at h hs
     have h1 := hq1 p h hst
     have h2 := hst.lev
     have h3 := hst.mv
     rw [hd] at h2 h3
     rw [if_pos rfl] at h2
     refine ⟨fun h4 => ?_, fun h4 => ?_⟩
     ·rw [if_pos (by omega)] at h2
      exact ⟨h2, by rw [h3, show p.lev = 8 by omega]; rfl⟩
     ·rw [if_neg (by omega)] at h2
      refine ⟨by omega, ?_⟩
      rw [h3, Bool.true_and, beq_eq_false_iff_ne]; omega
   refine Tri.joinK (α := Unit) (fun x => [(0, .sl .none 19 (L.map encSp)), (4, .raw rv), (5, .raw rm), (6, .int .i64 i)]) (fun x => [(9, .row rv ((rowP levD (.int .i64 0) L i).set i (.int .i64 q)) 1 3), (12, .row rm (rowP mvD (.bool false) L i) 1 4)]) ?_ ?_
   ·refine Tri.seq ?_
    refine Tri.region ti2_ok ?_
    conv => whnf
    refine Tri.cond (decide ((0 : Int) < (i : Int))) rfl (fun hc => ?_) (fun hc => ?_)
    ·have h0i : 0 < i := by simpa using hc
     obtain ⟨p, hst⟩ := hb.at h0i hs
     have hqp := hq1 p h0i hst
     have hab := hst.ab
     rw [List.length_take] at hab
     have hpar : L[L[i].ab]? = some p := by
      have := hst.par
      rwa [List.getElem?_take, if_pos (by omega)] at this
     obtain ⟨hp1, hp2, _⟩ := hb.lev _ _ hpar
     have hrg : ((rowP levD (.int .i64 0) L i).set i (.int .i64 1))[L[i].ab]? = some (.int .i64 p.lev) := by
      rw [List.getElem?_set_ne (by omega), rowP_get hi (by omega)]
      rw [List.getElem?_eq_getElem (by omega)] at hpar
      rw [Option.some.inj hpar]; rfl
     refine Tri.regionX ti2_ok ?_
     conv => whnf
     refine .inl ?_
     conv => whnf
     refine ⟨fun _ => by simp; omega, ?_⟩
     conv => whnf
     refine .inl ?_
     conv => whnf
     refine ⟨encSp L[i], fun _ => get_at hia, ?_⟩
     conv => whnf
     refine .inr (XOp.rowIndex ti2_ok 9 rfl rfl rfl rfl rfl rfl rfl (by omega) (by rw [List.length_set]; omega) ?_)
     conv => whnf
     conv => whnf
     refine .inr (XOp.rowLoad ti2_ok 9 (i := L[i].ab) (by rw [Int.toNat_natCast]; rfl) rfl rfl hrg ?_)
     conv => whnf
     conv => whnf
     refine .inl ⟨fun _ => by simp [InR]; omega, ?_⟩
     conv => whnf
     refine .inr (XOp.rowIndex ti2_ok 9 rfl rfl rfl rfl rfl rfl rfl (by omega) (by rw [List.length_set]; omega) ?_)
     conv => whnf
     conv => whnf
     refine .inr (XOp.rowStore ti2_ok 9 (i := i) (by rw [Int.toNat_natCast]; rfl) rfl rfl rfl (by rw [List.length_set]; omega) rfl ?_)
     conv => whnf
     conv => whnf
     exact ⟨(), [(9, 9), (12, 12)], ⟨.refl _, .refl _, .refl _, .refl _, trivial⟩, rfl, rfl, congrArg (fun z => some (HObj.row rv z 1 3)) (by rw [List.set_set, hqp]; rfl), rfl, rfl, trivial⟩
    ·refine Tri.skip ?_
     conv => whnf
     have h0i : i = 0 := by simp at hc; omega
     exact ⟨(), [(9, 9), (12, 12)], ⟨.refl _, .refl _, .refl _, .refl _, trivial⟩, rfl, rfl, congrArg (fun z => some (HObj.row rv z 1 3)) (by rw [hq0 h0i]; rfl), rfl, rfl, trivial⟩
   ·rintro ⟨⟩
    refine Tri.seq ?_
    refine Tri.regionX ti2_ok ?_
    conv => whnf
    refine .inr (XOp.rowIndex ti2_ok 9 rfl rfl rfl rfl rfl rfl rfl (by omega) (by rw [List.length_set]; omega) ?_)
    conv => whnf
    conv => whnf
    refine .inr (XOp.rowLoad ti2_ok 9 (i := i) (y := .int .i64 q) (by rw [Int.toNat_natCast]; rfl) rfl rfl (by rw [List.getElem?_set_self (by omega)]) ?_)
    conv => whnf
    conv => whnf
    refine Tri.cond _ rfl (fun hc => ?_) (fun hc => ?_)
    ·refine Tri.seq ?_
     refine Tri.regionX ti2_ok ?_
     conv => whnf
     obtain ⟨hf1, hf2⟩ := hfin.1 (by simpa using hc)
     refine .inr (XOp.rowIndex ti2_ok 9 rfl rfl rfl rfl rfl rfl rfl (by omega) (by rw [List.length_set]; omega) ?_)
     conv => whnf
     conv => whnf
     refine .inr (XOp.rowStore ti2_ok 9 (i := i) (by rw [Int.toNat_natCast]; rfl) rfl rfl rfl (by rw [List.length_set]; omega) rfl ?_)
     conv => whnf
     conv => whnf
     refine Tri.regionX ti2_ok ?_
     conv => whnf
     refine .inr (XOp.rowIndex ti2_ok 12 rfl rfl rfl rfl rfl rfl rfl (by omega) (by omega) ?_)
     conv => whnf
     conv => whnf
     refine .inr (XOp.rowStore ti2_ok 12 (i := i) (by rw [Int.toNat_natCast]; rfl) rfl rfl rfl (by omega) rfl ?_)
     conv => whnf
     conv => whnf
     refine Tri.region ti2_ok ?_
     conv => whnf
     refine .inl ⟨fun _ => by simp [InR]; omega, ?_⟩
     conv => whnf
     exact ⟨⟨i + 1, hia⟩, [(9, 9), (12, 12)], by show _ - (i + 1) < _ - i; omega, ⟨.refl _, .refl _, .refl _, .refl _, trivial⟩, rfl, rfl, congrArg (fun z => some (HObj.row rv z 1 3)) (by rw [← rowP_set hia, levD, hf1, List.set_set]; rfl), rfl, congrArg (fun z => some (HObj.row rm z 1 4)) (by rw [← rowP_set hia, mvD, hf2]; rfl), trivial⟩
    ·refine Tri.skip ?_
     conv => whnf
     refine Tri.region ti2_ok ?_
     conv => whnf
     obtain ⟨hf1, hf2⟩ := hfin.2 (by simpa using hc)
     refine .inl ⟨fun _ => by simp [InR]; omega, ?_⟩
     conv => whnf
     exact ⟨⟨i + 1, hia⟩, [(9, 9), (12, 12)], by show _ - (i + 1) < _ - i; omega, ⟨.refl _, .refl _, .refl _, .refl _, trivial⟩, rfl, rfl, congrArg (fun z => some (HObj.row rv z 1 3)) (by rw [← rowP_set hia, levD, hf1]), rfl, congrArg (fun z => some (HObj.row rm z 1 4)) (rowP_same hia (by rw [mvD, hf2])), trivial⟩
 ·refine Tri.exit ?_
  conv => whnf
  have hin : i = L.length := by simp at hc; omega
  subst hin
  rw [rowP_all, rowP_all]
  refine Tri.forgetK [(4, .raw rv), (5, .raw rm)] [(9, .row rv (L.map levD) 1 3), (12, .row rm (L.map mvD) 1 4)] [(9, 9), (12, 12)] ⟨⟨.refl _, .refl _, trivial⟩, rfl, rfl, rfl, rfl, rfl, trivial⟩ ?_
  refine Tri.commitSt 9 4 rfl ?_
  refine Tri.forgetK [(5, .raw rm), (4, .sl .none 1 (L.map levD))] [(12, .row rm (L.map mvD) 1 4)] [(12, 12)] ⟨⟨.refl _, .refl _, trivial⟩, rfl, rfl, rfl, trivial⟩ ?_
  refine Tri.commitSt 12 5 rfl ?_
  refine Tri.seq ?_
  refine Tri.region ti2_ok ?_
  conv => whnf
  refine Tri.ret ?_
  conv => whnf
  exact ⟨.refl _, .refl _, trivial⟩
end Go.Tame.V
/- Contracts: the reference's Plan. By program (mkrf.py, mk.py). -/
namespace Go.Tame.V
open Go Go.Proofs
variable {W0 : World}
set_option maxRecDepth 10000
set_option linter.unusedVariables false
set_option linter.unusedSimpArgs false

/-- The index in the plan of a node that is a directory, or -1. -/
def idxN (sh : Nat) (s : XS) : Int := if s.isDir then (ixS sh s.di : Nat) else -1
def idxD (sh : Nat) (s : XS) : D := .int .i64 (idxN sh s)
def outL (sh : Nat) (rn : List UInt8) (T : List XS) (t : Nat) : List DirV := rootDir :: ((if sh = 0 then [] else [⟨[47], rn, 2, 0, 0, false⟩]) ++ (dirsX (T.take t)).map (XS.dirV sh))
theorem take_nxt {α : Type} {T : List α} {t : Nat} {s : α} (h : T[t]? = some s) : T.take (t + 1) = T.take t ++ [s] := by
 obtain ⟨hl, rfl⟩ := List.getElem?_eq_some_iff.1 h
 exact List.take_succ_eq_append_getElem hl
theorem outL_next {sh : Nat} {rn : List UInt8} {T : List XS} {t : Nat} {s : XS} (h : T[t]? = some s) (hd : s.isDir = true) : (outL sh rn T t).map encDir ++ [encDir (s.dirV sh)] = (outL sh rn T (t + 1)).map encDir := by
 have e : dirsX (T.take (t + 1)) = dirsX (T.take t) ++ [s] := by rw [take_nxt h, dirsX, List.filter_append]; simp [dirsX, hd]
 rw [outL, outL, e]; simp
theorem outL_file {sh : Nat} {rn : List UInt8} {T : List XS} {t : Nat} {s : XS} (h : T[t]? = some s) (hd : s.isDir = false) : outL sh rn T (t + 1) = outL sh rn T t := by
 have e : dirsX (T.take (t + 1)) = dirsX (T.take t) := by rw [take_nxt h, dirsX, List.filter_append]; simp [dirsX, hd]
 rw [outL, outL, e]
theorem outL_len {sh : Nat} {rn : List UInt8} {T : List XS} {t : Nat} (hs : sh ≤ 1) : (outL sh rn T t).length = 1 + sh + (dirsX (T.take t)).length := by
 rw [outL]
 rcases Nat.eq_zero_or_pos sh with rfl | h
 ·simp; omega
 ·rw [if_neg (by omega)]; simp; omega
theorem movX_next {T : List XS} {t : Nat} {s : XS} (h : T[t]? = some s) : (movX (T.take (t + 1))).length = if s.mv then (movX (T.take t)).length + 1 else (movX (T.take t)).length := by
 rw [take_nxt h]; exact filter_snoc XS.mv _ _
theorem outL_all (rn : List UInt8) (T : List XS) : outL (shiftX T) rn T T.length = dirsP rn T := by rw [outL, List.take_length]; rfl
/-- What stands ahead of the records of the nodes. -/
def preR (sh : Nat) (rn : List UInt8) (k : Nat) : List EntV := if k = 0 ∧ sh ≠ 0 then [⟨[47], rn, 0, 1, true, false, false⟩] else []
/-- The records in the k-th directory. -/
def blockR (sh : Nat) (rn : List UInt8) (T : List XS) (k : Nat) : List EntV := if k = 1 ∧ sh ≠ 0 then (movX T).map (XS.movV sh) else preR sh rn k ++ (T.filter fun x => ixS sh x.fi == k).map (XS.entV sh)
theorem recs_next (sh : Nat) (rn : List UInt8) (T : List XS) (k : Nat) {t : Nat} {s : XS} (h : T[t]? = some s) (hk : ixS sh s.fi = k) :
  (((List.range k).flatMap (blockR sh rn T) ++ (preR sh rn k ++ ((T.take t).filter fun x => ixS sh x.fi == k).map (XS.entV sh))).map encEnt) ++ [encEnt (s.entV sh)] = ((List.range k).flatMap (blockR sh rn T) ++ (preR sh rn k ++ ((T.take (t + 1)).filter fun x => ixS sh x.fi == k).map (XS.entV sh))).map encEnt := by
 rw [take_nxt h, List.filter_append]
 simp [hk]
theorem recs_same (sh : Nat) (T : List XS) (k : Nat) {t : Nat} {s : XS} (h : T[t]? = some s) (hk : ixS sh s.fi ≠ k) : ((T.take (t + 1)).filter fun x => ixS sh x.fi == k) = (T.take t).filter fun x => ixS sh x.fi == k := by
 rw [take_nxt h, List.filter_append]
 simp [hk]
/-- The records, directory by directory. -/
theorem ents_blocks (rn : List UInt8) {T : List XS} (hfi : ∀ x ∈ T, x.fi ≤ (dirsX T).length) : (List.range (1 + shiftX T + (dirsX T).length)).flatMap (blockR (shiftX T) rn T) = entsP rn T := by
 have hix : ∀ (sh i : Nat), sh ≤ 1 → 0 < i → ixS sh i = i + sh := fun sh i h1 h2 => by rw [ixS, if_neg (by omega)]
 have hb : ∀ i, blockR (shiftX T) rn T (1 + shiftX T + i) = recsAt (shiftX T) T (i + 1) := fun i => by
  have hs : shiftX T ≤ 1 := by unfold shiftX; split <;> omega
  rw [blockR, if_neg (by omega), preR, if_neg (by omega), List.nil_append, recsAt]
  congr 1
  refine List.filter_congr fun x hx => ?_
  rw [Bool.eq_iff_iff]
  simp only [beq_iff_eq]
  rcases Nat.eq_zero_or_pos x.fi with h | h
  ·rw [h]; simp [ixS]; omega
  ·rw [hix _ _ hs h]; omega
 have h0 : blockR (shiftX T) rn T 0 = (if shiftX T = 0 then [] else [⟨[47], rn, 0, 1, true, false, false⟩]) ++ recsAt (shiftX T) T 0 := by
  rw [blockR, if_neg (by omega), preR, recsAt]
  congr 1
  ·by_cases h : shiftX T = 0
   ·rw [if_pos h, if_neg (by omega)]
   ·rw [if_neg h, if_pos ⟨rfl, h⟩]
  ·congr 1
   refine List.filter_congr fun x hx => ?_
   rw [Bool.eq_iff_iff]
   simp only [beq_iff_eq]
   rcases Nat.eq_zero_or_pos x.fi with h | h
   ·rw [h]; simp [ixS]
   ·rw [ixS, if_neg (by omega)]; omega
 rw [List.range_eq_range', show 1 + shiftX T + (dirsX T).length = 1 + (shiftX T + (dirsX T).length) by omega, ← List.range'_append_1, List.flatMap_append, ← List.range'_append_1, List.flatMap_append]
 rw [show List.range' 0 1 = [0] from rfl, List.flatMap_cons, List.flatMap_nil, List.append_nil, h0]
 have h2 : (List.range' (0 + 1 + shiftX T) (dirsX T).length).flatMap (blockR (shiftX T) rn T) = (List.range (dirsX T).length).flatMap fun i => recsAt (shiftX T) T (i + 1) := by
  rw [List.range'_eq_map_range, List.flatMap_map]
  congr 1
  funext i
  rw [← hb i]
 rw [h2, entsP]
 have h1 : (List.range' (0 + 1) (shiftX T)).flatMap (blockR (shiftX T) rn T) = (movX T).map (XS.movV (shiftX T)) := by
  unfold shiftX
  split
  ·rename_i h
   rw [List.eq_nil_of_length_eq_zero h]; rfl
  ·rename_i h
   rw [show List.range' (0 + 1) 1 = [1] from rfl, List.flatMap_cons, List.flatMap_nil, List.append_nil, blockR, if_pos ⟨rfl, by decide⟩]
 rw [h1]; simp
theorem mvRow {T : List XS} : (decide (shiftX T ≠ 0)) = T.any XS.mv := by
 unfold shiftX movX
 cases h : T.any XS.mv with
 | true =>
  obtain ⟨x, hx, hm⟩ := List.any_eq_true.1 h
  have : 0 < (T.filter XS.mv).length := List.length_pos_of_mem (List.mem_filter.2 ⟨hx, hm⟩)
  rw [if_neg (by omega)]; rfl
 | false =>
  have : T.filter XS.mv = [] := by
   rw [List.filter_eq_nil_iff]
   intro x hx
   rw [List.any_eq_false] at h
   exact h x hx
  rw [this]; rfl
theorem any_next {T : List XS} {t : Nat} {s : XS} (h : T[t]? = some s) : (T.take (t + 1)).any XS.mv = ((T.take t).any XS.mv || s.mv) := by
 rw [take_nxt h, List.any_append]; simp
/-- The directories' places. -/
theorem Built.dis {rr : Bool} {n : NV} {l : List XS} (h : Built rr n l) : ∀ (j : Nat) (s : XS), (dirsX l)[j]? = some s → s.di = j := by
 induction h with
 | root h0 =>
  intro j s hs
  have e : dirsX [rootX rr n] = [rootX rr n] := by simp [dirsX, XS.isDir, rootX, h0]
  rw [e] at hs
  cases j with
  | zero => cases hs; rfl
  | succ j => cases hs
 | @snoc l t p h hst ih =>
  intro j s hs
  cases hd : t.isDir with
  | false =>
   have e : dirsX (l ++ [t]) = dirsX l := by rw [dirsX, List.filter_append]; simp [dirsX, hd]
   rw [e] at hs; exact ih j s hs
  | true =>
   have e : dirsX (l ++ [t]) = dirsX l ++ [t] := by rw [dirsX, List.filter_append]; simp [dirsX, hd]
   rw [e] at hs
   rcases Nat.lt_or_ge j (dirsX l).length with hj | hj
   ·rw [List.getElem?_append_left hj] at hs; exact ih j s hs
   ·rcases Nat.lt_or_ge (dirsX l).length j with hg | hg
    ·rw [List.getElem?_eq_none (by simp; omega)] at hs; cases hs
    ·have : j = (dirsX l).length := by omega
     subst this
     rw [List.getElem?_concat_length] at hs
     cases hs; exact hst.di
theorem filter_imp_len {α : Type} {f g : α → Bool} : ∀ {l : List α}, (∀ x, f x = true → g x = true) → (l.filter f).length ≤ (l.filter g).length
 | [], _ => by simp
 | x :: r, h => by
  have ih := filter_imp_len (l := r) h
  rw [List.filter_cons, List.filter_cons]
  cases hf : f x with
  | true => rw [h x hf]; simpa using ih
  | false => cases hg : g x <;> simp <;> omega
theorem flatMap_range_le {α : Type} (f : Nat → List α) : ∀ {a b : Nat}, a ≤ b → ((List.range a).flatMap f).length ≤ ((List.range b).flatMap f).length := by
 intro a b h
 induction h with
 | refl => exact Nat.le_refl _
 | step h ih => rw [List.range_succ, List.flatMap_append, List.length_append]; omega
theorem filter_sum_le (T : List XS) : ∀ m : Nat, (((List.range m).map fun i => (T.filter fun x => x.fi == i).length).sum) ≤ T.length := by
 induction T with
 | nil => intro m; induction m with
  | zero => simp
  | succ m ih => rw [List.range_succ, List.map_append, List.sum_append]; simpa using ih
 | cons s r ih =>
  intro m
  have key : ∀ m, ((List.range m).map fun i => ((s :: r).filter fun x => x.fi == i).length).sum ≤ ((List.range m).map fun i => (r.filter fun x => x.fi == i).length).sum + (if s.fi < m then 1 else 0) := by
   intro m
   induction m with
   | zero => simp
   | succ m ih2 =>
    rw [List.range_succ, List.map_append, List.map_append, List.sum_append, List.sum_append]
    simp only [List.map_cons, List.map_nil, List.sum_cons, List.sum_nil, Nat.add_zero]
    rw [List.filter_cons]
    by_cases h : s.fi = m
    ·subst h
     rw [if_neg (Nat.lt_irrefl _)] at ih2
     rw [if_pos (by simp), if_pos (by omega), List.length_cons]; omega
    ·rw [if_neg (by simpa using h)]
     by_cases h2 : s.fi < m
     ·rw [if_pos h2] at ih2; rw [if_pos (by omega)]; omega
     ·rw [if_neg h2] at ih2; rw [if_neg (by omega)]; omega
  have h1 := key m
  have h2 := ih m
  rw [List.length_cons]
  split at h1 <;> omega
theorem recsAt_len (s : Nat) (T : List XS) (i : Nat) : (recsAt s T i).length = (T.filter fun x => x.fi == i).length := by rw [recsAt, List.length_map]
theorem ents_len (rn : List UInt8) {T : List XS} (hfi : ∀ x ∈ T, x.fi ≤ (dirsX T).length) : (entsP rn T).length ≤ 2 * T.length + 1 := by
 rw [entsP]
 simp only [List.length_append, List.length_map, List.length_flatMap, recsAt_len]
 have h1 := filter_sum_le T (1 + (dirsX T).length)
 have h2 : (List.range (1 + (dirsX T).length)).map (fun i => (T.filter fun x => x.fi == i).length) = (T.filter fun x => x.fi == 0).length :: (List.range (dirsX T).length).map (fun i => (T.filter fun x => x.fi == i + 1).length) := by
  rw [Nat.add_comm, List.range_succ_eq_map, List.map_cons, List.map_map]; rfl
 rw [h2, List.sum_cons] at h1
 have h3 : (movX T).length ≤ T.length := List.length_filter_le _ _
 have h4 : (if shiftX T = 0 then ([] : List EntV) else [⟨[47], rn, 0, 1, true, false, false⟩]).length ≤ 1 := by split <;> simp
 omega
theorem filter_take_le {α : Type} (f : α → Bool) (l : List α) (t : Nat) : ((l.take t).filter f).length ≤ (l.filter f).length := ((List.take_sublist t l).filter f).length_le

mutual
theorem good_okD : ∀ (n : NV) (l : Int), goodB n l = true → okD n
 | .mk a b c d e f g h i j ks ss, l, hg => by
  obtain ⟨h1, h2⟩ := goodB_good hg
  simp only [okD]
  exact ⟨h1.dir, good_okDL ks (l + 1) h2⟩
theorem good_okDL : ∀ (ks : List NV) (l : Int), goodL ks l = true → okDL ks
 | [], l, hg => trivial
 | k :: r, l, hg => by
  simp only [goodL, Bool.and_eq_true] at hg
  simp only [okDL]
  exact ⟨good_okD k l hg.1, good_okDL r l hg.2⟩
end
theorem valid_okD {n : NV} (h : valid n = true) : okD n ∧ n.kind = 0 := by
 rw [valid_good, Bool.and_eq_true] at h
 exact ⟨good_okD n 1 h.2, (goodB_good (l := 1) (by cases n; exact h.2)).1.kind1 rfl⟩
set_option maxHeartbeats 4000000 in
theorem G41 (hL : LibOk W0) (rr : Bool) (n : NV) (hn : Fits n) (hc0 : valid n = true → cnt n < 100 ∧ sz n < 800000) : DFun Tryz.prog W0 41 [encTop n, .bool rr] (.tup [.sl .none 6 ((planV rr n).1.map encDir), .sl .none 7 ((planV rr n).2.1.map encEnt), .int .i64 (planV rr n).2.2]) := by
 refine DFun.intro ti2_ok Tryz.func41 rfl (by decide +kernel) Tryz.ntmps41 rfl fun Γ => ?_
 refine Tri.seq ?_
 refine Tri.region ti2_ok ?_
 conv => whnf
 intro b2
 conv => whnf
 refine Tri.seq ?_
 refine Tri.seq ?_
 refine Tri.region ti2_ok ?_
 conv => whnf
 refine ⟨rfl, ?_⟩
 conv => whnf
 refine ⟨[encTop n], _, fun _ => F20 n hn, ⟨.refl _, trivial⟩, ?_⟩
 conv => whnf
 refine Tri.cond _ rfl (fun hc => ?_) (fun hc => ?_)
 ·refine Tri.seq ?_
  refine Tri.region ti2_ok ?_
  conv => whnf
  refine Tri.ret ?_
  conv => whnf
  have hv : ¬ valid n = true := by simpa using hc
  rw [planV, if_neg hv]
  exact ⟨DLe.nil, DLe.nil, .refl _, trivial⟩
 ·refine Tri.skip ?_
  conv => whnf
  have hv : valid n = true := by simpa using hc
  obtain ⟨hcn, hsz⟩ := hc0 hv
  have hokt := valid_okT hv
  obtain ⟨hokd, hk0⟩ := valid_okD hv
  have hb := built_spots rr hokd hk0
  have hLT : spots rr n = rootX rr n :: spT n (rootX rr n) ⟨1, 1, 0⟩ := rfl
  have hTl := spT_len n (rootX rr n) ⟨1, 1, 0⟩
  have hpl : planV rr n = (dirsP (rrN (rrK (namesG 0 n.kids))) (spT n (rootX rr n) ⟨1, 1, 0⟩), entsP (rrN (rrK (namesG 0 n.kids))) (spT n (rootX rr n) ⟨1, 1, 0⟩), 0) := by rw [planV, if_pos hv]
  have hSp := G93 (W0 := W0) hL rr _ n (Nat.lt_succ_self _) hokt (rootX rr n) ⟨1, 1, 0⟩ [] (.slice none 0 0) rfl rfl rfl (fun h => h) (Int.le_refl _) (by show (1 : Int) + _ < _; omega) (by show 0 + _ < _; omega) (by show 0 + _ < _; omega)
  rw [hpl]
  obtain ⟨h64, _, hinc, hokl⟩ := (okT_eq n).1 hokt
  have hnk : ∀ k ∈ n.kids, nameOk k.name = true ∧ k.name.length < 1000000000 := fun k hk => (okL_get hokl hk).1
  have hG95 := G95 (W0 := W0) hL n h64 hnk hinc
  have hrnl : (rrN (rrK (namesG 0 n.kids))).length ≤ 8 := by
   have h1 := (rr_ok (U := namesG 0 n.kids) (by rw [namesG_len]; exact h64)).1
   rw [rrN]; split
   ·decide
   ·have := dig_len _ h1; simp; omega
  generalize spT n (rootX rr n) ⟨1, 1, 0⟩ = T at *
  generalize rrN (rrK (namesG 0 n.kids)) = rn at *
  generalize hLd : spots rr n = L at *
  obtain ⟨sh, hsh⟩ : ∃ sh, shiftX T = sh := ⟨_, rfl⟩
  have hsh1 : sh ≤ 1 := by rw [← hsh]; unfold shiftX; split <;> omega
  have hLl : L.length = T.length + 1 := by rw [hLT]; rfl
  have hroot := hb.root0.1
  have hdT : (dirsX L).length = 1 + (dirsX T).length := by rw [hLT, dirsX, List.filter_cons, if_pos (by rw [XS.isDir, rootX, hk0]; rfl)]; simp [dirsX]; omega
  have hat : ∀ (t : Nat) (s : XS), T[t]? = some s → ∃ p, L[t + 1]? = some s ∧ StepOk (L.take (t + 1)) s p ∧ L[s.ab]? = some p ∧ s.ab < t + 1 ∧ s.di = 1 + (dirsX (T.take t)).length ∧ s.mno = (movX (T.take t)).length + 1 := fun t s h => by
   have h1 : L[t + 1]? = some s := by rw [hLT]; exact h
   obtain ⟨p, hst⟩ := hb.at (Nat.succ_pos t) h1
   have h2 := hst.ab
   have hlt : t < T.length := by
    rcases Nat.lt_or_ge t T.length with h3 | h3
    ·exact h3
    ·rw [List.getElem?_eq_none h3] at h; cases h
   rw [List.length_take] at h2
   have h3 := hst.par
   rw [List.getElem?_take, if_pos (by omega)] at h3
   have e : L.take (t + 1) = rootX rr n :: T.take t := by rw [hLT, List.take_succ_cons]
   refine ⟨p, h1, hst, h3, by omega, ?_, ?_⟩
   ·rw [hst.di, e, dirsX, List.filter_cons, if_pos (by rw [XS.isDir, rootX, hk0]; rfl)]; simp [dirsX]; omega
   ·rw [hst.mno, e, movX, List.filter_cons, if_neg (by simp [rootX])]; rfl
  have hfis : ∀ x ∈ T, x.fi ≤ (dirsX T).length := fun x hx => by
   obtain ⟨t, ht, rfl⟩ := List.mem_iff_getElem.1 hx
   obtain ⟨p, h1, hst, h3, h4, _⟩ := hat t _ (List.getElem?_eq_getElem ht)
   rw [hst.fi]
   obtain ⟨j, hj⟩ := List.mem_iff_getElem?.1 (List.mem_filter.2 ⟨List.mem_of_getElem? h3, hst.dir⟩ : p ∈ dirsX L)
   have h5 := hb.dis j p hj
   have h6 : j < (dirsX L).length := by
    rcases Nat.lt_or_ge j (dirsX L).length with h | h
    ·exact h
    ·exact absurd ((List.getElem?_eq_none h).symm.trans hj) (by simp)
   omega
  have hdl : (dirsX T).length ≤ T.length := List.length_filter_le _ _
  have hml : (movX T).length ≤ T.length := List.length_filter_le _ _
  have hel := ents_len rn hfis
  refine Tri.ownNil 500 19 123 ?_
  refine Tri.seq ?_
  refine Tri.regionX ti2_ok ?_
  conv => whnf
  refine .inl ?_
  conv => whnf
  refine ⟨rfl, ?_⟩
  conv => whnf
  refine .inr (XOp.call rfl [.sl (.own 2000 (.slice none 0 0)) 19 [], encSp (rootX rr n), .bool rr] [(2000, 500)] (DCall.heap rfl hSp) rfl ⟨DLe.nilOwn, .refl _, .refl _, trivial⟩ ?_)
  rintro d H' ⟨v0, rfl, rfl⟩
  refine ⟨.sl .none 19 (L.map encSp), DLe.trans (DLe.of_eq (congrArg (D.sl (.own 2000 v0) 19) (by rw [hLT]; rfl))) DLe.unown, ?_⟩
  conv => whnf
  refine Tri.forgetK [(2, .box 2 b2 0), (7, .sl .none 19 (L.map encSp))] [(2, .box b2 (cellsN n))] [(2, 2)] ⟨⟨.refl _, .refl _, trivial⟩, rfl, rfl, rfl, trivial⟩ ?_
  refine Tri.seq ?_
  refine Tri.region ti2_ok ?_
  conv => whnf
  refine ⟨[.sl .none 19 (L.map encSp)], _, fun _ => G94 hb (by omega), ⟨.refl _, trivial⟩, ?_⟩
  conv => whnf
  refine Tri.seq ?_
  refine Tri.region ti2_ok ?_
  conv => whnf
  refine Tri.seq ?_
  refine Tri.seq ?_
  refine Tri.region ti2_ok ?_
  conv => whnf
  refine Tri.block ?_
  refine Tri.loopK (α := { i : Nat // i ≤ L.length }) (fun z => [(2, .box 2 b2 0), (7, .sl .none 19 (L.map encSp)), (8, .sl .none 1 (L.map levD)), (9, .sl .none 1 (L.map mvD)), (10, .bool ((L.take z.1).any XS.mv)), (11, .int .i64 z.1)]) (fun z => [(2, .box b2 (cellsN n))]) (fun z => L.length - z.1) ⟨0, Nat.zero_le _⟩ [(2, 2)] ⟨⟨.refl _, .refl _, .refl _, .refl _, .refl _, .refl _, trivial⟩, rfl, rfl, rfl, trivial⟩ ?_
  rintro ⟨i, hi⟩
  dsimp only
  refine Tri.seq ?_
  refine Tri.seq ?_
  refine Tri.region ti2_ok ?_
  conv => whnf
  refine Tri.cond (decide ((i : Int) < (L.map encSp).length)) rfl (fun hc => ?_) (fun hc => ?_)
  ·refine Tri.skip ?_
   conv => whnf
   have hia : i < L.length := by simpa using hc
   have hai := any_next (T := L) (t := i) (s := L[i]) (List.getElem?_eq_getElem hia)
   refine Tri.seq ?_
   refine Tri.block ?_
   refine Tri.region ti2_ok ?_
   conv => whnf
   refine ⟨fun h => h, ?_⟩
   conv => whnf
   refine ⟨fun h => h, ?_⟩
   conv => whnf
   refine ⟨fun h => by simp; omega, ?_⟩
   conv => whnf
   refine ⟨fun h => h, ?_⟩
   conv => whnf
   refine ⟨mvD L[i], fun h => get_at hia, ?_⟩
   conv => whnf
   refine ⟨fun h0 h => by first | exact h | (rw [h]; rfl) | (rw [h0, h]; rfl), ?_⟩
   conv => whnf
   refine Tri.region ti2_ok ?_
   conv => whnf
   refine .inl ⟨fun _ => by simp [InR]; omega, ?_⟩
   conv => whnf
   exact ⟨⟨i + 1, hia⟩, [(2, 2)], by show _ - (i + 1) < _ - i; omega, ⟨.refl _, .refl _, .refl _, .refl _, DLe.of_eq (congrArg D.bool (by rw [hai, bif_or])), .refl _, trivial⟩, rfl, rfl, rfl, trivial⟩
  ·refine Tri.exit ?_
   conv => whnf
   have hin : i = L.length := by simp at hc; omega
   have hsome : (L.take i).any XS.mv = decide (sh ≠ 0) := by
    rw [hin, List.take_length, ← hsh, mvRow, hLT, List.any_cons]; rfl
   rw [hsome]
   refine Tri.seq ?_
   refine Tri.regionX ti2_ok ?_
   conv => whnf
   refine .inr (XOp.makeRow ti2_ok (n := L.length) (k1 := .i64) (k2 := .i64) (z := .int .i64 0) rfl rfl rfl rfl rfl ?_ ?_ (by show 8 * _ ≤ _; omega) (by omega) fun rv => ?_)
   ·show D.int _ _ = _; simp
   ·show D.int _ _ = _; simp
   conv => whnf
   refine Tri.seq ?_
   refine Tri.region ti2_ok ?_
   conv => whnf
   refine ⟨trivial, ?_⟩
   conv => whnf
   refine Tri.own 13 300 6 66 rfl (fun w0 => ?_)
   refine Tri.joinK (α := Value) (fun w => [(7, .sl .none 19 (L.map encSp)), (8, .sl .none 1 (L.map levD)), (9, .sl .none 1 (L.map mvD)), (10, .bool (decide (sh ≠ 0))), (12, .raw rv), (13, .sl (.own 300 w) 6 ((outL sh rn T 0).map encDir))]) (fun w => [(50, .row rv (List.replicate L.length (.int .i64 0)) 1 3), (300, .own w ((outL sh rn T 0).map encDir).length 6 66)]) ?_ ?_
   ·refine Tri.seq ?_
    refine Tri.region ti2_ok ?_
    conv => whnf
    refine Tri.cond (decide (sh ≠ 0)) rfl (fun hc => ?_) (fun hc => ?_)
    ·refine Tri.region ti2_ok ?_
     conv => whnf
     refine ⟨rfl, ?_⟩
     conv => whnf
     refine ⟨[encTop n], _, fun _ => hG95, ⟨.refl _, trivial⟩, ?_⟩
     conv => whnf
     refine ⟨trivial, ?_⟩
     conv => whnf
     refine ⟨rfl, rfl, ?_⟩
     conv => whnf
     refine ⟨by show (_ + _) * 64 ≤ _; simp, by show _ + _ ≤ _; simp, (fun h => by cases h), fun w => ?_⟩
     conv => whnf
     have hs1 : sh ≠ 0 := by simpa using hc
     have e : ([.agg [.str [], .str [0], .int .i64 1, .int .i64 0, .int .i64 0, .bool false]] : List D) ++ [.agg [.str [47], .str rn, .int .i64 2, .int .i64 0, .int .i64 0, .bool false]] = (outL sh rn T 0).map encDir := by
      rw [outL, if_neg hs1]; rfl
     exact ⟨w, [(50, 50), (300, 59)], ⟨.refl _, .refl _, .refl _, .refl _, .refl _, DLe.trans (DLe.of_eq (congrArg (D.sl (.own 59 w) 6) e)) (DLe.own _ _), trivial⟩, rfl, rfl, rfl, rfl, congrArg (fun z : Nat => some (HObj.own w z 6 66)) (by rw [← e]; rfl), trivial⟩
    ·refine Tri.skip ?_
     conv => whnf
     have hs0 : sh = 0 := by simpa using hc
     have e : ([.agg [.str [], .str [0], .int .i64 1, .int .i64 0, .int .i64 0, .bool false]] : List D) = (outL sh rn T 0).map encDir := by
      rw [outL, if_pos hs0]; rfl
     exact ⟨w0, [(50, 50), (300, 300)], ⟨.refl _, .refl _, .refl _, .refl _, .refl _, DLe.of_eq (congrArg (D.sl (.own 300 w0) 6) e), trivial⟩, rfl, rfl, rfl, rfl, congrArg (fun z : Nat => some (HObj.own w0 z 6 66)) (by rw [← e]; rfl), trivial⟩
   ·rintro w1
    refine Tri.seq ?_
    refine Tri.region ti2_ok ?_
    conv => whnf
    refine Tri.seq ?_
    refine Tri.seq ?_
    refine Tri.region ti2_ok ?_
    conv => whnf
    refine Tri.block ?_
    have hr0 : List.replicate L.length (D.int .i64 0) = rowP (idxD sh) (.int .i64 0) L (0 + 1) := by
     rw [← rowP_zero (f := idxD sh)]
     refine rowP_same (by omega) ?_
     have h1 : L[0]'(by omega) = rootX rr n := by
      rw [List.getElem?_eq_getElem (by omega)] at hroot; exact Option.some.inj hroot
     rw [h1, idxD, idxN, if_pos (by rw [XS.isDir, rootX, hk0]; rfl)]; rfl
    refine Tri.loopK (α := { t : Nat // t ≤ T.length } × Value) (fun z => [(7, .sl .none 19 (L.map encSp)), (8, .sl .none 1 (L.map levD)), (9, .sl .none 1 (L.map mvD)), (10, .bool (decide (sh ≠ 0))), (12, .raw rv), (13, .sl (.own 300 z.2) 6 ((outL sh rn T z.1.1).map encDir)), (14, .int .i64 ((movX (T.take z.1.1)).length : Nat)), (15, .int .i64 ((z.1.1 + 1 : Nat) : Int))]) (fun z => [(50, .row rv (rowP (idxD sh) (.int .i64 0) L (z.1.1 + 1)) 1 3), (300, .own z.2 ((outL sh rn T z.1.1).map encDir).length 6 66)]) (fun z => T.length - z.1.1) (⟨0, Nat.zero_le _⟩, w1) [(50, 50), (300, 300)]
     ⟨⟨.refl _, .refl _, .refl _, .refl _, .refl _, .refl _, .refl _, .refl _, trivial⟩, rfl, rfl, congrArg (fun z => some (HObj.row rv z 1 3)) hr0, rfl, rfl, trivial⟩ ?_
    rintro ⟨⟨t, ht⟩, w⟩
    dsimp only
    refine Tri.seq ?_
    refine Tri.seq ?_
    refine Tri.region ti2_ok ?_
    conv => whnf
    refine Tri.cond (decide (((t + 1 : Nat) : Int) < (L.map encSp).length)) rfl (fun hc => ?_) (fun hc => ?_)
    ·refine Tri.skip ?_
     conv => whnf
     have hta : t < T.length := by
      have h1 := of_decide_eq_true hc
      rw [List.length_map] at h1; omega
     have htL : t + 1 < L.length := by omega
     obtain ⟨s, hT⟩ : ∃ s, T[t]? = some s := ⟨_, List.getElem?_eq_getElem hta⟩
     obtain ⟨p, hLs, hst, hLp, hab, hdi, hmno⟩ := hat t s hT
     have hsL : L[t + 1] = s := by rw [List.getElem?_eq_getElem htL] at hLs; exact Option.some.inj hLs
     have hse : (L.map encSp)[t + 1]? = some (encSp s) := by rw [List.getElem?_map, hLs]; rfl
     have hsl : (L.map levD)[t + 1]? = some (levD s) := by rw [List.getElem?_map, hLs]; rfl
     have hsm : (L.map mvD)[t + 1]? = some (mvD s) := by rw [List.getElem?_map, hLs]; rfl
     have hrl := rowP_len (f := idxD sh) (z := .int .i64 0) (L := L) (i := t + 1) (by omega)
     have hol := outL_len (rn := rn) (T := T) (t := t) hsh1
     have hfl : (dirsX (T.take t)).length ≤ (dirsX T).length := filter_take_le _ _ _
     have hfm : (movX (T.take t)).length ≤ (movX T).length := filter_take_le _ _ _
     have hdgl := dig_len ((movX (T.take t)).length + 1) (by omega)
     refine Tri.seq ?_
     refine Tri.block ?_
     refine Tri.seq ?_
     refine Tri.regionX ti2_ok ?_
     conv => whnf
     refine .inr (XOp.rowIndex ti2_ok 50 rfl rfl rfl rfl rfl rfl rfl (by omega) (by omega) ?_)
     conv => whnf
     conv => whnf
     refine .inr (XOp.rowStore ti2_ok 50 (i := t + 1) (by rw [Int.toNat_natCast]; rfl) rfl rfl rfl (by omega) rfl ?_)
     conv => whnf
     conv => whnf
     refine Tri.seq ?_
     refine Tri.seq ?_
     refine Tri.region ti2_ok ?_
     conv => whnf
     refine ⟨fun _ => by simp; omega, ?_⟩
     conv => whnf
     refine ⟨encSp s, fun _ => hse, ?_⟩
     conv => whnf
     refine Tri.cond _ rfl (fun hc => ?_) (fun hc => ?_)
     ·refine Tri.exit ?_
      conv => whnf
      refine Tri.region ti2_ok ?_
      conv => whnf
      refine .inl ⟨fun _ => by simp [InR]; omega, ?_⟩
      conv => whnf
      have hd : s.isDir = false := by simpa [XS.isDir] using hc
      have hmv : s.mv = false := by rw [hst.mv, hd]; rfl
      have hrow : (rowP (idxD sh) (.int .i64 0) L (t + 1)).set (t + 1) (.int .i64 (-1)) = rowP (idxD sh) (.int .i64 0) L (t + 1 + 1) := by
       rw [← rowP_set htL, hsL, idxD, idxN, if_neg (by rw [hd]; decide)]
      have hof := outL_file (sh := sh) (rn := rn) hT hd
      have hmn : (movX (T.take (t + 1))).length = (movX (T.take t)).length := by rw [movX_next hT, hmv]; rfl
      exact ⟨(⟨t + 1, hta⟩, w), [(50, 50), (300, 300)], by show _ - (t + 1) < _ - t; omega, ⟨.refl _, .refl _, .refl _, .refl _, .refl _, DLe.of_eq (congrArg (fun z : List DirV => D.sl (.own 300 w) 6 (z.map encDir)) hof.symm), intDLe (by rw [hmn]), .refl _, trivial⟩, rfl, rfl, congrArg (fun z => some (HObj.row rv z 1 3)) hrow, rfl, congrArg (fun z : List DirV => some (HObj.own w (z.map encDir).length 6 66)) hof.symm, trivial⟩
     ·refine Tri.skip ?_
      conv => whnf
      have hd : s.isDir = true := by simpa [XS.isDir] using hc
      have hidx : (((outL sh rn T t).map encDir).length : Int) = idxN sh s := by
       rw [List.length_map, hol, idxN, if_pos hd, ixS, if_neg (by omega), hdi]; omega
      have hrow : (rowP (idxD sh) (.int .i64 0) L (t + 1)).set (t + 1) (idxD sh s) = rowP (idxD sh) (.int .i64 0) L (t + 1 + 1) := by
       rw [← rowP_set htL, hsL]
      have hpi : idxN sh p = (ixS sh p.di : Nat) := by rw [idxN, if_pos hst.dir]
      have hrg : ((rowP (idxD sh) (.int .i64 0) L (t + 1)).set (t + 1) (idxD sh s))[s.ab]? = some (.int .i64 (ixS sh p.di : Nat)) := by
       rw [List.getElem?_set_ne (by omega), rowP_get (by omega) hab]
       rw [List.getElem?_eq_getElem (by omega)] at hLp
       rw [Option.some.inj hLp, idxD, hpi]
      refine Tri.seq ?_
      refine Tri.regionX ti2_ok ?_
      conv => whnf
      refine .inr (XOp.rowIndex ti2_ok 50 rfl rfl rfl rfl rfl rfl rfl (by omega) (by rw [List.length_set]; omega) ?_)
      conv => whnf
      conv => whnf
      refine .inr (XOp.rowStore ti2_ok 50 (i := t + 1) (by rw [Int.toNat_natCast]; rfl) rfl rfl rfl (by rw [List.length_set]; omega) rfl ?_)
      conv => whnf
      refine Tri.forgetK [(7, .sl .none 19 (L.map encSp)), (8, .sl .none 1 (L.map levD)), (9, .sl .none 1 (L.map mvD)), (10, .bool (decide (sh ≠ 0))), (12, .raw rv), (13, .sl (.own 300 w) 6 ((outL sh rn T t).map encDir)), (14, .int .i64 ((movX (T.take t)).length : Nat)), (15, .int .i64 ((t + 1 : Nat) : Int))] [(50, .row rv ((rowP (idxD sh) (.int .i64 0) L (t + 1)).set (t + 1) (idxD sh s)) 1 3), (300, .own w ((outL sh rn T t).map encDir).length 6 66)] [(50, 50), (300, 300)] ⟨⟨.refl _, .refl _, .refl _, .refl _, .refl _, .refl _, .refl _, .refl _, trivial⟩, rfl, rfl, congrArg (fun z => some (HObj.row rv z 1 3)) (by rw [List.set_set, idxD, ← hidx]; rfl), rfl, rfl, trivial⟩ ?_
      refine Tri.seq ?_
      refine Tri.bitsG ti2_ok mixed (α := Nat) (fun y f => [(7, .sl .none 19 (L.map encSp)), (8, .sl .none 1 (L.map levD)), (9, .sl .none 1 (L.map mvD)), (10, .bool (decide (sh ≠ 0))), (12, .raw rv), (13, .sl (.own 300 w) 6 ((outL sh rn T t).map encDir)), (14, .int .i64 ((movX (T.take t)).length : Nat)), (15, .int .i64 ((t + 1 : Nat) : Int)), (81, bif f 0 then .sl .none 19 (L.map encSp) else .any), (82, bif f 1 then .int .i64 ((t + 1 : Nat) : Int) else .any), (83, bif f 2 then .elm 19 (L.map encSp) (t + 1) 0 else .any), (84, bif f 3 then .elm 19 (L.map encSp) (t + 1) 12 else .any), (85, bif f 4 then .str s.path else .any), (86, bif f 5 then .sl .none 19 (L.map encSp) else .any), (87, bif f 6 then .int .i64 ((t + 1 : Nat) : Int) else .any), (88, bif f 7 then .elm 19 (L.map encSp) (t + 1) 0 else .any), (89, bif f 8 then .elm 19 (L.map encSp) (t + 1) 13 else .any), (90, bif f 9 then .str s.id else .any), (91, bif f 10 then .sl .none 1 (L.map levD) else .any), (92, bif f 11 then .int .i64 ((t + 1 : Nat) : Int) else .any), (93, bif f 12 then .elm 1 (L.map levD) (t + 1) 0 else .any), (94, bif f 13 then .int .i64 s.lev else .any), (95, bif f 14 then .raw rv else .any), (96, bif f 15 then .sl .none 19 (L.map encSp) else .any), (97, bif f 16 then .int .i64 ((t + 1 : Nat) : Int) else .any), (98, bif f 17 then .elm 19 (L.map encSp) (t + 1) 0 else .any), (99, bif f 18 then .elm 19 (L.map encSp) (t + 1) 15 else .any), (100, bif f 19 then .int .i64 (s.ab : Int) else .any), (101, bif f 20 then .raw (rowPtr rv (((s.ab : Nat) : Int).toNat * 1)) else .any), (102, bif f 21 then .int .i64 (ixS sh p.di : Nat) else .any), (103, bif f 22 then .agg [.str s.path, .str s.id, .int .i64 s.lev, .int .i64 0, .int .i64 (ixS sh p.di : Nat), .bool false] else .any), (16, bif f 23 then .box 16 y 0 else .any)])
       (fun y f => look ([(50, .row rv ((rowP (idxD sh) (.int .i64 0) L (t + 1)).set (t + 1) (idxD sh s)) 1 3), (300, .own w ((outL sh rn T t).map encDir).length 6 66)] ++ (bif f 23 then [(16, .box y (bif f 24 then [.str s.path, .str s.id, .int .i64 s.lev, .int .i64 0, .int .i64 (ixS sh p.di : Nat), .bool false] else [.str [], .str [], .int .i64 0, .int .i64 0, .int .i64 0, .bool false]))] else []))) (by decide +kernel) 0 ?_ ?_ ?_ ?_
      ·exact ⟨.refl _, .refl _, .refl _, .refl _, .refl _, .refl _, .refl _, .refl _, .any _, .any _, .any _, .any _, .any _, .any _, .any _, .any _, .any _, .any _, .any _, .any _, .any _, .any _, .any _, .any _, .any _, .any _, .any _, .any _, .any _, .any _, .any _, .any _, trivial⟩
      ·exact SubHF.of (hs := [(50, .row rv ((rowP (idxD sh) (.int .i64 0) L (t + 1)).set (t + 1) (idxD sh s)) 1 3), (300, .own w ((outL sh rn T t).map encDir).length 6 66)]) ⟨rfl, rfl, trivial⟩
      ·conv => whnf
       refine ⟨fun y f hI => ?_, ?_⟩
       ·obtain ⟨f, rfl⟩ := off f 24 (hI.no 24 0 rfl rfl)
        conv => whnf
        refine ⟨trivial, .inl ?_⟩
        conv => whnf
        exact ⟨y, ⟨.refl _, .refl _, .refl _, .refl _, .refl _, .refl _, .refl _, .refl _, .refl _, .refl _, .refl _, .refl _, .refl _, .refl _, .refl _, .refl _, .refl _, .refl _, .refl _, .refl _, .refl _, .refl _, .refl _, .refl _, .refl _, .refl _, .refl _, .refl _, .refl _, .refl _, .refl _, .refl _, trivial⟩, fun k o h => h⟩
       refine ⟨fun y f hI => ?_, ?_⟩
       ·obtain ⟨f, rfl⟩ := off f 24 (hI.no 24 1 rfl rfl)
        conv => whnf
        refine ⟨trivial, .inl ?_⟩
        conv => whnf
        exact ⟨y, ⟨.refl _, .refl _, .refl _, .refl _, .refl _, .refl _, .refl _, .refl _, .refl _, .refl _, .refl _, .refl _, .refl _, .refl _, .refl _, .refl _, .refl _, .refl _, .refl _, .refl _, .refl _, .refl _, .refl _, .refl _, .refl _, .refl _, .refl _, .refl _, .refl _, .refl _, .refl _, .refl _, trivial⟩, fun k o h => h⟩
       refine ⟨fun y f hI => ?_, ?_⟩
       ·obtain ⟨f, rfl⟩ := off f 24 (hI.no 24 2 rfl rfl)
        conv => whnf
        refine ⟨trivial, .inl ?_⟩
        conv => whnf
        refine ⟨fun _ => by simp; omega, ?_⟩
        conv => whnf
        exact ⟨y, ⟨.refl _, .refl _, .refl _, .refl _, .refl _, .refl _, .refl _, .refl _, .refl _, .refl _, .refl _, .refl _, .refl _, .refl _, .refl _, .refl _, .refl _, .refl _, .refl _, .refl _, .refl _, .refl _, .refl _, .refl _, .refl _, .refl _, .refl _, .refl _, .refl _, .refl _, .refl _, .refl _, trivial⟩, fun k o h => h⟩
       refine ⟨fun y f hI => ?_, ?_⟩
       ·obtain ⟨f, rfl⟩ := off f 24 (hI.no 24 3 rfl rfl)
        conv => whnf
        refine ⟨trivial, .inl ?_⟩
        conv => whnf
        exact ⟨y, ⟨.refl _, .refl _, .refl _, .refl _, .refl _, .refl _, .refl _, .refl _, .refl _, .refl _, .refl _, .refl _, .refl _, .refl _, .refl _, .refl _, .refl _, .refl _, .refl _, .refl _, .refl _, .refl _, .refl _, .refl _, .refl _, .refl _, .refl _, .refl _, .refl _, .refl _, .refl _, .refl _, trivial⟩, fun k o h => h⟩
       refine ⟨fun y f hI => ?_, ?_⟩
       ·obtain ⟨f, rfl⟩ := off f 24 (hI.no 24 4 rfl rfl)
        conv => whnf
        refine ⟨trivial, .inl ?_⟩
        conv => whnf
        refine ⟨encSp s, fun _ => hse, ?_⟩
        conv => whnf
        exact ⟨y, ⟨.refl _, .refl _, .refl _, .refl _, .refl _, .refl _, .refl _, .refl _, .refl _, .refl _, .refl _, .refl _, .refl _, .refl _, .refl _, .refl _, .refl _, .refl _, .refl _, .refl _, .refl _, .refl _, .refl _, .refl _, .refl _, .refl _, .refl _, .refl _, .refl _, .refl _, .refl _, .refl _, trivial⟩, fun k o h => h⟩
       refine ⟨fun y f hI => ?_, ?_⟩
       ·obtain ⟨f, rfl⟩ := off f 24 (hI.no 24 5 rfl rfl)
        conv => whnf
        refine ⟨trivial, .inl ?_⟩
        conv => whnf
        exact ⟨y, ⟨.refl _, .refl _, .refl _, .refl _, .refl _, .refl _, .refl _, .refl _, .refl _, .refl _, .refl _, .refl _, .refl _, .refl _, .refl _, .refl _, .refl _, .refl _, .refl _, .refl _, .refl _, .refl _, .refl _, .refl _, .refl _, .refl _, .refl _, .refl _, .refl _, .refl _, .refl _, .refl _, trivial⟩, fun k o h => h⟩
       refine ⟨fun y f hI => ?_, ?_⟩
       ·obtain ⟨f, rfl⟩ := off f 24 (hI.no 24 6 rfl rfl)
        conv => whnf
        refine ⟨trivial, .inl ?_⟩
        conv => whnf
        exact ⟨y, ⟨.refl _, .refl _, .refl _, .refl _, .refl _, .refl _, .refl _, .refl _, .refl _, .refl _, .refl _, .refl _, .refl _, .refl _, .refl _, .refl _, .refl _, .refl _, .refl _, .refl _, .refl _, .refl _, .refl _, .refl _, .refl _, .refl _, .refl _, .refl _, .refl _, .refl _, .refl _, .refl _, trivial⟩, fun k o h => h⟩
       refine ⟨fun y f hI => ?_, ?_⟩
       ·obtain ⟨f, rfl⟩ := off f 24 (hI.no 24 7 rfl rfl)
        conv => whnf
        refine ⟨trivial, .inl ?_⟩
        conv => whnf
        refine ⟨fun _ => by simp; omega, ?_⟩
        conv => whnf
        exact ⟨y, ⟨.refl _, .refl _, .refl _, .refl _, .refl _, .refl _, .refl _, .refl _, .refl _, .refl _, .refl _, .refl _, .refl _, .refl _, .refl _, .refl _, .refl _, .refl _, .refl _, .refl _, .refl _, .refl _, .refl _, .refl _, .refl _, .refl _, .refl _, .refl _, .refl _, .refl _, .refl _, .refl _, trivial⟩, fun k o h => h⟩
       refine ⟨fun y f hI => ?_, ?_⟩
       ·obtain ⟨f, rfl⟩ := off f 24 (hI.no 24 8 rfl rfl)
        conv => whnf
        refine ⟨trivial, .inl ?_⟩
        conv => whnf
        exact ⟨y, ⟨.refl _, .refl _, .refl _, .refl _, .refl _, .refl _, .refl _, .refl _, .refl _, .refl _, .refl _, .refl _, .refl _, .refl _, .refl _, .refl _, .refl _, .refl _, .refl _, .refl _, .refl _, .refl _, .refl _, .refl _, .refl _, .refl _, .refl _, .refl _, .refl _, .refl _, .refl _, .refl _, trivial⟩, fun k o h => h⟩
       refine ⟨fun y f hI => ?_, ?_⟩
       ·obtain ⟨f, rfl⟩ := off f 24 (hI.no 24 9 rfl rfl)
        conv => whnf
        refine ⟨trivial, .inl ?_⟩
        conv => whnf
        refine ⟨encSp s, fun _ => hse, ?_⟩
        conv => whnf
        exact ⟨y, ⟨.refl _, .refl _, .refl _, .refl _, .refl _, .refl _, .refl _, .refl _, .refl _, .refl _, .refl _, .refl _, .refl _, .refl _, .refl _, .refl _, .refl _, .refl _, .refl _, .refl _, .refl _, .refl _, .refl _, .refl _, .refl _, .refl _, .refl _, .refl _, .refl _, .refl _, .refl _, .refl _, trivial⟩, fun k o h => h⟩
       refine ⟨fun y f hI => ?_, ?_⟩
       ·obtain ⟨f, rfl⟩ := off f 24 (hI.no 24 10 rfl rfl)
        conv => whnf
        refine ⟨trivial, .inl ?_⟩
        conv => whnf
        exact ⟨y, ⟨.refl _, .refl _, .refl _, .refl _, .refl _, .refl _, .refl _, .refl _, .refl _, .refl _, .refl _, .refl _, .refl _, .refl _, .refl _, .refl _, .refl _, .refl _, .refl _, .refl _, .refl _, .refl _, .refl _, .refl _, .refl _, .refl _, .refl _, .refl _, .refl _, .refl _, .refl _, .refl _, trivial⟩, fun k o h => h⟩
       refine ⟨fun y f hI => ?_, ?_⟩
       ·obtain ⟨f, rfl⟩ := off f 24 (hI.no 24 11 rfl rfl)
        conv => whnf
        refine ⟨trivial, .inl ?_⟩
        conv => whnf
        exact ⟨y, ⟨.refl _, .refl _, .refl _, .refl _, .refl _, .refl _, .refl _, .refl _, .refl _, .refl _, .refl _, .refl _, .refl _, .refl _, .refl _, .refl _, .refl _, .refl _, .refl _, .refl _, .refl _, .refl _, .refl _, .refl _, .refl _, .refl _, .refl _, .refl _, .refl _, .refl _, .refl _, .refl _, trivial⟩, fun k o h => h⟩
       refine ⟨fun y f hI => ?_, ?_⟩
       ·obtain ⟨f, rfl⟩ := off f 24 (hI.no 24 12 rfl rfl)
        conv => whnf
        refine ⟨trivial, .inl ?_⟩
        conv => whnf
        refine ⟨fun _ => by simp; omega, ?_⟩
        conv => whnf
        exact ⟨y, ⟨.refl _, .refl _, .refl _, .refl _, .refl _, .refl _, .refl _, .refl _, .refl _, .refl _, .refl _, .refl _, .refl _, .refl _, .refl _, .refl _, .refl _, .refl _, .refl _, .refl _, .refl _, .refl _, .refl _, .refl _, .refl _, .refl _, .refl _, .refl _, .refl _, .refl _, .refl _, .refl _, trivial⟩, fun k o h => h⟩
       refine ⟨fun y f hI => ?_, ?_⟩
       ·obtain ⟨f, rfl⟩ := off f 24 (hI.no 24 13 rfl rfl)
        conv => whnf
        refine ⟨trivial, .inl ?_⟩
        conv => whnf
        refine ⟨levD s, fun _ => hsl, ?_⟩
        conv => whnf
        exact ⟨y, ⟨.refl _, .refl _, .refl _, .refl _, .refl _, .refl _, .refl _, .refl _, .refl _, .refl _, .refl _, .refl _, .refl _, .refl _, .refl _, .refl _, .refl _, .refl _, .refl _, .refl _, .refl _, .refl _, .refl _, .refl _, .refl _, .refl _, .refl _, .refl _, .refl _, .refl _, .refl _, .refl _, trivial⟩, fun k o h => h⟩
       refine ⟨fun y f hI => ?_, ?_⟩
       ·obtain ⟨f, rfl⟩ := off f 24 (hI.no 24 14 rfl rfl)
        conv => whnf
        refine ⟨trivial, .inl ?_⟩
        conv => whnf
        exact ⟨y, ⟨.refl _, .refl _, .refl _, .refl _, .refl _, .refl _, .refl _, .refl _, .refl _, .refl _, .refl _, .refl _, .refl _, .refl _, .refl _, .refl _, .refl _, .refl _, .refl _, .refl _, .refl _, .refl _, .refl _, .refl _, .refl _, .refl _, .refl _, .refl _, .refl _, .refl _, .refl _, .refl _, trivial⟩, fun k o h => h⟩
       refine ⟨fun y f hI => ?_, ?_⟩
       ·obtain ⟨f, rfl⟩ := off f 24 (hI.no 24 15 rfl rfl)
        conv => whnf
        refine ⟨trivial, .inl ?_⟩
        conv => whnf
        exact ⟨y, ⟨.refl _, .refl _, .refl _, .refl _, .refl _, .refl _, .refl _, .refl _, .refl _, .refl _, .refl _, .refl _, .refl _, .refl _, .refl _, .refl _, .refl _, .refl _, .refl _, .refl _, .refl _, .refl _, .refl _, .refl _, .refl _, .refl _, .refl _, .refl _, .refl _, .refl _, .refl _, .refl _, trivial⟩, fun k o h => h⟩
       refine ⟨fun y f hI => ?_, ?_⟩
       ·obtain ⟨f, rfl⟩ := off f 24 (hI.no 24 16 rfl rfl)
        conv => whnf
        refine ⟨trivial, .inl ?_⟩
        conv => whnf
        exact ⟨y, ⟨.refl _, .refl _, .refl _, .refl _, .refl _, .refl _, .refl _, .refl _, .refl _, .refl _, .refl _, .refl _, .refl _, .refl _, .refl _, .refl _, .refl _, .refl _, .refl _, .refl _, .refl _, .refl _, .refl _, .refl _, .refl _, .refl _, .refl _, .refl _, .refl _, .refl _, .refl _, .refl _, trivial⟩, fun k o h => h⟩
       refine ⟨fun y f hI => ?_, ?_⟩
       ·obtain ⟨f, rfl⟩ := off f 24 (hI.no 24 17 rfl rfl)
        conv => whnf
        refine ⟨trivial, .inl ?_⟩
        conv => whnf
        refine ⟨fun _ => by simp; omega, ?_⟩
        conv => whnf
        exact ⟨y, ⟨.refl _, .refl _, .refl _, .refl _, .refl _, .refl _, .refl _, .refl _, .refl _, .refl _, .refl _, .refl _, .refl _, .refl _, .refl _, .refl _, .refl _, .refl _, .refl _, .refl _, .refl _, .refl _, .refl _, .refl _, .refl _, .refl _, .refl _, .refl _, .refl _, .refl _, .refl _, .refl _, trivial⟩, fun k o h => h⟩
       refine ⟨fun y f hI => ?_, ?_⟩
       ·obtain ⟨f, rfl⟩ := off f 24 (hI.no 24 18 rfl rfl)
        conv => whnf
        refine ⟨trivial, .inl ?_⟩
        conv => whnf
        exact ⟨y, ⟨.refl _, .refl _, .refl _, .refl _, .refl _, .refl _, .refl _, .refl _, .refl _, .refl _, .refl _, .refl _, .refl _, .refl _, .refl _, .refl _, .refl _, .refl _, .refl _, .refl _, .refl _, .refl _, .refl _, .refl _, .refl _, .refl _, .refl _, .refl _, .refl _, .refl _, .refl _, .refl _, trivial⟩, fun k o h => h⟩
       refine ⟨fun y f hI => ?_, ?_⟩
       ·obtain ⟨f, rfl⟩ := off f 24 (hI.no 24 19 rfl rfl)
        conv => whnf
        refine ⟨trivial, .inl ?_⟩
        conv => whnf
        refine ⟨encSp s, fun _ => hse, ?_⟩
        conv => whnf
        exact ⟨y, ⟨.refl _, .refl _, .refl _, .refl _, .refl _, .refl _, .refl _, .refl _, .refl _, .refl _, .refl _, .refl _, .refl _, .refl _, .refl _, .refl _, .refl _, .refl _, .refl _, .refl _, .refl _, .refl _, .refl _, .refl _, .refl _, .refl _, .refl _, .refl _, .refl _, .refl _, .refl _, .refl _, trivial⟩, fun k o h => h⟩
       refine ⟨fun y f hI => ?_, ?_⟩
       ·obtain ⟨f, rfl⟩ := off f 24 (hI.no 24 20 rfl rfl)
        conv => whnf
        refine ⟨trivial, .inr ?_⟩
        refine XOp.rowIndex ti2_ok 50 rfl rfl rfl rfl rfl rfl rfl (by omega) (by rw [List.length_set]; omega) ?_
        exact ⟨y, ⟨.refl _, .refl _, .refl _, .refl _, .refl _, .refl _, .refl _, .refl _, .refl _, .refl _, .refl _, .refl _, .refl _, .refl _, .refl _, .refl _, .refl _, .refl _, .refl _, .refl _, .refl _, .refl _, .refl _, .refl _, .refl _, .refl _, .refl _, .refl _, .refl _, .refl _, .refl _, .refl _, trivial⟩, fun k o h => h⟩
       refine ⟨fun y f hI => ?_, ?_⟩
       ·obtain ⟨f, rfl⟩ := off f 24 (hI.no 24 21 rfl rfl)
        conv => whnf
        refine ⟨trivial, .inr ?_⟩
        refine XOp.rowLoad ti2_ok 50 (i := s.ab) (by rw [Int.toNat_natCast]; rfl) rfl rfl hrg ?_
        conv => whnf
        exact ⟨y, ⟨.refl _, .refl _, .refl _, .refl _, .refl _, .refl _, .refl _, .refl _, .refl _, .refl _, .refl _, .refl _, .refl _, .refl _, .refl _, .refl _, .refl _, .refl _, .refl _, .refl _, .refl _, .refl _, .refl _, .refl _, .refl _, .refl _, .refl _, .refl _, .refl _, .refl _, .refl _, .refl _, trivial⟩, fun k o h => h⟩
       refine ⟨fun y f hI => ?_, ?_⟩
       ·obtain ⟨f, rfl⟩ := off f 24 (hI.no 24 22 rfl rfl)
        conv => whnf
        refine ⟨trivial, .inl ?_⟩
        conv => whnf
        exact ⟨y, ⟨.refl _, .refl _, .refl _, .refl _, .refl _, .refl _, .refl _, .refl _, .refl _, .refl _, .refl _, .refl _, .refl _, .refl _, .refl _, .refl _, .refl _, .refl _, .refl _, .refl _, .refl _, .refl _, .refl _, .refl _, .refl _, .refl _, .refl _, .refl _, .refl _, .refl _, .refl _, .refl _, trivial⟩, fun k o h => h⟩
       refine ⟨fun y f hI => ?_, ?_⟩
       ·obtain ⟨f, rfl⟩ := off f 24 (hI.no 24 23 rfl rfl)
        conv => whnf
        refine ⟨trivial, .inl ?_⟩
        conv => whnf
        intro nb
        conv => whnf
        exact ⟨nb, ⟨.refl _, .refl _, .refl _, .refl _, .refl _, .refl _, .refl _, .refl _, .refl _, .refl _, .refl _, .refl _, .refl _, .refl _, .refl _, .refl _, .refl _, .refl _, .refl _, .refl _, .refl _, .refl _, .refl _, .refl _, .refl _, .refl _, .refl _, .refl _, .refl _, .refl _, .refl _, .refl _, trivial⟩, SubHF.of (hs := [(50, .row rv ((rowP (idxD sh) (.int .i64 0) L (t + 1)).set (t + 1) (idxD sh s)) 1 3), (300, .own w ((outL sh rn T t).map encDir).length 6 66), (16, .box nb [.str [], .str [], .int .i64 0, .int .i64 0, .int .i64 0, .bool false])]) ⟨rfl, rfl, rfl, trivial⟩⟩
       refine ⟨fun y f hI => ?_, ?_⟩
       ·conv => whnf
        refine ⟨trivial, .inl ?_⟩
        conv => whnf
        refine ⟨rfl, ?_⟩
        conv => whnf
        exact ⟨y, ⟨.refl _, .refl _, .refl _, .refl _, .refl _, .refl _, .refl _, .refl _, .refl _, .refl _, .refl _, .refl _, .refl _, .refl _, .refl _, .refl _, .refl _, .refl _, .refl _, .refl _, .refl _, .refl _, .refl _, .refl _, .refl _, .refl _, .refl _, .refl _, .refl _, .refl _, .refl _, .refl _, trivial⟩, SubHF.of (hs := [(50, .row rv ((rowP (idxD sh) (.int .i64 0) L (t + 1)).set (t + 1) (idxD sh s)) 1 3), (300, .own w ((outL sh rn T t).map encDir).length 6 66), (16, .box y [.str s.path, .str s.id, .int .i64 s.lev, .int .i64 0, .int .i64 (ixS sh p.di : Nat), .bool false])]) ⟨rfl, rfl, rfl, trivial⟩⟩
       exact trivial
      ·intro y f hf
       conv => whnf
       refine Tri.forgetG [(7, .sl .none 19 (L.map encSp)), (8, .sl .none 1 (L.map levD)), (9, .sl .none 1 (L.map mvD)), (10, .bool (decide (sh ≠ 0))), (12, .raw rv), (13, .sl (.own 300 w) 6 ((outL sh rn T t).map encDir)), (14, .int .i64 ((movX (T.take t)).length : Nat)), (15, .int .i64 ((t + 1 : Nat) : Int)), (16, .box 16 y 0)] (look [(50, .row rv ((rowP (idxD sh) (.int .i64 0) L (t + 1)).set (t + 1) (idxD sh s)) 1 3), (300, .own w ((outL sh rn T t).map encDir).length 6 66), (16, .box y [.str s.path, .str s.id, .int .i64 s.lev, .int .i64 0, .int .i64 (ixS sh p.di : Nat), .bool false])]) (.same ⟨.refl _, .refl _, .refl _, .refl _, .refl _, .refl _, .refl _, .refl _, ?_, trivial⟩ (SubHF.of ⟨rfl, rfl, ?_, trivial⟩)) ?_
       ·show DLe (bif f 23 then _ else _) _
        rw [hf 23 (by decide +kernel)]; exact .refl _
       ·show look (([(50, _), (300, _)] : List (Nat × HObj)) ++ (bif f 23 then _ else _)) 16 = _
        rw [hf 23 (by decide +kernel), hf 24 (by decide +kernel)]; rfl
       refine Tri.seq ?_
       refine Tri.region ti2_ok ?_
       conv => whnf
       refine ⟨rfl, ?_⟩
       conv => whnf
       refine ⟨rfl, ?_⟩
       conv => whnf
       refine Tri.seq ?_
       refine Tri.seq ?_
       refine Tri.region ti2_ok ?_
       conv => whnf
       refine ⟨fun _ => by simp; omega, ?_⟩
       conv => whnf
       refine ⟨mvD s, fun _ => hsm, ?_⟩
       conv => whnf
       refine Tri.cond _ rfl (fun hc => ?_) (fun hc => ?_)
       ·have hmv : s.mv = true := hc
        have hdv : encDir (s.dirV sh) = .agg [.str s.path, .str (68 :: Lib.decDigits ((movX (T.take t)).length + 1)), .int .i64 s.lev, .int .i64 1, .int .i64 (ixS sh p.di : Nat), .bool true] := by
         rw [XS.dirV, hmv, if_pos rfl, if_pos rfl, hmno, hst.fi]; rfl
        refine Tri.seq ?_
        refine Tri.region ti2_ok ?_
        conv => whnf
        refine .inl ⟨fun _ => by simp [InR]; omega, ?_⟩
        conv => whnf
        refine Tri.region ti2_ok ?_
        conv => whnf
        refine ⟨[.int .i64 (((movX (T.take t)).length + 1 : Nat) : Int)], _, fun _ => F118r _ (by omega), ⟨.refl _, trivial⟩, ?_⟩
        conv => whnf
        refine ⟨fun _ => by simp; omega, ?_⟩
        conv => whnf
        refine ⟨rfl, ?_⟩
        conv => whnf
        refine ⟨rfl, ?_⟩
        conv => whnf
        refine ⟨rfl, ?_⟩
        conv => whnf
        refine Tri.region ti2_ok ?_
        conv => whnf
        refine ⟨rfl, ?_⟩
        conv => whnf
        refine ⟨trivial, ?_⟩
        conv => whnf
        refine ⟨rfl, rfl, ?_⟩
        conv => whnf
        refine ⟨by show (_ + _) * 64 ≤ _; simp; omega, by show _ + _ ≤ _; simp; omega, (fun h => by cases h), fun v2 => ?_⟩
        conv => whnf
        refine Tri.region ti2_ok ?_
        conv => whnf
        refine .inl ⟨fun _ => by simp [InR]; omega, ?_⟩
        conv => whnf
        have hon : (outL sh rn T t).map encDir ++ [.agg [.str s.path, .str (68 :: Lib.decDigits ((movX (T.take t)).length + 1)), .int .i64 s.lev, .int .i64 1, .int .i64 (ixS sh p.di : Nat), .bool true]] = (outL sh rn T (t + 1)).map encDir := by rw [← hdv]; exact outL_next hT hd
        have hmn : (movX (T.take (t + 1))).length = (movX (T.take t)).length + 1 := by rw [movX_next hT, hmv]; rfl
        exact ⟨(⟨t + 1, hta⟩, v2), [(50, 50), (300, 122)], by show _ - (t + 1) < _ - t; omega, ⟨.refl _, .refl _, .refl _, .refl _, .refl _, DLe.trans (DLe.of_eq (congrArg (D.sl (.own 122 v2) 6) hon)) (DLe.own _ _), intDLe (by rw [hmn]; rfl), .refl _, trivial⟩, rfl, rfl, congrArg (fun z => some (HObj.row rv z 1 3)) hrow, rfl, congrArg (fun z : Nat => some (HObj.own v2 z 6 66)) (by rw [← hon, List.length_append]; rfl), trivial⟩
       ·have hmv : s.mv = false := hc
        have hdv : encDir (s.dirV sh) = .agg [.str s.path, .str s.id, .int .i64 s.lev, .int .i64 (ixS sh p.di : Nat), .int .i64 (ixS sh p.di : Nat), .bool false] := by
         rw [XS.dirV, hmv, if_neg (by decide), if_neg (by decide), hst.fi]; rfl
        refine Tri.skip ?_
        conv => whnf
        refine Tri.region ti2_ok ?_
        conv => whnf
        refine ⟨rfl, ?_⟩
        conv => whnf
        refine ⟨trivial, ?_⟩
        conv => whnf
        refine ⟨rfl, rfl, ?_⟩
        conv => whnf
        refine ⟨by show (_ + _) * 64 ≤ _; simp; omega, by show _ + _ ≤ _; simp; omega, (fun h => by cases h), fun v2 => ?_⟩
        conv => whnf
        refine Tri.region ti2_ok ?_
        conv => whnf
        refine .inl ⟨fun _ => by simp [InR]; omega, ?_⟩
        conv => whnf
        have hon : (outL sh rn T t).map encDir ++ [.agg [.str s.path, .str s.id, .int .i64 s.lev, .int .i64 (ixS sh p.di : Nat), .int .i64 (ixS sh p.di : Nat), .bool false]] = (outL sh rn T (t + 1)).map encDir := by rw [← hdv]; exact outL_next hT hd
        have hmn : (movX (T.take (t + 1))).length = (movX (T.take t)).length := by rw [movX_next hT, hmv]; rfl
        exact ⟨(⟨t + 1, hta⟩, v2), [(50, 50), (300, 122)], by show _ - (t + 1) < _ - t; omega, ⟨.refl _, .refl _, .refl _, .refl _, .refl _, DLe.trans (DLe.of_eq (congrArg (D.sl (.own 122 v2) 6) hon)) (DLe.own _ _), intDLe (by rw [hmn]), .refl _, trivial⟩, rfl, rfl, congrArg (fun z => some (HObj.row rv z 1 3)) hrow, rfl, congrArg (fun z : Nat => some (HObj.own v2 z 6 66)) (by rw [← hon, List.length_append]; rfl), trivial⟩
    ·refine Tri.exit ?_
     conv => whnf
     have htn : t = T.length := by
      have h1 := of_decide_eq_false hc
      rw [List.length_map] at h1; omega
     subst htn
     have hall : outL sh rn T T.length = dirsP rn T := by rw [← hsh]; exact outL_all rn T
     have hrall : rowP (idxD sh) (.int .i64 0) L (T.length + 1) = L.map (idxD sh) := by rw [← hLl]; exact rowP_all
     rw [hall, hrall]
     have hdlen : (dirsP rn T).length = 1 + sh + (dirsX T).length := by rw [← hall, outL_len hsh1, List.take_length]
     refine Tri.forgetK [(12, .raw rv), (7, .sl .none 19 (L.map encSp)), (9, .sl .none 1 (L.map mvD)), (10, .bool (decide (sh ≠ 0))), (13, .sl .none 6 ((dirsP rn T).map encDir))] [(50, .row rv (L.map (idxD sh)) 1 3)] [(50, 50)] ⟨⟨.refl _, .refl _, .refl _, .refl _, DLe.unown, trivial⟩, rfl, rfl, rfl, trivial⟩ ?_
     refine Tri.commitSt 50 12 rfl ?_
     refine Tri.ownNil 400 7 68 ?_
     refine Tri.seq ?_
     refine Tri.region ti2_ok ?_
     conv => whnf
     refine Tri.seq ?_
     refine Tri.seq ?_
     refine Tri.region ti2_ok ?_
     conv => whnf
     refine Tri.block ?_
     refine Tri.loopK (α := { k : Nat // k ≤ (dirsP rn T).length } × Value) (fun z => [(7, .sl .none 19 (L.map encSp)), (9, .sl .none 1 (L.map mvD)), (10, .bool (decide (sh ≠ 0))), (12, .sl .none 1 (L.map (idxD sh))), (13, .sl .none 6 ((dirsP rn T).map encDir)), (17, .sl (.own 400 z.2) 7 (((List.range z.1.1).flatMap (blockR sh rn T)).map encEnt)), (18, .int .i64 (z.1.1 : Int))]) (fun z => [(400, .own z.2 (((List.range z.1.1).flatMap (blockR sh rn T)).map encEnt).length 7 68)]) (fun z => (dirsP rn T).length - z.1.1) (⟨0, Nat.zero_le _⟩, .slice none 0 0) [(400, 400)]
      ⟨⟨.refl _, .refl _, .refl _, .refl _, .refl _, DLe.nilOwn, .refl _, trivial⟩, rfl, rfl, rfl, trivial⟩ ?_
     rintro ⟨⟨k, hk⟩, w⟩
     dsimp only
     refine Tri.seq ?_
     refine Tri.seq ?_
     refine Tri.region ti2_ok ?_
     conv => whnf
     refine Tri.cond (decide ((k : Int) < ((dirsP rn T).map encDir).length)) rfl (fun hc => ?_) (fun hc => ?_)
     ·refine Tri.skip ?_
      conv => whnf
      have hka : k < (dirsP rn T).length := by simpa using hc
      have hpart : ∀ (A : List EntV), A.length ≤ (blockR sh rn T k).length → ((List.range k).flatMap (blockR sh rn T) ++ A).length < 100000 := fun A hA => by
       have h1 : (List.range (k + 1)).flatMap (blockR sh rn T) = (List.range k).flatMap (blockR sh rn T) ++ blockR sh rn T k := by rw [List.range_succ, List.flatMap_append]; simp
       have h2 : ((List.range (k + 1)).flatMap (blockR sh rn T)).length ≤ ((List.range (1 + sh + (dirsX T).length)).flatMap (blockR sh rn T)).length := by
        refine (flatMap_range_le _ (by omega))
       rw [← hsh, ents_blocks rn hfis] at h2
       rw [hsh] at h2
       rw [h1, List.length_append] at h2
       rw [List.length_append]
       omega
      have hnext : (List.range (k + 1)).flatMap (blockR sh rn T) = (List.range k).flatMap (blockR sh rn T) ++ blockR sh rn T k := by rw [List.range_succ, List.flatMap_append]; simp
      refine Tri.seq ?_
      refine Tri.block ?_
      refine Tri.joinK (α := Value) (fun w => [(7, .sl .none 19 (L.map encSp)), (9, .sl .none 1 (L.map mvD)), (10, .bool (decide (sh ≠ 0))), (12, .sl .none 1 (L.map (idxD sh))), (13, .sl .none 6 ((dirsP rn T).map encDir)), (17, .sl (.own 400 w) 7 (((List.range k).flatMap (blockR sh rn T) ++ preR sh rn k).map encEnt)), (18, .int .i64 (k : Int))]) (fun w => [(400, .own w (((List.range k).flatMap (blockR sh rn T) ++ preR sh rn k).map encEnt).length 7 68)]) ?_ ?_
      ·refine Tri.seq ?_
       refine Tri.region ti2_ok ?_
       conv => whnf
       refine ⟨fun h0 h => by first | exact h | (rw [h]; rfl) | (rw [h0, h]; rfl), ?_⟩
       conv => whnf
       refine Tri.cond (decide (k = 0 ∧ sh ≠ 0)) (by
        refine congrArg D.bool ?_
        rw [bif_and, Bool.eq_iff_iff]
        simp) (fun hc => ?_) (fun hc => ?_)
       ·refine Tri.region ti2_ok ?_
        conv => whnf
        refine ⟨fun _ => ?_, ?_⟩
        ·have h2 : k = 0 ∧ sh ≠ 0 := of_decide_eq_true hc
         simp; omega
        conv => whnf
        refine ⟨encDir ⟨[47], rn, 2, 0, 0, false⟩, fun _ => ?_, ?_⟩
        ·have h2 : k = 0 ∧ sh ≠ 0 := of_decide_eq_true hc
         rw [← hall, outL, if_neg h2.2]; rfl
        conv => whnf
        refine ⟨trivial, ?_⟩
        conv => whnf
        refine ⟨rfl, rfl, ?_⟩
        conv => whnf
        refine ⟨by show (_ + _) * 56 ≤ _; rw [List.length_map]; have := hpart [] (Nat.zero_le _); rw [List.append_nil] at this; simp only [List.map_cons, List.map_nil, List.length_cons, List.length_nil]; omega, by show _ + _ ≤ _; rw [List.length_map]; have := hpart [] (Nat.zero_le _); rw [List.append_nil] at this; simp only [List.map_cons, List.map_nil, List.length_cons, List.length_nil]; omega, (fun h => by cases h), fun w2 => ?_⟩
        conv => whnf
        have h2 : k = 0 ∧ sh ≠ 0 := of_decide_eq_true hc
        have e : ((List.range k).flatMap (blockR sh rn T)).map encEnt ++ [.agg [.str [47], .str rn, .int .i64 0, .int .i64 1, .bool true, .bool false, .bool false]] = ((List.range k).flatMap (blockR sh rn T) ++ preR sh rn k).map encEnt := by
         rw [preR, if_pos h2, List.map_append]; rfl
        exact ⟨w2, [(400, 141)], ⟨.refl _, .refl _, .refl _, .refl _, .refl _, DLe.trans (DLe.of_eq (congrArg (D.sl (.own 141 w2) 7) e)) (DLe.own _ _), .refl _, trivial⟩, rfl, rfl, congrArg (fun z : Nat => some (HObj.own w2 z 7 68)) (by rw [← e, List.length_append]; rfl), trivial⟩
       ·refine Tri.skip ?_
        conv => whnf
        have h2 : ¬ (k = 0 ∧ sh ≠ 0) := of_decide_eq_false hc
        have e : ((List.range k).flatMap (blockR sh rn T)).map encEnt = ((List.range k).flatMap (blockR sh rn T) ++ preR sh rn k).map encEnt := by
         rw [preR, if_neg h2, List.append_nil]
        exact ⟨w, [(400, 400)], ⟨.refl _, .refl _, .refl _, .refl _, .refl _, DLe.of_eq (congrArg (D.sl (.own 400 w) 7) e), .refl _, trivial⟩, rfl, rfl, congrArg (fun z : List D => some (HObj.own w z.length 7 68)) e, trivial⟩
      ·rintro w3
       refine Tri.seq ?_
       refine Tri.seq ?_
       refine Tri.region ti2_ok ?_
       conv => whnf
       refine ⟨fun h0 h => by first | exact h | (rw [h]; rfl) | (rw [h0, h]; rfl), ?_⟩
       conv => whnf
       refine Tri.cond (decide (k = 1 ∧ sh ≠ 0)) (by
        refine congrArg D.bool ?_
        rw [bif_and, Bool.eq_iff_iff]
        simp
        omega) (fun hc => ?_) (fun hc => ?_)
       ·have hk1 : k = 1 ∧ sh ≠ 0 := of_decide_eq_true hc
        have hpre : preR sh rn k = [] := by rw [preR, if_neg (by omega)]
        have hblk : blockR sh rn T k = (movX T).map (XS.movV sh) := by rw [blockR, if_pos hk1]
        rw [hpre, List.append_nil]
        refine Tri.seq ?_
        refine Tri.seq ?_
        refine Tri.region ti2_ok ?_
        conv => whnf
        refine Tri.block ?_
        refine Tri.loopK (α := { j : Nat // j ≤ (dirsX T).length } × Value) (fun z => [(7, .sl .none 19 (L.map encSp)), (9, .sl .none 1 (L.map mvD)), (10, .bool (decide (sh ≠ 0))), (12, .sl .none 1 (L.map (idxD sh))), (13, .sl .none 6 ((dirsP rn T).map encDir)), (17, .sl (.own 400 z.2) 7 (((List.range k).flatMap (blockR sh rn T) ++ (((dirsX T).take z.1.1).filter XS.mv).map (XS.movV sh)).map encEnt)), (18, .int .i64 (k : Int)), (19, .int .i64 ((z.1.1 + 2 : Nat) : Int))]) (fun z => [(400, .own z.2 (((List.range k).flatMap (blockR sh rn T) ++ (((dirsX T).take z.1.1).filter XS.mv).map (XS.movV sh)).map encEnt).length 7 68)]) (fun z => (dirsX T).length - z.1.1) (⟨0, Nat.zero_le _⟩, w3) [(400, 400)]
         ⟨⟨.refl _, .refl _, .refl _, .refl _, .refl _, DLe.of_eq (congrArg (D.sl (.own 400 w3) 7) (by simp)), .refl _, .refl _, trivial⟩, rfl, rfl, congrArg (fun z : List D => some (HObj.own w3 z.length 7 68)) (by simp), trivial⟩ ?_
        rintro ⟨⟨j, hj⟩, w⟩
        dsimp only
        refine Tri.seq ?_
        refine Tri.seq ?_
        refine Tri.region ti2_ok ?_
        conv => whnf
        refine Tri.cond (decide (((j + 2 : Nat) : Int) < ((dirsP rn T).map encDir).length)) rfl (fun hc => ?_) (fun hc => ?_)
        ·refine Tri.skip ?_
         conv => whnf
         have hja : j < (dirsX T).length := by
          have h1 := of_decide_eq_true hc
          rw [List.length_map] at h1; omega
         obtain ⟨s, hs⟩ : ∃ s, (dirsX T)[j]? = some s := ⟨_, List.getElem?_eq_getElem hja⟩
         have hsd : s.isDir = true := (List.mem_filter.1 (List.mem_of_getElem? hs)).2
         have hdir : ((dirsP rn T).map encDir)[j + 2]? = some (encDir (s.dirV sh)) := by
          rw [List.getElem?_map, ← hall, outL, if_neg hk1.2, List.take_length]
          show Option.map encDir ((dirsX T).map (XS.dirV sh))[j]? = _
          rw [List.getElem?_map, hs]; rfl
         have hdi : s.di = j + 1 := by
          refine hb.dis (j + 1) s ?_
          rw [hLT, dirsX, List.filter_cons, if_pos (by rw [XS.isDir, rootX, hk0]; rfl)]
          exact hs
         have hsub : ((((dirsX T).take j).filter XS.mv).map (XS.movV sh)).length + 1 ≤ (blockR sh rn T k).length ∨ s.mv = false := by
          cases hm : s.mv with
          | false => exact .inr rfl
          | true =>
           left
           have h1 := filter_take_le XS.mv (dirsX T) (j + 1)
           rw [take_nxt hs, List.filter_append] at h1
           rw [hblk, List.length_map, List.length_map]
           have h2 : ((dirsX T).filter XS.mv).length ≤ (movX T).length := by
            rw [dirsX, List.filter_filter, movX]
            exact (filter_imp_len fun x hx => by simp at hx; exact hx.1)
           simp [hm] at h1; omega
         refine Tri.seq ?_
         refine Tri.block ?_
         refine Tri.seq ?_
         refine Tri.region ti2_ok ?_
         conv => whnf
         refine ⟨fun _ => by simp; omega, ?_⟩
         conv => whnf
         refine ⟨encDir (s.dirV sh), fun _ => hdir, ?_⟩
         conv => whnf
         refine Tri.cond _ rfl (fun hc => ?_) (fun hc => ?_)
         ·refine Tri.drawTail ti2_ok 14 mixed (by kernel_rfl) ?_
          conv => whnf
          refine ⟨fun _ => by simp; omega, ?_⟩
          conv => whnf
          refine ⟨encDir (s.dirV sh), fun _ => hdir, ?_⟩
          conv => whnf
          refine ⟨fun _ => by simp; omega, ?_⟩
          conv => whnf
          refine ⟨encDir (s.dirV sh), fun _ => hdir, ?_⟩
          conv => whnf
          refine ⟨trivial, ?_⟩
          conv => whnf
          refine ⟨rfl, rfl, ?_⟩
          conv => whnf
          have hmv : s.mv = true := hc
          have hsb : ((((dirsX T).take j).filter XS.mv).map (XS.movV sh)).length ≤ (blockR sh rn T k).length := by
           rcases hsub with h | h
           ·omega
           ·rw [h] at hmv; cases hmv
          have hlt := hpart _ hsb
          refine ⟨by show (_ + _) * 56 ≤ _; rw [List.length_map]; simp only [List.map_cons, List.map_nil, List.length_cons, List.length_nil]; omega, by show _ + _ ≤ _; rw [List.length_map]; simp only [List.map_cons, List.map_nil, List.length_cons, List.length_nil]; omega, (fun h => by cases h), fun w2 => ?_⟩
          conv => whnf
          refine Tri.region ti2_ok ?_
          conv => whnf
          refine .inl ⟨fun _ => by simp [InR]; omega, ?_⟩
          conv => whnf
          have hmv : s.mv = true := hc
          have hev : encEnt (s.movV sh) = .agg [.str (s.dirV sh).path, .str (s.dirV sh).id, .int .i64 1, .int .i64 ((j + 2 : Nat) : Int), .bool true, .bool true, .bool false] := by
           rw [encEnt, XS.movV, XS.dirV, hmv, if_pos rfl, ixS, if_neg (by omega), hdi, show j + 1 + sh = j + 2 by omega]
          have hon : ((List.range k).flatMap (blockR sh rn T) ++ (((dirsX T).take j).filter XS.mv).map (XS.movV sh)).map encEnt ++ [.agg [.str (s.dirV sh).path, .str (s.dirV sh).id, .int .i64 1, .int .i64 ((j + 2 : Nat) : Int), .bool true, .bool true, .bool false]] = ((List.range k).flatMap (blockR sh rn T) ++ (((dirsX T).take (j + 1)).filter XS.mv).map (XS.movV sh)).map encEnt := by
           rw [← hev, take_nxt hs, List.filter_append]
           simp [hmv]
          exact ⟨(⟨j + 1, hja⟩, w2), [(400, 172)], by show _ - (j + 1) < _ - j; omega, ⟨.refl _, .refl _, .refl _, .refl _, .refl _, DLe.trans (DLe.of_eq (congrArg (D.sl (.own 172 w2) 7) hon)) (DLe.own _ _), .refl _, .refl _, trivial⟩, rfl, rfl, congrArg (fun z : Nat => some (HObj.own w2 z 7 68)) (by rw [← hon, List.length_append]; rfl), trivial⟩
         ·refine Tri.skip ?_
          conv => whnf
          refine Tri.region ti2_ok ?_
          conv => whnf
          refine .inl ⟨fun _ => by simp [InR]; omega, ?_⟩
          conv => whnf
          have hmv : s.mv = false := hc
          have hon : ((List.range k).flatMap (blockR sh rn T) ++ (((dirsX T).take j).filter XS.mv).map (XS.movV sh)).map encEnt = ((List.range k).flatMap (blockR sh rn T) ++ (((dirsX T).take (j + 1)).filter XS.mv).map (XS.movV sh)).map encEnt := by
           rw [take_nxt hs, List.filter_append]
           simp [hmv]
          exact ⟨(⟨j + 1, hja⟩, w), [(400, 400)], by show _ - (j + 1) < _ - j; omega, ⟨.refl _, .refl _, .refl _, .refl _, .refl _, DLe.of_eq (congrArg (D.sl (.own 400 w) 7) hon), .refl _, .refl _, trivial⟩, rfl, rfl, congrArg (fun z : List D => some (HObj.own w z.length 7 68)) hon, trivial⟩
        ·refine Tri.exit ?_
         conv => whnf
         refine Tri.exit ?_
         conv => whnf
         have hjn : j = (dirsX T).length := by
          have h1 := of_decide_eq_false hc
          rw [List.length_map] at h1; omega
         have hmovd : (((dirsX T).take j).filter XS.mv).map (XS.movV sh) = blockR sh rn T k := by
          rw [hblk, hjn, List.take_length]
          congr 1
          rw [dirsX, List.filter_filter, movX]
          refine List.filter_congr fun x hx => ?_
          cases hm : x.mv with
          | false => rfl
          | true =>
           obtain ⟨t, ht⟩ := List.mem_iff_getElem?.1 hx
           obtain ⟨p, _, hst, _⟩ := hat t x ht
           have := hst.mv
           rw [hm] at this
           cases hd : x.isDir with
           | true => rfl
           | false => rw [hd] at this; cases this
         rw [hmovd, ← hnext]
         refine Tri.region ti2_ok ?_
         conv => whnf
         refine .inl ⟨fun _ => by simp [InR]; omega, ?_⟩
         conv => whnf
         exact ⟨(⟨k + 1, hka⟩, w), [(400, 400)], by show _ - (k + 1) < _ - k; omega, ⟨.refl _, .refl _, .refl _, .refl _, .refl _, .refl _, .refl _, trivial⟩, rfl, rfl, rfl, trivial⟩
       ·refine Tri.skip ?_
        conv => whnf
        have hk1 : ¬ (k = 1 ∧ sh ≠ 0) := of_decide_eq_false hc
        have hblk : blockR sh rn T k = preR sh rn k ++ (T.filter fun x => ixS sh x.fi == k).map (XS.entV sh) := by rw [blockR, if_neg hk1]
        refine Tri.seq ?_
        refine Tri.region ti2_ok ?_
        conv => whnf
        refine Tri.block ?_
        refine Tri.loopK (α := { t : Nat // t ≤ T.length } × Value) (fun z => [(7, .sl .none 19 (L.map encSp)), (9, .sl .none 1 (L.map mvD)), (10, .bool (decide (sh ≠ 0))), (12, .sl .none 1 (L.map (idxD sh))), (13, .sl .none 6 ((dirsP rn T).map encDir)), (17, .sl (.own 400 z.2) 7 (((List.range k).flatMap (blockR sh rn T) ++ (preR sh rn k ++ ((T.take z.1.1).filter fun x => ixS sh x.fi == k).map (XS.entV sh))).map encEnt)), (18, .int .i64 (k : Int)), (20, .int .i64 ((z.1.1 + 1 : Nat) : Int))]) (fun z => [(400, .own z.2 (((List.range k).flatMap (blockR sh rn T) ++ (preR sh rn k ++ ((T.take z.1.1).filter fun x => ixS sh x.fi == k).map (XS.entV sh))).map encEnt).length 7 68)]) (fun z => T.length - z.1.1) (⟨0, Nat.zero_le _⟩, w3) [(400, 400)]
         ⟨⟨.refl _, .refl _, .refl _, .refl _, .refl _, DLe.of_eq (congrArg (D.sl (.own 400 w3) 7) (by simp)), .refl _, .refl _, trivial⟩, rfl, rfl, congrArg (fun z : List D => some (HObj.own w3 z.length 7 68)) (by simp), trivial⟩ ?_
        rintro ⟨⟨t, ht⟩, w⟩
        dsimp only
        refine Tri.seq ?_
        refine Tri.seq ?_
        refine Tri.region ti2_ok ?_
        conv => whnf
        refine Tri.cond (decide (((t + 1 : Nat) : Int) < (L.map encSp).length)) rfl (fun hc => ?_) (fun hc => ?_)
        ·refine Tri.skip ?_
         conv => whnf
         have hta : t < T.length := by
          have h1 := of_decide_eq_true hc
          rw [List.length_map] at h1; omega
         obtain ⟨s, hT⟩ : ∃ s, T[t]? = some s := ⟨_, List.getElem?_eq_getElem hta⟩
         obtain ⟨p, hLs, hst, hLp, hab, hdi, hmno⟩ := hat t s hT
         have hse : (L.map encSp)[t + 1]? = some (encSp s) := by rw [List.getElem?_map, hLs]; rfl
         have hsm : (L.map mvD)[t + 1]? = some (mvD s) := by rw [List.getElem?_map, hLs]; rfl
         have hsx : (L.map (idxD sh))[t + 1]? = some (idxD sh s) := by rw [List.getElem?_map, hLs]; rfl
         have hpx : (L.map (idxD sh))[s.ab]? = some (.int .i64 (ixS sh s.fi : Nat)) := by rw [List.getElem?_map, hLp, hst.fi]; show some (D.int _ (idxN sh p)) = _; rw [idxN, if_pos hst.dir]
         refine Tri.seq ?_
         refine Tri.block ?_
         refine Tri.seq ?_
         refine Tri.seq ?_
         refine Tri.region ti2_ok ?_
         conv => whnf
         refine ⟨fun _ => by simp; omega, ?_⟩
         conv => whnf
         refine ⟨encSp s, fun _ => hse, ?_⟩
         conv => whnf
         refine ⟨fun _ => by simp; omega, ?_⟩
         conv => whnf
         refine ⟨.int .i64 (ixS sh s.fi : Nat), fun _ => hpx, ?_⟩
         conv => whnf
         refine Tri.cond _ rfl (fun hc => ?_) (fun hc => ?_)
         ·refine Tri.exit ?_
          conv => whnf
          refine Tri.region ti2_ok ?_
          conv => whnf
          refine .inl ⟨fun _ => by simp [InR]; omega, ?_⟩
          conv => whnf
          have hkf : ixS sh s.fi ≠ k := by
           have : ¬ ((ixS sh s.fi : Nat) : Int) = (k : Int) := by simpa using hc
           omega
          have hon := recs_same sh T k hT hkf
          exact ⟨(⟨t + 1, hta⟩, w), [(400, 400)], by show _ - (t + 1) < _ - t; omega, ⟨.refl _, .refl _, .refl _, .refl _, .refl _, DLe.of_eq (congrArg (fun z : List XS => D.sl (.own 400 w) 7 (((List.range k).flatMap (blockR sh rn T) ++ (preR sh rn k ++ z.map (XS.entV sh))).map encEnt)) hon.symm), .refl _, .refl _, trivial⟩, rfl, rfl, congrArg (fun z : List XS => some (HObj.own w (((List.range k).flatMap (blockR sh rn T) ++ (preR sh rn k ++ z.map (XS.entV sh))).map encEnt).length 7 68)) hon.symm, trivial⟩
         ·refine Tri.skip ?_
          conv => whnf
          have hkf : ixS sh s.fi = k := by
           have : ((ixS sh s.fi : Nat) : Int) = (k : Int) := by simpa using hc
           omega
          have hpl2 := hpart (preR sh rn k ++ ((T.take t).filter fun x => ixS sh x.fi == k).map (XS.entV sh)) (by
           rw [hblk, List.length_append, List.length_append, List.length_map, List.length_map]
           have := filter_take_le (fun x => ixS sh x.fi == k) T t
           omega)
          refine Tri.forgetK [(7, .sl .none 19 (L.map encSp)), (9, .sl .none 1 (L.map mvD)), (10, .bool (decide (sh ≠ 0))), (12, .sl .none 1 (L.map (idxD sh))), (13, .sl .none 6 ((dirsP rn T).map encDir)), (17, .sl (.own 400 w) 7 (((List.range k).flatMap (blockR sh rn T) ++ (preR sh rn k ++ ((T.take t).filter fun x => ixS sh x.fi == k).map (XS.entV sh))).map encEnt)), (18, .int .i64 (k : Int)), (20, .int .i64 ((t + 1 : Nat) : Int))] [(400, .own w (((List.range k).flatMap (blockR sh rn T) ++ (preR sh rn k ++ ((T.take t).filter fun x => ixS sh x.fi == k).map (XS.entV sh))).map encEnt).length 7 68)] [(400, 400)] ⟨⟨.refl _, .refl _, .refl _, .refl _, .refl _, .refl _, .refl _, .refl _, trivial⟩, rfl, rfl, rfl, trivial⟩ ?_
          refine Tri.seq ?_
          refine Tri.bitsG ti2_ok mixed (α := Nat) (fun y f => [(7, .sl .none 19 (L.map encSp)), (9, .sl .none 1 (L.map mvD)), (10, .bool (decide (sh ≠ 0))), (12, .sl .none 1 (L.map (idxD sh))), (13, .sl .none 6 ((dirsP rn T).map encDir)), (17, .sl (.own 400 w) 7 (((List.range k).flatMap (blockR sh rn T) ++ (preR sh rn k ++ ((T.take t).filter fun x => ixS sh x.fi == k).map (XS.entV sh))).map encEnt)), (18, .int .i64 (k : Int)), (20, .int .i64 ((t + 1 : Nat) : Int)), (189, bif f 0 then .sl .none 19 (L.map encSp) else .any), (190, bif f 1 then .int .i64 ((t + 1 : Nat) : Int) else .any), (191, bif f 2 then .elm 19 (L.map encSp) (t + 1) 0 else .any), (192, bif f 3 then .elm 19 (L.map encSp) (t + 1) 12 else .any), (193, bif f 4 then .str s.path else .any), (194, bif f 5 then .sl .none 19 (L.map encSp) else .any), (195, bif f 6 then .int .i64 ((t + 1 : Nat) : Int) else .any), (196, bif f 7 then .elm 19 (L.map encSp) (t + 1) 0 else .any), (197, bif f 8 then .elm 19 (L.map encSp) (t + 1) 13 else .any), (198, bif f 9 then .str s.id else .any), (199, bif f 10 then .int .i64 (k : Int) else .any), (200, bif f 11 then .sl .none 1 (L.map (idxD sh)) else .any), (201, bif f 12 then .int .i64 ((t + 1 : Nat) : Int) else .any), (202, bif f 13 then .elm 1 (L.map (idxD sh)) (t + 1) 0 else .any), (203, bif f 14 then .int .i64 (idxN sh s) else .any), (204, bif f 15 then .sl .none 19 (L.map encSp) else .any), (205, bif f 16 then .int .i64 ((t + 1 : Nat) : Int) else .any), (206, bif f 17 then .elm 19 (L.map encSp) (t + 1) 0 else .any), (207, bif f 18 then .elm 19 (L.map encSp) (t + 1) 17 else .any), (208, bif f 19 then .bool s.iso else .any), (209, bif f 20 then .bool (!s.iso) else .any), (210, bif f 21 then .sl .none 19 (L.map encSp) else .any), (211, bif f 22 then .int .i64 ((t + 1 : Nat) : Int) else .any), (212, bif f 23 then .elm 19 (L.map encSp) (t + 1) 0 else .any), (213, bif f 24 then .elm 19 (L.map encSp) (t + 1) 18 else .any), (214, bif f 25 then .bool s.rock else .any), (215, bif f 26 then .agg [.str s.path, .str s.id, .int .i64 (k : Int), .int .i64 (idxN sh s), .bool (!s.iso), .bool s.rock, .bool false] else .any), (21, bif f 27 then .box 21 y 0 else .any)])
           (fun y f => look ([(400, .own w (((List.range k).flatMap (blockR sh rn T) ++ (preR sh rn k ++ ((T.take t).filter fun x => ixS sh x.fi == k).map (XS.entV sh))).map encEnt).length 7 68)] ++ (bif f 27 then [(21, .box y (bif f 28 then [.str s.path, .str s.id, .int .i64 (k : Int), .int .i64 (idxN sh s), .bool (!s.iso), .bool s.rock, .bool false] else [.str [], .str [], .int .i64 0, .int .i64 0, .bool false, .bool false, .bool false]))] else []))) (by decide +kernel) 0 ?_ ?_ ?_ ?_
          ·exact ⟨.refl _, .refl _, .refl _, .refl _, .refl _, .refl _, .refl _, .refl _, .any _, .any _, .any _, .any _, .any _, .any _, .any _, .any _, .any _, .any _, .any _, .any _, .any _, .any _, .any _, .any _, .any _, .any _, .any _, .any _, .any _, .any _, .any _, .any _, .any _, .any _, .any _, .any _, trivial⟩
          ·exact SubHF.of (hs := [(400, .own w (((List.range k).flatMap (blockR sh rn T) ++ (preR sh rn k ++ ((T.take t).filter fun x => ixS sh x.fi == k).map (XS.entV sh))).map encEnt).length 7 68)]) ⟨rfl, trivial⟩
          ·conv => whnf
           refine ⟨fun y f hI => ?_, ?_⟩
           ·obtain ⟨f, rfl⟩ := off f 28 (hI.no 28 0 rfl rfl)
            conv => whnf
            refine ⟨trivial, .inl ?_⟩
            conv => whnf
            exact ⟨y, ⟨.refl _, .refl _, .refl _, .refl _, .refl _, .refl _, .refl _, .refl _, .refl _, .refl _, .refl _, .refl _, .refl _, .refl _, .refl _, .refl _, .refl _, .refl _, .refl _, .refl _, .refl _, .refl _, .refl _, .refl _, .refl _, .refl _, .refl _, .refl _, .refl _, .refl _, .refl _, .refl _, .refl _, .refl _, .refl _, .refl _, trivial⟩, fun k o h => h⟩
           refine ⟨fun y f hI => ?_, ?_⟩
           ·obtain ⟨f, rfl⟩ := off f 28 (hI.no 28 1 rfl rfl)
            conv => whnf
            refine ⟨trivial, .inl ?_⟩
            conv => whnf
            exact ⟨y, ⟨.refl _, .refl _, .refl _, .refl _, .refl _, .refl _, .refl _, .refl _, .refl _, .refl _, .refl _, .refl _, .refl _, .refl _, .refl _, .refl _, .refl _, .refl _, .refl _, .refl _, .refl _, .refl _, .refl _, .refl _, .refl _, .refl _, .refl _, .refl _, .refl _, .refl _, .refl _, .refl _, .refl _, .refl _, .refl _, .refl _, trivial⟩, fun k o h => h⟩
           refine ⟨fun y f hI => ?_, ?_⟩
           ·obtain ⟨f, rfl⟩ := off f 28 (hI.no 28 2 rfl rfl)
            conv => whnf
            refine ⟨trivial, .inl ?_⟩
            conv => whnf
            refine ⟨fun _ => by simp; omega, ?_⟩
            conv => whnf
            exact ⟨y, ⟨.refl _, .refl _, .refl _, .refl _, .refl _, .refl _, .refl _, .refl _, .refl _, .refl _, .refl _, .refl _, .refl _, .refl _, .refl _, .refl _, .refl _, .refl _, .refl _, .refl _, .refl _, .refl _, .refl _, .refl _, .refl _, .refl _, .refl _, .refl _, .refl _, .refl _, .refl _, .refl _, .refl _, .refl _, .refl _, .refl _, trivial⟩, fun k o h => h⟩
           refine ⟨fun y f hI => ?_, ?_⟩
           ·obtain ⟨f, rfl⟩ := off f 28 (hI.no 28 3 rfl rfl)
            conv => whnf
            refine ⟨trivial, .inl ?_⟩
            conv => whnf
            exact ⟨y, ⟨.refl _, .refl _, .refl _, .refl _, .refl _, .refl _, .refl _, .refl _, .refl _, .refl _, .refl _, .refl _, .refl _, .refl _, .refl _, .refl _, .refl _, .refl _, .refl _, .refl _, .refl _, .refl _, .refl _, .refl _, .refl _, .refl _, .refl _, .refl _, .refl _, .refl _, .refl _, .refl _, .refl _, .refl _, .refl _, .refl _, trivial⟩, fun k o h => h⟩
           refine ⟨fun y f hI => ?_, ?_⟩
           ·obtain ⟨f, rfl⟩ := off f 28 (hI.no 28 4 rfl rfl)
            conv => whnf
            refine ⟨trivial, .inl ?_⟩
            conv => whnf
            refine ⟨encSp s, fun _ => hse, ?_⟩
            conv => whnf
            exact ⟨y, ⟨.refl _, .refl _, .refl _, .refl _, .refl _, .refl _, .refl _, .refl _, .refl _, .refl _, .refl _, .refl _, .refl _, .refl _, .refl _, .refl _, .refl _, .refl _, .refl _, .refl _, .refl _, .refl _, .refl _, .refl _, .refl _, .refl _, .refl _, .refl _, .refl _, .refl _, .refl _, .refl _, .refl _, .refl _, .refl _, .refl _, trivial⟩, fun k o h => h⟩
           refine ⟨fun y f hI => ?_, ?_⟩
           ·obtain ⟨f, rfl⟩ := off f 28 (hI.no 28 5 rfl rfl)
            conv => whnf
            refine ⟨trivial, .inl ?_⟩
            conv => whnf
            exact ⟨y, ⟨.refl _, .refl _, .refl _, .refl _, .refl _, .refl _, .refl _, .refl _, .refl _, .refl _, .refl _, .refl _, .refl _, .refl _, .refl _, .refl _, .refl _, .refl _, .refl _, .refl _, .refl _, .refl _, .refl _, .refl _, .refl _, .refl _, .refl _, .refl _, .refl _, .refl _, .refl _, .refl _, .refl _, .refl _, .refl _, .refl _, trivial⟩, fun k o h => h⟩
           refine ⟨fun y f hI => ?_, ?_⟩
           ·obtain ⟨f, rfl⟩ := off f 28 (hI.no 28 6 rfl rfl)
            conv => whnf
            refine ⟨trivial, .inl ?_⟩
            conv => whnf
            exact ⟨y, ⟨.refl _, .refl _, .refl _, .refl _, .refl _, .refl _, .refl _, .refl _, .refl _, .refl _, .refl _, .refl _, .refl _, .refl _, .refl _, .refl _, .refl _, .refl _, .refl _, .refl _, .refl _, .refl _, .refl _, .refl _, .refl _, .refl _, .refl _, .refl _, .refl _, .refl _, .refl _, .refl _, .refl _, .refl _, .refl _, .refl _, trivial⟩, fun k o h => h⟩
           refine ⟨fun y f hI => ?_, ?_⟩
           ·obtain ⟨f, rfl⟩ := off f 28 (hI.no 28 7 rfl rfl)
            conv => whnf
            refine ⟨trivial, .inl ?_⟩
            conv => whnf
            refine ⟨fun _ => by simp; omega, ?_⟩
            conv => whnf
            exact ⟨y, ⟨.refl _, .refl _, .refl _, .refl _, .refl _, .refl _, .refl _, .refl _, .refl _, .refl _, .refl _, .refl _, .refl _, .refl _, .refl _, .refl _, .refl _, .refl _, .refl _, .refl _, .refl _, .refl _, .refl _, .refl _, .refl _, .refl _, .refl _, .refl _, .refl _, .refl _, .refl _, .refl _, .refl _, .refl _, .refl _, .refl _, trivial⟩, fun k o h => h⟩
           refine ⟨fun y f hI => ?_, ?_⟩
           ·obtain ⟨f, rfl⟩ := off f 28 (hI.no 28 8 rfl rfl)
            conv => whnf
            refine ⟨trivial, .inl ?_⟩
            conv => whnf
            exact ⟨y, ⟨.refl _, .refl _, .refl _, .refl _, .refl _, .refl _, .refl _, .refl _, .refl _, .refl _, .refl _, .refl _, .refl _, .refl _, .refl _, .refl _, .refl _, .refl _, .refl _, .refl _, .refl _, .refl _, .refl _, .refl _, .refl _, .refl _, .refl _, .refl _, .refl _, .refl _, .refl _, .refl _, .refl _, .refl _, .refl _, .refl _, trivial⟩, fun k o h => h⟩
           refine ⟨fun y f hI => ?_, ?_⟩
           ·obtain ⟨f, rfl⟩ := off f 28 (hI.no 28 9 rfl rfl)
            conv => whnf
            refine ⟨trivial, .inl ?_⟩
            conv => whnf
            refine ⟨encSp s, fun _ => hse, ?_⟩
            conv => whnf
            exact ⟨y, ⟨.refl _, .refl _, .refl _, .refl _, .refl _, .refl _, .refl _, .refl _, .refl _, .refl _, .refl _, .refl _, .refl _, .refl _, .refl _, .refl _, .refl _, .refl _, .refl _, .refl _, .refl _, .refl _, .refl _, .refl _, .refl _, .refl _, .refl _, .refl _, .refl _, .refl _, .refl _, .refl _, .refl _, .refl _, .refl _, .refl _, trivial⟩, fun k o h => h⟩
           refine ⟨fun y f hI => ?_, ?_⟩
           ·obtain ⟨f, rfl⟩ := off f 28 (hI.no 28 10 rfl rfl)
            conv => whnf
            refine ⟨trivial, .inl ?_⟩
            conv => whnf
            exact ⟨y, ⟨.refl _, .refl _, .refl _, .refl _, .refl _, .refl _, .refl _, .refl _, .refl _, .refl _, .refl _, .refl _, .refl _, .refl _, .refl _, .refl _, .refl _, .refl _, .refl _, .refl _, .refl _, .refl _, .refl _, .refl _, .refl _, .refl _, .refl _, .refl _, .refl _, .refl _, .refl _, .refl _, .refl _, .refl _, .refl _, .refl _, trivial⟩, fun k o h => h⟩
           refine ⟨fun y f hI => ?_, ?_⟩
           ·obtain ⟨f, rfl⟩ := off f 28 (hI.no 28 11 rfl rfl)
            conv => whnf
            refine ⟨trivial, .inl ?_⟩
            conv => whnf
            exact ⟨y, ⟨.refl _, .refl _, .refl _, .refl _, .refl _, .refl _, .refl _, .refl _, .refl _, .refl _, .refl _, .refl _, .refl _, .refl _, .refl _, .refl _, .refl _, .refl _, .refl _, .refl _, .refl _, .refl _, .refl _, .refl _, .refl _, .refl _, .refl _, .refl _, .refl _, .refl _, .refl _, .refl _, .refl _, .refl _, .refl _, .refl _, trivial⟩, fun k o h => h⟩
           refine ⟨fun y f hI => ?_, ?_⟩
           ·obtain ⟨f, rfl⟩ := off f 28 (hI.no 28 12 rfl rfl)
            conv => whnf
            refine ⟨trivial, .inl ?_⟩
            conv => whnf
            exact ⟨y, ⟨.refl _, .refl _, .refl _, .refl _, .refl _, .refl _, .refl _, .refl _, .refl _, .refl _, .refl _, .refl _, .refl _, .refl _, .refl _, .refl _, .refl _, .refl _, .refl _, .refl _, .refl _, .refl _, .refl _, .refl _, .refl _, .refl _, .refl _, .refl _, .refl _, .refl _, .refl _, .refl _, .refl _, .refl _, .refl _, .refl _, trivial⟩, fun k o h => h⟩
           refine ⟨fun y f hI => ?_, ?_⟩
           ·obtain ⟨f, rfl⟩ := off f 28 (hI.no 28 13 rfl rfl)
            conv => whnf
            refine ⟨trivial, .inl ?_⟩
            conv => whnf
            refine ⟨fun _ => by simp; omega, ?_⟩
            conv => whnf
            exact ⟨y, ⟨.refl _, .refl _, .refl _, .refl _, .refl _, .refl _, .refl _, .refl _, .refl _, .refl _, .refl _, .refl _, .refl _, .refl _, .refl _, .refl _, .refl _, .refl _, .refl _, .refl _, .refl _, .refl _, .refl _, .refl _, .refl _, .refl _, .refl _, .refl _, .refl _, .refl _, .refl _, .refl _, .refl _, .refl _, .refl _, .refl _, trivial⟩, fun k o h => h⟩
           refine ⟨fun y f hI => ?_, ?_⟩
           ·obtain ⟨f, rfl⟩ := off f 28 (hI.no 28 14 rfl rfl)
            conv => whnf
            refine ⟨trivial, .inl ?_⟩
            conv => whnf
            refine ⟨idxD sh s, fun _ => hsx, ?_⟩
            conv => whnf
            exact ⟨y, ⟨.refl _, .refl _, .refl _, .refl _, .refl _, .refl _, .refl _, .refl _, .refl _, .refl _, .refl _, .refl _, .refl _, .refl _, .refl _, .refl _, .refl _, .refl _, .refl _, .refl _, .refl _, .refl _, .refl _, .refl _, .refl _, .refl _, .refl _, .refl _, .refl _, .refl _, .refl _, .refl _, .refl _, .refl _, .refl _, .refl _, trivial⟩, fun k o h => h⟩
           refine ⟨fun y f hI => ?_, ?_⟩
           ·obtain ⟨f, rfl⟩ := off f 28 (hI.no 28 15 rfl rfl)
            conv => whnf
            refine ⟨trivial, .inl ?_⟩
            conv => whnf
            exact ⟨y, ⟨.refl _, .refl _, .refl _, .refl _, .refl _, .refl _, .refl _, .refl _, .refl _, .refl _, .refl _, .refl _, .refl _, .refl _, .refl _, .refl _, .refl _, .refl _, .refl _, .refl _, .refl _, .refl _, .refl _, .refl _, .refl _, .refl _, .refl _, .refl _, .refl _, .refl _, .refl _, .refl _, .refl _, .refl _, .refl _, .refl _, trivial⟩, fun k o h => h⟩
           refine ⟨fun y f hI => ?_, ?_⟩
           ·obtain ⟨f, rfl⟩ := off f 28 (hI.no 28 16 rfl rfl)
            conv => whnf
            refine ⟨trivial, .inl ?_⟩
            conv => whnf
            exact ⟨y, ⟨.refl _, .refl _, .refl _, .refl _, .refl _, .refl _, .refl _, .refl _, .refl _, .refl _, .refl _, .refl _, .refl _, .refl _, .refl _, .refl _, .refl _, .refl _, .refl _, .refl _, .refl _, .refl _, .refl _, .refl _, .refl _, .refl _, .refl _, .refl _, .refl _, .refl _, .refl _, .refl _, .refl _, .refl _, .refl _, .refl _, trivial⟩, fun k o h => h⟩
           refine ⟨fun y f hI => ?_, ?_⟩
           ·obtain ⟨f, rfl⟩ := off f 28 (hI.no 28 17 rfl rfl)
            conv => whnf
            refine ⟨trivial, .inl ?_⟩
            conv => whnf
            refine ⟨fun _ => by simp; omega, ?_⟩
            conv => whnf
            exact ⟨y, ⟨.refl _, .refl _, .refl _, .refl _, .refl _, .refl _, .refl _, .refl _, .refl _, .refl _, .refl _, .refl _, .refl _, .refl _, .refl _, .refl _, .refl _, .refl _, .refl _, .refl _, .refl _, .refl _, .refl _, .refl _, .refl _, .refl _, .refl _, .refl _, .refl _, .refl _, .refl _, .refl _, .refl _, .refl _, .refl _, .refl _, trivial⟩, fun k o h => h⟩
           refine ⟨fun y f hI => ?_, ?_⟩
           ·obtain ⟨f, rfl⟩ := off f 28 (hI.no 28 18 rfl rfl)
            conv => whnf
            refine ⟨trivial, .inl ?_⟩
            conv => whnf
            exact ⟨y, ⟨.refl _, .refl _, .refl _, .refl _, .refl _, .refl _, .refl _, .refl _, .refl _, .refl _, .refl _, .refl _, .refl _, .refl _, .refl _, .refl _, .refl _, .refl _, .refl _, .refl _, .refl _, .refl _, .refl _, .refl _, .refl _, .refl _, .refl _, .refl _, .refl _, .refl _, .refl _, .refl _, .refl _, .refl _, .refl _, .refl _, trivial⟩, fun k o h => h⟩
           refine ⟨fun y f hI => ?_, ?_⟩
           ·obtain ⟨f, rfl⟩ := off f 28 (hI.no 28 19 rfl rfl)
            conv => whnf
            refine ⟨trivial, .inl ?_⟩
            conv => whnf
            refine ⟨encSp s, fun _ => hse, ?_⟩
            conv => whnf
            exact ⟨y, ⟨.refl _, .refl _, .refl _, .refl _, .refl _, .refl _, .refl _, .refl _, .refl _, .refl _, .refl _, .refl _, .refl _, .refl _, .refl _, .refl _, .refl _, .refl _, .refl _, .refl _, .refl _, .refl _, .refl _, .refl _, .refl _, .refl _, .refl _, .refl _, .refl _, .refl _, .refl _, .refl _, .refl _, .refl _, .refl _, .refl _, trivial⟩, fun k o h => h⟩
           refine ⟨fun y f hI => ?_, ?_⟩
           ·obtain ⟨f, rfl⟩ := off f 28 (hI.no 28 20 rfl rfl)
            conv => whnf
            refine ⟨trivial, .inl ?_⟩
            conv => whnf
            exact ⟨y, ⟨.refl _, .refl _, .refl _, .refl _, .refl _, .refl _, .refl _, .refl _, .refl _, .refl _, .refl _, .refl _, .refl _, .refl _, .refl _, .refl _, .refl _, .refl _, .refl _, .refl _, .refl _, .refl _, .refl _, .refl _, .refl _, .refl _, .refl _, .refl _, .refl _, .refl _, .refl _, .refl _, .refl _, .refl _, .refl _, .refl _, trivial⟩, fun k o h => h⟩
           refine ⟨fun y f hI => ?_, ?_⟩
           ·obtain ⟨f, rfl⟩ := off f 28 (hI.no 28 21 rfl rfl)
            conv => whnf
            refine ⟨trivial, .inl ?_⟩
            conv => whnf
            exact ⟨y, ⟨.refl _, .refl _, .refl _, .refl _, .refl _, .refl _, .refl _, .refl _, .refl _, .refl _, .refl _, .refl _, .refl _, .refl _, .refl _, .refl _, .refl _, .refl _, .refl _, .refl _, .refl _, .refl _, .refl _, .refl _, .refl _, .refl _, .refl _, .refl _, .refl _, .refl _, .refl _, .refl _, .refl _, .refl _, .refl _, .refl _, trivial⟩, fun k o h => h⟩
           refine ⟨fun y f hI => ?_, ?_⟩
           ·obtain ⟨f, rfl⟩ := off f 28 (hI.no 28 22 rfl rfl)
            conv => whnf
            refine ⟨trivial, .inl ?_⟩
            conv => whnf
            exact ⟨y, ⟨.refl _, .refl _, .refl _, .refl _, .refl _, .refl _, .refl _, .refl _, .refl _, .refl _, .refl _, .refl _, .refl _, .refl _, .refl _, .refl _, .refl _, .refl _, .refl _, .refl _, .refl _, .refl _, .refl _, .refl _, .refl _, .refl _, .refl _, .refl _, .refl _, .refl _, .refl _, .refl _, .refl _, .refl _, .refl _, .refl _, trivial⟩, fun k o h => h⟩
           refine ⟨fun y f hI => ?_, ?_⟩
           ·obtain ⟨f, rfl⟩ := off f 28 (hI.no 28 23 rfl rfl)
            conv => whnf
            refine ⟨trivial, .inl ?_⟩
            conv => whnf
            refine ⟨fun _ => by simp; omega, ?_⟩
            conv => whnf
            exact ⟨y, ⟨.refl _, .refl _, .refl _, .refl _, .refl _, .refl _, .refl _, .refl _, .refl _, .refl _, .refl _, .refl _, .refl _, .refl _, .refl _, .refl _, .refl _, .refl _, .refl _, .refl _, .refl _, .refl _, .refl _, .refl _, .refl _, .refl _, .refl _, .refl _, .refl _, .refl _, .refl _, .refl _, .refl _, .refl _, .refl _, .refl _, trivial⟩, fun k o h => h⟩
           refine ⟨fun y f hI => ?_, ?_⟩
           ·obtain ⟨f, rfl⟩ := off f 28 (hI.no 28 24 rfl rfl)
            conv => whnf
            refine ⟨trivial, .inl ?_⟩
            conv => whnf
            exact ⟨y, ⟨.refl _, .refl _, .refl _, .refl _, .refl _, .refl _, .refl _, .refl _, .refl _, .refl _, .refl _, .refl _, .refl _, .refl _, .refl _, .refl _, .refl _, .refl _, .refl _, .refl _, .refl _, .refl _, .refl _, .refl _, .refl _, .refl _, .refl _, .refl _, .refl _, .refl _, .refl _, .refl _, .refl _, .refl _, .refl _, .refl _, trivial⟩, fun k o h => h⟩
           refine ⟨fun y f hI => ?_, ?_⟩
           ·obtain ⟨f, rfl⟩ := off f 28 (hI.no 28 25 rfl rfl)
            conv => whnf
            refine ⟨trivial, .inl ?_⟩
            conv => whnf
            refine ⟨encSp s, fun _ => hse, ?_⟩
            conv => whnf
            exact ⟨y, ⟨.refl _, .refl _, .refl _, .refl _, .refl _, .refl _, .refl _, .refl _, .refl _, .refl _, .refl _, .refl _, .refl _, .refl _, .refl _, .refl _, .refl _, .refl _, .refl _, .refl _, .refl _, .refl _, .refl _, .refl _, .refl _, .refl _, .refl _, .refl _, .refl _, .refl _, .refl _, .refl _, .refl _, .refl _, .refl _, .refl _, trivial⟩, fun k o h => h⟩
           refine ⟨fun y f hI => ?_, ?_⟩
           ·obtain ⟨f, rfl⟩ := off f 28 (hI.no 28 26 rfl rfl)
            conv => whnf
            refine ⟨trivial, .inl ?_⟩
            conv => whnf
            exact ⟨y, ⟨.refl _, .refl _, .refl _, .refl _, .refl _, .refl _, .refl _, .refl _, .refl _, .refl _, .refl _, .refl _, .refl _, .refl _, .refl _, .refl _, .refl _, .refl _, .refl _, .refl _, .refl _, .refl _, .refl _, .refl _, .refl _, .refl _, .refl _, .refl _, .refl _, .refl _, .refl _, .refl _, .refl _, .refl _, .refl _, .refl _, trivial⟩, fun k o h => h⟩
           refine ⟨fun y f hI => ?_, ?_⟩
           ·obtain ⟨f, rfl⟩ := off f 28 (hI.no 28 27 rfl rfl)
            conv => whnf
            refine ⟨trivial, .inl ?_⟩
            conv => whnf
            intro nb
            conv => whnf
            exact ⟨nb, ⟨.refl _, .refl _, .refl _, .refl _, .refl _, .refl _, .refl _, .refl _, .refl _, .refl _, .refl _, .refl _, .refl _, .refl _, .refl _, .refl _, .refl _, .refl _, .refl _, .refl _, .refl _, .refl _, .refl _, .refl _, .refl _, .refl _, .refl _, .refl _, .refl _, .refl _, .refl _, .refl _, .refl _, .refl _, .refl _, .refl _, trivial⟩, SubHF.of (hs := [(400, .own w (((List.range k).flatMap (blockR sh rn T) ++ (preR sh rn k ++ ((T.take t).filter fun x => ixS sh x.fi == k).map (XS.entV sh))).map encEnt).length 7 68), (21, .box nb [.str [], .str [], .int .i64 0, .int .i64 0, .bool false, .bool false, .bool false])]) ⟨rfl, rfl, trivial⟩⟩
           refine ⟨fun y f hI => ?_, ?_⟩
           ·conv => whnf
            refine ⟨trivial, .inl ?_⟩
            conv => whnf
            refine ⟨rfl, ?_⟩
            conv => whnf
            exact ⟨y, ⟨.refl _, .refl _, .refl _, .refl _, .refl _, .refl _, .refl _, .refl _, .refl _, .refl _, .refl _, .refl _, .refl _, .refl _, .refl _, .refl _, .refl _, .refl _, .refl _, .refl _, .refl _, .refl _, .refl _, .refl _, .refl _, .refl _, .refl _, .refl _, .refl _, .refl _, .refl _, .refl _, .refl _, .refl _, .refl _, .refl _, trivial⟩, SubHF.of (hs := [(400, .own w (((List.range k).flatMap (blockR sh rn T) ++ (preR sh rn k ++ ((T.take t).filter fun x => ixS sh x.fi == k).map (XS.entV sh))).map encEnt).length 7 68), (21, .box y [.str s.path, .str s.id, .int .i64 (k : Int), .int .i64 (idxN sh s), .bool (!s.iso), .bool s.rock, .bool false])]) ⟨rfl, rfl, trivial⟩⟩
           exact trivial
          ·intro y f hf
           conv => whnf
           refine Tri.forgetG [(7, .sl .none 19 (L.map encSp)), (9, .sl .none 1 (L.map mvD)), (10, .bool (decide (sh ≠ 0))), (12, .sl .none 1 (L.map (idxD sh))), (13, .sl .none 6 ((dirsP rn T).map encDir)), (17, .sl (.own 400 w) 7 (((List.range k).flatMap (blockR sh rn T) ++ (preR sh rn k ++ ((T.take t).filter fun x => ixS sh x.fi == k).map (XS.entV sh))).map encEnt)), (18, .int .i64 (k : Int)), (20, .int .i64 ((t + 1 : Nat) : Int)), (21, .box 21 y 0)] (look [(400, .own w (((List.range k).flatMap (blockR sh rn T) ++ (preR sh rn k ++ ((T.take t).filter fun x => ixS sh x.fi == k).map (XS.entV sh))).map encEnt).length 7 68), (21, .box y [.str s.path, .str s.id, .int .i64 (k : Int), .int .i64 (idxN sh s), .bool (!s.iso), .bool s.rock, .bool false])]) (.same ⟨.refl _, .refl _, .refl _, .refl _, .refl _, .refl _, .refl _, .refl _, ?_, trivial⟩ (SubHF.of ⟨rfl, ?_, trivial⟩)) ?_
           ·show DLe (bif f 27 then _ else _) _
            rw [hf 27 (by decide +kernel)]; exact .refl _
           ·show look (([(400, _)] : List (Nat × HObj)) ++ (bif f 27 then _ else _)) 21 = _
            rw [hf 27 (by decide +kernel), hf 28 (by decide +kernel)]; rfl
           refine Tri.seq ?_
           refine Tri.seq ?_
           refine Tri.region ti2_ok ?_
           conv => whnf
           refine ⟨fun _ => by simp; omega, ?_⟩
           conv => whnf
           refine ⟨mvD s, fun _ => hsm, ?_⟩
           conv => whnf
           refine Tri.cond _ rfl (fun hc => ?_) (fun hc => ?_)
           ·have hmv : s.mv = true := hc
            have hev : encEnt (s.entV sh) = .agg [.str s.path, .str s.file, .int .i64 (k : Int), .int .i64 (-1), .bool (!s.iso), .bool s.rock, .bool true] := by
             rw [encEnt, XS.entV, hmv, ← hkf]; simp
            have hon := recs_next sh rn T k hT hkf
            rw [hev] at hon
            refine Tri.region ti2_ok ?_
            conv => whnf
            refine ⟨fun _ => by simp; omega, ?_⟩
            conv => whnf
            refine ⟨encSp s, fun _ => hse, ?_⟩
            conv => whnf
            refine ⟨rfl, ?_⟩
            conv => whnf
            refine ⟨rfl, ?_⟩
            conv => whnf
            refine ⟨rfl, ?_⟩
            conv => whnf
            refine Tri.region ti2_ok ?_
            conv => whnf
            refine ⟨rfl, ?_⟩
            conv => whnf
            refine ⟨trivial, ?_⟩
            conv => whnf
            refine ⟨rfl, rfl, ?_⟩
            conv => whnf
            refine ⟨by show (_ + _) * 56 ≤ _; rw [List.length_map]; simp only [List.map_cons, List.map_nil, List.length_cons, List.length_nil]; omega, by show _ + _ ≤ _; rw [List.length_map]; simp only [List.map_cons, List.map_nil, List.length_cons, List.length_nil]; omega, (fun h => by cases h), fun v2 => ?_⟩
            conv => whnf
            refine Tri.region ti2_ok ?_
            conv => whnf
            refine .inl ⟨fun _ => by simp [InR]; omega, ?_⟩
            conv => whnf
            exact ⟨(⟨t + 1, hta⟩, v2), [(400, 231)], by show _ - (t + 1) < _ - t; omega, ⟨.refl _, .refl _, .refl _, .refl _, .refl _, DLe.trans (DLe.of_eq (congrArg (D.sl (.own 231 v2) 7) hon)) (DLe.own _ _), .refl _, .refl _, trivial⟩, rfl, rfl, congrArg (fun z : Nat => some (HObj.own v2 z 7 68)) (by rw [← hon, List.length_append]; rfl), trivial⟩
           ·have hmv : s.mv = false := hc
            have hev : encEnt (s.entV sh) = .agg [.str s.path, .str s.id, .int .i64 (k : Int), .int .i64 (idxN sh s), .bool (!s.iso), .bool s.rock, .bool false] := by
             rw [encEnt, XS.entV, hmv, ← hkf, idxN]; simp
            have hon := recs_next sh rn T k hT hkf
            rw [hev] at hon
            refine Tri.skip ?_
            conv => whnf
            refine Tri.region ti2_ok ?_
            conv => whnf
            refine ⟨rfl, ?_⟩
            conv => whnf
            refine ⟨trivial, ?_⟩
            conv => whnf
            refine ⟨rfl, rfl, ?_⟩
            conv => whnf
            refine ⟨by show (_ + _) * 56 ≤ _; rw [List.length_map]; simp only [List.map_cons, List.map_nil, List.length_cons, List.length_nil]; omega, by show _ + _ ≤ _; rw [List.length_map]; simp only [List.map_cons, List.map_nil, List.length_cons, List.length_nil]; omega, (fun h => by cases h), fun v2 => ?_⟩
            conv => whnf
            refine Tri.region ti2_ok ?_
            conv => whnf
            refine .inl ⟨fun _ => by simp [InR]; omega, ?_⟩
            conv => whnf
            exact ⟨(⟨t + 1, hta⟩, v2), [(400, 231)], by show _ - (t + 1) < _ - t; omega, ⟨.refl _, .refl _, .refl _, .refl _, .refl _, DLe.trans (DLe.of_eq (congrArg (D.sl (.own 231 v2) 7) hon)) (DLe.own _ _), .refl _, .refl _, trivial⟩, rfl, rfl, congrArg (fun z : Nat => some (HObj.own v2 z 7 68)) (by rw [← hon, List.length_append]; rfl), trivial⟩
        ·refine Tri.exit ?_
         conv => whnf
         have htn : t = T.length := by
          have h1 := of_decide_eq_false hc
          rw [List.length_map] at h1; omega
         subst htn
         rw [List.take_length, ← hblk, ← hnext]
         refine Tri.region ti2_ok ?_
         conv => whnf
         refine .inl ⟨fun _ => by simp [InR]; omega, ?_⟩
         conv => whnf
         exact ⟨(⟨k + 1, hka⟩, w), [(400, 400)], by show _ - (k + 1) < _ - k; omega, ⟨.refl _, .refl _, .refl _, .refl _, .refl _, .refl _, .refl _, trivial⟩, rfl, rfl, rfl, trivial⟩
     ·refine Tri.exit ?_
      conv => whnf
      have hkn : k = (dirsP rn T).length := by simp at hc; omega
      have hents : (List.range k).flatMap (blockR sh rn T) = entsP rn T := by rw [hkn, hdlen, ← hsh]; exact ents_blocks rn hfis
      rw [hents]
      refine Tri.seq ?_
      refine Tri.region ti2_ok ?_
      conv => whnf
      refine Tri.ret ?_
      conv => whnf
      exact ⟨.refl _, DLe.unown, .refl _, trivial⟩
end Go.Tame.V
/- What the program's walk keeps: folders, their records, the relocated ones. Plain, with kept objects. -/
namespace Go.Tame.V
open Go Go.Proofs
set_option maxRecDepth 10000
set_option linter.unusedVariables false
set_option linter.unusedSimpArgs false

/-- A directory, as the walk lists it. -/
def fdC (s : XS) : List D := [.str s.path, .str (if s.si = 0 then [0] else if s.mv then 68 :: Lib.decDigits s.mno else s.id), .int .i64 s.lev, .int .i64 (if s.mv then -1 else (s.fi : Int)), .int .i64 (s.fi : Int), .bool s.mv]
/-- A record, as the walk lists it. -/
def recC (s : XS) : List D := [.str s.path, .str (if s.mv then s.file else s.id), .int .i64 0, .int .i64 (-1), .bool (!s.iso), .bool s.rock, .bool s.mv, .int .i64 (if s.isDir then (s.di : Int) else -1)]
def recD (s : XS) : D := .agg (recC s)
/-- The nodes with records in the i-th folder. -/
def inF (l : List XS) (i : Nat) : List XS := (l.drop 1).filter fun x => x.fi == i
def recsD (l : List XS) (i : Nat) : List D := (inF l i).map recD
def folD (vs : Nat → Value) (lr : List XS) (i : Nat) (s : XS) : D := .agg (fdC s ++ [.sl (.own 0 (vs i)) 8 (recsD lr i)])
/-- The folders of the nodes `ld`, with the records of the nodes `lr`. -/
def folsG (vs : Nat → Value) (ld lr : List XS) : List D := (dirsX ld).mapIdx fun i s => folD vs lr i s
def movD (l : List XS) : List D := (movX l).map fun s => D.int .i64 (s.di : Int)
/-- The folders' own slices of records. -/
def dynG (vs : Nat → Value) (ld lr : List XS) : Heap := fun k => if 300 ≤ k ∧ k < 300 + (dirsX ld).length then some (.own (vs (k - 300)) (recsD lr (k - 300)).length 8 117) else none
def walkFn (bf bm bw : Nat) : D := .fn (.func 89) [] [.box 200 bf 0, .box 201 bm 0, .box 202 bw 0]
def statG (bf bm bw : Nat) (fv mv : Value) (fs ms : List D) : List (Nat × HObj) :=
 [(200, .box bf [.raw fv]), (201, .box bm [.sl (.own 204 mv) 1 ms]), (202, .box bw [walkFn bf bm bw]), (203, .row fv fs 7 113), (204, .own mv ms.length 1 3)]
def walkH (bf bm bw : Nat) (fv mv : Value) (vs : Nat → Value) (ld lr : List XS) : Heap := withL (statG bf bm bw fv mv (folsG vs ld lr) (movD ld)) (dynG vs ld lr)

theorem folsG_len (vs : Nat → Value) (ld lr : List XS) : (folsG vs ld lr).length = (dirsX ld).length := by simp [folsG]
theorem folsG_get {vs : Nat → Value} {ld lr : List XS} {i : Nat} {s : XS} (h : (dirsX ld)[i]? = some s) : (folsG vs ld lr)[i]? = some (folD vs lr i s) := by
 rw [folsG, List.getElem?_mapIdx, h]; rfl
theorem dyn_at {vs : Nat → Value} {ld lr : List XS} {i : Nat} (h : i < (dirsX ld).length) : dynG vs ld lr (i + 300) = some (.own (vs i) (recsD lr i).length 8 117) := by
 rw [dynG, if_pos (by omega), Nat.add_sub_cancel]
theorem dyn_inv {vs : Nat → Value} {ld lr : List XS} {k : Nat} {o : HObj} (h : dynG vs ld lr k = some o) : ∃ i, k = i + 300 ∧ i < (dirsX ld).length ∧ o = .own (vs i) (recsD lr i).length 8 117 := by
 unfold dynG at h
 split at h
 ·rename_i h1
  refine ⟨k - 300, by omega, by omega, ?_⟩
  exact (Option.some.inj h).symm
 ·cases h
theorem stat_none {bf bm bw : Nat} {fv mv : Value} {fs ms : List D} {k : Nat} (h : k < 200 ∨ 300 ≤ k) : look (statG bf bm bw fv mv fs ms) k = none := by
 refine look_none fun p hp => ?_
 simp only [statG, List.mem_cons, List.mem_nil_iff, or_false] at hp
 rcases hp with rfl | rfl | rfl | rfl | rfl <;> simp <;> omega
theorem walk_low {bf bm bw : Nat} {fv mv : Value} {vs : Nat → Value} {ld lr : List XS} {k : Nat} (h : k < 200) : walkH bf bm bw fv mv vs ld lr k = none := by
 rw [walkH, withL_none (stat_none (.inl h)), dynG, if_neg (by omega)]
/-- A new folder. -/
def vsNew (vs : Nat → Value) (i : Nat) (v : Value) : Nat → Value := fun j => if j = i then v else vs j
theorem vsNew_at (vs : Nat → Value) (i : Nat) (v : Value) : vsNew vs i v i = v := if_pos rfl
theorem vsNew_ne {vs : Nat → Value} {i j : Nat} {v : Value} (h : j ≠ i) : vsNew vs i v j = vs j := if_neg h
theorem dirsX_snoc {l : List XS} {s : XS} (h : s.isDir = true) : dirsX (l ++ [s]) = dirsX l ++ [s] := by rw [dirsX, List.filter_append]; simp [dirsX, h]
theorem dirsX_file {l : List XS} {s : XS} (h : s.isDir = false) : dirsX (l ++ [s]) = dirsX l := by rw [dirsX, List.filter_append]; simp [dirsX, h]
theorem movX_snoc {l : List XS} {s : XS} (h : s.mv = true) : movX (l ++ [s]) = movX l ++ [s] := by rw [movX, List.filter_append]; simp [movX, h]
theorem movX_stay {l : List XS} {s : XS} (h : s.mv = false) : movX (l ++ [s]) = movX l := by rw [movX, List.filter_append]; simp [movX, h]
theorem inF_none {l : List XS} {i : Nat} (h : ∀ x ∈ l, x.fi < i) : recsD l i = [] := by
 rw [recsD, inF, List.filter_eq_nil_iff.2]
 ·rfl
 ·intro x hx
  have := h x (List.mem_of_mem_drop hx)
  simp; omega
theorem recs_add {l : List XS} {s : XS} (h0 : 0 < l.length) (i : Nat) : recsD (l ++ [s]) i = if s.fi = i then recsD l i ++ [recD s] else recsD l i := by
 rw [recsD, recsD, inF, inF, List.drop_append_of_le_length (by omega), List.filter_append]
 by_cases h : s.fi = i <;> simp [h]
theorem fols_new {vs : Nat → Value} {l lr : List XS} {s : XS} {v : Value} (h : s.isDir = true) (hr : recsD lr (dirsX l).length = []) :
  folsG vs l lr ++ [.agg (fdC s ++ [.sl (.own 0 v) 8 []])] = folsG (vsNew vs (dirsX l).length v) (l ++ [s]) lr := by
 apply List.ext_getElem?
 intro i
 rcases Nat.lt_or_ge i (dirsX l).length with hi | hi
 ·rw [List.getElem?_append_left (by rw [folsG_len]; exact hi), folsG, folsG, List.getElem?_mapIdx, List.getElem?_mapIdx, dirsX_snoc h, List.getElem?_append_left hi, List.getElem?_eq_getElem hi]
  simp only [Option.map_some, folD, vsNew_ne (show i ≠ (dirsX l).length by omega)]
 ·rcases Nat.lt_or_ge (dirsX l).length i with hg | hg
  ·rw [List.getElem?_eq_none (by simp [folsG_len]; omega), List.getElem?_eq_none (by rw [folsG_len, dirsX_snoc h]; simp; omega)]
  ·have : i = (dirsX l).length := by omega
   subst this
   have e : (folsG vs l lr).length = (dirsX l).length := folsG_len _ _ _
   rw [List.getElem?_append_right (by omega), e, Nat.sub_self, folsG_get (s := s) (by rw [dirsX_snoc h, List.getElem?_concat_length])]
   simp only [List.getElem?_cons_zero, folD, vsNew_at, hr]
theorem flat_app (a b : List D) : flat (a ++ b) = flat a ++ flat b := by simp [flat]
theorem folsG_cells {vs : Nat → Value} {ld lr : List XS} : ∀ y ∈ folsG vs ld lr, y.cells.length = 7 := fun y hy => by
 obtain ⟨i, hi⟩ := List.mem_iff_getElem?.1 hy
 rw [folsG, List.getElem?_mapIdx] at hi
 cases h : (dirsX ld)[i]? with
 | none => rw [h] at hi; cases hi
 | some s => rw [h] at hi; cases hi; rfl
/-- A directory's place among the folders. -/
theorem Built.folder {rr : Bool} {n : NV} {l : List XS} (hb : Built rr n l) {s : XS} (hs : l[s.si]? = some s) (hd : s.isDir = true) : (dirsX l)[s.di]? = some s ∧ s.di < (dirsX l).length := by
 obtain ⟨j, hj⟩ := List.mem_iff_getElem?.1 (List.mem_filter.2 ⟨List.mem_of_getElem? hs, hd⟩ : s ∈ dirsX l)
 have := hb.dis j s hj
 subst this
 refine ⟨hj, ?_⟩
 rcases Nat.lt_or_ge s.di (dirsX l).length with h | h
 ·exact h
 ·exact absurd ((List.getElem?_eq_none h).symm.trans hj) (by simp)
theorem Built.lv {rr : Bool} {n : NV} {l : List XS} (hb : Built rr n l) : ∀ (i : Nat) (s : XS), l[i]? = some s → 1 ≤ s.lv ∧ (i = 0 → s.lv = 1) ∧ (0 < i → 2 ≤ s.lv) ∧ (0 < i → s.isDir = true → 0 < s.di) := by
 intro i
 induction i using Nat.strongRecOn with
 | _ i ih =>
  intro s hs
  rcases Nat.eq_zero_or_pos i with rfl | hi
  ·rw [hb.root0.1] at hs; cases hs
   exact ⟨Int.le_refl _, fun _ => rfl, fun h => by omega, fun h => by omega⟩
  ·obtain ⟨p, hst⟩ := hb.at hi hs
   have hlt := hst.ab
   rw [List.length_take] at hlt
   have hp : l[s.ab]? = some p := by
    have := hst.par
    rwa [List.getElem?_take, if_pos (by omega)] at this
   obtain ⟨h1, _, _, _⟩ := ih s.ab (by omega) p hp
   have hl := hst.lv
   refine ⟨by omega, fun h => by omega, fun _ => by omega, fun _ hd => ?_⟩
   rw [hst.di]
   have h0 := hb.root0.1
   have hk := hb.kind
   have : rootX rr n ∈ l.take i := by
    have := List.mem_of_getElem? (l := l.take i) (i := 0) (a := rootX rr n) (by rw [List.getElem?_take, if_pos hi]; exact h0)
    exact this
   exact List.length_pos_of_mem (List.mem_filter.2 ⟨this, by rw [XS.isDir, rootX, hk]; rfl⟩)
/-- Each node's folder stands. -/
theorem Built.fi_lt {rr : Bool} {n : NV} {l : List XS} (hb : Built rr n l) : ∀ x ∈ l, x.fi < (dirsX l).length := fun x hx => by
 obtain ⟨i, hi⟩ := List.mem_iff_getElem?.1 hx
 rcases Nat.eq_zero_or_pos i with rfl | h0
 ·rw [hb.root0.1] at hi
  cases hi
  have := hb.kind
  exact List.length_pos_of_mem (List.mem_filter.2 ⟨List.mem_of_getElem? hb.root0.1, by rw [XS.isDir, rootX, this]; rfl⟩)
 ·obtain ⟨p, hst⟩ := hb.at h0 hi
  have hlt := hst.ab
  rw [List.length_take] at hlt
  have hp : l[x.ab]? = some p := by
   have := hst.par
   rwa [List.getElem?_take, if_pos (by omega)] at this
  rw [hst.fi]
  have hps := hb.si hp
  exact (hb.folder (by rw [hps]; exact hp) hst.dir).2
end Go.Tame.V
