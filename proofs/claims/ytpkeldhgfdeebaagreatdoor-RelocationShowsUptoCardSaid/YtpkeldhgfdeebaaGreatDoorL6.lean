/- A program logic of my own over the model, and contracts of this program's functions by it: part 6. No conditions of its own: each theorem states its own. -/
import Derived.Test.YtpkeldhgfdeebaaGreatDoorL5
set_option linter.unnecessarySimpa false
set_option linter.unusedSimpArgs false
set_option linter.unusedVariables false
/- Readings of further arguments: lists of nodes. -/
namespace Go.Tame.V
open Go Go.Proofs Go.RowKit Go.ChangeShapes Go.Deep Go.WideShapes
open YtpkeldhgfdeebaaGreatDoor (Rows.uptoBulk Rows.uptoBulkAll)
set_option maxRecDepth 100000
variable {H : Type} {enc0 : TypeId × Value → H} {W : World}
end Go.Tame.V
/- Laws: NamingViews,NamingPaths. By program (mk.py). -/
namespace Go.Tame.V
open Go Go.Proofs
variable {W0 : World}
set_option maxRecDepth 10000
set_option linter.unusedVariables false
set_option linter.unusedSimpArgs false

theorem few_up {n : NV} (h : few1 n 20000 = true) : few1 n 100000 = true:=by
 simp only [few1,Bool.and_eq_true,decide_eq_true_eq] at h ⊢
 omega
theorem few_sz2 {n : NV} (h : few1 n 20000 = true) : sz n ≤ 40000:=by
 have:=few_sz h; omega
end Go.Tame.V
/- Law: NamingAgain. By program (mk.py). -/
namespace Go.Tame.V
open Go Go.Proofs
variable {W0 : World}
set_option maxRecDepth 10000
set_option linter.unusedVariables false
set_option linter.unusedSimpArgs false

end Go.Tame.V
/- Paths there and back: the plain law of NamingInverse. Plain. -/
namespace Go.Tame.V
open Go Go.Proofs
set_option maxRecDepth 10000
set_option linter.unusedVariables false
set_option linter.unusedSimpArgs false

section
variable (nm : List NV → List (List UInt8)) (v : Int)
end
end Go.Tame.V
/- Law: NamingInverse. By program (mk.py). -/
namespace Go.Tame.V
open Go Go.Proofs
variable {W0 : World}
set_option maxRecDepth 10000
set_option linter.unusedVariables false
set_option linter.unusedSimpArgs false

end Go.Tame.V
/- Contracts: Clone and Delete with rows that may be written. By program (mkn16.py,mk.py). -/
namespace Go.Tame.V
open Go Go.Proofs
variable {W0 : World}
set_option maxRecDepth 10000
set_option linter.unusedVariables false
set_option linter.unusedSimpArgs false

theorem addr_add (b n : Nat) : ((⟨b,0,none⟩ : Addr).add n) = ⟨b,n,none⟩:=by
 cases n with
 | zero => rfl
 | succ n => simp [Addr.add]

end Go.Tame.V
/- The names without the greatest one: the plain law of NamingStable. Plain. -/
namespace Go.Tame.V
open Go Go.Proofs
set_option maxRecDepth 10000
set_option linter.unusedVariables false
set_option linter.unusedSimpArgs false

end Go.Tame.V
/- Law: NamingStable. By program (mk.py). -/
namespace Go.Tame.V
open Go Go.Proofs
variable {W0 : World}
set_option maxRecDepth 10000
set_option linter.unusedVariables false
set_option linter.unusedSimpArgs false

theorem DCall.fresh {f : FuncId} {ds : List D} {Q : D → Heap → Prop} {H : Heap} {k s : Nat} (h : H s = none) (hc : DCall Tryz.prog W0 f ds Heap.none Q) : DCall Tryz.prog W0 f ds (handed H [(k,s)]) Q:=by
 have e : handed H [(k,s)] = Heap.none:=by
  funext j
  simp only [handed,Heap.none]
  cases Nat.beq j k with
  | true => exact h
  | false => rfl
 rw [e]; exact hc
theorem DCall.heap {f : FuncId} {ds : List D} {Q : D → Heap → Prop} {H : Heap} {k s : Nat} {o : HObj} (h : H s = some o) (hc : DCall Tryz.prog W0 f ds (look [(k,o)]) Q) : DCall Tryz.prog W0 f ds (handed H [(k,s)]) Q:=by
 have e : handed H [(k,s)] = look [(k,o)]:=by
  funext j
  simp only [handed,look]
  cases Nat.beq j k with
  | true => exact h
  | false => rfl
 rw [e]; exact hc

end Go.Tame.V
/- Names of a directory: different,valid,the same in any order; identifiers stand for them: the plain law of NamingUnique. Plain. -/
namespace Go.Tame.V
open Go Go.Proofs
set_option maxRecDepth 10000
set_option linter.unusedVariables false
set_option linter.unusedSimpArgs false

theorem iso_d {r : Int} (h : isChar r = true) (e : isoC r = r) : 0 ≤ r ∧ r < 128 ∧ dB r = true:=by
 unfold isoC at e
 split at e
 ·omega
 ·split at e
  ·rename_i h1
   simp [isChar] at h
   exact ⟨by omega,h1.1,h1.2⟩
  ·subst e; decide
theorem iso_bytes : ∀ {a : List Int},(∀ r ∈ a,isChar r = true ∧ isoC r = r) → runesB a = a.map fun r => UInt8.ofNat r.toNat
 | [],_ => by simp [runesB]
 | r::l,h => by
  obtain ⟨h1,h2⟩:=h r List.mem_cons_self
  obtain ⟨h3,h4,_⟩:=iso_d h1 h2
  rw [runesB_cons,enc_ascii r h3 h4,iso_bytes fun x hx => h x (List.mem_cons_of_mem _ hx)]; rfl
theorem iso_isDB {a : List Int} (h : ∀ r ∈ a,isChar r = true ∧ isoC r = r) {m : Nat} (h1 : 1 ≤ a.length) (h2 : a.length ≤ m) (hm : m ≤ 64) : isDB (runesB a) m = true:=by
 rw [iso_bytes h,isDB,dStr]
 simp only [List.length_map,List.all_map,Bool.and_eq_true,decide_eq_true_eq,List.all_eq_true,Function.comp]
 refine ⟨by omega,by omega,by omega,fun r hr => ?_⟩
 obtain ⟨h3,h4,h5⟩:=iso_d (h r hr).1 (h r hr).2
 rw [dU]
 have : ((UInt8.ofNat r.toNat).toNat : Int) = r:=by simp; omega
 rw [this]; exact h5
theorem iso_no {a : List Int} (h : ∀ r ∈ a,isChar r = true ∧ isoC r = r) {c : UInt8} (hc : dU c = false) : c ∉ runesB a:=by
 rw [iso_bytes h]
 intro hm
 obtain ⟨r,hr,e⟩:=List.mem_map.1 hm
 obtain ⟨h3,h4,h5⟩:=iso_d (h r hr).1 (h r hr).2
 rw [← e,dU] at hc
 have : ((UInt8.ofNat r.toNat).toNat : Int) = r:=by simp; omega
 rw [this,h5] at hc; cases hc

theorem occ_one (s : List UInt8) (c : UInt8) (j : Nat) : Lib.occAt s [c] j = (s[j]? == some c):=by
 unfold Lib.occAt
 induction s generalizing j with
 | nil => simp
 | cons b l ih =>
  cases j with
  | zero => simp; exact Bool.eq_iff_iff.2 ⟨fun h => by simp at h ⊢; exact h.symm,fun h => by simp at h ⊢; exact h.symm⟩
  | succ j => simpa using ih j
theorem index_dot {A B : List UInt8} (h : (46 : UInt8) ∉ A) : Lib.index (A ++ 46::B) [46] = A.length:=by
 refine Lib.index_first (by simp) ?_ fun j hj => ?_
 ·rw [occ_one]; simp
 ·rw [occ_one,List.getElem?_append_left hj,List.getElem?_eq_getElem hj]
  simp only [beq_eq_false_iff_ne,ne_eq,Option.some.injEq]
  intro e; exact h (e ▸ List.getElem_mem hj)
theorem index_nodot {A : List UInt8} (h : (46 : UInt8) ∉ A) : Lib.index A [46] = -1:=by
 refine Lib.index_none fun j hj => ?_
 rw [occ_one]
 rcases Nat.lt_or_ge j A.length with hl | hl
 ·rw [List.getElem?_eq_getElem hl]
  simp only [beq_eq_false_iff_ne,ne_eq,Option.some.injEq]
  intro e; exact h (e ▸ List.getElem_mem hl)
 ·rw [List.getElem?_eq_none hl]; rfl
theorem cut_dot {A B : List UInt8} (h : (46 : UInt8) ∉ A) : Lib.cut (A ++ 46::B) [46] = (A,B,true):=by
 rw [Lib.cut,index_dot h,if_pos (by omega)]
 simp
theorem cut_nodot {A : List UInt8} (h : (46 : UInt8) ∉ A) : Lib.cut A [46] = (A,[],false):=by
 rw [Lib.cut,index_nodot h,if_neg (by decide)]
theorem byte_mem (c : UInt8) : ∀ s : List UInt8,0 ≤ Lib.indexByte s c ↔ c ∈ s
 | [] => by simp [Lib.indexByte]
 | b::l => by
  have ih:=byte_mem c l
  have hg:=Lib.indexByte_ge l c
  unfold Lib.indexByte
  split
  ·rename_i h
   have : b = c:=by simpa using h
   subst this; simp
  ·rename_i h
   have hne : ¬ c = b:=fun e => h (by rw [e]; simp)
   split
   ·rename_i h1
    have h1' : Lib.indexByte l c = -1:=by simpa using h1
    rw [h1'] at ih
    simp only [List.mem_cons,hne,false_or,← ih]
   ·rename_i h1
    have h1' : ¬ Lib.indexByte l c = -1:=by simpa using h1
    simp only [List.mem_cons,hne,false_or,← ih]
    omega
theorem hasDot_iff (s : List UInt8) : hasDot s = decide ((46 : UInt8) ∈ s):=by
 rw [hasDot]
 exact decide_eq_decide.2 (byte_mem 46 s)
/-- A name of the ISO view: valid,with an identifier that stands for it. -/
structure IsoName (m : List UInt8) (dir : Bool) : Prop where
 valid : validI m dir = true
 back : (identI m dir).2 = 0 ∧ nameI (identI m dir).1 dir = (m,0)
theorem suf_append (a b : List UInt8) : Lib.hasSuffix (a ++ b) b = true:=by
 rw [Lib.hasSuffix,List.isSuffixOf_iff_suffix]; exact ⟨a,rfl⟩
theorem cutSuf_append (a b : List UInt8) : cutSuf (a ++ b) b = (a,true):=by
 rw [cutSuf,if_pos (suf_append a b)]
 simp
theorem isoName_of {m A B : List UInt8} {dir : Bool} (hA : isDB A 8 = true) (h46 : (46 : UInt8) ∉ A) (h46' : (46 : UInt8) ∉ B) (h : (B = [] ∧ m = A) ∨ (B ≠ [] ∧ dir = false ∧ isDB B 3 = true ∧ m = A ++ 46::B)) : IsoName m dir:=by
 have hv : validI m dir = true:=by
  rcases h with ⟨_,rfl⟩ | ⟨_,rfl,h3,rfl⟩
  ·rw [validI,cut_nodot h46]; simpa using hA
  ·rw [validI,cut_dot h46]; simp [hA,h3]
 refine ⟨hv,?_⟩
 cases dir with
 | true =>
  have e : identI m true = (m,0):=by rw [identI,if_pos hv,if_pos rfl]
  refine ⟨by rw [e],?_⟩
  rw [e,nameI,if_pos rfl,chkI,e,if_pos ⟨rfl,rfl⟩]
 | false =>
  rcases h with ⟨hB,rfl⟩ | ⟨hB,_,h3,hm⟩
  ·have hd : hasDot m = false:=by rw [hasDot_iff]; simpa using h46
   have e : identI m false = (m ++ [46,59,49],0):=by rw [identI,if_pos hv,if_neg (by decide),if_neg (by rw [hd]; decide)]
   refine ⟨by rw [e],?_⟩
   have e1 : m ++ [46,59,49] = (m ++ [46]) ++ [59,49]:=by simp
   have e2 : Lib.trimSuffix (m ++ [46]) [46] = m:=by rw [Lib.trimSuffix,if_pos (suf_append _ _)]; simp
   have e3 : cutSuf (m ++ [46,59,49]) [59,49] = (m ++ [46],true):=by rw [e1]; exact cutSuf_append _ _
   rw [e,nameI,if_neg (by decide),e3,if_pos rfl,e2,chkI,e,if_pos ⟨rfl,rfl⟩]
  ·have hd : hasDot m = true:=by rw [hasDot_iff,hm]; simp
   have e : identI m false = (m ++ [59,49],0):=by rw [identI,if_pos hv,if_neg (by decide),if_pos hd]
   refine ⟨by rw [e],?_⟩
   have e3:=cutSuf_append m [59,49]
   have e2 : Lib.trimSuffix m [46] = m:=by
    rw [Lib.trimSuffix,if_neg]
    intro hs
    rw [Lib.hasSuffix,List.isSuffixOf_iff_suffix] at hs
    obtain ⟨x,hx⟩:=hs
    have h1 : m.getLast? = some 46:=by rw [← hx]; simp
    rw [hm,List.getLast?_append,List.getLast?_cons] at h1
    obtain ⟨y,hy⟩:=List.exists_mem_of_ne_nil _ hB
    cases hl : B.getLast? with
    | none => rw [List.getLast?_eq_none_iff] at hl; exact hB hl
    | some z =>
     rw [hl] at h1
     simp at h1
     exact h46' (h1 ▸ List.mem_of_getLast? hl)
   rw [e,nameI,if_neg (by decide),e3,if_pos rfl,e2,chkI,e,if_pos ⟨rfl,rfl⟩]
theorem pick_numS {v : Int} (hv : v = 0 ∨ v = 1) (U : List (List UInt8)) (k : NV) (hU : U.length ≤ 64) : ∃ j,j < 100 ∧ pickG v U k = numS v (wantS v k.name (k.kind == 0)).1 (wantS v k.name (k.kind == 0)).2 j:=by
 exact ⟨freshK v U (wantS v k.name (k.kind == 0)).1 (wantS v k.name (k.kind == 0)).2,(fresh_ok v U _ _ hU).1,by rw [pickG,if_pos hv]; rfl⟩
end Go.Tame.V
/- Law: NamingUnique. By program (mkn18.py,mk.py). -/
namespace Go.Tame.V
open Go Go.Proofs
variable {W0 : World}
set_option maxRecDepth 10000
set_option linter.unusedVariables false
set_option linter.unusedSimpArgs false

end Go.Tame.V
/- The plans of directories and records: data and definitions. Plain. -/
namespace Go.Tame.V
open Go Go.Proofs
set_option maxRecDepth 10000
set_option linter.unusedVariables false
set_option linter.unusedSimpArgs false

/-- A directory of a plan. -/
structure DirV where
 path : List UInt8
 id : List UInt8
 level : Int
 parent : Int
 above : Int
 reloc : Bool
 deriving DecidableEq
instance : Inhabited DirV:=⟨⟨[],[],0,0,0,false⟩⟩
/-- A record of a plan. -/
structure EntV where
 path : List UInt8
 id : List UInt8
 inn : Int
 dir : Int
 hid : Bool
 att : Bool
 mov : Bool
 deriving DecidableEq
instance : Inhabited EntV:=⟨⟨[],[],0,0,false,false,false⟩⟩
def encDir (d : DirV) : D:=.agg [.str d.path,.str d.id,.int .i64 d.level,.int .i64 d.parent,.int .i64 d.above,.bool d.reloc]
def encEnt (e : EntV) : D:=.agg [.str e.path,.str e.id,.int .i64 e.inn,.int .i64 e.dir,.bool e.hid,.bool e.att,.bool e.mov]
/-- A node with a record: what the reference knows of it,and what both plans make of it. -/
structure XS where
 n : NV
 path : List UInt8
 id : List UInt8
 file : List UInt8
 iso : Bool
 rock : Bool
 lv : Int
 si : Nat
 ab : Nat
 fi : Nat
 di : Nat
 lev : Int
 mv : Bool
 mno : Nat
instance : Inhabited XS:=⟨⟨default,[],[],[],false,false,0,0,0,0,0,0,false,0⟩⟩
def XS.isDir (s : XS) : Bool:=s.n.kind == 0
/-- How many nodes,directories,relocated ones there were. -/
structure Cn where
 ns : Nat
 nf : Nat
 nm : Nat
def Cn.add (c : Cn) (s : XS) : Cn:=⟨c.ns + 1,if s.isDir then c.nf + 1 else c.nf,if s.mv then c.nm + 1 else c.nm⟩
def Cn.addL (c : Cn) (l : List XS) : Cn:=l.foldl Cn.add c
theorem Cn.addL_nil (c : Cn) : c.addL [] = c:=rfl
theorem Cn.addL_cons (c : Cn) (s : XS) (l : List XS) : c.addL (s::l) = (c.add s).addL l:=rfl
theorem Cn.addL_append (c : Cn) (a b : List XS) : c.addL (a ++ b) = (c.addL a).addL b:=by simp [Cn.addL]
/-- The node k,which has the name m in the ISO view,in the directory x. -/
def child (x : XS) (k : NV) (m : List UInt8) (c : Cn) : XS :=
 { n:=k,path:=below x.path k.name (x.lv + 1),id:=(identI m (k.kind == 0)).1,file:=(identI m false).1,iso:=x.iso && shown 0 k (x.lv + 1),rock:=x.rock && shown 2 k (x.lv + 1),lv:=x.lv + 1,si:=c.ns,ab:=x.si,fi:=x.di,di:=c.nf,lev:=if k.kind == 0 then (if x.lev + 1 = 9 then 3 else x.lev + 1) else 0,mv:=k.kind == 0 && x.lev + 1 == 9,mno:=c.nm + 1 }
def XS.any (s : XS) : Bool:=s.iso || s.rock
mutual
/-- The nodes with records below a node,in preorder. -/
def spT : NV → XS → Cn → List XS
 | .mk _ _ _ _ _ _ _ _ _ _ ks _,x,c => spL ks (namesG 0 ks) x c
def spL : List NV → List (List UInt8) → XS → Cn → List XS
 | k::r,m::ms,x,c => if (child x k m c).any then child x k m c::(spT k (child x k m c) (c.add (child x k m c)) ++ spL r ms x ((c.add (child x k m c)).addL (spT k (child x k m c) (c.add (child x k m c))))) else spL r ms x c
 | _,_,_,_ => []
end
theorem spT_eq (n : NV) (x : XS) (c : Cn) : spT n x c = spL n.kids (namesG 0 n.kids) x c:=by cases n; simp only [spT]
def rootX (rr : Bool) (n : NV) : XS:=⟨n,[],[],[],true,rr,1,0,0,0,0,1,false,0⟩
/-- All nodes with records; the root is the first. -/
def spots (rr : Bool) (n : NV) : List XS:=rootX rr n::spT n (rootX rr n) ⟨1,1,0⟩

/-- The name of the relocation directory,by its number. -/
def rrN (k : Nat) : List UInt8:=if k = 0 then [82,82,95,77,79,86,69,68] else [82,82,95,77,79,86] ++ Lib.decDigits k
theorem rrN_inj : ∀ j,j < 100 → ∀ k,k < 100 → rrN j = rrN k → j = k:=by decide +kernel
def rrK (U : List (List UInt8)) : Nat:=((List.range 100).find? fun k => decide (rrN k ∉ U)).getD 0
theorem rr_ok {U : List (List UInt8)} (hu : U.length ≤ 64) : rrK U < 100 ∧ rrN (rrK U) ∉ U ∧ ∀ j,j < rrK U → rrN j ∈ U:=by
 unfold rrK
 cases h : (List.range 100).find? fun k => decide (rrN k ∉ U) with
 | none =>
  exfalso
  rw [List.find?_eq_none] at h
  have hn : ((List.range 100).map rrN).Nodup:=by
   rw [List.nodup_iff_pairwise_ne,List.pairwise_map]
   refine List.Pairwise.imp_of_mem (R:=(· ≠ ·)) ?_ (List.nodup_iff_pairwise_ne.1 List.nodup_range)
   intro a b ha hb hab he
   simp only [List.mem_range] at ha hb
   exact hab (rrN_inj a ha b hb he)
  have hsub : (List.range 100).map rrN ⊆ U:=by
   intro x hx
   obtain ⟨i,hi,rfl⟩:=List.mem_map.1 hx
   have:=h i hi
   simpa using this
  have:=hn.length_le_of_subset hsub
  simp at this; omega
 | some k =>
  obtain ⟨h1,h2,h3⟩:=List.find?_range_eq_some.1 h
  simp only [Option.getD_some]
  exact ⟨by simpa using h2,by simpa using h1,fun j hj => by simpa using h3 j hj⟩

/-- The index in a plan of the directory that is the i-th without the relocation directory. -/
def ixS (s i : Nat) : Nat:=if i = 0 then 0 else i + s
def XS.dirV (s : Nat) (x : XS) : DirV:=⟨x.path,if x.mv then 68::Lib.decDigits x.mno else x.id,x.lev,if x.mv then 1 else (ixS s x.fi : Nat),(ixS s x.fi : Nat),x.mv⟩
def XS.entV (s : Nat) (x : XS) : EntV:=⟨x.path,if x.mv then x.file else x.id,(ixS s x.fi : Nat),if x.isDir && !x.mv then (ixS s x.di : Nat) else -1,!x.iso,x.rock,x.mv⟩
def XS.movV (s : Nat) (x : XS) : EntV:=⟨x.path,68::Lib.decDigits x.mno,1,(ixS s x.di : Nat),true,true,false⟩
def rootDir : DirV:=⟨[],[0],1,0,0,false⟩
/-- The nodes but the root; the directories among them; the relocated ones. -/
def dirsX (l : List XS) : List XS:=l.filter XS.isDir
def movX (l : List XS) : List XS:=l.filter XS.mv
def shiftX (l : List XS) : Nat:=if (movX l).length = 0 then 0 else 1
/-- The directories,out of all nodes but the root,and the identifier of the relocation directory. -/
def dirsP (rn : List UInt8) (l : List XS) : List DirV:=rootDir::((if shiftX l = 0 then [] else [⟨[47],rn,2,0,0,false⟩]) ++ (dirsX l).map (XS.dirV (shiftX l)))
/-- The records in the i-th directory of the source tree. -/
def recsAt (s : Nat) (l : List XS) (i : Nat) : List EntV:=(l.filter fun x => x.fi == i).map (XS.entV s)
def entsP (rn : List UInt8) (l : List XS) : List EntV :=
 (if shiftX l = 0 then [] else [⟨[47],rn,0,1,true,false,false⟩]) ++ recsAt (shiftX l) l 0 ++ (movX l).map (XS.movV (shiftX l)) ++ ((List.range (dirsX l).length).flatMap fun i => recsAt (shiftX l) l (i + 1))
/-- What Plan returns. -/
def planV (rr : Bool) (n : NV) : List DirV × List EntV × Int :=
 if valid n = true then (dirsP (rrN (rrK (namesG 0 n.kids))) (spT n (rootX rr n) ⟨1,1,0⟩),entsP (rrN (rrK (namesG 0 n.kids))) (spT n (rootX rr n) ⟨1,1,0⟩),0) else ([],[],1)
end Go.Tame.V
/- Contracts: identifiers the other way,the relocation directory's name,lists compared. By program (mk.py). -/
namespace Go.Tame.V
open Go Go.Proofs
variable {W0 : World}
set_option maxRecDepth 10000
set_option linter.unusedVariables false
set_option linter.unusedSimpArgs false

theorem G233 (s : List UInt8) (h : s.length ≤ 65536) : DFun Tryz.prog W0 233 [.str s] (.bool (s.all dU)):=by
 refine DFun.intro ti2_ok Tryz.func233 rfl (by decide +kernel) Tryz.ntmps233 rfl fun Γ => ?_
 refine Tri.seq ?_
 refine Tri.region ti2_ok ?_
 conv => whnf
 refine Tri.seq ?_
 refine Tri.seq ?_
 refine Tri.region ti2_ok ?_
 conv => whnf
 refine Tri.block ?_
 refine Tri.loop (α:={ i : Nat // i ≤ s.length ∧ ∀ j (hj : j < s.length),j < i → dU s[j] = true }) (fun x => [(0,.str s),(3,.int .i64 x.1)]) (fun _ => []) (fun x => s.length - x.1) ⟨0,by simp⟩ ⟨.refl _,.refl _,trivial⟩ trivial ?_
 rintro ⟨i,hi,hp⟩
 dsimp only
 refine Tri.seq ?_
 refine Tri.seq ?_
 refine Tri.region ti2_ok ?_
 conv => whnf
 refine ⟨fun h => h,?_⟩
 conv => whnf
 refine ⟨fun h0 h => by first | exact h | (rw [h]; rfl) | (rw [h0,h]; rfl),?_⟩
 conv => whnf
 refine Tri.cond _ rfl (fun hc => ?_) (fun hc => ?_)
 ·refine Tri.skip ?_
  conv => whnf
  have hia : i < s.length:=by
   rcases Nat.lt_or_ge i s.length with h | h
   ·exact h
   ·rw [show decide ((i : Int) < (s.length : Int)) = false from decide_eq_false (by omega)] at hc; cases hc
  refine Tri.seq ?_
  refine Tri.block ?_
  refine Tri.seq ?_
  refine Tri.region ti2_ok ?_
  conv => whnf
  refine ⟨s[i],fun _ => ⟨by omega,by simp [hia]⟩,?_⟩
  conv => whnf
  refine ⟨[.int .u8 s[i].toNat],_,fun _ => F179 s[i].toNat,⟨.refl _,trivial⟩,?_⟩
  conv => whnf
  refine Tri.cond _ rfl (fun hc => ?_) (fun hc => ?_)
  ·refine Tri.seq ?_
   refine Tri.region ti2_ok ?_
   conv => whnf
   refine Tri.ret ?_
   conv => whnf
   have : s.all dU = false:=by
    rw [List.all_eq_false]
    exact ⟨s[i],List.getElem_mem hia,by simpa [dU] using hc⟩
   rw [this]; exact .refl _
  ·refine Tri.skip ?_
   conv => whnf
   refine Tri.region ti2_ok ?_
   conv => whnf
   refine .inl ⟨fun _ => by simp [InR]; omega,?_⟩
   conv => whnf
   exact ⟨⟨i + 1,hia,fun j hj hlt => (Nat.lt_succ_iff_lt_or_eq.1 hlt).elim (hp j hj) fun e => by subst e; simpa [dU] using hc⟩,by show _ - (i + 1) < _ - i; omega,⟨.refl _,.refl _,trivial⟩,trivial⟩
 ·refine Tri.exit ?_
  conv => whnf
  refine Tri.seq ?_
  refine Tri.region ti2_ok ?_
  conv => whnf
  refine Tri.ret ?_
  conv => whnf
  have hin : i = s.length:=by
   rcases Nat.lt_or_ge i s.length with h2 | h2
   ·rw [show decide ((i : Int) < (s.length : Int)) = true from decide_eq_true (by omega),show decide ((i : Int) ≤ 65536) = true from decide_eq_true (by omega)] at hc; cases hc
   ·omega
  have : s.all dU = true:=by
   rw [List.all_eq_true]
   intro x hx
   obtain ⟨j,hj,rfl⟩:=List.mem_iff_getElem.1 hx
   exact hp j hj (by omega)
  rw [this]
  exact DLe.of_eq (congrArg D.bool (decide_eq_true (by omega)))
theorem G197 (s : List UInt8) (m : Int) (h : s.length ≤ 65536) : DFun Tryz.prog W0 197 [.str s,.int .i64 1,.int .i64 m] (.bool (isDB s m)):=by
 refine DFun.intro ti2_ok Tryz.func197 rfl (by decide +kernel) Tryz.ntmps197 rfl fun Γ => ?_
 refine Tri.seq ?_
 refine Tri.region ti2_ok ?_
 conv => whnf
 refine Tri.seq ?_
 refine Tri.region ti2_ok ?_
 conv => whnf
 refine ⟨fun h => h,?_⟩
 conv => whnf
 refine ⟨fun h => h,?_⟩
 conv => whnf
 refine ⟨fun h => h,?_⟩
 conv => whnf
 refine ⟨fun h0 h => by first | exact h | (rw [h]; rfl) | (rw [h0,h]; rfl),?_⟩
 conv => whnf
 refine ⟨fun h => h,?_⟩
 conv => whnf
 refine ⟨[.str s],_,fun h0 => G233 s h,⟨.refl _,trivial⟩,?_⟩
 conv => whnf
 refine ⟨fun h0 h => by first | exact h | (rw [h]; rfl) | (rw [h0,h]; rfl),?_⟩
 conv => whnf
 refine Tri.ret ?_
 conv => whnf
 refine DLe.of_eq (congrArg D.bool ?_)
 unfold isDB dStr
 rw [show decide (s.length ≤ 65536) = true from decide_eq_true h]
 by_cases h1 : (1 : Int) ≤ s.length <;> by_cases h2 : (s.length : Int) ≤ m <;> simp [h1,h2]
/-- The last point of a text. -/
def dotAt (s : List UInt8) : Nat → Int
 | 0 => -1
 | i + 1 => if s[i]? = some 46 then i else dotAt s i
theorem dotAt_none {s : List UInt8} (h : (46 : UInt8) ∉ s) : ∀ i,dotAt s i = -1
 | 0 => rfl
 | i + 1 => by rw [dotAt,if_neg (fun e => h (List.mem_of_getElem? e)),dotAt_none h i]
theorem dotAt_one {A B : List UInt8} (h' : (46 : UInt8) ∉ B) : dotAt (A ++ 46::B) (A ++ 46::B).length = A.length:=by
 have key : ∀ j,j ≤ B.length → dotAt (A ++ 46::B) (A.length + 1 + j) = A.length:=by
  intro j
  induction j with
  | zero => intro _; rw [Nat.add_zero,dotAt,if_pos (by simp)]
  | succ j ih =>
   intro hj
   rw [← Nat.add_assoc,dotAt,if_neg,ih (by omega)]
   rw [List.getElem?_append_right (by omega),show A.length + 1 + j - A.length = j + 1 by omega,List.getElem?_cons_succ]
   exact fun e => h' (List.mem_of_getElem? e)
 have:=key B.length (Nat.le_refl _)
 rw [show (A ++ 46::B).length = A.length + 1 + B.length by simp; omega]; exact this
theorem dotAt_bound (s : List UInt8) : ∀ i,-1 ≤ dotAt s i ∧ dotAt s i < i
 | 0 => by simp [dotAt]
 | i + 1 => by
  have:=dotAt_bound s i
  rw [dotAt]; split <;> omega
theorem G140 (s : List UInt8) (h : s.length < 1000000000) : DFun Tryz.prog W0 140 [.str s] (.int .i64 (dotAt s s.length)):=by
 refine DFun.intro ti2_ok Tryz.func140 rfl (by decide +kernel) Tryz.ntmps140 rfl fun Γ => ?_
 refine Tri.seq ?_
 refine Tri.region ti2_ok ?_
 conv => whnf
 refine Tri.seq ?_
 refine Tri.region ti2_ok ?_
 conv => whnf
 refine Tri.seq ?_
 refine Tri.seq ?_
 refine Tri.region ti2_ok ?_
 conv => whnf
 refine Tri.block ?_
 refine Tri.loop (α:={ i : Nat // i ≤ s.length }) (fun x => [(0,.str s),(3,.int .i64 (dotAt s x.1)),(4,.int .i64 x.1)]) (fun _ => []) (fun x => s.length - x.1) ⟨0,by simp⟩ ⟨.refl _,.refl _,.refl _,trivial⟩ trivial ?_
 rintro ⟨i,hi⟩
 dsimp only
 refine Tri.seq ?_
 refine Tri.seq ?_
 refine Tri.region ti2_ok ?_
 conv => whnf
 refine Tri.cond (decide ((i : Int) < (s.length : Int))) rfl (fun hc => ?_) (fun hc => ?_)
 ·refine Tri.skip ?_
  conv => whnf
  have hia : i < s.length:=by simpa using hc
  refine Tri.seq ?_
  refine Tri.block ?_
  refine Tri.seq ?_
  refine Tri.region ti2_ok ?_
  conv => whnf
  refine ⟨s[i],fun _ => ⟨by omega,by simp [hia]⟩,?_⟩
  conv => whnf
  refine Tri.cond _ rfl (fun hc => ?_) (fun hc => ?_)
  ·refine Tri.region ti2_ok ?_
   conv => whnf
   refine Tri.region ti2_ok ?_
   conv => whnf
   refine .inl ⟨fun _ => by simp [InR]; omega,?_⟩
   conv => whnf
   have e : dotAt s (i + 1) = i:=by
    rw [dotAt,if_pos]
    rw [List.getElem?_eq_getElem hia]
    have h46 : s[i].toNat = 46 := by have h1 : ((s[i].toNat : Nat) : Int) = 46 := by simpa using hc
                                     omega
    rw [show s[i] = 46 from UInt8.toNat_inj.1 h46]
   exact ⟨⟨i + 1,hia⟩,by show _ - (i + 1) < _ - i; omega,⟨.refl _,intDLe e.symm,.refl _,trivial⟩,trivial⟩
  ·refine Tri.skip ?_
   conv => whnf
   refine Tri.region ti2_ok ?_
   conv => whnf
   refine .inl ⟨fun _ => by simp [InR]; omega,?_⟩
   conv => whnf
   have e : dotAt s (i + 1) = dotAt s i:=by
    rw [dotAt,if_neg]
    rw [List.getElem?_eq_getElem hia]
    intro e
    rw [Option.some.injEq] at e
    rw [e] at hc
    exact absurd hc (by decide)
   exact ⟨⟨i + 1,hia⟩,by show _ - (i + 1) < _ - i; omega,⟨.refl _,intDLe e.symm,.refl _,trivial⟩,trivial⟩
 ·refine Tri.exit ?_
  conv => whnf
  refine Tri.seq ?_
  refine Tri.region ti2_ok ?_
  conv => whnf
  refine Tri.ret ?_
  conv => whnf
  have hin : i = s.length:=by simp at hc; omega
  subst hin; exact .refl _
/-- The shape of a name of the ISO view. -/
structure IsoForm (m : List UInt8) (dir : Bool) (A B : List UInt8) : Prop where
 a : isDB A 8 = true
 na : (46 : UInt8) ∉ A
 nb : (46 : UInt8) ∉ B
 eq : (B = [] ∧ m = A) ∨ (B ≠ [] ∧ dir = false ∧ isDB B 3 = true ∧ m = A ++ 46::B)
theorem IsoForm.name {m A B : List UInt8} {dir : Bool} (h : IsoForm m dir A B) : IsoName m dir:=isoName_of h.a h.na h.nb h.eq
theorem IsoForm.file {m A B : List UInt8} {dir : Bool} (h : IsoForm m dir A B) : IsoForm m false A B:=⟨h.a,h.na,h.nb,by
 rcases h.eq with h | ⟨h1,h2,h3,h4⟩
 ·exact .inl h
 ·exact .inr ⟨h1,rfl,h3,h4⟩⟩
theorem isDB_len {s : List UInt8} {m : Int} (h : isDB s m = true) : (s.length : Int) ≤ m:=by
 simp [isDB] at h; exact h.2.1
theorem IsoForm.len {m A B : List UInt8} {dir : Bool} (h : IsoForm m dir A B) : m.length ≤ 12:=by
 have:=isDB_len h.a
 rcases h.eq with ⟨_,rfl⟩ | ⟨_,_,h3,rfl⟩
 ·omega
 ·have:=isDB_len h3; simp; omega
theorem made_form {s : List UInt8} (hs : nameOk s = true) (dir : Bool) {k : Nat} (hk : k < 100) : ∃ A B,IsoForm (numS 0 (wantS 0 s dir).1 (wantS 0 s dir).2 k) dir A B:=by
 obtain ⟨l,e,h0,h1⟩:=made_shape (.inl rfl) hs dir hk
 obtain ⟨a,b,h⟩:=h0 rfl
 rw [e]
 have hd46 : dU 46 = false:=by decide
 refine ⟨runesB a,runesB b,iso_isDB (m:=8) h.ca h.a1 h.a8 (by decide),iso_no h.ca hd46,iso_no h.cb hd46,?_⟩
 have hq:=h.eq
 by_cases hb : b = []
 ·rw [if_pos hb] at hq
  exact .inl ⟨by rw [hb]; rfl,by rw [hq]⟩
 ·rw [if_neg hb] at hq
  refine .inr ⟨fun e => hb (runesB_nil.1 e),?_,iso_isDB (m:=3) h.cb ?_ h.b3 (by decide),?_⟩
  ·cases dir with
   | false => rfl
   | true => exact absurd (h.dir rfl) hb
  ·cases b with
   | nil => exact absurd rfl hb
   | cons x r => simp
  ·rw [hq,runesB_append,runesB_cons,enc_ascii 46 (by decide) (by decide)]; rfl
/-- The names of sorted kids in the ISO view have that shape. -/
theorem names_form {ks : List NV} (h64 : ks.length ≤ 64) (h : ∀ k ∈ ks,nameOk k.name = true) {i : Nat} (hi : i < ks.length) : ∃ A B,IsoForm ((namesG 0 ks)[i]'(by rw [namesG_len]; exact hi)) (ks[i].kind == 0) A B:=by
 rw [namesG_at hi]
 obtain ⟨j,hj,e⟩:=pick_numS (.inl rfl) (usedG 0 (ks.take i)) ks[i] (by rw [usedG_len,List.length_take]; omega)
 rw [e]
 exact made_form (h _ (List.getElem_mem hi)) _ hj
theorem G139 {m A B : List UInt8} {dir : Bool} (h : IsoForm m dir A B) : DFun Tryz.prog W0 139 [.int .i64 0,.str m,.bool dir] (.bool true):=by
 have hml:=h.len
 have hdb:=dotAt_bound m m.length
 refine DFun.intro ti_ok Tryz.func139 rfl (by decide +kernel) Tryz.ntmps139 rfl fun Γ => ?_
 refine Tri.seq ?_
 refine Tri.region ti2_ok ?_
 conv => whnf
 refine Tri.seq ?_
 refine Tri.seq ?_
 refine Tri.region ti2_ok ?_
 conv => whnf
 refine ⟨[.int .i64 0],_,fun _ => F53 0,⟨.refl _,trivial⟩,?_⟩
 conv => whnf
 refine Tri.cond _ rfl (fun hc => ?_) (fun hc => ?_)
 ·refine Tri.seq ?_
  refine Tri.region ti2_ok ?_
  conv => whnf
  refine Tri.ret ?_
  conv => whnf
  cases hc
 ·refine Tri.skip ?_
  conv => whnf
  refine Tri.seq ?_
  refine Tri.seq ?_
  refine Tri.region ti2_ok ?_
  conv => whnf
  refine Tri.cond _ rfl (fun hc => ?_) (fun hc => ?_)
  ·refine Tri.seq ?_
   refine Tri.region ti2_ok ?_
   conv => whnf
   refine ⟨[.str m],_,fun _ => G140 m (by omega),⟨.refl _,trivial⟩,?_⟩
   conv => whnf
   refine Tri.seq ?_
   refine Tri.seq ?_
   refine Tri.region ti2_ok ?_
   conv => whnf
   refine ⟨fun h => h,?_⟩
   conv => whnf
   refine ⟨fun h0 h => by first | exact h | (rw [h]; rfl) | (rw [h0,h]; rfl),?_⟩
   conv => whnf
   refine Tri.cond _ rfl (fun hc => ?_) (fun hc => ?_)
   ·refine Tri.seq ?_
    refine Tri.region ti2_ok ?_
    conv => whnf
    refine ⟨[.str m,.int .i64 1,.int .i64 8],_,fun _ => G197 m 8 (by omega),⟨.refl _,.refl _,.refl _,trivial⟩,?_⟩
    conv => whnf
    refine Tri.ret ?_
    conv => whnf
    rcases h.eq with ⟨_,rfl⟩ | ⟨_,h2,h3,rfl⟩
    ·rw [h.a]; exact .refl _
    ·exfalso
     rw [h2,dotAt_one h.nb] at hc
     have : decide ((A.length : Int) < 0) = false:=decide_eq_false (by omega)
     rw [this] at hc; cases hc
   ·refine Tri.skip ?_
    conv => whnf
    obtain ⟨_,h2,h3,hm⟩ : B ≠ [] ∧ dir = false ∧ isDB B 3 = true ∧ m = A ++ 46::B:=by
     rcases h.eq with ⟨_,rfl⟩ | h
     ·exfalso
      rw [dotAt_none h.na] at hc
      cases dir <;> cases hc
     ·exact h
    have hd : dotAt m m.length = A.length:=by rw [hm,dotAt_one h.nb]
    have hal : A.length + 1 + B.length = m.length:=by rw [hm]; simp; omega
    rw [hd]
    have ht : (m.take ((A.length : Nat) : Int).toNat).drop (Int.toNat 0) = A:=by
     rw [hm]; simp
    have hdr : (m.take ((m.length : Nat) : Int).toNat).drop ((A.length : Int) + 1).toNat = B:=by
     rw [show ((m.length : Nat) : Int).toNat = m.length from rfl,List.take_length,show ((A.length : Int) + 1).toNat = A.length + 1 by omega,hm]
     simp [List.drop_append]
    have hA:=isDB_len h.a
    have hB:=isDB_len h3
    refine Tri.seq ?_
    refine Tri.region ti2_ok ?_
    conv => whnf
    refine ⟨fun _ => by simp; omega,?_⟩
    conv => whnf
    refine ⟨[.str A,.int .i64 1,.int .i64 8],_,fun _ => G197 A 8 (by omega),⟨DLe.of_eq (congrArg D.str ht),.refl _,.refl _,trivial⟩,?_⟩
    conv => whnf
    refine ⟨fun h => h,?_⟩
    conv => whnf
    refine .inl ⟨fun h => by simp [InR]; omega,?_⟩
    conv => whnf
    refine ⟨fun h => h,?_⟩
    conv => whnf
    refine ⟨fun h => h,?_⟩
    conv => whnf
    refine ⟨fun h => by simp; omega,?_⟩
    conv => whnf
    refine ⟨fun h => h,?_⟩
    conv => whnf
    refine ⟨[.str B,.int .i64 1,.int .i64 3],_,fun _ => G197 B 3 (by omega),⟨DLe.of_eq (congrArg D.str hdr),.refl _,.refl _,trivial⟩,?_⟩
    conv => whnf
    refine ⟨fun h0 h => by first | exact h | (rw [h]; rfl) | (rw [h0,h]; rfl),?_⟩
    conv => whnf
    refine Tri.ret ?_
    conv => whnf
    rw [h.a,h3]; exact .refl _
  ··cases hc
theorem G98 {m A B : List UInt8} {dir : Bool} (h : IsoForm m dir A B) : DFun Tryz.prog W0 98 [.str m,.bool dir] (.tup [.str (identI m dir).1,.int .i64 (identI m dir).2]):=by
 have hml:=h.len
 have hv:=h.name.valid
 have hid : identI m dir = if dir = true then (m,0) else if hasDot m = true then (m ++ [59,49],0) else (m ++ [46,59,49],0):=by rw [identI,if_pos hv]
 refine DFun.intro ti_ok Tryz.func98 rfl (by decide +kernel) Tryz.ntmps98 rfl fun Γ => ?_
 refine Tri.seq ?_
 refine Tri.region ti2_ok ?_
 conv => whnf
 refine Tri.seq ?_
 refine Tri.seq ?_
 refine Tri.region ti2_ok ?_
 conv => whnf
 refine ⟨[.int .i64 0,.str m,.bool dir],_,fun _ => G139 h,⟨.refl _,.refl _,.refl _,trivial⟩,?_⟩
 conv => whnf
 refine Tri.cond _ rfl (fun hc => ?_) (fun hc => ?_)
 ·refine Tri.seq ?_
  refine Tri.region ti2_ok ?_
  conv => whnf
  refine Tri.ret ?_
  conv => whnf
  cases hc
 ·refine Tri.skip ?_
  conv => whnf
  refine Tri.seq ?_
  refine Tri.seq ?_
  refine Tri.region ti2_ok ?_
  conv => whnf
  refine Tri.cond _ rfl (fun hc => ?_) (fun hc => ?_)
  ·refine Tri.seq ?_
   refine Tri.region ti2_ok ?_
   conv => whnf
   refine Tri.ret ?_
   conv => whnf
   have hd : dir = true:=hc
   rw [hid,if_pos hd]; exact ⟨.refl _,.refl _,trivial⟩
  ·refine Tri.skip ?_
   conv => whnf
   have hd : dir = false:=hc
   have hneg : dotAt m m.length < 0 ↔ ¬ hasDot m = true:=by
    rw [hasDot_iff]
    rcases h.eq with ⟨_,hm⟩ | ⟨_,_,_,hm⟩
    ·have h0 : (46 : UInt8) ∉ m:=by rw [hm]; exact h.na
     rw [dotAt_none h0]; simp [h0]
    ·rw [hm,dotAt_one h.nb]; simp
   refine Tri.seq ?_
   refine Tri.seq ?_
   refine Tri.region ti2_ok ?_
   conv => whnf
   refine ⟨[.str m],_,fun _ => G140 m (by omega),⟨.refl _,trivial⟩,?_⟩
   conv => whnf
   refine Tri.cond _ rfl (fun hc => ?_) (fun hc => ?_)
   ·refine Tri.seq ?_
    refine Tri.region ti2_ok ?_
    conv => whnf
    refine ⟨fun _ => by simp; omega,?_⟩
    conv => whnf
    refine Tri.ret ?_
    conv => whnf
    have hn : ¬ hasDot m = true:=hneg.1 (by simpa using hc)
    rw [hid,if_neg (by rw [hd]; decide),if_neg hn]; exact ⟨.refl _,.refl _,trivial⟩
   ·refine Tri.skip ?_
    conv => whnf
    refine Tri.seq ?_
    refine Tri.region ti2_ok ?_
    conv => whnf
    refine ⟨fun _ => by simp; omega,?_⟩
    conv => whnf
    refine Tri.ret ?_
    conv => whnf
    have hn : hasDot m = true:=by
     cases hh : hasDot m with
     | true => rfl
     | false => exact absurd (hneg.2 (by rw [hh]; decide)) (by simpa using hc)
    rw [hid,if_neg (by rw [hd]; decide),if_pos hn]; exact ⟨.refl _,.refl _,trivial⟩
theorem rr_dec (i : Nat) : [82,82,95,77,79,86] ++ Lib.decDigits (i + 1) = rrN (i + 1):=by rw [rrN,if_neg (by omega)]
theorem dig_len : ∀ k,k < 100 → (Lib.decDigits k).length ≤ 2:=by decide +kernel
theorem G92 (hL : LibOk W0) (kids : List NV) (h64 : kids.length ≤ 64) (hok : ∀ k ∈ kids,nameOk k.name = true ∧ k.name.length < 1000000000) (hinc : inc kids) : DFun Tryz.prog W0 92 [.sl .none 12 (kids.map enc)] (.str (rrN (rrK (namesG 0 kids)))):=by
 obtain ⟨r1,r2,r3⟩:=rr_ok (U:=namesG 0 kids) (by rw [namesG_len]; exact h64)
 have hU:=namesG_len 0 kids
 refine DFun.intro ti_ok Tryz.func92 rfl (by decide +kernel) Tryz.ntmps92 rfl fun Γ => ?_
 refine Tri.seq ?_
 refine Tri.region ti2_ok ?_
 conv => whnf
 refine Tri.seq ?_
 refine Tri.region ti2_ok ?_
 conv => whnf
 refine ⟨[.int .i64 0,.sl .none 12 (kids.map enc)],_,fun _ => ((namesGok hL (v:=0) (by decide)).call kids h64 hinc hok).1,⟨.refl _,.refl _,trivial⟩,?_⟩
 conv => whnf
 refine Tri.seq ?_
 refine Tri.regionX ti2_ok ?_
 conv => whnf
 refine .inr (XOp.makeMap fun mb => ?_)
 conv => whnf
 refine Tri.seq ?_
 refine Tri.seq ?_
 refine Tri.region ti2_ok ?_
 conv => whnf
 refine Tri.block ?_
 refine Tri.loopK (α:={ i : Nat // i ≤ kids.length } × List (List UInt8)) (fun x => [(5,.raw (.map (some mb))),(16,.sl .none 1 (strs (namesG 0 kids))),(17,.int .i64 (strs (namesG 0 kids)).length),(18,.int .i64 x.1.1)]) (fun x => [(15,.set mb ((namesG 0 kids).take x.1.1).reverse)]) (fun x => kids.length - x.1.1) (⟨0,Nat.zero_le _⟩,[]) [(15,15)] ⟨⟨.refl _,.refl _,.refl _,.refl _,trivial⟩,rfl,rfl,rfl,trivial⟩ ?_
 rintro ⟨⟨i,hi⟩,_⟩
 dsimp only
 refine Tri.seq ?_
 refine Tri.region ti2_ok ?_
 conv => whnf
 refine Tri.seq ?_
 refine Tri.cond (decide ((i : Int) < (strs (namesG 0 kids)).length)) rfl (fun hc => ?_) (fun hc => ?_)
 ·refine Tri.skip ?_
  conv => whnf
  have hia : i < kids.length:=by simpa [strs,hU] using hc
  have hiu : i < (namesG 0 kids).length:=by omega
  refine Tri.seq ?_
  refine Tri.block ?_
  refine Tri.seq ?_
  refine Tri.region ti2_ok ?_
  conv => whnf
  refine ⟨fun _ => by simp [strs]; omega,?_⟩
  conv => whnf
  refine ⟨.str (namesG 0 kids)[i],fun _ => by simp [strs,hiu],?_⟩
  conv => whnf
  refine Tri.regionX ti2_ok ?_
  conv => whnf
  refine .inr (XOp.setUpdate 15 (kt:=9) (et:=4) rfl rfl rfl rfl rfl rfl ?_)
  conv => whnf
  refine Tri.region ti2_ok ?_
  conv => whnf
  refine .inl ⟨fun _ => by simp [InR]; omega,?_⟩
  conv => whnf
  exact ⟨(⟨i + 1,hia⟩,[]),[(15,15)],by show _ - (i + 1) < _ - i; omega,⟨.refl _,.refl _,.refl _,.refl _,trivial⟩,rfl,rfl,congrArg (fun z => some (HObj.set mb z)) (by rw [List.take_succ_eq_append_getElem hiu,List.reverse_append]; rfl),trivial⟩
 ·refine Tri.exit ?_
  conv => whnf
  have hin : i = kids.length:=by simp [strs,hU] at hc; omega
  have hall : (namesG 0 kids).take i = namesG 0 kids:=List.take_of_length_le (by omega)
  rw [hall]
  refine Tri.seq ?_
  refine Tri.region ti2_ok ?_
  conv => whnf
  refine Tri.seq ?_
  refine Tri.seq ?_
  refine Tri.region ti2_ok ?_
  conv => whnf
  refine Tri.block ?_
  refine Tri.loopK (α:={ i : Nat // i ≤ rrK (namesG 0 kids) }) (fun x => [(5,.raw (.map (some mb))),(8,.str (rrN x.1)),(9,.int .i64 ((x.1 : Int) + 1))]) (fun x => [(15,.set mb (namesG 0 kids).reverse)]) (fun x => rrK (namesG 0 kids) - x.1) ⟨0,Nat.zero_le _⟩ [(15,15)] ⟨⟨.refl _,.refl _,.refl _,trivial⟩,rfl,rfl,rfl,trivial⟩ ?_
  rintro ⟨i,hi⟩
  dsimp only
  refine Tri.seq ?_
  refine Tri.seq ?_
  refine Tri.regionX ti2_ok ?_
  conv => whnf
  refine .inr (XOp.setLookup 15 (kt:=9) (et:=4) rfl rfl (fun w => rfl) rfl rfl rfl ?_)
  conv => whnf
  refine Tri.cond _ rfl (fun hc => ?_) (fun hc => ?_)
  ·refine Tri.skip ?_
   conv => whnf
   have hm : rrN i ∈ namesG 0 kids:=by simpa using hc
   have hia : i < rrK (namesG 0 kids):=by
    rcases Nat.lt_or_ge i (rrK (namesG 0 kids)) with h | h
    ·exact h
    ·have : i = rrK (namesG 0 kids):=by omega
     subst this; exact absurd hm r2
   have hdl:=dig_len (i + 1) (by omega)
   refine Tri.seq ?_
   refine Tri.block ?_
   refine Tri.region ti2_ok ?_
   conv => whnf
   refine ⟨[.int .i64 ((i + 1 : Nat) : Int)],_,fun _ => F143 (i + 1) (by omega),⟨.refl _,trivial⟩,?_⟩
   conv => whnf
   refine ⟨fun _ => by simp; omega,?_⟩
   conv => whnf
   refine Tri.region ti2_ok ?_
   conv => whnf
   refine .inl ⟨fun _ => by simp [InR]; omega,?_⟩
   conv => whnf
   exact ⟨⟨i + 1,hia⟩,[(15,15)],by show _ - (i + 1) < _ - i; omega,⟨.refl _,DLe.of_eq (congrArg D.str (rr_dec i)),.refl _,trivial⟩,rfl,rfl,rfl,trivial⟩
  ·refine Tri.exit ?_
   conv => whnf
   refine Tri.seq ?_
   refine Tri.region ti2_ok ?_
   conv => whnf
   refine Tri.ret ?_
   conv => whnf
   have hm : rrN i ∉ namesG 0 kids:=by simpa using hc
   have : i = rrK (namesG 0 kids):=by
    rcases Nat.lt_or_ge i (rrK (namesG 0 kids)) with h | h
    ·exact absurd (r3 i h) hm
    ·omega
   subst this; exact .refl _
theorem G91 (i : Int) (s : Nat) (hi : -1 ≤ i ∧ i < 1000000) (hs : s ≤ 1) : DFun Tryz.prog W0 91 [.int .i64 i,.elm 1 [.int .i64 (s : Int)] 0 0] (.int .i64 (if i ≤ 0 then i else i + s)):=by
 refine DFun.intro ti2_ok Tryz.func91 rfl (by decide +kernel) Tryz.ntmps91 rfl fun Γ => ?_
 refine Tri.seq ?_
 refine Tri.region ti2_ok ?_
 conv => whnf
 refine Tri.seq ?_
 refine Tri.seq ?_
 refine Tri.region ti2_ok ?_
 conv => whnf
 refine Tri.cond _ rfl (fun hc => ?_) (fun hc => ?_)
 ·refine Tri.seq ?_
  refine Tri.region ti2_ok ?_
  conv => whnf
  refine Tri.ret ?_
  conv => whnf
  have h0 : i ≤ 0:=by simpa using hc
  rw [if_pos h0]; exact .refl _
 ·refine Tri.skip ?_
  conv => whnf
  refine Tri.seq ?_
  refine Tri.region ti2_ok ?_
  conv => whnf
  refine ⟨.int .i64 (s : Int),fun _ => rfl,?_⟩
  conv => whnf
  refine .inl ⟨fun _ => by simp [InR]; omega,?_⟩
  conv => whnf
  refine Tri.ret ?_
  conv => whnf
  have h0 : ¬ i ≤ 0:=by simpa using hc
  rw [if_neg h0]; exact .refl _
end Go.Tame.V
/- Contracts: the reference's spots. By program (mkrc.py,mk.py). -/
namespace Go.Tame.V
open Go Go.Proofs
variable {W0 : World}
set_option maxRecDepth 10000
set_option linter.unusedVariables false
set_option linter.unusedSimpArgs false

theorem spL_next (x : XS) : ∀ {ks : List NV} {ms : List (List UInt8)} {i : Nat} (h : i < ks.length) (h' : i < ms.length) (c : Cn),
  spL (ks.take (i + 1)) (ms.take (i + 1)) x c = spL (ks.take i) (ms.take i) x c ++ (if (child x ks[i] ms[i] (c.addL (spL (ks.take i) (ms.take i) x c))).any then child x ks[i] ms[i] (c.addL (spL (ks.take i) (ms.take i) x c))::spT ks[i] (child x ks[i] ms[i] (c.addL (spL (ks.take i) (ms.take i) x c))) ((c.addL (spL (ks.take i) (ms.take i) x c)).add (child x ks[i] ms[i] (c.addL (spL (ks.take i) (ms.take i) x c)))) else [])
 | k::r,m::ms,0,_,_,c => by
  simp only [List.take_succ_cons,List.take_zero,spL,Cn.addL_nil,List.getElem_cons_zero,List.append_nil,List.nil_append]
 | k::r,m::ms,i + 1,h,h',c => by
  have hi : i < r.length:=by simpa using h
  have hm : i < ms.length:=by simpa using h'
  simp only [List.take_succ_cons,spL,List.getElem_cons_succ]
  by_cases ha : (child x k m c).any = true
  ·rw [if_pos ha,if_pos ha]
   have ih:=spL_next x hi hm ((c.add (child x k m c)).addL (spT k (child x k m c) (c.add (child x k m c))))
   have e : c.addL (child x k m c::(spT k (child x k m c) (c.add (child x k m c)) ++ spL (r.take i) (ms.take i) x ((c.add (child x k m c)).addL (spT k (child x k m c) (c.add (child x k m c)))))) = ((c.add (child x k m c)).addL (spT k (child x k m c) (c.add (child x k m c)))).addL (spL (r.take i) (ms.take i) x ((c.add (child x k m c)).addL (spT k (child x k m c) (c.add (child x k m c))))):=by
    rw [Cn.addL_cons,Cn.addL_append]
   rw [e,ih,List.cons_append,List.append_assoc]
  ·rw [if_neg ha,if_neg ha]
   exact spL_next x hi hm c
mutual
theorem spT_len : ∀ (n : NV) (x : XS) (c : Cn),(spT n x c).length + 1 ≤ cnt n
 | .mk _ _ _ _ _ _ _ _ _ _ ks _,x,c => by
  have:=spL_len ks (namesG 0 ks) x c
  simp only [spT,cnt]; omega
theorem spL_len : ∀ (ks : List NV) (ms : List (List UInt8)) (x : XS) (c : Cn),(spL ks ms x c).length ≤ cntL ks
 | [],_,_,_ => by simp [spL]
 | k::r,[],_,_ => by simp [spL]
 | k::r,m::ms,x,c => by
  simp only [spL,cntL]
  split
  ·have h1:=spT_len k (child x k m c) (c.add (child x k m c))
   have h2:=spL_len r ms x ((c.add (child x k m c)).addL (spT k (child x k m c) (c.add (child x k m c))))
   simp only [List.length_cons,List.length_append]; omega
  ·have:=spL_len r ms x c; omega
end
theorem kid_cnt : ∀ {ks : List NV} {i : Nat} (h : i < ks.length),cntL (ks.take i) + cnt ks[i] ≤ cntL ks
 | k::r,0,_ => by simp [cntL]
 | k::r,i + 1,h => by have:=kid_cnt (ks:=r) (i:=i) (by simpa using h); simp only [List.take_succ_cons,cntL,List.getElem_cons_succ]; omega

end Go.Tame.V
/- What holds of the list of nodes with records. Plain. -/
namespace Go.Tame.V
open Go Go.Proofs
set_option maxRecDepth 10000
set_option linter.unusedVariables false
set_option linter.unusedSimpArgs false

mutual
/-- Only directories have kids. -/
def okD : NV → Prop
 | .mk _ kd _ _ _ _ _ _ _ _ ks _ => (kd ≠ 0 → ks = []) ∧ okDL ks
def okDL : List NV → Prop
 | [] => True
 | k::r => okD k ∧ okDL r
end
theorem okD_eq (n : NV) : okD n ↔ (n.kind ≠ 0 → n.kids = []) ∧ okDL n.kids:=by cases n; simp only [okD]
theorem okDL_get : ∀ {l : List NV} (_ : okDL l) {k : NV} (_ : k ∈ l),okD k
 | x::r,h,k,hk => by
  simp only [okDL] at h
  rcases List.mem_cons.1 hk with rfl | hk
  ·exact h.1
  ·exact okDL_get h.2 hk
/-- The node s stands rightly behind the nodes l. -/
structure StepOk (l : List XS) (s : XS) (p : XS) : Prop where
 si : s.si = l.length
 ab : s.ab < l.length
 par : l[s.ab]? = some p
 dir : p.isDir = true
 fi : s.fi = p.di
 any : s.any = true
 iso : s.iso = true → p.iso = true
 rock : s.rock = true → p.rock = true
 lv : s.lv = p.lv + 1
 path : s.path = below p.path s.n.name (p.lv + 1)
 kid : s.n ∈ p.n.kids
 lev : s.lev = if s.isDir then (if p.lev + 1 = 9 then 3 else p.lev + 1) else 0
 mv : s.mv = (s.isDir && p.lev + 1 == 9)
 di : s.di = (dirsX l).length
 mno : s.mno = (movX l).length + 1
/-- A list of nodes with records,from the root on. -/
inductive Built (rr : Bool) (n : NV) : List XS → Prop
 | root (h0 : n.kind = 0) : Built rr n [rootX rr n]
 | snoc {l : List XS} {s p : XS} (h : Built rr n l) (hs : StepOk l s p) : Built rr n (l ++ [s])
theorem filter_snoc {α : Type} (f : α → Bool) (l : List α) (s : α) : ((l ++ [s]).filter f).length = if f s then (l.filter f).length + 1 else (l.filter f).length:=by
 rw [List.filter_append,List.length_append]
 cases h : f s <;> simp [h]
/-- The counters say how many there were. -/
def CnOk (c : Cn) (l : List XS) : Prop:=c.ns = l.length ∧ c.nf = (dirsX l).length ∧ c.nm = (movX l).length
theorem CnOk.add {c : Cn} {l : List XS} (h : CnOk c l) (s : XS) : CnOk (c.add s) (l ++ [s]):=by
 obtain ⟨h1,h2,h3⟩:=h
 refine ⟨by simp [Cn.add,h1],?_,?_⟩
 ·simp only [Cn.add,dirsX,filter_snoc]; split <;> simp [h2,dirsX]
 ·simp only [Cn.add,movX,filter_snoc]; split <;> simp [h3,movX]
theorem CnOk.addL : ∀ {m : List XS} {c : Cn} {l : List XS} (h : CnOk c l),CnOk (c.addL m) (l ++ m)
 | [],c,l,h => by rw [List.append_nil]; exact h
 | s::r,c,l,h => by
  have:=(h.add s).addL (m:=r)
  rw [List.append_assoc,List.singleton_append] at this
  exact this
theorem child_step {l : List XS} {x : XS} {k : NV} {m : List UInt8} {c : Cn} (hx : l[x.si]? = some x) (hd : x.isDir = true) (hc : CnOk c l) (hk : k ∈ x.n.kids) (ha : (child x k m c).any = true) : StepOk l (child x k m c) x:=by
 obtain ⟨h1,h2,h3⟩:=hc
 have hlt : x.si < l.length:=by
  rcases Nat.lt_or_ge x.si l.length with h | h
  ·exact h
  ·rw [List.getElem?_eq_none h] at hx; cases hx
 refine ⟨h1,hlt,hx,hd,rfl,ha,fun h => ?_,fun h => ?_,rfl,rfl,hk,rfl,rfl,h2,by show c.nm + 1 = _; rw [h3]⟩
 ·simp only [child,Bool.and_eq_true] at h; exact h.1
 ·simp only [child,Bool.and_eq_true] at h; exact h.1
mutual
theorem built_T (rr : Bool) (r0 : NV) : ∀ (n : NV) (x : XS) (c : Cn) (l : List XS),Built rr r0 l → x.n = n → okD n → l[x.si]? = some x → CnOk c l → Built rr r0 (l ++ spT n x c)
 | .mk nm kd t tg a1 a2 a3 a4 a5 a6 ks ss,x,c,l,hb,hxn,hok,hx,hc => by
  simp only [spT]
  have hok':=(okD_eq _).1 hok
  by_cases hd : kd = 0
  ·refine built_L rr r0 ks (namesG 0 ks) x c l hb (by rw [XS.isDir,hxn,hd]; rfl) (fun k hk => ?_) hok'.2 hx hc
   rw [hxn]; exact hk
  ·have : ks = []:=hok'.1 hd
   subst this
   simpa [spL] using hb
theorem built_L (rr : Bool) (r0 : NV) : ∀ (ks : List NV) (ms : List (List UInt8)) (x : XS) (c : Cn) (l : List XS),Built rr r0 l → x.isDir = true → (∀ k ∈ ks,k ∈ x.n.kids) → okDL ks → l[x.si]? = some x → CnOk c l → Built rr r0 (l ++ spL ks ms x c)
 | [],_,x,c,l,hb,_,_,_,_,_ => by simpa [spL] using hb
 | k::r,[],x,c,l,hb,_,_,_,_,_ => by simpa [spL] using hb
 | k::r,m::ms,x,c,l,hb,hd,hks,hok,hx,hc => by
  simp only [okDL] at hok
  simp only [spL]
  split
  ·rename_i ha
   have hst:=child_step (m:=m) hx hd hc (hks k List.mem_cons_self) ha
   have hb1:=hb.snoc hst
   have hc1:=hc.add (child x k m c)
   have hx1 : (l ++ [child x k m c])[(child x k m c).si]? = some (child x k m c):=by
    rw [hst.si]; simp
   have hb2:=built_T rr r0 k (child x k m c) (c.add (child x k m c)) (l ++ [child x k m c]) hb1 rfl hok.1 hx1 hc1
   have hc2:=hc1.addL (m:=spT k (child x k m c) (c.add (child x k m c)))
   have hlt : x.si < l.length:=by
    rcases Nat.lt_or_ge x.si l.length with h | h
    ·exact h
    ·rw [List.getElem?_eq_none h] at hx; cases hx
   have hx2 : (l ++ [child x k m c] ++ spT k (child x k m c) (c.add (child x k m c)))[x.si]? = some x:=by
    rw [List.append_assoc,List.getElem?_append_left hlt]; exact hx
   have hb3:=built_L rr r0 r ms x _ _ hb2 hd (fun k' hk' => hks k' (List.mem_cons_of_mem _ hk')) hok.2 hx2 hc2
   simpa using hb3
  ·exact built_L rr r0 r ms x c l hb hd (fun k' hk' => hks k' (List.mem_cons_of_mem _ hk')) hok.2 hx hc
end
theorem built_spots (rr : Bool) {n : NV} (hok : okD n) (h0 : n.kind = 0) : Built rr n (spots rr n):=by
 have:=built_T rr n n (rootX rr n) ⟨1,1,0⟩ [rootX rr n] (.root h0) rfl hok rfl (by
  refine ⟨rfl,?_,?_⟩
  ·simp [dirsX,XS.isDir,rootX,h0]
  ·simp [movX,rootX])
 exact this
theorem Built.root0 {rr : Bool} {n : NV} {l : List XS} (h : Built rr n l) : l[0]? = some (rootX rr n) ∧ 0 < l.length:=by
 induction h with
 | root h0 => exact ⟨rfl,by simp⟩
 | snoc h hs ih => exact ⟨by rw [List.getElem?_append_left ih.2]; exact ih.1,by simp⟩
theorem Built.kind {rr : Bool} {n : NV} {l : List XS} (h : Built rr n l) : n.kind = 0:=by
 induction h with
 | root h0 => exact h0
 | snoc h hs ih => exact ih
/-- Each node but the root stands rightly behind those ahead of it. -/
theorem Built.at {rr : Bool} {n : NV} {l : List XS} (h : Built rr n l) : ∀ {i : Nat} {s : XS},0 < i → l[i]? = some s → ∃ p,StepOk (l.take i) s p:=by
 induction h with
 | root h0 => intro i s hi hs; rw [List.getElem?_eq_none (by simp; omega)] at hs; cases hs
 | @snoc l s p h hst ih =>
  intro i t hi ht
  rcases Nat.lt_or_ge i l.length with hl | hl
  ·rw [List.getElem?_append_left hl] at ht
   rw [List.take_append_of_le_length (by omega)]
   exact ih hi ht
  ·rcases Nat.lt_or_ge l.length i with hg | hg
   ·rw [List.getElem?_eq_none (by simp; omega)] at ht; cases ht
   ·have : i = l.length:=by omega
    subst this
    rw [List.getElem?_concat_length] at ht
    cases ht
    rw [List.take_append_of_le_length (Nat.le_refl _),List.take_length]
    exact ⟨p,hst⟩
theorem Built.si {rr : Bool} {n : NV} {l : List XS} (h : Built rr n l) {i : Nat} {s : XS} (hs : l[i]? = some s) : s.si = i:=by
 rcases Nat.eq_zero_or_pos i with rfl | hi
 ·rw [h.root0.1] at hs; cases hs; rfl
 ·obtain ⟨p,hst⟩:=h.at hi hs
  have hlt : i < l.length:=by
   rcases Nat.lt_or_ge i l.length with h | h
   ·exact h
   ·rw [List.getElem?_eq_none h] at hs; cases hs
  rw [hst.si,List.length_take]; omega
/-- The levels are from 1 to 8. -/
theorem Built.lev {rr : Bool} {n : NV} {l : List XS} (hb : Built rr n l) : ∀ (i : Nat) (s : XS),l[i]? = some s → 0 ≤ s.lev ∧ s.lev ≤ 8 ∧ (s.isDir = true → 1 ≤ s.lev) ∧ (s.isDir = false → s.lev = 0 ∧ s.mv = false):=by
 intro i
 induction i using Nat.strongRecOn with
 | _ i ih =>
  intro s hs
  rcases Nat.eq_zero_or_pos i with rfl | hi
  ·rw [hb.root0.1] at hs; cases hs
   have hk:=hb.kind
   refine ⟨by show (0 : Int) ≤ 1; decide,by show (1 : Int) ≤ 8; decide,fun _ => by show (1 : Int) ≤ 1; decide,fun h => ?_⟩
   rw [XS.isDir,rootX,hk] at h; cases h
  ·obtain ⟨p,hst⟩:=hb.at hi hs
   have hlt:=hst.ab
   rw [List.length_take] at hlt
   have hp : l[s.ab]? = some p:=by
    have:=hst.par
    rwa [List.getElem?_take,if_pos (by omega)] at this
   obtain ⟨h1,h2,h3,h4⟩:=ih s.ab (by omega) p hp
   have hl:=hst.lev
   have hm:=hst.mv
   have h5:=h3 hst.dir
   cases hd : s.isDir with
   | true =>
    rw [hd,if_pos rfl] at hl
    split at hl <;> exact ⟨by omega,by omega,fun _ => by omega,fun h => (by cases h)⟩
   | false =>
    rw [hd] at hl hm
    rw [if_neg (by decide)] at hl
    exact ⟨by omega,by omega,fun h => (by cases h),fun _ => ⟨hl,by rw [hm]; rfl⟩⟩
end Go.Tame.V
/- Contracts: the reference's levels. By program (mk.py). -/
namespace Go.Tame.V
open Go Go.Proofs
variable {W0 : World}
set_option maxRecDepth 10000
set_option linter.unusedVariables false
set_option linter.unusedSimpArgs false

section
variable {α : Type} {f : α → D} {z : D} {L : List α} {i : Nat}
end
end Go.Tame.V
/- Contracts: the reference's Plan. By program (mkrf.py,mk.py). -/
namespace Go.Tame.V
open Go Go.Proofs
variable {W0 : World}
set_option maxRecDepth 10000
set_option linter.unusedVariables false
set_option linter.unusedSimpArgs false

theorem take_nxt {α : Type} {T : List α} {t : Nat} {s : α} (h : T[t]? = some s) : T.take (t + 1) = T.take t ++ [s]:=by
 obtain ⟨hl,rfl⟩:=List.getElem?_eq_some_iff.1 h
 exact List.take_succ_eq_append_getElem hl
/-- What stands ahead of the records of the nodes. -/
def preR (sh : Nat) (rn : List UInt8) (k : Nat) : List EntV:=if k = 0 ∧ sh ≠ 0 then [⟨[47],rn,0,1,true,false,false⟩] else []
/-- The directories' places. -/
theorem Built.dis {rr : Bool} {n : NV} {l : List XS} (h : Built rr n l) : ∀ (j : Nat) (s : XS),(dirsX l)[j]? = some s → s.di = j:=by
 induction h with
 | root h0 =>
  intro j s hs
  have e : dirsX [rootX rr n] = [rootX rr n]:=by simp [dirsX,XS.isDir,rootX,h0]
  rw [e] at hs
  cases j with
  | zero => cases hs; rfl
  | succ j => cases hs
 | @snoc l t p h hst ih =>
  intro j s hs
  cases hd : t.isDir with
  | false =>
   have e : dirsX (l ++ [t]) = dirsX l:=by rw [dirsX,List.filter_append]; simp [dirsX,hd]
   rw [e] at hs; exact ih j s hs
  | true =>
   have e : dirsX (l ++ [t]) = dirsX l ++ [t]:=by rw [dirsX,List.filter_append]; simp [dirsX,hd]
   rw [e] at hs
   rcases Nat.lt_or_ge j (dirsX l).length with hj | hj
   ·rw [List.getElem?_append_left hj] at hs; exact ih j s hs
   ·rcases Nat.lt_or_ge (dirsX l).length j with hg | hg
    ·rw [List.getElem?_eq_none (by simp; omega)] at hs; cases hs
    ·have : j = (dirsX l).length:=by omega
     subst this
     rw [List.getElem?_concat_length] at hs
     cases hs; exact hst.di
theorem recsAt_len (s : Nat) (T : List XS) (i : Nat) : (recsAt s T i).length = (T.filter fun x => x.fi == i).length:=by rw [recsAt,List.length_map]
theorem filter_take_le {α : Type} (f : α → Bool) (l : List α) (t : Nat) : ((l.take t).filter f).length ≤ (l.filter f).length:=((List.take_sublist t l).filter f).length_le

mutual
theorem good_okD : ∀ (n : NV) (l : Int),goodB n l = true → okD n
 | .mk a b c d e f g h i j ks ss,l,hg => by
  obtain ⟨h1,h2⟩:=goodB_good hg
  simp only [okD]
  exact ⟨h1.dir,good_okDL ks (l + 1) h2⟩
theorem good_okDL : ∀ (ks : List NV) (l : Int),goodL ks l = true → okDL ks
 | [],l,hg => trivial
 | k::r,l,hg => by
  simp only [goodL,Bool.and_eq_true] at hg
  simp only [okDL]
  exact ⟨good_okD k l hg.1,good_okDL r l hg.2⟩
end
theorem valid_okD {n : NV} (h : valid n = true) : okD n ∧ n.kind = 0:=by
 rw [valid_good,Bool.and_eq_true] at h
 exact ⟨good_okD n 1 h.2,(goodB_good (l:=1) (by cases n; exact h.2)).1.kind1 rfl⟩
end Go.Tame.V
/- What the program's walk keeps: folders,their records,the relocated ones. Plain,with kept objects. -/
namespace Go.Tame.V
open Go Go.Proofs
set_option maxRecDepth 10000
set_option linter.unusedVariables false
set_option linter.unusedSimpArgs false

/-- A directory,as the walk lists it. -/
def fdC (s : XS) : List D:=[.str s.path,.str (if s.si = 0 then [0] else if s.mv then 68::Lib.decDigits s.mno else s.id),.int .i64 s.lev,.int .i64 (if s.mv then -1 else (s.fi : Int)),.int .i64 (s.fi : Int),.bool s.mv]
/-- A record,as the walk lists it. -/
def recC (s : XS) : List D:=[.str s.path,.str (if s.mv then s.file else s.id),.int .i64 0,.int .i64 (-1),.bool (!s.iso),.bool s.rock,.bool s.mv,.int .i64 (if s.isDir then (s.di : Int) else -1)]
def recD (s : XS) : D:=.agg (recC s)
/-- The nodes with records in the i-th folder. -/
def inF (l : List XS) (i : Nat) : List XS:=(l.drop 1).filter fun x => x.fi == i
def recsD (l : List XS) (i : Nat) : List D:=(inF l i).map recD
def folD (vs : Nat → Value) (lr : List XS) (i : Nat) (s : XS) : D:=.agg (fdC s ++ [.sl (.own 0 (vs i)) 8 (recsD lr i)])
/-- The folders of the nodes `ld`,with the records of the nodes `lr`. -/
def folsG (vs : Nat → Value) (ld lr : List XS) : List D:=(dirsX ld).mapIdx fun i s => folD vs lr i s
def movD (l : List XS) : List D:=(movX l).map fun s => D.int .i64 (s.di : Int)
/-- The folders' own slices of records. -/
def dynG (vs : Nat → Value) (ld lr : List XS) : Heap:=fun k => if 300 ≤ k ∧ k < 300 + (dirsX ld).length then some (.own (vs (k - 300)) (recsD lr (k - 300)).length 8 117) else none
def walkFn (bf bm bw : Nat) : D:=.fn (.func 89) [] [.box 200 bf 0,.box 201 bm 0,.box 202 bw 0]
def statG (bf bm bw : Nat) (fv mv : Value) (fs ms : List D) : List (Nat × HObj) :=
 [(200,.box bf [.raw fv]),(201,.box bm [.sl (.own 204 mv) 1 ms]),(202,.box bw [walkFn bf bm bw]),(203,.row fv fs 7 113),(204,.own mv ms.length 1 3)]
def walkH (bf bm bw : Nat) (fv mv : Value) (vs : Nat → Value) (ld lr : List XS) : Heap:=withL (statG bf bm bw fv mv (folsG vs ld lr) (movD ld)) (dynG vs ld lr)

theorem folsG_len (vs : Nat → Value) (ld lr : List XS) : (folsG vs ld lr).length = (dirsX ld).length:=by simp [folsG]
theorem folsG_get {vs : Nat → Value} {ld lr : List XS} {i : Nat} {s : XS} (h : (dirsX ld)[i]? = some s) : (folsG vs ld lr)[i]? = some (folD vs lr i s):=by
 rw [folsG,List.getElem?_mapIdx,h]; rfl
theorem dyn_at {vs : Nat → Value} {ld lr : List XS} {i : Nat} (h : i < (dirsX ld).length) : dynG vs ld lr (i + 300) = some (.own (vs i) (recsD lr i).length 8 117):=by
 rw [dynG,if_pos (by omega),Nat.add_sub_cancel]
theorem dyn_inv {vs : Nat → Value} {ld lr : List XS} {k : Nat} {o : HObj} (h : dynG vs ld lr k = some o) : ∃ i,k = i + 300 ∧ i < (dirsX ld).length ∧ o = .own (vs i) (recsD lr i).length 8 117:=by
 unfold dynG at h
 split at h
 ·rename_i h1
  refine ⟨k - 300,by omega,by omega,?_⟩
  exact (Option.some.inj h).symm
 ·cases h
theorem stat_none {bf bm bw : Nat} {fv mv : Value} {fs ms : List D} {k : Nat} (h : k < 200 ∨ 300 ≤ k) : look (statG bf bm bw fv mv fs ms) k = none:=by
 refine look_none fun p hp => ?_
 simp only [statG,List.mem_cons,List.mem_nil_iff,or_false] at hp
 rcases hp with rfl | rfl | rfl | rfl | rfl <;> simp <;> omega
theorem walk_low {bf bm bw : Nat} {fv mv : Value} {vs : Nat → Value} {ld lr : List XS} {k : Nat} (h : k < 200) : walkH bf bm bw fv mv vs ld lr k = none:=by
 rw [walkH,withL_none (stat_none (.inl h)),dynG,if_neg (by omega)]
/-- A new folder. -/
def vsNew (vs : Nat → Value) (i : Nat) (v : Value) : Nat → Value:=fun j => if j = i then v else vs j
theorem vsNew_at (vs : Nat → Value) (i : Nat) (v : Value) : vsNew vs i v i = v:=if_pos rfl
theorem vsNew_ne {vs : Nat → Value} {i j : Nat} {v : Value} (h : j ≠ i) : vsNew vs i v j = vs j:=if_neg h
theorem dirsX_snoc {l : List XS} {s : XS} (h : s.isDir = true) : dirsX (l ++ [s]) = dirsX l ++ [s]:=by rw [dirsX,List.filter_append]; simp [dirsX,h]
theorem dirsX_file {l : List XS} {s : XS} (h : s.isDir = false) : dirsX (l ++ [s]) = dirsX l:=by rw [dirsX,List.filter_append]; simp [dirsX,h]
theorem movX_snoc {l : List XS} {s : XS} (h : s.mv = true) : movX (l ++ [s]) = movX l ++ [s]:=by rw [movX,List.filter_append]; simp [movX,h]
theorem movX_stay {l : List XS} {s : XS} (h : s.mv = false) : movX (l ++ [s]) = movX l:=by rw [movX,List.filter_append]; simp [movX,h]
theorem inF_none {l : List XS} {i : Nat} (h : ∀ x ∈ l,x.fi < i) : recsD l i = []:=by
 rw [recsD,inF,List.filter_eq_nil_iff.2]
 ·rfl
 ·intro x hx
  have:=h x (List.mem_of_mem_drop hx)
  simp; omega
theorem recs_add {l : List XS} {s : XS} (h0 : 0 < l.length) (i : Nat) : recsD (l ++ [s]) i = if s.fi = i then recsD l i ++ [recD s] else recsD l i:=by
 rw [recsD,recsD,inF,inF,List.drop_append_of_le_length (by omega),List.filter_append]
 by_cases h : s.fi = i <;> simp [h]
theorem fols_new {vs : Nat → Value} {l lr : List XS} {s : XS} {v : Value} (h : s.isDir = true) (hr : recsD lr (dirsX l).length = []) :
  folsG vs l lr ++ [.agg (fdC s ++ [.sl (.own 0 v) 8 []])] = folsG (vsNew vs (dirsX l).length v) (l ++ [s]) lr:=by
 apply List.ext_getElem?
 intro i
 rcases Nat.lt_or_ge i (dirsX l).length with hi | hi
 ·rw [List.getElem?_append_left (by rw [folsG_len]; exact hi),folsG,folsG,List.getElem?_mapIdx,List.getElem?_mapIdx,dirsX_snoc h,List.getElem?_append_left hi,List.getElem?_eq_getElem hi]
  simp only [Option.map_some,folD,vsNew_ne (show i ≠ (dirsX l).length by omega)]
 ·rcases Nat.lt_or_ge (dirsX l).length i with hg | hg
  ·rw [List.getElem?_eq_none (by simp [folsG_len]; omega),List.getElem?_eq_none (by rw [folsG_len,dirsX_snoc h]; simp; omega)]
  ·have : i = (dirsX l).length:=by omega
   subst this
   have e : (folsG vs l lr).length = (dirsX l).length:=folsG_len _ _ _
   rw [List.getElem?_append_right (by omega),e,Nat.sub_self,folsG_get (s:=s) (by rw [dirsX_snoc h,List.getElem?_concat_length])]
   simp only [List.getElem?_cons_zero,folD,vsNew_at,hr]
theorem flat_app (a b : List D) : flat (a ++ b) = flat a ++ flat b:=by simp [flat]
theorem folsG_cells {vs : Nat → Value} {ld lr : List XS} : ∀ y ∈ folsG vs ld lr,y.cells.length = 7:=fun y hy => by
 obtain ⟨i,hi⟩:=List.mem_iff_getElem?.1 hy
 rw [folsG,List.getElem?_mapIdx] at hi
 cases h : (dirsX ld)[i]? with
 | none => rw [h] at hi; cases hi
 | some s => rw [h] at hi; cases hi; rfl
/-- A directory's place among the folders. -/
theorem Built.folder {rr : Bool} {n : NV} {l : List XS} (hb : Built rr n l) {s : XS} (hs : l[s.si]? = some s) (hd : s.isDir = true) : (dirsX l)[s.di]? = some s ∧ s.di < (dirsX l).length:=by
 obtain ⟨j,hj⟩:=List.mem_iff_getElem?.1 (List.mem_filter.2 ⟨List.mem_of_getElem? hs,hd⟩ : s ∈ dirsX l)
 have:=hb.dis j s hj
 subst this
 refine ⟨hj,?_⟩
 rcases Nat.lt_or_ge s.di (dirsX l).length with h | h
 ·exact h
 ·exact absurd ((List.getElem?_eq_none h).symm.trans hj) (by simp)
theorem Built.lv {rr : Bool} {n : NV} {l : List XS} (hb : Built rr n l) : ∀ (i : Nat) (s : XS),l[i]? = some s → 1 ≤ s.lv ∧ (i = 0 → s.lv = 1) ∧ (0 < i → 2 ≤ s.lv) ∧ (0 < i → s.isDir = true → 0 < s.di):=by
 intro i
 induction i using Nat.strongRecOn with
 | _ i ih =>
  intro s hs
  rcases Nat.eq_zero_or_pos i with rfl | hi
  ·rw [hb.root0.1] at hs; cases hs
   exact ⟨Int.le_refl _,fun _ => rfl,fun h => by omega,fun h => by omega⟩
  ·obtain ⟨p,hst⟩:=hb.at hi hs
   have hlt:=hst.ab
   rw [List.length_take] at hlt
   have hp : l[s.ab]? = some p:=by
    have:=hst.par
    rwa [List.getElem?_take,if_pos (by omega)] at this
   obtain ⟨h1,_,_,_⟩:=ih s.ab (by omega) p hp
   have hl:=hst.lv
   refine ⟨by omega,fun h => by omega,fun _ => by omega,fun _ hd => ?_⟩
   rw [hst.di]
   have h0:=hb.root0.1
   have hk:=hb.kind
   have : rootX rr n ∈ l.take i:=by
    have:=List.mem_of_getElem? (l:=l.take i) (i:=0) (a:=rootX rr n) (by rw [List.getElem?_take,if_pos hi]; exact h0)
    exact this
   exact List.length_pos_of_mem (List.mem_filter.2 ⟨this,by rw [XS.isDir,rootX,hk]; rfl⟩)
/-- Each node's folder stands. -/
theorem Built.fi_lt {rr : Bool} {n : NV} {l : List XS} (hb : Built rr n l) : ∀ x ∈ l,x.fi < (dirsX l).length:=fun x hx => by
 obtain ⟨i,hi⟩:=List.mem_iff_getElem?.1 hx
 rcases Nat.eq_zero_or_pos i with rfl | h0
 ·rw [hb.root0.1] at hi
  cases hi
  have:=hb.kind
  exact List.length_pos_of_mem (List.mem_filter.2 ⟨List.mem_of_getElem? hb.root0.1,by rw [XS.isDir,rootX,this]; rfl⟩)
 ·obtain ⟨p,hst⟩:=hb.at h0 hi
  have hlt:=hst.ab
  rw [List.length_take] at hlt
  have hp : l[x.ab]? = some p:=by
   have:=hst.par
   rwa [List.getElem?_take,if_pos (by omega)] at this
  rw [hst.fi]
  have hps:=hb.si hp
  exact (hb.folder (by rw [hps]; exact hp) hst.dir).2
end Go.Tame.V
/- Contracts: the walk of the program's Plan. By program (mkrh.py,mk.py). -/
namespace Go.Tame.V
open Go Go.Proofs
variable {W0 : World}
set_option maxRecDepth 10000
set_option linter.unusedVariables false
set_option linter.unusedSimpArgs false

def ti3 : List TEnt:=⟨115,false,1,8,.other,[],some [.raw .nilFunc],[]⟩::ti2
set_option maxRecDepth 100000 in
theorem ti3_ok : TOk Tryz.prog ti3:=TOk.of (by kernel_rfl)
theorem fols_lt {b : Bool} {i k : Nat} {d : D} {xs : List D} (h : k < xs.length) : (k : Int) < ((bif b then xs.set i d else xs).length : Int):=by
 cases b <;> simp only [cond_true,cond_false,List.length_set] <;> exact Int.ofNat_lt.2 h
theorem fols_lt' {b : Bool} {i k : Nat} {d : D} {xs : List D} (h : k < xs.length) : k < (bif b then xs.set i d else xs).length:=by
 cases b <;> simp only [cond_true,cond_false,List.length_set] <;> exact h
theorem withL_hi {L : List (Nat × HObj)} {dyn : Heap} (hL : (L.all fun p => Nat.blt p.1 300) = true) {k : Nat} (hk : 300 ≤ k) : withL L dyn k = dyn k :=
 withL_none (look_none fun p hp => by
  have:=List.all_eq_true.1 hL p hp
  have : p.1 < 300:=by simpa using this
  omega)
def dynX (d : Nat) (dyn : Heap) : Heap:=fun k => if k = d + 300 then none else dyn k
theorem dynX_inv {d : Nat} {vs : Nat → Value} {ld lr : List XS} {k : Nat} {o : HObj} (h : dynX d (dynG vs ld lr) k = some o) : k ≠ d + 300 ∧ 300 ≤ k ∧ dynG vs ld lr k = some o:=by
 unfold dynX at h
 split at h
 ·cases h
 ·rename_i h1
  obtain ⟨i,rfl,_,_⟩:=dyn_inv h
  exact ⟨h1,by omega,h⟩
theorem dyn_ge {vs : Nat → Value} {ld lr : List XS} {k : Nat} {o : HObj} (h : dynG vs ld lr k = some o) : 300 ≤ k:=by
 obtain ⟨i,rfl,_,_⟩:=dyn_inv h; omega
theorem fols_le {vs : Nat → Value} {l : List XS} {s x : XS} {v : Value} (hxf : (dirsX (l ++ [s]))[x.di]? = some x) (hsf : s.fi = x.di) (hl0 : 0 < l.length) :
  ∀ (i : Nat) (a b : D),((folsG vs (l ++ [s]) l).set x.di (.agg (setAt (fdC x ++ [.sl (.own 0 (vs x.di)) 8 (recsD l x.di)]) 6 (.sl (.own 148 v) 8 (recsD l x.di ++ [recD s])))))[i]? = some a →
   (folsG (vsNew vs x.di v) (l ++ [s]) (l ++ [s]))[i]? = some b → LeL a.cells b.cells:=fun i a b ha hb => by
 have hlt : x.di < (dirsX (l ++ [s])).length:=by
  rcases Nat.lt_or_ge x.di (dirsX (l ++ [s])).length with h | h
  ·exact h
  ·rw [List.getElem?_eq_none h] at hxf; cases hxf
 by_cases hi : x.di = i
 ·subst hi
  rw [List.getElem?_set_self (by rw [folsG_len]; exact hlt)] at ha
  rw [folsG_get hxf] at hb
  cases ha; cases hb
  simp only [folD,vsNew_at,recs_add hl0,if_pos hsf]
  exact ⟨.refl _,.refl _,.refl _,.refl _,.refl _,.refl _,DLe.own _ _,trivial⟩
 ·rw [List.getElem?_set_ne hi] at ha
  rw [folsG,List.getElem?_mapIdx] at ha hb
  cases h : (dirsX (l ++ [s]))[i]? with
  | none => rw [h] at ha; cases ha
  | some y =>
   rw [h] at ha hb
   cases ha; cases hb
   simp only [folD,vsNew_ne (show i ≠ x.di from fun e => hi e.symm),recs_add hl0,if_neg (show ¬ s.fi = i by omega)]
   exact LeL.refl _
theorem key_inj {H : Heap} {d : Nat} (h148 : H 148 = none) : ∀ k k' o o',H k = some o → H k' = some o' → (if k = d + 300 then 148 else k) = (if k' = d + 300 then 148 else k') → k = k':=fun k k' o o' h h' e => by
 by_cases h1 : k = d + 300 <;> by_cases h2 : k' = d + 300
 ·omega
 ·rw [if_pos h1,if_neg h2] at e; rw [← e,h148] at h'; cases h'
 ·rw [if_neg h1,if_pos h2] at e; rw [e,h148] at h; cases h
 ·rw [if_neg h1,if_neg h2] at e; exact e
theorem key_at {σ : DSt} {L : List (Nat × HObj)} {vs : Nat → Value} {l : List XS} {s x : XS} {v : Value} (hL : (L.all fun p => Nat.blt p.1 300) = true) (hS : SubH σ L) (hv : σ.H 148 = some (.own v ((recsD l x.di).length + 1) 8 117))
  (hd : ∀ k o,dynX x.di (dynG vs (l ++ [s]) l) k = some o → σ.H k = some o) (hsf : s.fi = x.di) (hl0 : 0 < l.length) :
  ∀ k o,withL L (dynG (vsNew vs x.di v) (l ++ [s]) (l ++ [s])) k = some o → σ.H (if k = x.di + 300 then 148 else k) = some o:=fun k o h => by
 unfold withL at h
 cases hl : look L k with
 | some o' =>
  rw [hl] at h; cases h
  have hk : k < 300:=by
   rcases Nat.lt_or_ge k 300 with h1 | h1
   ·exact h1
   ·have : look L k = none:=look_none fun p hp => by
     have:=List.all_eq_true.1 hL p hp
     have : p.1 < 300:=by simpa using this
     omega
    rw [this] at hl; cases hl
  rw [if_neg (by omega)]
  exact hS.look k _ hl
 | none =>
  rw [hl] at h
  obtain ⟨i,rfl,hi,rfl⟩:=dyn_inv h
  by_cases hii : i = x.di
  ·subst hii
   rw [if_pos rfl,hv,vsNew_at,recs_add hl0,if_pos hsf]; simp
  ·rw [if_neg (by omega)]
   refine hd _ _ ?_
   rw [dynX,if_neg (by omega),dyn_at hi,vsNew_ne hii,recs_add hl0,if_neg (by omega)]
/-- The keys that a call of the walk is handed. -/
def walkKeys : Keys:=Keys.same fun k => Nat.ble 200 k
theorem handed_walk {H : Heap} {bf bm bw : Nat} {fv mv : Value} {vs : Nat → Value} {ld lr : List XS} (h : ∀ k,200 ≤ k → H k = walkH bf bm bw fv mv vs ld lr k) : handedG H walkKeys = walkH bf bm bw fv mv vs ld lr:=by
 funext k
 unfold handedG walkKeys Keys.same
 cases hk : Nat.ble 200 k with
 | true => simp only [hk,cond_true]; exact h k (Nat.le_of_ble_eq_true hk)
 | false =>
  simp only [hk,cond_false]
  have : k < 200:=by
   rcases Nat.lt_or_ge k 200 with h1 | h1
   ·exact h1
   ·rw [Nat.ble_eq_true_of_le h1] at hk; cases hk
  exact (walk_low this).symm
theorem back_walk {H H' : Heap} {k : Nat} (hk : 200 ≤ k) : backG H H' walkKeys k = H' k:=by
 unfold backG walkKeys Keys.same
 simp only [Nat.ble_eq_true_of_le hk,cond_true]
theorem walk_ge {bf bm bw : Nat} {fv mv : Value} {vs : Nat → Value} {ld lr : List XS} {k : Nat} {o : HObj} (h : walkH bf bm bw fv mv vs ld lr k = some o) : 200 ≤ k:=by
 rcases Nat.lt_or_ge k 200 with h1 | h1
 ·rw [walk_low h1] at h; cases h
 ·exact h1
theorem withL_two {a b : Nat × HObj} {L : List (Nat × HObj)} {dyn : Heap} {k : Nat} (ha : a.1 < 200) (hb : b.1 < 200) (hk : 200 ≤ k) : withL (a::b::L) dyn k = withL L dyn k:=by
 obtain ⟨i,o⟩:=a
 obtain ⟨j,o'⟩:=b
 have h1 : Nat.beq k i = false:=by
  cases h : Nat.beq k i with
  | false => rfl
  | true => have:=Nat.eq_of_beq_eq_true h; simp at ha; omega
 have h2 : Nat.beq k j = false:=by
  cases h : Nat.beq k j with
  | false => rfl
  | true => have:=Nat.eq_of_beq_eq_true h; simp at hb; omega
 unfold withL
 simp only [look,h1,h2,cond_false]
theorem recC_file {s : XS} (hd : s.isDir = false) (hm : s.mv = false) : recC s = [.str s.path,.str s.id,.int .i64 0,.int .i64 (-1),.bool (!s.iso),.bool s.rock,.bool false,.int .i64 (-1)]:=by
 rw [recC,hd,hm]; rfl
theorem recC_dir {s : XS} (hd : s.isDir = true) (hm : s.mv = false) : recC s = [.str s.path,.str s.id,.int .i64 0,.int .i64 (-1),.bool (!s.iso),.bool s.rock,.bool false,.int .i64 (s.di : Int)]:=by
 rw [recC,hd,hm]; rfl
theorem recC_mv {s : XS} (hd : s.isDir = true) (hm : s.mv = true) : recC s = [.str s.path,.str s.file,.int .i64 0,.int .i64 (-1),.bool (!s.iso),.bool s.rock,.bool true,.int .i64 (s.di : Int)]:=by
 rw [recC,hd,hm]; rfl
theorem fdC_dir {s : XS} (hs : s.si ≠ 0) (hm : s.mv = false) : fdC s = [.str s.path,.str s.id,.int .i64 s.lev,.int .i64 (s.fi : Int),.int .i64 (s.fi : Int),.bool false]:=by
 rw [fdC,if_neg hs,hm]; rfl
theorem fdC_mv {s : XS} (hs : s.si ≠ 0) (hm : s.mv = true) : fdC s = [.str s.path,.str (68::Lib.decDigits s.mno),.int .i64 s.lev,.int .i64 (-1),.int .i64 (s.fi : Int),.bool true]:=by
 rw [fdC,if_neg hs,hm]; rfl
/-- Without a new folder nothing changes. -/
theorem fols_file {vs : Nat → Value} {l lr : List XS} {s : XS} (h : s.isDir = false) : folsG vs (l ++ [s]) lr = folsG vs l lr:=by rw [folsG,folsG,dirsX_file h]
theorem dyn_file {vs : Nat → Value} {l lr : List XS} {s : XS} (h : s.isDir = false) : dynG vs (l ++ [s]) lr = dynG vs l lr:=by
 funext k; rw [dynG,dynG,dirsX_file h]
theorem dyn_new {vs : Nat → Value} {l lr : List XS} {s : XS} {v : Value} (h : s.isDir = true) {k : Nat} {o : HObj} (hk : dynG (vsNew vs (dirsX l).length v) (l ++ [s]) lr k = some o) :
  (k = (dirsX l).length + 300 ∧ o = .own v (recsD lr (dirsX l).length).length 8 117) ∨ (k ≠ (dirsX l).length + 300 ∧ dynG vs l lr k = some o):=by
 obtain ⟨i,rfl,hi,rfl⟩:=dyn_inv hk
 rw [dirsX_snoc h,List.length_append] at hi
 by_cases e : i = (dirsX l).length
 ·subst e; rw [vsNew_at]; exact .inl ⟨rfl,rfl⟩
 ·rw [vsNew_ne e,dyn_at (by simp at hi; omega)]; exact .inr ⟨by omega,rfl⟩

theorem lookup_mem : ∀ {m : List (Nat × Nat)} {k s : Nat},keysOk m = true → (k,s) ∈ m → m.lookup k = some s
 | (a,b)::r,k,s,hm,h => by
  rcases List.mem_cons.1 h with e | h'
  ·cases e; simp [List.lookup]
  ·have h1:=keysOk_spec hm a b k s List.mem_cons_self h
   have hr : keysOk r = true:=by
    simp only [keysOk,Bool.and_eq_true] at hm; exact hm.2
   have hne : (k == a) = false:=by
    rw [beq_eq_false_iff_ne]
    intro e
    have h2:=h1.1 e.symm
    simp only [keysOk,Bool.and_eq_true,List.all_eq_true,Bool.not_eq_true'] at hm
    have h3:=(hm.1 (k,s) h').1
    rw [e,Nat.beq_refl] at h3; cases h3
   rw [List.lookup,hne]
   exact lookup_mem hr h'
/-- The kept objects under other keys,and a family behind them. -/
theorem SubG.ofM {σ : DSt} {l : List (Nat × D)} {L : List (Nat × HObj)} {dyn : Heap} {m : List (Nat × Nat)} (h1 : SubT σ l) (ok : keysOk m = true) (hM : SubM σ m L) (hm : (m.all fun p => Nat.blt p.1 300 && Nat.blt p.2 300) = true)
  (hd : ∀ k o,dyn k = some o → 300 ≤ k ∧ σ.H k = some o) : SubG σ l (withL L dyn):=by
 have hlt : ∀ k s,(k,s) ∈ m → k < 300 ∧ s < 300:=fun k s h => by
  have:=List.all_eq_true.1 hm _ h
  simpa using this
 have key : ∀ k o,withL L dyn k = some o → (∃ s,(k,s) ∈ m ∧ σ.H s = some o) ∨ (300 ≤ k ∧ σ.H k = some o):=fun k o h => by
  unfold withL at h
  cases hl : look L k with
  | some o' => rw [hl] at h; cases h; exact .inl (hM.look k _ hl)
  | none => rw [hl] at h; exact .inr (hd k o h)
 refine ⟨h1,fun k => if 300 ≤ k then k else (m.lookup k).getD 0,fun k k' o o' h h' e => ?_,fun k o h => ?_⟩
 ·dsimp only at e
  rcases key k o h with ⟨s,hs,_⟩ | ⟨h2,_⟩ <;> rcases key k' o' h' with ⟨s',hs',_⟩ | ⟨h2',_⟩
  ·have h3:=(hlt k s hs).1
   have h3':=(hlt k' s' hs').1
   rw [if_neg (by omega),if_neg (by omega),lookup_mem ok hs,lookup_mem ok hs'] at e
   exact (keysOk_spec ok k s k' s' hs hs').2 e
  ·have h3:=hlt k s hs
   rw [if_neg (by omega),if_pos h2',lookup_mem ok hs] at e
   simp at e; omega
  ·have h3:=hlt k' s' hs'
   rw [if_pos h2,if_neg (by omega),lookup_mem ok hs'] at e
   simp at e; omega
  ·rw [if_pos h2,if_pos h2'] at e; exact e
 ·dsimp only
  rcases key k o h with ⟨s,hs,h3⟩ | ⟨h2,h3⟩
  ·have h4:=(hlt k s hs).1
   rw [if_neg (by omega),lookup_mem ok hs]; exact h3
  ·rw [if_pos h2]; exact h3
theorem Tri.ghost {nt : Nat} {Γ : Ctx Tryz.prog W0 nt} {σ : DSt} {K : DExit → DSt → Prop} {c : Code} {α : Type} (l : α → List (Nat × D)) (H : α → Heap) (h : ∀ z,Tri Γ c (StG (l z) (H z)) K) (g : (∀ z,Tri Γ c (StG (l z) (H z)) K) → Tri Γ c σ K) : Tri Γ c σ K:=g h
theorem DCall.walk {f : FuncId} {ds : List D} {Q : D → Heap → Prop} {H : Heap} {bf bm bw : Nat} {fv mv : Value} {vs : Nat → Value} {ld lr : List XS} (h : ∀ k,200 ≤ k → H k = walkH bf bm bw fv mv vs ld lr k) (hc : DCall Tryz.prog W0 f ds (walkH bf bm bw fv mv vs ld lr) Q) : DCall Tryz.prog W0 f ds (handedG H walkKeys) Q:=by
 rw [handed_walk h]; exact hc
theorem okDL_of : ∀ {l : List NV},(∀ k ∈ l,okD k) → okDL l
 | [],_ => trivial
 | k::r,h => ⟨h k List.mem_cons_self,okDL_of fun x hx => h x (List.mem_cons_of_mem _ hx)⟩
theorem identI_len (m : List UInt8) (b : Bool) : (identI m b).1.length ≤ m.length + 3:=by
 unfold identI
 split
 ·split
  ·simp
  ·split <;> simp
 ·simp
set_option maxHeartbeats 4000000 in
theorem G89 (hL : LibOk W0) (rr : Bool) (n0 : NV) : ∀ (N : Nat) (n : NV),sz n < N → okT n → okD n → ∀ (x : XS) (c : Cn) (l0 : List XS) (bf bm bw : Nat) (fv mv : Value) (vs : Nat → Value),x.n = n → Built rr n0 l0 → l0[x.si]? = some x → x.isDir = true → CnOk c l0 → l0.length + cnt n < 100 → x.path.length + 1200 * sz n < 1000000000 → x.lv + sz n < 1000000000 → DCall Tryz.prog W0 89 [encTop n,.int .i64 (x.di : Int),.int .i64 x.lv,.bool x.iso,.bool x.rock,.box 200 bf 0,.box 201 bm 0,.box 202 bw 0] (walkH bf bm bw fv mv vs l0 l0) fun d H' => d = .tup [] ∧ ∃ fv' mv' vs',H' = walkH bf bm bw fv' mv' vs' (l0 ++ spT n x c) (l0 ++ spT n x c):=by
 refine fun N => Nat.rec (fun n h => absurd h (Nat.not_lt_zero _)) (fun N ih n hN hok hokd x c l0 bf bm bw fv mv vs hxn hb hx hxd hc0 hlen hpl hlv => ?_) N
 obtain ⟨h64,_,hinc,hokl⟩:=(okT_eq n).1 hok
 have hokd2:=((okD_eq n).1 hokd).2
 have hnk : ∀ k ∈ n.kids,nameOk k.name = true ∧ k.name.length < 1000000000:=fun k hk => (okL_get hokl hk).1
 have hnl:=namesG_len 0 n.kids
 have hcnt:=cnt_eq n
 obtain ⟨hlv1,_⟩:=hb.lv _ _ hx
 have hxl0 : x.si < l0.length:=by
  rcases Nat.lt_or_ge x.si l0.length with h | h
  ·exact h
  ·rw [List.getElem?_eq_none h] at hx; cases hx
 have h0eq : l0 ++ spL (n.kids.take 0) ((namesG 0 n.kids).take 0) x c = l0:=by simp [spL]
 refine DCall.intro ti3_ok Tryz.func89 rfl (by decide +kernel) Tryz.ntmps89 rfl fun Γ => ?_
 refine Tri.seq ?_
 refine Tri.region ti2_ok ?_
 conv => whnf
 intro b8
 conv => whnf
 refine Tri.seq ?_
 refine Tri.region ti2_ok ?_
 conv => whnf
 refine ⟨rfl,?_⟩
 conv => whnf
 refine ⟨[.int .i64 0,.sl .none 12 (n.kids.map enc)],_,fun _ => ((namesGok hL (v:=0) (by decide)).call n.kids h64 hinc hnk).1,⟨.refl _,.refl _,trivial⟩,?_⟩
 conv => whnf
 refine Tri.seq ?_
 refine Tri.region ti2_ok ?_
 conv => whnf
 refine ⟨rfl,?_⟩
 conv => whnf
 refine Tri.block ?_
 refine Tri.loopG (α:={ i : Nat // i ≤ n.kids.length } × Value × Value × (Nat → Value)) (fun z => [(1,.int .i64 (x.di : Int)),(2,.int .i64 x.lv),(3,.bool x.iso),(4,.bool x.rock),(5,.box 200 bf 0),(6,.box 201 bm 0),(7,.box 202 bw 0),(13,.sl .none 1 (strs (namesG 0 n.kids))),(33,.sl .none 12 (n.kids.map enc)),(34,.int .i64 (n.kids.map enc).length),(35,.int .i64 (z.1.1 : Int))])
  (fun z => walkH bf bm bw z.2.1 z.2.2.1 z.2.2.2 (l0 ++ spL (n.kids.take z.1.1) ((namesG 0 n.kids).take z.1.1) x c) (l0 ++ spL (n.kids.take z.1.1) ((namesG 0 n.kids).take z.1.1) x c)) (fun z => n.kids.length - z.1.1) (⟨0,Nat.zero_le _⟩,fv,mv,vs)
  (.same ⟨.refl _,.refl _,.refl _,.refl _,.refl _,.refl _,.refl _,.refl _,.refl _,.refl _,.refl _,trivial⟩ (fun q o h => by rw [h0eq] at h; exact (setH_ne _ _ (by have:=walk_ge h; omega)).trans h)) ?_
 rintro ⟨⟨i,hi⟩,fv,mv,vs⟩
 try dsimp only
 refine Tri.seq ?_
 refine Tri.region ti2_ok ?_
 conv => whnf
 refine Tri.seq ?_
 refine Tri.cond (decide ((i : Int) < (n.kids.map enc).length)) rfl (fun hc => ?_) (fun hc => ?_)
 ·refine Tri.skip ?_
  conv => whnf
  have hia : i < n.kids.length:=by simpa using hc
  have hiu : i < (namesG 0 n.kids).length:=by omega
  obtain ⟨A,B,hform⟩:=names_form h64 (fun k hk => (hnk k hk).1) hia
  have hkz:=kid_sz hia
  have hkc:=kid_cnt hia
  have hsl:=spL_len (n.kids.take i) ((namesG 0 n.kids).take i) x c
  have hnx:=congrArg (fun z => l0 ++ z) (spL_next x hia hiu c)
  try dsimp only at hnx
  rw [← List.append_assoc] at hnx
  have hkm:=List.getElem_mem hia
  have hbl : Built rr n0 (l0 ++ spL (n.kids.take i) ((namesG 0 n.kids).take i) x c):=built_L rr n0 _ _ x c l0 hb hxd (fun k hk => by rw [hxn]; exact List.mem_of_mem_take hk) (okDL_of fun k hk => okDL_get hokd2 (List.mem_of_mem_take hk)) hx hc0
  have hcn2:=hc0.addL (m:=spL (n.kids.take i) ((namesG 0 n.kids).take i) x c)
  have hxl : (l0 ++ spL (n.kids.take i) ((namesG 0 n.kids).take i) x c)[x.si]? = some x:=by rw [List.getElem?_append_left hxl0]; exact hx
  have hll : (l0 ++ spL (n.kids.take i) ((namesG 0 n.kids).take i) x c).length ≤ l0.length + cntL (n.kids.take i):=by rw [List.length_append]; omega
  have hkd : (n.kids.map enc)[i]? = some (encTop n.kids[i]):=get_kid hia
  have hkt : okT n.kids[i]:=(okL_get hokl hkm).2
  have hkd0 : okD n.kids[i]:=okDL_get hokd2 hkm
  have hkn:=(hnk _ hkm).2
  have hkin : n.kids[i] ∈ x.n.kids:=by rw [hxn]; exact hkm
  have hstep:=child_step (k:=n.kids[i]) (m:=(namesG 0 n.kids)[i]) hxl hxd hcn2 hkin
  have hform2:=hform.len
  have hmd : (strs (namesG 0 n.kids))[i]? = some (.str (namesG 0 n.kids)[i]):=by simp [strs,hiu]
  generalize n.kids[i] = k at *
  generalize (namesG 0 n.kids)[i] = m at *
  generalize l0 ++ spL (n.kids.take i) ((namesG 0 n.kids).take i) x c = l at *
  generalize c.addL (spL (n.kids.take i) ((namesG 0 n.kids).take i) x c) = c2 at *
  have hsn : (child x k m c2).n = k:=rfl
  have hspath : (child x k m c2).path = below x.path k.name (x.lv + 1):=rfl
  have hsid : (child x k m c2).id = (identI m (k.kind == 0)).1:=rfl
  have hsfile : (child x k m c2).file = (identI m false).1:=rfl
  have hsiso : (child x k m c2).iso = (x.iso && shown 0 k (x.lv + 1)):=rfl
  have hsrock : (child x k m c2).rock = (x.rock && shown 2 k (x.lv + 1)):=rfl
  have hslv : (child x k m c2).lv = x.lv + 1:=rfl
  have hsdir : (child x k m c2).isDir = (k.kind == 0):=rfl
  have hsany : (child x k m c2).any = ((child x k m c2).iso || (child x k m c2).rock):=rfl
  generalize child x k m c2 = s at *
  have hblen:=below_len x.path k.name (x.lv + 1)
  have hidl:=identI_len m (k.kind == 0)
  have hfil:=identI_len m false
  obtain ⟨hxf,hxlt⟩:=hbl.folder hxl hxd
  have hl0 : 0 < l.length:=hbl.root0.2
  have hxlev:=hbl.lev _ _ hxl
  refine Tri.seq ?_
  refine Tri.block ?_
  refine Tri.seq ?_
  refine Tri.region ti2_ok ?_
  conv => whnf
  refine ⟨fun _ => by simp; omega,?_⟩
  conv => whnf
  refine ⟨encTop k,fun _ => hkd,?_⟩
  conv => whnf
  intro b16
  conv => whnf
  refine ⟨rfl,?_⟩
  conv => whnf
  refine Tri.seq ?_
  refine Tri.region ti2_ok ?_
  conv => whnf
  refine ⟨rfl,?_⟩
  conv => whnf
  refine ⟨fun h => h,?_⟩
  conv => whnf
  refine .inl ⟨fun h => by simp [InR]; omega,?_⟩
  conv => whnf
  refine ⟨fun h => h,?_⟩
  conv => whnf
  refine ⟨fun h => h,?_⟩
  conv => whnf
  refine ⟨[.int .i64 0,encTop k,.int .i64 (x.lv + 1)],_,fun h => F106 0 k (x.lv + 1),⟨.refl _,.refl _,.refl _,trivial⟩,?_⟩
  conv => whnf
  refine ⟨fun h0 h => by first | exact h | (rw [h]; rfl) | (rw [h0,h]; rfl),?_⟩
  conv => whnf
  refine Tri.seq ?_
  refine Tri.region ti2_ok ?_
  conv => whnf
  refine ⟨rfl,?_⟩
  conv => whnf
  refine ⟨fun h => h,?_⟩
  conv => whnf
  refine .inl ⟨fun h => by simp [InR]; omega,?_⟩
  conv => whnf
  refine ⟨fun h => h,?_⟩
  conv => whnf
  refine ⟨fun h => h,?_⟩
  conv => whnf
  refine ⟨[.int .i64 2,encTop k,.int .i64 (x.lv + 1)],_,fun h => F106 2 k (x.lv + 1),⟨.refl _,.refl _,.refl _,trivial⟩,?_⟩
  conv => whnf
  refine ⟨fun h0 h => by first | exact h | (rw [h]; rfl) | (rw [h0,h]; rfl),?_⟩
  conv => whnf
  rw [show (bif x.iso then shown 0 k (x.lv + 1) else false) = s.iso by rw [bif_and,hsiso],show (bif x.rock then shown 2 k (x.lv + 1) else false) = s.rock by rw [bif_and,hsrock]]
  refine Tri.seq ?_
  refine Tri.seq ?_
  refine Tri.region ti2_ok ?_
  conv => whnf
  refine ⟨fun h => h,?_⟩
  conv => whnf
  refine ⟨fun h0 h => by first | exact h | (rw [h]; rfl) | (rw [h0,h]; rfl),?_⟩
  conv => whnf
  refine Tri.cond _ rfl (fun hc => ?_) (fun hc => ?_)
  ·refine Tri.exit ?_
   conv => whnf
   refine Tri.region ti2_ok ?_
   conv => whnf
   refine .inl ⟨fun _ => by simp [InR]; omega,?_⟩
   conv => whnf
   have hno : ¬ s.any = true:=by
    rw [hsany]
    cases h1 : s.iso <;> cases h2 : s.rock <;> rw [h1,h2] at hc <;> first | (cases hc; done) | decide
   rw [if_neg hno,List.append_nil] at hnx
   exact ⟨(⟨i + 1,hia⟩,fv,mv,vs),by show _ - (i + 1) < _ - i; omega,.same ⟨.refl _,.refl _,.refl _,.refl _,.refl _,.refl _,.refl _,.refl _,.refl _,.refl _,.refl _,trivial⟩ (fun q o h => by dsimp only at h; rw [hnx] at h; have:=walk_ge h; exact (setH_ne _ _ (by omega)).trans ((setH_ne _ _ (by omega)).trans h))⟩
  ·refine Tri.skip ?_
   conv => whnf
   have hany : s.any = true:=by
    rw [hsany]
    cases h1 : s.iso <;> cases h2 : s.rock <;> rw [h1,h2] at hc <;> first | (cases hc; done) | decide
   rw [if_pos hany] at hnx
   have hnx2 : l0 ++ spL (List.take (i + 1) n.kids) (List.take (i + 1) (namesG 0 n.kids)) x c = (l ++ [s]) ++ spT k s (c2.add s):=by rw [hnx]; simp
   clear hnx
   have hnx:=hnx2
   clear hnx2
   have hst:=hstep hany
   have hbs:=hbl.snoc hst
   have hsat : (l ++ [s])[s.si]? = some s:=by rw [hst.si]; simp
   have hkk : ¬ k.kind = 0 → k.kids = []:=((okD_eq k).1 hkd0).1
   have hlfi:=hbl.fi_lt
   refine Tri.seq ?_
   refine Tri.regionG ti3_ok ?_
   conv => whnf
   refine ⟨rfl,trivial,.inl ?_⟩
   conv => whnf
   refine ⟨rfl,?_⟩
   conv => whnf
   refine ⟨rfl,trivial,.inl ?_⟩
   conv => whnf
   refine ⟨rfl,trivial,.inr (XOp.rowIndex ti3_ok 203 rfl rfl rfl rfl rfl rfl rfl (by omega) (by rw [folsG_len]; exact Int.ofNat_lt.2 hxlt) ?_)⟩
   conv => whnf
   refine ⟨rfl,trivial,.inr (XOp.rowField ti3_ok 203 (i:=x.di) rfl rfl (by rw [folsG_len]; exact hxlt) rfl rfl rfl (by decide) ?_)⟩
   conv => whnf
   refine ⟨rfl,trivial,.inr (XOp.rowLoad ti3_ok 203 (i:=x.di) (by rw [Int.toNat_natCast]; rfl) rfl rfl (folsG_get hxf) ?_)⟩
   conv => whnf
   refine ⟨rfl,trivial,.inl ?_⟩
   conv => whnf
   intro b19
   conv => whnf
   refine ⟨rfl,trivial,.inl ?_⟩
   conv => whnf
   refine ⟨rfl,?_⟩
   conv => whnf
   refine Tri.seq ?_
   refine Tri.region ti2_ok ?_
   conv => whnf
   refine ⟨rfl,?_⟩
   conv => whnf
   refine Tri.joinG (α:=Unit) (fun _ => [(1,.int .i64 (x.di : Int)),(2,.int .i64 x.lv),(3,.bool x.iso),(4,.bool x.rock),(5,.box 200 bf 0),(6,.box 201 bm 0),(7,.box 202 bw 0),(13,.sl .none 1 (strs (namesG 0 n.kids))),(33,.sl .none 12 (n.kids.map enc)),(34,.int .i64 (n.kids.map enc).length),(35,.int .i64 (i : Int)),(15,.int .i64 (i : Int)),(16,.box 16 b16 0),(17,.bool s.iso),(18,.bool s.rock),(19,.box 19 b19 0),(20,.str s.path)]) (fun _ => withL [(16,.box b16 [.str k.name,.int .i64 k.kind,.str k.text,.str k.target,.int .i64 k.n1,.int .i64 k.n2,.int .i64 k.n3,.int .i64 k.n4,.int .i64 k.n5,.int .i64 k.n6,.sl .none 12 (k.kids.map enc),.sl .none 2 (k.streams.map encS)]),(19,.box b19 (fdC x)),(200,.box bf [.raw fv]),(201,.box bm [.sl (.own 204 mv) 1 (movD l)]),(202,.box bw [walkFn bf bm bw]),(203,.row fv (folsG vs l l) 7 113),(204,.own mv (movD l).length 1 3)] (dynG vs l l)) ?_ ?_
   ·refine Tri.seq ?_
    refine Tri.region ti2_ok ?_
    conv => whnf
    refine Tri.cond (decide ((0 : Int) < (x.di : Int))) rfl (fun hc => ?_) (fun hc => ?_)
    ·refine Tri.region ti2_ok ?_
     conv => whnf
     refine ⟨rfl,?_⟩
     conv => whnf
     refine ⟨fun _ => by simp; omega,?_⟩
     conv => whnf
     refine ⟨rfl,?_⟩
     conv => whnf
     refine ⟨fun _ => by simp; omega,?_⟩
     conv => whnf
     have hxd0 : 0 < x.di:=by simpa using hc
     have hlv2 : ¬ x.lv + 1 ≤ 2:=by
      rcases Nat.eq_zero_or_pos x.si with h | h
      ·rw [h,hbl.root0.1] at hxl
       cases hxl
       exact absurd hxd0 (Nat.lt_irrefl 0)
      ·have:=(hbl.lv _ _ hxl).2.2.1 h; omega
     exact ⟨(),SubG.ofM (m:=[(16,16),(19,19),(200,200),(201,201),(202,202),(203,203),(204,204)]) ⟨.refl _,.refl _,.refl _,.refl _,.refl _,.refl _,.refl _,.refl _,.refl _,.refl _,.refl _,.refl _,.refl _,.refl _,.refl _,.refl _,DLe.of_eq (congrArg D.str (by rw [hspath,below,if_neg hlv2])),trivial⟩ rfl ⟨rfl,rfl,rfl,rfl,rfl,rfl,rfl,rfl,rfl,rfl,rfl,rfl,rfl,rfl,trivial⟩ rfl (fun q o h => by obtain ⟨j,rfl,_,_⟩:=dyn_inv h; exact ⟨by omega,h⟩)⟩
    ·refine Tri.skip ?_
     conv => whnf
     have hxd0 : x.di = 0:=by simp at hc; omega
     have hlv2 : x.lv + 1 ≤ 2:=by
      rcases Nat.eq_zero_or_pos x.si with h | h
      ·have:=(hbl.lv _ _ hxl).2.1 h; omega
      ·have:=(hbl.lv _ _ hxl).2.2.2 h hxd; omega
     exact ⟨(),SubG.ofM (m:=[(16,16),(19,19),(200,200),(201,201),(202,202),(203,203),(204,204)]) ⟨.refl _,.refl _,.refl _,.refl _,.refl _,.refl _,.refl _,.refl _,.refl _,.refl _,.refl _,.refl _,.refl _,.refl _,.refl _,.refl _,DLe.of_eq (congrArg D.str (by rw [hspath,below,if_pos hlv2])),trivial⟩ rfl ⟨rfl,rfl,rfl,rfl,rfl,rfl,rfl,rfl,rfl,rfl,rfl,rfl,rfl,rfl,trivial⟩ rfl (fun q o h => by obtain ⟨j,rfl,_,_⟩:=dyn_inv h; exact ⟨by omega,h⟩)⟩
   ·rintro ⟨⟩
    refine Tri.seq ?_
    refine Tri.region ti2_ok ?_
    conv => whnf
    refine ⟨rfl,?_⟩
    conv => whnf
    rw [← hsdir]
    refine Tri.seq ?_
    refine Tri.region ti2_ok ?_
    conv => whnf
    refine ⟨fun _ => by simp [strs]; omega,?_⟩
    conv => whnf
    refine ⟨.str m,fun _ => hmd,?_⟩
    conv => whnf
    refine ⟨[.str m,.bool (k.kind == 0)],_,fun _ => G32 hL m _ (by omega),⟨.refl _,DLe.of_eq (congrArg D.bool hsdir),trivial⟩,?_⟩
    conv => whnf
    rw [← hsid]
    refine Tri.seq ?_
    refine Tri.region ti2_ok ?_
    conv => whnf
    intro b24
    conv => whnf
    refine ⟨rfl,?_⟩
    conv => whnf
    refine Tri.joinG (α:=Value × Value × Nat) (fun _ => [(1,.int .i64 (x.di : Int)),(2,.int .i64 x.lv),(3,.bool x.iso),(4,.bool x.rock),(5,.box 200 bf 0),(6,.box 201 bm 0),(7,.box 202 bw 0),(13,.sl .none 1 (strs (namesG 0 n.kids))),(33,.sl .none 12 (n.kids.map enc)),(34,.int .i64 (n.kids.map enc).length),(35,.int .i64 (i : Int)),(15,.int .i64 (i : Int)),(16,.box 16 b16 0),(17,.bool s.iso),(18,.bool s.rock),(21,.bool s.isDir),(24,.box 24 b24 0)]) (fun z => withL [(16,.box b16 [.str k.name,.int .i64 k.kind,.str k.text,.str k.target,.int .i64 k.n1,.int .i64 k.n2,.int .i64 k.n3,.int .i64 k.n4,.int .i64 k.n5,.int .i64 k.n6,.sl .none 12 (k.kids.map enc),.sl .none 2 (k.streams.map encS)]),(24,.box b24 (recC s)),(200,.box bf [.raw z.1]),(201,.box bm [.sl (.own z.2.2 z.2.1) 1 (movD (l ++ [s]))]),(202,.box bw [walkFn bf bm bw]),(203,.row z.1 (if s.isDir then folsG vs l l ++ [.agg (fdC s ++ [.nils])] else folsG vs l l) 7 113),(204,.own z.2.1 (movD (l ++ [s])).length 1 3)] (dynG vs l l)) ?_ ?_
    ·refine Tri.seq ?_
     refine Tri.region ti2_ok ?_
     conv => whnf
     refine Tri.cond s.isDir rfl (fun hd => ?_) (fun hd => ?_)
     ·refine Tri.seq ?_
      refine Tri.region ti2_ok ?_
      conv => whnf
      refine ⟨rfl,?_⟩
      conv => whnf
      refine .inl ⟨fun _ => by simp [InR]; omega,?_⟩
      conv => whnf
      intro b25
      conv => whnf
      refine ⟨rfl,?_⟩
      conv => whnf
      refine Tri.seq ?_
      refine Tri.regionG ti3_ok ?_
      conv => whnf
      refine ⟨rfl,trivial,.inl ?_⟩
      conv => whnf
      refine ⟨rfl,?_⟩
      conv => whnf
      refine ⟨rfl,trivial,.inr (XOp.rowLen ti3_ok 203 rfl rfl rfl rfl ?_)⟩
      conv => whnf
      refine ⟨rfl,trivial,.inl ?_⟩
      conv => whnf
      refine ⟨rfl,trivial,.inl ?_⟩
      conv => whnf
      refine ⟨rfl,?_⟩
      conv => whnf
      have hfl : ((folsG vs l l).length : Int) = (s.di : Int):=by rw [folsG_len,hst.di]
      rw [hfl]
      refine Tri.seq ?_
      refine Tri.seq ?_
      refine Tri.region ti2_ok ?_
      conv => whnf
      refine ⟨rfl,?_⟩
      conv => whnf
      refine Tri.cond (decide ((8 : Int) < x.lev + 1)) rfl (fun hc => ?_) (fun hc => ?_)
      ·refine Tri.seq ?_
       refine Tri.region ti2_ok ?_
       conv => whnf
       refine ⟨rfl,?_⟩
       conv => whnf
       refine ⟨rfl,?_⟩
       conv => whnf
       refine ⟨trivial,?_⟩
       conv => whnf
       refine ⟨rfl,rfl,?_⟩
       conv => whnf
       refine ⟨by show (_ + _) * 8 ≤ _; rw [movD,List.length_map]; have:=List.length_filter_le XS.mv l; simp only [List.map_cons,List.map_nil,List.length_cons,List.length_nil]; unfold movX; omega,by show _ + _ ≤ _; rw [movD,List.length_map]; have:=List.length_filter_le XS.mv l; simp only [List.map_cons,List.map_nil,List.length_cons,List.length_nil]; unfold movX; omega,(fun h => by cases h),fun v => ?_⟩
       conv => whnf
       refine ⟨rfl,?_⟩
       conv => whnf
       refine Tri.seq ?_
       refine Tri.region ti2_ok ?_
       conv => whnf
       refine ⟨rfl,?_⟩
       conv => whnf
       have hmno : ((movD l ++ [D.int .i64 (s.di : Int)]).length : Int) = (s.mno : Int):=by rw [List.length_append,movD,List.length_map,hst.mno]; rfl
       have hmnl : s.mno < 100:=by rw [hst.mno]; have:=List.length_filter_le XS.mv l; unfold movX; omega
       have hdgl:=dig_len s.mno hmnl
       refine ⟨[.int .i64 (s.mno : Int)],_,fun _ => F143 s.mno hmnl,⟨intDLe hmno,trivial⟩,?_⟩
       conv => whnf
       refine ⟨fun _ => by simp; omega,?_⟩
       conv => whnf
       refine ⟨rfl,?_⟩
       conv => whnf
       refine ⟨rfl,?_⟩
       conv => whnf
       refine ⟨rfl,?_⟩
       conv => whnf
       refine ⟨rfl,?_⟩
       conv => whnf
       refine Tri.seq ?_
       refine Tri.region ti2_ok ?_
       conv => whnf
       refine ⟨fun _ => by simp [strs]; omega,?_⟩
       conv => whnf
       refine ⟨.str m,fun _ => hmd,?_⟩
       conv => whnf
       refine ⟨[.str m,.bool false],_,fun _ => G32 hL m _ (by omega),⟨.refl _,.refl _,trivial⟩,?_⟩
       conv => whnf
       refine ⟨rfl,?_⟩
       conv => whnf
       refine Tri.region ti2_ok ?_
       conv => whnf
       refine ⟨rfl,?_⟩
       conv => whnf
       refine Tri.regionG ti3_ok ?_
       conv => whnf
       refine ⟨rfl,trivial,.inl ?_⟩
       conv => whnf
       refine ⟨rfl,?_⟩
       conv => whnf
       refine ⟨rfl,trivial,.inl ?_⟩
       conv => whnf
       refine ⟨rfl,?_⟩
       conv => whnf
       refine ⟨rfl,trivial,.inl ?_⟩
       conv => whnf
       refine ⟨rfl,trivial,.inl ?_⟩
       conv => whnf
       refine ⟨trivial,?_⟩
       conv => whnf
       refine ⟨rfl,trivial,.inr (XOp.rowAppend ti3_ok 203 rfl rfl rfl (fun h => by cases h) rfl rfl rfl (Nat.zero_lt_one) (by show (_ + 1) * 88 ≤ _; rw [folsG_len]; have:=List.length_filter_le XS.isDir l; unfold dirsX; omega) (by show _ + 1 ≤ _; rw [folsG_len]; have:=List.length_filter_le XS.isDir l; unfold dirsX; omega) fun aa mm cap => ?_)⟩
       conv => whnf
       refine ⟨rfl,trivial,.inl ?_⟩
       conv => whnf
       refine ⟨rfl,?_⟩
       conv => whnf
       have h8 : x.lev = 8:=by have h9 : (8 : Int) < x.lev + 1:=(by simpa using hc); omega
       have hmv : s.mv = true:=by rw [hst.mv,hd,h8]; rfl
       have hslev : s.lev = 3:=by rw [hst.lev,hd,if_pos rfl,if_pos (by omega)]
       have hsi0 : s.si ≠ 0:=by rw [hst.si]; omega
       have hmvd : movD l ++ [D.int .i64 (s.di : Int)] = movD (l ++ [s]):=by rw [movD,movD,movX_snoc hmv,List.map_append]; rfl
       exact ⟨(.slice aa mm cap,v,113),SubG.ofM (m:=[(16,16),(24,24),(200,200),(201,201),(202,202),(203,138),(204,113)]) ⟨.refl _,.refl _,.refl _,.refl _,.refl _,.refl _,.refl _,.refl _,.refl _,.refl _,.refl _,.refl _,.refl _,.refl _,.refl _,.refl _,.refl _,trivial⟩ rfl
        ⟨rfl,rfl,rfl,congrArg (fun z => some (HObj.box b24 z)) (by rw [recC_mv hd hmv,hsfile]; rfl),rfl,rfl,rfl,congrArg (fun z => some (HObj.box bm [.sl (.own 113 v) 1 z])) hmvd,rfl,rfl,rfl,congrArg (fun z => some (HObj.row (.slice aa mm cap) z 7 113)) (by rw [if_pos hd,fdC_mv hsi0 hmv,hslev,hst.fi]; rfl),rfl,congrArg (fun z : Nat => some (HObj.own v z 1 3)) (by rw [← hmvd,List.length_append]; rfl),trivial⟩ rfl (fun q o h => by obtain ⟨j,rfl,_,_⟩:=dyn_inv h; exact ⟨by omega,h⟩)⟩
      ·refine Tri.skip ?_
       conv => whnf
       refine Tri.regionG ti3_ok ?_
       conv => whnf
       refine ⟨rfl,trivial,.inl ?_⟩
       conv => whnf
       refine ⟨rfl,?_⟩
       conv => whnf
       refine ⟨rfl,trivial,.inl ?_⟩
       conv => whnf
       refine ⟨rfl,?_⟩
       conv => whnf
       refine ⟨rfl,trivial,.inl ?_⟩
       conv => whnf
       refine ⟨rfl,trivial,.inl ?_⟩
       conv => whnf
       refine ⟨trivial,?_⟩
       conv => whnf
       refine ⟨rfl,trivial,.inr (XOp.rowAppend ti3_ok 203 rfl rfl rfl (fun h => by cases h) rfl rfl rfl (Nat.zero_lt_one) (by show (_ + 1) * 88 ≤ _; rw [folsG_len]; have:=List.length_filter_le XS.isDir l; unfold dirsX; omega) (by show _ + 1 ≤ _; rw [folsG_len]; have:=List.length_filter_le XS.isDir l; unfold dirsX; omega) fun aa mm cap => ?_)⟩
       conv => whnf
       refine ⟨rfl,trivial,.inl ?_⟩
       conv => whnf
       refine ⟨rfl,?_⟩
       conv => whnf
       have h8 : x.lev + 1 ≠ 9:=by have h9 : ¬ (8 : Int) < x.lev + 1:=(by simpa using hc); omega
       have hmv : s.mv = false:=by rw [hst.mv,hd,Bool.true_and,beq_eq_false_iff_ne]; exact h8
       have hslev : s.lev = x.lev + 1:=by rw [hst.lev,hd,if_pos rfl,if_neg h8]
       have hsi0 : s.si ≠ 0:=by rw [hst.si]; omega
       have hmvd : movD l = movD (l ++ [s]):=by rw [movD,movD,movX_stay hmv]
       exact ⟨(.slice aa mm cap,mv,204),SubG.ofM (m:=[(16,16),(24,24),(200,200),(201,201),(202,202),(203,138),(204,204)]) ⟨.refl _,.refl _,.refl _,.refl _,.refl _,.refl _,.refl _,.refl _,.refl _,.refl _,.refl _,.refl _,.refl _,.refl _,.refl _,.refl _,.refl _,trivial⟩ rfl
        ⟨rfl,rfl,rfl,congrArg (fun z => some (HObj.box b24 z)) (by rw [recC_dir hd hmv]; rfl),rfl,rfl,rfl,congrArg (fun z => some (HObj.box bm [.sl (.own 204 mv) 1 z])) hmvd,rfl,rfl,rfl,congrArg (fun z => some (HObj.row (.slice aa mm cap) z 7 113)) (by rw [if_pos hd,fdC_dir hsi0 hmv,hslev,hst.fi]; rfl),rfl,congrArg (fun z : List D => some (HObj.own mv z.length 1 3)) hmvd,trivial⟩ rfl (fun q o h => by obtain ⟨j,rfl,_,_⟩:=dyn_inv h; exact ⟨by omega,h⟩)⟩
     ·refine Tri.skip ?_
      conv => whnf
      have hmv : s.mv = false:=by rw [hst.mv,hd]; rfl
      have hmvd : movD l = movD (l ++ [s]):=by rw [movD,movD,movX_stay hmv]
      exact ⟨(fv,mv,204),SubG.ofM (m:=[(16,16),(24,24),(200,200),(201,201),(202,202),(203,203),(204,204)]) ⟨.refl _,.refl _,.refl _,.refl _,.refl _,.refl _,.refl _,.refl _,.refl _,.refl _,.refl _,.refl _,.refl _,.refl _,.refl _,.refl _,.refl _,trivial⟩ rfl
       ⟨rfl,rfl,rfl,congrArg (fun z => some (HObj.box b24 z)) (by rw [recC_file hd hmv]; rfl),rfl,rfl,rfl,congrArg (fun z => some (HObj.box bm [.sl (.own 204 mv) 1 z])) hmvd,rfl,rfl,rfl,congrArg (fun z => some (HObj.row fv z 7 113)) (by rw [if_neg (by rw [hd]; decide)]),rfl,congrArg (fun z : List D => some (HObj.own mv z.length 1 3)) hmvd,trivial⟩ rfl (fun q o h => by obtain ⟨j,rfl,_,_⟩:=dyn_inv h; exact ⟨by omega,h⟩)⟩
    ·rintro ⟨fv1,mv1,q0⟩
     have hxf0:=hxf
     refine Tri.ghost (α:={ vs1 : Nat → Value // (dirsX (l ++ [s]))[x.di]? = some x ∧ x.di < (dirsX (l ++ [s])).length }) (fun _ => [(1,.int .i64 (x.di : Int)),(2,.int .i64 x.lv),(3,.bool x.iso),(4,.bool x.rock),(5,.box 200 bf 0),(6,.box 201 bm 0),(7,.box 202 bw 0),(13,.sl .none 1 (strs (namesG 0 n.kids))),(33,.sl .none 12 (n.kids.map enc)),(34,.int .i64 (n.kids.map enc).length),(35,.int .i64 (i : Int)),(15,.int .i64 (i : Int)),(16,.box 16 b16 0),(17,.bool s.iso),(18,.bool s.rock),(21,.bool s.isDir),(24,.box 24 b24 0)]) (fun z => withL [(16,.box b16 [.str k.name,.int .i64 k.kind,.str k.text,.str k.target,.int .i64 k.n1,.int .i64 k.n2,.int .i64 k.n3,.int .i64 k.n4,.int .i64 k.n5,.int .i64 k.n6,.sl .none 12 (k.kids.map enc),.sl .none 2 (k.streams.map encS)]),(24,.box b24 (recC s)),(200,.box bf [.raw fv1]),(201,.box bm [.sl (.own 204 mv1) 1 (movD (l ++ [s]))]),(202,.box bw [walkFn bf bm bw]),(203,.row fv1 (folsG z.1 (l ++ [s]) l) 7 113),(204,.own mv1 (movD (l ++ [s])).length 1 3)] (dynG z.1 (l ++ [s]) l)) ?_ (fun hcont => ?_)
     rotate_left
     ·refine Tri.boxLe 201 (cs':=[.sl (.own 204 mv1) 1 (movD (l ++ [s]))]) rfl ⟨DLe.own _ _,trivial⟩ ?_
      by_cases hd : s.isDir = true
      ·have hrec0 : recsD l (dirsX l).length = []:=inF_none hlfi
       have hfn:=fols_new (vs:=vs) (l:=l) (lr:=l) (s:=s) (v:=.slice none 0 0) hd hrec0
       refine Tri.rowLe 203 (ys:=folsG (vsNew vs (dirsX l).length (.slice none 0 0)) (l ++ [s]) l) rfl (by rw [if_pos hd,← hfn,List.length_append,List.length_append]; rfl) folsG_cells (by
        rw [if_pos hd,← hfn,flat_app,flat_app]
        exact LeL.app (LeL.refl _) ⟨.refl _,.refl _,.refl _,.refl _,.refl _,.refl _,DLe.nilOwn,trivial⟩) ?_
       refine Tri.ownNil ((dirsX l).length + 300) 8 117 ?_
       refine Tri.forgetG _ _ ?_ (hcont ⟨vsNew vs (dirsX l).length (.slice none 0 0),by rw [dirsX_snoc hd,List.getElem?_append_left hxlt]; exact hxf,by rw [dirsX_snoc hd,List.length_append]; omega⟩)
       refine SubG.ofM (m:=[(16,16),(24,24),(200,200),(201,201),(202,202),(203,203),(204,204)]) ⟨.refl _,.refl _,.refl _,.refl _,.refl _,.refl _,.refl _,.refl _,.refl _,.refl _,.refl _,.refl _,.refl _,.refl _,.refl _,.refl _,.refl _,trivial⟩ rfl ⟨rfl,rfl,rfl,rfl,rfl,rfl,rfl,rfl,rfl,rfl,rfl,rfl,rfl,rfl,trivial⟩ rfl (fun q o h => ?_)
       rcases dyn_new hd h with ⟨rfl,rfl⟩ | ⟨hne,h⟩
       ·refine ⟨by omega,?_⟩
        rw [setH_same,hrec0]; rfl
       ·obtain ⟨j,rfl,_,_⟩:=dyn_inv h
        exact ⟨by omega,(setH_ne _ _ hne).trans h⟩
      ·have hd' : s.isDir = false:=by simpa using hd
       refine Tri.forgetG _ _ ?_ (hcont ⟨vs,by rw [dirsX_file hd']; exact hxf,by rw [dirsX_file hd']; exact hxlt⟩)
       refine SubG.ofM (m:=[(16,16),(24,24),(200,200),(201,201),(202,202),(203,203),(204,204)]) ⟨.refl _,.refl _,.refl _,.refl _,.refl _,.refl _,.refl _,.refl _,.refl _,.refl _,.refl _,.refl _,.refl _,.refl _,.refl _,.refl _,.refl _,trivial⟩ rfl ⟨rfl,rfl,rfl,rfl,rfl,rfl,rfl,rfl,rfl,rfl,rfl,congrArg (fun z => some (HObj.row fv1 z 7 113)) (by rw [if_neg hd,fols_file hd']),rfl,rfl,trivial⟩ rfl (fun q o h => ?_)
       rw [dyn_file hd'] at h
       obtain ⟨j,rfl,_,_⟩:=dyn_inv h
       exact ⟨by omega,h⟩
     rintro ⟨vs1,hxf,hxl⟩
     try dsimp only
     have hsf : s.fi = x.di:=hst.fi
     have hrl : (recsD l x.di).length ≤ l.length:=by
      rw [recsD,List.length_map,inF]
      exact Nat.le_trans (List.length_filter_le _ _) (by simp)
     refine Tri.seq ?_
     refine Tri.bitsG ti3_ok mixed (α:=Value) (fun v f => [(1,.int .i64 (x.di : Int)),(2,.int .i64 x.lv),(3,.bool x.iso),(4,.bool x.rock),(5,.box 200 bf 0),(6,.box 201 bm 0),(7,.box 202 bw 0),(13,.sl .none 1 (strs (namesG 0 n.kids))),(33,.sl .none 12 (n.kids.map enc)),(34,.int .i64 (n.kids.map enc).length),(35,.int .i64 (i : Int)),(15,.int .i64 (i : Int)),(16,.box 16 b16 0),(17,.bool s.iso),(18,.bool s.rock),(21,.bool s.isDir),(24,.box 24 b24 0),(139,bif f 0 then .raw fv1 else .any),(140,bif f 1 then .int .i64 (x.di : Int) else .any),(141,bif f 2 then .raw fv1 else .any),(142,bif f 3 then .int .i64 (x.di : Int) else .any),(143,bif f 4 then .raw (rowPtr fv1 (((x.di : Nat) : Int).toNat * 7)) else .any),(144,bif f 5 then .raw (rowPtr fv1 (((x.di : Nat) : Int).toNat * 7 + 6)) else .any),(145,bif f 6 then .sl (.own 0 (vs1 x.di)) 8 (recsD l x.di) else .any),(146,bif f 7 then recD s else .any),(147,bif f 8 then .sl .full 8 [recD s] else .any),(148,bif f 9 then .sl (.own 148 v) 8 (recsD l x.di ++ [recD s]) else .any),(149,bif f 10 then .raw (rowPtr fv1 (((x.di : Nat) : Int).toNat * 7)) else .any),(150,bif f 11 then .raw (rowPtr fv1 (((x.di : Nat) : Int).toNat * 7 + 6)) else .any)])
      (fun v f => withL ([(16,.box b16 [.str k.name,.int .i64 k.kind,.str k.text,.str k.target,.int .i64 k.n1,.int .i64 k.n2,.int .i64 k.n3,.int .i64 k.n4,.int .i64 k.n5,.int .i64 k.n6,.sl .none 12 (k.kids.map enc),.sl .none 2 (k.streams.map encS)]),(24,.box b24 (recC s)),(200,.box bf [.raw fv1]),(201,.box bm [.sl (.own 204 mv1) 1 (movD (l ++ [s]))]),(202,.box bw [walkFn bf bm bw]),(203,.row fv1 (bif f 12 then ((folsG vs1 (l ++ [s]) l).set x.di (.agg (setAt (fdC x ++ [.sl (.own 0 (vs1 x.di)) 8 (recsD l x.di)]) 6 (.sl (.own 148 v) 8 (recsD l x.di ++ [recD s]))))) else (folsG vs1 (l ++ [s]) l)) 7 113),(204,.own mv1 (movD (l ++ [s])).length 1 3)] ++ (bif f 9 then [(148,.own v ((recsD l x.di).length + 1) 8 117)] else [])) (bif f 9 then (dynX x.di (dynG vs1 (l ++ [s]) l)) else dynG vs1 (l ++ [s]) l)) (by decide +kernel) (.bool true) ?_ ?_ ?_ ?_
     ·exact ⟨.refl _,.refl _,.refl _,.refl _,.refl _,.refl _,.refl _,.refl _,.refl _,.refl _,.refl _,.refl _,.refl _,.refl _,.refl _,.refl _,.refl _,.any _,.any _,.any _,.any _,.any _,.any _,.any _,.any _,.any _,.any _,.any _,.any _,trivial⟩
     ·exact SubHF.ofL ⟨rfl,rfl,rfl,rfl,rfl,rfl,rfl,trivial⟩ (fun k o h => (withL_hi rfl (dyn_ge h)).trans h)
     ·conv => whnf
      refine ⟨fun v f hI => ?_,?_⟩
      ·obtain ⟨f,rfl⟩:=off f 12 (hI.no 12 0 rfl rfl)
       conv => whnf
       refine ⟨trivial,.inl ?_⟩
       conv => whnf
       refine ⟨rfl,?_⟩
       conv => whnf
       exact ⟨v,⟨.refl _,.refl _,.refl _,.refl _,.refl _,.refl _,.refl _,.refl _,.refl _,.refl _,.refl _,.refl _,.refl _,.refl _,.refl _,.refl _,.refl _,.refl _,.refl _,.refl _,.refl _,.refl _,.refl _,.refl _,.refl _,.refl _,.refl _,.refl _,.refl _,trivial⟩,fun k o h => h⟩
      refine ⟨fun v f hI => ?_,?_⟩
      ·obtain ⟨f,rfl⟩:=off f 12 (hI.no 12 1 rfl rfl)
       conv => whnf
       refine ⟨trivial,.inl ?_⟩
       conv => whnf
       exact ⟨v,⟨.refl _,.refl _,.refl _,.refl _,.refl _,.refl _,.refl _,.refl _,.refl _,.refl _,.refl _,.refl _,.refl _,.refl _,.refl _,.refl _,.refl _,.refl _,.refl _,.refl _,.refl _,.refl _,.refl _,.refl _,.refl _,.refl _,.refl _,.refl _,.refl _,trivial⟩,fun k o h => h⟩
      refine ⟨fun v f hI => ?_,?_⟩
      ·obtain ⟨f,rfl⟩:=off f 9 (hI.no 9 6 rfl (hI.no 6 5 rfl (hI.no 5 4 rfl (hI.no 4 2 rfl rfl))))
       obtain ⟨f,rfl⟩:=off f 12 (hI.no 12 2 rfl rfl)
       conv => whnf
       refine ⟨trivial,.inl ?_⟩
       conv => whnf
       refine ⟨rfl,?_⟩
       conv => whnf
       exact ⟨v,⟨.refl _,.refl _,.refl _,.refl _,.refl _,.refl _,.refl _,.refl _,.refl _,.refl _,.refl _,.refl _,.refl _,.refl _,.refl _,.refl _,.refl _,.refl _,.refl _,.refl _,.refl _,.refl _,.refl _,.refl _,.refl _,.refl _,.refl _,.refl _,.refl _,trivial⟩,fun k o h => h⟩
      refine ⟨fun v f hI => ?_,?_⟩
      ·obtain ⟨f,rfl⟩:=off f 9 (hI.no 9 6 rfl (hI.no 6 5 rfl (hI.no 5 4 rfl (hI.no 4 3 rfl rfl))))
       obtain ⟨f,rfl⟩:=off f 12 (hI.no 12 3 rfl rfl)
       conv => whnf
       refine ⟨trivial,.inl ?_⟩
       conv => whnf
       exact ⟨v,⟨.refl _,.refl _,.refl _,.refl _,.refl _,.refl _,.refl _,.refl _,.refl _,.refl _,.refl _,.refl _,.refl _,.refl _,.refl _,.refl _,.refl _,.refl _,.refl _,.refl _,.refl _,.refl _,.refl _,.refl _,.refl _,.refl _,.refl _,.refl _,.refl _,trivial⟩,fun k o h => h⟩
      refine ⟨fun v f hI => ?_,?_⟩
      ·obtain ⟨f,rfl⟩:=off f 9 (hI.no 9 6 rfl (hI.no 6 5 rfl (hI.no 5 4 rfl rfl)))
       obtain ⟨f,rfl⟩:=off f 12 (hI.no 12 4 rfl rfl)
       conv => whnf
       refine ⟨trivial,.inr ?_⟩
       refine XOp.rowIndex ti3_ok 203 rfl rfl rfl rfl rfl rfl rfl (by omega) (fols_lt (by rw [folsG_len]; exact hxl)) ?_
       exact ⟨v,⟨.refl _,.refl _,.refl _,.refl _,.refl _,.refl _,.refl _,.refl _,.refl _,.refl _,.refl _,.refl _,.refl _,.refl _,.refl _,.refl _,.refl _,.refl _,.refl _,.refl _,.refl _,.refl _,.refl _,.refl _,.refl _,.refl _,.refl _,.refl _,.refl _,trivial⟩,fun k o h => h⟩
      refine ⟨fun v f hI => ?_,?_⟩
      ·obtain ⟨f,rfl⟩:=off f 9 (hI.no 9 6 rfl (hI.no 6 5 rfl rfl))
       obtain ⟨f,rfl⟩:=off f 12 (hI.no 12 5 rfl rfl)
       conv => whnf
       refine ⟨trivial,.inr ?_⟩
       refine XOp.rowField ti3_ok 203 (i:=x.di) rfl rfl (fols_lt' (by rw [folsG_len]; exact hxl)) rfl rfl rfl (by decide) ?_
       exact ⟨v,⟨.refl _,.refl _,.refl _,.refl _,.refl _,.refl _,.refl _,.refl _,.refl _,.refl _,.refl _,.refl _,.refl _,.refl _,.refl _,.refl _,.refl _,.refl _,.refl _,.refl _,.refl _,.refl _,.refl _,.refl _,.refl _,.refl _,.refl _,.refl _,.refl _,trivial⟩,fun k o h => h⟩
      refine ⟨fun v f hI => ?_,?_⟩
      ·obtain ⟨f,rfl⟩:=off f 9 (hI.no 9 6 rfl rfl)
       obtain ⟨f,rfl⟩:=off f 12 (hI.no 12 6 rfl rfl)
       conv => whnf
       refine ⟨trivial,.inr ?_⟩
       refine XOp.rowLoadF ti3_ok 203 (i:=x.di) (j:=6) (by rw [Int.toNat_natCast]; rfl) rfl rfl (folsG_get hxf) ?_
       conv => whnf
       exact ⟨v,⟨.refl _,.refl _,.refl _,.refl _,.refl _,.refl _,.refl _,.refl _,.refl _,.refl _,.refl _,.refl _,.refl _,.refl _,.refl _,.refl _,.refl _,.refl _,.refl _,.refl _,.refl _,.refl _,.refl _,.refl _,.refl _,.refl _,.refl _,.refl _,.refl _,trivial⟩,fun k o h => h⟩
      refine ⟨fun v f hI => ?_,?_⟩
      ·obtain ⟨f,rfl⟩:=off f 9 (hI.no 9 8 rfl (hI.no 8 7 rfl rfl))
       obtain ⟨f,rfl⟩:=off f 12 (hI.no 12 7 rfl rfl)
       conv => whnf
       refine ⟨trivial,.inl ?_⟩
       conv => whnf
       refine ⟨rfl,?_⟩
       conv => whnf
       exact ⟨v,⟨.refl _,.refl _,.refl _,.refl _,.refl _,.refl _,.refl _,.refl _,.refl _,.refl _,.refl _,.refl _,.refl _,.refl _,.refl _,.refl _,.refl _,.refl _,.refl _,.refl _,.refl _,.refl _,.refl _,.refl _,.refl _,.refl _,.refl _,.refl _,.refl _,trivial⟩,fun k o h => h⟩
      refine ⟨fun v f hI => ?_,?_⟩
      ·obtain ⟨f,rfl⟩:=off f 9 (hI.no 9 8 rfl rfl)
       obtain ⟨f,rfl⟩:=off f 12 (hI.no 12 8 rfl rfl)
       conv => whnf
       refine ⟨trivial,.inl ?_⟩
       conv => whnf
       refine ⟨trivial,?_⟩
       conv => whnf
       exact ⟨v,⟨.refl _,.refl _,.refl _,.refl _,.refl _,.refl _,.refl _,.refl _,.refl _,.refl _,.refl _,.refl _,.refl _,.refl _,.refl _,.refl _,.refl _,.refl _,.refl _,.refl _,.refl _,.refl _,.refl _,.refl _,.refl _,.refl _,.refl _,.refl _,.refl _,trivial⟩,fun k o h => h⟩
      refine ⟨fun v f hI => ?_,?_⟩
      ·obtain ⟨f,rfl⟩:=off f 12 (hI.no 12 9 rfl rfl)
       conv => whnf
       refine ⟨trivial,.inr ?_⟩
       refine XOp.ownAppendQ ti3_ok (x.di + 300) 0 rfl rfl rfl (fun h => by cases h) rfl (dyn_at hxl) rfl (by show (_ + 1) * 64 ≤ _; omega) (by show _ + 1 ≤ _; omega) (fun v2 => ?_)
       exact ⟨v2,⟨.refl _,.refl _,.refl _,.refl _,.refl _,.refl _,.refl _,.refl _,.refl _,.refl _,.refl _,.refl _,.refl _,.refl _,.refl _,.refl _,.refl _,.refl _,.refl _,.refl _,.refl _,.refl _,.refl _,.refl _,.refl _,.refl _,.refl _,.refl _,.refl _,trivial⟩,SubHF.ofL ⟨rfl,rfl,rfl,rfl,rfl,rfl,rfl,rfl,trivial⟩ (fun k o h => by obtain ⟨h1,h2,h3⟩:=dynX_inv h; exact (setH_ne _ _ (by omega)).trans ((setH_ne _ _ h1).trans ((withL_hi rfl h2).trans h3)))⟩
      refine ⟨fun v f hI => ?_,?_⟩
      ·obtain ⟨f,rfl⟩:=off f 12 (hI.no 12 11 rfl (hI.no 11 10 rfl rfl))
       conv => whnf
       refine ⟨trivial,.inr ?_⟩
       refine XOp.rowIndex ti3_ok 203 rfl rfl rfl rfl rfl rfl rfl (by omega) (fols_lt (by rw [folsG_len]; exact hxl)) ?_
       exact ⟨v,⟨.refl _,.refl _,.refl _,.refl _,.refl _,.refl _,.refl _,.refl _,.refl _,.refl _,.refl _,.refl _,.refl _,.refl _,.refl _,.refl _,.refl _,.refl _,.refl _,.refl _,.refl _,.refl _,.refl _,.refl _,.refl _,.refl _,.refl _,.refl _,.refl _,trivial⟩,fun k o h => h⟩
      refine ⟨fun v f hI => ?_,?_⟩
      ·obtain ⟨f,rfl⟩:=off f 12 (hI.no 12 11 rfl rfl)
       conv => whnf
       refine ⟨trivial,.inr ?_⟩
       refine XOp.rowField ti3_ok 203 (i:=x.di) rfl rfl (fols_lt' (by rw [folsG_len]; exact hxl)) rfl rfl rfl (by decide) ?_
       exact ⟨v,⟨.refl _,.refl _,.refl _,.refl _,.refl _,.refl _,.refl _,.refl _,.refl _,.refl _,.refl _,.refl _,.refl _,.refl _,.refl _,.refl _,.refl _,.refl _,.refl _,.refl _,.refl _,.refl _,.refl _,.refl _,.refl _,.refl _,.refl _,.refl _,.refl _,trivial⟩,fun k o h => h⟩
      refine ⟨fun v f hI => ?_,?_⟩
      ·conv => whnf
       refine ⟨trivial,.inr ?_⟩
       refine XOp.rowStoreF ti3_ok 203 (i:=x.di) (j:=6) (by rw [Int.toNat_natCast]; rfl) rfl rfl rfl (folsG_get hxf) (by decide) rfl ?_
       exact ⟨v,⟨.refl _,.refl _,.refl _,.refl _,.refl _,.refl _,.refl _,.refl _,.refl _,.refl _,.refl _,.refl _,.refl _,.refl _,.refl _,.refl _,.refl _,.refl _,.refl _,.refl _,.refl _,.refl _,.refl _,.refl _,.refl _,.refl _,.refl _,.refl _,.refl _,trivial⟩,SubHF.ofL ⟨rfl,rfl,rfl,rfl,rfl,rfl,rfl,rfl,trivial⟩ (fun k o h => by obtain ⟨h1,h2,h3⟩:=dynX_inv h; exact (setH_ne _ _ (by omega)).trans ((withL_hi rfl h2).trans h))⟩
      exact trivial
     ·intro v f hf
      conv => whnf
      refine Tri.forgetG [(1,.int .i64 (x.di : Int)),(2,.int .i64 x.lv),(3,.bool x.iso),(4,.bool x.rock),(5,.box 200 bf 0),(6,.box 201 bm 0),(7,.box 202 bw 0),(13,.sl .none 1 (strs (namesG 0 n.kids))),(33,.sl .none 12 (n.kids.map enc)),(34,.int .i64 (n.kids.map enc).length),(35,.int .i64 (i : Int)),(15,.int .i64 (i : Int)),(16,.box 16 b16 0),(17,.bool s.iso),(18,.bool s.rock),(21,.bool s.isDir),(24,.box 24 b24 0)] (withL [(16,.box b16 [.str k.name,.int .i64 k.kind,.str k.text,.str k.target,.int .i64 k.n1,.int .i64 k.n2,.int .i64 k.n3,.int .i64 k.n4,.int .i64 k.n5,.int .i64 k.n6,.sl .none 12 (k.kids.map enc),.sl .none 2 (k.streams.map encS)]),(24,.box b24 (recC s)),(200,.box bf [.raw fv1]),(201,.box bm [.sl (.own 204 mv1) 1 (movD (l ++ [s]))]),(202,.box bw [walkFn bf bm bw]),(203,.row fv1 ((folsG vs1 (l ++ [s]) l).set x.di (.agg (setAt (fdC x ++ [.sl (.own 0 (vs1 x.di)) 8 (recsD l x.di)]) 6 (.sl (.own 148 v) 8 (recsD l x.di ++ [recD s]))))) 7 113),(204,.own mv1 (movD (l ++ [s])).length 1 3),(148,.own v ((recsD l x.di).length + 1) 8 117)] (dynX x.di (dynG vs1 (l ++ [s]) l))) (.same ⟨.refl _,.refl _,.refl _,.refl _,.refl _,.refl _,.refl _,.refl _,.refl _,.refl _,.refl _,.refl _,.refl _,.refl _,.refl _,.refl _,.refl _,trivial⟩ (fun k o h => ?_)) ?_
      ·show withL (_ ++ (bif f 9 then _ else _)) (bif f 9 then _ else _) k = _
       rw [hf 9 (by decide +kernel),hf 12 (by decide +kernel)]; exact h
      refine Tri.rowLe 203 (ys:=folsG (vsNew vs1 x.di v) (l ++ [s]) (l ++ [s])) rfl (by rw [List.length_set,folsG_len,folsG_len]) folsG_cells (LeL.flat (by rw [List.length_set,folsG_len,folsG_len]) (fols_le hxf hsf hl0)) ?_
      refine Tri.forgetG [(1,.int .i64 (x.di : Int)),(2,.int .i64 x.lv),(3,.bool x.iso),(4,.bool x.rock),(5,.box 200 bf 0),(6,.box 201 bm 0),(7,.box 202 bw 0),(13,.sl .none 1 (strs (namesG 0 n.kids))),(33,.sl .none 12 (n.kids.map enc)),(34,.int .i64 (n.kids.map enc).length),(35,.int .i64 (i : Int)),(15,.int .i64 (i : Int)),(16,.box 16 b16 0),(17,.bool s.iso),(18,.bool s.rock),(21,.bool s.isDir),(24,.box 24 b24 0)] (withL [(16,.box b16 [.str k.name,.int .i64 k.kind,.str k.text,.str k.target,.int .i64 k.n1,.int .i64 k.n2,.int .i64 k.n3,.int .i64 k.n4,.int .i64 k.n5,.int .i64 k.n6,.sl .none 12 (k.kids.map enc),.sl .none 2 (k.streams.map encS)]),(24,.box b24 (recC s)),(200,.box bf [.raw fv1]),(201,.box bm [.sl (.own 204 mv1) 1 (movD (l ++ [s]))]),(202,.box bw [walkFn bf bm bw]),(203,.row fv1 (folsG (vsNew vs1 x.di v) (l ++ [s]) (l ++ [s])) 7 113),(204,.own mv1 (movD (l ++ [s])).length 1 3)] (dynG (vsNew vs1 x.di v) (l ++ [s]) (l ++ [s]))) ⟨⟨.refl _,.refl _,.refl _,.refl _,.refl _,.refl _,.refl _,.refl _,.refl _,.refl _,.refl _,.refl _,.refl _,.refl _,.refl _,.refl _,.refl _,trivial⟩,fun k => if k = x.di + 300 then 148 else k,?_,?_⟩ ?_
      ·exact key_inj rfl
      ·exact key_at rfl ⟨rfl,rfl,rfl,rfl,rfl,rfl,rfl,trivial⟩ rfl (fun k o h => by obtain ⟨h1,h2,h3⟩:=dynX_inv h; exact (setH_ne _ _ (by omega)).trans ((withL_hi rfl h2).trans h)) hsf hl0
      refine Tri.seq ?_
      refine Tri.region ti3_ok ?_
      conv => whnf
      refine Tri.cond s.isDir rfl (fun hd => ?_) (fun hd => ?_)
      ·refine Tri.regionG ti3_ok ?_
       conv => whnf
       refine ⟨rfl,trivial,.inl ?_⟩
       conv => whnf
       refine ⟨rfl,?_⟩
       conv => whnf
       refine ⟨rfl,trivial,.inl ?_⟩
       conv => whnf
       refine ⟨rfl,?_⟩
       conv => whnf
       refine ⟨rfl,trivial,.inl ?_⟩
       conv => whnf
       refine ⟨rfl,trivial,.inl ?_⟩
       conv => whnf
       refine ⟨rfl,?_⟩
       conv => whnf
       refine ⟨rfl,trivial,.inl ?_⟩
       conv => whnf
       refine ⟨rfl,trivial,.inl ?_⟩
       conv => whnf
       refine .inl ⟨fun _ => by simp [InR]; omega,?_⟩
       conv => whnf
       refine ⟨rfl,trivial,.inl ?_⟩
       conv => whnf
       refine ⟨rfl,trivial,.inl ?_⟩
       conv => whnf
       refine ⟨rfl,trivial,.inr (XOp.callG rfl [encTop k,.int .i64 (s.di : Int),.int .i64 s.lv,.bool s.iso,.bool s.rock,.box 200 bf 0,.box 201 bm 0,.box 202 bw 0] walkKeys (DCall.walk (fun q hq => withL_two (show (16 : Nat) < 200 by decide) (show (24 : Nat) < 200 by decide) hq) (ih k (by omega) hkt hkd0 s (c2.add s) (l ++ [s]) bf bm bw fv1 mv1 (vsNew vs1 x.di v) hsn hbs hsat hd (hcn2.add s) (by rw [List.length_append]; simp; omega) (by rw [hspath]; omega) (by omega))) ⟨.refl _,intDLe (by rw [if_pos hd]),intDLe hslv.symm,.refl _,.refl _,.refl _,.refl _,.refl _,trivial⟩ ?_)⟩
       rintro d H' ⟨rfl,fv2,mv2,vs2,rfl⟩
       refine ⟨_,.refl _,?_⟩
       conv => whnf
       refine Tri.region ti3_ok ?_
       conv => whnf
       refine .inl ⟨fun _ => by simp [InR]; omega,?_⟩
       conv => whnf
       exact ⟨(⟨i + 1,hia⟩,fv2,mv2,vs2),by show _ - (i + 1) < _ - i; omega,.same ⟨.refl _,.refl _,.refl _,.refl _,.refl _,.refl _,.refl _,.refl _,.refl _,.refl _,.refl _,trivial⟩ (fun q o h => by dsimp only at h; rw [hnx] at h; exact (back_walk (walk_ge h)).trans h)⟩
      ·have hsp0 : spT k s (c2.add s) = []:=by
        rw [spT_eq,hkk (by simpa using hsdir.symm.trans hd)]; rfl
       rw [hsp0,List.append_nil] at hnx
       refine Tri.skip ?_
       conv => whnf
       refine Tri.region ti3_ok ?_
       conv => whnf
       refine .inl ⟨fun _ => by simp [InR]; omega,?_⟩
       conv => whnf
       exact ⟨(⟨i + 1,hia⟩,fv1,mv1,vsNew vs1 x.di v),by show _ - (i + 1) < _ - i; omega,.same ⟨.refl _,.refl _,.refl _,.refl _,.refl _,.refl _,.refl _,.refl _,.refl _,.refl _,.refl _,trivial⟩ (fun q o h => by dsimp only at h; rw [hnx] at h; exact (withL_two (show (16 : Nat) < 200 by decide) (show (24 : Nat) < 200 by decide) (walk_ge h)).trans h)⟩
 ·have hin : i = n.kids.length:=by simp at hc; omega
  have e1 : spL (n.kids.take i) ((namesG 0 n.kids).take i) x c = spT n x c:=by rw [spT_eq,List.take_of_length_le (by omega),List.take_of_length_le (by omega)]
  rw [e1]
  refine Tri.forgetG [] (walkH bf bm bw fv mv vs (l0 ++ spT n x c) (l0 ++ spT n x c)) (.same trivial (fun q o h => h)) ?_
  refine Tri.exit ?_
  conv => whnf
  exact ⟨.tup [],trivial,rfl,_,_,_,rfl⟩
end Go.Tame.V
/- Contracts: the program's Plan. By program (mkri.py,mk.py). -/
namespace Go.Tame.V
open Go Go.Proofs
variable {W0 : World}
set_option maxRecDepth 10000
set_option linter.unusedVariables false
set_option linter.unusedSimpArgs false

def preD (sh : Nat) (rn : List UInt8) (k : Nat) : List DirV:=if k = 0 ∧ sh ≠ 0 then [⟨[47],rn,2,0,0,false⟩] else []
def dirW (sh : Nat) (s : XS) : DirV:=if s.si = 0 then rootDir else s.dirV sh
/-- The directories after i folders. -/
def dirU (sh : Nat) (rn : List UInt8) (D : List XS) : Nat → List DirV
 | 0 => []
 | i + 1 => dirU sh rn D i ++ (dirW sh (D.getD i default)::preD sh rn i)
theorem preD_len (sh : Nat) (rn : List UInt8) (k : Nat) : (preD sh rn k).length ≤ 1:=by unfold preD; split <;> simp
theorem preR_len (sh : Nat) (rn : List UInt8) (k : Nat) : (preR sh rn k).length ≤ 1:=by unfold preR; split <;> simp
theorem dirU_len (sh : Nat) (rn : List UInt8) (D : List XS) : ∀ i,(dirU sh rn D i).length ≤ 2 * i
 | 0 => Nat.le_refl _
 | i + 1 => by
  have:=dirU_len sh rn D i
  have:=preD_len sh rn i
  simp only [dirU,List.length_append,List.length_cons]; omega
theorem dirU_all {sh : Nat} {rn : List UInt8} {s0 : XS} {E : List XS} (h0 : s0.si = 0) (hE : ∀ s ∈ E,s.si ≠ 0) : ∀ m,m ≤ E.length → dirU sh rn (s0::E) (m + 1) = rootDir::(preD sh rn 0 ++ (E.take m).map (XS.dirV sh))
 | 0,_ => by simp [dirU,dirW,h0]
 | m + 1,hm => by
  rw [dirU,dirU_all h0 hE m (by omega)]
  have h1 : (s0::E).getD (m + 1) default = E[m]:=by
   rw [List.getD_eq_getElem?_getD,List.getElem?_cons_succ,List.getElem?_eq_getElem (by omega)]; rfl
  have h2 : preD sh rn (m + 1) = []:=by rw [preD,if_neg (by omega)]
  rw [h1,h2,dirW,if_neg (hE _ (List.getElem_mem _)),List.take_succ_eq_append_getElem (by omega),List.map_append]
  simp only [List.append_assoc,List.cons_append,List.nil_append,List.map_cons,List.map_nil]
def movS (sh : Nat) (T : List XS) (i : Nat) : List EntV:=if i = 0 then (movX T).map (XS.movV sh) else []
/-- The records after i folders. -/
def entU (sh : Nat) (rn : List UInt8) (T : List XS) : Nat → List EntV
 | 0 => []
 | i + 1 => entU sh rn T i ++ (preR sh rn i ++ (recsAt sh T i ++ movS sh T i))
theorem recsAt_le (sh : Nat) (T : List XS) (i : Nat) : (recsAt sh T i).length ≤ T.length:=by rw [recsAt_len]; exact List.length_filter_le _ _
theorem movS_le (sh : Nat) (T : List XS) (i : Nat) : (movS sh T i).length ≤ T.length:=by
 unfold movS; split
 ·rw [List.length_map]; exact List.length_filter_le _ _
 ·simp
theorem entU_len (sh : Nat) (rn : List UInt8) (T : List XS) : ∀ i,(entU sh rn T i).length ≤ i * (2 * T.length + 1)
 | 0 => by simp [entU]
 | i + 1 => by
  have:=entU_len sh rn T i
  have:=recsAt_le sh T i
  have:=movS_le sh T i
  have:=preR_len sh rn i
  rw [Nat.succ_mul]
  simp only [entU,List.length_append]; omega
theorem entU_le {sh : Nat} {rn : List UInt8} {T : List XS} {i : Nat} (hi : i ≤ 100) (hT : T.length ≤ 100) : (entU sh rn T i).length ≤ 20100:=by
 have h:=entU_len sh rn T i
 have h2 : i * (2 * T.length + 1) ≤ 100 * 201:=Nat.mul_le_mul hi (by omega)
 omega
theorem entU_all (sh : Nat) (rn : List UInt8) (T : List XS) : ∀ m,entU sh rn T (m + 1) = preR sh rn 0 ++ recsAt sh T 0 ++ (movX T).map (XS.movV sh) ++ ((List.range m).flatMap fun i => recsAt sh T (i + 1))
 | 0 => by simp [entU,movS]
 | m + 1 => by
  have h1 : preR sh rn (m + 1) = []:=by rw [preR,if_neg (by omega)]
  have h2 : movS sh T (m + 1) = []:=by rw [movS,if_neg (by omega)]
  rw [entU,entU_all sh rn T m,h1,h2,List.range_succ,List.flatMap_append]; simp
theorem entU_plan (rn : List UInt8) (T : List XS) : entU (shiftX T) rn T ((dirsX T).length + 1) = entsP rn T:=by
 rw [entU_all,entsP,preR]
 congr 3
 by_cases h : shiftX T = 0
 ·rw [if_neg (by omega),if_pos h]
 ·rw [if_pos ⟨rfl,h⟩,if_neg h]
theorem dirU_plan (rn : List UInt8) {T : List XS} {s0 : XS} (h0 : s0.si = 0) (hE : ∀ s ∈ dirsX T,s.si ≠ 0) : dirU (shiftX T) rn (s0::dirsX T) ((dirsX T).length + 1) = dirsP rn T:=by
 rw [dirU_all h0 hE _ (Nat.le_refl _),List.take_length,dirsP,preD]
 congr 2
 by_cases h : shiftX T = 0
 ·rw [if_neg (by omega),if_pos h]
 ·rw [if_pos ⟨rfl,h⟩,if_neg h]
/-- A folder,once the walk is done. -/
def folP (L : List XS) (i : Nat) (s : XS) : D:=.agg (fdC s ++ [.sl .none 8 (recsD L i)])
def folsP (L : List XS) : List D:=(dirsX L).mapIdx (folP L)
theorem folsP_len (L : List XS) : (folsP L).length = (dirsX L).length:=by simp [folsP]
theorem folsP_get {L : List XS} {i : Nat} {s : XS} (h : (dirsX L)[i]? = some s) : (folsP L)[i]? = some (folP L i s):=by
 rw [folsP,List.getElem?_mapIdx,h]; rfl
theorem fols_unown {vs : Nat → Value} {L : List XS} : LeL (flat (folsG vs L L)) (flat (folsP L)) :=
 LeL.flat (by rw [folsG_len,folsP_len]) fun i a b ha hb => by
  rw [folsG,List.getElem?_mapIdx] at ha
  rw [folsP,List.getElem?_mapIdx] at hb
  cases h : (dirsX L)[i]? with
  | none => rw [h] at ha; cases ha
  | some y =>
   rw [h] at ha hb
   cases ha; cases hb
   exact ⟨.refl _,.refl _,.refl _,.refl _,.refl _,.refl _,DLe.unown,trivial⟩
theorem folsP_cells {L : List XS} : ∀ y ∈ folsP L,y.cells.length = 7:=fun y hy => by
 obtain ⟨i,hi⟩:=List.mem_iff_getElem?.1 hy
 rw [folsP,List.getElem?_mapIdx] at hi
 cases h : (dirsX L)[i]? with
 | none => rw [h] at hi; cases hi
 | some s => rw [h] at hi; cases hi; rfl
def dcs (d : DirV) : List D:=[.str d.path,.str d.id,.int .i64 d.level,.int .i64 d.parent,.int .i64 d.above,.bool d.reloc]
def ixI (sh : Nat) (i : Int) : Int:=if i ≤ 0 then i else i + sh
theorem ixI_nat (sh i : Nat) : ixI sh (i : Int) = ((ixS sh i : Nat) : Int):=by
 unfold ixI ixS
 split <;> split <;> omega
theorem dcs_mv {sh : Nat} {s : XS} (hs : s.si ≠ 0) (hm : s.mv = true) :
  ([.str s.path,.str (if s.si = 0 then [0] else if s.mv then 68::Lib.decDigits s.mno else s.id),.int .i64 s.lev,.int .i64 1,.int .i64 (ixI sh (s.fi : Int)),.bool s.mv] : List D) = dcs (dirW sh s):=by
 rw [dirW,if_neg hs,if_neg hs,ixI_nat]; simp [dcs,XS.dirV,hm]
theorem dcs_st {sh : Nat} {s : XS} {rr : Bool} {n : NV} (h0 : s.si = 0 → s = rootX rr n) (hm : s.mv = false) :
  ([.str s.path,.str (if s.si = 0 then [0] else if s.mv then 68::Lib.decDigits s.mno else s.id),.int .i64 s.lev,.int .i64 (ixI sh (if s.mv then -1 else (s.fi : Int))),.int .i64 (ixI sh (s.fi : Int)),.bool s.mv] : List D) = dcs (dirW sh s):=by
 by_cases hs : s.si = 0
 ·rw [h0 hs]; rfl
 ·rw [dirW,if_neg hs,if_neg hs,hm]
  simp only [Bool.false_eq_true,if_false]
  rw [ixI_nat]; simp [dcs,XS.dirV,hm]
theorem withL_one {a : Nat × HObj} {L : List (Nat × HObj)} {dyn : Heap} {k : Nat} (ha : a.1 < 200) (hk : 200 ≤ k) : withL (a::L) dyn k = withL L dyn k:=by
 obtain ⟨i,o⟩:=a
 have h1 : Nat.beq k i = false:=by
  cases h : Nat.beq k i with
  | false => rfl
  | true => have:=Nat.eq_of_beq_eq_true h; simp at ha; omega
 unfold withL
 simp only [look,h1,cond_false]
set_option maxHeartbeats 8000000 in
theorem G40 (hL : LibOk W0) (rr : Bool) (n : NV) (hn : Fits n) (hc0 : valid n = true → cnt n < 99 ∧ sz n < 800000) : DFun Tryz.prog W0 40 [encTop n,.bool rr] (.tup [.sl .none 6 ((planV rr n).1.map encDir),.sl .none 7 ((planV rr n).2.1.map encEnt),.int .i64 (planV rr n).2.2]):=by
 refine DFun.intro ti3_ok Tryz.func40 rfl (by decide +kernel) Tryz.ntmps40 rfl fun Γ => ?_
 refine Tri.seq ?_
 refine Tri.region ti3_ok ?_
 conv => whnf
 intro b2
 conv => whnf
 refine Tri.seq ?_
 refine Tri.seq ?_
 refine Tri.region ti3_ok ?_
 conv => whnf
 refine ⟨rfl,?_⟩
 conv => whnf
 refine ⟨[encTop n],_,fun _ => F39 hL n (by have:=hn; unfold Fits at this; omega),⟨.refl _,trivial⟩,?_⟩
 conv => whnf
 refine Tri.cond _ rfl (fun hc => ?_) (fun hc => ?_)
 ·refine Tri.seq ?_
  refine Tri.region ti3_ok ?_
  conv => whnf
  refine Tri.ret ?_
  conv => whnf
  have hv : ¬ valid n = true:=by simpa using hc
  rw [planV,if_neg hv]
  exact ⟨DLe.nil,DLe.nil,.refl _,trivial⟩
 ·refine Tri.skip ?_
  conv => whnf
  have hv : valid n = true:=by simpa using hc
  obtain ⟨hcn,hsz⟩:=hc0 hv
  have hokt:=valid_okT hv
  obtain ⟨hokd,hk0⟩:=valid_okD hv
  have hb:=built_spots rr hokd hk0
  have hLT : spots rr n = rootX rr n::spT n (rootX rr n) ⟨1,1,0⟩:=rfl
  have hLT2 : [rootX rr n] ++ spT n (rootX rr n) ⟨1,1,0⟩ = spots rr n:=rfl
  have hTl:=spT_len n (rootX rr n) ⟨1,1,0⟩
  have hpl : planV rr n = (dirsP (rrN (rrK (namesG 0 n.kids))) (spT n (rootX rr n) ⟨1,1,0⟩),entsP (rrN (rrK (namesG 0 n.kids))) (spT n (rootX rr n) ⟨1,1,0⟩),0):=by rw [planV,if_pos hv]
  have hrd : (rootX rr n).isDir = true:=by rw [XS.isDir,rootX,hk0]; rfl
  have hdr : dirsX [rootX rr n] = [rootX rr n]:=by rw [dirsX,List.filter_cons,if_pos hrd]; rfl
  have hwalk:=fun (b7 b8 b9 : Nat) (vs : Nat → Value) => G89 (W0:=W0) hL rr n (sz n + 1) n (Nat.lt_succ_self _) hokt hokd (rootX rr n) ⟨1,1,0⟩ [rootX rr n] b7 b8 b9
  rw [hpl]
  obtain ⟨h64,_,hinc,hokl⟩:=(okT_eq n).1 hokt
  have hnk : ∀ k ∈ n.kids,nameOk k.name = true ∧ k.name.length < 1000000000:=fun k hk => (okL_get hokl hk).1
  have hG92:=G92 (W0:=W0) hL n.kids h64 hnk hinc
  generalize rrN (rrK (namesG 0 n.kids)) = rn at *
  refine Tri.seq ?_
  refine Tri.regionG ti3_ok ?_
  conv => whnf
  refine ⟨rfl,trivial,.inl ?_⟩
  conv => whnf
  refine ⟨rfl,trivial,.inl ?_⟩
  conv => whnf
  refine ⟨rfl,trivial,.inr (XOp.buildRowS (q:=203) ti3_ok rfl rfl rfl rfl rfl rfl ?_)⟩
  conv => whnf
  refine ⟨rfl,trivial,fun bf0 => ?_⟩
  conv => whnf
  refine ⟨rfl,trivial,.inl ?_⟩
  conv => whnf
  intro b7
  conv => whnf
  refine ⟨rfl,trivial,.inl ?_⟩
  conv => whnf
  refine ⟨rfl,?_⟩
  conv => whnf
  refine Tri.seq ?_
  refine Tri.region ti3_ok ?_
  conv => whnf
  intro b8
  conv => whnf
  refine Tri.seq ?_
  refine Tri.region ti3_ok ?_
  conv => whnf
  intro b9
  conv => whnf
  refine Tri.seq ?_
  refine Tri.region ti3_ok ?_
  conv => whnf
  refine ⟨rfl,?_⟩
  conv => whnf
  refine Tri.rowLe 203 (ys:=folsG (fun _ => .slice none 0 0) [rootX rr n] [rootX rr n]) rfl (by rw [folsG_len,hdr]; rfl) folsG_cells (by
   rw [folsG,hdr]
   exact ⟨.refl _,.refl _,.refl _,.refl _,.refl _,.refl _,DLe.nilOwn,trivial⟩) ?_
  refine Tri.boxLe 8 (cs':=[.sl (.own 204 (.slice none 0 0)) 1 (movD [rootX rr n])]) rfl ⟨DLe.nilOwn,trivial⟩ ?_
  refine Tri.boxLe 9 (cs':=[walkFn b7 b8 b9]) rfl ⟨DLe.fn trivial ⟨DLe.box,DLe.box,DLe.box,trivial⟩,trivial⟩ ?_
  refine Tri.ownNil 204 1 3 ?_
  refine Tri.ownNil 300 8 117 ?_
  refine Tri.forgetG [(1,.bool rr),(2,.box 2 b2 0),(7,.box 200 b7 0),(8,.box 201 b8 0),(9,.box 202 b9 0)] (withL [(2,.box b2 (cellsN n)),(200,.box b7 [.raw (.slice (some ⟨bf0,0,none⟩) 1 1)]),(201,.box b8 [.sl (.own 204 (.slice none 0 0)) 1 (movD [rootX rr n])]),(202,.box b9 [walkFn b7 b8 b9]),(203,.row (.slice (some ⟨bf0,0,none⟩) 1 1) (folsG (fun _ => .slice none 0 0) [rootX rr n] [rootX rr n]) 7 113),(204,.own (.slice none 0 0) (movD [rootX rr n]).length 1 3)] (dynG (fun _ => .slice none 0 0) [rootX rr n] [rootX rr n])) (SubG.ofM (m:=[(2,2),(200,7),(201,8),(202,9),(203,203),(204,204)]) ⟨.refl _,.refl _,DLe.box,DLe.box,DLe.box,trivial⟩ rfl ⟨rfl,rfl,rfl,rfl,rfl,rfl,rfl,rfl,rfl,rfl,rfl,rfl,trivial⟩ rfl (fun q o h => ?_)) ?_
  ·obtain ⟨j,rfl,hj,rfl⟩:=dyn_inv h
   rw [hdr] at hj
   have : j = 0:=by simp at hj; omega
   subst this
   exact ⟨by omega,rfl⟩
  refine Tri.seq ?_
  refine Tri.regionG ti3_ok ?_
  conv => whnf
  refine ⟨rfl,trivial,.inl ?_⟩
  conv => whnf
  refine ⟨rfl,?_⟩
  conv => whnf
  refine ⟨rfl,trivial,.inl ?_⟩
  conv => whnf
  refine ⟨rfl,?_⟩
  conv => whnf
  refine ⟨rfl,trivial,.inl ?_⟩
  conv => whnf
  refine ⟨rfl,trivial,.inr (XOp.callG rfl [encTop n,.int .i64 (((rootX rr n).di : Nat) : Int),.int .i64 (rootX rr n).lv,.bool (rootX rr n).iso,.bool (rootX rr n).rock,.box 200 b7 0,.box 201 b8 0,.box 202 b9 0] walkKeys (DCall.walk (fun q hq => withL_one (show (2 : Nat) < 200 by decide) hq) (G89 hL rr n (sz n + 1) n (Nat.lt_succ_self _) hokt hokd (rootX rr n) ⟨1,1,0⟩ [rootX rr n] b7 b8 b9 (.slice (some ⟨bf0,0,none⟩) 1 1) (.slice none 0 0) (fun _ => .slice none 0 0) rfl (.root hk0) rfl hrd ⟨rfl,by rw [hdr]; rfl,rfl⟩ (by simp; omega) (by show 0 + _ < _; omega) (by show (1 : Int) + _ < _; omega))) ⟨.refl _,.refl _,.refl _,.refl _,.refl _,.refl _,.refl _,.refl _,trivial⟩ ?_)⟩
  rintro d H' ⟨rfl,fv,mv,vs,rfl⟩
  refine ⟨_,.refl _,?_⟩
  conv => whnf
  rw [hLT2]
  clear hwalk
  generalize spT n (rootX rr n) ⟨1,1,0⟩ = T at *
  generalize hLd : spots rr n = L at *
  refine Tri.forgetG [(2,.box 2 b2 0),(7,.box 200 b7 0),(8,.box 201 b8 0)] (look [(2,.box b2 (cellsN n)),(200,.box b7 [.raw fv]),(201,.box b8 [.sl (.own 204 mv) 1 (movD L)]),(203,.row fv (folsG vs L L) 7 113)]) (.same ⟨.refl _,.refl _,.refl _,trivial⟩ (SubHF.of ⟨rfl,rfl,rfl,rfl,trivial⟩)) ?_
  refine Tri.rowLe 203 (ys:=folsP L) rfl (by rw [folsG_len,folsP_len]) folsP_cells fols_unown ?_
  refine Tri.commitBox 203 200 0 rfl rfl (by decide) rfl ?_
  refine Tri.boxLe 201 (cs':=[.sl .none 1 (movD L)]) rfl ⟨DLe.unown,trivial⟩ ?_
  refine Tri.forgetK [(2,.box 2 b2 0),(7,.box 7 b7 0),(8,.box 8 b8 0)] [(2,.box b2 (cellsN n)),(7,.box b7 [.sl .none 7 (folsP L)]),(8,.box b8 [.sl .none 1 (movD L)])] [(2,2),(7,200),(8,201)] ⟨⟨.refl _,DLe.box,DLe.box,trivial⟩,rfl,rfl,rfl,rfl,rfl,rfl,rfl,trivial⟩ ?_
  obtain ⟨sh,hsh⟩ : ∃ sh,shiftX T = sh:=⟨_,rfl⟩
  have hsh1 : sh ≤ 1:=by rw [← hsh]; unfold shiftX; split <;> omega
  have hLl : L.length = T.length + 1:=by rw [hLT]; rfl
  have hroot:=hb.root0.1
  have hdT : dirsX L = rootX rr n::dirsX T:=by rw [hLT,dirsX,List.filter_cons,if_pos hrd]; rfl
  have hmT : movX L = movX T:=by rw [hLT,movX,List.filter_cons,if_neg (by simp [rootX])]; rfl
  have hdl : (dirsX T).length ≤ T.length:=List.length_filter_le _ _
  have hml : (movX T).length ≤ T.length:=List.length_filter_le _ _
  have hdlen : (folsP L).length = (dirsX T).length + 1:=by rw [folsP_len,hdT]; rfl
  have hmlen : (movD L).length = (movX T).length:=by rw [movD,List.length_map,hmT]
  have hmin : (if ((movD L).length : Int) < 1 then ((movD L).length : Int) else 1) = (sh : Int):=by rw [← hsh,hmlen,shiftX]; split <;> split <;> omega
  have hat : ∀ (t : Nat) (s : XS),L[t]? = some s → s.si = t ∧ (t = 0 → s = rootX rr n) ∧ s.fi ≤ 100 ∧ s.di ≤ 100:=fun t s h => by
   have h1:=hb.si h
   refine ⟨h1,fun h2 => ?_,?_,?_⟩
   ·subst h2; rw [hroot] at h; exact (Option.some.inj h).symm
   ·have:=hb.fi_lt s (List.mem_of_getElem? h)
    rw [hdT] at this; simp at this; omega
   ·rcases Nat.eq_zero_or_pos t with h2 | h2
    ·subst h2; rw [hroot] at h; cases h; exact Nat.zero_le _
    ·obtain ⟨p,hst⟩:=hb.at h2 h
     rw [hst.di]
     have h3 : (dirsX (L.take t)).length ≤ (dirsX L).length:=filter_take_le _ _ _
     rw [hdT] at h3; simp at h3; omega
  have hrec : ∀ i,recsD L i = (T.filter fun x => x.fi == i).map recD:=fun i => by rw [recsD,inF,hLT]; rfl
  refine Tri.seq ?_
  refine Tri.region ti3_ok ?_
  conv => whnf
  refine ⟨rfl,?_⟩
  conv => whnf
  intro b10
  conv => whnf
  refine ⟨rfl,?_⟩
  conv => whnf
  refine Tri.boxLe 10 (cs':=[.int .i64 (sh : Int)]) rfl ⟨intDLe hmin,trivial⟩ ?_
  refine Tri.boxElm 10 10 (.int .i64 (sh : Int)) rfl rfl rfl rfl ?_
  refine Tri.ownNil 500 6 66 ?_
  refine Tri.ownNil 600 7 68 ?_
  refine Tri.seq ?_
  refine Tri.region ti3_ok ?_
  conv => whnf
  refine Tri.seq ?_
  refine Tri.region ti3_ok ?_
  conv => whnf
  refine Tri.seq ?_
  refine Tri.region ti3_ok ?_
  conv => whnf
  refine Tri.seq ?_
  refine Tri.seq ?_
  refine Tri.region ti3_ok ?_
  conv => whnf
  refine ⟨rfl,?_⟩
  conv => whnf
  refine Tri.block ?_
  refine Tri.loopK (α:={ i : Nat // i ≤ (folsP L).length } × Value × Value) (fun z => [(2,.box 2 b2 0),(7,.box 7 b7 0),(8,.box 8 b8 0),(10,.elm 1 [.int .i64 (sh : Int)] 0 0),(11,.fn (.func 91) [] [.elm 1 [.int .i64 (sh : Int)] 0 0]),(12,.sl (.own 500 z.2.1) 6 ((dirU sh rn (dirsX L) z.1.1).map encDir)),(13,.sl (.own 600 z.2.2) 7 ((entU sh rn T z.1.1).map encEnt)),(39,.sl .none 7 (folsP L)),(40,.int .i64 ((folsP L).length : Int)),(41,.int .i64 (z.1.1 : Int))]) (fun z => [(2,.box b2 (cellsN n)),(7,.box b7 [.sl .none 7 (folsP L)]),(8,.box b8 [.sl .none 1 (movD L)]),(500,.own z.2.1 ((dirU sh rn (dirsX L) z.1.1).map encDir).length 6 66),(600,.own z.2.2 ((entU sh rn T z.1.1).map encEnt).length 7 68)]) (fun z => (folsP L).length - z.1.1) (⟨0,Nat.zero_le _⟩,.slice none 0 0,.slice none 0 0) [(2,2),(7,7),(8,8),(500,500),(600,600)]
   ⟨⟨.refl _,.refl _,.refl _,.refl _,.refl _,DLe.nilOwn,DLe.nilOwn,.refl _,.refl _,.refl _,trivial⟩,rfl,rfl,rfl,rfl,rfl,rfl,rfl,rfl,rfl,rfl,rfl,trivial⟩ ?_
  rintro ⟨⟨i,hi⟩,w1,w2⟩
  try dsimp only
  refine Tri.seq ?_
  refine Tri.region ti3_ok ?_
  conv => whnf
  refine Tri.seq ?_
  refine Tri.cond (decide ((i : Int) < ((folsP L).length : Int))) rfl (fun hc => ?_) (fun hc => ?_)
  ·refine Tri.skip ?_
   conv => whnf
   have hia : i < (folsP L).length:=by simpa using hc
   have hiL : i < (dirsX L).length:=by rw [folsP_len] at hia; exact hia
   obtain ⟨s,hs⟩ : ∃ s,(dirsX L)[i]? = some s:=⟨_,List.getElem?_eq_getElem hiL⟩
   have hfg:=folsP_get hs
   have hsm:=List.mem_filter.1 (List.mem_of_getElem? hs)
   obtain ⟨t,ht⟩:=List.mem_iff_getElem?.1 hsm.1
   obtain ⟨hst,hs0,hfi,_⟩:=hat t s ht
   have hdis:=hb.dis i s hs
   have hr0 : s.si = 0 → s = rootX rr n:=fun h => hs0 (by omega)
   have hmv0 : s.mv = true → s.si ≠ 0:=fun h h2 => by rw [hr0 h2] at h; cases h
   have hgd : (dirsX L).getD i default = s:=by rw [List.getD_eq_getElem?_getD,hs]; rfl
   have hdu:=dirU_len sh rn (dirsX L) i
   have heu:=entU_le (sh:=sh) (rn:=rn) (T:=T) (i:=i) (by omega) (by omega)
   have hdl1 : ((dirU sh rn (dirsX L) i).map encDir).length ≤ 202:=by rw [List.length_map]; omega
   have hdl2 : ((dirU sh rn (dirsX L) i ++ [dirW sh s]).map encDir).length ≤ 203:=by rw [List.length_map,List.length_append]; simp; omega
   have hel1 : ((entU sh rn T i).map encEnt).length ≤ 20100:=by rw [List.length_map]; omega
   refine Tri.seq ?_
   refine Tri.block ?_
   refine Tri.seq ?_
   refine Tri.region ti3_ok ?_
   conv => whnf
   refine ⟨fun _ => ⟨Int.natCast_nonneg _,Int.ofNat_lt.2 hia⟩,?_⟩
   conv => whnf
   refine ⟨folP L i s,fun _ => hfg,?_⟩
   conv => whnf
   intro b15
   conv => whnf
   refine ⟨rfl,?_⟩
   conv => whnf
   refine Tri.seq ?_
   refine Tri.region ti3_ok ?_
   conv => whnf
   refine ⟨rfl,?_⟩
   conv => whnf
   intro b16
   conv => whnf
   refine ⟨rfl,?_⟩
   conv => whnf
   refine Tri.joinK (α:=Unit) (fun _ => [(2,.box 2 b2 0),(7,.box 7 b7 0),(8,.box 8 b8 0),(10,.elm 1 [.int .i64 (sh : Int)] 0 0),(11,.fn (.func 91) [] [.elm 1 [.int .i64 (sh : Int)] 0 0]),(12,.sl (.own 500 w1) 6 ((dirU sh rn (dirsX L) i).map encDir)),(13,.sl (.own 600 w2) 7 ((entU sh rn T i).map encEnt)),(39,.sl .none 7 (folsP L)),(40,.int .i64 ((folsP L).length : Int)),(41,.int .i64 (i : Int)),(14,.int .i64 (i : Int)),(15,.box 15 b15 0),(16,.box 16 b16 0)]) (fun _ => [(2,.box b2 (cellsN n)),(7,.box b7 [.sl .none 7 (folsP L)]),(8,.box b8 [.sl .none 1 (movD L)]),(500,.own w1 ((dirU sh rn (dirsX L) i).map encDir).length 6 66),(600,.own w2 ((entU sh rn T i).map encEnt).length 7 68),(15,.box b15 (fdC s ++ [.sl .none 8 (recsD L i)])),(16,.box b16 (dcs (dirW sh s)))]) ?_ ?_
   ·refine Tri.seq ?_
    refine Tri.drawTail ti3_ok 9 mixed (by kernel_rfl) ?_
    conv => whnf
    refine ⟨rfl,?_⟩
    conv => whnf
    refine ⟨[.int .i64 (if s.mv then -1 else (s.fi : Int)),.elm 1 [.int .i64 (sh : Int)] 0 0],_,fun _ => G91 _ sh (by split <;> omega) hsh1,⟨.refl _,.refl _,trivial⟩,?_⟩
    conv => whnf
    refine ⟨rfl,?_⟩
    conv => whnf
    refine ⟨[.int .i64 (s.fi : Int),.elm 1 [.int .i64 (sh : Int)] 0 0],_,fun _ => G91 _ sh (by omega) hsh1,⟨.refl _,.refl _,trivial⟩,?_⟩
    conv => whnf
    refine ⟨rfl,?_⟩
    conv => whnf
    refine ⟨rfl,?_⟩
    conv => whnf
    refine Tri.seq ?_
    refine Tri.region ti3_ok ?_
    conv => whnf
    refine ⟨rfl,?_⟩
    conv => whnf
    refine Tri.cond s.mv rfl (fun hc => ?_) (fun hc => ?_)
    ·refine Tri.region ti3_ok ?_
     conv => whnf
     refine ⟨rfl,?_⟩
     conv => whnf
     exact ⟨(),[(2,2),(7,7),(8,8),(500,500),(600,600),(15,15),(16,16)],⟨.refl _,.refl _,.refl _,.refl _,.refl _,.refl _,.refl _,.refl _,.refl _,.refl _,.refl _,.refl _,.refl _,trivial⟩,rfl,rfl,rfl,rfl,rfl,rfl,rfl,rfl,rfl,rfl,rfl,rfl,rfl,rfl,congrArg (fun z => some (HObj.box b16 z)) (dcs_mv (hmv0 hc) hc),trivial⟩
    ·refine Tri.skip ?_
     conv => whnf
     exact ⟨(),[(2,2),(7,7),(8,8),(500,500),(600,600),(15,15),(16,16)],⟨.refl _,.refl _,.refl _,.refl _,.refl _,.refl _,.refl _,.refl _,.refl _,.refl _,.refl _,.refl _,.refl _,trivial⟩,rfl,rfl,rfl,rfl,rfl,rfl,rfl,rfl,rfl,rfl,rfl,rfl,rfl,rfl,congrArg (fun z => some (HObj.box b16 z)) (dcs_st hr0 hc),trivial⟩
   ·rintro ⟨⟩
    refine Tri.seq ?_
    refine Tri.region ti3_ok ?_
    conv => whnf
    refine ⟨rfl,?_⟩
    conv => whnf
    refine ⟨trivial,?_⟩
    conv => whnf
    refine ⟨rfl,rfl,?_⟩
    conv => whnf
    refine ⟨by show (_ + 1) * 64 ≤ _; omega,by show _ + 1 ≤ _; omega,(fun h => by cases h),fun w1a => ?_⟩
    conv => whnf
    have hda : (dirU sh rn (dirsX L) i).map encDir ++ [encDir (dirW sh s)] = (dirU sh rn (dirsX L) i ++ [dirW sh s]).map encDir:=by simp
    have hdn : dirU sh rn (dirsX L) (i + 1) = dirU sh rn (dirsX L) i ++ [dirW sh s] ++ preD sh rn i:=by rw [dirU,hgd]; simp
    refine Tri.joinK (α:=Value × Value) (fun z => [(2,.box 2 b2 0),(7,.box 7 b7 0),(8,.box 8 b8 0),(10,.elm 1 [.int .i64 (sh : Int)] 0 0),(11,.fn (.func 91) [] [.elm 1 [.int .i64 (sh : Int)] 0 0]),(12,.sl (.own 500 z.1) 6 ((dirU sh rn (dirsX L) (i + 1)).map encDir)),(13,.sl (.own 600 z.2) 7 ((entU sh rn T i ++ preR sh rn i).map encEnt)),(39,.sl .none 7 (folsP L)),(40,.int .i64 ((folsP L).length : Int)),(41,.int .i64 (i : Int)),(14,.int .i64 (i : Int)),(15,.box 15 b15 0)]) (fun z => [(2,.box b2 (cellsN n)),(7,.box b7 [.sl .none 7 (folsP L)]),(8,.box b8 [.sl .none 1 (movD L)]),(500,.own z.1 ((dirU sh rn (dirsX L) (i + 1)).map encDir).length 6 66),(600,.own z.2 ((entU sh rn T i ++ preR sh rn i).map encEnt).length 7 68),(15,.box b15 (fdC s ++ [.sl .none 8 (recsD L i)]))]) ?_ ?_
    ·refine Tri.seq ?_
     refine Tri.region ti3_ok ?_
     conv => whnf
     refine ⟨.int .i64 (sh : Int),fun _ => rfl,?_⟩
     conv => whnf
     refine ⟨fun h => h,?_⟩
     conv => whnf
     refine ⟨fun h0 h => by first | exact h | (rw [h]; rfl) | (rw [h0,h]; rfl),?_⟩
     conv => whnf
     refine Tri.cond (bif decide ((i : Int) = 0) then decide ((0 : Int) < (sh : Int)) else false) rfl (fun hc => ?_) (fun hc => ?_)
     ·refine Tri.seq ?_
      refine Tri.region ti3_ok ?_
      conv => whnf
      refine ⟨rfl,?_⟩
      conv => whnf
      refine ⟨[.sl .none 12 (n.kids.map enc)],_,fun _ => hG92,⟨.refl _,trivial⟩,?_⟩
      conv => whnf
      refine Tri.seq ?_
      refine Tri.region ti3_ok ?_
      conv => whnf
      refine ⟨trivial,?_⟩
      conv => whnf
      refine ⟨rfl,List.length_append.symm,?_⟩
      conv => whnf
      refine ⟨by show (_ + 1) * 64 ≤ _; simp only [List.length_append,List.length_map,List.length_cons,List.length_nil]; omega,by show _ + 1 ≤ _; simp only [List.length_append,List.length_map,List.length_cons,List.length_nil]; omega,(fun h => by cases h),fun w1b => ?_⟩
      conv => whnf
      refine Tri.region ti3_ok ?_
      conv => whnf
      refine ⟨trivial,?_⟩
      conv => whnf
      refine ⟨rfl,rfl,?_⟩
      conv => whnf
      refine ⟨by show (_ + 1) * 56 ≤ _; omega,by show _ + 1 ≤ _; omega,(fun h => by cases h),fun w2b => ?_⟩
      conv => whnf
      have hi0 : i = 0 ∧ sh ≠ 0:=by
       cases h : decide ((i : Int) = 0) <;> rw [h] at hc
       ·cases hc
       ·have h1:=of_decide_eq_true h
        have h2:=of_decide_eq_true hc
        omega
      have hpd : preD sh rn i = [⟨[47],rn,2,0,0,false⟩]:=if_pos hi0
      have hpr : preR sh rn i = [⟨[47],rn,0,1,true,false,false⟩]:=if_pos hi0
      have e1 : (dirU sh rn (dirsX L) i).map encDir ++ [encDir (dirW sh s)] ++ [encDir ⟨[47],rn,2,0,0,false⟩] = (dirU sh rn (dirsX L) (i + 1)).map encDir:=by rw [hdn,hpd]; simp
      have e2 : (entU sh rn T i).map encEnt ++ [encEnt ⟨[47],rn,0,1,true,false,false⟩] = (entU sh rn T i ++ preR sh rn i).map encEnt:=by rw [hpr]; simp
      exact ⟨(w1b,w2b),[(2,2),(7,7),(8,8),(500,78),(600,83),(15,15)],⟨.refl _,.refl _,.refl _,.refl _,.refl _,DLe.trans (DLe.of_eq (congrArg (D.sl (.own 78 w1b) 6) e1)) (DLe.own _ _),DLe.trans (DLe.of_eq (congrArg (D.sl (.own 83 w2b) 7) e2)) (DLe.own _ _),.refl _,.refl _,.refl _,.refl _,.refl _,trivial⟩,rfl,rfl,rfl,rfl,rfl,rfl,rfl,rfl,congrArg (fun z : Nat => some (HObj.own w1b z 6 66)) (by rw [← e1]; exact List.length_append.symm),rfl,congrArg (fun z : Nat => some (HObj.own w2b z 7 68)) (by rw [← e2]; exact List.length_append.symm),rfl,rfl,trivial⟩
     ·refine Tri.skip ?_
      conv => whnf
      have hi0 : ¬ (i = 0 ∧ sh ≠ 0):=fun h => by
       obtain ⟨h1,h2⟩:=h
       rw [decide_eq_true (show (i : Int) = 0 by omega),decide_eq_true (show (0 : Int) < (sh : Int) by omega)] at hc
       cases hc
      have hpd : preD sh rn i = []:=if_neg hi0
      have hpr : preR sh rn i = []:=if_neg hi0
      have e1 : (dirU sh rn (dirsX L) i).map encDir ++ [encDir (dirW sh s)] = (dirU sh rn (dirsX L) (i + 1)).map encDir:=by rw [hdn,hpd]; simp
      have e2 : (entU sh rn T i).map encEnt = (entU sh rn T i ++ preR sh rn i).map encEnt:=by rw [hpr]; simp
      exact ⟨(w1a,w2),[(2,2),(7,7),(8,8),(500,64),(600,600),(15,15)],⟨.refl _,.refl _,.refl _,.refl _,.refl _,DLe.trans (DLe.of_eq (congrArg (D.sl (.own 64 w1a) 6) e1)) (DLe.own _ _),DLe.of_eq (congrArg (D.sl (.own 600 w2) 7) e2),.refl _,.refl _,.refl _,.refl _,.refl _,trivial⟩,rfl,rfl,rfl,rfl,rfl,rfl,rfl,rfl,congrArg (fun z : Nat => some (HObj.own w1a z 6 66)) (by rw [← e1]; exact List.length_append.symm),rfl,congrArg (fun z : List D => some (HObj.own w2 z.length 7 68)) e2,rfl,rfl,trivial⟩
    ·rintro ⟨w1c,w2c⟩
     try dsimp only
     generalize hR : T.filter (fun x => x.fi == i) = R
     have hRl : R.length ≤ T.length:=by rw [← hR]; exact List.length_filter_le _ _
     have hRD : recsD L i = R.map recD:=by rw [hrec,hR]
     have hRat : recsAt sh T i = R.map (XS.entV sh):=by rw [recsAt,hR]
     have hRm : ∀ x ∈ R,x ∈ T ∧ x.fi = i:=fun x hx => by rw [← hR] at hx; simpa using List.mem_filter.1 hx
     rw [hRD]
     refine Tri.seq ?_
     refine Tri.seq ?_
     refine Tri.region ti3_ok ?_
     conv => whnf
     refine ⟨rfl,?_⟩
     conv => whnf
     refine Tri.block ?_
     refine Tri.loopK (α:={ j : Nat // j ≤ R.length } × Value) (fun z => [(2,.box 2 b2 0),(7,.box 7 b7 0),(8,.box 8 b8 0),(10,.elm 1 [.int .i64 (sh : Int)] 0 0),(11,.fn (.func 91) [] [.elm 1 [.int .i64 (sh : Int)] 0 0]),(12,.sl (.own 500 w1c) 6 ((dirU sh rn (dirsX L) (i + 1)).map encDir)),(13,.sl (.own 600 z.2) 7 ((entU sh rn T i ++ preR sh rn i ++ (R.take z.1.1).map (XS.entV sh)).map encEnt)),(39,.sl .none 7 (folsP L)),(40,.int .i64 ((folsP L).length : Int)),(41,.int .i64 (i : Int)),(14,.int .i64 (i : Int)),(85,.sl .none 8 (R.map recD)),(86,.int .i64 ((R.map recD).length : Int)),(87,.int .i64 (z.1.1 : Int))]) (fun z => [(2,.box b2 (cellsN n)),(7,.box b7 [.sl .none 7 (folsP L)]),(8,.box b8 [.sl .none 1 (movD L)]),(500,.own w1c ((dirU sh rn (dirsX L) (i + 1)).map encDir).length 6 66),(600,.own z.2 ((entU sh rn T i ++ preR sh rn i ++ (R.take z.1.1).map (XS.entV sh)).map encEnt).length 7 68)]) (fun z => R.length - z.1.1) (⟨0,Nat.zero_le _⟩,w2c) [(2,2),(7,7),(8,8),(500,500),(600,600)]
      ⟨⟨.refl _,.refl _,.refl _,.refl _,.refl _,.refl _,DLe.of_eq (congrArg (fun z : List EntV => D.sl (.own 600 w2c) 7 (z.map encEnt)) (by simp)),.refl _,.refl _,.refl _,.refl _,.refl _,.refl _,.refl _,trivial⟩,rfl,rfl,rfl,rfl,rfl,rfl,rfl,rfl,rfl,rfl,congrArg (fun z : List EntV => some (HObj.own w2c (z.map encEnt).length 7 68)) (by simp),trivial⟩ ?_
     rintro ⟨⟨j,hj⟩,w2⟩
     try dsimp only
     refine Tri.seq ?_
     refine Tri.region ti3_ok ?_
     conv => whnf
     refine Tri.seq ?_
     refine Tri.cond (decide ((j : Int) < ((R.map recD).length : Int))) rfl (fun hc => ?_) (fun hc => ?_)
     ·refine Tri.skip ?_
      conv => whnf
      have hja : j < R.length:=by simpa using hc
      obtain ⟨x,hx⟩ : ∃ x,R[j]? = some x:=⟨_,List.getElem?_eq_getElem hja⟩
      have hxd : (R.map recD)[j]? = some (recD x):=by rw [List.getElem?_map,hx]; rfl
      obtain ⟨hxT,hxfi⟩:=hRm x (List.mem_of_getElem? hx)
      obtain ⟨tx,htx⟩:=List.mem_iff_getElem?.1 (show x ∈ L by rw [hLT]; exact List.mem_cons_of_mem _ hxT)
      obtain ⟨_,_,_,hxdi⟩:=hat tx x htx
      have hpre:=preR_len sh rn i
      have hel2 : ((entU sh rn T i ++ preR sh rn i ++ (R.take j).map (XS.entV sh)).map encEnt).length ≤ 20300:=by simp only [List.length_map,List.length_append,List.length_take]; omega
      have henx : (entU sh rn T i ++ preR sh rn i ++ (R.take j).map (XS.entV sh)).map encEnt ++ [encEnt (x.entV sh)] = (entU sh rn T i ++ preR sh rn i ++ (R.take (j + 1)).map (XS.entV sh)).map encEnt:=by rw [take_nxt hx]; simp
      refine Tri.seq ?_
      refine Tri.block ?_
      refine Tri.seq ?_
      refine Tri.region ti3_ok ?_
      conv => whnf
      refine ⟨fun _ => ⟨Int.natCast_nonneg _,by simpa using hja⟩,?_⟩
      conv => whnf
      refine ⟨recD x,fun _ => hxd,?_⟩
      conv => whnf
      intro b19
      conv => whnf
      refine ⟨rfl,?_⟩
      conv => whnf
      refine Tri.seq ?_
      refine Tri.region ti3_ok ?_
      conv => whnf
      refine ⟨rfl,?_⟩
      conv => whnf
      intro b20
      conv => whnf
      refine ⟨rfl,?_⟩
      conv => whnf
      refine Tri.seq ?_
      refine Tri.region ti3_ok ?_
      conv => whnf
      refine ⟨[.int .i64 (i : Int),.elm 1 [.int .i64 (sh : Int)] 0 0],_,fun _ => G91 _ sh (by omega) hsh1,⟨.refl _,.refl _,trivial⟩,?_⟩
      conv => whnf
      refine ⟨rfl,?_⟩
      conv => whnf
      refine Tri.seq ?_
      refine Tri.seq ?_
      refine Tri.region ti3_ok ?_
      conv => whnf
      refine ⟨rfl,?_⟩
      conv => whnf
      refine ⟨fun h => h,?_⟩
      conv => whnf
      refine ⟨rfl,?_⟩
      conv => whnf
      refine ⟨fun h => h,?_⟩
      conv => whnf
      refine ⟨fun h0 h => by first | exact h | (rw [h]; rfl) | (rw [h0,h]; rfl),?_⟩
      conv => whnf
      refine Tri.cond (bif decide ((0 : Int) ≤ (if x.isDir then (x.di : Int) else -1)) then !x.mv else false) rfl (fun hc => ?_) (fun hc => ?_)
      ·have hxb : x.isDir = true ∧ x.mv = false:=by
        cases h1 : x.isDir <;> cases h2 : x.mv <;> rw [h1,h2] at hc <;> simp at hc ⊢
       refine Tri.region ti3_ok ?_
       conv => whnf
       refine ⟨rfl,?_⟩
       conv => whnf
       refine ⟨[.int .i64 (x.di : Int),.elm 1 [.int .i64 (sh : Int)] 0 0],_,fun _ => G91 _ sh (by omega) hsh1,⟨intDLe (by rw [if_pos hxb.1]),.refl _,trivial⟩,?_⟩
       conv => whnf
       refine ⟨rfl,?_⟩
       conv => whnf
       refine Tri.region ti3_ok ?_
       conv => whnf
       refine ⟨rfl,?_⟩
       conv => whnf
       refine ⟨trivial,?_⟩
       conv => whnf
       refine ⟨rfl,rfl,?_⟩
       conv => whnf
       refine ⟨by show (_ + 1) * 56 ≤ _; omega,by show _ + 1 ≤ _; omega,(fun h => by cases h),fun w2b => ?_⟩
       conv => whnf
       refine Tri.region ti3_ok ?_
       conv => whnf
       refine .inl ⟨fun _ => by simp [InR]; omega,?_⟩
       conv => whnf
       have e2 : (entU sh rn T i ++ preR sh rn i ++ (R.take j).map (XS.entV sh)).map encEnt ++ [.agg [.str x.path,.str (if x.mv then x.file else x.id),.int .i64 (ixI sh (i : Int)),.int .i64 (ixI sh (x.di : Int)),.bool (!x.iso),.bool x.rock,.bool x.mv]] = (entU sh rn T i ++ preR sh rn i ++ (R.take (j + 1)).map (XS.entV sh)).map encEnt:=by
        rw [← henx,encEnt,XS.entV,hxfi,hxb.1,hxb.2,ixI_nat,ixI_nat]; rfl
       exact ⟨(⟨j + 1,hja⟩,w2b),[(2,2),(7,7),(8,8),(500,500),(600,113)],by show _ - (j + 1) < _ - j; omega,⟨.refl _,.refl _,.refl _,.refl _,.refl _,.refl _,DLe.trans (DLe.of_eq (congrArg (D.sl (.own 113 w2b) 7) e2)) (DLe.own _ _),.refl _,.refl _,.refl _,.refl _,.refl _,.refl _,.refl _,trivial⟩,rfl,rfl,rfl,rfl,rfl,rfl,rfl,rfl,rfl,rfl,congrArg (fun z : Nat => some (HObj.own w2b z 7 68)) (by rw [← e2]; exact List.length_append.symm),trivial⟩
      ·refine Tri.skip ?_
       conv => whnf
       refine Tri.region ti3_ok ?_
       conv => whnf
       refine ⟨rfl,?_⟩
       conv => whnf
       refine ⟨trivial,?_⟩
       conv => whnf
       refine ⟨rfl,rfl,?_⟩
       conv => whnf
       refine ⟨by show (_ + 1) * 56 ≤ _; omega,by show _ + 1 ≤ _; omega,(fun h => by cases h),fun w2b => ?_⟩
       conv => whnf
       refine Tri.region ti3_ok ?_
       conv => whnf
       refine .inl ⟨fun _ => by simp [InR]; omega,?_⟩
       conv => whnf
       have hxb : (x.isDir && !x.mv) = false:=by
        cases h1 : x.isDir <;> cases h2 : x.mv <;> rw [h1,h2] at hc <;> first | rfl | (exfalso; simp at hc; done)
       have e2 : (entU sh rn T i ++ preR sh rn i ++ (R.take j).map (XS.entV sh)).map encEnt ++ [.agg [.str x.path,.str (if x.mv then x.file else x.id),.int .i64 (ixI sh (i : Int)),.int .i64 (-1),.bool (!x.iso),.bool x.rock,.bool x.mv]] = (entU sh rn T i ++ preR sh rn i ++ (R.take (j + 1)).map (XS.entV sh)).map encEnt:=by
        rw [← henx,encEnt,XS.entV,hxfi,hxb,ixI_nat]; rfl
       exact ⟨(⟨j + 1,hja⟩,w2b),[(2,2),(7,7),(8,8),(500,500),(600,113)],by show _ - (j + 1) < _ - j; omega,⟨.refl _,.refl _,.refl _,.refl _,.refl _,.refl _,DLe.trans (DLe.of_eq (congrArg (D.sl (.own 113 w2b) 7) e2)) (DLe.own _ _),.refl _,.refl _,.refl _,.refl _,.refl _,.refl _,.refl _,trivial⟩,rfl,rfl,rfl,rfl,rfl,rfl,rfl,rfl,rfl,rfl,congrArg (fun z : Nat => some (HObj.own w2b z 7 68)) (by rw [← e2]; exact List.length_append.symm),trivial⟩
     ·refine Tri.exit ?_
      conv => whnf
      have hjn : j = R.length:=by simp at hc; omega
      rw [hjn,List.take_length,← hRat]
      clear hjn hc hj j
      have hpre:=preR_len sh rn i
      have hra:=recsAt_le sh T i
      refine Tri.seq ?_
      refine Tri.region ti3_ok ?_
      conv => whnf
      refine Tri.cond (decide ((i : Int) = 0)) rfl (fun hc => ?_) (fun hc => ?_)
      ·have hi0 : i = 0:=by simpa using hc
       refine Tri.seq ?_
       refine Tri.region ti3_ok ?_
       conv => whnf
       refine ⟨rfl,?_⟩
       conv => whnf
       refine Tri.block ?_
       refine Tri.loopK (α:={ k : Nat // k ≤ (movX L).length } × Value) (fun z => [(2,.box 2 b2 0),(7,.box 7 b7 0),(8,.box 8 b8 0),(10,.elm 1 [.int .i64 (sh : Int)] 0 0),(11,.fn (.func 91) [] [.elm 1 [.int .i64 (sh : Int)] 0 0]),(12,.sl (.own 500 w1c) 6 ((dirU sh rn (dirsX L) (i + 1)).map encDir)),(13,.sl (.own 600 z.2) 7 ((entU sh rn T i ++ preR sh rn i ++ recsAt sh T i ++ ((movX L).take z.1.1).map (XS.movV sh)).map encEnt)),(39,.sl .none 7 (folsP L)),(40,.int .i64 ((folsP L).length : Int)),(41,.int .i64 (i : Int)),(117,.sl .none 1 (movD L)),(118,.int .i64 ((movD L).length : Int)),(119,.int .i64 (z.1.1 : Int))]) (fun z => [(2,.box b2 (cellsN n)),(7,.box b7 [.sl .none 7 (folsP L)]),(8,.box b8 [.sl .none 1 (movD L)]),(500,.own w1c ((dirU sh rn (dirsX L) (i + 1)).map encDir).length 6 66),(600,.own z.2 ((entU sh rn T i ++ preR sh rn i ++ recsAt sh T i ++ ((movX L).take z.1.1).map (XS.movV sh)).map encEnt).length 7 68)]) (fun z => (movX L).length - z.1.1) (⟨0,Nat.zero_le _⟩,w2) [(2,2),(7,7),(8,8),(500,500),(600,600)]
        ⟨⟨.refl _,.refl _,.refl _,.refl _,.refl _,.refl _,DLe.of_eq (congrArg (fun z : List EntV => D.sl (.own 600 w2) 7 (z.map encEnt)) (by simp)),.refl _,.refl _,.refl _,.refl _,.refl _,.refl _,trivial⟩,rfl,rfl,rfl,rfl,rfl,rfl,rfl,rfl,rfl,rfl,congrArg (fun z : List EntV => some (HObj.own w2 (z.map encEnt).length 7 68)) (by simp),trivial⟩ ?_
       rintro ⟨⟨k,hk⟩,w2d⟩
       try dsimp only
       refine Tri.seq ?_
       refine Tri.region ti3_ok ?_
       conv => whnf
       refine Tri.seq ?_
       refine Tri.cond (decide ((k : Int) < ((movD L).length : Int))) rfl (fun hc => ?_) (fun hc => ?_)
       ·refine Tri.skip ?_
        conv => whnf
        have hka : k < (movX L).length:=by rw [movD,List.length_map] at hc; simpa using hc
        obtain ⟨x,hx⟩ : ∃ x,(movX L)[k]? = some x:=⟨_,List.getElem?_eq_getElem hka⟩
        have hxd : (movD L)[k]? = some (.int .i64 (x.di : Int)):=by rw [movD,List.getElem?_map,hx]; rfl
        have hxm:=List.mem_filter.1 (List.mem_of_getElem? hx)
        obtain ⟨tx,htx⟩:=List.mem_iff_getElem?.1 hxm.1
        obtain ⟨hxsi,hx0,_,hxdi⟩:=hat tx x htx
        have hxs0 : x.si ≠ 0:=fun h => by rw [hx0 (by omega)] at hxm; cases hxm.2
        have hxdir : x.isDir = true:=by
         obtain ⟨p,hstp⟩:=hb.at (Nat.pos_of_ne_zero (by omega)) htx
         have:=hstp.mv
         rw [hxm.2] at this
         cases h : x.isDir with
         | true => rfl
         | false => rw [h] at this; cases this
        obtain ⟨hxf,hxlt⟩:=hb.folder (by rw [hxsi]; exact htx) hxdir
        have hxfg:=folsP_get hxf
        have hkb : k ≤ 100:=by rw [hmT] at hka; omega
        have hel3 : ((entU sh rn T i ++ preR sh rn i ++ recsAt sh T i ++ ((movX L).take k).map (XS.movV sh)).map encEnt).length ≤ 20400:=by rw [hmT] at hka ⊢; simp only [List.length_map,List.length_append,List.length_take]; omega
        have henx : (entU sh rn T i ++ preR sh rn i ++ recsAt sh T i ++ ((movX L).take k).map (XS.movV sh)).map encEnt ++ [encEnt (x.movV sh)] = (entU sh rn T i ++ preR sh rn i ++ recsAt sh T i ++ ((movX L).take (k + 1)).map (XS.movV sh)).map encEnt:=by rw [take_nxt hx]; simp
        refine Tri.seq ?_
        refine Tri.block ?_
        refine Tri.seq ?_
        refine Tri.region ti3_ok ?_
        conv => whnf
        refine ⟨fun _ => ⟨Int.natCast_nonneg _,of_decide_eq_true hc⟩,?_⟩
        conv => whnf
        refine ⟨.int .i64 (x.di : Int),fun _ => hxd,?_⟩
        conv => whnf
        refine Tri.seq ?_
        refine Tri.region ti3_ok ?_
        conv => whnf
        refine ⟨rfl,?_⟩
        conv => whnf
        refine ⟨fun _ => ⟨Int.natCast_nonneg _,by rw [folsP_len]; exact Int.ofNat_lt.2 hxlt⟩,?_⟩
        conv => whnf
        refine ⟨folP L x.di x,fun _ => hxfg,?_⟩
        conv => whnf
        intro b23
        conv => whnf
        refine ⟨rfl,?_⟩
        conv => whnf
        refine Tri.drawTail ti3_ok 10 mixed (by kernel_rfl) ?_
        conv => whnf
        refine ⟨rfl,?_⟩
        conv => whnf
        refine ⟨rfl,?_⟩
        conv => whnf
        refine ⟨[.int .i64 (x.di : Int),.elm 1 [.int .i64 (sh : Int)] 0 0],_,fun _ => G91 _ sh (by omega) hsh1,⟨.refl _,.refl _,trivial⟩,?_⟩
        conv => whnf
        refine ⟨trivial,?_⟩
        conv => whnf
        refine ⟨rfl,rfl,?_⟩
        conv => whnf
        refine ⟨by show (_ + 1) * 56 ≤ _; omega,by show _ + 1 ≤ _; omega,(fun h => by cases h),fun w2b => ?_⟩
        conv => whnf
        refine Tri.region ti3_ok ?_
        conv => whnf
        refine .inl ⟨fun _ => by simp [InR]; omega,?_⟩
        conv => whnf
        have e2 : (entU sh rn T i ++ preR sh rn i ++ recsAt sh T i ++ ((movX L).take k).map (XS.movV sh)).map encEnt ++ [.agg [.str x.path,.str (if x.si = 0 then [0] else if x.mv then 68::Lib.decDigits x.mno else x.id),.int .i64 1,.int .i64 (ixI sh (x.di : Int)),.bool true,.bool true,.bool false]] = (entU sh rn T i ++ preR sh rn i ++ recsAt sh T i ++ ((movX L).take (k + 1)).map (XS.movV sh)).map encEnt:=by
         rw [← henx,encEnt,XS.movV,if_neg hxs0,if_pos hxm.2,ixI_nat]
        exact ⟨(⟨k + 1,hka⟩,w2b),[(2,2),(7,7),(8,8),(500,500),(600,138)],by show _ - (k + 1) < _ - k; omega,⟨.refl _,.refl _,.refl _,.refl _,.refl _,.refl _,DLe.trans (DLe.of_eq (congrArg (D.sl (.own 138 w2b) 7) e2)) (DLe.own _ _),.refl _,.refl _,.refl _,.refl _,.refl _,.refl _,trivial⟩,rfl,rfl,rfl,rfl,rfl,rfl,rfl,rfl,rfl,rfl,congrArg (fun z : Nat => some (HObj.own w2b z 7 68)) (by rw [← e2]; exact List.length_append.symm),trivial⟩
       ·have hkn : k = (movX L).length:=by
         have h1:=of_decide_eq_false hc
         rw [movD,List.length_map] at h1; omega
        have hen : entU sh rn T (i + 1) = entU sh rn T i ++ preR sh rn i ++ recsAt sh T i ++ ((movX L).take k).map (XS.movV sh):=by
         rw [entU,movS,if_pos hi0,hkn,List.take_length,hmT]; simp
        rw [← hen]
        refine Tri.exit ?_
        conv => whnf
        refine Tri.region ti3_ok ?_
        conv => whnf
        refine .inl ⟨fun _ => by simp [InR]; omega,?_⟩
        conv => whnf
        exact ⟨(⟨i + 1,hia⟩,w1c,w2d),[(2,2),(7,7),(8,8),(500,500),(600,600)],by show _ - (i + 1) < _ - i; omega,⟨.refl _,.refl _,.refl _,.refl _,.refl _,.refl _,.refl _,.refl _,.refl _,.refl _,trivial⟩,rfl,rfl,rfl,rfl,rfl,rfl,rfl,rfl,rfl,rfl,rfl,trivial⟩
      ·have hi0 : ¬ i = 0:=by simpa using hc
       have hen : entU sh rn T (i + 1) = entU sh rn T i ++ preR sh rn i ++ recsAt sh T i:=by
        rw [entU,movS,if_neg hi0]; simp
       rw [← hen]
       refine Tri.skip ?_
       conv => whnf
       refine Tri.region ti3_ok ?_
       conv => whnf
       refine .inl ⟨fun _ => by simp [InR]; omega,?_⟩
       conv => whnf
       exact ⟨(⟨i + 1,hia⟩,w1c,w2),[(2,2),(7,7),(8,8),(500,500),(600,600)],by show _ - (i + 1) < _ - i; omega,⟨.refl _,.refl _,.refl _,.refl _,.refl _,.refl _,.refl _,.refl _,.refl _,.refl _,trivial⟩,rfl,rfl,rfl,rfl,rfl,rfl,rfl,rfl,rfl,rfl,rfl,trivial⟩
  ·have hin : i = (dirsX T).length + 1:=by simp at hc; omega
   have hdp : dirU sh rn (dirsX L) i = dirsP rn T:=by
    rw [hin,hdT,← hsh]
    refine dirU_plan rn rfl fun s hs => ?_
    have hsm:=List.mem_filter.1 hs
    obtain ⟨t,ht⟩:=List.mem_iff_getElem?.1 hsm.1
    have:=hb.si (show L[t + 1]? = some s by rw [hLT]; exact ht)
    omega
   have hep : entU sh rn T i = entsP rn T:=by rw [hin,← hsh]; exact entU_plan rn T
   rw [hdp,hep]
   refine Tri.exit ?_
   conv => whnf
   refine Tri.seq ?_
   refine Tri.region ti3_ok ?_
   conv => whnf
   refine Tri.ret ?_
   conv => whnf
   exact ⟨DLe.unown,DLe.unown,.refl _,trivial⟩
end Go.Tame.V
/- Contracts: Names,whose result may be written. By program (mkrj.py). -/
namespace Go.Tame.V
open Go Go.Proofs
variable {W0 : World}
set_option maxRecDepth 10000
set_option linter.unusedVariables false
set_option linter.unusedSimpArgs false

theorem G29r (hL : LibOk W0) (v : Int) (kids : List NV) (hlen : kids.length < 1000000) (hnl : ∀ k ∈ kids,k.name.length < 1000000000) (he : (namesR v kids).2 = 0) : DCall Tryz.prog W0 29 [.int .i64 v,.sl .none 12 (kids.map enc)] Heap.none fun d H' => ∃ nv,d = .tup [.raw nv,.int .i64 0] ∧ H' = look [(2000,.row nv (strs (namesR v kids).1) 1 9)]:=by
 refine DCall.intro ti_ok Tryz.func29 rfl (by decide +kernel) Tryz.ntmps29 rfl fun Γ => ?_
 refine Tri.seq ?_
 refine Tri.region ti_ok ?_
 conv => whnf
 intro bk
 conv => whnf
 refine Tri.seq ?_
 refine Tri.seq ?_
 refine Tri.region ti_ok ?_
 conv => whnf
 refine ⟨[.int .i64 v],_,fun _ => F91 v,⟨.refl _,trivial⟩,?_⟩
 conv => whnf
 refine Tri.cond _ rfl (fun hc => ?_) (fun hc => ?_)
 ·refine Tri.seq ?_
  refine Tri.region ti_ok ?_
  conv => whnf
  refine Tri.ret ?_
  conv => whnf
  have h1 : viewOk v = false:=by simpa using hc
  have hR : namesR v kids = ([],2):=by rw [namesR,if_pos h1]
  exact absurd he (by rw [hR]; decide)
 ·refine Tri.skip ?_
  conv => whnf
  have hvo : viewOk v = true:=by simpa using hc
  refine Tri.seq ?_
  refine Tri.seq ?_
  refine Tri.region ti_ok ?_
  conv => whnf
  refine ⟨rfl,?_⟩
  conv => whnf
  refine Tri.cond _ rfl (fun hc => ?_) (fun hc => ?_)
  ·refine Tri.seq ?_
   refine Tri.region ti_ok ?_
   conv => whnf
   refine Tri.ret ?_
   conv => whnf
   have h1 : 64 < kids.length:=by simp at hc; omega
   have hR : namesR v kids = ([],7):=by rw [namesR,if_neg (by rw [hvo]; simp),if_pos h1]
   exact absurd he (by rw [hR]; decide)
  ·refine Tri.skip ?_
   conv => whnf
   have h64 : kids.length ≤ 64:=by simp at hc; omega
   refine Tri.seq ?_
   refine Tri.regionX ti_ok ?_
   conv => whnf
   refine .inl ?_
   conv => whnf
   refine ⟨rfl,?_⟩
   conv => whnf
   refine .inr (XOp.makeRow ti_ok (n:=kids.length) (k1:=.i64) (k2:=.i64) (z:=.int .i64 0) rfl rfl rfl rfl rfl ?_ ?_ (by show 8 * _ ≤ _; omega) (by omega) fun rv => ?_)
   ·show D.int _ _ = _; simp
   ·show D.int _ _ = _; simp
   conv => whnf
   refine Tri.seq ?_
   refine Tri.seq ?_
   refine Tri.region ti_ok ?_
   conv => whnf
   refine ⟨rfl,?_⟩
   conv => whnf
   refine Tri.block ?_
   refine Tri.loopK (α:={ i : Nat // i ≤ kids.length ∧ ∀ j,(hj : j < kids.length) → j < i → nameOk kids[j].name = true }) (fun x => [(0,.int .i64 v),(3,.box 3 bk 0),(6,.raw rv),(25,.sl .none 12 (kids.map enc)),(26,.int .i64 (kids.map enc).length),(27,.int .i64 x.1)])
    (fun x => [(24,.row rv (places x.1 ++ List.replicate (kids.length - x.1) (.int .i64 0)) 1 3),(3,.box bk [.sl .none 12 (kids.map enc)])]) (fun x => kids.length - x.1) ⟨0,by omega,fun j _ h => absurd h (Nat.not_lt_zero _)⟩ [(24,24),(3,3)]
    ⟨⟨.refl _,.refl _,.refl _,.refl _,.refl _,.refl _,trivial⟩,rfl,rfl,rfl,rfl,rfl,trivial⟩ ?_
   rintro ⟨i,hi,hoki⟩
   dsimp only
   refine Tri.seq ?_
   refine Tri.region ti_ok ?_
   conv => whnf
   refine Tri.seq ?_
   refine Tri.cond _ rfl (fun hc => ?_) (fun hc => ?_)
   ·refine Tri.skip ?_
    conv => whnf
    have hia : i < kids.length:=by simpa using hc
    have hpl : (places i).length = i:=by simp [places]
    refine Tri.seq ?_
    refine Tri.block ?_
    refine Tri.seq ?_
    refine Tri.region ti_ok ?_
    conv => whnf
    refine ⟨fun _ => by simp; omega,?_⟩
    conv => whnf
    refine ⟨encTop kids[i],fun _ => get_kids hia,?_⟩
    conv => whnf
    intro b8
    conv => whnf
    refine ⟨rfl,?_⟩
    conv => whnf
    refine Tri.seq ?_
    refine Tri.seq ?_
    refine Tri.region ti_ok ?_
    conv => whnf
    refine ⟨rfl,?_⟩
    conv => whnf
    refine ⟨[.str kids[i].name],_,fun _ => F100 hL _ (hnl _ (List.getElem_mem hia)),⟨.refl _,trivial⟩,?_⟩
    conv => whnf
    refine Tri.cond _ rfl (fun hc => ?_) (fun hc => ?_)
    ·refine Tri.seq ?_
     refine Tri.region ti_ok ?_
     conv => whnf
     refine Tri.ret ?_
     conv => whnf
     have h1 : allOk kids = false:=by
      rw [allOk,List.all_eq_false]
      exact ⟨kids[i],List.getElem_mem hia,by simpa using hc⟩
     have hR : namesR v kids = ([],4):=by rw [namesR,if_neg (by rw [hvo]; simp),if_neg (by omega),if_pos h1]
     exact absurd he (by rw [hR]; decide)
    ·refine Tri.skip ?_
     conv => whnf
     have hoi : nameOk kids[i].name = true:=by simpa using hc
     refine Tri.regionX ti_ok ?_
     conv => whnf
     refine .inr (XOp.rowIndex ti_ok 24 rfl rfl rfl rfl rfl rfl rfl (by omega) (by simp [hpl]; omega) ?_)
     conv => whnf
     conv => whnf
     refine .inr (XOp.rowStore ti_ok 24 (i:=i) (by rw [Int.toNat_natCast]; rfl) rfl rfl rfl (by simp [hpl]; omega) rfl ?_)
     conv => whnf
     conv => whnf
     refine Tri.region ti_ok ?_
     conv => whnf
     refine .inl ⟨fun _ => by simp [InR]; omega,?_⟩
     conv => whnf
     exact ⟨⟨i + 1,by omega,fun j hj hji => if e : j = i then by subst e; exact hoi else hoki j hj (by omega)⟩,[(24,24),(3,3)],by show _ - (i + 1) < _ - i; omega,⟨.refl _,.refl _,.refl _,.refl _,.refl _,.refl _,trivial⟩,rfl,rfl,congrArg (fun z => some (HObj.row rv z 1 3)) (places_set hia _),rfl,rfl,trivial⟩
   ·refine Tri.exit ?_
    conv => whnf
    refine Tri.seq ?_
    have hin : i = kids.length:=by simp at hc; omega
    have hrow : places i ++ List.replicate (kids.length - i) (D.int .i64 0) = places kids.length:=by subst hin; simp
    rw [hrow]
    have hall : ∀ k ∈ kids,nameOk k.name = true:=fun k hk => by
     obtain ⟨j,hj,rfl⟩:=List.mem_iff_getElem.1 hk
     exact hoki j hj (by omega)
    have hallb : allOk kids = true:=by rw [allOk,List.all_eq_true]; exact hall
    refine Tri.regionX ti_ok ?_
    conv => whnf
    refine .inr (XOp.call rfl [.raw rv,.fn (.func 77) [] [.box 2000 bk 0]] [(2001,24),(2000,3)] (sort_order kids hlen bk rv) rfl ⟨.refl _,DLe.fn trivial ⟨DLe.box,trivial⟩,trivial⟩ ?_)
    rintro d H' ⟨rfl,L,hO,rfl⟩
    refine ⟨_,.refl _,?_⟩
    conv => whnf
    refine Tri.forgetK [(6,.raw rv),(0,.int .i64 v),(3,.box 3 bk 0)] [(24,.row rv (L.map encI) 1 3),(3,.box bk [.sl .none 12 (kids.map enc)])] [(24,24),(3,3)] ⟨⟨.refl _,.refl _,.refl _,trivial⟩,rfl,rfl,rfl,rfl,rfl,trivial⟩ ?_
    refine Tri.commitSt 24 6 rfl ?_
    have hLl:=hO.len
    refine Tri.seq ?_
    refine Tri.regionX ti_ok ?_
    conv => whnf
    refine .inl ?_
    conv => whnf
    refine ⟨rfl,?_⟩
    conv => whnf
    refine .inr (XOp.makeRow ti_ok (n:=kids.length) (k1:=.i64) (k2:=.i64) (z:=.str []) rfl rfl rfl rfl rfl ?_ ?_ (by show 16 * _ ≤ _; omega) (by omega) fun nv => ?_)
    ·show D.int _ _ = _; simp
    ·show D.int _ _ = _; simp
    conv => whnf
    refine .inr (XOp.makeMap fun mb => ?_)
    conv => whnf
    refine Tri.seq ?_
    refine Tri.seq ?_
    refine Tri.region ti_ok ?_
    conv => whnf
    refine Tri.block ?_
    refine Tri.loopK (α:={ t : Nat // t ≤ L.length ∧ ∀ j,(hj : j + 1 < L.length) → j + 1 < t → (kids.getD L[j] default).name ≠ (kids.getD L[j + 1] default).name }) (fun x => [(0,.int .i64 v),(3,.box 3 bk 0),(6,.sl .none 1 (L.map encI)),(48,.sl .none 1 (L.map encI)),(49,.int .i64 (L.map encI).length),(50,.int .i64 x.1),(9,.raw nv),(10,.raw (.map (some mb)))])
     (fun x => [(46,.row nv (rowF kids.length L (pickAt v kids L) x.1) 1 9),(47,.set mb (usedG v ((inOrder kids L).take x.1))),(3,.box bk [.sl .none 12 (kids.map enc)])]) (fun x => L.length - x.1) ⟨0,by omega,fun j _ h => absurd h (Nat.not_lt_zero _)⟩ [(46,46),(47,47),(3,3)]
     ⟨⟨.refl _,.refl _,.refl _,.refl _,.refl _,.refl _,.refl _,.refl _,trivial⟩,rfl,rfl,congrArg (fun z => some (HObj.row nv z 1 9)) rowF_zero.symm,rfl,rfl,rfl,rfl,trivial⟩ ?_
    rintro ⟨t,ht,hnei⟩
    dsimp only
    refine Tri.seq ?_
    refine Tri.region ti_ok ?_
    conv => whnf
    refine Tri.seq ?_
    refine Tri.cond _ rfl (fun hc => ?_) (fun hc => ?_)
    ·refine Tri.skip ?_
     conv => whnf
     have hta : t < L.length:=by simpa using hc
     have hkt : L[t] < kids.length:=hO.lt hta
     have hord : ∀ j,(hj : j < L.length) → (L.map encI)[j]? = some (.int .i64 (L[j] : Nat)):=fun j hj => by simp [encI,hj]
     have hkd : ∀ j,j < kids.length → (kids.map enc)[j]? = some (encTop (kids.getD j default)):=fun j hj => by rw [get_kids hj]; simp [List.getD,hj]
     have hke : kids.getD L[t] default = kids[L[t]]:=by simp [List.getD,hkt]
     have hpr : ∀ (h : 0 < t),kids.getD (L.getD (t - 1) 0) default = kids.getD (L[t - 1]'(by omega)) default:=fun h => by simp [List.getD,show t - 1 < L.length by omega]
     have hlp : 0 < t → L.getD (t - 1) 0 < kids.length:=fun h => by
      have:=hO.lt (t:=t - 1) (by omega)
      simpa [List.getD,show t - 1 < L.length by omega] using this
     refine Tri.seq ?_
     refine Tri.block ?_
     refine Tri.seq ?_
     refine Tri.region ti_ok ?_
     conv => whnf
     refine ⟨fun _ => by simp; omega,?_⟩
     conv => whnf
     refine ⟨.int .i64 (L[t] : Nat),fun _ => hord t hta,?_⟩
     conv => whnf
     refine Tri.seq ?_
     refine Tri.seq ?_
     refine Tri.draw ti_ok mixed (by kernel_rfl) ?_
     conv => whnf
     refine ⟨rfl,?_⟩
     conv => whnf
     refine ⟨fun h => h,?_⟩
     conv => whnf
     refine .inl ⟨fun h => by simp only [InR]; omega,?_⟩
     conv => whnf
     refine ⟨fun h => h,?_⟩
     conv => whnf
     refine ⟨fun h => h,?_⟩
     conv => whnf
     refine ⟨fun h => by simp at h; simp; omega,?_⟩
     conv => whnf
     refine ⟨fun h => h,?_⟩
     conv => whnf
     refine ⟨.int .i64 ((L.getD (t - 1) 0 : Nat) : Int),fun h => by
      have h0 : 0 < t:=by simpa using h
      rw [pred_toNat h0,hord (t - 1) (by omega)]; simp [List.getD,show t - 1 < L.length by omega],?_⟩
     conv => whnf
     refine ⟨fun h => h,?_⟩
     conv => whnf
     refine ⟨fun h => h,?_⟩
     conv => whnf
     refine ⟨fun h => by
      have:=hlp (by simpa using h)
      rw [List.length_map]; omega,?_⟩
     conv => whnf
     refine ⟨fun h => h,?_⟩
     conv => whnf
     refine ⟨fun h => h,?_⟩
     conv => whnf
     refine ⟨encTop (kids.getD (L.getD (t - 1) 0) default),fun h => hkd _ (hlp (by simpa using h)),?_⟩
     conv => whnf
     refine ⟨rfl,?_⟩
     conv => whnf
     refine ⟨fun h => h,?_⟩
     conv => whnf
     refine ⟨fun h => h,?_⟩
     conv => whnf
     refine ⟨fun h => by simp; omega,?_⟩
     conv => whnf
     refine ⟨fun h => h,?_⟩
     conv => whnf
     refine ⟨fun h => h,?_⟩
     conv => whnf
     refine ⟨encTop kids[L[t]],fun h => get_kids hkt,?_⟩
     conv => whnf
     refine ⟨fun h => h,?_⟩
     conv => whnf
     refine ⟨fun h => h,?_⟩
     conv => whnf
     refine ⟨fun h0 h => by first | exact h | (rw [h]; rfl) | (rw [h0,h]; rfl),?_⟩
     conv => whnf
     refine Tri.cond _ rfl (fun hc => ?_) (fun hc => ?_)
     ·refine Tri.seq ?_
      refine Tri.region ti_ok ?_
      conv => whnf
      refine Tri.ret ?_
      conv => whnf
      cases h0 : decide ((0 : Int) < t) with
      | false => rw [h0] at hc; cases hc
      | true =>
       have ht0 : 0 < t:=by simpa using h0
       rw [h0] at hc
       have hc2 : ((kids.getD (L.getD (t - 1) 0) default).name == kids[L[t]].name) = true:=hc
       rw [hpr ht0,← hke,beq_iff_eq] at hc2
       have hd:=order_dup hO (s:=t - 1) (t:=t) (by omega) hta hc2
       have hR : namesR v kids = ([],5):=by rw [namesR,if_neg (by rw [hvo]; simp),if_neg (by omega),if_neg (by rw [hallb]; simp),if_pos hd]
       exact absurd he (by rw [hR]; decide)
     ·refine Tri.skip ?_
      conv => whnf
      have hnew : ∀ j,(hj : j + 1 < L.length) → j + 1 < t + 1 → (kids.getD L[j] default).name ≠ (kids.getD L[j + 1] default).name:=fun j hj hjt => by
       by_cases e : j + 1 = t
       ·subst e
        intro h
        have h1 : decide ((0 : Int) < (j + 1 : Nat)) = true:=by simp
        rw [h1] at hc
        have hc2 : ((kids.getD (L.getD (j + 1 - 1) 0) default).name == kids[L[j + 1]].name) = false:=hc
        rw [hpr (by omega),← hke,beq_eq_false_iff_ne] at hc2
        exact hc2 h
       ·exact hnei j hj (by omega)
      have hpk:=pickAt_get hO (v:=v) hta
      have hrs:=rowF_set (g:=pickAt v kids L) hta hkt
      have hOl:=order_len hO
      have hus : usedG v ((inOrder kids L).take (t + 1)) = pickAt v kids L L[t]::usedG v ((inOrder kids L).take t):=by
       rw [usedG_take (by omega),hpk,order_get hO hta]
      have hUl : (usedG v ((inOrder kids L).take t)).length = t:=by rw [usedG_len]; simp; omega
      have hoki:=hall kids[L[t]] (List.getElem_mem hkt)
      have hgk:=get_kids hkt
      have hrl:=rowF_len (n:=kids.length) (L:=L) (g:=pickAt v kids L) (t:=t)
      generalize usedG v ((inOrder kids L).take t) = U at *
      generalize rowF kids.length L (pickAt v kids L) t = Rw at *
      clear hord hpr hlp hkd hc
      generalize hkk : kids[L[t]] = k at *
      generalize hix : L[t] = ix at *
      refine Tri.seq ?_
      refine Tri.region ti_ok ?_
      conv => whnf
      refine ⟨rfl,?_⟩
      conv => whnf
      refine ⟨fun _ => by simp; omega,?_⟩
      conv => whnf
      refine ⟨encTop k,fun _ => hgk,?_⟩
      conv => whnf
      refine Tri.seq ?_
      refine Tri.seq ?_
      refine Tri.region ti_ok ?_
      conv => whnf
      refine ⟨fun h => h,?_⟩
      conv => whnf
      refine ⟨fun h0 h => by first | exact h | (rw [h]; rfl) | (rw [h0,h]; rfl),?_⟩
      conv => whnf
      refine Tri.cond _ rfl (fun hc => ?_) (fun hc => ?_)
      ·refine Tri.seq ?_
       have hv01 : v = 0 ∨ v = 1:=by
        cases h0 : (v == 0) with
        | true => exact .inl (by simpa using h0)
        | false => rw [h0] at hc; exact .inr (by simpa using hc)
       have hnl:=name_len hoki
       obtain ⟨l,hl,_,_,_,_⟩:=name_chars hoki
       have hcalled:=F125 (W0:=W0) v k.name l (k.kind == 0) (by omega) hl
       have hwl:=want_len v k.name (k.kind == 0)
       have hfr:=fresh_ok v U (wantS v k.name (k.kind == 0)).1 (wantS v k.name (k.kind == 0)).2 (by omega)
       have hpk2 : pickAt v kids L ix = numS v (wantS v k.name (k.kind == 0)).1 (wantS v k.name (k.kind == 0)).2 (freshK v U (wantS v k.name (k.kind == 0)).1 (wantS v k.name (k.kind == 0)).2):=by
        rw [hpk,pickG,if_pos hv01]; rfl
       generalize (wantS v k.name (k.kind == 0)).1 = st at *
       generalize (wantS v k.name (k.kind == 0)).2 = ex at *
       generalize hK : freshK v U st ex = K at *
       refine Tri.region ti_ok ?_
       conv => whnf
       refine ⟨rfl,?_⟩
       conv => whnf
       refine ⟨fun _ => by simp; omega,?_⟩
       conv => whnf
       refine ⟨encTop k,fun _ => hgk,?_⟩
       conv => whnf
       refine ⟨[.int .i64 v,.str k.name,.bool (k.kind == 0)],_,fun _ => hcalled,⟨.refl _,.refl _,.refl _,trivial⟩,?_⟩
       conv => whnf
       intro b14
       conv => whnf
       refine ⟨rfl,?_⟩
       conv => whnf
       refine Tri.seq ?_
       refine Tri.region ti_ok ?_
       conv => whnf
       refine ⟨rfl,?_⟩
       conv => whnf
       refine ⟨[wantD st ex,.int .i64 v,.int .i64 (0 : Nat)],_,fun _ => F126 v st ex 0 (by omega) (by omega) (by omega),⟨.refl _,.refl _,.refl _,trivial⟩,?_⟩
       conv => whnf
       refine Tri.seq ?_
       refine Tri.region ti_ok ?_
       conv => whnf
       refine Tri.block ?_
       refine Tri.loopK (α:={ j : Nat // j ≤ K }) (fun x => [(0,.int .i64 v),(3,.box 3 bk 0),(6,.sl .none 1 (L.map encI)),(48,.sl .none 1 (L.map encI)),(49,.int .i64 (L.map encI).length),(50,.int .i64 t),(9,.raw nv),(10,.raw (.map (some mb))),(12,.int .i64 (ix : Nat)),(13,.str (numS v st ex x.1)),(14,.box 14 b14 0),(15,.int .i64 ((x.1 + 1 : Nat) : Int))])
        (fun x => [(46,.row nv Rw 1 9),(47,.set mb U),(3,.box bk [.sl .none 12 (kids.map enc)]),(14,.box b14 [.sl .none 1 (ints32 st),.sl .none 1 (ints32 ex)])]) (fun x => K - x.1) ⟨0,by omega⟩ [(46,46),(47,47),(3,3),(14,14)]
        ⟨⟨.refl _,.refl _,.refl _,.refl _,.refl _,.refl _,.refl _,.refl _,.refl _,.refl _,.refl _,.refl _,trivial⟩,rfl,rfl,rfl,rfl,rfl,rfl,rfl,rfl,rfl,trivial⟩ ?_
       rintro ⟨j,hj⟩
       dsimp only
       refine Tri.seq ?_
       refine Tri.seq ?_
       refine Tri.regionX ti_ok ?_
       conv => whnf
       refine .inr (XOp.setLookup 47 (kt:=9) (et:=4) rfl rfl (fun w => rfl) rfl rfl rfl ?_)
       refine Tri.cond _ rfl (fun hc => ?_) (fun hc => ?_)
       ·refine Tri.skip ?_
        conv => whnf
        refine Tri.seq ?_
        refine Tri.block ?_
        refine Tri.region ti_ok ?_
        have hjU : numS v st ex j ∈ U:=of_decide_eq_true hc
        have hjK : j < K:=by
         rcases Nat.lt_or_ge j K with h | h
         ·exact h
         ·have : j = K:=by omega
          subst this; exact absurd hjU hfr.2.1
        conv => whnf
        refine ⟨rfl,?_⟩
        conv => whnf
        refine ⟨[wantD st ex,.int .i64 v,.int .i64 ((j + 1 : Nat) : Int)],_,fun _ => F126 v st ex (j + 1) (by omega) (by omega) (by omega),⟨.refl _,.refl _,.refl _,trivial⟩,?_⟩
        conv => whnf
        refine Tri.region ti_ok ?_
        conv => whnf
        refine .inl ⟨fun _ => by simp only [InR]; omega,?_⟩
        conv => whnf
        exact ⟨⟨j + 1,by omega⟩,[(46,46),(47,47),(3,3),(14,14)],by show K - (j + 1) < K - j; omega,⟨.refl _,.refl _,.refl _,.refl _,.refl _,.refl _,.refl _,.refl _,.refl _,.refl _,.refl _,.refl _,trivial⟩,rfl,rfl,rfl,rfl,rfl,rfl,rfl,rfl,rfl,trivial⟩
       ·refine Tri.exit ?_
        conv => whnf
        refine Tri.regionX ti_ok ?_
        have hjU : numS v st ex j ∉ U:=of_decide_eq_false hc
        have hjK : j = K:=by
         rcases Nat.lt_or_ge j K with h | h
         ·exact absurd (hfr.2.2 j h) hjU
         ·omega
        subst hjK
        conv => whnf
        refine .inr (XOp.setUpdate 47 (kt:=9) (et:=4) rfl rfl rfl rfl rfl rfl ?_)
        conv => whnf
        refine .inr (XOp.rowIndex ti_ok 46 rfl rfl rfl rfl rfl rfl rfl (by omega) (by rw [hrl]; omega) ?_)
        conv => whnf
        conv => whnf
        refine .inr (XOp.rowStore ti_ok 46 (i:=ix) (by rw [Int.toNat_natCast]; rfl) rfl rfl rfl (by rw [hrl]; omega) rfl ?_)
        conv => whnf
        conv => whnf
        refine Tri.region ti_ok ?_
        conv => whnf
        refine .inl ⟨fun _ => by simp only [InR]; omega,?_⟩
        conv => whnf
        exact ⟨⟨t + 1,by omega,hnew⟩,[(46,46),(47,47),(3,3)],by show _ - (t + 1) < _ - t; omega,⟨.refl _,.refl _,.refl _,.refl _,.refl _,.refl _,.refl _,.refl _,trivial⟩,rfl,rfl,congrArg (fun z => some (HObj.row nv z 1 9)) (by rw [← hpk2]; exact hrs),rfl,
         congrArg (fun z => some (HObj.set mb z)) (by dsimp only; rw [hus,hpk2]),rfl,rfl,trivial⟩
      ·have hv01 : ¬ (v = 0 ∨ v = 1):=by
        rintro (rfl | rfl) <;> cases hc
       have hpk2 : pickAt v kids L ix = k.name:=by rw [hpk,pickG,if_neg hv01]
       refine Tri.skip ?_
       conv => whnf
       refine Tri.regionX ti_ok ?_
       conv => whnf
       refine .inr (XOp.setUpdate 47 (kt:=9) (et:=4) rfl rfl rfl rfl rfl rfl ?_)
       conv => whnf
       refine .inr (XOp.rowIndex ti_ok 46 rfl rfl rfl rfl rfl rfl rfl (by omega) (by rw [hrl]; omega) ?_)
       conv => whnf
       conv => whnf
       refine .inr (XOp.rowStore ti_ok 46 (i:=ix) (by rw [Int.toNat_natCast]; rfl) rfl rfl rfl (by rw [hrl]; omega) rfl ?_)
       conv => whnf
       conv => whnf
       refine Tri.region ti_ok ?_
       conv => whnf
       refine .inl ⟨fun _ => by simp only [InR]; omega,?_⟩
       conv => whnf
       exact ⟨⟨t + 1,by omega,hnew⟩,[(46,46),(47,47),(3,3)],by show _ - (t + 1) < _ - t; omega,⟨.refl _,.refl _,.refl _,.refl _,.refl _,.refl _,.refl _,.refl _,trivial⟩,rfl,rfl,congrArg (fun z => some (HObj.row nv z 1 9)) (by rw [← hpk2]; exact hrs),rfl,
        congrArg (fun z => some (HObj.set mb z)) (by dsimp only; rw [hus,hpk2]),rfl,rfl,trivial⟩
    ·refine Tri.exit ?_
     conv => whnf
     have htn : t = L.length:=by simp at hc; omega
     have hinc : inc (inOrder kids L):=order_inc hO fun j hj => hnei j hj (by omega)
     have hnd:=order_nodup hO hinc
     have hR : namesR v kids = (namesU v kids,0):=by rw [namesR,if_neg (by rw [hvo]; simp),if_neg (by omega),if_neg (by rw [hallb]; simp),if_neg (by simp [hnd])]
     have hrow2 : rowF kids.length L (pickAt v kids L) t = strs (namesU v kids):=by
      rw [htn]; exact rowF_all hO fun j hj => pickAt_for hO hinc hj
     rw [hrow2,hR]
     refine Tri.forgetK [(9,.raw nv)] [(2000,.row nv (strs (namesU v kids)) 1 9)] [(2000,46)] ⟨⟨.refl _,trivial⟩,rfl,rfl,rfl,trivial⟩ ?_
     refine Tri.seq ?_
     refine Tri.region ti_ok ?_
     conv => whnf
     refine Tri.ret ?_
     conv => whnf
     exact ⟨.tup [.raw nv,.int .i64 0],⟨.refl _,.refl _,trivial⟩,nv,rfl,rfl⟩
end Go.Tame.V
/- Contracts: Reverse,Identifiers,Physical,Needed,chain. By program (mkrj.py,mk.py). -/
namespace Go.Tame.V
open Go Go.Proofs
variable {W0 : World}
set_option maxRecDepth 10000
set_option linter.unusedVariables false
set_option linter.unusedSimpArgs false

theorem bif3_lt {b1 b2 : Bool} {i j k : Nat} {d e : D} {xs : List D} (h : k < xs.length) : (k : Int) < ((bif b2 then ((xs.set i d).set j e) else (bif b1 then xs.set i d else xs)).length : Int):=by
 cases b2 <;> cases b1 <;> simp only [cond_true,cond_false,List.length_set] <;> exact Int.ofNat_lt.2 h
theorem bif3_lt' {b1 b2 : Bool} {i j k : Nat} {d e : D} {xs : List D} (h : k < xs.length) : k < (bif b2 then ((xs.set i d).set j e) else (bif b1 then xs.set i d else xs)).length:=by
 cases b2 <;> cases b1 <;> simp only [cond_true,cond_false,List.length_set] <;> exact h
/-- The list with its first and last i elements exchanged. -/
def rvAt (L : List (List UInt8)) (i k : Nat) : D:=.str (if k < i ∨ L.length ≤ k + i then L.getD (L.length - 1 - k) [] else L.getD k [])
def rvL (L : List (List UInt8)) (i : Nat) : List D:=(List.range L.length).map (rvAt L i)
theorem rvL_len (L : List (List UInt8)) (i : Nat) : (rvL L i).length = L.length:=by simp [rvL]
theorem rvL_get {L : List (List UInt8)} {i k : Nat} (h : k < L.length) : (rvL L i)[k]? = some (rvAt L i k):=by simp [rvL,h]
theorem rvL_zero (L : List (List UInt8)) : strs L = rvL L 0:=by
 apply List.ext_getElem?
 intro k
 rcases Nat.lt_or_ge k L.length with h | h
 ·rw [rvL_get h,rvAt,if_neg (by omega)]; simp [strs,h]
 ·rw [List.getElem?_eq_none (by simp [strs]; omega),List.getElem?_eq_none (by rw [rvL_len]; omega)]
theorem rvL_all {L : List (List UInt8)} {i : Nat} (h : L.length ≤ 2 * i + 1) : rvL L i = strs L.reverse:=by
 apply List.ext_getElem?
 intro k
 rcases Nat.lt_or_ge k L.length with hk | hk
 ·rw [rvL_get hk,rvAt]
  have e : (strs L.reverse)[k]? = some (.str (L.getD (L.length - 1 - k) [])):=by
   rw [strs,List.getElem?_map,List.getElem?_reverse hk,List.getElem?_eq_getElem (by omega),List.getD_eq_getElem?_getD,List.getElem?_eq_getElem (by omega)]; rfl
  rw [e]
  split
  ·rfl
  ·have : L.length - 1 - k = k:=by omega
   rw [this]
 ·rw [List.getElem?_eq_none (by rw [rvL_len]; omega),List.getElem?_eq_none (by simp [strs]; omega)]
theorem rvL_next {L : List (List UInt8)} {i : Nat} (h : 2 * i + 1 < L.length) :
  ((rvL L i).set i (.str (L.getD (L.length - 1 - i) []))).set (L.length - 1 - i) (.str (L.getD i [])) = rvL L (i + 1):=by
 apply List.ext_getElem?
 intro k
 rcases Nat.lt_or_ge k L.length with hk | hk
 ·rw [rvL_get hk,List.getElem?_set,List.length_set,rvL_len,List.getElem?_set,rvL_len]
  by_cases h1 : L.length - 1 - i = k
  ·subst h1
   rw [if_pos rfl,if_pos hk,rvAt,if_pos (by omega)]
   congr 4; omega
  ·rw [if_neg h1]
   by_cases h2 : i = k
   ·subst h2
    rw [if_pos rfl,if_pos hk,rvAt,if_pos (by omega)]
   ·rw [if_neg h2,rvL_get hk,rvAt,rvAt]
    congr 3
    apply propext
    omega
 ·rw [List.getElem?_eq_none (by simp [rvL_len]; omega),List.getElem?_eq_none (by rw [rvL_len]; omega)]
/-- Identifiers of names. -/
def idAt (N : List (List UInt8)) (kids : List NV) (j : Nat) : List UInt8 × Int:=identI (N.getD j []) ((kids.getD j default).kind == 0)
def idRow (N : List (List UInt8)) (kids : List NV) (i : Nat) : List D:=(List.range N.length).map fun j => .str (if j < i then (idAt N kids j).1 else N.getD j [])
def idsOk (N : List (List UInt8)) (kids : List NV) (i : Nat) : Prop:=∀ j,j < i → (idAt N kids j).2 = 0
theorem idRow_len (N : List (List UInt8)) (kids : List NV) (i : Nat) : (idRow N kids i).length = N.length:=by simp [idRow]
theorem idRow_get {N : List (List UInt8)} {kids : List NV} {i k : Nat} (h : k < N.length) : (idRow N kids i)[k]? = some (.str (if k < i then (idAt N kids k).1 else N.getD k [])):=by simp [idRow,h]
theorem idRow_zero (N : List (List UInt8)) (kids : List NV) : strs N = idRow N kids 0:=by
 apply List.ext_getElem?
 intro k
 rcases Nat.lt_or_ge k N.length with h | h
 ·rw [idRow_get h,if_neg (by omega)]; simp [strs,h]
 ·rw [List.getElem?_eq_none (by simp [strs]; omega),List.getElem?_eq_none (by rw [idRow_len]; omega)]
theorem idRow_next {N : List (List UInt8)} {kids : List NV} {i : Nat} (h : i < N.length) : (idRow N kids i).set i (.str (idAt N kids i).1) = idRow N kids (i + 1):=by
 apply List.ext_getElem?
 intro k
 rcases Nat.lt_or_ge k N.length with hk | hk
 ·rw [List.getElem?_set,idRow_len,idRow_get (i:=i + 1) hk]
  by_cases h1 : i = k
  ·subst h1; rw [if_pos rfl,if_pos hk,if_pos (by omega)]
  ·rw [if_neg h1,idRow_get hk]
   congr 3
   apply propext
   omega
 ·rw [List.getElem?_eq_none (by simp [idRow_len]; omega),List.getElem?_eq_none (by rw [idRow_len]; omega)]
def idsL (N : List (List UInt8)) (kids : List NV) : List (List UInt8):=(List.range N.length).map fun j => (idAt N kids j).1
theorem idRow_all (N : List (List UInt8)) (kids : List NV) : idRow N kids N.length = strs (idsL N kids):=by
 rw [idRow,strs,idsL,List.map_map]
 refine List.map_congr_left fun j hj => ?_
 rw [if_pos (by simpa using hj)]; rfl
/-- The identifiers from a directory up,the root without. -/
def physW (l : List DirV) : Nat → Int → Option (List (List UInt8))
 | _,0 => some []
 | 0,_ => none
 | m + 1,i => let d:=l.getD i.toNat default
  if 0 ≤ d.parent ∧ d.parent < l.length then (physW l m d.parent).map (fun x => d.id::x) else none
def physV (l : List DirV) (i : Int) : List (List UInt8) × Int :=
 if i < 0 ∨ (l.length : Int) ≤ i then ([],2) else match physW l l.length i with | some x => (x.reverse,0) | none => ([],13)
theorem physW_zero (l : List DirV) (m : Nat) : physW l m 0 = some []:=by cases m <;> rfl
theorem physW_none {l : List DirV} {i : Int} (h : i ≠ 0) : physW l 0 i = none:=by
 unfold physW
 split
 ·contradiction
 ·rfl
 ·contradiction
theorem physW_next {l : List DirV} {m : Nat} {i : Int} (h : i ≠ 0) : physW l (m + 1) i = if 0 ≤ (l.getD i.toNat default).parent ∧ (l.getD i.toNat default).parent < l.length then (physW l m (l.getD i.toNat default).parent).map (fun x => (l.getD i.toNat default).id::x) else none:=by
 rw [physW]; exact h
def chainN : Nat → NV
 | 0 => .mk [97] 0 [] [] 0 0 0 315532800 0 0 [] []
 | k + 1 => .mk [97] 0 [] [] 0 0 0 315532800 0 0 [chainN k] []
def chainT (k : Nat) : NV:=.mk [] 0 [] [] 0 0 0 315532800 0 0 [chainN k] []
set_option maxHeartbeats 4000000 in
theorem G99 (L : List (List UInt8)) (v : Value) (hL : L.length < 100000) : DCall Tryz.prog W0 99 [.raw v] (look [(2000,.row v (strs L) 1 9)]) fun d H' => d = .tup [] ∧ H' = look [(2000,.row v (strs L.reverse) 1 9)]:=by
 refine DCall.intro ti2_ok Tryz.func99 rfl (by decide +kernel) Tryz.ntmps99 rfl fun Γ => ?_
 refine Tri.seq ?_
 refine Tri.regionG ti2_ok ?_
 conv => whnf
 refine ⟨rfl,trivial,.inl ?_⟩
 conv => whnf
 refine ⟨rfl,trivial,.inr (XOp.rowLen ti2_ok 2000 rfl rfl rfl rfl ?_)⟩
 conv => whnf
 refine ⟨rfl,trivial,.inl ?_⟩
 conv => whnf
 refine .inl ⟨fun _ => by simp [InR,strs]; omega,?_⟩
 conv => whnf
 refine ⟨rfl,trivial,.inl ?_⟩
 conv => whnf
 refine ⟨rfl,trivial,.inl ?_⟩
 conv => whnf
 refine Tri.block ?_
 refine Tri.loopK (α:={ i : Nat // 2 * i ≤ L.length }) (fun z => [(0,.raw v),(2,.int .i64 (z.1 : Int)),(3,.int .i64 ((L.length : Int) - 1 - (z.1 : Int)))]) (fun z => [(2000,.row v (rvL L z.1) 1 9)]) (fun z => L.length - z.1) ⟨0,by omega⟩ [(2000,2000)]
  ⟨⟨.refl _,.refl _,intDLe (by simp [strs]),trivial⟩,rfl,rfl,congrArg (fun z => some (HObj.row v z 1 9)) (rvL_zero L),trivial⟩ ?_
 rintro ⟨i,hi⟩
 try dsimp only
 refine Tri.seq ?_
 refine Tri.seq ?_
 refine Tri.region ti2_ok ?_
 conv => whnf
 refine Tri.cond (decide ((i : Int) < (L.length : Int) - 1 - (i : Int))) rfl (fun hc => ?_) (fun hc => ?_)
 ·refine Tri.skip ?_
  conv => whnf
  have hi2 : 2 * i + 1 < L.length:=by have:=of_decide_eq_true hc; omega
  obtain ⟨jj,hjj⟩ : ∃ jj,jj = L.length - 1 - i:=⟨_,rfl⟩
  have hjI : (L.length : Int) - 1 - (i : Int) = (jj : Int):=by omega
  have hil : i < (rvL L i).length:=by rw [rvL_len]; omega
  have hjl : jj < (rvL L i).length:=by rw [rvL_len]; omega
  have hnx:=rvL_next hi2
  have hai:=rvL_get (L:=L) (i:=i) (k:=i) (by omega)
  have hbj:=rvL_get (L:=L) (i:=i) (k:=jj) (by omega)
  rw [rvAt,if_neg (by omega)] at hai hbj
  rw [← hjj] at hnx
  rw [hjI]
  generalize L.getD i [] = a at *
  generalize L.getD jj [] = b at *
  refine Tri.seq ?_
  refine Tri.block ?_
  refine Tri.bitsG ti2_ok mixed (α:=Unit) (fun _ f => [(0,.raw v),(2,.int .i64 (i : Int)),(3,.int .i64 (jj : Int)),(14,bif f 0 then .raw v else .any),(15,bif f 1 then .int .i64 (i : Int) else .any),(16,bif f 2 then .raw v else .any),(17,bif f 3 then .int .i64 (jj : Int) else .any),(18,bif f 4 then .raw v else .any),(19,bif f 5 then .int .i64 (jj : Int) else .any),(20,bif f 6 then .raw (rowPtr v (((jj : Nat) : Int).toNat * 1)) else .any),(21,bif f 7 then .str b else .any),(22,bif f 8 then .raw v else .any),(23,bif f 9 then .int .i64 (i : Int) else .any),(24,bif f 10 then .raw (rowPtr v (((i : Nat) : Int).toNat * 1)) else .any),(25,bif f 11 then .str a else .any),(26,bif f 12 then .raw (rowPtr v (((i : Nat) : Int).toNat * 1)) else .any),(27,bif f 14 then .raw (rowPtr v (((jj : Nat) : Int).toNat * 1)) else .any)])
   (fun _ f => look [(2000,.row v (bif f 15 then (((rvL L i).set i (.str b)).set jj (.str a)) else (bif f 13 then ((rvL L i).set i (.str b)) else rvL L i)) 1 9)]) (by decide +kernel) () ?_ ?_ ?_ ?_
  ·exact ⟨.refl _,.refl _,.refl _,.any _,.any _,.any _,.any _,.any _,.any _,.any _,.any _,.any _,.any _,.any _,.any _,.any _,.any _,trivial⟩
  ·exact SubHF.of ⟨rfl,trivial⟩
  ·conv => whnf
   refine ⟨fun _ f hI => ?_,?_⟩
   ·obtain ⟨f,rfl⟩:=off f 13 (hI.no 13 0 rfl rfl)
    obtain ⟨f,rfl⟩:=off f 15 (hI.no 15 0 rfl rfl)
    conv => whnf
    refine ⟨trivial,.inl ?_⟩
    conv => whnf
    exact ⟨(),⟨.refl _,.refl _,.refl _,.refl _,.refl _,.refl _,.refl _,.refl _,.refl _,.refl _,.refl _,.refl _,.refl _,.refl _,.refl _,.refl _,.refl _,trivial⟩,fun k o h => h⟩
   refine ⟨fun _ f hI => ?_,?_⟩
   ·obtain ⟨f,rfl⟩:=off f 13 (hI.no 13 1 rfl rfl)
    obtain ⟨f,rfl⟩:=off f 15 (hI.no 15 1 rfl rfl)
    conv => whnf
    refine ⟨trivial,.inl ?_⟩
    conv => whnf
    exact ⟨(),⟨.refl _,.refl _,.refl _,.refl _,.refl _,.refl _,.refl _,.refl _,.refl _,.refl _,.refl _,.refl _,.refl _,.refl _,.refl _,.refl _,.refl _,trivial⟩,fun k o h => h⟩
   refine ⟨fun _ f hI => ?_,?_⟩
   ·obtain ⟨f,rfl⟩:=off f 15 (hI.no 15 2 rfl rfl)
    conv => whnf
    refine ⟨trivial,.inl ?_⟩
    conv => whnf
    exact ⟨(),⟨.refl _,.refl _,.refl _,.refl _,.refl _,.refl _,.refl _,.refl _,.refl _,.refl _,.refl _,.refl _,.refl _,.refl _,.refl _,.refl _,.refl _,trivial⟩,fun k o h => h⟩
   refine ⟨fun _ f hI => ?_,?_⟩
   ·obtain ⟨f,rfl⟩:=off f 15 (hI.no 15 3 rfl rfl)
    conv => whnf
    refine ⟨trivial,.inl ?_⟩
    conv => whnf
    exact ⟨(),⟨.refl _,.refl _,.refl _,.refl _,.refl _,.refl _,.refl _,.refl _,.refl _,.refl _,.refl _,.refl _,.refl _,.refl _,.refl _,.refl _,.refl _,trivial⟩,fun k o h => h⟩
   refine ⟨fun _ f hI => ?_,?_⟩
   ·obtain ⟨f,rfl⟩:=off f 13 (hI.no 13 4 rfl rfl)
    obtain ⟨f,rfl⟩:=off f 15 (hI.no 15 4 rfl rfl)
    conv => whnf
    refine ⟨trivial,.inl ?_⟩
    conv => whnf
    exact ⟨(),⟨.refl _,.refl _,.refl _,.refl _,.refl _,.refl _,.refl _,.refl _,.refl _,.refl _,.refl _,.refl _,.refl _,.refl _,.refl _,.refl _,.refl _,trivial⟩,fun k o h => h⟩
   refine ⟨fun _ f hI => ?_,?_⟩
   ·obtain ⟨f,rfl⟩:=off f 13 (hI.no 13 5 rfl rfl)
    obtain ⟨f,rfl⟩:=off f 15 (hI.no 15 5 rfl rfl)
    conv => whnf
    refine ⟨trivial,.inl ?_⟩
    conv => whnf
    exact ⟨(),⟨.refl _,.refl _,.refl _,.refl _,.refl _,.refl _,.refl _,.refl _,.refl _,.refl _,.refl _,.refl _,.refl _,.refl _,.refl _,.refl _,.refl _,trivial⟩,fun k o h => h⟩
   refine ⟨fun _ f hI => ?_,?_⟩
   ·obtain ⟨f,rfl⟩:=off f 13 (hI.no 13 6 rfl rfl)
    obtain ⟨f,rfl⟩:=off f 15 (hI.no 15 6 rfl rfl)
    conv => whnf
    refine ⟨trivial,.inr ?_⟩
    refine XOp.rowIndex ti2_ok 2000 rfl rfl rfl rfl rfl rfl rfl (by omega) (bif3_lt hjl) ?_
    exact ⟨(),⟨.refl _,.refl _,.refl _,.refl _,.refl _,.refl _,.refl _,.refl _,.refl _,.refl _,.refl _,.refl _,.refl _,.refl _,.refl _,.refl _,.refl _,trivial⟩,fun k o h => h⟩
   refine ⟨fun _ f hI => ?_,?_⟩
   ·obtain ⟨f,rfl⟩:=off f 13 (hI.no 13 7 rfl rfl)
    obtain ⟨f,rfl⟩:=off f 15 (hI.no 15 7 rfl rfl)
    conv => whnf
    refine ⟨trivial,.inr ?_⟩
    refine XOp.rowLoad ti2_ok 2000 (i:=jj) (by rw [Int.toNat_natCast]; rfl) rfl rfl hbj ?_
    exact ⟨(),⟨.refl _,.refl _,.refl _,.refl _,.refl _,.refl _,.refl _,.refl _,.refl _,.refl _,.refl _,.refl _,.refl _,.refl _,.refl _,.refl _,.refl _,trivial⟩,fun k o h => h⟩
   refine ⟨fun _ f hI => ?_,?_⟩
   ·obtain ⟨f,rfl⟩:=off f 13 (hI.no 13 11 rfl (hI.no 11 10 rfl (hI.no 10 8 rfl rfl)))
    obtain ⟨f,rfl⟩:=off f 15 (hI.no 15 8 rfl rfl)
    conv => whnf
    refine ⟨trivial,.inl ?_⟩
    conv => whnf
    exact ⟨(),⟨.refl _,.refl _,.refl _,.refl _,.refl _,.refl _,.refl _,.refl _,.refl _,.refl _,.refl _,.refl _,.refl _,.refl _,.refl _,.refl _,.refl _,trivial⟩,fun k o h => h⟩
   refine ⟨fun _ f hI => ?_,?_⟩
   ·obtain ⟨f,rfl⟩:=off f 13 (hI.no 13 11 rfl (hI.no 11 10 rfl (hI.no 10 9 rfl rfl)))
    obtain ⟨f,rfl⟩:=off f 15 (hI.no 15 9 rfl rfl)
    conv => whnf
    refine ⟨trivial,.inl ?_⟩
    conv => whnf
    exact ⟨(),⟨.refl _,.refl _,.refl _,.refl _,.refl _,.refl _,.refl _,.refl _,.refl _,.refl _,.refl _,.refl _,.refl _,.refl _,.refl _,.refl _,.refl _,trivial⟩,fun k o h => h⟩
   refine ⟨fun _ f hI => ?_,?_⟩
   ·obtain ⟨f,rfl⟩:=off f 13 (hI.no 13 11 rfl (hI.no 11 10 rfl rfl))
    obtain ⟨f,rfl⟩:=off f 15 (hI.no 15 10 rfl rfl)
    conv => whnf
    refine ⟨trivial,.inr ?_⟩
    refine XOp.rowIndex ti2_ok 2000 rfl rfl rfl rfl rfl rfl rfl (by omega) (bif3_lt hil) ?_
    exact ⟨(),⟨.refl _,.refl _,.refl _,.refl _,.refl _,.refl _,.refl _,.refl _,.refl _,.refl _,.refl _,.refl _,.refl _,.refl _,.refl _,.refl _,.refl _,trivial⟩,fun k o h => h⟩
   refine ⟨fun _ f hI => ?_,?_⟩
   ·obtain ⟨f,rfl⟩:=off f 13 (hI.no 13 11 rfl rfl)
    obtain ⟨f,rfl⟩:=off f 15 (hI.no 15 11 rfl rfl)
    conv => whnf
    refine ⟨trivial,.inr ?_⟩
    refine XOp.rowLoad ti2_ok 2000 (i:=i) (by rw [Int.toNat_natCast]; rfl) rfl rfl hai ?_
    exact ⟨(),⟨.refl _,.refl _,.refl _,.refl _,.refl _,.refl _,.refl _,.refl _,.refl _,.refl _,.refl _,.refl _,.refl _,.refl _,.refl _,.refl _,.refl _,trivial⟩,fun k o h => h⟩
   refine ⟨fun _ f hI => ?_,?_⟩
   ·obtain ⟨f,rfl⟩:=off f 13 (hI.no 13 12 rfl rfl)
    obtain ⟨f,rfl⟩:=off f 15 (hI.no 15 12 rfl rfl)
    conv => whnf
    refine ⟨trivial,.inr ?_⟩
    refine XOp.rowIndex ti2_ok 2000 rfl rfl rfl rfl rfl rfl rfl (by omega) (bif3_lt hil) ?_
    exact ⟨(),⟨.refl _,.refl _,.refl _,.refl _,.refl _,.refl _,.refl _,.refl _,.refl _,.refl _,.refl _,.refl _,.refl _,.refl _,.refl _,.refl _,.refl _,trivial⟩,fun k o h => h⟩
   refine ⟨fun _ f hI => ?_,?_⟩
   ·obtain ⟨f,rfl⟩:=off f 15 (hI.no 15 13 rfl rfl)
    conv => whnf
    refine ⟨trivial,.inr ?_⟩
    refine XOp.rowStore ti2_ok 2000 (i:=i) (by rw [Int.toNat_natCast]; rfl) rfl rfl rfl hil rfl ?_
    exact ⟨(),⟨.refl _,.refl _,.refl _,.refl _,.refl _,.refl _,.refl _,.refl _,.refl _,.refl _,.refl _,.refl _,.refl _,.refl _,.refl _,.refl _,.refl _,trivial⟩,SubHF.of ⟨rfl,trivial⟩⟩
   refine ⟨fun _ f hI => ?_,?_⟩
   ·obtain ⟨f,rfl⟩:=off f 15 (hI.no 15 14 rfl rfl)
    conv => whnf
    refine ⟨trivial,.inr ?_⟩
    refine XOp.rowIndex ti2_ok 2000 rfl rfl rfl rfl rfl rfl rfl (by omega) (bif3_lt hjl) ?_
    exact ⟨(),⟨.refl _,.refl _,.refl _,.refl _,.refl _,.refl _,.refl _,.refl _,.refl _,.refl _,.refl _,.refl _,.refl _,.refl _,.refl _,.refl _,.refl _,trivial⟩,fun k o h => h⟩
   refine ⟨fun _ f hI => ?_,?_⟩
   ·conv => whnf
    refine ⟨trivial,.inr ?_⟩
    refine XOp.rowStore ti2_ok 2000 (i:=jj) (by rw [Int.toNat_natCast]; rfl) rfl rfl rfl (bif3_lt' hjl) rfl ?_
    exact ⟨(),⟨.refl _,.refl _,.refl _,.refl _,.refl _,.refl _,.refl _,.refl _,.refl _,.refl _,.refl _,.refl _,.refl _,.refl _,.refl _,.refl _,.refl _,trivial⟩,SubHF.of ⟨rfl,trivial⟩⟩
   exact trivial
  ·intro _ f hf
   conv => whnf
   refine Tri.forgetK [(0,.raw v),(2,.int .i64 (i : Int)),(3,.int .i64 (jj : Int))] [(2000,.row v (rvL L (i + 1)) 1 9)] [(2000,2000)] ⟨⟨.refl _,.refl _,.refl _,trivial⟩,rfl,rfl,?_,trivial⟩ ?_
   ·show some (HObj.row v (bif f 15 then _ else bif f 13 then _ else _) 1 9) = _
    rw [hf 15 (by decide +kernel),← hnx]; rfl
   refine Tri.region ti2_ok ?_
   conv => whnf
   refine .inl ⟨fun _ => by simp [InR]; omega,?_⟩
   conv => whnf
   refine .inl ⟨fun _ => by simp [InR]; omega,?_⟩
   conv => whnf
   exact ⟨⟨i + 1,by omega⟩,[(2000,2000)],by show _ - (i + 1) < _ - i; omega,⟨.refl _,.refl _,intDLe (by show (jj : Int) - 1 = (L.length : Int) - 1 - ((i + 1 : Nat) : Int); omega),trivial⟩,rfl,rfl,rfl,trivial⟩
 ·have hi2 : L.length ≤ 2 * i + 1:=by have:=of_decide_eq_false hc; omega
  rw [rvL_all hi2]
  refine Tri.forgetK [] [(2000,.row v (strs L.reverse) 1 9)] [(2000,2000)] ⟨trivial,rfl,rfl,rfl,trivial⟩ ?_
  refine Tri.exit ?_
  conv => whnf
  exact ⟨.tup [],trivial,rfl,rfl⟩
set_option maxHeartbeats 4000000 in
theorem G101 (d : DirV) : DFun Tryz.prog W0 101 [encDir d] (.bool d.reloc):=by
 refine DFun.intro ti2_ok Tryz.func101 rfl (by decide +kernel) Tryz.ntmps101 rfl fun Γ => ?_
 refine Tri.seq ?_
 refine Tri.region ti2_ok ?_
 conv => whnf
 intro b1
 conv => whnf
 refine Tri.seq ?_
 refine Tri.region ti2_ok ?_
 conv => whnf
 refine ⟨rfl,?_⟩
 conv => whnf
 refine Tri.ret ?_
 conv => whnf
 exact .refl _
set_option maxHeartbeats 4000000 in
theorem G87 (c : Nat) (h1 : 1 ≤ c) (h2 : c ≤ 100) : DFun Tryz.prog W0 87 [.int .i64 (c : Nat)] (encTop (chainT (c - 1))):=by
 refine DFun.intro ti2_ok Tryz.func87 rfl (by decide +kernel) Tryz.ntmps87 rfl fun Γ => ?_
 refine Tri.seq ?_
 refine Tri.region ti2_ok ?_
 conv => whnf
 intro b2
 conv => whnf
 refine Tri.seq ?_
 refine Tri.region ti2_ok ?_
 conv => whnf
 intro b3
 conv => whnf
 refine ⟨rfl,?_⟩
 conv => whnf
 refine Tri.boxLe 3 (cs':=cellsN (chainN 0)) rfl ⟨.refl _,.refl _,.refl _,.refl _,.refl _,.refl _,.refl _,.refl _,.refl _,.refl _,DLe.nil,DLe.nil,trivial⟩ ?_
 refine Tri.seq ?_
 refine Tri.seq ?_
 refine Tri.region ti2_ok ?_
 conv => whnf
 refine .inl ⟨fun _ => by simp [InR]; omega,?_⟩
 conv => whnf
 refine Tri.block ?_
 refine Tri.loopK (α:={ i : Nat // i ≤ c - 1 }) (fun z => [(2,.box 2 b2 0),(3,.box 3 b3 0),(6,.int .i64 ((c : Int) - 1)),(7,.int .i64 (z.1 : Int))]) (fun z => [(2,.box b2 [.str [],.int .i64 0,.str [],.str [],.int .i64 0,.int .i64 0,.int .i64 0,.int .i64 0,.int .i64 0,.int .i64 0,.nils,.nils]),(3,.box b3 (cellsN (chainN z.1)))]) (fun z => c - 1 - z.1) ⟨0,Nat.zero_le _⟩ [(2,2),(3,3)]
  ⟨⟨.refl _,.refl _,.refl _,.refl _,trivial⟩,rfl,rfl,rfl,rfl,rfl,trivial⟩ ?_
 rintro ⟨i,hi⟩
 try dsimp only
 refine Tri.seq ?_
 refine Tri.region ti2_ok ?_
 conv => whnf
 refine Tri.seq ?_
 refine Tri.cond (decide ((i : Int) < (c : Int) - 1)) rfl (fun hc => ?_) (fun hc => ?_)
 ·refine Tri.skip ?_
  conv => whnf
  have hia : i < c - 1:=by have:=of_decide_eq_true hc; omega
  refine Tri.seq ?_
  refine Tri.block ?_
  refine Tri.region ti2_ok ?_
  conv => whnf
  refine ⟨rfl,?_⟩
  conv => whnf
  refine ⟨trivial,?_⟩
  conv => whnf
  refine ⟨rfl,?_⟩
  conv => whnf
  refine Tri.boxLe 3 (cs':=cellsN (chainN (i + 1))) rfl ⟨.refl _,.refl _,.refl _,.refl _,.refl _,.refl _,.refl _,.refl _,.refl _,.refl _,DLe.of_eq (congrArg (fun z => D.sl .none 12 [z]) (enc_eq (chainN i)).symm),DLe.nil,trivial⟩ ?_
  refine Tri.region ti2_ok ?_
  conv => whnf
  refine .inl ⟨fun _ => by simp [InR]; omega,?_⟩
  conv => whnf
  exact ⟨⟨i + 1,by omega⟩,[(2,2),(3,3)],by show _ - (i + 1) < _ - i; omega,⟨.refl _,.refl _,.refl _,.refl _,trivial⟩,rfl,rfl,rfl,rfl,rfl,trivial⟩
 ·have hin : i = c - 1:=by have:=of_decide_eq_false hc; omega
  subst hin
  refine Tri.exit ?_
  conv => whnf
  refine Tri.seq ?_
  refine Tri.region ti2_ok ?_
  conv => whnf
  refine ⟨rfl,?_⟩
  conv => whnf
  refine ⟨trivial,?_⟩
  conv => whnf
  refine ⟨rfl,?_⟩
  conv => whnf
  refine Tri.boxLe 2 (cs':=cellsN (chainT (c - 1))) rfl ⟨.refl _,.refl _,.refl _,.refl _,.refl _,.refl _,.refl _,.refl _,.refl _,.refl _,DLe.of_eq (congrArg (fun z => D.sl .none 12 [z]) (enc_eq (chainN (c - 1))).symm),DLe.nil,trivial⟩ ?_
  refine Tri.ret ?_
  conv => whnf
  exact ⟨rfl,.refl _⟩
end Go.Tame.V
/- Contracts: Identifiers,Physical,Needed. By program (mkrj.py,mk.py). -/
namespace Go.Tame.V
open Go Go.Proofs
variable {W0 : World}
set_option maxRecDepth 10000
set_option linter.unusedVariables false
set_option linter.unusedSimpArgs false

theorem identI_err (s : List UInt8) (b : Bool) : (identI s b).2 = 0 ∨ (identI s b).2 = 4:=by
 unfold identI
 split
 ·split
  ·exact .inl rfl
  ·split <;> exact .inl rfl
 ·exact .inr rfl
set_option maxHeartbeats 4000000 in
theorem G48 (l : List DirV) (i0 : Int) (hl : l.length < 100000) : DFun Tryz.prog W0 48 [.sl .none 6 (l.map encDir),.int .i64 i0] (.tup [.sl .none 1 (strs (physV l i0).1),.int .i64 (physV l i0).2]):=by
 refine DFun.intro ti2_ok Tryz.func48 rfl (by decide +kernel) Tryz.ntmps48 rfl fun Γ => ?_
 refine Tri.seq ?_
 refine Tri.region ti2_ok ?_
 conv => whnf
 refine Tri.seq ?_
 refine Tri.seq ?_
 refine Tri.region ti2_ok ?_
 conv => whnf
 refine ⟨fun h => h,?_⟩
 conv => whnf
 refine ⟨fun h => h,?_⟩
 conv => whnf
 refine ⟨fun h => h,?_⟩
 conv => whnf
 refine ⟨fun h0 h => by first | exact h | (rw [h]; rfl) | (rw [h0,h]; rfl),?_⟩
 conv => whnf
 refine Tri.cond (bif decide (i0 < 0) then true else decide (i0 ≥ ((l.map encDir).length : Int))) rfl (fun hc => ?_) (fun hc => ?_)
 ·refine Tri.seq ?_
  refine Tri.region ti2_ok ?_
  conv => whnf
  refine Tri.ret ?_
  conv => whnf
  have h : i0 < 0 ∨ (l.length : Int) ≤ i0:=by
   rw [List.length_map] at hc
   by_cases h1 : i0 < 0
   ·exact .inl h1
   ·rw [decide_eq_false h1] at hc; exact .inr (of_decide_eq_true hc)
  rw [physV,if_pos h]
  exact ⟨DLe.nil,.refl _,trivial⟩
 ·refine Tri.skip ?_
  conv => whnf
  have h0 : 0 ≤ i0 ∧ i0 < (l.length : Int):=by
   rw [List.length_map] at hc
   by_cases h1 : i0 < 0
   ·rw [decide_eq_true h1] at hc; cases hc
   ·rw [decide_eq_false h1] at hc
    have:=of_decide_eq_false hc
    omega
  have hV : physV l i0 = match physW l l.length i0 with | some x => (x.reverse,0) | none => ([],13):=by unfold physV; exact if_neg (by omega)
  refine Tri.seq ?_
  refine Tri.region ti2_ok ?_
  conv => whnf
  refine Tri.rowNil 300 1 9 ?_
  refine Tri.seq ?_
  refine Tri.block ?_
  refine Tri.loopK (α:={ z : Nat × Int × List (List UInt8) // 0 ≤ z.2.1 ∧ z.2.1 < l.length ∧ z.2.2.length + z.1 = l.length ∧ physW l l.length i0 = (physW l z.1 z.2.1).map (fun x => z.2.2 ++ x) } × Option Addr × Nat) (fun z => [(0,.sl .none 6 (l.map encDir)),(1,.int .i64 z.1.1.2.1),(6,.raw (.slice z.2.1 z.1.1.2.2.length z.2.2))]) (fun z => [(300,.row (.slice z.2.1 z.1.1.2.2.length z.2.2) (strs z.1.1.2.2) 1 9)]) (fun z => z.1.1.1) (⟨(l.length,i0,[]),h0.1,h0.2,by simp,by simp⟩,none,0) [(300,300)]
   ⟨⟨.refl _,.refl _,DLe.nilRaw,trivial⟩,rfl,rfl,rfl,trivial⟩ ?_
  rintro ⟨⟨⟨m,i,out⟩,hi0,hil,hom,hph⟩,aa,cap⟩
  dsimp only at hi0 hil hom hph
  try dsimp only
  refine Tri.seq ?_
  refine Tri.seq ?_
  refine Tri.region ti2_ok ?_
  conv => whnf
  refine Tri.cond _ rfl (fun hc => ?_) (fun hc => ?_)
  ·refine Tri.skip ?_
   conv => whnf
   have hine : i ≠ 0:=by simpa using hc
   obtain ⟨d,hd⟩ : ∃ d,l[i.toNat]? = some d:=⟨_,List.getElem?_eq_getElem (by omega)⟩
   have hgd : l.getD i.toNat default = d:=by rw [List.getD_eq_getElem?_getD,hd]; rfl
   have hde : (l.map encDir)[i.toNat]? = some (encDir d):=by rw [List.getElem?_map,hd]; rfl
   have hll : ((l.map encDir).length : Int) = l.length:=by simp
   refine Tri.block ?_
   refine Tri.seq ?_
   refine Tri.seq ?_
   refine Tri.region ti2_ok ?_
   conv => whnf
   refine ⟨fun h => h,?_⟩
   conv => whnf
   refine ⟨fun h => h,?_⟩
   conv => whnf
   refine ⟨fun _ => ⟨hi0,by omega⟩,?_⟩
   conv => whnf
   refine ⟨fun h => h,?_⟩
   conv => whnf
   refine ⟨fun h => h,?_⟩
   conv => whnf
   refine ⟨encDir d,fun _ => hde,?_⟩
   conv => whnf
   refine ⟨fun h => h,?_⟩
   conv => whnf
   refine ⟨fun h0 h => by first | exact h | (rw [h]; rfl) | (rw [h0,h]; rfl),?_⟩
   conv => whnf
   refine ⟨fun h => h,?_⟩
   conv => whnf
   refine ⟨fun h => h,?_⟩
   conv => whnf
   refine ⟨fun _ => ⟨hi0,by omega⟩,?_⟩
   conv => whnf
   refine ⟨fun h => h,?_⟩
   conv => whnf
   refine ⟨fun h => h,?_⟩
   conv => whnf
   refine ⟨encDir d,fun _ => hde,?_⟩
   conv => whnf
   refine ⟨fun h => h,?_⟩
   conv => whnf
   refine ⟨fun h => h,?_⟩
   conv => whnf
   refine ⟨fun h => h,?_⟩
   conv => whnf
   refine ⟨fun h0 h => by first | exact h | (rw [h]; rfl) | (rw [h0,h]; rfl),?_⟩
   conv => whnf
   refine Tri.cond (bif (bif decide ((out.length : Int) = ((l.map encDir).length : Int)) then true else decide (d.parent < 0)) then true else decide (d.parent ≥ ((l.map encDir).length : Int))) rfl (fun hc => ?_) (fun hc => ?_)
   ·refine Tri.seq ?_
    refine Tri.region ti2_ok ?_
    conv => whnf
    refine Tri.ret ?_
    conv => whnf
    have hN : physW l m i = none:=by
     cases m with
     | zero => exact physW_none hine
     | succ m =>
      rw [physW_next hine,hgd,if_neg]
      intro ⟨h1,h2⟩
      rw [hll,decide_eq_false (by omega),decide_eq_false (by omega),decide_eq_false (by omega)] at hc
      cases hc
    rw [hV,hph,hN]
    exact ⟨DLe.nil,.refl _,trivial⟩
   ·refine Tri.skip ?_
    conv => whnf
    have hcc : out.length ≠ l.length ∧ 0 ≤ d.parent ∧ d.parent < (l.length : Int):=by
     rw [hll] at hc
     by_cases h1 : (out.length : Int) = (l.length : Int)
     ·rw [decide_eq_true h1] at hc; cases hc
     ·by_cases h2 : d.parent < 0
      ·rw [decide_eq_false h1,decide_eq_true h2] at hc; cases hc
      ·rw [decide_eq_false h1,decide_eq_false h2] at hc
       have:=of_decide_eq_false hc
       omega
    obtain ⟨hne,hp0,hpl⟩:=hcc
    obtain ⟨m,rfl⟩ : ∃ m',m = m' + 1:=⟨m - 1,by omega⟩
    have hph2 : physW l l.length i0 = (physW l m d.parent).map (fun x => (out ++ [d.id]) ++ x):=by
     rw [hph,physW_next hine,hgd,if_pos ⟨hp0,hpl⟩,Option.map_map]
     congr 1
     funext x
     simp
    have hol : (strs out).length = out.length:=by simp [strs]
    have hoe : strs out ++ [.str d.id] = strs (out ++ [d.id]):=by simp [strs]
    refine Tri.seq ?_
    refine Tri.regionX ti2_ok ?_
    conv => whnf
    refine .inl ⟨fun _ => ⟨hi0,by omega⟩,?_⟩
    conv => whnf
    refine .inl ⟨encDir d,fun _ => hde,?_⟩
    conv => whnf
    refine ⟨trivial,?_⟩
    conv => whnf
    refine .inr (XOp.rowAppend ti2_ok 300 rfl rfl rfl (fun h => by cases h) rfl rfl rfl (Nat.zero_lt_one) (by show (_ + 1) * 16 ≤ _; omega) (by show _ + 1 ≤ _; omega) fun aa2 m2 cap2 => ?_)
    refine Tri.rowKnow 47 rfl (by simp) fun b2 cap3 hv hc1 hc2 => ?_
    simp only [Value.slice.injEq] at hv
    obtain ⟨rfl,rfl,rfl⟩:=hv
    refine Tri.region ti2_ok ?_
    conv => whnf
    refine ⟨fun _ => ⟨hi0,by omega⟩,?_⟩
    conv => whnf
    refine ⟨encDir d,fun _ => hde,?_⟩
    conv => whnf
    have hrw : some (HObj.row (.slice (some ⟨b2,0,none⟩) (strs out ++ [D.str d.id]).length cap2) (strs out ++ [D.str d.id]) 1 9) = some (HObj.row (.slice (some ⟨b2,0,none⟩) (out ++ [d.id]).length cap2) (strs (out ++ [d.id])) 1 9):=by
     rw [hoe]; simp [strs]
    exact ⟨(⟨(m,d.parent,out ++ [d.id]),hp0,hpl,by simp; omega,hph2⟩,_,_),[(300,47)],Nat.lt_succ_self _,⟨.refl _,.refl _,DLe.of_eq (congrArg (fun z => D.raw (.slice (some ⟨b2,0,none⟩) z cap2)) (by simp [strs])),trivial⟩,rfl,rfl,hrw,trivial⟩
  ·have hi00 : i = 0:=by simpa using hc
   have hphf : physW l l.length i0 = some out:=by rw [hph,hi00,physW_zero]; simp
   have hol : out.length < 100000:=by omega
   generalize hvv : Value.slice aa out.length cap = vv
   refine Tri.exit ?_
   conv => whnf
   refine Tri.seq ?_
   refine Tri.regionX ti2_ok ?_
   conv => whnf
   refine .inr (XOp.call rfl [.raw vv] [(2000,300)] (DCall.heap rfl (G99 out vv hol)) rfl ⟨.refl _,trivial⟩ ?_)
   rintro d H' ⟨rfl,rfl⟩
   refine ⟨_,.refl _,?_⟩
   conv => whnf
   refine Tri.forgetK [(6,.raw vv)] [(300,.row vv (strs out.reverse) 1 9)] [(300,300)] ⟨⟨.refl _,trivial⟩,rfl,rfl,rfl,trivial⟩ ?_
   refine Tri.commitSt 300 6 rfl ?_
   refine Tri.seq ?_
   refine Tri.region ti2_ok ?_
   conv => whnf
   refine Tri.ret ?_
   conv => whnf
   rw [hV,hphf]
   exact ⟨.refl _,.refl _,trivial⟩
set_option maxHeartbeats 4000000 in
theorem G108 (l : List DirV) (hl : l.length < 1000000000) (fid : Nat) (caps : List D) (p : DirV → Bool) (hp0 : ∀ k ∈ l,DFun Tryz.prog W0 fid (encDir k::caps) (.bool (p k))) : DFun Tryz.prog W0 108 [.sl .none 6 (l.map encDir),.fn (.func fid) [] caps] (.int .i64 (firstIdx p l)):=by
 refine DFun.intro ti2_ok Tryz.func108 rfl (by decide +kernel) Tryz.ntmps108 rfl fun Γ => ?_
 refine Tri.seq ?_
 refine Tri.region ti2_ok ?_
 conv => whnf
 refine Tri.seq ?_
 refine Tri.seq ?_
 refine Tri.region ti2_ok ?_
 conv => whnf
 refine Tri.block ?_
 refine Tri.loop (α:={ i : Nat // i ≤ l.length ∧ ∀ j (h : j < l.length),j < i → p (l[j]) = false }) (fun x => [(0,.sl .none 6 (l.map encDir)),(1,.fn (.func fid) [] caps),(7,.int .i64 (l.map encDir).length),(8,.int .i64 x.1)]) (fun _ => []) (fun x => l.length - x.1) ⟨0,by simp⟩ ⟨.refl _,.refl _,.refl _,.refl _,trivial⟩ trivial ?_
 rintro ⟨i,hi,hp⟩
 dsimp only
 refine Tri.seq ?_
 refine Tri.region ti2_ok ?_
 conv => whnf
 refine Tri.seq ?_
 refine Tri.cond (decide ((i : Int) < (l.map encDir).length)) rfl (fun hc => ?_) (fun hc => ?_)
 ·refine Tri.skip ?_
  conv => whnf
  refine Tri.seq ?_
  refine Tri.block ?_
  refine Tri.seq ?_
  refine Tri.region ti2_ok ?_
  have hia : i < l.length:=by simpa using hc
  conv => whnf
  refine Tri.seq ?_
  refine Tri.region ti2_ok ?_
  conv => whnf
  refine ⟨fun _ => by simp; omega,?_⟩
  conv => whnf
  refine ⟨encDir l[i],fun _ => by rw [List.getElem?_map]; simp [hia],?_⟩
  conv => whnf
  refine ⟨encDir l[i]::caps,_,fun _ => hp0 l[i] (List.getElem_mem hia),⟨.refl _,LeL.refl _⟩,?_⟩
  conv => whnf
  refine Tri.cond _ rfl (fun hc => ?_) (fun hc => ?_)
  ·refine Tri.seq ?_
   refine Tri.region ti2_ok ?_
   conv => whnf
   refine Tri.ret ?_
   conv => whnf
   exact intDLe (firstIdx_some (p:=p) hia hp hc).symm
  ·refine Tri.skip ?_
   conv => whnf
   refine Tri.region ti2_ok ?_
   conv => whnf
   refine .inl ⟨fun _ => by simp [InR]; omega,?_⟩
   conv => whnf
   exact ⟨⟨i + 1,by omega,fun j hj hlt => (Nat.lt_succ_iff_lt_or_eq.1 hlt).elim (hp j hj) fun e => by subst e; exact hc⟩,by show _ - (i + 1) < _ - i; omega,⟨.refl _,.refl _,.refl _,.refl _,trivial⟩,trivial⟩
 ·refine Tri.exit ?_
  conv => whnf
  refine Tri.seq ?_
  refine Tri.region ti2_ok ?_
  conv => whnf
  refine Tri.ret ?_
  conv => whnf
  exact intDLe (firstIdx_none (p:=p) fun j hj => hp j hj (by simp at hc; omega)).symm
set_option maxHeartbeats 4000000 in
theorem G100 (l : List DirV) (hl : l.length < 1000000000) (fid : Nat) (caps : List D) (p : DirV → Bool) (hp0 : ∀ k ∈ l,DFun Tryz.prog W0 fid (encDir k::caps) (.bool (p k))) : DFun Tryz.prog W0 100 [.sl .none 6 (l.map encDir),.fn (.func fid) [] caps] (.bool (l.any p)):=by
 refine DFun.intro ti2_ok Tryz.func100 rfl (by decide +kernel) Tryz.ntmps100 rfl fun Γ => ?_
 refine Tri.seq ?_
 refine Tri.region ti2_ok ?_
 conv => whnf
 refine Tri.seq ?_
 refine Tri.region ti2_ok ?_
 conv => whnf
 refine ⟨[.sl .none 6 (l.map encDir),.fn (.func fid) [] caps],_,fun _ => G108 l hl fid caps p hp0,⟨.refl _,.refl _,trivial⟩,?_⟩
 conv => whnf
 refine Tri.ret ?_
 conv => whnf
 exact DLe.of_eq (congrArg D.bool (firstIdx_any p l))
def needV (n : NV) : Bool:=bif decide ((planV true n).2.2 = 0) then (planV true n).1.any DirV.reloc else false
set_option maxHeartbeats 4000000 in
theorem G50 (hL : LibOk W0) (n : NV) (hn : Fits n) (hc0 : valid n = true → cnt n < 99 ∧ sz n < 800000) (hl : (planV true n).1.length < 1000000000) : DFun Tryz.prog W0 50 [encTop n] (.bool (needV n)):=by
 refine DFun.intro ti2_ok Tryz.func50 rfl (by decide +kernel) Tryz.ntmps50 rfl fun Γ => ?_
 refine Tri.seq ?_
 refine Tri.region ti2_ok ?_
 conv => whnf
 intro b1
 conv => whnf
 refine Tri.seq ?_
 refine Tri.region ti2_ok ?_
 conv => whnf
 refine ⟨rfl,?_⟩
 conv => whnf
 refine ⟨[encTop n,.bool true],_,fun _ => G40 hL true n hn hc0,⟨.refl _,.refl _,trivial⟩,?_⟩
 conv => whnf
 refine Tri.seq ?_
 refine Tri.region ti2_ok ?_
 conv => whnf
 refine ⟨fun h => h,?_⟩
 conv => whnf
 refine ⟨[.sl .none 6 ((planV true n).1.map encDir),.fn (.func 101) [] []],_,fun _ => G100 (planV true n).1 hl 101 [] DirV.reloc (fun d _ => G101 d),⟨.refl _,.refl _,trivial⟩,?_⟩
 conv => whnf
 refine ⟨fun h0 h => by first | exact h | (rw [h]; rfl) | (rw [h0,h]; rfl),?_⟩
 conv => whnf
 refine Tri.ret ?_
 conv => whnf
 exact .refl _
set_option maxHeartbeats 4000000 in
theorem G46 (hL : LibOk W0) (kids : List NV) (hlen : kids.length < 1000000) (hnl : ∀ k ∈ kids,k.name.length < 1000000000) (he : (namesR 0 kids).2 = 0) (hN : ∀ m ∈ (namesR 0 kids).1,m.length < 1000000000) (hNl : (namesR 0 kids).1.length = kids.length) : DFun Tryz.prog W0 46 [.sl .none 12 (kids.map enc)] (.tup [.sl .none 1 (if (List.range kids.length).all (fun j => (idAt (namesR 0 kids).1 kids j).2 == 0) then strs (idsL (namesR 0 kids).1 kids) else []),.int .i64 (if (List.range kids.length).all (fun j => (idAt (namesR 0 kids).1 kids j).2 == 0) then 0 else 4)]):=by
 refine DFun.intro ti2_ok Tryz.func46 rfl (by decide +kernel) Tryz.ntmps46 rfl fun Γ => ?_
 have hG:=G29r (W0:=W0) hL 0 kids hlen hnl he
 generalize (namesR 0 kids).1 = N at *
 refine Tri.seq ?_
 refine Tri.region ti2_ok ?_
 conv => whnf
 refine Tri.seq ?_
 refine Tri.regionX ti2_ok ?_
 conv => whnf
 refine .inr (XOp.call rfl [.int .i64 0,.sl .none 12 (kids.map enc)] [(2000,300)] (DCall.fresh rfl hG) rfl ⟨.refl _,.refl _,trivial⟩ ?_)
 rintro d H' ⟨nv,rfl,rfl⟩
 refine ⟨_,.refl _,?_⟩
 conv => whnf
 refine Tri.forgetK [(0,.sl .none 12 (kids.map enc)),(4,.raw nv),(5,.int .i64 0)] [(300,.row nv (strs N) 1 9)] [(300,300)] ⟨⟨.refl _,.refl _,.refl _,trivial⟩,rfl,rfl,rfl,trivial⟩ ?_
 refine Tri.seq ?_
 refine Tri.seq ?_
 refine Tri.region ti2_ok ?_
 conv => whnf
 refine Tri.cond false rfl (fun hc => ?_) (fun hc => ?_)
 ·cases hc
 ·refine Tri.skip ?_
  conv => whnf
  refine Tri.seq ?_
  refine Tri.seq ?_
  refine Tri.regionG ti2_ok ?_
  conv => whnf
  refine ⟨rfl,trivial,.inl ?_⟩
  conv => whnf
  refine ⟨rfl,trivial,.inr (XOp.rowLen ti2_ok 300 rfl rfl rfl rfl ?_)⟩
  conv => whnf
  refine ⟨rfl,trivial,.inl ?_⟩
  conv => whnf
  refine Tri.block ?_
  refine Tri.loopK (α:={ i : Nat // i ≤ N.length ∧ idsOk N kids i }) (fun z => [(0,.sl .none 12 (kids.map enc)),(4,.raw nv),(16,.raw nv),(17,.int .i64 (N.length : Int)),(18,.int .i64 (z.1 : Int))]) (fun z => [(300,.row nv (idRow N kids z.1) 1 9)]) (fun z => N.length - z.1) ⟨0,Nat.zero_le _,fun j h => absurd h (Nat.not_lt_zero _)⟩ [(300,300)]
   ⟨⟨.refl _,.refl _,.refl _,intDLe (by simp [strs]),.refl _,trivial⟩,rfl,rfl,congrArg (fun z => some (HObj.row nv z 1 9)) (idRow_zero N kids),trivial⟩ ?_
  rintro ⟨i,hi,hok⟩
  try dsimp only
  refine Tri.seq ?_
  refine Tri.region ti2_ok ?_
  conv => whnf
  refine Tri.seq ?_
  refine Tri.cond (decide ((i : Int) < (N.length : Int))) rfl (fun hc => ?_) (fun hc => ?_)
  ·refine Tri.skip ?_
   conv => whnf
   have hia : i < N.length:=by simpa using hc
   have hrl:=idRow_len N kids i
   have hg:=idRow_get (kids:=kids) (i:=i) hia
   rw [if_neg (by omega)] at hg
   have hkl : i < kids.length:=by omega
   have hkd : (kids.map enc)[i]? = some (encTop (kids.getD i default)):=by rw [List.getElem?_map,List.getElem?_eq_getElem hkl,List.getD_eq_getElem?_getD,List.getElem?_eq_getElem hkl]; simp [enc_eq]
   have hNi : (N.getD i []).length < 1000000000:=by
    rw [List.getD_eq_getElem?_getD,List.getElem?_eq_getElem hia]; exact hN _ (List.getElem_mem hia)
   refine Tri.seq ?_
   refine Tri.block ?_
   refine Tri.seq ?_
   refine Tri.regionX ti2_ok ?_
   conv => whnf
   refine .inr (XOp.rowIndex ti2_ok 300 rfl rfl rfl rfl rfl rfl rfl (by omega) (by rw [hrl]; omega) ?_)
   conv => whnf
   refine .inr (XOp.rowLoad ti2_ok 300 (i:=i) (by rw [Int.toNat_natCast]; rfl) rfl rfl hg ?_)
   conv => whnf
   refine Tri.seq ?_
   refine Tri.regionX ti2_ok ?_
   conv => whnf
   refine .inl ⟨fun _ => by simp; omega,?_⟩
   conv => whnf
   refine .inl ⟨encTop (kids.getD i default),fun _ => hkd,?_⟩
   conv => whnf
   refine .inl ⟨[.str (N.getD i []),.bool ((kids.getD i default).kind == 0)],_,fun _ => G32 hL (N.getD i []) ((kids.getD i default).kind == 0) hNi,⟨.refl _,.refl _,trivial⟩,?_⟩
   conv => whnf
   refine .inr (XOp.rowIndex ti2_ok 300 rfl rfl rfl rfl rfl rfl rfl (by omega) (by rw [hrl]; omega) ?_)
   conv => whnf
   refine .inr (XOp.rowStore ti2_ok 300 (i:=i) (by rw [Int.toNat_natCast]; rfl) rfl rfl rfl (by rw [hrl]; omega) rfl ?_)
   conv => whnf
   refine Tri.seq ?_
   refine Tri.region ti2_ok ?_
   conv => whnf
   refine Tri.cond ((idAt N kids i).2 != 0) rfl (fun hc => ?_) (fun hc => ?_)
   ·refine Tri.seq ?_
    refine Tri.region ti2_ok ?_
    conv => whnf
    refine Tri.ret ?_
    conv => whnf
    have h2 : (idAt N kids i).2 ≠ 0:=by simpa using hc
    have h3 : (List.range kids.length).all (fun j => (idAt N kids j).2 == 0) = false:=by
     rw [List.all_eq_false]
     exact ⟨i,by simpa using hkl,by simpa using h2⟩
    have h4 : (idAt N kids i).2 = 4:=by
     rcases identI_err (N.getD i []) ((kids.getD i default).kind == 0) with h | h
     ·exact absurd h h2
     ·exact h
    rw [h3]
    exact ⟨DLe.nil,intDLe h4,trivial⟩
   ·have h2 : (idAt N kids i).2 = 0:=by simpa using hc
    refine Tri.skip ?_
    conv => whnf
    refine Tri.region ti2_ok ?_
    conv => whnf
    refine .inl ⟨fun _ => by simp [InR]; omega,?_⟩
    conv => whnf
    exact ⟨⟨i + 1,hia,fun j hj => by
     rcases Nat.lt_or_eq_of_le (Nat.le_of_lt_succ hj) with h | h
     ·exact hok j h
     ·rw [h]; exact h2⟩,[(300,300)],by show _ - (i + 1) < _ - i; omega,⟨.refl _,.refl _,.refl _,.refl _,.refl _,trivial⟩,rfl,rfl,congrArg (fun z => some (HObj.row nv z 1 9)) (idRow_next hia),trivial⟩
  ·have hin : i = N.length:=by simp at hc; omega
   have h3 : (List.range kids.length).all (fun j => (idAt N kids j).2 == 0) = true:=by
    rw [List.all_eq_true]
    intro j hj
    have:=hok j (by simp at hj; omega)
    simpa using this
   have hrow : idRow N kids i = strs (idsL N kids):=by rw [hin,idRow_all]
   rw [h3,hrow]
   refine Tri.forgetK [(4,.raw nv)] [(300,.row nv (strs (idsL N kids)) 1 9)] [(300,300)] ⟨⟨.refl _,trivial⟩,rfl,rfl,rfl,trivial⟩ ?_
   refine Tri.commitSt 300 4 rfl ?_
   refine Tri.exit ?_
   conv => whnf
   refine Tri.seq ?_
   refine Tri.region ti2_ok ?_
   conv => whnf
   refine Tri.ret ?_
   conv => whnf
   exact ⟨.refl _,.refl _,trivial⟩
end Go.Tame.V
/- Contracts: awake. By program (mkrm.py,mk.py). -/
namespace Go.Tame.V
open Go Go.Proofs
variable {W0 : World}
set_option maxRecDepth 100000
set_option linter.unusedVariables false
set_option linter.unusedSimpArgs false

def dirs8 : List DirV:=[⟨[],[0],1,0,0,false⟩,⟨[47],[82,82,95,77,79,86,69,68],2,0,0,false⟩,⟨[97],[65],2,0,0,false⟩,⟨[97,47,97],[65],3,2,2,false⟩,⟨[97,47,97,47,97],[65],4,3,3,false⟩,
 ⟨[97,47,97,47,97,47,97],[65],5,4,4,false⟩,⟨[97,47,97,47,97,47,97,47,97],[65],6,5,5,false⟩,⟨[97,47,97,47,97,47,97,47,97,47,97],[65],7,6,6,false⟩,
 ⟨[97,47,97,47,97,47,97,47,97,47,97,47,97],[65],8,7,7,false⟩,⟨[97,47,97,47,97,47,97,47,97,47,97,47,97,47,97],[68,49],3,1,8,true⟩]
def ents8 : List EntV:=[⟨[47],[82,82,95,77,79,86,69,68],0,1,true,false,false⟩,⟨[97],[65],0,2,false,true,false⟩,⟨[97,47,97,47,97,47,97,47,97,47,97,47,97,47,97],[68,49],1,9,true,true,false⟩,
 ⟨[97,47,97],[65],2,3,false,true,false⟩,⟨[97,47,97,47,97],[65],3,4,false,true,false⟩,⟨[97,47,97,47,97,47,97],[65],4,5,false,true,false⟩,⟨[97,47,97,47,97,47,97,47,97],[65],5,6,false,true,false⟩,
 ⟨[97,47,97,47,97,47,97,47,97,47,97],[65],6,7,false,true,false⟩,⟨[97,47,97,47,97,47,97,47,97,47,97,47,97],[65],7,8,false,true,false⟩,
 ⟨[97,47,97,47,97,47,97,47,97,47,97,47,97,47,97],[65,46,59,49],8,-1,true,true,true⟩]
theorem plan8 : planV true (chainT 7) = (dirs8,ents8,0):=by decide +kernel
theorem phys8 : physV dirs8 9 = ([[82,82,95,77,79,86,69,68],[68,49]],0):=by decide +kernel
theorem need8 : needV (chainT 7) = true:=by decide +kernel
theorem need7 : needV (chainT 6) = false:=by decide +kernel
theorem len8 : (planV true (chainT 7)).1.length < 1000000000:=by decide +kernel
theorem len7 : (planV true (chainT 6)).1.length < 1000000000:=by decide +kernel
theorem few8 : valid (chainT 7) = true → cnt (chainT 7) < 99 ∧ sz (chainT 7) < 800000:=by decide +kernel
theorem few7 : valid (chainT 6) = true → cnt (chainT 6) < 99 ∧ sz (chainT 6) < 800000:=by decide +kernel
theorem fits8 : Fits (chainT 7):=by unfold Fits; decide +kernel
theorem fits7 : Fits (chainT 6):=by unfold Fits; decide +kernel
def two26 : List NV:=[.mk [120] 0 [] [] 0 0 0 0 0 0 [] [],.mk [121] 1 [] [] 0 0 0 0 0 0 [] []]
theorem two_inc : inc two26:=fun i hi => by
 have : i = 0:=by simp [two26] at hi; omega
 subst this; decide +kernel
theorem two_g : namesG 0 two26 = [[88],[89]]:=by decide +kernel
theorem two_names : namesR 0 two26 = ([[88],[89]],0):=by
 rw [namesR,if_neg (by decide),if_neg (by decide +kernel),if_neg (by decide +kernel),if_neg (by decide +kernel),namesU_inc two_inc,two_g]
theorem two_len : ∀ k ∈ two26,k.name.length < 1000000000:=by decide +kernel
theorem two_nl : ∀ m ∈ ([[88],[89]] : List (List UInt8)),m.length < 1000000000:=by decide +kernel
theorem two_ids : ((if (List.range two26.length).all (fun j => (idAt [[88],[89]] two26 j).2 == 0) then strs (idsL [[88],[89]] two26) else []) = strs [[88],[89,46,59,49]]) ∧ ((if (List.range two26.length).all (fun j => (idAt [[88],[89]] two26 j).2 == 0) then (0 : Int) else 4) = 0):=by
 have h : (List.range two26.length).all (fun j => (idAt [[88],[89]] two26 j).2 == 0) = true:=by decide +kernel
 have h2 : idsL [[88],[89]] two26 = [[88],[89,46,59,49]]:=by decide +kernel
 rw [if_pos h,if_pos h,h2]; exact ⟨rfl,rfl⟩
set_option maxHeartbeats 4000000 in
theorem G39 (hL : LibOk W0) : DFun Tryz.prog W0 39 [] (.bool true):=by
 refine DFun.intro ti2_ok Tryz.func39 rfl (by decide +kernel) Tryz.ntmps39 rfl fun Γ => ?_
 have hP : DFun Tryz.prog W0 40 [encTop (chainT 7),.bool true] (.tup [.sl .none 6 (dirs8.map encDir),.sl .none 7 (ents8.map encEnt),.int .i64 0]):=by
  have h:=G40 (W0:=W0) hL true (chainT 7) fits8 few8
  rw [plan8] at h; exact h
 have hQ : DFun Tryz.prog W0 48 [.sl .none 6 (dirs8.map encDir),.int .i64 9] (.tup [.sl .none 1 (strs [[82,82,95,77,79,86,69,68],[68,49]]),.int .i64 0]):=by
  have h:=G48 (W0:=W0) dirs8 9 (by decide)
  rw [phys8] at h; exact h
 have hI : DFun Tryz.prog W0 46 [.sl .none 12 (two26.map enc)] (.tup [.sl .none 1 (strs [[88],[89,46,59,49]]),.int .i64 0]):=by
  have h:=G46 (W0:=W0) hL two26 (by decide) two_len (by rw [two_names]) (by rw [two_names]; exact two_nl) (by rw [two_names]; rfl)
  rw [two_names,two_ids.1,two_ids.2] at h; exact h
 have hN8 : DFun Tryz.prog W0 50 [encTop (chainT 7)] (.bool true):=by
  have h:=G50 (W0:=W0) hL (chainT 7) fits8 few8 len8
  rw [need8] at h; exact h
 have hN7 : DFun Tryz.prog W0 50 [encTop (chainT 6)] (.bool false):=by
  have h:=G50 (W0:=W0) hL (chainT 6) fits7 few7 len7
  rw [need7] at h; exact h
 refine Tri.seq ?_
 refine Tri.region ti2_ok ?_
 conv => whnf
 refine Tri.seq ?_
 refine Tri.region ti2_ok ?_
 conv => whnf
 refine ⟨[.int .i64 ((8 : Nat) : Int)],_,fun _ => G87 8 (by decide) (by decide),⟨.refl _,trivial⟩,?_⟩
 conv => whnf
 refine ⟨[encTop (chainT 7),.bool true],_,fun _ => hP,⟨.refl _,.refl _,trivial⟩,?_⟩
 conv => whnf
 refine Tri.seq ?_
 refine Tri.seq ?_
 refine Tri.region ti2_ok ?_
 conv => whnf
 refine ⟨fun h => h,?_⟩
 conv => whnf
 refine ⟨fun h => h,?_⟩
 conv => whnf
 refine ⟨fun h0 h => by first | exact h | (rw [h]; rfl) | (rw [h0,h]; rfl),?_⟩
 conv => whnf
 refine ⟨fun h => h,?_⟩
 conv => whnf
 refine ⟨fun _ => by decide +kernel,?_⟩
 conv => whnf
 refine ⟨fun h => h,?_⟩
 conv => whnf
 refine ⟨fun h => h,?_⟩
 conv => whnf
 refine ⟨_,fun _ => rfl,?_⟩
 conv => whnf
 refine ⟨fun h => h,?_⟩
 conv => whnf
 refine ⟨fun h0 h => by first | exact h | (rw [h]; rfl) | (rw [h0,h]; rfl),?_⟩
 conv => whnf
 refine ⟨fun h => h,?_⟩
 conv => whnf
 refine ⟨fun _ => by decide +kernel,?_⟩
 conv => whnf
 refine ⟨fun h => h,?_⟩
 conv => whnf
 refine ⟨fun h => h,?_⟩
 conv => whnf
 refine ⟨_,fun _ => rfl,?_⟩
 conv => whnf
 refine ⟨fun h => h,?_⟩
 conv => whnf
 refine ⟨fun h0 h => by first | exact h | (rw [h]; rfl) | (rw [h0,h]; rfl),?_⟩
 conv => whnf
 refine ⟨fun h => h,?_⟩
 conv => whnf
 refine ⟨fun _ => by decide +kernel,?_⟩
 conv => whnf
 refine ⟨fun h => h,?_⟩
 conv => whnf
 refine ⟨_,fun _ => rfl,?_⟩
 conv => whnf
 refine ⟨fun h => h,?_⟩
 conv => whnf
 refine ⟨fun h => h,?_⟩
 conv => whnf
 refine ⟨fun h0 h => by first | exact h | (rw [h]; rfl) | (rw [h0,h]; rfl),?_⟩
 conv => whnf
 refine ⟨fun h => h,?_⟩
 conv => whnf
 refine ⟨fun h => h,?_⟩
 conv => whnf
 refine ⟨fun h0 h => by first | exact h | (rw [h]; rfl) | (rw [h0,h]; rfl),?_⟩
 conv => whnf
 refine ⟨fun h => h,?_⟩
 conv => whnf
 refine ⟨fun _ => by decide +kernel,?_⟩
 conv => whnf
 refine ⟨fun h => h,?_⟩
 conv => whnf
 refine ⟨fun h => h,?_⟩
 conv => whnf
 refine ⟨_,fun _ => rfl,?_⟩
 conv => whnf
 refine ⟨fun h => h,?_⟩
 conv => whnf
 refine ⟨fun h0 h => by first | exact h | (rw [h]; rfl) | (rw [h0,h]; rfl),?_⟩
 conv => whnf
 refine ⟨fun h => h,?_⟩
 conv => whnf
 refine ⟨fun _ => by decide +kernel,?_⟩
 conv => whnf
 refine ⟨fun h => h,?_⟩
 conv => whnf
 refine ⟨fun h => h,?_⟩
 conv => whnf
 refine ⟨_,fun _ => rfl,?_⟩
 conv => whnf
 refine ⟨fun h => h,?_⟩
 conv => whnf
 refine ⟨fun h0 h => by first | exact h | (rw [h]; rfl) | (rw [h0,h]; rfl),?_⟩
 conv => whnf
 refine ⟨fun h => h,?_⟩
 conv => whnf
 refine ⟨fun _ => by decide +kernel,?_⟩
 conv => whnf
 refine ⟨fun h => h,?_⟩
 conv => whnf
 refine ⟨fun h => h,?_⟩
 conv => whnf
 refine ⟨_,fun _ => rfl,?_⟩
 conv => whnf
 refine ⟨fun h => h,?_⟩
 conv => whnf
 refine ⟨fun h0 h => by first | exact h | (rw [h]; rfl) | (rw [h0,h]; rfl),?_⟩
 conv => whnf
 refine ⟨fun h => h,?_⟩
 conv => whnf
 refine ⟨fun _ => by decide +kernel,?_⟩
 conv => whnf
 refine ⟨fun h => h,?_⟩
 conv => whnf
 refine ⟨fun h => h,?_⟩
 conv => whnf
 refine ⟨_,fun _ => rfl,?_⟩
 conv => whnf
 refine ⟨fun h => h,?_⟩
 conv => whnf
 refine ⟨fun h0 h => by first | exact h | (rw [h]; rfl) | (rw [h0,h]; rfl),?_⟩
 conv => whnf
 refine ⟨fun h => h,?_⟩
 conv => whnf
 refine ⟨fun _ => by decide +kernel,?_⟩
 conv => whnf
 refine ⟨fun h => h,?_⟩
 conv => whnf
 refine ⟨fun h => h,?_⟩
 conv => whnf
 refine ⟨_,fun _ => rfl,?_⟩
 conv => whnf
 refine ⟨fun h => h,?_⟩
 conv => whnf
 refine ⟨fun h0 h => by first | exact h | (rw [h]; rfl) | (rw [h0,h]; rfl),?_⟩
 conv => whnf
 refine Tri.cond false (by kernel_rfl) (fun hc => ?_) (fun hc => ?_)
 ·cases hc
 ·refine Tri.skip ?_
  conv => whnf
  refine Tri.seq ?_
  refine Tri.region ti2_ok ?_
  conv => whnf
  refine ⟨[.sl .none 6 (dirs8.map encDir),.int .i64 9],_,fun _ => hQ,⟨.refl _,.refl _,trivial⟩,?_⟩
  conv => whnf
  refine Tri.seq ?_
  refine Tri.region ti2_ok ?_
  conv => whnf
  refine ⟨trivial,?_⟩
  conv => whnf
  refine ⟨[.sl .none 12 (two26.map enc)],_,fun _ => hI,⟨DLe.trans DLe.full (DLe.slMap ⟨.refl _,.refl _,.refl _,.refl _,.refl _,.refl _,.refl _,.refl _,.refl _,.refl _,DLe.nil,DLe.nil,.refl _,.refl _,.refl _,.refl _,.refl _,.refl _,.refl _,.refl _,.refl _,.refl _,DLe.nil,DLe.nil,trivial⟩ rfl (fun y hy => by obtain ⟨z,_,rfl⟩:=List.mem_map.1 hy; cases z; rfl)),trivial⟩,?_⟩
  conv => whnf
  refine Tri.seq ?_
  refine Tri.region ti2_ok ?_
  conv => whnf
  refine ⟨trivial,?_⟩
  conv => whnf
  refine ⟨fun h => h,?_⟩
  conv => whnf
  refine ⟨fun h => h,?_⟩
  conv => whnf
  refine ⟨[.sl .none 1 (([[82,82,95,77,79,86,69,68],[68,49]] : List (List UInt8)).map D.str),.sl .none 1 (([[82,82,95,77,79,86,69,68],[68,49]] : List (List UInt8)).map D.str)],_,fun _ => F23 _ _ (by decide) (by decide),⟨.refl _,DLe.full,trivial⟩,?_⟩
  conv => whnf
  refine ⟨fun h0 h => by first | exact h | (rw [h]; rfl) | (rw [h0,h]; rfl),?_⟩
  conv => whnf
  refine ⟨fun h => h,?_⟩
  conv => whnf
  refine ⟨fun h0 h => by first | exact h | (rw [h]; rfl) | (rw [h0,h]; rfl),?_⟩
  conv => whnf
  refine ⟨trivial,?_⟩
  conv => whnf
  refine ⟨fun h => h,?_⟩
  conv => whnf
  refine ⟨fun h => h,?_⟩
  conv => whnf
  refine ⟨[.sl .none 1 (([[88],[89,46,59,49]] : List (List UInt8)).map D.str),.sl .none 1 (([[88],[89,46,59,49]] : List (List UInt8)).map D.str)],_,fun _ => F23 _ _ (by decide) (by decide),⟨.refl _,DLe.full,trivial⟩,?_⟩
  conv => whnf
  refine ⟨fun h0 h => by first | exact h | (rw [h]; rfl) | (rw [h0,h]; rfl),?_⟩
  conv => whnf
  refine ⟨[.int .i64 ((8 : Nat) : Int)],_,fun _ => G87 8 (by decide) (by decide),⟨.refl _,trivial⟩,?_⟩
  conv => whnf
  refine ⟨fun h => h,?_⟩
  conv => whnf
  refine ⟨[encTop (chainT 7)],_,fun _ => hN8,⟨.refl _,trivial⟩,?_⟩
  conv => whnf
  refine ⟨fun h0 h => by first | exact h | (rw [h]; rfl) | (rw [h0,h]; rfl),?_⟩
  conv => whnf
  refine ⟨[.int .i64 ((7 : Nat) : Int)],_,fun _ => G87 7 (by decide) (by decide),⟨.refl _,trivial⟩,?_⟩
  conv => whnf
  refine ⟨fun h => h,?_⟩
  conv => whnf
  refine ⟨[encTop (chainT 6)],_,fun _ => hN7,⟨.refl _,trivial⟩,?_⟩
  conv => whnf
  refine ⟨fun h => h,?_⟩
  conv => whnf
  refine ⟨fun h0 h => by first | exact h | (rw [h]; rfl) | (rw [h0,h]; rfl),?_⟩
  conv => whnf
  refine Tri.ret ?_
  conv => whnf
  exact .refl _
end Go.Tame.V
