/- A program logic of my own over the model, and contracts of this program's functions by it: part 1. No conditions of its own: each theorem states its own. -/
import Derived.WalkKit
import Derived.Great.FillDense
import Derived.Laws.Tables
import Derived.Laws.IdiomStrings
import Derived.Laws.Cover4
import Derived.Laws.Runes
import Derived.Laws.CopyRow
import Derived.Laws.AppendOwn
import Derived.StillTail
import Derived.Laws.MakeOwn
import Derived.MapFrom
import Derived.Laws.RangeString
import Derived.Laws.BytesString
set_option linter.unnecessarySimpa false
set_option linter.unusedSimpArgs false
set_option linter.unusedVariables false
set_option maxRecDepth 100000
set_option maxHeartbeats 16000000
namespace Go.Tame
open Go Go.RowKit
inductive Tag where
 | none
 | full
 | own (s:Nat) (v:Value)
inductive D where
 | any
 | undef
 | bool (b:Bool)
 | int (k:IntKind) (n:Int)
 | str (s:List UInt8)
 | agg (cs:List D)
 | nils
 | sl (t:Tag) (k:Nat) (xs:List D)
 | fn (f:Fn) (first captured:List D)
 | tup (ds:List D)
 | elm (k:Nat) (xs:List D) (i off:Nat)
 | box (s b off:Nat)
 | cnd (g:Bool) (d:D)
 | raw (v:Value)
def D.cells:D→List D
 | .agg cs=>cs
 | d=>[d]
def flat (xs:List D):List D:=xs.flatMap D.cells
def Tag.Ok (t:Tag) (v:Value):Prop :=
 match t with
 | .none=>True
 | .full=>∃ a n,v=.slice a n n
 | .own _ v'=>v=v'
inductive Rep (w:World) (C:Nat→Nat):D→Value→Prop
 | any (v:Value):Rep w C .any v
 | undef:Rep w C .undef Go.undef
 | bool (b:Bool):Rep w C (.bool b) (.bool b)
 | int (k:IntKind) (n:Int):Rep w C (.int k n) (.int k n)
 | str (s:List UInt8):Rep w C (.str s) (.string ⟨⟨s⟩⟩)
 | agg (cs:List D) (vs:List Value) (hl:cs.length=vs.length)
   (h:∀ (i:Nat) d v,cs[i]? = some d→vs[i]? = some v→Rep w C d v):Rep w C (.agg cs) (.agg ⟨vs⟩)
 | nils:Rep w C .nils (.slice none 0 0)
 | sl0 (t:Tag) (k:Nat) (a:Option Addr) (ht:t.Ok (.slice a 0 0)):Rep w C (.sl t k []) (.slice a 0 0)
 | sl (t:Tag) (k:Nat) (xs:List D) (b o cap:Nat) (g:Nat→Value)
   (ht:t.Ok (.slice (some ⟨b,o,none⟩) xs.length cap))
   (hb:b<w.heap.size) (hc:xs.length≤cap) (hm:cap≤maxLen)
   (hk:∀ x∈xs,x.cells.length=k) (hC:o+xs.length*k≤C b)
   (hcell:∀ (j:Nat) d,(flat xs)[j]? = some d→w.cell? ⟨b,o+j,none⟩=some (g j))
   (hone:∀ (j:Nat) d,(flat xs)[j]? = some d→(g j).oneCell'=true)
   (h:∀ (j:Nat) d,(flat xs)[j]? = some d→Rep w C d (g j)):Rep w C (.sl t k xs) (.slice (some ⟨b,o,none⟩) xs.length cap)
 | fn (f:Fn) (first captured:List D) (vf vc:List Value) (hl:first.length=vf.length) (hl':captured.length=vc.length)
   (h:∀ (i:Nat) d v,first[i]? = some d→vf[i]? = some v→Rep w C d v)
   (h':∀ (i:Nat) d v,captured[i]? = some d→vc[i]? = some v→Rep w C d v):Rep w C (.fn f first captured) (.func f ⟨vf⟩ ⟨vc⟩)
 | tup (ds:List D) (vs:List Value) (hl:ds.length=vs.length)
   (h:∀ (i:Nat) d v,ds[i]? = some d→vs[i]? = some v→Rep w C d v):Rep w C (.tup ds) (.tuple ⟨vs⟩)
 | elm (k:Nat) (xs:List D) (i off:Nat) (b o cap:Nat) (h:Rep w C (.sl .none k xs) (.slice (some ⟨b,o,none⟩) xs.length cap)) :
   Rep w C (.elm k xs i off) (.pointer (some ⟨b,o+i*k+off,none⟩))
 | box (s b off:Nat):Rep w C (.box s b off) (.pointer (some ⟨b,off,none⟩))
 | cndT (d:D) (v:Value) (h:Rep w C d v):Rep w C (.cnd true d) v
 | cndF (d:D):Rep w C (.cnd false d) Go.undef
 | raw (v:Value):Rep w C (.raw v) v
def RepL (w:World) (C:Nat→Nat) (ds:List D) (vs:List Value):Prop :=
 ds.length=vs.length∧∀ (i:Nat) d v,ds[i]? = some d→vs[i]? = some v→Rep w C d v
structure Ext (w:World) (C:Nat→Nat) (w':World) (C':Nat→Nat):Prop where
 size:w.heap.size≤w'.heap.size
 le:∀ b,b<w.heap.size→C b≤C' b
 cells:∀ b o,b<w.heap.size→o<C b→w'.cell? ⟨b,o,none⟩=w.cell? ⟨b,o,none⟩
theorem Ext.refl (w:World) (C:Nat→Nat):Ext w C w C:=⟨Nat.le_refl _,fun _ _=>Nat.le_refl _,fun _ _ _ _=>rfl⟩
theorem Ext.trans {w w' w'':World} {C C' C'':Nat→Nat} (h:Ext w C w' C') (h':Ext w' C' w'' C''):Ext w C w'' C'' :=
 ⟨Nat.le_trans h.size h'.size,fun b hb=>Nat.le_trans (h.le b hb) (h'.le b (Nat.lt_of_lt_of_le hb h.size)),
  fun b o hb ho=>by
   rw [h'.cells b o (Nat.lt_of_lt_of_le hb h.size) (Nat.lt_of_lt_of_le ho (h.le b hb)),h.cells b o hb ho]⟩
theorem flat_length {k:Nat}:∀ {xs:List D},(∀ x∈xs,x.cells.length=k)→(flat xs).length=xs.length*k
 | [],_=>by simp [flat]
 | x::xs,h=>by
  have h1:=flat_length (xs:=xs) (fun y hy=>h y (List.mem_cons_of_mem _ hy))
  have h2:=h x List.mem_cons_self
  simp only [flat,List.flatMap_cons,List.length_append,List.length_cons] at *
  rw [h1,h2,Nat.succ_mul]; omega
theorem Rep.ext {w w':World} {C C':Nat→Nat} (he:Ext w C w' C') {d:D} {v:Value} (h:Rep w C d v):Rep w' C' d v:=by
 induction h with
 | any v=>exact .any v
 | undef=>exact .undef
 | bool b=>exact .bool b
 | int k n=>exact .int k n
 | str s=>exact .str s
 | agg cs vs hl _ ih=>exact .agg cs vs hl ih
 | nils=>exact .nils
 | sl0 t k a ht=>exact .sl0 t k a ht
 | sl t k xs b o cap g ht hb hc hm hk hC hcell hone _ ih =>
  refine .sl t k xs b o cap g ht (Nat.lt_of_lt_of_le hb he.size) hc hm hk (Nat.le_trans hC (he.le b hb)) (fun j d hj=>?_) hone ih;rw [he.cells b (o+j) hb ?_]
  ·exact hcell j d hj
  have hlt:j<(flat xs).length:=by
   rcases Nat.lt_or_ge j (flat xs).length with h|h
   ·exact h
   rw [List.getElem?_eq_none h] at hj; cases hj
  rw [flat_length hk] at hlt
  omega
 | fn f first captured vf vc hl hl' _ _ ih ih'=>exact .fn f first captured vf vc hl hl' ih ih'
 | tup ds vs hl _ ih=>exact .tup ds vs hl ih
 | elm k xs i off b o cap _ ih=>exact .elm k xs i off b o cap ih
 | box s b off=>exact .box s b off
 | cndT d v _ ih=>exact .cndT d v ih
 | cndF d=>exact .cndF d
 | raw v=>exact .raw v
section inv
variable {w:World} {C:Nat→Nat} {v:Value}
theorem Rep.int_inv {k:IntKind} {n:Int} (h:Rep w C (.int k n) v):v=.int k n:=by cases h; rfl
theorem Rep.bool_inv {b:Bool} (h:Rep w C (.bool b) v):v=.bool b:=by cases h; rfl
theorem Rep.str_inv {s:List UInt8} (h:Rep w C (.str s) v):v=.string ⟨⟨s⟩⟩:=by cases h; rfl
theorem Rep.nils_inv (h:Rep w C .nils v):v=.slice none 0 0:=by cases h; rfl
theorem Rep.raw_inv {u:Value} (h:Rep w C (.raw u) v):v=u:=by cases h; rfl
theorem Rep.box_inv {s b off:Nat} (h:Rep w C (.box s b off) v):v=.pointer (some ⟨b,off,none⟩):=by cases h; rfl
theorem Rep.agg_inv {cs:List D} (h:Rep w C (.agg cs) v):∃ vs,v=.agg ⟨vs⟩∧RepL w C cs vs:=by
 cases h with
 | agg cs vs hl h=>exact ⟨vs,rfl,hl,h⟩
theorem Rep.tup_inv {cs:List D} (h:Rep w C (.tup cs) v):∃ vs,v=.tuple ⟨vs⟩∧RepL w C cs vs:=by
 cases h with
 | tup cs vs hl h=>exact ⟨vs,rfl,hl,h⟩
theorem Rep.fn_inv {f:Fn} {first captured:List D} (h:Rep w C (.fn f first captured) v):∃ vf vc,v=.func f ⟨vf⟩ ⟨vc⟩∧RepL w C first vf∧RepL w C captured vc:=by
 cases h with
 | fn f first captured vf vc hl hl' h h'=>exact ⟨vf,vc,rfl,⟨hl,h⟩,⟨hl',h'⟩⟩
end inv
theorem RepL.ext {w w':World} {C C':Nat→Nat} (he:Ext w C w' C') {ds:List D} {vs:List Value} (h:RepL w C ds vs):RepL w' C' ds vs :=
 ⟨h.1,fun i d v hd hv=>(h.2 i d v hd hv).ext he⟩
def D.untag:D→D
 | .sl _ k xs=>.sl .none k xs
 | .nils=>.sl .none 0 []
 | d=>d
theorem Rep.untag {w:World} {C:Nat→Nat} {d:D} {v:Value} (h:Rep w C d v):Rep w C d.untag v:=by
 cases h with
 | nils=>exact .sl0 .none 0 none trivial
 | sl0 t k a ht=>exact .sl0 .none k a trivial
 | sl t k xs b o cap g ht hb hc hm hk hC hcell hone h=>exact .sl .none k xs b o cap g trivial hb hc hm hk hC hcell hone h
 | any v=>exact .any v
 | undef=>exact .undef
 | bool b=>exact .bool b
 | int k n=>exact .int k n
 | str s=>exact .str s
 | agg cs vs hl h=>exact .agg cs vs hl h
 | fn f first captured vf vc hl hl' h h'=>exact .fn f first captured vf vc hl hl' h h'
 | tup ds vs hl h=>exact .tup ds vs hl h
 | elm k xs i off b o cap h=>exact .elm k xs i off b o cap h
 | box s b off=>exact .box s b off
 | cndT d v h=>exact .cndT d v h
 | cndF d=>exact .cndF d
 | raw v=>exact .raw v
inductive HObj where
 | box (b:Nat) (cs:List D)
 | own (v:Value) (n k e:Nat)
 | row (v:Value) (xs:List D) (k e:Nat)
 | set (b:Nat) (ks:List (List UInt8))
 | obj (b:Nat) (o:Obj)
 | mp (b:Nat) (kvs:List (D×D))
abbrev Heap:=Nat→Option HObj
def HObj.uses:HObj→Nat→Prop
 | .box b _,x=>x=b
 | .own v n _ _,x=>∃ o cap,v=.slice (some ⟨x,o,none⟩) n cap∧n<cap
 | .row v _ _ _,x=>∃ n cap,v=.slice (some ⟨x,0,none⟩) n cap∧0<cap
 | .set b _,x=>x=b
 | .obj b _,x=>x=b
 | .mp b _,x=>x=b
def OwnV (w:World) (C:Nat→Nat) (v:Value) (n k e:Nat):Prop :=
 ∃ a cap,v=.slice a n cap∧n≤cap∧cap≤maxLen ∧
  (n<cap→∃ b vs,a=some ⟨b,0,none⟩∧w.heap[b]? = some (.cells vs e (0,0))∧vs.size=cap*k∧C b=n*k)
def RowV (w:World) (C:Nat→Nat) (v:Value) (xs:List D) (k e:Nat):Prop :=
 ∃ a cap,v=.slice a xs.length cap∧xs.length≤cap∧cap≤maxLen∧(∀ x∈xs,x.cells.length=k)∧(∀ ad,a=some ad→∃ b,ad=⟨b,0,none⟩∧b<w.heap.size) ∧
  (0<cap→∃ b vs,a=some ⟨b,0,none⟩∧w.heap[b]? = some (.cells vs e (0,0))∧vs.size=cap*k∧C b=0 ∧
   ∀ (j:Nat) d,(flat xs)[j]? = some d→∃ u,vs[j]? = some u∧Rep w C d u∧u.oneCell'=true)
def SetV (w:World) (C:Nat→Nat) (b:Nat) (ks:List (List UInt8)):Prop :=
 ∃ es clock,w.heap[b]? = some (.map es clock)∧C b=0∧(∀ x∈es.toList,(∃ s,x.key=.string ⟨⟨s⟩⟩)∧x.val=.bool true) ∧
  ∀ s:List UInt8,s∈ks↔∃ x∈es.toList,x.key=.string ⟨⟨s⟩⟩
def keyV:D→Option Value
 | .str s=>some (.string ⟨⟨s⟩⟩)
 | .int k n=>some (.int k n)
 | .bool b=>some (.bool b)
 | _=>none
def MapV (w:World) (C:Nat→Nat) (b:Nat) (kvs:List (D×D)):Prop :=
 ∃ es clock,w.heap[b]? = some (.map es clock)∧C b=0∧es.size=kvs.length∧(∀ (i j:Nat) k k' d d',kvs[i]? = some (k,d)→kvs[j]? = some (k',d')→keyV k=keyV k'→i=j) ∧
  ∀ (i:Nat) k d e,kvs[i]? = some (k,d)→es[i]? = some e→keyV k=some e.key∧Rep w C d e.val
def ORel (w:World) (C:Nat→Nat):HObj→Prop
 | .box b cs=>∃ vs e,w.heap[b]? = some (.cells ⟨vs⟩ e (0,0))∧RepL w C cs vs∧C b=0
 | .own v n k e=>OwnV w C v n k e
 | .row v xs k e=>RowV w C v xs k e
 | .set b ks=>SetV w C b ks
 | .obj b o=>w.heap[b]? = some o∧C b=0
 | .mp b kvs=>MapV w C b kvs
structure HRel (Ft:Nat→Prop) (w:World) (C:Nat→Nat) (H:Heap):Prop where
 obj:∀ s o,H s=some o→ORel w C o
 inj:∀ s s' o o' b,s≠s'→H s=some o→H s'=some o'→o.uses b→¬ o'.uses b
 foot:∀ s o b,H s=some o→o.uses b→Ft b
structure Step (Ft:Nat→Prop) (w:World) (C:Nat→Nat) (w':World) (C':Nat→Nat):Prop where
 ext:Ext w C w' C'
 os:w'.os=w.os
 tape:w'.tape=w.tape
 output:w'.output=w.output
 keep:∀ b,b<w.heap.size→¬ Ft b→w'.heap[b]? = w.heap[b]?∧C' b=C b
theorem Step.refl (Ft:Nat→Prop) (w:World) (C:Nat→Nat):Step Ft w C w C:=⟨.refl w C,rfl,rfl,rfl,fun _ _ _=>⟨rfl,rfl⟩⟩
theorem Step.trans {Ft Ft':Nat→Prop} {w w' w'':World} {C C' C'':Nat→Nat} (h:Step Ft w C w' C') (h':Step Ft' w' C' w'' C'')
  (hs:∀ b,b<w.heap.size→Ft' b→Ft b):Step Ft w C w'' C'' :=
 ⟨h.ext.trans h'.ext,h'.os.trans h.os,h'.tape.trans h.tape,h'.output.trans h.output,fun b hb hn=>by
  have h1:=h.keep b hb hn
  have h2:=h'.keep b (Nat.lt_of_lt_of_le hb h.ext.size) (fun hf=>hn (hs b hb hf))
  exact ⟨h2.1.trans h1.1,h2.2.trans h1.2⟩⟩
def Base (W0 w:World):Prop:=Below W0.heap.size W0 w
theorem Base.step {W0 w w':World} {C C':Nat→Nat} {Ft:Nat→Prop} (h:Base W0 w) (hs:Step Ft w C w' C') (hF:∀ b,Ft b→W0.heap.size≤b):Base W0 w' :=
 ⟨hs.os.trans h.os,hs.tape.trans h.tape,hs.output.trans h.output,Nat.le_trans h.size hs.ext.size,fun k hk=>by
  have h1:=(hs.keep k (Nat.lt_of_lt_of_le hk h.size) (fun hf=>by have:=hF k hf; omega)).1
  rw [h1]; exact h.block k hk⟩
def Callable (P : Program) (f : FuncId) : Prop := ∃ fn, P.funcs[f]? = some fn ∧ fn.body.isSome = true ∧ (fn.name == "runtime.NumGoroutine") = false
def DCall (P:Program) (W0:World) (f:FuncId) (dargs:List D) (H:Heap) (Q:D→Heap→Prop):Prop :=
 Callable P f∧∀ (w:World) (C:Nat→Nat) (args:List Value) (Ft:Nat→Prop),Base W0 w→(∀ b,Ft b→W0.heap.size≤b)→HRel Ft w C H→RepL w C dargs args →
  Calls P f ⟨args⟩ w fun e w'=>∃ v d C' H',e=.returned v∧Q d H'∧Rep w' C' d v∧Step Ft w C w' C' ∧
   HRel (fun b=>Ft b∨w.heap.size≤b) w' C' H'
def Heap.none:Heap:=fun _=>Option.none
def DFun (P:Program) (W0:World) (f:FuncId) (dargs:List D) (d:D):Prop :=
 Callable P f∧∀ (w:World) (C:Nat→Nat) (args:List Value),Base W0 w→RepL w C dargs args →
  Calls P f ⟨args⟩ w fun e w'=>∃ v C',e=.returned v∧Rep w' C' d v∧Step (fun _=>False) w C w' C'
theorem HRel.none (Ft:Nat→Prop) (w:World) (C:Nat→Nat):HRel Ft w C Heap.none :=
 ⟨fun _ _ h=>(by cases h),fun _ _ _ _ _ _ h=>(by cases h),fun _ _ _ h=>(by cases h)⟩
structure Ctx (P:Program) (W0:World) (nt:Nat) where
 w0:World
 C0:Nat→Nat
 Ft:Nat→Prop
 base:Base W0 w0
 low:∀ b,Ft b→W0.heap.size≤b
variable {P:Program} {W0:World} {nt:Nat}
structure DSt where
 t:Nat→D
 H:Heap
def Ctx.Foot (Γ:Ctx P W0 nt) (b:Nat):Prop:=Γ.Ft b∨Γ.w0.heap.size≤b
structure FR (Γ:Ctx P W0 nt) (w:World) (C:Nat→Nat) (σ:DSt) (a:Act):Prop where
 tmps:∀ i,Rep w C (σ.t i) (a.tmps.getD i undef)
 heap:HRel Γ.Foot w C σ.H
 size:a.tmps.size=nt
 defers:a.defers=[]
 step:Step Γ.Ft Γ.w0 Γ.C0 w C
theorem Ctx.foot_low (Γ:Ctx P W0 nt) {b:Nat} (h:Γ.Foot b):W0.heap.size≤b:=by
 rcases h with h|h
 ·exact Γ.low b h
 exact Nat.le_trans Γ.base.size h
theorem FR.base {Γ:Ctx P W0 nt} {w:World} {C:Nat→Nat} {σ:DSt} {a:Act} (h:FR Γ w C σ a):Base W0 w:=Γ.base.step h.step Γ.low
inductive DExit where
 | normal
 | exit (id:Nat)
 | ret
def DExit.to:DExit→Exit
 | .normal=>.normal
 | .exit id=>.exit id
 | .ret=>.ret
structure Tri (Γ:Ctx P W0 nt) (c:Code) (σ:DSt) (K:DExit→DSt→Prop):Prop where
 run:∀ (a:Act) (w:World) (C:Nat→Nat),FR Γ w C σ a →
  c.wp P (fun e a' w'=>∃ de σ' C',e=DExit.to de∧K de σ'∧FR Γ w' C' σ' a') a w
section rules
variable {Γ:Ctx P W0 nt} {σ:DSt} {K:DExit→DSt→Prop}
theorem Tri.mono {c:Code} {K':DExit→DSt→Prop} (h:Tri Γ c σ K) (hk:∀ e σ,K e σ→K' e σ):Tri Γ c σ K' :=
 ⟨fun a w C hf=>wp_mono (h.run a w C hf) fun _ _ _ ⟨de,σ',C',he,hK,hF⟩=>⟨de,σ',C',he,hk _ _ hK,hF⟩⟩
theorem Tri.skip (h:K .normal σ):Tri Γ .skip σ K:=⟨fun _ _ C hf=>wp_skip ⟨.normal,σ,C,rfl,h,hf⟩⟩
theorem Tri.ret (h:K .ret σ):Tri Γ .ret σ K:=⟨fun _ _ C hf=>wp_ret ⟨.ret,σ,C,rfl,h,hf⟩⟩
theorem Tri.exit {id:Nat} (h:K (.exit id) σ):Tri Γ (.exit id) σ K:=⟨fun _ _ C hf=>wp_exit ⟨.exit id,σ,C,rfl,h,hf⟩⟩
def seqK (Γ:Ctx P W0 nt) (b:Code) (K:DExit→DSt→Prop):DExit→DSt→Prop
 | .normal,σ=>Tri Γ b σ K
 | .exit id,σ=>K (.exit id) σ
 | .ret,σ=>K .ret σ
theorem Tri.seq {a b:Code} (h:Tri Γ a σ (seqK Γ b K)):Tri Γ (.seq a b) σ K :=
 ⟨fun act w C hf=>wp_seq (wp_mono (h.run act w C hf) fun e a' w' ⟨de,σ',C',he,hK,hF⟩=>by
  subst he
  cases de with
  | normal=>exact hK.run a' w' C' hF
  | exit id=>exact ⟨.exit id,σ',C',rfl,hK,hF⟩
  | ret=>exact ⟨.ret,σ',C',rfl,hK,hF⟩)⟩
def blockK (id:Nat) (K:DExit→DSt→Prop):DExit→DSt→Prop
 | .normal,σ=>K .normal σ
 | .exit id',σ=>cond (Nat.beq id' id) (K .normal σ) (K (.exit id') σ)
 | .ret,σ=>K .ret σ
theorem Tri.block {id:Nat} {c:Code} (h:Tri Γ c σ (blockK id K)):Tri Γ (.block id c) σ K :=
 ⟨fun act w C hf=>wp_block (wp_mono (h.run act w C hf) fun e a' w' ⟨de,σ',C',he,hK,hF⟩=>by
  subst he
  cases de with
  | normal=>exact ⟨.normal,σ',C',rfl,hK,hF⟩
  | exit id' =>
   simp only [DExit.to,Exit.inBlock]
   by_cases hid:id'=id
   ·subst hid;rw [if_pos rfl];refine ⟨.normal,σ',C',rfl,?_,hF⟩
    simpa [blockK] using hK
   rw [if_neg hid];refine ⟨.exit id',σ',C',rfl,?_,hF⟩
   have:Nat.beq id' id=false:=by
    cases hb:Nat.beq id' id with
    | false=>rfl
    | true=>exact absurd (Nat.eq_of_beq_eq_true hb) hid
   simpa [blockK,this] using hK
  | ret=>exact ⟨.ret,σ',C',rfl,hK,hF⟩)⟩
structure DLe (d d':D):Prop where
 le:∀ w C v,Rep w C d v→Rep w C d' v
theorem DLe.refl (d:D):DLe d d:=⟨fun _ _ _ h=>h⟩
theorem DLe.of_eq {d d':D} (h:d=d'):DLe d d':=h ▸ DLe.refl d
theorem DLe.any (d:D):DLe d .any:=⟨fun _ _ v _=>.any v⟩
theorem DLe.untag (d:D):DLe d d.untag:=⟨fun _ _ _ h=>h.untag⟩
def look {α:Type}:List (Nat×α)→Nat→Option α
 | [],_=>none
 | (i,d)::r,j=>cond (Nat.beq j i) (some d) (look r j)
def St (l:List (Nat×D)) (hs:List (Nat×HObj)):DSt:={ t:=fun j=>(look l j).getD .any,H:=look hs }
def SubT (σ:DSt):List (Nat×D)→Prop
 | []=>True
 | (i,d)::r=>DLe (σ.t i) d∧SubT σ r
def SubH (σ:DSt):List (Nat×HObj)→Prop
 | []=>True
 | (s,o)::r=>σ.H s=some o∧SubH σ r
theorem beq_true {a b:Nat} (h:Nat.beq a b=true):a=b:=Nat.eq_of_beq_eq_true h
theorem SubT.look {σ:DSt}:∀ {l:List (Nat×D)},SubT σ l→∀ j,DLe (σ.t j) ((look l j).getD .any)
 | [],_,j=>by simpa [Go.Tame.look] using DLe.any _
 | (i,d)::r,h,j=>by
  simp only [Go.Tame.look]
  cases hb:Nat.beq j i with
  | true=>have:=beq_true hb; subst this; simpa using h.1
  | false=>simpa using SubT.look h.2 j
theorem SubH.look {σ:DSt}:∀ {l:List (Nat×HObj)},SubH σ l→∀ s o,look l s=some o→σ.H s=some o
 | [],_,s,o,h=>by simp [Go.Tame.look] at h
 | (i,d)::r,hs,s,o,h=>by
  simp only [Go.Tame.look] at h
  cases hb:Nat.beq s i with
  | true=>have:=beq_true hb; subst this; rw [hb] at h; simp at h; subst h; exact hs.1
  | false=>rw [hb] at h; exact SubH.look hs.2 s o (by simpa using h)
theorem FR.weaken {w:World} {C:Nat→Nat} {a:Act} {l:List (Nat×D)} {hs:List (Nat×HObj)} (h:FR Γ w C σ a) (h1:SubT σ l) (h2:SubH σ hs) :
  FR Γ w C (St l hs) a :=
 ⟨fun i=>(h1.look i).le _ _ _ (h.tmps i),
  ⟨fun s o ho=>h.heap.obj s o (h2.look s o ho),fun s s' o o' b hn h3 h4=>h.heap.inj s s' o o' b hn (h2.look s o h3) (h2.look s' o' h4),
   fun s o b ho=>h.heap.foot s o b (h2.look s o ho)⟩,h.size,h.defers,h.step⟩
theorem Tri.loop {c:Code} {α:Type} (l:α→List (Nat×D)) (hs:α→List (Nat×HObj)) (μ:α→Nat) (x0:α) (h1:SubT σ (l x0)) (h2:SubH σ (hs x0))
  (round:∀ x,Tri Γ c (St (l x) (hs x)) fun e σ'=>match e with
   | .normal=>∃ x',μ x'<μ x∧SubT σ' (l x')∧SubH σ' (hs x')|.exit id=>K (.exit id) σ'|.ret=>K .ret σ'):Tri Γ (.loop c) σ K :=
 ⟨fun a w C hf=>by
  have hf0:=hf.weaken h1 h2
  intro b k cs
  have key:∀ n x,μ x=n→∀ a w C,FR Γ w C (St (l x) (hs x)) a →
    ∃ e a' w',(∃ de σ' C',e=DExit.to de∧K de σ'∧FR Γ w' C' σ' a')∧Arrives P (lone (b.at a (.code c::.inLoop c::k)) cs w) b k cs e a' w':=by
   intro n
   induction n using Nat.strongRecOn with
   | _ n ih =>
    intro x hn a w C hf;obtain ⟨e,a₁,w₁,⟨de,σ1,C1,he,hK,hF⟩,harr⟩:=(round x).run a w C hf b (.inLoop c::k) cs;subst he
    cases de with
    | normal =>
     obtain ⟨x',hlt,h3,h4⟩:=hK;obtain ⟨e₂,a₂,w₂,hq₂,harr₂⟩:=ih (μ x') (hn ▸ hlt) x' rfl a₁ w₁ C1 (hF.weaken h3 h4);exact ⟨e₂,a₂,w₂,hq₂,.of_steps (Steps.trans harr (.one step_inLoop)) harr₂⟩
    | exit id=>exact ⟨_,a₁,w₁,⟨.exit id,σ1,C1,rfl,hK,hF⟩,.pass (x:=.inLoop c) rfl (fun _ _=>.inl (by simp [DExit.to])) harr⟩
    | ret=>exact ⟨_,a₁,w₁,⟨.ret,σ1,C1,rfl,hK,hF⟩,.pass (x:=.inLoop c) rfl (fun _ _=>.inl (by simp [DExit.to])) harr⟩
  obtain ⟨e,a',w',hq,harr⟩:=key _ x0 rfl a w C hf0
  exact ⟨e,a',w',hq,.of_steps (.one step_loop) harr⟩⟩
end rules
inductive TK where
 | int (k:IntKind)
 | bool
 | str
 | slice (e:Nat)
 | struct
 | array (n e:Nat)
 | other
structure TEnt where
 t:Nat
 agg:Bool
 sz:Nat
 bytes:Nat
 kind:TK
 fields:List (Nat×Nat×Bool)
 zero:Option (List D)
 eqs:List TK:=[]
def tget:List TEnt→Nat→Option TEnt
 | [],_=>none
 | e::r,t=>cond (Nat.beq e.t t) (some e) (tget r t)
def kEq:IntKind→IntKind→Bool
 | .i8,.i8|.i16,.i16|.i32,.i32|.i64,.i64|.u8,.u8|.u16,.u16|.u32,.u32|.u64,.u64=>true
 | _,_=>false
def constD:Value→D
 | .bool b=>.bool b
 | .int k n=>.int k n
 | .string s=>.str s.data.toList
 | .slice none 0 0=>.nils
 | v=>.raw v
def DSt.ev (σ:DSt):Operand→D
 | .tmp t=>σ.t t
 | .const v=>constD v
 | .global g=>.raw (.pointer (some ⟨g,0,none⟩))
 | .func f=>.fn (.func f) [] []
def DSt.put (σ:DSt) (dst:Option Tmp) (d:D):DSt :=
 match dst with
 | some t=>{ t:=fun j=>cond (Nat.beq j t) d (σ.t j),H:=σ.H }
 | none=>σ
def DSt.setH (σ:DSt) (s:Nat) (o:Option HObj):DSt:={ t:=σ.t,H:=fun j=>cond (Nat.beq j s) o (σ.H j) }
def okDst (nt:Nat):Option Tmp→Bool
 | some d=>Nat.blt d nt
 | none=>true
def force (d:D) (k:D→Prop):Prop :=
 match d with
 | .any=>k .any
 | .undef=>k .undef
 | .bool b=>k (.bool b)
 | .int q n=>k (.int q n)
 | .str s=>k (.str s)
 | .agg cs=>k (.agg cs)
 | .nils=>k .nils
 | .sl t q xs=>k (.sl t q xs)
 | .fn f a b=>k (.fn f a b)
 | .tup ds=>k (.tup ds)
 | .elm q xs i o=>k (.elm q xs i o)
 | .box s b o=>k (.box s b o)
 | .cnd g d=>k (.cnd g d)
 | .raw v=>k (.raw v)
theorem force_iff (d:D) (k:D→Prop):force d k↔k d:=by cases d<;>rfl
def opn (h:Bool) (d:D) (k:D→Prop):Prop :=
 match d with
 | .cnd g d'=>(h=true→g=true)∧force d' k
 | d=>force d k
def InR:IntKind→Int→Prop
 | .i8,n=>-128≤n∧n≤127
 | .i16,n=>-32768≤n∧n≤32767
 | .i32,n=>-2147483648≤n∧n≤2147483647
 | .i64,n=>-9223372036854775808≤n∧n≤9223372036854775807
 | .u8,n=>0≤n∧n≤255
 | .u16,n=>0≤n∧n≤65535
 | .u32,n=>0≤n∧n≤4294967295
 | .u64,n=>0≤n∧n≤18446744073709551615
def arith (h:Bool) (k:IntKind) (n:Int) (K:D→Prop):Prop:=((h=true→InR k n)∧K (.int k n))∨K (.int k (k.wrap n))
def bitI (op:BinOp) (k:IntKind) (x y:Int):Int :=
 match op with
 | .and=>k.wrap (BitVec.ofInt k.bits x &&& BitVec.ofInt k.bits y).toNat
 | .or=>k.wrap (BitVec.ofInt k.bits x ||| BitVec.ofInt k.bits y).toNat
 | .xor=>k.wrap (BitVec.ofInt k.bits x ^^^ BitVec.ofInt k.bits y).toNat
 | _=>k.wrap (BitVec.ofInt k.bits x &&& ~~~BitVec.ofInt k.bits y).toNat
def intBin (h:Bool) (op:BinOp) (k k':IntKind) (a b:Int) (K:D→Prop):Prop :=
 match op with
 | .shl=>(h=true→0≤b)∧K (.int k (k.wrap (a*2 ^ min b.toNat k.bits)))
 | .shr=>(h=true→0≤b)∧K (.int k (a.fdiv (2 ^ min b.toNat k.bits)))
 | .add=>cond (kEq k k') (arith h k (a+b) K) False
 | .sub=>cond (kEq k k') (arith h k (a-b) K) False
 | .mul=>cond (kEq k k') (arith h k (a*b) K) False
 | .quo=>cond (kEq k k') ((h=true→b≠0)∧arith h k (a.tdiv b) K) False
 | .rem=>cond (kEq k k') ((h=true→b≠0)∧K (.int k (a.tmod b))) False
 | .and|.or|.xor|.andNot=>cond (kEq k k') (K (.int k (bitI op k a b))) False
 | .eql=>cond (kEq k k') (K (.bool (a==b))) False
 | .neq=>cond (kEq k k') (K (.bool (a !=b))) False
 | .lss=>cond (kEq k k') (K (.bool (decide (a<b)))) False
 | .leq=>cond (kEq k k') (K (.bool (decide (a≤b)))) False
 | .gtr=>cond (kEq k k') (K (.bool (decide (b<a)))) False
 | .geq=>cond (kEq k k') (K (.bool (decide (b≤a)))) False
def strBin (h:Bool) (op:BinOp) (a b:List UInt8) (K:D→Prop):Prop :=
 match op with
 | .add=>(h=true→(a.length:Int)+b.length≤9223372036854775807)∧K (.str (a++b))
 | .eql=>K (.bool (a==b))
 | .neq=>K (.bool (!(a==b)))
 | .lss=>K (.bool (Op.bytesLess a b))
 | .leq=>K (.bool (Op.bytesLess a b||a==b))
 | .gtr=>K (.bool (!(Op.bytesLess a b||a==b)))
 | .geq=>K (.bool (!Op.bytesLess a b))
 | _=>False
def eqCell (k:TK) (x y:D) (K:Bool→Prop):Prop :=
 match k,x,y with
 | .int _,.int k a,.int k' b=>cond (kEq k k') (K (a==b)) False
 | .str,.str a,.str b=>K (a==b)
 | .bool,.bool a,.bool b=>K (a==b)
 | _,_,_=>False
def eqCells:List TK→List D→List D→(Bool→Prop)→Prop
 | [],[],[],K=>K true
 | k::ks,x::xs,y::ys,K=>eqCell k x y fun b=>eqCells ks xs ys fun c=>K (b&&c)
 | _,_,_,_=>False
def isBool:TK→Bool
 | .bool=>true
 | _=>false
def isStruct:TK→Bool
 | .struct=>true
 | _=>false
def binD (ti:List TEnt) (h:Bool) (op:BinOp) (t:Nat) (x y:D) (K:D→Prop):Prop :=
 match x,y with
 | .int k a,.int k' b=>intBin h op k k' a b K
 | .str a,.str b=>strBin h op a b K
 | .bool a,.bool b =>
  match tget ti t with
  | none=>False
  | some e=>cond (isBool e.kind) (match op with
   | .eql=>K (.bool (a==b))
   | .neq=>K (.bool (!(a==b)))
   | _=>False) False
 | .agg xs,.agg ys =>
  match tget ti t with
  | some e =>
   match op with
   | .eql=>cond (isStruct e.kind&&!e.eqs.isEmpty) (eqCells e.eqs xs ys fun b=>K (.bool b)) False
   | .neq=>cond (isStruct e.kind&&!e.eqs.isEmpty) (eqCells e.eqs xs ys fun b=>K (.bool (!b))) False
   | _=>False
  | none=>False
 | _,_=>False
def partC (e:TEnt) (off:Nat) (cs:List D) (K:D→Prop):Prop :=
 match e.agg with
 | true=>cond (Nat.beq off 0&&Nat.beq e.sz cs.length) (K (.agg cs)) (cond (Nat.ble (off+e.sz) cs.length) (K (.agg ((cs.drop off).take e.sz))) False)
 | false=>match cs[off]? with
  | some d=>K d
  | none=>False
def loadX (e:TEnt) (k off:Nat) (x:D) (K:D→Prop):Prop :=
 match x with
 | .agg cs=>match e.agg with
  | true=>cond (Nat.beq off 0&&Nat.beq e.sz k) (K x) (cond (Nat.ble (off+e.sz) cs.length) (K (.agg ((cs.drop off).take e.sz))) False)
  | false=>match cs[off]? with
   | some d=>K d
   | none=>False
 | _=>cond (Nat.beq off 0&&!e.agg) (K x) False
def loadD (ti:List TEnt) (σ:DSt) (h:Bool) (t:Nat) (x:D) (K:D→Prop):Prop :=
 match tget ti t with
 | none=>False
 | some e=>match x with
  | .elm k xs i off=>∃ y,(h=true→xs[i]? = some y)∧loadX e k off y K
  | .box s b off=>match σ.H s with
   | some (.box b' cs)=>b=b'∧partC e off cs K
   | _=>False
  | _=>False
def fieldAddrD (ti:List TEnt) (t:Nat) (x:D) (f:Nat) (K:D→Prop):Prop :=
 match tget ti t with
 | none=>False
 | some e=>match e.kind,e.fields[f]? with
  | .struct,some (o,sz,_)=>cond (Nat.beq sz 0) False (match x with
   | .elm k xs i off=>K (.elm k xs i (off+o))
   | .box s b off=>K (.box s b (off+o))
   | _=>False)
  | _,_=>False
def fieldD (ti:List TEnt) (t:Nat) (x:D) (f:Nat) (K:D→Prop):Prop :=
 match tget ti t with
 | none=>False
 | some e=>match e.kind,e.fields[f]? with
  | .struct,some (o,sz,ag)=>match x with
   | .agg cs=>match ag with
    | true=>cond (Nat.ble (o+sz) cs.length) (K (.agg ((cs.drop o).take sz))) False
    | false=>match cs[o]? with
     | some d=>K d
     | none=>False
   | _=>False
  | _,_=>False
def indexAddrD (ti:List TEnt) (h:Bool) (t:Nat) (x ix:D) (K:D→Prop):Prop :=
 match tget ti t with
 | none=>False
 | some e=>match e.kind with
  | .slice el=>match tget ti el with
   | none=>False
   | some ee=>match x,ix with
    | .sl _ k xs,.int _ i=>cond (Nat.beq k ee.sz) ((h=true→0≤i∧i<(xs.length:Int))∧K (.elm k xs i.toNat 0)) False
    | _,_=>False
  | _=>False
def indexD (ti:List TEnt) (h:Bool) (t:Nat) (x ix:D) (K:D→Prop):Prop :=
 match tget ti t with
 | none=>False
 | some e=>match e.kind with
  | .str=>match x,ix with
   | .str s,.int _ i=>∃ c:UInt8,(h=true→0≤i∧s[i.toNat]? = some c)∧K (.int .u8 c.toNat)
   | _,_=>False
  | _=>False
def loD (h:Bool) (σ:DSt) (x:Option Operand) (k:Int→Prop):Prop :=
 match x with
 | none=>k 0
 | some x=>opn h (σ.ev x) fun d=>match d with|.int _ i=>k i|_=>False
def hiD (h:Bool) (σ:DSt) (x:Option Operand) (n:Int) (k:Int→Prop):Prop :=
 match x with
 | none=>k n
 | some x=>opn h (σ.ev x) fun d=>match d with|.int _ i=>k i|_=>False
def sliceD (ti:List TEnt) (h:Bool) (σ:DSt) (t:Nat) (x:D) (lo hi mx:Option Operand) (K:D→Prop):Prop :=
 match tget ti t with
 | none=>False
 | some e=>match e.kind with
  | .str=>match x with
   | .str s=>loD h σ lo fun l=>hiD h σ hi s.length fun r=>match mx with
    | none=>(h=true→0≤l∧l≤r∧r≤(s.length:Int))∧K (.str ((s.take r.toNat).drop l.toNat))
    | some _=>False
   | _=>False
  | .slice el=>match tget ti el with
   | none=>False
   | some ee=>match x with
    | .sl _ k xs=>cond (Nat.beq k ee.sz) (loD h σ lo fun l=>hiD h σ hi xs.length fun r=>match mx with
     | none=>(h=true→0≤l∧l≤r∧r≤(xs.length:Int))∧K (.sl .none k ((xs.take r.toNat).drop l.toNat))
     | some m=>cond hi.isSome (opn h (σ.ev m) fun d=>match d with
      | .int _ m=>(h=true→m=r∧0≤l∧l≤r∧r≤(xs.length:Int))∧K (.sl .full k ((xs.take r.toNat).drop l.toNat))
      | _=>False) False) False
    | _=>False
  | _=>False
def evs (h:Bool) (σ:DSt):List Operand→(List D→Prop)→Prop
 | [],k=>k []
 | x::r,k=>opn h (σ.ev x) fun d=>evs h σ r fun ds=>k (d::ds)
def splice (cs:List D) (off:Nat) (ds:List D):List D:=cs.take off++ds++cs.drop (off+ds.length)
def setAt:List D→Nat→D→List D
 | [],_,_=>[]
 | _::r,0,d=>d::r
 | c::r,n+1,d=>c::setAt r n d
def D.one:D→Bool
 | .bool _|.int ..|.str _|.nils|.sl ..|.fn ..|.elm ..|.box ..=>true
 | .raw v=>v.oneCell'
 | _=>false
def storeC (e:TEnt) (off:Nat) (cs:List D) (x:D) (K:List D→Prop):Prop :=
 match e.agg with
 | true=>match x with
  | .agg ds=>cond (Nat.beq ds.length e.sz&&Nat.ble (off+ds.length) cs.length&&ds.all D.one) (K (splice cs off ds)) False
  | _=>False
 | false=>cond (Nat.blt off cs.length&&x.one&&Nat.beq e.sz 1) (K (setAt cs off x)) False
def buildC (fields:List (Nat×Nat×Bool)) (cs:List D):List (Nat×D)→(List D→Prop)→Prop
 | [],K=>K cs
 | (i,d)::r,K=>match fields[i]? with
  | none=>False
  | some (o,sz,ag)=>match ag with
   | true=>match d with
    | .agg ds=>cond (Nat.beq ds.length sz&&Nat.ble (o+sz) cs.length) (buildC fields (splice cs o ds) r K) False
    | _=>False
   | false=>cond (Nat.blt o cs.length&&d.one&&Nat.beq sz 1) (buildC fields (setAt cs o d) r K) False
def evParts (h:Bool) (σ:DSt):List (Nat×Operand)→(List (Nat×D)→Prop)→Prop
 | [],k=>k []
 | (i,x)::r,k=>opn h (σ.ev x) fun d=>evParts h σ r fun ds=>k ((i,d.untag)::ds)
def rowC (k:Nat):Nat→List (Nat×D)→Prop
 | _,[]=>True
 | n,(i,d)::r=>cond (Nat.beq i n&&(match d with|.agg ds=>Nat.beq ds.length k&&ds.all D.one|d=>d.one&&Nat.beq k 1)) (rowC k (n+1) r) False
def LeL:List D→List D→Prop
 | [],[]=>True
 | a::r,b::s=>DLe a b∧LeL r s
 | _,_=>False
def runeGo (s:ByteArray):Nat→Nat→List Int
 | 0,_=>[]
 | f+1,i=>if i<s.size then Int.ofNat (Utf8.decode s i).1::runeGo s f (i+(Utf8.decode s i).2) else []
def runesI (s:List UInt8):List Int:=runeGo ⟨⟨s⟩⟩ s.length 0
def runesB (zs:List Int):List UInt8:=zs.flatMap fun n=>(Utf8.encode n).data.toList
def isI32:TK→Bool
 | .int .i32=>true
 | _=>false
def convD (ti:List TEnt) (src dst:Nat) (x:D) (K:D→Prop):Prop :=
 match tget ti src,tget ti dst with
 | some a,some b=>match a.kind,b.kind,x with
  | .int _,.int k,.int _ n=>((InR k n)∧K (.int k n))∨K (.int k (k.wrap n))
  | .str,.str,.str s=>K (.str s)
  | .int _,.str,.int _ n=>K (.str (Utf8.encode n).data.toList)
  | .str,.slice el,.str s=>match tget ti el with
   | some ee=>cond (isI32 ee.kind&&Nat.beq ee.sz 1) (s.length≤70368744177664∧K (.sl .none 1 ((runesI s).map (D.int .i32)))) False
   | none=>False
  | .slice el,.str,.sl _ k xs=>match tget ti el with
   | some ee=>cond (isI32 ee.kind&&Nat.beq k 1) (∃ zs:List Int,xs=zs.map (D.int .i32)∧K (.str (runesB zs))) False
   | none=>False
  | _,_,_=>False
 | _,_=>False
def qop (P:Program) (W0:World) (ti:List TEnt) (σ:DSt) (h:Bool) (o:Op) (K:D→Prop):Prop :=
 match o with
 | .move x|.assign x=>opn h (σ.ev x) K
 | .pick c a b=>opn h (σ.ev c) fun c=>match c with
  | .bool g=>match σ.ev a,σ.ev b with
   | .bool x,.bool y=>K (.bool (bif g then x else y))
   | .bool x,.cnd g' (.bool y)=>(h=true→g=false→g'=true)∧K (.bool (bif g then x else y))
   | .cnd g' (.bool x),.bool y=>(h=true→g=true→g'=true)∧K (.bool (bif g then x else y))
   | _,_=>False
  | _=>False
 | .binOp op t x y _=>opn h (σ.ev x) fun x=>opn h (σ.ev y) fun y=>binD ti h op t x y K
 | .unOp op _ x=>opn h (σ.ev x) fun x=>match op,x with
  | .not,.bool b=>K (.bool (!b))
  | .neg,.int k n=>arith h k (0-n) K
  | _,_=>False
 | .load t x=>opn h (σ.ev x) fun x=>loadD ti σ h t x K
 | .fieldAddr t x f=>opn h (σ.ev x) fun x=>fieldAddrD ti t x f K
 | .field t x f=>opn h (σ.ev x) fun x=>fieldD ti t x f K
 | .indexAddr t x ix=>opn h (σ.ev x) fun x=>opn h (σ.ev ix) fun ix=>indexAddrD ti h t x ix K
 | .index t x ix=>opn h (σ.ev x) fun x=>opn h (σ.ev ix) fun ix=>indexD ti h t x ix K
 | .slice t x lo hi mx=>opn h (σ.ev x) fun x=>sliceD ti h σ t x lo hi mx K
 | .convert src dst x=>opn h (σ.ev x) fun x=>convD ti src dst x K
 | .build t ps=>match tget ti t with
  | some e=>match e.zero,e.kind with
   | some z,.struct=>evParts h σ ps.toList fun ds=>buildC e.fields z ds fun cs=>K (.agg cs)
   | _,_=>False
  | none=>False
 | .buildSlice t n ps=>match tget ti t with
  | some e=>match e.kind with
   | .slice el=>match tget ti el with
    | some ee=>evParts h σ ps.toList fun ds=>cond (Nat.beq ds.length n&&Nat.ble (n*ee.sz) 16777216&&Nat.blt 0 ee.sz&&ee.zero.isSome) (rowC ee.sz 0 ds∧K (.sl .full ee.sz (ds.map (·.2)))) False
    | none=>False
   | _=>False
  | none=>False
 | .makeFunc f first captured=>evs h σ first.toList fun fs=>evs h σ captured.toList fun cs=>K (.fn f fs cs)
 | .extract x i=>opn h (σ.ev x) fun x=>match x with
  | .tup ds=>match ds[i]? with
   | some d=>K d
   | none=>False
  | _=>False
 | .call c=>match c.callee,c.args.toList with
  | .builtin .len,[x]=>opn h (σ.ev x) fun x=>match c.argTypes.toList with
   | [t]=>match tget ti t with
    | some e=>match e.kind,x with
     | .str,.str s=>K (.int .i64 s.length)
     | .slice _,.sl _ _ xs=>K (.int .i64 xs.length)
     | .slice _,.nils=>K (.int .i64 0)
     | .slice _,.raw (.slice _ n _)=>K (.int .i64 (n:Nat))
     | _,_=>False
    | none=>False
   | _=>False
  | .builtin .max,[x,y]=>opn h (σ.ev x) fun x=>opn h (σ.ev y) fun y=>match x,y with
   | .int k a,.int _ b=>K (.int k (if b>a then b else a))
   | _,_=>False
  | .builtin .min,[x,y]=>opn h (σ.ev x) fun x=>opn h (σ.ev y) fun y=>match x,y with
   | .int k a,.int _ b=>K (.int k (if b<a then b else a))
   | _,_=>False
  | .value f,args=>opn h (σ.ev f) fun f=>match f with
   | .fn (.func fid) first caps=>evs h σ args fun as0=>∃ as0' d,(h=true→DFun P W0 fid as0' d)∧LeL (first++as0++caps) as0'∧K d
   | _=>False
  | _,_=>False
 | .nilCheck x=>opn h (σ.ev x) fun x=>match x with
  | .box s b o=>K (.box s b o)
  | .elm k xs i o=>K (.elm k xs i o)
  | _=>False
 | _=>False
def Op.isQuiet:Op→Bool
 | .move _|.assign _|.pick ..|.binOp ..|.unOp ..|.load ..|.fieldAddr ..|.field ..|.indexAddr ..|.index ..|.slice ..|.convert ..|.build ..|.buildSlice ..
 | .makeFunc ..|.extract ..|.nilCheck _=>true
 | .call c=>match c.callee with
  | .builtin .len|.builtin .max|.builtin .min|.value _=>true
  | _=>false
 | _=>false
def appendD (ti:List TEnt) (σ:DSt) (dst:Nat) (t:Nat) (s x:D) (K:DSt→Prop):Prop :=
 match tget ti t with
 | none=>False
 | some e=>match e.kind with
  | .slice el=>match tget ti el with
   | none=>False
   | some ee =>
    let go (σ:DSt) (xs:List D):Prop:=match x with
     | .sl _ k' ys=>cond (Nat.beq k' ee.sz&&Nat.blt 0 ee.sz) ((xs.length+ys.length)*ee.bytes≤140737488355328∧xs.length+ys.length≤9223372036854775807∧ee.zero≠none ∧
       ∀ v:Value,K ((σ.setH dst (some (.own v (xs.length+ys.length) ee.sz el))).put (some dst) (.sl (.own dst v) ee.sz (xs++ys)))) False
     | _=>False
    match s with
    | .nils=>go σ []
    | .sl .full k xs=>cond (Nat.beq k ee.sz) (go σ xs) False
    | .sl (.own q v) k xs=>match σ.H q with
     | some (.own v' n' k' e')=>cond (Nat.beq k ee.sz&&Nat.beq k' ee.sz&&Nat.beq e' el) (v=v'∧n'=xs.length∧go (σ.setH q none) xs) False
     | _=>False
    | _=>False
  | _=>False
def vstep (P:Program) (W0:World) (ti:List TEnt) (σ:DSt) (dst:Option Tmp) (op:Op) (K:DSt→Prop):Prop :=
 match op with
 | .move x|.assign x=>force (σ.ev x) fun d=>K (σ.put dst d)
 | .alloc e=>match tget ti e,dst with
  | some te,some s=>match te.zero with
   | some z=>∀ b:Nat,K ((σ.setH s (some (.box b z))).put (some s) (.box s b 0))
   | none=>False
  | _,_=>False
 | .box e x=>match tget ti e,dst with
  | some te,some s=>match te.agg with
   | true=>match σ.ev x with
    | .agg cs=>∀ b:Nat,K ((σ.setH s (some (.box b cs))).put (some s) (.box s b 0))
    | _=>False
   | false=>cond (σ.ev x).one (∀ b:Nat,K ((σ.setH s (some (.box b [σ.ev x]))).put (some s) (.box s b 0))) False
  | _,_=>False
 | .store t a x=>match tget ti t,σ.ev a with
  | some e,.box s b off=>match σ.H s with
   | some (.box b' cs)=>b=b'∧storeC e off cs (σ.ev x) fun cs'=>K ((σ.setH s (some (.box b cs'))).put dst .undef)
   | _=>False
  | _,_=>False
 | .call c=>match c.callee,c.args.toList,c.argTypes.toList,dst with
  | .builtin .append,[s,x],[t,t'],some dst=>cond (Nat.beq t t') (appendD ti σ dst t (σ.ev s) (σ.ev x) K) False
  | _,_,_,_=>qop P W0 ti σ true (.call c) fun d=>K (σ.put dst d)
 | op=>qop P W0 ti σ true op fun d=>K (σ.put dst d)
def vlist (P:Program) (W0:World) (ti:List TEnt) (nt:Nat) (ops:Array Oper):List Oper→DSt→(DSt→Prop)→Prop
 | [],σ,K=>K σ
 | ⟨dst,op,_,_,_,guard⟩::rest,σ,K=>cond (okDst nt dst) (match guard with
  | none=>vstep P W0 ti σ dst op fun σ'=>vlist P W0 ti nt ops rest σ' K
  | some (j,want)=>match (ops[j]?).bind (·.dst) with
   | none=>False
   | some g=>match σ.t g with
    | .bool b=>match want with
     | true=>qop P W0 ti σ b op fun d=>vlist P W0 ti nt ops rest (σ.put dst (.cnd b d)) K
     | false=>qop P W0 ti σ (!b) op fun d=>vlist P W0 ti nt ops rest (σ.put dst (.cnd (!b) d)) K
    | .cnd c (.bool b)=>match want with
     | true=>qop P W0 ti σ (c&&b) op fun d=>vlist P W0 ti nt ops rest (σ.put dst (.cnd (c&&b) d)) K
     | false=>qop P W0 ti σ (c&&!b) op fun d=>vlist P W0 ti nt ops rest (σ.put dst (.cnd (c&&!b) d)) K
    | _=>False) False
variable {P:Program}
def zeroB:List D→List Value→Bool
 | [],[]=>true
 | d::ds,v::vs=>(match d,v with
  | .int k n,.int k' n'=>decide (k=k')&&n==n'
  | .bool b,.bool b'=>b==b'
  | .str [],.string s=>s.data.toList.isEmpty
  | .nils,.slice none 0 0=>true
  | .raw .nilFunc,.nilFunc=>true
  | .raw (.pointer none),.pointer none=>true
  | .raw (.map none),.map none=>true
  | .raw .nilIface,.nilIface=>true
  | _,_=>false)&&zeroB ds vs
 | _,_=>false
theorem RepL.nil (w:World) (C:Nat→Nat):RepL w C [] []:=⟨rfl,fun i d v h=>by simp at h⟩
theorem RepL.cons {w:World} {C:Nat→Nat} {d:D} {v:Value} {ds:List D} {vs:List Value} (h:Rep w C d v) (hr:RepL w C ds vs):RepL w C (d::ds) (v::vs) :=
 ⟨by simp [hr.1],fun i d' v' h1 h2=>by
  cases i with
  | zero=>simp at h1 h2; subst h1; subst h2; exact h
  | succ i=>exact hr.2 i d' v' (by simpa using h1) (by simpa using h2)⟩
theorem RepL.head {w:World} {C:Nat→Nat} {d:D} {v:Value} {ds:List D} {vs:List Value} (h:RepL w C (d::ds) (v::vs)):Rep w C d v:=h.2 0 d v rfl rfl
theorem RepL.tail {w:World} {C:Nat→Nat} {d:D} {v:Value} {ds:List D} {vs:List Value} (h:RepL w C (d::ds) (v::vs)):RepL w C ds vs :=
 ⟨by simpa using h.1,fun i d' v' h1 h2=>h.2 (i+1) d' v' (by simpa using h1) (by simpa using h2)⟩
theorem zeroB_sound:∀ {z:List D} {vs:List Value},zeroB z vs=true→∀ w C,RepL w C z vs
 | [],[],_,w,C=>.nil w C
 | d::ds,v::vs,h,w,C=>by
  simp only [zeroB,Bool.and_eq_true] at h;refine .cons ?_ (zeroB_sound h.2 w C)
  have h1:=h.1
  split at h1
  ·simp only [Bool.and_eq_true,decide_eq_true_eq,beq_iff_eq] at h1; obtain ⟨rfl,rfl⟩:=h1; exact .int _ _
  ·simp only [beq_iff_eq] at h1; subst h1; exact .bool _
  ·rename_i s
   obtain ⟨⟨l⟩⟩:=s
   have:l=[]:=by simpa using h1
   subst this; exact .str []
  ·exact .nils
  ·exact .raw _
  ·exact .raw _
  ·exact .raw _
  ·exact .raw _
  cases h1
 | [],_::_,h,_,_=>by simp [zeroB] at h
 | _::_,[],h,_,_=>by simp [zeroB] at h
def aggB (P:Program) (t:TypeId):Option Bool :=
 match P.underlying t with
 | some (.struct _)|some (.array _ _)=>some true
 | some _=>some false
 | none=>none
def fieldsB (P:Program):List Field→List (Nat×Nat×Bool)→Bool
 | [],[]=>true
 | f :: fs, (o, sz, ag) :: r => Nat.beq f.offset o && (match P.info? f.type with | some i => Nat.beq i.size sz | none => false) && (aggB P f.type == some ag) && f.name != "_" && fieldsB P fs r
 | _,_=>false
def kindIs (P:Program) (t:TypeId) (k:TK):Bool :=
 match k,P.underlying t with
 | .int k,some (.int k')=>decide (k=k')
 | .bool,some .bool=>true
 | .str,some .string=>true
 | _,_=>false
def eqsB (P:Program):List Field→List TK→Nat→Bool
 | [],[],_=>true
 | f :: fs, k :: ks, n => Nat.beq f.offset n && kindIs P f.type k && f.name != "_" && eqsB P fs ks (n + 1)
 | _,_,_=>false
def kindB (P:Program) (e:TEnt):Bool :=
 match e.kind,P.underlying e.t with
 | .int k,some (.int k')=>decide (k=k')&&!e.agg
 | .bool,some .bool=>!e.agg
 | .str,some .string=>!e.agg
 | .slice el,some (.slice el')=>Nat.beq el el'&&!e.agg
 | .struct,some (.struct fs)=>e.agg&&fieldsB P fs.toList e.fields&&!P.stoodInHeld e.t&&!P.eqGuardType P.depth e.t&&(e.eqs.isEmpty||eqsB P fs.toList e.eqs 0)
 | .array n el,some (.array n' el')=>Nat.beq n n'&&Nat.beq el el'&&e.agg
 | .other,some (.struct _)|.other,some (.array _ _)|.other,none=>false
 | .other,some _=>!e.agg
 | _,_=>false
def TEnt.okB (P:Program) (e:TEnt):Bool :=
 (match P.info? e.t with
 | some i=>Nat.beq i.size e.sz&&Nat.beq i.bytes e.bytes&&(match e.zero with|none=>true|some z=>(match i.zero with|some v=>zeroB z v.cells.toList&&Nat.beq z.length e.sz|none=>false))
 | none=>false)&&kindB P e
structure TEnt.Ok (P:Program) (e:TEnt):Prop where
 info:∃ i,P.info? e.t=some i∧i.size=e.sz∧i.bytes=e.bytes∧∀ z,e.zero=some z→∃ v,i.zero=some v∧z.length=e.sz∧∀ w C,RepL w C z v.cells.toList
 kind:kindB P e=true
theorem TEnt.ok_of {e:TEnt} (h:e.okB P=true):e.Ok P:=by
 unfold TEnt.okB at h
 rw [Bool.and_eq_true] at h;refine ⟨?_,h.2⟩
 have h1:=h.1
 split at h1
 ·rename_i i hi
  simp only [Bool.and_eq_true] at h1;obtain ⟨⟨h2,h3⟩,h4⟩:=h1;refine ⟨i,hi,beq_true h2,beq_true h3,fun z hz=>?_⟩;rw [hz] at h4;simp only at h4
  split at h4
  ·rename_i v hv
   rw [Bool.and_eq_true] at h4;exact ⟨v,hv,beq_true h4.2,zeroB_sound h4.1⟩
  cases h4
 cases h1
def TOk (P:Program) (ti:List TEnt):Prop:=∀ e∈ti,e.Ok P
theorem TOk.of {ti:List TEnt} (h:ti.all (TEnt.okB P)=true):TOk P ti:=fun e he=>TEnt.ok_of (List.all_eq_true.1 h e he)
theorem tget_mem:∀ {ti:List TEnt} {t:Nat} {e:TEnt},tget ti t=some e→e∈ti∧e.t=t
 | [],_,_,h=>by simp [tget] at h
 | x::r,t,e,h=>by
  simp only [tget] at h
  cases hb:Nat.beq x.t t with
  | true=>rw [hb] at h; simp at h; subst h; exact ⟨List.mem_cons_self,beq_true hb⟩
  | false=>rw [hb] at h; have:=tget_mem (ti:=r) (by simpa using h); exact ⟨List.mem_cons_of_mem _ this.1,this.2⟩
theorem TOk.get {ti:List TEnt} (h:TOk P ti) {t:Nat} {e:TEnt} (he:tget ti t=some e):e.Ok P∧e.t=t:=by
 have:=tget_mem he; exact ⟨h e this.1,this.2⟩
section kinds
variable {e:TEnt} (h:e.Ok P)
include h
theorem TEnt.Ok.size (w:World):(sizeOf e.t).run P w=.ok e.sz w:=by
 obtain ⟨i,hi,hs,_⟩:=h.info
 simp [sizeOf,typeInfo,hi,hs]
theorem TEnt.Ok.cellsOf:P.cellsOf e.t=e.sz:=by
 obtain ⟨i,hi,hs,_⟩:=h.info
 simp [Program.cellsOf,hi,hs]
theorem TEnt.Ok.u_int {k:IntKind} (hk:e.kind=.int k):P.underlying e.t=some (.int k):=by
 have:=h.kind; unfold kindB at this; rw [hk] at this; split at this<;>simp_all
theorem TEnt.Ok.u_str (hk:e.kind=.str):P.underlying e.t=some .string:=by
 have:=h.kind; unfold kindB at this; rw [hk] at this; split at this<;>simp_all
theorem TEnt.Ok.u_bool (hk:e.kind=.bool):P.underlying e.t=some .bool:=by
 have:=h.kind; unfold kindB at this; rw [hk] at this; split at this<;>simp_all
theorem TEnt.Ok.u_slice {el:Nat} (hk:e.kind=.slice el):P.underlying e.t=some (.slice el):=by
 have:=h.kind; unfold kindB at this; rw [hk] at this
 split at this<;>simp_all
theorem TEnt.Ok.u_struct (hk:e.kind=.struct):∃ fs,P.underlying e.t=some (.struct fs)∧fieldsB P fs.toList e.fields=true∧e.agg=true∧P.stoodInHeld e.t=false∧P.eqGuardType P.depth e.t=false∧(e.eqs=[]∨eqsB P fs.toList e.eqs 0=true):=by
 have:=h.kind; unfold kindB at this; rw [hk] at this
 split at this<;>simp_all
theorem TEnt.Ok.isAgg (w:World):(isAgg e.t).run P w=.ok e.agg w:=by
 have:=h.kind; unfold kindB at this
 unfold Go.isAgg
 simp only [Sem.run_bind]
 split at this
 all_goals first
  | (rename_i hu; simp [run_underlying hu]; simp_all; done)
  | (simp at this; done)
  | skip
end kinds
variable {P:Program} {W0:World}
theorem addr_add (b o n:Nat):(⟨b,o,none⟩:Addr).add n=⟨b,o+n,none⟩:=by
 unfold Addr.add; split
 ·rename_i h; subst h; rfl
 rfl
theorem opn_elim {h:Bool} {d:D} {k:D→Prop} (hh:opn h d k):∃ d',k d'∧(h=true→∀ w C v,Rep w C d v→Rep w C d' v):=by
 unfold opn at hh
 split at hh
 ·rename_i g d'
  refine ⟨d',(force_iff _ _).1 hh.2,fun ht w C v hr=>?_⟩
  have hg:=hh.1 ht
  subst hg
  cases hr with
  | cndT _ _ h=>exact h
 exact ⟨_,(force_iff _ _).1 hh,fun _ _ _ _ hr=>hr⟩
theorem flat_get {k:Nat}:∀ {xs:List D} (_:∀ x∈xs,x.cells.length=k) {i:Nat} {x:D} (_:xs[i]? = some x) {j:Nat} (_:j<k),(flat xs)[i*k+j]? = x.cells[j]?
 | [],_,i,x,hx,j,_=>by simp at hx
 | y::ys,hk,i,x,hx,j,hj=>by
  have hy:y.cells.length=k:=hk y List.mem_cons_self
  simp only [flat,List.flatMap_cons]
  cases i with
  | zero =>
   simp at hx; subst hx
   rw [Nat.zero_mul,Nat.zero_add,List.getElem?_append_left (by omega)]
  | succ i =>
   have hx':ys[i]? = some x:=by simpa using hx
   have ih:=flat_get (xs:=ys) (fun z hz=>hk z (List.mem_cons_of_mem _ hz)) hx' hj
   rw [List.getElem?_append_right (by rw [hy,Nat.succ_mul]; omega),hy,Nat.succ_mul]
   rw [show i*k+k+j-k=i*k+j from by omega];exact ih
theorem Rep.sl_inv {w:World} {C:Nat→Nat} {t:Tag} {k:Nat} {xs:List D} {v:Value} (h:Rep w C (.sl t k xs) v) :
  (xs=[]∧(∃ a,v=.slice a 0 0)∧t.Ok v) ∨
  ∃ (b o cap:Nat) (g:Nat→Value),v=.slice (some ⟨b,o,none⟩) xs.length cap∧t.Ok v∧b<w.heap.size∧xs.length≤cap∧cap≤maxLen∧(∀ x∈xs,x.cells.length=k)∧o+xs.length*k≤C b ∧
   (∀ (j:Nat) d,(flat xs)[j]? = some d→w.cell? ⟨b,o+j,none⟩=some (g j))∧(∀ (j:Nat) d,(flat xs)[j]? = some d→(g j).oneCell'=true)∧(∀ (j:Nat) d,(flat xs)[j]? = some d→Rep w C d (g j)):=by
 cases h with
 | sl0 t k a ht=>exact .inl ⟨rfl,⟨a,rfl⟩,ht⟩
 | sl t k xs b o cap g ht hb hc hm hk hC hcell hone h=>exact .inr ⟨b,o,cap,g,rfl,ht,hb,hc,hm,hk,hC,hcell,hone,h⟩
def QOut (P:Program) (d:D) (w:World) (C:Nat→Nat):Result Next→Prop
 | .ok (.value v) w'=>∃ C',Rep w' C' d v∧Step (fun _=>False) w C w' C'
 | .ok (.enter f args) w'=>w'=w∧Calls P f args w fun e w''=>∃ v C'',e=.returned v∧Rep w'' C'' d v∧Step (fun _=>False) w C w'' C''
 | _=>False
theorem QOut.same {d:D} {w:World} {C:Nat→Nat} {v:Value} (h:Rep w C d v):QOut P d w C (.ok (.value v) w):=⟨C,h,.refl _ _ _⟩
theorem kEq_eq {k k':IntKind} (h:kEq k k'=true):k=k':=by cases k<;>cases k'<;>first|rfl|cases h
theorem wrap_id {k:IntKind} {n:Int} (h:InR k n):k.wrap n=n:=by
 cases k<;>simp only [InR] at h<;>simp [IntKind.wrap,IntKind.bits,IntKind.signed]<;>omega
theorem arith_elim {h:Bool} {k:IntKind} {n:Int} {K:D→Prop} (hh:arith h k n K):∃ m,K (.int k m)∧(h=true→m=k.wrap n):=by
 rcases hh with ⟨h1,h2⟩|h2
 ·exact ⟨n,h2,fun ht=>(wrap_id (h1 ht)).symm⟩
 exact ⟨_,h2,fun _=>rfl⟩
theorem bif_true {c:Bool} {p:Prop} (h:cond c p False):c=true∧p:=by
 cases c
 ·exact h.elim
 exact ⟨rfl,h⟩
theorem run_eqGuard_plain (op:BinOp) (t:TypeId) (x y:Operand) (a b:Value) (w:World) (ha:∀ cs,a≠.agg cs) (hn:a≠.nilIface) :
  (eqGuard op t x y a b).run P w=.ok () w:=by
 unfold eqGuard
 cases a<;>cases b<;>first|(exact absurd rfl hn)|(exact absurd rfl (ha _))|(cases op<;>simp)
theorem bytes_append (a b:List UInt8):((⟨⟨a⟩⟩:ByteArray)++⟨⟨b⟩⟩)=⟨⟨a++b⟩⟩:=by
 apply ByteArray.ext
 simp
section intBin
variable {h:Bool} {op:BinOp} {k k':IntKind} {a b:Int} {K:D→Prop}
theorem intBin_sound (hq:intBin h op k k' a b K):∃ d,K d∧(h=true→∃ v,(∀ t w,(binOp op t (.int k a) (.int k' b)).run P w=.ok v w)∧∀ w C,Rep w C d v):=by
 cases op<;>simp only [intBin] at hq
 case shl=>obtain ⟨h1,h2⟩:=hq; exact ⟨_,h2,fun ht=>⟨_,fun t w=>by simp [binOp,Op.shift,Int.not_lt.2 (h1 ht)],fun _ _=>.int _ _⟩⟩
 case shr=>obtain ⟨h1,h2⟩:=hq; exact ⟨_,h2,fun ht=>⟨_,fun t w=>by simp [binOp,Op.shift,Int.not_lt.2 (h1 ht)],fun _ _=>.int _ _⟩⟩
 all_goals (replace hq:=bif_true hq; obtain ⟨hk,hq⟩:=hq; obtain rfl:=kEq_eq hk)
 case add=>obtain ⟨m,h1,h2⟩:=arith_elim hq; exact ⟨_,h1,fun ht=>⟨_,fun t w=>by simp [binOp,Op.intArith,← h2 ht],fun _ _=>.int _ _⟩⟩
 case sub=>obtain ⟨m,h1,h2⟩:=arith_elim hq; exact ⟨_,h1,fun ht=>⟨_,fun t w=>by simp [binOp,Op.intArith,← h2 ht],fun _ _=>.int _ _⟩⟩
 case mul=>obtain ⟨m,h1,h2⟩:=arith_elim hq; exact ⟨_,h1,fun ht=>⟨_,fun t w=>by simp [binOp,Op.intArith,← h2 ht],fun _ _=>.int _ _⟩⟩
 case quo=>obtain ⟨m,h1,h2⟩:=arith_elim hq.2; exact ⟨_,h1,fun ht=>⟨_,fun t w=>by simp [binOp,Op.intDiv,← h2 ht,hq.1 ht],fun _ _=>.int _ _⟩⟩
 case rem=>exact ⟨_,hq.2,fun ht=>⟨_,fun t w=>by simp [binOp,Op.intDiv,hq.1 ht],fun _ _=>.int _ _⟩⟩
 case and=>exact ⟨_,hq,fun _=>⟨_,fun t w=>by simp [binOp,Op.intBits,bitI],fun _ _=>.int _ _⟩⟩
 case or=>exact ⟨_,hq,fun _=>⟨_,fun t w=>by simp [binOp,Op.intBits,bitI],fun _ _=>.int _ _⟩⟩
 case xor=>exact ⟨_,hq,fun _=>⟨_,fun t w=>by simp [binOp,Op.intBits,bitI],fun _ _=>.int _ _⟩⟩
 case andNot=>exact ⟨_,hq,fun _=>⟨_,fun t w=>by simp [binOp,Op.intBits,bitI],fun _ _=>.int _ _⟩⟩
 all_goals exact ⟨_,hq,fun _=>⟨.bool _,fun t w=>by simp [binOp,Op.intCmp],fun _ _=>.bool _⟩⟩
end intBin
theorem strBin_sound {h:Bool} {op:BinOp} {a b:List UInt8} {K:D→Prop} (hq:strBin h op a b K) :
  ∃ d,K d∧(h=true→∃ v,(∀ t w,(binOp op t (.string ⟨⟨a⟩⟩) (.string ⟨⟨b⟩⟩)).run P w=.ok v w)∧∀ w C,Rep w C d v):=by
 cases op<;>simp only [strBin] at hq
 case add =>
  refine ⟨_,hq.2,fun ht=>⟨_,fun t w=>?_,fun _ _=>.str _⟩⟩
  have h1:=hq.1 ht
  have h2:¬ (IntKind.i64.max<(((⟨⟨a⟩⟩:ByteArray).size+(⟨⟨b⟩⟩:ByteArray).size:Nat):Int)):=by
   simp only [IntKind.max,IntKind.signed,IntKind.bits,ByteArray.size,List.size_toArray]
   push_cast
   simp
   omega
  simp only [binOp,Op.stringOp,gt_iff_lt,if_neg h2,bytes_append]
  rfl
 all_goals first
  | exact False.elim hq
  | exact ⟨_,hq,fun _=>⟨.bool _,fun t w=>by simp [binOp,Op.stringOp,ByteArray.toList_eq],fun _ _=>.bool _⟩⟩
theorem aggB_run {t:TypeId} {b:Bool} (h:aggB P t=some b) (w:World):(isAgg t).run P w=.ok b w:=by
 unfold aggB at h
 unfold Go.isAgg
 cases hd:P.underlying t with
 | none=>simp [hd] at h
 | some d=>simp only [Sem.run_bind,run_underlying hd,Result.andThen_ok]; cases d<;>simp_all
theorem fieldsB_get:∀ {fs:List Field} {r:List (Nat×Nat×Bool)} (_:fieldsB P fs r=true) {i:Nat} {o sz:Nat} {ag:Bool} (_:r[i]? = some (o,sz,ag)),
  ∃ f, fs[i]? = some f ∧ f.offset = o ∧ (∃ inf, P.info? f.type = some inf ∧ inf.size = sz) ∧ aggB P f.type = some ag ∧ f.name ≠ "_"
 | [],[],_,i,o,sz,ag,hr=>by simp at hr
 | f::fs,(o',sz',ag')::r,h,i,o,sz,ag,hr=>by
  simp only [fieldsB,Bool.and_eq_true] at h;obtain ⟨⟨⟨⟨h1,h2⟩,h3⟩,h4⟩,h5⟩:=h
  cases i with
  | zero =>
   simp at hr
   obtain ⟨rfl,rfl,rfl⟩:=hr;refine ⟨f,rfl,beq_true h1,?_,by simpa using h3,by simpa using h4⟩
   split at h2
   ·rename_i inf hi; exact ⟨inf,hi,beq_true h2⟩
   cases h2
  | succ i=>exact fieldsB_get h5 (i:=i) (by simpa using hr)
 | [],_::_,h,_,_,_,_,_=>by simp [fieldsB] at h
 | _::_,[],h,_,_,_,_,_=>by simp [fieldsB] at h
theorem run_sizeOf {t:TypeId} {i:TypeInfo} (h:P.info? t=some i) (w:World):(sizeOf t).run P w=.ok i.size w:=by
 simp [sizeOf,typeInfo,h]
theorem run_loadCells_row (w:World) (b o n:Nat) (vs:List Value) (hl:vs.length=n) (h:∀ (j:Nat) v,vs[j]? = some v→w.cell? ⟨b,o+j,none⟩=some v) :
  (loadCells ⟨b,o,none⟩ n).run P w=.ok ⟨vs⟩ w:=by
 subst hl
 exact run_loadCells_list w ⟨b,o,none⟩ vs (fun j v hv=>by rw [addr_add]; exact h j v hv)
theorem run_loadVar_agg {e:TEnt} (he:e.Ok P) (hag:e.agg=true) (w:World) (b o:Nat) (vs:List Value) (hl:vs.length=e.sz) (h:∀ (j:Nat) v,vs[j]? = some v→w.cell? ⟨b,o+j,none⟩=some v) :
  (Instr.loadAt e.t (.pointer (some ⟨b,o,none⟩))).run P w=.ok (.agg ⟨vs⟩) w:=by
 simp only [Instr.loadAt,Instr.sureAddr,Sem.run_bind,Sem.run_pure,Result.andThen_ok,loadVar,he.isAgg,hag,if_true,he.size,run_loadCells_row (P:=P) w b o e.sz vs hl h]
theorem run_loadVar_one {e:TEnt} (he:e.Ok P) (hag:e.agg=false) (w:World) (b o:Nat) (v:Value) (h:w.cell? ⟨b,o,none⟩=some v) :
  (Instr.loadAt e.t (.pointer (some ⟨b,o,none⟩))).run P w=.ok v w:=by
 simp only [Instr.loadAt,Instr.sureAddr,Sem.run_bind,Sem.run_pure,Result.andThen_ok,loadVar,he.isAgg,hag,Bool.false_eq_true,if_false,run_load,h]
theorem getElem?_of_lt {α:Type} {l:List α} {i:Nat} (h:i<l.length):∃ x,l[i]? = some x:=⟨l[i],List.getElem?_eq_getElem h⟩
theorem rowPart {w:World} {C:Nat→Nat} {b o:Nat} {cs:List D} {f:Nat→Value} (hc:∀ (j:Nat) d,cs[j]? = some d→w.cell? ⟨b,o+j,none⟩=some (f j)∧Rep w C d (f j))
  {off sz:Nat} (hle:off+sz≤cs.length) :
  let vs:=(List.range sz).map fun j=>f (off+j)
  vs.length=sz∧(∀ (j:Nat) v,vs[j]? = some v→w.cell? ⟨b,o+off+j,none⟩=some v)∧Rep w C (.agg ((cs.drop off).take sz)) (.agg ⟨vs⟩):=by
 refine ⟨by simp,fun j v hv=>?_,.agg _ _ (by simp; omega) fun i d v hd hv=>?_⟩
 ·simp only [List.getElem?_map,Option.map_eq_some_iff] at hv;obtain ⟨j',hj',rfl⟩:=hv
  have hj:j<sz:=by
   rcases Nat.lt_or_ge j sz with h|h
   ·exact h
   rw [List.getElem?_eq_none (by simpa using h)] at hj'; cases hj'
  rw [List.getElem?_range hj] at hj'
  obtain rfl:j=j':=by simpa using hj'
  obtain ⟨d,hd⟩:=getElem?_of_lt (l:=cs) (i:=off+j) (by omega)
  have:=(hc (off+j) d hd).1
  rw [← this,Nat.add_assoc]
 simp only [List.getElem?_map,Option.map_eq_some_iff] at hv;obtain ⟨j',hj',rfl⟩:=hv
 have hj:i<sz:=by
  rcases Nat.lt_or_ge i sz with h|h
  ·exact h
  rw [List.getElem?_eq_none (by simpa using h)] at hj'; cases hj'
 rw [List.getElem?_range hj] at hj'
 obtain rfl:i=j':=by simpa using hj'
 have hd':cs[off+i]? = some d:=by
  rw [List.getElem?_take,if_pos hj,List.getElem?_drop] at hd;exact hd
 exact (hc (off+i) d hd').2
theorem partC_sound {e:TEnt} (he:e.Ok P) {off:Nat} {cs:List D} {K:D→Prop} (hq:partC e off cs K) :
  ∃ d,K d∧∀ (w:World) (C:Nat→Nat) (b o:Nat) (f:Nat→Value),(∀ (j:Nat) d,cs[j]? = some d→w.cell? ⟨b,o+j,none⟩=some (f j)∧Rep w C d (f j)) →
   ∃ v,(Instr.loadAt e.t (.pointer (some ⟨b,o+off,none⟩))).run P w=.ok v w∧Rep w C d v:=by
 unfold partC at hq
 cases hag:e.agg with
 | true =>
  rw [hag] at hq;simp only at hq
  have key:∀ n,off+e.sz≤n→n=cs.length→∀ (w:World) (C:Nat→Nat) (b o:Nat) (f:Nat→Value),(∀ (j:Nat) d,cs[j]? = some d→w.cell? ⟨b,o+j,none⟩=some (f j)∧Rep w C d (f j)) →
    ∃ v,(Instr.loadAt e.t (.pointer (some ⟨b,o+off,none⟩))).run P w=.ok v w∧Rep w C (.agg ((cs.drop off).take e.sz)) v:=by
   intro n hn hl w C b o f hc;subst hl
   have h3:=rowPart hc hn
   exact ⟨_,run_loadVar_agg he hag w b (o+off) _ h3.1 h3.2.1,h3.2.2⟩
  cases hb:(Nat.beq off 0&&Nat.beq e.sz cs.length) with
  | true =>
   rw [hb] at hq;rw [Bool.and_eq_true] at hb
   have h0:=beq_true hb.1
   have h1:=beq_true hb.2
   subst h0;refine ⟨_,hq,fun w C b o f hc=>?_⟩;obtain ⟨v,hv,hr⟩:=key cs.length (by omega) rfl w C b o f hc;refine ⟨v,hv,?_⟩;rw [h1,List.drop_zero,List.take_length] at hr;exact hr
  | false =>
   rw [hb] at hq;obtain ⟨hle,hq⟩:=bif_true hq;exact ⟨_,hq,fun w C b o f hc=>key cs.length (Nat.le_of_ble_eq_true hle) rfl w C b o f hc⟩
 | false =>
  rw [hag] at hq;simp only at hq
  split at hq
  ·rename_i d hd
   exact ⟨d,hq,fun w C b o f hc=>⟨_,run_loadVar_one he hag w b (o+off) _ (hc off d hd).1,(hc off d hd).2⟩⟩
  exact False.elim hq
theorem loadX_sound {e:TEnt} (he:e.Ok P) {k off:Nat} {x:D} {K:D→Prop} (hq:loadX e k off x K) :
  ∃ d,K d∧∀ (w:World) (C:Nat→Nat) (b o:Nat) (f:Nat→Value),x.cells.length=k →
   (∀ (j:Nat) d,x.cells[j]? = some d→w.cell? ⟨b,o+j,none⟩=some (f j)∧Rep w C d (f j)) →
   ∃ v,(Instr.loadAt e.t (.pointer (some ⟨b,o+off,none⟩))).run P w=.ok v w∧Rep w C d v:=by
 unfold loadX at hq
 split at hq
 ·rename_i cs
  cases hag:e.agg with
  | true =>
   rw [hag] at hq;simp only at hq
   cases hb:(Nat.beq off 0&&Nat.beq e.sz k) with
   | true =>
    rw [hb] at hq;rw [Bool.and_eq_true] at hb
    have h0:=beq_true hb.1
    have h1:=beq_true hb.2
    subst h0;refine ⟨_,hq,fun w C b o f hl hc=>?_⟩;simp only [D.cells] at hl hc
    have h3:=rowPart (off:=0) (sz:=e.sz) hc (by omega)
    refine ⟨_,run_loadVar_agg he hag w b (o+0) _ h3.1 h3.2.1,?_⟩
    have h4:=h3.2.2
    rw [h1,← hl,List.drop_zero,List.take_length] at h4;rw [h1,← hl];exact h4
   | false =>
    rw [hb] at hq;obtain ⟨hle,hq⟩:=bif_true hq;refine ⟨_,hq,fun w C b o f hl hc=>?_⟩;simp only [D.cells] at hl hc
    have h3:=rowPart (off:=off) (sz:=e.sz) hc (Nat.le_of_ble_eq_true hle)
    exact ⟨_,run_loadVar_agg he hag w b (o+off) _ h3.1 h3.2.1,h3.2.2⟩
  | false =>
   rw [hag] at hq;simp only at hq
   split at hq
   ·rename_i d hd
    refine ⟨d,hq,fun w C b o f hl hc=>?_⟩;simp only [D.cells] at hc;exact ⟨_,run_loadVar_one he hag w b (o+off) _ (hc off d hd).1,(hc off d hd).2⟩
   exact False.elim hq
 rename_i hne
 replace hq:=bif_true hq
 obtain ⟨hb,hq⟩:=hq;rw [Bool.and_eq_true] at hb
 have h0:=beq_true hb.1
 have hag:e.agg=false:=by simpa using hb.2
 have hcells:x.cells=[x]:=by cases x<;>first|rfl|exact absurd rfl (hne _)
 refine ⟨_,hq,fun w C b o f hl hc=>?_⟩;rw [hcells] at hc;subst h0;exact ⟨_,run_loadVar_one he hag w b (o+0) _ (hc 0 x rfl).1,(hc 0 x rfl).2⟩
theorem lt_of_get {α:Type} {l:List α} {i:Nat} {x:α} (h:l[i]? = some x):i<l.length:=by
 rcases Nat.lt_or_ge i l.length with h'|h'
 ·exact h'
 rw [List.getElem?_eq_none h'] at h; cases h
theorem elemCells {w:World} {C:Nat→Nat} {k:Nat} {xs:List D} {b o:Nat} {g:Nat→Value} (hk:∀ x∈xs,x.cells.length=k)
  (hcell:∀ (j:Nat) d,(flat xs)[j]? = some d→w.cell? ⟨b,o+j,none⟩=some (g j)) (h:∀ (j:Nat) d,(flat xs)[j]? = some d→Rep w C d (g j))
  {i:Nat} {y:D} (hy:xs[i]? = some y) (j:Nat) (d:D) (hd:y.cells[j]? = some d) :
  w.cell? ⟨b,o+i*k+j,none⟩=some (g (i*k+j))∧Rep w C d (g (i*k+j)):=by
 have hyk:y.cells.length=k:=hk y (List.mem_of_getElem? hy)
 have hj:j<k:=hyk ▸ lt_of_get hd
 have hf:=flat_get hk hy hj
 rw [hd] at hf
 exact ⟨by rw [Nat.add_assoc]; exact hcell _ _ hf,h _ _ hf⟩
theorem loadD_sound {ti:List TEnt} (hT:TOk P ti) {σ:DSt} {h:Bool} {t:Nat} {x:D} {K:D→Prop} (hq:loadD ti σ h t x K) :
  ∃ d,K d∧(h=true→∀ (w:World) (C:Nat→Nat) (Ft:Nat→Prop) (v:Value),HRel Ft w C σ.H→Rep w C x v →
   ∃ u,(Instr.loadAt t v).run P w=.ok u w∧Rep w C d u):=by
 unfold loadD at hq
 split at hq
 ·exact False.elim hq
 rename_i e he
 obtain ⟨heo,rfl⟩:=hT.get he
 split at hq
 ·rename_i k xs i off
  obtain ⟨y,hy,hq⟩:=hq;obtain ⟨d,hK,hd⟩:=loadX_sound heo hq;refine ⟨d,hK,fun ht w C Ft v _ hr=>?_⟩
  have hy:=hy ht
  cases hr with
  | elm _ _ _ _ b o cap h' =>
   rcases h'.sl_inv with ⟨hx,hv,_⟩|⟨b',o',cap',g,hv,_,_,_,_,hk,_,hcell,_,hrep⟩
   ·subst hx; simp at hy
   simp only [Value.slice.injEq,Option.some.injEq,Addr.mk.injEq] at hv;obtain ⟨⟨rfl,rfl,_⟩,_⟩:=hv;exact hd w C b (o+i*k) (fun j=>g (i*k+j)) (hk y (List.mem_of_getElem? hy)) (fun j d hd=>elemCells hk hcell hrep hy j d hd)
 ·rename_i s b off
  split at hq
  ·rename_i b' cs hH
   obtain ⟨rfl,hq⟩:=hq;obtain ⟨d,hK,hd⟩:=partC_sound heo hq;refine ⟨d,hK,fun ht w C Ft v hrel hr=>?_⟩
   cases hr with
   | box _ _ _ =>
    obtain ⟨vs,el,hb,hrl,_⟩:=hrel.obj s _ hH
    have:=hd w C b 0 (fun j=>vs.getD j undef) (fun j d hd=>by
     have hj:=lt_of_get hd
     rw [hrl.1] at hj
     have hv:vs[j]? = some vs[j]:=List.getElem?_eq_getElem hj
     have hv':vs.getD j undef=vs[j]:=by simp [List.getD,hv]
     refine ⟨?_,?_⟩
     ·simp only [World.cell?,hb,Nat.zero_add,hv']
      simp [hj]
     rw [hv']; exact hrl.2 j d _ hd hv)
    simpa using this
  exact False.elim hq
 exact False.elim hq
theorem fieldAddrD_sound {ti:List TEnt} (hT:TOk P ti) {t:Nat} {x:D} {f:Nat} {K:D→Prop} (hq:fieldAddrD ti t x f K) :
  ∃ d,K d∧∀ (w:World) (C:Nat→Nat) (v:Value),Rep w C x v→∃ u,(Instr.fieldAt t v f).run P w=.ok u w∧Rep w C d u:=by
 unfold fieldAddrD at hq
 split at hq
 ·exact False.elim hq
 rename_i e he
 obtain ⟨heo,rfl⟩:=hT.get he
 split at hq
 ·rename_i o sz ag hks hf
  cases hsz:Nat.beq sz 0 with
  | true=>rw [hsz] at hq; exact False.elim hq
  | false =>
   rw [hsz] at hq
   have hne:sz≠0:=fun h=>by subst h; cases hsz
   simp only [cond_false] at hq;obtain ⟨fs,hfs,hfb,_⟩:=heo.u_struct hks;obtain ⟨fl,hfl,hoff,⟨inf,hinf,hins⟩,_,_⟩:=fieldsB_get hfb hf
   have run:∀ (w:World) (b o':Nat),(Instr.fieldAt e.t (.pointer (some ⟨b,o',none⟩)) f).run P w=.ok (.pointer (some ⟨b,o'+o,none⟩)) w:=by
    intro w b o'
    have hfl':fs[f]? = some fl:=by simpa using hfl
    simp [Instr.fieldAt,run_underlying hfs,hfl',Instr.sureAddr,fieldPlace,run_sizeOf hinf,hins,hne,hoff,addr_add]
   split at hq
   ·rename_i k xs i off
    refine ⟨_,hq,fun w C v hr=>?_⟩
    cases hr with
    | elm _ _ _ _ b o' cap h'=>exact ⟨_,run w b _,by have:=Rep.elm (w:=w) (C:=C) k xs i (off+o) b o' cap h'; rwa [← Nat.add_assoc] at this⟩
   ·rename_i s b off
    refine ⟨_,hq,fun w C v hr=>?_⟩
    cases hr with
    | box _ _ _=>exact ⟨_,run w b _,.box _ _ _⟩
   exact False.elim hq
 exact False.elim hq
theorem fieldD_sound {ti:List TEnt} (hT:TOk P ti) {t:Nat} {x:D} {f:Nat} {K:D→Prop} (hq:fieldD ti t x f K) :
  ∃ d,K d∧∀ (w:World) (C:Nat→Nat) (v:Value),Rep w C x v→∃ u,(Instr.field t v f).run P w=.ok u w∧Rep w C d u:=by
 unfold fieldD at hq
 split at hq
 ·exact False.elim hq
 rename_i e he
 obtain ⟨heo,rfl⟩:=hT.get he
 split at hq
 ·rename_i o sz ag hks hf
  obtain ⟨fs,hfs,hfb,_⟩:=heo.u_struct hks;obtain ⟨fl,hfl,hoff,⟨inf,hinf,hins⟩,hag,_⟩:=fieldsB_get hfb hf
  have hfl':fs[f]? = some fl:=by simpa using hfl
  split at hq
  ·rename_i cs
   cases ag with
   | true =>
    replace hq:=bif_true hq
    obtain ⟨hle,hq⟩:=hq;refine ⟨_,hq,fun w C v hr=>?_⟩
    cases hr with
    | agg _ vs hl h =>
     refine ⟨.agg ((⟨vs⟩:Array Value).extract o (o+sz)),by simp [Instr.field,run_underlying hfs,hfl',part,aggB_run hag,run_sizeOf hinf,hins,hoff,asAgg],?_⟩
     have e1:(⟨vs⟩:Array Value).extract o (o+sz)=⟨(vs.drop o).take sz⟩:=by
      apply Array.ext'; simp [List.extract]
     rw [e1]
     have hle':=Nat.le_of_ble_eq_true hle
     refine .agg _ _ (by simp [hl]) fun i d v hd hv=>?_
     rw [List.getElem?_take] at hd hv
     split at hd
     ·rename_i hi
      rw [if_pos hi] at hv;rw [List.getElem?_drop] at hd hv;exact h _ _ _ hd hv
     cases hd
   | false =>
    simp only at hq
    split at hq
    ·rename_i d hd
     refine ⟨d,hq,fun w C v hr=>?_⟩
     cases hr with
     | agg _ vs hl h =>
      have hlt:o<vs.length:=hl ▸ lt_of_get hd
      have hv:vs[o]? = some vs[o]:=List.getElem?_eq_getElem hlt
      refine ⟨vs[o],?_,h o d _ hd hv⟩
      simp [Instr.field,run_underlying hfs,hfl',part,aggB_run hag,hoff,asAgg,hlt]
    exact False.elim hq
  exact False.elim hq
 exact False.elim hq
theorem indexAddrD_sound {ti:List TEnt} (hT:TOk P ti) {h:Bool} {t:Nat} {x ix:D} {K:D→Prop} (hq:indexAddrD ti h t x ix K) :
  ∃ d,K d∧(h=true→∀ (w:World) (C:Nat→Nat) (v vi:Value),Rep w C x v→Rep w C ix vi→∃ u,(Instr.indexAt t v vi).run P w=.ok u w∧Rep w C d u):=by
 unfold indexAddrD at hq
 split at hq
 ·exact False.elim hq
 rename_i e he
 obtain ⟨heo,rfl⟩:=hT.get he
 split at hq
 ·rename_i el hks
  split at hq
  ·exact False.elim hq
  rename_i ee hee
  obtain ⟨heeo,rfl⟩:=hT.get hee
  split at hq
  ·rename_i tg k xs kk i
   replace hq:=bif_true hq
   obtain ⟨hk,hi,hq⟩:=hq
   have hk:=beq_true hk
   refine ⟨_,hq,fun ht w C v vi hr hri=>?_⟩;obtain ⟨h0,h1⟩:=hi ht
   cases hri
   have hu:=heo.u_slice hks
   rcases hr.untag.sl_inv with ⟨rfl,_,_⟩|⟨b,o,cap,g,rfl,_,hb,hc,hm,hks',hC,hcell,hone,hrep⟩
   ·simp at h1; omega
   refine ⟨.pointer (some ⟨b,o+i.toNat*k,none⟩),?_,?_⟩
   ·simp [Instr.indexAt,asIntOf,run_underlying hu,h0,h1,heeo.size,addr_add,hk]
   have:=Rep.elm (w:=w) (C:=C) k xs i.toNat 0 b o cap (.sl .none k xs b o cap g trivial hb hc hm hks' hC hcell hone hrep)
   simpa using this
  exact False.elim hq
 exact False.elim hq
theorem bytes_get (s:List UInt8) (i:Nat):(⟨⟨s⟩⟩:ByteArray)[i]? = s[i]?:=by
 by_cases h:i<s.length
 ·rw [List.getElem?_eq_getElem h]
  have h':i<(⟨⟨s⟩⟩:ByteArray).size:=h
  rw [getElem?_pos (⟨⟨s⟩⟩:ByteArray) i h']
  rfl
 rw [List.getElem?_eq_none (Nat.le_of_not_lt h)]
 have h':¬ i<(⟨⟨s⟩⟩:ByteArray).size:=h
 rw [getElem?_neg (⟨⟨s⟩⟩:ByteArray) i h']
theorem indexD_sound {ti:List TEnt} (hT:TOk P ti) {h:Bool} {t:Nat} {x ix:D} {K:D→Prop} (hq:indexD ti h t x ix K) :
  ∃ d,K d∧(h=true→∀ (w:World) (C:Nat→Nat) (v vi:Value),Rep w C x v→Rep w C ix vi→∃ u,(Instr.index t v vi).run P w=.ok u w∧Rep w C d u):=by
 unfold indexD at hq
 split at hq
 ·exact False.elim hq
 rename_i e he
 obtain ⟨heo,rfl⟩:=hT.get he
 split at hq
 ·rename_i hks
  split at hq
  ·rename_i s kk i
   obtain ⟨c,hc,hq⟩:=hq;refine ⟨_,hq,fun ht w C v vi hr hri=>?_⟩;obtain ⟨h0,h1⟩:=hc ht
   cases hri; cases hr
   refine ⟨_,?_,.int _ _⟩
   have hu:=heo.u_str hks
   simp [Instr.index,asIntOf,run_underlying hu,h0,bytes_get,h1]
  exact False.elim hq
 exact False.elim hq
theorem flat_append (xs ys:List D):flat (xs++ys)=flat xs++flat ys:=by simp [flat]
theorem flat_sub {k:Nat} {xs:List D} (hk:∀ x∈xs,x.cells.length=k) {l r j:Nat} {d:D} (hl:l≤r) (hr:r≤xs.length)
  (h:(flat ((xs.take r).drop l))[j]? = some d):(flat xs)[l*k+j]? = some d:=by
 have e1:flat xs=flat (xs.take r)++flat (xs.drop r):=by rw [← flat_append,List.take_append_drop]
 have e2:flat (xs.take r)=flat ((xs.take r).take l)++flat ((xs.take r).drop l):=by rw [← flat_append,List.take_append_drop]
 have hlen:(flat ((xs.take r).take l)).length=l*k:=by
  rw [flat_length (k:=k) (fun x hx=>hk x (List.mem_of_mem_take (List.mem_of_mem_take hx)))]
  congr 1
  simp; omega
 have hj:=lt_of_get h
 rw [e1,List.getElem?_append_left,e2,List.getElem?_append_right (by omega),hlen,show l*k+j-l*k=j from by omega]
 ·exact h
 rw [e2,List.length_append,hlen]; omega
theorem bytes_extract (s:List UInt8) (l r:Nat):(⟨⟨s⟩⟩:ByteArray).extract l r=⟨⟨(s.take r).drop l⟩⟩:=by
 apply ByteArray.ext;simp only [ByteArray.data_extract];apply Array.ext'
 simp [List.extract,List.drop_take]
theorem loD_elim {h:Bool} {σ:DSt} {lo:Option Operand} {k:Int→Prop} (hq:loD h σ lo k) :
  ∃ l,k l∧(h=true→∀ (w:World) (C:Nat→Nat) (ρ:Operand→Value),(∀ x,lo=some x→Rep w C (σ.ev x) (ρ x))→(lo.map ρ=none∧l=0)∨∃ kk,lo.map ρ=some (.int kk l)):=by
 unfold loD at hq
 split at hq
 ·exact ⟨0,hq,fun _ _ _ _ _=>.inl ⟨rfl,rfl⟩⟩
 rename_i x
 obtain ⟨d,hd,hr⟩:=opn_elim hq
 split at hd
 ·rename_i kk i
  refine ⟨i,hd,fun ht w C ρ hρ=>.inr ⟨kk,?_⟩⟩
  simp [(hr ht w C _ (hρ x rfl)).int_inv]
 exact False.elim hd
theorem hiD_elim {h:Bool} {σ:DSt} {hi:Option Operand} {n:Int} {k:Int→Prop} (hq:hiD h σ hi n k) :
  ∃ l,k l∧(h=true→∀ (w:World) (C:Nat→Nat) (ρ:Operand→Value),(∀ x,hi=some x→Rep w C (σ.ev x) (ρ x))→(hi.map ρ=none∧l=n)∨∃ kk,hi.map ρ=some (.int kk l)):=by
 unfold hiD at hq
 split at hq
 ·exact ⟨n,hq,fun _ _ _ _ _=>.inl ⟨rfl,rfl⟩⟩
 rename_i x
 obtain ⟨d,hd,hr⟩:=opn_elim hq
 split at hd
 ·rename_i kk i
  refine ⟨i,hd,fun ht w C ρ hρ=>.inr ⟨kk,?_⟩⟩
  simp [(hr ht w C _ (hρ x rfl)).int_inv]
 exact False.elim hd
theorem run_sliceBounds {isS:Bool} {len cap:Nat} {lo hi:Option Value} {l r:Int} (hl:(lo=none∧l=0)∨∃ kk,lo=some (.int kk l)) (hr:(hi=none∧r=(len:Int))∨∃ kk,hi=some (.int kk r))
  (h0:0≤l) (h1:l≤r) (h2:r≤(cap:Int)) (w:World):(Instr.sliceBounds isS len cap lo hi none).run P w=.ok (l.toNat,r.toNat,cap) w:=by
 have h3:0≤r:=by omega
 rcases hl with ⟨rfl,rfl⟩|⟨kl,rfl⟩<;>rcases hr with ⟨rfl,rfl⟩|⟨kh,rfl⟩ <;>
  simp [Instr.sliceBounds,run_sliceBound,h0,h1,h2,h3,Int.toNat_of_nonneg h3]
theorem run_sliceBounds_max {isS:Bool} {len cap:Nat} {lo hi:Option Value} {l r:Int} {km:IntKind} (hl:(lo=none∧l=0)∨∃ kk,lo=some (.int kk l)) (hr:∃ kk,hi=some (.int kk r))
  (h0:0≤l) (h1:l≤r) (h2:r≤(cap:Int)) (w:World):(Instr.sliceBounds isS len cap lo hi (some (.int km r))).run P w=.ok (l.toNat,r.toNat,r.toNat) w:=by
 have h3:0≤r:=by omega
 obtain ⟨kh,rfl⟩:=hr
 rcases hl with ⟨rfl,rfl⟩|⟨kl,rfl⟩ <;>
  simp [Instr.sliceBounds,run_sliceBound,h0,h1,h2,h3,Int.toNat_of_nonneg h3]
theorem rep_sub {w:World} {C:Nat→Nat} {tg tg':Tag} {k:Nat} {xs:List D} {a:Option Addr} {n cap:Nat} (hr:Rep w C (.sl tg k xs) (.slice a n cap)) {l r m:Nat} (hl:l≤r) (hrr:r≤xs.length)
  (hm:r≤m) (hmc:m≤cap) (htg:∀ a',tg'.Ok (.slice a' (r-l) (m-l))) :
  Rep w C (.sl tg' k ((xs.take r).drop l)) (.slice (if m=l then a else a.map (·.add (l*k))) (r-l) (m-l)):=by
 have hxl:((xs.take r).drop l).length=r-l:=by simp; omega
 rcases hr.sl_inv with ⟨rfl,⟨a0,hv⟩,_⟩|⟨b,o,cap',g,hv,_,hb,hc,hcm,hk,hC,hcell,hone,hrep⟩
 ·simp only [Value.slice.injEq] at hv;obtain ⟨rfl,rfl,rfl⟩:=hv
  obtain rfl:r=0:=by simpa using hrr
  obtain rfl:m=0:=by omega
  obtain rfl:l=0:=by omega
  have:=htg a
  simpa using Rep.sl0 (w:=w) (C:=C) tg' k a this
 simp only [Value.slice.injEq] at hv;obtain ⟨rfl,rfl,rfl⟩:=hv
 have hk':∀ x∈(xs.take r).drop l,x.cells.length=k:=fun x hx=>hk x (List.mem_of_mem_take (List.mem_of_mem_drop hx))
 by_cases hml:m=l
 ·subst hml
  obtain rfl:r=m:=by omega
  have hnil:(xs.take r).drop r=[]:=List.drop_eq_nil_of_le (by simp; omega)
  have hmul:0≤xs.length*k:=Nat.zero_le _
  have:=Rep.sl (w:=w) (C:=C) tg' k [] b o 0 (fun _=>undef) (by simpa using htg (some ⟨b,o,none⟩)) hb (Nat.le_refl _) (Nat.zero_le _) (fun x hx=>by cases hx) (by simp; omega) (fun j d hd=>by simp [flat] at hd) (fun j d hd=>by simp [flat] at hd) (fun j d hd=>by simp [flat] at hd)
  rw [hnil]
  simpa using this
 rw [if_neg hml]
 have hCle:o+l*k+((xs.take r).drop l).length*k≤C b:=by
  rw [hxl]
  have:l*k+(r-l)*k≤xs.length*k:=by rw [← Nat.add_mul]; exact Nat.mul_le_mul_right _ (by omega)
  omega
 have:=Rep.sl (w:=w) (C:=C) tg' k ((xs.take r).drop l) b (o+l*k) (m-l) (fun j=>g (l*k+j)) (by rw [hxl]; exact htg _) hb (by rw [hxl]; omega) (by omega) hk' hCle
  (fun j d hd=>by rw [Nat.add_assoc]; exact hcell _ _ (flat_sub hk hl hrr hd)) (fun j d hd=>hone _ _ (flat_sub hk hl hrr hd)) (fun j d hd=>hrep _ _ (flat_sub hk hl hrr hd))
 rw [hxl] at this
 simpa [addr_add] using this
theorem sliceD_sound {ti:List TEnt} (hT:TOk P ti) {h:Bool} {σ:DSt} {t:Nat} {x:D} {lo hi mx:Option Operand} {K:D→Prop} (hq:sliceD ti h σ t x lo hi mx K) :
  ∃ d,K d∧(h=true→∀ (w:World) (C:Nat→Nat) (v:Value) (ρ:Operand→Value),Rep w C x v→(∀ y,lo=some y→Rep w C (σ.ev y) (ρ y))→(∀ y,hi=some y→Rep w C (σ.ev y) (ρ y)) →
   (∀ y,mx=some y→Rep w C (σ.ev y) (ρ y))→∃ u,(Instr.sliceAt t v (lo.map ρ) (hi.map ρ) (mx.map ρ)).run P w=.ok u w∧Rep w C d u):=by
 unfold sliceD at hq
 split at hq
 ·exact False.elim hq
 rename_i e he
 obtain ⟨heo,rfl⟩:=hT.get he
 split at hq
 ·rename_i hks
  have hu:=heo.u_str hks
  split at hq
  ·rename_i s
   obtain ⟨l,hq,hlo⟩:=loD_elim hq;obtain ⟨r,hq,hhi⟩:=hiD_elim hq
   split at hq
   ·obtain ⟨hb,hq⟩:=hq;refine ⟨_,hq,fun ht w C v ρ hr h1 h2 h3=>?_⟩;obtain ⟨b1,b2,b3⟩:=hb ht
    cases hr
    refine ⟨_,?_,.str _⟩
    have hs:(⟨⟨s⟩⟩:ByteArray).size=s.length:=rfl
    have hhi':=hhi ht w C ρ h2
    have:=run_sliceBounds (P:=P) (isS:=false) (len:=(⟨⟨s⟩⟩:ByteArray).size) (cap:=(⟨⟨s⟩⟩:ByteArray).size) (hlo ht w C ρ h1) hhi' b1 b2 b3 w
    simp [Instr.sliceAt,run_underlying hu,Instr.slice,this,bytes_extract]
   exact False.elim hq
  exact False.elim hq
 ·rename_i el hks
  have hu:=heo.u_slice hks
  split at hq
  ·exact False.elim hq
  rename_i ee hee
  obtain ⟨heeo,rfl⟩:=hT.get hee
  split at hq
  ·rename_i tg k xs
   replace hq:=bif_true hq
   obtain ⟨hk,hq⟩:=hq
   have hk:=beq_true hk
   obtain ⟨l,hq,hlo⟩:=loD_elim hq;obtain ⟨r,hq,hhi⟩:=hiD_elim hq
   cases mx with
   | none =>
    obtain ⟨hb,hq⟩:=hq;refine ⟨_,hq,fun ht w C v ρ hr h1 h2 h3=>?_⟩;obtain ⟨b1,b2,b3⟩:=hb ht
    have hsh:∃ a cap,v=.slice a xs.length cap∧xs.length≤cap:=by
     rcases hr.sl_inv with ⟨rfl,⟨_,hv⟩,_⟩|⟨b,o,cap',g,hv,_,hb,hc,_⟩
     ·exact ⟨_,_,hv,by simp⟩
     exact ⟨_,_,hv,hc⟩
    obtain ⟨a,cap,rfl,hcap⟩:=hsh
    have:=run_sliceBounds (P:=P) (isS:=true) (len:=xs.length) (cap:=cap) (hlo ht w C ρ h1) (hhi ht w C ρ h2) b1 b2 (by omega) w
    have hrep:=rep_sub (tg':=.none) hr (l:=l.toNat) (r:=r.toNat) (m:=cap) (by omega) (by omega) (by omega) (Nat.le_refl _) (fun _=>trivial)
    refine ⟨_,?_,hrep⟩
    simp [Instr.sliceAt,run_underlying hu,Instr.slice,this,heeo.size,hk]
   | some mo =>
    replace hq:=bif_true hq
    obtain ⟨his,hq⟩:=hq;obtain ⟨d,hd,hm⟩:=opn_elim hq
    split at hd
    ·rename_i km mi
     obtain ⟨hb,hq⟩:=hd;refine ⟨_,hq,fun ht w C v ρ hr h1 h2 h3=>?_⟩;obtain ⟨rfl,b1,b2,b3⟩:=hb ht
     have hsh:∃ a cap,v=.slice a xs.length cap∧xs.length≤cap:=by
      rcases hr.sl_inv with ⟨rfl,⟨_,hv⟩,_⟩|⟨b,o,cap',g,hv,_,hb,hc,_⟩
      ·exact ⟨_,_,hv,by simp⟩
      exact ⟨_,_,hv,hc⟩
     obtain ⟨a,cap,rfl,hcap⟩:=hsh
     have hmv:=(hm ht w C _ (h3 mo rfl)).int_inv
     have hhi':∃ kk,hi.map ρ=some (.int kk mi):=by
      rcases hhi ht w C ρ h2 with ⟨hn,_⟩|h
      ·cases hi<;>simp at hn his
      exact h
     have:=run_sliceBounds_max (P:=P) (isS:=true) (len:=xs.length) (cap:=cap) (km:=km) (hlo ht w C ρ h1) hhi' b1 b2 (by omega) w
     have hrep:=rep_sub (tg':=.full) hr (l:=l.toNat) (r:=mi.toNat) (m:=mi.toNat) (by omega) (by omega) (Nat.le_refl _) (by omega) (fun a'=>⟨a',_,rfl⟩)
     refine ⟨_,?_,hrep⟩
     simp [Instr.sliceAt,run_underlying hu,Instr.slice,hmv,this,heeo.size,hk]
    exact False.elim hd
  exact False.elim hq
 exact False.elim hq
theorem evs_elim {h:Bool} {σ:DSt}:∀ {xs:List Operand} {k:List D→Prop} (_:evs h σ xs k),
  ∃ ds,k ds∧(h=true→∀ (w:World) (C:Nat→Nat) (ρ:Operand→Value),(∀ x∈xs,Rep w C (σ.ev x) (ρ x))→RepL w C ds (xs.map ρ))
 | [],k,hq=>⟨[],hq,fun _ w C _ _=>.nil w C⟩
 | x::r,k,hq=>by
  simp only [evs] at hq;obtain ⟨d,hq,hd⟩:=opn_elim hq;obtain ⟨ds,hk,hds⟩:=evs_elim hq;exact ⟨d::ds,hk,fun ht w C ρ hρ=>.cons (hd ht w C _ (hρ x List.mem_cons_self)) (hds ht w C ρ fun y hy=>hρ y (List.mem_cons_of_mem _ hy))⟩
theorem LeL.repL {w:World} {C:Nat→Nat}:∀ {ds ds':List D} {vs:List Value},LeL ds ds'→RepL w C ds vs→RepL w C ds' vs
 | [],[],vs,_,h=>h
 | d::ds,d'::ds',[],_,h=>by have:=h.1; simp at this
 | d::ds,d'::ds',v::vs,hl,h=>.cons (hl.1.le _ _ _ h.head) (hl.2.repL h.tail)
 | [],_::_,_,hl,_=>hl.elim
 | _::_,[],_,hl,_=>hl.elim
theorem RepL.append {w:World} {C:Nat→Nat}:∀ {ds:List D} {vs:List Value} {ds':List D} {vs':List Value},RepL w C ds vs→RepL w C ds' vs'→RepL w C (ds++ds') (vs++vs')
 | [],[],_,_,_,h=>h
 | d::ds,v::vs,_,_,h,h'=>.cons h.head (h.tail.append h')
 | [],_::_,_,_,h,_=>by have:=h.1; simp at this
 | _::_,[],_,_,h,_=>by have:=h.1; simp at this
def upd (C:Nat→Nat) (b n:Nat):Nat→Nat:=fun x=>if x=b then n else C x
theorem upd_same (C:Nat→Nat) (b n:Nat):upd C b n b=n:=by simp [upd]
theorem upd_ne (C:Nat→Nat) {b x:Nat} (n:Nat) (h:x≠b):upd C b n x=C x:=by simp [upd,h]
theorem heap_alloc_lt (w:World) (o:Obj) {k:Nat} (h:k<w.heap.size):(w.alloc o).heap[k]? = w.heap[k]?:=Below.heap_alloc w o k h
theorem heap_alloc_new' (w:World) (o:Obj):(w.alloc o).heap[w.heap.size]? = some o:=by
 show (w.heap.push o)[w.heap.size]? = some o
 simp
theorem Step.alloc (Ft:Nat→Prop) (w:World) (C:Nat→Nat) (o:Obj) (n:Nat):Step Ft w C (w.alloc o) (upd C w.heap.size n) :=
 ⟨⟨by simp,fun b hb=>by rw [upd_ne _ _ (Nat.ne_of_lt hb)]; exact Nat.le_refl _,fun b o' hb _=>World.cell?_alloc_lt w o ⟨b,o',none⟩ hb⟩,rfl,rfl,rfl,
  fun b hb _=>⟨heap_alloc_lt w o hb,upd_ne _ _ (Nat.ne_of_lt hb)⟩⟩
theorem Step.drew (Ft:Nat→Prop) (w:World) (C:Nat→Nat):Step Ft w C w.drew C :=
 ⟨⟨Nat.le_refl _,fun _ _=>Nat.le_refl _,fun _ _ _ _=>rfl⟩,rfl,rfl,rfl,fun _ _ _=>⟨rfl,rfl⟩⟩
theorem Rep.one_cells {w:World} {C:Nat→Nat} {d:D} {v:Value} (h:Rep w C d v) (ho:d.one=true):v.cells=#[v]∧v.oneCell'=true:=by
 cases h<;>simp [D.one] at ho<;>try exact ⟨rfl,rfl⟩
 cases v<;>simp [Value.oneCell'] at ho<;>exact ⟨rfl,rfl⟩
theorem setAt_get:∀ (cs:List D) (n:Nat) (d:D) (i:Nat),(setAt cs n d)[i]? = if i=n∧n<cs.length then some d else cs[i]?
 | [],n,d,i=>by simp [setAt]
 | c::r,0,d,i=>by cases i<;>simp [setAt]
 | c::r,n+1,d,i=>by
  cases i with
  | zero=>simp [setAt]
  | succ i=>simp [setAt,setAt_get r n d i]
theorem splice_length {cs ds:List D} {off:Nat} (h:off+ds.length≤cs.length):(splice cs off ds).length=cs.length:=by
 simp [splice]; omega
theorem splice_get {cs ds:List D} {off:Nat} (h:off+ds.length≤cs.length) (i:Nat) :
  (splice cs off ds)[i]? = if off≤i∧i<off+ds.length then ds[i-off]? else cs[i]?:=by
 unfold splice
 by_cases h1:i<off
 ·rw [if_neg (by omega),List.append_assoc,List.getElem?_append_left (by simp; omega),List.getElem?_take,if_pos h1]
 by_cases h2:i<off+ds.length
 ·rw [if_pos ⟨by omega,h2⟩,List.append_assoc,List.getElem?_append_right (by simp; omega),List.getElem?_append_left (by simp; omega)]
  congr 1; simp; omega
 rw [if_neg (by omega),List.getElem?_append_right (by simp; omega),List.getElem?_drop]
 congr 1; simp; omega
theorem RepL.laid {w:World} {C:Nat→Nat} {cs ds:List D} {vs us:List Value} {off:Nat} {r:Array Value} (h:RepL w C cs vs) (h':RepL w C ds us) (hle:off+ds.length≤cs.length)
  (hs:r.size=vs.length) (hr:∀ k,r[k]? = if off≤k∧k<off+us.length∧k<vs.length then us[k-off]? else vs[k]?):RepL w C (splice cs off ds) r.toList:=by
 refine ⟨by rw [splice_length hle,h.1]; simpa using hs.symm,fun i d v hd hv=>?_⟩
 rw [splice_get hle] at hd
 have hv':r[i]? = some v:=by simpa using hv
 rw [hr] at hv'
 have hl:=h.1; have hl':=h'.1
 by_cases hc:off≤i∧i<off+ds.length
 ·rw [if_pos hc] at hd;rw [if_pos ⟨hc.1,by omega,by omega⟩] at hv';exact h'.2 _ _ _ hd hv'
 rw [if_neg hc] at hd;rw [if_neg (by omega)] at hv';exact h.2 _ _ _ hd hv'
theorem setAt_eq_splice {cs:List D} {off:Nat} {d:D} (h:off<cs.length):setAt cs off d=splice cs off [d]:=by
 apply List.ext_getElem?;intro i
 rw [setAt_get,splice_get (by simp; omega)]
 by_cases hi:i=off
 ·subst hi; rw [if_pos ⟨rfl,h⟩,if_pos ⟨Nat.le_refl _,by simp⟩]; simp
 rw [if_neg (by omega),if_neg (by simp; omega)]
theorem fold_laid {w:World} {C:Nat→Nat} {cs ds:List D} {cells:Array Value} {v:Value} {off:Nat} (h:RepL w C cs cells.toList) (h':RepL w C ds v.cells.toList) (hle:off+ds.length≤cs.length) :
  RepL w C (splice cs off ds) (v.cells.zipIdx.foldl (fun cs (c,j)=>cs.setIfInBounds (off+j) c) cells).toList ∧
  (v.cells.zipIdx.foldl (fun cs (c,j)=>cs.setIfInBounds (off+j) c) cells).size=cells.size:=by
 have hf:=Great.foldl_set off v.cells.toList 0 cells
 have e:(v.cells.zipIdx.foldl (fun cs (c,j)=>cs.setIfInBounds (off+j) c) cells)=((v.cells.toList.zipIdx 0).foldl (fun cs (x:Value×Nat)=>cs.setIfInBounds (off+x.2) x.1) cells):=by
  rw [← Array.foldl_toList,Array.toList_zipIdx]
 rw [e];refine ⟨h.laid h' hle (by simpa using hf.1) fun k=>?_,hf.1⟩;rw [hf.2 k]
 simp
theorem buildC_sound {fields:List (Nat×Nat×Bool)}:∀ {ds:List (Nat×D)} {cs:List D} {K:List D→Prop} (_:buildC fields cs ds K),
  ∃ cs',K cs'∧∀ (w:World) (C:Nat→Nat) (cells:Array Value) (vs:List (Nat×Value)) (places:List (Nat×Nat)),RepL w C cs cells.toList →
   vs.map (·.1)=ds.map (·.1)→RepL w C (ds.map (·.2)) (vs.map (·.2))→(∀ (i o sz:Nat) (ag:Bool),fields[i]? = some (o,sz,ag)→places[i]? = some (o,sz)) →
   ∃ cells',Instr.fill (places[·]?) cells vs=some cells'∧RepL w C cs' cells'.toList
 | [],cs,K,hq=>⟨cs,hq,fun w C cells vs places hr hv _ _=>by
   have:vs=[]:=by simpa using hv
   subst this
   exact ⟨cells,rfl,hr⟩⟩
 | (i,d)::r,cs,K,hq=>by
  simp only [buildC] at hq
  split at hq
  ·exact False.elim hq
  rename_i o sz ag hf
  have key:∃ ds',ds'.length=sz∧o+sz≤cs.length∧buildC fields (splice cs o ds') r K∧∀ (w:World) (C:Nat→Nat) (v:Value),Rep w C d v→RepL w C ds' v.cells.toList:=by
   cases ag with
   | true =>
    simp only at hq
    split at hq
    ·rename_i ds'
     replace hq:=bif_true hq
     obtain ⟨hb,hq⟩:=hq;rw [Bool.and_eq_true] at hb;refine ⟨ds',beq_true hb.1,Nat.le_of_ble_eq_true hb.2,hq,fun w C v hr=>?_⟩;obtain ⟨vs,rfl,h⟩:=hr.agg_inv;exact h
    exact False.elim hq
   | false =>
    simp only at hq
    replace hq:=bif_true hq
    obtain ⟨hb,hq⟩:=hq;rw [Bool.and_eq_true,Bool.and_eq_true] at hb
    have hlt:o<cs.length:=Nat.lt_of_lt_of_le (Nat.lt_succ_self _) (Nat.le_of_ble_eq_true hb.1.1)
    have hsz:=beq_true hb.2
    refine ⟨[d],by simp [hsz],by omega,by rw [← setAt_eq_splice hlt]; exact hq,fun w C v hr=>?_⟩
    rw [(hr.one_cells hb.1.2).1];exact .cons hr (.nil _ _)
  obtain ⟨ds',hl,hle,hq,hd⟩:=key;obtain ⟨cs',hK,hrest⟩:=buildC_sound hq;refine ⟨cs',hK,fun w C cells vs places hr hv hvs hp=>?_⟩
  cases vs with
  | nil=>simp at hv
  | cons p vs =>
   obtain ⟨i',v⟩:=p;simp only [List.map_cons,List.cons.injEq] at hv;obtain ⟨rfl,hv'⟩:=hv
   have hdv:=hd w C v hvs.head
   obtain ⟨h1,h2⟩:=fold_laid hr hdv (by rw [hl]; exact hle)
   obtain ⟨cells',h3,h4⟩:=hrest w C _ vs places h1 hv' hvs.tail hp;refine ⟨cells',?_,h4⟩
   unfold Instr.fill
   have hvl:v.cells.size=sz:=by have:=hdv.1; rw [hl] at this; simpa using this.symm
   have hcl:cells.size=cs.length:=by have:=hr.1; simpa using this.symm
   rw [hp _ _ _ _ hf];simp only
   rw [if_neg (by rw [hvl,hcl]; simp; omega)]
   exact h3
theorem evParts_elim {h:Bool} {σ:DSt}:∀ {xs:List (Nat×Operand)} {k:List (Nat×D)→Prop} (_:evParts h σ xs k),
  ∃ ds,k ds∧ds.map (·.1)=xs.map (·.1)∧(h=true→∀ (w:World) (C:Nat→Nat) (ρ:Operand→Value),(∀ x∈xs,Rep w C (σ.ev x.2) (ρ x.2))→RepL w C (ds.map (·.2)) (xs.map fun x=>ρ x.2))
 | [],k,hq=>⟨[],hq,rfl,fun _ w C _ _=>.nil w C⟩
 | (i,x)::r,k,hq=>by
  simp only [evParts] at hq;obtain ⟨d,hq,hd⟩:=opn_elim hq;obtain ⟨ds,hk,h1,hds⟩:=evParts_elim hq;exact ⟨(i,d.untag)::ds,hk,by simp [h1],fun ht w C ρ hρ=>.cons (hd ht w C _ (hρ (i,x) List.mem_cons_self)).untag (hds ht w C ρ fun y hy=>hρ y (List.mem_cons_of_mem _ hy))⟩
theorem fieldsB_places:∀ {fs:List Field} {r:List (Nat×Nat×Bool)} (_:fieldsB P fs r=true),
  fs.mapM (fun f=>(P.info? f.type).map fun i=>(f.offset,i.size))=some (r.map fun x=>(x.1,x.2.1))
 | [],[],_=>rfl
 | f::fs,(o,sz,ag)::r,h=>by
  simp only [fieldsB,Bool.and_eq_true] at h;obtain ⟨⟨⟨⟨h1,h2⟩,h3⟩,h4⟩,h5⟩:=h
  have ih:=fieldsB_places h5
  split at h2
  ·rename_i i hi
   have e1:=beq_true h1
   have e2:=beq_true h2
   simp [hi,ih,e1,e2]
  cases h2
 | [],_::_,h=>by simp [fieldsB] at h
 | _::_,[],h=>by simp [fieldsB] at h
theorem build_sound {e:TEnt} (he:e.Ok P) (hks:e.kind=.struct) {z:List D} (hz:e.zero=some z) {ds:List (Nat×D)} {K:List D→Prop} (hq:buildC e.fields z ds K) :
  ∃ cs,K cs∧∀ (w:World) (C:Nat→Nat) (vs:Array (Nat×Value)),vs.toList.map (·.1)=ds.map (·.1)→RepL w C (ds.map (·.2)) (vs.toList.map (·.2)) →
   ∃ v,(Instr.build e.t vs).run P w=.ok v w∧Rep w C (.agg cs) v:=by
 obtain ⟨cs,hK,h⟩:=buildC_sound hq;refine ⟨cs,hK,fun w C vs h1 h2=>?_⟩;obtain ⟨fs,hfs,hfb,_⟩:=he.u_struct hks;obtain ⟨i,hi,hs,_,hzz⟩:=he.info;obtain ⟨zv,hzv,hzl,hzr⟩:=hzz z hz
 have hpl:=fieldsB_places hfb
 obtain ⟨cells',h3,h4⟩:=h w C zv.cells vs.toList (e.fields.map fun x=>(x.1,x.2.1)) (hzr w C) h1 h2 (fun i o sz ag hf=>by simp [hf]);refine ⟨.agg cells',run_build w e.t vs cells' ?_,.agg _ _ h4.1 h4.2⟩
 unfold Program.built
 rw [hi,hfs];simp only [hzv,hpl]
 simpa using h3
theorem RepL.one {w:World} {C:Nat→Nat} {ds:List D} {vs:List Value} (h:RepL w C ds vs) (ho:ds.all D.one=true):∀ u∈vs,u.oneCell'=true:=by
 intro u hu;obtain ⟨j,hj⟩:=List.mem_iff_getElem?.1 hu
 obtain ⟨d,hd⟩:=getElem?_of_lt (l:=ds) (i:=j) (by rw [h.1]; exact lt_of_get hj)
 exact ((h.2 j d u hd hj).one_cells (List.all_eq_true.1 ho d (List.mem_of_getElem? hd))).2
theorem rowC_keys {k:Nat}:∀ {ds:List (Nat×D)} {n:Nat} (_:rowC k n ds),ds.map (·.1)=List.range' n ds.length ∧
  ∀ w C,∀ x∈ds,∀ v,Rep w C x.2 v→x.2.cells.length=k∧v.cells.size=k∧RepL w C x.2.cells v.cells.toList∧∀ u∈v.cells.toList,u.oneCell'=true
 | [],n,_=>⟨rfl,fun _ _ x hx=>by cases hx⟩
 | (i,d)::r,n,h=>by
  simp only [rowC] at h
  replace h:=bif_true h
  obtain ⟨hb,h⟩:=h;rw [Bool.and_eq_true] at hb;obtain ⟨h1,h2⟩:=rowC_keys h
  have hi:=beq_true hb.1
  subst hi;refine ⟨by simp [h1,List.range'_succ],fun w C x hx v hv=>?_⟩
  rcases List.mem_cons.1 hx with rfl|hx
  ·have h3:=hb.2
   simp only at hv h3 ⊢
   split at h3
   ·rename_i ds
    rw [Bool.and_eq_true] at h3;obtain ⟨vs,rfl,h⟩:=hv.agg_inv
    have hl:=beq_true h3.1
    refine ⟨hl,?_,h,h.one h3.2⟩
    have:=h.1
    simp only [Value.cells,List.size_toArray]
    omega
   rename_i hne
   rw [Bool.and_eq_true] at h3;obtain ⟨h4,h5⟩:=hv.one_cells h3.1
   have hk:=beq_true h3.2
   have hcells:d.cells=[d]:=by cases d<;>first|rfl|exact absurd rfl (hne _)
   rw [hcells,h4];exact ⟨by simp [hk],by simp [hk],.cons hv (.nil _ _),by simpa using h5⟩
  exact h2 w C x hx v hv
theorem flatMap_repL {w:World} {C:Nat→Nat}:∀ {ds:List D} {vs:List Value},ds.length=vs.length→(∀ (i:Nat) d v,ds[i]? = some d→vs[i]? = some v→RepL w C d.cells v.cells.toList) →
  RepL w C (flat ds) (vs.flatMap fun v=>v.cells.toList)
 | [],[],_,_=>.nil _ _
 | d::ds,v::vs,hl,h=>by
  simp only [flat,List.flatMap_cons];exact (h 0 d v rfl rfl).append (flatMap_repL (by simpa using hl) fun i d' v' h1 h2=>h (i+1) d' v' (by simpa using h1) (by simpa using h2))
 | [],_::_,hl,_=>by simp at hl
 | _::_,[],hl,_=>by simp at hl
theorem rep_row {w:World} {C:Nat→Nat} {tg:Tag} {k:Nat} {xs:List D} {vs:List Value} {b:Nat} {e:TypeId} {fz:Nat×Nat} {cap:Nat} (hb:w.heap[b]? = some (.cells ⟨vs⟩ e fz))
  (hk:∀ x∈xs,x.cells.length=k) (hc:xs.length≤cap) (hm:cap≤maxLen) (hC:xs.length*k≤C b)
  (hr:∀ (j:Nat) d,(flat xs)[j]? = some d→∃ v,vs[j]? = some v∧Rep w C d v∧v.oneCell'=true) (htg:tg.Ok (.slice (some ⟨b,0,none⟩) xs.length cap)) :
  Rep w C (.sl tg k xs) (.slice (some ⟨b,0,none⟩) xs.length cap):=by
 refine .sl tg k xs b 0 cap (fun j=>vs.getD j undef) htg (Array.getElem?_eq_some_iff.1 hb).1 hc hm hk (by omega) (fun j d hd=>?_) (fun j d hd=>?_) (fun j d hd=>?_)
 ·obtain ⟨v,hv,_⟩:=hr j d hd;rw [Nat.zero_add]
  simp [World.cell?,hb,List.getD,hv]
 ·obtain ⟨v,hv,_,ho⟩:=hr j d hd
  simpa [List.getD,hv] using ho
 obtain ⟨v,hv,hrv,_⟩:=hr j d hd
 simpa [List.getD,hv] using hrv
theorem flat_ints {k:IntKind}:∀ zs:List Int,flat (zs.map (D.int k))=zs.map (D.int k)
 | []=>rfl
 | z::zs=>by
  have:=flat_ints (k:=k) zs
  simp only [flat,List.map_cons,List.flatMap_cons] at *
  rw [this]; rfl
theorem rep_newRow {w:World} {C:Nat→Nat} {tg:Tag} {k:Nat} {xs:List D} {vs:List Value} {e:TypeId} {cap:Nat} (hk:∀ x∈xs,x.cells.length=k) (hc:xs.length≤cap) (hm:cap≤maxLen)
  (hr:∀ (j:Nat) d,(flat xs)[j]? = some d→∃ v,vs[j]? = some v∧Rep w C d v∧v.oneCell'=true) (htg:tg.Ok (.slice (some ⟨w.heap.size,0,none⟩) xs.length cap)) :
  Rep (w.alloc (.cells ⟨vs⟩ e)) (upd C w.heap.size (xs.length*k)) (.sl tg k xs) (.slice (some ⟨w.heap.size,0,none⟩) xs.length cap) :=
 rep_row (heap_alloc_new' w _) hk hc hm (by simp [upd_same]) (fun j d hd=>by
  obtain ⟨v,hv,hrv,ho⟩:=hr j d hd
  exact ⟨v,hv,hrv.ext (Step.alloc (fun _=>False) w C (.cells ⟨vs⟩ e) (xs.length*k)).ext,ho⟩) htg
theorem runesFrom_go (s:ByteArray):∀ (f i:Nat) (acc:Array Value),(Conv.runesFrom s f i acc).toList=acc.toList++(runeGo s f i).map (Value.int .i32)
 | 0,i,acc=>by simp [Conv.runesFrom,runeGo]
 | f+1,i,acc=>by
  simp only [Conv.runesFrom,runeGo]
  split
  ·rw [runesFrom_go s f]; simp
  simp
theorem runesBytes_eq (zs:List Int):runesBytes zs=⟨⟨runesB zs⟩⟩:=by
 have key:∀ (zs:List Int) (r:ByteArray),zs.foldl (fun r n=>r++Utf8.encode n) r=r++⟨⟨runesB zs⟩⟩:=by
  intro zs
  induction zs with
  | nil=>intro r; apply ByteArray.ext; simp [runesB]
  | cons z zs ih =>
   intro r;rw [List.foldl_cons,ih];apply ByteArray.ext;apply Array.ext'
   simp [runesB]
 rw [runesBytes,key];apply ByteArray.ext
 simp
theorem isI32_eq {k:TK} (h:isI32 k=true):k=.int .i32:=by
 unfold isI32 at h
 split at h
 ·rfl
 cases h
theorem convD_sound {ti:List TEnt} (hT:TOk P ti) {src dst:Nat} {x:D} {K:D→Prop} (hq:convD ti src dst x K) :
  ∃ d,K d∧∀ (w:World) (C:Nat→Nat) (v:Value),Rep w C x v→∃ u w' C',(convert src dst v).run P w=.ok u w'∧Rep w' C' d u∧Step (fun _=>False) w C w' C':=by
 unfold convD at hq
 split at hq
 ·rename_i a b ha hb
  obtain ⟨hao,rfl⟩:=hT.get ha;obtain ⟨hbo,rfl⟩:=hT.get hb
  split at hq
  ·rename_i ks kd kv n hka hkb
   have h1:=hao.u_int hka
   have h2:=hbo.u_int hkb
   have key:∃ m,K (.int kd m)∧m=kd.wrap n:=by
    rcases hq with ⟨h1,h2⟩|h2
    ·exact ⟨n,h2,(wrap_id h1).symm⟩
    exact ⟨_,h2,rfl⟩
   obtain ⟨m,hK,rfl⟩:=key;refine ⟨_,hK,fun w C v hr=>⟨_,w,C,?_,.int _ _,.refl _ _ _⟩⟩;rw [hr.int_inv]
   simp [convert,run_underlying h1,run_underlying h2,Conv.intToInt]
  ·rename_i s hka hkb
   have h1:=hao.u_str hka
   have h2:=hbo.u_str hkb
   refine ⟨_,hq,fun w C v hr=>⟨_,w,C,?_,.str _,.refl _ _ _⟩⟩;rw [hr.str_inv]
   simp [convert,run_underlying h1,run_underlying h2]
  ·rename_i ks kv n hka hkb
   have h1:=hao.u_int hka
   have h2:=hbo.u_str hkb
   refine ⟨_,hq,fun w C v hr=>⟨_,w,C,?_,.str _,.refl _ _ _⟩⟩
   rw [hr.int_inv,run_convert_int_string w a.t b.t kv n (by rw [h1]; rfl) h2]
  ·rename_i el s hka hkb
   split at hq
   ·rename_i ee hee
    obtain ⟨heeo,rfl⟩:=hT.get hee
    replace hq:=bif_true hq
    obtain ⟨hb,hlen,hK⟩:=hq;simp only [Bool.and_eq_true] at hb
    have hki:=isI32_eq hb.1
    refine ⟨_,hK,fun w C v hr=>?_⟩;rw [hr.str_inv]
    have hsz:=size_runesFrom ⟨⟨s⟩⟩ s.length 0 #[]
    have hss:(⟨⟨s⟩⟩:ByteArray).size=s.length:=rfl
    have hrun:=run_runes_of_string (P:=P) w a.t b.t ee.t ⟨⟨s⟩⟩ (hao.u_str hka) (hbo.u_slice hkb) (heeo.u_int hki) (by rw [hss]; simp at hsz; omega)
    rw [hss] at hrun
    have hlist:=runesFrom_go ⟨⟨s⟩⟩ s.length 0 #[]
    have hsize:(Conv.runesFrom ⟨⟨s⟩⟩ s.length 0 #[]).size=(runesI s).length:=by
     rw [← Array.length_toList,hlist]; simp [runesI]
    have hge:=grownCap_ge w (Conv.runesFrom ⟨⟨s⟩⟩ s.length 0 #[]).size 0 ee.t
    refine ⟨_,_,_,hrun,?_,(Step.drew _ w C).trans (Step.alloc _ w.drew C _ ((runesI s).length*1)) (fun _ _ hf=>hf)⟩
    have hrep:=rep_newRow (w:=w.drew) (C:=C) (tg:=.none) (k:=1) (xs:=(runesI s).map (D.int .i32)) (e:=ee.t) (cap:=grownCap w (Conv.runesFrom ⟨⟨s⟩⟩ s.length 0 #[]).size 0 ee.t)
     (vs:=(Conv.runesFrom ⟨⟨s⟩⟩ s.length 0 #[]++Array.replicate (grownCap w (Conv.runesFrom ⟨⟨s⟩⟩ s.length 0 #[]).size 0 ee.t-(Conv.runesFrom ⟨⟨s⟩⟩ s.length 0 #[]).size) (Value.int .i32 0)).toList)
     (fun x hx=>by obtain ⟨n,_,rfl⟩:=List.mem_map.1 hx; rfl) (by simp; omega) (grownCap_le_maxLen _ _ _ _ (by simp at hsz; unfold maxLen; omega))
     (fun j d hd=>by
      rw [flat_ints] at hd;rw [List.getElem?_map,Option.map_eq_some_iff] at hd;obtain ⟨n,hn,rfl⟩:=hd;refine ⟨.int .i32 n,?_,.int _ _,rfl⟩;rw [Array.toList_append,hlist];simp only [List.nil_append]
      rw [List.getElem?_append_left (by have:=(List.getElem?_eq_some_iff.1 hn).1; simpa [runesI] using this)]
      rw [List.getElem?_map]
      have:(runeGo ⟨⟨s⟩⟩ s.length 0)[j]? = some n:=hn
      rw [this]; rfl) trivial
    rw [hsize] at hrep ⊢;simp only [List.length_map] at hrep;exact hrep
   exact False.elim hq
  ·rename_i el tg k xs hka hkb
   split at hq
   ·rename_i ee hee
    obtain ⟨heeo,rfl⟩:=hT.get hee
    replace hq:=bif_true hq
    obtain ⟨hb,zs,rfl,hK⟩:=hq;simp only [Bool.and_eq_true] at hb
    have hki:=isI32_eq hb.1
    obtain rfl:k=1:=beq_true hb.2;refine ⟨_,hK,fun w C v hr=>?_⟩
    rcases hr.sl_inv with ⟨h1,⟨a0,hv⟩,_⟩|⟨b',o,cap,g,hv,_,_,hc,_,hk,_,hcell,_,hrep⟩
    ·have:zs=[]:=by simpa using h1
     subst this;refine ⟨.string ⟨⟨[]⟩⟩,w,C,?_,.str _,.refl _ _ _⟩
     cases a0 with
     | none=>rw [hv,run_convert_runes_nil w a.t b.t ee.t 0 0 (hao.u_slice hka) (heeo.u_int hki) (hbo.u_str hkb)]; rfl
     | some ad =>
      rw [hv,run_convert_runes w a.t b.t ee.t ad 0 0 [] (Nat.le_refl _) (hao.u_slice hka) (heeo.u_int hki) (hbo.u_str hkb) (fun j hj=>by simp at hj)]
      rfl
    refine ⟨_,w,C,?_,.str _,.refl _ _ _⟩
    have hcz:∀ j,j<zs.length→w.cell? (Addr.add ⟨b',o,none⟩ j)=some (.int .i32 (zs.getD j 0)):=fun j hj=>by
     have hd:(flat (zs.map (D.int .i32)))[j]? = some (.int .i32 zs[j]):=by rw [flat_ints]; simp [hj]
     have h1:=hcell j _ hd
     rw [(hrep j _ hd).int_inv] at h1;rw [addr_add,h1]
     simp [List.getD,hj]
    rw [hv,run_convert_runes w a.t b.t ee.t ⟨b',o,none⟩ _ cap zs (by simp) (hao.u_slice hka) (heeo.u_int hki) (hbo.u_str hkb) hcz,runesBytes_eq]
    simp
   exact False.elim hq
  exact False.elim hq
 exact False.elim hq
theorem buildSlice_sound {e ee:TEnt} (he:e.Ok P) (hee:ee.Ok P) (hks:e.kind=.slice ee.t) (hz:ee.zero.isSome=true) (h0:0<ee.sz) {n:Nat} (hn:n*ee.sz≤16777216) {ds:List (Nat×D)} (hdn:ds.length=n)
  (hrow:rowC ee.sz 0 ds) {w:World} {C:Nat→Nat} {vs:List (Nat×Value)} (h1:vs.map (·.1)=ds.map (·.1)) (h2:RepL w C (ds.map (·.2)) (vs.map (·.2))) :
  ∃ v w' C',(Instr.buildSlice e.t n ⟨vs⟩).run P w=.ok v w'∧Rep w' C' (.sl .full ee.sz (ds.map (·.2))) v∧Step (fun _=>False) w C w' C':=by
 obtain ⟨z,hz⟩:=Option.isSome_iff_exists.1 hz;obtain ⟨i,hi,hs,_,hzz⟩:=hee.info;obtain ⟨zv,hzv,hzl,hzr⟩:=hzz z hz;obtain ⟨hkeys,hcells⟩:=rowC_keys hrow
 have hu:=he.u_slice hks
 have hvl:vs.length=n:=by have:=h2.1; simp only [List.length_map] at this; omega
 have hvs:vs=((vs.map (·.2)).zipIdx 0).map fun x=>(x.2,x.1):=by
  apply List.ext_getElem?;intro j
  by_cases hj:j<vs.length
  ·have e1:(vs.map (·.1))[j]? = some j:=by
    rw [h1,hkeys,List.getElem?_range' (by omega)]; simp
   have e2:vs[j]? = some vs[j]:=List.getElem?_eq_getElem hj
   simp only [List.getElem?_map,List.getElem?_zipIdx,e2,Option.map_some] at e1 ⊢
   have e3:vs[j].1=j:=by simpa using e1
   congr 1
   ext
   ·simpa using e3
   rfl
  rw [List.getElem?_eq_none (by omega),List.getElem?_eq_none (by simp; omega)]
 have hsz:∀ (j:Nat) d v,(ds.map (·.2))[j]? = some d→(vs.map (·.2))[j]? = some v→d.cells.length=ee.sz∧v.cells.size=ee.sz∧RepL w C d.cells v.cells.toList∧∀ u∈v.cells.toList,u.oneCell'=true:=by
  intro j d v hd hv
  have hr:=h2.2 j d v hd hv
  simp only [List.getElem?_map,Option.map_eq_some_iff] at hd;obtain ⟨x,hx,rfl⟩:=hd;exact hcells w C x (List.mem_of_getElem? hx) v hr
 have hmem:∀ v∈vs.map (·.2),v.cells.size=ee.sz:=by
  intro v hv;obtain ⟨j,hj⟩:=List.mem_iff_getElem?.1 hv
  obtain ⟨d,hd⟩:=getElem?_of_lt (l:=ds.map (·.2)) (i:=j) (by have:=lt_of_get hj; simp only [List.length_map] at this ⊢; omega)
  exact (hsz j d v hd hj).2.1
 have hfill:=Great.fill_whole h0 (vs.map (·.2)) ((Array.range (n*ee.sz)).map (zv.cells[·%zv.cells.size]!)) hmem (by simp only [List.length_map,hvl,Array.size_map,Array.size_range])
 rw [← hvs] at hfill
 have hrun:(Instr.buildSlice e.t n ⟨vs⟩).run P w=.ok (.slice (some ⟨w.heap.size,0,none⟩) n n) (w.alloc (.cells ((vs.map (·.2)).flatMap fun v=>v.cells.toList).toArray ee.t)):=by
  by_cases hn0:n=0
  ·subst hn0
   have hnil:vs=[]:=List.eq_nil_of_length_eq_zero hvl
   subst hnil
   have hr0:Array.range 0=#[]:=rfl
   simp [hr0,Instr.buildSlice,run_underlying hu,sizeOf,typeInfo,hi,Instr.fill,newRow]
  have hne:¬ n*ee.sz=0:=by
   intro h
   rcases Nat.mul_eq_zero.1 h with h|h<;>omega
  have hns:¬ 16777216<n*ee.sz:=by omega
  simp [Instr.buildSlice,run_underlying hu,sizeOf,typeInfo,zeroValue,hi,hzv,hs,hne,hns,hfill,newRow]
 refine ⟨_,_,_,hrun,?_,Step.alloc _ w C _ (n*ee.sz)⟩
 have hl:(ds.map (·.2)).length=n:=by simpa using hdn
 have hk:∀ x∈ds.map (·.2),x.cells.length=ee.sz:=by
  intro x hx;obtain ⟨j,hj⟩:=List.mem_iff_getElem?.1 hx
  obtain ⟨v,hv⟩:=getElem?_of_lt (l:=vs.map (·.2)) (i:=j) (by have:=lt_of_get hj; simp only [List.length_map] at this ⊢; omega)
  exact (hsz j x v hj hv).1
 have hfl:=flatMap_repL (w:=w) (C:=C) (ds:=ds.map (·.2)) (vs:=vs.map (·.2)) h2.1 (fun i d v hd hv=>(hsz i d v hd hv).2.2.1)
 have:=rep_newRow (w:=w) (C:=C) (tg:=.full) (k:=ee.sz) (xs:=ds.map (·.2)) (vs:=(vs.map (·.2)).flatMap fun v=>v.cells.toList) (e:=ee.t) (cap:=n) hk (by omega)
  (by simp only [maxLen]; have:n≤n*ee.sz:=Nat.le_mul_of_pos_right n h0; omega)
  (fun j d hd=>by
   obtain ⟨v,hv⟩:=getElem?_of_lt (l:=(vs.map (·.2)).flatMap fun v=>v.cells.toList) (i:=j) (by have:=lt_of_get hd; rw [hfl.1] at this; exact this)
   refine ⟨v,hv,hfl.2 j d v hd hv,?_⟩;obtain ⟨u,hu,hvu⟩:=List.mem_flatMap.1 (List.mem_of_getElem? hv);obtain ⟨i,hi⟩:=List.mem_iff_getElem?.1 hu
   obtain ⟨d',hd'⟩:=getElem?_of_lt (l:=ds.map (·.2)) (i:=i) (by have:=lt_of_get hi; simp only [List.length_map] at this ⊢; omega)
   exact (hsz i d' u hd' hi).2.2.2 v hvu) ⟨_,_,by rw [hl]⟩
 rw [hl] at this;exact this
theorem kindIs_spec {t:TypeId} {k:TK} (h:kindIs P t k=true) :
  (∃ q,k=.int q∧P.underlying t=some (.int q))∨(k=.bool∧P.underlying t=some .bool)∨(k=.str∧P.underlying t=some .string):=by
 unfold kindIs at h
 split at h
 ·rename_i q q' hu; simp only [decide_eq_true_eq] at h; subst h; exact .inl ⟨q,rfl,hu⟩
 ·rename_i hu; exact .inr (.inl ⟨rfl,hu⟩)
 ·rename_i hu; exact .inr (.inr ⟨rfl,hu⟩)
 cases h
theorem eqCells_sound:∀ {ks:List TK} {xs ys:List D} {K:Bool→Prop} (_:eqCells ks xs ys K),
  ∃ b,K b∧∀ (d:Nat) (fs:List Field) (n:Nat) (w:World) (C:Nat→Nat) (vx vy:List Value),eqsB P fs ks n=true→RepL w C xs (vx.drop n)→RepL w C ys (vy.drop n) →
   (Op.eqFields (d+1) ⟨vx⟩ ⟨vy⟩ fs).run P w=.ok b w
 | [],[],[],K,hq=>⟨true,hq,fun d fs n w C vx vy hb _ _=>by
   cases fs with
   | nil=>simp [Op.eqFields]
   | cons f fs=>simp [eqsB] at hb⟩
 | k::ks,x::xs,y::ys,K,hq=>by
  simp only [eqCells] at hq
  have key:∃ b,eqCells ks xs ys (fun c=>K (b&&c))∧∀ (d:Nat) (t:TypeId) (w:World) (C:Nat→Nat) (u v:Value),kindIs P t k=true→Rep w C x u→Rep w C y v →
    (Op.equalIn (d+1) t u v).run P w=.ok b w∧aggB P t=some false:=by
   unfold eqCell at hq
   split at hq
   ·rename_i kq k1 a k2 b
    replace hq:=bif_true hq
    obtain ⟨hk,hq⟩:=hq;obtain rfl:=kEq_eq hk;refine ⟨_,hq,fun d t w C u v ht hu hv=>?_⟩
    rcases kindIs_spec ht with ⟨q,hq',hu'⟩|⟨h,_⟩|⟨h,_⟩
    ·rw [hu.int_inv,hv.int_inv];exact ⟨run_equalIn_int w d t k1 q a b hu',by simp [aggB,hu']⟩
    ·cases h
    cases h
   ·rename_i a b
    refine ⟨_,hq,fun d t w C u v ht hu hv=>?_⟩
    rcases kindIs_spec ht with ⟨q,h,_⟩|⟨h,_⟩|⟨_,hu'⟩
    ·cases h
    ·cases h
    rw [hu.str_inv,hv.str_inv];refine ⟨?_,by simp [aggB,hu']⟩
    have:=run_equalIn_string (P:=P) w d t ⟨⟨a⟩⟩ ⟨⟨b⟩⟩ hu'
    rw [ByteArray.toList_eq,ByteArray.toList_eq] at this;exact this
   ·rename_i a b
    refine ⟨_,hq,fun d t w C u v ht hu hv=>?_⟩
    rcases kindIs_spec ht with ⟨q,h,_⟩|⟨_,hu'⟩|⟨h,_⟩
    ·cases h
    ·rw [hu.bool_inv,hv.bool_inv];exact ⟨run_equalIn_bool' w d t a b hu',by simp [aggB,hu']⟩
    cases h
   exact False.elim hq
  obtain ⟨b,hq,hb⟩:=key;obtain ⟨c,hK,hc⟩:=eqCells_sound hq;refine ⟨b&&c,hK,fun d fs n w C vx vy he hx hy=>?_⟩
  cases fs with
  | nil=>simp [eqsB] at he
  | cons f fs =>
   simp only [eqsB,Bool.and_eq_true] at he;obtain ⟨⟨⟨h1,h2⟩,h3⟩,h4⟩:=he
   have hoff:=beq_true h1
   have hlx:n<vx.length:=by have:=hx.1; simp at this; omega
   have hly:n<vy.length:=by have:=hy.1; simp at this; omega
   have hux:vx.drop n=vx[n]::vx.drop (n+1):=List.drop_eq_getElem_cons hlx
   have huy:vy.drop n=vy[n]::vy.drop (n+1):=List.drop_eq_getElem_cons hly
   rw [hux] at hx; rw [huy] at hy
   obtain ⟨h5,h6⟩:=hb d f.type w C _ _ h2 hx.head hy.head
   have h7:=hc d fs (n+1) w C vx vy h4 hx.tail hy.tail
   have hne : f.name ≠ "_" := by simpa using h3
   simp only [Op.eqFields,if_pos hne,Sem.run_bind,part,aggB_run h6,Result.andThen_ok,Bool.false_eq_true,if_false,hoff]
   have g1:(⟨vx⟩:Array Value)[n]? = some vx[n]:=by simp [hlx]
   have g2:(⟨vy⟩:Array Value)[n]? = some vy[n]:=by simp [hly]
   rw [g1,g2];simp only [Sem.run_pure,Result.andThen_ok,h5]
   cases b<;>simp [h7]
 | [],[],_::_,_,hq=>False.elim hq
 | [],_::_,_,_,hq=>False.elim hq
 | _::_,[],_,_,hq=>False.elim hq
 | _::_,_::_,[],_,hq=>False.elim hq
theorem binD_sound {ti:List TEnt} (hT:TOk P ti) {h:Bool} {op:BinOp} {t:Nat} {x y:D} {K:D→Prop} (hq:binD ti h op t x y K) (ox oy:Operand) :
  ∃ d,K d∧(h=true→∀ (w:World) (C:Nat→Nat) (u v:Value),Rep w C x u→Rep w C y v →
   ∃ r,(do eqGuard op t ox oy u v; binOp op t u v:Sem Value).run P w=.ok r w∧Rep w C d r):=by
 unfold binD at hq
 split at hq
 ·rename_i k a k' b
  obtain ⟨d,hK,hd⟩:=intBin_sound (P:=P) hq;refine ⟨d,hK,fun ht w C u v hu hv=>?_⟩;obtain ⟨r,hrun,hr⟩:=hd ht;refine ⟨r,?_,hr w C⟩;rw [hu.int_inv,hv.int_inv];simp only [Sem.run_bind,run_eqGuard_plain op t ox oy (.int k a) (.int k' b) w (fun _ h=>by cases h) (fun h=>by cases h),Result.andThen_ok,hrun]
 ·rename_i a b
  obtain ⟨d,hK,hd⟩:=strBin_sound (P:=P) hq;refine ⟨d,hK,fun ht w C u v hu hv=>?_⟩;obtain ⟨r,hrun,hr⟩:=hd ht;refine ⟨r,?_,hr w C⟩;rw [hu.str_inv,hv.str_inv];simp only [Sem.run_bind,run_eqGuard_plain op t ox oy (.string ⟨⟨a⟩⟩) (.string ⟨⟨b⟩⟩) w (fun _ h=>by cases h) (fun h=>by cases h),Result.andThen_ok,hrun]
 ·rename_i a b
  split at hq
  ·exact False.elim hq
  rename_i e he
  obtain ⟨heo,rfl⟩:=hT.get he
  replace hq:=bif_true hq
  obtain ⟨hb,hq⟩:=hq
  have hks:e.kind=.bool:=by unfold isBool at hb; split at hb<;>simp_all
  have hu:=heo.u_bool hks
  split at hq
  ·refine ⟨_,hq,fun ht w C u v hu' hv=>⟨_,?_,.bool _⟩⟩;rw [hu'.bool_inv,hv.bool_inv];simp only [Sem.run_bind,run_eqGuard_plain _ e.t ox oy (.bool a) (.bool b) w (fun _ h=>by cases h) (fun h=>by cases h),Result.andThen_ok]
   simp [binOp,Op.equal,Op.maxDepth,run_equalIn_bool' w 9999 e.t a b hu]
  ·refine ⟨_,hq,fun ht w C u v hu' hv=>⟨_,?_,.bool _⟩⟩;rw [hu'.bool_inv,hv.bool_inv];simp only [Sem.run_bind,run_eqGuard_plain _ e.t ox oy (.bool a) (.bool b) w (fun _ h=>by cases h) (fun h=>by cases h),Result.andThen_ok]
   simp [binOp,Op.equal,Op.maxDepth,run_equalIn_bool' w 9999 e.t a b hu]
  exact False.elim hq
 ·rename_i xs ys
  split at hq
  ·rename_i e he
   obtain ⟨heo,rfl⟩:=hT.get he
   split at hq
   ·replace hq:=bif_true hq
    obtain ⟨hc,hq⟩:=hq;obtain ⟨b,hK,hb⟩:=eqCells_sound (P:=P) hq;refine ⟨_,hK,fun ht w C u v hu hv=>⟨.bool b,?_,.bool b⟩⟩;obtain ⟨vx,rfl,hx⟩:=hu.agg_inv;obtain ⟨vy,rfl,hy⟩:=hv.agg_inv;rw [Bool.and_eq_true] at hc
    have hks:e.kind=.struct:=by have:=hc.1; unfold isStruct at this; split at this<;>simp_all
    obtain ⟨fs,hfs,_,_,hst,hg,heq⟩:=heo.u_struct hks
    have heq:eqsB P fs.toList e.eqs 0=true:=by
     rcases heq with h|h
     ·have:=hc.2; rw [h] at this; cases this
     exact h
    have hfo:P.underlying e.t=some (.struct (P.fieldsOf e.t)):=by simp [Program.fieldsOf,hfs]
    have hfo':P.fieldsOf e.t=fs:=by simp [Program.fieldsOf,hfs]
    have:=hb 9998 fs.toList 0 w C vx vy heq (by simpa using hx) (by simpa using hy)
    simp only [Sem.run_bind,run_eqGuard_agg w _ e.t ox oy ⟨vx⟩ ⟨vy⟩ hg,Result.andThen_ok,run_eql_struct];rw [show (10000:Nat)=9999+1 from rfl,run_equalIn_struct w 9999 e.t ⟨vx⟩ ⟨vy⟩ hfo hst,hfo',this]
    rfl
   ·replace hq:=bif_true hq
    obtain ⟨hc,hq⟩:=hq;obtain ⟨b,hK,hb⟩:=eqCells_sound (P:=P) hq;refine ⟨_,hK,fun ht w C u v hu hv=>⟨.bool (!b),?_,.bool (!b)⟩⟩;obtain ⟨vx,rfl,hx⟩:=hu.agg_inv;obtain ⟨vy,rfl,hy⟩:=hv.agg_inv;rw [Bool.and_eq_true] at hc
    have hks:e.kind=.struct:=by have:=hc.1; unfold isStruct at this; split at this<;>simp_all
    obtain ⟨fs,hfs,_,_,hst,hg,heq⟩:=heo.u_struct hks
    have heq:eqsB P fs.toList e.eqs 0=true:=by
     rcases heq with h|h
     ·have:=hc.2; rw [h] at this; cases this
     exact h
    have hfo:P.underlying e.t=some (.struct (P.fieldsOf e.t)):=by simp [Program.fieldsOf,hfs]
    have hfo':P.fieldsOf e.t=fs:=by simp [Program.fieldsOf,hfs]
    have:=hb 9998 fs.toList 0 w C vx vy heq (by simpa using hx) (by simpa using hy)
    simp only [Sem.run_bind,run_eqGuard_agg w _ e.t ox oy ⟨vx⟩ ⟨vy⟩ hg,Result.andThen_ok,run_neq_struct];rw [show (10000:Nat)=9999+1 from rfl,run_equalIn_struct w 9999 e.t ⟨vx⟩ ⟨vy⟩ hfo hst,hfo',this]
    rfl
   exact False.elim hq
  exact False.elim hq
 exact False.elim hq
theorem qop_sound {ti:List TEnt} (hT:TOk P ti) {σ:DSt} {h:Bool} {o:Oper} {K:D→Prop} (hq:qop P W0 ti σ h o.op K) :
  ∃ d,K d∧(h=true→∀ (ρ:Operand→Value) (w:World) (C:Nat→Nat) (Ft:Nat→Prop),Base W0 w→HRel Ft w C σ.H→(∀ x∈o.op.operands,Rep w C (σ.ev x) (ρ x)) →
   QOut P d w C ((execOp ρ o).run P w)):=by
 obtain ⟨dst,op,type,pos,after,guard⟩:=o
 cases op<;>simp only [qop] at hq
 case move x =>
  obtain ⟨d,hK,hd⟩:=opn_elim hq;exact ⟨d,hK,fun ht ρ w C Ft _ _ hρ=>QOut.same (hd ht w C _ (hρ x (by simp [Op.operands])))⟩
 case assign x =>
  obtain ⟨d,hK,hd⟩:=opn_elim hq;exact ⟨d,hK,fun ht ρ w C Ft _ _ hρ=>QOut.same (hd ht w C _ (hρ x (by simp [Op.operands])))⟩
 case pick c a b =>
  obtain ⟨dc,hq,hdc⟩:=opn_elim hq
  split at hq
  ·rename_i g
   have run:∀ (ρ:Operand→Value) (w:World),ρ c=.bool g→(execOp ρ ⟨dst,.pick c a b,type,pos,after,guard⟩).run P w=.ok (.value (if g then ρ a else ρ b)) w:=by
    intro ρ w hc; simp [execOp,hc,asBool]
   split at hq
   ·rename_i x y ha hb
    refine ⟨_,hq,fun ht ρ w C Ft _ _ hρ=>?_⟩;rw [run ρ w (hdc ht w C _ (hρ c (by simp [Op.operands]))).bool_inv];refine QOut.same ?_
    have h1:=hρ a (by simp [Op.operands]); rw [ha] at h1
    have h2:=hρ b (by simp [Op.operands]); rw [hb] at h2
    rw [h1.bool_inv,h2.bool_inv]
    cases g<;>exact .bool _
   ·rename_i x g' y ha hb
    obtain ⟨hg,hq⟩:=hq;refine ⟨_,hq,fun ht ρ w C Ft _ _ hρ=>?_⟩;rw [run ρ w (hdc ht w C _ (hρ c (by simp [Op.operands]))).bool_inv];refine QOut.same ?_
    have h1:=hρ a (by simp [Op.operands]); rw [ha] at h1
    have h2:=hρ b (by simp [Op.operands]); rw [hb] at h2
    rw [h1.bool_inv]
    cases g with
    | true=>exact .bool _
    | false =>
     have hg':=hg ht rfl
     subst hg'
     cases h2 with
     | cndT _ _ h2=>simp only [Bool.false_eq_true,if_false]; rw [h2.bool_inv]; exact .bool _
   ·rename_i g' x y ha hb
    obtain ⟨hg,hq⟩:=hq;refine ⟨_,hq,fun ht ρ w C Ft _ _ hρ=>?_⟩;rw [run ρ w (hdc ht w C _ (hρ c (by simp [Op.operands]))).bool_inv];refine QOut.same ?_
    have h1:=hρ a (by simp [Op.operands]); rw [ha] at h1
    have h2:=hρ b (by simp [Op.operands]); rw [hb] at h2
    rw [h2.bool_inv]
    cases g with
    | false=>exact .bool _
    | true =>
     have hg':=hg ht rfl
     subst hg'
     cases h1 with
     | cndT _ _ h1=>simp only [if_true]; rw [h1.bool_inv]; exact .bool _
   exact False.elim hq
  exact False.elim hq
 case binOp op t x y t' =>
  obtain ⟨dx,hq,hdx⟩:=opn_elim hq;obtain ⟨dy,hq,hdy⟩:=opn_elim hq;obtain ⟨d,hK,hd⟩:=binD_sound (P:=P) hT hq x y;refine ⟨d,hK,fun ht ρ w C Ft _ _ hρ=>?_⟩;obtain ⟨r,hr,hrep⟩:=hd ht w C _ _ (hdx ht w C _ (hρ x (by simp [Op.operands]))) (hdy ht w C _ (hρ y (by simp [Op.operands])))
  have:(execOp ρ ⟨dst,.binOp op t x y t',type,pos,after,guard⟩).run P w=.ok (.value r) w:=by
   simp only [execOp]
   rw [Sem.run_bind,hr]; rfl
  rw [this];exact QOut.same hrep
 case unOp op t x =>
  replace hq:=opn_elim hq
  obtain ⟨dx,hq,hdx⟩:=hq
  split at hq
  ·rename_i b
   refine ⟨_,hq,fun ht ρ w C Ft _ _ hρ=>?_⟩
   have h1:=(hdx ht w C _ (hρ x (by simp [Op.operands]))).bool_inv
   have:(execOp ρ ⟨dst,.unOp .not t x,type,pos,after,guard⟩).run P w=.ok (.value (.bool (!b))) w:=by simp [execOp,h1,Op.unary]
   rw [this]; exact QOut.same (.bool _)
  ·rename_i k n
   obtain ⟨m,hK,hm⟩:=arith_elim hq;refine ⟨_,hK,fun ht ρ w C Ft _ _ hρ=>?_⟩
   have h1:=(hdx ht w C _ (hρ x (by simp [Op.operands]))).int_inv
   have:(execOp ρ ⟨dst,.unOp .neg t x,type,pos,after,guard⟩).run P w=.ok (.value (.int k m)) w:=by
    rw [hm ht]
    simp [execOp,h1,Op.unary,Op.intArith]
   rw [this]; exact QOut.same (.int _ _)
  exact False.elim hq
 case load t x =>
  obtain ⟨dx,hq,hdx⟩:=opn_elim hq;obtain ⟨d,hK,hd⟩:=loadD_sound (P:=P) hT hq;refine ⟨d,hK,fun ht ρ w C Ft _ hH hρ=>?_⟩;obtain ⟨u,hu,hr⟩:=hd ht w C Ft _ hH (hdx ht w C _ (hρ x (by simp [Op.operands])))
  have:(execOp ρ ⟨dst,.load t x,type,pos,after,guard⟩).run P w=.ok (.value u) w:=by simp [execOp,hu]
  rw [this]; exact QOut.same hr
 case fieldAddr t x f =>
  obtain ⟨dx,hq,hdx⟩:=opn_elim hq;obtain ⟨d,hK,hd⟩:=fieldAddrD_sound (P:=P) hT hq;refine ⟨d,hK,fun ht ρ w C Ft _ hH hρ=>?_⟩;obtain ⟨u,hu,hr⟩:=hd w C _ (hdx ht w C _ (hρ x (by simp [Op.operands])))
  have:(execOp ρ ⟨dst,.fieldAddr t x f,type,pos,after,guard⟩).run P w=.ok (.value u) w:=by simp [execOp,hu]
  rw [this]; exact QOut.same hr
 case field t x f =>
  obtain ⟨dx,hq,hdx⟩:=opn_elim hq;obtain ⟨d,hK,hd⟩:=fieldD_sound (P:=P) hT hq;refine ⟨d,hK,fun ht ρ w C Ft _ hH hρ=>?_⟩;obtain ⟨u,hu,hr⟩:=hd w C _ (hdx ht w C _ (hρ x (by simp [Op.operands])))
  have:(execOp ρ ⟨dst,.field t x f,type,pos,after,guard⟩).run P w=.ok (.value u) w:=by simp [execOp,hu]
  rw [this]; exact QOut.same hr
 case indexAddr t x ix =>
  obtain ⟨dx,hq,hdx⟩:=opn_elim hq;obtain ⟨di,hq,hdi⟩:=opn_elim hq;obtain ⟨d,hK,hd⟩:=indexAddrD_sound (P:=P) hT hq;refine ⟨d,hK,fun ht ρ w C Ft _ hH hρ=>?_⟩;obtain ⟨u,hu,hr⟩:=hd ht w C _ _ (hdx ht w C _ (hρ x (by simp [Op.operands]))) (hdi ht w C _ (hρ ix (by simp [Op.operands])))
  have:(execOp ρ ⟨dst,.indexAddr t x ix,type,pos,after,guard⟩).run P w=.ok (.value u) w:=by simp [execOp,hu]
  rw [this]; exact QOut.same hr
 case index t x ix =>
  obtain ⟨dx,hq,hdx⟩:=opn_elim hq;obtain ⟨di,hq,hdi⟩:=opn_elim hq;obtain ⟨d,hK,hd⟩:=indexD_sound (P:=P) hT hq;refine ⟨d,hK,fun ht ρ w C Ft _ hH hρ=>?_⟩;obtain ⟨u,hu,hr⟩:=hd ht w C _ _ (hdx ht w C _ (hρ x (by simp [Op.operands]))) (hdi ht w C _ (hρ ix (by simp [Op.operands])))
  have:(execOp ρ ⟨dst,.index t x ix,type,pos,after,guard⟩).run P w=.ok (.value u) w:=by simp [execOp,hu]
  rw [this]; exact QOut.same hr
 case slice t x lo hi mx =>
  obtain ⟨dx,hq,hdx⟩:=opn_elim hq;obtain ⟨d,hK,hd⟩:=sliceD_sound (P:=P) hT hq;refine ⟨d,hK,fun ht ρ w C Ft _ hH hρ=>?_⟩
  obtain ⟨u,hu,hr⟩:=hd ht w C _ ρ (hdx ht w C _ (hρ x (by simp [Op.operands]))) (fun y hy=>hρ y (by subst hy; simp [Op.operands])) (fun y hy=>hρ y (by subst hy; simp [Op.operands])) (fun y hy=>hρ y (by subst hy; simp [Op.operands]))
  have:(execOp ρ ⟨dst,.slice t x lo hi mx,type,pos,after,guard⟩).run P w=.ok (.value u) w:=by simp [execOp,hu]
  rw [this]; exact QOut.same hr
 case convert src dst' x =>
  obtain ⟨dx,hq,hdx⟩:=opn_elim hq;obtain ⟨d,hK,hd⟩:=convD_sound (P:=P) hT hq;refine ⟨d,hK,fun ht ρ w C Ft _ hH hρ=>?_⟩;obtain ⟨u,w',C',hu,hr,hs⟩:=hd w C _ (hdx ht w C _ (hρ x (by simp [Op.operands])))
  have:(execOp ρ ⟨dst,.convert src dst' x,type,pos,after,guard⟩).run P w=.ok (.value u) w':=by simp only [execOp]; rw [Sem.run_bind,hu]; rfl
  rw [this]; exact ⟨C',hr,hs⟩
 case build t ps =>
  split at hq
  ·rename_i e he
   obtain ⟨heo,rfl⟩:=hT.get he
   split at hq
   ·rename_i z hz hks
    obtain ⟨ds,hq,hkeys,hds⟩:=evParts_elim hq;obtain ⟨cs,hK,hcs⟩:=build_sound (P:=P) heo hks hz hq;refine ⟨_,hK,fun ht ρ w C Ft _ hH hρ=>?_⟩
    have h2:=hds ht w C ρ (fun x hx=>hρ x.2 (by simp [Op.operands]; exact ⟨x.1,by simpa using hx⟩))
    obtain ⟨v,hv,hr⟩:=hcs w C (ps.map fun (i,x)=>(i,ρ x)) (by simp [hkeys]) (by simpa [Function.comp_def] using h2)
    have:(execOp ρ ⟨dst,.build e.t ps,type,pos,after,guard⟩).run P w=.ok (.value v) w:=by simp only [execOp]; rw [Sem.run_bind,hv]; rfl
    rw [this]; exact QOut.same hr
   exact False.elim hq
  exact False.elim hq
 case buildSlice t n ps =>
  split at hq
  ·rename_i e he
   obtain ⟨heo,rfl⟩:=hT.get he
   split at hq
   ·rename_i el hks
    split at hq
    ·rename_i ee hee
     obtain ⟨heeo,rfl⟩:=hT.get hee;obtain ⟨ds,hq,hkeys,hds⟩:=evParts_elim hq
     replace hq:=bif_true hq
     obtain ⟨hb,hrow,hK⟩:=hq;simp only [Bool.and_eq_true] at hb;obtain ⟨⟨⟨h1,h2⟩,h3⟩,h4⟩:=hb;refine ⟨_,hK,fun ht ρ w C Ft _ hH hρ=>?_⟩
     have h5:=hds ht w C ρ (fun x hx=>hρ x.2 (by simp [Op.operands]; exact ⟨x.1,by simpa using hx⟩))
     obtain ⟨v,w',C',hv,hr,hs⟩:=buildSlice_sound (P:=P) heo heeo hks h4 (Nat.lt_of_lt_of_le (Nat.lt_succ_self _) (Nat.le_of_ble_eq_true h3)) (Nat.le_of_ble_eq_true h2) (beq_true h1) hrow
      (w:=w) (C:=C) (vs:=(ps.map fun (i,x)=>(i,ρ x)).toList) (by simp [hkeys]) (by simpa [Function.comp_def] using h5)
     have:(execOp ρ ⟨dst,.buildSlice e.t n ps,type,pos,after,guard⟩).run P w=.ok (.value v) w':=by simp only [execOp]; rw [Sem.run_bind,hv]; rfl
     rw [this]; exact ⟨C',hr,hs⟩
    exact False.elim hq
   exact False.elim hq
  exact False.elim hq
 case makeFunc f first captured =>
  obtain ⟨fs,hq,hfs⟩:=evs_elim hq;obtain ⟨cs,hq,hcs⟩:=evs_elim hq;refine ⟨_,hq,fun ht ρ w C Ft _ hH hρ=>?_⟩
  have h1:=hfs ht w C ρ (fun x hx=>hρ x (by simp [Op.operands]; exact .inl (by simpa using hx)))
  have h2:=hcs ht w C ρ (fun x hx=>hρ x (by simp [Op.operands]; exact .inr (by simpa using hx)))
  have:(execOp ρ ⟨dst,.makeFunc f first captured,type,pos,after,guard⟩).run P w=.ok (.value (.func f ⟨first.toList.map ρ⟩ ⟨captured.toList.map ρ⟩)) w:=by
   simp only [execOp,Instr.makeFunc,Sem.run_bind,Sem.run_pure,Result.andThen_ok]
   congr 3
   ·apply Array.ext'; simp
   apply Array.ext'; simp
  rw [this];exact QOut.same (.fn f fs cs _ _ h1.1 h2.1 h1.2 h2.2)
 case extract x i =>
  obtain ⟨dx,hq,hdx⟩:=opn_elim hq
  split at hq
  ·rename_i ds
   split at hq
   ·rename_i d hd
    refine ⟨d,hq,fun ht ρ w C Ft _ hH hρ=>?_⟩;obtain ⟨vs,hv,hr⟩:=(hdx ht w C _ (hρ x (by simp [Op.operands]))).tup_inv
    have hlt:i<vs.length:=hr.1 ▸ lt_of_get hd
    have hg:vs[i]? = some vs[i]:=List.getElem?_eq_getElem hlt
    have:(execOp ρ ⟨dst,.extract x i,type,pos,after,guard⟩).run P w=.ok (.value vs[i]) w:=by simp [execOp,Instr.extract,hv,hlt]
    rw [this];exact QOut.same (hr.2 i d _ hd hg)
   exact False.elim hq
  exact False.elim hq
 case call c =>
  obtain ⟨callee,args,argTypes⟩:=c;simp only at hq
  split at hq
  ·rename_i x hargs
   have hargs':args=#[x]:=by apply Array.ext'; simpa using hargs
   subst hargs'
   replace hq:=opn_elim hq
   obtain ⟨dx,hq,hdx⟩:=hq
   split at hq
   ·rename_i t hat
    have hat':argTypes=#[t]:=by apply Array.ext'; simpa using hat
    subst hat'
    split at hq
    ·rename_i e he
     obtain ⟨heo,rfl⟩:=hT.get he
     split at hq
     ·rename_i s hks
      refine ⟨_,hq,fun ht ρ w C Ft _ hH hρ=>?_⟩
      have h1:=(hdx ht w C _ (hρ x (by simp [Op.operands,Call.operands]))).str_inv
      have hu:=heo.u_str hks
      have:(execOp ρ ⟨dst,.call ⟨.builtin .len,#[x],#[e.t]⟩,type,pos,after,guard⟩).run P w=.ok (.value (.int .i64 s.length)) w:=by
       have hs:(⟨⟨s⟩⟩:ByteArray).size=s.length:=rfl
       simp [execOp,resolve,invoke,builtin,Builtin.len_,run_underlying hu,h1,goInt,hs]
      rw [this]; exact QOut.same (.int _ _)
     ·rename_i el tg k xs hks
      refine ⟨_,hq,fun ht ρ w C Ft _ hH hρ=>?_⟩
      have h1:=(hdx ht w C _ (hρ x (by simp [Op.operands,Call.operands]))).sl_inv
      have h2:∃ a cap,ρ x=.slice a xs.length cap:=by
       rcases h1 with ⟨rfl,⟨_,h⟩,_⟩|⟨b,o,cap,g,h,_⟩
       ·exact ⟨_,_,h⟩
       exact ⟨_,_,h⟩
      obtain ⟨a,cap,h2⟩:=h2
      have hu:=heo.u_slice hks
      have:(execOp ρ ⟨dst,.call ⟨.builtin .len,#[x],#[e.t]⟩,type,pos,after,guard⟩).run P w=.ok (.value (.int .i64 xs.length)) w:=by
       simp [execOp,resolve,invoke,builtin,Builtin.len_,run_underlying hu,h2,goInt]
      rw [this]; exact QOut.same (.int _ _)
     ·rename_i el hks
      refine ⟨_,hq,fun ht ρ w C Ft _ hH hρ=>?_⟩
      have h2:=(hdx ht w C _ (hρ x (by simp [Op.operands,Call.operands]))).nils_inv
      have hu:=heo.u_slice hks
      have:(execOp ρ ⟨dst,.call ⟨.builtin .len,#[x],#[e.t]⟩,type,pos,after,guard⟩).run P w=.ok (.value (.int .i64 0)) w:=by
       simp [execOp,resolve,invoke,builtin,Builtin.len_,run_underlying hu,h2,goInt]
      rw [this]; exact QOut.same (.int _ _)
     ·rename_i el aa n cc hks
      refine ⟨_,hq,fun ht ρ w C Ft _ hH hρ=>?_⟩
      have h2:=(hdx ht w C _ (hρ x (by simp [Op.operands,Call.operands]))).raw_inv
      have hu:=heo.u_slice hks
      have:(execOp ρ ⟨dst,.call ⟨.builtin .len,#[x],#[e.t]⟩,type,pos,after,guard⟩).run P w=.ok (.value (.int .i64 n)) w:=by
       simp [execOp,resolve,invoke,builtin,Builtin.len_,run_underlying hu,h2,goInt]
      rw [this]; exact QOut.same (.int _ _)
     exact False.elim hq
    exact False.elim hq
   exact False.elim hq
  ·rename_i x y hargs
   have hargs':args=#[x,y]:=by apply Array.ext'; simpa using hargs
   subst hargs'
   replace hq:=opn_elim hq
   obtain ⟨dx,hq,hdx⟩:=hq
   replace hq:=opn_elim hq
   obtain ⟨dy,hq,hdy⟩:=hq
   split at hq
   ·rename_i k a k' b
    refine ⟨_,hq,fun ht ρ w C Ft _ hH hρ=>?_⟩
    have h1:=(hdx ht w C _ (hρ x (by simp [Op.operands,Call.operands]))).int_inv
    have h2:=(hdy ht w C _ (hρ y (by simp [Op.operands,Call.operands]))).int_inv
    have:(execOp ρ ⟨dst,.call ⟨.builtin .max,#[x,y],argTypes⟩,type,pos,after,guard⟩).run P w=.ok (.value (.int k (if b>a then b else a))) w:=by
     simp [execOp,resolve,invoke,builtin,Builtin.max_,Builtin.max2,h1,h2]
    rw [this]; exact QOut.same (.int _ _)
   exact False.elim hq
  ·rename_i x y hargs
   have hargs':args=#[x,y]:=by apply Array.ext'; simpa using hargs
   subst hargs'
   replace hq:=opn_elim hq
   obtain ⟨dx,hq,hdx⟩:=hq
   replace hq:=opn_elim hq
   obtain ⟨dy,hq,hdy⟩:=hq
   split at hq
   ·rename_i k a k' b
    refine ⟨_,hq,fun ht ρ w C Ft _ hH hρ=>?_⟩
    have h1:=(hdx ht w C _ (hρ x (by simp [Op.operands,Call.operands]))).int_inv
    have h2:=(hdy ht w C _ (hρ y (by simp [Op.operands,Call.operands]))).int_inv
    have:(execOp ρ ⟨dst,.call ⟨.builtin .min,#[x,y],argTypes⟩,type,pos,after,guard⟩).run P w=.ok (.value (.int k (if b<a then b else a))) w:=by
     simp [execOp,resolve,invoke,builtin,Builtin.min_,Builtin.min2,h1,h2]
    rw [this]; exact QOut.same (.int _ _)
   exact False.elim hq
  ·rename_i f
   replace hq:=opn_elim hq
   obtain ⟨df,hq,hdf⟩:=hq
   split at hq
   ·rename_i fid first caps
    replace hq:=evs_elim hq
    obtain ⟨as0,hq,has⟩:=hq;obtain ⟨as0',d,hf,hle,hK⟩:=hq;refine ⟨d,hK,fun ht ρ w C Ft hbase hH hρ=>?_⟩;obtain ⟨⟨fn,hfn,hbody,hname⟩,hcall⟩:=hf ht;obtain ⟨vf,vc,hv,h1,h2⟩:=(hdf ht w C _ (hρ f (by simp [Op.operands,Call.operands]))).fn_inv
    have h3:=has ht w C ρ (fun x hx=>hρ x (by simp [Op.operands,Call.operands]; exact .inr (by simpa using hx)))
    have h4:=hle.repL ((h1.append h3).append h2)
    have hb:fn.body.isNone=false:=by cases hb:fn.body<;>simp [hb] at hbody ⊢
    have:(execOp ρ ⟨dst,.call ⟨.value f,args,argTypes⟩,type,pos,after,guard⟩).run P w=.ok (.enter fid ⟨vf++args.toList.map ρ++vc⟩) w:=by
     simp only [execOp,resolve,hv,Deferred.ofValue,Sem.run_bind,Sem.run_pure,Result.andThen_ok,invoke,callFunc,run_program,hfn,hname,hb,Bool.false_eq_true,if_false]
     congr 2
     apply Array.ext'; simp
    rw [this];exact ⟨rfl,hcall w C _ hbase h4⟩
   exact False.elim hq
  exact False.elim hq
 case nilCheck x =>
  replace hq:=opn_elim hq
  obtain ⟨dx,hq,hdx⟩:=hq
  split at hq
  ·refine ⟨_,hq,fun ht ρ w C Ft _ hH hρ=>?_⟩
   have hv:=hdx ht w C _ (hρ x (by simp [Op.operands]))
   have:(execOp ρ ⟨dst,.nilCheck x,type,pos,after,guard⟩).run P w=.ok (.value (ρ x)) w:=by
    simp only [execOp,hv.box_inv,Sem.run_pure]
   rw [this]; exact QOut.same hv
  ·refine ⟨_,hq,fun ht ρ w C Ft _ hH hρ=>?_⟩
   have hv:=hdx ht w C _ (hρ x (by simp [Op.operands]))
   have:(execOp ρ ⟨dst,.nilCheck x,type,pos,after,guard⟩).run P w=.ok (.value (ρ x)) w:=by
    obtain ⟨b,o,h⟩:∃ b o,ρ x=.pointer (some ⟨b,o,none⟩):=by
     generalize ρ x=v at hv
     cases hv
     exact ⟨_,_,rfl⟩
    simp only [execOp,h,Sem.run_pure]
   rw [this]; exact QOut.same hv
  exact False.elim hq
 all_goals exact False.elim hq
variable {P:Program} {W0:World} {nt:Nat}
theorem lt_of_heap {w:World} {b:Nat} {o:Obj} (h:w.heap[b]? = some o):b<w.heap.size:=(Array.getElem?_eq_some_iff.1 h).1
theorem ORel.lt {w:World} {C:Nat→Nat} {o:HObj} (h:ORel w C o) {b:Nat} (hu:o.uses b):b<w.heap.size:=by
 cases o with
 | box b' cs =>
  obtain ⟨vs,e,hb,_⟩:=h
  simp only [HObj.uses] at hu; subst hu
  exact lt_of_heap hb
 | own v n k e =>
  obtain ⟨a,cap,hv,hn,_,hw⟩:=h;obtain ⟨o,cap',hv',hlt⟩:=hu;rw [hv] at hv';simp only [Value.slice.injEq] at hv';obtain ⟨rfl,_,rfl⟩:=hv';obtain ⟨b',vs,ha,hb,_⟩:=hw hlt;simp only [Option.some.injEq,Addr.mk.injEq] at ha;obtain ⟨rfl,_,_⟩:=ha;exact lt_of_heap hb
 | row v xs k e =>
  obtain ⟨a,cap,hv,_,_,_,_,hw⟩:=h;obtain ⟨n,cap',hv',hlt⟩:=hu;rw [hv] at hv';simp only [Value.slice.injEq] at hv';obtain ⟨rfl,_,rfl⟩:=hv';obtain ⟨b',vs,ha,hb,_⟩:=hw hlt;simp only [Option.some.injEq,Addr.mk.injEq] at ha;obtain ⟨rfl,_,_⟩:=ha;exact lt_of_heap hb
 | set b' ks =>
  obtain ⟨es,clock,hb,_⟩:=h
  simp only [HObj.uses] at hu; subst hu
  exact lt_of_heap hb
 | obj b' o =>
  simp only [HObj.uses] at hu; subst hu
  exact lt_of_heap h.1
 | mp b' kvs =>
  obtain ⟨es,clock,hb,_⟩:=h
  simp only [HObj.uses] at hu; subst hu
  exact lt_of_heap hb
theorem ORel.keep {w w':World} {C C':Nat→Nat} {o:HObj} (h:ORel w C o) (he:Ext w C w' C') (hk:∀ b,o.uses b→w'.heap[b]? = w.heap[b]?∧C' b=C b):ORel w' C' o:=by
 cases o with
 | box b cs =>
  obtain ⟨vs,e,hb,hr,hc⟩:=h;obtain ⟨h1,h2⟩:=hk b rfl
  exact ⟨vs,e,by rw [h1]; exact hb,hr.ext he,by rw [h2]; exact hc⟩
 | own v n k e =>
  obtain ⟨a,cap,hv,hn,hm,hw⟩:=h;refine ⟨a,cap,hv,hn,hm,fun hlt=>?_⟩;obtain ⟨b,vs,ha,hb,hs,hc⟩:=hw hlt;obtain ⟨h1,h2⟩:=hk b ⟨0,cap,by rw [hv,ha],hlt⟩
  exact ⟨b,vs,ha,by rw [h1]; exact hb,hs,by rw [h2]; exact hc⟩
 | row v xs k e =>
  obtain ⟨a,cap,hv,hn,hm,hx,hbl,hw⟩:=h;refine ⟨a,cap,hv,hn,hm,hx,fun ad had=>(hbl ad had).imp fun b hb=>⟨hb.1,Nat.lt_of_lt_of_le hb.2 he.size⟩,fun hlt=>?_⟩;obtain ⟨b,vs,ha,hb,hs,hc,hr⟩:=hw hlt;obtain ⟨h1,h2⟩:=hk b ⟨xs.length,cap,by rw [hv,ha],hlt⟩
  exact ⟨b,vs,ha,by rw [h1]; exact hb,hs,by rw [h2]; exact hc,fun j d hd=>by obtain ⟨u,h3,h4,h5⟩:=hr j d hd; exact ⟨u,h3,h4.ext he,h5⟩⟩
 | set b ks =>
  obtain ⟨es,clock,hb,hc,h3,h4⟩:=h;obtain ⟨h1,h2⟩:=hk b rfl
  exact ⟨es,clock,by rw [h1]; exact hb,by rw [h2]; exact hc,h3,h4⟩
 | obj b o =>
  obtain ⟨h1,h2⟩:=hk b rfl
  exact ⟨by rw [h1]; exact h.1,by rw [h2]; exact h.2⟩
 | mp b kvs =>
  obtain ⟨es,clock,hb,hc,h3,hn,h4⟩:=h;obtain ⟨h1,h2⟩:=hk b rfl
  exact ⟨es,clock,by rw [h1]; exact hb,by rw [h2]; exact hc,h3,hn,fun i k d e hi he'=>⟨(h4 i k d e hi he').1,(h4 i k d e hi he').2.ext he⟩⟩
theorem HRel.step0 {Ft:Nat→Prop} {w w':World} {C C':Nat→Nat} {H:Heap} (h:HRel Ft w C H) (hs:Step (fun _=>False) w C w' C'):HRel Ft w' C' H :=
 ⟨fun s o ho=>(h.obj s o ho).keep hs.ext fun b hb=>hs.keep b ((h.obj s o ho).lt hb) (fun hf=>hf),h.inj,h.foot⟩
theorem FR.step0 {Γ:Ctx P W0 nt} {w w':World} {C C':Nat→Nat} {σ:DSt} {a:Act} (h:FR Γ w C σ a) (hs:Step (fun _=>False) w C w' C'):FR Γ w' C' σ a :=
 ⟨fun i=>(h.tmps i).ext hs.ext,h.heap.step0 hs,h.size,h.defers,h.step.trans hs fun _ _ hf=>hf.elim⟩
theorem FR.put {Γ:Ctx P W0 nt} {w:World} {C:Nat→Nat} {σ:DSt} {a:Act} (h:FR Γ w C σ a) {dst:Option Tmp} (hd:okDst nt dst=true) {d:D} {v:Value} (hr:Rep w C d v) :
  FR Γ w C (σ.put dst d) (a.put dst v):=by
 cases dst with
 | none=>exact h
 | some t =>
  have hlt:t<a.tmps.size:=by rw [h.size]; exact Nat.lt_of_lt_of_le (Nat.lt_succ_self _) (Nat.le_of_ble_eq_true hd)
  refine ⟨fun i=>?_,h.heap,by simp [Act.put,h.size],h.defers,h.step⟩;simp only [DSt.put,Act.put]
  cases hb:Nat.beq i t with
  | true =>
   have:=beq_true hb; subst this
   simpa [hlt] using hr
  | false =>
   have hne:t≠i:=fun e=>by subst e; have:Nat.beq t t=true:=Nat.beq_refl t; rw [hb] at this; cases this
   have:=h.tmps i
   simp only [cond_false];rw [show (a.tmps.setIfInBounds t v).getD i undef=a.tmps.getD i undef by simp [Array.getElem?_setIfInBounds_ne hne]];exact this
theorem setH_same (σ:DSt) (s:Nat) (o:Option HObj):(σ.setH s o).H s=o:=by
 simp [DSt.setH]
theorem beq_false {a b:Nat} (h:a≠b):Nat.beq a b=false:=by
 cases hb:Nat.beq a b with
 | false=>rfl
 | true=>exact absurd (beq_true hb) h
theorem setH_ne (σ:DSt) {s s':Nat} (o:Option HObj) (h:s'≠s):(σ.setH s o).H s'=σ.H s':=by
 simp [DSt.setH,beq_false h]
theorem FR.setH {Γ:Ctx P W0 nt} {w w':World} {C C':Nat→Nat} {σ:DSt} {a:Act} (h:FR Γ w C σ a) {Ft:Nat→Prop} (hs:Step Ft w C w' C') (hF:∀ b,Ft b→Γ.Foot b)
  {s:Nat} (hoth:∀ s' o b,s'≠s→σ.H s'=some o→o.uses b→¬ Ft b)
  {o:Option HObj} (ho:∀ x,o=some x→ORel w' C' x∧∀ b,x.uses b→Γ.Foot b∧(Ft b∨w.heap.size≤b)):FR Γ w' C' (σ.setH s o) a:=by
 refine ⟨fun i=>(h.tmps i).ext hs.ext,⟨fun s' x hx=>?_,fun s1 s2 x y b hne h1 h2 hu hu'=>?_,fun s' x b hx hu=>?_⟩,h.size,h.defers,?_⟩
 ·by_cases hss:s'=s
  ·subst hss; rw [setH_same] at hx; exact (ho x hx).1
  rw [setH_ne σ o hss] at hx
  exact (h.heap.obj s' x hx).keep hs.ext fun b hb=>hs.keep b ((h.heap.obj s' x hx).lt hb) (hoth s' x b hss hx hb)
 ·by_cases e1:s1=s
  ·subst e1;rw [setH_same] at h1;rw [setH_ne σ o (Ne.symm hne)] at h2
   rcases ((ho x h1).2 b hu).2 with hf|hf
   ·exact hoth s2 y b (Ne.symm hne) h2 hu' hf
   have:=(h.heap.obj s2 y h2).lt hu'; omega
  rw [setH_ne σ o e1] at h1
  by_cases e2:s2=s
  ·subst e2;rw [setH_same] at h2
   rcases ((ho y h2).2 b hu').2 with hf|hf
   ·exact hoth s1 x b e1 h1 hu hf
   have:=(h.heap.obj s1 x h1).lt hu; omega
  rw [setH_ne σ o e2] at h2;exact h.heap.inj s1 s2 x y b hne h1 h2 hu hu'
 ·by_cases hss:s'=s
  ·subst hss; rw [setH_same] at hx; exact ((ho x hx).2 b hu).1
  rw [setH_ne σ o hss] at hx; exact h.heap.foot s' x b hx hu
 refine h.step.trans hs fun b hb hf=>?_
 rcases hF b hf with h1|h1
 ·exact h1
 omega
theorem FR.drop {Γ:Ctx P W0 nt} {w:World} {C:Nat→Nat} {σ:DSt} {a:Act} (h:FR Γ w C σ a) (s:Nat):FR Γ w C (σ.setH s none) a :=
 h.setH (Ft:=fun _=>False) (.refl _ _ _) (fun _ hf=>hf.elim) (fun _ _ _ _ _ _ hf=>hf) (fun x hx=>by cases hx)
theorem FR.foot_new {Γ:Ctx P W0 nt} {w:World} {C:Nat→Nat} {σ:DSt} {a:Act} (h:FR Γ w C σ a):Γ.Foot w.heap.size:=.inr h.step.ext.size
theorem FR.newBox {Γ:Ctx P W0 nt} {w:World} {C:Nat→Nat} {σ:DSt} {a:Act} (h:FR Γ w C σ a) (s:Nat) {cs:List D} {vs:List Value} (e:TypeId) (hr:RepL w C cs vs) :
  FR Γ (w.alloc (.cells ⟨vs⟩ e)) (upd C w.heap.size 0) (σ.setH s (some (.box w.heap.size cs))) a:=by
 have hs:=Step.alloc (fun _=>False) w C (.cells ⟨vs⟩ e) 0
 refine h.setH hs (fun _ hf=>hf.elim) (fun _ _ _ _ _ _ hf=>hf) (fun x hx=>?_)
 cases hx
 refine ⟨⟨vs,e,heap_alloc_new' _ _,hr.ext hs.ext,upd_same _ _ _⟩,fun b hb=>?_⟩
 simp only [HObj.uses] at hb; subst hb
 exact ⟨h.foot_new,.inr (Nat.le_refl _)⟩
theorem Step.setRow {w:World} {C:Nat→Nat} {g:Nat} {cur cs:Array Value} {e:TypeId} {n:Nat} (hg:w.heap[g]? = some (.cells cur e (0,0))) (hn:C g≤n)
  (hcs:∀ o,o<C g→cs[o]? = cur[o]?):Step (fun b=>b=g) w C (w.setRow g cs) (upd C g n):=by
 refine ⟨⟨by simp,fun b hb=>?_,fun b o hb ho=>?_⟩,rfl,rfl,rfl,fun b hb hne=>⟨setRow_other w g b cs hne,upd_ne _ _ hne⟩⟩
 ·by_cases e:b=g
  ·subst e; rw [upd_same]; exact hn
  rw [upd_ne _ _ e]; exact Nat.le_refl _
 by_cases e':b=g
 ·subst e';simp only [World.cell?,setRow_heap w b cur cs e (0,0) hg,hg]
  simpa using hcs o ho
 simp only [World.cell?,setRow_other w g b cs e']
theorem act_ev {w:World} {C:Nat→Nat} {σ:DSt} {a:Act} (h:∀ i,Rep w C (σ.t i) (a.tmps.getD i undef)) (x:Operand):Rep w C (σ.ev x) (a.eval x):=by
 cases x with
 | tmp t=>exact h t
 | const v =>
  simp only [DSt.ev,Act.eval]
  unfold constD
  split
  ·exact .bool _
  ·exact .int _ _
  ·rename_i s; obtain ⟨⟨l⟩⟩:=s; exact .str l
  ·exact .nils
  exact .raw _
 | global g=>exact .raw _
 | func f=>exact .fn _ [] [] [] [] rfl rfl (fun i d v h=>by simp at h) (fun i d v h=>by simp at h)
theorem storeC_sound {e:TEnt} {off:Nat} {cs:List D} {x:D} {K:List D→Prop} (hq:storeC e off cs x K) :
  ∃ ds,K (splice cs off ds)∧off+ds.length≤cs.length∧∀ (w:World) (C:Nat→Nat) (v:Value),Rep w C x v→RepL w C ds v.cells.toList∧v.cells.size=e.sz∧∀ u∈v.cells.toList,u.oneCell'=true:=by
 unfold storeC at hq
 cases hag:e.agg with
 | true =>
  rw [hag] at hq;simp only at hq
  split at hq
  ·rename_i ds
   replace hq:=bif_true hq
   obtain ⟨hb,hq⟩:=hq;simp only [Bool.and_eq_true] at hb;refine ⟨ds,hq,Nat.le_of_ble_eq_true hb.1.2,fun w C v hr=>?_⟩;obtain ⟨vs,rfl,h⟩:=hr.agg_inv
   have hl:=beq_true hb.1.1
   refine ⟨h,by simp only [Value.cells,List.size_toArray]; rw [← h.1,hl],fun u hu=>?_⟩
   simp only [Value.cells] at hu;obtain ⟨j,hj⟩:=List.mem_iff_getElem?.1 hu
   obtain ⟨d,hd⟩:=getElem?_of_lt (l:=ds) (i:=j) (by rw [h.1]; exact lt_of_get hj)
   have:=List.all_eq_true.1 hb.2 d (List.mem_of_getElem? hd)
   exact ((h.2 j d u hd hj).one_cells this).2
  exact False.elim hq
 | false =>
  rw [hag] at hq;simp only at hq
  replace hq:=bif_true hq
  obtain ⟨hb,hq⟩:=hq;simp only [Bool.and_eq_true] at hb
  have hlt:off<cs.length:=Nat.lt_of_lt_of_le (Nat.lt_succ_self _) (Nat.le_of_ble_eq_true hb.1.1)
  refine ⟨[x],by rw [← setAt_eq_splice hlt]; exact hq,by simp; omega,fun w C v hr=>?_⟩
  obtain ⟨h1,h2⟩:=hr.one_cells hb.1.2
  have hsz:=beq_true hb.2
  rw [h1];exact ⟨.cons hr (.nil _ _),by simp [hsz],by simpa using h2⟩
theorem take_drop_get {α:Type} (l us:List α) (off:Nat) (h:off+us.length≤l.length) (k:Nat) :
  (l.take off++us++l.drop (off+us.length))[k]? = if off≤k∧k<off+us.length∧k<l.length then us[k-off]? else l[k]?:=by
 by_cases h1:k<off
 ·rw [if_neg (by omega),List.append_assoc,List.getElem?_append_left (by simp; omega),List.getElem?_take,if_pos h1]
 by_cases h2:k<off+us.length
 ·rw [if_pos ⟨by omega,h2,by omega⟩,List.append_assoc,List.getElem?_append_right (by simp; omega),List.getElem?_append_left (by simp; omega)]
  congr 1; simp; omega
 rw [if_neg (by omega),List.getElem?_append_right (by simp; omega),List.getElem?_drop]
 congr 1; simp; omega
theorem store_sound {Γ:Ctx P W0 nt} {w:World} {C:Nat→Nat} {σ:DSt} {a:Act} (h:FR Γ w C σ a) {e:TEnt} (he:e.Ok P) {s b off:Nat} {cs:List D} (hH:σ.H s=some (.box b cs)) {x:D} {v:Value} {K:List D→Prop}
  (hq:storeC e off cs x K) (hr:Rep w C x v) :
  ∃ cs' w' C',K cs'∧(Instr.storeAt e.t (.pointer (some ⟨b,off,none⟩)) v).run P w=.ok () w'∧FR Γ w' C' (σ.setH s (some (.box b cs'))) a:=by
 obtain ⟨ds,hK,hle,hds⟩:=storeC_sound hq;obtain ⟨h1,h2,h3⟩:=hds w C v hr;obtain ⟨vs,el,hb,hrl,hC⟩:=h.heap.obj s _ hH
 have hfit:off+0+v.cells.toList.length≤(⟨vs⟩:Array Value).size:=by
  have:=h1.1; have:=hrl.1; simp only [List.size_toArray]; omega
 have hrun:=run_storeCells_at P b off el v.cells.toList 0 ⟨vs⟩ w hb hfit h3
 simp only [Nat.add_zero] at hrun
 have hst:=Step.setRow (C:=C) (n:=0) hb (cs:=(vs.take off++v.cells.toList++vs.drop (off+v.cells.toList.length)).toArray) (by omega) (fun o ho=>by omega)
 refine ⟨_,_,_,hK,?_,h.setH hst (s:=s) (fun x hx=>by subst hx; exact h.heap.foot s _ _ hH rfl) (fun s' o' b' hne hs' hu hbb=>?_) fun y hy=>?_⟩
 ·simp only [Instr.storeAt,Instr.sureAddr,Sem.run_bind,Sem.run_pure,Result.andThen_ok,storeVar,he.size,h2]
  simpa using hrun
 ·subst hbb;exact h.heap.inj s' s o' _ b' hne hs' hH hu rfl
 cases hy
 refine ⟨⟨_,el,setRow_heap w b _ _ el _ hb,?_,upd_same _ _ _⟩,fun x hx=>?_⟩
 ·have hlaid:=(hrl.ext hst.ext).laid (h1.ext hst.ext) hle (r:=(vs.take off++v.cells.toList++vs.drop (off+v.cells.toList.length)).toArray)
   (by simp only [List.size_toArray,List.length_append,List.length_take,List.length_drop]; simp only [List.size_toArray] at hfit; omega)
   (fun k=>by
    rw [List.getElem?_toArray]
    exact take_drop_get vs v.cells.toList off (by simpa using hfit) k)
  simpa using hlaid
 simp only [HObj.uses] at hx; subst hx
 exact ⟨h.heap.foot s _ x hH rfl,.inl rfl⟩
theorem rowVals {w:World} {C:Nat→Nat} {tg:Tag} {k:Nat} {xs:List D} {b:Addr} {n cap:Nat} (h:Rep w C (.sl tg k xs) (.slice (some b) n cap)) :
  ∃ us:List Value,us.length=xs.length*k∧(∀ (j:Nat) u,us[j]? = some u→w.cell? (b.add j)=some u)∧(∀ (j:Nat) d,(flat xs)[j]? = some d→∃ u,us[j]? = some u∧Rep w C d u∧u.oneCell'=true) ∧
   (∀ u∈us,u.oneCell'=true)∧(∀ x∈xs,x.cells.length=k):=by
 rcases h.sl_inv with ⟨hx,hv,_⟩|⟨b',o,cap',g,hv,_,_,_,_,hk,_,hcell,hone,hrep⟩
 ·subst hx;exact ⟨[],by simp,fun j u hu=>by simp at hu,fun j d hd=>by simp [flat] at hd,fun u hu=>by simp at hu,fun x hx=>by simp at hx⟩
 simp only [Value.slice.injEq,Option.some.injEq] at hv;obtain ⟨rfl,rfl,rfl⟩:=hv
 have hfl:=flat_length hk
 have hget:∀ j,j<xs.length*k→((List.range (xs.length*k)).map g)[j]? = some (g j):=fun j hj=>by simp [hj]
 refine ⟨(List.range (xs.length*k)).map g,by simp,fun j u hu=>?_,fun j d hd=>?_,fun u hu=>?_,hk⟩
 ·have hj:j<xs.length*k:=by have:=lt_of_get hu; simpa using this
  obtain ⟨d,hd⟩:=getElem?_of_lt (l:=flat xs) (i:=j) (by omega);rw [hget j hj] at hu
  cases hu
  rw [addr_add]; exact hcell j d hd
 ·have hj:j<xs.length*k:=by have:=lt_of_get hd; omega
  exact ⟨g j,hget j hj,hrep j d hd,hone j d hd⟩
 obtain ⟨j,hj,rfl⟩:=List.mem_map.1 hu
 have hj:j<xs.length*k:=by simpa using hj
 obtain ⟨d,hd⟩:=getElem?_of_lt (l:=flat xs) (i:=j) (by omega);exact hone j d hd
theorem Rep.retag {w:World} {C:Nat→Nat} {tg tg':Tag} {k:Nat} {xs:List D} {v:Value} (h:Rep w C (.sl tg k xs) v) (ht:tg'.Ok v):Rep w C (.sl tg' k xs) v:=by
 rcases h.sl_inv with ⟨rfl,⟨a,rfl⟩,_⟩|⟨b,o,cap,g,rfl,_,hb,hc,hm,hk,hC,hcell,hone,hrep⟩
 ·exact .sl0 tg' k a ht
 exact .sl tg' k xs b o cap g ht hb hc hm hk hC hcell hone hrep
theorem get_append {α:Type} (l r:List α) (j:Nat):(l++r)[j]? = if j<l.length then l[j]? else r[j-l.length]?:=by
 by_cases h:j<l.length
 ·rw [if_pos h,List.getElem?_append_left h]
 rw [if_neg h,List.getElem?_append_right (by omega)]
theorem append_sound {Γ:Ctx P W0 nt} {w:World} {C:Nat→Nat} {σ:DSt} {a:Act} (h:FR Γ w C σ a) {e ee:TEnt} (he:e.Ok P) (hee:ee.Ok P) (hks:e.kind=.slice ee.t) (hz:ee.zero≠none)
  {tg tg':Tag} {xs ys:List D} {vs vx:Value} (hrs:Rep w C (.sl tg ee.sz xs) vs) (hrx:Rep w C (.sl tg' ee.sz ys) vx) (hbytes:(xs.length+ys.length)*ee.bytes≤140737488355328)
  (h63:xs.length+ys.length≤9223372036854775807) {q dst:Nat} {ty:TypeId}
  (hown:(∃ aa n,vs=.slice aa n n)∧q=dst∨σ.H q=some (.own vs xs.length ee.sz ee.t)) :
  ∃ v w' C',(Builtin.append_ #[e.t,e.t] ty #[vs,vx]).run P w=.ok v w'∧Rep w' C' (.sl (.own dst v) ee.sz (xs++ys)) v ∧
   FR Γ w' C' ((σ.setH q none).setH dst (some (.own v (xs.length+ys.length) ee.sz ee.t))) a:=by
 have hu:=he.u_slice hks
 obtain ⟨i,hi,hsz,hby,hzz⟩:=hee.info;obtain ⟨z,hz⟩:=Option.ne_none_iff_exists'.1 hz;obtain ⟨zv,hzv,hzl,hzr⟩:=hzz z hz
 have hzsz:zv.cells.size=ee.sz:=by have:=(hzr w C).1; rw [hzl] at this; simpa using this.symm
 have hf:=h.drop q
 have hlen:(xs++ys).length=xs.length+ys.length:=by simp
 have hshape:∃ aa cap,vs=.slice aa xs.length cap∧xs.length≤cap∧cap≤maxLen:=by
  rcases hrs.sl_inv with ⟨rfl,⟨a0,hv⟩,_⟩|⟨b,o,cap,g,hv,_,_,hc,hm,_⟩
  ·exact ⟨a0,0,hv,by simp,Nat.zero_le _⟩
  exact ⟨_,cap,hv,hc,hm⟩
 obtain ⟨aa,cap,hvs,hcap,hcapm⟩:=hshape
 have hy:∃ ab cy,vx=.slice ab ys.length cy:=by
  rcases hrx.sl_inv with ⟨rfl,⟨a0,hv⟩,_⟩|⟨b,o,cap,g,hv,_⟩
  ·exact ⟨a0,0,hv⟩
  exact ⟨_,_,hv⟩
 obtain ⟨ab,cy,hvx⟩:=hy
 by_cases hm:ys.length=0
 ·
  have hys:ys=[]:=List.eq_nil_of_length_eq_zero hm
  subst hys
  have hrun:(Builtin.append_ #[e.t,e.t] ty #[vs,vx]).run P w=.ok vs w:=by
   subst hvs hvx
   have hst:∀ (b:Addr),(storeCells b []).run P w=.ok () w:=fun b=>rfl
   cases ab<;>cases aa<;>simp [Builtin.append_,run_underlying hu,sizeOf,typeInfo,hi,Builtin.lenOf,Builtin.firstCells,loadCells,loadCellsFrom,hcap,hst]
  refine ⟨vs,w,C,hrun,by simpa using hrs.retag (tg':=.own dst vs) rfl,?_⟩
  refine hf.setH (Ft:=fun b=>HObj.uses (.own vs xs.length ee.sz ee.t) b) (.refl _ _ _) (fun b hb=>?_) (fun s' o b hne hs' hu' hb=>?_) fun x hx=>?_
  ·rcases hown with ⟨⟨a',n,hv⟩,_⟩|hH
   ·obtain ⟨o,cap',hv',hlt⟩:=hb; rw [hv] at hv'; simp only [Value.slice.injEq] at hv'; omega
   exact h.heap.foot q _ b hH hb
  ·rcases hown with ⟨⟨a',n,hv⟩,_⟩|hH
   ·obtain ⟨o',cap',hv',hlt⟩:=hb; rw [hv] at hv'; simp only [Value.slice.injEq] at hv'; omega
   by_cases hq:s'=q
   ·subst hq; rw [setH_same] at hs'; cases hs'
   rw [setH_ne σ none hq] at hs';exact h.heap.inj s' q o _ b hq hs' hH hu' hb
  cases hx
  simp only [List.length_nil,Nat.add_zero];refine ⟨?_,fun b hb=>⟨?_,.inl hb⟩⟩
  ·rcases hown with ⟨⟨a',n,hv⟩,_⟩|hH
   ·have hn:n=xs.length∧n=cap:=by rw [hvs] at hv; simp only [Value.slice.injEq] at hv; omega
    exact ⟨a',n,by rw [hv,hn.1],by omega,by omega,fun hlt=>by omega⟩
   exact h.heap.obj q _ hH
  rcases hown with ⟨⟨a',n,hv⟩,_⟩|hH
  ·obtain ⟨o',cap',hv',hlt⟩:=hb; rw [hv] at hv'; simp only [Value.slice.injEq] at hv'; omega
  exact h.heap.foot q _ b hH hb
 ·
  subst hvx
  have hab:∃ ad,ab=some ad:=by
   cases ab with
   | some ad=>exact ⟨ad,rfl⟩
   | none =>
    rcases hrx.sl_inv with ⟨rfl,hv,_⟩|⟨b,o,cap,g,hv,_⟩
    ·exact absurd rfl hm
    cases hv
  obtain ⟨ad,rfl⟩:=hab;obtain ⟨news,hnl,hnc,hnr,hn1,hky⟩:=rowVals hrx
  have hnl':news.length=ys.length*i.size:=by rw [hnl,hsz]
  have fresh:∀ (olds:List Value) (old:Nat),olds.length=xs.length*ee.sz→(∀ (j:Nat) d,(flat xs)[j]? = some d→∃ u,olds[j]? = some u∧Rep w C d u∧u.oneCell'=true)→(∀ x∈xs,x.cells.length=ee.sz) →
    old<xs.length+ys.length →
    ∀ v,v=.slice (some ⟨w.heap.size,0,none⟩) (xs.length+ys.length) (grownCap w (xs.length+ys.length) old ee.t) →
    ∀ w',w'=w.drew.alloc (.cells (olds.toArray++news.toArray++Builtin.zeroCells zv.cells (grownCap w (xs.length+ys.length) old ee.t-(xs.length+ys.length))) ee.t) →
    ∃ C',Rep w' C' (.sl (.own dst v) ee.sz (xs++ys)) v∧FR Γ w' C' ((σ.setH q none).setH dst (some (.own v (xs.length+ys.length) ee.sz ee.t))) a:=by
   intro olds old hol hor hkx hold v hv w' hw'
   have hge:=grownCap_ge w (xs.length+ys.length) old ee.t
   have hcm:=grownCap_le_maxLen w (xs.length+ys.length) old ee.t (by simp only [maxLen]; omega)
   generalize grownCap w (xs.length+ys.length) old ee.t=nc at hv hw' hge hcm
   have hsize:(olds.toArray++news.toArray++Builtin.zeroCells zv.cells (nc-(xs.length+ys.length))).size=nc*ee.sz:=by
    simp only [Array.size_append,List.size_toArray,size_zeroCells,hzsz,hol,hnl,← Nat.add_mul]
    congr 1; omega
   have hs1:=Step.drew (fun _=>False) w C
   have hs2:=Step.alloc (fun _=>False) w.drew C (.cells (olds.toArray++news.toArray++Builtin.zeroCells zv.cells (nc-(xs.length+ys.length))) ee.t) ((xs++ys).length*ee.sz)
   have hs:=hs1.trans hs2 (fun _ _ hf=>hf)
   rw [← hw'] at hs hs2;refine ⟨_,?_,hf.setH hs (fun _ hf=>hf.elim) (fun _ _ _ _ _ _ hf=>hf) fun x hx=>?_⟩
   ·have hrow:=rep_newRow (w:=w.drew) (C:=C) (tg:=.own dst v) (k:=ee.sz) (xs:=xs++ys)
     (vs:=(olds.toArray++news.toArray++Builtin.zeroCells zv.cells (nc-(xs.length+ys.length))).toList) (e:=ee.t) (cap:=nc)
     (fun x hx=>by rcases List.mem_append.1 hx with hx|hx<;>first|exact hkx x hx|exact hky x hx) (by omega) hcm
     (fun j d hd=>by
      rw [flat_append,get_append] at hd
      have hfl:=flat_length hkx
      simp only [Array.toList_append]
      split at hd
      ·rename_i hj
       obtain ⟨u,hu,hr,ho⟩:=hor j d hd;refine ⟨u,?_,hr.ext hs1.ext,ho⟩;rw [List.append_assoc,get_append,if_pos (by simpa using lt_of_get hu)]
       simpa using hu
      rename_i hj
      obtain ⟨u,hu,hr,ho⟩:=hnr _ d hd;refine ⟨u,?_,hr.ext hs1.ext,ho⟩
      rw [List.append_assoc,get_append,if_neg (by simp; omega),get_append,if_pos (by have:=lt_of_get hu; simp; omega)]
      simpa [hol,hfl] using hu) (by rw [hlen]; exact hv.symm)
    rw [hlen] at hrow;rw [hv] at hrow ⊢;rw [hlen,hw'];exact hrow
   cases hx
   refine ⟨⟨some ⟨w.heap.size,0,none⟩,nc,hv,hge,hcm,fun _=>⟨w.heap.size,_,rfl,?_,hsize,?_⟩⟩,fun b hb=>?_⟩
   ·rw [hw']; exact heap_alloc_new' w.drew _
   ·rw [hlen]; exact upd_same _ _ _
   obtain ⟨o,cap',hv',_⟩:=hb;rw [hv] at hv';simp only [Value.slice.injEq,Option.some.injEq,Addr.mk.injEq] at hv';obtain ⟨⟨rfl,_⟩,_⟩:=hv';exact ⟨h.foot_new,.inr (Nat.le_refl _)⟩
  subst hvs
  cases aa with
  | none =>
   rcases hrs.sl_inv with ⟨rfl,⟨a0,hv⟩,_⟩|⟨b,o,cap',g,hv,_⟩
   ·simp only [Value.slice.injEq] at hv;obtain ⟨_,_,rfl⟩:=hv;simp only [List.length_nil,Nat.zero_add] at hbytes h63 fresh ⊢
    have hr:=run_append_nil (P:=P) w e.t ty ee.t i zv hu hi hzv ad ys.length cy news hnl' hnc (by omega) (by omega) (by rw [hby]; omega)
    obtain ⟨C',h1,h2⟩:=fresh [] 0 (by simp) (fun j d hd=>by simp [flat] at hd) (fun x hx=>by cases hx) (by omega) _ rfl _ rfl;exact ⟨_,_,C',hr,by simpa using h1,by simpa using h2⟩
   cases hv
  | some ba =>
   obtain ⟨olds,hol,hoc,hor,ho1,hkx⟩:=rowVals hrs
   by_cases hroom:xs.length+ys.length≤cap
   ·
    have hH:σ.H q=some (.own (.slice (some ba) xs.length cap) xs.length ee.sz ee.t):=by
     rcases hown with ⟨⟨a',n,hv⟩,_⟩|hH
     ·simp only [Value.slice.injEq] at hv; omega
     exact hH
    obtain ⟨a',cap',hv,hnc',_,hw⟩:=h.heap.obj q _ hH;simp only [Value.slice.injEq] at hv;obtain ⟨rfl,_,rfl⟩:=hv;obtain ⟨b,cur,hba,hb,hcs,hCb⟩:=hw (by omega)
    cases hba
    have hfit:xs.length*i.size+news.length≤cur.size:=by
     rw [hsz,hnl,hcs,← Nat.add_mul]; exact Nat.mul_le_mul_right _ hroom
    have hr:=run_append_room (P:=P) w e.t ty ee.t i hu hi b xs.length cap cur hb ad ys.length cy news hnl' hnc hn1 hroom hfit
    rw [hsz] at hr hfit
    have hcsz:xs.length*ee.sz≤cur.toList.length:=by simp; omega
    have hst:=Step.setRow (C:=C) (n:=(xs.length+ys.length)*ee.sz) hb (cs:=(cur.toList.take (xs.length*ee.sz)++news++cur.toList.drop (xs.length*ee.sz+news.length)).toArray)
     (by rw [hCb]; exact Nat.mul_le_mul_right _ (by omega)) (fun o ho=>by
      rw [hCb] at ho
      rw [List.getElem?_toArray,take_drop_get _ _ _ (by simp; omega),if_neg (by omega)]
      simp)
    have huse:HObj.uses (.own (.slice (some ⟨b,0,none⟩) xs.length cap) xs.length ee.sz ee.t) b:=⟨0,cap,rfl,by omega⟩
    refine ⟨_,_,_,hr,?_,hf.setH hst (fun x hx=>by subst hx; exact h.heap.foot q _ _ hH huse) (fun s' o b' hne hs' hu' hb'=>?_) fun x hx=>?_⟩
    ·have hrow:=rep_row (w:=w.setRow b (cur.toList.take (xs.length*ee.sz)++news++cur.toList.drop (xs.length*ee.sz+news.length)).toArray) (C:=upd C b ((xs.length+ys.length)*ee.sz))
      (tg:=.own dst (.slice (some ⟨b,0,none⟩) (xs.length+ys.length) cap)) (k:=ee.sz) (xs:=xs++ys) (b:=b) (cap:=cap) (setRow_heap w b cur _ ee.t (0,0) hb)
      (fun x hx=>by rcases List.mem_append.1 hx with hx|hx<;>first|exact hkx x hx|exact hky x hx) (by omega) hcapm (by rw [upd_same,hlen]; exact Nat.le_refl _)
      (fun j d hd=>by
       rw [flat_append,get_append] at hd
       have hfl:=flat_length hkx
       split at hd
       ·rename_i hj
        obtain ⟨u,hu,hr,ho⟩:=hor j d hd;refine ⟨u,?_,hr.ext hst.ext,ho⟩
        rw [take_drop_get _ _ _ (by simp; omega),if_neg (by omega)]
        have hc:=hoc j u hu
        rw [addr_add,Nat.zero_add] at hc;simp only [World.cell?,hb] at hc
        simpa using hc
       rename_i hj
       obtain ⟨u,hu,hr,ho⟩:=hnr _ d hd;refine ⟨u,?_,hr.ext hst.ext,ho⟩
       have:=lt_of_get hu
       rw [take_drop_get _ _ _ (by simp; omega),if_pos ⟨by omega,by omega,by simp; omega⟩,← hfl]
       exact hu) (by rw [hlen]; exact rfl)
     rw [hlen] at hrow;exact hrow
    ·subst hb'
     by_cases hq:s'=q
     ·subst hq; rw [setH_same] at hs'; cases hs'
     rw [setH_ne σ none hq] at hs';exact h.heap.inj s' q o _ b' hq hs' hH hu' huse
    cases hx
    refine ⟨⟨_,cap,rfl,hroom,hcapm,fun _=>⟨b,_,rfl,setRow_heap w b cur _ ee.t _ hb,?_,by rw [upd_same]⟩⟩,fun x hx=>?_⟩
    ·simp only [List.size_toArray,List.length_append,List.length_take,List.length_drop,Array.length_toList]; omega
    obtain ⟨o,cap',hv',_⟩:=hx;simp only [Value.slice.injEq,Option.some.injEq,Addr.mk.injEq] at hv';obtain ⟨⟨rfl,_⟩,_⟩:=hv';exact ⟨h.heap.foot q _ _ hH huse,.inl rfl⟩
   have hr:=run_append_grow (P:=P) w e.t ty ee.t i zv hu hi hzv ba xs.length cap olds (by rw [hol,hsz]) hoc ad ys.length cy news hnl' hnc (by omega) (by omega) (by rw [hby]; exact growslice_fits (by omega) hbytes)
   obtain ⟨C',h1,h2⟩:=fresh olds cap hol hor hkx (by omega) _ rfl _ rfl;exact ⟨_,_,C',hr,h1,h2⟩
theorem quiet_wp {Γ:Ctx P W0 nt} {w:World} {C:Nat→Nat} {σ:DSt} {a:Act} (hf:FR Γ w C σ a) {o:Oper} {d:D} (hd:okDst nt o.dst=true) {Q:Exit→Act→World→Prop}
  {K:DSt→Prop} (hK:K (σ.put o.dst d)) (hq:QOut P d w C ((execOp a.eval o).run P w)) :
  o.wp P a w (fun a' w'=>∃ σ' C',K σ'∧FR Γ w' C' σ' a') Q:=by
 unfold Oper.wp
 generalize (execOp a.eval o).run P w=r at *
 cases r with
 | halt h w'=>exact hq.elim
 | ok n w' =>
  cases n with
  | value v =>
   obtain ⟨C',hr,hs⟩:=hq;exact ⟨_,C',hK,(hf.step0 hs).put hd hr⟩
  | enter f args =>
   obtain ⟨rfl,hc⟩:=hq
   exact hc.mono fun e w'' ⟨v,C'',he,hr,hs⟩=>by subst he; exact ⟨_,C'',hK,(hf.step0 hs).put hd hr⟩
  | _=>exact hq.elim
theorem vstep_sound {ti:List TEnt} (hT:TOk P ti) {Γ:Ctx P W0 nt} {w:World} {C:Nat→Nat} {σ:DSt} {a:Act} (hf:FR Γ w C σ a) {o:Oper} (hd:okDst nt o.dst=true) {K:DSt→Prop}
  (hq:vstep P W0 ti σ o.dst o.op K) (Q:Exit→Act→World→Prop):o.wp P a w (fun a' w'=>∃ σ' C',K σ'∧FR Γ w' C' σ' a') Q:=by
 have quiet:qop P W0 ti σ true o.op (fun d=>K (σ.put o.dst d))→o.wp P a w (fun a' w'=>∃ σ' C',K σ'∧FR Γ w' C' σ' a') Q:=fun hq=>by
  obtain ⟨d,hK,hd'⟩:=qop_sound hT hq;exact quiet_wp hf hd hK (hd' rfl a.eval w C _ hf.base hf.heap (fun x _=>act_ev hf.tmps x))
 obtain ⟨dst,op,type,pos,after,guard⟩:=o
 unfold vstep at hq
 cases op<;>simp only at hq
 case move x=>exact quiet_wp hf hd ((force_iff _ _).1 hq) (QOut.same (act_ev hf.tmps x))
 case assign x=>exact quiet_wp hf hd ((force_iff _ _).1 hq) (QOut.same (act_ev hf.tmps x))
 case alloc e =>
  split at hq
  ·rename_i te s he
   obtain ⟨heo,rfl⟩:=hT.get he
   split at hq
   ·rename_i z hz
    obtain ⟨i,hi,_,_,hzz⟩:=heo.info;obtain ⟨zv,hzv,hzl,hzr⟩:=hzz z hz
    have hrun:(execOp a.eval ⟨some s,.alloc te.t,type,pos,after,guard⟩).run P w=.ok (.value (.pointer (some ⟨w.heap.size,0,none⟩))) (w.alloc (.cells zv.cells te.t)):=by
     simp [execOp,Instr.alloc,zeroValue,typeInfo,hi,hzv,newVar,newRow]
    simp only [Oper.wp,hrun,Oper.upon];exact ⟨_,_,hq w.heap.size,(hf.newBox s te.t (hzr w C)).put hd (.box _ _ _)⟩
   exact hq.elim
  exact hq.elim
 case box e x =>
  split at hq
  ·rename_i te s he
   obtain ⟨heo,rfl⟩:=hT.get he
   have hrun:∀ v,a.eval x=v→(execOp a.eval ⟨some s,.box te.t x,type,pos,after,guard⟩).run P w=.ok (.value (.pointer (some ⟨w.heap.size,0,none⟩))) (w.alloc (.cells v.cells te.t)):=by
    intro v hv; simp [execOp,Instr.box,newVar,newRow,hv]
   have hx:=act_ev hf.tmps x
   split at hq
   ·split at hq
    ·rename_i cs hcs
     rw [hcs] at hx;obtain ⟨vs,hv,hr⟩:=hx.agg_inv;simp only [Oper.wp,hrun _ hv,Oper.upon];exact ⟨_,_,hq w.heap.size,(hf.newBox s te.t hr).put hd (.box _ _ _)⟩
    exact hq.elim
   replace hq:=bif_true hq
   obtain ⟨ho,hq⟩:=hq;obtain ⟨h1,_⟩:=hx.one_cells ho;simp only [Oper.wp,hrun _ rfl,Oper.upon,h1];exact ⟨_,_,hq w.heap.size,(hf.newBox s te.t (.cons hx (.nil _ _))).put hd (.box _ _ _)⟩
  exact hq.elim
 case store t x y =>
  split at hq
  ·rename_i e s b off he hx
   obtain ⟨heo,rfl⟩:=hT.get he
   split at hq
   ·rename_i b' cs hH
    obtain ⟨rfl,hq⟩:=hq;obtain ⟨cs',w',C',hK,hrun,hf'⟩:=store_sound hf heo hH hq (act_ev hf.tmps y)
    have hv:=act_ev hf.tmps x
    rw [hx] at hv
    have hrun':(execOp a.eval ⟨dst,.store e.t x y,type,pos,after,guard⟩).run P w=.ok .skip w':=by
     simp only [execOp,hv.box_inv,Sem.run_bind,hrun,Result.andThen_ok,Sem.run_pure]
    simp only [Oper.wp,hrun',Oper.upon];exact ⟨_,C',hK,hf'.put hd .undef⟩
   exact hq.elim
  exact hq.elim
 case call c =>
  obtain ⟨callee,args,argTypes⟩:=c;simp only at hq
  split at hq
  ·rename_i s x t t' dst' hargs hats
   have hargs':args=#[s,x]:=by apply Array.ext'; simpa using hargs
   have hats':argTypes=#[t,t']:=by apply Array.ext'; simpa using hats
   subst hargs' hats'
   replace hq:=bif_true hq
   obtain ⟨ht,hq⟩:=hq;obtain rfl:=beq_true ht
   unfold appendD at hq
   split at hq
   ·exact hq.elim
   rename_i e he
   obtain ⟨heo,rfl⟩:=hT.get he
   split at hq
   ·rename_i el hks
    split at hq
    ·exact hq.elim
    rename_i ee hee
    obtain ⟨heeo,rfl⟩:=hT.get hee
    have key:∀ (tg:Tag) (xs:List D) (q:Nat) (σ':DSt),(Rep w C (.sl tg ee.sz xs) (a.eval s))→((∃ aa n,a.eval s=.slice aa n n)∧q=dst'∨σ.H q=some (.own (a.eval s) xs.length ee.sz ee.t)) →
      (∀ o,(σ'.setH dst' o)=((σ.setH q none).setH dst' o)) →
      (match σ.ev x with
       | .sl _ k' ys=>cond (Nat.beq k' ee.sz&&Nat.blt 0 ee.sz) ((xs.length+ys.length)*ee.bytes≤140737488355328∧xs.length+ys.length≤9223372036854775807∧ee.zero≠none ∧
         ∀ v:Value,K ((σ'.setH dst' (some (.own v (xs.length+ys.length) ee.sz ee.t))).put (some dst') (.sl (.own dst' v) ee.sz (xs++ys)))) False
       | _=>False) →
      Oper.wp P ⟨some dst',.call ⟨.builtin .append,#[s,x],#[e.t,e.t]⟩,type,pos,after,guard⟩ a w (fun a' w'=>∃ σ' C',K σ'∧FR Γ w' C' σ' a') Q:=by
     intro tg xs q σ' hrs hown hσ hq
     have hx:=act_ev hf.tmps x
     split at hq
     ·rename_i tg' k' ys hey
      rw [hey] at hx
      replace hq:=bif_true hq
      obtain ⟨hb,h1,h2,h3,hK⟩:=hq;rw [Bool.and_eq_true] at hb;obtain rfl:=beq_true hb.1;obtain ⟨v,w',C',hrun,hr,hf'⟩:=append_sound (P:=P) hf heo heeo hks h3 hrs hx h1 h2 (dst:=dst') (ty:=type) hown
      have hrun':(execOp a.eval ⟨some dst',.call ⟨.builtin .append,#[s,x],#[e.t,e.t]⟩,type,pos,after,guard⟩).run P w=.ok (.value v) w':=by
       simp [execOp,resolve,invoke,builtin,hrun]
      simp only [Oper.wp,hrun',Oper.upon];refine ⟨_,C',hK v,?_⟩;rw [hσ];exact hf'.put hd hr
     exact hq.elim
    have hs:=act_ev hf.tmps s
    simp only at hq
    split at hq
    ·rename_i hes
     rw [hes] at hs;refine key .none [] dst' σ ?_ (.inl ⟨⟨none,0,hs.nils_inv⟩,rfl⟩) (fun o=>?_) hq
     ·rw [hs.nils_inv]; exact .sl0 .none _ none trivial
     simp only [DSt.setH]
     congr 1; funext j; cases Nat.beq j dst'<;>simp
    ·rename_i k xs hes
     rw [hes] at hs
     replace hq:=bif_true hq
     obtain ⟨hk,hq⟩:=hq;obtain rfl:=beq_true hk
     have hfull:∃ aa n,a.eval s=.slice aa n n:=by
      rcases hs.sl_inv with ⟨_,_,h⟩|⟨_,_,_,_,_,h,_⟩
      ·exact h
      exact h
     refine key .full xs dst' σ hs (.inl ⟨hfull,rfl⟩) (fun o=>?_) hq;simp only [DSt.setH]
     congr 1; funext j; cases Nat.beq j dst'<;>simp
    ·rename_i q v k xs hes
     rw [hes] at hs
     split at hq
     ·rename_i v' n' k' e' hH
      replace hq:=bif_true hq
      obtain ⟨hb,rfl,rfl,hq⟩:=hq;simp only [Bool.and_eq_true] at hb;obtain rfl:=beq_true hb.1.1;obtain rfl:=beq_true hb.1.2;obtain rfl:=beq_true hb.2
      have hv:a.eval s=v:=by
       rcases hs.sl_inv with ⟨_,_,h⟩|⟨_,_,_,_,_,h,_⟩
       ·exact h
       exact h
      exact key (.own q v) xs q (σ.setH q none) hs (.inr (by rw [hv]; exact hH)) (fun _=>rfl) hq
     exact hq.elim
    exact hq.elim
   exact hq.elim
  exact quiet hq
 all_goals exact quiet hq
theorem guarded_wp {ti:List TEnt} (hT:TOk P ti) {Γ:Ctx P W0 nt} {w:World} {C:Nat→Nat} {σ:DSt} {a:Act} (hf:FR Γ w C σ a) {o:Oper} (hd:okDst nt o.dst=true) {K:DSt→Prop} {h:Bool}
  (hq:qop P W0 ti σ h o.op fun d=>K (σ.put o.dst (.cnd h d))) (Q:Exit→Act→World→Prop) :
  if h=true then o.wp P a w (fun a' w'=>∃ σ' C',K σ'∧FR Γ w' C' σ' a') Q else ∃ σ',K σ'∧FR Γ w C σ' (a.put o.dst undef):=by
 obtain ⟨d,hK,hd'⟩:=qop_sound hT hq
 cases h with
 | true =>
  rw [if_pos rfl]
  have h1:=hd' rfl a.eval w C _ hf.base hf.heap (fun x _=>act_ev hf.tmps x)
  refine quiet_wp hf hd (d:=.cnd true d) hK ?_;generalize (execOp a.eval o).run P w=r at *
  cases r with
  | halt _ _=>exact h1
  | ok n w' =>
   cases n with
   | value v=>obtain ⟨C',hr,hs⟩:=h1; exact ⟨C',.cndT _ _ hr,hs⟩
   | enter f args=>exact ⟨h1.1,h1.2.mono fun e w'' ⟨v,C'',he,hr,hs⟩=>⟨v,C'',he,.cndT _ _ hr,hs⟩⟩
   | _=>exact h1
 | false =>
  rw [if_neg (by simp)];exact ⟨_,hK,hf.put hd (.cndF _)⟩
theorem yielded_bool {ops:Array Oper} {tmps:Array Value} {j g:Nat} {b:Bool} (hg:(ops[j]?).bind (·.dst)=some g) (hv:tmps.getD g undef=.bool b):yielded ops tmps j=some b:=by
 unfold yielded
 rw [hg];simp only [Array.getD_eq_getD_getElem?] at hv;simp only [Option.bind_some]
 cases ht:tmps[g]? with
 | none=>rw [ht] at hv; cases hv
 | some v=>rw [ht] at hv; simp only [Option.getD_some] at hv; subst hv; rfl
theorem yielded_undef {ops:Array Oper} {tmps:Array Value} {j g:Nat} (hg:(ops[j]?).bind (·.dst)=some g) (hv:tmps.getD g undef=undef):yielded ops tmps j=none:=by
 unfold yielded
 rw [hg];simp only [Array.getD_eq_getD_getElem?] at hv;simp only [Option.bind_some]
 cases ht:tmps[g]? with
 | none=>rfl
 | some v=>rw [ht] at hv; simp only [Option.getD_some] at hv; subst hv; rfl
theorem vlist_seq {ti:List TEnt} (hT:TOk P ti) {Γ:Ctx P W0 nt} {ops:Array Oper} {Q:Exit→Act→World→Prop} {K:DSt→Prop} (hQ:∀ σ' a' w' C',K σ'→FR Γ w' C' σ' a'→Q .normal a' w') :
  ∀ {l:List Oper} {σ:DSt} (_:vlist P W0 ti nt ops l σ K) {a:Act} {w:World} {C:Nat→Nat} (_:FR Γ w C σ a),wpList P ops Q l a w
 | [],_,hq,_,_,_,hf=>hQ _ _ _ _ hq hf
 | o::rest,σ,hq,a,w,C,hf=>by
  change cond (okDst nt o.dst) _ False at hq
  replace hq:=bif_true hq
  obtain ⟨hd,hq⟩:=hq
  have next:∀ a' w',(∃ σ' C',vlist P W0 ti nt ops rest σ' K∧FR Γ w' C' σ' a')→wpList P ops Q rest a' w':=fun a' w' ⟨σ',C',h1,h2⟩=>vlist_seq hT hQ h1 h2
  unfold wpList
  split at hq
  ·rename_i hg
   rw [if_pos (by simp [Region.wanted,hg])];exact .inl (Oper.wp_mono next (vstep_sound hT hf hd hq Q))
  rename_i j want hg
  split at hq
  ·exact hq.elim
  rename_i g hgd
  have tv:=hf.tmps g
  have fin:∀ h:Bool,Region.wanted o (yielded ops a.tmps)=h→qop P W0 ti σ h o.op (fun d=>vlist P W0 ti nt ops rest (σ.put o.dst (.cnd h d)) K) →
    (if Region.wanted o (yielded ops a.tmps) then o.wp P a w (wpList P ops Q rest) Q∨(o.asks P a w∧LetsOut Q) else wpList P ops Q rest (a.put o.dst undef) w):=by
   intro h hw hq;rw [hw]
   have:=guarded_wp hT hf hd (K:=fun σ'=>vlist P W0 ti nt ops rest σ' K) hq Q
   cases h with
   | true=>rw [if_pos rfl] at this ⊢; exact .inl (Oper.wp_mono next this)
   | false=>rw [if_neg (by simp)] at this ⊢; obtain ⟨σ',h1,h2⟩:=this; exact vlist_seq hT hQ h1 h2
  split at hq
  ·rename_i b hb
   rw [hb] at tv
   have hy:=yielded_bool hgd tv.bool_inv
   cases want with
   | true=>exact fin b (by simp only [Region.wanted,hg,hy]; cases b<;>rfl) hq
   | false=>exact fin (!b) (by simp only [Region.wanted,hg,hy]; cases b<;>rfl) hq
  ·rename_i c b hb
   rw [hb] at tv
   cases c with
   | true =>
    have hv:a.tmps.getD g undef=.bool b:=by
     cases tv with
     | cndT _ _ h=>exact h.bool_inv
    have hy:=yielded_bool hgd hv
    cases want with
    | true=>exact fin (true&&b) (by simp only [Region.wanted,hg,hy]; cases b<;>rfl) hq
    | false=>exact fin (true&&!b) (by simp only [Region.wanted,hg,hy]; cases b<;>rfl) hq
   | false =>
    have hv:a.tmps.getD g undef=undef:=by
     generalize a.tmps.getD g undef=v at tv
     cases tv; rfl
    have hy:=yielded_undef hgd hv
    cases want with
    | true=>exact fin (false&&b) (by simp only [Region.wanted,hg,hy]; rfl) hq
    | false=>exact fin (false&&!b) (by simp only [Region.wanted,hg,hy]; rfl) hq
  exact hq.elim
theorem Tri.region {ti:List TEnt} (hT:TOk P ti) {Γ:Ctx P W0 nt} {id:Nat} {ops:Array Oper} {σ:DSt} {K:DExit→DSt→Prop} (hq:vlist P W0 ti nt ops ops.toList σ (K .normal)):Tri Γ (.region id ops false) σ K :=
 ⟨fun _ _ _ hf=>wp_region_list (vlist_seq hT (fun σ' _ _ C' hK hF=>⟨.normal,σ',C',rfl,hK,hF⟩) hq hf)⟩
variable {P:Program} {W0:World} {nt:Nat} {ops:Array Oper} {md:Region.Mode}
def DYields (P:Program) (W0:World) (ops:Array Oper) (o:Oper) (d:D) (σ:DSt):Prop :=
 ∀ (a:Act) (w:World) (C:Nat→Nat) (Ft:Nat→Prop),Base W0 w→HRel Ft w C σ.H→(∀ i,i∈o.looksAt ops→Rep w C (σ.t i) (a.tmps.getD i undef)) →
  (Region.wanted o (yielded ops a.tmps)=true∧QOut P d w C ((execOp a.eval o).run P w))∨(Region.wanted o (yielded ops a.tmps)=false∧Rep w C d undef)
theorem DYields.of_same {o:Oper} {d:D} {σ σ':DSt} (h:DYields P W0 ops o d σ) (hH:σ'.H=σ.H) (ht:∀ i,i∈o.looksAt ops→σ'.t i=σ.t i):DYields P W0 ops o d σ':=by
 intro a w C Ft hb hr hρ
 exact h a w C Ft hb (hH ▸ hr) fun i hi=>by rw [← ht i hi]; exact hρ i hi
theorem put_H (σ:DSt) (dst:Option Tmp) (d:D):(σ.put dst d).H=σ.H:=by cases dst<;>rfl
theorem put_t_ne {σ:DSt} {dst:Option Tmp} {d:D} {i:Nat} (h:∀ t,dst=some t→t≠i):(σ.put dst d).t i=σ.t i:=by
 cases dst with
 | none=>rfl
 | some t=>simp [DSt.put,beq_false (fun e=>h t rfl e.symm:i≠t)]
theorem put_comm {σ:DSt} {x y:Option Tmp} {u v:D} (h:∀ t,x=some t→y≠some t):(σ.put x u).put y v=(σ.put y v).put x u:=by
 cases x with
 | none=>rfl
 | some s =>
  cases y with
  | none=>rfl
  | some t =>
   have hne:s≠t:=fun e=>h s rfl (e ▸ rfl)
   simp only [DSt.put]
   congr 1
   funext j
   cases h1:Nat.beq j t with
   | true =>
    have e1:=beq_true h1
    subst e1
    rw [beq_false (Ne.symm hne)]; rfl
   | false=>cases Nat.beq j s<;>rfl
def dOp (P:Program) (W0:World) (nt:Nat) (ops:Array Oper) (i:Nat) (K:DSt→Prop) (σ:DSt):Prop :=
 match ops[i]? with
 | none=>K σ
 | some o=>okDst nt o.dst=true∧∃ d,DYields P W0 ops o d σ∧K (σ.put o.dst d)
theorem dOp_mono {i:Nat} {σ:DSt} {K K':DSt→Prop} (h:∀ σ,K σ→K' σ) (hh:dOp P W0 nt ops i K σ):dOp P W0 nt ops i K' σ:=by
 unfold dOp at *
 split
 ·rename_i ho; rw [ho] at hh; exact h _ hh
 rename_i o ho; rw [ho] at hh; obtain ⟨h1,d,h2,h3⟩:=hh; exact ⟨h1,d,h2,h _ h3⟩
theorem DYields.dOp {i:Nat} {o:Oper} {d:D} {σ:DSt} (hi:ops[i]? = some o) (hd:okDst nt o.dst=true) (hy:DYields P W0 ops o d σ) {K:DSt→Prop} (h:K (σ.put o.dst d)):dOp P W0 nt ops i K σ:=by
 unfold Go.Tame.dOp
 simp only [hi];exact ⟨hd,d,hy,h⟩
theorem dOp_put {j:Nat} {oi oj:Oper} {v:D} (hj:ops[j]? = some oj) (hap:oi.apart ops oj=true) {K:DSt→Prop} {σ:DSt}
  (hy:DYields P W0 ops oi v σ) (h:dOp P W0 nt ops j K (σ.put oi.dst v)) :
  dOp P W0 nt ops j (fun σ'=>DYields P W0 ops oi v σ'∧K (σ'.put oi.dst v)) σ:=by
 obtain ⟨h1,h2,h3⟩:=Oper.apart_spec hap
 unfold dOp at *
 simp only [hj] at *;obtain ⟨hd,u,hu,hK⟩:=h;refine ⟨hd,u,hu.of_same (put_H _ _ _).symm (fun i hi=>(put_t_ne fun t ht e=>?_).symm),hy.of_same (put_H _ _ _) (fun i hi=>put_t_ne fun t ht e=>?_),?_⟩
 ·subst e; exact h1 t ht hi
 ·subst e; exact h3 t ht hi
 rw [← put_comm h2]; exact hK
def wpAnyD (P:Program) (W0:World) (nt:Nat) (md:Region.Mode) (ops:Array Oper) (Q:DSt→Prop):Nat→Array Bool→DSt→Prop
 | 0,listed,σ=>Region.ready md ops listed=[]∧Q σ
 | fuel+1,listed,σ =>
  (Region.ready md ops listed=[]→Q σ) ∧
  ∀ i∈Region.ready md ops listed,dOp P W0 nt ops i (wpAnyD P W0 nt md ops Q fuel (listed.setIfInBounds i true)) σ
theorem wpOp_of_dOp {Γ:Ctx P W0 nt} {i:Nat} {a:Act} {σ:DSt} {w:World} {C:Nat→Nat} {K:DSt→Prop} {K':Act→World→Prop} {Q':Exit→Act→World→Prop} (hf:FR Γ w C σ a)
  (h:∀ σ a w C,FR Γ w C σ a→K σ→K' a w) (hh:dOp P W0 nt ops i K σ):wpOp P ops Q' i K' a w:=by
 unfold dOp at hh
 unfold wpOp
 split
 ·rename_i ho; rw [ho] at hh; exact h _ _ _ _ hf hh
 rename_i o ho
 rw [ho] at hh;obtain ⟨hd,d,hy,hK⟩:=hh
 rcases hy a w C _ hf.base hf.heap (fun i _=>hf.tmps i) with ⟨hw,hq⟩|⟨hw,hr⟩
 ·rw [if_pos hw];exact .inl (Oper.wp_mono (fun a' w' ⟨σ',C',h1,h2⟩=>h σ' a' w' C' h2 h1) (quiet_wp hf hd hK hq))
 rw [hw];exact h _ _ _ _ (hf.put hd hr) hK
theorem wpAny_of_D {Γ:Ctx P W0 nt} {Q:DSt→Prop} {Q':Exit→Act→World→Prop} (hQ:∀ σ a w C,FR Γ w C σ a→Q σ→Q' .normal a w):∀ (fuel:Nat) (listed:Array Bool) (σ:DSt) (a:Act) (w:World) (C:Nat→Nat),
  FR Γ w C σ a→wpAnyD P W0 nt md ops Q fuel listed σ→wpAny P md ops Q' fuel listed a w
 | 0,_,_,_,_,_,hf,h=>⟨h.1,hQ _ _ _ _ hf h.2⟩
 | fuel+1,_,_,_,_,_,hf,h=>⟨fun h0=>hQ _ _ _ _ hf (h.1 h0),fun i hi=>wpOp_of_dOp hf (fun σ' a' w' C' hf'=>wpAny_of_D hQ fuel _ σ' a' w' C' hf') (h.2 i hi)⟩
theorem wpAnyD_first {Q:DSt→Prop} {i:Nat} {oi:Oper} {v:D} (hi:ops[i]? = some oi) (hdi:okDst nt oi.dst=true) :
  ∀ (fuel:Nat) (listed:Array Bool) (σ:DSt),
   (∀ j oj,ops[j]? = some oj→j≠i→listed.getD j true=false→(∀ e∈oj.after,Region.binds md e=true→e.on≠i)→oi.apart ops oj=true) →
   i∈Region.ready md ops listed→DYields P W0 ops oi v σ →
   wpAnyD P W0 nt md ops Q fuel (listed.setIfInBounds i true) (σ.put oi.dst v)→wpAnyD P W0 nt md ops Q (fuel+1) listed σ:=by
 intro fuel
 induction fuel with
 | zero =>
  intro listed σ _ hr hy H
  refine ⟨fun h=>(by rw [h] at hr; cases hr),fun j hj=>?_⟩
  by_cases hji:j=i
  ·subst hji; exact hy.dOp hi hdi H
  have:=ready_mono hj hji
  rw [H.1] at this
  cases this
 | succ fuel ih =>
  intro listed σ hfree hr hy H
  refine ⟨fun h=>(by rw [h] at hr; cases hr),fun j hj=>?_⟩
  by_cases hji:j=i
  ·subst hji; exact hy.dOp hi hdi H
  have h1:=H.2 j (ready_mono hj hji)
  obtain ⟨hjun,oj,hoj,hall⟩:=mem_ready.1 hj
  have hnot:∀ e∈oj.after,Region.binds md e=true→e.on≠i:=fun e he hb heq=>by
   have h1:=hall e he hb
   have h0:=(mem_ready.1 hr).1
   rw [heq] at h1
   rcases Nat.lt_or_ge i listed.size with h'|h'
   ·simp [h'] at h0 h1; rw [h0] at h1; cases h1
   simp [Array.getElem?_eq_none h'] at h1
  have h2:=dOp_put hoj (hfree j oj hoj hji hjun hnot) hy h1
  have hfree':∀ k ok,ops[k]? = some ok→k≠i→(listed.setIfInBounds j true).getD k true=false →
    (∀ e∈ok.after,Region.binds md e=true→e.on≠i)→oi.apart ops ok=true:=fun k ok hk hki hun hno=>by
   refine hfree k ok hk hki ?_ hno
   by_cases hjk:j=k
   ·subst hjk; exact hjun
   rw [getD_set_ne true hjk] at hun; exact hun
  refine dOp_mono (fun σ' h3=>ih (listed.setIfInBounds j true) σ' hfree' (ready_mono hr (Ne.symm hji)) h3.1 ?_) h2;rw [Array.setIfInBounds_comm _ _ hji];exact h3.2
theorem dOp_of_vlist {ti:List TEnt} (hT:TOk P ti) {o:Oper} {l:List Oper} {σ:DSt} {K:DSt→Prop} (hqt:Op.isQuiet o.op=true) (hq:vlist P W0 ti nt ops (o::l) σ K) :
  okDst nt o.dst=true∧∃ d,DYields P W0 ops o d σ∧vlist P W0 ti nt ops l (σ.put o.dst d) K:=by
 change cond (okDst nt o.dst) _ False at hq
 replace hq:=bif_true hq
 obtain ⟨hd,hq⟩:=hq;refine ⟨hd,?_⟩
 have look:∀ (a:Act) (w:World) (C:Nat→Nat),(∀ i,i∈o.looksAt ops→Rep w C (σ.t i) (a.tmps.getD i undef))→∀ x∈o.op.operands,Rep w C (σ.ev x) (a.eval x):=by
  intro a w C h x hx
  cases x with
  | tmp t=>exact h t (List.mem_append_left _ (List.mem_filterMap.2 ⟨.tmp t,by simpa using hx,rfl⟩))
  | const v=>exact act_ev (σ:={ t:=fun _=>.any,H:=σ.H }) (fun _=>.any _) (.const v)
  | global g=>exact .raw _
  | func f=>exact act_ev (σ:={ t:=fun _=>.any,H:=σ.H }) (a:=a) (fun _=>.any _) (.func f)
 split at hq
 ·rename_i hg
  have hq':qop P W0 ti σ true o.op (fun d=>vlist P W0 ti nt ops l (σ.put o.dst d) K)∨(∃ x,(o.op=.move x∨o.op=.assign x)∧vlist P W0 ti nt ops l (σ.put o.dst (σ.ev x)) K):=by
   obtain ⟨dst,op,type,pos,after,guard⟩:=o
   unfold vstep at hq
   cases op<;>simp only [Op.isQuiet] at hq hqt
   case move x=>exact .inr ⟨x,.inl rfl,(force_iff _ _).1 hq⟩
   case assign x=>exact .inr ⟨x,.inr rfl,(force_iff _ _).1 hq⟩
   case call c =>
    obtain ⟨callee,args,argTypes⟩:=c;simp only at hq hqt
    split at hq
    ·simp at hqt
    exact .inl hq
   all_goals first
    | exact .inl hq
    | (cases hqt; done)
  rcases hq' with hq'|⟨x,hx,hq'⟩
  ·obtain ⟨d,hK,hd'⟩:=qop_sound hT hq';exact ⟨d,fun a w C Ft hb hr hρ=>.inl ⟨by simp [Region.wanted,hg],hd' rfl a.eval w C Ft hb hr (look a w C hρ)⟩,hK⟩
  refine ⟨_,fun a w C Ft hb hr hρ=>.inl ⟨by simp [Region.wanted,hg],?_⟩,hq'⟩
  have h1:=look a w C hρ x (by rcases hx with h|h<;>simp [h,Op.operands])
  obtain ⟨dst,op,type,pos,after,guard⟩:=o
  rcases hx with h|h<;>(simp only at h; subst h; exact QOut.same h1)
 rename_i j want hg
 split at hq
 ·exact hq.elim
 rename_i g hgd
 have gl:g∈o.looksAt ops:=by
  unfold Oper.looksAt
  rw [hg];exact List.mem_append_right _ (by simp [hgd])
 have fin:∀ h:Bool,(∀ (a:Act) (w:World) (C:Nat→Nat),(∀ i,i∈o.looksAt ops→Rep w C (σ.t i) (a.tmps.getD i undef))→Region.wanted o (yielded ops a.tmps)=h) →
   qop P W0 ti σ h o.op (fun d=>vlist P W0 ti nt ops l (σ.put o.dst (.cnd h d)) K)→∃ d,DYields P W0 ops o d σ∧vlist P W0 ti nt ops l (σ.put o.dst d) K:=by
  intro h hw hq;obtain ⟨d,hK,hd'⟩:=qop_sound hT hq;refine ⟨.cnd h d,fun a w C Ft hb hr hρ=>?_,hK⟩
  cases h with
  | true =>
   refine .inl ⟨hw a w C hρ,?_⟩
   have h1:=hd' rfl a.eval w C Ft hb hr (look a w C hρ)
   generalize (execOp a.eval o).run P w=r at *
   cases r with
   | halt _ _=>exact h1
   | ok n w' =>
    cases n with
    | value v=>obtain ⟨C',hr,hs⟩:=h1; exact ⟨C',.cndT _ _ hr,hs⟩
    | enter f args=>exact ⟨h1.1,h1.2.mono fun e w'' ⟨v,C'',he,hr,hs⟩=>⟨v,C'',he,.cndT _ _ hr,hs⟩⟩
    | _=>exact h1
  | false=>exact .inr ⟨hw a w C hρ,.cndF _⟩
 split at hq
 ·rename_i b hb
  have hy:∀ (a:Act) (w:World) (C:Nat→Nat),(∀ i,i∈o.looksAt ops→Rep w C (σ.t i) (a.tmps.getD i undef))→yielded ops a.tmps j=some b:=fun a w C h=>by
   have tv:=h g gl; rw [hb] at tv; exact yielded_bool hgd tv.bool_inv
  cases want with
  | true=>exact fin b (fun a w C h=>by simp only [Region.wanted,hg,hy a w C h]; cases b<;>rfl) hq
  | false=>exact fin (!b) (fun a w C h=>by simp only [Region.wanted,hg,hy a w C h]; cases b<;>rfl) hq
 ·rename_i c b hb
  have hy:∀ (a:Act) (w:World) (C:Nat→Nat),(∀ i,i∈o.looksAt ops→Rep w C (σ.t i) (a.tmps.getD i undef))→yielded ops a.tmps j=if c then some b else none:=fun a w C h=>by
   have tv:=h g gl; rw [hb] at tv
   cases c with
   | true =>
    have hv:a.tmps.getD g undef=.bool b:=by
     cases tv with
     | cndT _ _ h=>exact h.bool_inv
    rw [if_pos rfl]; exact yielded_bool hgd hv
   | false =>
    have hv:a.tmps.getD g undef=undef:=by
     generalize a.tmps.getD g undef=v at tv
     cases tv; rfl
    rw [if_neg (by simp)]; exact yielded_undef hgd hv
  cases want with
  | true=>exact fin (c&&b) (fun a w C h=>by simp only [Region.wanted,hg,hy a w C h]; cases b<;>cases c<;>rfl) hq
  | false=>exact fin (c&&!b) (fun a w C h=>by simp only [Region.wanted,hg,hy a w C h]; cases b<;>cases c<;>rfl) hq
 exact hq.elim
theorem wpAnyD_lex {ti:List TEnt} (hT:TOk P ti) {Q:DSt→Prop}:∀ (l:List Oper) (k:Nat) (listed:Array Bool) (σ:DSt),(∀ j,l[j]? = ops[k+j]?)→l.all (fun o=>Op.isQuiet o.op)=true →
  Region.lexFrom md ops l.length k listed=true→vlist P W0 ti nt ops l σ Q→wpAnyD P W0 nt md ops Q l.length listed σ
 | [],_,_,_,_,_,hB,h=>⟨by simpa [Region.lexFrom] using hB,h⟩
 | o::l,k,listed,σ,hl,hqt,hB,h=>by
  have h0:ops[k]? = some o:=by simpa using (hl 0).symm
  simp only [List.length_cons,Region.lexFrom,Bool.and_eq_true] at hB;obtain ⟨⟨hr,hf⟩,hB'⟩:=hB;simp only [List.all_cons,Bool.and_eq_true] at hqt;obtain ⟨hd,d,hy,hK⟩:=dOp_of_vlist hT hqt.1 h
  exact wpAnyD_first h0 hd l.length listed σ (Region.free_spec h0 hf) (by simpa using hr) hy
   (wpAnyD_lex hT l (k+1) _ _ (fun j=>by have:=hl (j+1); simpa [Nat.add_assoc,Nat.add_comm 1 j] using this) hqt.2 hB' hK)
def drawQ (ops:Array Oper):Bool:=Region.lexB .any ops&&ops.toList.all fun o=>Op.isQuiet o.op
theorem FR.drew {Γ:Ctx P W0 nt} {w:World} {C:Nat→Nat} {σ:DSt} {a:Act} (h:FR Γ w C σ a):FR Γ { w with drawn:=w.drawn+1 } C σ a:=h.step0 (Step.drew _ w C)
theorem Tri.draw {ti:List TEnt} (hT:TOk P ti) {Γ:Ctx P W0 nt} {id:Nat} {σ:DSt} {K:DExit→DSt→Prop} (hm:P.follows .mixedOrders=true) (hB:drawQ ops=true)
  (hq:vlist P W0 ti nt ops ops.toList σ (K .normal)):Tri Γ (.region id ops true) σ K :=
 ⟨fun a w C hf=>by
  simp only [drawQ,Region.lexB,Bool.and_eq_true] at hB;refine wp_region_any hm (wpAny_of_D (Γ:=Γ) (Q:=K .normal) (fun σ a w C hF hK=>⟨.normal,σ,C,rfl,hK,hF⟩) _ _ σ _ _ C hf.drew ?_)
  have:=wpAnyD_lex hT (md:=.any) (nt:=nt) ops.toList 0 (Array.replicate ops.size false) σ (by simp) hB.2 (by simpa using hB.1.2) hq
  simpa using this⟩
def wpAnyDL (P:Program) (W0:World) (nt:Nat) (md:Region.Mode) (ops:Array Oper) (n:Nat) (L:Array Bool→DSt→Prop):Nat→Array Bool→DSt→Prop
 | 0,listed,σ=>L listed σ
 | f+1,listed,σ =>
  Region.ready md ops listed≠[]∧∀ i∈Region.ready md ops listed,i<n∧dOp P W0 nt ops i (wpAnyDL P W0 nt md ops n L f (listed.setIfInBounds i true)) σ
theorem wpAny_of_DL {Γ:Ctx P W0 nt} {n g:Nat} {L:Array Bool→DSt→Prop} {Q':Exit→Act→World→Prop} (hL:∀ listed σ a w C,FR Γ w C σ a→L listed σ→wpAny P md ops Q' g listed a w) :
  ∀ (f:Nat) (listed:Array Bool) (σ:DSt) (a:Act) (w:World) (C:Nat→Nat),FR Γ w C σ a→wpAnyDL P W0 nt md ops n L f listed σ→wpAny P md ops Q' (f+g) listed a w
 | 0,listed,σ,a,w,C,hf,h=>by rw [Nat.zero_add]; exact hL _ _ _ _ _ hf h
 | f+1,listed,σ,a,w,C,hf,h=>by
  rw [show f+1+g=(f+g)+1 by omega];exact ⟨fun h0=>absurd h0 h.1,fun i hi=>wpOp_of_dOp hf (fun σ' a' w' C' hf' h'=>wpAny_of_DL hL f _ σ' a' w' C' hf' h') (h.2 i hi).2⟩
theorem wpAnyDL_first {n i:Nat} {oi:Oper} {v:D} {L:Array Bool→DSt→Prop} (hi:ops[i]? = some oi) (hdi:okDst nt oi.dst=true)
  (hs:Region.sinkB md ops n=true) (hc:Region.chainB md ops n=true) (hn:n<ops.size) (hin:i<n)
  (hdone:∀ listed σ,L listed σ→∀ j∈Region.ready md ops listed,n≤j) :
  ∀ (f:Nat) (listed:Array Bool) (σ:DSt),HeadInv md ops n listed →
   (∀ j oj,ops[j]? = some oj→j≠i→listed.getD j true=false→(∀ e∈oj.after,Region.binds md e=true→e.on≠i)→oi.apart ops oj=true) →
   i∈Region.ready md ops listed→DYields P W0 ops oi v σ →
   wpAnyDL P W0 nt md ops n L f (listed.setIfInBounds i true) (σ.put oi.dst v)→wpAnyDL P W0 nt md ops n L (f+1) listed σ:=by
 intro f
 induction f with
 | zero =>
  intro listed σ inv _ hr hy H
  have hun:=(mem_ready.1 hr).1
  refine ⟨fun h=>(by rw [h] at hr; cases hr),fun j hj=>?_⟩
  have hjn:j<n:=by
   rcases Nat.lt_or_ge j n with h|h
   ·exact h
   exact absurd hj (tail_waits hs hc hn inv _ i rfl hin hun j h)
  refine ⟨hjn,?_⟩
  by_cases hji:j=i
  ·subst hji; exact hy.dOp hi hdi H
  have:=hdone _ _ H j (ready_mono hj hji)
  omega
 | succ f ih =>
  intro listed σ inv hfree hr hy H
  have hun:=(mem_ready.1 hr).1
  refine ⟨fun h=>(by rw [h] at hr; cases hr),fun j hj=>?_⟩
  have hjn:j<n:=by
   rcases Nat.lt_or_ge j n with h|h
   ·exact h
   exact absurd hj (tail_waits hs hc hn inv _ i rfl hin hun j h)
  refine ⟨hjn,?_⟩
  by_cases hji:j=i
  ·subst hji; exact hy.dOp hi hdi H
  have h1:=(H.2 j (ready_mono hj hji)).2
  obtain ⟨hjun,oj,hoj,hall⟩:=mem_ready.1 hj
  have hnot:∀ e∈oj.after,Region.binds md e=true→e.on≠i:=fun e he hb heq=>by
   have h1:=hall e he hb
   rw [heq,getD_both hun] at h1
   cases h1
  have h2:=dOp_put hoj (hfree j oj hoj hji hjun hnot) hy h1
  have hfree':∀ k ok,ops[k]? = some ok→k≠i→(listed.setIfInBounds j true).getD k true=false →
    (∀ e∈ok.after,Region.binds md e=true→e.on≠i)→oi.apart ops ok=true:=fun k ok hk hki hun hno=>by
   refine hfree k ok hk hki ?_ hno
   by_cases hjk:j=k
   ·subst hjk; exact hjun
   rw [getD_set_ne true hjk] at hun; exact hun
  refine dOp_mono (fun σ' h3=>ih (listed.setIfInBounds j true) σ' (inv.set hj hjn) hfree' (ready_mono hr (Ne.symm hji)) h3.1 ?_) h2;rw [Array.setIfInBounds_comm _ _ hji];exact h3.2
theorem wpAnyDL_lex {ti:List TEnt} (hT:TOk P ti) {n g:Nat} {r:List Oper} {Q:DSt→Prop} (hs:Region.sinkB md ops n=true) (hc:Region.chainB md ops n=true) (hn:n<ops.size) :
  ∀ (l:List Oper) (k:Nat) (listed:Array Bool) (σ:DSt),(∀ j,j<l.length→l[j]? = ops[k+j]?)→l.all (fun o=>Op.isQuiet o.op)=true→k+l.length=n→HeadInv md ops n listed →
  Region.lexHead md ops g l.length k listed=true→vlist P W0 ti nt ops (l++r) σ Q →
  wpAnyDL P W0 nt md ops n (fun listed' σ'=>Region.seqB md ops g n listed'=true∧vlist P W0 ti nt ops r σ' Q) l.length listed σ
 | [],k,listed,σ,_,_,hk,_,hB,h=>by
  have:k=n:=by simpa using hk
  subst this;exact ⟨by simpa [Region.lexHead] using hB,h⟩
 | o::l,k,listed,σ,hl,hqt,hk,inv,hB,h=>by
  have h0:ops[k]? = some o:=by simpa using (hl 0 (by simp)).symm
  simp only [List.length_cons,Region.lexHead,Bool.and_eq_true] at hB;obtain ⟨⟨hr,hf⟩,hB'⟩:=hB;simp only [List.all_cons,Bool.and_eq_true] at hqt
  have hkn:k<n:=by simp only [List.length_cons] at hk; omega
  have hr':k∈Region.ready md ops listed:=by simpa using hr
  obtain ⟨hd,d,hy,hK⟩:=dOp_of_vlist (l:=l++r) hT hqt.1 h
  exact wpAnyDL_first h0 hd hs hc hn hkn (fun listed' σ' hL=>seqB_ready hL.1) l.length listed σ inv (Region.free_spec h0 hf) hr' hy
   (wpAnyDL_lex hT hs hc hn l (k+1) _ _ (fun j hj=>by have:=hl (j+1) (by simp; omega); simpa [Nat.add_assoc,Nat.add_comm 1 j] using this) hqt.2 (by simp only [List.length_cons] at hk; omega) (inv.set hr' hkn) hB' hK)
def drawT (ops:Array Oper) (n:Nat):Bool:=Region.lexTailB .any ops n&&(ops.toList.take n).all fun o=>Op.isQuiet o.op
variable {P:Program} {W0:World} {nt:Nat}
theorem Tri.cond {Γ:Ctx P W0 nt} {c:Operand} {x y:Code} {σ:DSt} {K:DExit→DSt→Prop} (t:Bool) (hc:σ.ev c=.bool t) (h1:t=true→Tri Γ x σ K) (h2:t=false→Tri Γ y σ K) :
  Tri Γ (.cond c x y) σ K :=
 ⟨fun a w C hf=>by
  have hv:=act_ev hf.tmps c
  rw [hc] at hv
  exact wp_cond_split hv.bool_inv (fun h=>(h1 h).run a w C hf) (fun h=>(h2 h).run a w C hf)⟩
def resD (ti:List TEnt) (σ:DSt):List ResultVar→(List D→Prop)→Prop
 | [],k=>k []
 | .tmp t::r,k=>resD ti σ r fun ds=>k (σ.t t::ds)
 | .cell a ty::r,k=>match tget ti ty,σ.t a with
  | some e,.box s b off=>match σ.H s with
   | some (.box b' cs)=>b=b'∧partC e off cs fun d=>resD ti σ r fun ds=>k (d::ds)
   | _=>False
  | _,_=>False
def resP (ti:List TEnt) (σ:DSt) (rs:List ResultVar) (d:D):Prop :=
 resD ti σ rs fun ds=>match ds with
  | [x]=>DLe x d
  | ds=>match d with
   | .tup es=>LeL ds es
   | _=>False
def bodyK (ti:List TEnt) (rs:List ResultVar) (d:D):DExit→DSt→Prop
 | .exit _,_=>False
 | .normal,σ=>resP ti σ rs d
 | .ret,σ=>resP ti σ rs d
def resF (tmps:Array Value):ResultVar→Sem Value
 | .tmp t=>pure (tmps.getD t undef)
 | .cell b t=>do loadVar t (← asAddr (tmps.getD b undef))
theorem resD_sound {ti:List TEnt} (hT:TOk P ti) {σ:DSt} {w:World} {C:Nat→Nat} {a:Act} (ht:∀ i,Rep w C (σ.t i) (a.tmps.getD i undef)) {Ft:Nat→Prop} (hH:HRel Ft w C σ.H) :
  ∀ {rs:List ResultVar} {k:List D→Prop} (_:resD ti σ rs k),∃ ds vs,k ds∧RepL w C ds vs ∧
   (rs.mapM (resF a.tmps)).run P w=.ok vs w∧vs.length=rs.length
 | [],k,hk=>⟨[],[],hk,.nil _ _,by simp,rfl⟩
 | .tmp t::r,k,hk=>by
  obtain ⟨ds,vs,h1,h2,h3,h4⟩:=resD_sound hT ht hH (rs:=r) hk;refine ⟨_,a.tmps.getD t undef::vs,h1,.cons (ht t) h2,?_,by simp [h4]⟩;simp only [List.mapM_cons,Sem.run_bind,resF,Sem.run_pure,Result.andThen_ok,h3]
 | .cell b ty::r,k,hk=>by
  simp only [resD] at hk
  split at hk
  ·rename_i e s b' off he hb
   obtain ⟨heo,rfl⟩:=hT.get he
   split at hk
   ·rename_i b'' cs hHs
    obtain ⟨rfl,hk⟩:=hk;obtain ⟨d,hk,hd⟩:=partC_sound (P:=P) heo hk;obtain ⟨ds,vs,h1,h2,h3,h4⟩:=resD_sound hT ht hH (rs:=r) hk;obtain ⟨us,el,hbk,hrl,_⟩:=hH.obj s _ hHs
    have hp:=ht b
    rw [hb] at hp
    have hp:=hp.box_inv
    obtain ⟨v,hv,hr⟩:=hd w C b' 0 (fun j=>us.getD j undef) (fun j d hd=>by
      have hj:=lt_of_get hd
      rw [hrl.1] at hj
      have hv:us[j]? = some us[j]:=List.getElem?_eq_getElem hj
      have hv':us.getD j undef=us[j]:=by simp [List.getD,hv]
      refine ⟨?_,?_⟩
      ·simp only [World.cell?,hbk,Nat.zero_add,hv']
       simp [hj]
      rw [hv']; exact hrl.2 j d _ hd hv)
    refine ⟨_,v::vs,h1,.cons hr h2,?_,by simp [h4]⟩;simp only [Nat.zero_add,Instr.loadAt,Instr.sureAddr,Sem.run_bind,Sem.run_pure,Result.andThen_ok] at hv
    have hasA:asAddr (.pointer (some ⟨b',off,none⟩))=pure ⟨b',off,none⟩:=rfl
    simp only [List.mapM_cons,Sem.run_bind,resF,hp,hasA,Sem.run_pure,Result.andThen_ok,hv,h3]
   exact hk.elim
  exact hk.elim
theorem resP_sound {ti:List TEnt} (hT:TOk P ti) {σ:DSt} {w:World} {C:Nat→Nat} {a:Act} (ht:∀ i,Rep w C (σ.t i) (a.tmps.getD i undef)) {Ft:Nat→Prop} (hH:HRel Ft w C σ.H) {fn:Func} {d:D}
  (h:resP ti σ fn.results.toList d):∃ v,(results fn a.tmps).run P w=.ok v w∧Rep w C d v:=by
 obtain ⟨ds,vs,h1,h2,h3,h4⟩:=resD_sound (P:=P) hT ht hH h
 have hrun:∀ (us:List Value) (u:Value),us=vs→(if h:(⟨us⟩:Array Value).size=1 then (⟨us⟩:Array Value)[0] else .tuple ⟨us⟩)=u→(results fn a.tmps).run P w=.ok u w:=by
  intro us u hus hu;subst hus
  have e:results fn a.tmps=(fn.results.mapM (resF a.tmps) >>= fun vs=>pure (if h:vs.size=1 then vs[0] else .tuple vs)):=by
   unfold results; congr 2
  rw [e,Sem.run_bind,Array.mapM_eq_mapM_toList];simp only [Sem.run_map,h3,Result.andThen_ok,Sem.run_pure];rw [← hu]
 cases ds with
 | nil =>
  cases vs with
  | cons _ _=>have:=h2.1; simp at this
  | nil =>
   simp only at h1
   split at h1
   ·rename_i _ es
    have h5:=h1.repL h2
    exact ⟨.tuple ⟨[]⟩,hrun [] _ rfl rfl,.tup _ [] h5.1 h5.2⟩
   exact h1.elim
 | cons x ds =>
  cases vs with
  | nil=>have:=h2.1; simp at this
  | cons v vs =>
   cases ds with
   | nil =>
    cases vs with
    | cons _ _=>have:=h2.1; simp at this
    | nil=>exact ⟨v,hrun [v] v rfl rfl,h1.le _ _ _ h2.head⟩
   | cons y ds =>
    cases vs with
    | nil=>have:=h2.1; simp at this
    | cons u vs =>
     simp only at h1
     split at h1
     ·have h5:=h1.repL h2
      exact ⟨.tuple ⟨v::u::vs⟩,hrun (v::u::vs) _ rfl (by rw [dif_neg (by simp)]),.tup _ _ h5.1 h5.2⟩
     exact h1.elim
def initT:List D→Nat→D
 | [],_=>.any
 | d::_,0=>d
 | _::r,n+1=>initT r n
theorem initT_get:∀ (ds:List D) (i:Nat),initT ds i=(ds[i]?).getD .any
 | [],_=>by simp [initT]
 | d::_,0=>by simp [initT]
 | _::r,n+1=>by simp [initT,initT_get r n]
def entry (ds:List D) (H:Heap):DSt:={ t:=initT ds,H }
theorem DFun.intro {ti : List TEnt} (hT : TOk P ti) {f : FuncId} {fn : Func} {body : Code} {ds : List D} {d : D} (hf : P.funcs[f]? = some fn) (hb : fn.body = some body) (hn : (fn.name == "runtime.NumGoroutine") = false)
  (hnt:fn.ntmps=nt) (hl:Nat.ble ds.length nt=true) (h:∀ Γ:Ctx P W0 nt,Tri Γ body (entry ds Heap.none) (bodyK ti fn.results.toList d)):DFun P W0 f ds d:=by
 refine ⟨⟨fn,hf,by simp [hb],hn⟩,fun w C args hbase hr=>?_⟩
 have hl':=Nat.le_of_ble_eq_true hl
 have hlen:=hr.1
 let Γ:Ctx P W0 nt:=⟨w,C,fun _=>False,hbase,fun _ h=>h.elim⟩
 refine calls_of_wp hf hb ?_
 have hf0:FR Γ w C (entry ds Heap.none) { tmps:=⟨args⟩++Array.replicate (fn.ntmps-(⟨args⟩:Array Value).size) undef,defers:=[] }:=by
  refine ⟨fun i=>?_,.none _ _ _,by simp [hnt]; omega,rfl,.refl _ _ _⟩
  simp only [entry,initT_get]
  by_cases hi:i<args.length
  ·obtain ⟨d,hd⟩:=getElem?_of_lt (l:=ds) (i:=i) (by omega)
   have hv:args[i]? = some args[i]:=List.getElem?_eq_getElem hi
   have:=hr.2 i d _ hd hv
   simpa [hd,Array.getElem?_append,hi] using this
  rw [List.getElem?_eq_none (by omega)];exact .any _
 refine wp_mono ((h Γ).run _ w C hf0) ?_;rintro e a' w' ⟨de,σ',C',rfl,hK,hF⟩
 have hend:resP ti σ' fn.results.toList d→a'.defers=[]∧∃ v,(results fn a'.tmps).run P w'=.ok v w'∧∃ v' C',Ending.returned v=.returned v'∧Rep w' C' d v'∧Step (fun _=>False) w C w' C':=by
  intro hres;obtain ⟨v,hv,hrep⟩:=resP_sound (P:=P) hT hF.tmps hF.heap hres;exact ⟨hF.defers,v,hv,v,C',rfl,hrep,hF.step⟩
 cases de with
 | normal=>exact hend hK
 | ret=>exact hend hK
 | exit id=>exact hK.elim
def handed (H:Heap):List (Nat×Nat)→Heap
 | [],_=>none
 | (k,s)::r,j=>cond (Nat.beq j k) (H s) (handed H r j)
def back (H H':Heap):List (Nat×Nat)→Heap
 | [],j=>H j
 | (k,s)::r,j=>cond (Nat.beq j s) (H' k) (back H H' r j)
def keysOk:List (Nat×Nat)→Bool
 | []=>true
 | (k,s)::r=>r.all (fun x=>!Nat.beq x.1 k&&!Nat.beq x.2 s)&&keysOk r
theorem handed_spec {H:Heap}:∀ {m:List (Nat×Nat)} {j:Nat} {o:HObj},handed H m j=some o→∃ s,(j,s)∈m∧H s=some o
 | [],_,_,h=>by cases h
 | (k,s)::r,j,o,h=>by
  simp only [handed] at h
  cases hb:Nat.beq j k with
  | true=>rw [hb] at h; have:=beq_true hb; subst this; exact ⟨s,List.mem_cons_self,h⟩
  | false=>rw [hb] at h; obtain ⟨s',h1,h2⟩:=handed_spec (m:=r) h; exact ⟨s',List.mem_cons_of_mem _ h1,h2⟩
theorem back_spec {H H':Heap}:∀ {m:List (Nat×Nat)} {j:Nat} {o:HObj},back H H' m j=some o→(∃ k,(k,j)∈m∧H' k=some o)∨((∀ k,(k,j)∉m)∧H j=some o)
 | [],_,_,h=>.inr ⟨fun _ hm=>(by cases hm),h⟩
 | (k,s)::r,j,o,h=>by
  simp only [back] at h
  cases hb:Nat.beq j s with
  | true=>rw [hb] at h; have:=beq_true hb; subst this; exact .inl ⟨k,List.mem_cons_self,h⟩
  | false =>
   rw [hb] at h
   rcases back_spec (m:=r) h with ⟨k',h1,h2⟩|⟨h1,h2⟩
   ·exact .inl ⟨k',List.mem_cons_of_mem _ h1,h2⟩
   refine .inr ⟨fun k' hm=>?_,h2⟩
   rcases List.mem_cons.1 hm with he|hm
   ·cases he; rw [Nat.beq_refl] at hb; cases hb
   exact h1 k' hm
theorem keysOk_spec:∀ {m:List (Nat×Nat)},keysOk m=true→∀ k s k' s',(k,s)∈m→(k',s')∈m→(k=k'↔s=s')
 | [],_,_,_,_,_,h,_=>by cases h
 | (a,b)::r,h,k,s,k',s',h1,h2=>by
  simp only [keysOk,Bool.and_eq_true,List.all_eq_true,Bool.not_eq_true'] at h
  have hne:∀ x∈r,x.1≠a∧x.2≠b:=fun x hx=>by
   obtain ⟨h3,h4⟩:=h.1 x hx
   exact ⟨fun e=>(by rw [e,Nat.beq_refl] at h3; cases h3),fun e=>(by rw [e,Nat.beq_refl] at h4; cases h4)⟩
  rcases List.mem_cons.1 h1 with e1|h1<;>rcases List.mem_cons.1 h2 with e2|h2
  ·cases e1; cases e2; simp
  ·cases e1
   have:=hne _ h2
   exact ⟨fun e=>absurd e.symm this.1,fun e=>absurd e.symm this.2⟩
  ·cases e2
   have:=hne _ h1
   exact ⟨fun e=>absurd e this.1,fun e=>absurd e this.2⟩
  exact keysOk_spec h.2 k s k' s' h1 h2
theorem call_wp {Γ:Ctx P W0 nt} {w:World} {C:Nat→Nat} {σ:DSt} {a:Act} (hf:FR Γ w C σ a) {m:List (Nat×Nat)} (hm:keysOk m=true) {f:FuncId} {ds:List D} {args:List Value} {Q:D→Heap→Prop}
  (hc:DCall P W0 f ds (handed σ.H m) Q) (hr:RepL w C ds args) {dst:Option Tmp} (hd:okDst nt dst=true) {K:DSt→Prop} (hK:∀ d H',Q d H'→∃ d',DLe d d'∧K (({ t:=σ.t,H:=back σ.H H' m }:DSt).put dst d')) :
  Calls P f ⟨args⟩ w fun e w'=>∃ v,e=.returned v∧∃ σ' C',K σ'∧FR Γ w' C' σ' (a.put dst v):=by
 let Ft:Nat→Prop:=fun b=>∃ k s o,(k,s)∈m∧σ.H s=some o∧o.uses b
 have hFt:∀ b,Ft b→Γ.Foot b:=fun b ⟨k,s,o,_,h1,h2⟩=>hf.heap.foot s o b h1 h2
 have hH:HRel Ft w C (handed σ.H m):=by
  refine ⟨fun j o ho=>?_,fun j j' o o' b hne h1 h2 hu hu'=>?_,fun j o b ho hu=>?_⟩
  ·obtain ⟨s,_,h⟩:=handed_spec ho; exact hf.heap.obj s o h
  ·obtain ⟨s,hs,h⟩:=handed_spec h1;obtain ⟨s',hs',h'⟩:=handed_spec h2
   have hss:s≠s':=fun e=>hne ((keysOk_spec hm j s j' s' hs hs').2 e)
   exact hf.heap.inj s s' o o' b hss h h' hu hu'
  obtain ⟨s,hs,h⟩:=handed_spec ho; exact ⟨j,s,o,hs,h,hu⟩
 refine (hc.2 w C args Ft hf.base (fun b hb=>Γ.foot_low (hFt b hb)) hH hr).mono ?_;rintro e w' ⟨v,d,C',H',rfl,hQ,hrep,hs,hH'⟩;obtain ⟨d',hle,hK⟩:=hK d H' hQ;refine ⟨v,rfl,_,C',hK,FR.put ?_ hd (hle.le _ _ _ hrep)⟩
 have hkeep:∀ j o,(∀ k,(k,j)∉m)→σ.H j=some o→∀ b,o.uses b→¬ Ft b∧b<w.heap.size:=fun j o hj ho b hb =>
  ⟨fun ⟨k,s,o',h1,h2,h3⟩=>hf.heap.inj j s o o' b (fun e=>by subst e; exact hj k h1) ho h2 hb h3,(hf.heap.obj j o ho).lt hb⟩
 refine ⟨fun i=>(hf.tmps i).ext hs.ext,⟨fun j o ho=>?_,fun j j' o o' b hne h1 h2 hu hu'=>?_,fun j o b ho hu=>?_⟩,hf.size,hf.defers,?_⟩
 ·rcases back_spec ho with ⟨k,_,h⟩|⟨hj,h⟩
  ·exact hH'.obj k o h
  exact (hf.heap.obj j o h).keep hs.ext fun b hb=>hs.keep b (hkeep j o hj h b hb).2 (hkeep j o hj h b hb).1
 ·rcases back_spec h1 with ⟨k,hk,h⟩|⟨hj,h⟩<;>rcases back_spec h2 with ⟨k',hk',h'⟩|⟨hj',h'⟩
  ·exact hH'.inj k k' o o' b (fun e=>hne ((keysOk_spec hm k j k' j' hk hk').1 e)) h h' hu hu'
  ·obtain ⟨h3,h4⟩:=hkeep j' o' hj' h' b hu'
   rcases hH'.foot k o b h hu with h5|h5
   ·exact h3 h5
   omega
  ·obtain ⟨h3,h4⟩:=hkeep j o hj h b hu
   rcases hH'.foot k' o' b h' hu' with h5|h5
   ·exact h3 h5
   omega
  exact hf.heap.inj j j' o o' b hne h h' hu hu'
 ·rcases back_spec ho with ⟨k,_,h⟩|⟨hj,h⟩
  ·rcases hH'.foot k o b h hu with h5|h5
   ·exact hFt b h5
   exact .inr (Nat.le_trans hf.step.ext.size h5)
  exact hf.heap.foot j o b h hu
 exact hf.step.trans hs fun b hb hF=>by
  rcases hFt b hF with h|h
  ·exact h
  omega
def vstepE (P:Program) (W0:World) (ti:List TEnt) (σ:DSt) (dst:Option Tmp) (op:Op) (K:DSt→Prop):Prop :=
 match op with
 | .call c=>match c.callee,c.args.toList with
  | .value f,args=>vstep P W0 ti σ dst op K∨opn true (σ.ev f) fun f=>match f with
   | .fn (.func fid) first caps=>evs true σ args fun as0=>∃ (as0':List D) (m:List (Nat×Nat)) (Q:D→Heap→Prop),DCall P W0 fid as0' (handed σ.H m) Q∧keysOk m=true∧LeL (first++as0++caps) as0' ∧
     ∀ d H',Q d H'→∃ d',DLe d d'∧K (({ t:=σ.t,H:=back σ.H H' m }:DSt).put dst d')
   | _=>False
  | _,_=>vstep P W0 ti σ dst op K
 | op=>vstep P W0 ti σ dst op K
theorem vstepE_sound {ti:List TEnt} (hT:TOk P ti) {Γ:Ctx P W0 nt} {w:World} {C:Nat→Nat} {σ:DSt} {a:Act} (hf:FR Γ w C σ a) {o:Oper} (hd:okDst nt o.dst=true) {K:DSt→Prop}
  (hq:vstepE P W0 ti σ o.dst o.op K) (Q:Exit→Act→World→Prop):o.wp P a w (fun a' w'=>∃ σ' C',K σ'∧FR Γ w' C' σ' a') Q:=by
 obtain ⟨dst,op,type,pos,after,guard⟩:=o
 unfold vstepE at hq
 cases op<;>simp only at hq
 case call c =>
  obtain ⟨callee,args,argTypes⟩:=c;simp only at hq
  split at hq
  ·rename_i f
   rcases hq with hq|hq
   ·exact vstep_sound hT hf hd hq Q
   replace hq:=opn_elim hq
   obtain ⟨df,hq,hdf⟩:=hq
   split at hq
   ·rename_i fid first caps
    replace hq:=evs_elim hq
    obtain ⟨as0,hq,has⟩:=hq;obtain ⟨as0',m,Q',hc,hm,hle,hK⟩:=hq;obtain ⟨vf,vc,hv,h1,h2⟩:=(hdf rfl w C _ (act_ev hf.tmps f)).fn_inv
    have h3:=has rfl w C a.eval (fun x _=>act_ev hf.tmps x)
    have h4:=hle.repL ((h1.append h3).append h2)
    obtain ⟨fn,hfn,hbody,hname⟩:=hc.1
    have hb:fn.body.isNone=false:=by cases hb:fn.body<;>simp [hb] at hbody ⊢
    have hrun:(execOp a.eval ⟨dst,.call ⟨.value f,args,argTypes⟩,type,pos,after,guard⟩).run P w=.ok (.enter fid ⟨vf++args.toList.map a.eval++vc⟩) w:=by
     simp only [execOp,resolve,hv,Deferred.ofValue,Sem.run_bind,Sem.run_pure,Result.andThen_ok,invoke,callFunc,run_program,hfn,hname,hb,Bool.false_eq_true,if_false]
     congr 2
     apply Array.ext'; simp
    simp only [Oper.wp,hrun,Oper.upon]
    exact (call_wp hf hm hc h4 hd hK).mono fun e w' ⟨v,he,h⟩=>by subst he; exact h
   exact hq.elim
  exact vstep_sound hT hf hd hq Q
 all_goals exact vstep_sound hT hf hd hq Q
def vlistE (P:Program) (W0:World) (ti:List TEnt) (nt:Nat):List Oper→DSt→(DSt→Prop)→Prop
 | [],σ,K=>K σ
 | ⟨dst,op,_,_,_,guard⟩::rest,σ,K=>cond (okDst nt dst) (match guard with
  | none=>vstepE P W0 ti σ dst op fun σ'=>vlistE P W0 ti nt rest σ' K
  | some _=>False) False
theorem vlistE_seq {ti:List TEnt} (hT:TOk P ti) {Γ:Ctx P W0 nt} {ops:Array Oper} {Q:Exit→Act→World→Prop} {K:DSt→Prop} (hQ:∀ σ' a' w' C',K σ'→FR Γ w' C' σ' a'→Q .normal a' w') :
  ∀ {l:List Oper} {σ:DSt} (_:vlistE P W0 ti nt l σ K) {a:Act} {w:World} {C:Nat→Nat} (_:FR Γ w C σ a),wpList P ops Q l a w
 | [],_,hq,_,_,_,hf=>hQ _ _ _ _ hq hf
 | o::rest,σ,hq,a,w,C,hf=>by
  change cond (okDst nt o.dst) _ False at hq
  replace hq:=bif_true hq
  obtain ⟨hd,hq⟩:=hq
  unfold wpList
  split at hq
  ·rename_i hg
   rw [if_pos (by simp [Region.wanted,hg])];exact .inl (Oper.wp_mono (fun a' w' ⟨σ',C',h1,h2⟩=>vlistE_seq hT hQ h1 h2) (vstepE_sound hT hf hd hq Q))
  exact hq.elim
theorem Tri.regionE {ti:List TEnt} (hT:TOk P ti) {Γ:Ctx P W0 nt} {id:Nat} {ops:Array Oper} {σ:DSt} {K:DExit→DSt→Prop} (hq:vlistE P W0 ti nt ops.toList σ (K .normal)):Tri Γ (.region id ops false) σ K :=
 ⟨fun _ _ _ hf=>wp_region_list (vlistE_seq hT (fun σ' _ _ C' hK hF=>⟨.normal,σ',C',rfl,hK,hF⟩) hq hf)⟩
theorem Tri.drawTailE {ti:List TEnt} (hT:TOk P ti) {Γ:Ctx P W0 nt} {id:Nat} {ops:Array Oper} {σ:DSt} {K:DExit→DSt→Prop} (n:Nat) (hm:P.follows .mixedOrders=true) (hB:drawT ops n=true)
  (hq:vlist P W0 ti nt ops (ops.toList.take n) σ fun σ'=>vlistE P W0 ti nt (ops.toList.drop n) σ' (K .normal)):Tri Γ (.region id ops true) σ K :=
 ⟨fun a w C hf=>by
  obtain ⟨l⟩:=ops;simp only [drawT,Region.lexTailB,Bool.and_eq_true,decide_eq_true_eq] at hB;obtain ⟨⟨⟨⟨⟨hsel,hn⟩,hs⟩,hc⟩,hlex⟩,hqt⟩:=hB
  have hn':n<l.length:=by simpa using hn
  have htl:(l.take n).length=n:=by simp; omega
  have hdl:(l.drop n).length=(⟨l⟩:Array Oper).size-n:=by simp
  have inv0:HeadInv .any ⟨l⟩ n (Array.replicate (⟨l⟩:Array Oper).size false) :=
   ⟨by simp,fun j oj _ hl=>(by rw [getD_replicate_false] at hl; cases hl),fun t _ ht=>getD_in (by simpa using ht) (getD_replicate_false _ _)⟩
  have H:=wpAnyDL_lex (md:=.any) (g:=(⟨l⟩:Array Oper).size-n) (r:=[]) (nt:=nt) (Q:=fun σ'=>vlistE P W0 ti nt (l.drop n) σ' (K .normal)) hT hs hc hn (l.take n) 0 _ σ (fun j hj=>by
   have hj':j<n:=by rw [htl] at hj; exact hj
   simp [hj']) hqt (by simpa using htl) inv0 (by rw [htl]; exact hlex) (by rw [List.append_nil]; exact hq)
  refine wp_region_any hm ?_
  have:=wpAny_of_DL (Γ:=Γ) (Q':=fun e a' w'=>∃ de σ' C',e=DExit.to de∧K de σ'∧FR Γ w' C' σ' a') (g:=(⟨l⟩:Array Oper).size-n) (fun listed σ' a' w' C' hF hL=>by
   have:=wpAny_of_seq (md:=.any) (ops:=⟨l⟩) (P:=P) (Q':=fun e a' w'=>∃ de σ' C',e=DExit.to de∧K de σ'∧FR Γ w' C' σ' a') (l.drop n) n listed a' w' (fun j=>by simp [List.getElem?_drop]) (by rw [hdl]; exact hL.1)
    (vlistE_seq (l:=l.drop n) hT (fun σ'' _ _ C'' hK hF'=>⟨.normal,σ'',C'',rfl,hK,hF'⟩) (show vlistE P W0 ti nt (l.drop n) σ' (K .normal) from hL.2) hF)
   rwa [hdl] at this) _ _ σ a _ C hf.drew H
  rw [htl,show n+((⟨l⟩:Array Oper).size-n)=(⟨l⟩:Array Oper).size by omega] at this
  exact this⟩
def bodyC (ti:List TEnt) (rs:List ResultVar) (Q:D→Heap→Prop):DExit→DSt→Prop
 | .exit _,_=>False
 | .normal,σ=>∃ d,resP ti σ rs d∧Q d σ.H
 | .ret,σ=>∃ d,resP ti σ rs d∧Q d σ.H
theorem DCall.intro {ti:List TEnt} (hT:TOk P ti) {f:FuncId} {fn:Func} {body:Code} {ds:List D} {H:Heap} {Q:D→Heap→Prop} (hf:P.funcs[f]? = some fn) (hb:fn.body=some body)
  (hn : (fn.name == "runtime.NumGoroutine") = false) (hnt : fn.ntmps = nt) (hl : Nat.ble ds.length nt = true) (h : ∀ Γ : Ctx P W0 nt, Tri Γ body (entry ds H) (bodyC ti fn.results.toList Q)) : DCall P W0 f ds H Q := by
 refine ⟨⟨fn,hf,by simp [hb],hn⟩,fun w C args Ft hbase hlow hH hr=>?_⟩
 have hl':=Nat.le_of_ble_eq_true hl
 have hlen:=hr.1
 let Γ:Ctx P W0 nt:=⟨w,C,Ft,hbase,hlow⟩
 refine calls_of_wp hf hb ?_
 have hf0:FR Γ w C (entry ds H) { tmps:=⟨args⟩++Array.replicate (fn.ntmps-(⟨args⟩:Array Value).size) undef,defers:=[] }:=by
  refine ⟨fun i=>?_,⟨hH.obj,hH.inj,fun s o b ho hu=>.inl (hH.foot s o b ho hu)⟩,by simp [hnt]; omega,rfl,.refl _ _ _⟩
  simp only [entry,initT_get]
  by_cases hi:i<args.length
  ·obtain ⟨d,hd⟩:=getElem?_of_lt (l:=ds) (i:=i) (by omega)
   have hv:args[i]? = some args[i]:=List.getElem?_eq_getElem hi
   have:=hr.2 i d _ hd hv
   simpa [hd,Array.getElem?_append,hi] using this
  rw [List.getElem?_eq_none (by omega)];exact .any _
 refine wp_mono ((h Γ).run _ w C hf0) ?_;rintro e a' w' ⟨de,σ',C',rfl,hK,hF⟩
 have hend:(∃ d,resP ti σ' fn.results.toList d∧Q d σ'.H)→a'.defers=[]∧∃ v,(results fn a'.tmps).run P w'=.ok v w'∧∃ v' d C' H',Ending.returned v=.returned v'∧Q d H'∧Rep w' C' d v'∧Step Ft w C w' C' ∧
   HRel (fun b=>Ft b∨w.heap.size≤b) w' C' H':=by
  rintro ⟨d,hres,hQ⟩;obtain ⟨v,hv,hrep⟩:=resP_sound (P:=P) hT hF.tmps hF.heap hres;exact ⟨hF.defers,v,hv,v,d,C',σ'.H,rfl,hQ,hrep,hF.step,hF.heap⟩
 cases de with
 | normal=>exact hend hK
 | ret=>exact hend hK
 | exit id=>exact hK.elim
theorem DCall.mono {f:FuncId} {ds:List D} {H:Heap} {Q Q':D→Heap→Prop} (h:DCall P W0 f ds H Q) (hq:∀ d H,Q d H→Q' d H):DCall P W0 f ds H Q' :=
 ⟨h.1,fun w C args Ft h1 h2 h3 h4=>(h.2 w C args Ft h1 h2 h3 h4).mono fun _ _ ⟨v,d,C',H',he,hQ,hr⟩=>⟨v,d,C',H',he,hq d H' hQ,hr⟩⟩
variable {P:Program} {W0:World} {nt:Nat} {Γ:Ctx P W0 nt} {σ:DSt} {K:DExit→DSt→Prop}
def freshSl (d:D) (k:Nat):Option (List D) :=
 match d with
 | .nils=>some []
 | .sl .full k' xs=>cond (Nat.beq k k') (some xs) none
 | _=>none
theorem FR.own {w:World} {C:Nat→Nat} {a:Act} (hf:FR Γ w C σ a) (s k e:Nat) {j:Nat} {xs:List D} (hd:freshSl (σ.t j) k=some xs) :
  ∃ v,FR Γ w C { t:=fun i=>cond (Nat.beq i j) (.sl (.own s v) k xs) (σ.t i),H:=fun i=>cond (Nat.beq i s) (some (.own v xs.length k e)) (σ.H i) } a:=by
 have hj:=hf.tmps j
 have key:∀ v,a.tmps.getD j undef=v→Rep w C (.sl (.own s v) k xs) v→(∃ a' n,v=.slice a' n n∧n=xs.length∧n≤maxLen) →
   FR Γ w C { t:=fun i=>cond (Nat.beq i j) (.sl (.own s v) k xs) (σ.t i),H:=fun i=>cond (Nat.beq i s) (some (.own v xs.length k e)) (σ.H i) } a:=by
  rintro v hv hr ⟨a',n,rfl,rfl,hm⟩
  have hnu:∀ b,¬ (HObj.own (Value.slice a' xs.length xs.length) xs.length k e).uses b:=by
   rintro b ⟨o,cap,h1,h2⟩
   injection h1 with _ _ h3
   omega
  refine ⟨fun i=>?_,⟨fun s' o ho=>?_,fun s1 s2 o1 o2 b hne h1 h2 hu hu'=>?_,fun s' o b ho hu=>?_⟩,hf.size,hf.defers,hf.step⟩
  ·dsimp only
   cases hb:Nat.beq i j with
   | true=>have:=beq_true hb; subst this; rw [cond_true,hv]; exact hr
   | false=>exact hf.tmps i
  ·dsimp only at ho
   cases hb:Nat.beq s' s with
   | true=>rw [hb] at ho; cases ho; exact ⟨a',xs.length,rfl,Nat.le_refl _,hm,fun h=>absurd h (by omega)⟩
   | false=>rw [hb] at ho; exact hf.heap.obj s' o ho
  ·dsimp only at h1 h2
   cases hb1:Nat.beq s1 s with
   | true=>rw [hb1] at h1; cases h1; exact hnu b hu
   | false =>
    cases hb2:Nat.beq s2 s with
    | true=>rw [hb2] at h2; cases h2; exact hnu b hu'
    | false=>rw [hb1] at h1; rw [hb2] at h2; exact hf.heap.inj s1 s2 o1 o2 b hne h1 h2 hu hu'
  dsimp only at ho
  cases hb:Nat.beq s' s with
  | true=>rw [hb] at ho; cases ho; exact (hnu b hu).elim
  | false=>rw [hb] at ho; exact hf.heap.foot s' o b ho hu
 unfold freshSl at hd
 split at hd
 ·rename_i he
  rw [he] at hj
  cases hd
  refine ⟨_,key _ rfl ?_ ?_⟩
  ·rw [hj.nils_inv]; exact .sl0 _ _ none rfl
  rw [hj.nils_inv]; exact ⟨none,0,rfl,rfl,Nat.zero_le _⟩
 ·rename_i k' ys he
  rw [he] at hj
  cases hb:Nat.beq k k' with
  | false=>rw [hb] at hd; cases hd
  | true =>
   rw [hb] at hd; cases hd
   have:=beq_true hb; subst this
   generalize hv:a.tmps.getD j undef=v at hj;refine ⟨v,key v hv ?_ ?_⟩
   ·cases hj with
    | sl0 t k a ht=>exact .sl0 _ _ a rfl
    | sl t k xs b o cap g ht hb hc hm hk hC hcell hone h=>exact .sl _ k xs b o cap g rfl hb hc hm hk hC hcell hone h
   cases hj with
   | sl0 t k a ht=>exact ⟨a,0,rfl,rfl,Nat.zero_le _⟩
   | sl t k xs b o cap g ht hb hc hm hk hC hcell hone h =>
    obtain ⟨a',n,hn⟩:=ht
    injection hn with h1 h2 h3
    exact ⟨_,xs.length,by rw [h3,h2],rfl,by omega⟩
 cases hd
theorem Tri.own (j s k e:Nat) {xs:List D} {c:Code} (hd:freshSl (σ.t j) k=some xs)
  (h:∀ v,Tri Γ c { t:=fun i=>_root_.cond (Nat.beq i j) (.sl (.own s v) k xs) (σ.t i),H:=fun i=>_root_.cond (Nat.beq i s) (some (.own v xs.length k e)) (σ.H i) } K):Tri Γ c σ K :=
 ⟨fun a w C hf=>by obtain ⟨v,hf'⟩:=hf.own s k e hd; exact (h v).run a w C hf'⟩
def SubM (σ:DSt):List (Nat×Nat)→List (Nat×HObj)→Prop
 | [],[]=>True
 | (k,s)::m,(k',o)::hs=>k=k'∧σ.H s=some o∧SubM σ m hs
 | _,_=>False
theorem SubM.look:∀ {m:List (Nat×Nat)} {hs:List (Nat×HObj)},SubM σ m hs→∀ k o,look hs k=some o→∃ s,(k,s)∈m∧σ.H s=some o
 | [],[],_,k,o,h=>by cases h
 | (k',s)::m,(k'',o')::hs,h,k,o,hl=>by
  obtain ⟨rfl,h2,h3⟩:=h;simp only [Go.Tame.look] at hl
  cases hb:Nat.beq k k' with
  | true=>rw [hb] at hl; cases hl; have:=beq_true hb; subst this; exact ⟨s,List.mem_cons_self,h2⟩
  | false=>rw [hb] at hl; obtain ⟨s',h4,h5⟩:=SubM.look h3 k o hl; exact ⟨s',List.mem_cons_of_mem _ h4,h5⟩
 | [],_::_,h,_,_,_=>h.elim
 | _::_,[],h,_,_,_=>by cases h
structure SubK (σ:DSt) (l:List (Nat×D)) (hs:List (Nat×HObj)) (m:List (Nat×Nat)):Prop where
 t:SubT σ l
 ok:keysOk m=true
 h:SubM σ m hs
theorem FR.weakenK {w:World} {C:Nat→Nat} {a:Act} {l:List (Nat×D)} {hs:List (Nat×HObj)} {m:List (Nat×Nat)} (h:FR Γ w C σ a) (hk:SubK σ l hs m):FR Γ w C (St l hs) a:=by
 obtain ⟨h1,hm,h2⟩:=hk;refine ⟨fun i=>(h1.look i).le _ _ _ (h.tmps i),⟨fun s o ho=>?_,fun s s' o o' b hn h3 h4=>?_,fun s o b ho=>?_⟩,h.size,h.defers,h.step⟩
 ·obtain ⟨s',_,h5⟩:=h2.look s o ho; exact h.heap.obj s' o h5
 ·obtain ⟨k,hk,h5⟩:=h2.look s o h3;obtain ⟨k',hk',h6⟩:=h2.look s' o' h4;exact h.heap.inj k k' o o' b (fun e=>hn ((keysOk_spec hm s k s' k' hk hk').2 e)) h5 h6
 obtain ⟨s',_,h5⟩:=h2.look s o ho; exact h.heap.foot s' o b h5
theorem Tri.forgetK {c:Code} (l:List (Nat×D)) (hs:List (Nat×HObj)) (m:List (Nat×Nat)) (h1:SubK σ l hs m) (h:Tri Γ c (St l hs) K):Tri Γ c σ K :=
 ⟨fun a w C hf=>h.run a w C (hf.weakenK h1)⟩
def joinK {α:Type} (l:α→List (Nat×D)) (hs:α→List (Nat×HObj)) (K:DExit→DSt→Prop):DExit→DSt→Prop
 | .normal,σ=>∃ x m,SubK σ (l x) (hs x) m
 | .exit id,σ=>K (.exit id) σ
 | .ret,σ=>K .ret σ
theorem Tri.joinK {a b:Code} {α:Type} (l:α→List (Nat×D)) (hs:α→List (Nat×HObj)) (h:Tri Γ a σ (joinK l hs K)) (h':∀ x,Tri Γ b (St (l x) (hs x)) K):Tri Γ (.seq a b) σ K :=
 .seq (h.mono fun e σ' hk=>by
  cases e with
  | normal=>obtain ⟨x,m,h1⟩:=hk; exact (h' x).forgetK _ _ m h1
  | exit id=>exact hk
  | ret=>exact hk)
def loopK {α:Type} (l:α→List (Nat×D)) (hs:α→List (Nat×HObj)) (μ:α→Nat) (x:α) (K:DExit→DSt→Prop):DExit→DSt→Prop
 | .normal,σ=>∃ x' m,μ x'<μ x∧SubK σ (l x') (hs x') m
 | .exit id,σ=>K (.exit id) σ
 | .ret,σ=>K .ret σ
theorem Tri.loopK {c:Code} {α:Type} (l:α→List (Nat×D)) (hs:α→List (Nat×HObj)) (μ:α→Nat) (x0:α) (m:List (Nat×Nat)) (h1:SubK σ (l x0) (hs x0) m)
  (round:∀ x,Tri Γ c (St (l x) (hs x)) (loopK l hs μ x K)):Tri Γ (.loop c) σ K :=
 ⟨fun a w C hf=>by
  have hf0:=hf.weakenK h1
  intro b k cs
  have key:∀ n x,μ x=n→∀ a w C,FR Γ w C (St (l x) (hs x)) a →
    ∃ e a' w',(∃ de σ' C',e=DExit.to de∧K de σ'∧FR Γ w' C' σ' a')∧Arrives P (lone (b.at a (.code c::.inLoop c::k)) cs w) b k cs e a' w':=by
   intro n
   induction n using Nat.strongRecOn with
   | _ n ih =>
    intro x hn a w C hf;obtain ⟨e,a₁,w₁,⟨de,σ1,C1,he,hK,hF⟩,harr⟩:=(round x).run a w C hf b (.inLoop c::k) cs;subst he
    cases de with
    | normal =>
     obtain ⟨x',m',hlt,h3⟩:=hK;obtain ⟨e₂,a₂,w₂,hq₂,harr₂⟩:=ih (μ x') (hn ▸ hlt) x' rfl a₁ w₁ C1 (hF.weakenK h3);exact ⟨e₂,a₂,w₂,hq₂,.of_steps (Steps.trans harr (.one step_inLoop)) harr₂⟩
    | exit id=>exact ⟨_,a₁,w₁,⟨.exit id,σ1,C1,rfl,hK,hF⟩,.pass (x:=.inLoop c) rfl (fun _ _=>.inl (by simp [DExit.to])) harr⟩
    | ret=>exact ⟨_,a₁,w₁,⟨.ret,σ1,C1,rfl,hK,hF⟩,.pass (x:=.inLoop c) rfl (fun _ _=>.inl (by simp [DExit.to])) harr⟩
  obtain ⟨e,a',w',hq,harr⟩:=key _ x0 rfl a w C hf0
  exact ⟨e,a',w',hq,.of_steps (.one step_loop) harr⟩⟩
theorem DLe.own {v:Value} {k:Nat} {xs:List D} (s s':Nat):DLe (.sl (.own s v) k xs) (.sl (.own s' v) k xs) :=
 ⟨fun w C u h=>by
  cases h with
  | sl0 t k a ht=>exact .sl0 _ _ a ht
  | sl t k xs b o cap g ht hb hc hm hk hC hcell hone h=>exact .sl _ k xs b o cap g ht hb hc hm hk hC hcell hone h⟩
theorem DLe.unown {t:Tag} {k:Nat} {xs:List D}:DLe (.sl t k xs) (.sl .none k xs):=DLe.untag _
theorem DLe.nil {k:Nat}:DLe .nils (.sl .none k []):=⟨fun w C u h=>by rw [h.nils_inv]; exact .sl0 _ _ none trivial⟩
theorem DLe.box {s s' b o:Nat}:DLe (.box s b o) (.box s' b o):=⟨fun w C u h=>by rw [h.box_inv]; exact .box _ _ _⟩
variable {P:Program} {W0:World}
theorem Step.below {w w':World} {C:Nat→Nat} (h:Below w.heap.size w w'):Step (fun _=>False) w C w' C :=
 ⟨⟨h.size,fun _ _=>Nat.le_refl _,fun b o hb _=>by simp only [World.cell?,h.block b hb]⟩,h.os,h.tape,h.output,fun b hb _=>⟨h.block b hb,rfl⟩⟩
def exactD:D→Option Value
 | .bool b=>some (.bool b)
 | .int k n=>some (.int k n)
 | .str s=>some (.string ⟨⟨s⟩⟩)
 | .raw v=>some v
 | _=>none
def exactL:List D→Option (List Value)
 | []=>some []
 | d::r=>match exactD d,exactL r with
  | some v,some vs=>some (v::vs)
  | _,_=>none
theorem exactD_eq {w:World} {C:Nat→Nat} {d:D} {v u:Value} (h:exactD d=some v) (hr:Rep w C d u):u=v:=by
 cases d<;>simp only [exactD,Option.some.injEq,reduceCtorEq] at h
 ·subst h; exact hr.bool_inv
 ·subst h; exact hr.int_inv
 ·subst h; exact hr.str_inv
 subst h; exact hr.raw_inv
theorem exactL_eq {w:World} {C:Nat→Nat}:∀ {ds:List D} {vs us:List Value},exactL ds=some vs→RepL w C ds us→us=vs
 | [],vs,us,h,hr=>by cases h; have:=hr.1; cases us with|nil=>rfl|cons _ _=>simp at this
 | d::r,vs,us,h,hr=>by
  simp only [exactL] at h
  split at h
  ·rename_i v vs' h1 h2
   cases h
   cases us with
   | nil=>have:=hr.1; simp at this
   | cons u us =>
    have h3:us=vs':=exactL_eq (w:=w) (C:=C) h2 ⟨by have:=hr.1; simpa using this,fun i d v h3 h4=>hr.2 (i+1) d v (by simpa using h3) (by simpa using h4)⟩
    rw [exactD_eq h1 (hr.2 0 d u rfl rfl),h3]
  cases h
theorem DFun.lift {f:FuncId} {ds:List D} {vs:List Value} {d:D} (hc:Callable P f) (ha:exactL ds=some vs)
  (h:∀ w,Base W0 w→Calls P f ⟨vs⟩ w fun e w'=>∃ v,e=.returned v∧(∀ C,Rep w' C d v)∧Below w.heap.size w w'):DFun P W0 f ds d :=
 ⟨hc,fun w C args hb hr=>by
  rw [exactL_eq ha hr]
  exact (h w hb).mono fun e w' ⟨v,he,hv,hs⟩=>⟨v,C,he,hv C,Step.below hs⟩⟩
theorem DFun.pure {f:FuncId} {ds:List D} {vs:List Value} {d:D} {v:Value} (hc:Callable P f) (ha:exactL ds=some vs) (hd:exactD d=some v)
  (h:∀ w,Base W0 w→Calls P f ⟨vs⟩ w fun e w'=>e=.returned v∧w'=w):DFun P W0 f ds d:=by
 have hrep:∀ w C,Rep w C d v:=fun w C=>by
  cases d<;>simp only [exactD,Option.some.injEq,reduceCtorEq] at hd<;>subst hd<;>constructor
 exact .lift hc ha fun w hb=>(h w hb).mono fun e w' ⟨he,hw⟩=>by subst hw; exact ⟨v,he,fun C=>hrep _ C,.refl _ _⟩
theorem DFun.newRow {f:FuncId} {ds:List D} {vs:List Value} {k:Nat} {xs:List D} {us:List Value} {e:TypeId} (hc:Callable P f) (ha:exactL ds=some vs)
  (hk:∀ x∈xs,x.cells.length=k) (hm:xs.length≤maxLen) (hu:∀ w C,RepL w C (flat xs) us) (h1:∀ u∈us,u.oneCell'=true)
  (h:∀ w,Base W0 w→Calls P f ⟨vs⟩ w fun e' w'=>e'=.returned (.slice (some ⟨w.heap.size,0,none⟩) xs.length xs.length)∧w'=w.alloc (.cells ⟨us⟩ e)):DFun P W0 f ds (.sl .full k xs) :=
 ⟨hc,fun w C args hb hr=>by
  rw [exactL_eq ha hr]
  exact (h w hb).mono fun e' w' ⟨he,hw⟩=>by
   subst hw
   exact ⟨_,upd C w.heap.size (xs.length*k),he,rep_newRow hk (Nat.le_refl _) hm (fun j d hd=>by
    obtain ⟨hl,hg⟩:=hu w C
    have hj:j<us.length:=by have:=(List.getElem?_eq_some_iff.1 hd).1; omega
    exact ⟨us[j],by simp [hj],hg j d _ hd (by simp [hj]),h1 _ (List.getElem_mem hj)⟩) ⟨_,_,rfl⟩,Step.alloc _ _ _ _ _⟩⟩
theorem LeL.refl:∀ ds:List D,LeL ds ds
 | []=>trivial
 | d::r=>⟨.refl d,LeL.refl r⟩
theorem Tri.retK {nt:Nat} {Γ:Ctx P W0 nt} {σ:DSt} {K:DExit→DSt→Prop} (l:List (Nat×D)) (hs:List (Nat×HObj)) (m:List (Nat×Nat)) (h:SubK σ l hs m) (hk:K .ret (St l hs)):Tri Γ .ret σ K :=
 Tri.forgetK l hs m h (Tri.ret hk)
variable {P:Program} {W0:World} {nt:Nat}
structure XOp (P:Program) (W0:World) (nt:Nat) (σ:DSt) (dst:Option Tmp) (op:Op) (K:DSt→Prop):Prop where
 run:∀ (Γ:Ctx P W0 nt) (w:World) (C:Nat→Nat) (a:Act),FR Γ w C σ a→okDst nt dst=true→∀ (type:TypeId) (pos:String) (after:Array Edge) (Q:Exit→Act→World→Prop),
  (⟨dst,op,type,pos,after,none⟩:Oper).wp P a w (fun a' w'=>∃ σ' C',K σ'∧FR Γ w' C' σ' a') Q
def isX:Op→Bool
 | .call c=>match c.callee with
  | .builtin b=>match b with
   | .len|.min|.max=>false
   | _=>true
  | _=>true
 | .binOp _ _ _ y _=>match y with
  | .const v=>match v with
   | .slice a _ _=>a.isNone
   | _=>false
  | _=>false
 | .indexAddr ..|.load ..|.store ..|.convert ..|.makeSlice ..|.makeMap ..|.lookup ..|.mapUpdate ..|.slice ..|.range ..|.next ..=>true
 | _=>false
def vstepX (P:Program) (W0:World) (nt:Nat) (ti:List TEnt) (σ:DSt) (dst:Option Tmp) (op:Op) (K:DSt→Prop):Prop :=
 match isX op with
 | true=>vstep P W0 ti σ dst op K∨XOp P W0 nt σ dst op K
 | false=>vstep P W0 ti σ dst op K
theorem vstepX_sound {ti:List TEnt} (hT:TOk P ti) {Γ:Ctx P W0 nt} {w:World} {C:Nat→Nat} {σ:DSt} {a:Act} (hf:FR Γ w C σ a) {o:Oper} (hg:o.guard=none) (hd:okDst nt o.dst=true) {K:DSt→Prop}
  (hq:vstepX P W0 nt ti σ o.dst o.op K) (Q:Exit→Act→World→Prop):o.wp P a w (fun a' w'=>∃ σ' C',K σ'∧FR Γ w' C' σ' a') Q:=by
 unfold vstepX at hq
 split at hq
 ·rcases hq with hq|hq
  ·exact vstep_sound hT hf hd hq Q
  obtain ⟨dst,op,type,pos,after,guard⟩:=o
  simp only at hg; subst hg
  exact hq.run Γ w C a hf hd type pos after Q
 exact vstep_sound hT hf hd hq Q
def vlistX (P:Program) (W0:World) (ti:List TEnt) (nt:Nat):List Oper→DSt→(DSt→Prop)→Prop
 | [],σ,K=>K σ
 | ⟨dst,op,_,_,_,guard⟩::rest,σ,K=>cond (okDst nt dst) (match guard with
  | none=>vstepX P W0 nt ti σ dst op fun σ'=>vlistX P W0 ti nt rest σ' K
  | some _=>False) False
theorem vlistX_seq {ti:List TEnt} (hT:TOk P ti) {Γ:Ctx P W0 nt} {ops:Array Oper} {Q:Exit→Act→World→Prop} {K:DSt→Prop} (hQ:∀ σ' a' w' C',K σ'→FR Γ w' C' σ' a'→Q .normal a' w') :
  ∀ {l:List Oper} {σ:DSt} (_:vlistX P W0 ti nt l σ K) {a:Act} {w:World} {C:Nat→Nat} (_:FR Γ w C σ a),wpList P ops Q l a w
 | [],_,hq,_,_,_,hf=>hQ _ _ _ _ hq hf
 | o::rest,σ,hq,a,w,C,hf=>by
  change cond (okDst nt o.dst) _ False at hq
  replace hq:=bif_true hq
  obtain ⟨hd,hq⟩:=hq
  unfold wpList
  split at hq
  ·rename_i hg
   rw [if_pos (by simp [Region.wanted,hg])];exact .inl (Oper.wp_mono (fun a' w' ⟨σ',C',h1,h2⟩=>vlistX_seq hT hQ h1 h2) (vstepX_sound hT hf hg hd hq Q))
  exact hq.elim
theorem Tri.regionX {ti:List TEnt} (hT:TOk P ti) {Γ:Ctx P W0 nt} {id:Nat} {ops:Array Oper} {σ:DSt} {K:DExit→DSt→Prop} (hq:vlistX P W0 ti nt ops.toList σ (K .normal)):Tri Γ (.region id ops false) σ K :=
 ⟨fun _ _ _ hf=>wp_region_list (vlistX_seq hT (fun σ' _ _ C' hK hF=>⟨.normal,σ',C',rfl,hK,hF⟩) hq hf)⟩
theorem Tri.drawTailX {ti:List TEnt} (hT:TOk P ti) {Γ:Ctx P W0 nt} {id:Nat} {ops:Array Oper} {σ:DSt} {K:DExit→DSt→Prop} (n:Nat) (hm:P.follows .mixedOrders=true) (hB:drawT ops n=true)
  (hq:vlist P W0 ti nt ops (ops.toList.take n) σ fun σ'=>vlistX P W0 ti nt (ops.toList.drop n) σ' (K .normal)):Tri Γ (.region id ops true) σ K :=
 ⟨fun a w C hf=>by
  obtain ⟨l⟩:=ops;simp only [drawT,Region.lexTailB,Bool.and_eq_true,decide_eq_true_eq] at hB;obtain ⟨⟨⟨⟨⟨hsel,hn⟩,hs⟩,hc⟩,hlex⟩,hqt⟩:=hB
  have hn':n<l.length:=by simpa using hn
  have htl:(l.take n).length=n:=by simp; omega
  have hdl:(l.drop n).length=(⟨l⟩:Array Oper).size-n:=by simp
  have inv0:HeadInv .any ⟨l⟩ n (Array.replicate (⟨l⟩:Array Oper).size false) :=
   ⟨by simp,fun j oj _ hl=>(by rw [getD_replicate_false] at hl; cases hl),fun t _ ht=>getD_in (by simpa using ht) (getD_replicate_false _ _)⟩
  have H:=wpAnyDL_lex (md:=.any) (g:=(⟨l⟩:Array Oper).size-n) (r:=[]) (nt:=nt) (Q:=fun σ'=>vlistX P W0 ti nt (l.drop n) σ' (K .normal)) hT hs hc hn (l.take n) 0 _ σ (fun j hj=>by
   have hj':j<n:=by rw [htl] at hj; exact hj
   simp [hj']) hqt (by simpa using htl) inv0 (by rw [htl]; exact hlex) (by rw [List.append_nil]; exact hq)
  refine wp_region_any hm ?_
  have:=wpAny_of_DL (Γ:=Γ) (Q':=fun e a' w'=>∃ de σ' C',e=DExit.to de∧K de σ'∧FR Γ w' C' σ' a') (g:=(⟨l⟩:Array Oper).size-n) (fun listed σ' a' w' C' hF hL=>by
   have:=wpAny_of_seq (md:=.any) (ops:=⟨l⟩) (P:=P) (Q':=fun e a' w'=>∃ de σ' C',e=DExit.to de∧K de σ'∧FR Γ w' C' σ' a') (l.drop n) n listed a' w' (fun j=>by simp [List.getElem?_drop]) (by rw [hdl]; exact hL.1)
    (vlistX_seq (l:=l.drop n) hT (fun σ'' _ _ C'' hK hF'=>⟨.normal,σ'',C'',rfl,hK,hF'⟩) (show vlistX P W0 ti nt (l.drop n) σ' (K .normal) from hL.2) hF)
   rwa [hdl] at this) _ _ σ a _ C hf.drew H
  rw [htl,show n+((⟨l⟩:Array Oper).size-n)=(⟨l⟩:Array Oper).size by omega] at this
  exact this⟩
theorem XOp.val {σ:DSt} {dst:Option Tmp} {op:Op} {K:DSt→Prop}
  (h:∀ (Γ:Ctx P W0 nt) (w:World) (C:Nat→Nat) (a:Act),FR Γ w C σ a→∀ (type:TypeId) (pos:String) (after:Array Edge),∃ v w' C' σ' d,
   (execOp a.eval ⟨dst,op,type,pos,after,none⟩).run P w=.ok (.value v) w'∧FR Γ w' C' σ' a∧Rep w' C' d v∧K (σ'.put dst d)):XOp P W0 nt σ dst op K :=
 ⟨fun Γ w C a hf hd type pos after Q=>by
  obtain ⟨v,w',C',σ',d,hrun,hf',hr,hK⟩:=h Γ w C a hf type pos after;simp only [Oper.wp,hrun,Oper.upon]
  exact ⟨_,C',hK,hf'.put hd hr⟩⟩
theorem XOp.unit {σ:DSt} {dst:Option Tmp} {op:Op} {K:DSt→Prop}
  (h:∀ (Γ:Ctx P W0 nt) (w:World) (C:Nat→Nat) (a:Act),FR Γ w C σ a→∀ (type:TypeId) (pos:String) (after:Array Edge),∃ w' C' σ',
   (execOp a.eval ⟨dst,op,type,pos,after,none⟩).run P w=.ok .skip w'∧FR Γ w' C' σ' a∧K (σ'.put dst .undef)):XOp P W0 nt σ dst op K :=
 ⟨fun Γ w C a hf hd type pos after Q=>by
  obtain ⟨w',C',σ',hrun,hf',hK⟩:=h Γ w C a hf type pos after;simp only [Oper.wp,hrun,Oper.upon]
  exact ⟨_,C',hK,hf'.put hd .undef⟩⟩
theorem XOp.call {σ:DSt} {dst:Option Tmp} {K:DSt→Prop} {f:Operand} {args:Array Operand} {ats:Array TypeId} {fid:FuncId} {first caps:List D} (hf:σ.ev f=.fn (.func fid) first caps)
  (as0':List D) (m:List (Nat×Nat)) {Q:D→Heap→Prop} (hc:DCall P W0 fid as0' (handed σ.H m) Q) (hm:keysOk m=true) (hle:LeL (first++args.toList.map σ.ev++caps) as0')
  (hK:∀ d H',Q d H'→∃ d',DLe d d'∧K (({ t:=σ.t,H:=back σ.H H' m }:DSt).put dst d')):XOp P W0 nt σ dst (.call ⟨.value f,args,ats⟩) K :=
 ⟨fun Γ w C a hfr hd type pos after Q'=>by
  have hv0:=act_ev hfr.tmps f
  rw [hf] at hv0;obtain ⟨vf,vc,hv,h1,h2⟩:=hv0.fn_inv
  have h3:RepL w C (args.toList.map σ.ev) (args.toList.map a.eval) :=
   ⟨by simp,fun i d v hd hv=>by
    simp only [List.getElem?_map] at hd hv
    cases hx:args.toList[i]? with
    | none=>rw [hx] at hd; cases hd
    | some x=>rw [hx] at hd hv; cases hd; cases hv; exact act_ev hfr.tmps x⟩
  have h4:=hle.repL ((h1.append h3).append h2)
  obtain ⟨fn,hfn,hbody,hname⟩:=hc.1
  have hb:fn.body.isNone=false:=by cases hb:fn.body<;>simp [hb] at hbody ⊢
  have hrun:(execOp a.eval ⟨dst,.call ⟨.value f,args,ats⟩,type,pos,after,none⟩).run P w=.ok (.enter fid ⟨vf++args.toList.map a.eval++vc⟩) w:=by
   simp only [execOp,resolve,hv,Deferred.ofValue,Sem.run_bind,Sem.run_pure,Result.andThen_ok,invoke,callFunc,run_program,hfn,hname,hb,Bool.false_eq_true,if_false]
   congr 2
   apply Array.ext'; simp
  simp only [Oper.wp,hrun,Oper.upon]
  exact (call_wp hfr hm hc h4 hd hK).mono fun e w' ⟨v,he,h⟩=>by subst he; exact h⟩
variable {P:Program} {W0:World} {nt:Nat} {σ:DSt} {dst:Option Tmp} {K:DSt→Prop} {ti:List TEnt}
def rowPtr (v:Value) (off:Nat):Value :=
 match v with
 | .slice (some ⟨b,o,_⟩) _ _=>.pointer (some ⟨b,o+off,none⟩)
 | _=>undef
theorem RowV.pos {w:World} {C:Nat→Nat} {v:Value} {xs:List D} {k e i:Nat} (h:RowV w C v xs k e) (hi:i<xs.length):∃ b cap vs,v=.slice (some ⟨b,0,none⟩) xs.length cap∧xs.length≤cap∧cap≤maxLen ∧
  (∀ x∈xs,x.cells.length=k)∧w.heap[b]? = some (.cells vs e (0,0))∧vs.size=cap*k∧C b=0∧∀ (j:Nat) d,(flat xs)[j]? = some d→∃ u,vs[j]? = some u∧Rep w C d u∧u.oneCell'=true:=by
 obtain ⟨a,cap,hv,hc,hm,hk,_,hw⟩:=h;obtain ⟨b,vs,ha,hb,hs,hC,hr⟩:=hw (by omega);subst ha;exact ⟨b,cap,vs,hv,hc,hm,hk,hb,hs,hC,hr⟩
theorem XOp.rowIndex (hT:TOk P ti) {t:Nat} {x ix:Operand} (s:Nat) {v:Value} {xs:List D} {k e el:Nat} {i:Int} {ik:IntKind} {te ee:TEnt} (hx:σ.ev x=.raw v) (hs:σ.H s=some (.row v xs k e)) (hi:σ.ev ix=.int ik i)
  (ht:tget ti t=some te) (hks:te.kind=.slice el) (hel:tget ti el=some ee) (hke:ee.sz=k) (h0:0≤i) (h1:i<xs.length) (hK:K (σ.put dst (.raw (rowPtr v (i.toNat*k))))):XOp P W0 nt σ dst (.indexAddr t x ix) K :=
 .val fun Γ w C a hf type pos after=>by
  obtain ⟨heo,rfl⟩:=hT.get ht;obtain ⟨heeo,rfl⟩:=hT.get hel
  have hu:=heo.u_slice hks
  have hv:=act_ev hf.tmps x; rw [hx] at hv
  have hvi:=act_ev hf.tmps ix; rw [hi] at hvi
  obtain ⟨b,cap,vs,rfl,_⟩:=RowV.pos (i:=i.toNat) (hf.heap.obj s _ hs) (by omega);refine ⟨_,w,C,σ,_,?_,hf,.raw _,hK⟩
  simp [execOp,hv.raw_inv,hvi.int_inv,Instr.indexAt,asIntOf,run_underlying hu,h0,h1,heeo.size,addr_add,hke,rowPtr]
theorem XOp.rowLoad (hT:TOk P ti) {t:Nat} {x:Operand} (s:Nat) {v:Value} {xs:List D} {k e i:Nat} {te:TEnt} (hx:σ.ev x=.raw (rowPtr v (i*k))) (hs:σ.H s=some (.row v xs k e)) (ht:tget ti t=some te) {y:D}
  (hy:xs[i]? = some y) (hl:loadX te k 0 y fun d=>K (σ.put dst d)):XOp P W0 nt σ dst (.load t x) K :=
 .val fun Γ w C a hf type pos after=>by
  obtain ⟨heo,rfl⟩:=hT.get ht
  have hv:=act_ev hf.tmps x; rw [hx] at hv
  obtain ⟨b,cap,vs,rfl,_,_,hk,hb,hsz,_,hr⟩:=RowV.pos (hf.heap.obj s _ hs) (lt_of_get hy);obtain ⟨d,hK,hd⟩:=loadX_sound heo hl
  obtain ⟨u,hu,hru⟩:=hd w C b (0+i*k) (fun j=>vs.getD (i*k+j) undef) (hk y (List.mem_of_getElem? hy)) (fun j d hd=>by
   have hj:j<k:=by rw [← hk y (List.mem_of_getElem? hy)]; exact lt_of_get hd
   obtain ⟨u,h1,h2,_⟩:=hr (i*k+j) d (by rw [flat_get hk hy hj]; exact hd)
   refine ⟨?_,?_⟩
   ·simp only [World.cell?,hb,Nat.zero_add]
    simp [h1,Array.getD_eq_getD_getElem?]
   simp [Array.getD_eq_getD_getElem?,h1,h2])
  refine ⟨u,w,C,σ,d,?_,hf,hru,hK⟩;simp only [rowPtr] at hv;simp only [Nat.add_zero] at hu;simp only [execOp,hv.raw_inv,Sem.run_bind,hu,Result.andThen_ok,Sem.run_pure]
theorem XOp.rowLen (hT:TOk P ti) (s:Nat) {x:Operand} {t el:Nat} {v:Value} {xs:List D} {k e:Nat} {te:TEnt} (hx:σ.ev x=.raw v) (hs:σ.H s=some (.row v xs k e)) (ht:tget ti t=some te) (hks:te.kind=.slice el)
  (hK:K (σ.put dst (.int .i64 xs.length))):XOp P W0 nt σ dst (.call ⟨.builtin .len,#[x],#[t]⟩) K :=
 .val fun Γ w C a hf type pos after=>by
  obtain ⟨heo,rfl⟩:=hT.get ht
  have hu:=heo.u_slice hks
  have hv:=act_ev hf.tmps x; rw [hx] at hv
  obtain ⟨a',cap,rfl,_⟩:=hf.heap.obj s _ hs;refine ⟨.int .i64 xs.length,w,C,σ,_,?_,hf,.int _ _,hK⟩
  simp [execOp,resolve,invoke,builtin,Builtin.len_,run_underlying hu,hv.raw_inv,goInt]
theorem D.one_cells {d:D} (h:d.one=true):d.cells=[d]:=by cases d<;>first|rfl|cases h
theorem flat_set {k:Nat}:∀ {xs:List D} (_:∀ x∈xs,x.cells.length=k) {i:Nat} {x:D} (_:i<xs.length) (_:x.cells.length=k),
  flat (xs.set i x)=(flat xs).take (i*k)++x.cells++(flat xs).drop (i*k+x.cells.length)
 | [],_,_,_,h,_=>by simp at h
 | y::ys,hk,0,x,_,hx=>by
  have hy:=hk y List.mem_cons_self
  simp only [List.set_cons_zero,flat,List.flatMap_cons,Nat.zero_mul,List.take_zero,List.nil_append,Nat.zero_add];rw [List.drop_append_of_le_length (by omega),List.drop_of_length_le (by omega),List.nil_append]
 | y::ys,hk,i+1,x,h,hx=>by
  have hy:=hk y List.mem_cons_self
  have h1:=flat_set (xs:=ys) (fun z hz=>hk z (List.mem_cons_of_mem _ hz)) (i:=i) (x:=x) (by simpa using h) hx
  simp only [flat] at h1 ⊢;simp only [List.set_cons_succ,List.flatMap_cons,h1]
  rw [show (i+1)*k=y.cells.length+i*k by rw [Nat.succ_mul,hy]; omega,List.take_length_add_append,Nat.add_assoc,List.drop_length_add_append]
  simp [List.append_assoc]
theorem FR.newObj {Γ:Ctx P W0 nt} {w:World} {C:Nat→Nat} {a:Act} (h:FR Γ w C σ a) (s:Nat) {o:Obj} {ob:HObj} (hor:ORel (w.alloc o) (upd C w.heap.size 0) ob) (hu:∀ b,ob.uses b→b=w.heap.size) :
  FR Γ (w.alloc o) (upd C w.heap.size 0) (σ.setH s (some ob)) a:=by
 have hs:=Step.alloc (fun _=>False) w C o 0
 refine h.setH hs (fun _ hf=>hf.elim) (fun _ _ _ _ _ _ hf=>hf) (fun x hx=>?_)
 cases hx
 refine ⟨hor,fun b hb=>?_⟩;rw [hu b hb];exact ⟨h.foot_new,.inr (Nat.le_refl _)⟩
theorem slice_uses {b b' o o' n n' c c':Nat} (h:Value.slice (some ⟨b,o,none⟩) n c=Value.slice (some ⟨b',o',none⟩) n' c'):b'=b:=by
 simp only [Value.slice.injEq,Option.some.injEq,Addr.mk.injEq] at h;exact h.1.1.symm
theorem run_makeN {te ee:TEnt} (heo:te.Ok P) (heeo:ee.Ok P) (hks:te.kind=.slice ee.t) (w:World) (k1 k2:IntKind) (l n:Nat) (hl:l≤n) (hb:ee.bytes*n≤281474976710656) (hn:n≤9223372036854775807) {zs:List D} (hz:ee.zero=some zs) :
  ∃ zv:Value,(∀ w C,RepL w C zs zv.cells.toList)∧zs.length=ee.sz ∧
   (Instr.makeSlice te.t (.int k1 (l:Int)) (.int k2 (n:Int))).run P w=.ok (.slice (some ⟨w.heap.size,0,none⟩) l n) (w.alloc (.cells (madeCells zv.cells (n*ee.sz)) ee.t)):=by
 obtain ⟨i,hi,hsz,hby,hzz⟩:=heeo.info;obtain ⟨zv,hzv,hzl,hzr⟩:=hzz zs hz;refine ⟨zv,hzr,hzl,?_⟩
 have hr:=run_make (P:=P) w te.t ee.t i zv (heo.u_slice hks) hi hzv k1 k2 l n (by omega) (by omega) (by
  rw [hby]; have:((ee.bytes*n:Nat):Int)≤281474976710656:=by omega
  rwa [Int.natCast_mul] at this) (by omega)
 rw [hsz] at hr
 simpa using hr
theorem XOp.makeOwn (hT:TOk P ti) {t:Nat} {l c:Operand} {el n:Nat} {k1 k2:IntKind} {te ee:TEnt} {zs:List D} {s:Nat} (ht:tget ti t=some te) (hks:te.kind=.slice el) (hel:tget ti el=some ee) (hz:ee.zero=some zs)
  (hl:σ.ev l=.int k1 0) (hc:σ.ev c=.int k2 n) (hb:ee.bytes*n≤281474976710656) (hn:n≤9223372036854775807)
  (hK:∀ v,K ((σ.setH s (some (.own v 0 ee.sz el))).put (some s) (.sl (.own s v) ee.sz []))):XOp P W0 nt σ (some s) (.makeSlice t l c) K :=
 .val fun Γ w C a hf type pos after=>by
  obtain ⟨heo,rfl⟩:=hT.get ht;obtain ⟨heeo,rfl⟩:=hT.get hel
  have hvl:=act_ev hf.tmps l; rw [hl] at hvl
  have hvc:=act_ev hf.tmps c; rw [hc] at hvc
  obtain ⟨zv,hzr,hzl,hrun⟩:=run_makeN heo heeo hks w k1 k2 0 n (by omega) hb hn hz;refine ⟨.slice (some ⟨w.heap.size,0,none⟩) 0 n,_,_,_,_,?_,hf.newObj s (ob:=.own (.slice (some ⟨w.heap.size,0,none⟩) 0 n) 0 ee.sz ee.t) (o:=.cells (madeCells zv.cells (n*ee.sz)) ee.t) ?_ ?_,?_,hK _⟩
  ·have h0:((0:Nat):Int)=0:=rfl
   rw [h0] at hrun;simp only [execOp,hvl.int_inv,hvc.int_inv,Sem.run_bind,hrun,Result.andThen_ok,Sem.run_pure]
  ·exact ⟨_,n,rfl,by omega,by simp only [maxLen]; omega,fun _=>⟨w.heap.size,_,rfl,heap_alloc_new' w _,size_madeCells _ _,by rw [upd_same,Nat.zero_mul]⟩⟩
  ·rintro b ⟨o',cap,h,_⟩; exact slice_uses h
  exact .sl _ _ [] w.heap.size 0 n (fun _=>undef) rfl (lt_of_heap (heap_alloc_new' w _)) (by simp) (by simp only [maxLen]; omega) (fun x hx=>by cases hx) (by simp) (fun j d hd=>by simp [flat] at hd) (fun j d hd=>by simp [flat] at hd) (fun j d hd=>by simp [flat] at hd)
theorem upd_le (C:Nat→Nat) (b n:Nat) (h:C b≤n) (x:Nat):C x≤upd C b n x:=by
 by_cases e:x=b
 ·subst e; rw [upd_same]; exact h
 rw [upd_ne _ _ e]; exact Nat.le_refl _
theorem Tri.commit {Γ:Ctx P W0 nt} {c:Code} {K:DExit→DSt→Prop} (s:Nat) {v:Value} {xs:List D} {k e:Nat} (hs:σ.H s=some (.row v xs k e)) (σ':DSt)
  (ht:∀ w C,Rep w C (.sl (.own s v) k xs) v→∀ j u,Rep w C (σ.t j) u→Rep w C (σ'.t j) u) (hh:∀ j o,σ'.H j=some o→(j=s∧o=.own v xs.length k e)∨(j≠s∧σ.H j=some o))
  (h:Tri Γ c σ' K):Tri Γ c σ K :=
 ⟨fun a w C hf=>by
  obtain ⟨a',cap,hv,hc,hm,hk,hbl,hw⟩:=hf.heap.obj s _ hs
  by_cases h0:0<cap
  ·obtain ⟨b,vs,rfl,hb,hsz,hC,hr⟩:=hw h0
   have huse:HObj.uses (.row v xs k e) b:=⟨_,cap,hv,h0⟩
   have hext:Ext w C w (upd C b (xs.length*k)):=⟨Nat.le_refl _,fun x _=>upd_le C b _ (by omega) x,fun _ _ _ _=>rfl⟩
   have hst:Step (fun x=>x=b) w C w (upd C b (xs.length*k)):=⟨hext,rfl,rfl,rfl,fun x _ hx=>⟨rfl,upd_ne _ _ hx⟩⟩
   have hrow:Rep w (upd C b (xs.length*k)) (.sl (.own s v) k xs) v:=by
    have:=rep_row (w:=w) (C:=upd C b (xs.length*k)) (tg:=.own s v) (k:=k) (xs:=xs) (vs:=vs.toList) (b:=b) (e:=e) (fz:=(0,0)) (cap:=cap) hb hk hc hm (by rw [upd_same]; exact Nat.le_refl _)
     (fun j d hd=>by obtain ⟨u,h1,h2,h3⟩:=hr j d hd; exact ⟨u,by simpa using h1,h2.ext hext,h3⟩) hv.symm
    rw [hv] at this ⊢; exact this
   refine h.run a w (upd C b (xs.length*k)) ⟨fun j=>ht _ _ hrow j _ ((hf.tmps j).ext hext),⟨fun j o ho=>?_,fun j j' o o' x hne h1 h2 hu hu'=>?_,fun j o x ho hu=>?_⟩,hf.size,hf.defers,?_⟩
   ·rcases hh j o ho with ⟨rfl,rfl⟩|⟨hj,ho⟩
    ·exact ⟨_,cap,hv,hc,hm,fun _=>⟨b,vs,rfl,hb,hsz,upd_same _ _ _⟩⟩
    exact (hf.heap.obj j o ho).keep hext fun x hx=>⟨rfl,upd_ne _ _ fun e=>by subst e; exact hf.heap.inj j s o _ x hj ho hs hx huse⟩
   ·have key:∀ j o,σ'.H j=some o→o.uses x→∃ o2,σ.H j=some o2∧o2.uses x:=fun j o ho hu=>by
     rcases hh j o ho with ⟨rfl,rfl⟩|⟨_,ho⟩
     ·obtain ⟨o',cap',h3,h4⟩:=hu;rw [hv] at h3
      have:=slice_uses h3; subst this
      exact ⟨_,hs,huse⟩
     exact ⟨o,ho,hu⟩
    obtain ⟨o2,h3,h4⟩:=key j o h1 hu;obtain ⟨o3,h5,h6⟩:=key j' o' h2 hu';exact hf.heap.inj j j' o2 o3 x hne h3 h5 h4 h6
   ·rcases hh j o ho with ⟨rfl,rfl⟩|⟨_,ho⟩
    ·obtain ⟨o',cap',h3,h4⟩:=hu;rw [hv] at h3
     have:=slice_uses h3; subst this
     exact hf.heap.foot _ _ _ hs huse
    exact hf.heap.foot j o x ho hu
   refine hf.step.trans hst fun x hx hxb=>?_
   subst hxb
   rcases hf.heap.foot s _ _ hs huse with h1|h1
   ·exact h1
   omega
  have hx:xs=[]:=List.eq_nil_of_length_eq_zero (by omega)
  subst hx
  have hcap:cap=0:=by omega
  subst hcap
  have hrow:Rep w C (.sl (.own s v) k []) v:=by
   cases a' with
   | none=>rw [hv]; exact .sl0 _ _ none rfl
   | some ad =>
    obtain ⟨b,rfl,hb⟩:=hbl ad rfl;rw [hv];exact .sl _ _ [] b 0 0 (fun _=>undef) rfl hb (Nat.le_refl _) (Nat.zero_le _) (fun x hx=>by cases hx) (by simp) (fun j d hd=>by simp [flat] at hd) (fun j d hd=>by simp [flat] at hd) (fun j d hd=>by simp [flat] at hd)
  have hnu:∀ j o x,σ'.H j=some o→o.uses x→j≠s∧σ.H j=some o:=fun j o x ho hu=>by
   rcases hh j o ho with ⟨rfl,rfl⟩|h2
   ·obtain ⟨o',cap',h3,h4⟩:=hu;rw [hv] at h3;simp only [Value.slice.injEq] at h3
    simp at h4; omega
   exact h2
  refine h.run a w C ⟨fun j=>ht _ _ hrow j _ (hf.tmps j),⟨fun j o ho=>?_,fun j j' o o' x hne h1 h2 hu hu'=>?_,fun j o x ho hu=>?_⟩,hf.size,hf.defers,hf.step⟩
  ·rcases hh j o ho with ⟨rfl,rfl⟩|⟨hj,ho⟩
   ·exact ⟨_,0,hv,Nat.le_refl _,Nat.zero_le _,fun h=>absurd h (by simp)⟩
   exact hf.heap.obj j o ho
  ·exact hf.heap.inj j j' o o' x hne (hnu j o x h1 hu).2 (hnu j' o' x h2 hu').2 hu hu'
  exact hf.heap.foot j o x (hnu j o x ho hu).2 hu⟩
open Go.MapKept
theorem XOp.makeMap {t:TypeId} {s:Nat} (hK:∀ b,K ((σ.setH s (some (.set b []))).put (some s) (.raw (.map (some b))))):XOp P W0 nt σ (some s) (.makeMap t none) K :=
 .val fun Γ w C a hf type pos after=>by
  refine ⟨.map (some w.heap.size),_,_,_,_,?_,hf.newObj s (ob:=.set w.heap.size []) (o:=.map #[] 0) ⟨#[],0,heap_alloc_new' w _,upd_same _ _ _,by simp,by simp⟩ (fun b hb=>hb),.raw _,hK _⟩
  simp [execOp,Instr.makeMap,Result.andThen]
theorem Step.setBlock {w:World} {C:Nat→Nat} {b:Nat} {o o':Obj} (hb:w.heap[b]? = some o) (hC:C b=0):Step (fun x=>x=b) w C { w with heap:=w.heap.setIfInBounds b o' } C :=
 ⟨⟨by simp,fun _ _=>Nat.le_refl _,fun x i hx hi=>by
   have hne:x≠b:=fun e=>by subst e; omega
   simp only [World.cell?]
   rw [show (w.heap.setIfInBounds b o')[x]? = w.heap[x]? from (heap_set hb).2 x hne]⟩,rfl,rfl,rfl,fun x _ hx=>⟨(heap_set hb).2 x hx,rfl⟩⟩
theorem flat_one:∀ {xs:List D},(∀ x∈xs,x.cells=[x])→flat xs=xs
 | [],_=>rfl
 | x::r,h=>by
  have h1:=flat_one (xs:=r) fun y hy=>h y (List.mem_cons_of_mem _ hy)
  simp only [flat,List.flatMap_cons] at h1 ⊢
  rw [h1,h x List.mem_cons_self]; rfl
theorem XOp.bytesStr (hT:TOk P ti) {src dst' el:Nat} {x:Operand} {te td ee:TEnt} {bs:List UInt8} {tg:Tag} (ht:tget ti src=some te) (hks:te.kind=.slice el) (hel:tget ti el=some ee) (hke:ee.kind=.int .u8)
  (hd:tget ti dst'=some td) (hkd:td.kind=.str) (hx:σ.ev x=.sl tg 1 (bs.map fun c=>.int .u8 c.toNat)) (hK:K (σ.put dst (.str bs))):XOp P W0 nt σ dst (.convert src dst' x) K :=
 .val fun Γ w C a hf type pos after=>by
  obtain ⟨heo,rfl⟩:=hT.get ht;obtain ⟨heeo,rfl⟩:=hT.get hel;obtain ⟨hdo,rfl⟩:=hT.get hd
  have hv:=act_ev hf.tmps x; rw [hx] at hv
  refine ⟨.string ⟨⟨bs⟩⟩,w,C,σ,_,?_,hf,.str _,hK⟩
  rcases hv.sl_inv with ⟨h1,⟨a0,hv'⟩,_⟩|⟨b,o,cap,g,hv,_,_,hc,_,hk,_,hcell,_,hrep⟩
  ·have:bs=[]:=by simpa using h1
   subst this
   cases a0 with
   | none =>
    have:=run_convert_bytes_string (P:=P) w te.t td.t ee.t none 0 0 (heo.u_slice hks) (heeo.u_int hke) (hdo.u_str hkd)
    simp only [execOp,hv',Sem.run_bind,this]
    rfl
   | some ad =>
    have:=run_convert_bytes_back (P:=P) w te.t td.t ee.t ad 0 [] (heo.u_slice hks) (heeo.u_int hke) (hdo.u_str hkd) (fun j hj=>by simp at hj)
    simp only [List.length_nil] at this;simp only [execOp,hv',Sem.run_bind,this,Result.andThen_ok,Sem.run_pure]
  have hlen:(bs.map fun c=>D.int .u8 c.toNat).length=bs.length:=by simp
  rw [hlen] at hv
  have hfl:flat (bs.map fun c=>D.int .u8 c.toNat)=bs.map fun c=>D.int .u8 c.toNat:=by
   exact flat_one fun y hy=>by obtain ⟨c,_,rfl⟩:=List.mem_map.1 hy; rfl
  have:=run_convert_bytes_back (P:=P) w te.t td.t ee.t ⟨b,o,none⟩ cap bs (heo.u_slice hks) (heeo.u_int hke) (hdo.u_str hkd) (fun j hj=>by
   have hd:(flat (bs.map fun c=>D.int .u8 c.toNat))[j]? = some (.int .u8 (bs[j].toNat:Int)):=by rw [hfl]; simp [hj]
   have h1:=hcell j _ hd
   rw [(hrep j _ hd).int_inv] at h1
   simpa [addr_add] using h1)
  simp only [execOp,hv,Sem.run_bind,this,Result.andThen_ok,Sem.run_pure]
end Go.Tame
