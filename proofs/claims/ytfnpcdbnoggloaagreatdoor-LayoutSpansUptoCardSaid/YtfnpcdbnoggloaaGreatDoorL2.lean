/- A program logic of my own over the model, and contracts of this program's functions by it: part 2. No conditions of its own: each theorem states its own. -/
import Derived.Test.YtfnpcdbnoggloaaGreatDoorL1
import Derived.Laws.RangeString
import Derived.Laws.BytesString
import Derived.Laws.IdiomStrings
import Derived.Laws.Cover4
import Derived.Laws.Cover3
import Derived.ChangeArms
import Derived.ChangeSame
import Derived.WideKeyArgs
import Derived.Carry
import Derived.Lib.SmallJoins
import Derived.Test.YtfnpcdbnoggloaaGreatDoorProg
import Derived.ChangeKeysEq
import Derived.Deep.AppendSrc
import Derived.Scope
import Derived.Lib.AppendZerosOnto
import Derived.Laws.Externs
import Derived.Laws.IdiomCopy
import Derived.Deep.Upon
import Derived.Lib.AppendStr
import Derived.RangeFuncBox
import Derived.RangeFuncLeaves
import Derived.Shelf.Abstract
import Derived.WalkKit
import Derived.OwnWalkIn
import Derived.TacticsInMore
import Derived.LoopNIn
import Derived.LoopIn
import Derived.Shelf.SlIter.Collect
import Derived.RangeFuncKeeps
set_option linter.unnecessarySimpa false
set_option linter.unusedSimpArgs false
set_option linter.unusedVariables false
set_option maxRecDepth 100000
set_option maxHeartbeats 16000000
namespace Go.Tame
open Go Go.RowKit
variable {P:Program} {W0:World} {nt:Nat} {σ:DSt} {dst:Option Tmp} {K:DSt→Prop} {ti:List TEnt}
def rowPtr (v:Value) (off:Nat):Value :=
 match v with
 | .slice (some ⟨b,o,_⟩) _ _=>.pointer (some ⟨b,o+off,none⟩)
 | _=>undef
theorem RowV.pos {w:World} {C:Nat→Nat} {v:Value} {xs:List D} {k e i:Nat} (h:RowV w C v xs k e) (hi:i<xs.length):∃ b cap vs,v=.slice (some ⟨b,0,none⟩) xs.length cap∧xs.length≤cap∧cap≤maxLen ∧
  (∀ x∈xs,x.cells.length=k)∧w.heap[b]? = some (.cells vs e (0,0))∧vs.size=cap*k∧C b=0∧∀ (j:Nat) d,(flat xs)[j]? = some d→∃ u,vs[j]? = some u∧Rep w C d u∧u.oneCell'=true:=by
 obtain ⟨a,cap,hv,hc,hm,hk,_,hw⟩:=h;obtain ⟨b,vs,ha,hb,hs,hC,hr⟩:=hw (by omega);subst ha;exact ⟨b,cap,vs,hv,hc,hm,hk,hb,hs,hC,hr⟩
theorem XOp.rowIndex (hT:TOk P ti) {t:Nat} {x ix:Operand} (s:Nat) {v:Value} {xs:List D} {k e el:Nat} {i:Int} {ik:IntKind} {te ee:TEnt} (hx:σ.ev x=.raw v) (hs:σ.H s=some (.row v xs k e)) (hi:σ.ev ix=.int ik i)
  (ht:tget ti t=some te) (hks:te.kind=.slice el) (hel:tget ti el=some ee) (hke:ee.sz=k) (h0:0≤i) (h1:i<xs.length) (hK:K (σ.put dst (.raw (rowPtr v (i.toNat*k))))):XOp P W0 nt σ dst (.indexAddr t x ix) K :=
 .val fun Γ w C a hf type pos after=>by
  obtain ⟨heo,rfl⟩:=hT.get ht;obtain ⟨heeo,rfl⟩:=hT.get hel
  have hu:=heo.u_slice hks
  have hv:=act_ev hf.tmps x; rw [hx] at hv
  have hvi:=act_ev hf.tmps ix; rw [hi] at hvi
  obtain ⟨b,cap,vs,rfl,_⟩:=RowV.pos (i:=i.toNat) (hf.heap.obj s _ hs) (by omega);refine ⟨_,w,C,σ,_,?_,hf,.raw _,hK⟩
  simp [execOp,hv.raw_inv,hvi.int_inv,Instr.indexAt,asIntOf,run_underlying hu,h0,h1,heeo.size,addr_add,hke,rowPtr]
theorem XOp.rowLoad (hT:TOk P ti) {t:Nat} {x:Operand} (s:Nat) {v:Value} {xs:List D} {k e i:Nat} {te:TEnt} (hx:σ.ev x=.raw (rowPtr v (i*k))) (hs:σ.H s=some (.row v xs k e)) (ht:tget ti t=some te) {y:D}
  (hy:xs[i]? = some y) (hl:loadX te k 0 y fun d=>K (σ.put dst d)):XOp P W0 nt σ dst (.load t x) K :=
 .val fun Γ w C a hf type pos after=>by
  obtain ⟨heo,rfl⟩:=hT.get ht
  have hv:=act_ev hf.tmps x; rw [hx] at hv
  obtain ⟨b,cap,vs,rfl,_,_,hk,hb,hsz,_,hr⟩:=RowV.pos (hf.heap.obj s _ hs) (lt_of_get hy);obtain ⟨d,hK,hd⟩:=loadX_sound heo hl
  obtain ⟨u,hu,hru⟩:=hd w C b (0+i*k) (fun j=>vs.getD (i*k+j) undef) (hk y (List.mem_of_getElem? hy)) (fun j d hd=>by
   have hj:j<k:=by rw [← hk y (List.mem_of_getElem? hy)]; exact lt_of_get hd
   obtain ⟨u,h1,h2,_⟩:=hr (i*k+j) d (by rw [flat_get hk hy hj]; exact hd)
   refine ⟨?_,?_⟩
   ·simp only [World.cell?,hb,Nat.zero_add]
    simp [h1,Array.getD_eq_getD_getElem?]
   simp [Array.getD_eq_getD_getElem?,h1,h2])
  refine ⟨u,w,C,σ,d,?_,hf,hru,hK⟩;simp only [rowPtr] at hv;simp only [Nat.add_zero] at hu;simp only [execOp,hv.raw_inv,Sem.run_bind,hu,Result.andThen_ok,Sem.run_pure]
theorem XOp.rowLen (hT:TOk P ti) (s:Nat) {x:Operand} {t el:Nat} {v:Value} {xs:List D} {k e:Nat} {te:TEnt} (hx:σ.ev x=.raw v) (hs:σ.H s=some (.row v xs k e)) (ht:tget ti t=some te) (hks:te.kind=.slice el)
  (hK:K (σ.put dst (.int .i64 xs.length))):XOp P W0 nt σ dst (.call ⟨.builtin .len,#[x],#[t]⟩) K :=
 .val fun Γ w C a hf type pos after=>by
  obtain ⟨heo,rfl⟩:=hT.get ht
  have hu:=heo.u_slice hks
  have hv:=act_ev hf.tmps x; rw [hx] at hv
  obtain ⟨a',cap,rfl,_⟩:=hf.heap.obj s _ hs;refine ⟨.int .i64 xs.length,w,C,σ,_,?_,hf,.int _ _,hK⟩
  simp [execOp,resolve,invoke,builtin,Builtin.len_,run_underlying hu,hv.raw_inv,goInt]
theorem D.one_cells {d:D} (h:d.one=true):d.cells=[d]:=by cases d<;>first|rfl|cases h
theorem flat_set {k:Nat}:∀ {xs:List D} (_:∀ x∈xs,x.cells.length=k) {i:Nat} {x:D} (_:i<xs.length) (_:x.cells.length=k),
  flat (xs.set i x)=(flat xs).take (i*k)++x.cells++(flat xs).drop (i*k+x.cells.length)
 | [],_,_,_,h,_=>by simp at h
 | y::ys,hk,0,x,_,hx=>by
  have hy:=hk y List.mem_cons_self
  simp only [List.set_cons_zero,flat,List.flatMap_cons,Nat.zero_mul,List.take_zero,List.nil_append,Nat.zero_add];rw [List.drop_append_of_le_length (by omega),List.drop_of_length_le (by omega),List.nil_append]
 | y::ys,hk,i+1,x,h,hx=>by
  have hy:=hk y List.mem_cons_self
  have h1:=flat_set (xs:=ys) (fun z hz=>hk z (List.mem_cons_of_mem _ hz)) (i:=i) (x:=x) (by simpa using h) hx
  simp only [flat] at h1 ⊢;simp only [List.set_cons_succ,List.flatMap_cons,h1]
  rw [show (i+1)*k=y.cells.length+i*k by rw [Nat.succ_mul,hy]; omega,List.take_length_add_append,Nat.add_assoc,List.drop_length_add_append]
  simp [List.append_assoc]
theorem XOp.rowStore (hT:TOk P ti) {t:Nat} {x y:Operand} (s:Nat) {v:Value} {xs:List D} {e i:Nat} {te:TEnt} (hx:σ.ev x=.raw (rowPtr v (i*1))) (hs:σ.H s=some (.row v xs 1 e)) (ht:tget ti t=some te) (hsz:te.sz=1)
  (hi:i<xs.length) (ho:(σ.ev y).one=true) (hK:K ((σ.setH s (some (.row v (xs.set i (σ.ev y)) 1 e))).put dst .undef)):XOp P W0 nt σ dst (.store t x y) K :=
 .unit fun Γ w C a hf type pos after=>by
  obtain ⟨heo,rfl⟩:=hT.get ht
  have hv:=act_ev hf.tmps x; rw [hx] at hv
  have hy:=act_ev hf.tmps y
  obtain ⟨h1,h2⟩:=hy.one_cells ho;obtain ⟨b,cap,vs,rfl,hc,hm,hk,hb,hvs,hC,hr⟩:=RowV.pos (hf.heap.obj s _ hs) hi
  have hfit:i+0+(a.eval y).cells.toList.length≤vs.size:=by rw [h1,hvs]; simp; omega
  have hrun:=run_storeCells_at P b i e (a.eval y).cells.toList 0 vs w hb hfit (by rw [h1]; simpa using h2)
  simp only [Nat.add_zero] at hrun
  have hst:=Step.setRow (C:=C) (n:=0) hb (cs:=(vs.toList.take i++(a.eval y).cells.toList++vs.toList.drop (i+(a.eval y).cells.toList.length)).toArray) (by omega) (fun o ho=>by omega)
  have hc1:=D.one_cells ho
  have hset:=flat_set hk hi (x:=σ.ev y) (by rw [hc1]; rfl)
  have huse:HObj.uses (.row (.slice (some ⟨b,0,none⟩) xs.length cap) xs 1 e) b:=⟨_,cap,rfl,by omega⟩
  refine ⟨_,_,_,?_,hf.setH hst (s:=s) (fun x hx=>by subst hx; exact hf.heap.foot s _ _ hs huse) (fun s' o' b' hne hs' hu hbb=>?_) fun z hz=>?_,hK⟩
  ·simp only [rowPtr,Nat.zero_add,Nat.mul_one] at hv;simp only [execOp,hv.raw_inv,Instr.storeAt,Instr.sureAddr,Sem.run_bind,Sem.run_pure,Result.andThen_ok,storeVar,heo.size,hsz,h1];rw [h1] at hrun;rw [if_neg (by simp)];exact (congrArg (fun r=>Result.andThen r fun _ w'=>Result.ok Next.skip w') hrun).trans rfl
  ·subst hbb;exact hf.heap.inj s' s o' _ b' hne hs' hs hu huse
  cases hz
  refine ⟨⟨_,cap,by rw [List.length_set],by simpa using hc,hm,fun z hz=>?_,fun ad had=>⟨b,by cases had; rfl,by simpa using lt_of_heap hb⟩,fun _=>⟨b,_,rfl,setRow_heap w b _ _ e _ hb,?_,upd_same _ _ _,fun j d hd=>?_⟩⟩,fun x hx=>?_⟩
  ·rcases List.mem_or_eq_of_mem_set hz with hz|rfl
   ·exact hk z hz
   rw [hc1]; rfl
  ·simp only [List.size_toArray,List.length_append,List.length_take,List.length_drop,Array.length_toList,h1];simp only [Nat.mul_one] at hvs
   simp; omega
  ·rw [hset,Nat.mul_one,take_drop_get _ _ _ (by rw [flat_length hk,hc1]; simp; omega)] at hd
   rw [List.getElem?_toArray,take_drop_get _ _ _ (by simpa using hfit)]
   have hl1:(a.eval y).cells.toList.length=(σ.ev y).cells.length:=by rw [h1,hc1]; rfl
   rw [hl1]
   have hfl:(flat xs).length=xs.length:=by rw [flat_length hk]; omega
   by_cases hj:i≤j∧j<i+(σ.ev y).cells.length
   ·have hjl:j<xs.length:=by have:=hj.2; rw [hc1] at this; simp at this; omega
    rw [if_pos ⟨hj.1,hj.2,by rw [hfl]; exact hjl⟩] at hd
    rw [if_pos ⟨hj.1,hj.2,by simp; omega⟩]
    rw [hc1] at hd
    have hj0:j-i=0:=by have:=lt_of_get hd; simpa using this
    rw [hj0] at hd ⊢;simp only [List.getElem?_cons_zero,Option.some.injEq] at hd;subst hd
    exact ⟨a.eval y,by rw [h1]; rfl,hy.ext (by rw [hl1] at hst; exact hst.ext),h2⟩
   rw [if_neg (fun h=>hj ⟨h.1,h.2.1⟩)] at hd;rw [if_neg (fun h=>hj ⟨h.1,h.2.1⟩)];obtain ⟨u,h3,h4,h5⟩:=hr j d hd
   exact ⟨u,by simpa using h3,h4.ext (by rw [hl1] at hst; exact hst.ext),h5⟩
  obtain ⟨n',cap',hv',_⟩:=hx;simp only [Value.slice.injEq,Option.some.injEq,Addr.mk.injEq] at hv';obtain ⟨⟨rfl,_⟩,_⟩:=hv';exact ⟨hf.heap.foot s _ _ hs huse,.inl rfl⟩
theorem FR.newObj {Γ:Ctx P W0 nt} {w:World} {C:Nat→Nat} {a:Act} (h:FR Γ w C σ a) (s:Nat) {o:Obj} {ob:HObj} (hor:ORel (w.alloc o) (upd C w.heap.size 0) ob) (hu:∀ b,ob.uses b→b=w.heap.size) :
  FR Γ (w.alloc o) (upd C w.heap.size 0) (σ.setH s (some ob)) a:=by
 have hs:=Step.alloc (fun _=>False) w C o 0
 refine h.setH hs (fun _ hf=>hf.elim) (fun _ _ _ _ _ _ hf=>hf) (fun x hx=>?_)
 cases hx
 refine ⟨hor,fun b hb=>?_⟩;rw [hu b hb];exact ⟨h.foot_new,.inr (Nat.le_refl _)⟩
theorem flat_replicate {z:D} (hone:z.one=true):∀ n,flat (List.replicate n z)=List.replicate n z
 | 0=>rfl
 | n+1=>by
  have h:=flat_replicate hone n
  simp only [flat] at h ⊢
  rw [List.replicate_succ,List.flatMap_cons,h,D.one_cells hone]; rfl
theorem slice_uses {b b' o o' n n' c c':Nat} (h:Value.slice (some ⟨b,o,none⟩) n c=Value.slice (some ⟨b',o',none⟩) n' c'):b'=b:=by
 simp only [Value.slice.injEq,Option.some.injEq,Addr.mk.injEq] at h;exact h.1.1.symm
theorem run_makeN {te ee:TEnt} (heo:te.Ok P) (heeo:ee.Ok P) (hks:te.kind=.slice ee.t) (w:World) (k1 k2:IntKind) (l n:Nat) (hl:l≤n) (hb:ee.bytes*n≤281474976710656) (hn:n≤9223372036854775807) {zs:List D} (hz:ee.zero=some zs) :
  ∃ zv:Value,(∀ w C,RepL w C zs zv.cells.toList)∧zs.length=ee.sz ∧
   (Instr.makeSlice te.t (.int k1 (l:Int)) (.int k2 (n:Int))).run P w=.ok (.slice (some ⟨w.heap.size,0,none⟩) l n) (w.alloc (.cells (madeCells zv.cells (n*ee.sz)) ee.t)):=by
 obtain ⟨i,hi,hsz,hby,hzz⟩:=heeo.info;obtain ⟨zv,hzv,hzl,hzr⟩:=hzz zs hz;refine ⟨zv,hzr,hzl,?_⟩
 have hr:=run_make (P:=P) w te.t ee.t i zv (heo.u_slice hks) hi hzv k1 k2 l n (by omega) (by omega) (by
  rw [hby]; have:((ee.bytes*n:Nat):Int)≤281474976710656:=by omega
  rwa [Int.natCast_mul] at this) (by omega)
 rw [hsz] at hr
 simpa using hr
theorem XOp.makeRow (hT:TOk P ti) {t:Nat} {l c:Operand} {el n:Nat} {k1 k2:IntKind} {te ee:TEnt} {z:D} {s:Nat} (ht:tget ti t=some te) (hks:te.kind=.slice el) (hel:tget ti el=some ee) (hz:ee.zero=some [z]) (hone:z.one=true)
  (hl:σ.ev l=.int k1 n) (hc:σ.ev c=.int k2 n) (hb:ee.bytes*n≤281474976710656) (hn:n≤9223372036854775807)
  (hK:∀ v,K ((σ.setH s (some (.row v (List.replicate n z) 1 el))).put (some s) (.raw v))):XOp P W0 nt σ (some s) (.makeSlice t l c) K :=
 .val fun Γ w C a hf type pos after=>by
  obtain ⟨heo,rfl⟩:=hT.get ht;obtain ⟨heeo,rfl⟩:=hT.get hel
  have hvl:=act_ev hf.tmps l; rw [hl] at hvl
  have hvc:=act_ev hf.tmps c; rw [hc] at hvc
  obtain ⟨zv,hzr,hzl,hrun⟩:=run_makeN heo heeo hks w k1 k2 n n (Nat.le_refl _) hb hn hz
  have hzc:∃ u,zv.cells=#[u]:=by
   have h1:=(hzr w C).1
   generalize zv.cells=cs at h1 ⊢;obtain ⟨l⟩:=cs
   match l,h1 with
   | [u],_=>exact ⟨u,rfl⟩
  obtain ⟨u,hu⟩:=hzc
  have hrep:∀ w C,Rep w C z u:=fun w C=>by have:=(hzr w C).2 0 z u rfl (by rw [hu]; rfl); exact this
  have hou:=((hrep w C).one_cells hone).2
  have hsz:ee.sz=1:=by rw [← hzl]; rfl
  rw [hu,hsz,Nat.mul_one] at hrun;refine ⟨_,_,_,_,_,?_,hf.newObj s (ob:=.row (.slice (some ⟨w.heap.size,0,none⟩) n n) (List.replicate n z) 1 ee.t) (o:=.cells (madeCells #[u] n) ee.t) ?_ ?_,.raw _,hK _⟩
  ·simp only [execOp,hvl.int_inv,hvc.int_inv,Sem.run_bind,hrun,Result.andThen_ok,Sem.run_pure]
  ·have h1:∀ x∈List.replicate n z,x.cells=[x]:=fun x hx=>by rw [List.eq_of_mem_replicate hx]; exact D.one_cells hone
   refine ⟨_,n,by simp,by simp,by simp only [maxLen]; omega,fun x hx=>by rw [h1 x hx]; rfl,fun ad had=>⟨_,by cases had; rfl,lt_of_heap (heap_alloc_new' w _)⟩,fun _=>⟨w.heap.size,_,rfl,heap_alloc_new' w _,by simp [size_madeCells],upd_same _ _ _,fun j d hd=>?_⟩⟩
   have hfl:=flat_replicate hone n
   rw [hfl] at hd
   have hj:j<n:=by have:=lt_of_get hd; simpa using this
   have hdz:d=z:=by simp [hj] at hd; exact hd.symm
   subst hdz;refine ⟨u,?_,hrep _ _,hou⟩
   rw [← Array.getElem?_toList,toList_madeCells_one]; simp [hj]
  rintro b ⟨n',cap,h,_⟩; exact slice_uses h
theorem XOp.makeOwn (hT:TOk P ti) {t:Nat} {l c:Operand} {el n:Nat} {k1 k2:IntKind} {te ee:TEnt} {zs:List D} {s:Nat} (ht:tget ti t=some te) (hks:te.kind=.slice el) (hel:tget ti el=some ee) (hz:ee.zero=some zs)
  (hl:σ.ev l=.int k1 0) (hc:σ.ev c=.int k2 n) (hb:ee.bytes*n≤281474976710656) (hn:n≤9223372036854775807)
  (hK:∀ v,K ((σ.setH s (some (.own v 0 ee.sz el))).put (some s) (.sl (.own s v) ee.sz []))):XOp P W0 nt σ (some s) (.makeSlice t l c) K :=
 .val fun Γ w C a hf type pos after=>by
  obtain ⟨heo,rfl⟩:=hT.get ht;obtain ⟨heeo,rfl⟩:=hT.get hel
  have hvl:=act_ev hf.tmps l; rw [hl] at hvl
  have hvc:=act_ev hf.tmps c; rw [hc] at hvc
  obtain ⟨zv,hzr,hzl,hrun⟩:=run_makeN heo heeo hks w k1 k2 0 n (by omega) hb hn hz;refine ⟨.slice (some ⟨w.heap.size,0,none⟩) 0 n,_,_,_,_,?_,hf.newObj s (ob:=.own (.slice (some ⟨w.heap.size,0,none⟩) 0 n) 0 ee.sz ee.t) (o:=.cells (madeCells zv.cells (n*ee.sz)) ee.t) ?_ ?_,?_,hK _⟩
  ·have h0:((0:Nat):Int)=0:=rfl
   rw [h0] at hrun;simp only [execOp,hvl.int_inv,hvc.int_inv,Sem.run_bind,hrun,Result.andThen_ok,Sem.run_pure]
  ·exact ⟨_,n,rfl,by omega,by simp only [maxLen]; omega,fun _=>⟨w.heap.size,_,rfl,heap_alloc_new' w _,size_madeCells _ _,by rw [upd_same,Nat.zero_mul]⟩⟩
  ·rintro b ⟨o',cap,h,_⟩; exact slice_uses h
  exact .sl _ _ [] w.heap.size 0 n (fun _=>undef) rfl (lt_of_heap (heap_alloc_new' w _)) (by simp) (by simp only [maxLen]; omega) (fun x hx=>by cases hx) (by simp) (fun j d hd=>by simp [flat] at hd) (fun j d hd=>by simp [flat] at hd) (fun j d hd=>by simp [flat] at hd)
theorem upd_le (C:Nat→Nat) (b n:Nat) (h:C b≤n) (x:Nat):C x≤upd C b n x:=by
 by_cases e:x=b
 ·subst e; rw [upd_same]; exact h
 rw [upd_ne _ _ e]; exact Nat.le_refl _
theorem Tri.commit {Γ:Ctx P W0 nt} {c:Code} {K:DExit→DSt→Prop} (s:Nat) {v:Value} {xs:List D} {k e:Nat} (hs:σ.H s=some (.row v xs k e)) (σ':DSt)
  (ht:∀ w C,Rep w C (.sl (.own s v) k xs) v→∀ j u,Rep w C (σ.t j) u→Rep w C (σ'.t j) u) (hh:∀ j o,σ'.H j=some o→(j=s∧o=.own v xs.length k e)∨(j≠s∧σ.H j=some o))
  (h:Tri Γ c σ' K):Tri Γ c σ K :=
 ⟨fun a w C hf=>by
  obtain ⟨a',cap,hv,hc,hm,hk,hbl,hw⟩:=hf.heap.obj s _ hs
  by_cases h0:0<cap
  ·obtain ⟨b,vs,rfl,hb,hsz,hC,hr⟩:=hw h0
   have huse:HObj.uses (.row v xs k e) b:=⟨_,cap,hv,h0⟩
   have hext:Ext w C w (upd C b (xs.length*k)):=⟨Nat.le_refl _,fun x _=>upd_le C b _ (by omega) x,fun _ _ _ _=>rfl⟩
   have hst:Step (fun x=>x=b) w C w (upd C b (xs.length*k)):=⟨hext,rfl,rfl,rfl,fun x _ hx=>⟨rfl,upd_ne _ _ hx⟩⟩
   have hrow:Rep w (upd C b (xs.length*k)) (.sl (.own s v) k xs) v:=by
    have:=rep_row (w:=w) (C:=upd C b (xs.length*k)) (tg:=.own s v) (k:=k) (xs:=xs) (vs:=vs.toList) (b:=b) (e:=e) (fz:=(0,0)) (cap:=cap) hb hk hc hm (by rw [upd_same]; exact Nat.le_refl _)
     (fun j d hd=>by obtain ⟨u,h1,h2,h3⟩:=hr j d hd; exact ⟨u,by simpa using h1,h2.ext hext,h3⟩) hv.symm
    rw [hv] at this ⊢; exact this
   refine h.run a w (upd C b (xs.length*k)) ⟨fun j=>ht _ _ hrow j _ ((hf.tmps j).ext hext),⟨fun j o ho=>?_,fun j j' o o' x hne h1 h2 hu hu'=>?_,fun j o x ho hu=>?_⟩,hf.size,hf.defers,?_⟩
   ·rcases hh j o ho with ⟨rfl,rfl⟩|⟨hj,ho⟩
    ·exact ⟨_,cap,hv,hc,hm,fun _=>⟨b,vs,rfl,hb,hsz,upd_same _ _ _⟩⟩
    exact (hf.heap.obj j o ho).keep hext fun x hx=>⟨rfl,upd_ne _ _ fun e=>by subst e; exact hf.heap.inj j s o _ x hj ho hs hx huse⟩
   ·have key:∀ j o,σ'.H j=some o→o.uses x→∃ o2,σ.H j=some o2∧o2.uses x:=fun j o ho hu=>by
     rcases hh j o ho with ⟨rfl,rfl⟩|⟨_,ho⟩
     ·obtain ⟨o',cap',h3,h4⟩:=hu;rw [hv] at h3
      have:=slice_uses h3; subst this
      exact ⟨_,hs,huse⟩
     exact ⟨o,ho,hu⟩
    obtain ⟨o2,h3,h4⟩:=key j o h1 hu;obtain ⟨o3,h5,h6⟩:=key j' o' h2 hu';exact hf.heap.inj j j' o2 o3 x hne h3 h5 h4 h6
   ·rcases hh j o ho with ⟨rfl,rfl⟩|⟨_,ho⟩
    ·obtain ⟨o',cap',h3,h4⟩:=hu;rw [hv] at h3
     have:=slice_uses h3; subst this
     exact hf.heap.foot _ _ _ hs huse
    exact hf.heap.foot j o x ho hu
   refine hf.step.trans hst fun x hx hxb=>?_
   subst hxb
   rcases hf.heap.foot s _ _ hs huse with h1|h1
   ·exact h1
   omega
  have hx:xs=[]:=List.eq_nil_of_length_eq_zero (by omega)
  subst hx
  have hcap:cap=0:=by omega
  subst hcap
  have hrow:Rep w C (.sl (.own s v) k []) v:=by
   cases a' with
   | none=>rw [hv]; exact .sl0 _ _ none rfl
   | some ad =>
    obtain ⟨b,rfl,hb⟩:=hbl ad rfl;rw [hv];exact .sl _ _ [] b 0 0 (fun _=>undef) rfl hb (Nat.le_refl _) (Nat.zero_le _) (fun x hx=>by cases hx) (by simp) (fun j d hd=>by simp [flat] at hd) (fun j d hd=>by simp [flat] at hd) (fun j d hd=>by simp [flat] at hd)
  have hnu:∀ j o x,σ'.H j=some o→o.uses x→j≠s∧σ.H j=some o:=fun j o x ho hu=>by
   rcases hh j o ho with ⟨rfl,rfl⟩|h2
   ·obtain ⟨o',cap',h3,h4⟩:=hu;rw [hv] at h3;simp only [Value.slice.injEq] at h3
    simp at h4; omega
   exact h2
  refine h.run a w C ⟨fun j=>ht _ _ hrow j _ (hf.tmps j),⟨fun j o ho=>?_,fun j j' o o' x hne h1 h2 hu hu'=>?_,fun j o x ho hu=>?_⟩,hf.size,hf.defers,hf.step⟩
  ·rcases hh j o ho with ⟨rfl,rfl⟩|⟨hj,ho⟩
   ·exact ⟨_,0,hv,Nat.le_refl _,Nat.zero_le _,fun h=>absurd h (by simp)⟩
   exact hf.heap.obj j o ho
  ·exact hf.heap.inj j j' o o' x hne (hnu j o x h1 hu).2 (hnu j' o' x h2 hu').2 hu hu'
  exact hf.heap.foot j o x (hnu j o x ho hu).2 hu⟩
open Go.MapKept
theorem XOp.makeMap {t:TypeId} {s:Nat} (hK:∀ b,K ((σ.setH s (some (.set b []))).put (some s) (.raw (.map (some b))))):XOp P W0 nt σ (some s) (.makeMap t none) K :=
 .val fun Γ w C a hf type pos after=>by
  refine ⟨.map (some w.heap.size),_,_,_,_,?_,hf.newObj s (ob:=.set w.heap.size []) (o:=.map #[] 0) ⟨#[],0,heap_alloc_new' w _,upd_same _ _ _,by simp,by simp⟩ (fun b hb=>hb),.raw _,hK _⟩
  simp [execOp,Instr.makeMap,Result.andThen]
theorem SetV.keys {w:World} {C:Nat→Nat} {b:Nat} {ks:List (List UInt8)} (h:SetV w C b ks):∃ es clock,w.heap[b]? = some (.map es clock)∧C b=0∧(∀ x∈es.toList,IsKey .string x.key)∧(∀ x∈es.toList,x.val=.bool true) ∧
  (∀ x∈es.toList,∃ s,x.key=.string ⟨⟨s⟩⟩)∧∀ s:List UInt8,s∈ks↔∃ x∈es.toList,x.key=.string ⟨⟨s⟩⟩:=by
 obtain ⟨es,clock,hb,hC,h1,h2⟩:=h
 exact ⟨es,clock,hb,hC,fun x hx=>by obtain ⟨⟨s,hs⟩,_⟩:=h1 x hx; rw [hs]; trivial,fun x hx=>(h1 x hx).2,fun x hx=>(h1 x hx).1,h2⟩
theorem XOp.setLookup {t kt et:TypeId} {m x:Operand} (s:Nat) {b:Nat} {ks:List (List UInt8)} {q:List UInt8} (hm:P.underlying t=some (.map kt et)) (hd:P.underlying kt=some .string)
  (hz:∀ w,(zeroValue et).run P w=.ok (.bool false) w) (hx:σ.ev m=.raw (.map (some b))) (hs:σ.H s=some (.set b ks)) (hq:σ.ev x=.str q) (hK:K (σ.put dst (.bool (decide (q∈ks))))) :
  XOp P W0 nt σ dst (.lookup t m x false) K :=
 .val fun Γ w C a hf type pos after=>by
  have hvm:=act_ev hf.tmps m; rw [hx] at hvm
  have hvx:=act_ev hf.tmps x; rw [hq] at hvx
  obtain ⟨es,clock,hb,hC,hk,hv,hs',hmem⟩:=SetV.keys (hf.heap.obj s _ hs);refine ⟨.bool (decide (q∈ks)),w,C,σ,_,?_,hf,.bool _,hK⟩
  rcases findNow_spec (d:=.string) (k:=.string ⟨⟨q⟩⟩) trivial es.toList 0 hk with ⟨h1,h2⟩|⟨j,e,h1,h2,h3⟩
  ·have:q∉ks:=fun h=>by obtain ⟨x,hx,hxk⟩:=(hmem q).1 h; exact h2 x hx hxk
   simp [execOp,hvm.raw_inv,hvx.str_inv,Instr.lookup,run_underlying hm,Go.MapKept.run_getObj_map hb,run_checkKey hd (k:=.string ⟨⟨q⟩⟩) trivial,run_findKey hd h1,hz,this,Result.andThen]
  have hmm:=List.mem_of_getElem? h2
  have:q∈ks:=(hmem q).2 ⟨e,hmm,h3⟩
  simp [execOp,hvm.raw_inv,hvx.str_inv,Instr.lookup,run_underlying hm,Go.MapKept.run_getObj_map hb,run_checkKey hd (k:=.string ⟨⟨q⟩⟩) trivial,run_findKey hd h1,this,Result.andThen,hv e hmm]
theorem Step.setBlock {w:World} {C:Nat→Nat} {b:Nat} {o o':Obj} (hb:w.heap[b]? = some o) (hC:C b=0):Step (fun x=>x=b) w C { w with heap:=w.heap.setIfInBounds b o' } C :=
 ⟨⟨by simp,fun _ _=>Nat.le_refl _,fun x i hx hi=>by
   have hne:x≠b:=fun e=>by subst e; omega
   simp only [World.cell?]
   rw [show (w.heap.setIfInBounds b o')[x]? = w.heap[x]? from (heap_set hb).2 x hne]⟩,rfl,rfl,rfl,fun x _ hx=>⟨(heap_set hb).2 x hx,rfl⟩⟩
theorem XOp.setUpdate {t kt et:TypeId} {m x y:Operand} (s:Nat) {b:Nat} {ks:List (List UInt8)} {q:List UInt8} (hm:P.underlying t=some (.map kt et)) (hd:P.underlying kt=some .string)
  (hx:σ.ev m=.raw (.map (some b))) (hs:σ.H s=some (.set b ks)) (hq:σ.ev x=.str q) (hy:σ.ev y=.bool true) (hK:K ((σ.setH s (some (.set b (q::ks)))).put dst .undef)) :
  XOp P W0 nt σ dst (.mapUpdate t m x y) K :=
 .unit fun Γ w C a hf type pos after=>by
  have hvm:=act_ev hf.tmps m; rw [hx] at hvm
  have hvx:=act_ev hf.tmps x; rw [hq] at hvx
  have hvy:=act_ev hf.tmps y; rw [hy] at hvy
  obtain ⟨es,clock,hb,hC,hk,hv,hs',hmem⟩:=SetV.keys (hf.heap.obj s _ hs)
  have huse:HObj.uses (.set b ks) b:=rfl
  have fin:∀ es' clock',(∀ x∈es'.toList,(∃ s,x.key=.string ⟨⟨s⟩⟩)∧x.val=.bool true)→(∀ s:List UInt8,s∈q::ks↔∃ x∈es'.toList,x.key=.string ⟨⟨s⟩⟩) →
    FR Γ { w with heap:=w.heap.setIfInBounds b (.map es' clock') } C (σ.setH s (some (.set b (q::ks)))) a:=fun es' clock' h1 h2=>by
   have hst:=Step.setBlock (o':=.map es' clock') hb hC
   refine hf.setH hst (s:=s) (fun x hx=>by subst hx; exact hf.heap.foot s _ _ hs huse) (fun s' o' b' hne hs' hu hbb=>?_) fun z hz=>?_
   ·subst hbb; exact hf.heap.inj s' s o' _ b' hne hs' hs hu huse
   cases hz
   exact ⟨⟨es',clock',(heap_set hb).1,hC,h1,h2⟩,fun x hx=>⟨by cases hx; exact hf.heap.foot s _ _ hs huse,.inl hx⟩⟩
  rcases findNow_spec (d:=.string) (k:=.string ⟨⟨q⟩⟩) trivial es.toList 0 hk with ⟨h1,h2⟩|⟨j,e,h1,h2,h3⟩
  ·refine ⟨_,C,_,?_,fin (es.push ⟨.string ⟨⟨q⟩⟩,.bool true,clock⟩) (clock+1) (fun x hx=>?_) (fun s=>?_),hK⟩
   ·simp [execOp,hvm.raw_inv,hvx.str_inv,hvy.bool_inv,Instr.mapUpdate,run_underlying hm,Go.MapKept.run_getObj_map hb,run_checkKey hd (k:=.string ⟨⟨q⟩⟩) trivial,run_findKey hd h1,run_setObj_map _ hb,Result.andThen]
   ·rw [Array.toList_push] at hx
    rcases List.mem_append.1 hx with hx|hx
    ·exact ⟨hs' x hx,hv x hx⟩
    simp only [List.mem_singleton] at hx; subst hx; exact ⟨⟨q,rfl⟩,rfl⟩
   simp only [Array.toList_push,List.mem_append,List.mem_cons,hmem s]
   constructor
   ·rintro (rfl|⟨x,hx,hxk⟩)
    ·exact ⟨⟨.string ⟨⟨s⟩⟩,.bool true,clock⟩,.inr (.inl rfl),rfl⟩
    exact ⟨x,.inl hx,hxk⟩
   rintro ⟨x,hx|hx,hxk⟩
   ·exact .inr ⟨x,hx,hxk⟩
   left; simp only [List.not_mem_nil,or_false] at hx; subst hx; injection hxk with h; injection h with h; injection h with h; exact h.symm
  have hj:es[j]? = some e:=by simpa using h2
  have hmm:=List.mem_of_getElem? h2
  have hkey:∀ x∈(es.modify j fun e=>{ e with key:=.string ⟨⟨q⟩⟩,val:=.bool true }).toList,x∈es.toList∨(x.key=.string ⟨⟨q⟩⟩∧x.val=.bool true):=fun x hx=>by
   rcases MapFrom.mem_modify hx with hx|⟨e',_,rfl⟩
   ·exact .inl hx
   exact .inr ⟨rfl,rfl⟩
  refine ⟨_,C,_,?_,fin (es.modify j fun e=>{ e with key:=.string ⟨⟨q⟩⟩,val:=.bool true }) clock (fun x hx=>?_) (fun s=>?_),hK⟩
  ·simp [execOp,hvm.raw_inv,hvx.str_inv,hvy.bool_inv,Instr.mapUpdate,run_underlying hm,Go.MapKept.run_getObj_map hb,run_checkKey hd (k:=.string ⟨⟨q⟩⟩) trivial,run_findKey hd h1,run_setObj_map _ hb,Result.andThen,hj,h3,
    run_keyThatStays (d:=.string) (k:=.string ⟨⟨q⟩⟩) trivial]
  ·rcases hkey x hx with hx|⟨h4,h5⟩
   ·exact ⟨hs' x hx,hv x hx⟩
   exact ⟨⟨q,h4⟩,h5⟩
  have hmod:∀ i:Nat,((es.modify j fun e=>{ e with key:=.string ⟨⟨q⟩⟩,val:=.bool true })[i]?).map MapEntry.key=(es[i]?).map MapEntry.key:=fun i=>by
   rw [Array.getElem?_modify]
   by_cases hij:j=i
   ·subst hij; simp [hj,h3]
   simp [hij]
  have hex:∀ es':Array MapEntry,(∃ x∈es'.toList,x.key=.string ⟨⟨s⟩⟩)↔∃ i:Nat,(es'[i]?).map MapEntry.key=some (.string ⟨⟨s⟩⟩):=fun es'=>by
   constructor
   ·rintro ⟨x,hx,hk⟩;obtain ⟨i,hi⟩:=List.mem_iff_getElem?.1 hx
    exact ⟨i,by rw [← Array.getElem?_toList,hi]; simp [hk]⟩
   rintro ⟨i,hi⟩
   cases he:es'[i]? with
   | none=>rw [he] at hi; cases hi
   | some x=>rw [he] at hi; simp at hi; exact ⟨x,List.mem_of_getElem? (by rw [Array.getElem?_toList]; exact he),hi⟩
  rw [hex];simp only [hmod];rw [← hex,← hmem s,List.mem_cons]
  constructor
  ·rintro (rfl|h)
   ·exact (hmem _).2 ⟨e,hmm,h3⟩
   exact h
  exact .inr
theorem flat_one:∀ {xs:List D},(∀ x∈xs,x.cells=[x])→flat xs=xs
 | [],_=>rfl
 | x::r,h=>by
  have h1:=flat_one (xs:=r) fun y hy=>h y (List.mem_cons_of_mem _ hy)
  simp only [flat,List.flatMap_cons] at h1 ⊢
  rw [h1,h x List.mem_cons_self]; rfl
theorem XOp.bytesStr (hT:TOk P ti) {src dst' el:Nat} {x:Operand} {te td ee:TEnt} {bs:List UInt8} {tg:Tag} (ht:tget ti src=some te) (hks:te.kind=.slice el) (hel:tget ti el=some ee) (hke:ee.kind=.int .u8)
  (hd:tget ti dst'=some td) (hkd:td.kind=.str) (hx:σ.ev x=.sl tg 1 (bs.map fun c=>.int .u8 c.toNat)) (hK:K (σ.put dst (.str bs))):XOp P W0 nt σ dst (.convert src dst' x) K :=
 .val fun Γ w C a hf type pos after=>by
  obtain ⟨heo,rfl⟩:=hT.get ht;obtain ⟨heeo,rfl⟩:=hT.get hel;obtain ⟨hdo,rfl⟩:=hT.get hd
  have hv:=act_ev hf.tmps x; rw [hx] at hv
  refine ⟨.string ⟨⟨bs⟩⟩,w,C,σ,_,?_,hf,.str _,hK⟩
  rcases hv.sl_inv with ⟨h1,⟨a0,hv'⟩,_⟩|⟨b,o,cap,g,hv,_,_,hc,_,hk,_,hcell,_,hrep⟩
  ·have:bs=[]:=by simpa using h1
   subst this
   cases a0 with
   | none =>
    have:=run_convert_bytes_string (P:=P) w te.t td.t ee.t none 0 0 (heo.u_slice hks) (heeo.u_int hke) (hdo.u_str hkd)
    simp only [execOp,hv',Sem.run_bind,this]
    rfl
   | some ad =>
    have:=run_convert_bytes_back (P:=P) w te.t td.t ee.t ad 0 [] (heo.u_slice hks) (heeo.u_int hke) (hdo.u_str hkd) (fun j hj=>by simp at hj)
    simp only [List.length_nil] at this;simp only [execOp,hv',Sem.run_bind,this,Result.andThen_ok,Sem.run_pure]
  have hlen:(bs.map fun c=>D.int .u8 c.toNat).length=bs.length:=by simp
  rw [hlen] at hv
  have hfl:flat (bs.map fun c=>D.int .u8 c.toNat)=bs.map fun c=>D.int .u8 c.toNat:=by
   exact flat_one fun y hy=>by obtain ⟨c,_,rfl⟩:=List.mem_map.1 hy; rfl
  have:=run_convert_bytes_back (P:=P) w te.t td.t ee.t ⟨b,o,none⟩ cap bs (heo.u_slice hks) (heeo.u_int hke) (hdo.u_str hkd) (fun j hj=>by
   have hd:(flat (bs.map fun c=>D.int .u8 c.toNat))[j]? = some (.int .u8 (bs[j].toNat:Int)):=by rw [hfl]; simp [hj]
   have h1:=hcell j _ hd
   rw [(hrep j _ hd).int_inv] at h1
   simpa [addr_add] using h1)
  simp only [execOp,hv,Sem.run_bind,this,Result.andThen_ok,Sem.run_pure]
theorem XOp.runesRow (hT:TOk P ti) {src dst' el s:Nat} {x:Operand} {te td ee:TEnt} {bs:List UInt8} (ht:tget ti src=some te) (hks:te.kind=.str) (hd:tget ti dst'=some td) (hkd:td.kind=.slice el)
  (hel:tget ti el=some ee) (hke:ee.kind=.int .i32) (hx:σ.ev x=.str bs) (hlen:bs.length≤70368744177664)
  (hK:∀ (aa:Option Addr) (cap:Nat),K ((σ.setH s (some (.row (.slice aa (runesI bs).length cap) ((runesI bs).map (D.int .i32)) 1 el))).put (some s) (.raw (.slice aa (runesI bs).length cap)))):XOp P W0 nt σ (some s) (.convert src dst' x) K :=
 .val fun Γ w C a hf type pos after=>by
  obtain ⟨heo,rfl⟩:=hT.get ht;obtain ⟨hdo,rfl⟩:=hT.get hd;obtain ⟨heeo,rfl⟩:=hT.get hel
  have hv:=act_ev hf.tmps x; rw [hx] at hv
  have hsz:=size_runesFrom ⟨⟨bs⟩⟩ bs.length 0 #[]
  have hss:(⟨⟨bs⟩⟩:ByteArray).size=bs.length:=rfl
  have hrun:=run_runes_of_string (P:=P) w te.t td.t ee.t ⟨⟨bs⟩⟩ (heo.u_str hks) (hdo.u_slice hkd) (heeo.u_int hke) (by rw [hss]; simp at hsz; omega)
  rw [hss] at hrun
  have hlist:=runesFrom_go ⟨⟨bs⟩⟩ bs.length 0 #[]
  have hsize:(Conv.runesFrom ⟨⟨bs⟩⟩ bs.length 0 #[]).size=(runesI bs).length:=by
   rw [← Array.length_toList,hlist]; simp [runesI]
  have hge:=grownCap_ge w (Conv.runesFrom ⟨⟨bs⟩⟩ bs.length 0 #[]).size 0 ee.t
  have hmx:=grownCap_le_maxLen w (Conv.runesFrom ⟨⟨bs⟩⟩ bs.length 0 #[]).size 0 ee.t (by simp at hsz; unfold maxLen; omega)
  have hf1:FR Γ w.drew C σ a:=hf.step0 (Step.drew _ w C)
  have hmap:((runesI bs).map (D.int .i32)).length=(Conv.runesFrom ⟨⟨bs⟩⟩ bs.length 0 #[]).size:=by rw [hsize]; simp
  refine ⟨_,_,_,_,_,?_,hf1.newObj s (ob:=.row (.slice (some ⟨w.heap.size,0,none⟩) (runesI bs).length (grownCap w (Conv.runesFrom ⟨⟨bs⟩⟩ bs.length 0 #[]).size 0 ee.t)) ((runesI bs).map (D.int .i32)) 1 ee.t)
   (o:=.cells (Conv.runesFrom ⟨⟨bs⟩⟩ bs.length 0 #[]++Array.replicate (grownCap w (Conv.runesFrom ⟨⟨bs⟩⟩ bs.length 0 #[]).size 0 ee.t-(Conv.runesFrom ⟨⟨bs⟩⟩ bs.length 0 #[]).size) (.int .i32 0)) ee.t) ?_ ?_,.raw _,hK _ _⟩
  ·simp only [execOp,hv.str_inv,Sem.run_bind,hrun,Result.andThen_ok,Sem.run_pure];rw [hsize]
  ·refine ⟨_,_,by rw [hmap,hsize],by rw [hmap]; exact hge,hmx,fun x hx=>by obtain ⟨n,_,rfl⟩:=List.mem_map.1 hx; rfl,fun ad had=>⟨_,by cases had; rfl,lt_of_heap (heap_alloc_new' w.drew _)⟩,
    fun _=>⟨w.heap.size,_,rfl,heap_alloc_new' w.drew _,by simp; omega,upd_same _ _ _,fun j d hd=>?_⟩⟩
   rw [flat_ints,List.getElem?_map,Option.map_eq_some_iff] at hd;obtain ⟨n,hn,rfl⟩:=hd;refine ⟨.int .i32 n,?_,.int _ _,rfl⟩
   have hj:j<(runesI bs).length:=(List.getElem?_eq_some_iff.1 hn).1
   rw [← Array.getElem?_toList,Array.toList_append,hlist];simp only [List.nil_append];rw [List.getElem?_append_left (by simpa [runesI] using hj),List.getElem?_map]
   have:(runeGo ⟨⟨bs⟩⟩ bs.length 0)[j]? = some n:=hn
   rw [this]; rfl
  rintro b ⟨n',cap,h,_⟩; exact slice_uses h
theorem XOp.rangeStr {s:Nat} {t:TypeId} {x:Operand} {bs:List UInt8} (ht:P.underlying t=some .string) (hx:σ.ev x=.str bs)
  (hK:∀ b,K ((σ.setH s (some (.obj b (.stringIter ⟨⟨bs⟩⟩ 0)))).put (some s) (.raw (.pointer (some ⟨b,0,none⟩))))):XOp P W0 nt σ (some s) (.range t x) K :=
 .val fun Γ w C a hf type pos after=>by
  have hv:=act_ev hf.tmps x; rw [hx] at hv
  refine ⟨_,_,_,_,_,?_,hf.newObj s (ob:=.obj w.heap.size (.stringIter ⟨⟨bs⟩⟩ 0)) (o:=.stringIter ⟨⟨bs⟩⟩ 0) ?_ ?_,.raw _,hK _⟩
  ·simp only [execOp,hv.str_inv,Sem.run_bind,run_range_string w t ⟨⟨bs⟩⟩ ht,Result.andThen_ok,Sem.run_pure]
   rfl
  ·exact ⟨heap_alloc_new' w _,upd_same _ _ _⟩
  intro b hb; exact hb
theorem XOp.nextStr {dst:Option Tmp} {x:Operand} (s:Nat) {b pos:Nat} {bs:List UInt8} (hx:σ.ev x=.raw (.pointer (some ⟨b,0,none⟩))) (hs:σ.H s=some (.obj b (.stringIter ⟨⟨bs⟩⟩ pos)))
  (h1:pos<bs.length→K ((σ.setH s (some (.obj b (.stringIter ⟨⟨bs⟩⟩ (pos+(Utf8.decode ⟨⟨bs⟩⟩ pos).2))))).put dst (.tup [.bool true,.int .i64 pos,.int .i32 ((Utf8.decode ⟨⟨bs⟩⟩ pos).1:Nat)])))
  (h2:¬ pos<bs.length→K (σ.put dst (.tup [.bool false]))):XOp P W0 nt σ dst (.next x true) K :=
 .val fun Γ w C a hf type posn after=>by
  have hv:=act_ev hf.tmps x; rw [hx] at hv
  have hobj:=hf.heap.obj s _ hs
  obtain ⟨hb,hC⟩:=hobj
  have hss:(⟨⟨bs⟩⟩:ByteArray).size=bs.length:=rfl
  by_cases hp:pos<bs.length
  ·have hst:Step (fun x=>x=b) w C { w with heap:=w.heap.setIfInBounds b (.stringIter ⟨⟨bs⟩⟩ (pos+(Utf8.decode ⟨⟨bs⟩⟩ pos).2)) } C:=Step.setBlock hb hC
   refine ⟨.tuple #[.bool true,.int .i64 pos,.int .i32 ((Utf8.decode ⟨⟨bs⟩⟩ pos).1:Nat)],_,C,_,_,?_,hf.setH hst (fun x hx=>by subst hx; exact hf.heap.foot s _ _ hs rfl)
    (fun s' o b' hne ho hu hb'=>by subst hb'; exact hf.heap.inj s s' _ o _ (Ne.symm hne) hs ho rfl hu) (s:=s) (o:=some (.obj b (.stringIter ⟨⟨bs⟩⟩ (pos+(Utf8.decode ⟨⟨bs⟩⟩ pos).2)))) (fun x hx=>?_),?_,h1 hp⟩
   ·simp only [execOp,hv.raw_inv,Sem.run_bind]
    have:(Instr.next (.pointer (some ⟨b,0,none⟩)) true type).run P w=.ok (.tuple #[.bool true,.int .i64 pos,.int .i32 ((Utf8.decode ⟨⟨bs⟩⟩ pos).1:Nat)]) { w with heap:=w.heap.setIfInBounds b (.stringIter ⟨⟨bs⟩⟩ (pos+(Utf8.decode ⟨⟨bs⟩⟩ pos).2)) }:=by
     simp [Instr.next,getObj,setObj,Sem.run_bind,Sem.run,hb,Result.andThen,hss,hp,goInt]
    rw [this]; rfl
   ·cases hx
    refine ⟨⟨by simp [lt_of_heap hb],hC⟩,fun x hx=>?_⟩
    cases hx
    exact ⟨hf.heap.foot s _ _ hs rfl,.inl rfl⟩
   exact .tup _ _ rfl fun i d v hd hv=>by
    match i with
    | 0=>cases hd; cases hv; exact .bool _
    | 1=>cases hd; cases hv; exact .int _ _
    | 2=>cases hd; cases hv; exact .int _ _
    | i+3=>simp at hd
  refine ⟨.tuple #[.bool false],w,C,σ,_,?_,hf,?_,h2 hp⟩
  ·simp only [execOp,hv.raw_inv,Sem.run_bind]
   have:(Instr.next (.pointer (some ⟨b,0,none⟩)) true type).run P w=.ok (.tuple #[.bool false]) w:=by
    simp [Instr.next,getObj,Sem.run_bind,Sem.run,hb,Result.andThen,hss,hp]
   rw [this]; rfl
  exact .tup _ _ rfl fun i d v hd hv=>by
   match i with
   | 0=>cases hd; cases hv; exact .bool _
   | i+1=>simp at hd
variable {P:Program} {W0:World} {nt:Nat} {Γ:Ctx P W0 nt} {σ:DSt} {K:DExit→DSt→Prop}
def dummy:HObj:=.own (.slice none 0 0) 0 0 0
theorem dummy_uses (b:Nat):¬ dummy.uses b:=by rintro ⟨o,cap,h,h2⟩; simp only [Value.slice.injEq] at h; omega
theorem Tri.dummy (s:Nat) {c:Code} (h:Tri Γ c (σ.setH s (some Go.Tame.dummy)) K):Tri Γ c σ K :=
 ⟨fun a w C hf=>h.run a w C (hf.setH (Ft:=fun _=>False) (.refl _ _ _) (fun _ hf=>hf.elim) (fun _ _ _ _ _ _ hf=>hf) (fun x hx=>by
  cases hx
  exact ⟨⟨none,0,rfl,Nat.le_refl _,Nat.zero_le _,fun h=>absurd h (by simp)⟩,fun b hb=>absurd hb (dummy_uses b)⟩))⟩
theorem Tri.ownNil (s k e:Nat) {c:Code} (h:Tri Γ c (σ.setH s (some (.own (.slice none 0 0) 0 k e))) K):Tri Γ c σ K :=
 ⟨fun a w C hf=>h.run a w C (hf.setH (Ft:=fun _=>False) (.refl _ _ _) (fun _ hf=>hf.elim) (fun _ _ _ _ _ _ hf=>hf) (fun x hx=>by
  cases hx
  exact ⟨⟨none,0,rfl,Nat.le_refl _,Nat.zero_le _,fun h=>absurd h (by simp)⟩,fun b hb=>by obtain ⟨o,cap,h,h2⟩:=hb; simp only [Value.slice.injEq] at h; omega⟩))⟩
theorem DLe.nilOwn {s k:Nat}:DLe .nils (.sl (.own s (.slice none 0 0)) k []):=⟨fun w C u h=>by rw [h.nils_inv]; exact .sl0 _ _ none rfl⟩
theorem DLe.fn {f:Fn} {a a' b b':List D} (h:LeL a a') (h':LeL b b'):DLe (.fn f a b) (.fn f a' b') :=
 ⟨fun w C v hr=>by
  obtain ⟨vf,vc,rfl,h1,h2⟩:=hr.fn_inv
  have h3:=h.repL h1
  have h4:=h'.repL h2
  exact .fn f a' b' vf vc h3.1 h4.1 h3.2 h4.2⟩
theorem DLe.agg {a a':List D} (h:LeL a a'):DLe (.agg a) (.agg a') :=
 ⟨fun w C v hr=>by
  obtain ⟨vs,rfl,h1⟩:=hr.agg_inv
  have h3:=h.repL h1
  exact .agg a' vs h3.1 h3.2⟩
theorem DLe.tup {a a':List D} (h:LeL a a'):DLe (.tup a) (.tup a') :=
 ⟨fun w C v hr=>by
  obtain ⟨vs,rfl,h1⟩:=hr.tup_inv
  have h3:=h.repL h1
  exact .tup a' vs h3.1 h3.2⟩
theorem DLe.trans {a b c:D} (h:DLe a b) (h':DLe b c):DLe a c:=⟨fun _ _ _ hr=>h'.le _ _ _ (h.le _ _ _ hr)⟩
theorem DLe.full {k:Nat} {xs:List D} {t:Tag}:DLe (.sl t k xs) (.sl .none k xs):=DLe.untag _
theorem intDLe {k:IntKind} {a b:Int} (h:a=b):DLe (.int k a) (.int k b):=DLe.of_eq (by rw [h])
theorem XOp.nilEq {dst:Option Tmp} {K:DSt→Prop} {ti:List TEnt} (hT:TOk P ti) {t el:Nat} {x:Operand} {rt:TypeId} {tg:Tag} {k:Nat} {xs:List D} {te:TEnt} (hx:σ.ev x=.sl tg k xs) (ht:tget ti t=some te) (hks:te.kind=.slice el)
  (hK:∀ b:Bool,(b=true→xs=[])→K (σ.put dst (.bool b))):XOp P W0 nt σ dst (.binOp .eql t x (.const (.slice none 0 0)) rt) K :=
 .val fun Γ w C a hf type pos after=>by
  obtain ⟨heo,rfl⟩:=hT.get ht
  have hu:=heo.u_slice hks
  have hv:=act_ev hf.tmps x; rw [hx] at hv
  have key:∃ ad l c,a.eval x=.slice ad l c∧(ad.isNone=true→xs=[]):=by
   rcases hv.sl_inv with ⟨h1,⟨a0,h2⟩,_⟩|⟨b,o,cap,g,h2,_⟩
   ·exact ⟨a0,0,0,h2,fun _=>h1⟩
   exact ⟨_,_,_,h2,fun h=>by cases h⟩
  obtain ⟨ad,l,c,h2,h3⟩:=key;refine ⟨.bool ad.isNone,w,C,σ,_,?_,hf,.bool _,hK _ h3⟩
  have h4:=run_eqGuard_plain (P:=P) .eql te.t x (.const (.slice none 0 0)) (.slice ad l c) (.slice none 0 0) w (by simp) (by simp)
  have h5:=run_equal_slice_nil (P:=P) w te.t el ad l c hu
  have h6:(binOp .eql te.t (.slice ad l c) (.slice none 0 0)).run P w=.ok (.bool ad.isNone) w:=by
   simp only [binOp]
   simp [h5]
  have h7:a.eval (.const (.slice none 0 0))=.slice none 0 0:=rfl
  simp only [execOp,h2,h7,Sem.run_bind,h4,h6,Result.andThen_ok,Sem.run_pure]
variable {P:Program} {W0:World} {nt:Nat}
theorem row_append {Γ:Ctx P W0 nt} {w:World} {C:Nat→Nat} {σ:DSt} {a:Act} (h:FR Γ w C σ a) {e ee:TEnt} (he:e.Ok P) (hee:ee.Ok P) (hks:e.kind=.slice ee.t) (hz:ee.zero≠none)
  {tg':Tag} {xs ys:List D} {vs vx:Value} (hrx:Rep w C (.sl tg' ee.sz ys) vx) (hbytes:(xs.length+ys.length)*ee.bytes≤140737488355328)
  (h63:xs.length+ys.length≤9223372036854775807) (h0:0<ys.length) {q dst:Nat} {ty:TypeId} (hH:σ.H q=some (.row vs xs ee.sz ee.t)) :
  ∃ v w' C',(Builtin.append_ #[e.t,e.t] ty #[vs,vx]).run P w=.ok v w'∧FR Γ w' C' ((σ.setH q none).setH dst (some (.row v (xs++ys) ee.sz ee.t))) a:=by
 have hu:=he.u_slice hks
 obtain ⟨i,hi,hsz,hby,hzz⟩:=hee.info;obtain ⟨z,hz⟩:=Option.ne_none_iff_exists'.1 hz;obtain ⟨zv,hzv,hzl,hzr⟩:=hzz z hz
 have hzsz:zv.cells.size=ee.sz:=by have:=(hzr w C).1; rw [hzl] at this; simpa using this.symm
 have hf:=h.drop q
 have hlen:(xs++ys).length=xs.length+ys.length:=by simp
 obtain ⟨aa,cap,hvs,hcap,hcapm,hkx,_,hw⟩:=h.heap.obj q _ hH
 have hy:∃ ad cy,vx=.slice (some ad) ys.length cy:=by
  rcases hrx.sl_inv with ⟨rfl,_,_⟩|⟨b,o,cap,g,hv,_⟩
  ·simp at h0
  exact ⟨_,_,hv⟩
 obtain ⟨ad,cy,hvx⟩:=hy;subst hvx;obtain ⟨news,hnl,hnc,hnr,hn1,hky⟩:=rowVals hrx
 have hnl':news.length=ys.length*i.size:=by rw [hnl,hsz]
 have hkxy:∀ x∈xs++ys,x.cells.length=ee.sz:=fun x hx=>by rcases List.mem_append.1 hx with hx|hx<;>first|exact hkx x hx|exact hky x hx
 have hfl:=flat_length hkx
 have fresh:∀ (olds:List Value) (old:Nat),olds.length=xs.length*ee.sz→(∀ (j:Nat) d,(flat xs)[j]? = some d→∃ u,olds[j]? = some u∧Rep w C d u∧u.oneCell'=true) →
   ∀ v,v=.slice (some ⟨w.heap.size,0,none⟩) (xs.length+ys.length) (grownCap w (xs.length+ys.length) old ee.t) →
   ∀ w',w'=w.drew.alloc (.cells (olds.toArray++news.toArray++Builtin.zeroCells zv.cells (grownCap w (xs.length+ys.length) old ee.t-(xs.length+ys.length))) ee.t) →
   ∃ C',FR Γ w' C' ((σ.setH q none).setH dst (some (.row v (xs++ys) ee.sz ee.t))) a:=by
  intro olds old hol hor v hv w' hw'
  have hge:=grownCap_ge w (xs.length+ys.length) old ee.t
  have hcm:=grownCap_le_maxLen w (xs.length+ys.length) old ee.t (by simp only [maxLen]; omega)
  generalize grownCap w (xs.length+ys.length) old ee.t=nc at hv hw' hge hcm
  have hsize:(olds.toArray++news.toArray++Builtin.zeroCells zv.cells (nc-(xs.length+ys.length))).size=nc*ee.sz:=by
   simp only [Array.size_append,List.size_toArray,size_zeroCells,hzsz,hol,hnl,← Nat.add_mul]
   congr 1; omega
  have hs1:=Step.drew (fun _=>False) w C
  have hs2:=Step.alloc (fun _=>False) w.drew C (.cells (olds.toArray++news.toArray++Builtin.zeroCells zv.cells (nc-(xs.length+ys.length))) ee.t) 0
  have hs:=hs1.trans hs2 (fun _ _ hf=>hf)
  rw [← hw'] at hs hs2;refine ⟨_,hf.setH hs (fun _ hf=>hf.elim) (fun _ _ _ _ _ _ hf=>hf) fun x hx=>?_⟩
  cases hx
  refine ⟨⟨some ⟨w.heap.size,0,none⟩,nc,by rw [hv,hlen],by rw [hlen]; exact hge,hcm,hkxy,fun ad had=>⟨_,by cases had; rfl,?_⟩,fun _=>⟨w.heap.size,_,rfl,?_,hsize,?_,fun j d hd=>?_⟩⟩,fun b hb=>?_⟩
  ·rw [hw']; exact lt_of_heap (heap_alloc_new' w.drew _)
  ·rw [hw']; exact heap_alloc_new' w.drew _
  ·exact upd_same _ _ _
  ·rw [flat_append,get_append] at hd
   split at hd
   ·obtain ⟨u,hu,hr,ho⟩:=hor j d hd;refine ⟨u,?_,hr.ext hs.ext,ho⟩
    have:=lt_of_get hu
    rw [← Array.getElem?_toList];simp only [Array.toList_append];rw [List.append_assoc,get_append,if_pos (by simpa using this)]
    simpa using hu
   rename_i hj
   obtain ⟨u,hu,hr,ho⟩:=hnr _ d hd;refine ⟨u,?_,hr.ext hs.ext,ho⟩;rw [← Array.getElem?_toList];simp only [Array.toList_append]
   rw [List.append_assoc,get_append,if_neg (by simp; omega),get_append,if_pos (by have:=lt_of_get hu; simp; omega)]
   simpa [hol,hfl] using hu
  obtain ⟨n',cap',hv',_⟩:=hb;rw [hv] at hv';simp only [Value.slice.injEq,Option.some.injEq,Addr.mk.injEq] at hv';obtain ⟨⟨rfl,_⟩,_⟩:=hv';exact ⟨h.foot_new,.inr (Nat.le_refl _)⟩
 subst hvs
 by_cases hc0:0<cap
 ·obtain ⟨b,cur,rfl,hb,hcs,hCb,hor⟩:=hw hc0
  have huse:HObj.uses (.row (.slice (some ⟨b,0,none⟩) xs.length cap) xs ee.sz ee.t) b:=⟨_,cap,rfl,hc0⟩
  have hxsz:xs.length*ee.sz≤cur.size:=by rw [hcs]; exact Nat.mul_le_mul_right _ hcap
  by_cases hroom:xs.length+ys.length≤cap
  ·have hfit:xs.length*i.size+news.length≤cur.size:=by
    rw [hsz,hnl,hcs,← Nat.add_mul]; exact Nat.mul_le_mul_right _ hroom
   have hr:=run_append_room (P:=P) w e.t ty ee.t i hu hi b xs.length cap cur hb ad ys.length cy news hnl' hnc hn1 hroom hfit
   rw [hsz] at hr hfit
   have hst:=Step.setRow (C:=C) (n:=0) hb (cs:=(cur.toList.take (xs.length*ee.sz)++news++cur.toList.drop (xs.length*ee.sz+news.length)).toArray) (by omega) (fun o ho=>by omega)
   refine ⟨_,_,_,hr,hf.setH hst (fun x hx=>by subst hx; exact h.heap.foot q _ _ hH huse) (fun s' o b' hne hs' hu' hb'=>?_) fun x hx=>?_⟩
   ·subst hb'
    by_cases hq:s'=q
    ·subst hq; rw [setH_same] at hs'; cases hs'
    rw [setH_ne σ none hq] at hs';exact h.heap.inj s' q o _ b' hq hs' hH hu' huse
   cases hx
   refine ⟨⟨_,cap,by rw [hlen],by rw [hlen]; exact hroom,hcapm,hkxy,fun ad had=>⟨b,by cases had; rfl,Nat.lt_of_lt_of_le (lt_of_heap hb) hst.ext.size⟩,fun _=>⟨b,_,rfl,setRow_heap w b cur _ ee.t _ hb,?_,upd_same _ _ _,fun j d hd=>?_⟩⟩,fun x hx=>?_⟩
   ·simp only [List.size_toArray,List.length_append,List.length_take,List.length_drop,Array.length_toList]; omega
   ·rw [flat_append,get_append] at hd;rw [List.getElem?_toArray]
    split at hd
    ·obtain ⟨u,hu,hr,ho⟩:=hor j d hd;refine ⟨u,?_,hr.ext hst.ext,ho⟩
     rw [take_drop_get _ _ _ (by simp; omega),if_neg (by omega)]
     simpa using hu
    obtain ⟨u,hu,hr,ho⟩:=hnr _ d hd;refine ⟨u,?_,hr.ext hst.ext,ho⟩
    have:=lt_of_get hu
    rw [take_drop_get _ _ _ (by simp; omega),if_pos ⟨by omega,by omega,by simp; omega⟩,← hfl]
    exact hu
   obtain ⟨n',cap',hv',_⟩:=hx;simp only [Value.slice.injEq,Option.some.injEq,Addr.mk.injEq] at hv';obtain ⟨⟨rfl,_⟩,_⟩:=hv';exact ⟨h.heap.foot q _ _ hH huse,.inl rfl⟩
  have hoc:∀ (j:Nat) u,(cur.toList.take (xs.length*ee.sz))[j]? = some u→w.cell? ((⟨b,0,none⟩:Addr).add j)=some u:=fun j u hj=>by
   rw [List.getElem?_take] at hj
   split at hj
   ·rw [addr_add,Nat.zero_add]; simp only [World.cell?,hb]; simpa using hj
   cases hj
  have hr:=run_append_grow (P:=P) w e.t ty ee.t i zv hu hi hzv ⟨b,0,none⟩ xs.length cap (cur.toList.take (xs.length*ee.sz)) (by rw [hsz]; simp; omega) hoc ad ys.length cy news hnl' hnc (by omega) (by omega) (by rw [hby]; exact growslice_fits (by omega) hbytes)
  obtain ⟨C',h1⟩:=fresh (cur.toList.take (xs.length*ee.sz)) cap (by simp; omega) (fun j d hd=>by
   obtain ⟨u,hu,hr,ho⟩:=hor j d hd
   have hj:=lt_of_get hd
   exact ⟨u,by rw [List.getElem?_take,if_pos (by omega)]; simpa using hu,hr,ho⟩) _ rfl _ rfl
  exact ⟨_,_,C',hr,h1⟩
 have hx:xs=[]:=List.eq_nil_of_length_eq_zero (by omega)
 subst hx
 have hcap0:cap=0:=by omega
 subst hcap0
 cases aa with
 | none =>
  simp only [List.length_nil,Nat.zero_add] at hbytes h63 fresh
  have hr:=run_append_nil (P:=P) w e.t ty ee.t i zv hu hi hzv ad ys.length cy news hnl' hnc (by omega) (by omega) (by rw [hby]; omega)
  obtain ⟨C',h2⟩:=fresh [] 0 (by simp) (fun j d hd=>by simp [flat] at hd) _ rfl _ rfl;exact ⟨_,_,C',hr,by simpa using h2⟩
 | some ba =>
  have hr:=run_append_grow (P:=P) w e.t ty ee.t i zv hu hi hzv ba 0 0 [] (by simp) (fun j u hj=>by simp at hj) ad ys.length cy news hnl' hnc (by omega) (by omega) (by rw [hby]; exact growslice_fits (by omega) (by simpa using hbytes))
  obtain ⟨C',h2⟩:=fresh [] 0 (by simp) (fun j d hd=>by simp [flat] at hd) _ rfl _ rfl;exact ⟨_,_,C',hr,by simpa using h2⟩
variable {σ:DSt} {K:DSt→Prop} {ti:List TEnt}
theorem XOp.rowAppend (hT:TOk P ti) {t el s:Nat} {x y:Operand} (q:Nat) {v:Value} {xs ys:List D} {tg:Tag} {te ee:TEnt} (ht:tget ti t=some te) (hks:te.kind=.slice el) (hel:tget ti el=some ee) (hz:ee.zero≠none)
  (hx:σ.ev x=.raw v) (hH:σ.H q=some (.row v xs ee.sz el)) (hy:σ.ev y=.sl tg ee.sz ys) (h0:0<ys.length) (hbytes:(xs.length+ys.length)*ee.bytes≤140737488355328) (h63:xs.length+ys.length≤9223372036854775807)
  (hK:∀ (aa:Option Addr) (n cap:Nat),K (((σ.setH q none).setH s (some (.row (.slice aa n cap) (xs++ys) ee.sz el))).put (some s) (.raw (.slice aa n cap)))):XOp P W0 nt σ (some s) (.call ⟨.builtin .append,#[x,y],#[t,t]⟩) K :=
 .val fun Γ w C a hf type pos after=>by
  obtain ⟨heo,rfl⟩:=hT.get ht;obtain ⟨heeo,rfl⟩:=hT.get hel
  have hvx:=act_ev hf.tmps x; rw [hx] at hvx
  have hvy:=act_ev hf.tmps y; rw [hy] at hvy
  obtain ⟨v',w',C',hrun,hf'⟩:=row_append hf heo heeo hks hz hvy hbytes h63 h0 (dst:=s) (ty:=type) hH;rw [← hvx.raw_inv] at hrun;obtain ⟨aa,cap,rfl,_⟩:=hf'.heap.obj s _ (setH_same _ _ _);refine ⟨_,w',C',_,_,?_,hf',.raw _,hK aa _ cap⟩
  simp [execOp,resolve,invoke,builtin,hrun]
theorem Tri.rowNil {Γ:Ctx P W0 nt} {K:DExit→DSt→Prop} (s k e:Nat) {c:Code} (h:Tri Γ c (σ.setH s (some (.row (.slice none 0 0) [] k e))) K):Tri Γ c σ K :=
 ⟨fun a w C hf=>h.run a w C (hf.setH (Ft:=fun _=>False) (.refl _ _ _) (fun _ hf=>hf.elim) (fun _ _ _ _ _ _ hf=>hf) (fun x hx=>by
  cases hx
  exact ⟨⟨none,0,rfl,Nat.le_refl _,Nat.zero_le _,fun x hx=>(by cases hx),fun ad had=>(by cases had),fun h=>absurd h (by simp)⟩,fun b hb=>by obtain ⟨n,cap,h,h2⟩:=hb; simp only [Value.slice.injEq] at h; omega⟩))⟩
theorem DLe.nilRaw:DLe .nils (.raw (.slice none 0 0)):=⟨fun _ _ _ h=>by rw [h.nils_inv]; exact .raw _⟩
variable {P:Program} {W0:World} {nt:Nat} {ops:Array Oper}
def bitsOf (listed:Array Bool):Nat→Bool:=fun i=>listed.getD i false
def set1 (f:Nat→Bool) (i:Nat):Nat→Bool:=fun j=>cond (Nat.beq j i) true (f j)
def setL (g:Nat→Bool):List Edge→Nat→Bool
 | []=>g
 | e::r=>cond (Region.binds .any e) (set1 (setL g r) e.on) (setL g r)
def bitSteps (P:Program) (W0:World) (ti:List TEnt) (l:(Nat→Bool)→List (Nat×D)) (hs:(Nat→Bool)→List (Nat×HObj)):List Oper→Nat→Prop
 | [],_=>True
 | o::r,i=>(∀ g,vstep P W0 ti (St (l (setL g o.after.toList)) (hs (setL g o.after.toList))) o.dst o.op fun σ'=>SubT σ' (l (set1 (setL g o.after.toList) i))∧SubH σ' (hs (set1 (setL g o.after.toList) i)))∧bitSteps P W0 ti l hs r (i+1)
def plainB (nt:Nat):List Oper→Nat→Bool
 | [],_=>true
 | o::r,i=>o.guard.isNone&&okDst nt o.dst&&(o.after.toList.all fun e=>!Region.binds .any e||Nat.blt e.on i)&&plainB nt r (i+1)
theorem plainB_get {l:List Oper}:∀ {n:Nat},plainB nt l n=true→∀ {i:Nat} {o:Oper},l[i]? = some o→o.guard=none∧okDst nt o.dst=true∧∀ e∈o.after.toList,Region.binds .any e=true→e.on<n+i:=by
 induction l with
 | nil=>intro n _ i o h; simp at h
 | cons x r ih =>
  intro n h i o ho;simp only [plainB,Bool.and_eq_true] at h;obtain ⟨⟨⟨h1,h2⟩,h3⟩,h4⟩:=h
  cases i with
  | zero =>
   simp at ho; subst ho
   refine ⟨by simpa using h1,h2,fun e he hb=>?_⟩
   have:=List.all_eq_true.1 h3 e he
   rw [hb] at this
   have:=by simpa using this
   omega
  | succ i =>
   have:=ih h4 (i:=i) (o:=o) (by simpa using ho)
   refine ⟨this.1,this.2.1,fun e he hb=>?_⟩
   have:=this.2.2 e he hb
   omega
theorem bitSteps_get {ti:List TEnt} {l:(Nat→Bool)→List (Nat×D)} {hs:(Nat→Bool)→List (Nat×HObj)} {r:List Oper}:∀ {n:Nat},bitSteps P W0 ti l hs r n→∀ {i:Nat} {o:Oper},r[i]? = some o →
  ∀ f,vstep P W0 ti (St (l (setL f o.after.toList)) (hs (setL f o.after.toList))) o.dst o.op fun σ'=>SubT σ' (l (set1 (setL f o.after.toList) (n+i)))∧SubH σ' (hs (set1 (setL f o.after.toList) (n+i))):=by
 induction r with
 | nil=>intro n _ i o h; simp at h
 | cons x r ih =>
  intro n h i o ho f
  cases i with
  | zero=>simp at ho; subst ho; exact h.1 f
  | succ i =>
   have:=ih h.2 (i:=i) (o:=o) (by simpa using ho) f
   rw [show n+1+i=n+(i+1) by omega] at this;exact this
theorem set1_id {f:Nat→Bool} {i:Nat} (h:f i=true):set1 f i=f:=by
 funext j; simp only [set1]
 cases hb:Nat.beq j i with
 | true=>have:=beq_true hb; subst this; exact h.symm
 | false=>rfl
theorem setL_id {f:Nat→Bool}:∀ {l:List Edge},(∀ e∈l,Region.binds .any e=true→f e.on=true)→setL f l=f
 | [],_=>rfl
 | e::r,hp=>by
  simp only [setL];rw [setL_id (l:=r) fun e he=>hp e (List.mem_cons_of_mem _ he)]
  cases hb:Region.binds .any e with
  | true=>exact set1_id (hp e List.mem_cons_self hb)
  | false=>rfl
theorem bitsOf_set {listed:Array Bool} {i:Nat} (h:i<listed.size):bitsOf (listed.setIfInBounds i true)=set1 (bitsOf listed) i:=by
 funext j
 simp only [bitsOf,set1]
 cases hb:Nat.beq j i with
 | true =>
  have:=beq_true hb; subst this
  simp [h]
 | false =>
  have:i≠j:=fun e=>by subst e; simp at hb
  simp [Array.getElem?_setIfInBounds_ne this]
theorem ready_mem {md:Region.Mode} {listed:Array Bool} {i:Nat} (h:i∈Region.ready md ops listed) :
  ∃ o,ops[i]? = some o∧i<ops.size∧listed.getD i true=false∧∀ e∈o.after.toList,Region.binds md e=true→listed.getD e.on false=true:=by
 simp only [Region.ready,List.mem_filter,List.mem_range,Bool.and_eq_true,Bool.not_eq_true'] at h;obtain ⟨h1,h2,h3⟩:=h
 have ho:ops[i]? = some ops[i]:=Array.getElem?_eq_getElem h1
 refine ⟨ops[i],ho,h1,h2,fun e he hb=>?_⟩;rw [ho] at h3;simp only [Option.map_some,Option.getD_some] at h3
 have:=Array.all_eq_true'.1 h3 e (by simpa using he)
 simpa [hb] using this
theorem ready_first {listed:Array Bool} (hp:plainB nt ops.toList 0=true) (hsz:listed.size=ops.size) :
  ∀ (n i:Nat),n=i→i<ops.size→listed.getD i true=false→Region.ready .any ops listed≠[]:=by
 intro n
 induction n using Nat.strongRecOn with
 | _ n ih =>
  intro i hn hi hl;subst hn
  have ho:ops[n]? = some ops[n]:=Array.getElem?_eq_getElem hi
  have hpl:=plainB_get hp (i:=n) (o:=ops[n]) (by simpa using ho)
  by_cases hr:∀ e∈ops[n].after.toList,Region.binds Region.Mode.any e=true→listed.getD e.on false=true
  ·intro he
   have:n∈Region.ready Region.Mode.any ops listed:=by
    simp only [Region.ready,List.mem_filter,List.mem_range,Bool.and_eq_true,Bool.not_eq_true'];refine ⟨hi,hl,?_⟩;rw [ho];simp only [Option.map_some,Option.getD_some]
    refine Array.all_eq_true'.2 fun e he=>?_
    have:=hr e (by simpa using he)
    cases hb:Region.binds Region.Mode.any e with
    | true=>simpa using this hb
    | false=>simp
   rw [he] at this; cases this
  simp only [Classical.not_forall] at hr;obtain ⟨e,he,hb,hne⟩:=hr
  have hlt:=hpl.2.2 e he hb
  simp only [Nat.zero_add] at hlt;refine ih e.on hlt e.on rfl (by omega) ?_
  have hlt':e.on<listed.size:=by omega
  simp only [Array.getD,hlt',dif_pos] at hne ⊢
  simpa using hne
theorem wpAny_of_bits {ti:List TEnt} (hT:TOk P ti) {Γ:Ctx P W0 nt} {Q:DSt→Prop} {Q':Exit→Act→World→Prop} (hQ:∀ σ a w C,FR Γ w C σ a→Q σ→Q' .normal a w)
  (hp:plainB nt ops.toList 0=true)
  (l:(Nat→Bool)→List (Nat×D)) (hs:(Nat→Bool)→List (Nat×HObj)) (last:∀ f,(∀ i,i<ops.size→f i=true)→Q (St (l f) (hs f))) (step:bitSteps P W0 ti l hs ops.toList 0) :
  ∀ (n:Nat) (listed:Array Bool) (a:Act) (w:World) (C:Nat→Nat),listed.size=ops.size→listed.toList.count false=n→FR Γ w C (St (l (bitsOf listed)) (hs (bitsOf listed))) a→wpAny P .any ops Q' n listed a w
 | 0,listed,a,w,C,hsz,hc,hf=>by
  have hall:∀ i,i<ops.size→bitsOf listed i=true:=fun i hi=>by
   have hlt:i<listed.size:=by omega
   have:=List.count_eq_zero.1 hc
   cases hb:listed[i] with
   | true=>simp [bitsOf,hlt,hb]
   | false=>exact absurd (by rw [← hb]; simp [Array.getElem_mem]) this
  refine ⟨?_,hQ _ _ _ _ hf (last _ hall)⟩
  cases hr:Region.ready .any ops listed with
  | nil=>rfl
  | cons i r =>
   obtain ⟨o,ho,hi,h1,_⟩:=ready_mem (hr ▸ List.mem_cons_self:i∈Region.ready .any ops listed)
   have h2:=hall i hi
   have hlt:i<listed.size:=by omega
   simp only [bitsOf,Array.getD,hlt,dif_pos] at h1 h2
   rw [h1] at h2; cases h2
 | n+1,listed,a,w,C,hsz,hc,hf=>by
  have hpos:0<listed.toList.count false:=by omega
  have hmem:=List.count_pos_iff.1 hpos
  obtain ⟨i,hi,hb⟩:=List.getElem_of_mem hmem
  have hi':i<listed.size:=by simpa using hi
  have hne:Region.ready .any ops listed≠[]:=ready_first hp hsz i i rfl (by omega) (by simp only [Array.getD,hi',dif_pos]; simpa using hb)
  refine ⟨fun e=>absurd e hne,fun i hi=>?_⟩;obtain ⟨o,ho,hilt,hli,hpre⟩:=ready_mem hi;obtain ⟨hg,hd,_⟩:=plainB_get hp (i:=i) (o:=o) (by simpa using ho)
  have hq:=bitSteps_get step (i:=i) (o:=o) (by simpa using ho) (bitsOf listed)
  rw [setL_id (f:=bitsOf listed) fun e he hb=>hpre e he hb] at hq;rw [Nat.zero_add] at hq
  unfold wpOp
  simp only [ho];rw [if_pos (by simp [Region.wanted,hg])];refine .inl (Oper.wp_mono (fun a' w' hh=>?_) (vstep_sound hT hf hd hq Q'));obtain ⟨σ',C',⟨h1,h2⟩,h3⟩:=hh
  have hilt':i<listed.size:=by omega
  rw [← bitsOf_set hilt'] at h1 h2;refine wpAny_of_bits hT hQ hp l hs last step n _ a' w' C' (by simpa using hsz) ?_ (h3.weaken h1 h2)
  have hb:listed[i]=false:=by simpa [Array.getD,hilt'] using hli
  have e1:(listed.setIfInBounds i true).toList=listed.toList.set i true:=by simp
  rw [e1]
  have e2:(listed.toList.set i true).count false+1=listed.toList.count false:=by
   have:=List.count_set (l:=listed.toList) (i:=i) (a:=true) (b:=false) (by simpa using hilt')
   have h3:listed.toList[i]'(by simpa using hilt')=false:=by simpa using hb
   have h5:(if (listed.toList[i]'(by simpa using hilt'))==false then 1 else 0)=1:=by rw [h3]; rfl
   have h6:(if (true==false)=true then 1 else 0)=0:=rfl
   have h7:0<listed.toList.count false:=List.count_pos_iff.2 (by rw [← h3]; exact List.getElem_mem _)
   omega
  omega
theorem Tri.bits {ti:List TEnt} (hT:TOk P ti) {Γ:Ctx P W0 nt} {id:Nat} {σ:DSt} {K:DExit→DSt→Prop} (hm:P.follows .mixedOrders=true)
  (l:(Nat→Bool)→List (Nat×D)) (hs:(Nat→Bool)→List (Nat×HObj)) (hp:plainB nt ops.toList 0=true)
  (h1:SubT σ (l fun _=>false)) (h2:SubH σ (hs fun _=>false)) (step:bitSteps P W0 ti l hs ops.toList 0)
  (last:∀ f,(∀ i,i<ops.size→f i=true)→K .normal (St (l f) (hs f))) :
  Tri Γ (.region id ops true) σ K :=
 ⟨fun a w C hf=>wp_region_any hm (by
  have e:bitsOf (Array.replicate ops.size false)=fun _=>false:=by
   funext i
   simp only [bitsOf,Array.getD]
   split<;>simp
  exact wpAny_of_bits hT (Γ:=Γ) (Q:=K .normal) (fun σ a w C hF hK=>⟨.normal,σ,C,rfl,hK,hF⟩) hp l hs last step _ _ _ _ C (by simp) (by simp [List.count_replicate]) (by rw [e]; exact hf.drew.weaken h1 h2))⟩
variable {P:Program} {W0:World} {nt:Nat} {Γ:Ctx P W0 nt} {σ:DSt} {K:DExit→DSt→Prop}
theorem FR.reBox {w:World} {C:Nat→Nat} {a:Act} (h:FR Γ w C σ a) (s:Nat) {b:Nat} {cs cs':List D} (hs:σ.H s=some (.box b cs))
  (hle:∀ us,RepL w C cs us→RepL w C cs' us):FR Γ w C (σ.setH s (some (.box b cs'))) a :=
 h.setH (Ft:=fun x=>x=b) (.refl _ _ _) (fun x hx=>by subst hx; exact h.heap.foot s _ x hs rfl)
  (fun s' o x hne ho hu hx=>by subst hx; exact h.heap.inj s s' _ o x (Ne.symm hne) hs ho rfl hu)
  (fun x hx=>by
   cases hx
   obtain ⟨vs,e,h1,h2,h3⟩:=h.heap.obj s _ hs
   exact ⟨⟨vs,e,h1,hle _ h2,h3⟩,fun x hx=>⟨by cases hx; exact h.heap.foot s _ _ hs rfl,.inl hx⟩⟩)
theorem Tri.boxLe (s:Nat) {b:Nat} {cs cs':List D} {c:Code} (hs:σ.H s=some (.box b cs)) (hle:LeL cs cs') (h:Tri Γ c (σ.setH s (some (.box b cs'))) K):Tri Γ c σ K :=
 ⟨fun a w C hf=>h.run a w C (hf.reBox s hs fun _ hr=>hle.repL hr)⟩
theorem Tri.boxOf (s j:Nat) {b q k:Nat} {v:Value} {xs cs cs':List D} {c:Code} (hs:σ.H s=some (.box b cs)) (hj:σ.t j=.sl (.own q v) k xs)
  (hle:∀ w C,Rep w C (.sl .none k xs) v→∀ us,RepL w C cs us→RepL w C cs' us) (h:Tri Γ c (σ.setH s (some (.box b cs'))) K):Tri Γ c σ K :=
 ⟨fun a w C hf=>h.run a w C (hf.reBox s hs fun us hr=>hle w C (by
  have h1:=hf.tmps j
  rw [hj] at h1;generalize a.tmps.getD j undef=u at h1
  have h2:u=v:=by
   cases h1 with
   | sl0 t k a ht=>exact ht
   | sl t k xs b o cap g ht=>exact ht
  rw [h2] at h1
  exact h1.untag) us hr)⟩
theorem RepL.cell {w:World} {C:Nat→Nat} {cs:List D} {us:List Value} {i:Nat} {d:D} (h:RepL w C cs us) (hd:∀ u,us[i]? = some u→Rep w C d u):RepL w C (setAt cs i d) us:=by
 have key:∀ (cs:List D) (i:Nat),(setAt cs i d).length=cs.length∧∀ j,(setAt cs i d)[j]? = if j=i∧i<cs.length then some d else cs[j]?:=by
  intro cs
  induction cs with
  | nil=>intro i; simp [setAt]
  | cons c r ih =>
   intro i
   cases i with
   | zero =>
    refine ⟨rfl,fun j=>?_⟩
    cases j with
    | zero=>simp [setAt]
    | succ j=>simp [setAt]
   | succ i =>
    refine ⟨by simp [setAt,(ih i).1],fun j=>?_⟩
    cases j with
    | zero=>simp [setAt]
    | succ j=>simp [setAt,(ih i).2 j]
 refine ⟨by rw [(key cs i).1,h.1],fun j d' v hj hv=>?_⟩;rw [(key cs i).2] at hj
 split at hj
 ·rename_i hji
  cases hj
  obtain ⟨rfl,_⟩:=hji;exact hd v hv
 exact h.2 j d' v hj hv
theorem RepL.raw_get {w:World} {C:Nat→Nat} {cs:List D} {us:List Value} {i:Nat} {v u:Value} (h:RepL w C cs us) (hc:cs[i]? = some (.raw v)) (hu:us[i]? = some u):u=v:=(h.2 i _ u hc hu).raw_inv
theorem Tri.commitOwn (s j:Nat) {v:Value} {xs:List D} {k e:Nat} {r:List (Nat×D)} {hs:List (Nat×HObj)} {c:Code} (hsn:look hs s=none)
  (h:Tri Γ c (St ((j,.sl (.own s v) k xs)::r) hs) K):Tri Γ c (St ((j,.raw v)::r) ((s,.row v xs k e)::hs)) K:=by
 have hnb:Nat.beq s s=true:=Nat.beq_refl s
 refine Tri.commit s (v:=v) (xs:=xs) (k:=k) (e:=e) (by simp only [St,look,hnb,cond_true]) (St ((j,.sl (.own s v) k xs)::r) hs) (fun w C hr i u hi=>?_) (fun i o ho=>?_) h
 ·simp only [St,look] at hi ⊢
  cases hb:Nat.beq i j with
  | true =>
   rw [hb] at hi;simp only [cond_true,Option.getD_some] at hi ⊢
   rw [hi.raw_inv]; exact hr
  | false=>rw [hb] at hi; simpa using hi
 refine .inr ⟨fun e=>?_,?_⟩
 ·subst e;simp only [St] at ho
  rw [hsn] at ho; cases ho
 simp only [St,look] at ho ⊢
 cases hb:Nat.beq i s with
 | true =>
  have:=beq_true hb
  subst this
  rw [hsn] at ho; cases ho
 | false=>simpa using ho
open Go.ChangeShapes Go.Deep
variable {H:Type} {enc:TypeId×Value→H} {P:Program} {W:World}
def allC (w:World):Nat→Nat:=fun b=>match w.heap[b]? with
 | some (.cells vs _ _)=>vs.size
 | _=>0
theorem cell_allC {w:World} {a:Addr} {v:Value} (h:w.cell? a=some v):a.spot=none∧a.block<w.heap.size∧a.off<allC w a.block:=by
 unfold World.cell? at h
 unfold allC
 split at h
 ·rename_i c _ _ hb
  rw [hb]
  split at h
  ·cases h
  rename_i hs
  refine ⟨by cases hs':a.spot<;>simp_all,lt_of_heap hb,?_⟩
  exact (Array.getElem?_eq_some_iff.1 h).1
 cases h
def Rd (enc:TypeId×Value→H) (P:Program) (W:World) (n:Nat) (t:TypeId) {α:Type} (e:α→D) (good:α→DataW H→Prop):Prop :=
 ∀ cs x,DataW.trod enc P W 0 (fun _=>true) true n t cs=some x→∃ a,RepL W (allC W) (e a).cells cs∧good a x.1
theorem Rd.int {n:Nat} {t:TypeId} {k:IntKind} (ht:P.underlying t=some (.int k)):Rd enc P W n t (fun i:Int=>.int k i) (fun i d=>d=.lit (.int k i)∧(Lit.int k i).wf=true):=by
 intro cs x h;obtain ⟨i,rfl,rfl,hw⟩:=DataW.trod_int ht h;exact ⟨i,.cons (.int _ _) (.nil _ _),rfl,hw⟩
theorem Rd.bool {n:Nat} {t:TypeId} (ht:P.underlying t=some .bool):Rd enc P W n t (fun i:Bool=>.bool i) (fun i d=>d=.lit (.bool i)):=by
 intro cs x h;obtain ⟨i,rfl,rfl⟩:=DataW.trod_bool ht h;exact ⟨i,.cons (.bool _) (.nil _ _),rfl⟩
theorem Rd.str {n:Nat} {t:TypeId} (ht:P.underlying t=some .string):Rd enc P W n t (fun s:List UInt8=>.str s) (fun s d=>d=.lit (.string s)∧s.length≤maxLen):=by
 intro cs x h;obtain ⟨s,rfl,rfl,hs⟩:=DataW.trod_string ht h;obtain ⟨⟨l⟩⟩:=s;exact ⟨l,.cons (.str l) (.nil _ _),rfl,hs⟩
theorem list_of {α:Type} {Q:Nat→α→Prop}:∀ n,(∀ i,i<n→∃ a,Q i a)→∃ l:List α,l.length=n∧∀ i a,l[i]? = some a→Q i a
 | 0,_=>⟨[],rfl,fun i a h=>by simp at h⟩
 | n+1,h=>by
  obtain ⟨l,hl,hq⟩:=list_of n (fun i hi=>h i (by omega));obtain ⟨a,ha⟩:=h n (by omega);refine ⟨l++[a],by simp [hl],fun i b hb=>?_⟩;rw [List.getElem?_append] at hb
  split at hb
  ·exact hq i b hb
  rename_i hi
  have:i-l.length=0:=by
   have:=(List.getElem?_eq_some_iff.1 hb).1
   simp at this; omega
  rw [this] at hb
  simp at hb
  subst hb
  have:i=n:=by omega
  subst this; exact ha
theorem flat_div {k:Nat} (h0:0<k):∀ {xs:List D} (_:∀ x∈xs,x.cells.length=k) {j:Nat} {d:D},(flat xs)[j]? = some d→∃ x,xs[j/k]? = some x∧x.cells[j%k]? = some d
 | [],_,j,d,h=>by simp [flat] at h
 | x::r,hk,j,d,h=>by
  have hx:=hk x List.mem_cons_self
  have e:flat (x::r)=x.cells++flat r:=by simp [flat]
  rw [e,List.getElem?_append,hx] at h
  split at h
  ·rename_i hj
   exact ⟨x,by rw [Nat.div_eq_of_lt hj]; rfl,by rw [Nat.mod_eq_of_lt hj]; exact h⟩
  rename_i hj
  obtain ⟨y,h1,h2⟩:=flat_div h0 (xs:=r) (fun y hy=>hk y (List.mem_cons_of_mem _ hy)) h
  have hj':j=(j-k)+k:=by omega
  refine ⟨y,?_,?_⟩
  ·rw [hj',Nat.add_div_right _ h0]; simpa using h1
  rw [hj',Nat.add_mod_right]; exact h2
def goodS {α:Type} (good:α→DataW H→Prop) (l:List α) (d:DataW H):Prop :=
 (l=[]∧d=.nil)∨∃ ds sp,d=.slice ds sp∧ds.length=l.length∧∀ (i:Nat) a y,l[i]? = some a→ds[i]? = some y→good a y
theorem Rd.slice {t e:TypeId} {k:Nat} {α:Type} {f:α→D} {good:α→DataW H→Prop} (ht:P.underlying t=some (.slice e)) (hC:P.cellsOf e=k) (hk:0<k)
  (hf:∀ a,(f a).cells.length=k∧(f a).cells.all D.one=true) {fuel:Nat} (ih:∀ n,n<fuel→Rd enc P W n e f good) :
  Rd enc P W fuel t (fun l:List α=>.sl .none k (l.map f)) (goodS good):=by
 intro cs x h
 rcases DataW.trod_slice ht h with ⟨rfl,rfl⟩|⟨a,len,cap,elems,rest,n,rfl,rfl,rfl,hb,hl,hm,hlen,hel,hsp,_⟩
 ·exact ⟨[],.cons (.sl0 .none k none trivial) (.nil _ _),Or.inl ⟨rfl,rfl⟩⟩
 rw [hC] at hel hsp
 obtain ⟨l,hll,hq⟩:=list_of (Q:=fun i b=>∃ cs' y,W.cells? 0 (a.add (i*k)) k=some cs'∧RepL W (allC W) (f b).cells cs'∧elems[i]? = some y∧good b y.1) len (fun i hi=>by
  have hy:elems[i]? = some elems[i]:=List.getElem?_eq_getElem (by omega)
  have h1:=hel i hi
  rw [hy,Option.bind_eq_some_iff] at h1;obtain ⟨cs',h2,h3⟩:=h1;obtain ⟨b,h4,h5⟩:=ih n (Nat.lt_succ_self _) cs' _ h3
  exact ⟨b,cs',_,h2,h4,hy,h5⟩)
 refine ⟨l,.cons ?_ (.nil _ _),Or.inr ⟨_,_,rfl,by simp [hlen,hll],fun i b y hb hy=>?_⟩⟩
 ·have hlen':(l.map f).length=len:=by simp [hll]
  have hks:∀ x∈l.map f,x.cells.length=k:=fun x hx=>by obtain ⟨b,_,rfl⟩:=List.mem_map.1 hx; exact (hf b).1
  by_cases hcap:cap=0
  ·have h0:len=0:=by omega
   have:l=[]:=List.eq_nil_of_length_eq_zero (by omega)
   subst this; subst hcap; subst h0
   exact .sl0 .none k (some a) trivial
  have hfirst:∃ v,W.cell? ((a.add (0*k)).add 0)=some v:=by
   have h1:∃ y cs',W.cells? 0 (a.add (0*k)) k=some cs'∧DataW.trod enc P W 0 (fun _=>true) true n e cs'=some y:=by
    by_cases h0:0<len
    ·have hy:elems[0]? = some elems[0]:=List.getElem?_eq_getElem (by omega)
     have h1:=hel 0 h0
     rw [hy,Option.bind_eq_some_iff] at h1;obtain ⟨cs',h2,h3⟩:=h1;exact ⟨_,cs',h2,h3⟩
    obtain ⟨h2,h3⟩:=hsp rfl
    have h4:=h3 0 (by omega)
    have hy:rest[0]? = some (rest[0]'(by omega)):=List.getElem?_eq_getElem (by omega)
    rw [hy,Option.bind_eq_some_iff] at h4;obtain ⟨cs',h5,h6⟩:=h4
    have:len+0=0:=by omega
    rw [this] at h5;exact ⟨_,cs',h5,h6⟩
   obtain ⟨y,cs',h2,_⟩:=h1;obtain ⟨_,h3,h4⟩:=World.cells?_some h2
   have:=h4 0 hk
   rw [this];exact ⟨_,List.getElem?_eq_getElem (by omega)⟩
  obtain ⟨v0,hv0⟩:=hfirst
  have e0:(a.add (0*k)).add 0=a:=by simp [Addr.add]
  rw [e0] at hv0;obtain ⟨hs0,hb0,ho0⟩:=cell_allC hv0;obtain ⟨b,o,sp⟩:=a;simp only at hs0 hb0 ho0;subst hs0
  have hcellat:∀ (j:Nat) d,(flat (l.map f))[j]? = some d→∃ v,W.cell? ⟨b,o+j,none⟩=some v∧v.oneCell'=true∧Rep W (allC W) d v:=fun j d hd=>by
   obtain ⟨x,hx,hc⟩:=flat_div hk hks hd;rw [List.getElem?_map,Option.map_eq_some_iff] at hx;obtain ⟨a1,ha1,rfl⟩:=hx;obtain ⟨cs',y,h2,h3,_,_⟩:=hq _ _ ha1;obtain ⟨_,h4,h5⟩:=World.cells?_some h2
   have hjk:j%k<k:=Nat.mod_lt _ hk
   have hv:cs'[j%k]? = some (cs'[j%k]'(by omega)):=List.getElem?_eq_getElem (by omega)
   have h6:=h5 (j%k) hjk
   rw [hv] at h6
   have hr:=h3.2 _ _ _ hc hv
   have ho:D.one d=true:=List.all_eq_true.1 (hf a1).2 d (List.mem_of_getElem? hc)
   refine ⟨_,?_,(hr.one_cells ho).2,hr⟩
   have e:(Addr.add (Addr.add ⟨b,o,none⟩ (j/k*k)) (j%k))=⟨b,o+j,none⟩:=by
    rw [addr_add,addr_add]
    have:=Nat.div_add_mod j k
    rw [Nat.mul_comm] at this;rw [Nat.add_assoc,this]
   rw [e] at h6; exact h6
  have hrep:=Rep.sl (w:=W) (C:=allC W) .none k (l.map f) b o cap (fun j=>(W.cell? ⟨b,o+j,none⟩).getD undef) trivial hb0 (by rw [hlen']; exact hl) hm hks (by
    by_cases h0:0<len*k
    ·have hfl:=flat_length hks
     rw [hlen'] at hfl;obtain ⟨d,hd⟩:=getElem?_of_lt (l:=flat (l.map f)) (i:=len*k-1) (by omega);obtain ⟨v,hv,_⟩:=hcellat _ d hd
     have:=(cell_allC hv).2.2
     simp only at this
     rw [hlen']; omega
    rw [hlen']; omega)
   (fun j d hd=>by obtain ⟨v,hv,_⟩:=hcellat j d hd; rw [hv]; rfl)
   (fun j d hd=>by obtain ⟨v,hv,h1,_⟩:=hcellat j d hd; rw [hv]; exact h1)
   (fun j d hd=>by obtain ⟨v,hv,_,h1⟩:=hcellat j d hd; rw [hv]; exact h1)
  rw [hlen'] at hrep;exact hrep
 obtain ⟨_,y',_,_,h1,h2⟩:=hq _ _ hb;rw [List.getElem?_map,h1] at hy
 cases hy; exact h2
theorem trod_fields {t:TypeId} {fs:Array Field} {fuel:Nat} {cs:List Value} {x:DataW H×List MemPlace} (ht:P.underlying t=some (.struct fs)) (hone:oneCellFields P fs=true) (hC:P.cellsOf t=fs.size)
  (h:DataW.trod enc P W 0 (fun _=>true) true fuel t cs=some x) :
  ∃ (xs:List (DataW H×List MemPlace)) (n:Nat),fuel=n+1∧x.1=.agg (xs.map (·.1))∧cs.length=fs.size∧xs.length=fs.size ∧
   ∀ (i:Nat) (f:Field) v y,fs[i]? = some f→cs[i]? = some v→xs[i]? = some y→DataW.trod enc P W 0 (fun _=>true) true n f.type [v]=some y:=by
 obtain ⟨xs,n,rfl,rfl,hl,hx,hf⟩:=DataW.trod_struct ht h;refine ⟨xs,n,rfl,rfl,by rw [hl,hC],hx,fun i f v y h1 h2 h3=>?_⟩;obtain ⟨ho,hk⟩:=hone_of hone i f h1
 have h4:=hf i f h1
 rw [ho,hk,h3] at h4;obtain ⟨hi,rfl⟩:=List.getElem?_eq_some_iff.1 h2
 have:(cs.drop i).take 1=[cs[i]]:=by rw [List.drop_eq_getElem_cons hi]; rfl
 rw [this] at h4;exact h4
theorem stays {t:TypeId} (hl:laidOutB P=true) (hr:P.readableRec t=true) (hrow:t<P.types.size) {W':World} {v:Value} {d:DataW H} {ps:List MemPlace}
  (h:DataW.Trod enc P W 0 (fun _=>true) true t v d ps) (hb:Below W.heap.size W W') (hlt:∀ x∈ps,x.block<W.heap.size) (sp:Nat→Bool) (hsp:∀ p∈ps,sp p.block=true) :
  DataW.Trod enc P W' 0 sp true t v d ps :=
 WideElems.Trod_stays hl hr hrow h (fun x hx=>hb.same (hlt x hx)) (fun x hx=>hsp x hx)
end Go.Tame
namespace Go.Tame.V
open Go Go.Proofs
def ti:List TEnt:=[
 ⟨3,false,1,8,.int .i64,[],some [.int .i64 0],[]⟩,
 ⟨9,false,1,16,.str,[],some [.str []],[]⟩,
 ⟨4,false,1,1,.bool,[],some [.bool false],[]⟩,
 ⟨44,true,12,152,.struct,[(0,1,false),(1,1,false),(2,1,false),(3,1,false),(4,1,false),(5,1,false),(6,1,false),(7,1,false),(8,1,false),(9,1,false),(10,1,false),(11,1,false)],some [.str [],.int .i64 0,.str [],.str [],.int .i64 0,.int .i64 0,.int .i64 0,.int .i64 0,.int .i64 0,.int .i64 0,.nils,.nils],[]⟩,
 ⟨24,false,1,24,.slice 3,[],some [.nils],[]⟩,
 ⟨59,false,1,24,.slice 9,[],some [.nils],[]⟩,
 ⟨41,false,1,24,.slice 44,[],some [.nils],[]⟩,
 ⟨54,false,1,8,.int .i64,[],some [.int .i64 0],[]⟩,
 ⟨5,false,1,1,.int .u8,[],some [.int .u8 0],[]⟩,
 ⟨23,true,2,16,.struct,[(0,1,false),(1,1,false)],some [.int .i64 0,.int .i64 0],[.int .i64,.int .i64]⟩,
 ⟨38,false,1,24,.slice 23,[],some [.nils],[]⟩,
 ⟨53,true,3,32,.struct,[(0,1,false),(1,1,false),(2,1,false)],some [.str [],.int .i64 0,.int .i64 0],[.str,.int .i64,.int .i64]⟩,
 ⟨27,false,1,24,.slice 53,[],some [.nils],[]⟩,
 ⟨34,true,13,160,.struct,[(0,8,true),(8,1,false),(9,1,false),(10,1,false),(11,1,false),(12,1,false)],some [.str [],.str [],.str [],.str [],.str [],.int .i64 0,.int .i64 0,.int .i64 0,.int .i64 0,.int .i64 0,.nils,.int .i64 0,.bool false],[]⟩,
 ⟨114,true,21,256,.struct,[(0,13,true),(13,1,false),(14,1,false),(15,1,false),(16,1,false),(17,1,false),(18,1,false),(19,1,false),(20,1,false)],some [.str [],.str [],.str [],.str [],.str [],.int .i64 0,.int .i64 0,.int .i64 0,.int .i64 0,.int .i64 0,.nils,.int .i64 0,.bool false,.nils,.nils,.raw (.map none),.int .i64 0,.int .i64 0,.int .i64 0,.int .i64 0,.int .i64 0],[]⟩,
 ⟨121,true,2,32,.struct,[(0,1,false),(1,1,false)],some [.str [],.str []],[.str,.str]⟩,
 ⟨112,false,1,24,.slice 121,[],some [.nils],[]⟩,
 ⟨29,true,16,160,.struct,[(0,2,true),(2,2,true),(4,11,true),(15,1,false)],some [.int .i64 0,.int .i64 0,.int .i64 0,.int .i64 0,.int .i64 0,.bool false,.int .i64 0,.int .i64 0,.int .i64 0,.int .i64 0,.int .i64 0,.nils,.int .i64 0,.int .i64 0,.int .i64 0,.nils],[]⟩,
 ⟨26,true,11,104,.struct,[(0,1,false),(1,1,false),(2,2,true),(4,1,false),(5,2,true),(7,1,false),(8,1,false),(9,2,true)],some [.int .i64 0,.bool false,.int .i64 0,.int .i64 0,.int .i64 0,.int .i64 0,.int .i64 0,.nils,.int .i64 0,.int .i64 0,.int .i64 0],[]⟩,
 ⟨42,false,1,24,.slice 147,[],some [.nils],[]⟩,
 ⟨32,false,1,24,.slice 140,[],some [.nils],[]⟩,
 ⟨140,true,6,56,.struct,[(0,1,false),(1,1,false),(2,1,false),(3,1,false),(4,1,false),(5,1,false)],some [.str [],.int .i64 0,.int .i64 0,.int .i64 0,.int .i64 0,.bool false],[.str,.int .i64,.int .i64,.int .i64,.int .i64,.bool]⟩,
 ⟨83,true,4,40,.struct,[(0,1,false),(1,1,false),(2,1,false),(3,1,false)],some [.bool false,.bool false,.int .i64 0,.nils],[]⟩,
 ⟨86,false,1,24,.slice 4,[],some [.nils],[]⟩,
 ⟨76,false,1,8,.other,[],some [.raw (.map none)],[]⟩,
 ⟨66,false,1,8,.other,[],some [.raw (.map none)],[]⟩,
 ⟨104,false,1,8,.other,[],some [.raw (.pointer none)],[]⟩,
 ⟨147,true,2,32,.struct,[(0,1,false),(1,1,false)],some [.str [],.str []],[.str,.str]⟩,
 ⟨99,false,1,8,.other,[],some [.raw (.pointer none)],[]⟩,
 ⟨135,false,1,8,.other,[],some [.raw (.pointer none)],[]⟩,
 ⟨1,false,1,8,.other,[],some [.raw .nilFunc],[]⟩,
 ⟨2,false,1,8,.int .i64,[],some [.int .i64 0],[]⟩,
 ⟨6,false,1,1,.int .u8,[],some [.int .u8 0],[]⟩,
 ⟨7,true,4,24,.struct,[(0,1,false),(1,1,false),(2,1,false),(3,1,false)],some [.int .i64 0,.int .i64 0,.bool false,.int .u8 0],[.int .i64,.int .i64,.bool,.int .u8]⟩,
 ⟨8,true,4,24,.struct,[(0,1,false),(1,1,false),(2,1,false),(3,1,false)],some [.int .i64 0,.int .i64 0,.bool false,.int .u8 0],[.int .i64,.int .i64,.bool,.int .u8]⟩,
 ⟨10,false,1,16,.str,[],some [.str []],[]⟩,
 ⟨11,false,1,16,.str,[],some [.str []],[]⟩,
 ⟨21,false,1,4,.int .i32,[],some [.int .i32 0],[]⟩,
 ⟨31,true,8,104,.struct,[(0,1,false),(1,1,false),(2,1,false),(3,1,false),(4,1,false),(5,1,false),(6,1,false),(7,1,false)],some [.str [],.str [],.str [],.str [],.str [],.int .i64 0,.int .i64 0,.int .i64 0],[.str,.str,.str,.str,.str,.int .i64,.int .i64,.int .i64]⟩,
 ⟨49,false,1,8,.int .u64,[],some [.int .u64 0],[]⟩,
 ⟨67,false,1,8,.other,[],some [.raw (.map none)],[]⟩,
 ⟨68,false,1,24,.slice 59,[],some [.nils],[]⟩,
 ⟨94,true,3,24,.struct,[(0,1,false),(1,1,false),(2,1,false)],some [.int .i64 0,.int .i64 0,.int .i64 0],[.int .i64,.int .i64,.int .i64]⟩,
 ⟨118,false,1,8,.other,[],some [.raw (.map none)],[]⟩,
 ⟨131,false,1,8,.other,[],some [.raw (.pointer none)],[]⟩,
 ⟨133,true,4,32,.struct,[(0,1,false),(1,1,false),(2,1,false),(3,1,false)],some [.raw (.pointer none),.raw (.pointer none),.int .i64 0,.int .i64 0],[]⟩,
 ⟨161,false,1,8,.other,[],some [.raw (.pointer none)],[]⟩,
 ⟨162,false,1,24,.slice 5,[],some [.nils],[]⟩,
 ⟨164,true,2,32,.struct,[(0,1,false),(1,1,false)],some [.raw (.pointer none),.nils],[]⟩,
 ⟨173,false,1,8,.other,[],some [.raw (.map none)],[]⟩,
 ⟨175,true,26,312,.struct,[(0,4,true),(4,8,true),(12,12,true),(24,1,false),(25,1,false)],some [.bool false,.bool false,.int .i64 0,.nils,.str [],.str [],.str [],.str [],.str [],.int .i64 0,.int .i64 0,.int .i64 0,.str [],.int .i64 0,.str [],.str [],.int .i64 0,.int .i64 0,.int .i64 0,.int .i64 0,.int .i64 0,.int .i64 0,.nils,.nils,.raw (.map none),.raw (.map none)],[]⟩,
 ⟨193,true,13,160,.struct,[(0,12,true),(12,1,false)],some [.str [],.int .i64 0,.str [],.str [],.int .i64 0,.int .i64 0,.int .i64 0,.int .i64 0,.int .i64 0,.int .i64 0,.nils,.nils,.int .i64 0],[]⟩,
 ⟨194,false,1,8,.other,[],some [.raw .nilFunc],[]⟩,
 ⟨195,false,1,24,.slice 194,[],some [.nils],[]⟩,
 ⟨216,true,6,48,.struct,[(0,1,false),(1,1,false),(2,1,false),(3,1,false),(4,1,false),(5,1,false)],some [.int .i64 0,.int .i64 0,.int .i64 0,.int .i64 0,.int .i64 0,.int .i64 0],[.int .i64,.int .i64,.int .i64,.int .i64,.int .i64,.int .i64]⟩,
 ⟨219,false,1,1,.int .i8,[],some [.int .i8 0],[]⟩,
 ⟨220,false,1,24,.slice 228,[],some [.nils],[]⟩,
 ⟨221,false,1,24,.slice 251,[],some [.nils],[]⟩,
 ⟨224,false,1,24,.slice 249,[],some [.nils],[]⟩,
 ⟨226,true,5,56,.struct,[(0,1,false),(1,1,false),(2,1,false),(3,1,false),(4,1,false)],some [.bool false,.nils,.int .i64 0,.int .i64 0,.int .i64 0],[]⟩,
 ⟨228,true,6,64,.struct,[(0,1,false),(1,1,false),(2,1,false),(3,1,false),(4,1,false),(5,1,false)],some [.str [],.str [],.int .i64 0,.int .i64 0,.int .i64 0,.bool false],[.str,.str,.int .i64,.int .i64,.int .i64,.bool]⟩,
 ⟨230,true,8,80,.struct,[(0,1,false),(1,1,false),(2,1,false),(3,1,false),(4,1,false),(5,1,false),(6,1,false),(7,1,false)],some [.str [],.int .i64 0,.int .i64 0,.int .i64 0,.int .i64 0,.int .i64 0,.int .i64 0,.str []],[.str,.int .i64,.int .i64,.int .i64,.int .i64,.int .i64,.int .i64,.str]⟩,
 ⟨231,false,1,8,.other,[],some [.raw .nilFunc],[]⟩,
 ⟨232,false,1,24,.slice 269,[],some [.nils],[]⟩,
 ⟨234,true,12,144,.struct,[(0,8,true),(8,1,false),(9,1,false),(10,1,false),(11,1,false)],some [.str [],.int .i64 0,.int .i64 0,.int .i64 0,.int .i64 0,.int .i64 0,.int .i64 0,.str [],.int .i64 0,.raw .nilFunc,.nils,.nils],[]⟩,
 ⟨236,false,1,24,.slice 238,[],some [.nils],[]⟩,
 ⟨238,true,3,40,.struct,[(0,1,false),(1,1,false),(2,1,false)],some [.str [],.int .i64 0,.str []],[.str,.int .i64,.str]⟩,
 ⟨247,false,1,24,.slice 234,[],some [.nils],[]⟩,
 ⟨249,true,5,64,.struct,[(0,1,false),(1,1,false),(2,1,false),(3,1,false),(4,1,false)],some [.str [],.int .i64 0,.nils,.int .i64 0,.int .i64 0],[]⟩,
 ⟨251,true,7,56,.struct,[(0,1,false),(1,1,false),(2,1,false),(3,1,false),(4,1,false),(5,1,false),(6,1,false)],some [.str [],.str [],.int .i64 0,.int .i64 0,.bool false,.bool false,.bool false],[.str,.str,.int .i64,.int .i64,.bool,.bool,.bool]⟩,
 ⟨256,false,1,24,.slice 320,[],some [.nils],[]⟩,
 ⟨259,false,1,24,.slice 236,[],some [.nils],[]⟩,
 ⟨269,true,2,16,.struct,[(0,1,false),(1,1,false)],some [.int .i64 0,.int .i64 0],[.int .i64,.int .i64]⟩,
 ⟨290,false,1,24,.slice 296,[],some [.nils],[]⟩,
 ⟨291,false,1,24,.slice 358,[],some [.nils],[]⟩,
 ⟨293,true,3,56,.struct,[(0,1,false),(1,1,false),(2,1,false)],some [.nils,.nils,.int .i64 0],[]⟩,
 ⟨296,true,16,208,.struct,[(0,12,true),(12,1,false),(13,1,false),(14,1,false),(15,1,false)],some [.str [],.int .i64 0,.str [],.str [],.int .i64 0,.int .i64 0,.int .i64 0,.int .i64 0,.int .i64 0,.int .i64 0,.nils,.nils,.str [],.int .i64 0,.nils,.int .i64 0],[]⟩,
 ⟨298,false,1,8,.other,[],some [.raw (.map none)],[]⟩,
 ⟨299,false,1,8,.other,[],some [.raw (.map none)],[]⟩,
 ⟨303,false,1,24,.slice 310,[],some [.nils],[]⟩,
 ⟨305,true,7,88,.struct,[(0,6,true),(6,1,false)],some [.str [],.str [],.int .i64 0,.int .i64 0,.int .i64 0,.bool false,.nils],[]⟩,
 ⟨306,false,1,24,.slice 305,[],some [.nils],[]⟩,
 ⟨307,false,1,8,.other,[],some [.raw .nilFunc],[]⟩,
 ⟨310,true,8,64,.struct,[(0,7,true),(7,1,false)],some [.str [],.str [],.int .i64 0,.int .i64 0,.bool false,.bool false,.bool false,.int .i64 0],[]⟩,
 ⟨320,true,3,32,.struct,[(0,1,false),(1,1,false),(2,1,false)],some [.str [],.int .i64 0,.int .i64 0],[.str,.int .i64,.int .i64]⟩,
 ⟨332,false,1,24,.slice 21,[],some [.nils],[]⟩,
 ⟨334,true,2,48,.struct,[(0,1,false),(1,1,false)],some [.nils,.nils],[]⟩,
 ⟨349,true,14,184,.struct,[(0,12,true),(12,1,false),(13,1,false)],some [.str [],.int .i64 0,.str [],.str [],.int .i64 0,.int .i64 0,.int .i64 0,.int .i64 0,.int .i64 0,.int .i64 0,.nils,.nils,.str [],.str []],[]⟩,
 ⟨354,true,2,16,.struct,[(0,1,false),(1,1,false)],some [.int .i64 0,.int .i64 0],[.int .i64,.int .i64]⟩,
 ⟨356,true,9,48,.struct,[(0,1,false),(1,1,false),(2,1,false),(3,1,false),(4,1,false),(5,1,false),(6,2,true),(8,1,false)],some [.str [],.bool false,.bool false,.bool false,.bool false,.bool false,.int .i64 0,.int .i64 0,.int .i64 0],[]⟩,
 ⟨358,true,5,40,.struct,[(0,1,false),(1,1,false),(2,1,false),(3,1,false),(4,1,false)],some [.int .i64 0,.int .i64 0,.int .i64 0,.int .i64 0,.int .i64 0],[.int .i64,.int .i64,.int .i64,.int .i64,.int .i64]⟩,
 ⟨359,true,12,96,.array 12 3,[],some [.int .i64 0,.int .i64 0,.int .i64 0,.int .i64 0,.int .i64 0,.int .i64 0,.int .i64 0,.int .i64 0,.int .i64 0,.int .i64 0,.int .i64 0,.int .i64 0],[]⟩,
 ⟨367,false,1,8,.other,[],some [.raw (.map none)],[]⟩,
 ⟨390,false,1,8,.other,[],some [.raw .nilFunc],[]⟩,
 ⟨426,false,1,24,.slice 390,[],some [.nils],[]⟩,
 ⟨446,false,1,4,.int .i32,[],some [.int .i32 0],[]⟩]
set_option maxRecDepth 100000 in
theorem ti_ok:TOk Tryz.prog ti:=TOk.of (by kernel_rfl)
theorem mixed:Tryz.prog.follows .mixedOrders=true:=by kernel_rfl
abbrev ti2:=ti
theorem ti2_ok:TOk Tryz.prog ti2:=ti_ok
abbrev ti3:=ti
theorem ti3_ok:TOk Tryz.prog ti3:=ti_ok
section
variable {W0:World} {nt:Nat} {Γ:Ctx Tryz.prog W0 nt} {id:Nat} {ops:Array Oper} {a b c:Code} {σ:DSt} {K:DExit→DSt→Prop}
theorem Rg (h:vlist Tryz.prog W0 ti nt ops ops.toList σ (K .normal)):Tri Γ (.region id ops false) σ K:=Tri.region ti_ok h
theorem Sr (h:vlist Tryz.prog W0 ti nt ops ops.toList σ (seqK Γ c K .normal)):Tri Γ (.seq (.region id ops false) c) σ K:=Tri.seq (Tri.region ti_ok h)
theorem Sq (h:Tri Γ a σ (seqK Γ b K)):Tri Γ (.seq a b) σ K:=Tri.seq h
theorem S2 (h:Tri Γ a σ (seqK Γ b (seqK Γ c K))):Tri Γ (.seq (.seq a b) c) σ K:=Tri.seq (Tri.seq h)
theorem Sk (h:K .normal σ):Tri Γ .skip σ K:=Tri.skip h
theorem Rt (h:K .ret σ):Tri Γ .ret σ K:=Tri.ret h
theorem Bk (h:Tri Γ a σ (blockK id K)):Tri Γ (.block id a) σ K:=Tri.block h
theorem Cd {o:Operand} (t:Bool) (hc:σ.ev o=.bool t) (h1:t=true→Tri Γ a σ K) (h2:t=false→Tri Γ b σ K):Tri Γ (.cond o a b) σ K:=Tri.cond t hc h1 h2
abbrev Iv (n:Int):D:=.int .i64 n
theorem Rl {α:Sort _} {x:α} {q:Prop} (h:q):x=x∧q:=⟨rfl, h⟩
theorem Hh {p q:Prop} (h:q):(p→p)∧q:=⟨id, h⟩
theorem Ti {q r:Prop} (h:q):True∧(q∨r):=⟨trivial, .inl h⟩
theorem Tk {q r:Prop} (h:r):True∧(q∨r):=⟨trivial, .inr h⟩
theorem Tj {α:Sort _} {x:α} {q r:Prop} (h:q):x=x∧True∧(q∨r):=⟨rfl, trivial, .inl h⟩
theorem Tl {α:Sort _} {x:α} {q r:Prop} (h:r):x=x∧True∧(q∨r):=⟨rfl, trivial, .inr h⟩
theorem Il {q r:Prop} (h:q):q∨r:=.inl h
theorem Ir {p q r:Prop} (h:q) (k:p:=by intro _; first|(simp only [InR]; omega)|(simp [InR]; omega)|simp [InR]):(p∧q)∨r:=.inl ⟨k, h⟩
theorem Pk {p q:Prop} (h:q) (k:p:=by intro h0 h; first|exact h|(rw [h]; rfl)|(rw [h0, h]; rfl)):p∧q:=⟨k, h⟩
theorem Lo {α:Sort _} {G:Prop} {A B:α→Prop} (y:α) (h:B y) (k:G→A y:=by intro _; rfl):∃ y, (G→A y)∧B y:=⟨y, k, h⟩
theorem Ex {α:Sort _} {A B:α→Prop} (y:α) (k:B y:=by exact fun _ _ h=>h) (h:A y:=by (repeat refine ⟨.refl _, ?_⟩); trivial):∃ y, A y∧B y:=⟨y, h, k⟩
theorem Qo {α:Type} {I:α→(Nat→Bool)→Prop} {S:α→(Nat→Bool)→Prop} {Q:Prop} (h:Q) (k:∀ y f, I y f→S y f:=by intro y f _; (conv=>whnf); refine Ti ?_; (conv=>whnf); exact Ex y):(∀ y f, I y f→S y f)∧Q:=⟨k, h⟩
theorem Z {p:Prop} (h:p:=by (repeat refine ⟨.refl _, ?_⟩); trivial):p:=h
theorem Y {p:Prop} (h:p:=by (repeat refine ⟨rfl, ?_⟩); trivial):p:=h
theorem Sp {p q:Prop} (h:q) (k:p:=by intro _; first|(simp; omega)|simp):p∧q:=⟨k, h⟩
theorem Fi {f : FuncId} {fn : Func} {body : Code} {ds : List D} {d : D} (hf : Tryz.prog.funcs[f]? = some fn) (hb : fn.body = some body) (hnt : fn.ntmps = nt) (h : ∀ Γ : Ctx Tryz.prog W0 nt, Tri Γ body (entry ds Heap.none) (bodyK ti fn.results.toList d)) (hn : (fn.name == "runtime.NumGoroutine") = false := by decide +kernel) (hl : Nat.ble ds.length nt = true := by rfl) : DFun Tryz.prog W0 f ds d := DFun.intro ti_ok hf hb hn hnt hl h
end
structure SV where
 name:List UInt8
 target:List UInt8
 deriving DecidableEq,Inhabited
structure NV where
 name:List UInt8
 kind:Int
 text:List UInt8
 target:List UInt8
 n1:Int
 n2:Int
 n3:Int
 n4:Int
 n5:Int
 n6:Int
 kids:List NV
 streams:List SV
 deriving Inhabited
def encS (s:SV):D:=.agg [.str s.name,.str s.target]
mutual
def enc:NV→D
 | .mk a b c d e f g h i j ks ss=>.agg [.str a,.int .i64 b,.str c,.str d,.int .i64 e,.int .i64 f,.int .i64 g,.int .i64 h,.int .i64 i,.int .i64 j,.sl .none 12 (encL ks),.sl .none 2 (ss.map encS)]
def encL:List NV→List D
 | []=>[]
 | n::r=>enc n::encL r
end
theorem encL_eq:∀ l:List NV,encL l=l.map enc
 | []=>rfl
 | n::r=>by simp only [encL,List.map_cons]; rw [encL_eq r]
def encTop (n:NV):D:=.agg [.str n.name,Iv n.kind,.str n.text,.str n.target,Iv n.n1,Iv n.n2,Iv n.n3,Iv n.n4,Iv n.n5,Iv n.n6,.sl .none 12 (n.kids.map enc),.sl .none 2 (n.streams.map encS)]
theorem enc_eq (n:NV):enc n=encTop n:=by
 cases n with
 | mk a b c d e f g h i j ks ss=>simp only [enc,encTop,encL_eq]
variable {W0:World}
structure DV where
 kind:Int
 path:List UInt8
 deriving DecidableEq,Inhabited
section lists
variable {α:Type} {a b:List α} {i:Nat}
theorem get_map {β:Type} (f:α→β) (h:i<a.length):(a.map f)[i]? = some (f a[i]):=by simp [h]
end lists
theorem prefix_take {p x:List UInt8} (h:p.length≤x.length):(x.take p.length==p)=p.isPrefixOf x:=by
 rw [Bool.eq_iff_iff,beq_iff_eq,List.isPrefixOf_iff_prefix,List.prefix_iff_eq_take]; exact eq_comm
theorem not_prefix {p x:List UInt8} (h:x.length<p.length):p.isPrefixOf x=false:=by
 rw [Bool.eq_false_iff,ne_eq,List.isPrefixOf_iff_prefix]; intro h'; have:=h'.length_le; omega
theorem pre_eq (x p:List UInt8):(bif decide ((p.length:Int)≤x.length) then (x.take (p.length:Int).toNat).drop (Int.toNat 0)==p else false)=p.isPrefixOf x:=by
 by_cases h:p.length≤x.length
 ·have h':(p.length:Int)≤x.length:=by omega
  simp only [h',decide_true,cond_true,Int.toNat_natCast];rw [show Int.toNat 0=0 from rfl,List.drop_zero,prefix_take h]
 have h':¬ (p.length:Int)≤x.length:=by omega
 simp only [h',decide_false,cond_false];rw [not_prefix (by omega)]
theorem F70 (x p:List UInt8):DFun Tryz.prog W0 153 [.str x,.str p] (.bool (p.isPrefixOf x)):=by
 refine Fi Tryz.func153 rfl Tryz.ntmps153 fun Γ=>?_
 apply Sr;apply Sr;apply Hh;apply Hh;apply Hh;(conv=>whnf)
 refine ⟨fun h=>by simp at h ⊢; omega,?_⟩
 apply Hh;apply Hh;refine Pk ?_;apply Rt;(conv=>whnf);exact DLe.of_eq (congrArg D.bool (pre_eq x p))
theorem F52 (x p:List UInt8):DFun Tryz.prog W0 103 [.str x,.str p] (.bool (p.isPrefixOf x)):=by
 refine Fi Tryz.func103 rfl Tryz.ntmps103 fun Γ=>?_
 apply Sr;apply Sr;(conv=>whnf);refine ⟨_,_,fun _=>F70 x p,Z,?_⟩;apply Rt;(conv=>whnf);exact .refl _
def firstIdx {α:Type} (p:α→Bool) (l:List α):Int:=match l.findIdx? p with|some i=>i|none=>-1
theorem firstIdx_some {α:Type} {p:α→Bool} {l:List α} {i:Nat} (hi:i<l.length) (hp:∀ j (h:j<l.length),j<i→p l[j]=false) (h:p l[i]=true):firstIdx p l=i:=by
 have:l.findIdx? p=some i:=List.findIdx?_eq_some_iff_getElem.2 ⟨hi,h,fun j hj=>by simp [hp j (by omega) hj]⟩
 rw [firstIdx,this]
theorem firstIdx_none {α:Type} {p:α→Bool} {l:List α} (hp:∀ j (h:j<l.length),p l[j]=false):firstIdx p l=-1:=by
 have:l.findIdx? p=none:=List.findIdx?_eq_none_iff.2 fun x hx=>by
  obtain ⟨j,hj,rfl⟩:=List.mem_iff_getElem.1 hx; exact hp j hj
 rw [firstIdx,this]
theorem firstIdx_any {α:Type} (p:α→Bool) (l:List α):decide (0≤firstIdx p l)=l.any p:=by
 unfold firstIdx
 split
 ·rename_i i h
  obtain ⟨hi,h1,_⟩:=List.findIdx?_eq_some_iff_getElem.1 h
  have:l.any p=true:=List.any_eq_true.2 ⟨l[i],List.getElem_mem hi,h1⟩
  rw [this]; simp
 rename_i h
 have:l.any p=false:=by
  rw [Bool.eq_false_iff]; intro h2
  obtain ⟨x,hx,hx'⟩:=List.any_eq_true.1 h2
  have:=List.findIdx?_eq_none_iff.1 h x hx
  simp_all
 rw [this]; simp
theorem ownH {v:Value} {n n' k e:Nat} (h:n=n'):some (HObj.own v n k e)=some (HObj.own v n' k e):=by rw [h]
theorem DLe.ownEq {s s':Nat} {v:Value} {k:Nat} {xs ys:List D} (h:xs=ys):DLe (.sl (.own s v) k xs) (.sl (.own s' v) k ys):=h ▸ DLe.own s s'
section acc
variable {α β:Type} {l:List α} {i:Nat}
end acc
def szS:List SV→Nat
 | []=>0
 | s::r=>2+s.name.length+s.target.length+szS r
mutual
def sz:NV→Nat
 | .mk _ _ c d _ _ _ _ _ _ ks ss=>2+c.length+d.length+szS ss+szL ks
def szL:List NV→Nat
 | []=>0
 | n::r=>2*n.name.length+2+sz n+szL r
end
theorem sz_eq (n:NV):sz n=2+n.text.length+n.target.length+szS n.streams+szL n.kids:=by
 cases n; simp only [sz]
theorem szL_get:∀ {l:List NV} {i:Nat} (h:i<l.length),2*(l[i]).name.length+2+sz l[i]≤szL l
 | n::r,0,_=>by simp only [List.getElem_cons_zero,szL]; omega
 | n::r,i+1,h=>by
  have:=szL_get (l:=r) (i:=i) (by simpa using h)
  simp only [List.getElem_cons_succ,szL]; omega
theorem szL_len:∀ (l:List NV),2*l.length≤szL l
 | []=>by simp [szL]
 | n::r=>by have:=szL_len r; simp only [szL,List.length_cons]; omega
theorem szS_get:∀ {l:List SV} {i:Nat} (h:i<l.length),2+(l[i]).name.length+(l[i]).target.length≤szS l
 | n::r,0,_=>by simp only [List.getElem_cons_zero,szS]; omega
 | n::r,i+1,h=>by
  have:=szS_get (l:=r) (i:=i) (by simpa using h)
  simp only [List.getElem_cons_succ,szS]; omega
theorem szS_len:∀ (l:List SV),2*l.length≤szS l
 | []=>by simp [szS]
 | n::r=>by have:=szS_len r; simp only [szS,List.length_cons]; omega
theorem kid_sz {n:NV} {i:Nat} (h:i<n.kids.length):2*(n.kids[i]).name.length+2+sz n.kids[i]+2+n.text.length+n.target.length+szS n.streams≤sz n:=by
 have:=szL_get h; have:=sz_eq n; omega
theorem kids_len (n:NV):2*n.kids.length+2≤sz n:=by
 have:=szL_len n.kids; have:=sz_eq n; omega
theorem get_kid {n:NV} {i:Nat} (h:i<n.kids.length):(n.kids.map enc)[i]? = some (encTop n.kids[i]):=by
 rw [get_map _ h,enc_eq]
theorem get_kids {l:List NV} {i:Nat} (h:i<l.length):(l.map enc)[i]? = some (encTop l[i]):=by
 rw [get_map _ h,enc_eq]
def below (p n:List UInt8) (l:Int):List UInt8:=if l≤2 then n else p++[47]++n
theorem F99 (p n:List UInt8) (l:Int) (h:p.length+n.length<1000000000):DFun Tryz.prog W0 192 [.str p,.str n,Iv l] (.str (below p n l)):=by
 refine Fi Tryz.func192 rfl Tryz.ntmps192 fun Γ=>?_
 apply Sr;apply Sq;apply Sr;refine Cd _ rfl (fun hc=>?_) (fun hc=>?_)
 ·apply Sr;apply Rt;(conv=>whnf);exact DLe.of_eq (congrArg D.str (by rw [below,if_pos (by simpa using hc)]))
 apply Sk;apply Sr;(conv=>whnf);refine Sp ?_;(conv=>whnf);refine Sp ?_;apply Rt;(conv=>whnf);exact DLe.of_eq (congrArg D.str (by rw [below,if_neg (by simpa using hc)]))
theorem below_len (p n:List UInt8) (l:Int):(below p n l).length≤p.length+1+n.length:=by
 unfold below; split<;>simp<;>omega
structure WS (S:Type) where
 o1:S→HObj
 o2:S→HObj
def WS.H {S:Type} (A:WS S) (s:S):Heap:=look [(2000,A.o1 s),(2001,A.o2 s)]
theorem pair_false {S:Type} {x:Bool×S} (h:(!x.1)=true):x=(false,x.2):=by obtain ⟨a,b⟩:=x; cases a<;>simp_all
theorem pair_true {S:Type} {x:Bool×S} (h:(!x.1)=false):x=(true,x.2):=by obtain ⟨a,b⟩:=x; cases a<;>simp_all
section walk
variable {S:Type} (f:NV→List UInt8→Int→S→Bool×S)
mutual
def walk:NV→List UInt8→Int→S→Bool×S
 | .mk a b c d e f1 g h i j ks ss,p,l,s =>
  match f (.mk a b c d e f1 g h i j ks ss) p l s with
  | (false,s')=>(false,s')
  | (true,s')=>walkL ks p l s'
def walkL:List NV→List UInt8→Int→S→Bool×S
 | [],_,_,s=>(true,s)
 | k::r,p,l,s =>
  match walk k (below p k.name (l+1)) (l+1) s with
  | (false,s')=>(false,s')
  | (true,s')=>walkL r p l s'
end
theorem walk_eq (n:NV) (p:List UInt8) (l:Int) (s:S):walk f n p l s=match f n p l s with
  | (false,s')=>(false,s')
  | (true,s')=>walkL f n.kids p l s':=by cases n; simp only [walk]
end walk
theorem F76 {S:Type} (A:WS S) (f:NV→List UInt8→Int→S→Bool×S) (fid:Nat) (caps:List D) (hcall:∀ n p l s,p.length+sz n+l.toNat+n.name.length<100000000→1≤l→DCall Tryz.prog W0 fid ([encTop n,.str p,Iv l]++caps) (A.H s) fun d H'=>d=.bool (f n p l s).1∧H'=A.H (f n p l s).2):∀ (N:Nat) (n:NV) (p:List UInt8) (l:Int) (s:S),sz n<N→p.length+sz n+l.toNat+n.name.length<100000000→1≤l→DCall Tryz.prog W0 125 [encTop n,.str p,Iv l,.fn (.func fid) [] caps] (A.H s) fun d H'=>d=.bool (walk f n p l s).1∧H'=A.H (walk f n p l s).2:=by
 refine fun N=>Nat.rec (fun n p l s h=>absurd h (Nat.not_lt_zero _)) (fun N ih n p l s hN hb hl=>?_) N
 refine DCall.intro ti_ok Tryz.func125 rfl (by decide +kernel) Tryz.ntmps125 rfl fun Γ=>?_
 apply Sr;(conv=>whnf);intro b;apply S2;refine Tri.regionE ti_ok ?_;apply Rl;(conv=>whnf);refine .inr ?_;(conv=>whnf);refine ⟨_,[(2000,2000),(2001,2001)],_,hcall n p l s hb hl,rfl,⟨.refl _,.refl _,.refl _,?_⟩,?_⟩
 ·exact LeL.refl _
 rintro d H' ⟨rfl,rfl⟩;refine ⟨_,.refl _,?_⟩;refine Cd _ rfl (fun hc=>?_) (fun hc=>?_)
 ·apply Sq
  have hw:walk f n p l s=(false,(f n p l s).2):=by
   rw [walk_eq]; cases hf:f n p l s; rw [hf] at hc; simp_all
  apply Rg;(conv=>whnf);refine Tri.retK [(8,.bool false)] [(2000,A.o1 (f n p l s).2),(2001,A.o2 (f n p l s).2)] [(2000,2000),(2001,2001)] ⟨Z,rfl,Y⟩ ?_;(conv=>whnf)
  exact ⟨_,.refl _,by rw [hw]; rfl,by rw [hw]; rfl⟩
 apply Sk
 have hw:walk f n p l s=walkL f n.kids p l (f n p l s).2:=by
  rw [walk_eq]; cases hf:f n p l s; rw [hf] at hc; simp_all
 apply Sq;apply Sr;apply Rl;apply Bk
 refine Tri.loopK (α:={ x:Nat×S // x.1≤n.kids.length∧walk f n p l s=walkL f (n.kids.drop x.1) p l x.2 })
  (fun x=>[(1,.str p),(2,Iv l),(3,.fn (.func fid) [] caps),(18,.sl .none 12 (n.kids.map enc)),(19,Iv (n.kids.map enc).length),(20,Iv x.1.1)])
  (fun x=>[(2000,A.o1 x.1.2),(2001,A.o2 x.1.2)]) (fun x=>n.kids.length-x.1.1) ⟨(0,(f n p l s).2),by omega,hw⟩ [(2000,2000),(2001,2001)]
  ⟨Z,rfl,Y⟩ ?_
 generalize hs0:s=s0 at *;rintro ⟨⟨i,s⟩,hi,hwi⟩;dsimp only at hi hwi ⊢;apply Sr;apply Sq;refine Cd _ rfl (fun hc=>?_) (fun hc=>?_)
 ·apply Sk;(conv=>whnf)
  have hik:i<n.kids.length:=by simpa using hc
  have hks:=kid_sz hik
  have hbl:=below_len p n.kids[i].name (l+1)
  have hkl:=kids_len n
  have hdr:=List.drop_eq_getElem_cons hik
  apply Sq;apply Bk;apply Sr;(conv=>whnf);refine Sp ?_;(conv=>whnf);refine ⟨encTop n.kids[i],fun _=>get_kid hik,?_⟩;(conv=>whnf);intro b;apply Rl;apply Sq;refine Tri.drawTailE ti_ok 10 mixed (by kernel_rfl) ?_;apply Rl;apply Rl;refine Ir ?_;(conv=>whnf);refine ⟨[.str p,.str n.kids[i].name,Iv (l+1)],_,fun _=>F99 p n.kids[i].name (l+1) (by omega),Z,?_⟩;refine Ir ?_;(conv=>whnf);refine .inr ?_;(conv=>whnf);refine ⟨_,[(2000,2000),(2001,2001)],_,ih n.kids[i] (below p n.kids[i].name (l+1)) (l+1) s (by omega) (by omega) (by omega),rfl,Z,?_⟩;rintro d H' ⟨rfl,rfl⟩;refine ⟨_,.refl _,?_⟩;refine Cd _ rfl (fun hc=>?_) (fun hc=>?_)
  ·apply Sq
   have hwk:walk f n.kids[i] (below p n.kids[i].name (l+1)) (l+1) s=(false,(walk f n.kids[i] (below p n.kids[i].name (l+1)) (l+1) s).2):=pair_false hc
   have hwf:walk f n p l s0=(false,(walk f n.kids[i] (below p n.kids[i].name (l+1)) (l+1) s).2):=by
    rw [hwi,hdr,walkL,hwk]
   apply Rg;(conv=>whnf);refine Tri.retK [(8,.bool false)] [(2000,A.o1 (walk f n.kids[i] (below p n.kids[i].name (l+1)) (l+1) s).2),(2001,A.o2 (walk f n.kids[i] (below p n.kids[i].name (l+1)) (l+1) s).2)] [(2000,2000),(2001,2001)] ⟨Z,rfl,Y⟩ ?_;(conv=>whnf)
   exact ⟨_,.refl _,by rw [hwf]; rfl,by rw [hwf]; rfl⟩
  apply Sk
  have hwf:walk f n p l s0=walkL f (n.kids.drop (i+1)) p l (walk f n.kids[i] (below p n.kids[i].name (l+1)) (l+1) s).2:=by
   rw [hwi,hdr,walkL,pair_true hc]
  apply Rg;refine Ir ?_;(conv=>whnf)
  exact ⟨⟨(i+1,(walk f n.kids[i] (below p n.kids[i].name (l+1)) (l+1) s).2),by omega,hwf⟩,[(2000,2000),(2001,2001)],by show n.kids.length-(i+1)<n.kids.length-i; omega,Z,rfl,Y⟩
 refine Tri.exit ?_
 have hwf:walk f n p l s0=(true,s):=by
  rw [hwi,List.drop_of_length_le (by simp at hc; omega),walkL]
 apply Sr;(conv=>whnf);refine Tri.retK [(8,.bool true)] [(2000,A.o1 s),(2001,A.o2 s)] [(2000,2000),(2001,2001)] ⟨Z,rfl,Y⟩ ?_;(conv=>whnf)
 exact ⟨_,.refl _,by rw [hwf]; rfl,by rw [hwf]; rfl⟩
def wr (n:Int):Int:=IntKind.i64.wrap n
theorem wr_id {n:Int} (h:-9223372036854775808≤n∧n≤9223372036854775807):wr n=n:=by unfold wr; rw [IntKind.wrap_i64]; omega
theorem wr_add (n m:Int):wr (wr n+m)=wr (n+m):=by unfold wr; simp only [IntKind.wrap_i64]; omega
mutual
def cnt:NV→Nat
 | .mk _ _ _ _ _ _ _ _ _ _ ks _=>1+cntL ks
def cntL:List NV→Nat
 | []=>0
 | n::r=>cnt n+cntL r
end
theorem cnt_eq (n:NV):cnt n=1+cntL n.kids:=by cases n; simp only [cnt]
mutual
theorem cnt_sz:∀ n:NV,cnt n≤sz n
 | .mk a b c d e f g h i j ks ss=>by have:=cntL_sz ks; simp only [cnt,sz]; omega
theorem cntL_sz:∀ l:List NV,cntL l≤szL l
 | []=>by simp [cntL,szL]
 | n::r=>by have:=cnt_sz n; have:=cntL_sz r; simp only [cntL,szL]; omega
end
def cntF (_:NV) (_:List UInt8) (_:Int) (s:Int):Bool×Int:=(true,wr (s+1))
mutual
theorem walk_cnt:∀ (n:NV) (p:List UInt8) (l:Int) (s:Int),walk cntF n p l s=(true,wr (s+cnt n))
 | .mk a b c d e f g h i j ks ss,p,l,s=>by
  simp only [walk,cntF,cnt];rw [walkL_cnt ks p l (s+1)]
  congr 2
  omega
theorem walkL_cnt:∀ (l:List NV) (p:List UInt8) (v:Int) (s:Int),walkL cntF l p v (wr s)=(true,wr (s+cntL l))
 | [],p,v,s=>by simp only [walkL,cntL]; congr 2; omega
 | n::r,p,v,s=>by
  simp only [walkL,cntL];rw [walk_cnt n _ _ (wr s),wr_add];simp only;rw [walkL_cnt r]
  congr 2
  omega
end
def cntA (b:Nat):WS Int:=⟨fun s=>.box b [Iv s],fun _=>dummy⟩
theorem F98 (bb:Nat) (n:NV) (p:List UInt8) (l:Int) (s:Int):DCall Tryz.prog W0 191 ([encTop n,.str p,Iv l]++[.box 2000 bb 0]) ((cntA bb).H s) fun d H'=>d=.bool (cntF n p l s).1∧H'=(cntA bb).H (cntF n p l s).2:=by
 refine DCall.intro ti_ok Tryz.func191 rfl (by decide +kernel) Tryz.ntmps191 rfl fun Γ=>?_
 apply Sr;(conv=>whnf);intro b;apply Sr;apply Rl;(conv=>whnf);refine .inr ?_;apply Rl;apply Sr;(conv=>whnf);refine Tri.retK [(7,.bool true)] [(2000,.box bb [Iv (wr (s+1))]),(2001,dummy)] [(2000,2000),(2001,2001)] ⟨Z,rfl,Y⟩ ?_;(conv=>whnf);exact ⟨_,.refl _,rfl,rfl⟩
theorem F75 (n:NV) (h:sz n+n.name.length<10000000):DFun Tryz.prog W0 124 [encTop n] (Iv (cnt n)):=by
 refine Fi Tryz.func124 rfl Tryz.ntmps124 fun Γ=>?_
 apply Sr;(conv=>whnf);intro b;apply Sr;(conv=>whnf);intro b_1;apply Rl;(conv=>whnf);refine Tri.dummy 2001 ?_;apply Sq;refine Tri.regionX ti_ok ?_;apply Il;apply Rl;(conv=>whnf)
 refine .inr (XOp.call rfl [encTop n,.str [],Iv 1,.fn (.func 191) [] [.box 2000 b_1 0]] [(2000,3),(2001,2001)]
  (F76 (cntA b_1) cntF 191 [.box 2000 b_1 0] (fun n p l s _ _=>F98 b_1 n p l s) _ n [] 1 0 (Nat.lt_succ_self _) (by simp; omega) (by omega)) rfl ⟨.refl _,.refl _,.refl _,DLe.fn trivial ⟨DLe.box,trivial⟩,trivial⟩ ?_)
 rintro d H' ⟨rfl,rfl⟩;refine ⟨_,.refl _,?_⟩;apply Sr;apply Rl;apply Rt;(conv=>whnf);refine intDLe ?_;rw [walk_cnt]
 have:=cnt_sz n
 exact (wr_id (by omega)).trans (by omega)
end Go.Tame.V
namespace Go.Tame
open Go Go.RowKit
variable {P:Program} {W0:World} {nt:Nat}
def vlistG (P:Program) (W0:World) (ti:List TEnt) (nt:Nat) (ops:Array Oper):List Oper→DSt→(DSt→Prop)→Prop
 | [],σ,K=>K σ
 | ⟨dst,op,_,_,_,guard⟩::rest,σ,K=>okDst nt dst=true∧(match guard with
  | none=>True
  | some (j,want)=>∃ g,(ops[j]?).bind (·.dst)=some g∧σ.t g=.bool want) ∧
  ((vstep P W0 ti σ dst op fun σ'=>vlistG P W0 ti nt ops rest σ' K)∨XOp P W0 nt σ dst op fun σ'=>vlistG P W0 ti nt ops rest σ' K)
theorem vlistG_seq {ti:List TEnt} (hT:TOk P ti) {Γ:Ctx P W0 nt} {ops:Array Oper} {Q:Exit→Act→World→Prop} {K:DSt→Prop} (hQ:∀ σ' a' w' C',K σ'→FR Γ w' C' σ' a'→Q .normal a' w') :
  ∀ {l:List Oper} {σ:DSt} (_:vlistG P W0 ti nt ops l σ K) {a:Act} {w:World} {C:Nat→Nat} (_:FR Γ w C σ a),wpList P ops Q l a w
 | [],_,hq,_,_,_,hf=>hQ _ _ _ _ hq hf
 | o::rest,σ,hq,a,w,C,hf=>by
  obtain ⟨hd,hg,hq⟩:=hq
  have next:∀ a' w',(∃ σ' C',vlistG P W0 ti nt ops rest σ' K∧FR Γ w' C' σ' a')→wpList P ops Q rest a' w':=fun a' w' ⟨σ',C',h1,h2⟩=>vlistG_seq hT hQ h1 h2
  have hw:Region.wanted o (yielded ops a.tmps)=true:=by
   cases hgo:o.guard with
   | none=>simp [Region.wanted,hgo]
   | some jw =>
    obtain ⟨j,want⟩:=jw;rw [hgo] at hg;obtain ⟨g,h1,h2⟩:=hg
    have tv:=hf.tmps g
    rw [h2] at tv
    have hy:=yielded_bool h1 tv.bool_inv
    simp [Region.wanted,hgo,hy]
  unfold wpList
  rw [if_pos hw]
  rcases hq with hq|hq
  ·exact .inl (Oper.wp_mono next (vstep_sound hT hf hd hq Q))
  obtain ⟨dst,op,type,pos,after,guard⟩:=o;exact .inl (Oper.wp_mono next (hq.run Γ w C a hf hd type pos after Q))
theorem Tri.regionG {ti:List TEnt} (hT:TOk P ti) {Γ:Ctx P W0 nt} {id:Nat} {ops:Array Oper} {σ:DSt} {K:DExit→DSt→Prop} (hq:vlistG P W0 ti nt ops ops.toList σ (K .normal)):Tri Γ (.region id ops false) σ K :=
 ⟨fun _ _ _ hf=>wp_region_list (vlistG_seq hT (fun σ' _ _ C' hK hF=>⟨.normal,σ',C',rfl,hK,hF⟩) hq hf)⟩
theorem RepL.three {w:World} {C:Nat→Nat} {k:IntKind} {a b c:Int} {vs:List Value} (h:RepL w C [.int k a,.int k b,.int k c] vs):vs=[.int k a,.int k b,.int k c]:=by
 obtain ⟨h1,h2⟩:=h
 match vs,h1 with
 | [x,y,z],_ =>
  have e0:=(h2 0 _ x rfl rfl).int_inv
  have e1:=(h2 1 _ y rfl rfl).int_inv
  have e2:=(h2 2 _ z rfl rfl).int_inv
  rw [e0,e1,e2]
variable {P:Program} {W0:World} {nt:Nat} {σ:DSt} {K:DExit→DSt→Prop}
theorem FR.commit {Γ:Ctx P W0 nt} {C:Nat→Nat} {a:Act} {w:World} (hf:FR Γ w C σ a) (s:Nat) {v:Value} {xs:List D} {k e:Nat} (hs:σ.H s=some (.row v xs k e)) (σ':DSt)
  (ht:∀ w C,Rep w C (.sl (.own s v) k xs) v→∀ j u,Rep w C (σ.t j) u→Rep w C (σ'.t j) u) (hh:∀ j o,σ'.H j=some o→(j=s∧o=.own v xs.length k e)∨(j≠s∧σ.H j=some o)) :
  ∃ C',Rep w C' (.sl (.own s v) k xs) v∧FR Γ w C' σ' a:=by
 obtain ⟨a',cap,hv,hc,hm,hk,hbl,hw⟩:=hf.heap.obj s _ hs
 by_cases h0:0<cap
 ·obtain ⟨b,vs,rfl,hb,hsz,hC,hr⟩:=hw h0
  have huse:HObj.uses (.row v xs k e) b:=⟨_,cap,hv,h0⟩
  have hext:Ext w C w (upd C b (xs.length*k)):=⟨Nat.le_refl _,fun x _=>upd_le C b _ (by omega) x,fun _ _ _ _=>rfl⟩
  have hst:Step (fun x=>x=b) w C w (upd C b (xs.length*k)):=⟨hext,rfl,rfl,rfl,fun x _ hx=>⟨rfl,upd_ne _ _ hx⟩⟩
  have hrow:Rep w (upd C b (xs.length*k)) (.sl (.own s v) k xs) v:=by
   have:=rep_row (w:=w) (C:=upd C b (xs.length*k)) (tg:=.own s v) (k:=k) (xs:=xs) (vs:=vs.toList) (b:=b) (e:=e) (fz:=(0,0)) (cap:=cap) hb hk hc hm (by rw [upd_same]; exact Nat.le_refl _)
    (fun j d hd=>by obtain ⟨u,h1,h2,h3⟩:=hr j d hd; exact ⟨u,by simpa using h1,h2.ext hext,h3⟩) hv.symm
   rw [hv] at this ⊢; exact this
  refine ⟨upd C b (xs.length*k),hrow,⟨fun j=>ht _ _ hrow j _ ((hf.tmps j).ext hext),⟨fun j o ho=>?_,fun j j' o o' x hne h1 h2 hu hu'=>?_,fun j o x ho hu=>?_⟩,hf.size,hf.defers,?_⟩⟩
  ·rcases hh j o ho with ⟨rfl,rfl⟩|⟨hj,ho⟩
   ·exact ⟨_,cap,hv,hc,hm,fun _=>⟨b,vs,rfl,hb,hsz,upd_same _ _ _⟩⟩
   exact (hf.heap.obj j o ho).keep hext fun x hx=>⟨rfl,upd_ne _ _ fun e=>by subst e; exact hf.heap.inj j s o _ x hj ho hs hx huse⟩
  ·have key:∀ j o,σ'.H j=some o→o.uses x→∃ o2,σ.H j=some o2∧o2.uses x:=fun j o ho hu=>by
    rcases hh j o ho with ⟨rfl,rfl⟩|⟨_,ho⟩
    ·obtain ⟨o',cap',h3,h4⟩:=hu;rw [hv] at h3
     have:=slice_uses h3; subst this
     exact ⟨_,hs,huse⟩
    exact ⟨o,ho,hu⟩
   obtain ⟨o2,h3,h4⟩:=key j o h1 hu;obtain ⟨o3,h5,h6⟩:=key j' o' h2 hu';exact hf.heap.inj j j' o2 o3 x hne h3 h5 h4 h6
  ·rcases hh j o ho with ⟨rfl,rfl⟩|⟨_,ho⟩
   ·obtain ⟨o',cap',h3,h4⟩:=hu;rw [hv] at h3
    have:=slice_uses h3; subst this
    exact hf.heap.foot _ _ _ hs huse
   exact hf.heap.foot j o x ho hu
  refine hf.step.trans hst fun x hx hxb=>?_
  subst hxb
  rcases hf.heap.foot s _ _ hs huse with h1|h1
  ·exact h1
  omega
 have hx:xs=[]:=List.eq_nil_of_length_eq_zero (by omega)
 subst hx
 have hcap:cap=0:=by omega
 subst hcap
 have hrow:Rep w C (.sl (.own s v) k []) v:=by
  cases a' with
  | none=>rw [hv]; exact .sl0 _ _ none rfl
  | some ad =>
   obtain ⟨b,rfl,hb⟩:=hbl ad rfl;rw [hv];exact .sl _ _ [] b 0 0 (fun _=>undef) rfl hb (Nat.le_refl _) (Nat.zero_le _) (fun x hx=>by cases hx) (by simp) (fun j d hd=>by simp [flat] at hd) (fun j d hd=>by simp [flat] at hd) (fun j d hd=>by simp [flat] at hd)
 have hnu:∀ j o x,σ'.H j=some o→o.uses x→j≠s∧σ.H j=some o:=fun j o x ho hu=>by
  rcases hh j o ho with ⟨rfl,rfl⟩|h2
  ·obtain ⟨o',cap',h3,h4⟩:=hu;rw [hv] at h3;simp only [Value.slice.injEq] at h3
   simp at h4; omega
  exact h2
 refine ⟨C,hrow,⟨fun j=>ht _ _ hrow j _ (hf.tmps j),⟨fun j o ho=>?_,fun j j' o o' x hne h1 h2 hu hu'=>?_,fun j o x ho hu=>?_⟩,hf.size,hf.defers,hf.step⟩⟩
 ·rcases hh j o ho with ⟨rfl,rfl⟩|⟨hj,ho⟩
  ·exact ⟨_,0,hv,Nat.le_refl _,Nat.zero_le _,fun h=>absurd h (by simp)⟩
  exact hf.heap.obj j o ho
 ·exact hf.heap.inj j j' o o' x hne (hnu j o x h1 hu).2 (hnu j' o' x h2 hu').2 hu hu'
 exact hf.heap.foot j o x (hnu j o x ho hu).2 hu
theorem Tri.commitBox {Γ:Ctx P W0 nt} {c:Code} (s q i:Nat) {v:Value} {xs cs:List D} {b k e:Nat} (hs:σ.H s=some (.row v xs k e)) (hq:σ.H q=some (.box b cs)) (hsq:q≠s) (hi:cs[i]? = some (.raw v))
  (h:Tri Γ c ((σ.setH s none).setH q (some (.box b (setAt cs i (.sl .none k xs))))) K):Tri Γ c σ K :=
 ⟨fun a w C hf=>by
  obtain ⟨C',hrow,hf'⟩:=hf.commit s hs (σ.setH s none) (fun w C _ j u hr=>hr) (fun j o ho=>by
   by_cases hj:j=s
   ·subst hj; rw [setH_same] at ho; cases ho
   rw [setH_ne σ none hj] at ho; exact .inr ⟨hj,ho⟩)
  have hq':(σ.setH s none).H q=some (.box b cs):=by rw [setH_ne σ none hsq]; exact hq
  exact h.run a w C' (hf'.reBox q hq' fun us hr=>RepL.cell hr fun u hu=>(RepL.raw_get hr hi hu) ▸ hrow.untag)⟩
theorem Tri.boxElm {Γ:Ctx P W0 nt} {c:Code} (s j:Nat) (x:D) {b:Nat} {cs:List D} (hj:σ.t j=.box s b 0) (hs:σ.H s=some (.box b cs)) (hx:x.cells=cs) (hone:cs.all D.one=true)
  (h:Tri Γ c { t:=fun i=>_root_.cond (Nat.beq i j) (.elm cs.length [x] 0 0) (σ.t i),H:=fun i=>_root_.cond (Nat.beq i s) none (σ.H i) } K) (hp:∀ (w:World) (C:Nat→Nat) v,Rep w C (.box s b 0) v→v=.pointer (some ⟨b,0,none⟩):=by intro w C v h; cases h; rfl):Tri Γ c σ K :=
 ⟨fun a w C hf=>by
  obtain ⟨vs,e,h1,h2,h3⟩:=hf.heap.obj s _ hs
  have hext:Ext w C w (upd C b cs.length):=⟨Nat.le_refl _,fun x _=>upd_le C b _ (by omega) x,fun _ _ _ _=>rfl⟩
  have hst:Step (fun x=>x=b) w C w (upd C b cs.length):=⟨hext,rfl,rfl,rfl,fun x _ hx=>⟨rfl,upd_ne _ _ hx⟩⟩
  have hf':FR Γ w (upd C b cs.length) (σ.setH s none) a:=hf.setH hst (fun x hx=>by subst hx; exact hf.heap.foot s _ x hs rfl)
   (fun s' o x hne ho hu hx=>by subst hx; exact hf.heap.inj s s' _ o x (Ne.symm hne) hs ho rfl hu) (fun x hx=>by cases hx)
  have hr2:=h2.ext hext
  have hrow:Rep w (upd C b cs.length) (.sl .none cs.length [x]) (.slice (some ⟨b,0,none⟩) 1 1) :=
   rep_row (xs:=[x]) (vs:=vs) (fz:=(0,0)) (e:=e) h1 (fun y hy=>by rw [List.mem_singleton.1 hy,hx]) (Nat.le_refl _) (by decide) (by rw [upd_same]; simp) (fun i d hd=>by
    have hd':cs[i]? = some d:=by simpa [flat,hx] using hd
    obtain ⟨u,hu⟩:=getElem?_of_lt (l:=vs) (i:=i) (by rw [← h2.1]; exact lt_of_get hd')
    exact ⟨u,hu,hr2.2 i d u hd' hu,h2.one hone u (List.mem_iff_getElem?.2 ⟨i,hu⟩)⟩) trivial
  refine h.run a w _ ⟨fun i=>?_,⟨fun i o ho=>?_,fun i i' o o' y hne ha hb=>?_,fun i o y ho=>?_⟩,hf'.size,hf'.defers,hf'.step⟩
  ·show Rep _ _ (_root_.cond (Nat.beq i j) _ _) _
   cases hi:Nat.beq i j with
   | false=>exact hf'.tmps i
   | true =>
    have:=beq_true hi; subst this
    have h5:=hf.tmps i
    rw [hj] at h5;rw [hp _ _ _ h5]
    have:=Rep.elm cs.length [x] 0 0 b 0 1 hrow
    simpa using this
  ·refine hf'.heap.obj i o ?_; exact ho
  ·exact hf'.heap.inj i i' o o' y hne ha hb
  exact hf'.heap.foot i o y ho⟩
theorem XOp.checkElm {dst:Option Tmp} {K:DSt→Prop} {x:Operand} {k i off:Nat} {xs:List D} (hx:σ.ev x=.elm k xs i off) (hK:K (σ.put dst (.elm k xs i off))):XOp P W0 nt σ dst (.nilCheck x) K :=
 .val fun Γ w C a hf type pos after=>by
  have hv:=act_ev hf.tmps x; rw [hx] at hv
  refine ⟨a.eval x,w,C,σ,_,?_,hf,hv,hK⟩
  have key:∃ ad,a.eval x=.pointer (some ad):=by
   generalize a.eval x=u at hv
   cases hv with
   | elm k xs i off b o cap h=>exact ⟨_,rfl⟩
  obtain ⟨ad,h⟩:=key;simp only [execOp,h,Sem.run_pure]
theorem XOp.nilElm {dst:Option Tmp} {K:DSt→Prop} {x:Operand} {t te rt:TypeId} {k i off:Nat} {xs:List D} (hp:P.underlying t=some (.pointer te)) (hx:σ.ev x=.elm k xs i off) (hK:K (σ.put dst (.bool false))):XOp P W0 nt σ dst (.binOp .eql t x (.const (.pointer none)) rt) K :=
 .val fun Γ w C a hf type pos after=>by
  have hv:=act_ev hf.tmps x; rw [hx] at hv
  have key:∃ ad,a.eval x=.pointer (some ad):=by
   generalize a.eval x=u at hv
   cases hv with
   | elm k xs i off b o cap h=>exact ⟨_,rfl⟩
  obtain ⟨ad,h⟩:=key;refine ⟨.bool false,w,C,σ,_,?_,hf,.bool _,hK⟩
  have h7:a.eval (.const (.pointer none))=.pointer none:=rfl
  have h4:=run_eqGuard_plain (P:=P) .eql t x (.const (.pointer none)) (.pointer (some ad)) (.pointer none) w (by simp) (by simp)
  have h6:(binOp .eql t (.pointer (some ad)) (.pointer none)).run P w=.ok (.bool false) w:=by
   have h:∀ d:Nat,(Op.equalIn (d+1) t (.pointer (some ad)) (.pointer none)).run P w=.ok false w:=fun d=>by
    simp [Op.equalIn,run_underlying hp]
   simp only [binOp]
   simp [Op.equal,Op.maxDepth,h 9999]
  simp only [execOp,h,h7,Sem.run_bind,h4,h6,Result.andThen_ok,Sem.run_pure]
theorem XOp.nilNil {dst:Option Tmp} {K:DSt→Prop} {x:Operand} {t te rt:TypeId} (hp:P.underlying t=some (.pointer te)) (hx:σ.ev x=.raw (.pointer none)) (hK:K (σ.put dst (.bool true))):XOp P W0 nt σ dst (.binOp .eql t x (.const (.pointer none)) rt) K :=
 .val fun Γ w C a hf type pos after=>by
  have hv:=act_ev hf.tmps x; rw [hx] at hv
  have h:a.eval x=.pointer none:=by
   generalize a.eval x=u at hv
   cases hv; rfl
  refine ⟨.bool true,w,C,σ,_,?_,hf,.bool _,hK⟩
  have h7:a.eval (.const (.pointer none))=.pointer none:=rfl
  have h4:=run_eqGuard_plain (P:=P) .eql t x (.const (.pointer none)) (.pointer none) (.pointer none) w (by simp) (by simp)
  have h6:(binOp .eql t (.pointer none) (.pointer none)).run P w=.ok (.bool true) w:=by
   have h:∀ d:Nat,(Op.equalIn (d+1) t (.pointer none) (.pointer none)).run P w=.ok true w:=fun d=>by
    simp [Op.equalIn,run_underlying hp]
   simp only [binOp]
   simp [Op.equal,Op.maxDepth,h 9999]
  simp only [execOp,h,h7,Sem.run_bind,h4,h6,Result.andThen_ok,Sem.run_pure]
variable {P:Program} {W0:World} {nt:Nat} {σ:DSt} {dst:Option Tmp} {K:DSt→Prop} {ti:List TEnt}
theorem flat_set_cell {k:Nat} {xs:List D} (hk:∀ x∈xs,x.cells.length=k) {i j:Nat} {cs:List D} {d:D} (hi:xs[i]? = some (.agg cs)) (hj:j<k) (m:Nat) :
  (flat (xs.set i (.agg (setAt cs j d))))[m]? = if m=i*k+j then some d else (flat xs)[m]?:=by
 have hil:=lt_of_get hi
 have hcs:cs.length=k:=hk _ (List.mem_of_getElem? hi)
 have hy:(D.agg (setAt cs j d)).cells.length=k:=by show (setAt cs j d).length=k; rw [setAt_length,hcs]
 have hfl:=flat_length hk
 have hle:i*k+k≤xs.length*k:=by rw [← Nat.succ_mul]; exact Nat.mul_le_mul_right k hil
 rw [flat_set hk hil hy,take_drop_get _ _ _ (by rw [hfl,hy]; exact hle)]
 by_cases h:i*k≤m∧m<i*k+k
 ·rw [if_pos ⟨h.1,by rw [hy]; exact h.2,by omega⟩]
  show (setAt cs j d)[m-i*k]? = _
  rw [setAt_get]
  have h2:=flat_get hk hi (j:=m-i*k) (by omega)
  rw [show i*k+(m-i*k)=m by omega] at h2
  by_cases e:m=i*k+j
  ·rw [if_pos ⟨by omega,by omega⟩,if_pos e]
  rw [if_neg (by omega),if_neg e,h2]; rfl
 rw [if_neg (fun hh=>h ⟨hh.1,by have:=hh.2.1; rw [hy] at this; exact this⟩),if_neg (by omega)]
theorem XOp.rowField (hT:TOk P ti) {t f:Nat} {x:Operand} (s:Nat) {v:Value} {xs:List D} {k e i m o sz:Nat} {ag:Bool} {te:TEnt} (hx:σ.ev x=.raw (rowPtr v m)) (hs:σ.H s=some (.row v xs k e)) (hi:i<xs.length)
  (ht:tget ti t=some te) (hks:te.kind=.struct) (hf0:te.fields[f]? = some (o,sz,ag)) (hsz:sz≠0) (hK:K (σ.put dst (.raw (rowPtr v (m+o))))):XOp P W0 nt σ dst (.fieldAddr t x f) K :=
 .val fun Γ w C a hf type pos after=>by
  obtain ⟨heo,rfl⟩:=hT.get ht
  have hv:=act_ev hf.tmps x; rw [hx] at hv
  obtain ⟨b,cap,vs,rfl,_⟩:=RowV.pos (i:=i) (hf.heap.obj s _ hs) hi;obtain ⟨fs,hfs,hfb,_⟩:=heo.u_struct hks;obtain ⟨fl,hfl,hoff,⟨inf,hinf,hins⟩,_,_⟩:=fieldsB_get hfb hf0
  have hfl':fs[f]? = some fl:=by simpa using hfl
  refine ⟨_,w,C,σ,_,?_,hf,.raw _,hK⟩
  simp [execOp,hv.raw_inv,rowPtr,Instr.fieldAt,run_underlying hfs,hfl',Instr.sureAddr,fieldPlace,run_sizeOf hinf,hins,hsz,hoff,addr_add]
theorem XOp.rowStoreF (hT:TOk P ti) {t:Nat} {x y:Operand} (s:Nat) {v:Value} {xs:List D} {k e i j:Nat} {cs:List D} {te:TEnt} (hx:σ.ev x=.raw (rowPtr v (i*k+j))) (hs:σ.H s=some (.row v xs k e)) (ht:tget ti t=some te) (hsz:te.sz=1)
  (hi:xs[i]? = some (.agg cs)) (hj:j<k) (ho:(σ.ev y).one=true) (hK:K ((σ.setH s (some (.row v (xs.set i (.agg (setAt cs j (σ.ev y)))) k e))).put dst .undef)):XOp P W0 nt σ dst (.store t x y) K :=
 .unit fun Γ w C a hf type pos after=>by
  obtain ⟨heo,rfl⟩:=hT.get ht
  have hil:=lt_of_get hi
  have hv:=act_ev hf.tmps x; rw [hx] at hv
  have hy:=act_ev hf.tmps y
  obtain ⟨h1,h2⟩:=hy.one_cells ho;obtain ⟨b,cap,vs,rfl,hc,hm,hk,hb,hvs,hC,hr⟩:=RowV.pos (hf.heap.obj s _ hs) hil
  have hle:i*k+k≤cap*k:=by rw [← Nat.succ_mul]; exact Nat.mul_le_mul_right k (Nat.lt_of_lt_of_le hil hc)
  have hfit:i*k+j+0+(a.eval y).cells.toList.length≤vs.size:=by rw [h1,hvs]; simp; omega
  have hrun:=run_storeCells_at P b (i*k+j) e (a.eval y).cells.toList 0 vs w hb hfit (by rw [h1]; simpa using h2)
  simp only [Nat.add_zero] at hrun
  have hst:=Step.setRow (C:=C) (n:=0) hb (cs:=(vs.toList.take (i*k+j)++(a.eval y).cells.toList++vs.toList.drop (i*k+j+(a.eval y).cells.toList.length)).toArray) (by omega) (fun o ho=>by omega)
  have huse:HObj.uses (.row (.slice (some ⟨b,0,none⟩) xs.length cap) xs k e) b:=⟨_,cap,rfl,by omega⟩
  refine ⟨_,_,_,?_,hf.setH hst (s:=s) (fun x hx=>by subst hx; exact hf.heap.foot s _ _ hs huse) (fun s' o' b' hne hs' hu hbb=>?_) fun z hz=>?_,hK⟩
  ·simp only [rowPtr,Nat.zero_add] at hv;simp only [execOp,hv.raw_inv,Instr.storeAt,Instr.sureAddr,Sem.run_bind,Sem.run_pure,Result.andThen_ok,storeVar,heo.size,hsz,h1];rw [h1] at hrun;rw [if_neg (by simp)];exact (congrArg (fun r=>Result.andThen r fun _ w'=>Result.ok Next.skip w') hrun).trans rfl
  ·subst hbb;exact hf.heap.inj s' s o' _ b' hne hs' hs hu huse
  cases hz
  refine ⟨⟨_,cap,by rw [List.length_set],by simpa using hc,hm,fun z hz=>?_,fun ad had=>⟨b,by cases had; rfl,by simpa using lt_of_heap hb⟩,fun _=>⟨b,_,rfl,setRow_heap w b _ _ e _ hb,?_,upd_same _ _ _,fun m d hd=>?_⟩⟩,fun x hx=>?_⟩
  ·rcases List.mem_or_eq_of_mem_set hz with hz|rfl
   ·exact hk z hz
   show (setAt cs j (σ.ev y)).length=k
   rw [setAt_length]; exact hk _ (List.mem_of_getElem? hi)
  ·simp only [List.size_toArray,List.length_append,List.length_take,List.length_drop,Array.length_toList,h1]
   simp; omega
  ·rw [flat_set_cell hk hi hj] at hd;rw [List.getElem?_toArray,take_drop_get _ _ _ (by simpa using hfit)]
   have hl1:(a.eval y).cells.toList.length=1:=by rw [h1]; rfl
   rw [hl1]
   by_cases hm':m=i*k+j
   ·rw [if_pos hm'] at hd;simp only [Option.some.injEq] at hd;subst hd
    rw [if_pos ⟨by omega,by omega,by simp; omega⟩,hm',Nat.sub_self]
    exact ⟨a.eval y,by rw [h1]; rfl,hy.ext (by rw [hl1] at hst; exact hst.ext),h2⟩
   rw [if_neg hm'] at hd;rw [if_neg (by omega)];obtain ⟨u,h3,h4,h5⟩:=hr m d hd
   exact ⟨u,by simpa using h3,h4.ext (by rw [hl1] at hst; exact hst.ext),h5⟩
  obtain ⟨n',cap',hv',_⟩:=hx;simp only [Value.slice.injEq,Option.some.injEq,Addr.mk.injEq] at hv';obtain ⟨⟨rfl,_⟩,_⟩:=hv';exact ⟨hf.heap.foot s _ _ hs huse,.inl rfl⟩
theorem buildSlice_row {e ee:TEnt} (he:e.Ok P) (hee:ee.Ok P) (hks:e.kind=.slice ee.t) (hz:ee.zero.isSome=true) (h0:0<ee.sz) {n:Nat} (hn:n*ee.sz≤16777216) {ds:List (Nat×D)} (hdn:ds.length=n)
  (hrow:rowC ee.sz 0 ds) {w:World} {C:Nat→Nat} {vs:List (Nat×Value)} (h1:vs.map (·.1)=ds.map (·.1)) (h2:RepL w C (ds.map (·.2)) (vs.map (·.2))) :
  ∃ us:List Value,(Instr.buildSlice e.t n ⟨vs⟩).run P w=.ok (.slice (some ⟨w.heap.size,0,none⟩) n n) (w.alloc (.cells us.toArray ee.t))∧us.length=n*ee.sz∧(∀ x∈ds.map (·.2),x.cells.length=ee.sz) ∧
   ∀ (j:Nat) d,(flat (ds.map (·.2)))[j]? = some d→∃ u,us[j]? = some u∧Rep w C d u∧u.oneCell'=true:=by
 obtain ⟨z,hz⟩:=Option.isSome_iff_exists.1 hz;obtain ⟨i,hi,hs,_,hzz⟩:=hee.info;obtain ⟨zv,hzv,hzl,hzr⟩:=hzz z hz;obtain ⟨hkeys,hcells⟩:=rowC_keys hrow
 have hu:=he.u_slice hks
 have hvl:vs.length=n:=by have:=h2.1; simp only [List.length_map] at this; omega
 have hvs:vs=((vs.map (·.2)).zipIdx 0).map fun x=>(x.2,x.1):=by
  apply List.ext_getElem?;intro j
  by_cases hj:j<vs.length
  ·have e1:(vs.map (·.1))[j]? = some j:=by
    rw [h1,hkeys,List.getElem?_range' (by omega)]; simp
   have e2:vs[j]? = some vs[j]:=List.getElem?_eq_getElem hj
   simp only [List.getElem?_map,List.getElem?_zipIdx,e2,Option.map_some] at e1 ⊢
   have e3:vs[j].1=j:=by simpa using e1
   congr 1
   ext
   ·simpa using e3
   rfl
  rw [List.getElem?_eq_none (by omega),List.getElem?_eq_none (by simp; omega)]
 have hsz:∀ (j:Nat) d v,(ds.map (·.2))[j]? = some d→(vs.map (·.2))[j]? = some v→d.cells.length=ee.sz∧v.cells.size=ee.sz∧RepL w C d.cells v.cells.toList∧∀ u∈v.cells.toList,u.oneCell'=true:=by
  intro j d v hd hv
  have hr:=h2.2 j d v hd hv
  simp only [List.getElem?_map,Option.map_eq_some_iff] at hd;obtain ⟨x,hx,rfl⟩:=hd;exact hcells w C x (List.mem_of_getElem? hx) v hr
 have hmem:∀ v∈vs.map (·.2),v.cells.size=ee.sz:=by
  intro v hv;obtain ⟨j,hj⟩:=List.mem_iff_getElem?.1 hv
  obtain ⟨d,hd⟩:=getElem?_of_lt (l:=ds.map (·.2)) (i:=j) (by have:=lt_of_get hj; simp only [List.length_map] at this ⊢; omega)
  exact (hsz j d v hd hj).2.1
 have hfill:=Great.fill_whole h0 (vs.map (·.2)) ((Array.range (n*ee.sz)).map (zv.cells[·%zv.cells.size]!)) hmem (by simp only [List.length_map,hvl,Array.size_map,Array.size_range])
 rw [← hvs] at hfill
 have hrun:(Instr.buildSlice e.t n ⟨vs⟩).run P w=.ok (.slice (some ⟨w.heap.size,0,none⟩) n n) (w.alloc (.cells ((vs.map (·.2)).flatMap fun v=>v.cells.toList).toArray ee.t)):=by
  by_cases hn0:n=0
  ·subst hn0
   have hnil:vs=[]:=List.eq_nil_of_length_eq_zero hvl
   subst hnil
   have hr0:Array.range 0=#[]:=rfl
   simp [hr0,Instr.buildSlice,run_underlying hu,sizeOf,typeInfo,hi,Instr.fill,newRow]
  have hne:¬ n*ee.sz=0:=by
   intro h
   rcases Nat.mul_eq_zero.1 h with h|h<;>omega
  have hns:¬ 16777216<n*ee.sz:=by omega
  simp [Instr.buildSlice,run_underlying hu,sizeOf,typeInfo,zeroValue,hi,hzv,hs,hne,hns,hfill,newRow]
 have hl:(ds.map (·.2)).length=n:=by simpa using hdn
 have hk:∀ x∈ds.map (·.2),x.cells.length=ee.sz:=by
  intro x hx;obtain ⟨j,hj⟩:=List.mem_iff_getElem?.1 hx
  obtain ⟨v,hv⟩:=getElem?_of_lt (l:=vs.map (·.2)) (i:=j) (by have:=lt_of_get hj; simp only [List.length_map] at this ⊢; omega)
  exact (hsz j x v hj hv).1
 have hfl:=flatMap_repL (w:=w) (C:=C) (ds:=ds.map (·.2)) (vs:=vs.map (·.2)) h2.1 (fun i d v hd hv=>(hsz i d v hd hv).2.2.1)
 refine ⟨_,hrun,?_,hk,fun j d hd=>?_⟩
 ·rw [← hfl.1]; show (flat _).length=_; rw [flat_length hk,hl]
 obtain ⟨v,hv⟩:=getElem?_of_lt (l:=(vs.map (·.2)).flatMap fun v=>v.cells.toList) (i:=j) (by have:=lt_of_get hd; rw [hfl.1] at this; exact this)
 refine ⟨v,hv,hfl.2 j d v hd hv,?_⟩;obtain ⟨u,hu,hvu⟩:=List.mem_flatMap.1 (List.mem_of_getElem? hv);obtain ⟨i,hi⟩:=List.mem_iff_getElem?.1 hu
 obtain ⟨d',hd'⟩:=getElem?_of_lt (l:=ds.map (·.2)) (i:=i) (by have:=lt_of_get hi; simp only [List.length_map] at this ⊢; omega)
 exact (hsz i d' u hd' hi).2.2.2 v hvu
theorem XOp.buildRow (hT:TOk P ti) {t el n s q:Nat} {ps:Array (Nat×Operand)} {te ee:TEnt} (ht:tget ti t=some te) (hks:te.kind=.slice el) (hel:tget ti el=some ee) (h3:Nat.ble (n*ee.sz) 16777216=true) (h4:Nat.blt 0 ee.sz=true) (h5:ee.zero.isSome=true)
  (hq:evParts true σ ps.toList fun ds=>ds.length=n∧rowC ee.sz 0 ds∧∀ v,K ((σ.setH q (some (.row v (ds.map (·.2)) ee.sz el))).put (some s) (.raw v))):XOp P W0 nt σ (some s) (.buildSlice t n ps) K :=
 .val fun Γ w C a hf type pos after=>by
  obtain ⟨heo,rfl⟩:=hT.get ht;obtain ⟨heeo,rfl⟩:=hT.get hel;obtain ⟨ds,⟨hdn,hrow,hK⟩,hkeys,hds⟩:=evParts_elim hq
  have h6:=hds rfl w C a.eval (fun x hx=>act_ev hf.tmps x.2)
  obtain ⟨us,hrun,hul,hk,hr⟩:=buildSlice_row (P:=P) heo heeo hks h5 (Nat.lt_of_lt_of_le (Nat.lt_succ_self _) (Nat.le_of_ble_eq_true h4)) (Nat.le_of_ble_eq_true h3) hdn hrow
   (w:=w) (C:=C) (vs:=(ps.map fun (i,x)=>(i,a.eval x)).toList) (by simp [hkeys]) (by simpa [Function.comp_def] using h6)
  have hl:(ds.map (·.2)).length=n:=by simpa using hdn
  have hst:=Step.alloc (fun _=>False) w C (.cells us.toArray ee.t) 0
  refine ⟨_,_,_,_,_,?_,hf.newObj q (ob:=.row (.slice (some ⟨w.heap.size,0,none⟩) n n) (ds.map (·.2)) ee.sz ee.t) (o:=.cells us.toArray ee.t) ?_ ?_,.raw _,hK _⟩
  ·simp only [execOp]; rw [Sem.run_bind,hrun]; rfl
  ·refine ⟨_,n,by rw [hl],by omega,?_,hk,fun ad had=>⟨_,by cases had; rfl,lt_of_heap (heap_alloc_new' w _)⟩,fun _=>⟨w.heap.size,_,rfl,heap_alloc_new' w _,by simpa using hul,upd_same _ _ _,fun j d hd=>?_⟩⟩
   ·simp only [maxLen]
    have h7:=Nat.le_of_ble_eq_true h3
    have h8:n≤n*ee.sz:=Nat.le_mul_of_pos_right n (Nat.lt_of_lt_of_le (Nat.lt_succ_self _) (Nat.le_of_ble_eq_true h4))
    omega
   obtain ⟨u,h7,h8,h9⟩:=hr j d hd;exact ⟨u,by simpa using h7,h8.ext hst.ext,h9⟩
  rintro b ⟨n',cap,h,_⟩; exact slice_uses h
theorem LeL.get:∀ {as0 bs:List D},LeL as0 bs→as0.length=bs.length∧∀ (j:Nat) d',bs[j]? = some d'→∃ d,as0[j]? = some d∧DLe d d'
 | [],[],_=>⟨rfl,fun j d' h=>by simp at h⟩
 | a::r,b::s,h=>by
  obtain ⟨h1,h2⟩:=LeL.get h.2;refine ⟨by simp [h1],fun j d' hd=>?_⟩
  cases j with
  | zero=>cases hd; exact ⟨a,rfl,h.1⟩
  | succ j=>exact h2 j d' hd
 | [],_::_,h=>h.elim
 | _::_,[],h=>h.elim
theorem DLe.slMap {t:Tag} {k:Nat} {xs ys:List D} (h:LeL (flat xs) (flat ys)) (hl:xs.length=ys.length) (hk:∀ y∈ys,y.cells.length=k):DLe (.sl t k xs) (.sl t k ys) :=
 ⟨fun w C v hr=>by
  obtain ⟨_,hg⟩:=h.get
  cases hr with
  | sl0 t k a ht =>
   have:ys=[]:=List.eq_nil_of_length_eq_zero (by simpa using hl.symm)
   subst this; exact .sl0 _ _ a ht
  | sl t k xs b o cap g ht hb hc hm hk' hC hcell hone hh =>
   rw [hl] at ht hc hC ⊢;refine .sl t k ys b o cap g ht hb hc hm hk hC (fun j d hd=>?_) (fun j d hd=>?_) (fun j d hd=>?_)
   ·obtain ⟨d0,h1,_⟩:=hg j d hd; exact hcell j d0 h1
   ·obtain ⟨d0,h1,_⟩:=hg j d hd; exact hone j d0 h1
   obtain ⟨d0,h1,h2⟩:=hg j d hd; exact h2.le _ _ _ (hh j d0 h1)⟩
theorem XOp.cut (hT:TOk P ti) {t el:Nat} {x:Operand} {lo hi:Option Operand} {a:Option Addr} {n cap l r:Nat} {te ee:TEnt} (hx:σ.ev x=.raw (.slice a n cap)) (ht:tget ti t=some te) (hks:te.kind=.slice el) (hel:tget ti el=some ee)
  (hl:(lo=none∧l=0)∨∃ o k,lo=some o∧σ.ev o=.int k l) (hr:(hi=none∧r=n)∨∃ o k,hi=some o∧σ.ev o=.int k r) (h1:l≤r) (h2:r≤cap)
  (hK:K (σ.put dst (.raw (.slice (if cap=l then a else a.map (·.add (l*ee.sz))) (r-l) (cap-l))))):XOp P W0 nt σ dst (.slice t x lo hi none) K :=
 .val fun Γ w C ac hf type pos after=>by
  obtain ⟨heo,rfl⟩:=hT.get ht;obtain ⟨heeo,rfl⟩:=hT.get hel
  have hu:=heo.u_slice hks
  have hv:=act_ev hf.tmps x; rw [hx] at hv
  have hlo:(lo.map ac.eval=none∧(l:Int)=0)∨∃ kk,lo.map ac.eval=some (.int kk l):=by
   rcases hl with ⟨rfl,rfl⟩|⟨o,k,rfl,ho⟩
   ·exact .inl ⟨rfl,rfl⟩
   have h:=act_ev hf.tmps o; rw [ho] at h
   exact .inr ⟨k,by rw [Option.map_some,h.int_inv]⟩
  have hhi:(hi.map ac.eval=none∧(r:Int)=(n:Int))∨∃ kk,hi.map ac.eval=some (.int kk r):=by
   rcases hr with ⟨rfl,rfl⟩|⟨o,k,rfl,ho⟩
   ·exact .inl ⟨rfl,rfl⟩
   have h:=act_ev hf.tmps o; rw [ho] at h
   exact .inr ⟨k,by rw [Option.map_some,h.int_inv]⟩
  have hb:=run_sliceBounds (P:=P) (isS:=true) (len:=n) (cap:=cap) hlo hhi (by omega) (by omega) (by omega) w
  refine ⟨_,w,C,σ,_,?_,hf,.raw _,hK⟩
  simp [execOp,hv.raw_inv,Instr.sliceAt,run_underlying hu,Instr.slice,hb,heeo.size]
theorem XOp.plain (hT:TOk P ti) {op:Op} (hq:vstep P W0 ti σ dst op K):XOp P W0 nt σ dst op K :=
 ⟨fun Γ w C a hf hd type pos after Q=>vstep_sound hT hf hd hq Q⟩
theorem XOp.commit {op:Op} (s j:Nat) {v:Value} {xs:List D} {k e:Nat} (hs:σ.H s=some (.row v xs k e)) (hj:σ.t j=.raw v)
  (h:XOp P W0 nt { t:=fun i=>_root_.cond (Nat.beq i j) (.sl .none k xs) (σ.t i),H:=fun i=>_root_.cond (Nat.beq i s) none (σ.H i) } dst op K):XOp P W0 nt σ dst op K :=
 ⟨fun Γ w C a hf hd type pos after Q=>by
  obtain ⟨C',hrow,hf'⟩:=hf.commit s hs { t:=fun i=>_root_.cond (Nat.beq i j) (.sl .none k xs) (σ.t i),H:=fun i=>_root_.cond (Nat.beq i s) none (σ.H i) } (fun w C hr i u hu=>by
   show Rep w C (_root_.cond (Nat.beq i j) _ _) u
   cases hi:Nat.beq i j with
   | false=>exact hu
   | true =>
    have:=beq_true hi; subst this
    rw [hj] at hu
    rw [hu.raw_inv]; exact hr.untag) (fun i o ho=>by
   replace ho:_root_.cond (Nat.beq i s) none (σ.H i)=some o:=ho
   cases hi:Nat.beq i s with
   | true=>rw [hi] at ho; cases ho
   | false =>
    rw [hi] at ho;refine .inr ⟨fun e=>?_,ho⟩
    subst e; rw [Nat.beq_refl] at hi; cases hi)
  exact h.run Γ w C' a hf' hd type pos after Q⟩
variable {P:Program} {W0:World} {nt:Nat}
structure Keys where
 to:Nat→Option Nat
 fro:Nat→Option Nat
 inv:∀ j s,to j=some s↔fro s=some j
def Keys.same (p:Nat→Bool):Keys:=⟨fun j=>bif p j then some j else none,fun j=>bif p j then some j else none,fun j s=>by
  by_cases e:j=s
  ·subst e; rfl
  have e':¬ s=j:=fun h=>e h.symm
  cases p j<;>cases p s<;>simp [e,e']⟩
def handedG (H:Heap) (m:Keys):Heap:=fun j=>match m.to j with|some s=>H s|none=>none
def backG (H H':Heap) (m:Keys):Heap:=fun s=>match m.fro s with|some j=>H' j|none=>H s
theorem handedG_spec {H:Heap} {m:Keys} {j:Nat} {o:HObj} (h:handedG H m j=some o):∃ s,m.to j=some s∧H s=some o:=by
 unfold handedG at h
 cases e:m.to j with
 | none=>rw [e] at h; cases h
 | some s=>rw [e] at h; exact ⟨s,rfl,h⟩
theorem backG_spec {H H':Heap} {m:Keys} {s:Nat} {o:HObj} (h:backG H H' m s=some o):(∃ j,m.fro s=some j∧H' j=some o)∨(m.fro s=none∧H s=some o):=by
 unfold backG at h
 cases e:m.fro s with
 | none=>rw [e] at h; exact .inr ⟨rfl,h⟩
 | some j=>rw [e] at h; exact .inl ⟨j,rfl,h⟩
theorem Keys.inj {m:Keys} {j j' s s':Nat} (h:m.to j=some s) (h':m.to j'=some s'):j=j'↔s=s' :=
 ⟨fun e=>by subst e; rw [h] at h'; exact Option.some.inj h',fun e=>by
  subst e
  have h1:=(m.inv j s).1 h
  have h2:=(m.inv j' s).1 h'
  rw [h1] at h2; exact Option.some.inj h2⟩
theorem call_wpG {Γ:Ctx P W0 nt} {w:World} {C:Nat→Nat} {σ:DSt} {a:Act} (hf:FR Γ w C σ a) (m:Keys) {f:FuncId} {ds:List D} {args:List Value} {Q:D→Heap→Prop}
  (hc:DCall P W0 f ds (handedG σ.H m) Q) (hr:RepL w C ds args) {dst:Option Tmp} (hd:okDst nt dst=true) {K:DSt→Prop} (hK:∀ d H',Q d H'→∃ d',DLe d d'∧K (({ t:=σ.t,H:=backG σ.H H' m }:DSt).put dst d')) :
  Calls P f ⟨args⟩ w fun e w'=>∃ v,e=.returned v∧∃ σ' C',K σ'∧FR Γ w' C' σ' (a.put dst v):=by
 let Ft:Nat→Prop:=fun b=>∃ k s o,m.to k=some s∧σ.H s=some o∧o.uses b
 have hFt:∀ b,Ft b→Γ.Foot b:=fun b ⟨k,s,o,_,h1,h2⟩=>hf.heap.foot s o b h1 h2
 have hH:HRel Ft w C (handedG σ.H m):=by
  refine ⟨fun j o ho=>?_,fun j j' o o' b hne h1 h2 hu hu'=>?_,fun j o b ho hu=>?_⟩
  ·obtain ⟨s,_,h⟩:=handedG_spec ho; exact hf.heap.obj s o h
  ·obtain ⟨s,hs,h⟩:=handedG_spec h1;obtain ⟨s',hs',h'⟩:=handedG_spec h2
   have hss:s≠s':=fun e=>hne ((Keys.inj hs hs').2 e)
   exact hf.heap.inj s s' o o' b hss h h' hu hu'
  obtain ⟨s,hs,h⟩:=handedG_spec ho; exact ⟨j,s,o,hs,h,hu⟩
 refine (hc.2 w C args Ft hf.base (fun b hb=>Γ.foot_low (hFt b hb)) hH hr).mono ?_;rintro e w' ⟨v,d,C',H',rfl,hQ,hrep,hs,hH'⟩;obtain ⟨d',hle,hK⟩:=hK d H' hQ;refine ⟨v,rfl,_,C',hK,FR.put ?_ hd (hle.le _ _ _ hrep)⟩
 have hkeep:∀ j o,m.fro j=none→σ.H j=some o→∀ b,o.uses b→¬ Ft b∧b<w.heap.size:=fun j o hj ho b hb =>
  ⟨fun ⟨k,s,o',h1,h2,h3⟩=>hf.heap.inj j s o o' b (fun e=>by subst e; rw [(m.inv k j).1 h1] at hj; cases hj) ho h2 hb h3,(hf.heap.obj j o ho).lt hb⟩
 refine ⟨fun i=>(hf.tmps i).ext hs.ext,⟨fun j o ho=>?_,fun j j' o o' b hne h1 h2 hu hu'=>?_,fun j o b ho hu=>?_⟩,hf.size,hf.defers,?_⟩
 ·rcases backG_spec ho with ⟨k,_,h⟩|⟨hj,h⟩
  ·exact hH'.obj k o h
  exact (hf.heap.obj j o h).keep hs.ext fun b hb=>hs.keep b (hkeep j o hj h b hb).2 (hkeep j o hj h b hb).1
 ·rcases backG_spec h1 with ⟨k,hk,h⟩|⟨hj,h⟩<;>rcases backG_spec h2 with ⟨k',hk',h'⟩|⟨hj',h'⟩
  ·exact hH'.inj k k' o o' b (fun e=>hne ((Keys.inj ((m.inv k j).2 hk) ((m.inv k' j').2 hk')).1 e)) h h' hu hu'
  ·obtain ⟨h3,h4⟩:=hkeep j' o' hj' h' b hu'
   rcases hH'.foot k o b h hu with h5|h5
   ·exact h3 h5
   omega
  ·obtain ⟨h3,h4⟩:=hkeep j o hj h b hu
   rcases hH'.foot k' o' b h' hu' with h5|h5
   ·exact h3 h5
   omega
  exact hf.heap.inj j j' o o' b hne h h' hu hu'
 ·rcases backG_spec ho with ⟨k,_,h⟩|⟨hj,h⟩
  ·rcases hH'.foot k o b h hu with h5|h5
   ·exact hFt b h5
   exact .inr (Nat.le_trans hf.step.ext.size h5)
  exact hf.heap.foot j o b h hu
 exact hf.step.trans hs fun b hb hF=>by
  rcases hFt b hF with h|h
  ·exact h
  omega
def StG (l:List (Nat×D)) (H:Heap):DSt:={ t:=fun j=>(look l j).getD .any,H }
structure SubG (σ:DSt) (l:List (Nat×D)) (H:Heap):Prop where
 t:SubT σ l
 h:∃ to:Nat→Nat,(∀ k k' o o',H k=some o→H k'=some o'→to k=to k'→k=k')∧∀ k o,H k=some o→σ.H (to k)=some o
theorem SubG.same {σ:DSt} {l:List (Nat×D)} {H:Heap} (h1:SubT σ l) (h2:∀ k o,H k=some o→σ.H k=some o):SubG σ l H:=⟨h1,fun k=>k,fun _ _ _ _ _ _ e=>e,h2⟩
section
variable {Γ:Ctx P W0 nt} {σ:DSt} {K:DExit→DSt→Prop}
theorem FR.weakenG {w:World} {C:Nat→Nat} {a:Act} {l:List (Nat×D)} {H:Heap} (h:FR Γ w C σ a) (hk:SubG σ l H):FR Γ w C (StG l H) a:=by
 obtain ⟨to,hi,hH⟩:=hk.h
 exact ⟨fun i=>(hk.t.look i).le _ _ _ (h.tmps i),
  ⟨fun s o ho=>h.heap.obj (to s) o (hH s o ho),fun s s' o o' b hn h3 h4=>h.heap.inj (to s) (to s') o o' b (fun e=>hn (hi s s' o o' h3 h4 e)) (hH s o h3) (hH s' o' h4),
   fun s o b ho=>h.heap.foot (to s) o b (hH s o ho)⟩,h.size,h.defers,h.step⟩
theorem Tri.forgetG {c:Code} (l:List (Nat×D)) (H:Heap) (h1:SubG σ l H) (h:Tri Γ c (StG l H) K):Tri Γ c σ K :=
 ⟨fun a w C hf=>h.run a w C (hf.weakenG h1)⟩
def joinG {α:Type} (l:α→List (Nat×D)) (H:α→Heap) (K:DExit→DSt→Prop):DExit→DSt→Prop
 | .normal,σ=>∃ x,SubG σ (l x) (H x)
 | .exit id,σ=>K (.exit id) σ
 | .ret,σ=>K .ret σ
theorem Tri.joinG {a b:Code} {α:Type} (l:α→List (Nat×D)) (H:α→Heap) (h:Tri Γ a σ (joinG l H K)) (h':∀ x,Tri Γ b (StG (l x) (H x)) K):Tri Γ (.seq a b) σ K :=
 .seq (h.mono fun e σ' hk=>by
  cases e with
  | normal=>obtain ⟨x,h1⟩:=hk; exact (h' x).forgetG _ _ h1
  | exit id=>exact hk
  | ret=>exact hk)
def loopG {α:Type} (l:α→List (Nat×D)) (H:α→Heap) (μ:α→Nat) (x:α) (K:DExit→DSt→Prop):DExit→DSt→Prop
 | .normal,σ=>∃ x',μ x'<μ x∧SubG σ (l x') (H x')
 | .exit id,σ=>K (.exit id) σ
 | .ret,σ=>K .ret σ
theorem Tri.loopG {c:Code} {α:Type} (l:α→List (Nat×D)) (H:α→Heap) (μ:α→Nat) (x0:α) (h1:SubG σ (l x0) (H x0))
  (round:∀ x,Tri Γ c (StG (l x) (H x)) (loopG l H μ x K)):Tri Γ (.loop c) σ K :=
 ⟨fun a w C hf=>by
  have hf0:=hf.weakenG h1
  intro b k cs
  have key:∀ n x,μ x=n→∀ a w C,FR Γ w C (StG (l x) (H x)) a →
    ∃ e a' w',(∃ de σ' C',e=DExit.to de∧K de σ'∧FR Γ w' C' σ' a')∧Arrives P (lone (b.at a (.code c::.inLoop c::k)) cs w) b k cs e a' w':=by
   intro n
   induction n using Nat.strongRecOn with
   | _ n ih =>
    intro x hn a w C hf;obtain ⟨e,a₁,w₁,⟨de,σ1,C1,he,hK,hF⟩,harr⟩:=(round x).run a w C hf b (.inLoop c::k) cs;subst he
    cases de with
    | normal =>
     obtain ⟨x',hlt,h3⟩:=hK;obtain ⟨e₂,a₂,w₂,hq₂,harr₂⟩:=ih (μ x') (hn ▸ hlt) x' rfl a₁ w₁ C1 (hF.weakenG h3);exact ⟨e₂,a₂,w₂,hq₂,.of_steps (Steps.trans harr (.one step_inLoop)) harr₂⟩
    | exit id=>exact ⟨_,a₁,w₁,⟨.exit id,σ1,C1,rfl,hK,hF⟩,.pass (x:=.inLoop c) rfl (fun _ _=>.inl (by simp [DExit.to])) harr⟩
    | ret=>exact ⟨_,a₁,w₁,⟨.ret,σ1,C1,rfl,hK,hF⟩,.pass (x:=.inLoop c) rfl (fun _ _=>.inl (by simp [DExit.to])) harr⟩
  obtain ⟨e,a',w',hq,harr⟩:=key _ x0 rfl a w C hf0
  exact ⟨e,a',w',hq,.of_steps (.one step_loop) harr⟩⟩
end
section
variable {σ:DSt} {dst:Option Tmp} {K:DSt→Prop}
theorem XOp.callG {f:Operand} {args:Array Operand} {ats:Array TypeId} {fid:FuncId} {first caps:List D} (hf:σ.ev f=.fn (.func fid) first caps)
  (as0':List D) (m:Keys) {Q:D→Heap→Prop} (hc:DCall P W0 fid as0' (handedG σ.H m) Q) (hle:LeL (first++args.toList.map σ.ev++caps) as0')
  (hK:∀ d H',Q d H'→∃ d',DLe d d'∧K (({ t:=σ.t,H:=backG σ.H H' m }:DSt).put dst d')):XOp P W0 nt σ dst (.call ⟨.value f,args,ats⟩) K :=
 ⟨fun Γ w C a hfr hd type pos after Q'=>by
  have hv0:=act_ev hfr.tmps f
  rw [hf] at hv0;obtain ⟨vf,vc,hv,h1,h2⟩:=hv0.fn_inv
  have h3:RepL w C (args.toList.map σ.ev) (args.toList.map a.eval) :=
   ⟨by simp,fun i d v hd hv=>by
    simp only [List.getElem?_map] at hd hv
    cases hx:args.toList[i]? with
    | none=>rw [hx] at hd; cases hd
    | some x=>rw [hx] at hd hv; cases hd; cases hv; exact act_ev hfr.tmps x⟩
  have h4:=hle.repL ((h1.append h3).append h2)
  obtain ⟨fn,hfn,hbody,hname⟩:=hc.1
  have hb:fn.body.isNone=false:=by cases hb:fn.body<;>simp [hb] at hbody ⊢
  have hrun:(execOp a.eval ⟨dst,.call ⟨.value f,args,ats⟩,type,pos,after,none⟩).run P w=.ok (.enter fid ⟨vf++args.toList.map a.eval++vc⟩) w:=by
   simp only [execOp,resolve,hv,Deferred.ofValue,Sem.run_bind,Sem.run_pure,Result.andThen_ok,invoke,callFunc,run_program,hfn,hname,hb,Bool.false_eq_true,if_false]
   congr 2
   apply Array.ext'; simp
  simp only [Oper.wp,hrun,Oper.upon]
  exact (call_wpG hfr m hc h4 hd hK).mono fun e w' ⟨v,he,h⟩=>by subst he; exact h⟩
theorem FR.reRow {Γ:Ctx P W0 nt} {w:World} {C:Nat→Nat} {a:Act} (h:FR Γ w C σ a) (s:Nat) {v:Value} {xs ys:List D} {k e:Nat} (hs:σ.H s=some (.row v xs k e)) (hl:xs.length=ys.length) (hk:∀ y∈ys,y.cells.length=k) (hle:LeL (flat xs) (flat ys)) :
  FR Γ w C (σ.setH s (some (.row v ys k e))) a:=by
 have ho:=h.heap.obj s _ hs
 have hux:∀ b,(HObj.row v ys k e).uses b→(HObj.row v xs k e).uses b:=fun b hb=>hb
 refine h.setH (Ft:=fun b=>(HObj.row v xs k e).uses b) (.refl _ _ _) (fun b hb=>h.heap.foot s _ b hs hb) (fun s' o b hn h1 h2=>h.heap.inj s' s o _ b hn h1 hs h2) fun x hx=>?_
 cases hx
 refine ⟨?_,fun b hb=>?_⟩
 ·obtain ⟨ad,cap,e1,e2,e3,e4,e5,e6⟩:=ho
  refine ⟨ad,cap,by rw [← hl]; exact e1,by rw [← hl]; exact e2,e3,hk,e5,fun hc=>?_⟩
  obtain ⟨b,vs,f1,f2,f3,f4,f5⟩:=e6 hc;refine ⟨b,vs,f1,f2,f3,f4,fun j d hj=>?_⟩;obtain ⟨d0,g1,g2⟩:=(LeL.get hle).2 j d hj;obtain ⟨u,g3,g4,g5⟩:=f5 j d0 g1;exact ⟨u,g3,g2.le _ _ _ g4,g5⟩
 exact ⟨h.heap.foot s _ b hs (hux b hb),.inl (hux b hb)⟩
theorem Tri.rowLe {Γ:Ctx P W0 nt} {K:DExit→DSt→Prop} {c:Code} (s:Nat) {v:Value} {xs ys:List D} {k e:Nat} (hs:σ.H s=some (.row v xs k e)) (hl:xs.length=ys.length) (hk:∀ y∈ys,y.cells.length=k) (hle:LeL (flat xs) (flat ys))
  (h:Tri Γ c (σ.setH s (some (.row v ys k e))) K):Tri Γ c σ K:=⟨fun a w C hf=>h.run a w C (hf.reRow s hs hl hk hle)⟩
end
end Go.Tame

namespace Go.Tame
open Go Go.RowKit
variable {P:Program} {W0:World} {nt:Nat} {ops:Array Oper} {α:Type}
def atF (g:Nat→Bool) (l:List Edge) (i:Nat):Nat→Bool:=fun j=>_root_.cond (Nat.beq j i) false (setL g l j)
variable {P:Program} {W0:World} {nt:Nat}
theorem Tri.scope {Γ:Ctx P W0 nt} {σ:DSt} {K:DExit→DSt→Prop} {c:Code} (h:Tri Γ c σ K):Tri Γ (.scope c) σ K :=
 ⟨fun a w C hf=>wp_scope_straight (wp_mono (h.run a w C hf) fun e a' w' hh=>by
  obtain ⟨de,σ',C',he,hK,hF⟩:=hh;subst he
  cases de<;>exact ⟨_,σ',C',rfl,hK,hF⟩)⟩
variable {P:Program} {W0:World} {nt:Nat} {ops:Array Oper} {α:Type}
def depB (ops:Array Oper) (j k:Nat):Bool:=match ops.toList[j]? with
 | some o=>o.after.toList.any fun e=>Region.binds .any e&&Nat.beq e.on k
 | none=>false
def Ideal (ops:Array Oper) (f:Nat→Bool):Prop:=∀ j k,depB ops j k=true→f j=true→f k=true
theorem Ideal.no {f:Nat→Bool} (h:Ideal ops f) (j k:Nat) (hd:depB ops j k=true) (hk:f k=false):f j=false:=by
 cases hj:f j with
 | false=>rfl
 | true=>rw [h j k hd hj] at hk; cases hk
theorem Ideal.n {ops:Array Oper} {f:Nat→Bool} (h:Ideal ops f) (j k:Nat) (hk:f k=false:=by rfl) (hd:depB ops j k=true:=by rfl):f j=false:=h.no j k hd hk
theorem Ideal.o {ops:Array Oper} {F:Nat→Bool} (h:Ideal ops F) (f:Nat→Bool) (j k:Nat) (hk:F k=false:=by rfl) (hd:depB ops j k=true:=by rfl) (e:f j=F j:=by rfl):∃ g:Nat→Bool, f=fun i=>_root_.cond (Nat.beq i j) false (g i):=⟨f, funext fun i=>by cases hb:Nat.beq i j with|false=>rfl|true=>rw [Nat.eq_of_beq_eq_true hb]; exact e.trans (h.no j k hd hk)⟩
theorem Ideal.set {listed:Array Bool} (h:Ideal ops (bitsOf listed)) {i:Nat} {o:Oper} (hi:i<listed.size) (ho:ops[i]? = some o) (hpre:∀ e∈o.after.toList,Region.binds .any e=true→listed.getD e.on false=true):Ideal ops (bitsOf (listed.setIfInBounds i true)):=by
 intro j k hd hj;rw [bitsOf_set hi] at hj ⊢
 by_cases hk:k=i
 ·subst hk; simp [set1]
 have hk':Nat.beq k i=false:=by cases hb:Nat.beq k i with|false=>rfl|true=>exact absurd (beq_true hb) hk
 rw [show set1 (bitsOf listed) i k=bitsOf listed k by simp [set1,hk']]
 by_cases hji:j=i
 ·subst hji
  unfold depB at hd
  rw [show ops.toList[j]? = some o by simpa using ho] at hd;obtain ⟨e,he,hb⟩:=List.any_eq_true.1 hd;obtain ⟨hb1,hb2⟩:=Bool.and_eq_true_iff.1 hb
  have:=beq_true hb2; subst this
  exact hpre e he hb1
 have hj':Nat.beq j i=false:=by cases hb:Nat.beq j i with|false=>rfl|true=>exact absurd (beq_true hb) hji
 have e2:set1 (bitsOf listed) i j=bitsOf listed j:=by simp [set1,hj']
 rw [e2] at hj;exact h j k hd hj
def bitStepsI (P:Program) (W0:World) (nt:Nat) (ti:List TEnt) (all:Array Oper) (l:α→(Nat→Bool)→List (Nat×D)) (hs:α→(Nat→Bool)→List (Nat×HObj)):List Oper→Nat→Prop
 | [],_=>True
 | o::r,i=>(∀ x g,Ideal all (atF g o.after.toList i)→vstepX P W0 nt ti (St (l x (atF g o.after.toList i)) (hs x (atF g o.after.toList i))) o.dst o.op fun σ'=>∃ x',SubT σ' (l x' (set1 (atF g o.after.toList i) i))∧SubH σ' (hs x' (set1 (atF g o.after.toList i) i)))∧bitStepsI P W0 nt ti all l hs r (i+1)
theorem bitStepsI_get {ti:List TEnt} {all:Array Oper} {l:α→(Nat→Bool)→List (Nat×D)} {hs:α→(Nat→Bool)→List (Nat×HObj)} {r:List Oper}:∀ {n:Nat},bitStepsI P W0 nt ti all l hs r n→∀ {i:Nat} {o:Oper},r[i]? = some o →
  ∀ x f,Ideal all (atF f o.after.toList (n+i))→vstepX P W0 nt ti (St (l x (atF f o.after.toList (n+i))) (hs x (atF f o.after.toList (n+i)))) o.dst o.op fun σ'=>∃ x',SubT σ' (l x' (set1 (atF f o.after.toList (n+i)) (n+i)))∧SubH σ' (hs x' (set1 (atF f o.after.toList (n+i)) (n+i))):=by
 induction r with
 | nil=>intro n _ i o h; simp at h
 | cons x r ih =>
  intro n h i o ho y f
  cases i with
  | zero=>simp at ho; subst ho; exact h.1 y f
  | succ i =>
   have:=ih h.2 (i:=i) (o:=o) (by simpa using ho) y f
   rw [show n+1+i=n+(i+1) by omega] at this;exact this
theorem wpAny_of_bitsI {ti:List TEnt} (hT:TOk P ti) {Γ:Ctx P W0 nt} {Q:DSt→Prop} {Q':Exit→Act→World→Prop} (hQ:∀ σ a w C,FR Γ w C σ a→Q σ→Q' .normal a w)
  (hp:plainB nt ops.toList 0=true)
  (l:α→(Nat→Bool)→List (Nat×D)) (hs:α→(Nat→Bool)→List (Nat×HObj)) (last:∀ x f,(∀ i,i<ops.size→f i=true)→Q (St (l x f) (hs x f))) (step:bitStepsI P W0 nt ti ops l hs ops.toList 0) :
  ∀ (n:Nat) (x:α) (listed:Array Bool) (a:Act) (w:World) (C:Nat→Nat),listed.size=ops.size→listed.toList.count false=n→FR Γ w C (St (l x (bitsOf listed)) (hs x (bitsOf listed))) a→Ideal ops (bitsOf listed)→wpAny P .any ops Q' n listed a w
 | 0,x,listed,a,w,C,hsz,hc,hf,hI=>by
  have hall:∀ i,i<ops.size→bitsOf listed i=true:=fun i hi=>by
   have hlt:i<listed.size:=by omega
   have:=List.count_eq_zero.1 hc
   cases hb:listed[i] with
   | true=>simp [bitsOf,hlt,hb]
   | false=>exact absurd (by rw [← hb]; simp [Array.getElem_mem]) this
  refine ⟨?_,hQ _ _ _ _ hf (last _ _ hall)⟩
  cases hr:Region.ready .any ops listed with
  | nil=>rfl
  | cons i r =>
   obtain ⟨o,ho,hi,h1,_⟩:=ready_mem (hr ▸ List.mem_cons_self:i∈Region.ready .any ops listed)
   have h2:=hall i hi
   have hlt:i<listed.size:=by omega
   simp only [bitsOf,Array.getD,hlt,dif_pos] at h1 h2
   rw [h1] at h2; cases h2
 | n+1,x,listed,a,w,C,hsz,hc,hf,hI=>by
  have hpos:0<listed.toList.count false:=by omega
  have hmem:=List.count_pos_iff.1 hpos
  obtain ⟨i,hi,hb⟩:=List.getElem_of_mem hmem
  have hi':i<listed.size:=by simpa using hi
  have hne:Region.ready .any ops listed≠[]:=ready_first hp hsz i i rfl (by omega) (by simp only [Array.getD,hi',dif_pos]; simpa using hb)
  refine ⟨fun e=>absurd e hne,fun i hi=>?_⟩;obtain ⟨o,ho,hilt,hli,hpre⟩:=ready_mem hi;obtain ⟨hg,hd,_⟩:=plainB_get hp (i:=i) (o:=o) (by simpa using ho)
  have hq:=bitStepsI_get step (i:=i) (o:=o) (by simpa using ho) x (bitsOf listed)
  rw [Nat.zero_add] at hq
  have hat:atF (bitsOf listed) o.after.toList i=bitsOf listed:=by
   funext j
   simp only [atF];rw [setL_id (f:=bitsOf listed) fun e he hb=>hpre e he hb]
   cases hb:Nat.beq j i with
   | true =>
    have:=beq_true hb; subst this
    have hlt:j<listed.size:=by omega
    simp only [bitsOf,Array.getD,hlt,dif_pos] at hli ⊢
    simpa using hli.symm
   | false=>rfl
  rw [hat] at hq
  have hq:=hq hI
  unfold wpOp
  simp only [ho];rw [if_pos (by simp [Region.wanted,hg])];refine .inl (Oper.wp_mono (fun a' w' hh=>?_) (vstepX_sound hT hf hg hd hq Q'));obtain ⟨σ',C',⟨x',h1,h2⟩,h3⟩:=hh
  have hilt':i<listed.size:=by omega
  rw [← bitsOf_set hilt'] at h1 h2;refine wpAny_of_bitsI hT hQ hp l hs last step n x' _ a' w' C' (by simpa using hsz) ?_ (h3.weaken h1 h2) (hI.set hilt' ho hpre)
  have hb:listed[i]=false:=by simpa [Array.getD,hilt'] using hli
  have e1:(listed.setIfInBounds i true).toList=listed.toList.set i true:=by simp
  rw [e1]
  have e2:(listed.toList.set i true).count false+1=listed.toList.count false:=by
   have:=List.count_set (l:=listed.toList) (i:=i) (a:=true) (b:=false) (by simpa using hilt')
   have h3:listed.toList[i]'(by simpa using hilt')=false:=by simpa using hb
   have h5:(if (listed.toList[i]'(by simpa using hilt'))==false then 1 else 0)=1:=by rw [h3]; rfl
   have h6:(if (true==false)=true then 1 else 0)=0:=rfl
   have h7:0<listed.toList.count false:=List.count_pos_iff.2 (by rw [← h3]; exact List.getElem_mem _)
   omega
  omega
theorem Tri.bitsI {ti:List TEnt} (hT:TOk P ti) {Γ:Ctx P W0 nt} {id:Nat} {σ:DSt} {K:DExit→DSt→Prop} (hm:P.follows .mixedOrders=true)
  (l:α→(Nat→Bool)→List (Nat×D)) (hs:α→(Nat→Bool)→List (Nat×HObj)) (hp:plainB nt ops.toList 0=true) (x0:α)
  (h1:SubT σ (l x0 fun _=>false)) (h2:SubH σ (hs x0 fun _=>false)) (step:bitStepsI P W0 nt ti ops l hs ops.toList 0)
  (last:∀ x f,(∀ i,i<ops.size→f i=true)→K .normal (St (l x f) (hs x f))) :
  Tri Γ (.region id ops true) σ K :=
 ⟨fun a w C hf=>wp_region_any hm (by
  have e:bitsOf (Array.replicate ops.size false)=fun _=>false:=by
   funext i
   simp only [bitsOf,Array.getD]
   split<;>simp
  exact wpAny_of_bitsI hT (Γ:=Γ) (Q:=K .normal) (fun σ a w C hF hK=>⟨.normal,σ,C,rfl,hK,hF⟩) hp l hs last step _ x0 _ _ _ C (by simp) (by simp) (by rw [e]; exact hf.drew.weaken h1 h2) (by rw [e]; exact fun j k _ h=>by cases h))⟩
def plainG (nt:Nat):List Oper→Nat→Bool
 | [],_=>true
 | o::r,i=>okDst nt o.dst&&(o.after.toList.all fun e=>!Region.binds .any e||Nat.blt e.on i)&&plainG nt r (i+1)
theorem plainG_get {l:List Oper}:∀ {n:Nat},plainG nt l n=true→∀ {i:Nat} {o:Oper},l[i]? = some o→okDst nt o.dst=true∧∀ e∈o.after.toList,Region.binds .any e=true→e.on<n+i:=by
 induction l with
 | nil=>intro n _ i o h; simp at h
 | cons x r ih =>
  intro n h i o ho;simp only [plainG,Bool.and_eq_true] at h;obtain ⟨⟨h2,h3⟩,h4⟩:=h
  cases i with
  | zero =>
   simp at ho; subst ho
   refine ⟨h2,fun e he hb=>?_⟩
   have:=List.all_eq_true.1 h3 e he
   rw [hb] at this
   have:=by simpa using this
   omega
  | succ i =>
   have:=ih h4 (i:=i) (o:=o) (by simpa using ho)
   refine ⟨this.1,fun e he hb=>?_⟩
   have:=this.2 e he hb
   omega
def SubHF (σ:DSt) (H:Heap):Prop:=∀ k o,H k=some o→σ.H k=some o
theorem SubHF.of {σ:DSt} {hs:List (Nat×HObj)} (h:SubH σ hs):SubHF σ (look hs):=fun k o ho=>h.look k o ho
def stepG (P:Program) (W0:World) (nt:Nat) (ti:List TEnt) (ops:Array Oper) (σ:DSt) (o:Oper) (K:DSt→Prop):Prop :=
 (match o.guard with
  | none=>True
  | some (j,want)=>∃ g,(ops[j]?).bind (·.dst)=some g∧σ.t g=.bool want)∧(vstep P W0 ti σ o.dst o.op K∨XOp P W0 nt σ o.dst o.op K)
theorem ready_firstG {listed:Array Bool} (hp:plainG nt ops.toList 0=true) (hsz:listed.size=ops.size) :
  ∀ (n i:Nat),n=i→i<ops.size→listed.getD i true=false→Region.ready .any ops listed≠[]:=by
 intro n
 induction n using Nat.strongRecOn with
 | _ n ih =>
  intro i hn hi hl;subst hn
  have ho:ops[n]? = some ops[n]:=Array.getElem?_eq_getElem hi
  have hpl:=plainG_get hp (i:=n) (o:=ops[n]) (by simpa using ho)
  by_cases hr:∀ e∈ops[n].after.toList,Region.binds Region.Mode.any e=true→listed.getD e.on false=true
  ·intro he
   have:n∈Region.ready Region.Mode.any ops listed:=by
    simp only [Region.ready,List.mem_filter,List.mem_range,Bool.and_eq_true,Bool.not_eq_true'];refine ⟨hi,hl,?_⟩;rw [ho];simp only [Option.map_some,Option.getD_some]
    refine Array.all_eq_true'.2 fun e he=>?_
    have:=hr e (by simpa using he)
    cases hb:Region.binds Region.Mode.any e with
    | true=>simpa using this hb
    | false=>simp
   rw [he] at this; cases this
  simp only [Classical.not_forall] at hr;obtain ⟨e,he,hb,hne⟩:=hr
  have hlt:=hpl.2 e he hb
  simp only [Nat.zero_add] at hlt;refine ih e.on hlt e.on rfl (by omega) ?_
  have hlt':e.on<listed.size:=by omega
  simp only [Array.getD,hlt',dif_pos] at hne ⊢
  simpa using hne
def bitStepsG (P:Program) (W0:World) (nt:Nat) (ti:List TEnt) (all:Array Oper) (l:α→(Nat→Bool)→List (Nat×D)) (hs:α→(Nat→Bool)→Heap):List Oper→Nat→Prop
 | [],_=>True
 | o::r,i=>(∀ x g,Ideal all (atF g o.after.toList i)→stepG P W0 nt ti all (StG (l x (atF g o.after.toList i)) (hs x (atF g o.after.toList i))) o fun σ'=>∃ x',SubT σ' (l x' (set1 (atF g o.after.toList i) i))∧SubHF σ' (hs x' (set1 (atF g o.after.toList i) i)))∧bitStepsG P W0 nt ti all l hs r (i+1)
theorem bitStepsG_get {ti:List TEnt} {all:Array Oper} {l:α→(Nat→Bool)→List (Nat×D)} {hs:α→(Nat→Bool)→Heap} {r:List Oper}:∀ {n:Nat},bitStepsG P W0 nt ti all l hs r n→∀ {i:Nat} {o:Oper},r[i]? = some o →
  ∀ x f,Ideal all (atF f o.after.toList (n+i))→stepG P W0 nt ti all (StG (l x (atF f o.after.toList (n+i))) (hs x (atF f o.after.toList (n+i)))) o fun σ'=>∃ x',SubT σ' (l x' (set1 (atF f o.after.toList (n+i)) (n+i)))∧SubHF σ' (hs x' (set1 (atF f o.after.toList (n+i)) (n+i))):=by
 induction r with
 | nil=>intro n _ i o h; simp at h
 | cons x r ih =>
  intro n h i o ho y f
  cases i with
  | zero=>simp at ho; subst ho; exact h.1 y f
  | succ i =>
   have:=ih h.2 (i:=i) (o:=o) (by simpa using ho) y f
   rw [show n+1+i=n+(i+1) by omega] at this;exact this
theorem wpAny_of_bitsG {ti:List TEnt} (hT:TOk P ti) {Γ:Ctx P W0 nt} {Q:DSt→Prop} {Q':Exit→Act→World→Prop} (hQ:∀ σ a w C,FR Γ w C σ a→Q σ→Q' .normal a w)
  (hp:plainG nt ops.toList 0=true)
  (l:α→(Nat→Bool)→List (Nat×D)) (hs:α→(Nat→Bool)→Heap) (last:∀ x f,(∀ i,i<ops.size→f i=true)→Q (StG (l x f) (hs x f))) (step:bitStepsG P W0 nt ti ops l hs ops.toList 0) :
  ∀ (n:Nat) (x:α) (listed:Array Bool) (a:Act) (w:World) (C:Nat→Nat),listed.size=ops.size→listed.toList.count false=n→FR Γ w C (StG (l x (bitsOf listed)) (hs x (bitsOf listed))) a→Ideal ops (bitsOf listed)→wpAny P .any ops Q' n listed a w
 | 0,x,listed,a,w,C,hsz,hc,hf,hI=>by
  have hall:∀ i,i<ops.size→bitsOf listed i=true:=fun i hi=>by
   have hlt:i<listed.size:=by omega
   have:=List.count_eq_zero.1 hc
   cases hb:listed[i] with
   | true=>simp [bitsOf,hlt,hb]
   | false=>exact absurd (by rw [← hb]; simp [Array.getElem_mem]) this
  refine ⟨?_,hQ _ _ _ _ hf (last _ _ hall)⟩
  cases hr:Region.ready .any ops listed with
  | nil=>rfl
  | cons i r =>
   obtain ⟨o,ho,hi,h1,_⟩:=ready_mem (hr ▸ List.mem_cons_self:i∈Region.ready .any ops listed)
   have h2:=hall i hi
   have hlt:i<listed.size:=by omega
   simp only [bitsOf,Array.getD,hlt,dif_pos] at h1 h2
   rw [h1] at h2; cases h2
 | n+1,x,listed,a,w,C,hsz,hc,hf,hI=>by
  have hpos:0<listed.toList.count false:=by omega
  have hmem:=List.count_pos_iff.1 hpos
  obtain ⟨i,hi,hb⟩:=List.getElem_of_mem hmem
  have hi':i<listed.size:=by simpa using hi
  have hne:Region.ready .any ops listed≠[]:=ready_firstG hp hsz i i rfl (by omega) (by simp only [Array.getD,hi',dif_pos]; simpa using hb)
  refine ⟨fun e=>absurd e hne,fun i hi=>?_⟩;obtain ⟨o,ho,hilt,hli,hpre⟩:=ready_mem hi;obtain ⟨hd,_⟩:=plainG_get hp (i:=i) (o:=o) (by simpa using ho)
  have hq:=bitStepsG_get step (i:=i) (o:=o) (by simpa using ho) x (bitsOf listed)
  rw [Nat.zero_add] at hq
  have hat:atF (bitsOf listed) o.after.toList i=bitsOf listed:=by
   funext j
   simp only [atF];rw [setL_id (f:=bitsOf listed) fun e he hb=>hpre e he hb]
   cases hb:Nat.beq j i with
   | true =>
    have:=beq_true hb; subst this
    have hlt:j<listed.size:=by omega
    simp only [bitsOf,Array.getD,hlt,dif_pos] at hli ⊢
    simpa using hli.symm
   | false=>rfl
  rw [hat] at hq
  have hq:=hq hI
  unfold wpOp
  simp only [ho];obtain ⟨hg,hq⟩:=hq
  have hw:Region.wanted o (yielded ops a.tmps)=true:=by
   cases hgo:o.guard with
   | none=>simp [Region.wanted,hgo]
   | some jw =>
    obtain ⟨j,want⟩:=jw;rw [hgo] at hg;obtain ⟨g,h1,h2⟩:=hg
    have tv:=hf.tmps g
    rw [h2] at tv
    have hy:=yielded_bool h1 tv.bool_inv
    simp [Region.wanted,hgo,hy]
  rw [if_pos hw]
  have hwp:o.wp P a w (fun a' w'=>∃ σ' C',(∃ x',SubT σ' (l x' (set1 (bitsOf listed) i))∧SubHF σ' (hs x' (set1 (bitsOf listed) i)))∧FR Γ w' C' σ' a') Q':=by
   rcases hq with hq|hq
   ·exact vstep_sound hT hf hd hq Q'
   obtain ⟨dst,op,type,pos,after,guard⟩:=o;exact hq.run Γ w C a hf hd type pos after Q'
  refine .inl (Oper.wp_mono (fun a' w' hh=>?_) hwp);obtain ⟨σ',C',⟨x',h1,h2⟩,h3⟩:=hh
  have hilt':i<listed.size:=by omega
  rw [← bitsOf_set hilt'] at h1 h2;refine wpAny_of_bitsG hT hQ hp l hs last step n x' _ a' w' C' (by simpa using hsz) ?_ (h3.weakenG (.same h1 h2)) (hI.set hilt' ho hpre)
  have hb:listed[i]=false:=by simpa [Array.getD,hilt'] using hli
  have e1:(listed.setIfInBounds i true).toList=listed.toList.set i true:=by simp
  rw [e1]
  have e2:(listed.toList.set i true).count false+1=listed.toList.count false:=by
   have:=List.count_set (l:=listed.toList) (i:=i) (a:=true) (b:=false) (by simpa using hilt')
   have h3:listed.toList[i]'(by simpa using hilt')=false:=by simpa using hb
   have h5:(if (listed.toList[i]'(by simpa using hilt'))==false then 1 else 0)=1:=by rw [h3]; rfl
   have h6:(if (true==false)=true then 1 else 0)=0:=rfl
   have h7:0<listed.toList.count false:=List.count_pos_iff.2 (by rw [← h3]; exact List.getElem_mem _)
   omega
  omega
theorem Tri.bitsG {ti:List TEnt} (hT:TOk P ti) {Γ:Ctx P W0 nt} {id:Nat} {σ:DSt} {K:DExit→DSt→Prop} (hm:P.follows .mixedOrders=true)
  (l:α→(Nat→Bool)→List (Nat×D)) (hs:α→(Nat→Bool)→Heap) (hp:plainG nt ops.toList 0=true) (x0:α)
  (h1:SubT σ (l x0 fun _=>false)) (h2:SubHF σ (hs x0 fun _=>false)) (step:bitStepsG P W0 nt ti ops l hs ops.toList 0)
  (last:∀ x f,(∀ i,i<ops.size→f i=true)→K .normal (StG (l x f) (hs x f))) :
  Tri Γ (.region id ops true) σ K :=
 ⟨fun a w C hf=>wp_region_any hm (by
  have e:bitsOf (Array.replicate ops.size false)=fun _=>false:=by
   funext i
   simp only [bitsOf,Array.getD]
   split<;>simp
  exact wpAny_of_bitsG hT (Γ:=Γ) (Q:=K .normal) (fun σ a w C hF hK=>⟨.normal,σ,C,rfl,hK,hF⟩) hp l hs last step _ x0 _ _ _ C (by simp) (by simp) (by rw [e]; exact hf.drew.weakenG (.same h1 h2)) (by rw [e]; exact fun j k _ h=>by cases h))⟩
def stepU (P:Program) (W0:World) (nt:Nat) (ti:List TEnt) (ops:Array Oper) (σ:DSt) (o:Oper) (K:DSt→Prop):Prop :=
 match o.guard with
 | none=>vstep P W0 ti σ o.dst o.op K∨XOp P W0 nt σ o.dst o.op K
 | some (j,want)=>∃ g b,(ops[j]?).bind (·.dst)=some g∧σ.t g=.bool b∧((b=want∧(vstep P W0 ti σ o.dst o.op K∨XOp P W0 nt σ o.dst o.op K))∨(b=!want∧K (σ.put o.dst .undef)))
def bitStepsU (P:Program) (W0:World) (nt:Nat) (ti:List TEnt) (all:Array Oper) (l:α→(Nat→Bool)→List (Nat×D)) (hs:α→(Nat→Bool)→Heap):List Oper→Nat→Prop
 | [],_=>True
 | o::r,i=>(∀ x g,Ideal all (atF g o.after.toList i)→stepU P W0 nt ti all (StG (l x (atF g o.after.toList i)) (hs x (atF g o.after.toList i))) o fun σ'=>∃ x',SubT σ' (l x' (set1 (atF g o.after.toList i) i))∧SubHF σ' (hs x' (set1 (atF g o.after.toList i) i)))∧bitStepsU P W0 nt ti all l hs r (i+1)
theorem bitStepsU_get {ti:List TEnt} {all:Array Oper} {l:α→(Nat→Bool)→List (Nat×D)} {hs:α→(Nat→Bool)→Heap} {r:List Oper}:∀ {n:Nat},bitStepsU P W0 nt ti all l hs r n→∀ {i:Nat} {o:Oper},r[i]? = some o →
  ∀ x f,Ideal all (atF f o.after.toList (n+i))→stepU P W0 nt ti all (StG (l x (atF f o.after.toList (n+i))) (hs x (atF f o.after.toList (n+i)))) o fun σ'=>∃ x',SubT σ' (l x' (set1 (atF f o.after.toList (n+i)) (n+i)))∧SubHF σ' (hs x' (set1 (atF f o.after.toList (n+i)) (n+i))):=by
 induction r with
 | nil=>intro n _ i o h; simp at h
 | cons x r ih =>
  intro n h i o ho y f
  cases i with
  | zero=>simp at ho; subst ho; exact h.1 y f
  | succ i =>
   have:=ih h.2 (i:=i) (o:=o) (by simpa using ho) y f
   rw [show n+1+i=n+(i+1) by omega] at this;exact this
theorem wpAny_of_bitsU {ti:List TEnt} (hT:TOk P ti) {Γ:Ctx P W0 nt} {Q:DSt→Prop} {Q':Exit→Act→World→Prop} (hQ:∀ σ a w C,FR Γ w C σ a→Q σ→Q' .normal a w)
  (hp:plainG nt ops.toList 0=true)
  (l:α→(Nat→Bool)→List (Nat×D)) (hs:α→(Nat→Bool)→Heap) (last:∀ x f,(∀ i,i<ops.size→f i=true)→Q (StG (l x f) (hs x f))) (step:bitStepsU P W0 nt ti ops l hs ops.toList 0) :
  ∀ (n:Nat) (x:α) (listed:Array Bool) (a:Act) (w:World) (C:Nat→Nat),listed.size=ops.size→listed.toList.count false=n→FR Γ w C (StG (l x (bitsOf listed)) (hs x (bitsOf listed))) a→Ideal ops (bitsOf listed)→wpAny P .any ops Q' n listed a w
 | 0,x,listed,a,w,C,hsz,hc,hf,hI=>by
  have hall:∀ i,i<ops.size→bitsOf listed i=true:=fun i hi=>by
   have hlt:i<listed.size:=by omega
   have:=List.count_eq_zero.1 hc
   cases hb:listed[i] with
   | true=>simp [bitsOf,hlt,hb]
   | false=>exact absurd (by rw [← hb]; simp [Array.getElem_mem]) this
  refine ⟨?_,hQ _ _ _ _ hf (last _ _ hall)⟩
  cases hr:Region.ready .any ops listed with
  | nil=>rfl
  | cons i r =>
   obtain ⟨o,ho,hi,h1,_⟩:=ready_mem (hr ▸ List.mem_cons_self:i∈Region.ready .any ops listed)
   have h2:=hall i hi
   have hlt:i<listed.size:=by omega
   simp only [bitsOf,Array.getD,hlt,dif_pos] at h1 h2
   rw [h1] at h2; cases h2
 | n+1,x,listed,a,w,C,hsz,hc,hf,hI=>by
  have hpos:0<listed.toList.count false:=by omega
  have hmem:=List.count_pos_iff.1 hpos
  obtain ⟨i,hi,hb⟩:=List.getElem_of_mem hmem
  have hi':i<listed.size:=by simpa using hi
  have hne:Region.ready .any ops listed≠[]:=ready_firstG hp hsz i i rfl (by omega) (by simp only [Array.getD,hi',dif_pos]; simpa using hb)
  refine ⟨fun e=>absurd e hne,fun i hi=>?_⟩;obtain ⟨o,ho,hilt,hli,hpre⟩:=ready_mem hi;obtain ⟨hd,_⟩:=plainG_get hp (i:=i) (o:=o) (by simpa using ho)
  have hq:=bitStepsU_get step (i:=i) (o:=o) (by simpa using ho) x (bitsOf listed)
  rw [Nat.zero_add] at hq
  have hat:atF (bitsOf listed) o.after.toList i=bitsOf listed:=by
   funext j
   simp only [atF];rw [setL_id (f:=bitsOf listed) fun e he hb=>hpre e he hb]
   cases hb:Nat.beq j i with
   | true =>
    have:=beq_true hb; subst this
    have hlt:j<listed.size:=by omega
    simp only [bitsOf,Array.getD,hlt,dif_pos] at hli ⊢
    simpa using hli.symm
   | false=>rfl
  rw [hat] at hq
  have hq:=hq hI
  unfold wpOp
  simp only [ho]
  have hilt':i<listed.size:=by omega
  have hcnt:(listed.setIfInBounds i true).toList.count false=n:=by
   have hb:listed[i]=false:=by simpa [Array.getD,hilt'] using hli
   have e1:(listed.setIfInBounds i true).toList=listed.toList.set i true:=by simp
   rw [e1]
   have e2:(listed.toList.set i true).count false+1=listed.toList.count false:=by
    have:=List.count_set (l:=listed.toList) (i:=i) (a:=true) (b:=false) (by simpa using hilt')
    have h3:listed.toList[i]'(by simpa using hilt')=false:=by simpa using hb
    have h5:(if (listed.toList[i]'(by simpa using hilt'))==false then 1 else 0)=1:=by rw [h3]; rfl
    have h6:(if (true==false)=true then 1 else 0)=0:=rfl
    have h7:0<listed.toList.count false:=List.count_pos_iff.2 (by rw [← h3]; exact List.getElem_mem _)
    omega
   omega
  have next:∀ (σ':DSt) (a':Act) (w':World) (C':Nat→Nat),(∃ x',SubT σ' (l x' (set1 (bitsOf listed) i))∧SubHF σ' (hs x' (set1 (bitsOf listed) i)))→FR Γ w' C' σ' a'→wpAny P .any ops Q' n (listed.setIfInBounds i true) a' w':=by
   rintro σ' a' w' C' ⟨x',h1,h2⟩ h3;rw [← bitsOf_set hilt'] at h1 h2;exact wpAny_of_bitsU hT hQ hp l hs last step n x' _ a' w' C' (by simpa using hsz) hcnt (h3.weakenG (.same h1 h2)) (hI.set hilt' ho hpre)
  have act:(vstep P W0 ti (StG (l x (bitsOf listed)) (hs x (bitsOf listed))) o.dst o.op (fun σ'=>∃ x',SubT σ' (l x' (set1 (bitsOf listed) i))∧SubHF σ' (hs x' (set1 (bitsOf listed) i)))∨XOp P W0 nt (StG (l x (bitsOf listed)) (hs x (bitsOf listed))) o.dst o.op (fun σ'=>∃ x',SubT σ' (l x' (set1 (bitsOf listed) i))∧SubHF σ' (hs x' (set1 (bitsOf listed) i)))) →
    (o.guard=none∨∃ j want,o.guard=some (j,want))→o.wp P a w (fun a' w'=>wpAny P .any ops Q' n (listed.setIfInBounds i true) a' w') Q':=by
   intro hq _
   have hwp:o.wp P a w (fun a' w'=>∃ σ' C',(∃ x',SubT σ' (l x' (set1 (bitsOf listed) i))∧SubHF σ' (hs x' (set1 (bitsOf listed) i)))∧FR Γ w' C' σ' a') Q':=by
    rcases hq with hq|hq
    ·exact vstep_sound hT hf hd hq Q'
    obtain ⟨dst,op,type,pos,after,guard⟩:=o;exact hq.run Γ w C a hf hd type pos after Q'
   exact Oper.wp_mono (fun a' w' ⟨σ',C',h1,h2⟩=>next σ' a' w' C' h1 h2) hwp
  unfold stepU at hq
  cases hgo:o.guard with
  | none =>
   rw [hgo] at hq;rw [if_pos (by simp [Region.wanted,hgo])];exact .inl (act hq (.inl hgo))
  | some jw =>
   obtain ⟨j,want⟩:=jw;rw [hgo] at hq;obtain ⟨g,b,h1,h2,hq⟩:=hq
   have tv:=hf.tmps g
   rw [h2] at tv
   have hy:=yielded_bool h1 tv.bool_inv
   rcases hq with ⟨rfl,hq⟩|⟨rfl,hq⟩
   ·rw [if_pos (by simp [Region.wanted,hgo,hy])];exact .inl (act hq (.inr ⟨_,_,hgo⟩))
   rw [if_neg (by cases want<;>simp [Region.wanted,hgo,hy])]
   exact next _ _ _ _ hq (hf.put hd .undef)
theorem Tri.bitsU {ti:List TEnt} (hT:TOk P ti) {Γ:Ctx P W0 nt} {id:Nat} {σ:DSt} {K:DExit→DSt→Prop} (hm:P.follows .mixedOrders=true)
  (l:α→(Nat→Bool)→List (Nat×D)) (hs:α→(Nat→Bool)→Heap) (hp:plainG nt ops.toList 0=true) (x0:α)
  (h1:SubT σ (l x0 fun _=>false)) (h2:SubHF σ (hs x0 fun _=>false)) (step:bitStepsU P W0 nt ti ops l hs ops.toList 0)
  (last:∀ x f,(∀ i,i<ops.size→f i=true)→K .normal (StG (l x f) (hs x f))) :
  Tri Γ (.region id ops true) σ K :=
 ⟨fun a w C hf=>wp_region_any hm (by
  have e:bitsOf (Array.replicate ops.size false)=fun _=>false:=by
   funext i
   simp only [bitsOf,Array.getD]
   split<;>simp
  exact wpAny_of_bitsU hT (Γ:=Γ) (Q:=K .normal) (fun σ a w C hF hK=>⟨.normal,σ,C,rfl,hK,hF⟩) hp l hs last step _ x0 _ _ _ C (by simp) (by simp) (by rw [e]; exact hf.drew.weakenG (.same h1 h2)) (by rw [e]; exact fun j k _ h=>by cases h))⟩
end Go.Tame


namespace Go.Tame
open Go Go.RowKit
variable {P:Program} {W0:World} {nt:Nat} {σ:DSt} {dst:Option Tmp} {K:DSt→Prop} {ti:List TEnt}
def ins (xs:List D) (i:Nat) (zs:List D):List D:=xs.take i++zs++xs.drop (i+zs.length)
theorem Tri.rowKnow0 {Γ:Ctx P W0 nt} {c:Code} {K:DExit→DSt→Prop} (s:Nat) {v:Value} {xs:List D} {k e:Nat} (hs:σ.H s=some (.row v xs k e))
  (h:∀ a cap,v=.slice a xs.length cap→xs.length≤cap→cap≤maxLen→Tri Γ c σ K):Tri Γ c σ K :=
 ⟨fun a w C hf=>by
  obtain ⟨a',cap,hv,hc,hm,_⟩:=hf.heap.obj s _ hs
  exact (h a' cap hv hc hm).run a w C hf⟩
variable {P:Program} {W0:World}
def D.flatB:D→Bool
 | .int ..|.bool _|.str _=>true
 | _=>false
theorem Rep.moveB {w w':World} {C C':Nat→Nat} {d:D} {u:Value} (hd:d.flatB=true) (h:Rep w C d u):Rep w' C' d u:=by
 cases h<;>first|exact .int _ _|exact .bool _|exact .str _|(simp [D.flatB] at hd)
theorem Rep.moveT {w w':World} {C C':Nat→Nat} {ds:List D} {u:Value} (hd:∀ d∈ds,d.flatB=true) (h:Rep w C (.tup ds) u):Rep w' C' (.tup ds) u:=by
 cases h with
 | tup _ vs hl h=>exact .tup _ vs hl fun i d v h1 h2=>(h i d v h1 h2).moveB (hd d (List.mem_of_getElem? h1))
theorem DCall.borrow {f:FuncId} {s k e:Nat} {v:Value} {xs ds:List D} {d:D} (hp:∀ (w w':World) (C C':Nat→Nat) (u:Value),Rep w C d u→Rep w' C' d u)
  (hf:DFun P W0 f (.sl .none k xs::ds) d) :
  DCall P W0 f (.raw v::ds) (look [(s,.row v xs k e)]) fun d' H'=>d'=d∧H'=look [(s,.row v xs k e)]:=by
 refine ⟨hf.1,fun w C args Ft hb hlow hH hargs=>?_⟩
 have hs:(look [(s,HObj.row v xs k e)]) s=some (.row v xs k e):=by simp only [look,Nat.beq_refl,cond_true]
 have hro:=hH.obj s _ hs
 obtain ⟨a',cap,hv,hc,hm,hk,hbl,hw⟩:=hro
 obtain ⟨u0,us,rfl⟩:∃ u0 us,args=u0::us:=by
  cases args with
  | nil=>have:=hargs.1; simp at this
  | cons a b=>exact ⟨a,b,rfl⟩
 have hu0:u0=v:=(hargs.2 0 (.raw v) u0 rfl rfl).raw_inv
 subst hu0
 obtain ⟨C1,hext,hrow⟩:∃ C1,Ext w C w C1∧Rep w C1 (.sl .none k xs) u0:=by
  by_cases h0:0<cap
  ·obtain ⟨b,vs,rfl,hbb,hsz,hC,hr⟩:=hw h0
   have hext:Ext w C w (upd C b (xs.length*k)):=⟨Nat.le_refl _,fun x _=>upd_le C b _ (by omega) x,fun _ _ _ _=>rfl⟩
   refine ⟨_,hext,?_⟩
   have:=rep_row (w:=w) (C:=upd C b (xs.length*k)) (tg:=.none) (k:=k) (xs:=xs) (vs:=vs.toList) (b:=b) (e:=e) (fz:=(0,0)) (cap:=cap) hbb hk hc hm (by rw [upd_same]; exact Nat.le_refl _)
    (fun j d hd=>by obtain ⟨u,h1,h2,h3⟩:=hr j d hd; exact ⟨u,by simpa using h1,h2.ext hext,h3⟩) trivial
   rw [hv]; exact this
  have hx:xs=[]:=List.eq_nil_of_length_eq_zero (by omega)
  subst hx
  have hcap:cap=0:=by omega
  subst hcap;refine ⟨C,.refl _ _,?_⟩
  cases a' with
  | none=>rw [hv]; exact .sl0 _ _ none trivial
  | some ad =>
   obtain ⟨b,hadb,hlt⟩:=hbl ad rfl;rw [hv,hadb]
   first|exact .sl0 _ _ _ trivial|exact .sl .none k [] b 0 0 (fun _=>undef) trivial hlt (Nat.le_refl _) (Nat.zero_le _) (by simp) (by simp) (fun j d h=>by simp [flat] at h) (fun j d h=>by simp [flat] at h) (fun j d h=>by simp [flat] at h)
 have hargs1:RepL w C1 (.sl .none k xs::ds) (u0::us):=by
  refine ⟨by have:=hargs.1; simpa using this,fun i d v h1 h2=>?_⟩
  cases i with
  | zero =>
   simp at h1 h2; subst h1; subst h2
   exact hrow
  | succ i=>exact (hargs.2 (i+1) d v h1 h2).ext hext
 refine (hf.2 w C1 (u0::us) hb hargs1).mono fun ex w' ⟨v,C',he,hr,hst⟩=>?_
 have hheap:∀ x,x<w.heap.size→w'.heap[x]? = w.heap[x]?:=fun x hx=>(hst.keep x hx (fun h=>h)).1
 have hext2:Ext w C w' (fun x=>if x<w.heap.size then C x else C' x) :=
  ⟨hst.ext.size,fun x hx=>by simp only [hx,if_true]; exact Nat.le_refl _,fun x o hx ho=>by simp only [World.cell?,hheap x hx]⟩
 refine ⟨v,d,fun x=>if x<w.heap.size then C x else C' x,look [(s,.row u0 xs k e)],he,⟨rfl,rfl⟩,hp _ _ _ _ _ hr,⟨hext2,hst.os,hst.tape,hst.output,fun x hx _=>⟨hheap x hx,by simp only [hx,if_true]⟩⟩,?_⟩;refine ⟨fun j o ho=>(hH.obj j o ho).keep hext2 fun x hx=>?_,fun j j' o o' x hne h1 h2 hu hu'=>hH.inj j j' o o' x hne h1 h2 hu hu',fun j o x ho hu=>.inl (hH.foot j o x ho hu)⟩
 have hxl:x<w.heap.size:=by
  have hjo:o=.row u0 xs k e:=by
   simp only [look] at ho
   cases hb:Nat.beq j s with
   | true=>rw [hb] at ho; simpa using ho.symm
   | false=>rw [hb] at ho; simp at ho
  subst hjo;obtain ⟨n,cap',h3,h4⟩:=hx;rw [hv] at h3
  injection h3 with h3 h5 h6
  obtain ⟨b,hadb,hlt⟩:=hbl _ h3
  injection hadb with hadb
  omega
 exact ⟨hheap x hxl,by simp only [hxl,if_true]⟩
theorem DCall.sub {f:FuncId} {ds:List D} {H:Heap} {Q Q':D→Heap→Prop} (h:DCall P W0 f ds H Q) (hq:∀ d H',Q d H'→∃ H1,(∀ j o,H1 j=some o→H' j=some o)∧Q' d H1):DCall P W0 f ds H Q' :=
 ⟨h.1,fun w C args Ft hb hlow hH hargs=>(h.2 w C args Ft hb hlow hH hargs).mono fun ex w' ⟨v,d,C',H',he,hQ,hr,hst,hr'⟩=>by
  obtain ⟨H1,hs,hQ'⟩:=hq d H' hQ
  exact ⟨v,d,C',H1,he,hQ',hr,hst,⟨fun j o ho=>hr'.obj j o (hs j o ho),fun j j' o o' x hne h1 h2=>hr'.inj j j' o o' x hne (hs j o h1) (hs j' o' h2),fun j o x ho=>hr'.foot j o x (hs j o ho)⟩⟩⟩
variable {P:Program} {W0:World} {nt:Nat} {σ:DSt} {dst:Option Tmp} {K:DSt→Prop} {ti:List TEnt}
theorem XOp.rowAppendNone (hT:TOk P ti) {t el k e:Nat} {x y:Operand} (q:Nat) {v:Value} {xs ys:List D} {k2:Nat} {tg:Tag} {te ee:TEnt} (ht:tget ti t=some te) (hks:te.kind=.slice el) (hel:tget ti el=some ee)
  (hx:σ.ev x=.raw v) (hH:σ.H q=some (.row v xs k e)) (hy:σ.ev y=.sl tg k2 ys) (h0:ys=[]) (hK:K (σ.put dst (.raw v))):XOp P W0 nt σ dst (.call ⟨.builtin .append,#[x,y],#[t,t]⟩) K :=
 .val fun Γ w C a hf type pos after=>by
  subst h0;obtain ⟨heo,rfl⟩:=hT.get ht;obtain ⟨heeo,rfl⟩:=hT.get hel
  have hu:=heo.u_slice hks
  obtain ⟨i,hi,hsz,hby,hzz⟩:=heeo.info
  have hvx:=act_ev hf.tmps x; rw [hx] at hvx
  have hvy:=act_ev hf.tmps y; rw [hy] at hvy
  obtain ⟨a',cap,hvv,hc,_⟩:=hf.heap.obj q _ hH
  have hs:Src P i.size te.t (a.eval y) 0 [] w:=by
   rcases hvy.sl_inv with ⟨_,⟨a0,hv⟩,_⟩|⟨b,o,cap',g,hv,_⟩
   ·rw [hv]
    cases a0 with
    | none=>exact Src.ofNil w hu _
    | some ad=>exact Src.ofSlice w hu ad 0 _ [] (by simp) (fun j u h=>by simp at h) (fun u h=>by simp at h)
   rw [hv]; exact Src.ofSlice w hu _ 0 _ [] (by simp) (fun j u h=>by simp at h) (fun u h=>by simp at h)
  have hrun:=run_append_nothing (P:=P) w te.t te.t type ee.t i hu hi a' xs.length cap hc (a.eval y) hs
  rw [← hvv,← hvx.raw_inv] at hrun
  refine ⟨a.eval x,w,C,σ,_,?_,hf,by rw [hvx.raw_inv]; exact .raw _,hK⟩
  simp [execOp,resolve,invoke,builtin,hrun]
theorem DCall.rowShape {f:FuncId} {ds:List D} {H:Heap} {s k e:Nat} {xs:List D} (h:DCall P W0 f ds H fun d H'=>∃ v,d=.raw v∧H'=look [(s,.row v xs k e)]) :
  DCall P W0 f ds H fun d H'=>∃ a m c,m=xs.length∧d=.raw (.slice a m c)∧H'=look [(s,.row (.slice a m c) xs k e)] :=
 ⟨h.1,fun w C args Ft hb hlow hH hargs=>(h.2 w C args Ft hb hlow hH hargs).mono fun ex w' ⟨v,d,C',H',he,⟨v',hd,hH'⟩,hr,hst,hr'⟩=>by
  have hs:H' s=some (.row v' xs k e):=by rw [hH']; simp only [look,Nat.beq_refl,cond_true]
  obtain ⟨a',cap,hv,_⟩:=hr'.obj s _ hs
  exact ⟨v,d,C',H',he,⟨a',_,cap,rfl,by rw [hd,hv],by rw [hH',hv]⟩,hr,hst,hr'⟩⟩
variable {P:Program} {W0:World} {nt:Nat}
def vlistH (P:Program) (W0:World) (ti:List TEnt) (nt:Nat) (ops:Array Oper):List Oper→DSt→(DSt→Prop)→Prop
 | [],σ,K=>K σ
 | ⟨dst,op,_,_,_,guard⟩::rest,σ,K=>okDst nt dst=true∧(match guard with
  | none=>(vstep P W0 ti σ dst op fun σ'=>vlistH P W0 ti nt ops rest σ' K)∨XOp P W0 nt σ dst op fun σ'=>vlistH P W0 ti nt ops rest σ' K
  | some (j,want)=>∃ g b,(ops[j]?).bind (·.dst)=some g∧σ.t g=.bool b ∧
   ((b=want∧((vstep P W0 ti σ dst op fun σ'=>vlistH P W0 ti nt ops rest σ' K)∨XOp P W0 nt σ dst op fun σ'=>vlistH P W0 ti nt ops rest σ' K))∨(b=!want∧vlistH P W0 ti nt ops rest (σ.put dst .undef) K)))
theorem vlistH_seq {ti:List TEnt} (hT:TOk P ti) {Γ:Ctx P W0 nt} {ops:Array Oper} {Q:Exit→Act→World→Prop} {K:DSt→Prop} (hQ:∀ σ' a' w' C',K σ'→FR Γ w' C' σ' a'→Q .normal a' w') :
  ∀ {l:List Oper} {σ:DSt} (_:vlistH P W0 ti nt ops l σ K) {a:Act} {w:World} {C:Nat→Nat} (_:FR Γ w C σ a),wpList P ops Q l a w
 | [],_,hq,_,_,_,hf=>hQ _ _ _ _ hq hf
 | o::rest,σ,hq,a,w,C,hf=>by
  obtain ⟨hd,hq⟩:=hq
  have next:∀ a' w',(∃ σ' C',vlistH P W0 ti nt ops rest σ' K∧FR Γ w' C' σ' a')→wpList P ops Q rest a' w':=fun a' w' ⟨σ',C',h1,h2⟩=>vlistH_seq hT hQ h1 h2
  have act:((vstep P W0 ti σ o.dst o.op fun σ'=>vlistH P W0 ti nt ops rest σ' K)∨XOp P W0 nt σ o.dst o.op fun σ'=>vlistH P W0 ti nt ops rest σ' K)→o.wp P a w (fun a' w'=>wpList P ops Q rest a' w') Q:=fun hq=>by
   rcases hq with hq|hq
   ·exact Oper.wp_mono next (vstep_sound hT hf hd hq Q)
   obtain ⟨dst,op,type,pos,after,guard⟩:=o;exact Oper.wp_mono next (hq.run Γ w C a hf hd type pos after Q)
  unfold wpList
  cases hgo:o.guard with
  | none =>
   rw [hgo] at hq;rw [if_pos (by simp [Region.wanted,hgo])];exact .inl (act hq)
  | some jw =>
   obtain ⟨j,want⟩:=jw;rw [hgo] at hq;obtain ⟨g,b,h1,h2,hq⟩:=hq
   have tv:=hf.tmps g
   rw [h2] at tv
   have hy:=yielded_bool h1 tv.bool_inv
   rcases hq with ⟨rfl,hq⟩|⟨rfl,hq⟩
   ·rw [if_pos (by simp [Region.wanted,hgo,hy])];exact .inl (act hq)
   rw [if_neg (by cases want<;>simp [Region.wanted,hgo,hy])]
   exact next _ _ ⟨_,_,hq,hf.put hd .undef⟩
theorem Tri.regionH {ti:List TEnt} (hT:TOk P ti) {Γ:Ctx P W0 nt} {id:Nat} {ops:Array Oper} {σ:DSt} {K:DExit→DSt→Prop} (hq:vlistH P W0 ti nt ops ops.toList σ (K .normal)):Tri Γ (.region id ops false) σ K :=
 ⟨fun _ _ _ hf=>wp_region_list (vlistH_seq hT (fun σ' _ _ C' hK hF=>⟨.normal,σ',C',rfl,hK,hF⟩) hq hf)⟩
theorem XOp.pickT {σ:DSt} {dst:Option Tmp} {K:DSt→Prop} {c a b:Operand} {g:Bool} (hc:σ.ev c=.bool g) (hg:g=true) (hK:K (σ.put dst (σ.ev a))):XOp P W0 nt σ dst (.pick c a b) K :=
 .val fun Γ w C x hf type pos after=>by
  subst hg
  have hv:=act_ev hf.tmps c; rw [hc] at hv
  exact ⟨_,w,C,σ,_,by simp [execOp,hv.bool_inv,asBool],hf,act_ev hf.tmps a,hK⟩
theorem XOp.pickF {σ:DSt} {dst:Option Tmp} {K:DSt→Prop} {c a b:Operand} {g:Bool} (hc:σ.ev c=.bool g) (hg:g=false) (hK:K (σ.put dst (σ.ev b))):XOp P W0 nt σ dst (.pick c a b) K :=
 .val fun Γ w C x hf type pos after=>by
  subst hg
  have hv:=act_ev hf.tmps c; rw [hc] at hv
  exact ⟨_,w,C,σ,_,by simp [execOp,hv.bool_inv,asBool],hf,act_ev hf.tmps b,hK⟩
theorem XOp.makeRowS {σ:DSt} {K:DSt→Prop} {ti:List TEnt} (hT:TOk P ti) {t:Nat} {l c:Operand} {el n:Nat} {k1 k2:IntKind} {te ee:TEnt} {z:D} {s:Nat} (ht:tget ti t=some te) (hks:te.kind=.slice el) (hel:tget ti el=some ee) (hz:ee.zero=some [z]) (hone:z.one=true)
  (hl:σ.ev l=.int k1 n) (hc:σ.ev c=.int k2 n) (hb:ee.bytes*n≤281474976710656) (hn:n≤9223372036854775807)
  (hK:∀ b,K ((σ.setH s (some (.row (.slice (some ⟨b,0,none⟩) n n) (List.replicate n z) 1 el))).put (some s) (.raw (.slice (some ⟨b,0,none⟩) n n)))):XOp P W0 nt σ (some s) (.makeSlice t l c) K :=
 .val fun Γ w C a hf type pos after=>by
  obtain ⟨heo,rfl⟩:=hT.get ht;obtain ⟨heeo,rfl⟩:=hT.get hel
  have hvl:=act_ev hf.tmps l; rw [hl] at hvl
  have hvc:=act_ev hf.tmps c; rw [hc] at hvc
  obtain ⟨zv,hzr,hzl,hrun⟩:=run_makeN heo heeo hks w k1 k2 n n (Nat.le_refl _) hb hn hz
  have hzc:∃ u,zv.cells=#[u]:=by
   have h1:=(hzr w C).1
   generalize zv.cells=cs at h1 ⊢;obtain ⟨l⟩:=cs
   match l,h1 with
   | [u],_=>exact ⟨u,rfl⟩
  obtain ⟨u,hu⟩:=hzc
  have hrep:∀ w C,Rep w C z u:=fun w C=>by have:=(hzr w C).2 0 z u rfl (by rw [hu]; rfl); exact this
  have hou:=((hrep w C).one_cells hone).2
  have hsz:ee.sz=1:=by rw [← hzl]; rfl
  rw [hu,hsz,Nat.mul_one] at hrun;refine ⟨_,_,_,_,_,?_,hf.newObj s (ob:=.row (.slice (some ⟨w.heap.size,0,none⟩) n n) (List.replicate n z) 1 ee.t) (o:=.cells (madeCells #[u] n) ee.t) ?_ ?_,.raw _,hK _⟩
  ·simp only [execOp,hvl.int_inv,hvc.int_inv,Sem.run_bind,hrun,Result.andThen_ok,Sem.run_pure]
  ·have h1:∀ x∈List.replicate n z,x.cells=[x]:=fun x hx=>by rw [List.eq_of_mem_replicate hx]; exact D.one_cells hone
   refine ⟨_,n,by simp,by simp,by simp only [maxLen]; omega,fun x hx=>by rw [h1 x hx]; rfl,fun ad had=>⟨_,by cases had; rfl,lt_of_heap (heap_alloc_new' w _)⟩,fun _=>⟨w.heap.size,_,rfl,heap_alloc_new' w _,by simp [size_madeCells],upd_same _ _ _,fun j d hd=>?_⟩⟩
   have hfl:=flat_replicate hone n
   rw [hfl] at hd
   have hj:j<n:=by have:=lt_of_get hd; simpa using this
   have hdz:d=z:=by simp [hj] at hd; exact hd.symm
   subst hdz;refine ⟨u,?_,hrep _ _,hou⟩
   rw [← Array.getElem?_toList,toList_madeCells_one]; simp [hj]
  rintro b ⟨n',cap,h,_⟩; exact slice_uses h
variable {P:Program} {W0:World} {nt:Nat} {ti:List TEnt}
def withL (l:List (Nat×HObj)) (dyn:Heap):Heap:=fun s=>match look l s with|some o=>some o|none=>dyn s
theorem SubHF.ofL {σ:DSt} {l:List (Nat×HObj)} {dyn:Heap} (h:SubH σ l) (hd:∀ k o,dyn k=some o→σ.H k=some o):SubHF σ (withL l dyn):=fun k o ho=>by
 unfold withL at ho
 cases hl:look l k with
 | some o'=>rw [hl] at ho; cases ho; exact h.look k _ hl
 | none=>rw [hl] at ho; exact hd k o ho
theorem withL_none {l:List (Nat×HObj)} {dyn:Heap} {k:Nat} (h:look l k=none):withL l dyn k=dyn k:=by unfold withL; rw [h]
theorem look_none {α:Type}:∀ {l:List (Nat×α)} {k:Nat},(∀ p∈l,p.1≠k)→look l k=none
 | [],_,_=>rfl
 | (i,d)::r,k,h=>by
  have h1:=h (i,d) List.mem_cons_self
  simp only [look]
  cases hb:Nat.beq k i with
  | true=>exact absurd (beq_true hb).symm h1
  | false=>exact look_none fun p hp=>h p (List.mem_cons_of_mem _ hp)
section
variable {σ:DSt} {dst:Option Tmp} {K:DSt→Prop}
theorem XOp.rowLoadF (hT:TOk P ti) {t:Nat} {x:Operand} (s:Nat) {v:Value} {xs:List D} {k e i j:Nat} {te:TEnt} (hx:σ.ev x=.raw (rowPtr v (i*k+j))) (hs:σ.H s=some (.row v xs k e)) (ht:tget ti t=some te) {y:D}
  (hy:xs[i]? = some y) (hl:loadX te k j y fun d=>K (σ.put dst d)):XOp P W0 nt σ dst (.load t x) K :=
 .val fun Γ w C a hf type pos after=>by
  obtain ⟨heo,rfl⟩:=hT.get ht
  have hv:=act_ev hf.tmps x; rw [hx] at hv
  obtain ⟨b,cap,vs,rfl,_,_,hk,hb,hsz,_,hr⟩:=RowV.pos (hf.heap.obj s _ hs) (lt_of_get hy);obtain ⟨d,hK,hd⟩:=loadX_sound heo hl
  obtain ⟨u,hu,hru⟩:=hd w C b (0+i*k) (fun j=>vs.getD (i*k+j) undef) (hk y (List.mem_of_getElem? hy)) (fun j d hd=>by
   have hj:j<k:=by rw [← hk y (List.mem_of_getElem? hy)]; exact lt_of_get hd
   obtain ⟨u,h1,h2,_⟩:=hr (i*k+j) d (by rw [flat_get hk hy hj]; exact hd)
   refine ⟨?_,?_⟩
   ·simp only [World.cell?,hb,Nat.zero_add]
    simp [h1,Array.getD_eq_getD_getElem?]
   simp [Array.getD_eq_getD_getElem?,h1,h2])
  refine ⟨u,w,C,σ,d,?_,hf,hru,hK⟩;simp only [rowPtr] at hv
  have hv':a.eval x=.pointer (some ⟨b,0+i*k+j,none⟩):=by
   rw [hv.raw_inv,Nat.add_assoc]
  simp only [execOp,hv',Sem.run_bind,hu,Result.andThen_ok,Sem.run_pure]
theorem XOp.ownAppendQ (hT:TOk P ti) {t el s:Nat} {x y:Operand} (q q':Nat) {v:Value} {xs ys:List D} {tg:Tag} {te ee:TEnt} (ht:tget ti t=some te) (hks:te.kind=.slice el) (hel:tget ti el=some ee) (hz:ee.zero≠none)
  (hx:σ.ev x=.sl (.own q' v) ee.sz xs) (hH:σ.H q=some (.own v xs.length ee.sz el)) (hy:σ.ev y=.sl tg ee.sz ys) (hbytes:(xs.length+ys.length)*ee.bytes≤140737488355328) (h63:xs.length+ys.length≤9223372036854775807)
  (hK:∀ v':Value,K (((σ.setH q none).setH s (some (.own v' (xs.length+ys.length) ee.sz el))).put (some s) (.sl (.own s v') ee.sz (xs++ys)))):XOp P W0 nt σ (some s) (.call ⟨.builtin .append,#[x,y],#[t,t]⟩) K :=
 .val fun Γ w C a hf type pos after=>by
  obtain ⟨heo,rfl⟩:=hT.get ht;obtain ⟨heeo,rfl⟩:=hT.get hel
  have hvx:=act_ev hf.tmps x; rw [hx] at hvx
  have hvy:=act_ev hf.tmps y; rw [hy] at hvy
  have hval:a.eval x=v:=by
   rcases hvx.sl_inv with ⟨_,_,ht⟩|⟨b,o,cap,g,_,ht,_⟩
   ·exact ht
   exact ht
  obtain ⟨v',w',C',hrun,hrep,hf'⟩:=append_sound (a:=a) hf heo heeo hks hz hvx hvy hbytes h63 (q:=q) (dst:=s) (ty:=type) (.inr (by rw [hval]; exact hH))
  refine ⟨v',w',C',_,_,?_,hf',hrep,hK v'⟩
  simp [execOp,resolve,invoke,builtin,hrun]
end
set_option linter.unusedVariables false in
theorem LeL.app:∀ {a b c d:List D},LeL a b→LeL c d→LeL (a++c) (b++d)
 | [],[],_,_,_,h2=>h2
 | a0::ar,b0::br,c,d,h1,h2=>⟨h1.1,LeL.app (a:=ar) (b:=br) h1.2 h2⟩
theorem LeL.flat:∀ {xs ys:List D},xs.length=ys.length→(∀ (i:Nat) x y,xs[i]? = some x→ys[i]? = some y→LeL x.cells y.cells)→LeL (flat xs) (flat ys)
 | [],[],_,_=>trivial
 | x::xs,y::ys,hl,h=>LeL.app (h 0 x y rfl rfl) (LeL.flat (xs:=xs) (ys:=ys) (by simpa using hl) fun i a b ha hb=>h (i+1) a b ha hb)
variable {P:Program} {W0:World} {nt:Nat}
theorem Tri.endsK {Γ:Ctx P W0 nt} {σ:DSt} {K:DExit→DSt→Prop} {c:Code} (h:Tri Γ c σ fun e σ'=>∃ l hs m,SubK σ' l hs m∧K e (St l hs)):Tri Γ c σ K :=
 ⟨fun a w C hf=>wp_mono (h.run a w C hf) fun _ _ _ ⟨de,_,C',he,⟨_,_,_,hk,hK⟩,hF⟩=>⟨de,_,C',he,hK,hF.weakenK hk⟩⟩
theorem onAll (f:Nat→Bool) (n:Nat) (h:∀ i,i<n→f i=true):∃ g:Nat→Bool,f=fun j=>_root_.cond (Nat.blt j n) true (g j) :=
 ⟨f,funext fun j=>by
  cases hb:Nat.blt j n with
  | false=>rfl
  | true=>exact h j (by simpa using hb)⟩
theorem onAt (f:Nat→Bool) (k:Nat) (h:f k=true):∃ g:Nat→Bool,f=fun j=>_root_.cond (Nat.beq j k) true (g j) :=
 ⟨f,funext fun j=>by cases hb:Nat.beq j k with|false=>rfl|true=>rw [beq_true hb]; exact h⟩
theorem offAt (f:Nat→Bool) (k:Nat) (h:f k=false):∃ g:Nat→Bool,f=fun j=>_root_.cond (Nat.beq j k) false (g j) :=
 ⟨f,funext fun j=>by cases hb:Nat.beq j k with|false=>rfl|true=>rw [beq_true hb]; exact h⟩
def HandL (H:Heap):List (Nat×Nat)→List (Nat×HObj)→Prop
 | [],[]=>True
 | (k,s)::m,(k',o)::hs=>k=k'∧H s=some o∧HandL H m hs
 | _,_=>False
theorem handL_look {H:Heap}:∀ {m:List (Nat×Nat)} {hs:List (Nat×HObj)},HandL H m hs→∀ j,handed H m j=look hs j
 | [],[],_,j=>rfl
 | (k,s)::m,(k',o)::hs,h,j=>by
  obtain ⟨rfl,h1,h2⟩:=h
  have ih:=handL_look h2 j
  simp only [handed,look] at ih ⊢
  cases Nat.beq j k with
  | true=>exact h1
  | false=>exact ih
theorem DCall.heapL {f:FuncId} {ds:List D} {Q:D→Heap→Prop} {H:Heap} {m:List (Nat×Nat)} {hs:List (Nat×HObj)} (h:HandL H m hs) (hc:DCall P W0 f ds (look hs) Q):DCall P W0 f ds (handed H m) Q:=by
 rw [show handed H m=look hs from funext (handL_look h)]; exact hc
theorem handed_at {H:Heap}:∀ {m:List (Nat×Nat)},keysOk m=true→∀ p∈m,handed H m p.1=H p.2
 | (k,s)::r,hm,p,hp=>by
  rw [keysOk,Bool.and_eq_true] at hm;simp only [handed]
  rcases List.mem_cons.1 hp with rfl|hp
  ·simp
  have h1:=List.all_eq_true.1 hm.1 p hp
  rw [Bool.and_eq_true] at h1
  have h2:Nat.beq p.1 k=false:=by simpa using h1.1
  rw [h2];exact handed_at hm.2 p hp
theorem back_same {H H':Heap}:∀ {m:List (Nat×Nat)},(∀ p∈m,H' p.1=H p.2)→back H H' m=H
 | [],_=>rfl
 | (k,s)::r,h=>by
  funext j
  simp only [back]
  cases hb:Nat.beq j s with
  | true=>rw [beq_true hb]; exact h (k,s) List.mem_cons_self
  | false=>exact congrFun (back_same fun p hp=>h p (List.mem_cons_of_mem _ hp)) j
theorem XOp.callSame {σ:DSt} {dst:Option Tmp} {K:DSt→Prop} {f:Operand} {args:Array Operand} {ats:Array TypeId} {fid:FuncId} {first caps:List D} (hf:σ.ev f=.fn (.func fid) first caps)
  (as0':List D) (m:List (Nat×Nat)) {hs:List (Nat×HObj)} {d0:D} (h:HandL σ.H m hs) (hc:DCall P W0 fid as0' (look hs) fun d H'=>d=d0∧H'=look hs) (hm:keysOk m=true) (hle:LeL (first++args.toList.map σ.ev++caps) as0')
  {d':D} (hd:DLe d0 d') (hK:K (σ.put dst d')):XOp P W0 nt σ dst (.call ⟨.value f,args,ats⟩) K :=
 XOp.call hf as0' m (DCall.heapL h hc) hm hle fun d H' hq=>by
  obtain ⟨rfl,rfl⟩:=hq;refine ⟨d',hd,?_⟩
  have e:look hs=handed σ.H m:=(funext (handL_look h)).symm
  rw [show back σ.H (look hs) m=σ.H from back_same fun p hp=>by rw [e]; exact handed_at hm p hp]
  exact hK
theorem XOp.ins {σ:DSt} {dst:Option Tmp} {K:DSt→Prop} {t:TypeId} {m x y:Operand} (h:XOp P W0 nt σ dst (.mapUpdate t m x y) K):XOp P W0 nt σ dst (.insert t m x y) K :=
 ⟨fun Γ w C a hf hd type pos after Q=>h.1 Γ w C a hf hd type pos after Q⟩
def NoneL (H:Heap):List (Nat×Nat)→Prop
 | []=>True
 | (_,s)::m=>H s=none∧NoneL H m
theorem noneL_look {H:Heap}:∀ {m:List (Nat×Nat)},NoneL H m→∀ j,handed H m j=none
 | [],_,j=>rfl
 | (k,s)::m,h,j=>by
  have ih:=noneL_look h.2 j
  simp only [handed]
  cases Nat.beq j k with
  | true=>exact h.1
  | false=>exact ih
theorem DCall.noneL {f:FuncId} {ds:List D} {Q:D→Heap→Prop} {H:Heap} {m:List (Nat×Nat)} (h:NoneL H m) (hc:DCall P W0 f ds Heap.none Q):DCall P W0 f ds (handed H m) Q:=by
 rw [show handed H m=Heap.none from funext (noneL_look h)]; exact hc
variable {P:Program} {W0:World} {nt:Nat} {σ:DSt} {dst:Option Tmp} {K:DSt→Prop} {ti:List TEnt}
theorem XOp.buildArr12 {t e:TypeId} {p0 p1 p2 p3 p4 p5 p6 p7 p8 p9 p10 p11:Operand} {i:TypeInfo} {q:IntKind} {a0 a1 a2 a3 a4 a5 a6 a7 a8 a9 a10 a11:Int} (hu:P.underlying t=some (.array 12 e)) (hi:P.info? e=some i) (hsz:i.size=1)
  (hz:∀ w,(zeroValue t).run P w=.ok (.agg #[.int q 0,.int q 0,.int q 0,.int q 0,.int q 0,.int q 0,.int q 0,.int q 0,.int q 0,.int q 0,.int q 0,.int q 0]) w) (h0:σ.ev p0=.int q a0) (h1:σ.ev p1=.int q a1) (h2:σ.ev p2=.int q a2) (h3:σ.ev p3=.int q a3) (h4:σ.ev p4=.int q a4) (h5:σ.ev p5=.int q a5) (h6:σ.ev p6=.int q a6) (h7:σ.ev p7=.int q a7) (h8:σ.ev p8=.int q a8) (h9:σ.ev p9=.int q a9) (h10:σ.ev p10=.int q a10) (h11:σ.ev p11=.int q a11)
  (hK:K (σ.put dst (.agg [.int q a0,.int q a1,.int q a2,.int q a3,.int q a4,.int q a5,.int q a6,.int q a7,.int q a8,.int q a9,.int q a10,.int q a11]))):XOp P W0 nt σ dst (.build t #[(0,p0),(1,p1),(2,p2),(3,p3),(4,p4),(5,p5),(6,p6),(7,p7),(8,p8),(9,p9),(10,p10),(11,p11)]) K :=
 .val fun Γ w C a hf type pos after=>by
  have v0:=act_ev hf.tmps p0; rw [h0] at v0
  have v1:=act_ev hf.tmps p1; rw [h1] at v1
  have v2:=act_ev hf.tmps p2; rw [h2] at v2
  have v3:=act_ev hf.tmps p3; rw [h3] at v3
  have v4:=act_ev hf.tmps p4; rw [h4] at v4
  have v5:=act_ev hf.tmps p5; rw [h5] at v5
  have v6:=act_ev hf.tmps p6; rw [h6] at v6
  have v7:=act_ev hf.tmps p7; rw [h7] at v7
  have v8:=act_ev hf.tmps p8; rw [h8] at v8
  have v9:=act_ev hf.tmps p9; rw [h9] at v9
  have v10:=act_ev hf.tmps p10; rw [h10] at v10
  have v11:=act_ev hf.tmps p11; rw [h11] at v11
  refine ⟨.agg #[.int q a0,.int q a1,.int q a2,.int q a3,.int q a4,.int q a5,.int q a6,.int q a7,.int q a8,.int q a9,.int q a10,.int q a11],w,C,σ,_,?_,hf,.agg [.int q a0,.int q a1,.int q a2,.int q a3,.int q a4,.int q a5,.int q a6,.int q a7,.int q a8,.int q a9,.int q a10,.int q a11] [.int q a0,.int q a1,.int q a2,.int q a3,.int q a4,.int q a5,.int q a6,.int q a7,.int q a8,.int q a9,.int q a10,.int q a11] rfl (fun j d v hd hv=>?_),hK⟩
  ·simp [execOp,v0.int_inv,v1.int_inv,v2.int_inv,v3.int_inv,v4.int_inv,v5.int_inv,v6.int_inv,v7.int_inv,v8.int_inv,v9.int_inv,v10.int_inv,v11.int_inv,Instr.build,hz,run_underlying hu,run_sizeOf hi,hsz,Result.andThen,Instr.fill,Value.cells]
  match j with
  | 0=>cases hd; cases hv; exact .int _ _
  | 1=>cases hd; cases hv; exact .int _ _
  | 2=>cases hd; cases hv; exact .int _ _
  | 3=>cases hd; cases hv; exact .int _ _
  | 4=>cases hd; cases hv; exact .int _ _
  | 5=>cases hd; cases hv; exact .int _ _
  | 6=>cases hd; cases hv; exact .int _ _
  | 7=>cases hd; cases hv; exact .int _ _
  | 8=>cases hd; cases hv; exact .int _ _
  | 9=>cases hd; cases hv; exact .int _ _
  | 10=>cases hd; cases hv; exact .int _ _
  | 11=>cases hd; cases hv; exact .int _ _
  | j+12=>simp at hd
theorem XOp.arrIndex {t el n:Nat} {x ix:Operand} {s b off:Nat} {ik:IntKind} {i:Int} {inf:TypeInfo} (hu:P.underlying t=some (.array n el)) (hi:P.info? el=some inf) (hx:σ.ev x=.box s b off) (hix:σ.ev ix=.int ik i)
  (h0:0≤i) (h1:i<n) (hK:K (σ.put dst (.box s b (off+i.toNat*inf.size)))):XOp P W0 nt σ dst (.indexAddr t x ix) K :=
 .val fun Γ w C a hf type pos after=>by
  have hv:=act_ev hf.tmps x; rw [hx] at hv
  have hvi:=act_ev hf.tmps ix; rw [hix] at hvi
  refine ⟨.pointer (some ⟨b,off+i.toNat*inf.size,none⟩),w,C,σ,_,?_,hf,.box _ _ _,hK⟩
  simp [execOp,Instr.indexAt,hv.box_inv,hvi.int_inv,asIntOf,run_underlying hu,Instr.sureAddr,h0,h1,run_sizeOf hi,addr_add]
theorem XOp.boxLoadAt (hT:TOk P ti) {t:Nat} {x:Operand} {s b off:Nat} {cs:List D} {d:D} {te:TEnt} (hx:σ.ev x=.box s b off) (hs:σ.H s=some (.box b cs)) (ht:tget ti t=some te) (ha:te.agg=false) (hc:cs[off]? = some d)
  (hK:K (σ.put dst d)):XOp P W0 nt σ dst (.load t x) K :=
 XOp.plain hT (by
  show opn true (σ.ev x) fun x=>loadD ti σ true t x fun d=>K (σ.put dst d)
  rw [hx]
  show loadD ti σ true t (.box s b off) fun d=>K (σ.put dst d)
  unfold loadD
  rw [ht];simp only [hs,partC,ha,hc]
  exact ⟨trivial,hK⟩)
end Go.Tame

namespace Go.Tame
open Go Go.RowKit Go.MapKept
variable {P:Program} {W0:World} {nt:Nat} {σ:DSt} {dst:Option Tmp} {K:DSt→Prop} {ti:List TEnt}
def keyD:TypeDesc→D→Bool
 | .string,.str _=>true
 | .int k,.int k' _=>kEq k k'
 | .bool,.bool _=>true
 | _,_=>false
def keyEq:D→D→Bool
 | .str a,.str b=>a==b
 | .int _ a,.int _ b=>a==b
 | .bool a,.bool b=>a==b
 | _,_=>false
def mget (kvs:List (D×D)) (k:D):Option D:=(kvs.find? fun x=>keyEq x.1 k).map (·.2)
def mset (kvs:List (D×D)) (k d:D):List (D×D) :=
 match mget kvs k with
 | some _=>kvs.map fun x=>if keyEq x.1 k then (x.1,d) else x
 | none=>kvs++[(k,d)]
theorem keyD_val {de:TypeDesc} {k:D} (h:keyD de k=true):∃ v,keyV k=some v∧IsKey de v:=by
 unfold keyD at h
 split at h
 ·exact ⟨_,rfl,trivial⟩
 ·exact ⟨_,rfl,(kEq_eq h).symm⟩
 ·exact ⟨_,rfl,trivial⟩
 cases h
theorem keyD_shape {de:TypeDesc} {k:D} (h:keyD de k=true):(de=.string∧∃ s,k=.str s)∨(∃ q n,de=.int q∧k=.int q n)∨(de=.bool∧∃ b,k=.bool b):=by
 unfold keyD at h
 split at h
 ·exact .inl ⟨rfl,_,rfl⟩
 ·have:=kEq_eq h; subst this; exact .inr (.inl ⟨_,_,rfl,rfl⟩)
 ·exact .inr (.inr ⟨rfl,_,rfl⟩)
 cases h
theorem keyEq_iff {de:TypeDesc} {k k':D} (h:keyD de k=true) (h':keyD de k'=true):keyEq k k'=true↔keyV k=keyV k':=by
 rcases keyD_shape h with ⟨rfl,s,rfl⟩|⟨q,n,rfl,rfl⟩|⟨rfl,s,rfl⟩<;>rcases keyD_shape h' with ⟨e,s',rfl⟩|⟨q',n',e,rfl⟩|⟨e,s',rfl⟩<;>first|(cases e; done)|skip
 ·simp [keyEq,keyV]
 ·cases e; simp [keyEq,keyV]
 simp [keyEq,keyV]
theorem keyV_rep {w:World} {C:Nat→Nat} {k:D} {v u:Value} (h:keyV k=some u) (hr:Rep w C k v):v=u:=by
 cases k<;>simp only [keyV] at h<;>first|(cases h; done)|(simp only [Option.some.injEq] at h; subst h)
 ·exact hr.bool_inv
 ·exact hr.int_inv
 exact hr.str_inv
theorem mget_some {kvs:List (D×D)} {k d:D} (h:mget kvs k=some d):∃ (i:Nat) (k':D),kvs[i]? = some (k',d)∧keyEq k' k=true:=by
 unfold mget at h
 cases hf:kvs.find? fun x=>keyEq x.1 k with
 | none=>rw [hf] at h; cases h
 | some x =>
  rw [hf] at h
  cases h
  obtain ⟨i,hi⟩:=List.mem_iff_getElem?.1 (List.mem_of_find?_eq_some hf)
  have:=List.find?_some hf
  exact ⟨i,x.1,hi,this⟩
theorem mget_none {kvs:List (D×D)} {k:D} (h:mget kvs k=none):∀ x∈kvs,keyEq x.1 k=false:=by
 unfold mget at h
 rw [Option.map_eq_none_iff,List.find?_eq_none] at h;intro x hx
 simpa using h x hx
theorem MapV.find {w:World} {C:Nat→Nat} {b:Nat} {kvs:List (D×D)} {de:TypeDesc} {k:D} {kv:Value} (hk:keyD de k=true) (hkv:keyV k=some kv) (hks:∀ x∈kvs,keyD de x.1=true)
  (h:MapV w C b kvs):∃ es clock,w.heap[b]? = some (.map es clock)∧C b=0∧es.size=kvs.length∧(∀ (i:Nat) k d e,kvs[i]? = some (k,d)→es[i]? = some e→keyV k=some e.key∧Rep w C d e.val) ∧
   (∀ (i j:Nat) k k' d d',kvs[i]? = some (k,d)→kvs[j]? = some (k',d')→keyV k=keyV k'→i=j) ∧
   ((mget kvs k=none∧Instr.findNow de kv es.toList 0=some none) ∨
    ∃ j k' d e,mget kvs k=some d∧kvs[j]? = some (k',d)∧keyV k'=some kv∧es[j]? = some e∧e.key=kv∧Instr.findNow de kv es.toList 0=some (some (j,e.val))∧Rep w C d e.val):=by
 obtain ⟨es,clock,hb,hC,hl,hn,hr⟩:=h;refine ⟨es,clock,hb,hC,hl,hr,hn,?_⟩
 have hik:IsKey de kv:=by obtain ⟨v,h1,h2⟩:=keyD_val hk; rw [hkv] at h1; cases h1; exact h2
 have hall:∀ x∈es.toList,IsKey de x.key:=fun x hx=>by
  obtain ⟨i,hi⟩:=List.mem_iff_getElem?.1 hx;rw [Array.getElem?_toList] at hi
  have hlt:i<kvs.length:=by rw [← hl]; exact (Array.getElem?_eq_some_iff.1 hi).1
  obtain ⟨h1,_⟩:=hr i kvs[i].1 kvs[i].2 x (by simp [hlt]) hi;obtain ⟨v,h2,h3⟩:=keyD_val (hks kvs[i] (List.getElem_mem hlt))
  rw [h1] at h2; cases h2; exact h3
 rcases findNow_spec hik es.toList 0 hall with ⟨h1,h2⟩|⟨j,e,h1,h2,h3⟩
 ·left
  refine ⟨?_,h1⟩
  cases hg:mget kvs k with
  | none=>rfl
  | some d =>
   exfalso
   obtain ⟨i,k',hi,he⟩:=mget_some hg
   have hlt:=(List.getElem?_eq_some_iff.1 hi).1
   have hie:es[i]? = some es[i]:=by simp [hl,hlt]
   obtain ⟨h4,_⟩:=hr i k' d _ hi hie;rw [keyEq_iff (hks _ (List.mem_of_getElem? hi)) hk,h4,hkv] at he;exact h2 _ (by simp) (Option.some.inj he)
 right
 rw [Nat.zero_add] at h1
 have hje:es[j]? = some e:=by rw [← Array.getElem?_toList]; exact h2
 have hlt:j<kvs.length:=by rw [← hl]; exact (Array.getElem?_eq_some_iff.1 hje).1
 have hj:kvs[j]? = some (kvs[j].1,kvs[j].2):=by simp [hlt]
 obtain ⟨h4,h5⟩:=hr j _ _ e hj hje;rw [h3] at h4
 cases hg:mget kvs k with
 | none =>
  exfalso
  have:=mget_none hg kvs[j] (List.getElem_mem hlt)
  rw [(keyEq_iff (hks _ (List.getElem_mem hlt)) hk).2 (by rw [h4,hkv])] at this
  cases this
 | some d =>
  obtain ⟨i,k',hi,he⟩:=mget_some hg;rw [keyEq_iff (hks _ (List.mem_of_getElem? hi)) hk,hkv] at he
  have hij:=hn i j k' _ d _ hi hj (by rw [he,h4])
  subst hij;rw [hi] at hj
  have e2:d=kvs[i].2:=by simpa using congrArg (fun x=>(x.map Prod.snd)) hj
  exact ⟨i,k',d,e,rfl,hi,he,hje,h3,h1,by rw [e2]; exact h5⟩
theorem XOp.mpMake {t:TypeId} {s:Nat} (hK:∀ b,K ((σ.setH s (some (.mp b []))).put (some s) (.raw (.map (some b))))):XOp P W0 nt σ (some s) (.makeMap t none) K :=
 .val fun Γ w C a hf type pos after=>by
  refine ⟨.map (some w.heap.size),_,_,_,_,?_,hf.newObj s (ob:=.mp w.heap.size []) (o:=.map #[] 0) ⟨#[],0,heap_alloc_new' w _,upd_same _ _ _,rfl,fun i j k k' d d' h=>by simp at h,fun i k d e h=>by simp at h⟩ (fun b hb=>hb),.raw _,hK _⟩
  simp [execOp,Instr.makeMap,Result.andThen]
theorem XOp.mpHit {t kt et:TypeId} {m x:Operand} {de:TypeDesc} {ok:Bool} (s:Nat) {b:Nat} {kvs:List (D×D)} {k d:D} (hm:P.underlying t=some (.map kt et)) (hd:P.underlying kt=some de)
  (hx:σ.ev m=.raw (.map (some b))) (hs:σ.H s=some (.mp b kvs)) (hq:σ.ev x=k) (hk:keyD de k=true) (hks:∀ x∈kvs,keyD de x.1=true) (hg:mget kvs k=some d)
  (hK:K (σ.put dst (if ok then .tup [d,.bool true] else d))):XOp P W0 nt σ dst (.lookup t m x ok) K :=
 .val fun Γ w C a hf type pos after=>by
  have hvm:=act_ev hf.tmps m; rw [hx] at hvm
  have hvx:=act_ev hf.tmps x; rw [hq] at hvx
  obtain ⟨kv,hkv,hik⟩:=keyD_val hk
  have hxv:=keyV_rep hkv hvx
  obtain ⟨es,clock,hb,hC,hl,hr,hn,hc⟩:=MapV.find hk hkv hks (hf.heap.obj s _ hs)
  rcases hc with ⟨h1,_⟩|⟨j,k',d',e,h1,h2,h3,h4,h5,h6,h7⟩
  ·rw [hg] at h1; cases h1
  rw [hg] at h1; cases h1
  refine ⟨if ok then .tuple #[e.val,.bool true] else e.val,w,C,σ,_,?_,hf,?_,hK⟩
  ·simp only [execOp,hvm.raw_inv,hxv,Instr.lookup,Sem.run_bind,run_underlying hm,Result.andThen,Go.MapKept.run_getObj_map hb,Sem.run_pure,run_checkKey hd hik,run_findKey hd h6]
  cases ok with
  | true=>exact .tup [d,.bool true] [e.val,.bool true] rfl (fun i q v hq hv=>by
    match i,hq,hv with
    | 0,hq,hv=>simp at hq hv; subst hq; subst hv; exact h7
    | 1,hq,hv=>simp at hq hv; subst hq; subst hv; exact .bool _
    | n+2,hq,hv=>simp at hq)
  | false=>exact h7
theorem XOp.mpMiss {t kt et:TypeId} {m x:Operand} {de:TypeDesc} {ok:Bool} (s:Nat) {b:Nat} {kvs:List (D×D)} {k z:D} {zv:Value} (hm:P.underlying t=some (.map kt et)) (hd:P.underlying kt=some de)
  (hx:σ.ev m=.raw (.map (some b))) (hs:σ.H s=some (.mp b kvs)) (hq:σ.ev x=k) (hk:keyD de k=true) (hks:∀ x∈kvs,keyD de x.1=true) (hg:mget kvs k=none)
  (hz:∀ w,(zeroValue et).run P w=.ok zv w) (hzr:∀ w C,Rep w C z zv)
  (hK:K (σ.put dst (if ok then .tup [z,.bool false] else z))):XOp P W0 nt σ dst (.lookup t m x ok) K :=
 .val fun Γ w C a hf type pos after=>by
  have hvm:=act_ev hf.tmps m; rw [hx] at hvm
  have hvx:=act_ev hf.tmps x; rw [hq] at hvx
  obtain ⟨kv,hkv,hik⟩:=keyD_val hk
  have hxv:=keyV_rep hkv hvx
  obtain ⟨es,clock,hb,hC,hl,hr,hn,hc⟩:=MapV.find hk hkv hks (hf.heap.obj s _ hs)
  rcases hc with ⟨_,h6⟩|⟨j,k',d',e,h1,_⟩
  ·refine ⟨if ok then .tuple #[zv,.bool false] else zv,w,C,σ,_,?_,hf,?_,hK⟩
   ·simp only [execOp,hvm.raw_inv,hxv,Instr.lookup,Sem.run_bind,run_underlying hm,Result.andThen,Go.MapKept.run_getObj_map hb,Sem.run_pure,run_checkKey hd hik,run_findKey hd h6,hz]
   cases ok with
   | true=>exact .tup [z,.bool false] [zv,.bool false] rfl (fun i q v hq hv=>by
     match i,hq,hv with
     | 0,hq,hv=>simp at hq hv; subst hq; subst hv; exact hzr _ _
     | 1,hq,hv=>simp at hq hv; subst hq; subst hv; exact .bool _
     | n+2,hq,hv=>simp at hq)
   | false=>exact hzr _ _
  rw [hg] at h1; cases h1
theorem XOp.mpPut {t kt et:TypeId} {m x y:Operand} {de:TypeDesc} (s:Nat) {b:Nat} {kvs:List (D×D)} {k:D} (hm:P.underlying t=some (.map kt et)) (hd:P.underlying kt=some de)
  (hx:σ.ev m=.raw (.map (some b))) (hs:σ.H s=some (.mp b kvs)) (hq:σ.ev x=k) (hk:keyD de k=true) (hks:∀ x∈kvs,keyD de x.1=true)
  (hK:K ((σ.setH s (some (.mp b (mset kvs k (σ.ev y))))).put dst .undef)):XOp P W0 nt σ dst (.mapUpdate t m x y) K :=
 .unit fun Γ w C a hf type pos after=>by
  have hvm:=act_ev hf.tmps m; rw [hx] at hvm
  have hvx:=act_ev hf.tmps x; rw [hq] at hvx
  have hvy:=act_ev hf.tmps y
  obtain ⟨kv,hkv,hik⟩:=keyD_val hk
  have hxv:=keyV_rep hkv hvx
  obtain ⟨es,clock,hb,hC,hl,hr,hn,hc⟩:=MapV.find hk hkv hks (hf.heap.obj s _ hs)
  have huse:HObj.uses (.mp b kvs) b:=rfl
  have fin:∀ es' clock',(∀ w',Ext w C w' C→∃ es2 clock2,Obj.map es' clock'=Obj.map es2 clock2∧es2.size=(mset kvs k (σ.ev y)).length∧(∀ (i j:Nat) k1 k2 d d',(mset kvs k (σ.ev y))[i]? = some (k1,d)→(mset kvs k (σ.ev y))[j]? = some (k2,d')→keyV k1=keyV k2→i=j) ∧
    ∀ (i:Nat) k1 d e,(mset kvs k (σ.ev y))[i]? = some (k1,d)→es2[i]? = some e→keyV k1=some e.key∧Rep w' C d e.val) →
    FR Γ { w with heap:=w.heap.setIfInBounds b (.map es' clock') } C (σ.setH s (some (.mp b (mset kvs k (σ.ev y))))) a:=fun es' clock' h1=>by
   have hst:=Step.setBlock (o':=.map es' clock') hb hC
   refine hf.setH hst (s:=s) (fun x hx=>by subst hx; exact hf.heap.foot s _ _ hs huse) (fun s' o' b' hne hs' hu hbb=>?_) fun z hz=>?_
   ·subst hbb; exact hf.heap.inj s' s o' _ b' hne hs' hs hu huse
   cases hz
   obtain ⟨es2,clock2,e1,h2,h3,h4⟩:=h1 _ hst.ext
   cases e1
   exact ⟨⟨es',clock',(heap_set hb).1,hC,h2,h3,h4⟩,fun x hx=>⟨by cases hx; exact hf.heap.foot s _ _ hs huse,.inl hx⟩⟩
  rcases hc with ⟨h1,h6⟩|⟨j,k',d',e,h1,h2,h3,h4,h5,h6,h7⟩
  ·have hms:mset kvs k (σ.ev y)=kvs++[(k,σ.ev y)]:=by rw [mset,h1]
   refine ⟨_,C,_,?_,fin (es.push ⟨kv,a.eval y,clock⟩) (clock+1) (fun w' he=>⟨_,_,rfl,?_,?_,?_⟩),hK⟩
   ·simp only [execOp,hvm.raw_inv,hxv,Instr.mapUpdate,Sem.run_bind,run_underlying hm,Result.andThen,Go.MapKept.run_getObj_map hb,Sem.run_pure,run_checkKey hd hik,run_findKey hd h6,run_setObj_map _ hb]
   ·rw [hms]; simp [hl]
   ·rw [hms];intro i i' k1 k2 d d' hi hi' hkk
    have hkey:∀ (i:Nat) k1 d,kvs[i]? = some (k1,d)→keyV k1≠some kv:=fun i k1 d hi e=>by
     have:=mget_none h1 _ (List.mem_of_getElem? hi)
     rw [(keyEq_iff (hks _ (List.mem_of_getElem? hi)) hk).2 (by rw [e,hkv])] at this
     cases this
    have split:∀ (i:Nat) k1 d,(kvs++[(k,σ.ev y)])[i]? = some (k1,d)→(i<kvs.length∧kvs[i]? = some (k1,d))∨(i=kvs.length∧k1=k):=fun i k1 d hi=>by
     rcases Nat.lt_or_ge i kvs.length with hlt|hge
     ·rw [List.getElem?_append_left hlt] at hi; exact .inl ⟨hlt,hi⟩
     rw [List.getElem?_append_right hge] at hi
     have:i-kvs.length=0:=by
      rcases Nat.eq_zero_or_pos (i-kvs.length) with h|h
      ·exact h
      rw [List.getElem?_eq_none (by simp; omega)] at hi; cases hi
     rw [this] at hi
     simp at hi
     exact .inr ⟨by omega,hi.1.symm⟩
    rcases split i k1 d hi with ⟨h8,h9⟩|⟨h8,h9⟩<;>rcases split i' k2 d' hi' with ⟨h10,h11⟩|⟨h10,h11⟩
    ·exact hn i i' k1 k2 d d' h9 h11 hkk
    ·exact absurd (by rw [hkk,h11,hkv]) (hkey i k1 d h9)
    ·exact absurd (by rw [← hkk,h9,hkv]) (hkey i' k2 d' h11)
    omega
   rw [hms];intro i k1 d e hi he'
   rcases Nat.lt_or_ge i kvs.length with hlt|hge
   ·rw [List.getElem?_append_left hlt] at hi;rw [Array.getElem?_push,if_neg (by omega)] at he';exact ⟨(hr i k1 d e hi he').1,(hr i k1 d e hi he').2.ext he⟩
   rw [List.getElem?_append_right hge] at hi
   have hi0:i-kvs.length=0:=by
    rcases Nat.eq_zero_or_pos (i-kvs.length) with h|h
    ·exact h
    rw [List.getElem?_eq_none (by simp; omega)] at hi; cases hi
   rw [hi0] at hi
   simp at hi
   obtain ⟨rfl,rfl⟩:=hi;rw [Array.getElem?_push,if_pos (by omega)] at he'
   cases he'
   exact ⟨hkv,hvy.ext he⟩
  have hms:mset kvs k (σ.ev y)=kvs.map fun x=>if keyEq x.1 k then (x.1,σ.ev y) else x:=by rw [mset,h1]
  have hat:∀ (i:Nat) k1 d1,(mset kvs k (σ.ev y))[i]? = some (k1,d1)→∃ d0,kvs[i]? = some (k1,d0)∧d1=(if i=j then σ.ev y else d0):=fun i k1 d1 hi=>by
   rw [hms,List.getElem?_map] at hi
   cases hki:kvs[i]? with
   | none=>rw [hki] at hi; cases hi
   | some x =>
    obtain ⟨k0,d0⟩:=x;rw [hki] at hi;simp only [Option.map_some,Option.some.injEq] at hi
    have hkm:=hks _ (List.mem_of_getElem? hki)
    by_cases hij:i=j
    ·subst hij;rw [h2] at hki
     cases hki
     have he:keyEq k' k=true:=(keyEq_iff hkm hk).2 (by rw [h3,hkv])
     rw [if_pos he] at hi
     cases hi
     exact ⟨d',rfl,by rw [if_pos rfl]⟩
    have he:¬ keyEq k0 k=true:=fun h=>by
     rw [keyEq_iff hkm hk,hkv] at h;exact hij (hn i j k0 k' d0 d' hki h2 (by rw [h,h3]))
    rw [if_neg he] at hi
    cases hi
    exact ⟨_,rfl,by rw [if_neg hij]⟩
  refine ⟨_,C,_,?_,fin (es.modify j fun e=>{ e with key:=kv,val:=a.eval y }) clock (fun w' he=>⟨_,_,rfl,?_,?_,?_⟩),hK⟩
  ·simp only [execOp,hvm.raw_inv,hxv,Instr.mapUpdate,Sem.run_bind,run_underlying hm,Result.andThen,Go.MapKept.run_getObj_map hb,Sem.run_pure,run_checkKey hd hik,run_findKey hd h6,run_setObj_map _ hb,h4,Option.map_some,Option.getD_some,h5,run_keyThatStays hik]
  ·rw [hms]; simp [hl]
  ·intro i i' k1 k2 d1 d2 hi hi' hkk;obtain ⟨e1,h8,_⟩:=hat i k1 d1 hi;obtain ⟨e2,h9,_⟩:=hat i' k2 d2 hi';exact hn i i' k1 k2 e1 e2 h8 h9 hkk
  intro i k1 d1 e1 hi he';obtain ⟨d0,h8,h9⟩:=hat i k1 d1 hi;rw [Array.getElem?_modify] at he'
  by_cases hij:j=i
  ·subst hij;rw [if_pos rfl,h4] at he';simp only [Option.map_some,Option.some.injEq] at he';rw [if_pos rfl] at h9;subst h9;subst he'
   have:=(hr j k1 _ e h8 h4).1
   exact ⟨by rw [this,h5],hvy.ext he⟩
  rw [if_neg hij] at he';rw [if_neg (fun e=>hij e.symm)] at h9;subst h9;exact ⟨(hr i k1 _ e1 h8 he').1,(hr i k1 _ e1 h8 he').2.ext he⟩
end Go.Tame

namespace Go.Tame
open Go Go.RowKit
variable {P:Program} {W0:World} {nt:Nat} {σ:DSt} {dst:Option Tmp} {K:DSt→Prop} {ti:List TEnt}
theorem XOp.buildRowS (hT:TOk P ti) {t el n s q:Nat} {ps:Array (Nat×Operand)} {te ee:TEnt} (ht:tget ti t=some te) (hks:te.kind=.slice el) (hel:tget ti el=some ee) (h3:Nat.ble (n*ee.sz) 16777216=true) (h4:Nat.blt 0 ee.sz=true) (h5:ee.zero.isSome=true)
  (hq:evParts true σ ps.toList fun ds=>ds.length=n∧rowC ee.sz 0 ds∧∀ b,K ((σ.setH q (some (.row (.slice (some ⟨b,0,none⟩) n n) (ds.map (·.2)) ee.sz el))).put (some s) (.raw (.slice (some ⟨b,0,none⟩) n n)))):XOp P W0 nt σ (some s) (.buildSlice t n ps) K :=
 .val fun Γ w C a hf type pos after=>by
  obtain ⟨heo,rfl⟩:=hT.get ht;obtain ⟨heeo,rfl⟩:=hT.get hel;obtain ⟨ds,⟨hdn,hrow,hK⟩,hkeys,hds⟩:=evParts_elim hq
  have h6:=hds rfl w C a.eval (fun x hx=>act_ev hf.tmps x.2)
  obtain ⟨us,hrun,hul,hk,hr⟩:=buildSlice_row (P:=P) heo heeo hks h5 (Nat.lt_of_lt_of_le (Nat.lt_succ_self _) (Nat.le_of_ble_eq_true h4)) (Nat.le_of_ble_eq_true h3) hdn hrow
   (w:=w) (C:=C) (vs:=(ps.map fun (i,x)=>(i,a.eval x)).toList) (by simp [hkeys]) (by simpa [Function.comp_def] using h6)
  have hl:(ds.map (·.2)).length=n:=by simpa using hdn
  have hst:=Step.alloc (fun _=>False) w C (.cells us.toArray ee.t) 0
  refine ⟨_,_,_,_,_,?_,hf.newObj q (ob:=.row (.slice (some ⟨w.heap.size,0,none⟩) n n) (ds.map (·.2)) ee.sz ee.t) (o:=.cells us.toArray ee.t) ?_ ?_,.raw _,hK _⟩
  ·simp only [execOp]; rw [Sem.run_bind,hrun]; rfl
  ·refine ⟨_,n,by rw [hl],by omega,?_,hk,fun ad had=>⟨_,by cases had; rfl,lt_of_heap (heap_alloc_new' w _)⟩,fun _=>⟨w.heap.size,_,rfl,heap_alloc_new' w _,by simpa using hul,upd_same _ _ _,fun j d hd=>?_⟩⟩
   ·simp only [maxLen]
    have h7:=Nat.le_of_ble_eq_true h3
    have h8:n≤n*ee.sz:=Nat.le_mul_of_pos_right n (Nat.lt_of_lt_of_le (Nat.lt_succ_self _) (Nat.le_of_ble_eq_true h4))
    omega
   obtain ⟨u,h7,h8,h9⟩:=hr j d hd;exact ⟨u,by simpa using h7,h8.ext hst.ext,h9⟩
  rintro b ⟨n',cap,h,_⟩; exact slice_uses h
end Go.Tame
namespace Go.Proofs
open Go.RowKit Go.Shelf
attribute [local go_sem] Oper.semAt_some
def SlV.upto {α:Type} (f:Nat→α) (k:Nat):List α:=(List.range k).map f
theorem SlV.upto_succ {α:Type} (f:Nat→α) (k:Nat):SlV.upto f (k+1)=SlV.upto f k++[f k]:=by simp [SlV.upto,List.range_succ]
theorem SlV.upto_length {α:Type} (f:Nat→α) (k:Nat):(SlV.upto f k).length=k:=by simp [SlV.upto]
theorem SlV.upto_all (zs:List (List UInt8)):SlV.upto (fun j=>zs[j]?.getD []) zs.length=zs:=by
 apply List.ext_getElem
 ·simp [SlV.upto]
 intro i h1 h2
 simp [SlV.upto,h2]
set_option maxRecDepth 100000 in
theorem SlV.values1_in (F:Fence) (n:Nat) (h7:F.fn 93) (hro:F.round=none) (hn:1≤n) (l Bs Bo n₀ b off len cap:Nat) (zs:List (List UInt8)) (hreach:len*16≤140737488351232) (hb:b<n₀) (J Jx:List (List UInt8)→World→Prop)
  (hY:∀ pre x W,J pre W→pre.length<len→YieldAt F (n-1) Tryz.prog l #[.string ⟨⟨x⟩⟩] W fun e W' =>
   (e=.returned (.bool true)∧J (pre++[x]) W'∧Below n₀ W W')∨(e=.returned (.bool false)∧Jx (pre++[x]) W'))
  (W:World) (hBs:W.cell? ⟨Bs,Bo,none⟩=some (.slice (some ⟨b,off,none⟩) len cap)) (hc:∀ j,j<len→W.cell? ⟨b,off+j,none⟩=some (.string ⟨⟨zs[j]?.getD []⟩⟩)) (h0:J [] W) :
  CallsIn F n Tryz.prog 93 #[.func (.yield l) #[] #[],.pointer (some ⟨Bs,Bo,none⟩)] W fun e W'=>(∃ v,e=.returned v) ∧
   ((∃ ys,ys=SlV.upto (fun j=>zs[j]?.getD []) len∧J ys W')∨(∃ pre,(∃ k,k≤len∧pre=SlV.upto (fun j=>zs[j]?.getD []) k)∧Jx pre W')):=by
 refine callsIn_of_wp Tryz.func93 rfl h7 ?_ hro;simp only [Tryz.ntmps93,List.size_toArray,List.length_cons,List.length_nil,Nat.reduceAdd,Nat.reduceSub,Array.replicate_succ,Array.replicate_zero,List.push_toArray,List.append_toArray,List.nil_append,List.cons_append]
 gi_wp2
 gi_loopw [7] (fun i wr=>∃ k:Nat,k≤len∧i=.int .i64 k∧J (SlV.upto (fun j=>zs[j]?.getD []) k) wr∧Below n₀ W wr)
  (fun i _=>len-(intOf i).toNat)
 case atStart=>exact ⟨0,Nat.zero_le _,rfl,h0,Below.refl _ _⟩
 case round =>
  obtain ⟨k,hk,rfl,hJs,hnx⟩:=hrel
  have hcx:k<len→wr.cell? ⟨b,off+k,none⟩=some (.string ⟨⟨zs[k]?.getD []⟩⟩):=fun h=>(hnx.cell (p:=⟨b,off+k,none⟩) hb).trans (hc k h)
  by_cases hlt:k<len
  ·obtain ⟨fn,tmps,assign,body,hy,hR⟩:=hY _ (zs[k]?.getD []) wr hJs (by rw [SlV.upto_length]; exact hlt)
   have hcx':=hcx hlt
   gi_wp2
   refine hR.mono ?_;rintro e W3 (⟨rfl,hJ3,hk3⟩|⟨rfl,hJx3⟩)
   ·
    gi_wp2
    go_roundw
    case rel=>exact ⟨k+1,by omega,by simp,by rw [SlV.upto_succ]; exact hJ3,hnx.trans hk3⟩
    case measure=>simp [intOf]; omega
   gi_wp2
   refine bodyPost_ret (results_none rfl _ _ _) rfl ?_;exact ⟨⟨_,rfl⟩,.inr ⟨_,⟨k+1,by omega,(SlV.upto_succ _ _).symm⟩,hJx3⟩⟩
  obtain rfl:k=len:=by omega
  gi_wp2
  go_end0
  exact ⟨⟨_,rfl⟩,.inl ⟨_,rfl,hJs⟩⟩
theorem SlV.upto_take (zs:List (List UInt8)) {k:Nat} (hk:k≤zs.length):SlV.upto (fun j=>zs[j]?.getD []) k=zs.take k:=by
 apply List.ext_getElem
 ·simp [SlV.upto,hk]
 intro i h1 h2
 have:i<zs.length:=by simp [SlV.upto] at h1; omega
 simp [SlV.upto,this]
def SlV.Ints (n₀:Nat) (W:World) (sv:Value) (zs:List (List UInt8)):Prop :=
 ((∃ a,sv=.slice a 0 0)∧zs=[])∨∃ b off cap,sv=.slice (some ⟨b,off,none⟩) zs.length cap∧b<n₀∧∀ j,j<zs.length→W.cell? ⟨b,off+j,none⟩=some (.string ⟨⟨zs[j]?.getD []⟩⟩)
theorem SlV.Ints.below {n₀:Nat} {A B:World} (h:Below n₀ A B) {sv:Value} {zs:List (List UInt8)}:SlV.Ints n₀ A sv zs→SlV.Ints n₀ B sv zs
 | .inl e=>.inl e
 | .inr ⟨b,off,cap,e,hb,hc⟩=>.inr ⟨b,off,cap,e,hb,fun j hj=>(h.cell (p:=⟨b,off+j,none⟩) hb).trans (hc j hj)⟩
set_option maxRecDepth 100000 in
theorem SlV.values1_nil_in (F:Fence) (n:Nat) (h7:F.fn 93) (hro:F.round=none) (l Bs Bo:Nat) (a:Option Addr) (J:List (List UInt8)→World→Prop) (W:World) (hBs:W.cell? ⟨Bs,Bo,none⟩=some (.slice a 0 0)) (h0:J [] W) :
  CallsIn F n Tryz.prog 93 #[.func (.yield l) #[] #[],.pointer (some ⟨Bs,Bo,none⟩)] W fun e W'=>(∃ v,e=.returned v)∧J [] W':=by
 refine callsIn_of_wp Tryz.func93 rfl h7 ?_ hro;simp only [Tryz.ntmps93,List.size_toArray,List.length_cons,List.length_nil,Nat.reduceAdd,Nat.reduceSub,Array.replicate_succ,Array.replicate_zero,List.push_toArray,List.append_toArray,List.nil_append,List.cons_append]
 gi_wp2
 gi_loopw [7] (fun i wr=>i=.int .i64 0∧J [] wr) (fun _ _=>0)
 case atStart=>exact ⟨rfl,h0⟩
 case round =>
  obtain ⟨rfl,hJs⟩:=hrel
  gi_wp2
  go_end0
  exact ⟨⟨_,rfl⟩,hJs⟩
theorem SlV.values_stops (F:Fence) (n:Nat) (h7:F.fn 93) (hro:F.round=none) (hn:1≤n) (Bs Bo n₀:Nat) (sv:Value) (zs:List (List UInt8)) (hreach:zs.length*16≤140737488351232) (w:World) (hBs:Bs<w.heap.size) (hn₀:n₀≤w.heap.size)
  (hc:w.cell? ⟨Bs,Bo,none⟩=some sv) (hI:SlV.Ints n₀ w sv zs) :
  SeqStopsK F n Tryz.prog 93 #[.pointer (some ⟨Bs,Bo,none⟩)] (fun x:List UInt8=>#[Value.string ⟨⟨x⟩⟩]) (Below n₀) (fun ys=>ys=zs) (fun pre=>pre <+: zs) zs.length w:=fun l J Jx W hW _ _ hY h0=>by
 have hc':=(hW.cell (p:=⟨Bs,Bo,none⟩) hBs).trans hc
 rcases hI.below (hW.mono hn₀) with ⟨⟨a,rfl⟩,rfl⟩|⟨b,off,cap,rfl,hb,hcs⟩
 ·exact (SlV.values1_nil_in F n h7 hro l Bs Bo a J W hc' h0).mono fun e W' ⟨he,hj⟩=>⟨he,.inl ⟨_,rfl,hj⟩⟩
 refine (SlV.values1_in F n h7 hro hn l Bs Bo n₀ b off zs.length cap zs hreach hb J Jx hY W hc' hcs h0).mono ?_;rintro e W' ⟨he,⟨ys,rfl,hj⟩|⟨pre,⟨k,hk,rfl⟩,hj⟩⟩
 ·exact ⟨he,.inl ⟨_,SlV.upto_all zs,hj⟩⟩
 exact ⟨he,.inr ⟨_,by rw [SlV.upto_take zs hk]; exact List.take_prefix _ _,hj⟩⟩
open Go.Maps Go.Sort
variable {P:Program} {ρ:Ren}
theorem below_between {n:Nat} {w0 W W':World} (h:Below n w0 W) (h':Below n w0 W') (hs:W.heap.size≤W'.heap.size):Below n W W' :=
 ⟨h'.os.trans h.os.symm,h'.tape.trans h.tape.symm,h'.output.trans h.output.symm,hs,fun k hk=>(h'.block k hk).trans (h.block k hk).symm⟩
theorem SlV.yieldK {F:Fence} {m l:Nat} {x:List UInt8} {n₀:Nat} {w0 W:World} {J:List (List UInt8)→World→Prop} {pre:List (List UInt8)} (hJ:J pre W) (hb:∀ s W,J s W→Below n₀ w0 W)
  (h:YieldAt F m P l #[encStr x] W fun e W'=>e=.returned (.bool true)∧J (pre++[x]) W'∧KeepsWalks W W') :
  YieldAt F m P l #[encStr x] W fun e W'=>(e=.returned (.bool true)∧J (pre++[x]) W'∧Below n₀ W W')∨(e=.returned (.bool false)∧False):=by
 obtain ⟨fn,tmps,assign,body,hy,hR⟩:=h;exact ⟨fn,tmps,assign,body,hy,hR.mono fun e w' ⟨h1,h2,h3⟩=>.inl ⟨h1,h2,below_between (hb _ _ hJ) (hb _ _ h2) h3.size⟩⟩
set_option maxRecDepth 100000 in
theorem SlV.appendSeq_inK (L:SlLaysZ.n11 P ρ) (F:Fence) (n:Nat) (h11:F.fn (ρ.f 11)) (hro:F.round=none) (hn:2≤n) (g:Nat) (lb:Array Value) (hFg:F.fn g) (eg:∀ args w,(callFunc g args).run P w=.ok (.enter g args) w)
  (S Sp:List (List UInt8)→Prop) (N:Nat) (hN:N≤maxLen) (hNb:N*16≤140737488355328) (w:World) (hseq:SeqStopsK F (n-1) P g lb (fun x=>#[encStr x]) (Below w.heap.size) S Sp N w) :
  CallsIn F n P (ρ.f 11) #[.slice none 0 0,.func (.func g) #[] lb] w fun e w'=>∃ (v:Value) (ss:List (List UInt8)),e=.returned v∧S ss∧w'.ownsRow w.heap.size (ρ.t 26) 1 v ss.length (ss.map encStr)∧(v=.slice none 0 0↔ss=[])∧Below w.heap.size w w':=by
 have h1:1≤n:=by omega
 have mixed:=L.mixed; have t0:=L.t0; have a0:=L.a0; have z0:=L.z0; have v0:=L.v0; have t24:=L.t24; have a24:=L.a24; have z24:=L.z24; have v24:=L.v24; have t26:=L.t26; have a26:=L.a26; have z26:=L.z26; have v26:=L.v26; have t28:=L.t28; have a28:=L.a28; have z28:=L.z28; have v28:=L.v28
 have hne:ρ.t 24≠ρ.t 26:=fun e=>by have h:=L.t24; rw [e,L.t26] at h; cases h
 have u0:=run_underlying L.t0; have u24:=run_underlying L.t24; have u26:=run_underlying L.t26; have u28:=run_underlying L.t28
 obtain ⟨_,_,FG⟩:=L.f11;refine callsIn_of_wp_marks FG rfl h11 ?_ hro;simp only [SlBodyZ.n11_ntmps ρ,List.size_toArray,List.length_cons,List.length_nil,Nat.reduceAdd,Nat.reduceSub,Array.replicate_succ,Array.replicate_zero,List.push_toArray,List.append_toArray,List.nil_append,List.cons_append]
 gi_wp2
 refine wpIn_rangeFunc ?_;intro fn hfn;rw [hro];obtain ⟨W0,hW0⟩:∃ W0,w.alloc (.cells #[.slice none 0 0] (ρ.t 24))=W0:=⟨_,rfl⟩
 have hs0:W0.heap.size=w.heap.size+1:=by rw [← hW0]; simp
 have hv0:W0.heap[w.heap.size]? = some (.cells #[.slice none 0 0] (ρ.t 24) (0,0)):=by rw [← hW0]; exact World.alloc_heap_new w _
 have hb0:Below w.heap.size w W0:=by rw [← hW0]; exact (Below.refl _ w).alloc (Nat.le_refl _) _
 rw [hW0];obtain ⟨W1,hW1⟩:∃ W1,(W0.alloc (.deferred (some []))).alloc (.loop (AnyZ.apRec ρ fn (.func (.func g) #[] lb) w.heap.size W0.heap.size .ready none))=W1:=⟨_,rfl⟩
 have hold:∀ k,k<W0.heap.size→W1.heap[k]? = W0.heap[k]?:=fun k hk=>by
  rw [← hW1]; exact (Below.heap_alloc _ _ k (by simp; omega)).trans (Below.heap_alloc _ _ k hk)
 have hb1:Below w.heap.size w W1:=by rw [← hW1]; exact (hb0.alloc hb0.size _).alloc (by have:=hb0.size; simp; omega) _
 have hs1:W1.heap.size=W0.heap.size+2:=by rw [← hW1]; simp
 have hM:AnyZ.ApAt ρ w fn (.func (.func g) #[] lb) w.heap.size (W0.heap.size+1) W0.heap.size [] W1 :=
  ⟨⟨_,(hold w.heap.size (by omega)).trans hv0,⟨rfl,.inl ⟨rfl,rfl⟩⟩,by simp⟩,
   by rw [← hW1]; have:=World.alloc_heap_new (W0.alloc (.deferred (some []))) (.loop (AnyZ.apRec ρ fn (.func (.func g) #[] lb) w.heap.size W0.heap.size .ready none)); rwa [World.size_alloc] at this,
   by rw [← hW1]; exact (Below.heap_alloc _ _ _ (by simp)).trans (World.alloc_heap_new W0 _),hb1⟩
 refine ⟨W0.heap.size+1,[{ target:=.collected W0.heap.size,args:=#[] }],W1,{ target:=.fn (.func g) lb,args:=#[.func (.yield (W0.heap.size+1)) #[] #[]] },W1,g,
  #[.func (.yield (W0.heap.size+1)) #[] #[]]++lb,W1,?_,?_,?_,?_,fun _=>h1,?_⟩
 ·rw [← hW1]; exact run_enterLoop_outer _ _ _ _ _
 ·simp [resolve,go_sem]
 ·intro f' hf'; simp [Target.leads] at hf'; subst hf'; exact hFg
 ·simp [invoke,go_sem,eg]
 refine (hseq (W0.heap.size+1) (AnyZ.ApAt ρ w fn (.func (.func g) #[] lb) w.heap.size (W0.heap.size+1) W0.heap.size) (fun _ _=>False) W1 hb1 (AnyZ.ap_abides ρ _ _ _ _ _ _ _ hb1.size) (fun _ _ _ _ hs _ _=>hs)
  (fun pre x W hJ hl=>SlV.yieldK hJ (fun s W h=>AnyZ.ApAt.below h)<|AnyZ.apYield { L with } F (n-1-1) w fn hfn _ w.heap.size (W0.heap.size+1) W0.heap.size (by omega) (by omega) (by omega) (Nat.le_refl _) (by omega) N hN hNb pre x W hJ hl) hM).mono ?_
 rintro e W2 ⟨⟨v0,rfl⟩,hor⟩;obtain ⟨ss,hS,h2⟩:=hor.resolve_right (fun ⟨_,_,hf⟩=>hf);obtain ⟨v,hv,hrow,hnil⟩:=h2.box
 have hend:=run_endLoop (P:=P) h2.L (by simp [AnyZ.apRec])
 obtain ⟨W3,hW3⟩:∃ W3,W2.putObj (W0.heap.size+1) (.loop { AnyZ.apRec ρ fn (.func (.func g) #[] lb) w.heap.size W0.heap.size .ready none with state:=.exhausted })=W3:=⟨_,rfl⟩;rw [hW3] at hend
 have hg3:W2.grownBy W3 (some (W0.heap.size+1)):=by rw [← hW3]; exact grownBy_putObj_a _ _ _
 have hv3:W3.heap[w.heap.size]? = some (.cells #[v] (ρ.t 24) (0,0)):=by rw [← hW3]; exact (World.putObj_heap_other (by omega)).trans hv
 have hK3:W3.heap[W0.heap.size]? = some (.deferred (some [])):=by rw [← hW3]; exact (World.putObj_heap_other (by omega)).trans h2.K
 have hrow3:=hrow.kept hg3 (ownsRow_ne_a hrow h2.L (fun cur e=>by first|cases e|exact hne (Obj.cells.inj e).2.1))
 have hb3:Below w.heap.size w W3:=h2.below.grown hg3 h2.below.size (fun k e=>by cases e; omega)
 obtain ⟨hc3,hf3⟩:=cell_of_box_a hv3;clear hW3;refine ⟨none,W3,hend,?_⟩
 gi_wp2
 rw [← hs0];refine ⟨by simp,.inl ⟨_,_,rfl,run_takeDeferred hK3,?_⟩⟩
 exact ⟨_,results_tmp rfl _ _ _,v,ss,rfl,hS,hrow3.kept (grownBy_putObj_a _ _ _) (ownsRow_ne_a hrow3 hK3 (fun cur e=>by first|cases e|exact hne (Obj.cells.inj e).2.1)),hnil,hb3.grown (grownBy_putObj_a _ _ _) hb3.size (fun k e=>by cases e; omega)⟩
theorem SlV.collect_inK (L:SlLaysZ.n8 P ρ) (F:Fence) (n:Nat) (h8:F.fn (ρ.f 8)) (h11:F.fn (ρ.f 11)) (hro:F.round=none) (hn:3≤n) (g:Nat) (lb:Array Value) (hFg:F.fn g) (eg:∀ args w,(callFunc g args).run P w=.ok (.enter g args) w)
  (S Sp:List (List UInt8)→Prop) (N:Nat) (hN:N≤maxLen) (hNb:N*16≤140737488355328) (w:World) (hseq:SeqStopsK F (n-1-1) P g lb (fun x=>#[encStr x]) (Below w.heap.size) S Sp N w) :
  CallsIn F n P (ρ.f 8) #[.func (.func g) #[] lb] w fun e w'=>∃ (v:Value) (ss:List (List UInt8)),e=.returned v∧S ss∧w'.ownsRow w.heap.size (ρ.t 26) 1 v ss.length (ss.map encStr)∧(v=.slice none 0 0↔ss=[])∧Below w.heap.size w w':=by
 have h1:1≤n:=by omega
 have e11:∀ args w,(callFunc (ρ.f 11) args).run P w=.ok (.enter (ρ.f 11) args) w:=L.f11.enters rfl
 have mixed:=L.mixed; have t0:=L.t0; have a0:=L.a0; have z0:=L.z0; have v0:=L.v0; have t24:=L.t24; have a24:=L.a24; have z24:=L.z24; have v24:=L.v24; have t26:=L.t26; have a26:=L.a26; have z26:=L.z26; have v26:=L.v26; have t28:=L.t28; have a28:=L.a28; have z28:=L.z28; have v28:=L.v28
 have u0:=run_underlying L.t0; have u24:=run_underlying L.t24; have u26:=run_underlying L.t26; have u28:=run_underlying L.t28
 obtain ⟨_,_,FG⟩:=L.f8;refine callsIn_of_wp FG rfl h8 ?_ hro;simp only [SlBodyZ.n8_ntmps ρ,List.size_toArray,List.length_cons,List.length_nil,Nat.reduceAdd,Nat.reduceSub,Array.replicate_succ,Array.replicate_zero,List.push_toArray,List.append_toArray,List.nil_append,List.cons_append]
 gi_wp2_with (gi_at_fn (ρ.f 11); refine (SlV.appendSeq_inK { L with } F (n-1) h11 hro (by omega) g lb hFg eg S Sp N hN hNb _ hseq).mono ?_; rintro e w' ⟨v,ss,rfl,hS,hrow,hnil,hb⟩)
 go_ret
 exact ⟨v,ss,rfl,hS,hrow,hnil,hb⟩
end Go.Proofs
