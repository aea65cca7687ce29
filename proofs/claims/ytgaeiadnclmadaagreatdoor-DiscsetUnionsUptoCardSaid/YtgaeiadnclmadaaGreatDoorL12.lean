/- A program logic of my own over the model, and contracts of this program's functions by it: part 12. No conditions of its own: each theorem states its own. -/
import Derived.Test.YtgaeiadnclmadaaGreatDoorL11
set_option linter.unnecessarySimpa false
set_option linter.unusedSimpArgs false
set_option linter.unusedVariables false
/- Contracts: slices.Insert of one node into a row that may be written. By program (mkk79.py). -/
namespace Go.Tame.V
open Go Go.Proofs
variable {W0 : World}
set_option maxRecDepth 10000
set_option linter.unusedVariables false
set_option linter.unusedSimpArgs false

theorem addr_at (b n : Nat) : ((⟨b,0,none⟩ : Addr).add n) = ⟨b,n,none⟩:=by rw [addr_add,Nat.zero_add]
theorem piece_at {b cap l k : Nat} (h : ¬ cap = l) : (if cap = l then (some ⟨b,0,none⟩ : Option Addr) else Option.map (fun x : Addr => x.add (l * k)) (some ⟨b,0,none⟩)) = some ⟨b,l * k,none⟩:=by
 rw [if_neg h]; exact congrArg some (addr_at _ _)
theorem ins_new (xs : List D) (i : Nat) (y z : D) (hi : i ≤ xs.length) : ins (ins (xs.take i ++ List.replicate (xs.length + 1 - i) z) i [y]) (i + 1) ((xs.drop i).take (xs.length - i)) = xs.take i ++ y::xs.drop i:=by
 have h1 : (xs.take i).length = i:=by simp; omega
 have h2 : ins (xs.take i ++ List.replicate (xs.length + 1 - i) z) i [y] = (xs.take i ++ [y]) ++ List.replicate (xs.length - i) z:=by
  unfold ins
  rw [List.take_left' h1,List.length_singleton]
  congr 1
  rw [List.drop_append,h1,List.drop_of_length_le (by omega),List.nil_append,List.drop_replicate]
  congr 1; omega
 have h3 : (xs.take i ++ [y]).length = i + 1:=by simp; omega
 have h4 : ((xs.drop i).take (xs.length - i)) = xs.drop i:=List.take_of_length_le (by simp)
 have h6 : ((xs.take i ++ [y]) ++ List.replicate (xs.length - i) z).drop (i + 1 + (xs.drop i).length) = []:=List.drop_of_length_le (by simp; omega)
 rw [h2,h4]
 unfold ins
 rw [List.take_left' h3,h6]
 simp
theorem ins_old (xs : List D) (i : Nat) (y : D) (hi : i < xs.length) : ins (ins xs (i + 1) ((xs.drop i).take (xs.length - i))) i [y] = xs.take i ++ y::xs.drop i:=by
 have h4 : ((xs.drop i).take (xs.length - i)) = xs.drop i:=List.take_of_length_le (by simp)
 have h3 : (xs.take (i + 1)).length = i + 1:=by simp; omega
 have h5 : ins xs (i + 1) (xs.drop i) = xs.take (i + 1) ++ xs.drop i:=by
  have h6 : xs.drop (i + 1 + (xs.drop i).length) = []:=List.drop_of_length_le (by simp; omega)
  unfold ins
  rw [h6,List.append_nil]
 rw [h4,h5]
 unfold ins
 rw [List.length_singleton,List.drop_left' h3,List.take_append_of_le_length (by omega),List.take_take,Nat.min_eq_left (by omega)]
 simp

theorem K79 (xs : List D) (v : Value) (i : Nat) (y : D) (hxl : xs.length + 1 ≤ 1000000) (hi : i ≤ xs.length) (hy : y.cells.length = 12) :
  DCall Tryz.prog W0 79 [.raw v,.int .i64 (i : Int),.sl .none 12 [y]] (look [(2000,.row v xs 12 25)]) fun d H' => ∃ v,d = .raw v ∧ H' = look [(2000,.row v (xs.take i ++ y::xs.drop i) 12 25)]:=by
 refine DCall.intro ti_ok Tryz.func79 rfl (by decide +kernel) Tryz.ntmps79 rfl fun Γ => ?_
 refine Tri.rowKnow0 2000 rfl fun a cap hv hcl hcm => ?_
 subst hv
 refine Tri.seq ?_
 refine Tri.region ti_ok ?_
 conv => whnf
 refine Tri.seq ?_
 refine Tri.regionX ti_ok ?_
 conv => whnf
 refine .inr (XOp.cut ti_ok (l:=i) (r:=xs.length) rfl rfl rfl rfl (.inr ⟨_,_,rfl,rfl⟩) (.inl ⟨rfl,rfl⟩) (by omega) (by omega) ?_)
 conv => whnf
 refine Tri.seq ?_
 refine Tri.region ti_ok ?_
 conv => whnf
 refine Tri.seq ?_
 refine Tri.seq ?_
 refine Tri.region ti_ok ?_
 conv => whnf
 refine Tri.cond _ rfl (fun hc => ?_) (fun hc => ?_)
 ·simp at hc
 ·refine Tri.skip ?_
  conv => whnf
  refine Tri.seq ?_
  refine Tri.regionX ti_ok ?_
  conv => whnf
  refine Tri.seq ?_
  refine Tri.seq ?_
  refine Tri.region ti_ok ?_
  conv => whnf
  refine Tri.cond _ rfl (fun hc => ?_) (fun hc => ?_)
  ·-- at the end
   have hin' : (i : Int) = xs.length:=by simpa using hc
   have hin : i = xs.length:=by omega
   have he : xs.take i ++ y::xs.drop i = xs ++ [y]:=by rw [hin]; simp
   refine Tri.seq ?_
   refine Tri.regionX ti_ok ?_
   conv => whnf
   refine .inr (XOp.rowAppend ti_ok 2000 rfl rfl rfl (fun h => by cases h) rfl rfl rfl (by simp) (by show (_ + 1) * 152 ≤ _; omega) (by show _ + 1 ≤ _; omega) fun aa m cap => ?_)
   conv => whnf
   refine Tri.retK [(6,.raw (.slice aa m cap))] [(2000,.row (.slice aa m cap) (xs ++ [y]) 12 25)] [(2000,25)] ⟨⟨.refl _,trivial⟩,rfl,rfl,rfl,trivial⟩ ?_
   conv => whnf
   exact ⟨_,.refl _,_,rfl,by rw [he]; rfl⟩
  ·have hne : i ≠ xs.length:=fun e => by rw [e] at hc; simp at hc
   have hlt : i < xs.length:=by omega
   refine Tri.rowKnow 2000 rfl (by omega) fun b cap' hv' _ _ => ?_
   simp only [Value.slice.injEq] at hv'
   obtain ⟨rfl,_,rfl⟩:=hv'
   have hci : (if cap = i then (some ⟨b,0,none⟩ : Option Addr) else Option.map (fun x : Addr => x.add (i * 12)) (some ⟨b,0,none⟩)) = some ⟨b,i * 12,none⟩:=piece_at (by omega)
   have hc0 : (if cap = 0 then (some ⟨b,0,none⟩ : Option Addr) else Option.map (fun x : Addr => x.add (0 * 12)) (some ⟨b,0,none⟩)) = some ⟨b,0,none⟩:=by rw [piece_at (by omega)]
   refine Tri.skip ?_
   conv => whnf
   refine Tri.seq ?_
   refine Tri.seq ?_
   refine Tri.regionX ti_ok ?_
   conv => whnf
   refine .inl ⟨fun _ => by simp [InR]; omega,?_⟩
   conv => whnf
   refine .inr (XOp.capOf ti_ok rfl rfl rfl ?_)
   conv => whnf
   refine Tri.cond _ rfl (fun hc2 => ?_) (fun hc2 => ?_)
   ·-- no room
    have hcap : cap < xs.length + 1:=by simp at hc2; omega
    refine Tri.seq ?_
    refine Tri.regionX ti_ok ?_
    conv => whnf
    refine .inr (XOp.cut ti_ok (l:=0) (r:=i) rfl rfl rfl rfl (.inl ⟨rfl,rfl⟩) (.inr ⟨_,_,rfl,rfl⟩) (by omega) (by omega) ?_)
    rw [hc0,Nat.sub_zero i,Nat.sub_zero cap]
    conv => whnf
    refine .inl ⟨fun _ => by simp [InR]; omega,?_⟩
    conv => whnf
    refine .inl ⟨fun _ => by simp [InR]; omega,?_⟩
    conv => whnf
    refine .inr (XOp.growZeros ti_ok 2000 (kq:=.i64) (n:=xs.length + 1 - i) rfl rfl rfl rfl rfl rfl (by show 0 < 12; omega) rfl (fun z hz => by cases hz; rfl) rfl rfl (by omega) (by omega) ?_ (by omega) (by omega) (by show (_ + _) * 152 ≤ _; omega) (by omega) fun b' nc hnc => ?_)
    ·show D.int .i64 _ = D.int .i64 _
     congr 1
     simp; omega
    have hl2 : (xs.take i ++ List.replicate (xs.length + 1 - i) (D.agg (List.replicate 12 D.any))).length = xs.length + 1:=by simp; omega
    rw [hl2]
    conv => whnf
    have hni : (if nc = i then (some ⟨b',0,none⟩ : Option Addr) else Option.map (fun x : Addr => x.add (i * 12)) (some ⟨b',0,none⟩)) = some ⟨b',i * 12,none⟩:=piece_at (by omega)
    have hnc1 : (if nc = i + 1 then (some ⟨b',0,none⟩ : Option Addr) else Option.map (fun x : Addr => x.add ((i + 1) * 12)) (some ⟨b',0,none⟩)) = some ⟨b',(i + 1) * 12,none⟩:=piece_at (by omega)
    refine Tri.seq ?_
    refine Tri.regionX ti_ok ?_
    conv => whnf
    refine .inr (XOp.cut ti_ok (l:=i) (r:=xs.length + 1) rfl rfl rfl rfl (.inr ⟨_,_,rfl,rfl⟩) (.inl ⟨rfl,rfl⟩) (by omega) (by omega) ?_)
    rw [hni]
    conv => whnf
    have he4:=ins_new xs i y (D.agg (List.replicate 12 D.any)) (by omega)
    generalize xs.take i ++ List.replicate (xs.length + 1 - i) (D.agg (List.replicate 12 D.any)) = xs2 at hl2 he4
    refine .inr (XOp.copySl ti_ok 40 (b:=b') (i:=i) (cap:=nc) (xs:=xs2) (ys:=[y]) rfl rfl rfl rfl rfl rfl ?_ rfl (by simp) (by simp; omega) (by omega) (by omega) (by simp; omega) ?_)
    ·show some _ = some _
     rw [hl2]
    conv => whnf
    have hl3 : (ins xs2 i [y]).length = xs.length + 1:=by rw [ins_length _ _ _ (by omega)]; simp; omega
    rw [hl3]
    generalize ins xs2 i [y] = xs3 at hl3 he4
    have hl4 : (ins xs3 (i + 1) ((xs.drop i).take (xs.length - i))).length = xs.length + 1:=by rw [he4]; simp; omega
    obtain ⟨xs4,hx4⟩ : ∃ xs4,ins xs3 (i + 1) ((xs.drop i).take (xs.length - i)) = xs4:=⟨_,rfl⟩
    rw [hx4] at hl4 he4
    refine Tri.seq ?_
    refine Tri.bitsI ti_ok mixed (α:=Unit) (fun _ f => [(1,.int .i64 (i : Int)),(7,.int .i64 1),(0,.raw (.slice (some ⟨b,0,none⟩) xs.length cap)),(9,.raw (.slice (some ⟨b',0,none⟩) (xs.length + 1) nc)),(46,bif f 0 then .raw (.slice (some ⟨b',0,none⟩) (xs.length + 1) nc) else .any),(47,bif f 1 then .int .i64 (i : Int) else .any),(48,bif f 2 then .int .i64 1 else .any),(49,bif f 3 then .int .i64 ((i + 1 : Nat) : Int) else .any),(50,bif f 4 then (.raw (.slice (some ⟨b',(i + 1) * 12,none⟩) (xs.length + 1 - (i + 1)) (nc - (i + 1)))) else .any),(51,bif f 5 then (.raw (.slice (some ⟨b,0,none⟩) xs.length cap)) else .any),(52,bif f 6 then .int .i64 (i : Int) else .any),(53,bif f 7 then (.raw (.slice (some ⟨b,i * 12,none⟩) (xs.length - i) (cap - i))) else .any),(54,bif f 8 then .int .i64 ((xs.length - i : Nat) : Int) else .any)])
     (fun _ f => [(40,bif f 8 then .row (.slice (some ⟨b',0,none⟩) (xs.length + 1) nc) xs4 12 25 else .row (.slice (some ⟨b',0,none⟩) (xs.length + 1) nc) xs3 12 25),(2000,.row (.slice (some ⟨b,0,none⟩) xs.length cap) xs 12 25)]) (by decide +kernel) () ?_ ?_ ?_ ?_
    ·exact ⟨.refl _,.refl _,.refl _,.refl _,.any _,.any _,.any _,.any _,.any _,.any _,.any _,.any _,.any _,trivial⟩
    ·exact ⟨rfl,rfl,trivial⟩
    ·conv => whnf
     refine ⟨fun _ f hI => ?_,?_⟩
     ·conv => whnf
      exact ⟨(),⟨.refl _,.refl _,.refl _,.refl _,.refl _,.refl _,.refl _,.refl _,.refl _,.refl _,.refl _,.refl _,.refl _,trivial⟩,rfl,rfl,trivial⟩
     refine ⟨fun _ f hI => ?_,?_⟩
     ·conv => whnf
      exact ⟨(),⟨.refl _,.refl _,.refl _,.refl _,.refl _,.refl _,.refl _,.refl _,.refl _,.refl _,.refl _,.refl _,.refl _,trivial⟩,rfl,rfl,trivial⟩
     refine ⟨fun _ f hI => ?_,?_⟩
     ·conv => whnf
      exact ⟨(),⟨.refl _,.refl _,.refl _,.refl _,.refl _,.refl _,.refl _,.refl _,.refl _,.refl _,.refl _,.refl _,.refl _,trivial⟩,rfl,rfl,trivial⟩
     refine ⟨fun _ f hI => ?_,?_⟩
     ·conv => whnf
      refine .inl ⟨fun _ => by simp [InR]; omega,?_⟩
      conv => whnf
      exact ⟨(),⟨.refl _,.refl _,.refl _,.refl _,.refl _,.refl _,.refl _,.refl _,.refl _,.refl _,.refl _,.refl _,.refl _,trivial⟩,rfl,rfl,trivial⟩
     refine ⟨fun _ f hI => ?_,?_⟩
     ·conv => whnf
      refine .inr (XOp.cut ti_ok (l:=i + 1) (r:=xs.length + 1) rfl rfl rfl rfl (.inr ⟨_,_,rfl,rfl⟩) (.inl ⟨rfl,rfl⟩) (by omega) (by omega) ?_)
      rw [hnc1]
      exact ⟨(),⟨.refl _,.refl _,.refl _,.refl _,.refl _,.refl _,.refl _,.refl _,.refl _,.refl _,.refl _,.refl _,.refl _,trivial⟩,rfl,rfl,trivial⟩
     refine ⟨fun _ f hI => ?_,?_⟩
     ·conv => whnf
      exact ⟨(),⟨.refl _,.refl _,.refl _,.refl _,.refl _,.refl _,.refl _,.refl _,.refl _,.refl _,.refl _,.refl _,.refl _,trivial⟩,rfl,rfl,trivial⟩
     refine ⟨fun _ f hI => ?_,?_⟩
     ·conv => whnf
      exact ⟨(),⟨.refl _,.refl _,.refl _,.refl _,.refl _,.refl _,.refl _,.refl _,.refl _,.refl _,.refl _,.refl _,.refl _,trivial⟩,rfl,rfl,trivial⟩
     refine ⟨fun _ f hI => ?_,?_⟩
     ·conv => whnf
      refine .inr (XOp.cut ti_ok (l:=i) (r:=xs.length) rfl rfl rfl rfl (.inr ⟨_,_,rfl,rfl⟩) (.inl ⟨rfl,rfl⟩) (by omega) (by omega) ?_)
      rw [hci]
      exact ⟨(),⟨.refl _,.refl _,.refl _,.refl _,.refl _,.refl _,.refl _,.refl _,.refl _,.refl _,.refl _,.refl _,.refl _,trivial⟩,rfl,rfl,trivial⟩
     refine ⟨fun _ f hI => ?_,?_⟩
     ·conv => whnf
      refine .inr (XOp.copyRow ti_ok 40 2000 (xs.length - i) (b:=b') (b2:=b) (i:=i + 1) (j:=i) (cap:=nc) (cap2:=cap) (xs:=xs3) (ys:=xs) rfl rfl rfl rfl rfl rfl ?_ rfl rfl rfl ?_ (by omega) (by omega) (by omega) (by omega) (by omega) ?_)
      ·show some (HObj.row (.slice (some ⟨b',0,none⟩) (xs.length + 1) nc) xs3 12 25) = _
       rw [hl3]
      ·show _ = min _ _
       omega
      rw [hx4,hl4]
      exact ⟨(),⟨.refl _,.refl _,.refl _,.refl _,.refl _,.refl _,.refl _,.refl _,.refl _,.refl _,.refl _,.refl _,.refl _,trivial⟩,rfl,rfl,trivial⟩
     exact trivial
    ·intro _ f hf
     conv => whnf
     refine Tri.forgetK [(9,.raw (.slice (some ⟨b',0,none⟩) (xs.length + 1) nc))] [(2000,.row (.slice (some ⟨b',0,none⟩) (xs.length + 1) nc) xs4 12 25)] [(2000,40)] ⟨⟨.refl _,trivial⟩,rfl,rfl,?_,trivial⟩ ?_
     ·show some (bif f 8 then _ else _) = _
      rw [hf 8 (by decide +kernel)]; rfl
     refine Tri.seq ?_
     refine Tri.region ti_ok ?_
     conv => whnf
     refine Tri.retK [(6,.raw (.slice (some ⟨b',0,none⟩) (xs.length + 1) nc))] [(2000,.row (.slice (some ⟨b',0,none⟩) (xs.length + 1) nc) xs4 12 25)] [(2000,2000)] ⟨⟨.refl _,trivial⟩,rfl,rfl,rfl,trivial⟩ ?_
     conv => whnf
     exact ⟨_,.refl _,_,rfl,by rw [he4]; rfl⟩
   ·-- room
    have hcap : xs.length + 1 ≤ cap:=by simp at hc2; omega
    have hci1 : (if cap = i + 1 then (some ⟨b,0,none⟩ : Option Addr) else Option.map (fun x : Addr => x.add ((i + 1) * 12)) (some ⟨b,0,none⟩)) = some ⟨b,(i + 1) * 12,none⟩:=piece_at (by omega)
    have he5:=ins_old xs i y hlt
    have hl5 : (ins xs (i + 1) ((xs.drop i).take (xs.length - i))).length = xs.length + 1:=by rw [ins_length _ _ _ (by omega)]; simp; omega
    obtain ⟨xs5,hx5⟩ : ∃ xs5,ins xs (i + 1) ((xs.drop i).take (xs.length - i)) = xs5:=⟨_,rfl⟩
    rw [hx5] at hl5 he5
    refine Tri.skip ?_
    conv => whnf
    refine Tri.seq ?_
    refine Tri.regionX ti_ok ?_
    conv => whnf
    refine .inl ⟨fun _ => by simp [InR]; omega,?_⟩
    conv => whnf
    refine .inr (XOp.cut ti_ok (l:=0) (r:=xs.length + 1) rfl rfl rfl rfl (.inl ⟨rfl,rfl⟩) (.inr ⟨_,_,rfl,rfl⟩) (by omega) (by omega) ?_)
    rw [hc0,Nat.sub_zero (xs.length + 1),Nat.sub_zero cap]
    conv => whnf
    refine Tri.seq ?_
    refine Tri.seq ?_
    refine Tri.regionX ti_ok ?_
    conv => whnf
    refine .inl ⟨fun _ => by simp [InR]; omega,?_⟩
    conv => whnf
    refine .inr (XOp.cut ti_ok (l:=i + 1) (r:=xs.length + 1) rfl rfl rfl rfl (.inr ⟨_,_,rfl,rfl⟩) (.inl ⟨rfl,rfl⟩) (by omega) (by omega) ?_)
    rw [hci1]
    conv => whnf
    refine .inr (XOp.overlaps ti_ok (t:=22) (el:=25) (k:=12) (tR:=4) 2000 rfl rfl rfl (by omega) Tryz.func102 (by kernel_rfl) (by kernel_rfl) (by kernel_rfl) (by kernel_rfl) rfl (by simp) rfl rfl (by omega) ?_)
    conv => whnf
    refine Tri.cond _ rfl (fun hc3 => ?_) (fun hc3 => ?_)
    ·refine Tri.seq ?_
     refine Tri.bitsI ti_ok mixed (α:=Unit) (fun _ f => [(1,.int .i64 (i : Int)),(7,.int .i64 1),(0,.raw (.slice (some ⟨b,0,none⟩) (xs.length + 1) cap)),(2,.sl .none 12 [y]),(69,bif f 0 then .raw (.slice (some ⟨b,0,none⟩) (xs.length + 1) cap) else .any),(70,bif f 1 then .int .i64 (i : Int) else .any),(71,bif f 2 then .int .i64 1 else .any),(72,bif f 3 then .int .i64 ((i + 1 : Nat) : Int) else .any),(73,bif f 4 then (.raw (.slice (some ⟨b,(i + 1) * 12,none⟩) (xs.length + 1 - (i + 1)) (cap - (i + 1)))) else .any),(74,bif f 5 then .raw (.slice (some ⟨b,0,none⟩) (xs.length + 1) cap) else .any),(75,bif f 6 then .int .i64 (i : Int) else .any),(76,bif f 7 then (.raw (.slice (some ⟨b,i * 12,none⟩) (xs.length + 1 - i) (cap - i))) else .any),(77,bif f 8 then .int .i64 ((xs.length - i : Nat) : Int) else .any)])
      (fun _ f => [(2000,bif f 8 then .row (.slice (some ⟨b,0,none⟩) (xs.length + 1) cap) xs5 12 25 else .row (.slice (some ⟨b,0,none⟩) xs.length cap) xs 12 25)]) (by decide +kernel) () ?_ ?_ ?_ ?_
     ·exact ⟨.refl _,.refl _,.refl _,.refl _,.any _,.any _,.any _,.any _,.any _,.any _,.any _,.any _,.any _,trivial⟩
     ·exact ⟨rfl,trivial⟩
     ·conv => whnf
      refine ⟨fun _ f hI => ?_,?_⟩
      ·conv => whnf
       exact ⟨(),⟨.refl _,.refl _,.refl _,.refl _,.refl _,.refl _,.refl _,.refl _,.refl _,.refl _,.refl _,.refl _,.refl _,trivial⟩,rfl,trivial⟩
      refine ⟨fun _ f hI => ?_,?_⟩
      ·conv => whnf
       exact ⟨(),⟨.refl _,.refl _,.refl _,.refl _,.refl _,.refl _,.refl _,.refl _,.refl _,.refl _,.refl _,.refl _,.refl _,trivial⟩,rfl,trivial⟩
      refine ⟨fun _ f hI => ?_,?_⟩
      ·conv => whnf
       exact ⟨(),⟨.refl _,.refl _,.refl _,.refl _,.refl _,.refl _,.refl _,.refl _,.refl _,.refl _,.refl _,.refl _,.refl _,trivial⟩,rfl,trivial⟩
      refine ⟨fun _ f hI => ?_,?_⟩
      ·conv => whnf
       refine .inl ⟨fun _ => by simp [InR]; omega,?_⟩
       conv => whnf
       exact ⟨(),⟨.refl _,.refl _,.refl _,.refl _,.refl _,.refl _,.refl _,.refl _,.refl _,.refl _,.refl _,.refl _,.refl _,trivial⟩,rfl,trivial⟩
      refine ⟨fun _ f hI => ?_,?_⟩
      ·conv => whnf
       refine .inr (XOp.cut ti_ok (l:=i + 1) (r:=xs.length + 1) rfl rfl rfl rfl (.inr ⟨_,_,rfl,rfl⟩) (.inl ⟨rfl,rfl⟩) (by omega) (by omega) ?_)
       rw [hci1]
       exact ⟨(),⟨.refl _,.refl _,.refl _,.refl _,.refl _,.refl _,.refl _,.refl _,.refl _,.refl _,.refl _,.refl _,.refl _,trivial⟩,rfl,trivial⟩
      refine ⟨fun _ f hI => ?_,?_⟩
      ·conv => whnf
       exact ⟨(),⟨.refl _,.refl _,.refl _,.refl _,.refl _,.refl _,.refl _,.refl _,.refl _,.refl _,.refl _,.refl _,.refl _,trivial⟩,rfl,trivial⟩
      refine ⟨fun _ f hI => ?_,?_⟩
      ·conv => whnf
       exact ⟨(),⟨.refl _,.refl _,.refl _,.refl _,.refl _,.refl _,.refl _,.refl _,.refl _,.refl _,.refl _,.refl _,.refl _,trivial⟩,rfl,trivial⟩
      refine ⟨fun _ f hI => ?_,?_⟩
      ·conv => whnf
       refine .inr (XOp.cut ti_ok (l:=i) (r:=xs.length + 1) rfl rfl rfl rfl (.inr ⟨_,_,rfl,rfl⟩) (.inl ⟨rfl,rfl⟩) (by omega) (by omega) ?_)
       rw [hci]
       exact ⟨(),⟨.refl _,.refl _,.refl _,.refl _,.refl _,.refl _,.refl _,.refl _,.refl _,.refl _,.refl _,.refl _,.refl _,trivial⟩,rfl,trivial⟩
      refine ⟨fun _ f hI => ?_,?_⟩
      ·conv => whnf
       refine .inr (XOp.copyRow ti_ok 2000 2000 (xs.length - i) (b:=b) (b2:=b) (i:=i + 1) (j:=i) (cap:=cap) (cap2:=cap) (xs:=xs) (ys:=xs) rfl rfl rfl rfl rfl rfl rfl rfl rfl rfl ?_ (by omega) (by omega) (by omega) (by omega) (by omega) ?_)
       ·show _ = min _ _
        omega
       rw [hx5,hl5]
       exact ⟨(),⟨.refl _,.refl _,.refl _,.refl _,.refl _,.refl _,.refl _,.refl _,.refl _,.refl _,.refl _,.refl _,.refl _,trivial⟩,rfl,trivial⟩
      exact trivial
     ·intro _ f hf
      conv => whnf
      refine Tri.forgetK [(0,.raw (.slice (some ⟨b,0,none⟩) (xs.length + 1) cap)),(1,.int .i64 (i : Int)),(2,.sl .none 12 [y])] [(2000,.row (.slice (some ⟨b,0,none⟩) (xs.length + 1) cap) xs5 12 25)] [(2000,2000)] ⟨⟨.refl _,.refl _,.refl _,trivial⟩,rfl,rfl,?_,trivial⟩ ?_
      ·show some (bif f 8 then _ else _) = _
       rw [hf 8 (by decide +kernel)]; rfl
      refine Tri.seq ?_
      refine Tri.regionX ti_ok ?_
      conv => whnf
      refine .inr (XOp.cut ti_ok (l:=i) (r:=xs.length + 1) rfl rfl rfl rfl (.inr ⟨_,_,rfl,rfl⟩) (.inl ⟨rfl,rfl⟩) (by omega) (by omega) ?_)
      rw [hci]
      conv => whnf
      refine .inr (XOp.copySl ti_ok 2000 (b:=b) (i:=i) (cap:=cap) (xs:=xs5) (ys:=[y]) rfl rfl rfl rfl rfl rfl ?_ rfl (by simp) (by simp; omega) (by omega) (by omega) (by simp; omega) ?_)
      ·show some (HObj.row (.slice (some ⟨b,0,none⟩) (xs.length + 1) cap) xs5 12 25) = _
       rw [hl5]
      conv => whnf
      rw [show ins xs5 i [y] = xs.take i ++ y::xs.drop i from he5,show (xs.take i ++ y::xs.drop i).length = xs.length + 1 by simp; omega]
      refine Tri.seq ?_
      refine Tri.region ti_ok ?_
      conv => whnf
      refine Tri.retK [(6,.raw (.slice (some ⟨b,0,none⟩) (xs.length + 1) cap))] [(2000,.row (.slice (some ⟨b,0,none⟩) (xs.length + 1) cap) (xs.take i ++ y::xs.drop i) 12 25)] [(2000,2000)] ⟨⟨.refl _,trivial⟩,rfl,rfl,rfl,trivial⟩ ?_
      conv => whnf
      exact ⟨_,.refl _,_,rfl,rfl⟩
    ·cases hc3
end Go.Tame.V
/- The example of chapter 48,computed. -/
namespace Go.Tame.V
open Go Go.Proofs Go.Ev
variable {W0 : World}
set_option maxRecDepth 100000
set_option maxHeartbeats 0
set_option linter.unusedVariables false
noncomputable def o55 : List AV → Go.Ev.St → Option (AV × Go.Ev.St):=orO (puO (memo c1s c1a (.int .i64 (.ofNat 0)))) (orO (puO (memo c2s c2a (.int .i64 (.ofNat 0)))) (orO (puO (memo c3s c3a (.int .i64 (.ofNat 0)))) (puO (memo c4s c4a (.int .i64 (.ofNat 0))))))
theorem o55_ok (hL : LibOk W0) : OraOk Tryz.prog W0 55 o55:=orO_ok (c1_ora hL) (orO_ok (c2_ora hL) (orO_ok (c3_ora hL) (c4_ora hL)))
theorem o79_ok : OraOk Tryz.prog W0 79 (insO 12 25):=insO_ok fun xs v i y h1 h2 h3 => K79 xs v i y h1 h2 h3
noncomputable def libL3 : List (Nat × (List AV → Go.Ev.St → Option (AV × Go.Ev.St))):=(79,insO 12 25)::(55,o55)::libL2
theorem libL3_ok (hL : LibOk W0) : ∀ p ∈ libL3,OraOk Tryz.prog W0 p.1 p.2:=by
 intro p hp
 rcases List.mem_cons.1 hp with rfl | hp
 ·exact o79_ok
 rcases List.mem_cons.1 hp with rfl | hp
 ·exact o55_ok hL
 ·exact libL2_ok hL p hp
theorem awake_run : runB (tabO libL3) Tryz.prog 200 6 = true:=by decide +kernel
/-- The example of the chapter holds. -/
theorem awake48 (hL : LibOk W0) : DFun Tryz.prog W0 6 [] (.bool true):=dfun_of_run rfl (tabO_ok (libL3_ok hL)) awake_run
end Go.Tame.V
