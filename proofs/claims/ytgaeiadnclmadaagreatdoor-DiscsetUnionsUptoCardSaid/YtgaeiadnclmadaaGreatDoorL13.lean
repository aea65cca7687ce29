/- A program logic of my own over the model, and contracts of this program's functions by it: part 13. No conditions of its own: each theorem states its own. -/
import Derived.Test.YtgaeiadnclmadaaGreatDoorL12
set_option linter.unnecessarySimpa false
set_option linter.unusedSimpArgs false
set_option linter.unusedVariables false
/- The table of types,with those of files. By program. -/
namespace Go.Tame.V
open Go Go.Proofs
def ti2 : List TEnt:=[
 ⟨3,false,1,8,.int .i64,[],some [.int .i64 0],[]⟩,
 ⟨9,false,1,16,.str,[],some [.str []],[]⟩,
 ⟨25,true,12,152,.struct,[(0,1,false),(1,1,false),(2,1,false),(3,1,false),(4,1,false),(5,1,false),(6,1,false),(7,1,false),(8,1,false),(9,1,false),(10,1,false),(11,1,false)],some [.str [],.int .i64 0,.str [],.str [],.int .i64 0,.int .i64 0,.int .i64 0,.int .i64 0,.int .i64 0,.int .i64 0,.nils,.nils],[]⟩,
 ⟨4,false,1,1,.bool,[],some [.bool false],[]⟩,
 ⟨22,false,1,24,.slice 25,[],some [.nils],[]⟩,
 ⟨23,false,1,24,.slice 71,[],some [.nils],[]⟩,
 ⟨71,true,2,32,.struct,[(0,1,false),(1,1,false)],some [.str [],.str []],[.str,.str]⟩,
 ⟨26,false,1,24,.slice 9,[],some [.nils],[]⟩,
 ⟨34,false,1,8,.int .i64,[],some [.int .i64 0],[]⟩,
 ⟨21,false,1,4,.int .i32,[],some [.int .i32 0],[]⟩,
 ⟨5,false,1,1,.int .u8,[],some [.int .u8 0],[]⟩,
 ⟨139,false,1,24,.slice 3,[],some [.nils],[]⟩,
 ⟨109,true,13,160,.struct,[(0,12,true),(12,1,false)],some [.str [],.int .i64 0,.str [],.str [],.int .i64 0,.int .i64 0,.int .i64 0,.int .i64 0,.int .i64 0,.int .i64 0,.nils,.nils,.int .i64 0],[]⟩,
 ⟨111,false,1,24,.slice 110,[],some [.nils],[]⟩,
 ⟨110,false,1,8,.other,[],some [.raw .nilFunc],[]⟩,
 ⟨93,false,1,8,.other,[],some [.raw .nilFunc],[]⟩,
 ⟨282,true,14,184,.struct,[(0,12,true),(12,1,false),(13,1,false)],some [.str [],.int .i64 0,.str [],.str [],.int .i64 0,.int .i64 0,.int .i64 0,.int .i64 0,.int .i64 0,.int .i64 0,.nils,.nils,.str [],.str []],[]⟩,
 ⟨325,false,1,24,.slice 21,[],some [.nils],[]⟩,
 ⟨224,false,1,24,.slice 5,[],some [.nils],[]⟩,
 ⟨327,true,2,48,.struct,[(0,1,false),(1,1,false)],some [.nils,.nils],[]⟩,
 ⟨2,false,1,8,.int .i64,[],some [.int .i64 0],[]⟩,
 ⟨294,false,1,4,.int .u32,[],some [.int .u32 0],[]⟩,
 ⟨379,false,1,8,.int .u64,[],some [.int .u64 0],[]⟩,
 ⟨387,false,1,8,.other,[],some [.raw .nilFunc],[]⟩,
 ⟨430,false,1,24,.slice 387,[],some [.nils],[]⟩,
 ⟨28,true,8,104,.struct,[(0,1,false),(1,1,false),(2,1,false),(3,1,false),(4,1,false),(5,1,false),(6,1,false),(7,1,false)],some [.str [],.str [],.str [],.str [],.str [],.int .i64 0,.int .i64 0,.int .i64 0],[.str,.str,.str,.str,.str,.int .i64,.int .i64,.int .i64]⟩,
 ⟨31,true,13,160,.struct,[(0,8,true),(8,1,false),(9,1,false),(10,1,false),(11,1,false),(12,1,false)],some [.str [],.str [],.str [],.str [],.str [],.int .i64 0,.int .i64 0,.int .i64 0,.int .i64 0,.int .i64 0,.nils,.int .i64 0,.bool false],[]⟩,
 ⟨29,false,1,24,.slice 54,[],some [.nils],[]⟩,
 ⟨54,true,6,56,.struct,[(0,1,false),(1,1,false),(2,1,false),(3,1,false),(4,1,false),(5,1,false)],some [.str [],.int .i64 0,.int .i64 0,.int .i64 0,.int .i64 0,.bool false],[.str,.int .i64,.int .i64,.int .i64,.int .i64,.bool]⟩,
 ⟨51,false,1,24,.slice 31,[],some [.nils],[]⟩,
 ⟨85,false,1,24,.slice 26,[],some [.nils],[]⟩,
 ⟨103,false,1,8,.other,[],some [.raw .nilFunc],[]⟩,
 ⟨101,false,1,8,.other,[],some [.raw .nilFunc],[]⟩,
 ⟨61,false,1,24,.slice 156,[],some [.nils],[]⟩,
 ⟨156,true,3,32,.struct,[(0,1,false),(1,1,false),(2,1,false)],some [.str [],.int .i64 0,.int .i64 0],[.str,.int .i64,.int .i64]⟩,
 ⟨64,false,1,8,.other,[],some [.raw (.map none)],[]⟩]
end Go.Tame.V
/- The table of types,with uint. By program. -/
namespace Go.Tame.V
open Go Go.Proofs
def ti3 : List TEnt:=⟨121,false,1,8,.int .u64,[],some [.int .u64 0],[]⟩::ti2
set_option maxRecDepth 100000 in
theorem ti3_ok : TOk Tryz.prog ti3:=TOk.of (by kernel_rfl)
theorem at_natM {α : Type} {f : α → D} {xs : List α} {i : Nat} (h : i < xs.length) : (xs.map f)[Int.toNat (i : Int)]? = some (f xs[i]):=by
 rw [Int.toNat_natCast,List.getElem?_map,List.getElem?_eq_getElem h]; rfl
theorem at_predM {α : Type} {f : α → D} {xs : List α} {i j : Nat} (h : i < xs.length) (hj : j ≤ i) : (xs.map f)[Int.toNat ((i : Int) - (j : Int))]? = some (f (xs[i - j]'(by omega))):=by
 rw [show Int.toNat ((i : Int) - (j : Int)) = i - j by omega,List.getElem?_map,List.getElem?_eq_getElem (by omega)]; rfl
theorem half (i j : Nat) : ∃ h : Nat,Int.fdiv ((i : Int) + (j : Int)) (2 ^ min (Int.toNat 1) (IntKind.bits .u64)) = (h : Int) ∧ 2 * h ≤ i + j ∧ i + j ≤ 2 * h + 1:=by
 refine ⟨(i + j) / 2,?_,by omega,by omega⟩
 show Int.fdiv ((i : Int) + (j : Int)) 2 = _
 rw [Int.fdiv_eq_ediv_of_nonneg _ (by decide)]
 omega
end Go.Tame.V
/- Contracts: sorts of what is sorted. By program (mkk13.py,mk.py). -/
namespace Go.Tame.V
open Go Go.Proofs
variable {W0 : World}
set_option maxRecDepth 10000
set_option linter.unusedVariables false
set_option linter.unusedSimpArgs false

theorem K115 (l : List SV) (fid : Nat) (hcmp : ∀ i j (hij : i < j) (hj : j < l.length),DFun Tryz.prog W0 fid [encS l[j],encS (l[i]'(by omega))] (.int .i64 1)) (hl : l.length < 1000000) (a b : Nat) (ha : a ≤ l.length) (hb : b ≤ l.length) : DFun Tryz.prog W0 115 [.sl .none 2 (l.map encS),.int .i64 (a : Nat),.int .i64 (b : Nat),.fn (.func fid) [] []] (.tup []):=by
 refine DFun.intro ti3_ok Tryz.func115 rfl (by decide +kernel) Tryz.ntmps115 rfl fun Γ => ?_
 refine Tri.seq ?_
 refine Tri.region ti3_ok ?_
 conv => whnf
 refine .inl ⟨fun _ => by simp only [InR]; omega,?_⟩
 conv => whnf
 refine Tri.block ?_
 refine Tri.loop (α:={ i : Nat // a + 1 ≤ i ∧ (i ≤ a + 1 ∨ i ≤ b) }) (fun x => [(0,.sl .none 2 (l.map encS)),(1,.int .i64 (a : Nat)),(2,.int .i64 (b : Nat)),(3,.fn (.func fid) [] []),(8,.int .i64 (x.1 : Nat))]) (fun _ => []) (fun x => b - x.1) ⟨a + 1,by omega⟩ ⟨.refl _,.refl _,.refl _,.refl _,.refl _,trivial⟩ trivial ?_
 rintro ⟨i,hi⟩
 dsimp only
 refine Tri.seq ?_
 refine Tri.seq ?_
 refine Tri.region ti3_ok ?_
 conv => whnf
 refine Tri.cond (decide ((i : Int) < b)) rfl (fun hc => ?_) (fun hc => ?_)
 ·have hib : i < b:=by simpa using hc
  refine Tri.skip ?_
  conv => whnf
  refine Tri.seq ?_
  refine Tri.block ?_
  refine Tri.seq ?_
  refine Tri.region ti3_ok ?_
  conv => whnf
  refine Tri.block ?_
  refine Tri.loop (α:=Unit) (fun x => [(0,.sl .none 2 (l.map encS)),(1,.int .i64 (a : Nat)),(2,.int .i64 (b : Nat)),(3,.fn (.func fid) [] []),(8,.int .i64 (i : Nat)),(9,.int .i64 (i : Nat))]) (fun _ => []) (fun _ => 0) () ⟨.refl _,.refl _,.refl _,.refl _,.refl _,.refl _,trivial⟩ trivial ?_
  rintro ⟨⟩
  refine Tri.seq ?_
  refine Tri.seq ?_
  refine Tri.draw ti3_ok mixed (by kernel_rfl) ?_
  conv => whnf
  refine ⟨fun h => h,?_⟩
  conv => whnf
  refine ⟨fun h => h,?_⟩
  conv => whnf
  refine ⟨fun h => by simp; omega,?_⟩
  conv => whnf
  refine ⟨fun h => h,?_⟩
  conv => whnf
  refine ⟨encS (l[i]'(by omega)),fun h => at_natM (by omega),?_⟩
  conv => whnf
  refine ⟨fun h => h,?_⟩
  conv => whnf
  refine .inl ⟨fun h => by simp only [InR]; omega,?_⟩
  conv => whnf
  refine ⟨fun h => h,?_⟩
  conv => whnf
  refine ⟨fun h => h,?_⟩
  conv => whnf
  refine ⟨fun h => by simp; omega,?_⟩
  conv => whnf
  refine ⟨fun h => h,?_⟩
  conv => whnf
  refine ⟨encS (l[i - 1]'(by omega)),fun h => at_predM (j:=1) (by omega) (by omega),?_⟩
  conv => whnf
  refine ⟨fun h => h,?_⟩
  conv => whnf
  refine ⟨fun h => h,?_⟩
  conv => whnf
  refine ⟨fun h => h,?_⟩
  conv => whnf
  refine ⟨[encS (l[i]'(by omega)),encS (l[i - 1]'(by omega))],_,fun h => hcmp (i - 1) i (by omega) (by omega),⟨.refl _,.refl _,trivial⟩,?_⟩
  conv => whnf
  refine ⟨fun h => h,?_⟩
  conv => whnf
  refine ⟨fun h0 h => by first | exact h | (rw [h]; rfl) | (rw [h0,h]; rfl),?_⟩
  conv => whnf
  refine Tri.cond _ rfl (fun hc2 => ?_) (fun hc2 => ?_)
  ·exact absurd hc2 (by cases decide ((a : Int) < (i : Int)) <;> decide)
  ·refine Tri.exit ?_
   conv => whnf
   refine Tri.region ti3_ok ?_
   conv => whnf
   refine .inl ⟨fun _ => by simp only [InR]; omega,?_⟩
   conv => whnf
   exact ⟨⟨i + 1,by omega⟩,by show b - (i + 1) < b - i; omega,⟨.refl _,.refl _,.refl _,.refl _,.refl _,trivial⟩,trivial⟩
 ·refine Tri.exit ?_
  conv => whnf
  exact trivial
theorem K118 (l : List NV) (fid : Nat) (hcmp : ∀ i j (hij : i < j) (hj : j < l.length),DFun Tryz.prog W0 fid [encTop l[j],encTop (l[i]'(by omega))] (.int .i64 1)) (hl : l.length < 1000000) (a b : Nat) (ha : a ≤ l.length) (hb : b ≤ l.length) : DFun Tryz.prog W0 118 [.sl .none 12 (l.map encTop),.int .i64 (a : Nat),.int .i64 (b : Nat),.fn (.func fid) [] []] (.tup []):=by
 refine DFun.intro ti3_ok Tryz.func118 rfl (by decide +kernel) Tryz.ntmps118 rfl fun Γ => ?_
 refine Tri.seq ?_
 refine Tri.region ti3_ok ?_
 conv => whnf
 refine .inl ⟨fun _ => by simp only [InR]; omega,?_⟩
 conv => whnf
 refine Tri.block ?_
 refine Tri.loop (α:={ i : Nat // a + 1 ≤ i ∧ (i ≤ a + 1 ∨ i ≤ b) }) (fun x => [(0,.sl .none 12 (l.map encTop)),(1,.int .i64 (a : Nat)),(2,.int .i64 (b : Nat)),(3,.fn (.func fid) [] []),(8,.int .i64 (x.1 : Nat))]) (fun _ => []) (fun x => b - x.1) ⟨a + 1,by omega⟩ ⟨.refl _,.refl _,.refl _,.refl _,.refl _,trivial⟩ trivial ?_
 rintro ⟨i,hi⟩
 dsimp only
 refine Tri.seq ?_
 refine Tri.seq ?_
 refine Tri.region ti3_ok ?_
 conv => whnf
 refine Tri.cond (decide ((i : Int) < b)) rfl (fun hc => ?_) (fun hc => ?_)
 ·have hib : i < b:=by simpa using hc
  refine Tri.skip ?_
  conv => whnf
  refine Tri.seq ?_
  refine Tri.block ?_
  refine Tri.seq ?_
  refine Tri.region ti3_ok ?_
  conv => whnf
  refine Tri.block ?_
  refine Tri.loop (α:=Unit) (fun x => [(0,.sl .none 12 (l.map encTop)),(1,.int .i64 (a : Nat)),(2,.int .i64 (b : Nat)),(3,.fn (.func fid) [] []),(8,.int .i64 (i : Nat)),(9,.int .i64 (i : Nat))]) (fun _ => []) (fun _ => 0) () ⟨.refl _,.refl _,.refl _,.refl _,.refl _,.refl _,trivial⟩ trivial ?_
  rintro ⟨⟩
  refine Tri.seq ?_
  refine Tri.seq ?_
  refine Tri.draw ti3_ok mixed (by kernel_rfl) ?_
  conv => whnf
  refine ⟨fun h => h,?_⟩
  conv => whnf
  refine ⟨fun h => h,?_⟩
  conv => whnf
  refine ⟨fun h => by simp; omega,?_⟩
  conv => whnf
  refine ⟨fun h => h,?_⟩
  conv => whnf
  refine ⟨encTop (l[i]'(by omega)),fun h => at_natM (by omega),?_⟩
  conv => whnf
  refine ⟨fun h => h,?_⟩
  conv => whnf
  refine .inl ⟨fun h => by simp only [InR]; omega,?_⟩
  conv => whnf
  refine ⟨fun h => h,?_⟩
  conv => whnf
  refine ⟨fun h => h,?_⟩
  conv => whnf
  refine ⟨fun h => by simp; omega,?_⟩
  conv => whnf
  refine ⟨fun h => h,?_⟩
  conv => whnf
  refine ⟨encTop (l[i - 1]'(by omega)),fun h => at_predM (j:=1) (by omega) (by omega),?_⟩
  conv => whnf
  refine ⟨fun h => h,?_⟩
  conv => whnf
  refine ⟨fun h => h,?_⟩
  conv => whnf
  refine ⟨fun h => h,?_⟩
  conv => whnf
  refine ⟨[encTop (l[i]'(by omega)),encTop (l[i - 1]'(by omega))],_,fun h => hcmp (i - 1) i (by omega) (by omega),⟨.refl _,.refl _,trivial⟩,?_⟩
  conv => whnf
  refine ⟨fun h => h,?_⟩
  conv => whnf
  refine ⟨fun h0 h => by first | exact h | (rw [h]; rfl) | (rw [h0,h]; rfl),?_⟩
  conv => whnf
  refine Tri.cond _ rfl (fun hc2 => ?_) (fun hc2 => ?_)
  ·exact absurd hc2 (by cases decide ((a : Int) < (i : Int)) <;> decide)
  ·refine Tri.exit ?_
   conv => whnf
   refine Tri.region ti3_ok ?_
   conv => whnf
   refine .inl ⟨fun _ => by simp only [InR]; omega,?_⟩
   conv => whnf
   exact ⟨⟨i + 1,by omega⟩,by show b - (i + 1) < b - i; omega,⟨.refl _,.refl _,.refl _,.refl _,.refl _,trivial⟩,trivial⟩
 ·refine Tri.exit ?_
  conv => whnf
  exact trivial
theorem K119 (l : List NV) (fid : Nat) (hcmp : ∀ i j (hij : i < j) (hj : j < l.length),DFun Tryz.prog W0 fid [encTop l[j],encTop (l[i]'(by omega))] (.int .i64 1)) (hl : l.length < 1000000) : ∀ (N a m b : Nat),b - a < N → a < m → m < b → b ≤ l.length → DFun Tryz.prog W0 119 [.sl .none 12 (l.map encTop),.int .i64 (a : Nat),.int .i64 (m : Nat),.int .i64 (b : Nat),.fn (.func fid) [] []] (.tup []):=by
 refine fun N => Nat.rec (fun a m b h => absurd h (Nat.not_lt_zero _)) (fun N ih a m b hN ham hmb hb => ?_) N
 refine DFun.intro ti3_ok Tryz.func119 rfl (by decide +kernel) Tryz.ntmps119 rfl fun Γ => ?_
 refine Tri.seq ?_
 refine Tri.seq ?_
 refine Tri.region ti3_ok ?_
 conv => whnf
 refine .inl ⟨fun _ => by simp only [InR]; omega,?_⟩
 conv => whnf
 refine Tri.cond _ rfl (fun hc => ?_) (fun hc => ?_)
 ·have h1 : m = a + 1:=by simp at hc; omega
  refine Tri.seq ?_
  refine Tri.region ti3_ok ?_
  conv => whnf
  refine Tri.seq ?_
  refine Tri.region ti3_ok ?_
  conv => whnf
  refine Tri.seq ?_
  refine Tri.block ?_
  refine Tri.loop (α:={ j : Nat // m ≤ j ∧ j ≤ b }) (fun x => [(0,.sl .none 12 (l.map encTop)),(1,.int .i64 (a : Nat)),(2,.int .i64 (m : Nat)),(3,.int .i64 (b : Nat)),(4,.fn (.func fid) [] []),(10,.int .i64 (m : Nat)),(11,.int .i64 (x.1 : Nat))]) (fun _ => []) (fun x => x.1 - m) ⟨b,by omega⟩ ⟨.refl _,.refl _,.refl _,.refl _,.refl _,.refl _,.refl _,trivial⟩ trivial ?_
  rintro ⟨j,hj⟩
  dsimp only
  refine Tri.seq ?_
  refine Tri.seq ?_
  refine Tri.region ti3_ok ?_
  conv => whnf
  refine Tri.cond (decide ((m : Int) < j)) rfl (fun hc2 => ?_) (fun hc2 => ?_)
  ·have hmj : m < j:=by simpa using hc2
   refine Tri.skip ?_
   conv => whnf
   refine Tri.block ?_
   refine Tri.seq ?_
   refine Tri.region ti3_ok ?_
   conv => whnf
   refine .inl ⟨fun _ => by simp only [InR]; omega,?_⟩
   conv => whnf
   refine .inl ⟨by simp only [InR]; omega,?_⟩
   conv => whnf
   refine ⟨fun _ => by decide,?_⟩
   conv => whnf
   refine .inl ⟨by obtain ⟨z,hz,_,_⟩:=half m j; simp only [InR]; rw [hz]; omega,?_⟩
   conv => whnf
   obtain ⟨h,hz,hm1,hm2⟩:=half m j
   rw [hz]
   clear hz
   refine Tri.seq ?_
   refine Tri.draw ti3_ok mixed (by kernel_rfl) ?_
   conv => whnf
   refine ⟨fun _ => by simp; omega,?_⟩
   conv => whnf
   refine ⟨encTop (l[h]'(by omega)),fun _ => at_natM (by omega),?_⟩
   conv => whnf
   refine ⟨fun _ => by simp; omega,?_⟩
   conv => whnf
   refine ⟨encTop (l[a]'(by omega)),fun _ => at_natM (by omega),?_⟩
   conv => whnf
   refine ⟨[encTop (l[h]'(by omega)),encTop (l[a]'(by omega))],_,fun _ => hcmp a h (by omega) (by omega),⟨.refl _,.refl _,trivial⟩,?_⟩
   conv => whnf
   refine Tri.cond _ rfl (fun hc3 => ?_) (fun hc3 => ?_)
   ·exact absurd hc3 (by decide)
   ·refine Tri.region ti3_ok ?_
    conv => whnf
    exact ⟨⟨h,by omega⟩,by show h - m < j - m; omega,⟨.refl _,.refl _,.refl _,.refl _,.refl _,.refl _,.refl _,trivial⟩,trivial⟩
  ·refine Tri.exit ?_
   conv => whnf
   refine Tri.seq ?_
   refine Tri.seq ?_
   refine Tri.region ti3_ok ?_
   conv => whnf
   refine Tri.block ?_
   refine Tri.loop (α:=Unit) (fun x => [(0,.sl .none 12 (l.map encTop)),(1,.int .i64 (a : Nat)),(2,.int .i64 (m : Nat)),(3,.int .i64 (b : Nat)),(4,.fn (.func fid) [] []),(10,.int .i64 (m : Nat)),(13,.int .i64 (a : Nat))]) (fun _ => []) (fun _ => 0) () ⟨.refl _,.refl _,.refl _,.refl _,.refl _,.refl _,.refl _,trivial⟩ trivial ?_
   rintro ⟨⟩
   refine Tri.seq ?_
   refine Tri.seq ?_
   refine Tri.region ti3_ok ?_
   conv => whnf
   refine .inl ⟨fun _ => by simp only [InR]; omega,?_⟩
   conv => whnf
   refine Tri.cond (decide ((a : Int) < (m : Int) - 1)) rfl (fun hc3 => ?_) (fun hc3 => ?_)
   ·exact absurd hc3 (by simp; omega)
   ·refine Tri.exit ?_
    conv => whnf
    refine Tri.ret ?_
    conv => whnf
    exact trivial
 ·have h1 : ¬ m = a + 1:=fun e => by simp at hc; omega
  refine Tri.skip ?_
  conv => whnf
  refine Tri.seq ?_
  refine Tri.seq ?_
  refine Tri.region ti3_ok ?_
  conv => whnf
  refine .inl ⟨fun _ => by simp only [InR]; omega,?_⟩
  conv => whnf
  refine Tri.cond _ rfl (fun hc2 => ?_) (fun hc2 => ?_)
  ·have h2 : b = m + 1:=by simp at hc2; omega
   refine Tri.seq ?_
   refine Tri.region ti3_ok ?_
   conv => whnf
   refine Tri.seq ?_
   refine Tri.region ti3_ok ?_
   conv => whnf
   refine Tri.seq ?_
   refine Tri.block ?_
   refine Tri.loop (α:={ i : Nat // a ≤ i ∧ i ≤ m }) (fun x => [(0,.sl .none 12 (l.map encTop)),(1,.int .i64 (a : Nat)),(2,.int .i64 (m : Nat)),(3,.int .i64 (b : Nat)),(4,.fn (.func fid) [] []),(14,.int .i64 (x.1 : Nat)),(15,.int .i64 (m : Nat))]) (fun _ => []) (fun x => m - x.1) ⟨a,by omega⟩ ⟨.refl _,.refl _,.refl _,.refl _,.refl _,.refl _,.refl _,trivial⟩ trivial ?_
   rintro ⟨i,hi⟩
   dsimp only
   refine Tri.seq ?_
   refine Tri.seq ?_
   refine Tri.region ti3_ok ?_
   conv => whnf
   refine Tri.cond (decide ((i : Int) < m)) rfl (fun hc3 => ?_) (fun hc3 => ?_)
   ·have him : i < m:=by simpa using hc3
    refine Tri.skip ?_
    conv => whnf
    refine Tri.block ?_
    refine Tri.seq ?_
    refine Tri.region ti3_ok ?_
    conv => whnf
    refine .inl ⟨fun _ => by simp only [InR]; omega,?_⟩
    conv => whnf
    refine .inl ⟨by simp only [InR]; omega,?_⟩
    conv => whnf
    refine ⟨fun _ => by decide,?_⟩
    conv => whnf
    refine .inl ⟨by obtain ⟨z,hz,_,_⟩:=half i m; simp only [InR]; rw [hz]; omega,?_⟩
    conv => whnf
    obtain ⟨h,hz,hm1,hm2⟩:=half i m
    rw [hz]
    clear hz
    refine Tri.seq ?_
    refine Tri.draw ti3_ok mixed (by kernel_rfl) ?_
    conv => whnf
    refine ⟨fun _ => by simp; omega,?_⟩
    conv => whnf
    refine ⟨encTop (l[m]'(by omega)),fun _ => at_natM (by omega),?_⟩
    conv => whnf
    refine ⟨fun _ => by simp; omega,?_⟩
    conv => whnf
    refine ⟨encTop (l[h]'(by omega)),fun _ => at_natM (by omega),?_⟩
    conv => whnf
    refine ⟨[encTop (l[m]'(by omega)),encTop (l[h]'(by omega))],_,fun _ => hcmp h m (by omega) (by omega),⟨.refl _,.refl _,trivial⟩,?_⟩
    conv => whnf
    refine Tri.cond _ rfl (fun hc4 => ?_) (fun hc4 => ?_)
    ·refine Tri.region ti3_ok ?_
     conv => whnf
     refine .inl ⟨fun _ => by simp only [InR]; omega,?_⟩
     conv => whnf
     exact ⟨⟨h + 1,by omega⟩,by show m - (h + 1) < m - i; omega,⟨.refl _,.refl _,.refl _,.refl _,.refl _,.refl _,.refl _,trivial⟩,trivial⟩
    ·exact absurd hc4 (by decide)
   ·have hie : i = m:=by simp at hc3; omega
    refine Tri.exit ?_
    conv => whnf
    refine Tri.seq ?_
    refine Tri.seq ?_
    refine Tri.region ti3_ok ?_
    conv => whnf
    refine Tri.block ?_
    refine Tri.loop (α:=Unit) (fun x => [(0,.sl .none 12 (l.map encTop)),(1,.int .i64 (a : Nat)),(2,.int .i64 (m : Nat)),(3,.int .i64 (b : Nat)),(4,.fn (.func fid) [] []),(14,.int .i64 (i : Nat)),(17,.int .i64 (m : Nat))]) (fun _ => []) (fun _ => 0) () ⟨.refl _,.refl _,.refl _,.refl _,.refl _,.refl _,.refl _,trivial⟩ trivial ?_
    rintro ⟨⟩
    refine Tri.seq ?_
    refine Tri.seq ?_
    refine Tri.region ti3_ok ?_
    conv => whnf
    refine Tri.cond _ rfl (fun hc4 => ?_) (fun hc4 => ?_)
    ·exact absurd hc4 (by simp; omega)
    ·refine Tri.exit ?_
     conv => whnf
     refine Tri.ret ?_
     conv => whnf
     exact trivial
  ·have h2 : ¬ b = m + 1:=fun e => by simp at hc2; omega
   refine Tri.skip ?_
   conv => whnf
   refine Tri.seq ?_
   refine Tri.region ti3_ok ?_
   conv => whnf
   refine .inl ⟨fun _ => by simp only [InR]; omega,?_⟩
   conv => whnf
   refine .inl ⟨by simp only [InR]; omega,?_⟩
   conv => whnf
   refine ⟨fun _ => by decide,?_⟩
   conv => whnf
   refine .inl ⟨by obtain ⟨z,hz,_,_⟩:=half a b; simp only [InR]; rw [hz]; omega,?_⟩
   conv => whnf
   obtain ⟨d,hz,hm1,hm2⟩:=half a b
   rw [hz]
   clear hz
   refine Tri.seq ?_
   refine Tri.region ti3_ok ?_
   conv => whnf
   refine .inl ⟨fun _ => by simp only [InR]; omega,?_⟩
   conv => whnf
   refine Tri.seq ?_
   refine Tri.region ti3_ok ?_
   conv => whnf
   refine Tri.joinK (α:={ x : Nat × Nat // (m ≤ d ∧ x.1 = a ∧ x.2 = m) ∨ (d < m ∧ x.1 + b = d + m ∧ x.2 = d) }) (fun x => [(0,.sl .none 12 (l.map encTop)),(1,.int .i64 (a : Nat)),(2,.int .i64 (m : Nat)),(3,.int .i64 (b : Nat)),(4,.fn (.func fid) [] []),(18,.int .i64 (d : Nat)),(19,.int .i64 (((d + m : Nat)) : Int)),(20,.int .i64 (x.1.1 : Nat)),(21,.int .i64 (x.1.2 : Nat))]) (fun x => []) ?_ ?_
   ·refine Tri.seq ?_
    refine Tri.region ti3_ok ?_
    conv => whnf
    refine Tri.cond _ rfl (fun hc3 => ?_) (fun hc3 => ?_)
    ·have hdm : d < m:=by simpa using hc3
     refine Tri.seq ?_
     refine Tri.region ti3_ok ?_
     conv => whnf
     refine .inl ⟨fun _ => by simp only [InR]; omega,?_⟩
     conv => whnf
     refine Tri.region ti3_ok ?_
     conv => whnf
     exact ⟨⟨(d + m - b,d),.inr ⟨hdm,by omega,rfl⟩⟩,[],⟨.refl _,.refl _,.refl _,.refl _,.refl _,.refl _,.refl _,DLe.of_eq (congrArg (D.int .i64) (by show (d : Int) + m - b = ((d + m - b : Nat) : Int); omega)),.refl _,trivial⟩,rfl,trivial⟩
    ·have hdm : ¬ d < m:=by simp at hc3; omega
     refine Tri.seq ?_
     refine Tri.region ti3_ok ?_
     conv => whnf
     refine Tri.region ti3_ok ?_
     conv => whnf
     exact ⟨⟨(a,m),.inl ⟨by omega,rfl,rfl⟩⟩,[],⟨.refl _,.refl _,.refl _,.refl _,.refl _,.refl _,.refl _,.refl _,.refl _,trivial⟩,rfl,trivial⟩
   ·rintro ⟨⟨s,r⟩,hsr⟩
    dsimp only at hsr ⊢
    have hsrm : s ≤ r ∧ r ≤ m:=by omega
    refine Tri.seq ?_
    refine Tri.region ti3_ok ?_
    conv => whnf
    refine .inl ⟨fun _ => by simp only [InR]; omega,?_⟩
    conv => whnf
    refine Tri.seq ?_
    refine Tri.block ?_
    refine Tri.loop (α:={ c : Nat // s ≤ c ∧ c ≤ r }) (fun x => [(0,.sl .none 12 (l.map encTop)),(1,.int .i64 (a : Nat)),(2,.int .i64 (m : Nat)),(3,.int .i64 (b : Nat)),(4,.fn (.func fid) [] []),(18,.int .i64 (d : Nat)),(19,.int .i64 (((d + m : Nat)) : Int)),(20,.int .i64 (x.1 : Nat)),(21,.int .i64 (r : Nat)),(22,.int .i64 (((d + m - 1 : Nat)) : Int))]) (fun _ => []) (fun x => r - x.1) ⟨s,by omega⟩ ⟨.refl _,.refl _,.refl _,.refl _,.refl _,.refl _,.refl _,.refl _,.refl _,DLe.of_eq (congrArg (D.int .i64) (by show ((d + m : Nat) : Int) - 1 = ((d + m - 1 : Nat) : Int); omega)),trivial⟩ trivial ?_
    rintro ⟨c,hcr⟩
    dsimp only at hcr ⊢
    refine Tri.seq ?_
    refine Tri.seq ?_
    refine Tri.region ti3_ok ?_
    conv => whnf
    refine Tri.cond (decide ((c : Int) < r)) rfl (fun hc4 => ?_) (fun hc4 => ?_)
    ·have hclt : c < r:=by simpa using hc4
     refine Tri.skip ?_
     conv => whnf
     refine Tri.block ?_
     refine Tri.seq ?_
     refine Tri.region ti3_ok ?_
     conv => whnf
     refine .inl ⟨fun _ => by simp only [InR]; omega,?_⟩
     conv => whnf
     refine .inl ⟨by simp only [InR]; omega,?_⟩
     conv => whnf
     refine ⟨fun _ => by decide,?_⟩
     conv => whnf
     refine .inl ⟨by obtain ⟨z,hz,_,_⟩:=half c r; simp only [InR]; rw [hz]; omega,?_⟩
     conv => whnf
     obtain ⟨h,hz,hm1,hm2⟩:=half c r
     rw [hz]
     clear hz
     have hq1 : h < d + m - 1 - h:=by omega
     have hq2 : d + m - 1 - h < l.length:=by omega
     generalize hpe : d + m - 1 = p at *
     refine Tri.seq ?_
     refine Tri.draw ti3_ok mixed (by kernel_rfl) ?_
     conv => whnf
     refine .inl ⟨fun _ => by simp only [InR]; omega,?_⟩
     conv => whnf
     refine ⟨fun _ => by simp; omega,?_⟩
     conv => whnf
     refine ⟨encTop (l[p - h]'hq2),fun _ => by rw [show Int.toNat ((p : Int) - (h : Int)) = p - h by omega,List.getElem?_map,List.getElem?_eq_getElem hq2]; rfl,?_⟩
     conv => whnf
     refine ⟨fun _ => by simp; omega,?_⟩
     conv => whnf
     refine ⟨encTop (l[h]'(by omega)),fun _ => at_natM (by omega),?_⟩
     conv => whnf
     refine ⟨[encTop (l[p - h]'hq2),encTop (l[h]'(by omega))],_,fun _ => hcmp h (p - h) hq1 hq2,⟨.refl _,.refl _,trivial⟩,?_⟩
     conv => whnf
     refine Tri.cond _ rfl (fun hc5 => ?_) (fun hc5 => ?_)
     ·refine Tri.region ti3_ok ?_
      conv => whnf
      refine .inl ⟨fun _ => by simp only [InR]; omega,?_⟩
      conv => whnf
      exact ⟨⟨h + 1,by omega⟩,by show r - (h + 1) < r - c; omega,⟨.refl _,.refl _,.refl _,.refl _,.refl _,.refl _,.refl _,.refl _,.refl _,.refl _,trivial⟩,trivial⟩
     ·exact absurd hc5 (by decide)
    ·have hce : c = r:=by simp at hc4; omega
     subst hce
     refine Tri.exit ?_
     conv => whnf
     refine Tri.seq ?_
     refine Tri.region ti3_ok ?_
     conv => whnf
     refine .inl ⟨fun _ => by simp only [InR]; omega,?_⟩
     conv => whnf
     refine Tri.joinK (α:=Unit) (fun x => [(0,.sl .none 12 (l.map encTop)),(1,.int .i64 (a : Nat)),(2,.int .i64 (m : Nat)),(3,.int .i64 (b : Nat)),(4,.fn (.func fid) [] []),(18,.int .i64 (d : Nat)),(20,.int .i64 (c : Nat)),(24,.int .i64 (((d + m - c : Nat)) : Int))]) (fun x => []) ?_ ?_
     ·refine Tri.seq ?_
      refine Tri.region ti3_ok ?_
      conv => whnf
      refine ⟨fun h => h,?_⟩
      conv => whnf
      refine ⟨fun h => h,?_⟩
      conv => whnf
      refine ⟨fun h0 h => by first | exact h | (rw [h]; rfl) | (rw [h0,h]; rfl),?_⟩
      conv => whnf
      refine Tri.cond _ rfl (fun hc5 => ?_) (fun hc5 => ?_)
      ·exfalso
       have hc6 : (decide ((c : Int) < m) && decide ((m : Int) < ((d + m : Nat) : Int) - c)) = true:=by
        revert hc5
        cases decide ((c : Int) < m) <;> exact id
       simp at hc6
       omega
      ·refine Tri.skip ?_
       conv => whnf
       exact ⟨(),[],⟨.refl _,.refl _,.refl _,.refl _,.refl _,.refl _,.refl _,DLe.of_eq (congrArg (D.int .i64) (by show ((d + m : Nat) : Int) - (c : Int) = ((d + m - c : Nat) : Int); omega)),trivial⟩,rfl,trivial⟩
     ·rintro ⟨⟩
      refine Tri.joinK (α:=Unit) (fun x => [(0,.sl .none 12 (l.map encTop)),(1,.int .i64 (a : Nat)),(2,.int .i64 (m : Nat)),(3,.int .i64 (b : Nat)),(4,.fn (.func fid) [] []),(18,.int .i64 (d : Nat)),(20,.int .i64 (c : Nat)),(24,.int .i64 (((d + m - c : Nat)) : Int))]) (fun x => []) ?_ ?_
      ·refine Tri.seq ?_
       refine Tri.region ti3_ok ?_
       conv => whnf
       refine ⟨fun h => h,?_⟩
       conv => whnf
       refine ⟨fun h => h,?_⟩
       conv => whnf
       refine ⟨fun h0 h => by first | exact h | (rw [h]; rfl) | (rw [h0,h]; rfl),?_⟩
       conv => whnf
       refine Tri.cond _ rfl (fun hc5 => ?_) (fun hc5 => ?_)
       ·have hc6 : (decide ((a : Int) < c) && decide ((c : Int) < d)) = true:=by
         revert hc5
         cases decide ((a : Int) < c) <;> exact id
        simp at hc6
        refine Tri.region ti3_ok ?_
        conv => whnf
        refine ⟨[.sl .none 12 (l.map encTop),.int .i64 (a : Nat),.int .i64 (c : Nat),.int .i64 (d : Nat),.fn (.func fid) [] []],_,fun _ => ih a c d (by omega) (by omega) (by omega) (by omega),⟨.refl _,.refl _,.refl _,.refl _,.refl _,trivial⟩,?_⟩
        conv => whnf
        exact ⟨(),[],⟨.refl _,.refl _,.refl _,.refl _,.refl _,.refl _,.refl _,.refl _,trivial⟩,rfl,trivial⟩
       ·refine Tri.skip ?_
        conv => whnf
        exact ⟨(),[],⟨.refl _,.refl _,.refl _,.refl _,.refl _,.refl _,.refl _,.refl _,trivial⟩,rfl,trivial⟩
      ·rintro ⟨⟩
       refine Tri.seq ?_
       refine Tri.region ti3_ok ?_
       conv => whnf
       refine ⟨fun h => h,?_⟩
       conv => whnf
       refine ⟨fun h => h,?_⟩
       conv => whnf
       refine ⟨fun h0 h => by first | exact h | (rw [h]; rfl) | (rw [h0,h]; rfl),?_⟩
       conv => whnf
       refine Tri.cond _ rfl (fun hc5 => ?_) (fun hc5 => ?_)
       ·have hc6 : (decide ((d : Int) < ((d + m - c : Nat) : Int)) && decide (((d + m - c : Nat) : Int) < b)) = true:=by
         revert hc5
         cases decide ((d : Int) < ((d + m - c : Nat) : Int)) <;> exact id
        rw [Bool.and_eq_true,decide_eq_true_eq,decide_eq_true_eq] at hc6
        refine Tri.region ti3_ok ?_
        conv => whnf
        refine ⟨[.sl .none 12 (l.map encTop),.int .i64 (d : Nat),.int .i64 ((d + m - c : Nat) : Int),.int .i64 (b : Nat),.fn (.func fid) [] []],_,fun _ => ih d (d + m - c) b (by omega) (by omega) (by omega) (by omega),⟨.refl _,.refl _,.refl _,.refl _,.refl _,trivial⟩,?_⟩
        conv => whnf
        exact trivial
       ·refine Tri.skip ?_
        conv => whnf
        exact trivial
end Go.Tame.V
/- Contracts: SortStableFunc of what is sorted. By program (mkk14.py,mk.py). -/
namespace Go.Tame.V
open Go Go.Proofs
variable {W0 : World}
set_option maxRecDepth 10000
set_option linter.unusedVariables false
set_option linter.unusedSimpArgs false

theorem K99 (l : List SV) (fid : Nat) (hcmp : ∀ i j (hij : i < j) (hj : j < l.length),DFun Tryz.prog W0 fid [encS l[j],encS (l[i]'(by omega))] (.int .i64 1)) (hl : l.length ≤ 4) : DFun Tryz.prog W0 99 [.sl .none 2 (l.map encS),.int .i64 (l.length : Nat),.fn (.func fid) [] []] (.tup []):=by
 refine DFun.intro ti3_ok Tryz.func99 rfl (by decide +kernel) Tryz.ntmps99 rfl fun Γ => ?_
 refine Tri.seq ?_
 refine Tri.region ti3_ok ?_
 conv => whnf
 refine Tri.seq ?_
 refine Tri.region ti3_ok ?_
 conv => whnf
 refine Tri.seq ?_
 refine Tri.block ?_
 refine Tri.loop (α:=Unit) (fun x => [(0,.sl .none 2 (l.map encS)),(1,.int .i64 (l.length : Nat)),(2,.fn (.func fid) [] []),(6,.int .i64 20),(7,.int .i64 0),(8,.int .i64 20)]) (fun _ => []) (fun _ => 0) () ⟨.refl _,.refl _,.refl _,.refl _,.refl _,.refl _,trivial⟩ trivial ?_
 rintro ⟨⟩
 refine Tri.seq ?_
 refine Tri.seq ?_
 refine Tri.region ti3_ok ?_
 conv => whnf
 refine Tri.cond _ rfl (fun hc => ?_) (fun hc => ?_)
 ·exact absurd hc (by simp; omega)
 ·refine Tri.exit ?_
  conv => whnf
  refine Tri.seq ?_
  refine Tri.region ti3_ok ?_
  conv => whnf
  refine ⟨[.sl .none 2 (l.map encS),.int .i64 0,.int .i64 (l.length : Nat),.fn (.func fid) [] []],_,fun _ => K115 l fid hcmp (by omega) 0 l.length (by omega) (by omega),⟨.refl _,.refl _,.refl _,.refl _,trivial⟩,?_⟩
  conv => whnf
  refine Tri.block ?_
  refine Tri.loop (α:=Unit) (fun x => [(0,.sl .none 2 (l.map encS)),(1,.int .i64 (l.length : Nat)),(2,.fn (.func fid) [] []),(6,.int .i64 20)]) (fun _ => []) (fun _ => 0) () ⟨.refl _,.refl _,.refl _,.refl _,trivial⟩ trivial ?_
  rintro ⟨⟩
  refine Tri.seq ?_
  refine Tri.seq ?_
  refine Tri.region ti3_ok ?_
  conv => whnf
  refine Tri.cond _ rfl (fun hc => ?_) (fun hc => ?_)
  ·exact absurd hc (by simp; omega)
  ·refine Tri.exit ?_
   conv => whnf
   exact trivial
theorem K101 (l : List NV) (fid : Nat) (hcmp : ∀ i j (hij : i < j) (hj : j < l.length),DFun Tryz.prog W0 fid [encTop l[j],encTop (l[i]'(by omega))] (.int .i64 1)) (hl : l.length < 1000000) : DFun Tryz.prog W0 101 [.sl .none 12 (l.map encTop),.int .i64 (l.length : Nat),.fn (.func fid) [] []] (.tup []):=by
 refine DFun.intro ti3_ok Tryz.func101 rfl (by decide +kernel) Tryz.ntmps101 rfl fun Γ => ?_
 refine Tri.seq ?_
 refine Tri.region ti3_ok ?_
 conv => whnf
 refine Tri.seq ?_
 refine Tri.region ti3_ok ?_
 conv => whnf
 refine Tri.seq ?_
 refine Tri.block ?_
 refine Tri.loop (α:={ a : Nat // a ≤ l.length }) (fun x => [(0,.sl .none 12 (l.map encTop)),(1,.int .i64 (l.length : Nat)),(2,.fn (.func fid) [] []),(6,.int .i64 20),(7,.int .i64 (x.1 : Nat)),(8,.int .i64 ((x.1 + 20 : Nat) : Int))]) (fun _ => []) (fun x => l.length - x.1) ⟨0,by omega⟩ ⟨.refl _,.refl _,.refl _,.refl _,.refl _,DLe.of_eq rfl,trivial⟩ trivial ?_
 rintro ⟨a,ha⟩
 dsimp only
 refine Tri.seq ?_
 refine Tri.seq ?_
 refine Tri.region ti3_ok ?_
 conv => whnf
 refine Tri.cond (decide (((a + 20 : Nat) : Int) ≤ (l.length : Nat))) rfl (fun hc => ?_) (fun hc => ?_)
 ·have hb : a + 20 ≤ l.length:=by have:=of_decide_eq_true hc; omega
  refine Tri.skip ?_
  conv => whnf
  refine Tri.block ?_
  refine Tri.seq ?_
  refine Tri.region ti3_ok ?_
  conv => whnf
  refine ⟨[.sl .none 12 (l.map encTop),.int .i64 (a : Nat),.int .i64 ((a + 20 : Nat) : Int),.fn (.func fid) [] []],_,fun _ => K118 l fid hcmp hl a (a + 20) ha hb,⟨.refl _,.refl _,.refl _,.refl _,trivial⟩,?_⟩
  conv => whnf
  refine Tri.seq ?_
  refine Tri.region ti3_ok ?_
  conv => whnf
  refine Tri.region ti3_ok ?_
  conv => whnf
  refine .inl ⟨fun _ => by simp only [InR]; omega,?_⟩
  conv => whnf
  exact ⟨⟨a + 20,hb⟩,by show l.length - (a + 20) < l.length - a; omega,⟨.refl _,.refl _,.refl _,.refl _,.refl _,DLe.of_eq (congrArg (D.int .i64) (by show ((a + 20 : Nat) : Int) + 20 = ((a + 20 + 20 : Nat) : Int); omega)),trivial⟩,trivial⟩
 ·refine Tri.exit ?_
  conv => whnf
  refine Tri.seq ?_
  refine Tri.region ti3_ok ?_
  conv => whnf
  refine ⟨[.sl .none 12 (l.map encTop),.int .i64 (a : Nat),.int .i64 (l.length : Nat),.fn (.func fid) [] []],_,fun _ => K118 l fid hcmp hl a l.length ha (Nat.le_refl _),⟨.refl _,.refl _,.refl _,.refl _,trivial⟩,?_⟩
  conv => whnf
  refine Tri.block ?_
  refine Tri.loop (α:={ s : Nat // 1 ≤ s ∧ s ≤ 3000000 }) (fun x => [(0,.sl .none 12 (l.map encTop)),(1,.int .i64 (l.length : Nat)),(2,.fn (.func fid) [] []),(6,.int .i64 (x.1 : Nat))]) (fun _ => []) (fun x => l.length - x.1) ⟨20,by omega⟩ ⟨.refl _,.refl _,.refl _,DLe.of_eq rfl,trivial⟩ trivial ?_
  rintro ⟨s,hs⟩
  dsimp only
  refine Tri.seq ?_
  refine Tri.seq ?_
  refine Tri.region ti3_ok ?_
  conv => whnf
  refine Tri.cond (decide ((s : Int) < (l.length : Nat))) rfl (fun hc => ?_) (fun hc => ?_)
  ·have hsl : s < l.length:=by have:=of_decide_eq_true hc; omega
   refine Tri.skip ?_
   conv => whnf
   refine Tri.block ?_
   refine Tri.seq ?_
   refine Tri.region ti3_ok ?_
   conv => whnf
   refine .inl ⟨fun _ => by simp only [InR]; omega,?_⟩
   conv => whnf
   refine Tri.seq ?_
   refine Tri.block ?_
   refine Tri.loop (α:={ a : Nat // a ≤ l.length }) (fun x => [(0,.sl .none 12 (l.map encTop)),(1,.int .i64 (l.length : Nat)),(2,.fn (.func fid) [] []),(6,.int .i64 (s : Nat)),(7,.int .i64 (x.1 : Nat)),(8,.int .i64 ((x.1 + 2 * s : Nat) : Int))]) (fun _ => []) (fun x => l.length - x.1) ⟨0,by omega⟩ ⟨.refl _,.refl _,.refl _,.refl _,.refl _,DLe.of_eq (congrArg (D.int .i64) (by show (2 : Int) * s = ((0 + 2 * s : Nat) : Int); omega)),trivial⟩ trivial ?_
   rintro ⟨a,ha⟩
   dsimp only
   refine Tri.seq ?_
   refine Tri.seq ?_
   refine Tri.region ti3_ok ?_
   conv => whnf
   refine Tri.cond (decide (((a + 2 * s : Nat) : Int) ≤ (l.length : Nat))) rfl (fun hc2 => ?_) (fun hc2 => ?_)
   ·have hb : a + 2 * s ≤ l.length:=by have:=of_decide_eq_true hc2; omega
    refine Tri.skip ?_
    conv => whnf
    refine Tri.block ?_
    refine Tri.seq ?_
    refine Tri.region ti3_ok ?_
    conv => whnf
    refine .inl ⟨fun _ => by simp only [InR]; omega,?_⟩
    conv => whnf
    refine ⟨[.sl .none 12 (l.map encTop),.int .i64 (a : Nat),.int .i64 ((a + s : Nat) : Int),.int .i64 ((a + 2 * s : Nat) : Int),.fn (.func fid) [] []],_,fun _ => K119 l fid hcmp hl (l.length + 1) a (a + s) (a + 2 * s) (by omega) (by omega) (by omega) hb,⟨.refl _,.refl _,DLe.of_eq (congrArg (D.int .i64) (by show (a : Int) + s = ((a + s : Nat) : Int); omega)),.refl _,.refl _,trivial⟩,?_⟩
    conv => whnf
    refine Tri.seq ?_
    refine Tri.region ti3_ok ?_
    conv => whnf
    refine Tri.region ti3_ok ?_
    conv => whnf
    refine .inl ⟨fun _ => by simp only [InR]; omega,?_⟩
    conv => whnf
    refine .inl ⟨fun _ => by simp only [InR]; omega,?_⟩
    conv => whnf
    exact ⟨⟨a + 2 * s,hb⟩,by show l.length - (a + 2 * s) < l.length - a; omega,⟨.refl _,.refl _,.refl _,.refl _,.refl _,DLe.of_eq (congrArg (D.int .i64) (by show ((a + 2 * s : Nat) : Int) + 2 * (s : Int) = ((a + 2 * s + 2 * s : Nat) : Int); omega)),trivial⟩,trivial⟩
   ·refine Tri.exit ?_
    conv => whnf
    refine Tri.seq ?_
    refine Tri.seq ?_
    refine Tri.region ti3_ok ?_
    conv => whnf
    refine .inl ⟨fun _ => by simp only [InR]; omega,?_⟩
    conv => whnf
    refine Tri.seq ?_
    refine Tri.region ti3_ok ?_
    conv => whnf
    refine Tri.cond (decide ((a : Int) + s < (l.length : Nat))) rfl (fun hc3 => ?_) (fun hc3 => ?_)
    ·have hms : a + s < l.length:=by have:=of_decide_eq_true hc3; omega
     refine Tri.region ti3_ok ?_
     conv => whnf
     refine ⟨[.sl .none 12 (l.map encTop),.int .i64 (a : Nat),.int .i64 ((a + s : Nat) : Int),.int .i64 (l.length : Nat),.fn (.func fid) [] []],_,fun _ => K119 l fid hcmp hl (l.length + 1) a (a + s) l.length (by omega) (by omega) hms (Nat.le_refl _),⟨.refl _,.refl _,DLe.of_eq (congrArg (D.int .i64) (by show (a : Int) + s = ((a + s : Nat) : Int); omega)),.refl _,.refl _,trivial⟩,?_⟩
     conv => whnf
     refine Tri.region ti3_ok ?_
     conv => whnf
     refine .inl ⟨fun _ => by simp only [InR]; omega,?_⟩
     conv => whnf
     exact ⟨⟨s * 2,by omega⟩,by show l.length - s * 2 < l.length - s; omega,⟨.refl _,.refl _,.refl _,DLe.of_eq (congrArg (D.int .i64) (by show (s : Int) * 2 = ((s * 2 : Nat) : Int); omega)),trivial⟩,trivial⟩
    ·refine Tri.skip ?_
     conv => whnf
     refine Tri.region ti3_ok ?_
     conv => whnf
     refine .inl ⟨fun _ => by simp only [InR]; omega,?_⟩
     conv => whnf
     exact ⟨⟨s * 2,by omega⟩,by show l.length - s * 2 < l.length - s; omega,⟨.refl _,.refl _,.refl _,DLe.of_eq (congrArg (D.int .i64) (by show (s : Int) * 2 = ((s * 2 : Nat) : Int); omega)),trivial⟩,trivial⟩
  ·refine Tri.exit ?_
   conv => whnf
   exact trivial
theorem K71 (l : List SV) (fid : Nat) (hcmp : ∀ i j (hij : i < j) (hj : j < l.length),DFun Tryz.prog W0 fid [encS l[j],encS (l[i]'(by omega))] (.int .i64 1)) (hl : l.length ≤ 4) : DFun Tryz.prog W0 71 [.sl .none 2 (l.map encS),.fn (.func fid) [] []] (.tup []):=by
 refine DFun.intro ti_ok Tryz.func71 rfl (by decide +kernel) Tryz.ntmps71 rfl fun Γ => ?_
 refine Tri.region ti_ok ?_
 conv => whnf
 refine ⟨[.sl .none 2 (l.map encS),.int .i64 (l.length : Nat),.fn (.func fid) [] []],_,fun _ => K99 l fid hcmp hl,⟨.refl _,DLe.of_eq (congrArg (D.int .i64) (by simp)),.refl _,trivial⟩,?_⟩
 conv => whnf
 exact trivial
theorem K74 (l : List NV) (fid : Nat) (hcmp : ∀ i j (hij : i < j) (hj : j < l.length),DFun Tryz.prog W0 fid [encTop l[j],encTop (l[i]'(by omega))] (.int .i64 1)) (hl : l.length < 1000000) : DFun Tryz.prog W0 74 [.sl .none 12 (l.map encTop),.fn (.func fid) [] []] (.tup []):=by
 refine DFun.intro ti_ok Tryz.func74 rfl (by decide +kernel) Tryz.ntmps74 rfl fun Γ => ?_
 refine Tri.region ti_ok ?_
 conv => whnf
 refine ⟨[.sl .none 12 (l.map encTop),.int .i64 (l.length : Nat),.fn (.func fid) [] []],_,fun _ => K101 l fid hcmp hl,⟨.refl _,DLe.of_eq (congrArg (D.int .i64) (by simp)),.refl _,trivial⟩,?_⟩
 conv => whnf
 exact trivial
theorem K72 (x y : SV) : DFun Tryz.prog W0 72 [encS x,encS y] (.int .i64 (Lib.compareBytes x.name y.name)):=by
 refine DFun.intro ti_ok Tryz.func72 rfl (by decide +kernel) Tryz.ntmps72 rfl fun Γ => ?_
 refine Tri.seq ?_
 refine Tri.region ti_ok ?_
 conv => whnf
 intro b1
 conv => whnf
 intro b2
 conv => whnf
 refine Tri.seq ?_
 refine Tri.region ti_ok ?_
 conv => whnf
 refine ⟨rfl,?_⟩
 conv => whnf
 refine ⟨rfl,?_⟩
 conv => whnf
 refine ⟨[.str x.name,.str y.name],_,fun _ => F110 x.name y.name,⟨.refl _,.refl _,trivial⟩,?_⟩
 conv => whnf
 refine Tri.ret ?_
 conv => whnf
 exact .refl _
theorem K75 (x y : NV) : DFun Tryz.prog W0 75 [encTop x,encTop y] (.int .i64 (Lib.compareBytes x.name y.name)):=by
 refine DFun.intro ti_ok Tryz.func75 rfl (by decide +kernel) Tryz.ntmps75 rfl fun Γ => ?_
 refine Tri.seq ?_
 refine Tri.region ti_ok ?_
 conv => whnf
 intro b1
 conv => whnf
 intro b2
 conv => whnf
 refine Tri.seq ?_
 refine Tri.region ti_ok ?_
 conv => whnf
 refine ⟨rfl,?_⟩
 conv => whnf
 refine ⟨rfl,?_⟩
 conv => whnf
 refine ⟨[.str x.name,.str y.name],_,fun _ => F110 x.name y.name,⟨.refl _,.refl _,trivial⟩,?_⟩
 conv => whnf
 refine Tri.ret ?_
 conv => whnf
 exact .refl _
theorem K78 (x : NV) (q : List UInt8) : DFun Tryz.prog W0 78 [encTop x,.str q] (.int .i64 (Lib.compareBytes x.name q)):=by
 refine DFun.intro ti_ok Tryz.func78 rfl (by decide +kernel) Tryz.ntmps78 rfl fun Γ => ?_
 refine Tri.seq ?_
 refine Tri.region ti_ok ?_
 conv => whnf
 intro b1
 conv => whnf
 refine Tri.seq ?_
 refine Tri.region ti_ok ?_
 conv => whnf
 refine ⟨rfl,?_⟩
 conv => whnf
 refine ⟨[.str x.name,.str q],_,fun _ => F110 x.name q,⟨.refl _,.refl _,trivial⟩,?_⟩
 conv => whnf
 refine Tri.ret ?_
 conv => whnf
 exact .refl _
end Go.Tame.V
/- Contracts: clone,with its kids as a row. By program (mkk15.py). -/
namespace Go.Tame.V
open Go Go.Proofs
variable {W0 : World}
set_option maxRecDepth 10000
set_option linter.unusedVariables false
set_option linter.unusedSimpArgs false

/-- A node whose kids are a row. -/
def rowD (n : NV) (v : Value) : D:=.agg [.str n.name,.int .i64 n.kind,.str n.text,.str n.target,.int .i64 n.n1,.int .i64 n.n2,.int .i64 n.n3,.int .i64 n.n4,.int .i64 n.n5,.int .i64 n.n6,.raw v,.sl .none 2 (n.streams.map encS)]
theorem K67r (n : NV) (hz : sz n < 1000000000) : DCall Tryz.prog W0 67 [encTop n] Heap.none fun d H' => ∃ a m c,m = n.kids.length ∧ d = rowD n (.slice a m c) ∧ H' 2000 = some (.row (.slice a m c) (n.kids.map enc) 12 25):=by
 have hss : 2 * n.streams.length ≤ sz n:=by have:=szS_len n.streams; have:=sz_eq n; omega
 have hkl : 2 * n.kids.length ≤ sz n:=by have:=szL_len n.kids; have:=sz_eq n; omega
 refine DCall.intro ti_ok Tryz.func67 rfl (by decide +kernel) Tryz.ntmps67 rfl fun Γ => ?_
 refine Tri.seq ?_
 refine Tri.region ti_ok ?_
 conv => whnf
 intro b1
 conv => whnf
 intro b2
 conv => whnf
 refine Tri.seq ?_
 refine Tri.region ti_ok ?_
 conv => whnf
 refine ⟨rfl,?_⟩
 conv => whnf
 refine ⟨[.sl .none 2 (n.streams.map encS)],_,fun _ => F104 n.streams (by omega),⟨.refl _,trivial⟩,?_⟩
 conv => whnf
 refine ⟨rfl,?_⟩
 conv => whnf
 refine Tri.seq ?_
 refine Tri.region ti_ok ?_
 conv => whnf
 refine ⟨rfl,?_⟩
 conv => whnf
 refine Tri.seq ?_
 refine Tri.region ti_ok ?_
 conv => whnf
 refine ⟨rfl,?_⟩
 conv => whnf
 refine Tri.seq ?_
 refine Tri.seq ?_
 refine Tri.region ti_ok ?_
 conv => whnf
 refine Tri.block ?_
 refine Tri.boxLe 1 (cs':=[.str n.name,.int .i64 n.kind,.str n.text,.str n.target,.int .i64 n.n1,.int .i64 n.n2,.int .i64 n.n3,.int .i64 n.n4,.int .i64 n.n5,.int .i64 n.n6,.raw (.slice none 0 0),.sl .none 2 (n.streams.map encS)]) rfl ⟨.refl _,.refl _,.refl _,.refl _,.refl _,.refl _,.refl _,.refl _,.refl _,.refl _,DLe.nilRaw,.refl _,trivial⟩ ?_
 refine Tri.rowNil 109 12 25 ?_
 refine Tri.loopK (α:={ x : Nat × Value // x.1 ≤ n.kids.length }) (fun x => [(1,.box 1 b1 0),(2,.box 2 b2 0),(13,.sl .none 12 (n.kids.map enc)),(14,.int .i64 (n.kids.map enc).length),(15,.int .i64 x.1.1)]) (fun x => [(2,.box b2 [.str [],.int .i64 0,.str [],.str [],.int .i64 0,.int .i64 0,.int .i64 0,.int .i64 0,.int .i64 0,.int .i64 0,.nils,.nils]),(1,.box b1 [.str n.name,.int .i64 n.kind,.str n.text,.str n.target,.int .i64 n.n1,.int .i64 n.n2,.int .i64 n.n3,.int .i64 n.n4,.int .i64 n.n5,.int .i64 n.n6,.raw x.1.2,.sl .none 2 (n.streams.map encS)]),(109,.row x.1.2 ((n.kids.take x.1.1).map encTop) 12 25)]) (fun x => n.kids.length - x.1.1) ⟨(0,.slice none 0 0),Nat.zero_le _⟩ [(2,2),(1,1),(109,109)]
  ⟨⟨.refl _,.refl _,.refl _,.refl _,.refl _,trivial⟩,rfl,rfl,rfl,rfl,rfl,rfl,congrArg (fun z => some (HObj.row (.slice none 0 0) z 12 25)) (by simp),trivial⟩ ?_
 rintro ⟨⟨i,rv⟩,hi⟩
 dsimp only at hi ⊢
 refine Tri.seq ?_
 refine Tri.region ti_ok ?_
 conv => whnf
 refine Tri.seq ?_
 refine Tri.cond (decide ((i : Int) < (n.kids.map enc).length)) rfl (fun hc => ?_) (fun hc => ?_)
 ·refine Tri.skip ?_
  conv => whnf
  refine Tri.seq ?_
  refine Tri.block ?_
  refine Tri.seq ?_
  refine Tri.region ti_ok ?_
  have hia : i < n.kids.length:=by simpa using hc
  have hkz:=kid_sz hia
  conv => whnf
  refine ⟨fun _ => by simp; omega,?_⟩
  conv => whnf
  refine ⟨encTop n.kids[i],fun _ => get_kid hia,?_⟩
  conv => whnf
  intro b5
  conv => whnf
  refine ⟨rfl,?_⟩
  conv => whnf
  refine Tri.drawTailX ti_ok 5 mixed (by kernel_rfl) ?_
  conv => whnf
  refine ⟨rfl,?_⟩
  conv => whnf
  refine ⟨rfl,?_⟩
  conv => whnf
  refine ⟨[encTop n.kids[i]],_,fun _ => G117 (sz n.kids[i] + 1) n.kids[i] (by omega) (by omega),⟨.refl _,trivial⟩,?_⟩
  conv => whnf
  refine ⟨trivial,?_⟩
  conv => whnf
  refine .inr (XOp.rowAppend ti_ok 109 rfl rfl rfl (fun h => by cases h) rfl rfl rfl (Nat.zero_lt_one) ?_ ?_ fun aa mm cap => ?_)
  ·show (_ + 1) * 152 ≤ _
   simp; omega
  ·show _ + 1 ≤ _
   simp; omega
  refine .inl ?_
  conv => whnf
  refine ⟨rfl,?_⟩
  conv => whnf
  refine Tri.region ti_ok ?_
  conv => whnf
  refine .inl ⟨fun _ => by simp only [InR]; omega,?_⟩
  conv => whnf
  exact ⟨⟨(i + 1,.slice aa mm cap),hia⟩,[(2,2),(1,1),(109,24)],by show _ - (i + 1) < _ - i; omega,⟨.refl _,.refl _,.refl _,.refl _,.refl _,trivial⟩,rfl,rfl,rfl,rfl,rfl,rfl,congrArg (fun z => some (HObj.row (.slice aa mm cap) z 12 25)) (by exact kids_next hia),trivial⟩
 ·refine Tri.exit ?_
  have hin : i = n.kids.length:=by simp at hc; omega
  have hrow : (n.kids.take i).map encTop = n.kids.map enc:=by
   subst hin; rw [List.take_length,show enc = encTop from funext enc_eq]
  rw [hrow]
  refine Tri.rowKnow0 109 rfl fun ra rcap hv hcl hcm => ?_
  subst hv
  refine Tri.seq ?_
  refine Tri.region ti_ok ?_
  conv => whnf
  refine ⟨rfl,?_⟩
  conv => whnf
  refine ⟨rfl,?_⟩
  conv => whnf
  refine Tri.forgetK [(2,.box 2 b2 0)] [(2,.box b2 [.str n.name,.int .i64 n.kind,.str n.text,.str n.target,.int .i64 n.n1,.int .i64 n.n2,.int .i64 n.n3,.int .i64 n.n4,.int .i64 n.n5,.int .i64 n.n6,.raw (.slice ra (n.kids.map enc).length rcap),.sl .none 2 (n.streams.map encS)]),(2000,.row (.slice ra (n.kids.map enc).length rcap) (n.kids.map enc) 12 25)] [(2,2),(2000,109)] ⟨⟨.refl _,trivial⟩,rfl,rfl,rfl,rfl,rfl,trivial⟩ ?_
  refine Tri.ret ?_
  conv => whnf
  exact ⟨_,⟨rfl,DLe.of_eq rfl⟩,_,_,_,List.length_map ..,rfl,rfl⟩
theorem K67o (n : NV) (hz : sz n < 1000000000) : DCall Tryz.prog W0 67 [encTop n] Heap.none fun d H' => ∃ a m c,m = n.kids.length ∧ d = rowD n (.slice a m c) ∧ H' = look [(2000,.row (.slice a m c) (n.kids.map encTop) 12 25)] :=
 (K67r n hz).sub fun d H' ⟨a,m,c,hm,hd,hH⟩ => ⟨_,look_sub hH,a,m,c,hm,hd,by rw [show enc = encTop from funext enc_eq]⟩
end Go.Tame.V
/- Contracts: sourcetree.Sort of what is sorted. By program (mk.py). -/
namespace Go.Tame.V
open Go Go.Proofs
variable {W0 : World}
set_option maxRecDepth 10000
set_option linter.unusedVariables false
set_option linter.unusedSimpArgs false

mutual
/-- Kids and streams rise everywhere; few streams. -/
def ris : NV → Prop
 | .mk _ _ _ _ _ _ _ _ _ _ ks ss => inc ks ∧ ss.Pairwise (fun a b => Op.bytesLess a.name b.name = true) ∧ ss.length ≤ 4 ∧ risL ks
def risL : List NV → Prop
 | [] => True
 | k::r => ris k ∧ risL r
end
theorem ris_eq (n : NV) : ris n ↔ inc n.kids ∧ n.streams.Pairwise (fun a b => Op.bytesLess a.name b.name = true) ∧ n.streams.length ≤ 4 ∧ risL n.kids:=by cases n; simp only [ris]
theorem risL_mem : ∀ {l : List NV},risL l ↔ ∀ k ∈ l,ris k
 | [] => by simp [risL]
 | x::r => by simp only [risL,risL_mem (l:=r),List.forall_mem_cons]
theorem set_self {l : List NV} {i : Nat} (h : i < l.length) : (l.map encTop).set i (encTop l[i]) = l.map encTop:=by
 apply List.ext_getElem?
 intro j
 by_cases hj : i = j
 ·subst hj; simp [h]
 ·rw [List.getElem?_set_ne hj]

theorem K43 : ∀ (N : Nat) (n : NV),sz n < N → sz n < 1000000 → ris n → DFun Tryz.prog W0 43 [encTop n] (encTop n):=by
 refine fun N => Nat.rec (fun n h => absurd h (Nat.not_lt_zero _)) (fun N ih n hN hz hr => ?_) N
 obtain ⟨hinc,hss,hs4,hrl⟩:=(ris_eq n).1 hr
 rw [risL_mem] at hrl
 have hkl : 2 * n.kids.length ≤ sz n:=by have:=szL_len n.kids; have:=sz_eq n; omega
 have he : n.kids.map enc = n.kids.map encTop:=by rw [show enc = encTop from funext enc_eq]
 have hcs : ∀ i j (hij : i < j) (hj : j < n.streams.length),DFun Tryz.prog W0 72 [encS n.streams[j],encS (n.streams[i]'(by omega))] (.int .i64 1):=fun i j hij hj => by
  have h1:=K72 (W0:=W0) n.streams[j] (n.streams[i]'(by omega))
  rwa [(cmp_one _ _).2 (List.pairwise_iff_getElem.1 hss i j (by omega) hj hij)] at h1
 have hck : ∀ i j (hij : i < j) (hj : j < n.kids.length),DFun Tryz.prog W0 75 [encTop n.kids[j],encTop (n.kids[i]'(by omega))] (.int .i64 1):=fun i j hij hj => by
  have h1:=K75 (W0:=W0) n.kids[j] (n.kids[i]'(by omega))
  rwa [(cmp_one _ _).2 (inc_get hinc hij hj)] at h1
 refine DFun.intro ti_ok Tryz.func43 rfl (by decide +kernel) Tryz.ntmps43 rfl fun Γ => ?_
 refine Tri.seq ?_
 refine Tri.region ti_ok ?_
 conv => whnf
 intro b1
 conv => whnf
 intro b2
 conv => whnf
 refine Tri.seq ?_
 refine Tri.regionX ti_ok ?_
 conv => whnf
 refine .inl ?_
 conv => whnf
 refine ⟨rfl,?_⟩
 conv => whnf
 refine .inr (XOp.call rfl [encTop n] [(2000,70)] (DCall.freshK rfl (K67o n (by omega))) rfl ⟨.refl _,trivial⟩ ?_)
 rintro d H' ⟨a,m,c,hm,rfl,rfl⟩
 refine ⟨_,.refl _,?_⟩
 conv => whnf
 refine .inl ?_
 conv => whnf
 refine ⟨rfl,?_⟩
 conv => whnf
 refine Tri.seq ?_
 refine Tri.region ti_ok ?_
 conv => whnf
 refine ⟨rfl,?_⟩
 conv => whnf
 refine ⟨[.sl .none 2 (n.streams.map encS),.fn (.func 72) [] []],_,fun _ => K71 n.streams 72 hcs hs4,⟨.refl _,.refl _,trivial⟩,?_⟩
 conv => whnf
 refine Tri.seq ?_
 refine Tri.regionX ti_ok ?_
 conv => whnf
 refine .inl ?_
 conv => whnf
 refine ⟨rfl,?_⟩
 conv => whnf
 refine .inr (XOp.call rfl [.raw (.slice a m c),.fn (.func 75) [] []] [(2000,70)] (DCall.heapK rfl (DCall.borrow (fun _ _ _ _ _ h => h.moveT (by simp)) (K74 n.kids 75 hck (by omega)))) rfl ⟨.refl _,.refl _,trivial⟩ ?_)
 rintro d H' ⟨rfl,rfl⟩
 refine ⟨_,.refl _,?_⟩
 conv => whnf
 refine Tri.seq ?_
 refine Tri.seq ?_
 refine Tri.region ti_ok ?_
 conv => whnf
 refine ⟨rfl,?_⟩
 conv => whnf
 refine Tri.block ?_
 refine Tri.loopK (α:={ i : Nat // i ≤ n.kids.length }) (fun x => [(1,.box 1 b1 0),(2,.box 2 b2 0),(14,.raw (.slice a m c)),(15,.int .i64 m),(16,.int .i64 x.1)]) (fun x => [(1,.box b1 [.str n.name,.int .i64 n.kind,.str n.text,.str n.target,.int .i64 n.n1,.int .i64 n.n2,.int .i64 n.n3,.int .i64 n.n4,.int .i64 n.n5,.int .i64 n.n6,.raw (.slice a m c),.sl .none 2 (n.streams.map encS)]),(2,.box b2 [.str [],.int .i64 0,.str [],.str [],.int .i64 0,.int .i64 0,.int .i64 0,.int .i64 0,.int .i64 0,.int .i64 0,.nils,.nils]),(70,.row (.slice a m c) (n.kids.map encTop) 12 25)]) (fun x => n.kids.length - x.1) ⟨0,Nat.zero_le _⟩ [(1,1),(2,2),(70,70)]
  ⟨⟨.refl _,.refl _,.refl _,.refl _,.refl _,trivial⟩,rfl,rfl,rfl,rfl,rfl,rfl,rfl,trivial⟩ ?_
 rintro ⟨i,hi⟩
 dsimp only at hi ⊢
 refine Tri.seq ?_
 refine Tri.region ti_ok ?_
 conv => whnf
 refine Tri.seq ?_
 refine Tri.cond (decide ((i : Int) < (m : Nat))) rfl (fun hc => ?_) (fun hc => ?_)
 ·have hia : i < n.kids.length:=by have:=of_decide_eq_true hc; omega
  have hkz:=kid_sz hia
  refine Tri.skip ?_
  conv => whnf
  refine Tri.seq ?_
  refine Tri.block ?_
  refine Tri.seq ?_
  refine Tri.regionX ti_ok ?_
  conv => whnf
  refine .inr (XOp.rowIndex ti_ok 70 rfl rfl rfl rfl rfl rfl rfl (by omega) (by rw [List.length_map]; omega) ?_)
  conv => whnf
  refine .inr (XOp.rowLoad ti_ok 70 (i:=i) (y:=encTop n.kids[i]) (by rw [Int.toNat_natCast]; rfl) rfl rfl (by simp [hia]) ?_)
  conv => whnf
  intro b4
  conv => whnf
  refine .inl ?_
  conv => whnf
  refine ⟨rfl,?_⟩
  conv => whnf
  refine Tri.drawTailX ti_ok 5 mixed (by kernel_rfl) ?_
  conv => whnf
  refine ⟨rfl,?_⟩
  conv => whnf
  refine ⟨rfl,?_⟩
  conv => whnf
  refine ⟨[encTop n.kids[i]],_,fun _ => ih n.kids[i] (by omega) (by omega) (hrl _ (List.getElem_mem hia)),⟨.refl _,trivial⟩,?_⟩
  conv => whnf
  refine .inr (XOp.rowIndex ti_ok 70 rfl rfl rfl rfl rfl rfl rfl (by omega) (by rw [List.length_map]; omega) ?_)
  conv => whnf
  refine .inr (XOp.rowStoreS ti_ok 70 (i:=i) (by rw [Int.toNat_natCast]; rfl) rfl rfl rfl (by rw [List.length_map]; exact hia) (cs:=(encTop n.kids[i]).cells) rfl rfl rfl ?_)
  conv => whnf
  refine Tri.region ti_ok ?_
  conv => whnf
  refine .inl ⟨fun _ => by simp only [InR]; omega,?_⟩
  conv => whnf
  exact ⟨⟨i + 1,hia⟩,[(1,1),(2,2),(70,70)],by show _ - (i + 1) < _ - i; omega,⟨.refl _,.refl _,.refl _,.refl _,.refl _,trivial⟩,rfl,rfl,rfl,rfl,rfl,rfl,congrArg (fun z => some (HObj.row (.slice a m c) z 12 25)) (set_self hia),trivial⟩
 ·refine Tri.exit ?_
  rw [← he]
  refine Tri.commitBox 70 1 10 rfl rfl (by decide) rfl ?_
  conv => whnf
  refine Tri.seq ?_
  refine Tri.region ti_ok ?_
  conv => whnf
  refine ⟨rfl,?_⟩
  conv => whnf
  refine ⟨rfl,?_⟩
  conv => whnf
  refine Tri.ret ?_
  conv => whnf
  exact ⟨rfl,DLe.of_eq rfl⟩
end Go.Tame.V
/- Contracts: Clone of nodes as a row,of any length; binary search among rising names. By program (mkk17.py,mk.py). -/
namespace Go.Tame.V
open Go Go.Proofs
variable {W0 : World}
set_option maxRecDepth 10000
set_option linter.unusedVariables false
set_option linter.unusedSimpArgs false

theorem K76a (xs : List D) (hk : ∀ x ∈ xs,x.cells.length = 12) (h : xs.length < 1000000) : DCall Tryz.prog W0 76 [.sl .none 12 xs] Heap.none fun d H' => ∃ v,d = .raw v ∧ H' = look [(2000,.row v xs 12 25)]:=by
 refine DCall.intro ti_ok Tryz.func76 rfl (by decide +kernel) Tryz.ntmps76 rfl fun Γ => ?_
 refine Tri.seq ?_
 refine Tri.region ti_ok ?_
 conv => whnf
 refine Tri.seq ?_
 refine Tri.seq ?_
 refine Tri.regionX ti_ok ?_
 conv => whnf
 refine .inr (XOp.nilEq (el:=25) ti_ok rfl rfl rfl fun nb hnb => ?_)
 conv => whnf
 refine Tri.cond _ rfl (fun hc => ?_) (fun hc => ?_)
 ·refine Tri.seq ?_
  refine Tri.region ti_ok ?_
  conv => whnf
  refine Tri.rowNil 2000 12 25 ?_
  refine Tri.retK [(2,.raw (.slice none 0 0))] [(2000,.row (.slice none 0 0) xs 12 25)] [(2000,2000)] ⟨⟨DLe.nilRaw,trivial⟩,rfl,rfl,congrArg (fun z => some (HObj.row (.slice none 0 0) z 12 25)) (hnb hc).symm,trivial⟩ ?_
  conv => whnf
  exact ⟨_,.refl _,_,rfl,rfl⟩
 ·refine Tri.skip ?_
  conv => whnf
  refine Tri.seq ?_
  refine Tri.regionG ti_ok ?_
  conv => whnf
  refine ⟨rfl,trivial,.inr (XOp.buildRow (q:=100) ti_ok rfl rfl rfl rfl rfl rfl ?_)⟩
  conv => whnf
  refine ⟨rfl,trivial,fun v0 => ?_⟩
  conv => whnf
  refine ⟨rfl,trivial,.inl ?_⟩
  conv => whnf
  by_cases h0 : 0 < xs.length
  ·refine ⟨rfl,trivial,.inr (XOp.rowAppend ti_ok 100 rfl rfl rfl (fun h => by cases h) rfl rfl rfl h0 (by show (0 + _) * 152 ≤ _; omega) (by show 0 + _ ≤ _; omega) fun aa m cap => ?_)⟩
   conv => whnf
   refine ⟨rfl,trivial,.inl ?_⟩
   refine Tri.retK [(2,.raw (.slice aa m cap))] [(2000,.row (.slice aa m cap) xs 12 25)] [(2000,7)] ⟨⟨.refl _,trivial⟩,rfl,rfl,congrArg (fun z => some (HObj.row (.slice aa m cap) z 12 25)) (List.nil_append _),trivial⟩ ?_
   conv => whnf
   exact ⟨_,.refl _,_,rfl,rfl⟩
  ·have hx : xs = []:=List.eq_nil_of_length_eq_zero (by omega)
   refine ⟨rfl,trivial,.inr (XOp.rowAppendNone ti_ok 100 rfl rfl rfl rfl rfl rfl hx ?_)⟩
   conv => whnf
   refine ⟨rfl,trivial,.inl ?_⟩
   refine Tri.retK [(2,.raw v0)] [(2000,.row v0 xs 12 25)] [(2000,100)] ⟨⟨.refl _,trivial⟩,rfl,rfl,congrArg (fun z => some (HObj.row v0 z 12 25)) hx.symm,trivial⟩ ?_
   conv => whnf
   exact ⟨_,.refl _,_,rfl,rfl⟩
theorem K76 (xs : List D) (hk : ∀ x ∈ xs,x.cells.length = 12) (h : xs.length < 1000000) : DCall Tryz.prog W0 76 [.sl .none 12 xs] Heap.none fun d H' => ∃ a m c,m = xs.length ∧ d = .raw (.slice a m c) ∧ H' = look [(2000,.row (.slice a m c) xs 12 25)] :=
 (K76a xs hk h).rowShape

theorem cmp_less (a b : List UInt8) : decide (Lib.compareBytes a b < 0) = Op.bytesLess a b:=by
 rcases cmp_range a b with h | h | h
 ·rw [h]
  cases hb : Op.bytesLess a b with
  | true => rfl
  | false =>
   cases hb2 : Op.bytesLess b a with
   | true => rw [(cmp_one a b).2 hb2] at h; cases h
   | false => have:=bl_total _ _ hb hb2; rw [(cmp_zero a b).2 this] at h; cases h
 ·rw [h]; have:=(cmp_zero a b).1 h; rw [this,bl_irrefl]; rfl
 ·rw [h]; rw [bl_asymm ((cmp_one a b).1 h)]; rfl
/-- The place of a name among rising names. -/
def lb (l : List NV) (q : List UInt8) : Nat:=(l.takeWhile fun k => Op.bytesLess k.name q).length
theorem lb_at {l : List NV} {q : List UInt8} : ∀ {p : Nat},p ≤ l.length → (∀ t (h : t < l.length),t < p → Op.bytesLess l[t].name q = true) → (∀ (h : p < l.length),Op.bytesLess l[p].name q = false) → lb l q = p:=by
 unfold lb
 induction l with
 | nil => intro p hp _ _; simp at hp; simp [hp]
 | cons x r ih =>
  intro p hp h1 h2
  cases p with
  | zero => have:=h2 (by simp); simp at this; simp [this]
  | succ p =>
   have hx:=h1 0 (by simp) (by omega)
   simp at hx
   rw [List.takeWhile_cons,hx]
   simp only [if_true,List.length_cons,Nat.add_right_cancel_iff]
   exact ih (by simpa using hp) (fun t h ht => by have:=h1 (t + 1) (by simpa using h) (by omega); simpa using this) (fun h => by have:=h2 (by simpa using h); simpa using this)
/-- It is there. -/
def atN (l : List NV) (p : Nat) (q : List UInt8) : Bool:=decide (p < l.length) && (l.getD p default).name == q
theorem K77 (l : List NV) (hinc : inc l) (hl : l.length < 1000000) (q : List UInt8) : DFun Tryz.prog W0 77 [.sl .none 12 (l.map encTop),.str q,.fn (.func 78) [] []] (.tup [.int .i64 (lb l q : Nat),.bool (atN l (lb l q) q)]):=by
 refine DFun.intro ti3_ok Tryz.func77 rfl (by decide +kernel) Tryz.ntmps77 rfl fun Γ => ?_
 refine Tri.seq ?_
 refine Tri.region ti3_ok ?_
 conv => whnf
 refine Tri.seq ?_
 refine Tri.region ti3_ok ?_
 conv => whnf
 refine Tri.seq ?_
 refine Tri.region ti3_ok ?_
 conv => whnf
 refine Tri.seq ?_
 refine Tri.block ?_
 refine Tri.loop (α:={ x : Nat × Nat // x.1 ≤ x.2 ∧ x.2 ≤ l.length ∧ (∀ t (h : t < l.length),t < x.1 → Op.bytesLess l[t].name q = true) ∧ ∀ t (h : t < l.length),x.2 ≤ t → Op.bytesLess l[t].name q = false }) (fun x => [(0,.sl .none 12 (l.map encTop)),(1,.str q),(2,.fn (.func 78) [] []),(8,.int .i64 (l.map encTop).length),(9,.int .i64 (x.1.1 : Nat)),(10,.int .i64 (x.1.2 : Nat))]) (fun _ => []) (fun x => x.1.2 - x.1.1) ⟨(0,(l.map encTop).length),Nat.zero_le _,by rw [List.length_map]; exact Nat.le_refl _,fun t h ht => absurd ht (Nat.not_lt_zero _),fun t h ht => absurd h (by rw [List.length_map] at ht; exact Nat.not_lt.2 ht)⟩ ⟨.refl _,.refl _,.refl _,.refl _,.refl _,.refl _,trivial⟩ trivial ?_
 rintro ⟨⟨i,j⟩,hij,hj,h1,h2⟩
 dsimp only at hij hj h1 h2 ⊢
 refine Tri.seq ?_
 refine Tri.seq ?_
 refine Tri.region ti3_ok ?_
 conv => whnf
 refine Tri.cond (decide ((i : Int) < j)) rfl (fun hc => ?_) (fun hc => ?_)
 ·have hlt : i < j:=by have:=of_decide_eq_true hc; omega
  refine Tri.skip ?_
  conv => whnf
  refine Tri.block ?_
  refine Tri.seq ?_
  refine Tri.region ti3_ok ?_
  conv => whnf
  refine .inl ⟨fun _ => by simp only [InR]; omega,?_⟩
  conv => whnf
  refine .inl ⟨by simp only [InR]; omega,?_⟩
  conv => whnf
  refine ⟨fun _ => by decide,?_⟩
  conv => whnf
  refine .inl ⟨by obtain ⟨z,hz,_,_⟩:=half i j; simp only [InR]; rw [hz]; omega,?_⟩
  conv => whnf
  obtain ⟨h,hz,hm1,hm2⟩:=half i j
  rw [hz]
  clear hz
  have hhl : h < l.length:=by omega
  refine Tri.seq ?_
  refine Tri.region ti3_ok ?_
  conv => whnf
  refine ⟨fun _ => by rw [List.length_map]; omega,?_⟩
  conv => whnf
  refine ⟨encTop l[h],fun _ => at_natM hhl,?_⟩
  conv => whnf
  refine ⟨[encTop l[h],.str q],_,fun _ => K78 l[h] q,⟨.refl _,.refl _,trivial⟩,?_⟩
  conv => whnf
  refine Tri.cond (decide (Lib.compareBytes l[h].name q < 0)) rfl (fun hc2 => ?_) (fun hc2 => ?_)
  ·rw [cmp_less] at hc2
   refine Tri.region ti3_ok ?_
   conv => whnf
   refine .inl ⟨fun _ => by simp only [InR]; omega,?_⟩
   conv => whnf
   exact ⟨⟨(h + 1,j),by show h + 1 ≤ j; omega,hj,fun t ht htl => by
    by_cases e : t = h
    ·subst e; exact hc2
    ·exact bl_trans _ _ _ (inc_get (i:=t) (j:=h) hinc (by have htl2 : t < h + 1:=htl; omega) hhl) hc2,h2⟩,by show j - (h + 1) < j - i; omega,⟨.refl _,.refl _,.refl _,.refl _,.refl _,.refl _,trivial⟩,trivial⟩
  ·rw [cmp_less] at hc2
   refine Tri.region ti3_ok ?_
   conv => whnf
   exact ⟨⟨(i,h),by show i ≤ h; omega,by show h ≤ l.length; omega,h1,fun t ht htl => by
    by_cases e : h = t
    ·subst e; exact hc2
    ·cases hb : Op.bytesLess l[t].name q with
     | false => rfl
     | true =>
      have:=bl_trans _ _ _ (inc_get (i:=h) (j:=t) hinc (by have htl2 : h ≤ t:=htl; omega) ht) hb
      rw [this] at hc2; cases hc2⟩,by show h - i < j - i; omega,⟨.refl _,.refl _,.refl _,.refl _,.refl _,.refl _,trivial⟩,trivial⟩
 ·have hie : i = j:=by have:=of_decide_eq_false hc; omega
  subst hie
  have hlb : lb l q = i:=lb_at hj (fun t h ht => h1 t h ht) (fun h => h2 i h (Nat.le_refl _))
  rw [hlb]
  refine Tri.exit ?_
  conv => whnf
  refine Tri.seq ?_
  refine Tri.region ti3_ok ?_
  conv => whnf
  refine ⟨fun h => h,?_⟩
  conv => whnf
  refine ⟨fun h => h,?_⟩
  conv => whnf
  refine ⟨fun h => by have:=of_decide_eq_true h; rw [List.length_map] at *; omega,?_⟩
  conv => whnf
  refine ⟨fun h => h,?_⟩
  conv => whnf
  refine ⟨encTop (l.getD i default),fun h => by
   have hil : i < l.length:=by have:=of_decide_eq_true h; rw [List.length_map] at this; omega
   rw [at_natM hil]; simp [List.getD,hil],?_⟩
  conv => whnf
  refine ⟨fun h => h,?_⟩
  conv => whnf
  refine ⟨fun h => h,?_⟩
  conv => whnf
  refine ⟨fun h => h,?_⟩
  conv => whnf
  refine ⟨[encTop (l.getD i default),.str q],_,fun h => K78 (l.getD i default) q,⟨.refl _,.refl _,trivial⟩,?_⟩
  conv => whnf
  refine ⟨fun h => h,?_⟩
  conv => whnf
  refine ⟨fun h0 h => by first | exact h | (rw [h]; rfl) | (rw [h0,h]; rfl),?_⟩
  conv => whnf
  refine Tri.ret ?_
  conv => whnf
  refine ⟨.refl _,DLe.of_eq (congrArg D.bool ?_),trivial⟩
  rw [List.length_map,atN]
  have e1 : decide ((i : Int) < (l.length : Nat)) = decide (i < l.length):=by simp
  have e2 : (Lib.compareBytes (l.getD i default).name q == 0) = ((l.getD i default).name == q):=by
   by_cases he : (l.getD i default).name = q
   ·rw [(cmp_zero _ _).2 he,he]; simp
   ·have : ¬ Lib.compareBytes (l.getD i default).name q = 0:=fun h => he ((cmp_zero _ _).1 h)
    rw [beq_false_of_ne this,beq_false_of_ne he]
  rw [← e1,← e2]
  cases decide ((i : Int) < (l.length : Nat)) <;> rfl
end Go.Tame.V
/- The union of two trees,as the program makes it. Plain. -/
namespace Go.Tame.V
open Go Go.Proofs
set_option linter.unusedVariables false

/-- One kid more. -/
def stepM (f : NV → NV → Option NV) (L : List NV) (k : NV) : Option (List NV) :=
 if atN L (lb L k.name) k.name = true then
  if (L.getD (lb L k.name) default).kind = 0 ∧ k.kind = 0 then (f (L.getD (lb L k.name) default) k).map fun y => L.set (lb L k.name) y else none
 else some (L.take (lb L k.name) ++ k::L.drop (lb L k.name))
def withKids (a : NV) (ks : List NV) : NV:=⟨a.name,a.kind,a.text,a.target,a.n1,a.n2,a.n3,a.n4,a.n5,a.n6,ks,a.streams⟩
/-- The union of two directories. -/
def mergeV : Nat → NV → NV → Option NV
 | 0,_,_ => none
 | N + 1,a,b => (b.kids.foldlM (stepM (mergeV N)) a.kids).map (withKids a)

theorem srtL_mem : ∀ {l : List NV},srtL l ↔ ∀ k ∈ l,srt k
 | [] => by simp [srtL]
 | x::r => by simp only [srtL,srtL_mem (l:=r),List.forall_mem_cons]
theorem szL_append : ∀ (l r : List NV),szL (l ++ r) = szL l + szL r
 | [],r => by simp [szL]
 | x::l,r => by simp only [List.cons_append,szL,szL_append l r]; omega
theorem lb_le (l : List NV) (q : List UInt8) : lb l q ≤ l.length:=(List.takeWhile_sublist _).length_le
theorem lb_lt {l : List NV} {q : List UInt8} : ∀ {t : Nat},t < lb l q → ∀ (ht : t < l.length),Op.bytesLess l[t].name q = true:=by
 unfold lb
 induction l with
 | nil => intro t h; simp at h
 | cons x r ih =>
  intro t h ht
  cases hx : Op.bytesLess x.name q with
  | false => rw [List.takeWhile_cons,hx] at h; simp at h
  | true =>
   cases t with
   | zero => exact hx
   | succ t =>
    rw [List.takeWhile_cons,hx] at h
    have:=ih (t:=t) (by simpa using h) (by simpa using ht)
    simpa using this
theorem lb_ge {l : List NV} {q : List UInt8} : ∀ (h : lb l q < l.length),Op.bytesLess l[lb l q].name q = false:=by
 unfold lb
 induction l with
 | nil => intro h; simp at h
 | cons x r ih =>
  intro h
  cases hx : Op.bytesLess x.name q with
  | true =>
   have e : (List.takeWhile (fun k => Op.bytesLess k.name q) (x::r)).length = (List.takeWhile (fun k => Op.bytesLess k.name q) r).length + 1:=by
    rw [List.takeWhile_cons,hx]; rfl
   have h2 : (List.takeWhile (fun k => Op.bytesLess k.name q) r).length < r.length:=by rw [e] at h; simpa using h
   have:=ih h2
   simpa [e] using this
  | false =>
   have e : (List.takeWhile (fun k => Op.bytesLess k.name q) (x::r)).length = 0:=by
    rw [List.takeWhile_cons,hx]; rfl
   simpa [e] using hx
theorem inc_of_pairwise {l : List NV} (h : l.Pairwise fun a b => Op.bytesLess a.name b.name = true) : inc l:=fun i hi => by
 have:=List.pairwise_iff_getElem.1 h i (i + 1) (by omega) hi (by omega)
 simpa [List.getD,hi,show i < l.length by omega] using this
theorem pairwise_of_inc {l : List NV} (h : inc l) : l.Pairwise fun a b => Op.bytesLess a.name b.name = true :=
 List.pairwise_iff_getElem.2 fun i j hi hj hij => inc_get h hij hj
theorem atN_get {L : List NV} {q : List UInt8} (h : atN L (lb L q) q = true) : ∃ hp : lb L q < L.length,(L.getD (lb L q) default) = L[lb L q] ∧ L[lb L q].name = q:=by
 simp only [atN,Bool.and_eq_true,decide_eq_true_eq,beq_iff_eq] at h
 refine ⟨h.1,by simp [List.getD,h.1],?_⟩
 have:=h.2
 simpa [List.getD,h.1] using this
theorem atN_not {L : List NV} {q : List UInt8} (hi : inc L) (h : ¬ atN L (lb L q) q = true) : ∀ t (ht : t < L.length),L[t].name ≠ q:=fun t ht e => by
 have hb:=lb_le L q
 rcases Nat.lt_trichotomy t (lb L q) with h1 | h1 | h1
 ·have:=lb_lt h1 ht; rw [e,bl_irrefl] at this; cases this
 ·subst h1
  apply h
  simp only [atN,Bool.and_eq_true,decide_eq_true_eq,beq_iff_eq]
  exact ⟨ht,by simpa [List.getD,ht] using e⟩
 ·have h2:=inc_get hi h1 ht
  rw [e,lb_ge (by omega)] at h2; cases h2
/-- The name is put in at its place. -/
theorem ins_inc {L : List NV} {k : NV} (hi : inc L) (h : ¬ atN L (lb L k.name) k.name = true) : inc (L.take (lb L k.name) ++ k::L.drop (lb L k.name)):=by
 have hp:=pairwise_of_inc hi
 have hb:=lb_le L k.name
 refine inc_of_pairwise (List.pairwise_append.2 ⟨hp.sublist (List.take_sublist ..),List.pairwise_cons.2 ⟨fun y hy => ?_,hp.sublist (List.drop_sublist ..)⟩,fun x hx y hy => ?_⟩)
 ·obtain ⟨t,ht,rfl⟩:=List.mem_iff_getElem.1 hy
  rw [List.getElem_drop]
  have htl : lb L k.name + t < L.length:=by simp at ht; omega
  cases hk : Op.bytesLess k.name (L[lb L k.name + t]).name with
  | true => rfl
  | false =>
   have hge : Op.bytesLess (L[lb L k.name + t]).name k.name = false:=by
    by_cases h0 : t = 0
    ·subst h0; exact lb_ge (by omega)
    ·cases h2 : Op.bytesLess (L[lb L k.name + t]).name k.name with
     | false => rfl
     | true =>
      have:=bl_trans _ _ _ (inc_get (i:=lb L k.name) (j:=lb L k.name + t) hi (by omega) htl) h2
      rw [lb_ge (by omega)] at this; cases this
   exact absurd (bl_total _ _ hge hk) (atN_not hi h _ htl)
 ·obtain ⟨t,ht,rfl⟩:=List.mem_iff_getElem.1 hx
  rw [List.getElem_take]
  rw [List.length_take] at ht
  have hxk:=lb_lt (l:=L) (q:=k.name) (t:=t) (by omega) (by omega)
  rcases List.mem_cons.1 hy with rfl | hy
  ·exact hxk
  ·obtain ⟨s,hs,rfl⟩:=List.mem_iff_getElem.1 hy
   rw [List.getElem_drop]
   exact inc_get (i:=t) (j:=lb L k.name + s) hi (by omega) (by simp at hs; omega)
theorem set_inc {L : List NV} {p : Nat} {y : NV} (hi : inc L) (hp : p < L.length) (hn : y.name = L[p].name) : inc (L.set p y):=fun i hlt => by
 have hl : (L.set p y).length = L.length:=List.length_set ..
 have e : ∀ j,j < L.length → ((L.set p y).getD j default).name = (L.getD j default).name:=fun j hj => by
  by_cases h : p = j
  ·subst h; simp [List.getD,hj,hn]
  ·simp [List.getD,hj,List.getElem_set_ne h]
 rw [e i (by omega),e (i + 1) (by omega)]
 exact hi i (by omega)
theorem szL_set : ∀ {L : List NV} {p : Nat} {y : NV} {d : Nat} (hp : p < L.length),y.name = L[p].name → sz y ≤ sz L[p] + d → szL (L.set p y) ≤ szL L + d
 | x::r,0,y,d,hp,h1,h2 => by
  simp only [List.getElem_cons_zero] at h1 h2
  simp only [List.set_cons_zero,szL,h1]; omega
 | x::r,p + 1,y,d,hp,h1,h2 => by
  simp only [List.getElem_cons_succ] at h1 h2
  have:=szL_set (L:=r) (p:=p) (by simpa using hp) h1 h2
  simp only [List.set_cons_succ,szL]; omega

def MOk (f : NV → NV → Option NV) : Prop:=∀ x k y,srt x → srt k → f x k = some y → srt y ∧ y.name = x.name ∧ sz y ≤ sz x + sz k
theorem stepM_ok {f : NV → NV → Option NV} (hf : MOk f) {L L' : List NV} {k : NV} (hi : inc L) (hs : srtL L) (hk : srt k) (h : stepM f L k = some L') :
  inc L' ∧ srtL L' ∧ szL L' ≤ szL L + (2 * k.name.length + 2 + sz k):=by
 unfold stepM at h
 split at h
 ·rename_i ha
  obtain ⟨hp,e,hn⟩:=atN_get ha
  rw [e] at h
  split at h
  ·obtain ⟨y,hy,rfl⟩:=Option.map_eq_some_iff.1 h
   obtain ⟨h1,h2,h3⟩:=hf _ _ _ (srtL_mem.1 hs _ (List.getElem_mem hp)) hk hy
   refine ⟨set_inc hi hp h2,srtL_mem.2 fun z hz => ?_,?_⟩
   ·rcases List.mem_or_eq_of_mem_set hz with hz | rfl
    ·exact srtL_mem.1 hs z hz
    ·exact h1
   ·have:=szL_set (d:=sz k) hp h2 h3; omega
  ·cases h
 ·rename_i ha
  cases h
  refine ⟨ins_inc hi ha,srtL_mem.2 fun z hz => ?_,?_⟩
  ·rcases List.mem_append.1 hz with hz | hz
   ·exact srtL_mem.1 hs z (List.mem_of_mem_take hz)
   ·rcases List.mem_cons.1 hz with rfl | hz
    ·exact hk
    ·exact srtL_mem.1 hs z (List.mem_of_mem_drop hz)
  ·rw [szL_append,szL]
   have:=szL_append (L.take (lb L k.name)) (L.drop (lb L k.name))
   rw [List.take_append_drop] at this
   omega
theorem foldM_ok {f : NV → NV → Option NV} (hf : MOk f) : ∀ (l : List NV) {L L' : List NV},inc L → srtL L → srtL l → l.foldlM (stepM f) L = some L' → inc L' ∧ srtL L' ∧ szL L' ≤ szL L + szL l
 | [],L,L',hi,hs,_,h => by
  simp at h; subst h; exact ⟨hi,hs,by simp [szL]⟩
 | k::r,L,L',hi,hs,hl,h => by
  rw [List.foldlM_cons] at h
  obtain ⟨M,hM,h⟩:=Option.bind_eq_some_iff.1 h
  simp only [srtL] at hl
  obtain ⟨h1,h2,h3⟩:=stepM_ok hf hi hs hl.1 hM
  obtain ⟨h4,h5,h6⟩:=foldM_ok hf r h1 h2 hl.2 h
  exact ⟨h4,h5,by simp only [szL]; omega⟩
theorem withKids_sz (a : NV) (ks : List NV) : sz (withKids a ks) + szL a.kids = sz a + szL ks:=by
 have h1:=sz_eq a
 have h2:=sz_eq (withKids a ks)
 simp only [withKids] at h2 ⊢
 omega
theorem mergeV_ok : ∀ N,MOk (mergeV N)
 | 0 => fun x k y _ _ h => by simp [mergeV] at h
 | N + 1 => fun x k y hx hk h => by
  simp only [mergeV] at h
  obtain ⟨ks,hks,rfl⟩:=Option.map_eq_some_iff.1 h
  obtain ⟨h1,h2⟩:=(srt_eq x).1 hx
  obtain ⟨h3,h4⟩:=(srt_eq k).1 hk
  obtain ⟨h5,h6,h7⟩:=foldM_ok (mergeV_ok N) k.kids h1 h2 h4 hks
  refine ⟨(srt_eq _).2 ⟨h5,h6⟩,rfl,?_⟩
  have:=withKids_sz x ks
  have:=sz_eq k
  omega
theorem foldM_none {α β : Type} {f : β → α → Option β} {l : List α} {s L : β} {j : Nat} (hj : j < l.length) (h : (l.take j).foldlM f s = some L) (hn : f L l[j] = none) : l.foldlM f s = none:=by
 have e : l = l.take j ++ l[j]::l.drop (j + 1):=by rw [List.getElem_cons_drop,List.take_append_drop]
 rw [e,List.foldlM_append,h]
 show List.foldlM f L (l[j]::l.drop (j + 1)) = none
 rw [List.foldlM_cons,hn]; rfl
theorem foldM_next {α β : Type} {f : β → α → Option β} {l : List α} {s L L' : β} {j : Nat} (hj : j < l.length) (h : (l.take j).foldlM f s = some L) (hn : f L l[j] = some L') : (l.take (j + 1)).foldlM f s = some L':=by
 rw [List.take_succ_eq_append_getElem hj,List.foldlM_append,h]
 show List.foldlM f L [l[j]] = some L'
 rw [List.foldlM_cons,hn]; rfl
theorem szL_dropN {l : List NV} {j : Nat} (h : j < l.length) : szL (l.drop j) = 2 * l[j].name.length + 2 + sz l[j] + szL (l.drop (j + 1)):=by
 rw [← List.getElem_cons_drop h,szL]
end Go.Tame.V
/- Insertion,in the order of names. Plain. -/
namespace Go.Tame.V
open Go Go.Proofs
set_option maxRecDepth 10000
set_option linter.unusedVariables false
set_option linter.unusedSimpArgs false
variable {α : Type} (key : α → List UInt8)

/-- Where x goes among the first p of out,looked for from behind. -/
def posN (out : List α) (x : α) : Nat → Nat
 | 0 => 0
 | p + 1 => match out[p]? with
  | some y => if Op.bytesLess (key x) (key y) then posN out x p else p + 1
  | none => posN out x p
def insS (out : List α) (x : α) : List α:=out.take (posN key out x out.length) ++ x::out.drop (posN key out x out.length)
def isort (l : List α) : List α:=l.foldl (insS key) []
theorem posN_le (out : List α) (x : α) : ∀ p,posN key out x p ≤ p
 | 0 => Nat.le_refl _
 | p + 1 => by
  have:=posN_le out x p
  simp only [posN]
  split
  ·split <;> omega
  ·omega
def LeK (a b : α) : Prop:=Op.bytesLess (key b) (key a) = false
theorem le_tr {a b c : List UInt8} (h1 : Op.bytesLess b a = false) (h2 : Op.bytesLess c b = false) : Op.bytesLess c a = false:=by
 cases h : Op.bytesLess c a with
 | false => rfl
 | true =>
  cases h3 : Op.bytesLess a b with
  | false => rw [bl_total _ _ h3 h1] at h; rw [h] at h2; cases h2
  | true => rw [bl_trans _ _ _ h h3] at h2; cases h2
theorem posN_spec {out : List α} {x : α} (hs : out.Pairwise (LeK key)) :
  ∀ p,(hp : p ≤ out.length) → (∀ j,j < posN key out x p → (hj : j < out.length) → LeK key out[j] x) ∧ ∀ j,posN key out x p ≤ j → (hj : j < p) → LeK key x (out[j]'(by omega))
 | 0,_ => ⟨fun j h hj => by simp [posN] at h,fun j h hj => by omega⟩
 | p + 1,hp => by
  have ih:=posN_spec (x:=x) hs p (by omega)
  have hget : out[p]? = some (out[p]'(by omega)):=List.getElem?_eq_getElem (by omega)
  by_cases hb : Op.bytesLess (key x) (key (out[p]'(by omega))) = true
  ·have e : posN key out x (p + 1) = posN key out x p:=by simp only [posN,hget,hb,if_true]
   refine ⟨fun j hj hl => ih.1 j (by omega) hl,fun j h1 h2 => ?_⟩
   by_cases hj : j < p
   ·exact ih.2 j (by omega) hj
   ·have : j = p:=by omega
    subst this
    exact bl_asymm hb
  ·have e : posN key out x (p + 1) = p + 1:=by simp only [posN,hget]; rw [if_neg hb]
   refine ⟨fun j hj hl => ?_,fun j h1 h2 => by omega⟩
   have hpx : LeK key (out[p]'(by omega)) x:=by simpa [LeK] using hb
   by_cases hj' : j < p
   ·have:=List.pairwise_iff_getElem.1 hs j p (by omega) (by omega) hj'
    exact le_tr this hpx
   ·have : j = p:=by omega
    subst this; exact hpx
theorem insS_perm (out : List α) (x : α) : (insS key out x).Perm (x::out):=by
 unfold insS
 have h:=List.perm_middle (a:=x) (l₁:=out.take (posN key out x out.length)) (l₂:=out.drop (posN key out x out.length))
 rwa [List.take_append_drop] at h
theorem insS_sorted {out : List α} {x : α} (hs : out.Pairwise (LeK key)) : (insS key out x).Pairwise (LeK key):=by
 obtain ⟨h1,h2⟩:=posN_spec key (x:=x) hs out.length (Nat.le_refl _)
 have hle:=posN_le key out x out.length
 unfold insS
 generalize posN key out x out.length = p at *
 have ha : ∀ a ∈ out.take p,LeK key a x:=fun a ha => by
  obtain ⟨j,hj,rfl⟩:=List.mem_iff_getElem.1 ha
  rw [List.getElem_take]
  exact h1 j (by simp at hj; omega) (by simp at hj; omega)
 have hb : ∀ b ∈ out.drop p,LeK key x b:=fun b hb => by
  obtain ⟨j,hj,rfl⟩:=List.mem_iff_getElem.1 hb
  rw [List.getElem_drop]
  exact h2 (p + j) (by omega) (by simp at hj; omega)
 have hs':=hs
 rw [← List.take_append_drop p out,List.pairwise_append] at hs'
 rw [List.pairwise_append,List.pairwise_cons]
 refine ⟨hs'.1,⟨hb,hs'.2.1⟩,fun a h b h' => ?_⟩
 rcases List.mem_cons.1 h' with rfl | h'
 ·exact ha a h
 ·exact hs'.2.2 a h b h'
theorem isort_snoc (l : List α) (x : α) : isort key (l ++ [x]) = insS key (isort key l) x:=by simp [isort]
theorem isort_spec (l : List α) : (isort key l).Perm l ∧ (isort key l).Pairwise (LeK key):=by
 refine snoc_rec (p:=fun l => (isort key l).Perm l ∧ (isort key l).Pairwise (LeK key)) ⟨.refl _,List.Pairwise.nil⟩ (fun l x ih => ?_) l
 rw [isort_snoc]
 refine ⟨(insS_perm key _ x).trans ?_,insS_sorted key ih.2⟩
 exact (List.Perm.cons x ih.1).trans (List.perm_append_comm (l₁:=[x]) (l₂:=l))
theorem isort_len (l : List α) : (isort key l).length = l.length:=by
 refine snoc_rec (p:=fun l => (isort key l).length = l.length) rfl (fun l x ih => ?_) l
 rw [isort_snoc,(insS_perm key _ x).length_eq]; simp [ih]
end Go.Tame.V
/- Sorting by names. Taken together by program. -/
namespace Go.Tame.V
open Go Go.Proofs
set_option maxRecDepth 10000
set_option linter.unusedVariables false

/-- A rising list of nodes,permuted and sorted,is itself. -/
theorem sorted_nodes {l l' : List NV} (h : inc l) (hp : l'.Perm l) (hs : ∀ (i j : Nat) (hi : i < l'.length) (hj : j < l'.length),i < j → Op.bytesLess (l'[j]).name (l'[i]).name = false) : l' = l:=by
 refine List.Perm.eq_of_pairwise (le:=fun a b => Op.bytesLess b.name a.name = false) (fun a b ha hb h1 h2 => ?_) (List.pairwise_iff_getElem.2 fun i j hi hj hij => hs i j hi hj hij) (inc_pairwise h) hp
 have hname:=bl_total _ _ h2 h1
 obtain ⟨i,hi,rfl⟩:=List.mem_iff_getElem.1 (hp.subset ha)
 obtain ⟨j,hj,rfl⟩:=List.mem_iff_getElem.1 hb
 rcases Nat.lt_trichotomy i j with e | e | e
 ·exact absurd hname (bl_ne (inc_get h e hj))
 ·subst e; rfl
 ·exact absurd hname.symm (bl_ne (inc_get h e hi))
mutual
def srtT : NV → NV
 | .mk a b c t e f g h i j ks ss => .mk a b c t e f g h i j (isort NV.name (srtTL ks)) (isort SV.name ss)
def srtTL : List NV → List NV
 | [] => []
 | k::r => srtT k::srtTL r
end
theorem srtTL_map : ∀ l : List NV,srtTL l = l.map srtT
 | [] => rfl
 | k::r => by simp only [srtTL,List.map_cons,srtTL_map r]
theorem srtT_eq (n : NV) : srtT n = ⟨n.name,n.kind,n.text,n.target,n.n1,n.n2,n.n3,n.n4,n.n5,n.n6,isort NV.name (n.kids.map srtT),isort SV.name n.streams⟩:=by
 cases n; simp only [srtT,srtTL_map]
theorem isort_id {α : Type} (key : α → List UInt8) (l : List α) : l.Pairwise (fun a b => Op.bytesLess (key a) (key b) = true) → isort key l = l:=by
 refine snoc_rec (p:=fun l => l.Pairwise (fun a b => Op.bytesLess (key a) (key b) = true) → isort key l = l) (fun _ => rfl) (fun l x ih h => ?_) l
 rw [List.pairwise_append] at h
 rw [isort_snoc,ih h.1]
 have hp : posN key l x l.length = l.length:=by
  cases hl : l.length with
  | zero => rfl
  | succ p =>
   have hg : l[p]? = some (l[p]'(by omega)):=List.getElem?_eq_getElem (by omega)
   simp only [posN,hg]
   rw [if_neg]
   have:=h.2.2 _ (List.getElem_mem (by omega : p < l.length)) x (by simp)
   rw [bl_asymm this]; simp
 rw [insS,hp]; simp
mutual
/-- The streams of all nodes rise. -/
def okS : NV → Prop
 | .mk _ _ _ _ _ _ _ _ _ _ ks ss => ss.Pairwise (fun a b => Op.bytesLess a.name b.name = true) ∧ okSL ks
def okSL : List NV → Prop
 | [] => True
 | k::r => okS k ∧ okSL r
end
mutual
theorem good_okS : ∀ (n : NV) (l : Int),goodB n l = true → okS n
 | .mk a b c d e f g h i j ks ss,l,hg => by
  obtain ⟨h1,h2⟩:=goodB_good hg
  simp only [okS]
  have hs : ∀ i,i + 1 < ss.length → Op.bytesLess (ss.getD i default).name (ss.getD (i + 1) default).name = true:=fun i hi => by
   have h3:=(h1.streams (i + 1) (by simpa using hi)).2
   simp only [fS,stAt,Nat.add_sub_cancel,ordE] at h3
   rw [if_pos (Nat.succ_pos i)] at h3
   split at h3
   ·by_cases h4 : (ss.getD i default).name = (ss.getD (i + 1) default).name
    ·rw [if_pos h4] at h3; cases h3
    ·rw [if_neg h4] at h3
     by_cases h5 : Op.bytesLess (ss.getD (i + 1) default).name (ss.getD i default).name = true
     ·rw [if_pos h5] at h3; cases h3
     ·cases h6 : Op.bytesLess (ss.getD i default).name (ss.getD (i + 1) default).name with
      | true => rfl
      | false => exact absurd (bl_total _ _ h6 (by simpa using h5)) h4
   ·cases h3
  have hlt : ∀ (j i : Nat),i < j → j < ss.length → Op.bytesLess (ss.getD i default).name (ss.getD j default).name = true:=by
   intro j
   induction j with
   | zero => intro i h; omega
   | succ j ih =>
    intro i hij hj
    by_cases e : i = j
    ·subst e; exact hs i hj
    ·exact bl_trans _ _ _ (ih i (by omega) (by omega)) (hs j hj)
  refine ⟨List.pairwise_iff_getElem.2 fun i j hi hj hij => ?_,good_okSL ks (l + 1) h2⟩
  have:=hlt j i hij hj
  simpa [List.getD,hi,hj] using this
theorem good_okSL : ∀ (ks : List NV) (l : Int),goodL ks l = true → okSL ks
 | [],l,hg => trivial
 | k::r,l,hg => by
  simp only [goodL,Bool.and_eq_true] at hg
  simp only [okSL]
  exact ⟨good_okS k l hg.1,good_okSL r l hg.2⟩
end
theorem valid_okS {n : NV} (h : valid n = true) : okS n:=by
 rw [valid_good,Bool.and_eq_true] at h
 exact good_okS n 1 h.2
end Go.Tame.V
/- Contracts: the other way of trees: Sort. By program (mk53.py,mk.py). -/
namespace Go.Tame.V
open Go Go.Proofs
variable {W0 : World}
set_option maxRecDepth 10000
set_option linter.unusedVariables false
set_option linter.unusedSimpArgs false

def cellsN (n : NV) : List D:=[.str n.name,.int .i64 n.kind,.str n.text,.str n.target,.int .i64 n.n1,.int .i64 n.n2,.int .i64 n.n3,.int .i64 n.n4,.int .i64 n.n5,.int .i64 n.n6,.sl .none 12 (n.kids.map enc),.sl .none 2 (n.streams.map encS)]
theorem on (f : Nat → Bool) (k : Nat) (h : f k = true) : ∃ g : Nat → Bool,f = fun j => _root_.cond (Nat.beq j k) true (g j) :=
 ⟨f,funext fun j => by cases hb : Nat.beq j k with | false => rfl | true => rw [beq_true hb]; exact h⟩

theorem posN_first {α : Type} {key : α → List UInt8} {out : List α} {x : α} {p : Nat} (h : p < out.length) (hb : Op.bytesLess (key x) (key out[p]) = true) : posN key out x (p + 1) = posN key out x p:=by
 simp only [posN,List.getElem?_eq_getElem h,hb,if_true]
theorem posN_stop {α : Type} {key : α → List UInt8} {out : List α} {x : α} {p : Nat} (h : p < out.length) (hb : Op.bytesLess (key x) (key out[p]) = false) : posN key out x (p + 1) = p + 1:=by
 simp only [posN,List.getElem?_eq_getElem h]; rw [if_neg (by rw [hb]; simp)]
theorem insS_split {α : Type} {key : α → List UInt8} {out : List α} {x : α} {p : Nat} (h : posN key out x out.length = p) : insS key out x = out.take p ++ x::out.drop p:=by subst h; rfl
theorem isort_take {α β : Type} {key : α → List UInt8} {f : β → α} {l : List β} {i : Nat} (h : i < l.length) : isort key ((l.take (i + 1)).map f) = insS key (isort key ((l.take i).map f)) (f l[i]):=by
 rw [List.take_succ_eq_append_getElem h,List.map_append,List.map_cons,List.map_nil,isort_snoc]

theorem K90 : ∀ (N : Nat) (n : NV),sz n < N → sz n < 2000000 → DFun Tryz.prog W0 90 [encTop n] (encTop (srtT n)):=by
 refine fun N => Nat.rec (fun n h => absurd h (Nat.not_lt_zero _)) (fun N ih n hN hok => ?_) N
 have hasz:=sz_eq n
 have h64 : n.kids.length ≤ 1000000:=by have:=szL_len n.kids; omega
 have hsn : n.streams.length < 1000000000:=by have:=szS_len n.streams; omega
 have hokl : ∀ k ∈ n.kids,sz k < 2000000:=fun k hk => by
  obtain ⟨i,hi,rfl⟩:=List.mem_iff_getElem.1 hk
  have:=kid_sz hi
  omega
 refine DFun.intro ti_ok Tryz.func90 rfl (by decide +kernel) Tryz.ntmps90 rfl fun Γ => ?_
 refine Tri.seq ?_
 refine Tri.region ti_ok ?_
 conv => whnf
 intro b1
 conv => whnf
 intro b2
 conv => whnf
 refine Tri.seq ?_
 refine Tri.region ti_ok ?_
 conv => whnf
 refine ⟨trivial,?_⟩
 conv => whnf
 refine Tri.seq ?_
 refine Tri.seq ?_
 refine Tri.region ti_ok ?_
 conv => whnf
 refine Tri.block ?_
 refine Tri.loopK (α:={ i : Nat // i ≤ n.kids.length }) (fun y => [(1,.box 1 b1 0),(2,.box 2 b2 0),(3,.sl .none 12 ((isort NV.name ((n.kids.take y.1).map srtT)).map encTop)),(4,.int .i64 y.1)]) (fun _ => [(1,.box b1 (cellsN n)),(2,.box b2 [.str [],.int .i64 0,.str [],.str [],.int .i64 0,.int .i64 0,.int .i64 0,.int .i64 0,.int .i64 0,.int .i64 0,.nils,.nils])]) (fun y => n.kids.length - y.1) ⟨0,Nat.zero_le _⟩ [(1,1),(2,2)]
  ⟨⟨.refl _,.refl _,DLe.full,.refl _,trivial⟩,rfl,rfl,rfl,rfl,rfl,trivial⟩ ?_
 rintro ⟨i,hi⟩
 dsimp only at hi ⊢
 refine Tri.seq ?_
 refine Tri.seq ?_
 refine Tri.region ti_ok ?_
 conv => whnf
 refine ⟨rfl,?_⟩
 conv => whnf
 refine Tri.cond _ rfl (fun hc => ?_) (fun hc => ?_)
 ·refine Tri.skip ?_
  conv => whnf
  have hia : i < n.kids.length:=by simpa using hc
  have hkz:=kid_sz hia
  have hOl : (isort NV.name ((n.kids.take i).map srtT)).length = i:=by rw [isort_len]; simp; omega
  have hst:=isort_take (key:=NV.name) (f:=srtT) hia
  generalize hOO : isort NV.name ((n.kids.take i).map srtT) = O at *
  refine Tri.seq ?_
  refine Tri.block ?_
  refine Tri.seq ?_
  refine Tri.region ti_ok ?_
  conv => whnf
  refine ⟨rfl,?_⟩
  conv => whnf
  refine ⟨fun _ => by simp; omega,?_⟩
  conv => whnf
  refine ⟨encTop n.kids[i],fun _ => get_kids hia,?_⟩
  conv => whnf
  refine ⟨[encTop n.kids[i]],_,fun _ => ih n.kids[i] (by omega) (hokl _ (List.getElem_mem hia)),⟨.refl _,trivial⟩,?_⟩
  conv => whnf
  generalize hxx : srtT n.kids[i] = x at *
  intro b5
  conv => whnf
  refine ⟨rfl,?_⟩
  conv => whnf
  refine Tri.seq ?_
  refine Tri.region ti_ok ?_
  conv => whnf
  refine Tri.seq ?_
  refine Tri.block ?_
  refine Tri.loopK (α:={ p : Nat // p ≤ i ∧ posN NV.name O x O.length = posN NV.name O x p }) (fun y => [(1,.box 1 b1 0),(2,.box 2 b2 0),(3,.sl .none 12 (O.map encTop)),(4,.int .i64 i),(5,.box 5 b5 0),(6,.int .i64 y.1)]) (fun _ => [(1,.box b1 (cellsN n)),(2,.box b2 [.str [],.int .i64 0,.str [],.str [],.int .i64 0,.int .i64 0,.int .i64 0,.int .i64 0,.int .i64 0,.int .i64 0,.nils,.nils]),(5,.box b5 (cellsN x))]) (fun y => y.1) ⟨i,Nat.le_refl _,by rw [hOl]⟩ [(1,1),(2,2),(5,5)]
   ⟨⟨.refl _,.refl _,.refl _,.refl _,.refl _,DLe.of_eq (congrArg (D.int .i64) (by simp [hOl])),trivial⟩,rfl,rfl,rfl,rfl,rfl,rfl,rfl,trivial⟩ ?_
  rintro ⟨p,hp,hpos⟩
  dsimp only at hp hpos ⊢
  have hgo : ∀ j,(h : j < O.length) → (O.map encTop)[j]? = some (encTop O[j]):=fun j h => by simp [h]
  refine Tri.seq ?_
  refine Tri.seq ?_
  refine Tri.draw ti_ok mixed (by kernel_rfl) ?_
  conv => whnf
  refine ⟨fun h => h,?_⟩
  conv => whnf
  refine .inl ⟨fun h => by simp only [InR]; omega,?_⟩
  conv => whnf
  refine ⟨fun h => h,?_⟩
  conv => whnf
  refine ⟨fun h => h,?_⟩
  conv => whnf
  refine ⟨fun h => by simp at h; simp; omega,?_⟩
  conv => whnf
  refine ⟨fun h => h,?_⟩
  conv => whnf
  refine ⟨fun h => h,?_⟩
  conv => whnf
  refine ⟨encTop (O.getD (p - 1) default),fun h => by
   have h0 : 0 < p:=by simpa using h
   rw [pred_toNat h0,hgo (p - 1) (by omega)]; simp [List.getD,show p - 1 < O.length by omega],?_⟩
  conv => whnf
  refine ⟨fun h => h,?_⟩
  conv => whnf
  refine ⟨rfl,?_⟩
  conv => whnf
  refine ⟨fun h => h,?_⟩
  conv => whnf
  refine ⟨fun h => h,?_⟩
  conv => whnf
  refine ⟨fun h0 h => by first | exact h | (rw [h]; rfl) | (rw [h0,h]; rfl),?_⟩
  conv => whnf
  refine Tri.cond _ rfl (fun hc => ?_) (fun hc => ?_)
  ·have h0 : 0 < p:=by
    cases h0 : decide ((0 : Int) < p) with
    | false => rw [h0] at hc; cases hc
    | true => simpa using h0
   have hb : Op.bytesLess x.name (O[p - 1]'(by omega)).name = true:=by
    have h1 : decide ((0 : Int) < p) = true:=by simpa using h0
    rw [h1] at hc
    have e : O.getD (p - 1) default = O[p - 1]'(by omega):=by simp [List.getD,show p - 1 < O.length by omega]
    rw [e] at hc
    have hc2 : (!(Op.bytesLess (O[p - 1]'(by omega)).name x.name || (O[p - 1]'(by omega)).name == x.name)) = true:=hc
    simp only [Bool.not_eq_true',Bool.or_eq_false_iff,beq_eq_false_iff_ne] at hc2
    cases h3 : Op.bytesLess x.name (O[p - 1]'(by omega)).name with
    | true => rfl
    | false => exact absurd (bl_total _ _ hc2.1 h3) hc2.2
   refine Tri.skip ?_
   conv => whnf
   refine Tri.block ?_
   refine Tri.region ti_ok ?_
   conv => whnf
   refine .inl ⟨fun _ => by simp only [InR]; omega,?_⟩
   conv => whnf
   exact ⟨⟨p - 1,by omega,by
    have:=posN_first (key:=NV.name) (x:=x) (p:=p - 1) (by omega) hb
    rw [show p - 1 + 1 = p by omega] at this
    rw [hpos,this]⟩,[(1,1),(2,2),(5,5)],by show p - 1 < p; omega,⟨.refl _,.refl _,.refl _,.refl _,.refl _,DLe.of_eq (congrArg (D.int .i64) (by show (p : Int) - 1 = ((p - 1 : Nat) : Int); omega)),trivial⟩,rfl,rfl,rfl,rfl,rfl,rfl,rfl,trivial⟩
  ·refine Tri.exit ?_
   conv => whnf
   have hps : posN NV.name O x O.length = p:=by
    rw [hpos]
    cases p with
    | zero => rfl
    | succ p =>
     have hpl : p < O.length:=by omega
     have h1 : decide ((0 : Int) < (p + 1 : Nat)) = true:=by simp
     rw [h1] at hc
     have e : O.getD (p + 1 - 1) default = O[p]:=by simp [List.getD,hpl]
     rw [e] at hc
     have hc2 : (!(Op.bytesLess O[p].name x.name || O[p].name == x.name)) = false:=hc
     refine posN_stop hpl ?_
     cases h3 : Op.bytesLess x.name O[p].name with
     | false => rfl
     | true => rw [bl_asymm h3,beq_eq_false_iff_ne.2 (bl_ne h3).symm] at hc2; simp at hc2
   have hins:=insS_split hps
   have hT : (List.take ((p : Nat) : Int).toNat (O.map encTop)).drop (Int.toNat 0) = (O.take p).map encTop:=by simp
   have hD : (List.take (((O.map encTop).length : Nat) : Int).toNat (O.map encTop)).drop ((p : Nat) : Int).toNat = (O.drop p).map encTop:=by rw [List.take_of_length_le (by simp)]; simp
   have hN : ∀ w : Value,DLe (.sl (.own 51 w) 12 ((O.take p).map encTop ++ ([encTop x] ++ (O.drop p).map encTop))) (.sl .none 12 ((insS NV.name O x).map encTop)):=fun w => by
    rw [hins]; simp only [List.map_append,List.map_cons,List.singleton_append]; exact DLe.unown
   refine Tri.bitsI ti_ok mixed (α:=Unit) (fun _ f => [(1,.box 1 b1 0),(2,.box 2 b2 0),(4,.int .i64 i),(5,.box 5 b5 0),(6,.int .i64 p),(3,bif f 11 then .sl .none 12 ((insS NV.name O x).map encTop) else .sl .none 12 (O.map encTop)),(41,bif f 0 then .sl .none 12 (O.map encTop) else .any),(42,bif f 1 then .int .i64 p else .any),(43,bif f 2 then .int .i64 p else .any),(44,bif f 3 then .sl .full 12 ((O.take p).map encTop) else .any),(45,bif f 4 then encTop x else .any),(46,bif f 5 then .sl .full 12 [encTop x] else .any),(47,bif f 6 then .sl .none 12 (O.map encTop) else .any),(48,bif f 7 then .int .i64 p else .any),(49,bif f 8 then .sl .none 12 ((O.drop p).map encTop) else .any),(50,bif f 9 then .sl .none 12 ([encTop x] ++ (O.drop p).map encTop) else .any),(51,bif f 10 then .sl .none 12 ((insS NV.name O x).map encTop) else .any)])
    (fun _ f => [(1,.box b1 (cellsN n)),(2,.box b2 [.str [],.int .i64 0,.str [],.str [],.int .i64 0,.int .i64 0,.int .i64 0,.int .i64 0,.int .i64 0,.int .i64 0,.nils,.nils]),(5,.box b5 (cellsN x))]) (by decide +kernel) () ?_ ?_ ?_ ?_
   ·exact ⟨.refl _,.refl _,.refl _,.refl _,.refl _,.refl _,.any _,.any _,.any _,.any _,.any _,.any _,.any _,.any _,.any _,.any _,.any _,trivial⟩
   ·exact ⟨rfl,rfl,rfl,trivial⟩
   ·conv => whnf
    refine ⟨fun _ f hI => ?_,?_⟩
    ·obtain ⟨f,rfl⟩:=off f 11 (hI.no 11 0 rfl rfl)
     conv => whnf
     exact ⟨(),⟨.refl _,.refl _,.refl _,.refl _,.refl _,.refl _,.refl _,.refl _,.refl _,.refl _,.refl _,.refl _,.refl _,.refl _,.refl _,.refl _,.refl _,trivial⟩,rfl,rfl,rfl,trivial⟩
    refine ⟨fun _ f hI => ?_,?_⟩
    ·obtain ⟨f,rfl⟩:=off f 11 (hI.no 11 1 rfl rfl)
     conv => whnf
     exact ⟨(),⟨.refl _,.refl _,.refl _,.refl _,.refl _,.refl _,.refl _,.refl _,.refl _,.refl _,.refl _,.refl _,.refl _,.refl _,.refl _,.refl _,.refl _,trivial⟩,rfl,rfl,rfl,trivial⟩
    refine ⟨fun _ f hI => ?_,?_⟩
    ·obtain ⟨f,rfl⟩:=off f 11 (hI.no 11 2 rfl rfl)
     conv => whnf
     exact ⟨(),⟨.refl _,.refl _,.refl _,.refl _,.refl _,.refl _,.refl _,.refl _,.refl _,.refl _,.refl _,.refl _,.refl _,.refl _,.refl _,.refl _,.refl _,trivial⟩,rfl,rfl,rfl,trivial⟩
    refine ⟨fun _ f hI => ?_,?_⟩
    ·obtain ⟨f,rfl⟩:=off f 11 (hI.no 11 3 rfl rfl)
     conv => whnf
     refine .inl ?_
     conv => whnf
     refine ⟨fun _ => ⟨rfl,by omega,by omega,by simp; omega⟩,?_⟩
     conv => whnf
     exact ⟨(),⟨.refl _,.refl _,.refl _,.refl _,.refl _,.refl _,.refl _,.refl _,.refl _,DLe.of_eq (congrArg (D.sl .full _) hT),.refl _,.refl _,.refl _,.refl _,.refl _,.refl _,.refl _,trivial⟩,rfl,rfl,rfl,trivial⟩
    refine ⟨fun _ f hI => ?_,?_⟩
    ·obtain ⟨f,rfl⟩:=off f 11 (hI.no 11 4 rfl rfl)
     conv => whnf
     refine .inl ?_
     conv => whnf
     refine ⟨rfl,?_⟩
     conv => whnf
     exact ⟨(),⟨.refl _,.refl _,.refl _,.refl _,.refl _,.refl _,.refl _,.refl _,.refl _,.refl _,.refl _,.refl _,.refl _,.refl _,.refl _,.refl _,.refl _,trivial⟩,rfl,rfl,rfl,trivial⟩
    refine ⟨fun _ f hI => ?_,?_⟩
    ·obtain ⟨f,rfl⟩:=off f 11 (hI.no 11 5 rfl rfl)
     conv => whnf
     refine ⟨trivial,?_⟩
     conv => whnf
     exact ⟨(),⟨.refl _,.refl _,.refl _,.refl _,.refl _,.refl _,.refl _,.refl _,.refl _,.refl _,.refl _,.refl _,.refl _,.refl _,.refl _,.refl _,.refl _,trivial⟩,rfl,rfl,rfl,trivial⟩
    refine ⟨fun _ f hI => ?_,?_⟩
    ·obtain ⟨f,rfl⟩:=off f 11 (hI.no 11 6 rfl rfl)
     conv => whnf
     exact ⟨(),⟨.refl _,.refl _,.refl _,.refl _,.refl _,.refl _,.refl _,.refl _,.refl _,.refl _,.refl _,.refl _,.refl _,.refl _,.refl _,.refl _,.refl _,trivial⟩,rfl,rfl,rfl,trivial⟩
    refine ⟨fun _ f hI => ?_,?_⟩
    ·obtain ⟨f,rfl⟩:=off f 11 (hI.no 11 7 rfl rfl)
     conv => whnf
     exact ⟨(),⟨.refl _,.refl _,.refl _,.refl _,.refl _,.refl _,.refl _,.refl _,.refl _,.refl _,.refl _,.refl _,.refl _,.refl _,.refl _,.refl _,.refl _,trivial⟩,rfl,rfl,rfl,trivial⟩
    refine ⟨fun _ f hI => ?_,?_⟩
    ·obtain ⟨f,rfl⟩:=off f 11 (hI.no 11 8 rfl rfl)
     conv => whnf
     refine .inl ?_
     conv => whnf
     refine ⟨fun _ => by simp; omega,?_⟩
     conv => whnf
     exact ⟨(),⟨.refl _,.refl _,.refl _,.refl _,.refl _,.refl _,.refl _,.refl _,.refl _,.refl _,.refl _,.refl _,.refl _,.refl _,DLe.of_eq (congrArg (D.sl .none _) hD),.refl _,.refl _,trivial⟩,rfl,rfl,rfl,trivial⟩
    refine ⟨fun _ f hI => ?_,?_⟩
    ·obtain ⟨f,rfl⟩:=off f 11 (hI.no 11 9 rfl rfl)
     conv => whnf
     refine .inl ?_
     conv => whnf
     refine ⟨by show (_ + _) * _ ≤ _; simp; omega,by show _ + _ ≤ _; simp; omega,(fun h => by cases h),fun w1 => ?_⟩
     exact ⟨(),⟨.refl _,.refl _,.refl _,.refl _,.refl _,.refl _,.refl _,.refl _,.refl _,.refl _,.refl _,.refl _,.refl _,.refl _,.refl _,DLe.unown,.refl _,trivial⟩,rfl,rfl,rfl,trivial⟩
    refine ⟨fun _ f hI => ?_,?_⟩
    ·obtain ⟨f,rfl⟩:=off f 11 (hI.no 11 10 rfl rfl)
     conv => whnf
     refine .inl ?_
     conv => whnf
     refine ⟨by show (_ + _) * _ ≤ _; simp; omega,by show _ + _ ≤ _; simp; omega,(fun h => by cases h),fun w1 => ?_⟩
     exact ⟨(),⟨.refl _,.refl _,.refl _,.refl _,.refl _,.refl _,.refl _,.refl _,.refl _,.refl _,.refl _,.refl _,.refl _,.refl _,.refl _,.refl _,hN _,trivial⟩,rfl,rfl,rfl,trivial⟩
    refine ⟨fun _ f hI => ?_,?_⟩
    ·conv => whnf
     exact ⟨(),⟨.refl _,.refl _,.refl _,.refl _,.refl _,.refl _,.refl _,.refl _,.refl _,.refl _,.refl _,.refl _,.refl _,.refl _,.refl _,.refl _,.refl _,trivial⟩,rfl,rfl,rfl,trivial⟩
    exact trivial
   ·intro _ f hf
    obtain ⟨f,rfl⟩:=on f 11 (hf 11 (by decide +kernel))
    conv => whnf
    refine Tri.region ti_ok ?_
    conv => whnf
    refine .inl ⟨fun _ => by simp only [InR]; omega,?_⟩
    conv => whnf
    exact ⟨⟨i + 1,hia⟩,[(1,1),(2,2)],by show n.kids.length - (i + 1) < n.kids.length - i; omega,⟨.refl _,.refl _,DLe.of_eq (congrArg (D.sl .none 12) (by rw [hst])),.refl _,trivial⟩,rfl,rfl,rfl,rfl,rfl,trivial⟩
 ·refine Tri.exit ?_
  conv => whnf
  have hin : i = n.kids.length:=by simp at hc; omega
  have hall : (n.kids.take i).map srtT = n.kids.map srtT:=by rw [List.take_of_length_le (by omega)]
  rw [hall]
  refine Tri.seq ?_
  refine Tri.region ti_ok ?_
  conv => whnf
  refine ⟨trivial,?_⟩
  conv => whnf
  refine Tri.seq ?_
  refine Tri.seq ?_
  refine Tri.region ti_ok ?_
  conv => whnf
  refine Tri.block ?_
  refine Tri.loopK (α:={ i : Nat // i ≤ n.streams.length }) (fun y => [(1,.box 1 b1 0),(2,.box 2 b2 0),(3,.sl .none 12 ((isort NV.name (n.kids.map srtT)).map encTop)),(7,.sl .none 2 ((isort SV.name (n.streams.take y.1)).map encS)),(8,.int .i64 y.1)]) (fun _ => [(1,.box b1 (cellsN n)),(2,.box b2 [.str [],.int .i64 0,.str [],.str [],.int .i64 0,.int .i64 0,.int .i64 0,.int .i64 0,.int .i64 0,.int .i64 0,.nils,.nils])]) (fun y => n.streams.length - y.1) ⟨0,Nat.zero_le _⟩ [(1,1),(2,2)]
   ⟨⟨.refl _,.refl _,.refl _,DLe.full,.refl _,trivial⟩,rfl,rfl,rfl,rfl,rfl,trivial⟩ ?_
  rintro ⟨i,hi⟩
  dsimp only at hi ⊢
  refine Tri.seq ?_
  refine Tri.seq ?_
  refine Tri.region ti_ok ?_
  conv => whnf
  refine ⟨rfl,?_⟩
  conv => whnf
  refine Tri.cond _ rfl (fun hc => ?_) (fun hc => ?_)
  ·refine Tri.skip ?_
   conv => whnf
   have hia : i < n.streams.length:=by simpa using hc
   have hQl : (isort SV.name (n.streams.take i)).length = i:=by rw [isort_len]; simp; omega
   have hst : isort SV.name (n.streams.take (i + 1)) = insS SV.name (isort SV.name (n.streams.take i)) n.streams[i]:=by
    rw [List.take_succ_eq_append_getElem hia,isort_snoc]
   generalize hQQ : isort SV.name (n.streams.take i) = Q at *
   have hgs : (n.streams.map encS)[((i : Nat) : Int).toNat]? = some (encS n.streams[i]):=by simp [hia]
   refine Tri.seq ?_
   refine Tri.block ?_
   refine Tri.seq ?_
   refine Tri.region ti_ok ?_
   conv => whnf
   refine Tri.seq ?_
   refine Tri.block ?_
   refine Tri.loopK (α:={ p : Nat // p ≤ i ∧ posN SV.name Q n.streams[i] Q.length = posN SV.name Q n.streams[i] p }) (fun y => [(1,.box 1 b1 0),(2,.box 2 b2 0),(3,.sl .none 12 ((isort NV.name (n.kids.map srtT)).map encTop)),(7,.sl .none 2 (Q.map encS)),(8,.int .i64 i),(9,.int .i64 y.1)]) (fun _ => [(1,.box b1 (cellsN n)),(2,.box b2 [.str [],.int .i64 0,.str [],.str [],.int .i64 0,.int .i64 0,.int .i64 0,.int .i64 0,.int .i64 0,.int .i64 0,.nils,.nils])]) (fun y => y.1) ⟨i,Nat.le_refl _,by rw [hQl]⟩ [(1,1),(2,2)]
    ⟨⟨.refl _,.refl _,.refl _,.refl _,.refl _,DLe.of_eq (congrArg (D.int .i64) (by simp [hQl])),trivial⟩,rfl,rfl,rfl,rfl,rfl,trivial⟩ ?_
   rintro ⟨p,hp,hpos⟩
   dsimp only at hp hpos ⊢
   have hgo : ∀ j,(h : j < Q.length) → (Q.map encS)[j]? = some (encS Q[j]):=fun j h => by simp [h]
   refine Tri.seq ?_
   refine Tri.seq ?_
   refine Tri.draw ti_ok mixed (by kernel_rfl) ?_
   conv => whnf
   refine ⟨fun h => h,?_⟩
   conv => whnf
   refine .inl ⟨fun h => by simp only [InR]; omega,?_⟩
   conv => whnf
   refine ⟨fun h => h,?_⟩
   conv => whnf
   refine ⟨fun h => h,?_⟩
   conv => whnf
   refine ⟨fun h => by simp at h; simp; omega,?_⟩
   conv => whnf
   refine ⟨fun h => h,?_⟩
   conv => whnf
   refine ⟨fun h => h,?_⟩
   conv => whnf
   refine ⟨encS (Q.getD (p - 1) default),fun h => by
    have h0 : 0 < p:=by simpa using h
    rw [pred_toNat h0,hgo (p - 1) (by omega)]; simp [List.getD,show p - 1 < Q.length by omega],?_⟩
   conv => whnf
   refine ⟨fun h => h,?_⟩
   conv => whnf
   refine ⟨rfl,?_⟩
   conv => whnf
   refine ⟨fun h => h,?_⟩
   conv => whnf
   refine ⟨fun h => h,?_⟩
   conv => whnf
   refine ⟨fun h => by simp; omega,?_⟩
   conv => whnf
   refine ⟨fun h => h,?_⟩
   conv => whnf
   refine ⟨fun h => h,?_⟩
   conv => whnf
   refine ⟨encS n.streams[i],fun h => hgs,?_⟩
   conv => whnf
   refine ⟨fun h => h,?_⟩
   conv => whnf
   refine ⟨fun h => h,?_⟩
   conv => whnf
   refine ⟨fun h0 h => by first | exact h | (rw [h]; rfl) | (rw [h0,h]; rfl),?_⟩
   conv => whnf
   refine Tri.cond _ rfl (fun hc => ?_) (fun hc => ?_)
   ·have h0 : 0 < p:=by
     cases h0 : decide ((0 : Int) < p) with
     | false => rw [h0] at hc; cases hc
     | true => simpa using h0
    have hb : Op.bytesLess n.streams[i].name (Q[p - 1]'(by omega)).name = true:=by
     have h1 : decide ((0 : Int) < p) = true:=by simpa using h0
     rw [h1] at hc
     have e : Q.getD (p - 1) default = Q[p - 1]'(by omega):=by simp [List.getD,show p - 1 < Q.length by omega]
     rw [e] at hc
     have hc2 : (!(Op.bytesLess (Q[p - 1]'(by omega)).name n.streams[i].name || (Q[p - 1]'(by omega)).name == n.streams[i].name)) = true:=hc
     simp only [Bool.not_eq_true',Bool.or_eq_false_iff,beq_eq_false_iff_ne] at hc2
     cases h3 : Op.bytesLess n.streams[i].name (Q[p - 1]'(by omega)).name with
     | true => rfl
     | false => exact absurd (bl_total _ _ hc2.1 h3) hc2.2
    refine Tri.skip ?_
    conv => whnf
    refine Tri.block ?_
    refine Tri.region ti_ok ?_
    conv => whnf
    refine .inl ⟨fun _ => by simp only [InR]; omega,?_⟩
    conv => whnf
    exact ⟨⟨p - 1,by omega,by
     have:=posN_first (key:=SV.name) (x:=n.streams[i]) (p:=p - 1) (by omega) hb
     rw [show p - 1 + 1 = p by omega] at this
     rw [hpos,this]⟩,[(1,1),(2,2)],by show p - 1 < p; omega,⟨.refl _,.refl _,.refl _,.refl _,.refl _,DLe.of_eq (congrArg (D.int .i64) (by show (p : Int) - 1 = ((p - 1 : Nat) : Int); omega)),trivial⟩,rfl,rfl,rfl,rfl,rfl,trivial⟩
   ·refine Tri.exit ?_
    conv => whnf
    have hps : posN SV.name Q n.streams[i] Q.length = p:=by
     rw [hpos]
     cases p with
     | zero => rfl
     | succ p =>
      have hpl : p < Q.length:=by omega
      have h1 : decide ((0 : Int) < (p + 1 : Nat)) = true:=by simp
      rw [h1] at hc
      have e : Q.getD (p + 1 - 1) default = Q[p]:=by simp [List.getD,hpl]
      rw [e] at hc
      have hc2 : (!(Op.bytesLess Q[p].name n.streams[i].name || Q[p].name == n.streams[i].name)) = false:=hc
      refine posN_stop hpl ?_
      cases h3 : Op.bytesLess n.streams[i].name Q[p].name with
      | false => rfl
      | true => rw [bl_asymm h3,beq_eq_false_iff_ne.2 (bl_ne h3).symm] at hc2; simp at hc2
    have hins:=insS_split hps
    have hT : (List.take ((p : Nat) : Int).toNat (Q.map encS)).drop (Int.toNat 0) = (Q.take p).map encS:=by simp
    have hD : (List.take (((Q.map encS).length : Nat) : Int).toNat (Q.map encS)).drop ((p : Nat) : Int).toNat = (Q.drop p).map encS:=by rw [List.take_of_length_le (by simp)]; simp
    have hN : ∀ w : Value,DLe (.sl (.own 95 w) 2 ((Q.take p).map encS ++ ([encS n.streams[i]] ++ (Q.drop p).map encS))) (.sl .none 2 ((insS SV.name Q n.streams[i]).map encS)):=fun w => by
     rw [hins]; simp only [List.map_append,List.map_cons,List.singleton_append]; exact DLe.unown
    refine Tri.bitsI ti_ok mixed (α:=Unit) (fun _ f => [(1,.box 1 b1 0),(2,.box 2 b2 0),(3,.sl .none 12 ((isort NV.name (n.kids.map srtT)).map encTop)),(8,.int .i64 i),(9,.int .i64 p),(7,bif f 15 then .sl .none 2 ((insS SV.name Q n.streams[i]).map encS) else .sl .none 2 (Q.map encS)),(81,bif f 0 then .sl .none 2 (Q.map encS) else .any),(82,bif f 1 then .int .i64 p else .any),(83,bif f 2 then .int .i64 p else .any),(84,bif f 3 then .sl .full 2 ((Q.take p).map encS) else .any),(85,bif f 4 then .box 1 b1 11 else .any),(86,bif f 5 then .sl .none 2 (n.streams.map encS) else .any),(87,bif f 6 then .int .i64 i else .any),(88,bif f 7 then .elm 2 (n.streams.map encS) i 0 else .any),(89,bif f 8 then encS n.streams[i] else .any),(90,bif f 9 then .sl .full 2 [encS n.streams[i]] else .any),(91,bif f 10 then .sl .none 2 (Q.map encS) else .any),(92,bif f 11 then .int .i64 p else .any),(93,bif f 12 then .sl .none 2 ((Q.drop p).map encS) else .any),(94,bif f 13 then .sl .none 2 ([encS n.streams[i]] ++ (Q.drop p).map encS) else .any),(95,bif f 14 then .sl .none 2 ((insS SV.name Q n.streams[i]).map encS) else .any)])
     (fun _ f => [(1,.box b1 (cellsN n)),(2,.box b2 [.str [],.int .i64 0,.str [],.str [],.int .i64 0,.int .i64 0,.int .i64 0,.int .i64 0,.int .i64 0,.int .i64 0,.nils,.nils])]) (by decide +kernel) () ?_ ?_ ?_ ?_
    ·exact ⟨.refl _,.refl _,.refl _,.refl _,.refl _,.refl _,.any _,.any _,.any _,.any _,.any _,.any _,.any _,.any _,.any _,.any _,.any _,.any _,.any _,.any _,.any _,trivial⟩
    ·exact ⟨rfl,rfl,trivial⟩
    ·conv => whnf
     refine ⟨fun _ f hI => ?_,?_⟩
     ·obtain ⟨f,rfl⟩:=off f 15 (hI.no 15 0 rfl rfl)
      conv => whnf
      exact ⟨(),⟨.refl _,.refl _,.refl _,.refl _,.refl _,.refl _,.refl _,.refl _,.refl _,.refl _,.refl _,.refl _,.refl _,.refl _,.refl _,.refl _,.refl _,.refl _,.refl _,.refl _,.refl _,trivial⟩,rfl,rfl,trivial⟩
     refine ⟨fun _ f hI => ?_,?_⟩
     ·obtain ⟨f,rfl⟩:=off f 15 (hI.no 15 1 rfl rfl)
      conv => whnf
      exact ⟨(),⟨.refl _,.refl _,.refl _,.refl _,.refl _,.refl _,.refl _,.refl _,.refl _,.refl _,.refl _,.refl _,.refl _,.refl _,.refl _,.refl _,.refl _,.refl _,.refl _,.refl _,.refl _,trivial⟩,rfl,rfl,trivial⟩
     refine ⟨fun _ f hI => ?_,?_⟩
     ·obtain ⟨f,rfl⟩:=off f 15 (hI.no 15 2 rfl rfl)
      conv => whnf
      exact ⟨(),⟨.refl _,.refl _,.refl _,.refl _,.refl _,.refl _,.refl _,.refl _,.refl _,.refl _,.refl _,.refl _,.refl _,.refl _,.refl _,.refl _,.refl _,.refl _,.refl _,.refl _,.refl _,trivial⟩,rfl,rfl,trivial⟩
     refine ⟨fun _ f hI => ?_,?_⟩
     ·obtain ⟨f,rfl⟩:=off f 15 (hI.no 15 3 rfl rfl)
      conv => whnf
      refine .inl ?_
      conv => whnf
      refine ⟨fun _ => ⟨rfl,by omega,by omega,by simp; omega⟩,?_⟩
      conv => whnf
      exact ⟨(),⟨.refl _,.refl _,.refl _,.refl _,.refl _,.refl _,.refl _,.refl _,.refl _,DLe.of_eq (congrArg (D.sl .full _) hT),.refl _,.refl _,.refl _,.refl _,.refl _,.refl _,.refl _,.refl _,.refl _,.refl _,.refl _,trivial⟩,rfl,rfl,trivial⟩
     refine ⟨fun _ f hI => ?_,?_⟩
     ·obtain ⟨f,rfl⟩:=off f 15 (hI.no 15 4 rfl rfl)
      conv => whnf
      exact ⟨(),⟨.refl _,.refl _,.refl _,.refl _,.refl _,.refl _,.refl _,.refl _,.refl _,.refl _,.refl _,.refl _,.refl _,.refl _,.refl _,.refl _,.refl _,.refl _,.refl _,.refl _,.refl _,trivial⟩,rfl,rfl,trivial⟩
     refine ⟨fun _ f hI => ?_,?_⟩
     ·obtain ⟨f,rfl⟩:=off f 15 (hI.no 15 5 rfl rfl)
      conv => whnf
      refine .inl ?_
      conv => whnf
      refine ⟨rfl,?_⟩
      conv => whnf
      exact ⟨(),⟨.refl _,.refl _,.refl _,.refl _,.refl _,.refl _,.refl _,.refl _,.refl _,.refl _,.refl _,.refl _,.refl _,.refl _,.refl _,.refl _,.refl _,.refl _,.refl _,.refl _,.refl _,trivial⟩,rfl,rfl,trivial⟩
     refine ⟨fun _ f hI => ?_,?_⟩
     ·obtain ⟨f,rfl⟩:=off f 15 (hI.no 15 6 rfl rfl)
      conv => whnf
      exact ⟨(),⟨.refl _,.refl _,.refl _,.refl _,.refl _,.refl _,.refl _,.refl _,.refl _,.refl _,.refl _,.refl _,.refl _,.refl _,.refl _,.refl _,.refl _,.refl _,.refl _,.refl _,.refl _,trivial⟩,rfl,rfl,trivial⟩
     refine ⟨fun _ f hI => ?_,?_⟩
     ·obtain ⟨f,rfl⟩:=off f 15 (hI.no 15 7 rfl rfl)
      conv => whnf
      refine .inl ?_
      conv => whnf
      refine ⟨fun _ => by simp; omega,?_⟩
      conv => whnf
      exact ⟨(),⟨.refl _,.refl _,.refl _,.refl _,.refl _,.refl _,.refl _,.refl _,.refl _,.refl _,.refl _,.refl _,.refl _,.refl _,.refl _,.refl _,.refl _,.refl _,.refl _,.refl _,.refl _,trivial⟩,rfl,rfl,trivial⟩
     refine ⟨fun _ f hI => ?_,?_⟩
     ·obtain ⟨f,rfl⟩:=off f 15 (hI.no 15 8 rfl rfl)
      conv => whnf
      refine .inl ?_
      conv => whnf
      refine ⟨encS n.streams[i],fun _ => hgs,?_⟩
      conv => whnf
      exact ⟨(),⟨.refl _,.refl _,.refl _,.refl _,.refl _,.refl _,.refl _,.refl _,.refl _,.refl _,.refl _,.refl _,.refl _,.refl _,.refl _,.refl _,.refl _,.refl _,.refl _,.refl _,.refl _,trivial⟩,rfl,rfl,trivial⟩
     refine ⟨fun _ f hI => ?_,?_⟩
     ·obtain ⟨f,rfl⟩:=off f 15 (hI.no 15 9 rfl rfl)
      conv => whnf
      refine ⟨trivial,?_⟩
      conv => whnf
      exact ⟨(),⟨.refl _,.refl _,.refl _,.refl _,.refl _,.refl _,.refl _,.refl _,.refl _,.refl _,.refl _,.refl _,.refl _,.refl _,.refl _,.refl _,.refl _,.refl _,.refl _,.refl _,.refl _,trivial⟩,rfl,rfl,trivial⟩
     refine ⟨fun _ f hI => ?_,?_⟩
     ·obtain ⟨f,rfl⟩:=off f 15 (hI.no 15 10 rfl rfl)
      conv => whnf
      exact ⟨(),⟨.refl _,.refl _,.refl _,.refl _,.refl _,.refl _,.refl _,.refl _,.refl _,.refl _,.refl _,.refl _,.refl _,.refl _,.refl _,.refl _,.refl _,.refl _,.refl _,.refl _,.refl _,trivial⟩,rfl,rfl,trivial⟩
     refine ⟨fun _ f hI => ?_,?_⟩
     ·obtain ⟨f,rfl⟩:=off f 15 (hI.no 15 11 rfl rfl)
      conv => whnf
      exact ⟨(),⟨.refl _,.refl _,.refl _,.refl _,.refl _,.refl _,.refl _,.refl _,.refl _,.refl _,.refl _,.refl _,.refl _,.refl _,.refl _,.refl _,.refl _,.refl _,.refl _,.refl _,.refl _,trivial⟩,rfl,rfl,trivial⟩
     refine ⟨fun _ f hI => ?_,?_⟩
     ·obtain ⟨f,rfl⟩:=off f 15 (hI.no 15 12 rfl rfl)
      conv => whnf
      refine .inl ?_
      conv => whnf
      refine ⟨fun _ => by simp; omega,?_⟩
      conv => whnf
      exact ⟨(),⟨.refl _,.refl _,.refl _,.refl _,.refl _,.refl _,.refl _,.refl _,.refl _,.refl _,.refl _,.refl _,.refl _,.refl _,.refl _,.refl _,.refl _,.refl _,DLe.of_eq (congrArg (D.sl .none _) hD),.refl _,.refl _,trivial⟩,rfl,rfl,trivial⟩
     refine ⟨fun _ f hI => ?_,?_⟩
     ·obtain ⟨f,rfl⟩:=off f 15 (hI.no 15 13 rfl rfl)
      conv => whnf
      refine .inl ?_
      conv => whnf
      refine ⟨by show (_ + _) * _ ≤ _; simp; omega,by show _ + _ ≤ _; simp; omega,(fun h => by cases h),fun w1 => ?_⟩
      exact ⟨(),⟨.refl _,.refl _,.refl _,.refl _,.refl _,.refl _,.refl _,.refl _,.refl _,.refl _,.refl _,.refl _,.refl _,.refl _,.refl _,.refl _,.refl _,.refl _,.refl _,DLe.unown,.refl _,trivial⟩,rfl,rfl,trivial⟩
     refine ⟨fun _ f hI => ?_,?_⟩
     ·obtain ⟨f,rfl⟩:=off f 15 (hI.no 15 14 rfl rfl)
      conv => whnf
      refine .inl ?_
      conv => whnf
      refine ⟨by show (_ + _) * _ ≤ _; simp; omega,by show _ + _ ≤ _; simp; omega,(fun h => by cases h),fun w1 => ?_⟩
      exact ⟨(),⟨.refl _,.refl _,.refl _,.refl _,.refl _,.refl _,.refl _,.refl _,.refl _,.refl _,.refl _,.refl _,.refl _,.refl _,.refl _,.refl _,.refl _,.refl _,.refl _,.refl _,hN _,trivial⟩,rfl,rfl,trivial⟩
     refine ⟨fun _ f hI => ?_,?_⟩
     ·conv => whnf
      exact ⟨(),⟨.refl _,.refl _,.refl _,.refl _,.refl _,.refl _,.refl _,.refl _,.refl _,.refl _,.refl _,.refl _,.refl _,.refl _,.refl _,.refl _,.refl _,.refl _,.refl _,.refl _,.refl _,trivial⟩,rfl,rfl,trivial⟩
     exact trivial
    ·intro _ f hf
     obtain ⟨f,rfl⟩:=on f 15 (hf 15 (by decide +kernel))
     conv => whnf
     refine Tri.region ti_ok ?_
     conv => whnf
     refine .inl ⟨fun _ => by simp only [InR]; omega,?_⟩
     conv => whnf
     exact ⟨⟨i + 1,hia⟩,[(1,1),(2,2)],by show n.streams.length - (i + 1) < n.streams.length - i; omega,⟨.refl _,.refl _,.refl _,DLe.of_eq (congrArg (D.sl .none 2) (by rw [hst])),.refl _,trivial⟩,rfl,rfl,rfl,rfl,rfl,trivial⟩
  ·refine Tri.exit ?_
   conv => whnf
   have hin : i = n.streams.length:=by simp at hc; omega
   have hall : n.streams.take i = n.streams:=List.take_of_length_le (by omega)
   rw [hall]
   refine Tri.seq ?_
   refine Tri.region ti_ok ?_
   conv => whnf
   refine ⟨rfl,?_⟩
   conv => whnf
   refine ⟨rfl,?_⟩
   conv => whnf
   refine Tri.seq ?_
   refine Tri.region ti_ok ?_
   conv => whnf
   refine ⟨rfl,?_⟩
   conv => whnf
   refine ⟨rfl,?_⟩
   conv => whnf
   refine Tri.ret ?_
   conv => whnf
   refine ⟨rfl,?_⟩
   conv => whnf
   have hfin : encTop (srtT n) = .agg [.str n.name,.int .i64 n.kind,.str n.text,.str n.target,.int .i64 n.n1,.int .i64 n.n2,.int .i64 n.n3,.int .i64 n.n4,.int .i64 n.n5,.int .i64 n.n6,.sl .none 12 ((isort NV.name (n.kids.map srtT)).map encTop),.sl .none 2 ((isort SV.name n.streams).map encS)]:=by
    rw [srtT_eq,encTop,show enc = encTop from funext enc_eq]
   refine DLe.of_eq ?_
   rw [hfin]; rfl
end Go.Tame.V
/- The union of two trees,as the reference makes it,is the program's. Plain. -/
namespace Go.Tame.V
open Go Go.Proofs
set_option linter.unusedVariables false

/-- One kid more,by the reference. -/
def stepR (f : NV → NV → Option NV) (M : List NV) (k : NV) : Option (List NV) :=
 let i:=firstIdx (fun x : NV => x.name == k.name) M
 if i < 0 then some (M ++ [k]) else if (M.getD i.toNat default).kind = 0 ∧ k.kind = 0 then (f (M.getD i.toNat default) k).map fun y => M.set i.toNat y else none
def mergeR : Nat → NV → NV → Option NV
 | 0,_,_ => none
 | N + 1,a,b => (b.kids.foldlM (stepR (mergeR N)) a.kids).map fun ks => srtT (withKids a ks)

theorem szL_perm {l r : List NV} (h : l.Perm r) : szL l = szL r:=by
 induction h with
 | nil => rfl
 | cons x _ ih => simp only [szL,ih]
 | swap x y l => simp only [szL]; omega
 | trans _ _ ih1 ih2 => rw [ih1,ih2]
theorem szS_perm {l r : List SV} (h : l.Perm r) : szS l = szS r:=by
 induction h with
 | nil => rfl
 | cons x _ ih => simp only [szS,ih]
 | swap x y l => simp only [szS]; omega
 | trans _ _ ih1 ih2 => rw [ih1,ih2]
mutual
theorem sz_srtT : ∀ n : NV,sz (srtT n) = sz n
 | .mk a b c d e f g h i j ks ss => by
  simp only [srtT,sz,szS_perm (isort_spec SV.name ss).1,szL_perm (isort_spec NV.name (srtTL ks)).1,szL_srtT ks]
theorem szL_srtT : ∀ l : List NV,szL (srtTL l) = szL l
 | [] => rfl
 | k::r => by
  have : (srtT k).name = k.name:=by cases k; rfl
  simp only [srtTL,szL,sz_srtT k,szL_srtT r,this]
end
theorem srtT_name (n : NV) : (srtT n).name = n.name:=by cases n; rfl

mutual
theorem srtT_ris : ∀ n : NV,ris n → srtT n = n
 | .mk a b c d e f g h i j ks ss,hr => by
  simp only [ris] at hr
  have h1:=srtTL_ris ks hr.2.2.2
  simp only [srtT]
  rw [h1,isort_id NV.name ks (pairwise_of_inc hr.1),isort_id SV.name ss hr.2.1]
theorem srtTL_ris : ∀ l : List NV,risL l → srtTL l = l
 | [],_ => rfl
 | k::r,hr => by
  simp only [risL] at hr
  simp only [srtTL,srtT_ris k hr.1,srtTL_ris r hr.2]
end
mutual
theorem ris_srt : ∀ n : NV,ris n → srt n
 | .mk a b c d e f g h i j ks ss,hr => by
  simp only [ris] at hr
  simp only [srt]
  exact ⟨hr.1,risL_srtL ks hr.2.2.2⟩
theorem risL_srtL : ∀ l : List NV,risL l → srtL l
 | [],_ => trivial
 | k::r,hr => by
  simp only [risL] at hr
  simp only [srtL]
  exact ⟨ris_srt k hr.1,risL_srtL r hr.2⟩
end

theorem erase_perm {α : Type} : ∀ {l : List α} {i : Nat} (h : i < l.length),(l[i]::l.eraseIdx i).Perm l
 | x::r,0,_ => .refl _
 | x::r,i + 1,h => by
  simp only [List.getElem_cons_succ,List.eraseIdx_cons_succ]
  exact (List.Perm.swap ..).trans ((erase_perm (l:=r) (by simpa using h)).cons x)
theorem set_perm {α : Type} {y : α} : ∀ {l : List α} {i : Nat} (h : i < l.length),(l.set i y).Perm (y::l.eraseIdx i)
 | x::r,0,_ => .refl _
 | x::r,i + 1,h => by
  simp only [List.set_cons_succ,List.eraseIdx_cons_succ]
  exact ((set_perm (l:=r) (by simpa using h)).cons x).trans (List.Perm.swap ..)
theorem set_perms {α : Type} {M L : List α} {y : α} {i p : Nat} (hp : M.Perm L) (hi : i < M.length) (hl : p < L.length) (e : M[i] = L[p]) : (M.set i y).Perm (L.set p y):=by
 have h1:=(erase_perm hi).trans (hp.trans (erase_perm hl).symm)
 rw [e] at h1
 exact (set_perm hi).trans (((List.Perm.cons_inv h1).cons y).trans (set_perm hl).symm)
theorem name_inj {L : List NV} (hi : inc L) {x y : NV} (hx : x ∈ L) (hy : y ∈ L) (e : x.name = y.name) : x = y:=by
 obtain ⟨i,hi',rfl⟩:=List.mem_iff_getElem.1 hx
 obtain ⟨j,hj,rfl⟩:=List.mem_iff_getElem.1 hy
 rcases Nat.lt_trichotomy i j with h | h | h
 ·exact absurd e (bl_ne (inc_get hi h hj))
 ·subst h; rfl
 ·exact absurd e.symm (bl_ne (inc_get hi h hi'))
/-- What unions of rising trees are. -/
def MRis (f : NV → NV → Option NV) : Prop:=∀ x k y,ris x → ris k → f x k = some y → ris y
theorem step_eq {f g : NV → NV → Option NV} (hf : MOk g) (hr : MRis g) (hfg : ∀ x k,ris x → ris k → f x k = g x k) {M L : List NV} {k : NV} (hp : M.Perm L) (hi : inc L) (hL : risL L) (hk : ris k) :
  (stepR f M k = none ∧ stepM g L k = none) ∨ ∃ M' L',stepR f M k = some M' ∧ stepM g L k = some L' ∧ M'.Perm L' ∧ inc L' ∧ risL L':=by
 have hrm:=risL_mem.1 hL
 cases ha : atN L (lb L k.name) k.name with
 | true =>
  obtain ⟨hpl,e,hn⟩:=atN_get ha
  have hmem : L[lb L k.name] ∈ M:=hp.symm.subset (List.getElem_mem hpl)
  obtain ⟨i,him,hin,hif⟩ : ∃ i,∃ him : i < M.length,M[i].name = k.name ∧ firstIdx (fun x : NV => x.name == k.name) M = (i : Nat):=by
   cases hx : M.findIdx? (fun x : NV => x.name == k.name) with
   | none =>
    have:=List.findIdx?_eq_none_iff.1 hx _ hmem
    rw [hn] at this; simp at this
   | some i =>
    obtain ⟨h1,h2,_⟩:=List.findIdx?_eq_some_iff_getElem.1 hx
    exact ⟨i,h1,by simpa using h2,by rw [firstIdx,hx]⟩
  have hMi : M[i] = L[lb L k.name]:=name_inj hi (hp.subset (List.getElem_mem him)) (List.getElem_mem hpl) (by rw [hin,hn])
  have hge : M.getD i default = M[i]:=by simp [List.getD,him]
  simp only [stepR,stepM,ha,if_true,hif]
  rw [if_neg (by omega),show ((i : Nat) : Int).toNat = i from rfl,hge,e,hMi]
  by_cases hkd : L[lb L k.name].kind = 0 ∧ k.kind = 0
  ·rw [if_pos hkd,if_pos hkd,hfg _ _ (hrm _ (List.getElem_mem hpl)) hk]
   cases hg : g L[lb L k.name] k with
   | none => exact .inl ⟨rfl,rfl⟩
   | some y =>
    have hy:=hr _ _ _ (hrm _ (List.getElem_mem hpl)) hk hg
    obtain ⟨_,hyn,_⟩:=hf _ _ _ (ris_srt _ (hrm _ (List.getElem_mem hpl))) (ris_srt _ hk) hg
    refine .inr ⟨_,_,rfl,rfl,set_perms hp him hpl hMi,set_inc hi hpl hyn,risL_mem.2 fun z hz => ?_⟩
    rcases List.mem_or_eq_of_mem_set hz with hz | rfl
    ·exact hrm z hz
    ·exact hy
  ·rw [if_neg hkd,if_neg hkd]; exact .inl ⟨rfl,rfl⟩
 | false =>
  have hna : ¬ atN L (lb L k.name) k.name = true:=by rw [ha]; simp
  have hif : firstIdx (fun x : NV => x.name == k.name) M = -1:=firstIdx_none fun j hj => by
   have:=hp.subset (List.getElem_mem hj)
   obtain ⟨t,ht,e⟩:=List.mem_iff_getElem.1 this
   rw [← e]
   exact beq_eq_false_iff_ne.2 (atN_not hi hna t ht)
  simp only [stepR,stepM,hif]
  rw [if_pos (by decide),if_neg hna]
  refine .inr ⟨_,_,rfl,rfl,?_,ins_inc hi hna,risL_mem.2 fun z hz => ?_⟩
  ·have h1 : (L.take (lb L k.name) ++ k::L.drop (lb L k.name)).Perm (k::L):=by
    have:=List.perm_middle (a:=k) (l₁:=L.take (lb L k.name)) (l₂:=L.drop (lb L k.name))
    rwa [List.take_append_drop] at this
   have h2 : (M ++ [k]).Perm (k::M):=by
    have:=List.perm_middle (a:=k) (l₁:=M) (l₂:=[])
    rwa [List.append_nil] at this
   exact h2.trans ((hp.cons k).trans h1.symm)
  ·rcases List.mem_append.1 hz with hz | hz
   ·exact hrm z (List.mem_of_mem_take hz)
   ·rcases List.mem_cons.1 hz with rfl | hz
    ·exact hk
    ·exact hrm z (List.mem_of_mem_drop hz)
theorem fold_eq {f g : NV → NV → Option NV} (hf : MOk g) (hr : MRis g) (hfg : ∀ x k,ris x → ris k → f x k = g x k) : ∀ (l : List NV) {M L : List NV},M.Perm L → inc L → risL L → risL l →
  (l.foldlM (stepR f) M = none ∧ l.foldlM (stepM g) L = none) ∨ ∃ M' L',l.foldlM (stepR f) M = some M' ∧ l.foldlM (stepM g) L = some L' ∧ M'.Perm L' ∧ inc L' ∧ risL L'
 | [],M,L,hp,hi,hL,_ => .inr ⟨M,L,rfl,rfl,hp,hi,hL⟩
 | k::r,M,L,hp,hi,hL,hl => by
  simp only [risL] at hl
  rw [List.foldlM_cons,List.foldlM_cons]
  rcases step_eq hf hr hfg hp hi hL hl.1 with ⟨h1,h2⟩ | ⟨M',L',h1,h2,h3,h4,h5⟩
  ·rw [h1,h2]; exact .inl ⟨rfl,rfl⟩
  ·rw [h1,h2]; exact fold_eq hf hr hfg r h3 h4 h5 hl.2
theorem ris_withKids {a : NV} (ha : ris a) {ks : List NV} (hi : inc ks) (hk : risL ks) : ris (withKids a ks):=by
 obtain ⟨_,h2,h3,_⟩:=(ris_eq a).1 ha
 exact (ris_eq _).2 ⟨hi,h2,h3,hk⟩
theorem mergeV_ris : ∀ N,MRis (mergeV N)
 | 0 => fun x k y _ _ h => by simp [mergeV] at h
 | N + 1 => fun x k y hx hk h => by
  simp only [mergeV] at h
  obtain ⟨ks,hks,rfl⟩:=Option.map_eq_some_iff.1 h
  obtain ⟨h1,_,_,h2⟩:=(ris_eq x).1 hx
  obtain ⟨_,_,_,h4⟩:=(ris_eq k).1 hk
  rcases fold_eq (mergeV_ok N) (mergeV_ris N) (fun _ _ _ _ => rfl) k.kids (List.Perm.refl x.kids) h1 h2 h4 with ⟨_,h⟩ | ⟨M',L',_,h,_,h5,h6⟩
  ·rw [h] at hks; cases hks
  ·rw [h] at hks; cases hks
   exact ris_withKids hx h5 h6
/-- **The two ways to make a union give the same tree.** -/
theorem mergeR_eq : ∀ (N : Nat) (a b : NV),ris a → ris b → mergeR N a b = mergeV N a b
 | 0,_,_,_,_ => rfl
 | N + 1,a,b,ha,hb => by
  obtain ⟨h1,h7,_,h2⟩:=(ris_eq a).1 ha
  obtain ⟨_,_,_,h4⟩:=(ris_eq b).1 hb
  simp only [mergeR,mergeV]
  rcases fold_eq (mergeV_ok N) (mergeV_ris N) (mergeR_eq N) b.kids (List.Perm.refl a.kids) h1 h2 h4 with ⟨h5,h6⟩ | ⟨M',L',h5,h6,hp,hi,hr⟩
  ·rw [h5,h6]; rfl
  ·rw [h5,h6]
   show some _ = some _
   congr 1
   have hM : M'.map srtT = M':=(List.map_congr_left fun x hx => srtT_ris x (risL_mem.1 hr x (hp.subset hx))).trans (List.map_id' _)
   have hs : isort NV.name M' = L':=sorted_nodes hi ((isort_spec NV.name M').1.trans hp) fun i j hi hj hij => List.pairwise_iff_getElem.1 (isort_spec NV.name M').2 i j hi hj hij
   show srtT (withKids a M') = withKids a L'
   rw [srtT_eq]
   simp only [withKids]
   rw [hM,hs,isort_id SV.name a.streams h7]
theorem mergeR_sz : ∀ (N : Nat) (a b y : NV),mergeR N a b = some y → y.name = a.name ∧ sz y ≤ sz a + sz b
 | 0,_,_,_,h => by simp [mergeR] at h
 | N + 1,a,b,y,h => by
  simp only [mergeR] at h
  obtain ⟨ks,hks,rfl⟩:=Option.map_eq_some_iff.1 h
  refine ⟨srtT_name _,?_⟩
  rw [sz_srtT]
  have h1:=withKids_sz a ks
  have h2:=sz_eq b
  have h3 : szL ks ≤ szL a.kids + szL b.kids:=by
   have key : ∀ (l : List NV) (M M' : List NV),l.foldlM (stepR (mergeR N)) M = some M' → szL M' ≤ szL M + szL l:=by
    intro l
    induction l with
    | nil => intro M M' h; simp at h; subst h; simp [szL]
    | cons k r ih =>
     intro M M' h
     rw [List.foldlM_cons] at h
     obtain ⟨M1,hM1,h⟩:=Option.bind_eq_some_iff.1 h
     have h4:=ih _ _ h
     have h5 : szL M1 ≤ szL M + (2 * k.name.length + 2 + sz k):=by
      simp only [stepR] at hM1
      split at hM1
      ·cases hM1; rw [szL_append]; simp only [szL]; omega
      ·split at hM1
       ·obtain ⟨y,hy,rfl⟩:=Option.map_eq_some_iff.1 hM1
        rename_i hneg _
        generalize hi : (firstIdx (fun x : NV => x.name == k.name) M) = i at *
        by_cases hlt : i.toNat < M.length
        ·have hge : M.getD i.toNat default = M[i.toNat]:=by simp [List.getD,hlt]
         rw [hge] at hy
         obtain ⟨g1,g2⟩:=mergeR_sz N _ _ _ hy
         have:=szL_set (d:=sz k) hlt g1 g2
         omega
        ·rw [List.set_eq_of_length_le (by omega)]; omega
       ·cases hM1
     simp only [szL]; omega
   exact key _ _ _ hks
  omega
end Go.Tame.V
/- Contracts: merged. By program (mkk18.py,mk.py). -/
namespace Go.Tame.V
open Go Go.Proofs
variable {W0 : World}
set_option maxRecDepth 10000
set_option linter.unusedVariables false
set_option linter.unusedSimpArgs false

theorem top_cells {l : List NV} : ∀ x ∈ l.map encTop,x.cells.length = 12:=by
 intro x hx
 obtain ⟨_,_,rfl⟩:=List.mem_map.1 hx
 rfl
theorem K44 : ∀ (N : Nat) (a b : NV),sz b < N → srt a → srt b → sz a + sz b < 900000 → DFun Tryz.prog W0 44 [encTop a,encTop b] (.tup [encTop ((mergeV N a b).getD zeroN),.bool (mergeV N a b).isSome]):=by
 refine fun N => Nat.rec (fun a b h => absurd h (Nat.not_lt_zero _)) (fun N ih a b hN ha hb hz => ?_) N
 obtain ⟨ha1,ha2⟩:=(srt_eq a).1 ha
 obtain ⟨hb1,hb2⟩:=(srt_eq b).1 hb
 have hal:=szL_len a.kids
 have hbl:=szL_len b.kids
 have hasz:=sz_eq a
 have hbsz:=sz_eq b
 have he : a.kids.map enc = a.kids.map encTop:=by rw [show enc = encTop from funext enc_eq]
 refine DFun.intro ti_ok Tryz.func44 rfl (by decide +kernel) Tryz.ntmps44 rfl fun Γ => ?_
 refine Tri.seq ?_
 refine Tri.region ti_ok ?_
 conv => whnf
 intro b2
 conv => whnf
 intro b3
 conv => whnf
 intro b4
 conv => whnf
 refine Tri.seq ?_
 refine Tri.regionX ti_ok ?_
 conv => whnf
 refine .inl ?_
 conv => whnf
 refine ⟨rfl,?_⟩
 conv => whnf
 refine .inr (XOp.call rfl [.sl .none 12 (a.kids.map encTop)] [(2000,70)] (DCall.freshK rfl (K76 (a.kids.map encTop) top_cells (by rw [List.length_map]; omega))) rfl ⟨DLe.of_eq (congrArg (D.sl .none 12) he),trivial⟩ ?_)
 rintro d H' ⟨ra,rn,rc,hrn,rfl,rfl⟩
 refine ⟨_,.refl _,?_⟩
 conv => whnf
 refine .inl ?_
 conv => whnf
 refine ⟨rfl,?_⟩
 conv => whnf
 refine Tri.seq ?_
 refine Tri.seq ?_
 refine Tri.region ti_ok ?_
 conv => whnf
 refine ⟨rfl,?_⟩
 conv => whnf
 refine Tri.block ?_
 refine Tri.loopK (α:={ x : (Nat × List NV) × (Option Addr × Nat × Nat) // x.1.1 ≤ b.kids.length ∧ (b.kids.take x.1.1).foldlM (stepM (mergeV N)) a.kids = some x.1.2 ∧ inc x.1.2 ∧ srtL x.1.2 ∧ szL x.1.2 + szL (b.kids.drop x.1.1) ≤ szL a.kids + szL b.kids })
  (fun x => [(2,.box 2 b2 0),(3,.box 3 b3 0),(4,.box 4 b4 0),(5,.bool false),(18,.sl .none 12 (b.kids.map enc)),(19,.int .i64 (b.kids.map enc).length),(20,.int .i64 x.1.1.1)])
  (fun x => [(2,.box b2 [.str a.name,.int .i64 a.kind,.str a.text,.str a.target,.int .i64 a.n1,.int .i64 a.n2,.int .i64 a.n3,.int .i64 a.n4,.int .i64 a.n5,.int .i64 a.n6,.raw (.slice x.1.2.1 x.1.2.2.1 x.1.2.2.2),.sl .none 2 (a.streams.map encS)]),(3,.box b3 (encTop b).cells),(4,.box b4 [.str [],.int .i64 0,.str [],.str [],.int .i64 0,.int .i64 0,.int .i64 0,.int .i64 0,.int .i64 0,.int .i64 0,.nils,.nils]),(70,.row (.slice x.1.2.1 x.1.2.2.1 x.1.2.2.2) (x.1.1.2.map encTop) 12 25)])
  (fun x => b.kids.length - x.1.1.1) ⟨((0,a.kids),ra,rn,rc),Nat.zero_le _,rfl,ha1,ha2,Nat.le_refl _⟩ [(2,2),(3,3),(4,4),(70,70)]
  ⟨⟨.refl _,.refl _,.refl _,.refl _,.refl _,.refl _,.refl _,trivial⟩,rfl,rfl,rfl,rfl,rfl,rfl,rfl,rfl,rfl,trivial⟩ ?_
 rintro ⟨⟨⟨j,L⟩,ra,rn,rc⟩,hj,hfold,hinc,hsr,hsz⟩
 dsimp only at hj hfold hinc hsr hsz ⊢
 refine Tri.seq ?_
 refine Tri.region ti_ok ?_
 conv => whnf
 refine Tri.seq ?_
 refine Tri.cond (decide ((j : Int) < (b.kids.map enc).length)) rfl (fun hc => ?_) (fun hc => ?_)
 ·have hjb : j < b.kids.length:=by have:=of_decide_eq_true hc; rw [List.length_map] at this; omega
  have hk : srt b.kids[j]:=srtL_mem.1 hb2 _ (List.getElem_mem hjb)
  have hsd:=szL_dropN hjb
  have hkz:=kid_sz hjb
  have hLl:=szL_len L
  have hlble:=lb_le L b.kids[j].name
  refine Tri.skip ?_
  conv => whnf
  refine Tri.seq ?_
  refine Tri.block ?_
  refine Tri.seq ?_
  refine Tri.region ti_ok ?_
  conv => whnf
  refine ⟨fun _ => by rw [List.length_map]; omega,?_⟩
  conv => whnf
  refine ⟨encTop b.kids[j],fun _ => get_kid hjb,?_⟩
  conv => whnf
  intro b7
  conv => whnf
  refine ⟨rfl,?_⟩
  conv => whnf
  refine Tri.seq ?_
  refine Tri.regionX ti_ok ?_
  conv => whnf
  refine .inl ?_
  conv => whnf
  refine ⟨rfl,?_⟩
  conv => whnf
  refine .inl ?_
  conv => whnf
  refine ⟨rfl,?_⟩
  conv => whnf
  refine .inr (XOp.call rfl [.raw (.slice ra rn rc),.str b.kids[j].name,.fn (.func 78) [] []] [(2000,70)] (DCall.heapK rfl (DCall.borrow (fun _ _ _ _ _ h => h.moveT (by simp [D.flatB])) (K77 L hinc (by omega) b.kids[j].name))) rfl ⟨.refl _,.refl _,.refl _,trivial⟩ ?_)
  rintro d H' ⟨rfl,rfl⟩
  refine ⟨_,.refl _,?_⟩
  conv => whnf
  refine Tri.seq ?_
  refine Tri.seq ?_
  refine Tri.region ti_ok ?_
  conv => whnf
  refine Tri.cond _ rfl (fun hc2 => ?_) (fun hc2 => ?_)
  ·have hna : ¬ atN L (lb L b.kids[j].name) b.kids[j].name = true:=by simpa using hc2
   have hst : stepM (mergeV N) L b.kids[j] = some (L.take (lb L b.kids[j].name) ++ b.kids[j]::L.drop (lb L b.kids[j].name)):=by simp only [stepM]; rw [if_neg hna]
   refine Tri.seq ?_
   refine Tri.regionX ti_ok ?_
   conv => whnf
   refine .inl ?_
   conv => whnf
   refine ⟨rfl,?_⟩
   conv => whnf
   refine .inl ?_
   conv => whnf
   refine ⟨rfl,?_⟩
   conv => whnf
   refine ⟨trivial,?_⟩
   conv => whnf
   refine .inr (XOp.call rfl [.raw (.slice ra rn rc),.int .i64 ((lb L b.kids[j].name) : Nat),.sl .none 12 [encTop b.kids[j]]] [(2000,70)] (DCall.heapK rfl (K79 (L.map encTop) (.slice ra rn rc) (lb L b.kids[j].name) (encTop b.kids[j]) (by rw [List.length_map]; omega) (by rw [List.length_map]; exact hlble) rfl).rowShape) rfl ⟨.refl _,.refl _,DLe.full,trivial⟩ ?_)
   rintro d H' ⟨sa,sn,sc,hsn,rfl,rfl⟩
   refine ⟨_,.refl _,?_⟩
   conv => whnf
   refine .inl ?_
   conv => whnf
   refine ⟨rfl,?_⟩
   conv => whnf
   refine Tri.exit ?_
   conv => whnf
   refine Tri.region ti_ok ?_
   conv => whnf
   refine .inl ⟨fun _ => by simp only [InR]; omega,?_⟩
   conv => whnf
   obtain ⟨g1,g2,g3⟩:=stepM_ok (mergeV_ok N) hinc hsr hk hst
   exact ⟨⟨((j + 1,L.take (lb L b.kids[j].name) ++ b.kids[j]::L.drop (lb L b.kids[j].name)),sa,sn,sc),hjb,foldM_next hjb hfold hst,g1,g2,by show szL (L.take (lb L b.kids[j].name) ++ b.kids[j]::L.drop (lb L b.kids[j].name)) + szL (b.kids.drop (j + 1)) ≤ _; omega⟩,[(2,2),(3,3),(4,4),(70,70)],by show b.kids.length - (j + 1) < b.kids.length - j; omega,⟨.refl _,.refl _,.refl _,.refl _,.refl _,.refl _,.refl _,trivial⟩,rfl,rfl,rfl,rfl,rfl,rfl,rfl,rfl,congrArg (fun z => some (HObj.row (.slice sa sn sc) z 12 25)) (by rw [List.map_append,List.map_cons,List.map_take,List.map_drop]),trivial⟩
  ·have hya : atN L (lb L b.kids[j].name) b.kids[j].name = true:=by simpa using hc2
   obtain ⟨hp,hge,hnm⟩:=atN_get hya
   have hsx : srt L[(lb L b.kids[j].name)]:=srtL_mem.1 hsr _ (List.getElem_mem hp)
   have hlx:=szL_get hp
   refine Tri.skip ?_
   conv => whnf
   refine Tri.seq ?_
   refine Tri.regionX ti_ok ?_
   conv => whnf
   refine .inl ?_
   conv => whnf
   refine ⟨rfl,?_⟩
   conv => whnf
   refine .inr (XOp.rowIndex ti_ok 70 rfl rfl rfl rfl rfl rfl rfl (by omega) (by rw [List.length_map]; omega) ?_)
   conv => whnf
   refine .inr (XOp.rowLoad ti_ok 70 (i:=(lb L b.kids[j].name)) (y:=encTop L[(lb L b.kids[j].name)]) (by rw [Int.toNat_natCast]; rfl) rfl rfl (by rw [List.getElem?_map,List.getElem?_eq_getElem hp]; rfl) ?_)
   conv => whnf
   intro b10
   conv => whnf
   refine .inl ?_
   conv => whnf
   refine ⟨rfl,?_⟩
   conv => whnf
   refine Tri.seq ?_
   refine Tri.seq ?_
   refine Tri.region ti_ok ?_
   conv => whnf
   refine ⟨rfl,?_⟩
   conv => whnf
   refine ⟨fun h => h,?_⟩
   conv => whnf
   refine ⟨rfl,?_⟩
   conv => whnf
   refine ⟨fun h => h,?_⟩
   conv => whnf
   refine ⟨fun h0 h => by first | exact h | (rw [h]; rfl) | (rw [h0,h]; rfl),?_⟩
   conv => whnf
   refine Tri.cond _ rfl (fun hc3 => ?_) (fun hc3 => ?_)
   ·have hkd : ¬ (L[(lb L b.kids[j].name)].kind = 0 ∧ b.kids[j].kind = 0):=by
     intro ⟨e1,e2⟩; rw [e1,e2] at hc3; exact absurd hc3 (by decide)
    have hst : stepM (mergeV N) L b.kids[j] = none:=by simp only [stepM]; rw [if_pos hya,if_neg (by rw [hge]; exact hkd)]
    refine Tri.seq ?_
    refine Tri.region ti_ok ?_
    conv => whnf
    refine ⟨rfl,?_⟩
    conv => whnf
    refine Tri.ret ?_
    conv => whnf
    have hnone : mergeV (N + 1) a b = none:=by simp only [mergeV]; rw [foldM_none hjb hfold hst]; rfl
    rw [hnone]
    refine ⟨rfl,?_⟩
    conv => whnf
    exact ⟨zeroD,.refl _,trivial⟩
   ·have hkd : L[(lb L b.kids[j].name)].kind = 0 ∧ b.kids[j].kind = 0:=by
     have h1 : (L[(lb L b.kids[j].name)].kind != 0) = false:=by
      cases h : (L[(lb L b.kids[j].name)].kind != 0) with
      | false => rfl
      | true => rw [h] at hc3; cases hc3
     rw [h1] at hc3
     exact ⟨by simpa using h1,by simpa using hc3⟩
    have hkd2 : (L.getD (lb L b.kids[j].name) default).kind = 0 ∧ b.kids[j].kind = 0:=by rw [hge]; exact hkd
    refine Tri.skip ?_
    conv => whnf
    refine Tri.seq ?_
    refine Tri.region ti_ok ?_
    conv => whnf
    refine ⟨rfl,?_⟩
    conv => whnf
    refine ⟨rfl,?_⟩
    conv => whnf
    refine ⟨[encTop L[(lb L b.kids[j].name)],encTop b.kids[j]],_,fun _ => ih L[(lb L b.kids[j].name)] b.kids[j] (by omega) hsx hk (by omega),⟨.refl _,.refl _,trivial⟩,?_⟩
    conv => whnf
    intro b11
    conv => whnf
    refine ⟨rfl,?_⟩
    conv => whnf
    refine Tri.seq ?_
    refine Tri.seq ?_
    refine Tri.region ti_ok ?_
    conv => whnf
    refine Tri.cond _ rfl (fun hc4 => ?_) (fun hc4 => ?_)
    ·have hm : mergeV N L[(lb L b.kids[j].name)] b.kids[j] = none:=by simpa using hc4
     have hst : stepM (mergeV N) L b.kids[j] = none:=by simp only [stepM]; rw [if_pos hya,if_pos hkd2,hge,hm]; rfl
     refine Tri.seq ?_
     refine Tri.region ti_ok ?_
     conv => whnf
     refine ⟨rfl,?_⟩
     conv => whnf
     refine Tri.ret ?_
     conv => whnf
     have hnone : mergeV (N + 1) a b = none:=by simp only [mergeV]; rw [foldM_none hjb hfold hst]; rfl
     rw [hnone]
     refine ⟨rfl,?_⟩
     conv => whnf
     exact ⟨zeroD,.refl _,trivial⟩
    ·obtain ⟨y,hy⟩ : ∃ y,mergeV N L[(lb L b.kids[j].name)] b.kids[j] = some y:=Option.isSome_iff_exists.1 (by simpa using hc4)
     have hst : stepM (mergeV N) L b.kids[j] = some (L.set (lb L b.kids[j].name) y):=by simp only [stepM]; rw [if_pos hya,if_pos hkd2,hge,hy]; rfl
     rw [hy]
     refine Tri.skip ?_
     conv => whnf
     refine Tri.regionX ti_ok ?_
     conv => whnf
     refine .inl ?_
     conv => whnf
     refine ⟨rfl,?_⟩
     conv => whnf
     refine .inl ?_
     conv => whnf
     refine ⟨rfl,?_⟩
     conv => whnf
     refine .inr (XOp.rowIndex ti_ok 70 rfl rfl rfl rfl rfl rfl rfl (by omega) (by rw [List.length_map]; omega) ?_)
     conv => whnf
     refine .inr (XOp.rowStoreS ti_ok 70 (i:=(lb L b.kids[j].name)) (by rw [Int.toNat_natCast]; rfl) rfl rfl rfl (by rw [List.length_map]; exact hp) (cs:=(encTop y).cells) rfl rfl rfl ?_)
     conv => whnf
     refine Tri.region ti_ok ?_
     conv => whnf
     refine .inl ⟨fun _ => by simp only [InR]; omega,?_⟩
     conv => whnf
     obtain ⟨g1,g2,g3⟩:=stepM_ok (mergeV_ok N) hinc hsr hk hst
     exact ⟨⟨((j + 1,L.set (lb L b.kids[j].name) y),ra,rn,rc),hjb,foldM_next hjb hfold hst,g1,g2,by show szL (L.set (lb L b.kids[j].name) y) + szL (b.kids.drop (j + 1)) ≤ _; omega⟩,[(2,2),(3,3),(4,4),(70,70)],by show b.kids.length - (j + 1) < b.kids.length - j; omega,⟨.refl _,.refl _,.refl _,.refl _,.refl _,.refl _,.refl _,trivial⟩,rfl,rfl,rfl,rfl,rfl,rfl,rfl,rfl,congrArg (fun z => some (HObj.row (.slice ra rn rc) z 12 25)) (by rw [List.map_set]; rfl),trivial⟩
 ·have hje : j = b.kids.length:=by have:=of_decide_eq_false hc; rw [List.length_map] at this; omega
  rw [hje,List.take_length] at hfold
  have hres : mergeV (N + 1) a b = some (withKids a L):=by simp only [mergeV]; rw [hfold]; rfl
  have hL : L.map encTop = L.map enc:=by rw [show enc = encTop from funext enc_eq]
  refine Tri.exit ?_
  rw [hL]
  refine Tri.commitBox 70 2 10 rfl rfl (by decide) rfl ?_
  conv => whnf
  conv => whnf
  refine Tri.seq ?_
  refine Tri.region ti_ok ?_
  conv => whnf
  refine ⟨rfl,?_⟩
  conv => whnf
  refine ⟨rfl,?_⟩
  conv => whnf
  refine Tri.ret ?_
  conv => whnf
  rw [hres]
  refine ⟨rfl,?_⟩
  conv => whnf
  exact ⟨.refl _,.refl _,trivial⟩
end Go.Tame.V
/- Contracts: the reference's merge. By program (mkk19.py,mk.py). -/
namespace Go.Tame.V
open Go Go.Proofs
variable {W0 : World}
set_option maxRecDepth 10000
set_option linter.unusedVariables false
set_option linter.unusedSimpArgs false

theorem firstIdx_get {α : Type} {p : α → Bool} {l : List α} (h : ¬ firstIdx p l < 0) : ∃ i,∃ hi : i < l.length,p l[i] = true ∧ firstIdx p l = (i : Nat):=by
 cases hx : l.findIdx? p with
 | none => rw [firstIdx,hx] at h; exact absurd (by decide) h
 | some i =>
  obtain ⟨h1,h2,_⟩:=List.findIdx?_eq_some_iff_getElem.1 hx
  exact ⟨i,h1,h2,by rw [firstIdx,hx]⟩
/-- Kid,of a node whose kids are a row. -/
theorem K69r (a : NV) (M : List NV) (v : Value) (q : List UInt8) (hn : Fits (withKids a M)) : DCall Tryz.prog W0 69 [.agg [.str a.name,.int .i64 a.kind,.str a.text,.str a.target,.int .i64 a.n1,.int .i64 a.n2,.int .i64 a.n3,.int .i64 a.n4,.int .i64 a.n5,.int .i64 a.n6,.raw v,.sl .none 2 (a.streams.map encS)],.str q] (look [(2000,.row v (M.map encTop) 12 25)]) fun d H' => d = .int .i64 (firstIdx (fun x : NV => x.name == q) M) ∧ H' = look [(2000,.row v (M.map encTop) 12 25)]:=by
 refine DCall.lend (ds':=[encTop (withKids a M),.str q]) (fun w C us hr hu => ?_) (fun _ _ _ _ _ h => h.moveB rfl) (F45 (withKids a M) q hn)
 have hM : M.map enc = M.map encTop:=by rw [show enc = encTop from funext enc_eq]
 refine ⟨hu.1,fun i d u h1 h2 => ?_⟩
 match i with
 | 0 =>
  cases h1
  refine Lend.agg hr ?_ (hu.2 0 _ u rfl h2)
  exact ⟨.inl (.refl _),.inl (.refl _),.inl (.refl _),.inl (.refl _),.inl (.refl _),.inl (.refl _),.inl (.refl _),.inl (.refl _),.inl (.refl _),.inl (.refl _),.inr ⟨rfl,congrArg (D.sl .none 12) hM⟩,.inl (.refl _),trivial⟩
 | 1 =>
  cases h1
  exact hu.2 1 _ u rfl h2
 | i + 2 => simp at h1

theorem K46 : ∀ (N : Nat) (a b : NV),sz b < N → sz a + sz b + a.name.length < 900000 → DFun Tryz.prog W0 46 [encTop a,encTop b] (.tup [encTop ((mergeR N a b).getD zeroN),.bool (mergeR N a b).isSome]):=by
 refine fun N => Nat.rec (fun a b h => absurd h (Nat.not_lt_zero _)) (fun N ih a b hN hz => ?_) N
 have hal:=szL_len a.kids
 have hbl:=szL_len b.kids
 have hasz:=sz_eq a
 have hbsz:=sz_eq b
 have he : a.kids.map enc = a.kids.map encTop:=by rw [show enc = encTop from funext enc_eq]
 refine DFun.intro ti_ok Tryz.func46 rfl (by decide +kernel) Tryz.ntmps46 rfl fun Γ => ?_
 refine Tri.seq ?_
 refine Tri.region ti_ok ?_
 conv => whnf
 intro b2
 conv => whnf
 intro b3
 conv => whnf
 intro b4
 conv => whnf
 refine Tri.seq ?_
 refine Tri.region ti_ok ?_
 conv => whnf
 refine ⟨rfl,?_⟩
 conv => whnf
 intro b6
 conv => whnf
 refine ⟨rfl,?_⟩
 conv => whnf
 refine Tri.joinK (α:=Option Addr × Nat × Nat) (fun x => [(3,.box 3 b3 0),(4,.box 4 b4 0),(5,.bool false),(6,.box 6 b6 0)])
  (fun x => [(3,.box b3 (encTop b).cells),(4,.box b4 [.str [],.int .i64 0,.str [],.str [],.int .i64 0,.int .i64 0,.int .i64 0,.int .i64 0,.int .i64 0,.int .i64 0,.nils,.nils]),(6,.box b6 [.str a.name,.int .i64 a.kind,.str a.text,.str a.target,.int .i64 a.n1,.int .i64 a.n2,.int .i64 a.n3,.int .i64 a.n4,.int .i64 a.n5,.int .i64 a.n6,.raw (.slice x.1 x.2.1 x.2.2),.sl .none 2 (a.streams.map encS)]),(70,.row (.slice x.1 x.2.1 x.2.2) (a.kids.map encTop) 12 25)]) ?_ ?_
 refine Tri.regionG ti_ok ?_
 conv => whnf
 refine ⟨rfl,trivial,.inr (XOp.buildRowS (q:=100) ti_ok rfl rfl rfl rfl rfl rfl ?_)⟩
 conv => whnf
 refine ⟨rfl,trivial,fun q0 => ?_⟩
 conv => whnf
 refine ⟨rfl,trivial,.inl ?_⟩
 conv => whnf
 refine ⟨rfl,trivial,.inl ?_⟩
 conv => whnf
 refine ⟨rfl,?_⟩
 conv => whnf
 by_cases h0 : 0 < (a.kids.map enc).length
 ·refine ⟨rfl,trivial,.inr (XOp.rowAppend ti_ok 100 rfl rfl rfl (fun h => by cases h) rfl rfl rfl h0 (by show (0 + _) * 152 ≤ _; rw [List.length_map]; omega) (by show 0 + _ ≤ _; rw [List.length_map]; omega) fun aa m cap => ?_)⟩
  conv => whnf
  refine ⟨rfl,trivial,.inl ?_⟩
  conv => whnf
  refine ⟨rfl,trivial,.inl ?_⟩
  conv => whnf
  refine ⟨rfl,?_⟩
  conv => whnf
  exact ⟨(aa,m,cap),[(3,3),(4,4),(6,6),(70,15)],⟨.refl _,.refl _,.refl _,.refl _,trivial⟩,rfl,rfl,rfl,rfl,rfl,rfl,rfl,rfl,congrArg (fun z => some (HObj.row (.slice aa m cap) z 12 25)) (by rw [← he]; exact List.nil_append _),trivial⟩
 ·have hx : a.kids.map enc = []:=List.eq_nil_of_length_eq_zero (by omega)
  refine ⟨rfl,trivial,.inr (XOp.rowAppendNone ti_ok 100 rfl rfl rfl rfl rfl rfl hx ?_)⟩
  conv => whnf
  refine ⟨rfl,trivial,.inl ?_⟩
  conv => whnf
  refine ⟨rfl,trivial,.inl ?_⟩
  conv => whnf
  refine ⟨rfl,?_⟩
  conv => whnf
  exact ⟨(some ⟨q0,0,none⟩,0,0),[(3,3),(4,4),(6,6),(70,100)],⟨.refl _,.refl _,.refl _,.refl _,trivial⟩,rfl,rfl,rfl,rfl,rfl,rfl,rfl,rfl,congrArg (fun z => some (HObj.row (.slice (some ⟨q0,0,none⟩) 0 0) z 12 25)) (by rw [← he,hx]; rfl),trivial⟩
 rintro ⟨ra,rn,rc⟩
 dsimp only
 refine Tri.seq ?_
 refine Tri.seq ?_
 refine Tri.region ti_ok ?_
 conv => whnf
 refine Tri.block ?_
 refine Tri.loopK (α:={ x : (Nat × List NV) × (Option Addr × Nat × Nat) // x.1.1 ≤ b.kids.length ∧ (b.kids.take x.1.1).foldlM (stepR (mergeR N)) a.kids = some x.1.2 ∧ szL x.1.2 + szL (b.kids.drop x.1.1) ≤ szL a.kids + szL b.kids })
  (fun x => [(3,.box 3 b3 0),(4,.box 4 b4 0),(5,.bool false),(6,.box 6 b6 0),(7,.int .i64 x.1.1.1)])
  (fun x => [(3,.box b3 (encTop b).cells),(4,.box b4 [.str [],.int .i64 0,.str [],.str [],.int .i64 0,.int .i64 0,.int .i64 0,.int .i64 0,.int .i64 0,.int .i64 0,.nils,.nils]),(6,.box b6 [.str a.name,.int .i64 a.kind,.str a.text,.str a.target,.int .i64 a.n1,.int .i64 a.n2,.int .i64 a.n3,.int .i64 a.n4,.int .i64 a.n5,.int .i64 a.n6,.raw (.slice x.1.2.1 x.1.2.2.1 x.1.2.2.2),.sl .none 2 (a.streams.map encS)]),(70,.row (.slice x.1.2.1 x.1.2.2.1 x.1.2.2.2) (x.1.1.2.map encTop) 12 25)])
  (fun x => b.kids.length - x.1.1.1) ⟨((0,a.kids),ra,rn,rc),Nat.zero_le _,rfl,Nat.le_refl _⟩ [(3,3),(4,4),(6,6),(70,70)]
  ⟨⟨.refl _,.refl _,.refl _,.refl _,.refl _,trivial⟩,rfl,rfl,rfl,rfl,rfl,rfl,rfl,rfl,rfl,trivial⟩ ?_
 rintro ⟨⟨⟨j,M⟩,ra,rn,rc⟩,hj,hfold,hsz⟩
 dsimp only at hj hfold hsz ⊢
 refine Tri.seq ?_
 refine Tri.seq ?_
 refine Tri.region ti_ok ?_
 conv => whnf
 refine ⟨rfl,?_⟩
 conv => whnf
 refine Tri.cond (decide ((j : Int) < (b.kids.map enc).length)) rfl (fun hc => ?_) (fun hc => ?_)
 ·have hjb : j < b.kids.length:=by have:=of_decide_eq_true hc; rw [List.length_map] at this; omega
  have hsd:=szL_dropN hjb
  have hkz:=kid_sz hjb
  have hMl:=szL_len M
  have hwk:=withKids_sz a M
  refine Tri.skip ?_
  conv => whnf
  refine Tri.seq ?_
  refine Tri.block ?_
  refine Tri.seq ?_
  refine Tri.drawTailX ti_ok 7 mixed (by kernel_rfl) ?_
  conv => whnf
  refine ⟨rfl,?_⟩
  conv => whnf
  refine ⟨rfl,?_⟩
  conv => whnf
  refine ⟨fun _ => by rw [List.length_map]; omega,?_⟩
  conv => whnf
  refine ⟨encTop b.kids[j],fun _ => get_kid hjb,?_⟩
  conv => whnf
  refine .inr (XOp.call rfl [.agg [.str a.name,.int .i64 a.kind,.str a.text,.str a.target,.int .i64 a.n1,.int .i64 a.n2,.int .i64 a.n3,.int .i64 a.n4,.int .i64 a.n5,.int .i64 a.n6,.raw (.slice ra rn rc),.sl .none 2 (a.streams.map encS)],.str b.kids[j].name] [(2000,70)] (DCall.heapK rfl (K69r a M (.slice ra rn rc) b.kids[j].name (by unfold Fits; show sz (withKids a M) + a.name.length < _; omega))) rfl ⟨.refl _,.refl _,trivial⟩ ?_)
  rintro d H' ⟨rfl,rfl⟩
  refine ⟨_,.refl _,?_⟩
  conv => whnf
  refine Tri.block ?_
  refine Tri.seq ?_
  refine Tri.region ti_ok ?_
  conv => whnf
  refine Tri.cond (decide ((firstIdx (fun x : NV => x.name == b.kids[j].name) M) < 0)) rfl (fun hc2 => ?_) (fun hc2 => ?_)
  ·have hneg : (firstIdx (fun x : NV => x.name == b.kids[j].name) M) < 0:=of_decide_eq_true hc2
   have hst : stepR (mergeR N) M b.kids[j] = some (M ++ [b.kids[j]]):=by simp only [stepR]; rw [if_pos hneg]
   refine Tri.drawTailX ti_ok 8 mixed (by kernel_rfl) ?_
   conv => whnf
   refine ⟨rfl,?_⟩
   conv => whnf
   refine ⟨rfl,?_⟩
   conv => whnf
   refine ⟨fun _ => by rw [List.length_map]; omega,?_⟩
   conv => whnf
   refine ⟨encTop b.kids[j],fun _ => get_kid hjb,?_⟩
   conv => whnf
   refine ⟨trivial,?_⟩
   conv => whnf
   refine .inr (XOp.rowAppend ti_ok 70 rfl rfl rfl (fun h => by cases h) rfl rfl rfl (Nat.zero_lt_one) (by show (_ + 1) * 152 ≤ _; rw [List.length_map]; omega) (by show _ + 1 ≤ _; rw [List.length_map]; omega) fun aa m cap => ?_)
   conv => whnf
   refine .inl ?_
   conv => whnf
   refine ⟨rfl,?_⟩
   conv => whnf
   refine Tri.region ti_ok ?_
   conv => whnf
   refine .inl ⟨fun _ => by simp only [InR]; omega,?_⟩
   conv => whnf
   have hszn : szL (M ++ [b.kids[j]]) = szL M + (2 * b.kids[j].name.length + 2 + sz b.kids[j]):=by rw [szL_append]; simp only [szL]; omega
   exact ⟨⟨((j + 1,M ++ [b.kids[j]]),aa,m,cap),hjb,foldM_next hjb hfold hst,by show szL (M ++ [b.kids[j]]) + szL (b.kids.drop (j + 1)) ≤ _; omega⟩,[(3,3),(4,4),(6,6),(70,65)],by show b.kids.length - (j + 1) < b.kids.length - j; omega,⟨.refl _,.refl _,.refl _,.refl _,.refl _,trivial⟩,rfl,rfl,rfl,rfl,rfl,rfl,rfl,rfl,congrArg (fun z => some (HObj.row (.slice aa m cap) z 12 25)) (by rw [List.map_append]; rfl),trivial⟩
  ·have hneg : ¬ (firstIdx (fun x : NV => x.name == b.kids[j].name) M) < 0:=of_decide_eq_false hc2
   obtain ⟨i,him,hin,hif⟩:=firstIdx_get hneg
   have hge : M.getD i default = M[i]:=by simp [List.getD,him]
   have hlx:=szL_get him
   rw [hif]
   refine Tri.seq ?_
   refine Tri.regionM ti_ok 6 ?_
   conv => whnf
   refine ⟨rfl,rfl,.inl ?_⟩
   conv => whnf
   refine ⟨rfl,rfl,.inl ?_⟩
   conv => whnf
   refine ⟨rfl,?_⟩
   conv => whnf
   refine ⟨rfl,rfl,.inl ?_⟩
   conv => whnf
   refine ⟨rfl,rfl,.inr (XOp.rowIndex ti_ok 70 rfl rfl rfl rfl rfl rfl rfl (by omega) (by rw [List.length_map]; omega) ?_)⟩
   conv => whnf
   refine ⟨rfl,rfl,.inr (XOp.rowField ti_ok 70 (i:=i) rfl rfl (by rw [List.length_map]; omega) rfl rfl rfl (by decide) ?_)⟩
   conv => whnf
   refine ⟨rfl,rfl,.inr (XOp.rowLoadF ti_ok 70 (i:=i) (j:=1) (y:=encTop M[i]) (by rw [Int.toNat_natCast]; rfl) rfl rfl (by rw [List.getElem?_map,List.getElem?_eq_getElem him]; rfl) ?_)⟩
   conv => whnf
   refine ⟨fun h => h,?_⟩
   conv => whnf
   refine ⟨rfl,?_⟩
   conv => whnf
   refine ⟨fun h => h,?_⟩
   conv => whnf
   refine ⟨fun h => h,?_⟩
   conv => whnf
   refine ⟨fun h => by rw [List.length_map]; omega,?_⟩
   conv => whnf
   refine ⟨fun h => h,?_⟩
   conv => whnf
   refine ⟨fun h => h,?_⟩
   conv => whnf
   refine ⟨encTop b.kids[j],fun h => get_kid hjb,?_⟩
   conv => whnf
   refine ⟨fun h => h,?_⟩
   conv => whnf
   refine ⟨fun h0 h => by first | exact h | (rw [h]; rfl) | (rw [h0,h]; rfl),?_⟩
   conv => whnf
   refine Tri.cond _ rfl (fun hc3 => ?_) (fun hc3 => ?_)
   ·have hkd : ¬ (M[i].kind = 0 ∧ b.kids[j].kind = 0):=by
     intro ⟨e1,e2⟩; rw [e1,e2] at hc3; exact absurd hc3 (by decide)
    have hst : stepR (mergeR N) M b.kids[j] = none:=by
     simp only [stepR,hif]
     rw [if_neg (by omega),show ((i : Nat) : Int).toNat = i from rfl,hge,if_neg hkd]
    refine Tri.seq ?_
    refine Tri.region ti_ok ?_
    conv => whnf
    refine ⟨rfl,?_⟩
    conv => whnf
    refine Tri.ret ?_
    conv => whnf
    have hnone : mergeR (N + 1) a b = none:=by simp only [mergeR]; rw [foldM_none hjb hfold hst]; rfl
    rw [hnone]
    refine ⟨rfl,?_⟩
    conv => whnf
    exact ⟨zeroD,.refl _,trivial⟩
   ·have hkd : M[i].kind = 0 ∧ b.kids[j].kind = 0:=by
     have h1 : (M[i].kind != 0) = false:=by
      cases h : (M[i].kind != 0) with
      | false => rfl
      | true => rw [h] at hc3; cases hc3
     rw [h1] at hc3
     exact ⟨by simpa using h1,by simpa using hc3⟩
    refine Tri.seq ?_
    refine Tri.bitsG ti_ok mixed (α:=Nat) (fun y f => [(3,.box 3 b3 0),(4,.box 4 b4 0),(5,.bool false),(6,.box 6 b6 0),(7,.int .i64 (j : Int)),(8,.int .i64 (i : Int)),(33,bif f 0 then .box 6 b6 10 else .any),(34,bif f 1 then .raw (.slice ra rn rc) else .any),(35,bif f 2 then .int .i64 (i : Int) else .any),(36,bif f 3 then .raw (rowPtr (.slice ra rn rc) (Int.toNat (i : Int) * 12)) else .any),(37,bif f 4 then encTop M[i] else .any),(38,bif f 5 then .box 3 b3 10 else .any),(39,bif f 6 then .sl .none 12 (b.kids.map enc) else .any),(40,bif f 7 then .int .i64 (j : Int) else .any),(41,bif f 8 then .elm 12 (b.kids.map enc) j 0 else .any),(42,bif f 9 then encTop b.kids[j] else .any),(43,bif f 10 then .tup [encTop ((mergeR N M[i] b.kids[j]).getD zeroN),.bool (mergeR N M[i] b.kids[j]).isSome] else .any),(32,bif f 11 then .tup [encTop ((mergeR N M[i] b.kids[j]).getD zeroN),.bool (mergeR N M[i] b.kids[j]).isSome] else .any),(44,bif f 12 then encTop ((mergeR N M[i] b.kids[j]).getD zeroN) else .any),(45,bif f 13 then .bool (mergeR N M[i] b.kids[j]).isSome else .any),(9,bif f 14 then .box 9 y 0 else .any),(10,bif f 16 then .bool (mergeR N M[i] b.kids[j]).isSome else .any)])
     (fun y f => look ([(3,.box b3 (encTop b).cells),(4,.box b4 [.str [],.int .i64 0,.str [],.str [],.int .i64 0,.int .i64 0,.int .i64 0,.int .i64 0,.int .i64 0,.int .i64 0,.nils,.nils]),(6,.box b6 [.str a.name,.int .i64 a.kind,.str a.text,.str a.target,.int .i64 a.n1,.int .i64 a.n2,.int .i64 a.n3,.int .i64 a.n4,.int .i64 a.n5,.int .i64 a.n6,.raw (.slice ra rn rc),.sl .none 2 (a.streams.map encS)]),(70,.row (.slice ra rn rc) (M.map encTop) 12 25)] ++ (bif f 14 then [(9,.box y (bif f 15 then (encTop ((mergeR N M[i] b.kids[j]).getD zeroN)).cells else [.str [],.int .i64 0,.str [],.str [],.int .i64 0,.int .i64 0,.int .i64 0,.int .i64 0,.int .i64 0,.int .i64 0,.nils,.nils]))] else []))) (by decide +kernel) 0 ?_ ?_ ?_ ?_
    ·exact ⟨.refl _,.refl _,.refl _,.refl _,.refl _,.refl _,.any _,.any _,.any _,.any _,.any _,.any _,.any _,.any _,.any _,.any _,.any _,.any _,.any _,.any _,.any _,.any _,trivial⟩
    ·exact SubHF.of (hs:=[(3,.box b3 (encTop b).cells),(4,.box b4 [.str [],.int .i64 0,.str [],.str [],.int .i64 0,.int .i64 0,.int .i64 0,.int .i64 0,.int .i64 0,.int .i64 0,.nils,.nils]),(6,.box b6 [.str a.name,.int .i64 a.kind,.str a.text,.str a.target,.int .i64 a.n1,.int .i64 a.n2,.int .i64 a.n3,.int .i64 a.n4,.int .i64 a.n5,.int .i64 a.n6,.raw (.slice ra rn rc),.sl .none 2 (a.streams.map encS)]),(70,.row (.slice ra rn rc) (M.map encTop) 12 25)]) ⟨rfl,rfl,rfl,rfl,trivial⟩
    ·conv => whnf
     refine ⟨fun y f hI => ?_,?_⟩
     ·obtain ⟨f,rfl⟩:=off f 15 (hI.no 15 0 rfl rfl)
      conv => whnf
      refine ⟨trivial,.inl ?_⟩
      conv => whnf
      exact ⟨y,⟨.refl _,.refl _,.refl _,.refl _,.refl _,.refl _,.refl _,.refl _,.refl _,.refl _,.refl _,.refl _,.refl _,.refl _,.refl _,.refl _,.refl _,.refl _,.refl _,.refl _,.refl _,.refl _,trivial⟩,fun k o h => h⟩
     refine ⟨fun y f hI => ?_,?_⟩
     ·obtain ⟨f,rfl⟩:=off f 15 (hI.no 15 1 rfl rfl)
      conv => whnf
      refine ⟨trivial,.inl ?_⟩
      conv => whnf
      refine ⟨rfl,?_⟩
      conv => whnf
      exact ⟨y,⟨.refl _,.refl _,.refl _,.refl _,.refl _,.refl _,.refl _,.refl _,.refl _,.refl _,.refl _,.refl _,.refl _,.refl _,.refl _,.refl _,.refl _,.refl _,.refl _,.refl _,.refl _,.refl _,trivial⟩,fun k o h => h⟩
     refine ⟨fun y f hI => ?_,?_⟩
     ·obtain ⟨f,rfl⟩:=off f 15 (hI.no 15 2 rfl rfl)
      conv => whnf
      refine ⟨trivial,.inl ?_⟩
      conv => whnf
      exact ⟨y,⟨.refl _,.refl _,.refl _,.refl _,.refl _,.refl _,.refl _,.refl _,.refl _,.refl _,.refl _,.refl _,.refl _,.refl _,.refl _,.refl _,.refl _,.refl _,.refl _,.refl _,.refl _,.refl _,trivial⟩,fun k o h => h⟩
     refine ⟨fun y f hI => ?_,?_⟩
     ·obtain ⟨f,rfl⟩:=off f 15 (hI.no 15 3 rfl rfl)
      conv => whnf
      refine ⟨trivial,.inr ?_⟩
      refine XOp.rowIndex ti_ok 70 rfl rfl rfl rfl rfl rfl rfl (by omega) (by rw [List.length_map]; omega) ?_
      conv => whnf
      exact ⟨y,⟨.refl _,.refl _,.refl _,.refl _,.refl _,.refl _,.refl _,.refl _,.refl _,.refl _,.refl _,.refl _,.refl _,.refl _,.refl _,.refl _,.refl _,.refl _,.refl _,.refl _,.refl _,.refl _,trivial⟩,fun k o h => h⟩
     refine ⟨fun y f hI => ?_,?_⟩
     ·obtain ⟨f,rfl⟩:=off f 15 (hI.no 15 4 rfl rfl)
      conv => whnf
      refine ⟨trivial,.inr ?_⟩
      refine XOp.rowLoad ti_ok 70 (i:=i) (y:=encTop M[i]) (by rw [Int.toNat_natCast]; rfl) rfl rfl (by rw [List.getElem?_map,List.getElem?_eq_getElem him]; rfl) ?_
      conv => whnf
      exact ⟨y,⟨.refl _,.refl _,.refl _,.refl _,.refl _,.refl _,.refl _,.refl _,.refl _,.refl _,.refl _,.refl _,.refl _,.refl _,.refl _,.refl _,.refl _,.refl _,.refl _,.refl _,.refl _,.refl _,trivial⟩,fun k o h => h⟩
     refine ⟨fun y f hI => ?_,?_⟩
     ·obtain ⟨f,rfl⟩:=off f 15 (hI.no 15 5 rfl rfl)
      conv => whnf
      refine ⟨trivial,.inl ?_⟩
      conv => whnf
      exact ⟨y,⟨.refl _,.refl _,.refl _,.refl _,.refl _,.refl _,.refl _,.refl _,.refl _,.refl _,.refl _,.refl _,.refl _,.refl _,.refl _,.refl _,.refl _,.refl _,.refl _,.refl _,.refl _,.refl _,trivial⟩,fun k o h => h⟩
     refine ⟨fun y f hI => ?_,?_⟩
     ·obtain ⟨f,rfl⟩:=off f 15 (hI.no 15 6 rfl rfl)
      conv => whnf
      refine ⟨trivial,.inl ?_⟩
      conv => whnf
      refine ⟨rfl,?_⟩
      conv => whnf
      exact ⟨y,⟨.refl _,.refl _,.refl _,.refl _,.refl _,.refl _,.refl _,.refl _,.refl _,.refl _,.refl _,.refl _,.refl _,.refl _,.refl _,.refl _,.refl _,.refl _,.refl _,.refl _,.refl _,.refl _,trivial⟩,fun k o h => h⟩
     refine ⟨fun y f hI => ?_,?_⟩
     ·obtain ⟨f,rfl⟩:=off f 15 (hI.no 15 7 rfl rfl)
      conv => whnf
      refine ⟨trivial,.inl ?_⟩
      conv => whnf
      exact ⟨y,⟨.refl _,.refl _,.refl _,.refl _,.refl _,.refl _,.refl _,.refl _,.refl _,.refl _,.refl _,.refl _,.refl _,.refl _,.refl _,.refl _,.refl _,.refl _,.refl _,.refl _,.refl _,.refl _,trivial⟩,fun k o h => h⟩
     refine ⟨fun y f hI => ?_,?_⟩
     ·obtain ⟨f,rfl⟩:=off f 15 (hI.no 15 8 rfl rfl)
      conv => whnf
      refine ⟨trivial,.inl ?_⟩
      conv => whnf
      refine ⟨fun _ => by rw [List.length_map]; omega,?_⟩
      conv => whnf
      exact ⟨y,⟨.refl _,.refl _,.refl _,.refl _,.refl _,.refl _,.refl _,.refl _,.refl _,.refl _,.refl _,.refl _,.refl _,.refl _,.refl _,.refl _,.refl _,.refl _,.refl _,.refl _,.refl _,.refl _,trivial⟩,fun k o h => h⟩
     refine ⟨fun y f hI => ?_,?_⟩
     ·obtain ⟨f,rfl⟩:=off f 15 (hI.no 15 9 rfl rfl)
      conv => whnf
      refine ⟨trivial,.inl ?_⟩
      conv => whnf
      refine ⟨encTop b.kids[j],fun _ => get_kid hjb,?_⟩
      conv => whnf
      exact ⟨y,⟨.refl _,.refl _,.refl _,.refl _,.refl _,.refl _,.refl _,.refl _,.refl _,.refl _,.refl _,.refl _,.refl _,.refl _,.refl _,.refl _,.refl _,.refl _,.refl _,.refl _,.refl _,.refl _,trivial⟩,fun k o h => h⟩
     refine ⟨fun y f hI => ?_,?_⟩
     ·obtain ⟨f,rfl⟩:=off f 15 (hI.no 15 10 rfl rfl)
      conv => whnf
      refine ⟨trivial,.inl ?_⟩
      conv => whnf
      refine ⟨[encTop M[i],encTop b.kids[j]],_,fun _ => ih M[i] b.kids[j] (by omega) (by omega),⟨.refl _,.refl _,trivial⟩,?_⟩
      conv => whnf
      exact ⟨y,⟨.refl _,.refl _,.refl _,.refl _,.refl _,.refl _,.refl _,.refl _,.refl _,.refl _,.refl _,.refl _,.refl _,.refl _,.refl _,.refl _,.refl _,.refl _,.refl _,.refl _,.refl _,.refl _,trivial⟩,fun k o h => h⟩
     refine ⟨fun y f hI => ?_,?_⟩
     ·obtain ⟨f,rfl⟩:=off f 15 (hI.no 15 11 rfl rfl)
      conv => whnf
      refine ⟨trivial,.inl ?_⟩
      conv => whnf
      exact ⟨y,⟨.refl _,.refl _,.refl _,.refl _,.refl _,.refl _,.refl _,.refl _,.refl _,.refl _,.refl _,.refl _,.refl _,.refl _,.refl _,.refl _,.refl _,.refl _,.refl _,.refl _,.refl _,.refl _,trivial⟩,fun k o h => h⟩
     refine ⟨fun y f hI => ?_,?_⟩
     ·obtain ⟨f,rfl⟩:=off f 15 (hI.no 15 12 rfl rfl)
      conv => whnf
      refine ⟨trivial,.inl ?_⟩
      conv => whnf
      exact ⟨y,⟨.refl _,.refl _,.refl _,.refl _,.refl _,.refl _,.refl _,.refl _,.refl _,.refl _,.refl _,.refl _,.refl _,.refl _,.refl _,.refl _,.refl _,.refl _,.refl _,.refl _,.refl _,.refl _,trivial⟩,fun k o h => h⟩
     refine ⟨fun y f hI => ?_,?_⟩
     ·conv => whnf
      refine ⟨trivial,.inl ?_⟩
      conv => whnf
      exact ⟨y,⟨.refl _,.refl _,.refl _,.refl _,.refl _,.refl _,.refl _,.refl _,.refl _,.refl _,.refl _,.refl _,.refl _,.refl _,.refl _,.refl _,.refl _,.refl _,.refl _,.refl _,.refl _,.refl _,trivial⟩,fun k o h => h⟩
     refine ⟨fun y f hI => ?_,?_⟩
     ·obtain ⟨f,rfl⟩:=off f 15 (hI.no 15 14 rfl rfl)
      conv => whnf
      refine ⟨trivial,.inl ?_⟩
      conv => whnf
      intro nb
      conv => whnf
      exact ⟨nb,⟨.refl _,.refl _,.refl _,.refl _,.refl _,.refl _,.refl _,.refl _,.refl _,.refl _,.refl _,.refl _,.refl _,.refl _,.refl _,.refl _,.refl _,.refl _,.refl _,.refl _,.refl _,.refl _,trivial⟩,SubHF.of (hs:=[(3,.box b3 (encTop b).cells),(4,.box b4 [.str [],.int .i64 0,.str [],.str [],.int .i64 0,.int .i64 0,.int .i64 0,.int .i64 0,.int .i64 0,.int .i64 0,.nils,.nils]),(6,.box b6 [.str a.name,.int .i64 a.kind,.str a.text,.str a.target,.int .i64 a.n1,.int .i64 a.n2,.int .i64 a.n3,.int .i64 a.n4,.int .i64 a.n5,.int .i64 a.n6,.raw (.slice ra rn rc),.sl .none 2 (a.streams.map encS)]),(70,.row (.slice ra rn rc) (M.map encTop) 12 25),(9,.box nb [.str [],.int .i64 0,.str [],.str [],.int .i64 0,.int .i64 0,.int .i64 0,.int .i64 0,.int .i64 0,.int .i64 0,.nils,.nils])]) ⟨rfl,rfl,rfl,rfl,rfl,trivial⟩⟩
     refine ⟨fun y f hI => ?_,?_⟩
     ·conv => whnf
      refine ⟨trivial,.inl ?_⟩
      conv => whnf
      refine ⟨rfl,?_⟩
      conv => whnf
      exact ⟨y,⟨.refl _,.refl _,.refl _,.refl _,.refl _,.refl _,.refl _,.refl _,.refl _,.refl _,.refl _,.refl _,.refl _,.refl _,.refl _,.refl _,.refl _,.refl _,.refl _,.refl _,.refl _,.refl _,trivial⟩,SubHF.of (hs:=[(3,.box b3 (encTop b).cells),(4,.box b4 [.str [],.int .i64 0,.str [],.str [],.int .i64 0,.int .i64 0,.int .i64 0,.int .i64 0,.int .i64 0,.int .i64 0,.nils,.nils]),(6,.box b6 [.str a.name,.int .i64 a.kind,.str a.text,.str a.target,.int .i64 a.n1,.int .i64 a.n2,.int .i64 a.n3,.int .i64 a.n4,.int .i64 a.n5,.int .i64 a.n6,.raw (.slice ra rn rc),.sl .none 2 (a.streams.map encS)]),(70,.row (.slice ra rn rc) (M.map encTop) 12 25),(9,.box y (encTop ((mergeR N M[i] b.kids[j]).getD zeroN)).cells)]) ⟨rfl,rfl,rfl,rfl,rfl,trivial⟩⟩
     refine ⟨fun y f hI => ?_,?_⟩
     ·conv => whnf
      refine ⟨trivial,.inl ?_⟩
      conv => whnf
      exact ⟨y,⟨.refl _,.refl _,.refl _,.refl _,.refl _,.refl _,.refl _,.refl _,.refl _,.refl _,.refl _,.refl _,.refl _,.refl _,.refl _,.refl _,.refl _,.refl _,.refl _,.refl _,.refl _,.refl _,trivial⟩,fun k o h => h⟩
     exact trivial
    ·intro y f hfl
     conv => whnf
     refine Tri.forgetG [(3,.box 3 b3 0),(4,.box 4 b4 0),(5,.bool false),(6,.box 6 b6 0),(7,.int .i64 (j : Int)),(8,.int .i64 (i : Int)),(9,.box 9 y 0),(10,.bool (mergeR N M[i] b.kids[j]).isSome)] (look [(3,.box b3 (encTop b).cells),(4,.box b4 [.str [],.int .i64 0,.str [],.str [],.int .i64 0,.int .i64 0,.int .i64 0,.int .i64 0,.int .i64 0,.int .i64 0,.nils,.nils]),(6,.box b6 [.str a.name,.int .i64 a.kind,.str a.text,.str a.target,.int .i64 a.n1,.int .i64 a.n2,.int .i64 a.n3,.int .i64 a.n4,.int .i64 a.n5,.int .i64 a.n6,.raw (.slice ra rn rc),.sl .none 2 (a.streams.map encS)]),(70,.row (.slice ra rn rc) (M.map encTop) 12 25),(9,.box y (encTop ((mergeR N M[i] b.kids[j]).getD zeroN)).cells)]) (.same ⟨.refl _,.refl _,.refl _,.refl _,.refl _,.refl _,?_,?_,trivial⟩ (SubHF.of ⟨rfl,rfl,rfl,rfl,?_,trivial⟩)) ?_
     ·show DLe (bif f 14 then _ else _) _
      rw [hfl 14 (by decide +kernel)]; exact .refl _
     ·show DLe (bif f 16 then _ else _) _
      rw [hfl 16 (by decide +kernel)]; exact .refl _
     ·show look (([(3,_),(4,_),(6,_),(70,_)] : List (Nat × HObj)) ++ (bif f 14 then _ else _)) 9 = _
      rw [hfl 14 (by decide +kernel),hfl 15 (by decide +kernel)]; rfl
     conv => whnf
     refine Tri.seq ?_
     refine Tri.seq ?_
     refine Tri.region ti_ok ?_
     conv => whnf
     refine Tri.cond _ rfl (fun hc4 => ?_) (fun hc4 => ?_)
     ·have hm : mergeR N M[i] b.kids[j] = none:=by simpa using hc4
      have hst : stepR (mergeR N) M b.kids[j] = none:=by
       simp only [stepR,hif]
       rw [if_neg (by omega),show ((i : Nat) : Int).toNat = i from rfl,hge,if_pos hkd,hm]; rfl
      refine Tri.seq ?_
      refine Tri.region ti_ok ?_
      conv => whnf
      refine ⟨rfl,?_⟩
      conv => whnf
      refine Tri.ret ?_
      conv => whnf
      have hnone : mergeR (N + 1) a b = none:=by simp only [mergeR]; rw [foldM_none hjb hfold hst]; rfl
      rw [hnone]
      refine ⟨rfl,?_⟩
      conv => whnf
      exact ⟨zeroD,.refl _,trivial⟩
     ·obtain ⟨y,hy⟩ : ∃ y,mergeR N M[i] b.kids[j] = some y:=Option.isSome_iff_exists.1 (by simpa using hc4)
      have hst : stepR (mergeR N) M b.kids[j] = some (M.set i y):=by
       simp only [stepR,hif]
       rw [if_neg (by omega),show ((i : Nat) : Int).toNat = i from rfl,hge,if_pos hkd,hy]; rfl
      obtain ⟨hyn,hys⟩:=mergeR_sz N _ _ _ hy
      rw [hy]
      refine Tri.skip ?_
      conv => whnf
      refine Tri.regionX ti_ok ?_
      conv => whnf
      refine .inl ?_
      conv => whnf
      refine ⟨rfl,?_⟩
      conv => whnf
      refine .inl ?_
      conv => whnf
      refine ⟨rfl,?_⟩
      conv => whnf
      refine .inr (XOp.rowIndex ti_ok 70 rfl rfl rfl rfl rfl rfl rfl (by omega) (by rw [List.length_map]; omega) ?_)
      conv => whnf
      refine .inr (XOp.rowStoreS ti_ok 70 (i:=i) (by rw [Int.toNat_natCast]; rfl) rfl rfl rfl (by rw [List.length_map]; exact him) (cs:=(encTop y).cells) rfl rfl rfl ?_)
      conv => whnf
      refine Tri.region ti_ok ?_
      conv => whnf
      refine .inl ⟨fun _ => by simp only [InR]; omega,?_⟩
      conv => whnf
      have hszn : szL (M.set i y) ≤ szL M + sz b.kids[j]:=szL_set him hyn hys
      exact ⟨⟨((j + 1,M.set i y),ra,rn,rc),hjb,foldM_next hjb hfold hst,by show szL (M.set i y) + szL (b.kids.drop (j + 1)) ≤ _; omega⟩,[(3,3),(4,4),(6,6),(70,70)],by show b.kids.length - (j + 1) < b.kids.length - j; omega,⟨.refl _,.refl _,.refl _,.refl _,.refl _,trivial⟩,rfl,rfl,rfl,rfl,rfl,rfl,rfl,rfl,congrArg (fun z => some (HObj.row (.slice ra rn rc) z 12 25)) (by rw [List.map_set]; rfl),trivial⟩
 ·have hje : j = b.kids.length:=by have:=of_decide_eq_false hc; rw [List.length_map] at this; omega
  rw [hje,List.take_length] at hfold
  have hres : mergeR (N + 1) a b = some (srtT (withKids a M)):=by simp only [mergeR]; rw [hfold]; rfl
  have hM : M.map encTop = M.map enc:=by rw [show enc = encTop from funext enc_eq]
  have hwk:=withKids_sz a M
  refine Tri.exit ?_
  rw [hM]
  refine Tri.commitBox 70 6 10 rfl rfl (by decide) rfl ?_
  conv => whnf
  conv => whnf
  refine Tri.seq ?_
  refine Tri.region ti_ok ?_
  conv => whnf
  refine ⟨rfl,?_⟩
  conv => whnf
  refine ⟨[encTop (withKids a M)],_,fun _ => K90 (sz (withKids a M) + 1) (withKids a M) (by omega) (by omega),⟨DLe.of_eq rfl,trivial⟩,?_⟩
  conv => whnf
  refine ⟨rfl,?_⟩
  conv => whnf
  refine Tri.ret ?_
  conv => whnf
  rw [hres]
  refine ⟨rfl,?_⟩
  conv => whnf
  exact ⟨.refl _,.refl _,trivial⟩
end Go.Tame.V
/- Contracts: IndexFunc and ContainsFunc of nodes. Taken by program (from TameN17). -/
namespace Go.Tame.V
open Go Go.Proofs
variable {W0 : World}
set_option maxRecDepth 10000
set_option linter.unusedVariables false
set_option linter.unusedSimpArgs false

theorem G96g (l : List NV) (hl : l.length < 1000000000) (fid : Nat) (caps : List D) (p : NV → Bool) (hp0 : ∀ k ∈ l,DFun Tryz.prog W0 fid (encTop k::caps) (.bool (p k))) : DFun Tryz.prog W0 48 [.sl .none 12 (l.map enc),.fn (.func fid) [] caps] (.int .i64 (firstIdx p l)):=by
 refine DFun.intro ti_ok Tryz.func48 rfl (by decide +kernel) Tryz.ntmps48 rfl fun Γ => ?_
 refine Tri.seq ?_
 refine Tri.region ti_ok ?_
 conv => whnf
 refine Tri.seq ?_
 refine Tri.seq ?_
 refine Tri.region ti_ok ?_
 conv => whnf
 refine Tri.block ?_
 refine Tri.loop (α:={ i : Nat // i ≤ l.length ∧ ∀ j (h : j < l.length),j < i → p (l[j]) = false }) (fun x => [(0,.sl .none 12 (l.map enc)),(1,.fn (.func fid) [] caps),(7,.int .i64 (l.map enc).length),(8,.int .i64 x.1)]) (fun _ => []) (fun x => l.length - x.1) ⟨0,by simp⟩ ⟨.refl _,.refl _,.refl _,.refl _,trivial⟩ trivial ?_
 rintro ⟨i,hi,hp⟩
 dsimp only
 refine Tri.seq ?_
 refine Tri.region ti_ok ?_
 conv => whnf
 refine Tri.seq ?_
 refine Tri.cond (decide ((i : Int) < (l.map enc).length)) rfl (fun hc => ?_) (fun hc => ?_)
 ·refine Tri.skip ?_
  conv => whnf
  refine Tri.seq ?_
  refine Tri.block ?_
  refine Tri.seq ?_
  refine Tri.region ti_ok ?_
  have hia : i < l.length:=by simpa using hc
  conv => whnf
  refine Tri.seq ?_
  refine Tri.region ti_ok ?_
  conv => whnf
  refine ⟨fun _ => by simp; omega,?_⟩
  conv => whnf
  refine ⟨encTop l[i],fun _ => get_kids hia,?_⟩
  conv => whnf
  refine ⟨encTop l[i]::caps,_,fun _ => hp0 l[i] (List.getElem_mem hia),⟨.refl _,LeL.refl _⟩,?_⟩
  conv => whnf
  refine Tri.cond _ rfl (fun hc => ?_) (fun hc => ?_)
  ·refine Tri.seq ?_
   refine Tri.region ti_ok ?_
   conv => whnf
   refine Tri.ret ?_
   conv => whnf
   exact intDLe (firstIdx_some (p:=p) hia hp hc).symm
  ·refine Tri.skip ?_
   conv => whnf
   refine Tri.region ti_ok ?_
   conv => whnf
   refine .inl ⟨fun _ => by simp [InR]; omega,?_⟩
   conv => whnf
   exact ⟨⟨i + 1,by omega,fun j hj hlt => (Nat.lt_succ_iff_lt_or_eq.1 hlt).elim (hp j hj) fun e => by subst e; exact hc⟩,by show _ - (i + 1) < _ - i; omega,⟨.refl _,.refl _,.refl _,.refl _,trivial⟩,trivial⟩
 ·refine Tri.exit ?_
  conv => whnf
  refine Tri.seq ?_
  refine Tri.region ti_ok ?_
  conv => whnf
  refine Tri.ret ?_
  conv => whnf
  exact intDLe (firstIdx_none (p:=p) fun j hj => hp j hj (by simp at hc; omega)).symm
theorem G44 (l : List NV) (hl : l.length < 1000000000) (fid : Nat) (caps : List D) (p : NV → Bool) (hp0 : ∀ k ∈ l,DFun Tryz.prog W0 fid (encTop k::caps) (.bool (p k))) : DFun Tryz.prog W0 41 [.sl .none 12 (l.map enc),.fn (.func fid) [] caps] (.bool (l.any p)):=by
 refine DFun.intro ti_ok Tryz.func41 rfl (by decide +kernel) Tryz.ntmps41 rfl fun Γ => ?_
 refine Tri.seq ?_
 refine Tri.region ti_ok ?_
 conv => whnf
 refine Tri.seq ?_
 refine Tri.region ti_ok ?_
 conv => whnf
 refine ⟨[.sl .none 12 (l.map enc),.fn (.func fid) [] caps],_,fun _ => G96g l hl fid caps p hp0,⟨.refl _,.refl _,trivial⟩,?_⟩
 conv => whnf
 refine Tri.ret ?_
 conv => whnf
 exact DLe.of_eq (congrArg D.bool (firstIdx_any p l))
end Go.Tame.V
/- Contracts: Union of the program and of the reference. By program (mkk20.py,mk.py). -/
namespace Go.Tame.V
open Go Go.Proofs
variable {W0 : World}
set_option maxRecDepth 10000
set_option linter.unusedVariables false
set_option linter.unusedSimpArgs false

mutual
theorem good_ris : ∀ (n : NV) (l : Int),goodB n l = true → okS n → ris n
 | .mk a b c d e f g h i j ks ss,l,hg,hs => by
  obtain ⟨h1,h2⟩:=goodB_good hg
  simp only [okS] at hs
  simp only [ris]
  exact ⟨h1.inc,hs.1,h1.streams4,good_risL ks (l + 1) h2 hs.2⟩
theorem good_risL : ∀ (ks : List NV) (l : Int),goodL ks l = true → okSL ks → risL ks
 | [],l,hg,_ => trivial
 | k::r,l,hg,hs => by
  simp only [goodL,Bool.and_eq_true] at hg
  simp only [okSL] at hs
  simp only [risL]
  exact ⟨good_ris k l hg.1 hs.1,good_risL r l hg.2 hs.2⟩
end
theorem valid_ris {n : NV} (h : valid n = true) : ris n:=by
 have hs:=valid_okS h
 rw [valid_good,Bool.and_eq_true] at h
 exact good_ris n 1 h.2 hs
def unionF (l : List NV) : Option NV:=match l with | [] => none | n::r => r.foldlM (fun a b => mergeV (sz b + 1) a b) n
def unionV (l : List NV) : NV × Int :=
 if (l.isEmpty || l.any fun n => !valid n) = true then (zeroN,1)
 else match unionF l with
  | none => (zeroN,5)
  | some u => if (check u).2 = 0 then (u,0) else (zeroN,(check u).2)
theorem union_none {l : List NV} (h : ¬ (l.isEmpty || l.any fun n => !valid n) = true) (hu : unionF l = none) : unionV l = (zeroN,5):=by
 rw [unionV,if_neg h,hu]
theorem union_err {l : List NV} {u : NV} (h : ¬ (l.isEmpty || l.any fun n => !valid n) = true) (hu : unionF l = some u) (hc : ¬ (check u).2 = 0) : unionV l = (zeroN,(check u).2):=by
 rw [unionV,if_neg h,hu]; exact if_neg hc
theorem union_ok {l : List NV} {u : NV} (h : ¬ (l.isEmpty || l.any fun n => !valid n) = true) (hu : unionF l = some u) (hc : (check u).2 = 0) : unionV l = (u,0):=by
 rw [unionV,if_neg h,hu]; exact if_pos hc
theorem merge_step {u k y : NV} (hu : ris u) (hk : ris k) (h : mergeV (sz k + 1) u k = some y) : ris y ∧ y.name = u.name ∧ sz y ≤ sz u + sz k:=by
 obtain ⟨_,h2,h3⟩:=mergeV_ok _ _ _ _ (ris_srt _ hu) (ris_srt _ hk) h
 exact ⟨mergeV_ris _ _ _ _ hu hk h,h2,h3⟩

theorem K42 (hL : LibOk W0) (n : NV) (hz : sz n + n.name.length < 10000000) : DFun Tryz.prog W0 42 [encTop n] (.bool (!valid n)):=by
 refine DFun.intro ti_ok Tryz.func42 rfl (by decide +kernel) Tryz.ntmps42 rfl fun Γ => ?_
 refine Tri.seq ?_
 refine Tri.region ti_ok ?_
 conv => whnf
 intro b1
 conv => whnf
 refine Tri.seq ?_
 refine Tri.region ti_ok ?_
 conv => whnf
 refine ⟨rfl,?_⟩
 conv => whnf
 refine ⟨[encTop n],_,fun _ => F39 hL n hz,⟨.refl _,trivial⟩,?_⟩
 conv => whnf
 refine Tri.ret ?_
 conv => whnf
 exact .refl _
theorem KU (hL : LibOk W0) (l : List NV) (hlen : l.length ≤ 10) (hsz : ∀ n ∈ l,sz n + n.name.length ≤ 60000) : DFun Tryz.prog W0 18 [.sl .none 12 (l.map enc)] (.tup [encTop (unionV l).1,.int .i64 (unionV l).2]):=by
 refine DFun.intro ti_ok Tryz.func18 rfl (by decide +kernel) Tryz.ntmps18 rfl fun Γ => ?_
 refine Tri.seq ?_
 refine Tri.region ti_ok ?_
 conv => whnf
 intro b2
 conv => whnf
 refine Tri.seq ?_
 refine Tri.seq ?_
 refine Tri.region ti_ok ?_
 conv => whnf
 refine ⟨fun h => h,?_⟩
 conv => whnf
 refine ⟨[.sl .none 12 (l.map enc),.fn (.func 42) [] []],_,fun h => G44 l (by omega) 42 [] (fun n => !valid n) (fun k hk => K42 hL k (by have:=hsz k hk; omega)),⟨.refl _,.refl _,trivial⟩,?_⟩
 conv => whnf
 refine ⟨fun h0 h => by first | exact h | (rw [h]; rfl) | (rw [h0,h]; rfl),?_⟩
 conv => whnf
 refine Tri.cond _ rfl (fun hc => ?_) (fun hc => ?_)
 ·have hbad : (l.isEmpty || l.any fun n => !valid n) = true:=by
   cases l with
   | nil => rfl
   | cons n0 r =>
    have h0 : (((n0::r).map enc).length : Int) ≠ 0:=by simp; omega
    rw [beq_false_of_ne h0] at hc
    exact hc
  refine Tri.seq ?_
  refine Tri.region ti_ok ?_
  conv => whnf
  refine ⟨rfl,?_⟩
  conv => whnf
  refine Tri.ret ?_
  conv => whnf
  rw [show unionV l = (zeroN,1) from if_pos hbad]
  refine ⟨rfl,?_⟩
  conv => whnf
  exact ⟨zeroD,.refl _,trivial⟩
 ·have hgood : ¬ (l.isEmpty || l.any fun n => !valid n) = true:=fun hb => by
   cases l with
   | nil => exact absurd hc (by decide)
   | cons n0 r =>
    have h0 : (((n0::r).map enc).length : Int) ≠ 0:=by simp; omega
    rw [beq_false_of_ne h0] at hc
    exact Bool.noConfusion (hc.symm.trans hb)
  obtain ⟨n0,r,rfl⟩ : ∃ n0 r,l = n0::r:=by
   cases l with
   | nil => exact absurd rfl hgood
   | cons n0 r => exact ⟨n0,r,rfl⟩
  have hval : ∀ n ∈ n0::r,valid n = true:=fun n hn => by
   cases hvn : valid n with
   | true => rfl
   | false =>
    refine absurd ?_ hgood
    rw [Bool.or_eq_true,List.any_eq_true]
    exact .inr ⟨n,hn,by rw [hvn]; rfl⟩
  have hn0 : sz n0 + n0.name.length ≤ 60000:=hsz n0 (by simp)
  have hv0 : valid n0 = true:=hval n0 (by simp)
  have hrl : r.length ≤ 9:=by simp at hlen; omega
  refine Tri.skip ?_
  conv => whnf
  refine Tri.seq ?_
  refine Tri.region ti_ok ?_
  conv => whnf
  refine ⟨fun _ => by rw [List.length_map]; simp,?_⟩
  conv => whnf
  refine ⟨encTop n0,fun _ => get_kids (l:=n0::r) (i:=0) (by simp),?_⟩
  conv => whnf
  refine ⟨[encTop n0],_,fun _ => K43 (sz n0 + 1) n0 (by omega) (by omega) (valid_ris hv0),⟨.refl _,trivial⟩,?_⟩
  conv => whnf
  intro b4
  conv => whnf
  refine ⟨rfl,?_⟩
  conv => whnf
  refine Tri.seq ?_
  refine Tri.seq ?_
  refine Tri.region ti_ok ?_
  conv => whnf
  refine ⟨fun _ => by rw [List.length_map]; simp; omega,?_⟩
  conv => whnf
  refine Tri.block ?_
  refine Tri.loopK (α:={ x : Nat × NV // x.1 ≤ r.length ∧ (r.take x.1).foldlM (fun a b => mergeV (sz b + 1) a b) n0 = some x.2 ∧ ris x.2 ∧ sz x.2 + x.2.name.length ≤ 60000 * (x.1 + 1) }) (fun x => [(2,.box 2 b2 0),(3,.int .i64 0),(4,.box 4 b4 0),(24,.sl .none 12 (r.map enc)),(25,.int .i64 (r.map enc).length),(26,.int .i64 x.1.1)])
   (fun x => [(2,.box b2 [.str [],.int .i64 0,.str [],.str [],.int .i64 0,.int .i64 0,.int .i64 0,.int .i64 0,.int .i64 0,.int .i64 0,.nils,.nils]),(4,.box b4 (encTop x.1.2).cells)]) (fun x => r.length - x.1.1) ⟨(0,n0),Nat.zero_le _,rfl,valid_ris hv0,by show _ ≤ 60000 * (0 + 1); omega⟩ [(2,2),(4,4)]
   ⟨⟨.refl _,.refl _,.refl _,DLe.of_eq (congrArg (D.sl .none 12) (by rw [List.length_map,List.length_cons]; simp [List.take_of_length_le])),DLe.of_eq (congrArg (D.int .i64) (by simp)),.refl _,trivial⟩,rfl,rfl,rfl,rfl,rfl,trivial⟩ ?_
  rintro ⟨⟨i,u⟩,hi,hfold,hr,hsu⟩
  dsimp only at hi hfold hr hsu ⊢
  refine Tri.seq ?_
  refine Tri.region ti_ok ?_
  conv => whnf
  refine Tri.seq ?_
  refine Tri.cond (decide ((i : Int) < (r.map enc).length)) rfl (fun hc2 => ?_) (fun hc2 => ?_)
  ·have hia : i < r.length:=by have:=of_decide_eq_true hc2; rw [List.length_map] at this; omega
   have hri : sz r[i] + r[i].name.length ≤ 60000:=hsz _ (by simp [List.getElem_mem])
   have hrv : valid r[i] = true:=hval _ (by simp [List.getElem_mem])
   refine Tri.skip ?_
   conv => whnf
   refine Tri.seq ?_
   refine Tri.block ?_
   refine Tri.seq ?_
   refine Tri.region ti_ok ?_
   conv => whnf
   refine ⟨fun _ => by rw [List.length_map]; omega,?_⟩
   conv => whnf
   refine ⟨encTop r[i],fun _ => get_kids hia,?_⟩
   conv => whnf
   intro b6
   conv => whnf
   refine ⟨rfl,?_⟩
   conv => whnf
   refine Tri.seq ?_
   refine Tri.bitsG ti_ok mixed (α:=Nat) (fun y f => [(2,.box 2 b2 0),(3,.int .i64 0),(4,.box 4 b4 0),(24,.sl .none 12 (r.map enc)),(25,.int .i64 (r.map enc).length),(26,.int .i64 (i : Int)),(6,.box 6 b6 0),(31,bif f 0 then encTop u else .any),(32,bif f 1 then encTop r[i] else .any),(33,bif f 2 then encTop r[i] else .any),(34,bif f 3 then .tup [encTop ((mergeV (sz r[i] + 1) u r[i]).getD zeroN),.bool (mergeV (sz r[i] + 1) u r[i]).isSome] else .any),(30,bif f 4 then .tup [encTop ((mergeV (sz r[i] + 1) u r[i]).getD zeroN),.bool (mergeV (sz r[i] + 1) u r[i]).isSome] else .any),(35,bif f 5 then encTop ((mergeV (sz r[i] + 1) u r[i]).getD zeroN) else .any),(36,bif f 6 then .bool (mergeV (sz r[i] + 1) u r[i]).isSome else .any),(7,bif f 7 then .box 7 y 0 else .any),(8,bif f 9 then .bool (mergeV (sz r[i] + 1) u r[i]).isSome else .any)])
    (fun y f => look ([(2,.box b2 [.str [],.int .i64 0,.str [],.str [],.int .i64 0,.int .i64 0,.int .i64 0,.int .i64 0,.int .i64 0,.int .i64 0,.nils,.nils]),(4,.box b4 (encTop u).cells),(6,.box b6 (encTop r[i]).cells)] ++ (bif f 7 then [(7,.box y (bif f 8 then (encTop ((mergeV (sz r[i] + 1) u r[i]).getD zeroN)).cells else [.str [],.int .i64 0,.str [],.str [],.int .i64 0,.int .i64 0,.int .i64 0,.int .i64 0,.int .i64 0,.int .i64 0,.nils,.nils]))] else []))) (by decide +kernel) 0 ?_ ?_ ?_ ?_
   ·exact ⟨.refl _,.refl _,.refl _,.refl _,.refl _,.refl _,.refl _,.any _,.any _,.any _,.any _,.any _,.any _,.any _,.any _,.any _,trivial⟩
   ·exact SubHF.of (hs:=[(2,.box b2 [.str [],.int .i64 0,.str [],.str [],.int .i64 0,.int .i64 0,.int .i64 0,.int .i64 0,.int .i64 0,.int .i64 0,.nils,.nils]),(4,.box b4 (encTop u).cells),(6,.box b6 (encTop r[i]).cells)]) ⟨rfl,rfl,rfl,trivial⟩
   ·conv => whnf
    refine ⟨fun y f hI => ?_,?_⟩
    ·obtain ⟨f,rfl⟩:=off f 8 (hI.no 8 0 rfl rfl)
     conv => whnf
     refine ⟨trivial,.inl ?_⟩
     conv => whnf
     refine ⟨rfl,?_⟩
     conv => whnf
     exact ⟨y,⟨.refl _,.refl _,.refl _,.refl _,.refl _,.refl _,.refl _,.refl _,.refl _,.refl _,.refl _,.refl _,.refl _,.refl _,.refl _,.refl _,trivial⟩,fun k o h => h⟩
    refine ⟨fun y f hI => ?_,?_⟩
    ·obtain ⟨f,rfl⟩:=off f 8 (hI.no 8 1 rfl rfl)
     conv => whnf
     refine ⟨trivial,.inl ?_⟩
     conv => whnf
     refine ⟨rfl,?_⟩
     conv => whnf
     exact ⟨y,⟨.refl _,.refl _,.refl _,.refl _,.refl _,.refl _,.refl _,.refl _,.refl _,.refl _,.refl _,.refl _,.refl _,.refl _,.refl _,.refl _,trivial⟩,fun k o h => h⟩
    refine ⟨fun y f hI => ?_,?_⟩
    ·obtain ⟨f,rfl⟩:=off f 8 (hI.no 8 2 rfl rfl)
     conv => whnf
     refine ⟨trivial,.inl ?_⟩
     conv => whnf
     refine ⟨[encTop r[i]],_,fun _ => K43 (sz r[i] + 1) r[i] (by omega) (by omega) (valid_ris hrv),⟨.refl _,trivial⟩,?_⟩
     conv => whnf
     exact ⟨y,⟨.refl _,.refl _,.refl _,.refl _,.refl _,.refl _,.refl _,.refl _,.refl _,.refl _,.refl _,.refl _,.refl _,.refl _,.refl _,.refl _,trivial⟩,fun k o h => h⟩
    refine ⟨fun y f hI => ?_,?_⟩
    ·obtain ⟨f,rfl⟩:=off f 8 (hI.no 8 3 rfl rfl)
     conv => whnf
     refine ⟨trivial,.inl ?_⟩
     conv => whnf
     refine ⟨[encTop u,encTop r[i]],_,fun _ => K44 (sz r[i] + 1) u r[i] (by omega) (ris_srt _ hr) (ris_srt _ (valid_ris hrv)) (by omega),⟨.refl _,.refl _,trivial⟩,?_⟩
     conv => whnf
     exact ⟨y,⟨.refl _,.refl _,.refl _,.refl _,.refl _,.refl _,.refl _,.refl _,.refl _,.refl _,.refl _,.refl _,.refl _,.refl _,.refl _,.refl _,trivial⟩,fun k o h => h⟩
    refine ⟨fun y f hI => ?_,?_⟩
    ·obtain ⟨f,rfl⟩:=off f 8 (hI.no 8 4 rfl rfl)
     conv => whnf
     refine ⟨trivial,.inl ?_⟩
     conv => whnf
     exact ⟨y,⟨.refl _,.refl _,.refl _,.refl _,.refl _,.refl _,.refl _,.refl _,.refl _,.refl _,.refl _,.refl _,.refl _,.refl _,.refl _,.refl _,trivial⟩,fun k o h => h⟩
    refine ⟨fun y f hI => ?_,?_⟩
    ·obtain ⟨f,rfl⟩:=off f 8 (hI.no 8 5 rfl rfl)
     conv => whnf
     refine ⟨trivial,.inl ?_⟩
     conv => whnf
     exact ⟨y,⟨.refl _,.refl _,.refl _,.refl _,.refl _,.refl _,.refl _,.refl _,.refl _,.refl _,.refl _,.refl _,.refl _,.refl _,.refl _,.refl _,trivial⟩,fun k o h => h⟩
    refine ⟨fun y f hI => ?_,?_⟩
    ·conv => whnf
     refine ⟨trivial,.inl ?_⟩
     conv => whnf
     exact ⟨y,⟨.refl _,.refl _,.refl _,.refl _,.refl _,.refl _,.refl _,.refl _,.refl _,.refl _,.refl _,.refl _,.refl _,.refl _,.refl _,.refl _,trivial⟩,fun k o h => h⟩
    refine ⟨fun y f hI => ?_,?_⟩
    ·obtain ⟨f,rfl⟩:=off f 8 (hI.no 8 7 rfl rfl)
     conv => whnf
     refine ⟨trivial,.inl ?_⟩
     conv => whnf
     intro nb
     conv => whnf
     exact ⟨nb,⟨.refl _,.refl _,.refl _,.refl _,.refl _,.refl _,.refl _,.refl _,.refl _,.refl _,.refl _,.refl _,.refl _,.refl _,.refl _,.refl _,trivial⟩,SubHF.of (hs:=[(2,.box b2 [.str [],.int .i64 0,.str [],.str [],.int .i64 0,.int .i64 0,.int .i64 0,.int .i64 0,.int .i64 0,.int .i64 0,.nils,.nils]),(4,.box b4 (encTop u).cells),(6,.box b6 (encTop r[i]).cells),(7,.box nb [.str [],.int .i64 0,.str [],.str [],.int .i64 0,.int .i64 0,.int .i64 0,.int .i64 0,.int .i64 0,.int .i64 0,.nils,.nils])]) ⟨rfl,rfl,rfl,rfl,trivial⟩⟩
    refine ⟨fun y f hI => ?_,?_⟩
    ·conv => whnf
     refine ⟨trivial,.inl ?_⟩
     conv => whnf
     refine ⟨rfl,?_⟩
     conv => whnf
     exact ⟨y,⟨.refl _,.refl _,.refl _,.refl _,.refl _,.refl _,.refl _,.refl _,.refl _,.refl _,.refl _,.refl _,.refl _,.refl _,.refl _,.refl _,trivial⟩,SubHF.of (hs:=[(2,.box b2 [.str [],.int .i64 0,.str [],.str [],.int .i64 0,.int .i64 0,.int .i64 0,.int .i64 0,.int .i64 0,.int .i64 0,.nils,.nils]),(4,.box b4 (encTop u).cells),(6,.box b6 (encTop r[i]).cells),(7,.box y (encTop ((mergeV (sz r[i] + 1) u r[i]).getD zeroN)).cells)]) ⟨rfl,rfl,rfl,rfl,trivial⟩⟩
    refine ⟨fun y f hI => ?_,?_⟩
    ·conv => whnf
     refine ⟨trivial,.inl ?_⟩
     conv => whnf
     exact ⟨y,⟨.refl _,.refl _,.refl _,.refl _,.refl _,.refl _,.refl _,.refl _,.refl _,.refl _,.refl _,.refl _,.refl _,.refl _,.refl _,.refl _,trivial⟩,fun k o h => h⟩
    exact trivial
   ·intro y f hfl
    conv => whnf
    refine Tri.forgetG [(2,.box 2 b2 0),(3,.int .i64 0),(4,.box 4 b4 0),(24,.sl .none 12 (r.map enc)),(25,.int .i64 (r.map enc).length),(26,.int .i64 (i : Int)),(6,.box 6 b6 0),(7,.box 7 y 0),(8,.bool (mergeV (sz r[i] + 1) u r[i]).isSome)] (look [(2,.box b2 [.str [],.int .i64 0,.str [],.str [],.int .i64 0,.int .i64 0,.int .i64 0,.int .i64 0,.int .i64 0,.int .i64 0,.nils,.nils]),(4,.box b4 (encTop u).cells),(6,.box b6 (encTop r[i]).cells),(7,.box y (encTop ((mergeV (sz r[i] + 1) u r[i]).getD zeroN)).cells)]) (.same ⟨.refl _,.refl _,.refl _,.refl _,.refl _,.refl _,.refl _,?_,?_,trivial⟩ (SubHF.of ⟨rfl,rfl,rfl,?_,trivial⟩)) ?_
    ·show DLe (bif f 7 then _ else _) _
     rw [hfl 7 (by decide +kernel)]; exact .refl _
    ·show DLe (bif f 9 then _ else _) _
     rw [hfl 9 (by decide +kernel)]; exact .refl _
    ·show look (([(2,_),(4,_),(6,_)] : List (Nat × HObj)) ++ (bif f 7 then _ else _)) 7 = _
     rw [hfl 7 (by decide +kernel),hfl 8 (by decide +kernel)]; rfl
    conv => whnf
    refine Tri.seq ?_
    refine Tri.seq ?_
    refine Tri.region ti_ok ?_
    conv => whnf
    refine Tri.cond _ rfl (fun hc3 => ?_) (fun hc3 => ?_)
    ·have hm : mergeV (sz r[i] + 1) u r[i] = none:=by simpa using hc3
     have hun : unionF (n0::r) = none:=foldM_none hia hfold hm
     refine Tri.seq ?_
     refine Tri.region ti_ok ?_
     conv => whnf
     refine ⟨rfl,?_⟩
     conv => whnf
     refine Tri.ret ?_
     conv => whnf
     rw [union_none hgood hun]
     refine ⟨rfl,?_⟩
     conv => whnf
     exact ⟨zeroD,.refl _,trivial⟩
    ·obtain ⟨y,hy⟩ : ∃ y,mergeV (sz r[i] + 1) u r[i] = some y:=Option.isSome_iff_exists.1 (by simpa using hc3)
     obtain ⟨g1,g2,g3⟩:=merge_step hr (valid_ris hrv) hy
     have hsy : sz y + y.name.length ≤ 60000 * (i + 1 + 1):=by rw [g2]; omega
     rw [hy]
     refine Tri.skip ?_
     conv => whnf
     refine Tri.region ti_ok ?_
     conv => whnf
     refine ⟨rfl,?_⟩
     conv => whnf
     refine ⟨rfl,?_⟩
     conv => whnf
     refine Tri.region ti_ok ?_
     conv => whnf
     refine .inl ⟨fun _ => by simp only [InR]; omega,?_⟩
     conv => whnf
     exact ⟨⟨(i + 1,y),hia,foldM_next hia hfold hy,g1,hsy⟩,[(2,2),(4,4)],by show r.length - (i + 1) < r.length - i; omega,⟨.refl _,.refl _,.refl _,.refl _,.refl _,.refl _,trivial⟩,rfl,rfl,rfl,rfl,rfl,trivial⟩
  ·have hie : i = r.length:=by have:=of_decide_eq_false hc2; rw [List.length_map] at this; omega
   have hun : unionF (n0::r) = some u:=by rw [hie,List.take_length] at hfold; exact hfold
   refine Tri.exit ?_
   conv => whnf
   refine Tri.seq ?_
   refine Tri.seq ?_
   refine Tri.region ti_ok ?_
   conv => whnf
   refine ⟨rfl,?_⟩
   conv => whnf
   refine ⟨[encTop u],_,fun _ => F59 hL u (by omega),⟨.refl _,trivial⟩,?_⟩
   conv => whnf
   refine Tri.seq ?_
   refine Tri.region ti_ok ?_
   conv => whnf
   refine Tri.cond _ rfl (fun hc3 => ?_) (fun hc3 => ?_)
   ·have hch : ¬ (check u).2 = 0:=by simpa using hc3
    refine Tri.seq ?_
    refine Tri.region ti_ok ?_
    conv => whnf
    refine ⟨rfl,?_⟩
    conv => whnf
    refine Tri.ret ?_
    conv => whnf
    rw [union_err hgood hun hch]
    refine ⟨rfl,?_⟩
    conv => whnf
    exact ⟨zeroD,.refl _,trivial⟩
   ·have hch : (check u).2 = 0:=by simpa using hc3
    refine Tri.skip ?_
    conv => whnf
    refine Tri.seq ?_
    refine Tri.region ti_ok ?_
    conv => whnf
    refine ⟨rfl,?_⟩
    conv => whnf
    refine ⟨rfl,?_⟩
    conv => whnf
    refine Tri.ret ?_
    conv => whnf
    rw [union_ok hgood hun hch]
    refine ⟨rfl,?_⟩
    conv => whnf
    exact ⟨.refl _,.refl _,trivial⟩
theorem KR (l : List NV) (hlen : l.length ≤ 10) (hsz : ∀ n ∈ l,sz n + n.name.length ≤ 60000) : DFun Tryz.prog W0 19 [.sl .none 12 (l.map enc)] (.tup [encTop (unionV l).1,.int .i64 (unionV l).2]):=by
 refine DFun.intro ti_ok Tryz.func19 rfl (by decide +kernel) Tryz.ntmps19 rfl fun Γ => ?_
 refine Tri.seq ?_
 refine Tri.region ti_ok ?_
 conv => whnf
 intro b2
 conv => whnf
 refine Tri.seq ?_
 refine Tri.seq ?_
 refine Tri.region ti_ok ?_
 conv => whnf
 refine Tri.cond _ rfl (fun hc => ?_) (fun hc => ?_)
 ·have hbad : (l.isEmpty || l.any fun n => !valid n) = true:=by
   cases l with
   | nil => rfl
   | cons n0 r => exfalso; simp at hc; omega
  refine Tri.seq ?_
  refine Tri.region ti_ok ?_
  conv => whnf
  refine ⟨rfl,?_⟩
  conv => whnf
  refine Tri.ret ?_
  conv => whnf
  rw [show unionV l = (zeroN,1) from if_pos hbad]
  refine ⟨rfl,?_⟩
  conv => whnf
  exact ⟨zeroD,.refl _,trivial⟩
 ·obtain ⟨n0,r,rfl⟩ : ∃ n0 r,l = n0::r:=by
   cases l with
   | nil => exact absurd hc (by decide)
   | cons n0 r => exact ⟨n0,r,rfl⟩
  refine Tri.skip ?_
  conv => whnf
  refine Tri.seq ?_
  refine Tri.seq ?_
  refine Tri.region ti_ok ?_
  conv => whnf
  refine Tri.block ?_
  refine Tri.loop (α:={ i : Nat // i ≤ (n0::r).length ∧ ∀ j (h : j < (n0::r).length),j < i → valid (n0::r)[j] = true }) (fun x => [(0,.sl .none 12 ((n0::r).map enc)),(2,.box 2 b2 0),(3,.int .i64 0),(4,.int .i64 x.1)]) (fun _ => [(2,.box b2 [.str [],.int .i64 0,.str [],.str [],.int .i64 0,.int .i64 0,.int .i64 0,.int .i64 0,.int .i64 0,.int .i64 0,.nils,.nils])]) (fun x => (n0::r).length - x.1) ⟨0,Nat.zero_le _,fun j _ h => absurd h (Nat.not_lt_zero _)⟩ ⟨.refl _,.refl _,.refl _,.refl _,trivial⟩ ⟨rfl,trivial⟩ ?_
  rintro ⟨i,hi,hvi⟩
  dsimp only at hi hvi ⊢
  refine Tri.seq ?_
  refine Tri.seq ?_
  refine Tri.region ti_ok ?_
  conv => whnf
  refine Tri.cond (decide ((i : Int) < ((n0::r).map enc).length)) rfl (fun hc2 => ?_) (fun hc2 => ?_)
  ·have hia : i < (n0::r).length:=by have:=of_decide_eq_true hc2; rw [List.length_map] at this; omega
   refine Tri.skip ?_
   conv => whnf
   refine Tri.seq ?_
   refine Tri.block ?_
   refine Tri.seq ?_
   refine Tri.region ti_ok ?_
   conv => whnf
   refine ⟨fun _ => by rw [List.length_map]; omega,?_⟩
   conv => whnf
   refine ⟨encTop (n0::r)[i],fun _ => get_kids hia,?_⟩
   conv => whnf
   refine ⟨[encTop (n0::r)[i]],_,fun _ => F20 _ (by have:=hsz _ (List.getElem_mem hia); omega),⟨.refl _,trivial⟩,?_⟩
   conv => whnf
   refine Tri.cond (!valid (n0::r)[i]) rfl (fun hc3 => ?_) (fun hc3 => ?_)
   ·have hbad : ((n0::r).isEmpty || (n0::r).any fun n => !valid n) = true:=by
     rw [Bool.or_eq_true,List.any_eq_true]
     exact .inr ⟨_,List.getElem_mem hia,hc3⟩
    refine Tri.seq ?_
    refine Tri.region ti_ok ?_
    conv => whnf
    refine ⟨rfl,?_⟩
    conv => whnf
    refine Tri.ret ?_
    conv => whnf
    rw [show unionV (n0::r) = (zeroN,1) from if_pos hbad]
    refine ⟨rfl,?_⟩
    conv => whnf
    exact ⟨zeroD,.refl _,trivial⟩
   ·refine Tri.skip ?_
    conv => whnf
    refine Tri.region ti_ok ?_
    conv => whnf
    refine .inl ⟨fun _ => by simp only [InR]; omega,?_⟩
    conv => whnf
    exact ⟨⟨i + 1,hia,fun j h hj => (Nat.lt_succ_iff_lt_or_eq.1 hj).elim (hvi j h) fun e => by subst e; simpa using hc3⟩,by show (n0::r).length - (i + 1) < (n0::r).length - i; omega,⟨.refl _,.refl _,.refl _,.refl _,trivial⟩,rfl,trivial⟩
  ·have hval : ∀ n ∈ n0::r,valid n = true:=fun n hn => by
    obtain ⟨j,hj,rfl⟩:=List.mem_iff_getElem.1 hn
    exact hvi j hj (by have:=of_decide_eq_false hc2; rw [List.length_map] at this; omega)
   have hgood : ¬ ((n0::r).isEmpty || (n0::r).any fun n => !valid n) = true:=fun hb => by
    rw [Bool.or_eq_true,List.any_eq_true] at hb
    rcases hb with hb | ⟨n,hn,hb⟩
    ·cases hb
    ·rw [hval n hn] at hb; cases hb
   have hn0 : sz n0 + n0.name.length ≤ 60000:=hsz n0 (by simp)
   have hv0 : valid n0 = true:=hval n0 (by simp)
   have hrl : r.length ≤ 9:=by simp at hlen; omega
   refine Tri.exit ?_
   conv => whnf
   refine Tri.seq ?_
   refine Tri.region ti_ok ?_
   conv => whnf
   refine ⟨fun _ => by rw [List.length_map]; simp,?_⟩
   conv => whnf
   refine ⟨encTop n0,fun _ => get_kids (l:=n0::r) (i:=0) (by simp),?_⟩
   conv => whnf
   intro b5
   conv => whnf
   refine ⟨rfl,?_⟩
   conv => whnf
   refine Tri.seq ?_
   refine Tri.seq ?_
   refine Tri.region ti_ok ?_
   conv => whnf
   refine Tri.block ?_
   refine Tri.loopK (α:={ x : Nat × NV // x.1 ≤ r.length ∧ (r.take x.1).foldlM (fun a b => mergeV (sz b + 1) a b) n0 = some x.2 ∧ ris x.2 ∧ sz x.2 + x.2.name.length ≤ 60000 * (x.1 + 1) }) (fun x => [(0,.sl .none 12 ((n0::r).map enc)),(2,.box 2 b2 0),(3,.int .i64 0),(5,.box 5 b5 0),(6,.int .i64 ((x.1.1 + 1 : Nat) : Int))])
    (fun x => [(2,.box b2 [.str [],.int .i64 0,.str [],.str [],.int .i64 0,.int .i64 0,.int .i64 0,.int .i64 0,.int .i64 0,.int .i64 0,.nils,.nils]),(5,.box b5 (encTop x.1.2).cells)]) (fun x => r.length - x.1.1) ⟨(0,n0),Nat.zero_le _,rfl,valid_ris hv0,by show _ ≤ 60000 * (0 + 1); omega⟩ [(2,2),(5,5)]
    ⟨⟨.refl _,.refl _,.refl _,.refl _,DLe.of_eq rfl,trivial⟩,rfl,rfl,rfl,rfl,rfl,trivial⟩ ?_
   rintro ⟨⟨i,u⟩,hi,hfold,hr,hsu⟩
   dsimp only at hi hfold hr hsu ⊢
   refine Tri.seq ?_
   refine Tri.seq ?_
   refine Tri.region ti_ok ?_
   conv => whnf
   refine Tri.cond (decide (((i + 1 : Nat) : Int) < ((n0::r).map enc).length)) rfl (fun hc2 => ?_) (fun hc2 => ?_)
   ·have hia : i < r.length:=by have:=of_decide_eq_true hc2; rw [List.length_map,List.length_cons] at this; omega
    have hri : sz r[i] + r[i].name.length ≤ 60000:=hsz _ (by simp [List.getElem_mem])
    have hrv : valid r[i] = true:=hval _ (by simp [List.getElem_mem])
    refine Tri.skip ?_
    conv => whnf
    refine Tri.seq ?_
    refine Tri.block ?_
    refine Tri.seq ?_
    refine Tri.bitsG ti_ok mixed (α:=Nat) (fun y f => [(0,.sl .none 12 ((n0::r).map enc)),(2,.box 2 b2 0),(3,.int .i64 0),(5,.box 5 b5 0),(6,.int .i64 ((i + 1 : Nat) : Int)),(38,bif f 0 then encTop u else .any),(39,bif f 1 then .sl .none 12 ((n0::r).map enc) else .any),(40,bif f 2 then .int .i64 ((i + 1 : Nat) : Int) else .any),(41,bif f 3 then .elm 12 ((n0::r).map enc) (i + 1) 0 else .any),(42,bif f 4 then encTop r[i] else .any),(43,bif f 5 then .tup [encTop ((mergeR (sz r[i] + 1) u r[i]).getD zeroN),.bool (mergeR (sz r[i] + 1) u r[i]).isSome] else .any),(37,bif f 6 then .tup [encTop ((mergeR (sz r[i] + 1) u r[i]).getD zeroN),.bool (mergeR (sz r[i] + 1) u r[i]).isSome] else .any),(44,bif f 7 then encTop ((mergeR (sz r[i] + 1) u r[i]).getD zeroN) else .any),(45,bif f 8 then .bool (mergeR (sz r[i] + 1) u r[i]).isSome else .any),(7,bif f 9 then .box 7 y 0 else .any),(8,bif f 11 then .bool (mergeR (sz r[i] + 1) u r[i]).isSome else .any)])
     (fun y f => look ([(2,.box b2 [.str [],.int .i64 0,.str [],.str [],.int .i64 0,.int .i64 0,.int .i64 0,.int .i64 0,.int .i64 0,.int .i64 0,.nils,.nils]),(5,.box b5 (encTop u).cells)] ++ (bif f 9 then [(7,.box y (bif f 10 then (encTop ((mergeR (sz r[i] + 1) u r[i]).getD zeroN)).cells else [.str [],.int .i64 0,.str [],.str [],.int .i64 0,.int .i64 0,.int .i64 0,.int .i64 0,.int .i64 0,.int .i64 0,.nils,.nils]))] else []))) (by decide +kernel) 0 ?_ ?_ ?_ ?_
    ·exact ⟨.refl _,.refl _,.refl _,.refl _,.refl _,.any _,.any _,.any _,.any _,.any _,.any _,.any _,.any _,.any _,.any _,.any _,trivial⟩
    ·exact SubHF.of (hs:=[(2,.box b2 [.str [],.int .i64 0,.str [],.str [],.int .i64 0,.int .i64 0,.int .i64 0,.int .i64 0,.int .i64 0,.int .i64 0,.nils,.nils]),(5,.box b5 (encTop u).cells)]) ⟨rfl,rfl,trivial⟩
    ·conv => whnf
     refine ⟨fun y f hI => ?_,?_⟩
     ·obtain ⟨f,rfl⟩:=off f 10 (hI.no 10 0 rfl rfl)
      conv => whnf
      refine ⟨trivial,.inl ?_⟩
      conv => whnf
      refine ⟨rfl,?_⟩
      conv => whnf
      exact ⟨y,⟨.refl _,.refl _,.refl _,.refl _,.refl _,.refl _,.refl _,.refl _,.refl _,.refl _,.refl _,.refl _,.refl _,.refl _,.refl _,.refl _,trivial⟩,fun k o h => h⟩
     refine ⟨fun y f hI => ?_,?_⟩
     ·obtain ⟨f,rfl⟩:=off f 10 (hI.no 10 1 rfl rfl)
      conv => whnf
      refine ⟨trivial,.inl ?_⟩
      conv => whnf
      exact ⟨y,⟨.refl _,.refl _,.refl _,.refl _,.refl _,.refl _,.refl _,.refl _,.refl _,.refl _,.refl _,.refl _,.refl _,.refl _,.refl _,.refl _,trivial⟩,fun k o h => h⟩
     refine ⟨fun y f hI => ?_,?_⟩
     ·obtain ⟨f,rfl⟩:=off f 10 (hI.no 10 2 rfl rfl)
      conv => whnf
      refine ⟨trivial,.inl ?_⟩
      conv => whnf
      exact ⟨y,⟨.refl _,.refl _,.refl _,.refl _,.refl _,.refl _,.refl _,.refl _,.refl _,.refl _,.refl _,.refl _,.refl _,.refl _,.refl _,.refl _,trivial⟩,fun k o h => h⟩
     refine ⟨fun y f hI => ?_,?_⟩
     ·obtain ⟨f,rfl⟩:=off f 10 (hI.no 10 3 rfl rfl)
      conv => whnf
      refine ⟨trivial,.inl ?_⟩
      conv => whnf
      refine ⟨fun _ => by rw [List.length_map,List.length_cons]; omega,?_⟩
      conv => whnf
      exact ⟨y,⟨.refl _,.refl _,.refl _,.refl _,.refl _,.refl _,.refl _,.refl _,.refl _,.refl _,.refl _,.refl _,.refl _,.refl _,.refl _,.refl _,trivial⟩,fun k o h => h⟩
     refine ⟨fun y f hI => ?_,?_⟩
     ·obtain ⟨f,rfl⟩:=off f 10 (hI.no 10 4 rfl rfl)
      conv => whnf
      refine ⟨trivial,.inl ?_⟩
      conv => whnf
      refine ⟨encTop r[i],fun _ => get_kids (l:=n0::r) (i:=i + 1) (by simp; omega),?_⟩
      conv => whnf
      exact ⟨y,⟨.refl _,.refl _,.refl _,.refl _,.refl _,.refl _,.refl _,.refl _,.refl _,.refl _,.refl _,.refl _,.refl _,.refl _,.refl _,.refl _,trivial⟩,fun k o h => h⟩
     refine ⟨fun y f hI => ?_,?_⟩
     ·obtain ⟨f,rfl⟩:=off f 10 (hI.no 10 5 rfl rfl)
      conv => whnf
      refine ⟨trivial,.inl ?_⟩
      conv => whnf
      refine ⟨[encTop u,encTop r[i]],_,fun _ => K46 (sz r[i] + 1) u r[i] (by omega) (by omega),⟨.refl _,.refl _,trivial⟩,?_⟩
      conv => whnf
      exact ⟨y,⟨.refl _,.refl _,.refl _,.refl _,.refl _,.refl _,.refl _,.refl _,.refl _,.refl _,.refl _,.refl _,.refl _,.refl _,.refl _,.refl _,trivial⟩,fun k o h => h⟩
     refine ⟨fun y f hI => ?_,?_⟩
     ·obtain ⟨f,rfl⟩:=off f 10 (hI.no 10 6 rfl rfl)
      conv => whnf
      refine ⟨trivial,.inl ?_⟩
      conv => whnf
      exact ⟨y,⟨.refl _,.refl _,.refl _,.refl _,.refl _,.refl _,.refl _,.refl _,.refl _,.refl _,.refl _,.refl _,.refl _,.refl _,.refl _,.refl _,trivial⟩,fun k o h => h⟩
     refine ⟨fun y f hI => ?_,?_⟩
     ·obtain ⟨f,rfl⟩:=off f 10 (hI.no 10 7 rfl rfl)
      conv => whnf
      refine ⟨trivial,.inl ?_⟩
      conv => whnf
      exact ⟨y,⟨.refl _,.refl _,.refl _,.refl _,.refl _,.refl _,.refl _,.refl _,.refl _,.refl _,.refl _,.refl _,.refl _,.refl _,.refl _,.refl _,trivial⟩,fun k o h => h⟩
     refine ⟨fun y f hI => ?_,?_⟩
     ·conv => whnf
      refine ⟨trivial,.inl ?_⟩
      conv => whnf
      exact ⟨y,⟨.refl _,.refl _,.refl _,.refl _,.refl _,.refl _,.refl _,.refl _,.refl _,.refl _,.refl _,.refl _,.refl _,.refl _,.refl _,.refl _,trivial⟩,fun k o h => h⟩
     refine ⟨fun y f hI => ?_,?_⟩
     ·obtain ⟨f,rfl⟩:=off f 10 (hI.no 10 9 rfl rfl)
      conv => whnf
      refine ⟨trivial,.inl ?_⟩
      conv => whnf
      intro nb
      conv => whnf
      exact ⟨nb,⟨.refl _,.refl _,.refl _,.refl _,.refl _,.refl _,.refl _,.refl _,.refl _,.refl _,.refl _,.refl _,.refl _,.refl _,.refl _,.refl _,trivial⟩,SubHF.of (hs:=[(2,.box b2 [.str [],.int .i64 0,.str [],.str [],.int .i64 0,.int .i64 0,.int .i64 0,.int .i64 0,.int .i64 0,.int .i64 0,.nils,.nils]),(5,.box b5 (encTop u).cells),(7,.box nb [.str [],.int .i64 0,.str [],.str [],.int .i64 0,.int .i64 0,.int .i64 0,.int .i64 0,.int .i64 0,.int .i64 0,.nils,.nils])]) ⟨rfl,rfl,rfl,trivial⟩⟩
     refine ⟨fun y f hI => ?_,?_⟩
     ·conv => whnf
      refine ⟨trivial,.inl ?_⟩
      conv => whnf
      refine ⟨rfl,?_⟩
      conv => whnf
      exact ⟨y,⟨.refl _,.refl _,.refl _,.refl _,.refl _,.refl _,.refl _,.refl _,.refl _,.refl _,.refl _,.refl _,.refl _,.refl _,.refl _,.refl _,trivial⟩,SubHF.of (hs:=[(2,.box b2 [.str [],.int .i64 0,.str [],.str [],.int .i64 0,.int .i64 0,.int .i64 0,.int .i64 0,.int .i64 0,.int .i64 0,.nils,.nils]),(5,.box b5 (encTop u).cells),(7,.box y (encTop ((mergeR (sz r[i] + 1) u r[i]).getD zeroN)).cells)]) ⟨rfl,rfl,rfl,trivial⟩⟩
     refine ⟨fun y f hI => ?_,?_⟩
     ·conv => whnf
      refine ⟨trivial,.inl ?_⟩
      conv => whnf
      exact ⟨y,⟨.refl _,.refl _,.refl _,.refl _,.refl _,.refl _,.refl _,.refl _,.refl _,.refl _,.refl _,.refl _,.refl _,.refl _,.refl _,.refl _,trivial⟩,fun k o h => h⟩
     exact trivial
    ·intro y f hfl
     conv => whnf
     refine Tri.forgetG [(0,.sl .none 12 ((n0::r).map enc)),(2,.box 2 b2 0),(3,.int .i64 0),(5,.box 5 b5 0),(6,.int .i64 ((i + 1 : Nat) : Int)),(7,.box 7 y 0),(8,.bool (mergeR (sz r[i] + 1) u r[i]).isSome)] (look [(2,.box b2 [.str [],.int .i64 0,.str [],.str [],.int .i64 0,.int .i64 0,.int .i64 0,.int .i64 0,.int .i64 0,.int .i64 0,.nils,.nils]),(5,.box b5 (encTop u).cells),(7,.box y (encTop ((mergeR (sz r[i] + 1) u r[i]).getD zeroN)).cells)]) (.same ⟨.refl _,.refl _,.refl _,.refl _,.refl _,?_,?_,trivial⟩ (SubHF.of ⟨rfl,rfl,?_,trivial⟩)) ?_
     ·show DLe (bif f 9 then _ else _) _
      rw [hfl 9 (by decide +kernel)]; exact .refl _
     ·show DLe (bif f 11 then _ else _) _
      rw [hfl 11 (by decide +kernel)]; exact .refl _
     ·show look (([(2,_),(5,_)] : List (Nat × HObj)) ++ (bif f 9 then _ else _)) 7 = _
      rw [hfl 9 (by decide +kernel),hfl 10 (by decide +kernel)]; rfl
     conv => whnf
     refine Tri.seq ?_
     refine Tri.seq ?_
     refine Tri.region ti_ok ?_
     conv => whnf
     refine Tri.cond _ rfl (fun hc3 => ?_) (fun hc3 => ?_)
     ·have hm : mergeR (sz r[i] + 1) u r[i] = none:=by simpa using hc3
      rw [mergeR_eq _ _ _ hr (valid_ris hrv)] at hm
      have hun : unionF (n0::r) = none:=foldM_none hia hfold hm
      refine Tri.seq ?_
      refine Tri.region ti_ok ?_
      conv => whnf
      refine ⟨rfl,?_⟩
      conv => whnf
      refine Tri.ret ?_
      conv => whnf
      rw [union_none hgood hun]
      refine ⟨rfl,?_⟩
      conv => whnf
      exact ⟨zeroD,.refl _,trivial⟩
     ·obtain ⟨y,hy⟩ : ∃ y,mergeR (sz r[i] + 1) u r[i] = some y:=Option.isSome_iff_exists.1 (by simpa using hc3)
      rw [hy]
      rw [mergeR_eq _ _ _ hr (valid_ris hrv)] at hy
      obtain ⟨g1,g2,g3⟩:=merge_step hr (valid_ris hrv) hy
      have hsy : sz y + y.name.length ≤ 60000 * (i + 1 + 1):=by rw [g2]; omega
      refine Tri.skip ?_
      conv => whnf
      refine Tri.region ti_ok ?_
      conv => whnf
      refine ⟨rfl,?_⟩
      conv => whnf
      refine ⟨rfl,?_⟩
      conv => whnf
      refine Tri.region ti_ok ?_
      conv => whnf
      refine .inl ⟨fun _ => by simp only [InR]; omega,?_⟩
      conv => whnf
      exact ⟨⟨(i + 1,y),hia,foldM_next hia hfold hy,g1,hsy⟩,[(2,2),(5,5)],by show r.length - (i + 1) < r.length - i; omega,⟨.refl _,.refl _,.refl _,.refl _,.refl _,trivial⟩,rfl,rfl,rfl,rfl,rfl,trivial⟩
   ·have hie : i = r.length:=by have:=of_decide_eq_false hc2; rw [List.length_map,List.length_cons] at this; omega
    have hun : unionF (n0::r) = some u:=by rw [hie,List.take_length] at hfold; exact hfold
    refine Tri.exit ?_
    conv => whnf
    refine Tri.seq ?_
    refine Tri.seq ?_
    refine Tri.region ti_ok ?_
    conv => whnf
    refine ⟨rfl,?_⟩
    conv => whnf
    refine ⟨[encTop u],_,fun _ => F43 u (by omega),⟨.refl _,trivial⟩,?_⟩
    conv => whnf
    refine Tri.seq ?_
    refine Tri.region ti_ok ?_
    conv => whnf
    refine Tri.cond _ rfl (fun hc3 => ?_) (fun hc3 => ?_)
    ·have hch : ¬ (check u).2 = 0:=by simpa using hc3
     refine Tri.seq ?_
     refine Tri.region ti_ok ?_
     conv => whnf
     refine ⟨rfl,?_⟩
     conv => whnf
     refine Tri.ret ?_
     conv => whnf
     rw [union_err hgood hun hch]
     refine ⟨rfl,?_⟩
     conv => whnf
     exact ⟨zeroD,.refl _,trivial⟩
    ·have hch : (check u).2 = 0:=by simpa using hc3
     refine Tri.skip ?_
     conv => whnf
     refine Tri.seq ?_
     refine Tri.region ti_ok ?_
     conv => whnf
     refine ⟨rfl,?_⟩
     conv => whnf
     refine ⟨rfl,?_⟩
     conv => whnf
     refine Tri.ret ?_
     conv => whnf
     rw [union_ok hgood hun hch]
     refine ⟨rfl,?_⟩
     conv => whnf
     exact ⟨.refl _,.refl _,trivial⟩
end Go.Tame.V
/- Contracts: Find; the law DiscsetUnions,given its example. By program (mk.py). -/
namespace Go.Tame.V
open Go Go.Proofs
variable {W0 : World}
set_option maxRecDepth 10000
set_option linter.unusedVariables false
set_option linter.unusedSimpArgs false

/-- Get,of any tree. -/
def getV (n : NV) (s : List UInt8) : NV × Int:=if valid n = true then getR n s else (zeroN,1)
def hasG (s : List UInt8) (n : NV) : Bool:=(getV n s).2 == 0

theorem K35i (hL : LibOk W0) (s : List UInt8) (n : NV) (hn : Fits n) (hv : valid n = false) : DFun Tryz.prog W0 35 [encTop n,.str s] (.tup [encTop zeroN,.int .i64 1]):=by
 refine DFun.intro ti_ok Tryz.func35 rfl (by decide +kernel) Tryz.ntmps35 rfl fun Γ => ?_
 refine Tri.seq ?_
 refine Tri.region ti_ok ?_
 conv => whnf
 intro b2
 conv => whnf
 intro b4
 conv => whnf
 refine Tri.seq ?_
 refine Tri.seq ?_
 refine Tri.region ti_ok ?_
 conv => whnf
 refine ⟨rfl,?_⟩
 conv => whnf
 refine ⟨[encTop n],_,fun _ => F39 hL n (by unfold Fits at hn; omega),⟨.refl _,trivial⟩,?_⟩
 conv => whnf
 refine Tri.cond _ rfl (fun hc => ?_) (fun hc => ?_)
 ·refine Tri.seq ?_
  refine Tri.region ti_ok ?_
  conv => whnf
  refine ⟨rfl,?_⟩
  conv => whnf
  refine Tri.ret ?_
  conv => whnf
  refine ⟨rfl,?_⟩
  conv => whnf
  exact ⟨zeroD,.refl _,trivial⟩
 ·exact absurd hc (by rw [hv]; decide)
theorem K50i (s : List UInt8) (n : NV) (hn : Fits n) (hv : valid n = false) : DFun Tryz.prog W0 50 [encTop n,.str s] (.tup [encTop zeroN,.int .i64 1]):=by
 refine DFun.intro ti_ok Tryz.func50 rfl (by decide +kernel) Tryz.ntmps50 rfl fun Γ => ?_
 refine Tri.seq ?_
 refine Tri.region ti_ok ?_
 conv => whnf
 intro b2
 conv => whnf
 intro b4
 conv => whnf
 refine Tri.seq ?_
 refine Tri.seq ?_
 refine Tri.region ti_ok ?_
 conv => whnf
 refine ⟨rfl,?_⟩
 conv => whnf
 refine ⟨[encTop n],_,fun _ => F20 n (by unfold Fits at hn; omega),⟨.refl _,trivial⟩,?_⟩
 conv => whnf
 refine Tri.cond _ rfl (fun hc => ?_) (fun hc => ?_)
 ·refine Tri.seq ?_
  refine Tri.region ti_ok ?_
  conv => whnf
  refine ⟨rfl,?_⟩
  conv => whnf
  refine Tri.ret ?_
  conv => whnf
  refine ⟨rfl,?_⟩
  conv => whnf
  exact ⟨zeroD,.refl _,trivial⟩
 ·exact absurd hc (by rw [hv]; decide)
theorem K35 (hL : LibOk W0) (s : List UInt8) (hs : s.length < 1000000000) (n : NV) (hn : Fits n) : DFun Tryz.prog W0 35 [encTop n,.str s] (.tup [encTop (getV n s).1,.int .i64 (getV n s).2]):=by
 unfold getV
 cases hv : valid n with
 | true => rw [if_pos rfl]; exact G66 hL s hs n hn hv
 | false => rw [if_neg (by simp)]; exact K35i hL s n hn hv
theorem K50 (s : List UInt8) (hs : s.length < 1000000000) (n : NV) (hn : Fits n) : DFun Tryz.prog W0 50 [encTop n,.str s] (.tup [encTop (getV n s).1,.int .i64 (getV n s).2]):=by
 unfold getV
 cases hv : valid n with
 | true => rw [if_pos rfl]; exact F21 n s hn hv hs
 | false => rw [if_neg (by simp)]; exact K50i s n hn hv
theorem K49 (hL : LibOk W0) (s : List UInt8) (hs : s.length < 1000000000) (n : NV) (hn : Fits n) : DFun Tryz.prog W0 49 [encTop n,.elm 1 [.str s] 0 0] (.bool (hasG s n)):=by
 refine DFun.intro ti_ok Tryz.func49 rfl (by decide +kernel) Tryz.ntmps49 rfl fun Γ => ?_
 refine Tri.seq ?_
 refine Tri.region ti_ok ?_
 conv => whnf
 intro b2
 conv => whnf
 refine Tri.seq ?_
 refine Tri.region ti_ok ?_
 conv => whnf
 refine ⟨rfl,?_⟩
 conv => whnf
 refine ⟨.str s,fun _ => rfl,?_⟩
 conv => whnf
 refine ⟨[encTop n,.str s],_,fun _ => K35 hL s hs n hn,⟨.refl _,.refl _,trivial⟩,?_⟩
 conv => whnf
 intro b4
 conv => whnf
 refine ⟨rfl,?_⟩
 conv => whnf
 refine Tri.seq ?_
 refine Tri.region ti_ok ?_
 conv => whnf
 refine Tri.ret ?_
 conv => whnf
 exact .refl _
theorem K20f (hL : LibOk W0) (l : List NV) (hl : l.length < 1000000000) (hf : ∀ n ∈ l,Fits n) (s : List UInt8) (hs : s.length < 1000000000) : DFun Tryz.prog W0 20 [.sl .none 12 (l.map enc),.str s] (.int .i64 (firstIdx (hasG s) l)):=by
 refine DFun.intro ti_ok Tryz.func20 rfl (by decide +kernel) Tryz.ntmps20 rfl fun Γ => ?_
 refine Tri.seq ?_
 refine Tri.region ti_ok ?_
 conv => whnf
 intro b3
 conv => whnf
 refine Tri.boxElm 3 3 (.str s) rfl rfl rfl rfl ?_
 refine Tri.seq ?_
 refine Tri.region ti_ok ?_
 conv => whnf
 refine ⟨[.sl .none 12 (l.map enc),.fn (.func 49) [] [.elm 1 [.str s] 0 0]],_,fun _ => G96g l hl 49 [.elm 1 [.str s] 0 0] (hasG s) (fun k hk => K49 hL s hs k (hf k hk)),⟨.refl _,.refl _,trivial⟩,?_⟩
 conv => whnf
 refine Tri.ret ?_
 conv => whnf
 exact .refl _
theorem K21f (l : List NV) (hl : l.length < 1000000000) (hf : ∀ n ∈ l,Fits n) (s : List UInt8) (hs : s.length < 1000000000) : DFun Tryz.prog W0 21 [.sl .none 12 (l.map enc),.str s] (.int .i64 (firstIdx (hasG s) l)):=by
 refine DFun.intro ti_ok Tryz.func21 rfl (by decide +kernel) Tryz.ntmps21 rfl fun Γ => ?_
 refine Tri.seq ?_
 refine Tri.region ti_ok ?_
 conv => whnf
 refine Tri.seq ?_
 refine Tri.seq ?_
 refine Tri.region ti_ok ?_
 conv => whnf
 refine Tri.block ?_
 refine Tri.loop (α:={ i : Nat // i ≤ l.length ∧ ∀ j (h : j < l.length),j < i → hasG s l[j] = false }) (fun x => [(0,.sl .none 12 (l.map enc)),(1,.str s),(4,.int .i64 0),(5,.int .i64 x.1)]) (fun _ => []) (fun x => l.length - x.1) ⟨0,Nat.zero_le _,fun j _ h => absurd h (Nat.not_lt_zero _)⟩ ⟨.refl _,.refl _,.refl _,.refl _,trivial⟩ trivial ?_
 rintro ⟨i,hi,hp⟩
 dsimp only at hi hp ⊢
 refine Tri.seq ?_
 refine Tri.seq ?_
 refine Tri.region ti_ok ?_
 conv => whnf
 refine Tri.cond (decide ((i : Int) < (l.map enc).length)) rfl (fun hc => ?_) (fun hc => ?_)
 ·have hia : i < l.length:=by have:=of_decide_eq_true hc; rw [List.length_map] at this; omega
  refine Tri.skip ?_
  conv => whnf
  refine Tri.seq ?_
  refine Tri.block ?_
  refine Tri.seq ?_
  refine Tri.region ti_ok ?_
  conv => whnf
  refine ⟨fun _ => by rw [List.length_map]; omega,?_⟩
  conv => whnf
  refine ⟨encTop l[i],fun _ => get_kids hia,?_⟩
  conv => whnf
  refine ⟨[encTop l[i],.str s],_,fun _ => K50 s hs l[i] (hf _ (List.getElem_mem hia)),⟨.refl _,.refl _,trivial⟩,?_⟩
  conv => whnf
  intro b6
  conv => whnf
  refine ⟨rfl,?_⟩
  conv => whnf
  refine Tri.seq ?_
  refine Tri.region ti_ok ?_
  conv => whnf
  refine Tri.cond (hasG s l[i]) rfl (fun hc2 => ?_) (fun hc2 => ?_)
  ·refine Tri.seq ?_
   refine Tri.region ti_ok ?_
   conv => whnf
   refine Tri.ret ?_
   conv => whnf
   exact DLe.of_eq (congrArg (D.int .i64) (firstIdx_some (p:=hasG s) hia hp hc2).symm)
  ·refine Tri.skip ?_
   conv => whnf
   refine Tri.region ti_ok ?_
   conv => whnf
   refine .inl ⟨fun _ => by simp only [InR]; omega,?_⟩
   conv => whnf
   exact ⟨⟨i + 1,hia,fun j h hj => (Nat.lt_succ_iff_lt_or_eq.1 hj).elim (hp j h) fun e => by subst e; exact hc2⟩,by show l.length - (i + 1) < l.length - i; omega,⟨.refl _,.refl _,.refl _,.refl _,trivial⟩,trivial⟩
 ·have hall : ∀ j (h : j < l.length),hasG s l[j] = false:=fun j h => hp j h (by have:=of_decide_eq_false hc; rw [List.length_map] at this; omega)
  refine Tri.exit ?_
  conv => whnf
  refine Tri.seq ?_
  refine Tri.region ti_ok ?_
  conv => whnf
  refine Tri.ret ?_
  conv => whnf
  exact DLe.of_eq (congrArg (D.int .i64) (firstIdx_none (p:=hasG s) hall).symm)

theorem szS_ssize : ∀ l : List SV,szS l ≤ ssize l
 | [] => by simp [ssize,szS]
 | s::r => by have:=szS_ssize r; simp only [ssize,szS]; omega
mutual
theorem sz_tsize : ∀ n : NV,sz n + 2 * n.name.length + 2 ≤ 2 * tsize n
 | .mk a b c d e f g h i j ks ss => by have:=szL_tsize ks; have:=szS_ssize ss; simp only [tsize,sz]; omega
theorem szL_tsize : ∀ l : List NV,szL l ≤ 2 * tsizeL l
 | [] => by simp [szL]
 | n::r => by have:=sz_tsize n; have:=szL_tsize r; simp only [tsizeL,szL]; omega
end
theorem unionF_sz : ∀ (r : List NV) (n u : NV) (c : Nat),ris n → (∀ k ∈ r,ris k ∧ sz k ≤ 60000) → sz n ≤ c → r.foldlM (fun a b => mergeV (sz b + 1) a b) n = some u → sz u ≤ c + 60000 * r.length
 | [],n,u,c,_,_,hc,h => by simp at h; subst h; simpa using hc
 | k::r,n,u,c,hn,hr,hc,h => by
  rw [List.foldlM_cons] at h
  obtain ⟨m,hm,h⟩:=Option.bind_eq_some_iff.1 h
  obtain ⟨h1,h2⟩:=hr k (by simp)
  obtain ⟨g1,_,g3⟩:=merge_step hn h1 hm
  have:=unionF_sz r m u (c + 60000) g1 (fun x hx => hr x (by simp [hx])) (by omega) h
  simp only [List.length_cons]; omega
theorem unionV_sz {l : List NV} (hlen : l.length ≤ 10) (hsz : ∀ n ∈ l,sz n + n.name.length ≤ 60000) : sz (unionV l).1 ≤ 600002:=by
 have hz : sz zeroN = 2:=rfl
 unfold unionV
 split
 ·dsimp only; omega
 ·rename_i hg
  cases l with
  | nil => exact absurd rfl hg
  | cons n r =>
   have hval : ∀ x ∈ n::r,valid x = true:=fun x hx => by
    cases hv : valid x with
    | true => rfl
    | false =>
     refine absurd ?_ hg
     rw [Bool.or_eq_true,List.any_eq_true]
     exact .inr ⟨x,hx,by rw [hv]; rfl⟩
   have h0:=hsz n (by simp)
   have hrl : r.length ≤ 9:=by simp at hlen; omega
   split
   ·dsimp only; omega
   ·rename_i u hu
    have:=unionF_sz r n u 60000 (valid_ris (hval n (by simp))) (fun k hk => ⟨valid_ris (hval k (by simp [hk])),by have:=hsz k (by simp [hk]); omega⟩) (by omega) hu
    split <;> dsimp only <;> omega

theorem K4 (hL : LibOk W0) (hA : DFun Tryz.prog W0 6 [] (.bool true)) (l : List NV) (s : List UInt8) (hl : l.length < 1000000000) (hf : ∀ n ∈ l,Fits n) (hs : s.length < 1000000000) : DFun Tryz.prog W0 4 [.sl .none 12 (l.map enc),.str s] (.bool true):=by
 refine DFun.intro ti_ok Tryz.func4 rfl (by decide +kernel) Tryz.ntmps4 rfl fun Γ => ?_
 refine Tri.seq ?_
 refine Tri.region ti_ok ?_
 conv => whnf
 refine Tri.seq ?_
 refine Tri.seq ?_
 refine Tri.region ti_ok ?_
 conv => whnf
 refine ⟨[],_,fun _ => hA,trivial,?_⟩
 conv => whnf
 refine Tri.cond _ rfl (fun hc => ?_) (fun hc => ?_)
 ·exact absurd hc (by decide)
 ·refine Tri.skip ?_
  conv => whnf
  refine Tri.seq ?_
  refine Tri.seq ?_
  refine Tri.region ti_ok ?_
  conv => whnf
  refine ⟨[.sl .none 12 (l.map enc),.int .i64 30000],_,fun _ => K17 l 30000 hl hf,⟨.refl _,.refl _,trivial⟩,?_⟩
  conv => whnf
  refine ⟨fun h => h,?_⟩
  conv => whnf
  refine ⟨fun h => h,?_⟩
  conv => whnf
  refine ⟨fun h0 h => by first | exact h | (rw [h]; rfl) | (rw [h0,h]; rfl),?_⟩
  conv => whnf
  refine Tri.cond _ rfl (fun hc => ?_) (fun hc => ?_)
  ·refine Tri.seq ?_
   refine Tri.region ti_ok ?_
   conv => whnf
   refine Tri.ret ?_
   conv => whnf
   exact .refl _
  ·have hfew : (fewT l 30000 && decide (l.length ≤ 10)) = true:=by
    cases h : (fewT l 30000 && decide (l.length ≤ 10)) with
    | true => rfl
    | false => rw [h] at hc; cases hc
   rw [Bool.and_eq_true,decide_eq_true_eq] at hfew
   obtain ⟨hft,hlen⟩:=hfew
   have hsz : ∀ n ∈ l,sz n + n.name.length ≤ 60000:=fun n hn => by
    have h1:=List.all_eq_true.1 hft n hn
    unfold few1 at h1
    rw [Bool.and_eq_true,decide_eq_true_eq] at h1
    have h2:=sz_tsize n
    omega
   have hus:=unionV_sz hlen hsz
   refine Tri.skip ?_
   conv => whnf
   refine Tri.seq ?_
   refine Tri.region ti_ok ?_
   conv => whnf
   refine ⟨[.sl .none 12 (l.map enc)],_,fun _ => KU hL l hlen hsz,⟨.refl _,trivial⟩,?_⟩
   conv => whnf
   intro b5
   conv => whnf
   refine ⟨rfl,?_⟩
   conv => whnf
   refine Tri.seq ?_
   refine Tri.region ti_ok ?_
   conv => whnf
   refine ⟨[.sl .none 12 (l.map enc)],_,fun _ => KR l hlen hsz,⟨.refl _,trivial⟩,?_⟩
   conv => whnf
   intro b7
   conv => whnf
   refine ⟨rfl,?_⟩
   conv => whnf
   refine Tri.seq ?_
   refine Tri.region ti_ok ?_
   conv => whnf
   refine ⟨rfl,?_⟩
   conv => whnf
   refine ⟨rfl,?_⟩
   conv => whnf
   refine ⟨[encTop (unionV l).1,encTop (unionV l).1],_,fun _ => F25 (sz (unionV l).1 + 1) _ _ (by omega) (by omega),⟨.refl _,.refl _,trivial⟩,?_⟩
   conv => whnf
   refine ⟨fun h => h,?_⟩
   conv => whnf
   refine ⟨fun h => h,?_⟩
   conv => whnf
   refine ⟨fun h0 h => by first | exact h | (rw [h]; rfl) | (rw [h0,h]; rfl),?_⟩
   conv => whnf
   refine ⟨fun h => h,?_⟩
   conv => whnf
   refine ⟨fun h => h,?_⟩
   conv => whnf
   refine ⟨[.sl .none 12 (l.map enc),.str s],_,fun h => K20f hL l hl hf s hs,⟨.refl _,.refl _,trivial⟩,?_⟩
   conv => whnf
   refine ⟨fun h => h,?_⟩
   conv => whnf
   refine ⟨fun h => h,?_⟩
   conv => whnf
   refine ⟨[.sl .none 12 (l.map enc),.str s],_,fun h => K21f l hl hf s hs,⟨.refl _,.refl _,trivial⟩,?_⟩
   conv => whnf
   refine ⟨fun h => h,?_⟩
   conv => whnf
   refine ⟨fun h => h,?_⟩
   conv => whnf
   refine ⟨fun h0 h => by first | exact h | (rw [h]; rfl) | (rw [h0,h]; rfl),?_⟩
   conv => whnf
   refine Tri.ret ?_
   conv => whnf
   refine DLe.of_eq (congrArg D.bool (a₂:=true) ?_)
   simp [eqT_rfl]
end Go.Tame.V
