/- Proved: the statement LayoutShares in its second form (Upto): for all arguments of bulk at most 1048576 the law returns true and its arguments read as before. Conditions: the row's own (bulk at most 1048576). -/
import Derived.Test.YtfnpcdbnoggloaaGreatDoorL9
set_option linter.unnecessarySimpa false
set_option linter.unusedSimpArgs false
set_option linter.unusedVariables false
set_option maxRecDepth 100000
set_option maxHeartbeats 16000000
namespace Go.Proofs.YtfnpcdbnoggloaaGreatDoor.shares46
open Go Go.bR Go.bR.ck Go.RowKit Go.ChangeShapes Go.Deep Go.WideShapes Go.ChangeAt Go.ChangeMaps
set_option maxRecDepth 100000
theorem seatTie1: Tryz.prog.laidByTextLater [("math/bits.deBruijn32tab",Rows.laid_math_bits_deBruijn32tab),("math/bits.deBruijn64tab",Rows.laid_math_bits_deBruijn64tab),("internal/strconv.uint64pow10",Rows.laid_internal_strconv_uint64pow10),("unicode/utf8.acceptRanges",Rows.laid_unicode_utf8_acceptRanges)] [.data,.data,.data,.data] true :=
  Program.laidByTextLater_by_one 34 8 65 (by kernel_rfl) (by kernel_rfl) (by kernel_rfl) (by kernel_rfl) (by kernel_rfl) (by kernel_rfl) (λ_ _ => by kernel_rfl)
theorem pin_laid_unicode_utf8_first: Tryz.pinned.checked.prog.pinnedFits "unicode/utf8.first" = true := by kernel_rfl
theorem noOwnUnsafe: Tryz.pinned.checked.prog.headLifts.contains "ownunsafe" = false := by kernel_rfl
theorem fits1: Tryz.pinned.checked.prog.listedFits [("math/bits.deBruijn32tab",Rows.laid_math_bits_deBruijn32tab),("math/bits.deBruijn64tab",Rows.laid_math_bits_deBruijn64tab),("internal/strconv.uint64pow10",Rows.laid_internal_strconv_uint64pow10),("unicode/utf8.acceptRanges",Rows.laid_unicode_utf8_acceptRanges),("unicode/utf8.first",Rows.laid_unicode_utf8_first)] = true := by
  unfold Program.listedFits
  rw[noOwnUnsafe]
  kernel_rfl
theorem tie: Tryz.prog.laidByTextLater [("math/bits.deBruijn32tab",Rows.laid_math_bits_deBruijn32tab),("math/bits.deBruijn64tab",Rows.laid_math_bits_deBruijn64tab),("internal/strconv.uint64pow10",Rows.laid_internal_strconv_uint64pow10),("unicode/utf8.acceptRanges",Rows.laid_unicode_utf8_acceptRanges)] [.data,.data,.data,.data] true :=
  Program.laidByTextLater.sub seatTie1 ["math/bits.deBruijn32tab", "math/bits.deBruijn64tab", "internal/strconv.uint64pow10", "unicode/utf8.acceptRanges"] (by kernel_rfl) (by kernel_rfl)
theorem layoutSharesUpto_row_tie: Rows.layoutSharesUptoRow.laidByTextAt .later Tryz.pinned [.data,.data,.data,.data,.pinned] true :=
  OpenClaim.laidByTextAt_pinned rfl rfl tie rfl rfl rfl rfl (λy hy _e => by
    simp only[Rows.layoutSharesUptoRow,List.zip_cons_cons,List.zip_nil_right,List.mem_cons,List.mem_nil_iff,or_false]at hy
    rcases hy with rfl | rfl | rfl | rfl | rfl
    · cases _e
    · cases _e
    · cases _e
    · cases _e
    · exact⟨pin_laid_unicode_utf8_first,by kernel_rfl⟩) fits1
theorem aq3(H : Type)(enc : TypeId × Value->H)(bq : World)(base : Nat)(args : Array Value)(ds da : List (DataW H))(Rw : List MemPlace)
    (rL : ∀(j : Nat) t v,Tryz.f6.params[j]? = some t->args[j]? = some v->Value.okWide Tryz.prog bq .any base t v)
    (Ae : DataW.Whole enc Tryz.prog Tryz.f6.params.toList Rows.layoutSharesSpec.vars false bq args.toList ds da Rw) (Rx : Rows.uptoSmall H (ds ++ da) = true) (a1 : laidMetH Tryz.prog Rows.layoutSharesRow.laid bq) (je : bq.ShapedOpen Tryz.prog) :
    Calls Tryz.prog 6 args bq λe iW => ∃v,e = .returned v/\Rows.layoutSharesSpec.post enc Tryz.prog Tryz.f6 false true false false bq args v iW := by
  have abe := Ae
  obtain⟨p,q,abf,uT,rfl,Mn,kW⟩ := Ae
  have abg := afm a1 je
  have lm : DataW.TrodAll enc Tryz.prog bq 0 (λ_ => true) true Tryz.f6.params.toList args.toList ds p := abf
  rw[Tryz.params6]at lm rL
  obtain⟨rfl,rfl⟩ := trodVars_none uT
  have PK : Tryz.f6.params.toList = [44,34,27,3] := by rw[Tryz.params6]
  obtain⟨v0,atr,eX,ats,sI,mV,kJ,rfl,rfl,h0,gz⟩ := trodAll_cons lm
  obtain⟨jk,l3,d1,att,qK,ta,rfl,rfl,rfl,h1,lh⟩ := trodAll_cons gz
  obtain⟨v2,xz,d2,atu,j3,q1,rfl,rfl,rfl,A,ms⟩ := trodAll_cons lh
  obtain⟨v3,sh,d3,atv,HW,yR,rfl,rfl,rfl,Z,oe⟩ := trodAll_cons ms
  obtain⟨rfl,rfl,rfl⟩ := trodAll_nil oe
  obtain rfl : args = #[v0,jk,v2,v3] := by cases args;simp_all
  have tR := of_decide_eq_true Rx
  simp only[List.append_nil,Rows.uptoBulkAll]at tR
  obtain⟨h5,nA,Gj⟩ := afj (rL 0 44 v0 rfl rfl) h0
  have q8 : fr h5 := by unfold fr;simp only[hX]at Gj;omega
  obtain⟨cN,m1,g1,ta⟩ := afx (rL 1 34 jk rfl rfl) h1
  have nZ : cN.name.length + cN.set.length + cN.pl.length + cN.pm.length + cN.lP.length < 1000000000 := by simp only[hX]at g1;omega
  have dC : cN.gL.length < 1000000 := by simp only[hX]at ta;omega
  obtain⟨n2,yB,fe,q1⟩ := afA (rL 2 27 v2 rfl rfl) A
  have cx : n2.length < 1000000 := by simp only[hX]at fe;omega
  obtain⟨nu,rfl,rfl,rfl,alX⟩ := open_int Tryz.underlying3 (rL 3 3 v3 rfl rfl) Z
  refine(afk (aqT abg (aqh abg) h5 cN n2 nu q8 nZ cx q1 dC) (.cons nA (.cons m1 (.cons yB (.cons (.int _ _) (.nil _ _)))))).mono λe iW ⟨ao,I⟩ => ?_
  subst ao
  have bf : ∀x ∈ sI ++ (qK ++ (j3 ++ ([] ++ []))),x.block < bq.heap.size := λx F => by simpa using abe.lt x (by simpa using F)
  refine⟨_,rfl,_,_,_,[],sI ++ (qK ++ (j3 ++ ([] ++ []))),[],abe,?_,?_,rfl,I.frame _,λh => by cases h⟩
  · exact trodAll_cons_mk (shut_bool Tryz.underlying4 _) trodAll_mk0
  · exact U2 I (by rw[PK];intro t av;simp only[List.mem_cons,List.mem_nil_iff,or_false]at av;rcases av with rfl | rfl | rfl | rfl <;> exact⟨by kernel_rfl,of_decide_eq_true (by kernel_rfl)⟩) abf bf λx F => by simpa using bf x F

def Ry: Array Value := #[.agg #[.string ⟨#[]⟩,.int .i64 0,.string ⟨#[]⟩,.string ⟨#[]⟩,.int .i64 0,.int .i64 0,.int .i64 0,.int .i64 0,.int .i64 0,.int .i64 0,.slice none 0 0,.slice none 0 0],.agg #[.string ⟨#[]⟩,.string ⟨#[]⟩,.string ⟨#[]⟩,.string ⟨#[]⟩,.string ⟨#[]⟩,.int .i64 0,.int .i64 0,.int .i64 0,.int .i64 0,.int .i64 0,.slice none 0 0,.int .i64 0,.bool false],.slice none 0 0,.int .i64 0]
theorem reads(os : Os){H : Type}(enc : TypeId × Value->H): ∃et,DataW.whole enc Tryz.prog ((Nr os).forCall (λ_ _ => 0) ⟨#[],Ry,[]⟩).memory Tryz.f6.params.toList Rows.layoutSharesSpec.vars false Ry.toList 8 = some ([.agg [.lit (.string []),.lit (.int .i64 0),.lit (.string []),.lit (.string []),.lit (.int .i64 0),.lit (.int .i64 0),.lit (.int .i64 0),.lit (.int .i64 0),.lit (.int .i64 0),.lit (.int .i64 0),.nil,.nil],.agg [.agg [.lit (.string []),.lit (.string []),.lit (.string []),.lit (.string []),.lit (.string []),.lit (.int .i64 0),.lit (.int .i64 0),.lit (.int .i64 0)],.lit (.int .i64 0),.lit (.int .i64 0),.nil,.lit (.int .i64 0),.lit (.bool false)],.nil,.lit (.int .i64 0)],[],et) :=
  ⟨[],by kernel_rfl⟩
theorem lifted(os : Os)(Rz : os.Started)(H : Type)(enc : TypeId × Value->H)(ep : Stop.Interp):
    ReturnsInHanded {} Tryz.checked os 6 .any ((Rows.OpenSpec.upto Rows.layoutSharesSpec).preRow enc Tryz.prog Tryz.f6 Rows.layoutSharesUptoRow.domain false Rows.layoutSharesUptoRow.laid) (((Rows.OpenSpec.upto Rows.layoutSharesSpec).at ep).post enc Tryz.prog Tryz.f6 false true false false) := by
  obtain⟨et,F⟩ := reads os enc
  refine returnsInHanded_of_row (C := Tryz.checked) (s := Rows.OpenSpec.upto Rows.layoutSharesSpec) own Rz (by kernel_rfl) Tryz.func6
    (witness_row_at (enc := enc) (C := Tryz.checked) false (Nr os) Ry rfl (by kernel_rfl) (by kernel_rfl) (by kernel_rfl)
      (OpenSpec.preRow_of_cond 8 F (by kernel_rfl) (λk Y => by cases Y;kernel_rfl) (by kernel_rfl) (afB os _))) ?_
  intro bq base args ds da Rw rL Ae _ Rx _ a1 je _
  exact aq3 H enc bq base args ds da Rw rL Ae (Rx _ rfl) a1 je
theorem aq4{a b : Bool}(h : a = true)(bB : b = true): (a && b) = true := by rw[h,bB];rfl
set_option maxHeartbeats 4000000 in
theorem aq5: joinedFacts Tryz.pinned.checked.prog 6 Tryz.f6 (Rows.OpenSpec.upto Rows.layoutSharesSpec).bare Rows.layoutSharesUptoRow = true := by
  unfold joinedFacts
  repeat' (with_reducible refine aq4 ?_ ?_)
  all_goals as_aux_lemma => kernel_rfl
theorem aq6: Rows.LayoutSharesUptoSaid :=
  OpenClaim.holds_of_cond 6 Tryz.f6 rfl rfl rfl rfl rfl rfl rfl ⟨rfl,rfl,rfl,rfl,rfl⟩ rfl rfl rfl rfl rfl (by as_aux_lemma => kernel_rfl) Tryz.func6 aq5
    (of_decide_eq_true (by kernel_rfl)) (by unfold Func.isWrapper;first | (rw[if_pos (by decide +kernel)];kernel_rfl) | (rw[if_neg (by decide +kernel)];exact⟨rfl,rfl⟩))
    (λos Rz H enc _ ep => by rw[OpenClaim.pre_eq_preRow];exact lifted os Rz H enc ep)
theorem plain(f : FuncId)(fn : Func)(M : Tryz.pinned.checked.prog.funcNamed "masterdisc/masterdisclaw46.LayoutShares" = some f)(jg : Tryz.pinned.checked.prog.funcs[f]? = some fn):
    false = Tryz.pinned.checked.prog.looks []/\∀(j : Nat) t,fn.params[j]? = some t->Tryz.pinned.checked.prog.wantsStandIn t = false := by
  obtain rfl : f = 6 := Option.some.inj ((show Tryz.prog.funcNamed "masterdisc/masterdisclaw46.LayoutShares" = some 6 by kernel_rfl).symm.trans M) |>.symm
  obtain rfl : fn = Tryz.f6 := (Option.some.inj (Tryz.func6.symm.trans jg)).symm
  refine⟨by kernel_rfl,λj t av => ?_⟩
  rw[Tryz.params6]at av
  have hm : t ∈ #[44,34,27,3] := Array.mem_of_getElem? av
  have : t = 44\/t = 34\/t = 27\/t = 3 := by simpa using hm
  rcases this with rfl | rfl | rfl | rfl <;> exact(show Tryz.prog.wantsStandIn _ = false by kernel_rfl)
theorem aq7{P : Program}(h : P.funcs.any Func.goes = false)(f : FuncId): P.goes f = false := by
  unfold Program.goes
  rw[h,Bool.and_false,Bool.or_false,List.any_eq_false]
  intro g _
  cases aW : P.funcs[g]? with
  | none => simp
  | some fn =>
    rw[Array.any_eq_false]at h
    obtain⟨bf,rfl⟩ := Array.getElem?_eq_some_iff.1 aW
    simpa using h g bf
theorem aq8{P : Program}(h : P.funcs.any Func.goes = false)(c : OpenClaim)(hs : c.start = .entering): false = c.goesBy P := by
  unfold OpenClaim.goesBy Program.goesAt Program.goesFrom
  rw[hs]
  cases P.funcNamed c.func with
  | none => rfl
  | some f => simp[aq7 h f]
theorem aq9: Tryz.pinned.checked.prog.funcs.any Func.goes = false := by as_aux_lemma => kernel_rfl
theorem card: Rows.LayoutSharesUptoCardSaid :=
  Claim7.holds_tied_plain_at .later [] _ _ _ _ aq6 (λ_ h => by cases h) (by as_aux_lemma => kernel_rfl) (λ_ h => by cases h) layoutSharesUpto_row_tie rfl ⟨rfl,rfl⟩ (by as_aux_lemma => kernel_rfl) rfl plain (aq8 aq9 _ rfl)
end Go.Proofs.YtfnpcdbnoggloaaGreatDoor.shares46
