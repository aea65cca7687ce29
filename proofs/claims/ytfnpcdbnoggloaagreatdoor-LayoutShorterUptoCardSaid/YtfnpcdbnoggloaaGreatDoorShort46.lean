/- Proved: the statement LayoutShorter in its second form (Upto): for all arguments of bulk at most 1048576 the law returns true and its arguments read as before. Conditions: the row's own (bulk at most 1048576). -/
import Derived.Test.YtfnpcdbnoggloaaGreatDoorL6
set_option linter.unnecessarySimpa false
set_option linter.unusedSimpArgs false
set_option linter.unusedVariables false
set_option maxRecDepth 100000
set_option maxHeartbeats 16000000
namespace Go.Proofs.YtfnpcdbnoggloaaGreatDoor.short46
open Go Go.bV Go.bV.ct Go.RowKit Go.ChangeShapes Go.Deep Go.WideShapes Go.ChangeAt Go.ChangeMaps
set_option maxRecDepth 100000
theorem seatTie1: Tryz.prog.laidByTextLater [("math/bits.deBruijn32tab",Rows.laid_math_bits_deBruijn32tab),("math/bits.deBruijn64tab",Rows.laid_math_bits_deBruijn64tab),("internal/strconv.uint64pow10",Rows.laid_internal_strconv_uint64pow10),("unicode/utf8.acceptRanges",Rows.laid_unicode_utf8_acceptRanges)] [.data,.data,.data,.data] true :=
  Program.laidByTextLater_by_one 34 8 65 (by kernel_rfl) (by kernel_rfl) (by kernel_rfl) (by kernel_rfl) (by kernel_rfl) (by kernel_rfl) (λ_ _ => by kernel_rfl)
theorem pin_laid_unicode_utf8_first: Tryz.pinned.checked.prog.pinnedFits "unicode/utf8.first" = true := by kernel_rfl
theorem noOwnUnsafe: Tryz.pinned.checked.prog.headLifts.contains "ownunsafe" = false := by kernel_rfl
theorem fits1: Tryz.pinned.checked.prog.listedFits [("math/bits.deBruijn32tab",Rows.laid_math_bits_deBruijn32tab),("math/bits.deBruijn64tab",Rows.laid_math_bits_deBruijn64tab),("internal/strconv.uint64pow10",Rows.laid_internal_strconv_uint64pow10),("unicode/utf8.acceptRanges",Rows.laid_unicode_utf8_acceptRanges),("unicode/utf8.first",Rows.laid_unicode_utf8_first)] = true := by
  unfold Program.listedFits
  rw[noOwnUnsafe]
  kernel_rfl
theorem layoutShorterUpto_row_tie: Rows.layoutShorterUptoRow.laidByTextAt .later Tryz.pinned [.data,.data,.data,.data,.pinned] true :=
  OpenClaim.laidByTextAt_pinned rfl rfl seatTie1 rfl rfl rfl rfl (λy hy _e => by
    simp only[Rows.layoutShorterUptoRow,List.zip_cons_cons,List.zip_nil_right,List.mem_cons,List.mem_nil_iff,or_false]at hy
    rcases hy with rfl | rfl | rfl | rfl | rfl
    · cases _e
    · cases _e
    · cases _e
    · cases _e
    · exact⟨pin_laid_unicode_utf8_first,by kernel_rfl⟩) fits1
theorem ar9{k : Int}(h : (Lit.int .u16 k).wf = true): 0<=k/\k<=65535 := by
  simp[Lit.wf]at h
  exact⟨h.1,h.2⟩
theorem ar_{k : Int}(h : (Lit.int .u8 k).wf = true): 0<=k/\k<=255 := by
  simp[Lit.wf]at h
  exact⟨h.1,h.2⟩
theorem ar'(H : Type)(enc : TypeId × Value->H)(b8 : World)(base : Nat)(args : Array Value)(ds dc : List (DataW H))(R2 : List MemPlace)
    (qS : ∀(j : Nat) t v,Tryz.f7.params[j]? = some t->args[j]? = some v->Value.okWide Tryz.prog b8 .any base t v)
    (Ad : DataW.Whole enc Tryz.prog Tryz.f7.params.toList Rows.layoutShorterSpec.vars false b8 args.toList ds dc R2) (R3 : Rows.uptoSmall H (ds ++ dc) = true) (aX : laidMetH Tryz.prog Rows.layoutShorterRow.laid b8) (iG : b8.ShapedOpen Tryz.prog) :
    Calls Tryz.prog 7 args b8 λe i_ => ∃v,e = .returned v/\Rows.layoutShorterSpec.post enc Tryz.prog Tryz.f7 false true false false b8 args v i_ := by
  have acd := Ad
  obtain⟨p,q,ace,uQ,rfl,MI,pL⟩ := Ad
  have acf := agm aX iG
  have m8 : DataW.TrodAll enc Tryz.prog b8 0 (λ_ => true) true Tryz.f7.params.toList args.toList ds p := ace
  rw[Tryz.params7]at m8 qS
  obtain⟨rfl,rfl⟩ := trodVars_none uQ
  have P_ : Tryz.f7.params.toList = [44,34,5,70,3] := by rw[Tryz.params7]
  obtain⟨v0,auw,he,aux,sO,mW,kX,rfl,rfl,h0,gW⟩ := trodAll_cons m8
  obtain⟨jr,l',d1,auy,qN,vT,rfl,rfl,rfl,h1,mw⟩ := trodAll_cons gW
  obtain⟨v2,xC,d2,auz,k3,vU,rfl,rfl,rfl,A,nB⟩ := trodAll_cons mw
  obtain⟨v3,sq,d3,auA,H0,yO,rfl,rfl,rfl,aa,oi⟩ := trodAll_cons nB
  obtain⟨v4,auB,d4,auC,H1,YT,rfl,rfl,rfl,aF,oU⟩ := trodAll_cons oi
  obtain⟨rfl,rfl,rfl⟩ := trodAll_nil oU
  obtain rfl : args = #[v0,jr,v2,v3,v4] := by cases args;simp_all
  have tS := of_decide_eq_true R3
  simp only[List.append_nil,Rows.uptoBulkAll]at tS
  obtain⟨ia,nE,Gk⟩ := agj (qS 0 44 v0 rfl rfl) h0
  have tc : ev ia := by unfold ev;simp only[jw]at Gk;omega
  obtain⟨cu,m1,g1,vT⟩ := agy (qS 1 34 jr rfl rfl) h1
  have qP : cu.name.length + cu.set.length + cu.px.length + cu.py.length + cu.l2.length < 1000000000 := by simp only[jw]at g1;omega
  have dI : cu.gM.length < 1000000 := by simp only[jw]at vT;omega
  obtain⟨d0,rfl,rfl,rfl,gO⟩ := open_int Tryz.underlying5 (qS 2 5 v2 rfl rfl) A
  obtain⟨nx,rfl,rfl,rfl,Y7⟩ := open_int Tryz.underlying70 (qS 3 70 v3 rfl rfl) aa
  obtain⟨w7,rfl,rfl,rfl,Y_⟩ := open_int Tryz.underlying3 (qS 4 3 v4 rfl rfl) aF
  refine(agk (ar5 acf (arb acf) ia cu d0 nx w7 (ar_ gO) (ar9 Y7) tc qP dI) (.cons nE (.cons m1 (.cons (.int _ _) (.cons (.int _ _) (.cons (.int _ _) (.nil _ _))))))).mono λe i_ ⟨aq,G⟩ => ?_
  subst aq
  have bg : ∀x ∈ sO ++ (qN ++ ([] ++ ([] ++ ([] ++ [])))),x.block < b8.heap.size := λx J => by simpa using acd.lt x (by simpa using J)
  refine⟨_,rfl,_,_,_,[],sO ++ (qN ++ ([] ++ ([] ++ ([] ++ [])))),[],acd,?_,?_,rfl,G.frame _,λh => by cases h⟩
  · exact trodAll_cons_mk (shut_bool Tryz.underlying4 _) trodAll_mk0
  · exact Vu G (by rw[P_];intro t ax;simp only[List.mem_cons,List.mem_nil_iff,or_false]at ax;rcases ax with rfl | rfl | rfl | rfl | rfl <;> exact⟨by kernel_rfl,of_decide_eq_true (by kernel_rfl)⟩) ace bg λx J => by simpa using bg x J

def R4: Array Value := #[.agg #[.string ⟨#[]⟩,.int .i64 0,.string ⟨#[]⟩,.string ⟨#[]⟩,.int .i64 0,.int .i64 0,.int .i64 0,.int .i64 0,.int .i64 0,.int .i64 0,.slice none 0 0,.slice none 0 0],.agg #[.string ⟨#[]⟩,.string ⟨#[]⟩,.string ⟨#[]⟩,.string ⟨#[]⟩,.string ⟨#[]⟩,.int .i64 0,.int .i64 0,.int .i64 0,.int .i64 0,.int .i64 0,.slice none 0 0,.int .i64 0,.bool false],.int .u8 0,.int .u16 0,.int .i64 0]
theorem reads(os : Os){H : Type}(enc : TypeId × Value->H): ∃eA,DataW.whole enc Tryz.prog ((NU os).forCall (λ_ _ => 0) ⟨#[],R4,[]⟩).memory Tryz.f7.params.toList Rows.layoutShorterSpec.vars false R4.toList 8 = some ([.agg [.lit (.string []),.lit (.int .i64 0),.lit (.string []),.lit (.string []),.lit (.int .i64 0),.lit (.int .i64 0),.lit (.int .i64 0),.lit (.int .i64 0),.lit (.int .i64 0),.lit (.int .i64 0),.nil,.nil],.agg [.agg [.lit (.string []),.lit (.string []),.lit (.string []),.lit (.string []),.lit (.string []),.lit (.int .i64 0),.lit (.int .i64 0),.lit (.int .i64 0)],.lit (.int .i64 0),.lit (.int .i64 0),.nil,.lit (.int .i64 0),.lit (.bool false)],.lit (.int .u8 0),.lit (.int .u16 0),.lit (.int .i64 0)],[],eA) :=
  ⟨[],by kernel_rfl⟩
theorem lifted(os : Os)(R5 : os.Started)(H : Type)(enc : TypeId × Value->H)(cR : Stop.Interp):
    ReturnsInHanded {} Tryz.checked os 7 .any ((Rows.OpenSpec.upto Rows.layoutShorterSpec).preRow enc Tryz.prog Tryz.f7 Rows.layoutShorterUptoRow.domain false Rows.layoutShorterUptoRow.laid) (((Rows.OpenSpec.upto Rows.layoutShorterSpec).at cR).post enc Tryz.prog Tryz.f7 false true false false) := by
  obtain⟨eA,J⟩ := reads os enc
  refine returnsInHanded_of_row (C := Tryz.checked) (s := Rows.OpenSpec.upto Rows.layoutShorterSpec) own R5 (by kernel_rfl) Tryz.func7
    (witness_row_at (enc := enc) (C := Tryz.checked) false (NU os) R4 rfl (by kernel_rfl) (by kernel_rfl) (by kernel_rfl)
      (OpenSpec.preRow_of_cond 8 J (by kernel_rfl) (λk Z => by cases Z;kernel_rfl) (by kernel_rfl) (agz os _))) ?_
  intro b8 base args ds dc R2 qS Ad _ R3 _ aX iG _
  exact ar' H enc b8 base args ds dc R2 qS Ad (R3 _ rfl) aX iG
theorem asa{a b : Bool}(h : a = true)(bt : b = true): (a && b) = true := by rw[h,bt];rfl
set_option maxHeartbeats 4000000 in
theorem asb: joinedFacts Tryz.pinned.checked.prog 7 Tryz.f7 (Rows.OpenSpec.upto Rows.layoutShorterSpec).bare Rows.layoutShorterUptoRow = true := by
  unfold joinedFacts
  repeat' (with_reducible refine asa ?_ ?_)
  all_goals as_aux_lemma => kernel_rfl
theorem asc: Rows.LayoutShorterUptoSaid :=
  OpenClaim.holds_of_cond 7 Tryz.f7 rfl rfl rfl rfl rfl rfl rfl ⟨rfl,rfl,rfl,rfl,rfl⟩ rfl rfl rfl rfl rfl (by as_aux_lemma => kernel_rfl) Tryz.func7 asb
    (of_decide_eq_true (by kernel_rfl)) (by unfold Func.isWrapper;first | (rw[if_pos (by decide +kernel)];kernel_rfl) | (rw[if_neg (by decide +kernel)];exact⟨rfl,rfl⟩))
    (λos R5 H enc _ cR => by rw[OpenClaim.pre_eq_preRow];exact lifted os R5 H enc cR)
theorem plain(f : FuncId)(fn : Func)(M : Tryz.pinned.checked.prog.funcNamed "masterdisc/masterdisclaw46.LayoutShorter" = some f)(jm : Tryz.pinned.checked.prog.funcs[f]? = some fn):
    false = Tryz.pinned.checked.prog.looks []/\∀(j : Nat) t,fn.params[j]? = some t->Tryz.pinned.checked.prog.wantsStandIn t = false := by
  obtain rfl : f = 7 := Option.some.inj ((show Tryz.prog.funcNamed "masterdisc/masterdisclaw46.LayoutShorter" = some 7 by kernel_rfl).symm.trans M) |>.symm
  obtain rfl : fn = Tryz.f7 := (Option.some.inj (Tryz.func7.symm.trans jm)).symm
  refine⟨by kernel_rfl,λj t ax => ?_⟩
  rw[Tryz.params7]at ax
  have hm : t ∈ #[44,34,5,70,3] := Array.mem_of_getElem? ax
  have : t = 44\/t = 34\/t = 5\/t = 70\/t = 3 := by simpa using hm
  rcases this with rfl | rfl | rfl | rfl | rfl <;> exact(show Tryz.prog.wantsStandIn _ = false by kernel_rfl)
theorem asd{P : Program}(h : P.funcs.any Func.goes = false)(f : FuncId): P.goes f = false := by
  unfold Program.goes
  rw[h,Bool.and_false,Bool.or_false,List.any_eq_false]
  intro g _
  cases aS : P.funcs[g]? with
  | none => simp
  | some fn =>
    rw[Array.any_eq_false]at h
    obtain⟨bg,rfl⟩ := Array.getElem?_eq_some_iff.1 aS
    simpa using h g bg
theorem ase{P : Program}(h : P.funcs.any Func.goes = false)(c : OpenClaim)(hs : c.start = .entering): false = c.goesBy P := by
  unfold OpenClaim.goesBy Program.goesAt Program.goesFrom
  rw[hs]
  cases P.funcNamed c.func with
  | none => rfl
  | some f => simp[asd h f]
theorem asf: Tryz.pinned.checked.prog.funcs.any Func.goes = false := by as_aux_lemma => kernel_rfl
theorem card: Rows.LayoutShorterUptoCardSaid :=
  Claim7.holds_tied_plain_at .later [] _ _ _ _ asc (λ_ h => by cases h) (by as_aux_lemma => kernel_rfl) (λ_ h => by cases h) layoutShorterUpto_row_tie rfl ⟨rfl,rfl⟩ (by as_aux_lemma => kernel_rfl) rfl plain (ase asf _ rfl)
end Go.Proofs.YtfnpcdbnoggloaaGreatDoor.short46
