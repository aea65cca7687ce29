/- Proved: the statement LayoutDisjoint in its second form (Upto): for all arguments of bulk at most 1048576 the law returns true and its arguments read as before. Conditions: the row's own (bulk at most 1048576). -/
import Derived.Test.YtfnpcdbnoggloaaGreatDoorL6
set_option linter.unnecessarySimpa false
set_option linter.unusedSimpArgs false
set_option linter.unusedVariables false
set_option maxRecDepth 100000
set_option maxHeartbeats 16000000
namespace Go.Proofs.YtfnpcdbnoggloaaGreatDoor.disj46
open Go Go.bS Go.bS.cp Go.RowKit Go.ChangeShapes Go.Deep Go.WideShapes Go.ChangeAt Go.ChangeMaps
set_option maxRecDepth 100000
theorem seatTie1: Tryz.prog.laidByTextLater [("math/bits.deBruijn32tab",Rows.laid_math_bits_deBruijn32tab),("math/bits.deBruijn64tab",Rows.laid_math_bits_deBruijn64tab),("internal/strconv.uint64pow10",Rows.laid_internal_strconv_uint64pow10),("unicode/utf8.acceptRanges",Rows.laid_unicode_utf8_acceptRanges)] [.data,.data,.data,.data] true :=
  Program.laidByTextLater_by_one 34 8 65 (by kernel_rfl) (by kernel_rfl) (by kernel_rfl) (by kernel_rfl) (by kernel_rfl) (by kernel_rfl) (λ_ _ => by kernel_rfl)
theorem pin_laid_unicode_utf8_first: Tryz.pinned.checked.prog.pinnedFits "unicode/utf8.first" = true := by kernel_rfl
theorem noOwnUnsafe: Tryz.pinned.checked.prog.headLifts.contains "ownunsafe" = false := by kernel_rfl
theorem fits1: Tryz.pinned.checked.prog.listedFits [("math/bits.deBruijn32tab",Rows.laid_math_bits_deBruijn32tab),("math/bits.deBruijn64tab",Rows.laid_math_bits_deBruijn64tab),("internal/strconv.uint64pow10",Rows.laid_internal_strconv_uint64pow10),("unicode/utf8.acceptRanges",Rows.laid_unicode_utf8_acceptRanges),("unicode/utf8.first",Rows.laid_unicode_utf8_first)] = true := by
  unfold Program.listedFits
  rw[noOwnUnsafe]
  kernel_rfl
theorem layoutDisjointUpto_row_tie: Rows.layoutDisjointUptoRow.laidByTextAt .later Tryz.pinned [.data,.data,.data,.data,.pinned] true :=
  OpenClaim.laidByTextAt_pinned rfl rfl seatTie1 rfl rfl rfl rfl (λy hy _e => by
    simp only[Rows.layoutDisjointUptoRow,List.zip_cons_cons,List.zip_nil_right,List.mem_cons,List.mem_nil_iff,or_false]at hy
    rcases hy with rfl | rfl | rfl | rfl | rfl
    · cases _e
    · cases _e
    · cases _e
    · cases _e
    · exact⟨pin_laid_unicode_utf8_first,by kernel_rfl⟩) fits1
theorem aq8(H : Type)(enc : TypeId × Value->H)(bo : World)(base : Nat)(args : Array Value)(ds cT : List (DataW H))(RB : List MemPlace)
    (rX : ∀(j : Nat) t v,Tryz.f4.params[j]? = some t->args[j]? = some v->Value.okWide Tryz.prog bo .any base t v)
    (Ap : DataW.Whole enc Tryz.prog Tryz.f4.params.toList Rows.layoutDisjointSpec.vars false bo args.toList ds cT RB) (RC : Rows.uptoSmall H (ds ++ cT) = true) (aV : laidMetH Tryz.prog Rows.layoutDisjointRow.laid bo) (i1 : bo.ShapedOpen Tryz.prog) :
    Calls Tryz.prog 4 args bo λe ja => ∃v,e = .returned v/\Rows.layoutDisjointSpec.post enc Tryz.prog Tryz.f4 false true false false bo args v ja := by
  have abm := Ap
  obtain⟨p,q,abn,uY,rfl,H5,mO⟩ := Ap
  have abo := afs aV i1
  have lG : DataW.TrodAll enc Tryz.prog bo 0 (λ_ => true) true Tryz.f4.params.toList args.toList ds p := abn
  rw[Tryz.params4]at lG rX
  obtain⟨rfl,rfl⟩ := trodVars_none uY
  have P2 : Tryz.f4.params.toList = [44,34,27,3] := by rw[Tryz.params4]
  obtain⟨v0,atq,g',atr,sT,ng,kZ,rfl,rfl,h0,gC⟩ := trodAll_cons lG
  obtain⟨jz,mj,d1,ats,mE,lc,rfl,rfl,rfl,h1,jg⟩ := trodAll_cons gC
  obtain⟨v2,xF,d2,att,hU,kL,rfl,rfl,rfl,z,ki⟩ := trodAll_cons jg
  obtain⟨v3,st,d3,atu,H3,oX,rfl,rfl,rfl,aa,k_⟩ := trodAll_cons ki
  obtain⟨rfl,rfl,rfl⟩ := trodAll_nil k_
  obtain rfl : args = #[v0,jz,v2,v3] := by cases args;simp_all
  have rR := of_decide_eq_true RC
  simp only[List.append_nil,Rows.uptoBulkAll]at rR
  obtain⟨ii,j3,xA⟩ := afp (rX 0 44 v0 rfl rfl) h0
  have tm : fv ii := by unfold fv;simp only[h']at xA;omega
  obtain⟨cL,m1,g1,lc⟩ := afD (rX 1 34 jz rfl rfl) h1
  have jc : cL.name.length + cL.set.length + cL.pr.length + cL.ps.length + cL.l9.length < 1000000000 := by simp only[h']at g1;omega
  have dz : cL.gO.length < 1000000 := by simp only[h']at lc;omega
  obtain⟨n2,yJ,eP,kL⟩ := afG (rX 2 27 v2 rfl rfl) z
  have cu : n2.length < 1000000 := by simp only[h']at eP;omega
  obtain⟨nK,rfl,rfl,rfl,al4⟩ := open_int Tryz.underlying3 (rX 3 3 v3 rfl rfl) aa
  refine(afq (aq7 abo (aqq abo) ii cL n2 nK tm jc cu kL dz) (.cons j3 (.cons m1 (.cons yJ (.cons (.int _ _) (.nil _ _)))))).mono λe ja ⟨ak,G⟩ => ?_
  subst ak
  have bi : ∀x ∈ sT ++ (mE ++ (hU ++ ([] ++ []))),x.block < bo.heap.size := λx F => by simpa using abm.lt x (by simpa using F)
  refine⟨_,rfl,_,_,_,[],sT ++ (mE ++ (hU ++ ([] ++ []))),[],abm,?_,?_,rfl,G.frame _,λh => by cases h⟩
  · exact trodAll_cons_mk (shut_bool Tryz.underlying4 _) trodAll_mk0
  · exact U4 G (by rw[P2];intro t ax;simp only[List.mem_cons,List.mem_nil_iff,or_false]at ax;rcases ax with rfl | rfl | rfl | rfl <;> exact⟨by kernel_rfl,of_decide_eq_true (by kernel_rfl)⟩) abn bi λx F => by simpa using bi x F

def RD: Array Value := #[.agg #[.string ⟨#[]⟩,.int .i64 0,.string ⟨#[]⟩,.string ⟨#[]⟩,.int .i64 0,.int .i64 0,.int .i64 0,.int .i64 0,.int .i64 0,.int .i64 0,.slice none 0 0,.slice none 0 0],.agg #[.string ⟨#[]⟩,.string ⟨#[]⟩,.string ⟨#[]⟩,.string ⟨#[]⟩,.string ⟨#[]⟩,.int .i64 0,.int .i64 0,.int .i64 0,.int .i64 0,.int .i64 0,.slice none 0 0,.int .i64 0,.bool false],.slice none 0 0,.int .i64 0]
theorem reads(os : Os){H : Type}(enc : TypeId × Value->H): ∃es,DataW.whole enc Tryz.prog ((NN os).forCall (λ_ _ => 0) ⟨#[],RD,[]⟩).memory Tryz.f4.params.toList Rows.layoutDisjointSpec.vars false RD.toList 8 = some ([.agg [.lit (.string []),.lit (.int .i64 0),.lit (.string []),.lit (.string []),.lit (.int .i64 0),.lit (.int .i64 0),.lit (.int .i64 0),.lit (.int .i64 0),.lit (.int .i64 0),.lit (.int .i64 0),.nil,.nil],.agg [.agg [.lit (.string []),.lit (.string []),.lit (.string []),.lit (.string []),.lit (.string []),.lit (.int .i64 0),.lit (.int .i64 0),.lit (.int .i64 0)],.lit (.int .i64 0),.lit (.int .i64 0),.nil,.lit (.int .i64 0),.lit (.bool false)],.nil,.lit (.int .i64 0)],[],es) :=
  ⟨[],by kernel_rfl⟩
theorem lifted(os : Os)(RE : os.Started)(H : Type)(enc : TypeId × Value->H)(fY : Stop.Interp):
    ReturnsInHanded {} Tryz.checked os 4 .any ((Rows.OpenSpec.upto Rows.layoutDisjointSpec).preRow enc Tryz.prog Tryz.f4 Rows.layoutDisjointUptoRow.domain false Rows.layoutDisjointUptoRow.laid) (((Rows.OpenSpec.upto Rows.layoutDisjointSpec).at fY).post enc Tryz.prog Tryz.f4 false true false false) := by
  obtain⟨es,F⟩ := reads os enc
  refine returnsInHanded_of_row (C := Tryz.checked) (s := Rows.OpenSpec.upto Rows.layoutDisjointSpec) own RE (by kernel_rfl) Tryz.func4
    (witness_row_at (enc := enc) (C := Tryz.checked) false (NN os) RD rfl (by kernel_rfl) (by kernel_rfl) (by kernel_rfl)
      (OpenSpec.preRow_of_cond 8 F (by kernel_rfl) (λk X => by cases X;kernel_rfl) (by kernel_rfl) (afH os _))) ?_
  intro bo base args ds cT RB rX Ap _ RC _ aV i1 _
  exact aq8 H enc bo base args ds cT RB rX Ap (RC _ rfl) aV i1
theorem aq9{a b : Bool}(h : a = true)(bq : b = true): (a && b) = true := by rw[h,bq];rfl
set_option maxHeartbeats 4000000 in
theorem aq_: joinedFacts Tryz.pinned.checked.prog 4 Tryz.f4 (Rows.OpenSpec.upto Rows.layoutDisjointSpec).bare Rows.layoutDisjointUptoRow = true := by
  unfold joinedFacts
  repeat' (with_reducible refine aq9 ?_ ?_)
  all_goals as_aux_lemma => kernel_rfl
theorem aq': Rows.LayoutDisjointUptoSaid :=
  OpenClaim.holds_of_cond 4 Tryz.f4 rfl rfl rfl rfl rfl rfl rfl ⟨rfl,rfl,rfl,rfl,rfl⟩ rfl rfl rfl rfl rfl (by as_aux_lemma => kernel_rfl) Tryz.func4 aq_
    (of_decide_eq_true (by kernel_rfl)) (by unfold Func.isWrapper;first | (rw[if_pos (by decide +kernel)];kernel_rfl) | (rw[if_neg (by decide +kernel)];exact⟨rfl,rfl⟩))
    (λos RE H enc _ fY => by rw[OpenClaim.pre_eq_preRow];exact lifted os RE H enc fY)
theorem plain(f : FuncId)(fn : Func)(M : Tryz.pinned.checked.prog.funcNamed "masterdisc/masterdisclaw46.LayoutDisjoint" = some f)(i7 : Tryz.pinned.checked.prog.funcs[f]? = some fn):
    false = Tryz.pinned.checked.prog.looks []/\∀(j : Nat) t,fn.params[j]? = some t->Tryz.pinned.checked.prog.wantsStandIn t = false := by
  obtain rfl : f = 4 := Option.some.inj ((show Tryz.prog.funcNamed "masterdisc/masterdisclaw46.LayoutDisjoint" = some 4 by kernel_rfl).symm.trans M) |>.symm
  obtain rfl : fn = Tryz.f4 := (Option.some.inj (Tryz.func4.symm.trans i7)).symm
  refine⟨by kernel_rfl,λj t ax => ?_⟩
  rw[Tryz.params4]at ax
  have hm : t ∈ #[44,34,27,3] := Array.mem_of_getElem? ax
  have : t = 44\/t = 34\/t = 27\/t = 3 := by simpa using hm
  rcases this with rfl | rfl | rfl | rfl <;> exact(show Tryz.prog.wantsStandIn _ = false by kernel_rfl)
theorem ara{P : Program}(h : P.funcs.any Func.goes = false)(f : FuncId): P.goes f = false := by
  unfold Program.goes
  rw[h,Bool.and_false,Bool.or_false,List.any_eq_false]
  intro g _
  cases aT : P.funcs[g]? with
  | none => simp
  | some fn =>
    rw[Array.any_eq_false]at h
    obtain⟨bi,rfl⟩ := Array.getElem?_eq_some_iff.1 aT
    simpa using h g bi
theorem arb{P : Program}(h : P.funcs.any Func.goes = false)(c : OpenClaim)(hs : c.start = .entering): false = c.goesBy P := by
  unfold OpenClaim.goesBy Program.goesAt Program.goesFrom
  rw[hs]
  cases P.funcNamed c.func with
  | none => rfl
  | some f => simp[ara h f]
theorem arc: Tryz.pinned.checked.prog.funcs.any Func.goes = false := by as_aux_lemma => kernel_rfl
theorem card: Rows.LayoutDisjointUptoCardSaid :=
  Claim7.holds_tied_plain_at .later [] _ _ _ _ aq' (λ_ h => by cases h) (by as_aux_lemma => kernel_rfl) (λ_ h => by cases h) layoutDisjointUpto_row_tie rfl ⟨rfl,rfl⟩ (by as_aux_lemma => kernel_rfl) rfl plain (arb arc _ rfl)
end Go.Proofs.YtfnpcdbnoggloaaGreatDoor.disj46
