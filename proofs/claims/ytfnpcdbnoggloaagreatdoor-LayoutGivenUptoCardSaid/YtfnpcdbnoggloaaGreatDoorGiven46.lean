/- Proved: the statement LayoutGiven in its second form (Upto): for all arguments of bulk at most 1048576 the law returns true and its arguments read as before. Conditions: the row's own (bulk at most 1048576). -/
import Derived.Test.YtfnpcdbnoggloaaGreatDoorL9
set_option linter.unnecessarySimpa false
set_option linter.unusedSimpArgs false
set_option linter.unusedVariables false
set_option maxRecDepth 100000
set_option maxHeartbeats 16000000
namespace Go.Proofs.YtfnpcdbnoggloaaGreatDoor.given46
open Go Go.bS Go.bS.cj Go.RowKit Go.ChangeShapes Go.Deep Go.WideShapes Go.ChangeAt Go.ChangeMaps
set_option maxRecDepth 100000
theorem Rw(H : Type)(enc : TypeId × Value->H)(bl : World)(base : Nat)(args : Array Value)(ds c1 : List (DataW H))(A7 : List MemPlace)
    (lS : ∀(j : Nat) t v,Tryz.f8.params[j]? = some t->args[j]? = some v->Value.okWide Tryz.prog bl .any base t v)
    (sY : DataW.Whole enc Tryz.prog Tryz.f8.params.toList Rows.layoutGivenSpec.vars false bl args.toList ds c1 A7) (A8 : Rows.uptoSmall H (ds ++ c1) = true) (aW : laidMetH Tryz.prog Rows.layoutGivenRow.laid bl) (hA : bl.ShapedOpen Tryz.prog) :
    Calls Tryz.prog 8 args bl λe h5 => ∃v,e = .returned v/\Rows.layoutGivenSpec.post enc Tryz.prog Tryz.f8 false true false false bl args v h5 := by
  have G2 := sY
  obtain⟨p,q,G3,sw,rfl,H1,mB⟩ := sY
  have G4 := U6 aW hA
  have iM : DataW.TrodAll enc Tryz.prog bl 0 (λ_ => true) true Tryz.f8.params.toList args.toList ds p := G3
  rw[Tryz.params8]at iM lS
  obtain⟨rfl,rfl⟩ := trodVars_none sw
  have Gx : Tryz.f8.params.toList = [44,34,27,3,4] := by rw[Tryz.params8]
  obtain⟨v0,aqA,gU,aqB,p',mo,kr,rfl,rfl,h0,gg⟩ := trodAll_cons iM
  obtain⟨ig,lD,d1,aqC,oM,sj,rfl,rfl,rfl,h1,kD⟩ := trodAll_cons gg
  obtain⟨v2,wd,d2,aqD,i6,qu,rfl,rfl,rfl,A,lp⟩ := trodAll_cons kD
  obtain⟨v3,rn,d3,aqE,Er,xg,rfl,rfl,rfl,Z,m_⟩ := trodAll_cons lp
  obtain⟨v4,asX,d4,asY,HZ,Yx,rfl,rfl,rfl,aD,oS⟩ := trodAll_cons m_
  obtain⟨rfl,rfl,rfl⟩ := trodAll_nil oS
  obtain rfl : args = #[v0,ig,v2,v3,v4] := by cases args;simp_all
  have rN := of_decide_eq_true A8
  simp only[List.append_nil,Rows.uptoBulkAll]at rN
  obtain⟨hw,ja,AM⟩ := U4 (lS 0 44 v0 rfl rfl) h0
  have rh : eY hw := by unfold eY;simp only[he]at AM;omega
  obtain⟨cx,m1,g1,sj⟩ := U8 (lS 1 34 ig rfl rfl) h1
  have oN : cx.name.length + cx.set.length + cx.oc.length + cx.od.length + cx.kY.length < 1000000000 := by simp only[he]at g1;omega
  have dB : cx.gh.length < 1000000 := by simp only[he]at sj;omega
  obtain⟨n2,jv,fx,qu⟩ := U9 (lS 2 27 v2 rfl rfl) A
  have cs : n2.length < 1000000 := by simp only[he]at fx;omega
  obtain⟨mu,rfl,rfl,rfl,YL⟩ := open_int Tryz.underlying3 (lS 3 3 v3 rfl rfl) Z
  obtain⟨w3,rfl,rfl,rfl⟩ := open_bool Tryz.underlying4 (lS 4 4 v4 rfl rfl) aD
  refine(U5 (aqt G4 (aa6 G4) hw cx n2 mu w3 rh oN cs qu dB) (.cons ja (.cons m1 (.cons jv (.cons (.int _ _) (.cons (.bool _) (.nil _ _))))))).mono λe h5 ⟨ao,F⟩ => ?_
  subst ao
  have bi : ∀x ∈ p' ++ (oM ++ (i6 ++ ([] ++ ([] ++ [])))),x.block < bl.heap.size := λx I => by simpa using G2.lt x (by simpa using I)
  refine⟨_,rfl,_,_,_,[],p' ++ (oM ++ (i6 ++ ([] ++ ([] ++ [])))),[],G2,?_,?_,rfl,F.frame _,λh => by cases h⟩
  · exact trodAll_cons_mk (shut_bool Tryz.underlying4 _) trodAll_mk0
  · exact NF F (by rw[Gx];intro t au;simp only[List.mem_cons,List.mem_nil_iff,or_false]at au;rcases au with rfl | rfl | rfl | rfl | rfl <;> exact⟨by kernel_rfl,of_decide_eq_true (by kernel_rfl)⟩) G3 bi λx I => by simpa using bi x I

def A9: Array Value := #[.agg #[.string ⟨#[]⟩,.int .i64 0,.string ⟨#[]⟩,.string ⟨#[]⟩,.int .i64 0,.int .i64 0,.int .i64 0,.int .i64 0,.int .i64 0,.int .i64 0,.slice none 0 0,.slice none 0 0],.agg #[.string ⟨#[]⟩,.string ⟨#[]⟩,.string ⟨#[]⟩,.string ⟨#[]⟩,.string ⟨#[]⟩,.int .i64 0,.int .i64 0,.int .i64 0,.int .i64 0,.int .i64 0,.slice none 0 0,.int .i64 0,.bool false],.slice none 0 0,.int .i64 0,.bool false]
theorem reads(os : Os){H : Type}(enc : TypeId × Value->H): ∃eh,DataW.whole enc Tryz.prog ((Fp os).forCall (λ_ _ => 0) ⟨#[],A9,[]⟩).memory Tryz.f8.params.toList Rows.layoutGivenSpec.vars false A9.toList 8 = some ([.agg [.lit (.string []),.lit (.int .i64 0),.lit (.string []),.lit (.string []),.lit (.int .i64 0),.lit (.int .i64 0),.lit (.int .i64 0),.lit (.int .i64 0),.lit (.int .i64 0),.lit (.int .i64 0),.nil,.nil],.agg [.agg [.lit (.string []),.lit (.string []),.lit (.string []),.lit (.string []),.lit (.string []),.lit (.int .i64 0),.lit (.int .i64 0),.lit (.int .i64 0)],.lit (.int .i64 0),.lit (.int .i64 0),.nil,.lit (.int .i64 0),.lit (.bool false)],.nil,.lit (.int .i64 0),.lit (.bool false)],[],eh) :=
  ⟨[],by kernel_rfl⟩
theorem lifted(os : Os)(A_ : os.Started)(H : Type)(enc : TypeId × Value->H)(ea : Stop.Interp):
    ReturnsInHanded {} Tryz.checked os 8 .any ((Rows.OpenSpec.upto Rows.layoutGivenSpec).preRow enc Tryz.prog Tryz.f8 Rows.layoutGivenUptoRow.domain false Rows.layoutGivenUptoRow.laid) (((Rows.OpenSpec.upto Rows.layoutGivenSpec).at ea).post enc Tryz.prog Tryz.f8 false true false false) := by
  obtain⟨eh,I⟩ := reads os enc
  refine returnsInHanded_of_row (C := Tryz.checked) (s := Rows.OpenSpec.upto Rows.layoutGivenSpec) own A_ (by kernel_rfl) Tryz.func8
    (witness_row_at (enc := enc) (C := Tryz.checked) false (Fp os) A9 rfl (by kernel_rfl) (by kernel_rfl) (by kernel_rfl)
      (OpenSpec.preRow_of_cond 8 I (by kernel_rfl) (λk Y => by cases Y;kernel_rfl) (by kernel_rfl) (U' os _))) ?_
  intro bl base args ds c1 A7 lS sY _ A8 _ aW hA _
  exact Rw H enc bl base args ds c1 A7 lS sY (A8 _ rfl) aW hA
theorem Rx{a b : Bool}(h : a = true)(bz : b = true): (a && b) = true := by rw[h,bz];rfl
set_option maxHeartbeats 4000000 in
theorem Ry: joinedFacts Tryz.pinned.checked.prog 8 Tryz.f8 (Rows.OpenSpec.upto Rows.layoutGivenSpec).bare Rows.layoutGivenUptoRow = true := by
  unfold joinedFacts
  repeat' (with_reducible refine Rx ?_ ?_)
  all_goals as_aux_lemma => kernel_rfl
theorem Rz: Rows.LayoutGivenUptoSaid :=
  OpenClaim.holds_of_cond 8 Tryz.f8 rfl rfl rfl rfl rfl rfl rfl ⟨rfl,rfl,rfl,rfl,rfl⟩ rfl rfl rfl rfl rfl (by as_aux_lemma => kernel_rfl) Tryz.func8 Ry
    (of_decide_eq_true (by kernel_rfl)) (by unfold Func.isWrapper;first | (rw[if_pos (by decide +kernel)];kernel_rfl) | (rw[if_neg (by decide +kernel)];exact⟨rfl,rfl⟩))
    (λos A_ H enc _ ea => by rw[OpenClaim.pre_eq_preRow];exact lifted os A_ H enc ea)
theorem plain(f : FuncId)(fn : Func)(M : Tryz.pinned.checked.prog.funcNamed "masterdisc/masterdisclaw46.LayoutGiven" = some f)(iz : Tryz.pinned.checked.prog.funcs[f]? = some fn):
    false = Tryz.pinned.checked.prog.looks []/\∀(j : Nat) t,fn.params[j]? = some t->Tryz.pinned.checked.prog.wantsStandIn t = false := by
  obtain rfl : f = 8 := Option.some.inj ((show Tryz.prog.funcNamed "masterdisc/masterdisclaw46.LayoutGiven" = some 8 by kernel_rfl).symm.trans M) |>.symm
  obtain rfl : fn = Tryz.f8 := (Option.some.inj (Tryz.func8.symm.trans iz)).symm
  refine⟨by kernel_rfl,λj t au => ?_⟩
  rw[Tryz.params8]at au
  have hm : t ∈ #[44,34,27,3,4] := Array.mem_of_getElem? au
  have : t = 44\/t = 34\/t = 27\/t = 3\/t = 4 := by simpa using hm
  rcases this with rfl | rfl | rfl | rfl | rfl <;> exact(show Tryz.prog.wantsStandIn _ = false by kernel_rfl)
theorem RA{P : Program}(h : P.funcs.any Func.goes = false)(f : FuncId): P.goes f = false := by
  unfold Program.goes
  rw[h,Bool.and_false,Bool.or_false,List.any_eq_false]
  intro g _
  cases aV : P.funcs[g]? with
  | none => simp
  | some fn =>
    rw[Array.any_eq_false]at h
    obtain⟨bi,rfl⟩ := Array.getElem?_eq_some_iff.1 aV
    simpa using h g bi
theorem RB{P : Program}(h : P.funcs.any Func.goes = false)(c : OpenClaim)(hs : c.start = .entering): false = c.goesBy P := by
  unfold OpenClaim.goesBy Program.goesAt Program.goesFrom
  rw[hs]
  cases P.funcNamed c.func with
  | none => rfl
  | some f => simp[RA h f]
theorem RC: Tryz.pinned.checked.prog.funcs.any Func.goes = false := by as_aux_lemma => kernel_rfl
theorem card: Rows.LayoutGivenUptoCardSaid :=
  Claim7.holds_tied_plain_at .later [] _ _ _ _ Rz (λ_ h => by cases h) (by as_aux_lemma => kernel_rfl) (λ_ h => by cases h) layoutGivenUpto_row_tie rfl ⟨rfl,rfl⟩ (by as_aux_lemma => kernel_rfl) rfl plain (RB RC _ rfl)
end Go.Proofs.YtfnpcdbnoggloaaGreatDoor.given46
