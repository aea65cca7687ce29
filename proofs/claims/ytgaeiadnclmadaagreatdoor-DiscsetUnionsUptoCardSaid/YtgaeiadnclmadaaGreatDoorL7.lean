/- A program logic of my own over the model, and contracts of this program's functions by it: part 7. No conditions of its own: each theorem states its own. -/
import Derived.Test.YtgaeiadnclmadaaGreatDoorL6
import Derived.Test.YtgaeiadnclmadaaGreatDoorProg
set_option linter.unnecessarySimpa false
set_option linter.unusedSimpArgs false
set_option linter.unusedVariables false
/- For the seat r4: the library's contracts,for computing. -/
namespace Go.Tame.V
open Go Go.Proofs Go.Ev
variable {W0 : World}
set_option linter.unusedVariables false
set_option maxRecDepth 20000
theorem q172 (s p : List UInt8) (hs : s.length ≤ 9223372036854775807) : DFun Tryz.prog W0 351 [.str s,.str p] (.str (Lib.trimSuffix s p)) :=
 .pure (callable Tryz.func351 rfl (by decide +kernel)) rfl rfl fun w _ => Tryz.strings_TrimSuffix ⟨⟨s⟩⟩ ⟨⟨p⟩⟩ w hs
theorem q143 (i : Nat) (hi : i < 100) : DFun Tryz.prog W0 230 [.int .i64 (i : Nat)] (.str (Lib.decDigits i)) :=
 .pure (callable Tryz.func230 rfl (by decide +kernel)) rfl rfl fun w _ => Tryz.strconv_Itoa_small i hi w
noncomputable def qCmp : List D → Option D
 | [.str s,.str p] => some (.int .i64 (Lib.compareBytes s p))
 | _ => none
noncomputable def qContains : List D → Option D
 | [.str s,.str [c]] => some (.bool (decide (0 ≤ Lib.indexByte s c)))
 | _ => none
noncomputable def qTrimPrefix : List D → Option D
 | [.str s,.str p] => some (.str (Lib.trimPrefix s p))
 | _ => none
noncomputable def qTrimSuffix : List D → Option D
 | [.str s,.str p] => match Nat.ble s.length 100000 with | true => some (.str (Lib.trimSuffix s p)) | false => none
 | _ => none
noncomputable def qCount : List D → Option D
 | [.str s,.str [c]] => some (.int .i64 ((Lib.countByte s c : Nat) : Int))
 | _ => none
noncomputable def qItoa : List D → Option D
 | [.int .i64 (.ofNat i)] => match Nat.blt i 100 with | true => some (.str (Lib.decDigits i)) | false => none
 | _ => none
noncomputable def qIndexB : List D → Option D
 | [.str s,.int .u8 c] => some (.int .i64 (Lib.indexByte s c.toNat.toUInt8))
 | _ => none
noncomputable def qIndex : List D → Option D
 | [.str s,.str p] => match Nat.blt s.length 100000 with | true => some (.int .i64 (Lib.index s p)) | false => none
 | _ => none
theorem qCmp_ok : ∀ ds d,qCmp ds = some d → DFun Tryz.prog W0 73 ds d:=by
 intro ds d h
 unfold qCmp at h
 split at h
 ·cases h; exact F110 _ _
 ·cases h
theorem qContains_ok : ∀ ds d,qContains ds = some d → DFun Tryz.prog W0 121 ds d:=by
 intro ds d h
 unfold qContains at h
 split at h
 ·cases h; exact F119 _ _
 ·cases h
theorem qTrimPrefix_ok : ∀ ds d,qTrimPrefix ds = some d → DFun Tryz.prog W0 123 ds d:=by
 intro ds d h
 unfold qTrimPrefix at h
 split at h
 ·cases h; exact F122 _ _
 ·cases h
theorem qTrimSuffix_ok : ∀ ds d,qTrimSuffix ds = some d → DFun Tryz.prog W0 351 ds d:=by
 intro ds d h
 unfold qTrimSuffix at h
 split at h
 ·split at h
  ·rename_i hl
   have:=Nat.le_of_ble_eq_true hl
   cases h; exact q172 _ _ (by omega)
  ·cases h
 ·cases h
theorem qCount_ok : ∀ ds d,qCount ds = some d → DFun Tryz.prog W0 138 ds d:=by
 intro ds d h
 unfold qCount at h
 split at h
 ·rename_i s c
  cases h
  exact .pure (callable Tryz.func138 rfl (by decide +kernel)) rfl rfl fun w _ => Tryz.strings_Count_one ⟨⟨s⟩⟩ c w
 ·cases h
theorem qItoa_ok : ∀ ds d,qItoa ds = some d → DFun Tryz.prog W0 230 ds d:=by
 intro ds d h
 unfold qItoa at h
 split at h
 ·split at h
  ·rename_i hl
   cases h; exact q143 _ (Nat.le_of_ble_eq_true hl)
  ·cases h
 ·cases h
theorem qIndexB_ok : ∀ ds d,qIndexB ds = some d → DFun Tryz.prog W0 179 ds d:=by
 intro ds d h
 unfold qIndexB at h
 split at h
 ·rename_i s c
  cases h
  exact .pure (callable Tryz.func179 rfl (by decide +kernel)) rfl rfl fun w _ => Tryz.stringslite_IndexByte ⟨⟨s⟩⟩ c w
 ·cases h
theorem qIndex_ok (hL : LibOk W0) : ∀ ds d,qIndex ds = some d → DFun Tryz.prog W0 162 ds d:=by
 intro ds d h
 unfold qIndex at h
 split at h
 ·rename_i s p
  split at h
  ·rename_i hl
   cases h
   obtain ⟨m,hm⟩:=hL.maxlen
   have hlt:=Nat.le_of_ble_eq_true hl
   exact .pure (callable Tryz.func162 rfl (by decide +kernel)) rfl rfl fun w hb => Tryz.stringslite_Index ⟨⟨s⟩⟩ ⟨⟨p⟩⟩ m w (by show s.length < _; omega) (cell_base hb hm)
  ·cases h
 ·cases h
theorem z390 (w : World) : Sem.run Tryz.prog (zeroValue 390) w = Result.ok (Value.agg (Array.replicate 256 (Value.bool false))) w:=by
 first | rfl | exact (by decide +kernel)
noncomputable def qIndexAny : List D → Option D
 | [.str s,.str c] => match Nat.blt s.length 100000 && (Nat.blt c.length 1000 && (s.all (fun b => Nat.blt b.toNat 128) && c.all (fun b => Nat.blt b.toNat 128))) with | true => some (.int .i64 (Lib.indexAny s c)) | false => none
 | _ => none
theorem qIndexAny_ok : ∀ ds d,qIndexAny ds = some d → DFun Tryz.prog W0 292 ds d:=by
 intro ds d h
 unfold qIndexAny at h
 split at h
 ·rename_i s c
  split at h
  ·rename_i hl
   cases h
   simp only [Bool.and_eq_true,List.all_eq_true] at hl
   obtain ⟨h1,h2,h3,h4⟩:=hl
   have h1:=Nat.le_of_ble_eq_true h1
   have h2:=Nat.le_of_ble_eq_true h2
   exact .lift (callable Tryz.func292 rfl (by decide +kernel)) rfl fun w hb => (Tryz.strings_IndexAny z390 ⟨⟨s⟩⟩ ⟨⟨c⟩⟩ w (by show s.length < _; omega) (by show c.length < _; omega) (fun j b hb => Nat.le_of_ble_eq_true (h3 b (List.mem_of_getElem? hb))) (fun j b hb => Nat.le_of_ble_eq_true (h4 b (List.mem_of_getElem? hb)))).mono fun e w' ⟨he,hw⟩ => ⟨_,he,fun C => .int _ _,hw⟩
  ·cases h
 ·cases h
/-- The table without the calls computed apart. -/
noncomputable def libL : List (Nat × (List AV → Go.Ev.St → Option (AV × Go.Ev.St))):=[(73,puO (oraD qCmp)),(121,puO (oraD qContains)),(123,puO (oraD qTrimPrefix)),(351,puO (oraD qTrimSuffix)),(138,puO (oraD qCount)),(230,puO (oraD qItoa)),(179,puO (oraD qIndexB)),(162,puO (oraD qIndex)),(292,puO (oraD qIndexAny))]
theorem libL_ok (hL : LibOk W0) : ∀ p ∈ libL,OraOk Tryz.prog W0 p.1 p.2:=by
 intro p hp
 simp only [libL,List.mem_cons,List.not_mem_nil,or_false] at hp
 rcases hp with rfl | rfl | rfl | rfl | rfl | rfl | rfl | rfl | rfl
 ·exact (oraD_ok qCmp_ok).ok
 ·exact (oraD_ok qContains_ok).ok
 ·exact (oraD_ok qTrimPrefix_ok).ok
 ·exact (oraD_ok qTrimSuffix_ok).ok
 ·exact (oraD_ok qCount_ok).ok
 ·exact (oraD_ok qItoa_ok).ok
 ·exact (oraD_ok qIndexB_ok).ok
 ·exact (oraD_ok (qIndex_ok hL)).ok
 ·exact (oraD_ok qIndexAny_ok).ok
end Go.Tame.V
/- For the seat r4: calls of Valid,computed. By program (mkaw4.py). -/
namespace Go.Tame.V
open Go Go.Proofs Go.Ev
variable {W0 : World}
set_option maxRecDepth 100000
set_option maxHeartbeats 0
set_option linter.unusedVariables false
noncomputable def v1a : List AV:=[.agg [.str 0 0,.int .i64 (.ofNat 0),.str 0 0,.str 0 0,.int .i64 (.ofNat 0),.int .i64 (.ofNat 0),.int .i64 (.ofNat 0),.int .i64 (.ofNat 315532800),.int .i64 (.ofNat 0),.int .i64 (.ofNat 0),.sl 0 0 3 (.known 3),.sl0]]
noncomputable def v1s : Go.Ev.St:=mkSt [.cells 2 36 (lay 2 [.str 1 97,.int .i64 (.ofNat 1),.str 1 97,.str 0 0,.int .i64 (.ofNat 0),.int .i64 (.ofNat 0),.int .i64 (.ofNat 0),.int .i64 (.ofNat 315532800),.int .i64 (.ofNat 0),.int .i64 (.ofNat 0),.sl0,.sl0,.str 1 100,.int .i64 (.ofNat 0),.str 0 0,.str 0 0,.int .i64 (.ofNat 5),.int .i64 (.ofNat 0),.int .i64 (.ofNat 0),.int .i64 (.ofNat 315532800),.int .i64 (.ofNat 0),.int .i64 (.ofNat 0),.sl 1 0 1 (.known 1),.sl0,.str 1 101,.int .i64 (.ofNat 0),.str 0 0,.str 0 0,.int .i64 (.ofNat 0),.int .i64 (.ofNat 0),.int .i64 (.ofNat 0),.int .i64 (.ofNat 315532800),.int .i64 (.ofNat 0),.int .i64 (.ofNat 0),.sl0,.sl0] 0 .nil) 25 12 false,
 .cells 2 12 (lay 2 [.str 1 98,.int .i64 (.ofNat 1),.str 1 98,.str 0 0,.int .i64 (.ofNat 0),.int .i64 (.ofNat 0),.int .i64 (.ofNat 0),.int .i64 (.ofNat 315532800),.int .i64 (.ofNat 0),.int .i64 (.ofNat 0),.sl0,.sl0] 0 .nil) 25 12 false]
theorem v1_run : runC (tabO libL) Tryz.prog 200 29 v1a v1s (.bool true) = true:=by decide +kernel
theorem v1_ora (hL : LibOk W0) : OraOk Tryz.prog W0 29 (puO (memo v1s v1a (.bool true))):=runC_ok rfl (tabO_ok (libL_ok hL)) v1_run rfl rfl
noncomputable def v2a : List AV:=[.agg [.str 0 0,.int .i64 (.ofNat 0),.str 0 0,.str 0 0,.int .i64 (.ofNat 0),.int .i64 (.ofNat 0),.int .i64 (.ofNat 0),.int .i64 (.ofNat 315532800),.int .i64 (.ofNat 0),.int .i64 (.ofNat 0),.sl0,.sl0]]
noncomputable def v2s : Go.Ev.St:=mkSt []
theorem v2_run : runC (tabO libL) Tryz.prog 200 29 v2a v2s (.bool true) = true:=by decide +kernel
theorem v2_ora (hL : LibOk W0) : OraOk Tryz.prog W0 29 (puO (memo v2s v2a (.bool true))):=runC_ok rfl (tabO_ok (libL_ok hL)) v2_run rfl rfl
noncomputable def v3a : List AV:=[.agg [.str 0 0,.int .i64 (.ofNat 0),.str 0 0,.str 0 0,.int .i64 (.ofNat 0),.int .i64 (.ofNat 0),.int .i64 (.ofNat 0),.int .i64 (.ofNat 315532800),.int .i64 (.ofNat 0),.int .i64 (.ofNat 0),.sl 0 0 1 (.rest 0),.sl0]]
noncomputable def v3s : Go.Ev.St:=mkSt [.cells 2 12 (lay 2 [.str 1 97,.int .i64 (.ofNat 1),.str 1 97,.str 0 0,.int .i64 (.ofNat 0),.int .i64 (.ofNat 0),.int .i64 (.ofNat 0),.int .i64 (.ofNat 315532800),.int .i64 (.ofNat 0),.int .i64 (.ofNat 0),.sl0,.sl0] 0 .nil) 25 12 true]
theorem v3_run : runC (tabO libL) Tryz.prog 200 29 v3a v3s (.bool true) = true:=by decide +kernel
theorem v3_ora (hL : LibOk W0) : OraOk Tryz.prog W0 29 (puO (memo v3s v3a (.bool true))):=runC_ok rfl (tabO_ok (libL_ok hL)) v3_run rfl rfl
noncomputable def v4a : List AV:=[.agg [.str 0 0,.int .i64 (.ofNat 0),.str 0 0,.str 0 0,.int .i64 (.ofNat 0),.int .i64 (.ofNat 0),.int .i64 (.ofNat 0),.int .i64 (.ofNat 315532800),.int .i64 (.ofNat 0),.int .i64 (.ofNat 0),.sl 0 0 3 (.rest 0),.sl0]]
noncomputable def v4s : Go.Ev.St:=mkSt [.cells 2 36 (lay 2 [.str 1 97,.int .i64 (.ofNat 1),.str 1 97,.str 0 0,.int .i64 (.ofNat 0),.int .i64 (.ofNat 0),.int .i64 (.ofNat 0),.int .i64 (.ofNat 315532800),.int .i64 (.ofNat 0),.int .i64 (.ofNat 0),.sl0,.sl0,.str 1 100,.int .i64 (.ofNat 0),.str 0 0,.str 0 0,.int .i64 (.ofNat 5),.int .i64 (.ofNat 0),.int .i64 (.ofNat 0),.int .i64 (.ofNat 315532800),.int .i64 (.ofNat 0),.int .i64 (.ofNat 0),.sl 1 0 1 (.rest 0),.sl0,.str 1 101,.int .i64 (.ofNat 0),.str 0 0,.str 0 0,.int .i64 (.ofNat 0),.int .i64 (.ofNat 0),.int .i64 (.ofNat 0),.int .i64 (.ofNat 315532800),.int .i64 (.ofNat 0),.int .i64 (.ofNat 0),.sl0,.sl0] 0 .nil) 25 12 true,
 .cells 2 12 (lay 2 [.str 1 98,.int .i64 (.ofNat 1),.str 1 98,.str 0 0,.int .i64 (.ofNat 0),.int .i64 (.ofNat 0),.int .i64 (.ofNat 0),.int .i64 (.ofNat 315532800),.int .i64 (.ofNat 0),.int .i64 (.ofNat 0),.sl0,.sl0] 0 .nil) 25 12 true]
theorem v4_run : runC (tabO libL) Tryz.prog 200 29 v4a v4s (.bool true) = true:=by decide +kernel
theorem v4_ora (hL : LibOk W0) : OraOk Tryz.prog W0 29 (puO (memo v4s v4a (.bool true))):=runC_ok rfl (tabO_ok (libL_ok hL)) v4_run rfl rfl
noncomputable def v5a : List AV:=[.agg [.str 0 0,.int .i64 (.ofNat 0),.str 0 0,.str 0 0,.int .i64 (.ofNat 0),.int .i64 (.ofNat 0),.int .i64 (.ofNat 0),.int .i64 (.ofNat 315532800),.int .i64 (.ofNat 0),.int .i64 (.ofNat 0),.sl 0 0 2 (.rest 0),.sl0]]
noncomputable def v5s : Go.Ev.St:=mkSt [.cells 2 24 (lay 2 [.str 1 97,.int .i64 (.ofNat 1),.str 1 97,.str 0 0,.int .i64 (.ofNat 0),.int .i64 (.ofNat 0),.int .i64 (.ofNat 0),.int .i64 (.ofNat 315532800),.int .i64 (.ofNat 0),.int .i64 (.ofNat 0),.sl0,.sl0,.str 1 100,.int .i64 (.ofNat 0),.str 0 0,.str 0 0,.int .i64 (.ofNat 5),.int .i64 (.ofNat 0),.int .i64 (.ofNat 0),.int .i64 (.ofNat 315532800),.int .i64 (.ofNat 0),.int .i64 (.ofNat 0),.sl 1 0 1 (.rest 0),.sl0] 0 .nil) 25 12 true,
 .cells 2 12 (lay 2 [.str 1 98,.int .i64 (.ofNat 1),.str 1 98,.str 0 0,.int .i64 (.ofNat 0),.int .i64 (.ofNat 0),.int .i64 (.ofNat 0),.int .i64 (.ofNat 315532800),.int .i64 (.ofNat 0),.int .i64 (.ofNat 0),.sl0,.sl0] 0 .nil) 25 12 true]
theorem v5_run : runC (tabO libL) Tryz.prog 200 29 v5a v5s (.bool true) = true:=by decide +kernel
theorem v5_ora (hL : LibOk W0) : OraOk Tryz.prog W0 29 (puO (memo v5s v5a (.bool true))):=runC_ok rfl (tabO_ok (libL_ok hL)) v5_run rfl rfl
noncomputable def v6a : List AV:=[.agg [.str 0 0,.int .i64 (.ofNat 0),.str 0 0,.str 0 0,.int .i64 (.ofNat 0),.int .i64 (.ofNat 0),.int .i64 (.ofNat 0),.int .i64 (.ofNat 315532800),.int .i64 (.ofNat 0),.int .i64 (.ofNat 0),.sl 0 0 2 (.rest 0),.sl0]]
noncomputable def v6s : Go.Ev.St:=mkSt [.cells 2 24 (lay 2 [.str 1 100,.int .i64 (.ofNat 0),.str 0 0,.str 0 0,.int .i64 (.ofNat 5),.int .i64 (.ofNat 0),.int .i64 (.ofNat 0),.int .i64 (.ofNat 315532800),.int .i64 (.ofNat 0),.int .i64 (.ofNat 0),.sl 1 0 1 (.rest 0),.sl0,.str 1 101,.int .i64 (.ofNat 0),.str 0 0,.str 0 0,.int .i64 (.ofNat 0),.int .i64 (.ofNat 0),.int .i64 (.ofNat 0),.int .i64 (.ofNat 315532800),.int .i64 (.ofNat 0),.int .i64 (.ofNat 0),.sl0,.sl0] 0 .nil) 25 12 true,
 .cells 2 12 (lay 2 [.str 1 98,.int .i64 (.ofNat 1),.str 1 98,.str 0 0,.int .i64 (.ofNat 0),.int .i64 (.ofNat 0),.int .i64 (.ofNat 0),.int .i64 (.ofNat 315532800),.int .i64 (.ofNat 0),.int .i64 (.ofNat 0),.sl0,.sl0] 0 .nil) 25 12 true]
theorem v6_run : runC (tabO libL) Tryz.prog 200 29 v6a v6s (.bool true) = true:=by decide +kernel
theorem v6_ora (hL : LibOk W0) : OraOk Tryz.prog W0 29 (puO (memo v6s v6a (.bool true))):=runC_ok rfl (tabO_ok (libL_ok hL)) v6_run rfl rfl
noncomputable def o29 : List AV → Go.Ev.St → Option (AV × Go.Ev.St):=orO (puO (memo v1s v1a (.bool true))) (orO (puO (memo v2s v2a (.bool true))) (orO (puO (memo v3s v3a (.bool true))) (orO (puO (memo v4s v4a (.bool true))) (orO (puO (memo v5s v5a (.bool true))) (puO (memo v6s v6a (.bool true)))))))
theorem o29_ok (hL : LibOk W0) : OraOk Tryz.prog W0 29 o29:=orO_ok (v1_ora hL) (orO_ok (v2_ora hL) (orO_ok (v3_ora hL) (orO_ok (v4_ora hL) (orO_ok (v5_ora hL) (v6_ora hL)))))
noncomputable def libL2 : List (Nat × (List AV → Go.Ev.St → Option (AV × Go.Ev.St))):=(29,o29)::libL
theorem libL2_ok (hL : LibOk W0) : ∀ p ∈ libL2,OraOk Tryz.prog W0 p.1 p.2:=by
 intro p hp
 rcases List.mem_cons.1 hp with rfl | hp
 ·exact o29_ok hL
 ·exact libL_ok hL p hp
end Go.Tame.V
