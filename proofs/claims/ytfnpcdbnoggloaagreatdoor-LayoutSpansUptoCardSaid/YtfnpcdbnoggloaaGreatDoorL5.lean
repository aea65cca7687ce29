/- A program logic of my own over the model, and contracts of this program's functions by it: part 5. No conditions of its own: each theorem states its own. -/
import Derived.Test.YtfnpcdbnoggloaaGreatDoorL4
set_option linter.unnecessarySimpa false
set_option linter.unusedSimpArgs false
set_option linter.unusedVariables false
set_option maxRecDepth 100000
set_option maxHeartbeats 16000000
namespace Go.Tame.V
open Go Go.Proofs
variable {W0:World}
theorem zF_rep (w:World) (C:Nat→Nat):Rep w C (encF zF) (.agg #[.string ⟨#[]⟩,.int .i64 0,.int .i64 0]) :=
 .agg [.str [],.int .i64 0,.int .i64 0] [.string ⟨#[]⟩,.int .i64 0,.int .i64 0] rfl (fun j d v hd hv=>by
  match j with
  | 0=>cases hd; cases hv; exact .str []
  | 1=>cases hd; cases hv; exact .int _ _
  | 2=>cases hd; cases hv; exact .int _ _
  | j+3=>simp at hd)
theorem blk_range {n:Nat} (h:n≤100000000):0≤blkV (n:Int)∧blkV (n:Int)≤50000:=by
 unfold blkV
 have e2:(n:Int).tdiv 2048=n/2048:=Int.tdiv_eq_ediv_of_nonneg (by omega)
 have e3:(n:Int).tmod 2048=n%2048:=Int.tmod_eq_emod_of_nonneg (by omega)
 rw [e2,e3]
 split<;>omega
theorem data_le {p:PV} {B:Nat}:∀ (l:List PF) (s:XS),(∀ f∈l,f.data.length≤B)→(∀ q d,aget s.data q=some d→d.length≤B)→∀ q d,aget (l.foldl (xs1 p) s).data q=some d→d.length≤B
 | [],s,_,h=>h
 | f::l,s,h1,h=>by
  refine data_le l _ (fun g hg=>h1 g (List.mem_cons_of_mem _ hg)) fun q d hq=>?_
  have e:(xs1 p s f).data=aset s.data f.path f.data:=by unfold xs1; split<;>rfl
  rw [e,aget_aset] at hq
  split at hq
  ·cases hq; exact h1 f List.mem_cons_self
  exact h q d hq
theorem data_len {p:PV} {l:List PF} (h:∀ f∈l,f.data.length≤100000000) (q:List UInt8):((aget (xs1s p l).data q).getD []).length≤100000000:=by
 cases hg:aget (xs1s p l).data q with
 | none=>exact Nat.zero_le _
 | some d=>exact data_le l _ h (fun q d hq=>by cases hq) q d hg
theorem xs2_range {p:PV} {T:List Int} (hT2:∀ k∈T,k≤1000000) {data:List (List UInt8×List UInt8)} (hd:∀ q,((aget data q).getD []).length≤100000000) (s:YS) (q:List UInt8) (h:0≤s.a) :
  0≤(xs2 p T data s q).a∧(xs2 p T data s q).a≤max s.a 1000001+50000:=by
 unfold xs2
 have h1:=blk_range (hd q)
 have h2:=findW_range (n:=blkV ((aget data q).getD []).length) hT2 s.a
 split
 ·omega
 show 0≤_+_∧_+_≤_
 omega
theorem xs2s_range {p:PV} {T:List Int} (hT2:∀ k∈T,k≤1000000) {data:List (List UInt8×List UInt8)} (hd:∀ q,((aget data q).getD []).length≤100000000):∀ (l:List (List UInt8)) (s:YS),0≤s.a →
  0≤(xs2s p T data s l).a∧(xs2s p T data s l).a≤max s.a 1000001+50000*(l.length:Int)
 | [],s,h=>by show 0≤s.a∧s.a≤max s.a 1000001+50000*(0:Int); omega
 | q::l,s,h=>by
  have h1:=xs2_range (p:=p) hT2 hd s q h
  have h2:=xs2s_range (p:=p) hT2 hd l (xs2 p T data s q) h1.1
  have e:xs2s p T data s (q::l)=xs2s p T data (xs2 p T data s q) l:=rfl
  rw [e,List.length_cons]
  omega
theorem pfs_get {l:List PF} {i:Nat} (h:i<l.length):(l.map encPF)[((i:Int)).toNat]? = some (encPF l[i]):=by simp [h]
theorem H145 (p:PV) (T:List Int) (hT:T.length<1000000) (hT2:∀ k∈T,k≤1000000) (a:Int) (ha:0≤a) (ha2:a≤10000000000) (ho:p.order.length≤100000) (hfl:p.files.length<1000000) (hfd:∀ f∈p.files,f.data.length≤100000000) (bp bg b7 b8:Nat):DCall Tryz.prog W0 145 [.box 4000 bp 0,.fn (.func 142) [] [.box 4201 b7 0,.box 4202 b8 0]] (look [(4000,.box bp (planC p bg)),(4001,.mp bg (encMap encF p.given)),(4201,.box b7 [.sl .none 1 (intsD T)]),(4202,.box b8 [Iv a])]) fun d H'=>∃ bo bs,d=.tup [.raw (.map (some bo)),.raw (.map (some bs))]∧H'=look [(4000,.box bp (planC p bg)),(4001,.mp bg (encMap encF p.given)),(4201,.box b7 [.sl .none 1 (intsD T)]),(4202,.box b8 [Iv (extV p T a).a]),(4002,.mp bo (encMap encF (extV p T a).own)),(4003,.mp bs (encMap encF (extV p T a).sh))]:=by
 refine DCall.intro ti_ok Tryz.func145 rfl (by decide +kernel) Tryz.ntmps145 rfl fun Γ=>?_
 apply Sr;apply Sq;refine Tri.regionX ti_ok ?_;(conv=>whnf);refine .inr (XOp.mpMake fun bo=>?_);(conv=>whnf);refine .inr (XOp.mpMake fun bs=>?_);apply Sq;refine Tri.regionX ti_ok ?_;(conv=>whnf);refine .inr (XOp.mpMake fun bd=>?_);apply Sq;apply Sr;apply Rl;apply Bk
 refine Tri.loopK (α:={ i:Nat // i≤p.files.length }) (fun x=>[(0,.box 4000 bp 0),(1,.fn (.func 142) [] [.box 4201 b7 0,.box 4202 b8 0]),(6,.raw (.map (some bo))),(7,.raw (.map (some bs))),(8,.raw (.map (some bd))),(27,.sl .none 2 (p.files.map encPF)),(28,Iv ((p.files.map encPF).length:Nat)),(29,Iv x.1)]) (fun x=>[(4000,.box bp (planC p bg)),(4001,.mp bg (encMap encF p.given)),(4201,.box b7 [.sl .none 1 (intsD T)]),(4202,.box b8 [Iv a]),(21,.mp bo (encMap encF (xs1s p (p.files.take x.1)).own)),(22,.mp bs (encMap encF (xs1s p (p.files.take x.1)).sh)),(23,.mp bd (encMap D.str (xs1s p (p.files.take x.1)).data))]) (fun x=>p.files.length-x.1) ⟨0,Nat.zero_le _⟩ [(4000,4000),(4001,4001),(4201,4201),(4202,4202),(21,21),(22,22),(23,23)]
  ⟨Z,rfl,Y⟩ ?_
 rintro ⟨i,hi⟩;dsimp only at hi ⊢;apply Sr;apply Sq;refine Cd (decide ((i:Int)<((p.files.map encPF).length:Nat))) rfl (fun hc=>?_) (fun hc=>?_)
 ·apply Sk
  have hia:i<p.files.length:=by simpa using hc
  have hnx:=xs1s_next p hia
  generalize xs1s p (p.files.take i)=s at *;apply Sq;apply Bk;apply Sr;(conv=>whnf);refine Sp ?_;(conv=>whnf);refine ⟨encPF p.files[i],fun _=>pfs_get hia,?_⟩;(conv=>whnf);intro b10;apply Rl;apply Sq;refine Tri.regionX ti_ok ?_;apply Il;apply Rl;apply Il;apply Rl;(conv=>whnf);refine .inr (XOp.mpSet 23 (kt:=9) (et:=9) (enc:=D.str) (v:=p.files[i].data) rfl rfl rfl rfl rfl rfl ?_);apply Sq;refine Tri.forgetK [(0,.box 4000 bp 0),(1,.fn (.func 142) [] [.box 4201 b7 0,.box 4202 b8 0]),(6,.raw (.map (some bo))),(7,.raw (.map (some bs))),(8,.raw (.map (some bd))),(10,.box 10 b10 0),(27,.sl .none 2 (p.files.map encPF)),(28,Iv ((p.files.map encPF).length:Nat)),(29,Iv (i:Int))] [(4000,.box bp (planC p bg)),(4001,.mp bg (encMap encF p.given)),(4201,.box b7 [.sl .none 1 (intsD T)]),(4202,.box b8 [Iv a]),(21,.mp bo (encMap encF s.own)),(22,.mp bs (encMap encF s.sh)),(23,.mp bd (encMap D.str (aset s.data p.files[i].path p.files[i].data))),(10,.box b10 (encPF p.files[i]).cells)] ([(4000,4000),(4001,4001),(4201,4201),(4202,4202),(21,21),(22,22),(23,23),(10,10)]) ⟨Z,rfl,Y⟩ ?_
  refine Tri.bitsG ti_ok mixed (α:=Nat) (fun y f=>[(0,.box 4000 bp 0),(1,.fn (.func 142) [] [.box 4201 b7 0,.box 4202 b8 0]),(6,.raw (.map (some bo))),(7,.raw (.map (some bs))),(8,.raw (.map (some bd))),(10,.box 10 b10 0),(27,.sl .none 2 (p.files.map encPF)),(28,Iv ((p.files.map encPF).length:Nat)),(29,Iv (i:Int)),(39,bif f 0 then .box 4000 bp 0 else .any),(40,bif f 1 then .box 4000 bp 0 else .any),(41,bif f 2 then .box 4000 bp 15 else .any),(42,bif f 3 then .raw (.map (some bg)) else .any),(43,bif f 4 then .box 10 b10 0 else .any),(44,bif f 5 then .str p.files[i].path else .any),(45,bif f 6 then .tup [encF ((aget p.given p.files[i].path).getD zF),.bool (aget p.given p.files[i].path).isSome] else .any),(38,bif f 7 then .tup [encF ((aget p.given p.files[i].path).getD zF),.bool (aget p.given p.files[i].path).isSome] else .any),(46,bif f 8 then encF ((aget p.given p.files[i].path).getD zF) else .any),(47,bif f 9 then .bool (aget p.given p.files[i].path).isSome else .any),(11,bif f 10 then .box 11 y 0 else .any),(12,bif f 12 then .bool (aget p.given p.files[i].path).isSome else .any)])
   (fun y f=>look ([(4000,.box bp (planC p bg)),(4001,.mp bg (encMap encF p.given)),(4201,.box b7 [.sl .none 1 (intsD T)]),(4202,.box b8 [Iv a]),(21,.mp bo (encMap encF s.own)),(22,.mp bs (encMap encF s.sh)),(23,.mp bd (encMap D.str (aset s.data p.files[i].path p.files[i].data))),(10,.box b10 (encPF p.files[i]).cells)]++(bif f 10 then [(11,.box y (bif f 11 then (encF ((aget p.given p.files[i].path).getD zF)).cells else [.str [],Iv 0,Iv 0]))] else []))) (by decide +kernel) 0 ?_ ?_ ?_ ?_
  ·exact ⟨.refl _,.refl _,.refl _,.refl _,.refl _,.refl _,.refl _,.refl _,.refl _,.any _,.any _,.any _,.any _,.any _,.any _,.any _,.any _,.any _,.any _,.any _,.any _,trivial⟩
  ·exact SubHF.of (hs:=[(4000,.box bp (planC p bg)),(4001,.mp bg (encMap encF p.given)),(4201,.box b7 [.sl .none 1 (intsD T)]),(4202,.box b8 [Iv a]),(21,.mp bo (encMap encF s.own)),(22,.mp bs (encMap encF s.sh)),(23,.mp bd (encMap D.str (aset s.data p.files[i].path p.files[i].data))),(10,.box b10 (encPF p.files[i]).cells)]) ⟨rfl,Y⟩
  ·(conv=>whnf);refine Qo ?_;refine Qo ?_;refine Qo ?_;refine ⟨fun y f hI=>?_,?_⟩
   ·obtain ⟨f,rfl⟩:= hI.o f 11 3;apply Ti;apply Rl;(conv=>whnf);exact Ex y
   refine Qo ?_;refine ⟨fun y f hI=>?_,?_⟩
   ·obtain ⟨f,rfl⟩:= hI.o f 11 5;apply Ti;apply Rl;(conv=>whnf);exact Ex y
   refine ⟨fun y f hI=>?_,?_⟩
   ·obtain ⟨f,rfl⟩:= hI.o f 11 6;apply Tk;refine XOp.mpGet 4001 (kt:=9) (et:=53) (enc:=encF) (z:=zF) rfl rfl rfl rfl rfl (fun w=>rfl) (fun w C=>zF_rep w C) ?_;exact Ex y
   refine Qo ?_;refine Qo ?_;refine Qo ?_;refine ⟨fun y f hI=>?_,?_⟩
   ·obtain ⟨f,rfl⟩:= hI.o f 11 10;apply Ti;(conv=>whnf);intro nb;(conv=>whnf);exact Ex nb (SubHF.of (hs:=[(4000,.box bp (planC p bg)),(4001,.mp bg (encMap encF p.given)),(4201,.box b7 [.sl .none 1 (intsD T)]),(4202,.box b8 [Iv a]),(21,.mp bo (encMap encF s.own)),(22,.mp bs (encMap encF s.sh)),(23,.mp bd (encMap D.str (aset s.data p.files[i].path p.files[i].data))),(10,.box b10 (encPF p.files[i]).cells),(11,.box nb [.str [],Iv 0,Iv 0])]) ⟨rfl,Y⟩)
   refine ⟨fun y f hI=>?_,?_⟩
   ·(conv=>whnf);apply Ti;apply Rl;(conv=>whnf);exact Ex y (SubHF.of (hs:=[(4000,.box bp (planC p bg)),(4001,.mp bg (encMap encF p.given)),(4201,.box b7 [.sl .none 1 (intsD T)]),(4202,.box b8 [Iv a]),(21,.mp bo (encMap encF s.own)),(22,.mp bs (encMap encF s.sh)),(23,.mp bd (encMap D.str (aset s.data p.files[i].path p.files[i].data))),(10,.box b10 (encPF p.files[i]).cells),(11,.box y (encF ((aget p.given p.files[i].path).getD zF)).cells)]) ⟨rfl,Y⟩)
   refine Qo ?_;exact trivial
  intro y f hfl;(conv=>whnf);refine Tri.forgetG [(0,.box 4000 bp 0),(1,.fn (.func 142) [] [.box 4201 b7 0,.box 4202 b8 0]),(6,.raw (.map (some bo))),(7,.raw (.map (some bs))),(8,.raw (.map (some bd))),(10,.box 10 b10 0),(27,.sl .none 2 (p.files.map encPF)),(28,Iv ((p.files.map encPF).length:Nat)),(29,Iv (i:Int)),(11,.box 11 y 0),(12,.bool (aget p.given p.files[i].path).isSome)] (look [(4000,.box bp (planC p bg)),(4001,.mp bg (encMap encF p.given)),(4201,.box b7 [.sl .none 1 (intsD T)]),(4202,.box b8 [Iv a]),(21,.mp bo (encMap encF s.own)),(22,.mp bs (encMap encF s.sh)),(23,.mp bd (encMap D.str (aset s.data p.files[i].path p.files[i].data))),(10,.box b10 (encPF p.files[i]).cells),(11,.box y (encF ((aget p.given p.files[i].path).getD zF)).cells)]) (.same ⟨.refl _,.refl _,.refl _,.refl _,.refl _,.refl _,.refl _,.refl _,.refl _,?_,?_,trivial⟩ (SubHF.of ⟨rfl,rfl,rfl,rfl,rfl,rfl,rfl,rfl,?_,trivial⟩)) ?_
  ·show DLe (bif f 10 then _ else _) _
   rw [hfl 10 (by decide +kernel)]; exact .refl _
  ·show DLe (bif f 12 then _ else _) _
   rw [hfl 12 (by decide +kernel)]; exact .refl _
  ·show look (([(4000,_),(4001,_),(4201,_),(4202,_),(21,_),(22,_),(23,_),(10,_)]:List (Nat×HObj))++(bif f 10 then _ else _)) 11=_
   rw [hfl 10 (by decide +kernel),hfl 11 (by decide +kernel)]; rfl
  apply Sr;refine Cd (aget p.given p.files[i].path).isSome rfl (fun hc=>?_) (fun hc=>?_)
  ·apply Sq;refine Tri.regionX ti_ok ?_;apply Il;apply Rl;apply Il;apply Rl;(conv=>whnf);refine .inr (XOp.mpSet 21 (kt:=9) (et:=53) (enc:=encF) (v:=((aget p.given p.files[i].path).getD zF)) rfl rfl rfl rfl rfl rfl ?_);apply Sq;refine Tri.regionX ti_ok ?_;apply Il;apply Rl;(conv=>whnf);refine .inr (XOp.mpGet 22 (kt:=9) (et:=53) (enc:=encF) (z:=zF) rfl rfl rfl rfl rfl (fun w=>rfl) (fun w C=>zF_rep w C) ?_);(conv=>whnf);intro b13;apply Il;apply Rl;apply Sr;apply Rl;apply Hh;refine Pk ?_;refine Cd (bif p.m.share then !(aget s.sh p.files[i].data).isSome else false) rfl (fun hc2=>?_) (fun hc2=>?_)
   ·refine Tri.regionX ti_ok ?_;apply Il;apply Rl;apply Il;apply Rl;(conv=>whnf);refine .inr (XOp.mpSet 22 (kt:=9) (et:=53) (enc:=encF) (v:=((aget p.given p.files[i].path).getD zF)) rfl rfl rfl rfl rfl rfl ?_);apply Rg;refine Ir ?_;(conv=>whnf)
    have hx:xs1s p (p.files.take (i+1))=⟨aset s.data p.files[i].path p.files[i].data,aset s.own p.files[i].path ((aget p.given p.files[i].path).getD zF),aset s.sh p.files[i].data ((aget p.given p.files[i].path).getD zF)⟩:=by rw [hnx,xs1,if_pos hc,if_pos hc2]
    exact ⟨⟨i+1,hia⟩,[(4000,4000),(4001,4001),(4201,4201),(4202,4202),(21,21),(22,22),(23,23)],by show p.files.length-(i+1)<p.files.length-i; omega,Z,rfl,rfl,rfl,rfl,rfl,rfl,rfl,rfl,rfl,rfl,congrArg (fun z=>some (HObj.mp bo (encMap encF z))) (by rw [hx]),rfl,congrArg (fun z=>some (HObj.mp bs (encMap encF z))) (by rw [hx]),rfl,congrArg (fun z=>some (HObj.mp bd (encMap D.str z))) (by rw [hx]),trivial⟩
   apply Sk;apply Rg;refine Ir ?_;(conv=>whnf)
   have hx:xs1s p (p.files.take (i+1))=⟨aset s.data p.files[i].path p.files[i].data,aset s.own p.files[i].path ((aget p.given p.files[i].path).getD zF),s.sh⟩:=by rw [hnx,xs1,if_pos hc,if_neg (by rw [hc2]; decide)]
   exact ⟨⟨i+1,hia⟩,[(4000,4000),(4001,4001),(4201,4201),(4202,4202),(21,21),(22,22),(23,23)],by show p.files.length-(i+1)<p.files.length-i; omega,Z,rfl,rfl,rfl,rfl,rfl,rfl,rfl,rfl,rfl,rfl,congrArg (fun z=>some (HObj.mp bo (encMap encF z))) (by rw [hx]),rfl,congrArg (fun z=>some (HObj.mp bs (encMap encF z))) (by rw [hx]),rfl,congrArg (fun z=>some (HObj.mp bd (encMap D.str z))) (by rw [hx]),trivial⟩
  apply Sk;apply Rg;refine Ir ?_;(conv=>whnf)
  have hx:xs1s p (p.files.take (i+1))=⟨aset s.data p.files[i].path p.files[i].data,s.own,s.sh⟩:=by rw [hnx,xs1,if_neg (by rw [hc]; decide)]
  exact ⟨⟨i+1,hia⟩,[(4000,4000),(4001,4001),(4201,4201),(4202,4202),(21,21),(22,22),(23,23)],by show p.files.length-(i+1)<p.files.length-i; omega,Z,rfl,rfl,rfl,rfl,rfl,rfl,rfl,rfl,rfl,rfl,congrArg (fun z=>some (HObj.mp bo (encMap encF z))) (by rw [hx]),rfl,congrArg (fun z=>some (HObj.mp bs (encMap encF z))) (by rw [hx]),rfl,congrArg (fun z=>some (HObj.mp bd (encMap D.str z))) (by rw [hx]),trivial⟩
 have hin:i=p.files.length:=by simp at hc; omega
 subst hin;rw [List.take_length]
 have hdl:=data_len (p:=p) hfd
 have hext:extV p T a=xs2s p T (xs1s p p.files).data ⟨(xs1s p p.files).own,(xs1s p p.files).sh,a⟩ p.order:=rfl
 rw [hext]
 have hrg:=fun l=>xs2s_range (p:=p) hT2 hdl l ⟨(xs1s p p.files).own,(xs1s p p.files).sh,a⟩ ha
 generalize xs1s p p.files=Z at *;obtain ⟨DT,o0,s0⟩:=Z;dsimp only at hdl hrg ⊢;refine Tri.exit ?_;apply Sq;apply Sr;apply Rl;apply Bk
 refine Tri.loopK (α:={ i:Nat // i≤p.order.length }) (fun x=>[(0,.box 4000 bp 0),(1,.fn (.func 142) [] [.box 4201 b7 0,.box 4202 b8 0]),(6,.raw (.map (some bo))),(7,.raw (.map (some bs))),(8,.raw (.map (some bd))),(77,.sl .none 1 (strs p.order)),(78,Iv ((strs p.order).length:Nat)),(79,Iv x.1)]) (fun x=>[(4000,.box bp (planC p bg)),(4001,.mp bg (encMap encF p.given)),(4201,.box b7 [.sl .none 1 (intsD T)]),(4202,.box b8 [Iv (xs2s p T DT ⟨o0,s0,a⟩ (p.order.take x.1)).a]),(21,.mp bo (encMap encF (xs2s p T DT ⟨o0,s0,a⟩ (p.order.take x.1)).own)),(22,.mp bs (encMap encF (xs2s p T DT ⟨o0,s0,a⟩ (p.order.take x.1)).sh)),(23,.mp bd (encMap D.str DT))]) (fun x=>p.order.length-x.1) ⟨0,Nat.zero_le _⟩ [(4000,4000),(4001,4001),(4201,4201),(4202,4202),(21,21),(22,22),(23,23)]
  ⟨Z,rfl,Y⟩ ?_
 rintro ⟨i,hi⟩;dsimp only at hi ⊢;apply Sr;apply Sq;refine Cd (decide ((i:Int)<((strs p.order).length:Nat))) rfl (fun hc=>?_) (fun hc=>?_)
 ·apply Sk
  have hia:i<p.order.length:=by simpa [strs] using hc
  have hnx:=xs2s_next p T DT ⟨o0,s0,a⟩ hia
  have hr0:=hrg (p.order.take i)
  rw [List.length_take] at hr0
  have hd0:=hdl p.order[i]
  have hb0:=blk_range hd0
  generalize xs2s p T DT ⟨o0,s0,a⟩ (p.order.take i)=y at *;generalize hdd:(aget DT p.order[i]).getD []=d at *;apply Sq;apply Bk;apply Sr;(conv=>whnf)
  refine ⟨fun _=>by simp [strs]; omega,?_⟩
  (conv=>whnf);refine ⟨.str p.order[i],fun _=>strs_get hia,?_⟩;apply Sq;refine Tri.regionX ti_ok ?_;(conv=>whnf);refine .inr (XOp.mpGet 23 (kt:=9) (et:=9) (enc:=D.str) (z:=[]) rfl rfl rfl rfl rfl (fun w=>rfl) (fun w C=>.str _) ?_);rw [hdd];apply S2;refine Tri.regionX ti_ok ?_;(conv=>whnf);refine .inr (XOp.mpGet 22 (kt:=9) (et:=53) (enc:=encF) (z:=zF) rfl rfl rfl rfl rfl (fun w=>rfl) (fun w C=>zF_rep w C) ?_);(conv=>whnf);intro b18;apply Il;apply Rl;apply Sr;refine Cd (aget y.sh d).isSome rfl (fun hc2=>?_) (fun hc2=>?_)
  ·refine Tri.exit ?_;apply Rg;refine Ir ?_;(conv=>whnf)
   have hx:xs2s p T DT ⟨o0,s0,a⟩ (p.order.take (i+1))=y:=by rw [hnx,xs2,hdd,if_pos hc2]
   exact ⟨⟨i+1,hia⟩,[(4000,4000),(4001,4001),(4201,4201),(4202,4202),(21,21),(22,22),(23,23)],by show p.order.length-(i+1)<p.order.length-i; omega,Z,rfl,rfl,rfl,rfl,rfl,rfl,rfl,rfl,congrArg (fun z=>some (HObj.box b8 [Iv z])) (by rw [hx]),rfl,congrArg (fun z=>some (HObj.mp bo (encMap encF z))) (by rw [hx]),rfl,congrArg (fun z=>some (HObj.mp bs (encMap encF z))) (by rw [hx]),rfl,Y⟩
  apply Sk;apply Sq;refine Tri.regionX ti_ok ?_;(conv=>whnf);refine .inl ⟨[Iv (d.length:Nat)],_,fun _=>H40 (d.length:Nat) (by omega) (by omega),Z,?_⟩;(conv=>whnf);refine .inr (XOp.call rfl [Iv (blkV (d.length:Nat)),.box 4201 b7 0,.box 4202 b8 0] [(4201,4201),(4202,4202)] (DCall.heapD2 rfl rfl (H142 T hT hT2 y.a (blkV (d.length:Nat)) hr0.1 (by omega) hb0.1 (by omega) b7 b8)) rfl Z ?_);rintro d' H' ⟨rfl,rfl⟩;refine ⟨_,.refl _,?_⟩;(conv=>whnf);intro b20;apply Il;apply Rl;apply Sq;refine Tri.regionX ti_ok ?_;apply Il;apply Rl;(conv=>whnf);refine .inr (XOp.mpSet 21 (kt:=9) (et:=53) (enc:=encF) (v:=⟨p.order[i],findW T (blkV (d.length:Nat)) y.a,(d.length:Nat)⟩) rfl rfl rfl rfl rfl rfl ?_);apply Sr;apply Rl;refine Cd p.m.share rfl (fun hc3=>?_) (fun hc3=>?_)
  ·refine Tri.regionX ti_ok ?_;apply Il;apply Rl;(conv=>whnf);refine .inr (XOp.mpSet 22 (kt:=9) (et:=53) (enc:=encF) (v:=⟨p.order[i],findW T (blkV (d.length:Nat)) y.a,(d.length:Nat)⟩) rfl rfl rfl rfl rfl rfl ?_);apply Rg;refine Ir ?_;(conv=>whnf)
   have hx:xs2s p T DT ⟨o0,s0,a⟩ (p.order.take (i+1))=⟨aset y.own p.order[i] ⟨p.order[i],findW T (blkV (d.length:Nat)) y.a,(d.length:Nat)⟩,aset y.sh d ⟨p.order[i],findW T (blkV (d.length:Nat)) y.a,(d.length:Nat)⟩,findW T (blkV (d.length:Nat)) y.a+blkV (d.length:Nat)⟩:=by rw [hnx,xs2,hdd,if_neg (by rw [hc2]; decide),if_pos hc3]
   exact ⟨⟨i+1,hia⟩,[(4000,4000),(4001,4001),(4201,4201),(4202,4202),(21,21),(22,22),(23,23)],by show p.order.length-(i+1)<p.order.length-i; omega,Z,rfl,rfl,rfl,rfl,rfl,rfl,rfl,rfl,congrArg (fun z=>some (HObj.box b8 [Iv z])) (by rw [hx]),rfl,congrArg (fun z=>some (HObj.mp bo (encMap encF z))) (by rw [hx]),rfl,congrArg (fun z=>some (HObj.mp bs (encMap encF z))) (by rw [hx]),rfl,Y⟩
  apply Sk;apply Rg;refine Ir ?_;(conv=>whnf)
  have hx:xs2s p T DT ⟨o0,s0,a⟩ (p.order.take (i+1))=⟨aset y.own p.order[i] ⟨p.order[i],findW T (blkV (d.length:Nat)) y.a,(d.length:Nat)⟩,y.sh,findW T (blkV (d.length:Nat)) y.a+blkV (d.length:Nat)⟩:=by rw [hnx,xs2,hdd,if_neg (by rw [hc2]; decide),if_neg (by rw [hc3]; decide)]
  exact ⟨⟨i+1,hia⟩,[(4000,4000),(4001,4001),(4201,4201),(4202,4202),(21,21),(22,22),(23,23)],by show p.order.length-(i+1)<p.order.length-i; omega,Z,rfl,rfl,rfl,rfl,rfl,rfl,rfl,rfl,congrArg (fun z=>some (HObj.box b8 [Iv z])) (by rw [hx]),rfl,congrArg (fun z=>some (HObj.mp bo (encMap encF z))) (by rw [hx]),rfl,congrArg (fun z=>some (HObj.mp bs (encMap encF z))) (by rw [hx]),rfl,Y⟩
 have hin:i=p.order.length:=by simp [strs] at hc; omega
 subst hin;rw [List.take_length];generalize xs2s p T DT ⟨o0,s0,a⟩ p.order=y at *;refine Tri.exit ?_;apply Sr;(conv=>whnf);refine Tri.retK [(4,.raw (.map (some bo))),(5,.raw (.map (some bs)))] [(4000,.box bp (planC p bg)),(4001,.mp bg (encMap encF p.given)),(4201,.box b7 [.sl .none 1 (intsD T)]),(4202,.box b8 [Iv y.a]),(4002,.mp bo (encMap encF y.own)),(4003,.mp bs (encMap encF y.sh))] [(4000,4000),(4001,4001),(4201,4201),(4202,4202),(4002,21),(4003,22)] ⟨Z,rfl,Y⟩ ?_;(conv=>whnf);exact ⟨.tup [.raw (.map (some bo)),.raw (.map (some bs))],(show LeL [.raw (.map (some bo)),.raw (.map (some bs))] [.raw (.map (some bo)),.raw (.map (some bs))] from Z),bo,bs,rfl,rfl⟩
def zN:NV:=⟨[],0,[],[],0,0,0,0,0,0,[],[]⟩
theorem zN_rep (w:World) (C:Nat→Nat):Rep w C (encTop zN) (.agg #[.string ⟨#[]⟩,.int .i64 0,.string ⟨#[]⟩,.string ⟨#[]⟩,.int .i64 0,.int .i64 0,.int .i64 0,.int .i64 0,.int .i64 0,.int .i64 0,.slice none 0 0,.slice none 0 0]) :=
 .agg (encTop zN).cells [.string ⟨#[]⟩,.int .i64 0,.string ⟨#[]⟩,.string ⟨#[]⟩,.int .i64 0,.int .i64 0,.int .i64 0,.int .i64 0,.int .i64 0,.int .i64 0,.slice none 0 0,.slice none 0 0] rfl (fun j d v hd hv=>by
  match j with
  | 0=>cases hd; cases hv; exact .str []
  | 1=>cases hd; cases hv; exact .int _ _
  | 2=>cases hd; cases hv; exact .str []
  | 3=>cases hd; cases hv; exact .str []
  | 4=>cases hd; cases hv; exact .int _ _
  | 5=>cases hd; cases hv; exact .int _ _
  | 6=>cases hd; cases hv; exact .int _ _
  | 7=>cases hd; cases hv; exact .int _ _
  | 8=>cases hd; cases hv; exact .int _ _
  | 9=>cases hd; cases hv; exact .int _ _
  | 10=>cases hd; cases hv; exact .sl0 .none 12 none trivial
  | 11=>cases hd; cases hv; exact .sl0 .none 2 none trivial
  | j+12=>simp [encTop,D.cells] at hd)
def volD:D:=.agg [.str [],.str [],.str [],.str [],.str [],Iv 1,Iv 0,Iv 0]
def bD (o:OV) (n:NV) (bn be:Nat):D:=.agg [.bool o.jol,.bool o.rock,Iv o.zone,.sl .none 6 (o.boot.map encB),.str [],.str [],.str [],.str [],.str [],Iv 1,Iv 0,Iv 0,.str n.name,Iv n.kind,.str n.text,.str n.target,Iv n.n1,Iv n.n2,Iv n.n3,Iv n.n4,Iv n.n5,Iv n.n6,.sl .none 12 (n.kids.map enc),.sl .none 2 (n.streams.map encS),.raw (.map (some bn)),.raw (.map (some be))]
def lnD (id:List UInt8) (time zone flags leads:Int) (L:D):D:=.agg [.str id,Iv 0,Iv 0,Iv time,Iv zone,Iv flags,Iv 1,.str [],Iv leads,.fn (.func 229) [] [],L,.nils]
theorem H159 (o:OV) (n m:NV) (bn be:Nat) (id:List UInt8) (leads fl:Int) (hf:fl=bif decide ((0:Int)≤leads) then 2 else 0):DFun Tryz.prog W0 159 [.elm 26 [bD o n bn be] 0 0,.str id,encTop m,Iv leads] (lnD id m.n4 o.zone fl leads .nils):=by
 refine Fi Tryz.func159 rfl Tryz.ntmps159 fun Γ=>?_
 apply Sr;(conv=>whnf);intro b6;(conv=>whnf);intro b8;apply Sq
 refine Tri.bitsG ti_ok mixed (α:=Nat) (fun y f=>[(0,.elm 26 [bD o n bn be] 0 0),(1,.str id),(3,Iv leads),(6,.box 6 b6 0),(8,.box 8 b8 0),(10,bif f 0 then .str id else .any),(11,bif f 1 then .box 6 b6 7 else .any),(12,bif f 2 then Iv m.n4 else .any),(13,bif f 3 then .elm 26 [bD o n bn be] 0 0 else .any),(14,bif f 4 then .elm 26 [bD o n bn be] 0 0 else .any),(15,bif f 5 then .elm 26 [bD o n bn be] 0 0 else .any),(16,bif f 6 then .elm 26 [bD o n bn be] 0 2 else .any),(17,bif f 7 then Iv o.zone else .any),(18,bif f 8 then .elm 26 [bD o n bn be] 0 0 else .any),(19,bif f 9 then .elm 26 [bD o n bn be] 0 0 else .any),(20,bif f 10 then .elm 26 [bD o n bn be] 0 4 else .any),(21,bif f 11 then .elm 26 [bD o n bn be] 0 9 else .any),(22,bif f 12 then Iv 1 else .any),(23,bif f 13 then .agg [.str id,Iv 0,Iv 0,Iv m.n4,Iv o.zone,Iv 0,Iv 1,.str []] else .any),(9,bif f 14 then .box 9 y 0 else .any)])
  (fun y f=>look ([(6,.box b6 (encTop m).cells),(8,.box b8 [.str [],Iv 0,Iv 0,Iv 0,Iv 0,Iv 0,Iv 0,.str [],Iv 0,.raw .nilFunc,.nils,.nils])]++(bif f 15 then [(9,.box y [.str id,Iv 0,Iv 0,Iv m.n4,Iv o.zone,Iv 0,Iv 1,.str []])] else (bif f 14 then [(9,.box y [.str [],Iv 0,Iv 0,Iv 0,Iv 0,Iv 0,Iv 0,.str []])] else [])))) (by decide +kernel) 0 ?_ ?_ ?_ ?_
 ·exact ⟨.refl _,.refl _,.refl _,.refl _,.refl _,.any _,.any _,.any _,.any _,.any _,.any _,.any _,.any _,.any _,.any _,.any _,.any _,.any _,.any _,.any _,trivial⟩
 ·exact SubHF.of (hs:=[(6,.box b6 (encTop m).cells),(8,.box b8 [.str [],Iv 0,Iv 0,Iv 0,Iv 0,Iv 0,Iv 0,.str [],Iv 0,.raw .nilFunc,.nils,.nils])]) ⟨rfl,Y⟩
 ·(conv=>whnf);refine Qo ?_;refine Qo ?_;refine ⟨fun y f hI=>?_,?_⟩
  ·obtain ⟨f,rfl⟩:= hI.o f 15 2;apply Ti;apply Rl;(conv=>whnf);exact Ex y
  refine Qo ?_;refine Qo ?_;refine Qo ?_;refine Qo ?_;refine ⟨fun y f hI=>?_,?_⟩
  ·obtain ⟨f,rfl⟩:= hI.o f 15 7;apply Ti;refine Lo (bD o n bn be) ?_;(conv=>whnf);exact Ex y
  refine Qo ?_;refine Qo ?_;refine Qo ?_;refine Qo ?_;refine ⟨fun y f hI=>?_,?_⟩
  ·obtain ⟨f,rfl⟩:= hI.o f 15 12;apply Ti;refine Lo (bD o n bn be) ?_;(conv=>whnf);exact Ex y
  refine Qo ?_;refine ⟨fun y f hI=>?_,?_⟩
  ·obtain ⟨f,rfl⟩:= hI.o f 15 14;apply Ti;(conv=>whnf);intro pnb;(conv=>whnf);exact Ex pnb (SubHF.of (hs:=[(6,.box b6 (encTop m).cells),(8,.box b8 [.str [],Iv 0,Iv 0,Iv 0,Iv 0,Iv 0,Iv 0,.str [],Iv 0,.raw .nilFunc,.nils,.nils]),(9,.box pnb [.str [],Iv 0,Iv 0,Iv 0,Iv 0,Iv 0,Iv 0,.str []])]) (by exact ⟨rfl,Y⟩))
  refine ⟨fun y f hI=>?_,?_⟩
  ·(conv=>whnf);apply Ti;apply Rl;(conv=>whnf);exact Ex y (SubHF.of (hs:=[(6,.box b6 (encTop m).cells),(8,.box b8 [.str [],Iv 0,Iv 0,Iv 0,Iv 0,Iv 0,Iv 0,.str [],Iv 0,.raw .nilFunc,.nils,.nils]),(9,.box y [.str id,Iv 0,Iv 0,Iv m.n4,Iv o.zone,Iv 0,Iv 1,.str []])]) (by exact ⟨rfl,Y⟩))
  exact trivial
 intro y f hfl;obtain ⟨f,rfl⟩:=onAll f 16 (by exact hfl);clear hfl;(conv=>whnf);refine Tri.forgetG [(3,Iv leads),(8,.box 8 b8 0),(9,.box 9 y 0)] (look [(8,.box b8 [.str [],Iv 0,Iv 0,Iv 0,Iv 0,Iv 0,Iv 0,.str [],Iv 0,.raw .nilFunc,.nils,.nils]),(9,.box y [.str id,Iv 0,Iv 0,Iv m.n4,Iv o.zone,Iv 0,Iv 1,.str []])]) (.same (by exact Z) (SubHF.of (hs:=[(8,.box b8 [.str [],Iv 0,Iv 0,Iv 0,Iv 0,Iv 0,Iv 0,.str [],Iv 0,.raw .nilFunc,.nils,.nils]),(9,.box y [.str id,Iv 0,Iv 0,Iv m.n4,Iv o.zone,Iv 0,Iv 1,.str []])]) (by exact ⟨rfl,Y⟩))) ?_;apply Sq;apply Sr;refine Cd (decide ((0:Int)≤leads)) rfl (fun hc=>?_) (fun hc=>?_)
 ·apply Rg;rw [hc] at hf;subst hf;apply Rl;apply Sr;apply Rl;apply Rl;apply Rt;apply Rl;(conv=>whnf);exact .refl _
 rw [hc] at hf;subst hf;apply Sk;apply Sr;apply Rl;apply Rl;apply Rt;apply Rl;(conv=>whnf);exact .refl _
theorem H166 (o:OV) (n m:NV) (bn be:Nat) (id path:List UInt8) (time zone fl leads:Int):DCall Tryz.prog W0 166 [.elm 26 [bD o n bn be] 0 0,lnD id time zone fl leads .nils,encTop m,.str path] (look [(4104,.mp be (encMap encF []))]) fun d H'=>d=lnD id time zone fl leads .nils∧∃ b cs,H'=look [(4104,.mp be (encMap encF [])),(8,.box b cs)]:=by
 refine DCall.intro ti_ok Tryz.func166 rfl (by decide +kernel) Tryz.ntmps166 rfl fun Γ=>?_
 apply Sr;(conv=>whnf);intro b5;(conv=>whnf);intro b6;(conv=>whnf);intro b8;apply S2;refine Tri.regionX ti_ok ?_;apply Il;refine Lo (bD o n bn be) ?_;(conv=>whnf);refine .inr (XOp.mpGet 4104 (kt:=9) (et:=53) (enc:=encF) (l:=[]) (k:=path) (z:=zF) rfl rfl rfl rfl rfl (fun w=>rfl) (fun w C=>zF_rep w C) ?_);(conv=>whnf);intro b9;apply Il;apply Rl;apply Sr;apply Hh;apply Rl;apply Hh;refine Pk ?_;refine Cd false rfl (fun hc=>?_) (fun hc=>?_)
 ·cases hc
 apply Sk;apply Sr;apply Rl;apply Rl;(conv=>whnf);skip;refine Tri.retK [(8,.box 8 b8 0)] [(4104,.mp be (encMap encF [])),(8,.box b8 (lnD id time zone fl leads .nils).cells)] [(4104,4104),(8,8)] ⟨Z,rfl,Y⟩ ?_;(conv=>whnf);refine ⟨lnD id time zone fl leads .nils,?_,rfl,b8,_,rfl⟩;apply Rl;(conv=>whnf);exact .refl _
theorem H282 (id:List UInt8) (lba par:Int):DFun Tryz.prog W0 282 [.agg [.str id,Iv lba,Iv par]] (.bool (bif (id==[0]) then (par==1) else false)):=by
 refine Fi Tryz.func282 rfl Tryz.ntmps282 fun Γ=>?_
 apply Sr;(conv=>whnf);intro b1;apply Sr;apply Rl;apply Hh;apply Rl;apply Hh;refine Pk ?_;apply Rt;(conv=>whnf);exact .refl _
structure PE where
 id:List UInt8
 lba:Int
 par:Int
 deriving Inhabited
def encPE (e:PE):D:=.agg [.str e.id,Iv e.lba,Iv e.par]
def pesD (l:List PE):List D:=l.map encPE
def pszV (l:List PE):Int:=l.foldl (fun n x=>n+(8+(((x.id.length:Nat):Int)+1).tdiv 2*2)) 0
theorem psz_next {l:List PE} {i:Nat} (h:i<l.length):pszV (l.take (i+1))=pszV (l.take i)+(8+(((l[i].id.length:Nat):Int)+1).tdiv 2*2):=by
 rw [pszV,pszV,List.take_succ_eq_append_getElem h,List.foldl_append]; rfl
theorem half_r (n:Nat):0≤(((n:Nat):Int)+1).tdiv 2*2∧(((n:Nat):Int)+1).tdiv 2*2≤(n:Int)+1:=by
 rw [Int.tdiv_eq_ediv_of_nonneg (by omega)]; omega
theorem psz_r {l:List PE} (hd:∀ x∈l,x.id.length<1000000):∀ k,k≤l.length→0≤pszV (l.take k)∧pszV (l.take k)≤1000010*(k:Int)
 | 0,_=>by simp [pszV]
 | k+1,hk=>by
  have ih:=psz_r hd k (by omega)
  rw [psz_next (show k<l.length by omega)]
  have h1:=hd _ (List.getElem_mem (show k<l.length by omega))
  have h2:=half_r (l[k]'(by omega)).id.length
  omega
theorem H169 (l:List PE) (hl:l.length<1000000) (hd:∀ x∈l,x.id.length<1000000):DFun Tryz.prog W0 169 [.sl .none 3 (pesD l)] (Iv (pszV l)):=by
 refine Fi Tryz.func169 rfl Tryz.ntmps169 fun Γ=>?_
 apply Sr;apply Sr;apply Sq;apply Sr;apply Bk;refine Tri.loopK (α:={ i:Nat // i≤l.length }) (fun x=>[(3,Iv (pszV (l.take x.1))),(6,.sl .none 3 (pesD l)),(7,Iv ((pesD l).length:Nat)),(8,Iv ((x.1:Nat):Int))]) (fun _=>[]) (fun x=>l.length-x.1) ⟨0,by omega⟩ [] ⟨⟨.refl _,.refl _,.refl _,DLe.of_eq rfl,trivial⟩,rfl,trivial⟩ ?_;rintro ⟨i,hi⟩;dsimp only at hi ⊢;apply Sr;apply Sq;refine Cd (decide ((i:Int)<((pesD l).length:Nat))) rfl (fun hc=>?_) (fun hc=>?_)
 ·apply Sk
  have hia:i<l.length:=by simpa [pesD] using hc
  have hsr:=psz_r hd i hi
  have hnx:=psz_next hia
  have hdi:=hd _ (List.getElem_mem hia)
  have hhr:=half_r l[i].id.length
  have hqr:0≤(((l[i].id.length:Nat):Int)+1).tdiv 2:=by rw [Int.tdiv_eq_ediv_of_nonneg (by omega)]; omega
  generalize hS:pszV (l.take i)=S at *;apply Sq;apply Bk;apply Sr;(conv=>whnf)
  refine ⟨fun _=>by simp [pesD]; omega,?_⟩
  (conv=>whnf);refine ⟨encPE l[i],fun _=>by simp [pesD,hia],?_⟩;(conv=>whnf);intro b5;apply Rl;apply Rg;apply Rl;refine Ir ?_;(conv=>whnf);refine ⟨fun _=>by decide,?_⟩;refine Ir ?_;refine Ir ?_;refine Ir ?_;refine Ir ?_;apply Rg;refine Ir ?_;(conv=>whnf)
  exact ⟨⟨i+1,hia⟩,[],by show l.length-(i+1)<l.length-i; omega,⟨DLe.of_eq (congrArg (D.int .i64) hnx.symm),.refl _,.refl _,.refl _,trivial⟩,rfl,trivial⟩
 refine Tri.exit ?_
 have hin:i=l.length:=by simp [pesD] at hc; omega
 subst hin;rw [List.take_length];apply Sr;apply Rt;(conv=>whnf);exact .refl _
def lnSz (id:List UInt8) (lens:List Int):Int:=drSz ((id.length:Nat):Int) (evenV (lens.headD 0))
theorem H179 (id:List UInt8) (time zone fl leads x:Int) (lens:List Int) (h0:0≤x) (h1:x<1000000000):DFun Tryz.prog W0 179 [lnD id time zone fl leads (.sl .none 1 (intsD (x::lens)))] (Iv (lnSz id (x::lens))):=by
 refine Fi Tryz.func179 rfl Tryz.ntmps179 fun Γ=>?_
 apply Sr;(conv=>whnf);intro b1;apply Sq;refine Tri.draw ti_ok mixed (by kernel_rfl) ?_;apply Rl;apply Rl;(conv=>whnf);refine ⟨fun _=>by simp [intsD],?_⟩;(conv=>whnf);refine ⟨Iv x,fun _=>by simp [intsD],?_⟩;(conv=>whnf);refine ⟨[Iv x],_,fun _=>H250 x h0 (by omega),Z,?_⟩;(conv=>whnf);refine ⟨[Iv ((id.length:Nat):Int),Iv (evenV x)],_,fun _=>H174 _ _,Z,?_⟩;apply Rt;(conv=>whnf);exact .refl _
theorem H240n:DFun Tryz.prog W0 240 [.sl .none 3 []] (Iv 0):=by
 refine Fi Tryz.func240 rfl Tryz.ntmps240 fun Γ=>?_
 apply Sr;apply Sq;apply Sr;refine Cd false rfl (fun hc=>?_) (fun hc=>?_)
 ·cases hc
 apply Sk;apply Sq;apply Sr;apply Bk;refine Tri.loopK (α:=Unit) (fun _=>[(9,Iv 0),(10,Iv 0)]) (fun _=>[]) (fun _=>0) () [] ⟨Z,rfl,trivial⟩ ?_;rintro ⟨⟩;apply Sr;apply Sq;refine Cd false rfl (fun hc=>?_) (fun hc=>?_)
 ·cases hc
 refine Tri.exit ?_;apply Sr;apply Rt;(conv=>whnf);exact .refl _
theorem H241n:DFun Tryz.prog W0 241 [.sl .none 3 []] (Iv 0):=by
 refine Fi Tryz.func241 rfl Tryz.ntmps241 fun Γ=>?_
 apply Sr;apply Sr;apply Sq;apply Sr;apply Bk;refine Tri.loopK (α:=Unit) (fun _=>[(3,Iv 0),(7,Iv 0),(8,Iv 0)]) (fun _=>[]) (fun _=>0) () [] ⟨Z,rfl,trivial⟩ ?_;rintro ⟨⟩;apply Sr;apply Sq;refine Cd false rfl (fun hc=>?_) (fun hc=>?_)
 ·cases hc
 refine Tri.exit ?_;apply Sr;apply Rt;(conv=>whnf);exact .refl _
theorem H172n (room:Int) (h0:0≤room) (h1:room≤254):DFun Tryz.prog W0 172 [.sl .none 3 [],Iv room] (.tup [.sl .none 1 [.sl .none 3 []],Iv 0]):=by
 refine Fi Tryz.func172 rfl Tryz.ntmps172 fun Γ=>?_
 apply Sr;apply Sq;apply Sr;(conv=>whnf);refine ⟨[.sl .none 3 []],_,fun _=>H240n,Z,?_⟩;apply Sr;refine Cd false rfl (fun hc=>?_) (fun hc=>?_)
 ·cases hc
 apply Sk;apply Sq;apply Sr;apply Bk;refine Tri.loopK (α:=Unit) (fun _=>[(0,.sl .none 3 []),(1,Iv room),(17,Iv 0),(18,Iv 0)]) (fun _=>[]) (fun _=>0) () [] ⟨Z,rfl,trivial⟩ ?_;rintro ⟨⟩;apply Sr;apply Sq;refine Cd false rfl (fun hc=>?_) (fun hc=>?_)
 ·cases hc
 refine Tri.exit ?_;apply Sq;apply Sr;apply Hh;refine Pk ?_;refine Cd (bif decide (room<0) then true else decide (254<room)) rfl (fun hc=>?_) (fun hc=>?_)
 ·exact absurd hc (by rw [decide_eq_false (by omega),decide_eq_false (by omega)]; decide)
 apply Sk;apply Sq;apply Sr;(conv=>whnf);refine ⟨[.sl .none 3 []],_,fun _=>H241n,Z,?_⟩;apply Hh;refine Pk ?_;refine Cd (bif decide (room<0) then decide (room<28) else false) rfl (fun hc2=>?_) (fun hc2=>?_)
 ·exact absurd hc2 (by rw [decide_eq_false (show ¬ room<0 by omega)]; simp)
 apply Sk;apply Sr;(conv=>whnf);refine Tri.own 9 1000 1 236 rfl (fun w=>?_);apply Sq;apply Bk;refine Tri.loopK (α:=Unit) (fun _=>[(0,.sl .none 3 []),(1,Iv room),(9,.sl (.own 1000 w) 1 [])]) (fun _=>[(1000,.own w 0 1 236)]) (fun _=>0) () [(1000,1000)] ⟨Z,rfl,Y⟩ ?_;rintro ⟨⟩;apply Sq;apply Sr;(conv=>whnf);refine ⟨[.sl .none 3 []],_,fun _=>H241n,Z,?_⟩;refine Cd (decide (room<0)) rfl (fun hc3=>?_) (fun hc3=>?_)
 ·exact absurd (of_decide_eq_true hc3) (by omega)
 refine Tri.exit ?_;apply Sq;apply Sr;refine Cd false rfl (fun hc4=>?_) (fun hc4=>?_)
 ·cases hc4
 apply Sk;apply Sr;(conv=>whnf);refine ⟨trivial,?_⟩;(conv=>whnf);refine ⟨by simp,by simp,(fun h=>by cases h),fun v1=>?_⟩;(conv=>whnf);refine ⟨trivial,?_⟩;(conv=>whnf);refine ⟨rfl,rfl,?_⟩;(conv=>whnf);refine ⟨by simp,by simp,(fun h=>by cases h),fun v2=>?_⟩;apply Rt;(conv=>whnf);exact ⟨DLe.trans DLe.unown (.refl _),.refl _,trivial⟩
theorem H175n:DFun Tryz.prog W0 175 [.sl .none 1 [.sl .none 3 []]] (.sl .none 1 (intsD [0])):=by
 refine Fi Tryz.func175 rfl Tryz.ntmps175 fun Γ=>?_
 apply Sr;apply Sr;apply Sq;apply Sr;(conv=>whnf);refine Tri.own 3 1000 1 3 rfl (fun w=>?_);apply Bk
 refine Tri.loopK (α:=Bool×Value) (fun x=>[(0,.sl .none 1 [.sl .none 3 []]),(3,.sl (.own 1000 x.2) 1 (bif x.1 then [Iv 0] else [])),(7,.sl .none 1 [.sl .none 3 []]),(8,Iv 1),(9,Iv (bif x.1 then 1 else 0))])
  (fun x=>[(1000,.own x.2 (bif x.1 then 1 else 0) 1 3)]) (fun x=>bif x.1 then 0 else 1) (false,w) [(1000,1000)]
  ⟨Z,rfl,Y⟩ ?_
 rintro ⟨q,w⟩
 try dsimp only
 apply Sr;apply Sq;refine Cd (decide ((bif q then (1:Int) else 0)<1)) rfl (fun hc=>?_) (fun hc=>?_)
 ·apply Sk
  have hq:q=false:=by cases q<;>simp at hc ⊢
  subst hq;apply Sq;apply Bk;apply Sr;(conv=>whnf);refine Sp ?_;refine Lo (.sl .none 3 []) ?_;apply Sr;(conv=>whnf);refine ⟨[.sl .none 3 []],_,fun _=>H241n,Z,?_⟩;apply Sq;apply Sr;refine Ir ?_;refine Cd false rfl (fun hc2=>?_) (fun hc2=>?_)
  ·cases hc2
  apply Sk;apply Rg;(conv=>whnf);refine ⟨trivial,?_⟩;(conv=>whnf);refine ⟨rfl,rfl,?_⟩;(conv=>whnf);refine ⟨by simp,by simp,(fun h=>by cases h),fun w2=>?_⟩;apply Rg;refine Ir ?_;(conv=>whnf);exact ⟨(true,w2),[(1000,26)],Nat.zero_lt_one,⟨.refl _,DLe.ownEq rfl,.refl _,.refl _,.refl _,trivial⟩,rfl,Y⟩
 have hq:q=true:=by cases q<;>simp at hc ⊢
 subst hq;refine Tri.exit ?_;apply Sr;apply Rt;(conv=>whnf);exact DLe.unown
theorem H178r (a b:List UInt8) (wide:Bool) (hr:(bif cmpI (rankV a) (rankV b)!=0 then true else decide (rankV a<2))=true):DFun Tryz.prog W0 178 [.str a,.str b,.bool wide] (Iv (cmpI (rankV a) (rankV b))):=by
 refine Fi Tryz.func178 rfl Tryz.ntmps178 fun Γ=>?_
 apply Sr;apply Sq;apply Sr;(conv=>whnf);refine ⟨[.str a],_,fun _=>H245 a,Z,?_⟩;(conv=>whnf);refine ⟨[.str b],_,fun _=>H245 b,Z,?_⟩;(conv=>whnf);refine ⟨[Iv (rankV a),Iv (rankV b)],_,fun _=>H244 _ _,Z,?_⟩;apply Sr;apply Hh;(conv=>whnf);refine ⟨[.str a],_,fun h=>H245 a,Z,?_⟩;apply Hh;refine Pk ?_;refine Cd (bif cmpI (rankV a) (rankV b)!=0 then true else decide (rankV a<2)) rfl (fun hc=>?_) (fun hc=>?_)
 ·apply Sr;apply Rt;(conv=>whnf);exact .refl _
 exact absurd hr (by rw [hc]; decide)
end Go.Tame.V
namespace Go.Tame
open Go Go.RowKit
theorem Tri.boxElmQ {P:Program} {W0:World} {nt:Nat} {σ:DSt} {K:DExit→DSt→Prop} {Γ:Ctx P W0 nt} {c:Code} (s q:Nat) (x:D) {b bq s':Nat} {cs:List D} (hs:σ.H s=some (.box b cs)) (hq:σ.H q=some (.box bq [.box s' b 0])) (hne:q≠s) (hx:x.cells=cs) (hone:cs.all D.one=true)
  (h:Tri Γ c ((σ.setH s none).setH q (some (.box bq [.elm cs.length [x] 0 0]))) K):Tri Γ c σ K :=
 ⟨fun a w C hf=>by
  obtain ⟨vs,e,h1,h2,h3⟩:=hf.heap.obj s _ hs
  have hext:Ext w C w (upd C b cs.length):=⟨Nat.le_refl _,fun x _=>upd_le C b _ (by omega) x,fun _ _ _ _=>rfl⟩
  have hst:Step (fun x=>x=b) w C w (upd C b cs.length):=⟨hext,rfl,rfl,rfl,fun x _ hx=>⟨rfl,upd_ne _ _ hx⟩⟩
  have hf':FR Γ w (upd C b cs.length) (σ.setH s none) a:=hf.setH hst (fun x hx=>by subst hx; exact hf.heap.foot s _ x hs rfl)
   (fun s' o x hne ho hu hx=>by subst hx; exact hf.heap.inj s s' _ o x (Ne.symm hne) hs ho rfl hu) (fun x hx=>by cases hx)
  have hr2:=h2.ext hext
  have hrow:Rep w (upd C b cs.length) (.sl .none cs.length [x]) (.slice (some ⟨b,0,none⟩) 1 1) :=
   rep_row (xs:=[x]) (vs:=vs) (fz:=(0,0)) (e:=e) h1 (fun y hy=>by rw [List.mem_singleton.1 hy,hx]) (Nat.le_refl _) (by decide) (by rw [upd_same]; simp) (fun i d hd=>by
    have hd':cs[i]? = some d:=by simpa [flat,hx] using hd
    obtain ⟨u,hu⟩:=getElem?_of_lt (l:=vs) (i:=i) (by rw [← h2.1]; exact lt_of_get hd')
    exact ⟨u,hu,hr2.2 i d u hd' hu,h2.one hone u (List.mem_iff_getElem?.2 ⟨i,hu⟩)⟩) trivial
  have hq':(σ.setH s none).H q=some (.box bq [.box s' b 0]):=by
   show _root_.cond (Nat.beq q s) none (σ.H q)=_
   rw [show Nat.beq q s=false from by cases hb:Nat.beq q s with|false=>rfl|true=>exact absurd (beq_true hb) hne];exact hq
  have hf3:=hf'.reBox q (cs':=[.elm cs.length [x] 0 0]) hq' (fun us hr=>⟨by simpa using hr.1,fun i d v hd hv=>by
   match i,hd with
   | 0,hd =>
    simp at hd
    subst hd
    have h5:=hr.2 0 _ v rfl hv
    have h6:v=.pointer (some ⟨b,0,none⟩):=by cases h5; rfl
    rw [h6]
    have:=Rep.elm cs.length [x] 0 0 b 0 1 hrow
    simpa using this
   | i+1,hd=>simp at hd⟩)
  exact h.run a w _ hf3⟩
end Go.Tame
namespace Go.Tame.V
open Go Go.Proofs
variable {W0:World}
structure LnV where
 id:List UInt8
 time:Int
 zone:Int
 fl:Int
 leads:Int
 lens:List Int
 deriving Inhabited
def encLnV (x:LnV):D:=lnD x.id x.time x.zone x.fl x.leads (.sl .none 1 (intsD x.lens))
def hD (wide:Bool) (fv:Value) (ps pl pm:Int):D:=.agg [.bool wide,.raw fv,Iv ps,Iv pl,Iv pm]
theorem lnv_get {l:List LnV} {i:Nat} (h:i<l.length):(l.map encLnV)[Int.toNat (i:Int)]? = some (encLnV l[i]):=by simp [h]
theorem lnv_pred {l:List LnV} {i:Nat} (h:i<l.length) (h1:1≤i):(l.map encLnV)[Int.toNat ((i:Int)-1)]? = some (encLnV (l[i-1]'(by omega))):=by
 have:Int.toNat ((i:Int)-1)=i-1:=by omega
 rw [this]
 simp [show i-1<l.length by omega]
theorem H177 (x y:LnV) (wide:Bool) (fv:Value) (ps pl pm:Int) (hr:(bif cmpI (rankV x.id) (rankV y.id)!=0 then true else decide (rankV x.id<2))=true):DFun Tryz.prog W0 177 [encLnV x,encLnV y,.elm 1 [.elm 5 [hD wide fv ps pl pm] 0 0] 0 0] (Iv (cmpI (rankV x.id) (rankV y.id))):=by
 refine Fi Tryz.func177 rfl Tryz.ntmps177 fun Γ=>?_
 apply Sr;(conv=>whnf);intro b3;(conv=>whnf);intro b4;apply Sq;refine Tri.draw ti_ok mixed (by kernel_rfl) ?_;apply Rl;apply Rl;refine Lo (.elm 5 [hD wide fv ps pl pm] 0 0) ?_;refine Lo (hD wide fv ps pl pm) ?_;(conv=>whnf);refine ⟨[.str x.id,.str y.id,.bool wide],_,fun _=>H178r x.id y.id wide hr,Z,?_⟩;apply Rt;(conv=>whnf);exact .refl _
theorem H290 (l:List LnV) (fid:Nat) (caps:List D) (cv:Nat→Nat→Int) (hcmp:∀ i j (hij:i<j) (hj:j<l.length),DFun Tryz.prog W0 fid (encLnV l[j]::encLnV (l[i]'(by omega))::caps) (Iv (cv j i))∧0≤cv j i) (hl:l.length<1000000) (a b:Nat) (ha:a≤l.length) (hb:b≤l.length):DFun Tryz.prog W0 290 [.sl .none 12 (l.map encLnV),Iv (a:Nat),Iv (b:Nat),.fn (.func fid) [] caps] (.tup []):=by
 refine Fi Tryz.func290 rfl Tryz.ntmps290 fun Γ=>?_
 apply Sr;refine Ir ?_;apply Bk;refine Tri.loop (α:={ i:Nat // a+1≤i∧(i≤a+1∨i≤b) }) (fun x=>[(0,.sl .none 12 (l.map encLnV)),(1,Iv (a:Nat)),(2,Iv (b:Nat)),(3,.fn (.func fid) [] caps),(8,Iv (x.1:Nat))]) (fun _=>[]) (fun x=>b-x.1) ⟨a+1,by omega⟩ Z trivial ?_;rintro ⟨i,hi⟩;dsimp only;apply Sq;apply Sr;refine Cd (decide ((i:Int)<b)) rfl (fun hc=>?_) (fun hc=>?_)
 ·have hib:i<b:=by simpa using hc
  apply Sk;apply Sq;apply Bk;apply Sr;apply Bk;refine Tri.loop (α:=Unit) (fun x=>[(0,.sl .none 12 (l.map encLnV)),(1,Iv (a:Nat)),(2,Iv (b:Nat)),(3,.fn (.func fid) [] caps),(8,Iv (i:Nat)),(9,Iv (i:Nat))]) (fun _=>[]) (fun _=>0) () Z trivial ?_;rintro ⟨⟩;apply S2;refine Tri.draw ti_ok mixed (by kernel_rfl) ?_;apply Hh;apply Hh;(conv=>whnf);refine Sp ?_;apply Hh;(conv=>whnf);refine ⟨encLnV (l[i]'(by omega)),fun h=>lnv_get (by omega),?_⟩;apply Hh;refine Ir ?_;apply Hh;apply Hh;(conv=>whnf);refine Sp ?_;apply Hh;(conv=>whnf);refine ⟨encLnV (l[i-1]'(by omega)),fun h=>lnv_pred (by omega) (by omega),?_⟩;apply Hh;apply Hh;apply Hh;(conv=>whnf);refine ⟨encLnV (l[i]'(by omega))::encLnV (l[i-1]'(by omega))::caps,_,fun h=>(hcmp (i-1) i (by omega) (by omega)).1,⟨.refl _,.refl _,LeL.refl _⟩,?_⟩;apply Hh;refine Pk ?_;refine Cd _ rfl (fun hc2=>?_) (fun hc2=>?_)
  ·exact absurd hc2 (by have h0:=(hcmp (i-1) i (by omega) (by omega)).2; have h1:decide (cv i (i-1)<0)=false:=decide_eq_false (by omega); show ¬ ((bif decide ((a:Int)<(i:Int)) then decide (cv i (i-1)<0) else false)=true); rw [h1]; cases decide ((a:Int)<(i:Int))<;>decide)
  refine Tri.exit ?_;apply Rg;refine Ir ?_;(conv=>whnf)
  exact ⟨⟨i+1,by omega⟩,by show b-(i+1)<b-i; omega,Z,trivial⟩
 refine Tri.exit ?_;(conv=>whnf);exact trivial
theorem H243 (l:List LnV) (fid:Nat) (caps:List D) (cv:Nat→Nat→Int) (hcmp:∀ i j (hij:i<j) (hj:j<l.length),DFun Tryz.prog W0 fid (encLnV l[j]::encLnV (l[i]'(by omega))::caps) (Iv (cv j i))∧0≤cv j i) (hl:l.length≤19):DFun Tryz.prog W0 243 [.sl .none 12 (l.map encLnV),Iv (l.length:Nat),.fn (.func fid) [] caps] (.tup []):=by
 refine Fi Tryz.func243 rfl Tryz.ntmps243 fun Γ=>?_
 apply Sr;apply Sr;apply Sq;apply Bk;refine Tri.loop (α:=Unit) (fun x=>[(0,.sl .none 12 (l.map encLnV)),(1,Iv (l.length:Nat)),(2,.fn (.func fid) [] caps),(6,Iv 20),(7,Iv 0),(8,Iv 20)]) (fun _=>[]) (fun _=>0) () Z trivial ?_;rintro ⟨⟩;apply Sq;apply Sr;refine Cd _ rfl (fun hc=>?_) (fun hc=>?_)
 ·exact absurd hc (by simp; omega)
 refine Tri.exit ?_;apply Sr;(conv=>whnf);refine ⟨[.sl .none 12 (l.map encLnV),Iv 0,Iv (l.length:Nat),.fn (.func fid) [] caps],_,fun _=>H290 l fid caps cv hcmp (by omega) 0 l.length (by omega) (by omega),Z,?_⟩;apply Bk;refine Tri.loop (α:=Unit) (fun x=>[(0,.sl .none 12 (l.map encLnV)),(1,Iv (l.length:Nat)),(2,.fn (.func fid) [] caps),(6,Iv 20)]) (fun _=>[]) (fun _=>0) () Z trivial ?_;rintro ⟨⟩;apply Sq;apply Sr;refine Cd _ rfl (fun hc=>?_) (fun hc=>?_)
 ·exact absurd hc (by simp; omega)
 refine Tri.exit ?_;(conv=>whnf);exact trivial
theorem H176 (l:List LnV) (fid:Nat) (caps:List D) (cv:Nat→Nat→Int) (hcmp:∀ i j (hij:i<j) (hj:j<l.length),DFun Tryz.prog W0 fid (encLnV l[j]::encLnV (l[i]'(by omega))::caps) (Iv (cv j i))∧0≤cv j i) (hl:l.length≤19):DFun Tryz.prog W0 176 [.sl .none 12 (l.map encLnV),.fn (.func fid) [] caps] (.tup []):=by
 refine Fi Tryz.func176 rfl Tryz.ntmps176 fun Γ=>?_
 apply Rg;(conv=>whnf);refine ⟨[.sl .none 12 (l.map encLnV),Iv (l.length:Nat),.fn (.func fid) [] caps],_,fun _=>H243 l fid caps cv hcmp hl,⟨.refl _,DLe.of_eq (congrArg (D.int .i64) (by simp)),.refl _,trivial⟩,?_⟩;(conv=>whnf);exact trivial
theorem H147 (p:PV) (k:Int) (bg b2 bp:Nat):DCall Tryz.prog W0 147 [Iv k,.box 4101 b2 0] (look [(4101,.box b2 [.box 4102 bp 0]),(4102,.box bp (planC p bg))]) fun d H'=>d=.bool (decide (k<p.free))∧H'=look [(4101,.box b2 [.box 4102 bp 0]),(4102,.box bp (planC p bg))]:=by
 refine DCall.intro ti_ok Tryz.func147 rfl (by decide +kernel) Tryz.ntmps147 rfl fun Γ=>?_
 apply Sr;apply Sr;apply Rl;apply Rl;(conv=>whnf);refine Tri.retK [(3,.bool (decide (k<p.free)))] [(4101,.box b2 [.box 4102 bp 0]),(4102,.box bp (planC p bg))] [(4101,4101),(4102,4102)] ⟨Z,rfl,Y⟩ ?_;(conv=>whnf);exact ⟨_,.refl _,rfl,rfl⟩
theorem H146 (T:List Int) (hT:T.length<1000000) (fid:Nat) (caps:List D) (o1 o2:HObj) (p:Int→Bool) (hp0:∀ k∈T,DCall Tryz.prog W0 fid (Iv k::caps) (look [(4101,o1),(4102,o2)]) fun d H'=>d=.bool (p k)∧H'=look [(4101,o1),(4102,o2)]):DCall Tryz.prog W0 146 [.sl .none 1 (intsD T),.fn (.func fid) [] caps] (look [(4101,o1),(4102,o2)]) fun d H'=>d=.bool (T.any p)∧H'=look [(4101,o1),(4102,o2)]:=by
 refine DCall.intro ti_ok Tryz.func146 rfl (by decide +kernel) Tryz.ntmps146 rfl fun Γ=>?_
 apply Sr;apply Sq;refine Tri.regionX ti_ok ?_;(conv=>whnf);refine .inr (XOp.call rfl [.sl .none 1 (intsD T),.fn (.func fid) [] caps] [(4101,4101),(4102,4102)] (DCall.heapD2 rfl rfl (H143 T hT fid caps o1 o2 p hp0)) rfl Z ?_);rintro d H' ⟨rfl,rfl⟩;refine ⟨_,.refl _,?_⟩;(conv=>whnf);refine Tri.retK [(4,.bool (T.any p))] [(4101,o1),(4102,o2)] [(4101,4101),(4102,4102)] ⟨⟨DLe.of_eq (congrArg D.bool (firstIdx_any p T)),trivial⟩,rfl,Y⟩ ?_;(conv=>whnf);exact ⟨_,.refl _,rfl,rfl⟩
def blkS (T:List Int):Nat→Int→List Int×Int
 | 0,a=>([],a)
 | n+1,a=>((blkS T n a).1++[findW T 1 (blkS T n a).2],findW T 1 (blkS T n a).2+1)
def useSh (e:YS) (f:PF):Bool:=bif (bif !(aget e.own f.path).isSome then (aget e.sh f.data).isSome else false) then f.data !=[] else false
def fileX (e:YS) (f:PF):FV :=
 if useSh e f=true then ⟨f.path,((aget e.sh f.data).getD zF).start,((aget e.sh f.data).getD zF).len⟩ else ⟨f.path,((aget e.own f.path).getD zF).start,((aget e.own f.path).getD zF).len⟩
def firstX (p:PV) (e:YS) (x:Int) (f:PF):Int:=if (aget p.given f.path).isSome=true then min x (fileX e f).start else x
def layT (p:PV) (count:Int):List Int:=rsvV p.m p.start count
def isoB (p:PV):Bool:=hasV p.m.views 0
def udfB (p:PV):Bool:=hasV p.m.views 3
def lyS (p:PV) (T:List Int):Int:=if isoB p=true then findW T p.iso p.free else 0
def lyC (p:PV):Int:=if isoB p=true then p.iso else 0
def lyA (p:PV) (T:List Int):Int:=if isoB p=true then findW T p.iso p.free+p.iso else p.free
def lyU (p:PV) (T:List Int):List Int×Int:=if udfB p=true then blkS T p.udf.toNat (lyA p T) else ([],lyA p T)
def pick0 (b:Bool) (x:Int):Int:=if b=true then x else 0
def firstV0 (bl:List Int) (a:Int):Int:=match bl with|[]=>a|x::_=>x
def firstF (p:PV) (e:YS) (bl:List Int):Int:=p.files.foldl (firstX p e) (firstV0 bl e.a)
def endV (p:PV) (count:Int):Int:=if udfB p=true then p.start+count-1 else p.start+count
def layE (p:PV) (count:Int):YS:=extV p (layT p count) (lyU p (layT p count)).2
def layV (p:PV) (count:Int):LV :=
 { S:=p.start,C:=count,iS:=lyS p (layT p count),iC:=lyC p,kind:=pick0 (udfB p) p.m.udf,opn:=false,uS:=pick0 (udfB p) p.start,uC:=pick0 (udfB p) count,recg:=pick0 (udfB p) (p.start+16+p.desc),
   pS:=pick0 (udfB p) (firstF p (layE p count) (lyU p (layT p count)).1),pC:=pick0 (udfB p) (endV p count-firstF p (layE p count) (lyU p (layT p count)).1),
   blocks:=(lyU p (layT p count)).1,commit:=0,spS:=0,spC:=0,files:=p.files.map (fileX (layE p count)) }
def fitsV (p:PV) (count:Int):Bool:=bif decide ((layE p count).a≤endV p count) then !((layT p count).any fun k=>decide (k<p.free)) else false
abbrev layC (S C iS iC k uS uC rc pS pC:Int) (bl fl:D):List D:=[Iv S,Iv C,Iv iS,Iv iC,Iv k,.bool false,Iv uS,Iv uC,Iv rc,Iv pS,Iv pC,bl,Iv 0,Iv 0,Iv 0,fl]
abbrev Z16:List D:=layC 0 0 0 0 0 0 0 0 0 0 .nils .nils
theorem blkS_range {T:List Int} (hT2:∀ k∈T,k≤1000000) (a:Int) (h:0≤a):∀ n:Nat,0≤(blkS T n a).2∧(blkS T n a).2≤max a 1000001+(n:Int)
 | 0=>by show 0≤a∧a≤max a 1000001+0; omega
 | n+1=>by
  have h1:=blkS_range hT2 a h n
  have h2:=findW_range (n:=1) hT2 (blkS T n a).2
  show 0≤_+(1:Int)∧_+(1:Int)≤_
  omega
theorem blkS_len (T:List Int) (a:Int):∀ n,(blkS T n a).1.length=n
 | 0=>rfl
 | n+1=>by show ((blkS T n a).1++[findW T 1 (blkS T n a).2]).length=_; rw [List.length_append,blkS_len T a n]; rfl
theorem blkS_mem {T:List Int} (hT2:∀ k∈T,k≤1000000) (a:Int) (h:0≤a):∀ (n:Nat) b,b∈(blkS T n a).1→0≤b∧b≤max a 1000001+(n:Int)
 | 0,b,hb=>by cases hb
 | n+1,b,hb=>by
  have hb:b∈(blkS T n a).1++[findW T 1 (blkS T n a).2]:=hb
  rcases List.mem_append.1 hb with hb|hb
  ·have:=blkS_mem hT2 a h n b hb; omega
  have h1:=blkS_range hT2 a h n
  have h2:=findW_range (n:=1) hT2 (blkS T n a).2
  simp at hb; subst hb; omega
def starts (l:List (List UInt8×FV)):Prop:=∀ q v,aget l q=some v→0≤v.start
theorem starts_set {l:List (List UInt8×FV)} (h:starts l) {k:List UInt8} {v:FV} (hv:0≤v.start):starts (aset l k v):=fun q w hw=>by
 rw [aget_aset] at hw
 split at hw
 ·cases hw; exact hv
 exact h q w hw
theorem starts_get {l:List (List UInt8×FV)} (h:starts l) (q:List UInt8):0≤((aget l q).getD zF).start:=by
 cases hg:aget l q with
 | none=>exact Int.le_refl _
 | some v=>exact h q v hg
theorem xs1_starts {p:PV} (hg:starts p.given):∀ (l:List PF) (s:XS),starts s.own→starts s.sh→starts (l.foldl (xs1 p) s).own∧starts (l.foldl (xs1 p) s).sh
 | [],s,h1,h2=>⟨h1,h2⟩
 | f::l,s,h1,h2=>by
  have hv:=starts_get hg f.path
  refine xs1_starts hg l _ ?_ ?_
  ·unfold xs1; split
   ·exact starts_set h1 hv
   exact h1
  unfold xs1; split
  ·show starts (if _ then _ else _)
   split
   ·exact starts_set h2 hv
   exact h2
  exact h2
theorem xs2_starts {p:PV} {T:List Int} (hT2:∀ k∈T,k≤1000000) {data:List (List UInt8×List UInt8)} (hd:∀ q,((aget data q).getD []).length≤100000000):∀ (l:List (List UInt8)) (s:YS),0≤s.a→starts s.own→starts s.sh→starts (xs2s p T data s l).own∧starts (xs2s p T data s l).sh
 | [],s,_,h1,h2=>⟨h1,h2⟩
 | q::l,s,h0,h1,h2=>by
  have hv:0≤findW T (blkV ((aget data q).getD []).length) s.a:=by have:=findW_range (n:=blkV ((aget data q).getD []).length) hT2 s.a; omega
  have e:xs2s p T data s (q::l)=xs2s p T data (xs2 p T data s q) l:=rfl
  rw [e];refine xs2_starts hT2 hd l _ (xs2_range hT2 hd s q h0).1 ?_ ?_
  ·unfold xs2; split
   ·exact h1
   exact starts_set h1 hv
  unfold xs2; split
  ·exact h2
  show starts (if _ then _ else _)
  split
  ·exact starts_set h2 hv
  exact h2
theorem starts_nil:starts []:=fun q v h=>by cases h
theorem extV_ok {p:PV} {T:List Int} (hT2:∀ k∈T,k≤1000000) (hfd:∀ f∈p.files,f.data.length≤100000000) (hg:starts p.given) (a:Int) (h:0≤a) :
  starts (extV p T a).own∧starts (extV p T a).sh∧0≤(extV p T a).a∧(extV p T a).a≤max a 1000001+50000*(p.order.length:Int):=by
 have h1:=xs1_starts hg p.files ⟨[],[],[]⟩ starts_nil starts_nil
 have h2:=xs2_starts (p:=p) hT2 (data_len (p:=p) hfd) p.order ⟨(xs1s p p.files).own,(xs1s p p.files).sh,a⟩ h h1.1 h1.2
 have h3:=xs2s_range (p:=p) hT2 (data_len (p:=p) hfd) p.order ⟨(xs1s p p.files).own,(xs1s p p.files).sh,a⟩ h
 exact ⟨h2.1,h2.2,h3.1,h3.2⟩
theorem fileX_start {e:YS} (h1:starts e.own) (h2:starts e.sh) (f:PF):0≤(fileX e f).start:=by
 unfold fileX; split
 ·exact starts_get h2 _
 exact starts_get h1 _
theorem first_range {p:PV} {e:YS} (h1:starts e.own) (h2:starts e.sh):∀ (l:List PF) (x:Int),0≤x→0≤l.foldl (firstX p e) x∧l.foldl (firstX p e) x≤x
 | [],x,h=>⟨h,Int.le_refl _⟩
 | f::l,x,h=>by
  have h3:=fileX_start h1 h2 f
  have h4:0≤firstX p e x f∧firstX p e x f≤x:=by unfold firstX; split<;>omega
  have:=first_range (p:=p) h1 h2 l _ h4.1
  rw [List.foldl_cons]; omega
theorem _root_.Go.Tame.DCall.heapX {f:FuncId} {ds:List D} {Q:D→Heap→Prop} {H:Heap} {o1 o2 o3 o4:HObj} (h1:H 4102=some o1) (h2:H 4001=some o2) (h3:H 7=some o3) (h4:H 8=some o4) (h5:H 4002=none) (h6:H 4003=none)
  (hc:DCall Tryz.prog W0 f ds (look [(4000,o1),(4001,o2),(4201,o3),(4202,o4)]) Q):DCall Tryz.prog W0 f ds (handed H [(4000,4102),(4001,4001),(4201,7),(4202,8),(4002,4002),(4003,4003)]) Q:=by
 have e:handed H [(4000,4102),(4001,4001),(4201,7),(4202,8),(4002,4002),(4003,4003)]=look [(4000,o1),(4001,o2),(4201,o3),(4202,o4)]:=by
  funext j
  simp only [handed,look]
  cases Nat.beq j 4000 with
  | true=>exact h1
  | false =>
   cases Nat.beq j 4001 with
   | true=>exact h2
   | false =>
    cases Nat.beq j 4201 with
    | true=>exact h3
    | false =>
     cases Nat.beq j 4202 with
     | true=>exact h4
     | false =>
      cases Nat.beq j 4002 with
      | true=>exact h5
      | false =>
       cases Nat.beq j 4003 with
       | true=>exact h6
       | false=>rfl
 rw [e]; exact hc
theorem _root_.Go.Tame.DLe.skipped {d:D}:DLe .undef (.cnd false d):=⟨fun w C v h=>by rw [h.undef_inv]; exact .cndF d⟩
def Plan0 (p:PV):Prop:=0≤p.start∧p.start≤4096∧0≤p.iso∧p.iso≤1000000000∧0≤p.udf∧p.udf≤1000000∧0≤p.desc∧p.desc≤100∧0≤p.free∧p.free≤100000∧p.order.length≤100000∧p.files.length<1000000∧(∀ f∈p.files,f.data.length≤100000000)∧starts p.given
theorem H95 (p:PV) (hp:Plan0 p) (count:Int) (hc0:0≤count) (hc1:count≤4096) (bp bg:Nat):DCall Tryz.prog W0 95 [.box 4102 bp 0,Iv count] (look [(4102,.box bp (planC p bg)),(4001,.mp bg (encMap encF p.given))]) fun d H'=>d=.tup [encLay (layV p count),.bool (fitsV p count)]∧∃ b4 cs,H'=look [(4102,.box bp (planC p bg)),(4001,.mp bg (encMap encF p.given)),(4,.box b4 cs)]:=by
 refine DCall.intro ti_ok Tryz.func95 rfl (by decide +kernel) Tryz.ntmps95 rfl fun Γ=>?_
 obtain ⟨hp1,hp2,hp3,hp4,hp5,hp6,hp7,hp8,hp9,hp10,hp11,hp12,hp13,hp14⟩:=hp
 have hTl:(layT p count).length<1000000:=by have:=rsv_len p.m p.start count; unfold layT; omega
 have hT2:∀ k∈layT p count,k≤1000000:=fun k hk=>by have:=rsv_mem hk; omega
 have hTr:layT p count=rsvV p.m p.start count:=rfl
 apply Sr;(conv=>whnf);intro b2;(conv=>whnf);intro b4;apply Sr;apply Rl;apply Rl;(conv=>whnf);intro b6;apply Rl;apply Sq;refine Tri.forgetK [(1,Iv count),(2,.box 2 b2 0),(4,.box 4 b4 0),(6,.box 6 b6 0)] [(2,.box b2 [.box 4102 bp 0]),(4,.box b4 Z16),(6,.box b6 (layC p.start count 0 0 0 0 0 0 0 0 (.nils) (.nils))),(4102,.box bp (planC p bg)),(4001,.mp bg (encMap encF p.given))] [(2,2),(4,4),(6,6),(4102,4102),(4001,4001)] ⟨Z,rfl,Y⟩ ?_
 refine Tri.bitsG ti_ok mixed (α:=Nat) (fun y f=>[(1,Iv count),(2,.box 2 b2 0),(4,.box 4 b4 0),(6,.box 6 b6 0),(30,bif f 0 then .box 4102 bp 0 else .any),(31,bif f 1 then .box 4102 bp 0 else .any),(32,bif f 2 then .box 4102 bp 0 else .any),(33,bif f 3 then encM p.m else .any),(34,bif f 4 then .box 6 b6 0 else .any),(35,bif f 5 then encSpan (p.start,count) else .any),(36,bif f 6 then .sl .none 1 (intsD (rsvV p.m p.start count)) else .any),(7,bif f 7 then .box 7 y 0 else .any)])
  (fun y f=>look ([(2,.box b2 [.box 4102 bp 0]),(4,.box b4 Z16),(6,.box b6 (layC p.start count 0 0 0 0 0 0 0 0 (.nils) (.nils))),(4102,.box bp (planC p bg)),(4001,.mp bg (encMap encF p.given))]++(bif f 7 then [(7,.box y (bif f 8 then [.sl .none 1 (intsD (rsvV p.m p.start count))] else [.nils]))] else []))) (by decide +kernel) 0 ?_ ?_ ?_ ?_
 ·exact ⟨.refl _,.refl _,.refl _,.refl _,.any _,.any _,.any _,.any _,.any _,.any _,.any _,.any _,trivial⟩
 ·exact SubHF.of (hs:=[(2,.box b2 [.box 4102 bp 0]),(4,.box b4 Z16),(6,.box b6 (layC p.start count 0 0 0 0 0 0 0 0 (.nils) (.nils))),(4102,.box bp (planC p bg)),(4001,.mp bg (encMap encF p.given))]) ⟨rfl,Y⟩
 ·(conv=>whnf);refine ⟨fun y f hI=>?_,?_⟩
  ·obtain ⟨f,rfl⟩:= hI.o f 8 0;apply Ti;apply Rl;(conv=>whnf);exact Ex y
  refine Qo ?_;refine Qo ?_;refine ⟨fun y f hI=>?_,?_⟩
  ·obtain ⟨f,rfl⟩:= hI.o f 8 3;apply Ti;apply Rl;(conv=>whnf);exact Ex y
  refine Qo ?_;refine ⟨fun y f hI=>?_,?_⟩
  ·obtain ⟨f,rfl⟩:= hI.o f 8 5;apply Ti;apply Rl;(conv=>whnf);exact Ex y
  refine ⟨fun y f hI=>?_,?_⟩
  ·obtain ⟨f,rfl⟩:= hI.o f 8 6;apply Ti;(conv=>whnf);refine ⟨[encM p.m,encSpan (p.start,count)],_,fun _=>H39 p.m p.start count,Z,?_⟩;(conv=>whnf);exact Ex y
  refine ⟨fun y f hI=>?_,?_⟩
  ·obtain ⟨f,rfl⟩:= hI.o f 8 7;apply Ti;(conv=>whnf);intro nb;(conv=>whnf);exact Ex nb (SubHF.of (hs:=[(2,.box b2 [.box 4102 bp 0]),(4,.box b4 Z16),(6,.box b6 (layC p.start count 0 0 0 0 0 0 0 0 (.nils) (.nils))),(4102,.box bp (planC p bg)),(4001,.mp bg (encMap encF p.given)),(7,.box nb [.nils])]) ⟨rfl,Y⟩)
  refine ⟨fun y f hI=>?_,?_⟩
  ·(conv=>whnf);apply Ti;apply Rl;(conv=>whnf);exact Ex y (SubHF.of (hs:=[(2,.box b2 [.box 4102 bp 0]),(4,.box b4 Z16),(6,.box b6 (layC p.start count 0 0 0 0 0 0 0 0 (.nils) (.nils))),(4102,.box bp (planC p bg)),(4001,.mp bg (encMap encF p.given)),(7,.box y [.sl .none 1 (intsD (rsvV p.m p.start count))])]) ⟨rfl,Y⟩)
  exact trivial
 intro y f hfl;(conv=>whnf);refine Tri.forgetG [(1,Iv count),(2,.box 2 b2 0),(4,.box 4 b4 0),(6,.box 6 b6 0),(7,.box 7 y 0)] (look [(2,.box b2 [.box 4102 bp 0]),(4,.box b4 Z16),(6,.box b6 (layC p.start count 0 0 0 0 0 0 0 0 (.nils) (.nils))),(4102,.box bp (planC p bg)),(4001,.mp bg (encMap encF p.given)),(7,.box y [.sl .none 1 (intsD (rsvV p.m p.start count))])]) (.same ⟨.refl _,.refl _,.refl _,.refl _,?_,trivial⟩ (SubHF.of ⟨rfl,rfl,rfl,rfl,rfl,?_,trivial⟩)) ?_
 ·show DLe (bif f 7 then _ else _) _
  rw [hfl 7 (by decide +kernel)]; exact .refl _
 ·show look (([(2,_),(4,_),(6,_),(4102,_),(4001,_)]:List (Nat×HObj))++(bif f 7 then _ else _)) 7=_
  rw [hfl 7 (by decide +kernel),hfl 8 (by decide +kernel)]; rfl
 (conv=>whnf);rw [← hTr];generalize hTT:layT p count=T at *;apply Sr;apply Rl;apply Rl;(conv=>whnf);intro b8;apply Rl;apply Sr;(conv=>whnf);refine Tri.joinK (α:=Unit) (fun x=>[(1,Iv count),(2,.box 2 b2 0),(4,.box 4 b4 0),(6,.box 6 b6 0),(7,.box 7 y 0),(8,.box 8 b8 0),(9,.fn (.func 142) [] [.box 7 y 0,.box 8 b8 0])]) (fun x=>[(2,.box b2 [.box 4102 bp 0]),(4,.box b4 Z16),(6,.box b6 (layC p.start count (lyS p T) (lyC p) 0 0 0 0 0 0 (.nils) (.nils))),(7,.box y [.sl .none 1 (intsD T)]),(8,.box b8 [Iv (lyA p T)]),(4102,.box bp (planC p bg)),(4001,.mp bg (encMap encF p.given))]) ?_ ?_
 ·apply Sr;apply Rl;apply Rl;(conv=>whnf);refine ⟨[Iv p.m.views,Iv 0],_,fun _=>H35 p.m.views 0 (by decide),Z,?_⟩;refine Cd (isoB p) rfl (fun hc=>?_) (fun hc=>?_)
  ··refine Tri.forgetK [(1,Iv count),(2,.box 2 b2 0),(4,.box 4 b4 0),(6,.box 6 b6 0),(7,.box 7 y 0),(8,.box 8 b8 0),(9,.fn (.func 142) [] [.box 7 y 0,.box 8 b8 0])] [(2,.box b2 [.box 4102 bp 0]),(4,.box b4 Z16),(6,.box b6 (layC p.start count 0 0 0 0 0 0 0 0 (.nils) (.nils))),(7,.box y [.sl .none 1 (intsD T)]),(8,.box b8 [Iv p.free]),(4102,.box bp (planC p bg)),(4001,.mp bg (encMap encF p.given))] [(2,2),(4,4),(6,6),(7,7),(8,8),(4102,4102),(4001,4001)] ⟨Z,rfl,Y⟩ ?_
    refine Tri.bitsG ti_ok mixed (α:=Unit) (fun _ f=>[(1,Iv count),(2,.box 2 b2 0),(4,.box 4 b4 0),(6,.box 6 b6 0),(7,.box 7 y 0),(8,.box 8 b8 0),(9,.fn (.func 142) [] [.box 7 y 0,.box 8 b8 0]),(48,bif f 0 then .fn (.func 142) [] [.box 7 y 0,.box 8 b8 0] else .any),(49,bif f 1 then .box 4102 bp 0 else .any),(50,bif f 2 then .box 4102 bp 0 else .any),(51,bif f 3 then .box 4102 bp 17 else .any),(52,bif f 4 then Iv p.iso else .any),(53,bif f 5 then Iv (findW T p.iso p.free) else .any),(54,bif f 6 then .box 4102 bp 0 else .any),(55,bif f 7 then .box 4102 bp 0 else .any),(56,bif f 8 then .box 4102 bp 17 else .any),(57,bif f 9 then Iv p.iso else .any),(58,bif f 10 then encSpan (findW T p.iso p.free,p.iso) else .any),(59,bif f 11 then .box 6 b6 2 else .any)])
     (fun _ f=>look [(2,.box b2 [.box 4102 bp 0]),(4,.box b4 Z16),(6,.box b6 (bif f 12 then (layC p.start count (findW T p.iso p.free) p.iso 0 0 0 0 0 0 (.nils) (.nils)) else (layC p.start count 0 0 0 0 0 0 0 0 (.nils) (.nils)))),(7,.box y [.sl .none 1 (intsD T)]),(8,.box b8 [Iv (bif f 5 then (findW T p.iso p.free+p.iso) else p.free)]),(4102,.box bp (planC p bg)),(4001,.mp bg (encMap encF p.given))]) (by decide +kernel) () ?_ ?_ ?_ ?_
    ·exact ⟨.refl _,.refl _,.refl _,.refl _,.refl _,.refl _,.refl _,.any _,.any _,.any _,.any _,.any _,.any _,.any _,.any _,.any _,.any _,.any _,.any _,trivial⟩
    ·exact SubHF.of (hs:=[(2,.box b2 [.box 4102 bp 0]),(4,.box b4 Z16),(6,.box b6 (layC p.start count 0 0 0 0 0 0 0 0 (.nils) (.nils))),(7,.box y [.sl .none 1 (intsD T)]),(8,.box b8 [Iv p.free]),(4102,.box bp (planC p bg)),(4001,.mp bg (encMap encF p.given))]) ⟨rfl,Y⟩
    ·(conv=>whnf);refine Qo ?_;refine ⟨fun _ f hI=>?_,?_⟩
     ·obtain ⟨f,rfl⟩:= hI.o f 5 4 (hI.n 4 3 (hI.n 3 2 (hI.n 2 1)));obtain ⟨f,rfl⟩:= hI.o f 12 1;apply Ti;apply Rl;(conv=>whnf);exact Ex ()
     refine Qo ?_;refine Qo ?_;refine ⟨fun _ f hI=>?_,?_⟩
     ·obtain ⟨f,rfl⟩:= hI.o f 5 4;obtain ⟨f,rfl⟩:= hI.o f 12 4;apply Ti;apply Rl;(conv=>whnf);exact Ex ()
     refine ⟨fun _ f hI=>?_,?_⟩
     ·obtain ⟨f,rfl⟩:= hI.o f 12 5;apply Tk;refine XOp.call rfl [Iv p.iso,.box 4201 y 0,.box 4202 b8 0] [(4201,7),(4202,8)] (DCall.heapD2 rfl rfl (H142 T hTl hT2 p.free p.iso (by omega) (by omega) (by omega) (by omega) y b8)) rfl ⟨.refl _,DLe.box,DLe.box,trivial⟩ ?_;rintro d H' ⟨rfl,rfl⟩;refine ⟨_,.refl _,?_⟩;exact Ex () (SubHF.of (hs:=[(2,.box b2 [.box 4102 bp 0]),(4,.box b4 Z16),(6,.box b6 (layC p.start count 0 0 0 0 0 0 0 0 (.nils) (.nils))),(7,.box y [.sl .none 1 (intsD T)]),(8,.box b8 [Iv (findW T p.iso p.free+p.iso)]),(4102,.box bp (planC p bg)),(4001,.mp bg (encMap encF p.given))]) ⟨rfl,Y⟩)
     refine ⟨fun _ f hI=>?_,?_⟩
     ·obtain ⟨f,rfl⟩:= hI.o f 12 6;apply Ti;apply Rl;(conv=>whnf);exact Ex ()
     refine Qo ?_;refine Qo ?_;refine ⟨fun _ f hI=>?_,?_⟩
     ·obtain ⟨f,rfl⟩:= hI.o f 12 9;apply Ti;apply Rl;(conv=>whnf);exact Ex ()
     refine Qo ?_;refine Qo ?_;refine ⟨fun _ f hI=>?_,?_⟩
     ·(conv=>whnf);apply Ti;apply Rl;(conv=>whnf);exact Ex () (SubHF.of (hs:=[(2,.box b2 [.box 4102 bp 0]),(4,.box b4 Z16),(6,.box b6 (layC p.start count (findW T p.iso p.free) p.iso 0 0 0 0 0 0 (.nils) (.nils))),(7,.box y [.sl .none 1 (intsD T)]),(8,.box b8 [Iv (findW T p.iso p.free+p.iso)]),(4102,.box bp (planC p bg)),(4001,.mp bg (encMap encF p.given))]) ⟨rfl,Y⟩)
     exact trivial
    intro _ f hfl;(conv=>whnf);refine ⟨(),[(2,2),(4,4),(6,6),(7,7),(8,8),(4102,4102),(4001,4001)],Z,rfl,rfl,rfl,rfl,rfl,rfl,?_,rfl,rfl,rfl,?_,rfl,Y⟩
    ·show some (HObj.box b6 (bif f 12 then _ else _))=_
     rw [hfl 12 (by decide +kernel),lyS,lyC,if_pos hc,if_pos hc]; rfl
    show some (HObj.box b8 [Iv (bif f 5 then _ else _)])=_
    rw [hfl 5 (by decide +kernel),lyA,if_pos hc]; rfl
  apply Sk;(conv=>whnf)
  exact ⟨(),[(2,2),(4,4),(6,6),(7,7),(8,8),(4102,4102),(4001,4001)],Z,rfl,rfl,rfl,rfl,rfl,rfl,congrArg (fun z=>some (HObj.box b6 z)) (by rw [lyS,lyC,if_neg (by rw [hc]; decide),if_neg (by rw [hc]; decide)]),rfl,rfl,rfl,congrArg (fun z=>some (HObj.box b8 [Iv z])) (by rw [lyA,if_neg (by rw [hc]; decide)]),rfl,Y⟩
 rintro ⟨⟩
 have hA:0≤lyA p T∧lyA p T≤2000000000:=by
  have h1:=findW_range (n:=p.iso) hT2 p.free
  unfold lyA; split<;>omega
 apply Sr;apply Rl;apply Rl;(conv=>whnf);refine ⟨[Iv p.m.views,Iv 3],_,fun _=>H35 p.m.views 3 (by decide),Z,?_⟩;(conv=>whnf);refine Tri.joinK (α:=Unit) (fun x=>[(1,Iv count),(2,.box 2 b2 0),(4,.box 4 b4 0),(6,.box 6 b6 0),(7,.box 7 y 0),(8,.box 8 b8 0),(9,.fn (.func 142) [] [.box 7 y 0,.box 8 b8 0]),(10,.bool (udfB p))]) (fun x=>[(2,.box b2 [.box 4102 bp 0]),(4,.box b4 Z16),(6,.box b6 (layC p.start count (lyS p T) (lyC p) (pick0 (udfB p) p.m.udf) (pick0 (udfB p) p.start) (pick0 (udfB p) count) (pick0 (udfB p) (p.start+16+p.desc)) 0 0 (.sl .none 1 (intsD (lyU p T).1)) (.nils))),(7,.box y [.sl .none 1 (intsD T)]),(8,.box b8 [Iv (lyU p T).2]),(4102,.box bp (planC p bg)),(4001,.mp bg (encMap encF p.given))]) ?_ ?_
 ·apply Sr;refine Cd (udfB p) rfl (fun hc=>?_) (fun hc=>?_)
  ·apply Sq;refine Tri.drawTail ti_ok 17 mixed (by kernel_rfl) ?_;apply Rl;apply Rl;apply Rl;apply Rl;apply Rl;refine Ir ?_;apply Rl;apply Rl;refine Ir ?_;apply Rl;apply Sr;apply Rl;apply Rl;(conv=>whnf);refine Tri.ownNil 2001 1 3 ?_;refine Tri.boxLe 6 (cs':=(layC p.start count (lyS p T) (lyC p) p.m.udf p.start count (p.start+16+p.desc) 0 0 (.sl (.own 2001 (.slice none 0 0)) 1 []) (.nils))) rfl ⟨.refl _,.refl _,.refl _,.refl _,.refl _,.refl _,.refl _,.refl _,.refl _,.refl _,.refl _,DLe.nilOwn,.refl _,.refl _,.refl _,.refl _,trivial⟩ ?_;apply Bk
   refine Tri.loopK (α:={ i:Nat // (i:Int)≤p.udf }×Value) (fun x=>[(1,Iv count),(2,.box 2 b2 0),(4,.box 4 b4 0),(6,.box 6 b6 0),(7,.box 7 y 0),(8,.box 8 b8 0),(9,.fn (.func 142) [] [.box 7 y 0,.box 8 b8 0]),(10,.bool (udfB p)),(89,Iv p.udf),(90,Iv x.1.1)]) (fun x=>[(2,.box b2 [.box 4102 bp 0]),(4,.box b4 Z16),(6,.box b6 (layC p.start count (lyS p T) (lyC p) p.m.udf p.start count (p.start+16+p.desc) 0 0 (.sl (.own 2001 x.2) 1 (intsD (blkS T x.1.1 (lyA p T)).1)) (.nils))),(7,.box y [.sl .none 1 (intsD T)]),(8,.box b8 [Iv (blkS T x.1.1 (lyA p T)).2]),(4102,.box bp (planC p bg)),(4001,.mp bg (encMap encF p.given)),(2001,.own x.2 (intsD (blkS T x.1.1 (lyA p T)).1).length 1 3)]) (fun x=>p.udf.toNat-x.1.1) (⟨0,by omega⟩,.slice none 0 0) [(2,2),(4,4),(6,6),(7,7),(8,8),(4102,4102),(4001,4001),(2001,2001)]
    ⟨Z,rfl,Y⟩ ?_
   rintro ⟨⟨i,hi⟩,w⟩;dsimp only at hi ⊢;apply Sr;apply Sq;refine Cd (decide ((i:Int)<p.udf)) rfl (fun hc2=>?_) (fun hc2=>?_)
   ·apply Sk
    have hiu:(i:Int)<p.udf:=of_decide_eq_true hc2
    have hbr:=blkS_range hT2 (lyA p T) hA.1 i
    have hbn:blkS T (i+1) (lyA p T)=((blkS T i (lyA p T)).1++[findW T 1 (blkS T i (lyA p T)).2],findW T 1 (blkS T i (lyA p T)).2+1):=rfl
    have hbl:=blkS_len T (lyA p T) i
    generalize blkS T i (lyA p T)=bs at *
    have hil:(intsD bs.1).length=i:=by rw [intsD,List.length_map,hbl]
    apply Sq;apply Bk;refine Tri.forgetK [(1,Iv count),(2,.box 2 b2 0),(4,.box 4 b4 0),(6,.box 6 b6 0),(7,.box 7 y 0),(8,.box 8 b8 0),(9,.fn (.func 142) [] [.box 7 y 0,.box 8 b8 0]),(10,.bool (udfB p)),(89,Iv p.udf),(90,Iv (i:Int))] [(2,.box b2 [.box 4102 bp 0]),(4,.box b4 Z16),(6,.box b6 (layC p.start count (lyS p T) (lyC p) p.m.udf p.start count (p.start+16+p.desc) 0 0 (.sl (.own 2001 w) 1 (intsD bs.1)) (.nils))),(7,.box y [.sl .none 1 (intsD T)]),(8,.box b8 [Iv bs.2]),(4102,.box bp (planC p bg)),(4001,.mp bg (encMap encF p.given)),(2001,.own w (intsD bs.1).length 1 3)] [(2,2),(4,4),(6,6),(7,7),(8,8),(4102,4102),(4001,4001),(2001,2001)] ⟨Z,rfl,Y⟩ ?_
    refine Tri.bitsG ti_ok mixed (α:=Value) (fun z f=>[(1,Iv count),(2,.box 2 b2 0),(4,.box 4 b4 0),(6,.box 6 b6 0),(7,.box 7 y 0),(8,.box 8 b8 0),(9,.fn (.func 142) [] [.box 7 y 0,.box 8 b8 0]),(10,.bool (udfB p)),(89,Iv p.udf),(90,Iv (i:Int)),(92,bif f 0 then .box 6 b6 4 else .any),(93,bif f 1 then .box 6 b6 11 else .any),(94,bif f 2 then .sl (.own 2001 w) 1 (intsD bs.1) else .any),(95,bif f 3 then .fn (.func 142) [] [.box 7 y 0,.box 8 b8 0] else .any),(96,bif f 4 then Iv (findW T 1 bs.2) else .any),(97,bif f 5 then .sl .full 1 [Iv (findW T 1 bs.2)] else .any),(98,bif f 6 then .sl (.own 98 z) 1 (intsD bs.1++[Iv (findW T 1 bs.2)]) else .any),(99,bif f 7 then .box 6 b6 4 else .any),(100,bif f 8 then .box 6 b6 11 else .any)])
     (fun z f=>look ([(2,.box b2 [.box 4102 bp 0]),(4,.box b4 Z16),(6,.box b6 (bif f 9 then (layC p.start count (lyS p T) (lyC p) p.m.udf p.start count (p.start+16+p.desc) 0 0 (.sl (.own 98 z) 1 (intsD bs.1++[Iv (findW T 1 bs.2)])) (.nils)) else (layC p.start count (lyS p T) (lyC p) p.m.udf p.start count (p.start+16+p.desc) 0 0 (.sl (.own 2001 w) 1 (intsD bs.1)) (.nils)))),(7,.box y [.sl .none 1 (intsD T)]),(8,.box b8 [Iv (bif f 4 then (findW T 1 bs.2)+1 else bs.2)]),(4102,.box bp (planC p bg)),(4001,.mp bg (encMap encF p.given))]++(bif f 6 then [(98,.own z ((intsD bs.1).length+1) 1 3)] else [(2001,.own w (intsD bs.1).length 1 3)]))) (by decide +kernel) Value.nilFunc ?_ ?_ ?_ ?_
    ·exact ⟨.refl _,.refl _,.refl _,.refl _,.refl _,.refl _,.refl _,.refl _,.refl _,.refl _,.any _,.any _,.any _,.any _,.any _,.any _,.any _,.any _,.any _,trivial⟩
    ·exact SubHF.of (hs:=[(2,.box b2 [.box 4102 bp 0]),(4,.box b4 Z16),(6,.box b6 (layC p.start count (lyS p T) (lyC p) p.m.udf p.start count (p.start+16+p.desc) 0 0 (.sl (.own 2001 w) 1 (intsD bs.1)) (.nils))),(7,.box y [.sl .none 1 (intsD T)]),(8,.box b8 [Iv bs.2]),(4102,.box bp (planC p bg)),(4001,.mp bg (encMap encF p.given)),(2001,.own w (intsD bs.1).length 1 3)]) ⟨rfl,Y⟩
    ·(conv=>whnf);refine Qo ?_;refine Qo ?_;refine ⟨fun z f hI=>?_,?_⟩
     ·obtain ⟨f,rfl⟩:= hI.o f 6 2;obtain ⟨f,rfl⟩:= hI.o f 9 2;apply Ti;apply Rl;(conv=>whnf);exact Ex z
     refine Qo ?_;refine ⟨fun z f hI=>?_,?_⟩
     ·obtain ⟨f,rfl⟩:= hI.o f 6 4;obtain ⟨f,rfl⟩:= hI.o f 9 4;apply Tk;refine XOp.call rfl [Iv 1,.box 4201 y 0,.box 4202 b8 0] [(4201,7),(4202,8)] (DCall.heapD2 rfl rfl (H142 T hTl hT2 bs.2 1 hbr.1 (by omega) (by omega) (by omega) y b8)) rfl ⟨.refl _,DLe.box,DLe.box,trivial⟩ ?_;rintro d H' ⟨rfl,rfl⟩;refine ⟨_,.refl _,?_⟩;exact Ex z (SubHF.of (hs:=[(2,.box b2 [.box 4102 bp 0]),(4,.box b4 Z16),(6,.box b6 (layC p.start count (lyS p T) (lyC p) p.m.udf p.start count (p.start+16+p.desc) 0 0 (.sl (.own 2001 w) 1 (intsD bs.1)) (.nils))),(7,.box y [.sl .none 1 (intsD T)]),(8,.box b8 [Iv ((findW T 1 bs.2)+1)]),(4102,.box bp (planC p bg)),(4001,.mp bg (encMap encF p.given)),(2001,.own w (intsD bs.1).length 1 3)]) ⟨rfl,Y⟩)
     refine ⟨fun z f hI=>?_,?_⟩
     ·obtain ⟨f,rfl⟩:= hI.o f 6 5;obtain ⟨f,rfl⟩:= hI.o f 9 5;apply Ti;(conv=>whnf);refine ⟨trivial,?_⟩;(conv=>whnf);exact Ex z
     refine ⟨fun z f hI=>?_,?_⟩
     ·obtain ⟨f,rfl⟩:= hI.o f 9 6;apply Ti;(conv=>whnf);refine ⟨rfl,rfl,?_⟩;(conv=>whnf)
      refine ⟨by show (_+1)*8≤_; rw [hil]; omega,by show _+1≤_; rw [hil]; omega,(fun h=>by cases h),fun v=>?_⟩
      (conv=>whnf);exact Ex v (SubHF.of (hs:=[(2,.box b2 [.box 4102 bp 0]),(4,.box b4 Z16),(6,.box b6 (layC p.start count (lyS p T) (lyC p) p.m.udf p.start count (p.start+16+p.desc) 0 0 (.sl (.own 2001 w) 1 (intsD bs.1)) (.nils))),(7,.box y [.sl .none 1 (intsD T)]),(8,.box b8 [Iv ((findW T 1 bs.2)+1)]),(4102,.box bp (planC p bg)),(4001,.mp bg (encMap encF p.given)),(98,.own v ((intsD bs.1).length+1) 1 3)]) ⟨rfl,Y⟩)
     refine Qo ?_;refine Qo ?_;refine ⟨fun z f hI=>?_,?_⟩
     ·(conv=>whnf);apply Ti;apply Rl;(conv=>whnf);exact Ex z (SubHF.of (hs:=[(2,.box b2 [.box 4102 bp 0]),(4,.box b4 Z16),(6,.box b6 (layC p.start count (lyS p T) (lyC p) p.m.udf p.start count (p.start+16+p.desc) 0 0 (.sl (.own 98 z) 1 (intsD bs.1++[Iv (findW T 1 bs.2)])) (.nils))),(7,.box y [.sl .none 1 (intsD T)]),(8,.box b8 [Iv ((findW T 1 bs.2)+1)]),(4102,.box bp (planC p bg)),(4001,.mp bg (encMap encF p.given)),(98,.own z ((intsD bs.1).length+1) 1 3)]) ⟨rfl,Y⟩)
     exact trivial
    intro z f hf;(conv=>whnf);refine Tri.forgetG [(1,Iv count),(2,.box 2 b2 0),(4,.box 4 b4 0),(6,.box 6 b6 0),(7,.box 7 y 0),(8,.box 8 b8 0),(9,.fn (.func 142) [] [.box 7 y 0,.box 8 b8 0]),(10,.bool (udfB p)),(89,Iv p.udf),(90,Iv (i:Int))] (look [(2,.box b2 [.box 4102 bp 0]),(4,.box b4 Z16),(6,.box b6 (layC p.start count (lyS p T) (lyC p) p.m.udf p.start count (p.start+16+p.desc) 0 0 (.sl (.own 98 z) 1 (intsD bs.1++[Iv (findW T 1 bs.2)])) (.nils))),(7,.box y [.sl .none 1 (intsD T)]),(8,.box b8 [Iv ((findW T 1 bs.2)+1)]),(4102,.box bp (planC p bg)),(4001,.mp bg (encMap encF p.given)),(98,.own z ((intsD bs.1).length+1) 1 3)]) (.same Z (SubHF.of ⟨rfl,rfl,?_,rfl,?_,rfl,rfl,?_,trivial⟩)) ?_
    ·show some (HObj.box b6 (bif f 9 then _ else _))=_
     rw [hf 9 (by decide +kernel)]; rfl
    ·show some (HObj.box b8 [Iv (bif f 4 then _ else _)])=_
     rw [hf 4 (by decide +kernel)]; rfl
    ·show look (([(2,_),(4,_),(6,_),(7,_),(8,_),(4102,_),(4001,_)]:List (Nat×HObj))++(bif f 6 then _ else _)) 98=_
     rw [hf 6 (by decide +kernel)]; rfl
    refine Tri.boxLe 6 (cs':=(layC p.start count (lyS p T) (lyC p) p.m.udf p.start count (p.start+16+p.desc) 0 0 (.sl (.own 2001 z) 1 (intsD (bs.1++[(findW T 1 bs.2)]))) (.nils))) rfl ⟨.refl _,.refl _,.refl _,.refl _,.refl _,.refl _,.refl _,.refl _,.refl _,.refl _,.refl _,DLe.ownEq (by simp [intsD]),.refl _,.refl _,.refl _,.refl _,trivial⟩ ?_;apply Rg;refine Ir ?_;(conv=>whnf)
    exact ⟨(⟨i+1,by omega⟩,z),[(2,2),(4,4),(6,6),(7,7),(8,8),(4102,4102),(4001,4001),(2001,98)],by show p.udf.toNat-(i+1)<p.udf.toNat-i; omega,⟨.refl _,.refl _,.refl _,.refl _,.refl _,.refl _,.refl _,.refl _,.refl _,intDLe (by show _=(((i+1:Nat)):Int); omega),trivial⟩,rfl,rfl,rfl,rfl,rfl,rfl,congrArg (fun q:List Int×Int=>some (HObj.box b6 (layC p.start count (lyS p T) (lyC p) p.m.udf p.start count (p.start+16+p.desc) 0 0 (.sl (.own 2001 z) 1 (intsD q.1)) (.nils)))) hbn.symm,rfl,rfl,rfl,congrArg (fun q:List Int×Int=>some (HObj.box b8 [Iv q.2])) hbn.symm,rfl,rfl,rfl,rfl,rfl,congrArg (fun q:List Int×Int=>some (HObj.own z (intsD q.1).length 1 3)) hbn.symm |> Eq.trans (congrArg (fun n=>some (HObj.own z n 1 3)) (by simp [intsD])),trivial⟩
   have hin:(i:Int)=p.udf:=by have:=of_decide_eq_false hc2; omega
   have hU:lyU p T=blkS T i (lyA p T):=by rw [lyU,if_pos hc,show p.udf.toNat=i by omega]
   have hk:∀ x,pick0 (udfB p) x=x:=fun x=>if_pos hc
   refine Tri.boxLe 6 (cs':=(layC p.start count (lyS p T) (lyC p) p.m.udf p.start count (p.start+16+p.desc) 0 0 (.sl .none 1 (intsD (blkS T i (lyA p T)).1)) (.nils))) rfl ⟨.refl _,.refl _,.refl _,.refl _,.refl _,.refl _,.refl _,.refl _,.refl _,.refl _,.refl _,DLe.unown,.refl _,.refl _,.refl _,.refl _,trivial⟩ ?_;refine Tri.exit ?_;(conv=>whnf)
   exact ⟨(),[(2,2),(4,4),(6,6),(7,7),(8,8),(4102,4102),(4001,4001)],Z,rfl,rfl,rfl,rfl,rfl,rfl,(by rw [hU,hk,hk,hk,hk]; rfl),rfl,rfl,rfl,(by rw [hU]; rfl),rfl,Y⟩
  have hU:lyU p T=([],lyA p T):=if_neg (by rw [hc]; decide)
  have hk:∀ x,pick0 (udfB p) x=0:=fun x=>if_neg (by rw [hc]; decide)
  refine Tri.boxLe 6 (cs':=(layC p.start count (lyS p T) (lyC p) 0 0 0 0 0 0 (.sl .none 1 []) (.nils))) rfl ⟨.refl _,.refl _,.refl _,.refl _,.refl _,.refl _,.refl _,.refl _,.refl _,.refl _,.refl _,DLe.nil,.refl _,.refl _,.refl _,.refl _,trivial⟩ ?_;apply Sk;(conv=>whnf)
  exact ⟨(),[(2,2),(4,4),(6,6),(7,7),(8,8),(4102,4102),(4001,4001)],Z,rfl,rfl,rfl,rfl,rfl,rfl,(by rw [hU,hk,hk,hk,hk]; rfl),rfl,rfl,rfl,(by rw [hU]; rfl),rfl,Y⟩
 rintro ⟨⟩
 have hA2:0≤(lyU p T).2∧(lyU p T).2≤3000000000:=by
  have h1:=blkS_range hT2 (lyA p T) hA.1 p.udf.toNat
  unfold lyU; split
  ·omega
  show 0≤lyA p T∧lyA p T≤_; omega
 have hBL:∀ b∈(lyU p T).1,0≤b∧b≤3000000000:=by
  intro b hb
  unfold lyU at hb; split at hb
  ·have h1:=blkS_mem hT2 (lyA p T) hA.1 p.udf.toNat b hb; omega
  cases hb
 have hlay:layE p count=extV p T (lyU p T).2:=by rw [layE,hTT]
 have hex:=extV_ok (p:=p) hT2 hp13 hp14 (lyU p T).2 hA2.1
 rw [← hlay] at hex;apply Sq;refine Tri.regionX ti_ok ?_;apply Il;apply Rl;(conv=>whnf);refine .inr (XOp.call rfl [.box 4000 bp 0,.fn (.func 142) [] [.box 4201 y 0,.box 4202 b8 0]] [(4000,4102),(4001,4001),(4201,7),(4202,8),(4002,4002),(4003,4003)] (DCall.heapX rfl rfl rfl rfl rfl rfl (H145 p T hTl hT2 (lyU p T).2 hA2.1 (by omega) hp11 hp12 hp13 bp bg y b8)) rfl ⟨DLe.box,DLe.fn trivial ⟨DLe.box,DLe.box,trivial⟩,trivial⟩ ?_);rintro d H' ⟨bo,bs,rfl,rfl⟩;refine ⟨_,.refl _,?_⟩;(conv=>whnf);rw [← hlay];generalize hE:layE p count=e at *;generalize hUU:lyU p T=U at *;obtain ⟨BL,A2⟩:=U;dsimp only at hA2 hBL hex ⊢;obtain ⟨hs1,hs2,hea,heb⟩:=hex;apply Sr;apply Rl;(conv=>whnf);refine Tri.joinK (α:=Unit) (fun x=>[(1,Iv count),(2,.box 2 b2 0),(4,.box 4 b4 0),(6,.box 6 b6 0),(7,.box 7 y 0),(8,.box 8 b8 0),(10,.bool (udfB p)),(11,.raw (.map (some bo))),(12,.raw (.map (some bs))),(13,Iv (firstV0 BL e.a))]) (fun x=>[(2,.box b2 [.box 4102 bp 0]),(4,.box b4 Z16),(6,.box b6 (layC p.start count (lyS p T) (lyC p) (pick0 (udfB p) p.m.udf) (pick0 (udfB p) p.start) (pick0 (udfB p) count) (pick0 (udfB p) (p.start+16+p.desc)) 0 0 (.sl .none 1 (intsD BL)) (.nils))),(7,.box y [.sl .none 1 (intsD T)]),(8,.box b8 [Iv e.a]),(4102,.box bp (planC p bg)),(4001,.mp bg (encMap encF p.given)),(4002,.mp bo (encMap encF e.own)),(4003,.mp bs (encMap encF e.sh))]) ?_ ?_
 ·apply Sr;apply Rl;refine Cd (decide (0<((intsD BL).length:Int))) rfl (fun hc=>?_) (fun hc=>?_)
  ·obtain ⟨bx,br,rfl⟩:∃ x r,BL=x::r:=by
    cases BL with
    | nil=>simp [intsD] at hc
    | cons x r=>exact ⟨x,r,rfl⟩
   apply Rg;apply Rl;(conv=>whnf);refine ⟨fun _=>by simp [intsD],?_⟩;refine Lo (Iv bx) ?_;(conv=>whnf);exact ⟨(),[(2,2),(4,4),(6,6),(7,7),(8,8),(4102,4102),(4001,4001),(4002,4002),(4003,4003)],Z,rfl,Y⟩
  obtain rfl:BL=[]:=by
   cases BL with
   | nil=>rfl
   | cons x r=>simp [intsD] at hc
  apply Sk;(conv=>whnf);exact ⟨(),[(2,2),(4,4),(6,6),(7,7),(8,8),(4102,4102),(4001,4001),(4002,4002),(4003,4003)],Z,rfl,Y⟩
 rintro ⟨⟩
 have hf0:0≤firstV0 BL e.a∧firstV0 BL e.a≤100000000000:=by
  cases BL with
  | nil=>show 0≤e.a∧e.a≤_; omega
  | cons x r=>have:=hBL x List.mem_cons_self; show 0≤x∧x≤_; omega
 generalize hF0:firstV0 BL e.a=f0 at *;apply Sq;apply Sr;apply Rl;apply Rl;(conv=>whnf);refine Tri.ownNil 2002 3 53 ?_;refine Tri.boxLe 6 (cs':=(layC p.start count (lyS p T) (lyC p) (pick0 (udfB p) p.m.udf) (pick0 (udfB p) p.start) (pick0 (udfB p) count) (pick0 (udfB p) (p.start+16+p.desc)) 0 0 (.sl .none 1 (intsD BL)) (.sl (.own 2002 (.slice none 0 0)) 3 []))) rfl ⟨.refl _,.refl _,.refl _,.refl _,.refl _,.refl _,.refl _,.refl _,.refl _,.refl _,.refl _,.refl _,.refl _,.refl _,.refl _,DLe.nilOwn,trivial⟩ ?_;apply Bk
 refine Tri.loopK (α:={ i:Nat // i≤p.files.length }×Value) (fun x=>[(1,Iv count),(2,.box 2 b2 0),(4,.box 4 b4 0),(6,.box 6 b6 0),(7,.box 7 y 0),(8,.box 8 b8 0),(10,.bool (udfB p)),(11,.raw (.map (some bo))),(12,.raw (.map (some bs))),(13,Iv ((p.files.take x.1.1).foldl (firstX p e) f0)),(122,.sl .none 2 (p.files.map encPF)),(123,Iv ((p.files.map encPF).length:Nat)),(124,Iv x.1.1)]) (fun x=>[(2,.box b2 [.box 4102 bp 0]),(4,.box b4 Z16),(6,.box b6 (layC p.start count (lyS p T) (lyC p) (pick0 (udfB p) p.m.udf) (pick0 (udfB p) p.start) (pick0 (udfB p) count) (pick0 (udfB p) (p.start+16+p.desc)) 0 0 (.sl .none 1 (intsD BL)) (.sl (.own 2002 x.2) 3 (((p.files.take x.1.1).map (fileX e)).map encF)))),(7,.box y [.sl .none 1 (intsD T)]),(8,.box b8 [Iv e.a]),(4102,.box bp (planC p bg)),(4001,.mp bg (encMap encF p.given)),(4002,.mp bo (encMap encF e.own)),(4003,.mp bs (encMap encF e.sh)),(2002,.own x.2 (((p.files.take x.1.1).map (fileX e)).map encF).length 3 53)]) (fun x=>p.files.length-x.1.1) (⟨0,by omega⟩,.slice none 0 0) [(2,2),(4,4),(6,6),(7,7),(8,8),(4102,4102),(4001,4001),(4002,4002),(4003,4003),(2002,2002)]
  ⟨Z,rfl,Y⟩ ?_
 rintro ⟨⟨i,hi⟩,w⟩;dsimp only at hi ⊢;apply Sr;apply Sq;refine Cd (decide ((i:Int)<((p.files.map encPF).length:Nat))) rfl (fun hc=>?_) (fun hc=>?_)
 ·apply Sk
  have hia:i<p.files.length:=by simpa using hc
  have hget:=pfs_get hia
  have hfr:=first_range (p:=p) hs1 hs2 (p.files.take i) f0 hf0.1
  have hlen:(((p.files.take i).map (fileX e)).map encF).length=i:=by simp; omega
  have hfn:(p.files.take (i+1)).foldl (firstX p e) f0=firstX p e ((p.files.take i).foldl (firstX p e) f0) p.files[i]:=by rw [List.take_succ_eq_append_getElem hia,List.foldl_append]; rfl
  have hfm:((p.files.take (i+1)).map (fileX e)).map encF=((p.files.take i).map (fileX e)).map encF++[encF (fileX e p.files[i])]:=by rw [List.take_succ_eq_append_getElem hia,List.map_append,List.map_append]; rfl
  generalize (p.files.take i).foldl (firstX p e) f0=F at *;generalize ((p.files.take i).map (fileX e)).map encF=FL at *;generalize p.files[i]=pf at *;apply Sq;apply Bk;apply Sr;(conv=>whnf)
  refine ⟨fun _=>by rw [List.length_map]; omega,?_⟩
  (conv=>whnf);refine ⟨encPF pf,fun _=>hget,?_⟩;(conv=>whnf);intro b15;apply Rl;apply Sq;refine Tri.regionX ti_ok ?_;apply Il;apply Rl;(conv=>whnf);refine .inr (XOp.mpGet 4002 (kt:=9) (et:=53) (enc:=encF) (z:=zF) rfl rfl rfl rfl rfl (fun w=>rfl) (fun w C=>zF_rep w C) ?_);(conv=>whnf);intro b16;apply Il;apply Rl;(conv=>whnf)
  have hXV:fileX e pf=⟨pf.path,(if useSh e pf=true then (aget e.sh pf.data).getD zF else (aget e.own pf.path).getD zF).start,(if useSh e pf=true then (aget e.sh pf.data).getD zF else (aget e.own pf.path).getD zF).len⟩:=by
   unfold fileX
   by_cases h:useSh e pf=true
   ·rw [if_pos h,if_pos h]
   rw [if_neg h,if_neg h]
  refine Tri.joinK (α:=Unit) (fun x=>[(1,Iv count),(2,.box 2 b2 0),(4,.box 4 b4 0),(6,.box 6 b6 0),(7,.box 7 y 0),(8,.box 8 b8 0),(10,.bool (udfB p)),(11,.raw (.map (some bo))),(12,.raw (.map (some bs))),(13,Iv F),(122,.sl .none 2 (p.files.map encPF)),(123,Iv ((p.files.map encPF).length:Nat)),(124,Iv (i:Int)),(15,.box 15 b15 0),(16,.box 16 b16 0)]) (fun x=>[(2,.box b2 [.box 4102 bp 0]),(4,.box b4 Z16),(6,.box b6 (layC p.start count (lyS p T) (lyC p) (pick0 (udfB p) p.m.udf) (pick0 (udfB p) p.start) (pick0 (udfB p) count) (pick0 (udfB p) (p.start+16+p.desc)) 0 0 (.sl .none 1 (intsD BL)) (.sl (.own 2002 w) 3 FL))),(7,.box y [.sl .none 1 (intsD T)]),(8,.box b8 [Iv e.a]),(4102,.box bp (planC p bg)),(4001,.mp bg (encMap encF p.given)),(4002,.mp bo (encMap encF e.own)),(4003,.mp bs (encMap encF e.sh)),(2002,.own w FL.length 3 53),(15,.box b15 (encPF pf).cells),(16,.box b16 (encF (if useSh e pf=true then (aget e.sh pf.data).getD zF else (aget e.own pf.path).getD zF)).cells)]) ?_ ?_
  ·apply Sq;refine Tri.regionX ti_ok ?_;apply Il;apply Rl;(conv=>whnf);refine .inr (XOp.mpGet 4003 (kt:=9) (et:=53) (enc:=encF) (z:=zF) rfl rfl rfl rfl rfl (fun w=>rfl) (fun w C=>zF_rep w C) ?_);(conv=>whnf);intro b18;apply Il;apply Rl;apply Sr;refine Pk ?_;apply Hh;apply Rl;apply Hh;refine Pk ?_;refine Cd (useSh e pf) rfl (fun hc2=>?_) (fun hc2=>?_)
   ·apply Rg;apply Rl;apply Rl;(conv=>whnf);exact ⟨(),[(2,2),(4,4),(6,6),(7,7),(8,8),(4102,4102),(4001,4001),(4002,4002),(4003,4003),(2002,2002),(15,15),(16,16)],Z,rfl,rfl,rfl,rfl,rfl,rfl,rfl,rfl,rfl,rfl,rfl,rfl,rfl,rfl,rfl,rfl,rfl,rfl,rfl,rfl,rfl,rfl,rfl,rfl,congrArg (fun v=>some (HObj.box b16 (encF v).cells)) (if_pos hc2).symm,trivial⟩
   apply Sk;(conv=>whnf)
   exact ⟨(),[(2,2),(4,4),(6,6),(7,7),(8,8),(4102,4102),(4001,4001),(4002,4002),(4003,4003),(2002,2002),(15,15),(16,16)],Z,rfl,rfl,rfl,rfl,rfl,rfl,rfl,rfl,rfl,rfl,rfl,rfl,rfl,rfl,rfl,rfl,rfl,rfl,rfl,rfl,rfl,rfl,rfl,rfl,congrArg (fun v=>some (HObj.box b16 (encF v).cells)) (if_neg (by rw [hc2]; decide)).symm,trivial⟩
  rintro ⟨⟩;generalize (if useSh e pf=true then (aget e.sh pf.data).getD zF else (aget e.own pf.path).getD zF)=xv at *;apply Sr;apply Rl;apply Rl;apply Sr;apply Rl;apply Rl;(conv=>whnf);refine ⟨trivial,?_⟩;(conv=>whnf);refine ⟨rfl,rfl,?_⟩;(conv=>whnf)
  refine ⟨by show (_+1)*32≤_; omega,by show _+1≤_; omega,(fun h=>by cases h),fun v=>?_⟩
  apply Rl;apply Sq
  refine Tri.boxLe 6 (cs':=(layC p.start count (lyS p T) (lyC p) (pick0 (udfB p) p.m.udf) (pick0 (udfB p) p.start) (pick0 (udfB p) count) (pick0 (udfB p) (p.start+16+p.desc)) 0 0 (.sl .none 1 (intsD BL)) (.sl (.own 2002 v) 3 (FL++[encF (fileX e pf)])))) rfl ⟨.refl _,.refl _,.refl _,.refl _,.refl _,.refl _,.refl _,.refl _,.refl _,.refl _,.refl _,.refl _,.refl _,.refl _,.refl _,DLe.ownEq (by rw [hXV]; rfl),trivial⟩ ?_
  refine Tri.forgetK [(1,Iv count),(2,.box 2 b2 0),(4,.box 4 b4 0),(6,.box 6 b6 0),(7,.box 7 y 0),(8,.box 8 b8 0),(10,.bool (udfB p)),(11,.raw (.map (some bo))),(12,.raw (.map (some bs))),(13,Iv F),(122,.sl .none 2 (p.files.map encPF)),(123,Iv ((p.files.map encPF).length:Nat)),(124,Iv (i:Int)),(15,.box 15 b15 0),(16,.box 16 b16 0)] [(2,.box b2 [.box 4102 bp 0]),(4,.box b4 Z16),(6,.box b6 (layC p.start count (lyS p T) (lyC p) (pick0 (udfB p) p.m.udf) (pick0 (udfB p) p.start) (pick0 (udfB p) count) (pick0 (udfB p) (p.start+16+p.desc)) 0 0 (.sl .none 1 (intsD BL)) (.sl (.own 2002 v) 3 (FL++[encF (fileX e pf)])))),(7,.box y [.sl .none 1 (intsD T)]),(8,.box b8 [Iv e.a]),(4102,.box bp (planC p bg)),(4001,.mp bg (encMap encF p.given)),(4002,.mp bo (encMap encF e.own)),(4003,.mp bs (encMap encF e.sh)),(2002,.own v (FL.length+1) 3 53),(15,.box b15 (encPF pf).cells),(16,.box b16 (encF (fileX e pf)).cells)] [(2,2),(4,4),(6,6),(7,7),(8,8),(4102,4102),(4001,4001),(4002,4002),(4003,4003),(2002,160),(15,15),(16,16)] ⟨Z,rfl,rfl,rfl,rfl,rfl,rfl,rfl,rfl,rfl,rfl,rfl,rfl,rfl,rfl,rfl,rfl,rfl,rfl,rfl,rfl,(by exact congrArg (fun n=>some (HObj.own v n 3 53)) rfl),rfl,rfl,rfl,(by rw [hXV]; rfl),trivial⟩ ?_
  refine Tri.bitsG ti_ok mixed (α:=Nat) (fun q f=>[(1,Iv count),(2,.box 2 b2 0),(4,.box 4 b4 0),(6,.box 6 b6 0),(7,.box 7 y 0),(8,.box 8 b8 0),(10,.bool (udfB p)),(11,.raw (.map (some bo))),(12,.raw (.map (some bs))),(13,Iv F),(122,.sl .none 2 (p.files.map encPF)),(123,Iv ((p.files.map encPF).length:Nat)),(124,Iv (i:Int)),(15,.box 15 b15 0),(16,.box 16 b16 0),(163,bif f 0 then .box 4102 bp 0 else .any),(164,bif f 1 then .box 4102 bp 0 else .any),(165,bif f 2 then .box 4102 bp 15 else .any),(166,bif f 3 then .raw (.map (some bg)) else .any),(167,bif f 4 then .box 15 b15 0 else .any),(168,bif f 5 then .str pf.path else .any),(169,bif f 6 then .tup [encF ((aget p.given pf.path).getD zF),.bool (aget p.given pf.path).isSome] else .any),(162,bif f 7 then .tup [encF ((aget p.given pf.path).getD zF),.bool (aget p.given pf.path).isSome] else .any),(170,bif f 8 then encF ((aget p.given pf.path).getD zF) else .any),(171,bif f 9 then .bool (aget p.given pf.path).isSome else .any),(20,bif f 10 then .box 20 q 0 else .any),(21,bif f 12 then .bool (aget p.given pf.path).isSome else .any)])
   (fun q f=>look ([(2,.box b2 [.box 4102 bp 0]),(4,.box b4 Z16),(6,.box b6 (layC p.start count (lyS p T) (lyC p) (pick0 (udfB p) p.m.udf) (pick0 (udfB p) p.start) (pick0 (udfB p) count) (pick0 (udfB p) (p.start+16+p.desc)) 0 0 (.sl .none 1 (intsD BL)) (.sl (.own 2002 v) 3 (FL++[encF (fileX e pf)])))),(7,.box y [.sl .none 1 (intsD T)]),(8,.box b8 [Iv e.a]),(4102,.box bp (planC p bg)),(4001,.mp bg (encMap encF p.given)),(4002,.mp bo (encMap encF e.own)),(4003,.mp bs (encMap encF e.sh)),(2002,.own v (FL.length+1) 3 53),(15,.box b15 (encPF pf).cells),(16,.box b16 (encF (fileX e pf)).cells)]++(bif f 10 then [(20,.box q (bif f 11 then (encF ((aget p.given pf.path).getD zF)).cells else [.str [],Iv 0,Iv 0]))] else []))) (by decide +kernel) 0 ?_ ?_ ?_ ?_
  ·exact ⟨.refl _,.refl _,.refl _,.refl _,.refl _,.refl _,.refl _,.refl _,.refl _,.refl _,.refl _,.refl _,.refl _,.refl _,.refl _,.any _,.any _,.any _,.any _,.any _,.any _,.any _,.any _,.any _,.any _,.any _,.any _,trivial⟩
  ·exact SubHF.of (hs:=[(2,.box b2 [.box 4102 bp 0]),(4,.box b4 Z16),(6,.box b6 (layC p.start count (lyS p T) (lyC p) (pick0 (udfB p) p.m.udf) (pick0 (udfB p) p.start) (pick0 (udfB p) count) (pick0 (udfB p) (p.start+16+p.desc)) 0 0 (.sl .none 1 (intsD BL)) (.sl (.own 2002 v) 3 (FL++[encF (fileX e pf)])))),(7,.box y [.sl .none 1 (intsD T)]),(8,.box b8 [Iv e.a]),(4102,.box bp (planC p bg)),(4001,.mp bg (encMap encF p.given)),(4002,.mp bo (encMap encF e.own)),(4003,.mp bs (encMap encF e.sh)),(2002,.own v (FL.length+1) 3 53),(15,.box b15 (encPF pf).cells),(16,.box b16 (encF (fileX e pf)).cells)]) ⟨rfl,Y⟩
  ·(conv=>whnf);refine ⟨fun q f hI=>?_,?_⟩
   ·obtain ⟨f,rfl⟩:= hI.o f 11 0;apply Ti;apply Rl;(conv=>whnf);exact Ex q
   refine Qo ?_;refine Qo ?_;refine ⟨fun q f hI=>?_,?_⟩
   ·obtain ⟨f,rfl⟩:= hI.o f 11 3;apply Ti;apply Rl;(conv=>whnf);exact Ex q
   refine Qo ?_;refine ⟨fun q f hI=>?_,?_⟩
   ·obtain ⟨f,rfl⟩:= hI.o f 11 5;apply Ti;apply Rl;(conv=>whnf);exact Ex q
   refine ⟨fun q f hI=>?_,?_⟩
   ·obtain ⟨f,rfl⟩:= hI.o f 11 6;apply Tk;refine XOp.mpGet 4001 (kt:=9) (et:=53) (enc:=encF) (z:=zF) rfl rfl rfl rfl rfl (fun w=>rfl) (fun w C=>zF_rep w C) ?_;exact Ex q
   refine Qo ?_;refine Qo ?_;refine Qo ?_;refine ⟨fun q f hI=>?_,?_⟩
   ·obtain ⟨f,rfl⟩:= hI.o f 11 10;apply Ti;(conv=>whnf);intro nb;(conv=>whnf);exact Ex nb (SubHF.of (hs:=[(2,.box b2 [.box 4102 bp 0]),(4,.box b4 Z16),(6,.box b6 (layC p.start count (lyS p T) (lyC p) (pick0 (udfB p) p.m.udf) (pick0 (udfB p) p.start) (pick0 (udfB p) count) (pick0 (udfB p) (p.start+16+p.desc)) 0 0 (.sl .none 1 (intsD BL)) (.sl (.own 2002 v) 3 (FL++[encF (fileX e pf)])))),(7,.box y [.sl .none 1 (intsD T)]),(8,.box b8 [Iv e.a]),(4102,.box bp (planC p bg)),(4001,.mp bg (encMap encF p.given)),(4002,.mp bo (encMap encF e.own)),(4003,.mp bs (encMap encF e.sh)),(2002,.own v (FL.length+1) 3 53),(15,.box b15 (encPF pf).cells),(16,.box b16 (encF (fileX e pf)).cells),(20,.box nb [.str [],Iv 0,Iv 0])]) ⟨rfl,Y⟩)
   refine ⟨fun q f hI=>?_,?_⟩
   ·(conv=>whnf);apply Ti;apply Rl;(conv=>whnf);exact Ex q (SubHF.of (hs:=[(2,.box b2 [.box 4102 bp 0]),(4,.box b4 Z16),(6,.box b6 (layC p.start count (lyS p T) (lyC p) (pick0 (udfB p) p.m.udf) (pick0 (udfB p) p.start) (pick0 (udfB p) count) (pick0 (udfB p) (p.start+16+p.desc)) 0 0 (.sl .none 1 (intsD BL)) (.sl (.own 2002 v) 3 (FL++[encF (fileX e pf)])))),(7,.box y [.sl .none 1 (intsD T)]),(8,.box b8 [Iv e.a]),(4102,.box bp (planC p bg)),(4001,.mp bg (encMap encF p.given)),(4002,.mp bo (encMap encF e.own)),(4003,.mp bs (encMap encF e.sh)),(2002,.own v (FL.length+1) 3 53),(15,.box b15 (encPF pf).cells),(16,.box b16 (encF (fileX e pf)).cells),(20,.box q (encF ((aget p.given pf.path).getD zF)).cells)]) ⟨rfl,Y⟩)
   refine Qo ?_;exact trivial
  intro q f hf;(conv=>whnf);refine Tri.forgetG [(1,Iv count),(2,.box 2 b2 0),(4,.box 4 b4 0),(6,.box 6 b6 0),(7,.box 7 y 0),(8,.box 8 b8 0),(10,.bool (udfB p)),(11,.raw (.map (some bo))),(12,.raw (.map (some bs))),(13,Iv F),(122,.sl .none 2 (p.files.map encPF)),(123,Iv ((p.files.map encPF).length:Nat)),(124,Iv (i:Int)),(15,.box 15 b15 0),(16,.box 16 b16 0),(21,.bool (aget p.given pf.path).isSome)] (look [(2,.box b2 [.box 4102 bp 0]),(4,.box b4 Z16),(6,.box b6 (layC p.start count (lyS p T) (lyC p) (pick0 (udfB p) p.m.udf) (pick0 (udfB p) p.start) (pick0 (udfB p) count) (pick0 (udfB p) (p.start+16+p.desc)) 0 0 (.sl .none 1 (intsD BL)) (.sl (.own 2002 v) 3 (FL++[encF (fileX e pf)])))),(7,.box y [.sl .none 1 (intsD T)]),(8,.box b8 [Iv e.a]),(4102,.box bp (planC p bg)),(4001,.mp bg (encMap encF p.given)),(4002,.mp bo (encMap encF e.own)),(4003,.mp bs (encMap encF e.sh)),(2002,.own v (FL.length+1) 3 53),(15,.box b15 (encPF pf).cells),(16,.box b16 (encF (fileX e pf)).cells)]) (.same ⟨.refl _,.refl _,.refl _,.refl _,.refl _,.refl _,.refl _,.refl _,.refl _,.refl _,.refl _,.refl _,.refl _,.refl _,.refl _,?_,trivial⟩ (SubHF.of ⟨rfl,Y⟩)) ?_
  ·show DLe (bif f 12 then _ else _) _
   rw [hf 12 (by decide +kernel)]; exact .refl _
  apply Sr;refine Cd (aget p.given pf.path).isSome rfl (fun hc3=>?_) (fun hc3=>?_)
  ·apply Rg;apply Rl;apply Rg;refine Ir ?_;(conv=>whnf)
   exact ⟨(⟨i+1,hia⟩,v),[(2,2),(4,4),(6,6),(7,7),(8,8),(4102,4102),(4001,4001),(4002,4002),(4003,4003),(2002,2002)],by show p.files.length-(i+1)<p.files.length-i; omega,⟨.refl _,.refl _,.refl _,.refl _,.refl _,.refl _,.refl _,.refl _,.refl _,intDLe (by show (if (fileX e pf).start<F then (fileX e pf).start else F)=_; rw [hfn,firstX,if_pos hc3,Int.min_def]; split<;>split<;>omega),.refl _,.refl _,.refl _,trivial⟩,rfl,rfl,rfl,rfl,rfl,rfl,congrArg (fun z=>some (HObj.box b6 (layC p.start count (lyS p T) (lyC p) (pick0 (udfB p) p.m.udf) (pick0 (udfB p) p.start) (pick0 (udfB p) count) (pick0 (udfB p) (p.start+16+p.desc)) 0 0 (.sl .none 1 (intsD BL)) (.sl (.own 2002 v) 3 z)))) hfm.symm,rfl,rfl,rfl,rfl,rfl,rfl,rfl,rfl,rfl,rfl,rfl,rfl,rfl,congrArg (fun n=>some (HObj.own v n 3 53)) (by rw [hfm]; simp),trivial⟩
  apply Sk;apply Rg;refine Ir ?_;(conv=>whnf)
  exact ⟨(⟨i+1,hia⟩,v),[(2,2),(4,4),(6,6),(7,7),(8,8),(4102,4102),(4001,4001),(4002,4002),(4003,4003),(2002,2002)],by show p.files.length-(i+1)<p.files.length-i; omega,⟨.refl _,.refl _,.refl _,.refl _,.refl _,.refl _,.refl _,.refl _,.refl _,intDLe (by rw [hfn,firstX,if_neg (by rw [hc3]; decide)]),.refl _,.refl _,.refl _,trivial⟩,rfl,rfl,rfl,rfl,rfl,rfl,congrArg (fun z=>some (HObj.box b6 (layC p.start count (lyS p T) (lyC p) (pick0 (udfB p) p.m.udf) (pick0 (udfB p) p.start) (pick0 (udfB p) count) (pick0 (udfB p) (p.start+16+p.desc)) 0 0 (.sl .none 1 (intsD BL)) (.sl (.own 2002 v) 3 z)))) hfm.symm,rfl,rfl,rfl,rfl,rfl,rfl,rfl,rfl,rfl,rfl,rfl,rfl,rfl,congrArg (fun n=>some (HObj.own v n 3 53)) (by rw [hfm]; simp),trivial⟩
 have hin:i=p.files.length:=by simp at hc; omega
 subst hin;rw [List.take_length]
 have hfr:=first_range (p:=p) hs1 hs2 p.files f0 hf0.1
 have hFF:firstF p e BL=p.files.foldl (firstX p e) f0:=by rw [firstF,hF0]
 rw [← hFF] at hfr ⊢;refine Tri.boxLe 6 (cs':=(layC p.start count (lyS p T) (lyC p) (pick0 (udfB p) p.m.udf) (pick0 (udfB p) p.start) (pick0 (udfB p) count) (pick0 (udfB p) (p.start+16+p.desc)) 0 0 (.sl .none 1 (intsD BL)) (.sl .none 3 ((p.files.map (fileX e)).map encF)))) rfl ⟨.refl _,.refl _,.refl _,.refl _,.refl _,.refl _,.refl _,.refl _,.refl _,.refl _,.refl _,.refl _,.refl _,.refl _,.refl _,DLe.unown,trivial⟩ ?_;refine Tri.exit ?_;apply Sr;apply Rl;apply Rl;refine Ir ?_;(conv=>whnf);refine Tri.joinK (α:=Unit) (fun x=>[(1,Iv count),(2,.box 2 b2 0),(4,.box 4 b4 0),(6,.box 6 b6 0),(7,.box 7 y 0),(8,.box 8 b8 0),(22,Iv (endV p count))]) (fun x=>[(2,.box b2 [.box 4102 bp 0]),(4,.box b4 Z16),(6,.box b6 (layC p.start count (lyS p T) (lyC p) (pick0 (udfB p) p.m.udf) (pick0 (udfB p) p.start) (pick0 (udfB p) count) (pick0 (udfB p) (p.start+16+p.desc)) (pick0 (udfB p) (firstF p e BL)) (pick0 (udfB p) (endV p count-firstF p e BL)) (.sl .none 1 (intsD BL)) (.sl .none 3 ((p.files.map (fileX e)).map encF)))),(7,.box y [.sl .none 1 (intsD T)]),(8,.box b8 [Iv e.a]),(4102,.box bp (planC p bg)),(4001,.mp bg (encMap encF p.given))]) ?_ ?_
 ·apply Sr;refine Cd (udfB p) rfl (fun hc3=>?_) (fun hc3=>?_)
  ·apply Sr;refine Ir ?_;apply Rg;refine Ir ?_;apply Rl;(conv=>whnf);exact ⟨(),[(2,2),(4,4),(6,6),(7,7),(8,8),(4102,4102),(4001,4001)],⟨.refl _,.refl _,.refl _,.refl _,.refl _,.refl _,intDLe (by rw [endV,if_pos hc3]),trivial⟩,rfl,rfl,rfl,rfl,rfl,rfl,(by exact congr (congrArg (fun a b:Int=>some (HObj.box b6 (layC p.start count (lyS p T) (lyC p) (pick0 (udfB p) p.m.udf) (pick0 (udfB p) p.start) (pick0 (udfB p) count) (pick0 (udfB p) (p.start+16+p.desc)) a b (.sl .none 1 (intsD BL)) (.sl .none 3 ((p.files.map (fileX e)).map encF))))) (show firstF p e BL=pick0 (udfB p) (firstF p e BL) from (if_pos hc3).symm)) (show p.start+count-1-firstF p e BL=pick0 (udfB p) (endV p count-firstF p e BL) by rw [pick0,if_pos hc3,endV,if_pos hc3])),rfl,Y⟩
  apply Sk;(conv=>whnf)
  exact ⟨(),[(2,2),(4,4),(6,6),(7,7),(8,8),(4102,4102),(4001,4001)],⟨.refl _,.refl _,.refl _,.refl _,.refl _,.refl _,intDLe (by rw [endV,if_neg (by rw [hc3]; decide)]),trivial⟩,rfl,rfl,rfl,rfl,rfl,rfl,(by exact congr (congrArg (fun a b:Int=>some (HObj.box b6 (layC p.start count (lyS p T) (lyC p) (pick0 (udfB p) p.m.udf) (pick0 (udfB p) p.start) (pick0 (udfB p) count) (pick0 (udfB p) (p.start+16+p.desc)) a b (.sl .none 1 (intsD BL)) (.sl .none 3 ((p.files.map (fileX e)).map encF))))) (show (0:Int)=pick0 (udfB p) (firstF p e BL) from (if_neg (by rw [hc3]; decide)).symm)) (show (0:Int)=pick0 (udfB p) (endV p count-firstF p e BL) from (if_neg (by rw [hc3]; decide)).symm)),rfl,Y⟩
 rintro ⟨⟩
 have hres:encLay (layV p count)=.agg (layC p.start count (lyS p T) (lyC p) (pick0 (udfB p) p.m.udf) (pick0 (udfB p) p.start) (pick0 (udfB p) count) (pick0 (udfB p) (p.start+16+p.desc)) (pick0 (udfB p) (firstF p e BL)) (pick0 (udfB p) (endV p count-firstF p e BL)) (.sl .none 1 (intsD BL)) (.sl .none 3 ((p.files.map (fileX e)).map encF))):=by
  unfold encLay layV
  simp only [hTT,hE,hUU]
 by_cases hfit:e.a≤endV p count
 ·have hft:fitsV p count=!(T.any fun k=>decide (k<p.free)):=by unfold fitsV; simp only [hTT,hE,decide_eq_true hfit]; first|done|rfl
  rw [hres,hft];apply Sq
  refine Tri.bitsU ti_ok mixed (α:=Unit) (fun _ f=>[(1,Iv count),(2,.box 2 b2 0),(4,.box 4 b4 0),(6,.box 6 b6 0),(7,.box 7 y 0),(8,.box 8 b8 0),(22,Iv (endV p count)),(194,bif f 0 then .agg (layC p.start count (lyS p T) (lyC p) (pick0 (udfB p) p.m.udf) (pick0 (udfB p) p.start) (pick0 (udfB p) count) (pick0 (udfB p) (p.start+16+p.desc)) (pick0 (udfB p) (firstF p e BL)) (pick0 (udfB p) (endV p count-firstF p e BL)) (.sl .none 1 (intsD BL)) (.sl .none 3 ((p.files.map (fileX e)).map encF))) else .any),(195,bif f 1 then Iv e.a else .any),(196,bif f 2 then Iv (endV p count) else .any),(197,bif f 3 then .bool true else .any),(198,bif f 4 then .bool true else .any),(199,bif f 5 then .sl .none 1 (intsD T) else .any),(200,bif f 6 then .fn (.func 147) [] [.box 2 b2 0] else .any),(201,bif f 7 then .bool (T.any fun k=>decide (k<p.free)) else .any),(202,bif f 8 then .bool (!(T.any fun k=>decide (k<p.free))) else .any),(203,bif f 9 then .bool (!(T.any fun k=>decide (k<p.free))) else .any),(5,bif f 11 then .bool (!(T.any fun k=>decide (k<p.free))) else .any)])
   (fun _ f=>look [(2,.box b2 [.box 4102 bp 0]),(4,.box b4 (bif f 10 then (layC p.start count (lyS p T) (lyC p) (pick0 (udfB p) p.m.udf) (pick0 (udfB p) p.start) (pick0 (udfB p) count) (pick0 (udfB p) (p.start+16+p.desc)) (pick0 (udfB p) (firstF p e BL)) (pick0 (udfB p) (endV p count-firstF p e BL)) (.sl .none 1 (intsD BL)) (.sl .none 3 ((p.files.map (fileX e)).map encF))) else Z16)),(6,.box b6 (layC p.start count (lyS p T) (lyC p) (pick0 (udfB p) p.m.udf) (pick0 (udfB p) p.start) (pick0 (udfB p) count) (pick0 (udfB p) (p.start+16+p.desc)) (pick0 (udfB p) (firstF p e BL)) (pick0 (udfB p) (endV p count-firstF p e BL)) (.sl .none 1 (intsD BL)) (.sl .none 3 ((p.files.map (fileX e)).map encF)))),(7,.box y [.sl .none 1 (intsD T)]),(8,.box b8 [Iv e.a]),(4102,.box bp (planC p bg)),(4001,.mp bg (encMap encF p.given))]) (by decide +kernel) () ?_ ?_ ?_ ?_
  ·exact ⟨.refl _,.refl _,.refl _,.refl _,.refl _,.refl _,.refl _,.any _,.any _,.any _,.any _,.any _,.any _,.any _,.any _,.any _,.any _,.any _,trivial⟩
  ·exact SubHF.of (hs:=[(2,.box b2 [.box 4102 bp 0]),(4,.box b4 Z16),(6,.box b6 (layC p.start count (lyS p T) (lyC p) (pick0 (udfB p) p.m.udf) (pick0 (udfB p) p.start) (pick0 (udfB p) count) (pick0 (udfB p) (p.start+16+p.desc)) (pick0 (udfB p) (firstF p e BL)) (pick0 (udfB p) (endV p count-firstF p e BL)) (.sl .none 1 (intsD BL)) (.sl .none 3 ((p.files.map (fileX e)).map encF)))),(7,.box y [.sl .none 1 (intsD T)]),(8,.box b8 [Iv e.a]),(4102,.box bp (planC p bg)),(4001,.mp bg (encMap encF p.given))]) ⟨rfl,Y⟩
  ·(conv=>whnf);refine ⟨fun _ f hI=>?_,?_⟩
   ·obtain ⟨f,rfl⟩:= hI.o f 10 0;apply Il;apply Rl;(conv=>whnf);exact Ex ()
   refine ⟨fun _ f hI=>?_,?_⟩
   ·obtain ⟨f,rfl⟩:= hI.o f 10 7 (hI.n 7 4 (hI.n 4 3 (hI.n 3 1)));apply Il;apply Rl;(conv=>whnf);exact Ex ()
   refine ⟨fun _ f hI=>?_,?_⟩
   ·obtain ⟨f,rfl⟩:= hI.o f 10 7 (hI.n 7 4 (hI.n 4 3 (hI.n 3 2)));apply Il;(conv=>whnf);exact Ex ()
   refine ⟨fun _ f hI=>?_,?_⟩
   ·obtain ⟨f,rfl⟩:= hI.o f 10 7 (hI.n 7 4 (hI.n 4 3));apply Il;(conv=>whnf);exact ⟨(),⟨.refl _,.refl _,.refl _,.refl _,.refl _,.refl _,.refl _,.refl _,.refl _,.refl _,DLe.of_eq (congrArg D.bool (decide_eq_true hfit)),.refl _,.refl _,.refl _,.refl _,.refl _,.refl _,.refl _,trivial⟩,fun k o h=>h⟩
   refine ⟨fun _ f hI=>?_,?_⟩
   ·obtain ⟨f,rfl⟩:= hI.o f 10 7 (hI.n 7 4);apply Il;(conv=>whnf);exact Ex ()
   refine ⟨fun _ f hI=>?_,?_⟩
   ·obtain ⟨f,rfl⟩:= hI.o f 10 7 (hI.n 7 5);(conv=>whnf);refine ⟨_,_,rfl,rfl,.inl ⟨rfl,.inl ?_⟩⟩;apply Rl;(conv=>whnf);exact Ex ()
   refine ⟨fun _ f hI=>?_,?_⟩
   ·obtain ⟨f,rfl⟩:= hI.o f 10 7 (hI.n 7 6);(conv=>whnf);refine ⟨_,_,rfl,rfl,.inl ⟨rfl,.inl ?_⟩⟩;(conv=>whnf);exact Ex ()
   refine ⟨fun _ f hI=>?_,?_⟩
   ·obtain ⟨f,rfl⟩:= hI.o f 10 7;(conv=>whnf);refine ⟨_,_,rfl,rfl,.inl ⟨rfl,.inr ?_⟩⟩;refine XOp.call rfl [.sl .none 1 (intsD T),.fn (.func 147) [] [.box 4101 b2 0]] [(4101,2),(4102,4102)] (DCall.heapD2 rfl rfl (H146 T hTl 147 [.box 4101 b2 0] _ _ (fun k=>decide (k<p.free)) (fun k hk=>H147 p k bg b2 bp))) rfl ⟨.refl _,DLe.fn trivial ⟨DLe.box,trivial⟩,trivial⟩ ?_;rintro d H' ⟨rfl,rfl⟩;refine ⟨_,.refl _,?_⟩;exact Ex () (SubHF.of (hs:=[(2,.box b2 [.box 4102 bp 0]),(4,.box b4 Z16),(6,.box b6 (layC p.start count (lyS p T) (lyC p) (pick0 (udfB p) p.m.udf) (pick0 (udfB p) p.start) (pick0 (udfB p) count) (pick0 (udfB p) (p.start+16+p.desc)) (pick0 (udfB p) (firstF p e BL)) (pick0 (udfB p) (endV p count-firstF p e BL)) (.sl .none 1 (intsD BL)) (.sl .none 3 ((p.files.map (fileX e)).map encF)))),(7,.box y [.sl .none 1 (intsD T)]),(8,.box b8 [Iv e.a]),(4102,.box bp (planC p bg)),(4001,.mp bg (encMap encF p.given))]) ⟨rfl,Y⟩)
   refine ⟨fun _ f hI=>?_,?_⟩
   ·(conv=>whnf);refine ⟨_,_,rfl,rfl,.inl ⟨rfl,.inl ?_⟩⟩;(conv=>whnf);exact Ex ()
   refine ⟨fun _ f hI=>?_,?_⟩
   ·(conv=>whnf);apply Il;(conv=>whnf);exact Ex ()
   refine ⟨fun _ f hI=>?_,?_⟩
   ·(conv=>whnf);apply Il;apply Rl;(conv=>whnf);exact Ex () (SubHF.of (hs:=[(2,.box b2 [.box 4102 bp 0]),(4,.box b4 (layC p.start count (lyS p T) (lyC p) (pick0 (udfB p) p.m.udf) (pick0 (udfB p) p.start) (pick0 (udfB p) count) (pick0 (udfB p) (p.start+16+p.desc)) (pick0 (udfB p) (firstF p e BL)) (pick0 (udfB p) (endV p count-firstF p e BL)) (.sl .none 1 (intsD BL)) (.sl .none 3 ((p.files.map (fileX e)).map encF)))),(6,.box b6 (layC p.start count (lyS p T) (lyC p) (pick0 (udfB p) p.m.udf) (pick0 (udfB p) p.start) (pick0 (udfB p) count) (pick0 (udfB p) (p.start+16+p.desc)) (pick0 (udfB p) (firstF p e BL)) (pick0 (udfB p) (endV p count-firstF p e BL)) (.sl .none 1 (intsD BL)) (.sl .none 3 ((p.files.map (fileX e)).map encF)))),(7,.box y [.sl .none 1 (intsD T)]),(8,.box b8 [Iv e.a]),(4102,.box bp (planC p bg)),(4001,.mp bg (encMap encF p.given))]) ⟨rfl,Y⟩)
   refine ⟨fun _ f hI=>?_,?_⟩
   ·(conv=>whnf);apply Il;(conv=>whnf);exact Ex ()
   exact trivial
  intro _ f hfll;(conv=>whnf);refine Tri.forgetG [(4,.box 4 b4 0),(5,.bool (!(T.any fun k=>decide (k<p.free))))] (look [(4102,.box bp (planC p bg)),(4001,.mp bg (encMap encF p.given)),(4,.box b4 (layC p.start count (lyS p T) (lyC p) (pick0 (udfB p) p.m.udf) (pick0 (udfB p) p.start) (pick0 (udfB p) count) (pick0 (udfB p) (p.start+16+p.desc)) (pick0 (udfB p) (firstF p e BL)) (pick0 (udfB p) (endV p count-firstF p e BL)) (.sl .none 1 (intsD BL)) (.sl .none 3 ((p.files.map (fileX e)).map encF))))]) (.same ⟨.refl _,?_,trivial⟩ (SubHF.of ⟨rfl,rfl,?_,trivial⟩)) ?_
  ·show DLe (bif f 11 then _ else _) _
   rw [hfll 11 (by decide +kernel)]; exact .refl _
  ·show some (HObj.box b4 (bif f 10 then _ else _))=_
   rw [hfll 10 (by decide +kernel)]; rfl
  refine Tri.retK [(4,.box 4 b4 0),(5,.bool (!(T.any fun k=>decide (k<p.free))))] [(4102,.box bp (planC p bg)),(4001,.mp bg (encMap encF p.given)),(4,.box b4 (layC p.start count (lyS p T) (lyC p) (pick0 (udfB p) p.m.udf) (pick0 (udfB p) p.start) (pick0 (udfB p) count) (pick0 (udfB p) (p.start+16+p.desc)) (pick0 (udfB p) (firstF p e BL)) (pick0 (udfB p) (endV p count-firstF p e BL)) (.sl .none 1 (intsD BL)) (.sl .none 3 ((p.files.map (fileX e)).map encF))))] [(4102,4102),(4001,4001),(4,4)] ⟨Z,rfl,Y⟩ ?_;(conv=>whnf);refine ⟨.tup [.agg (layC p.start count (lyS p T) (lyC p) (pick0 (udfB p) p.m.udf) (pick0 (udfB p) p.start) (pick0 (udfB p) count) (pick0 (udfB p) (p.start+16+p.desc)) (pick0 (udfB p) (firstF p e BL)) (pick0 (udfB p) (endV p count-firstF p e BL)) (.sl .none 1 (intsD BL)) (.sl .none 3 ((p.files.map (fileX e)).map encF))),.bool (!(T.any fun k=>decide (k<p.free)))],?_,rfl,b4,_,rfl⟩;apply Rl;(conv=>whnf);exact Z
 have hft:fitsV p count=false:=by unfold fitsV; simp only [hE,decide_eq_false hfit]; first|done|rfl
 rw [hres,hft];apply Sq
 refine Tri.bitsU ti_ok mixed (α:=Unit) (fun _ f=>[(1,Iv count),(2,.box 2 b2 0),(4,.box 4 b4 0),(6,.box 6 b6 0),(7,.box 7 y 0),(8,.box 8 b8 0),(22,Iv (endV p count)),(194,bif f 0 then .agg (layC p.start count (lyS p T) (lyC p) (pick0 (udfB p) p.m.udf) (pick0 (udfB p) p.start) (pick0 (udfB p) count) (pick0 (udfB p) (p.start+16+p.desc)) (pick0 (udfB p) (firstF p e BL)) (pick0 (udfB p) (endV p count-firstF p e BL)) (.sl .none 1 (intsD BL)) (.sl .none 3 ((p.files.map (fileX e)).map encF))) else .any),(195,bif f 1 then Iv e.a else .any),(196,bif f 2 then Iv (endV p count) else .any),(197,bif f 3 then .bool false else .any),(198,bif f 4 then .bool false else .any),(199,bif f 5 then .any else .any),(200,bif f 6 then .any else .any),(201,bif f 7 then .any else .any),(202,bif f 8 then .cnd false (.bool false) else .any),(203,bif f 9 then .bool false else .any),(5,bif f 11 then .bool false else .any)])
  (fun _ f=>look [(2,.box b2 [.box 4102 bp 0]),(4,.box b4 (bif f 10 then (layC p.start count (lyS p T) (lyC p) (pick0 (udfB p) p.m.udf) (pick0 (udfB p) p.start) (pick0 (udfB p) count) (pick0 (udfB p) (p.start+16+p.desc)) (pick0 (udfB p) (firstF p e BL)) (pick0 (udfB p) (endV p count-firstF p e BL)) (.sl .none 1 (intsD BL)) (.sl .none 3 ((p.files.map (fileX e)).map encF))) else Z16)),(6,.box b6 (layC p.start count (lyS p T) (lyC p) (pick0 (udfB p) p.m.udf) (pick0 (udfB p) p.start) (pick0 (udfB p) count) (pick0 (udfB p) (p.start+16+p.desc)) (pick0 (udfB p) (firstF p e BL)) (pick0 (udfB p) (endV p count-firstF p e BL)) (.sl .none 1 (intsD BL)) (.sl .none 3 ((p.files.map (fileX e)).map encF)))),(7,.box y [.sl .none 1 (intsD T)]),(8,.box b8 [Iv e.a]),(4102,.box bp (planC p bg)),(4001,.mp bg (encMap encF p.given))]) (by decide +kernel) () ?_ ?_ ?_ ?_
 ·exact ⟨.refl _,.refl _,.refl _,.refl _,.refl _,.refl _,.refl _,.any _,.any _,.any _,.any _,.any _,.any _,.any _,.any _,.any _,.any _,.any _,trivial⟩
 ·exact SubHF.of (hs:=[(2,.box b2 [.box 4102 bp 0]),(4,.box b4 Z16),(6,.box b6 (layC p.start count (lyS p T) (lyC p) (pick0 (udfB p) p.m.udf) (pick0 (udfB p) p.start) (pick0 (udfB p) count) (pick0 (udfB p) (p.start+16+p.desc)) (pick0 (udfB p) (firstF p e BL)) (pick0 (udfB p) (endV p count-firstF p e BL)) (.sl .none 1 (intsD BL)) (.sl .none 3 ((p.files.map (fileX e)).map encF)))),(7,.box y [.sl .none 1 (intsD T)]),(8,.box b8 [Iv e.a]),(4102,.box bp (planC p bg)),(4001,.mp bg (encMap encF p.given))]) ⟨rfl,Y⟩
 ·(conv=>whnf);refine ⟨fun _ f hI=>?_,?_⟩
  ·obtain ⟨f,rfl⟩:= hI.o f 10 0;apply Il;apply Rl;(conv=>whnf);exact Ex ()
  refine ⟨fun _ f hI=>?_,?_⟩
  ·obtain ⟨f,rfl⟩:= hI.o f 10 7 (hI.n 7 4 (hI.n 4 3 (hI.n 3 1)));apply Il;apply Rl;(conv=>whnf);exact Ex ()
  refine ⟨fun _ f hI=>?_,?_⟩
  ·obtain ⟨f,rfl⟩:= hI.o f 10 7 (hI.n 7 4 (hI.n 4 3 (hI.n 3 2)));apply Il;(conv=>whnf);exact Ex ()
  refine ⟨fun _ f hI=>?_,?_⟩
  ·obtain ⟨f,rfl⟩:= hI.o f 10 7 (hI.n 7 4 (hI.n 4 3));apply Il;(conv=>whnf);exact ⟨(),⟨.refl _,.refl _,.refl _,.refl _,.refl _,.refl _,.refl _,.refl _,.refl _,.refl _,DLe.of_eq (congrArg D.bool (decide_eq_false hfit)),.refl _,.refl _,.refl _,.refl _,.refl _,.refl _,.refl _,trivial⟩,fun k o h=>h⟩
  refine ⟨fun _ f hI=>?_,?_⟩
  ·obtain ⟨f,rfl⟩:= hI.o f 10 7 (hI.n 7 4);apply Il;(conv=>whnf);exact Ex ()
  refine ⟨fun _ f hI=>?_,?_⟩
  ·obtain ⟨f,rfl⟩:= hI.o f 10 7 (hI.n 7 5);(conv=>whnf);refine ⟨_,_,rfl,rfl,.inr ⟨rfl,?_⟩⟩;exact ⟨(),⟨.refl _,.refl _,.refl _,.refl _,.refl _,.refl _,.refl _,.refl _,.refl _,.refl _,.refl _,.refl _,.any _,.refl _,.refl _,.refl _,.refl _,.refl _,trivial⟩,fun k o h=>h⟩
  refine ⟨fun _ f hI=>?_,?_⟩
  ·obtain ⟨f,rfl⟩:= hI.o f 10 7 (hI.n 7 6);(conv=>whnf);refine ⟨_,_,rfl,rfl,.inr ⟨rfl,?_⟩⟩;exact ⟨(),⟨.refl _,.refl _,.refl _,.refl _,.refl _,.refl _,.refl _,.refl _,.refl _,.refl _,.refl _,.refl _,.refl _,.any _,.refl _,.refl _,.refl _,.refl _,trivial⟩,fun k o h=>h⟩
  refine ⟨fun _ f hI=>?_,?_⟩
  ·obtain ⟨f,rfl⟩:= hI.o f 10 7;(conv=>whnf);refine ⟨_,_,rfl,rfl,.inr ⟨rfl,?_⟩⟩;exact ⟨(),⟨.refl _,.refl _,.refl _,.refl _,.refl _,.refl _,.refl _,.refl _,.refl _,.refl _,.refl _,.refl _,.refl _,.refl _,.any _,.refl _,.refl _,.refl _,trivial⟩,fun k o h=>h⟩
  refine ⟨fun _ f hI=>?_,?_⟩
  ·(conv=>whnf);refine ⟨_,_,rfl,rfl,.inr ⟨rfl,?_⟩⟩;exact ⟨(),⟨.refl _,.refl _,.refl _,.refl _,.refl _,.refl _,.refl _,.refl _,.refl _,.refl _,.refl _,.refl _,.refl _,.refl _,.refl _,DLe.skipped,.refl _,.refl _,trivial⟩,fun k o h=>h⟩
  refine ⟨fun _ f hI=>?_,?_⟩
  ·(conv=>whnf);apply Il;(conv=>whnf);refine ⟨(fun _ h=>by cases h),?_⟩;(conv=>whnf);exact Ex ()
  refine ⟨fun _ f hI=>?_,?_⟩
  ·(conv=>whnf);apply Il;apply Rl;(conv=>whnf);exact Ex () (SubHF.of (hs:=[(2,.box b2 [.box 4102 bp 0]),(4,.box b4 (layC p.start count (lyS p T) (lyC p) (pick0 (udfB p) p.m.udf) (pick0 (udfB p) p.start) (pick0 (udfB p) count) (pick0 (udfB p) (p.start+16+p.desc)) (pick0 (udfB p) (firstF p e BL)) (pick0 (udfB p) (endV p count-firstF p e BL)) (.sl .none 1 (intsD BL)) (.sl .none 3 ((p.files.map (fileX e)).map encF)))),(6,.box b6 (layC p.start count (lyS p T) (lyC p) (pick0 (udfB p) p.m.udf) (pick0 (udfB p) p.start) (pick0 (udfB p) count) (pick0 (udfB p) (p.start+16+p.desc)) (pick0 (udfB p) (firstF p e BL)) (pick0 (udfB p) (endV p count-firstF p e BL)) (.sl .none 1 (intsD BL)) (.sl .none 3 ((p.files.map (fileX e)).map encF)))),(7,.box y [.sl .none 1 (intsD T)]),(8,.box b8 [Iv e.a]),(4102,.box bp (planC p bg)),(4001,.mp bg (encMap encF p.given))]) ⟨rfl,Y⟩)
  refine ⟨fun _ f hI=>?_,?_⟩
  ·(conv=>whnf);apply Il;(conv=>whnf);exact Ex ()
  exact trivial
 intro _ f hfll;(conv=>whnf);refine Tri.forgetG [(4,.box 4 b4 0),(5,.bool false)] (look [(4102,.box bp (planC p bg)),(4001,.mp bg (encMap encF p.given)),(4,.box b4 (layC p.start count (lyS p T) (lyC p) (pick0 (udfB p) p.m.udf) (pick0 (udfB p) p.start) (pick0 (udfB p) count) (pick0 (udfB p) (p.start+16+p.desc)) (pick0 (udfB p) (firstF p e BL)) (pick0 (udfB p) (endV p count-firstF p e BL)) (.sl .none 1 (intsD BL)) (.sl .none 3 ((p.files.map (fileX e)).map encF))))]) (.same ⟨.refl _,?_,trivial⟩ (SubHF.of ⟨rfl,rfl,?_,trivial⟩)) ?_
 ·show DLe (bif f 11 then _ else _) _
  rw [hfll 11 (by decide +kernel)]; exact .refl _
 ·show some (HObj.box b4 (bif f 10 then _ else _))=_
  rw [hfll 10 (by decide +kernel)]; rfl
 refine Tri.retK [(4,.box 4 b4 0),(5,.bool false)] [(4102,.box bp (planC p bg)),(4001,.mp bg (encMap encF p.given)),(4,.box b4 (layC p.start count (lyS p T) (lyC p) (pick0 (udfB p) p.m.udf) (pick0 (udfB p) p.start) (pick0 (udfB p) count) (pick0 (udfB p) (p.start+16+p.desc)) (pick0 (udfB p) (firstF p e BL)) (pick0 (udfB p) (endV p count-firstF p e BL)) (.sl .none 1 (intsD BL)) (.sl .none 3 ((p.files.map (fileX e)).map encF))))] [(4102,4102),(4001,4001),(4,4)] ⟨Z,rfl,Y⟩ ?_;(conv=>whnf);refine ⟨.tup [.agg (layC p.start count (lyS p T) (lyC p) (pick0 (udfB p) p.m.udf) (pick0 (udfB p) p.start) (pick0 (udfB p) count) (pick0 (udfB p) (p.start+16+p.desc)) (pick0 (udfB p) (firstF p e BL)) (pick0 (udfB p) (endV p count-firstF p e BL)) (.sl .none 1 (intsD BL)) (.sl .none 3 ((p.files.map (fileX e)).map encF))),.bool false],?_,rfl,b4,_,rfl⟩;apply Rl;(conv=>whnf);exact Z
def zL:LV:=⟨0,0,0,0,0,false,0,0,0,0,0,[],0,0,0,[]⟩
def fitC (p:PV) (n:Nat):Option Nat:=(List.range n).find? fun i=>fitsV p ((i:Int)+1)
def fitV (p:PV) (cap:Int):LV×Int:=match fitC p (cap-p.start).toNat with
 | some i=>(layV p ((i:Int)+1),0)
 | none=>(zL,12)
theorem fitC_some {p:PV} {n i:Nat} (hi:i<n) (h:fitsV p ((i:Int)+1)=true) (hl:∀ j,j<i→fitsV p ((j:Int)+1)=false):fitC p n=some i:=by
 unfold fitC
 rw [List.find?_range_eq_some]
 exact ⟨h,List.mem_range.2 hi,fun j hj=>by rw [hl j hj]; rfl⟩
theorem fitC_none {p:PV} {n:Nat} (hl:∀ j,j<n→fitsV p ((j:Int)+1)=false):fitC p n=none:=by
 unfold fitC
 rw [List.find?_eq_none];intro x hx
 rw [hl x (List.mem_range.1 hx)]; decide
theorem H62 (p:PV) (hp:Plan0 p) (cap:Int) (hc0:0≤cap) (hc1:cap≤4096) (bp bg:Nat):DCall Tryz.prog W0 62 [.box 4102 bp 0,Iv cap] (look [(4102,.box bp (planC p bg)),(4001,.mp bg (encMap encF p.given))]) fun d H'=>d=.tup [encLay (fitV p cap).1,Iv (fitV p cap).2]∧∃ b4 cs,H'=look [(4102,.box bp (planC p bg)),(4001,.mp bg (encMap encF p.given)),(4,.box b4 cs)]:=by
 refine DCall.intro ti_ok Tryz.func62 rfl (by decide +kernel) Tryz.ntmps62 rfl fun Γ=>?_
 have hp0:=hp
 obtain ⟨hp1,hp2,_⟩:=hp0;apply Sr;(conv=>whnf);intro b4;apply Sq;apply Sr;apply Bk
 refine Tri.loopK (α:={ i:Nat // i≤(cap-p.start).toNat∧∀ j,j<i→fitsV p ((j:Int)+1)=false }) (fun x=>[(0,.box 4102 bp 0),(1,Iv cap),(4,.box 4 b4 0),(6,Iv ((x.1:Int)+1))]) (fun x=>[(4102,.box bp (planC p bg)),(4001,.mp bg (encMap encF p.given)),(4,.box b4 Z16)]) (fun x=>(cap-p.start).toNat-x.1) ⟨0,by omega,fun j h=>by omega⟩ [(4102,4102),(4001,4001),(4,4)]
  ⟨Z,rfl,Y⟩ ?_
 rintro ⟨i,hi,hl⟩;dsimp only at hi hl ⊢;apply Sq;apply Sr;apply Rl;refine Ir ?_;refine Cd (decide ((i:Int)+1≤cap-p.start)) rfl (fun hc=>?_) (fun hc=>?_)
 ·apply Sk
  have hic:(i:Int)+1≤cap-p.start:=of_decide_eq_true hc
  apply Sq;apply Bk;apply Sq;refine Tri.regionX ti_ok ?_;(conv=>whnf);refine .inr (XOp.call rfl [.box 4102 bp 0,Iv ((i:Int)+1)] [(4102,4102),(4001,4001)] (DCall.heapD2 rfl rfl (H95 p hp ((i:Int)+1) (by omega) (by omega) bp bg)) rfl Z ?_);rintro d H' ⟨rfl,b5,cs5,rfl⟩;refine ⟨_,.refl _,?_⟩;(conv=>whnf);intro b7;apply Il;apply Rl;apply Sr;refine Cd (fitsV p ((i:Int)+1)) rfl (fun hc2=>?_) (fun hc2=>?_)
  ·apply Sq
   have hfc:=fitC_some (p:=p) (n:=(cap-p.start).toNat) (by omega) hc2 hl
   apply Rg;apply Rl;apply Rl;(conv=>whnf)
   have hfv:fitV p cap=(layV p ((i:Int)+1),0):=by rw [fitV,hfc]
   rw [hfv];refine Tri.retK [(4,.box 4 b4 0),(5,Iv 0)] [(4102,.box bp (planC p bg)),(4001,.mp bg (encMap encF p.given)),(4,.box b4 (encLay (layV p ((i:Int)+1))).cells)] [(4102,4102),(4001,4001),(4,4)] ⟨Z,rfl,Y⟩ ?_;(conv=>whnf);refine ⟨.tup [encLay (layV p ((i:Int)+1)),Iv 0],?_,rfl,b4,_,rfl⟩;apply Rl;(conv=>whnf);exact Z
  apply Sk;apply Rg;refine Ir ?_;(conv=>whnf)
  exact ⟨⟨i+1,by omega,fun j hj=>by
   by_cases hji:j=i
   ·subst hji; exact hc2
   exact hl j (by omega)⟩,[(4102,4102),(4001,4001),(4,4)],by show (cap-p.start).toNat-(i+1)<(cap-p.start).toNat-i; omega,⟨.refl _,.refl _,.refl _,intDLe (by show _=(((i+1:Nat)):Int)+1; omega),trivial⟩,rfl,Y⟩
 have hic:¬ (i:Int)+1≤cap-p.start:=of_decide_eq_false hc
 have hfc:=fitC_none (p:=p) (n:=(cap-p.start).toNat) (fun j hj=>hl j (by omega))
 refine Tri.exit ?_;apply Sr;apply Rl;(conv=>whnf)
 have hfv:fitV p cap=(zL,12):=by rw [fitV,hfc]
 rw [hfv];refine Tri.retK [(4,.box 4 b4 0),(5,Iv 12)] [(4102,.box bp (planC p bg)),(4001,.mp bg (encMap encF p.given)),(4,.box b4 Z16)] [(4102,4102),(4001,4001),(4,4)] ⟨Z,rfl,Y⟩ ?_;(conv=>whnf);refine ⟨.tup [encLay zL,Iv 12],?_,rfl,b4,_,rfl⟩;apply Rl;(conv=>whnf);exact ⟨DLe.agg (a:=Z16) (a':=(encLay zL).cells) ⟨.refl _,.refl _,.refl _,.refl _,.refl _,.refl _,.refl _,.refl _,.refl _,.refl _,.refl _,DLe.nil,.refl _,.refl _,.refl _,DLe.nil,trivial⟩,.refl _,trivial⟩
def isPlac (p:PV) (f:PF):Bool:=bif !(aget p.given f.path).isSome then f.data !=[] else false
def placL (p:PV) (l:List PF):List (List UInt8):=(l.filter (isPlac p)).map (·.path)
theorem placL_next (p:PV) {l:List PF} {i:Nat} (h:i<l.length):placL p (l.take (i+1))=placL p (l.take i)++(if isPlac p l[i]=true then [l[i].path] else []):=by
 rw [placL,List.take_succ_eq_append_getElem h,List.filter_append,List.map_append,← placL,List.filter_cons]
 split<;>rfl
theorem placL_len (p:PV) (l:List PF):(placL p l).length≤l.length:=by
 rw [placL,List.length_map]; exact List.length_filter_le _ _
theorem H60 (p:PV) (hfl:p.files.length<1000000) (bp bg:Nat):DCall Tryz.prog W0 60 [.box 4102 bp 0] (look [(4102,.box bp (planC p bg)),(4001,.mp bg (encMap encF p.given))]) fun d H'=>d=.sl .none 1 (strs (placL p p.files))∧H'=look [(4102,.box bp (planC p bg)),(4001,.mp bg (encMap encF p.given))]:=by
 refine DCall.intro ti_ok Tryz.func60 rfl (by decide +kernel) Tryz.ntmps60 rfl fun Γ=>?_
 apply Sr;apply Sr;apply Sq;apply Sr;apply Rl;(conv=>whnf);refine Tri.own 3 1000 1 9 rfl (fun w=>?_);apply Bk
 refine Tri.loopK (α:={ i:Nat // i≤p.files.length }×Value) (fun x=>[(0,.box 4102 bp 0),(3,.sl (.own 1000 x.2) 1 (strs (placL p (p.files.take x.1.1)))),(11,.sl .none 2 (p.files.map encPF)),(12,Iv ((p.files.map encPF).length:Nat)),(13,Iv x.1.1)]) (fun x=>[(4102,.box bp (planC p bg)),(4001,.mp bg (encMap encF p.given)),(1000,.own x.2 (strs (placL p (p.files.take x.1.1))).length 1 9)]) (fun x=>p.files.length-x.1.1) (⟨0,by omega⟩,w) [(4102,4102),(4001,4001),(1000,1000)]
  ⟨Z,rfl,Y⟩ ?_
 rintro ⟨⟨i,hi⟩,w⟩;dsimp only at hi ⊢;apply Sr;apply Sq;refine Cd (decide ((i:Int)<((p.files.map encPF).length:Nat))) rfl (fun hc=>?_) (fun hc=>?_)
 ·apply Sk
  have hia:i<p.files.length:=by simpa using hc
  have hget:=pfs_get hia
  have hnx:=placL_next p hia
  have hln:=placL_len p (p.files.take i)
  rw [List.length_take] at hln;generalize placL p (p.files.take i)=L at *;generalize p.files[i]=pf at *
  have hsl:(strs L).length=L.length:=by simp [strs]
  apply Sq;apply Bk;apply Sr;(conv=>whnf)
  refine ⟨fun _=>by rw [List.length_map]; omega,?_⟩
  (conv=>whnf);refine ⟨encPF pf,fun _=>hget,?_⟩;(conv=>whnf);intro b5;apply Rl;apply Sq;refine Tri.forgetK [(0,.box 4102 bp 0),(3,.sl (.own 1000 w) 1 (strs L)),(11,.sl .none 2 (p.files.map encPF)),(12,Iv ((p.files.map encPF).length:Nat)),(13,Iv (i:Int)),(5,.box 5 b5 0)] [(4102,.box bp (planC p bg)),(4001,.mp bg (encMap encF p.given)),(1000,.own w (strs L).length 1 9),(5,.box b5 (encPF pf).cells)] [(4102,4102),(4001,4001),(1000,1000),(5,5)] ⟨Z,rfl,Y⟩ ?_
  refine Tri.bitsG ti_ok mixed (α:=Nat) (fun q f=>[(0,.box 4102 bp 0),(3,.sl (.own 1000 w) 1 (strs L)),(11,.sl .none 2 (p.files.map encPF)),(12,Iv ((p.files.map encPF).length:Nat)),(13,Iv (i:Int)),(5,.box 5 b5 0),(18,bif f 0 then .box 4102 bp 0 else .any),(19,bif f 1 then .box 4102 bp 0 else .any),(20,bif f 2 then .box 4102 bp 15 else .any),(21,bif f 3 then .raw (.map (some bg)) else .any),(22,bif f 4 then .box 5 b5 0 else .any),(23,bif f 5 then .str pf.path else .any),(24,bif f 6 then .tup [encF ((aget p.given pf.path).getD zF),.bool (aget p.given pf.path).isSome] else .any),(17,bif f 7 then .tup [encF ((aget p.given pf.path).getD zF),.bool (aget p.given pf.path).isSome] else .any),(25,bif f 8 then encF ((aget p.given pf.path).getD zF) else .any),(26,bif f 9 then .bool (aget p.given pf.path).isSome else .any),(6,bif f 10 then .box 6 q 0 else .any),(7,bif f 12 then .bool (aget p.given pf.path).isSome else .any)])
   (fun q f=>look ([(4102,.box bp (planC p bg)),(4001,.mp bg (encMap encF p.given)),(1000,.own w (strs L).length 1 9),(5,.box b5 (encPF pf).cells)]++(bif f 10 then [(6,.box q (bif f 11 then (encF ((aget p.given pf.path).getD zF)).cells else [.str [],Iv 0,Iv 0]))] else []))) (by decide +kernel) 0 ?_ ?_ ?_ ?_
  ·exact ⟨.refl _,.refl _,.refl _,.refl _,.refl _,.refl _,.any _,.any _,.any _,.any _,.any _,.any _,.any _,.any _,.any _,.any _,.any _,.any _,trivial⟩
  ·exact SubHF.of (hs:=[(4102,.box bp (planC p bg)),(4001,.mp bg (encMap encF p.given)),(1000,.own w (strs L).length 1 9),(5,.box b5 (encPF pf).cells)]) ⟨rfl,Y⟩
  ·(conv=>whnf);refine Qo ?_;refine Qo ?_;refine Qo ?_;refine ⟨fun q f hI=>?_,?_⟩
   ·obtain ⟨f,rfl⟩:= hI.o f 11 3;apply Ti;apply Rl;(conv=>whnf);exact Ex q
   refine Qo ?_;refine ⟨fun q f hI=>?_,?_⟩
   ·obtain ⟨f,rfl⟩:= hI.o f 11 5;apply Ti;apply Rl;(conv=>whnf);exact Ex q
   refine ⟨fun q f hI=>?_,?_⟩
   ·obtain ⟨f,rfl⟩:= hI.o f 11 6;apply Tk;refine XOp.mpGet 4001 (kt:=9) (et:=53) (enc:=encF) (z:=zF) rfl rfl rfl rfl rfl (fun w=>rfl) (fun w C=>zF_rep w C) ?_;exact Ex q
   refine Qo ?_;refine Qo ?_;refine Qo ?_;refine ⟨fun q f hI=>?_,?_⟩
   ·obtain ⟨f,rfl⟩:= hI.o f 11 10;apply Ti;(conv=>whnf);intro nb;(conv=>whnf);exact Ex nb (SubHF.of (hs:=[(4102,.box bp (planC p bg)),(4001,.mp bg (encMap encF p.given)),(1000,.own w (strs L).length 1 9),(5,.box b5 (encPF pf).cells),(6,.box nb [.str [],Iv 0,Iv 0])]) ⟨rfl,Y⟩)
   refine ⟨fun q f hI=>?_,?_⟩
   ·(conv=>whnf);apply Ti;apply Rl;(conv=>whnf);exact Ex q (SubHF.of (hs:=[(4102,.box bp (planC p bg)),(4001,.mp bg (encMap encF p.given)),(1000,.own w (strs L).length 1 9),(5,.box b5 (encPF pf).cells),(6,.box q (encF ((aget p.given pf.path).getD zF)).cells)]) ⟨rfl,Y⟩)
   refine Qo ?_;exact trivial
  intro q f hf;(conv=>whnf);refine Tri.forgetG [(0,.box 4102 bp 0),(3,.sl (.own 1000 w) 1 (strs L)),(11,.sl .none 2 (p.files.map encPF)),(12,Iv ((p.files.map encPF).length:Nat)),(13,Iv (i:Int)),(5,.box 5 b5 0),(7,.bool (aget p.given pf.path).isSome)] (look [(4102,.box bp (planC p bg)),(4001,.mp bg (encMap encF p.given)),(1000,.own w (strs L).length 1 9),(5,.box b5 (encPF pf).cells)]) (.same ⟨.refl _,.refl _,.refl _,.refl _,.refl _,.refl _,?_,trivial⟩ (SubHF.of ⟨rfl,Y⟩)) ?_
  ·show DLe (bif f 12 then _ else _) _
   rw [hf 12 (by decide +kernel)]; exact .refl _
  apply Sr;apply Hh;apply Rl;apply Hh;refine Pk ?_;refine Cd (isPlac p pf) rfl (fun hc2=>?_) (fun hc2=>?_)
  ·apply Rg;apply Rl;(conv=>whnf);refine ⟨trivial,?_⟩;(conv=>whnf);refine ⟨rfl,rfl,?_⟩;(conv=>whnf)
   refine ⟨by show (_+1)*16≤_; omega,by show _+1≤_; omega,(fun h=>by cases h),fun w2=>?_⟩
   apply Rg;refine Ir ?_;(conv=>whnf)
   have he:strs L++[.str pf.path]=strs (placL p (p.files.take (i+1))):=by rw [hnx,if_pos hc2]; simp [strs]
   exact ⟨(⟨i+1,hia⟩,w2),[(4102,4102),(4001,4001),(1000,38)],by show p.files.length-(i+1)<p.files.length-i; omega,⟨.refl _,DLe.ownEq he,.refl _,.refl _,.refl _,trivial⟩,rfl,rfl,rfl,rfl,rfl,rfl,ownH (by rw [← he]; simp),trivial⟩
  apply Sk;apply Rg;refine Ir ?_;(conv=>whnf)
  have he:L=placL p (p.files.take (i+1)):=by rw [hnx,if_neg (by rw [hc2]; decide),List.append_nil]
  exact ⟨(⟨i+1,hia⟩,w),[(4102,4102),(4001,4001),(1000,1000)],by show p.files.length-(i+1)<p.files.length-i; omega,⟨.refl _,DLe.ownEq (by rw [← he]),.refl _,.refl _,.refl _,trivial⟩,rfl,rfl,rfl,rfl,rfl,rfl,ownH (by rw [← he]),trivial⟩
 have hin:i=p.files.length:=by simp at hc; omega
 subst hin;rw [List.take_length];refine Tri.exit ?_;apply Sr;(conv=>whnf);refine Tri.retK [(2,.sl .none 1 (strs (placL p p.files)))] [(4102,.box bp (planC p bg)),(4001,.mp bg (encMap encF p.given))] [(4102,4102),(4001,4001)] ⟨⟨DLe.unown,trivial⟩,rfl,Y⟩ ?_;(conv=>whnf);exact ⟨_,.refl _,rfl,rfl⟩
def meas1 (p:PV):PV:={ p with free:=p.start+66+2 }
def meas2 (p:PV) (s:Int×Int):PV:=if isoB p=true then { p with free:=p.start+66+2,iso:=s.1,desc:=descV (optM p.m) } else meas1 p
def measV (p:PV) (s u:Int×Int):PV×Int :=
 if isoB p=true∧s.2≠0 then (meas1 p,s.2)
 else if udfB p=true then ({ meas2 p s with udf:=u.1 },u.2) else ({ meas2 p s with free:=p.start+16+(meas2 p s).desc },0)
theorem meas2_desc (p:PV) (s:Int×Int) (h:0≤p.desc) (h2:p.desc≤100):0≤(meas2 p s).desc∧(meas2 p s).desc≤100:=by
 unfold meas2
 split
 ·show 0≤descV _∧descV _≤100
  unfold descV; split<;>split<;>omega
 exact ⟨h,h2⟩
theorem H61 (p:PV) (n:NV) (s u:Int×Int) (h1:0≤p.start) (h2:p.start≤4096) (h3:0≤p.desc) (h4:p.desc≤100) (hmb:p.m.boot.length<1000000) (hI:isoB p=true→DFun Tryz.prog W0 30 [encTop n,encO (optM p.m)] (.tup [Iv s.1,Iv s.2])) (hU:udfB p=true→DFun Tryz.prog W0 94 [encTop n,Iv p.m.udf] (.tup [Iv u.1,Iv u.2])) (bp bg:Nat):DCall Tryz.prog W0 61 [.box 4102 bp 0,encTop n] (look [(4102,.box bp (planC p bg))]) fun d H'=>d=Iv (measV p s u).2∧H'=look [(4102,.box bp (planC (measV p s u).1 bg))]:=by
 refine DCall.intro ti_ok Tryz.func61 rfl (by decide +kernel) Tryz.ntmps61 rfl fun Γ=>?_
 apply Sr;(conv=>whnf);intro b3;apply Sr;apply Rl;refine Ir ?_;refine Ir ?_;apply Rl;(conv=>whnf);refine Tri.joinK (α:={ _x:Unit // ¬ (isoB p=true∧s.2≠0) }) (fun x=>[(0,.box 4102 bp 0),(3,.box 3 b3 0)]) (fun x=>[(4102,.box bp (planC (meas2 p s) bg)),(3,.box b3 (encTop n).cells)]) ?_ ?_
 ·apply Sr;apply Rl;(conv=>whnf);refine ⟨[Iv p.m.views,Iv 0],_,fun _=>H35 p.m.views 0 (by decide),Z,?_⟩;refine Cd (isoB p) rfl (fun hc=>?_) (fun hc=>?_)
  ·apply Sq;refine Tri.draw ti_ok mixed (by kernel_rfl) ?_;apply Rl;apply Rl;(conv=>whnf);refine ⟨[encM p.m],_,fun _=>H37 p.m hmb,Z,?_⟩;(conv=>whnf);refine ⟨[encTop n,encO (optM p.m)],_,fun _=>hI hc,Z,?_⟩;apply Sq;apply Sr;refine Cd (s.2 !=0) rfl (fun hc2=>?_) (fun hc2=>?_)
   ·apply Sr;(conv=>whnf)
    have hm:measV p s u=(meas1 p,s.2):=by rw [measV,if_pos ⟨hc,by simpa using hc2⟩]
    rw [hm];refine Tri.retK [(4,Iv s.2)] [(4102,.box bp (planC (meas1 p) bg))] [(4102,4102)] ⟨Z,rfl,Y⟩ ?_;(conv=>whnf);exact ⟨_,.refl _,rfl,rfl⟩
   apply Sk;apply Rg;apply Rl;(conv=>whnf);refine ⟨[encM p.m],_,fun _=>H37 p.m hmb,Z,?_⟩;(conv=>whnf);refine ⟨[encO (optM p.m)],_,fun _=>H36 (optM p.m),Z,?_⟩;apply Rl;apply Rl;(conv=>whnf);exact ⟨⟨(),fun h=>h.2 (by simpa using hc2)⟩,[(4102,4102),(3,3)],Z,rfl,rfl,(congrArg (fun q=>some (HObj.box bp (planC q bg))) (show ({ p with free:=p.start+66+2,iso:=s.1,desc:=descV (optM p.m) }:PV)=meas2 p s from (if_pos hc).symm)),rfl,Y⟩
  apply Sk;(conv=>whnf)
  exact ⟨⟨(),fun h=>by rw [hc] at h; cases h.1⟩,[(4102,4102),(3,3)],Z,rfl,rfl,(congrArg (fun q=>some (HObj.box bp (planC q bg))) (show meas1 p=meas2 p s from (if_neg (by rw [hc]; decide)).symm)),rfl,Y⟩
 rintro ⟨_,hne⟩
 have hd2:=meas2_desc p s h3 h4
 have e1:(meas2 p s).m=p.m:=by unfold meas2 meas1; split<;>rfl
 have e2:(meas2 p s).start=p.start:=by unfold meas2 meas1; split<;>rfl
 have hub:udfB p=hasV (meas2 p s).m.views 3:=by rw [e1]; rfl
 generalize hP2:meas2 p s=p2 at *;apply Sq;apply Sr;apply Rl;(conv=>whnf);refine ⟨[Iv p2.m.views,Iv 3],_,fun _=>H35 p2.m.views 3 (by decide),Z,?_⟩;refine Cd (!hasV p2.m.views 3) rfl (fun hc=>?_) (fun hc=>?_)
 ·apply Sq;refine Tri.drawTail ti_ok 11 mixed (by kernel_rfl) ?_;apply Rl;refine Ir ?_;apply Rl;refine Ir ?_;apply Rl;apply Sr;(conv=>whnf)
  have hu:¬ udfB p=true:=by rw [hub]; simpa using hc
  have hm:measV p s u=({ p2 with free:=p2.start+16+p2.desc },0):=by rw [measV,if_neg hne,if_neg hu,hP2,← e2]
  rw [hm];refine Tri.retK [(4,Iv 0)] [(4102,.box bp (planC { p2 with free:=p2.start+16+p2.desc } bg))] [(4102,4102)] ⟨Z,rfl,Y⟩ ?_;(conv=>whnf);exact ⟨_,.refl _,rfl,rfl⟩
 apply Sk
 have hu:udfB p=true:=by rw [hub]; simpa using hc
 have hU2:=hU hu
 rw [← e1] at hU2;apply Sq;refine Tri.draw ti_ok mixed (by kernel_rfl) ?_;apply Rl;apply Rl;(conv=>whnf);refine ⟨[encTop n,Iv p2.m.udf],_,fun _=>hU2,Z,?_⟩;apply Sr;apply Rl;apply Sr;(conv=>whnf)
 have hm:measV p s u=({ p2 with udf:=u.1 },u.2):=by rw [measV,if_neg hne,if_pos hu,hP2]
 rw [hm];refine Tri.retK [(4,Iv u.2)] [(4102,.box bp (planC { p2 with udf:=u.1 } bg))] [(4102,4102)] ⟨Z,rfl,Y⟩ ?_;(conv=>whnf);exact ⟨_,.refl _,rfl,rfl⟩
theorem _root_.Go.Tame.DCall.heap1 {f:FuncId} {ds:List D} {Q:D→Heap→Prop} {H:Heap} {k1 s1:Nat} {o1:HObj} (h1:H s1=some o1) (hc:DCall Tryz.prog W0 f ds (look [(k1,o1)]) Q):DCall Tryz.prog W0 f ds (handed H [(k1,s1)]) Q:=by
 have e:handed H [(k1,s1)]=look [(k1,o1)]:=by
  funext j
  simp only [handed,look]
  cases Nat.beq j k1 with
  | true=>exact h1
  | false=>rfl
 rw [e]; exact hc
theorem H90 (f:PF) (g:FV) (b:Nat):DCall Tryz.prog W0 90 [encPF f,.box 4101 b 0] (look [(4101,.box b (encF g).cells)]) fun d H'=>d=.bool (f.path==g.path)∧H'=look [(4101,.box b (encF g).cells)]:=by
 refine DCall.intro ti_ok Tryz.func90 rfl (by decide +kernel) Tryz.ntmps90 rfl fun Γ=>?_
 apply Sr;(conv=>whnf);intro b2;apply Sr;apply Rl;apply Rl;(conv=>whnf);refine Tri.retK [(3,.bool (f.path==g.path))] [(4101,.box b (encF g).cells)] [(4101,4101)] ⟨Z,rfl,Y⟩ ?_;(conv=>whnf);exact ⟨_,.refl _,rfl,rfl⟩
theorem H89 (T:List PF) (hT:T.length<1000000) (fid:Nat) (caps:List D) (o1:HObj) (p:PF→Bool) (hp0:∀ k∈T,DCall Tryz.prog W0 fid (encPF k::caps) (look [(4101,o1)]) fun d H'=>d=.bool (p k)∧H'=look [(4101,o1)]):DCall Tryz.prog W0 89 [.sl .none 2 (T.map encPF),.fn (.func fid) [] caps] (look [(4101,o1)]) fun d H'=>d=Iv (firstIdx p T)∧H'=look [(4101,o1)]:=by
 refine DCall.intro ti_ok Tryz.func89 rfl (by decide +kernel) Tryz.ntmps89 rfl fun Γ=>?_
 apply Sr;apply Sq;apply Sr;apply Bk;refine Tri.loopK (α:={ i:Nat // i≤T.length∧∀ j (h:j<T.length),j<i→p (T[j])=false }) (fun x=>[(0,.sl .none 2 (T.map encPF)),(1,.fn (.func fid) [] caps),(7,Iv (T.map encPF).length),(8,Iv x.1)]) (fun _=>[(4101,o1)]) (fun x=>T.length-x.1) ⟨0,by simp⟩ [(4101,4101)] ⟨Z,rfl,Y⟩ ?_;rintro ⟨i,hi,hp⟩;dsimp only;apply Sr;apply Sq;refine Cd (decide ((i:Int)<(T.map encPF).length)) rfl (fun hc=>?_) (fun hc=>?_)
 ·apply Sk
  have hia:i<T.length:=by simpa using hc
  apply Sq;apply Bk;apply Sr;apply Sq;refine Tri.regionX ti_ok ?_;(conv=>whnf)
  refine .inl ⟨fun _=>by rw [List.length_map]; omega,?_⟩
  (conv=>whnf);refine .inl ⟨encPF T[i],fun _=>pfs_get hia,?_⟩;(conv=>whnf);refine .inr (XOp.call rfl (encPF T[i]::caps) [(4101,4101)] (DCall.heap1 rfl (hp0 T[i] (List.getElem_mem hia))) rfl ⟨.refl _,LeL.refl _⟩ ?_);rintro d H' ⟨rfl,rfl⟩;refine ⟨_,.refl _,?_⟩;refine Cd (p T[i]) rfl (fun hc=>?_) (fun hc=>?_)
  ·apply Sr;(conv=>whnf);refine Tri.retK [(4,Iv (firstIdx p T))] [(4101,o1)] [(4101,4101)] ⟨⟨intDLe (firstIdx_some (p:=p) hia hp hc).symm,trivial⟩,rfl,Y⟩ ?_;(conv=>whnf);exact ⟨_,.refl _,rfl,rfl⟩
  apply Sk;apply Rg;refine Ir ?_;(conv=>whnf)
  exact ⟨⟨i+1,hia,fun j h hj=>by
   by_cases hji:j=i
   ·subst hji; exact hc
   exact hp j h (by omega)⟩,[(4101,4101)],by show T.length-(i+1)<T.length-i; omega,Z,rfl,Y⟩
 have hin:i=T.length:=by simp at hc; omega
 refine Tri.exit ?_;apply Sr;(conv=>whnf);refine Tri.retK [(4,Iv (firstIdx p T))] [(4101,o1)] [(4101,4101)] ⟨⟨intDLe (firstIdx_none (p:=p) fun j h=>hp j h (by omega)).symm,trivial⟩,rfl,Y⟩ ?_;(conv=>whnf);exact ⟨_,.refl _,rfl,rfl⟩
def isBlkV (n:Int):Bool:=bif decide (0≤n) then decide (n<4294967296) else false
theorem H288 (n:Int):DFun Tryz.prog W0 288 [Iv n] (.bool (isBlkV n)):=by
 refine Fi Tryz.func288 rfl Tryz.ntmps288 fun Γ=>?_
 apply Sr;apply Sr;apply Hh;refine Pk ?_;apply Rt;(conv=>whnf);exact .refl _
theorem H287 (e:PE):DFun Tryz.prog W0 287 [encPE e] (.bool (!isBlkV e.lba)):=by
 refine Fi Tryz.func287 rfl Tryz.ntmps287 fun Γ=>?_
 apply Sr;(conv=>whnf);intro b1;apply Sr;apply Rl;(conv=>whnf);refine ⟨[Iv e.lba],_,fun _=>H288 e.lba,Z,?_⟩;apply Rt;(conv=>whnf);exact .refl _
theorem pes_get {l:List PE} {i:Nat} (h:i<l.length):(pesD l)[Int.toNat (i:Int)]? = some (encPE l[i]):=by simp [pesD,h]
theorem H327 (T:List PE) (hT:T.length<1000000) (fid:Nat) (p:PE→Bool) (hp0:∀ k∈T,DFun Tryz.prog W0 fid [encPE k] (.bool (p k))):DFun Tryz.prog W0 327 [.sl .none 3 (pesD T),.fn (.func fid) [] []] (Iv (firstIdx p T)):=by
 refine Fi Tryz.func327 rfl Tryz.ntmps327 fun Γ=>?_
 apply Sr;apply Sq;apply Sr;apply Bk;refine Tri.loopK (α:={ i:Nat // i≤T.length∧∀ j (h:j<T.length),j<i→p (T[j])=false }) (fun x=>[(0,.sl .none 3 (pesD T)),(1,.fn (.func fid) [] []),(7,Iv (pesD T).length),(8,Iv x.1)]) (fun _=>[]) (fun x=>T.length-x.1) ⟨0,by simp⟩ [] ⟨Z,rfl,trivial⟩ ?_;rintro ⟨i,hi,hp⟩;dsimp only;apply Sr;apply Sq;refine Cd (decide ((i:Int)<(pesD T).length)) rfl (fun hc=>?_) (fun hc=>?_)
 ·apply Sk
  have hia:i<T.length:=by simpa [pesD] using hc
  apply Sq;apply Bk;apply Sr;apply Sr;(conv=>whnf)
  refine ⟨fun _=>by simp [pesD]; omega,?_⟩
  (conv=>whnf);refine ⟨encPE T[i],fun _=>pes_get hia,?_⟩;(conv=>whnf);refine ⟨[encPE T[i]],_,fun _=>hp0 T[i] (List.getElem_mem hia),Z,?_⟩;refine Cd (p T[i]) rfl (fun hc=>?_) (fun hc=>?_)
  ·apply Sr;apply Rt;(conv=>whnf);exact intDLe (firstIdx_some (p:=p) hia hp hc).symm
  apply Sk;apply Rg;refine Ir ?_;(conv=>whnf)
  exact ⟨⟨i+1,hia,fun j h hj=>by
   by_cases hji:j=i
   ·subst hji; exact hc
   exact hp j h (by omega)⟩,[],by show T.length-(i+1)<T.length-i; omega,Z,rfl,trivial⟩
 have hin:i=T.length:=by simp [pesD] at hc; omega
 refine Tri.exit ?_;apply Sr;apply Rt;(conv=>whnf);exact intDLe (firstIdx_none (p:=p) fun j h=>hp j h (by omega)).symm
theorem H286 (T:List PE) (hT:T.length<1000000) (fid:Nat) (p:PE→Bool) (hp0:∀ k∈T,DFun Tryz.prog W0 fid [encPE k] (.bool (p k))):DFun Tryz.prog W0 286 [.sl .none 3 (pesD T),.fn (.func fid) [] []] (.bool (decide (0≤firstIdx p T))):=by
 refine Fi Tryz.func286 rfl Tryz.ntmps286 fun Γ=>?_
 apply Sr;apply Sr;(conv=>whnf);refine ⟨[.sl .none 3 (pesD T),.fn (.func fid) [] []],_,fun _=>H327 T hT fid p hp0,Z,?_⟩;apply Rt;(conv=>whnf);exact .refl _
theorem H336n (fid:Nat) (caps:List D):DFun Tryz.prog W0 336 [.sl .none 1 [],Iv 0,Iv 0,.fn (.func fid) [] caps] (.tup []):=by
 refine Fi Tryz.func336 rfl Tryz.ntmps336 fun Γ=>?_
 apply Sr;refine Ir ?_;apply Bk;refine Tri.loop (α:=Unit) (fun _=>[(2,Iv 0),(8,Iv 1)]) (fun _=>[]) (fun _=>0) () Z trivial ?_;rintro ⟨⟩;apply Sq;apply Sr;refine Cd _ rfl (fun hc=>?_) (fun hc=>?_)
 ·exact absurd hc (by decide)
 refine Tri.exit ?_;(conv=>whnf);exact trivial
theorem H326n (fid:Nat) (caps:List D):DFun Tryz.prog W0 326 [.sl .none 1 [],Iv 0,.fn (.func fid) [] caps] (.tup []):=by
 refine Fi Tryz.func326 rfl Tryz.ntmps326 fun Γ=>?_
 apply Sr;apply Sr;apply Sq;apply Bk;refine Tri.loop (α:=Unit) (fun _=>[(0,.sl .none 1 []),(1,Iv 0),(2,.fn (.func fid) [] caps),(6,Iv 20),(7,Iv 0),(8,Iv 20)]) (fun _=>[]) (fun _=>0) () Z trivial ?_;rintro ⟨⟩;apply Sq;apply Sr;refine Cd _ rfl (fun hc=>?_) (fun hc=>?_)
 ·exact absurd hc (by decide)
 refine Tri.exit ?_;apply Sr;(conv=>whnf);refine ⟨[.sl .none 1 [],Iv 0,Iv 0,.fn (.func fid) [] caps],_,fun _=>H336n fid caps,Z,?_⟩;apply Bk;refine Tri.loop (α:=Unit) (fun _=>[(1,Iv 0),(6,Iv 20)]) (fun _=>[]) (fun _=>0) () Z trivial ?_;rintro ⟨⟩;apply Sq;apply Sr;refine Cd _ rfl (fun hc=>?_) (fun hc=>?_)
 ·exact absurd hc (by decide)
 refine Tri.exit ?_;(conv=>whnf);exact trivial
theorem H285n (fid:Nat) (caps:List D):DFun Tryz.prog W0 285 [.sl .none 1 [],.fn (.func fid) [] caps] (.tup []):=by
 refine Fi Tryz.func285 rfl Tryz.ntmps285 fun Γ=>?_
 apply Rg;(conv=>whnf);refine ⟨[.sl .none 1 [],Iv 0,.fn (.func fid) [] caps],_,fun _=>H326n fid caps,Z,?_⟩;(conv=>whnf);exact trivial
theorem H239o (wide:Bool) (lba:Int) (h0:0≤lba) (h1:lba<4294967296):DFun Tryz.prog W0 239 [.sl .none 3 [(encPE ⟨[0],lba,1⟩)],.bool wide] (.tup [.sl .none 3 [(encPE ⟨[0],lba,1⟩)],.sl .none 1 [Iv 1],Iv 0]):=by
 refine Fi Tryz.func239 rfl Tryz.ntmps239 fun Γ=>?_
 apply Sr;(conv=>whnf);intro b2;(conv=>whnf);intro b3;apply Sq;apply Sr;apply Rl;refine Cd _ rfl (fun hc=>?_) (fun hc=>?_)
 ·exact absurd hc (by simp)
 apply Sk;apply Sq;apply Sr;apply Rl;apply Rl;apply Hh;(conv=>whnf);refine ⟨fun h=>by simp,?_⟩;apply Hh;(conv=>whnf);refine ⟨(encPE ⟨[0],lba,1⟩),fun h=>rfl,?_⟩;apply Hh;(conv=>whnf);refine ⟨[(encPE ⟨[0],lba,1⟩)],_,fun h=>H282 [0] lba 1,Z,?_⟩;apply Hh;refine Pk ?_;refine Cd _ rfl (fun hc=>?_) (fun hc=>?_)
 ·exact absurd hc (by simp)
 apply Sk;apply Sq;refine Tri.regionX ti_ok ?_;(conv=>whnf);refine .inr (XOp.mpMake (fun bk=>?_));apply Sq;apply Sr;apply Rl;(conv=>whnf);refine Sp ?_;apply Bk
 refine Tri.loopK (α:=Unit) (fun _=>[(2,.box 2 b2 0),(3,.box 3 b3 0),(7,.raw (.map (some bk))),(37,Iv 0),(38,Iv 0)]) (fun _=>[(2,.box b2 [.sl .none 3 [(encPE ⟨[0],lba,1⟩)]]),(3,.box b3 [.bool wide]),(34,.mp bk [])]) (fun _=>0) () [(2,2),(3,3),(34,34)]
  ⟨Z,rfl,Y⟩ ?_
 rintro ⟨⟩;apply Sr;apply Sq;refine Cd _ rfl (fun hc=>?_) (fun hc=>?_)
 ·exact absurd hc (by simp)
 refine Tri.exit ?_;apply Sr;(conv=>whnf);refine ⟨trivial,?_⟩;(conv=>whnf);refine Tri.own 10 10 1 3 (xs:=[Iv 0]) rfl (fun v0=>?_);apply Sr;apply Sq;apply Sr;apply Bk
 refine Tri.loopK (α:={ x:Nat×Value // x.1≤1 }) (fun x=>[(2,.box 2 b2 0),(3,.box 3 b3 0),(7,.raw (.map (some bk))),(10,.sl (.own 10 x.1.2) 1 [Iv 0]),(11,.bool false),(12,Iv ((x.1.1:Nat):Int))]) (fun x=>[(2,.box b2 [.sl .none 3 [(encPE ⟨[0],lba,1⟩)]]),(3,.box b3 [.bool wide]),(34,.mp bk []),(10,.own x.1.2 1 1 3)]) (fun x=>1-x.1.1) ⟨(0,v0),Nat.zero_le _⟩ [(2,2),(3,3),(34,34),(10,10)]
  ⟨Z,rfl,Y⟩ ?_
 rintro ⟨⟨i,v⟩,hi⟩;dsimp only at hi ⊢;apply Sq;apply Sr;refine Cd (decide ((i:Int)<1)) rfl (fun hc=>?_) (fun hc=>?_)
 ·apply Sk
  have hi0:i=0:=by have:=of_decide_eq_true hc; omega
  subst hi0;apply Sq;apply Bk;apply Sq;refine Tri.regionX ti_ok ?_;(conv=>whnf);refine .inl ⟨fun _=>by simp,?_⟩;(conv=>whnf);refine .inl ⟨Iv 0,fun _=>rfl,?_⟩;refine Ir ?_;(conv=>whnf);refine .inr (XOp.mpMiss 34 (kt:=3) (et:=24) (k:=Iv 1) (z:=.sl .none 1 []) rfl rfl rfl rfl rfl rfl (by simp) rfl (fun w=>rfl) (fun w C=>.sl0 .none 1 none trivial) ?_);apply Sr;apply Sr;(conv=>whnf);refine ⟨[.sl .none 1 [],.fn (.func 284) [] [.box 2 b2 0,.box 3 b3 0]],_,fun _=>H285n 284 [.box 2 b2 0,.box 3 b3 0],Z,?_⟩;apply Sq;apply Sr;apply Bk
  refine Tri.loopK (α:=Unit) (fun _=>[(2,.box 2 b2 0),(3,.box 3 b3 0),(7,.raw (.map (some bk))),(10,.sl (.own 10 v) 1 [Iv 0]),(11,.bool false),(12,Iv 0),(13,.sl .none 1 []),(15,Iv 1)]) (fun _=>[(2,.box b2 [.sl .none 3 [(encPE ⟨[0],lba,1⟩)]]),(3,.box b3 [.bool wide]),(34,.mp bk []),(10,.own v 1 1 3)]) (fun _=>0) () [(2,2),(3,3),(34,34),(10,10)]
   ⟨Z,rfl,Y⟩ ?_
  rintro ⟨⟩;apply Sq;apply Sr;refine Cd _ rfl (fun hc=>?_) (fun hc=>?_)
  ·exact absurd hc (by simp)
  refine Tri.exit ?_;apply Rg;(conv=>whnf);refine ⟨rfl,rfl,?_⟩;(conv=>whnf);refine ⟨by decide,by decide,(fun h=>by cases h),fun v1=>?_⟩;apply Rg;refine Ir ?_;(conv=>whnf);exact ⟨⟨(1,v1),Nat.le_refl _⟩,[(2,2),(3,3),(34,34),(10,111)],Nat.zero_lt_one,⟨.refl _,.refl _,.refl _,DLe.ownEq rfl,.refl _,.refl _,trivial⟩,rfl,Y⟩
 have hi1:i=1:=by have:=of_decide_eq_false hc; omega
 subst hi1;refine Tri.exit ?_;apply Sq;apply Bk;apply Sr;apply Rl;refine Cd _ rfl (fun hc=>?_) (fun hc=>?_)
 ·exact absurd hc (by simp)
 apply Sr;apply Rl;(conv=>whnf);refine ⟨[.sl .none 3 [(encPE ⟨[0],lba,1⟩)],.fn (.func 287) [] []],_,fun _=>H286 [⟨[0],lba,1⟩] (by simp) 287 (fun e=>!isBlkV e.lba) (fun k _=>H287 k),Z,?_⟩;refine Cd (decide (0≤firstIdx (fun e:PE=>!isBlkV e.lba) [⟨[0],lba,1⟩])) rfl (fun hc=>?_) (fun hc=>?_)
 ·exact absurd hc (by
   have hb:isBlkV lba=true:=by unfold isBlkV; rw [decide_eq_true h0,decide_eq_true h1]; rfl
   have hf:firstIdx (fun e:PE=>!isBlkV e.lba) [⟨[0],lba,1⟩]=-1:=firstIdx_none (fun j h=>by
    have:j=0:=by simp at h; exact h
    subst this
    show (!isBlkV lba)=false
    rw [hb]; rfl)
   rw [hf]; decide)
 apply Sr;refine Cd _ rfl (fun hc=>?_) (fun hc=>?_)
 ·exact absurd hc (by simp)
 apply Sk;apply Sq;refine Tri.regionX ti_ok ?_;apply Il;apply Rl;(conv=>whnf);refine .inr (XOp.makeRow ti_ok (n:=1) (k1:=.i64) (k2:=.i64) (z:=Iv 0) rfl rfl rfl rfl rfl rfl rfl (by decide) (by decide) fun nv=>?_);apply Sq;refine Tri.regionX ti_ok ?_;apply Il;apply Rl;(conv=>whnf);refine .inr (XOp.makeOwn ti_ok (n:=1) (k1:=.i64) (k2:=.i64) rfl rfl rfl rfl rfl rfl (by decide) (by decide) fun ov=>?_);apply Sq;apply Sr;apply Bk
 refine Tri.loopK (α:=Bool×Value) (fun x=>[(2,.box 2 b2 0),(3,.box 3 b3 0),(10,.sl (.own 10 v) 1 [Iv 0]),(16,.raw nv),(17,.sl (.own 17 x.2) 3 (bif x.1 then [(encPE ⟨[0],lba,1⟩)] else [])),(129,.sl (.own 10 v) 1 [Iv 0]),(130,Iv 1),(131,Iv (bif x.1 then 1 else 0))])
  (fun x=>[(2,.box b2 [.sl .none 3 [(encPE ⟨[0],lba,1⟩)]]),(3,.box b3 [.bool wide]),(10,.own v 1 1 3),(16,.row nv [Iv (bif x.1 then 1 else 0)] 1 3),(17,.own x.2 (bif x.1 then 1 else 0) 3 320)]) (fun x=>bif x.1 then 0 else 1) (false,ov) [(2,2),(3,3),(10,10),(16,125),(17,128)]
  ⟨⟨.refl _,.refl _,.refl _,.refl _,DLe.ownEq rfl,.refl _,.refl _,.refl _,trivial⟩,rfl,Y⟩ ?_
 rintro ⟨q,w⟩;dsimp only;apply Sr;apply Sq;refine Cd (decide ((bif q then (1:Int) else 0)<1)) rfl (fun hc=>?_) (fun hc=>?_)
 ·apply Sk
  have hq:q=false:=by cases q<;>simp at hc ⊢
  subst hq;apply Sq;apply Bk;apply Sr;(conv=>whnf);refine Sp ?_;refine Lo (Iv 0) ?_;apply Sq;refine Tri.regionX ti_ok ?_;refine Ir ?_;(conv=>whnf);refine .inr (XOp.rowIndex ti_ok 16 rfl rfl rfl rfl rfl rfl rfl (by simp) (by simp) ?_);(conv=>whnf);refine .inr (XOp.rowStore ti_ok 16 (i:=0) rfl rfl rfl rfl (by simp) rfl ?_);(conv=>whnf);apply Sr;apply Rl;(conv=>whnf);refine Sp ?_;refine Lo ((encPE ⟨[0],lba,1⟩)) ?_;(conv=>whnf);intro b20;apply Rl;apply Sq;refine Tri.regionX ti_ok ?_;apply Il;apply Rl;refine Ir ?_;(conv=>whnf);refine .inr (XOp.rowIndex ti_ok 16 rfl rfl rfl rfl rfl rfl rfl (by simp) (by simp) ?_);(conv=>whnf);refine .inr (XOp.rowLoad ti_ok 16 (i:=0) (y:=Iv (0+1)) rfl rfl rfl rfl ?_);apply Il;apply Rl;apply Rg;apply Rl;(conv=>whnf);refine ⟨trivial,?_⟩;(conv=>whnf);refine ⟨rfl,rfl,?_⟩;(conv=>whnf);refine ⟨by simp,by simp,(fun h=>by cases h),fun w2=>?_⟩;apply Rg;refine Ir ?_;(conv=>whnf);exact ⟨(true,w2),[(2,2),(3,3),(10,10),(16,16),(17,155)],Nat.zero_lt_one,⟨.refl _,.refl _,.refl _,.refl _,DLe.ownEq rfl,.refl _,.refl _,.refl _,trivial⟩,rfl,Y⟩
 have hq:q=true:=by cases q<;>simp at hc ⊢
 subst hq;refine Tri.exit ?_;apply Sr;(conv=>whnf);refine Tri.forgetK [(5,.raw nv),(4,.sl (.own 17 w) 3 [(encPE ⟨[0],lba,1⟩)]),(6,Iv 0)] [(16,.row nv [Iv 1] 1 3),(17,.own w 1 3 320)] [(16,16),(17,17)] ⟨Z,rfl,Y⟩ ?_;refine Tri.commitOwn 16 5 rfl ?_;apply Rt;(conv=>whnf);exact ⟨DLe.unown,DLe.unown,.refl _,trivial⟩
end Go.Tame.V
namespace Go.Tame
open Go Go.RowKit
theorem XOp.rowCheck {P:Program} {W0:World} {nt:Nat} {σ:DSt} {dst:Option Tmp} {K:DSt→Prop} {x:Operand} (s:Nat) {v:Value} {xs:List D} {k e i m:Nat} (hx:σ.ev x=.raw (rowPtr v m)) (hs:σ.H s=some (.row v xs k e)) (hi:i<xs.length) (hK:K (σ.put dst (.raw (rowPtr v m)))):XOp P W0 nt σ dst (.nilCheck x) K :=
 .val fun Γ w C a hf type pos after=>by
  have hv:=act_ev hf.tmps x; rw [hx] at hv
  obtain ⟨b,cap,vs,rfl,_⟩:=RowV.pos (i:=i) (hf.heap.obj s _ hs) hi;refine ⟨_,w,C,σ,_,?_,hf,.raw _,hK⟩
  simp [execOp,hv.raw_inv,rowPtr]
end Go.Tame
namespace Go.Tame.V
open Go Go.Proofs
variable {W0:World}
def fldD (id:List UInt8) (par:Int) (lv:Value) (st ln:Int):D:=.agg [.str id,Iv par,.raw lv,Iv st,Iv ln]
theorem H170 (wide:Bool) (fv:Value) (la:Option Addr) (lm lc:Nat) (ps pl pm st ln:Int) (bh:Nat) (h0:0≤st) (h1:st<4294967296):DCall Tryz.prog W0 170 [.box 4110 bh 0] (look [(4110,.box bh [.bool wide,.raw fv,Iv ps,Iv pl,Iv pm]),(4111,.row fv [fldD [0] 0 (.slice la lm lc) st ln] 5 249)]) fun d H'=>d=.sl .none 3 [(encPE ⟨[0],st,1⟩)]∧H'=look [(4110,.box bh [.bool wide,.raw fv,Iv ps,Iv pl,Iv pm]),(4111,.row fv [fldD [0] 0 (.slice la lm lc) st ln] 5 249)]:=by
 refine DCall.intro ti_ok Tryz.func170 rfl (by decide +kernel) Tryz.ntmps170 rfl fun Γ=>?_
 apply Sr;apply Sr;apply Sq;refine Tri.own 3 1000 3 320 rfl (fun w0=>?_);apply Sq;refine Tri.regionG ti_ok ?_;apply Tj;apply Tj;apply Tj;apply Tj;apply Rl;apply Tl;refine XOp.rowLen ti_ok 4111 rfl rfl rfl rfl ?_;apply Tj;(conv=>whnf);refine Tri.forgetK [(0,.box 4110 bh 0),(3,.sl (.own 1000 w0) 3 []),(12,.raw fv),(13,Iv 1),(14,Iv 0)] [(4110,.box bh [.bool wide,.raw fv,Iv ps,Iv pl,Iv pm]),(4111,.row fv [fldD [0] 0 (.slice la lm lc) st ln] 5 249),(1000,.own w0 0 3 320)] [(4110,4110),(4111,4111),(1000,1000)] (by exact ⟨Z,rfl,Y⟩) ?_;apply Bk
 refine Tri.loopK (α:=Bool×Value) (fun x=>[(0,.box 4110 bh 0),(3,.sl (.own 1000 x.2) 3 (bif x.1 then [(encPE ⟨[0],st,1⟩)] else [])),(12,.raw fv),(13,Iv 1),(14,Iv (bif x.1 then 1 else 0))])
  (fun x=>[(4110,.box bh [.bool wide,.raw fv,Iv ps,Iv pl,Iv pm]),(4111,.row fv [fldD [0] 0 (.slice la lm lc) st ln] 5 249),(1000,.own x.2 (bif x.1 then 1 else 0) 3 320)]) (fun x=>bif x.1 then 0 else 1) (false,w0) [(4110,4110),(4111,4111),(1000,1000)]
  ⟨Z,rfl,Y⟩ ?_
 rintro ⟨q,w⟩;dsimp only;apply Sr;apply Sq;refine Cd (decide ((bif q then (1:Int) else 0)<1)) rfl (fun hc=>?_) (fun hc=>?_)
 ·apply Sk
  have hq:q=false:=by cases q<;>simp at hc ⊢
  subst hq;apply Sq;apply Bk;apply Sq;refine Tri.regionX ti_ok ?_;(conv=>whnf);refine .inr (XOp.rowIndex ti_ok 4111 rfl rfl rfl rfl rfl rfl rfl (by simp) (by simp) ?_);(conv=>whnf);refine .inr (XOp.rowLoad ti_ok 4111 (i:=0) (y:=fldD [0] 0 (.slice la lm lc) st ln) rfl rfl rfl rfl ?_);(conv=>whnf);intro b5;apply Il;apply Rl;apply Rg;apply Rl;apply Rl;apply Rl;refine Ir ?_;(conv=>whnf);refine ⟨trivial,?_⟩;(conv=>whnf);refine ⟨rfl,rfl,?_⟩;(conv=>whnf);refine ⟨by simp,by simp,(fun h=>by cases h),fun w2=>?_⟩;apply Rg;refine Ir ?_;(conv=>whnf);exact ⟨(true,w2),[(4110,4110),(4111,4111),(1000,28)],Nat.zero_lt_one,⟨.refl _,DLe.ownEq rfl,.refl _,.refl _,.refl _,trivial⟩,rfl,Y⟩
 have hq:q=true:=by cases q<;>simp at hc ⊢
 subst hq;refine Tri.exit ?_;apply Sr;apply Rl;(conv=>whnf);refine ⟨[.sl .none 3 [(encPE ⟨[0],st,1⟩)],.bool wide],_,fun _=>H239o wide st h0 h1,⟨DLe.unown,.refl _,trivial⟩,?_⟩;apply Sr;(conv=>whnf);refine Tri.retK [(2,.sl .none 3 [(encPE ⟨[0],st,1⟩)])] [(4110,.box bh [.bool wide,.raw fv,Iv ps,Iv pl,Iv pm]),(4111,.row fv [fldD [0] 0 (.slice la lm lc) st ln] 5 249)] [(4110,4110),(4111,4111)] ⟨Z,rfl,Y⟩ ?_;(conv=>whnf);exact ⟨_,.refl _,rfl,rfl⟩
def nodesF (G:List UInt8→NV×Int) (n:NV) (ps:List (List UInt8)):List (List UInt8×NV):=ps.foldl (fun m p=>aset m p (G p).1) [([47],n)]
theorem nodesF_next (G:List UInt8→NV×Int) (n:NV) {ps:List (List UInt8)} {i:Nat} (h:i<ps.length):nodesF G n (ps.take (i+1))=aset (nodesF G n (ps.take i)) ps[i] (G ps[i]).1:=by
 rw [nodesF,List.take_succ_eq_append_getElem h,List.foldl_append]; rfl
def bH (bb bn be:Nat) (o:OV) (n:NV) (M:List (List UInt8×NV)):List (Nat×HObj):=[(4102,.box bb (bD o n bn be).cells),(4103,.mp bn (encMap encTop M)),(4104,.mp be (encMap encF []))]
theorem H76 (G:List UInt8→NV×Int) (n:NV) (o:OV) (ps:List (List UInt8)) (hl:ps.length<1000000) (hP:DFun Tryz.prog W0 96 [encTop n] (.sl .none 1 (strs ps))) (hG:∀ p∈ps,DFun Tryz.prog W0 17 [encTop n,.str p] (.tup [encTop (G p).1,Iv (G p).2])):DCall Tryz.prog W0 76 [volD,encTop n,.nils,encO o] Heap.none fun d H'=>∃ bb bn be,d=.box 4102 bb 0∧H'=look (bH bb bn be o n (nodesF G n ps)):=by
 refine DCall.intro ti_ok Tryz.func76 rfl (by decide +kernel) Tryz.ntmps76 rfl fun Γ=>?_
 apply Sr;(conv=>whnf);intro b4;(conv=>whnf);intro b5;(conv=>whnf);intro b7;apply Sq;refine Tri.regionG ti_ok ?_;apply Tj;apply Rl;apply Tj;apply Rl;apply Tj;apply Rl;apply Tl;refine XOp.mpMake (fun b17=>?_);apply Tj;apply Rl;apply Tl;refine XOp.ins (XOp.mpSet 17 (kt:=9) (et:=44) (enc:=encTop) (l:=[]) (k:=[47]) (v:=n) rfl rfl rfl rfl rfl rfl ?_);apply Tj;apply Tl;refine XOp.mpMake (fun b20=>?_);apply Tj;apply Tj;(conv=>whnf);intro b22;apply Tj;(conv=>whnf);refine Tri.forgetK [(2,.nils),(9,.box 22 b22 0),(5,.box 5 b5 0)] [(5,.box b5 (encTop n).cells),(17,.mp b17 (encMap encTop [([47],n)])),(20,.mp b20 (encMap encF [])),(22,.box b22 (bD o n b17 b20).cells)] [(5,5),(17,17),(20,20),(22,22)] (by exact ⟨Z,rfl,Y⟩) ?_;apply Sq;apply Sr;apply Rl;(conv=>whnf);refine ⟨[encTop n],_,fun _=>hP,Z,?_⟩;apply Bk
 refine Tri.loopK (α:={ i:Nat // i≤ps.length }) (fun x=>[(2,.nils),(9,.box 4102 b22 0),(5,.box 5 b5 0),(24,.sl .none 1 (strs ps)),(25,Iv ((strs ps).length:Nat)),(26,Iv ((x.1:Nat):Int))]) (fun x=>[(5,.box b5 (encTop n).cells),(4102,.box b22 (bD o n b17 b20).cells),(4103,.mp b17 (encMap encTop (nodesF G n (ps.take x.1)))),(4104,.mp b20 (encMap encF []))]) (fun x=>ps.length-x.1) ⟨0,by omega⟩ [(5,5),(4102,22),(4103,17),(4104,20)]
  ⟨⟨.refl _,DLe.box,.refl _,.refl _,.refl _,.refl _,trivial⟩,rfl,Y⟩ ?_
 rintro ⟨i,hi⟩;dsimp only at hi ⊢;apply Sr;apply Sq;refine Cd (decide ((i:Int)<((strs ps).length:Nat))) rfl (fun hc=>?_) (fun hc=>?_)
 ·apply Sk
  have hia:i<ps.length:=by simpa [strs] using hc
  have hnx:=nodesF_next G n hia
  have hgp:=hG ps[i] (List.getElem_mem hia)
  have hget:(strs ps)[Int.toNat (i:Int)]? = some (.str ps[i]):=by simp [strs,hia]
  generalize nodesF G n (ps.take i)=M at *;generalize ps[i]=p at *;apply Sq;apply Bk;apply Sr;(conv=>whnf)
  refine ⟨fun _=>by simp [strs]; omega,?_⟩
  (conv=>whnf);refine ⟨.str p,fun _=>hget,?_⟩;(conv=>whnf)
  refine Tri.bitsG ti_ok mixed (α:=Unit) (fun _ f=>[(2,.nils),(9,.box 4102 b22 0),(5,.box 5 b5 0),(24,.sl .none 1 (strs ps)),(25,Iv ((strs ps).length:Nat)),(26,Iv ((i:Nat):Int)),(11,.str p),(31,bif f 0 then .box 4102 b22 0 else .any),(32,bif f 1 then .box 4102 b22 0 else .any),(33,bif f 2 then .box 4102 b22 24 else .any),(34,bif f 3 then .raw (.map (some b17)) else .any),(35,bif f 4 then .str p else .any),(36,bif f 5 then encTop n else .any),(37,bif f 6 then .str p else .any),(38,bif f 7 then .tup [encTop (G p).1,Iv (G p).2] else .any),(30,bif f 8 then .tup [encTop (G p).1,Iv (G p).2] else .any),(39,bif f 9 then encTop (G p).1 else .any),(40,bif f 10 then Iv (G p).2 else .any)])
   (fun _ f=>look ([(5,.box b5 (encTop n).cells),(4102,.box b22 (bD o n b17 b20).cells),(4104,.mp b20 (encMap encF []))]++(bif f 11 then [(4103,.mp b17 (encMap encTop (aset M p (G p).1)))] else [(4103,.mp b17 (encMap encTop M))]))) (by decide +kernel) () ?_ ?_ ?_ ?_
  ·exact ⟨.refl _,.refl _,.refl _,.refl _,.refl _,.refl _,.refl _,.any _,.any _,.any _,.any _,.any _,.any _,.any _,.any _,.any _,.any _,.any _,trivial⟩
  ·exact SubHF.of (hs:=[(5,.box b5 (encTop n).cells),(4102,.box b22 (bD o n b17 b20).cells),(4104,.mp b20 (encMap encF [])),(4103,.mp b17 (encMap encTop M))]) ⟨rfl,Y⟩
  ·(conv=>whnf);refine Qo ?_;refine Qo ?_;refine Qo ?_;refine ⟨fun _ f hI=>?_,?_⟩
   ·obtain ⟨f,rfl⟩:= hI.o f 11 3;apply Ti;apply Rl;(conv=>whnf);exact Ex ()
   refine Qo ?_;refine ⟨fun _ f hI=>?_,?_⟩
   ·obtain ⟨f,rfl⟩:= hI.o f 11 5;apply Ti;apply Rl;(conv=>whnf);exact Ex ()
   refine Qo ?_;refine ⟨fun _ f hI=>?_,?_⟩
   ·obtain ⟨f,rfl⟩:= hI.o f 11 7;apply Ti;(conv=>whnf);refine ⟨[encTop n,.str p],_,fun _=>hgp,Z,?_⟩;(conv=>whnf);exact Ex ()
   refine Qo ?_;refine Qo ?_;refine Qo ?_;refine ⟨fun _ f hI=>?_,?_⟩
   ·(conv=>whnf);apply Tk;refine XOp.mpSet 4103 (kt:=9) (et:=44) (enc:=encTop) (l:=M) (k:=p) (v:=(G p).1) rfl rfl rfl rfl rfl rfl ?_;(conv=>whnf);exact Ex () (SubHF.of (hs:=[(5,.box b5 (encTop n).cells),(4102,.box b22 (bD o n b17 b20).cells),(4104,.mp b20 (encMap encF [])),(4103,.mp b17 (encMap encTop (aset M p (G p).1)))]) (by exact ⟨rfl,Y⟩))
   exact trivial
  intro _ f hfl;obtain ⟨f,rfl⟩:=onAll f 12 (by exact hfl);clear hfl;(conv=>whnf);refine Tri.forgetG [(2,.nils),(9,.box 4102 b22 0),(5,.box 5 b5 0),(24,.sl .none 1 (strs ps)),(25,Iv ((strs ps).length:Nat)),(26,Iv ((i:Nat):Int))] (look [(5,.box b5 (encTop n).cells),(4102,.box b22 (bD o n b17 b20).cells),(4104,.mp b20 (encMap encF [])),(4103,.mp b17 (encMap encTop (aset M p (G p).1)))]) (.same (by exact Z) (SubHF.of (hs:=[(5,.box b5 (encTop n).cells),(4102,.box b22 (bD o n b17 b20).cells),(4104,.mp b20 (encMap encF [])),(4103,.mp b17 (encMap encTop (aset M p (G p).1)))]) (by exact ⟨rfl,Y⟩))) ?_;apply Rg;refine Ir ?_;(conv=>whnf)
  exact ⟨⟨i+1,hia⟩,[(5,5),(4102,4102),(4103,4103),(4104,4104)],by show ps.length-(i+1)<ps.length-i; omega,Z,rfl,rfl,rfl,rfl,rfl,rfl,congrArg (fun z=>some (HObj.mp b17 (encMap encTop z))) hnx.symm,rfl,Y⟩
 have hin:i=ps.length:=by simp [strs] at hc; omega
 subst hin;rw [List.take_length];refine Tri.exit ?_;apply Sq;apply Sr;apply Bk
 refine Tri.loopK (α:=Unit) (fun _=>[(9,.box 4102 b22 0),(43,Iv 0),(44,Iv 0)]) (fun _=>bH b22 b17 b20 o n (nodesF G n ps)) (fun _=>0) () [(4102,4102),(4103,4103),(4104,4104)]
  ⟨Z,rfl,Y⟩ ?_
 rintro ⟨⟩;apply Sr;apply Sq;refine Cd _ rfl (fun hc=>?_) (fun hc=>?_)
 ·exact absurd hc (by decide)
 refine Tri.exit ?_;apply Sr;(conv=>whnf);refine Tri.retK [(8,.box 4102 b22 0)] (bH b22 b17 b20 o n (nodesF G n ps)) [(4102,4102),(4103,4103),(4104,4104)] ⟨Z,rfl,Y⟩ ?_;(conv=>whnf);exact ⟨_,.refl _,b22,b17,b20,rfl,rfl⟩
end Go.Tame.V





namespace Go.Tame.V
open Go Go.Proofs
section
variable (nm:List NV→List (List UInt8)) (v:Int)
end
end Go.Tame.V

namespace Go.Tame.V
open Go Go.Proofs
variable {W0:World}
theorem addr_add (b n:Nat):((⟨b,0,none⟩:Addr).add n)=⟨b,n,none⟩:=by
 cases n with
 | zero=>rfl
 | succ n=>simp [Addr.add]
end Go.Tame.V

namespace Go.Tame.V
open Go Go.Proofs
variable {W0:World}
theorem DCall.fresh {f:FuncId} {ds:List D} {Q:D→Heap→Prop} {H:Heap} {k s:Nat} (h:H s=none) (hc:DCall Tryz.prog W0 f ds Heap.none Q):DCall Tryz.prog W0 f ds (handed H [(k,s)]) Q:=by
 have e:handed H [(k,s)]=Heap.none:=by
  funext j
  simp only [handed,Heap.none]
  cases Nat.beq j k with
  | true=>exact h
  | false=>rfl
 rw [e]; exact hc
theorem DCall.heap {f:FuncId} {ds:List D} {Q:D→Heap→Prop} {H:Heap} {k s:Nat} {o:HObj} (h:H s=some o) (hc:DCall Tryz.prog W0 f ds (look [(k,o)]) Q):DCall Tryz.prog W0 f ds (handed H [(k,s)]) Q:=by
 have e:handed H [(k,s)]=look [(k,o)]:=by
  funext j
  simp only [handed,look]
  cases Nat.beq j k with
  | true=>exact h
  | false=>rfl
 rw [e]; exact hc
theorem iso_d {r:Int} (h:isChar r=true) (e:isoC r=r):0≤r∧r<128∧dB r=true:=by
 unfold isoC at e
 split at e
 ·omega
 split at e
 ·rename_i h1
  simp [isChar] at h
  exact ⟨by omega,h1.1,h1.2⟩
 subst e; decide
theorem iso_bytes:∀ {a:List Int},(∀ r∈a,isChar r=true∧isoC r=r)→runesB a=a.map fun r=>UInt8.ofNat r.toNat
 | [],_=>by simp [runesB]
 | r::l,h=>by
  obtain ⟨h1,h2⟩:=h r List.mem_cons_self;obtain ⟨h3,h4,_⟩:=iso_d h1 h2
  rw [runesB_cons,enc_ascii r h3 h4,iso_bytes fun x hx=>h x (List.mem_cons_of_mem _ hx)]; rfl
theorem iso_isDB {a:List Int} (h:∀ r∈a,isChar r=true∧isoC r=r) {m:Nat} (h1:1≤a.length) (h2:a.length≤m) (hm:m≤64):isDB (runesB a) m=true:=by
 rw [iso_bytes h,isDB,dStr];simp only [List.length_map,List.all_map,Bool.and_eq_true,decide_eq_true_eq,List.all_eq_true,Function.comp];refine ⟨by omega,by omega,by omega,fun r hr=>?_⟩;obtain ⟨h3,h4,h5⟩:=iso_d (h r hr).1 (h r hr).2;rw [dU]
 have:((UInt8.ofNat r.toNat).toNat:Int)=r:=by simp; omega
 rw [this]; exact h5
theorem iso_no {a:List Int} (h:∀ r∈a,isChar r=true∧isoC r=r) {c:UInt8} (hc:dU c=false):c∉runesB a:=by
 rw [iso_bytes h];intro hm;obtain ⟨r,hr,e⟩:=List.mem_map.1 hm;obtain ⟨h3,h4,h5⟩:=iso_d (h r hr).1 (h r hr).2;rw [← e,dU] at hc
 have:((UInt8.ofNat r.toNat).toNat:Int)=r:=by simp; omega
 rw [this,h5] at hc; cases hc
theorem occ_one (s:List UInt8) (c:UInt8) (j:Nat):Lib.occAt s [c] j=(s[j]? == some c):=by
 unfold Lib.occAt
 induction s generalizing j with
 | nil=>simp
 | cons b l ih =>
  cases j with
  | zero=>simp; exact Bool.eq_iff_iff.2 ⟨fun h=>by simp at h ⊢; exact h.symm,fun h=>by simp at h ⊢; exact h.symm⟩
  | succ j=>simpa using ih j
theorem index_dot {A B:List UInt8} (h:(46:UInt8)∉A):Lib.index (A++46::B) [46]=A.length:=by
 refine Lib.index_first (by simp) ?_ fun j hj=>?_
 ·rw [occ_one]; simp
 rw [occ_one,List.getElem?_append_left hj,List.getElem?_eq_getElem hj];simp only [beq_eq_false_iff_ne,ne_eq,Option.some.injEq]
 intro e; exact h (e ▸ List.getElem_mem hj)
theorem index_nodot {A:List UInt8} (h:(46:UInt8)∉A):Lib.index A [46]=-1:=by
 refine Lib.index_none fun j hj=>?_
 rw [occ_one]
 rcases Nat.lt_or_ge j A.length with hl|hl
 ·rw [List.getElem?_eq_getElem hl];simp only [beq_eq_false_iff_ne,ne_eq,Option.some.injEq]
  intro e; exact h (e ▸ List.getElem_mem hl)
 rw [List.getElem?_eq_none hl]; rfl
theorem cut_dot {A B:List UInt8} (h:(46:UInt8)∉A):Lib.cut (A++46::B) [46]=(A,B,true):=by
 rw [Lib.cut,index_dot h,if_pos (by omega)]
 simp
theorem cut_nodot {A:List UInt8} (h:(46:UInt8)∉A):Lib.cut A [46]=(A,[],false):=by
 rw [Lib.cut,index_nodot h,if_neg (by decide)]
theorem byte_mem (c:UInt8):∀ s:List UInt8,0≤Lib.indexByte s c↔c∈s
 | []=>by simp [Lib.indexByte]
 | b::l=>by
  have ih:=byte_mem c l
  have hg:=Lib.indexByte_ge l c
  unfold Lib.indexByte
  split
  ·rename_i h
   have:b=c:=by simpa using h
   subst this; simp
  rename_i h
  have hne:¬ c=b:=fun e=>h (by rw [e]; simp)
  split
  ·rename_i h1
   have h1':Lib.indexByte l c=-1:=by simpa using h1
   rw [h1'] at ih;simp only [List.mem_cons,hne,false_or,← ih]
  rename_i h1
  have h1':¬ Lib.indexByte l c=-1:=by simpa using h1
  simp only [List.mem_cons,hne,false_or,← ih]
  omega
theorem hasDot_iff (s:List UInt8):hasDot s=decide ((46:UInt8)∈s):=by
 rw [hasDot];exact decide_eq_decide.2 (byte_mem 46 s)
structure IsoName (m:List UInt8) (dir:Bool):Prop where
 valid:validI m dir=true
 back:(identI m dir).2=0∧nameI (identI m dir).1 dir=(m,0)
theorem suf_append (a b:List UInt8):Lib.hasSuffix (a++b) b=true:=by
 rw [Lib.hasSuffix,List.isSuffixOf_iff_suffix]; exact ⟨a,rfl⟩
theorem cutSuf_append (a b:List UInt8):cutSuf (a++b) b=(a,true):=by
 rw [cutSuf,if_pos (suf_append a b)]
 simp
theorem isoName_of {m A B:List UInt8} {dir:Bool} (hA:isDB A 8=true) (h46:(46:UInt8)∉A) (h46':(46:UInt8)∉B) (h:(B=[]∧m=A)∨(B≠[]∧dir=false∧isDB B 3=true∧m=A++46::B)):IsoName m dir:=by
 have hv:validI m dir=true:=by
  rcases h with ⟨_,rfl⟩|⟨_,rfl,h3,rfl⟩
  ·rw [validI,cut_nodot h46]; simpa using hA
  rw [validI,cut_dot h46]; simp [hA,h3]
 refine ⟨hv,?_⟩
 cases dir with
 | true =>
  have e:identI m true=(m,0):=by rw [identI,if_pos hv,if_pos rfl]
  refine ⟨by rw [e],?_⟩;rw [e,nameI,if_pos rfl,chkI,e,if_pos ⟨rfl,rfl⟩]
 | false =>
  rcases h with ⟨hB,rfl⟩|⟨hB,_,h3,hm⟩
  ·have hd:hasDot m=false:=by rw [hasDot_iff]; simpa using h46
   have e:identI m false=(m++[46,59,49],0):=by rw [identI,if_pos hv,if_neg (by decide),if_neg (by rw [hd]; decide)]
   refine ⟨by rw [e],?_⟩
   have e1:m++[46,59,49]=(m++[46])++[59,49]:=by simp
   have e2:Lib.trimSuffix (m++[46]) [46]=m:=by rw [Lib.trimSuffix,if_pos (suf_append _ _)]; simp
   have e3:cutSuf (m++[46,59,49]) [59,49]=(m++[46],true):=by rw [e1]; exact cutSuf_append _ _
   rw [e,nameI,if_neg (by decide),e3,if_pos rfl,e2,chkI,e,if_pos ⟨rfl,rfl⟩]
  have hd:hasDot m=true:=by rw [hasDot_iff,hm]; simp
  have e:identI m false=(m++[59,49],0):=by rw [identI,if_pos hv,if_neg (by decide),if_pos hd]
  refine ⟨by rw [e],?_⟩
  have e3:=cutSuf_append m [59,49]
  have e2:Lib.trimSuffix m [46]=m:=by
   rw [Lib.trimSuffix,if_neg];intro hs;rw [Lib.hasSuffix,List.isSuffixOf_iff_suffix] at hs;obtain ⟨x,hx⟩:=hs
   have h1:m.getLast? = some 46:=by rw [← hx]; simp
   rw [hm,List.getLast?_append,List.getLast?_cons] at h1;obtain ⟨y,hy⟩:=List.exists_mem_of_ne_nil _ hB
   cases hl:B.getLast? with
   | none=>rw [List.getLast?_eq_none_iff] at hl; exact hB hl
   | some z =>
    rw [hl] at h1
    simp at h1
    exact h46' (h1 ▸ List.mem_of_getLast? hl)
  rw [e,nameI,if_neg (by decide),e3,if_pos rfl,e2,chkI,e,if_pos ⟨rfl,rfl⟩]
theorem pick_numS {v:Int} (hv:v=0∨v=1) (U:List (List UInt8)) (k:NV) (hU:U.length≤64):∃ j,j<100∧pickG v U k=numS v (wantS v k.name (k.kind==0)).1 (wantS v k.name (k.kind==0)).2 j:=by
 exact ⟨freshK v U (wantS v k.name (k.kind==0)).1 (wantS v k.name (k.kind==0)).2,(fresh_ok v U _ _ hU).1,by rw [pickG,if_pos hv]; rfl⟩
end Go.Tame.V

namespace Go.Tame.V
open Go Go.Proofs
structure DirV where
 path:List UInt8
 id:List UInt8
 level:Int
 parent:Int
 above:Int
 reloc:Bool
 deriving DecidableEq
instance:Inhabited DirV:=⟨⟨[],[],0,0,0,false⟩⟩
structure EntV where
 path:List UInt8
 id:List UInt8
 inn:Int
 dir:Int
 hid:Bool
 att:Bool
 mov:Bool
 deriving DecidableEq
instance:Inhabited EntV:=⟨⟨[],[],0,0,false,false,false⟩⟩
def encDir (d:DirV):D:=.agg [.str d.path,.str d.id,Iv d.level,Iv d.parent,Iv d.above,.bool d.reloc]
def encEnt (e:EntV):D:=.agg [.str e.path,.str e.id,Iv e.inn,Iv e.dir,.bool e.hid,.bool e.att,.bool e.mov]
structure RXS where
 n:NV
 path:List UInt8
 id:List UInt8
 file:List UInt8
 iso:Bool
 rock:Bool
 lv:Int
 si:Nat
 ab:Nat
 fi:Nat
 di:Nat
 lev:Int
 mv:Bool
 mno:Nat
instance:Inhabited RXS:=⟨⟨default,[],[],[],false,false,0,0,0,0,0,0,false,0⟩⟩
def RXS.isDir (s:RXS):Bool:=s.n.kind==0
structure Cn where
 ns:Nat
 nf:Nat
 nm:Nat
def Cn.add (c:Cn) (s:RXS):Cn:=⟨c.ns+1,if s.isDir then c.nf+1 else c.nf,if s.mv then c.nm+1 else c.nm⟩
def Cn.addL (c:Cn) (l:List RXS):Cn:=l.foldl Cn.add c
theorem Cn.addL_nil (c:Cn):c.addL []=c:=rfl
theorem Cn.addL_cons (c:Cn) (s:RXS) (l:List RXS):c.addL (s::l)=(c.add s).addL l:=rfl
theorem Cn.addL_append (c:Cn) (a b:List RXS):c.addL (a++b)=(c.addL a).addL b:=by simp [Cn.addL]
def child (x:RXS) (k:NV) (m:List UInt8) (c:Cn):RXS :=
 { n:=k,path:=below x.path k.name (x.lv+1),id:=(identI m (k.kind==0)).1,file:=(identI m false).1,iso:=x.iso&&shown 0 k (x.lv+1),rock:=x.rock&&shown 2 k (x.lv+1),lv:=x.lv+1,si:=c.ns,ab:=x.si,fi:=x.di,di:=c.nf,lev:=if k.kind==0 then (if x.lev+1=9 then 3 else x.lev+1) else 0,mv:=k.kind==0&&x.lev+1==9,mno:=c.nm+1 }
def RXS.any (s:RXS):Bool:=s.iso||s.rock
mutual
def spT:NV→RXS→Cn→List RXS
 | .mk _ _ _ _ _ _ _ _ _ _ ks _,x,c=>spL ks (namesG 0 ks) x c
def spL:List NV→List (List UInt8)→RXS→Cn→List RXS
 | k::r,m::ms,x,c=>if (child x k m c).any then child x k m c::(spT k (child x k m c) (c.add (child x k m c))++spL r ms x ((c.add (child x k m c)).addL (spT k (child x k m c) (c.add (child x k m c))))) else spL r ms x c
 | _,_,_,_=>[]
end
theorem spT_eq (n:NV) (x:RXS) (c:Cn):spT n x c=spL n.kids (namesG 0 n.kids) x c:=by cases n; simp only [spT]
def rootX (rr:Bool) (n:NV):RXS:=⟨n,[],[],[],true,rr,1,0,0,0,0,1,false,0⟩
def spots (rr:Bool) (n:NV):List RXS:=rootX rr n::spT n (rootX rr n) ⟨1,1,0⟩
def rrN (k:Nat):List UInt8:=if k=0 then [82,82,95,77,79,86,69,68] else [82,82,95,77,79,86]++Lib.decDigits k
theorem rrN_inj:∀ j,j<100→∀ k,k<100→rrN j=rrN k→j=k:=by decide +kernel
def rrK (U:List (List UInt8)):Nat:=((List.range 100).find? fun k=>decide (rrN k∉U)).getD 0
theorem rr_ok {U:List (List UInt8)} (hu:U.length≤64):rrK U<100∧rrN (rrK U)∉U∧∀ j,j<rrK U→rrN j∈U:=by
 unfold rrK
 cases h:(List.range 100).find? fun k=>decide (rrN k∉U) with
 | none =>
  exfalso
  rw [List.find?_eq_none] at h
  have hn:((List.range 100).map rrN).Nodup:=by
   rw [List.nodup_iff_pairwise_ne,List.pairwise_map];refine List.Pairwise.imp_of_mem (R:=(·≠·)) ?_ (List.nodup_iff_pairwise_ne.1 List.nodup_range);intro a b ha hb hab he;simp only [List.mem_range] at ha hb;exact hab (rrN_inj a ha b hb he)
  have hsub:(List.range 100).map rrN ⊆ U:=by
   intro x hx;obtain ⟨i,hi,rfl⟩:=List.mem_map.1 hx
   have:=h i hi
   simpa using this
  have:=hn.length_le_of_subset hsub
  simp at this; omega
 | some k =>
  obtain ⟨h1,h2,h3⟩:=List.find?_range_eq_some.1 h;simp only [Option.getD_some];exact ⟨by simpa using h2,by simpa using h1,fun j hj=>by simpa using h3 j hj⟩
def ixS (s i:Nat):Nat:=if i=0 then 0 else i+s
def RXS.dirV (s:Nat) (x:RXS):DirV:=⟨x.path,if x.mv then 68::Lib.decDigits x.mno else x.id,x.lev,if x.mv then 1 else (ixS s x.fi:Nat),(ixS s x.fi:Nat),x.mv⟩
def RXS.entV (s:Nat) (x:RXS):EntV:=⟨x.path,if x.mv then x.file else x.id,(ixS s x.fi:Nat),if x.isDir&&!x.mv then (ixS s x.di:Nat) else -1,!x.iso,x.rock,x.mv⟩
def RXS.movV (s:Nat) (x:RXS):EntV:=⟨x.path,68::Lib.decDigits x.mno,1,(ixS s x.di:Nat),true,true,false⟩
def rootDir:DirV:=⟨[],[0],1,0,0,false⟩
def dirsX (l:List RXS):List RXS:=l.filter RXS.isDir
def movX (l:List RXS):List RXS:=l.filter RXS.mv
def shiftX (l:List RXS):Nat:=if (movX l).length=0 then 0 else 1
def dirsP (rn:List UInt8) (l:List RXS):List DirV:=rootDir::((if shiftX l=0 then [] else [⟨[47],rn,2,0,0,false⟩])++(dirsX l).map (RXS.dirV (shiftX l)))
def recsAt (s:Nat) (l:List RXS) (i:Nat):List EntV:=(l.filter fun x=>x.fi==i).map (RXS.entV s)
def entsP (rn:List UInt8) (l:List RXS):List EntV :=
 (if shiftX l=0 then [] else [⟨[47],rn,0,1,true,false,false⟩])++recsAt (shiftX l) l 0++(movX l).map (RXS.movV (shiftX l))++((List.range (dirsX l).length).flatMap fun i=>recsAt (shiftX l) l (i+1))
def rplanV (rr:Bool) (n:NV):List DirV×List EntV×Int :=
 if valid n=true then (dirsP (rrN (rrK (namesG 0 n.kids))) (spT n (rootX rr n) ⟨1,1,0⟩),entsP (rrN (rrK (namesG 0 n.kids))) (spT n (rootX rr n) ⟨1,1,0⟩),0) else ([],[],1)
variable {W0:World}
theorem H109 (jol:Bool) (zone:Int) (boot:List BE) (n:NV) (bn be:Nat) (M:List (List UInt8×NV)) (xp xid:List UInt8) (hPl:DFun Tryz.prog W0 158 [encTop n,.bool false] (.tup [.sl .none 6 [(encDir ⟨[],[0],1,0,0,false⟩)],.sl .none 7 [(encEnt ⟨xp,xid,0,-1,false,false,false⟩)],Iv 0])):DCall Tryz.prog W0 109 [(.elm 26 [bD (⟨jol,false,zone,boot⟩:OV) n bn be] 0 0)] (look [(4103,.mp bn (encMap encTop M)),(4104,.mp be (encMap encF []))]) fun d H'=>∃ b32 fa fm fc ka kn kc,d=.box 4110 b32 0∧H'=look [(4103,.mp bn (encMap encTop M)),(4104,.mp be (encMap encF [])),(4110,.box b32 [.bool false,.raw (.slice fa fm fc),Iv 0,Iv 0,Iv 0]),(4111,.row (.slice fa fm fc) [fldD [0] 0 (.slice ka kn kc) 0 0] 5 249),(4112,.row (.slice ka kn kc) [lnD [0] ((aget M []).getD zN).n4 zone 2 0 .nils,lnD [1] ((aget M []).getD zN).n4 zone 2 0 .nils,lnD xid ((aget M xp).getD zN).n4 zone 0 (-1) .nils] 12 234)]:=by
 refine DCall.intro ti_ok Tryz.func109 rfl (by decide +kernel) Tryz.ntmps109 rfl fun Γ=>?_
 apply Sr;(conv=>whnf);intro b1;apply Sq
 refine Tri.bitsG ti_ok mixed (α:=Nat) (fun y1 f=>[(0,.elm 26 [bD (⟨jol,false,zone,boot⟩:OV) n bn be] 0 0),(1,.box 1 b1 0),(18,bif f 0 then .elm 26 [bD (⟨jol,false,zone,boot⟩:OV) n bn be] 0 0 else .any),(19,bif f 1 then .elm 26 [bD (⟨jol,false,zone,boot⟩:OV) n bn be] 0 0 else .any),(20,bif f 2 then .elm 26 [bD (⟨jol,false,zone,boot⟩:OV) n bn be] 0 12 else .any),(21,bif f 3 then encTop n else .any),(22,bif f 4 then .elm 26 [bD (⟨jol,false,zone,boot⟩:OV) n bn be] 0 0 else .any),(23,bif f 5 then .elm 26 [bD (⟨jol,false,zone,boot⟩:OV) n bn be] 0 0 else .any),(24,bif f 6 then .elm 26 [bD (⟨jol,false,zone,boot⟩:OV) n bn be] 0 0 else .any),(25,bif f 7 then .elm 26 [bD (⟨jol,false,zone,boot⟩:OV) n bn be] 0 1 else .any),(26,bif f 8 then .bool false else .any),(27,bif f 9 then .tup [.sl .none 6 [encDir ⟨[],[0],1,0,0,false⟩],.sl .none 7 [encEnt ⟨xp,xid,0,-1,false,false,false⟩],Iv 0] else .any),(17,bif f 10 then .tup [.sl .none 6 [encDir ⟨[],[0],1,0,0,false⟩],.sl .none 7 [encEnt ⟨xp,xid,0,-1,false,false,false⟩],Iv 0] else .any),(28,bif f 11 then .sl .none 6 [encDir ⟨[],[0],1,0,0,false⟩] else .any),(29,bif f 12 then .sl .none 7 [encEnt ⟨xp,xid,0,-1,false,false,false⟩] else .any),(30,bif f 13 then Iv 0 else .any),(3,bif f 14 then .box 3 y1 0 else .any),(4,bif f 16 then .sl .none 7 [encEnt ⟨xp,xid,0,-1,false,false,false⟩] else .any),(5,bif f 17 then Iv 0 else .any)])
  (fun y1 f=>look ([(1,.box b1 [.elm 26 [bD (⟨jol,false,zone,boot⟩:OV) n bn be] 0 0]),(4103,.mp bn (encMap encTop M)),(4104,.mp be (encMap encF []))]++(bif f 15 then [(3,.box y1 [.sl .none 6 [encDir ⟨[],[0],1,0,0,false⟩]])] else (bif f 14 then [(3,.box y1 [.nils])] else [])))) (by decide +kernel) 0 ?_ ?_ ?_ ?_
 ·exact ⟨.refl _,.refl _,.any _,.any _,.any _,.any _,.any _,.any _,.any _,.any _,.any _,.any _,.any _,.any _,.any _,.any _,.any _,.any _,.any _,trivial⟩
 ·exact SubHF.of (hs:=[(1,.box b1 [.elm 26 [bD (⟨jol,false,zone,boot⟩:OV) n bn be] 0 0]),(4103,.mp bn (encMap encTop M)),(4104,.mp be (encMap encF []))]) ⟨rfl,Y⟩
 ·(conv=>whnf);refine ⟨fun y1 f hI=>?_,?_⟩
  ·obtain ⟨f,rfl⟩:= hI.o f 15 0;apply Ti;apply Rl;(conv=>whnf);exact Ex y1
  refine Qo ?_;refine Qo ?_;refine ⟨fun y1 f hI=>?_,?_⟩
  ·obtain ⟨f,rfl⟩:= hI.o f 15 3;apply Ti;refine Lo (bD (⟨jol,false,zone,boot⟩:OV) n bn be) ?_;(conv=>whnf);exact Ex y1
  refine ⟨fun y1 f hI=>?_,?_⟩
  ·obtain ⟨f,rfl⟩:= hI.o f 15 4;apply Ti;apply Rl;(conv=>whnf);exact Ex y1
  refine Qo ?_;refine Qo ?_;refine Qo ?_;refine ⟨fun y1 f hI=>?_,?_⟩
  ·obtain ⟨f,rfl⟩:= hI.o f 15 8;apply Ti;refine Lo (bD (⟨jol,false,zone,boot⟩:OV) n bn be) ?_;(conv=>whnf);exact Ex y1
  refine ⟨fun y1 f hI=>?_,?_⟩
  ·obtain ⟨f,rfl⟩:= hI.o f 15 9;apply Ti;(conv=>whnf);refine ⟨[encTop n,.bool false],_,fun _=>hPl,Z,?_⟩;(conv=>whnf);exact Ex y1
  refine Qo ?_;refine Qo ?_;refine Qo ?_;refine Qo ?_;refine ⟨fun y1 f hI=>?_,?_⟩
  ·obtain ⟨f,rfl⟩:= hI.o f 15 14;apply Ti;(conv=>whnf);intro pnb;(conv=>whnf);exact Ex pnb (SubHF.of (hs:=[(1,.box b1 [.elm 26 [bD (⟨jol,false,zone,boot⟩:OV) n bn be] 0 0]),(4103,.mp bn (encMap encTop M)),(4104,.mp be (encMap encF [])),(3,.box pnb [.nils])]) (by exact ⟨rfl,Y⟩))
  refine ⟨fun y1 f hI=>?_,?_⟩
  ·(conv=>whnf);apply Ti;apply Rl;(conv=>whnf);exact Ex y1 (SubHF.of (hs:=[(1,.box b1 [.elm 26 [bD (⟨jol,false,zone,boot⟩:OV) n bn be] 0 0]),(4103,.mp bn (encMap encTop M)),(4104,.mp be (encMap encF [])),(3,.box y1 [.sl .none 6 [encDir ⟨[],[0],1,0,0,false⟩]])]) (by exact ⟨rfl,Y⟩))
  refine Qo ?_;refine Qo ?_;exact trivial
 intro y1 f hfl;obtain ⟨f,rfl⟩:=onAll f 18 (by exact hfl);clear hfl;(conv=>whnf);refine Tri.forgetG [(1,.box 1 b1 0),(3,.box 3 y1 0),(4,.sl .none 7 [encEnt ⟨xp,xid,0,-1,false,false,false⟩])] (look [(1,.box b1 [.elm 26 [bD (⟨jol,false,zone,boot⟩:OV) n bn be] 0 0]),(4103,.mp bn (encMap encTop M)),(4104,.mp be (encMap encF [])),(3,.box y1 [.sl .none 6 [encDir ⟨[],[0],1,0,0,false⟩]])]) (.same (by exact Z) (SubHF.of (hs:=[(1,.box b1 [.elm 26 [bD (⟨jol,false,zone,boot⟩:OV) n bn be] 0 0]),(4103,.mp bn (encMap encTop M)),(4104,.mp be (encMap encF [])),(3,.box y1 [.sl .none 6 [encDir ⟨[],[0],1,0,0,false⟩]])]) (by exact ⟨rfl,Y⟩))) ?_;apply Sr;(conv=>whnf);intro b32;apply Sq;refine Tri.regionX ti_ok ?_;(conv=>whnf);refine .inr (XOp.mpMake (fun bp=>?_));(conv=>whnf);intro b7;apply Il;apply Rl;apply Sq;apply Sr;apply Rl;apply Bk;refine Tri.rowNil 4111 5 249 ?_;refine Tri.rowNil 4112 12 234 ?_;refine Tri.boxLe 32 (cs':=[.bool false,.raw (.slice none 0 0),Iv 0,Iv 0,Iv 0]) rfl ⟨.refl _,DLe.nilRaw,.refl _,.refl _,.refl _,trivial⟩ ?_
 refine Tri.loopK (α:=Bool×((Option Addr×Nat×Nat)×(Option Addr×Nat×Nat))) (fun x=>[(1,.box 1 b1 0),(3,.box 3 y1 0),(4,.sl .none 7 [encEnt ⟨xp,xid,0,-1,false,false,false⟩]),(6,.box 4110 b32 0),(7,.box 7 b7 0),(34,.sl .none 6 [encDir ⟨[],[0],1,0,0,false⟩]),(35,Iv 1),(36,Iv (bif x.1 then 1 else 0))])
   (fun x=>[(1,.box b1 [.elm 26 [bD (⟨jol,false,zone,boot⟩:OV) n bn be] 0 0]),(3,.box y1 [.sl .none 6 [encDir ⟨[],[0],1,0,0,false⟩]]),(4103,.mp bn (encMap encTop M)),(4104,.mp be (encMap encF [])),(7,.box b7 [.raw (.map (some bp))]),(33,.mp bp (encMap (D.int .i64) (bif x.1 then [([],0)] else []))),(4110,.box b32 [.bool false,.raw (.slice x.2.1.1 x.2.1.2.1 x.2.1.2.2),Iv 0,Iv 0,Iv 0]),(4111,.row (.slice x.2.1.1 x.2.1.2.1 x.2.1.2.2) (bif x.1 then [fldD [0] 0 (.slice x.2.2.1 x.2.2.2.1 x.2.2.2.2) 0 0] else []) 5 249),(4112,.row (.slice x.2.2.1 x.2.2.2.1 x.2.2.2.2) (bif x.1 then [lnD [0] ((aget M []).getD zN).n4 zone 2 0 .nils,lnD [1] ((aget M []).getD zN).n4 zone 2 0 .nils] else []) 12 234)]) (fun x=>bif x.1 then 0 else 1) (false,((none,0,0),(none,0,0))) [(1,1),(3,3),(4103,4103),(4104,4104),(7,7),(33,33),(4110,32),(4111,4111),(4112,4112)]
   ⟨⟨.refl _,.refl _,.refl _,DLe.box,.refl _,.refl _,.refl _,.refl _,trivial⟩,rfl,Y⟩ ?_
 rintro ⟨q,⟨fa,fm,fc⟩,⟨la,lm,lc⟩⟩;dsimp only;apply Sr;apply Sq;refine Cd (decide ((bif q then (1:Int) else 0)<1)) rfl (fun hc=>?_) (fun hc=>?_)
 ·apply Sk
  have hq:q=false:=by cases q<;>simp at hc ⊢
  subst hq;apply Sq;apply Bk;apply Sr;(conv=>whnf);refine Sp ?_;refine Lo ((encDir ⟨[],[0],1,0,0,false⟩)) ?_;(conv=>whnf);intro b9;apply Rl;apply Sq;refine Tri.regionX ti_ok ?_;apply Il;apply Rl;apply Il;apply Rl;(conv=>whnf);refine .inr (XOp.mpSet 33 (kt:=9) (et:=3) (enc:=D.int .i64) (l:=[]) (k:=[]) (v:=0) rfl rfl rfl rfl rfl rfl ?_);apply Sq
  refine Tri.bitsG ti_ok mixed (α:=Nat×Nat) (fun y8 f=>[(1,.box 1 b1 0),(3,.box 3 y1 0),(4,.sl .none 7 [encEnt ⟨xp,xid,0,-1,false,false,false⟩]),(6,.box 4110 b32 0),(7,.box 7 b7 0),(8,Iv 0),(9,.box 9 b9 0),(34,.sl .none 6 [encDir ⟨[],[0],1,0,0,false⟩]),(35,Iv 1),(36,Iv 0),(45,bif f 0 then .elm 26 [bD (⟨jol,false,zone,boot⟩:OV) n bn be] 0 0 else .any),(46,bif f 1 then .elm 26 [bD (⟨jol,false,zone,boot⟩:OV) n bn be] 0 0 else .any),(47,bif f 2 then .elm 26 [bD (⟨jol,false,zone,boot⟩:OV) n bn be] 0 0 else .any),(48,bif f 3 then .elm 26 [bD (⟨jol,false,zone,boot⟩:OV) n bn be] 0 24 else .any),(49,bif f 4 then .raw (.map (some bn)) else .any),(50,bif f 5 then .box 9 b9 0 else .any),(51,bif f 6 then .str [] else .any),(52,bif f 7 then encTop ((aget M []).getD zN) else .any),(53,bif f 8 then Iv 0 else .any),(54,bif f 9 then lnD [0] ((aget M []).getD zN).n4 zone 2 0 .nils else .any),(55,bif f 10 then .elm 26 [bD (⟨jol,false,zone,boot⟩:OV) n bn be] 0 0 else .any),(56,bif f 11 then .elm 26 [bD (⟨jol,false,zone,boot⟩:OV) n bn be] 0 0 else .any),(57,bif f 12 then .elm 26 [bD (⟨jol,false,zone,boot⟩:OV) n bn be] 0 0 else .any),(58,bif f 13 then .elm 26 [bD (⟨jol,false,zone,boot⟩:OV) n bn be] 0 24 else .any),(59,bif f 14 then .raw (.map (some bn)) else .any),(60,bif f 15 then .sl .none 6 [encDir ⟨[],[0],1,0,0,false⟩] else .any),(61,bif f 16 then .box 9 b9 3 else .any),(62,bif f 17 then Iv 0 else .any),(63,bif f 18 then .elm 6 [encDir ⟨[],[0],1,0,0,false⟩] 0 0 else .any),(64,bif f 19 then .elm 6 [encDir ⟨[],[0],1,0,0,false⟩] 0 0 else .any),(65,bif f 20 then .str [] else .any),(66,bif f 21 then encTop ((aget M []).getD zN) else .any),(67,bif f 22 then .box 9 b9 3 else .any),(68,bif f 23 then Iv 0 else .any),(69,bif f 24 then lnD [1] ((aget M []).getD zN).n4 zone 2 0 .nils else .any),(10,bif f 25 then .box 10 y8.1 0 else .any),(11,bif f 26 then .box 11 y8.2 0 else .any)])
   (fun y8 f=>look ([(1,.box b1 [.elm 26 [bD (⟨jol,false,zone,boot⟩:OV) n bn be] 0 0]),(3,.box y1 [.sl .none 6 [encDir ⟨[],[0],1,0,0,false⟩]]),(4103,.mp bn (encMap encTop M)),(4104,.mp be (encMap encF [])),(7,.box b7 [.raw (.map (some bp))]),(33,.mp bp (encMap (D.int .i64) [([],0)])),(4110,.box b32 [.bool false,.raw (.slice fa fm fc),Iv 0,Iv 0,Iv 0]),(4111,.row (.slice fa fm fc) [] 5 249),(4112,.row (.slice la lm lc) [] 12 234),(9,.box b9 [.str [],.str [0],Iv 1,Iv 0,Iv 0,.bool false])]++(bif f 27 then [(10,.box y8.1 (lnD [0] ((aget M []).getD zN).n4 zone 2 0 .nils).cells)] else (bif f 25 then [(10,.box y8.1 [.str [],Iv 0,Iv 0,Iv 0,Iv 0,Iv 0,Iv 0,.str [],Iv 0,.raw .nilFunc,.nils,.nils])] else []))++(bif f 28 then [(11,.box y8.2 (lnD [1] ((aget M []).getD zN).n4 zone 2 0 .nils).cells)] else (bif f 26 then [(11,.box y8.2 [.str [],Iv 0,Iv 0,Iv 0,Iv 0,Iv 0,Iv 0,.str [],Iv 0,.raw .nilFunc,.nils,.nils])] else [])))) (by decide +kernel) (0,0) ?_ ?_ ?_ ?_
  ·exact ⟨.refl _,.refl _,.refl _,.refl _,.refl _,.refl _,.refl _,.refl _,.refl _,.refl _,.any _,.any _,.any _,.any _,.any _,.any _,.any _,.any _,.any _,.any _,.any _,.any _,.any _,.any _,.any _,.any _,.any _,.any _,.any _,.any _,.any _,.any _,.any _,.any _,.any _,.any _,.any _,trivial⟩
  ·exact SubHF.of (hs:=[(1,.box b1 [.elm 26 [bD (⟨jol,false,zone,boot⟩:OV) n bn be] 0 0]),(3,.box y1 [.sl .none 6 [encDir ⟨[],[0],1,0,0,false⟩]]),(4103,.mp bn (encMap encTop M)),(4104,.mp be (encMap encF [])),(7,.box b7 [.raw (.map (some bp))]),(33,.mp bp (encMap (D.int .i64) [([],0)])),(4110,.box b32 [.bool false,.raw (.slice fa fm fc),Iv 0,Iv 0,Iv 0]),(4111,.row (.slice fa fm fc) [] 5 249),(4112,.row (.slice la lm lc) [] 12 234),(9,.box b9 [.str [],.str [0],Iv 1,Iv 0,Iv 0,.bool false])]) ⟨rfl,Y⟩
  ·(conv=>whnf);refine ⟨fun y8 f hI=>?_,?_⟩
   ·obtain ⟨f,rfl⟩:= hI.o f 27 0;obtain ⟨f,rfl⟩:= hI.o f 28 0;apply Ti;apply Rl;(conv=>whnf);exact Ex y8
   refine ⟨fun y8 f hI=>?_,?_⟩
   ·obtain ⟨f,rfl⟩:= hI.o f 27 1;obtain ⟨f,rfl⟩:= hI.o f 28 1;apply Ti;apply Rl;(conv=>whnf);exact Ex y8
   refine Qo ?_;refine Qo ?_;refine ⟨fun y8 f hI=>?_,?_⟩
   ·obtain ⟨f,rfl⟩:= hI.o f 27 4;obtain ⟨f,rfl⟩:= hI.o f 28 4;apply Ti;refine Lo (bD (⟨jol,false,zone,boot⟩:OV) n bn be) ?_;(conv=>whnf);exact Ex y8
   refine Qo ?_;refine ⟨fun y8 f hI=>?_,?_⟩
   ·obtain ⟨f,rfl⟩:= hI.o f 27 6;obtain ⟨f,rfl⟩:= hI.o f 28 6;apply Ti;apply Rl;(conv=>whnf);exact Ex y8
   refine ⟨fun y8 f hI=>?_,?_⟩
   ·obtain ⟨f,rfl⟩:= hI.o f 27 7;obtain ⟨f,rfl⟩:= hI.o f 28 7;apply Tk;refine XOp.mpGet 4103 (kt:=9) (et:=44) (enc:=encTop) (l:=M) (k:=[]) (z:=zN) rfl rfl rfl rfl rfl (fun w=>rfl) (fun w C=>zN_rep w C) ?_;(conv=>whnf);exact Ex y8
   refine Qo ?_;refine ⟨fun y8 f hI=>?_,?_⟩
   ·obtain ⟨f,rfl⟩:= hI.o f 27 9;obtain ⟨f,rfl⟩:= hI.o f 28 9;apply Ti;(conv=>whnf);refine ⟨[.elm 26 [bD (⟨jol,false,zone,boot⟩:OV) n bn be] 0 0,.str [0],encTop ((aget M []).getD zN),Iv 0],_,fun _=>H159 (⟨jol,false,zone,boot⟩:OV) n ((aget M []).getD zN) bn be [0] 0 2 rfl,Z,?_⟩;(conv=>whnf);exact Ex y8
   refine ⟨fun y8 f hI=>?_,?_⟩
   ·obtain ⟨f,rfl⟩:= hI.o f 27 24 (hI.n 24 10);obtain ⟨f,rfl⟩:= hI.o f 28 10;apply Ti;apply Rl;(conv=>whnf);exact Ex y8
   refine ⟨fun y8 f hI=>?_,?_⟩
   ·obtain ⟨f,rfl⟩:= hI.o f 27 24 (hI.n 24 21 (hI.n 21 14 (hI.n 14 13 (hI.n 13 12 (hI.n 12 11)))));obtain ⟨f,rfl⟩:= hI.o f 28 11;apply Ti;apply Rl;(conv=>whnf);exact Ex y8
   refine Qo ?_;refine Qo ?_;refine ⟨fun y8 f hI=>?_,?_⟩
   ·obtain ⟨f,rfl⟩:= hI.o f 27 24 (hI.n 24 21 (hI.n 21 14));obtain ⟨f,rfl⟩:= hI.o f 28 14;apply Ti;refine Lo (bD (⟨jol,false,zone,boot⟩:OV) n bn be) ?_;(conv=>whnf);exact Ex y8
   refine ⟨fun y8 f hI=>?_,?_⟩
   ·obtain ⟨f,rfl⟩:= hI.o f 27 24 (hI.n 24 21 (hI.n 21 20 (hI.n 20 19 (hI.n 19 18 (hI.n 18 15)))));obtain ⟨f,rfl⟩:= hI.o f 28 15;apply Ti;apply Rl;(conv=>whnf);exact Ex y8
   refine Qo ?_;refine ⟨fun y8 f hI=>?_,?_⟩
   ·obtain ⟨f,rfl⟩:= hI.o f 27 24 (hI.n 24 21 (hI.n 21 20 (hI.n 20 19 (hI.n 19 18 (hI.n 18 17)))));obtain ⟨f,rfl⟩:= hI.o f 28 17;apply Ti;apply Rl;(conv=>whnf);exact Ex y8
   refine ⟨fun y8 f hI=>?_,?_⟩
   ·obtain ⟨f,rfl⟩:= hI.o f 27 24 (hI.n 24 21 (hI.n 21 20 (hI.n 20 19 (hI.n 19 18))));obtain ⟨f,rfl⟩:= hI.o f 28 18;apply Ti;(conv=>whnf);refine Sp ?_;(conv=>whnf);exact Ex y8
   refine Qo ?_;refine ⟨fun y8 f hI=>?_,?_⟩
   ·obtain ⟨f,rfl⟩:= hI.o f 27 24 (hI.n 24 21 (hI.n 21 20));obtain ⟨f,rfl⟩:= hI.o f 28 20;apply Ti;refine Lo (encDir ⟨[],[0],1,0,0,false⟩) ?_;(conv=>whnf);exact Ex y8
   refine ⟨fun y8 f hI=>?_,?_⟩
   ·obtain ⟨f,rfl⟩:= hI.o f 27 24 (hI.n 24 21);obtain ⟨f,rfl⟩:= hI.o f 28 21;apply Tk;refine XOp.mpGet 4103 (kt:=9) (et:=44) (enc:=encTop) (l:=M) (k:=[]) (z:=zN) rfl rfl rfl rfl rfl (fun w=>rfl) (fun w C=>zN_rep w C) ?_;(conv=>whnf);exact Ex y8
   refine Qo ?_;refine ⟨fun y8 f hI=>?_,?_⟩
   ·obtain ⟨f,rfl⟩:= hI.o f 27 24 (hI.n 24 23);obtain ⟨f,rfl⟩:= hI.o f 28 23;apply Ti;apply Rl;(conv=>whnf);exact Ex y8
   refine ⟨fun y8 f hI=>?_,?_⟩
   ·obtain ⟨f,rfl⟩:= hI.o f 27 24;obtain ⟨f,rfl⟩:= hI.o f 28 24;apply Ti;(conv=>whnf);refine ⟨[.elm 26 [bD (⟨jol,false,zone,boot⟩:OV) n bn be] 0 0,.str [1],encTop ((aget M []).getD zN),Iv 0],_,fun _=>H159 (⟨jol,false,zone,boot⟩:OV) n ((aget M []).getD zN) bn be [1] 0 2 rfl,Z,?_⟩;(conv=>whnf);exact Ex y8
   refine ⟨fun y8 f hI=>?_,?_⟩
   ·obtain ⟨f,rfl⟩:= hI.o f 27 25;obtain ⟨f,rfl⟩:= hI.o f 28 25
    rcases Bool.eq_false_or_eq_true (f 26) with hk|hk
    ·obtain ⟨f,rfl⟩:=onAt f 26 hk;apply Ti;(conv=>whnf);intro pnb;(conv=>whnf);exact Ex (pnb,y8.2) (SubHF.of (hs:=[(1,.box b1 [.elm 26 [bD (⟨jol,false,zone,boot⟩:OV) n bn be] 0 0]),(3,.box y1 [.sl .none 6 [encDir ⟨[],[0],1,0,0,false⟩]]),(4103,.mp bn (encMap encTop M)),(4104,.mp be (encMap encF [])),(7,.box b7 [.raw (.map (some bp))]),(33,.mp bp (encMap (D.int .i64) [([],0)])),(4110,.box b32 [.bool false,.raw (.slice fa fm fc),Iv 0,Iv 0,Iv 0]),(4111,.row (.slice fa fm fc) [] 5 249),(4112,.row (.slice la lm lc) [] 12 234),(9,.box b9 [.str [],.str [0],Iv 1,Iv 0,Iv 0,.bool false]),(10,.box pnb [.str [],Iv 0,Iv 0,Iv 0,Iv 0,Iv 0,Iv 0,.str [],Iv 0,.raw .nilFunc,.nils,.nils]),(11,.box y8.2 [.str [],Iv 0,Iv 0,Iv 0,Iv 0,Iv 0,Iv 0,.str [],Iv 0,.raw .nilFunc,.nils,.nils])]) (by exact ⟨rfl,Y⟩))
    obtain ⟨f,rfl⟩:=offAt f 26 hk;apply Ti;(conv=>whnf);intro pnb;(conv=>whnf);exact Ex (pnb,y8.2) (SubHF.of (hs:=[(1,.box b1 [.elm 26 [bD (⟨jol,false,zone,boot⟩:OV) n bn be] 0 0]),(3,.box y1 [.sl .none 6 [encDir ⟨[],[0],1,0,0,false⟩]]),(4103,.mp bn (encMap encTop M)),(4104,.mp be (encMap encF [])),(7,.box b7 [.raw (.map (some bp))]),(33,.mp bp (encMap (D.int .i64) [([],0)])),(4110,.box b32 [.bool false,.raw (.slice fa fm fc),Iv 0,Iv 0,Iv 0]),(4111,.row (.slice fa fm fc) [] 5 249),(4112,.row (.slice la lm lc) [] 12 234),(9,.box b9 [.str [],.str [0],Iv 1,Iv 0,Iv 0,.bool false]),(10,.box pnb [.str [],Iv 0,Iv 0,Iv 0,Iv 0,Iv 0,Iv 0,.str [],Iv 0,.raw .nilFunc,.nils,.nils])]) (by exact ⟨rfl,Y⟩))
   refine ⟨fun y8 f hI=>?_,?_⟩
   ·obtain ⟨f,rfl⟩:= hI.o f 27 26;obtain ⟨f,rfl⟩:= hI.o f 28 26
    rcases Bool.eq_false_or_eq_true (f 25) with hk|hk
    ·obtain ⟨f,rfl⟩:=onAt f 25 hk;apply Ti;(conv=>whnf);intro pnb;(conv=>whnf);exact Ex (y8.1,pnb) (SubHF.of (hs:=[(1,.box b1 [.elm 26 [bD (⟨jol,false,zone,boot⟩:OV) n bn be] 0 0]),(3,.box y1 [.sl .none 6 [encDir ⟨[],[0],1,0,0,false⟩]]),(4103,.mp bn (encMap encTop M)),(4104,.mp be (encMap encF [])),(7,.box b7 [.raw (.map (some bp))]),(33,.mp bp (encMap (D.int .i64) [([],0)])),(4110,.box b32 [.bool false,.raw (.slice fa fm fc),Iv 0,Iv 0,Iv 0]),(4111,.row (.slice fa fm fc) [] 5 249),(4112,.row (.slice la lm lc) [] 12 234),(9,.box b9 [.str [],.str [0],Iv 1,Iv 0,Iv 0,.bool false]),(10,.box y8.1 [.str [],Iv 0,Iv 0,Iv 0,Iv 0,Iv 0,Iv 0,.str [],Iv 0,.raw .nilFunc,.nils,.nils]),(11,.box pnb [.str [],Iv 0,Iv 0,Iv 0,Iv 0,Iv 0,Iv 0,.str [],Iv 0,.raw .nilFunc,.nils,.nils])]) (by exact ⟨rfl,Y⟩))
    obtain ⟨f,rfl⟩:=offAt f 25 hk;apply Ti;(conv=>whnf);intro pnb;(conv=>whnf);exact Ex (y8.1,pnb) (SubHF.of (hs:=[(1,.box b1 [.elm 26 [bD (⟨jol,false,zone,boot⟩:OV) n bn be] 0 0]),(3,.box y1 [.sl .none 6 [encDir ⟨[],[0],1,0,0,false⟩]]),(4103,.mp bn (encMap encTop M)),(4104,.mp be (encMap encF [])),(7,.box b7 [.raw (.map (some bp))]),(33,.mp bp (encMap (D.int .i64) [([],0)])),(4110,.box b32 [.bool false,.raw (.slice fa fm fc),Iv 0,Iv 0,Iv 0]),(4111,.row (.slice fa fm fc) [] 5 249),(4112,.row (.slice la lm lc) [] 12 234),(9,.box b9 [.str [],.str [0],Iv 1,Iv 0,Iv 0,.bool false]),(11,.box pnb [.str [],Iv 0,Iv 0,Iv 0,Iv 0,Iv 0,Iv 0,.str [],Iv 0,.raw .nilFunc,.nils,.nils])]) (by exact ⟨rfl,Y⟩))
   refine ⟨fun y8 f hI=>?_,?_⟩
   ·obtain ⟨f,rfl⟩:= hI.o f 28 27;apply Ti;apply Rl;(conv=>whnf);exact Ex y8 (SubHF.of (hs:=[(1,.box b1 [.elm 26 [bD (⟨jol,false,zone,boot⟩:OV) n bn be] 0 0]),(3,.box y1 [.sl .none 6 [encDir ⟨[],[0],1,0,0,false⟩]]),(4103,.mp bn (encMap encTop M)),(4104,.mp be (encMap encF [])),(7,.box b7 [.raw (.map (some bp))]),(33,.mp bp (encMap (D.int .i64) [([],0)])),(4110,.box b32 [.bool false,.raw (.slice fa fm fc),Iv 0,Iv 0,Iv 0]),(4111,.row (.slice fa fm fc) [] 5 249),(4112,.row (.slice la lm lc) [] 12 234),(9,.box b9 [.str [],.str [0],Iv 1,Iv 0,Iv 0,.bool false]),(10,.box y8.1 (lnD [0] ((aget M []).getD zN).n4 zone 2 0 .nils).cells),(11,.box y8.2 [.str [],Iv 0,Iv 0,Iv 0,Iv 0,Iv 0,Iv 0,.str [],Iv 0,.raw .nilFunc,.nils,.nils])]) (by exact ⟨rfl,Y⟩))
   refine ⟨fun y8 f hI=>?_,?_⟩
   ·(conv=>whnf);apply Ti;apply Rl;(conv=>whnf);exact Ex y8 (SubHF.of (hs:=[(1,.box b1 [.elm 26 [bD (⟨jol,false,zone,boot⟩:OV) n bn be] 0 0]),(3,.box y1 [.sl .none 6 [encDir ⟨[],[0],1,0,0,false⟩]]),(4103,.mp bn (encMap encTop M)),(4104,.mp be (encMap encF [])),(7,.box b7 [.raw (.map (some bp))]),(33,.mp bp (encMap (D.int .i64) [([],0)])),(4110,.box b32 [.bool false,.raw (.slice fa fm fc),Iv 0,Iv 0,Iv 0]),(4111,.row (.slice fa fm fc) [] 5 249),(4112,.row (.slice la lm lc) [] 12 234),(9,.box b9 [.str [],.str [0],Iv 1,Iv 0,Iv 0,.bool false]),(10,.box y8.1 (lnD [0] ((aget M []).getD zN).n4 zone 2 0 .nils).cells),(11,.box y8.2 (lnD [1] ((aget M []).getD zN).n4 zone 2 0 .nils).cells)]) (by exact ⟨rfl,Y⟩))
   exact trivial
  intro y8 f hfl;obtain ⟨f,rfl⟩:=onAll f 29 (by exact hfl);clear hfl;(conv=>whnf);refine Tri.forgetG [(1,.box 1 b1 0),(3,.box 3 y1 0),(4,.sl .none 7 [encEnt ⟨xp,xid,0,-1,false,false,false⟩]),(6,.box 4110 b32 0),(7,.box 7 b7 0),(8,Iv 0),(9,.box 9 b9 0),(34,.sl .none 6 [encDir ⟨[],[0],1,0,0,false⟩]),(35,Iv 1),(36,Iv 0),(10,.box 10 y8.1 0),(11,.box 11 y8.2 0)] (look [(1,.box b1 [.elm 26 [bD (⟨jol,false,zone,boot⟩:OV) n bn be] 0 0]),(3,.box y1 [.sl .none 6 [encDir ⟨[],[0],1,0,0,false⟩]]),(4103,.mp bn (encMap encTop M)),(4104,.mp be (encMap encF [])),(7,.box b7 [.raw (.map (some bp))]),(33,.mp bp (encMap (D.int .i64) [([],0)])),(4110,.box b32 [.bool false,.raw (.slice fa fm fc),Iv 0,Iv 0,Iv 0]),(4111,.row (.slice fa fm fc) [] 5 249),(4112,.row (.slice la lm lc) [] 12 234),(9,.box b9 [.str [],.str [0],Iv 1,Iv 0,Iv 0,.bool false]),(10,.box y8.1 (lnD [0] ((aget M []).getD zN).n4 zone 2 0 .nils).cells),(11,.box y8.2 (lnD [1] ((aget M []).getD zN).n4 zone 2 0 .nils).cells)]) (.same (by exact Z) (SubHF.of (hs:=[(1,.box b1 [.elm 26 [bD (⟨jol,false,zone,boot⟩:OV) n bn be] 0 0]),(3,.box y1 [.sl .none 6 [encDir ⟨[],[0],1,0,0,false⟩]]),(4103,.mp bn (encMap encTop M)),(4104,.mp be (encMap encF [])),(7,.box b7 [.raw (.map (some bp))]),(33,.mp bp (encMap (D.int .i64) [([],0)])),(4110,.box b32 [.bool false,.raw (.slice fa fm fc),Iv 0,Iv 0,Iv 0]),(4111,.row (.slice fa fm fc) [] 5 249),(4112,.row (.slice la lm lc) [] 12 234),(9,.box b9 [.str [],.str [0],Iv 1,Iv 0,Iv 0,.bool false]),(10,.box y8.1 (lnD [0] ((aget M []).getD zN).n4 zone 2 0 .nils).cells),(11,.box y8.2 (lnD [1] ((aget M []).getD zN).n4 zone 2 0 .nils).cells)]) (by exact ⟨rfl,Y⟩))) ?_
  (conv=>whnf);refine Tri.joinK (α:=Unit) (fun _=>[(1,.box 1 b1 0),(3,.box 3 y1 0),(4,.sl .none 7 [encEnt ⟨xp,xid,0,-1,false,false,false⟩]),(6,.box 4110 b32 0),(7,.box 7 b7 0),(8,Iv 0),(9,.box 9 b9 0),(34,.sl .none 6 [encDir ⟨[],[0],1,0,0,false⟩]),(35,Iv 1),(36,Iv 0),(10,.box 10 y8.1 0),(11,.box 11 y8.2 0)]) (fun _=>[(1,.box b1 [.elm 26 [bD (⟨jol,false,zone,boot⟩:OV) n bn be] 0 0]),(3,.box y1 [.sl .none 6 [encDir ⟨[],[0],1,0,0,false⟩]]),(4103,.mp bn (encMap encTop M)),(4104,.mp be (encMap encF [])),(7,.box b7 [.raw (.map (some bp))]),(33,.mp bp (encMap (D.int .i64) [([],0)])),(4110,.box b32 [.bool false,.raw (.slice fa fm fc),Iv 0,Iv 0,Iv 0]),(4111,.row (.slice fa fm fc) [] 5 249),(4112,.row (.slice la lm lc) [] 12 234),(9,.box b9 [.str [],.str [0],Iv 1,Iv 0,Iv 0,.bool false]),(10,.box y8.1 (lnD [0] ((aget M []).getD zN).n4 zone 2 0 .nils).cells),(11,.box y8.2 (lnD [1] ((aget M []).getD zN).n4 zone 2 0 .nils).cells)]) ?_ ?_
  ·apply Sr;apply Rl;apply Hh;apply Hh;apply Hh;apply Hh;(conv=>whnf);refine ⟨bD (⟨jol,false,zone,boot⟩:OV) n bn be,fun h=>rfl,?_⟩;refine Pk ?_;refine Cd false rfl (fun hc=>?_) (fun hc=>?_)
   ·cases hc
   apply Sk;(conv=>whnf);exact ⟨(),[(1,1),(3,3),(4103,4103),(4104,4104),(7,7),(33,33),(4110,4110),(4111,4111),(4112,4112),(9,9),(10,10),(11,11)],Z,rfl,Y⟩
  rintro ⟨⟩;refine Tri.joinK (α:=Unit) (fun _=>[(1,.box 1 b1 0),(3,.box 3 y1 0),(4,.sl .none 7 [encEnt ⟨xp,xid,0,-1,false,false,false⟩]),(6,.box 4110 b32 0),(7,.box 7 b7 0),(8,Iv 0),(9,.box 9 b9 0),(34,.sl .none 6 [encDir ⟨[],[0],1,0,0,false⟩]),(35,Iv 1),(36,Iv 0),(10,.box 10 y8.1 0),(11,.box 11 y8.2 0)]) (fun _=>[(1,.box b1 [.elm 26 [bD (⟨jol,false,zone,boot⟩:OV) n bn be] 0 0]),(3,.box y1 [.sl .none 6 [encDir ⟨[],[0],1,0,0,false⟩]]),(4103,.mp bn (encMap encTop M)),(4104,.mp be (encMap encF [])),(7,.box b7 [.raw (.map (some bp))]),(33,.mp bp (encMap (D.int .i64) [([],0)])),(4110,.box b32 [.bool false,.raw (.slice fa fm fc),Iv 0,Iv 0,Iv 0]),(4111,.row (.slice fa fm fc) [] 5 249),(4112,.row (.slice la lm lc) [] 12 234),(9,.box b9 [.str [],.str [0],Iv 1,Iv 0,Iv 0,.bool false]),(10,.box y8.1 (lnD [0] ((aget M []).getD zN).n4 zone 2 0 .nils).cells),(11,.box y8.2 (lnD [1] ((aget M []).getD zN).n4 zone 2 0 .nils).cells)]) ?_ ?_
  ·apply Sr;apply Rl;refine Cd false rfl (fun hc=>?_) (fun hc=>?_)
   ·cases hc
   apply Sk;(conv=>whnf);exact ⟨(),[(1,1),(3,3),(4103,4103),(4104,4104),(7,7),(33,33),(4110,4110),(4111,4111),(4112,4112),(9,9),(10,10),(11,11)],Z,rfl,Y⟩
  rintro ⟨⟩
  refine Tri.bitsG ti_ok mixed (α:=Nat×(Option Addr×Nat×Nat)) (fun z f=>[(1,.box 1 b1 0),(3,.box 3 y1 0),(4,.sl .none 7 [encEnt ⟨xp,xid,0,-1,false,false,false⟩]),(6,.box 4110 b32 0),(7,.box 7 b7 0),(8,Iv 0),(9,.box 9 b9 0),(34,.sl .none 6 [encDir ⟨[],[0],1,0,0,false⟩]),(35,Iv 1),(36,Iv 0),(10,.box 10 y8.1 0),(11,.box 11 y8.2 0),(85,bif f 0 then .box 4110 b32 0 else .any),(86,bif f 1 then .box 4110 b32 0 else .any),(87,bif f 2 then .box 4110 b32 0 else .any),(88,bif f 3 then .box 4110 b32 1 else .any),(89,bif f 4 then .raw (.slice fa fm fc) else .any),(90,bif f 5 then .box 9 b9 1 else .any),(91,bif f 6 then .str [0] else .any),(92,bif f 7 then .box 9 b9 3 else .any),(93,bif f 8 then Iv 0 else .any),(94,bif f 9 then lnD [0] ((aget M []).getD zN).n4 zone 2 0 .nils else .any),(95,bif f 10 then lnD [1] ((aget M []).getD zN).n4 zone 2 0 .nils else .any),(96,bif f 11 then .raw (.slice (some ⟨z.1,0,none⟩) 2 2) else .any),(97,bif f 12 then .agg [.str [0],Iv 0,.raw (.slice (some ⟨z.1,0,none⟩) 2 2),Iv 0,Iv 0] else .any),(98,bif f 13 then .sl .full 5 [.agg [.str [0],Iv 0,.raw (.slice (some ⟨z.1,0,none⟩) 2 2),Iv 0,Iv 0]] else .any),(99,bif f 14 then .raw (.slice z.2.1 z.2.2.1 z.2.2.2) else .any),(100,bif f 15 then .box 4110 b32 0 else .any),(101,bif f 16 then .box 4110 b32 1 else .any)])
   (fun z f=>look ([(1,.box b1 [.elm 26 [bD (⟨jol,false,zone,boot⟩:OV) n bn be] 0 0]),(3,.box y1 [.sl .none 6 [encDir ⟨[],[0],1,0,0,false⟩]]),(4103,.mp bn (encMap encTop M)),(4104,.mp be (encMap encF [])),(7,.box b7 [.raw (.map (some bp))]),(33,.mp bp (encMap (D.int .i64) [([],0)])),(4110,.box b32 (bif f 17 then [.bool false,.raw (.slice z.2.1 z.2.2.1 z.2.2.2),Iv 0,Iv 0,Iv 0] else [.bool false,.raw (.slice fa fm fc),Iv 0,Iv 0,Iv 0])),(4112,.row (.slice la lm lc) [] 12 234),(9,.box b9 [.str [],.str [0],Iv 1,Iv 0,Iv 0,.bool false]),(10,.box y8.1 (lnD [0] ((aget M []).getD zN).n4 zone 2 0 .nils).cells),(11,.box y8.2 (lnD [1] ((aget M []).getD zN).n4 zone 2 0 .nils).cells)]++(bif f 14 then [] else [(4111,.row (.slice fa fm fc) [] 5 249)])++(bif f 11 then [(4113,.row (.slice (some ⟨z.1,0,none⟩) 2 2) [lnD [0] ((aget M []).getD zN).n4 zone 2 0 .nils,lnD [1] ((aget M []).getD zN).n4 zone 2 0 .nils] 12 234)] else [])++(bif f 14 then [(99,.row (.slice z.2.1 z.2.2.1 z.2.2.2) [.agg [.str [0],Iv 0,.raw (.slice (some ⟨z.1,0,none⟩) 2 2),Iv 0,Iv 0]] 5 249)] else []))) (by decide +kernel) (0,(none,0,0)) ?_ ?_ ?_ ?_
  ·exact ⟨.refl _,.refl _,.refl _,.refl _,.refl _,.refl _,.refl _,.refl _,.refl _,.refl _,.refl _,.refl _,.any _,.any _,.any _,.any _,.any _,.any _,.any _,.any _,.any _,.any _,.any _,.any _,.any _,.any _,.any _,.any _,.any _,trivial⟩
  ·exact SubHF.of (hs:=[(1,.box b1 [.elm 26 [bD (⟨jol,false,zone,boot⟩:OV) n bn be] 0 0]),(3,.box y1 [.sl .none 6 [encDir ⟨[],[0],1,0,0,false⟩]]),(4103,.mp bn (encMap encTop M)),(4104,.mp be (encMap encF [])),(7,.box b7 [.raw (.map (some bp))]),(33,.mp bp (encMap (D.int .i64) [([],0)])),(4110,.box b32 [.bool false,.raw (.slice fa fm fc),Iv 0,Iv 0,Iv 0]),(4112,.row (.slice la lm lc) [] 12 234),(9,.box b9 [.str [],.str [0],Iv 1,Iv 0,Iv 0,.bool false]),(10,.box y8.1 (lnD [0] ((aget M []).getD zN).n4 zone 2 0 .nils).cells),(11,.box y8.2 (lnD [1] ((aget M []).getD zN).n4 zone 2 0 .nils).cells),(4111,.row (.slice fa fm fc) [] 5 249)]) ⟨rfl,Y⟩
  ·(conv=>whnf);refine Qo ?_;refine Qo ?_;refine Qo ?_;refine Qo ?_;refine ⟨fun z f hI=>?_,?_⟩
   ·obtain ⟨f,rfl⟩:= hI.o f 14 4;obtain ⟨f,rfl⟩:= hI.o f 17 4;apply Ti;apply Rl;(conv=>whnf);exact Ex z
   refine Qo ?_;refine ⟨fun z f hI=>?_,?_⟩
   ·obtain ⟨f,rfl⟩:= hI.o f 14 13 (hI.n 13 12 (hI.n 12 6));obtain ⟨f,rfl⟩:= hI.o f 17 6;apply Ti;apply Rl;(conv=>whnf);exact Ex z
   refine Qo ?_;refine ⟨fun z f hI=>?_,?_⟩
   ·obtain ⟨f,rfl⟩:= hI.o f 14 13 (hI.n 13 12 (hI.n 12 8));obtain ⟨f,rfl⟩:= hI.o f 17 8;apply Ti;apply Rl;(conv=>whnf);exact Ex z
   refine ⟨fun z f hI=>?_,?_⟩
   ·obtain ⟨f,rfl⟩:= hI.o f 11 9;obtain ⟨f,rfl⟩:= hI.o f 14 13 (hI.n 13 12 (hI.n 12 11 (hI.n 11 9)));obtain ⟨f,rfl⟩:= hI.o f 17 9;apply Ti;apply Rl;(conv=>whnf);exact Ex z
   refine ⟨fun z f hI=>?_,?_⟩
   ·obtain ⟨f,rfl⟩:= hI.o f 11 10;obtain ⟨f,rfl⟩:= hI.o f 14 13 (hI.n 13 12 (hI.n 12 11 (hI.n 11 10)));obtain ⟨f,rfl⟩:= hI.o f 17 10;apply Ti;apply Rl;(conv=>whnf);exact Ex z
   refine ⟨fun z f hI=>?_,?_⟩
   ·obtain ⟨f,rfl⟩:= hI.o f 14 13 (hI.n 13 12 (hI.n 12 11));obtain ⟨f,rfl⟩:= hI.o f 17 11;obtain ⟨f,rfl⟩:= hI.o f 12 11;obtain ⟨f,rfl⟩:= hI.o f 13 12 (hI.n 12 11);apply Tk;refine XOp.buildRowS (q:=4113) ti_ok rfl rfl rfl rfl rfl rfl ?_;(conv=>whnf);refine ⟨rfl,trivial,fun pnb=>?_⟩;(conv=>whnf);exact Ex (pnb,z.2) (SubHF.of (hs:=[(1,.box b1 [.elm 26 [bD (⟨jol,false,zone,boot⟩:OV) n bn be] 0 0]),(3,.box y1 [.sl .none 6 [encDir ⟨[],[0],1,0,0,false⟩]]),(4103,.mp bn (encMap encTop M)),(4104,.mp be (encMap encF [])),(7,.box b7 [.raw (.map (some bp))]),(33,.mp bp (encMap (D.int .i64) [([],0)])),(4110,.box b32 [.bool false,.raw (.slice fa fm fc),Iv 0,Iv 0,Iv 0]),(4112,.row (.slice la lm lc) [] 12 234),(9,.box b9 [.str [],.str [0],Iv 1,Iv 0,Iv 0,.bool false]),(10,.box y8.1 (lnD [0] ((aget M []).getD zN).n4 zone 2 0 .nils).cells),(11,.box y8.2 (lnD [1] ((aget M []).getD zN).n4 zone 2 0 .nils).cells),(4111,.row (.slice fa fm fc) [] 5 249),(4113,.row (.slice (some ⟨pnb,0,none⟩) 2 2) [lnD [0] ((aget M []).getD zN).n4 zone 2 0 .nils,lnD [1] ((aget M []).getD zN).n4 zone 2 0 .nils] 12 234)]) (by exact ⟨rfl,Y⟩))
   refine Qo ?_;refine ⟨fun z f hI=>?_,?_⟩
   ·obtain ⟨f,rfl⟩:= hI.o f 14 13;obtain ⟨f,rfl⟩:= hI.o f 17 13;apply Ti;(conv=>whnf);refine ⟨trivial,?_⟩;(conv=>whnf);exact Ex z
   refine ⟨fun z f hI=>?_,?_⟩
   ·obtain ⟨f,rfl⟩:= hI.o f 17 14
    rcases Bool.eq_false_or_eq_true (f 11) with hk|hk
    ·obtain ⟨f,rfl⟩:=onAt f 11 hk;apply Tk
     refine XOp.rowAppend ti_ok 4111 rfl rfl rfl (fun h=>by cases h) rfl rfl rfl (Nat.zero_lt_one) (by simp) (by simp) fun aa nn cap=>?_
     (conv=>whnf);exact Ex (z.1,(aa,nn,cap)) (SubHF.of (hs:=[(1,.box b1 [.elm 26 [bD (⟨jol,false,zone,boot⟩:OV) n bn be] 0 0]),(3,.box y1 [.sl .none 6 [encDir ⟨[],[0],1,0,0,false⟩]]),(4103,.mp bn (encMap encTop M)),(4104,.mp be (encMap encF [])),(7,.box b7 [.raw (.map (some bp))]),(33,.mp bp (encMap (D.int .i64) [([],0)])),(4110,.box b32 [.bool false,.raw (.slice fa fm fc),Iv 0,Iv 0,Iv 0]),(4112,.row (.slice la lm lc) [] 12 234),(9,.box b9 [.str [],.str [0],Iv 1,Iv 0,Iv 0,.bool false]),(10,.box y8.1 (lnD [0] ((aget M []).getD zN).n4 zone 2 0 .nils).cells),(11,.box y8.2 (lnD [1] ((aget M []).getD zN).n4 zone 2 0 .nils).cells),(4113,.row (.slice (some ⟨z.1,0,none⟩) 2 2) [lnD [0] ((aget M []).getD zN).n4 zone 2 0 .nils,lnD [1] ((aget M []).getD zN).n4 zone 2 0 .nils] 12 234),(99,.row (.slice (aa,nn,cap).1 (aa,nn,cap).2.1 (aa,nn,cap).2.2) [.agg [.str [0],Iv 0,.raw (.slice (some ⟨z.1,0,none⟩) 2 2),Iv 0,Iv 0]] 5 249)]) (by exact ⟨rfl,Y⟩))
    obtain ⟨f,rfl⟩:=offAt f 11 hk;apply Tk
    refine XOp.rowAppend ti_ok 4111 rfl rfl rfl (fun h=>by cases h) rfl rfl rfl (Nat.zero_lt_one) (by simp) (by simp) fun aa nn cap=>?_
    (conv=>whnf);exact Ex (z.1,(aa,nn,cap)) (SubHF.of (hs:=[(1,.box b1 [.elm 26 [bD (⟨jol,false,zone,boot⟩:OV) n bn be] 0 0]),(3,.box y1 [.sl .none 6 [encDir ⟨[],[0],1,0,0,false⟩]]),(4103,.mp bn (encMap encTop M)),(4104,.mp be (encMap encF [])),(7,.box b7 [.raw (.map (some bp))]),(33,.mp bp (encMap (D.int .i64) [([],0)])),(4110,.box b32 [.bool false,.raw (.slice fa fm fc),Iv 0,Iv 0,Iv 0]),(4112,.row (.slice la lm lc) [] 12 234),(9,.box b9 [.str [],.str [0],Iv 1,Iv 0,Iv 0,.bool false]),(10,.box y8.1 (lnD [0] ((aget M []).getD zN).n4 zone 2 0 .nils).cells),(11,.box y8.2 (lnD [1] ((aget M []).getD zN).n4 zone 2 0 .nils).cells),(99,.row (.slice (aa,nn,cap).1 (aa,nn,cap).2.1 (aa,nn,cap).2.2) [.agg [.str [0],Iv 0,.raw (.slice (some ⟨z.1,0,none⟩) 2 2),Iv 0,Iv 0]] 5 249)]) (by exact ⟨rfl,Y⟩))
   refine Qo ?_;refine Qo ?_;refine ⟨fun z f hI=>?_,?_⟩
   ·(conv=>whnf);apply Ti;apply Rl;(conv=>whnf);exact Ex z (SubHF.of (hs:=[(1,.box b1 [.elm 26 [bD (⟨jol,false,zone,boot⟩:OV) n bn be] 0 0]),(3,.box y1 [.sl .none 6 [encDir ⟨[],[0],1,0,0,false⟩]]),(4103,.mp bn (encMap encTop M)),(4104,.mp be (encMap encF [])),(7,.box b7 [.raw (.map (some bp))]),(33,.mp bp (encMap (D.int .i64) [([],0)])),(4110,.box b32 [.bool false,.raw (.slice z.2.1 z.2.2.1 z.2.2.2),Iv 0,Iv 0,Iv 0]),(4112,.row (.slice la lm lc) [] 12 234),(9,.box b9 [.str [],.str [0],Iv 1,Iv 0,Iv 0,.bool false]),(10,.box y8.1 (lnD [0] ((aget M []).getD zN).n4 zone 2 0 .nils).cells),(11,.box y8.2 (lnD [1] ((aget M []).getD zN).n4 zone 2 0 .nils).cells),(4113,.row (.slice (some ⟨z.1,0,none⟩) 2 2) [lnD [0] ((aget M []).getD zN).n4 zone 2 0 .nils,lnD [1] ((aget M []).getD zN).n4 zone 2 0 .nils] 12 234),(99,.row (.slice z.2.1 z.2.2.1 z.2.2.2) [.agg [.str [0],Iv 0,.raw (.slice (some ⟨z.1,0,none⟩) 2 2),Iv 0,Iv 0]] 5 249)]) (by exact ⟨rfl,Y⟩))
   exact trivial
  intro z f hfl;obtain ⟨f,rfl⟩:=onAll f 18 (by exact hfl);clear hfl;(conv=>whnf);refine Tri.forgetG [(1,.box 1 b1 0),(3,.box 3 y1 0),(4,.sl .none 7 [encEnt ⟨xp,xid,0,-1,false,false,false⟩]),(6,.box 4110 b32 0),(7,.box 7 b7 0),(34,.sl .none 6 [encDir ⟨[],[0],1,0,0,false⟩]),(35,Iv 1),(36,Iv 0)] (look [(1,.box b1 [.elm 26 [bD (⟨jol,false,zone,boot⟩:OV) n bn be] 0 0]),(3,.box y1 [.sl .none 6 [encDir ⟨[],[0],1,0,0,false⟩]]),(4103,.mp bn (encMap encTop M)),(4104,.mp be (encMap encF [])),(7,.box b7 [.raw (.map (some bp))]),(33,.mp bp (encMap (D.int .i64) [([],0)])),(4110,.box b32 [.bool false,.raw (.slice z.2.1 z.2.2.1 z.2.2.2),Iv 0,Iv 0,Iv 0]),(4112,.row (.slice la lm lc) [] 12 234),(9,.box b9 [.str [],.str [0],Iv 1,Iv 0,Iv 0,.bool false]),(10,.box y8.1 (lnD [0] ((aget M []).getD zN).n4 zone 2 0 .nils).cells),(11,.box y8.2 (lnD [1] ((aget M []).getD zN).n4 zone 2 0 .nils).cells),(4113,.row (.slice (some ⟨z.1,0,none⟩) 2 2) [lnD [0] ((aget M []).getD zN).n4 zone 2 0 .nils,lnD [1] ((aget M []).getD zN).n4 zone 2 0 .nils] 12 234),(99,.row (.slice z.2.1 z.2.2.1 z.2.2.2) [.agg [.str [0],Iv 0,.raw (.slice (some ⟨z.1,0,none⟩) 2 2),Iv 0,Iv 0]] 5 249)]) (.same (by exact Z) (SubHF.of (hs:=[(1,.box b1 [.elm 26 [bD (⟨jol,false,zone,boot⟩:OV) n bn be] 0 0]),(3,.box y1 [.sl .none 6 [encDir ⟨[],[0],1,0,0,false⟩]]),(4103,.mp bn (encMap encTop M)),(4104,.mp be (encMap encF [])),(7,.box b7 [.raw (.map (some bp))]),(33,.mp bp (encMap (D.int .i64) [([],0)])),(4110,.box b32 [.bool false,.raw (.slice z.2.1 z.2.2.1 z.2.2.2),Iv 0,Iv 0,Iv 0]),(4112,.row (.slice la lm lc) [] 12 234),(9,.box b9 [.str [],.str [0],Iv 1,Iv 0,Iv 0,.bool false]),(10,.box y8.1 (lnD [0] ((aget M []).getD zN).n4 zone 2 0 .nils).cells),(11,.box y8.2 (lnD [1] ((aget M []).getD zN).n4 zone 2 0 .nils).cells),(4113,.row (.slice (some ⟨z.1,0,none⟩) 2 2) [lnD [0] ((aget M []).getD zN).n4 zone 2 0 .nils,lnD [1] ((aget M []).getD zN).n4 zone 2 0 .nils] 12 234),(99,.row (.slice z.2.1 z.2.2.1 z.2.2.2) [.agg [.str [0],Iv 0,.raw (.slice (some ⟨z.1,0,none⟩) 2 2),Iv 0,Iv 0]] 5 249)]) (by exact ⟨rfl,Y⟩))) ?_
  apply Rg;refine Ir ?_;(conv=>whnf);exact ⟨(true,(z.2,(some ⟨z.1,0,none⟩,2,2))),[(1,1),(3,3),(4103,4103),(4104,4104),(7,7),(33,33),(4110,4110),(4111,99),(4112,4113)],Nat.zero_lt_one,Z,rfl,Y⟩
 have hq:q=true:=by cases q<;>simp at hc ⊢
 subst hq;refine Tri.exit ?_;apply Sq;apply Sr;apply Bk
 refine Tri.loopK (α:=Bool×(Option Addr×Nat×Nat)) (fun x=>[(1,.box 1 b1 0),(6,.box 4110 b32 0),(103,.sl .none 7 [encEnt ⟨xp,xid,0,-1,false,false,false⟩]),(104,Iv 1),(105,Iv (bif x.1 then 1 else 0))])
   (fun x=>[(1,.box b1 [.elm 26 [bD (⟨jol,false,zone,boot⟩:OV) n bn be] 0 0]),(4103,.mp bn (encMap encTop M)),(4104,.mp be (encMap encF [])),(4110,.box b32 [.bool false,.raw (.slice fa fm fc),Iv 0,Iv 0,Iv 0]),(4111,.row (.slice fa fm fc) [fldD [0] 0 (.slice x.2.1 x.2.2.1 x.2.2.2) 0 0] 5 249),(4112,.row (.slice x.2.1 x.2.2.1 x.2.2.2) (bif x.1 then [lnD [0] ((aget M []).getD zN).n4 zone 2 0 .nils,lnD [1] ((aget M []).getD zN).n4 zone 2 0 .nils,lnD xid ((aget M xp).getD zN).n4 zone 0 (-1) .nils] else [lnD [0] ((aget M []).getD zN).n4 zone 2 0 .nils,lnD [1] ((aget M []).getD zN).n4 zone 2 0 .nils]) 12 234)]) (fun x=>bif x.1 then 0 else 1) (false,(la,lm,lc)) [(1,1),(4103,4103),(4104,4104),(4110,4110),(4111,4111),(4112,4112)]
   ⟨Z,rfl,Y⟩ ?_
 rintro ⟨q,ka,kn,kc⟩;dsimp only;apply Sr;apply Sq;refine Cd (decide ((bif q then (1:Int) else 0)<1)) rfl (fun hc=>?_) (fun hc=>?_)
 ·apply Sk
  have hq:q=false:=by cases q<;>simp at hc ⊢
  subst hq;apply Sq;apply Bk;apply Sr;(conv=>whnf);refine Sp ?_;refine Lo ((encEnt ⟨xp,xid,0,-1,false,false,false⟩)) ?_;(conv=>whnf);intro b13;apply Rl;apply Sq
  refine Tri.bitsG ti_ok mixed (α:=Nat) (fun y18 f=>[(1,.box 1 b1 0),(6,.box 4110 b32 0),(13,.box 13 b13 0),(103,.sl .none 7 [encEnt ⟨xp,xid,0,-1,false,false,false⟩]),(104,Iv 1),(105,Iv 0),(109,bif f 0 then .elm 26 [bD (⟨jol,false,zone,boot⟩:OV) n bn be] 0 0 else .any),(110,bif f 1 then .elm 26 [bD (⟨jol,false,zone,boot⟩:OV) n bn be] 0 0 else .any),(111,bif f 2 then .elm 26 [bD (⟨jol,false,zone,boot⟩:OV) n bn be] 0 24 else .any),(112,bif f 3 then .raw (.map (some bn)) else .any),(113,bif f 4 then .box 13 b13 0 else .any),(114,bif f 5 then .str xp else .any),(115,bif f 6 then encTop ((aget M xp).getD zN) else .any),(14,bif f 7 then .box 14 y18 0 else .any)])
   (fun y18 f=>look ([(1,.box b1 [.elm 26 [bD (⟨jol,false,zone,boot⟩:OV) n bn be] 0 0]),(4103,.mp bn (encMap encTop M)),(4104,.mp be (encMap encF [])),(4110,.box b32 [.bool false,.raw (.slice fa fm fc),Iv 0,Iv 0,Iv 0]),(4111,.row (.slice fa fm fc) [fldD [0] 0 (.slice ka kn kc) 0 0] 5 249),(4112,.row (.slice ka kn kc) [lnD [0] ((aget M []).getD zN).n4 zone 2 0 .nils,lnD [1] ((aget M []).getD zN).n4 zone 2 0 .nils] 12 234),(13,.box b13 [.str xp,.str xid,Iv 0,Iv (-1),.bool false,.bool false,.bool false])]++(bif f 8 then [(14,.box y18 (encTop ((aget M xp).getD zN)).cells)] else (bif f 7 then [(14,.box y18 [.str [],Iv 0,.str [],.str [],Iv 0,Iv 0,Iv 0,Iv 0,Iv 0,Iv 0,.nils,.nils])] else [])))) (by decide +kernel) 0 ?_ ?_ ?_ ?_
  ·exact ⟨.refl _,.refl _,.refl _,.refl _,.refl _,.refl _,.any _,.any _,.any _,.any _,.any _,.any _,.any _,.any _,trivial⟩
  ·exact SubHF.of (hs:=[(1,.box b1 [.elm 26 [bD (⟨jol,false,zone,boot⟩:OV) n bn be] 0 0]),(4103,.mp bn (encMap encTop M)),(4104,.mp be (encMap encF [])),(4110,.box b32 [.bool false,.raw (.slice fa fm fc),Iv 0,Iv 0,Iv 0]),(4111,.row (.slice fa fm fc) [fldD [0] 0 (.slice ka kn kc) 0 0] 5 249),(4112,.row (.slice ka kn kc) [lnD [0] ((aget M []).getD zN).n4 zone 2 0 .nils,lnD [1] ((aget M []).getD zN).n4 zone 2 0 .nils] 12 234),(13,.box b13 [.str xp,.str xid,Iv 0,Iv (-1),.bool false,.bool false,.bool false])]) ⟨rfl,Y⟩
  ·(conv=>whnf);refine ⟨fun y18 f hI=>?_,?_⟩
   ·obtain ⟨f,rfl⟩:= hI.o f 8 0;apply Ti;apply Rl;(conv=>whnf);exact Ex y18
   refine Qo ?_;refine Qo ?_;refine ⟨fun y18 f hI=>?_,?_⟩
   ·obtain ⟨f,rfl⟩:= hI.o f 8 3;apply Ti;refine Lo (bD (⟨jol,false,zone,boot⟩:OV) n bn be) ?_;(conv=>whnf);exact Ex y18
   refine Qo ?_;refine ⟨fun y18 f hI=>?_,?_⟩
   ·obtain ⟨f,rfl⟩:= hI.o f 8 5;apply Ti;apply Rl;(conv=>whnf);exact Ex y18
   refine ⟨fun y18 f hI=>?_,?_⟩
   ·obtain ⟨f,rfl⟩:= hI.o f 8 6;apply Tk;refine XOp.mpGet 4103 (kt:=9) (et:=44) (enc:=encTop) (l:=M) (k:=xp) (z:=zN) rfl rfl rfl rfl rfl (fun w=>rfl) (fun w C=>zN_rep w C) ?_;(conv=>whnf);exact Ex y18
   refine ⟨fun y18 f hI=>?_,?_⟩
   ·obtain ⟨f,rfl⟩:= hI.o f 8 7;apply Ti;(conv=>whnf);intro pnb;(conv=>whnf);exact Ex pnb (SubHF.of (hs:=[(1,.box b1 [.elm 26 [bD (⟨jol,false,zone,boot⟩:OV) n bn be] 0 0]),(4103,.mp bn (encMap encTop M)),(4104,.mp be (encMap encF [])),(4110,.box b32 [.bool false,.raw (.slice fa fm fc),Iv 0,Iv 0,Iv 0]),(4111,.row (.slice fa fm fc) [fldD [0] 0 (.slice ka kn kc) 0 0] 5 249),(4112,.row (.slice ka kn kc) [lnD [0] ((aget M []).getD zN).n4 zone 2 0 .nils,lnD [1] ((aget M []).getD zN).n4 zone 2 0 .nils] 12 234),(13,.box b13 [.str xp,.str xid,Iv 0,Iv (-1),.bool false,.bool false,.bool false]),(14,.box pnb [.str [],Iv 0,.str [],.str [],Iv 0,Iv 0,Iv 0,Iv 0,Iv 0,Iv 0,.nils,.nils])]) (by exact ⟨rfl,Y⟩))
   refine ⟨fun y18 f hI=>?_,?_⟩
   ·(conv=>whnf);apply Ti;apply Rl;(conv=>whnf);exact Ex y18 (SubHF.of (hs:=[(1,.box b1 [.elm 26 [bD (⟨jol,false,zone,boot⟩:OV) n bn be] 0 0]),(4103,.mp bn (encMap encTop M)),(4104,.mp be (encMap encF [])),(4110,.box b32 [.bool false,.raw (.slice fa fm fc),Iv 0,Iv 0,Iv 0]),(4111,.row (.slice fa fm fc) [fldD [0] 0 (.slice ka kn kc) 0 0] 5 249),(4112,.row (.slice ka kn kc) [lnD [0] ((aget M []).getD zN).n4 zone 2 0 .nils,lnD [1] ((aget M []).getD zN).n4 zone 2 0 .nils] 12 234),(13,.box b13 [.str xp,.str xid,Iv 0,Iv (-1),.bool false,.bool false,.bool false]),(14,.box y18 (encTop ((aget M xp).getD zN)).cells)]) (by exact ⟨rfl,Y⟩))
   exact trivial
  intro y18 f hfl;obtain ⟨f,rfl⟩:=onAll f 9 (by exact hfl);clear hfl;(conv=>whnf);refine Tri.forgetG [(1,.box 1 b1 0),(6,.box 4110 b32 0),(13,.box 13 b13 0),(103,.sl .none 7 [encEnt ⟨xp,xid,0,-1,false,false,false⟩]),(104,Iv 1),(105,Iv 0),(14,.box 14 y18 0)] (look [(1,.box b1 [.elm 26 [bD (⟨jol,false,zone,boot⟩:OV) n bn be] 0 0]),(4103,.mp bn (encMap encTop M)),(4104,.mp be (encMap encF [])),(4110,.box b32 [.bool false,.raw (.slice fa fm fc),Iv 0,Iv 0,Iv 0]),(4111,.row (.slice fa fm fc) [fldD [0] 0 (.slice ka kn kc) 0 0] 5 249),(4112,.row (.slice ka kn kc) [lnD [0] ((aget M []).getD zN).n4 zone 2 0 .nils,lnD [1] ((aget M []).getD zN).n4 zone 2 0 .nils] 12 234),(13,.box b13 [.str xp,.str xid,Iv 0,Iv (-1),.bool false,.bool false,.bool false]),(14,.box y18 (encTop ((aget M xp).getD zN)).cells)]) (.same (by exact Z) (SubHF.of (hs:=[(1,.box b1 [.elm 26 [bD (⟨jol,false,zone,boot⟩:OV) n bn be] 0 0]),(4103,.mp bn (encMap encTop M)),(4104,.mp be (encMap encF [])),(4110,.box b32 [.bool false,.raw (.slice fa fm fc),Iv 0,Iv 0,Iv 0]),(4111,.row (.slice fa fm fc) [fldD [0] 0 (.slice ka kn kc) 0 0] 5 249),(4112,.row (.slice ka kn kc) [lnD [0] ((aget M []).getD zN).n4 zone 2 0 .nils,lnD [1] ((aget M []).getD zN).n4 zone 2 0 .nils] 12 234),(13,.box b13 [.str xp,.str xid,Iv 0,Iv (-1),.bool false,.bool false,.bool false]),(14,.box y18 (encTop ((aget M xp).getD zN)).cells)]) (by exact ⟨rfl,Y⟩))) ?_;apply Sr;apply Rl;apply Rl;apply Rl;apply Rl;(conv=>whnf);refine ⟨[(.elm 26 [bD (⟨jol,false,zone,boot⟩:OV) n bn be] 0 0),.str xid,encTop ((aget M xp).getD zN),Iv (-1)],_,fun _=>H159 (⟨jol,false,zone,boot⟩:OV) n ((aget M xp).getD zN) bn be xid (-1) 0 rfl,Z,?_⟩
  (conv=>whnf);intro b15;apply Rl;(conv=>whnf);refine Tri.joinK (α:=Unit) (fun _=>[(1,.box 1 b1 0),(6,.box 4110 b32 0),(13,.box 13 b13 0),(103,.sl .none 7 [encEnt ⟨xp,xid,0,-1,false,false,false⟩]),(104,Iv 1),(105,Iv 0),(14,.box 14 y18 0),(15,.box 15 b15 0)]) (fun _=>[(1,.box b1 [.elm 26 [bD (⟨jol,false,zone,boot⟩:OV) n bn be] 0 0]),(4103,.mp bn (encMap encTop M)),(4104,.mp be (encMap encF [])),(4110,.box b32 [.bool false,.raw (.slice fa fm fc),Iv 0,Iv 0,Iv 0]),(4111,.row (.slice fa fm fc) [fldD [0] 0 (.slice ka kn kc) 0 0] 5 249),(4112,.row (.slice ka kn kc) [lnD [0] ((aget M []).getD zN).n4 zone 2 0 .nils,lnD [1] ((aget M []).getD zN).n4 zone 2 0 .nils] 12 234),(13,.box b13 [.str xp,.str xid,Iv 0,Iv (-1),.bool false,.bool false,.bool false]),(14,.box y18 (encTop ((aget M xp).getD zN)).cells),(15,.box b15 (lnD xid ((aget M xp).getD zN).n4 zone 0 (-1) .nils).cells)]) ?_ ?_
  ·apply Sr;apply Rl;apply Hh;apply Rl;apply Hh;refine Pk ?_;refine Cd true rfl (fun hc=>?_) (fun hc=>?_)
   ·refine Tri.regionX ti_ok ?_;apply Il;apply Rl;apply Il;apply Rl;apply Il;apply Rl;apply Il;apply Rl;(conv=>whnf);refine .inr (XOp.call rfl [(.elm 26 [bD (⟨jol,false,zone,boot⟩:OV) n bn be] 0 0),(lnD xid ((aget M xp).getD zN).n4 zone 0 (-1) .nils),encTop ((aget M xp).getD zN),.str xp] [(4104,4104)] (DCall.heapL (by exact ⟨rfl,Y⟩) (H166 (⟨jol,false,zone,boot⟩:OV) n ((aget M xp).getD zN) bn be xid xp ((aget M xp).getD zN).n4 zone 0 (-1))) rfl Z ?_);rintro d H' ⟨rfl,b5,cs5,rfl⟩;refine ⟨_,.refl _,?_⟩;apply Il;apply Rl;(conv=>whnf);exact ⟨(),[(1,1),(4103,4103),(4104,4104),(4110,4110),(4111,4111),(4112,4112),(13,13),(14,14),(15,15)],Z,rfl,Y⟩
   cases hc
  rintro ⟨⟩;refine Tri.joinK (α:=Unit) (fun _=>[(1,.box 1 b1 0),(6,.box 4110 b32 0),(13,.box 13 b13 0),(103,.sl .none 7 [encEnt ⟨xp,xid,0,-1,false,false,false⟩]),(104,Iv 1),(105,Iv 0),(14,.box 14 y18 0),(15,.box 15 b15 0)]) (fun _=>[(1,.box b1 [.elm 26 [bD (⟨jol,false,zone,boot⟩:OV) n bn be] 0 0]),(4103,.mp bn (encMap encTop M)),(4104,.mp be (encMap encF [])),(4110,.box b32 [.bool false,.raw (.slice fa fm fc),Iv 0,Iv 0,Iv 0]),(4111,.row (.slice fa fm fc) [fldD [0] 0 (.slice ka kn kc) 0 0] 5 249),(4112,.row (.slice ka kn kc) [lnD [0] ((aget M []).getD zN).n4 zone 2 0 .nils,lnD [1] ((aget M []).getD zN).n4 zone 2 0 .nils] 12 234),(13,.box b13 [.str xp,.str xid,Iv 0,Iv (-1),.bool false,.bool false,.bool false]),(14,.box y18 (encTop ((aget M xp).getD zN)).cells),(15,.box b15 (lnD xid ((aget M xp).getD zN).n4 zone 0 (-1) .nils).cells)]) ?_ ?_
  ·apply Sr;apply Rl;refine Cd false rfl (fun hc=>?_) (fun hc=>?_)
   ·cases hc
   apply Sk;(conv=>whnf);exact ⟨(),[(1,1),(4103,4103),(4104,4104),(4110,4110),(4111,4111),(4112,4112),(13,13),(14,14),(15,15)],Z,rfl,Y⟩
  rintro ⟨⟩;refine Tri.joinK (α:=Unit) (fun _=>[(1,.box 1 b1 0),(6,.box 4110 b32 0),(13,.box 13 b13 0),(103,.sl .none 7 [encEnt ⟨xp,xid,0,-1,false,false,false⟩]),(104,Iv 1),(105,Iv 0),(14,.box 14 y18 0),(15,.box 15 b15 0)]) (fun _=>[(1,.box b1 [.elm 26 [bD (⟨jol,false,zone,boot⟩:OV) n bn be] 0 0]),(4103,.mp bn (encMap encTop M)),(4104,.mp be (encMap encF [])),(4110,.box b32 [.bool false,.raw (.slice fa fm fc),Iv 0,Iv 0,Iv 0]),(4111,.row (.slice fa fm fc) [fldD [0] 0 (.slice ka kn kc) 0 0] 5 249),(4112,.row (.slice ka kn kc) [lnD [0] ((aget M []).getD zN).n4 zone 2 0 .nils,lnD [1] ((aget M []).getD zN).n4 zone 2 0 .nils] 12 234),(13,.box b13 [.str xp,.str xid,Iv 0,Iv (-1),.bool false,.bool false,.bool false]),(14,.box y18 (encTop ((aget M xp).getD zN)).cells),(15,.box b15 (lnD xid ((aget M xp).getD zN).n4 zone 0 (-1) .nils).cells)]) ?_ ?_
  ·apply Sr;apply Rl;refine Cd false rfl (fun hc=>?_) (fun hc=>?_)
   ·cases hc
   apply Sk;(conv=>whnf);exact ⟨(),[(1,1),(4103,4103),(4104,4104),(4110,4110),(4111,4111),(4112,4112),(13,13),(14,14),(15,15)],Z,rfl,Y⟩
  rintro ⟨⟩;apply Sq
  refine Tri.bitsG ti_ok mixed (α:=Unit) (fun _ f=>[(1,.box 1 b1 0),(6,.box 4110 b32 0),(13,.box 13 b13 0),(103,.sl .none 7 [encEnt ⟨xp,xid,0,-1,false,false,false⟩]),(104,Iv 1),(105,Iv 0),(14,.box 14 y18 0),(15,.box 15 b15 0),(149,bif f 0 then .box 4110 b32 0 else .any),(150,bif f 1 then .box 4110 b32 0 else .any),(151,bif f 2 then .box 4110 b32 1 else .any),(152,bif f 3 then .raw (.slice fa fm fc) else .any),(153,bif f 4 then .box 13 b13 2 else .any),(154,bif f 5 then Iv 0 else .any),(155,bif f 6 then .raw (rowPtr (.slice fa fm fc) 0) else .any),(16,bif f 7 then .raw (rowPtr (.slice fa fm fc) 0) else .any)])
   (fun _ f=>look [(1,.box b1 [.elm 26 [bD (⟨jol,false,zone,boot⟩:OV) n bn be] 0 0]),(4103,.mp bn (encMap encTop M)),(4104,.mp be (encMap encF [])),(4110,.box b32 [.bool false,.raw (.slice fa fm fc),Iv 0,Iv 0,Iv 0]),(4111,.row (.slice fa fm fc) [fldD [0] 0 (.slice ka kn kc) 0 0] 5 249),(4112,.row (.slice ka kn kc) [lnD [0] ((aget M []).getD zN).n4 zone 2 0 .nils,lnD [1] ((aget M []).getD zN).n4 zone 2 0 .nils] 12 234),(13,.box b13 [.str xp,.str xid,Iv 0,Iv (-1),.bool false,.bool false,.bool false]),(14,.box y18 (encTop ((aget M xp).getD zN)).cells),(15,.box b15 (lnD xid ((aget M xp).getD zN).n4 zone 0 (-1) .nils).cells)]) (by decide +kernel) () ?_ ?_ ?_ ?_
  ·exact ⟨.refl _,.refl _,.refl _,.refl _,.refl _,.refl _,.refl _,.refl _,.any _,.any _,.any _,.any _,.any _,.any _,.any _,.any _,trivial⟩
  ·exact SubHF.of (hs:=[(1,.box b1 [.elm 26 [bD (⟨jol,false,zone,boot⟩:OV) n bn be] 0 0]),(4103,.mp bn (encMap encTop M)),(4104,.mp be (encMap encF [])),(4110,.box b32 [.bool false,.raw (.slice fa fm fc),Iv 0,Iv 0,Iv 0]),(4111,.row (.slice fa fm fc) [fldD [0] 0 (.slice ka kn kc) 0 0] 5 249),(4112,.row (.slice ka kn kc) [lnD [0] ((aget M []).getD zN).n4 zone 2 0 .nils,lnD [1] ((aget M []).getD zN).n4 zone 2 0 .nils] 12 234),(13,.box b13 [.str xp,.str xid,Iv 0,Iv (-1),.bool false,.bool false,.bool false]),(14,.box y18 (encTop ((aget M xp).getD zN)).cells),(15,.box b15 (lnD xid ((aget M xp).getD zN).n4 zone 0 (-1) .nils).cells)]) ⟨rfl,Y⟩
  ·(conv=>whnf);refine Qo ?_;refine Qo ?_;refine Qo ?_;refine ⟨fun _ f hI=>?_,?_⟩
   ·(conv=>whnf);apply Ti;apply Rl;(conv=>whnf);exact Ex ()
   refine Qo ?_;refine ⟨fun _ f hI=>?_,?_⟩
   ·(conv=>whnf);apply Ti;apply Rl;(conv=>whnf);exact Ex ()
   refine ⟨fun _ f hI=>?_,?_⟩
   ·(conv=>whnf);apply Tk;refine XOp.rowIndex ti_ok 4111 rfl rfl rfl rfl rfl rfl rfl (by simp) (by simp) ?_;(conv=>whnf);exact Ex ()
   refine Qo ?_;exact trivial
  intro _ f hfl;obtain ⟨f,rfl⟩:=onAll f 8 (by exact hfl);clear hfl;(conv=>whnf);refine Tri.forgetG [(1,.box 1 b1 0),(6,.box 4110 b32 0),(13,.box 13 b13 0),(103,.sl .none 7 [encEnt ⟨xp,xid,0,-1,false,false,false⟩]),(104,Iv 1),(105,Iv 0),(14,.box 14 y18 0),(15,.box 15 b15 0),(16,.raw (rowPtr (.slice fa fm fc) 0))] (look [(1,.box b1 [.elm 26 [bD (⟨jol,false,zone,boot⟩:OV) n bn be] 0 0]),(4103,.mp bn (encMap encTop M)),(4104,.mp be (encMap encF [])),(4110,.box b32 [.bool false,.raw (.slice fa fm fc),Iv 0,Iv 0,Iv 0]),(4111,.row (.slice fa fm fc) [fldD [0] 0 (.slice ka kn kc) 0 0] 5 249),(4112,.row (.slice ka kn kc) [lnD [0] ((aget M []).getD zN).n4 zone 2 0 .nils,lnD [1] ((aget M []).getD zN).n4 zone 2 0 .nils] 12 234),(13,.box b13 [.str xp,.str xid,Iv 0,Iv (-1),.bool false,.bool false,.bool false]),(14,.box y18 (encTop ((aget M xp).getD zN)).cells),(15,.box b15 (lnD xid ((aget M xp).getD zN).n4 zone 0 (-1) .nils).cells)]) (.same (by exact Z) (SubHF.of (hs:=[(1,.box b1 [.elm 26 [bD (⟨jol,false,zone,boot⟩:OV) n bn be] 0 0]),(4103,.mp bn (encMap encTop M)),(4104,.mp be (encMap encF [])),(4110,.box b32 [.bool false,.raw (.slice fa fm fc),Iv 0,Iv 0,Iv 0]),(4111,.row (.slice fa fm fc) [fldD [0] 0 (.slice ka kn kc) 0 0] 5 249),(4112,.row (.slice ka kn kc) [lnD [0] ((aget M []).getD zN).n4 zone 2 0 .nils,lnD [1] ((aget M []).getD zN).n4 zone 2 0 .nils] 12 234),(13,.box b13 [.str xp,.str xid,Iv 0,Iv (-1),.bool false,.bool false,.bool false]),(14,.box y18 (encTop ((aget M xp).getD zN)).cells),(15,.box b15 (lnD xid ((aget M xp).getD zN).n4 zone 0 (-1) .nils).cells)]) (by exact ⟨rfl,Y⟩))) ?_
  conv=>whnf
  refine Tri.bitsG ti_ok mixed (α:=(Option Addr×Nat×Nat)) (fun u f=>[(1,.box 1 b1 0),(6,.box 4110 b32 0),(13,.box 13 b13 0),(103,.sl .none 7 [encEnt ⟨xp,xid,0,-1,false,false,false⟩]),(104,Iv 1),(105,Iv 0),(14,.box 14 y18 0),(15,.box 15 b15 0),(16,.raw (rowPtr (.slice fa fm fc) 0)),(156,bif f 0 then .raw (rowPtr (.slice fa fm fc) 0) else .any),(157,bif f 1 then .raw (rowPtr (.slice fa fm fc) 0) else .any),(158,bif f 2 then .raw (rowPtr (.slice fa fm fc) 0) else .any),(159,bif f 3 then .raw (rowPtr (.slice fa fm fc) (0+2)) else .any),(160,bif f 4 then .raw (.slice ka kn kc) else .any),(161,bif f 5 then lnD xid ((aget M xp).getD zN).n4 zone 0 (-1) .nils else .any),(162,bif f 6 then .sl .full 12 [lnD xid ((aget M xp).getD zN).n4 zone 0 (-1) .nils] else .any),(163,bif f 7 then .raw (.slice u.1 u.2.1 u.2.2) else .any),(164,bif f 8 then .raw (rowPtr (.slice fa fm fc) 0) else .any),(165,bif f 9 then .raw (rowPtr (.slice fa fm fc) (0+2)) else .any)])
   (fun u f=>look ([(1,.box b1 [.elm 26 [bD (⟨jol,false,zone,boot⟩:OV) n bn be] 0 0]),(4103,.mp bn (encMap encTop M)),(4104,.mp be (encMap encF [])),(4110,.box b32 [.bool false,.raw (.slice fa fm fc),Iv 0,Iv 0,Iv 0]),(13,.box b13 [.str xp,.str xid,Iv 0,Iv (-1),.bool false,.bool false,.bool false]),(14,.box y18 (encTop ((aget M xp).getD zN)).cells),(15,.box b15 (lnD xid ((aget M xp).getD zN).n4 zone 0 (-1) .nils).cells)]++(bif f 10 then [(4111,.row (.slice fa fm fc) [fldD [0] 0 (.slice u.1 u.2.1 u.2.2) 0 0] 5 249)] else [(4111,.row (.slice fa fm fc) [fldD [0] 0 (.slice ka kn kc) 0 0] 5 249)])++(bif f 7 then [] else [(4112,.row (.slice ka kn kc) [lnD [0] ((aget M []).getD zN).n4 zone 2 0 .nils,lnD [1] ((aget M []).getD zN).n4 zone 2 0 .nils] 12 234)])++(bif f 7 then [(163,.row (.slice u.1 u.2.1 u.2.2) [lnD [0] ((aget M []).getD zN).n4 zone 2 0 .nils,lnD [1] ((aget M []).getD zN).n4 zone 2 0 .nils,lnD xid ((aget M xp).getD zN).n4 zone 0 (-1) .nils] 12 234)] else []))) (by decide +kernel) (none,0,0) ?_ ?_ ?_ ?_
  ·exact ⟨.refl _,.refl _,.refl _,.refl _,.refl _,.refl _,.refl _,.refl _,.refl _,.any _,.any _,.any _,.any _,.any _,.any _,.any _,.any _,.any _,.any _,trivial⟩
  ·exact SubHF.of (hs:=[(1,.box b1 [.elm 26 [bD (⟨jol,false,zone,boot⟩:OV) n bn be] 0 0]),(4103,.mp bn (encMap encTop M)),(4104,.mp be (encMap encF [])),(4110,.box b32 [.bool false,.raw (.slice fa fm fc),Iv 0,Iv 0,Iv 0]),(13,.box b13 [.str xp,.str xid,Iv 0,Iv (-1),.bool false,.bool false,.bool false]),(14,.box y18 (encTop ((aget M xp).getD zN)).cells),(15,.box b15 (lnD xid ((aget M xp).getD zN).n4 zone 0 (-1) .nils).cells),(4111,.row (.slice fa fm fc) [fldD [0] 0 (.slice ka kn kc) 0 0] 5 249),(4112,.row (.slice ka kn kc) [lnD [0] ((aget M []).getD zN).n4 zone 2 0 .nils,lnD [1] ((aget M []).getD zN).n4 zone 2 0 .nils] 12 234)]) ⟨rfl,Y⟩
  ·(conv=>whnf);refine Qo ?_;refine Qo ?_;refine ⟨fun u f hI=>?_,?_⟩
   ·obtain ⟨f,rfl⟩:= hI.o f 7 4 (hI.n 4 3 (hI.n 3 2));obtain ⟨f,rfl⟩:= hI.o f 10 2;apply Tk;refine XOp.rowCheck 4111 (i:=0) rfl rfl (by simp) ?_;(conv=>whnf);exact Ex u
   refine ⟨fun u f hI=>?_,?_⟩
   ·obtain ⟨f,rfl⟩:= hI.o f 7 4 (hI.n 4 3);obtain ⟨f,rfl⟩:= hI.o f 10 3;apply Tk;refine XOp.rowField ti_ok 4111 (i:=0) rfl rfl (by simp) rfl rfl rfl (by decide) ?_;(conv=>whnf);exact Ex u
   refine ⟨fun u f hI=>?_,?_⟩
   ·obtain ⟨f,rfl⟩:= hI.o f 7 4;obtain ⟨f,rfl⟩:= hI.o f 10 4;apply Tk;refine XOp.rowLoadF ti_ok 4111 (i:=0) (j:=2) rfl rfl rfl rfl ?_;(conv=>whnf);exact Ex u
   refine ⟨fun u f hI=>?_,?_⟩
   ·obtain ⟨f,rfl⟩:= hI.o f 7 6 (hI.n 6 5);obtain ⟨f,rfl⟩:= hI.o f 10 5;apply Ti;apply Rl;(conv=>whnf);exact Ex u
   refine ⟨fun u f hI=>?_,?_⟩
   ·obtain ⟨f,rfl⟩:= hI.o f 7 6;obtain ⟨f,rfl⟩:= hI.o f 10 6;apply Ti;(conv=>whnf);refine ⟨trivial,?_⟩;(conv=>whnf);exact Ex u
   refine ⟨fun u f hI=>?_,?_⟩
   ·obtain ⟨f,rfl⟩:= hI.o f 10 7;apply Tk
    refine XOp.rowAppend ti_ok 4112 rfl rfl rfl (fun h=>by cases h) rfl rfl rfl (Nat.zero_lt_one) (by simp) (by simp) fun aa nn cap=>?_
    (conv=>whnf);exact Ex (aa,nn,cap) (SubHF.of (hs:=[(1,.box b1 [.elm 26 [bD (⟨jol,false,zone,boot⟩:OV) n bn be] 0 0]),(4103,.mp bn (encMap encTop M)),(4104,.mp be (encMap encF [])),(4110,.box b32 [.bool false,.raw (.slice fa fm fc),Iv 0,Iv 0,Iv 0]),(13,.box b13 [.str xp,.str xid,Iv 0,Iv (-1),.bool false,.bool false,.bool false]),(14,.box y18 (encTop ((aget M xp).getD zN)).cells),(15,.box b15 (lnD xid ((aget M xp).getD zN).n4 zone 0 (-1) .nils).cells),(4111,.row (.slice fa fm fc) [fldD [0] 0 (.slice ka kn kc) 0 0] 5 249),(163,.row (.slice (aa,nn,cap).1 (aa,nn,cap).2.1 (aa,nn,cap).2.2) [lnD [0] ((aget M []).getD zN).n4 zone 2 0 .nils,lnD [1] ((aget M []).getD zN).n4 zone 2 0 .nils,lnD xid ((aget M xp).getD zN).n4 zone 0 (-1) .nils] 12 234)]) (by exact ⟨rfl,Y⟩))
   refine ⟨fun u f hI=>?_,?_⟩
   ·obtain ⟨f,rfl⟩:= hI.o f 10 9 (hI.n 9 8);apply Tk;refine XOp.rowCheck 4111 (i:=0) rfl rfl (by simp) ?_;(conv=>whnf);exact Ex u
   refine ⟨fun u f hI=>?_,?_⟩
   ·obtain ⟨f,rfl⟩:= hI.o f 10 9;apply Tk;refine XOp.rowField ti_ok 4111 (i:=0) rfl rfl (by simp) rfl rfl rfl (by decide) ?_;(conv=>whnf);exact Ex u
   refine ⟨fun u f hI=>?_,?_⟩
   ·(conv=>whnf);apply Tk;refine XOp.rowStoreF ti_ok 4111 (i:=0) (j:=2) rfl rfl rfl rfl rfl (by decide) rfl ?_;(conv=>whnf);exact Ex u (SubHF.of (hs:=[(1,.box b1 [.elm 26 [bD (⟨jol,false,zone,boot⟩:OV) n bn be] 0 0]),(4103,.mp bn (encMap encTop M)),(4104,.mp be (encMap encF [])),(4110,.box b32 [.bool false,.raw (.slice fa fm fc),Iv 0,Iv 0,Iv 0]),(13,.box b13 [.str xp,.str xid,Iv 0,Iv (-1),.bool false,.bool false,.bool false]),(14,.box y18 (encTop ((aget M xp).getD zN)).cells),(15,.box b15 (lnD xid ((aget M xp).getD zN).n4 zone 0 (-1) .nils).cells),(4111,.row (.slice fa fm fc) [fldD [0] 0 (.slice u.1 u.2.1 u.2.2) 0 0] 5 249),(163,.row (.slice u.1 u.2.1 u.2.2) [lnD [0] ((aget M []).getD zN).n4 zone 2 0 .nils,lnD [1] ((aget M []).getD zN).n4 zone 2 0 .nils,lnD xid ((aget M xp).getD zN).n4 zone 0 (-1) .nils] 12 234)]) (by exact ⟨rfl,Y⟩))
   exact trivial
  intro u f hfl;obtain ⟨f,rfl⟩:=onAll f 11 (by exact hfl);clear hfl;(conv=>whnf);refine Tri.forgetG [(1,.box 1 b1 0),(6,.box 4110 b32 0),(103,.sl .none 7 [encEnt ⟨xp,xid,0,-1,false,false,false⟩]),(104,Iv 1),(105,Iv 0)] (look [(1,.box b1 [.elm 26 [bD (⟨jol,false,zone,boot⟩:OV) n bn be] 0 0]),(4103,.mp bn (encMap encTop M)),(4104,.mp be (encMap encF [])),(4110,.box b32 [.bool false,.raw (.slice fa fm fc),Iv 0,Iv 0,Iv 0]),(13,.box b13 [.str xp,.str xid,Iv 0,Iv (-1),.bool false,.bool false,.bool false]),(14,.box y18 (encTop ((aget M xp).getD zN)).cells),(15,.box b15 (lnD xid ((aget M xp).getD zN).n4 zone 0 (-1) .nils).cells),(4111,.row (.slice fa fm fc) [fldD [0] 0 (.slice u.1 u.2.1 u.2.2) 0 0] 5 249),(163,.row (.slice u.1 u.2.1 u.2.2) [lnD [0] ((aget M []).getD zN).n4 zone 2 0 .nils,lnD [1] ((aget M []).getD zN).n4 zone 2 0 .nils,lnD xid ((aget M xp).getD zN).n4 zone 0 (-1) .nils] 12 234)]) (.same (by exact Z) (SubHF.of (hs:=[(1,.box b1 [.elm 26 [bD (⟨jol,false,zone,boot⟩:OV) n bn be] 0 0]),(4103,.mp bn (encMap encTop M)),(4104,.mp be (encMap encF [])),(4110,.box b32 [.bool false,.raw (.slice fa fm fc),Iv 0,Iv 0,Iv 0]),(13,.box b13 [.str xp,.str xid,Iv 0,Iv (-1),.bool false,.bool false,.bool false]),(14,.box y18 (encTop ((aget M xp).getD zN)).cells),(15,.box b15 (lnD xid ((aget M xp).getD zN).n4 zone 0 (-1) .nils).cells),(4111,.row (.slice fa fm fc) [fldD [0] 0 (.slice u.1 u.2.1 u.2.2) 0 0] 5 249),(163,.row (.slice u.1 u.2.1 u.2.2) [lnD [0] ((aget M []).getD zN).n4 zone 2 0 .nils,lnD [1] ((aget M []).getD zN).n4 zone 2 0 .nils,lnD xid ((aget M xp).getD zN).n4 zone 0 (-1) .nils] 12 234)]) (by exact ⟨rfl,Y⟩))) ?_
  apply Rg;refine Ir ?_;(conv=>whnf);exact ⟨(true,u),[(1,1),(4103,4103),(4104,4104),(4110,4110),(4111,4111),(4112,163)],Nat.zero_lt_one,Z,rfl,Y⟩
 have hq:q=true:=by cases q<;>simp at hc ⊢
 subst hq;refine Tri.exit ?_;apply Sr;(conv=>whnf);refine Tri.retK [(2,.box 4110 b32 0)] [(4103,.mp bn (encMap encTop M)),(4104,.mp be (encMap encF [])),(4110,.box b32 [.bool false,.raw (.slice fa fm fc),Iv 0,Iv 0,Iv 0]),(4111,.row (.slice fa fm fc) [fldD [0] 0 (.slice ka kn kc) 0 0] 5 249),(4112,.row (.slice ka kn kc) [lnD [0] ((aget M []).getD zN).n4 zone 2 0 .nils,lnD [1] ((aget M []).getD zN).n4 zone 2 0 .nils,lnD xid ((aget M xp).getD zN).n4 zone 0 (-1) .nils] 12 234)] [(4103,4103),(4104,4104),(4110,4110),(4111,4111),(4112,4112)] ⟨Z,rfl,Y⟩ ?_;(conv=>whnf);exact ⟨_,.refl _,b32,fa,fm,fc,ka,kn,kc,rfl,rfl⟩
end Go.Tame.V
