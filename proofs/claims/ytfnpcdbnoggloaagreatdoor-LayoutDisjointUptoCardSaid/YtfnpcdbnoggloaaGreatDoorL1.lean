/- Contracts of the program's functions, part 1. No conditions of its own. -/
import Derived.WalkKit
import Derived.Great.FillDense
import Derived.Laws.Tables
import Derived.Laws.IdiomStrings
import Derived.Laws.Cover4
import Derived.Laws.Runes
import Derived.Laws.CopyRow
import Derived.Laws.AppendOwn
import Derived.StillTail
import Derived.Laws.MakeOwn
import Derived.MapFrom
import Derived.Laws.RangeString
import Derived.Laws.BytesString
import Derived.Laws.Cover3
import Derived.ChangeArms
import Derived.ChangeSame
import Derived.WideKeyArgs
import Derived.Carry
import Derived.Lib.SmallJoins
import Derived.Test.YtfnpcdbnoggloaaGreatDoorProg
import Derived.Deep.AppendSrc
import Derived.Deep.Upon
import Derived.Lib.AppendStr
import Derived.Scope
set_option linter.unnecessarySimpa false
set_option linter.unusedSimpArgs false
set_option linter.unusedVariables false
set_option maxRecDepth 100000
set_option maxHeartbeats 16000000
theorem atv{p:Prop}(h:p:=by omega):p:=h
theorem atw{p:Prop}(h:p:=by (simp;omega)):p:=h
theorem atx{p:Prop}(h:p:=by simp):p:=h
theorem aty{p:Prop}(h:p:=by decide):p:=h
theorem atz{p:Prop}(h:p:=by decide +kernel):p:=h
theorem atA{p:Prop}(h:p:=by kernel_rfl):p:=h
theorem atB{p:Prop}(h:p:=by (rw[Int.toNat_natCast];rfl)):p:=h
theorem atC{p:Prop}(h:p:=by (intro h;cases h)):p:=h
theorem atD{p:Prop}(h:p:=by exact λw=>rfl):p:=h
abbrev atE:=List UInt8
abbrev atG:=@if_neg
abbrev atH:=@if_pos
abbrev atI:=@congrArg
abbrev atJ:=@List.getElem?_eq_getElem
abbrev atK:=@List.getElem_mem
abbrev atL:=@List.length_map
abbrev atM:=@Bool.and_eq_true
abbrev atN:=@List.take_succ_eq_append_getElem
abbrev atO:=@List.length_append
abbrev atP:=@Nat.le_refl
abbrev atQ:=@List.length_cons
abbrev atS:=@List.mem_cons_self
abbrev atT:=@List.getElem?_eq_none
abbrev atU:=@List.mem_cons_of_mem
abbrev atW:=@List.take_length
abbrev atX:=@Int.tdiv_eq_ediv_of_nonneg
abbrev atY:=@List.eq_nil_of_length_eq_zero
abbrev atZ:=@List.getElem?_append_left
abbrev at0:=@of_decide_eq_false
abbrev at1:=@List.mem_append
abbrev at2:=@List.mem_of_getElem?
abbrev at3:=@List.mem_map
abbrev at4:=@List.length_take
abbrev at5:=@Nat.lt_or_ge
abbrev at6:=@List.mem_cons
abbrev at7:=@Nat.zero_le
abbrev aua:=@beq_true
abbrev aub:=@List.mem_iff_getElem?
abbrev auc:=@of_decide_eq_true
abbrev aud:=@List.getElem?_map
abbrev aue:=@List.take_of_length_le
abbrev auf:=@List.length_nil
abbrev aug:=@decide_eq_false
abbrev auh:=@List.mem_iff_getElem
abbrev aui:=@List.getElem?_eq_some_iff
abbrev auj:=@List.append_assoc
abbrev auk:=@Nat.le_of_ble_eq_true
abbrev aul:=@List.getElem?_append_right
abbrev aum:=@List.map_cons
abbrev aun:=@List.length_filter_le
abbrev auo:=@List.map_append
abbrev aup:=@decide_eq_true_eq
abbrev auq:=@Int.toNat_natCast
abbrev aur:=@beq_eq_false_iff_ne
abbrev aus:=@Option.some.injEq
abbrev aut:=@Nat.zero_add
abbrev auu:=@Int.le_refl
abbrev auv:=@List.mem_singleton
abbrev auw:=@Nat.lt_succ_self
abbrev auy:=@Nat.lt_of_lt_of_le
abbrev auz:=@List.mem_filter
abbrev auA:=@Option.some.inj
abbrev auB:=@List.getElem?_take
abbrev auC:=@List.all_eq_true
abbrev auD:=@Nat.eq_zero_or_pos
abbrev auE:=@List.nodup_iff_pairwise_ne
abbrev auF:=@List.getElem?_mapIdx
abbrev auG:=@List.pairwise_iff_getElem
abbrev auH:=@List.size_toArray
abbrev auI:=@Option.getD_some
abbrev auJ:=@List.flatMap_cons
abbrev auK:=@List.append_nil
abbrev auL:=@List.mem_of_mem_take
abbrev auM:=@decide_eq_true
abbrev auN:=@List.drop_eq_getElem_cons
abbrev auO:=@List.cons_append
abbrev auP:=@List.filter_cons
abbrev auQ:=@Option.map_eq_some_iff
abbrev auR:=@Bool.false_eq_true
abbrev auS:=@List.length_drop
abbrev auT:=@if_true
abbrev auU:=@List.foldl_append
abbrev auV:=@cond_false
abbrev auW:=@Nat.add_sub_cancel_left
abbrev auX:=@List.length_pos_iff
abbrev auY:=@List.mem_range
abbrev auZ:=@Int.tmod_eq_emod_of_nonneg
abbrev au0:=@List.ext_getElem
abbrev au1:=@List.any_eq_true
abbrev au2:=@List.ext_getElem?
abbrev au3:=@Bool.or_eq_true
abbrev au4:=@List.nil_append
abbrev au5:=@List.filter_append
abbrev au6:=@List.getElem_cons_succ
abbrev au7:=@Nat.beq_refl
abbrev au8:=@Option.map_some
abbrev au9:=@List.nodup_append
abbrev au_:=@List.pairwise_map
abbrev au':=@Array.getElem?_toList
abbrev ava:=@List.take_append_drop
abbrev avb:=@Nat.le_trans
abbrev avc:=@List.length_set
abbrev avd:=@Array.getElem?_eq_getElem
abbrev ave:=@List.range_succ
abbrev avf:=@Nat.not_lt_zero
abbrev avg:=@Bool.or_eq_false_iff
abbrev avh:=@Nat.mul_le_mul_right
abbrev avi:=@List.find?_eq_none
abbrev avj:=@List.foldl_cons
abbrev avk:=@Bool.and_eq_false_iff
abbrev avl:=@decide_eq_false_iff_not
abbrev avm:=@List.take_append_of_le_length
abbrev avn:=@beq_iff_eq
abbrev avo:=@cond_true
abbrev avp:=@List.map_nil
abbrev avq:=@if_false
abbrev avr:=@List.take_succ_cons
abbrev avs:=@List.flatMap_append
abbrev avt:=@Array.getD_eq_getD_getElem?
abbrev avu:=@Array.getElem?_eq_some_iff
abbrev avv:=@dif_pos
abbrev avw:=@beq_false
abbrev avx:=@List.mem_flatMap
abbrev avy:=@Array.length_toList
abbrev avz:=@List.getElem?_toArray
abbrev avA:=@List.findIdx?_eq_some_iff_getElem
abbrev avB:=@List.nodup_cons
abbrev avC:=@Bool.not_eq_false'
abbrev avD:=@List.mem_append_left
abbrev avE:=@Array.ext'
abbrev avF:=@Nat.add_assoc
abbrev avG:=@List.getD_eq_getElem?_getD
abbrev avH:=@List.take_add_one
abbrev avI:=@List.find?_cons
abbrev avJ:=@Nat.eq_of_beq_eq_true
abbrev avK:=@Nat.lt_succ_iff_lt_or_eq
abbrev avL:=@List.getElem?_drop
abbrev avM:=@Option.isSome_iff_exists
abbrev avN:=@List.getElem?_set
abbrev avO:=@List.reverse_cons
abbrev avP:=@List.getElem?_concat_length
abbrev avQ:=@Array.toList_append
abbrev avR:=@Nat.succ_mul
abbrev avS:=@List.findIdx?_eq_none_iff
abbrev avT:=@List.mem_or_eq_of_mem_set
abbrev avU:=@List.cons.injEq
abbrev avV:=@List.mem_of_mem_drop
abbrev avW:=@Nat.zero_lt_one
abbrev avX:=@List.map_map
abbrev avY:=@List.length_filterMap_le
abbrev avZ:=@Bool.not_eq_true'
abbrev av0:=@List.drop_append_of_le_length
abbrev av1:=@List.getElem?_replicate
abbrev av2:=@List.take_zero
abbrev av3:=@Option.map_eq_none_iff
abbrev av4:=@List.getElem?_set_self
abbrev av5:=@List.getElem_cons_zero
abbrev av6:=@List.drop_of_length_le
abbrev av7:=@UInt8.toNat_ofNat'
abbrev av8:=@List.count_pos_iff
abbrev av9:=@Int.ofNat_lt
abbrev av_:=@Nat.add_zero
abbrev av':=@Array.getElem?_modify
abbrev awa:=@List.isSuffixOf_iff_suffix
abbrev awb:=@Nat.lt_trichotomy
abbrev awc:=@Function.comp_def
abbrev awd:=@List.Perm.eq_of_pairwise
abbrev awe:=@List.find?_range_eq_some
abbrev awf:=@List.mem_nil_iff
abbrev awg:=@List.getElem_map
abbrev awh:=@List.getElem_mapIdx
abbrev awi:=@Array.getElem?_setIfInBounds_ne
abbrev awj:=@List.pairwise_mergeSort
abbrev awk:=@List.all_cons
abbrev awl:=@Int.natCast_nonneg
abbrev awm:=@List.mem_filterMap
abbrev awn:=@Nat.min_eq_left
abbrev awo:=@UInt8.lt_irrefl
abbrev awp:=@List.getElem_range
abbrev awq:=@Bool.eq_iff_iff
abbrev awr:=@List.length_pos_of_mem
abbrev aws:=@List.drop_eq_nil_of_le
abbrev awt:=@Nat.mul_one
abbrev awu:=@Bool.eq_false_iff
abbrev awv:=@List.getElem_take
abbrev aww:=@Nat.sub_self
abbrev awx:=@List.mem_append_right
abbrev awy:=@Nat.add_comm
abbrev awz:=@List.length_mergeSort
abbrev awA:=@Array.getElem?_mapIdx
abbrev awB:=@or_false
abbrev awC:=@Array.replicate_succ
abbrev awD:=@Array.replicate_zero
abbrev awE:=@Array.getElem?_append_left
abbrev awF:=@Bool.true_and
abbrev awG:=@Option.ne_none_iff_exists'
abbrev awH:=@Nat.add_mul
abbrev awI:=@List.append_toArray
abbrev awJ:=@List.map_congr_left
abbrev awK:=@List.mergeSort_perm
abbrev awL:=@List.mem_mapIdx
abbrev awM:=@List.mem_of_find?_eq_some
abbrev awN:=@UInt8.not_lt
abbrev awO:=@List.Pairwise.imp_of_mem
abbrev awP:=@List.nodup_nil
abbrev awQ:=@dif_neg
abbrev awR:=@Option.bind_eq_some_iff
abbrev awS:=@Nat.le_mul_of_pos_right
abbrev awT:=@Array.size_mapIdx
abbrev awU:=@List.push_toArray
abbrev awV:=@List.filter_eq_nil_iff
abbrev awW:=@List.flatMap_singleton
abbrev awX:=@List.append_eq_nil_iff
abbrev awY:=@Array.getElem?_eq_none
abbrev awZ:=@List.any_cons
abbrev aw0:=@List.sum_cons
abbrev aw1:=@Nat.lt_irrefl
abbrev aw2:=@Bool.and_self
abbrev aw3:=@List.getElem_set
abbrev aw4:=@Option.bind_some
abbrev aw5:=@List.not_mem_nil
abbrev aw6:=@List.pairwise_reverse
abbrev aw7:=@List.length_replicate
abbrev aw8:=@List.singleton_append
abbrev aw9:=@Nat.ble_eq_true_of_le
abbrev aw_:=@List.mem_of_mem_tail
abbrev aw':=@List.map_set
abbrev axa:=@List.getElem?_append
abbrev axb:=@List.getElem?_set_ne
theorem axc{p:Prop}(h:p:=by intro k0 hD gJ my v W w' qM;have io:=grownCap_ge w (xs.length+a'.length) hD aF.t;have ms:=grownCap_le_maxLen w (xs.length+a'.length) hD aF.t (by simp only[maxLen];omega);generalize grownCap w (xs.length+a'.length) hD aF.t=o9 at W qM io ms;(have tM:(k0.toArray++ft.toArray++Builtin.zeroCells ei.cells (o9-(xs.length+a'.length))).size=o9*aF.aB:=by simp only[Array.size_append,auH,size_zeroCells,D6,gJ,jS,<-awH];congr 1;omega);have g6:=c7.drew (λ_=>False) w C;have ju:=c7.alloc (λ_=>False) w.drew C (.cells (k0.toArray++ft.toArray++Builtin.zeroCells ei.cells (o9-(xs.length+a'.length))) aF.t) 0;have hs:=g6.trans ju (λ_ _ M=>M);rw[<-qM]at hs ju;refine⟨_,M.b2 hs (λ_ M=>M.elim) (λ_ _ _ _ _ _ M=>M) λx F=>?_⟩;cases F;refine⟨⟨some ⟨w.heap.size,0,none⟩,o9,by rw[W,hlen],by rw[hlen];exact io,ms,Es,λdF gg=>⟨_,by cases gg;rfl,?_⟩,λ_=>⟨w.heap.size,_,rfl,?_,tM,?_,λj d N=>?_⟩⟩,λb G=>?_⟩;rw[qM];exact hR (kB w.drew _);rw[qM];exact kB w.drew _;exact ht _ _ _;rw[x1,p1]at N;split at N;obtain⟨aj,ao,ae,ag⟩:=my j d N;refine⟨aj,?_,ae.ext hs.ext,ag⟩;have:=e8 ao;rw[<-au'];simp only[avQ];rw[auj,p1,atH (by simpa using this)];simpa using ao;rename_i Z;obtain⟨aj,ao,ae,ag⟩:=x5 _ d N;refine⟨aj,?_,ae.ext hs.ext,ag⟩;rw[<-au'];simp only[avQ];rw[auj,p1,atG atw,p1,atH (by have:=e8 ao;simp;omega)];simpa[gJ,du]using ao;obtain⟨h5,h6,dM,_⟩:=G;rw[W]at dM;simp only[Value.slice.injEq,aus,Addr.mk.injEq]at dM;obtain⟨⟨rfl,_⟩,_⟩:=dM;exact⟨h.D5,.inr (atP _)⟩):p:=h
theorem axd{p:Prop}(h:p:=by (have G:bd[i]=false:=by simpa[Array.getD,mD]using qV);(have bT:(bd.setIfInBounds i true).toList=bd.toList.set i true:=by simp);rw[bT];(have b0:(bd.toList.set i true).count false+1=bd.toList.count false:=by have:=List.count_set (l:=bd.toList) (i:=i) (a:=true) (b:=false) (by simpa using mD);(have aa:bd.toList[i]'(by simpa using mD)=false:=by simpa using G);(have a_:(if(bd.toList[i]'(by simpa using mD))==false then 1 else 0)=1:=by rw[aa];rfl);have cC:(if(true==false)=true then 1 else 0)=0:=rfl;have eV:0<bd.toList.count false:=av8.2 (by rw[<-aa];exact atK _);omega);omega):p:=h
theorem axe{p:Prop}(h:p:=by refine gb ?_;refine aJ false rfl ?_ ?_<;>intro hc;cases hc;apply cl;refine gb ?_;refine aJ false rfl ?_ ?_<;>intro hc;cases hc;refine go ?_;refine aJ (decide (x<y)) rfl ?_ ?_<;>intro hc;refine go ?_;rw[qr,atH (by simpa using hc)];exact E;refine go ?_;rw[qr,atG (by simpa using hc)];refine go ?_;refine aJ (decide (y<x)) rfl ?_ ?_<;>intro hc;refine go ?_;rw[atH (by simpa using hc)];exact E;refine go ?_;rw[atG (by simpa using hc)];exact E):p:=h
theorem axf{p:Prop}(h:p:=by by_cases D3:n=0;subst D3;have pW:vs=[]:=atY o6;subst pW;have tO:Array.range 0=#[]:=rfl;simp[tO,Instr.buildSlice,run_underlying ao,sizeOf,typeInfo,hi,Instr.fill,newRow];(have aX:¬n*aF.aB=0:=by intro h;rcases Nat.mul_eq_zero.1 h with h|h<;>omega);(have LD:¬16777216<n*aF.aB:=by omega);simp[Instr.buildSlice,run_underlying ao,sizeOf,typeInfo,zeroValue,hi,lX,hs,aX,LD,D2,newRow]):p:=h
theorem axh{p:Prop}(h:p:=by intro ah;refine xj (p:=λah=>∀m,m<=ah.length->(hl v ah).reverse.take m=(hl v (ah.take m)).reverse) (λm hm=>by simp at hm;subst hm;rfl) (λl x aY m hm=>?_) ah;rw[xk,avO];by_cases gv:m<=l.length;rw[avm (by simp[tj];exact gv),aY m gv,avm gv];(have t6:m=l.length+1:=by simp at hm;omega);subst t6;rw[aue (by simp[tj]),aue atx,xk,avO]):p:=h
theorem axi{p:Prop}(h:p:=by obtain⟨v,W⟩:=lW (l:=(vs.map (·.2)).flatMap λv=>v.cells.toList) (i:=j) (by have:=e8 N;rw[du.1]at this;exact this);refine⟨v,W,du.2 j d v N W,?_⟩;obtain⟨aj,ao,LF⟩:=avx.1 (at2 W);obtain⟨i,hi⟩:=aub.1 ao;obtain⟨d',hr⟩:=lW (l:=ds.map (·.2)) (i:=i) (by have:=e8 hi;simp only[atL]at this⊢;omega);exact(hsz i d' aj hr hi).2.2.2 v LF):p:=h
theorem axj{p:Prop}(h:p:=by apply au2;intro j;by_cases Z:j<vs.length;(have bT:(vs.map (·.1))[j]?=some j:=by rw[h1,tN,List.getElem?_range' atv];simp);have b0:vs[j]?=some vs[j]:=atJ Z;simp only[aud,List.getElem?_zipIdx,b0,au8]at bT⊢;(have j':vs[j].1=j:=by simpa using bT);congr 1;ext;simpa using j';rfl;rw[atT atv,atT atw]):p:=h
theorem axl{p:Prop}(h:p:=by simp only[Region.ready,auz,auY,atM,avZ];refine⟨hi,al,?_⟩;rw[ag];simp only[au8,auI];refine Array.all_eq_true'.2 λe ak=>?_;have:=ae e (by simpa using ak);cases G:Region.binds Region.Mode.any e with|true=>simpa using this G|false=>simp):p:=h
theorem axm{p:Prop}(h:p:=by funext j;simp only[fN];rw[Mc (f:=ej bd) λe ak G=>l5 e ak G];cases G:Nat.beq j i with|true =>have:=aua G;subst this;(have bi:j<bd.size:=by omega);simp only[ej,Array.getD,bi,avv]at qV⊢;simpa using qV.symm|false=>rfl):p:=h
theorem axn{p:Prop}(h:p:=by simp only[entry,LY];by_cases hi:i<args.length;obtain⟨d,N⟩:=lW (l:=ds) (i:=i) atv;have W:args[i]?=some args[i]:=atJ hi;have:=ae.2 i d _ N W;simpa[N,Array.getElem?_append,hi]using this;rw[atT atv];exact .any _):p:=h
theorem axo{p:Prop}(h:p:=by (have hlen:(fJ .i64 (chars s).1).length=(chars s).1.length:=by simp[fJ]);rw[hlen];cases(chars s).2==0;rfl;by_cases h1:1<=(chars s).1.length<;>by_cases z:(chars s).1.length<=64<;>simp[h1,z]<;>omega):p:=h
theorem axp{p:Prop}(h:p:=by cases nd:o.guard with|none=>simp[Region.wanted,nd]|some z8 =>obtain⟨j,iG⟩:=z8;rw[nd]at aT;obtain⟨g,h1,z⟩:=aT;have jT:=M.tmps g;rw[z]at jT;have hy:=x7 h1 jT.h4;simp[Region.wanted,nd,hy]):p:=h
theorem axq{p:Prop}(h:p:=by (cases i with|zero=>simp at ag;subst ag;exact h.1 y f|succ i =>have:=aY h.2 (i:=i) (o:=o) (by simpa using ag) y f;rw[show n+1+i=n+(i+1) by omega]at this;exact this)):p:=h
theorem axr{p:Prop}(h:p:=by (have bi:i<bd.size:=by omega);have:=List.count_eq_zero.1 hc;cases G:bd[i]with|true=>simp[ej,bi,G]|false=>exact absurd (by rw[<-G];simp[Array.getElem_mem]) this):p:=h
theorem axs{p:Prop}(h:p:=by simp only[execOp,resolve,W,Deferred.ofValue,Sem.run_bind,Sem.run_pure,Result.andThen_ok,invoke,callFunc,run_program,i7,mu,G,auR,avq];congr 2;apply avE;simp):p:=h
theorem axt{p:Prop}(h:p:=by rename_i x;obtain⟨d,N,ae⟩:=iZ I;split at N;rename_i hP i;refine⟨i,N,λax w C ρ cZ=>.inr ⟨hP,?_⟩⟩;simp[(ae ax w C _ (cZ x rfl)).fr];exact False.elim N):p:=h
theorem axu{p:Prop}(h:p:=by intro v W;obtain⟨j,Z⟩:=aub.1 W;obtain⟨d,N⟩:=lW (l:=ds.map (·.2)) (i:=j) (by have:=e8 Z;simp only[atL]at this⊢;omega);exact(hsz j d v N Z).2.1):p:=h
theorem axv{p:Prop}(h:p:=by apply b3;apply b3;refine vn ?_;refine⟨λ_=>by omega,?_⟩;refine go ?_;have I:(n+2048-1).tdiv 2048=(n+2048-1)/2048:=atX atv;refine go ?_;exact E):p:=h
theorem axw{p:Prop}(h:p:=by intro x F;obtain⟨j,Z⟩:=aub.1 F;obtain⟨v,W⟩:=lW (l:=vs.map (·.2)) (i:=j) (by have:=e8 Z;simp only[atL]at this⊢;omega);exact(hsz j x v Z W).1):p:=h
theorem axx{p:Prop}(h:p:=by refine go ?_;refine aq.of_eq (atI D.bool ?_);unfold eo;by_cases h1:32<=r<;>by_cases z:r<=65533<;>by_cases aa:r<55296<;>simp[h1,z,aa]):p:=h
theorem axy{p:Prop}(h:p:=by (have ae:r=[]:=by simpa using hc);subst ae;(have:chars s=(fB,0):=by rw[chars,atG ju,k6];simp[jE,yy]);rw[this];exact⟨aq.m7,E,ai⟩):p:=h
theorem axz{p:Prop}(h:p:=by (have e:gA H [(k,s)]=aK [(k,o)]:=by funext j;simp only[gA,aK];cases Nat.beq j k with|true=>exact h|false=>rfl);rw[e];exact hc):p:=h
theorem axA{p:Prop}(h:p:=by intro j d v N W;have ae:=z.2 j d v N W;simp only[aud,auQ]at N;obtain⟨x,F,rfl⟩:=N;exact hcells w C x (at2 F) v ae):p:=h
theorem axB{p:Prop}(h:p:=by simp only[aK]at h;cases h1:Nat.beq s a with|true=>rw[h1]at h;cases h;exact⟨aua h1,rfl⟩|false=>rw[h1]at h;cases h):p:=h
theorem axC{p:Prop}(h:p:=by obtain⟨_,_,_,_,_,cC⟩:=QM h;unfold nL at cC;split at cC;cases cC;rename_i hc;unfold sa at hc;simp at hc;omega):p:=h
theorem axD{p:Prop}(h:p:=by by_cases o_:k=j;subst o_;rw[atH rfl,atH atv];rw[atG o_];by_cases Z:j<k;rw[atH Z,atH atv];rw[atG Z,atG atv]):p:=h
theorem axE{p:Prop}(h:p:=by unfold fS;rw[lc,kL];by_cases h:(gX v l bb).2=[];rw[atH (oX.2 h),atH h];rw[atG (λe=>h (oX.1 e)),atG h]):p:=h
theorem axF{p:Prop}(h:p:=by refine zT k ok X kC ?_ d6;by_cases o_:j=k;subst o_;exact D9;rw[getD_set_ne true o_]at ve;exact ve):p:=h
theorem axG{p:Prop}(h:p:=by cases Nat.beq j ce with|true=>exact h1|false =>(cases Nat.beq j dn with|true=>exact z|false=>rfl)):p:=h
theorem axH{p:Prop}(h:p:=by obtain⟨aj,ao,ae,ag⟩:=my j d N;have Z:=e8 N;exact⟨aj,by rw[auB,atH atv];simpa using ao,ae,ag⟩):p:=h
theorem axI{p:Prop}(h:p:=by rcases ae.kz with⟨rfl,⟨_,W⟩,_⟩|⟨b,o,h6,g,W,_,G,hc,_⟩;exact⟨_,_,W,by simp⟩;exact⟨_,_,W,hc⟩):p:=h
theorem axJ{p:Prop}(h:p:=by rcases at5 j n with h|h;exact h;exact absurd Z (tail_waits hs hc av pQ _ i rfl cg ve j h)):p:=h
theorem axK{p:Prop}(h:p:=by rcases at5 j K with h|h;exact h;(have:j=K:=by omega);subst this;exact absurd AX l1.2.1):p:=h
theorem axL{p:Prop}(h:p:=by rw[Ze];cases h1:s.iso<;>cases z:s.rock<;>rw[h1,z]at hc<;>first|(cases hc;done)|decide):p:=h
theorem axN{p:Prop}(h:p:=by rw[auB]at Z;split at Z;rw[o5,aut];simp only[World.cell?,G];simpa using Z;cases Z):p:=h
theorem axO{p:Prop}(h:p:=by cases h0:decide ((0:Int)<i)<;>rw[h0]at hc<;>simp at h0 hc;exact⟨by omega,hc⟩):p:=h
theorem axP{p:Prop}(h:p:=by have:=(s.getD 0 0).toNat_lt;have:=(s.getD 1 0).toNat_lt;simp only[dk];omega):p:=h
theorem axQ{p:Prop}(h:p:=by exact dp (z7 (p:=λk:ad=>k.name==q) λj Z=>au j Z (by simp at hc;omega)).symm):p:=h
theorem axR{p:Prop}(h:p:=by simp[execOp,resolve,invoke,builtin,Builtin.len_,run_underlying ao,z,goInt]):p:=h
theorem axS{p:Prop}(h:p:=by clear s0;induction l with|nil=>trivial|cons x r aY=>exact⟨h1.1,aY h1.2⟩):p:=h
theorem axT{p:Prop}(h:p:=by obtain⟨h1,z⟩:=oB hc;obtain⟨aa,aC⟩:=oB h1;have:=at0 z;have:=at0 aC;omega):p:=h
theorem axU{p:Prop}(h:p:=by cases h:Nat.beq k i with|false=>rfl|true=>have:=avJ h;simp at ha;omega):p:=h
theorem axV{p:Prop}(h:p:=by have:=h.kind;unfold xZ at this;rw[X]at this;split at this<;>simp_all):p:=h
theorem axW{p:Prop}(h:p:=by obtain⟨aj,h1,z,aa⟩:=ae j d N;exact⟨aj,by simpa using h1,z.ext jw,aa⟩):p:=h
theorem axX{p:Prop}(h:p:=by cases aa:decide ((i:Int)<=3)<;>rw[aa]at hc<;>simp at aa hc<;>omega):p:=h
theorem axY{p:Prop}(h:p:=by obtain⟨h1,z,aa⟩:=Qm h;exact(mw _ _ atv).trans ((zh rfl z).trans h)):p:=h
theorem axZ{p:Prop}(h:p:=by unfold Utf8.encode;simp only[W,auT,auq];rw[atG mb,atG z,atH atv]):p:=h
theorem ax0{p:Prop}(h:p:=by simp only[Region.wanted,aT,hy a w C h];cases b<;>cases c<;>rfl):p:=h
theorem ax1{p:Prop}(h:p:=by by_cases h1:(s.length:Int)<1;simp[h1]at hc;simp[h1]at hc;omega):p:=h
theorem ax2{p:Prop}(h:p:=by rcases jt with h|h;have:=hc.2;rw[h]at this;cases this;exact h):p:=h
theorem ax3{p:Prop}(h:p:=by subst F;exact M.heap.inj s bp _ o x (Ne.symm aX) hs ag rfl ao):p:=h
theorem ax4{p:Prop}(h:p:=by rw[w8 (by simpa using h)];simp[es,show t-1<J.length by omega]):p:=h
theorem ax5{p:Prop}(h:p:=by rcases at1.1 F with F|F<;>first|exact p2 x F|exact BG x F):p:=h
theorem ax6{p:Prop}(h:p:=by first|omega|(simp only[dk]at*;omega)|(simp[dk]at*;omega)):p:=h
theorem ax7{p:Prop}(h:p:=by refine go ?_;exact dp (by rw[au,Ay (by simpa using hc)])):p:=h
theorem ax8{p:Prop}(h:p:=by rw[o8];exact growslice_fits atv (by simpa using mx)):p:=h
theorem ax9{p:Prop}(h:p:=by by_cases fc:j=i;subst fc;exact hc;exact au j h atv):p:=h
theorem ax_{p:Prop}(h:p:=by show p.files.length-(i+1)<p.files.length-i;omega):p:=h
theorem ax'{p:Prop}(h:p:=by have:=(s.getD 0 0).toNat_lt;simp only[dk];omega):p:=h
theorem aya{p:Prop}(h:p:=by intro hw;(conv=>whnf);refine go ?_;exact hw.cm):p:=h
theorem ayb{p:Prop}(h:p:=by refine Y.vv 46 9 rfl ?_;refine go ?_;exact ar):p:=h
theorem ayc{p:Prop}(h:p:=by simp only[Region.wanted,aT,hy];cases b<;>rfl):p:=h
theorem aye{p:Prop}(h:p:=by simp only[Array.getD,l6,avv];simpa using G):p:=h
theorem ayf{p:Prop}(h:p:=by show p.cX.length-(i+1)<p.cX.length-i;omega):p:=h
theorem ayg{p:Prop}(h:p:=by obtain⟨j,rfl,_,_⟩:=tw h;exact⟨by omega,h⟩):p:=h
theorem ayh{p:Prop}(h:p:=by first|exact h|(rw[h];rfl)|(rw[h0,h];rfl)):p:=h
theorem ayi{p:Prop}(h:p:=by show n.J.length-(i+1)<n.J.length-i;omega):p:=h
theorem ayj{p:Prop}(h:p:=by rw[lQ];have:=aun aQ.df l;unfold bM;omega):p:=h
theorem ayk{p:Prop}(h:p:=by rw[getD_replicate_false]at al;cases al):p:=h
theorem ayl{p:Prop}(h:p:=by simp only[Value.slice.injEq]at h;omega):p:=h
theorem aym{p:Prop}(h:p:=by rw[<-b0];exact List.length_append.symm):p:=h
theorem ayn{p:Prop}(h:p:=by rcases tS b bJ with h|h;exact h;omega):p:=h
theorem ayo{p:Prop}(h:p:=by subst cg;rw[atW];refine go ?_;exact E):p:=h
theorem ayp{p:Prop}(h:p:=by show s.length-(i+1)<s.length-i;omega):p:=h
theorem ayq{p:Prop}(h:p:=by show l.length-(i+1)<l.length-i;omega):p:=h
theorem ayr{p:Prop}(h:p:=by show T.length-(i+1)<T.length-i;omega):p:=h
theorem ays{p:Prop}(h:p:=by show P.length-(i+1)<P.length-i;omega):p:=h
theorem ayt{p:Prop}(h:p:=by have:=aZ.dm;rwa [auB,atH atv]at this):p:=h
theorem ayu{p:Prop}(h:p:=by subst F;exact h.heap.cJ q _ _ hH eK):p:=h
theorem ayv{p:Prop}(h:p:=by subst F;exact M.heap.cJ s _ _ hs eK):p:=h
theorem ayw{p:Prop}(h:p:=by cases F;exact M.heap.cJ s _ _ hs eK):p:=h
theorem ayx{p:Prop}(h:p:=by rw[o8];exact growslice_fits atv mx):p:=h
theorem ayy{p:Prop}(h:p:=by rw[aur];intro e;subst e;simp at hc):p:=h
theorem ayz{p:Prop}(h:p:=by intro hw;refine go ?_;exact hw.cm):p:=h
theorem ayA{p:Prop}(h:p:=by simp only[putCells,awT];exact fM):p:=h
theorem ayB{p:Prop}(h:p:=by simp[Op.operands,Call.operands]):p:=h
theorem ayC{p:Prop}(h:p:=by (conv=>whnf);exact⟨_,E,rfl,rfl⟩):p:=h
theorem ayD{p:Prop}(h:p:=by refine go ?_;exact⟨_,E,rfl,rfl⟩):p:=h
theorem ayE{p:Prop}(h:p:=by simp at hc;simp only[dk];omega):p:=h
theorem ayF{p:Prop}(h:p:=by obtain⟨y,_,rfl⟩:=at3.1 F;rfl):p:=h
namespace Go.bS
open Go Go.RowKit
inductive iD where
 |none
 |dU
 |own (s:Nat) (v:Value)
inductive D where
 |any
 |undef
 |bool (b:Bool)
 |int (k:IntKind) (n:Int)
 |O (s:atE)
 |agg (aA:List D)
 |bh
 |Q (t:iD) (k:Nat) (xs:List D)
 |fn (f:Fn) (first oF:List D)
 |bl (ds:List D)
 |a7 (k:Nat) (xs:List D) (i off:Nat)
 |box (s b off:Nat)
 |mn (g:Bool) (d:D)
 |an (v:Value)
def D.cells:D->List D
 |.agg aA=>aA
 |d=>[d]
def b1(xs:List D):List D:=xs.flatMap D.cells
def iD.gk(t:iD)(v:Value):Prop :=
 match t with
 |.none=>True
 |.dU=>∃a n,v=.slice a n n
 |.own _ c'=>v=c'
inductive bf (w:World) (C:Nat->Nat):D->Value->Prop
 |any (v:Value):bf w C .any v
 |undef:bf w C .undef Go.undef
 |bool (b:Bool):bf w C (.bool b) (.bool b)
 |int (k:IntKind) (n:Int):bf w C (.int k n) (.int k n)
 |O (s:atE):bf w C (.O s) (.string ⟨⟨s⟩⟩)
 |agg (aA:List D) (vs:List Value) (al:aA.length=vs.length)
   (h:∀(i:Nat) d v,aA[i]?=some d->vs[i]?=some v->bf w C d v):bf w C (.agg aA) (.agg ⟨vs⟩)
 |bh:bf w C .bh (.slice none 0 0)
 |jr (t:iD) (k:Nat) (a:Option Addr) (ax:t.gk (.slice a 0 0)):bf w C (.Q t k []) (.slice a 0 0)
 |Q (t:iD) (k:Nat) (xs:List D) (b o cap:Nat) (g:Nat->Value)
   (ax:t.gk (.slice (some ⟨b,o,none⟩) xs.length cap))
   (G:b<w.heap.size) (hc:xs.length<=cap) (hm:cap<=maxLen)
   (X:∀x∈xs,x.cells.length=k) (c6:o+xs.length*k<=C b)
   (gd:∀(j:Nat) d,(b1 xs)[j]?=some d->w.cell? ⟨b,o+j,none⟩=some (g j))
   (ef:∀(j:Nat) d,(b1 xs)[j]?=some d->(g j).oneCell'=true)
   (h:∀(j:Nat) d,(b1 xs)[j]?=some d->bf w C d (g j)):bf w C (.Q t k xs) (.slice (some ⟨b,o,none⟩) xs.length cap)
 |fn (f:Fn) (first oF:List D) (fK hp:List Value) (al:first.length=fK.length) (mY:oF.length=hp.length)
   (h:∀(i:Nat) d v,first[i]?=some d->fK[i]?=some v->bf w C d v)
   (bq:∀(i:Nat) d v,oF[i]?=some d->hp[i]?=some v->bf w C d v):bf w C (.fn f first oF) (.func f ⟨fK⟩ ⟨hp⟩)
 |bl (ds:List D) (vs:List Value) (al:ds.length=vs.length)
   (h:∀(i:Nat) d v,ds[i]?=some d->vs[i]?=some v->bf w C d v):bf w C (.bl ds) (.tuple ⟨vs⟩)
 |a7 (k:Nat) (xs:List D) (i off:Nat) (b o cap:Nat) (h:bf w C (.Q .none k xs) (.slice (some ⟨b,o,none⟩) xs.length cap)) :
   bf w C (.a7 k xs i off) (.pointer (some ⟨b,o+i*k+off,none⟩))
 |box (s b off:Nat):bf w C (.box s b off) (.pointer (some ⟨b,off,none⟩))
 |pO (d:D) (v:Value) (h:bf w C d v):bf w C (.mn true d) v
 |u7 (d:D):bf w C (.mn false d) Go.undef
 |an (v:Value):bf w C (.an v) v
def db(w:World)(C:Nat->Nat)(ds:List D)(vs:List Value):Prop :=
 ds.length=vs.length/\∀(i:Nat) d v,ds[i]?=some d->vs[i]?=some v->bf w C d v
structure n0 (w:World) (C:Nat->Nat) (w':World) (aO:Nat->Nat):Prop where
 size:w.heap.size<=w'.heap.size
 le:∀b,b<w.heap.size->C b<=aO b
 cells:∀b o,b<w.heap.size->o<C b->w'.cell? ⟨b,o,none⟩=w.cell? ⟨b,o,none⟩
theorem n0.refl(w:World)(C:Nat->Nat):n0 w C w C:=⟨atP _,λ_ _=>atP _,λ_ _ _ _=>rfl⟩
variable{w w':World}{C aO:Nat->Nat}
theorem n0.trans{rF:World}{lU:Nat->Nat}(h:n0 w C w' aO)(bq:n0 w' aO rF lU):n0 w C rF lU :=
 ⟨avb h.size bq.size,λb G=>avb (h.le b G) (bq.le b (auy G h.size)),
  λb o G ag=>by
   rw[bq.cells b o (auy G h.size) (auy ag (h.le b G)),h.cells b o G ag]⟩
theorem pP{k:Nat}:∀{xs:List D},(∀x∈xs,x.cells.length=k)->(b1 xs).length=xs.length*k
 |[],_=>by simp[b1]
 |x::xs,h=>by have h1:=pP (xs:=xs) (λy hy=>h y (atU _ hy));have z:=h x atS;simp only[b1,auJ,atO,atQ]at*;rw[h1,z,avR];omega
variable{d:D}{v:Value}
theorem bf.ext(ak:n0 w C w' aO)(h:bf w C d v):bf w' aO d v:=by induction h with|any v=>exact .any v|undef=>exact .undef|bool b=>exact .bool b|int k n=>exact .int k n|O s=>exact .O s|agg aA vs al _ aY=>exact .agg aA vs al aY|bh=>exact .bh|jr t k a ax=>exact .jr t k a ax|Q t k xs b o cap g ax G hc hm X c6 gd ef _ aY =>refine .Q t k xs b o cap g ax (auy G ak.size) hc hm X (avb c6 (ak.le b G)) (λj d Z=>?_) ef aY;rw[ak.cells b (o+j) G ?_];exact gd j d Z;(have bi:j<(b1 xs).length:=by rcases at5 j (b1 xs).length with h|h;exact h;rw[atT h]at Z;cases Z);rw[pP X]at bi;omega|fn f first oF fK hp al mY _ _ aY abp=>exact .fn f first oF fK hp al mY aY abp|bl ds vs al _ aY=>exact .bl ds vs al aY|a7 k xs i off b o cap _ aY=>exact .a7 k xs i off b o cap aY|box s b off=>exact .box s b off|pO d v _ aY=>exact .pO d v aY|u7 d=>exact .u7 d|an v=>exact .an v
variable{aj:Value}{s b:Nat}{aA:List D}
section pQ
theorem bf.fr{k:IntKind}{n:Int}(h:bf w C (.int k n) v):v=.int k n:=by cases h;rfl
theorem bf.h4{b:Bool}(h:bf w C (.bool b) v):v=.bool b:=by cases h;rfl
theorem bf.kw{s:atE}(h:bf w C (.O s) v):v=.string ⟨⟨s⟩⟩:=by cases h;rfl
theorem bf.abq(h:bf w C .undef v):v=Go.undef:=by cases h;rfl
theorem bf.xX(h:bf w C .bh v):v=.slice none 0 0:=by cases h;rfl
theorem bf.fL(h:bf w C (.an aj) v):v=aj:=by cases h;rfl
theorem bf.wA{off:Nat}(h:bf w C (.box s b off) v):v=.pointer (some ⟨b,off,none⟩):=by cases h;rfl
theorem bf.sD(h:bf w C (.agg aA) v):∃vs,v=.agg ⟨vs⟩/\db w C aA vs:=by cases h with|agg aA vs al h=>exact⟨vs,rfl,al,h⟩
theorem bf.abr(h:bf w C (.bl aA) v):∃vs,v=.tuple ⟨vs⟩/\db w C aA vs:=by cases h with|bl aA vs al h=>exact⟨vs,rfl,al,h⟩
theorem bf.u9{f:Fn}{first oF:List D}(h:bf w C (.fn f first oF) v):∃fK hp,v=.func f ⟨fK⟩ ⟨hp⟩/\db w C first fK/\db w C oF hp:=by cases h with|fn f first oF fK hp al mY h bq=>exact⟨fK,hp,rfl,⟨al,h⟩,⟨mY,bq⟩⟩
end pQ
theorem db.ext{w w':World}{C aO:Nat->Nat}(ak:n0 w C w' aO){ds:List D}{vs:List Value}(h:db w C ds vs):db w' aO ds vs :=
 ⟨h.1,λi d v N W=>(h.2 i d v N W).ext ak⟩
def D.js:D->D
 |.Q _ k xs=>.Q .none k xs
 |.bh=>.Q .none 0 []
 |d=>d
theorem bf.js{w:World}{C:Nat->Nat}{d:D}{v:Value}(h:bf w C d v):bf w C d.js v:=by cases h with|bh=>exact .jr .none 0 none trivial|jr t k a ax=>exact .jr .none k a trivial|Q t k xs b o cap g ax G hc hm X c6 gd ef h=>exact .Q .none k xs b o cap g trivial G hc hm X c6 gd ef h|any v=>exact .any v|undef=>exact .undef|bool b=>exact .bool b|int k n=>exact .int k n|O s=>exact .O s|agg aA vs al h=>exact .agg aA vs al h|fn f first oF fK hp al mY h bq=>exact .fn f first oF fK hp al mY h bq|bl ds vs al h=>exact .bl ds vs al h|a7 k xs i off b o cap h=>exact .a7 k xs i off b o cap h|box s b off=>exact .box s b off|pO d v h=>exact .pO d v h|u7 d=>exact .u7 d|an v=>exact .an v
inductive aI where
 |box (b:Nat) (aA:List D)
 |own (v:Value) (n k e:Nat)
 |row (v:Value) (xs:List D) (k e:Nat)
 |set (b:Nat) (ah:List atE)
 |b' (b:Nat) (o:Obj)
 |mp (b:Nat) (cA:List (D×D))
 |kU (b:Nat) (e:TypeId) (aA:List D)
abbrev bF:=Nat->Option aI
def aI.ec:aI->Nat->Prop
 |.box b _,x=>x=b
 |.own v n _ _,x=>∃o cap,v=.slice (some ⟨x,o,none⟩) n cap/\n<cap
 |.row v _ _ _,x=>∃n cap,v=.slice (some ⟨x,0,none⟩) n cap/\0<cap
 |.set b _,x=>x=b
 |.b' b _,x=>x=b
 |.mp b _,x=>x=b
 |.kU b _ _,x=>x=b
def abs(w:World)(C:Nat->Nat)(v:Value)(n k e:Nat):Prop :=
 ∃a cap,v=.slice a n cap/\n<=cap/\cap<=maxLen/\
  (n<cap->∃b vs,a=some ⟨b,0,none⟩/\w.heap[b]?=some (.cells vs e (0,0))/\vs.size=cap*k/\C b=n*k)
def kx(w:World)(C:Nat->Nat)(v:Value)(xs:List D)(k e:Nat):Prop :=
 ∃a cap,v=.slice a xs.length cap/\xs.length<=cap/\cap<=maxLen/\(∀x∈xs,x.cells.length=k)/\(∀dF,a=some dF->∃b,dF=⟨b,0,none⟩/\b<w.heap.size)/\
  (0<cap->∃b vs,a=some ⟨b,0,none⟩/\w.heap[b]?=some (.cells vs e (0,0))/\vs.size=cap*k/\C b=0/\
   ∀(j:Nat) d,(b1 xs)[j]?=some d->∃aj,vs[j]?=some aj/\bf w C d aj/\aj.oneCell'=true)
def DL(w:World)(C:Nat->Nat)(b:Nat)(ah:List atE):Prop :=
 ∃eC iX,w.heap[b]?=some (.map eC iX)/\C b=0/\(∀x∈eC.toList,(∃s,x.key=.string ⟨⟨s⟩⟩)/\x.val=.bool true)/\
  ∀s:atE,s∈ah↔∃x∈eC.toList,x.key=.string ⟨⟨s⟩⟩
def mZ:D->Option Value
 |.O s=>some (.string ⟨⟨s⟩⟩)
 |.int k n=>some (.int k n)
 |.bool b=>some (.bool b)
 |_=>none
def Bs(w:World)(C:Nat->Nat)(b:Nat)(cA:List (D×D)):Prop :=
 ∃eC iX,w.heap[b]?=some (.map eC iX)/\C b=0/\eC.size=cA.length/\(∀(i j:Nat) k bC d d',cA[i]?=some (k,d)->cA[j]?=some (bC,d')->mZ k=mZ bC->i=j)/\
  ∀(i:Nat) k d e,cA[i]?=some (k,d)->eC[i]?=some e->mZ k=some e.key/\bf w C d e.val
def tE(w:World)(C:Nat->Nat):aI->Prop
 |.box b aA=>∃vs e,w.heap[b]?=some (.cells ⟨vs⟩ e (0,0))/\db w C aA vs/\C b=0
 |.own v n k e=>abs w C v n k e
 |.row v xs k e=>kx w C v xs k e
 |.set b ah=>DL w C b ah
 |.b' b o=>w.heap[b]?=some o/\C b=0
 |.mp b cA=>Bs w C b cA
 |.kU b e aA=>∃vs,w.heap[b]?=some (.cells ⟨vs⟩ e (0,0))/\db w C aA vs/\C b=0
structure mo (Ft:Nat->Prop) (w:World) (C:Nat->Nat) (H:bF):Prop where
 b':∀s o,H s=some o->tE w C o
 inj:∀s bp o bI b,s≠bp->H s=some o->H bp=some bI->o.ec b->¬bI.ec b
 cJ:∀s o b,H s=some o->o.ec b->Ft b
structure c7 (Ft:Nat->Prop) (w:World) (C:Nat->Nat) (w':World) (aO:Nat->Nat):Prop where
 ext:n0 w C w' aO
 os:w'.os=w.os
 tape:w'.tape=w.tape
 output:w'.output=w.output
 iE:∀b,b<w.heap.size->¬Ft b->w'.heap[b]?=w.heap[b]?/\aO b=C b
theorem c7.refl(Ft:Nat->Prop)(w:World)(C:Nat->Nat):c7 Ft w C w C:=⟨.refl w C,rfl,rfl,rfl,λ_ _ _=>⟨rfl,rfl⟩⟩
theorem c7.trans{Ft RF:Nat->Prop}{w w' rF:World}{C aO lU:Nat->Nat}(h:c7 Ft w C w' aO)(bq:c7 RF w' aO rF lU)
  (hs:∀b,b<w.heap.size->RF b->Ft b):c7 Ft w C rF lU :=
 ⟨h.ext.trans bq.ext,bq.os.trans h.os,bq.tape.trans h.tape,bq.output.trans h.output,λb G av=>by
  have h1:=h.iE b G av;have z:=bq.iE b (auy G h.ext.size) (λM=>av (hs b G M))
  exact⟨z.1.trans h1.1,z.2.trans h1.2⟩⟩
def pR(B w:World):Prop:=Below B.heap.size B w
variable{B:World}{Ft:Nat->Prop}
theorem pR.step(h:pR B w)(hs:c7 Ft w C w' aO)(bJ:∀b,Ft b->B.heap.size<=b):pR B w' :=
 ⟨hs.os.trans h.os,hs.tape.trans h.tape,hs.output.trans h.output,avb h.size hs.ext.size,λk X=>by
  have h1:=(hs.iE k (auy X h.size) (λM=>by have:=bJ k M;omega)).1
  rw[h1];exact h.block k X⟩
def Bt(P : Program)(f : FuncId): Prop := ∃fn,P.funcs[f]?=some fn/\fn.body.isSome = true/\(fn.name == "runtime.NumGoroutine") = false
def c8(P:Program)(B:World)(f:FuncId)(Lc:List D)(H:bF)(a6:D->bF->Prop):Prop :=
 Bt P f/\∀(w:World) (C:Nat->Nat) (args:List Value) (Ft:Nat->Prop),pR B w->(∀b,Ft b->B.heap.size<=b)->mo Ft w C H->db w C Lc args->
  Calls P f ⟨args⟩ w λe w'=>∃v d aO aM,e=.returned v/\a6 d aM/\bf w' aO d v/\c7 Ft w C w' aO/\
   mo (λb=>Ft b\/w.heap.size<=b) w' aO aM
def bF.none:bF:=λ_=>Option.none
def m0(P:Program)(B:World)(f:FuncId)(Lc:List D)(d:D):Prop :=
 Bt P f/\∀(w:World) (C:Nat->Nat) (args:List Value),pR B w->db w C Lc args->
  Calls P f ⟨args⟩ w λe w'=>∃v aO,e=.returned v/\bf w' aO d v/\c7 (λ_=>False) w C w' aO
theorem mo.none(Ft:Nat->Prop)(w:World)(C:Nat->Nat):mo Ft w C bF.none :=
 ⟨λ_ _ h=>(by cases h),λ_ _ _ _ _ _ h=>(by cases h),λ_ _ _ h=>(by cases h)⟩
structure b7 (P:Program) (B:World) (am:Nat) where
 w0:World
 C0:Nat->Nat
 Ft:Nat->Prop
 base:pR B w0
 low:∀b,Ft b->B.heap.size<=b
variable{P:Program}{am:Nat}
structure aw where
 t:Nat->D
 H:bF
def b7.pS(U:b7 P B am)(b:Nat):Prop:=U.Ft b\/U.w0.heap.size<=b
structure bG (U:b7 P B am) (w:World) (C:Nat->Nat) (A:aw) (a:Act):Prop where
 tmps:∀i,bf w C (A.t i) (a.tmps.getD i undef)
 heap:mo U.pS w C A.H
 size:a.tmps.size=am
 defers:a.defers=[]
 step:c7 U.Ft U.w0 U.C0 w C
theorem b7.DM(U:b7 P B am)(h:U.pS b):B.heap.size<=b:=by rcases h with h|h;exact U.low b h;exact avb U.base.size h
theorem bG.base{U:b7 P B am}{w:World}{C:Nat->Nat}{A:aw}{a:Act}(h:bG U w C A a):pR B w:=U.base.step h.step U.low
inductive cK where
 |normal
 |exit (id:Nat)
 |ret
def cK.f7:cK->Exit
 |.normal=>.normal
 |.exit id=>.exit id
 |.ret=>.ret
structure Y (U:b7 P B am) (c:Code) (A:aw) (K:cK->aw->Prop):Prop where
 run:∀(a:Act) (w:World) (C:Nat->Nat),bG U w C A a->
  c.wp P (λe bv w'=>∃c3 az aO,e=cK.f7 c3/\K c3 az/\bG U w' aO az bv) a w
variable{c:Code}{d':D}{a:Act}{hs:List (Nat×aI)}
section abt
variable{U:b7 P B am}{A:aw}{K:cK->aw->Prop}
theorem Y.mono{sE:cK->aw->Prop}(h:Y U c A K)(X:∀e A,K e A->sE e A):Y U c A sE :=
 ⟨λa w C M=>wp_mono (h.run a w C M) λ_ _ _ ⟨c3,az,aO,ak,hK,bJ⟩=>⟨c3,az,aO,ak,X _ _ hK,bJ⟩⟩
theorem Y.skip(h:K .normal A):Y U .skip A K:=⟨λ_ _ C M=>wp_skip ⟨.normal,A,C,rfl,h,M⟩⟩
theorem Y.ret(h:K .ret A):Y U .ret A K:=⟨λ_ _ C M=>wp_ret ⟨.ret,A,C,rfl,h,M⟩⟩
theorem Y.exit{id:Nat}(h:K (.exit id) A):Y U (.exit id) A K:=⟨λ_ _ C M=>wp_exit ⟨.exit id,A,C,rfl,h,M⟩⟩
def zz(U:b7 P B am)(b:Code)(K:cK->aw->Prop):cK->aw->Prop
 |.normal,A=>Y U b A K
 |.exit id,A=>K (.exit id) A
 |.ret,A=>K .ret A
theorem Y.seq{a b:Code}(h:Y U a A (zz U b K)):Y U (.seq a b) A K :=
 ⟨λwB w C M=>wp_seq (wp_mono (h.run wB w C M) λe bv w' ⟨c3,az,aO,ak,hK,bJ⟩=>by
  subst ak
  cases c3 with
  |normal=>exact hK.run bv w' aO bJ
  |exit id=>exact⟨.exit id,az,aO,rfl,hK,bJ⟩
  |ret=>exact⟨.ret,az,aO,rfl,hK,bJ⟩)⟩
def Hc(id:Nat)(K:cK->aw->Prop):cK->aw->Prop
 |.normal,A=>K .normal A
 |.exit zA,A=>cond (Nat.beq zA id) (K .normal A) (K (.exit zA) A)
 |.ret,A=>K .ret A
theorem Y.block{id:Nat}{c:Code}(h:Y U c A (Hc id K)):Y U (.block id c) A K :=
 ⟨λwB w C M=>wp_block (wp_mono (h.run wB w C M) λe bv w' ⟨c3,az,aO,ak,hK,bJ⟩=>by
  subst ak
  cases c3 with
  |normal=>exact⟨.normal,az,aO,rfl,hK,bJ⟩
  |exit zA =>
   simp only[cK.f7,Exit.inBlock];by_cases kV:zA=id
   ·subst kV;rw[atH rfl];refine⟨.normal,az,aO,rfl,?_,bJ⟩;simpa[Hc]using hK
   rw[atG kV];refine⟨.exit zA,az,aO,rfl,?_,bJ⟩
   have:Nat.beq zA id=false:=by
    cases G:Nat.beq zA id with
    |false=>rfl
    |true=>exact absurd (avJ G) kV
   simpa[Hc,this]using hK
  |ret=>exact⟨.ret,az,aO,rfl,hK,bJ⟩)⟩
structure aq (d d':D):Prop where
 le:∀w C v,bf w C d v->bf w C d' v
theorem aq.refl(d:D):aq d d:=⟨λ_ _ _ h=>h⟩
theorem aq.of_eq(h:d=d'):aq d d':=h ▸ aq.refl d
theorem aq.any(d:D):aq d .any:=⟨λ_ _ v _=>.any v⟩
theorem aq.js(d:D):aq d d.js:=⟨λ_ _ _ h=>h.js⟩
def aK{α:Type}:List (Nat×α)->Nat->Option α
 |[],_=>none
 |(i,d)::r,j=>cond (Nat.beq j i) (some d) (aK r j)
def hq(l:List (Nat×D))(hs:List (Nat×aI)):aw:={t:=λj=>(aK l j).getD .any,H:=aK hs}
def jP(A:aw):List (Nat×D)->Prop
 |[]=>True
 |(i,d)::r=>aq (A.t i) d/\jP A r
def m2(A:aw):List (Nat×aI)->Prop
 |[]=>True
 |(s,o)::r=>A.H s=some o/\m2 A r
theorem aua{a:Nat}(h:Nat.beq a b=true):a=b:=avJ h
theorem jP.aK{A:aw}:∀{l:List (Nat×D)},jP A l->∀j,aq (A.t j) ((aK l j).getD .any)
 |[],_,j=>by simpa[Go.bS.aK]using aq.any _
 |(i,d)::r,h,j=>by simp only[Go.bS.aK];cases G:Nat.beq j i with|true=>have:=aua G;subst this;simpa using h.1|false=>simpa using jP.aK h.2 j
theorem m2.aK{A:aw}:∀{l:List (Nat×aI)},m2 A l->∀s o,aK l s=some o->A.H s=some o
 |[],_,s,o,h=>by simp[Go.bS.aK]at h
 |(i,d)::r,hs,s,o,h=>by simp only[Go.bS.aK]at h;cases G:Nat.beq s i with|true=>have:=aua G;subst this;rw[G]at h;simp at h;subst h;exact hs.1|false=>rw[G]at h;exact m2.aK hs.2 s o (by simpa using h)
theorem bG.Hd{l:List (Nat×D)}(h:bG U w C A a)(h1:jP A l)(z:m2 A hs):
  bG U w C (hq l hs) a :=
 ⟨λi=>(h1.aK i).le _ _ _ (h.tmps i),
  ⟨λs o ag=>h.heap.b' s o (z.aK s o ag),λs bp o bI b av aa aC=>h.heap.inj s bp o bI b av (z.aK s o aa) (z.aK bp bI aC),
   λs o b ag=>h.heap.cJ s o b (z.aK s o ag)⟩,h.size,h.defers,h.step⟩
theorem Y.loop{c:Code}{α:Type}(l:α->List (Nat×D))(hs:α->List (Nat×aI))(fz:α->Nat)(ey:α)(h1:jP A (l ey))(z:m2 A (hs ey))
  (round:∀x,Y U c (hq (l x) (hs x)) λe az=>match e with
   |.normal=>∃bU,fz bU<fz x/\jP az (l bU)/\m2 az (hs bU)|.exit id=>K (.exit id) az|.ret=>K .ret az):Y U (.loop c) A K :=
 ⟨λa w C M=>by
  have lV:=M.Hd h1 z;intro b k aA
  have key:∀n x,fz x=n->∀a w C,bG U w C (hq (l x) (hs x)) a->
    ∃e bv w',(∃c3 az aO,e=cK.f7 c3/\K c3 az/\bG U w' aO az bv)/\Arrives P (lone (b.at a (.code c::.inLoop c::k)) aA w) b k aA e bv w':=by
   intro n
   induction n using Nat.strongRecOn with
   |_ n aY =>
    intro x av a w C M;obtain⟨e,tF,tG,⟨c3,xY,tH,ak,hK,bJ⟩,oG⟩:=(round x).run a w C M b (.inLoop c::k) aA;subst ak
    cases c3 with
    |normal =>
     obtain⟨bU,bi,aa,aC⟩:=hK;obtain⟨DN,a₂,DO,DP,DQ⟩:=aY (fz bU) (av ▸ bi) bU rfl tF tG tH (bJ.Hd aa aC);exact⟨DN,a₂,DO,DP,.of_steps (Steps.trans oG (.one step_inLoop)) DQ⟩
    |exit id=>exact⟨_,tF,tG,⟨.exit id,xY,tH,rfl,hK,bJ⟩,.pass (x:=.inLoop c) rfl (λ_ _=>.inl (by simp[cK.f7])) oG⟩
    |ret=>exact⟨_,tF,tG,⟨.ret,xY,tH,rfl,hK,bJ⟩,.pass (x:=.inLoop c) rfl (λ_ _=>.inl (by simp[cK.f7])) oG⟩
  obtain⟨e,bv,w',I,oG⟩:=key _ ey rfl a w C lV
  exact⟨e,bv,w',I,.of_steps (.one step_loop) oG⟩⟩
end abt
inductive rG where
 |int (k:IntKind)
 |bool
 |O
 |slice (e:Nat)
 |struct
 |array (n e:Nat)
 |DR
structure bx where
 t:Nat
 agg:Bool
 aB:Nat
 bytes:Nat
 kind:rG
 o4:List (Nat×Nat×Bool)
 zero:Option (List D)
 u_:List rG:=[]
def dw:List bx->Nat->Option bx
 |[],_=>none
 |e::r,t=>cond (Nat.beq e.t t) (some e) (dw r t)
def pT:IntKind->IntKind->Bool
 |.i8,.i8|.i16,.i16|.i32,.i32|.i64,.i64|.u8,.u8|.u16,.u16|.u32,.u32|.u64,.u64=>true
 |_,_=>false
def RG:Value->D
 |.bool b=>.bool b
 |.int k n=>.int k n
 |.string s=>.O s.data.toList
 |.slice none 0 0=>.bh
 |v=>.an v
def aw.a8(A:aw):Operand->D
 |.tmp t=>A.t t
 |.const v=>RG v
 |.global g=>.an (.pointer (some ⟨g,0,none⟩))
 |.func f=>.fn (.func f) [] []
def aw.put(A:aw)(dst:Option Tmp)(d:D):aw :=
 match dst with
 |some t=>{t:=λj=>cond (Nat.beq j t) d (A.t j),H:=A.H}
 |none=>A
def aw.b2(A:aw)(s:Nat)(o:Option aI):aw:={t:=A.t,H:=λj=>cond (Nat.beq j s) o (A.H j)}
def iY(am:Nat):Option Tmp->Bool
 |some d=>Nat.blt d am
 |none=>true
def DS(d:D)(k:D->Prop):Prop :=
 match d with
 |.any=>k .any
 |.undef=>k .undef
 |.bool b=>k (.bool b)
 |.int q n=>k (.int q n)
 |.O s=>k (.O s)
 |.agg aA=>k (.agg aA)
 |.bh=>k .bh
 |.Q t q xs=>k (.Q t q xs)
 |.fn f a b=>k (.fn f a b)
 |.bl ds=>k (.bl ds)
 |.a7 q xs i o=>k (.a7 q xs i o)
 |.box s b o=>k (.box s b o)
 |.mn g d=>k (.mn g d)
 |.an v=>k (.an v)
theorem zB(d:D)(k:D->Prop):DS d k↔k d:=by cases d<;>rfl
def opn(h:Bool)(d:D)(k:D->Prop):Prop :=
 match d with
 |.mn g d'=>(h=true->g=true)/\DS d' k
 |d=>DS d k
def dk:IntKind->Int->Prop
 |.i8,n=>-128<=n/\n<=127
 |.i16,n=>-32768<=n/\n<=32767
 |.i32,n=>-2147483648<=n/\n<=2147483647
 |.i64,n=>-9223372036854775808<=n/\n<=9223372036854775807
 |.u8,n=>0<=n/\n<=255
 |.u16,n=>0<=n/\n<=65535
 |.u32,n=>0<=n/\n<=4294967295
 |.u64,n=>0<=n/\n<=18446744073709551615
def arith(h:Bool)(k:IntKind)(n:Int)(K:D->Prop):Prop:=((h=true->dk k n)/\K (.int k n))\/K (.int k (k.wrap n))
def qD(op:BinOp)(k:IntKind)(x y:Int):Int :=
 match op with
 |.and=>k.wrap (BitVec.ofInt k.bits x &&& BitVec.ofInt k.bits y).toNat
 |.or=>k.wrap (BitVec.ofInt k.bits x ||| BitVec.ofInt k.bits y).toNat
 |.xor=>k.wrap (BitVec.ofInt k.bits x ^^^ BitVec.ofInt k.bits y).toNat
 |_=>k.wrap (BitVec.ofInt k.bits x &&& ~~~BitVec.ofInt k.bits y).toNat
def DT(h:Bool)(op:BinOp)(k bC:IntKind)(a b:Int)(K:D->Prop):Prop :=
 match op with
 |.shl=>(h=true->0<=b)/\K (.int k (k.wrap (a*2 ^ min b.toNat k.bits)))
 |.shr=>(h=true->0<=b)/\K (.int k (a.fdiv (2 ^ min b.toNat k.bits)))
 |.add=>cond (pT k bC) (arith h k (a+b) K) False
 |.sub=>cond (pT k bC) (arith h k (a-b) K) False
 |.mul=>cond (pT k bC) (arith h k (a*b) K) False
 |.quo=>cond (pT k bC) ((h=true->b≠0)/\arith h k (a.tdiv b) K) False
 |.rem=>cond (pT k bC) ((h=true->b≠0)/\K (.int k (a.tmod b))) False
 |.and|.or|.xor|.andNot=>cond (pT k bC) (K (.int k (qD op k a b))) False
 |.eql=>cond (pT k bC) (K (.bool (a==b))) False
 |.neq=>cond (pT k bC) (K (.bool (a !=b))) False
 |.lss=>cond (pT k bC) (K (.bool (decide (a<b)))) False
 |.leq=>cond (pT k bC) (K (.bool (decide (a<=b)))) False
 |.gtr=>cond (pT k bC) (K (.bool (decide (b<a)))) False
 |.geq=>cond (pT k bC) (K (.bool (decide (b<=a)))) False
def Ld(h:Bool)(op:BinOp)(a b:atE)(K:D->Prop):Prop :=
 match op with
 |.add=>(h=true->(a.length:Int)+b.length<=9223372036854775807)/\K (.O (a++b))
 |.eql=>K (.bool (a==b))
 |.neq=>K (.bool (!(a==b)))
 |.lss=>K (.bool (Op.bytesLess a b))
 |.leq=>K (.bool (Op.bytesLess a b||a==b))
 |.gtr=>K (.bool (!(Op.bytesLess a b||a==b)))
 |.geq=>K (.bool (!Op.bytesLess a b))
 |_=>False
def RH(k:rG)(x y:D)(K:Bool->Prop):Prop :=
 match k,x,y with
 |.int _,.int k a,.int bC b=>cond (pT k bC) (K (a==b)) False
 |.O,.O a,.O b=>K (a==b)
 |.bool,.bool a,.bool b=>K (a==b)
 |_,_,_=>False
def Bu:List rG->List D->List D->(Bool->Prop)->Prop
 |[],[],[],K=>K true
 |k::ah,x::xs,y::a',K=>RH k x y λb=>Bu ah xs a' λc=>K (b&&c)
 |_,_,_,_=>False
def RI:rG->Bool
 |.bool=>true
 |_=>false
def He:rG->Bool
 |.struct=>true
 |_=>false
def Le(ay:List bx)(h:Bool)(op:BinOp)(t:Nat)(x y:D)(K:D->Prop):Prop :=
 match x,y with
 |.int k a,.int bC b=>DT h op k bC a b K
 |.O a,.O b=>Ld h op a b K
 |.bool a,.bool b =>
  match dw ay t with
  |none=>False
  |some e=>cond (RI e.kind) (match op with
   |.eql=>K (.bool (a==b))
   |.neq=>K (.bool (!(a==b)))
   |_=>False) False
 |.agg xs,.agg a' =>
  match dw ay t with
  |some e =>
   match op with
   |.eql=>cond (He e.kind&&!e.u_.isEmpty) (Bu e.u_ xs a' λb=>K (.bool b)) False
   |.neq=>cond (He e.kind&&!e.u_.isEmpty) (Bu e.u_ xs a' λb=>K (.bool (!b))) False
   |_=>False
  |none=>False
 |_,_=>False
def DU(e:bx)(off:Nat)(aA:List D)(K:D->Prop):Prop :=
 match e.agg with
 |true=>cond (Nat.beq off 0&&Nat.beq e.aB aA.length) (K (.agg aA)) (cond (Nat.ble (off+e.aB) aA.length) (K (.agg ((aA.drop off).take e.aB))) False)
 |false=>match aA[off]? with
  |some d=>K d
  |none=>False
def DV(e:bx)(k off:Nat)(x:D)(K:D->Prop):Prop :=
 match x with
 |.agg aA=>match e.agg with
  |true=>cond (Nat.beq off 0&&Nat.beq e.aB k) (K x) (cond (Nat.ble (off+e.aB) aA.length) (K (.agg ((aA.drop off).take e.aB))) False)
  |false=>match aA[off]? with
   |some d=>K d
   |none=>False
 |_=>cond (Nat.beq off 0&&!e.agg) (K x) False
def zC(ay:List bx)(A:aw)(h:Bool)(t:Nat)(x:D)(K:D->Prop):Prop :=
 match dw ay t with
 |none=>False
 |some e=>match x with
  |.a7 k xs i off=>∃y,(h=true->xs[i]?=some y)/\DV e k off y K
  |.box s b off=>match A.H s with
   |some (.box eh aA)=>b=eh/\DU e off aA K
   |_=>False
  |_=>False
def Lf(ay:List bx)(t:Nat)(x:D)(f:Nat)(K:D->Prop):Prop :=
 match dw ay t with
 |none=>False
 |some e=>match e.kind,e.o4[f]? with
  |.struct,some (o,aB,_)=>cond (Nat.beq aB 0) False (match x with
   |.a7 k xs i off=>K (.a7 k xs i (off+o))
   |.box s b off=>K (.box s b (off+o))
   |_=>False)
  |_,_=>False
def Lg(ay:List bx)(t:Nat)(x:D)(f:Nat)(K:D->Prop):Prop :=
 match dw ay t with
 |none=>False
 |some e=>match e.kind,e.o4[f]? with
  |.struct,some (o,aB,mq)=>match x with
   |.agg aA=>match mq with
    |true=>cond (Nat.ble (o+aB) aA.length) (K (.agg ((aA.drop o).take aB))) False
    |false=>match aA[o]? with
     |some d=>K d
     |none=>False
   |_=>False
  |_,_=>False
def Lh(ay:List bx)(h:Bool)(t:Nat)(x fV:D)(K:D->Prop):Prop :=
 match dw ay t with
 |none=>False
 |some e=>match e.kind with
  |.slice bH=>match dw ay bH with
   |none=>False
   |some aF=>match x,fV with
    |.Q _ k xs,.int _ i=>cond (Nat.beq k aF.aB) ((h=true->0<=i/\i<(xs.length:Int))/\K (.a7 k xs i.toNat 0)) False
    |_,_=>False
  |_=>False
def Li(ay:List bx)(h:Bool)(t:Nat)(x fV:D)(K:D->Prop):Prop :=
 match dw ay t with
 |none=>False
 |some e=>match e.kind with
  |.O=>match x,fV with
   |.O s,.int _ i=>∃c:UInt8,(h=true->0<=i/\s[i.toNat]?=some c)/\K (.int .u8 c.toNat)
   |_,_=>False
  |_=>False
def Hf(h:Bool)(A:aw)(x:Option Operand)(k:Int->Prop):Prop :=
 match x with
 |none=>k 0
 |some x=>opn h (A.a8 x) λd=>match d with|.int _ i=>k i|_=>False
def Hg(h:Bool)(A:aw)(x:Option Operand)(n:Int)(k:Int->Prop):Prop :=
 match x with
 |none=>k n
 |some x=>opn h (A.a8 x) λd=>match d with|.int _ i=>k i|_=>False
def Lj(ay:List bx)(h:Bool)(A:aw)(t:Nat)(x:D)(lk hi qE:Option Operand)(K:D->Prop):Prop :=
 match dw ay t with
 |none=>False
 |some e=>match e.kind with
  |.O=>match x with
   |.O s=>Hf h A lk λl=>Hg h A hi s.length λr=>match qE with
    |none=>(h=true->0<=l/\l<=r/\r<=(s.length:Int))/\K (.O ((s.take r.toNat).drop l.toNat))
    |some _=>False
   |_=>False
  |.slice bH=>match dw ay bH with
   |none=>False
   |some aF=>match x with
    |.Q _ k xs=>cond (Nat.beq k aF.aB) (Hf h A lk λl=>Hg h A hi xs.length λr=>match qE with
     |none=>(h=true->0<=l/\l<=r/\r<=(xs.length:Int))/\K (.Q .none k ((xs.take r.toNat).drop l.toNat))
     |some m=>cond hi.isSome (opn h (A.a8 m) λd=>match d with
      |.int _ m=>(h=true->m=r/\0<=l/\l<=r/\r<=(xs.length:Int))/\K (.Q .dU k ((xs.take r.toNat).drop l.toNat))
      |_=>False) False) False
    |_=>False
  |_=>False
def zD(h:Bool)(A:aw):List Operand->(List D->Prop)->Prop
 |[],k=>k []
 |x::r,k=>opn h (A.a8 x) λd=>zD h A r λds=>k (d::ds)
def sF(aA:List D)(off:Nat)(ds:List D):List D:=aA.take off++ds++aA.drop (off+ds.length)
def iF:List D->Nat->D->List D
 |[],_,_=>[]
 |_::r,0,d=>d::r
 |c::r,n+1,d=>c::iF r n d
def D.one:D->Bool
 |.bool _|.int ..|.O _|.bh|.Q ..|.fn ..|.a7 ..|.box ..=>true
 |.an v=>v.oneCell'
 |_=>false
def Bv(e:bx)(off:Nat)(aA:List D)(x:D)(K:List D->Prop):Prop :=
 match e.agg with
 |true=>match x with
  |.agg ds=>cond (Nat.beq ds.length e.aB&&Nat.ble (off+ds.length) aA.length&&ds.all D.one) (K (sF aA off ds)) False
  |_=>False
 |false=>cond (Nat.blt off aA.length&&x.one&&Nat.beq e.aB 1) (K (iF aA off x)) False
def zE(o4:List (Nat×Nat×Bool))(aA:List D):List (Nat×D)->(List D->Prop)->Prop
 |[],K=>K aA
 |(i,d)::r,K=>match o4[i]? with
  |none=>False
  |some (o,aB,mq)=>match mq with
   |true=>match d with
    |.agg ds=>cond (Nat.beq ds.length aB&&Nat.ble (o+aB) aA.length) (zE o4 (sF aA o ds) r K) False
    |_=>False
   |false=>cond (Nat.blt o aA.length&&d.one&&Nat.beq aB 1) (zE o4 (iF aA o d) r K) False
def zF(h:Bool)(A:aw):List (Nat×Operand)->(List (Nat×D)->Prop)->Prop
 |[],k=>k []
 |(i,x)::r,k=>opn h (A.a8 x) λd=>zF h A r λds=>k ((i,d.js)::ds)
def tI(k:Nat):Nat->List (Nat×D)->Prop
 |_,[]=>True
 |n,(i,d)::r=>cond (Nat.beq i n&&(match d with|.agg ds=>Nat.beq ds.length k&&ds.all D.one|d=>d.one&&Nat.beq k 1)) (tI k (n+1) r) False
def dL:List D->List D->Prop
 |[],[]=>True
 |a::r,b::s=>aq a b/\dL r s
 |_,_=>False
def sG(s:ByteArray):Nat->Nat->List Int
 |0,_=>[]
 |f+1,i=>if i<s.size then Int.ofNat (Utf8.decode s i).1::sG s f (i+(Utf8.decode s i).2)else[]
def ik(s:atE):List Int:=sG ⟨⟨s⟩⟩ s.length 0
def cw(zs:List Int):atE:=zs.flatMap λn=>(Utf8.encode n).data.toList
def Hh:rG->Bool
 |.int .i32=>true
 |_=>false
def Lk(ay:List bx)(oH dst:Nat)(x:D)(K:D->Prop):Prop :=
 match dw ay oH,dw ay dst with
 |some a,some b=>match a.kind,b.kind,x with
  |.int _,.int k,.int _ n=>((dk k n)/\K (.int k n))\/K (.int k (k.wrap n))
  |.O,.O,.O s=>K (.O s)
  |.int _,.O,.int _ n=>K (.O (Utf8.encode n).data.toList)
  |.O,.slice bH,.O s=>match dw ay bH with
   |some aF=>cond (Hh aF.kind&&Nat.beq aF.aB 1) (s.length<=70368744177664/\K (.Q .none 1 ((ik s).map (D.int .i32)))) False
   |none=>False
  |.slice bH,.O,.Q _ k xs=>match dw ay bH with
   |some aF=>cond (Hh aF.kind&&Nat.beq k 1) (∃zs:List Int,xs=zs.map (D.int .i32)/\K (.O (cw zs))) False
   |none=>False
  |_,_,_=>False
 |_,_=>False
def pU(P:Program)(B:World)(ay:List bx)(A:aw)(h:Bool)(o:Op)(K:D->Prop):Prop :=
 match o with
 |.move x|.assign x=>opn h (A.a8 x) K
 |.pick c a b=>opn h (A.a8 c) λc=>match c with
  |.bool g=>match A.a8 a,A.a8 b with
   |.bool x,.bool y=>K (.bool (bif g then x else y))
   |.bool x,.mn u' (.bool y)=>(h=true->g=false->u'=true)/\K (.bool (bif g then x else y))
   |.mn u' (.bool x),.bool y=>(h=true->g=true->u'=true)/\K (.bool (bif g then x else y))
   |_,_=>False
  |_=>False
 |.binOp op t x y _=>opn h (A.a8 x) λx=>opn h (A.a8 y) λy=>Le ay h op t x y K
 |.unOp op _ x=>opn h (A.a8 x) λx=>match op,x with
  |.not,.bool b=>K (.bool (!b))
  |.neg,.int k n=>arith h k (0-n) K
  |_,_=>False
 |.load t x=>opn h (A.a8 x) λx=>zC ay A h t x K
 |.fieldAddr t x f=>opn h (A.a8 x) λx=>Lf ay t x f K
 |.field t x f=>opn h (A.a8 x) λx=>Lg ay t x f K
 |.indexAddr t x fV=>opn h (A.a8 x) λx=>opn h (A.a8 fV) λfV=>Lh ay h t x fV K
 |.index t x fV=>opn h (A.a8 x) λx=>opn h (A.a8 fV) λfV=>Li ay h t x fV K
 |.slice t x lk hi qE=>opn h (A.a8 x) λx=>Lj ay h A t x lk hi qE K
 |.convert oH dst x=>opn h (A.a8 x) λx=>Lk ay oH dst x K
 |.build t bP=>match dw ay t with
  |some e=>match e.zero,e.kind with
   |some V,.struct=>zF h A bP.toList λds=>zE e.o4 V ds λaA=>K (.agg aA)
   |_,_=>False
  |none=>False
 |.buildSlice t n bP=>match dw ay t with
  |some e=>match e.kind with
   |.slice bH=>match dw ay bH with
    |some aF=>zF h A bP.toList λds=>cond (Nat.beq ds.length n&&Nat.ble (n*aF.aB) 16777216&&Nat.blt 0 aF.aB&&aF.zero.isSome) (tI aF.aB 0 ds/\K (.Q .dU aF.aB (ds.map (·.2)))) False
    |none=>False
   |_=>False
  |none=>False
 |.makeFunc f first oF=>zD h A first.toList λbW=>zD h A oF.toList λaA=>K (.fn f bW aA)
 |.extract x i=>opn h (A.a8 x) λx=>match x with
  |.bl ds=>match ds[i]? with
   |some d=>K d
   |none=>False
  |_=>False
 |.call c=>match c.callee,c.args.toList with
  |.builtin .len,[x]=>opn h (A.a8 x) λx=>match c.argTypes.toList with
   |[t]=>match dw ay t with
    |some e=>match e.kind,x with
     |.O,.O s=>K (.int .i64 s.length)
     |.slice _,.Q _ _ xs=>K (.int .i64 xs.length)
     |.slice _,.bh=>K (.int .i64 0)
     |.slice _,.an (.slice _ n _)=>K (.int .i64 (n:Nat))
     |_,_=>False
    |none=>False
   |_=>False
  |.builtin .max,[x,y]=>opn h (A.a8 x) λx=>opn h (A.a8 y) λy=>match x,y with
   |.int k a,.int _ b=>K (.int k (if b>a then b else a))
   |_,_=>False
  |.builtin .min,[x,y]=>opn h (A.a8 x) λx=>opn h (A.a8 y) λy=>match x,y with
   |.int k a,.int _ b=>K (.int k (if b<a then b else a))
   |_,_=>False
  |.value f,args=>opn h (A.a8 f) λf=>match f with
   |.fn (.func b6) first cq=>zD h A args λwC=>∃g2 d,(h=true->m0 P B b6 g2 d)/\dL (first++wC++cq) g2/\K d
   |_=>False
  |_,_=>False
 |.nilCheck x=>opn h (A.a8 x) λx=>match x with
  |.box s b o=>K (.box s b o)
  |.a7 k xs i o=>K (.a7 k xs i o)
  |_=>False
 |_=>False
def Op.Bw:Op->Bool
 |.move _|.assign _|.pick ..|.binOp ..|.unOp ..|.load ..|.fieldAddr ..|.field ..|.indexAddr ..|.index ..|.slice ..|.convert ..|.build ..|.buildSlice ..
 |.makeFunc ..|.extract ..|.nilCheck _=>true
 |.call c=>match c.callee with
  |.builtin .len|.builtin .max|.builtin .min|.value _=>true
  |_=>false
 |_=>false
def RJ(ay:List bx)(A:aw)(dst:Nat)(t:Nat)(s x:D)(K:aw->Prop):Prop :=
 match dw ay t with
 |none=>False
 |some e=>match e.kind with
  |.slice bH=>match dw ay bH with
   |none=>False
   |some aF =>
    let go (A:aw) (xs:List D):Prop:=match x with
     |.Q _ bC a'=>cond (Nat.beq bC aF.aB&&Nat.blt 0 aF.aB) ((xs.length+a'.length)*aF.bytes<=140737488355328/\xs.length+a'.length<=9223372036854775807/\aF.zero≠none/\
       ∀v:Value,K ((A.b2 dst (some (.own v (xs.length+a'.length) aF.aB bH))).put (some dst) (.Q (.own dst v) aF.aB (xs++a')))) False
     |_=>False
    match s with
    |.bh=>go A []
    |.Q .dU k xs=>cond (Nat.beq k aF.aB) (go A xs) False
    |.Q (.own q v) k xs=>match A.H q with
     |some (.own c' h5 bC oI)=>cond (Nat.beq k aF.aB&&Nat.beq bC aF.aB&&Nat.beq oI bH) (v=c'/\h5=xs.length/\go (A.b2 q none) xs) False
     |_=>False
    |_=>False
  |_=>False
def n1(P:Program)(B:World)(ay:List bx)(A:aw)(dst:Option Tmp)(op:Op)(K:aw->Prop):Prop :=
 match op with
 |.move x|.assign x=>DS (A.a8 x) λd=>K (A.put dst d)
 |.alloc e=>match dw ay e,dst with
  |some ca,some s=>match ca.zero with
   |some V=>∀b:Nat,K ((A.b2 s (some (.box b V))).put (some s) (.box s b 0))
   |none=>False
  |_,_=>False
 |.box e x=>match dw ay e,dst with
  |some ca,some s=>match ca.agg with
   |true=>match A.a8 x with
    |.agg aA=>∀b:Nat,K ((A.b2 s (some (.box b aA))).put (some s) (.box s b 0))
    |_=>False
   |false=>cond (A.a8 x).one (∀b:Nat,K ((A.b2 s (some (.box b [A.a8 x]))).put (some s) (.box s b 0))) False
  |_,_=>False
 |.store t a x=>match dw ay t,A.a8 a with
  |some e,.box s b off=>match A.H s with
   |some (.box eh aA)=>b=eh/\Bv e off aA (A.a8 x) λdt=>K ((A.b2 s (some (.box b dt))).put dst .undef)
   |_=>False
  |_,_=>False
 |.call c=>match c.callee,c.args.toList,c.argTypes.toList,dst with
  |.builtin .append,[s,x],[t,DW],some dst=>cond (Nat.beq t DW) (RJ ay A dst t (A.a8 s) (A.a8 x) K) False
  |_,_,_,_=>pU P B ay A true (.call c) λd=>K (A.put dst d)
 |op=>pU P B ay A true op λd=>K (A.put dst d)
def jQ(P:Program)(B:World)(ay:List bx)(am:Nat)(ops:Array Oper):List Oper->aw->(aw->Prop)->Prop
 |[],A,K=>K A
 |⟨dst,op,_,_,_,guard⟩::rest,A,K=>cond (iY am dst) (match guard with
  |none=>n1 P B ay A dst op λaz=>jQ P B ay am ops rest az K
  |some (j,iG)=>match(ops[j]?).bind (·.dst)with
   |none=>False
   |some g=>match A.t g with
    |.bool b=>match iG with
     |true=>pU P B ay A b op λd=>jQ P B ay am ops rest (A.put dst (.mn b d)) K
     |false=>pU P B ay A (!b) op λd=>jQ P B ay am ops rest (A.put dst (.mn (!b) d)) K
    |.mn c (.bool b)=>match iG with
     |true=>pU P B ay A (c&&b) op λd=>jQ P B ay am ops rest (A.put dst (.mn (c&&b) d)) K
     |false=>pU P B ay A (c&&!b) op λd=>jQ P B ay am ops rest (A.put dst (.mn (c&&!b) d)) K
    |_=>False) False
def Bx:List D->List Value->Bool
 |[],[]=>true
 |d::ds,v::vs=>(match d,v with
  |.int k n,.int bC h5=>decide (k=bC)&&n==h5
  |.bool b,.bool eh=>b==eh
  |.O [],.string s=>s.data.toList.isEmpty
  |.bh,.slice none 0 0=>true
  |.an .nilFunc,.nilFunc=>true
  |.an (.pointer none),.pointer none=>true
  |.an (.map none),.map none=>true
  |.an .nilIface,.nilIface=>true
  |_,_=>false)&&Bx ds vs
 |_,_=>false
theorem db.nil(w:World)(C:Nat->Nat):db w C [] []:=⟨rfl,λi d v h=>by simp at h⟩
variable{ds:List D}
theorem db.cons{vs:List Value}(h:bf w C d v)(ae:db w C ds vs):db w C (d::ds) (v::vs) :=
 ⟨by simp[ae.1],λi d' c' h1 z=>by
  cases i with
  |zero=>simp at h1 z;subst h1;subst z;exact h
  |succ i=>exact ae.2 i d' c' (by simpa using h1) (by simpa using z)⟩
theorem db.head{vs:List Value}(h:db w C (d::ds) (v::vs)):bf w C d v:=h.2 0 d v rfl rfl
theorem db.tail{vs:List Value}(h:db w C (d::ds) (v::vs)):db w C ds vs :=
 ⟨by simpa using h.1,λi d' c' h1 z=>h.2 (i+1) d' c' (by simpa using h1) (by simpa using z)⟩
theorem RL:∀{V:List D} {vs:List Value},Bx V vs=true->∀w C,db w C V vs
 |[],[],_,w,C=>.nil w C
 |d::ds,v::vs,h,w,C=>by simp only[Bx,atM]at h;refine .cons ?_ (RL h.2 w C);have h1:=h.1;split at h1;simp only[atM,aup,avn]at h1;obtain⟨rfl,rfl⟩:=h1;exact .int _ _;simp only[avn]at h1;subst h1;exact .bool _;rename_i s;obtain⟨⟨l⟩⟩:=s;(have:l=[]:=by simpa using h1);subst this;exact .O [];exact .bh;exact .an _;exact .an _;exact .an _;exact .an _;cases h1
 |[],_::_,h,_,_=>by simp[Bx]at h
 |_::_,[],h,_,_=>by simp[Bx]at h
def wD(P:Program)(t:TypeId):Option Bool :=
 match P.underlying t with
 |some (.struct _)|some (.array _ _)=>some true
 |some _=>some false
 |none=>none
def tJ(P:Program):List Field->List (Nat×Nat×Bool)->Bool
 |[],[]=>true
 |f :: bW,(o,aB,mq) :: r => Nat.beq f.offset o && (match P.info? f.type with|some i => Nat.beq i.size aB|none => false) && (wD P f.type == some mq) && f.name != "_" && tJ P bW r
 |_,_=>false
def Hi(P:Program)(t:TypeId)(k:rG):Bool :=
 match k,P.underlying t with
 |.int k,some (.int bC)=>decide (k=bC)
 |.bool,some .bool=>true
 |.O,some .string=>true
 |_,_=>false
def wE(P:Program):List Field->List rG->Nat->Bool
 |[],[],_=>true
 |f :: bW,k :: ah,n => Nat.beq f.offset n && Hi P f.type k && f.name != "_" && wE P bW ah (n + 1)
 |_,_,_=>false
def xZ(P:Program)(e:bx):Bool :=
 match e.kind,P.underlying e.t with
 |.int k,some (.int bC)=>decide (k=bC)&&!e.agg
 |.bool,some .bool=>!e.agg
 |.O,some .string=>!e.agg
 |.slice bH,some (.slice Ll)=>Nat.beq bH Ll&&!e.agg
 |.struct,some (.struct bW)=>e.agg&&tJ P bW.toList e.o4&&!P.stoodInHeld e.t&&!P.eqGuardType P.depth e.t&&(e.u_.isEmpty||wE P bW.toList e.u_ 0)
 |.array n bH,some (.array h5 Ll)=>Nat.beq n h5&&Nat.beq bH Ll&&e.agg
 |.DR,some (.struct _)|.DR,some (.array _ _)|.DR,none=>false
 |.DR,some _=>!e.agg
 |_,_=>false
def bx.Lm(P:Program)(e:bx):Bool :=
 (match P.info? e.t with
 |some i=>Nat.beq i.size e.aB&&Nat.beq i.bytes e.bytes&&(match e.zero with|none=>true|some V=>(match i.zero with|some v=>Bx V v.cells.toList&&Nat.beq V.length e.aB|none=>false))
 |none=>false)&&xZ P e
structure bx.gk (P:Program) (e:bx):Prop where
 qF:∃i,P.info? e.t=some i/\i.size=e.aB/\i.bytes=e.bytes/\∀V,e.zero=some V->∃v,i.zero=some v/\V.length=e.aB/\∀w C,db w C V v.cells.toList
 kind:xZ P e=true
theorem bx.abu{e:bx}(h:e.Lm P=true):e.gk P:=by unfold bx.Lm at h;rw[atM]at h;refine⟨?_,h.2⟩;have h1:=h.1;split at h1;rename_i i hi;simp only[atM]at h1;obtain⟨⟨z,aa⟩,aC⟩:=h1;refine⟨i,hi,aua z,aua aa,λV bz=>?_⟩;rw[bz]at aC;simp only at aC;split at aC;rename_i v W;rw[atM]at aC;exact⟨v,W,aua aC.2,RL aC.1⟩;cases aC;cases h1
def dg(P:Program)(ay:List bx):Prop:=∀e∈ay,e.gk P
theorem dg.va{ay:List bx}(h:ay.all (bx.Lm P)=true):dg P ay:=λe ak=>bx.abu (auC.1 h e ak)
theorem RM:∀{ay:List bx} {t:Nat} {e:bx},dw ay t=some e->e∈ay/\e.t=t
 |[],_,_,h=>by simp[dw]at h
 |x::r,t,e,h=>by simp only[dw]at h;cases G:Nat.beq x.t t with|true=>rw[G]at h;simp at h;subst h;exact⟨atS,aua G⟩|false=>rw[G]at h;have:=RM (ay:=r) (by simpa using h);exact⟨atU _ this.1,this.2⟩
variable{t:Nat}
theorem dg.get{ay:List bx}(h:dg P ay){e:bx}(ak:dw ay t=some e):e.gk P/\e.t=t:=by have:=RM ak;exact⟨h e this.1,this.2⟩
section kinds
variable{e:bx}(h:e.gk P)
include h
theorem bx.gk.size(w:World):(sizeOf e.t).run P w=.ok e.aB w:=by obtain⟨i,hi,hs,_⟩:=h.qF;simp[sizeOf,typeInfo,hi,hs]
theorem bx.gk.cellsOf:P.cellsOf e.t=e.aB:=by obtain⟨i,hi,hs,_⟩:=h.qF;simp[Program.cellsOf,hi,hs]
theorem bx.gk.sH{k:IntKind}(X:e.kind=.int k):P.underlying e.t=some (.int k):=axV
theorem bx.gk.pV(X:e.kind=.O):P.underlying e.t=some .string:=axV
theorem bx.gk.abv(X:e.kind=.bool):P.underlying e.t=some .bool:=axV
theorem bx.gk.ky{bH:Nat}(X:e.kind=.slice bH):P.underlying e.t=some (.slice bH):=axV
theorem bx.gk.By(X:e.kind=.struct):∃bW,P.underlying e.t=some (.struct bW)/\tJ P bW.toList e.o4=true/\e.agg=true/\P.stoodInHeld e.t=false/\P.eqGuardType P.depth e.t=false/\(e.u_=[]\/wE P bW.toList e.u_ 0=true):=axV
theorem bx.gk.isAgg(w:World):(isAgg e.t).run P w=.ok e.agg w:=by
 have:=h.kind;unfold xZ at this
 unfold Go.isAgg;simp only[Sem.run_bind];split at this
 all_goals first
  |(rename_i ao;simp[run_underlying ao];simp_all;done)
  |(simp at this;done)
  |skip
end kinds
theorem o5(b o n:Nat):(⟨b,o,none⟩:Addr).add n=⟨b,o+n,none⟩:=by unfold Addr.add;split;rename_i h;subst h;rfl;rfl
variable{h:Bool}
theorem iZ{k:D->Prop}(cy:opn h d k):∃d',k d'/\(h=true->∀w C v,bf w C d v->bf w C d' v):=by unfold opn at cy;split at cy;rename_i g d';refine⟨d',(zB _ _).1 cy.2,λax w C v ae=>?_⟩;have aT:=cy.1 ax;subst aT;(cases ae with|pO _ _ h=>exact h);exact⟨_,(zB _ _).1 cy,λ_ _ _ _ ae=>ae⟩
theorem wF{k:Nat}:∀{xs:List D} (_:∀x∈xs,x.cells.length=k) {i:Nat} {x:D} (_:xs[i]?=some x) {j:Nat} (_:j<k),(b1 xs)[i*k+j]?=x.cells[j]?
 |[],_,i,x,F,j,_=>by simp at F
 |y::a',X,i,x,F,j,Z=>by have hy:y.cells.length=k:=X y atS;simp only[b1,auJ];cases i with|zero =>simp at F;subst F;rw[Nat.zero_mul,aut,atZ atv]|succ i =>(have Bz:a'[i]?=some x:=by simpa using F);have aY:=wF (xs:=a') (λV bz=>X V (atU _ bz)) Bz Z;rw[aul (by rw[hy,avR];omega),hy,avR];rw[show i*k+k+j-k=i*k+j from by omega];exact aY
variable{k:Nat}{xs:List D}
theorem bf.kz{t:iD}(h:bf w C (.Q t k xs) v): (xs=[]/\(∃a,v=.slice a 0 0)/\t.gk v)\/∃(b o cap:Nat) (g:Nat->Value),v=.slice (some ⟨b,o,none⟩) xs.length cap/\t.gk v/\b<w.heap.size/\xs.length<=cap/\cap<=maxLen/\(∀x∈xs,x.cells.length=k)/\o+xs.length*k<=C b/\(∀(j:Nat) d,(b1 xs)[j]?=some d->w.cell? ⟨b,o+j,none⟩=some (g j))/\(∀(j:Nat) d,(b1 xs)[j]?=some d->(g j).oneCell'=true)/\(∀(j:Nat) d,(b1 xs)[j]?=some d->bf w C d (g j)):=by cases h with|jr t k a ax=>exact .inl ⟨rfl,⟨a,rfl⟩,ax⟩|Q t k xs b o cap g ax G hc hm X c6 gd ef h=>exact .inr ⟨b,o,cap,g,rfl,ax,G,hc,hm,X,c6,gd,ef,h⟩
def hM(P:Program)(d:D)(w:World)(C:Nat->Nat):Result Next->Prop
 |.ok (.value v) w'=>∃aO,bf w' aO d v/\c7 (λ_=>False) w C w' aO
 |.ok (.enter f args) w'=>w'=w/\Calls P f args w λe rF=>∃v lU,e=.returned v/\bf rF lU d v/\c7 (λ_=>False) w C rF lU
 |_=>False
theorem hM.same(h:bf w C d v):hM P d w C (.ok (.value v) w):=⟨C,h,.refl _ _ _⟩
theorem Hj{k bC:IntKind}(h:pT k bC=true):k=bC:=by cases k<;>cases bC<;>first|rfl|cases h
theorem Ln{k:IntKind}{n:Int}(h:dk k n):k.wrap n=n:=by cases k<;>simp only[dk]at h<;>simp[IntKind.wrap,IntKind.bits,IntKind.signed]<;>omega
theorem DX{k:IntKind}{n:Int}{K:D->Prop}(cy:arith h k n K):∃m,K (.int k m)/\(h=true->m=k.wrap n):=by rcases cy with⟨h1,z⟩|z;exact⟨n,z,λax=>(Ln (h1 ax)).symm⟩;exact⟨_,z,λ_=>rfl⟩
variable{p:Prop}
theorem il{c:Bool}(h:cond c p False):c=true/\p:=by cases c;exact h.elim;exact⟨rfl,h⟩
theorem zG(op:BinOp)(t:TypeId)(x y:Operand)(a b:Value)(w:World)(ha:∀aA,a≠.agg aA)(av:a≠.nilIface): (eqGuard op t x y a b).run P w=.ok () w:=by unfold eqGuard;cases a<;>cases b<;>first|(exact absurd rfl av)|(exact absurd rfl (ha _))|(cases op<;>simp)
theorem abw(a b:atE):((⟨⟨a⟩⟩:ByteArray)++⟨⟨b⟩⟩)=⟨⟨a++b⟩⟩:=by apply ByteArray.ext;simp
section DT
variable{op:BinOp}{k bC:IntKind}{a b:Int}{K:D->Prop}
theorem abx(I:DT h op k bC a b K):∃d,K d/\(h=true->∃v,(∀t w,(binOp op t (.int k a) (.int bC b)).run P w=.ok v w)/\∀w C,bf w C d v):=by
 cases op<;>simp only[DT]at I
 case shl=>obtain⟨h1,z⟩:=I;exact⟨_,z,λax=>⟨_,λt w=>by simp[binOp,Op.shift,Int.not_lt.2 (h1 ax)],λ_ _=>.int _ _⟩⟩
 case shr=>obtain⟨h1,z⟩:=I;exact⟨_,z,λax=>⟨_,λt w=>by simp[binOp,Op.shift,Int.not_lt.2 (h1 ax)],λ_ _=>.int _ _⟩⟩
 all_goals (replace I:=il I;obtain⟨X,I⟩:=I;obtain rfl:=Hj X)
 case add=>obtain⟨m,h1,z⟩:=DX I;exact⟨_,h1,λax=>⟨_,λt w=>by simp[binOp,Op.intArith,<-z ax],λ_ _=>.int _ _⟩⟩
 case sub=>obtain⟨m,h1,z⟩:=DX I;exact⟨_,h1,λax=>⟨_,λt w=>by simp[binOp,Op.intArith,<-z ax],λ_ _=>.int _ _⟩⟩
 case mul=>obtain⟨m,h1,z⟩:=DX I;exact⟨_,h1,λax=>⟨_,λt w=>by simp[binOp,Op.intArith,<-z ax],λ_ _=>.int _ _⟩⟩
 case quo=>obtain⟨m,h1,z⟩:=DX I.2;exact⟨_,h1,λax=>⟨_,λt w=>by simp[binOp,Op.intDiv,<-z ax,I.1 ax],λ_ _=>.int _ _⟩⟩
 case rem=>exact⟨_,I.2,λax=>⟨_,λt w=>by simp[binOp,Op.intDiv,I.1 ax],λ_ _=>.int _ _⟩⟩
 case and=>exact⟨_,I,λ_=>⟨_,λt w=>by simp[binOp,Op.intBits,qD],λ_ _=>.int _ _⟩⟩
 case or=>exact⟨_,I,λ_=>⟨_,λt w=>by simp[binOp,Op.intBits,qD],λ_ _=>.int _ _⟩⟩
 case xor=>exact⟨_,I,λ_=>⟨_,λt w=>by simp[binOp,Op.intBits,qD],λ_ _=>.int _ _⟩⟩
 case andNot=>exact⟨_,I,λ_=>⟨_,λt w=>by simp[binOp,Op.intBits,qD],λ_ _=>.int _ _⟩⟩
 all_goals exact⟨_,I,λ_=>⟨.bool _,λt w=>by simp[binOp,Op.intCmp],λ_ _=>.bool _⟩⟩
end DT
theorem aby{op:BinOp}{a b:atE}{K:D->Prop}(I:Ld h op a b K):
  ∃d,K d/\(h=true->∃v,(∀t w,(binOp op t (.string ⟨⟨a⟩⟩) (.string ⟨⟨b⟩⟩)).run P w=.ok v w)/\∀w C,bf w C d v):=by
 cases op<;>simp only[Ld]at I
 case add =>
  refine⟨_,I.2,λax=>⟨_,λt w=>?_,λ_ _=>.O _⟩⟩;have h1:=I.1 ax
  have z:¬(IntKind.i64.max<(((⟨⟨a⟩⟩:ByteArray).size+(⟨⟨b⟩⟩:ByteArray).size:Nat):Int)):=by
   simp only[IntKind.max,IntKind.signed,IntKind.bits,ByteArray.size,auH]
   push_cast
   simp;omega
  simp only[binOp,Op.stringOp,gt_iff_lt,atG z,abw];rfl
 all_goals first
  |exact False.elim I
  |exact⟨_,I,λ_=>⟨.bool _,λt w=>by simp[binOp,Op.stringOp,ByteArray.toList_eq],λ_ _=>.bool _⟩⟩
theorem Hk{t:TypeId}{b:Bool}(h:wD P t=some b)(w:World):(isAgg t).run P w=.ok b w:=by unfold wD at h;unfold Go.isAgg;cases N:P.underlying t with|none=>simp[N]at h|some d=>simp only[Sem.run_bind,run_underlying N,Result.andThen_ok];cases d<;>simp_all
theorem Hl:∀{bW:List Field} {r:List (Nat×Nat×Bool)} (_:tJ P bW r=true) {i:Nat} {o aB:Nat} {mq:Bool} (_:r[i]?=some (o,aB,mq)),∃f,bW[i]?=some f/\f.offset = o/\(∃qG,P.info? f.type = some qG/\qG.size = aB)/\wD P f.type = some mq/\f.name ≠ "_"
 |[],[],_,i,o,aB,mq,ae=>by simp at ae
 |f::bW,(bI,ard,are)::r,h,i,o,aB,mq,ae=>by simp only[tJ,atM]at h;obtain⟨⟨⟨⟨h1,z⟩,aa⟩,aC⟩,a_⟩:=h;cases i with|zero =>simp at ae;obtain⟨rfl,rfl,rfl⟩:=ae;refine⟨f,rfl,aua h1,?_,by simpa using aa,by simpa using aC⟩;split at z;rename_i qG hi;exact⟨qG,hi,aua z⟩;cases z|succ i=>exact Hl a_ (i:=i) (by simpa using ae)
 |[],_::_,h,_,_,_,_,_=>by simp[tJ]at h
 |_::_,[],h,_,_,_,_,_=>by simp[tJ]at h
theorem zH{t:TypeId}{i:TypeInfo}(h:P.info? t=some i)(w:World):(sizeOf t).run P w=.ok i.size w:=by simp[sizeOf,typeInfo,h]
theorem abz(w:World)(b o n:Nat)(vs:List Value)(al:vs.length=n)(h:∀(j:Nat) v,vs[j]?=some v->w.cell? ⟨b,o+j,none⟩=some v): (loadCells ⟨b,o,none⟩ n).run P w=.ok ⟨vs⟩ w:=by subst al;exact run_loadCells_list w ⟨b,o,none⟩ vs (λj v W=>by rw[o5];exact h j v W)
theorem Lo{e:bx}(ak:e.gk P)(kW:e.agg=true)(w:World)(b o:Nat)(vs:List Value)(al:vs.length=e.aB)(h:∀(j:Nat) v,vs[j]?=some v->w.cell? ⟨b,o+j,none⟩=some v): (Instr.loadAt e.t (.pointer (some ⟨b,o,none⟩))).run P w=.ok (.agg ⟨vs⟩) w:=by simp only[Instr.loadAt,Instr.sureAddr,Sem.run_bind,Sem.run_pure,Result.andThen_ok,loadVar,ak.isAgg,kW,auT,ak.size,abz (P:=P) w b o e.aB vs al h]
theorem Lp{e:bx}(ak:e.gk P)(kW:e.agg=false)(w:World)(b o:Nat)(v:Value)(h:w.cell? ⟨b,o,none⟩=some v): (Instr.loadAt e.t (.pointer (some ⟨b,o,none⟩))).run P w=.ok v w:=by simp only[Instr.loadAt,Instr.sureAddr,Sem.run_bind,Sem.run_pure,Result.andThen_ok,loadVar,ak.isAgg,kW,auR,avq,run_load,h]
variable{α:Type}{i:Nat}
theorem lW{l:List α}(h:i<l.length):∃x,l[i]?=some x:=⟨l[i],atJ h⟩
theorem Lq{o:Nat}{f:Nat->Value}(hc:∀(j:Nat) d,aA[j]?=some d->w.cell? ⟨b,o+j,none⟩=some (f j)/\bf w C d (f j))
  {off aB:Nat} (dV:off+aB<=aA.length) :
  let vs:=(List.range aB).map λj=>f (off+j)
  vs.length=aB/\(∀(j:Nat) v,vs[j]?=some v->w.cell? ⟨b,o+off+j,none⟩=some v)/\bf w C (.agg ((aA.drop off).take aB)) (.agg ⟨vs⟩):=by
 refine⟨by simp,λj v W=>?_,.agg _ _ atw λi d v N W=>?_⟩
 ·simp only[aud,auQ]at W;obtain⟨eu,gl,rfl⟩:=W
  have Z:j<aB:=by
   rcases at5 j aB with h|h
   ·exact h
   rw[atT (by simpa using h)]at gl;cases gl
  rw[List.getElem?_range Z]at gl;obtain rfl:j=eu:=by simpa using gl
  obtain⟨d,N⟩:=lW (l:=aA) (i:=off+j) atv;have:=(hc (off+j) d N).1;rw[<-this,avF]
 simp only[aud,auQ]at W;obtain⟨eu,gl,rfl⟩:=W
 have Z:i<aB:=by
  rcases at5 i aB with h|h
  ·exact h
  rw[atT (by simpa using h)]at gl;cases gl
 rw[List.getElem?_range Z]at gl;obtain rfl:i=eu:=by simpa using gl
 have hr:aA[off+i]?=some d:=by
  rw[auB,atH Z,avL]at N;exact N
 exact(hc (off+i) d hr).2
theorem RN{e:bx}(ak:e.gk P){off:Nat}{K:D->Prop}(I:DU e off aA K): ∃d,K d/\∀(w:World) (C:Nat->Nat) (b o:Nat) (f:Nat->Value),(∀(j:Nat) d,aA[j]?=some d->w.cell? ⟨b,o+j,none⟩=some (f j)/\bf w C d (f j))->∃v,(Instr.loadAt e.t (.pointer (some ⟨b,o+off,none⟩))).run P w=.ok v w/\bf w C d v:=by unfold DU at I;cases kW:e.agg with|true =>rw[kW]at I;simp only at I;(have key:∀n,off+e.aB<=n->n=aA.length->∀(w:World) (C:Nat->Nat) (b o:Nat) (f:Nat->Value),(∀(j:Nat) d,aA[j]?=some d->w.cell? ⟨b,o+j,none⟩=some (f j)/\bf w C d (f j))->∃v,(Instr.loadAt e.t (.pointer (some ⟨b,o+off,none⟩))).run P w=.ok v w/\bf w C (.agg ((aA.drop off).take e.aB)) v:=by intro n av al w C b o f hc;subst al;have aa:=Lq hc av;exact⟨_,Lo ak kW w b (o+off) _ aa.1 aa.2.1,aa.2.2⟩);(cases G:(Nat.beq off 0&&Nat.beq e.aB aA.length)with|true =>rw[G]at I;rw[atM]at G;have h0:=aua G.1;have h1:=aua G.2;subst h0;refine⟨_,I,λw C b o f hc=>?_⟩;obtain⟨v,W,ae⟩:=key aA.length atv rfl w C b o f hc;refine⟨v,W,?_⟩;rw[h1,List.drop_zero,atW]at ae;exact ae|false =>rw[G]at I;obtain⟨dV,I⟩:=il I;exact⟨_,I,λw C b o f hc=>key aA.length (auk dV) rfl w C b o f hc⟩)|false =>rw[kW]at I;simp only at I;split at I;rename_i d N;exact⟨d,I,λw C b o f hc=>⟨_,Lp ak kW w b (o+off) _ (hc off d N).1,(hc off d N).2⟩⟩;exact False.elim I
theorem Lr{e:bx}(ak:e.gk P){off:Nat}{x:D}{K:D->Prop}(I:DV e k off x K): ∃d,K d/\∀(w:World) (C:Nat->Nat) (b o:Nat) (f:Nat->Value),x.cells.length=k->(∀(j:Nat) d,x.cells[j]?=some d->w.cell? ⟨b,o+j,none⟩=some (f j)/\bf w C d (f j))->∃v,(Instr.loadAt e.t (.pointer (some ⟨b,o+off,none⟩))).run P w=.ok v w/\bf w C d v:=by unfold DV at I;split at I;rename_i aA;(cases kW:e.agg with|true =>rw[kW]at I;simp only at I;(cases G:(Nat.beq off 0&&Nat.beq e.aB k)with|true =>rw[G]at I;rw[atM]at G;have h0:=aua G.1;have h1:=aua G.2;subst h0;refine⟨_,I,λw C b o f al hc=>?_⟩;simp only[D.cells]at al hc;have aa:=Lq (off:=0) (aB:=e.aB) hc atv;refine⟨_,Lo ak kW w b (o+0) _ aa.1 aa.2.1,?_⟩;have aC:=aa.2.2;rw[h1,<-al,List.drop_zero,atW]at aC;rw[h1,<-al];exact aC|false =>rw[G]at I;obtain⟨dV,I⟩:=il I;refine⟨_,I,λw C b o f al hc=>?_⟩;simp only[D.cells]at al hc;have aa:=Lq (off:=off) (aB:=e.aB) hc (auk dV);exact⟨_,Lo ak kW w b (o+off) _ aa.1 aa.2.1,aa.2.2⟩)|false =>rw[kW]at I;simp only at I;split at I;rename_i d N;refine⟨d,I,λw C b o f al hc=>?_⟩;simp only[D.cells]at hc;exact⟨_,Lp ak kW w b (o+off) _ (hc off d N).1,(hc off d N).2⟩;exact False.elim I);rename_i aX;replace I:=il I;obtain⟨G,I⟩:=I;rw[atM]at G;have h0:=aua G.1;(have kW:e.agg=false:=by simpa using G.2);(have hcells:x.cells=[x]:=by cases x<;>first|rfl|exact absurd rfl (aX _));refine⟨_,I,λw C b o f al hc=>?_⟩;rw[hcells]at hc;subst h0;exact⟨_,Lp ak kW w b (o+0) _ (hc 0 x rfl).1,(hc 0 x rfl).2⟩
theorem e8{l:List α}{x:α}(h:l[i]?=some x):i<l.length:=by rcases at5 i l.length with bq|bq;exact bq;rw[atT bq]at h;cases h
theorem abA{o:Nat}{g:Nat->Value}(X:∀x∈xs,x.cells.length=k)(gd:∀(j:Nat) d,(b1 xs)[j]?=some d->w.cell? ⟨b,o+j,none⟩=some (g j))(h:∀(j:Nat) d,(b1 xs)[j]?=some d->bf w C d (g j)){y:D}(hy:xs[i]?=some y)(j:Nat)(d:D)(N:y.cells[j]?=some d): w.cell? ⟨b,o+i*k+j,none⟩=some (g (i*k+j))/\bf w C d (g (i*k+j)):=by have abB:y.cells.length=k:=X y (at2 hy);have Z:j<k:=abB ▸ e8 N;have M:=wF X hy Z;rw[N]at M;exact⟨by rw[avF];exact gd _ _ M,h _ _ M⟩
variable{A:aw}
theorem RO{ay:List bx}(hT:dg P ay){x:D}{K:D->Prop}(I:zC ay A h t x K):
  ∃d,K d/\(h=true->∀(w:World) (C:Nat->Nat) (Ft:Nat->Prop) (v:Value),mo Ft w C A.H->bf w C x v->
   ∃aj,(Instr.loadAt t v).run P w=.ok aj w/\bf w C d aj):=by
 unfold zC at I;split at I
 ·exact False.elim I
 rename_i e ak;obtain⟨c1,rfl⟩:=hT.get ak;split at I
 ·rename_i k xs i off;obtain⟨y,hy,I⟩:=I;obtain⟨d,hK,N⟩:=Lr c1 I;refine⟨d,hK,λax w C Ft v _ ae=>?_⟩;have hy:=hy ax
  cases ae with
  |a7 _ _ _ _ b o cap bq =>
   rcases bq.kz with⟨F,W,_⟩|⟨eh,bI,h6,g,W,_,_,_,_,X,_,gd,_,eO⟩
   ·subst F;simp at hy
   simp only[Value.slice.injEq,aus,Addr.mk.injEq]at W;obtain⟨⟨rfl,rfl,_⟩,_⟩:=W;exact N w C b (o+i*k) (λj=>g (i*k+j)) (X y (at2 hy)) (λj d N=>abA X gd eO hy j d N)
 ·rename_i s b off;split at I
  ·rename_i eh aA hH;obtain⟨rfl,I⟩:=I;obtain⟨d,hK,N⟩:=RN c1 I;refine⟨d,hK,λax w C Ft v hrel ae=>?_⟩
   cases ae with
   |box _ _ _ =>
    obtain⟨vs,bH,G,h7,_⟩:=hrel.b' s _ hH
    have:=N w C b 0 (λj=>vs.getD j undef) (λj d N=>by
     have Z:=e8 N;rw[h7.1]at Z;have W:vs[j]?=some vs[j]:=atJ Z;have dM:vs.getD j undef=vs[j]:=by simp[List.getD,W]
     refine⟨?_,?_⟩
     ·simp only[World.cell?,G,aut,dM];simp[Z]
     rw[dM];exact h7.2 j d _ N W)
    simpa using this
  exact False.elim I
 exact False.elim I
theorem abC{ay:List bx}(hT:dg P ay){x:D}{f:Nat}{K:D->Prop}(I:Lf ay t x f K): ∃d,K d/\∀(w:World) (C:Nat->Nat) (v:Value),bf w C x v->∃aj,(Instr.fieldAt t v f).run P w=.ok aj w/\bf w C d aj:=by unfold Lf at I;split at I;exact False.elim I;rename_i e ak;obtain⟨c1,rfl⟩:=hT.get ak;split at I;rename_i o aB mq b5 M;(cases hsz:Nat.beq aB 0 with|true=>rw[hsz]at I;exact False.elim I|false =>rw[hsz]at I;(have aX:aB≠0:=λh=>by subst h;cases hsz);simp only[auV]at I;obtain⟨bW,mr,tK,_⟩:=c1.By b5;obtain⟨gf,du,x0,⟨qG,DY,tL⟩,_,_⟩:=Hl tK M;(have run:∀(w:World) (b bI:Nat),(Instr.fieldAt e.t (.pointer (some ⟨b,bI,none⟩)) f).run P w=.ok (.pointer (some ⟨b,bI+o,none⟩)) w:=by intro w b bI;(have BA:bW[f]?=some gf:=by simpa using du);simp[Instr.fieldAt,run_underlying mr,BA,Instr.sureAddr,fieldPlace,zH DY,tL,aX,x0,o5]);split at I;rename_i k xs i off;refine⟨_,I,λw C v ae=>?_⟩;(cases ae with|a7 _ _ _ _ b bI cap bq=>exact⟨_,run w b _,by have:=bf.a7 (w:=w) (C:=C) k xs i (off+o) b bI cap bq;rwa [<-avF]at this⟩);rename_i s b off;refine⟨_,I,λw C v ae=>?_⟩;(cases ae with|box _ _ _=>exact⟨_,run w b _,.box _ _ _⟩);exact False.elim I);exact False.elim I
theorem abD{ay:List bx}(hT:dg P ay){x:D}{f:Nat}{K:D->Prop}(I:Lg ay t x f K):
  ∃d,K d/\∀(w:World) (C:Nat->Nat) (v:Value),bf w C x v->∃aj,(Instr.field t v f).run P w=.ok aj w/\bf w C d aj:=by
 unfold Lg at I;split at I
 ·exact False.elim I
 rename_i e ak;obtain⟨c1,rfl⟩:=hT.get ak;split at I
 ·rename_i o aB mq b5 M;obtain⟨bW,mr,tK,_⟩:=c1.By b5;obtain⟨gf,du,x0,⟨qG,DY,tL⟩,kW,_⟩:=Hl tK M;have BA:bW[f]?=some gf:=by simpa using du
  split at I
  ·rename_i aA
   cases mq with
   |true =>
    replace I:=il I;obtain⟨dV,I⟩:=I;refine⟨_,I,λw C v ae=>?_⟩
    cases ae with
    |agg _ vs al h =>
     refine⟨.agg ((⟨vs⟩:Array Value).extract o (o+aB)),by simp[Instr.field,run_underlying mr,BA,part,Hk kW,zH DY,tL,x0,asAgg],?_⟩
     have bT:(⟨vs⟩:Array Value).extract o (o+aB)=⟨(vs.drop o).take aB⟩:=by
      apply avE;simp[List.extract]
     rw[bT];have arf:=auk dV;refine .agg _ _ (by simp[al]) λi d v N W=>?_;rw[auB]at N W;split at N
     ·rename_i hi;rw[atH hi]at W;rw[avL]at N W;exact h _ _ _ N W
     cases N
   |false =>
    simp only at I;split at I
    ·rename_i d N;refine⟨d,I,λw C v ae=>?_⟩
     cases ae with
     |agg _ vs al h =>
      have bi:o<vs.length:=al ▸ e8 N;have W:vs[o]?=some vs[o]:=atJ bi;refine⟨vs[o],?_,h o d _ N W⟩;simp[Instr.field,run_underlying mr,BA,part,Hk kW,x0,asAgg,bi]
    exact False.elim I
  exact False.elim I
 exact False.elim I
theorem abE{ay:List bx}(hT:dg P ay){x fV:D}{K:D->Prop}(I:Lh ay h t x fV K):
  ∃d,K d/\(h=true->∀(w:World) (C:Nat->Nat) (v vb:Value),bf w C x v->bf w C fV vb->∃aj,(Instr.indexAt t v vb).run P w=.ok aj w/\bf w C d aj):=by
 unfold Lh at I;split at I
 ·exact False.elim I
 rename_i e ak;obtain⟨c1,rfl⟩:=hT.get ak;split at I
 ·rename_i bH b5;split at I
  ·exact False.elim I
  rename_i aF kA;obtain⟨fs,rfl⟩:=hT.get kA;split at I
  ·rename_i tg k xs hP i;replace I:=il I;obtain⟨X,hi,I⟩:=I;have X:=aua X;refine⟨_,I,λax w C v vb ae zI=>?_⟩;obtain⟨h0,h1⟩:=hi ax;cases zI
   have ao:=c1.ky b5;rcases ae.js.kz with⟨rfl,_,_⟩|⟨b,o,cap,g,rfl,_,G,hc,hm,abF,c6,gd,ef,eO⟩
   ·simp at h1;omega
   refine⟨.pointer (some ⟨b,o+i.toNat*k,none⟩),?_,?_⟩
   ·simp[Instr.indexAt,asIntOf,run_underlying ao,h0,h1,fs.size,o5,X]
   have:=bf.a7 (w:=w) (C:=C) k xs i.toNat 0 b o cap (.Q .none k xs b o cap g trivial G hc hm abF c6 gd ef eO);simpa using this
  exact False.elim I
 exact False.elim I
theorem abG(s:atE)(i:Nat):(⟨⟨s⟩⟩:ByteArray)[i]?=s[i]?:=by by_cases h:i<s.length;rw[atJ h];have bq:i<(⟨⟨s⟩⟩:ByteArray).size:=h;rw[getElem?_pos (⟨⟨s⟩⟩:ByteArray) i bq];rfl;rw[atT (Nat.le_of_not_lt h)];have bq:¬i<(⟨⟨s⟩⟩:ByteArray).size:=h;rw[getElem?_neg (⟨⟨s⟩⟩:ByteArray) i bq]
theorem abH{ay:List bx}(hT:dg P ay){x fV:D}{K:D->Prop}(I:Li ay h t x fV K):
  ∃d,K d/\(h=true->∀(w:World) (C:Nat->Nat) (v vb:Value),bf w C x v->bf w C fV vb->∃aj,(Instr.index t v vb).run P w=.ok aj w/\bf w C d aj):=by
 unfold Li at I;split at I
 ·exact False.elim I
 rename_i e ak;obtain⟨c1,rfl⟩:=hT.get ak;split at I
 ·rename_i b5;split at I
  ·rename_i s hP i;obtain⟨c,hc,I⟩:=I;refine⟨_,I,λax w C v vb ae zI=>?_⟩;obtain⟨h0,h1⟩:=hc ax;cases zI;cases ae
   refine⟨_,?_,.int _ _⟩;have ao:=c1.pV b5;simp[Instr.index,asIntOf,run_underlying ao,h0,abG,h1]
  exact False.elim I
 exact False.elim I
theorem x1(xs a':List D):b1 (xs++a')=b1 xs++b1 a':=by simp[b1]
variable{j:Nat}
theorem Ls(X:∀x∈xs,x.cells.length=k){l r:Nat}(al:l<=r)(ae:r<=xs.length)(h:(b1 ((xs.take r).drop l))[j]?=some d):(b1 xs)[l*k+j]?=some d:=by(have bT:b1 xs=b1 (xs.take r)++b1 (xs.drop r):=by rw[<-x1,ava]);(have b0:b1 (xs.take r)=b1 ((xs.take r).take l)++b1 ((xs.take r).drop l):=by rw[<-x1,ava]);(have hlen:(b1 ((xs.take r).take l)).length=l*k:=by rw[pP (k:=k) (λx F=>X x (auL (auL F)))];congr 1;simp;omega);have Z:=e8 h;rw[bT,atZ,b0,aul atv,hlen,show l*k+j-l*k=j from by omega];exact h;rw[b0,atO,hlen];omega
theorem Lt(s:atE)(l r:Nat):(⟨⟨s⟩⟩:ByteArray).extract l r=⟨⟨(s.take r).drop l⟩⟩:=by apply ByteArray.ext;simp only[ByteArray.data_extract];apply avE;simp[List.extract,List.drop_take]
variable{lk:Option Operand}
theorem RP{k:Int->Prop}(I:Hf h A lk k): ∃l,k l/\(h=true->∀(w:World) (C:Nat->Nat) (ρ:Operand->Value),(∀x,lk=some x->bf w C (A.a8 x) (ρ x))->(lk.map ρ=none/\l=0)\/∃hP,lk.map ρ=some (.int hP l)):=by unfold Hf at I;split at I;exact⟨0,I,λ_ _ _ _ _=>.inl ⟨rfl,rfl⟩⟩;exact axt
variable{hi:Option Operand}
theorem RQ{n:Int}{k:Int->Prop}(I:Hg h A hi n k): ∃l,k l/\(h=true->∀(w:World) (C:Nat->Nat) (ρ:Operand->Value),(∀x,hi=some x->bf w C (A.a8 x) (ρ x))->(hi.map ρ=none/\l=n)\/∃hP,hi.map ρ=some (.int hP l)):=by unfold Hg at I;split at I;exact⟨n,I,λ_ _ _ _ _=>.inl ⟨rfl,rfl⟩⟩;exact axt
variable{BB:Bool}{cap:Nat}{r:Int}
theorem RR{len:Nat}{lk hi:Option Value}{l:Int}(al:(lk=none/\l=0)\/∃hP,lk=some (.int hP l))(ae:(hi=none/\r=(len:Int))\/∃hP,hi=some (.int hP r))(h0:0<=l)(h1:l<=r)(z:r<=(cap:Int))(w:World):(Instr.sliceBounds BB len cap lk hi none).run P w=.ok (l.toNat,r.toNat,cap) w:=by(have aa:0<=r:=by omega);rcases al with⟨rfl,rfl⟩|⟨zJ,rfl⟩<;>rcases ae with⟨rfl,rfl⟩|⟨wG,rfl⟩ <;> simp[Instr.sliceBounds,run_sliceBound,h0,h1,z,aa,Int.toNat_of_nonneg aa]
theorem abI{len:Nat}{lk hi:Option Value}{l:Int}{wH:IntKind}(al:(lk=none/\l=0)\/∃hP,lk=some (.int hP l))(ae:∃hP,hi=some (.int hP r))(h0:0<=l)(h1:l<=r)(z:r<=(cap:Int))(w:World):(Instr.sliceBounds BB len cap lk hi (some (.int wH r))).run P w=.ok (l.toNat,r.toNat,r.toNat) w:=by(have aa:0<=r:=by omega);obtain⟨wG,rfl⟩:=ae;rcases al with⟨rfl,rfl⟩|⟨zJ,rfl⟩ <;> simp[Instr.sliceBounds,run_sliceBound,h0,h1,z,aa,Int.toNat_of_nonneg aa]
variable{tg n7:iD}
theorem RS{a:Option Addr}{n:Nat}(ae:bf w C (.Q tg k xs) (.slice a n cap)){l r m:Nat}(al:l<=r)(zK:r<=xs.length)(hm:r<=m)(arh:m<=cap)(vc:∀bv,n7.gk (.slice bv (r-l) (m-l))): bf w C (.Q n7 k ((xs.take r).drop l)) (.slice (if m=l then a else a.map (·.add (l*k))) (r-l) (m-l)):=by(have hQ:((xs.take r).drop l).length=r-l:=by simp;omega);rcases ae.kz with⟨rfl,⟨a0,W⟩,_⟩|⟨b,o,h6,g,W,_,G,hc,ms,X,c6,gd,ef,eO⟩;simp only[Value.slice.injEq]at W;obtain⟨rfl,rfl,rfl⟩:=W;(obtain rfl:r=0:=by simpa using zK);(obtain rfl:m=0:=by omega);(obtain rfl:l=0:=by omega);have:=vc a;simpa using bf.jr (w:=w) (C:=C) n7 k a this;simp only[Value.slice.injEq]at W;obtain⟨rfl,rfl,rfl⟩:=W;have fA:∀x∈(xs.take r).drop l,x.cells.length=k:=λx F=>X x (auL (avV F));by_cases gv:m=l;subst gv;(obtain rfl:r=m:=by omega);have pW:(xs.take r).drop r=[]:=aws atw;have ari:0<=xs.length*k:=at7 _;have:=bf.Q (w:=w) (C:=C) n7 k [] b o 0 (λ_=>undef) (by simpa using vc (some ⟨b,o,none⟩)) G (atP _) (at7 _) (λx F=>by cases F) atw (λj d N=>by simp[b1]at N) (λj d N=>by simp[b1]at N) (λj d N=>by simp[b1]at N);rw[pW];simpa using this;rw[atG gv];(have abJ:o+l*k+((xs.take r).drop l).length*k<=C b:=by rw[hQ];(have:l*k+(r-l)*k<=xs.length*k:=by rw[<-awH];exact avh _ atv);omega);have:=bf.Q (w:=w) (C:=C) n7 k ((xs.take r).drop l) b (o+l*k) (m-l) (λj=>g (l*k+j)) (by rw[hQ];exact vc _) G (by rw[hQ];omega) atv fA abJ (λj d N=>by rw[avF];exact gd _ _ (Ls X al zK N)) (λj d N=>ef _ _ (Ls X al zK N)) (λj d N=>eO _ _ (Ls X al zK N));rw[hQ]at this;simpa[o5]using this
theorem abK{ay:List bx}(hT:dg P ay){x:D}{qE:Option Operand}{K:D->Prop}(I:Lj ay h A t x lk hi qE K): ∃d,K d/\(h=true->∀(w:World) (C:Nat->Nat) (v:Value) (ρ:Operand->Value),bf w C x v->(∀y,lk=some y->bf w C (A.a8 y) (ρ y))->(∀y,hi=some y->bf w C (A.a8 y) (ρ y))->(∀y,qE=some y->bf w C (A.a8 y) (ρ y))->∃aj,(Instr.sliceAt t v (lk.map ρ) (hi.map ρ) (qE.map ρ)).run P w=.ok aj w/\bf w C d aj):=by unfold Lj at I;split at I;exact False.elim I;rename_i e ak;obtain⟨c1,rfl⟩:=hT.get ak;split at I;rename_i b5;have ao:=c1.pV b5;split at I;rename_i s;obtain⟨l,I,Hm⟩:=RP I;obtain⟨r,I,sI⟩:=RQ I;split at I;obtain⟨G,I⟩:=I;refine⟨_,I,λax w C v ρ ae h1 z aa=>?_⟩;obtain⟨dz,cc,eD⟩:=G ax;cases ae;refine⟨_,?_,.O _⟩;have hs:(⟨⟨s⟩⟩:ByteArray).size=s.length:=rfl;have Lu:=sI ax w C ρ z;have:=RR (P:=P) (BB:=false) (len:=(⟨⟨s⟩⟩:ByteArray).size) (cap:=(⟨⟨s⟩⟩:ByteArray).size) (Hm ax w C ρ h1) Lu dz cc eD w;simp[Instr.sliceAt,run_underlying ao,Instr.slice,this,Lt];exact False.elim I;exact False.elim I;rename_i bH b5;have ao:=c1.ky b5;split at I;exact False.elim I;rename_i aF kA;obtain⟨fs,rfl⟩:=hT.get kA;split at I;rename_i tg k xs;replace I:=il I;obtain⟨X,I⟩:=I;have X:=aua X;obtain⟨l,I,Hm⟩:=RP I;obtain⟨r,I,sI⟩:=RQ I;(cases qE with|none =>obtain⟨G,I⟩:=I;refine⟨_,I,λax w C v ρ ae h1 z aa=>?_⟩;obtain⟨dz,cc,eD⟩:=G ax;(have i1:∃a cap,v=.slice a xs.length cap/\xs.length<=cap:=axI);obtain⟨a,cap,rfl,hcap⟩:=i1;have:=RR (P:=P) (BB:=true) (len:=xs.length) (cap:=cap) (Hm ax w C ρ h1) (sI ax w C ρ z) dz cc atv w;have eO:=RS (n7:=.none) ae (l:=l.toNat) (r:=r.toNat) (m:=cap) atv atv atv (atP _) (λ_=>trivial);refine⟨_,?_,eO⟩;simp[Instr.sliceAt,run_underlying ao,Instr.slice,this,fs.size,X]|some abL =>replace I:=il I;obtain⟨RT,I⟩:=I;obtain⟨d,N,hm⟩:=iZ I;split at N;rename_i wH Lv;obtain⟨G,I⟩:=N;refine⟨_,I,λax w C v ρ ae h1 z aa=>?_⟩;obtain⟨rfl,dz,cc,eD⟩:=G ax;(have i1:∃a cap,v=.slice a xs.length cap/\xs.length<=cap:=axI);obtain⟨a,cap,rfl,hcap⟩:=i1;have gw:=(hm ax w C _ (aa abL rfl)).fr;(have Lu:∃hP,hi.map ρ=some (.int hP Lv):=by rcases sI ax w C ρ z with⟨av,_⟩|h;cases hi<;>simp at av RT;exact h);have:=abI (P:=P) (BB:=true) (len:=xs.length) (cap:=cap) (wH:=wH) (Hm ax w C ρ h1) Lu dz cc atv w;have eO:=RS (n7:=.dU) ae (l:=l.toNat) (r:=Lv.toNat) (m:=Lv.toNat) atv atv (atP _) atv (λbv=>⟨bv,_,rfl⟩);refine⟨_,?_,eO⟩;simp[Instr.sliceAt,run_underlying ao,Instr.slice,gw,this,fs.size,X];exact False.elim N);exact False.elim I;exact False.elim I
theorem DZ{h:Bool}{A:aw}:∀{xs:List Operand} {k:List D->Prop} (_:zD h A xs k),∃ds,k ds/\(h=true->∀(w:World) (C:Nat->Nat) (ρ:Operand->Value),(∀x∈xs,bf w C (A.a8 x) (ρ x))->db w C ds (xs.map ρ))
 |[],k,I=>⟨[],I,λ_ w C _ _=>.nil w C⟩
 |x::r,k,I=>by simp only[zD]at I;obtain⟨d,I,N⟩:=iZ I;obtain⟨ds,X,pX⟩:=DZ I;exact⟨d::ds,X,λax w C ρ cZ=>.cons (N ax w C _ (cZ x atS)) (pX ax w C ρ λy hy=>cZ y (atU _ hy))⟩
theorem dL.rH{w:World}{C:Nat->Nat}:∀{ds kX:List D} {vs:List Value},dL ds kX->db w C ds vs->db w C kX vs
 |[],[],vs,_,h=>h
 |d::ds,d'::kX,[],_,h=>by have:=h.1;simp at this
 |d::ds,d'::kX,v::vs,al,h=>.cons (al.1.le _ _ _ h.head) (al.2.rH h.tail)
 |[],_::_,_,al,_=>al.elim
 |_::_,[],_,al,_=>al.elim
theorem db.append{w:World}{C:Nat->Nat}:∀{ds:List D} {vs:List Value} {kX:List D} {gx:List Value},db w C ds vs->db w C kX gx->db w C (ds++kX) (vs++gx)
 |[],[],_,_,_,h=>h
 |d::ds,v::vs,_,_,h,bq=>.cons h.head (h.tail.append bq)
 |[],_::_,_,_,h,_=>by have:=h.1;simp at this
 |_::_,[],_,_,h,_=>by have:=h.1;simp at this
def gy(C:Nat->Nat)(b n:Nat):Nat->Nat:=λx=>if x=b then n else C x
theorem ht(C:Nat->Nat)(b n:Nat):gy C b n b=n:=by simp[gy]
theorem rI(C:Nat->Nat){x:Nat}(n:Nat)(h:x≠b):gy C b n x=C x:=by simp[gy,h]
theorem abM(w:World)(o:Obj)(h:k<w.heap.size):(w.alloc o).heap[k]?=w.heap[k]?:=Below.heap_alloc w o k h
theorem kB(w:World)(o:Obj):(w.alloc o).heap[w.heap.size]?=some o:=by show(w.heap.push o)[w.heap.size]?=some o;simp
theorem c7.alloc(Ft:Nat->Prop)(w:World)(C:Nat->Nat)(o:Obj)(n:Nat):c7 Ft w C (w.alloc o) (gy C w.heap.size n) :=
 ⟨⟨by simp,λb G=>by rw[rI _ _ (Nat.ne_of_lt G)];exact atP _,λb bI G _=>World.cell?_alloc_lt w o ⟨b,bI,none⟩ G⟩,rfl,rfl,rfl,
  λb G _=>⟨abM w o G,rI _ _ (Nat.ne_of_lt G)⟩⟩
theorem c7.drew(Ft:Nat->Prop)(w:World)(C:Nat->Nat):c7 Ft w C w.drew C :=
 ⟨⟨atP _,λ_ _=>atP _,λ_ _ _ _=>rfl⟩,rfl,rfl,rfl,λ_ _ _=>⟨rfl,rfl⟩⟩
theorem bf.oJ(h:bf w C d v)(ag:d.one=true):v.cells=#[v]/\v.oneCell'=true:=by
 cases h<;>simp[D.one]at ag<;>try exact⟨rfl,rfl⟩
 cases v<;>simp[Value.oneCell']at ag<;>exact⟨rfl,rfl⟩
theorem Lw:∀(aA:List D) (n:Nat) (d:D),(iF aA n d).length=aA.length
 |[],_,_=>rfl
 |_::_,0,_=>rfl
 |_::r,n+1,d=>by simp[iF,Lw r n d]
theorem Lx:∀(aA:List D) (n:Nat) (d:D) (i:Nat),(iF aA n d)[i]?=if i=n/\n<aA.length then some d else aA[i]?
 |[],n,d,i=>by simp[iF]
 |c::r,0,d,i=>by cases i<;>simp[iF]
 |c::r,n+1,d,i=>by cases i with|zero=>simp[iF]|succ i=>simp[iF,Lx r n d i]
theorem abN{off:Nat}(h:off+ds.length<=aA.length):(sF aA off ds).length=aA.length:=by simp[sF];omega
theorem RU{off:Nat}(h:off+ds.length<=aA.length)(i:Nat): (sF aA off ds)[i]?=if off<=i/\i<off+ds.length then ds[i-off]? else aA[i]?:=by unfold sF;by_cases h1:i<off;rw[atG atv,auj,atZ atw,auB,atH h1];by_cases z:i<off+ds.length;rw[atH ⟨by omega,z⟩,auj,aul atw,atZ atw];congr 1;simp;omega;rw[atG atv,aul atw,avL];congr 1;simp;omega
variable{dh:List Value}
theorem db.laid{vs:List Value}{off:Nat}{r:Array Value}(h:db w C aA vs)(bq:db w C ds dh)(dV:off+ds.length<=aA.length)(hs:r.size=vs.length)(ae:∀k,r[k]?=if off<=k/\k<off+dh.length/\k<vs.length then dh[k-off]? else vs[k]?):db w C (sF aA off ds) r.toList:=by refine⟨by rw[abN dV,h.1];simpa using hs.symm,λi d v N W=>?_⟩;rw[RU dV]at N;(have dM:r[i]?=some v:=by simpa using W);rw[ae]at dM;have al:=h.1;have mY:=bq.1;by_cases hc:off<=i/\i<off+ds.length;rw[atH hc]at N;rw[atH ⟨hc.1,by omega,by omega⟩]at dM;exact bq.2 _ _ _ N dM;rw[atG hc]at N;rw[atG atv]at dM;exact h.2 _ _ _ N dM
theorem RV{off:Nat}(h:off<aA.length):iF aA off d=sF aA off [d]:=by apply au2;intro i;rw[Lx,RU atw];by_cases hi:i=off;subst hi;rw[atH ⟨rfl,h⟩,atH ⟨atP _,by simp⟩];simp;rw[atG atv,atG atw]
theorem abO{cells:Array Value}{off:Nat}(h:db w C aA cells.toList)(bq:db w C ds v.cells.toList)(dV:off+ds.length<=aA.length): db w C (sF aA off ds) (v.cells.zipIdx.foldl (λaA (c,j)=>aA.setIfInBounds (off+j) c) cells).toList/\(v.cells.zipIdx.foldl (λaA (c,j)=>aA.setIfInBounds (off+j) c) cells).size=cells.size:=by have M:=Great.foldl_set off v.cells.toList 0 cells;(have e:(v.cells.zipIdx.foldl (λaA (c,j)=>aA.setIfInBounds (off+j) c) cells)=((v.cells.toList.zipIdx 0).foldl (λaA (x:Value×Nat)=>aA.setIfInBounds (off+x.2) x.1) cells):=by rw[<-Array.foldl_toList,Array.toList_zipIdx]);rw[e];refine⟨h.laid bq dV (by simpa using M.1) λk=>?_,M.1⟩;rw[M.2 k];simp
theorem RW{o4:List (Nat×Nat×Bool)}:∀{ds:List (Nat×D)} {aA:List D} {K:List D->Prop} (_:zE o4 aA ds K),∃dt,K dt/\∀(w:World) (C:Nat->Nat) (cells:Array Value) (vs:List (Nat×Value)) (es:List (Nat×Nat)),db w C aA cells.toList->vs.map (·.1)=ds.map (·.1)->db w C (ds.map (·.2)) (vs.map (·.2))->(∀(i o aB:Nat) (mq:Bool),o4[i]?=some (o,aB,mq)->es[i]?=some (o,aB))->∃zL,Instr.fill (es[·]?) cells vs=some zL/\db w C dt zL.toList
 |[],aA,K,I=>⟨aA,I,λw C cells vs es ae W _ _=>by(have:vs=[]:=by simpa using W);subst this;exact⟨cells,rfl,ae⟩⟩
 |(i,d)::r,aA,K,I=>by simp only[zE]at I;split at I;exact False.elim I;rename_i o aB mq M;(have key:∃kX,kX.length=aB/\o+aB<=aA.length/\zE o4 (sF aA o kX) r K/\∀(w:World) (C:Nat->Nat) (v:Value),bf w C d v->db w C kX v.cells.toList:=by cases mq with|true =>simp only at I;split at I;rename_i kX;replace I:=il I;obtain⟨G,I⟩:=I;rw[atM]at G;refine⟨kX,aua G.1,auk G.2,I,λw C v ae=>?_⟩;obtain⟨vs,rfl,h⟩:=ae.sD;exact h;exact False.elim I|false =>simp only at I;replace I:=il I;obtain⟨G,I⟩:=I;rw[atM,atM]at G;have bi:o<aA.length:=auy (auw _) (auk G.1.1);have hsz:=aua G.2;refine⟨[d],by simp[hsz],by omega,by rw[<-RV bi];exact I,λw C v ae=>?_⟩;rw[(ae.oJ G.1.2).1];exact .cons ae (.nil _ _));obtain⟨kX,al,dV,I,N⟩:=key;obtain⟨dt,hK,Hn⟩:=RW I;refine⟨dt,hK,λw C cells vs es ae W fM au=>?_⟩;cases vs with|nil=>simp at W|cons p vs =>obtain⟨hu,v⟩:=p;simp only[aum,avU]at W;obtain⟨rfl,dM⟩:=W;have Ly:=N w C v fM.head;obtain⟨h1,z⟩:=abO ae Ly (by rw[al];exact dV);obtain⟨zL,aa,aC⟩:=Hn w C _ vs es h1 dM fM.tail au;refine⟨zL,?_,aC⟩;unfold Instr.fill;(have o6:v.cells.size=aB:=by have:=Ly.1;rw[al]at this;simpa using this.symm);(have im:cells.size=aA.length:=by have:=ae.1;simpa using this.symm);rw[au _ _ _ _ M];simp only;rw[atG (by rw[o6,im];simp;omega)];exact aa
theorem D0{h:Bool}{A:aw}:∀{xs:List (Nat×Operand)} {k:List (Nat×D)->Prop} (_:zF h A xs k),∃ds,k ds/\ds.map (·.1)=xs.map (·.1)/\(h=true->∀(w:World) (C:Nat->Nat) (ρ:Operand->Value),(∀x∈xs,bf w C (A.a8 x.2) (ρ x.2))->db w C (ds.map (·.2)) (xs.map λx=>ρ x.2))
 |[],k,I=>⟨[],I,rfl,λ_ w C _ _=>.nil w C⟩
 |(i,x)::r,k,I=>by simp only[zF]at I;obtain⟨d,I,N⟩:=iZ I;obtain⟨ds,X,h1,pX⟩:=D0 I;exact⟨(i,d.js)::ds,X,by simp[h1],λax w C ρ cZ=>.cons (N ax w C _ (cZ (i,x) atS)).js (pX ax w C ρ λy hy=>cZ y (atU _ hy))⟩
theorem RX:∀{bW:List Field} {r:List (Nat×Nat×Bool)} (_:tJ P bW r=true),bW.mapM (λf=>(P.info? f.type).map λi=>(f.offset,i.size))=some (r.map λx=>(x.1,x.2.1))
 |[],[],_=>rfl
 |f::bW,(o,aB,mq)::r,h=>by simp only[tJ,atM]at h;obtain⟨⟨⟨⟨h1,z⟩,aa⟩,aC⟩,a_⟩:=h;have aY:=RX a_;split at z;rename_i i hi;have bT:=aua h1;have b0:=aua z;simp[hi,aY,bT,b0];cases z
 |[],_::_,h=>by simp[tJ]at h
 |_::_,[],h=>by simp[tJ]at h
variable{V:List D}
theorem abP{e:bx}(ak:e.gk P)(b5:e.kind=.struct)(bz:e.zero=some V){ds:List (Nat×D)}{K:List D->Prop}(I:zE e.o4 V ds K): ∃aA,K aA/\∀(w:World) (C:Nat->Nat) (vs:Array (Nat×Value)),vs.toList.map (·.1)=ds.map (·.1)->db w C (ds.map (·.2)) (vs.toList.map (·.2))->∃v,(Instr.build e.t vs).run P w=.ok v w/\bf w C (.agg aA) v:=by obtain⟨aA,hK,h⟩:=RW I;refine⟨aA,hK,λw C vs h1 z=>?_⟩;obtain⟨bW,mr,tK,_⟩:=ak.By b5;obtain⟨i,hi,hs,_,nw⟩:=ak.qF;obtain⟨ei,lX,mt,jR⟩:=nw V bz;have dd:=RX tK;obtain⟨zL,aa,aC⟩:=h w C ei.cells vs.toList (e.o4.map λx=>(x.1,x.2.1)) (jR w C) h1 z (λi o aB mq M=>by simp[M]);refine⟨.agg zL,run_build w e.t vs zL ?_,.agg _ _ aC.1 aC.2⟩;unfold Program.built;rw[hi,mr];simp only[lX,dd];simpa using aa
theorem db.one{w:World}{C:Nat->Nat}{ds:List D}{vs:List Value}(h:db w C ds vs)(ag:ds.all D.one=true):∀aj∈vs,aj.oneCell'=true:=by intro aj ao;obtain⟨j,Z⟩:=aub.1 ao;obtain⟨d,N⟩:=lW (l:=ds) (i:=j) (by rw[h.1];exact e8 Z);exact((h.2 j d aj N Z).oJ (auC.1 ag d (at2 N))).2
theorem Lz{k:Nat}:∀{ds:List (Nat×D)} {n:Nat} (_:tI k n ds),ds.map (·.1)=List.range' n ds.length/\∀w C,∀x∈ds,∀v,bf w C x.2 v->x.2.cells.length=k/\v.cells.size=k/\db w C x.2.cells v.cells.toList/\∀aj∈v.cells.toList,aj.oneCell'=true
 |[],n,_=>⟨rfl,λ_ _ x F=>by cases F⟩
 |(i,d)::r,n,h=>by simp only[tI]at h;replace h:=il h;obtain⟨G,h⟩:=h;rw[atM]at G;obtain⟨h1,z⟩:=Lz h;have hi:=aua G.1;subst hi;refine⟨by simp[h1,List.range'_succ],λw C x F v W=>?_⟩;rcases at6.1 F with rfl|F;have aa:=G.2;simp only at W aa⊢;split at aa;rename_i ds;rw[atM]at aa;obtain⟨vs,rfl,h⟩:=W.sD;have al:=aua aa.1;refine⟨al,?_,h,h.one aa.2⟩;have:=h.1;simp only[Value.cells,auH];omega;rename_i aX;rw[atM]at aa;obtain⟨aC,a_⟩:=W.oJ aa.1;have X:=aua aa.2;(have hcells:d.cells=[d]:=by cases d<;>first|rfl|exact absurd rfl (aX _));rw[hcells,aC];exact⟨by simp[X],by simp[X],.cons W (.nil _ _),by simpa using a_⟩;exact z w C x F v W
theorem LA{w:World}{C:Nat->Nat}:∀{ds:List D} {vs:List Value},ds.length=vs.length->(∀(i:Nat) d v,ds[i]?=some d->vs[i]?=some v->db w C d.cells v.cells.toList)->db w C (b1 ds) (vs.flatMap λv=>v.cells.toList)
 |[],[],_,_=>.nil _ _
 |d::ds,v::vs,al,h=>by simp only[b1,auJ];exact(h 0 d v rfl rfl).append (LA (by simpa using al) λi d' c' h1 z=>h (i+1) d' c' (by simpa using h1) (by simpa using z))
 |[],_::_,al,_=>by simp at al
 |_::_,[],al,_=>by simp at al
theorem x2{vs:List Value}{e:TypeId}{j_:Nat×Nat}(G:w.heap[b]?=some (.cells ⟨vs⟩ e j_))(X:∀x∈xs,x.cells.length=k)(hc:xs.length<=cap)(hm:cap<=maxLen)(c6:xs.length*k<=C b)(ae:∀(j:Nat) d,(b1 xs)[j]?=some d->∃v,vs[j]?=some v/\bf w C d v/\v.oneCell'=true)(vc:tg.gk (.slice (some ⟨b,0,none⟩) xs.length cap)): bf w C (.Q tg k xs) (.slice (some ⟨b,0,none⟩) xs.length cap):=by refine .Q tg k xs b 0 cap (λj=>vs.getD j undef) vc (avu.1 G).1 hc hm X atv (λj d N=>?_) (λj d N=>?_) (λj d N=>?_);obtain⟨v,W,_⟩:=ae j d N;rw[aut];simp[World.cell?,G,List.getD,W];obtain⟨v,W,_,ag⟩:=ae j d N;simpa[List.getD,W]using ag;obtain⟨v,W,LB,_⟩:=ae j d N;simpa[List.getD,W]using LB
theorem Ho{k:IntKind}:∀zs:List Int,b1 (zs.map (D.int k))=zs.map (D.int k)
 |[]=>rfl
 |V::zs=>by have:=Ho (k:=k) zs;simp only[b1,aum,auJ]at*;rw[this];rfl
theorem Hp{vs:List Value}{e:TypeId}(X:∀x∈xs,x.cells.length=k)(hc:xs.length<=cap)(hm:cap<=maxLen)
  (ae:∀(j:Nat) d,(b1 xs)[j]?=some d->∃v,vs[j]?=some v/\bf w C d v/\v.oneCell'=true) (vc:tg.gk (.slice (some ⟨w.heap.size,0,none⟩) xs.length cap)) :
  bf (w.alloc (.cells ⟨vs⟩ e)) (gy C w.heap.size (xs.length*k)) (.Q tg k xs) (.slice (some ⟨w.heap.size,0,none⟩) xs.length cap) :=
 x2 (kB w _) X hc hm (by simp[ht]) (λj d N=>by
  obtain⟨v,W,LB,ag⟩:=ae j d N
  exact⟨v,W,LB.ext (c7.alloc (λ_=>False) w C (.cells ⟨vs⟩ e) (xs.length*k)).ext,ag⟩) vc
theorem LC(s:ByteArray):∀(f i:Nat) (fB:Array Value),(Conv.runesFrom s f i fB).toList=fB.toList++(sG s f i).map (Value.int .i32)
 |0,i,fB=>by simp[Conv.runesFrom,sG]
 |f+1,i,fB=>by simp only[Conv.runesFrom,sG];split;rw[LC s f];simp;simp
theorem abQ(zs:List Int):runesBytes zs=⟨⟨cw zs⟩⟩:=by(have key:∀(zs:List Int) (r:ByteArray),zs.foldl (λr n=>r++Utf8.encode n) r=r++⟨⟨cw zs⟩⟩:=by intro zs;induction zs with|nil=>intro r;apply ByteArray.ext;simp[cw]|cons V zs aY =>intro r;rw[avj,aY];apply ByteArray.ext;apply avE;simp[cw]);rw[runesBytes,key];apply ByteArray.ext;simp
theorem RY{k:rG}(h:Hh k=true):k=.int .i32:=by unfold Hh at h;split at h;rfl;cases h
variable{oH:Nat}
theorem abR{ay:List bx}(hT:dg P ay){dst:Nat}{x:D}{K:D->Prop}(I:Lk ay oH dst x K): ∃d,K d/\∀(w:World) (C:Nat->Nat) (v:Value),bf w C x v->∃aj w' aO,(convert oH dst v).run P w=.ok aj w'/\bf w' aO d aj/\c7 (λ_=>False) w C w' aO:=by unfold Lk at I;split at I;rename_i a b ha G;obtain⟨zM,rfl⟩:=hT.get ha;obtain⟨zN,rfl⟩:=hT.get G;split at I;rename_i ah x3 d0 n iH pY;have h1:=zM.sH iH;have z:=zN.sH pY;(have key:∃m,K (.int x3 m)/\m=x3.wrap n:=by rcases I with⟨h1,z⟩|z;exact⟨n,z,(Ln h1).symm⟩;exact⟨_,z,rfl⟩);obtain⟨m,hK,rfl⟩:=key;refine⟨_,hK,λw C v ae=>⟨_,w,C,?_,.int _ _,.refl _ _ _⟩⟩;rw[ae.fr];simp[convert,run_underlying h1,run_underlying z,Conv.intToInt];rename_i s iH pY;have h1:=zM.pV iH;have z:=zN.pV pY;refine⟨_,I,λw C v ae=>⟨_,w,C,?_,.O _,.refl _ _ _⟩⟩;rw[ae.kw];simp[convert,run_underlying h1,run_underlying z];rename_i ah d0 n iH pY;have h1:=zM.sH iH;have z:=zN.pV pY;refine⟨_,I,λw C v ae=>⟨_,w,C,?_,.O _,.refl _ _ _⟩⟩;rw[ae.fr,run_convert_int_string w a.t b.t d0 n (by rw[h1];rfl) z];rename_i bH s iH pY;split at I;rename_i aF kA;obtain⟨fs,rfl⟩:=hT.get kA;replace I:=il I;obtain⟨G,hlen,hK⟩:=I;simp only[atM]at G;have kC:=RY G.1;refine⟨_,hK,λw C v ae=>?_⟩;rw[ae.kw];have hsz:=size_runesFrom ⟨⟨s⟩⟩ s.length 0 #[];have i6:(⟨⟨s⟩⟩:ByteArray).size=s.length:=rfl;have cU:=run_runes_of_string (P:=P) w a.t b.t aF.t ⟨⟨s⟩⟩ (zM.pV iH) (zN.ky pY) (fs.sH kC) (by rw[i6];simp at hsz;omega);rw[i6]at cU;have D1:=LC ⟨⟨s⟩⟩ s.length 0 #[];(have tM:(Conv.runesFrom ⟨⟨s⟩⟩ s.length 0 #[]).size=(ik s).length:=by rw[<-avy,D1];simp[ik]);have io:=grownCap_ge w (Conv.runesFrom ⟨⟨s⟩⟩ s.length 0 #[]).size 0 aF.t;refine⟨_,_,_,cU,?_,(c7.drew _ w C).trans (c7.alloc _ w.drew C _ ((ik s).length*1)) (λ_ _ M=>M)⟩;have eO:=Hp (w:=w.drew) (C:=C) (tg:=.none) (k:=1) (xs:=(ik s).map (D.int .i32)) (e:=aF.t) (cap:=grownCap w (Conv.runesFrom ⟨⟨s⟩⟩ s.length 0 #[]).size 0 aF.t) (vs:=(Conv.runesFrom ⟨⟨s⟩⟩ s.length 0 #[]++Array.replicate (grownCap w (Conv.runesFrom ⟨⟨s⟩⟩ s.length 0 #[]).size 0 aF.t-(Conv.runesFrom ⟨⟨s⟩⟩ s.length 0 #[]).size) (Value.int .i32 0)).toList) (λx F=>by obtain⟨n,_,rfl⟩:=at3.1 F;rfl) atw (grownCap_le_maxLen _ _ _ _ (by simp at hsz;unfold maxLen;omega)) (λj d N=>by rw[Ho]at N;rw[aud,auQ]at N;obtain⟨n,av,rfl⟩:=N;refine⟨.int .i32 n,?_,.int _ _,rfl⟩;rw[avQ,D1];simp only[au4];rw[atZ (by have:=(aui.1 av).1;simpa[ik]using this)];rw[aud];have:(sG ⟨⟨s⟩⟩ s.length 0)[j]?=some n:=av;rw[this];rfl) trivial;rw[tM]at eO⊢;simp only[atL]at eO;exact eO;exact False.elim I;rename_i bH tg k xs iH pY;split at I;rename_i aF kA;obtain⟨fs,rfl⟩:=hT.get kA;replace I:=il I;obtain⟨G,zs,rfl,hK⟩:=I;simp only[atM]at G;have kC:=RY G.1;obtain rfl:k=1:=aua G.2;refine⟨_,hK,λw C v ae=>?_⟩;rcases ae.kz with⟨h1,⟨a0,W⟩,_⟩|⟨eh,o,cap,g,W,_,_,hc,_,X,_,gd,_,eO⟩;(have:zs=[]:=by simpa using h1);subst this;refine⟨.string ⟨⟨[]⟩⟩,w,C,?_,.O _,.refl _ _ _⟩;(cases a0 with|none=>rw[W,run_convert_runes_nil w a.t b.t aF.t 0 0 (zM.ky iH) (fs.sH kC) (zN.pV pY)];rfl|some dF =>rw[W,run_convert_runes w a.t b.t aF.t dF 0 0 [] (atP _) (zM.ky iH) (fs.sH kC) (zN.pV pY) (λj Z=>by simp at Z)];rfl);refine⟨_,w,C,?_,.O _,.refl _ _ _⟩;(have BC:∀j,j<zs.length->w.cell? (Addr.add ⟨eh,o,none⟩ j)=some (.int .i32 (zs.getD j 0)):=λj Z=>by(have N:(b1 (zs.map (D.int .i32)))[j]?=some (.int .i32 zs[j]):=by rw[Ho];simp[Z]);have h1:=gd j _ N;rw[(eO j _ N).fr]at h1;rw[o5,h1];simp[List.getD,Z]);rw[W,run_convert_runes w a.t b.t aF.t ⟨eh,o,none⟩ _ cap zs atx (zM.ky iH) (fs.sH kC) (zN.pV pY) BC,abQ];simp;exact False.elim I;exact False.elim I;exact False.elim I
variable{aF:bx}
theorem abS{e:bx}(ak:e.gk P)(kA:aF.gk P)(b5:e.kind=.slice aF.t)(bz:aF.zero.isSome=true)(h0:0<aF.aB){n:Nat}(av:n*aF.aB<=16777216){ds:List (Nat×D)}(sJ:ds.length=n)(dN:tI aF.aB 0 ds){vs:List (Nat×Value)}(h1:vs.map (·.1)=ds.map (·.1))(z:db w C (ds.map (·.2)) (vs.map (·.2))): ∃v w' aO,(Instr.buildSlice e.t n ⟨vs⟩).run P w=.ok v w'/\bf w' aO (.Q .dU aF.aB (ds.map (·.2))) v/\c7 (λ_=>False) w C w' aO:=by obtain⟨V,bz⟩:=avM.1 bz;obtain⟨i,hi,hs,_,nw⟩:=kA.qF;obtain⟨ei,lX,mt,jR⟩:=nw V bz;obtain⟨tN,hcells⟩:=Lz dN;have ao:=ak.ky b5;(have o6:vs.length=n:=by have:=z.1;simp only[atL]at this;omega);(have fM:vs=((vs.map (·.2)).zipIdx 0).map λx=>(x.2,x.1):=axj);(have hsz:∀(j:Nat) d v,(ds.map (·.2))[j]?=some d->(vs.map (·.2))[j]?=some v->d.cells.length=aF.aB/\v.cells.size=aF.aB/\db w C d.cells v.cells.toList/\∀aj∈v.cells.toList,aj.oneCell'=true:=axA);(have lY:∀v∈vs.map (·.2),v.cells.size=aF.aB:=axu);have D2:=Great.fill_whole h0 (vs.map (·.2)) ((Array.range (n*aF.aB)).map (ei.cells[·%ei.cells.size]!)) lY (by simp only[atL,o6,Array.size_map,Array.size_range]);rw[<-fM]at D2;(have cU:(Instr.buildSlice e.t n ⟨vs⟩).run P w=.ok (.slice (some ⟨w.heap.size,0,none⟩) n n) (w.alloc (.cells ((vs.map (·.2)).flatMap λv=>v.cells.toList).toArray aF.t)):=axf);refine⟨_,_,_,cU,?_,c7.alloc _ w C _ (n*aF.aB)⟩;(have al:(ds.map (·.2)).length=n:=by simpa using sJ);(have X:∀x∈ds.map (·.2),x.cells.length=aF.aB:=axw);have du:=LA (w:=w) (C:=C) (ds:=ds.map (·.2)) (vs:=vs.map (·.2)) z.1 (λi d v N W=>(hsz i d v N W).2.2.1);have:=Hp (w:=w) (C:=C) (tg:=.dU) (k:=aF.aB) (xs:=ds.map (·.2)) (vs:=(vs.map (·.2)).flatMap λv=>v.cells.toList) (e:=aF.t) (cap:=n) X atv (by simp only[maxLen];have:n<=n*aF.aB:=awS n h0;omega) (λj d N=>axi) ⟨_,_,by rw[al]⟩;rw[al]at this;exact this
theorem LG{t:TypeId}{k:rG}(h:Hi P t k=true): (∃q,k=.int q/\P.underlying t=some (.int q))\/(k=.bool/\P.underlying t=some .bool)\/(k=.O/\P.underlying t=some .string):=by unfold Hi at h;split at h;rename_i q fh ao;simp only[aup]at h;subst h;exact .inl ⟨q,rfl,ao⟩;rename_i ao;exact .inr (.inl ⟨rfl,ao⟩);rename_i ao;exact .inr (.inr ⟨rfl,ao⟩);cases h
theorem LH:∀{ah:List rG} {xs a':List D} {K:Bool->Prop} (_:Bu ah xs a' K),∃b,K b/\∀(d:Nat) (bW:List Field) (n:Nat) (w:World) (C:Nat->Nat) (bR nx:List Value),wE P bW ah n=true->db w C xs (bR.drop n)->db w C a' (nx.drop n)->(Op.eqFields (d+1) ⟨bR⟩ ⟨nx⟩ bW).run P w=.ok b w
 |[],[],[],K,I=>⟨true,I,λd bW n w C bR nx G _ _=>by cases bW with|nil=>simp[Op.eqFields]|cons f bW=>simp[wE]at G⟩
 |k::ah,x::xs,y::a',K,I=>by simp only[Bu]at I;(have key:∃b,Bu ah xs a' (λc=>K (b&&c))/\∀(d:Nat) (t:TypeId) (w:World) (C:Nat->Nat) (aj v:Value),Hi P t k=true->bf w C x aj->bf w C y v->(Op.equalIn (d+1) t aj v).run P w=.ok b w/\wD P t=some false:=by unfold RH at I;split at I;rename_i arj ce a dn b;replace I:=il I;obtain⟨X,I⟩:=I;obtain rfl:=Hj X;refine⟨_,I,λd t w C aj v ax ao W=>?_⟩;rcases LG ax with⟨q,vd,cS⟩|⟨h,_⟩|⟨h,_⟩;rw[ao.fr,W.fr];exact⟨run_equalIn_int w d t ce q a b cS,by simp[wD,cS]⟩;cases h;cases h;rename_i a b;refine⟨_,I,λd t w C aj v ax ao W=>?_⟩;rcases LG ax with⟨q,h,_⟩|⟨h,_⟩|⟨_,cS⟩;cases h;cases h;rw[ao.kw,W.kw];refine⟨?_,by simp[wD,cS]⟩;have:=run_equalIn_string (P:=P) w d t ⟨⟨a⟩⟩ ⟨⟨b⟩⟩ cS;rw[ByteArray.toList_eq,ByteArray.toList_eq]at this;exact this;rename_i a b;refine⟨_,I,λd t w C aj v ax ao W=>?_⟩;rcases LG ax with⟨q,h,_⟩|⟨_,cS⟩|⟨h,_⟩;cases h;rw[ao.h4,W.h4];exact⟨run_equalIn_bool' w d t a b cS,by simp[wD,cS]⟩;cases h;exact False.elim I);obtain⟨b,I,G⟩:=key;obtain⟨c,hK,hc⟩:=LH I;refine⟨b&&c,hK,λd bW n w C bR nx ak F hy=>?_⟩;cases bW with|nil=>simp[wE]at ak|cons f bW =>simp only[wE,atM]at ak;obtain⟨⟨⟨h1,z⟩,aa⟩,aC⟩:=ak;have x0:=aua h1;(have Hq:n<bR.length:=by have:=F.1;simp at this;omega);(have RZ:n<nx.length:=by have:=hy.1;simp at this;omega);have Hr:bR.drop n=bR[n]::bR.drop (n+1):=auN Hq;have abT:nx.drop n=nx[n]::nx.drop (n+1):=auN RZ;rw[Hr]at F;rw[abT]at hy;obtain⟨a_,cC⟩:=G d f.type w C _ _ z F.head hy.head;have eV:=hc d bW (n+1) w C bR nx aC F.tail hy.tail;(have aX : f.name ≠ "_" := by simpa using aa);simp only[Op.eqFields,atH aX,Sem.run_bind,part,Hk cC,Result.andThen_ok,auR,avq,x0];(have g1:(⟨bR⟩:Array Value)[n]?=some bR[n]:=by simp[Hq]);(have eP:(⟨nx⟩:Array Value)[n]?=some nx[n]:=by simp[RZ]);rw[g1,eP];simp only[Sem.run_pure,Result.andThen_ok,a_];cases b<;>simp[eV]
 |[],[],_::_,_,I=>False.elim I
 |[],_::_,_,_,I=>False.elim I
 |_::_,[],_,_,I=>False.elim I
 |_::_,_::_,[],_,I=>False.elim I
theorem abU{ay:List bx}(hT:dg P ay){op:BinOp}{x y:D}{K:D->Prop}(I:Le ay h op t x y K)(zO zP:Operand): ∃d,K d/\(h=true->∀(w:World) (C:Nat->Nat) (aj v:Value),bf w C x aj->bf w C y v->∃r,(do eqGuard op t zO zP aj v;binOp op t aj v:Sem Value).run P w=.ok r w/\bf w C d r):=by unfold Le at I;split at I;rename_i k a bC b;obtain⟨d,hK,N⟩:=abx (P:=P) I;refine⟨d,hK,λax w C aj v ao W=>?_⟩;obtain⟨r,cU,ae⟩:=N ax;refine⟨r,?_,ae w C⟩;rw[ao.fr,W.fr];simp only[Sem.run_bind,zG op t zO zP (.int k a) (.int bC b) w (λ_ h=>by cases h) atC,Result.andThen_ok,cU];rename_i a b;obtain⟨d,hK,N⟩:=aby (P:=P) I;refine⟨d,hK,λax w C aj v ao W=>?_⟩;obtain⟨r,cU,ae⟩:=N ax;refine⟨r,?_,ae w C⟩;rw[ao.kw,W.kw];simp only[Sem.run_bind,zG op t zO zP (.string ⟨⟨a⟩⟩) (.string ⟨⟨b⟩⟩) w (λ_ h=>by cases h) atC,Result.andThen_ok,cU];rename_i a b;split at I;exact False.elim I;rename_i e ak;obtain⟨c1,rfl⟩:=hT.get ak;replace I:=il I;obtain⟨G,I⟩:=I;(have b5:e.kind=.bool:=by unfold RI at G;split at G<;>simp_all);have ao:=c1.abv b5;split at I;refine⟨_,I,λax w C aj v cS W=>⟨_,?_,.bool _⟩⟩;rw[cS.h4,W.h4];simp only[Sem.run_bind,zG _ e.t zO zP (.bool a) (.bool b) w (λ_ h=>by cases h) atC,Result.andThen_ok];simp[binOp,Op.equal,Op.maxDepth,run_equalIn_bool' w 9999 e.t a b ao];refine⟨_,I,λax w C aj v cS W=>⟨_,?_,.bool _⟩⟩;rw[cS.h4,W.h4];simp only[Sem.run_bind,zG _ e.t zO zP (.bool a) (.bool b) w (λ_ h=>by cases h) atC,Result.andThen_ok];simp[binOp,Op.equal,Op.maxDepth,run_equalIn_bool' w 9999 e.t a b ao];exact False.elim I;rename_i xs a';split at I;rename_i e ak;obtain⟨c1,rfl⟩:=hT.get ak;split at I;replace I:=il I;obtain⟨hc,I⟩:=I;obtain⟨b,hK,G⟩:=LH (P:=P) I;refine⟨_,hK,λax w C aj v ao W=>⟨.bool b,?_,.bool b⟩⟩;obtain⟨bR,rfl,F⟩:=ao.sD;obtain⟨nx,rfl,hy⟩:=W.sD;rw[atM]at hc;(have b5:e.kind=.struct:=by have:=hc.1;unfold He at this;split at this<;>simp_all);obtain⟨bW,mr,_,_,aZ,aT,jt⟩:=c1.By b5;(have jt:wE P bW.toList e.u_ 0=true:=ax2);(have qH:P.underlying e.t=some (.struct (P.fieldsOf e.t)):=by simp[Program.fieldsOf,mr]);(have LI:P.fieldsOf e.t=bW:=by simp[Program.fieldsOf,mr]);have:=G 9998 bW.toList 0 w C bR nx jt (by simpa using F) (by simpa using hy);simp only[Sem.run_bind,run_eqGuard_agg w _ e.t zO zP ⟨bR⟩ ⟨nx⟩ aT,Result.andThen_ok,run_eql_struct];rw[show(10000:Nat)=9999+1 from rfl,run_equalIn_struct w 9999 e.t ⟨bR⟩ ⟨nx⟩ qH aZ,LI,this];rfl;replace I:=il I;obtain⟨hc,I⟩:=I;obtain⟨b,hK,G⟩:=LH (P:=P) I;refine⟨_,hK,λax w C aj v ao W=>⟨.bool (!b),?_,.bool (!b)⟩⟩;obtain⟨bR,rfl,F⟩:=ao.sD;obtain⟨nx,rfl,hy⟩:=W.sD;rw[atM]at hc;(have b5:e.kind=.struct:=by have:=hc.1;unfold He at this;split at this<;>simp_all);obtain⟨bW,mr,_,_,aZ,aT,jt⟩:=c1.By b5;(have jt:wE P bW.toList e.u_ 0=true:=ax2);(have qH:P.underlying e.t=some (.struct (P.fieldsOf e.t)):=by simp[Program.fieldsOf,mr]);(have LI:P.fieldsOf e.t=bW:=by simp[Program.fieldsOf,mr]);have:=G 9998 bW.toList 0 w C bR nx jt (by simpa using F) (by simpa using hy);simp only[Sem.run_bind,run_eqGuard_agg w _ e.t zO zP ⟨bR⟩ ⟨nx⟩ aT,Result.andThen_ok,run_neq_struct];rw[show(10000:Nat)=9999+1 from rfl,run_equalIn_struct w 9999 e.t ⟨bR⟩ ⟨nx⟩ qH aZ,LI,this];rfl;exact False.elim I;exact False.elim I;exact False.elim I
theorem BD{ay:List bx}(hT:dg P ay){o:Oper}{K:D->Prop}(I:pU P B ay A h o.op K): ∃d,K d/\(h=true->∀(ρ:Operand->Value) (w:World) (C:Nat->Nat) (Ft:Nat->Prop),pR B w->mo Ft w C A.H->(∀x∈o.op.operands,bf w C (A.a8 x) (ρ x))->hM P d w C ((execOp ρ o).run P w)):=by obtain⟨dst,op,type,pos,after,guard⟩:=o;cases op<;>simp only[pU]at I;(case move x =>obtain⟨d,hK,N⟩:=iZ I;exact⟨d,hK,λax ρ w C Ft _ _ cZ=>hM.same (N ax w C _ (cZ x (by simp[Op.operands])))⟩);(case assign x =>obtain⟨d,hK,N⟩:=iZ I;exact⟨d,hK,λax ρ w C Ft _ _ cZ=>hM.same (N ax w C _ (cZ x (by simp[Op.operands])))⟩);(case pick c a b =>obtain⟨ark,I,LJ⟩:=iZ I;split at I;rename_i g;(have run:∀(ρ:Operand->Value) (w:World),ρ c=.bool g->(execOp ρ ⟨dst,.pick c a b,type,pos,after,guard⟩).run P w=.ok (.value (if g then ρ a else ρ b)) w:=by intro ρ w hc;simp[execOp,hc,asBool]);split at I;rename_i x y ha G;refine⟨_,I,λax ρ w C Ft _ _ cZ=>?_⟩;rw[run ρ w (LJ ax w C _ (cZ c (by simp[Op.operands]))).h4];refine hM.same ?_;have h1:=cZ a (by simp[Op.operands]);rw[ha]at h1;have z:=cZ b (by simp[Op.operands]);rw[G]at z;rw[h1.h4,z.h4];cases g<;>exact .bool _;rename_i x u' y ha G;obtain⟨aT,I⟩:=I;refine⟨_,I,λax ρ w C Ft _ _ cZ=>?_⟩;rw[run ρ w (LJ ax w C _ (cZ c (by simp[Op.operands]))).h4];refine hM.same ?_;have h1:=cZ a (by simp[Op.operands]);rw[ha]at h1;have z:=cZ b (by simp[Op.operands]);rw[G]at z;rw[h1.h4];(cases g with|true=>exact .bool _|false =>have qI:=aT ax rfl;subst qI;(cases z with|pO _ _ z=>simp only[auR,avq];rw[z.h4];exact .bool _));rename_i u' x y ha G;obtain⟨aT,I⟩:=I;refine⟨_,I,λax ρ w C Ft _ _ cZ=>?_⟩;rw[run ρ w (LJ ax w C _ (cZ c (by simp[Op.operands]))).h4];refine hM.same ?_;have h1:=cZ a (by simp[Op.operands]);rw[ha]at h1;have z:=cZ b (by simp[Op.operands]);rw[G]at z;rw[z.h4];(cases g with|false=>exact .bool _|true =>have qI:=aT ax rfl;subst qI;(cases h1 with|pO _ _ h1=>simp only[auT];rw[h1.h4];exact .bool _));exact False.elim I;exact False.elim I);(case binOp op t x y DW =>obtain⟨rJ,I,h8⟩:=iZ I;obtain⟨R0,I,tP⟩:=iZ I;obtain⟨d,hK,N⟩:=abU (P:=P) hT I x y;refine⟨d,hK,λax ρ w C Ft _ _ cZ=>?_⟩;obtain⟨r,ae,eO⟩:=N ax w C _ _ (h8 ax w C _ (cZ x (by simp[Op.operands]))) (tP ax w C _ (cZ y (by simp[Op.operands])));(have:(execOp ρ ⟨dst,.binOp op t x y DW,type,pos,after,guard⟩).run P w=.ok (.value r) w:=by simp only[execOp];rw[Sem.run_bind,ae];rfl);rw[this];exact hM.same eO);(case unOp op t x =>replace I:=iZ I;obtain⟨rJ,I,h8⟩:=I;split at I;rename_i b;refine⟨_,I,λax ρ w C Ft _ _ cZ=>?_⟩;have h1:=(h8 ax w C _ (cZ x (by simp[Op.operands]))).h4;(have:(execOp ρ ⟨dst,.unOp .not t x,type,pos,after,guard⟩).run P w=.ok (.value (.bool (!b))) w:=by simp[execOp,h1,Op.unary]);rw[this];exact hM.same (.bool _);rename_i k n;obtain⟨m,hK,hm⟩:=DX I;refine⟨_,hK,λax ρ w C Ft _ _ cZ=>?_⟩;have h1:=(h8 ax w C _ (cZ x (by simp[Op.operands]))).fr;(have:(execOp ρ ⟨dst,.unOp .neg t x,type,pos,after,guard⟩).run P w=.ok (.value (.int k m)) w:=by rw[hm ax];simp[execOp,h1,Op.unary,Op.intArith]);rw[this];exact hM.same (.int _ _);exact False.elim I);(case load t x =>obtain⟨rJ,I,h8⟩:=iZ I;obtain⟨d,hK,N⟩:=RO (P:=P) hT I;refine⟨d,hK,λax ρ w C Ft _ hH cZ=>?_⟩;obtain⟨aj,ao,ae⟩:=N ax w C Ft _ hH (h8 ax w C _ (cZ x (by simp[Op.operands])));(have:(execOp ρ ⟨dst,.load t x,type,pos,after,guard⟩).run P w=.ok (.value aj) w:=by simp[execOp,ao]);rw[this];exact hM.same ae);(case fieldAddr t x f =>obtain⟨rJ,I,h8⟩:=iZ I;obtain⟨d,hK,N⟩:=abC (P:=P) hT I;refine⟨d,hK,λax ρ w C Ft _ hH cZ=>?_⟩;obtain⟨aj,ao,ae⟩:=N w C _ (h8 ax w C _ (cZ x (by simp[Op.operands])));(have:(execOp ρ ⟨dst,.fieldAddr t x f,type,pos,after,guard⟩).run P w=.ok (.value aj) w:=by simp[execOp,ao]);rw[this];exact hM.same ae);(case field t x f =>obtain⟨rJ,I,h8⟩:=iZ I;obtain⟨d,hK,N⟩:=abD (P:=P) hT I;refine⟨d,hK,λax ρ w C Ft _ hH cZ=>?_⟩;obtain⟨aj,ao,ae⟩:=N w C _ (h8 ax w C _ (cZ x (by simp[Op.operands])));(have:(execOp ρ ⟨dst,.field t x f,type,pos,after,guard⟩).run P w=.ok (.value aj) w:=by simp[execOp,ao]);rw[this];exact hM.same ae);(case indexAddr t x fV =>obtain⟨rJ,I,h8⟩:=iZ I;obtain⟨di,I,lZ⟩:=iZ I;obtain⟨d,hK,N⟩:=abE (P:=P) hT I;refine⟨d,hK,λax ρ w C Ft _ hH cZ=>?_⟩;obtain⟨aj,ao,ae⟩:=N ax w C _ _ (h8 ax w C _ (cZ x (by simp[Op.operands]))) (lZ ax w C _ (cZ fV (by simp[Op.operands])));(have:(execOp ρ ⟨dst,.indexAddr t x fV,type,pos,after,guard⟩).run P w=.ok (.value aj) w:=by simp[execOp,ao]);rw[this];exact hM.same ae);(case index t x fV =>obtain⟨rJ,I,h8⟩:=iZ I;obtain⟨di,I,lZ⟩:=iZ I;obtain⟨d,hK,N⟩:=abH (P:=P) hT I;refine⟨d,hK,λax ρ w C Ft _ hH cZ=>?_⟩;obtain⟨aj,ao,ae⟩:=N ax w C _ _ (h8 ax w C _ (cZ x (by simp[Op.operands]))) (lZ ax w C _ (cZ fV (by simp[Op.operands])));(have:(execOp ρ ⟨dst,.index t x fV,type,pos,after,guard⟩).run P w=.ok (.value aj) w:=by simp[execOp,ao]);rw[this];exact hM.same ae);(case slice t x lk hi qE =>obtain⟨rJ,I,h8⟩:=iZ I;obtain⟨d,hK,N⟩:=abK (P:=P) hT I;refine⟨d,hK,λax ρ w C Ft _ hH cZ=>?_⟩;obtain⟨aj,ao,ae⟩:=N ax w C _ ρ (h8 ax w C _ (cZ x (by simp[Op.operands]))) (λy hy=>cZ y (by subst hy;simp[Op.operands])) (λy hy=>cZ y (by subst hy;simp[Op.operands])) (λy hy=>cZ y (by subst hy;simp[Op.operands]));(have:(execOp ρ ⟨dst,.slice t x lk hi qE,type,pos,after,guard⟩).run P w=.ok (.value aj) w:=by simp[execOp,ao]);rw[this];exact hM.same ae);(case convert oH kY x =>obtain⟨rJ,I,h8⟩:=iZ I;obtain⟨d,hK,N⟩:=abR (P:=P) hT I;refine⟨d,hK,λax ρ w C Ft _ hH cZ=>?_⟩;obtain⟨aj,w',aO,ao,ae,hs⟩:=N w C _ (h8 ax w C _ (cZ x (by simp[Op.operands])));(have:(execOp ρ ⟨dst,.convert oH kY x,type,pos,after,guard⟩).run P w=.ok (.value aj) w':=by simp only[execOp];rw[Sem.run_bind,ao];rfl);rw[this];exact⟨aO,ae,hs⟩);(case build t bP =>split at I;rename_i e ak;obtain⟨c1,rfl⟩:=hT.get ak;split at I;rename_i V bz b5;obtain⟨ds,I,tN,pX⟩:=D0 I;obtain⟨aA,hK,hcs⟩:=abP (P:=P) c1 b5 bz I;refine⟨_,hK,λax ρ w C Ft _ hH cZ=>?_⟩;have z:=pX ax w C ρ (λx F=>cZ x.2 (by simp[Op.operands];exact⟨x.1,by simpa using F⟩));obtain⟨v,W,ae⟩:=hcs w C (bP.map λ(i,x)=>(i,ρ x)) (by simp[tN]) (by simpa[awc]using z);(have:(execOp ρ ⟨dst,.build e.t bP,type,pos,after,guard⟩).run P w=.ok (.value v) w:=by simp only[execOp];rw[Sem.run_bind,W];rfl);rw[this];exact hM.same ae;exact False.elim I;exact False.elim I);(case buildSlice t n bP =>split at I;rename_i e ak;obtain⟨c1,rfl⟩:=hT.get ak;split at I;rename_i bH b5;split at I;rename_i aF kA;obtain⟨fs,rfl⟩:=hT.get kA;obtain⟨ds,I,tN,pX⟩:=D0 I;replace I:=il I;obtain⟨G,dN,hK⟩:=I;simp only[atM]at G;obtain⟨⟨⟨h1,z⟩,aa⟩,aC⟩:=G;refine⟨_,hK,λax ρ w C Ft _ hH cZ=>?_⟩;have a_:=pX ax w C ρ (λx F=>cZ x.2 (by simp[Op.operands];exact⟨x.1,by simpa using F⟩));obtain⟨v,w',aO,W,ae,hs⟩:=abS (P:=P) c1 fs b5 aC (auy (auw _) (auk aa)) (auk z) (aua h1) dN (w:=w) (C:=C) (vs:=(bP.map λ(i,x)=>(i,ρ x)).toList) (by simp[tN]) (by simpa[awc]using a_);(have:(execOp ρ ⟨dst,.buildSlice e.t n bP,type,pos,after,guard⟩).run P w=.ok (.value v) w':=by simp only[execOp];rw[Sem.run_bind,W];rfl);rw[this];exact⟨aO,ae,hs⟩;exact False.elim I;exact False.elim I;exact False.elim I);(case makeFunc f first oF =>obtain⟨bW,I,mr⟩:=DZ I;obtain⟨aA,I,hcs⟩:=DZ I;refine⟨_,I,λax ρ w C Ft _ hH cZ=>?_⟩;have h1:=mr ax w C ρ (λx F=>cZ x (by simp[Op.operands];exact .inl (by simpa using F)));have z:=hcs ax w C ρ (λx F=>cZ x (by simp[Op.operands];exact .inr (by simpa using F)));(have:(execOp ρ ⟨dst,.makeFunc f first oF,type,pos,after,guard⟩).run P w=.ok (.value (.func f ⟨first.toList.map ρ⟩ ⟨oF.toList.map ρ⟩)) w:=by simp only[execOp,Instr.makeFunc,Sem.run_bind,Sem.run_pure,Result.andThen_ok];congr 3;apply avE;simp;apply avE;simp);rw[this];exact hM.same (.fn f bW aA _ _ h1.1 z.1 h1.2 z.2));(case extract x i =>obtain⟨rJ,I,h8⟩:=iZ I;split at I;rename_i ds;split at I;rename_i d N;refine⟨d,I,λax ρ w C Ft _ hH cZ=>?_⟩;obtain⟨vs,W,ae⟩:=(h8 ax w C _ (cZ x (by simp[Op.operands]))).abr;have bi:i<vs.length:=ae.1 ▸ e8 N;have aT:vs[i]?=some vs[i]:=atJ bi;(have:(execOp ρ ⟨dst,.extract x i,type,pos,after,guard⟩).run P w=.ok (.value vs[i]) w:=by simp[execOp,Instr.extract,W,bi]);rw[this];exact hM.same (ae.2 i d _ N aT);exact False.elim I;exact False.elim I);(case call c =>obtain⟨callee,args,argTypes⟩:=c;simp only at I;split at I;rename_i x kZ;(have zQ:args=#[x]:=by apply avE;simpa using kZ);subst zQ;replace I:=iZ I;obtain⟨rJ,I,h8⟩:=I;split at I;rename_i t qJ;(have abV:argTypes=#[t]:=by apply avE;simpa using qJ);subst abV;split at I;rename_i e ak;obtain⟨c1,rfl⟩:=hT.get ak;split at I;rename_i s b5;refine⟨_,I,λax ρ w C Ft _ hH cZ=>?_⟩;have h1:=(h8 ax w C _ (cZ x (ayB))).kw;have ao:=c1.pV b5;(have:(execOp ρ ⟨dst,.call ⟨.builtin .len,#[x],#[e.t]⟩,type,pos,after,guard⟩).run P w=.ok (.value (.int .i64 s.length)) w:=by have hs:(⟨⟨s⟩⟩:ByteArray).size=s.length:=rfl;simp[execOp,resolve,invoke,builtin,Builtin.len_,run_underlying ao,h1,goInt,hs]);rw[this];exact hM.same (.int _ _);rename_i bH tg k xs b5;refine⟨_,I,λax ρ w C Ft _ hH cZ=>?_⟩;have h1:=(h8 ax w C _ (cZ x (ayB))).kz;(have z:∃a cap,ρ x=.slice a xs.length cap:=by rcases h1 with⟨rfl,⟨_,h⟩,_⟩|⟨b,o,cap,g,h,_⟩;exact⟨_,_,h⟩;exact⟨_,_,h⟩);obtain⟨a,cap,z⟩:=z;have ao:=c1.ky b5;(have:(execOp ρ ⟨dst,.call ⟨.builtin .len,#[x],#[e.t]⟩,type,pos,after,guard⟩).run P w=.ok (.value (.int .i64 xs.length)) w:=axR);rw[this];exact hM.same (.int _ _);rename_i bH b5;refine⟨_,I,λax ρ w C Ft _ hH cZ=>?_⟩;have z:=(h8 ax w C _ (cZ x (ayB))).xX;have ao:=c1.ky b5;(have:(execOp ρ ⟨dst,.call ⟨.builtin .len,#[x],#[e.t]⟩,type,pos,after,guard⟩).run P w=.ok (.value (.int .i64 0)) w:=axR);rw[this];exact hM.same (.int _ _);rename_i bH bQ n R1 b5;refine⟨_,I,λax ρ w C Ft _ hH cZ=>?_⟩;have z:=(h8 ax w C _ (cZ x (ayB))).fL;have ao:=c1.ky b5;(have:(execOp ρ ⟨dst,.call ⟨.builtin .len,#[x],#[e.t]⟩,type,pos,after,guard⟩).run P w=.ok (.value (.int .i64 n)) w:=axR);rw[this];exact hM.same (.int _ _);exact False.elim I;exact False.elim I;exact False.elim I;rename_i x y kZ;(have zQ:args=#[x,y]:=by apply avE;simpa using kZ);subst zQ;replace I:=iZ I;obtain⟨rJ,I,h8⟩:=I;replace I:=iZ I;obtain⟨R0,I,tP⟩:=I;split at I;rename_i k a bC b;refine⟨_,I,λax ρ w C Ft _ hH cZ=>?_⟩;have h1:=(h8 ax w C _ (cZ x (ayB))).fr;have z:=(tP ax w C _ (cZ y (ayB))).fr;(have:(execOp ρ ⟨dst,.call ⟨.builtin .max,#[x,y],argTypes⟩,type,pos,after,guard⟩).run P w=.ok (.value (.int k (if b>a then b else a))) w:=by simp[execOp,resolve,invoke,builtin,Builtin.max_,Builtin.max2,h1,z]);rw[this];exact hM.same (.int _ _);exact False.elim I;rename_i x y kZ;(have zQ:args=#[x,y]:=by apply avE;simpa using kZ);subst zQ;replace I:=iZ I;obtain⟨rJ,I,h8⟩:=I;replace I:=iZ I;obtain⟨R0,I,tP⟩:=I;split at I;rename_i k a bC b;refine⟨_,I,λax ρ w C Ft _ hH cZ=>?_⟩;have h1:=(h8 ax w C _ (cZ x (ayB))).fr;have z:=(tP ax w C _ (cZ y (ayB))).fr;(have:(execOp ρ ⟨dst,.call ⟨.builtin .min,#[x,y],argTypes⟩,type,pos,after,guard⟩).run P w=.ok (.value (.int k (if b<a then b else a))) w:=by simp[execOp,resolve,invoke,builtin,Builtin.min_,Builtin.min2,h1,z]);rw[this];exact hM.same (.int _ _);exact False.elim I;rename_i f;replace I:=iZ I;obtain⟨abW,I,LK⟩:=I;split at I;(rename_i b6 first cq;replace I:=DZ I;obtain⟨wC,I,has⟩:=I;obtain⟨g2,d,M,dV,hK⟩:=I;refine⟨d,hK,λax ρ w C Ft pZ hH cZ=>?_⟩;obtain⟨⟨fn,i7,rK,mu⟩,D4⟩:=M ax;obtain⟨fK,hp,W,h1,z⟩:=(LK ax w C _ (cZ f (ayB))).u9;have aa:=has ax w C ρ (λx F=>cZ x (by simp[Op.operands,Call.operands];exact .inr (by simpa using F)));have aC:=dV.rH ((h1.append aa).append z);have G:fn.body.isNone=false:=by cases G:fn.body<;>simp[G]at rK⊢);(have:(execOp ρ ⟨dst,.call ⟨.value f,args,argTypes⟩,type,pos,after,guard⟩).run P w=.ok (.enter b6 ⟨fK++args.toList.map ρ++hp⟩) w:=axs);rw[this];exact⟨rfl,D4 w C _ pZ aC⟩;exact False.elim I;exact False.elim I);(case nilCheck x =>replace I:=iZ I;obtain⟨rJ,I,h8⟩:=I;split at I;refine⟨_,I,λax ρ w C Ft _ hH cZ=>?_⟩;have W:=h8 ax w C _ (cZ x (by simp[Op.operands]));(have:(execOp ρ ⟨dst,.nilCheck x,type,pos,after,guard⟩).run P w=.ok (.value (ρ x)) w:=by simp only[execOp,W.wA,Sem.run_pure]);rw[this];exact hM.same W;refine⟨_,I,λax ρ w C Ft _ hH cZ=>?_⟩;have W:=h8 ax w C _ (cZ x (by simp[Op.operands]));(have:(execOp ρ ⟨dst,.nilCheck x,type,pos,after,guard⟩).run P w=.ok (.value (ρ x)) w:=by(obtain⟨b,o,h⟩:∃b o,ρ x=.pointer (some ⟨b,o,none⟩):=by generalize ρ x=v at W;cases W;exact⟨_,_,rfl⟩);simp only[execOp,h,Sem.run_pure]);rw[this];exact hM.same W;exact False.elim I);all_goals exact False.elim I
theorem hR{o:Obj}(h:w.heap[b]?=some o):b<w.heap.size:=(avu.1 h).1
theorem tE.lt{o:aI}(h:tE w C o)(ao:o.ec b):b<w.heap.size:=by cases o with|box eh aA =>obtain⟨vs,e,G,_⟩:=h;simp only[aI.ec]at ao;subst ao;exact hR G|own v n k e =>obtain⟨a,cap,W,av,_,cG⟩:=h;obtain⟨o,h6,dM,bi⟩:=ao;rw[W]at dM;simp only[Value.slice.injEq]at dM;obtain⟨rfl,_,rfl⟩:=dM;obtain⟨eh,vs,ha,G,_⟩:=cG bi;simp only[aus,Addr.mk.injEq]at ha;obtain⟨rfl,_,_⟩:=ha;exact hR G|row v xs k e =>obtain⟨a,cap,W,_,_,_,_,cG⟩:=h;obtain⟨n,h6,dM,bi⟩:=ao;rw[W]at dM;simp only[Value.slice.injEq]at dM;obtain⟨rfl,_,rfl⟩:=dM;obtain⟨eh,vs,ha,G,_⟩:=cG bi;simp only[aus,Addr.mk.injEq]at ha;obtain⟨rfl,_,_⟩:=ha;exact hR G|set eh ah =>obtain⟨eC,iX,G,_⟩:=h;simp only[aI.ec]at ao;subst ao;exact hR G|b' eh o =>simp only[aI.ec]at ao;subst ao;exact hR h.1|mp eh cA =>obtain⟨eC,iX,G,_⟩:=h;simp only[aI.ec]at ao;subst ao;exact hR G|kU eh e aA =>obtain⟨vs,G,_⟩:=h;simp only[aI.ec]at ao;subst ao;exact hR G
theorem tE.iE{o:aI}(h:tE w C o)(ak:n0 w C w' aO)(X:∀b,o.ec b->w'.heap[b]?=w.heap[b]?/\aO b=C b):tE w' aO o:=by cases o with|box b aA =>obtain⟨vs,e,G,ae,hc⟩:=h;obtain⟨h1,z⟩:=X b rfl;exact⟨vs,e,by rw[h1];exact G,ae.ext ak,by rw[z];exact hc⟩|own v n k e =>obtain⟨a,cap,W,av,hm,cG⟩:=h;refine⟨a,cap,W,av,hm,λbi=>?_⟩;obtain⟨b,vs,ha,G,hs,hc⟩:=cG bi;obtain⟨h1,z⟩:=X b ⟨0,cap,by rw[W,ha],bi⟩;exact⟨b,vs,ha,by rw[h1];exact G,hs,by rw[z];exact hc⟩|row v xs k e =>obtain⟨a,cap,W,av,hm,F,eJ,cG⟩:=h;refine⟨a,cap,W,av,hm,F,λdF gg=>(eJ dF gg).imp λb G=>⟨G.1,auy G.2 ak.size⟩,λbi=>?_⟩;obtain⟨b,vs,ha,G,hs,hc,ae⟩:=cG bi;obtain⟨h1,z⟩:=X b ⟨xs.length,cap,by rw[W,ha],bi⟩;exact⟨b,vs,ha,by rw[h1];exact G,hs,by rw[z];exact hc,λj d N=>by obtain⟨aj,aa,aC,a_⟩:=ae j d N;exact⟨aj,aa,aC.ext ak,a_⟩⟩|set b ah =>obtain⟨eC,iX,G,hc,aa,aC⟩:=h;obtain⟨h1,z⟩:=X b rfl;exact⟨eC,iX,by rw[h1];exact G,by rw[z];exact hc,aa,aC⟩|b' b o =>obtain⟨h1,z⟩:=X b rfl;exact⟨by rw[h1];exact h.1,by rw[z];exact h.2⟩|mp b cA =>obtain⟨eC,iX,G,hc,aa,av,aC⟩:=h;obtain⟨h1,z⟩:=X b rfl;exact⟨eC,iX,by rw[h1];exact G,by rw[z];exact hc,aa,av,λi k d e hi o7=>⟨(aC i k d e hi o7).1,(aC i k d e hi o7).2.ext ak⟩⟩|kU b e aA =>obtain⟨vs,G,ae,hc⟩:=h;obtain⟨h1,z⟩:=X b rfl;exact⟨vs,by rw[h1];exact G,ae.ext ak,by rw[z];exact hc⟩
theorem mo.tQ{H:bF}(h:mo Ft w C H)(hs:c7 (λ_=>False) w C w' aO):mo Ft w' aO H :=
 ⟨λs o ag=>(h.b' s o ag).iE hs.ext λb G=>hs.iE b ((h.b' s o ag).lt G) (λM=>M),h.inj,h.cJ⟩
theorem bG.tQ{U:b7 P B am}{w w':World}{C aO:Nat->Nat}{A:aw}{a:Act}(h:bG U w C A a)(hs:c7 (λ_=>False) w C w' aO):bG U w' aO A a :=
 ⟨λi=>(h.tmps i).ext hs.ext,h.heap.tQ hs,h.size,h.defers,h.step.trans hs λ_ _ M=>M.elim⟩
theorem bG.put{U:b7 P B am}{w:World}{C:Nat->Nat}{A:aw}{a:Act}(h:bG U w C A a){dst:Option Tmp}(N:iY am dst=true){d:D}{v:Value}(ae:bf w C d v): bG U w C (A.put dst d) (a.put dst v):=by cases dst with|none=>exact h|some t =>(have bi:t<a.tmps.size:=by rw[h.size];exact auy (auw _) (auk N));refine⟨λi=>?_,h.heap,by simp[Act.put,h.size],h.defers,h.step⟩;simp only[aw.put,Act.put];(cases G:Nat.beq i t with|true =>have:=aua G;subst this;simpa[bi]using ae|false =>(have aX:t≠i:=λe=>by subst e;have:Nat.beq t t=true:=au7 t;rw[G]at this;cases this);have:=h.tmps i;simp only[auV];rw[show(a.tmps.setIfInBounds t v).getD i undef=a.tmps.getD i undef by simp[awi aX]];exact this)
theorem qK(A:aw)(s:Nat)(o:Option aI):(A.b2 s o).H s=o:=by simp[aw.b2]
theorem avw{a:Nat}(h:a≠b):Nat.beq a b=false:=by cases G:Nat.beq a b with|false=>rfl|true=>exact absurd (aua G) h
variable{bp:Nat}
theorem mw(A:aw)(o:Option aI)(h:bp≠s):(A.b2 s o).H bp=A.H bp:=by simp[aw.b2,avw h]
theorem bG.b2{U:b7 P B am}{w w':World}{C aO:Nat->Nat}{A:aw}{a:Act}(h:bG U w C A a){Ft:Nat->Prop}(hs:c7 Ft w C w' aO)(bJ:∀b,Ft b->U.pS b){s:Nat}(LL:∀bp o b,bp≠s->A.H bp=some o->o.ec b->¬Ft b){o:Option aI}(ag:∀x,o=some x->tE w' aO x/\∀b,x.ec b->U.pS b/\(Ft b\/w.heap.size<=b)):bG U w' aO (A.b2 s o) a:=by refine⟨λi=>(h.tmps i).ext hs.ext,⟨λbp x F=>?_,λe9 gz x y b aX h1 z ao cS=>?_,λbp x b F ao=>?_⟩,h.size,h.defers,?_⟩;by_cases i6:bp=s;subst i6;rw[qK]at F;exact(ag x F).1;rw[mw A o i6]at F;exact(h.heap.b' bp x F).iE hs.ext λb G=>hs.iE b ((h.heap.b' bp x F).lt G) (LL bp x b i6 F G);by_cases bT:e9=s;subst bT;rw[qK]at h1;rw[mw A o (Ne.symm aX)]at z;rcases((ag x h1).2 b ao).2 with M|M;exact LL gz y b (Ne.symm aX) z cS M;have:=(h.heap.b' gz y z).lt cS;omega;rw[mw A o bT]at h1;by_cases b0:gz=s;subst b0;rw[qK]at z;rcases((ag y z).2 b cS).2 with M|M;exact LL e9 x b bT h1 ao M;have:=(h.heap.b' e9 x h1).lt ao;omega;rw[mw A o b0]at z;exact h.heap.inj e9 gz x y b aX h1 z ao cS;by_cases i6:bp=s;subst i6;rw[qK]at F;exact((ag x F).2 b ao).1;rw[mw A o i6]at F;exact h.heap.cJ bp x b F ao;refine h.step.trans hs λb G M=>?_;rcases bJ b M with h1|h1;exact h1;omega
variable{U:b7 P B am}
theorem bG.drop(h:bG U w C A a)(s:Nat):bG U w C (A.b2 s none) a :=
 h.b2 (Ft:=λ_=>False) (.refl _ _ _) (λ_ M=>M.elim) (λ_ _ _ _ _ _ M=>M) (λx F=>by cases F)
theorem bG.D5(h:bG U w C A a):U.pS w.heap.size:=.inr h.step.ext.size
theorem bG.LM(h:bG U w C A a)(s:Nat){vs:List Value}(e:TypeId)(ae:db w C aA vs): bG U (w.alloc (.cells ⟨vs⟩ e)) (gy C w.heap.size 0) (A.b2 s (some (.box w.heap.size aA))) a:=by have hs:=c7.alloc (λ_=>False) w C (.cells ⟨vs⟩ e) 0;refine h.b2 hs (λ_ M=>M.elim) (λ_ _ _ _ _ _ M=>M) (λx F=>?_);cases F;refine⟨⟨vs,e,kB _ _,ae.ext hs.ext,ht _ _ _⟩,λb G=>?_⟩;simp only[aI.ec]at G;subst G;exact⟨h.D5,.inr (atP _)⟩
theorem c7.setRow{w:World}{C:Nat->Nat}{g:Nat}{fx aA:Array Value}{e:TypeId}{n:Nat}(aT:w.heap[g]?=some (.cells fx e (0,0)))(av:C g<=n)(hcs:∀o,o<C g->aA[o]?=fx[o]?):c7 (λb=>b=g) w C (w.setRow g aA) (gy C g n):=by refine⟨⟨by simp,λb G=>?_,λb o G ag=>?_⟩,rfl,rfl,rfl,λb G aX=>⟨setRow_other w g b aA aX,rI _ _ aX⟩⟩;by_cases e:b=g;subst e;rw[ht];exact av;rw[rI _ _ e];exact atP _;by_cases oI:b=g;subst oI;simp only[World.cell?,setRow_heap w b fx aA e (0,0) aT,aT];simpa using hcs o ag;simp only[World.cell?,setRow_other w g b aA oI]
theorem cr(h:∀i,bf w C (A.t i) (a.tmps.getD i undef))(x:Operand):bf w C (A.a8 x) (a.eval x):=by cases x with|tmp t=>exact h t|const v =>simp only[aw.a8,Act.eval];unfold RG;split;exact .bool _;exact .int _ _;rename_i s;obtain⟨⟨l⟩⟩:=s;exact .O l;exact .bh;exact .an _|global g=>exact .an _|func f=>exact .fn _ [] [] [] [] rfl rfl (λi d v h=>by simp at h) (λi d v h=>by simp at h)
theorem R2{e:bx}{off:Nat}{x:D}{K:List D->Prop}(I:Bv e off aA x K): ∃ds,K (sF aA off ds)/\off+ds.length<=aA.length/\∀(w:World) (C:Nat->Nat) (v:Value),bf w C x v->db w C ds v.cells.toList/\v.cells.size=e.aB/\∀aj∈v.cells.toList,aj.oneCell'=true:=by unfold Bv at I;cases kW:e.agg with|true =>rw[kW]at I;simp only at I;split at I;rename_i ds;replace I:=il I;obtain⟨G,I⟩:=I;simp only[atM]at G;refine⟨ds,I,auk G.1.2,λw C v ae=>?_⟩;obtain⟨vs,rfl,h⟩:=ae.sD;have al:=aua G.1.1;refine⟨h,by simp only[Value.cells,auH];rw[<-h.1,al],λaj ao=>?_⟩;simp only[Value.cells]at ao;obtain⟨j,Z⟩:=aub.1 ao;obtain⟨d,N⟩:=lW (l:=ds) (i:=j) (by rw[h.1];exact e8 Z);have:=auC.1 G.2 d (at2 N);exact((h.2 j d aj N Z).oJ this).2;exact False.elim I|false =>rw[kW]at I;simp only at I;replace I:=il I;obtain⟨G,I⟩:=I;simp only[atM]at G;have bi:off<aA.length:=auy (auw _) (auk G.1.1);refine⟨[x],by rw[<-RV bi];exact I,by simp;omega,λw C v ae=>?_⟩;obtain⟨h1,z⟩:=ae.oJ G.1.2;have hsz:=aua G.2;rw[h1];exact⟨.cons ae (.nil _ _),by simp[hsz],by simpa using z⟩
theorem p0(l dh:List α)(off:Nat)(h:off+dh.length<=l.length)(k:Nat): (l.take off++dh++l.drop (off+dh.length))[k]?=if off<=k/\k<off+dh.length/\k<l.length then dh[k-off]? else l[k]?:=by by_cases h1:k<off;rw[atG atv,auj,atZ atw,auB,atH h1];by_cases z:k<off+dh.length;rw[atH ⟨by omega,z,by omega⟩,auj,aul atw,atZ atw];congr 1;simp;omega;rw[atG atv,aul atw,avL];congr 1;simp;omega
theorem abX(h:bG U w C A a){e:bx}(ak:e.gk P){off:Nat}(hH:A.H s=some (.box b aA)){x:D}{K:List D->Prop}(I:Bv e off aA x K)(ae:bf w C x v): ∃dt w' aO,K dt/\(Instr.storeAt e.t (.pointer (some ⟨b,off,none⟩)) v).run P w=.ok () w'/\bG U w' aO (A.b2 s (some (.box b dt))) a:=by obtain⟨ds,hK,dV,pX⟩:=R2 I;obtain⟨h1,z,aa⟩:=pX w C v ae;obtain⟨vs,bH,G,h7,c6⟩:=h.heap.b' s _ hH;(have g5:off+0+v.cells.toList.length<=(⟨vs⟩:Array Value).size:=by have:=h1.1;have:=h7.1;simp only[auH];omega);have cU:=run_storeCells_at P b off bH v.cells.toList 0 ⟨vs⟩ w G g5 aa;simp only[av_]at cU;have aZ:=c7.setRow (C:=C) (n:=0) G (aA:=(vs.take off++v.cells.toList++vs.drop (off+v.cells.toList.length)).toArray) atv (λo ag=>by omega);refine⟨_,_,_,hK,?_,h.b2 aZ (s:=s) (λx F=>by subst F;exact h.heap.cJ s _ _ hH rfl) (λbp bI eh aX c4 ao m5=>?_) λy hy=>?_⟩;simp only[Instr.storeAt,Instr.sureAddr,Sem.run_bind,Sem.run_pure,Result.andThen_ok,storeVar,ak.size,z];simpa using cU;subst m5;exact h.heap.inj bp s bI _ eh aX c4 hH ao rfl;cases hy;refine⟨⟨_,bH,setRow_heap w b _ _ bH _ G,?_,ht _ _ _⟩,λx F=>?_⟩;have LN:=(h7.ext aZ.ext).laid (h1.ext aZ.ext) dV (r:=(vs.take off++v.cells.toList++vs.drop (off+v.cells.toList.length)).toArray) (by simp only[auH,atO,at4,auS];simp only[auH]at g5;omega) (λk=>by rw[avz];exact p0 vs v.cells.toList off (by simpa using g5) k);simpa using LN;simp only[aI.ec]at F;subst F;exact⟨h.heap.cJ s _ x hH rfl,.inl rfl⟩
theorem LO{b:Addr}{n:Nat}(h:bf w C (.Q tg k xs) (.slice (some b) n cap)): ∃dh:List Value,dh.length=xs.length*k/\(∀(j:Nat) aj,dh[j]?=some aj->w.cell? (b.add j)=some aj)/\(∀(j:Nat) d,(b1 xs)[j]?=some d->∃aj,dh[j]?=some aj/\bf w C d aj/\aj.oneCell'=true)/\(∀aj∈dh,aj.oneCell'=true)/\(∀x∈xs,x.cells.length=k):=by rcases h.kz with⟨F,W,_⟩|⟨eh,o,h6,g,W,_,_,_,_,X,_,gd,ef,eO⟩;subst F;exact⟨[],by simp,λj aj ao=>by simp at ao,λj d N=>by simp[b1]at N,λaj ao=>by simp at ao,λx F=>by simp at F⟩;simp only[Value.slice.injEq,aus]at W;obtain⟨rfl,rfl,rfl⟩:=W;have du:=pP X;(have h9:∀j,j<xs.length*k->((List.range (xs.length*k)).map g)[j]?=some (g j):=λj Z=>by simp[Z]);refine⟨(List.range (xs.length*k)).map g,by simp,λj aj ao=>?_,λj d N=>?_,λaj ao=>?_,X⟩;(have Z:j<xs.length*k:=by have:=e8 ao;simpa using this);obtain⟨d,N⟩:=lW (l:=b1 xs) (i:=j) atv;rw[h9 j Z]at ao;cases ao;rw[o5];exact gd j d N;(have Z:j<xs.length*k:=by have:=e8 N;omega);exact⟨g j,h9 j Z,eO j d N,ef j d N⟩;obtain⟨j,Z,rfl⟩:=at3.1 ao;(have Z:j<xs.length*k:=by simpa using Z);obtain⟨d,N⟩:=lW (l:=b1 xs) (i:=j) atv;exact ef j d N
theorem bf.abY(h:bf w C (.Q tg k xs) v)(ax:n7.gk v):bf w C (.Q n7 k xs) v:=by rcases h.kz with⟨rfl,⟨a,rfl⟩,_⟩|⟨b,o,cap,g,rfl,_,G,hc,hm,X,c6,gd,ef,eO⟩;exact .jr n7 k a ax;exact .Q n7 k xs b o cap g ax G hc hm X c6 gd ef eO
theorem p1(l r:List α)(j:Nat):(l++r)[j]?=if j<l.length then l[j]? else r[j-l.length]?:=by by_cases h:j<l.length;rw[atH h,atZ h];rw[atG h,aul atv]
variable{a':List D}{kD:TypeId}
theorem R3(h:bG U w C A a){e:bx}(ak:e.gk P)(kA:aF.gk P)(b5:e.kind=.slice aF.t)(bz:aF.zero≠none)
    {vs bR:Value} (wI:bf w C (.Q tg aF.aB xs) vs) (wJ:bf w C (.Q n7 aF.aB a') bR) (mx:(xs.length+a'.length)*aF.bytes<=140737488355328)
  (oK:xs.length+a'.length<=9223372036854775807) {q dst:Nat} 
  (sK:(∃bQ n,vs=.slice bQ n n)/\q=dst\/A.H q=some (.own vs xs.length aF.aB aF.t)) :
  ∃v w' aO,(Builtin.append_ #[e.t,e.t] kD #[vs,bR]).run P w=.ok v w'/\bf w' aO (.Q (.own dst v) aF.aB (xs++a')) v/\
   bG U w' aO ((A.b2 q none).b2 dst (some (.own v (xs.length+a'.length) aF.aB aF.t))) a:=by
 have ao:=ak.ky b5;obtain⟨i,hi,hsz,o8,nw⟩:=kA.qF;obtain⟨V,bz⟩:=awG.1 bz;obtain⟨ei,lX,mt,jR⟩:=nw V bz;have D6:ei.cells.size=aF.aB:=by have:=(jR w C).1;rw[mt]at this;simpa using this.symm
 have M:=h.drop q;have hlen:(xs++a').length=xs.length+a'.length:=by simp
 have abZ:∃bQ cap,vs=.slice bQ xs.length cap/\xs.length<=cap/\cap<=maxLen:=by
  rcases wI.kz with⟨rfl,⟨a0,W⟩,_⟩|⟨b,o,cap,g,W,_,_,hc,hm,_⟩
  ·exact⟨a0,0,W,by simp,at7 _⟩
  exact⟨_,cap,W,hc,hm⟩
 obtain⟨bQ,cap,fM,hcap,BE⟩:=abZ
 have hy:∃ab sL,bR=.slice ab a'.length sL:=by
  rcases wJ.kz with⟨rfl,⟨a0,W⟩,_⟩|⟨b,o,cap,g,W,_⟩
  ·exact⟨a0,0,W⟩
  exact⟨_,_,W⟩
 obtain⟨ab,sL,fj⟩:=hy;by_cases hm:a'.length=0
 ·
  have BF:a'=[]:=atY hm;subst BF
  have cU:(Builtin.append_ #[e.t,e.t] kD #[vs,bR]).run P w=.ok vs w:=by
   subst fM fj;have aZ:∀(b:Addr),(storeCells b []).run P w=.ok () w:=λb=>rfl;cases ab<;>cases bQ<;>simp[Builtin.append_,run_underlying ao,sizeOf,typeInfo,hi,Builtin.lenOf,Builtin.firstCells,loadCells,loadCellsFrom,hcap,aZ]
  refine⟨vs,w,C,cU,by simpa using wI.abY (n7:=.own dst vs) rfl,?_⟩;refine M.b2 (Ft:=λb=>aI.ec (.own vs xs.length aF.aB aF.t) b) (.refl _ _ _) (λb G=>?_) (λbp o b aX c4 cS G=>?_) λx F=>?_
  ·rcases sK with⟨⟨bv,n,W⟩,_⟩|hH
   ·obtain⟨o,h6,dM,bi⟩:=G;rw[W]at dM;simp only[Value.slice.injEq]at dM;omega
   exact h.heap.cJ q _ b hH G
  ·rcases sK with⟨⟨bv,n,W⟩,_⟩|hH
   ·obtain⟨bI,h6,dM,bi⟩:=G;rw[W]at dM;simp only[Value.slice.injEq]at dM;omega
   by_cases I:bp=q
   ·subst I;rw[qK]at c4;cases c4
   rw[mw A none I]at c4;exact h.heap.inj bp q o _ b I c4 hH cS G
  cases F
  simp only[auf,av_];refine⟨?_,λb G=>⟨?_,.inl G⟩⟩
  ·rcases sK with⟨⟨bv,n,W⟩,_⟩|hH
   ·have av:n=xs.length/\n=cap:=by rw[fM]at W;simp only[Value.slice.injEq]at W;omega
    exact⟨bv,n,by rw[W,av.1],by omega,by omega,λbi=>by omega⟩
   exact h.heap.b' q _ hH
  rcases sK with⟨⟨bv,n,W⟩,_⟩|hH
  ·obtain⟨bI,h6,dM,bi⟩:=G;rw[W]at dM;simp only[Value.slice.injEq]at dM;omega
  exact h.heap.cJ q _ b hH G
 ·
  subst fj
  have qL:∃dF,ab=some dF:=by
   cases ab with
   |some dF=>exact⟨dF,rfl⟩
   |none =>
    rcases wJ.kz with⟨rfl,W,_⟩|⟨b,o,cap,g,W,_⟩
    ·exact absurd rfl hm
    cases W
  obtain⟨dF,rfl⟩:=qL;obtain⟨ft,jS,x4,x5,rL,BG⟩:=LO wJ;have wK:ft.length=a'.length*i.size:=by rw[jS,hsz]
  have fresh:∀(k0:List Value) (hD:Nat),k0.length=xs.length*aF.aB->(∀(j:Nat) d,(b1 xs)[j]?=some d->∃aj,k0[j]?=some aj/\bf w C d aj/\aj.oneCell'=true)->(∀x∈xs,x.cells.length=aF.aB)->
    hD<xs.length+a'.length->
    ∀v,v=.slice (some ⟨w.heap.size,0,none⟩) (xs.length+a'.length) (grownCap w (xs.length+a'.length) hD aF.t)->
    ∀w',w'=w.drew.alloc (.cells (k0.toArray++ft.toArray++Builtin.zeroCells ei.cells (grownCap w (xs.length+a'.length) hD aF.t-(xs.length+a'.length))) aF.t)->
    ∃aO,bf w' aO (.Q (.own dst v) aF.aB (xs++a')) v/\bG U w' aO ((A.b2 q none).b2 dst (some (.own v (xs.length+a'.length) aF.aB aF.t))) a:=by
   intro k0 hD gJ my p2 Hs v W w' qM;have io:=grownCap_ge w (xs.length+a'.length) hD aF.t;have ms:=grownCap_le_maxLen w (xs.length+a'.length) hD aF.t (by simp only[maxLen];omega);generalize grownCap w (xs.length+a'.length) hD aF.t=o9 at W qM io ms
   have tM:(k0.toArray++ft.toArray++Builtin.zeroCells ei.cells (o9-(xs.length+a'.length))).size=o9*aF.aB:=by
    simp only[Array.size_append,auH,size_zeroCells,D6,gJ,jS,<-awH];congr 1;omega
   have g6:=c7.drew (λ_=>False) w C;have ju:=c7.alloc (λ_=>False) w.drew C (.cells (k0.toArray++ft.toArray++Builtin.zeroCells ei.cells (o9-(xs.length+a'.length))) aF.t) ((xs++a').length*aF.aB);have hs:=g6.trans ju (λ_ _ M=>M);rw[<-qM]at hs ju;refine⟨_,?_,M.b2 hs (λ_ M=>M.elim) (λ_ _ _ _ _ _ M=>M) λx F=>?_⟩
   ·have dN:=Hp (w:=w.drew) (C:=C) (tg:=.own dst v) (k:=aF.aB) (xs:=xs++a')
     (vs:=(k0.toArray++ft.toArray++Builtin.zeroCells ei.cells (o9-(xs.length+a'.length))).toList) (e:=aF.t) (cap:=o9)
     (λx F=>ax5) atv ms
     (λj d N=>by
      rw[x1,p1]at N;have du:=pP p2;simp only[avQ];split at N
      ·rename_i Z;obtain⟨aj,ao,ae,ag⟩:=my j d N;refine⟨aj,?_,ae.ext g6.ext,ag⟩;rw[auj,p1,atH (by simpa using e8 ao)];simpa using ao
      rename_i Z;obtain⟨aj,ao,ae,ag⟩:=x5 _ d N;refine⟨aj,?_,ae.ext g6.ext,ag⟩;rw[auj,p1,atG atw,p1,atH (by have:=e8 ao;simp;omega)]
      simpa[gJ,du]using ao) (by rw[hlen];exact W.symm)
    rw[hlen]at dN;rw[W]at dN⊢;rw[hlen,qM];exact dN
   cases F
   refine⟨⟨some ⟨w.heap.size,0,none⟩,o9,W,io,ms,λ_=>⟨w.heap.size,_,rfl,?_,tM,?_⟩⟩,λb G=>?_⟩
   ·rw[qM];exact kB w.drew _
   ·rw[hlen];exact ht _ _ _
   obtain⟨o,h6,dM,_⟩:=G;rw[W]at dM;simp only[Value.slice.injEq,aus,Addr.mk.injEq]at dM;obtain⟨⟨rfl,_⟩,_⟩:=dM;exact⟨h.D5,.inr (atP _)⟩
  subst fM
  cases bQ with
  |none =>
   rcases wI.kz with⟨rfl,⟨a0,W⟩,_⟩|⟨b,o,h6,g,W,_⟩
   ·simp only[Value.slice.injEq]at W;obtain⟨_,_,rfl⟩:=W;simp only[auf,aut]at mx oK fresh⊢;have ae:=run_append_nil (P:=P) w e.t kD aF.t i ei ao hi lX dF a'.length sL ft wK x4 atv atv (by rw[o8];omega);obtain⟨aO,h1,z⟩:=fresh [] 0 atx (λj d N=>by simp[b1]at N) (λx F=>by cases F) atv _ rfl _ rfl;exact⟨_,_,aO,ae,by simpa using h1,by simpa using z⟩
   cases W
  |some zR =>
   obtain⟨k0,gJ,BH,my,x6,p2⟩:=LO wI;by_cases sM:xs.length+a'.length<=cap
   ·
    have hH:A.H q=some (.own (.slice (some zR) xs.length cap) xs.length aF.aB aF.t):=by
     rcases sK with⟨⟨bv,n,W⟩,_⟩|hH
     ·simp only[Value.slice.injEq]at W;omega
     exact hH
    obtain⟨bv,h6,W,arl,_,cG⟩:=h.heap.b' q _ hH;simp only[Value.slice.injEq]at W;obtain⟨rfl,_,rfl⟩:=W;obtain⟨b,fx,LP,G,hcs,Ht⟩:=cG atv;cases LP
    have g5:xs.length*i.size+ft.length<=fx.size:=by
     rw[hsz,jS,hcs,<-awH];exact avh _ sM
    have ae:=run_append_room (P:=P) w e.t kD aF.t i ao hi b xs.length cap fx G dF a'.length sL ft wK x4 rL sM g5;rw[hsz]at ae g5;have arm:xs.length*aF.aB<=fx.toList.length:=by simp;omega
    have aZ:=c7.setRow (C:=C) (n:=(xs.length+a'.length)*aF.aB) G (aA:=(fx.toList.take (xs.length*aF.aB)++ft++fx.toList.drop (xs.length*aF.aB+ft.length)).toArray)
     (by rw[Ht];exact avh _ atv) (λo ag=>by
      rw[Ht]at ag;rw[avz,p0 _ _ _ atw,atG atv]
      simp)
    have eK:aI.ec (.own (.slice (some ⟨b,0,none⟩) xs.length cap) xs.length aF.aB aF.t) b:=⟨0,cap,rfl,by omega⟩;refine⟨_,_,_,ae,?_,M.b2 aZ (λx F=>ayu) (λbp o eh aX c4 cS qN=>?_) λx F=>?_⟩
    ·have dN:=x2 (w:=w.setRow b (fx.toList.take (xs.length*aF.aB)++ft++fx.toList.drop (xs.length*aF.aB+ft.length)).toArray) (C:=gy C b ((xs.length+a'.length)*aF.aB))
      (tg:=.own dst (.slice (some ⟨b,0,none⟩) (xs.length+a'.length) cap)) (k:=aF.aB) (xs:=xs++a') (b:=b) (cap:=cap) (setRow_heap w b fx _ aF.t (0,0) G)
      (λx F=>ax5) atv BE (by rw[ht,hlen];exact atP _)
      (λj d N=>by
       rw[x1,p1]at N;have du:=pP p2;split at N
       ·rename_i Z;obtain⟨aj,ao,ae,ag⟩:=my j d N;refine⟨aj,?_,ae.ext aZ.ext,ag⟩;rw[p0 _ _ _ atw,atG atv];have hc:=BH j aj ao;rw[o5,aut]at hc;simp only[World.cell?,G]at hc;simpa using hc
       rename_i Z;obtain⟨aj,ao,ae,ag⟩:=x5 _ d N;refine⟨aj,?_,ae.ext aZ.ext,ag⟩;have:=e8 ao;rw[p0 _ _ _ atw,atH ⟨by omega,by omega,by simp;omega⟩,<-du]
       exact ao) (by rw[hlen];exact rfl)
     rw[hlen]at dN;exact dN
    ·subst qN;by_cases I:bp=q
     ·subst I;rw[qK]at c4;cases c4
     rw[mw A none I]at c4;exact h.heap.inj bp q o _ eh I c4 hH cS eK
    cases F
    refine⟨⟨_,cap,rfl,sM,BE,λ_=>⟨b,_,rfl,setRow_heap w b fx _ aF.t _ G,?_,by rw[ht]⟩⟩,λx F=>?_⟩
    ·simp only[auH,atO,at4,auS,avy];omega
    obtain⟨o,h6,dM,_⟩:=F;simp only[Value.slice.injEq,aus,Addr.mk.injEq]at dM;obtain⟨⟨rfl,_⟩,_⟩:=dM;exact⟨h.heap.cJ q _ _ hH eK,.inl rfl⟩
   have ae:=run_append_grow (P:=P) w e.t kD aF.t i ei ao hi lX zR xs.length cap k0 (by rw[gJ,hsz]) BH dF a'.length sL ft wK x4 atv atv (ayx);obtain⟨aO,h1,z⟩:=fresh k0 cap gJ my p2 atv _ rfl _ rfl;exact⟨_,_,aO,ae,h1,z⟩
theorem zS(M:bG U w C A a){o:Oper}(N:iY am o.dst=true){a6:Exit->Act->World->Prop}{K:aw->Prop}(hK:K (A.put o.dst d))(I:hM P d w C ((execOp a.eval o).run P w)): o.wp P a w (λbv w'=>∃az aO,K az/\bG U w' aO az bv) a6:=by unfold Oper.wp;generalize(execOp a.eval o).run P w=r at*;cases r with|halt h w'=>exact I.elim|ok n w' =>(cases n with|value v =>obtain⟨aO,ae,hs⟩:=I;exact⟨_,aO,hK,(M.tQ hs).put N ae⟩|enter f args =>obtain⟨rfl,hc⟩:=I;(exact hc.mono λe rF ⟨v,lU,ak,ae,hs⟩=>by subst ak;exact⟨_,lU,hK,(M.tQ hs).put N ae⟩)|_=>exact I.elim)
theorem tR{ay:List bx}(hT:dg P ay)(M:bG U w C A a){o:Oper}(N:iY am o.dst=true){K:aw->Prop}
  (I:n1 P B ay A o.dst o.op K) (a6:Exit->Act->World->Prop):o.wp P a w (λbv w'=>∃az aO,K az/\bG U w' aO az bv) a6:=by
 have quiet:pU P B ay A true o.op (λd=>K (A.put o.dst d))->o.wp P a w (λbv w'=>∃az aO,K az/\bG U w' aO az bv) a6:=λI=>by
  obtain⟨d,hK,hr⟩:=BD hT I;exact zS M N hK (hr rfl a.eval w C _ M.base M.heap (λx _=>cr M.tmps x))
 obtain⟨dst,op,type,pos,after,guard⟩:=o;unfold n1 at I;cases op<;>simp only at I
 case move x=>exact zS M N ((zB _ _).1 I) (hM.same (cr M.tmps x))
 case assign x=>exact zS M N ((zB _ _).1 I) (hM.same (cr M.tmps x))
 case alloc e =>
  split at I
  ·rename_i ca s ak;obtain⟨c1,rfl⟩:=hT.get ak;split at I
   ·rename_i V bz;obtain⟨i,hi,_,_,nw⟩:=c1.qF;obtain⟨ei,lX,mt,jR⟩:=nw V bz
    have cU:(execOp a.eval ⟨some s,.alloc ca.t,type,pos,after,guard⟩).run P w=.ok (.value (.pointer (some ⟨w.heap.size,0,none⟩))) (w.alloc (.cells ei.cells ca.t)):=by
     simp[execOp,Instr.alloc,zeroValue,typeInfo,hi,lX,newVar,newRow]
    simp only[Oper.wp,cU,Oper.upon];exact⟨_,_,I w.heap.size,(M.LM s ca.t (jR w C)).put N (.box _ _ _)⟩
   exact I.elim
  exact I.elim
 case box e x =>
  split at I
  ·rename_i ca s ak;obtain⟨c1,rfl⟩:=hT.get ak
   have cU:∀v,a.eval x=v->(execOp a.eval ⟨some s,.box ca.t x,type,pos,after,guard⟩).run P w=.ok (.value (.pointer (some ⟨w.heap.size,0,none⟩))) (w.alloc (.cells v.cells ca.t)):=by
    intro v W;simp[execOp,Instr.box,newVar,newRow,W]
   have F:=cr M.tmps x;split at I
   ·split at I
    ·rename_i aA hcs;rw[hcs]at F;obtain⟨vs,W,ae⟩:=F.sD;simp only[Oper.wp,cU _ W,Oper.upon];exact⟨_,_,I w.heap.size,(M.LM s ca.t ae).put N (.box _ _ _)⟩
    exact I.elim
   replace I:=il I;obtain⟨ag,I⟩:=I;obtain⟨h1,_⟩:=F.oJ ag;simp only[Oper.wp,cU _ rfl,Oper.upon,h1];exact⟨_,_,I w.heap.size,(M.LM s ca.t (.cons F (.nil _ _))).put N (.box _ _ _)⟩
  exact I.elim
 case store t x y =>
  split at I
  ·rename_i e s b off ak F;obtain⟨c1,rfl⟩:=hT.get ak;split at I
   ·rename_i eh aA hH;obtain⟨rfl,I⟩:=I;obtain⟨dt,w',aO,hK,cU,fW⟩:=abX M c1 hH I (cr M.tmps y);have W:=cr M.tmps x;rw[F]at W
    have LQ:(execOp a.eval ⟨dst,.store e.t x y,type,pos,after,guard⟩).run P w=.ok .skip w':=by
     simp only[execOp,W.wA,Sem.run_bind,cU,Result.andThen_ok,Sem.run_pure]
    simp only[Oper.wp,LQ,Oper.upon];exact⟨_,aO,hK,fW.put N .undef⟩
   exact I.elim
  exact I.elim
 case call c =>
  obtain⟨callee,args,argTypes⟩:=c;simp only at I;split at I
  ·rename_i s x t DW kY kZ ab0;have zQ:args=#[s,x]:=by apply avE;simpa using kZ
   have ab1:argTypes=#[t,DW]:=by apply avE;simpa using ab0
   subst zQ ab1;replace I:=il I;obtain⟨ax,I⟩:=I;obtain rfl:=aua ax;unfold RJ at I;split at I
   ·exact I.elim
   rename_i e ak;obtain⟨c1,rfl⟩:=hT.get ak;split at I
   ·rename_i bH b5;split at I
    ·exact I.elim
    rename_i aF kA;obtain⟨fs,rfl⟩:=hT.get kA
    have key:∀(tg:iD) (xs:List D) (q:Nat) (az:aw),(bf w C (.Q tg aF.aB xs) (a.eval s))->((∃bQ n,a.eval s=.slice bQ n n)/\q=kY\/A.H q=some (.own (a.eval s) xs.length aF.aB aF.t))->
      (∀o,(az.b2 kY o)=((A.b2 q none).b2 kY o))->
      (match A.a8 x with
       |.Q _ bC a'=>cond (Nat.beq bC aF.aB&&Nat.blt 0 aF.aB) ((xs.length+a'.length)*aF.bytes<=140737488355328/\xs.length+a'.length<=9223372036854775807/\aF.zero≠none/\
         ∀v:Value,K ((az.b2 kY (some (.own v (xs.length+a'.length) aF.aB aF.t))).put (some kY) (.Q (.own kY v) aF.aB (xs++a')))) False
       |_=>False)->
      Oper.wp P ⟨some kY,.call ⟨.builtin .append,#[s,x],#[e.t,e.t]⟩,type,pos,after,guard⟩ a w (λbv w'=>∃az aO,K az/\bG U w' aO az bv) a6:=by
     intro tg xs q az wI sK ab2 I;have F:=cr M.tmps x;split at I
     ·rename_i n7 bC a' ab3;rw[ab3]at F;replace I:=il I;obtain⟨G,h1,z,aa,hK⟩:=I;rw[atM]at G;obtain rfl:=aua G.1;obtain⟨v,w',aO,cU,ae,fW⟩:=R3 (P:=P) M c1 fs b5 aa wI F h1 z (dst:=kY) (kD:=type) sK
      have LQ:(execOp a.eval ⟨some kY,.call ⟨.builtin .append,#[s,x],#[e.t,e.t]⟩,type,pos,after,guard⟩).run P w=.ok (.value v) w':=by
       simp[execOp,resolve,invoke,builtin,cU]
      simp only[Oper.wp,LQ,Oper.upon];refine⟨_,aO,hK v,?_⟩;rw[ab2];exact fW.put N ae
     exact I.elim
    have hs:=cr M.tmps s;simp only at I;split at I
    ·rename_i sN;rw[sN]at hs;refine key .none [] kY A ?_ (.inl ⟨⟨none,0,hs.xX⟩,rfl⟩) (λo=>?_) I
     ·rw[hs.xX];exact .jr .none _ none trivial
     simp only[aw.b2];congr 1;funext j;cases Nat.beq j kY<;>simp
    ·rename_i k xs sN;rw[sN]at hs;replace I:=il I;obtain⟨X,I⟩:=I;obtain rfl:=aua X
     have ab4:∃bQ n,a.eval s=.slice bQ n n:=by
      rcases hs.kz with⟨_,_,h⟩|⟨_,_,_,_,_,h,_⟩
      ·exact h
      exact h
     refine key .dU xs kY A hs (.inl ⟨ab4,rfl⟩) (λo=>?_) I;simp only[aw.b2];congr 1;funext j;cases Nat.beq j kY<;>simp
    ·rename_i q v k xs sN;rw[sN]at hs;split at I
     ·rename_i c' h5 bC oI hH;replace I:=il I;obtain⟨G,rfl,rfl,I⟩:=I;simp only[atM]at G;obtain rfl:=aua G.1.1;obtain rfl:=aua G.1.2;obtain rfl:=aua G.2
      have W:a.eval s=v:=by
       rcases hs.kz with⟨_,_,h⟩|⟨_,_,_,_,_,h,_⟩
       ·exact h
       exact h
      exact key (.own q v) xs q (A.b2 q none) hs (.inr (by rw[W];exact hH)) (λ_=>rfl) I
     exact I.elim
    exact I.elim
   exact I.elim
  exact quiet I
 all_goals exact quiet I
theorem ab5{ay:List bx}(hT:dg P ay)(M:bG U w C A a){o:Oper}(N:iY am o.dst=true){K:aw->Prop}(I:pU P B ay A h o.op λd=>K (A.put o.dst (.mn h d)))(a6:Exit->Act->World->Prop): if h=true then o.wp P a w (λbv w'=>∃az aO,K az/\bG U w' aO az bv) a6 else∃az,K az/\bG U w C az (a.put o.dst undef):=by obtain⟨d,hK,hr⟩:=BD hT I;cases h with|true =>rw[atH rfl];have h1:=hr rfl a.eval w C _ M.base M.heap (λx _=>cr M.tmps x);refine zS M N (d:=.mn true d) hK ?_;generalize(execOp a.eval o).run P w=r at*;(cases r with|halt _ _=>exact h1|ok n w' =>(cases n with|value v=>obtain⟨aO,ae,hs⟩:=h1;exact⟨aO,.pO _ _ ae,hs⟩|enter f args=>exact⟨h1.1,h1.2.mono λe rF ⟨v,lU,ak,ae,hs⟩=>⟨v,lU,ak,.pO _ _ ae,hs⟩⟩|_=>exact h1))|false =>rw[atG atx];exact⟨_,hK,M.put N (.u7 _)⟩
variable{ops:Array Oper}{tmps:Array Value}
theorem x7{g:Nat}{b:Bool}(aT:(ops[j]?).bind (·.dst)=some g)(W:tmps.getD g undef=.bool b):yielded ops tmps j=some b:=by unfold yielded;rw[aT];simp only[avt]at W;simp only[aw4];cases ax:tmps[g]? with|none=>rw[ax]at W;cases W|some v=>rw[ax]at W;simp only[auI]at W;subst W;rfl
theorem R4{g:Nat}(aT:(ops[j]?).bind (·.dst)=some g)(W:tmps.getD g undef=undef):yielded ops tmps j=none:=by unfold yielded;rw[aT];simp only[avt]at W;simp only[aw4];cases ax:tmps[g]? with|none=>rfl|some v=>rw[ax]at W;simp only[auI]at W;subst W;rfl
theorem Hu{ay:List bx}(hT:dg P ay){U:b7 P B am}{ops:Array Oper}{a6:Exit->Act->World->Prop}{K:aw->Prop}(f_:∀az bv w' aO,K az->bG U w' aO az bv->a6 .normal bv w'): ∀{l:List Oper} {A:aw} (_:jQ P B ay am ops l A K) {a:Act} {w:World} {C:Nat->Nat} (_:bG U w C A a),wpList P ops a6 l a w
 |[],_,I,_,_,_,M=>f_ _ _ _ _ I M
 |o::rest,A,I,a,w,C,M=>by change cond (iY am o.dst) _ False at I;replace I:=il I;obtain⟨N,I⟩:=I;(have next:∀bv w',(∃az aO,jQ P B ay am ops rest az K/\bG U w' aO az bv)->wpList P ops a6 rest bv w':=λbv w' ⟨az,aO,h1,z⟩=>Hu hT f_ h1 z;unfold wpList;split at I);(·rename_i aT;rw[atH (by simp[Region.wanted,aT])];exact .inl (Oper.wp_mono next (tR hT M N I a6)));rename_i j iG aT;split at I;exact I.elim;rename_i g ip;have jT:=M.tmps g;(have ny:∀h:Bool,Region.wanted o (yielded ops a.tmps)=h->pU P B ay A h o.op (λd=>jQ P B ay am ops rest (A.put o.dst (.mn h d)) K)->(if Region.wanted o (yielded ops a.tmps)then o.wp P a w (wpList P ops a6 rest) a6\/(o.asks P a w/\LetsOut a6)else wpList P ops a6 rest (a.put o.dst undef) w):=by intro h cG I;rw[cG];have:=ab5 hT M N (K:=λaz=>jQ P B ay am ops rest az K) I a6;cases h with|true=>rw[atH rfl]at this⊢;exact .inl (Oper.wp_mono next this)|false=>rw[atG atx]at this⊢;obtain⟨az,h1,z⟩:=this;exact Hu hT f_ h1 z);split at I;rename_i b G;rw[G]at jT;have hy:=x7 ip jT.h4;(cases iG with|true=>exact ny b (ayc) I|false=>exact ny (!b) (ayc) I);rename_i c b G;rw[G]at jT;(cases c with|true =>(have W:a.tmps.getD g undef=.bool b:=by cases jT with|pO _ _ h=>exact h.h4);have hy:=x7 ip W;(cases iG with|true=>exact ny (true&&b) (ayc) I|false=>exact ny (true&&!b) (ayc) I)|false =>(have W:a.tmps.getD g undef=undef:=by generalize a.tmps.getD g undef=v at jT;cases jT;rfl);have hy:=R4 ip W;(cases iG with|true=>exact ny (false&&b) (by simp only[Region.wanted,aT,hy];rfl) I|false=>exact ny (false&&!b) (by simp only[Region.wanted,aT,hy];rfl) I));exact I.elim
theorem Y.region{ay:List bx}(hT:dg P ay){U:b7 P B am}{id:Nat}{ops:Array Oper}{A:aw}{K:cK->aw->Prop}(I:jQ P B ay am ops ops.toList A (K .normal)):Y U (.region id ops false) A K :=
 ⟨λ_ _ _ M=>wp_region_list (Hu hT (λaz _ _ aO hK bJ=>⟨.normal,az,aO,rfl,hK,bJ⟩) I M)⟩
variable{md:Region.Mode}
def sO(P:Program)(B:World)(ops:Array Oper)(o:Oper)(d:D)(A:aw):Prop :=
 ∀(a:Act) (w:World) (C:Nat->Nat) (Ft:Nat->Prop),pR B w->mo Ft w C A.H->(∀i,i∈o.looksAt ops->bf w C (A.t i) (a.tmps.getD i undef))->
  (Region.wanted o (yielded ops a.tmps)=true/\hM P d w C ((execOp a.eval o).run P w))\/(Region.wanted o (yielded ops a.tmps)=false/\bf w C d undef)
variable{az:aw}
theorem sO.R5{o:Oper}(h:sO P B ops o d A)(hH:az.H=A.H)(ax:∀i,i∈o.looksAt ops->az.t i=A.t i):sO P B ops o d az:=by intro a w C Ft G ae cZ;exact h a w C Ft G (hH ▸ ae) λi hi=>by rw[<-ax i hi];exact cZ i hi
theorem D7(A:aw)(dst:Option Tmp)(d:D):(A.put dst d).H=A.H:=by cases dst<;>rfl
variable{dst:Option Tmp}
theorem LR(h:∀t,dst=some t->t≠i):(A.put dst d).t i=A.t i:=by cases dst with|none=>rfl|some t=>simp[aw.put,avw (λe=>h t rfl e.symm:i≠t)]
theorem ab6{x y:Option Tmp}{aj v:D}(h:∀t,x=some t->y≠some t):(A.put x aj).put y v=(A.put y v).put x aj:=by cases x with|none=>rfl|some s =>(cases y with|none=>rfl|some t =>have aX:s≠t:=λe=>h s rfl (e ▸ rfl);simp only[aw.put];congr 1;funext j;(cases h1:Nat.beq j t with|true =>have bT:=aua h1;subst bT;rw[avw (Ne.symm aX)];rfl|false=>cases Nat.beq j s<;>rfl))
def oL(P:Program)(B:World)(am:Nat)(ops:Array Oper)(i:Nat)(K:aw->Prop)(A:aw):Prop :=
 match ops[i]? with
 |none=>K A
 |some o=>iY am o.dst=true/\∃d,sO P B ops o d A/\K (A.put o.dst d)
variable{sE:aw->Prop}
theorem R6{K:aw->Prop}(h:∀A,K A->sE A)(cy:oL P B am ops i K A):oL P B am ops i sE A:=by unfold oL at*;split;rename_i ag;rw[ag]at cy;exact h _ cy;rename_i o ag;rw[ag]at cy;obtain⟨h1,d,z,aa⟩:=cy;exact⟨h1,d,z,h _ aa⟩
theorem sO.oL{i:Nat}{o:Oper}{d:D}{A:aw}(hi:ops[i]?=some o)(N:iY am o.dst=true)(hy:sO P B ops o d A){K:aw->Prop}(h:K (A.put o.dst d)):oL P B am ops i K A:=by unfold Go.bS.oL;simp only[hi];exact⟨N,d,hy,h⟩
variable{nz:Oper}
theorem R7{nA:Oper}{v:D}(Z:ops[j]?=some nA)(rM:nz.apart ops nA=true){K:aw->Prop}(hy:sO P B ops nz v A)(h:oL P B am ops j K (A.put nz.dst v)): oL P B am ops j (λaz=>sO P B ops nz v az/\K (az.put nz.dst v)) A:=by obtain⟨h1,z,aa⟩:=Oper.apart_spec rM;unfold oL at*;simp only[Z]at*;obtain⟨N,aj,ao,hK⟩:=h;refine⟨N,aj,ao.R5 (D7 _ _ _).symm (λi hi=>(LR λt ax e=>?_).symm),hy.R5 (D7 _ _ _) (λi hi=>LR λt ax e=>?_),?_⟩;subst e;exact h1 t ax hi;subst e;exact aa t ax hi;rw[<-ab6 z];exact hK
def D8(P:Program)(B:World)(am:Nat)(md:Region.Mode)(ops:Array Oper)(a6:aw->Prop):Nat->Array Bool->aw->Prop
 |0,bd,A=>Region.ready md ops bd=[]/\a6 A
 |i_+1,bd,A =>
  (Region.ready md ops bd=[]->a6 A)/\
  ∀i∈Region.ready md ops bd,oL P B am ops i (D8 P B am md ops a6 i_ (bd.setIfInBounds i true)) A
theorem R8{K:aw->Prop}{sE:Act->World->Prop}{Q':Exit->Act->World->Prop}(M:bG U w C A a)(h:∀A a w C,bG U w C A a->K A->sE a w)(cy:oL P B am ops i K A):wpOp P ops Q' i sE a w:=by unfold oL at cy;unfold wpOp;split;rename_i ag;rw[ag]at cy;exact h _ _ _ _ M cy;rename_i o ag;rw[ag]at cy;obtain⟨N,d,hy,hK⟩:=cy;rcases hy a w C _ M.base M.heap (λi _=>M.tmps i)with⟨cG,I⟩|⟨cG,ae⟩;rw[atH cG];exact .inl (Oper.wp_mono (λbv w' ⟨az,aO,h1,z⟩=>h az bv w' aO z h1) (zS M N hK I));rw[cG];exact h _ _ _ _ (M.put N ae) hK
theorem R9{U:b7 P B am}{a6:aw->Prop}{Q':Exit->Act->World->Prop}(f_:∀A a w C,bG U w C A a->a6 A->Q' .normal a w):∀(i_:Nat) (bd:Array Bool) (A:aw) (a:Act) (w:World) (C:Nat->Nat),bG U w C A a->D8 P B am md ops a6 i_ bd A->wpAny P md ops Q' i_ bd a w
 |0,_,_,_,_,_,M,h=>⟨h.1,f_ _ _ _ _ M h.2⟩
 |i_+1,_,_,_,_,_,M,h=>⟨λh0=>f_ _ _ _ _ M (h.1 h0),λi hi=>R8 M (λaz bv w' aO fW=>R9 f_ i_ _ az bv w' aO fW) (h.2 i hi)⟩
theorem ab7{a6:aw->Prop}{v:D}(hi:ops[i]?=some nz)(lZ:iY am nz.dst=true): ∀(i_:Nat) (bd:Array Bool) (A:aw),(∀j nA,ops[j]?=some nA->j≠i->bd.getD j true=false->(∀e∈nA.after,Region.binds md e=true->e.on≠i)->nz.apart ops nA=true)->i∈Region.ready md ops bd->sO P B ops nz v A->D8 P B am md ops a6 i_ (bd.setIfInBounds i true) (A.put nz.dst v)->D8 P B am md ops a6 (i_+1) bd A:=by intro i_;induction i_ with|zero =>intro bd A _ ae hy H;refine⟨λh=>(by rw[h]at ae;cases ae),λj Z=>?_⟩;by_cases fc:j=i;subst fc;exact hy.oL hi lZ H;have:=ready_mono Z fc;rw[H.1]at this;cases this|succ i_ aY =>intro bd A zT ae hy H;refine⟨λh=>(by rw[h]at ae;cases ae),λj Z=>?_⟩;by_cases fc:j=i;subst fc;exact hy.oL hi lZ H;have h1:=H.2 j (ready_mono Z fc);obtain⟨D9,nA,D_,hE⟩:=mem_ready.1 Z;(have LS:∀e∈nA.after,Region.binds md e=true->e.on≠i:=λe ak G jt=>by have h1:=hE e ak G;have h0:=(mem_ready.1 ae).1;rw[jt]at h1;rcases at5 i bd.size with bq|bq;simp[bq]at h0 h1;rw[h0]at h1;cases h1;simp[awY bq]at h1);have z:=R7 D_ (zT j nA D_ fc D9 LS) hy h1;(have LU:∀k ok,ops[k]?=some ok->k≠i->(bd.setIfInBounds j true).getD k true=false->(∀e∈ok.after,Region.binds md e=true->e.on≠i)->nz.apart ops ok=true:=λk ok X kC ve d6=>axF);refine R6 (λaz aa=>aY (bd.setIfInBounds j true) az LU (ready_mono ae (Ne.symm fc)) aa.1 ?_) z;rw[Array.setIfInBounds_comm _ _ fc];exact aa.2
theorem R_{ay:List bx}(hT:dg P ay){o:Oper}{l:List Oper}{K:aw->Prop}(n9:Op.Bw o.op=true)(I:jQ P B ay am ops (o::l) A K):
  iY am o.dst=true/\∃d,sO P B ops o d A/\jQ P B ay am ops l (A.put o.dst d) K:=by
 change cond (iY am o.dst) _ False at I
 replace I:=il I;obtain⟨N,I⟩:=I;refine⟨N,?_⟩
 have aK:∀(a:Act) (w:World) (C:Nat->Nat),(∀i,i∈o.looksAt ops->bf w C (A.t i) (a.tmps.getD i undef))->∀x∈o.op.operands,bf w C (A.a8 x) (a.eval x):=by
  intro a w C h x F
  cases x with
  |tmp t=>exact h t (avD _ (awm.2 ⟨.tmp t,by simpa using F,rfl⟩))
  |const v=>exact cr (A:={t:=λ_=>.any,H:=A.H}) (λ_=>.any _) (.const v)
  |global g=>exact .an _
  |func f=>exact cr (A:={t:=λ_=>.any,H:=A.H}) (a:=a) (λ_=>.any _) (.func f)
 split at I
 ·rename_i aT
  have vd:pU P B ay A true o.op (λd=>jQ P B ay am ops l (A.put o.dst d) K)\/(∃x,(o.op=.move x\/o.op=.assign x)/\jQ P B ay am ops l (A.put o.dst (A.a8 x)) K):=by
   obtain⟨dst,op,type,pos,after,guard⟩:=o;unfold n1 at I;cases op<;>simp only[Op.Bw]at I n9
   case move x=>exact .inr ⟨x,.inl rfl,(zB _ _).1 I⟩
   case assign x=>exact .inr ⟨x,.inr rfl,(zB _ _).1 I⟩
   case call c =>
    obtain⟨callee,args,argTypes⟩:=c;simp only at I n9;split at I
    ·simp at n9
    exact .inl I
   all_goals first
    |exact .inl I
    |(cases n9;done)
  rcases vd with vd|⟨x,F,vd⟩
  ·obtain⟨d,hK,hr⟩:=BD hT vd;exact⟨d,λa w C Ft G ae cZ=>.inl ⟨by simp[Region.wanted,aT],hr rfl a.eval w C Ft G ae (aK a w C cZ)⟩,hK⟩
  refine⟨_,λa w C Ft G ae cZ=>.inl ⟨by simp[Region.wanted,aT],?_⟩,vd⟩;have h1:=aK a w C cZ x (by rcases F with h|h<;>simp[h,Op.operands]);obtain⟨dst,op,type,pos,after,guard⟩:=o;rcases F with h|h<;>(simp only at h;subst h;exact hM.same h1)
 rename_i j iG aT;split at I
 ·exact I.elim
 rename_i g ip
 have R':g∈o.looksAt ops:=by
  unfold Oper.looksAt;rw[aT];exact awx _ (by simp[ip])
 have ny:∀h:Bool,(∀(a:Act) (w:World) (C:Nat->Nat),(∀i,i∈o.looksAt ops->bf w C (A.t i) (a.tmps.getD i undef))->Region.wanted o (yielded ops a.tmps)=h)->
   pU P B ay A h o.op (λd=>jQ P B ay am ops l (A.put o.dst (.mn h d)) K)->∃d,sO P B ops o d A/\jQ P B ay am ops l (A.put o.dst d) K:=by
  intro h cG I;obtain⟨d,hK,hr⟩:=BD hT I;refine⟨.mn h d,λa w C Ft G ae cZ=>?_,hK⟩
  cases h with
  |true =>
   refine .inl ⟨cG a w C cZ,?_⟩;have h1:=hr rfl a.eval w C Ft G ae (aK a w C cZ);generalize(execOp a.eval o).run P w=r at*
   cases r with
   |halt _ _=>exact h1
   |ok n w' =>
    cases n with
    |value v=>obtain⟨aO,ae,hs⟩:=h1;exact⟨aO,.pO _ _ ae,hs⟩
    |enter f args=>exact⟨h1.1,h1.2.mono λe rF ⟨v,lU,ak,ae,hs⟩=>⟨v,lU,ak,.pO _ _ ae,hs⟩⟩
    |_=>exact h1
  |false=>exact .inr ⟨cG a w C cZ,.u7 _⟩
 split at I
 ·rename_i b G
  have hy:∀(a:Act) (w:World) (C:Nat->Nat),(∀i,i∈o.looksAt ops->bf w C (A.t i) (a.tmps.getD i undef))->yielded ops a.tmps j=some b:=λa w C h=>by
   have jT:=h g R';rw[G]at jT;exact x7 ip jT.h4
  cases iG with
  |true=>exact ny b (λa w C h=>by simp only[Region.wanted,aT,hy a w C h];cases b<;>rfl) I
  |false=>exact ny (!b) (λa w C h=>by simp only[Region.wanted,aT,hy a w C h];cases b<;>rfl) I
 ·rename_i c b G
  have hy:∀(a:Act) (w:World) (C:Nat->Nat),(∀i,i∈o.looksAt ops->bf w C (A.t i) (a.tmps.getD i undef))->yielded ops a.tmps j=if c then some b else none:=λa w C h=>by
   have jT:=h g R';rw[G]at jT
   cases c with
   |true =>
    have W:a.tmps.getD g undef=.bool b:=by
     cases jT with
     |pO _ _ h=>exact h.h4
    rw[atH rfl];exact x7 ip W
   |false =>
    have W:a.tmps.getD g undef=undef:=by
     generalize a.tmps.getD g undef=v at jT;cases jT;rfl
    rw[atG atx];exact R4 ip W
  cases iG with
  |true=>exact ny (c&&b) (λa w C h=>ax0) I
  |false=>exact ny (c&&!b) (λa w C h=>ax0) I
 exact I.elim
theorem Sa{ay:List bx}(hT:dg P ay){a6:aw->Prop}:∀(l:List Oper) (k:Nat) (bd:Array Bool) (A:aw),(∀j,l[j]?=ops[k+j]?)->l.all (λo=>Op.Bw o.op)=true->Region.lexFrom md ops l.length k bd=true->jQ P B ay am ops l A a6->D8 P B am md ops a6 l.length bd A
 |[],_,_,_,_,_,gh,h=>⟨by simpa[Region.lexFrom]using gh,h⟩
 |o::l,k,bd,A,al,n9,gh,h=>by(have h0:ops[k]?=some o:=by simpa using(al 0).symm);simp only[atQ,Region.lexFrom,atM]at gh;obtain⟨⟨ae,M⟩,LV⟩:=gh;simp only[awk,atM]at n9;obtain⟨N,d,hy,hK⟩:=R_ hT n9.1 h;exact ab7 h0 N l.length bd A (Region.free_spec h0 M) (by simpa using ae) hy (Sa hT l (k+1) _ _ (λj=>by have:=al (j+1);simpa[avF,awy 1 j]using this) n9.2 LV hK)
def Hv(ops:Array Oper):Bool:=Region.lexB .any ops&&ops.toList.all λo=>Op.Bw o.op
theorem bG.drew{U:b7 P B am}{w:World}{C:Nat->Nat}{A:aw}{a:Act}(h:bG U w C A a):bG U {w with drawn:=w.drawn+1} C A a:=h.tQ (c7.drew _ w C)
variable{id:Nat}{K:cK->aw->Prop}
theorem Y.vf{ay:List bx}(hT:dg P ay)(hm:P.follows .mixedOrders=true)(gh:Hv ops=true)
  (I:jQ P B ay am ops ops.toList A (K .normal)):Y U (.region id ops true) A K :=
 ⟨λa w C M=>by
  simp only[Hv,Region.lexB,atM]at gh;refine wp_region_any hm (R9 (U:=U) (a6:=K .normal) (λA a w C bJ hK=>⟨.normal,A,C,rfl,hK,bJ⟩) _ _ A _ _ C M.drew ?_);have:=Sa hT (md:=.any) (am:=am) ops.toList 0 (Array.replicate ops.size false) A atx gh.2 (by simpa using gh.1.2) I
  simpa using this⟩
def D'(P:Program)(B:World)(am:Nat)(md:Region.Mode)(ops:Array Oper)(n:Nat)(L:Array Bool->aw->Prop):Nat->Array Bool->aw->Prop
 |0,bd,A=>L bd A
 |f+1,bd,A =>
  Region.ready md ops bd≠[]/\∀i∈Region.ready md ops bd,i<n/\oL P B am ops i (D' P B am md ops n L f (bd.setIfInBounds i true)) A
theorem Hw{U:b7 P B am}{n g:Nat}{L:Array Bool->aw->Prop}{Q':Exit->Act->World->Prop}(aV:∀bd A a w C,bG U w C A a->L bd A->wpAny P md ops Q' g bd a w): ∀(f:Nat) (bd:Array Bool) (A:aw) (a:Act) (w:World) (C:Nat->Nat),bG U w C A a->D' P B am md ops n L f bd A->wpAny P md ops Q' (f+g) bd a w
 |0,bd,A,a,w,C,M,h=>by rw[aut];exact aV _ _ _ _ _ M h
 |f+1,bd,A,a,w,C,M,h=>by rw[show f+1+g=(f+g)+1 by omega];exact⟨λh0=>absurd h0 h.1,λi hi=>R8 M (λaz bv w' aO fW bq=>Hw aV f _ az bv w' aO fW bq) (h.2 i hi).2⟩
theorem ab8{n:Nat}{v:D}{L:Array Bool->aw->Prop}(hi:ops[i]?=some nz)(lZ:iY am nz.dst=true)(hs:Region.sinkB md ops n=true)(hc:Region.chainB md ops n=true)(av:n<ops.size)(cg:i<n)(ab9:∀bd A,L bd A->∀j∈Region.ready md ops bd,n<=j): ∀(f:Nat) (bd:Array Bool) (A:aw),HeadInv md ops n bd->(∀j nA,ops[j]?=some nA->j≠i->bd.getD j true=false->(∀e∈nA.after,Region.binds md e=true->e.on≠i)->nz.apart ops nA=true)->i∈Region.ready md ops bd->sO P B ops nz v A->D' P B am md ops n L f (bd.setIfInBounds i true) (A.put nz.dst v)->D' P B am md ops n L (f+1) bd A:=by intro f;induction f with|zero =>intro bd A pQ _ ae hy H;have ve:=(mem_ready.1 ae).1;refine⟨λh=>(by rw[h]at ae;cases ae),λj Z=>?_⟩;(have zU:j<n:=axJ);refine⟨zU,?_⟩;by_cases fc:j=i;subst fc;exact hy.oL hi lZ H;have:=ab9 _ _ H j (ready_mono Z fc);omega|succ f aY =>intro bd A pQ zT ae hy H;have ve:=(mem_ready.1 ae).1;refine⟨λh=>(by rw[h]at ae;cases ae),λj Z=>?_⟩;(have zU:j<n:=axJ);refine⟨zU,?_⟩;by_cases fc:j=i;subst fc;exact hy.oL hi lZ H;have h1:=(H.2 j (ready_mono Z fc)).2;obtain⟨D9,nA,D_,hE⟩:=mem_ready.1 Z;(have LS:∀e∈nA.after,Region.binds md e=true->e.on≠i:=λe ak G jt=>by have h1:=hE e ak G;rw[jt,getD_both ve]at h1;cases h1);have z:=R7 D_ (zT j nA D_ fc D9 LS) hy h1;(have LU:∀k ok,ops[k]?=some ok->k≠i->(bd.setIfInBounds j true).getD k true=false->(∀e∈ok.after,Region.binds md e=true->e.on≠i)->nz.apart ops ok=true:=λk ok X kC ve d6=>axF);refine R6 (λaz aa=>aY (bd.setIfInBounds j true) az (pQ.set Z zU) LU (ready_mono ae (Ne.symm fc)) aa.1 ?_) z;rw[Array.setIfInBounds_comm _ _ fc];exact aa.2
theorem Hx{ay:List bx}(hT:dg P ay){n g:Nat}{r:List Oper}{a6:aw->Prop}(hs:Region.sinkB md ops n=true)(hc:Region.chainB md ops n=true)(av:n<ops.size): ∀(l:List Oper) (k:Nat) (bd:Array Bool) (A:aw),(∀j,j<l.length->l[j]?=ops[k+j]?)->l.all (λo=>Op.Bw o.op)=true->k+l.length=n->HeadInv md ops n bd->Region.lexHead md ops g l.length k bd=true->jQ P B ay am ops (l++r) A a6->D' P B am md ops n (λSb az=>Region.seqB md ops g n Sb=true/\jQ P B ay am ops r az a6) l.length bd A
 |[],k,bd,A,_,_,X,_,gh,h=>by(have:k=n:=by simpa using X);subst this;exact⟨by simpa[Region.lexHead]using gh,h⟩
 |o::l,k,bd,A,al,n9,X,pQ,gh,h=>by(have h0:ops[k]?=some o:=by simpa using(al 0 atx).symm);simp only[atQ,Region.lexHead,atM]at gh;obtain⟨⟨ae,M⟩,LV⟩:=gh;simp only[awk,atM]at n9;(have f':k<n:=by simp only[atQ]at X;omega);(have BI:k∈Region.ready md ops bd:=by simpa using ae);obtain⟨N,d,hy,hK⟩:=R_ (l:=l++r) hT n9.1 h;exact ab8 h0 N hs hc av f' (λSb az aV=>seqB_ready aV.1) l.length bd A pQ (Region.free_spec h0 M) BI hy (Hx hT hs hc av l (k+1) _ _ (λj Z=>by have:=al (j+1) atw;simpa[avF,awy 1 j]using this) n9.2 (by simp only[atQ]at X;omega) (pQ.set BI f') LV hK)
def BJ(ops:Array Oper)(n:Nat):Bool:=Region.lexTailB .any ops n&&(ops.toList.take n).all λo=>Op.Bw o.op
theorem Y.BK{ay:List bx}(hT:dg P ay)(n:Nat)(hm:P.follows .mixedOrders=true)(gh:BJ ops n=true)
  (I:jQ P B ay am ops ops.toList A (K .normal)):Y U (.region id ops true) A K :=
 ⟨λa w C M=>by
  obtain⟨l⟩:=ops;simp only[BJ,Region.lexTailB,atM,aup]at gh;obtain⟨⟨⟨⟨⟨Sc,av⟩,hs⟩,hc⟩,Ea⟩,n9⟩:=gh;have wL:n<l.length:=by simpa using av
  have i':(l.take n).length=n:=by simp;omega
  have jv:(l.drop n).length=(⟨l⟩:Array Oper).size-n:=by simp
  have Eb:HeadInv .any ⟨l⟩ n (Array.replicate (⟨l⟩:Array Oper).size false) :=
   ⟨by simp,λj nA _ al=>(ayk),λt _ ax=>getD_in (by simpa using ax) (getD_replicate_false _ _)⟩
  have H:=Hx (md:=.any) (g:=(⟨l⟩:Array Oper).size-n) (r:=l.drop n) (am:=am) hT hs hc av (l.take n) 0 _ A (λj Z=>by
   have gl:j<n:=by rw[i']at Z;exact Z
   simp[gl]) n9 (by simpa using i') Eb (by rw[i'];exact Ea) (by rw[ava];exact I)
  refine wp_region_any hm ?_
  have:=Hw (U:=U) (Q':=λe bv w'=>∃c3 az aO,e=cK.f7 c3/\K c3 az/\bG U w' aO az bv) (g:=(⟨l⟩:Array Oper).size-n) (λbd az bv w' aO bJ aV=>by
   have:=wpAny_of_seq (md:=.any) (Q':=λe bv w'=>∃c3 az aO,e=cK.f7 c3/\K c3 az/\bG U w' aO az bv) (l.drop n) n bd bv w' (λj=>by simp[avL]) (by rw[jv];exact aV.1)
    (Hu hT (λEc _ _ lU hK Ed=>⟨.normal,Ec,lU,rfl,hK,Ed⟩) aV.2 bJ)
   rwa [jv]at this) _ _ A a _ C M.drew H
  rw[i',show n+((⟨l⟩:Array Oper).size-n)=(⟨l⟩:Array Oper).size by omega]at this
  exact this⟩
theorem Y.cond{U:b7 P B am}{c:Operand}{x y:Code}{A:aw}{K:cK->aw->Prop}(t:Bool)(hc:A.a8 c=.bool t)(h1:t=true->Y U x A K)(z:t=false->Y U y A K):
  Y U (.cond c x y) A K :=
 ⟨λa w C M=>by
  have W:=cr M.tmps c;rw[hc]at W
  exact wp_cond_split W.h4 (λh=>(h1 h).run a w C M) (λh=>(z h).run a w C M)⟩
def Ee(ay:List bx)(A:aw):List ResultVar->(List D->Prop)->Prop
 |[],k=>k []
 |.tmp t::r,k=>Ee ay A r λds=>k (A.t t::ds)
 |.cell a kD::r,k=>match dw ay kD,A.t a with
  |some e,.box s b off=>match A.H s with
   |some (.box eh aA)=>b=eh/\DU e off aA λd=>Ee ay A r λds=>k (d::ds)
   |_=>False
  |_,_=>False
def zV(ay:List bx)(A:aw)(g7:List ResultVar)(d:D):Prop :=
 Ee ay A g7 λds=>match ds with
  |[x]=>aq x d
  |ds=>match d with
   |.bl eC=>dL ds eC
   |_=>False
def LW(ay:List bx)(g7:List ResultVar)(d:D):cK->aw->Prop
 |.exit _,_=>False
 |.normal,A=>zV ay A g7 d
 |.ret,A=>zV ay A g7 d
def Hy(tmps:Array Value):ResultVar->Sem Value
 |.tmp t=>pure (tmps.getD t undef)
 |.cell b t=>do loadVar t (<-asAddr (tmps.getD b undef))
theorem LX{ay:List bx}(hT:dg P ay){A:aw}{w:World}{C:Nat->Nat}{a:Act}(ax:∀i,bf w C (A.t i) (a.tmps.getD i undef)){Ft:Nat->Prop}(hH:mo Ft w C A.H): ∀{g7:List ResultVar} {k:List D->Prop} (_:Ee ay A g7 k),∃ds vs,k ds/\db w C ds vs/\(g7.mapM (Hy a.tmps)).run P w=.ok vs w/\vs.length=g7.length
 |[],k,X=>⟨[],[],X,.nil _ _,by simp,rfl⟩
 |.tmp t::r,k,X=>by obtain⟨ds,vs,h1,z,aa,aC⟩:=LX hT ax hH (g7:=r) X;refine⟨_,a.tmps.getD t undef::vs,h1,.cons (ax t) z,?_,by simp[aC]⟩;simp only[List.mapM_cons,Sem.run_bind,Hy,Sem.run_pure,Result.andThen_ok,aa]
 |.cell b kD::r,k,X=>by simp only[Ee]at X;split at X;rename_i e s eh off ak G;obtain⟨c1,rfl⟩:=hT.get ak;split at X;rename_i arn aA ab_;obtain⟨rfl,X⟩:=X;obtain⟨d,X,N⟩:=RN (P:=P) c1 X;obtain⟨ds,vs,h1,z,aa,aC⟩:=LX hT ax hH (g7:=r) X;obtain⟨dh,bH,hbk,h7,_⟩:=hH.b' s _ ab_;have au:=ax b;rw[G]at au;have au:=au.wA;obtain⟨v,W,ae⟩:=N w C eh 0 (λj=>dh.getD j undef) (λj d N=>by have Z:=e8 N;rw[h7.1]at Z;have W:dh[j]?=some dh[j]:=atJ Z;(have dM:dh.getD j undef=dh[j]:=by simp[List.getD,W]);refine⟨?_,?_⟩;simp only[World.cell?,hbk,aut,dM];simp[Z];rw[dM];exact h7.2 j d _ N W);refine⟨_,v::vs,h1,.cons ae z,?_,by simp[aC]⟩;simp only[aut,Instr.loadAt,Instr.sureAddr,Sem.run_bind,Sem.run_pure,Result.andThen_ok]at W;have ab':asAddr (.pointer (some ⟨eh,off,none⟩))=pure ⟨eh,off,none⟩:=rfl;simp only[List.mapM_cons,Sem.run_bind,Hy,au,ab',Sem.run_pure,Result.andThen_ok,W,aa];exact X.elim;exact X.elim
theorem Sd{ay:List bx}(hT:dg P ay)(ax:∀i,bf w C (A.t i) (a.tmps.getD i undef))(hH:mo Ft w C A.H){fn:Func}(h:zV ay A fn.results.toList d):∃v,(results fn a.tmps).run P w=.ok v w/\bf w C d v:=by obtain⟨ds,vs,h1,z,aa,aC⟩:=LX (P:=P) hT ax hH h;(have cU:∀(dh:List Value) (aj:Value),dh=vs->(if h:(⟨dh⟩:Array Value).size=1 then(⟨dh⟩:Array Value)[0]else .tuple ⟨dh⟩)=aj->(results fn a.tmps).run P w=.ok aj w:=by intro dh aj x8 ao;subst x8;(have e:results fn a.tmps=(fn.results.mapM (Hy a.tmps) >>= λvs=>pure (if h:vs.size=1 then vs[0]else .tuple vs)):=by unfold results;congr 2);rw[e,Sem.run_bind,Array.mapM_eq_mapM_toList];simp only[Sem.run_map,aa,Result.andThen_ok,Sem.run_pure];rw[<-ao]);cases ds with|nil =>(cases vs with|cons _ _=>have:=z.1;simp at this|nil =>simp only at h1;split at h1;rename_i _ eC;have a_:=h1.rH z;exact⟨.tuple ⟨[]⟩,cU [] _ rfl rfl,.bl _ [] a_.1 a_.2⟩;exact h1.elim)|cons x ds =>(cases vs with|nil=>have:=z.1;simp at this|cons v vs =>(cases ds with|nil =>(cases vs with|cons _ _=>have:=z.1;simp at this|nil=>exact⟨v,cU [v] v rfl rfl,h1.le _ _ _ z.head⟩)|cons y ds =>(cases vs with|nil=>have:=z.1;simp at this|cons aj vs =>simp only at h1;split at h1;have a_:=h1.rH z;exact⟨.tuple ⟨v::aj::vs⟩,cU (v::aj::vs) _ rfl (by rw[awQ atx]),.bl _ _ a_.1 a_.2⟩;exact h1.elim)))
def BL:List D->Nat->D
 |[],_=>.any
 |d::_,0=>d
 |_::r,n+1=>BL r n
theorem LY:∀(ds:List D) (i:Nat),BL ds i=(ds[i]?).getD .any
 |[],_=>by simp[BL]
 |d::_,0=>by simp[BL]
 |_::r,n+1=>by simp[BL,LY r n]
def entry(ds:List D)(H:bF):aw:={t:=BL ds,H}
theorem m0.intro{ay : List bx}(hT : dg P ay){f : FuncId}{fn : Func}{body : Code}{ds : List D}{d : D}(M : P.funcs[f]?=some fn)(G : fn.body = some body)(av : (fn.name == "runtime.NumGoroutine") = false)(p3:fn.ntmps=am)(al:Nat.ble ds.length am=true)(h:∀U:b7 P B am,Y U body (entry ds bF.none) (LW ay fn.results.toList d)):m0 P B f ds d:=by refine⟨⟨fn,M,by simp[G],av⟩,λw C args pZ ae=>?_⟩;have mY:=auk al;have hlen:=ae.1;let U:b7 P B am:=⟨w,C,λ_=>False,pZ,λ_ h=>h.elim⟩;refine calls_of_wp M G ?_;(have lV:bG U w C (entry ds bF.none) {tmps:=⟨args⟩++Array.replicate (fn.ntmps-(⟨args⟩:Array Value).size) undef,defers:=[]}:=by refine⟨λi=>?_,.none _ _ _,by simp[p3];omega,rfl,.refl _ _ _⟩;exact axn);refine wp_mono ((h U).run _ w C lV) ?_;rintro e bv w' ⟨c3,az,aO,rfl,hK,bJ⟩;(have sP:zV ay az fn.results.toList d->bv.defers=[]/\∃v,(results fn bv.tmps).run P w'=.ok v w'/\∃c' aO,Ending.returned v=.returned c'/\bf w' aO d c'/\c7 (λ_=>False) w C w' aO:=by intro BM;obtain⟨v,W,eO⟩:=Sd (P:=P) hT bJ.tmps bJ.heap BM;exact⟨bJ.defers,v,W,v,aO,rfl,eO,bJ.step⟩);cases c3 with|normal=>exact sP hK|ret=>exact sP hK|exit id=>exact hK.elim
def gA(H:bF):List (Nat×Nat)->bF
 |[],_=>none
 |(k,s)::r,j=>cond (Nat.beq j k) (H s) (gA H r j)
def qO(H aM:bF):List (Nat×Nat)->bF
 |[],j=>H j
 |(k,s)::r,j=>cond (Nat.beq j s) (aM k) (qO H aM r j)
def ka:List (Nat×Nat)->Bool
 |[]=>true
 |(k,s)::r=>r.all (λx=>!Nat.beq x.1 k&&!Nat.beq x.2 s)&&ka r
theorem Ef{H:bF}:∀{m:List (Nat×Nat)} {j:Nat} {o:aI},gA H m j=some o->∃s,(j,s)∈m/\H s=some o
 |[],_,_,h=>by cases h
 |(k,s)::r,j,o,h=>by simp only[gA]at h;cases G:Nat.beq j k with|true=>rw[G]at h;have:=aua G;subst this;exact⟨s,atS,h⟩|false=>rw[G]at h;obtain⟨bp,h1,z⟩:=Ef (m:=r) h;exact⟨bp,atU _ h1,z⟩
theorem Eg{H aM:bF}:∀{m:List (Nat×Nat)} {j:Nat} {o:aI},qO H aM m j=some o->(∃k,(k,j)∈m/\aM k=some o)\/((∀k,(k,j)∉m)/\H j=some o)
 |[],_,_,h=>.inr ⟨λ_ hm=>(by cases hm),h⟩
 |(k,s)::r,j,o,h=>by simp only[qO]at h;cases G:Nat.beq j s with|true=>rw[G]at h;have:=aua G;subst this;exact .inl ⟨k,atS,h⟩|false =>rw[G]at h;rcases Eg (m:=r) h with⟨bC,h1,z⟩|⟨h1,z⟩;exact .inl ⟨bC,atU _ h1,z⟩;refine .inr ⟨λbC hm=>?_,z⟩;rcases at6.1 hm with ak|hm;cases ak;rw[au7]at G;cases G;exact h1 bC hm
theorem wM:∀{m:List (Nat×Nat)},ka m=true->∀k s bC bp,(k,s)∈m->(bC,bp)∈m->(k=bC↔s=bp)
 |[],_,_,_,_,_,h,_=>by cases h
 |(a,b)::r,h,k,s,bC,bp,h1,z=>by simp only[ka,atM,auC,avZ]at h;(have aX:∀x∈r,x.1≠a/\x.2≠b:=λx F=>by obtain⟨aa,aC⟩:=h.1 x F;exact⟨λe=>(by rw[e,au7]at aa;cases aa),λe=>(by rw[e,au7]at aC;cases aC)⟩);rcases at6.1 h1 with bT|h1<;>rcases at6.1 z with b0|z;cases bT;cases b0;simp;cases bT;have:=aX _ z;exact⟨λe=>absurd e.symm this.1,λe=>absurd e.symm this.2⟩;cases b0;have:=aX _ h1;exact⟨λe=>absurd e this.1,λe=>absurd e this.2⟩;exact wM h.2 k s bC bp h1 z
variable{m:List (Nat×Nat)}{f:FuncId}{a6:D->bF->Prop}
theorem Se(M:bG U w C A a)(hm:ka m=true){args:List Value}(hc:c8 P B f ds (gA A.H m) a6)(ae:db w C ds args)(N:iY am dst=true){K:aw->Prop}(hK:∀d aM,a6 d aM->∃d',aq d d'/\K (({t:=A.t,H:=qO A.H aM m}:aw).put dst d')): Calls P f ⟨args⟩ w λe w'=>∃v,e=.returned v/\∃az aO,K az/\bG U w' aO az (a.put dst v):=by let Ft:Nat->Prop:=λb=>∃k s o,(k,s)∈m/\A.H s=some o/\o.ec b;have tS:∀b,Ft b->U.pS b:=λb ⟨k,s,o,_,h1,z⟩=>M.heap.cJ s o b h1 z;(have hH:mo Ft w C (gA A.H m):=by refine⟨λj o ag=>?_,λj eu o bI b aX h1 z ao cS=>?_,λj o b ag ao=>?_⟩;obtain⟨s,_,h⟩:=Ef ag;exact M.heap.b' s o h;obtain⟨s,hs,h⟩:=Ef h1;obtain⟨bp,c4,bq⟩:=Ef z;have i6:s≠bp:=λe=>aX ((wM hm j s eu bp hs c4).2 e);exact M.heap.inj s bp o bI b i6 h bq ao cS;obtain⟨s,hs,h⟩:=Ef ag;exact⟨j,s,o,hs,h,ao⟩);refine(hc.2 w C args Ft M.base (λb G=>U.DM (tS b G)) hH ae).mono ?_;rintro e w' ⟨v,d,aO,aM,rfl,f_,eO,hs,nB⟩;obtain⟨d',dV,hK⟩:=hK d aM f_;refine⟨v,rfl,_,aO,hK,bG.put ?_ N (dV.le _ _ _ eO)⟩;have qP:∀j o,(∀k,(k,j)∉m)->A.H j=some o->∀b,o.ec b->¬Ft b/\b<w.heap.size:=λj o Z ag b G => ⟨λ⟨k,s,bI,h1,z,aa⟩=>M.heap.inj j s o bI b (λe=>by subst e;exact Z k h1) ag z G aa,(M.heap.b' j o ag).lt G⟩;refine⟨λi=>(M.tmps i).ext hs.ext,⟨λj o ag=>?_,λj eu o bI b aX h1 z ao cS=>?_,λj o b ag ao=>?_⟩,M.size,M.defers,?_⟩;rcases Eg ag with⟨k,_,h⟩|⟨Z,h⟩;exact nB.b' k o h;exact(M.heap.b' j o h).iE hs.ext λb G=>hs.iE b (qP j o Z h b G).2 (qP j o Z h b G).1;rcases Eg h1 with⟨k,X,h⟩|⟨Z,h⟩<;>rcases Eg z with⟨bC,fA,bq⟩|⟨gl,bq⟩;exact nB.inj k bC o bI b (λe=>aX ((wM hm k j bC eu X fA).1 e)) h bq ao cS;obtain⟨aa,aC⟩:=qP eu bI gl bq b cS;rcases nB.cJ k o b h ao with a_|a_;exact aa a_;omega;obtain⟨aa,aC⟩:=qP j o Z h b ao;rcases nB.cJ bC bI b bq cS with a_|a_;exact aa a_;omega;exact M.heap.inj j eu o bI b aX h bq ao cS;rcases Eg ag with⟨k,_,h⟩|⟨Z,h⟩;rcases nB.cJ k o b h ao with a_|a_;exact tS b a_;exact .inr (avb M.step.ext.size a_);exact M.heap.cJ j o b h ao;exact M.step.trans hs λb G bJ=>ayn
def LZ(P:Program)(B:World)(ay:List bx)(A:aw)(dst:Option Tmp)(op:Op)(K:aw->Prop):Prop :=
 match op with
 |.call c=>match c.callee,c.args.toList with
  |.value f,args=>n1 P B ay A dst op K\/opn true (A.a8 f) λf=>match f with
   |.fn (.func b6) first cq=>zD true A args λwC=>∃(g2:List D) (m:List (Nat×Nat)) (a6:D->bF->Prop),c8 P B b6 g2 (gA A.H m) a6/\ka m=true/\dL (first++wC++cq) g2/\
     ∀d aM,a6 d aM->∃d',aq d d'/\K (({t:=A.t,H:=qO A.H aM m}:aw).put dst d')
   |_=>False
  |_,_=>n1 P B ay A dst op K
 |op=>n1 P B ay A dst op K
theorem aca{ay:List bx}(hT:dg P ay)(M:bG U w C A a){o:Oper}(N:iY am o.dst=true){K:aw->Prop}(I:LZ P B ay A o.dst o.op K)(a6:Exit->Act->World->Prop):o.wp P a w (λbv w'=>∃az aO,K az/\bG U w' aO az bv) a6:=by obtain⟨dst,op,type,pos,after,guard⟩:=o;unfold LZ at I;cases op<;>simp only at I;(case call c =>obtain⟨callee,args,argTypes⟩:=c;simp only at I;split at I;rename_i f;rcases I with I|I;exact tR hT M N I a6;replace I:=iZ I;obtain⟨abW,I,LK⟩:=I;split at I;(rename_i b6 first cq;replace I:=DZ I;obtain⟨wC,I,has⟩:=I;obtain⟨g2,m,Q',hc,hm,dV,hK⟩:=I;obtain⟨fK,hp,W,h1,z⟩:=(LK rfl w C _ (cr M.tmps f)).u9;have aa:=has rfl w C a.eval (λx _=>cr M.tmps x);have aC:=dV.rH ((h1.append aa).append z);obtain⟨fn,i7,rK,mu⟩:=hc.1;have G:fn.body.isNone=false:=by cases G:fn.body<;>simp[G]at rK⊢);(have cU:(execOp a.eval ⟨dst,.call ⟨.value f,args,argTypes⟩,type,pos,after,guard⟩).run P w=.ok (.enter b6 ⟨fK++args.toList.map a.eval++hp⟩) w:=axs);simp only[Oper.wp,cU,Oper.upon];(exact(Se M hm hc aC N hK).mono λe w' ⟨v,ak,h⟩=>by subst ak;exact h);exact I.elim;exact tR hT M N I a6);all_goals exact tR hT M N I a6
def BN(P:Program)(B:World)(ay:List bx)(am:Nat):List Oper->aw->(aw->Prop)->Prop
 |[],A,K=>K A
 |⟨dst,op,_,_,_,guard⟩::rest,A,K=>cond (iY am dst) (match guard with
  |none=>LZ P B ay A dst op λaz=>BN P B ay am rest az K
  |some _=>False) False
theorem L0{ay:List bx}(hT:dg P ay){U:b7 P B am}{ops:Array Oper}{a6:Exit->Act->World->Prop}{K:aw->Prop}(f_:∀az bv w' aO,K az->bG U w' aO az bv->a6 .normal bv w'): ∀{l:List Oper} {A:aw} (_:BN P B ay am l A K) {a:Act} {w:World} {C:Nat->Nat} (_:bG U w C A a),wpList P ops a6 l a w
 |[],_,I,_,_,_,M=>f_ _ _ _ _ I M
 |o::rest,A,I,a,w,C,M=>by change cond (iY am o.dst) _ False at I;replace I:=il I;obtain⟨N,I⟩:=I;unfold wpList;split at I;rename_i aT;rw[atH (by simp[Region.wanted,aT])];exact .inl (Oper.wp_mono (λbv w' ⟨az,aO,h1,z⟩=>L0 hT f_ h1 z) (aca hT M N I a6));exact I.elim
theorem Y.Sf{ay:List bx}(hT:dg P ay)(I:BN P B ay am ops.toList A (K .normal)):Y U (.region id ops false) A K :=
 ⟨λ_ _ _ M=>wp_region_list (L0 hT (λaz _ _ aO hK bJ=>⟨.normal,az,aO,rfl,hK,bJ⟩) I M)⟩
theorem Y.Sg{ay:List bx}(hT:dg P ay)(n:Nat)(hm:P.follows .mixedOrders=true)(gh:BJ ops n=true)
  (I:jQ P B ay am ops (ops.toList.take n) A λaz=>BN P B ay am (ops.toList.drop n) az (K .normal)):Y U (.region id ops true) A K :=
 ⟨λa w C M=>by
  obtain⟨l⟩:=ops;simp only[BJ,Region.lexTailB,atM,aup]at gh;obtain⟨⟨⟨⟨⟨Sc,av⟩,hs⟩,hc⟩,Ea⟩,n9⟩:=gh;have wL:n<l.length:=by simpa using av
  have i':(l.take n).length=n:=by simp;omega
  have jv:(l.drop n).length=(⟨l⟩:Array Oper).size-n:=by simp
  have Eb:HeadInv .any ⟨l⟩ n (Array.replicate (⟨l⟩:Array Oper).size false) :=
   ⟨by simp,λj nA _ al=>(ayk),λt _ ax=>getD_in (by simpa using ax) (getD_replicate_false _ _)⟩
  have H:=Hx (md:=.any) (g:=(⟨l⟩:Array Oper).size-n) (r:=[]) (am:=am) (a6:=λaz=>BN P B ay am (l.drop n) az (K .normal)) hT hs hc av (l.take n) 0 _ A (λj Z=>by
   have gl:j<n:=by rw[i']at Z;exact Z
   simp[gl]) n9 (by simpa using i') Eb (by rw[i'];exact Ea) (by rw[auK];exact I)
  refine wp_region_any hm ?_
  have:=Hw (U:=U) (Q':=λe bv w'=>∃c3 az aO,e=cK.f7 c3/\K c3 az/\bG U w' aO az bv) (g:=(⟨l⟩:Array Oper).size-n) (λbd az bv w' aO bJ aV=>by
   have:=wpAny_of_seq (md:=.any) (ops:=⟨l⟩) (P:=P) (Q':=λe bv w'=>∃c3 az aO,e=cK.f7 c3/\K c3 az/\bG U w' aO az bv) (l.drop n) n bd bv w' (λj=>by simp[avL]) (by rw[jv];exact aV.1)
    (L0 (l:=l.drop n) hT (λEc _ _ lU hK Ed=>⟨.normal,Ec,lU,rfl,hK,Ed⟩) (show BN P B ay am (l.drop n) az (K .normal)from aV.2) bJ)
   rwa [jv]at this) _ _ A a _ C M.drew H
  rw[i',show n+((⟨l⟩:Array Oper).size-n)=(⟨l⟩:Array Oper).size by omega]at this
  exact this⟩
def Eh(ay:List bx)(g7:List ResultVar)(a6:D->bF->Prop):cK->aw->Prop
 |.exit _,_=>False
 |.normal,A=>∃d,zV ay A g7 d/\a6 d A.H
 |.ret,A=>∃d,zV ay A g7 d/\a6 d A.H
variable{body:Code}
theorem c8.intro{ay:List bx}(hT:dg P ay){fn:Func}{H:bF}(M:P.funcs[f]?=some fn)(G:fn.body=some body)(av : (fn.name == "runtime.NumGoroutine") = false)(p3 : fn.ntmps = am)(al : Nat.ble ds.length am = true)(h : ∀U : b7 P B am,Y U body (entry ds H) (Eh ay fn.results.toList a6)): c8 P B f ds H a6 := by refine⟨⟨fn,M,by simp[G],av⟩,λw C args Ft pZ qQ hH ae=>?_⟩;have mY:=auk al;have hlen:=ae.1;let U:b7 P B am:=⟨w,C,Ft,pZ,qQ⟩;refine calls_of_wp M G ?_;(have lV:bG U w C (entry ds H) {tmps:=⟨args⟩++Array.replicate (fn.ntmps-(⟨args⟩:Array Value).size) undef,defers:=[]}:=by refine⟨λi=>?_,⟨hH.b',hH.inj,λs o b ag ao=>.inl (hH.cJ s o b ag ao)⟩,by simp[p3];omega,rfl,.refl _ _ _⟩;exact axn);refine wp_mono ((h U).run _ w C lV) ?_;rintro e bv w' ⟨c3,az,aO,rfl,hK,bJ⟩;(have sP:(∃d,zV ay az fn.results.toList d/\a6 d az.H)->bv.defers=[]/\∃v,(results fn bv.tmps).run P w'=.ok v w'/\∃c' d aO aM,Ending.returned v=.returned c'/\a6 d aM/\bf w' aO d c'/\c7 Ft w C w' aO/\mo (λb=>Ft b\/w.heap.size<=b) w' aO aM:=by rintro⟨d,BM,f_⟩;obtain⟨v,W,eO⟩:=Sd (P:=P) hT bJ.tmps bJ.heap BM;exact⟨bJ.defers,v,W,v,d,aO,az.H,rfl,f_,eO,bJ.step,bJ.heap⟩);cases c3 with|normal=>exact sP hK|ret=>exact sP hK|exit id=>exact hK.elim
theorem c8.mono{f:FuncId}{ds:List D}{H:bF}{a6 Q':D->bF->Prop}(h:c8 P B f ds H a6)(I:∀d H,a6 d H->Q' d H):c8 P B f ds H Q' :=
 ⟨h.1,λw C args Ft h1 z aa aC=>(h.2 w C args Ft h1 z aa aC).mono λ_ _ ⟨v,d,aO,aM,ak,f_,ae⟩=>⟨v,d,aO,aM,ak,I d aM f_,ae⟩⟩
def L1(d:D)(k:Nat):Option (List D) :=
 match d with
 |.bh=>some []
 |.Q .dU bC xs=>cond (Nat.beq k bC) (some xs) none
 |_=>none
theorem bG.own{w:World}{C:Nat->Nat}{a:Act}(M:bG U w C A a)(s k e:Nat){j:Nat}{xs:List D}(N:L1 (A.t j) k=some xs): ∃v,bG U w C {t:=λi=>cond (Nat.beq i j) (.Q (.own s v) k xs) (A.t i),H:=λi=>cond (Nat.beq i s) (some (.own v xs.length k e)) (A.H i)} a:=by have Z:=M.tmps j;(have key:∀v,a.tmps.getD j undef=v->bf w C (.Q (.own s v) k xs) v->(∃bv n,v=.slice bv n n/\n=xs.length/\n<=maxLen)->bG U w C {t:=λi=>cond (Nat.beq i j) (.Q (.own s v) k xs) (A.t i),H:=λi=>cond (Nat.beq i s) (some (.own v xs.length k e)) (A.H i)} a:=by rintro v W ae ⟨bv,n,rfl,rfl,hm⟩;(have tT:∀b,¬(aI.own (Value.slice bv xs.length xs.length) xs.length k e).ec b:=by rintro b ⟨o,cap,h1,z⟩;injection h1 with _ _ aa;omega);refine⟨λi=>?_,⟨λbp o ag=>?_,λe9 gz c9 da b aX h1 z ao cS=>?_,λbp o b ag ao=>?_⟩,M.size,M.defers,M.step⟩;dsimp only;(cases G:Nat.beq i j with|true=>have:=aua G;subst this;rw[avo,W];exact ae|false=>exact M.tmps i);dsimp only at ag;(cases G:Nat.beq bp s with|true=>rw[G]at ag;cases ag;exact⟨bv,xs.length,rfl,atP _,hm,λh=>absurd h atv⟩|false=>rw[G]at ag;exact M.heap.b' bp o ag);dsimp only at h1 z;(cases m6:Nat.beq e9 s with|true=>rw[m6]at h1;cases h1;exact tT b ao|false =>(cases g8:Nat.beq gz s with|true=>rw[g8]at z;cases z;exact tT b cS|false=>rw[m6]at h1;rw[g8]at z;exact M.heap.inj e9 gz c9 da b aX h1 z ao cS));dsimp only at ag;cases G:Nat.beq bp s with|true=>rw[G]at ag;cases ag;exact(tT b ao).elim|false=>rw[G]at ag;exact M.heap.cJ bp o b ag ao);unfold L1 at N;split at N;rename_i ak;rw[ak]at Z;cases N;refine⟨_,key _ rfl ?_ ?_⟩;rw[Z.xX];exact .jr _ _ none rfl;rw[Z.xX];exact⟨none,0,rfl,rfl,at7 _⟩;rename_i bC a' ak;rw[ak]at Z;(cases G:Nat.beq k bC with|false=>rw[G]at N;cases N|true =>rw[G]at N;cases N;have:=aua G;subst this;generalize W:a.tmps.getD j undef=v at Z;refine⟨v,key v W ?_ ?_⟩;(cases Z with|jr t k a ax=>exact .jr _ _ a rfl|Q t k xs b o cap g ax G hc hm X c6 gd ef h=>exact .Q _ k xs b o cap g rfl G hc hm X c6 gd ef h);(cases Z with|jr t k a ax=>exact⟨a,0,rfl,rfl,at7 _⟩|Q t k xs b o cap g ax G hc hm X c6 gd ef h =>obtain⟨bv,n,av⟩:=ax;injection av with h1 z aa;exact⟨_,xs.length,by rw[aa,z],rfl,by omega⟩));cases N
theorem Y.own(j s k e:Nat){xs:List D}{c:Code}(N:L1 (A.t j) k=some xs)
  (h:∀v,Y U c {t:=λi=>_root_.cond (Nat.beq i j) (.Q (.own s v) k xs) (A.t i),H:=λi=>_root_.cond (Nat.beq i s) (some (.own v xs.length k e)) (A.H i)} K):Y U c A K :=
 ⟨λa w C M=>by obtain⟨v,fW⟩:=M.own s k e N;exact(h v).run a w C fW⟩
def tU(A:aw):List (Nat×Nat)->List (Nat×aI)->Prop
 |[],[]=>True
 |(k,s)::m,(bC,o)::hs=>k=bC/\A.H s=some o/\tU A m hs
 |_,_=>False
theorem tU.aK:∀{m:List (Nat×Nat)} {hs:List (Nat×aI)},tU A m hs->∀k o,aK hs k=some o->∃s,(k,s)∈m/\A.H s=some o
 |[],[],_,k,o,h=>by cases h
 |(bC,s)::m,(aro,bI)::hs,h,k,o,al=>by obtain⟨rfl,z,aa⟩:=h;simp only[Go.bS.aK]at al;cases G:Nat.beq k bC with|true=>rw[G]at al;cases al;have:=aua G;subst this;exact⟨s,atS,z⟩|false=>rw[G]at al;obtain⟨bp,aC,a_⟩:=tU.aK aa k o al;exact⟨bp,atU _ aC,a_⟩
 |[],_::_,h,_,_,_=>h.elim
 |_::_,[],h,_,_,_=>by cases h
structure n_ (A:aw) (l:List (Nat×D)) (hs:List (Nat×aI)) (m:List (Nat×Nat)):Prop where
 t:jP A l
 ok:ka m=true
 h:tU A m hs
theorem bG.Hz{l:List (Nat×D)}(h:bG U w C A a)(X:n_ A l hs m):bG U w C (hq l hs) a:=by obtain⟨h1,hm,z⟩:=X;refine⟨λi=>(h1.aK i).le _ _ _ (h.tmps i),⟨λs o ag=>?_,λs bp o bI b av aa aC=>?_,λs o b ag=>?_⟩,h.size,h.defers,h.step⟩;obtain⟨bp,_,a_⟩:=z.aK s o ag;exact h.heap.b' bp o a_;obtain⟨k,X,a_⟩:=z.aK s o aa;obtain⟨bC,fA,cC⟩:=z.aK bp bI aC;exact h.heap.inj k bC o bI b (λe=>av ((wM hm s k bp bC X fA).2 e)) a_ cC;obtain⟨bp,_,a_⟩:=z.aK s o ag;exact h.heap.cJ bp o b a_
theorem Y.fd(l:List (Nat×D))(hs:List (Nat×aI))(m:List (Nat×Nat))(h1:n_ A l hs m)(h:Y U c (hq l hs) K):Y U c A K :=
 ⟨λa w C M=>h.run a w C (M.Hz h1)⟩
def l0(l:α->List (Nat×D))(hs:α->List (Nat×aI))(K:cK->aw->Prop):cK->aw->Prop
 |.normal,A=>∃x m,n_ A (l x) (hs x) m
 |.exit id,A=>K (.exit id) A
 |.ret,A=>K .ret A
theorem Y.l0{a b:Code}{α:Type}(l:α->List (Nat×D))(hs:α->List (Nat×aI))(h:Y U a A (l0 l hs K))(bq:∀x,Y U b (hq (l x) (hs x)) K):Y U (.seq a b) A K :=
 .seq (h.mono λe az X=>by
  cases e with
  |normal=>obtain⟨x,m,h1⟩:=X;exact(bq x).fd _ _ m h1
  |exit id=>exact X
  |ret=>exact X)
def ed(l:α->List (Nat×D))(hs:α->List (Nat×aI))(fz:α->Nat)(x:α)(K:cK->aw->Prop):cK->aw->Prop
 |.normal,A=>∃bU m,fz bU<fz x/\n_ A (l bU) (hs bU) m
 |.exit id,A=>K (.exit id) A
 |.ret,A=>K .ret A
theorem Y.ed{c:Code}{α:Type}(l:α->List (Nat×D))(hs:α->List (Nat×aI))(fz:α->Nat)(ey:α)(m:List (Nat×Nat))(h1:n_ A (l ey) (hs ey) m)
  (round:∀x,Y U c (hq (l x) (hs x)) (ed l hs fz x K)):Y U (.loop c) A K :=
 ⟨λa w C M=>by
  have lV:=M.Hz h1;intro b k aA
  have key:∀n x,fz x=n->∀a w C,bG U w C (hq (l x) (hs x)) a->
    ∃e bv w',(∃c3 az aO,e=cK.f7 c3/\K c3 az/\bG U w' aO az bv)/\Arrives P (lone (b.at a (.code c::.inLoop c::k)) aA w) b k aA e bv w':=by
   intro n
   induction n using Nat.strongRecOn with
   |_ n aY =>
    intro x av a w C M;obtain⟨e,tF,tG,⟨c3,xY,tH,ak,hK,bJ⟩,oG⟩:=(round x).run a w C M b (.inLoop c::k) aA;subst ak
    cases c3 with
    |normal =>
     obtain⟨bU,wN,bi,aa⟩:=hK;obtain⟨DN,a₂,DO,DP,DQ⟩:=aY (fz bU) (av ▸ bi) bU rfl tF tG tH (bJ.Hz aa);exact⟨DN,a₂,DO,DP,.of_steps (Steps.trans oG (.one step_inLoop)) DQ⟩
    |exit id=>exact⟨_,tF,tG,⟨.exit id,xY,tH,rfl,hK,bJ⟩,.pass (x:=.inLoop c) rfl (λ_ _=>.inl (by simp[cK.f7])) oG⟩
    |ret=>exact⟨_,tF,tG,⟨.ret,xY,tH,rfl,hK,bJ⟩,.pass (x:=.inLoop c) rfl (λ_ _=>.inl (by simp[cK.f7])) oG⟩
  obtain⟨e,bv,w',I,oG⟩:=key _ ey rfl a w C lV
  exact⟨e,bv,w',I,.of_steps (.one step_loop) oG⟩⟩
theorem aq.own{v:Value}{k:Nat}{xs:List D}(s bp:Nat):aq (.Q (.own s v) k xs) (.Q (.own bp v) k xs) :=
 ⟨λw C aj h=>by
  cases h with
  |jr t k a ax=>exact .jr _ _ a ax
  |Q t k xs b o cap g ax G hc hm X c6 gd ef h=>exact .Q _ k xs b o cap g ax G hc hm X c6 gd ef h⟩
theorem aq.m7{t:iD}:aq (.Q t k xs) (.Q .none k xs):=aq.js _
theorem aq.nil:aq .bh (.Q .none k []):=⟨λw C aj h=>by rw[h.xX];exact .jr _ _ none trivial⟩
theorem aq.box{s bp b o:Nat}:aq (.box s b o) (.box bp b o):=⟨λw C aj h=>by rw[h.wA];exact .box _ _ _⟩
theorem c7.below(h:Below w.heap.size w w'):c7 (λ_=>False) w C w' C :=
 ⟨⟨h.size,λ_ _=>atP _,λb o G _=>by simp only[World.cell?,h.block b G]⟩,h.os,h.tape,h.output,λb G _=>⟨h.block b G,rfl⟩⟩
def Ei:D->Option Value
 |.bool b=>some (.bool b)
 |.int k n=>some (.int k n)
 |.O s=>some (.string ⟨⟨s⟩⟩)
 |.an v=>some v
 |_=>none
def BO:List D->Option (List Value)
 |[]=>some []
 |d::r=>match Ei d,BO r with
  |some v,some vs=>some (v::vs)
  |_,_=>none
theorem acb(h:Ei d=some v)(ae:bf w C d aj):aj=v:=by cases d<;>simp only[Ei,aus,reduceCtorEq]at h;subst h;exact ae.h4;subst h;exact ae.fr;subst h;exact ae.kw;subst h;exact ae.fL
theorem L2{w:World}{C:Nat->Nat}:∀{ds:List D} {vs dh:List Value},BO ds=some vs->db w C ds dh->dh=vs
 |[],vs,dh,h,ae=>by cases h;have:=ae.1;cases dh with|nil=>rfl|cons _ _=>simp at this
 |d::r,vs,dh,h,ae=>by simp only[BO]at h;split at h;rename_i v gx h1 z;cases h;(cases dh with|nil=>have:=ae.1;simp at this|cons aj dh =>have aa:dh=gx:=L2 (w:=w) (C:=C) z ⟨by have:=ae.1;simpa using this,λi d v aa aC=>ae.2 (i+1) d v (by simpa using aa) (by simpa using aC)⟩;rw[acb h1 (ae.2 0 d aj rfl rfl),aa]);cases h
theorem m0.zW{vs:List Value}(hc:Bt P f)(ha:BO ds=some vs)
  (h:∀w,pR B w->Calls P f ⟨vs⟩ w λe w'=>∃v,e=.returned v/\(∀C,bf w' C d v)/\Below w.heap.size w w'):m0 P B f ds d :=
 ⟨hc,λw C args G ae=>by
  rw[L2 ha ae]
  exact(h w G).mono λe w' ⟨v,ak,W,hs⟩=>⟨v,C,ak,W C,c7.below hs⟩⟩
theorem m0.pure{vs:List Value}(hc:Bt P f)(ha:BO ds=some vs)(N:Ei d=some v)(h:∀w,pR B w->Calls P f ⟨vs⟩ w λe w'=>e=.returned v/\w'=w):m0 P B f ds d:=by(have eO:∀w C,bf w C d v:=λw C=>by cases d<;>simp only[Ei,aus,reduceCtorEq]at N<;>subst N<;>constructor);exact .zW hc ha λw G=>(h w G).mono λe w' ⟨ak,cG⟩=>by subst cG;exact⟨v,ak,λC=>eO _ C,.refl _ _⟩
theorem m0.newRow{vs:List Value}{e:TypeId}(hc:Bt P f)(ha:BO ds=some vs)
  (X:∀x∈xs,x.cells.length=k) (hm:xs.length<=maxLen) (ao:∀w C,db w C (b1 xs) dh) (h1:∀aj∈dh,aj.oneCell'=true)
  (h:∀w,pR B w->Calls P f ⟨vs⟩ w λoI w'=>oI=.returned (.slice (some ⟨w.heap.size,0,none⟩) xs.length xs.length)/\w'=w.alloc (.cells ⟨dh⟩ e)):m0 P B f ds (.Q .dU k xs) :=
 ⟨hc,λw C args G ae=>by
  rw[L2 ha ae]
  exact(h w G).mono λoI w' ⟨ak,cG⟩=>by
   subst cG
   exact⟨_,gy C w.heap.size (xs.length*k),ak,Hp X (atP _) hm (λj d N=>by
    obtain⟨al,aT⟩:=ao w C;have Z:j<dh.length:=by have:=(aui.1 N).1;omega
    exact⟨dh[j],by simp[Z],aT j d _ N (by simp[Z]),h1 _ (atK Z)⟩) ⟨_,_,rfl⟩,c7.alloc _ _ _ _ _⟩⟩
theorem dL.refl:∀ds:List D,dL ds ds
 |[]=>trivial
 |d::r=>⟨.refl d,dL.refl r⟩
theorem Y.gU(l:List (Nat×D))(hs:List (Nat×aI))(m:List (Nat×Nat))(h:n_ A l hs m)(X:K .ret (hq l hs)):Y U .ret A K :=
 Y.fd l hs m h (Y.ret X)
structure af (P:Program) (B:World) (am:Nat) (A:aw) (dst:Option Tmp) (op:Op) (K:aw->Prop):Prop where
 run:∀(U:b7 P B am) (w:World) (C:Nat->Nat) (a:Act),bG U w C A a->iY am dst=true->∀(type:TypeId) (pos:String) (after:Array Edge) (a6:Exit->Act->World->Prop),
  (⟨dst,op,type,pos,after,none⟩:Oper).wp P a w (λbv w'=>∃az aO,K az/\bG U w' aO az bv) a6
def acc:Op->Bool
 |.call c=>match c.callee with
  |.builtin b=>match b with
   |.len|.min|.max=>false
   |_=>true
  |_=>true
 |.binOp _ _ _ y _=>match y with
  |.const v=>match v with
   |.slice a _ _=>a.isNone
   |_=>false
  |_=>false
 |.indexAddr ..|.load ..|.store ..|.convert ..|.makeSlice ..|.makeMap ..|.lookup ..|.mapUpdate ..|.slice ..|.range ..|.next ..=>true
 |_=>false
def Ej(P:Program)(B:World)(am:Nat)(ay:List bx)(A:aw)(dst:Option Tmp)(op:Op)(K:aw->Prop):Prop :=
 match acc op with
 |true=>n1 P B ay A dst op K\/af P B am A dst op K
 |false=>n1 P B ay A dst op K
theorem Sh{ay:List bx}(hT:dg P ay)(M:bG U w C A a){o:Oper}(aT:o.guard=none)(N:iY am o.dst=true){K:aw->Prop}(I:Ej P B am ay A o.dst o.op K)(a6:Exit->Act->World->Prop):o.wp P a w (λbv w'=>∃az aO,K az/\bG U w' aO az bv) a6:=by unfold Ej at I;split at I;rcases I with I|I;exact tR hT M N I a6;obtain⟨dst,op,type,pos,after,guard⟩:=o;simp only at aT;subst aT;exact I.run U w C a M N type pos after a6;exact tR hT M N I a6
def BP(P:Program)(B:World)(ay:List bx)(am:Nat):List Oper->aw->(aw->Prop)->Prop
 |[],A,K=>K A
 |⟨dst,op,_,_,_,guard⟩::rest,A,K=>cond (iY am dst) (match guard with
  |none=>Ej P B am ay A dst op λaz=>BP P B ay am rest az K
  |some _=>False) False
theorem L3{ay:List bx}(hT:dg P ay){U:b7 P B am}{ops:Array Oper}{a6:Exit->Act->World->Prop}{K:aw->Prop}(f_:∀az bv w' aO,K az->bG U w' aO az bv->a6 .normal bv w'): ∀{l:List Oper} {A:aw} (_:BP P B ay am l A K) {a:Act} {w:World} {C:Nat->Nat} (_:bG U w C A a),wpList P ops a6 l a w
 |[],_,I,_,_,_,M=>f_ _ _ _ _ I M
 |o::rest,A,I,a,w,C,M=>by change cond (iY am o.dst) _ False at I;replace I:=il I;obtain⟨N,I⟩:=I;unfold wpList;split at I;rename_i aT;rw[atH (by simp[Region.wanted,aT])];exact .inl (Oper.wp_mono (λbv w' ⟨az,aO,h1,z⟩=>L3 hT f_ h1 z) (Sh hT M aT N I a6));exact I.elim
theorem Y.Ek{ay:List bx}(hT:dg P ay)(I:BP P B ay am ops.toList A (K .normal)):Y U (.region id ops false) A K :=
 ⟨λ_ _ _ M=>wp_region_list (L3 hT (λaz _ _ aO hK bJ=>⟨.normal,az,aO,rfl,hK,bJ⟩) I M)⟩
theorem Y.zX{ay:List bx}(hT:dg P ay)(n:Nat)(hm:P.follows .mixedOrders=true)(gh:BJ ops n=true)
  (I:jQ P B ay am ops (ops.toList.take n) A λaz=>BP P B ay am (ops.toList.drop n) az (K .normal)):Y U (.region id ops true) A K :=
 ⟨λa w C M=>by
  obtain⟨l⟩:=ops;simp only[BJ,Region.lexTailB,atM,aup]at gh;obtain⟨⟨⟨⟨⟨Sc,av⟩,hs⟩,hc⟩,Ea⟩,n9⟩:=gh;have wL:n<l.length:=by simpa using av
  have i':(l.take n).length=n:=by simp;omega
  have jv:(l.drop n).length=(⟨l⟩:Array Oper).size-n:=by simp
  have Eb:HeadInv .any ⟨l⟩ n (Array.replicate (⟨l⟩:Array Oper).size false) :=
   ⟨by simp,λj nA _ al=>(ayk),λt _ ax=>getD_in (by simpa using ax) (getD_replicate_false _ _)⟩
  have H:=Hx (md:=.any) (g:=(⟨l⟩:Array Oper).size-n) (r:=[]) (am:=am) (a6:=λaz=>BP P B ay am (l.drop n) az (K .normal)) hT hs hc av (l.take n) 0 _ A (λj Z=>by
   have gl:j<n:=by rw[i']at Z;exact Z
   simp[gl]) n9 (by simpa using i') Eb (by rw[i'];exact Ea) (by rw[auK];exact I)
  refine wp_region_any hm ?_
  have:=Hw (U:=U) (Q':=λe bv w'=>∃c3 az aO,e=cK.f7 c3/\K c3 az/\bG U w' aO az bv) (g:=(⟨l⟩:Array Oper).size-n) (λbd az bv w' aO bJ aV=>by
   have:=wpAny_of_seq (md:=.any) (ops:=⟨l⟩) (P:=P) (Q':=λe bv w'=>∃c3 az aO,e=cK.f7 c3/\K c3 az/\bG U w' aO az bv) (l.drop n) n bd bv w' (λj=>by simp[avL]) (by rw[jv];exact aV.1)
    (L3 (l:=l.drop n) hT (λEc _ _ lU hK Ed=>⟨.normal,Ec,lU,rfl,hK,Ed⟩) (show BP P B ay am (l.drop n) az (K .normal)from aV.2) bJ)
   rwa [jv]at this) _ _ A a _ C M.drew H
  rw[i',show n+((⟨l⟩:Array Oper).size-n)=(⟨l⟩:Array Oper).size by omega]at this
  exact this⟩
variable{op:Op}
theorem af.val{K:aw->Prop}
  (h:∀(U:b7 P B am) (w:World) (C:Nat->Nat) (a:Act),bG U w C A a->∀(type:TypeId) (pos:String) (after:Array Edge),∃v w' aO az d,
   (execOp a.eval ⟨dst,op,type,pos,after,none⟩).run P w=.ok (.value v) w'/\bG U w' aO az a/\bf w' aO d v/\K (az.put dst d)):af P B am A dst op K :=
 ⟨λU w C a M N type pos after a6=>by
  obtain⟨v,w',aO,az,d,cU,fW,ae,hK⟩:=h U w C a M type pos after;simp only[Oper.wp,cU,Oper.upon]
  exact⟨_,aO,hK,fW.put N ae⟩⟩
theorem af.unit{K:aw->Prop}
  (h:∀(U:b7 P B am) (w:World) (C:Nat->Nat) (a:Act),bG U w C A a->∀(type:TypeId) (pos:String) (after:Array Edge),∃w' aO az,
   (execOp a.eval ⟨dst,op,type,pos,after,none⟩).run P w=.ok .skip w'/\bG U w' aO az a/\K (az.put dst .undef)):af P B am A dst op K :=
 ⟨λU w C a M N type pos after a6=>by
  obtain⟨w',aO,az,cU,fW,hK⟩:=h U w C a M type pos after;simp only[Oper.wp,cU,Oper.upon]
  exact⟨_,aO,hK,fW.put N .undef⟩⟩
theorem af.call{A:aw}{dst:Option Tmp}{K:aw->Prop}{f:Operand}{args:Array Operand}{m8:Array TypeId}{b6:FuncId}{first cq:List D}(M:A.a8 f=.fn (.func b6) first cq)
  (g2:List D) (m:List (Nat×Nat)) {a6:D->bF->Prop} (hc:c8 P B b6 g2 (gA A.H m) a6) (hm:ka m=true) (dV:dL (first++args.toList.map A.a8++cq) g2)
  (hK:∀d aM,a6 d aM->∃d',aq d d'/\K (({t:=A.t,H:=qO A.H aM m}:aw).put dst d')):af P B am A dst (.call ⟨.value f,args,m8⟩) K :=
 ⟨λU w C a l1 N type pos after Q'=>by
  have o':=cr l1.tmps f;rw[M]at o';obtain⟨fK,hp,W,h1,z⟩:=o'.u9
  have aa:db w C (args.toList.map A.a8) (args.toList.map a.eval) :=
   ⟨by simp,λi d v N W=>by
    simp only[aud]at N W
    cases F:args.toList[i]? with
    |none=>rw[F]at N;cases N
    |some x=>rw[F]at N W;cases N;cases W;exact cr l1.tmps x⟩
  have aC:=dV.rH ((h1.append aa).append z);obtain⟨fn,i7,rK,mu⟩:=hc.1;have G:fn.body.isNone=false:=by cases G:fn.body<;>simp[G]at rK⊢
  have cU:(execOp a.eval ⟨dst,.call ⟨.value f,args,m8⟩,type,pos,after,none⟩).run P w=.ok (.enter b6 ⟨fK++args.toList.map a.eval++hp⟩) w:=by
   simp only[execOp,resolve,W,Deferred.ofValue,Sem.run_bind,Sem.run_pure,Result.andThen_ok,invoke,callFunc,run_program,i7,mu,G,auR,avq];congr 2
   apply avE;simp
  simp only[Oper.wp,cU,Oper.upon]
  exact(Se l1 hm hc aC N hK).mono λe w' ⟨v,ak,h⟩=>by subst ak;exact h⟩
variable{K:aw->Prop}{ay:List bx}
def h_(v:Value)(off:Nat):Value :=
 match v with
 |.slice (some ⟨b,o,_⟩) _ _=>.pointer (some ⟨b,o+off,none⟩)
 |_=>undef
variable{e:Nat}
theorem kx.pos(h:kx w C v xs k e)(hi:i<xs.length):∃b cap vs,v=.slice (some ⟨b,0,none⟩) xs.length cap/\xs.length<=cap/\cap<=maxLen/\(∀x∈xs,x.cells.length=k)/\w.heap[b]?=some (.cells vs e (0,0))/\vs.size=cap*k/\C b=0/\∀(j:Nat) d,(b1 xs)[j]?=some d->∃aj,vs[j]?=some aj/\bf w C d aj/\aj.oneCell'=true:=by obtain⟨a,cap,W,hc,hm,X,_,cG⟩:=h;obtain⟨b,vs,ha,G,hs,c6,ae⟩:=cG atv;subst ha;exact⟨b,cap,vs,W,hc,hm,X,G,hs,c6,ae⟩
variable{x fV:Operand}{El:IntKind}{ca:bx}
theorem af.ev(hT:dg P ay)(s:Nat){bH:Nat}{i:Int}(F:A.a8 x=.an v)(hs:A.H s=some (.row v xs k e))(hi:A.a8 fV=.int El i)
  (ax:dw ay t=some ca) (b5:ca.kind=.slice bH) (fu:dw ay bH=some aF) (l2:aF.aB=k) (h0:0<=i) (h1:i<xs.length) (hK:K (A.put dst (.an (h_ v (i.toNat*k))))):af P B am A dst (.indexAddr t x fV) K :=
 .val λU w C a M type pos after=>by
  obtain⟨c1,rfl⟩:=hT.get ax;obtain⟨fs,rfl⟩:=hT.get fu;have ao:=c1.ky b5;have W:=cr M.tmps x;rw[F]at W
  have Em:=cr M.tmps fV;rw[hi]at Em
  obtain⟨b,cap,vs,rfl,_⟩:=kx.pos (i:=i.toNat) (M.heap.b' s _ hs) atv;refine⟨_,w,C,A,_,?_,M,.an _,hK⟩;simp[execOp,W.fL,Em.fr,Instr.indexAt,asIntOf,run_underlying ao,h0,h1,fs.size,o5,l2,h_]
theorem af.mz(hT:dg P ay)(s:Nat)(F:A.a8 x=.an (h_ v (i*k)))(hs:A.H s=some (.row v xs k e))(ax:dw ay t=some ca){y:D}
  (hy:xs[i]?=some y) (al:DV ca k 0 y λd=>K (A.put dst d)):af P B am A dst (.load t x) K :=
 .val λU w C a M type pos after=>by
  obtain⟨c1,rfl⟩:=hT.get ax;have W:=cr M.tmps x;rw[F]at W
  obtain⟨b,cap,vs,rfl,_,_,X,G,hsz,_,ae⟩:=kx.pos (M.heap.b' s _ hs) (e8 hy);obtain⟨d,hK,N⟩:=Lr c1 al
  obtain⟨aj,ao,L4⟩:=N w C b (0+i*k) (λj=>vs.getD (i*k+j) undef) (X y (at2 hy)) (λj d N=>by
   have Z:j<k:=by rw[<-X y (at2 hy)];exact e8 N
   obtain⟨aj,h1,z,_⟩:=ae (i*k+j) d (by rw[wF X hy Z];exact N);refine⟨?_,?_⟩
   ·simp only[World.cell?,G,aut];simp[h1,avt]
   simp[avt,h1,z])
  refine⟨aj,w,C,A,d,?_,M,L4,hK⟩;simp only[h_]at W;simp only[av_]at ao;simp only[execOp,W.fL,Sem.run_bind,ao,Result.andThen_ok,Sem.run_pure]
theorem af.sQ(hT:dg P ay)(s:Nat){bH:Nat}(F:A.a8 x=.an v)(hs:A.H s=some (.row v xs k e))(ax:dw ay t=some ca)(b5:ca.kind=.slice bH)
  (hK:K (A.put dst (.int .i64 xs.length))):af P B am A dst (.call ⟨.builtin .len,#[x],#[t]⟩) K :=
 .val λU w C a M type pos after=>by
  obtain⟨c1,rfl⟩:=hT.get ax;have ao:=c1.ky b5;have W:=cr M.tmps x;rw[F]at W
  obtain⟨bv,cap,rfl,_⟩:=M.heap.b' s _ hs;refine⟨.int .i64 xs.length,w,C,A,_,?_,M,.int _ _,hK⟩;simp[execOp,resolve,invoke,builtin,Builtin.len_,run_underlying ao,W.fL,goInt]
theorem D.oJ(h:d.one=true):d.cells=[d]:=by cases d<;>first|rfl|cases h
theorem HA{k:Nat}:∀{xs:List D} (_:∀x∈xs,x.cells.length=k) {i:Nat} {x:D} (_:i<xs.length) (_:x.cells.length=k),b1 (xs.set i x)=(b1 xs).take (i*k)++x.cells++(b1 xs).drop (i*k+x.cells.length)
 |[],_,_,_,h,_=>by simp at h
 |y::a',X,0,x,_,F=>by have hy:=X y atS;simp only[List.set_cons_zero,b1,auJ,Nat.zero_mul,av2,au4,aut];rw[av0 atv,av6 atv,au4]
 |y::a',X,i+1,x,h,F=>by have hy:=X y atS;have h1:=HA (xs:=a') (λV bz=>X V (atU _ bz)) (i:=i) (x:=x) (by simpa using h) F;simp only[b1]at h1⊢;simp only[List.set_cons_succ,auJ,h1];rw[show(i+1)*k=y.cells.length+i*k by rw[avR,hy];omega,List.take_length_add_append,avF,List.drop_length_add_append];simp[auj]
variable{y:Operand}
theorem af.nC(hT:dg P ay)(s:Nat)(F:A.a8 x=.an (h_ v (i*1)))(hs:A.H s=some (.row v xs 1 e))(ax:dw ay t=some ca)(hsz:ca.aB=1)
  (hi:i<xs.length) (ag:(A.a8 y).one=true) (hK:K ((A.b2 s (some (.row v (xs.set i (A.a8 y)) 1 e))).put dst .undef)):af P B am A dst (.store t x y) K :=
 .unit λU w C a M type pos after=>by
  obtain⟨c1,rfl⟩:=hT.get ax;have W:=cr M.tmps x;rw[F]at W
  have hy:=cr M.tmps y;obtain⟨h1,z⟩:=hy.oJ ag;obtain⟨b,cap,vs,rfl,hc,hm,X,G,fM,c6,ae⟩:=kx.pos (M.heap.b' s _ hs) hi;have g5:i+0+(a.eval y).cells.toList.length<=vs.size:=by rw[h1,fM];simp;omega
  have cU:=run_storeCells_at P b i e (a.eval y).cells.toList 0 vs w G g5 (by rw[h1];simpa using z);simp only[av_]at cU;have aZ:=c7.setRow (C:=C) (n:=0) G (aA:=(vs.toList.take i++(a.eval y).cells.toList++vs.toList.drop (i+(a.eval y).cells.toList.length)).toArray) atv (λo ag=>by omega);have eZ:=D.oJ ag;have x9:=HA X hi (x:=A.a8 y) (by rw[eZ];rfl);have eK:aI.ec (.row (.slice (some ⟨b,0,none⟩) xs.length cap) xs 1 e) b:=⟨_,cap,rfl,by omega⟩;refine⟨_,_,_,?_,M.b2 aZ (s:=s) (λx F=>ayv) (λbp bI eh aX c4 ao m5=>?_) λV bz=>?_,hK⟩
  ·simp only[h_,aut,awt]at W;simp only[execOp,W.fL,Instr.storeAt,Instr.sureAddr,Sem.run_bind,Sem.run_pure,Result.andThen_ok,storeVar,c1.size,hsz,h1];rw[h1]at cU;rw[atG atx];exact(atI (λr=>Result.andThen r λ_ w'=>Result.ok Next.skip w') cU).trans rfl
  ·subst m5;exact M.heap.inj bp s bI _ eh aX c4 hs ao eK
  cases bz
  refine⟨⟨_,cap,by rw[avc],by simpa using hc,hm,λV bz=>?_,λdF gg=>⟨b,by cases gg;rfl,by simpa using hR G⟩,λ_=>⟨b,_,rfl,setRow_heap w b _ _ e _ G,?_,ht _ _ _,λj d N=>?_⟩⟩,λx F=>?_⟩
  ·rcases avT bz with bz|rfl
   ·exact X V bz
   rw[eZ];rfl
  ·simp only[auH,atO,at4,auS,avy,h1];simp only[awt]at fM;simp;omega
  ·rw[x9,awt,p0 _ _ _ (by rw[pP X,eZ];simp;omega)]at N;rw[avz,p0 _ _ _ (by simpa using g5)];have kE:(a.eval y).cells.toList.length=(A.a8 y).cells.length:=by rw[h1,eZ];rfl
   rw[kE];have du:(b1 xs).length=xs.length:=by rw[pP X];omega
   by_cases Z:i<=j/\j<i+(A.a8 y).cells.length
   ·have tV:j<xs.length:=by have:=Z.2;rw[eZ]at this;simp at this;omega
    rw[atH ⟨Z.1,Z.2,by rw[du];exact tV⟩]at N;rw[atH ⟨Z.1,Z.2,by simp;omega⟩];rw[eZ]at N;have acd:j-i=0:=by have:=e8 N;simpa using this
    rw[acd]at N⊢;simp only[List.getElem?_cons_zero,aus]at N;subst N;exact⟨a.eval y,by rw[h1];rfl,hy.ext (by rw[kE]at aZ;exact aZ.ext),z⟩
   rw[atG (λh=>Z ⟨h.1,h.2.1⟩)]at N;rw[atG (λh=>Z ⟨h.1,h.2.1⟩)];obtain⟨aj,aa,aC,a_⟩:=ae j d N;exact⟨aj,by simpa using aa,aC.ext (by rw[kE]at aZ;exact aZ.ext),a_⟩
  obtain⟨h5,h6,dM,_⟩:=F;simp only[Value.slice.injEq,aus,Addr.mk.injEq]at dM;obtain⟨⟨rfl,_⟩,_⟩:=dM;exact⟨M.heap.cJ s _ _ hs eK,.inl rfl⟩
theorem bG.newObj(h:bG U w C A a)(s:Nat){o:Obj}{mA:aI}(my:tE (w.alloc o) (gy C w.heap.size 0) mA)(ao:∀b,mA.ec b->b=w.heap.size): bG U (w.alloc o) (gy C w.heap.size 0) (A.b2 s (some mA)) a:=by have hs:=c7.alloc (λ_=>False) w C o 0;refine h.b2 hs (λ_ M=>M.elim) (λ_ _ _ _ _ _ M=>M) (λx F=>?_);cases F;refine⟨my,λb G=>?_⟩;rw[ao b G];exact⟨h.D5,.inr (atP _)⟩
theorem L5{V:D}(ef:V.one=true):∀n,b1 (List.replicate n V)=List.replicate n V
 |0=>rfl
 |n+1=>by have h:=L5 ef n;simp only[b1]at h⊢;rw[List.replicate_succ,auJ,h,D.oJ ef];rfl
variable{h5:Nat}
theorem pa{eh o bI n c vg:Nat}(h:Value.slice (some ⟨b,o,none⟩) n c=Value.slice (some ⟨eh,bI,none⟩) h5 vg):eh=b:=by simp only[Value.slice.injEq,aus,Addr.mk.injEq]at h;exact h.1.1.symm
variable{zs:List D}
theorem L6(c1:ca.gk P)(fs:aF.gk P)(b5:ca.kind=.slice aF.t)(w:World)(ce dn:IntKind)(l n:Nat)(al:l<=n)(G:aF.bytes*n<=281474976710656)(av:n<=9223372036854775807)(bz:aF.zero=some zs): ∃ei:Value,(∀w C,db w C zs ei.cells.toList)/\zs.length=aF.aB/\(Instr.makeSlice ca.t (.int ce (l:Int)) (.int dn (n:Int))).run P w=.ok (.slice (some ⟨w.heap.size,0,none⟩) l n) (w.alloc (.cells (madeCells ei.cells (n*aF.aB)) aF.t)):=by obtain⟨i,hi,hsz,o8,nw⟩:=fs.qF;obtain⟨ei,lX,mt,jR⟩:=nw zs bz;refine⟨ei,jR,mt,?_⟩;have ae:=run_make (P:=P) w ca.t aF.t i ei (c1.ky b5) hi lX ce dn l n atv atv (by rw[o8];(have:((aF.bytes*n:Nat):Int)<=281474976710656:=by omega);rwa [Int.natCast_mul]at this) atv;rw[hsz]at ae;simpa using ae
variable{ce dn:IntKind}
theorem af.x_(hT:dg P ay){l c:Operand}{bH n:Nat}{V:D}(ax:dw ay t=some ca)(b5:ca.kind=.slice bH)(fu:dw ay bH=some aF)(bz:aF.zero=some [V])(ef:V.one=true)
  (al:A.a8 l=.int ce n) (hc:A.a8 c=.int dn n) (G:aF.bytes*n<=281474976710656) (av:n<=9223372036854775807)
  (hK:∀v,K ((A.b2 s (some (.row v (List.replicate n V) 1 bH))).put (some s) (.an v))):af P B am A (some s) (.makeSlice t l c) K :=
 .val λU w C a M type pos after=>by
  obtain⟨c1,rfl⟩:=hT.get ax;obtain⟨fs,rfl⟩:=hT.get fu;have o6:=cr M.tmps l;rw[al]at o6
  have sR:=cr M.tmps c;rw[hc]at sR
  obtain⟨ei,jR,mt,cU⟩:=L6 c1 fs b5 w ce dn n n (atP _) G av bz
  have L7:∃aj,ei.cells=#[aj]:=by
   have h1:=(jR w C).1;generalize ei.cells=aA at h1⊢;obtain⟨l⟩:=aA
   match l,h1 with
   |[aj],_=>exact⟨aj,rfl⟩
  obtain⟨aj,ao⟩:=L7;have eO:∀w C,bf w C V aj:=λw C=>by have:=(jR w C).2 0 V aj rfl (by rw[ao];rfl);exact this
  have L8:=((eO w C).oJ ef).2;have hsz:aF.aB=1:=by rw[<-mt];rfl
  rw[ao,hsz,awt]at cU;refine⟨_,_,_,_,_,?_,M.newObj s (mA:=.row (.slice (some ⟨w.heap.size,0,none⟩) n n) (List.replicate n V) 1 aF.t) (o:=.cells (madeCells #[aj] n) aF.t) ?_ ?_,.an _,hK _⟩
  ·simp only[execOp,o6.fr,sR.fr,Sem.run_bind,cU,Result.andThen_ok,Sem.run_pure]
  ·have h1:∀x∈List.replicate n V,x.cells=[x]:=λx F=>by rw[List.eq_of_mem_replicate F];exact D.oJ ef
   refine⟨_,n,by simp,by simp,by simp only[maxLen];omega,λx F=>by rw[h1 x F];rfl,λdF gg=>⟨_,by cases gg;rfl,hR (kB w _)⟩,λ_=>⟨w.heap.size,_,rfl,kB w _,by simp[size_madeCells],ht _ _ _,λj d N=>?_⟩⟩;have du:=L5 ef n;rw[du]at N;have Z:j<n:=by have:=e8 N;simpa using this
   have L9:d=V:=by simp[Z]at N;exact N.symm
   subst L9;refine⟨aj,?_,eO _ _,L8⟩;rw[<-au',toList_madeCells_one];simp[Z]
  rintro b ⟨h5,cap,h,_⟩;exact pa h
theorem af.L_(hT:dg P ay){l c:Operand}{bH n:Nat}(ax:dw ay t=some ca)(b5:ca.kind=.slice bH)(fu:dw ay bH=some aF)(bz:aF.zero=some zs)
  (al:A.a8 l=.int ce 0) (hc:A.a8 c=.int dn n) (G:aF.bytes*n<=281474976710656) (av:n<=9223372036854775807)
  (hK:∀v,K ((A.b2 s (some (.own v 0 aF.aB bH))).put (some s) (.Q (.own s v) aF.aB []))):af P B am A (some s) (.makeSlice t l c) K :=
 .val λU w C a M type pos after=>by
  obtain⟨c1,rfl⟩:=hT.get ax;obtain⟨fs,rfl⟩:=hT.get fu;have o6:=cr M.tmps l;rw[al]at o6
  have sR:=cr M.tmps c;rw[hc]at sR
  obtain⟨ei,jR,mt,cU⟩:=L6 c1 fs b5 w ce dn 0 n atv G av bz;refine⟨.slice (some ⟨w.heap.size,0,none⟩) 0 n,_,_,_,_,?_,M.newObj s (mA:=.own (.slice (some ⟨w.heap.size,0,none⟩) 0 n) 0 aF.aB aF.t) (o:=.cells (madeCells ei.cells (n*aF.aB)) aF.t) ?_ ?_,?_,hK _⟩
  ·have h0:((0:Nat):Int)=0:=rfl;rw[h0]at cU;simp only[execOp,o6.fr,sR.fr,Sem.run_bind,cU,Result.andThen_ok,Sem.run_pure]
  ·exact⟨_,n,rfl,by omega,by simp only[maxLen];omega,λ_=>⟨w.heap.size,_,rfl,kB w _,size_madeCells _ _,by rw[ht,Nat.zero_mul]⟩⟩
  ·rintro b ⟨bI,cap,h,_⟩;exact pa h
  exact .Q _ _ [] w.heap.size 0 n (λ_=>undef) rfl (hR (kB w _)) atx (by simp only[maxLen];omega) (λx F=>by cases F) atx (λj d N=>by simp[b1]at N) (λj d N=>by simp[b1]at N) (λj d N=>by simp[b1]at N)
theorem En(C:Nat->Nat)(b n:Nat)(h:C b<=n)(x:Nat):C x<=gy C b n x:=by by_cases e:x=b;subst e;rw[ht];exact h;rw[rI _ _ e];exact atP _
theorem Y.commit{K:cK->aw->Prop}(s:Nat)(hs:A.H s=some (.row v xs k e))(az:aw)
  (ax:∀w C,bf w C (.Q (.own s v) k xs) v->∀j aj,bf w C (A.t j) aj->bf w C (az.t j) aj) (cy:∀j o,az.H j=some o->(j=s/\o=.own v xs.length k e)\/(j≠s/\A.H j=some o))
  (h:Y U c az K):Y U c A K :=
 ⟨λa w C M=>by
  obtain⟨bv,cap,W,hc,hm,X,eJ,cG⟩:=M.heap.b' s _ hs;by_cases h0:0<cap
  ·obtain⟨b,vs,rfl,G,hsz,c6,ae⟩:=cG h0;have eK:aI.ec (.row v xs k e) b:=⟨_,cap,W,h0⟩;have jw:n0 w C w (gy C b (xs.length*k)):=⟨atP _,λx _=>En C b _ atv x,λ_ _ _ _=>rfl⟩;have aZ:c7 (λx=>x=b) w C w (gy C b (xs.length*k)):=⟨jw,rfl,rfl,rfl,λx _ F=>⟨rfl,rI _ _ F⟩⟩
   have dN:bf w (gy C b (xs.length*k)) (.Q (.own s v) k xs) v:=by
    have:=x2 (w:=w) (C:=gy C b (xs.length*k)) (tg:=.own s v) (k:=k) (xs:=xs) (vs:=vs.toList) (b:=b) (e:=e) (j_:=(0,0)) (cap:=cap) G X hc hm (by rw[ht];exact atP _)
     (λj d N=>axW) W.symm
    rw[W]at this⊢;exact this
   refine h.run a w (gy C b (xs.length*k)) ⟨λj=>ax _ _ dN j _ ((M.tmps j).ext jw),⟨λj o ag=>?_,λj eu o bI x aX h1 z ao cS=>?_,λj o x ag ao=>?_⟩,M.size,M.defers,?_⟩
   ·rcases cy j o ag with⟨rfl,rfl⟩|⟨Z,ag⟩
    ·exact⟨_,cap,W,hc,hm,λ_=>⟨b,vs,rfl,G,hsz,ht _ _ _⟩⟩
    exact(M.heap.b' j o ag).iE jw λx F=>⟨rfl,rI _ _ λe=>by subst e;exact M.heap.inj j s o _ x Z ag hs F eK⟩
   ·have key:∀j o,az.H j=some o->o.ec x->∃da,A.H j=some da/\da.ec x:=λj o ag ao=>by
     rcases cy j o ag with⟨rfl,rfl⟩|⟨_,ag⟩
     ·obtain⟨bI,h6,aa,aC⟩:=ao;rw[W]at aa;have:=pa aa;subst this
      exact⟨_,hs,eK⟩
     exact⟨o,ag,ao⟩
    obtain⟨da,aa,aC⟩:=key j o h1 ao;obtain⟨jU,a_,cC⟩:=key eu bI z cS;exact M.heap.inj j eu da jU x aX aa a_ aC cC
   ·rcases cy j o ag with⟨rfl,rfl⟩|⟨_,ag⟩
    ·obtain⟨bI,h6,aa,aC⟩:=ao;rw[W]at aa;have:=pa aa;subst this
     exact M.heap.cJ _ _ _ hs eK
    exact M.heap.cJ j o x ag ao
   refine M.step.trans aZ λx F wO=>?_;subst wO;rcases M.heap.cJ s _ _ hs eK with h1|h1
   ·exact h1
   omega
  have F:xs=[]:=atY atv;subst F;have hcap:cap=0:=atv
  subst hcap
  have dN:bf w C (.Q (.own s v) k []) v:=by
   cases bv with
   |none=>rw[W];exact .jr _ _ none rfl
   |some dF =>
    obtain⟨b,rfl,G⟩:=eJ dF rfl;rw[W];exact .Q _ _ [] b 0 0 (λ_=>undef) rfl G (atP _) (at7 _) (λx F=>by cases F) atx (λj d N=>by simp[b1]at N) (λj d N=>by simp[b1]at N) (λj d N=>by simp[b1]at N)
  have tT:∀j o x,az.H j=some o->o.ec x->j≠s/\A.H j=some o:=λj o x ag ao=>by
   rcases cy j o ag with⟨rfl,rfl⟩|z
   ·obtain⟨bI,h6,aa,aC⟩:=ao;rw[W]at aa;simp only[Value.slice.injEq]at aa;simp at aC;omega
   exact z
  refine h.run a w C ⟨λj=>ax _ _ dN j _ (M.tmps j),⟨λj o ag=>?_,λj eu o bI x aX h1 z ao cS=>?_,λj o x ag ao=>?_⟩,M.size,M.defers,M.step⟩
  ·rcases cy j o ag with⟨rfl,rfl⟩|⟨Z,ag⟩
   ·exact⟨_,0,W,atP _,at7 _,λh=>absurd h atx⟩
   exact M.heap.b' j o ag
  ·exact M.heap.inj j eu o bI x aX (tT j o x h1 ao).2 (tT eu bI x z cS).2 ao cS
  exact M.heap.cJ j o x (tT j o x ag ao).2 ao⟩
open Go.MapKept
theorem af.makeMap{t:TypeId}{s:Nat}(hK:∀b,K ((A.b2 s (some (.set b []))).put (some s) (.an (.map (some b))))):af P B am A (some s) (.makeMap t none) K :=
 .val λU w C a M type pos after=>by
  refine⟨.map (some w.heap.size),_,_,_,_,?_,M.newObj s (mA:=.set w.heap.size []) (o:=.map #[] 0) ⟨#[],0,kB w _,ht _ _ _,by simp,by simp⟩ (λb G=>G),.an _,hK _⟩;simp[execOp,Instr.makeMap,Result.andThen]
theorem DL.Si{ah:List atE}(h:DL w C b ah):∃eC iX,w.heap[b]?=some (.map eC iX)/\C b=0/\(∀x∈eC.toList,IsKey .string x.key)/\(∀x∈eC.toList,x.val=.bool true)/\(∀x∈eC.toList,∃s,x.key=.string ⟨⟨s⟩⟩)/\∀s:atE,s∈ah↔∃x∈eC.toList,x.key=.string ⟨⟨s⟩⟩:=by obtain⟨eC,iX,G,c6,h1,z⟩:=h;exact⟨eC,iX,G,c6,λx F=>by obtain⟨⟨s,hs⟩,_⟩:=h1 x F;rw[hs];trivial,λx F=>(h1 x F).2,λx F=>(h1 x F).1,z⟩
variable{dA d9:TypeId}
theorem af.L'{t:TypeId}{m:Operand}(s:Nat){ah:List atE}{q:atE}(hm:P.underlying t=some (.map dA d9))(N:P.underlying dA=some .string)
  (bz:∀w,(zeroValue d9).run P w=.ok (.bool false) w) (F:A.a8 m=.an (.map (some b))) (hs:A.H s=some (.set b ah)) (I:A.a8 x=.O q) (hK:K (A.put dst (.bool (decide (q∈ah))))) :
  af P B am A dst (.lookup t m x false) K :=
 .val λU w C a M type pos after=>by
  have k1:=cr M.tmps m;rw[F]at k1
  have fj:=cr M.tmps x;rw[I]at fj
  obtain⟨eC,iX,G,c6,X,W,c4,lY⟩:=DL.Si (M.heap.b' s _ hs);refine⟨.bool (decide (q∈ah)),w,C,A,_,?_,M,.bool _,hK⟩;rcases findNow_spec (d:=.string) (k:=.string ⟨⟨q⟩⟩) trivial eC.toList 0 X with⟨h1,z⟩|⟨j,e,h1,z,aa⟩
  ·have:q∉ah:=λh=>by obtain⟨x,F,BQ⟩:=(lY q).1 h;exact z x F BQ
   simp[execOp,k1.fL,fj.kw,Instr.lookup,run_underlying hm,Go.MapKept.run_getObj_map G,run_checkKey N (k:=.string ⟨⟨q⟩⟩) trivial,run_findKey N h1,bz,this,Result.andThen]
  have x':=at2 z;have:q∈ah:=(lY q).2 ⟨e,x',aa⟩;simp[execOp,k1.fL,fj.kw,Instr.lookup,run_underlying hm,Go.MapKept.run_getObj_map G,run_checkKey N (k:=.string ⟨⟨q⟩⟩) trivial,run_findKey N h1,this,Result.andThen,W e x']
theorem c7.Eo{o bI:Obj}(G:w.heap[b]?=some o)(c6:C b=0):c7 (λx=>x=b) w C {w with heap:=w.heap.setIfInBounds b bI} C :=
 ⟨⟨by simp,λ_ _=>atP _,λx i F hi=>by
   have aX:x≠b:=λe=>by subst e;omega
   simp only[World.cell?]
   rw[show(w.heap.setIfInBounds b bI)[x]?=w.heap[x]? from(heap_set G).2 x aX]⟩,rfl,rfl,rfl,λx _ F=>⟨(heap_set G).2 x F,rfl⟩⟩
theorem af.Ep{t:TypeId}{m:Operand}(s:Nat){ah:List atE}{q:atE}(hm:P.underlying t=some (.map dA d9))(N:P.underlying dA=some .string)
  (F:A.a8 m=.an (.map (some b))) (hs:A.H s=some (.set b ah)) (I:A.a8 x=.O q) (hy:A.a8 y=.bool true) (hK:K ((A.b2 s (some (.set b (q::ah)))).put dst .undef)) :
  af P B am A dst (.mapUpdate t m x y) K :=
 .unit λU w C a M type pos after=>by
  have k1:=cr M.tmps m;rw[F]at k1
  have fj:=cr M.tmps x;rw[I]at fj
  have jV:=cr M.tmps y;rw[hy]at jV
  obtain⟨eC,iX,G,c6,X,W,c4,lY⟩:=DL.Si (M.heap.b' s _ hs);have eK:aI.ec (.set b ah) b:=rfl
  have ny:∀oM vh,(∀x∈oM.toList,(∃s,x.key=.string ⟨⟨s⟩⟩)/\x.val=.bool true)->(∀s:atE,s∈q::ah↔∃x∈oM.toList,x.key=.string ⟨⟨s⟩⟩)->
    bG U {w with heap:=w.heap.setIfInBounds b (.map oM vh)} C (A.b2 s (some (.set b (q::ah)))) a:=λoM vh h1 z=>by
   have aZ:=c7.Eo (bI:=.map oM vh) G c6;refine M.b2 aZ (s:=s) (λx F=>ayv) (λbp bI eh aX c4 ao m5=>?_) λV bz=>?_
   ·subst m5;exact M.heap.inj bp s bI _ eh aX c4 hs ao eK
   cases bz
   exact⟨⟨oM,vh,(heap_set G).1,c6,h1,z⟩,λx F=>⟨ayw,.inl F⟩⟩
  rcases findNow_spec (d:=.string) (k:=.string ⟨⟨q⟩⟩) trivial eC.toList 0 X with⟨h1,z⟩|⟨j,e,h1,z,aa⟩
  ·refine⟨_,C,_,?_,ny (eC.push ⟨.string ⟨⟨q⟩⟩,.bool true,iX⟩) (iX+1) (λx F=>?_) (λs=>?_),hK⟩
   ·simp[execOp,k1.fL,fj.kw,jV.h4,Instr.mapUpdate,run_underlying hm,Go.MapKept.run_getObj_map G,run_checkKey N (k:=.string ⟨⟨q⟩⟩) trivial,run_findKey N h1,run_setObj_map _ G,Result.andThen]
   ·rw[Array.toList_push]at F;rcases at1.1 F with F|F
    ·exact⟨c4 x F,W x F⟩
    simp only[auv]at F;subst F;exact⟨⟨q,rfl⟩,rfl⟩
   simp only[Array.toList_push,at1,at6,lY s];constructor
   ·rintro(rfl|⟨x,F,BQ⟩)
    ·exact⟨⟨.string ⟨⟨s⟩⟩,.bool true,iX⟩,.inr (.inl rfl),rfl⟩
    exact⟨x,.inl F,BQ⟩
   rintro⟨x,F|F,BQ⟩
   ·exact .inr ⟨x,F,BQ⟩
   left;simp only[aw5,awB]at F;subst F;injection BQ with h;injection h with h;injection h with h;exact h.symm
  have Z:eC[j]?=some e:=by simpa using z
  have x':=at2 z
  have ya:∀x∈(eC.modify j λe=>{e with key:=.string ⟨⟨q⟩⟩,val:=.bool true}).toList,x∈eC.toList\/(x.key=.string ⟨⟨q⟩⟩/\x.val=.bool true):=λx F=>by
   rcases MapFrom.mem_modify F with F|⟨oI,_,rfl⟩
   ·exact .inl F
   exact .inr ⟨rfl,rfl⟩
  refine⟨_,C,_,?_,ny (eC.modify j λe=>{e with key:=.string ⟨⟨q⟩⟩,val:=.bool true}) iX (λx F=>?_) (λs=>?_),hK⟩
  ·simp[execOp,k1.fL,fj.kw,jV.h4,Instr.mapUpdate,run_underlying hm,Go.MapKept.run_getObj_map G,run_checkKey N (k:=.string ⟨⟨q⟩⟩) trivial,run_findKey N h1,run_setObj_map _ G,Result.andThen,Z,aa,
    run_keyThatStays (d:=.string) (k:=.string ⟨⟨q⟩⟩) trivial]
  ·rcases ya x F with F|⟨aC,a_⟩
   ·exact⟨c4 x F,W x F⟩
   exact⟨⟨q,aC⟩,a_⟩
  have ace:∀i:Nat,((eC.modify j λe=>{e with key:=.string ⟨⟨q⟩⟩,val:=.bool true})[i]?).map MapEntry.key=(eC[i]?).map MapEntry.key:=λi=>by
   rw[av'];by_cases d7:j=i
   ·subst d7;simp[Z,aa]
   simp[d7]
  have rN:∀oM:Array MapEntry,(∃x∈oM.toList,x.key=.string ⟨⟨s⟩⟩)↔∃i:Nat,(oM[i]?).map MapEntry.key=some (.string ⟨⟨s⟩⟩):=λoM=>by
   constructor
   ·rintro⟨x,F,X⟩;obtain⟨i,hi⟩:=aub.1 F;exact⟨i,by rw[<-au',hi];simp[X]⟩
   rintro⟨i,hi⟩
   cases ak:oM[i]? with
   |none=>rw[ak]at hi;cases hi
   |some x=>rw[ak]at hi;simp at hi;exact⟨x,at2 (by rw[au'];exact ak),hi⟩
  rw[rN];simp only[ace];rw[<-rN,<-lY s,at6];constructor
  ·rintro(rfl|h)
   ·exact(lY _).2 ⟨e,x',aa⟩
   exact h
  exact .inr
theorem rO:∀{xs:List D},(∀x∈xs,x.cells=[x])->b1 xs=xs
 |[],_=>rfl
 |x::r,h=>by have h1:=rO (xs:=r) λy hy=>h y (atU _ hy);simp only[b1,auJ]at h1⊢;rw[h1,h x atS];rfl
variable{kY:Nat}{rP:bx}{aP:atE}
theorem af.vi(hT:dg P ay){bH:Nat}(ax:dw ay oH=some ca)(b5:ca.kind=.slice bH)(fu:dw ay bH=some aF)(l2:aF.kind=.int .u8)
  (N:dw ay kY=some rP) (pb:rP.kind=.O) (F:A.a8 x=.Q tg 1 (aP.map λc=>.int .u8 c.toNat)) (hK:K (A.put dst (.O aP))):af P B am A dst (.convert oH kY x) K :=
 .val λU w C a M type pos after=>by
  obtain⟨c1,rfl⟩:=hT.get ax;obtain⟨fs,rfl⟩:=hT.get fu;obtain⟨zY,rfl⟩:=hT.get N;have W:=cr M.tmps x;rw[F]at W
  refine⟨.string ⟨⟨aP⟩⟩,w,C,A,_,?_,M,.O _,hK⟩;rcases W.kz with⟨h1,⟨a0,dM⟩,_⟩|⟨b,o,cap,g,W,_,_,hc,_,X,_,gd,_,eO⟩
  ·have:aP=[]:=by simpa using h1
   subst this
   cases a0 with
   |none =>
    have:=run_convert_bytes_string (P:=P) w ca.t rP.t aF.t none 0 0 (c1.ky b5) (fs.sH l2) (zY.pV pb);simp only[execOp,dM,Sem.run_bind,this];rfl
   |some dF =>
    have:=run_convert_bytes_back (P:=P) w ca.t rP.t aF.t dF 0 [] (c1.ky b5) (fs.sH l2) (zY.pV pb) (λj Z=>by simp at Z);simp only[auf]at this;simp only[execOp,dM,Sem.run_bind,this,Result.andThen_ok,Sem.run_pure]
  have hlen:(aP.map λc=>D.int .u8 c.toNat).length=aP.length:=by simp
  rw[hlen]at W
  have du:b1 (aP.map λc=>D.int .u8 c.toNat)=aP.map λc=>D.int .u8 c.toNat:=by
   exact rO λy hy=>by obtain⟨c,_,rfl⟩:=at3.1 hy;rfl
  have:=run_convert_bytes_back (P:=P) w ca.t rP.t aF.t ⟨b,o,none⟩ cap aP (c1.ky b5) (fs.sH l2) (zY.pV pb) (λj Z=>by
   have N:(b1 (aP.map λc=>D.int .u8 c.toNat))[j]?=some (.int .u8 (aP[j].toNat:Int)):=by rw[du];simp[Z]
   have h1:=gd j _ N;rw[(eO j _ N).fr]at h1
   simpa[o5]using h1)
  simp only[execOp,W,Sem.run_bind,this,Result.andThen_ok,Sem.run_pure]
theorem af.acf(hT:dg P ay){bH:Nat}(ax:dw ay oH=some ca)(b5:ca.kind=.O)(N:dw ay kY=some rP)(pb:rP.kind=.slice bH)
  (fu:dw ay bH=some aF) (l2:aF.kind=.int .i32) (F:A.a8 x=.O aP) (hlen:aP.length<=70368744177664)
  (hK:∀(bQ:Option Addr) (cap:Nat),K ((A.b2 s (some (.row (.slice bQ (ik aP).length cap) ((ik aP).map (D.int .i32)) 1 bH))).put (some s) (.an (.slice bQ (ik aP).length cap)))):af P B am A (some s) (.convert oH kY x) K :=
 .val λU w C a M type pos after=>by
  obtain⟨c1,rfl⟩:=hT.get ax;obtain⟨zY,rfl⟩:=hT.get N;obtain⟨fs,rfl⟩:=hT.get fu;have W:=cr M.tmps x;rw[F]at W
  have hsz:=size_runesFrom ⟨⟨aP⟩⟩ aP.length 0 #[];have i6:(⟨⟨aP⟩⟩:ByteArray).size=aP.length:=rfl;have cU:=run_runes_of_string (P:=P) w ca.t rP.t aF.t ⟨⟨aP⟩⟩ (c1.pV b5) (zY.ky pb) (fs.sH l2) (by rw[i6];simp at hsz;omega);rw[i6]at cU;have D1:=LC ⟨⟨aP⟩⟩ aP.length 0 #[]
  have tM:(Conv.runesFrom ⟨⟨aP⟩⟩ aP.length 0 #[]).size=(ik aP).length:=by
   rw[<-avy,D1];simp[ik]
  have io:=grownCap_ge w (Conv.runesFrom ⟨⟨aP⟩⟩ aP.length 0 #[]).size 0 aF.t;have BR:=grownCap_le_maxLen w (Conv.runesFrom ⟨⟨aP⟩⟩ aP.length 0 #[]).size 0 aF.t (by simp at hsz;unfold maxLen;omega);have m9:bG U w.drew C A a:=M.tQ (c7.drew _ w C);have Er:((ik aP).map (D.int .i32)).length=(Conv.runesFrom ⟨⟨aP⟩⟩ aP.length 0 #[]).size:=by rw[tM];simp
  refine⟨_,_,_,_,_,?_,m9.newObj s (mA:=.row (.slice (some ⟨w.heap.size,0,none⟩) (ik aP).length (grownCap w (Conv.runesFrom ⟨⟨aP⟩⟩ aP.length 0 #[]).size 0 aF.t)) ((ik aP).map (D.int .i32)) 1 aF.t)
   (o:=.cells (Conv.runesFrom ⟨⟨aP⟩⟩ aP.length 0 #[]++Array.replicate (grownCap w (Conv.runesFrom ⟨⟨aP⟩⟩ aP.length 0 #[]).size 0 aF.t-(Conv.runesFrom ⟨⟨aP⟩⟩ aP.length 0 #[]).size) (.int .i32 0)) aF.t) ?_ ?_,.an _,hK _ _⟩
  ·simp only[execOp,W.kw,Sem.run_bind,cU,Result.andThen_ok,Sem.run_pure];rw[tM]
  ·refine⟨_,_,by rw[Er,tM],by rw[Er];exact io,BR,λx F=>by obtain⟨n,_,rfl⟩:=at3.1 F;rfl,λdF gg=>⟨_,by cases gg;rfl,hR (kB w.drew _)⟩,
    λ_=>⟨w.heap.size,_,rfl,kB w.drew _,by simp;omega,ht _ _ _,λj d N=>?_⟩⟩
   rw[Ho,aud,auQ]at N;obtain⟨n,av,rfl⟩:=N;refine⟨.int .i32 n,?_,.int _ _,rfl⟩;have Z:j<(ik aP).length:=(aui.1 av).1;rw[<-au',avQ,D1];simp only[au4];rw[atZ (by simpa[ik]using Z),aud];have:(sG ⟨⟨aP⟩⟩ aP.length 0)[j]?=some n:=av;rw[this];rfl
  rintro b ⟨h5,cap,h,_⟩;exact pa h
theorem af.acg{t:TypeId}(ax:P.underlying t=some .string)(F:A.a8 x=.O aP)
  (hK:∀b,K ((A.b2 s (some (.b' b (.stringIter ⟨⟨aP⟩⟩ 0)))).put (some s) (.an (.pointer (some ⟨b,0,none⟩))))):af P B am A (some s) (.range t x) K :=
 .val λU w C a M type pos after=>by
  have W:=cr M.tmps x;rw[F]at W
  refine⟨_,_,_,_,_,?_,M.newObj s (mA:=.b' w.heap.size (.stringIter ⟨⟨aP⟩⟩ 0)) (o:=.stringIter ⟨⟨aP⟩⟩ 0) ?_ ?_,.an _,hK _⟩
  ·simp only[execOp,W.kw,Sem.run_bind,run_range_string w t ⟨⟨aP⟩⟩ ax,Result.andThen_ok,Sem.run_pure];rfl
  ·exact⟨kB w _,ht _ _ _⟩
  intro b G;exact G
theorem af.ach(s:Nat){pos:Nat}(F:A.a8 x=.an (.pointer (some ⟨b,0,none⟩)))(hs:A.H s=some (.b' b (.stringIter ⟨⟨aP⟩⟩ pos)))
  (h1:pos<aP.length->K ((A.b2 s (some (.b' b (.stringIter ⟨⟨aP⟩⟩ (pos+(Utf8.decode ⟨⟨aP⟩⟩ pos).2))))).put dst (.bl [.bool true,.int .i64 pos,.int .i32 ((Utf8.decode ⟨⟨aP⟩⟩ pos).1:Nat)])))
  (z:¬pos<aP.length->K (A.put dst (.bl [.bool false]))):af P B am A dst (.next x true) K :=
 .val λU w C a M type arp after=>by
  have W:=cr M.tmps x;rw[F]at W
  have aci:=M.heap.b' s _ hs;obtain⟨G,c6⟩:=aci;have i6:(⟨⟨aP⟩⟩:ByteArray).size=aP.length:=rfl;by_cases au:pos<aP.length
  ·have aZ:c7 (λx=>x=b) w C {w with heap:=w.heap.setIfInBounds b (.stringIter ⟨⟨aP⟩⟩ (pos+(Utf8.decode ⟨⟨aP⟩⟩ pos).2))} C:=c7.Eo G c6
   refine⟨.tuple #[.bool true,.int .i64 pos,.int .i32 ((Utf8.decode ⟨⟨aP⟩⟩ pos).1:Nat)],_,C,_,_,?_,M.b2 aZ (λx F=>by subst F;exact M.heap.cJ s _ _ hs rfl)
    (λbp o eh aX ag ao qN=>by subst qN;exact M.heap.inj s bp _ o _ (Ne.symm aX) hs ag rfl ao) (s:=s) (o:=some (.b' b (.stringIter ⟨⟨aP⟩⟩ (pos+(Utf8.decode ⟨⟨aP⟩⟩ pos).2)))) (λx F=>?_),?_,h1 au⟩
   ·simp only[execOp,W.fL,Sem.run_bind]
    have:(Instr.next (.pointer (some ⟨b,0,none⟩)) true type).run P w=.ok (.tuple #[.bool true,.int .i64 pos,.int .i32 ((Utf8.decode ⟨⟨aP⟩⟩ pos).1:Nat)]) {w with heap:=w.heap.setIfInBounds b (.stringIter ⟨⟨aP⟩⟩ (pos+(Utf8.decode ⟨⟨aP⟩⟩ pos).2))}:=by
     simp[Instr.next,getObj,setObj,Sem.run_bind,Sem.run,G,Result.andThen,i6,au,goInt]
    rw[this];rfl
   ·cases F
    refine⟨⟨by simp[hR G],c6⟩,λx F=>?_⟩;cases F
    exact⟨M.heap.cJ s _ _ hs rfl,.inl rfl⟩
   exact .bl _ _ rfl λi d v N W=>by
    match i with
    |0=>cases N;cases W;exact .bool _
    |1=>cases N;cases W;exact .int _ _
    |2=>cases N;cases W;exact .int _ _
    |i+3=>simp at N
  refine⟨.tuple #[.bool false],w,C,A,_,?_,M,?_,z au⟩
  ·simp only[execOp,W.fL,Sem.run_bind]
   have:(Instr.next (.pointer (some ⟨b,0,none⟩)) true type).run P w=.ok (.tuple #[.bool false]) w:=by
    simp[Instr.next,getObj,Sem.run_bind,Sem.run,G,Result.andThen,i6,au]
   rw[this];rfl
  exact .bl _ _ rfl λi d v N W=>by
   match i with
   |0=>cases N;cases W;exact .bool _
   |i+1=>simp at N
variable{K:cK->aw->Prop}
def BS:aI:=.own (.slice none 0 0) 0 0 0
theorem acj(b:Nat):¬BS.ec b:=by rintro⟨o,cap,h,z⟩;exact ayl
theorem Y.BS(s:Nat){c:Code}(h:Y U c (A.b2 s (some Go.bS.BS)) K):Y U c A K :=
 ⟨λa w C M=>h.run a w C (M.b2 (Ft:=λ_=>False) (.refl _ _ _) (λ_ M=>M.elim) (λ_ _ _ _ _ _ M=>M) (λx F=>by
  cases F
  exact⟨⟨none,0,rfl,atP _,at7 _,λh=>absurd h atx⟩,λb G=>absurd G (acj b)⟩))⟩
theorem Y.tW(s k e:Nat)(h:Y U c (A.b2 s (some (.own (.slice none 0 0) 0 k e))) K):Y U c A K :=
 ⟨λa w C M=>h.run a w C (M.b2 (Ft:=λ_=>False) (.refl _ _ _) (λ_ M=>M.elim) (λ_ _ _ _ _ _ M=>M) (λx F=>by
  cases F
  exact⟨⟨none,0,rfl,atP _,at7 _,λh=>absurd h atx⟩,λb G=>by obtain⟨o,cap,h,z⟩:=G;exact ayl⟩))⟩
theorem aq.vj:aq .bh (.Q (.own s (.slice none 0 0)) k []):=⟨λw C aj h=>by rw[h.xX];exact .jr _ _ none rfl⟩
theorem aq.fn{f:Fn}{a bv b eh:List D}(h:dL a bv)(bq:dL b eh):aq (.fn f a b) (.fn f bv eh) :=
 ⟨λw C v ae=>by
  obtain⟨fK,hp,rfl,h1,z⟩:=ae.u9;have aa:=h.rH h1;have aC:=bq.rH z
  exact .fn f bv eh fK hp aa.1 aC.1 aa.2 aC.2⟩
theorem aq.agg{a bv:List D}(h:dL a bv):aq (.agg a) (.agg bv) :=
 ⟨λw C v ae=>by
  obtain⟨vs,rfl,h1⟩:=ae.sD;have aa:=h.rH h1
  exact .agg bv vs aa.1 aa.2⟩
theorem aq.trans{a b c:D}(h:aq a b)(bq:aq b c):aq a c:=⟨λ_ _ _ ae=>bq.le _ _ _ (h.le _ _ _ ae)⟩
theorem aq.dU{t:iD}:aq (.Q t k xs) (.Q .none k xs):=aq.js _
theorem dp{k:IntKind}{a b:Int}(h:a=b):aq (.int k a) (.int k b):=aq.of_eq (by rw[h])
variable{rt:TypeId}
theorem af.Ma{K:aw->Prop}{ay:List bx}(hT:dg P ay){bH:Nat}(F:A.a8 x=.Q tg k xs)(ax:dw ay t=some ca)(b5:ca.kind=.slice bH)
  (hK:∀b:Bool,(b=true->xs=[])->K (A.put dst (.bool b))):af P B am A dst (.binOp .eql t x (.const (.slice none 0 0)) rt) K :=
 .val λU w C a M type pos after=>by
  obtain⟨c1,rfl⟩:=hT.get ax;have ao:=c1.ky b5;have W:=cr M.tmps x;rw[F]at W
  have key:∃dF l c,a.eval x=.slice dF l c/\(dF.isNone=true->xs=[]):=by
   rcases W.kz with⟨h1,⟨a0,z⟩,_⟩|⟨b,o,cap,g,z,_⟩
   ·exact⟨a0,0,0,z,λ_=>h1⟩
   exact⟨_,_,_,z,λh=>by cases h⟩
  obtain⟨dF,l,c,z,aa⟩:=key;refine⟨.bool dF.isNone,w,C,A,_,?_,M,.bool _,hK _ aa⟩;have aC:=zG (P:=P) .eql ca.t x (.const (.slice none 0 0)) (.slice dF l c) (.slice none 0 0) w atx atx;have a_:=run_equal_slice_nil (P:=P) w ca.t bH dF l c ao
  have cC:(binOp .eql ca.t (.slice dF l c) (.slice none 0 0)).run P w=.ok (.bool dF.isNone) w:=by
   simp only[binOp];simp[a_]
  have eV:a.eval (.const (.slice none 0 0))=.slice none 0 0:=rfl;simp only[execOp,z,eV,Sem.run_bind,aC,cC,Result.andThen_ok,Sem.run_pure]
theorem ack(h:bG U w C A a){e:bx}(ak:e.gk P)(kA:aF.gk P)(b5:e.kind=.slice aF.t)(bz:aF.zero≠none){vs bR:Value}(wJ:bf w C (.Q n7 aF.aB a') bR)(mx:(xs.length+a'.length)*aF.bytes<=140737488355328)(oK:xs.length+a'.length<=9223372036854775807)(h0:0<a'.length){q dst:Nat}(hH:A.H q=some (.row vs xs aF.aB aF.t)): ∃v w' aO,(Builtin.append_ #[e.t,e.t] kD #[vs,bR]).run P w=.ok v w'/\bG U w' aO ((A.b2 q none).b2 dst (some (.row v (xs++a') aF.aB aF.t))) a:=by have ao:=ak.ky b5;obtain⟨i,hi,hsz,o8,nw⟩:=kA.qF;obtain⟨V,bz⟩:=awG.1 bz;obtain⟨ei,lX,mt,jR⟩:=nw V bz;(have D6:ei.cells.size=aF.aB:=by have:=(jR w C).1;rw[mt]at this;simpa using this.symm);have M:=h.drop q;(have hlen:(xs++a').length=xs.length+a'.length:=by simp);obtain⟨bQ,cap,fM,hcap,BE,p2,_,cG⟩:=h.heap.b' q _ hH;(have hy:∃dF sL,bR=.slice (some dF) a'.length sL:=by rcases wJ.kz with⟨rfl,_,_⟩|⟨b,o,cap,g,W,_⟩;simp at h0;exact⟨_,_,W⟩);obtain⟨dF,sL,fj⟩:=hy;subst fj;obtain⟨ft,jS,x4,x5,rL,BG⟩:=LO wJ;(have wK:ft.length=a'.length*i.size:=by rw[jS,hsz]);(have Es:∀x∈xs++a',x.cells.length=aF.aB:=λx F=>ax5);have du:=pP p2;(have fresh:∀(k0:List Value) (hD:Nat),k0.length=xs.length*aF.aB->(∀(j:Nat) d,(b1 xs)[j]?=some d->∃aj,k0[j]?=some aj/\bf w C d aj/\aj.oneCell'=true)->∀v,v=.slice (some ⟨w.heap.size,0,none⟩) (xs.length+a'.length) (grownCap w (xs.length+a'.length) hD aF.t)->∀w',w'=w.drew.alloc (.cells (k0.toArray++ft.toArray++Builtin.zeroCells ei.cells (grownCap w (xs.length+a'.length) hD aF.t-(xs.length+a'.length))) aF.t)->∃aO,bG U w' aO ((A.b2 q none).b2 dst (some (.row v (xs++a') aF.aB aF.t))) a:=axc);subst fM;by_cases hS:0<cap;obtain⟨b,fx,rfl,G,hcs,Ht,my⟩:=cG hS;have eK:aI.ec (.row (.slice (some ⟨b,0,none⟩) xs.length cap) xs aF.aB aF.t) b:=⟨_,cap,rfl,hS⟩;(have acl:xs.length*aF.aB<=fx.size:=by rw[hcs];exact avh _ hcap);by_cases sM:xs.length+a'.length<=cap;(have g5:xs.length*i.size+ft.length<=fx.size:=by rw[hsz,jS,hcs,<-awH];exact avh _ sM);have ae:=run_append_room (P:=P) w e.t kD aF.t i ao hi b xs.length cap fx G dF a'.length sL ft wK x4 rL sM g5;rw[hsz]at ae g5;have aZ:=c7.setRow (C:=C) (n:=0) G (aA:=(fx.toList.take (xs.length*aF.aB)++ft++fx.toList.drop (xs.length*aF.aB+ft.length)).toArray) atv (λo ag=>by omega);refine⟨_,_,_,ae,M.b2 aZ (λx F=>ayu) (λbp o eh aX c4 cS qN=>?_) λx F=>?_⟩;subst qN;by_cases I:bp=q;subst I;rw[qK]at c4;cases c4;rw[mw A none I]at c4;exact h.heap.inj bp q o _ eh I c4 hH cS eK;cases F;refine⟨⟨_,cap,by rw[hlen],by rw[hlen];exact sM,BE,Es,λdF gg=>⟨b,by cases gg;rfl,auy (hR G) aZ.ext.size⟩,λ_=>⟨b,_,rfl,setRow_heap w b fx _ aF.t _ G,?_,ht _ _ _,λj d N=>?_⟩⟩,λx F=>?_⟩;simp only[auH,atO,at4,auS,avy];omega;rw[x1,p1]at N;rw[avz];split at N;obtain⟨aj,ao,ae,ag⟩:=my j d N;refine⟨aj,?_,ae.ext aZ.ext,ag⟩;rw[p0 _ _ _ atw,atG atv];simpa using ao;obtain⟨aj,ao,ae,ag⟩:=x5 _ d N;refine⟨aj,?_,ae.ext aZ.ext,ag⟩;have:=e8 ao;rw[p0 _ _ _ atw,atH ⟨by omega,by omega,by simp;omega⟩,<-du];exact ao;obtain⟨h5,h6,dM,_⟩:=F;simp only[Value.slice.injEq,aus,Addr.mk.injEq]at dM;obtain⟨⟨rfl,_⟩,_⟩:=dM;exact⟨h.heap.cJ q _ _ hH eK,.inl rfl⟩;(have BH:∀(j:Nat) aj,(fx.toList.take (xs.length*aF.aB))[j]?=some aj->w.cell? ((⟨b,0,none⟩:Addr).add j)=some aj:=λj aj Z=>axN);have ae:=run_append_grow (P:=P) w e.t kD aF.t i ei ao hi lX ⟨b,0,none⟩ xs.length cap (fx.toList.take (xs.length*aF.aB)) (by rw[hsz];simp;omega) BH dF a'.length sL ft wK x4 atv atv (ayx);obtain⟨aO,h1⟩:=fresh (fx.toList.take (xs.length*aF.aB)) cap atw (λj d N=>axH) _ rfl _ rfl;exact⟨_,_,aO,ae,h1⟩;have F:xs=[]:=atY atv;subst F;(have Mb:cap=0:=by omega);subst Mb;cases bQ with|none =>simp only[auf,aut]at mx oK fresh;have ae:=run_append_nil (P:=P) w e.t kD aF.t i ei ao hi lX dF a'.length sL ft wK x4 atv atv (by rw[o8];omega);obtain⟨aO,z⟩:=fresh [] 0 atx (λj d N=>by simp[b1]at N) _ rfl _ rfl;exact⟨_,_,aO,ae,by simpa using z⟩|some zR =>have ae:=run_append_grow (P:=P) w e.t kD aF.t i ei ao hi lX zR 0 0 [] atx (λj aj Z=>by simp at Z) dF a'.length sL ft wK x4 atv atv (ax8);obtain⟨aO,z⟩:=fresh [] 0 atx (λj d N=>by simp[b1]at N) _ rfl _ rfl;exact⟨_,_,aO,ae,by simpa using z⟩
variable{K:aw->Prop}
theorem af.pc(hT:dg P ay){bH:Nat}(q:Nat)(ax:dw ay t=some ca)(b5:ca.kind=.slice bH)(fu:dw ay bH=some aF)(bz:aF.zero≠none)
  (F:A.a8 x=.an v) (hH:A.H q=some (.row v xs aF.aB bH)) (hy:A.a8 y=.Q tg aF.aB a') (h0:0<a'.length) (mx:(xs.length+a'.length)*aF.bytes<=140737488355328) (oK:xs.length+a'.length<=9223372036854775807)
  (hK:∀(bQ:Option Addr) (n cap:Nat),K (((A.b2 q none).b2 s (some (.row (.slice bQ n cap) (xs++a') aF.aB bH))).put (some s) (.an (.slice bQ n cap)))):af P B am A (some s) (.call ⟨.builtin .append,#[x,y],#[t,t]⟩) K :=
 .val λU w C a M type pos after=>by
  obtain⟨c1,rfl⟩:=hT.get ax;obtain⟨fs,rfl⟩:=hT.get fu;have fj:=cr M.tmps x;rw[F]at fj
  have jV:=cr M.tmps y;rw[hy]at jV
  obtain⟨c',w',aO,cU,fW⟩:=ack M c1 fs b5 bz jV mx oK h0 (dst:=s) (kD:=type) hH;rw[<-fj.fL]at cU;obtain⟨bQ,cap,rfl,_⟩:=fW.heap.b' s _ (qK _ _ _);refine⟨_,w',aO,_,_,?_,fW,.an _,hK bQ _ cap⟩;simp[execOp,resolve,invoke,builtin,cU]
theorem Y.qR{K:cK->aw->Prop}(s k e:Nat)(h:Y U c (A.b2 s (some (.row (.slice none 0 0) [] k e))) K):Y U c A K :=
 ⟨λa w C M=>h.run a w C (M.b2 (Ft:=λ_=>False) (.refl _ _ _) (λ_ M=>M.elim) (λ_ _ _ _ _ _ M=>M) (λx F=>by
  cases F
  exact⟨⟨none,0,rfl,atP _,at7 _,λx F=>(by cases F),λdF gg=>(by cases gg),λh=>absurd h atx⟩,λb G=>by obtain⟨n,cap,h,z⟩:=G;exact ayl⟩))⟩
theorem aq.rQ:aq .bh (.an (.slice none 0 0)):=⟨λ_ _ _ h=>by rw[h.xX];exact .an _⟩
def ej(bd:Array Bool):Nat->Bool:=λi=>bd.getD i false
def hF(f:Nat->Bool)(i:Nat):Nat->Bool:=λj=>cond (Nat.beq j i) true (f j)
def wP(g:Nat->Bool):List Edge->Nat->Bool
 |[]=>g
 |e::r=>cond (Region.binds .any e) (hF (wP g r) e.on) (wP g r)
def acm(P:Program)(B:World)(ay:List bx)(l:(Nat->Bool)->List (Nat×D))(hs:(Nat->Bool)->List (Nat×aI)):List Oper->Nat->Prop
 |[],_=>True
 |o::r,i=>(∀g,n1 P B ay (hq (l (wP g o.after.toList)) (hs (wP g o.after.toList))) o.dst o.op λaz=>jP az (l (hF (wP g o.after.toList) i))/\m2 az (hs (hF (wP g o.after.toList) i)))/\acm P B ay l hs r (i+1)
def BT(am:Nat):List Oper->Nat->Bool
 |[],_=>true
 |o::r,i=>o.guard.isNone&&iY am o.dst&&(o.after.toList.all λe=>!Region.binds .any e||Nat.blt e.on i)&&BT am r (i+1)
theorem Sj{l:List Oper}:∀{n:Nat},BT am l n=true->∀{i:Nat} {o:Oper},l[i]?=some o->o.guard=none/\iY am o.dst=true/\∀e∈o.after.toList,Region.binds .any e=true->e.on<n+i:=by induction l with|nil=>intro n _ i o h;simp at h|cons x r aY =>intro n h i o ag;simp only[BT,atM]at h;obtain⟨⟨⟨h1,z⟩,aa⟩,aC⟩:=h;(cases i with|zero =>simp at ag;subst ag;refine⟨by simpa using h1,z,λe ak G=>?_⟩;have:=auC.1 aa e ak;rw[G]at this;(have:=by simpa using this);omega|succ i =>have:=aY aC (i:=i) (o:=o) (by simpa using ag);refine⟨this.1,this.2.1,λe ak G=>?_⟩;have:=this.2.2 e ak G;omega)
theorem acn{f:Nat->Bool}(h:f i=true):hF f i=f:=by funext j;simp only[hF];cases G:Nat.beq j i with|true=>have:=aua G;subst this;exact h.symm|false=>rfl
theorem Mc{f:Nat->Bool}:∀{l:List Edge},(∀e∈l,Region.binds .any e=true->f e.on=true)->wP f l=f
 |[],_=>rfl
 |e::r,au=>by simp only[wP];rw[Mc (l:=r) λe ak=>au e (atU _ ak)];cases G:Region.binds .any e with|true=>exact acn (au e atS G)|false=>rfl
variable{bd:Array Bool}
theorem Et(h:i<bd.size):ej (bd.setIfInBounds i true)=hF (ej bd) i:=by funext j;simp only[ej,hF];cases G:Nat.beq j i with|true =>have:=aua G;subst this;simp[h]|false =>(have:i≠j:=λe=>by subst e;simp at G);simp[awi this]
theorem BU{md:Region.Mode}(h:i∈Region.ready md ops bd): ∃o,ops[i]?=some o/\i<ops.size/\bd.getD i true=false/\∀e∈o.after.toList,Region.binds md e=true->bd.getD e.on false=true:=by simp only[Region.ready,auz,auY,atM,avZ]at h;obtain⟨h1,z,aa⟩:=h;have ag:ops[i]?=some ops[i]:=avd h1;refine⟨ops[i],ag,h1,z,λe ak G=>?_⟩;rw[ag]at aa;simp only[au8,auI]at aa;have:=Array.all_eq_true'.1 aa e (by simpa using ak);simpa[G]using this
theorem aco(au:BT am ops.toList 0=true)(hsz:bd.size=ops.size): ∀(n i:Nat),n=i->i<ops.size->bd.getD i true=false->Region.ready .any ops bd≠[]:=by intro n;induction n using Nat.strongRecOn with|_ n aY =>intro i av hi al;subst av;have ag:ops[n]?=some ops[n]:=avd hi;have dd:=Sj au (i:=n) (o:=ops[n]) (by simpa using ag);by_cases ae:∀e∈ops[n].after.toList,Region.binds Region.Mode.any e=true->bd.getD e.on false=true;intro ak;(have:n∈Region.ready Region.Mode.any ops bd:=axl);rw[ak]at this;cases this;simp only[Classical.not_forall]at ae;obtain⟨e,ak,G,aX⟩:=ae;have bi:=dd.2.2 e ak G;simp only[aut]at bi;refine aY e.on bi e.on rfl atv ?_;(have BV:e.on<bd.size:=by omega);simp only[Array.getD,BV,avv]at aX⊢;simpa using aX
variable{K:cK->aw->Prop}{dt:List D}
theorem bG.HB(h:bG U w C A a)(s:Nat)(hs:A.H s=some (.box b aA))
  (dV:∀dh,db w C aA dh->db w C dt dh):bG U w C (A.b2 s (some (.box b dt))) a :=
 h.b2 (Ft:=λx=>x=b) (.refl _ _ _) (λx F=>by subst F;exact h.heap.cJ s _ x hs rfl)
  (λbp o x aX ag ao F=>by subst F;exact h.heap.inj s bp _ o x (Ne.symm aX) hs ag rfl ao)
  (λx F=>by
   cases F
   obtain⟨vs,e,h1,z,aa⟩:=h.heap.b' s _ hs
   exact⟨⟨vs,e,h1,dV _ z,aa⟩,λx F=>⟨by cases F;exact h.heap.cJ s _ _ hs rfl,.inl F⟩⟩)
theorem Y.jx(s:Nat)(hs:A.H s=some (.box b aA))(dV:dL aA dt)(h:Y U c (A.b2 s (some (.box b dt))) K):Y U c A K :=
 ⟨λa w C M=>h.run a w C (M.HB s hs λ_ ae=>dV.rH ae)⟩
theorem Y.acp(s j:Nat){q:Nat}(hs:A.H s=some (.box b aA))(Z:A.t j=.Q (.own q v) k xs)
  (dV:∀w C,bf w C (.Q .none k xs) v->∀dh,db w C aA dh->db w C dt dh) (h:Y U c (A.b2 s (some (.box b dt))) K):Y U c A K :=
 ⟨λa w C M=>h.run a w C (M.HB s hs λdh ae=>dV w C (by
  have h1:=M.tmps j;rw[Z]at h1;generalize a.tmps.getD j undef=aj at h1
  have z:aj=v:=by
   cases h1 with
   |jr t k a ax=>exact ax
   |Q t k xs b o cap g ax=>exact ax
  rw[z]at h1
  exact h1.js) dh ae)⟩
theorem db.cell(h:db w C aA dh)(N:∀aj,dh[i]?=some aj->bf w C d aj):db w C (iF aA i d) dh:=by(have key:∀(aA:List D) (i:Nat),(iF aA i d).length=aA.length/\∀j,(iF aA i d)[j]?=if j=i/\i<aA.length then some d else aA[j]?:=by intro aA;induction aA with|nil=>intro i;simp[iF]|cons c r aY =>intro i;(cases i with|zero =>refine⟨rfl,λj=>?_⟩;(cases j with|zero=>simp[iF]|succ j=>simp[iF])|succ i =>refine⟨by simp[iF,(aY i).1],λj=>?_⟩;(cases j with|zero=>simp[iF]|succ j=>simp[iF,(aY i).2 j])));refine⟨by rw[(key aA i).1,h.1],λj d' v Z W=>?_⟩;rw[(key aA i).2]at Z;split at Z;rename_i fc;cases Z;obtain⟨rfl,_⟩:=fc;exact N v W;exact h.2 j d' v Z W
theorem db.Sk(h:db w C aA dh)(hc:aA[i]?=some (.an v))(ao:dh[i]?=some aj):aj=v:=(h.2 i _ aj hc ao).fL
theorem Y.acq(s j:Nat){r:List (Nat×D)}(pd:aK hs s=none)(h:Y U c (hq ((j,.Q (.own s v) k xs)::r) hs) K):Y U c (hq ((j,.an v)::r) ((s,.row v xs k e)::hs)) K:=by have n':Nat.beq s s=true:=au7 s;refine Y.commit s (v:=v) (xs:=xs) (k:=k) (e:=e) (by simp only[hq,aK,n',avo]) (hq ((j,.Q (.own s v) k xs)::r) hs) (λw C ae i aj hi=>?_) (λi o ag=>?_) h;simp only[hq,aK]at hi⊢;(cases G:Nat.beq i j with|true =>rw[G]at hi;simp only[avo,auI]at hi⊢;rw[hi.fL];exact ae|false=>rw[G]at hi;simpa using hi);refine .inr ⟨λe=>?_,?_⟩;subst e;simp only[hq]at ag;rw[pd]at ag;cases ag;simp only[hq,aK]at ag⊢;cases G:Nat.beq i s with|true =>have:=aua G;subst this;rw[pd]at ag;cases ag|false=>simpa using ag
open Go.ChangeShapes Go.Deep
variable{H:Type}{enc:TypeId×Value->H}{bo:World}
def tX(w:World):Nat->Nat:=λb=>match w.heap[b]? with
 |some (.cells vs _ _)=>vs.size
 |_=>0
theorem Sl{a:Addr}(h:w.cell? a=some v):a.spot=none/\a.block<w.heap.size/\a.off<tX w a.block:=by unfold World.cell? at h;unfold tX;split at h;rename_i c _ _ G;rw[G];split at h;cases h;rename_i hs;refine⟨by cases c4:a.spot<;>simp_all,hR G,?_⟩;exact(avu.1 h).1;cases h
def e0(enc:TypeId×Value->H)(P:Program)(bo:World)(n:Nat)(t:TypeId)(e:α->D)(wQ:α->DataW H->Prop):Prop :=
 ∀aA x,DataW.trod enc P bo 0 (λ_=>true) true n t aA=some x->∃a,db bo (tX bo) (e a).cells aA/\wQ a x.1
theorem e0.int{n:Nat}{t:TypeId}{k:IntKind}(ax:P.underlying t=some (.int k)):e0 enc P bo n t (λi:Int=>.int k i) (λi d=>d=.lit (.int k i)/\(Lit.int k i).wf=true):=by intro aA x h;obtain⟨i,rfl,rfl,cG⟩:=DataW.trod_int ax h;exact⟨i,.cons (.int _ _) (.nil _ _),rfl,cG⟩
theorem e0.bool{n:Nat}{t:TypeId}(ax:P.underlying t=some .bool):e0 enc P bo n t (λi:Bool=>.bool i) (λi d=>d=.lit (.bool i)):=by intro aA x h;obtain⟨i,rfl,rfl⟩:=DataW.trod_bool ax h;exact⟨i,.cons (.bool _) (.nil _ _),rfl⟩
theorem e0.O{n:Nat}{t:TypeId}(ax:P.underlying t=some .string):e0 enc P bo n t (λs:atE=>.O s) (λs d=>d=.lit (.string s)/\s.length<=maxLen):=by intro aA x h;obtain⟨s,rfl,rfl,hs⟩:=DataW.trod_string ax h;obtain⟨⟨l⟩⟩:=s;exact⟨l,.cons (.O l) (.nil _ _),rfl,hs⟩
theorem Sm{α:Type}{a6:Nat->α->Prop}:∀n,(∀i,i<n->∃a,a6 i a)->∃l:List α,l.length=n/\∀i a,l[i]?=some a->a6 i a
 |0,_=>⟨[],rfl,λi a h=>by simp at h⟩
 |n+1,h=>by obtain⟨l,al,I⟩:=Sm n (λi hi=>h i atv);obtain⟨a,ha⟩:=h n atv;refine⟨l++[a],by simp[al],λi b G=>?_⟩;rw[axa]at G;split at G;exact I i b G;rename_i hi;(have:i-l.length=0:=by have:=(aui.1 G).1;simp at this;omega);rw[this]at G;simp at G;subst G;(have:i=n:=by omega);subst this;exact ha
theorem Sn{k:Nat}(h0:0<k):∀{xs:List D} (_:∀x∈xs,x.cells.length=k) {j:Nat} {d:D},(b1 xs)[j]?=some d->∃x,xs[j/k]?=some x/\x.cells[j%k]?=some d
 |[],_,j,d,h=>by simp[b1]at h
 |x::r,X,j,d,h=>by have F:=X x atS;(have e:b1 (x::r)=x.cells++b1 r:=by simp[b1]);rw[e,axa,F]at h;split at h;rename_i Z;exact⟨x,by rw[Nat.div_eq_of_lt Z];rfl,by rw[Nat.mod_eq_of_lt Z];exact h⟩;rename_i Z;obtain⟨y,h1,z⟩:=Sn h0 (xs:=r) (λy hy=>X y (atU _ hy)) h;(have gl:j=(j-k)+k:=by omega);refine⟨y,?_,?_⟩;rw[gl,Nat.add_div_right _ h0];simpa using h1;rw[gl,Nat.add_mod_right];exact z
def So(wQ:α->DataW H->Prop)(l:List α)(d:DataW H):Prop :=
 (l=[]/\d=.nil)\/∃ds p4,d=.slice ds p4/\ds.length=l.length/\∀(i:Nat) a y,l[i]?=some a->ds[i]?=some y->wQ a y
theorem e0.slice{t e:TypeId}{k:Nat}{α:Type}{f:α->D}{wQ:α->DataW H->Prop}(ax:P.underlying t=some (.slice e))(c6:P.cellsOf e=k)(X:0<k)
  (M:∀a,(f a).cells.length=k/\(f a).cells.all D.one=true) {i_:Nat} (aY:∀n,n<i_->e0 enc P bo n e f wQ) :
  e0 enc P bo i_ t (λl:List α=>.Q .none k (l.map f)) (So wQ):=by
 intro aA x h;rcases DataW.trod_slice ax h with⟨rfl,rfl⟩|⟨a,len,cap,elems,rest,n,rfl,rfl,rfl,G,al,hm,hlen,fu,k2,_⟩
 ·exact⟨[],.cons (.jr .none k none trivial) (.nil _ _),Or.inl ⟨rfl,rfl⟩⟩
 rw[c6]at fu k2
 obtain⟨l,m_,I⟩:=Sm (a6:=λi b=>∃dt y,bo.cells? 0 (a.add (i*k)) k=some dt/\db bo (tX bo) (f b).cells dt/\elems[i]?=some y/\wQ b y.1) len (λi hi=>by
  have hy:elems[i]?=some elems[i]:=atJ atv;have h1:=fu i hi;rw[hy,awR]at h1;obtain⟨dt,z,aa⟩:=h1;obtain⟨b,aC,a_⟩:=aY n (auw _) dt _ aa
  exact⟨b,dt,_,z,aC,hy,a_⟩)
 refine⟨l,.cons ?_ (.nil _ _),Or.inr ⟨_,_,rfl,by simp[hlen,m_],λi b y G hy=>?_⟩⟩
 ·have Eu:(l.map f).length=len:=by simp[m_]
  have b5:∀x∈l.map f,x.cells.length=k:=λx F=>by obtain⟨b,_,rfl⟩:=at3.1 F;exact(M b).1
  by_cases hcap:cap=0
  ·have h0:len=0:=atv
   have:l=[]:=atY atv;subst this;subst hcap;subst h0
   exact .jr .none k (some a) trivial
  have acr:∃v,bo.cell? ((a.add (0*k)).add 0)=some v:=by
   have h1:∃y dt,bo.cells? 0 (a.add (0*k)) k=some dt/\DataW.trod enc P bo 0 (λ_=>true) true n e dt=some y:=by
    by_cases h0:0<len
    ·have hy:elems[0]?=some elems[0]:=atJ atv;have h1:=fu 0 h0;rw[hy,awR]at h1;obtain⟨dt,z,aa⟩:=h1;exact⟨_,dt,z,aa⟩
    obtain⟨z,aa⟩:=k2 rfl;have aC:=aa 0 atv;have hy:rest[0]?=some (rest[0]' atv):=atJ atv;rw[hy,awR]at aC;obtain⟨dt,a_,cC⟩:=aC;have:len+0=0:=atv
    rw[this]at a_;exact⟨_,dt,a_,cC⟩
   obtain⟨y,dt,z,_⟩:=h1;obtain⟨_,aa,aC⟩:=World.cells?_some z;have:=aC 0 X;rw[this];exact⟨_,atJ atv⟩
  obtain⟨v0,o'⟩:=acr;have l3:(a.add (0*k)).add 0=a:=by simp[Addr.add]
  rw[l3]at o';obtain⟨dj,rR,Md⟩:=Sl o';obtain⟨b,o,p4⟩:=a;simp only at dj rR Md;subst dj
  have HC:∀(j:Nat) d,(b1 (l.map f))[j]?=some d->∃v,bo.cell? ⟨b,o+j,none⟩=some v/\v.oneCell'=true/\bf bo (tX bo) d v:=λj d N=>by
   obtain⟨x,F,hc⟩:=Sn X b5 N;rw[aud,auQ]at F;obtain⟨ga,HD,rfl⟩:=F;obtain⟨dt,y,z,aa,_,_⟩:=I _ _ HD;obtain⟨_,aC,a_⟩:=World.cells?_some z;have o_:j%k<k:=Nat.mod_lt _ X;have W:dt[j%k]?=some (dt[j%k]' atv):=atJ atv;have cC:=a_ (j%k) o_;rw[W]at cC;have ae:=aa.2 _ _ _ hc W;have ag:D.one d=true:=auC.1 (M ga).2 d (at2 hc);refine⟨_,?_,(ae.oJ ag).2,ae⟩
   have e:(Addr.add (Addr.add ⟨b,o,none⟩ (j/k*k)) (j%k))=⟨b,o+j,none⟩:=by
    rw[o5,o5];have:=Nat.div_add_mod j k;rw[Nat.mul_comm]at this;rw[avF,this]
   rw[e]at cC;exact cC
  have eO:=bf.Q (w:=bo) (C:=tX bo) .none k (l.map f) b o cap (λj=>(bo.cell? ⟨b,o+j,none⟩).getD undef) trivial rR (by rw[Eu];exact al) hm b5 (by
    by_cases h0:0<len*k
    ·have du:=pP b5;rw[Eu]at du;obtain⟨d,N⟩:=lW (l:=b1 (l.map f)) (i:=len*k-1) atv;obtain⟨v,W,_⟩:=HC _ d N;have:=(Sl W).2.2;simp only at this;rw[Eu];omega
    rw[Eu];omega)
   (λj d N=>by obtain⟨v,W,_⟩:=HC j d N;rw[W];rfl)
   (λj d N=>by obtain⟨v,W,h1,_⟩:=HC j d N;rw[W];exact h1)
   (λj d N=>by obtain⟨v,W,_,h1⟩:=HC j d N;rw[W];exact h1)
  rw[Eu]at eO;exact eO
 obtain⟨_,Sp,_,_,h1,z⟩:=I _ _ G;rw[aud,h1]at hy;cases hy;exact z
theorem Ev{t:TypeId}{bW:Array Field}{i_:Nat}{aA:List Value}{x:DataW H×List MemPlace}(ax:P.underlying t=some (.struct bW))(ef:oneCellFields P bW=true)(c6:P.cellsOf t=bW.size)(h:DataW.trod enc P bo 0 (λ_=>true) true i_ t aA=some x): ∃(xs:List (DataW H×List MemPlace)) (n:Nat),i_=n+1/\x.1=.agg (xs.map (·.1))/\aA.length=bW.size/\xs.length=bW.size/\∀(i:Nat) (f:Field) v y,bW[i]?=some f->aA[i]?=some v->xs[i]?=some y->DataW.trod enc P bo 0 (λ_=>true) true n f.type [v]=some y:=by obtain⟨xs,n,rfl,rfl,al,F,M⟩:=DataW.trod_struct ax h;refine⟨xs,n,rfl,rfl,by rw[al,c6],F,λi f v y h1 z aa=>?_⟩;obtain⟨ag,X⟩:=hone_of ef i f h1;have aC:=M i f h1;rw[ag,X,aa]at aC;obtain⟨hi,rfl⟩:=aui.1 z;(have:(aA.drop i).take 1=[aA[i]]:=by rw[auN hi];rfl);rw[this]at aC;exact aC
variable{ja:World}
theorem acs{t:TypeId}(al:laidOutB P=true)(ae:P.readableRec t=true)(dN:t<P.types.size){d:DataW H}{bP:List MemPlace}
  (h:DataW.Trod enc P bo 0 (λ_=>true) true t v d bP) (G:Below bo.heap.size bo ja) (bi:∀x∈bP,x.block<bo.heap.size) (p4:Nat->Bool) (k2:∀p∈bP,p4 p.block=true) :
  DataW.Trod enc P ja 0 p4 true t v d bP :=
 WideElems.Trod_stays al ae dN h (λx F=>G.same (bi x F)) (λx F=>k2 x F)
end Go.bS
namespace Go.bS.cp
open Go Go.Proofs
abbrev bt:D:=.int .i64 0
abbrev dX:D:=.O []
abbrev iI:D:=.bool false
abbrev rS:D:=.an (.map none)
abbrev wR:D:=.an (.pointer none)
abbrev zZ:D:=.an .nilFunc
abbrev eE:rG:=.int .i64
abbrev z1:List (Nat×Nat×Bool):=[(0,1,false),(1,1,false)]
abbrev HE:List (Nat×Nat×Bool):=[(0,1,false),(1,1,false),(2,1,false)]
abbrev HF:List (Nat×Nat×Bool):=[(0,1,false),(1,1,false),(2,1,false),(3,1,false)]
abbrev Me:List (Nat×Nat×Bool):=[(0,1,false),(1,1,false),(2,1,false),(3,1,false),(4,1,false)]
abbrev Mf:List (Nat×Nat×Bool):=[(0,1,false),(1,1,false),(2,1,false),(3,1,false),(4,1,false),(5,1,false)]
abbrev act:List (Nat×Nat×Bool):=[(0,1,false),(1,1,false),(2,1,false),(3,1,false),(4,1,false),(5,1,false),(6,1,false)]
abbrev Sq:List (Nat×Nat×Bool):=[(0,1,false),(1,1,false),(2,1,false),(3,1,false),(4,1,false),(5,1,false),(6,1,false),(7,1,false)]
abbrev acu:List (Nat×Nat×Bool):=[(0,1,false),(1,1,false),(2,1,false),(3,1,false),(4,1,false),(5,1,false),(6,1,false),(7,1,false),(8,1,false),(9,1,false),(10,1,false),(11,1,false)]
abbrev acv:List (Nat×Nat×Bool):=[(0,1,false),(1,1,false),(2,1,false),(3,1,false),(4,1,false),(5,1,false),(6,1,false),(7,1,false),(8,1,false),(9,1,false),(10,1,false),(11,1,false),(12,1,false),(13,1,false)]
abbrev kb(a b:Nat):bx:=⟨a,false,1,24,.slice b,[],some [.bh],[]⟩
abbrev l4(a:Nat)(V:D):bx:=⟨a,false,1,8,.DR,[],some [V],[]⟩
def ay:List bx:=[⟨3,false,1,8,eE,[],some [bt],[]⟩,⟨9,false,1,16,.O,[],some [dX],[]⟩,⟨4,false,1,1,.bool,[],some [iI],[]⟩,⟨44,true,12,152,.struct,acu,some [dX,bt,dX,dX,bt,bt,bt,bt,bt,bt,.bh,.bh],[]⟩,kb 24 3,kb 59 9,kb 41 44,⟨54,false,1,8,eE,[],some [bt],[]⟩,⟨5,false,1,1,.int .u8,[],some [.int .u8 0],[]⟩,⟨23,true,2,16,.struct,z1,some [bt,bt],[eE,eE]⟩,kb 38 23,⟨53,true,3,32,.struct,HE,some [dX,bt,bt],[.O,eE,eE]⟩,kb 27 53,⟨34,true,13,160,.struct,[(0,8,true),(8,1,false),(9,1,false),(10,1,false),(11,1,false),(12,1,false)],some [dX,dX,dX,dX,dX,bt,bt,bt,bt,bt,.bh,bt,iI],[]⟩,⟨114,true,21,256,.struct,[(0,13,true),(13,1,false),(14,1,false),(15,1,false),(16,1,false),(17,1,false),(18,1,false),(19,1,false),(20,1,false)],some [dX,dX,dX,dX,dX,bt,bt,bt,bt,bt,.bh,bt,iI,.bh,.bh,rS,bt,bt,bt,bt,bt],[]⟩,⟨121,true,2,32,.struct,z1,some [dX,dX],[.O,.O]⟩,kb 112 121,⟨29,true,16,160,.struct,[(0,2,true),(2,2,true),(4,11,true),(15,1,false)],some [bt,bt,bt,bt,bt,iI,bt,bt,bt,bt,bt,.bh,bt,bt,bt,.bh],[]⟩,⟨26,true,11,104,.struct,[(0,1,false),(1,1,false),(2,2,true),(4,1,false),(5,2,true),(7,1,false),(8,1,false),(9,2,true)],some [bt,iI,bt,bt,bt,bt,bt,.bh,bt,bt,bt],[]⟩,kb 42 147,kb 32 140,⟨140,true,6,56,.struct,Mf,some [dX,bt,bt,bt,bt,iI],[.O,eE,eE,eE,eE,.bool]⟩,⟨83,true,4,40,.struct,HF,some [iI,iI,bt,.bh],[]⟩,kb 86 4,l4 76 rS,l4 66 rS,l4 104 wR,⟨147,true,2,32,.struct,z1,some [dX,dX],[.O,.O]⟩,l4 99 wR,l4 135 wR,l4 1 zZ,⟨2,false,1,8,eE,[],some [bt],[]⟩,⟨6,false,1,1,.int .u8,[],some [.int .u8 0],[]⟩,⟨7,true,4,24,.struct,HF,some [bt,bt,iI,.int .u8 0],[eE,eE,.bool,.int .u8]⟩,⟨8,true,4,24,.struct,HF,some [bt,bt,iI,.int .u8 0],[eE,eE,.bool,.int .u8]⟩,⟨10,false,1,16,.O,[],some [dX],[]⟩,⟨11,false,1,16,.O,[],some [dX],[]⟩,⟨12,false,1,8,.int .u64,[],some [.int .u64 0],[]⟩,⟨21,false,1,4,.int .i32,[],some [.int .i32 0],[]⟩,⟨31,true,8,104,.struct,Sq,some [dX,dX,dX,dX,dX,bt,bt,bt],[.O,.O,.O,.O,.O,eE,eE,eE]⟩,l4 47 rS,⟨49,false,1,8,.int .u64,[],some [.int .u64 0],[]⟩,l4 51 rS,l4 67 rS,kb 68 59,l4 118 rS,l4 131 wR,⟨133,true,4,32,.struct,HF,some [wR,wR,bt,bt],[]⟩,l4 161 wR,kb 162 5,⟨164,true,2,32,.struct,z1,some [wR,.bh],[]⟩,l4 173 rS,⟨175,true,26,312,.struct,[(0,4,true),(4,8,true),(12,12,true),(24,1,false),(25,1,false)],some [iI,iI,bt,.bh,dX,dX,dX,dX,dX,bt,bt,bt,dX,bt,dX,dX,bt,bt,bt,bt,bt,bt,.bh,.bh,rS,rS],[]⟩,⟨180,false,1,8,eE,[],some [bt],[]⟩,⟨188,false,1,4,.int .u32,[],some [.int .u32 0],[]⟩,⟨193,true,13,160,.struct,[(0,12,true),(12,1,false)],some [dX,bt,dX,dX,bt,bt,bt,bt,bt,bt,.bh,.bh,bt],[]⟩,l4 194 zZ,kb 195 194,⟨216,true,6,48,.struct,Mf,some [bt,bt,bt,bt,bt,bt],[eE,eE,eE,eE,eE,eE]⟩,⟨219,false,1,1,.int .i8,[],some [.int .i8 0],[]⟩,kb 220 228,kb 221 251,kb 224 249,⟨226,true,5,56,.struct,Me,some [iI,.bh,bt,bt,bt],[]⟩,⟨228,true,6,64,.struct,Mf,some [dX,dX,bt,bt,bt,iI],[.O,.O,eE,eE,eE,.bool]⟩,⟨230,true,8,80,.struct,Sq,some [dX,bt,bt,bt,bt,bt,bt,dX],[.O,eE,eE,eE,eE,eE,eE,.O]⟩,l4 231 zZ,kb 232 269,⟨234,true,12,144,.struct,[(0,8,true),(8,1,false),(9,1,false),(10,1,false),(11,1,false)],some [dX,bt,bt,bt,bt,bt,bt,dX,bt,zZ,.bh,.bh],[]⟩,kb 236 238,⟨238,true,3,40,.struct,HE,some [dX,bt,dX],[.O,eE,.O]⟩,⟨244,true,14,128,.struct,acv,some [iI,bt,bt,bt,bt,bt,iI,dX,dX,iI,bt,bt,bt,iI],[.bool,eE,eE,eE,eE,eE,.bool,.O,.O,.bool,eE,eE,eE,.bool]⟩,kb 247 234,⟨249,true,5,64,.struct,Me,some [dX,bt,.bh,bt,bt],[]⟩,⟨251,true,7,56,.struct,act,some [dX,dX,bt,bt,iI,iI,iI],[.O,.O,eE,eE,.bool,.bool,.bool]⟩,kb 256 320,kb 259 236,⟨269,true,2,16,.struct,z1,some [bt,bt],[eE,eE]⟩,l4 270 zZ,kb 290 296,kb 291 358,⟨293,true,3,56,.struct,HE,some [.bh,.bh,bt],[]⟩,⟨296,true,16,208,.struct,[(0,12,true),(12,1,false),(13,1,false),(14,1,false),(15,1,false)],some [dX,bt,dX,dX,bt,bt,bt,bt,bt,bt,.bh,.bh,dX,bt,.bh,bt],[]⟩,l4 298 rS,l4 299 rS,l4 300 wR,kb 303 310,⟨305,true,7,88,.struct,[(0,6,true),(6,1,false)],some [dX,dX,bt,bt,bt,iI,.bh],[]⟩,kb 306 305,l4 307 zZ,⟨310,true,8,64,.struct,[(0,7,true),(7,1,false)],some [dX,dX,bt,bt,iI,iI,iI,bt],[]⟩,⟨320,true,3,32,.struct,HE,some [dX,bt,bt],[.O,eE,eE]⟩,kb 332 21,⟨334,true,2,48,.struct,z1,some [.bh,.bh],[]⟩,⟨349,true,14,184,.struct,[(0,12,true),(12,1,false),(13,1,false)],some [dX,bt,dX,dX,bt,bt,bt,bt,bt,bt,.bh,.bh,dX,dX],[]⟩,⟨354,true,2,16,.struct,z1,some [bt,bt],[eE,eE]⟩,⟨356,true,9,48,.struct,[(0,1,false),(1,1,false),(2,1,false),(3,1,false),(4,1,false),(5,1,false),(6,2,true),(8,1,false)],some [dX,iI,iI,iI,iI,iI,bt,bt,bt],[]⟩,⟨358,true,5,40,.struct,Me,some [bt,bt,bt,bt,bt],[eE,eE,eE,eE,eE]⟩,⟨359,true,12,96,.array 12 3,[],some [bt,bt,bt,bt,bt,bt,bt,bt,bt,bt,bt,bt],[]⟩,⟨362,true,3,24,.array 3 3,[],some [bt,bt,bt],[]⟩,l4 367 rS,l4 390 zZ,⟨393,true,256,256,.array 256 4,[],none,[]⟩,kb 426 390,⟨446,false,1,4,.int .i32,[],some [.int .i32 0],[]⟩]
theorem aL:dg Tryz.prog ay:=dg.va atA
theorem mixed:Tryz.prog.follows .mixedOrders=true:=by kernel_rfl
abbrev acw:=ay
theorem arq:dg Tryz.prog acw:=aL
abbrev acx:=ay
theorem arr:dg Tryz.prog acx:=aL
variable{q:Prop}{p:Prop}{α:Type}{f:FuncId}{body:Code}{ds:List D}{d:D}{a6:D->bF->Prop}
section
variable{B:World}{am:Nat}{U:b7 Tryz.prog B am}{id:Nat}{ops:Array Oper}{a b c:Code}{A:aw}{K:cK->aw->Prop}
theorem kF(h:jQ Tryz.prog B ay am ops ops.toList A (K .normal)):Y U (.region id ops false) A K:=Y.region aL h
theorem b3(h:jQ Tryz.prog B ay am ops ops.toList A (zz U c K .normal)):Y U (.seq (.region id ops false) c) A K:=Y.seq (Y.region aL h)
theorem en(h:Y U a A (zz U b K)):Y U (.seq a b) A K:=Y.seq h
theorem m'(h:Y U a A (zz U b (zz U c K))):Y U (.seq (.seq a b) c) A K:=Y.seq (Y.seq h)
theorem cl(h:K .normal A):Y U .skip A K:=Y.skip h
theorem Ew(h:K .ret A):Y U .ret A K:=Y.ret h
theorem oN(h:Y U a A (Hc id K)):Y U (.block id a) A K:=Y.block h
theorem aJ{o:Operand}(t:Bool)(hc:A.a8 o=.bool t)(h1:t=true->Y U a A K)(z:t=false->Y U b A K):Y U (.cond o a b) A K:=Y.cond t hc h1 z
abbrev u(n:Int):D:=.int .i64 n
theorem cD{α:Sort _}{x:α}(h:q):x=x/\q:=⟨rfl,h⟩
theorem g9(h:q):(p->p)/\q:=⟨id,h⟩
theorem BW{r:Prop}(h:q):True/\(q\/r):=⟨trivial,.inl h⟩
theorem p5{r:Prop}(h:r):True/\(q\/r):=⟨trivial,.inr h⟩
theorem d_{α:Sort _}{x:α}{r:Prop}(h:q):x=x/\True/\(q\/r):=⟨rfl,trivial,.inl h⟩
theorem tY{α:Sort _}{x:α}{r:Prop}(h:r):x=x/\True/\(q\/r):=⟨rfl,trivial,.inr h⟩
theorem mB{r:Prop}(h:q):q\/r:=.inl h
theorem g_{r:Prop}(h:q)(k:p:=by intro _;first|(simp only[dk];omega)|(simp[dk];omega)|simp[dk]):(p/\q)\/r:=.inl ⟨k,h⟩
theorem tZ(h:q)(k:p:=by intro h0 h;exact ayh):p/\q:=⟨k,h⟩
theorem yb{α:Sort _}{cs:Prop}{bA bX:α->Prop}(y:α)(h:bX y)(k:cs->bA y:=by intro _;rfl):∃y,(cs->bA y)/\bX y:=⟨y,k,h⟩
theorem fX{α:Sort _}{bA bX:α->Prop}(y:α)(k:bX y:=by exact λ_ _ h=>h)(h:bA y:=by(repeat refine⟨.refl _,?_⟩);trivial):∃y,bA y/\bX y:=⟨y,h,k⟩
theorem Sr{et:α->(Nat->Bool)->Prop}{S:α->(Nat->Bool)->Prop}{a6:Prop}(h:a6)(k:∀y f,et y f->S y f:=by intro y f _;(conv=>whnf);refine BW ?_;(conv=>whnf);exact fX y):(∀y f,et y f->S y f)/\a6:=⟨k,h⟩
theorem ar(h:p:=by(repeat refine⟨.refl _,?_⟩);trivial):p:=h
theorem ba(h:p:=by(repeat refine⟨rfl,?_⟩);trivial):p:=h
theorem oa(h:q)(k:p:=by intro _;first|(simp;omega)|simp):p/\q:=⟨k,h⟩
theorem bB{fn:Func}(M : Tryz.prog.funcs[f]?=some fn)(p3 : fn.ntmps = am)(h : ∀U : b7 Tryz.prog B am,Y U body (entry ds bF.none) (LW ay fn.results.toList d))(G : fn.body = some body := by rfl)(av : (fn.name == "runtime.NumGoroutine") = false := by decide +kernel)(al : Nat.ble ds.length am = true := by rfl): m0 Tryz.prog B f ds d := m0.intro aL M G av p3 al h
theorem jW{fn:Func}{H:bF}(M : Tryz.prog.funcs[f]?=some fn)(p3 : fn.ntmps = am)(h : ∀U : b7 Tryz.prog B am,Y U body (entry ds H) (Eh ay fn.results.toList a6))(G : fn.body = some body := by rfl)(av : (fn.name == "runtime.NumGoroutine") = false := by decide +kernel)(al : Nat.ble ds.length am = true := by rfl): c8 Tryz.prog B f ds H a6 := c8.intro aL M G av p3 al h
end
structure e1 (p:Prop):Prop where cm:p
section
variable{B:World}{am:Nat}
theorem ch(h:q)(f:e1 q->p:=by intro V;apply b3;(conv=>whnf);exact V.cm):p:=f ⟨h⟩
theorem ez(h:q)(f:e1 q->p:=by intro V;apply cD;(conv=>whnf);exact V.cm):p:=f ⟨h⟩
theorem ll(h:q)(f:e1 q->p:=by intro V;refine g_ ?_;(conv=>whnf);exact V.cm):p:=f ⟨h⟩
theorem pe(h:q)(f:e1 q->p:=by intro V;refine⟨trivial,?_⟩;(conv=>whnf);exact V.cm):p:=f ⟨h⟩
theorem iJ(h:q)(f:e1 q->p:=by intro V;apply Ew;(conv=>whnf);exact V.cm):p:=f ⟨h⟩
theorem oO(h:q)(f:e1 q->p:=by intro V;apply en;refine Y.vf aL mixed atA ?_;exact V.cm):p:=f ⟨h⟩
theorem t1(h:q)(f:e1 q->p:=by intro V;refine Y.Mg aL ?_;apply d_;exact V.cm):p:=f ⟨h⟩
theorem p6(h:q)(f:e1 q->p:=by intro V;refine oa ?_;(conv=>whnf);exact V.cm):p:=f ⟨h⟩
theorem qS(h:q)(f:e1 q->p:=by intro V;(conv=>whnf);refine⟨rfl,_,_,rfl,rfl,.inr ⟨rfl,?_⟩⟩;exact V.cm):p:=f ⟨h⟩
theorem vk(h:q)(f:e1 q->p:=by intro V;apply en;refine Y.Ek aL ?_;exact V.cm):p:=f ⟨h⟩
theorem Mh(h:q)(f:e1 q->p:=by intro V;refine⟨rfl,rfl,?_⟩;(conv=>whnf);exact V.cm):p:=f ⟨h⟩
theorem na(h:q)(f:e1 q->p:=by intro V;apply g9;(conv=>whnf);exact V.cm):p:=f ⟨h⟩
theorem gm(h:q)(f:e1 q->p:=by intro V;apply b3;refine iJ ?_;exact V.cm):p:=f ⟨h⟩
theorem fk(h:q)(f:e1 q->p:=by intro V;apply cl;(conv=>whnf);exact V.cm):p:=f ⟨h⟩
theorem Mi(h:q)(f:e1 q->p:=by intro V;apply oN;refine ch ?_;exact V.cm):p:=f ⟨h⟩
theorem iq(h:q)(f:e1 q->p:=by intro V;apply g9;refine tZ ?_;exact V.cm):p:=f ⟨h⟩
theorem gK(h:q)(f:e1 q->p:=by intro V;apply en;refine Mi ?_;exact V.cm):p:=f ⟨h⟩
theorem gb(h:q)(f:e1 q->p:=by intro V;apply en;apply b3;exact V.cm):p:=f ⟨h⟩
theorem p7(h:q)(f:e1 q->p:=by intro V;refine⟨_,.refl _,?_⟩;refine go ?_;exact V.cm):p:=f ⟨h⟩
theorem rT(h:q)(f:e1 q->p:=by intro V;refine⟨_,.refl _,?_⟩;(conv=>whnf);exact V.cm):p:=f ⟨h⟩
theorem hG(h:q)(f:e1 q->p:=by intro V;apply g9;refine na ?_;exact V.cm):p:=f ⟨h⟩
theorem nD(h:q)(f:e1 q->p:=by intro V;apply kF;refine ll ?_;exact V.cm):p:=f ⟨h⟩
theorem mC(h:q)(f:e1 q->p:=by intro V;refine ez ?_;refine p6 ?_;exact V.cm):p:=f ⟨h⟩
theorem nb(h:q)(f:e1 q->p:=by intro V;refine oa ?_;refine go ?_;exact V.cm):p:=f ⟨h⟩
theorem qT(h:q)(f:e1 q->p:=by intro V;refine Y.exit ?_;refine gm ?_;exact V.cm):p:=f ⟨h⟩
theorem jy(h:q)(f:e1 q->p:=by intro V;apply d_;(conv=>whnf);exact V.cm):p:=f ⟨h⟩
theorem nE(h:q)(f:e1 q->p:=by intro V;refine pe ?_;refine Mh ?_;exact V.cm):p:=f ⟨h⟩
theorem vl(h:q)(f:e1 q->p:=by intro V;(conv=>whnf);refine⟨rfl,.inl ?_⟩;exact V.cm):p:=f ⟨h⟩
theorem sS(h:q)(f:e1 q->p:=by intro V;refine Y.exit ?_;refine ch ?_;exact V.cm):p:=f ⟨h⟩
theorem lm(h:q)(f:e1 q->p:=by intro V;apply b3;refine ez ?_;exact V.cm):p:=f ⟨h⟩
theorem ln(h:q)(f:e1 q->p:=by intro V;apply BW;refine go ?_;exact V.cm):p:=f ⟨h⟩
theorem wS(h:q)(f:e1 q->p:=by intro V;refine HG ?_;refine Go.bS.cp.vs ?_;exact V.cm):p:=f ⟨h⟩
theorem Ex(h:q)(f:e1 q->p:=by intro V;apply m';refine Y.vf aL mixed atA ?_;exact V.cm):p:=f ⟨h⟩
theorem nc(h:q)(f:e1 q->p:=by intro V;apply kF;(conv=>whnf);exact V.cm):p:=f ⟨h⟩
theorem qU(h:q)(f:e1 q->p:=by intro V;refine vk ?_;(conv=>whnf);exact V.cm):p:=f ⟨h⟩
theorem nF(h:q)(f:e1 q->p:=by intro V;refine gb ?_;apply oN;exact V.cm):p:=f ⟨h⟩
theorem nG(h:q)(f:e1 q->p:=by intro V;apply en;refine t1 ?_;exact V.cm):p:=f ⟨h⟩
theorem ob(h:q)(f:e1 q->p:=by intro V;apply g9;refine iq ?_;exact V.cm):p:=f ⟨h⟩
theorem oc(h:q)(f:e1 q->p:=by intro V;apply mB;(conv=>whnf);exact V.cm):p:=f ⟨h⟩
theorem wT(h:q)(f:e1 q->p:=by intro V;refine Y.exit ?_;(conv=>whnf);exact V.cm):p:=f ⟨h⟩
theorem iK(h:q)(f:e1 q->p:=by intro V;apply g9;apply cD;exact V.cm):p:=f ⟨h⟩
theorem jb(h:q)(f:e1 q->p:=by intro V;apply b3;apply cD;exact V.cm):p:=f ⟨h⟩
theorem pf(h:q)(f:e1 q->p:=by intro V;apply b3;refine ch ?_;exact V.cm):p:=f ⟨h⟩
theorem p8(h:q)(f:e1 q->p:=by intro V;apply en;refine ch ?_;exact V.cm):p:=f ⟨h⟩
theorem p9(h:q)(f:e1 q->p:=by intro V;refine gb ?_;apply cD;exact V.cm):p:=f ⟨h⟩
theorem kc(h:q)(f:e1 q->p:=by intro V;apply en;apply oN;exact V.cm):p:=f ⟨h⟩
theorem vm(h:q)(f:e1 q->p:=by intro V;refine gK ?_;refine p6 ?_;exact V.cm):p:=f ⟨h⟩
theorem vn(h:q)(f:e1 q->p:=by intro V;refine g_ ?_;refine ll ?_;exact V.cm):p:=f ⟨h⟩
theorem rU(h:q)(f:e1 q->p:=by intro V;apply cl;refine nD ?_;exact V.cm):p:=f ⟨h⟩
theorem yc(h:q)(f:e1 q->p:=by intro V;refine .inr ?_;refine go ?_;exact V.cm):p:=f ⟨h⟩
theorem wU(h:q)(f:e1 q->p:=by intro V;(conv=>whnf);refine p6 ?_;exact V.cm):p:=f ⟨h⟩
theorem Mj(h:q)(f:e1 q->p:=by intro V;(conv=>whnf);refine⟨rfl,_,_,rfl,rfl,.inl ⟨rfl,.inl ?_⟩⟩;exact V.cm):p:=f ⟨h⟩
end
abbrev aS(B:World):=m0 Tryz.prog B
abbrev cV(B:World):=c8 Tryz.prog B
theorem E(h:p:=by exact .refl _):p:=h
theorem ai:True:=trivial
structure nH where
 name:atE
 target:atE
 deriving DecidableEq,Inhabited
structure ad where
 name:atE
 kind:Int
 dB:atE
 target:atE
 cL:Int
 n2:Int
 n3:Int
 n4:Int
 n5:Int
 n6:Int
 J:List ad
 bK:List nH
 deriving Inhabited
def c5(s:nH):D:=.agg [.O s.name,.O s.target]
mutual
def enc:ad->D
 |.mk a b c d e f g h i j ah cE=>.agg [.O a,.int .i64 b,.O c,.O d,.int .i64 e,.int .i64 f,.int .i64 g,.int .i64 h,.int .i64 i,.int .i64 j,.Q .none 12 (HH ah),.Q .none 2 (cE.map c5)]
def HH:List ad->List D
 |[]=>[]
 |n::r=>enc n::HH r
end
theorem Ss:∀l:List ad,HH l=l.map enc
 |[]=>rfl
 |n::r=>by simp only[HH,aum];rw[Ss r]
def aH(n:ad):D:=.agg [.O n.name,u n.kind,.O n.dB,.O n.target,u n.cL,u n.n2,u n.n3,u n.n4,u n.n5,u n.n6,.Q .none 12 (n.J.map enc),.Q .none 2 (n.bK.map c5)]
theorem rV(n:ad):enc n=aH n:=by cases n with|mk a b c d e f g h i j ah cE=>simp only[enc,aH,Ss]
variable{B:World}{wV:Type}
section Mk
variable{a b:List α}{i:Nat}
theorem BX(f:α->wV)(h:i<a.length):(a.map f)[i]?=some (f a[i]):=by simp[h]
end Mk
theorem acy{p x:atE}(h:p.length<=x.length):(x.take p.length==p)=p.isPrefixOf x:=by rw[awq,avn,List.isPrefixOf_iff_prefix,List.prefix_iff_eq_take];exact eq_comm
theorem acz{p x:atE}(h:x.length<p.length):p.isPrefixOf x=false:=by rw[awu,ne_eq,List.isPrefixOf_iff_prefix];intro bq;have:=bq.length_le;omega
theorem acA(x p:atE):(bif decide ((p.length:Int)<=x.length)then(x.take (p.length:Int).toNat).drop (Int.toNat 0)==p else false)=p.isPrefixOf x:=by by_cases h:p.length<=x.length;(have bq:(p.length:Int)<=x.length:=by omega);simp only[bq,decide_true,avo,auq];rw[show Int.toNat 0=0 from rfl,List.drop_zero,acy h];(have bq:¬(p.length:Int)<=x.length:=by omega);simp only[bq,decide_false,auV];rw[acz atv]
theorem acB(x p:atE):aS B 153 [.O x,.O p] (.bool (p.isPrefixOf x)):=by refine bB Tryz.func153 Tryz.ntmps153 λU=>?_;apply b3;apply b3;apply g9;refine hG ?_;refine⟨λh=>by simp at h⊢;omega,?_⟩;refine ob ?_;refine iJ ?_;exact aq.of_eq (atI D.bool (acA x p))
theorem acC(x p:atE):aS B 103 [.O x,.O p] (.bool (p.isPrefixOf x)):=by refine bB Tryz.func103 Tryz.ntmps103 λU=>?_;refine pf ?_;refine⟨_,_,λ_=>acB x p,ar,?_⟩;refine iJ ?_;exact E
theorem St(c:UInt8)(n:Nat)(h:n<256):((c.toNat:Int)==(n:Int))=(c==UInt8.ofNat n):=by rw[awq];simp only[avn];constructor;intro h1;apply UInt8.toNat.inj;simp;omega;intro h1;subst h1;simp;omega
def fe(p:α->Bool)(l:List α):Int:=match l.findIdx? p with|some i=>i|none=>-1
variable{i:Nat}
theorem z6{p:α->Bool}{l:List α}(hi:i<l.length)(au:∀j (h:j<l.length),j<i->p l[j]=false)(h:p l[i]=true):fe p l=i:=by have:l.findIdx? p=some i:=avA.2 ⟨hi,h,λj Z=>by simp[au j atv Z]⟩;rw[fe,this]
theorem z7{p:α->Bool}{l:List α}(au:∀j (h:j<l.length),p l[j]=false):fe p l=-1:=by(have:l.findIdx? p=none:=avS.2 λx F=>by obtain⟨j,Z,rfl⟩:=auh.1 F;exact au j Z);rw[fe,this]
theorem BY(p:α->Bool)(l:List α):decide (0<=fe p l)=l.any p:=by unfold fe;split;rename_i i h;obtain⟨hi,h1,_⟩:=avA.1 h;have:l.any p=true:=au1.2 ⟨l[i],atK hi,h1⟩;rw[this];simp;rename_i h;(have:l.any p=false:=by rw[awu];intro z;obtain⟨x,F,Bz⟩:=au1.1 z;have:=avS.1 h x F;simp_all);rw[this];simp
variable{v:Value}{h5 k e:Nat}
theorem kG{n:Nat}(h:n=h5):some (aI.own v n k e)=some (aI.own v h5 k e):=by rw[h]
variable{s bp:Nat}{xs a':List D}
theorem aq.kd(h:xs=a'):aq (.Q (.own s v) k xs) (.Q (.own bp v) k a'):=h ▸ aq.own s bp
section fB
variable{l:List α}
end fB
end Go.bS.cp

namespace Go.bS
open Go Go.RowKit
variable{P:Program}{B:World}{am:Nat}{ops:Array Oper}{α:Type}
def fN(g:Nat->Bool)(l:List Edge)(i:Nat):Nat->Bool:=λj=>_root_.cond (Nat.beq j i) false (wP g l j)
theorem Y.scope{U:b7 P B am}{A:aw}{K:cK->aw->Prop}{c:Code}(h:Y U c A K):Y U (.scope c) A K :=
 ⟨λa w C M=>wp_scope_straight (wp_mono (h.run a w C M) λe bv w' cy=>by
  obtain⟨c3,az,aO,ak,hK,bJ⟩:=cy;subst ak
  cases c3<;>exact⟨_,az,aO,rfl,hK,bJ⟩)⟩
def Ey(ops:Array Oper)(j k:Nat):Bool:=match ops.toList[j]? with
 |some o=>o.after.toList.any λe=>Region.binds .any e&&Nat.beq e.on k
 |none=>false
def p_(ops:Array Oper)(f:Nat->Bool):Prop:=∀j k,Ey ops j k=true->f j=true->f k=true
theorem p_.eL{f:Nat->Bool}(h:p_ ops f)(j k:Nat)(N:Ey ops j k=true)(X:f k=false):f j=false:=by cases Z:f j with|false=>rfl|true=>rw[h j k N Z]at X;cases X
theorem p_.n{f:Nat->Bool}(h:p_ ops f)(j k:Nat)(X:f k=false:=by rfl)(N:Ey ops j k=true:=by rfl):f j=false:=h.eL j k N X
theorem p_.o{fY:Nat->Bool}(h:p_ ops fY)(f:Nat->Bool)(j k:Nat)(X:fY k=false:=by rfl)(N:Ey ops j k=true:=by rfl)(e:f j=fY j:=by rfl):∃g:Nat->Bool,f=λi=>_root_.cond (Nat.beq i j) false (g i):=⟨f,funext λi=>by cases G:Nat.beq i j with|false=>rfl|true=>rw[avJ G];exact e.trans (h.eL j k N X)⟩
variable{bd:Array Bool}{i:Nat}
theorem p_.set(h:p_ ops (ej bd)){o:Oper}(hi:i<bd.size)(ag:ops[i]?=some o)(l5:∀e∈o.after.toList,Region.binds .any e=true->bd.getD e.on false=true):p_ ops (ej (bd.setIfInBounds i true)):=by intro j k N Z;rw[Et hi]at Z⊢;by_cases X:k=i;subst X;simp[hF];(have fA:Nat.beq k i=false:=by cases G:Nat.beq k i with|false=>rfl|true=>exact absurd (aua G) X);rw[show hF (ej bd) i k=ej bd k by simp[hF,fA]];by_cases fc:j=i;subst fc;unfold Ey at N;rw[show ops.toList[j]?=some o by simpa using ag]at N;obtain⟨e,ak,G⟩:=au1.1 N;obtain⟨m6,g8⟩:=Bool.and_eq_true_iff.1 G;have:=aua g8;subst this;exact l5 e ak m6;(have gl:Nat.beq j i=false:=by cases G:Nat.beq j i with|false=>rfl|true=>exact absurd (aua G) fc);(have b0:hF (ej bd) i j=ej bd j:=by simp[hF,gl]);rw[b0]at Z;exact h j k N Z
def HI(P:Program)(B:World)(am:Nat)(ay:List bx)(all:Array Oper)(l:α->(Nat->Bool)->List (Nat×D))(hs:α->(Nat->Bool)->List (Nat×aI)):List Oper->Nat->Prop
 |[],_=>True
 |o::r,i=>(∀x g,p_ all (fN g o.after.toList i)->Ej P B am ay (hq (l x (fN g o.after.toList i)) (hs x (fN g o.after.toList i))) o.dst o.op λaz=>∃bU,jP az (l bU (hF (fN g o.after.toList i) i))/\m2 az (hs bU (hF (fN g o.after.toList i) i)))/\HI P B am ay all l hs r (i+1)
theorem acD{ay:List bx}{all:Array Oper}{l:α->(Nat->Bool)->List (Nat×D)}{hs:α->(Nat->Bool)->List (Nat×aI)}{r:List Oper}:∀{n:Nat},HI P B am ay all l hs r n->∀{i:Nat} {o:Oper},r[i]?=some o->∀x f,p_ all (fN f o.after.toList (n+i))->Ej P B am ay (hq (l x (fN f o.after.toList (n+i))) (hs x (fN f o.after.toList (n+i)))) o.dst o.op λaz=>∃bU,jP az (l bU (hF (fN f o.after.toList (n+i)) (n+i)))/\m2 az (hs bU (hF (fN f o.after.toList (n+i)) (n+i))):=by induction r with|nil=>intro n _ i o h;simp at h|cons x r aY =>intro n h i o ag y f;exact axq
theorem Su{ay:List bx}(hT:dg P ay){U:b7 P B am}{a6:aw->Prop}{Q':Exit->Act->World->Prop}(f_:∀A a w C,bG U w C A a->a6 A->Q' .normal a w)(au:BT am ops.toList 0=true)(l:α->(Nat->Bool)->List (Nat×D))(hs:α->(Nat->Bool)->List (Nat×aI))(pg:∀x f,(∀i,i<ops.size->f i=true)->a6 (hq (l x f) (hs x f)))(step:HI P B am ay ops l hs ops.toList 0): ∀(n:Nat) (x:α) (bd:Array Bool) (a:Act) (w:World) (C:Nat->Nat),bd.size=ops.size->bd.toList.count false=n->bG U w C (hq (l x (ej bd)) (hs x (ej bd))) a->p_ ops (ej bd)->wpAny P .any ops Q' n bd a w
 |0,x,bd,a,w,C,hsz,hc,M,be=>by(have hE:∀i,i<ops.size->ej bd i=true:=λi hi=>axr);refine⟨?_,f_ _ _ _ _ M (pg _ _ hE)⟩;cases ae:Region.ready .any ops bd with|nil=>rfl|cons i r =>obtain⟨o,ag,hi,h1,_⟩:=BU (ae ▸ atS:i∈Region.ready .any ops bd);have z:=hE i hi;(have bi:i<bd.size:=by omega);simp only[ej,Array.getD,bi,avv]at h1 z;rw[h1]at z;cases z
 |n+1,x,bd,a,w,C,hsz,hc,M,be=>by(have p':0<bd.toList.count false:=by omega);have lY:=av8.1 p';obtain⟨i,hi,G⟩:=List.getElem_of_mem lY;(have l6:i<bd.size:=by simpa using hi);have aX:Region.ready .any ops bd≠[]:=aco au hsz i i rfl atv (aye);refine⟨λe=>absurd e aX,λi hi=>?_⟩;obtain⟨o,ag,Sv,qV,l5⟩:=BU hi;obtain⟨aT,N,_⟩:=Sj au (i:=i) (o:=o) (by simpa using ag);have I:=acD step (i:=i) (o:=o) (by simpa using ag) x (ej bd);rw[aut]at I;(have qJ:fN (ej bd) o.after.toList i=ej bd:=axm);rw[qJ]at I;have I:=I be;unfold wpOp;simp only[ag];rw[atH (by simp[Region.wanted,aT])];refine .inl (Oper.wp_mono (λbv w' cy=>?_) (Sh hT M aT N I Q'));obtain⟨az,aO,⟨bU,h1,z⟩,aa⟩:=cy;(have mD:i<bd.size:=by omega);rw[<-Et mD]at h1 z;refine Su hT f_ au l hs pg step n bU _ bv w' aO (by simpa using hsz) ?_ (aa.Hd h1 z) (be.set mD ag l5);exact axd
variable{U:b7 P B am}{id:Nat}{A:aw}{K:cK->aw->Prop}
theorem Y.acE{ay:List bx}(hT:dg P ay)(hm:P.follows .mixedOrders=true)
  (l:α->(Nat->Bool)->List (Nat×D)) (hs:α->(Nat->Bool)->List (Nat×aI)) (au:BT am ops.toList 0=true) (ey:α)
  (h1:jP A (l ey λ_=>false)) (z:m2 A (hs ey λ_=>false)) (step:HI P B am ay ops l hs ops.toList 0)
  (pg:∀x f,(∀i,i<ops.size->f i=true)->K .normal (hq (l x f) (hs x f))) :
  Y U (.region id ops true) A K :=
 ⟨λa w C M=>wp_region_any hm (by
  have e:ej (Array.replicate ops.size false)=λ_=>false:=by
   funext i
   simp only[ej,Array.getD];split<;>simp
  exact Su hT (U:=U) (a6:=K .normal) (λA a w C bJ hK=>⟨.normal,A,C,rfl,hK,bJ⟩) au l hs pg step _ ey _ _ _ C atx atx (by rw[e];exact M.drew.Hd h1 z) (by rw[e];exact λj k _ h=>by cases h))⟩
end Go.bS
