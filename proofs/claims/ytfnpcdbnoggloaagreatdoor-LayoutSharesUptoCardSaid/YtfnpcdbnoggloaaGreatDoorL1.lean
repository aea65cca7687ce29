/- Contracts of the program's functions, part 1. No conditions of its own. -/
import Derived.WalkKit
import Derived.Great.FillDense
import Derived.Laws.Tables
import Derived.Laws.IdiomStrings
import Derived.Laws.Cover4
import Derived.Laws.Runes
import Derived.Laws.CopyRow
import Derived.Laws.AppendOwn
import Derived.StillTail
import Derived.Laws.MakeOwn
import Derived.MapFrom
set_option linter.unnecessarySimpa false
set_option linter.unusedSimpArgs false
set_option linter.unusedVariables false
set_option maxRecDepth 100000
set_option maxHeartbeats 16000000
theorem atw{p:Prop}(h:p:=by omega):p:=h
theorem atx{p:Prop}(h:p:=by (simp;omega)):p:=h
theorem aty{p:Prop}(h:p:=by simp):p:=h
theorem atz{p:Prop}(h:p:=by decide):p:=h
theorem atA{p:Prop}(h:p:=by decide +kernel):p:=h
theorem atB{p:Prop}(h:p:=by kernel_rfl):p:=h
theorem atC{p:Prop}(h:p:=by (rw[Int.toNat_natCast];rfl)):p:=h
theorem atD{p:Prop}(h:p:=by (intro h;cases h)):p:=h
theorem atE{p:Prop}(h:p:=by exact λw=>rfl):p:=h
abbrev atG:=List UInt8
abbrev atH:=@if_neg
abbrev atI:=@if_pos
abbrev atJ:=@congrArg
abbrev atK:=@List.getElem?_eq_getElem
abbrev atL:=@List.length_map
abbrev atM:=@List.take_succ_eq_append_getElem
abbrev atN:=@Bool.and_eq_true
abbrev atO:=@List.getElem_mem
abbrev atP:=@List.length_append
abbrev atQ:=@Nat.le_refl
abbrev atT:=@List.length_cons
abbrev atU:=@List.mem_cons_self
abbrev atW:=@List.getElem?_eq_none
abbrev atX:=@List.take_length
abbrev atY:=@List.mem_cons_of_mem
abbrev atZ:=@List.eq_nil_of_length_eq_zero
abbrev at0:=@List.getElem?_append_left
abbrev at1:=@List.mem_of_getElem?
abbrev at2:=@of_decide_eq_false
abbrev at3:=@Nat.lt_or_ge
abbrev at4:=@Nat.zero_le
abbrev at5:=@List.mem_cons
abbrev at6:=@Int.tdiv_eq_ediv_of_nonneg
abbrev at7:=@List.length_take
abbrev aua:=@of_decide_eq_true
abbrev aub:=@List.mem_map
abbrev auc:=@beq_true
abbrev aud:=@List.getElem?_map
abbrev aue:=@List.mem_append
abbrev auf:=@List.mem_iff_getElem?
abbrev aug:=@List.take_of_length_le
abbrev auh:=@List.length_nil
abbrev aui:=@List.map_cons
abbrev auj:=@Int.toNat_natCast
abbrev auk:=@decide_eq_false
abbrev aul:=@Nat.le_of_ble_eq_true
abbrev aum:=@List.length_filter_le
abbrev aun:=@List.getElem?_eq_some_iff
abbrev auo:=@List.getElem?_append_right
abbrev aup:=@List.append_assoc
abbrev auq:=@List.map_append
abbrev aur:=@List.mem_iff_getElem
abbrev aus:=@Option.some.injEq
abbrev aut:=@decide_eq_true_eq
abbrev auu:=@Nat.zero_add
abbrev auv:=@List.mem_singleton
abbrev auw:=@List.mem_filter
abbrev auy:=@Nat.lt_succ_self
abbrev auz:=@Nat.lt_of_lt_of_le
abbrev auA:=@beq_eq_false_iff_ne
abbrev auB:=@List.getElem?_take
abbrev auC:=@decide_eq_true
abbrev auD:=@Option.some.inj
abbrev auE:=@List.all_eq_true
abbrev auF:=@Nat.eq_zero_or_pos
abbrev auG:=@List.append_nil
abbrev auH:=@List.nodup_iff_pairwise_ne
abbrev auI:=@List.size_toArray
abbrev auJ:=@Option.getD_some
abbrev auK:=@List.getElem?_mapIdx
abbrev auL:=@List.flatMap_cons
abbrev auM:=@List.filter_cons
abbrev auN:=@Int.le_refl
abbrev auO:=@List.mem_of_mem_take
abbrev auP:=@Option.map_eq_some_iff
abbrev auQ:=@List.drop_eq_getElem_cons
abbrev auR:=@Nat.add_sub_cancel_left
abbrev auS:=@List.cons_append
abbrev auT:=@List.foldl_append
abbrev auU:=@Bool.false_eq_true
abbrev auV:=@List.length_drop
abbrev auW:=@cond_false
abbrev auX:=@if_true
abbrev auY:=@List.filter_append
abbrev auZ:=@List.pairwise_iff_getElem
abbrev au0:=@List.foldl_cons
abbrev au1:=@Nat.beq_refl
abbrev au2:=@Int.tmod_eq_emod_of_nonneg
abbrev au3:=@List.ext_getElem
abbrev au4:=@List.ext_getElem?
abbrev au5:=@Bool.or_eq_true
abbrev au6:=@List.nil_append
abbrev au7:=@Option.map_some
abbrev au8:=@List.length_pos_iff
abbrev au9:=@List.getElem_cons_succ
abbrev au_:=@List.any_eq_true
abbrev au':=@beq_false
abbrev ava:=@Array.getElem?_toList
abbrev avb:=@List.take_append_drop
abbrev avc:=@Nat.le_trans
abbrev avd:=@List.length_set
abbrev ave:=@Array.getElem?_eq_getElem
abbrev avf:=@Nat.not_lt_zero
abbrev avg:=@List.mem_range
abbrev avh:=@Bool.or_eq_false_iff
abbrev avi:=@Nat.mul_le_mul_right
abbrev avj:=@List.find?_eq_none
abbrev avk:=@Bool.and_eq_false_iff
abbrev avl:=@List.range_succ
abbrev avm:=@List.take_succ_cons
abbrev avn:=@decide_eq_false_iff_not
abbrev avo:=@List.take_append_of_le_length
abbrev avp:=@beq_iff_eq
abbrev avq:=@cond_true
abbrev avr:=@List.map_nil
abbrev avs:=@if_false
abbrev avt:=@Array.getD_eq_getD_getElem?
abbrev avu:=@Array.getElem?_eq_some_iff
abbrev avv:=@List.getD_eq_getElem?_getD
abbrev avw:=@dif_pos
abbrev avx:=@Array.length_toList
abbrev avy:=@List.flatMap_append
abbrev avz:=@List.pairwise_map
abbrev avA:=@List.getElem?_toArray
abbrev avB:=@Option.isSome_iff_exists
abbrev avC:=@List.findIdx?_eq_some_iff_getElem
abbrev avD:=@List.nodup_cons
abbrev avE:=@Bool.not_eq_false'
abbrev avF:=@Array.ext'
abbrev avG:=@List.mem_flatMap
abbrev avH:=@Nat.add_assoc
abbrev avI:=@List.take_add_one
abbrev avJ:=@List.reverse_cons
abbrev avK:=@Nat.eq_of_beq_eq_true
abbrev avL:=@Nat.lt_succ_iff_lt_or_eq
abbrev avM:=@List.getElem?_drop
abbrev avN:=@List.map_map
abbrev avO:=@List.getElem?_set
abbrev avP:=@List.getElem?_concat_length
abbrev avQ:=@List.find?_cons
abbrev avR:=@Array.toList_append
abbrev avS:=@Nat.succ_mul
abbrev avT:=@List.getElem_cons_zero
abbrev avU:=@List.findIdx?_eq_none_iff
abbrev avV:=@List.mem_or_eq_of_mem_set
abbrev avW:=@List.cons.injEq
abbrev avX:=@List.mem_of_mem_drop
abbrev avY:=@Nat.zero_lt_one
abbrev avZ:=@List.length_filterMap_le
abbrev av0:=@Bool.not_eq_true'
abbrev av1:=@List.drop_append_of_le_length
abbrev av2:=@List.getElem?_replicate
abbrev av3:=@List.map_congr_left
abbrev av4:=@List.take_zero
abbrev av5:=@Option.map_eq_none_iff
abbrev av6:=@List.getElem?_set_self
abbrev av7:=@List.drop_of_length_le
abbrev av8:=@UInt8.toNat_ofNat'
abbrev av9:=@List.count_pos_iff
abbrev av_:=@Int.ofNat_lt
abbrev av':=@Nat.add_zero
abbrev awa:=@Array.getElem?_modify
abbrev awb:=@List.isSuffixOf_iff_suffix
abbrev awc:=@Nat.lt_trichotomy
abbrev awd:=@Function.comp_def
abbrev awe:=@List.mem_of_find?_eq_some
abbrev awf:=@List.Perm.eq_of_pairwise
abbrev awg:=@List.find?_range_eq_some
abbrev awh:=@List.mem_nil_iff
abbrev awi:=@List.getElem_map
abbrev awj:=@List.getElem_mapIdx
abbrev awk:=@Array.getElem?_setIfInBounds_ne
abbrev awl:=@List.pairwise_mergeSort
abbrev awm:=@List.all_cons
abbrev awn:=@Int.natCast_nonneg
abbrev awo:=@List.mem_filterMap
abbrev awp:=@Nat.min_eq_left
abbrev awq:=@UInt8.lt_irrefl
abbrev awr:=@List.getElem_range
abbrev aws:=@Bool.eq_iff_iff
abbrev awt:=@List.length_pos_of_mem
abbrev awu:=@List.drop_eq_nil_of_le
abbrev awv:=@Nat.mul_one
abbrev aww:=@Bool.eq_false_iff
abbrev awx:=@Nat.sub_self
abbrev awy:=@Nat.add_comm
abbrev awz:=@List.length_mergeSort
abbrev awA:=@Array.getElem?_mapIdx
abbrev awB:=@or_false
abbrev awC:=@Array.replicate_succ
abbrev awD:=@Array.replicate_zero
abbrev awE:=@Array.getElem?_append_left
abbrev awF:=@Bool.true_and
abbrev awG:=@Option.ne_none_iff_exists'
abbrev awH:=@Nat.add_mul
abbrev awI:=@List.append_toArray
abbrev awJ:=@List.mergeSort_perm
abbrev awK:=@UInt8.not_lt
abbrev awL:=@List.Pairwise.imp_of_mem
abbrev awM:=@dif_neg
abbrev awN:=@Option.bind_eq_some_iff
abbrev awO:=@Nat.le_mul_of_pos_right
abbrev awP:=@Array.size_mapIdx
abbrev awQ:=@List.push_toArray
abbrev awR:=@List.filter_eq_nil_iff
abbrev awS:=@List.flatMap_singleton
abbrev awT:=@List.append_eq_nil_iff
abbrev awU:=@Array.getElem?_eq_none
abbrev awV:=@List.any_cons
abbrev awW:=@Prod.mk.injEq
abbrev awX:=@List.sum_cons
abbrev awY:=@Nat.lt_irrefl
abbrev awZ:=@List.getElem_set
abbrev aw0:=@List.mem_reverse
abbrev aw1:=@List.not_mem_nil
abbrev aw2:=@List.pairwise_reverse
abbrev aw3:=@List.length_replicate
abbrev aw4:=@List.singleton_append
abbrev aw5:=@Nat.ble_eq_true_of_le
abbrev aw6:=@List.mem_of_mem_tail
abbrev aw7:=@List.map_set
abbrev aw8:=@List.getElem?_append
abbrev aw9:=@List.getElem?_set_ne
abbrev aw_:=@List.find?_some
abbrev aw':=@List.mem_mapIdx
theorem axa{p:Prop}(h:p:=by intro kK kn gI mb v X w' qz;have h':=grownCap_ge w (xs.length+a'.length) kn aF.t;have l9:=grownCap_le_maxLen w (xs.length+a'.length) kn aF.t (by simp only[maxLen];omega);generalize grownCap w (xs.length+a'.length) kn aF.t=o5 at X qz h' l9;(have tF:(kK.toArray++fp.toArray++Builtin.zeroCells eh.cells (o5-(xs.length+a'.length))).size=o5*aF.aC:=by simp only[Array.size_append,auI,size_zeroCells,DT,gI,jG,<-awH];congr 1;omega);have hV:=c_.drew (λ_=>False) w C;have jh:=c_.alloc (λ_=>False) w.drew C (.cells (kK.toArray++fp.toArray++Builtin.zeroCells eh.cells (o5-(xs.length+a'.length))) aF.t) 0;have hs:=hV.trans jh (λ_ _ M=>M);rw[<-qz]at hs jh;refine⟨_,M.bZ hs (λ_ M=>M.elim) (λ_ _ _ _ _ _ M=>M) λx F=>?_⟩;cases F;refine⟨⟨some ⟨w.heap.size,0,none⟩,o5,by rw[X,hlen],by rw[hlen];exact h',l9,Ee,λdE gb=>⟨_,by cases gb;rfl,?_⟩,λ_=>⟨w.heap.size,_,rfl,?_,tF,?_,λj d N=>?_⟩⟩,λb I=>?_⟩;rw[qz];exact hD (kH w.drew _);rw[qz];exact kH w.drew _;exact hr _ _ _;rw[xT,pV]at N;split at N;obtain⟨aj,an,ae,ah⟩:=mb j d N;refine⟨aj,?_,ae.ext hs.ext,ah⟩;have:=e7 an;rw[<-ava];simp only[avR];rw[aup,pV,atI (by simpa using this)];simpa using an;rename_i aa;obtain⟨aj,an,ae,ah⟩:=xX _ d N;refine⟨aj,?_,ae.ext hs.ext,ah⟩;rw[<-ava];simp only[avR];rw[aup,pV,atH atx,pV,atI (by have:=e7 an;simp;omega)];simpa[gI,dm]using an;obtain⟨hM,hP,dP,_⟩:=I;rw[X]at dP;simp only[Value.slice.injEq,aus,Addr.mk.injEq]at dP;obtain⟨⟨rfl,_⟩,_⟩:=dP;exact⟨h.DS,.inr (atQ _)⟩):p:=h
theorem axb{p:Prop}(h:p:=by (have I:bg[i]=false:=by simpa[Array.getD,mh]using qJ);(have bV:(bg.setIfInBounds i true).toList=bg.toList.set i true:=by simp);rw[bV];(have b9:(bg.toList.set i true).count false+1=bg.toList.count false:=by have:=List.count_set (l:=bg.toList) (i:=i) (a:=true) (b:=false) (by simpa using mh);(have Z:bg.toList[i]'(by simpa using mh)=false:=by simpa using I);(have bb:(if(bg.toList[i]'(by simpa using mh))==false then 1 else 0)=1:=by rw[Z];rfl);have cL:(if(true==false)=true then 1 else 0)=0:=rfl;have eV:0<bg.toList.count false:=av9.2 (by rw[<-Z];exact atO _);omega);omega):p:=h
theorem axc{p:Prop}(h:p:=by refine f_ ?_;refine aK false rfl ?_ ?_<;>intro hc;cases hc;apply co;refine f_ ?_;refine aK false rfl ?_ ?_<;>intro hc;cases hc;refine go ?_;refine aK (decide (x<y)) rfl ?_ ?_<;>intro hc;refine go ?_;rw[qm,atI (by simpa using hc)];exact E;refine go ?_;rw[qm,atH (by simpa using hc)];refine go ?_;refine aK (decide (y<x)) rfl ?_ ?_<;>intro hc;refine go ?_;rw[atI (by simpa using hc)];exact E;refine go ?_;rw[atH (by simpa using hc)];exact E):p:=h
theorem axd{p:Prop}(h:p:=by by_cases DQ:n=0;subst DQ;have pP:vs=[]:=atZ o1;subst pP;have tH:Array.range 0=#[]:=rfl;simp[tH,Instr.buildSlice,run_underlying an,sizeOf,typeInfo,hi,Instr.fill,newRow];(have a7:¬n*aF.aC=0:=by intro h;rcases Nat.mul_eq_zero.1 h with h|h<;>omega);(have Lh:¬16777216<n*aF.aC:=by omega);simp[Instr.buildSlice,run_underlying an,sizeOf,typeInfo,zeroValue,hi,lF,hs,a7,Lh,DP,newRow]):p:=h
theorem axf{p:Prop}(h:p:=by intro ag;refine xf (p:=λag=>∀m,m<=ag.length->(hb v ag).reverse.take m=(hb v (ag.take m)).reverse) (λm hm=>by simp at hm;subst hm;rfl) (λl x aZ m hm=>?_) ag;rw[xg,avJ];by_cases gs:m<=l.length;rw[avo (by simp[td];exact gs),aZ m gs,avo gs];(have tW:m=l.length+1:=by simp at hm;omega);subst tW;rw[aug (by simp[td]),aug aty,xg,avJ]):p:=h
theorem axg{p:Prop}(h:p:=by obtain⟨v,X⟩:=lE (l:=(vs.map (·.2)).flatMap λv=>v.cells.toList) (i:=j) (by have:=e7 N;rw[dm.1]at this;exact this);refine⟨v,X,dm.2 j d v N X,?_⟩;obtain⟨aj,an,Li⟩:=avG.1 (at1 X);obtain⟨i,hi⟩:=auf.1 an;obtain⟨d',hg⟩:=lE (l:=ds.map (·.2)) (i:=i) (by have:=e7 hi;simp only[atL]at this⊢;omega);exact(hsz i d' aj hg hi).2.2.2 v Li):p:=h
theorem axh{p:Prop}(h:p:=by apply au4;intro j;by_cases aa:j<vs.length;(have bV:(vs.map (·.1))[j]?=some j:=by rw[h1,tG,List.getElem?_range' atw];simp);have b9:vs[j]?=some vs[j]:=atK aa;simp only[aud,List.getElem?_zipIdx,b9,au7]at bV⊢;(have kl:vs[j].1=j:=by simpa using bV);congr 1;ext;simpa using kl;rfl;rw[atW atw,atW atx]):p:=h
theorem axj{p:Prop}(h:p:=by simp only[Region.ready,auw,avg,atN,av0];refine⟨hi,al,?_⟩;rw[ah];simp only[au7,auJ];refine Array.all_eq_true'.2 λe ao=>?_;have:=ae e (by simpa using ao);cases I:Region.binds Region.Mode.any e with|true=>simpa using this I|false=>simp):p:=h
theorem axk{p:Prop}(h:p:=by funext j;simp only[fN];rw[LR (f:=ei bg) λe ao I=>lM e ao I];cases I:Nat.beq j i with|true =>have:=auc I;subst this;(have bf:j<bg.size:=by omega);simp only[ei,Array.getD,bf,avw]at qJ⊢;simpa using qJ.symm|false=>rfl):p:=h
theorem axl{p:Prop}(h:p:=by simp only[entry,LC];by_cases hi:i<args.length;obtain⟨d,N⟩:=lE (l:=ds) (i:=i) atw;have X:args[i]?=some args[i]:=atK hi;have:=ae.2 i d _ N X;simpa[N,Array.getElem?_append,hi]using this;rw[atW atw];exact .any _):p:=h
theorem axm{p:Prop}(h:p:=by (have hlen:(fL .i64 (chars s).1).length=(chars s).1.length:=by simp[fL]);rw[hlen];cases(chars s).2==0;rfl;by_cases h1:1<=(chars s).1.length<;>by_cases A:(chars s).1.length<=64<;>simp[h1,A]<;>omega):p:=h
theorem axn{p:Prop}(h:p:=by cases mT:o.guard with|none=>simp[Region.wanted,mT]|some zR =>obtain⟨j,iz⟩:=zR;rw[mT]at aW;obtain⟨g,h1,A⟩:=aW;have jH:=M.tmps g;rw[A]at jH;have hy:=xZ h1 jH.hL;simp[Region.wanted,mT,hy]):p:=h
theorem axo{p:Prop}(h:p:=by (cases i with|zero=>simp at ah;subst ah;exact h.1 y f|succ i =>have:=aZ h.2 (i:=i) (o:=o) (by simpa using ah) y f;rw[show n+1+i=n+(i+1) by omega]at this;exact this)):p:=h
theorem axp{p:Prop}(h:p:=by (have bf:i<bg.size:=by omega);have:=List.count_eq_zero.1 hc;cases I:bg[i]with|true=>simp[ei,bf,I]|false=>exact absurd (by rw[<-I];simp[Array.getElem_mem]) this):p:=h
theorem axq{p:Prop}(h:p:=by simp only[execOp,resolve,X,Deferred.ofValue,Sem.run_bind,Sem.run_pure,Result.andThen_ok,invoke,callFunc,run_program,jg,l',I,auU,avs];congr 2;apply avF;simp):p:=h
theorem axr{p:Prop}(h:p:=by rename_i x;obtain⟨d,N,ae⟩:=iR G;split at N;rename_i hB i;refine⟨i,N,λav w C ρ cZ=>.inr ⟨hB,?_⟩⟩;simp[(ae av w C _ (cZ x rfl)).fw];exact False.elim N):p:=h
theorem axs{p:Prop}(h:p:=by intro v X;obtain⟨j,aa⟩:=auf.1 X;obtain⟨d,N⟩:=lE (l:=ds.map (·.2)) (i:=j) (by have:=e7 aa;simp only[atL]at this⊢;omega);exact(hsz j d v N aa).2.1):p:=h
theorem axt{p:Prop}(h:p:=by intro x F;obtain⟨j,aa⟩:=auf.1 F;obtain⟨v,X⟩:=lE (l:=vs.map (·.2)) (i:=j) (by have:=e7 aa;simp only[atL]at this⊢;omega);exact(hsz j x v aa X).1):p:=h
theorem axu{p:Prop}(h:p:=by apply b4;apply b4;refine vi ?_;refine⟨λ_=>by omega,?_⟩;refine go ?_;have G:(n+2048-1).tdiv 2048=(n+2048-1)/2048:=at6 atw;refine go ?_;exact E):p:=h
theorem axv{p:Prop}(h:p:=by refine go ?_;refine aq.of_eq (atJ D.bool ?_);unfold em;by_cases h1:32<=r<;>by_cases A:r<=65533<;>by_cases Z:r<55296<;>simp[h1,A,Z]):p:=h
theorem axw{p:Prop}(h:p:=by (have ae:r=[]:=by simpa using hc);subst ae;(have:chars s=(fz,0):=by rw[chars,atH jh,kQ];simp[jo,yq]);rw[this];exact⟨aq.mL,E,ak⟩):p:=h
theorem axx{p:Prop}(h:p:=by (have e:gx H [(k,s)]=aL [(k,o)]:=by funext j;simp only[gx,aL];cases Nat.beq j k with|true=>exact h|false=>rfl);rw[e];exact hc):p:=h
theorem axy{p:Prop}(h:p:=by intro j d v N X;have ae:=A.2 j d v N X;simp only[aud,auP]at N;obtain⟨x,F,rfl⟩:=N;exact hcells w C x (at1 F) v ae):p:=h
theorem axz{p:Prop}(h:p:=by simp only[aL]at h;cases h1:Nat.beq s a with|true=>rw[h1]at h;cases h;exact⟨auc h1,rfl⟩|false=>rw[h1]at h;cases h):p:=h
theorem axA{p:Prop}(h:p:=by by_cases o6:k=j;subst o6;rw[atI rfl,atI atw];rw[atH o6];by_cases aa:j<k;rw[atI aa,atI atw];rw[atH aa,atH atw]):p:=h
theorem axB{p:Prop}(h:p:=by obtain⟨_,_,_,_,_,cL⟩:=Qu h;unfold nv at cL;split at cL;cases cL;rename_i hc;unfold r1 at hc;simp at hc;omega):p:=h
theorem axC{p:Prop}(h:p:=by unfold fR;rw[ta,q1];by_cases h:(gV v l bd).2=[];rw[atI (yR.2 h),atI h];rw[atH (λe=>h (yR.1 e)),atH h]):p:=h
theorem axD{p:Prop}(h:p:=by refine DX k ok Y kk ?_ ff;by_cases o6:j=k;subst o6;exact DY;rw[getD_set_ne true o6]at u_;exact u_):p:=h
theorem axE{p:Prop}(h:p:=by cases Nat.beq j cq with|true=>exact h1|false =>(cases Nat.beq j d8 with|true=>exact A|false=>rfl)):p:=h
theorem axF{p:Prop}(h:p:=by obtain⟨aj,an,ae,ah⟩:=mb j d N;have aa:=e7 N;exact⟨aj,by rw[auB,atI atw];simpa using an,ae,ah⟩):p:=h
theorem axG{p:Prop}(h:p:=by rcases at3 j n with h|h;exact h;exact absurd aa (tail_waits hs hc aw pJ _ i rfl ci u_ j h)):p:=h
theorem axH{p:Prop}(h:p:=by rcases ae.kh with⟨rfl,⟨_,X⟩,_⟩|⟨b,o,hP,g,X,_,I,hc,_⟩;exact⟨_,_,X,by simp⟩;exact⟨_,_,X,hc⟩):p:=h
theorem axI{p:Prop}(h:p:=by rcases at3 j K with h|h;exact h;(have:j=K:=by omega);subst this;exact absurd AJ mc.2.1):p:=h
theorem axJ{p:Prop}(h:p:=by rw[Ze];cases h1:s.iso<;>cases A:s.rock<;>rw[h1,A]at hc<;>first|(cases hc;done)|decide):p:=h
theorem axK{p:Prop}(h:p:=by rw[auB]at aa;split at aa;rw[o0,auu];simp only[World.cell?,I];simpa using aa;cases aa):p:=h
theorem axM{p:Prop}(h:p:=by exact dt (zQ (p:=λk:ad=>k.name==q) λj aa=>ay j aa (by simp at hc;omega)).symm):p:=h
theorem axN{p:Prop}(h:p:=by cases h0:decide ((0:Int)<i)<;>rw[h0]at hc<;>simp at h0 hc;exact⟨by omega,hc⟩):p:=h
theorem axO{p:Prop}(h:p:=by have:=(s.getD 0 0).toNat_lt;have:=(s.getD 1 0).toNat_lt;simp only[du];omega):p:=h
theorem axP{p:Prop}(h:p:=by simp[execOp,resolve,invoke,builtin,Builtin.len_,run_underlying an,A,goInt]):p:=h
theorem axQ{p:Prop}(h:p:=by clear sP;induction l with|nil=>trivial|cons x r aZ=>exact⟨h1.1,aZ h1.2⟩):p:=h
theorem axR{p:Prop}(h:p:=by cases h:Nat.beq k i with|false=>rfl|true=>have:=avK h;simp at ha;omega):p:=h
theorem axS{p:Prop}(h:p:=by obtain⟨h1,A⟩:=sp hc;obtain⟨Z,aG⟩:=sp h1;have:=at2 A;have:=at2 aG;omega):p:=h
theorem axT{p:Prop}(h:p:=by have:=h.kind;unfold xR at this;rw[Y]at this;split at this<;>simp_all):p:=h
theorem axU{p:Prop}(h:p:=by obtain⟨aj,h1,A,Z⟩:=ae j d N;exact⟨aj,by simpa using h1,A.ext ji,Z⟩):p:=h
theorem axV{p:Prop}(h:p:=by obtain⟨h1,A,Z⟩:=P7 h;exact(k5 _ _ atw).trans ((y8 rfl A).trans h)):p:=h
theorem axW{p:Prop}(h:p:=by unfold Utf8.encode;simp only[X,auX,auj];rw[atH mW,atH A,atI atw]):p:=h
theorem axX{p:Prop}(h:p:=by cases Z:decide ((i:Int)<=3)<;>rw[Z]at hc<;>simp at Z hc<;>omega):p:=h
theorem axY{p:Prop}(h:p:=by simp only[Region.wanted,aW,hy a w C h];cases b<;>cases c<;>rfl):p:=h
theorem axZ{p:Prop}(h:p:=by by_cases h1:(s.length:Int)<1;simp[h1]at hc;simp[h1]at hc;omega):p:=h
theorem ax0{p:Prop}(h:p:=by rcases jf with h|h;have:=hc.2;rw[h]at this;cases this;exact h):p:=h
theorem ax1{p:Prop}(h:p:=by subst F;exact h.heap.inj s bo _ o x (Ne.symm a7) hs ah rfl an):p:=h
theorem ax2{p:Prop}(h:p:=by subst F;exact M.heap.inj s bo _ o x (Ne.symm a7) hs ah rfl an):p:=h
theorem ax3{p:Prop}(h:p:=by rw[w5 (by simpa using h)];simp[et,show t-1<J.length by omega]):p:=h
theorem ax4{p:Prop}(h:p:=by rcases aue.1 F with F|F<;>first|exact pX x F|exact Bp x F):p:=h
theorem ax5{p:Prop}(h:p:=by first|omega|(simp only[du]at*;omega)|(simp[du]at*;omega)):p:=h
theorem ax6{p:Prop}(h:p:=by refine go ?_;exact dt (by rw[ay,Am (by simpa using hc)])):p:=h
theorem ax7{p:Prop}(h:p:=by rw[o4];exact growslice_fits atw (by simpa using ma)):p:=h
theorem ax8{p:Prop}(h:p:=by by_cases e9:j=i;subst e9;exact hc;exact ay j h atw):p:=h
theorem ax9{p:Prop}(h:p:=by show p.files.length-(i+1)<p.files.length-i;omega):p:=h
theorem ax_{p:Prop}(h:p:=by have:=(s.getD 0 0).toNat_lt;simp only[du];omega):p:=h
theorem ax'{p:Prop}(h:p:=by intro hl;(conv=>whnf);refine go ?_;exact hl.cr):p:=h
theorem aya{p:Prop}(h:p:=by refine W.vp 46 9 rfl ?_;refine go ?_;exact ar):p:=h
theorem ayb{p:Prop}(h:p:=by simp only[Region.wanted,aW,hy];cases b<;>rfl):p:=h
theorem ayd{p:Prop}(h:p:=by simp only[Array.getD,lN,avw];simpa using I):p:=h
theorem aye{p:Prop}(h:p:=by show p.cW.length-(i+1)<p.cW.length-i;omega):p:=h
theorem ayf{p:Prop}(h:p:=by obtain⟨j,rfl,_,_⟩:=tr h;exact⟨by omega,h⟩):p:=h
theorem ayg{p:Prop}(h:p:=by first|exact h|(rw[h];rfl)|(rw[h0,h];rfl)):p:=h
theorem ayh{p:Prop}(h:p:=by show n.J.length-(i+1)<n.J.length-i;omega):p:=h
theorem ayi{p:Prop}(h:p:=by rw[lz];have:=aum aT.dd l;unfold bP;omega):p:=h
theorem ayj{p:Prop}(h:p:=by rw[getD_replicate_false]at al;cases al):p:=h
theorem ayk{p:Prop}(h:p:=by simp only[Value.slice.injEq]at h;omega):p:=h
theorem ayl{p:Prop}(h:p:=by rw[<-b9];exact List.length_append.symm):p:=h
theorem aym{p:Prop}(h:p:=by rcases tM b bN with h|h;exact h;omega):p:=h
theorem ayn{p:Prop}(h:p:=by subst ci;rw[atX];refine go ?_;exact E):p:=h
theorem ayo{p:Prop}(h:p:=by show s.length-(i+1)<s.length-i;omega):p:=h
theorem ayp{p:Prop}(h:p:=by show l.length-(i+1)<l.length-i;omega):p:=h
theorem ayq{p:Prop}(h:p:=by show T.length-(i+1)<T.length-i;omega):p:=h
theorem ayr{p:Prop}(h:p:=by show P.length-(i+1)<P.length-i;omega):p:=h
theorem ays{p:Prop}(h:p:=by have:=a6.dr;rwa [auB,atI atw]at this):p:=h
theorem ayt{p:Prop}(h:p:=by subst F;exact h.heap.cI q _ _ hH e8):p:=h
theorem ayu{p:Prop}(h:p:=by subst F;exact M.heap.cI s _ _ hs e8):p:=h
theorem ayv{p:Prop}(h:p:=by rw[o4];exact growslice_fits atw ma):p:=h
theorem ayw{p:Prop}(h:p:=by rw[auA];intro e;subst e;simp at hc):p:=h
theorem ayx{p:Prop}(h:p:=by intro hl;refine go ?_;exact hl.cr):p:=h
theorem ayy{p:Prop}(h:p:=by simp only[putCells,awP];exact fy):p:=h
theorem ayz{p:Prop}(h:p:=by simp[Op.operands,Call.operands]):p:=h
theorem ayA{p:Prop}(h:p:=by (conv=>whnf);exact⟨_,E,rfl,rfl⟩):p:=h
theorem ayB{p:Prop}(h:p:=by refine go ?_;exact⟨_,E,rfl,rfl⟩):p:=h
theorem ayC{p:Prop}(h:p:=by simp at hc;simp only[du];omega):p:=h
theorem ayD{p:Prop}(h:p:=by obtain⟨y,_,rfl⟩:=aub.1 F;rfl):p:=h
namespace Go.bR
open Go Go.RowKit
inductive iv where
 |none
 |dV
 |own (s:Nat) (v:Value)
inductive D where
 |any
 |undef
 |bool (b:Bool)
 |int (k:IntKind) (n:Int)
 |O (s:atG)
 |agg (aB:List D)
 |bj
 |Q (t:iv) (k:Nat) (xs:List D)
 |fn (f:Fn) (first ov:List D)
 |bp (ds:List D)
 |a_ (k:Nat) (xs:List D) (i off:Nat)
 |box (s b off:Nat)
 |l5 (g:Bool) (d:D)
 |ai (v:Value)
def D.cells:D->List D
 |.agg aB=>aB
 |d=>[d]
def b2(xs:List D):List D:=xs.flatMap D.cells
def iv.gh(t:iv)(v:Value):Prop :=
 match t with
 |.none=>True
 |.dV=>∃a n,v=.slice a n n
 |.own _ c9=>v=c9
inductive bh (w:World) (C:Nat->Nat):D->Value->Prop
 |any (v:Value):bh w C .any v
 |undef:bh w C .undef Go.undef
 |bool (b:Bool):bh w C (.bool b) (.bool b)
 |int (k:IntKind) (n:Int):bh w C (.int k n) (.int k n)
 |O (s:atG):bh w C (.O s) (.string ⟨⟨s⟩⟩)
 |agg (aB:List D) (vs:List Value) (al:aB.length=vs.length)
   (h:∀(i:Nat) d v,aB[i]?=some d->vs[i]?=some v->bh w C d v):bh w C (.agg aB) (.agg ⟨vs⟩)
 |bj:bh w C .bj (.slice none 0 0)
 |iP (t:iv) (k:Nat) (a:Option Addr) (av:t.gh (.slice a 0 0)):bh w C (.Q t k []) (.slice a 0 0)
 |Q (t:iv) (k:Nat) (xs:List D) (b o cap:Nat) (g:Nat->Value)
   (av:t.gh (.slice (some ⟨b,o,none⟩) xs.length cap))
   (I:b<w.heap.size) (hc:xs.length<=cap) (hm:cap<=maxLen)
   (Y:∀x∈xs,x.cells.length=k) (de:o+xs.length*k<=C b)
   (ga:∀(j:Nat) d,(b2 xs)[j]?=some d->w.cell? ⟨b,o+j,none⟩=some (g j))
   (ee:∀(j:Nat) d,(b2 xs)[j]?=some d->(g j).oneCell'=true)
   (h:∀(j:Nat) d,(b2 xs)[j]?=some d->bh w C d (g j)):bh w C (.Q t k xs) (.slice (some ⟨b,o,none⟩) xs.length cap)
 |fn (f:Fn) (first ov:List D) (fM he:List Value) (al:first.length=fM.length) (mG:ov.length=he.length)
   (h:∀(i:Nat) d v,first[i]?=some d->fM[i]?=some v->bh w C d v)
   (bB:∀(i:Nat) d v,ov[i]?=some d->he[i]?=some v->bh w C d v):bh w C (.fn f first ov) (.func f ⟨fM⟩ ⟨he⟩)
 |bp (ds:List D) (vs:List Value) (al:ds.length=vs.length)
   (h:∀(i:Nat) d v,ds[i]?=some d->vs[i]?=some v->bh w C d v):bh w C (.bp ds) (.tuple ⟨vs⟩)
 |a_ (k:Nat) (xs:List D) (i off:Nat) (b o cap:Nat) (h:bh w C (.Q .none k xs) (.slice (some ⟨b,o,none⟩) xs.length cap)) :
   bh w C (.a_ k xs i off) (.pointer (some ⟨b,o+i*k+off,none⟩))
 |box (s b off:Nat):bh w C (.box s b off) (.pointer (some ⟨b,off,none⟩))
 |pH (d:D) (v:Value) (h:bh w C d v):bh w C (.l5 true d) v
 |u2 (d:D):bh w C (.l5 false d) Go.undef
 |ai (v:Value):bh w C (.ai v) v
def c'(w:World)(C:Nat->Nat)(ds:List D)(vs:List Value):Prop :=
 ds.length=vs.length/\∀(i:Nat) d v,ds[i]?=some d->vs[i]?=some v->bh w C d v
structure nN (w:World) (C:Nat->Nat) (w':World) (aR:Nat->Nat):Prop where
 size:w.heap.size<=w'.heap.size
 le:∀b,b<w.heap.size->C b<=aR b
 cells:∀b o,b<w.heap.size->o<C b->w'.cell? ⟨b,o,none⟩=w.cell? ⟨b,o,none⟩
theorem nN.refl(w:World)(C:Nat->Nat):nN w C w C:=⟨atQ _,λ_ _=>atQ _,λ_ _ _ _=>rfl⟩
variable{w w':World}{C aR:Nat->Nat}
theorem nN.trans{rs:World}{lD:Nat->Nat}(h:nN w C w' aR)(bB:nN w' aR rs lD):nN w C rs lD :=
 ⟨avc h.size bB.size,λb I=>avc (h.le b I) (bB.le b (auz I h.size)),
  λb o I ah=>by
   rw[bB.cells b o (auz I h.size) (auz ah (h.le b I)),h.cells b o I ah]⟩
theorem pI{k:Nat}:∀{xs:List D},(∀x∈xs,x.cells.length=k)->(b2 xs).length=xs.length*k
 |[],_=>by simp[b2]
 |x::xs,h=>by have h1:=pI (xs:=xs) (λy hy=>h y (atY _ hy));have A:=h x atU;simp only[b2,auL,atP,atT]at*;rw[h1,A,avS];omega
variable{d:D}{v:Value}
theorem bh.ext(ao:nN w C w' aR)(h:bh w C d v):bh w' aR d v:=by induction h with|any v=>exact .any v|undef=>exact .undef|bool b=>exact .bool b|int k n=>exact .int k n|O s=>exact .O s|agg aB vs al _ aZ=>exact .agg aB vs al aZ|bj=>exact .bj|iP t k a av=>exact .iP t k a av|Q t k xs b o cap g av I hc hm Y de ga ee _ aZ =>refine .Q t k xs b o cap g av (auz I ao.size) hc hm Y (avc de (ao.le b I)) (λj d aa=>?_) ee aZ;rw[ao.cells b (o+j) I ?_];exact ga j d aa;(have bf:j<(b2 xs).length:=by rcases at3 j (b2 xs).length with h|h;exact h;rw[atW h]at aa;cases aa);rw[pI Y]at bf;omega|fn f first ov fM he al mG _ _ aZ abh=>exact .fn f first ov fM he al mG aZ abh|bp ds vs al _ aZ=>exact .bp ds vs al aZ|a_ k xs i off b o cap _ aZ=>exact .a_ k xs i off b o cap aZ|box s b off=>exact .box s b off|pH d v _ aZ=>exact .pH d v aZ|u2 d=>exact .u2 d|ai v=>exact .ai v
variable{s:atG}{aj:Value}{b:Nat}{aB:List D}
section pJ
theorem bh.fw{k:IntKind}{n:Int}(h:bh w C (.int k n) v):v=.int k n:=by cases h;rfl
theorem bh.hL{b:Bool}(h:bh w C (.bool b) v):v=.bool b:=by cases h;rfl
theorem bh.kD(h:bh w C (.O s) v):v=.string ⟨⟨s⟩⟩:=by cases h;rfl
theorem bh.abi(h:bh w C .undef v):v=Go.undef:=by cases h;rfl
theorem bh.xP(h:bh w C .bj v):v=.slice none 0 0:=by cases h;rfl
theorem bh.f4(h:bh w C (.ai aj) v):v=aj:=by cases h;rfl
theorem bh.wC{s off:Nat}(h:bh w C (.box s b off) v):v=.pointer (some ⟨b,off,none⟩):=by cases h;rfl
theorem bh.tx(h:bh w C (.agg aB) v):∃vs,v=.agg ⟨vs⟩/\c' w C aB vs:=by cases h with|agg aB vs al h=>exact⟨vs,rfl,al,h⟩
theorem bh.abj(h:bh w C (.bp aB) v):∃vs,v=.tuple ⟨vs⟩/\c' w C aB vs:=by cases h with|bp aB vs al h=>exact⟨vs,rfl,al,h⟩
theorem bh.u3{f:Fn}{first ov:List D}(h:bh w C (.fn f first ov) v):∃fM he,v=.func f ⟨fM⟩ ⟨he⟩/\c' w C first fM/\c' w C ov he:=by cases h with|fn f first ov fM he al mG h bB=>exact⟨fM,he,rfl,⟨al,h⟩,⟨mG,bB⟩⟩
end pJ
theorem c'.ext{w w':World}{C aR:Nat->Nat}(ao:nN w C w' aR){ds:List D}{vs:List Value}(h:c' w C ds vs):c' w' aR ds vs :=
 ⟨h.1,λi d v N X=>(h.2 i d v N X).ext ao⟩
def D.iw:D->D
 |.Q _ k xs=>.Q .none k xs
 |.bj=>.Q .none 0 []
 |d=>d
theorem bh.iw{w:World}{C:Nat->Nat}{d:D}{v:Value}(h:bh w C d v):bh w C d.iw v:=by cases h with|bj=>exact .iP .none 0 none trivial|iP t k a av=>exact .iP .none k a trivial|Q t k xs b o cap g av I hc hm Y de ga ee h=>exact .Q .none k xs b o cap g trivial I hc hm Y de ga ee h|any v=>exact .any v|undef=>exact .undef|bool b=>exact .bool b|int k n=>exact .int k n|O s=>exact .O s|agg aB vs al h=>exact .agg aB vs al h|fn f first ov fM he al mG h bB=>exact .fn f first ov fM he al mG h bB|bp ds vs al h=>exact .bp ds vs al h|a_ k xs i off b o cap h=>exact .a_ k xs i off b o cap h|box s b off=>exact .box s b off|pH d v h=>exact .pH d v h|u2 d=>exact .u2 d|ai v=>exact .ai v
inductive aJ where
 |box (b:Nat) (aB:List D)
 |own (v:Value) (n k e:Nat)
 |row (v:Value) (xs:List D) (k e:Nat)
 |set (b:Nat) (ag:List atG)
 |cj (b:Nat) (o:Obj)
 |mp (b:Nat) (b3:List (D×D))
 |kE (b:Nat) (e:TypeId) (aB:List D)
abbrev bE:=Nat->Option aJ
def aJ.ef:aJ->Nat->Prop
 |.box b _,x=>x=b
 |.own v n _ _,x=>∃o cap,v=.slice (some ⟨x,o,none⟩) n cap/\n<cap
 |.row v _ _ _,x=>∃n cap,v=.slice (some ⟨x,0,none⟩) n cap/\0<cap
 |.set b _,x=>x=b
 |.cj b _,x=>x=b
 |.mp b _,x=>x=b
 |.kE b _ _,x=>x=b
def abk(w:World)(C:Nat->Nat)(v:Value)(n k e:Nat):Prop :=
 ∃a cap,v=.slice a n cap/\n<=cap/\cap<=maxLen/\
  (n<cap->∃b vs,a=some ⟨b,0,none⟩/\w.heap[b]?=some (.cells vs e (0,0))/\vs.size=cap*k/\C b=n*k)
def kf(w:World)(C:Nat->Nat)(v:Value)(xs:List D)(k e:Nat):Prop :=
 ∃a cap,v=.slice a xs.length cap/\xs.length<=cap/\cap<=maxLen/\(∀x∈xs,x.cells.length=k)/\(∀dE,a=some dE->∃b,dE=⟨b,0,none⟩/\b<w.heap.size)/\
  (0<cap->∃b vs,a=some ⟨b,0,none⟩/\w.heap[b]?=some (.cells vs e (0,0))/\vs.size=cap*k/\C b=0/\
   ∀(j:Nat) d,(b2 xs)[j]?=some d->∃aj,vs[j]?=some aj/\bh w C d aj/\aj.oneCell'=true)
def Dv(w:World)(C:Nat->Nat)(b:Nat)(ag:List atG):Prop :=
 ∃ew h7,w.heap[b]?=some (.map ew h7)/\C b=0/\(∀x∈ew.toList,(∃s,x.key=.string ⟨⟨s⟩⟩)/\x.val=.bool true)/\
  ∀s:atG,s∈ag↔∃x∈ew.toList,x.key=.string ⟨⟨s⟩⟩
def mH:D->Option Value
 |.O s=>some (.string ⟨⟨s⟩⟩)
 |.int k n=>some (.int k n)
 |.bool b=>some (.bool b)
 |_=>none
def Bb(w:World)(C:Nat->Nat)(b:Nat)(b3:List (D×D)):Prop :=
 ∃ew h7,w.heap[b]?=some (.map ew h7)/\C b=0/\ew.size=b3.length/\(∀(i j:Nat) k bz d d',b3[i]?=some (k,d)->b3[j]?=some (bz,d')->mH k=mH bz->i=j)/\
  ∀(i:Nat) k d e,b3[i]?=some (k,d)->ew[i]?=some e->mH k=some e.key/\bh w C d e.val
def ty(w:World)(C:Nat->Nat):aJ->Prop
 |.box b aB=>∃vs e,w.heap[b]?=some (.cells ⟨vs⟩ e (0,0))/\c' w C aB vs/\C b=0
 |.own v n k e=>abk w C v n k e
 |.row v xs k e=>kf w C v xs k e
 |.set b ag=>Dv w C b ag
 |.cj b o=>w.heap[b]?=some o/\C b=0
 |.mp b b3=>Bb w C b b3
 |.kE b e aB=>∃vs,w.heap[b]?=some (.cells ⟨vs⟩ e (0,0))/\c' w C aB vs/\C b=0
structure l6 (Ft:Nat->Prop) (w:World) (C:Nat->Nat) (H:bE):Prop where
 cj:∀s o,H s=some o->ty w C o
 inj:∀s bo o bM b,s≠bo->H s=some o->H bo=some bM->o.ef b->¬bM.ef b
 cI:∀s o b,H s=some o->o.ef b->Ft b
structure c_ (Ft:Nat->Prop) (w:World) (C:Nat->Nat) (w':World) (aR:Nat->Nat):Prop where
 ext:nN w C w' aR
 os:w'.os=w.os
 tape:w'.tape=w.tape
 output:w'.output=w.output
 ix:∀b,b<w.heap.size->¬Ft b->w'.heap[b]?=w.heap[b]?/\aR b=C b
theorem c_.refl(Ft:Nat->Prop)(w:World)(C:Nat->Nat):c_ Ft w C w C:=⟨.refl w C,rfl,rfl,rfl,λ_ _ _=>⟨rfl,rfl⟩⟩
theorem c_.trans{Ft RA:Nat->Prop}{w w' rs:World}{C aR lD:Nat->Nat}(h:c_ Ft w C w' aR)(bB:c_ RA w' aR rs lD)
  (hs:∀b,b<w.heap.size->RA b->Ft b):c_ Ft w C rs lD :=
 ⟨h.ext.trans bB.ext,bB.os.trans h.os,bB.tape.trans h.tape,bB.output.trans h.output,λb I aw=>by
  have h1:=h.ix b I aw;have A:=bB.ix b (auz I h.ext.size) (λM=>aw (hs b I M))
  exact⟨A.1.trans h1.1,A.2.trans h1.2⟩⟩
def pK(B w:World):Prop:=Below B.heap.size B w
variable{B:World}{Ft:Nat->Prop}
theorem pK.step(h:pK B w)(hs:c_ Ft w C w' aR)(bN:∀b,Ft b->B.heap.size<=b):pK B w' :=
 ⟨hs.os.trans h.os,hs.tape.trans h.tape,hs.output.trans h.output,avc h.size hs.ext.size,λk Y=>by
  have h1:=(hs.ix k (auz Y h.size) (λM=>by have:=bN k M;omega)).1
  rw[h1];exact h.block k Y⟩
def Bc(P : Program)(f : FuncId): Prop := ∃fn,P.funcs[f]?=some fn/\fn.body.isSome = true/\(fn.name == "runtime.NumGoroutine") = false
def c5(P:Program)(B:World)(f:FuncId)(KT:List D)(H:bE)(a8:D->bE->Prop):Prop :=
 Bc P f/\∀(w:World) (C:Nat->Nat) (args:List Value) (Ft:Nat->Prop),pK B w->(∀b,Ft b->B.heap.size<=b)->l6 Ft w C H->c' w C KT args->
  Calls P f ⟨args⟩ w λe w'=>∃v d aR aP,e=.returned v/\a8 d aP/\bh w' aR d v/\c_ Ft w C w' aR/\
   l6 (λb=>Ft b\/w.heap.size<=b) w' aR aP
def bE.none:bE:=λ_=>Option.none
def mI(P:Program)(B:World)(f:FuncId)(KT:List D)(d:D):Prop :=
 Bc P f/\∀(w:World) (C:Nat->Nat) (args:List Value),pK B w->c' w C KT args->
  Calls P f ⟨args⟩ w λe w'=>∃v aR,e=.returned v/\bh w' aR d v/\c_ (λ_=>False) w C w' aR
theorem l6.none(Ft:Nat->Prop)(w:World)(C:Nat->Nat):l6 Ft w C bE.none :=
 ⟨λ_ _ h=>(by cases h),λ_ _ _ _ _ _ h=>(by cases h),λ_ _ _ h=>(by cases h)⟩
structure b7 (P:Program) (B:World) (am:Nat) where
 w0:World
 C0:Nat->Nat
 Ft:Nat->Prop
 base:pK B w0
 low:∀b,Ft b->B.heap.size<=b
variable{P:Program}{am:Nat}
structure au where
 t:Nat->D
 H:bE
def b7.pL(U:b7 P B am)(b:Nat):Prop:=U.Ft b\/U.w0.heap.size<=b
structure bH (U:b7 P B am) (w:World) (C:Nat->Nat) (z:au) (a:Act):Prop where
 tmps:∀i,bh w C (z.t i) (a.tmps.getD i undef)
 heap:l6 U.pL w C z.H
 size:a.tmps.size=am
 defers:a.defers=[]
 step:c_ U.Ft U.w0 U.C0 w C
theorem b7.Dw(U:b7 P B am)(h:U.pL b):B.heap.size<=b:=by rcases h with h|h;exact U.low b h;exact avc U.base.size h
theorem bH.base{U:b7 P B am}{w:World}{C:Nat->Nat}{z:au}{a:Act}(h:bH U w C z a):pK B w:=U.base.step h.step U.low
inductive cJ where
 |normal
 |exit (id:Nat)
 |ret
def cJ.f5:cJ->Exit
 |.normal=>.normal
 |.exit id=>.exit id
 |.ret=>.ret
structure W (U:b7 P B am) (c:Code) (z:au) (K:cJ->au->Prop):Prop where
 run:∀(a:Act) (w:World) (C:Nat->Nat),bH U w C z a->
  c.wp P (λe bw w'=>∃c6 aA aR,e=cJ.f5 c6/\K c6 aA/\bH U w' aR aA bw) a w
variable{c:Code}{d':D}{a:Act}{hs:List (Nat×aJ)}
section abl
variable{U:b7 P B am}{z:au}{K:cJ->au->Prop}
theorem W.mono{st:cJ->au->Prop}(h:W U c z K)(Y:∀e z,K e z->st e z):W U c z st :=
 ⟨λa w C M=>wp_mono (h.run a w C M) λ_ _ _ ⟨c6,aA,aR,ao,hK,bN⟩=>⟨c6,aA,aR,ao,Y _ _ hK,bN⟩⟩
theorem W.skip(h:K .normal z):W U .skip z K:=⟨λ_ _ C M=>wp_skip ⟨.normal,z,C,rfl,h,M⟩⟩
theorem W.ret(h:K .ret z):W U .ret z K:=⟨λ_ _ C M=>wp_ret ⟨.ret,z,C,rfl,h,M⟩⟩
theorem W.exit{id:Nat}(h:K (.exit id) z):W U (.exit id) z K:=⟨λ_ _ C M=>wp_exit ⟨.exit id,z,C,rfl,h,M⟩⟩
def zo(U:b7 P B am)(b:Code)(K:cJ->au->Prop):cJ->au->Prop
 |.normal,z=>W U b z K
 |.exit id,z=>K (.exit id) z
 |.ret,z=>K .ret z
theorem W.seq{a b:Code}(h:W U a z (zo U b K)):W U (.seq a b) z K :=
 ⟨λwD w C M=>wp_seq (wp_mono (h.run wD w C M) λe bw w' ⟨c6,aA,aR,ao,hK,bN⟩=>by
  subst ao
  cases c6 with
  |normal=>exact hK.run bw w' aR bN
  |exit id=>exact⟨.exit id,aA,aR,rfl,hK,bN⟩
  |ret=>exact⟨.ret,aA,aR,rfl,hK,bN⟩)⟩
def G2(id:Nat)(K:cJ->au->Prop):cJ->au->Prop
 |.normal,z=>K .normal z
 |.exit zp,z=>cond (Nat.beq zp id) (K .normal z) (K (.exit zp) z)
 |.ret,z=>K .ret z
theorem W.block{id:Nat}{c:Code}(h:W U c z (G2 id K)):W U (.block id c) z K :=
 ⟨λwD w C M=>wp_block (wp_mono (h.run wD w C M) λe bw w' ⟨c6,aA,aR,ao,hK,bN⟩=>by
  subst ao
  cases c6 with
  |normal=>exact⟨.normal,aA,aR,rfl,hK,bN⟩
  |exit zp =>
   simp only[cJ.f5,Exit.inBlock];by_cases kF:zp=id
   ·subst kF;rw[atI rfl];refine⟨.normal,aA,aR,rfl,?_,bN⟩;simpa[G2]using hK
   rw[atH kF];refine⟨.exit zp,aA,aR,rfl,?_,bN⟩
   have:Nat.beq zp id=false:=by
    cases I:Nat.beq zp id with
    |false=>rfl
    |true=>exact absurd (avK I) kF
   simpa[G2,this]using hK
  |ret=>exact⟨.ret,aA,aR,rfl,hK,bN⟩)⟩
structure aq (d d':D):Prop where
 le:∀w C v,bh w C d v->bh w C d' v
theorem aq.refl(d:D):aq d d:=⟨λ_ _ _ h=>h⟩
theorem aq.of_eq(h:d=d'):aq d d':=h ▸ aq.refl d
theorem aq.any(d:D):aq d .any:=⟨λ_ _ v _=>.any v⟩
theorem aq.iw(d:D):aq d d.iw:=⟨λ_ _ _ h=>h.iw⟩
def aL{α:Type}:List (Nat×α)->Nat->Option α
 |[],_=>none
 |(i,d)::r,j=>cond (Nat.beq j i) (some d) (aL r j)
def hf(l:List (Nat×D))(hs:List (Nat×aJ)):au:={t:=λj=>(aL l j).getD .any,H:=aL hs}
def jC(z:au):List (Nat×D)->Prop
 |[]=>True
 |(i,d)::r=>aq (z.t i) d/\jC z r
def mJ(z:au):List (Nat×aJ)->Prop
 |[]=>True
 |(s,o)::r=>z.H s=some o/\mJ z r
theorem auc{a:Nat}(h:Nat.beq a b=true):a=b:=avK h
theorem jC.aL{z:au}:∀{l:List (Nat×D)},jC z l->∀j,aq (z.t j) ((aL l j).getD .any)
 |[],_,j=>by simpa[Go.bR.aL]using aq.any _
 |(i,d)::r,h,j=>by simp only[Go.bR.aL];cases I:Nat.beq j i with|true=>have:=auc I;subst this;simpa using h.1|false=>simpa using jC.aL h.2 j
theorem mJ.aL{z:au}:∀{l:List (Nat×aJ)},mJ z l->∀s o,aL l s=some o->z.H s=some o
 |[],_,s,o,h=>by simp[Go.bR.aL]at h
 |(i,d)::r,hs,s,o,h=>by simp only[Go.bR.aL]at h;cases I:Nat.beq s i with|true=>have:=auc I;subst this;rw[I]at h;simp at h;subst h;exact hs.1|false=>rw[I]at h;exact mJ.aL hs.2 s o (by simpa using h)
theorem bH.G3{l:List (Nat×D)}(h:bH U w C z a)(h1:jC z l)(A:mJ z hs):
  bH U w C (hf l hs) a :=
 ⟨λi=>(h1.aL i).le _ _ _ (h.tmps i),
  ⟨λs o ah=>h.heap.cj s o (A.aL s o ah),λs bo o bM b aw Z aG=>h.heap.inj s bo o bM b aw (A.aL s o Z) (A.aL bo bM aG),
   λs o b ah=>h.heap.cI s o b (A.aL s o ah)⟩,h.size,h.defers,h.step⟩
theorem W.loop{c:Code}{α:Type}(l:α->List (Nat×D))(hs:α->List (Nat×aJ))(fx:α->Nat)(ek:α)(h1:jC z (l ek))(A:mJ z (hs ek))
  (round:∀x,W U c (hf (l x) (hs x)) λe aA=>match e with
   |.normal=>∃b1,fx b1<fx x/\jC aA (l b1)/\mJ aA (hs b1)|.exit id=>K (.exit id) aA|.ret=>K .ret aA):W U (.loop c) z K :=
 ⟨λa w C M=>by
  have h8:=M.G3 h1 A;intro b k aB
  have key:∀n x,fx x=n->∀a w C,bH U w C (hf (l x) (hs x)) a->
    ∃e bw w',(∃c6 aA aR,e=cJ.f5 c6/\K c6 aA/\bH U w' aR aA bw)/\Arrives P (lone (b.at a (.code c::.inLoop c::k)) aB w) b k aB e bw w':=by
   intro n
   induction n using Nat.strongRecOn with
   |_ n aZ =>
    intro x aw a w C M;obtain⟨e,tz,tA,⟨c6,xQ,tB,ao,hK,bN⟩,ow⟩:=(round x).run a w C M b (.inLoop c::k) aB;subst ao
    cases c6 with
    |normal =>
     obtain⟨b1,bf,Z,aG⟩:=hK;obtain⟨Dx,a₂,Dy,Dz,DA⟩:=aZ (fx b1) (aw ▸ bf) b1 rfl tz tA tB (bN.G3 Z aG);exact⟨Dx,a₂,Dy,Dz,.of_steps (Steps.trans ow (.one step_inLoop)) DA⟩
    |exit id=>exact⟨_,tz,tA,⟨.exit id,xQ,tB,rfl,hK,bN⟩,.pass (x:=.inLoop c) rfl (λ_ _=>.inl (by simp[cJ.f5])) ow⟩
    |ret=>exact⟨_,tz,tA,⟨.ret,xQ,tB,rfl,hK,bN⟩,.pass (x:=.inLoop c) rfl (λ_ _=>.inl (by simp[cJ.f5])) ow⟩
  obtain⟨e,bw,w',G,ow⟩:=key _ ek rfl a w C h8
  exact⟨e,bw,w',G,.of_steps (.one step_loop) ow⟩⟩
end abl
inductive ru where
 |int (k:IntKind)
 |bool
 |O
 |slice (e:Nat)
 |struct
 |array (n e:Nat)
 |DB
structure bx where
 t:Nat
 agg:Bool
 aC:Nat
 bytes:Nat
 kind:ru
 oZ:List (Nat×Nat×Bool)
 zero:Option (List D)
 u4:List ru:=[]
def dx:List bx->Nat->Option bx
 |[],_=>none
 |e::r,t=>cond (Nat.beq e.t t) (some e) (dx r t)
def pM:IntKind->IntKind->Bool
 |.i8,.i8|.i16,.i16|.i32,.i32|.i64,.i64|.u8,.u8|.u16,.u16|.u32,.u32|.u64,.u64=>true
 |_,_=>false
def RB:Value->D
 |.bool b=>.bool b
 |.int k n=>.int k n
 |.string s=>.O s.data.toList
 |.slice none 0 0=>.bj
 |v=>.ai v
def au.ba(z:au):Operand->D
 |.tmp t=>z.t t
 |.const v=>RB v
 |.global g=>.ai (.pointer (some ⟨g,0,none⟩))
 |.func f=>.fn (.func f) [] []
def au.put(z:au)(dst:Option Tmp)(d:D):au :=
 match dst with
 |some t=>{t:=λj=>cond (Nat.beq j t) d (z.t j),H:=z.H}
 |none=>z
def au.bZ(z:au)(s:Nat)(o:Option aJ):au:={t:=z.t,H:=λj=>cond (Nat.beq j s) o (z.H j)}
def iQ(am:Nat):Option Tmp->Bool
 |some d=>Nat.blt d am
 |none=>true
def DC(d:D)(k:D->Prop):Prop :=
 match d with
 |.any=>k .any
 |.undef=>k .undef
 |.bool b=>k (.bool b)
 |.int q n=>k (.int q n)
 |.O s=>k (.O s)
 |.agg aB=>k (.agg aB)
 |.bj=>k .bj
 |.Q t q xs=>k (.Q t q xs)
 |.fn f a b=>k (.fn f a b)
 |.bp ds=>k (.bp ds)
 |.a_ q xs i o=>k (.a_ q xs i o)
 |.box s b o=>k (.box s b o)
 |.l5 g d=>k (.l5 g d)
 |.ai v=>k (.ai v)
theorem zq(d:D)(k:D->Prop):DC d k↔k d:=by cases d<;>rfl
def opn(h:Bool)(d:D)(k:D->Prop):Prop :=
 match d with
 |.l5 g d'=>(h=true->g=true)/\DC d' k
 |d=>DC d k
def du:IntKind->Int->Prop
 |.i8,n=>-128<=n/\n<=127
 |.i16,n=>-32768<=n/\n<=32767
 |.i32,n=>-2147483648<=n/\n<=2147483647
 |.i64,n=>-9223372036854775808<=n/\n<=9223372036854775807
 |.u8,n=>0<=n/\n<=255
 |.u16,n=>0<=n/\n<=65535
 |.u32,n=>0<=n/\n<=4294967295
 |.u64,n=>0<=n/\n<=18446744073709551615
def arith(h:Bool)(k:IntKind)(n:Int)(K:D->Prop):Prop:=((h=true->du k n)/\K (.int k n))\/K (.int k (k.wrap n))
def qv(op:BinOp)(k:IntKind)(x y:Int):Int :=
 match op with
 |.and=>k.wrap (BitVec.ofInt k.bits x &&& BitVec.ofInt k.bits y).toNat
 |.or=>k.wrap (BitVec.ofInt k.bits x ||| BitVec.ofInt k.bits y).toNat
 |.xor=>k.wrap (BitVec.ofInt k.bits x ^^^ BitVec.ofInt k.bits y).toNat
 |_=>k.wrap (BitVec.ofInt k.bits x &&& ~~~BitVec.ofInt k.bits y).toNat
def DD(h:Bool)(op:BinOp)(k bz:IntKind)(a b:Int)(K:D->Prop):Prop :=
 match op with
 |.shl=>(h=true->0<=b)/\K (.int k (k.wrap (a*2 ^ min b.toNat k.bits)))
 |.shr=>(h=true->0<=b)/\K (.int k (a.fdiv (2 ^ min b.toNat k.bits)))
 |.add=>cond (pM k bz) (arith h k (a+b) K) False
 |.sub=>cond (pM k bz) (arith h k (a-b) K) False
 |.mul=>cond (pM k bz) (arith h k (a*b) K) False
 |.quo=>cond (pM k bz) ((h=true->b≠0)/\arith h k (a.tdiv b) K) False
 |.rem=>cond (pM k bz) ((h=true->b≠0)/\K (.int k (a.tmod b))) False
 |.and|.or|.xor|.andNot=>cond (pM k bz) (K (.int k (qv op k a b))) False
 |.eql=>cond (pM k bz) (K (.bool (a==b))) False
 |.neq=>cond (pM k bz) (K (.bool (a !=b))) False
 |.lss=>cond (pM k bz) (K (.bool (decide (a<b)))) False
 |.leq=>cond (pM k bz) (K (.bool (decide (a<=b)))) False
 |.gtr=>cond (pM k bz) (K (.bool (decide (b<a)))) False
 |.geq=>cond (pM k bz) (K (.bool (decide (b<=a)))) False
def KU(h:Bool)(op:BinOp)(a b:atG)(K:D->Prop):Prop :=
 match op with
 |.add=>(h=true->(a.length:Int)+b.length<=9223372036854775807)/\K (.O (a++b))
 |.eql=>K (.bool (a==b))
 |.neq=>K (.bool (!(a==b)))
 |.lss=>K (.bool (Op.bytesLess a b))
 |.leq=>K (.bool (Op.bytesLess a b||a==b))
 |.gtr=>K (.bool (!(Op.bytesLess a b||a==b)))
 |.geq=>K (.bool (!Op.bytesLess a b))
 |_=>False
def RC(k:ru)(x y:D)(K:Bool->Prop):Prop :=
 match k,x,y with
 |.int _,.int k a,.int bz b=>cond (pM k bz) (K (a==b)) False
 |.O,.O a,.O b=>K (a==b)
 |.bool,.bool a,.bool b=>K (a==b)
 |_,_,_=>False
def Bd:List ru->List D->List D->(Bool->Prop)->Prop
 |[],[],[],K=>K true
 |k::ag,x::xs,y::a',K=>RC k x y λb=>Bd ag xs a' λc=>K (b&&c)
 |_,_,_,_=>False
def RD:ru->Bool
 |.bool=>true
 |_=>false
def G4:ru->Bool
 |.struct=>true
 |_=>false
def KV(ax:List bx)(h:Bool)(op:BinOp)(t:Nat)(x y:D)(K:D->Prop):Prop :=
 match x,y with
 |.int k a,.int bz b=>DD h op k bz a b K
 |.O a,.O b=>KU h op a b K
 |.bool a,.bool b =>
  match dx ax t with
  |none=>False
  |some e=>cond (RD e.kind) (match op with
   |.eql=>K (.bool (a==b))
   |.neq=>K (.bool (!(a==b)))
   |_=>False) False
 |.agg xs,.agg a' =>
  match dx ax t with
  |some e =>
   match op with
   |.eql=>cond (G4 e.kind&&!e.u4.isEmpty) (Bd e.u4 xs a' λb=>K (.bool b)) False
   |.neq=>cond (G4 e.kind&&!e.u4.isEmpty) (Bd e.u4 xs a' λb=>K (.bool (!b))) False
   |_=>False
  |none=>False
 |_,_=>False
def DE(e:bx)(off:Nat)(aB:List D)(K:D->Prop):Prop :=
 match e.agg with
 |true=>cond (Nat.beq off 0&&Nat.beq e.aC aB.length) (K (.agg aB)) (cond (Nat.ble (off+e.aC) aB.length) (K (.agg ((aB.drop off).take e.aC))) False)
 |false=>match aB[off]? with
  |some d=>K d
  |none=>False
def DF(e:bx)(k off:Nat)(x:D)(K:D->Prop):Prop :=
 match x with
 |.agg aB=>match e.agg with
  |true=>cond (Nat.beq off 0&&Nat.beq e.aC k) (K x) (cond (Nat.ble (off+e.aC) aB.length) (K (.agg ((aB.drop off).take e.aC))) False)
  |false=>match aB[off]? with
   |some d=>K d
   |none=>False
 |_=>cond (Nat.beq off 0&&!e.agg) (K x) False
def zr(ax:List bx)(z:au)(h:Bool)(t:Nat)(x:D)(K:D->Prop):Prop :=
 match dx ax t with
 |none=>False
 |some e=>match x with
  |.a_ k xs i off=>∃y,(h=true->xs[i]?=some y)/\DF e k off y K
  |.box s b off=>match z.H s with
   |some (.box eo aB)=>b=eo/\DE e off aB K
   |_=>False
  |_=>False
def KW(ax:List bx)(t:Nat)(x:D)(f:Nat)(K:D->Prop):Prop :=
 match dx ax t with
 |none=>False
 |some e=>match e.kind,e.oZ[f]? with
  |.struct,some (o,aC,_)=>cond (Nat.beq aC 0) False (match x with
   |.a_ k xs i off=>K (.a_ k xs i (off+o))
   |.box s b off=>K (.box s b (off+o))
   |_=>False)
  |_,_=>False
def KX(ax:List bx)(t:Nat)(x:D)(f:Nat)(K:D->Prop):Prop :=
 match dx ax t with
 |none=>False
 |some e=>match e.kind,e.oZ[f]? with
  |.struct,some (o,aC,l7)=>match x with
   |.agg aB=>match l7 with
    |true=>cond (Nat.ble (o+aC) aB.length) (K (.agg ((aB.drop o).take aC))) False
    |false=>match aB[o]? with
     |some d=>K d
     |none=>False
   |_=>False
  |_,_=>False
def KY(ax:List bx)(h:Bool)(t:Nat)(x fV:D)(K:D->Prop):Prop :=
 match dx ax t with
 |none=>False
 |some e=>match e.kind with
  |.slice bI=>match dx ax bI with
   |none=>False
   |some aF=>match x,fV with
    |.Q _ k xs,.int _ i=>cond (Nat.beq k aF.aC) ((h=true->0<=i/\i<(xs.length:Int))/\K (.a_ k xs i.toNat 0)) False
    |_,_=>False
  |_=>False
def KZ(ax:List bx)(h:Bool)(t:Nat)(x fV:D)(K:D->Prop):Prop :=
 match dx ax t with
 |none=>False
 |some e=>match e.kind with
  |.O=>match x,fV with
   |.O s,.int _ i=>∃c:UInt8,(h=true->0<=i/\s[i.toNat]?=some c)/\K (.int .u8 c.toNat)
   |_,_=>False
  |_=>False
def G5(h:Bool)(z:au)(x:Option Operand)(k:Int->Prop):Prop :=
 match x with
 |none=>k 0
 |some x=>opn h (z.ba x) λd=>match d with|.int _ i=>k i|_=>False
def G6(h:Bool)(z:au)(x:Option Operand)(n:Int)(k:Int->Prop):Prop :=
 match x with
 |none=>k n
 |some x=>opn h (z.ba x) λd=>match d with|.int _ i=>k i|_=>False
def K0(ax:List bx)(h:Bool)(z:au)(t:Nat)(x:D)(k4 hi qw:Option Operand)(K:D->Prop):Prop :=
 match dx ax t with
 |none=>False
 |some e=>match e.kind with
  |.O=>match x with
   |.O s=>G5 h z k4 λl=>G6 h z hi s.length λr=>match qw with
    |none=>(h=true->0<=l/\l<=r/\r<=(s.length:Int))/\K (.O ((s.take r.toNat).drop l.toNat))
    |some _=>False
   |_=>False
  |.slice bI=>match dx ax bI with
   |none=>False
   |some aF=>match x with
    |.Q _ k xs=>cond (Nat.beq k aF.aC) (G5 h z k4 λl=>G6 h z hi xs.length λr=>match qw with
     |none=>(h=true->0<=l/\l<=r/\r<=(xs.length:Int))/\K (.Q .none k ((xs.take r.toNat).drop l.toNat))
     |some m=>cond hi.isSome (opn h (z.ba m) λd=>match d with
      |.int _ m=>(h=true->m=r/\0<=l/\l<=r/\r<=(xs.length:Int))/\K (.Q .dV k ((xs.take r.toNat).drop l.toNat))
      |_=>False) False) False
    |_=>False
  |_=>False
def zt(h:Bool)(z:au):List Operand->(List D->Prop)->Prop
 |[],k=>k []
 |x::r,k=>opn h (z.ba x) λd=>zt h z r λds=>k (d::ds)
def su(aB:List D)(off:Nat)(ds:List D):List D:=aB.take off++ds++aB.drop (off+ds.length)
def iy:List D->Nat->D->List D
 |[],_,_=>[]
 |_::r,0,d=>d::r
 |c::r,n+1,d=>c::iy r n d
def D.one:D->Bool
 |.bool _|.int ..|.O _|.bj|.Q ..|.fn ..|.a_ ..|.box ..=>true
 |.ai v=>v.oneCell'
 |_=>false
def Be(e:bx)(off:Nat)(aB:List D)(x:D)(K:List D->Prop):Prop :=
 match e.agg with
 |true=>match x with
  |.agg ds=>cond (Nat.beq ds.length e.aC&&Nat.ble (off+ds.length) aB.length&&ds.all D.one) (K (su aB off ds)) False
  |_=>False
 |false=>cond (Nat.blt off aB.length&&x.one&&Nat.beq e.aC 1) (K (iy aB off x)) False
def zu(oZ:List (Nat×Nat×Bool))(aB:List D):List (Nat×D)->(List D->Prop)->Prop
 |[],K=>K aB
 |(i,d)::r,K=>match oZ[i]? with
  |none=>False
  |some (o,aC,l7)=>match l7 with
   |true=>match d with
    |.agg ds=>cond (Nat.beq ds.length aC&&Nat.ble (o+aC) aB.length) (zu oZ (su aB o ds) r K) False
    |_=>False
   |false=>cond (Nat.blt o aB.length&&d.one&&Nat.beq aC 1) (zu oZ (iy aB o d) r K) False
def zv(h:Bool)(z:au):List (Nat×Operand)->(List (Nat×D)->Prop)->Prop
 |[],k=>k []
 |(i,x)::r,k=>opn h (z.ba x) λd=>zv h z r λds=>k ((i,d.iw)::ds)
def tC(k:Nat):Nat->List (Nat×D)->Prop
 |_,[]=>True
 |n,(i,d)::r=>cond (Nat.beq i n&&(match d with|.agg ds=>Nat.beq ds.length k&&ds.all D.one|d=>d.one&&Nat.beq k 1)) (tC k (n+1) r) False
def dN:List D->List D->Prop
 |[],[]=>True
 |a::r,b::s=>aq a b/\dN r s
 |_,_=>False
def sv(s:ByteArray):Nat->Nat->List Int
 |0,_=>[]
 |f+1,i=>if i<s.size then Int.ofNat (Utf8.decode s i).1::sv s f (i+(Utf8.decode s i).2)else[]
def h9(s:atG):List Int:=sv ⟨⟨s⟩⟩ s.length 0
def cy(zs:List Int):atG:=zs.flatMap λn=>(Utf8.encode n).data.toList
def G7:ru->Bool
 |.int .i32=>true
 |_=>false
def K1(ax:List bx)(ox dst:Nat)(x:D)(K:D->Prop):Prop :=
 match dx ax ox,dx ax dst with
 |some a,some b=>match a.kind,b.kind,x with
  |.int _,.int k,.int _ n=>((du k n)/\K (.int k n))\/K (.int k (k.wrap n))
  |.O,.O,.O s=>K (.O s)
  |.int _,.O,.int _ n=>K (.O (Utf8.encode n).data.toList)
  |.O,.slice bI,.O s=>match dx ax bI with
   |some aF=>cond (G7 aF.kind&&Nat.beq aF.aC 1) (s.length<=70368744177664/\K (.Q .none 1 ((h9 s).map (D.int .i32)))) False
   |none=>False
  |.slice bI,.O,.Q _ k xs=>match dx ax bI with
   |some aF=>cond (G7 aF.kind&&Nat.beq k 1) (∃zs:List Int,xs=zs.map (D.int .i32)/\K (.O (cy zs))) False
   |none=>False
  |_,_,_=>False
 |_,_=>False
def pN(P:Program)(B:World)(ax:List bx)(z:au)(h:Bool)(o:Op)(K:D->Prop):Prop :=
 match o with
 |.move x|.assign x=>opn h (z.ba x) K
 |.pick c a b=>opn h (z.ba c) λc=>match c with
  |.bool g=>match z.ba a,z.ba b with
   |.bool x,.bool y=>K (.bool (bif g then x else y))
   |.bool x,.l5 DG (.bool y)=>(h=true->g=false->DG=true)/\K (.bool (bif g then x else y))
   |.l5 DG (.bool x),.bool y=>(h=true->g=true->DG=true)/\K (.bool (bif g then x else y))
   |_,_=>False
  |_=>False
 |.binOp op t x y _=>opn h (z.ba x) λx=>opn h (z.ba y) λy=>KV ax h op t x y K
 |.unOp op _ x=>opn h (z.ba x) λx=>match op,x with
  |.not,.bool b=>K (.bool (!b))
  |.neg,.int k n=>arith h k (0-n) K
  |_,_=>False
 |.load t x=>opn h (z.ba x) λx=>zr ax z h t x K
 |.fieldAddr t x f=>opn h (z.ba x) λx=>KW ax t x f K
 |.field t x f=>opn h (z.ba x) λx=>KX ax t x f K
 |.indexAddr t x fV=>opn h (z.ba x) λx=>opn h (z.ba fV) λfV=>KY ax h t x fV K
 |.index t x fV=>opn h (z.ba x) λx=>opn h (z.ba fV) λfV=>KZ ax h t x fV K
 |.slice t x k4 hi qw=>opn h (z.ba x) λx=>K0 ax h z t x k4 hi qw K
 |.convert ox dst x=>opn h (z.ba x) λx=>K1 ax ox dst x K
 |.build t bU=>match dx ax t with
  |some e=>match e.zero,e.kind with
   |some V,.struct=>zv h z bU.toList λds=>zu e.oZ V ds λaB=>K (.agg aB)
   |_,_=>False
  |none=>False
 |.buildSlice t n bU=>match dx ax t with
  |some e=>match e.kind with
   |.slice bI=>match dx ax bI with
    |some aF=>zv h z bU.toList λds=>cond (Nat.beq ds.length n&&Nat.ble (n*aF.aC) 16777216&&Nat.blt 0 aF.aC&&aF.zero.isSome) (tC aF.aC 0 ds/\K (.Q .dV aF.aC (ds.map (·.2)))) False
    |none=>False
   |_=>False
  |none=>False
 |.makeFunc f first ov=>zt h z first.toList λaz=>zt h z ov.toList λaB=>K (.fn f az aB)
 |.extract x i=>opn h (z.ba x) λx=>match x with
  |.bp ds=>match ds[i]? with
   |some d=>K d
   |none=>False
  |_=>False
 |.call c=>match c.callee,c.args.toList with
  |.builtin .len,[x]=>opn h (z.ba x) λx=>match c.argTypes.toList with
   |[t]=>match dx ax t with
    |some e=>match e.kind,x with
     |.O,.O s=>K (.int .i64 s.length)
     |.slice _,.Q _ _ xs=>K (.int .i64 xs.length)
     |.slice _,.bj=>K (.int .i64 0)
     |.slice _,.ai (.slice _ n _)=>K (.int .i64 (n:Nat))
     |_,_=>False
    |none=>False
   |_=>False
  |.builtin .max,[x,y]=>opn h (z.ba x) λx=>opn h (z.ba y) λy=>match x,y with
   |.int k a,.int _ b=>K (.int k (if b>a then b else a))
   |_,_=>False
  |.builtin .min,[x,y]=>opn h (z.ba x) λx=>opn h (z.ba y) λy=>match x,y with
   |.int k a,.int _ b=>K (.int k (if b<a then b else a))
   |_,_=>False
  |.value f,args=>opn h (z.ba f) λf=>match f with
   |.fn (.func b8) first cu=>zt h z args λwE=>∃gZ d,(h=true->mI P B b8 gZ d)/\dN (first++wE++cu) gZ/\K d
   |_=>False
  |_,_=>False
 |.nilCheck x=>opn h (z.ba x) λx=>match x with
  |.box s b o=>K (.box s b o)
  |.a_ k xs i o=>K (.a_ k xs i o)
  |_=>False
 |_=>False
def Op.Bf:Op->Bool
 |.move _|.assign _|.pick ..|.binOp ..|.unOp ..|.load ..|.fieldAddr ..|.field ..|.indexAddr ..|.index ..|.slice ..|.convert ..|.build ..|.buildSlice ..
 |.makeFunc ..|.extract ..|.nilCheck _=>true
 |.call c=>match c.callee with
  |.builtin .len|.builtin .max|.builtin .min|.value _=>true
  |_=>false
 |_=>false
def RE(ax:List bx)(z:au)(dst:Nat)(t:Nat)(s x:D)(K:au->Prop):Prop :=
 match dx ax t with
 |none=>False
 |some e=>match e.kind with
  |.slice bI=>match dx ax bI with
   |none=>False
   |some aF =>
    let go (z:au) (xs:List D):Prop:=match x with
     |.Q _ bz a'=>cond (Nat.beq bz aF.aC&&Nat.blt 0 aF.aC) ((xs.length+a'.length)*aF.bytes<=140737488355328/\xs.length+a'.length<=9223372036854775807/\aF.zero≠none/\
       ∀v:Value,K ((z.bZ dst (some (.own v (xs.length+a'.length) aF.aC bI))).put (some dst) (.Q (.own dst v) aF.aC (xs++a')))) False
     |_=>False
    match s with
    |.bj=>go z []
    |.Q .dV k xs=>cond (Nat.beq k aF.aC) (go z xs) False
    |.Q (.own q v) k xs=>match z.H q with
     |some (.own c9 hM bz oy)=>cond (Nat.beq k aF.aC&&Nat.beq bz aF.aC&&Nat.beq oy bI) (v=c9/\hM=xs.length/\go (z.bZ q none) xs) False
     |_=>False
    |_=>False
  |_=>False
def nO(P:Program)(B:World)(ax:List bx)(z:au)(dst:Option Tmp)(op:Op)(K:au->Prop):Prop :=
 match op with
 |.move x|.assign x=>DC (z.ba x) λd=>K (z.put dst d)
 |.alloc e=>match dx ax e,dst with
  |some cc,some s=>match cc.zero with
   |some V=>∀b:Nat,K ((z.bZ s (some (.box b V))).put (some s) (.box s b 0))
   |none=>False
  |_,_=>False
 |.box e x=>match dx ax e,dst with
  |some cc,some s=>match cc.agg with
   |true=>match z.ba x with
    |.agg aB=>∀b:Nat,K ((z.bZ s (some (.box b aB))).put (some s) (.box s b 0))
    |_=>False
   |false=>cond (z.ba x).one (∀b:Nat,K ((z.bZ s (some (.box b [z.ba x]))).put (some s) (.box s b 0))) False
  |_,_=>False
 |.store t a x=>match dx ax t,z.ba a with
  |some e,.box s b off=>match z.H s with
   |some (.box eo aB)=>b=eo/\Be e off aB (z.ba x) λdv=>K ((z.bZ s (some (.box b dv))).put dst .undef)
   |_=>False
  |_,_=>False
 |.call c=>match c.callee,c.args.toList,c.argTypes.toList,dst with
  |.builtin .append,[s,x],[t,DH],some dst=>cond (Nat.beq t DH) (RE ax z dst t (z.ba s) (z.ba x) K) False
  |_,_,_,_=>pN P B ax z true (.call c) λd=>K (z.put dst d)
 |op=>pN P B ax z true op λd=>K (z.put dst d)
def jD(P:Program)(B:World)(ax:List bx)(am:Nat)(ops:Array Oper):List Oper->au->(au->Prop)->Prop
 |[],z,K=>K z
 |⟨dst,op,_,_,_,guard⟩::rest,z,K=>cond (iQ am dst) (match guard with
  |none=>nO P B ax z dst op λaA=>jD P B ax am ops rest aA K
  |some (j,iz)=>match(ops[j]?).bind (·.dst)with
   |none=>False
   |some g=>match z.t g with
    |.bool b=>match iz with
     |true=>pN P B ax z b op λd=>jD P B ax am ops rest (z.put dst (.l5 b d)) K
     |false=>pN P B ax z (!b) op λd=>jD P B ax am ops rest (z.put dst (.l5 (!b) d)) K
    |.l5 c (.bool b)=>match iz with
     |true=>pN P B ax z (c&&b) op λd=>jD P B ax am ops rest (z.put dst (.l5 (c&&b) d)) K
     |false=>pN P B ax z (c&&!b) op λd=>jD P B ax am ops rest (z.put dst (.l5 (c&&!b) d)) K
    |_=>False) False
def Bg:List D->List Value->Bool
 |[],[]=>true
 |d::ds,v::vs=>(match d,v with
  |.int k n,.int bz hM=>decide (k=bz)&&n==hM
  |.bool b,.bool eo=>b==eo
  |.O [],.string s=>s.data.toList.isEmpty
  |.bj,.slice none 0 0=>true
  |.ai .nilFunc,.nilFunc=>true
  |.ai (.pointer none),.pointer none=>true
  |.ai (.map none),.map none=>true
  |.ai .nilIface,.nilIface=>true
  |_,_=>false)&&Bg ds vs
 |_,_=>false
theorem c'.nil(w:World)(C:Nat->Nat):c' w C [] []:=⟨rfl,λi d v h=>by simp at h⟩
variable{ds:List D}
theorem c'.cons{vs:List Value}(h:bh w C d v)(ae:c' w C ds vs):c' w C (d::ds) (v::vs) :=
 ⟨by simp[ae.1],λi d' c9 h1 A=>by
  cases i with
  |zero=>simp at h1 A;subst h1;subst A;exact h
  |succ i=>exact ae.2 i d' c9 (by simpa using h1) (by simpa using A)⟩
theorem c'.head{vs:List Value}(h:c' w C (d::ds) (v::vs)):bh w C d v:=h.2 0 d v rfl rfl
theorem c'.tail{vs:List Value}(h:c' w C (d::ds) (v::vs)):c' w C ds vs :=
 ⟨by simpa using h.1,λi d' c9 h1 A=>h.2 (i+1) d' c9 (by simpa using h1) (by simpa using A)⟩
theorem RF:∀{V:List D} {vs:List Value},Bg V vs=true->∀w C,c' w C V vs
 |[],[],_,w,C=>.nil w C
 |d::ds,v::vs,h,w,C=>by simp only[Bg,atN]at h;refine .cons ?_ (RF h.2 w C);have h1:=h.1;split at h1;simp only[atN,aut,avp]at h1;obtain⟨rfl,rfl⟩:=h1;exact .int _ _;simp only[avp]at h1;subst h1;exact .bool _;rename_i s;obtain⟨⟨l⟩⟩:=s;(have:l=[]:=by simpa using h1);subst this;exact .O [];exact .bj;exact .ai _;exact .ai _;exact .ai _;exact .ai _;cases h1
 |[],_::_,h,_,_=>by simp[Bg]at h
 |_::_,[],h,_,_=>by simp[Bg]at h
def wF(P:Program)(t:TypeId):Option Bool :=
 match P.underlying t with
 |some (.struct _)|some (.array _ _)=>some true
 |some _=>some false
 |none=>none
def tD(P:Program):List Field->List (Nat×Nat×Bool)->Bool
 |[],[]=>true
 |f :: az,(o,aC,l7) :: r => Nat.beq f.offset o && (match P.info? f.type with|some i => Nat.beq i.size aC|none => false) && (wF P f.type == some l7) && f.name != "_" && tD P az r
 |_,_=>false
def G8(P:Program)(t:TypeId)(k:ru):Bool :=
 match k,P.underlying t with
 |.int k,some (.int bz)=>decide (k=bz)
 |.bool,some .bool=>true
 |.O,some .string=>true
 |_,_=>false
def wG(P:Program):List Field->List ru->Nat->Bool
 |[],[],_=>true
 |f :: az,k :: ag,n => Nat.beq f.offset n && G8 P f.type k && f.name != "_" && wG P az ag (n + 1)
 |_,_,_=>false
def xR(P:Program)(e:bx):Bool :=
 match e.kind,P.underlying e.t with
 |.int k,some (.int bz)=>decide (k=bz)&&!e.agg
 |.bool,some .bool=>!e.agg
 |.O,some .string=>!e.agg
 |.slice bI,some (.slice K2)=>Nat.beq bI K2&&!e.agg
 |.struct,some (.struct az)=>e.agg&&tD P az.toList e.oZ&&!P.stoodInHeld e.t&&!P.eqGuardType P.depth e.t&&(e.u4.isEmpty||wG P az.toList e.u4 0)
 |.array n bI,some (.array hM K2)=>Nat.beq n hM&&Nat.beq bI K2&&e.agg
 |.DB,some (.struct _)|.DB,some (.array _ _)|.DB,none=>false
 |.DB,some _=>!e.agg
 |_,_=>false
def bx.K3(P:Program)(e:bx):Bool :=
 (match P.info? e.t with
 |some i=>Nat.beq i.size e.aC&&Nat.beq i.bytes e.bytes&&(match e.zero with|none=>true|some V=>(match i.zero with|some v=>Bg V v.cells.toList&&Nat.beq V.length e.aC|none=>false))
 |none=>false)&&xR P e
structure bx.gh (P:Program) (e:bx):Prop where
 qx:∃i,P.info? e.t=some i/\i.size=e.aC/\i.bytes=e.bytes/\∀V,e.zero=some V->∃v,i.zero=some v/\V.length=e.aC/\∀w C,c' w C V v.cells.toList
 kind:xR P e=true
theorem bx.abm{e:bx}(h:e.K3 P=true):e.gh P:=by unfold bx.K3 at h;rw[atN]at h;refine⟨?_,h.2⟩;have h1:=h.1;split at h1;rename_i i hi;simp only[atN]at h1;obtain⟨⟨A,Z⟩,aG⟩:=h1;refine⟨i,hi,auc A,auc Z,λV bC=>?_⟩;rw[bC]at aG;simp only at aG;split at aG;rename_i v X;rw[atN]at aG;exact⟨v,X,auc aG.2,RF aG.1⟩;cases aG;cases h1
def df(P:Program)(ax:List bx):Prop:=∀e∈ax,e.gh P
theorem df.u5{ax:List bx}(h:ax.all (bx.K3 P)=true):df P ax:=λe ao=>bx.abm (auE.1 h e ao)
theorem RG:∀{ax:List bx} {t:Nat} {e:bx},dx ax t=some e->e∈ax/\e.t=t
 |[],_,_,h=>by simp[dx]at h
 |x::r,t,e,h=>by simp only[dx]at h;cases I:Nat.beq x.t t with|true=>rw[I]at h;simp at h;subst h;exact⟨atU,auc I⟩|false=>rw[I]at h;have:=RG (ax:=r) (by simpa using h);exact⟨atY _ this.1,this.2⟩
variable{t:Nat}
theorem df.get{ax:List bx}(h:df P ax){e:bx}(ao:dx ax t=some e):e.gh P/\e.t=t:=by have:=RG ao;exact⟨h e this.1,this.2⟩
section kinds
variable{e:bx}(h:e.gh P)
include h
theorem bx.gh.size(w:World):(sizeOf e.t).run P w=.ok e.aC w:=by obtain⟨i,hi,hs,_⟩:=h.qx;simp[sizeOf,typeInfo,hi,hs]
theorem bx.gh.cellsOf:P.cellsOf e.t=e.aC:=by obtain⟨i,hi,hs,_⟩:=h.qx;simp[Program.cellsOf,hi,hs]
theorem bx.gh.sw{k:IntKind}(Y:e.kind=.int k):P.underlying e.t=some (.int k):=axT
theorem bx.gh.pO(Y:e.kind=.O):P.underlying e.t=some .string:=axT
theorem bx.gh.abn(Y:e.kind=.bool):P.underlying e.t=some .bool:=axT
theorem bx.gh.kg{bI:Nat}(Y:e.kind=.slice bI):P.underlying e.t=some (.slice bI):=axT
theorem bx.gh.Bh(Y:e.kind=.struct):∃az,P.underlying e.t=some (.struct az)/\tD P az.toList e.oZ=true/\e.agg=true/\P.stoodInHeld e.t=false/\P.eqGuardType P.depth e.t=false/\(e.u4=[]\/wG P az.toList e.u4 0=true):=axT
theorem bx.gh.isAgg(w:World):(isAgg e.t).run P w=.ok e.agg w:=by
 have:=h.kind;unfold xR at this
 unfold Go.isAgg;simp only[Sem.run_bind];split at this
 all_goals first
  |(rename_i an;simp[run_underlying an];simp_all;done)
  |(simp at this;done)
  |skip
end kinds
theorem o0(b o n:Nat):(⟨b,o,none⟩:Addr).add n=⟨b,o+n,none⟩:=by unfold Addr.add;split;rename_i h;subst h;rfl;rfl
variable{h:Bool}
theorem iR{k:D->Prop}(cF:opn h d k):∃d',k d'/\(h=true->∀w C v,bh w C d v->bh w C d' v):=by unfold opn at cF;split at cF;rename_i g d';refine⟨d',(zq _ _).1 cF.2,λav w C v ae=>?_⟩;have aW:=cF.1 av;subst aW;(cases ae with|pH _ _ h=>exact h);exact⟨_,(zq _ _).1 cF,λ_ _ _ _ ae=>ae⟩
theorem wH{k:Nat}:∀{xs:List D} (_:∀x∈xs,x.cells.length=k) {i:Nat} {x:D} (_:xs[i]?=some x) {j:Nat} (_:j<k),(b2 xs)[i*k+j]?=x.cells[j]?
 |[],_,i,x,F,j,_=>by simp at F
 |y::a',Y,i,x,F,j,aa=>by have hy:y.cells.length=k:=Y y atU;simp only[b2,auL];cases i with|zero =>simp at F;subst F;rw[Nat.zero_mul,auu,at0 atw]|succ i =>(have Bi:a'[i]?=some x:=by simpa using F);have aZ:=wH (xs:=a') (λV bC=>Y V (atY _ bC)) Bi aa;rw[auo (by rw[hy,avS];omega),hy,avS];rw[show i*k+k+j-k=i*k+j from by omega];exact aZ
variable{k:Nat}{xs:List D}
theorem bh.kh{t:iv}(h:bh w C (.Q t k xs) v): (xs=[]/\(∃a,v=.slice a 0 0)/\t.gh v)\/∃(b o cap:Nat) (g:Nat->Value),v=.slice (some ⟨b,o,none⟩) xs.length cap/\t.gh v/\b<w.heap.size/\xs.length<=cap/\cap<=maxLen/\(∀x∈xs,x.cells.length=k)/\o+xs.length*k<=C b/\(∀(j:Nat) d,(b2 xs)[j]?=some d->w.cell? ⟨b,o+j,none⟩=some (g j))/\(∀(j:Nat) d,(b2 xs)[j]?=some d->(g j).oneCell'=true)/\(∀(j:Nat) d,(b2 xs)[j]?=some d->bh w C d (g j)):=by cases h with|iP t k a av=>exact .inl ⟨rfl,⟨a,rfl⟩,av⟩|Q t k xs b o cap g av I hc hm Y de ga ee h=>exact .inr ⟨b,o,cap,g,rfl,av,I,hc,hm,Y,de,ga,ee,h⟩
def hA(P:Program)(d:D)(w:World)(C:Nat->Nat):Result Next->Prop
 |.ok (.value v) w'=>∃aR,bh w' aR d v/\c_ (λ_=>False) w C w' aR
 |.ok (.enter f args) w'=>w'=w/\Calls P f args w λe rs=>∃v lD,e=.returned v/\bh rs lD d v/\c_ (λ_=>False) w C rs lD
 |_=>False
theorem hA.same(h:bh w C d v):hA P d w C (.ok (.value v) w):=⟨C,h,.refl _ _ _⟩
theorem G9{k bz:IntKind}(h:pM k bz=true):k=bz:=by cases k<;>cases bz<;>first|rfl|cases h
theorem K4{k:IntKind}{n:Int}(h:du k n):k.wrap n=n:=by cases k<;>simp only[du]at h<;>simp[IntKind.wrap,IntKind.bits,IntKind.signed]<;>omega
theorem DI{k:IntKind}{n:Int}{K:D->Prop}(cF:arith h k n K):∃m,K (.int k m)/\(h=true->m=k.wrap n):=by rcases cF with⟨h1,A⟩|A;exact⟨n,A,λav=>(K4 (h1 av)).symm⟩;exact⟨_,A,λ_=>rfl⟩
variable{p:Prop}
theorem h_{c:Bool}(h:cond c p False):c=true/\p:=by cases c;exact h.elim;exact⟨rfl,h⟩
theorem zw(op:BinOp)(t:TypeId)(x y:Operand)(a b:Value)(w:World)(ha:∀aB,a≠.agg aB)(aw:a≠.nilIface): (eqGuard op t x y a b).run P w=.ok () w:=by unfold eqGuard;cases a<;>cases b<;>first|(exact absurd rfl aw)|(exact absurd rfl (ha _))|(cases op<;>simp)
theorem abo(a b:atG):((⟨⟨a⟩⟩:ByteArray)++⟨⟨b⟩⟩)=⟨⟨a++b⟩⟩:=by apply ByteArray.ext;simp
section DD
variable{op:BinOp}{k bz:IntKind}{a b:Int}{K:D->Prop}
theorem abp(G:DD h op k bz a b K):∃d,K d/\(h=true->∃v,(∀t w,(binOp op t (.int k a) (.int bz b)).run P w=.ok v w)/\∀w C,bh w C d v):=by
 cases op<;>simp only[DD]at G
 case shl=>obtain⟨h1,A⟩:=G;exact⟨_,A,λav=>⟨_,λt w=>by simp[binOp,Op.shift,Int.not_lt.2 (h1 av)],λ_ _=>.int _ _⟩⟩
 case shr=>obtain⟨h1,A⟩:=G;exact⟨_,A,λav=>⟨_,λt w=>by simp[binOp,Op.shift,Int.not_lt.2 (h1 av)],λ_ _=>.int _ _⟩⟩
 all_goals (replace G:=h_ G;obtain⟨Y,G⟩:=G;obtain rfl:=G9 Y)
 case add=>obtain⟨m,h1,A⟩:=DI G;exact⟨_,h1,λav=>⟨_,λt w=>by simp[binOp,Op.intArith,<-A av],λ_ _=>.int _ _⟩⟩
 case sub=>obtain⟨m,h1,A⟩:=DI G;exact⟨_,h1,λav=>⟨_,λt w=>by simp[binOp,Op.intArith,<-A av],λ_ _=>.int _ _⟩⟩
 case mul=>obtain⟨m,h1,A⟩:=DI G;exact⟨_,h1,λav=>⟨_,λt w=>by simp[binOp,Op.intArith,<-A av],λ_ _=>.int _ _⟩⟩
 case quo=>obtain⟨m,h1,A⟩:=DI G.2;exact⟨_,h1,λav=>⟨_,λt w=>by simp[binOp,Op.intDiv,<-A av,G.1 av],λ_ _=>.int _ _⟩⟩
 case rem=>exact⟨_,G.2,λav=>⟨_,λt w=>by simp[binOp,Op.intDiv,G.1 av],λ_ _=>.int _ _⟩⟩
 case and=>exact⟨_,G,λ_=>⟨_,λt w=>by simp[binOp,Op.intBits,qv],λ_ _=>.int _ _⟩⟩
 case or=>exact⟨_,G,λ_=>⟨_,λt w=>by simp[binOp,Op.intBits,qv],λ_ _=>.int _ _⟩⟩
 case xor=>exact⟨_,G,λ_=>⟨_,λt w=>by simp[binOp,Op.intBits,qv],λ_ _=>.int _ _⟩⟩
 case andNot=>exact⟨_,G,λ_=>⟨_,λt w=>by simp[binOp,Op.intBits,qv],λ_ _=>.int _ _⟩⟩
 all_goals exact⟨_,G,λ_=>⟨.bool _,λt w=>by simp[binOp,Op.intCmp],λ_ _=>.bool _⟩⟩
end DD
theorem abq{op:BinOp}{a b:atG}{K:D->Prop}(G:KU h op a b K):
  ∃d,K d/\(h=true->∃v,(∀t w,(binOp op t (.string ⟨⟨a⟩⟩) (.string ⟨⟨b⟩⟩)).run P w=.ok v w)/\∀w C,bh w C d v):=by
 cases op<;>simp only[KU]at G
 case add =>
  refine⟨_,G.2,λav=>⟨_,λt w=>?_,λ_ _=>.O _⟩⟩;have h1:=G.1 av
  have A:¬(IntKind.i64.max<(((⟨⟨a⟩⟩:ByteArray).size+(⟨⟨b⟩⟩:ByteArray).size:Nat):Int)):=by
   simp only[IntKind.max,IntKind.signed,IntKind.bits,ByteArray.size,auI]
   push_cast
   simp;omega
  simp only[binOp,Op.stringOp,gt_iff_lt,atH A,abo];rfl
 all_goals first
  |exact False.elim G
  |exact⟨_,G,λ_=>⟨.bool _,λt w=>by simp[binOp,Op.stringOp,ByteArray.toList_eq],λ_ _=>.bool _⟩⟩
theorem G_{t:TypeId}{b:Bool}(h:wF P t=some b)(w:World):(isAgg t).run P w=.ok b w:=by unfold wF at h;unfold Go.isAgg;cases N:P.underlying t with|none=>simp[N]at h|some d=>simp only[Sem.run_bind,run_underlying N,Result.andThen_ok];cases d<;>simp_all
theorem G':∀{az:List Field} {r:List (Nat×Nat×Bool)} (_:tD P az r=true) {i:Nat} {o aC:Nat} {l7:Bool} (_:r[i]?=some (o,aC,l7)),∃f,az[i]?=some f/\f.offset = o/\(∃qy,P.info? f.type = some qy/\qy.size = aC)/\wF P f.type = some l7/\f.name ≠ "_"
 |[],[],_,i,o,aC,l7,ae=>by simp at ae
 |f::az,(bM,aq_,aq')::r,h,i,o,aC,l7,ae=>by simp only[tD,atN]at h;obtain⟨⟨⟨⟨h1,A⟩,Z⟩,aG⟩,bb⟩:=h;cases i with|zero =>simp at ae;obtain⟨rfl,rfl,rfl⟩:=ae;refine⟨f,rfl,auc h1,?_,by simpa using Z,by simpa using aG⟩;split at A;rename_i qy hi;exact⟨qy,hi,auc A⟩;cases A|succ i=>exact G' bb (i:=i) (by simpa using ae)
 |[],_::_,h,_,_,_,_,_=>by simp[tD]at h
 |_::_,[],h,_,_,_,_,_=>by simp[tD]at h
theorem zx{t:TypeId}{i:TypeInfo}(h:P.info? t=some i)(w:World):(sizeOf t).run P w=.ok i.size w:=by simp[sizeOf,typeInfo,h]
theorem abr(w:World)(b o n:Nat)(vs:List Value)(al:vs.length=n)(h:∀(j:Nat) v,vs[j]?=some v->w.cell? ⟨b,o+j,none⟩=some v): (loadCells ⟨b,o,none⟩ n).run P w=.ok ⟨vs⟩ w:=by subst al;exact run_loadCells_list w ⟨b,o,none⟩ vs (λj v X=>by rw[o0];exact h j v X)
theorem K5{e:bx}(ao:e.gh P)(jZ:e.agg=true)(w:World)(b o:Nat)(vs:List Value)(al:vs.length=e.aC)(h:∀(j:Nat) v,vs[j]?=some v->w.cell? ⟨b,o+j,none⟩=some v): (Instr.loadAt e.t (.pointer (some ⟨b,o,none⟩))).run P w=.ok (.agg ⟨vs⟩) w:=by simp only[Instr.loadAt,Instr.sureAddr,Sem.run_bind,Sem.run_pure,Result.andThen_ok,loadVar,ao.isAgg,jZ,auX,ao.size,abr (P:=P) w b o e.aC vs al h]
theorem K6{e:bx}(ao:e.gh P)(jZ:e.agg=false)(w:World)(b o:Nat)(v:Value)(h:w.cell? ⟨b,o,none⟩=some v): (Instr.loadAt e.t (.pointer (some ⟨b,o,none⟩))).run P w=.ok v w:=by simp only[Instr.loadAt,Instr.sureAddr,Sem.run_bind,Sem.run_pure,Result.andThen_ok,loadVar,ao.isAgg,jZ,auU,avs,run_load,h]
variable{α:Type}{i:Nat}
theorem lE{l:List α}(h:i<l.length):∃x,l[i]?=some x:=⟨l[i],atK h⟩
theorem K7{o:Nat}{f:Nat->Value}(hc:∀(j:Nat) d,aB[j]?=some d->w.cell? ⟨b,o+j,none⟩=some (f j)/\bh w C d (f j))
  {off aC:Nat} (dO:off+aC<=aB.length) :
  let vs:=(List.range aC).map λj=>f (off+j)
  vs.length=aC/\(∀(j:Nat) v,vs[j]?=some v->w.cell? ⟨b,o+off+j,none⟩=some v)/\bh w C (.agg ((aB.drop off).take aC)) (.agg ⟨vs⟩):=by
 refine⟨by simp,λj v X=>?_,.agg _ _ atx λi d v N X=>?_⟩
 ·simp only[aud,auP]at X;obtain⟨ex,gi,rfl⟩:=X
  have aa:j<aC:=by
   rcases at3 j aC with h|h
   ·exact h
   rw[atW (by simpa using h)]at gi;cases gi
  rw[List.getElem?_range aa]at gi;obtain rfl:j=ex:=by simpa using gi
  obtain⟨d,N⟩:=lE (l:=aB) (i:=off+j) atw;have:=(hc (off+j) d N).1;rw[<-this,avH]
 simp only[aud,auP]at X;obtain⟨ex,gi,rfl⟩:=X
 have aa:i<aC:=by
  rcases at3 i aC with h|h
  ·exact h
  rw[atW (by simpa using h)]at gi;cases gi
 rw[List.getElem?_range aa]at gi;obtain rfl:i=ex:=by simpa using gi
 have hg:aB[off+i]?=some d:=by
  rw[auB,atI aa,avM]at N;exact N
 exact(hc (off+i) d hg).2
theorem RH{e:bx}(ao:e.gh P){off:Nat}{K:D->Prop}(G:DE e off aB K): ∃d,K d/\∀(w:World) (C:Nat->Nat) (b o:Nat) (f:Nat->Value),(∀(j:Nat) d,aB[j]?=some d->w.cell? ⟨b,o+j,none⟩=some (f j)/\bh w C d (f j))->∃v,(Instr.loadAt e.t (.pointer (some ⟨b,o+off,none⟩))).run P w=.ok v w/\bh w C d v:=by unfold DE at G;cases jZ:e.agg with|true =>rw[jZ]at G;simp only at G;(have key:∀n,off+e.aC<=n->n=aB.length->∀(w:World) (C:Nat->Nat) (b o:Nat) (f:Nat->Value),(∀(j:Nat) d,aB[j]?=some d->w.cell? ⟨b,o+j,none⟩=some (f j)/\bh w C d (f j))->∃v,(Instr.loadAt e.t (.pointer (some ⟨b,o+off,none⟩))).run P w=.ok v w/\bh w C (.agg ((aB.drop off).take e.aC)) v:=by intro n aw al w C b o f hc;subst al;have Z:=K7 hc aw;exact⟨_,K5 ao jZ w b (o+off) _ Z.1 Z.2.1,Z.2.2⟩);(cases I:(Nat.beq off 0&&Nat.beq e.aC aB.length)with|true =>rw[I]at G;rw[atN]at I;have h0:=auc I.1;have h1:=auc I.2;subst h0;refine⟨_,G,λw C b o f hc=>?_⟩;obtain⟨v,X,ae⟩:=key aB.length atw rfl w C b o f hc;refine⟨v,X,?_⟩;rw[h1,List.drop_zero,atX]at ae;exact ae|false =>rw[I]at G;obtain⟨dO,G⟩:=h_ G;exact⟨_,G,λw C b o f hc=>key aB.length (aul dO) rfl w C b o f hc⟩)|false =>rw[jZ]at G;simp only at G;split at G;rename_i d N;exact⟨d,G,λw C b o f hc=>⟨_,K6 ao jZ w b (o+off) _ (hc off d N).1,(hc off d N).2⟩⟩;exact False.elim G
theorem K8{e:bx}(ao:e.gh P){off:Nat}{x:D}{K:D->Prop}(G:DF e k off x K): ∃d,K d/\∀(w:World) (C:Nat->Nat) (b o:Nat) (f:Nat->Value),x.cells.length=k->(∀(j:Nat) d,x.cells[j]?=some d->w.cell? ⟨b,o+j,none⟩=some (f j)/\bh w C d (f j))->∃v,(Instr.loadAt e.t (.pointer (some ⟨b,o+off,none⟩))).run P w=.ok v w/\bh w C d v:=by unfold DF at G;split at G;rename_i aB;(cases jZ:e.agg with|true =>rw[jZ]at G;simp only at G;(cases I:(Nat.beq off 0&&Nat.beq e.aC k)with|true =>rw[I]at G;rw[atN]at I;have h0:=auc I.1;have h1:=auc I.2;subst h0;refine⟨_,G,λw C b o f al hc=>?_⟩;simp only[D.cells]at al hc;have Z:=K7 (off:=0) (aC:=e.aC) hc atw;refine⟨_,K5 ao jZ w b (o+0) _ Z.1 Z.2.1,?_⟩;have aG:=Z.2.2;rw[h1,<-al,List.drop_zero,atX]at aG;rw[h1,<-al];exact aG|false =>rw[I]at G;obtain⟨dO,G⟩:=h_ G;refine⟨_,G,λw C b o f al hc=>?_⟩;simp only[D.cells]at al hc;have Z:=K7 (off:=off) (aC:=e.aC) hc (aul dO);exact⟨_,K5 ao jZ w b (o+off) _ Z.1 Z.2.1,Z.2.2⟩)|false =>rw[jZ]at G;simp only at G;split at G;rename_i d N;refine⟨d,G,λw C b o f al hc=>?_⟩;simp only[D.cells]at hc;exact⟨_,K6 ao jZ w b (o+off) _ (hc off d N).1,(hc off d N).2⟩;exact False.elim G);rename_i a7;replace G:=h_ G;obtain⟨I,G⟩:=G;rw[atN]at I;have h0:=auc I.1;(have jZ:e.agg=false:=by simpa using I.2);(have hcells:x.cells=[x]:=by cases x<;>first|rfl|exact absurd rfl (a7 _));refine⟨_,G,λw C b o f al hc=>?_⟩;rw[hcells]at hc;subst h0;exact⟨_,K6 ao jZ w b (o+0) _ (hc 0 x rfl).1,(hc 0 x rfl).2⟩
theorem e7{l:List α}{x:α}(h:l[i]?=some x):i<l.length:=by rcases at3 i l.length with bB|bB;exact bB;rw[atW bB]at h;cases h
theorem abs{o:Nat}{g:Nat->Value}(Y:∀x∈xs,x.cells.length=k)(ga:∀(j:Nat) d,(b2 xs)[j]?=some d->w.cell? ⟨b,o+j,none⟩=some (g j))(h:∀(j:Nat) d,(b2 xs)[j]?=some d->bh w C d (g j)){y:D}(hy:xs[i]?=some y)(j:Nat)(d:D)(N:y.cells[j]?=some d): w.cell? ⟨b,o+i*k+j,none⟩=some (g (i*k+j))/\bh w C d (g (i*k+j)):=by have abt:y.cells.length=k:=Y y (at1 hy);have aa:j<k:=abt ▸ e7 N;have M:=wH Y hy aa;rw[N]at M;exact⟨by rw[avH];exact ga _ _ M,h _ _ M⟩
variable{z:au}
theorem RI{ax:List bx}(hT:df P ax){x:D}{K:D->Prop}(G:zr ax z h t x K):
  ∃d,K d/\(h=true->∀(w:World) (C:Nat->Nat) (Ft:Nat->Prop) (v:Value),l6 Ft w C z.H->bh w C x v->
   ∃aj,(Instr.loadAt t v).run P w=.ok aj w/\bh w C d aj):=by
 unfold zr at G;split at G
 ·exact False.elim G
 rename_i e ao;obtain⟨c2,rfl⟩:=hT.get ao;split at G
 ·rename_i k xs i off;obtain⟨y,hy,G⟩:=G;obtain⟨d,hK,N⟩:=K8 c2 G;refine⟨d,hK,λav w C Ft v _ ae=>?_⟩;have hy:=hy av
  cases ae with
  |a_ _ _ _ _ b o cap bB =>
   rcases bB.kh with⟨F,X,_⟩|⟨eo,bM,hP,g,X,_,_,_,_,Y,_,ga,_,eQ⟩
   ·subst F;simp at hy
   simp only[Value.slice.injEq,aus,Addr.mk.injEq]at X;obtain⟨⟨rfl,rfl,_⟩,_⟩:=X;exact N w C b (o+i*k) (λj=>g (i*k+j)) (Y y (at1 hy)) (λj d N=>abs Y ga eQ hy j d N)
 ·rename_i s b off;split at G
  ·rename_i eo aB hH;obtain⟨rfl,G⟩:=G;obtain⟨d,hK,N⟩:=RH c2 G;refine⟨d,hK,λav w C Ft v hrel ae=>?_⟩
   cases ae with
   |box _ _ _ =>
    obtain⟨vs,bI,I,hQ,_⟩:=hrel.cj s _ hH
    have:=N w C b 0 (λj=>vs.getD j undef) (λj d N=>by
     have aa:=e7 N;rw[hQ.1]at aa;have X:vs[j]?=some vs[j]:=atK aa;have dP:vs.getD j undef=vs[j]:=by simp[List.getD,X]
     refine⟨?_,?_⟩
     ·simp only[World.cell?,I,auu,dP];simp[aa]
     rw[dP];exact hQ.2 j d _ N X)
    simpa using this
  exact False.elim G
 exact False.elim G
theorem abu{ax:List bx}(hT:df P ax){x:D}{f:Nat}{K:D->Prop}(G:KW ax t x f K): ∃d,K d/\∀(w:World) (C:Nat->Nat) (v:Value),bh w C x v->∃aj,(Instr.fieldAt t v f).run P w=.ok aj w/\bh w C d aj:=by unfold KW at G;split at G;exact False.elim G;rename_i e ao;obtain⟨c2,rfl⟩:=hT.get ao;split at G;rename_i o aC l7 b6 M;(cases hsz:Nat.beq aC 0 with|true=>rw[hsz]at G;exact False.elim G|false =>rw[hsz]at G;(have a7:aC≠0:=λh=>by subst h;cases hsz);simp only[auW]at G;obtain⟨az,l8,tE,_⟩:=c2.Bh b6;obtain⟨gH,dm,xS,⟨qy,DJ,DK⟩,_,_⟩:=G' tE M;(have run:∀(w:World) (b bM:Nat),(Instr.fieldAt e.t (.pointer (some ⟨b,bM,none⟩)) f).run P w=.ok (.pointer (some ⟨b,bM+o,none⟩)) w:=by intro w b bM;(have Bj:az[f]?=some gH:=by simpa using dm);simp[Instr.fieldAt,run_underlying l8,Bj,Instr.sureAddr,fieldPlace,zx DJ,DK,a7,xS,o0]);split at G;rename_i k xs i off;refine⟨_,G,λw C v ae=>?_⟩;(cases ae with|a_ _ _ _ _ b bM cap bB=>exact⟨_,run w b _,by have:=bh.a_ (w:=w) (C:=C) k xs i (off+o) b bM cap bB;rwa [<-avH]at this⟩);rename_i s b off;refine⟨_,G,λw C v ae=>?_⟩;(cases ae with|box _ _ _=>exact⟨_,run w b _,.box _ _ _⟩);exact False.elim G);exact False.elim G
theorem abv{ax:List bx}(hT:df P ax){x:D}{f:Nat}{K:D->Prop}(G:KX ax t x f K):
  ∃d,K d/\∀(w:World) (C:Nat->Nat) (v:Value),bh w C x v->∃aj,(Instr.field t v f).run P w=.ok aj w/\bh w C d aj:=by
 unfold KX at G;split at G
 ·exact False.elim G
 rename_i e ao;obtain⟨c2,rfl⟩:=hT.get ao;split at G
 ·rename_i o aC l7 b6 M;obtain⟨az,l8,tE,_⟩:=c2.Bh b6;obtain⟨gH,dm,xS,⟨qy,DJ,DK⟩,jZ,_⟩:=G' tE M;have Bj:az[f]?=some gH:=by simpa using dm
  split at G
  ·rename_i aB
   cases l7 with
   |true =>
    replace G:=h_ G;obtain⟨dO,G⟩:=G;refine⟨_,G,λw C v ae=>?_⟩
    cases ae with
    |agg _ vs al h =>
     refine⟨.agg ((⟨vs⟩:Array Value).extract o (o+aC)),by simp[Instr.field,run_underlying l8,Bj,part,G_ jZ,zx DJ,DK,xS,asAgg],?_⟩
     have bV:(⟨vs⟩:Array Value).extract o (o+aC)=⟨(vs.drop o).take aC⟩:=by
      apply avF;simp[List.extract]
     rw[bV];have ara:=aul dO;refine .agg _ _ (by simp[al]) λi d v N X=>?_;rw[auB]at N X;split at N
     ·rename_i hi;rw[atI hi]at X;rw[avM]at N X;exact h _ _ _ N X
     cases N
   |false =>
    simp only at G;split at G
    ·rename_i d N;refine⟨d,G,λw C v ae=>?_⟩
     cases ae with
     |agg _ vs al h =>
      have bf:o<vs.length:=al ▸ e7 N;have X:vs[o]?=some vs[o]:=atK bf;refine⟨vs[o],?_,h o d _ N X⟩;simp[Instr.field,run_underlying l8,Bj,part,G_ jZ,xS,asAgg,bf]
    exact False.elim G
  exact False.elim G
 exact False.elim G
theorem abw{ax:List bx}(hT:df P ax){x fV:D}{K:D->Prop}(G:KY ax h t x fV K):
  ∃d,K d/\(h=true->∀(w:World) (C:Nat->Nat) (v u6:Value),bh w C x v->bh w C fV u6->∃aj,(Instr.indexAt t v u6).run P w=.ok aj w/\bh w C d aj):=by
 unfold KY at G;split at G
 ·exact False.elim G
 rename_i e ao;obtain⟨c2,rfl⟩:=hT.get ao;split at G
 ·rename_i bI b6;split at G
  ·exact False.elim G
  rename_i aF ki;obtain⟨fo,rfl⟩:=hT.get ki;split at G
  ·rename_i tg k xs hB i;replace G:=h_ G;obtain⟨Y,hi,G⟩:=G;have Y:=auc Y;refine⟨_,G,λav w C v u6 ae zy=>?_⟩;obtain⟨h0,h1⟩:=hi av;cases zy
   have an:=c2.kg b6;rcases ae.iw.kh with⟨rfl,_,_⟩|⟨b,o,cap,g,rfl,_,I,hc,hm,abx,de,ga,ee,eQ⟩
   ·simp at h1;omega
   refine⟨.pointer (some ⟨b,o+i.toNat*k,none⟩),?_,?_⟩
   ·simp[Instr.indexAt,asIntOf,run_underlying an,h0,h1,fo.size,o0,Y]
   have:=bh.a_ (w:=w) (C:=C) k xs i.toNat 0 b o cap (.Q .none k xs b o cap g trivial I hc hm abx de ga ee eQ);simpa using this
  exact False.elim G
 exact False.elim G
theorem aby(s:atG)(i:Nat):(⟨⟨s⟩⟩:ByteArray)[i]?=s[i]?:=by by_cases h:i<s.length;rw[atK h];have bB:i<(⟨⟨s⟩⟩:ByteArray).size:=h;rw[getElem?_pos (⟨⟨s⟩⟩:ByteArray) i bB];rfl;rw[atW (Nat.le_of_not_lt h)];have bB:¬i<(⟨⟨s⟩⟩:ByteArray).size:=h;rw[getElem?_neg (⟨⟨s⟩⟩:ByteArray) i bB]
theorem abz{ax:List bx}(hT:df P ax){x fV:D}{K:D->Prop}(G:KZ ax h t x fV K):
  ∃d,K d/\(h=true->∀(w:World) (C:Nat->Nat) (v u6:Value),bh w C x v->bh w C fV u6->∃aj,(Instr.index t v u6).run P w=.ok aj w/\bh w C d aj):=by
 unfold KZ at G;split at G
 ·exact False.elim G
 rename_i e ao;obtain⟨c2,rfl⟩:=hT.get ao;split at G
 ·rename_i b6;split at G
  ·rename_i s hB i;obtain⟨c,hc,G⟩:=G;refine⟨_,G,λav w C v u6 ae zy=>?_⟩;obtain⟨h0,h1⟩:=hc av;cases zy;cases ae
   refine⟨_,?_,.int _ _⟩;have an:=c2.pO b6;simp[Instr.index,asIntOf,run_underlying an,h0,aby,h1]
  exact False.elim G
 exact False.elim G
theorem xT(xs a':List D):b2 (xs++a')=b2 xs++b2 a':=by simp[b2]
variable{j:Nat}
theorem K9(Y:∀x∈xs,x.cells.length=k){l r:Nat}(al:l<=r)(ae:r<=xs.length)(h:(b2 ((xs.take r).drop l))[j]?=some d):(b2 xs)[l*k+j]?=some d:=by(have bV:b2 xs=b2 (xs.take r)++b2 (xs.drop r):=by rw[<-xT,avb]);(have b9:b2 (xs.take r)=b2 ((xs.take r).take l)++b2 ((xs.take r).drop l):=by rw[<-xT,avb]);(have hlen:(b2 ((xs.take r).take l)).length=l*k:=by rw[pI (k:=k) (λx F=>Y x (auO (auO F)))];congr 1;simp;omega);have aa:=e7 h;rw[bV,at0,b9,auo atw,hlen,show l*k+j-l*k=j from by omega];exact h;rw[b9,atP,hlen];omega
theorem K_(s:atG)(l r:Nat):(⟨⟨s⟩⟩:ByteArray).extract l r=⟨⟨(s.take r).drop l⟩⟩:=by apply ByteArray.ext;simp only[ByteArray.data_extract];apply avF;simp[List.extract,List.drop_take]
variable{k4:Option Operand}
theorem RJ{k:Int->Prop}(G:G5 h z k4 k): ∃l,k l/\(h=true->∀(w:World) (C:Nat->Nat) (ρ:Operand->Value),(∀x,k4=some x->bh w C (z.ba x) (ρ x))->(k4.map ρ=none/\l=0)\/∃hB,k4.map ρ=some (.int hB l)):=by unfold G5 at G;split at G;exact⟨0,G,λ_ _ _ _ _=>.inl ⟨rfl,rfl⟩⟩;exact axr
variable{hi:Option Operand}
theorem RL{n:Int}{k:Int->Prop}(G:G6 h z hi n k): ∃l,k l/\(h=true->∀(w:World) (C:Nat->Nat) (ρ:Operand->Value),(∀x,hi=some x->bh w C (z.ba x) (ρ x))->(hi.map ρ=none/\l=n)\/∃hB,hi.map ρ=some (.int hB l)):=by unfold G6 at G;split at G;exact⟨n,G,λ_ _ _ _ _=>.inl ⟨rfl,rfl⟩⟩;exact axr
variable{Bk:Bool}{cap:Nat}{r:Int}
theorem RM{len:Nat}{k4 hi:Option Value}{l:Int}(al:(k4=none/\l=0)\/∃hB,k4=some (.int hB l))(ae:(hi=none/\r=(len:Int))\/∃hB,hi=some (.int hB r))(h0:0<=l)(h1:l<=r)(A:r<=(cap:Int))(w:World):(Instr.sliceBounds Bk len cap k4 hi none).run P w=.ok (l.toNat,r.toNat,cap) w:=by(have Z:0<=r:=by omega);rcases al with⟨rfl,rfl⟩|⟨zz,rfl⟩<;>rcases ae with⟨rfl,rfl⟩|⟨wI,rfl⟩ <;> simp[Instr.sliceBounds,run_sliceBound,h0,h1,A,Z,Int.toNat_of_nonneg Z]
theorem abA{len:Nat}{k4 hi:Option Value}{l:Int}{Ha:IntKind}(al:(k4=none/\l=0)\/∃hB,k4=some (.int hB l))(ae:∃hB,hi=some (.int hB r))(h0:0<=l)(h1:l<=r)(A:r<=(cap:Int))(w:World):(Instr.sliceBounds Bk len cap k4 hi (some (.int Ha r))).run P w=.ok (l.toNat,r.toNat,r.toNat) w:=by(have Z:0<=r:=by omega);obtain⟨wI,rfl⟩:=ae;rcases al with⟨rfl,rfl⟩|⟨zz,rfl⟩ <;> simp[Instr.sliceBounds,run_sliceBound,h0,h1,A,Z,Int.toNat_of_nonneg Z]
variable{tg nP:iv}
theorem RN{a:Option Addr}{n:Nat}(ae:bh w C (.Q tg k xs) (.slice a n cap)){l r m:Nat}(al:l<=r)(zA:r<=xs.length)(hm:r<=m)(arb:m<=cap)(u7:∀bw,nP.gh (.slice bw (r-l) (m-l))): bh w C (.Q nP k ((xs.take r).drop l)) (.slice (if m=l then a else a.map (·.add (l*k))) (r-l) (m-l)):=by(have hC:((xs.take r).drop l).length=r-l:=by simp;omega);rcases ae.kh with⟨rfl,⟨a0,X⟩,_⟩|⟨b,o,hP,g,X,_,I,hc,l9,Y,de,ga,ee,eQ⟩;simp only[Value.slice.injEq]at X;obtain⟨rfl,rfl,rfl⟩:=X;(obtain rfl:r=0:=by simpa using zA);(obtain rfl:m=0:=by omega);(obtain rfl:l=0:=by omega);have:=u7 a;simpa using bh.iP (w:=w) (C:=C) nP k a this;simp only[Value.slice.injEq]at X;obtain⟨rfl,rfl,rfl⟩:=X;have fH:∀x∈(xs.take r).drop l,x.cells.length=k:=λx F=>Y x (auO (avX F));by_cases gs:m=l;subst gs;(obtain rfl:r=m:=by omega);have pP:(xs.take r).drop r=[]:=awu atx;have arc:0<=xs.length*k:=at4 _;have:=bh.Q (w:=w) (C:=C) nP k [] b o 0 (λ_=>undef) (by simpa using u7 (some ⟨b,o,none⟩)) I (atQ _) (at4 _) (λx F=>by cases F) atx (λj d N=>by simp[b2]at N) (λj d N=>by simp[b2]at N) (λj d N=>by simp[b2]at N);rw[pP];simpa using this;rw[atH gs];(have abB:o+l*k+((xs.take r).drop l).length*k<=C b:=by rw[hC];(have:l*k+(r-l)*k<=xs.length*k:=by rw[<-awH];exact avi _ atw);omega);have:=bh.Q (w:=w) (C:=C) nP k ((xs.take r).drop l) b (o+l*k) (m-l) (λj=>g (l*k+j)) (by rw[hC];exact u7 _) I (by rw[hC];omega) atw fH abB (λj d N=>by rw[avH];exact ga _ _ (K9 Y al zA N)) (λj d N=>ee _ _ (K9 Y al zA N)) (λj d N=>eQ _ _ (K9 Y al zA N));rw[hC]at this;simpa[o0]using this
theorem abC{ax:List bx}(hT:df P ax){x:D}{qw:Option Operand}{K:D->Prop}(G:K0 ax h z t x k4 hi qw K): ∃d,K d/\(h=true->∀(w:World) (C:Nat->Nat) (v:Value) (ρ:Operand->Value),bh w C x v->(∀y,k4=some y->bh w C (z.ba y) (ρ y))->(∀y,hi=some y->bh w C (z.ba y) (ρ y))->(∀y,qw=some y->bh w C (z.ba y) (ρ y))->∃aj,(Instr.sliceAt t v (k4.map ρ) (hi.map ρ) (qw.map ρ)).run P w=.ok aj w/\bh w C d aj):=by unfold K0 at G;split at G;exact False.elim G;rename_i e ao;obtain⟨c2,rfl⟩:=hT.get ao;split at G;rename_i b6;have an:=c2.pO b6;split at G;rename_i s;obtain⟨l,G,Hb⟩:=RJ G;obtain⟨r,G,sx⟩:=RL G;split at G;obtain⟨I,G⟩:=G;refine⟨_,G,λav w C v ρ ae h1 A Z=>?_⟩;obtain⟨dC,cm,eR⟩:=I av;cases ae;refine⟨_,?_,.O _⟩;have hs:(⟨⟨s⟩⟩:ByteArray).size=s.length:=rfl;have K':=sx av w C ρ A;have:=RM (P:=P) (Bk:=false) (len:=(⟨⟨s⟩⟩:ByteArray).size) (cap:=(⟨⟨s⟩⟩:ByteArray).size) (Hb av w C ρ h1) K' dC cm eR w;simp[Instr.sliceAt,run_underlying an,Instr.slice,this,K_];exact False.elim G;exact False.elim G;rename_i bI b6;have an:=c2.kg b6;split at G;exact False.elim G;rename_i aF ki;obtain⟨fo,rfl⟩:=hT.get ki;split at G;rename_i tg k xs;replace G:=h_ G;obtain⟨Y,G⟩:=G;have Y:=auc Y;obtain⟨l,G,Hb⟩:=RJ G;obtain⟨r,G,sx⟩:=RL G;(cases qw with|none =>obtain⟨I,G⟩:=G;refine⟨_,G,λav w C v ρ ae h1 A Z=>?_⟩;obtain⟨dC,cm,eR⟩:=I av;(have je:∃a cap,v=.slice a xs.length cap/\xs.length<=cap:=axH);obtain⟨a,cap,rfl,hcap⟩:=je;have:=RM (P:=P) (Bk:=true) (len:=xs.length) (cap:=cap) (Hb av w C ρ h1) (sx av w C ρ A) dC cm atw w;have eQ:=RN (nP:=.none) ae (l:=l.toNat) (r:=r.toNat) (m:=cap) atw atw atw (atQ _) (λ_=>trivial);refine⟨_,?_,eQ⟩;simp[Instr.sliceAt,run_underlying an,Instr.slice,this,fo.size,Y]|some abD =>replace G:=h_ G;obtain⟨DL,G⟩:=G;obtain⟨d,N,hm⟩:=iR G;split at N;rename_i Ha La;obtain⟨I,G⟩:=N;refine⟨_,G,λav w C v ρ ae h1 A Z=>?_⟩;obtain⟨rfl,dC,cm,eR⟩:=I av;(have je:∃a cap,v=.slice a xs.length cap/\xs.length<=cap:=axH);obtain⟨a,cap,rfl,hcap⟩:=je;have gu:=(hm av w C _ (Z abD rfl)).fw;(have K':∃hB,hi.map ρ=some (.int hB La):=by rcases sx av w C ρ A with⟨aw,_⟩|h;cases hi<;>simp at aw DL;exact h);have:=abA (P:=P) (Bk:=true) (len:=xs.length) (cap:=cap) (Ha:=Ha) (Hb av w C ρ h1) K' dC cm atw w;have eQ:=RN (nP:=.dV) ae (l:=l.toNat) (r:=La.toNat) (m:=La.toNat) atw atw (atQ _) atw (λbw=>⟨bw,_,rfl⟩);refine⟨_,?_,eQ⟩;simp[Instr.sliceAt,run_underlying an,Instr.slice,gu,this,fo.size,Y];exact False.elim N);exact False.elim G;exact False.elim G
theorem DM{h:Bool}{z:au}:∀{xs:List Operand} {k:List D->Prop} (_:zt h z xs k),∃ds,k ds/\(h=true->∀(w:World) (C:Nat->Nat) (ρ:Operand->Value),(∀x∈xs,bh w C (z.ba x) (ρ x))->c' w C ds (xs.map ρ))
 |[],k,G=>⟨[],G,λ_ w C _ _=>.nil w C⟩
 |x::r,k,G=>by simp only[zt]at G;obtain⟨d,G,N⟩:=iR G;obtain⟨ds,Y,pQ⟩:=DM G;exact⟨d::ds,Y,λav w C ρ cZ=>.cons (N av w C _ (cZ x atU)) (pQ av w C ρ λy hy=>cZ y (atY _ hy))⟩
theorem dN.rv{w:World}{C:Nat->Nat}:∀{ds kG:List D} {vs:List Value},dN ds kG->c' w C ds vs->c' w C kG vs
 |[],[],vs,_,h=>h
 |d::ds,d'::kG,[],_,h=>by have:=h.1;simp at this
 |d::ds,d'::kG,v::vs,al,h=>.cons (al.1.le _ _ _ h.head) (al.2.rv h.tail)
 |[],_::_,_,al,_=>al.elim
 |_::_,[],_,al,_=>al.elim
theorem c'.append{w:World}{C:Nat->Nat}:∀{ds:List D} {vs:List Value} {kG:List D} {fW:List Value},c' w C ds vs->c' w C kG fW->c' w C (ds++kG) (vs++fW)
 |[],[],_,_,_,h=>h
 |d::ds,v::vs,_,_,h,bB=>.cons h.head (h.tail.append bB)
 |[],_::_,_,_,h,_=>by have:=h.1;simp at this
 |_::_,[],_,_,h,_=>by have:=h.1;simp at this
def gv(C:Nat->Nat)(b n:Nat):Nat->Nat:=λx=>if x=b then n else C x
theorem hr(C:Nat->Nat)(b n:Nat):gv C b n b=n:=by simp[gv]
theorem rx(C:Nat->Nat){x:Nat}(n:Nat)(h:x≠b):gv C b n x=C x:=by simp[gv,h]
theorem abE(w:World)(o:Obj)(h:k<w.heap.size):(w.alloc o).heap[k]?=w.heap[k]?:=Below.heap_alloc w o k h
theorem kH(w:World)(o:Obj):(w.alloc o).heap[w.heap.size]?=some o:=by show(w.heap.push o)[w.heap.size]?=some o;simp
theorem c_.alloc(Ft:Nat->Prop)(w:World)(C:Nat->Nat)(o:Obj)(n:Nat):c_ Ft w C (w.alloc o) (gv C w.heap.size n) :=
 ⟨⟨by simp,λb I=>by rw[rx _ _ (Nat.ne_of_lt I)];exact atQ _,λb bM I _=>World.cell?_alloc_lt w o ⟨b,bM,none⟩ I⟩,rfl,rfl,rfl,
  λb I _=>⟨abE w o I,rx _ _ (Nat.ne_of_lt I)⟩⟩
theorem c_.drew(Ft:Nat->Prop)(w:World)(C:Nat->Nat):c_ Ft w C w.drew C :=
 ⟨⟨atQ _,λ_ _=>atQ _,λ_ _ _ _=>rfl⟩,rfl,rfl,rfl,λ_ _ _=>⟨rfl,rfl⟩⟩
theorem bh.oz(h:bh w C d v)(ah:d.one=true):v.cells=#[v]/\v.oneCell'=true:=by
 cases h<;>simp[D.one]at ah<;>try exact⟨rfl,rfl⟩
 cases v<;>simp[Value.oneCell']at ah<;>exact⟨rfl,rfl⟩
theorem Lb:∀(aB:List D) (n:Nat) (d:D),(iy aB n d).length=aB.length
 |[],_,_=>rfl
 |_::_,0,_=>rfl
 |_::r,n+1,d=>by simp[iy,Lb r n d]
theorem Lc:∀(aB:List D) (n:Nat) (d:D) (i:Nat),(iy aB n d)[i]?=if i=n/\n<aB.length then some d else aB[i]?
 |[],n,d,i=>by simp[iy]
 |c::r,0,d,i=>by cases i<;>simp[iy]
 |c::r,n+1,d,i=>by cases i with|zero=>simp[iy]|succ i=>simp[iy,Lc r n d i]
theorem abF{off:Nat}(h:off+ds.length<=aB.length):(su aB off ds).length=aB.length:=by simp[su];omega
theorem RO{off:Nat}(h:off+ds.length<=aB.length)(i:Nat): (su aB off ds)[i]?=if off<=i/\i<off+ds.length then ds[i-off]? else aB[i]?:=by unfold su;by_cases h1:i<off;rw[atH atw,aup,at0 atx,auB,atI h1];by_cases A:i<off+ds.length;rw[atI ⟨by omega,A⟩,aup,auo atx,at0 atx];congr 1;simp;omega;rw[atH atw,auo atx,avM];congr 1;simp;omega
variable{dk:List Value}
theorem c'.laid{vs:List Value}{off:Nat}{r:Array Value}(h:c' w C aB vs)(bB:c' w C ds dk)(dO:off+ds.length<=aB.length)(hs:r.size=vs.length)(ae:∀k,r[k]?=if off<=k/\k<off+dk.length/\k<vs.length then dk[k-off]? else vs[k]?):c' w C (su aB off ds) r.toList:=by refine⟨by rw[abF dO,h.1];simpa using hs.symm,λi d v N X=>?_⟩;rw[RO dO]at N;(have dP:r[i]?=some v:=by simpa using X);rw[ae]at dP;have al:=h.1;have mG:=bB.1;by_cases hc:off<=i/\i<off+ds.length;rw[atI hc]at N;rw[atI ⟨hc.1,by omega,by omega⟩]at dP;exact bB.2 _ _ _ N dP;rw[atH hc]at N;rw[atH atw]at dP;exact h.2 _ _ _ N dP
theorem RP{off:Nat}(h:off<aB.length):iy aB off d=su aB off [d]:=by apply au4;intro i;rw[Lc,RO atx];by_cases hi:i=off;subst hi;rw[atI ⟨rfl,h⟩,atI ⟨atQ _,by simp⟩];simp;rw[atH atw,atH atx]
theorem abG{cells:Array Value}{off:Nat}(h:c' w C aB cells.toList)(bB:c' w C ds v.cells.toList)(dO:off+ds.length<=aB.length): c' w C (su aB off ds) (v.cells.zipIdx.foldl (λaB (c,j)=>aB.setIfInBounds (off+j) c) cells).toList/\(v.cells.zipIdx.foldl (λaB (c,j)=>aB.setIfInBounds (off+j) c) cells).size=cells.size:=by have M:=Great.foldl_set off v.cells.toList 0 cells;(have e:(v.cells.zipIdx.foldl (λaB (c,j)=>aB.setIfInBounds (off+j) c) cells)=((v.cells.toList.zipIdx 0).foldl (λaB (x:Value×Nat)=>aB.setIfInBounds (off+x.2) x.1) cells):=by rw[<-Array.foldl_toList,Array.toList_zipIdx]);rw[e];refine⟨h.laid bB dO (by simpa using M.1) λk=>?_,M.1⟩;rw[M.2 k];simp
theorem RQ{oZ:List (Nat×Nat×Bool)}:∀{ds:List (Nat×D)} {aB:List D} {K:List D->Prop} (_:zu oZ aB ds K),∃dv,K dv/\∀(w:World) (C:Nat->Nat) (cells:Array Value) (vs:List (Nat×Value)) (et:List (Nat×Nat)),c' w C aB cells.toList->vs.map (·.1)=ds.map (·.1)->c' w C (ds.map (·.2)) (vs.map (·.2))->(∀(i o aC:Nat) (l7:Bool),oZ[i]?=some (o,aC,l7)->et[i]?=some (o,aC))->∃zB,Instr.fill (et[·]?) cells vs=some zB/\c' w C dv zB.toList
 |[],aB,K,G=>⟨aB,G,λw C cells vs et ae X _ _=>by(have:vs=[]:=by simpa using X);subst this;exact⟨cells,rfl,ae⟩⟩
 |(i,d)::r,aB,K,G=>by simp only[zu]at G;split at G;exact False.elim G;rename_i o aC l7 M;(have key:∃kG,kG.length=aC/\o+aC<=aB.length/\zu oZ (su aB o kG) r K/\∀(w:World) (C:Nat->Nat) (v:Value),bh w C d v->c' w C kG v.cells.toList:=by cases l7 with|true =>simp only at G;split at G;rename_i kG;replace G:=h_ G;obtain⟨I,G⟩:=G;rw[atN]at I;refine⟨kG,auc I.1,aul I.2,G,λw C v ae=>?_⟩;obtain⟨vs,rfl,h⟩:=ae.tx;exact h;exact False.elim G|false =>simp only at G;replace G:=h_ G;obtain⟨I,G⟩:=G;rw[atN,atN]at I;have bf:o<aB.length:=auz (auy _) (aul I.1.1);have hsz:=auc I.2;refine⟨[d],by simp[hsz],by omega,by rw[<-RP bf];exact G,λw C v ae=>?_⟩;rw[(ae.oz I.1.2).1];exact .cons ae (.nil _ _));obtain⟨kG,al,dO,G,N⟩:=key;obtain⟨dv,hK,Hc⟩:=RQ G;refine⟨dv,hK,λw C cells vs et ae X fy ay=>?_⟩;cases vs with|nil=>simp at X|cons p vs =>obtain⟨hh,v⟩:=p;simp only[aui,avW]at X;obtain⟨rfl,dP⟩:=X;have RR:=N w C v fy.head;obtain⟨h1,A⟩:=abG ae RR (by rw[al];exact dO);obtain⟨zB,Z,aG⟩:=Hc w C _ vs et h1 dP fy.tail ay;refine⟨zB,?_,aG⟩;unfold Instr.fill;(have o1:v.cells.size=aC:=by have:=RR.1;rw[al]at this;simpa using this.symm);(have jE:cells.size=aB.length:=by have:=ae.1;simpa using this.symm);rw[ay _ _ _ _ M];simp only;rw[atH (by rw[o1,jE];simp;omega)];exact Z
theorem DN{h:Bool}{z:au}:∀{xs:List (Nat×Operand)} {k:List (Nat×D)->Prop} (_:zv h z xs k),∃ds,k ds/\ds.map (·.1)=xs.map (·.1)/\(h=true->∀(w:World) (C:Nat->Nat) (ρ:Operand->Value),(∀x∈xs,bh w C (z.ba x.2) (ρ x.2))->c' w C (ds.map (·.2)) (xs.map λx=>ρ x.2))
 |[],k,G=>⟨[],G,rfl,λ_ w C _ _=>.nil w C⟩
 |(i,x)::r,k,G=>by simp only[zv]at G;obtain⟨d,G,N⟩:=iR G;obtain⟨ds,Y,h1,pQ⟩:=DN G;exact⟨(i,d.iw)::ds,Y,by simp[h1],λav w C ρ cZ=>.cons (N av w C _ (cZ (i,x) atU)).iw (pQ av w C ρ λy hy=>cZ y (atY _ hy))⟩
theorem RS:∀{az:List Field} {r:List (Nat×Nat×Bool)} (_:tD P az r=true),az.mapM (λf=>(P.info? f.type).map λi=>(f.offset,i.size))=some (r.map λx=>(x.1,x.2.1))
 |[],[],_=>rfl
 |f::az,(o,aC,l7)::r,h=>by simp only[tD,atN]at h;obtain⟨⟨⟨⟨h1,A⟩,Z⟩,aG⟩,bb⟩:=h;have aZ:=RS bb;split at A;rename_i i hi;have bV:=auc h1;have b9:=auc A;simp[hi,aZ,bV,b9];cases A
 |[],_::_,h=>by simp[tD]at h
 |_::_,[],h=>by simp[tD]at h
variable{V:List D}
theorem abH{e:bx}(ao:e.gh P)(b6:e.kind=.struct)(bC:e.zero=some V){ds:List (Nat×D)}{K:List D->Prop}(G:zu e.oZ V ds K): ∃aB,K aB/\∀(w:World) (C:Nat->Nat) (vs:Array (Nat×Value)),vs.toList.map (·.1)=ds.map (·.1)->c' w C (ds.map (·.2)) (vs.toList.map (·.2))->∃v,(Instr.build e.t vs).run P w=.ok v w/\bh w C (.agg aB) v:=by obtain⟨aB,hK,h⟩:=RQ G;refine⟨aB,hK,λw C vs h1 A=>?_⟩;obtain⟨az,l8,tE,_⟩:=ao.Bh b6;obtain⟨i,hi,hs,_,nd⟩:=ao.qx;obtain⟨eh,lF,l_,jF⟩:=nd V bC;have dg:=RS tE;obtain⟨zB,Z,aG⟩:=h w C eh.cells vs.toList (e.oZ.map λx=>(x.1,x.2.1)) (jF w C) h1 A (λi o aC l7 M=>by simp[M]);refine⟨.agg zB,run_build w e.t vs zB ?_,.agg _ _ aG.1 aG.2⟩;unfold Program.built;rw[hi,l8];simp only[lF,dg];simpa using Z
theorem c'.one{w:World}{C:Nat->Nat}{ds:List D}{vs:List Value}(h:c' w C ds vs)(ah:ds.all D.one=true):∀aj∈vs,aj.oneCell'=true:=by intro aj an;obtain⟨j,aa⟩:=auf.1 an;obtain⟨d,N⟩:=lE (l:=ds) (i:=j) (by rw[h.1];exact e7 aa);exact((h.2 j d aj N aa).oz (auE.1 ah d (at1 N))).2
theorem Ld{k:Nat}:∀{ds:List (Nat×D)} {n:Nat} (_:tC k n ds),ds.map (·.1)=List.range' n ds.length/\∀w C,∀x∈ds,∀v,bh w C x.2 v->x.2.cells.length=k/\v.cells.size=k/\c' w C x.2.cells v.cells.toList/\∀aj∈v.cells.toList,aj.oneCell'=true
 |[],n,_=>⟨rfl,λ_ _ x F=>by cases F⟩
 |(i,d)::r,n,h=>by simp only[tC]at h;replace h:=h_ h;obtain⟨I,h⟩:=h;rw[atN]at I;obtain⟨h1,A⟩:=Ld h;have hi:=auc I.1;subst hi;refine⟨by simp[h1,List.range'_succ],λw C x F v X=>?_⟩;rcases at5.1 F with rfl|F;have Z:=I.2;simp only at X Z⊢;split at Z;rename_i ds;rw[atN]at Z;obtain⟨vs,rfl,h⟩:=X.tx;have al:=auc Z.1;refine⟨al,?_,h,h.one Z.2⟩;have:=h.1;simp only[Value.cells,auI];omega;rename_i a7;rw[atN]at Z;obtain⟨aG,bb⟩:=X.oz Z.1;have Y:=auc Z.2;(have hcells:d.cells=[d]:=by cases d<;>first|rfl|exact absurd rfl (a7 _));rw[hcells,aG];exact⟨by simp[Y],by simp[Y],.cons X (.nil _ _),by simpa using bb⟩;exact A w C x F v X
theorem Le{w:World}{C:Nat->Nat}:∀{ds:List D} {vs:List Value},ds.length=vs.length->(∀(i:Nat) d v,ds[i]?=some d->vs[i]?=some v->c' w C d.cells v.cells.toList)->c' w C (b2 ds) (vs.flatMap λv=>v.cells.toList)
 |[],[],_,_=>.nil _ _
 |d::ds,v::vs,al,h=>by simp only[b2,auL];exact(h 0 d v rfl rfl).append (Le (by simpa using al) λi d' c9 h1 A=>h (i+1) d' c9 (by simpa using h1) (by simpa using A))
 |[],_::_,al,_=>by simp at al
 |_::_,[],al,_=>by simp at al
theorem xU{vs:List Value}{e:TypeId}{kj:Nat×Nat}(I:w.heap[b]?=some (.cells ⟨vs⟩ e kj))(Y:∀x∈xs,x.cells.length=k)(hc:xs.length<=cap)(hm:cap<=maxLen)(de:xs.length*k<=C b)(ae:∀(j:Nat) d,(b2 xs)[j]?=some d->∃v,vs[j]?=some v/\bh w C d v/\v.oneCell'=true)(u7:tg.gh (.slice (some ⟨b,0,none⟩) xs.length cap)): bh w C (.Q tg k xs) (.slice (some ⟨b,0,none⟩) xs.length cap):=by refine .Q tg k xs b 0 cap (λj=>vs.getD j undef) u7 (avu.1 I).1 hc hm Y atw (λj d N=>?_) (λj d N=>?_) (λj d N=>?_);obtain⟨v,X,_⟩:=ae j d N;rw[auu];simp[World.cell?,I,List.getD,X];obtain⟨v,X,_,ah⟩:=ae j d N;simpa[List.getD,X]using ah;obtain⟨v,X,Lf,_⟩:=ae j d N;simpa[List.getD,X]using Lf
theorem Hd{k:IntKind}:∀zs:List Int,b2 (zs.map (D.int k))=zs.map (D.int k)
 |[]=>rfl
 |V::zs=>by have:=Hd (k:=k) zs;simp only[b2,aui,auL]at*;rw[this];rfl
theorem He{vs:List Value}{e:TypeId}(Y:∀x∈xs,x.cells.length=k)(hc:xs.length<=cap)(hm:cap<=maxLen)
  (ae:∀(j:Nat) d,(b2 xs)[j]?=some d->∃v,vs[j]?=some v/\bh w C d v/\v.oneCell'=true) (u7:tg.gh (.slice (some ⟨w.heap.size,0,none⟩) xs.length cap)) :
  bh (w.alloc (.cells ⟨vs⟩ e)) (gv C w.heap.size (xs.length*k)) (.Q tg k xs) (.slice (some ⟨w.heap.size,0,none⟩) xs.length cap) :=
 xU (kH w _) Y hc hm (by simp[hr]) (λj d N=>by
  obtain⟨v,X,Lf,ah⟩:=ae j d N
  exact⟨v,X,Lf.ext (c_.alloc (λ_=>False) w C (.cells ⟨vs⟩ e) (xs.length*k)).ext,ah⟩) u7
theorem Lg(s:ByteArray):∀(f i:Nat) (fz:Array Value),(Conv.runesFrom s f i fz).toList=fz.toList++(sv s f i).map (Value.int .i32)
 |0,i,fz=>by simp[Conv.runesFrom,sv]
 |f+1,i,fz=>by simp only[Conv.runesFrom,sv];split;rw[Lg s f];simp;simp
theorem abI(zs:List Int):runesBytes zs=⟨⟨cy zs⟩⟩:=by(have key:∀(zs:List Int) (r:ByteArray),zs.foldl (λr n=>r++Utf8.encode n) r=r++⟨⟨cy zs⟩⟩:=by intro zs;induction zs with|nil=>intro r;apply ByteArray.ext;simp[cy]|cons V zs aZ =>intro r;rw[au0,aZ];apply ByteArray.ext;apply avF;simp[cy]);rw[runesBytes,key];apply ByteArray.ext;simp
theorem RT{k:ru}(h:G7 k=true):k=.int .i32:=by unfold G7 at h;split at h;rfl;cases h
variable{ox:Nat}
theorem abJ{ax:List bx}(hT:df P ax){dst:Nat}{x:D}{K:D->Prop}(G:K1 ax ox dst x K): ∃d,K d/\∀(w:World) (C:Nat->Nat) (v:Value),bh w C x v->∃aj w' aR,(convert ox dst v).run P w=.ok aj w'/\bh w' aR d aj/\c_ (λ_=>False) w C w' aR:=by unfold K1 at G;split at G;rename_i a b ha I;obtain⟨zC,rfl⟩:=hT.get ha;obtain⟨zD,rfl⟩:=hT.get I;split at G;rename_i ag xV dh n iA pR;have h1:=zC.sw iA;have A:=zD.sw pR;(have key:∃m,K (.int xV m)/\m=xV.wrap n:=by rcases G with⟨h1,A⟩|A;exact⟨n,A,(K4 h1).symm⟩;exact⟨_,A,rfl⟩);obtain⟨m,hK,rfl⟩:=key;refine⟨_,hK,λw C v ae=>⟨_,w,C,?_,.int _ _,.refl _ _ _⟩⟩;rw[ae.fw];simp[convert,run_underlying h1,run_underlying A,Conv.intToInt];rename_i s iA pR;have h1:=zC.pO iA;have A:=zD.pO pR;refine⟨_,G,λw C v ae=>⟨_,w,C,?_,.O _,.refl _ _ _⟩⟩;rw[ae.kD];simp[convert,run_underlying h1,run_underlying A];rename_i ag dh n iA pR;have h1:=zC.sw iA;have A:=zD.pO pR;refine⟨_,G,λw C v ae=>⟨_,w,C,?_,.O _,.refl _ _ _⟩⟩;rw[ae.fw,run_convert_int_string w a.t b.t dh n (by rw[h1];rfl) A];rename_i bI s iA pR;split at G;rename_i aF ki;obtain⟨fo,rfl⟩:=hT.get ki;replace G:=h_ G;obtain⟨I,hlen,hK⟩:=G;simp only[atN]at I;have kk:=RT I.1;refine⟨_,hK,λw C v ae=>?_⟩;rw[ae.kD];have hsz:=size_runesFrom ⟨⟨s⟩⟩ s.length 0 #[];have iT:(⟨⟨s⟩⟩:ByteArray).size=s.length:=rfl;have cY:=run_runes_of_string (P:=P) w a.t b.t aF.t ⟨⟨s⟩⟩ (zC.pO iA) (zD.kg pR) (fo.sw kk) (by rw[iT];simp at hsz;omega);rw[iT]at cY;have DO:=Lg ⟨⟨s⟩⟩ s.length 0 #[];(have tF:(Conv.runesFrom ⟨⟨s⟩⟩ s.length 0 #[]).size=(h9 s).length:=by rw[<-avx,DO];simp[h9]);have h':=grownCap_ge w (Conv.runesFrom ⟨⟨s⟩⟩ s.length 0 #[]).size 0 aF.t;refine⟨_,_,_,cY,?_,(c_.drew _ w C).trans (c_.alloc _ w.drew C _ ((h9 s).length*1)) (λ_ _ M=>M)⟩;have eQ:=He (w:=w.drew) (C:=C) (tg:=.none) (k:=1) (xs:=(h9 s).map (D.int .i32)) (e:=aF.t) (cap:=grownCap w (Conv.runesFrom ⟨⟨s⟩⟩ s.length 0 #[]).size 0 aF.t) (vs:=(Conv.runesFrom ⟨⟨s⟩⟩ s.length 0 #[]++Array.replicate (grownCap w (Conv.runesFrom ⟨⟨s⟩⟩ s.length 0 #[]).size 0 aF.t-(Conv.runesFrom ⟨⟨s⟩⟩ s.length 0 #[]).size) (Value.int .i32 0)).toList) (λx F=>by obtain⟨n,_,rfl⟩:=aub.1 F;rfl) atx (grownCap_le_maxLen _ _ _ _ (by simp at hsz;unfold maxLen;omega)) (λj d N=>by rw[Hd]at N;rw[aud,auP]at N;obtain⟨n,aw,rfl⟩:=N;refine⟨.int .i32 n,?_,.int _ _,rfl⟩;rw[avR,DO];simp only[au6];rw[at0 (by have:=(aun.1 aw).1;simpa[h9]using this)];rw[aud];have:(sv ⟨⟨s⟩⟩ s.length 0)[j]?=some n:=aw;rw[this];rfl) trivial;rw[tF]at eQ⊢;simp only[atL]at eQ;exact eQ;exact False.elim G;rename_i bI tg k xs iA pR;split at G;rename_i aF ki;obtain⟨fo,rfl⟩:=hT.get ki;replace G:=h_ G;obtain⟨I,zs,rfl,hK⟩:=G;simp only[atN]at I;have kk:=RT I.1;obtain rfl:k=1:=auc I.2;refine⟨_,hK,λw C v ae=>?_⟩;rcases ae.kh with⟨h1,⟨a0,X⟩,_⟩|⟨eo,o,cap,g,X,_,_,hc,_,Y,_,ga,_,eQ⟩;(have:zs=[]:=by simpa using h1);subst this;refine⟨.string ⟨⟨[]⟩⟩,w,C,?_,.O _,.refl _ _ _⟩;(cases a0 with|none=>rw[X,run_convert_runes_nil w a.t b.t aF.t 0 0 (zC.kg iA) (fo.sw kk) (zD.pO pR)];rfl|some dE =>rw[X,run_convert_runes w a.t b.t aF.t dE 0 0 [] (atQ _) (zC.kg iA) (fo.sw kk) (zD.pO pR) (λj aa=>by simp at aa)];rfl);refine⟨_,w,C,?_,.O _,.refl _ _ _⟩;(have Bl:∀j,j<zs.length->w.cell? (Addr.add ⟨eo,o,none⟩ j)=some (.int .i32 (zs.getD j 0)):=λj aa=>by(have N:(b2 (zs.map (D.int .i32)))[j]?=some (.int .i32 zs[j]):=by rw[Hd];simp[aa]);have h1:=ga j _ N;rw[(eQ j _ N).fw]at h1;rw[o0,h1];simp[List.getD,aa]);rw[X,run_convert_runes w a.t b.t aF.t ⟨eo,o,none⟩ _ cap zs aty (zC.kg iA) (fo.sw kk) (zD.pO pR) Bl,abI];simp;exact False.elim G;exact False.elim G;exact False.elim G
variable{aF:bx}
theorem abK{e:bx}(ao:e.gh P)(ki:aF.gh P)(b6:e.kind=.slice aF.t)(bC:aF.zero.isSome=true)(h0:0<aF.aC){n:Nat}(aw:n*aF.aC<=16777216){ds:List (Nat×D)}(sy:ds.length=n)(dF:tC aF.aC 0 ds){vs:List (Nat×Value)}(h1:vs.map (·.1)=ds.map (·.1))(A:c' w C (ds.map (·.2)) (vs.map (·.2))): ∃v w' aR,(Instr.buildSlice e.t n ⟨vs⟩).run P w=.ok v w'/\bh w' aR (.Q .dV aF.aC (ds.map (·.2))) v/\c_ (λ_=>False) w C w' aR:=by obtain⟨V,bC⟩:=avB.1 bC;obtain⟨i,hi,hs,_,nd⟩:=ki.qx;obtain⟨eh,lF,l_,jF⟩:=nd V bC;obtain⟨tG,hcells⟩:=Ld dF;have an:=ao.kg b6;(have o1:vs.length=n:=by have:=A.1;simp only[atL]at this;omega);(have fy:vs=((vs.map (·.2)).zipIdx 0).map λx=>(x.2,x.1):=axh);(have hsz:∀(j:Nat) d v,(ds.map (·.2))[j]?=some d->(vs.map (·.2))[j]?=some v->d.cells.length=aF.aC/\v.cells.size=aF.aC/\c' w C d.cells v.cells.toList/\∀aj∈v.cells.toList,aj.oneCell'=true:=axy);(have lG:∀v∈vs.map (·.2),v.cells.size=aF.aC:=axs);have DP:=Great.fill_whole h0 (vs.map (·.2)) ((Array.range (n*aF.aC)).map (eh.cells[·%eh.cells.size]!)) lG (by simp only[atL,o1,Array.size_map,Array.size_range]);rw[<-fy]at DP;(have cY:(Instr.buildSlice e.t n ⟨vs⟩).run P w=.ok (.slice (some ⟨w.heap.size,0,none⟩) n n) (w.alloc (.cells ((vs.map (·.2)).flatMap λv=>v.cells.toList).toArray aF.t)):=axd);refine⟨_,_,_,cY,?_,c_.alloc _ w C _ (n*aF.aC)⟩;(have al:(ds.map (·.2)).length=n:=by simpa using sy);(have Y:∀x∈ds.map (·.2),x.cells.length=aF.aC:=axt);have dm:=Le (w:=w) (C:=C) (ds:=ds.map (·.2)) (vs:=vs.map (·.2)) A.1 (λi d v N X=>(hsz i d v N X).2.2.1);have:=He (w:=w) (C:=C) (tg:=.dV) (k:=aF.aC) (xs:=ds.map (·.2)) (vs:=(vs.map (·.2)).flatMap λv=>v.cells.toList) (e:=aF.t) (cap:=n) Y atw (by simp only[maxLen];have:n<=n*aF.aC:=awO n h0;omega) (λj d N=>axg) ⟨_,_,by rw[al]⟩;rw[al]at this;exact this
theorem Lj{t:TypeId}{k:ru}(h:G8 P t k=true): (∃q,k=.int q/\P.underlying t=some (.int q))\/(k=.bool/\P.underlying t=some .bool)\/(k=.O/\P.underlying t=some .string):=by unfold G8 at h;split at h;rename_i q ry an;simp only[aut]at h;subst h;exact .inl ⟨q,rfl,an⟩;rename_i an;exact .inr (.inl ⟨rfl,an⟩);rename_i an;exact .inr (.inr ⟨rfl,an⟩);cases h
theorem Lk:∀{ag:List ru} {xs a':List D} {K:Bool->Prop} (_:Bd ag xs a' K),∃b,K b/\∀(d:Nat) (az:List Field) (n:Nat) (w:World) (C:Nat->Nat) (bS ne:List Value),wG P az ag n=true->c' w C xs (bS.drop n)->c' w C a' (ne.drop n)->(Op.eqFields (d+1) ⟨bS⟩ ⟨ne⟩ az).run P w=.ok b w
 |[],[],[],K,G=>⟨true,G,λd az n w C bS ne I _ _=>by cases az with|nil=>simp[Op.eqFields]|cons f az=>simp[wG]at I⟩
 |k::ag,x::xs,y::a',K,G=>by simp only[Bd]at G;(have key:∃b,Bd ag xs a' (λc=>K (b&&c))/\∀(d:Nat) (t:TypeId) (w:World) (C:Nat->Nat) (aj v:Value),G8 P t k=true->bh w C x aj->bh w C y v->(Op.equalIn (d+1) t aj v).run P w=.ok b w/\wF P t=some false:=by unfold RC at G;split at G;rename_i ard cq a d8 b;replace G:=h_ G;obtain⟨Y,G⟩:=G;obtain rfl:=G9 Y;refine⟨_,G,λd t w C aj v av an X=>?_⟩;rcases Lj av with⟨q,sz,cV⟩|⟨h,_⟩|⟨h,_⟩;rw[an.fw,X.fw];exact⟨run_equalIn_int w d t cq q a b cV,by simp[wF,cV]⟩;cases h;cases h;rename_i a b;refine⟨_,G,λd t w C aj v av an X=>?_⟩;rcases Lj av with⟨q,h,_⟩|⟨h,_⟩|⟨_,cV⟩;cases h;cases h;rw[an.kD,X.kD];refine⟨?_,by simp[wF,cV]⟩;have:=run_equalIn_string (P:=P) w d t ⟨⟨a⟩⟩ ⟨⟨b⟩⟩ cV;rw[ByteArray.toList_eq,ByteArray.toList_eq]at this;exact this;rename_i a b;refine⟨_,G,λd t w C aj v av an X=>?_⟩;rcases Lj av with⟨q,h,_⟩|⟨_,cV⟩|⟨h,_⟩;cases h;rw[an.hL,X.hL];exact⟨run_equalIn_bool' w d t a b cV,by simp[wF,cV]⟩;cases h;exact False.elim G);obtain⟨b,G,I⟩:=key;obtain⟨c,hK,hc⟩:=Lk G;refine⟨b&&c,hK,λd az n w C bS ne ao F hy=>?_⟩;cases az with|nil=>simp[wG]at ao|cons f az =>simp only[wG,atN]at ao;obtain⟨⟨⟨h1,A⟩,Z⟩,aG⟩:=ao;have xS:=auc h1;(have Hf:n<bS.length:=by have:=F.1;simp at this;omega);(have Ll:n<ne.length:=by have:=hy.1;simp at this;omega);have Hg:bS.drop n=bS[n]::bS.drop (n+1):=auQ Hf;have abL:ne.drop n=ne[n]::ne.drop (n+1):=auQ Ll;rw[Hg]at F;rw[abL]at hy;obtain⟨bb,cL⟩:=I d f.type w C _ _ A F.head hy.head;have eV:=hc d az (n+1) w C bS ne aG F.tail hy.tail;(have a7 : f.name ≠ "_" := by simpa using Z);simp only[Op.eqFields,atI a7,Sem.run_bind,part,G_ cL,Result.andThen_ok,auU,avs,xS];(have g1:(⟨bS⟩:Array Value)[n]?=some bS[n]:=by simp[Hf]);(have fe:(⟨ne⟩:Array Value)[n]?=some ne[n]:=by simp[Ll]);rw[g1,fe];simp only[Sem.run_pure,Result.andThen_ok,bb];cases b<;>simp[eV]
 |[],[],_::_,_,G=>False.elim G
 |[],_::_,_,_,G=>False.elim G
 |_::_,[],_,_,G=>False.elim G
 |_::_,_::_,[],_,G=>False.elim G
theorem abM{ax:List bx}(hT:df P ax){op:BinOp}{x y:D}{K:D->Prop}(G:KV ax h op t x y K)(zE zF:Operand): ∃d,K d/\(h=true->∀(w:World) (C:Nat->Nat) (aj v:Value),bh w C x aj->bh w C y v->∃r,(do eqGuard op t zE zF aj v;binOp op t aj v:Sem Value).run P w=.ok r w/\bh w C d r):=by unfold KV at G;split at G;rename_i k a bz b;obtain⟨d,hK,N⟩:=abp (P:=P) G;refine⟨d,hK,λav w C aj v an X=>?_⟩;obtain⟨r,cY,ae⟩:=N av;refine⟨r,?_,ae w C⟩;rw[an.fw,X.fw];simp only[Sem.run_bind,zw op t zE zF (.int k a) (.int bz b) w (λ_ h=>by cases h) atD,Result.andThen_ok,cY];rename_i a b;obtain⟨d,hK,N⟩:=abq (P:=P) G;refine⟨d,hK,λav w C aj v an X=>?_⟩;obtain⟨r,cY,ae⟩:=N av;refine⟨r,?_,ae w C⟩;rw[an.kD,X.kD];simp only[Sem.run_bind,zw op t zE zF (.string ⟨⟨a⟩⟩) (.string ⟨⟨b⟩⟩) w (λ_ h=>by cases h) atD,Result.andThen_ok,cY];rename_i a b;split at G;exact False.elim G;rename_i e ao;obtain⟨c2,rfl⟩:=hT.get ao;replace G:=h_ G;obtain⟨I,G⟩:=G;(have b6:e.kind=.bool:=by unfold RD at I;split at I<;>simp_all);have an:=c2.abn b6;split at G;refine⟨_,G,λav w C aj v cV X=>⟨_,?_,.bool _⟩⟩;rw[cV.hL,X.hL];simp only[Sem.run_bind,zw _ e.t zE zF (.bool a) (.bool b) w (λ_ h=>by cases h) atD,Result.andThen_ok];simp[binOp,Op.equal,Op.maxDepth,run_equalIn_bool' w 9999 e.t a b an];refine⟨_,G,λav w C aj v cV X=>⟨_,?_,.bool _⟩⟩;rw[cV.hL,X.hL];simp only[Sem.run_bind,zw _ e.t zE zF (.bool a) (.bool b) w (λ_ h=>by cases h) atD,Result.andThen_ok];simp[binOp,Op.equal,Op.maxDepth,run_equalIn_bool' w 9999 e.t a b an];exact False.elim G;rename_i xs a';split at G;rename_i e ao;obtain⟨c2,rfl⟩:=hT.get ao;split at G;replace G:=h_ G;obtain⟨hc,G⟩:=G;obtain⟨b,hK,I⟩:=Lk (P:=P) G;refine⟨_,hK,λav w C aj v an X=>⟨.bool b,?_,.bool b⟩⟩;obtain⟨bS,rfl,F⟩:=an.tx;obtain⟨ne,rfl,hy⟩:=X.tx;rw[atN]at hc;(have b6:e.kind=.struct:=by have:=hc.1;unfold G4 at this;split at this<;>simp_all);obtain⟨az,l8,_,_,a6,aW,jf⟩:=c2.Bh b6;(have jf:wG P az.toList e.u4 0=true:=ax0);(have sA:P.underlying e.t=some (.struct (P.fieldsOf e.t)):=by simp[Program.fieldsOf,l8]);(have Lm:P.fieldsOf e.t=az:=by simp[Program.fieldsOf,l8]);have:=I 9998 az.toList 0 w C bS ne jf (by simpa using F) (by simpa using hy);simp only[Sem.run_bind,run_eqGuard_agg w _ e.t zE zF ⟨bS⟩ ⟨ne⟩ aW,Result.andThen_ok,run_eql_struct];rw[show(10000:Nat)=9999+1 from rfl,run_equalIn_struct w 9999 e.t ⟨bS⟩ ⟨ne⟩ sA a6,Lm,this];rfl;replace G:=h_ G;obtain⟨hc,G⟩:=G;obtain⟨b,hK,I⟩:=Lk (P:=P) G;refine⟨_,hK,λav w C aj v an X=>⟨.bool (!b),?_,.bool (!b)⟩⟩;obtain⟨bS,rfl,F⟩:=an.tx;obtain⟨ne,rfl,hy⟩:=X.tx;rw[atN]at hc;(have b6:e.kind=.struct:=by have:=hc.1;unfold G4 at this;split at this<;>simp_all);obtain⟨az,l8,_,_,a6,aW,jf⟩:=c2.Bh b6;(have jf:wG P az.toList e.u4 0=true:=ax0);(have sA:P.underlying e.t=some (.struct (P.fieldsOf e.t)):=by simp[Program.fieldsOf,l8]);(have Lm:P.fieldsOf e.t=az:=by simp[Program.fieldsOf,l8]);have:=I 9998 az.toList 0 w C bS ne jf (by simpa using F) (by simpa using hy);simp only[Sem.run_bind,run_eqGuard_agg w _ e.t zE zF ⟨bS⟩ ⟨ne⟩ aW,Result.andThen_ok,run_neq_struct];rw[show(10000:Nat)=9999+1 from rfl,run_equalIn_struct w 9999 e.t ⟨bS⟩ ⟨ne⟩ sA a6,Lm,this];rfl;exact False.elim G;exact False.elim G;exact False.elim G
theorem Bm{ax:List bx}(hT:df P ax){o:Oper}{K:D->Prop}(G:pN P B ax z h o.op K): ∃d,K d/\(h=true->∀(ρ:Operand->Value) (w:World) (C:Nat->Nat) (Ft:Nat->Prop),pK B w->l6 Ft w C z.H->(∀x∈o.op.operands,bh w C (z.ba x) (ρ x))->hA P d w C ((execOp ρ o).run P w)):=by obtain⟨dst,op,type,pos,after,guard⟩:=o;cases op<;>simp only[pN]at G;(case move x =>obtain⟨d,hK,N⟩:=iR G;exact⟨d,hK,λav ρ w C Ft _ _ cZ=>hA.same (N av w C _ (cZ x (by simp[Op.operands])))⟩);(case assign x =>obtain⟨d,hK,N⟩:=iR G;exact⟨d,hK,λav ρ w C Ft _ _ cZ=>hA.same (N av w C _ (cZ x (by simp[Op.operands])))⟩);(case pick c a b =>obtain⟨are,G,Ln⟩:=iR G;split at G;rename_i g;(have run:∀(ρ:Operand->Value) (w:World),ρ c=.bool g->(execOp ρ ⟨dst,.pick c a b,type,pos,after,guard⟩).run P w=.ok (.value (if g then ρ a else ρ b)) w:=by intro ρ w hc;simp[execOp,hc,asBool]);split at G;rename_i x y ha I;refine⟨_,G,λav ρ w C Ft _ _ cZ=>?_⟩;rw[run ρ w (Ln av w C _ (cZ c (by simp[Op.operands]))).hL];refine hA.same ?_;have h1:=cZ a (by simp[Op.operands]);rw[ha]at h1;have A:=cZ b (by simp[Op.operands]);rw[I]at A;rw[h1.hL,A.hL];cases g<;>exact .bool _;rename_i x DG y ha I;obtain⟨aW,G⟩:=G;refine⟨_,G,λav ρ w C Ft _ _ cZ=>?_⟩;rw[run ρ w (Ln av w C _ (cZ c (by simp[Op.operands]))).hL];refine hA.same ?_;have h1:=cZ a (by simp[Op.operands]);rw[ha]at h1;have A:=cZ b (by simp[Op.operands]);rw[I]at A;rw[h1.hL];(cases g with|true=>exact .bool _|false =>have Lo:=aW av rfl;subst Lo;(cases A with|pH _ _ A=>simp only[auU,avs];rw[A.hL];exact .bool _));rename_i DG x y ha I;obtain⟨aW,G⟩:=G;refine⟨_,G,λav ρ w C Ft _ _ cZ=>?_⟩;rw[run ρ w (Ln av w C _ (cZ c (by simp[Op.operands]))).hL];refine hA.same ?_;have h1:=cZ a (by simp[Op.operands]);rw[ha]at h1;have A:=cZ b (by simp[Op.operands]);rw[I]at A;rw[A.hL];(cases g with|false=>exact .bool _|true =>have Lo:=aW av rfl;subst Lo;(cases h1 with|pH _ _ h1=>simp only[auX];rw[h1.hL];exact .bool _));exact False.elim G;exact False.elim G);(case binOp op t x y DH =>obtain⟨rz,G,hR⟩:=iR G;obtain⟨RU,G,tI⟩:=iR G;obtain⟨d,hK,N⟩:=abM (P:=P) hT G x y;refine⟨d,hK,λav ρ w C Ft _ _ cZ=>?_⟩;obtain⟨r,ae,eQ⟩:=N av w C _ _ (hR av w C _ (cZ x (by simp[Op.operands]))) (tI av w C _ (cZ y (by simp[Op.operands])));(have:(execOp ρ ⟨dst,.binOp op t x y DH,type,pos,after,guard⟩).run P w=.ok (.value r) w:=by simp only[execOp];rw[Sem.run_bind,ae];rfl);rw[this];exact hA.same eQ);(case unOp op t x =>replace G:=iR G;obtain⟨rz,G,hR⟩:=G;split at G;rename_i b;refine⟨_,G,λav ρ w C Ft _ _ cZ=>?_⟩;have h1:=(hR av w C _ (cZ x (by simp[Op.operands]))).hL;(have:(execOp ρ ⟨dst,.unOp .not t x,type,pos,after,guard⟩).run P w=.ok (.value (.bool (!b))) w:=by simp[execOp,h1,Op.unary]);rw[this];exact hA.same (.bool _);rename_i k n;obtain⟨m,hK,hm⟩:=DI G;refine⟨_,hK,λav ρ w C Ft _ _ cZ=>?_⟩;have h1:=(hR av w C _ (cZ x (by simp[Op.operands]))).fw;(have:(execOp ρ ⟨dst,.unOp .neg t x,type,pos,after,guard⟩).run P w=.ok (.value (.int k m)) w:=by rw[hm av];simp[execOp,h1,Op.unary,Op.intArith]);rw[this];exact hA.same (.int _ _);exact False.elim G);(case load t x =>obtain⟨rz,G,hR⟩:=iR G;obtain⟨d,hK,N⟩:=RI (P:=P) hT G;refine⟨d,hK,λav ρ w C Ft _ hH cZ=>?_⟩;obtain⟨aj,an,ae⟩:=N av w C Ft _ hH (hR av w C _ (cZ x (by simp[Op.operands])));(have:(execOp ρ ⟨dst,.load t x,type,pos,after,guard⟩).run P w=.ok (.value aj) w:=by simp[execOp,an]);rw[this];exact hA.same ae);(case fieldAddr t x f =>obtain⟨rz,G,hR⟩:=iR G;obtain⟨d,hK,N⟩:=abu (P:=P) hT G;refine⟨d,hK,λav ρ w C Ft _ hH cZ=>?_⟩;obtain⟨aj,an,ae⟩:=N w C _ (hR av w C _ (cZ x (by simp[Op.operands])));(have:(execOp ρ ⟨dst,.fieldAddr t x f,type,pos,after,guard⟩).run P w=.ok (.value aj) w:=by simp[execOp,an]);rw[this];exact hA.same ae);(case field t x f =>obtain⟨rz,G,hR⟩:=iR G;obtain⟨d,hK,N⟩:=abv (P:=P) hT G;refine⟨d,hK,λav ρ w C Ft _ hH cZ=>?_⟩;obtain⟨aj,an,ae⟩:=N w C _ (hR av w C _ (cZ x (by simp[Op.operands])));(have:(execOp ρ ⟨dst,.field t x f,type,pos,after,guard⟩).run P w=.ok (.value aj) w:=by simp[execOp,an]);rw[this];exact hA.same ae);(case indexAddr t x fV =>obtain⟨rz,G,hR⟩:=iR G;obtain⟨di,G,lH⟩:=iR G;obtain⟨d,hK,N⟩:=abw (P:=P) hT G;refine⟨d,hK,λav ρ w C Ft _ hH cZ=>?_⟩;obtain⟨aj,an,ae⟩:=N av w C _ _ (hR av w C _ (cZ x (by simp[Op.operands]))) (lH av w C _ (cZ fV (by simp[Op.operands])));(have:(execOp ρ ⟨dst,.indexAddr t x fV,type,pos,after,guard⟩).run P w=.ok (.value aj) w:=by simp[execOp,an]);rw[this];exact hA.same ae);(case index t x fV =>obtain⟨rz,G,hR⟩:=iR G;obtain⟨di,G,lH⟩:=iR G;obtain⟨d,hK,N⟩:=abz (P:=P) hT G;refine⟨d,hK,λav ρ w C Ft _ hH cZ=>?_⟩;obtain⟨aj,an,ae⟩:=N av w C _ _ (hR av w C _ (cZ x (by simp[Op.operands]))) (lH av w C _ (cZ fV (by simp[Op.operands])));(have:(execOp ρ ⟨dst,.index t x fV,type,pos,after,guard⟩).run P w=.ok (.value aj) w:=by simp[execOp,an]);rw[this];exact hA.same ae);(case slice t x k4 hi qw =>obtain⟨rz,G,hR⟩:=iR G;obtain⟨d,hK,N⟩:=abC (P:=P) hT G;refine⟨d,hK,λav ρ w C Ft _ hH cZ=>?_⟩;obtain⟨aj,an,ae⟩:=N av w C _ ρ (hR av w C _ (cZ x (by simp[Op.operands]))) (λy hy=>cZ y (by subst hy;simp[Op.operands])) (λy hy=>cZ y (by subst hy;simp[Op.operands])) (λy hy=>cZ y (by subst hy;simp[Op.operands]));(have:(execOp ρ ⟨dst,.slice t x k4 hi qw,type,pos,after,guard⟩).run P w=.ok (.value aj) w:=by simp[execOp,an]);rw[this];exact hA.same ae);(case convert ox kI x =>obtain⟨rz,G,hR⟩:=iR G;obtain⟨d,hK,N⟩:=abJ (P:=P) hT G;refine⟨d,hK,λav ρ w C Ft _ hH cZ=>?_⟩;obtain⟨aj,w',aR,an,ae,hs⟩:=N w C _ (hR av w C _ (cZ x (by simp[Op.operands])));(have:(execOp ρ ⟨dst,.convert ox kI x,type,pos,after,guard⟩).run P w=.ok (.value aj) w':=by simp only[execOp];rw[Sem.run_bind,an];rfl);rw[this];exact⟨aR,ae,hs⟩);(case build t bU =>split at G;rename_i e ao;obtain⟨c2,rfl⟩:=hT.get ao;split at G;rename_i V bC b6;obtain⟨ds,G,tG,pQ⟩:=DN G;obtain⟨aB,hK,hcs⟩:=abH (P:=P) c2 b6 bC G;refine⟨_,hK,λav ρ w C Ft _ hH cZ=>?_⟩;have A:=pQ av w C ρ (λx F=>cZ x.2 (by simp[Op.operands];exact⟨x.1,by simpa using F⟩));obtain⟨v,X,ae⟩:=hcs w C (bU.map λ(i,x)=>(i,ρ x)) (by simp[tG]) (by simpa[awd]using A);(have:(execOp ρ ⟨dst,.build e.t bU,type,pos,after,guard⟩).run P w=.ok (.value v) w:=by simp only[execOp];rw[Sem.run_bind,X];rfl);rw[this];exact hA.same ae;exact False.elim G;exact False.elim G);(case buildSlice t n bU =>split at G;rename_i e ao;obtain⟨c2,rfl⟩:=hT.get ao;split at G;rename_i bI b6;split at G;rename_i aF ki;obtain⟨fo,rfl⟩:=hT.get ki;obtain⟨ds,G,tG,pQ⟩:=DN G;replace G:=h_ G;obtain⟨I,dF,hK⟩:=G;simp only[atN]at I;obtain⟨⟨⟨h1,A⟩,Z⟩,aG⟩:=I;refine⟨_,hK,λav ρ w C Ft _ hH cZ=>?_⟩;have bb:=pQ av w C ρ (λx F=>cZ x.2 (by simp[Op.operands];exact⟨x.1,by simpa using F⟩));obtain⟨v,w',aR,X,ae,hs⟩:=abK (P:=P) c2 fo b6 aG (auz (auy _) (aul Z)) (aul A) (auc h1) dF (w:=w) (C:=C) (vs:=(bU.map λ(i,x)=>(i,ρ x)).toList) (by simp[tG]) (by simpa[awd]using bb);(have:(execOp ρ ⟨dst,.buildSlice e.t n bU,type,pos,after,guard⟩).run P w=.ok (.value v) w':=by simp only[execOp];rw[Sem.run_bind,X];rfl);rw[this];exact⟨aR,ae,hs⟩;exact False.elim G;exact False.elim G;exact False.elim G);(case makeFunc f first ov =>obtain⟨az,G,l8⟩:=DM G;obtain⟨aB,G,hcs⟩:=DM G;refine⟨_,G,λav ρ w C Ft _ hH cZ=>?_⟩;have h1:=l8 av w C ρ (λx F=>cZ x (by simp[Op.operands];exact .inl (by simpa using F)));have A:=hcs av w C ρ (λx F=>cZ x (by simp[Op.operands];exact .inr (by simpa using F)));(have:(execOp ρ ⟨dst,.makeFunc f first ov,type,pos,after,guard⟩).run P w=.ok (.value (.func f ⟨first.toList.map ρ⟩ ⟨ov.toList.map ρ⟩)) w:=by simp only[execOp,Instr.makeFunc,Sem.run_bind,Sem.run_pure,Result.andThen_ok];congr 3;apply avF;simp;apply avF;simp);rw[this];exact hA.same (.fn f az aB _ _ h1.1 A.1 h1.2 A.2));(case extract x i =>obtain⟨rz,G,hR⟩:=iR G;split at G;rename_i ds;split at G;rename_i d N;refine⟨d,G,λav ρ w C Ft _ hH cZ=>?_⟩;obtain⟨vs,X,ae⟩:=(hR av w C _ (cZ x (by simp[Op.operands]))).abj;have bf:i<vs.length:=ae.1 ▸ e7 N;have aW:vs[i]?=some vs[i]:=atK bf;(have:(execOp ρ ⟨dst,.extract x i,type,pos,after,guard⟩).run P w=.ok (.value vs[i]) w:=by simp[execOp,Instr.extract,X,bf]);rw[this];exact hA.same (ae.2 i d _ N aW);exact False.elim G;exact False.elim G);(case call c =>obtain⟨callee,args,argTypes⟩:=c;simp only at G;split at G;rename_i x kJ;(have zG:args=#[x]:=by apply avF;simpa using kJ);subst zG;replace G:=iR G;obtain⟨rz,G,hR⟩:=G;split at G;rename_i t o2;(have abN:argTypes=#[t]:=by apply avF;simpa using o2);subst abN;split at G;rename_i e ao;obtain⟨c2,rfl⟩:=hT.get ao;split at G;rename_i s b6;refine⟨_,G,λav ρ w C Ft _ hH cZ=>?_⟩;have h1:=(hR av w C _ (cZ x (ayz))).kD;have an:=c2.pO b6;(have:(execOp ρ ⟨dst,.call ⟨.builtin .len,#[x],#[e.t]⟩,type,pos,after,guard⟩).run P w=.ok (.value (.int .i64 s.length)) w:=by have hs:(⟨⟨s⟩⟩:ByteArray).size=s.length:=rfl;simp[execOp,resolve,invoke,builtin,Builtin.len_,run_underlying an,h1,goInt,hs]);rw[this];exact hA.same (.int _ _);rename_i bI tg k xs b6;refine⟨_,G,λav ρ w C Ft _ hH cZ=>?_⟩;have h1:=(hR av w C _ (cZ x (ayz))).kh;(have A:∃a cap,ρ x=.slice a xs.length cap:=by rcases h1 with⟨rfl,⟨_,h⟩,_⟩|⟨b,o,cap,g,h,_⟩;exact⟨_,_,h⟩;exact⟨_,_,h⟩);obtain⟨a,cap,A⟩:=A;have an:=c2.kg b6;(have:(execOp ρ ⟨dst,.call ⟨.builtin .len,#[x],#[e.t]⟩,type,pos,after,guard⟩).run P w=.ok (.value (.int .i64 xs.length)) w:=axP);rw[this];exact hA.same (.int _ _);rename_i bI b6;refine⟨_,G,λav ρ w C Ft _ hH cZ=>?_⟩;have A:=(hR av w C _ (cZ x (ayz))).xP;have an:=c2.kg b6;(have:(execOp ρ ⟨dst,.call ⟨.builtin .len,#[x],#[e.t]⟩,type,pos,after,guard⟩).run P w=.ok (.value (.int .i64 0)) w:=axP);rw[this];exact hA.same (.int _ _);rename_i bI bJ n RV b6;refine⟨_,G,λav ρ w C Ft _ hH cZ=>?_⟩;have A:=(hR av w C _ (cZ x (ayz))).f4;have an:=c2.kg b6;(have:(execOp ρ ⟨dst,.call ⟨.builtin .len,#[x],#[e.t]⟩,type,pos,after,guard⟩).run P w=.ok (.value (.int .i64 n)) w:=axP);rw[this];exact hA.same (.int _ _);exact False.elim G;exact False.elim G;exact False.elim G;rename_i x y kJ;(have zG:args=#[x,y]:=by apply avF;simpa using kJ);subst zG;replace G:=iR G;obtain⟨rz,G,hR⟩:=G;replace G:=iR G;obtain⟨RU,G,tI⟩:=G;split at G;rename_i k a bz b;refine⟨_,G,λav ρ w C Ft _ hH cZ=>?_⟩;have h1:=(hR av w C _ (cZ x (ayz))).fw;have A:=(tI av w C _ (cZ y (ayz))).fw;(have:(execOp ρ ⟨dst,.call ⟨.builtin .max,#[x,y],argTypes⟩,type,pos,after,guard⟩).run P w=.ok (.value (.int k (if b>a then b else a))) w:=by simp[execOp,resolve,invoke,builtin,Builtin.max_,Builtin.max2,h1,A]);rw[this];exact hA.same (.int _ _);exact False.elim G;rename_i x y kJ;(have zG:args=#[x,y]:=by apply avF;simpa using kJ);subst zG;replace G:=iR G;obtain⟨rz,G,hR⟩:=G;replace G:=iR G;obtain⟨RU,G,tI⟩:=G;split at G;rename_i k a bz b;refine⟨_,G,λav ρ w C Ft _ hH cZ=>?_⟩;have h1:=(hR av w C _ (cZ x (ayz))).fw;have A:=(tI av w C _ (cZ y (ayz))).fw;(have:(execOp ρ ⟨dst,.call ⟨.builtin .min,#[x,y],argTypes⟩,type,pos,after,guard⟩).run P w=.ok (.value (.int k (if b<a then b else a))) w:=by simp[execOp,resolve,invoke,builtin,Builtin.min_,Builtin.min2,h1,A]);rw[this];exact hA.same (.int _ _);exact False.elim G;rename_i f;replace G:=iR G;obtain⟨abO,G,Lp⟩:=G;split at G;(rename_i b8 first cu;replace G:=DM G;obtain⟨wE,G,has⟩:=G;obtain⟨gZ,d,M,dO,hK⟩:=G;refine⟨d,hK,λav ρ w C Ft pS hH cZ=>?_⟩;obtain⟨⟨fn,jg,rA,l'⟩,DR⟩:=M av;obtain⟨fM,he,X,h1,A⟩:=(Lp av w C _ (cZ f (ayz))).u3;have Z:=has av w C ρ (λx F=>cZ x (by simp[Op.operands,Call.operands];exact .inr (by simpa using F)));have aG:=dO.rv ((h1.append Z).append A);have I:fn.body.isNone=false:=by cases I:fn.body<;>simp[I]at rA⊢);(have:(execOp ρ ⟨dst,.call ⟨.value f,args,argTypes⟩,type,pos,after,guard⟩).run P w=.ok (.enter b8 ⟨fM++args.toList.map ρ++he⟩) w:=axq);rw[this];exact⟨rfl,DR w C _ pS aG⟩;exact False.elim G;exact False.elim G);(case nilCheck x =>replace G:=iR G;obtain⟨rz,G,hR⟩:=G;split at G;refine⟨_,G,λav ρ w C Ft _ hH cZ=>?_⟩;have X:=hR av w C _ (cZ x (by simp[Op.operands]));(have:(execOp ρ ⟨dst,.nilCheck x,type,pos,after,guard⟩).run P w=.ok (.value (ρ x)) w:=by simp only[execOp,X.wC,Sem.run_pure]);rw[this];exact hA.same X;refine⟨_,G,λav ρ w C Ft _ hH cZ=>?_⟩;have X:=hR av w C _ (cZ x (by simp[Op.operands]));(have:(execOp ρ ⟨dst,.nilCheck x,type,pos,after,guard⟩).run P w=.ok (.value (ρ x)) w:=by(obtain⟨b,o,h⟩:∃b o,ρ x=.pointer (some ⟨b,o,none⟩):=by generalize ρ x=v at X;cases X;exact⟨_,_,rfl⟩);simp only[execOp,h,Sem.run_pure]);rw[this];exact hA.same X;exact False.elim G);all_goals exact False.elim G
theorem hD{o:Obj}(h:w.heap[b]?=some o):b<w.heap.size:=(avu.1 h).1
theorem ty.lt{o:aJ}(h:ty w C o)(an:o.ef b):b<w.heap.size:=by cases o with|box eo aB =>obtain⟨vs,e,I,_⟩:=h;simp only[aJ.ef]at an;subst an;exact hD I|own v n k e =>obtain⟨a,cap,X,aw,_,cz⟩:=h;obtain⟨o,hP,dP,bf⟩:=an;rw[X]at dP;simp only[Value.slice.injEq]at dP;obtain⟨rfl,_,rfl⟩:=dP;obtain⟨eo,vs,ha,I,_⟩:=cz bf;simp only[aus,Addr.mk.injEq]at ha;obtain⟨rfl,_,_⟩:=ha;exact hD I|row v xs k e =>obtain⟨a,cap,X,_,_,_,_,cz⟩:=h;obtain⟨n,hP,dP,bf⟩:=an;rw[X]at dP;simp only[Value.slice.injEq]at dP;obtain⟨rfl,_,rfl⟩:=dP;obtain⟨eo,vs,ha,I,_⟩:=cz bf;simp only[aus,Addr.mk.injEq]at ha;obtain⟨rfl,_,_⟩:=ha;exact hD I|set eo ag =>obtain⟨ew,h7,I,_⟩:=h;simp only[aJ.ef]at an;subst an;exact hD I|cj eo o =>simp only[aJ.ef]at an;subst an;exact hD h.1|mp eo b3 =>obtain⟨ew,h7,I,_⟩:=h;simp only[aJ.ef]at an;subst an;exact hD I|kE eo e aB =>obtain⟨vs,I,_⟩:=h;simp only[aJ.ef]at an;subst an;exact hD I
theorem ty.ix{o:aJ}(h:ty w C o)(ao:nN w C w' aR)(Y:∀b,o.ef b->w'.heap[b]?=w.heap[b]?/\aR b=C b):ty w' aR o:=by cases o with|box b aB =>obtain⟨vs,e,I,ae,hc⟩:=h;obtain⟨h1,A⟩:=Y b rfl;exact⟨vs,e,by rw[h1];exact I,ae.ext ao,by rw[A];exact hc⟩|own v n k e =>obtain⟨a,cap,X,aw,hm,cz⟩:=h;refine⟨a,cap,X,aw,hm,λbf=>?_⟩;obtain⟨b,vs,ha,I,hs,hc⟩:=cz bf;obtain⟨h1,A⟩:=Y b ⟨0,cap,by rw[X,ha],bf⟩;exact⟨b,vs,ha,by rw[h1];exact I,hs,by rw[A];exact hc⟩|row v xs k e =>obtain⟨a,cap,X,aw,hm,F,eW,cz⟩:=h;refine⟨a,cap,X,aw,hm,F,λdE gb=>(eW dE gb).imp λb I=>⟨I.1,auz I.2 ao.size⟩,λbf=>?_⟩;obtain⟨b,vs,ha,I,hs,hc,ae⟩:=cz bf;obtain⟨h1,A⟩:=Y b ⟨xs.length,cap,by rw[X,ha],bf⟩;exact⟨b,vs,ha,by rw[h1];exact I,hs,by rw[A];exact hc,λj d N=>by obtain⟨aj,Z,aG,bb⟩:=ae j d N;exact⟨aj,Z,aG.ext ao,bb⟩⟩|set b ag =>obtain⟨ew,h7,I,hc,Z,aG⟩:=h;obtain⟨h1,A⟩:=Y b rfl;exact⟨ew,h7,by rw[h1];exact I,by rw[A];exact hc,Z,aG⟩|cj b o =>obtain⟨h1,A⟩:=Y b rfl;exact⟨by rw[h1];exact h.1,by rw[A];exact h.2⟩|mp b b3 =>obtain⟨ew,h7,I,hc,Z,aw,aG⟩:=h;obtain⟨h1,A⟩:=Y b rfl;exact⟨ew,h7,by rw[h1];exact I,by rw[A];exact hc,Z,aw,λi k d e hi o3=>⟨(aG i k d e hi o3).1,(aG i k d e hi o3).2.ext ao⟩⟩|kE b e aB =>obtain⟨vs,I,ae,hc⟩:=h;obtain⟨h1,A⟩:=Y b rfl;exact⟨vs,by rw[h1];exact I,ae.ext ao,by rw[A];exact hc⟩
theorem l6.tJ{H:bE}(h:l6 Ft w C H)(hs:c_ (λ_=>False) w C w' aR):l6 Ft w' aR H :=
 ⟨λs o ah=>(h.cj s o ah).ix hs.ext λb I=>hs.ix b ((h.cj s o ah).lt I) (λM=>M),h.inj,h.cI⟩
theorem bH.tJ{U:b7 P B am}{w w':World}{C aR:Nat->Nat}{z:au}{a:Act}(h:bH U w C z a)(hs:c_ (λ_=>False) w C w' aR):bH U w' aR z a :=
 ⟨λi=>(h.tmps i).ext hs.ext,h.heap.tJ hs,h.size,h.defers,h.step.trans hs λ_ _ M=>M.elim⟩
theorem bH.put{U:b7 P B am}{w:World}{C:Nat->Nat}{z:au}{a:Act}(h:bH U w C z a){dst:Option Tmp}(N:iQ am dst=true){d:D}{v:Value}(ae:bh w C d v): bH U w C (z.put dst d) (a.put dst v):=by cases dst with|none=>exact h|some t =>(have bf:t<a.tmps.size:=by rw[h.size];exact auz (auy _) (aul N));refine⟨λi=>?_,h.heap,by simp[Act.put,h.size],h.defers,h.step⟩;simp only[au.put,Act.put];(cases I:Nat.beq i t with|true =>have:=auc I;subst this;simpa[bf]using ae|false =>(have a7:t≠i:=λe=>by subst e;have:Nat.beq t t=true:=au1 t;rw[I]at this;cases this);have:=h.tmps i;simp only[auW];rw[show(a.tmps.setIfInBounds t v).getD i undef=a.tmps.getD i undef by simp[awk a7]];exact this)
theorem pT(z:au)(s:Nat)(o:Option aJ):(z.bZ s o).H s=o:=by simp[au.bZ]
theorem au'{a:Nat}(h:a≠b):Nat.beq a b=false:=by cases I:Nat.beq a b with|false=>rfl|true=>exact absurd (auc I) h
variable{bo:Nat}
theorem k5(z:au){s:Nat}(o:Option aJ)(h:bo≠s):(z.bZ s o).H bo=z.H bo:=by simp[au.bZ,au' h]
theorem bH.bZ{U:b7 P B am}{w w':World}{C aR:Nat->Nat}{z:au}{a:Act}(h:bH U w C z a){Ft:Nat->Prop}(hs:c_ Ft w C w' aR)(bN:∀b,Ft b->U.pL b){s:Nat}(Lq:∀bo o b,bo≠s->z.H bo=some o->o.ef b->¬Ft b){o:Option aJ}(ah:∀x,o=some x->ty w' aR x/\∀b,x.ef b->U.pL b/\(Ft b\/w.heap.size<=b)):bH U w' aR (z.bZ s o) a:=by refine⟨λi=>(h.tmps i).ext hs.ext,⟨λbo x F=>?_,λfa gw x y b a7 h1 A an cV=>?_,λbo x b F an=>?_⟩,h.size,h.defers,?_⟩;by_cases iT:bo=s;subst iT;rw[pT]at F;exact(ah x F).1;rw[k5 z o iT]at F;exact(h.heap.cj bo x F).ix hs.ext λb I=>hs.ix b ((h.heap.cj bo x F).lt I) (Lq bo x b iT F I);by_cases bV:fa=s;subst bV;rw[pT]at h1;rw[k5 z o (Ne.symm a7)]at A;rcases((ah x h1).2 b an).2 with M|M;exact Lq gw y b (Ne.symm a7) A cV M;have:=(h.heap.cj gw y A).lt cV;omega;rw[k5 z o bV]at h1;by_cases b9:gw=s;subst b9;rw[pT]at A;rcases((ah y A).2 b cV).2 with M|M;exact Lq fa x b bV h1 an M;have:=(h.heap.cj fa x h1).lt an;omega;rw[k5 z o b9]at A;exact h.heap.inj fa gw x y b a7 h1 A an cV;by_cases iT:bo=s;subst iT;rw[pT]at F;exact((ah x F).2 b an).1;rw[k5 z o iT]at F;exact h.heap.cI bo x b F an;refine h.step.trans hs λb I M=>?_;rcases bN b M with h1|h1;exact h1;omega
variable{U:b7 P B am}
theorem bH.drop(h:bH U w C z a)(s:Nat):bH U w C (z.bZ s none) a :=
 h.bZ (Ft:=λ_=>False) (.refl _ _ _) (λ_ M=>M.elim) (λ_ _ _ _ _ _ M=>M) (λx F=>by cases F)
theorem bH.DS(h:bH U w C z a):U.pL w.heap.size:=.inr h.step.ext.size
theorem bH.Lr(h:bH U w C z a)(s:Nat){vs:List Value}(e:TypeId)(ae:c' w C aB vs): bH U (w.alloc (.cells ⟨vs⟩ e)) (gv C w.heap.size 0) (z.bZ s (some (.box w.heap.size aB))) a:=by have hs:=c_.alloc (λ_=>False) w C (.cells ⟨vs⟩ e) 0;refine h.bZ hs (λ_ M=>M.elim) (λ_ _ _ _ _ _ M=>M) (λx F=>?_);cases F;refine⟨⟨vs,e,kH _ _,ae.ext hs.ext,hr _ _ _⟩,λb I=>?_⟩;simp only[aJ.ef]at I;subst I;exact⟨h.DS,.inr (atQ _)⟩
theorem c_.setRow{w:World}{C:Nat->Nat}{g:Nat}{ft aB:Array Value}{e:TypeId}{n:Nat}(aW:w.heap[g]?=some (.cells ft e (0,0)))(aw:C g<=n)(hcs:∀o,o<C g->aB[o]?=ft[o]?):c_ (λb=>b=g) w C (w.setRow g aB) (gv C g n):=by refine⟨⟨by simp,λb I=>?_,λb o I ah=>?_⟩,rfl,rfl,rfl,λb I a7=>⟨setRow_other w g b aB a7,rx _ _ a7⟩⟩;by_cases e:b=g;subst e;rw[hr];exact aw;rw[rx _ _ e];exact atQ _;by_cases oy:b=g;subst oy;simp only[World.cell?,setRow_heap w b ft aB e (0,0) aW,aW];simpa using hcs o ah;simp only[World.cell?,setRow_other w g b aB oy]
theorem cG(h:∀i,bh w C (z.t i) (a.tmps.getD i undef))(x:Operand):bh w C (z.ba x) (a.eval x):=by cases x with|tmp t=>exact h t|const v =>simp only[au.ba,Act.eval];unfold RB;split;exact .bool _;exact .int _ _;rename_i s;obtain⟨⟨l⟩⟩:=s;exact .O l;exact .bj;exact .ai _|global g=>exact .ai _|func f=>exact .fn _ [] [] [] [] rfl rfl (λi d v h=>by simp at h) (λi d v h=>by simp at h)
theorem RW{e:bx}{off:Nat}{x:D}{K:List D->Prop}(G:Be e off aB x K): ∃ds,K (su aB off ds)/\off+ds.length<=aB.length/\∀(w:World) (C:Nat->Nat) (v:Value),bh w C x v->c' w C ds v.cells.toList/\v.cells.size=e.aC/\∀aj∈v.cells.toList,aj.oneCell'=true:=by unfold Be at G;cases jZ:e.agg with|true =>rw[jZ]at G;simp only at G;split at G;rename_i ds;replace G:=h_ G;obtain⟨I,G⟩:=G;simp only[atN]at I;refine⟨ds,G,aul I.1.2,λw C v ae=>?_⟩;obtain⟨vs,rfl,h⟩:=ae.tx;have al:=auc I.1.1;refine⟨h,by simp only[Value.cells,auI];rw[<-h.1,al],λaj an=>?_⟩;simp only[Value.cells]at an;obtain⟨j,aa⟩:=auf.1 an;obtain⟨d,N⟩:=lE (l:=ds) (i:=j) (by rw[h.1];exact e7 aa);have:=auE.1 I.2 d (at1 N);exact((h.2 j d aj N aa).oz this).2;exact False.elim G|false =>rw[jZ]at G;simp only at G;replace G:=h_ G;obtain⟨I,G⟩:=G;simp only[atN]at I;have bf:off<aB.length:=auz (auy _) (aul I.1.1);refine⟨[x],by rw[<-RP bf];exact G,by simp;omega,λw C v ae=>?_⟩;obtain⟨h1,A⟩:=ae.oz I.1.2;have hsz:=auc I.2;rw[h1];exact⟨.cons ae (.nil _ _),by simp[hsz],by simpa using A⟩
theorem pU(l dk:List α)(off:Nat)(h:off+dk.length<=l.length)(k:Nat): (l.take off++dk++l.drop (off+dk.length))[k]?=if off<=k/\k<off+dk.length/\k<l.length then dk[k-off]? else l[k]?:=by by_cases h1:k<off;rw[atH atw,aup,at0 atx,auB,atI h1];by_cases A:k<off+dk.length;rw[atI ⟨by omega,A,by omega⟩,aup,auo atx,at0 atx];congr 1;simp;omega;rw[atH atw,auo atx,avM];congr 1;simp;omega
theorem abP(h:bH U w C z a){e:bx}(ao:e.gh P){s off:Nat}(hH:z.H s=some (.box b aB)){x:D}{K:List D->Prop}(G:Be e off aB x K)(ae:bh w C x v): ∃dv w' aR,K dv/\(Instr.storeAt e.t (.pointer (some ⟨b,off,none⟩)) v).run P w=.ok () w'/\bH U w' aR (z.bZ s (some (.box b dv))) a:=by obtain⟨ds,hK,dO,pQ⟩:=RW G;obtain⟨h1,A,Z⟩:=pQ w C v ae;obtain⟨vs,bI,I,hQ,de⟩:=h.heap.cj s _ hH;(have hS:off+0+v.cells.toList.length<=(⟨vs⟩:Array Value).size:=by have:=h1.1;have:=hQ.1;simp only[auI];omega);have cY:=run_storeCells_at P b off bI v.cells.toList 0 ⟨vs⟩ w I hS Z;simp only[av']at cY;have a6:=c_.setRow (C:=C) (n:=0) I (aB:=(vs.take off++v.cells.toList++vs.drop (off+v.cells.toList.length)).toArray) atw (λo ah=>by omega);refine⟨_,_,_,hK,?_,h.bZ a6 (s:=s) (λx F=>by subst F;exact h.heap.cI s _ _ hH rfl) (λbo bM eo a7 c7 an nQ=>?_) λy hy=>?_⟩;simp only[Instr.storeAt,Instr.sureAddr,Sem.run_bind,Sem.run_pure,Result.andThen_ok,storeVar,ao.size,A];simpa using cY;subst nQ;exact h.heap.inj bo s bM _ eo a7 c7 hH an rfl;cases hy;refine⟨⟨_,bI,setRow_heap w b _ _ bI _ I,?_,hr _ _ _⟩,λx F=>?_⟩;have Ls:=(hQ.ext a6.ext).laid (h1.ext a6.ext) dO (r:=(vs.take off++v.cells.toList++vs.drop (off+v.cells.toList.length)).toArray) (by simp only[auI,atP,at7,auV];simp only[auI]at hS;omega) (λk=>by rw[avA];exact pU vs v.cells.toList off (by simpa using hS) k);simpa using Ls;simp only[aJ.ef]at F;subst F;exact⟨h.heap.cI s _ x hH rfl,.inl rfl⟩
theorem Lt{b:Addr}{n:Nat}(h:bh w C (.Q tg k xs) (.slice (some b) n cap)): ∃dk:List Value,dk.length=xs.length*k/\(∀(j:Nat) aj,dk[j]?=some aj->w.cell? (b.add j)=some aj)/\(∀(j:Nat) d,(b2 xs)[j]?=some d->∃aj,dk[j]?=some aj/\bh w C d aj/\aj.oneCell'=true)/\(∀aj∈dk,aj.oneCell'=true)/\(∀x∈xs,x.cells.length=k):=by rcases h.kh with⟨F,X,_⟩|⟨eo,o,hP,g,X,_,_,_,_,Y,_,ga,ee,eQ⟩;subst F;exact⟨[],by simp,λj aj an=>by simp at an,λj d N=>by simp[b2]at N,λaj an=>by simp at an,λx F=>by simp at F⟩;simp only[Value.slice.injEq,aus]at X;obtain⟨rfl,rfl,rfl⟩:=X;have dm:=pI Y;(have hU:∀j,j<xs.length*k->((List.range (xs.length*k)).map g)[j]?=some (g j):=λj aa=>by simp[aa]);refine⟨(List.range (xs.length*k)).map g,by simp,λj aj an=>?_,λj d N=>?_,λaj an=>?_,Y⟩;(have aa:j<xs.length*k:=by have:=e7 an;simpa using this);obtain⟨d,N⟩:=lE (l:=b2 xs) (i:=j) atw;rw[hU j aa]at an;cases an;rw[o0];exact ga j d N;(have aa:j<xs.length*k:=by have:=e7 N;omega);exact⟨g j,hU j aa,eQ j d N,ee j d N⟩;obtain⟨j,aa,rfl⟩:=aub.1 an;(have aa:j<xs.length*k:=by simpa using aa);obtain⟨d,N⟩:=lE (l:=b2 xs) (i:=j) atw;exact ee j d N
theorem bh.abQ(h:bh w C (.Q tg k xs) v)(av:nP.gh v):bh w C (.Q nP k xs) v:=by rcases h.kh with⟨rfl,⟨a,rfl⟩,_⟩|⟨b,o,cap,g,rfl,_,I,hc,hm,Y,de,ga,ee,eQ⟩;exact .iP nP k a av;exact .Q nP k xs b o cap g av I hc hm Y de ga ee eQ
theorem pV(l r:List α)(j:Nat):(l++r)[j]?=if j<l.length then l[j]? else r[j-l.length]?:=by by_cases h:j<l.length;rw[atI h,at0 h];rw[atH h,auo atw]
variable{a':List D}{km:TypeId}
theorem RX(h:bH U w C z a){e:bx}(ao:e.gh P)(ki:aF.gh P)(b6:e.kind=.slice aF.t)(bC:aF.zero≠none)
    {vs bS:Value} (wJ:bh w C (.Q tg aF.aC xs) vs) (wK:bh w C (.Q nP aF.aC a') bS) (ma:(xs.length+a'.length)*aF.bytes<=140737488355328)
  (oA:xs.length+a'.length<=9223372036854775807) {q dst:Nat} 
  (tK:(∃bJ n,vs=.slice bJ n n)/\q=dst\/z.H q=some (.own vs xs.length aF.aC aF.t)) :
  ∃v w' aR,(Builtin.append_ #[e.t,e.t] km #[vs,bS]).run P w=.ok v w'/\bh w' aR (.Q (.own dst v) aF.aC (xs++a')) v/\
   bH U w' aR ((z.bZ q none).bZ dst (some (.own v (xs.length+a'.length) aF.aC aF.t))) a:=by
 have an:=ao.kg b6;obtain⟨i,hi,hsz,o4,nd⟩:=ki.qx;obtain⟨V,bC⟩:=awG.1 bC;obtain⟨eh,lF,l_,jF⟩:=nd V bC;have DT:eh.cells.size=aF.aC:=by have:=(jF w C).1;rw[l_]at this;simpa using this.symm
 have M:=h.drop q;have hlen:(xs++a').length=xs.length+a'.length:=by simp
 have abR:∃bJ cap,vs=.slice bJ xs.length cap/\xs.length<=cap/\cap<=maxLen:=by
  rcases wJ.kh with⟨rfl,⟨a0,X⟩,_⟩|⟨b,o,cap,g,X,_,_,hc,hm,_⟩
  ·exact⟨a0,0,X,by simp,at4 _⟩
  exact⟨_,cap,X,hc,hm⟩
 obtain⟨bJ,cap,fy,hcap,Bn⟩:=abR
 have hy:∃ab sB,bS=.slice ab a'.length sB:=by
  rcases wK.kh with⟨rfl,⟨a0,X⟩,_⟩|⟨b,o,cap,g,X,_⟩
  ·exact⟨a0,0,X⟩
  exact⟨_,_,X⟩
 obtain⟨ab,sB,fX⟩:=hy;by_cases hm:a'.length=0
 ·
  have Bo:a'=[]:=atZ hm;subst Bo
  have cY:(Builtin.append_ #[e.t,e.t] km #[vs,bS]).run P w=.ok vs w:=by
   subst fy fX;have a6:∀(b:Addr),(storeCells b []).run P w=.ok () w:=λb=>rfl;cases ab<;>cases bJ<;>simp[Builtin.append_,run_underlying an,sizeOf,typeInfo,hi,Builtin.lenOf,Builtin.firstCells,loadCells,loadCellsFrom,hcap,a6]
  refine⟨vs,w,C,cY,by simpa using wJ.abQ (nP:=.own dst vs) rfl,?_⟩;refine M.bZ (Ft:=λb=>aJ.ef (.own vs xs.length aF.aC aF.t) b) (.refl _ _ _) (λb I=>?_) (λbo o b a7 c7 cV I=>?_) λx F=>?_
  ·rcases tK with⟨⟨bw,n,X⟩,_⟩|hH
   ·obtain⟨o,hP,dP,bf⟩:=I;rw[X]at dP;simp only[Value.slice.injEq]at dP;omega
   exact h.heap.cI q _ b hH I
  ·rcases tK with⟨⟨bw,n,X⟩,_⟩|hH
   ·obtain⟨bM,hP,dP,bf⟩:=I;rw[X]at dP;simp only[Value.slice.injEq]at dP;omega
   by_cases G:bo=q
   ·subst G;rw[pT]at c7;cases c7
   rw[k5 z none G]at c7;exact h.heap.inj bo q o _ b G c7 hH cV I
  cases F
  simp only[auh,av'];refine⟨?_,λb I=>⟨?_,.inl I⟩⟩
  ·rcases tK with⟨⟨bw,n,X⟩,_⟩|hH
   ·have aw:n=xs.length/\n=cap:=by rw[fy]at X;simp only[Value.slice.injEq]at X;omega
    exact⟨bw,n,by rw[X,aw.1],by omega,by omega,λbf=>by omega⟩
   exact h.heap.cj q _ hH
  rcases tK with⟨⟨bw,n,X⟩,_⟩|hH
  ·obtain⟨bM,hP,dP,bf⟩:=I;rw[X]at dP;simp only[Value.slice.injEq]at dP;omega
  exact h.heap.cI q _ b hH I
 ·
  subst fX
  have pW:∃dE,ab=some dE:=by
   cases ab with
   |some dE=>exact⟨dE,rfl⟩
   |none =>
    rcases wK.kh with⟨rfl,X,_⟩|⟨b,o,cap,g,X,_⟩
    ·exact absurd rfl hm
    cases X
  obtain⟨dE,rfl⟩:=pW;obtain⟨fp,jG,xW,xX,sC,Bp⟩:=Lt wK;have wL:fp.length=a'.length*i.size:=by rw[jG,hsz]
  have fresh:∀(kK:List Value) (kn:Nat),kK.length=xs.length*aF.aC->(∀(j:Nat) d,(b2 xs)[j]?=some d->∃aj,kK[j]?=some aj/\bh w C d aj/\aj.oneCell'=true)->(∀x∈xs,x.cells.length=aF.aC)->
    kn<xs.length+a'.length->
    ∀v,v=.slice (some ⟨w.heap.size,0,none⟩) (xs.length+a'.length) (grownCap w (xs.length+a'.length) kn aF.t)->
    ∀w',w'=w.drew.alloc (.cells (kK.toArray++fp.toArray++Builtin.zeroCells eh.cells (grownCap w (xs.length+a'.length) kn aF.t-(xs.length+a'.length))) aF.t)->
    ∃aR,bh w' aR (.Q (.own dst v) aF.aC (xs++a')) v/\bH U w' aR ((z.bZ q none).bZ dst (some (.own v (xs.length+a'.length) aF.aC aF.t))) a:=by
   intro kK kn gI mb pX Hh v X w' qz;have h':=grownCap_ge w (xs.length+a'.length) kn aF.t;have l9:=grownCap_le_maxLen w (xs.length+a'.length) kn aF.t (by simp only[maxLen];omega);generalize grownCap w (xs.length+a'.length) kn aF.t=o5 at X qz h' l9
   have tF:(kK.toArray++fp.toArray++Builtin.zeroCells eh.cells (o5-(xs.length+a'.length))).size=o5*aF.aC:=by
    simp only[Array.size_append,auI,size_zeroCells,DT,gI,jG,<-awH];congr 1;omega
   have hV:=c_.drew (λ_=>False) w C;have jh:=c_.alloc (λ_=>False) w.drew C (.cells (kK.toArray++fp.toArray++Builtin.zeroCells eh.cells (o5-(xs.length+a'.length))) aF.t) ((xs++a').length*aF.aC);have hs:=hV.trans jh (λ_ _ M=>M);rw[<-qz]at hs jh;refine⟨_,?_,M.bZ hs (λ_ M=>M.elim) (λ_ _ _ _ _ _ M=>M) λx F=>?_⟩
   ·have dF:=He (w:=w.drew) (C:=C) (tg:=.own dst v) (k:=aF.aC) (xs:=xs++a')
     (vs:=(kK.toArray++fp.toArray++Builtin.zeroCells eh.cells (o5-(xs.length+a'.length))).toList) (e:=aF.t) (cap:=o5)
     (λx F=>ax4) atw l9
     (λj d N=>by
      rw[xT,pV]at N;have dm:=pI pX;simp only[avR];split at N
      ·rename_i aa;obtain⟨aj,an,ae,ah⟩:=mb j d N;refine⟨aj,?_,ae.ext hV.ext,ah⟩;rw[aup,pV,atI (by simpa using e7 an)];simpa using an
      rename_i aa;obtain⟨aj,an,ae,ah⟩:=xX _ d N;refine⟨aj,?_,ae.ext hV.ext,ah⟩;rw[aup,pV,atH atx,pV,atI (by have:=e7 an;simp;omega)]
      simpa[gI,dm]using an) (by rw[hlen];exact X.symm)
    rw[hlen]at dF;rw[X]at dF⊢;rw[hlen,qz];exact dF
   cases F
   refine⟨⟨some ⟨w.heap.size,0,none⟩,o5,X,h',l9,λ_=>⟨w.heap.size,_,rfl,?_,tF,?_⟩⟩,λb I=>?_⟩
   ·rw[qz];exact kH w.drew _
   ·rw[hlen];exact hr _ _ _
   obtain⟨o,hP,dP,_⟩:=I;rw[X]at dP;simp only[Value.slice.injEq,aus,Addr.mk.injEq]at dP;obtain⟨⟨rfl,_⟩,_⟩:=dP;exact⟨h.DS,.inr (atQ _)⟩
  subst fy
  cases bJ with
  |none =>
   rcases wJ.kh with⟨rfl,⟨a0,X⟩,_⟩|⟨b,o,hP,g,X,_⟩
   ·simp only[Value.slice.injEq]at X;obtain⟨_,_,rfl⟩:=X;simp only[auh,auu]at ma oA fresh⊢;have ae:=run_append_nil (P:=P) w e.t km aF.t i eh an hi lF dE a'.length sB fp wL xW atw atw (by rw[o4];omega);obtain⟨aR,h1,A⟩:=fresh [] 0 aty (λj d N=>by simp[b2]at N) (λx F=>by cases F) atw _ rfl _ rfl;exact⟨_,_,aR,ae,by simpa using h1,by simpa using A⟩
   cases X
  |some u9 =>
   obtain⟨kK,gI,Bq,mb,xY,pX⟩:=Lt wJ;by_cases sD:xs.length+a'.length<=cap
   ·
    have hH:z.H q=some (.own (.slice (some u9) xs.length cap) xs.length aF.aC aF.t):=by
     rcases tK with⟨⟨bw,n,X⟩,_⟩|hH
     ·simp only[Value.slice.injEq]at X;omega
     exact hH
    obtain⟨bw,hP,X,arf,_,cz⟩:=h.heap.cj q _ hH;simp only[Value.slice.injEq]at X;obtain⟨rfl,_,rfl⟩:=X;obtain⟨b,ft,Lu,I,hcs,Hi⟩:=cz atw;cases Lu
    have hS:xs.length*i.size+fp.length<=ft.size:=by
     rw[hsz,jG,hcs,<-awH];exact avi _ sD
    have ae:=run_append_room (P:=P) w e.t km aF.t i an hi b xs.length cap ft I dE a'.length sB fp wL xW sC sD hS;rw[hsz]at ae hS;have arh:xs.length*aF.aC<=ft.toList.length:=by simp;omega
    have a6:=c_.setRow (C:=C) (n:=(xs.length+a'.length)*aF.aC) I (aB:=(ft.toList.take (xs.length*aF.aC)++fp++ft.toList.drop (xs.length*aF.aC+fp.length)).toArray)
     (by rw[Hi];exact avi _ atw) (λo ah=>by
      rw[Hi]at ah;rw[avA,pU _ _ _ atx,atH atw]
      simp)
    have e8:aJ.ef (.own (.slice (some ⟨b,0,none⟩) xs.length cap) xs.length aF.aC aF.t) b:=⟨0,cap,rfl,by omega⟩;refine⟨_,_,_,ae,?_,M.bZ a6 (λx F=>ayt) (λbo o eo a7 c7 cV qA=>?_) λx F=>?_⟩
    ·have dF:=xU (w:=w.setRow b (ft.toList.take (xs.length*aF.aC)++fp++ft.toList.drop (xs.length*aF.aC+fp.length)).toArray) (C:=gv C b ((xs.length+a'.length)*aF.aC))
      (tg:=.own dst (.slice (some ⟨b,0,none⟩) (xs.length+a'.length) cap)) (k:=aF.aC) (xs:=xs++a') (b:=b) (cap:=cap) (setRow_heap w b ft _ aF.t (0,0) I)
      (λx F=>ax4) atw Bn (by rw[hr,hlen];exact atQ _)
      (λj d N=>by
       rw[xT,pV]at N;have dm:=pI pX;split at N
       ·rename_i aa;obtain⟨aj,an,ae,ah⟩:=mb j d N;refine⟨aj,?_,ae.ext a6.ext,ah⟩;rw[pU _ _ _ atx,atH atw];have hc:=Bq j aj an;rw[o0,auu]at hc;simp only[World.cell?,I]at hc;simpa using hc
       rename_i aa;obtain⟨aj,an,ae,ah⟩:=xX _ d N;refine⟨aj,?_,ae.ext a6.ext,ah⟩;have:=e7 an;rw[pU _ _ _ atx,atI ⟨by omega,by omega,by simp;omega⟩,<-dm]
       exact an) (by rw[hlen];exact rfl)
     rw[hlen]at dF;exact dF
    ·subst qA;by_cases G:bo=q
     ·subst G;rw[pT]at c7;cases c7
     rw[k5 z none G]at c7;exact h.heap.inj bo q o _ eo G c7 hH cV e8
    cases F
    refine⟨⟨_,cap,rfl,sD,Bn,λ_=>⟨b,_,rfl,setRow_heap w b ft _ aF.t _ I,?_,by rw[hr]⟩⟩,λx F=>?_⟩
    ·simp only[auI,atP,at7,auV,avx];omega
    obtain⟨o,hP,dP,_⟩:=F;simp only[Value.slice.injEq,aus,Addr.mk.injEq]at dP;obtain⟨⟨rfl,_⟩,_⟩:=dP;exact⟨h.heap.cI q _ _ hH e8,.inl rfl⟩
   have ae:=run_append_grow (P:=P) w e.t km aF.t i eh an hi lF u9 xs.length cap kK (by rw[gI,hsz]) Bq dE a'.length sB fp wL xW atw atw (ayv);obtain⟨aR,h1,A⟩:=fresh kK cap gI mb pX atw _ rfl _ rfl;exact⟨_,_,aR,ae,h1,A⟩
theorem zH(M:bH U w C z a){o:Oper}(N:iQ am o.dst=true){a8:Exit->Act->World->Prop}{K:au->Prop}(hK:K (z.put o.dst d))(G:hA P d w C ((execOp a.eval o).run P w)): o.wp P a w (λbw w'=>∃aA aR,K aA/\bH U w' aR aA bw) a8:=by unfold Oper.wp;generalize(execOp a.eval o).run P w=r at*;cases r with|halt h w'=>exact G.elim|ok n w' =>(cases n with|value v =>obtain⟨aR,ae,hs⟩:=G;exact⟨_,aR,hK,(M.tJ hs).put N ae⟩|enter f args =>obtain⟨rfl,hc⟩:=G;(exact hc.mono λe rs ⟨v,lD,ao,ae,hs⟩=>by subst ao;exact⟨_,lD,hK,(M.tJ hs).put N ae⟩)|_=>exact G.elim)
theorem tL{ax:List bx}(hT:df P ax)(M:bH U w C z a){o:Oper}(N:iQ am o.dst=true){K:au->Prop}
  (G:nO P B ax z o.dst o.op K) (a8:Exit->Act->World->Prop):o.wp P a w (λbw w'=>∃aA aR,K aA/\bH U w' aR aA bw) a8:=by
 have quiet:pN P B ax z true o.op (λd=>K (z.put o.dst d))->o.wp P a w (λbw w'=>∃aA aR,K aA/\bH U w' aR aA bw) a8:=λG=>by
  obtain⟨d,hK,hg⟩:=Bm hT G;exact zH M N hK (hg rfl a.eval w C _ M.base M.heap (λx _=>cG M.tmps x))
 obtain⟨dst,op,type,pos,after,guard⟩:=o;unfold nO at G;cases op<;>simp only at G
 case move x=>exact zH M N ((zq _ _).1 G) (hA.same (cG M.tmps x))
 case assign x=>exact zH M N ((zq _ _).1 G) (hA.same (cG M.tmps x))
 case alloc e =>
  split at G
  ·rename_i cc s ao;obtain⟨c2,rfl⟩:=hT.get ao;split at G
   ·rename_i V bC;obtain⟨i,hi,_,_,nd⟩:=c2.qx;obtain⟨eh,lF,l_,jF⟩:=nd V bC
    have cY:(execOp a.eval ⟨some s,.alloc cc.t,type,pos,after,guard⟩).run P w=.ok (.value (.pointer (some ⟨w.heap.size,0,none⟩))) (w.alloc (.cells eh.cells cc.t)):=by
     simp[execOp,Instr.alloc,zeroValue,typeInfo,hi,lF,newVar,newRow]
    simp only[Oper.wp,cY,Oper.upon];exact⟨_,_,G w.heap.size,(M.Lr s cc.t (jF w C)).put N (.box _ _ _)⟩
   exact G.elim
  exact G.elim
 case box e x =>
  split at G
  ·rename_i cc s ao;obtain⟨c2,rfl⟩:=hT.get ao
   have cY:∀v,a.eval x=v->(execOp a.eval ⟨some s,.box cc.t x,type,pos,after,guard⟩).run P w=.ok (.value (.pointer (some ⟨w.heap.size,0,none⟩))) (w.alloc (.cells v.cells cc.t)):=by
    intro v X;simp[execOp,Instr.box,newVar,newRow,X]
   have F:=cG M.tmps x;split at G
   ·split at G
    ·rename_i aB hcs;rw[hcs]at F;obtain⟨vs,X,ae⟩:=F.tx;simp only[Oper.wp,cY _ X,Oper.upon];exact⟨_,_,G w.heap.size,(M.Lr s cc.t ae).put N (.box _ _ _)⟩
    exact G.elim
   replace G:=h_ G;obtain⟨ah,G⟩:=G;obtain⟨h1,_⟩:=F.oz ah;simp only[Oper.wp,cY _ rfl,Oper.upon,h1];exact⟨_,_,G w.heap.size,(M.Lr s cc.t (.cons F (.nil _ _))).put N (.box _ _ _)⟩
  exact G.elim
 case store t x y =>
  split at G
  ·rename_i e s b off ao F;obtain⟨c2,rfl⟩:=hT.get ao;split at G
   ·rename_i eo aB hH;obtain⟨rfl,G⟩:=G;obtain⟨dv,w',aR,hK,cY,fI⟩:=abP M c2 hH G (cG M.tmps y);have X:=cG M.tmps x;rw[F]at X
    have Lv:(execOp a.eval ⟨dst,.store e.t x y,type,pos,after,guard⟩).run P w=.ok .skip w':=by
     simp only[execOp,X.wC,Sem.run_bind,cY,Result.andThen_ok,Sem.run_pure]
    simp only[Oper.wp,Lv,Oper.upon];exact⟨_,aR,hK,fI.put N .undef⟩
   exact G.elim
  exact G.elim
 case call c =>
  obtain⟨callee,args,argTypes⟩:=c;simp only at G;split at G
  ·rename_i s x t DH kI kJ abS;have zG:args=#[s,x]:=by apply avF;simpa using kJ
   have abT:argTypes=#[t,DH]:=by apply avF;simpa using abS
   subst zG abT;replace G:=h_ G;obtain⟨av,G⟩:=G;obtain rfl:=auc av;unfold RE at G;split at G
   ·exact G.elim
   rename_i e ao;obtain⟨c2,rfl⟩:=hT.get ao;split at G
   ·rename_i bI b6;split at G
    ·exact G.elim
    rename_i aF ki;obtain⟨fo,rfl⟩:=hT.get ki
    have key:∀(tg:iv) (xs:List D) (q:Nat) (aA:au),(bh w C (.Q tg aF.aC xs) (a.eval s))->((∃bJ n,a.eval s=.slice bJ n n)/\q=kI\/z.H q=some (.own (a.eval s) xs.length aF.aC aF.t))->
      (∀o,(aA.bZ kI o)=((z.bZ q none).bZ kI o))->
      (match z.ba x with
       |.Q _ bz a'=>cond (Nat.beq bz aF.aC&&Nat.blt 0 aF.aC) ((xs.length+a'.length)*aF.bytes<=140737488355328/\xs.length+a'.length<=9223372036854775807/\aF.zero≠none/\
         ∀v:Value,K ((aA.bZ kI (some (.own v (xs.length+a'.length) aF.aC aF.t))).put (some kI) (.Q (.own kI v) aF.aC (xs++a')))) False
       |_=>False)->
      Oper.wp P ⟨some kI,.call ⟨.builtin .append,#[s,x],#[e.t,e.t]⟩,type,pos,after,guard⟩ a w (λbw w'=>∃aA aR,K aA/\bH U w' aR aA bw) a8:=by
     intro tg xs q aA wJ tK abU G;have F:=cG M.tmps x;split at G
     ·rename_i nP bz a' abV;rw[abV]at F;replace G:=h_ G;obtain⟨I,h1,A,Z,hK⟩:=G;rw[atN]at I;obtain rfl:=auc I.1;obtain⟨v,w',aR,cY,ae,fI⟩:=RX (P:=P) M c2 fo b6 Z wJ F h1 A (dst:=kI) (km:=type) tK
      have Lv:(execOp a.eval ⟨some kI,.call ⟨.builtin .append,#[s,x],#[e.t,e.t]⟩,type,pos,after,guard⟩).run P w=.ok (.value v) w':=by
       simp[execOp,resolve,invoke,builtin,cY]
      simp only[Oper.wp,Lv,Oper.upon];refine⟨_,aR,hK v,?_⟩;rw[abU];exact fI.put N ae
     exact G.elim
    have hs:=cG M.tmps s;simp only at G;split at G
    ·rename_i DU;rw[DU]at hs;refine key .none [] kI z ?_ (.inl ⟨⟨none,0,hs.xP⟩,rfl⟩) (λo=>?_) G
     ·rw[hs.xP];exact .iP .none _ none trivial
     simp only[au.bZ];congr 1;funext j;cases Nat.beq j kI<;>simp
    ·rename_i k xs DU;rw[DU]at hs;replace G:=h_ G;obtain⟨Y,G⟩:=G;obtain rfl:=auc Y
     have abW:∃bJ n,a.eval s=.slice bJ n n:=by
      rcases hs.kh with⟨_,_,h⟩|⟨_,_,_,_,_,h,_⟩
      ·exact h
      exact h
     refine key .dV xs kI z hs (.inl ⟨abW,rfl⟩) (λo=>?_) G;simp only[au.bZ];congr 1;funext j;cases Nat.beq j kI<;>simp
    ·rename_i q v k xs DU;rw[DU]at hs;split at G
     ·rename_i c9 hM bz oy hH;replace G:=h_ G;obtain⟨I,rfl,rfl,G⟩:=G;simp only[atN]at I;obtain rfl:=auc I.1.1;obtain rfl:=auc I.1.2;obtain rfl:=auc I.2
      have X:a.eval s=v:=by
       rcases hs.kh with⟨_,_,h⟩|⟨_,_,_,_,_,h,_⟩
       ·exact h
       exact h
      exact key (.own q v) xs q (z.bZ q none) hs (.inr (by rw[X];exact hH)) (λ_=>rfl) G
     exact G.elim
    exact G.elim
   exact G.elim
  exact quiet G
 all_goals exact quiet G
theorem abX{ax:List bx}(hT:df P ax)(M:bH U w C z a){o:Oper}(N:iQ am o.dst=true){K:au->Prop}(G:pN P B ax z h o.op λd=>K (z.put o.dst (.l5 h d)))(a8:Exit->Act->World->Prop): if h=true then o.wp P a w (λbw w'=>∃aA aR,K aA/\bH U w' aR aA bw) a8 else∃aA,K aA/\bH U w C aA (a.put o.dst undef):=by obtain⟨d,hK,hg⟩:=Bm hT G;cases h with|true =>rw[atI rfl];have h1:=hg rfl a.eval w C _ M.base M.heap (λx _=>cG M.tmps x);refine zH M N (d:=.l5 true d) hK ?_;generalize(execOp a.eval o).run P w=r at*;(cases r with|halt _ _=>exact h1|ok n w' =>(cases n with|value v=>obtain⟨aR,ae,hs⟩:=h1;exact⟨aR,.pH _ _ ae,hs⟩|enter f args=>exact⟨h1.1,h1.2.mono λe rs ⟨v,lD,ao,ae,hs⟩=>⟨v,lD,ao,.pH _ _ ae,hs⟩⟩|_=>exact h1))|false =>rw[atH aty];exact⟨_,hK,M.put N (.u2 _)⟩
variable{ops:Array Oper}{tmps:Array Value}
theorem xZ{g:Nat}{b:Bool}(aW:(ops[j]?).bind (·.dst)=some g)(X:tmps.getD g undef=.bool b):yielded ops tmps j=some b:=by unfold yielded;rw[aW];simp only[avt]at X;simp only[Option.bind_some];cases av:tmps[g]? with|none=>rw[av]at X;cases X|some v=>rw[av]at X;simp only[auJ]at X;subst X;rfl
theorem RY{g:Nat}(aW:(ops[j]?).bind (·.dst)=some g)(X:tmps.getD g undef=undef):yielded ops tmps j=none:=by unfold yielded;rw[aW];simp only[avt]at X;simp only[Option.bind_some];cases av:tmps[g]? with|none=>rfl|some v=>rw[av]at X;simp only[auJ]at X;subst X;rfl
theorem Hj{ax:List bx}(hT:df P ax){U:b7 P B am}{ops:Array Oper}{a8:Exit->Act->World->Prop}{K:au->Prop}(f7:∀aA bw w' aR,K aA->bH U w' aR aA bw->a8 .normal bw w'): ∀{l:List Oper} {z:au} (_:jD P B ax am ops l z K) {a:Act} {w:World} {C:Nat->Nat} (_:bH U w C z a),wpList P ops a8 l a w
 |[],_,G,_,_,_,M=>f7 _ _ _ _ G M
 |o::rest,z,G,a,w,C,M=>by change cond (iQ am o.dst) _ False at G;replace G:=h_ G;obtain⟨N,G⟩:=G;(have next:∀bw w',(∃aA aR,jD P B ax am ops rest aA K/\bH U w' aR aA bw)->wpList P ops a8 rest bw w':=λbw w' ⟨aA,aR,h1,A⟩=>Hj hT f7 h1 A;unfold wpList;split at G);(·rename_i aW;rw[atI (by simp[Region.wanted,aW])];exact .inl (Oper.wp_mono next (tL hT M N G a8)));rename_i j iz aW;split at G;exact G.elim;rename_i g hj;have jH:=M.tmps g;(have oB:∀h:Bool,Region.wanted o (yielded ops a.tmps)=h->pN P B ax z h o.op (λd=>jD P B ax am ops rest (z.put o.dst (.l5 h d)) K)->(if Region.wanted o (yielded ops a.tmps)then o.wp P a w (wpList P ops a8 rest) a8\/(o.asks P a w/\LetsOut a8)else wpList P ops a8 rest (a.put o.dst undef) w):=by intro h cz G;rw[cz];have:=abX hT M N (K:=λaA=>jD P B ax am ops rest aA K) G a8;cases h with|true=>rw[atI rfl]at this⊢;exact .inl (Oper.wp_mono next this)|false=>rw[atH aty]at this⊢;obtain⟨aA,h1,A⟩:=this;exact Hj hT f7 h1 A);split at G;rename_i b I;rw[I]at jH;have hy:=xZ hj jH.hL;(cases iz with|true=>exact oB b (ayb) G|false=>exact oB (!b) (ayb) G);rename_i c b I;rw[I]at jH;(cases c with|true =>(have X:a.tmps.getD g undef=.bool b:=by cases jH with|pH _ _ h=>exact h.hL);have hy:=xZ hj X;(cases iz with|true=>exact oB (true&&b) (ayb) G|false=>exact oB (true&&!b) (ayb) G)|false =>(have X:a.tmps.getD g undef=undef:=by generalize a.tmps.getD g undef=v at jH;cases jH;rfl);have hy:=RY hj X;(cases iz with|true=>exact oB (false&&b) (by simp only[Region.wanted,aW,hy];rfl) G|false=>exact oB (false&&!b) (by simp only[Region.wanted,aW,hy];rfl) G));exact G.elim
theorem W.region{ax:List bx}(hT:df P ax){U:b7 P B am}{id:Nat}{ops:Array Oper}{z:au}{K:cJ->au->Prop}(G:jD P B ax am ops ops.toList z (K .normal)):W U (.region id ops false) z K :=
 ⟨λ_ _ _ M=>wp_region_list (Hj hT (λaA _ _ aR hK bN=>⟨.normal,aA,aR,rfl,hK,bN⟩) G M)⟩
variable{md:Region.Mode}
def sE(P:Program)(B:World)(ops:Array Oper)(o:Oper)(d:D)(z:au):Prop :=
 ∀(a:Act) (w:World) (C:Nat->Nat) (Ft:Nat->Prop),pK B w->l6 Ft w C z.H->(∀i,i∈o.looksAt ops->bh w C (z.t i) (a.tmps.getD i undef))->
  (Region.wanted o (yielded ops a.tmps)=true/\hA P d w C ((execOp a.eval o).run P w))\/(Region.wanted o (yielded ops a.tmps)=false/\bh w C d undef)
variable{aA:au}
theorem sE.RZ{o:Oper}(h:sE P B ops o d z)(hH:aA.H=z.H)(av:∀i,i∈o.looksAt ops->aA.t i=z.t i):sE P B ops o d aA:=by intro a w C Ft I ae cZ;exact h a w C Ft I (hH ▸ ae) λi hi=>by rw[<-av i hi];exact cZ i hi
theorem DV(z:au)(dst:Option Tmp)(d:D):(z.put dst d).H=z.H:=by cases dst<;>rfl
variable{dst:Option Tmp}
theorem Lw(h:∀t,dst=some t->t≠i):(z.put dst d).t i=z.t i:=by cases dst with|none=>rfl|some t=>simp[au.put,au' (λe=>h t rfl e.symm:i≠t)]
theorem abY{x y:Option Tmp}{aj v:D}(h:∀t,x=some t->y≠some t):(z.put x aj).put y v=(z.put y v).put x aj:=by cases x with|none=>rfl|some s =>(cases y with|none=>rfl|some t =>have a7:s≠t:=λe=>h s rfl (e ▸ rfl);simp only[au.put];congr 1;funext j;(cases h1:Nat.beq j t with|true =>have bV:=auc h1;subst bV;rw[au' (Ne.symm a7)];rfl|false=>cases Nat.beq j s<;>rfl))
def oC(P:Program)(B:World)(am:Nat)(ops:Array Oper)(i:Nat)(K:au->Prop)(z:au):Prop :=
 match ops[i]? with
 |none=>K z
 |some o=>iQ am o.dst=true/\∃d,sE P B ops o d z/\K (z.put o.dst d)
variable{st:au->Prop}
theorem R0{K:au->Prop}(h:∀z,K z->st z)(cF:oC P B am ops i K z):oC P B am ops i st z:=by unfold oC at*;split;rename_i ah;rw[ah]at cF;exact h _ cF;rename_i o ah;rw[ah]at cF;obtain⟨h1,d,A,Z⟩:=cF;exact⟨h1,d,A,h _ Z⟩
theorem sE.oC{i:Nat}{o:Oper}{d:D}{z:au}(hi:ops[i]?=some o)(N:iQ am o.dst=true)(hy:sE P B ops o d z){K:au->Prop}(h:K (z.put o.dst d)):oC P B am ops i K z:=by unfold Go.bR.oC;simp only[hi];exact⟨N,d,hy,h⟩
variable{nf:Oper}
theorem R1{ng:Oper}{v:D}(aa:ops[j]?=some ng)(rB:nf.apart ops ng=true){K:au->Prop}(hy:sE P B ops nf v z)(h:oC P B am ops j K (z.put nf.dst v)): oC P B am ops j (λaA=>sE P B ops nf v aA/\K (aA.put nf.dst v)) z:=by obtain⟨h1,A,Z⟩:=Oper.apart_spec rB;unfold oC at*;simp only[aa]at*;obtain⟨N,aj,an,hK⟩:=h;refine⟨N,aj,an.RZ (DV _ _ _).symm (λi hi=>(Lw λt av e=>?_).symm),hy.RZ (DV _ _ _) (λi hi=>Lw λt av e=>?_),?_⟩;subst e;exact h1 t av hi;subst e;exact Z t av hi;rw[<-abY A];exact hK
def DW(P:Program)(B:World)(am:Nat)(md:Region.Mode)(ops:Array Oper)(a8:au->Prop):Nat->Array Bool->au->Prop
 |0,bg,z=>Region.ready md ops bg=[]/\a8 z
 |iU+1,bg,z =>
  (Region.ready md ops bg=[]->a8 z)/\
  ∀i∈Region.ready md ops bg,oC P B am ops i (DW P B am md ops a8 iU (bg.setIfInBounds i true)) z
theorem R2{K:au->Prop}{st:Act->World->Prop}{Q':Exit->Act->World->Prop}(M:bH U w C z a)(h:∀z a w C,bH U w C z a->K z->st a w)(cF:oC P B am ops i K z):wpOp P ops Q' i st a w:=by unfold oC at cF;unfold wpOp;split;rename_i ah;rw[ah]at cF;exact h _ _ _ _ M cF;rename_i o ah;rw[ah]at cF;obtain⟨N,d,hy,hK⟩:=cF;rcases hy a w C _ M.base M.heap (λi _=>M.tmps i)with⟨cz,G⟩|⟨cz,ae⟩;rw[atI cz];exact .inl (Oper.wp_mono (λbw w' ⟨aA,aR,h1,A⟩=>h aA bw w' aR A h1) (zH M N hK G));rw[cz];exact h _ _ _ _ (M.put N ae) hK
theorem R3{U:b7 P B am}{a8:au->Prop}{Q':Exit->Act->World->Prop}(f7:∀z a w C,bH U w C z a->a8 z->Q' .normal a w):∀(iU:Nat) (bg:Array Bool) (z:au) (a:Act) (w:World) (C:Nat->Nat),bH U w C z a->DW P B am md ops a8 iU bg z->wpAny P md ops Q' iU bg a w
 |0,_,_,_,_,_,M,h=>⟨h.1,f7 _ _ _ _ M h.2⟩
 |iU+1,_,_,_,_,_,M,h=>⟨λh0=>f7 _ _ _ _ M (h.1 h0),λi hi=>R2 M (λaA bw w' aR fI=>R3 f7 iU _ aA bw w' aR fI) (h.2 i hi)⟩
theorem abZ{a8:au->Prop}{v:D}(hi:ops[i]?=some nf)(lH:iQ am nf.dst=true): ∀(iU:Nat) (bg:Array Bool) (z:au),(∀j ng,ops[j]?=some ng->j≠i->bg.getD j true=false->(∀e∈ng.after,Region.binds md e=true->e.on≠i)->nf.apart ops ng=true)->i∈Region.ready md ops bg->sE P B ops nf v z->DW P B am md ops a8 iU (bg.setIfInBounds i true) (z.put nf.dst v)->DW P B am md ops a8 (iU+1) bg z:=by intro iU;induction iU with|zero =>intro bg z _ ae hy H;refine⟨λh=>(by rw[h]at ae;cases ae),λj aa=>?_⟩;by_cases e9:j=i;subst e9;exact hy.oC hi lH H;have:=ready_mono aa e9;rw[H.1]at this;cases this|succ iU aZ =>intro bg z DX ae hy H;refine⟨λh=>(by rw[h]at ae;cases ae),λj aa=>?_⟩;by_cases e9:j=i;subst e9;exact hy.oC hi lH H;have h1:=H.2 j (ready_mono aa e9);obtain⟨DY,ng,DZ,ht⟩:=mem_ready.1 aa;(have Lx:∀e∈ng.after,Region.binds md e=true->e.on≠i:=λe ao I jf=>by have h1:=ht e ao I;have h0:=(mem_ready.1 ae).1;rw[jf]at h1;rcases at3 i bg.size with bB|bB;simp[bB]at h0 h1;rw[h0]at h1;cases h1;simp[awU bB]at h1);have A:=R1 DZ (DX j ng DZ e9 DY Lx) hy h1;(have Ly:∀k ok,ops[k]?=some ok->k≠i->(bg.setIfInBounds j true).getD k true=false->(∀e∈ok.after,Region.binds md e=true->e.on≠i)->nf.apart ops ok=true:=λk ok Y kk u_ ff=>axD);refine R0 (λaA Z=>aZ (bg.setIfInBounds j true) aA Ly (ready_mono ae (Ne.symm e9)) Z.1 ?_) A;rw[Array.setIfInBounds_comm _ _ e9];exact Z.2
theorem R4{ax:List bx}(hT:df P ax){o:Oper}{l:List Oper}{K:au->Prop}(nR:Op.Bf o.op=true)(G:jD P B ax am ops (o::l) z K):
  iQ am o.dst=true/\∃d,sE P B ops o d z/\jD P B ax am ops l (z.put o.dst d) K:=by
 change cond (iQ am o.dst) _ False at G
 replace G:=h_ G;obtain⟨N,G⟩:=G;refine⟨N,?_⟩
 have aL:∀(a:Act) (w:World) (C:Nat->Nat),(∀i,i∈o.looksAt ops->bh w C (z.t i) (a.tmps.getD i undef))->∀x∈o.op.operands,bh w C (z.ba x) (a.eval x):=by
  intro a w C h x F
  cases x with
  |tmp t=>exact h t (List.mem_append_left _ (awo.2 ⟨.tmp t,by simpa using F,rfl⟩))
  |const v=>exact cG (z:={t:=λ_=>.any,H:=z.H}) (λ_=>.any _) (.const v)
  |global g=>exact .ai _
  |func f=>exact cG (z:={t:=λ_=>.any,H:=z.H}) (a:=a) (λ_=>.any _) (.func f)
 split at G
 ·rename_i aW
  have sz:pN P B ax z true o.op (λd=>jD P B ax am ops l (z.put o.dst d) K)\/(∃x,(o.op=.move x\/o.op=.assign x)/\jD P B ax am ops l (z.put o.dst (z.ba x)) K):=by
   obtain⟨dst,op,type,pos,after,guard⟩:=o;unfold nO at G;cases op<;>simp only[Op.Bf]at G nR
   case move x=>exact .inr ⟨x,.inl rfl,(zq _ _).1 G⟩
   case assign x=>exact .inr ⟨x,.inr rfl,(zq _ _).1 G⟩
   case call c =>
    obtain⟨callee,args,argTypes⟩:=c;simp only at G nR;split at G
    ·simp at nR
    exact .inl G
   all_goals first
    |exact .inl G
    |(cases nR;done)
  rcases sz with sz|⟨x,F,sz⟩
  ·obtain⟨d,hK,hg⟩:=Bm hT sz;exact⟨d,λa w C Ft I ae cZ=>.inl ⟨by simp[Region.wanted,aW],hg rfl a.eval w C Ft I ae (aL a w C cZ)⟩,hK⟩
  refine⟨_,λa w C Ft I ae cZ=>.inl ⟨by simp[Region.wanted,aW],?_⟩,sz⟩;have h1:=aL a w C cZ x (by rcases F with h|h<;>simp[h,Op.operands]);obtain⟨dst,op,type,pos,after,guard⟩:=o;rcases F with h|h<;>(simp only at h;subst h;exact hA.same h1)
 rename_i j iz aW;split at G
 ·exact G.elim
 rename_i g hj
 have R5:g∈o.looksAt ops:=by
  unfold Oper.looksAt;rw[aW];exact List.mem_append_right _ (by simp[hj])
 have oB:∀h:Bool,(∀(a:Act) (w:World) (C:Nat->Nat),(∀i,i∈o.looksAt ops->bh w C (z.t i) (a.tmps.getD i undef))->Region.wanted o (yielded ops a.tmps)=h)->
   pN P B ax z h o.op (λd=>jD P B ax am ops l (z.put o.dst (.l5 h d)) K)->∃d,sE P B ops o d z/\jD P B ax am ops l (z.put o.dst d) K:=by
  intro h cz G;obtain⟨d,hK,hg⟩:=Bm hT G;refine⟨.l5 h d,λa w C Ft I ae cZ=>?_,hK⟩
  cases h with
  |true =>
   refine .inl ⟨cz a w C cZ,?_⟩;have h1:=hg rfl a.eval w C Ft I ae (aL a w C cZ);generalize(execOp a.eval o).run P w=r at*
   cases r with
   |halt _ _=>exact h1
   |ok n w' =>
    cases n with
    |value v=>obtain⟨aR,ae,hs⟩:=h1;exact⟨aR,.pH _ _ ae,hs⟩
    |enter f args=>exact⟨h1.1,h1.2.mono λe rs ⟨v,lD,ao,ae,hs⟩=>⟨v,lD,ao,.pH _ _ ae,hs⟩⟩
    |_=>exact h1
  |false=>exact .inr ⟨cz a w C cZ,.u2 _⟩
 split at G
 ·rename_i b I
  have hy:∀(a:Act) (w:World) (C:Nat->Nat),(∀i,i∈o.looksAt ops->bh w C (z.t i) (a.tmps.getD i undef))->yielded ops a.tmps j=some b:=λa w C h=>by
   have jH:=h g R5;rw[I]at jH;exact xZ hj jH.hL
  cases iz with
  |true=>exact oB b (λa w C h=>by simp only[Region.wanted,aW,hy a w C h];cases b<;>rfl) G
  |false=>exact oB (!b) (λa w C h=>by simp only[Region.wanted,aW,hy a w C h];cases b<;>rfl) G
 ·rename_i c b I
  have hy:∀(a:Act) (w:World) (C:Nat->Nat),(∀i,i∈o.looksAt ops->bh w C (z.t i) (a.tmps.getD i undef))->yielded ops a.tmps j=if c then some b else none:=λa w C h=>by
   have jH:=h g R5;rw[I]at jH
   cases c with
   |true =>
    have X:a.tmps.getD g undef=.bool b:=by
     cases jH with
     |pH _ _ h=>exact h.hL
    rw[atI rfl];exact xZ hj X
   |false =>
    have X:a.tmps.getD g undef=undef:=by
     generalize a.tmps.getD g undef=v at jH;cases jH;rfl
    rw[atH aty];exact RY hj X
  cases iz with
  |true=>exact oB (c&&b) (λa w C h=>axY) G
  |false=>exact oB (c&&!b) (λa w C h=>axY) G
 exact G.elim
theorem R6{ax:List bx}(hT:df P ax){a8:au->Prop}:∀(l:List Oper) (k:Nat) (bg:Array Bool) (z:au),(∀j,l[j]?=ops[k+j]?)->l.all (λo=>Op.Bf o.op)=true->Region.lexFrom md ops l.length k bg=true->jD P B ax am ops l z a8->DW P B am md ops a8 l.length bg z
 |[],_,_,_,_,_,gc,h=>⟨by simpa[Region.lexFrom]using gc,h⟩
 |o::l,k,bg,z,al,nR,gc,h=>by(have h0:ops[k]?=some o:=by simpa using(al 0).symm);simp only[atT,Region.lexFrom,atN]at gc;obtain⟨⟨ae,M⟩,Lz⟩:=gc;simp only[awm,atN]at nR;obtain⟨N,d,hy,hK⟩:=R4 hT nR.1 h;exact abZ h0 N l.length bg z (Region.free_spec h0 M) (by simpa using ae) hy (R6 hT l (k+1) _ _ (λj=>by have:=al (j+1);simpa[avH,awy 1 j]using this) nR.2 Lz hK)
def Hk(ops:Array Oper):Bool:=Region.lexB .any ops&&ops.toList.all λo=>Op.Bf o.op
theorem bH.drew{U:b7 P B am}{w:World}{C:Nat->Nat}{z:au}{a:Act}(h:bH U w C z a):bH U {w with drawn:=w.drawn+1} C z a:=h.tJ (c_.drew _ w C)
variable{id:Nat}{K:cJ->au->Prop}
theorem W.u'{ax:List bx}(hT:df P ax)(hm:P.follows .mixedOrders=true)(gc:Hk ops=true)
  (G:jD P B ax am ops ops.toList z (K .normal)):W U (.region id ops true) z K :=
 ⟨λa w C M=>by
  simp only[Hk,Region.lexB,atN]at gc;refine wp_region_any hm (R3 (U:=U) (a8:=K .normal) (λz a w C bN hK=>⟨.normal,z,C,rfl,hK,bN⟩) _ _ z _ _ C M.drew ?_);have:=R6 hT (md:=.any) (am:=am) ops.toList 0 (Array.replicate ops.size false) z aty gc.2 (by simpa using gc.1.2) G
  simpa using this⟩
def D0(P:Program)(B:World)(am:Nat)(md:Region.Mode)(ops:Array Oper)(n:Nat)(L:Array Bool->au->Prop):Nat->Array Bool->au->Prop
 |0,bg,z=>L bg z
 |f+1,bg,z =>
  Region.ready md ops bg≠[]/\∀i∈Region.ready md ops bg,i<n/\oC P B am ops i (D0 P B am md ops n L f (bg.setIfInBounds i true)) z
theorem Hl{U:b7 P B am}{n g:Nat}{L:Array Bool->au->Prop}{Q':Exit->Act->World->Prop}(a1:∀bg z a w C,bH U w C z a->L bg z->wpAny P md ops Q' g bg a w): ∀(f:Nat) (bg:Array Bool) (z:au) (a:Act) (w:World) (C:Nat->Nat),bH U w C z a->D0 P B am md ops n L f bg z->wpAny P md ops Q' (f+g) bg a w
 |0,bg,z,a,w,C,M,h=>by rw[auu];exact a1 _ _ _ _ _ M h
 |f+1,bg,z,a,w,C,M,h=>by rw[show f+1+g=(f+g)+1 by omega];exact⟨λh0=>absurd h0 h.1,λi hi=>R2 M (λaA bw w' aR fI bB=>Hl a1 f _ aA bw w' aR fI bB) (h.2 i hi).2⟩
theorem ab0{n:Nat}{v:D}{L:Array Bool->au->Prop}(hi:ops[i]?=some nf)(lH:iQ am nf.dst=true)(hs:Region.sinkB md ops n=true)(hc:Region.chainB md ops n=true)(aw:n<ops.size)(ci:i<n)(ab1:∀bg z,L bg z->∀j∈Region.ready md ops bg,n<=j): ∀(f:Nat) (bg:Array Bool) (z:au),HeadInv md ops n bg->(∀j ng,ops[j]?=some ng->j≠i->bg.getD j true=false->(∀e∈ng.after,Region.binds md e=true->e.on≠i)->nf.apart ops ng=true)->i∈Region.ready md ops bg->sE P B ops nf v z->D0 P B am md ops n L f (bg.setIfInBounds i true) (z.put nf.dst v)->D0 P B am md ops n L (f+1) bg z:=by intro f;induction f with|zero =>intro bg z pJ _ ae hy H;have u_:=(mem_ready.1 ae).1;refine⟨λh=>(by rw[h]at ae;cases ae),λj aa=>?_⟩;(have zI:j<n:=axG);refine⟨zI,?_⟩;by_cases e9:j=i;subst e9;exact hy.oC hi lH H;have:=ab1 _ _ H j (ready_mono aa e9);omega|succ f aZ =>intro bg z pJ DX ae hy H;have u_:=(mem_ready.1 ae).1;refine⟨λh=>(by rw[h]at ae;cases ae),λj aa=>?_⟩;(have zI:j<n:=axG);refine⟨zI,?_⟩;by_cases e9:j=i;subst e9;exact hy.oC hi lH H;have h1:=(H.2 j (ready_mono aa e9)).2;obtain⟨DY,ng,DZ,ht⟩:=mem_ready.1 aa;(have Lx:∀e∈ng.after,Region.binds md e=true->e.on≠i:=λe ao I jf=>by have h1:=ht e ao I;rw[jf,getD_both u_]at h1;cases h1);have A:=R1 DZ (DX j ng DZ e9 DY Lx) hy h1;(have Ly:∀k ok,ops[k]?=some ok->k≠i->(bg.setIfInBounds j true).getD k true=false->(∀e∈ok.after,Region.binds md e=true->e.on≠i)->nf.apart ops ok=true:=λk ok Y kk u_ ff=>axD);refine R0 (λaA Z=>aZ (bg.setIfInBounds j true) aA (pJ.set aa zI) Ly (ready_mono ae (Ne.symm e9)) Z.1 ?_) A;rw[Array.setIfInBounds_comm _ _ e9];exact Z.2
theorem Hm{ax:List bx}(hT:df P ax){n g:Nat}{r:List Oper}{a8:au->Prop}(hs:Region.sinkB md ops n=true)(hc:Region.chainB md ops n=true)(aw:n<ops.size): ∀(l:List Oper) (k:Nat) (bg:Array Bool) (z:au),(∀j,j<l.length->l[j]?=ops[k+j]?)->l.all (λo=>Op.Bf o.op)=true->k+l.length=n->HeadInv md ops n bg->Region.lexHead md ops g l.length k bg=true->jD P B ax am ops (l++r) z a8->D0 P B am md ops n (λR7 aA=>Region.seqB md ops g n R7=true/\jD P B ax am ops r aA a8) l.length bg z
 |[],k,bg,z,_,_,Y,_,gc,h=>by(have:k=n:=by simpa using Y);subst this;exact⟨by simpa[Region.lexHead]using gc,h⟩
 |o::l,k,bg,z,al,nR,Y,pJ,gc,h=>by(have h0:ops[k]?=some o:=by simpa using(al 0 aty).symm);simp only[atT,Region.lexHead,atN]at gc;obtain⟨⟨ae,M⟩,Lz⟩:=gc;simp only[awm,atN]at nR;(have fA:k<n:=by simp only[atT]at Y;omega);(have Br:k∈Region.ready md ops bg:=by simpa using ae);obtain⟨N,d,hy,hK⟩:=R4 (l:=l++r) hT nR.1 h;exact ab0 h0 N hs hc aw fA (λR7 aA a1=>seqB_ready a1.1) l.length bg z pJ (Region.free_spec h0 M) Br hy (Hm hT hs hc aw l (k+1) _ _ (λj aa=>by have:=al (j+1) atx;simpa[avH,awy 1 j]using this) nR.2 (by simp only[atT]at Y;omega) (pJ.set Br fA) Lz hK)
def Bs(ops:Array Oper)(n:Nat):Bool:=Region.lexTailB .any ops n&&(ops.toList.take n).all λo=>Op.Bf o.op
theorem W.Bt{ax:List bx}(hT:df P ax)(n:Nat)(hm:P.follows .mixedOrders=true)(gc:Bs ops n=true)
  (G:jD P B ax am ops ops.toList z (K .normal)):W U (.region id ops true) z K :=
 ⟨λa w C M=>by
  obtain⟨l⟩:=ops;simp only[Bs,Region.lexTailB,atN,aut]at gc;obtain⟨⟨⟨⟨⟨R8,aw⟩,hs⟩,hc⟩,D1⟩,nR⟩:=gc;have wM:n<l.length:=by simpa using aw
  have iV:(l.take n).length=n:=by simp;omega
  have jI:(l.drop n).length=(⟨l⟩:Array Oper).size-n:=by simp
  have D2:HeadInv .any ⟨l⟩ n (Array.replicate (⟨l⟩:Array Oper).size false) :=
   ⟨by simp,λj ng _ al=>(ayj),λt _ av=>getD_in (by simpa using av) (getD_replicate_false _ _)⟩
  have H:=Hm (md:=.any) (g:=(⟨l⟩:Array Oper).size-n) (r:=l.drop n) (am:=am) hT hs hc aw (l.take n) 0 _ z (λj aa=>by
   have gi:j<n:=by rw[iV]at aa;exact aa
   simp[gi]) nR (by simpa using iV) D2 (by rw[iV];exact D1) (by rw[avb];exact G)
  refine wp_region_any hm ?_
  have:=Hl (U:=U) (Q':=λe bw w'=>∃c6 aA aR,e=cJ.f5 c6/\K c6 aA/\bH U w' aR aA bw) (g:=(⟨l⟩:Array Oper).size-n) (λbg aA bw w' aR bN a1=>by
   have:=wpAny_of_seq (md:=.any) (Q':=λe bw w'=>∃c6 aA aR,e=cJ.f5 c6/\K c6 aA/\bH U w' aR aA bw) (l.drop n) n bg bw w' (λj=>by simp[avM]) (by rw[jI];exact a1.1)
    (Hj hT (λD3 _ _ lD hK D4=>⟨.normal,D3,lD,rfl,hK,D4⟩) a1.2 bN)
   rwa [jI]at this) _ _ z a _ C M.drew H
  rw[iV,show n+((⟨l⟩:Array Oper).size-n)=(⟨l⟩:Array Oper).size by omega]at this
  exact this⟩
theorem W.cond{U:b7 P B am}{c:Operand}{x y:Code}{z:au}{K:cJ->au->Prop}(t:Bool)(hc:z.ba c=.bool t)(h1:t=true->W U x z K)(A:t=false->W U y z K):
  W U (.cond c x y) z K :=
 ⟨λa w C M=>by
  have X:=cG M.tmps c;rw[hc]at X
  exact wp_cond_split X.hL (λh=>(h1 h).run a w C M) (λh=>(A h).run a w C M)⟩
def D5(ax:List bx)(z:au):List ResultVar->(List D->Prop)->Prop
 |[],k=>k []
 |.tmp t::r,k=>D5 ax z r λds=>k (z.t t::ds)
 |.cell a km::r,k=>match dx ax km,z.t a with
  |some e,.box s b off=>match z.H s with
   |some (.box eo aB)=>b=eo/\DE e off aB λd=>D5 ax z r λds=>k (d::ds)
   |_=>False
  |_,_=>False
def zJ(ax:List bx)(z:au)(kL:List ResultVar)(d:D):Prop :=
 D5 ax z kL λds=>match ds with
  |[x]=>aq x d
  |ds=>match d with
   |.bp ew=>dN ds ew
   |_=>False
def LA(ax:List bx)(kL:List ResultVar)(d:D):cJ->au->Prop
 |.exit _,_=>False
 |.normal,z=>zJ ax z kL d
 |.ret,z=>zJ ax z kL d
def Hn(tmps:Array Value):ResultVar->Sem Value
 |.tmp t=>pure (tmps.getD t undef)
 |.cell b t=>do loadVar t (<-asAddr (tmps.getD b undef))
theorem LB{ax:List bx}(hT:df P ax){z:au}{w:World}{C:Nat->Nat}{a:Act}(av:∀i,bh w C (z.t i) (a.tmps.getD i undef)){Ft:Nat->Prop}(hH:l6 Ft w C z.H): ∀{kL:List ResultVar} {k:List D->Prop} (_:D5 ax z kL k),∃ds vs,k ds/\c' w C ds vs/\(kL.mapM (Hn a.tmps)).run P w=.ok vs w/\vs.length=kL.length
 |[],k,Y=>⟨[],[],Y,.nil _ _,by simp,rfl⟩
 |.tmp t::r,k,Y=>by obtain⟨ds,vs,h1,A,Z,aG⟩:=LB hT av hH (kL:=r) Y;refine⟨_,a.tmps.getD t undef::vs,h1,.cons (av t) A,?_,by simp[aG]⟩;simp only[List.mapM_cons,Sem.run_bind,Hn,Sem.run_pure,Result.andThen_ok,Z]
 |.cell b km::r,k,Y=>by simp only[D5]at Y;split at Y;rename_i e s eo off ao I;obtain⟨c2,rfl⟩:=hT.get ao;split at Y;rename_i ari aB ab2;obtain⟨rfl,Y⟩:=Y;obtain⟨d,Y,N⟩:=RH (P:=P) c2 Y;obtain⟨ds,vs,h1,A,Z,aG⟩:=LB hT av hH (kL:=r) Y;obtain⟨dk,bI,hbk,hQ,_⟩:=hH.cj s _ ab2;have ay:=av b;rw[I]at ay;have ay:=ay.wC;obtain⟨v,X,ae⟩:=N w C eo 0 (λj=>dk.getD j undef) (λj d N=>by have aa:=e7 N;rw[hQ.1]at aa;have X:dk[j]?=some dk[j]:=atK aa;(have dP:dk.getD j undef=dk[j]:=by simp[List.getD,X]);refine⟨?_,?_⟩;simp only[World.cell?,hbk,auu,dP];simp[aa];rw[dP];exact hQ.2 j d _ N X);refine⟨_,v::vs,h1,.cons ae A,?_,by simp[aG]⟩;simp only[auu,Instr.loadAt,Instr.sureAddr,Sem.run_bind,Sem.run_pure,Result.andThen_ok]at X;have ab3:asAddr (.pointer (some ⟨eo,off,none⟩))=pure ⟨eo,off,none⟩:=rfl;simp only[List.mapM_cons,Sem.run_bind,Hn,ay,ab3,Sem.run_pure,Result.andThen_ok,X,Z];exact Y.elim;exact Y.elim
theorem R9{ax:List bx}(hT:df P ax)(av:∀i,bh w C (z.t i) (a.tmps.getD i undef))(hH:l6 Ft w C z.H){fn:Func}(h:zJ ax z fn.results.toList d):∃v,(results fn a.tmps).run P w=.ok v w/\bh w C d v:=by obtain⟨ds,vs,h1,A,Z,aG⟩:=LB (P:=P) hT av hH h;(have cY:∀(dk:List Value) (aj:Value),dk=vs->(if h:(⟨dk⟩:Array Value).size=1 then(⟨dk⟩:Array Value)[0]else .tuple ⟨dk⟩)=aj->(results fn a.tmps).run P w=.ok aj w:=by intro dk aj x0 an;subst x0;(have e:results fn a.tmps=(fn.results.mapM (Hn a.tmps) >>= λvs=>pure (if h:vs.size=1 then vs[0]else .tuple vs)):=by unfold results;congr 2);rw[e,Sem.run_bind,Array.mapM_eq_mapM_toList];simp only[Sem.run_map,Z,Result.andThen_ok,Sem.run_pure];rw[<-an]);cases ds with|nil =>(cases vs with|cons _ _=>have:=A.1;simp at this|nil =>simp only at h1;split at h1;rename_i _ ew;have bb:=h1.rv A;exact⟨.tuple ⟨[]⟩,cY [] _ rfl rfl,.bp _ [] bb.1 bb.2⟩;exact h1.elim)|cons x ds =>(cases vs with|nil=>have:=A.1;simp at this|cons v vs =>(cases ds with|nil =>(cases vs with|cons _ _=>have:=A.1;simp at this|nil=>exact⟨v,cY [v] v rfl rfl,h1.le _ _ _ A.head⟩)|cons y ds =>(cases vs with|nil=>have:=A.1;simp at this|cons aj vs =>simp only at h1;split at h1;have bb:=h1.rv A;exact⟨.tuple ⟨v::aj::vs⟩,cY (v::aj::vs) _ rfl (by rw[awM aty]),.bp _ _ bb.1 bb.2⟩;exact h1.elim)))
def Bu:List D->Nat->D
 |[],_=>.any
 |d::_,0=>d
 |_::r,n+1=>Bu r n
theorem LC:∀(ds:List D) (i:Nat),Bu ds i=(ds[i]?).getD .any
 |[],_=>by simp[Bu]
 |d::_,0=>by simp[Bu]
 |_::r,n+1=>by simp[Bu,LC r n]
def entry(ds:List D)(H:bE):au:={t:=Bu ds,H}
theorem mI.intro{ax : List bx}(hT : df P ax){f : FuncId}{fn : Func}{body : Code}{ds : List D}{d : D}(M : P.funcs[f]?=some fn)(I : fn.body = some body)(aw : (fn.name == "runtime.NumGoroutine") = false)(pY:fn.ntmps=am)(al:Nat.ble ds.length am=true)(h:∀U:b7 P B am,W U body (entry ds bE.none) (LA ax fn.results.toList d)):mI P B f ds d:=by refine⟨⟨fn,M,by simp[I],aw⟩,λw C args pS ae=>?_⟩;have mG:=aul al;have hlen:=ae.1;let U:b7 P B am:=⟨w,C,λ_=>False,pS,λ_ h=>h.elim⟩;refine calls_of_wp M I ?_;(have h8:bH U w C (entry ds bE.none) {tmps:=⟨args⟩++Array.replicate (fn.ntmps-(⟨args⟩:Array Value).size) undef,defers:=[]}:=by refine⟨λi=>?_,.none _ _ _,by simp[pY];omega,rfl,.refl _ _ _⟩;exact axl);refine wp_mono ((h U).run _ w C h8) ?_;rintro e bw w' ⟨c6,aA,aR,rfl,hK,bN⟩;(have va:zJ ax aA fn.results.toList d->bw.defers=[]/\∃v,(results fn bw.tmps).run P w'=.ok v w'/\∃c9 aR,Ending.returned v=.returned c9/\bh w' aR d c9/\c_ (λ_=>False) w C w' aR:=by intro Bv;obtain⟨v,X,eQ⟩:=R9 (P:=P) hT bN.tmps bN.heap Bv;exact⟨bN.defers,v,X,v,aR,rfl,eQ,bN.step⟩);cases c6 with|normal=>exact va hK|ret=>exact va hK|exit id=>exact hK.elim
def gx(H:bE):List (Nat×Nat)->bE
 |[],_=>none
 |(k,s)::r,j=>cond (Nat.beq j k) (H s) (gx H r j)
def qB(H aP:bE):List (Nat×Nat)->bE
 |[],j=>H j
 |(k,s)::r,j=>cond (Nat.beq j s) (aP k) (qB H aP r j)
def j0:List (Nat×Nat)->Bool
 |[]=>true
 |(k,s)::r=>r.all (λx=>!Nat.beq x.1 k&&!Nat.beq x.2 s)&&j0 r
theorem D6{H:bE}:∀{m:List (Nat×Nat)} {j:Nat} {o:aJ},gx H m j=some o->∃s,(j,s)∈m/\H s=some o
 |[],_,_,h=>by cases h
 |(k,s)::r,j,o,h=>by simp only[gx]at h;cases I:Nat.beq j k with|true=>rw[I]at h;have:=auc I;subst this;exact⟨s,atU,h⟩|false=>rw[I]at h;obtain⟨bo,h1,A⟩:=D6 (m:=r) h;exact⟨bo,atY _ h1,A⟩
theorem D7{H aP:bE}:∀{m:List (Nat×Nat)} {j:Nat} {o:aJ},qB H aP m j=some o->(∃k,(k,j)∈m/\aP k=some o)\/((∀k,(k,j)∉m)/\H j=some o)
 |[],_,_,h=>.inr ⟨λ_ hm=>(by cases hm),h⟩
 |(k,s)::r,j,o,h=>by simp only[qB]at h;cases I:Nat.beq j s with|true=>rw[I]at h;have:=auc I;subst this;exact .inl ⟨k,atU,h⟩|false =>rw[I]at h;rcases D7 (m:=r) h with⟨bz,h1,A⟩|⟨h1,A⟩;exact .inl ⟨bz,atY _ h1,A⟩;refine .inr ⟨λbz hm=>?_,A⟩;rcases at5.1 hm with ao|hm;cases ao;rw[au1]at I;cases I;exact h1 bz hm
theorem wN:∀{m:List (Nat×Nat)},j0 m=true->∀k s bz bo,(k,s)∈m->(bz,bo)∈m->(k=bz↔s=bo)
 |[],_,_,_,_,_,h,_=>by cases h
 |(a,b)::r,h,k,s,bz,bo,h1,A=>by simp only[j0,atN,auE,av0]at h;(have a7:∀x∈r,x.1≠a/\x.2≠b:=λx F=>by obtain⟨Z,aG⟩:=h.1 x F;exact⟨λe=>(by rw[e,au1]at Z;cases Z),λe=>(by rw[e,au1]at aG;cases aG)⟩);rcases at5.1 h1 with bV|h1<;>rcases at5.1 A with b9|A;cases bV;cases b9;simp;cases bV;have:=a7 _ A;exact⟨λe=>absurd e.symm this.1,λe=>absurd e.symm this.2⟩;cases b9;have:=a7 _ h1;exact⟨λe=>absurd e this.1,λe=>absurd e this.2⟩;exact wN h.2 k s bz bo h1 A
variable{m:List (Nat×Nat)}{f:FuncId}{a8:D->bE->Prop}
theorem R_(M:bH U w C z a)(hm:j0 m=true){args:List Value}(hc:c5 P B f ds (gx z.H m) a8)(ae:c' w C ds args)(N:iQ am dst=true){K:au->Prop}(hK:∀d aP,a8 d aP->∃d',aq d d'/\K (({t:=z.t,H:=qB z.H aP m}:au).put dst d')): Calls P f ⟨args⟩ w λe w'=>∃v,e=.returned v/\∃aA aR,K aA/\bH U w' aR aA (a.put dst v):=by let Ft:Nat->Prop:=λb=>∃k s o,(k,s)∈m/\z.H s=some o/\o.ef b;have tM:∀b,Ft b->U.pL b:=λb ⟨k,s,o,_,h1,A⟩=>M.heap.cI s o b h1 A;(have hH:l6 Ft w C (gx z.H m):=by refine⟨λj o ah=>?_,λj ex o bM b a7 h1 A an cV=>?_,λj o b ah an=>?_⟩;obtain⟨s,_,h⟩:=D6 ah;exact M.heap.cj s o h;obtain⟨s,hs,h⟩:=D6 h1;obtain⟨bo,c7,bB⟩:=D6 A;have iT:s≠bo:=λe=>a7 ((wN hm j s ex bo hs c7).2 e);exact M.heap.inj s bo o bM b iT h bB an cV;obtain⟨s,hs,h⟩:=D6 ah;exact⟨j,s,o,hs,h,an⟩);refine(hc.2 w C args Ft M.base (λb I=>U.Dw (tM b I)) hH ae).mono ?_;rintro e w' ⟨v,d,aR,aP,rfl,f7,eQ,hs,nh⟩;obtain⟨d',dO,hK⟩:=hK d aP f7;refine⟨v,rfl,_,aR,hK,bH.put ?_ N (dO.le _ _ _ eQ)⟩;have qC:∀j o,(∀k,(k,j)∉m)->z.H j=some o->∀b,o.ef b->¬Ft b/\b<w.heap.size:=λj o aa ah b I => ⟨λ⟨k,s,bM,h1,A,Z⟩=>M.heap.inj j s o bM b (λe=>by subst e;exact aa k h1) ah A I Z,(M.heap.cj j o ah).lt I⟩;refine⟨λi=>(M.tmps i).ext hs.ext,⟨λj o ah=>?_,λj ex o bM b a7 h1 A an cV=>?_,λj o b ah an=>?_⟩,M.size,M.defers,?_⟩;rcases D7 ah with⟨k,_,h⟩|⟨aa,h⟩;exact nh.cj k o h;exact(M.heap.cj j o h).ix hs.ext λb I=>hs.ix b (qC j o aa h b I).2 (qC j o aa h b I).1;rcases D7 h1 with⟨k,Y,h⟩|⟨aa,h⟩<;>rcases D7 A with⟨bz,fH,bB⟩|⟨gi,bB⟩;exact nh.inj k bz o bM b (λe=>a7 ((wN hm k j bz ex Y fH).1 e)) h bB an cV;obtain⟨Z,aG⟩:=qC ex bM gi bB b cV;rcases nh.cI k o b h an with bb|bb;exact Z bb;omega;obtain⟨Z,aG⟩:=qC j o aa h b an;rcases nh.cI bz bM b bB cV with bb|bb;exact Z bb;omega;exact M.heap.inj j ex o bM b a7 h bB an cV;rcases D7 ah with⟨k,_,h⟩|⟨aa,h⟩;rcases nh.cI k o b h an with bb|bb;exact tM b bb;exact .inr (avc M.step.ext.size bb);exact M.heap.cI j o b h an;exact M.step.trans hs λb I bN=>aym
def LD(P:Program)(B:World)(ax:List bx)(z:au)(dst:Option Tmp)(op:Op)(K:au->Prop):Prop :=
 match op with
 |.call c=>match c.callee,c.args.toList with
  |.value f,args=>nO P B ax z dst op K\/opn true (z.ba f) λf=>match f with
   |.fn (.func b8) first cu=>zt true z args λwE=>∃(gZ:List D) (m:List (Nat×Nat)) (a8:D->bE->Prop),c5 P B b8 gZ (gx z.H m) a8/\j0 m=true/\dN (first++wE++cu) gZ/\
     ∀d aP,a8 d aP->∃d',aq d d'/\K (({t:=z.t,H:=qB z.H aP m}:au).put dst d')
   |_=>False
  |_,_=>nO P B ax z dst op K
 |op=>nO P B ax z dst op K
theorem ab4{ax:List bx}(hT:df P ax)(M:bH U w C z a){o:Oper}(N:iQ am o.dst=true){K:au->Prop}(G:LD P B ax z o.dst o.op K)(a8:Exit->Act->World->Prop):o.wp P a w (λbw w'=>∃aA aR,K aA/\bH U w' aR aA bw) a8:=by obtain⟨dst,op,type,pos,after,guard⟩:=o;unfold LD at G;cases op<;>simp only at G;(case call c =>obtain⟨callee,args,argTypes⟩:=c;simp only at G;split at G;rename_i f;rcases G with G|G;exact tL hT M N G a8;replace G:=iR G;obtain⟨abO,G,Lp⟩:=G;split at G;(rename_i b8 first cu;replace G:=DM G;obtain⟨wE,G,has⟩:=G;obtain⟨gZ,m,Q',hc,hm,dO,hK⟩:=G;obtain⟨fM,he,X,h1,A⟩:=(Lp rfl w C _ (cG M.tmps f)).u3;have Z:=has rfl w C a.eval (λx _=>cG M.tmps x);have aG:=dO.rv ((h1.append Z).append A);obtain⟨fn,jg,rA,l'⟩:=hc.1;have I:fn.body.isNone=false:=by cases I:fn.body<;>simp[I]at rA⊢);(have cY:(execOp a.eval ⟨dst,.call ⟨.value f,args,argTypes⟩,type,pos,after,guard⟩).run P w=.ok (.enter b8 ⟨fM++args.toList.map a.eval++he⟩) w:=axq);simp only[Oper.wp,cY,Oper.upon];(exact(R_ M hm hc aG N hK).mono λe w' ⟨v,ao,h⟩=>by subst ao;exact h);exact G.elim;exact tL hT M N G a8);all_goals exact tL hT M N G a8
def Bw(P:Program)(B:World)(ax:List bx)(am:Nat):List Oper->au->(au->Prop)->Prop
 |[],z,K=>K z
 |⟨dst,op,_,_,_,guard⟩::rest,z,K=>cond (iQ am dst) (match guard with
  |none=>LD P B ax z dst op λaA=>Bw P B ax am rest aA K
  |some _=>False) False
theorem LF{ax:List bx}(hT:df P ax){U:b7 P B am}{ops:Array Oper}{a8:Exit->Act->World->Prop}{K:au->Prop}(f7:∀aA bw w' aR,K aA->bH U w' aR aA bw->a8 .normal bw w'): ∀{l:List Oper} {z:au} (_:Bw P B ax am l z K) {a:Act} {w:World} {C:Nat->Nat} (_:bH U w C z a),wpList P ops a8 l a w
 |[],_,G,_,_,_,M=>f7 _ _ _ _ G M
 |o::rest,z,G,a,w,C,M=>by change cond (iQ am o.dst) _ False at G;replace G:=h_ G;obtain⟨N,G⟩:=G;unfold wpList;split at G;rename_i aW;rw[atI (by simp[Region.wanted,aW])];exact .inl (Oper.wp_mono (λbw w' ⟨aA,aR,h1,A⟩=>LF hT f7 h1 A) (ab4 hT M N G a8));exact G.elim
theorem W.R'{ax:List bx}(hT:df P ax)(G:Bw P B ax am ops.toList z (K .normal)):W U (.region id ops false) z K :=
 ⟨λ_ _ _ M=>wp_region_list (LF hT (λaA _ _ aR hK bN=>⟨.normal,aA,aR,rfl,hK,bN⟩) G M)⟩
theorem W.Sa{ax:List bx}(hT:df P ax)(n:Nat)(hm:P.follows .mixedOrders=true)(gc:Bs ops n=true)
  (G:jD P B ax am ops (ops.toList.take n) z λaA=>Bw P B ax am (ops.toList.drop n) aA (K .normal)):W U (.region id ops true) z K :=
 ⟨λa w C M=>by
  obtain⟨l⟩:=ops;simp only[Bs,Region.lexTailB,atN,aut]at gc;obtain⟨⟨⟨⟨⟨R8,aw⟩,hs⟩,hc⟩,D1⟩,nR⟩:=gc;have wM:n<l.length:=by simpa using aw
  have iV:(l.take n).length=n:=by simp;omega
  have jI:(l.drop n).length=(⟨l⟩:Array Oper).size-n:=by simp
  have D2:HeadInv .any ⟨l⟩ n (Array.replicate (⟨l⟩:Array Oper).size false) :=
   ⟨by simp,λj ng _ al=>(ayj),λt _ av=>getD_in (by simpa using av) (getD_replicate_false _ _)⟩
  have H:=Hm (md:=.any) (g:=(⟨l⟩:Array Oper).size-n) (r:=[]) (am:=am) (a8:=λaA=>Bw P B ax am (l.drop n) aA (K .normal)) hT hs hc aw (l.take n) 0 _ z (λj aa=>by
   have gi:j<n:=by rw[iV]at aa;exact aa
   simp[gi]) nR (by simpa using iV) D2 (by rw[iV];exact D1) (by rw[auG];exact G)
  refine wp_region_any hm ?_
  have:=Hl (U:=U) (Q':=λe bw w'=>∃c6 aA aR,e=cJ.f5 c6/\K c6 aA/\bH U w' aR aA bw) (g:=(⟨l⟩:Array Oper).size-n) (λbg aA bw w' aR bN a1=>by
   have:=wpAny_of_seq (md:=.any) (ops:=⟨l⟩) (P:=P) (Q':=λe bw w'=>∃c6 aA aR,e=cJ.f5 c6/\K c6 aA/\bH U w' aR aA bw) (l.drop n) n bg bw w' (λj=>by simp[avM]) (by rw[jI];exact a1.1)
    (LF (l:=l.drop n) hT (λD3 _ _ lD hK D4=>⟨.normal,D3,lD,rfl,hK,D4⟩) (show Bw P B ax am (l.drop n) aA (K .normal)from a1.2) bN)
   rwa [jI]at this) _ _ z a _ C M.drew H
  rw[iV,show n+((⟨l⟩:Array Oper).size-n)=(⟨l⟩:Array Oper).size by omega]at this
  exact this⟩
def D8(ax:List bx)(kL:List ResultVar)(a8:D->bE->Prop):cJ->au->Prop
 |.exit _,_=>False
 |.normal,z=>∃d,zJ ax z kL d/\a8 d z.H
 |.ret,z=>∃d,zJ ax z kL d/\a8 d z.H
variable{body:Code}
theorem c5.intro{ax:List bx}(hT:df P ax){fn:Func}{H:bE}(M:P.funcs[f]?=some fn)(I:fn.body=some body)(aw : (fn.name == "runtime.NumGoroutine") = false)(pY : fn.ntmps = am)(al : Nat.ble ds.length am = true)(h : ∀U : b7 P B am,W U body (entry ds H) (D8 ax fn.results.toList a8)): c5 P B f ds H a8 := by refine⟨⟨fn,M,by simp[I],aw⟩,λw C args Ft pS qD hH ae=>?_⟩;have mG:=aul al;have hlen:=ae.1;let U:b7 P B am:=⟨w,C,Ft,pS,qD⟩;refine calls_of_wp M I ?_;(have h8:bH U w C (entry ds H) {tmps:=⟨args⟩++Array.replicate (fn.ntmps-(⟨args⟩:Array Value).size) undef,defers:=[]}:=by refine⟨λi=>?_,⟨hH.cj,hH.inj,λs o b ah an=>.inl (hH.cI s o b ah an)⟩,by simp[pY];omega,rfl,.refl _ _ _⟩;exact axl);refine wp_mono ((h U).run _ w C h8) ?_;rintro e bw w' ⟨c6,aA,aR,rfl,hK,bN⟩;(have va:(∃d,zJ ax aA fn.results.toList d/\a8 d aA.H)->bw.defers=[]/\∃v,(results fn bw.tmps).run P w'=.ok v w'/\∃c9 d aR aP,Ending.returned v=.returned c9/\a8 d aP/\bh w' aR d c9/\c_ Ft w C w' aR/\l6 (λb=>Ft b\/w.heap.size<=b) w' aR aP:=by rintro⟨d,Bv,f7⟩;obtain⟨v,X,eQ⟩:=R9 (P:=P) hT bN.tmps bN.heap Bv;exact⟨bN.defers,v,X,v,d,aR,aA.H,rfl,f7,eQ,bN.step,bN.heap⟩);cases c6 with|normal=>exact va hK|ret=>exact va hK|exit id=>exact hK.elim
theorem c5.mono{f:FuncId}{ds:List D}{H:bE}{a8 Q':D->bE->Prop}(h:c5 P B f ds H a8)(G:∀d H,a8 d H->Q' d H):c5 P B f ds H Q' :=
 ⟨h.1,λw C args Ft h1 A Z aG=>(h.2 w C args Ft h1 A Z aG).mono λ_ _ ⟨v,d,aR,aP,ao,f7,ae⟩=>⟨v,d,aR,aP,ao,G d aP f7,ae⟩⟩
def LG(d:D)(k:Nat):Option (List D) :=
 match d with
 |.bj=>some []
 |.Q .dV bz xs=>cond (Nat.beq k bz) (some xs) none
 |_=>none
theorem bH.own{w:World}{C:Nat->Nat}{a:Act}(M:bH U w C z a)(s k e:Nat){j:Nat}{xs:List D}(N:LG (z.t j) k=some xs): ∃v,bH U w C {t:=λi=>cond (Nat.beq i j) (.Q (.own s v) k xs) (z.t i),H:=λi=>cond (Nat.beq i s) (some (.own v xs.length k e)) (z.H i)} a:=by have aa:=M.tmps j;(have key:∀v,a.tmps.getD j undef=v->bh w C (.Q (.own s v) k xs) v->(∃bw n,v=.slice bw n n/\n=xs.length/\n<=maxLen)->bH U w C {t:=λi=>cond (Nat.beq i j) (.Q (.own s v) k xs) (z.t i),H:=λi=>cond (Nat.beq i s) (some (.own v xs.length k e)) (z.H i)} a:=by rintro v X ae ⟨bw,n,rfl,rfl,hm⟩;(have tN:∀b,¬(aJ.own (Value.slice bw xs.length xs.length) xs.length k e).ef b:=by rintro b ⟨o,cap,h1,A⟩;injection h1 with _ _ Z;omega);refine⟨λi=>?_,⟨λbo o ah=>?_,λfa gw dj dn b a7 h1 A an cV=>?_,λbo o b ah an=>?_⟩,M.size,M.defers,M.step⟩;dsimp only;(cases I:Nat.beq i j with|true=>have:=auc I;subst this;rw[avq,X];exact ae|false=>exact M.tmps i);dsimp only at ah;(cases I:Nat.beq bo s with|true=>rw[I]at ah;cases ah;exact⟨bw,xs.length,rfl,atQ _,hm,λh=>absurd h atw⟩|false=>rw[I]at ah;exact M.heap.cj bo o ah);dsimp only at h1 A;(cases mK:Nat.beq fa s with|true=>rw[mK]at h1;cases h1;exact tN b an|false =>(cases g0:Nat.beq gw s with|true=>rw[g0]at A;cases A;exact tN b cV|false=>rw[mK]at h1;rw[g0]at A;exact M.heap.inj fa gw dj dn b a7 h1 A an cV));dsimp only at ah;cases I:Nat.beq bo s with|true=>rw[I]at ah;cases ah;exact(tN b an).elim|false=>rw[I]at ah;exact M.heap.cI bo o b ah an);unfold LG at N;split at N;rename_i ao;rw[ao]at aa;cases N;refine⟨_,key _ rfl ?_ ?_⟩;rw[aa.xP];exact .iP _ _ none rfl;rw[aa.xP];exact⟨none,0,rfl,rfl,at4 _⟩;rename_i bz a' ao;rw[ao]at aa;(cases I:Nat.beq k bz with|false=>rw[I]at N;cases N|true =>rw[I]at N;cases N;have:=auc I;subst this;generalize X:a.tmps.getD j undef=v at aa;refine⟨v,key v X ?_ ?_⟩;(cases aa with|iP t k a av=>exact .iP _ _ a rfl|Q t k xs b o cap g av I hc hm Y de ga ee h=>exact .Q _ k xs b o cap g rfl I hc hm Y de ga ee h);(cases aa with|iP t k a av=>exact⟨a,0,rfl,rfl,at4 _⟩|Q t k xs b o cap g av I hc hm Y de ga ee h =>obtain⟨bw,n,aw⟩:=av;injection aw with h1 A Z;exact⟨_,xs.length,by rw[Z,A],rfl,by omega⟩));cases N
theorem W.own(j s k e:Nat){xs:List D}{c:Code}(N:LG (z.t j) k=some xs)
  (h:∀v,W U c {t:=λi=>_root_.cond (Nat.beq i j) (.Q (.own s v) k xs) (z.t i),H:=λi=>_root_.cond (Nat.beq i s) (some (.own v xs.length k e)) (z.H i)} K):W U c z K :=
 ⟨λa w C M=>by obtain⟨v,fI⟩:=M.own s k e N;exact(h v).run a w C fI⟩
def tO(z:au):List (Nat×Nat)->List (Nat×aJ)->Prop
 |[],[]=>True
 |(k,s)::m,(bz,o)::hs=>k=bz/\z.H s=some o/\tO z m hs
 |_,_=>False
theorem tO.aL:∀{m:List (Nat×Nat)} {hs:List (Nat×aJ)},tO z m hs->∀k o,aL hs k=some o->∃s,(k,s)∈m/\z.H s=some o
 |[],[],_,k,o,h=>by cases h
 |(bz,s)::m,(arj,bM)::hs,h,k,o,al=>by obtain⟨rfl,A,Z⟩:=h;simp only[Go.bR.aL]at al;cases I:Nat.beq k bz with|true=>rw[I]at al;cases al;have:=auc I;subst this;exact⟨s,atU,A⟩|false=>rw[I]at al;obtain⟨bo,aG,bb⟩:=tO.aL Z k o al;exact⟨bo,atY _ aG,bb⟩
 |[],_::_,h,_,_,_=>h.elim
 |_::_,[],h,_,_,_=>by cases h
structure nS (z:au) (l:List (Nat×D)) (hs:List (Nat×aJ)) (m:List (Nat×Nat)):Prop where
 t:jC z l
 ok:j0 m=true
 h:tO z m hs
theorem bH.Ho{l:List (Nat×D)}(h:bH U w C z a)(Y:nS z l hs m):bH U w C (hf l hs) a:=by obtain⟨h1,hm,A⟩:=Y;refine⟨λi=>(h1.aL i).le _ _ _ (h.tmps i),⟨λs o ah=>?_,λs bo o bM b aw Z aG=>?_,λs o b ah=>?_⟩,h.size,h.defers,h.step⟩;obtain⟨bo,_,bb⟩:=A.aL s o ah;exact h.heap.cj bo o bb;obtain⟨k,Y,bb⟩:=A.aL s o Z;obtain⟨bz,fH,cL⟩:=A.aL bo bM aG;exact h.heap.inj k bz o bM b (λe=>aw ((wN hm s k bo bz Y fH).2 e)) bb cL;obtain⟨bo,_,bb⟩:=A.aL s o ah;exact h.heap.cI bo o b bb
theorem W.fb(l:List (Nat×D))(hs:List (Nat×aJ))(m:List (Nat×Nat))(h1:nS z l hs m)(h:W U c (hf l hs) K):W U c z K :=
 ⟨λa w C M=>h.run a w C (M.Ho h1)⟩
def lI(l:α->List (Nat×D))(hs:α->List (Nat×aJ))(K:cJ->au->Prop):cJ->au->Prop
 |.normal,z=>∃x m,nS z (l x) (hs x) m
 |.exit id,z=>K (.exit id) z
 |.ret,z=>K .ret z
theorem W.lI{a b:Code}{α:Type}(l:α->List (Nat×D))(hs:α->List (Nat×aJ))(h:W U a z (lI l hs K))(bB:∀x,W U b (hf (l x) (hs x)) K):W U (.seq a b) z K :=
 .seq (h.mono λe aA Y=>by
  cases e with
  |normal=>obtain⟨x,m,h1⟩:=Y;exact(bB x).fb _ _ m h1
  |exit id=>exact Y
  |ret=>exact Y)
def ec(l:α->List (Nat×D))(hs:α->List (Nat×aJ))(fx:α->Nat)(x:α)(K:cJ->au->Prop):cJ->au->Prop
 |.normal,z=>∃b1 m,fx b1<fx x/\nS z (l b1) (hs b1) m
 |.exit id,z=>K (.exit id) z
 |.ret,z=>K .ret z
theorem W.ec{c:Code}{α:Type}(l:α->List (Nat×D))(hs:α->List (Nat×aJ))(fx:α->Nat)(ek:α)(m:List (Nat×Nat))(h1:nS z (l ek) (hs ek) m)
  (round:∀x,W U c (hf (l x) (hs x)) (ec l hs fx x K)):W U (.loop c) z K :=
 ⟨λa w C M=>by
  have h8:=M.Ho h1;intro b k aB
  have key:∀n x,fx x=n->∀a w C,bH U w C (hf (l x) (hs x)) a->
    ∃e bw w',(∃c6 aA aR,e=cJ.f5 c6/\K c6 aA/\bH U w' aR aA bw)/\Arrives P (lone (b.at a (.code c::.inLoop c::k)) aB w) b k aB e bw w':=by
   intro n
   induction n using Nat.strongRecOn with
   |_ n aZ =>
    intro x aw a w C M;obtain⟨e,tz,tA,⟨c6,xQ,tB,ao,hK,bN⟩,ow⟩:=(round x).run a w C M b (.inLoop c::k) aB;subst ao
    cases c6 with
    |normal =>
     obtain⟨b1,nT,bf,Z⟩:=hK;obtain⟨Dx,a₂,Dy,Dz,DA⟩:=aZ (fx b1) (aw ▸ bf) b1 rfl tz tA tB (bN.Ho Z);exact⟨Dx,a₂,Dy,Dz,.of_steps (Steps.trans ow (.one step_inLoop)) DA⟩
    |exit id=>exact⟨_,tz,tA,⟨.exit id,xQ,tB,rfl,hK,bN⟩,.pass (x:=.inLoop c) rfl (λ_ _=>.inl (by simp[cJ.f5])) ow⟩
    |ret=>exact⟨_,tz,tA,⟨.ret,xQ,tB,rfl,hK,bN⟩,.pass (x:=.inLoop c) rfl (λ_ _=>.inl (by simp[cJ.f5])) ow⟩
  obtain⟨e,bw,w',G,ow⟩:=key _ ek rfl a w C h8
  exact⟨e,bw,w',G,.of_steps (.one step_loop) ow⟩⟩
theorem aq.own{v:Value}{k:Nat}{xs:List D}(s bo:Nat):aq (.Q (.own s v) k xs) (.Q (.own bo v) k xs) :=
 ⟨λw C aj h=>by
  cases h with
  |iP t k a av=>exact .iP _ _ a av
  |Q t k xs b o cap g av I hc hm Y de ga ee h=>exact .Q _ k xs b o cap g av I hc hm Y de ga ee h⟩
theorem aq.mL{t:iv}:aq (.Q t k xs) (.Q .none k xs):=aq.iw _
theorem aq.nil:aq .bj (.Q .none k []):=⟨λw C aj h=>by rw[h.xP];exact .iP _ _ none trivial⟩
theorem aq.box{s bo b o:Nat}:aq (.box s b o) (.box bo b o):=⟨λw C aj h=>by rw[h.wC];exact .box _ _ _⟩
theorem c_.below(h:Below w.heap.size w w'):c_ (λ_=>False) w C w' C :=
 ⟨⟨h.size,λ_ _=>atQ _,λb o I _=>by simp only[World.cell?,h.block b I]⟩,h.os,h.tape,h.output,λb I _=>⟨h.block b I,rfl⟩⟩
def D9:D->Option Value
 |.bool b=>some (.bool b)
 |.int k n=>some (.int k n)
 |.O s=>some (.string ⟨⟨s⟩⟩)
 |.ai v=>some v
 |_=>none
def Bx:List D->Option (List Value)
 |[]=>some []
 |d::r=>match D9 d,Bx r with
  |some v,some vs=>some (v::vs)
  |_,_=>none
theorem ab5(h:D9 d=some v)(ae:bh w C d aj):aj=v:=by cases d<;>simp only[D9,aus,reduceCtorEq]at h;subst h;exact ae.hL;subst h;exact ae.fw;subst h;exact ae.kD;subst h;exact ae.f4
theorem LH{w:World}{C:Nat->Nat}:∀{ds:List D} {vs dk:List Value},Bx ds=some vs->c' w C ds dk->dk=vs
 |[],vs,dk,h,ae=>by cases h;have:=ae.1;cases dk with|nil=>rfl|cons _ _=>simp at this
 |d::r,vs,dk,h,ae=>by simp only[Bx]at h;split at h;rename_i v fW h1 A;cases h;(cases dk with|nil=>have:=ae.1;simp at this|cons aj dk =>have Z:dk=fW:=LH (w:=w) (C:=C) A ⟨by have:=ae.1;simpa using this,λi d v Z aG=>ae.2 (i+1) d v (by simpa using Z) (by simpa using aG)⟩;rw[ab5 h1 (ae.2 0 d aj rfl rfl),Z]);cases h
theorem mI.zK{vs:List Value}(hc:Bc P f)(ha:Bx ds=some vs)
  (h:∀w,pK B w->Calls P f ⟨vs⟩ w λe w'=>∃v,e=.returned v/\(∀C,bh w' C d v)/\Below w.heap.size w w'):mI P B f ds d :=
 ⟨hc,λw C args I ae=>by
  rw[LH ha ae]
  exact(h w I).mono λe w' ⟨v,ao,X,hs⟩=>⟨v,C,ao,X C,c_.below hs⟩⟩
theorem mI.pure{vs:List Value}(hc:Bc P f)(ha:Bx ds=some vs)(N:D9 d=some v)(h:∀w,pK B w->Calls P f ⟨vs⟩ w λe w'=>e=.returned v/\w'=w):mI P B f ds d:=by(have eQ:∀w C,bh w C d v:=λw C=>by cases d<;>simp only[D9,aus,reduceCtorEq]at N<;>subst N<;>constructor);exact .zK hc ha λw I=>(h w I).mono λe w' ⟨ao,cz⟩=>by subst cz;exact⟨v,ao,λC=>eQ _ C,.refl _ _⟩
theorem mI.newRow{vs:List Value}{e:TypeId}(hc:Bc P f)(ha:Bx ds=some vs)
  (Y:∀x∈xs,x.cells.length=k) (hm:xs.length<=maxLen) (an:∀w C,c' w C (b2 xs) dk) (h1:∀aj∈dk,aj.oneCell'=true)
  (h:∀w,pK B w->Calls P f ⟨vs⟩ w λoy w'=>oy=.returned (.slice (some ⟨w.heap.size,0,none⟩) xs.length xs.length)/\w'=w.alloc (.cells ⟨dk⟩ e)):mI P B f ds (.Q .dV k xs) :=
 ⟨hc,λw C args I ae=>by
  rw[LH ha ae]
  exact(h w I).mono λoy w' ⟨ao,cz⟩=>by
   subst cz
   exact⟨_,gv C w.heap.size (xs.length*k),ao,He Y (atQ _) hm (λj d N=>by
    obtain⟨al,aW⟩:=an w C;have aa:j<dk.length:=by have:=(aun.1 N).1;omega
    exact⟨dk[j],by simp[aa],aW j d _ N (by simp[aa]),h1 _ (atO aa)⟩) ⟨_,_,rfl⟩,c_.alloc _ _ _ _ _⟩⟩
theorem dN.refl:∀ds:List D,dN ds ds
 |[]=>trivial
 |d::r=>⟨.refl d,dN.refl r⟩
theorem W.gQ(l:List (Nat×D))(hs:List (Nat×aJ))(m:List (Nat×Nat))(h:nS z l hs m)(Y:K .ret (hf l hs)):W U .ret z K :=
 W.fb l hs m h (W.ret Y)
structure af (P:Program) (B:World) (am:Nat) (z:au) (dst:Option Tmp) (op:Op) (K:au->Prop):Prop where
 run:∀(U:b7 P B am) (w:World) (C:Nat->Nat) (a:Act),bH U w C z a->iQ am dst=true->∀(type:TypeId) (pos:String) (after:Array Edge) (a8:Exit->Act->World->Prop),
  (⟨dst,op,type,pos,after,none⟩:Oper).wp P a w (λbw w'=>∃aA aR,K aA/\bH U w' aR aA bw) a8
def ab6:Op->Bool
 |.call c=>match c.callee with
  |.builtin b=>match b with
   |.len|.min|.max=>false
   |_=>true
  |_=>true
 |.binOp _ _ _ y _=>match y with
  |.const v=>match v with
   |.slice a _ _=>a.isNone
   |_=>false
  |_=>false
 |.indexAddr ..|.load ..|.store ..|.convert ..|.makeSlice ..|.makeMap ..|.lookup ..|.mapUpdate ..|.slice ..|.range ..|.next ..=>true
 |_=>false
def D_(P:Program)(B:World)(am:Nat)(ax:List bx)(z:au)(dst:Option Tmp)(op:Op)(K:au->Prop):Prop :=
 match ab6 op with
 |true=>nO P B ax z dst op K\/af P B am z dst op K
 |false=>nO P B ax z dst op K
theorem Sb{ax:List bx}(hT:df P ax)(M:bH U w C z a){o:Oper}(aW:o.guard=none)(N:iQ am o.dst=true){K:au->Prop}(G:D_ P B am ax z o.dst o.op K)(a8:Exit->Act->World->Prop):o.wp P a w (λbw w'=>∃aA aR,K aA/\bH U w' aR aA bw) a8:=by unfold D_ at G;split at G;rcases G with G|G;exact tL hT M N G a8;obtain⟨dst,op,type,pos,after,guard⟩:=o;simp only at aW;subst aW;exact G.run U w C a M N type pos after a8;exact tL hT M N G a8
def By(P:Program)(B:World)(ax:List bx)(am:Nat):List Oper->au->(au->Prop)->Prop
 |[],z,K=>K z
 |⟨dst,op,_,_,_,guard⟩::rest,z,K=>cond (iQ am dst) (match guard with
  |none=>D_ P B am ax z dst op λaA=>By P B ax am rest aA K
  |some _=>False) False
theorem LI{ax:List bx}(hT:df P ax){U:b7 P B am}{ops:Array Oper}{a8:Exit->Act->World->Prop}{K:au->Prop}(f7:∀aA bw w' aR,K aA->bH U w' aR aA bw->a8 .normal bw w'): ∀{l:List Oper} {z:au} (_:By P B ax am l z K) {a:Act} {w:World} {C:Nat->Nat} (_:bH U w C z a),wpList P ops a8 l a w
 |[],_,G,_,_,_,M=>f7 _ _ _ _ G M
 |o::rest,z,G,a,w,C,M=>by change cond (iQ am o.dst) _ False at G;replace G:=h_ G;obtain⟨N,G⟩:=G;unfold wpList;split at G;rename_i aW;rw[atI (by simp[Region.wanted,aW])];exact .inl (Oper.wp_mono (λbw w' ⟨aA,aR,h1,A⟩=>LI hT f7 h1 A) (Sb hT M aW N G a8));exact G.elim
theorem W.D'{ax:List bx}(hT:df P ax)(G:By P B ax am ops.toList z (K .normal)):W U (.region id ops false) z K :=
 ⟨λ_ _ _ M=>wp_region_list (LI hT (λaA _ _ aR hK bN=>⟨.normal,aA,aR,rfl,hK,bN⟩) G M)⟩
theorem W.zL{ax:List bx}(hT:df P ax)(n:Nat)(hm:P.follows .mixedOrders=true)(gc:Bs ops n=true)
  (G:jD P B ax am ops (ops.toList.take n) z λaA=>By P B ax am (ops.toList.drop n) aA (K .normal)):W U (.region id ops true) z K :=
 ⟨λa w C M=>by
  obtain⟨l⟩:=ops;simp only[Bs,Region.lexTailB,atN,aut]at gc;obtain⟨⟨⟨⟨⟨R8,aw⟩,hs⟩,hc⟩,D1⟩,nR⟩:=gc;have wM:n<l.length:=by simpa using aw
  have iV:(l.take n).length=n:=by simp;omega
  have jI:(l.drop n).length=(⟨l⟩:Array Oper).size-n:=by simp
  have D2:HeadInv .any ⟨l⟩ n (Array.replicate (⟨l⟩:Array Oper).size false) :=
   ⟨by simp,λj ng _ al=>(ayj),λt _ av=>getD_in (by simpa using av) (getD_replicate_false _ _)⟩
  have H:=Hm (md:=.any) (g:=(⟨l⟩:Array Oper).size-n) (r:=[]) (am:=am) (a8:=λaA=>By P B ax am (l.drop n) aA (K .normal)) hT hs hc aw (l.take n) 0 _ z (λj aa=>by
   have gi:j<n:=by rw[iV]at aa;exact aa
   simp[gi]) nR (by simpa using iV) D2 (by rw[iV];exact D1) (by rw[auG];exact G)
  refine wp_region_any hm ?_
  have:=Hl (U:=U) (Q':=λe bw w'=>∃c6 aA aR,e=cJ.f5 c6/\K c6 aA/\bH U w' aR aA bw) (g:=(⟨l⟩:Array Oper).size-n) (λbg aA bw w' aR bN a1=>by
   have:=wpAny_of_seq (md:=.any) (ops:=⟨l⟩) (P:=P) (Q':=λe bw w'=>∃c6 aA aR,e=cJ.f5 c6/\K c6 aA/\bH U w' aR aA bw) (l.drop n) n bg bw w' (λj=>by simp[avM]) (by rw[jI];exact a1.1)
    (LI (l:=l.drop n) hT (λD3 _ _ lD hK D4=>⟨.normal,D3,lD,rfl,hK,D4⟩) (show By P B ax am (l.drop n) aA (K .normal)from a1.2) bN)
   rwa [jI]at this) _ _ z a _ C M.drew H
  rw[iV,show n+((⟨l⟩:Array Oper).size-n)=(⟨l⟩:Array Oper).size by omega]at this
  exact this⟩
variable{op:Op}
theorem af.val{K:au->Prop}
  (h:∀(U:b7 P B am) (w:World) (C:Nat->Nat) (a:Act),bH U w C z a->∀(type:TypeId) (pos:String) (after:Array Edge),∃v w' aR aA d,
   (execOp a.eval ⟨dst,op,type,pos,after,none⟩).run P w=.ok (.value v) w'/\bH U w' aR aA a/\bh w' aR d v/\K (aA.put dst d)):af P B am z dst op K :=
 ⟨λU w C a M N type pos after a8=>by
  obtain⟨v,w',aR,aA,d,cY,fI,ae,hK⟩:=h U w C a M type pos after;simp only[Oper.wp,cY,Oper.upon]
  exact⟨_,aR,hK,fI.put N ae⟩⟩
theorem af.unit{K:au->Prop}
  (h:∀(U:b7 P B am) (w:World) (C:Nat->Nat) (a:Act),bH U w C z a->∀(type:TypeId) (pos:String) (after:Array Edge),∃w' aR aA,
   (execOp a.eval ⟨dst,op,type,pos,after,none⟩).run P w=.ok .skip w'/\bH U w' aR aA a/\K (aA.put dst .undef)):af P B am z dst op K :=
 ⟨λU w C a M N type pos after a8=>by
  obtain⟨w',aR,aA,cY,fI,hK⟩:=h U w C a M type pos after;simp only[Oper.wp,cY,Oper.upon]
  exact⟨_,aR,hK,fI.put N .undef⟩⟩
theorem af.call{z:au}{dst:Option Tmp}{K:au->Prop}{f:Operand}{args:Array Operand}{mM:Array TypeId}{b8:FuncId}{first cu:List D}(M:z.ba f=.fn (.func b8) first cu)
  (gZ:List D) (m:List (Nat×Nat)) {a8:D->bE->Prop} (hc:c5 P B b8 gZ (gx z.H m) a8) (hm:j0 m=true) (dO:dN (first++args.toList.map z.ba++cu) gZ)
  (hK:∀d aP,a8 d aP->∃d',aq d d'/\K (({t:=z.t,H:=qB z.H aP m}:au).put dst d')):af P B am z dst (.call ⟨.value f,args,mM⟩) K :=
 ⟨λU w C a mc N type pos after Q'=>by
  have o7:=cG mc.tmps f;rw[M]at o7;obtain⟨fM,he,X,h1,A⟩:=o7.u3
  have Z:c' w C (args.toList.map z.ba) (args.toList.map a.eval) :=
   ⟨by simp,λi d v N X=>by
    simp only[aud]at N X
    cases F:args.toList[i]? with
    |none=>rw[F]at N;cases N
    |some x=>rw[F]at N X;cases N;cases X;exact cG mc.tmps x⟩
  have aG:=dO.rv ((h1.append Z).append A);obtain⟨fn,jg,rA,l'⟩:=hc.1;have I:fn.body.isNone=false:=by cases I:fn.body<;>simp[I]at rA⊢
  have cY:(execOp a.eval ⟨dst,.call ⟨.value f,args,mM⟩,type,pos,after,none⟩).run P w=.ok (.enter b8 ⟨fM++args.toList.map a.eval++he⟩) w:=by
   simp only[execOp,resolve,X,Deferred.ofValue,Sem.run_bind,Sem.run_pure,Result.andThen_ok,invoke,callFunc,run_program,jg,l',I,auU,avs];congr 2
   apply avF;simp
  simp only[Oper.wp,cY,Oper.upon]
  exact(R_ mc hm hc aG N hK).mono λe w' ⟨v,ao,h⟩=>by subst ao;exact h⟩
variable{K:au->Prop}{ax:List bx}
def hW(v:Value)(off:Nat):Value :=
 match v with
 |.slice (some ⟨b,o,_⟩) _ _=>.pointer (some ⟨b,o+off,none⟩)
 |_=>undef
variable{e:Nat}
theorem kf.pos(h:kf w C v xs k e)(hi:i<xs.length):∃b cap vs,v=.slice (some ⟨b,0,none⟩) xs.length cap/\xs.length<=cap/\cap<=maxLen/\(∀x∈xs,x.cells.length=k)/\w.heap[b]?=some (.cells vs e (0,0))/\vs.size=cap*k/\C b=0/\∀(j:Nat) d,(b2 xs)[j]?=some d->∃aj,vs[j]?=some aj/\bh w C d aj/\aj.oneCell'=true:=by obtain⟨a,cap,X,hc,hm,Y,_,cz⟩:=h;obtain⟨b,vs,ha,I,hs,de,ae⟩:=cz atw;subst ha;exact⟨b,cap,vs,X,hc,hm,Y,I,hs,de,ae⟩
variable{x fV:Operand}{Ea:IntKind}{cc:bx}
theorem af.ey(hT:df P ax)(s:Nat){bI:Nat}{i:Int}(F:z.ba x=.ai v)(hs:z.H s=some (.row v xs k e))(hi:z.ba fV=.int Ea i)
  (av:dx ax t=some cc) (b6:cc.kind=.slice bI) (fq:dx ax bI=some aF) (lJ:aF.aC=k) (h0:0<=i) (h1:i<xs.length) (hK:K (z.put dst (.ai (hW v (i.toNat*k))))):af P B am z dst (.indexAddr t x fV) K :=
 .val λU w C a M type pos after=>by
  obtain⟨c2,rfl⟩:=hT.get av;obtain⟨fo,rfl⟩:=hT.get fq;have an:=c2.kg b6;have X:=cG M.tmps x;rw[F]at X
  have Eb:=cG M.tmps fV;rw[hi]at Eb
  obtain⟨b,cap,vs,rfl,_⟩:=kf.pos (i:=i.toNat) (M.heap.cj s _ hs) atw;refine⟨_,w,C,z,_,?_,M,.ai _,hK⟩;simp[execOp,X.f4,Eb.fw,Instr.indexAt,asIntOf,run_underlying an,h0,h1,fo.size,o0,lJ,hW]
theorem af.me(hT:df P ax)(s:Nat)(F:z.ba x=.ai (hW v (i*k)))(hs:z.H s=some (.row v xs k e))(av:dx ax t=some cc){y:D}
  (hy:xs[i]?=some y) (al:DF cc k 0 y λd=>K (z.put dst d)):af P B am z dst (.load t x) K :=
 .val λU w C a M type pos after=>by
  obtain⟨c2,rfl⟩:=hT.get av;have X:=cG M.tmps x;rw[F]at X
  obtain⟨b,cap,vs,rfl,_,_,Y,I,hsz,_,ae⟩:=kf.pos (M.heap.cj s _ hs) (e7 hy);obtain⟨d,hK,N⟩:=K8 c2 al
  obtain⟨aj,an,LJ⟩:=N w C b (0+i*k) (λj=>vs.getD (i*k+j) undef) (Y y (at1 hy)) (λj d N=>by
   have aa:j<k:=by rw[<-Y y (at1 hy)];exact e7 N
   obtain⟨aj,h1,A,_⟩:=ae (i*k+j) d (by rw[wH Y hy aa];exact N);refine⟨?_,?_⟩
   ·simp only[World.cell?,I,auu];simp[h1,avt]
   simp[avt,h1,A])
  refine⟨aj,w,C,z,d,?_,M,LJ,hK⟩;simp only[hW]at X;simp only[av']at an;simp only[execOp,X.f4,Sem.run_bind,an,Result.andThen_ok,Sem.run_pure]
theorem af.sF(hT:df P ax)(s:Nat){bI:Nat}(F:z.ba x=.ai v)(hs:z.H s=some (.row v xs k e))(av:dx ax t=some cc)(b6:cc.kind=.slice bI)
  (hK:K (z.put dst (.int .i64 xs.length))):af P B am z dst (.call ⟨.builtin .len,#[x],#[t]⟩) K :=
 .val λU w C a M type pos after=>by
  obtain⟨c2,rfl⟩:=hT.get av;have an:=c2.kg b6;have X:=cG M.tmps x;rw[F]at X
  obtain⟨bw,cap,rfl,_⟩:=M.heap.cj s _ hs;refine⟨.int .i64 xs.length,w,C,z,_,?_,M,.int _ _,hK⟩;simp[execOp,resolve,invoke,builtin,Builtin.len_,run_underlying an,X.f4,goInt]
theorem D.oz(h:d.one=true):d.cells=[d]:=by cases d<;>first|rfl|cases h
theorem Hp{k:Nat}:∀{xs:List D} (_:∀x∈xs,x.cells.length=k) {i:Nat} {x:D} (_:i<xs.length) (_:x.cells.length=k),b2 (xs.set i x)=(b2 xs).take (i*k)++x.cells++(b2 xs).drop (i*k+x.cells.length)
 |[],_,_,_,h,_=>by simp at h
 |y::a',Y,0,x,_,F=>by have hy:=Y y atU;simp only[List.set_cons_zero,b2,auL,Nat.zero_mul,av4,au6,auu];rw[av1 atw,av7 atw,au6]
 |y::a',Y,i+1,x,h,F=>by have hy:=Y y atU;have h1:=Hp (xs:=a') (λV bC=>Y V (atY _ bC)) (i:=i) (x:=x) (by simpa using h) F;simp only[b2]at h1⊢;simp only[List.set_cons_succ,auL,h1];rw[show(i+1)*k=y.cells.length+i*k by rw[avS,hy];omega,List.take_length_add_append,avH,List.drop_length_add_append];simp[aup]
variable{y:Operand}
theorem af.ni(hT:df P ax)(s:Nat)(F:z.ba x=.ai (hW v (i*1)))(hs:z.H s=some (.row v xs 1 e))(av:dx ax t=some cc)(hsz:cc.aC=1)
  (hi:i<xs.length) (ah:(z.ba y).one=true) (hK:K ((z.bZ s (some (.row v (xs.set i (z.ba y)) 1 e))).put dst .undef)):af P B am z dst (.store t x y) K :=
 .unit λU w C a M type pos after=>by
  obtain⟨c2,rfl⟩:=hT.get av;have X:=cG M.tmps x;rw[F]at X
  have hy:=cG M.tmps y;obtain⟨h1,A⟩:=hy.oz ah;obtain⟨b,cap,vs,rfl,hc,hm,Y,I,fy,de,ae⟩:=kf.pos (M.heap.cj s _ hs) hi;have hS:i+0+(a.eval y).cells.toList.length<=vs.size:=by rw[h1,fy];simp;omega
  have cY:=run_storeCells_at P b i e (a.eval y).cells.toList 0 vs w I hS (by rw[h1];simpa using A);simp only[av']at cY;have a6:=c_.setRow (C:=C) (n:=0) I (aB:=(vs.toList.take i++(a.eval y).cells.toList++vs.toList.drop (i+(a.eval y).cells.toList.length)).toArray) atw (λo ah=>by omega);have fc:=D.oz ah;have x1:=Hp Y hi (x:=z.ba y) (by rw[fc];rfl);have e8:aJ.ef (.row (.slice (some ⟨b,0,none⟩) xs.length cap) xs 1 e) b:=⟨_,cap,rfl,by omega⟩;refine⟨_,_,_,?_,M.bZ a6 (s:=s) (λx F=>ayu) (λbo bM eo a7 c7 an nQ=>?_) λV bC=>?_,hK⟩
  ·simp only[hW,auu,awv]at X;simp only[execOp,X.f4,Instr.storeAt,Instr.sureAddr,Sem.run_bind,Sem.run_pure,Result.andThen_ok,storeVar,c2.size,hsz,h1];rw[h1]at cY;rw[atH aty];exact(atJ (λr=>Result.andThen r λ_ w'=>Result.ok Next.skip w') cY).trans rfl
  ·subst nQ;exact M.heap.inj bo s bM _ eo a7 c7 hs an e8
  cases bC
  refine⟨⟨_,cap,by rw[avd],by simpa using hc,hm,λV bC=>?_,λdE gb=>⟨b,by cases gb;rfl,by simpa using hD I⟩,λ_=>⟨b,_,rfl,setRow_heap w b _ _ e _ I,?_,hr _ _ _,λj d N=>?_⟩⟩,λx F=>?_⟩
  ·rcases avV bC with bC|rfl
   ·exact Y V bC
   rw[fc];rfl
  ·simp only[auI,atP,at7,auV,avx,h1];simp only[awv]at fy;simp;omega
  ·rw[x1,awv,pU _ _ _ (by rw[pI Y,fc];simp;omega)]at N;rw[avA,pU _ _ _ (by simpa using hS)];have ko:(a.eval y).cells.toList.length=(z.ba y).cells.length:=by rw[h1,fc];rfl
   rw[ko];have dm:(b2 xs).length=xs.length:=by rw[pI Y];omega
   by_cases aa:i<=j/\j<i+(z.ba y).cells.length
   ·have oD:j<xs.length:=by have:=aa.2;rw[fc]at this;simp at this;omega
    rw[atI ⟨aa.1,aa.2,by rw[dm];exact oD⟩]at N;rw[atI ⟨aa.1,aa.2,by simp;omega⟩];rw[fc]at N;have ab7:j-i=0:=by have:=e7 N;simpa using this
    rw[ab7]at N⊢;simp only[List.getElem?_cons_zero,aus]at N;subst N;exact⟨a.eval y,by rw[h1];rfl,hy.ext (by rw[ko]at a6;exact a6.ext),A⟩
   rw[atH (λh=>aa ⟨h.1,h.2.1⟩)]at N;rw[atH (λh=>aa ⟨h.1,h.2.1⟩)];obtain⟨aj,Z,aG,bb⟩:=ae j d N;exact⟨aj,by simpa using Z,aG.ext (by rw[ko]at a6;exact a6.ext),bb⟩
  obtain⟨hM,hP,dP,_⟩:=F;simp only[Value.slice.injEq,aus,Addr.mk.injEq]at dP;obtain⟨⟨rfl,_⟩,_⟩:=dP;exact⟨M.heap.cI s _ _ hs e8,.inl rfl⟩
theorem bH.newObj(h:bH U w C z a)(s:Nat){o:Obj}{mN:aJ}(mb:ty (w.alloc o) (gv C w.heap.size 0) mN)(an:∀b,mN.ef b->b=w.heap.size): bH U (w.alloc o) (gv C w.heap.size 0) (z.bZ s (some mN)) a:=by have hs:=c_.alloc (λ_=>False) w C o 0;refine h.bZ hs (λ_ M=>M.elim) (λ_ _ _ _ _ _ M=>M) (λx F=>?_);cases F;refine⟨mb,λb I=>?_⟩;rw[an b I];exact⟨h.DS,.inr (atQ _)⟩
theorem LK{V:D}(ee:V.one=true):∀n,b2 (List.replicate n V)=List.replicate n V
 |0=>rfl
 |n+1=>by have h:=LK ee n;simp only[b2]at h⊢;rw[List.replicate_succ,auL,h,D.oz ee];rfl
variable{hM:Nat}
theorem o8{eo o bM n c vb:Nat}(h:Value.slice (some ⟨b,o,none⟩) n c=Value.slice (some ⟨eo,bM,none⟩) hM vb):eo=b:=by simp only[Value.slice.injEq,aus,Addr.mk.injEq]at h;exact h.1.1.symm
variable{zs:List D}
theorem LL(c2:cc.gh P)(fo:aF.gh P)(b6:cc.kind=.slice aF.t)(w:World)(cq d8:IntKind)(l n:Nat)(al:l<=n)(I:aF.bytes*n<=281474976710656)(aw:n<=9223372036854775807)(bC:aF.zero=some zs): ∃eh:Value,(∀w C,c' w C zs eh.cells.toList)/\zs.length=aF.aC/\(Instr.makeSlice cc.t (.int cq (l:Int)) (.int d8 (n:Int))).run P w=.ok (.slice (some ⟨w.heap.size,0,none⟩) l n) (w.alloc (.cells (madeCells eh.cells (n*aF.aC)) aF.t)):=by obtain⟨i,hi,hsz,o4,nd⟩:=fo.qx;obtain⟨eh,lF,l_,jF⟩:=nd zs bC;refine⟨eh,jF,l_,?_⟩;have ae:=run_make (P:=P) w cc.t aF.t i eh (c2.kg b6) hi lF cq d8 l n atw atw (by rw[o4];(have:((aF.bytes*n:Nat):Int)<=281474976710656:=by omega);rwa [Int.natCast_mul]at this) atw;rw[hsz]at ae;simpa using ae
variable{cq d8:IntKind}
theorem af.x2(hT:df P ax){l c:Operand}{bI n:Nat}{V:D}{s:Nat}(av:dx ax t=some cc)(b6:cc.kind=.slice bI)(fq:dx ax bI=some aF)(bC:aF.zero=some [V])(ee:V.one=true)
  (al:z.ba l=.int cq n) (hc:z.ba c=.int d8 n) (I:aF.bytes*n<=281474976710656) (aw:n<=9223372036854775807)
  (hK:∀v,K ((z.bZ s (some (.row v (List.replicate n V) 1 bI))).put (some s) (.ai v))):af P B am z (some s) (.makeSlice t l c) K :=
 .val λU w C a M type pos after=>by
  obtain⟨c2,rfl⟩:=hT.get av;obtain⟨fo,rfl⟩:=hT.get fq;have o1:=cG M.tmps l;rw[al]at o1
  have sG:=cG M.tmps c;rw[hc]at sG
  obtain⟨eh,jF,l_,cY⟩:=LL c2 fo b6 w cq d8 n n (atQ _) I aw bC
  have LM:∃aj,eh.cells=#[aj]:=by
   have h1:=(jF w C).1;generalize eh.cells=aB at h1⊢;obtain⟨l⟩:=aB
   match l,h1 with
   |[aj],_=>exact⟨aj,rfl⟩
  obtain⟨aj,an⟩:=LM;have eQ:∀w C,bh w C V aj:=λw C=>by have:=(jF w C).2 0 V aj rfl (by rw[an];rfl);exact this
  have LN:=((eQ w C).oz ee).2;have hsz:aF.aC=1:=by rw[<-l_];rfl
  rw[an,hsz,awv]at cY;refine⟨_,_,_,_,_,?_,M.newObj s (mN:=.row (.slice (some ⟨w.heap.size,0,none⟩) n n) (List.replicate n V) 1 aF.t) (o:=.cells (madeCells #[aj] n) aF.t) ?_ ?_,.ai _,hK _⟩
  ·simp only[execOp,o1.fw,sG.fw,Sem.run_bind,cY,Result.andThen_ok,Sem.run_pure]
  ·have h1:∀x∈List.replicate n V,x.cells=[x]:=λx F=>by rw[List.eq_of_mem_replicate F];exact D.oz ee
   refine⟨_,n,by simp,by simp,by simp only[maxLen];omega,λx F=>by rw[h1 x F];rfl,λdE gb=>⟨_,by cases gb;rfl,hD (kH w _)⟩,λ_=>⟨w.heap.size,_,rfl,kH w _,by simp[size_madeCells],hr _ _ _,λj d N=>?_⟩⟩;have dm:=LK ee n;rw[dm]at N;have aa:j<n:=by have:=e7 N;simpa using this
   have LO:d=V:=by simp[aa]at N;exact N.symm
   subst LO;refine⟨aj,?_,eQ _ _,LN⟩;rw[<-ava,toList_madeCells_one];simp[aa]
  rintro b ⟨hM,cap,h,_⟩;exact o8 h
theorem af.LP(hT:df P ax){l c:Operand}{bI n:Nat}{s:Nat}(av:dx ax t=some cc)(b6:cc.kind=.slice bI)(fq:dx ax bI=some aF)(bC:aF.zero=some zs)
  (al:z.ba l=.int cq 0) (hc:z.ba c=.int d8 n) (I:aF.bytes*n<=281474976710656) (aw:n<=9223372036854775807)
  (hK:∀v,K ((z.bZ s (some (.own v 0 aF.aC bI))).put (some s) (.Q (.own s v) aF.aC []))):af P B am z (some s) (.makeSlice t l c) K :=
 .val λU w C a M type pos after=>by
  obtain⟨c2,rfl⟩:=hT.get av;obtain⟨fo,rfl⟩:=hT.get fq;have o1:=cG M.tmps l;rw[al]at o1
  have sG:=cG M.tmps c;rw[hc]at sG
  obtain⟨eh,jF,l_,cY⟩:=LL c2 fo b6 w cq d8 0 n atw I aw bC;refine⟨.slice (some ⟨w.heap.size,0,none⟩) 0 n,_,_,_,_,?_,M.newObj s (mN:=.own (.slice (some ⟨w.heap.size,0,none⟩) 0 n) 0 aF.aC aF.t) (o:=.cells (madeCells eh.cells (n*aF.aC)) aF.t) ?_ ?_,?_,hK _⟩
  ·have h0:((0:Nat):Int)=0:=rfl;rw[h0]at cY;simp only[execOp,o1.fw,sG.fw,Sem.run_bind,cY,Result.andThen_ok,Sem.run_pure]
  ·exact⟨_,n,rfl,by omega,by simp only[maxLen];omega,λ_=>⟨w.heap.size,_,rfl,kH w _,size_madeCells _ _,by rw[hr,Nat.zero_mul]⟩⟩
  ·rintro b ⟨bM,cap,h,_⟩;exact o8 h
  exact .Q _ _ [] w.heap.size 0 n (λ_=>undef) rfl (hD (kH w _)) aty (by simp only[maxLen];omega) (λx F=>by cases F) aty (λj d N=>by simp[b2]at N) (λj d N=>by simp[b2]at N) (λj d N=>by simp[b2]at N)
theorem Ec(C:Nat->Nat)(b n:Nat)(h:C b<=n)(x:Nat):C x<=gv C b n x:=by by_cases e:x=b;subst e;rw[hr];exact h;rw[rx _ _ e];exact atQ _
theorem W.commit{K:cJ->au->Prop}(s:Nat)(hs:z.H s=some (.row v xs k e))(aA:au)
  (av:∀w C,bh w C (.Q (.own s v) k xs) v->∀j aj,bh w C (z.t j) aj->bh w C (aA.t j) aj) (cF:∀j o,aA.H j=some o->(j=s/\o=.own v xs.length k e)\/(j≠s/\z.H j=some o))
  (h:W U c aA K):W U c z K :=
 ⟨λa w C M=>by
  obtain⟨bw,cap,X,hc,hm,Y,eW,cz⟩:=M.heap.cj s _ hs;by_cases h0:0<cap
  ·obtain⟨b,vs,rfl,I,hsz,de,ae⟩:=cz h0;have e8:aJ.ef (.row v xs k e) b:=⟨_,cap,X,h0⟩;have ji:nN w C w (gv C b (xs.length*k)):=⟨atQ _,λx _=>Ec C b _ atw x,λ_ _ _ _=>rfl⟩;have a6:c_ (λx=>x=b) w C w (gv C b (xs.length*k)):=⟨ji,rfl,rfl,rfl,λx _ F=>⟨rfl,rx _ _ F⟩⟩
   have dF:bh w (gv C b (xs.length*k)) (.Q (.own s v) k xs) v:=by
    have:=xU (w:=w) (C:=gv C b (xs.length*k)) (tg:=.own s v) (k:=k) (xs:=xs) (vs:=vs.toList) (b:=b) (e:=e) (kj:=(0,0)) (cap:=cap) I Y hc hm (by rw[hr];exact atQ _)
     (λj d N=>axU) X.symm
    rw[X]at this⊢;exact this
   refine h.run a w (gv C b (xs.length*k)) ⟨λj=>av _ _ dF j _ ((M.tmps j).ext ji),⟨λj o ah=>?_,λj ex o bM x a7 h1 A an cV=>?_,λj o x ah an=>?_⟩,M.size,M.defers,?_⟩
   ·rcases cF j o ah with⟨rfl,rfl⟩|⟨aa,ah⟩
    ·exact⟨_,cap,X,hc,hm,λ_=>⟨b,vs,rfl,I,hsz,hr _ _ _⟩⟩
    exact(M.heap.cj j o ah).ix ji λx F=>⟨rfl,rx _ _ λe=>by subst e;exact M.heap.inj j s o _ x aa ah hs F e8⟩
   ·have key:∀j o,aA.H j=some o->o.ef x->∃dn,z.H j=some dn/\dn.ef x:=λj o ah an=>by
     rcases cF j o ah with⟨rfl,rfl⟩|⟨_,ah⟩
     ·obtain⟨bM,hP,Z,aG⟩:=an;rw[X]at Z;have:=o8 Z;subst this
      exact⟨_,hs,e8⟩
     exact⟨o,ah,an⟩
    obtain⟨dn,Z,aG⟩:=key j o h1 an;obtain⟨lK,bb,cL⟩:=key ex bM A cV;exact M.heap.inj j ex dn lK x a7 Z bb aG cL
   ·rcases cF j o ah with⟨rfl,rfl⟩|⟨_,ah⟩
    ·obtain⟨bM,hP,Z,aG⟩:=an;rw[X]at Z;have:=o8 Z;subst this
     exact M.heap.cI _ _ _ hs e8
    exact M.heap.cI j o x ah an
   refine M.step.trans a6 λx F wO=>?_;subst wO;rcases M.heap.cI s _ _ hs e8 with h1|h1
   ·exact h1
   omega
  have F:xs=[]:=atZ atw;subst F;have hcap:cap=0:=atw
  subst hcap
  have dF:bh w C (.Q (.own s v) k []) v:=by
   cases bw with
   |none=>rw[X];exact .iP _ _ none rfl
   |some dE =>
    obtain⟨b,rfl,I⟩:=eW dE rfl;rw[X];exact .Q _ _ [] b 0 0 (λ_=>undef) rfl I (atQ _) (at4 _) (λx F=>by cases F) aty (λj d N=>by simp[b2]at N) (λj d N=>by simp[b2]at N) (λj d N=>by simp[b2]at N)
  have tN:∀j o x,aA.H j=some o->o.ef x->j≠s/\z.H j=some o:=λj o x ah an=>by
   rcases cF j o ah with⟨rfl,rfl⟩|A
   ·obtain⟨bM,hP,Z,aG⟩:=an;rw[X]at Z;simp only[Value.slice.injEq]at Z;simp at aG;omega
   exact A
  refine h.run a w C ⟨λj=>av _ _ dF j _ (M.tmps j),⟨λj o ah=>?_,λj ex o bM x a7 h1 A an cV=>?_,λj o x ah an=>?_⟩,M.size,M.defers,M.step⟩
  ·rcases cF j o ah with⟨rfl,rfl⟩|⟨aa,ah⟩
   ·exact⟨_,0,X,atQ _,at4 _,λh=>absurd h aty⟩
   exact M.heap.cj j o ah
  ·exact M.heap.inj j ex o bM x a7 (tN j o x h1 an).2 (tN ex bM x A cV).2 an cV
  exact M.heap.cI j o x (tN j o x ah an).2 an⟩
end Go.bR
