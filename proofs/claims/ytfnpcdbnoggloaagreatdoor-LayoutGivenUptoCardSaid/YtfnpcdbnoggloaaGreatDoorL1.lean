/- Contracts of the program's functions, part 1. No conditions of its own. -/
import Derived.WalkKit
import Derived.Great.FillDense
import Derived.Laws.Tables
import Derived.Laws.IdiomStrings
import Derived.Laws.Cover4
import Derived.Laws.Runes
import Derived.Laws.CopyRow
import Derived.Laws.AppendOwn
import Derived.StillTail
import Derived.Laws.MakeOwn
import Derived.MapFrom
set_option linter.unnecessarySimpa false
set_option linter.unusedSimpArgs false
set_option linter.unusedVariables false
set_option maxRecDepth 100000
set_option maxHeartbeats 16000000
theorem asZ{p:Prop}(h:p:=by omega):p:=h
theorem as0{p:Prop}(h:p:=by (simp;omega)):p:=h
theorem as1{p:Prop}(h:p:=by simp):p:=h
theorem as2{p:Prop}(h:p:=by decide):p:=h
theorem as3{p:Prop}(h:p:=by decide +kernel):p:=h
theorem as4{p:Prop}(h:p:=by kernel_rfl):p:=h
theorem as5{p:Prop}(h:p:=by (rw[Int.toNat_natCast];rfl)):p:=h
theorem as6{p:Prop}(h:p:=by (intro h;cases h)):p:=h
theorem as7{p:Prop}(h:p:=by exact λw=>rfl):p:=h
abbrev as8:=List UInt8
abbrev as9:=@if_neg
abbrev as_:=@if_pos
abbrev as':=@congrArg
abbrev ata:=@List.getElem?_eq_getElem
abbrev atb:=@List.length_map
abbrev atc:=@List.take_succ_eq_append_getElem
abbrev atd:=@Bool.and_eq_true
abbrev ate:=@List.getElem_mem
abbrev atf:=@List.length_append
abbrev atg:=@Nat.le_refl
abbrev ath:=@List.length_cons
abbrev ati:=@List.take_length
abbrev atj:=@List.getElem?_eq_none
abbrev atk:=@List.mem_cons_self
abbrev atl:=@of_decide_eq_false
abbrev atm:=@List.eq_nil_of_length_eq_zero
abbrev atn:=@List.getElem?_append_left
abbrev ato:=@List.mem_cons_of_mem
abbrev atp:=@Int.tdiv_eq_ediv_of_nonneg
abbrev atq:=@Nat.zero_le
abbrev atr:=@List.mem_of_getElem?
abbrev ats:=@Nat.lt_or_ge
abbrev atu:=@List.mem_cons
abbrev atv:=@List.length_take
abbrev atw:=@of_decide_eq_true
abbrev atx:=@beq_true
abbrev aty:=@List.mem_map
abbrev atz:=@List.mem_iff_getElem?
abbrev atA:=@List.getElem?_map
abbrev atB:=@List.mem_append
abbrev atC:=@List.take_of_length_le
abbrev atD:=@List.length_nil
abbrev atE:=@Int.toNat_natCast
abbrev atG:=@List.map_cons
abbrev atH:=@Nat.le_of_ble_eq_true
abbrev atI:=@List.getElem?_eq_some_iff
abbrev atJ:=@List.getElem?_append_right
abbrev atK:=@beq_eq_false_iff_ne
abbrev atL:=@List.append_assoc
abbrev atN:=@List.length_filter_le
abbrev atO:=@List.map_append
abbrev atP:=@List.mem_iff_getElem
abbrev atQ:=@Option.some.injEq
abbrev atS:=@decide_eq_true_eq
abbrev atT:=@Nat.zero_add
abbrev atU:=@decide_eq_false
abbrev atW:=@List.mem_singleton
abbrev atX:=@Nat.lt_succ_self
abbrev atY:=@Nat.lt_of_lt_of_le
abbrev atZ:=@List.getElem?_take
abbrev at0:=@List.all_eq_true
abbrev at1:=@Nat.eq_zero_or_pos
abbrev at2:=@List.mem_filter
abbrev at3:=@Option.some.inj
abbrev at4:=@List.nodup_iff_pairwise_ne
abbrev at5:=@Int.le_refl
abbrev at6:=@List.size_toArray
abbrev at7:=@Option.getD_some
abbrev aua:=@List.append_nil
abbrev aub:=@List.getElem?_mapIdx
abbrev auc:=@List.flatMap_cons
abbrev aud:=@List.mem_of_mem_take
abbrev aue:=@List.drop_eq_getElem_cons
abbrev auf:=@List.foldl_append
abbrev aug:=@decide_eq_true
abbrev auh:=@List.cons_append
abbrev aui:=@List.filter_cons
abbrev auj:=@Option.map_eq_some_iff
abbrev auk:=@Bool.false_eq_true
abbrev aul:=@List.length_drop
abbrev aum:=@if_true
abbrev aun:=@cond_false
abbrev auo:=@Nat.add_sub_cancel_left
abbrev aup:=@List.pairwise_iff_getElem
abbrev auq:=@List.length_pos_iff
abbrev aur:=@Int.tmod_eq_emod_of_nonneg
abbrev aus:=@List.ext_getElem
abbrev aut:=@List.any_eq_true
abbrev auu:=@List.ext_getElem?
abbrev auv:=@Bool.or_eq_true
abbrev auw:=@List.nil_append
abbrev auy:=@List.filter_append
abbrev auz:=@List.take_append_drop
abbrev auA:=@List.getElem_cons_succ
abbrev auB:=@Nat.beq_refl
abbrev auC:=@Nat.le_trans
abbrev auD:=@Option.map_some
abbrev auE:=@Array.getElem?_toList
abbrev auF:=@List.foldl_cons
abbrev auG:=@List.length_set
abbrev auH:=@Array.getElem?_eq_getElem
abbrev auI:=@Nat.not_lt_zero
abbrev auJ:=@List.mem_range
abbrev auK:=@Bool.or_eq_false_iff
abbrev auL:=@Nat.mul_le_mul_right
abbrev auM:=@beq_iff_eq
abbrev auN:=@Bool.and_eq_false_iff
abbrev auO:=@List.range_succ
abbrev auP:=@List.take_succ_cons
abbrev auQ:=@decide_eq_false_iff_not
abbrev auR:=@List.take_append_of_le_length
abbrev auS:=@cond_true
abbrev auT:=@List.map_nil
abbrev auU:=@if_false
abbrev auV:=@Array.getD_eq_getD_getElem?
abbrev auW:=@Array.getElem?_eq_some_iff
abbrev auX:=@dif_pos
abbrev auY:=@List.find?_eq_none
abbrev auZ:=@beq_false
abbrev au0:=@Array.length_toList
abbrev au1:=@List.flatMap_append
abbrev au2:=@List.pairwise_map
abbrev au3:=@List.getElem?_toArray
abbrev au4:=@List.length_filterMap_le
abbrev au5:=@List.findIdx?_eq_some_iff_getElem
abbrev au6:=@Bool.not_eq_false'
abbrev au7:=@Array.ext'
abbrev au8:=@List.mem_flatMap
abbrev au9:=@Nat.add_assoc
abbrev au_:=@List.getD_eq_getElem?_getD
abbrev au':=@List.take_add_one
abbrev ava:=@List.nodup_cons
abbrev avb:=@Nat.eq_of_beq_eq_true
abbrev avc:=@Nat.lt_succ_iff_lt_or_eq
abbrev avd:=@List.getElem?_drop
abbrev ave:=@List.getElem?_set
abbrev avf:=@List.reverse_cons
abbrev avg:=@List.getElem?_concat_length
abbrev avh:=@List.find?_cons
abbrev avi:=@Array.toList_append
abbrev avj:=@Nat.succ_mul
abbrev avk:=@List.getElem_cons_zero
abbrev avl:=@List.map_map
abbrev avm:=@List.findIdx?_eq_none_iff
abbrev avn:=@List.mem_or_eq_of_mem_set
abbrev avo:=@List.cons.injEq
abbrev avp:=@List.mem_of_mem_drop
abbrev avq:=@Nat.zero_lt_one
abbrev avr:=@Bool.not_eq_true'
abbrev avs:=@List.drop_append_of_le_length
abbrev avt:=@List.getElem?_replicate
abbrev avu:=@List.take_zero
abbrev avv:=@List.getElem?_set_self
abbrev avw:=@List.drop_of_length_le
abbrev avx:=@UInt8.toNat_ofNat'
abbrev avy:=@List.count_pos_iff
abbrev avz:=@Int.ofNat_lt
abbrev avA:=@Nat.add_zero
abbrev avB:=@Array.getElem?_modify
abbrev avC:=@List.isSuffixOf_iff_suffix
abbrev avD:=@Nat.lt_trichotomy
abbrev avE:=@Function.comp_def
abbrev avF:=@Option.isSome_iff_exists
abbrev avG:=@List.Perm.eq_of_pairwise
abbrev avH:=@List.find?_range_eq_some
abbrev avI:=@List.mem_nil_iff
abbrev avJ:=@List.getElem_map
abbrev avK:=@List.map_congr_left
abbrev avL:=@List.getElem_mapIdx
abbrev avM:=@Array.getElem?_setIfInBounds_ne
abbrev avN:=@List.pairwise_mergeSort
abbrev avO:=@List.all_cons
abbrev avP:=@Int.natCast_nonneg
abbrev avQ:=@Nat.min_eq_left
abbrev avR:=@UInt8.lt_irrefl
abbrev avS:=@List.getElem_range
abbrev avT:=@Bool.eq_iff_iff
abbrev avU:=@List.length_pos_of_mem
abbrev avV:=@List.drop_eq_nil_of_le
abbrev avW:=@Nat.mul_one
abbrev avX:=@Bool.eq_false_iff
abbrev avY:=@Nat.sub_self
abbrev avZ:=@Nat.add_comm
abbrev av0:=@List.length_mergeSort
abbrev av1:=@Array.getElem?_mapIdx
abbrev av2:=@or_false
abbrev av3:=@Array.replicate_succ
abbrev av4:=@Array.replicate_zero
abbrev av5:=@Array.getElem?_append_left
abbrev av6:=@Bool.true_and
abbrev av7:=@Option.ne_none_iff_exists'
abbrev av8:=@Nat.add_mul
abbrev av9:=@List.append_toArray
abbrev av_:=@List.mergeSort_perm
abbrev av':=@List.mem_of_find?_eq_some
abbrev awa:=@List.mem_filterMap
abbrev awb:=@UInt8.not_lt
abbrev awc:=@List.Pairwise.imp_of_mem
abbrev awd:=@dif_neg
abbrev awe:=@Option.bind_eq_some_iff
abbrev awf:=@Nat.le_mul_of_pos_right
abbrev awg:=@Array.size_mapIdx
abbrev awh:=@List.push_toArray
abbrev awi:=@Option.map_eq_none_iff
abbrev awj:=@List.filter_eq_nil_iff
abbrev awk:=@List.flatMap_singleton
abbrev awl:=@List.append_eq_nil_iff
abbrev awm:=@Array.getElem?_eq_none
abbrev awn:=@List.any_cons
abbrev awo:=@List.sum_cons
abbrev awp:=@Nat.lt_irrefl
abbrev awq:=@List.getElem_set
abbrev awr:=@Option.bind_some
abbrev aws:=@List.not_mem_nil
abbrev awt:=@List.pairwise_reverse
abbrev awu:=@List.length_replicate
abbrev awv:=@List.singleton_append
abbrev aww:=@Nat.ble_eq_true_of_le
abbrev awx:=@List.mem_of_mem_tail
abbrev awy:=@List.map_set
abbrev awz:=@List.getElem?_append
abbrev awA:=@List.getElem?_set_ne
abbrev awB:=@List.mem_mapIdx
theorem awC{p:Prop}(h:p:=by intro kT kt gB mf v W w' qM;have h2:=grownCap_ge w (xs.length+a'.length) kt aF.t;have l':=grownCap_le_maxLen w (xs.length+a'.length) kt aF.t (by simp only[maxLen];omega);generalize grownCap w (xs.length+a'.length) kt aF.t=o' at W qM h2 l';(have tF:(kT.toArray++fp.toArray++Builtin.zeroCells ei.cells (o'-(xs.length+a'.length))).size=o'*aF.aB:=by simp only[Array.size_append,at6,size_zeroCells,DO,gB,jL,<-av8];congr 1;omega);have hq:=da.drew (λ_=>False) w C;have jn:=da.alloc (λ_=>False) w.drew C (.cells (kT.toArray++fp.toArray++Builtin.zeroCells ei.cells (o'-(xs.length+a'.length))) aF.t) 0;have hs:=hq.trans jn (λ_ _ M=>M);rw[<-qM]at hs jn;refine⟨_,M.b6 hs (λ_ M=>M.elim) (λ_ _ _ _ _ _ M=>M) λx I=>?_⟩;cases I;refine⟨⟨some ⟨w.heap.size,0,none⟩,o',by rw[W,hlen],by rw[hlen];exact h2,l',Ea,λdF gc=>⟨_,by cases gc;rfl,?_⟩,λ_=>⟨w.heap.size,_,rfl,?_,tF,?_,λj d N=>?_⟩⟩,λb F=>?_⟩;rw[qM];exact hM (kR w.drew _);rw[qM];exact kR w.drew _;exact hB _ _ _;rw[xV,pZ]at N;split at N;obtain⟨ak,an,ae,ah⟩:=mf j d N;refine⟨ak,?_,ae.ext hs.ext,ah⟩;have:=e9 an;rw[<-auE];simp only[avi];rw[atL,pZ,as_ (by simpa using this)];simpa using an;rename_i ad;obtain⟨ak,an,ae,ah⟩:=xZ _ d N;refine⟨ak,?_,ae.ext hs.ext,ah⟩;rw[<-auE];simp only[avi];rw[atL,pZ,as9 as0,pZ,as_ (by have:=e9 an;simp;omega)];simpa[gB,dm]using an;obtain⟨hX,hY,dL,_⟩:=F;rw[W]at dL;simp only[Value.slice.injEq,atQ,Addr.mk.injEq]at dL;obtain⟨⟨rfl,_⟩,_⟩:=dL;exact⟨h.DN,.inr (atg _)⟩):p:=h
theorem awD{p:Prop}(h:p:=by (have F:bf[i]=false:=by simpa[Array.getD,ml]using qV);(have bY:(bf.setIfInBounds i true).toList=bf.toList.set i true:=by simp);rw[bY];(have b':(bf.toList.set i true).count false+1=bf.toList.count false:=by have:=List.count_set (l:=bf.toList) (i:=i) (a:=true) (b:=false) (by simpa using ml);(have Z:bf.toList[i]'(by simpa using ml)=false:=by simpa using F);(have bc:(if(bf.toList[i]'(by simpa using ml))==false then 1 else 0)=1:=by rw[Z];rfl);have cL:(if(true==false)=true then 1 else 0)=0:=rfl;have eV:0<bf.toList.count false:=avy.2 (by rw[<-Z];exact ate _);omega);omega):p:=h
theorem awE{p:Prop}(h:p:=by refine f' ?_;refine aJ false rfl ?_ ?_<;>intro hc;cases hc;apply cr;refine f' ?_;refine aJ false rfl ?_ ?_<;>intro hc;cases hc;refine go ?_;refine aJ (decide (x<y)) rfl ?_ ?_<;>intro hc;refine go ?_;rw[qv,as_ (by simpa using hc)];exact E;refine go ?_;rw[qv,as9 (by simpa using hc)];refine go ?_;refine aJ (decide (y<x)) rfl ?_ ?_<;>intro hc;refine go ?_;rw[as_ (by simpa using hc)];exact E;refine go ?_;rw[as9 (by simpa using hc)];exact E):p:=h
theorem awF{p:Prop}(h:p:=by by_cases DL:n=0;subst DL;have pU:vs=[]:=atm o7;subst pU;have tH:Array.range 0=#[]:=rfl;simp[tH,Instr.buildSlice,run_underlying an,sizeOf,typeInfo,hi,Instr.fill,newRow];(have a6:¬n*aF.aB=0:=by intro h;rcases Nat.mul_eq_zero.1 h with h|h<;>omega);(have Lz:¬16777216<n*aF.aB:=by omega);simp[Instr.buildSlice,run_underlying an,sizeOf,typeInfo,zeroValue,hi,lJ,hs,a6,Lz,DK,newRow]):p:=h
theorem awH{p:Prop}(h:p:=by intro ag;refine xh (p:=λag=>∀m,m<=ag.length->(hj v ag).reverse.take m=(hj v (ag.take m)).reverse) (λm hm=>by simp at hm;subst hm;rfl) (λl x aY m hm=>?_) ag;rw[xi,avf];by_cases gw:m<=l.length;rw[auR (by simp[th];exact gw),aY m gw,auR gw];(have tW:m=l.length+1:=by simp at hm;omega);subst tW;rw[atC (by simp[th]),atC as1,xi,avf]):p:=h
theorem awI{p:Prop}(h:p:=by obtain⟨v,W⟩:=lI (l:=(vs.map (·.2)).flatMap λv=>v.cells.toList) (i:=j) (by have:=e9 N;rw[dm.1]at this;exact this);refine⟨v,W,dm.2 j d v N W,?_⟩;obtain⟨ak,an,LA⟩:=au8.1 (atr W);obtain⟨i,hi⟩:=atz.1 an;obtain⟨d',ho⟩:=lI (l:=ds.map (·.2)) (i:=i) (by have:=e9 hi;simp only[atb]at this⊢;omega);exact(hsz i d' ak ho hi).2.2.2 v LA):p:=h
theorem awJ{p:Prop}(h:p:=by apply auu;intro j;by_cases ad:j<vs.length;(have bY:(vs.map (·.1))[j]?=some j:=by rw[h1,tG,List.getElem?_range' asZ];simp);have b':vs[j]?=some vs[j]:=ata ad;simp only[atA,List.getElem?_zipIdx,b',auD]at bY⊢;(have kq:vs[j].1=j:=by simpa using bY);congr 1;ext;simpa using kq;rfl;rw[atj asZ,atj as0]):p:=h
theorem awL{p:Prop}(h:p:=by simp only[Region.ready,at2,auJ,atd,avr];refine⟨hi,aj,?_⟩;rw[ah];simp only[auD,at7];refine Array.all_eq_true'.2 λe ao=>?_;have:=ae e (by simpa using ao);cases F:Region.binds Region.Mode.any e with|true=>simpa using this F|false=>simp):p:=h
theorem awM{p:Prop}(h:p:=by funext j;simp only[fL];rw[L_ (f:=el bf) λe ao F=>lP e ao F];cases F:Nat.beq j i with|true =>have:=atx F;subst this;(have bi:j<bf.size:=by omega);simp only[el,Array.getD,bi,auX]at qV⊢;simpa using qV.symm|false=>rfl):p:=h
theorem awN{p:Prop}(h:p:=by simp only[entry,LU];by_cases hi:i<args.length;obtain⟨d,N⟩:=lI (l:=ds) (i:=i) asZ;have W:args[i]?=some args[i]:=ata hi;have:=ae.2 i d _ N W;simpa[N,Array.getElem?_append,hi]using this;rw[atj asZ];exact .any _):p:=h
theorem awO{p:Prop}(h:p:=by (have hlen:(fI .i64 (chars s).1).length=(chars s).1.length:=by simp[fI]);rw[hlen];cases(chars s).2==0;rfl;by_cases h1:1<=(chars s).1.length<;>by_cases A:(chars s).1.length<=64<;>simp[h1,A]<;>omega):p:=h
theorem awP{p:Prop}(h:p:=by cases m2:o.guard with|none=>simp[Region.wanted,m2]|some zO =>obtain⟨j,ix⟩:=zO;rw[m2]at aV;obtain⟨g,h1,A⟩:=aV;have jM:=M.tmps g;rw[A]at jM;have hy:=x1 h1 jM.hW;simp[Region.wanted,m2,hy]):p:=h
theorem awQ{p:Prop}(h:p:=by (cases i with|zero=>simp at ah;subst ah;exact h.1 y f|succ i =>have:=aY h.2 (i:=i) (o:=o) (by simpa using ah) y f;rw[show n+1+i=n+(i+1) by omega]at this;exact this)):p:=h
theorem awR{p:Prop}(h:p:=by (have bi:i<bf.size:=by omega);have:=List.count_eq_zero.1 hc;cases F:bf[i]with|true=>simp[el,bi,F]|false=>exact absurd (by rw[<-F];simp[Array.getElem_mem]) this):p:=h
theorem awS{p:Prop}(h:p:=by simp only[execOp,resolve,W,Deferred.ofValue,Sem.run_bind,Sem.run_pure,Result.andThen_ok,invoke,callFunc,run_program,iz,mb,F,auk,auU];congr 2;apply au7;simp):p:=h
theorem awT{p:Prop}(h:p:=by unfold mD at gA;cases N:decide ((l3 P c).a<=nf P c)with|false=>rw[N]at gA;cases gA|true =>have:=atw N;unfold nf at this;rw[GY]at this;split at this<;>omega):p:=h
theorem awU{p:Prop}(h:p:=by rename_i x;obtain⟨d,N,ae⟩:=iW G;split at N;rename_i hJ i;refine⟨i,N,λau w C ρ c0=>.inr ⟨hJ,?_⟩⟩;simp[(ae au w C _ (c0 x rfl)).fu];exact False.elim N):p:=h
theorem awV{p:Prop}(h:p:=by intro v W;obtain⟨j,ad⟩:=atz.1 W;obtain⟨d,N⟩:=lI (l:=ds.map (·.2)) (i:=j) (by have:=e9 ad;simp only[atb]at this⊢;omega);exact(hsz j d v N ad).2.1):p:=h
theorem awW{p:Prop}(h:p:=by intro x I;obtain⟨j,ad⟩:=atz.1 I;obtain⟨v,W⟩:=lI (l:=vs.map (·.2)) (i:=j) (by have:=e9 ad;simp only[atb]at this⊢;omega);exact(hsz j x v ad W).1):p:=h
theorem awX{p:Prop}(h:p:=by apply b2;apply b2;refine vg ?_;refine⟨λ_=>by omega,?_⟩;refine go ?_;have G:(n+2048-1).tdiv 2048=(n+2048-1)/2048:=atp asZ;refine go ?_;exact E):p:=h
theorem awY{p:Prop}(h:p:=by (have cd:i=a.length:=by have:=atl bs;omega);(have:(a==b)=true:=by rw[auM];rw[cd,ati,nT,ati]at au;exact au);rw[this];refine go ?_;exact E):p:=h
theorem awZ{p:Prop}(h:p:=by refine go ?_;refine aq.of_eq (as' D.bool ?_);unfold en;by_cases h1:32<=r<;>by_cases A:r<=65533<;>by_cases Z:r<55296<;>simp[h1,A,Z]):p:=h
theorem aw0{p:Prop}(h:p:=by (have ae:r=[]:=by simpa using hc);subst ae;(have:chars s=(fw,0):=by rw[chars,as9 jn,kZ];simp[jt,yo]);rw[this];exact⟨aq.mT,E,ai⟩):p:=h
theorem aw1{p:Prop}(h:p:=by (have e:gC H [(k,s)]=aK [(k,o)]:=by funext j;simp only[gC,aK];cases Nat.beq j k with|true=>exact h|false=>rfl);rw[e];exact hc):p:=h
theorem aw2{p:Prop}(h:p:=by intro j d v N W;have ae:=A.2 j d v N W;simp only[atA,auj]at N;obtain⟨x,I,rfl⟩:=N;exact hcells w C x (atr I) v ae):p:=h
theorem aw3{p:Prop}(h:p:=by simp only[aK]at h;cases h1:Nat.beq s a with|true=>rw[h1]at h;cases h;exact⟨atx h1,rfl⟩|false=>rw[h1]at h;cases h):p:=h
theorem aw4{p:Prop}(h:p:=by by_cases pa:k=j;subst pa;rw[as_ rfl,as_ asZ];rw[as9 pa];by_cases ad:j<k;rw[as_ ad,as_ asZ];rw[as9 ad,as9 asZ]):p:=h
theorem aw5{p:Prop}(h:p:=by obtain⟨_,_,_,_,_,cL⟩:=QJ h;unfold nz at cL;split at cL;cases cL;rename_i hc;unfold r9 at hc;simp at hc;omega):p:=h
theorem aw6{p:Prop}(h:p:=by unfold fQ;rw[sj,qu];by_cases h:(gY v l bd).2=[];rw[as_ (xg.2 h),as_ h];rw[as9 (λe=>h (xg.1 e)),as9 h]):p:=h
theorem aw7{p:Prop}(h:p:=by refine DS k ok Y kp ?_ fe;by_cases pa:j=k;subst pa;exact DT;rw[getD_set_ne true pa]at u9;exact u9):p:=h
theorem aw8{p:Prop}(h:p:=by cases Nat.beq j cO with|true=>exact h1|false =>(cases Nat.beq j d0 with|true=>exact A|false=>rfl)):p:=h
theorem aw9{p:Prop}(h:p:=by obtain⟨ak,an,ae,ah⟩:=mf j d N;have ad:=e9 N;exact⟨ak,by rw[atZ,as_ asZ];simpa using an,ae,ah⟩):p:=h
theorem aw_{p:Prop}(h:p:=by rcases ats j n with h|h;exact h;exact absurd ad (tail_waits hs hc ax pO _ i rfl cd u9 j h)):p:=h
theorem aw'{p:Prop}(h:p:=by (have:((a.length:Int)==(b.length:Nat))=true:=by simpa using hc);have:=eq_of_beq this;omega):p:=h
theorem axa{p:Prop}(h:p:=by rcases ae.kl with⟨rfl,⟨_,W⟩,_⟩|⟨b,o,hY,g,W,_,F,hc,_⟩;exact⟨_,_,W,by simp⟩;exact⟨_,_,W,hc⟩):p:=h
theorem axb{p:Prop}(h:p:=by obtain⟨p,vP,py⟩:=awa.1 M;unfold io at py;split at py;cases py;exact⟨rfl,aw p vP⟩;cases py):p:=h
theorem axc{p:Prop}(h:p:=by rcases ats j K with h|h;exact h;(have:j=K:=by omega);subst this;exact absurd AD kV.2.1):p:=h
theorem axd{p:Prop}(h:p:=by rw[Zn];cases h1:s.iso<;>cases A:s.rock<;>rw[h1,A]at hc<;>first|(cases hc;done)|decide):p:=h
theorem axe{p:Prop}(h:p:=by rw[atZ]at ad;split at ad;rw[o6,atT];simp only[World.cell?,F];simpa using ad;cases ad):p:=h
theorem axg{p:Prop}(h:p:=by have:(ci n).length<=(if valid n=true then dA n [] 1 else[]).length:=au4 _ _;omega):p:=h
theorem axh{p:Prop}(h:p:=by exact dr (zN (p:=λk:aa=>k.name==q) λj ad=>aw j ad (by simp at hc;omega)).symm):p:=h
theorem axi{p:Prop}(h:p:=by cases h0:decide ((0:Int)<i)<;>rw[h0]at hc<;>simp at h0 hc;exact⟨by omega,hc⟩):p:=h
theorem axj{p:Prop}(h:p:=by have:=(s.getD 0 0).toNat_lt;have:=(s.getD 1 0).toNat_lt;simp only[dg];omega):p:=h
theorem axk{p:Prop}(h:p:=by simp[execOp,resolve,invoke,builtin,Builtin.len_,run_underlying an,A,goInt]):p:=h
theorem axl{p:Prop}(h:p:=by clear sT;induction l with|nil=>trivial|cons x r aY=>exact⟨h1.1,aY h1.2⟩):p:=h
theorem axm{p:Prop}(h:p:=by cases h:Nat.beq k i with|false=>rfl|true=>have:=avb h;simp at ha;omega):p:=h
theorem axn{p:Prop}(h:p:=by obtain⟨h1,A⟩:=ow hc;obtain⟨Z,aD⟩:=ow h1;have:=atl A;have:=atl aD;omega):p:=h
theorem axo{p:Prop}(h:p:=by have:=h.kind;unfold xT at this;rw[Y]at this;split at this<;>simp_all):p:=h
theorem axp{p:Prop}(h:p:=by obtain⟨ak,h1,A,Z⟩:=ae j d N;exact⟨ak,by simpa using h1,A.ext jo,Z⟩):p:=h
theorem axq{p:Prop}(h:p:=by obtain⟨h1,A,Z⟩:=Qj h;exact(mc _ _ asZ).trans ((y5 rfl A).trans h)):p:=h
theorem axr{p:Prop}(h:p:=by unfold Utf8.encode;simp only[W,aum,atE];rw[as9 lW,as9 A,as_ asZ]):p:=h
theorem axs{p:Prop}(h:p:=by cases Z:decide ((i:Int)<=3)<;>rw[Z]at hc<;>simp at Z hc<;>omega):p:=h
theorem axt{p:Prop}(h:p:=by simp only[Region.wanted,aV,hy a w C h];cases b<;>cases c<;>rfl):p:=h
theorem axu{p:Prop}(h:p:=by by_cases h1:(s.length:Int)<1;simp[h1]at hc;simp[h1]at hc;omega):p:=h
theorem axv{p:Prop}(h:p:=by rcases jm with h|h;have:=hc.2;rw[h]at this;cases this;exact h):p:=h
theorem axw{p:Prop}(h:p:=by subst I;exact M.heap.inj s bq _ o x (Ne.symm a6) hs ah rfl an):p:=h
theorem axx{p:Prop}(h:p:=by rw[w1 (by simpa using h)];simp[eh,show t-1<J.length by omega]):p:=h
theorem axy{p:Prop}(h:p:=by rcases atB.1 I with I|I<;>first|exact p0 x I|exact Bn x I):p:=h
theorem axz{p:Prop}(h:p:=by first|omega|(simp only[dg]at*;omega)|(simp[dg]at*;omega)):p:=h
theorem axA{p:Prop}(h:p:=by refine go ?_;exact dr (by rw[aw,Ai (by simpa using hc)])):p:=h
theorem axB{p:Prop}(h:p:=by rw[o_];exact growslice_fits asZ (by simpa using me)):p:=h
theorem axC{p:Prop}(h:p:=by by_cases fq:j=i;subst fq;exact hc;exact aw j h asZ):p:=h
theorem axD{p:Prop}(h:p:=by show p.files.length-(i+1)<p.files.length-i;omega):p:=h
theorem axE{p:Prop}(h:p:=by have:=(s.getD 0 0).toNat_lt;simp only[dg];omega):p:=h
theorem axF{p:Prop}(h:p:=by intro ht;(conv=>whnf);refine go ?_;exact ht.cn):p:=h
theorem axG{p:Prop}(h:p:=by refine X.vm 46 9 rfl ?_;refine go ?_;exact ar):p:=h
theorem axH{p:Prop}(h:p:=by simp only[Region.wanted,aV,hy];cases b<;>rfl):p:=h
theorem axJ{p:Prop}(h:p:=by simp only[Array.getD,lQ,auX];simpa using F):p:=h
theorem axK{p:Prop}(h:p:=by show p.b3.length-(i+1)<p.b3.length-i;omega):p:=h
theorem axL{p:Prop}(h:p:=by obtain⟨j,rfl,_,_⟩:=ts h;exact⟨by omega,h⟩):p:=h
theorem axM{p:Prop}(h:p:=by first|exact h|(rw[h];rfl)|(rw[h0,h];rfl)):p:=h
theorem axN{p:Prop}(h:p:=by show n.J.length-(i+1)<n.J.length-i;omega):p:=h
theorem axO{p:Prop}(h:p:=by rw[lF];have:=atN aT.de l;unfold bO;omega):p:=h
theorem axP{p:Prop}(h:p:=by rw[getD_replicate_false]at aj;cases aj):p:=h
theorem axQ{p:Prop}(h:p:=by simp only[Value.slice.injEq]at h;omega):p:=h
theorem axR{p:Prop}(h:p:=by rw[<-b'];exact List.length_append.symm):p:=h
theorem axS{p:Prop}(h:p:=by rcases tM b bM with h|h;exact h;omega):p:=h
theorem axT{p:Prop}(h:p:=by subst cd;rw[ati];refine go ?_;exact E):p:=h
theorem axU{p:Prop}(h:p:=by show s.length-(i+1)<s.length-i;omega):p:=h
theorem axV{p:Prop}(h:p:=by show l.length-(i+1)<l.length-i;omega):p:=h
theorem axW{p:Prop}(h:p:=by show T.length-(i+1)<T.length-i;omega):p:=h
theorem axX{p:Prop}(h:p:=by show P.length-(i+1)<P.length-i;omega):p:=h
theorem axY{p:Prop}(h:p:=by have:=a1.dq;rwa [atZ,as_ asZ]at this):p:=h
theorem axZ{p:Prop}(h:p:=by subst I;exact h.heap.cN q _ _ hH e_):p:=h
theorem ax0{p:Prop}(h:p:=by subst I;exact M.heap.cN s _ _ hs e_):p:=h
theorem ax1{p:Prop}(h:p:=by rw[o_];exact growslice_fits asZ me):p:=h
theorem ax2{p:Prop}(h:p:=by rw[atK];intro e;subst e;simp at hc):p:=h
theorem ax3{p:Prop}(h:p:=by intro ht;refine go ?_;exact ht.cn):p:=h
theorem ax4{p:Prop}(h:p:=by simp only[putCells,awg];exact fK):p:=h
theorem ax5{p:Prop}(h:p:=by simp[Op.operands,Call.operands]):p:=h
theorem ax6{p:Prop}(h:p:=by (conv=>whnf);exact⟨_,E,rfl,rfl⟩):p:=h
theorem ax7{p:Prop}(h:p:=by refine go ?_;exact⟨_,E,rfl,rfl⟩):p:=h
theorem ax8{p:Prop}(h:p:=by simp at hc;simp only[dg];omega):p:=h
theorem ax9{p:Prop}(h:p:=by obtain⟨y,_,rfl⟩:=aty.1 I;rfl):p:=h
namespace Go.bS
open Go Go.RowKit
inductive iu where
 |none
 |dR
 |own (s:Nat) (v:Value)
inductive D where
 |any
 |undef
 |bool (b:Bool)
 |int (k:IntKind) (n:Int)
 |O (s:as8)
 |agg (aA:List D)
 |bj
 |Q (t:iu) (k:Nat) (xs:List D)
 |fn (f:Fn) (first oA:List D)
 |bo (ds:List D)
 |a8 (k:Nat) (xs:List D) (i off:Nat)
 |box (s b off:Nat)
 |l7 (g:Bool) (d:D)
 |al (v:Value)
def D.cells:D->List D
 |.agg aA=>aA
 |d=>[d]
def b1(xs:List D):List D:=xs.flatMap D.cells
def iu.gj(t:iu)(v:Value):Prop :=
 match t with
 |.none=>True
 |.dR=>∃a n,v=.slice a n n
 |.own _ c'=>v=c'
inductive bh (w:World) (C:Nat->Nat):D->Value->Prop
 |any (v:Value):bh w C .any v
 |undef:bh w C .undef Go.undef
 |bool (b:Bool):bh w C (.bool b) (.bool b)
 |int (k:IntKind) (n:Int):bh w C (.int k n) (.int k n)
 |O (s:as8):bh w C (.O s) (.string ⟨⟨s⟩⟩)
 |agg (aA:List D) (vs:List Value) (aj:aA.length=vs.length)
   (h:∀(i:Nat) d v,aA[i]?=some d->vs[i]?=some v->bh w C d v):bh w C (.agg aA) (.agg ⟨vs⟩)
 |bj:bh w C .bj (.slice none 0 0)
 |jk (t:iu) (k:Nat) (a:Option Addr) (au:t.gj (.slice a 0 0)):bh w C (.Q t k []) (.slice a 0 0)
 |Q (t:iu) (k:Nat) (xs:List D) (b o cap:Nat) (g:Nat->Value)
   (au:t.gj (.slice (some ⟨b,o,none⟩) xs.length cap))
   (F:b<w.heap.size) (hc:xs.length<=cap) (hm:cap<=maxLen)
   (Y:∀x∈xs,x.cells.length=k) (df:o+xs.length*k<=C b)
   (ga:∀(j:Nat) d,(b1 xs)[j]?=some d->w.cell? ⟨b,o+j,none⟩=some (g j))
   (d9:∀(j:Nat) d,(b1 xs)[j]?=some d->(g j).oneCell'=true)
   (h:∀(j:Nat) d,(b1 xs)[j]?=some d->bh w C d (g j)):bh w C (.Q t k xs) (.slice (some ⟨b,o,none⟩) xs.length cap)
 |fn (f:Fn) (first oA:List D) (fJ hl:List Value) (aj:first.length=fJ.length) (mM:oA.length=hl.length)
   (h:∀(i:Nat) d v,first[i]?=some d->fJ[i]?=some v->bh w C d v)
   (bz:∀(i:Nat) d v,oA[i]?=some d->hl[i]?=some v->bh w C d v):bh w C (.fn f first oA) (.func f ⟨fJ⟩ ⟨hl⟩)
 |bo (ds:List D) (vs:List Value) (aj:ds.length=vs.length)
   (h:∀(i:Nat) d v,ds[i]?=some d->vs[i]?=some v->bh w C d v):bh w C (.bo ds) (.tuple ⟨vs⟩)
 |a8 (k:Nat) (xs:List D) (i off:Nat) (b o cap:Nat) (h:bh w C (.Q .none k xs) (.slice (some ⟨b,o,none⟩) xs.length cap)) :
   bh w C (.a8 k xs i off) (.pointer (some ⟨b,o+i*k+off,none⟩))
 |box (s b off:Nat):bh w C (.box s b off) (.pointer (some ⟨b,off,none⟩))
 |pM (d:D) (v:Value) (h:bh w C d v):bh w C (.l7 true d) v
 |uZ (d:D):bh w C (.l7 false d) Go.undef
 |al (v:Value):bh w C (.al v) v
def db(w:World)(C:Nat->Nat)(ds:List D)(vs:List Value):Prop :=
 ds.length=vs.length/\∀(i:Nat) d v,ds[i]?=some d->vs[i]?=some v->bh w C d v
structure nO (w:World) (C:Nat->Nat) (w':World) (aQ:Nat->Nat):Prop where
 size:w.heap.size<=w'.heap.size
 le:∀b,b<w.heap.size->C b<=aQ b
 cells:∀b o,b<w.heap.size->o<C b->w'.cell? ⟨b,o,none⟩=w.cell? ⟨b,o,none⟩
theorem nO.refl(w:World)(C:Nat->Nat):nO w C w C:=⟨atg _,λ_ _=>atg _,λ_ _ _ _=>rfl⟩
variable{w w':World}{C aQ:Nat->Nat}
theorem nO.trans{rB:World}{lH:Nat->Nat}(h:nO w C w' aQ)(bz:nO w' aQ rB lH):nO w C rB lH :=
 ⟨auC h.size bz.size,λb F=>auC (h.le b F) (bz.le b (atY F h.size)),
  λb o F ah=>by
   rw[bz.cells b o (atY F h.size) (atY ah (h.le b F)),h.cells b o F ah]⟩
theorem pN{k:Nat}:∀{xs:List D},(∀x∈xs,x.cells.length=k)->(b1 xs).length=xs.length*k
 |[],_=>by simp[b1]
 |x::xs,h=>by have h1:=pN (xs:=xs) (λy hy=>h y (ato _ hy));have A:=h x atk;simp only[b1,auc,atf,ath]at*;rw[h1,A,avj];omega
variable{d:D}{v:Value}
theorem bh.ext(ao:nO w C w' aQ)(h:bh w C d v):bh w' aQ d v:=by induction h with|any v=>exact .any v|undef=>exact .undef|bool b=>exact .bool b|int k n=>exact .int k n|O s=>exact .O s|agg aA vs aj _ aY=>exact .agg aA vs aj aY|bj=>exact .bj|jk t k a au=>exact .jk t k a au|Q t k xs b o cap g au F hc hm Y df ga d9 _ aY =>refine .Q t k xs b o cap g au (atY F ao.size) hc hm Y (auC df (ao.le b F)) (λj d ad=>?_) d9 aY;rw[ao.cells b (o+j) F ?_];exact ga j d ad;(have bi:j<(b1 xs).length:=by rcases ats j (b1 xs).length with h|h;exact h;rw[atj h]at ad;cases ad);rw[pN Y]at bi;omega|fn f first oA fJ hl aj mM _ _ aY abl=>exact .fn f first oA fJ hl aj mM aY abl|bo ds vs aj _ aY=>exact .bo ds vs aj aY|a8 k xs i off b o cap _ aY=>exact .a8 k xs i off b o cap aY|box s b off=>exact .box s b off|pM d v _ aY=>exact .pM d v aY|uZ d=>exact .uZ d|al v=>exact .al v
variable{s:as8}{ak:Value}{b:Nat}{aA:List D}
section pO
theorem bh.fu{k:IntKind}{n:Int}(h:bh w C (.int k n) v):v=.int k n:=by cases h;rfl
theorem bh.hW{b:Bool}(h:bh w C (.bool b) v):v=.bool b:=by cases h;rfl
theorem bh.kM(h:bh w C (.O s) v):v=.string ⟨⟨s⟩⟩:=by cases h;rfl
theorem bh.abm(h:bh w C .undef v):v=Go.undef:=by cases h;rfl
theorem bh.xR(h:bh w C .bj v):v=.slice none 0 0:=by cases h;rfl
theorem bh.gb(h:bh w C (.al ak) v):v=ak:=by cases h;rfl
theorem bh.wu{s off:Nat}(h:bh w C (.box s b off) v):v=.pointer (some ⟨b,off,none⟩):=by cases h;rfl
theorem bh.tx(h:bh w C (.agg aA) v):∃vs,v=.agg ⟨vs⟩/\db w C aA vs:=by cases h with|agg aA vs aj h=>exact⟨vs,rfl,aj,h⟩
theorem bh.abn(h:bh w C (.bo aA) v):∃vs,v=.tuple ⟨vs⟩/\db w C aA vs:=by cases h with|bo aA vs aj h=>exact⟨vs,rfl,aj,h⟩
theorem bh.u2{f:Fn}{first oA:List D}(h:bh w C (.fn f first oA) v):∃fJ hl,v=.func f ⟨fJ⟩ ⟨hl⟩/\db w C first fJ/\db w C oA hl:=by cases h with|fn f first oA fJ hl aj mM h bz=>exact⟨fJ,hl,rfl,⟨aj,h⟩,⟨mM,bz⟩⟩
end pO
theorem db.ext{w w':World}{C aQ:Nat->Nat}(ao:nO w C w' aQ){ds:List D}{vs:List Value}(h:db w C ds vs):db w' aQ ds vs :=
 ⟨h.1,λi d v N W=>(h.2 i d v N W).ext ao⟩
def D.jl:D->D
 |.Q _ k xs=>.Q .none k xs
 |.bj=>.Q .none 0 []
 |d=>d
theorem bh.jl{w:World}{C:Nat->Nat}{d:D}{v:Value}(h:bh w C d v):bh w C d.jl v:=by cases h with|bj=>exact .jk .none 0 none trivial|jk t k a au=>exact .jk .none k a trivial|Q t k xs b o cap g au F hc hm Y df ga d9 h=>exact .Q .none k xs b o cap g trivial F hc hm Y df ga d9 h|any v=>exact .any v|undef=>exact .undef|bool b=>exact .bool b|int k n=>exact .int k n|O s=>exact .O s|agg aA vs aj h=>exact .agg aA vs aj h|fn f first oA fJ hl aj mM h bz=>exact .fn f first oA fJ hl aj mM h bz|bo ds vs aj h=>exact .bo ds vs aj h|a8 k xs i off b o cap h=>exact .a8 k xs i off b o cap h|box s b off=>exact .box s b off|pM d v h=>exact .pM d v h|uZ d=>exact .uZ d|al v=>exact .al v
inductive aI where
 |box (b:Nat) (aA:List D)
 |own (v:Value) (n k e:Nat)
 |row (v:Value) (xs:List D) (k e:Nat)
 |set (b:Nat) (ag:List as8)
 |ch (b:Nat) (o:Obj)
 |mp (b:Nat) (cy:List (D×D))
 |kN (b:Nat) (e:TypeId) (aA:List D)
abbrev bF:=Nat->Option aI
def aI.ef:aI->Nat->Prop
 |.box b _,x=>x=b
 |.own v n _ _,x=>∃o cap,v=.slice (some ⟨x,o,none⟩) n cap/\n<cap
 |.row v _ _ _,x=>∃n cap,v=.slice (some ⟨x,0,none⟩) n cap/\0<cap
 |.set b _,x=>x=b
 |.ch b _,x=>x=b
 |.mp b _,x=>x=b
 |.kN b _ _,x=>x=b
def abo(w:World)(C:Nat->Nat)(v:Value)(n k e:Nat):Prop :=
 ∃a cap,v=.slice a n cap/\n<=cap/\cap<=maxLen/\
  (n<cap->∃b vs,a=some ⟨b,0,none⟩/\w.heap[b]?=some (.cells vs e (0,0))/\vs.size=cap*k/\C b=n*k)
def kj(w:World)(C:Nat->Nat)(v:Value)(xs:List D)(k e:Nat):Prop :=
 ∃a cap,v=.slice a xs.length cap/\xs.length<=cap/\cap<=maxLen/\(∀x∈xs,x.cells.length=k)/\(∀dF,a=some dF->∃b,dF=⟨b,0,none⟩/\b<w.heap.size)/\
  (0<cap->∃b vs,a=some ⟨b,0,none⟩/\w.heap[b]?=some (.cells vs e (0,0))/\vs.size=cap*k/\C b=0/\
   ∀(j:Nat) d,(b1 xs)[j]?=some d->∃ak,vs[j]?=some ak/\bh w C d ak/\ak.oneCell'=true)
def Ds(w:World)(C:Nat->Nat)(b:Nat)(ag:List as8):Prop :=
 ∃eF iU,w.heap[b]?=some (.map eF iU)/\C b=0/\(∀x∈eF.toList,(∃s,x.key=.string ⟨⟨s⟩⟩)/\x.val=.bool true)/\
  ∀s:as8,s∈ag↔∃x∈eF.toList,x.key=.string ⟨⟨s⟩⟩
def mN:D->Option Value
 |.O s=>some (.string ⟨⟨s⟩⟩)
 |.int k n=>some (.int k n)
 |.bool b=>some (.bool b)
 |_=>none
def A'(w:World)(C:Nat->Nat)(b:Nat)(cy:List (D×D)):Prop :=
 ∃eF iU,w.heap[b]?=some (.map eF iU)/\C b=0/\eF.size=cy.length/\(∀(i j:Nat) k bB d d',cy[i]?=some (k,d)->cy[j]?=some (bB,d')->mN k=mN bB->i=j)/\
  ∀(i:Nat) k d e,cy[i]?=some (k,d)->eF[i]?=some e->mN k=some e.key/\bh w C d e.val
def ty(w:World)(C:Nat->Nat):aI->Prop
 |.box b aA=>∃vs e,w.heap[b]?=some (.cells ⟨vs⟩ e (0,0))/\db w C aA vs/\C b=0
 |.own v n k e=>abo w C v n k e
 |.row v xs k e=>kj w C v xs k e
 |.set b ag=>Ds w C b ag
 |.ch b o=>w.heap[b]?=some o/\C b=0
 |.mp b cy=>A' w C b cy
 |.kN b e aA=>∃vs,w.heap[b]?=some (.cells ⟨vs⟩ e (0,0))/\db w C aA vs/\C b=0
structure l8 (Ft:Nat->Prop) (w:World) (C:Nat->Nat) (H:bF):Prop where
 ch:∀s o,H s=some o->ty w C o
 inj:∀s bq o bL b,s≠bq->H s=some o->H bq=some bL->o.ef b->¬bL.ef b
 cN:∀s o b,H s=some o->o.ef b->Ft b
structure da (Ft:Nat->Prop) (w:World) (C:Nat->Nat) (w':World) (aQ:Nat->Nat):Prop where
 ext:nO w C w' aQ
 os:w'.os=w.os
 tape:w'.tape=w.tape
 output:w'.output=w.output
 iv:∀b,b<w.heap.size->¬Ft b->w'.heap[b]?=w.heap[b]?/\aQ b=C b
theorem da.refl(Ft:Nat->Prop)(w:World)(C:Nat->Nat):da Ft w C w C:=⟨.refl w C,rfl,rfl,rfl,λ_ _ _=>⟨rfl,rfl⟩⟩
theorem da.trans{Ft RD:Nat->Prop}{w w' rB:World}{C aQ lH:Nat->Nat}(h:da Ft w C w' aQ)(bz:da RD w' aQ rB lH)
  (hs:∀b,b<w.heap.size->RD b->Ft b):da Ft w C rB lH :=
 ⟨h.ext.trans bz.ext,bz.os.trans h.os,bz.tape.trans h.tape,bz.output.trans h.output,λb F ax=>by
  have h1:=h.iv b F ax;have A:=bz.iv b (atY F h.ext.size) (λM=>ax (hs b F M))
  exact⟨A.1.trans h1.1,A.2.trans h1.2⟩⟩
def pP(B w:World):Prop:=Below B.heap.size B w
variable{B:World}{Ft:Nat->Prop}
theorem pP.step(h:pP B w)(hs:da Ft w C w' aQ)(bM:∀b,Ft b->B.heap.size<=b):pP B w' :=
 ⟨hs.os.trans h.os,hs.tape.trans h.tape,hs.output.trans h.output,auC h.size hs.ext.size,λk Y=>by
  have h1:=(hs.iv k (atY Y h.size) (λM=>by have:=bM k M;omega)).1
  rw[h1];exact h.block k Y⟩
def Ba(P : Program)(f : FuncId): Prop := ∃fn,P.funcs[f]?=some fn/\fn.body.isSome = true/\(fn.name == "runtime.NumGoroutine") = false
def c7(P:Program)(B:World)(f:FuncId)(K_:List D)(H:bF)(a7:D->bF->Prop):Prop :=
 Ba P f/\∀(w:World) (C:Nat->Nat) (args:List Value) (Ft:Nat->Prop),pP B w->(∀b,Ft b->B.heap.size<=b)->l8 Ft w C H->db w C K_ args->
  Calls P f ⟨args⟩ w λe w'=>∃v d aQ aO,e=.returned v/\a7 d aO/\bh w' aQ d v/\da Ft w C w' aQ/\
   l8 (λb=>Ft b\/w.heap.size<=b) w' aQ aO
def bF.none:bF:=λ_=>Option.none
def mO(P:Program)(B:World)(f:FuncId)(K_:List D)(d:D):Prop :=
 Ba P f/\∀(w:World) (C:Nat->Nat) (args:List Value),pP B w->db w C K_ args->
  Calls P f ⟨args⟩ w λe w'=>∃v aQ,e=.returned v/\bh w' aQ d v/\da (λ_=>False) w C w' aQ
theorem l8.none(Ft:Nat->Prop)(w:World)(C:Nat->Nat):l8 Ft w C bF.none :=
 ⟨λ_ _ h=>(by cases h),λ_ _ _ _ _ _ h=>(by cases h),λ_ _ _ h=>(by cases h)⟩
structure b8 (P:Program) (B:World) (am:Nat) where
 w0:World
 C0:Nat->Nat
 Ft:Nat->Prop
 base:pP B w0
 low:∀b,Ft b->B.heap.size<=b
variable{P:Program}{am:Nat}
structure av where
 t:Nat->D
 H:bF
def b8.pQ(U:b8 P B am)(b:Nat):Prop:=U.Ft b\/U.w0.heap.size<=b
structure bI (U:b8 P B am) (w:World) (C:Nat->Nat) (z:av) (a:Act):Prop where
 tmps:∀i,bh w C (z.t i) (a.tmps.getD i undef)
 heap:l8 U.pQ w C z.H
 size:a.tmps.size=am
 defers:a.defers=[]
 step:da U.Ft U.w0 U.C0 w C
theorem b8.Dt(U:b8 P B am)(h:U.pQ b):B.heap.size<=b:=by rcases h with h|h;exact U.low b h;exact auC U.base.size h
theorem bI.base{U:b8 P B am}{w:World}{C:Nat->Nat}{z:av}{a:Act}(h:bI U w C z a):pP B w:=U.base.step h.step U.low
inductive cM where
 |normal
 |exit (id:Nat)
 |ret
def cM.f7:cM->Exit
 |.normal=>.normal
 |.exit id=>.exit id
 |.ret=>.ret
structure X (U:b8 P B am) (c:Code) (z:av) (K:cM->av->Prop):Prop where
 run:∀(a:Act) (w:World) (C:Nat->Nat),bI U w C z a->
  c.wp P (λe bv w'=>∃c8 az aQ,e=cM.f7 c8/\K c8 az/\bI U w' aQ az bv) a w
variable{c:Code}{d':D}{a:Act}{hs:List (Nat×aI)}
section abp
variable{U:b8 P B am}{z:av}{K:cM->av->Prop}
theorem X.mono{sz:cM->av->Prop}(h:X U c z K)(Y:∀e z,K e z->sz e z):X U c z sz :=
 ⟨λa w C M=>wp_mono (h.run a w C M) λ_ _ _ ⟨c8,az,aQ,ao,hK,bM⟩=>⟨c8,az,aQ,ao,Y _ _ hK,bM⟩⟩
theorem X.skip(h:K .normal z):X U .skip z K:=⟨λ_ _ C M=>wp_skip ⟨.normal,z,C,rfl,h,M⟩⟩
theorem X.ret(h:K .ret z):X U .ret z K:=⟨λ_ _ C M=>wp_ret ⟨.ret,z,C,rfl,h,M⟩⟩
theorem X.exit{id:Nat}(h:K (.exit id) z):X U (.exit id) z K:=⟨λ_ _ C M=>wp_exit ⟨.exit id,z,C,rfl,h,M⟩⟩
def zi(U:b8 P B am)(b:Code)(K:cM->av->Prop):cM->av->Prop
 |.normal,z=>X U b z K
 |.exit id,z=>K (.exit id) z
 |.ret,z=>K .ret z
theorem X.seq{a b:Code}(h:X U a z (zi U b K)):X U (.seq a b) z K :=
 ⟨λwv w C M=>wp_seq (wp_mono (h.run wv w C M) λe bv w' ⟨c8,az,aQ,ao,hK,bM⟩=>by
  subst ao
  cases c8 with
  |normal=>exact hK.run bv w' aQ bM
  |exit id=>exact⟨.exit id,az,aQ,rfl,hK,bM⟩
  |ret=>exact⟨.ret,az,aQ,rfl,hK,bM⟩)⟩
def G5(id:Nat)(K:cM->av->Prop):cM->av->Prop
 |.normal,z=>K .normal z
 |.exit zj,z=>cond (Nat.beq zj id) (K .normal z) (K (.exit zj) z)
 |.ret,z=>K .ret z
theorem X.block{id:Nat}{c:Code}(h:X U c z (G5 id K)):X U (.block id c) z K :=
 ⟨λwv w C M=>wp_block (wp_mono (h.run wv w C M) λe bv w' ⟨c8,az,aQ,ao,hK,bM⟩=>by
  subst ao
  cases c8 with
  |normal=>exact⟨.normal,az,aQ,rfl,hK,bM⟩
  |exit zj =>
   simp only[cM.f7,Exit.inBlock];by_cases kO:zj=id
   ·subst kO;rw[as_ rfl];refine⟨.normal,az,aQ,rfl,?_,bM⟩;simpa[G5]using hK
   rw[as9 kO];refine⟨.exit zj,az,aQ,rfl,?_,bM⟩
   have:Nat.beq zj id=false:=by
    cases F:Nat.beq zj id with
    |false=>rfl
    |true=>exact absurd (avb F) kO
   simpa[G5,this]using hK
  |ret=>exact⟨.ret,az,aQ,rfl,hK,bM⟩)⟩
structure aq (d d':D):Prop where
 le:∀w C v,bh w C d v->bh w C d' v
theorem aq.refl(d:D):aq d d:=⟨λ_ _ _ h=>h⟩
theorem aq.of_eq(h:d=d'):aq d d':=h ▸ aq.refl d
theorem aq.any(d:D):aq d .any:=⟨λ_ _ v _=>.any v⟩
theorem aq.jl(d:D):aq d d.jl:=⟨λ_ _ _ h=>h.jl⟩
def aK{α:Type}:List (Nat×α)->Nat->Option α
 |[],_=>none
 |(i,d)::r,j=>cond (Nat.beq j i) (some d) (aK r j)
def hn(l:List (Nat×D))(hs:List (Nat×aI)):av:={t:=λj=>(aK l j).getD .any,H:=aK hs}
def jI(z:av):List (Nat×D)->Prop
 |[]=>True
 |(i,d)::r=>aq (z.t i) d/\jI z r
def mP(z:av):List (Nat×aI)->Prop
 |[]=>True
 |(s,o)::r=>z.H s=some o/\mP z r
theorem atx{a:Nat}(h:Nat.beq a b=true):a=b:=avb h
theorem jI.aK{z:av}:∀{l:List (Nat×D)},jI z l->∀j,aq (z.t j) ((aK l j).getD .any)
 |[],_,j=>by simpa[Go.bS.aK]using aq.any _
 |(i,d)::r,h,j=>by simp only[Go.bS.aK];cases F:Nat.beq j i with|true=>have:=atx F;subst this;simpa using h.1|false=>simpa using jI.aK h.2 j
theorem mP.aK{z:av}:∀{l:List (Nat×aI)},mP z l->∀s o,aK l s=some o->z.H s=some o
 |[],_,s,o,h=>by simp[Go.bS.aK]at h
 |(i,d)::r,hs,s,o,h=>by simp only[Go.bS.aK]at h;cases F:Nat.beq s i with|true=>have:=atx F;subst this;rw[F]at h;simp at h;subst h;exact hs.1|false=>rw[F]at h;exact mP.aK hs.2 s o (by simpa using h)
theorem bI.G6{l:List (Nat×D)}(h:bI U w C z a)(h1:jI z l)(A:mP z hs):
  bI U w C (hn l hs) a :=
 ⟨λi=>(h1.aK i).le _ _ _ (h.tmps i),
  ⟨λs o ah=>h.heap.ch s o (A.aK s o ah),λs bq o bL b ax Z aD=>h.heap.inj s bq o bL b ax (A.aK s o Z) (A.aK bq bL aD),
   λs o b ah=>h.heap.cN s o b (A.aK s o ah)⟩,h.size,h.defers,h.step⟩
theorem X.loop{c:Code}{α:Type}(l:α->List (Nat×D))(hs:α->List (Nat×aI))(fv:α->Nat)(ez:α)(h1:jI z (l ez))(A:mP z (hs ez))
  (round:∀x,X U c (hn (l x) (hs x)) λe az=>match e with
   |.normal=>∃b0,fv b0<fv x/\jI az (l b0)/\mP az (hs b0)|.exit id=>K (.exit id) az|.ret=>K .ret az):X U (.loop c) z K :=
 ⟨λa w C M=>by
  have nP:=M.G6 h1 A;intro b k aA
  have key:∀n x,fv x=n->∀a w C,bI U w C (hn (l x) (hs x)) a->
    ∃e bv w',(∃c8 az aQ,e=cM.f7 c8/\K c8 az/\bI U w' aQ az bv)/\Arrives P (lone (b.at a (.code c::.inLoop c::k)) aA w) b k aA e bv w':=by
   intro n
   induction n using Nat.strongRecOn with
   |_ n aY =>
    intro x ax a w C M;obtain⟨e,tz,tA,⟨c8,xS,tB,ao,hK,bM⟩,oB⟩:=(round x).run a w C M b (.inLoop c::k) aA;subst ao
    cases c8 with
    |normal =>
     obtain⟨b0,bi,Z,aD⟩:=hK;obtain⟨Du,a₂,Dv,Dw,Dx⟩:=aY (fv b0) (ax ▸ bi) b0 rfl tz tA tB (bM.G6 Z aD);exact⟨Du,a₂,Dv,Dw,.of_steps (Steps.trans oB (.one step_inLoop)) Dx⟩
    |exit id=>exact⟨_,tz,tA,⟨.exit id,xS,tB,rfl,hK,bM⟩,.pass (x:=.inLoop c) rfl (λ_ _=>.inl (by simp[cM.f7])) oB⟩
    |ret=>exact⟨_,tz,tA,⟨.ret,xS,tB,rfl,hK,bM⟩,.pass (x:=.inLoop c) rfl (λ_ _=>.inl (by simp[cM.f7])) oB⟩
  obtain⟨e,bv,w',G,oB⟩:=key _ ez rfl a w C nP
  exact⟨e,bv,w',G,.of_steps (.one step_loop) oB⟩⟩
end abp
inductive rC where
 |int (k:IntKind)
 |bool
 |O
 |slice (e:Nat)
 |struct
 |array (n e:Nat)
 |Dy
structure bx where
 t:Nat
 agg:Bool
 aB:Nat
 bytes:Nat
 kind:rC
 o5:List (Nat×Nat×Bool)
 zero:Option (List D)
 u3:List rC:=[]
def dv:List bx->Nat->Option bx
 |[],_=>none
 |e::r,t=>cond (Nat.beq e.t t) (some e) (dv r t)
def pR:IntKind->IntKind->Bool
 |.i8,.i8|.i16,.i16|.i32,.i32|.i64,.i64|.u8,.u8|.u16,.u16|.u32,.u32|.u64,.u64=>true
 |_,_=>false
def RE:Value->D
 |.bool b=>.bool b
 |.int k n=>.int k n
 |.string s=>.O s.data.toList
 |.slice none 0 0=>.bj
 |v=>.al v
def av.ba(z:av):Operand->D
 |.tmp t=>z.t t
 |.const v=>RE v
 |.global g=>.al (.pointer (some ⟨g,0,none⟩))
 |.func f=>.fn (.func f) [] []
def av.put(z:av)(dst:Option Tmp)(d:D):av :=
 match dst with
 |some t=>{t:=λj=>cond (Nat.beq j t) d (z.t j),H:=z.H}
 |none=>z
def av.b6(z:av)(s:Nat)(o:Option aI):av:={t:=z.t,H:=λj=>cond (Nat.beq j s) o (z.H j)}
def iV(am:Nat):Option Tmp->Bool
 |some d=>Nat.blt d am
 |none=>true
def Dz(d:D)(k:D->Prop):Prop :=
 match d with
 |.any=>k .any
 |.undef=>k .undef
 |.bool b=>k (.bool b)
 |.int q n=>k (.int q n)
 |.O s=>k (.O s)
 |.agg aA=>k (.agg aA)
 |.bj=>k .bj
 |.Q t q xs=>k (.Q t q xs)
 |.fn f a b=>k (.fn f a b)
 |.bo ds=>k (.bo ds)
 |.a8 q xs i o=>k (.a8 q xs i o)
 |.box s b o=>k (.box s b o)
 |.l7 g d=>k (.l7 g d)
 |.al v=>k (.al v)
theorem zk(d:D)(k:D->Prop):Dz d k↔k d:=by cases d<;>rfl
def opn(h:Bool)(d:D)(k:D->Prop):Prop :=
 match d with
 |.l7 g d'=>(h=true->g=true)/\Dz d' k
 |d=>Dz d k
def dg:IntKind->Int->Prop
 |.i8,n=>-128<=n/\n<=127
 |.i16,n=>-32768<=n/\n<=32767
 |.i32,n=>-2147483648<=n/\n<=2147483647
 |.i64,n=>-9223372036854775808<=n/\n<=9223372036854775807
 |.u8,n=>0<=n/\n<=255
 |.u16,n=>0<=n/\n<=65535
 |.u32,n=>0<=n/\n<=4294967295
 |.u64,n=>0<=n/\n<=18446744073709551615
def arith(h:Bool)(k:IntKind)(n:Int)(K:D->Prop):Prop:=((h=true->dg k n)/\K (.int k n))\/K (.int k (k.wrap n))
def qH(op:BinOp)(k:IntKind)(x y:Int):Int :=
 match op with
 |.and=>k.wrap (BitVec.ofInt k.bits x &&& BitVec.ofInt k.bits y).toNat
 |.or=>k.wrap (BitVec.ofInt k.bits x ||| BitVec.ofInt k.bits y).toNat
 |.xor=>k.wrap (BitVec.ofInt k.bits x ^^^ BitVec.ofInt k.bits y).toNat
 |_=>k.wrap (BitVec.ofInt k.bits x &&& ~~~BitVec.ofInt k.bits y).toNat
def DA(h:Bool)(op:BinOp)(k bB:IntKind)(a b:Int)(K:D->Prop):Prop :=
 match op with
 |.shl=>(h=true->0<=b)/\K (.int k (k.wrap (a*2 ^ min b.toNat k.bits)))
 |.shr=>(h=true->0<=b)/\K (.int k (a.fdiv (2 ^ min b.toNat k.bits)))
 |.add=>cond (pR k bB) (arith h k (a+b) K) False
 |.sub=>cond (pR k bB) (arith h k (a-b) K) False
 |.mul=>cond (pR k bB) (arith h k (a*b) K) False
 |.quo=>cond (pR k bB) ((h=true->b≠0)/\arith h k (a.tdiv b) K) False
 |.rem=>cond (pR k bB) ((h=true->b≠0)/\K (.int k (a.tmod b))) False
 |.and|.or|.xor|.andNot=>cond (pR k bB) (K (.int k (qH op k a b))) False
 |.eql=>cond (pR k bB) (K (.bool (a==b))) False
 |.neq=>cond (pR k bB) (K (.bool (a !=b))) False
 |.lss=>cond (pR k bB) (K (.bool (decide (a<b)))) False
 |.leq=>cond (pR k bB) (K (.bool (decide (a<=b)))) False
 |.gtr=>cond (pR k bB) (K (.bool (decide (b<a)))) False
 |.geq=>cond (pR k bB) (K (.bool (decide (b<=a)))) False
def K'(h:Bool)(op:BinOp)(a b:as8)(K:D->Prop):Prop :=
 match op with
 |.add=>(h=true->(a.length:Int)+b.length<=9223372036854775807)/\K (.O (a++b))
 |.eql=>K (.bool (a==b))
 |.neq=>K (.bool (!(a==b)))
 |.lss=>K (.bool (Op.bytesLess a b))
 |.leq=>K (.bool (Op.bytesLess a b||a==b))
 |.gtr=>K (.bool (!(Op.bytesLess a b||a==b)))
 |.geq=>K (.bool (!Op.bytesLess a b))
 |_=>False
def RF(k:rC)(x y:D)(K:Bool->Prop):Prop :=
 match k,x,y with
 |.int _,.int k a,.int bB b=>cond (pR k bB) (K (a==b)) False
 |.O,.O a,.O b=>K (a==b)
 |.bool,.bool a,.bool b=>K (a==b)
 |_,_,_=>False
def Bb:List rC->List D->List D->(Bool->Prop)->Prop
 |[],[],[],K=>K true
 |k::ag,x::xs,y::a',K=>RF k x y λb=>Bb ag xs a' λc=>K (b&&c)
 |_,_,_,_=>False
def RG:rC->Bool
 |.bool=>true
 |_=>false
def G7:rC->Bool
 |.struct=>true
 |_=>false
def La(ay:List bx)(h:Bool)(op:BinOp)(t:Nat)(x y:D)(K:D->Prop):Prop :=
 match x,y with
 |.int k a,.int bB b=>DA h op k bB a b K
 |.O a,.O b=>K' h op a b K
 |.bool a,.bool b =>
  match dv ay t with
  |none=>False
  |some e=>cond (RG e.kind) (match op with
   |.eql=>K (.bool (a==b))
   |.neq=>K (.bool (!(a==b)))
   |_=>False) False
 |.agg xs,.agg a' =>
  match dv ay t with
  |some e =>
   match op with
   |.eql=>cond (G7 e.kind&&!e.u3.isEmpty) (Bb e.u3 xs a' λb=>K (.bool b)) False
   |.neq=>cond (G7 e.kind&&!e.u3.isEmpty) (Bb e.u3 xs a' λb=>K (.bool (!b))) False
   |_=>False
  |none=>False
 |_,_=>False
def DB(e:bx)(off:Nat)(aA:List D)(K:D->Prop):Prop :=
 match e.agg with
 |true=>cond (Nat.beq off 0&&Nat.beq e.aB aA.length) (K (.agg aA)) (cond (Nat.ble (off+e.aB) aA.length) (K (.agg ((aA.drop off).take e.aB))) False)
 |false=>match aA[off]? with
  |some d=>K d
  |none=>False
def DC(e:bx)(k off:Nat)(x:D)(K:D->Prop):Prop :=
 match x with
 |.agg aA=>match e.agg with
  |true=>cond (Nat.beq off 0&&Nat.beq e.aB k) (K x) (cond (Nat.ble (off+e.aB) aA.length) (K (.agg ((aA.drop off).take e.aB))) False)
  |false=>match aA[off]? with
   |some d=>K d
   |none=>False
 |_=>cond (Nat.beq off 0&&!e.agg) (K x) False
def zl(ay:List bx)(z:av)(h:Bool)(t:Nat)(x:D)(K:D->Prop):Prop :=
 match dv ay t with
 |none=>False
 |some e=>match x with
  |.a8 k xs i off=>∃y,(h=true->xs[i]?=some y)/\DC e k off y K
  |.box s b off=>match z.H s with
   |some (.box eo aA)=>b=eo/\DB e off aA K
   |_=>False
  |_=>False
def Lb(ay:List bx)(t:Nat)(x:D)(f:Nat)(K:D->Prop):Prop :=
 match dv ay t with
 |none=>False
 |some e=>match e.kind,e.o5[f]? with
  |.struct,some (o,aB,_)=>cond (Nat.beq aB 0) False (match x with
   |.a8 k xs i off=>K (.a8 k xs i (off+o))
   |.box s b off=>K (.box s b (off+o))
   |_=>False)
  |_,_=>False
def Lc(ay:List bx)(t:Nat)(x:D)(f:Nat)(K:D->Prop):Prop :=
 match dv ay t with
 |none=>False
 |some e=>match e.kind,e.o5[f]? with
  |.struct,some (o,aB,l9)=>match x with
   |.agg aA=>match l9 with
    |true=>cond (Nat.ble (o+aB) aA.length) (K (.agg ((aA.drop o).take aB))) False
    |false=>match aA[o]? with
     |some d=>K d
     |none=>False
   |_=>False
  |_,_=>False
def Ld(ay:List bx)(h:Bool)(t:Nat)(x fC:D)(K:D->Prop):Prop :=
 match dv ay t with
 |none=>False
 |some e=>match e.kind with
  |.slice bD=>match dv ay bD with
   |none=>False
   |some aF=>match x,fC with
    |.Q _ k xs,.int _ i=>cond (Nat.beq k aF.aB) ((h=true->0<=i/\i<(xs.length:Int))/\K (.a8 k xs i.toNat 0)) False
    |_,_=>False
  |_=>False
def Le(ay:List bx)(h:Bool)(t:Nat)(x fC:D)(K:D->Prop):Prop :=
 match dv ay t with
 |none=>False
 |some e=>match e.kind with
  |.O=>match x,fC with
   |.O s,.int _ i=>∃c:UInt8,(h=true->0<=i/\s[i.toNat]?=some c)/\K (.int .u8 c.toNat)
   |_,_=>False
  |_=>False
def G8(h:Bool)(z:av)(x:Option Operand)(k:Int->Prop):Prop :=
 match x with
 |none=>k 0
 |some x=>opn h (z.ba x) λd=>match d with|.int _ i=>k i|_=>False
def G9(h:Bool)(z:av)(x:Option Operand)(n:Int)(k:Int->Prop):Prop :=
 match x with
 |none=>k n
 |some x=>opn h (z.ba x) λd=>match d with|.int _ i=>k i|_=>False
def Lf(ay:List bx)(h:Bool)(z:av)(t:Nat)(x:D)(k' hi qI:Option Operand)(K:D->Prop):Prop :=
 match dv ay t with
 |none=>False
 |some e=>match e.kind with
  |.O=>match x with
   |.O s=>G8 h z k' λl=>G9 h z hi s.length λr=>match qI with
    |none=>(h=true->0<=l/\l<=r/\r<=(s.length:Int))/\K (.O ((s.take r.toNat).drop l.toNat))
    |some _=>False
   |_=>False
  |.slice bD=>match dv ay bD with
   |none=>False
   |some aF=>match x with
    |.Q _ k xs=>cond (Nat.beq k aF.aB) (G8 h z k' λl=>G9 h z hi xs.length λr=>match qI with
     |none=>(h=true->0<=l/\l<=r/\r<=(xs.length:Int))/\K (.Q .none k ((xs.take r.toNat).drop l.toNat))
     |some m=>cond hi.isSome (opn h (z.ba m) λd=>match d with
      |.int _ m=>(h=true->m=r/\0<=l/\l<=r/\r<=(xs.length:Int))/\K (.Q .dR k ((xs.take r.toNat).drop l.toNat))
      |_=>False) False) False
    |_=>False
  |_=>False
def zm(h:Bool)(z:av):List Operand->(List D->Prop)->Prop
 |[],k=>k []
 |x::r,k=>opn h (z.ba x) λd=>zm h z r λds=>k (d::ds)
def sA(aA:List D)(off:Nat)(ds:List D):List D:=aA.take off++ds++aA.drop (off+ds.length)
def iw:List D->Nat->D->List D
 |[],_,_=>[]
 |_::r,0,d=>d::r
 |c::r,n+1,d=>c::iw r n d
def D.one:D->Bool
 |.bool _|.int ..|.O _|.bj|.Q ..|.fn ..|.a8 ..|.box ..=>true
 |.al v=>v.oneCell'
 |_=>false
def Bc(e:bx)(off:Nat)(aA:List D)(x:D)(K:List D->Prop):Prop :=
 match e.agg with
 |true=>match x with
  |.agg ds=>cond (Nat.beq ds.length e.aB&&Nat.ble (off+ds.length) aA.length&&ds.all D.one) (K (sA aA off ds)) False
  |_=>False
 |false=>cond (Nat.blt off aA.length&&x.one&&Nat.beq e.aB 1) (K (iw aA off x)) False
def zn(o5:List (Nat×Nat×Bool))(aA:List D):List (Nat×D)->(List D->Prop)->Prop
 |[],K=>K aA
 |(i,d)::r,K=>match o5[i]? with
  |none=>False
  |some (o,aB,l9)=>match l9 with
   |true=>match d with
    |.agg ds=>cond (Nat.beq ds.length aB&&Nat.ble (o+aB) aA.length) (zn o5 (sA aA o ds) r K) False
    |_=>False
   |false=>cond (Nat.blt o aA.length&&d.one&&Nat.beq aB 1) (zn o5 (iw aA o d) r K) False
def zo(h:Bool)(z:av):List (Nat×Operand)->(List (Nat×D)->Prop)->Prop
 |[],k=>k []
 |(i,x)::r,k=>opn h (z.ba x) λd=>zo h z r λds=>k ((i,d.jl)::ds)
def tC(k:Nat):Nat->List (Nat×D)->Prop
 |_,[]=>True
 |n,(i,d)::r=>cond (Nat.beq i n&&(match d with|.agg ds=>Nat.beq ds.length k&&ds.all D.one|d=>d.one&&Nat.beq k 1)) (tC k (n+1) r) False
def dK:List D->List D->Prop
 |[],[]=>True
 |a::r,b::s=>aq a b/\dK r s
 |_,_=>False
def sB(s:ByteArray):Nat->Nat->List Int
 |0,_=>[]
 |f+1,i=>if i<s.size then Int.ofNat (Utf8.decode s i).1::sB s f (i+(Utf8.decode s i).2)else[]
def h'(s:as8):List Int:=sB ⟨⟨s⟩⟩ s.length 0
def cw(zs:List Int):as8:=zs.flatMap λn=>(Utf8.encode n).data.toList
def G_:rC->Bool
 |.int .i32=>true
 |_=>false
def Lg(ay:List bx)(oC dst:Nat)(x:D)(K:D->Prop):Prop :=
 match dv ay oC,dv ay dst with
 |some a,some b=>match a.kind,b.kind,x with
  |.int _,.int k,.int _ n=>((dg k n)/\K (.int k n))\/K (.int k (k.wrap n))
  |.O,.O,.O s=>K (.O s)
  |.int _,.O,.int _ n=>K (.O (Utf8.encode n).data.toList)
  |.O,.slice bD,.O s=>match dv ay bD with
   |some aF=>cond (G_ aF.kind&&Nat.beq aF.aB 1) (s.length<=70368744177664/\K (.Q .none 1 ((h' s).map (D.int .i32)))) False
   |none=>False
  |.slice bD,.O,.Q _ k xs=>match dv ay bD with
   |some aF=>cond (G_ aF.kind&&Nat.beq k 1) (∃zs:List Int,xs=zs.map (D.int .i32)/\K (.O (cw zs))) False
   |none=>False
  |_,_,_=>False
 |_,_=>False
def pS(P:Program)(B:World)(ay:List bx)(z:av)(h:Bool)(o:Op)(K:D->Prop):Prop :=
 match o with
 |.move x|.assign x=>opn h (z.ba x) K
 |.pick c a b=>opn h (z.ba c) λc=>match c with
  |.bool g=>match z.ba a,z.ba b with
   |.bool x,.bool y=>K (.bool (bif g then x else y))
   |.bool x,.l7 zp (.bool y)=>(h=true->g=false->zp=true)/\K (.bool (bif g then x else y))
   |.l7 zp (.bool x),.bool y=>(h=true->g=true->zp=true)/\K (.bool (bif g then x else y))
   |_,_=>False
  |_=>False
 |.binOp op t x y _=>opn h (z.ba x) λx=>opn h (z.ba y) λy=>La ay h op t x y K
 |.unOp op _ x=>opn h (z.ba x) λx=>match op,x with
  |.not,.bool b=>K (.bool (!b))
  |.neg,.int k n=>arith h k (0-n) K
  |_,_=>False
 |.load t x=>opn h (z.ba x) λx=>zl ay z h t x K
 |.fieldAddr t x f=>opn h (z.ba x) λx=>Lb ay t x f K
 |.field t x f=>opn h (z.ba x) λx=>Lc ay t x f K
 |.indexAddr t x fC=>opn h (z.ba x) λx=>opn h (z.ba fC) λfC=>Ld ay h t x fC K
 |.index t x fC=>opn h (z.ba x) λx=>opn h (z.ba fC) λfC=>Le ay h t x fC K
 |.slice t x k' hi qI=>opn h (z.ba x) λx=>Lf ay h z t x k' hi qI K
 |.convert oC dst x=>opn h (z.ba x) λx=>Lg ay oC dst x K
 |.build t bT=>match dv ay t with
  |some e=>match e.zero,e.kind with
   |some V,.struct=>zo h z bT.toList λds=>zn e.o5 V ds λaA=>K (.agg aA)
   |_,_=>False
  |none=>False
 |.buildSlice t n bT=>match dv ay t with
  |some e=>match e.kind with
   |.slice bD=>match dv ay bD with
    |some aF=>zo h z bT.toList λds=>cond (Nat.beq ds.length n&&Nat.ble (n*aF.aB) 16777216&&Nat.blt 0 aF.aB&&aF.zero.isSome) (tC aF.aB 0 ds/\K (.Q .dR aF.aB (ds.map (·.2)))) False
    |none=>False
   |_=>False
  |none=>False
 |.makeFunc f first oA=>zm h z first.toList λbG=>zm h z oA.toList λaA=>K (.fn f bG aA)
 |.extract x i=>opn h (z.ba x) λx=>match x with
  |.bo ds=>match ds[i]? with
   |some d=>K d
   |none=>False
  |_=>False
 |.call c=>match c.callee,c.args.toList with
  |.builtin .len,[x]=>opn h (z.ba x) λx=>match c.argTypes.toList with
   |[t]=>match dv ay t with
    |some e=>match e.kind,x with
     |.O,.O s=>K (.int .i64 s.length)
     |.slice _,.Q _ _ xs=>K (.int .i64 xs.length)
     |.slice _,.bj=>K (.int .i64 0)
     |.slice _,.al (.slice _ n _)=>K (.int .i64 (n:Nat))
     |_,_=>False
    |none=>False
   |_=>False
  |.builtin .max,[x,y]=>opn h (z.ba x) λx=>opn h (z.ba y) λy=>match x,y with
   |.int k a,.int _ b=>K (.int k (if b>a then b else a))
   |_,_=>False
  |.builtin .min,[x,y]=>opn h (z.ba x) λx=>opn h (z.ba y) λy=>match x,y with
   |.int k a,.int _ b=>K (.int k (if b<a then b else a))
   |_,_=>False
  |.value f,args=>opn h (z.ba f) λf=>match f with
   |.fn (.func b7) first ct=>zm h z args λww=>∃g5 d,(h=true->mO P B b7 g5 d)/\dK (first++ww++ct) g5/\K d
   |_=>False
  |_,_=>False
 |.nilCheck x=>opn h (z.ba x) λx=>match x with
  |.box s b o=>K (.box s b o)
  |.a8 k xs i o=>K (.a8 k xs i o)
  |_=>False
 |_=>False
def Op.Bd:Op->Bool
 |.move _|.assign _|.pick ..|.binOp ..|.unOp ..|.load ..|.fieldAddr ..|.field ..|.indexAddr ..|.index ..|.slice ..|.convert ..|.build ..|.buildSlice ..
 |.makeFunc ..|.extract ..|.nilCheck _=>true
 |.call c=>match c.callee with
  |.builtin .len|.builtin .max|.builtin .min|.value _=>true
  |_=>false
 |_=>false
def RH(ay:List bx)(z:av)(dst:Nat)(t:Nat)(s x:D)(K:av->Prop):Prop :=
 match dv ay t with
 |none=>False
 |some e=>match e.kind with
  |.slice bD=>match dv ay bD with
   |none=>False
   |some aF =>
    let go (z:av) (xs:List D):Prop:=match x with
     |.Q _ bB a'=>cond (Nat.beq bB aF.aB&&Nat.blt 0 aF.aB) ((xs.length+a'.length)*aF.bytes<=140737488355328/\xs.length+a'.length<=9223372036854775807/\aF.zero≠none/\
       ∀v:Value,K ((z.b6 dst (some (.own v (xs.length+a'.length) aF.aB bD))).put (some dst) (.Q (.own dst v) aF.aB (xs++a')))) False
     |_=>False
    match s with
    |.bj=>go z []
    |.Q .dR k xs=>cond (Nat.beq k aF.aB) (go z xs) False
    |.Q (.own q v) k xs=>match z.H q with
     |some (.own c' hX bB oD)=>cond (Nat.beq k aF.aB&&Nat.beq bB aF.aB&&Nat.beq oD bD) (v=c'/\hX=xs.length/\go (z.b6 q none) xs) False
     |_=>False
    |_=>False
  |_=>False
def nQ(P:Program)(B:World)(ay:List bx)(z:av)(dst:Option Tmp)(op:Op)(K:av->Prop):Prop :=
 match op with
 |.move x|.assign x=>Dz (z.ba x) λd=>K (z.put dst d)
 |.alloc e=>match dv ay e,dst with
  |some cc,some s=>match cc.zero with
   |some V=>∀b:Nat,K ((z.b6 s (some (.box b V))).put (some s) (.box s b 0))
   |none=>False
  |_,_=>False
 |.box e x=>match dv ay e,dst with
  |some cc,some s=>match cc.agg with
   |true=>match z.ba x with
    |.agg aA=>∀b:Nat,K ((z.b6 s (some (.box b aA))).put (some s) (.box s b 0))
    |_=>False
   |false=>cond (z.ba x).one (∀b:Nat,K ((z.b6 s (some (.box b [z.ba x]))).put (some s) (.box s b 0))) False
  |_,_=>False
 |.store t a x=>match dv ay t,z.ba a with
  |some e,.box s b off=>match z.H s with
   |some (.box eo aA)=>b=eo/\Bc e off aA (z.ba x) λdu=>K ((z.b6 s (some (.box b du))).put dst .undef)
   |_=>False
  |_,_=>False
 |.call c=>match c.callee,c.args.toList,c.argTypes.toList,dst with
  |.builtin .append,[s,x],[t,DD],some dst=>cond (Nat.beq t DD) (RH ay z dst t (z.ba s) (z.ba x) K) False
  |_,_,_,_=>pS P B ay z true (.call c) λd=>K (z.put dst d)
 |op=>pS P B ay z true op λd=>K (z.put dst d)
def jJ(P:Program)(B:World)(ay:List bx)(am:Nat)(ops:Array Oper):List Oper->av->(av->Prop)->Prop
 |[],z,K=>K z
 |⟨dst,op,_,_,_,guard⟩::rest,z,K=>cond (iV am dst) (match guard with
  |none=>nQ P B ay z dst op λaz=>jJ P B ay am ops rest az K
  |some (j,ix)=>match(ops[j]?).bind (·.dst)with
   |none=>False
   |some g=>match z.t g with
    |.bool b=>match ix with
     |true=>pS P B ay z b op λd=>jJ P B ay am ops rest (z.put dst (.l7 b d)) K
     |false=>pS P B ay z (!b) op λd=>jJ P B ay am ops rest (z.put dst (.l7 (!b) d)) K
    |.l7 c (.bool b)=>match ix with
     |true=>pS P B ay z (c&&b) op λd=>jJ P B ay am ops rest (z.put dst (.l7 (c&&b) d)) K
     |false=>pS P B ay z (c&&!b) op λd=>jJ P B ay am ops rest (z.put dst (.l7 (c&&!b) d)) K
    |_=>False) False
def Be:List D->List Value->Bool
 |[],[]=>true
 |d::ds,v::vs=>(match d,v with
  |.int k n,.int bB hX=>decide (k=bB)&&n==hX
  |.bool b,.bool eo=>b==eo
  |.O [],.string s=>s.data.toList.isEmpty
  |.bj,.slice none 0 0=>true
  |.al .nilFunc,.nilFunc=>true
  |.al (.pointer none),.pointer none=>true
  |.al (.map none),.map none=>true
  |.al .nilIface,.nilIface=>true
  |_,_=>false)&&Be ds vs
 |_,_=>false
theorem db.nil(w:World)(C:Nat->Nat):db w C [] []:=⟨rfl,λi d v h=>by simp at h⟩
variable{ds:List D}
theorem db.cons{vs:List Value}(h:bh w C d v)(ae:db w C ds vs):db w C (d::ds) (v::vs) :=
 ⟨by simp[ae.1],λi d' c' h1 A=>by
  cases i with
  |zero=>simp at h1 A;subst h1;subst A;exact h
  |succ i=>exact ae.2 i d' c' (by simpa using h1) (by simpa using A)⟩
theorem db.head{vs:List Value}(h:db w C (d::ds) (v::vs)):bh w C d v:=h.2 0 d v rfl rfl
theorem db.tail{vs:List Value}(h:db w C (d::ds) (v::vs)):db w C ds vs :=
 ⟨by simpa using h.1,λi d' c' h1 A=>h.2 (i+1) d' c' (by simpa using h1) (by simpa using A)⟩
theorem RI:∀{V:List D} {vs:List Value},Be V vs=true->∀w C,db w C V vs
 |[],[],_,w,C=>.nil w C
 |d::ds,v::vs,h,w,C=>by simp only[Be,atd]at h;refine .cons ?_ (RI h.2 w C);have h1:=h.1;split at h1;simp only[atd,atS,auM]at h1;obtain⟨rfl,rfl⟩:=h1;exact .int _ _;simp only[auM]at h1;subst h1;exact .bool _;rename_i s;obtain⟨⟨l⟩⟩:=s;(have:l=[]:=by simpa using h1);subst this;exact .O [];exact .bj;exact .al _;exact .al _;exact .al _;exact .al _;cases h1
 |[],_::_,h,_,_=>by simp[Be]at h
 |_::_,[],h,_,_=>by simp[Be]at h
def wx(P:Program)(t:TypeId):Option Bool :=
 match P.underlying t with
 |some (.struct _)|some (.array _ _)=>some true
 |some _=>some false
 |none=>none
def tD(P:Program):List Field->List (Nat×Nat×Bool)->Bool
 |[],[]=>true
 |f :: bG,(o,aB,l9) :: r => Nat.beq f.offset o && (match P.info? f.type with|some i => Nat.beq i.size aB|none => false) && (wx P f.type == some l9) && f.name != "_" && tD P bG r
 |_,_=>false
def G'(P:Program)(t:TypeId)(k:rC):Bool :=
 match k,P.underlying t with
 |.int k,some (.int bB)=>decide (k=bB)
 |.bool,some .bool=>true
 |.O,some .string=>true
 |_,_=>false
def wy(P:Program):List Field->List rC->Nat->Bool
 |[],[],_=>true
 |f :: bG,k :: ag,n => Nat.beq f.offset n && G' P f.type k && f.name != "_" && wy P bG ag (n + 1)
 |_,_,_=>false
def xT(P:Program)(e:bx):Bool :=
 match e.kind,P.underlying e.t with
 |.int k,some (.int bB)=>decide (k=bB)&&!e.agg
 |.bool,some .bool=>!e.agg
 |.O,some .string=>!e.agg
 |.slice bD,some (.slice Lh)=>Nat.beq bD Lh&&!e.agg
 |.struct,some (.struct bG)=>e.agg&&tD P bG.toList e.o5&&!P.stoodInHeld e.t&&!P.eqGuardType P.depth e.t&&(e.u3.isEmpty||wy P bG.toList e.u3 0)
 |.array n bD,some (.array hX Lh)=>Nat.beq n hX&&Nat.beq bD Lh&&e.agg
 |.Dy,some (.struct _)|.Dy,some (.array _ _)|.Dy,none=>false
 |.Dy,some _=>!e.agg
 |_,_=>false
def bx.Li(P:Program)(e:bx):Bool :=
 (match P.info? e.t with
 |some i=>Nat.beq i.size e.aB&&Nat.beq i.bytes e.bytes&&(match e.zero with|none=>true|some V=>(match i.zero with|some v=>Be V v.cells.toList&&Nat.beq V.length e.aB|none=>false))
 |none=>false)&&xT P e
structure bx.gj (P:Program) (e:bx):Prop where
 qJ:∃i,P.info? e.t=some i/\i.size=e.aB/\i.bytes=e.bytes/\∀V,e.zero=some V->∃v,i.zero=some v/\V.length=e.aB/\∀w C,db w C V v.cells.toList
 kind:xT P e=true
theorem bx.abq{e:bx}(h:e.Li P=true):e.gj P:=by unfold bx.Li at h;rw[atd]at h;refine⟨?_,h.2⟩;have h1:=h.1;split at h1;rename_i i hi;simp only[atd]at h1;obtain⟨⟨A,Z⟩,aD⟩:=h1;refine⟨i,hi,atx A,atx Z,λV bH=>?_⟩;rw[bH]at aD;simp only at aD;split at aD;rename_i v W;rw[atd]at aD;exact⟨v,W,atx aD.2,RI aD.1⟩;cases aD;cases h1
def dh(P:Program)(ay:List bx):Prop:=∀e∈ay,e.gj P
theorem dh.u4{ay:List bx}(h:ay.all (bx.Li P)=true):dh P ay:=λe ao=>bx.abq (at0.1 h e ao)
theorem RJ:∀{ay:List bx} {t:Nat} {e:bx},dv ay t=some e->e∈ay/\e.t=t
 |[],_,_,h=>by simp[dv]at h
 |x::r,t,e,h=>by simp only[dv]at h;cases F:Nat.beq x.t t with|true=>rw[F]at h;simp at h;subst h;exact⟨atk,atx F⟩|false=>rw[F]at h;have:=RJ (ay:=r) (by simpa using h);exact⟨ato _ this.1,this.2⟩
variable{t:Nat}
theorem dh.get{ay:List bx}(h:dh P ay){e:bx}(ao:dv ay t=some e):e.gj P/\e.t=t:=by have:=RJ ao;exact⟨h e this.1,this.2⟩
section kinds
variable{e:bx}(h:e.gj P)
include h
theorem bx.gj.size(w:World):(sizeOf e.t).run P w=.ok e.aB w:=by obtain⟨i,hi,hs,_⟩:=h.qJ;simp[sizeOf,typeInfo,hi,hs]
theorem bx.gj.cellsOf:P.cellsOf e.t=e.aB:=by obtain⟨i,hi,hs,_⟩:=h.qJ;simp[Program.cellsOf,hi,hs]
theorem bx.gj.sC{k:IntKind}(Y:e.kind=.int k):P.underlying e.t=some (.int k):=axo
theorem bx.gj.pT(Y:e.kind=.O):P.underlying e.t=some .string:=axo
theorem bx.gj.abr(Y:e.kind=.bool):P.underlying e.t=some .bool:=axo
theorem bx.gj.kk{bD:Nat}(Y:e.kind=.slice bD):P.underlying e.t=some (.slice bD):=axo
theorem bx.gj.Bf(Y:e.kind=.struct):∃bG,P.underlying e.t=some (.struct bG)/\tD P bG.toList e.o5=true/\e.agg=true/\P.stoodInHeld e.t=false/\P.eqGuardType P.depth e.t=false/\(e.u3=[]\/wy P bG.toList e.u3 0=true):=axo
theorem bx.gj.isAgg(w:World):(isAgg e.t).run P w=.ok e.agg w:=by
 have:=h.kind;unfold xT at this
 unfold Go.isAgg;simp only[Sem.run_bind];split at this
 all_goals first
  |(rename_i an;simp[run_underlying an];simp_all;done)
  |(simp at this;done)
  |skip
end kinds
theorem o6(b o n:Nat):(⟨b,o,none⟩:Addr).add n=⟨b,o+n,none⟩:=by unfold Addr.add;split;rename_i h;subst h;rfl;rfl
variable{h:Bool}
theorem iW{k:D->Prop}(cG:opn h d k):∃d',k d'/\(h=true->∀w C v,bh w C d v->bh w C d' v):=by unfold opn at cG;split at cG;rename_i g d';refine⟨d',(zk _ _).1 cG.2,λau w C v ae=>?_⟩;have aV:=cG.1 au;subst aV;(cases ae with|pM _ _ h=>exact h);exact⟨_,(zk _ _).1 cG,λ_ _ _ _ ae=>ae⟩
theorem wz{k:Nat}:∀{xs:List D} (_:∀x∈xs,x.cells.length=k) {i:Nat} {x:D} (_:xs[i]?=some x) {j:Nat} (_:j<k),(b1 xs)[i*k+j]?=x.cells[j]?
 |[],_,i,x,I,j,_=>by simp at I
 |y::a',Y,i,x,I,j,ad=>by have hy:y.cells.length=k:=Y y atk;simp only[b1,auc];cases i with|zero =>simp at I;subst I;rw[Nat.zero_mul,atT,atn asZ]|succ i =>(have Bg:a'[i]?=some x:=by simpa using I);have aY:=wz (xs:=a') (λV bH=>Y V (ato _ bH)) Bg ad;rw[atJ (by rw[hy,avj];omega),hy,avj];rw[show i*k+k+j-k=i*k+j from by omega];exact aY
variable{k:Nat}{xs:List D}
theorem bh.kl{t:iu}(h:bh w C (.Q t k xs) v): (xs=[]/\(∃a,v=.slice a 0 0)/\t.gj v)\/∃(b o cap:Nat) (g:Nat->Value),v=.slice (some ⟨b,o,none⟩) xs.length cap/\t.gj v/\b<w.heap.size/\xs.length<=cap/\cap<=maxLen/\(∀x∈xs,x.cells.length=k)/\o+xs.length*k<=C b/\(∀(j:Nat) d,(b1 xs)[j]?=some d->w.cell? ⟨b,o+j,none⟩=some (g j))/\(∀(j:Nat) d,(b1 xs)[j]?=some d->(g j).oneCell'=true)/\(∀(j:Nat) d,(b1 xs)[j]?=some d->bh w C d (g j)):=by cases h with|jk t k a au=>exact .inl ⟨rfl,⟨a,rfl⟩,au⟩|Q t k xs b o cap g au F hc hm Y df ga d9 h=>exact .inr ⟨b,o,cap,g,rfl,au,F,hc,hm,Y,df,ga,d9,h⟩
def hI(P:Program)(d:D)(w:World)(C:Nat->Nat):Result Next->Prop
 |.ok (.value v) w'=>∃aQ,bh w' aQ d v/\da (λ_=>False) w C w' aQ
 |.ok (.enter f args) w'=>w'=w/\Calls P f args w λe rB=>∃v lH,e=.returned v/\bh rB lH d v/\da (λ_=>False) w C rB lH
 |_=>False
theorem hI.same(h:bh w C d v):hI P d w C (.ok (.value v) w):=⟨C,h,.refl _ _ _⟩
theorem Ha{k bB:IntKind}(h:pR k bB=true):k=bB:=by cases k<;>cases bB<;>first|rfl|cases h
theorem Lj{k:IntKind}{n:Int}(h:dg k n):k.wrap n=n:=by cases k<;>simp only[dg]at h<;>simp[IntKind.wrap,IntKind.bits,IntKind.signed]<;>omega
theorem DE{k:IntKind}{n:Int}{K:D->Prop}(cG:arith h k n K):∃m,K (.int k m)/\(h=true->m=k.wrap n):=by rcases cG with⟨h1,A⟩|A;exact⟨n,A,λau=>(Lj (h1 au)).symm⟩;exact⟨_,A,λ_=>rfl⟩
variable{p:Prop}
theorem ia{c:Bool}(h:cond c p False):c=true/\p:=by cases c;exact h.elim;exact⟨rfl,h⟩
theorem zq(op:BinOp)(t:TypeId)(x y:Operand)(a b:Value)(w:World)(ha:∀aA,a≠.agg aA)(ax:a≠.nilIface): (eqGuard op t x y a b).run P w=.ok () w:=by unfold eqGuard;cases a<;>cases b<;>first|(exact absurd rfl ax)|(exact absurd rfl (ha _))|(cases op<;>simp)
theorem abs(a b:as8):((⟨⟨a⟩⟩:ByteArray)++⟨⟨b⟩⟩)=⟨⟨a++b⟩⟩:=by apply ByteArray.ext;simp
section DA
variable{op:BinOp}{k bB:IntKind}{a b:Int}{K:D->Prop}
theorem abt(G:DA h op k bB a b K):∃d,K d/\(h=true->∃v,(∀t w,(binOp op t (.int k a) (.int bB b)).run P w=.ok v w)/\∀w C,bh w C d v):=by
 cases op<;>simp only[DA]at G
 case shl=>obtain⟨h1,A⟩:=G;exact⟨_,A,λau=>⟨_,λt w=>by simp[binOp,Op.shift,Int.not_lt.2 (h1 au)],λ_ _=>.int _ _⟩⟩
 case shr=>obtain⟨h1,A⟩:=G;exact⟨_,A,λau=>⟨_,λt w=>by simp[binOp,Op.shift,Int.not_lt.2 (h1 au)],λ_ _=>.int _ _⟩⟩
 all_goals (replace G:=ia G;obtain⟨Y,G⟩:=G;obtain rfl:=Ha Y)
 case add=>obtain⟨m,h1,A⟩:=DE G;exact⟨_,h1,λau=>⟨_,λt w=>by simp[binOp,Op.intArith,<-A au],λ_ _=>.int _ _⟩⟩
 case sub=>obtain⟨m,h1,A⟩:=DE G;exact⟨_,h1,λau=>⟨_,λt w=>by simp[binOp,Op.intArith,<-A au],λ_ _=>.int _ _⟩⟩
 case mul=>obtain⟨m,h1,A⟩:=DE G;exact⟨_,h1,λau=>⟨_,λt w=>by simp[binOp,Op.intArith,<-A au],λ_ _=>.int _ _⟩⟩
 case quo=>obtain⟨m,h1,A⟩:=DE G.2;exact⟨_,h1,λau=>⟨_,λt w=>by simp[binOp,Op.intDiv,<-A au,G.1 au],λ_ _=>.int _ _⟩⟩
 case rem=>exact⟨_,G.2,λau=>⟨_,λt w=>by simp[binOp,Op.intDiv,G.1 au],λ_ _=>.int _ _⟩⟩
 case and=>exact⟨_,G,λ_=>⟨_,λt w=>by simp[binOp,Op.intBits,qH],λ_ _=>.int _ _⟩⟩
 case or=>exact⟨_,G,λ_=>⟨_,λt w=>by simp[binOp,Op.intBits,qH],λ_ _=>.int _ _⟩⟩
 case xor=>exact⟨_,G,λ_=>⟨_,λt w=>by simp[binOp,Op.intBits,qH],λ_ _=>.int _ _⟩⟩
 case andNot=>exact⟨_,G,λ_=>⟨_,λt w=>by simp[binOp,Op.intBits,qH],λ_ _=>.int _ _⟩⟩
 all_goals exact⟨_,G,λ_=>⟨.bool _,λt w=>by simp[binOp,Op.intCmp],λ_ _=>.bool _⟩⟩
end DA
theorem abu{op:BinOp}{a b:as8}{K:D->Prop}(G:K' h op a b K):
  ∃d,K d/\(h=true->∃v,(∀t w,(binOp op t (.string ⟨⟨a⟩⟩) (.string ⟨⟨b⟩⟩)).run P w=.ok v w)/\∀w C,bh w C d v):=by
 cases op<;>simp only[K']at G
 case add =>
  refine⟨_,G.2,λau=>⟨_,λt w=>?_,λ_ _=>.O _⟩⟩;have h1:=G.1 au
  have A:¬(IntKind.i64.max<(((⟨⟨a⟩⟩:ByteArray).size+(⟨⟨b⟩⟩:ByteArray).size:Nat):Int)):=by
   simp only[IntKind.max,IntKind.signed,IntKind.bits,ByteArray.size,at6]
   push_cast
   simp;omega
  simp only[binOp,Op.stringOp,gt_iff_lt,as9 A,abs];rfl
 all_goals first
  |exact False.elim G
  |exact⟨_,G,λ_=>⟨.bool _,λt w=>by simp[binOp,Op.stringOp,ByteArray.toList_eq],λ_ _=>.bool _⟩⟩
theorem Hb{t:TypeId}{b:Bool}(h:wx P t=some b)(w:World):(isAgg t).run P w=.ok b w:=by unfold wx at h;unfold Go.isAgg;cases N:P.underlying t with|none=>simp[N]at h|some d=>simp only[Sem.run_bind,run_underlying N,Result.andThen_ok];cases d<;>simp_all
theorem Hc:∀{bG:List Field} {r:List (Nat×Nat×Bool)} (_:tD P bG r=true) {i:Nat} {o aB:Nat} {l9:Bool} (_:r[i]?=some (o,aB,l9)),∃f,bG[i]?=some f/\f.offset = o/\(∃qK,P.info? f.type = some qK/\qK.size = aB)/\wx P f.type = some l9/\f.name ≠ "_"
 |[],[],_,i,o,aB,l9,ae=>by simp at ae
 |f::bG,(bL,aqF,aqG)::r,h,i,o,aB,l9,ae=>by simp only[tD,atd]at h;obtain⟨⟨⟨⟨h1,A⟩,Z⟩,aD⟩,bc⟩:=h;cases i with|zero =>simp at ae;obtain⟨rfl,rfl,rfl⟩:=ae;refine⟨f,rfl,atx h1,?_,by simpa using Z,by simpa using aD⟩;split at A;rename_i qK hi;exact⟨qK,hi,atx A⟩;cases A|succ i=>exact Hc bc (i:=i) (by simpa using ae)
 |[],_::_,h,_,_,_,_,_=>by simp[tD]at h
 |_::_,[],h,_,_,_,_,_=>by simp[tD]at h
theorem zr{t:TypeId}{i:TypeInfo}(h:P.info? t=some i)(w:World):(sizeOf t).run P w=.ok i.size w:=by simp[sizeOf,typeInfo,h]
theorem abv(w:World)(b o n:Nat)(vs:List Value)(aj:vs.length=n)(h:∀(j:Nat) v,vs[j]?=some v->w.cell? ⟨b,o+j,none⟩=some v): (loadCells ⟨b,o,none⟩ n).run P w=.ok ⟨vs⟩ w:=by subst aj;exact run_loadCells_list w ⟨b,o,none⟩ vs (λj v W=>by rw[o6];exact h j v W)
theorem Lk{e:bx}(ao:e.gj P)(kP:e.agg=true)(w:World)(b o:Nat)(vs:List Value)(aj:vs.length=e.aB)(h:∀(j:Nat) v,vs[j]?=some v->w.cell? ⟨b,o+j,none⟩=some v): (Instr.loadAt e.t (.pointer (some ⟨b,o,none⟩))).run P w=.ok (.agg ⟨vs⟩) w:=by simp only[Instr.loadAt,Instr.sureAddr,Sem.run_bind,Sem.run_pure,Result.andThen_ok,loadVar,ao.isAgg,kP,aum,ao.size,abv (P:=P) w b o e.aB vs aj h]
theorem Ll{e:bx}(ao:e.gj P)(kP:e.agg=false)(w:World)(b o:Nat)(v:Value)(h:w.cell? ⟨b,o,none⟩=some v): (Instr.loadAt e.t (.pointer (some ⟨b,o,none⟩))).run P w=.ok v w:=by simp only[Instr.loadAt,Instr.sureAddr,Sem.run_bind,Sem.run_pure,Result.andThen_ok,loadVar,ao.isAgg,kP,auk,auU,run_load,h]
variable{α:Type}{i:Nat}
theorem lI{l:List α}(h:i<l.length):∃x,l[i]?=some x:=⟨l[i],ata h⟩
theorem Lm{o:Nat}{f:Nat->Value}(hc:∀(j:Nat) d,aA[j]?=some d->w.cell? ⟨b,o+j,none⟩=some (f j)/\bh w C d (f j))
  {off aB:Nat} (dS:off+aB<=aA.length) :
  let vs:=(List.range aB).map λj=>f (off+j)
  vs.length=aB/\(∀(j:Nat) v,vs[j]?=some v->w.cell? ⟨b,o+off+j,none⟩=some v)/\bh w C (.agg ((aA.drop off).take aB)) (.agg ⟨vs⟩):=by
 refine⟨by simp,λj v W=>?_,.agg _ _ as0 λi d v N W=>?_⟩
 ·simp only[atA,auj]at W;obtain⟨ew,gk,rfl⟩:=W
  have ad:j<aB:=by
   rcases ats j aB with h|h
   ·exact h
   rw[atj (by simpa using h)]at gk;cases gk
  rw[List.getElem?_range ad]at gk;obtain rfl:j=ew:=by simpa using gk
  obtain⟨d,N⟩:=lI (l:=aA) (i:=off+j) asZ;have:=(hc (off+j) d N).1;rw[<-this,au9]
 simp only[atA,auj]at W;obtain⟨ew,gk,rfl⟩:=W
 have ad:i<aB:=by
  rcases ats i aB with h|h
  ·exact h
  rw[atj (by simpa using h)]at gk;cases gk
 rw[List.getElem?_range ad]at gk;obtain rfl:i=ew:=by simpa using gk
 have ho:aA[off+i]?=some d:=by
  rw[atZ,as_ ad,avd]at N;exact N
 exact(hc (off+i) d ho).2
theorem RL{e:bx}(ao:e.gj P){off:Nat}{K:D->Prop}(G:DB e off aA K): ∃d,K d/\∀(w:World) (C:Nat->Nat) (b o:Nat) (f:Nat->Value),(∀(j:Nat) d,aA[j]?=some d->w.cell? ⟨b,o+j,none⟩=some (f j)/\bh w C d (f j))->∃v,(Instr.loadAt e.t (.pointer (some ⟨b,o+off,none⟩))).run P w=.ok v w/\bh w C d v:=by unfold DB at G;cases kP:e.agg with|true =>rw[kP]at G;simp only at G;(have key:∀n,off+e.aB<=n->n=aA.length->∀(w:World) (C:Nat->Nat) (b o:Nat) (f:Nat->Value),(∀(j:Nat) d,aA[j]?=some d->w.cell? ⟨b,o+j,none⟩=some (f j)/\bh w C d (f j))->∃v,(Instr.loadAt e.t (.pointer (some ⟨b,o+off,none⟩))).run P w=.ok v w/\bh w C (.agg ((aA.drop off).take e.aB)) v:=by intro n ax aj w C b o f hc;subst aj;have Z:=Lm hc ax;exact⟨_,Lk ao kP w b (o+off) _ Z.1 Z.2.1,Z.2.2⟩);(cases F:(Nat.beq off 0&&Nat.beq e.aB aA.length)with|true =>rw[F]at G;rw[atd]at F;have h0:=atx F.1;have h1:=atx F.2;subst h0;refine⟨_,G,λw C b o f hc=>?_⟩;obtain⟨v,W,ae⟩:=key aA.length asZ rfl w C b o f hc;refine⟨v,W,?_⟩;rw[h1,List.drop_zero,ati]at ae;exact ae|false =>rw[F]at G;obtain⟨dS,G⟩:=ia G;exact⟨_,G,λw C b o f hc=>key aA.length (atH dS) rfl w C b o f hc⟩)|false =>rw[kP]at G;simp only at G;split at G;rename_i d N;exact⟨d,G,λw C b o f hc=>⟨_,Ll ao kP w b (o+off) _ (hc off d N).1,(hc off d N).2⟩⟩;exact False.elim G
theorem Ln{e:bx}(ao:e.gj P){off:Nat}{x:D}{K:D->Prop}(G:DC e k off x K): ∃d,K d/\∀(w:World) (C:Nat->Nat) (b o:Nat) (f:Nat->Value),x.cells.length=k->(∀(j:Nat) d,x.cells[j]?=some d->w.cell? ⟨b,o+j,none⟩=some (f j)/\bh w C d (f j))->∃v,(Instr.loadAt e.t (.pointer (some ⟨b,o+off,none⟩))).run P w=.ok v w/\bh w C d v:=by unfold DC at G;split at G;rename_i aA;(cases kP:e.agg with|true =>rw[kP]at G;simp only at G;(cases F:(Nat.beq off 0&&Nat.beq e.aB k)with|true =>rw[F]at G;rw[atd]at F;have h0:=atx F.1;have h1:=atx F.2;subst h0;refine⟨_,G,λw C b o f aj hc=>?_⟩;simp only[D.cells]at aj hc;have Z:=Lm (off:=0) (aB:=e.aB) hc asZ;refine⟨_,Lk ao kP w b (o+0) _ Z.1 Z.2.1,?_⟩;have aD:=Z.2.2;rw[h1,<-aj,List.drop_zero,ati]at aD;rw[h1,<-aj];exact aD|false =>rw[F]at G;obtain⟨dS,G⟩:=ia G;refine⟨_,G,λw C b o f aj hc=>?_⟩;simp only[D.cells]at aj hc;have Z:=Lm (off:=off) (aB:=e.aB) hc (atH dS);exact⟨_,Lk ao kP w b (o+off) _ Z.1 Z.2.1,Z.2.2⟩)|false =>rw[kP]at G;simp only at G;split at G;rename_i d N;refine⟨d,G,λw C b o f aj hc=>?_⟩;simp only[D.cells]at hc;exact⟨_,Ll ao kP w b (o+off) _ (hc off d N).1,(hc off d N).2⟩;exact False.elim G);rename_i a6;replace G:=ia G;obtain⟨F,G⟩:=G;rw[atd]at F;have h0:=atx F.1;(have kP:e.agg=false:=by simpa using F.2);(have hcells:x.cells=[x]:=by cases x<;>first|rfl|exact absurd rfl (a6 _));refine⟨_,G,λw C b o f aj hc=>?_⟩;rw[hcells]at hc;subst h0;exact⟨_,Ll ao kP w b (o+0) _ (hc 0 x rfl).1,(hc 0 x rfl).2⟩
theorem e9{l:List α}{x:α}(h:l[i]?=some x):i<l.length:=by rcases ats i l.length with bz|bz;exact bz;rw[atj bz]at h;cases h
theorem abw{o:Nat}{g:Nat->Value}(Y:∀x∈xs,x.cells.length=k)(ga:∀(j:Nat) d,(b1 xs)[j]?=some d->w.cell? ⟨b,o+j,none⟩=some (g j))(h:∀(j:Nat) d,(b1 xs)[j]?=some d->bh w C d (g j)){y:D}(hy:xs[i]?=some y)(j:Nat)(d:D)(N:y.cells[j]?=some d): w.cell? ⟨b,o+i*k+j,none⟩=some (g (i*k+j))/\bh w C d (g (i*k+j)):=by have abx:y.cells.length=k:=Y y (atr hy);have ad:j<k:=abx ▸ e9 N;have M:=wz Y hy ad;rw[N]at M;exact⟨by rw[au9];exact ga _ _ M,h _ _ M⟩
variable{z:av}
theorem RM{ay:List bx}(hT:dh P ay){x:D}{K:D->Prop}(G:zl ay z h t x K):
  ∃d,K d/\(h=true->∀(w:World) (C:Nat->Nat) (Ft:Nat->Prop) (v:Value),l8 Ft w C z.H->bh w C x v->
   ∃ak,(Instr.loadAt t v).run P w=.ok ak w/\bh w C d ak):=by
 unfold zl at G;split at G
 ·exact False.elim G
 rename_i e ao;obtain⟨c3,rfl⟩:=hT.get ao;split at G
 ·rename_i k xs i off;obtain⟨y,hy,G⟩:=G;obtain⟨d,hK,N⟩:=Ln c3 G;refine⟨d,hK,λau w C Ft v _ ae=>?_⟩;have hy:=hy au
  cases ae with
  |a8 _ _ _ _ b o cap bz =>
   rcases bz.kl with⟨I,W,_⟩|⟨eo,bL,hY,g,W,_,_,_,_,Y,_,ga,_,eQ⟩
   ·subst I;simp at hy
   simp only[Value.slice.injEq,atQ,Addr.mk.injEq]at W;obtain⟨⟨rfl,rfl,_⟩,_⟩:=W;exact N w C b (o+i*k) (λj=>g (i*k+j)) (Y y (atr hy)) (λj d N=>abw Y ga eQ hy j d N)
 ·rename_i s b off;split at G
  ·rename_i eo aA hH;obtain⟨rfl,G⟩:=G;obtain⟨d,hK,N⟩:=RL c3 G;refine⟨d,hK,λau w C Ft v hrel ae=>?_⟩
   cases ae with
   |box _ _ _ =>
    obtain⟨vs,bD,F,hZ,_⟩:=hrel.ch s _ hH
    have:=N w C b 0 (λj=>vs.getD j undef) (λj d N=>by
     have ad:=e9 N;rw[hZ.1]at ad;have W:vs[j]?=some vs[j]:=ata ad;have dL:vs.getD j undef=vs[j]:=by simp[List.getD,W]
     refine⟨?_,?_⟩
     ·simp only[World.cell?,F,atT,dL];simp[ad]
     rw[dL];exact hZ.2 j d _ N W)
    simpa using this
  exact False.elim G
 exact False.elim G
theorem aby{ay:List bx}(hT:dh P ay){x:D}{f:Nat}{K:D->Prop}(G:Lb ay t x f K): ∃d,K d/\∀(w:World) (C:Nat->Nat) (v:Value),bh w C x v->∃ak,(Instr.fieldAt t v f).run P w=.ok ak w/\bh w C d ak:=by unfold Lb at G;split at G;exact False.elim G;rename_i e ao;obtain⟨c3,rfl⟩:=hT.get ao;split at G;rename_i o aB l9 b5 M;(cases hsz:Nat.beq aB 0 with|true=>rw[hsz]at G;exact False.elim G|false =>rw[hsz]at G;(have a6:aB≠0:=λh=>by subst h;cases hsz);simp only[aun]at G;obtain⟨bG,l_,tE,_⟩:=c3.Bf b5;obtain⟨gJ,dm,xU,⟨qK,DF,DG⟩,_,_⟩:=Hc tE M;(have run:∀(w:World) (b bL:Nat),(Instr.fieldAt e.t (.pointer (some ⟨b,bL,none⟩)) f).run P w=.ok (.pointer (some ⟨b,bL+o,none⟩)) w:=by intro w b bL;(have Bh:bG[f]?=some gJ:=by simpa using dm);simp[Instr.fieldAt,run_underlying l_,Bh,Instr.sureAddr,fieldPlace,zr DF,DG,a6,xU,o6]);split at G;rename_i k xs i off;refine⟨_,G,λw C v ae=>?_⟩;(cases ae with|a8 _ _ _ _ b bL cap bz=>exact⟨_,run w b _,by have:=bh.a8 (w:=w) (C:=C) k xs i (off+o) b bL cap bz;rwa [<-au9]at this⟩);rename_i s b off;refine⟨_,G,λw C v ae=>?_⟩;(cases ae with|box _ _ _=>exact⟨_,run w b _,.box _ _ _⟩);exact False.elim G);exact False.elim G
theorem abz{ay:List bx}(hT:dh P ay){x:D}{f:Nat}{K:D->Prop}(G:Lc ay t x f K):
  ∃d,K d/\∀(w:World) (C:Nat->Nat) (v:Value),bh w C x v->∃ak,(Instr.field t v f).run P w=.ok ak w/\bh w C d ak:=by
 unfold Lc at G;split at G
 ·exact False.elim G
 rename_i e ao;obtain⟨c3,rfl⟩:=hT.get ao;split at G
 ·rename_i o aB l9 b5 M;obtain⟨bG,l_,tE,_⟩:=c3.Bf b5;obtain⟨gJ,dm,xU,⟨qK,DF,DG⟩,kP,_⟩:=Hc tE M;have Bh:bG[f]?=some gJ:=by simpa using dm
  split at G
  ·rename_i aA
   cases l9 with
   |true =>
    replace G:=ia G;obtain⟨dS,G⟩:=G;refine⟨_,G,λw C v ae=>?_⟩
    cases ae with
    |agg _ vs aj h =>
     refine⟨.agg ((⟨vs⟩:Array Value).extract o (o+aB)),by simp[Instr.field,run_underlying l_,Bh,part,Hb kP,zr DF,DG,xU,asAgg],?_⟩
     have bY:(⟨vs⟩:Array Value).extract o (o+aB)=⟨(vs.drop o).take aB⟩:=by
      apply au7;simp[List.extract]
     rw[bY];have aqH:=atH dS;refine .agg _ _ (by simp[aj]) λi d v N W=>?_;rw[atZ]at N W;split at N
     ·rename_i hi;rw[as_ hi]at W;rw[avd]at N W;exact h _ _ _ N W
     cases N
   |false =>
    simp only at G;split at G
    ·rename_i d N;refine⟨d,G,λw C v ae=>?_⟩
     cases ae with
     |agg _ vs aj h =>
      have bi:o<vs.length:=aj ▸ e9 N;have W:vs[o]?=some vs[o]:=ata bi;refine⟨vs[o],?_,h o d _ N W⟩;simp[Instr.field,run_underlying l_,Bh,part,Hb kP,xU,asAgg,bi]
    exact False.elim G
  exact False.elim G
 exact False.elim G
theorem abA{ay:List bx}(hT:dh P ay){x fC:D}{K:D->Prop}(G:Ld ay h t x fC K):
  ∃d,K d/\(h=true->∀(w:World) (C:Nat->Nat) (v u5:Value),bh w C x v->bh w C fC u5->∃ak,(Instr.indexAt t v u5).run P w=.ok ak w/\bh w C d ak):=by
 unfold Ld at G;split at G
 ·exact False.elim G
 rename_i e ao;obtain⟨c3,rfl⟩:=hT.get ao;split at G
 ·rename_i bD b5;split at G
  ·exact False.elim G
  rename_i aF km;obtain⟨fo,rfl⟩:=hT.get km;split at G
  ·rename_i tg k xs hJ i;replace G:=ia G;obtain⟨Y,hi,G⟩:=G;have Y:=atx Y;refine⟨_,G,λau w C v u5 ae zt=>?_⟩;obtain⟨h0,h1⟩:=hi au;cases zt
   have an:=c3.kk b5;rcases ae.jl.kl with⟨rfl,_,_⟩|⟨b,o,cap,g,rfl,_,F,hc,hm,abB,df,ga,d9,eQ⟩
   ·simp at h1;omega
   refine⟨.pointer (some ⟨b,o+i.toNat*k,none⟩),?_,?_⟩
   ·simp[Instr.indexAt,asIntOf,run_underlying an,h0,h1,fo.size,o6,Y]
   have:=bh.a8 (w:=w) (C:=C) k xs i.toNat 0 b o cap (.Q .none k xs b o cap g trivial F hc hm abB df ga d9 eQ);simpa using this
  exact False.elim G
 exact False.elim G
theorem abC(s:as8)(i:Nat):(⟨⟨s⟩⟩:ByteArray)[i]?=s[i]?:=by by_cases h:i<s.length;rw[ata h];have bz:i<(⟨⟨s⟩⟩:ByteArray).size:=h;rw[getElem?_pos (⟨⟨s⟩⟩:ByteArray) i bz];rfl;rw[atj (Nat.le_of_not_lt h)];have bz:¬i<(⟨⟨s⟩⟩:ByteArray).size:=h;rw[getElem?_neg (⟨⟨s⟩⟩:ByteArray) i bz]
theorem abD{ay:List bx}(hT:dh P ay){x fC:D}{K:D->Prop}(G:Le ay h t x fC K):
  ∃d,K d/\(h=true->∀(w:World) (C:Nat->Nat) (v u5:Value),bh w C x v->bh w C fC u5->∃ak,(Instr.index t v u5).run P w=.ok ak w/\bh w C d ak):=by
 unfold Le at G;split at G
 ·exact False.elim G
 rename_i e ao;obtain⟨c3,rfl⟩:=hT.get ao;split at G
 ·rename_i b5;split at G
  ·rename_i s hJ i;obtain⟨c,hc,G⟩:=G;refine⟨_,G,λau w C v u5 ae zt=>?_⟩;obtain⟨h0,h1⟩:=hc au;cases zt;cases ae
   refine⟨_,?_,.int _ _⟩;have an:=c3.pT b5;simp[Instr.index,asIntOf,run_underlying an,h0,abC,h1]
  exact False.elim G
 exact False.elim G
theorem xV(xs a':List D):b1 (xs++a')=b1 xs++b1 a':=by simp[b1]
variable{j:Nat}
theorem Lo(Y:∀x∈xs,x.cells.length=k){l r:Nat}(aj:l<=r)(ae:r<=xs.length)(h:(b1 ((xs.take r).drop l))[j]?=some d):(b1 xs)[l*k+j]?=some d:=by(have bY:b1 xs=b1 (xs.take r)++b1 (xs.drop r):=by rw[<-xV,auz]);(have b':b1 (xs.take r)=b1 ((xs.take r).take l)++b1 ((xs.take r).drop l):=by rw[<-xV,auz]);(have hlen:(b1 ((xs.take r).take l)).length=l*k:=by rw[pN (k:=k) (λx I=>Y x (aud (aud I)))];congr 1;simp;omega);have ad:=e9 h;rw[bY,atn,b',atJ asZ,hlen,show l*k+j-l*k=j from by omega];exact h;rw[b',atf,hlen];omega
theorem Lp(s:as8)(l r:Nat):(⟨⟨s⟩⟩:ByteArray).extract l r=⟨⟨(s.take r).drop l⟩⟩:=by apply ByteArray.ext;simp only[ByteArray.data_extract];apply au7;simp[List.extract,List.drop_take]
variable{k':Option Operand}
theorem RN{k:Int->Prop}(G:G8 h z k' k): ∃l,k l/\(h=true->∀(w:World) (C:Nat->Nat) (ρ:Operand->Value),(∀x,k'=some x->bh w C (z.ba x) (ρ x))->(k'.map ρ=none/\l=0)\/∃hJ,k'.map ρ=some (.int hJ l)):=by unfold G8 at G;split at G;exact⟨0,G,λ_ _ _ _ _=>.inl ⟨rfl,rfl⟩⟩;exact awU
variable{hi:Option Operand}
theorem RO{n:Int}{k:Int->Prop}(G:G9 h z hi n k): ∃l,k l/\(h=true->∀(w:World) (C:Nat->Nat) (ρ:Operand->Value),(∀x,hi=some x->bh w C (z.ba x) (ρ x))->(hi.map ρ=none/\l=n)\/∃hJ,hi.map ρ=some (.int hJ l)):=by unfold G9 at G;split at G;exact⟨n,G,λ_ _ _ _ _=>.inl ⟨rfl,rfl⟩⟩;exact awU
variable{Bi:Bool}{cap:Nat}{r:Int}
theorem RP{len:Nat}{k' hi:Option Value}{l:Int}(aj:(k'=none/\l=0)\/∃hJ,k'=some (.int hJ l))(ae:(hi=none/\r=(len:Int))\/∃hJ,hi=some (.int hJ r))(h0:0<=l)(h1:l<=r)(A:r<=(cap:Int))(w:World):(Instr.sliceBounds Bi len cap k' hi none).run P w=.ok (l.toNat,r.toNat,cap) w:=by(have Z:0<=r:=by omega);rcases aj with⟨rfl,rfl⟩|⟨zu,rfl⟩<;>rcases ae with⟨rfl,rfl⟩|⟨wA,rfl⟩ <;> simp[Instr.sliceBounds,run_sliceBound,h0,h1,A,Z,Int.toNat_of_nonneg Z]
theorem abE{len:Nat}{k' hi:Option Value}{l:Int}{Hd:IntKind}(aj:(k'=none/\l=0)\/∃hJ,k'=some (.int hJ l))(ae:∃hJ,hi=some (.int hJ r))(h0:0<=l)(h1:l<=r)(A:r<=(cap:Int))(w:World):(Instr.sliceBounds Bi len cap k' hi (some (.int Hd r))).run P w=.ok (l.toNat,r.toNat,r.toNat) w:=by(have Z:0<=r:=by omega);obtain⟨wA,rfl⟩:=ae;rcases aj with⟨rfl,rfl⟩|⟨zu,rfl⟩ <;> simp[Instr.sliceBounds,run_sliceBound,h0,h1,A,Z,Int.toNat_of_nonneg Z]
variable{tg nR:iu}
theorem RQ{a:Option Addr}{n:Nat}(ae:bh w C (.Q tg k xs) (.slice a n cap)){l r m:Nat}(aj:l<=r)(zv:r<=xs.length)(hm:r<=m)(aqI:m<=cap)(u6:∀bv,nR.gj (.slice bv (r-l) (m-l))): bh w C (.Q nR k ((xs.take r).drop l)) (.slice (if m=l then a else a.map (·.add (l*k))) (r-l) (m-l)):=by(have hL:((xs.take r).drop l).length=r-l:=by simp;omega);rcases ae.kl with⟨rfl,⟨a0,W⟩,_⟩|⟨b,o,hY,g,W,_,F,hc,l',Y,df,ga,d9,eQ⟩;simp only[Value.slice.injEq]at W;obtain⟨rfl,rfl,rfl⟩:=W;(obtain rfl:r=0:=by simpa using zv);(obtain rfl:m=0:=by omega);(obtain rfl:l=0:=by omega);have:=u6 a;simpa using bh.jk (w:=w) (C:=C) nR k a this;simp only[Value.slice.injEq]at W;obtain⟨rfl,rfl,rfl⟩:=W;have fD:∀x∈(xs.take r).drop l,x.cells.length=k:=λx I=>Y x (aud (avp I));by_cases gw:m=l;subst gw;(obtain rfl:r=m:=by omega);have pU:(xs.take r).drop r=[]:=avV as0;have aqJ:0<=xs.length*k:=atq _;have:=bh.Q (w:=w) (C:=C) nR k [] b o 0 (λ_=>undef) (by simpa using u6 (some ⟨b,o,none⟩)) F (atg _) (atq _) (λx I=>by cases I) as0 (λj d N=>by simp[b1]at N) (λj d N=>by simp[b1]at N) (λj d N=>by simp[b1]at N);rw[pU];simpa using this;rw[as9 gw];(have abF:o+l*k+((xs.take r).drop l).length*k<=C b:=by rw[hL];(have:l*k+(r-l)*k<=xs.length*k:=by rw[<-av8];exact auL _ asZ);omega);have:=bh.Q (w:=w) (C:=C) nR k ((xs.take r).drop l) b (o+l*k) (m-l) (λj=>g (l*k+j)) (by rw[hL];exact u6 _) F (by rw[hL];omega) asZ fD abF (λj d N=>by rw[au9];exact ga _ _ (Lo Y aj zv N)) (λj d N=>d9 _ _ (Lo Y aj zv N)) (λj d N=>eQ _ _ (Lo Y aj zv N));rw[hL]at this;simpa[o6]using this
theorem abG{ay:List bx}(hT:dh P ay){x:D}{qI:Option Operand}{K:D->Prop}(G:Lf ay h z t x k' hi qI K): ∃d,K d/\(h=true->∀(w:World) (C:Nat->Nat) (v:Value) (ρ:Operand->Value),bh w C x v->(∀y,k'=some y->bh w C (z.ba y) (ρ y))->(∀y,hi=some y->bh w C (z.ba y) (ρ y))->(∀y,qI=some y->bh w C (z.ba y) (ρ y))->∃ak,(Instr.sliceAt t v (k'.map ρ) (hi.map ρ) (qI.map ρ)).run P w=.ok ak w/\bh w C d ak):=by unfold Lf at G;split at G;exact False.elim G;rename_i e ao;obtain⟨c3,rfl⟩:=hT.get ao;split at G;rename_i b5;have an:=c3.pT b5;split at G;rename_i s;obtain⟨l,G,He⟩:=RN G;obtain⟨r,G,sD⟩:=RO G;split at G;obtain⟨F,G⟩:=G;refine⟨_,G,λau w C v ρ ae h1 A Z=>?_⟩;obtain⟨dB,cg,eG⟩:=F au;cases ae;refine⟨_,?_,.O _⟩;have hs:(⟨⟨s⟩⟩:ByteArray).size=s.length:=rfl;have Lq:=sD au w C ρ A;have:=RP (P:=P) (Bi:=false) (len:=(⟨⟨s⟩⟩:ByteArray).size) (cap:=(⟨⟨s⟩⟩:ByteArray).size) (He au w C ρ h1) Lq dB cg eG w;simp[Instr.sliceAt,run_underlying an,Instr.slice,this,Lp];exact False.elim G;exact False.elim G;rename_i bD b5;have an:=c3.kk b5;split at G;exact False.elim G;rename_i aF km;obtain⟨fo,rfl⟩:=hT.get km;split at G;rename_i tg k xs;replace G:=ia G;obtain⟨Y,G⟩:=G;have Y:=atx Y;obtain⟨l,G,He⟩:=RN G;obtain⟨r,G,sD⟩:=RO G;(cases qI with|none =>obtain⟨F,G⟩:=G;refine⟨_,G,λau w C v ρ ae h1 A Z=>?_⟩;obtain⟨dB,cg,eG⟩:=F au;(have hA:∃a cap,v=.slice a xs.length cap/\xs.length<=cap:=axa);obtain⟨a,cap,rfl,hcap⟩:=hA;have:=RP (P:=P) (Bi:=true) (len:=xs.length) (cap:=cap) (He au w C ρ h1) (sD au w C ρ A) dB cg asZ w;have eQ:=RQ (nR:=.none) ae (l:=l.toNat) (r:=r.toNat) (m:=cap) asZ asZ asZ (atg _) (λ_=>trivial);refine⟨_,?_,eQ⟩;simp[Instr.sliceAt,run_underlying an,Instr.slice,this,fo.size,Y]|some abH =>replace G:=ia G;obtain⟨RR,G⟩:=G;obtain⟨d,N,hm⟩:=iW G;split at N;rename_i Hd Lr;obtain⟨F,G⟩:=N;refine⟨_,G,λau w C v ρ ae h1 A Z=>?_⟩;obtain⟨rfl,dB,cg,eG⟩:=F au;(have hA:∃a cap,v=.slice a xs.length cap/\xs.length<=cap:=axa);obtain⟨a,cap,rfl,hcap⟩:=hA;have gx:=(hm au w C _ (Z abH rfl)).fu;(have Lq:∃hJ,hi.map ρ=some (.int hJ Lr):=by rcases sD au w C ρ A with⟨ax,_⟩|h;cases hi<;>simp at ax RR;exact h);have:=abE (P:=P) (Bi:=true) (len:=xs.length) (cap:=cap) (Hd:=Hd) (He au w C ρ h1) Lq dB cg asZ w;have eQ:=RQ (nR:=.dR) ae (l:=l.toNat) (r:=Lr.toNat) (m:=Lr.toNat) asZ asZ (atg _) asZ (λbv=>⟨bv,_,rfl⟩);refine⟨_,?_,eQ⟩;simp[Instr.sliceAt,run_underlying an,Instr.slice,gx,this,fo.size,Y];exact False.elim N);exact False.elim G;exact False.elim G
theorem DH{h:Bool}{z:av}:∀{xs:List Operand} {k:List D->Prop} (_:zm h z xs k),∃ds,k ds/\(h=true->∀(w:World) (C:Nat->Nat) (ρ:Operand->Value),(∀x∈xs,bh w C (z.ba x) (ρ x))->db w C ds (xs.map ρ))
 |[],k,G=>⟨[],G,λ_ w C _ _=>.nil w C⟩
 |x::r,k,G=>by simp only[zm]at G;obtain⟨d,G,N⟩:=iW G;obtain⟨ds,Y,pV⟩:=DH G;exact⟨d::ds,Y,λau w C ρ c0=>.cons (N au w C _ (c0 x atk)) (pV au w C ρ λy hy=>c0 y (ato _ hy))⟩
theorem dK.rD{w:World}{C:Nat->Nat}:∀{ds kQ:List D} {vs:List Value},dK ds kQ->db w C ds vs->db w C kQ vs
 |[],[],vs,_,h=>h
 |d::ds,d'::kQ,[],_,h=>by have:=h.1;simp at this
 |d::ds,d'::kQ,v::vs,aj,h=>.cons (aj.1.le _ _ _ h.head) (aj.2.rD h.tail)
 |[],_::_,_,aj,_=>aj.elim
 |_::_,[],_,aj,_=>aj.elim
theorem db.append{w:World}{C:Nat->Nat}:∀{ds:List D} {vs:List Value} {kQ:List D} {gy:List Value},db w C ds vs->db w C kQ gy->db w C (ds++kQ) (vs++gy)
 |[],[],_,_,_,h=>h
 |d::ds,v::vs,_,_,h,bz=>.cons h.head (h.tail.append bz)
 |[],_::_,_,_,h,_=>by have:=h.1;simp at this
 |_::_,[],_,_,h,_=>by have:=h.1;simp at this
def gz(C:Nat->Nat)(b n:Nat):Nat->Nat:=λx=>if x=b then n else C x
theorem hB(C:Nat->Nat)(b n:Nat):gz C b n b=n:=by simp[gz]
theorem rE(C:Nat->Nat){x:Nat}(n:Nat)(h:x≠b):gz C b n x=C x:=by simp[gz,h]
theorem abI(w:World)(o:Obj)(h:k<w.heap.size):(w.alloc o).heap[k]?=w.heap[k]?:=Below.heap_alloc w o k h
theorem kR(w:World)(o:Obj):(w.alloc o).heap[w.heap.size]?=some o:=by show(w.heap.push o)[w.heap.size]?=some o;simp
theorem da.alloc(Ft:Nat->Prop)(w:World)(C:Nat->Nat)(o:Obj)(n:Nat):da Ft w C (w.alloc o) (gz C w.heap.size n) :=
 ⟨⟨by simp,λb F=>by rw[rE _ _ (Nat.ne_of_lt F)];exact atg _,λb bL F _=>World.cell?_alloc_lt w o ⟨b,bL,none⟩ F⟩,rfl,rfl,rfl,
  λb F _=>⟨abI w o F,rE _ _ (Nat.ne_of_lt F)⟩⟩
theorem da.drew(Ft:Nat->Prop)(w:World)(C:Nat->Nat):da Ft w C w.drew C :=
 ⟨⟨atg _,λ_ _=>atg _,λ_ _ _ _=>rfl⟩,rfl,rfl,rfl,λ_ _ _=>⟨rfl,rfl⟩⟩
theorem bh.oE(h:bh w C d v)(ah:d.one=true):v.cells=#[v]/\v.oneCell'=true:=by
 cases h<;>simp[D.one]at ah<;>try exact⟨rfl,rfl⟩
 cases v<;>simp[Value.oneCell']at ah<;>exact⟨rfl,rfl⟩
theorem Ls:∀(aA:List D) (n:Nat) (d:D),(iw aA n d).length=aA.length
 |[],_,_=>rfl
 |_::_,0,_=>rfl
 |_::r,n+1,d=>by simp[iw,Ls r n d]
theorem Lt:∀(aA:List D) (n:Nat) (d:D) (i:Nat),(iw aA n d)[i]?=if i=n/\n<aA.length then some d else aA[i]?
 |[],n,d,i=>by simp[iw]
 |c::r,0,d,i=>by cases i<;>simp[iw]
 |c::r,n+1,d,i=>by cases i with|zero=>simp[iw]|succ i=>simp[iw,Lt r n d i]
theorem abJ{off:Nat}(h:off+ds.length<=aA.length):(sA aA off ds).length=aA.length:=by simp[sA];omega
theorem RS{off:Nat}(h:off+ds.length<=aA.length)(i:Nat): (sA aA off ds)[i]?=if off<=i/\i<off+ds.length then ds[i-off]? else aA[i]?:=by unfold sA;by_cases h1:i<off;rw[as9 asZ,atL,atn as0,atZ,as_ h1];by_cases A:i<off+ds.length;rw[as_ ⟨by omega,A⟩,atL,atJ as0,atn as0];congr 1;simp;omega;rw[as9 asZ,atJ as0,avd];congr 1;simp;omega
variable{dl:List Value}
theorem db.laid{vs:List Value}{off:Nat}{r:Array Value}(h:db w C aA vs)(bz:db w C ds dl)(dS:off+ds.length<=aA.length)(hs:r.size=vs.length)(ae:∀k,r[k]?=if off<=k/\k<off+dl.length/\k<vs.length then dl[k-off]? else vs[k]?):db w C (sA aA off ds) r.toList:=by refine⟨by rw[abJ dS,h.1];simpa using hs.symm,λi d v N W=>?_⟩;rw[RS dS]at N;(have dL:r[i]?=some v:=by simpa using W);rw[ae]at dL;have aj:=h.1;have mM:=bz.1;by_cases hc:off<=i/\i<off+ds.length;rw[as_ hc]at N;rw[as_ ⟨hc.1,by omega,by omega⟩]at dL;exact bz.2 _ _ _ N dL;rw[as9 hc]at N;rw[as9 asZ]at dL;exact h.2 _ _ _ N dL
theorem RT{off:Nat}(h:off<aA.length):iw aA off d=sA aA off [d]:=by apply auu;intro i;rw[Lt,RS as0];by_cases hi:i=off;subst hi;rw[as_ ⟨rfl,h⟩,as_ ⟨atg _,by simp⟩];simp;rw[as9 asZ,as9 as0]
theorem abK{cells:Array Value}{off:Nat}(h:db w C aA cells.toList)(bz:db w C ds v.cells.toList)(dS:off+ds.length<=aA.length): db w C (sA aA off ds) (v.cells.zipIdx.foldl (λaA (c,j)=>aA.setIfInBounds (off+j) c) cells).toList/\(v.cells.zipIdx.foldl (λaA (c,j)=>aA.setIfInBounds (off+j) c) cells).size=cells.size:=by have M:=Great.foldl_set off v.cells.toList 0 cells;(have e:(v.cells.zipIdx.foldl (λaA (c,j)=>aA.setIfInBounds (off+j) c) cells)=((v.cells.toList.zipIdx 0).foldl (λaA (x:Value×Nat)=>aA.setIfInBounds (off+x.2) x.1) cells):=by rw[<-Array.foldl_toList,Array.toList_zipIdx]);rw[e];refine⟨h.laid bz dS (by simpa using M.1) λk=>?_,M.1⟩;rw[M.2 k];simp
theorem RU{o5:List (Nat×Nat×Bool)}:∀{ds:List (Nat×D)} {aA:List D} {K:List D->Prop} (_:zn o5 aA ds K),∃du,K du/\∀(w:World) (C:Nat->Nat) (cells:Array Value) (vs:List (Nat×Value)) (eh:List (Nat×Nat)),db w C aA cells.toList->vs.map (·.1)=ds.map (·.1)->db w C (ds.map (·.2)) (vs.map (·.2))->(∀(i o aB:Nat) (l9:Bool),o5[i]?=some (o,aB,l9)->eh[i]?=some (o,aB))->∃zw,Instr.fill (eh[·]?) cells vs=some zw/\db w C du zw.toList
 |[],aA,K,G=>⟨aA,G,λw C cells vs eh ae W _ _=>by(have:vs=[]:=by simpa using W);subst this;exact⟨cells,rfl,ae⟩⟩
 |(i,d)::r,aA,K,G=>by simp only[zn]at G;split at G;exact False.elim G;rename_i o aB l9 M;(have key:∃kQ,kQ.length=aB/\o+aB<=aA.length/\zn o5 (sA aA o kQ) r K/\∀(w:World) (C:Nat->Nat) (v:Value),bh w C d v->db w C kQ v.cells.toList:=by cases l9 with|true =>simp only at G;split at G;rename_i kQ;replace G:=ia G;obtain⟨F,G⟩:=G;rw[atd]at F;refine⟨kQ,atx F.1,atH F.2,G,λw C v ae=>?_⟩;obtain⟨vs,rfl,h⟩:=ae.tx;exact h;exact False.elim G|false =>simp only at G;replace G:=ia G;obtain⟨F,G⟩:=G;rw[atd,atd]at F;have bi:o<aA.length:=atY (atX _) (atH F.1.1);have hsz:=atx F.2;refine⟨[d],by simp[hsz],by omega,by rw[<-RT bi];exact G,λw C v ae=>?_⟩;rw[(ae.oE F.1.2).1];exact .cons ae (.nil _ _));obtain⟨kQ,aj,dS,G,N⟩:=key;obtain⟨du,hK,Hf⟩:=RU G;refine⟨du,hK,λw C cells vs eh ae W fK aw=>?_⟩;cases vs with|nil=>simp at W|cons p vs =>obtain⟨hp,v⟩:=p;simp only[atG,avo]at W;obtain⟨rfl,dL⟩:=W;have Lu:=N w C v fK.head;obtain⟨h1,A⟩:=abK ae Lu (by rw[aj];exact dS);obtain⟨zw,Z,aD⟩:=Hf w C _ vs eh h1 dL fK.tail aw;refine⟨zw,?_,aD⟩;unfold Instr.fill;(have o7:v.cells.size=aB:=by have:=Lu.1;rw[aj]at this;simpa using this.symm);(have kn:cells.size=aA.length:=by have:=ae.1;simpa using this.symm);rw[aw _ _ _ _ M];simp only;rw[as9 (by rw[o7,kn];simp;omega)];exact Z
theorem DI{h:Bool}{z:av}:∀{xs:List (Nat×Operand)} {k:List (Nat×D)->Prop} (_:zo h z xs k),∃ds,k ds/\ds.map (·.1)=xs.map (·.1)/\(h=true->∀(w:World) (C:Nat->Nat) (ρ:Operand->Value),(∀x∈xs,bh w C (z.ba x.2) (ρ x.2))->db w C (ds.map (·.2)) (xs.map λx=>ρ x.2))
 |[],k,G=>⟨[],G,rfl,λ_ w C _ _=>.nil w C⟩
 |(i,x)::r,k,G=>by simp only[zo]at G;obtain⟨d,G,N⟩:=iW G;obtain⟨ds,Y,h1,pV⟩:=DI G;exact⟨(i,d.jl)::ds,Y,by simp[h1],λau w C ρ c0=>.cons (N au w C _ (c0 (i,x) atk)).jl (pV au w C ρ λy hy=>c0 y (ato _ hy))⟩
theorem RV:∀{bG:List Field} {r:List (Nat×Nat×Bool)} (_:tD P bG r=true),bG.mapM (λf=>(P.info? f.type).map λi=>(f.offset,i.size))=some (r.map λx=>(x.1,x.2.1))
 |[],[],_=>rfl
 |f::bG,(o,aB,l9)::r,h=>by simp only[tD,atd]at h;obtain⟨⟨⟨⟨h1,A⟩,Z⟩,aD⟩,bc⟩:=h;have aY:=RV bc;split at A;rename_i i hi;have bY:=atx h1;have b':=atx A;simp[hi,aY,bY,b'];cases A
 |[],_::_,h=>by simp[tD]at h
 |_::_,[],h=>by simp[tD]at h
variable{V:List D}
theorem abL{e:bx}(ao:e.gj P)(b5:e.kind=.struct)(bH:e.zero=some V){ds:List (Nat×D)}{K:List D->Prop}(G:zn e.o5 V ds K): ∃aA,K aA/\∀(w:World) (C:Nat->Nat) (vs:Array (Nat×Value)),vs.toList.map (·.1)=ds.map (·.1)->db w C (ds.map (·.2)) (vs.toList.map (·.2))->∃v,(Instr.build e.t vs).run P w=.ok v w/\bh w C (.agg aA) v:=by obtain⟨aA,hK,h⟩:=RU G;refine⟨aA,hK,λw C vs h1 A=>?_⟩;obtain⟨bG,l_,tE,_⟩:=ao.Bf b5;obtain⟨i,hi,hs,_,nk⟩:=ao.qJ;obtain⟨ei,lJ,ma,jK⟩:=nk V bH;have dj:=RV tE;obtain⟨zw,Z,aD⟩:=h w C ei.cells vs.toList (e.o5.map λx=>(x.1,x.2.1)) (jK w C) h1 A (λi o aB l9 M=>by simp[M]);refine⟨.agg zw,run_build w e.t vs zw ?_,.agg _ _ aD.1 aD.2⟩;unfold Program.built;rw[hi,l_];simp only[lJ,dj];simpa using Z
theorem db.one{w:World}{C:Nat->Nat}{ds:List D}{vs:List Value}(h:db w C ds vs)(ah:ds.all D.one=true):∀ak∈vs,ak.oneCell'=true:=by intro ak an;obtain⟨j,ad⟩:=atz.1 an;obtain⟨d,N⟩:=lI (l:=ds) (i:=j) (by rw[h.1];exact e9 ad);exact((h.2 j d ak N ad).oE (at0.1 ah d (atr N))).2
theorem Lv{k:Nat}:∀{ds:List (Nat×D)} {n:Nat} (_:tC k n ds),ds.map (·.1)=List.range' n ds.length/\∀w C,∀x∈ds,∀v,bh w C x.2 v->x.2.cells.length=k/\v.cells.size=k/\db w C x.2.cells v.cells.toList/\∀ak∈v.cells.toList,ak.oneCell'=true
 |[],n,_=>⟨rfl,λ_ _ x I=>by cases I⟩
 |(i,d)::r,n,h=>by simp only[tC]at h;replace h:=ia h;obtain⟨F,h⟩:=h;rw[atd]at F;obtain⟨h1,A⟩:=Lv h;have hi:=atx F.1;subst hi;refine⟨by simp[h1,List.range'_succ],λw C x I v W=>?_⟩;rcases atu.1 I with rfl|I;have Z:=F.2;simp only at W Z⊢;split at Z;rename_i ds;rw[atd]at Z;obtain⟨vs,rfl,h⟩:=W.tx;have aj:=atx Z.1;refine⟨aj,?_,h,h.one Z.2⟩;have:=h.1;simp only[Value.cells,at6];omega;rename_i a6;rw[atd]at Z;obtain⟨aD,bc⟩:=W.oE Z.1;have Y:=atx Z.2;(have hcells:d.cells=[d]:=by cases d<;>first|rfl|exact absurd rfl (a6 _));rw[hcells,aD];exact⟨by simp[Y],by simp[Y],.cons W (.nil _ _),by simpa using bc⟩;exact A w C x I v W
theorem Lw{w:World}{C:Nat->Nat}:∀{ds:List D} {vs:List Value},ds.length=vs.length->(∀(i:Nat) d v,ds[i]?=some d->vs[i]?=some v->db w C d.cells v.cells.toList)->db w C (b1 ds) (vs.flatMap λv=>v.cells.toList)
 |[],[],_,_=>.nil _ _
 |d::ds,v::vs,aj,h=>by simp only[b1,auc];exact(h 0 d v rfl rfl).append (Lw (by simpa using aj) λi d' c' h1 A=>h (i+1) d' c' (by simpa using h1) (by simpa using A))
 |[],_::_,aj,_=>by simp at aj
 |_::_,[],aj,_=>by simp at aj
theorem xW{vs:List Value}{e:TypeId}{ko:Nat×Nat}(F:w.heap[b]?=some (.cells ⟨vs⟩ e ko))(Y:∀x∈xs,x.cells.length=k)(hc:xs.length<=cap)(hm:cap<=maxLen)(df:xs.length*k<=C b)(ae:∀(j:Nat) d,(b1 xs)[j]?=some d->∃v,vs[j]?=some v/\bh w C d v/\v.oneCell'=true)(u6:tg.gj (.slice (some ⟨b,0,none⟩) xs.length cap)): bh w C (.Q tg k xs) (.slice (some ⟨b,0,none⟩) xs.length cap):=by refine .Q tg k xs b 0 cap (λj=>vs.getD j undef) u6 (auW.1 F).1 hc hm Y asZ (λj d N=>?_) (λj d N=>?_) (λj d N=>?_);obtain⟨v,W,_⟩:=ae j d N;rw[atT];simp[World.cell?,F,List.getD,W];obtain⟨v,W,_,ah⟩:=ae j d N;simpa[List.getD,W]using ah;obtain⟨v,W,Lx,_⟩:=ae j d N;simpa[List.getD,W]using Lx
theorem Hg{k:IntKind}:∀zs:List Int,b1 (zs.map (D.int k))=zs.map (D.int k)
 |[]=>rfl
 |V::zs=>by have:=Hg (k:=k) zs;simp only[b1,atG,auc]at*;rw[this];rfl
theorem Hh{vs:List Value}{e:TypeId}(Y:∀x∈xs,x.cells.length=k)(hc:xs.length<=cap)(hm:cap<=maxLen)
  (ae:∀(j:Nat) d,(b1 xs)[j]?=some d->∃v,vs[j]?=some v/\bh w C d v/\v.oneCell'=true) (u6:tg.gj (.slice (some ⟨w.heap.size,0,none⟩) xs.length cap)) :
  bh (w.alloc (.cells ⟨vs⟩ e)) (gz C w.heap.size (xs.length*k)) (.Q tg k xs) (.slice (some ⟨w.heap.size,0,none⟩) xs.length cap) :=
 xW (kR w _) Y hc hm (by simp[hB]) (λj d N=>by
  obtain⟨v,W,Lx,ah⟩:=ae j d N
  exact⟨v,W,Lx.ext (da.alloc (λ_=>False) w C (.cells ⟨vs⟩ e) (xs.length*k)).ext,ah⟩) u6
theorem Ly(s:ByteArray):∀(f i:Nat) (fw:Array Value),(Conv.runesFrom s f i fw).toList=fw.toList++(sB s f i).map (Value.int .i32)
 |0,i,fw=>by simp[Conv.runesFrom,sB]
 |f+1,i,fw=>by simp only[Conv.runesFrom,sB];split;rw[Ly s f];simp;simp
theorem abM(zs:List Int):runesBytes zs=⟨⟨cw zs⟩⟩:=by(have key:∀(zs:List Int) (r:ByteArray),zs.foldl (λr n=>r++Utf8.encode n) r=r++⟨⟨cw zs⟩⟩:=by intro zs;induction zs with|nil=>intro r;apply ByteArray.ext;simp[cw]|cons V zs aY =>intro r;rw[auF,aY];apply ByteArray.ext;apply au7;simp[cw]);rw[runesBytes,key];apply ByteArray.ext;simp
theorem RW{k:rC}(h:G_ k=true):k=.int .i32:=by unfold G_ at h;split at h;rfl;cases h
variable{oC:Nat}
theorem abN{ay:List bx}(hT:dh P ay){dst:Nat}{x:D}{K:D->Prop}(G:Lg ay oC dst x K): ∃d,K d/\∀(w:World) (C:Nat->Nat) (v:Value),bh w C x v->∃ak w' aQ,(convert oC dst v).run P w=.ok ak w'/\bh w' aQ d ak/\da (λ_=>False) w C w' aQ:=by unfold Lg at G;split at G;rename_i a b ha F;obtain⟨zx,rfl⟩:=hT.get ha;obtain⟨zy,rfl⟩:=hT.get F;split at G;rename_i ag xX dT n iy pW;have h1:=zx.sC iy;have A:=zy.sC pW;(have key:∃m,K (.int xX m)/\m=xX.wrap n:=by rcases G with⟨h1,A⟩|A;exact⟨n,A,(Lj h1).symm⟩;exact⟨_,A,rfl⟩);obtain⟨m,hK,rfl⟩:=key;refine⟨_,hK,λw C v ae=>⟨_,w,C,?_,.int _ _,.refl _ _ _⟩⟩;rw[ae.fu];simp[convert,run_underlying h1,run_underlying A,Conv.intToInt];rename_i s iy pW;have h1:=zx.pT iy;have A:=zy.pT pW;refine⟨_,G,λw C v ae=>⟨_,w,C,?_,.O _,.refl _ _ _⟩⟩;rw[ae.kM];simp[convert,run_underlying h1,run_underlying A];rename_i ag dT n iy pW;have h1:=zx.sC iy;have A:=zy.pT pW;refine⟨_,G,λw C v ae=>⟨_,w,C,?_,.O _,.refl _ _ _⟩⟩;rw[ae.fu,run_convert_int_string w a.t b.t dT n (by rw[h1];rfl) A];rename_i bD s iy pW;split at G;rename_i aF km;obtain⟨fo,rfl⟩:=hT.get km;replace G:=ia G;obtain⟨F,hlen,hK⟩:=G;simp only[atd]at F;have kp:=RW F.1;refine⟨_,hK,λw C v ae=>?_⟩;rw[ae.kM];have hsz:=size_runesFrom ⟨⟨s⟩⟩ s.length 0 #[];have iX:(⟨⟨s⟩⟩:ByteArray).size=s.length:=rfl;have cY:=run_runes_of_string (P:=P) w a.t b.t aF.t ⟨⟨s⟩⟩ (zx.pT iy) (zy.kk pW) (fo.sC kp) (by rw[iX];simp at hsz;omega);rw[iX]at cY;have DJ:=Ly ⟨⟨s⟩⟩ s.length 0 #[];(have tF:(Conv.runesFrom ⟨⟨s⟩⟩ s.length 0 #[]).size=(h' s).length:=by rw[<-au0,DJ];simp[h']);have h2:=grownCap_ge w (Conv.runesFrom ⟨⟨s⟩⟩ s.length 0 #[]).size 0 aF.t;refine⟨_,_,_,cY,?_,(da.drew _ w C).trans (da.alloc _ w.drew C _ ((h' s).length*1)) (λ_ _ M=>M)⟩;have eQ:=Hh (w:=w.drew) (C:=C) (tg:=.none) (k:=1) (xs:=(h' s).map (D.int .i32)) (e:=aF.t) (cap:=grownCap w (Conv.runesFrom ⟨⟨s⟩⟩ s.length 0 #[]).size 0 aF.t) (vs:=(Conv.runesFrom ⟨⟨s⟩⟩ s.length 0 #[]++Array.replicate (grownCap w (Conv.runesFrom ⟨⟨s⟩⟩ s.length 0 #[]).size 0 aF.t-(Conv.runesFrom ⟨⟨s⟩⟩ s.length 0 #[]).size) (Value.int .i32 0)).toList) (λx I=>by obtain⟨n,_,rfl⟩:=aty.1 I;rfl) as0 (grownCap_le_maxLen _ _ _ _ (by simp at hsz;unfold maxLen;omega)) (λj d N=>by rw[Hg]at N;rw[atA,auj]at N;obtain⟨n,ax,rfl⟩:=N;refine⟨.int .i32 n,?_,.int _ _,rfl⟩;rw[avi,DJ];simp only[auw];rw[atn (by have:=(atI.1 ax).1;simpa[h']using this)];rw[atA];have:(sB ⟨⟨s⟩⟩ s.length 0)[j]?=some n:=ax;rw[this];rfl) trivial;rw[tF]at eQ⊢;simp only[atb]at eQ;exact eQ;exact False.elim G;rename_i bD tg k xs iy pW;split at G;rename_i aF km;obtain⟨fo,rfl⟩:=hT.get km;replace G:=ia G;obtain⟨F,zs,rfl,hK⟩:=G;simp only[atd]at F;have kp:=RW F.1;obtain rfl:k=1:=atx F.2;refine⟨_,hK,λw C v ae=>?_⟩;rcases ae.kl with⟨h1,⟨a0,W⟩,_⟩|⟨eo,o,cap,g,W,_,_,hc,_,Y,_,ga,_,eQ⟩;(have:zs=[]:=by simpa using h1);subst this;refine⟨.string ⟨⟨[]⟩⟩,w,C,?_,.O _,.refl _ _ _⟩;(cases a0 with|none=>rw[W,run_convert_runes_nil w a.t b.t aF.t 0 0 (zx.kk iy) (fo.sC kp) (zy.pT pW)];rfl|some dF =>rw[W,run_convert_runes w a.t b.t aF.t dF 0 0 [] (atg _) (zx.kk iy) (fo.sC kp) (zy.pT pW) (λj ad=>by simp at ad)];rfl);refine⟨_,w,C,?_,.O _,.refl _ _ _⟩;(have Bj:∀j,j<zs.length->w.cell? (Addr.add ⟨eo,o,none⟩ j)=some (.int .i32 (zs.getD j 0)):=λj ad=>by(have N:(b1 (zs.map (D.int .i32)))[j]?=some (.int .i32 zs[j]):=by rw[Hg];simp[ad]);have h1:=ga j _ N;rw[(eQ j _ N).fu]at h1;rw[o6,h1];simp[List.getD,ad]);rw[W,run_convert_runes w a.t b.t aF.t ⟨eo,o,none⟩ _ cap zs as1 (zx.kk iy) (fo.sC kp) (zy.pT pW) Bj,abM];simp;exact False.elim G;exact False.elim G;exact False.elim G
variable{aF:bx}
theorem abO{e:bx}(ao:e.gj P)(km:aF.gj P)(b5:e.kind=.slice aF.t)(bH:aF.zero.isSome=true)(h0:0<aF.aB){n:Nat}(ax:n*aF.aB<=16777216){ds:List (Nat×D)}(sE:ds.length=n)(dM:tC aF.aB 0 ds){vs:List (Nat×Value)}(h1:vs.map (·.1)=ds.map (·.1))(A:db w C (ds.map (·.2)) (vs.map (·.2))): ∃v w' aQ,(Instr.buildSlice e.t n ⟨vs⟩).run P w=.ok v w'/\bh w' aQ (.Q .dR aF.aB (ds.map (·.2))) v/\da (λ_=>False) w C w' aQ:=by obtain⟨V,bH⟩:=avF.1 bH;obtain⟨i,hi,hs,_,nk⟩:=km.qJ;obtain⟨ei,lJ,ma,jK⟩:=nk V bH;obtain⟨tG,hcells⟩:=Lv dM;have an:=ao.kk b5;(have o7:vs.length=n:=by have:=A.1;simp only[atb]at this;omega);(have fK:vs=((vs.map (·.2)).zipIdx 0).map λx=>(x.2,x.1):=awJ);(have hsz:∀(j:Nat) d v,(ds.map (·.2))[j]?=some d->(vs.map (·.2))[j]?=some v->d.cells.length=aF.aB/\v.cells.size=aF.aB/\db w C d.cells v.cells.toList/\∀ak∈v.cells.toList,ak.oneCell'=true:=aw2);(have mQ:∀v∈vs.map (·.2),v.cells.size=aF.aB:=awV);have DK:=Great.fill_whole h0 (vs.map (·.2)) ((Array.range (n*aF.aB)).map (ei.cells[·%ei.cells.size]!)) mQ (by simp only[atb,o7,Array.size_map,Array.size_range]);rw[<-fK]at DK;(have cY:(Instr.buildSlice e.t n ⟨vs⟩).run P w=.ok (.slice (some ⟨w.heap.size,0,none⟩) n n) (w.alloc (.cells ((vs.map (·.2)).flatMap λv=>v.cells.toList).toArray aF.t)):=awF);refine⟨_,_,_,cY,?_,da.alloc _ w C _ (n*aF.aB)⟩;(have aj:(ds.map (·.2)).length=n:=by simpa using sE);(have Y:∀x∈ds.map (·.2),x.cells.length=aF.aB:=awW);have dm:=Lw (w:=w) (C:=C) (ds:=ds.map (·.2)) (vs:=vs.map (·.2)) A.1 (λi d v N W=>(hsz i d v N W).2.2.1);have:=Hh (w:=w) (C:=C) (tg:=.dR) (k:=aF.aB) (xs:=ds.map (·.2)) (vs:=(vs.map (·.2)).flatMap λv=>v.cells.toList) (e:=aF.t) (cap:=n) Y asZ (by simp only[maxLen];have:n<=n*aF.aB:=awf n h0;omega) (λj d N=>awI) ⟨_,_,by rw[aj]⟩;rw[aj]at this;exact this
theorem LB{t:TypeId}{k:rC}(h:G' P t k=true): (∃q,k=.int q/\P.underlying t=some (.int q))\/(k=.bool/\P.underlying t=some .bool)\/(k=.O/\P.underlying t=some .string):=by unfold G' at h;split at h;rename_i q rF an;simp only[atS]at h;subst h;exact .inl ⟨q,rfl,an⟩;rename_i an;exact .inr (.inl ⟨rfl,an⟩);rename_i an;exact .inr (.inr ⟨rfl,an⟩);cases h
theorem LC:∀{ag:List rC} {xs a':List D} {K:Bool->Prop} (_:Bb ag xs a' K),∃b,K b/\∀(d:Nat) (bG:List Field) (n:Nat) (w:World) (C:Nat->Nat) (bJ nl:List Value),wy P bG ag n=true->db w C xs (bJ.drop n)->db w C a' (nl.drop n)->(Op.eqFields (d+1) ⟨bJ⟩ ⟨nl⟩ bG).run P w=.ok b w
 |[],[],[],K,G=>⟨true,G,λd bG n w C bJ nl F _ _=>by cases bG with|nil=>simp[Op.eqFields]|cons f bG=>simp[wy]at F⟩
 |k::ag,x::xs,y::a',K,G=>by simp only[Bb]at G;(have key:∃b,Bb ag xs a' (λc=>K (b&&c))/\∀(d:Nat) (t:TypeId) (w:World) (C:Nat->Nat) (ak v:Value),G' P t k=true->bh w C x ak->bh w C y v->(Op.equalIn (d+1) t ak v).run P w=.ok b w/\wx P t=some false:=by unfold RF at G;split at G;rename_i aqK cO a d0 b;replace G:=ia G;obtain⟨Y,G⟩:=G;obtain rfl:=Ha Y;refine⟨_,G,λd t w C ak v au an W=>?_⟩;rcases LB au with⟨q,u7,cW⟩|⟨h,_⟩|⟨h,_⟩;rw[an.fu,W.fu];exact⟨run_equalIn_int w d t cO q a b cW,by simp[wx,cW]⟩;cases h;cases h;rename_i a b;refine⟨_,G,λd t w C ak v au an W=>?_⟩;rcases LB au with⟨q,h,_⟩|⟨h,_⟩|⟨_,cW⟩;cases h;cases h;rw[an.kM,W.kM];refine⟨?_,by simp[wx,cW]⟩;have:=run_equalIn_string (P:=P) w d t ⟨⟨a⟩⟩ ⟨⟨b⟩⟩ cW;rw[ByteArray.toList_eq,ByteArray.toList_eq]at this;exact this;rename_i a b;refine⟨_,G,λd t w C ak v au an W=>?_⟩;rcases LB au with⟨q,h,_⟩|⟨_,cW⟩|⟨h,_⟩;cases h;rw[an.hW,W.hW];exact⟨run_equalIn_bool' w d t a b cW,by simp[wx,cW]⟩;cases h;exact False.elim G);obtain⟨b,G,F⟩:=key;obtain⟨c,hK,hc⟩:=LC G;refine⟨b&&c,hK,λd bG n w C bJ nl ao I hy=>?_⟩;cases bG with|nil=>simp[wy]at ao|cons f bG =>simp only[wy,atd]at ao;obtain⟨⟨⟨h1,A⟩,Z⟩,aD⟩:=ao;have xU:=atx h1;(have Hi:n<bJ.length:=by have:=I.1;simp at this;omega);(have RX:n<nl.length:=by have:=hy.1;simp at this;omega);have Hj:bJ.drop n=bJ[n]::bJ.drop (n+1):=aue Hi;have abP:nl.drop n=nl[n]::nl.drop (n+1):=aue RX;rw[Hj]at I;rw[abP]at hy;obtain⟨bc,cL⟩:=F d f.type w C _ _ A I.head hy.head;have eV:=hc d bG (n+1) w C bJ nl aD I.tail hy.tail;(have a6 : f.name ≠ "_" := by simpa using Z);simp only[Op.eqFields,as_ a6,Sem.run_bind,part,Hb cL,Result.andThen_ok,auk,auU,xU];(have g1:(⟨bJ⟩:Array Value)[n]?=some bJ[n]:=by simp[Hi]);(have fx:(⟨nl⟩:Array Value)[n]?=some nl[n]:=by simp[RX]);rw[g1,fx];simp only[Sem.run_pure,Result.andThen_ok,bc];cases b<;>simp[eV]
 |[],[],_::_,_,G=>False.elim G
 |[],_::_,_,_,G=>False.elim G
 |_::_,[],_,_,G=>False.elim G
 |_::_,_::_,[],_,G=>False.elim G
theorem abQ{ay:List bx}(hT:dh P ay){op:BinOp}{x y:D}{K:D->Prop}(G:La ay h op t x y K)(zz zA:Operand): ∃d,K d/\(h=true->∀(w:World) (C:Nat->Nat) (ak v:Value),bh w C x ak->bh w C y v->∃r,(do eqGuard op t zz zA ak v;binOp op t ak v:Sem Value).run P w=.ok r w/\bh w C d r):=by unfold La at G;split at G;rename_i k a bB b;obtain⟨d,hK,N⟩:=abt (P:=P) G;refine⟨d,hK,λau w C ak v an W=>?_⟩;obtain⟨r,cY,ae⟩:=N au;refine⟨r,?_,ae w C⟩;rw[an.fu,W.fu];simp only[Sem.run_bind,zq op t zz zA (.int k a) (.int bB b) w (λ_ h=>by cases h) as6,Result.andThen_ok,cY];rename_i a b;obtain⟨d,hK,N⟩:=abu (P:=P) G;refine⟨d,hK,λau w C ak v an W=>?_⟩;obtain⟨r,cY,ae⟩:=N au;refine⟨r,?_,ae w C⟩;rw[an.kM,W.kM];simp only[Sem.run_bind,zq op t zz zA (.string ⟨⟨a⟩⟩) (.string ⟨⟨b⟩⟩) w (λ_ h=>by cases h) as6,Result.andThen_ok,cY];rename_i a b;split at G;exact False.elim G;rename_i e ao;obtain⟨c3,rfl⟩:=hT.get ao;replace G:=ia G;obtain⟨F,G⟩:=G;(have b5:e.kind=.bool:=by unfold RG at F;split at F<;>simp_all);have an:=c3.abr b5;split at G;refine⟨_,G,λau w C ak v cW W=>⟨_,?_,.bool _⟩⟩;rw[cW.hW,W.hW];simp only[Sem.run_bind,zq _ e.t zz zA (.bool a) (.bool b) w (λ_ h=>by cases h) as6,Result.andThen_ok];simp[binOp,Op.equal,Op.maxDepth,run_equalIn_bool' w 9999 e.t a b an];refine⟨_,G,λau w C ak v cW W=>⟨_,?_,.bool _⟩⟩;rw[cW.hW,W.hW];simp only[Sem.run_bind,zq _ e.t zz zA (.bool a) (.bool b) w (λ_ h=>by cases h) as6,Result.andThen_ok];simp[binOp,Op.equal,Op.maxDepth,run_equalIn_bool' w 9999 e.t a b an];exact False.elim G;rename_i xs a';split at G;rename_i e ao;obtain⟨c3,rfl⟩:=hT.get ao;split at G;replace G:=ia G;obtain⟨hc,G⟩:=G;obtain⟨b,hK,F⟩:=LC (P:=P) G;refine⟨_,hK,λau w C ak v an W=>⟨.bool b,?_,.bool b⟩⟩;obtain⟨bJ,rfl,I⟩:=an.tx;obtain⟨nl,rfl,hy⟩:=W.tx;rw[atd]at hc;(have b5:e.kind=.struct:=by have:=hc.1;unfold G7 at this;split at this<;>simp_all);obtain⟨bG,l_,_,_,a1,aV,jm⟩:=c3.Bf b5;(have jm:wy P bG.toList e.u3 0=true:=axv);(have sF:P.underlying e.t=some (.struct (P.fieldsOf e.t)):=by simp[Program.fieldsOf,l_]);(have LD:P.fieldsOf e.t=bG:=by simp[Program.fieldsOf,l_]);have:=F 9998 bG.toList 0 w C bJ nl jm (by simpa using I) (by simpa using hy);simp only[Sem.run_bind,run_eqGuard_agg w _ e.t zz zA ⟨bJ⟩ ⟨nl⟩ aV,Result.andThen_ok,run_eql_struct];rw[show(10000:Nat)=9999+1 from rfl,run_equalIn_struct w 9999 e.t ⟨bJ⟩ ⟨nl⟩ sF a1,LD,this];rfl;replace G:=ia G;obtain⟨hc,G⟩:=G;obtain⟨b,hK,F⟩:=LC (P:=P) G;refine⟨_,hK,λau w C ak v an W=>⟨.bool (!b),?_,.bool (!b)⟩⟩;obtain⟨bJ,rfl,I⟩:=an.tx;obtain⟨nl,rfl,hy⟩:=W.tx;rw[atd]at hc;(have b5:e.kind=.struct:=by have:=hc.1;unfold G7 at this;split at this<;>simp_all);obtain⟨bG,l_,_,_,a1,aV,jm⟩:=c3.Bf b5;(have jm:wy P bG.toList e.u3 0=true:=axv);(have sF:P.underlying e.t=some (.struct (P.fieldsOf e.t)):=by simp[Program.fieldsOf,l_]);(have LD:P.fieldsOf e.t=bG:=by simp[Program.fieldsOf,l_]);have:=F 9998 bG.toList 0 w C bJ nl jm (by simpa using I) (by simpa using hy);simp only[Sem.run_bind,run_eqGuard_agg w _ e.t zz zA ⟨bJ⟩ ⟨nl⟩ aV,Result.andThen_ok,run_neq_struct];rw[show(10000:Nat)=9999+1 from rfl,run_equalIn_struct w 9999 e.t ⟨bJ⟩ ⟨nl⟩ sF a1,LD,this];rfl;exact False.elim G;exact False.elim G;exact False.elim G
theorem Bk{ay:List bx}(hT:dh P ay){o:Oper}{K:D->Prop}(G:pS P B ay z h o.op K): ∃d,K d/\(h=true->∀(ρ:Operand->Value) (w:World) (C:Nat->Nat) (Ft:Nat->Prop),pP B w->l8 Ft w C z.H->(∀x∈o.op.operands,bh w C (z.ba x) (ρ x))->hI P d w C ((execOp ρ o).run P w)):=by obtain⟨dst,op,type,pos,after,guard⟩:=o;cases op<;>simp only[pS]at G;(case move x =>obtain⟨d,hK,N⟩:=iW G;exact⟨d,hK,λau ρ w C Ft _ _ c0=>hI.same (N au w C _ (c0 x (by simp[Op.operands])))⟩);(case assign x =>obtain⟨d,hK,N⟩:=iW G;exact⟨d,hK,λau ρ w C Ft _ _ c0=>hI.same (N au w C _ (c0 x (by simp[Op.operands])))⟩);(case pick c a b =>obtain⟨aqL,G,LF⟩:=iW G;split at G;rename_i g;(have run:∀(ρ:Operand->Value) (w:World),ρ c=.bool g->(execOp ρ ⟨dst,.pick c a b,type,pos,after,guard⟩).run P w=.ok (.value (if g then ρ a else ρ b)) w:=by intro ρ w hc;simp[execOp,hc,asBool]);split at G;rename_i x y ha F;refine⟨_,G,λau ρ w C Ft _ _ c0=>?_⟩;rw[run ρ w (LF au w C _ (c0 c (by simp[Op.operands]))).hW];refine hI.same ?_;have h1:=c0 a (by simp[Op.operands]);rw[ha]at h1;have A:=c0 b (by simp[Op.operands]);rw[F]at A;rw[h1.hW,A.hW];cases g<;>exact .bool _;rename_i x zp y ha F;obtain⟨aV,G⟩:=G;refine⟨_,G,λau ρ w C Ft _ _ c0=>?_⟩;rw[run ρ w (LF au w C _ (c0 c (by simp[Op.operands]))).hW];refine hI.same ?_;have h1:=c0 a (by simp[Op.operands]);rw[ha]at h1;have A:=c0 b (by simp[Op.operands]);rw[F]at A;rw[h1.hW];(cases g with|true=>exact .bool _|false =>have zB:=aV au rfl;subst zB;(cases A with|pM _ _ A=>simp only[auk,auU];rw[A.hW];exact .bool _));rename_i zp x y ha F;obtain⟨aV,G⟩:=G;refine⟨_,G,λau ρ w C Ft _ _ c0=>?_⟩;rw[run ρ w (LF au w C _ (c0 c (by simp[Op.operands]))).hW];refine hI.same ?_;have h1:=c0 a (by simp[Op.operands]);rw[ha]at h1;have A:=c0 b (by simp[Op.operands]);rw[F]at A;rw[A.hW];(cases g with|false=>exact .bool _|true =>have zB:=aV au rfl;subst zB;(cases h1 with|pM _ _ h1=>simp only[aum];rw[h1.hW];exact .bool _));exact False.elim G;exact False.elim G);(case binOp op t x y DD =>obtain⟨rG,G,h3⟩:=iW G;obtain⟨RY,G,tI⟩:=iW G;obtain⟨d,hK,N⟩:=abQ (P:=P) hT G x y;refine⟨d,hK,λau ρ w C Ft _ _ c0=>?_⟩;obtain⟨r,ae,eQ⟩:=N au w C _ _ (h3 au w C _ (c0 x (by simp[Op.operands]))) (tI au w C _ (c0 y (by simp[Op.operands])));(have:(execOp ρ ⟨dst,.binOp op t x y DD,type,pos,after,guard⟩).run P w=.ok (.value r) w:=by simp only[execOp];rw[Sem.run_bind,ae];rfl);rw[this];exact hI.same eQ);(case unOp op t x =>replace G:=iW G;obtain⟨rG,G,h3⟩:=G;split at G;rename_i b;refine⟨_,G,λau ρ w C Ft _ _ c0=>?_⟩;have h1:=(h3 au w C _ (c0 x (by simp[Op.operands]))).hW;(have:(execOp ρ ⟨dst,.unOp .not t x,type,pos,after,guard⟩).run P w=.ok (.value (.bool (!b))) w:=by simp[execOp,h1,Op.unary]);rw[this];exact hI.same (.bool _);rename_i k n;obtain⟨m,hK,hm⟩:=DE G;refine⟨_,hK,λau ρ w C Ft _ _ c0=>?_⟩;have h1:=(h3 au w C _ (c0 x (by simp[Op.operands]))).fu;(have:(execOp ρ ⟨dst,.unOp .neg t x,type,pos,after,guard⟩).run P w=.ok (.value (.int k m)) w:=by rw[hm au];simp[execOp,h1,Op.unary,Op.intArith]);rw[this];exact hI.same (.int _ _);exact False.elim G);(case load t x =>obtain⟨rG,G,h3⟩:=iW G;obtain⟨d,hK,N⟩:=RM (P:=P) hT G;refine⟨d,hK,λau ρ w C Ft _ hH c0=>?_⟩;obtain⟨ak,an,ae⟩:=N au w C Ft _ hH (h3 au w C _ (c0 x (by simp[Op.operands])));(have:(execOp ρ ⟨dst,.load t x,type,pos,after,guard⟩).run P w=.ok (.value ak) w:=by simp[execOp,an]);rw[this];exact hI.same ae);(case fieldAddr t x f =>obtain⟨rG,G,h3⟩:=iW G;obtain⟨d,hK,N⟩:=aby (P:=P) hT G;refine⟨d,hK,λau ρ w C Ft _ hH c0=>?_⟩;obtain⟨ak,an,ae⟩:=N w C _ (h3 au w C _ (c0 x (by simp[Op.operands])));(have:(execOp ρ ⟨dst,.fieldAddr t x f,type,pos,after,guard⟩).run P w=.ok (.value ak) w:=by simp[execOp,an]);rw[this];exact hI.same ae);(case field t x f =>obtain⟨rG,G,h3⟩:=iW G;obtain⟨d,hK,N⟩:=abz (P:=P) hT G;refine⟨d,hK,λau ρ w C Ft _ hH c0=>?_⟩;obtain⟨ak,an,ae⟩:=N w C _ (h3 au w C _ (c0 x (by simp[Op.operands])));(have:(execOp ρ ⟨dst,.field t x f,type,pos,after,guard⟩).run P w=.ok (.value ak) w:=by simp[execOp,an]);rw[this];exact hI.same ae);(case indexAddr t x fC =>obtain⟨rG,G,h3⟩:=iW G;obtain⟨di,G,lK⟩:=iW G;obtain⟨d,hK,N⟩:=abA (P:=P) hT G;refine⟨d,hK,λau ρ w C Ft _ hH c0=>?_⟩;obtain⟨ak,an,ae⟩:=N au w C _ _ (h3 au w C _ (c0 x (by simp[Op.operands]))) (lK au w C _ (c0 fC (by simp[Op.operands])));(have:(execOp ρ ⟨dst,.indexAddr t x fC,type,pos,after,guard⟩).run P w=.ok (.value ak) w:=by simp[execOp,an]);rw[this];exact hI.same ae);(case index t x fC =>obtain⟨rG,G,h3⟩:=iW G;obtain⟨di,G,lK⟩:=iW G;obtain⟨d,hK,N⟩:=abD (P:=P) hT G;refine⟨d,hK,λau ρ w C Ft _ hH c0=>?_⟩;obtain⟨ak,an,ae⟩:=N au w C _ _ (h3 au w C _ (c0 x (by simp[Op.operands]))) (lK au w C _ (c0 fC (by simp[Op.operands])));(have:(execOp ρ ⟨dst,.index t x fC,type,pos,after,guard⟩).run P w=.ok (.value ak) w:=by simp[execOp,an]);rw[this];exact hI.same ae);(case slice t x k' hi qI =>obtain⟨rG,G,h3⟩:=iW G;obtain⟨d,hK,N⟩:=abG (P:=P) hT G;refine⟨d,hK,λau ρ w C Ft _ hH c0=>?_⟩;obtain⟨ak,an,ae⟩:=N au w C _ ρ (h3 au w C _ (c0 x (by simp[Op.operands]))) (λy hy=>c0 y (by subst hy;simp[Op.operands])) (λy hy=>c0 y (by subst hy;simp[Op.operands])) (λy hy=>c0 y (by subst hy;simp[Op.operands]));(have:(execOp ρ ⟨dst,.slice t x k' hi qI,type,pos,after,guard⟩).run P w=.ok (.value ak) w:=by simp[execOp,an]);rw[this];exact hI.same ae);(case convert oC kS x =>obtain⟨rG,G,h3⟩:=iW G;obtain⟨d,hK,N⟩:=abN (P:=P) hT G;refine⟨d,hK,λau ρ w C Ft _ hH c0=>?_⟩;obtain⟨ak,w',aQ,an,ae,hs⟩:=N w C _ (h3 au w C _ (c0 x (by simp[Op.operands])));(have:(execOp ρ ⟨dst,.convert oC kS x,type,pos,after,guard⟩).run P w=.ok (.value ak) w':=by simp only[execOp];rw[Sem.run_bind,an];rfl);rw[this];exact⟨aQ,ae,hs⟩);(case build t bT =>split at G;rename_i e ao;obtain⟨c3,rfl⟩:=hT.get ao;split at G;rename_i V bH b5;obtain⟨ds,G,tG,pV⟩:=DI G;obtain⟨aA,hK,hcs⟩:=abL (P:=P) c3 b5 bH G;refine⟨_,hK,λau ρ w C Ft _ hH c0=>?_⟩;have A:=pV au w C ρ (λx I=>c0 x.2 (by simp[Op.operands];exact⟨x.1,by simpa using I⟩));obtain⟨v,W,ae⟩:=hcs w C (bT.map λ(i,x)=>(i,ρ x)) (by simp[tG]) (by simpa[avE]using A);(have:(execOp ρ ⟨dst,.build e.t bT,type,pos,after,guard⟩).run P w=.ok (.value v) w:=by simp only[execOp];rw[Sem.run_bind,W];rfl);rw[this];exact hI.same ae;exact False.elim G;exact False.elim G);(case buildSlice t n bT =>split at G;rename_i e ao;obtain⟨c3,rfl⟩:=hT.get ao;split at G;rename_i bD b5;split at G;rename_i aF km;obtain⟨fo,rfl⟩:=hT.get km;obtain⟨ds,G,tG,pV⟩:=DI G;replace G:=ia G;obtain⟨F,dM,hK⟩:=G;simp only[atd]at F;obtain⟨⟨⟨h1,A⟩,Z⟩,aD⟩:=F;refine⟨_,hK,λau ρ w C Ft _ hH c0=>?_⟩;have bc:=pV au w C ρ (λx I=>c0 x.2 (by simp[Op.operands];exact⟨x.1,by simpa using I⟩));obtain⟨v,w',aQ,W,ae,hs⟩:=abO (P:=P) c3 fo b5 aD (atY (atX _) (atH Z)) (atH A) (atx h1) dM (w:=w) (C:=C) (vs:=(bT.map λ(i,x)=>(i,ρ x)).toList) (by simp[tG]) (by simpa[avE]using bc);(have:(execOp ρ ⟨dst,.buildSlice e.t n bT,type,pos,after,guard⟩).run P w=.ok (.value v) w':=by simp only[execOp];rw[Sem.run_bind,W];rfl);rw[this];exact⟨aQ,ae,hs⟩;exact False.elim G;exact False.elim G;exact False.elim G);(case makeFunc f first oA =>obtain⟨bG,G,l_⟩:=DH G;obtain⟨aA,G,hcs⟩:=DH G;refine⟨_,G,λau ρ w C Ft _ hH c0=>?_⟩;have h1:=l_ au w C ρ (λx I=>c0 x (by simp[Op.operands];exact .inl (by simpa using I)));have A:=hcs au w C ρ (λx I=>c0 x (by simp[Op.operands];exact .inr (by simpa using I)));(have:(execOp ρ ⟨dst,.makeFunc f first oA,type,pos,after,guard⟩).run P w=.ok (.value (.func f ⟨first.toList.map ρ⟩ ⟨oA.toList.map ρ⟩)) w:=by simp only[execOp,Instr.makeFunc,Sem.run_bind,Sem.run_pure,Result.andThen_ok];congr 3;apply au7;simp;apply au7;simp);rw[this];exact hI.same (.fn f bG aA _ _ h1.1 A.1 h1.2 A.2));(case extract x i =>obtain⟨rG,G,h3⟩:=iW G;split at G;rename_i ds;split at G;rename_i d N;refine⟨d,G,λau ρ w C Ft _ hH c0=>?_⟩;obtain⟨vs,W,ae⟩:=(h3 au w C _ (c0 x (by simp[Op.operands]))).abn;have bi:i<vs.length:=ae.1 ▸ e9 N;have aV:vs[i]?=some vs[i]:=ata bi;(have:(execOp ρ ⟨dst,.extract x i,type,pos,after,guard⟩).run P w=.ok (.value vs[i]) w:=by simp[execOp,Instr.extract,W,bi]);rw[this];exact hI.same (ae.2 i d _ N aV);exact False.elim G;exact False.elim G);(case call c =>obtain⟨callee,args,argTypes⟩:=c;simp only at G;split at G;rename_i x kr;(have zC:args=#[x]:=by apply au7;simpa using kr);subst zC;replace G:=iW G;obtain⟨rG,G,h3⟩:=G;split at G;rename_i t o8;(have Hk:argTypes=#[t]:=by apply au7;simpa using o8);subst Hk;split at G;rename_i e ao;obtain⟨c3,rfl⟩:=hT.get ao;split at G;rename_i s b5;refine⟨_,G,λau ρ w C Ft _ hH c0=>?_⟩;have h1:=(h3 au w C _ (c0 x (ax5))).kM;have an:=c3.pT b5;(have:(execOp ρ ⟨dst,.call ⟨.builtin .len,#[x],#[e.t]⟩,type,pos,after,guard⟩).run P w=.ok (.value (.int .i64 s.length)) w:=by have hs:(⟨⟨s⟩⟩:ByteArray).size=s.length:=rfl;simp[execOp,resolve,invoke,builtin,Builtin.len_,run_underlying an,h1,goInt,hs]);rw[this];exact hI.same (.int _ _);rename_i bD tg k xs b5;refine⟨_,G,λau ρ w C Ft _ hH c0=>?_⟩;have h1:=(h3 au w C _ (c0 x (ax5))).kl;(have A:∃a cap,ρ x=.slice a xs.length cap:=by rcases h1 with⟨rfl,⟨_,h⟩,_⟩|⟨b,o,cap,g,h,_⟩;exact⟨_,_,h⟩;exact⟨_,_,h⟩);obtain⟨a,cap,A⟩:=A;have an:=c3.kk b5;(have:(execOp ρ ⟨dst,.call ⟨.builtin .len,#[x],#[e.t]⟩,type,pos,after,guard⟩).run P w=.ok (.value (.int .i64 xs.length)) w:=axk);rw[this];exact hI.same (.int _ _);rename_i bD b5;refine⟨_,G,λau ρ w C Ft _ hH c0=>?_⟩;have A:=(h3 au w C _ (c0 x (ax5))).xR;have an:=c3.kk b5;(have:(execOp ρ ⟨dst,.call ⟨.builtin .len,#[x],#[e.t]⟩,type,pos,after,guard⟩).run P w=.ok (.value (.int .i64 0)) w:=axk);rw[this];exact hI.same (.int _ _);rename_i bD bQ n RZ b5;refine⟨_,G,λau ρ w C Ft _ hH c0=>?_⟩;have A:=(h3 au w C _ (c0 x (ax5))).gb;have an:=c3.kk b5;(have:(execOp ρ ⟨dst,.call ⟨.builtin .len,#[x],#[e.t]⟩,type,pos,after,guard⟩).run P w=.ok (.value (.int .i64 n)) w:=axk);rw[this];exact hI.same (.int _ _);exact False.elim G;exact False.elim G;exact False.elim G;rename_i x y kr;(have zC:args=#[x,y]:=by apply au7;simpa using kr);subst zC;replace G:=iW G;obtain⟨rG,G,h3⟩:=G;replace G:=iW G;obtain⟨RY,G,tI⟩:=G;split at G;rename_i k a bB b;refine⟨_,G,λau ρ w C Ft _ hH c0=>?_⟩;have h1:=(h3 au w C _ (c0 x (ax5))).fu;have A:=(tI au w C _ (c0 y (ax5))).fu;(have:(execOp ρ ⟨dst,.call ⟨.builtin .max,#[x,y],argTypes⟩,type,pos,after,guard⟩).run P w=.ok (.value (.int k (if b>a then b else a))) w:=by simp[execOp,resolve,invoke,builtin,Builtin.max_,Builtin.max2,h1,A]);rw[this];exact hI.same (.int _ _);exact False.elim G;rename_i x y kr;(have zC:args=#[x,y]:=by apply au7;simpa using kr);subst zC;replace G:=iW G;obtain⟨rG,G,h3⟩:=G;replace G:=iW G;obtain⟨RY,G,tI⟩:=G;split at G;rename_i k a bB b;refine⟨_,G,λau ρ w C Ft _ hH c0=>?_⟩;have h1:=(h3 au w C _ (c0 x (ax5))).fu;have A:=(tI au w C _ (c0 y (ax5))).fu;(have:(execOp ρ ⟨dst,.call ⟨.builtin .min,#[x,y],argTypes⟩,type,pos,after,guard⟩).run P w=.ok (.value (.int k (if b<a then b else a))) w:=by simp[execOp,resolve,invoke,builtin,Builtin.min_,Builtin.min2,h1,A]);rw[this];exact hI.same (.int _ _);exact False.elim G;rename_i f;replace G:=iW G;obtain⟨abR,G,LG⟩:=G;split at G;(rename_i b7 first ct;replace G:=DH G;obtain⟨ww,G,has⟩:=G;obtain⟨g5,d,M,dS,hK⟩:=G;refine⟨d,hK,λau ρ w C Ft pX hH c0=>?_⟩;obtain⟨⟨fn,iz,rH,mb⟩,DM⟩:=M au;obtain⟨fJ,hl,W,h1,A⟩:=(LG au w C _ (c0 f (ax5))).u2;have Z:=has au w C ρ (λx I=>c0 x (by simp[Op.operands,Call.operands];exact .inr (by simpa using I)));have aD:=dS.rD ((h1.append Z).append A);have F:fn.body.isNone=false:=by cases F:fn.body<;>simp[F]at rH⊢);(have:(execOp ρ ⟨dst,.call ⟨.value f,args,argTypes⟩,type,pos,after,guard⟩).run P w=.ok (.enter b7 ⟨fJ++args.toList.map ρ++hl⟩) w:=awS);rw[this];exact⟨rfl,DM w C _ pX aD⟩;exact False.elim G;exact False.elim G);(case nilCheck x =>replace G:=iW G;obtain⟨rG,G,h3⟩:=G;split at G;refine⟨_,G,λau ρ w C Ft _ hH c0=>?_⟩;have W:=h3 au w C _ (c0 x (by simp[Op.operands]));(have:(execOp ρ ⟨dst,.nilCheck x,type,pos,after,guard⟩).run P w=.ok (.value (ρ x)) w:=by simp only[execOp,W.wu,Sem.run_pure]);rw[this];exact hI.same W;refine⟨_,G,λau ρ w C Ft _ hH c0=>?_⟩;have W:=h3 au w C _ (c0 x (by simp[Op.operands]));(have:(execOp ρ ⟨dst,.nilCheck x,type,pos,after,guard⟩).run P w=.ok (.value (ρ x)) w:=by(obtain⟨b,o,h⟩:∃b o,ρ x=.pointer (some ⟨b,o,none⟩):=by generalize ρ x=v at W;cases W;exact⟨_,_,rfl⟩);simp only[execOp,h,Sem.run_pure]);rw[this];exact hI.same W;exact False.elim G);all_goals exact False.elim G
theorem hM{o:Obj}(h:w.heap[b]?=some o):b<w.heap.size:=(auW.1 h).1
theorem ty.lt{o:aI}(h:ty w C o)(an:o.ef b):b<w.heap.size:=by cases o with|box eo aA =>obtain⟨vs,e,F,_⟩:=h;simp only[aI.ef]at an;subst an;exact hM F|own v n k e =>obtain⟨a,cap,W,ax,_,cH⟩:=h;obtain⟨o,hY,dL,bi⟩:=an;rw[W]at dL;simp only[Value.slice.injEq]at dL;obtain⟨rfl,_,rfl⟩:=dL;obtain⟨eo,vs,ha,F,_⟩:=cH bi;simp only[atQ,Addr.mk.injEq]at ha;obtain⟨rfl,_,_⟩:=ha;exact hM F|row v xs k e =>obtain⟨a,cap,W,_,_,_,_,cH⟩:=h;obtain⟨n,hY,dL,bi⟩:=an;rw[W]at dL;simp only[Value.slice.injEq]at dL;obtain⟨rfl,_,rfl⟩:=dL;obtain⟨eo,vs,ha,F,_⟩:=cH bi;simp only[atQ,Addr.mk.injEq]at ha;obtain⟨rfl,_,_⟩:=ha;exact hM F|set eo ag =>obtain⟨eF,iU,F,_⟩:=h;simp only[aI.ef]at an;subst an;exact hM F|ch eo o =>simp only[aI.ef]at an;subst an;exact hM h.1|mp eo cy =>obtain⟨eF,iU,F,_⟩:=h;simp only[aI.ef]at an;subst an;exact hM F|kN eo e aA =>obtain⟨vs,F,_⟩:=h;simp only[aI.ef]at an;subst an;exact hM F
theorem ty.iv{o:aI}(h:ty w C o)(ao:nO w C w' aQ)(Y:∀b,o.ef b->w'.heap[b]?=w.heap[b]?/\aQ b=C b):ty w' aQ o:=by cases o with|box b aA =>obtain⟨vs,e,F,ae,hc⟩:=h;obtain⟨h1,A⟩:=Y b rfl;exact⟨vs,e,by rw[h1];exact F,ae.ext ao,by rw[A];exact hc⟩|own v n k e =>obtain⟨a,cap,W,ax,hm,cH⟩:=h;refine⟨a,cap,W,ax,hm,λbi=>?_⟩;obtain⟨b,vs,ha,F,hs,hc⟩:=cH bi;obtain⟨h1,A⟩:=Y b ⟨0,cap,by rw[W,ha],bi⟩;exact⟨b,vs,ha,by rw[h1];exact F,hs,by rw[A];exact hc⟩|row v xs k e =>obtain⟨a,cap,W,ax,hm,I,eA,cH⟩:=h;refine⟨a,cap,W,ax,hm,I,λdF gc=>(eA dF gc).imp λb F=>⟨F.1,atY F.2 ao.size⟩,λbi=>?_⟩;obtain⟨b,vs,ha,F,hs,hc,ae⟩:=cH bi;obtain⟨h1,A⟩:=Y b ⟨xs.length,cap,by rw[W,ha],bi⟩;exact⟨b,vs,ha,by rw[h1];exact F,hs,by rw[A];exact hc,λj d N=>by obtain⟨ak,Z,aD,bc⟩:=ae j d N;exact⟨ak,Z,aD.ext ao,bc⟩⟩|set b ag =>obtain⟨eF,iU,F,hc,Z,aD⟩:=h;obtain⟨h1,A⟩:=Y b rfl;exact⟨eF,iU,by rw[h1];exact F,by rw[A];exact hc,Z,aD⟩|ch b o =>obtain⟨h1,A⟩:=Y b rfl;exact⟨by rw[h1];exact h.1,by rw[A];exact h.2⟩|mp b cy =>obtain⟨eF,iU,F,hc,Z,ax,aD⟩:=h;obtain⟨h1,A⟩:=Y b rfl;exact⟨eF,iU,by rw[h1];exact F,by rw[A];exact hc,Z,ax,λi k d e hi o9=>⟨(aD i k d e hi o9).1,(aD i k d e hi o9).2.ext ao⟩⟩|kN b e aA =>obtain⟨vs,F,ae,hc⟩:=h;obtain⟨h1,A⟩:=Y b rfl;exact⟨vs,by rw[h1];exact F,ae.ext ao,by rw[A];exact hc⟩
theorem l8.tJ{H:bF}(h:l8 Ft w C H)(hs:da (λ_=>False) w C w' aQ):l8 Ft w' aQ H :=
 ⟨λs o ah=>(h.ch s o ah).iv hs.ext λb F=>hs.iv b ((h.ch s o ah).lt F) (λM=>M),h.inj,h.cN⟩
theorem bI.tJ{U:b8 P B am}{w w':World}{C aQ:Nat->Nat}{z:av}{a:Act}(h:bI U w C z a)(hs:da (λ_=>False) w C w' aQ):bI U w' aQ z a :=
 ⟨λi=>(h.tmps i).ext hs.ext,h.heap.tJ hs,h.size,h.defers,h.step.trans hs λ_ _ M=>M.elim⟩
theorem bI.put{U:b8 P B am}{w:World}{C:Nat->Nat}{z:av}{a:Act}(h:bI U w C z a){dst:Option Tmp}(N:iV am dst=true){d:D}{v:Value}(ae:bh w C d v): bI U w C (z.put dst d) (a.put dst v):=by cases dst with|none=>exact h|some t =>(have bi:t<a.tmps.size:=by rw[h.size];exact atY (atX _) (atH N));refine⟨λi=>?_,h.heap,by simp[Act.put,h.size],h.defers,h.step⟩;simp only[av.put,Act.put];(cases F:Nat.beq i t with|true =>have:=atx F;subst this;simpa[bi]using ae|false =>(have a6:t≠i:=λe=>by subst e;have:Nat.beq t t=true:=auB t;rw[F]at this;cases this);have:=h.tmps i;simp only[aun];rw[show(a.tmps.setIfInBounds t v).getD i undef=a.tmps.getD i undef by simp[avM a6]];exact this)
theorem qL(z:av)(s:Nat)(o:Option aI):(z.b6 s o).H s=o:=by simp[av.b6]
theorem auZ{a:Nat}(h:a≠b):Nat.beq a b=false:=by cases F:Nat.beq a b with|false=>rfl|true=>exact absurd (atx F) h
variable{bq:Nat}
theorem mc(z:av){s:Nat}(o:Option aI)(h:bq≠s):(z.b6 s o).H bq=z.H bq:=by simp[av.b6,auZ h]
theorem bI.b6{U:b8 P B am}{w w':World}{C aQ:Nat->Nat}{z:av}{a:Act}(h:bI U w C z a){Ft:Nat->Prop}(hs:da Ft w C w' aQ)(bM:∀b,Ft b->U.pQ b){s:Nat}(LH:∀bq o b,bq≠s->z.H bq=some o->o.ef b->¬Ft b){o:Option aI}(ah:∀x,o=some x->ty w' aQ x/\∀b,x.ef b->U.pQ b/\(Ft b\/w.heap.size<=b)):bI U w' aQ (z.b6 s o) a:=by refine⟨λi=>(h.tmps i).ext hs.ext,⟨λbq x I=>?_,λeW gl x y b a6 h1 A an cW=>?_,λbq x b I an=>?_⟩,h.size,h.defers,?_⟩;by_cases iX:bq=s;subst iX;rw[qL]at I;exact(ah x I).1;rw[mc z o iX]at I;exact(h.heap.ch bq x I).iv hs.ext λb F=>hs.iv b ((h.heap.ch bq x I).lt F) (LH bq x b iX I F);by_cases bY:eW=s;subst bY;rw[qL]at h1;rw[mc z o (Ne.symm a6)]at A;rcases((ah x h1).2 b an).2 with M|M;exact LH gl y b (Ne.symm a6) A cW M;have:=(h.heap.ch gl y A).lt cW;omega;rw[mc z o bY]at h1;by_cases b':gl=s;subst b';rw[qL]at A;rcases((ah y A).2 b cW).2 with M|M;exact LH eW x b bY h1 an M;have:=(h.heap.ch eW x h1).lt an;omega;rw[mc z o b']at A;exact h.heap.inj eW gl x y b a6 h1 A an cW;by_cases iX:bq=s;subst iX;rw[qL]at I;exact((ah x I).2 b an).1;rw[mc z o iX]at I;exact h.heap.cN bq x b I an;refine h.step.trans hs λb F M=>?_;rcases bM b M with h1|h1;exact h1;omega
variable{U:b8 P B am}
theorem bI.drop(h:bI U w C z a)(s:Nat):bI U w C (z.b6 s none) a :=
 h.b6 (Ft:=λ_=>False) (.refl _ _ _) (λ_ M=>M.elim) (λ_ _ _ _ _ _ M=>M) (λx I=>by cases I)
theorem bI.DN(h:bI U w C z a):U.pQ w.heap.size:=.inr h.step.ext.size
theorem bI.LI(h:bI U w C z a)(s:Nat){vs:List Value}(e:TypeId)(ae:db w C aA vs): bI U (w.alloc (.cells ⟨vs⟩ e)) (gz C w.heap.size 0) (z.b6 s (some (.box w.heap.size aA))) a:=by have hs:=da.alloc (λ_=>False) w C (.cells ⟨vs⟩ e) 0;refine h.b6 hs (λ_ M=>M.elim) (λ_ _ _ _ _ _ M=>M) (λx I=>?_);cases I;refine⟨⟨vs,e,kR _ _,ae.ext hs.ext,hB _ _ _⟩,λb F=>?_⟩;simp only[aI.ef]at F;subst F;exact⟨h.DN,.inr (atg _)⟩
theorem da.setRow{w:World}{C:Nat->Nat}{g:Nat}{ft aA:Array Value}{e:TypeId}{n:Nat}(aV:w.heap[g]?=some (.cells ft e (0,0)))(ax:C g<=n)(hcs:∀o,o<C g->aA[o]?=ft[o]?):da (λb=>b=g) w C (w.setRow g aA) (gz C g n):=by refine⟨⟨by simp,λb F=>?_,λb o F ah=>?_⟩,rfl,rfl,rfl,λb F a6=>⟨setRow_other w g b aA a6,rE _ _ a6⟩⟩;by_cases e:b=g;subst e;rw[hB];exact ax;rw[rE _ _ e];exact atg _;by_cases oD:b=g;subst oD;simp only[World.cell?,setRow_heap w b ft aA e (0,0) aV,aV];simpa using hcs o ah;simp only[World.cell?,setRow_other w g b aA oD]
theorem cI(h:∀i,bh w C (z.t i) (a.tmps.getD i undef))(x:Operand):bh w C (z.ba x) (a.eval x):=by cases x with|tmp t=>exact h t|const v =>simp only[av.ba,Act.eval];unfold RE;split;exact .bool _;exact .int _ _;rename_i s;obtain⟨⟨l⟩⟩:=s;exact .O l;exact .bj;exact .al _|global g=>exact .al _|func f=>exact .fn _ [] [] [] [] rfl rfl (λi d v h=>by simp at h) (λi d v h=>by simp at h)
theorem R0{e:bx}{off:Nat}{x:D}{K:List D->Prop}(G:Bc e off aA x K): ∃ds,K (sA aA off ds)/\off+ds.length<=aA.length/\∀(w:World) (C:Nat->Nat) (v:Value),bh w C x v->db w C ds v.cells.toList/\v.cells.size=e.aB/\∀ak∈v.cells.toList,ak.oneCell'=true:=by unfold Bc at G;cases kP:e.agg with|true =>rw[kP]at G;simp only at G;split at G;rename_i ds;replace G:=ia G;obtain⟨F,G⟩:=G;simp only[atd]at F;refine⟨ds,G,atH F.1.2,λw C v ae=>?_⟩;obtain⟨vs,rfl,h⟩:=ae.tx;have aj:=atx F.1.1;refine⟨h,by simp only[Value.cells,at6];rw[<-h.1,aj],λak an=>?_⟩;simp only[Value.cells]at an;obtain⟨j,ad⟩:=atz.1 an;obtain⟨d,N⟩:=lI (l:=ds) (i:=j) (by rw[h.1];exact e9 ad);have:=at0.1 F.2 d (atr N);exact((h.2 j d ak N ad).oE this).2;exact False.elim G|false =>rw[kP]at G;simp only at G;replace G:=ia G;obtain⟨F,G⟩:=G;simp only[atd]at F;have bi:off<aA.length:=atY (atX _) (atH F.1.1);refine⟨[x],by rw[<-RT bi];exact G,by simp;omega,λw C v ae=>?_⟩;obtain⟨h1,A⟩:=ae.oE F.1.2;have hsz:=atx F.2;rw[h1];exact⟨.cons ae (.nil _ _),by simp[hsz],by simpa using A⟩
theorem pY(l dl:List α)(off:Nat)(h:off+dl.length<=l.length)(k:Nat): (l.take off++dl++l.drop (off+dl.length))[k]?=if off<=k/\k<off+dl.length/\k<l.length then dl[k-off]? else l[k]?:=by by_cases h1:k<off;rw[as9 asZ,atL,atn as0,atZ,as_ h1];by_cases A:k<off+dl.length;rw[as_ ⟨by omega,A,by omega⟩,atL,atJ as0,atn as0];congr 1;simp;omega;rw[as9 asZ,atJ as0,avd];congr 1;simp;omega
theorem abS(h:bI U w C z a){e:bx}(ao:e.gj P){s off:Nat}(hH:z.H s=some (.box b aA)){x:D}{K:List D->Prop}(G:Bc e off aA x K)(ae:bh w C x v): ∃du w' aQ,K du/\(Instr.storeAt e.t (.pointer (some ⟨b,off,none⟩)) v).run P w=.ok () w'/\bI U w' aQ (z.b6 s (some (.box b du))) a:=by obtain⟨ds,hK,dS,pV⟩:=R0 G;obtain⟨h1,A,Z⟩:=pV w C v ae;obtain⟨vs,bD,F,hZ,df⟩:=h.heap.ch s _ hH;(have gA:off+0+v.cells.toList.length<=(⟨vs⟩:Array Value).size:=by have:=h1.1;have:=hZ.1;simp only[at6];omega);have cY:=run_storeCells_at P b off bD v.cells.toList 0 ⟨vs⟩ w F gA Z;simp only[avA]at cY;have a1:=da.setRow (C:=C) (n:=0) F (aA:=(vs.take off++v.cells.toList++vs.drop (off+v.cells.toList.length)).toArray) asZ (λo ah=>by omega);refine⟨_,_,_,hK,?_,h.b6 a1 (s:=s) (λx I=>by subst I;exact h.heap.cN s _ _ hH rfl) (λbq bL eo a6 c9 an nS=>?_) λy hy=>?_⟩;simp only[Instr.storeAt,Instr.sureAddr,Sem.run_bind,Sem.run_pure,Result.andThen_ok,storeVar,ao.size,A];simpa using cY;subst nS;exact h.heap.inj bq s bL _ eo a6 c9 hH an rfl;cases hy;refine⟨⟨_,bD,setRow_heap w b _ _ bD _ F,?_,hB _ _ _⟩,λx I=>?_⟩;have LJ:=(hZ.ext a1.ext).laid (h1.ext a1.ext) dS (r:=(vs.take off++v.cells.toList++vs.drop (off+v.cells.toList.length)).toArray) (by simp only[at6,atf,atv,aul];simp only[at6]at gA;omega) (λk=>by rw[au3];exact pY vs v.cells.toList off (by simpa using gA) k);simpa using LJ;simp only[aI.ef]at I;subst I;exact⟨h.heap.cN s _ x hH rfl,.inl rfl⟩
theorem LK{b:Addr}{n:Nat}(h:bh w C (.Q tg k xs) (.slice (some b) n cap)): ∃dl:List Value,dl.length=xs.length*k/\(∀(j:Nat) ak,dl[j]?=some ak->w.cell? (b.add j)=some ak)/\(∀(j:Nat) d,(b1 xs)[j]?=some d->∃ak,dl[j]?=some ak/\bh w C d ak/\ak.oneCell'=true)/\(∀ak∈dl,ak.oneCell'=true)/\(∀x∈xs,x.cells.length=k):=by rcases h.kl with⟨I,W,_⟩|⟨eo,o,hY,g,W,_,_,_,_,Y,_,ga,d9,eQ⟩;subst I;exact⟨[],by simp,λj ak an=>by simp at an,λj d N=>by simp[b1]at N,λak an=>by simp at an,λx I=>by simp at I⟩;simp only[Value.slice.injEq,atQ]at W;obtain⟨rfl,rfl,rfl⟩:=W;have dm:=pN Y;(have h4:∀j,j<xs.length*k->((List.range (xs.length*k)).map g)[j]?=some (g j):=λj ad=>by simp[ad]);refine⟨(List.range (xs.length*k)).map g,by simp,λj ak an=>?_,λj d N=>?_,λak an=>?_,Y⟩;(have ad:j<xs.length*k:=by have:=e9 an;simpa using this);obtain⟨d,N⟩:=lI (l:=b1 xs) (i:=j) asZ;rw[h4 j ad]at an;cases an;rw[o6];exact ga j d N;(have ad:j<xs.length*k:=by have:=e9 N;omega);exact⟨g j,h4 j ad,eQ j d N,d9 j d N⟩;obtain⟨j,ad,rfl⟩:=aty.1 an;(have ad:j<xs.length*k:=by simpa using ad);obtain⟨d,N⟩:=lI (l:=b1 xs) (i:=j) asZ;exact d9 j d N
theorem bh.abT(h:bh w C (.Q tg k xs) v)(au:nR.gj v):bh w C (.Q nR k xs) v:=by rcases h.kl with⟨rfl,⟨a,rfl⟩,_⟩|⟨b,o,cap,g,rfl,_,F,hc,hm,Y,df,ga,d9,eQ⟩;exact .jk nR k a au;exact .Q nR k xs b o cap g au F hc hm Y df ga d9 eQ
theorem pZ(l r:List α)(j:Nat):(l++r)[j]?=if j<l.length then l[j]? else r[j-l.length]?:=by by_cases h:j<l.length;rw[as_ h,atn h];rw[as9 h,atJ asZ]
variable{a':List D}{ks:TypeId}
theorem R1(h:bI U w C z a){e:bx}(ao:e.gj P)(km:aF.gj P)(b5:e.kind=.slice aF.t)(bH:aF.zero≠none)
    {vs bJ:Value} (wB:bh w C (.Q tg aF.aB xs) vs) (wC:bh w C (.Q nR aF.aB a') bJ) (me:(xs.length+a'.length)*aF.bytes<=140737488355328)
  (mR:xs.length+a'.length<=9223372036854775807) {q dst:Nat} 
  (tK:(∃bQ n,vs=.slice bQ n n)/\q=dst\/z.H q=some (.own vs xs.length aF.aB aF.t)) :
  ∃v w' aQ,(Builtin.append_ #[e.t,e.t] ks #[vs,bJ]).run P w=.ok v w'/\bh w' aQ (.Q (.own dst v) aF.aB (xs++a')) v/\
   bI U w' aQ ((z.b6 q none).b6 dst (some (.own v (xs.length+a'.length) aF.aB aF.t))) a:=by
 have an:=ao.kk b5;obtain⟨i,hi,hsz,o_,nk⟩:=km.qJ;obtain⟨V,bH⟩:=av7.1 bH;obtain⟨ei,lJ,ma,jK⟩:=nk V bH;have DO:ei.cells.size=aF.aB:=by have:=(jK w C).1;rw[ma]at this;simpa using this.symm
 have M:=h.drop q;have hlen:(xs++a').length=xs.length+a'.length:=by simp
 have abU:∃bQ cap,vs=.slice bQ xs.length cap/\xs.length<=cap/\cap<=maxLen:=by
  rcases wB.kl with⟨rfl,⟨a0,W⟩,_⟩|⟨b,o,cap,g,W,_,_,hc,hm,_⟩
  ·exact⟨a0,0,W,by simp,atq _⟩
  exact⟨_,cap,W,hc,hm⟩
 obtain⟨bQ,cap,fK,hcap,Bl⟩:=abU
 have hy:∃ab sG,bJ=.slice ab a'.length sG:=by
  rcases wC.kl with⟨rfl,⟨a0,W⟩,_⟩|⟨b,o,cap,g,W,_⟩
  ·exact⟨a0,0,W⟩
  exact⟨_,_,W⟩
 obtain⟨ab,sG,fU⟩:=hy;by_cases hm:a'.length=0
 ·
  have Bm:a'=[]:=atm hm;subst Bm
  have cY:(Builtin.append_ #[e.t,e.t] ks #[vs,bJ]).run P w=.ok vs w:=by
   subst fK fU;have a1:∀(b:Addr),(storeCells b []).run P w=.ok () w:=λb=>rfl;cases ab<;>cases bQ<;>simp[Builtin.append_,run_underlying an,sizeOf,typeInfo,hi,Builtin.lenOf,Builtin.firstCells,loadCells,loadCellsFrom,hcap,a1]
  refine⟨vs,w,C,cY,by simpa using wB.abT (nR:=.own dst vs) rfl,?_⟩;refine M.b6 (Ft:=λb=>aI.ef (.own vs xs.length aF.aB aF.t) b) (.refl _ _ _) (λb F=>?_) (λbq o b a6 c9 cW F=>?_) λx I=>?_
  ·rcases tK with⟨⟨bv,n,W⟩,_⟩|hH
   ·obtain⟨o,hY,dL,bi⟩:=F;rw[W]at dL;simp only[Value.slice.injEq]at dL;omega
   exact h.heap.cN q _ b hH F
  ·rcases tK with⟨⟨bv,n,W⟩,_⟩|hH
   ·obtain⟨bL,hY,dL,bi⟩:=F;rw[W]at dL;simp only[Value.slice.injEq]at dL;omega
   by_cases G:bq=q
   ·subst G;rw[qL]at c9;cases c9
   rw[mc z none G]at c9;exact h.heap.inj bq q o _ b G c9 hH cW F
  cases I
  simp only[atD,avA];refine⟨?_,λb F=>⟨?_,.inl F⟩⟩
  ·rcases tK with⟨⟨bv,n,W⟩,_⟩|hH
   ·have ax:n=xs.length/\n=cap:=by rw[fK]at W;simp only[Value.slice.injEq]at W;omega
    exact⟨bv,n,by rw[W,ax.1],by omega,by omega,λbi=>by omega⟩
   exact h.heap.ch q _ hH
  rcases tK with⟨⟨bv,n,W⟩,_⟩|hH
  ·obtain⟨bL,hY,dL,bi⟩:=F;rw[W]at dL;simp only[Value.slice.injEq]at dL;omega
  exact h.heap.cN q _ b hH F
 ·
  subst fU
  have nT:∃dF,ab=some dF:=by
   cases ab with
   |some dF=>exact⟨dF,rfl⟩
   |none =>
    rcases wC.kl with⟨rfl,W,_⟩|⟨b,o,cap,g,W,_⟩
    ·exact absurd rfl hm
    cases W
  obtain⟨dF,rfl⟩:=nT;obtain⟨fp,jL,xY,xZ,sH,Bn⟩:=LK wC;have wD:fp.length=a'.length*i.size:=by rw[jL,hsz]
  have fresh:∀(kT:List Value) (kt:Nat),kT.length=xs.length*aF.aB->(∀(j:Nat) d,(b1 xs)[j]?=some d->∃ak,kT[j]?=some ak/\bh w C d ak/\ak.oneCell'=true)->(∀x∈xs,x.cells.length=aF.aB)->
    kt<xs.length+a'.length->
    ∀v,v=.slice (some ⟨w.heap.size,0,none⟩) (xs.length+a'.length) (grownCap w (xs.length+a'.length) kt aF.t)->
    ∀w',w'=w.drew.alloc (.cells (kT.toArray++fp.toArray++Builtin.zeroCells ei.cells (grownCap w (xs.length+a'.length) kt aF.t-(xs.length+a'.length))) aF.t)->
    ∃aQ,bh w' aQ (.Q (.own dst v) aF.aB (xs++a')) v/\bI U w' aQ ((z.b6 q none).b6 dst (some (.own v (xs.length+a'.length) aF.aB aF.t))) a:=by
   intro kT kt gB mf p0 Hl v W w' qM;have h2:=grownCap_ge w (xs.length+a'.length) kt aF.t;have l':=grownCap_le_maxLen w (xs.length+a'.length) kt aF.t (by simp only[maxLen];omega);generalize grownCap w (xs.length+a'.length) kt aF.t=o' at W qM h2 l'
   have tF:(kT.toArray++fp.toArray++Builtin.zeroCells ei.cells (o'-(xs.length+a'.length))).size=o'*aF.aB:=by
    simp only[Array.size_append,at6,size_zeroCells,DO,gB,jL,<-av8];congr 1;omega
   have hq:=da.drew (λ_=>False) w C;have jn:=da.alloc (λ_=>False) w.drew C (.cells (kT.toArray++fp.toArray++Builtin.zeroCells ei.cells (o'-(xs.length+a'.length))) aF.t) ((xs++a').length*aF.aB);have hs:=hq.trans jn (λ_ _ M=>M);rw[<-qM]at hs jn;refine⟨_,?_,M.b6 hs (λ_ M=>M.elim) (λ_ _ _ _ _ _ M=>M) λx I=>?_⟩
   ·have dM:=Hh (w:=w.drew) (C:=C) (tg:=.own dst v) (k:=aF.aB) (xs:=xs++a')
     (vs:=(kT.toArray++fp.toArray++Builtin.zeroCells ei.cells (o'-(xs.length+a'.length))).toList) (e:=aF.t) (cap:=o')
     (λx I=>axy) asZ l'
     (λj d N=>by
      rw[xV,pZ]at N;have dm:=pN p0;simp only[avi];split at N
      ·rename_i ad;obtain⟨ak,an,ae,ah⟩:=mf j d N;refine⟨ak,?_,ae.ext hq.ext,ah⟩;rw[atL,pZ,as_ (by simpa using e9 an)];simpa using an
      rename_i ad;obtain⟨ak,an,ae,ah⟩:=xZ _ d N;refine⟨ak,?_,ae.ext hq.ext,ah⟩;rw[atL,pZ,as9 as0,pZ,as_ (by have:=e9 an;simp;omega)]
      simpa[gB,dm]using an) (by rw[hlen];exact W.symm)
    rw[hlen]at dM;rw[W]at dM⊢;rw[hlen,qM];exact dM
   cases I
   refine⟨⟨some ⟨w.heap.size,0,none⟩,o',W,h2,l',λ_=>⟨w.heap.size,_,rfl,?_,tF,?_⟩⟩,λb F=>?_⟩
   ·rw[qM];exact kR w.drew _
   ·rw[hlen];exact hB _ _ _
   obtain⟨o,hY,dL,_⟩:=F;rw[W]at dL;simp only[Value.slice.injEq,atQ,Addr.mk.injEq]at dL;obtain⟨⟨rfl,_⟩,_⟩:=dL;exact⟨h.DN,.inr (atg _)⟩
  subst fK
  cases bQ with
  |none =>
   rcases wB.kl with⟨rfl,⟨a0,W⟩,_⟩|⟨b,o,hY,g,W,_⟩
   ·simp only[Value.slice.injEq]at W;obtain⟨_,_,rfl⟩:=W;simp only[atD,atT]at me mR fresh⊢;have ae:=run_append_nil (P:=P) w e.t ks aF.t i ei an hi lJ dF a'.length sG fp wD xY asZ asZ (by rw[o_];omega);obtain⟨aQ,h1,A⟩:=fresh [] 0 as1 (λj d N=>by simp[b1]at N) (λx I=>by cases I) asZ _ rfl _ rfl;exact⟨_,_,aQ,ae,by simpa using h1,by simpa using A⟩
   cases W
  |some zD =>
   obtain⟨kT,gB,Bo,mf,x0,p0⟩:=LK wB;by_cases sI:xs.length+a'.length<=cap
   ·
    have hH:z.H q=some (.own (.slice (some zD) xs.length cap) xs.length aF.aB aF.t):=by
     rcases tK with⟨⟨bv,n,W⟩,_⟩|hH
     ·simp only[Value.slice.injEq]at W;omega
     exact hH
    obtain⟨bv,hY,W,aqM,_,cH⟩:=h.heap.ch q _ hH;simp only[Value.slice.injEq]at W;obtain⟨rfl,_,rfl⟩:=W;obtain⟨b,ft,LL,F,hcs,Hm⟩:=cH asZ;cases LL
    have gA:xs.length*i.size+fp.length<=ft.size:=by
     rw[hsz,jL,hcs,<-av8];exact auL _ sI
    have ae:=run_append_room (P:=P) w e.t ks aF.t i an hi b xs.length cap ft F dF a'.length sG fp wD xY sH sI gA;rw[hsz]at ae gA;have aqN:xs.length*aF.aB<=ft.toList.length:=by simp;omega
    have a1:=da.setRow (C:=C) (n:=(xs.length+a'.length)*aF.aB) F (aA:=(ft.toList.take (xs.length*aF.aB)++fp++ft.toList.drop (xs.length*aF.aB+fp.length)).toArray)
     (by rw[Hm];exact auL _ asZ) (λo ah=>by
      rw[Hm]at ah;rw[au3,pY _ _ _ as0,as9 asZ]
      simp)
    have e_:aI.ef (.own (.slice (some ⟨b,0,none⟩) xs.length cap) xs.length aF.aB aF.t) b:=⟨0,cap,rfl,by omega⟩;refine⟨_,_,_,ae,?_,M.b6 a1 (λx I=>axZ) (λbq o eo a6 c9 cW qN=>?_) λx I=>?_⟩
    ·have dM:=xW (w:=w.setRow b (ft.toList.take (xs.length*aF.aB)++fp++ft.toList.drop (xs.length*aF.aB+fp.length)).toArray) (C:=gz C b ((xs.length+a'.length)*aF.aB))
      (tg:=.own dst (.slice (some ⟨b,0,none⟩) (xs.length+a'.length) cap)) (k:=aF.aB) (xs:=xs++a') (b:=b) (cap:=cap) (setRow_heap w b ft _ aF.t (0,0) F)
      (λx I=>axy) asZ Bl (by rw[hB,hlen];exact atg _)
      (λj d N=>by
       rw[xV,pZ]at N;have dm:=pN p0;split at N
       ·rename_i ad;obtain⟨ak,an,ae,ah⟩:=mf j d N;refine⟨ak,?_,ae.ext a1.ext,ah⟩;rw[pY _ _ _ as0,as9 asZ];have hc:=Bo j ak an;rw[o6,atT]at hc;simp only[World.cell?,F]at hc;simpa using hc
       rename_i ad;obtain⟨ak,an,ae,ah⟩:=xZ _ d N;refine⟨ak,?_,ae.ext a1.ext,ah⟩;have:=e9 an;rw[pY _ _ _ as0,as_ ⟨by omega,by omega,by simp;omega⟩,<-dm]
       exact an) (by rw[hlen];exact rfl)
     rw[hlen]at dM;exact dM
    ·subst qN;by_cases G:bq=q
     ·subst G;rw[qL]at c9;cases c9
     rw[mc z none G]at c9;exact h.heap.inj bq q o _ eo G c9 hH cW e_
    cases I
    refine⟨⟨_,cap,rfl,sI,Bl,λ_=>⟨b,_,rfl,setRow_heap w b ft _ aF.t _ F,?_,by rw[hB]⟩⟩,λx I=>?_⟩
    ·simp only[at6,atf,atv,aul,au0];omega
    obtain⟨o,hY,dL,_⟩:=I;simp only[Value.slice.injEq,atQ,Addr.mk.injEq]at dL;obtain⟨⟨rfl,_⟩,_⟩:=dL;exact⟨h.heap.cN q _ _ hH e_,.inl rfl⟩
   have ae:=run_append_grow (P:=P) w e.t ks aF.t i ei an hi lJ zD xs.length cap kT (by rw[gB,hsz]) Bo dF a'.length sG fp wD xY asZ asZ (ax1);obtain⟨aQ,h1,A⟩:=fresh kT cap gB mf p0 asZ _ rfl _ rfl;exact⟨_,_,aQ,ae,h1,A⟩
theorem zE(M:bI U w C z a){o:Oper}(N:iV am o.dst=true){a7:Exit->Act->World->Prop}{K:av->Prop}(hK:K (z.put o.dst d))(G:hI P d w C ((execOp a.eval o).run P w)): o.wp P a w (λbv w'=>∃az aQ,K az/\bI U w' aQ az bv) a7:=by unfold Oper.wp;generalize(execOp a.eval o).run P w=r at*;cases r with|halt h w'=>exact G.elim|ok n w' =>(cases n with|value v =>obtain⟨aQ,ae,hs⟩:=G;exact⟨_,aQ,hK,(M.tJ hs).put N ae⟩|enter f args =>obtain⟨rfl,hc⟩:=G;(exact hc.mono λe rB ⟨v,lH,ao,ae,hs⟩=>by subst ao;exact⟨_,lH,hK,(M.tJ hs).put N ae⟩)|_=>exact G.elim)
theorem tL{ay:List bx}(hT:dh P ay)(M:bI U w C z a){o:Oper}(N:iV am o.dst=true){K:av->Prop}
  (G:nQ P B ay z o.dst o.op K) (a7:Exit->Act->World->Prop):o.wp P a w (λbv w'=>∃az aQ,K az/\bI U w' aQ az bv) a7:=by
 have quiet:pS P B ay z true o.op (λd=>K (z.put o.dst d))->o.wp P a w (λbv w'=>∃az aQ,K az/\bI U w' aQ az bv) a7:=λG=>by
  obtain⟨d,hK,ho⟩:=Bk hT G;exact zE M N hK (ho rfl a.eval w C _ M.base M.heap (λx _=>cI M.tmps x))
 obtain⟨dst,op,type,pos,after,guard⟩:=o;unfold nQ at G;cases op<;>simp only at G
 case move x=>exact zE M N ((zk _ _).1 G) (hI.same (cI M.tmps x))
 case assign x=>exact zE M N ((zk _ _).1 G) (hI.same (cI M.tmps x))
 case alloc e =>
  split at G
  ·rename_i cc s ao;obtain⟨c3,rfl⟩:=hT.get ao;split at G
   ·rename_i V bH;obtain⟨i,hi,_,_,nk⟩:=c3.qJ;obtain⟨ei,lJ,ma,jK⟩:=nk V bH
    have cY:(execOp a.eval ⟨some s,.alloc cc.t,type,pos,after,guard⟩).run P w=.ok (.value (.pointer (some ⟨w.heap.size,0,none⟩))) (w.alloc (.cells ei.cells cc.t)):=by
     simp[execOp,Instr.alloc,zeroValue,typeInfo,hi,lJ,newVar,newRow]
    simp only[Oper.wp,cY,Oper.upon];exact⟨_,_,G w.heap.size,(M.LI s cc.t (jK w C)).put N (.box _ _ _)⟩
   exact G.elim
  exact G.elim
 case box e x =>
  split at G
  ·rename_i cc s ao;obtain⟨c3,rfl⟩:=hT.get ao
   have cY:∀v,a.eval x=v->(execOp a.eval ⟨some s,.box cc.t x,type,pos,after,guard⟩).run P w=.ok (.value (.pointer (some ⟨w.heap.size,0,none⟩))) (w.alloc (.cells v.cells cc.t)):=by
    intro v W;simp[execOp,Instr.box,newVar,newRow,W]
   have I:=cI M.tmps x;split at G
   ·split at G
    ·rename_i aA hcs;rw[hcs]at I;obtain⟨vs,W,ae⟩:=I.tx;simp only[Oper.wp,cY _ W,Oper.upon];exact⟨_,_,G w.heap.size,(M.LI s cc.t ae).put N (.box _ _ _)⟩
    exact G.elim
   replace G:=ia G;obtain⟨ah,G⟩:=G;obtain⟨h1,_⟩:=I.oE ah;simp only[Oper.wp,cY _ rfl,Oper.upon,h1];exact⟨_,_,G w.heap.size,(M.LI s cc.t (.cons I (.nil _ _))).put N (.box _ _ _)⟩
  exact G.elim
 case store t x y =>
  split at G
  ·rename_i e s b off ao I;obtain⟨c3,rfl⟩:=hT.get ao;split at G
   ·rename_i eo aA hH;obtain⟨rfl,G⟩:=G;obtain⟨du,w',aQ,hK,cY,fV⟩:=abS M c3 hH G (cI M.tmps y);have W:=cI M.tmps x;rw[I]at W
    have LM:(execOp a.eval ⟨dst,.store e.t x y,type,pos,after,guard⟩).run P w=.ok .skip w':=by
     simp only[execOp,W.wu,Sem.run_bind,cY,Result.andThen_ok,Sem.run_pure]
    simp only[Oper.wp,LM,Oper.upon];exact⟨_,aQ,hK,fV.put N .undef⟩
   exact G.elim
  exact G.elim
 case call c =>
  obtain⟨callee,args,argTypes⟩:=c;simp only at G;split at G
  ·rename_i s x t DD kS kr abV;have zC:args=#[s,x]:=by apply au7;simpa using kr
   have abW:argTypes=#[t,DD]:=by apply au7;simpa using abV
   subst zC abW;replace G:=ia G;obtain⟨au,G⟩:=G;obtain rfl:=atx au;unfold RH at G;split at G
   ·exact G.elim
   rename_i e ao;obtain⟨c3,rfl⟩:=hT.get ao;split at G
   ·rename_i bD b5;split at G
    ·exact G.elim
    rename_i aF km;obtain⟨fo,rfl⟩:=hT.get km
    have key:∀(tg:iu) (xs:List D) (q:Nat) (az:av),(bh w C (.Q tg aF.aB xs) (a.eval s))->((∃bQ n,a.eval s=.slice bQ n n)/\q=kS\/z.H q=some (.own (a.eval s) xs.length aF.aB aF.t))->
      (∀o,(az.b6 kS o)=((z.b6 q none).b6 kS o))->
      (match z.ba x with
       |.Q _ bB a'=>cond (Nat.beq bB aF.aB&&Nat.blt 0 aF.aB) ((xs.length+a'.length)*aF.bytes<=140737488355328/\xs.length+a'.length<=9223372036854775807/\aF.zero≠none/\
         ∀v:Value,K ((az.b6 kS (some (.own v (xs.length+a'.length) aF.aB aF.t))).put (some kS) (.Q (.own kS v) aF.aB (xs++a')))) False
       |_=>False)->
      Oper.wp P ⟨some kS,.call ⟨.builtin .append,#[s,x],#[e.t,e.t]⟩,type,pos,after,guard⟩ a w (λbv w'=>∃az aQ,K az/\bI U w' aQ az bv) a7:=by
     intro tg xs q az wB tK abX G;have I:=cI M.tmps x;split at G
     ·rename_i nR bB a' abY;rw[abY]at I;replace G:=ia G;obtain⟨F,h1,A,Z,hK⟩:=G;rw[atd]at F;obtain rfl:=atx F.1;obtain⟨v,w',aQ,cY,ae,fV⟩:=R1 (P:=P) M c3 fo b5 Z wB I h1 A (dst:=kS) (ks:=type) tK
      have LM:(execOp a.eval ⟨some kS,.call ⟨.builtin .append,#[s,x],#[e.t,e.t]⟩,type,pos,after,guard⟩).run P w=.ok (.value v) w':=by
       simp[execOp,resolve,invoke,builtin,cY]
      simp only[Oper.wp,LM,Oper.upon];refine⟨_,aQ,hK v,?_⟩;rw[abX];exact fV.put N ae
     exact G.elim
    have hs:=cI M.tmps s;simp only at G;split at G
    ·rename_i DP;rw[DP]at hs;refine key .none [] kS z ?_ (.inl ⟨⟨none,0,hs.xR⟩,rfl⟩) (λo=>?_) G
     ·rw[hs.xR];exact .jk .none _ none trivial
     simp only[av.b6];congr 1;funext j;cases Nat.beq j kS<;>simp
    ·rename_i k xs DP;rw[DP]at hs;replace G:=ia G;obtain⟨Y,G⟩:=G;obtain rfl:=atx Y
     have abZ:∃bQ n,a.eval s=.slice bQ n n:=by
      rcases hs.kl with⟨_,_,h⟩|⟨_,_,_,_,_,h,_⟩
      ·exact h
      exact h
     refine key .dR xs kS z hs (.inl ⟨abZ,rfl⟩) (λo=>?_) G;simp only[av.b6];congr 1;funext j;cases Nat.beq j kS<;>simp
    ·rename_i q v k xs DP;rw[DP]at hs;split at G
     ·rename_i c' hX bB oD hH;replace G:=ia G;obtain⟨F,rfl,rfl,G⟩:=G;simp only[atd]at F;obtain rfl:=atx F.1.1;obtain rfl:=atx F.1.2;obtain rfl:=atx F.2
      have W:a.eval s=v:=by
       rcases hs.kl with⟨_,_,h⟩|⟨_,_,_,_,_,h,_⟩
       ·exact h
       exact h
      exact key (.own q v) xs q (z.b6 q none) hs (.inr (by rw[W];exact hH)) (λ_=>rfl) G
     exact G.elim
    exact G.elim
   exact G.elim
  exact quiet G
 all_goals exact quiet G
theorem ab0{ay:List bx}(hT:dh P ay)(M:bI U w C z a){o:Oper}(N:iV am o.dst=true){K:av->Prop}(G:pS P B ay z h o.op λd=>K (z.put o.dst (.l7 h d)))(a7:Exit->Act->World->Prop): if h=true then o.wp P a w (λbv w'=>∃az aQ,K az/\bI U w' aQ az bv) a7 else∃az,K az/\bI U w C az (a.put o.dst undef):=by obtain⟨d,hK,ho⟩:=Bk hT G;cases h with|true =>rw[as_ rfl];have h1:=ho rfl a.eval w C _ M.base M.heap (λx _=>cI M.tmps x);refine zE M N (d:=.l7 true d) hK ?_;generalize(execOp a.eval o).run P w=r at*;(cases r with|halt _ _=>exact h1|ok n w' =>(cases n with|value v=>obtain⟨aQ,ae,hs⟩:=h1;exact⟨aQ,.pM _ _ ae,hs⟩|enter f args=>exact⟨h1.1,h1.2.mono λe rB ⟨v,lH,ao,ae,hs⟩=>⟨v,lH,ao,.pM _ _ ae,hs⟩⟩|_=>exact h1))|false =>rw[as9 as1];exact⟨_,hK,M.put N (.uZ _)⟩
variable{ops:Array Oper}{tmps:Array Value}
theorem x1{g:Nat}{b:Bool}(aV:(ops[j]?).bind (·.dst)=some g)(W:tmps.getD g undef=.bool b):yielded ops tmps j=some b:=by unfold yielded;rw[aV];simp only[auV]at W;simp only[awr];cases au:tmps[g]? with|none=>rw[au]at W;cases W|some v=>rw[au]at W;simp only[at7]at W;subst W;rfl
theorem R2{g:Nat}(aV:(ops[j]?).bind (·.dst)=some g)(W:tmps.getD g undef=undef):yielded ops tmps j=none:=by unfold yielded;rw[aV];simp only[auV]at W;simp only[awr];cases au:tmps[g]? with|none=>rfl|some v=>rw[au]at W;simp only[at7]at W;subst W;rfl
theorem Hn{ay:List bx}(hT:dh P ay){U:b8 P B am}{ops:Array Oper}{a7:Exit->Act->World->Prop}{K:av->Prop}(fE:∀az bv w' aQ,K az->bI U w' aQ az bv->a7 .normal bv w'): ∀{l:List Oper} {z:av} (_:jJ P B ay am ops l z K) {a:Act} {w:World} {C:Nat->Nat} (_:bI U w C z a),wpList P ops a7 l a w
 |[],_,G,_,_,_,M=>fE _ _ _ _ G M
 |o::rest,z,G,a,w,C,M=>by change cond (iV am o.dst) _ False at G;replace G:=ia G;obtain⟨N,G⟩:=G;(have next:∀bv w',(∃az aQ,jJ P B ay am ops rest az K/\bI U w' aQ az bv)->wpList P ops a7 rest bv w':=λbv w' ⟨az,aQ,h1,A⟩=>Hn hT fE h1 A;unfold wpList;split at G);(·rename_i aV;rw[as_ (by simp[Region.wanted,aV])];exact .inl (Oper.wp_mono next (tL hT M N G a7)));rename_i j ix aV;split at G;exact G.elim;rename_i g ib;have jM:=M.tmps g;(have oF:∀h:Bool,Region.wanted o (yielded ops a.tmps)=h->pS P B ay z h o.op (λd=>jJ P B ay am ops rest (z.put o.dst (.l7 h d)) K)->(if Region.wanted o (yielded ops a.tmps)then o.wp P a w (wpList P ops a7 rest) a7\/(o.asks P a w/\LetsOut a7)else wpList P ops a7 rest (a.put o.dst undef) w):=by intro h cH G;rw[cH];have:=ab0 hT M N (K:=λaz=>jJ P B ay am ops rest az K) G a7;cases h with|true=>rw[as_ rfl]at this⊢;exact .inl (Oper.wp_mono next this)|false=>rw[as9 as1]at this⊢;obtain⟨az,h1,A⟩:=this;exact Hn hT fE h1 A);split at G;rename_i b F;rw[F]at jM;have hy:=x1 ib jM.hW;(cases ix with|true=>exact oF b (axH) G|false=>exact oF (!b) (axH) G);rename_i c b F;rw[F]at jM;(cases c with|true =>(have W:a.tmps.getD g undef=.bool b:=by cases jM with|pM _ _ h=>exact h.hW);have hy:=x1 ib W;(cases ix with|true=>exact oF (true&&b) (axH) G|false=>exact oF (true&&!b) (axH) G)|false =>(have W:a.tmps.getD g undef=undef:=by generalize a.tmps.getD g undef=v at jM;cases jM;rfl);have hy:=R2 ib W;(cases ix with|true=>exact oF (false&&b) (by simp only[Region.wanted,aV,hy];rfl) G|false=>exact oF (false&&!b) (by simp only[Region.wanted,aV,hy];rfl) G));exact G.elim
theorem X.region{ay:List bx}(hT:dh P ay){U:b8 P B am}{id:Nat}{ops:Array Oper}{z:av}{K:cM->av->Prop}(G:jJ P B ay am ops ops.toList z (K .normal)):X U (.region id ops false) z K :=
 ⟨λ_ _ _ M=>wp_region_list (Hn hT (λaz _ _ aQ hK bM=>⟨.normal,az,aQ,rfl,hK,bM⟩) G M)⟩
variable{md:Region.Mode}
def sJ(P:Program)(B:World)(ops:Array Oper)(o:Oper)(d:D)(z:av):Prop :=
 ∀(a:Act) (w:World) (C:Nat->Nat) (Ft:Nat->Prop),pP B w->l8 Ft w C z.H->(∀i,i∈o.looksAt ops->bh w C (z.t i) (a.tmps.getD i undef))->
  (Region.wanted o (yielded ops a.tmps)=true/\hI P d w C ((execOp a.eval o).run P w))\/(Region.wanted o (yielded ops a.tmps)=false/\bh w C d undef)
variable{az:av}
theorem sJ.R3{o:Oper}(h:sJ P B ops o d z)(hH:az.H=z.H)(au:∀i,i∈o.looksAt ops->az.t i=z.t i):sJ P B ops o d az:=by intro a w C Ft F ae c0;exact h a w C Ft F (hH ▸ ae) λi hi=>by rw[<-au i hi];exact c0 i hi
theorem DQ(z:av)(dst:Option Tmp)(d:D):(z.put dst d).H=z.H:=by cases dst<;>rfl
variable{dst:Option Tmp}
theorem LN(h:∀t,dst=some t->t≠i):(z.put dst d).t i=z.t i:=by cases dst with|none=>rfl|some t=>simp[av.put,auZ (λe=>h t rfl e.symm:i≠t)]
theorem ab1{x y:Option Tmp}{ak v:D}(h:∀t,x=some t->y≠some t):(z.put x ak).put y v=(z.put y v).put x ak:=by cases x with|none=>rfl|some s =>(cases y with|none=>rfl|some t =>have a6:s≠t:=λe=>h s rfl (e ▸ rfl);simp only[av.put];congr 1;funext j;(cases h1:Nat.beq j t with|true =>have bY:=atx h1;subst bY;rw[auZ (Ne.symm a6)];rfl|false=>cases Nat.beq j s<;>rfl))
def oG(P:Program)(B:World)(am:Nat)(ops:Array Oper)(i:Nat)(K:av->Prop)(z:av):Prop :=
 match ops[i]? with
 |none=>K z
 |some o=>iV am o.dst=true/\∃d,sJ P B ops o d z/\K (z.put o.dst d)
variable{sz:av->Prop}
theorem R4{K:av->Prop}(h:∀z,K z->sz z)(cG:oG P B am ops i K z):oG P B am ops i sz z:=by unfold oG at*;split;rename_i ah;rw[ah]at cG;exact h _ cG;rename_i o ah;rw[ah]at cG;obtain⟨h1,d,A,Z⟩:=cG;exact⟨h1,d,A,h _ Z⟩
theorem sJ.oG{i:Nat}{o:Oper}{d:D}{z:av}(hi:ops[i]?=some o)(N:iV am o.dst=true)(hy:sJ P B ops o d z){K:av->Prop}(h:K (z.put o.dst d)):oG P B am ops i K z:=by unfold Go.bS.oG;simp only[hi];exact⟨N,d,hy,h⟩
variable{nm:Oper}
theorem R5{nn:Oper}{v:D}(ad:ops[j]?=some nn)(sK:nm.apart ops nn=true){K:av->Prop}(hy:sJ P B ops nm v z)(h:oG P B am ops j K (z.put nm.dst v)): oG P B am ops j (λaz=>sJ P B ops nm v az/\K (az.put nm.dst v)) z:=by obtain⟨h1,A,Z⟩:=Oper.apart_spec sK;unfold oG at*;simp only[ad]at*;obtain⟨N,ak,an,hK⟩:=h;refine⟨N,ak,an.R3 (DQ _ _ _).symm (λi hi=>(LN λt au e=>?_).symm),hy.R3 (DQ _ _ _) (λi hi=>LN λt au e=>?_),?_⟩;subst e;exact h1 t au hi;subst e;exact Z t au hi;rw[<-ab1 A];exact hK
def DR(P:Program)(B:World)(am:Nat)(md:Region.Mode)(ops:Array Oper)(a7:av->Prop):Nat->Array Bool->av->Prop
 |0,bf,z=>Region.ready md ops bf=[]/\a7 z
 |iY+1,bf,z =>
  (Region.ready md ops bf=[]->a7 z)/\
  ∀i∈Region.ready md ops bf,oG P B am ops i (DR P B am md ops a7 iY (bf.setIfInBounds i true)) z
theorem R6{K:av->Prop}{sz:Act->World->Prop}{Q':Exit->Act->World->Prop}(M:bI U w C z a)(h:∀z a w C,bI U w C z a->K z->sz a w)(cG:oG P B am ops i K z):wpOp P ops Q' i sz a w:=by unfold oG at cG;unfold wpOp;split;rename_i ah;rw[ah]at cG;exact h _ _ _ _ M cG;rename_i o ah;rw[ah]at cG;obtain⟨N,d,hy,hK⟩:=cG;rcases hy a w C _ M.base M.heap (λi _=>M.tmps i)with⟨cH,G⟩|⟨cH,ae⟩;rw[as_ cH];exact .inl (Oper.wp_mono (λbv w' ⟨az,aQ,h1,A⟩=>h az bv w' aQ A h1) (zE M N hK G));rw[cH];exact h _ _ _ _ (M.put N ae) hK
theorem R7{U:b8 P B am}{a7:av->Prop}{Q':Exit->Act->World->Prop}(fE:∀z a w C,bI U w C z a->a7 z->Q' .normal a w):∀(iY:Nat) (bf:Array Bool) (z:av) (a:Act) (w:World) (C:Nat->Nat),bI U w C z a->DR P B am md ops a7 iY bf z->wpAny P md ops Q' iY bf a w
 |0,_,_,_,_,_,M,h=>⟨h.1,fE _ _ _ _ M h.2⟩
 |iY+1,_,_,_,_,_,M,h=>⟨λh0=>fE _ _ _ _ M (h.1 h0),λi hi=>R6 M (λaz bv w' aQ fV=>R7 fE iY _ az bv w' aQ fV) (h.2 i hi)⟩
theorem ab2{a7:av->Prop}{v:D}(hi:ops[i]?=some nm)(lK:iV am nm.dst=true): ∀(iY:Nat) (bf:Array Bool) (z:av),(∀j nn,ops[j]?=some nn->j≠i->bf.getD j true=false->(∀e∈nn.after,Region.binds md e=true->e.on≠i)->nm.apart ops nn=true)->i∈Region.ready md ops bf->sJ P B ops nm v z->DR P B am md ops a7 iY (bf.setIfInBounds i true) (z.put nm.dst v)->DR P B am md ops a7 (iY+1) bf z:=by intro iY;induction iY with|zero =>intro bf z _ ae hy H;refine⟨λh=>(by rw[h]at ae;cases ae),λj ad=>?_⟩;by_cases fq:j=i;subst fq;exact hy.oG hi lK H;have:=ready_mono ad fq;rw[H.1]at this;cases this|succ iY aY =>intro bf z DS ae hy H;refine⟨λh=>(by rw[h]at ae;cases ae),λj ad=>?_⟩;by_cases fq:j=i;subst fq;exact hy.oG hi lK H;have h1:=H.2 j (ready_mono ad fq);obtain⟨DT,nn,DU,hC⟩:=mem_ready.1 ad;(have LO:∀e∈nn.after,Region.binds md e=true->e.on≠i:=λe ao F jm=>by have h1:=hC e ao F;have h0:=(mem_ready.1 ae).1;rw[jm]at h1;rcases ats i bf.size with bz|bz;simp[bz]at h0 h1;rw[h0]at h1;cases h1;simp[awm bz]at h1);have A:=R5 DU (DS j nn DU fq DT LO) hy h1;(have LP:∀k ok,ops[k]?=some ok->k≠i->(bf.setIfInBounds j true).getD k true=false->(∀e∈ok.after,Region.binds md e=true->e.on≠i)->nm.apart ops ok=true:=λk ok Y kp u9 fe=>aw7);refine R4 (λaz Z=>aY (bf.setIfInBounds j true) az LP (ready_mono ae (Ne.symm fq)) Z.1 ?_) A;rw[Array.setIfInBounds_comm _ _ fq];exact Z.2
theorem R8{ay:List bx}(hT:dh P ay){o:Oper}{l:List Oper}{K:av->Prop}(nU:Op.Bd o.op=true)(G:jJ P B ay am ops (o::l) z K):
  iV am o.dst=true/\∃d,sJ P B ops o d z/\jJ P B ay am ops l (z.put o.dst d) K:=by
 change cond (iV am o.dst) _ False at G
 replace G:=ia G;obtain⟨N,G⟩:=G;refine⟨N,?_⟩
 have aK:∀(a:Act) (w:World) (C:Nat->Nat),(∀i,i∈o.looksAt ops->bh w C (z.t i) (a.tmps.getD i undef))->∀x∈o.op.operands,bh w C (z.ba x) (a.eval x):=by
  intro a w C h x I
  cases x with
  |tmp t=>exact h t (List.mem_append_left _ (awa.2 ⟨.tmp t,by simpa using I,rfl⟩))
  |const v=>exact cI (z:={t:=λ_=>.any,H:=z.H}) (λ_=>.any _) (.const v)
  |global g=>exact .al _
  |func f=>exact cI (z:={t:=λ_=>.any,H:=z.H}) (a:=a) (λ_=>.any _) (.func f)
 split at G
 ·rename_i aV
  have u7:pS P B ay z true o.op (λd=>jJ P B ay am ops l (z.put o.dst d) K)\/(∃x,(o.op=.move x\/o.op=.assign x)/\jJ P B ay am ops l (z.put o.dst (z.ba x)) K):=by
   obtain⟨dst,op,type,pos,after,guard⟩:=o;unfold nQ at G;cases op<;>simp only[Op.Bd]at G nU
   case move x=>exact .inr ⟨x,.inl rfl,(zk _ _).1 G⟩
   case assign x=>exact .inr ⟨x,.inr rfl,(zk _ _).1 G⟩
   case call c =>
    obtain⟨callee,args,argTypes⟩:=c;simp only at G nU;split at G
    ·simp at nU
    exact .inl G
   all_goals first
    |exact .inl G
    |(cases nU;done)
  rcases u7 with u7|⟨x,I,u7⟩
  ·obtain⟨d,hK,ho⟩:=Bk hT u7;exact⟨d,λa w C Ft F ae c0=>.inl ⟨by simp[Region.wanted,aV],ho rfl a.eval w C Ft F ae (aK a w C c0)⟩,hK⟩
  refine⟨_,λa w C Ft F ae c0=>.inl ⟨by simp[Region.wanted,aV],?_⟩,u7⟩;have h1:=aK a w C c0 x (by rcases I with h|h<;>simp[h,Op.operands]);obtain⟨dst,op,type,pos,after,guard⟩:=o;rcases I with h|h<;>(simp only at h;subst h;exact hI.same h1)
 rename_i j ix aV;split at G
 ·exact G.elim
 rename_i g ib
 have R9:g∈o.looksAt ops:=by
  unfold Oper.looksAt;rw[aV];exact List.mem_append_right _ (by simp[ib])
 have oF:∀h:Bool,(∀(a:Act) (w:World) (C:Nat->Nat),(∀i,i∈o.looksAt ops->bh w C (z.t i) (a.tmps.getD i undef))->Region.wanted o (yielded ops a.tmps)=h)->
   pS P B ay z h o.op (λd=>jJ P B ay am ops l (z.put o.dst (.l7 h d)) K)->∃d,sJ P B ops o d z/\jJ P B ay am ops l (z.put o.dst d) K:=by
  intro h cH G;obtain⟨d,hK,ho⟩:=Bk hT G;refine⟨.l7 h d,λa w C Ft F ae c0=>?_,hK⟩
  cases h with
  |true =>
   refine .inl ⟨cH a w C c0,?_⟩;have h1:=ho rfl a.eval w C Ft F ae (aK a w C c0);generalize(execOp a.eval o).run P w=r at*
   cases r with
   |halt _ _=>exact h1
   |ok n w' =>
    cases n with
    |value v=>obtain⟨aQ,ae,hs⟩:=h1;exact⟨aQ,.pM _ _ ae,hs⟩
    |enter f args=>exact⟨h1.1,h1.2.mono λe rB ⟨v,lH,ao,ae,hs⟩=>⟨v,lH,ao,.pM _ _ ae,hs⟩⟩
    |_=>exact h1
  |false=>exact .inr ⟨cH a w C c0,.uZ _⟩
 split at G
 ·rename_i b F
  have hy:∀(a:Act) (w:World) (C:Nat->Nat),(∀i,i∈o.looksAt ops->bh w C (z.t i) (a.tmps.getD i undef))->yielded ops a.tmps j=some b:=λa w C h=>by
   have jM:=h g R9;rw[F]at jM;exact x1 ib jM.hW
  cases ix with
  |true=>exact oF b (λa w C h=>by simp only[Region.wanted,aV,hy a w C h];cases b<;>rfl) G
  |false=>exact oF (!b) (λa w C h=>by simp only[Region.wanted,aV,hy a w C h];cases b<;>rfl) G
 ·rename_i c b F
  have hy:∀(a:Act) (w:World) (C:Nat->Nat),(∀i,i∈o.looksAt ops->bh w C (z.t i) (a.tmps.getD i undef))->yielded ops a.tmps j=if c then some b else none:=λa w C h=>by
   have jM:=h g R9;rw[F]at jM
   cases c with
   |true =>
    have W:a.tmps.getD g undef=.bool b:=by
     cases jM with
     |pM _ _ h=>exact h.hW
    rw[as_ rfl];exact x1 ib W
   |false =>
    have W:a.tmps.getD g undef=undef:=by
     generalize a.tmps.getD g undef=v at jM;cases jM;rfl
    rw[as9 as1];exact R2 ib W
  cases ix with
  |true=>exact oF (c&&b) (λa w C h=>axt) G
  |false=>exact oF (c&&!b) (λa w C h=>axt) G
 exact G.elim
theorem R_{ay:List bx}(hT:dh P ay){a7:av->Prop}:∀(l:List Oper) (k:Nat) (bf:Array Bool) (z:av),(∀j,l[j]?=ops[k+j]?)->l.all (λo=>Op.Bd o.op)=true->Region.lexFrom md ops l.length k bf=true->jJ P B ay am ops l z a7->DR P B am md ops a7 l.length bf z
 |[],_,_,_,_,_,gd,h=>⟨by simpa[Region.lexFrom]using gd,h⟩
 |o::l,k,bf,z,aj,nU,gd,h=>by(have h0:ops[k]?=some o:=by simpa using(aj 0).symm);simp only[ath,Region.lexFrom,atd]at gd;obtain⟨⟨ae,M⟩,LQ⟩:=gd;simp only[avO,atd]at nU;obtain⟨N,d,hy,hK⟩:=R8 hT nU.1 h;exact ab2 h0 N l.length bf z (Region.free_spec h0 M) (by simpa using ae) hy (R_ hT l (k+1) _ _ (λj=>by have:=aj (j+1);simpa[au9,avZ 1 j]using this) nU.2 LQ hK)
def Ho(ops:Array Oper):Bool:=Region.lexB .any ops&&ops.toList.all λo=>Op.Bd o.op
theorem bI.drew{U:b8 P B am}{w:World}{C:Nat->Nat}{z:av}{a:Act}(h:bI U w C z a):bI U {w with drawn:=w.drawn+1} C z a:=h.tJ (da.drew _ w C)
variable{id:Nat}{K:cM->av->Prop}
theorem X.u_{ay:List bx}(hT:dh P ay)(hm:P.follows .mixedOrders=true)(gd:Ho ops=true)
  (G:jJ P B ay am ops ops.toList z (K .normal)):X U (.region id ops true) z K :=
 ⟨λa w C M=>by
  simp only[Ho,Region.lexB,atd]at gd;refine wp_region_any hm (R7 (U:=U) (a7:=K .normal) (λz a w C bM hK=>⟨.normal,z,C,rfl,hK,bM⟩) _ _ z _ _ C M.drew ?_);have:=R_ hT (md:=.any) (am:=am) ops.toList 0 (Array.replicate ops.size false) z as1 gd.2 (by simpa using gd.1.2) G
  simpa using this⟩
def DV(P:Program)(B:World)(am:Nat)(md:Region.Mode)(ops:Array Oper)(n:Nat)(L:Array Bool->av->Prop):Nat->Array Bool->av->Prop
 |0,bf,z=>L bf z
 |f+1,bf,z =>
  Region.ready md ops bf≠[]/\∀i∈Region.ready md ops bf,i<n/\oG P B am ops i (DV P B am md ops n L f (bf.setIfInBounds i true)) z
theorem Hp{U:b8 P B am}{n g:Nat}{L:Array Bool->av->Prop}{Q':Exit->Act->World->Prop}(aW:∀bf z a w C,bI U w C z a->L bf z->wpAny P md ops Q' g bf a w): ∀(f:Nat) (bf:Array Bool) (z:av) (a:Act) (w:World) (C:Nat->Nat),bI U w C z a->DV P B am md ops n L f bf z->wpAny P md ops Q' (f+g) bf a w
 |0,bf,z,a,w,C,M,h=>by rw[atT];exact aW _ _ _ _ _ M h
 |f+1,bf,z,a,w,C,M,h=>by rw[show f+1+g=(f+g)+1 by omega];exact⟨λh0=>absurd h0 h.1,λi hi=>R6 M (λaz bv w' aQ fV bz=>Hp aW f _ az bv w' aQ fV bz) (h.2 i hi).2⟩
theorem ab3{n:Nat}{v:D}{L:Array Bool->av->Prop}(hi:ops[i]?=some nm)(lK:iV am nm.dst=true)(hs:Region.sinkB md ops n=true)(hc:Region.chainB md ops n=true)(ax:n<ops.size)(cd:i<n)(ab4:∀bf z,L bf z->∀j∈Region.ready md ops bf,n<=j): ∀(f:Nat) (bf:Array Bool) (z:av),HeadInv md ops n bf->(∀j nn,ops[j]?=some nn->j≠i->bf.getD j true=false->(∀e∈nn.after,Region.binds md e=true->e.on≠i)->nm.apart ops nn=true)->i∈Region.ready md ops bf->sJ P B ops nm v z->DV P B am md ops n L f (bf.setIfInBounds i true) (z.put nm.dst v)->DV P B am md ops n L (f+1) bf z:=by intro f;induction f with|zero =>intro bf z pO _ ae hy H;have u9:=(mem_ready.1 ae).1;refine⟨λh=>(by rw[h]at ae;cases ae),λj ad=>?_⟩;(have zF:j<n:=aw_);refine⟨zF,?_⟩;by_cases fq:j=i;subst fq;exact hy.oG hi lK H;have:=ab4 _ _ H j (ready_mono ad fq);omega|succ f aY =>intro bf z pO DS ae hy H;have u9:=(mem_ready.1 ae).1;refine⟨λh=>(by rw[h]at ae;cases ae),λj ad=>?_⟩;(have zF:j<n:=aw_);refine⟨zF,?_⟩;by_cases fq:j=i;subst fq;exact hy.oG hi lK H;have h1:=(H.2 j (ready_mono ad fq)).2;obtain⟨DT,nn,DU,hC⟩:=mem_ready.1 ad;(have LO:∀e∈nn.after,Region.binds md e=true->e.on≠i:=λe ao F jm=>by have h1:=hC e ao F;rw[jm,getD_both u9]at h1;cases h1);have A:=R5 DU (DS j nn DU fq DT LO) hy h1;(have LP:∀k ok,ops[k]?=some ok->k≠i->(bf.setIfInBounds j true).getD k true=false->(∀e∈ok.after,Region.binds md e=true->e.on≠i)->nm.apart ops ok=true:=λk ok Y kp u9 fe=>aw7);refine R4 (λaz Z=>aY (bf.setIfInBounds j true) az (pO.set ad zF) LP (ready_mono ae (Ne.symm fq)) Z.1 ?_) A;rw[Array.setIfInBounds_comm _ _ fq];exact Z.2
theorem Hq{ay:List bx}(hT:dh P ay){n g:Nat}{r:List Oper}{a7:av->Prop}(hs:Region.sinkB md ops n=true)(hc:Region.chainB md ops n=true)(ax:n<ops.size): ∀(l:List Oper) (k:Nat) (bf:Array Bool) (z:av),(∀j,j<l.length->l[j]?=ops[k+j]?)->l.all (λo=>Op.Bd o.op)=true->k+l.length=n->HeadInv md ops n bf->Region.lexHead md ops g l.length k bf=true->jJ P B ay am ops (l++r) z a7->DV P B am md ops n (λR' az=>Region.seqB md ops g n R'=true/\jJ P B ay am ops r az a7) l.length bf z
 |[],k,bf,z,_,_,Y,_,gd,h=>by(have:k=n:=by simpa using Y);subst this;exact⟨by simpa[Region.lexHead]using gd,h⟩
 |o::l,k,bf,z,aj,nU,Y,pO,gd,h=>by(have h0:ops[k]?=some o:=by simpa using(aj 0 as1).symm);simp only[ath,Region.lexHead,atd]at gd;obtain⟨⟨ae,M⟩,LQ⟩:=gd;simp only[avO,atd]at nU;(have f_:k<n:=by simp only[ath]at Y;omega);(have Bp:k∈Region.ready md ops bf:=by simpa using ae);obtain⟨N,d,hy,hK⟩:=R8 (l:=l++r) hT nU.1 h;exact ab3 h0 N hs hc ax f_ (λR' az aW=>seqB_ready aW.1) l.length bf z pO (Region.free_spec h0 M) Bp hy (Hq hT hs hc ax l (k+1) _ _ (λj ad=>by have:=aj (j+1) as0;simpa[au9,avZ 1 j]using this) nU.2 (by simp only[ath]at Y;omega) (pO.set Bp f_) LQ hK)
def Bq(ops:Array Oper)(n:Nat):Bool:=Region.lexTailB .any ops n&&(ops.toList.take n).all λo=>Op.Bd o.op
theorem X.Br{ay:List bx}(hT:dh P ay)(n:Nat)(hm:P.follows .mixedOrders=true)(gd:Bq ops n=true)
  (G:jJ P B ay am ops ops.toList z (K .normal)):X U (.region id ops true) z K :=
 ⟨λa w C M=>by
  obtain⟨l⟩:=ops;simp only[Bq,Region.lexTailB,atd,atS]at gd;obtain⟨⟨⟨⟨⟨Sa,ax⟩,hs⟩,hc⟩,DW⟩,nU⟩:=gd;have wE:n<l.length:=by simpa using ax
  have iZ:(l.take n).length=n:=by simp;omega
  have jN:(l.drop n).length=(⟨l⟩:Array Oper).size-n:=by simp
  have DX:HeadInv .any ⟨l⟩ n (Array.replicate (⟨l⟩:Array Oper).size false) :=
   ⟨by simp,λj nn _ aj=>(axP),λt _ au=>getD_in (by simpa using au) (getD_replicate_false _ _)⟩
  have H:=Hq (md:=.any) (g:=(⟨l⟩:Array Oper).size-n) (r:=l.drop n) (am:=am) hT hs hc ax (l.take n) 0 _ z (λj ad=>by
   have gk:j<n:=by rw[iZ]at ad;exact ad
   simp[gk]) nU (by simpa using iZ) DX (by rw[iZ];exact DW) (by rw[auz];exact G)
  refine wp_region_any hm ?_
  have:=Hp (U:=U) (Q':=λe bv w'=>∃c8 az aQ,e=cM.f7 c8/\K c8 az/\bI U w' aQ az bv) (g:=(⟨l⟩:Array Oper).size-n) (λbf az bv w' aQ bM aW=>by
   have:=wpAny_of_seq (md:=.any) (Q':=λe bv w'=>∃c8 az aQ,e=cM.f7 c8/\K c8 az/\bI U w' aQ az bv) (l.drop n) n bf bv w' (λj=>by simp[avd]) (by rw[jN];exact aW.1)
    (Hn hT (λDY _ _ lH hK DZ=>⟨.normal,DY,lH,rfl,hK,DZ⟩) aW.2 bM)
   rwa [jN]at this) _ _ z a _ C M.drew H
  rw[iZ,show n+((⟨l⟩:Array Oper).size-n)=(⟨l⟩:Array Oper).size by omega]at this
  exact this⟩
theorem X.cond{U:b8 P B am}{c:Operand}{x y:Code}{z:av}{K:cM->av->Prop}(t:Bool)(hc:z.ba c=.bool t)(h1:t=true->X U x z K)(A:t=false->X U y z K):
  X U (.cond c x y) z K :=
 ⟨λa w C M=>by
  have W:=cI M.tmps c;rw[hc]at W
  exact wp_cond_split W.hW (λh=>(h1 h).run a w C M) (λh=>(A h).run a w C M)⟩
def D0(ay:List bx)(z:av):List ResultVar->(List D->Prop)->Prop
 |[],k=>k []
 |.tmp t::r,k=>D0 ay z r λds=>k (z.t t::ds)
 |.cell a ks::r,k=>match dv ay ks,z.t a with
  |some e,.box s b off=>match z.H s with
   |some (.box eo aA)=>b=eo/\DB e off aA λd=>D0 ay z r λds=>k (d::ds)
   |_=>False
  |_,_=>False
def zG(ay:List bx)(z:av)(kU:List ResultVar)(d:D):Prop :=
 D0 ay z kU λds=>match ds with
  |[x]=>aq x d
  |ds=>match d with
   |.bo eF=>dK ds eF
   |_=>False
def LR(ay:List bx)(kU:List ResultVar)(d:D):cM->av->Prop
 |.exit _,_=>False
 |.normal,z=>zG ay z kU d
 |.ret,z=>zG ay z kU d
def Hr(tmps:Array Value):ResultVar->Sem Value
 |.tmp t=>pure (tmps.getD t undef)
 |.cell b t=>do loadVar t (<-asAddr (tmps.getD b undef))
theorem LS{ay:List bx}(hT:dh P ay){z:av}{w:World}{C:Nat->Nat}{a:Act}(au:∀i,bh w C (z.t i) (a.tmps.getD i undef)){Ft:Nat->Prop}(hH:l8 Ft w C z.H): ∀{kU:List ResultVar} {k:List D->Prop} (_:D0 ay z kU k),∃ds vs,k ds/\db w C ds vs/\(kU.mapM (Hr a.tmps)).run P w=.ok vs w/\vs.length=kU.length
 |[],k,Y=>⟨[],[],Y,.nil _ _,by simp,rfl⟩
 |.tmp t::r,k,Y=>by obtain⟨ds,vs,h1,A,Z,aD⟩:=LS hT au hH (kU:=r) Y;refine⟨_,a.tmps.getD t undef::vs,h1,.cons (au t) A,?_,by simp[aD]⟩;simp only[List.mapM_cons,Sem.run_bind,Hr,Sem.run_pure,Result.andThen_ok,Z]
 |.cell b ks::r,k,Y=>by simp only[D0]at Y;split at Y;rename_i e s eo off ao F;obtain⟨c3,rfl⟩:=hT.get ao;split at Y;rename_i aqO aA ab5;obtain⟨rfl,Y⟩:=Y;obtain⟨d,Y,N⟩:=RL (P:=P) c3 Y;obtain⟨ds,vs,h1,A,Z,aD⟩:=LS hT au hH (kU:=r) Y;obtain⟨dl,bD,hbk,hZ,_⟩:=hH.ch s _ ab5;have aw:=au b;rw[F]at aw;have aw:=aw.wu;obtain⟨v,W,ae⟩:=N w C eo 0 (λj=>dl.getD j undef) (λj d N=>by have ad:=e9 N;rw[hZ.1]at ad;have W:dl[j]?=some dl[j]:=ata ad;(have dL:dl.getD j undef=dl[j]:=by simp[List.getD,W]);refine⟨?_,?_⟩;simp only[World.cell?,hbk,atT,dL];simp[ad];rw[dL];exact hZ.2 j d _ N W);refine⟨_,v::vs,h1,.cons ae A,?_,by simp[aD]⟩;simp only[atT,Instr.loadAt,Instr.sureAddr,Sem.run_bind,Sem.run_pure,Result.andThen_ok]at W;have ab6:asAddr (.pointer (some ⟨eo,off,none⟩))=pure ⟨eo,off,none⟩:=rfl;simp only[List.mapM_cons,Sem.run_bind,Hr,aw,ab6,Sem.run_pure,Result.andThen_ok,W,Z];exact Y.elim;exact Y.elim
theorem Sb{ay:List bx}(hT:dh P ay)(au:∀i,bh w C (z.t i) (a.tmps.getD i undef))(hH:l8 Ft w C z.H){fn:Func}(h:zG ay z fn.results.toList d):∃v,(results fn a.tmps).run P w=.ok v w/\bh w C d v:=by obtain⟨ds,vs,h1,A,Z,aD⟩:=LS (P:=P) hT au hH h;(have cY:∀(dl:List Value) (ak:Value),dl=vs->(if h:(⟨dl⟩:Array Value).size=1 then(⟨dl⟩:Array Value)[0]else .tuple ⟨dl⟩)=ak->(results fn a.tmps).run P w=.ok ak w:=by intro dl ak x2 an;subst x2;(have e:results fn a.tmps=(fn.results.mapM (Hr a.tmps) >>= λvs=>pure (if h:vs.size=1 then vs[0]else .tuple vs)):=by unfold results;congr 2);rw[e,Sem.run_bind,Array.mapM_eq_mapM_toList];simp only[Sem.run_map,Z,Result.andThen_ok,Sem.run_pure];rw[<-an]);cases ds with|nil =>(cases vs with|cons _ _=>have:=A.1;simp at this|nil =>simp only at h1;split at h1;rename_i _ eF;have bc:=h1.rD A;exact⟨.tuple ⟨[]⟩,cY [] _ rfl rfl,.bo _ [] bc.1 bc.2⟩;exact h1.elim)|cons x ds =>(cases vs with|nil=>have:=A.1;simp at this|cons v vs =>(cases ds with|nil =>(cases vs with|cons _ _=>have:=A.1;simp at this|nil=>exact⟨v,cY [v] v rfl rfl,h1.le _ _ _ A.head⟩)|cons y ds =>(cases vs with|nil=>have:=A.1;simp at this|cons ak vs =>simp only at h1;split at h1;have bc:=h1.rD A;exact⟨.tuple ⟨v::ak::vs⟩,cY (v::ak::vs) _ rfl (by rw[awd as1]),.bo _ _ bc.1 bc.2⟩;exact h1.elim)))
def Bs:List D->Nat->D
 |[],_=>.any
 |d::_,0=>d
 |_::r,n+1=>Bs r n
theorem LU:∀(ds:List D) (i:Nat),Bs ds i=(ds[i]?).getD .any
 |[],_=>by simp[Bs]
 |d::_,0=>by simp[Bs]
 |_::r,n+1=>by simp[Bs,LU r n]
def entry(ds:List D)(H:bF):av:={t:=Bs ds,H}
theorem mO.intro{ay : List bx}(hT : dh P ay){f : FuncId}{fn : Func}{body : Code}{ds : List D}{d : D}(M : P.funcs[f]?=some fn)(F : fn.body = some body)(ax : (fn.name == "runtime.NumGoroutine") = false)(p1:fn.ntmps=am)(aj:Nat.ble ds.length am=true)(h:∀U:b8 P B am,X U body (entry ds bF.none) (LR ay fn.results.toList d)):mO P B f ds d:=by refine⟨⟨fn,M,by simp[F],ax⟩,λw C args pX ae=>?_⟩;have mM:=atH aj;have hlen:=ae.1;let U:b8 P B am:=⟨w,C,λ_=>False,pX,λ_ h=>h.elim⟩;refine calls_of_wp M F ?_;(have nP:bI U w C (entry ds bF.none) {tmps:=⟨args⟩++Array.replicate (fn.ntmps-(⟨args⟩:Array Value).size) undef,defers:=[]}:=by refine⟨λi=>?_,.none _ _ _,by simp[p1];omega,rfl,.refl _ _ _⟩;exact awN);refine wp_mono ((h U).run _ w C nP) ?_;rintro e bv w' ⟨c8,az,aQ,rfl,hK,bM⟩;(have rI:zG ay az fn.results.toList d->bv.defers=[]/\∃v,(results fn bv.tmps).run P w'=.ok v w'/\∃c' aQ,Ending.returned v=.returned c'/\bh w' aQ d c'/\da (λ_=>False) w C w' aQ:=by intro Bt;obtain⟨v,W,eQ⟩:=Sb (P:=P) hT bM.tmps bM.heap Bt;exact⟨bM.defers,v,W,v,aQ,rfl,eQ,bM.step⟩);cases c8 with|normal=>exact rI hK|ret=>exact rI hK|exit id=>exact hK.elim
def gC(H:bF):List (Nat×Nat)->bF
 |[],_=>none
 |(k,s)::r,j=>cond (Nat.beq j k) (H s) (gC H r j)
def qO(H aO:bF):List (Nat×Nat)->bF
 |[],j=>H j
 |(k,s)::r,j=>cond (Nat.beq j s) (aO k) (qO H aO r j)
def j4:List (Nat×Nat)->Bool
 |[]=>true
 |(k,s)::r=>r.all (λx=>!Nat.beq x.1 k&&!Nat.beq x.2 s)&&j4 r
theorem D1{H:bF}:∀{m:List (Nat×Nat)} {j:Nat} {o:aI},gC H m j=some o->∃s,(j,s)∈m/\H s=some o
 |[],_,_,h=>by cases h
 |(k,s)::r,j,o,h=>by simp only[gC]at h;cases F:Nat.beq j k with|true=>rw[F]at h;have:=atx F;subst this;exact⟨s,atk,h⟩|false=>rw[F]at h;obtain⟨bq,h1,A⟩:=D1 (m:=r) h;exact⟨bq,ato _ h1,A⟩
theorem D2{H aO:bF}:∀{m:List (Nat×Nat)} {j:Nat} {o:aI},qO H aO m j=some o->(∃k,(k,j)∈m/\aO k=some o)\/((∀k,(k,j)∉m)/\H j=some o)
 |[],_,_,h=>.inr ⟨λ_ hm=>(by cases hm),h⟩
 |(k,s)::r,j,o,h=>by simp only[qO]at h;cases F:Nat.beq j s with|true=>rw[F]at h;have:=atx F;subst this;exact .inl ⟨k,atk,h⟩|false =>rw[F]at h;rcases D2 (m:=r) h with⟨bB,h1,A⟩|⟨h1,A⟩;exact .inl ⟨bB,ato _ h1,A⟩;refine .inr ⟨λbB hm=>?_,A⟩;rcases atu.1 hm with ao|hm;cases ao;rw[auB]at F;cases F;exact h1 bB hm
theorem wF:∀{m:List (Nat×Nat)},j4 m=true->∀k s bB bq,(k,s)∈m->(bB,bq)∈m->(k=bB↔s=bq)
 |[],_,_,_,_,_,h,_=>by cases h
 |(a,b)::r,h,k,s,bB,bq,h1,A=>by simp only[j4,atd,at0,avr]at h;(have a6:∀x∈r,x.1≠a/\x.2≠b:=λx I=>by obtain⟨Z,aD⟩:=h.1 x I;exact⟨λe=>(by rw[e,auB]at Z;cases Z),λe=>(by rw[e,auB]at aD;cases aD)⟩);rcases atu.1 h1 with bY|h1<;>rcases atu.1 A with b'|A;cases bY;cases b';simp;cases bY;have:=a6 _ A;exact⟨λe=>absurd e.symm this.1,λe=>absurd e.symm this.2⟩;cases b';have:=a6 _ h1;exact⟨λe=>absurd e this.1,λe=>absurd e this.2⟩;exact wF h.2 k s bB bq h1 A
variable{m:List (Nat×Nat)}{f:FuncId}{a7:D->bF->Prop}
theorem Sc(M:bI U w C z a)(hm:j4 m=true){args:List Value}(hc:c7 P B f ds (gC z.H m) a7)(ae:db w C ds args)(N:iV am dst=true){K:av->Prop}(hK:∀d aO,a7 d aO->∃d',aq d d'/\K (({t:=z.t,H:=qO z.H aO m}:av).put dst d')): Calls P f ⟨args⟩ w λe w'=>∃v,e=.returned v/\∃az aQ,K az/\bI U w' aQ az (a.put dst v):=by let Ft:Nat->Prop:=λb=>∃k s o,(k,s)∈m/\z.H s=some o/\o.ef b;have tM:∀b,Ft b->U.pQ b:=λb ⟨k,s,o,_,h1,A⟩=>M.heap.cN s o b h1 A;(have hH:l8 Ft w C (gC z.H m):=by refine⟨λj o ah=>?_,λj ew o bL b a6 h1 A an cW=>?_,λj o b ah an=>?_⟩;obtain⟨s,_,h⟩:=D1 ah;exact M.heap.ch s o h;obtain⟨s,hs,h⟩:=D1 h1;obtain⟨bq,c9,bz⟩:=D1 A;have iX:s≠bq:=λe=>a6 ((wF hm j s ew bq hs c9).2 e);exact M.heap.inj s bq o bL b iX h bz an cW;obtain⟨s,hs,h⟩:=D1 ah;exact⟨j,s,o,hs,h,an⟩);refine(hc.2 w C args Ft M.base (λb F=>U.Dt (tM b F)) hH ae).mono ?_;rintro e w' ⟨v,d,aQ,aO,rfl,fE,eQ,hs,no⟩;obtain⟨d',dS,hK⟩:=hK d aO fE;refine⟨v,rfl,_,aQ,hK,bI.put ?_ N (dS.le _ _ _ eQ)⟩;have qP:∀j o,(∀k,(k,j)∉m)->z.H j=some o->∀b,o.ef b->¬Ft b/\b<w.heap.size:=λj o ad ah b F => ⟨λ⟨k,s,bL,h1,A,Z⟩=>M.heap.inj j s o bL b (λe=>by subst e;exact ad k h1) ah A F Z,(M.heap.ch j o ah).lt F⟩;refine⟨λi=>(M.tmps i).ext hs.ext,⟨λj o ah=>?_,λj ew o bL b a6 h1 A an cW=>?_,λj o b ah an=>?_⟩,M.size,M.defers,?_⟩;rcases D2 ah with⟨k,_,h⟩|⟨ad,h⟩;exact no.ch k o h;exact(M.heap.ch j o h).iv hs.ext λb F=>hs.iv b (qP j o ad h b F).2 (qP j o ad h b F).1;rcases D2 h1 with⟨k,Y,h⟩|⟨ad,h⟩<;>rcases D2 A with⟨bB,fD,bz⟩|⟨gk,bz⟩;exact no.inj k bB o bL b (λe=>a6 ((wF hm k j bB ew Y fD).1 e)) h bz an cW;obtain⟨Z,aD⟩:=qP ew bL gk bz b cW;rcases no.cN k o b h an with bc|bc;exact Z bc;omega;obtain⟨Z,aD⟩:=qP j o ad h b an;rcases no.cN bB bL b bz cW with bc|bc;exact Z bc;omega;exact M.heap.inj j ew o bL b a6 h bz an cW;rcases D2 ah with⟨k,_,h⟩|⟨ad,h⟩;rcases no.cN k o b h an with bc|bc;exact tM b bc;exact .inr (auC M.step.ext.size bc);exact M.heap.cN j o b h an;exact M.step.trans hs λb F bM=>axS
def LV(P:Program)(B:World)(ay:List bx)(z:av)(dst:Option Tmp)(op:Op)(K:av->Prop):Prop :=
 match op with
 |.call c=>match c.callee,c.args.toList with
  |.value f,args=>nQ P B ay z dst op K\/opn true (z.ba f) λf=>match f with
   |.fn (.func b7) first ct=>zm true z args λww=>∃(g5:List D) (m:List (Nat×Nat)) (a7:D->bF->Prop),c7 P B b7 g5 (gC z.H m) a7/\j4 m=true/\dK (first++ww++ct) g5/\
     ∀d aO,a7 d aO->∃d',aq d d'/\K (({t:=z.t,H:=qO z.H aO m}:av).put dst d')
   |_=>False
  |_,_=>nQ P B ay z dst op K
 |op=>nQ P B ay z dst op K
theorem ab7{ay:List bx}(hT:dh P ay)(M:bI U w C z a){o:Oper}(N:iV am o.dst=true){K:av->Prop}(G:LV P B ay z o.dst o.op K)(a7:Exit->Act->World->Prop):o.wp P a w (λbv w'=>∃az aQ,K az/\bI U w' aQ az bv) a7:=by obtain⟨dst,op,type,pos,after,guard⟩:=o;unfold LV at G;cases op<;>simp only at G;(case call c =>obtain⟨callee,args,argTypes⟩:=c;simp only at G;split at G;rename_i f;rcases G with G|G;exact tL hT M N G a7;replace G:=iW G;obtain⟨abR,G,LG⟩:=G;split at G;(rename_i b7 first ct;replace G:=DH G;obtain⟨ww,G,has⟩:=G;obtain⟨g5,m,Q',hc,hm,dS,hK⟩:=G;obtain⟨fJ,hl,W,h1,A⟩:=(LG rfl w C _ (cI M.tmps f)).u2;have Z:=has rfl w C a.eval (λx _=>cI M.tmps x);have aD:=dS.rD ((h1.append Z).append A);obtain⟨fn,iz,rH,mb⟩:=hc.1;have F:fn.body.isNone=false:=by cases F:fn.body<;>simp[F]at rH⊢);(have cY:(execOp a.eval ⟨dst,.call ⟨.value f,args,argTypes⟩,type,pos,after,guard⟩).run P w=.ok (.enter b7 ⟨fJ++args.toList.map a.eval++hl⟩) w:=awS);simp only[Oper.wp,cY,Oper.upon];(exact(Sc M hm hc aD N hK).mono λe w' ⟨v,ao,h⟩=>by subst ao;exact h);exact G.elim;exact tL hT M N G a7);all_goals exact tL hT M N G a7
def Bu(P:Program)(B:World)(ay:List bx)(am:Nat):List Oper->av->(av->Prop)->Prop
 |[],z,K=>K z
 |⟨dst,op,_,_,_,guard⟩::rest,z,K=>cond (iV am dst) (match guard with
  |none=>LV P B ay z dst op λaz=>Bu P B ay am rest az K
  |some _=>False) False
theorem LW{ay:List bx}(hT:dh P ay){U:b8 P B am}{ops:Array Oper}{a7:Exit->Act->World->Prop}{K:av->Prop}(fE:∀az bv w' aQ,K az->bI U w' aQ az bv->a7 .normal bv w'): ∀{l:List Oper} {z:av} (_:Bu P B ay am l z K) {a:Act} {w:World} {C:Nat->Nat} (_:bI U w C z a),wpList P ops a7 l a w
 |[],_,G,_,_,_,M=>fE _ _ _ _ G M
 |o::rest,z,G,a,w,C,M=>by change cond (iV am o.dst) _ False at G;replace G:=ia G;obtain⟨N,G⟩:=G;unfold wpList;split at G;rename_i aV;rw[as_ (by simp[Region.wanted,aV])];exact .inl (Oper.wp_mono (λbv w' ⟨az,aQ,h1,A⟩=>LW hT fE h1 A) (ab7 hT M N G a7));exact G.elim
theorem X.Sd{ay:List bx}(hT:dh P ay)(G:Bu P B ay am ops.toList z (K .normal)):X U (.region id ops false) z K :=
 ⟨λ_ _ _ M=>wp_region_list (LW hT (λaz _ _ aQ hK bM=>⟨.normal,az,aQ,rfl,hK,bM⟩) G M)⟩
theorem X.Se{ay:List bx}(hT:dh P ay)(n:Nat)(hm:P.follows .mixedOrders=true)(gd:Bq ops n=true)
  (G:jJ P B ay am ops (ops.toList.take n) z λaz=>Bu P B ay am (ops.toList.drop n) az (K .normal)):X U (.region id ops true) z K :=
 ⟨λa w C M=>by
  obtain⟨l⟩:=ops;simp only[Bq,Region.lexTailB,atd,atS]at gd;obtain⟨⟨⟨⟨⟨Sa,ax⟩,hs⟩,hc⟩,DW⟩,nU⟩:=gd;have wE:n<l.length:=by simpa using ax
  have iZ:(l.take n).length=n:=by simp;omega
  have jN:(l.drop n).length=(⟨l⟩:Array Oper).size-n:=by simp
  have DX:HeadInv .any ⟨l⟩ n (Array.replicate (⟨l⟩:Array Oper).size false) :=
   ⟨by simp,λj nn _ aj=>(axP),λt _ au=>getD_in (by simpa using au) (getD_replicate_false _ _)⟩
  have H:=Hq (md:=.any) (g:=(⟨l⟩:Array Oper).size-n) (r:=[]) (am:=am) (a7:=λaz=>Bu P B ay am (l.drop n) az (K .normal)) hT hs hc ax (l.take n) 0 _ z (λj ad=>by
   have gk:j<n:=by rw[iZ]at ad;exact ad
   simp[gk]) nU (by simpa using iZ) DX (by rw[iZ];exact DW) (by rw[aua];exact G)
  refine wp_region_any hm ?_
  have:=Hp (U:=U) (Q':=λe bv w'=>∃c8 az aQ,e=cM.f7 c8/\K c8 az/\bI U w' aQ az bv) (g:=(⟨l⟩:Array Oper).size-n) (λbf az bv w' aQ bM aW=>by
   have:=wpAny_of_seq (md:=.any) (ops:=⟨l⟩) (P:=P) (Q':=λe bv w'=>∃c8 az aQ,e=cM.f7 c8/\K c8 az/\bI U w' aQ az bv) (l.drop n) n bf bv w' (λj=>by simp[avd]) (by rw[jN];exact aW.1)
    (LW (l:=l.drop n) hT (λDY _ _ lH hK DZ=>⟨.normal,DY,lH,rfl,hK,DZ⟩) (show Bu P B ay am (l.drop n) az (K .normal)from aW.2) bM)
   rwa [jN]at this) _ _ z a _ C M.drew H
  rw[iZ,show n+((⟨l⟩:Array Oper).size-n)=(⟨l⟩:Array Oper).size by omega]at this
  exact this⟩
def D3(ay:List bx)(kU:List ResultVar)(a7:D->bF->Prop):cM->av->Prop
 |.exit _,_=>False
 |.normal,z=>∃d,zG ay z kU d/\a7 d z.H
 |.ret,z=>∃d,zG ay z kU d/\a7 d z.H
variable{body:Code}
theorem c7.intro{ay:List bx}(hT:dh P ay){fn:Func}{H:bF}(M:P.funcs[f]?=some fn)(F:fn.body=some body)(ax : (fn.name == "runtime.NumGoroutine") = false)(p1 : fn.ntmps = am)(aj : Nat.ble ds.length am = true)(h : ∀U : b8 P B am,X U body (entry ds H) (D3 ay fn.results.toList a7)): c7 P B f ds H a7 := by refine⟨⟨fn,M,by simp[F],ax⟩,λw C args Ft pX qQ hH ae=>?_⟩;have mM:=atH aj;have hlen:=ae.1;let U:b8 P B am:=⟨w,C,Ft,pX,qQ⟩;refine calls_of_wp M F ?_;(have nP:bI U w C (entry ds H) {tmps:=⟨args⟩++Array.replicate (fn.ntmps-(⟨args⟩:Array Value).size) undef,defers:=[]}:=by refine⟨λi=>?_,⟨hH.ch,hH.inj,λs o b ah an=>.inl (hH.cN s o b ah an)⟩,by simp[p1];omega,rfl,.refl _ _ _⟩;exact awN);refine wp_mono ((h U).run _ w C nP) ?_;rintro e bv w' ⟨c8,az,aQ,rfl,hK,bM⟩;(have rI:(∃d,zG ay az fn.results.toList d/\a7 d az.H)->bv.defers=[]/\∃v,(results fn bv.tmps).run P w'=.ok v w'/\∃c' d aQ aO,Ending.returned v=.returned c'/\a7 d aO/\bh w' aQ d c'/\da Ft w C w' aQ/\l8 (λb=>Ft b\/w.heap.size<=b) w' aQ aO:=by rintro⟨d,Bt,fE⟩;obtain⟨v,W,eQ⟩:=Sb (P:=P) hT bM.tmps bM.heap Bt;exact⟨bM.defers,v,W,v,d,aQ,az.H,rfl,fE,eQ,bM.step,bM.heap⟩);cases c8 with|normal=>exact rI hK|ret=>exact rI hK|exit id=>exact hK.elim
theorem c7.mono{f:FuncId}{ds:List D}{H:bF}{a7 Q':D->bF->Prop}(h:c7 P B f ds H a7)(G:∀d H,a7 d H->Q' d H):c7 P B f ds H Q' :=
 ⟨h.1,λw C args Ft h1 A Z aD=>(h.2 w C args Ft h1 A Z aD).mono λ_ _ ⟨v,d,aQ,aO,ao,fE,ae⟩=>⟨v,d,aQ,aO,ao,G d aO fE,ae⟩⟩
def LX(d:D)(k:Nat):Option (List D) :=
 match d with
 |.bj=>some []
 |.Q .dR bB xs=>cond (Nat.beq k bB) (some xs) none
 |_=>none
theorem bI.own{w:World}{C:Nat->Nat}{a:Act}(M:bI U w C z a)(s k e:Nat){j:Nat}{xs:List D}(N:LX (z.t j) k=some xs): ∃v,bI U w C {t:=λi=>cond (Nat.beq i j) (.Q (.own s v) k xs) (z.t i),H:=λi=>cond (Nat.beq i s) (some (.own v xs.length k e)) (z.H i)} a:=by have ad:=M.tmps j;(have key:∀v,a.tmps.getD j undef=v->bh w C (.Q (.own s v) k xs) v->(∃bv n,v=.slice bv n n/\n=xs.length/\n<=maxLen)->bI U w C {t:=λi=>cond (Nat.beq i j) (.Q (.own s v) k xs) (z.t i),H:=λi=>cond (Nat.beq i s) (some (.own v xs.length k e)) (z.H i)} a:=by rintro v W ae ⟨bv,n,rfl,rfl,hm⟩;(have tN:∀b,¬(aI.own (Value.slice bv xs.length xs.length) xs.length k e).ef b:=by rintro b ⟨o,cap,h1,A⟩;injection h1 with _ _ Z;omega);refine⟨λi=>?_,⟨λbq o ah=>?_,λeW gl dk dn b a6 h1 A an cW=>?_,λbq o b ah an=>?_⟩,M.size,M.defers,M.step⟩;dsimp only;(cases F:Nat.beq i j with|true=>have:=atx F;subst this;rw[auS,W];exact ae|false=>exact M.tmps i);dsimp only at ah;(cases F:Nat.beq bq s with|true=>rw[F]at ah;cases ah;exact⟨bv,xs.length,rfl,atg _,hm,λh=>absurd h asZ⟩|false=>rw[F]at ah;exact M.heap.ch bq o ah);dsimp only at h1 A;(cases mS:Nat.beq eW s with|true=>rw[mS]at h1;cases h1;exact tN b an|false =>(cases g6:Nat.beq gl s with|true=>rw[g6]at A;cases A;exact tN b cW|false=>rw[mS]at h1;rw[g6]at A;exact M.heap.inj eW gl dk dn b a6 h1 A an cW));dsimp only at ah;cases F:Nat.beq bq s with|true=>rw[F]at ah;cases ah;exact(tN b an).elim|false=>rw[F]at ah;exact M.heap.cN bq o b ah an);unfold LX at N;split at N;rename_i ao;rw[ao]at ad;cases N;refine⟨_,key _ rfl ?_ ?_⟩;rw[ad.xR];exact .jk _ _ none rfl;rw[ad.xR];exact⟨none,0,rfl,rfl,atq _⟩;rename_i bB a' ao;rw[ao]at ad;(cases F:Nat.beq k bB with|false=>rw[F]at N;cases N|true =>rw[F]at N;cases N;have:=atx F;subst this;generalize W:a.tmps.getD j undef=v at ad;refine⟨v,key v W ?_ ?_⟩;(cases ad with|jk t k a au=>exact .jk _ _ a rfl|Q t k xs b o cap g au F hc hm Y df ga d9 h=>exact .Q _ k xs b o cap g rfl F hc hm Y df ga d9 h);(cases ad with|jk t k a au=>exact⟨a,0,rfl,rfl,atq _⟩|Q t k xs b o cap g au F hc hm Y df ga d9 h =>obtain⟨bv,n,ax⟩:=au;injection ax with h1 A Z;exact⟨_,xs.length,by rw[Z,A],rfl,by omega⟩));cases N
theorem X.own(j s k e:Nat){xs:List D}{c:Code}(N:LX (z.t j) k=some xs)
  (h:∀v,X U c {t:=λi=>_root_.cond (Nat.beq i j) (.Q (.own s v) k xs) (z.t i),H:=λi=>_root_.cond (Nat.beq i s) (some (.own v xs.length k e)) (z.H i)} K):X U c z K :=
 ⟨λa w C M=>by obtain⟨v,fV⟩:=M.own s k e N;exact(h v).run a w C fV⟩
def tO(z:av):List (Nat×Nat)->List (Nat×aI)->Prop
 |[],[]=>True
 |(k,s)::m,(bB,o)::hs=>k=bB/\z.H s=some o/\tO z m hs
 |_,_=>False
theorem tO.aK:∀{m:List (Nat×Nat)} {hs:List (Nat×aI)},tO z m hs->∀k o,aK hs k=some o->∃s,(k,s)∈m/\z.H s=some o
 |[],[],_,k,o,h=>by cases h
 |(bB,s)::m,(aqP,bL)::hs,h,k,o,aj=>by obtain⟨rfl,A,Z⟩:=h;simp only[Go.bS.aK]at aj;cases F:Nat.beq k bB with|true=>rw[F]at aj;cases aj;have:=atx F;subst this;exact⟨s,atk,A⟩|false=>rw[F]at aj;obtain⟨bq,aD,bc⟩:=tO.aK Z k o aj;exact⟨bq,ato _ aD,bc⟩
 |[],_::_,h,_,_,_=>h.elim
 |_::_,[],h,_,_,_=>by cases h
structure nV (z:av) (l:List (Nat×D)) (hs:List (Nat×aI)) (m:List (Nat×Nat)):Prop where
 t:jI z l
 ok:j4 m=true
 h:tO z m hs
theorem bI.Hs{l:List (Nat×D)}(h:bI U w C z a)(Y:nV z l hs m):bI U w C (hn l hs) a:=by obtain⟨h1,hm,A⟩:=Y;refine⟨λi=>(h1.aK i).le _ _ _ (h.tmps i),⟨λs o ah=>?_,λs bq o bL b ax Z aD=>?_,λs o b ah=>?_⟩,h.size,h.defers,h.step⟩;obtain⟨bq,_,bc⟩:=A.aK s o ah;exact h.heap.ch bq o bc;obtain⟨k,Y,bc⟩:=A.aK s o Z;obtain⟨bB,fD,cL⟩:=A.aK bq bL aD;exact h.heap.inj k bB o bL b (λe=>ax ((wF hm s k bq bB Y fD).2 e)) bc cL;obtain⟨bq,_,bc⟩:=A.aK s o ah;exact h.heap.cN bq o b bc
theorem X.fb(l:List (Nat×D))(hs:List (Nat×aI))(m:List (Nat×Nat))(h1:nV z l hs m)(h:X U c (hn l hs) K):X U c z K :=
 ⟨λa w C M=>h.run a w C (M.Hs h1)⟩
def lL(l:α->List (Nat×D))(hs:α->List (Nat×aI))(K:cM->av->Prop):cM->av->Prop
 |.normal,z=>∃x m,nV z (l x) (hs x) m
 |.exit id,z=>K (.exit id) z
 |.ret,z=>K .ret z
theorem X.lL{a b:Code}{α:Type}(l:α->List (Nat×D))(hs:α->List (Nat×aI))(h:X U a z (lL l hs K))(bz:∀x,X U b (hn (l x) (hs x)) K):X U (.seq a b) z K :=
 .seq (h.mono λe az Y=>by
  cases e with
  |normal=>obtain⟨x,m,h1⟩:=Y;exact(bz x).fb _ _ m h1
  |exit id=>exact Y
  |ret=>exact Y)
def ec(l:α->List (Nat×D))(hs:α->List (Nat×aI))(fv:α->Nat)(x:α)(K:cM->av->Prop):cM->av->Prop
 |.normal,z=>∃b0 m,fv b0<fv x/\nV z (l b0) (hs b0) m
 |.exit id,z=>K (.exit id) z
 |.ret,z=>K .ret z
theorem X.ec{c:Code}{α:Type}(l:α->List (Nat×D))(hs:α->List (Nat×aI))(fv:α->Nat)(ez:α)(m:List (Nat×Nat))(h1:nV z (l ez) (hs ez) m)
  (round:∀x,X U c (hn (l x) (hs x)) (ec l hs fv x K)):X U (.loop c) z K :=
 ⟨λa w C M=>by
  have nP:=M.Hs h1;intro b k aA
  have key:∀n x,fv x=n->∀a w C,bI U w C (hn (l x) (hs x)) a->
    ∃e bv w',(∃c8 az aQ,e=cM.f7 c8/\K c8 az/\bI U w' aQ az bv)/\Arrives P (lone (b.at a (.code c::.inLoop c::k)) aA w) b k aA e bv w':=by
   intro n
   induction n using Nat.strongRecOn with
   |_ n aY =>
    intro x ax a w C M;obtain⟨e,tz,tA,⟨c8,xS,tB,ao,hK,bM⟩,oB⟩:=(round x).run a w C M b (.inLoop c::k) aA;subst ao
    cases c8 with
    |normal =>
     obtain⟨b0,wG,bi,Z⟩:=hK;obtain⟨Du,a₂,Dv,Dw,Dx⟩:=aY (fv b0) (ax ▸ bi) b0 rfl tz tA tB (bM.Hs Z);exact⟨Du,a₂,Dv,Dw,.of_steps (Steps.trans oB (.one step_inLoop)) Dx⟩
    |exit id=>exact⟨_,tz,tA,⟨.exit id,xS,tB,rfl,hK,bM⟩,.pass (x:=.inLoop c) rfl (λ_ _=>.inl (by simp[cM.f7])) oB⟩
    |ret=>exact⟨_,tz,tA,⟨.ret,xS,tB,rfl,hK,bM⟩,.pass (x:=.inLoop c) rfl (λ_ _=>.inl (by simp[cM.f7])) oB⟩
  obtain⟨e,bv,w',G,oB⟩:=key _ ez rfl a w C nP
  exact⟨e,bv,w',G,.of_steps (.one step_loop) oB⟩⟩
theorem aq.own{v:Value}{k:Nat}{xs:List D}(s bq:Nat):aq (.Q (.own s v) k xs) (.Q (.own bq v) k xs) :=
 ⟨λw C ak h=>by
  cases h with
  |jk t k a au=>exact .jk _ _ a au
  |Q t k xs b o cap g au F hc hm Y df ga d9 h=>exact .Q _ k xs b o cap g au F hc hm Y df ga d9 h⟩
theorem aq.mT{t:iu}:aq (.Q t k xs) (.Q .none k xs):=aq.jl _
theorem aq.nil:aq .bj (.Q .none k []):=⟨λw C ak h=>by rw[h.xR];exact .jk _ _ none trivial⟩
theorem aq.box{s bq b o:Nat}:aq (.box s b o) (.box bq b o):=⟨λw C ak h=>by rw[h.wu];exact .box _ _ _⟩
theorem da.below(h:Below w.heap.size w w'):da (λ_=>False) w C w' C :=
 ⟨⟨h.size,λ_ _=>atg _,λb o F _=>by simp only[World.cell?,h.block b F]⟩,h.os,h.tape,h.output,λb F _=>⟨h.block b F,rfl⟩⟩
def D4:D->Option Value
 |.bool b=>some (.bool b)
 |.int k n=>some (.int k n)
 |.O s=>some (.string ⟨⟨s⟩⟩)
 |.al v=>some v
 |_=>none
def Bv:List D->Option (List Value)
 |[]=>some []
 |d::r=>match D4 d,Bv r with
  |some v,some vs=>some (v::vs)
  |_,_=>none
theorem ab8(h:D4 d=some v)(ae:bh w C d ak):ak=v:=by cases d<;>simp only[D4,atQ,reduceCtorEq]at h;subst h;exact ae.hW;subst h;exact ae.fu;subst h;exact ae.kM;subst h;exact ae.gb
theorem LY{w:World}{C:Nat->Nat}:∀{ds:List D} {vs dl:List Value},Bv ds=some vs->db w C ds dl->dl=vs
 |[],vs,dl,h,ae=>by cases h;have:=ae.1;cases dl with|nil=>rfl|cons _ _=>simp at this
 |d::r,vs,dl,h,ae=>by simp only[Bv]at h;split at h;rename_i v gy h1 A;cases h;(cases dl with|nil=>have:=ae.1;simp at this|cons ak dl =>have Z:dl=gy:=LY (w:=w) (C:=C) A ⟨by have:=ae.1;simpa using this,λi d v Z aD=>ae.2 (i+1) d v (by simpa using Z) (by simpa using aD)⟩;rw[ab8 h1 (ae.2 0 d ak rfl rfl),Z]);cases h
theorem mO.zH{vs:List Value}(hc:Ba P f)(ha:Bv ds=some vs)
  (h:∀w,pP B w->Calls P f ⟨vs⟩ w λe w'=>∃v,e=.returned v/\(∀C,bh w' C d v)/\Below w.heap.size w w'):mO P B f ds d :=
 ⟨hc,λw C args F ae=>by
  rw[LY ha ae]
  exact(h w F).mono λe w' ⟨v,ao,W,hs⟩=>⟨v,C,ao,W C,da.below hs⟩⟩
theorem mO.pure{vs:List Value}(hc:Ba P f)(ha:Bv ds=some vs)(N:D4 d=some v)(h:∀w,pP B w->Calls P f ⟨vs⟩ w λe w'=>e=.returned v/\w'=w):mO P B f ds d:=by(have eQ:∀w C,bh w C d v:=λw C=>by cases d<;>simp only[D4,atQ,reduceCtorEq]at N<;>subst N<;>constructor);exact .zH hc ha λw F=>(h w F).mono λe w' ⟨ao,cH⟩=>by subst cH;exact⟨v,ao,λC=>eQ _ C,.refl _ _⟩
theorem mO.newRow{vs:List Value}{e:TypeId}(hc:Ba P f)(ha:Bv ds=some vs)
  (Y:∀x∈xs,x.cells.length=k) (hm:xs.length<=maxLen) (an:∀w C,db w C (b1 xs) dl) (h1:∀ak∈dl,ak.oneCell'=true)
  (h:∀w,pP B w->Calls P f ⟨vs⟩ w λoD w'=>oD=.returned (.slice (some ⟨w.heap.size,0,none⟩) xs.length xs.length)/\w'=w.alloc (.cells ⟨dl⟩ e)):mO P B f ds (.Q .dR k xs) :=
 ⟨hc,λw C args F ae=>by
  rw[LY ha ae]
  exact(h w F).mono λoD w' ⟨ao,cH⟩=>by
   subst cH
   exact⟨_,gz C w.heap.size (xs.length*k),ao,Hh Y (atg _) hm (λj d N=>by
    obtain⟨aj,aV⟩:=an w C;have ad:j<dl.length:=by have:=(atI.1 N).1;omega
    exact⟨dl[j],by simp[ad],aV j d _ N (by simp[ad]),h1 _ (ate ad)⟩) ⟨_,_,rfl⟩,da.alloc _ _ _ _ _⟩⟩
theorem dK.refl:∀ds:List D,dK ds ds
 |[]=>trivial
 |d::r=>⟨.refl d,dK.refl r⟩
theorem X.gS(l:List (Nat×D))(hs:List (Nat×aI))(m:List (Nat×Nat))(h:nV z l hs m)(Y:K .ret (hn l hs)):X U .ret z K :=
 X.fb l hs m h (X.ret Y)
structure af (P:Program) (B:World) (am:Nat) (z:av) (dst:Option Tmp) (op:Op) (K:av->Prop):Prop where
 run:∀(U:b8 P B am) (w:World) (C:Nat->Nat) (a:Act),bI U w C z a->iV am dst=true->∀(type:TypeId) (pos:String) (after:Array Edge) (a7:Exit->Act->World->Prop),
  (⟨dst,op,type,pos,after,none⟩:Oper).wp P a w (λbv w'=>∃az aQ,K az/\bI U w' aQ az bv) a7
def ab9:Op->Bool
 |.call c=>match c.callee with
  |.builtin b=>match b with
   |.len|.min|.max=>false
   |_=>true
  |_=>true
 |.binOp _ _ _ y _=>match y with
  |.const v=>match v with
   |.slice a _ _=>a.isNone
   |_=>false
  |_=>false
 |.indexAddr ..|.load ..|.store ..|.convert ..|.makeSlice ..|.makeMap ..|.lookup ..|.mapUpdate ..|.slice ..|.range ..|.next ..=>true
 |_=>false
def D5(P:Program)(B:World)(am:Nat)(ay:List bx)(z:av)(dst:Option Tmp)(op:Op)(K:av->Prop):Prop :=
 match ab9 op with
 |true=>nQ P B ay z dst op K\/af P B am z dst op K
 |false=>nQ P B ay z dst op K
theorem Sf{ay:List bx}(hT:dh P ay)(M:bI U w C z a){o:Oper}(aV:o.guard=none)(N:iV am o.dst=true){K:av->Prop}(G:D5 P B am ay z o.dst o.op K)(a7:Exit->Act->World->Prop):o.wp P a w (λbv w'=>∃az aQ,K az/\bI U w' aQ az bv) a7:=by unfold D5 at G;split at G;rcases G with G|G;exact tL hT M N G a7;obtain⟨dst,op,type,pos,after,guard⟩:=o;simp only at aV;subst aV;exact G.run U w C a M N type pos after a7;exact tL hT M N G a7
def Bw(P:Program)(B:World)(ay:List bx)(am:Nat):List Oper->av->(av->Prop)->Prop
 |[],z,K=>K z
 |⟨dst,op,_,_,_,guard⟩::rest,z,K=>cond (iV am dst) (match guard with
  |none=>D5 P B am ay z dst op λaz=>Bw P B ay am rest az K
  |some _=>False) False
theorem LZ{ay:List bx}(hT:dh P ay){U:b8 P B am}{ops:Array Oper}{a7:Exit->Act->World->Prop}{K:av->Prop}(fE:∀az bv w' aQ,K az->bI U w' aQ az bv->a7 .normal bv w'): ∀{l:List Oper} {z:av} (_:Bw P B ay am l z K) {a:Act} {w:World} {C:Nat->Nat} (_:bI U w C z a),wpList P ops a7 l a w
 |[],_,G,_,_,_,M=>fE _ _ _ _ G M
 |o::rest,z,G,a,w,C,M=>by change cond (iV am o.dst) _ False at G;replace G:=ia G;obtain⟨N,G⟩:=G;unfold wpList;split at G;rename_i aV;rw[as_ (by simp[Region.wanted,aV])];exact .inl (Oper.wp_mono (λbv w' ⟨az,aQ,h1,A⟩=>LZ hT fE h1 A) (Sf hT M aV N G a7));exact G.elim
theorem X.D6{ay:List bx}(hT:dh P ay)(G:Bw P B ay am ops.toList z (K .normal)):X U (.region id ops false) z K :=
 ⟨λ_ _ _ M=>wp_region_list (LZ hT (λaz _ _ aQ hK bM=>⟨.normal,az,aQ,rfl,hK,bM⟩) G M)⟩
theorem X.zI{ay:List bx}(hT:dh P ay)(n:Nat)(hm:P.follows .mixedOrders=true)(gd:Bq ops n=true)
  (G:jJ P B ay am ops (ops.toList.take n) z λaz=>Bw P B ay am (ops.toList.drop n) az (K .normal)):X U (.region id ops true) z K :=
 ⟨λa w C M=>by
  obtain⟨l⟩:=ops;simp only[Bq,Region.lexTailB,atd,atS]at gd;obtain⟨⟨⟨⟨⟨Sa,ax⟩,hs⟩,hc⟩,DW⟩,nU⟩:=gd;have wE:n<l.length:=by simpa using ax
  have iZ:(l.take n).length=n:=by simp;omega
  have jN:(l.drop n).length=(⟨l⟩:Array Oper).size-n:=by simp
  have DX:HeadInv .any ⟨l⟩ n (Array.replicate (⟨l⟩:Array Oper).size false) :=
   ⟨by simp,λj nn _ aj=>(axP),λt _ au=>getD_in (by simpa using au) (getD_replicate_false _ _)⟩
  have H:=Hq (md:=.any) (g:=(⟨l⟩:Array Oper).size-n) (r:=[]) (am:=am) (a7:=λaz=>Bw P B ay am (l.drop n) az (K .normal)) hT hs hc ax (l.take n) 0 _ z (λj ad=>by
   have gk:j<n:=by rw[iZ]at ad;exact ad
   simp[gk]) nU (by simpa using iZ) DX (by rw[iZ];exact DW) (by rw[aua];exact G)
  refine wp_region_any hm ?_
  have:=Hp (U:=U) (Q':=λe bv w'=>∃c8 az aQ,e=cM.f7 c8/\K c8 az/\bI U w' aQ az bv) (g:=(⟨l⟩:Array Oper).size-n) (λbf az bv w' aQ bM aW=>by
   have:=wpAny_of_seq (md:=.any) (ops:=⟨l⟩) (P:=P) (Q':=λe bv w'=>∃c8 az aQ,e=cM.f7 c8/\K c8 az/\bI U w' aQ az bv) (l.drop n) n bf bv w' (λj=>by simp[avd]) (by rw[jN];exact aW.1)
    (LZ (l:=l.drop n) hT (λDY _ _ lH hK DZ=>⟨.normal,DY,lH,rfl,hK,DZ⟩) (show Bw P B ay am (l.drop n) az (K .normal)from aW.2) bM)
   rwa [jN]at this) _ _ z a _ C M.drew H
  rw[iZ,show n+((⟨l⟩:Array Oper).size-n)=(⟨l⟩:Array Oper).size by omega]at this
  exact this⟩
variable{op:Op}
theorem af.val{K:av->Prop}
  (h:∀(U:b8 P B am) (w:World) (C:Nat->Nat) (a:Act),bI U w C z a->∀(type:TypeId) (pos:String) (after:Array Edge),∃v w' aQ az d,
   (execOp a.eval ⟨dst,op,type,pos,after,none⟩).run P w=.ok (.value v) w'/\bI U w' aQ az a/\bh w' aQ d v/\K (az.put dst d)):af P B am z dst op K :=
 ⟨λU w C a M N type pos after a7=>by
  obtain⟨v,w',aQ,az,d,cY,fV,ae,hK⟩:=h U w C a M type pos after;simp only[Oper.wp,cY,Oper.upon]
  exact⟨_,aQ,hK,fV.put N ae⟩⟩
theorem af.unit{K:av->Prop}
  (h:∀(U:b8 P B am) (w:World) (C:Nat->Nat) (a:Act),bI U w C z a->∀(type:TypeId) (pos:String) (after:Array Edge),∃w' aQ az,
   (execOp a.eval ⟨dst,op,type,pos,after,none⟩).run P w=.ok .skip w'/\bI U w' aQ az a/\K (az.put dst .undef)):af P B am z dst op K :=
 ⟨λU w C a M N type pos after a7=>by
  obtain⟨w',aQ,az,cY,fV,hK⟩:=h U w C a M type pos after;simp only[Oper.wp,cY,Oper.upon]
  exact⟨_,aQ,hK,fV.put N .undef⟩⟩
theorem af.call{z:av}{dst:Option Tmp}{K:av->Prop}{f:Operand}{args:Array Operand}{mU:Array TypeId}{b7:FuncId}{first ct:List D}(M:z.ba f=.fn (.func b7) first ct)
  (g5:List D) (m:List (Nat×Nat)) {a7:D->bF->Prop} (hc:c7 P B b7 g5 (gC z.H m) a7) (hm:j4 m=true) (dS:dK (first++args.toList.map z.ba++ct) g5)
  (hK:∀d aO,a7 d aO->∃d',aq d d'/\K (({t:=z.t,H:=qO z.H aO m}:av).put dst d')):af P B am z dst (.call ⟨.value f,args,mU⟩) K :=
 ⟨λU w C a kV N type pos after Q'=>by
  have pb:=cI kV.tmps f;rw[M]at pb;obtain⟨fJ,hl,W,h1,A⟩:=pb.u2
  have Z:db w C (args.toList.map z.ba) (args.toList.map a.eval) :=
   ⟨by simp,λi d v N W=>by
    simp only[atA]at N W
    cases I:args.toList[i]? with
    |none=>rw[I]at N;cases N
    |some x=>rw[I]at N W;cases N;cases W;exact cI kV.tmps x⟩
  have aD:=dS.rD ((h1.append Z).append A);obtain⟨fn,iz,rH,mb⟩:=hc.1;have F:fn.body.isNone=false:=by cases F:fn.body<;>simp[F]at rH⊢
  have cY:(execOp a.eval ⟨dst,.call ⟨.value f,args,mU⟩,type,pos,after,none⟩).run P w=.ok (.enter b7 ⟨fJ++args.toList.map a.eval++hl⟩) w:=by
   simp only[execOp,resolve,W,Deferred.ofValue,Sem.run_bind,Sem.run_pure,Result.andThen_ok,invoke,callFunc,run_program,iz,mb,F,auk,auU];congr 2
   apply au7;simp
  simp only[Oper.wp,cY,Oper.upon]
  exact(Sc kV hm hc aD N hK).mono λe w' ⟨v,ao,h⟩=>by subst ao;exact h⟩
variable{K:av->Prop}{ay:List bx}
def g7(v:Value)(off:Nat):Value :=
 match v with
 |.slice (some ⟨b,o,_⟩) _ _=>.pointer (some ⟨b,o+off,none⟩)
 |_=>undef
variable{e:Nat}
theorem kj.pos(h:kj w C v xs k e)(hi:i<xs.length):∃b cap vs,v=.slice (some ⟨b,0,none⟩) xs.length cap/\xs.length<=cap/\cap<=maxLen/\(∀x∈xs,x.cells.length=k)/\w.heap[b]?=some (.cells vs e (0,0))/\vs.size=cap*k/\C b=0/\∀(j:Nat) d,(b1 xs)[j]?=some d->∃ak,vs[j]?=some ak/\bh w C d ak/\ak.oneCell'=true:=by obtain⟨a,cap,W,hc,hm,Y,_,cH⟩:=h;obtain⟨b,vs,ha,F,hs,df,ae⟩:=cH asZ;subst ha;exact⟨b,cap,vs,W,hc,hm,Y,F,hs,df,ae⟩
variable{x fC:Operand}{D7:IntKind}{cc:bx}
theorem af.ej(hT:dh P ay)(s:Nat){bD:Nat}{i:Int}(I:z.ba x=.al v)(hs:z.H s=some (.row v xs k e))(hi:z.ba fC=.int D7 i)
  (au:dv ay t=some cc) (b5:cc.kind=.slice bD) (fr:dv ay bD=some aF) (lM:aF.aB=k) (h0:0<=i) (h1:i<xs.length) (hK:K (z.put dst (.al (g7 v (i.toNat*k))))):af P B am z dst (.indexAddr t x fC) K :=
 .val λU w C a M type pos after=>by
  obtain⟨c3,rfl⟩:=hT.get au;obtain⟨fo,rfl⟩:=hT.get fr;have an:=c3.kk b5;have W:=cI M.tmps x;rw[I]at W
  have D8:=cI M.tmps fC;rw[hi]at D8
  obtain⟨b,cap,vs,rfl,_⟩:=kj.pos (i:=i.toNat) (M.heap.ch s _ hs) asZ;refine⟨_,w,C,z,_,?_,M,.al _,hK⟩;simp[execOp,W.gb,D8.fu,Instr.indexAt,asIntOf,run_underlying an,h0,h1,fo.size,o6,lM,g7]
theorem af.la(hT:dh P ay)(s:Nat)(I:z.ba x=.al (g7 v (i*k)))(hs:z.H s=some (.row v xs k e))(au:dv ay t=some cc){y:D}
  (hy:xs[i]?=some y) (aj:DC cc k 0 y λd=>K (z.put dst d)):af P B am z dst (.load t x) K :=
 .val λU w C a M type pos after=>by
  obtain⟨c3,rfl⟩:=hT.get au;have W:=cI M.tmps x;rw[I]at W
  obtain⟨b,cap,vs,rfl,_,_,Y,F,hsz,_,ae⟩:=kj.pos (M.heap.ch s _ hs) (e9 hy);obtain⟨d,hK,N⟩:=Ln c3 aj
  obtain⟨ak,an,L0⟩:=N w C b (0+i*k) (λj=>vs.getD (i*k+j) undef) (Y y (atr hy)) (λj d N=>by
   have ad:j<k:=by rw[<-Y y (atr hy)];exact e9 N
   obtain⟨ak,h1,A,_⟩:=ae (i*k+j) d (by rw[wz Y hy ad];exact N);refine⟨?_,?_⟩
   ·simp only[World.cell?,F,atT];simp[h1,auV]
   simp[auV,h1,A])
  refine⟨ak,w,C,z,d,?_,M,L0,hK⟩;simp only[g7]at W;simp only[avA]at an;simp only[execOp,W.gb,Sem.run_bind,an,Result.andThen_ok,Sem.run_pure]
theorem af.rJ(hT:dh P ay)(s:Nat){bD:Nat}(I:z.ba x=.al v)(hs:z.H s=some (.row v xs k e))(au:dv ay t=some cc)(b5:cc.kind=.slice bD)
  (hK:K (z.put dst (.int .i64 xs.length))):af P B am z dst (.call ⟨.builtin .len,#[x],#[t]⟩) K :=
 .val λU w C a M type pos after=>by
  obtain⟨c3,rfl⟩:=hT.get au;have an:=c3.kk b5;have W:=cI M.tmps x;rw[I]at W
  obtain⟨bv,cap,rfl,_⟩:=M.heap.ch s _ hs;refine⟨.int .i64 xs.length,w,C,z,_,?_,M,.int _ _,hK⟩;simp[execOp,resolve,invoke,builtin,Builtin.len_,run_underlying an,W.gb,goInt]
theorem D.oE(h:d.one=true):d.cells=[d]:=by cases d<;>first|rfl|cases h
theorem Ht{k:Nat}:∀{xs:List D} (_:∀x∈xs,x.cells.length=k) {i:Nat} {x:D} (_:i<xs.length) (_:x.cells.length=k),b1 (xs.set i x)=(b1 xs).take (i*k)++x.cells++(b1 xs).drop (i*k+x.cells.length)
 |[],_,_,_,h,_=>by simp at h
 |y::a',Y,0,x,_,I=>by have hy:=Y y atk;simp only[List.set_cons_zero,b1,auc,Nat.zero_mul,avu,auw,atT];rw[avs asZ,avw asZ,auw]
 |y::a',Y,i+1,x,h,I=>by have hy:=Y y atk;have h1:=Ht (xs:=a') (λV bH=>Y V (ato _ bH)) (i:=i) (x:=x) (by simpa using h) I;simp only[b1]at h1⊢;simp only[List.set_cons_succ,auc,h1];rw[show(i+1)*k=y.cells.length+i*k by rw[avj,hy];omega,List.take_length_add_append,au9,List.drop_length_add_append];simp[atL]
variable{y:Operand}
theorem af.mg(hT:dh P ay)(s:Nat)(I:z.ba x=.al (g7 v (i*1)))(hs:z.H s=some (.row v xs 1 e))(au:dv ay t=some cc)(hsz:cc.aB=1)
  (hi:i<xs.length) (ah:(z.ba y).one=true) (hK:K ((z.b6 s (some (.row v (xs.set i (z.ba y)) 1 e))).put dst .undef)):af P B am z dst (.store t x y) K :=
 .unit λU w C a M type pos after=>by
  obtain⟨c3,rfl⟩:=hT.get au;have W:=cI M.tmps x;rw[I]at W
  have hy:=cI M.tmps y;obtain⟨h1,A⟩:=hy.oE ah;obtain⟨b,cap,vs,rfl,hc,hm,Y,F,fK,df,ae⟩:=kj.pos (M.heap.ch s _ hs) hi;have gA:i+0+(a.eval y).cells.toList.length<=vs.size:=by rw[h1,fK];simp;omega
  have cY:=run_storeCells_at P b i e (a.eval y).cells.toList 0 vs w F gA (by rw[h1];simpa using A);simp only[avA]at cY;have a1:=da.setRow (C:=C) (n:=0) F (aA:=(vs.toList.take i++(a.eval y).cells.toList++vs.toList.drop (i+(a.eval y).cells.toList.length)).toArray) asZ (λo ah=>by omega);have fc:=D.oE ah;have x3:=Ht Y hi (x:=z.ba y) (by rw[fc];rfl);have e_:aI.ef (.row (.slice (some ⟨b,0,none⟩) xs.length cap) xs 1 e) b:=⟨_,cap,rfl,by omega⟩;refine⟨_,_,_,?_,M.b6 a1 (s:=s) (λx I=>ax0) (λbq bL eo a6 c9 an nS=>?_) λV bH=>?_,hK⟩
  ·simp only[g7,atT,avW]at W;simp only[execOp,W.gb,Instr.storeAt,Instr.sureAddr,Sem.run_bind,Sem.run_pure,Result.andThen_ok,storeVar,c3.size,hsz,h1];rw[h1]at cY;rw[as9 as1];exact(as' (λr=>Result.andThen r λ_ w'=>Result.ok Next.skip w') cY).trans rfl
  ·subst nS;exact M.heap.inj bq s bL _ eo a6 c9 hs an e_
  cases bH
  refine⟨⟨_,cap,by rw[auG],by simpa using hc,hm,λV bH=>?_,λdF gc=>⟨b,by cases gc;rfl,by simpa using hM F⟩,λ_=>⟨b,_,rfl,setRow_heap w b _ _ e _ F,?_,hB _ _ _,λj d N=>?_⟩⟩,λx I=>?_⟩
  ·rcases avn bH with bH|rfl
   ·exact Y V bH
   rw[fc];rfl
  ·simp only[at6,atf,atv,aul,au0,h1];simp only[avW]at fK;simp;omega
  ·rw[x3,avW,pY _ _ _ (by rw[pN Y,fc];simp;omega)]at N;rw[au3,pY _ _ _ (by simpa using gA)];have ku:(a.eval y).cells.toList.length=(z.ba y).cells.length:=by rw[h1,fc];rfl
   rw[ku];have dm:(b1 xs).length=xs.length:=by rw[pN Y];omega
   by_cases ad:i<=j/\j<i+(z.ba y).cells.length
   ·have tP:j<xs.length:=by have:=ad.2;rw[fc]at this;simp at this;omega
    rw[as_ ⟨ad.1,ad.2,by rw[dm];exact tP⟩]at N;rw[as_ ⟨ad.1,ad.2,by simp;omega⟩];rw[fc]at N;have ab_:j-i=0:=by have:=e9 N;simpa using this
    rw[ab_]at N⊢;simp only[List.getElem?_cons_zero,atQ]at N;subst N;exact⟨a.eval y,by rw[h1];rfl,hy.ext (by rw[ku]at a1;exact a1.ext),A⟩
   rw[as9 (λh=>ad ⟨h.1,h.2.1⟩)]at N;rw[as9 (λh=>ad ⟨h.1,h.2.1⟩)];obtain⟨ak,Z,aD,bc⟩:=ae j d N;exact⟨ak,by simpa using Z,aD.ext (by rw[ku]at a1;exact a1.ext),bc⟩
  obtain⟨hX,hY,dL,_⟩:=I;simp only[Value.slice.injEq,atQ,Addr.mk.injEq]at dL;obtain⟨⟨rfl,_⟩,_⟩:=dL;exact⟨M.heap.cN s _ _ hs e_,.inl rfl⟩
theorem bI.newObj(h:bI U w C z a)(s:Nat){o:Obj}{mV:aI}(mf:ty (w.alloc o) (gz C w.heap.size 0) mV)(an:∀b,mV.ef b->b=w.heap.size): bI U (w.alloc o) (gz C w.heap.size 0) (z.b6 s (some mV)) a:=by have hs:=da.alloc (λ_=>False) w C o 0;refine h.b6 hs (λ_ M=>M.elim) (λ_ _ _ _ _ _ M=>M) (λx I=>?_);cases I;refine⟨mf,λb F=>?_⟩;rw[an b F];exact⟨h.DN,.inr (atg _)⟩
theorem L1{V:D}(d9:V.one=true):∀n,b1 (List.replicate n V)=List.replicate n V
 |0=>rfl
 |n+1=>by have h:=L1 d9 n;simp only[b1]at h⊢;rw[List.replicate_succ,auc,h,D.oE d9];rfl
variable{hX:Nat}
theorem pc{eo o bL n c u':Nat}(h:Value.slice (some ⟨b,o,none⟩) n c=Value.slice (some ⟨eo,bL,none⟩) hX u'):eo=b:=by simp only[Value.slice.injEq,atQ,Addr.mk.injEq]at h;exact h.1.1.symm
variable{zs:List D}
theorem L2(c3:cc.gj P)(fo:aF.gj P)(b5:cc.kind=.slice aF.t)(w:World)(cO d0:IntKind)(l n:Nat)(aj:l<=n)(F:aF.bytes*n<=281474976710656)(ax:n<=9223372036854775807)(bH:aF.zero=some zs): ∃ei:Value,(∀w C,db w C zs ei.cells.toList)/\zs.length=aF.aB/\(Instr.makeSlice cc.t (.int cO (l:Int)) (.int d0 (n:Int))).run P w=.ok (.slice (some ⟨w.heap.size,0,none⟩) l n) (w.alloc (.cells (madeCells ei.cells (n*aF.aB)) aF.t)):=by obtain⟨i,hi,hsz,o_,nk⟩:=fo.qJ;obtain⟨ei,lJ,ma,jK⟩:=nk zs bH;refine⟨ei,jK,ma,?_⟩;have ae:=run_make (P:=P) w cc.t aF.t i ei (c3.kk b5) hi lJ cO d0 l n asZ asZ (by rw[o_];(have:((aF.bytes*n:Nat):Int)<=281474976710656:=by omega);rwa [Int.natCast_mul]at this) asZ;rw[hsz]at ae;simpa using ae
variable{cO d0:IntKind}
theorem af.x4(hT:dh P ay){l c:Operand}{bD n:Nat}{V:D}{s:Nat}(au:dv ay t=some cc)(b5:cc.kind=.slice bD)(fr:dv ay bD=some aF)(bH:aF.zero=some [V])(d9:V.one=true)
  (aj:z.ba l=.int cO n) (hc:z.ba c=.int d0 n) (F:aF.bytes*n<=281474976710656) (ax:n<=9223372036854775807)
  (hK:∀v,K ((z.b6 s (some (.row v (List.replicate n V) 1 bD))).put (some s) (.al v))):af P B am z (some s) (.makeSlice t l c) K :=
 .val λU w C a M type pos after=>by
  obtain⟨c3,rfl⟩:=hT.get au;obtain⟨fo,rfl⟩:=hT.get fr;have o7:=cI M.tmps l;rw[aj]at o7
  have sL:=cI M.tmps c;rw[hc]at sL
  obtain⟨ei,jK,ma,cY⟩:=L2 c3 fo b5 w cO d0 n n (atg _) F ax bH
  have L3:∃ak,ei.cells=#[ak]:=by
   have h1:=(jK w C).1;generalize ei.cells=aA at h1⊢;obtain⟨l⟩:=aA
   match l,h1 with
   |[ak],_=>exact⟨ak,rfl⟩
  obtain⟨ak,an⟩:=L3;have eQ:∀w C,bh w C V ak:=λw C=>by have:=(jK w C).2 0 V ak rfl (by rw[an];rfl);exact this
  have L4:=((eQ w C).oE d9).2;have hsz:aF.aB=1:=by rw[<-ma];rfl
  rw[an,hsz,avW]at cY;refine⟨_,_,_,_,_,?_,M.newObj s (mV:=.row (.slice (some ⟨w.heap.size,0,none⟩) n n) (List.replicate n V) 1 aF.t) (o:=.cells (madeCells #[ak] n) aF.t) ?_ ?_,.al _,hK _⟩
  ·simp only[execOp,o7.fu,sL.fu,Sem.run_bind,cY,Result.andThen_ok,Sem.run_pure]
  ·have h1:∀x∈List.replicate n V,x.cells=[x]:=λx I=>by rw[List.eq_of_mem_replicate I];exact D.oE d9
   refine⟨_,n,by simp,by simp,by simp only[maxLen];omega,λx I=>by rw[h1 x I];rfl,λdF gc=>⟨_,by cases gc;rfl,hM (kR w _)⟩,λ_=>⟨w.heap.size,_,rfl,kR w _,by simp[size_madeCells],hB _ _ _,λj d N=>?_⟩⟩;have dm:=L1 d9 n;rw[dm]at N;have ad:j<n:=by have:=e9 N;simpa using this
   have L5:d=V:=by simp[ad]at N;exact N.symm
   subst L5;refine⟨ak,?_,eQ _ _,L4⟩;rw[<-auE,toList_madeCells_one];simp[ad]
  rintro b ⟨hX,cap,h,_⟩;exact pc h
theorem af.L6(hT:dh P ay){l c:Operand}{bD n:Nat}{s:Nat}(au:dv ay t=some cc)(b5:cc.kind=.slice bD)(fr:dv ay bD=some aF)(bH:aF.zero=some zs)
  (aj:z.ba l=.int cO 0) (hc:z.ba c=.int d0 n) (F:aF.bytes*n<=281474976710656) (ax:n<=9223372036854775807)
  (hK:∀v,K ((z.b6 s (some (.own v 0 aF.aB bD))).put (some s) (.Q (.own s v) aF.aB []))):af P B am z (some s) (.makeSlice t l c) K :=
 .val λU w C a M type pos after=>by
  obtain⟨c3,rfl⟩:=hT.get au;obtain⟨fo,rfl⟩:=hT.get fr;have o7:=cI M.tmps l;rw[aj]at o7
  have sL:=cI M.tmps c;rw[hc]at sL
  obtain⟨ei,jK,ma,cY⟩:=L2 c3 fo b5 w cO d0 0 n asZ F ax bH;refine⟨.slice (some ⟨w.heap.size,0,none⟩) 0 n,_,_,_,_,?_,M.newObj s (mV:=.own (.slice (some ⟨w.heap.size,0,none⟩) 0 n) 0 aF.aB aF.t) (o:=.cells (madeCells ei.cells (n*aF.aB)) aF.t) ?_ ?_,?_,hK _⟩
  ·have h0:((0:Nat):Int)=0:=rfl;rw[h0]at cY;simp only[execOp,o7.fu,sL.fu,Sem.run_bind,cY,Result.andThen_ok,Sem.run_pure]
  ·exact⟨_,n,rfl,by omega,by simp only[maxLen];omega,λ_=>⟨w.heap.size,_,rfl,kR w _,size_madeCells _ _,by rw[hB,Nat.zero_mul]⟩⟩
  ·rintro b ⟨bL,cap,h,_⟩;exact pc h
  exact .Q _ _ [] w.heap.size 0 n (λ_=>undef) rfl (hM (kR w _)) as1 (by simp only[maxLen];omega) (λx I=>by cases I) as1 (λj d N=>by simp[b1]at N) (λj d N=>by simp[b1]at N) (λj d N=>by simp[b1]at N)
theorem D9(C:Nat->Nat)(b n:Nat)(h:C b<=n)(x:Nat):C x<=gz C b n x:=by by_cases e:x=b;subst e;rw[hB];exact h;rw[rE _ _ e];exact atg _
theorem X.commit{K:cM->av->Prop}(s:Nat)(hs:z.H s=some (.row v xs k e))(az:av)
  (au:∀w C,bh w C (.Q (.own s v) k xs) v->∀j ak,bh w C (z.t j) ak->bh w C (az.t j) ak) (cG:∀j o,az.H j=some o->(j=s/\o=.own v xs.length k e)\/(j≠s/\z.H j=some o))
  (h:X U c az K):X U c z K :=
 ⟨λa w C M=>by
  obtain⟨bv,cap,W,hc,hm,Y,eA,cH⟩:=M.heap.ch s _ hs;by_cases h0:0<cap
  ·obtain⟨b,vs,rfl,F,hsz,df,ae⟩:=cH h0;have e_:aI.ef (.row v xs k e) b:=⟨_,cap,W,h0⟩;have jo:nO w C w (gz C b (xs.length*k)):=⟨atg _,λx _=>D9 C b _ asZ x,λ_ _ _ _=>rfl⟩;have a1:da (λx=>x=b) w C w (gz C b (xs.length*k)):=⟨jo,rfl,rfl,rfl,λx _ I=>⟨rfl,rE _ _ I⟩⟩
   have dM:bh w (gz C b (xs.length*k)) (.Q (.own s v) k xs) v:=by
    have:=xW (w:=w) (C:=gz C b (xs.length*k)) (tg:=.own s v) (k:=k) (xs:=xs) (vs:=vs.toList) (b:=b) (e:=e) (ko:=(0,0)) (cap:=cap) F Y hc hm (by rw[hB];exact atg _)
     (λj d N=>axp) W.symm
    rw[W]at this⊢;exact this
   refine h.run a w (gz C b (xs.length*k)) ⟨λj=>au _ _ dM j _ ((M.tmps j).ext jo),⟨λj o ah=>?_,λj ew o bL x a6 h1 A an cW=>?_,λj o x ah an=>?_⟩,M.size,M.defers,?_⟩
   ·rcases cG j o ah with⟨rfl,rfl⟩|⟨ad,ah⟩
    ·exact⟨_,cap,W,hc,hm,λ_=>⟨b,vs,rfl,F,hsz,hB _ _ _⟩⟩
    exact(M.heap.ch j o ah).iv jo λx I=>⟨rfl,rE _ _ λe=>by subst e;exact M.heap.inj j s o _ x ad ah hs I e_⟩
   ·have key:∀j o,az.H j=some o->o.ef x->∃dn,z.H j=some dn/\dn.ef x:=λj o ah an=>by
     rcases cG j o ah with⟨rfl,rfl⟩|⟨_,ah⟩
     ·obtain⟨bL,hY,Z,aD⟩:=an;rw[W]at Z;have:=pc Z;subst this
      exact⟨_,hs,e_⟩
     exact⟨o,ah,an⟩
    obtain⟨dn,Z,aD⟩:=key j o h1 an;obtain⟨lN,bc,cL⟩:=key ew bL A cW;exact M.heap.inj j ew dn lN x a6 Z bc aD cL
   ·rcases cG j o ah with⟨rfl,rfl⟩|⟨_,ah⟩
    ·obtain⟨bL,hY,Z,aD⟩:=an;rw[W]at Z;have:=pc Z;subst this
     exact M.heap.cN _ _ _ hs e_
    exact M.heap.cN j o x ah an
   refine M.step.trans a1 λx I wH=>?_;subst wH;rcases M.heap.cN s _ _ hs e_ with h1|h1
   ·exact h1
   omega
  have I:xs=[]:=atm asZ;subst I;have hcap:cap=0:=asZ
  subst hcap
  have dM:bh w C (.Q (.own s v) k []) v:=by
   cases bv with
   |none=>rw[W];exact .jk _ _ none rfl
   |some dF =>
    obtain⟨b,rfl,F⟩:=eA dF rfl;rw[W];exact .Q _ _ [] b 0 0 (λ_=>undef) rfl F (atg _) (atq _) (λx I=>by cases I) as1 (λj d N=>by simp[b1]at N) (λj d N=>by simp[b1]at N) (λj d N=>by simp[b1]at N)
  have tN:∀j o x,az.H j=some o->o.ef x->j≠s/\z.H j=some o:=λj o x ah an=>by
   rcases cG j o ah with⟨rfl,rfl⟩|A
   ·obtain⟨bL,hY,Z,aD⟩:=an;rw[W]at Z;simp only[Value.slice.injEq]at Z;simp at aD;omega
   exact A
  refine h.run a w C ⟨λj=>au _ _ dM j _ (M.tmps j),⟨λj o ah=>?_,λj ew o bL x a6 h1 A an cW=>?_,λj o x ah an=>?_⟩,M.size,M.defers,M.step⟩
  ·rcases cG j o ah with⟨rfl,rfl⟩|⟨ad,ah⟩
   ·exact⟨_,0,W,atg _,atq _,λh=>absurd h as1⟩
   exact M.heap.ch j o ah
  ·exact M.heap.inj j ew o bL x a6 (tN j o x h1 an).2 (tN ew bL x A cW).2 an cW
  exact M.heap.cN j o x (tN j o x ah an).2 an⟩
end Go.bS
