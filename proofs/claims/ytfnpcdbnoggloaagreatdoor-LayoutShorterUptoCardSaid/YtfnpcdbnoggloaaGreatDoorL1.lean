/- Contracts of the program's functions, part 1. No conditions of its own. -/
import Derived.WalkKit
import Derived.Great.FillDense
import Derived.Laws.Tables
import Derived.Laws.IdiomStrings
import Derived.Laws.Cover4
import Derived.Laws.Runes
import Derived.Laws.CopyRow
import Derived.Laws.AppendOwn
import Derived.StillTail
import Derived.Laws.MakeOwn
import Derived.MapFrom
import Derived.Laws.RangeString
import Derived.Laws.BytesString
import Derived.Laws.Cover3
import Derived.Deep.AppendSrc
import Derived.ChangeArms
import Derived.ChangeSame
import Derived.WideKeyArgs
import Derived.Carry
import Derived.Lib.SmallJoins
import Derived.Test.YtfnpcdbnoggloaaGreatDoorProg
import Derived.Deep.Upon
import Derived.Lib.AppendStr
import Derived.Scope
set_option linter.unnecessarySimpa false
set_option linter.unusedSimpArgs false
set_option linter.unusedVariables false
set_option maxRecDepth 100000
set_option maxHeartbeats 16000000
theorem auD{p:Prop}(h:p:=by omega):p:=h
theorem auE{p:Prop}(h:p:=by (simp;omega)):p:=h
theorem auF{p:Prop}(h:p:=by simp):p:=h
theorem auG{p:Prop}(h:p:=by decide):p:=h
theorem auH{p:Prop}(h:p:=by decide +kernel):p:=h
theorem auI{p:Prop}(h:p:=by kernel_rfl):p:=h
theorem auJ{p:Prop}(h:p:=by (rw[Int.toNat_natCast];rfl)):p:=h
theorem auK{p:Prop}(h:p:=by (intro h;cases h)):p:=h
theorem auL{p:Prop}(h:p:=by exact λw=>rfl):p:=h
abbrev auM:=List UInt8
abbrev auN:=@if_neg
abbrev auO:=@if_pos
abbrev auP:=@congrArg
abbrev auQ:=@Bool.and_eq_true
abbrev auR:=@List.getElem?_eq_getElem
abbrev auS:=@List.length_map
abbrev auT:=@List.getElem_mem
abbrev auU:=@List.take_succ_eq_append_getElem
abbrev auV:=@List.length_append
abbrev auW:=@Nat.le_refl
abbrev auX:=@List.length_cons
abbrev auY:=@List.mem_cons_self
abbrev auZ:=@List.mem_cons_of_mem
abbrev au0:=@List.getElem?_eq_none
abbrev au1:=@List.eq_nil_of_length_eq_zero
abbrev au2:=@List.take_length
abbrev au3:=@List.getElem?_append_left
abbrev au4:=@Int.tdiv_eq_ediv_of_nonneg
abbrev au5:=@List.mem_of_getElem?
abbrev au6:=@Nat.lt_or_ge
abbrev au7:=@Nat.zero_le
abbrev au8:=@List.mem_cons
abbrev au9:=@List.length_take
abbrev au_:=@List.mem_map
abbrev au':=@List.getElem?_map
abbrev ava:=@of_decide_eq_false
abbrev avb:=@beq_true
abbrev avc:=@List.map_cons
abbrev avd:=@List.mem_iff_getElem?
abbrev ave:=@List.take_of_length_le
abbrev avf:=@List.mem_append
abbrev avg:=@of_decide_eq_true
abbrev avh:=@List.length_nil
abbrev avi:=@Option.some.injEq
abbrev avj:=@Nat.le_of_ble_eq_true
abbrev avk:=@List.getElem?_eq_some_iff
abbrev avl:=@List.getElem?_append_right
abbrev avm:=@List.mem_iff_getElem
abbrev avn:=@List.length_filter_le
abbrev avo:=@List.map_append
abbrev avp:=@decide_eq_true_eq
abbrev avq:=@Int.toNat_natCast
abbrev avr:=@List.append_assoc
abbrev avs:=@List.mem_singleton
abbrev avt:=@Nat.lt_succ_self
abbrev avu:=@Nat.zero_add
abbrev avv:=@beq_eq_false_iff_ne
abbrev avw:=@decide_eq_false
abbrev avx:=@Nat.lt_of_lt_of_le
abbrev avy:=@List.mem_filter
abbrev avz:=@List.all_eq_true
abbrev avA:=@Nat.eq_zero_or_pos
abbrev avB:=@Option.some.inj
abbrev avC:=@List.append_nil
abbrev avD:=@List.nodup_iff_pairwise_ne
abbrev avE:=@List.getElem?_take
abbrev avF:=@List.flatMap_cons
abbrev avG:=@Option.getD_some
abbrev avH:=@Int.tmod_eq_emod_of_nonneg
abbrev avI:=@List.getElem?_mapIdx
abbrev avJ:=@List.filter_cons
abbrev avK:=@Int.le_refl
abbrev avL:=@List.drop_eq_getElem_cons
abbrev avM:=@List.map_congr_left
abbrev avN:=@List.size_toArray
abbrev avO:=@List.mem_of_mem_take
abbrev avP:=@decide_eq_true
abbrev avQ:=@List.cons_append
abbrev avR:=@List.map_map
abbrev avS:=@Option.map_eq_some_iff
abbrev avT:=@Bool.false_eq_true
abbrev avU:=@List.pairwise_iff_getElem
abbrev avV:=@if_true
abbrev avW:=@List.foldl_append
abbrev avX:=@List.length_drop
abbrev avY:=@List.length_pos_iff
abbrev avZ:=@cond_false
abbrev av0:=@Nat.add_sub_cancel_left
abbrev av1:=@List.ext_getElem
abbrev av2:=@List.ext_getElem?
abbrev av3:=@Bool.or_eq_true
abbrev av4:=@List.nil_append
abbrev av5:=@Option.map_some
abbrev av6:=@Nat.le_trans
abbrev av7:=@List.filter_append
abbrev av8:=@List.getElem_cons_succ
abbrev av9:=@Nat.beq_refl
abbrev av_:=@Nat.not_lt_zero
abbrev av':=@List.any_eq_true
abbrev awa:=@List.mem_range
abbrev awb:=@List.take_append_drop
abbrev awc:=@List.length_set
abbrev awd:=@Array.getElem?_eq_getElem
abbrev awe:=@Bool.or_eq_false_iff
abbrev awf:=@List.foldl_cons
abbrev awg:=@Bool.and_eq_false_iff
abbrev awh:=@List.range_succ
abbrev awi:=@List.take_succ_cons
abbrev awj:=@decide_eq_false_iff_not
abbrev awk:=@List.pairwise_map
abbrev awl:=@List.take_append_of_le_length
abbrev awm:=@beq_iff_eq
abbrev awn:=@List.find?_eq_none
abbrev awo:=@cond_true
abbrev awp:=@List.map_nil
abbrev awq:=@if_false
abbrev awr:=@Array.getElem?_toList
abbrev aws:=@Array.getD_eq_getD_getElem?
abbrev awt:=@Array.getElem?_eq_some_iff
abbrev awu:=@dif_pos
abbrev awv:=@beq_false
abbrev aww:=@Nat.mul_le_mul_right
abbrev awx:=@List.flatMap_append
abbrev awy:=@Nat.add_assoc
abbrev awz:=@List.findIdx?_eq_some_iff_getElem
abbrev awA:=@List.find?_cons
abbrev awB:=@Bool.not_eq_false'
abbrev awC:=@Array.ext'
abbrev awD:=@List.mem_flatMap
abbrev awE:=@List.getD_eq_getElem?_getD
abbrev awF:=@List.take_add_one
abbrev awG:=@Array.length_toList
abbrev awH:=@List.getElem?_toArray
abbrev awI:=@Nat.eq_of_beq_eq_true
abbrev awJ:=@Nat.lt_succ_iff_lt_or_eq
abbrev awK:=@List.getElem?_drop
abbrev awL:=@List.getElem?_set
abbrev awM:=@List.reverse_cons
abbrev awN:=@List.getElem?_concat_length
abbrev awO:=@List.nodup_cons
abbrev awP:=@Nat.succ_mul
abbrev awQ:=@List.getElem_cons_zero
abbrev awR:=@List.findIdx?_eq_none_iff
abbrev awS:=@List.mem_or_eq_of_mem_set
abbrev awT:=@List.cons.injEq
abbrev awU:=@List.mem_of_mem_drop
abbrev awV:=@Nat.zero_lt_one
abbrev awW:=@List.length_filterMap_le
abbrev awX:=@Nat.lt_trichotomy
abbrev awY:=@Bool.not_eq_true'
abbrev awZ:=@List.drop_append_of_le_length
abbrev aw0:=@Option.bind_eq_some_iff
abbrev aw1:=@List.getElem?_replicate
abbrev aw2:=@List.take_zero
abbrev aw3:=@List.getElem?_set_self
abbrev aw4:=@List.drop_eq_nil_of_le
abbrev aw5:=@List.drop_of_length_le
abbrev aw6:=@UInt8.toNat_ofNat'
abbrev aw7:=@List.count_pos_iff
abbrev aw8:=@Int.ofNat_lt
abbrev aw9:=@Nat.add_zero
abbrev aw_:=@Array.getElem?_modify
abbrev aw':=@List.isSuffixOf_iff_suffix
abbrev axa:=@Function.comp_def
abbrev axb:=@List.mem_of_find?_eq_some
abbrev axc:=@List.Perm.eq_of_pairwise
abbrev axd:=@List.find?_range_eq_some
abbrev axe:=@List.mem_nil_iff
abbrev axf:=@List.getElem_map
abbrev axg:=@Array.toList_append
abbrev axh:=@List.getElem_mapIdx
abbrev axi:=@Array.getElem?_setIfInBounds_ne
abbrev axj:=@List.pairwise_mergeSort
abbrev axk:=@List.all_cons
abbrev axl:=@Int.natCast_nonneg
abbrev axm:=@Nat.min_eq_left
abbrev axn:=@UInt8.lt_irrefl
abbrev axo:=@List.getElem_range
abbrev axp:=@Bool.eq_iff_iff
abbrev axq:=@List.length_pos_of_mem
abbrev axr:=@Nat.mul_one
abbrev axs:=@Bool.eq_false_iff
abbrev axt:=@Nat.sub_self
abbrev axu:=@Nat.add_comm
abbrev axv:=@List.length_mergeSort
abbrev axw:=@Array.getElem?_mapIdx
abbrev axx:=@dif_neg
abbrev axy:=@or_false
abbrev axz:=@Array.replicate_succ
abbrev axA:=@Array.replicate_zero
abbrev axB:=@Array.getElem?_append_left
abbrev axC:=@Bool.true_and
abbrev axD:=@List.append_toArray
abbrev axE:=@List.filterMap_cons
abbrev axF:=@List.mergeSort_perm
abbrev axG:=@List.map_set
abbrev axH:=@Option.isSome_iff_exists
abbrev axI:=@List.mem_filterMap
abbrev axJ:=@UInt8.not_lt
abbrev axK:=@List.Pairwise.imp_of_mem
abbrev axL:=@Nat.le_mul_of_pos_right
abbrev axM:=@List.length_eq_zero_iff
abbrev axN:=@Array.size_mapIdx
abbrev axO:=@List.push_toArray
abbrev axP:=@Option.map_eq_none_iff
abbrev axQ:=@List.filter_eq_nil_iff
abbrev axR:=@List.flatMap_singleton
abbrev axS:=@List.append_eq_nil_iff
abbrev axT:=@Array.getElem?_eq_none
abbrev axU:=@List.any_cons
abbrev axV:=@List.sum_cons
abbrev axW:=@Nat.lt_irrefl
abbrev axX:=@List.getElem_set
abbrev axY:=@List.not_mem_nil
abbrev axZ:=@List.pairwise_reverse
abbrev ax0:=@List.length_replicate
abbrev ax1:=@List.singleton_append
abbrev ax2:=@Nat.ble_eq_true_of_le
abbrev ax3:=@UInt8.toNat_inj
abbrev ax4:=@List.mem_of_mem_tail
abbrev ax5:=@List.getElem?_append
abbrev ax6:=@List.getElem?_set_ne
abbrev ax7:=@List.find?_some
abbrev ax8:=@List.mem_mapIdx
theorem ax9{p:Prop}(h:p:=by (have G:be[i]=false:=by simpa[Array.getD,mn]using qM);(have bZ:(be.setIfInBounds i true).toList=be.toList.set i true:=by simp);rw[bZ];(have b0:(be.toList.set i true).count false+1=be.toList.count false:=by have:=List.count_set (l:=be.toList) (i:=i) (a:=true) (b:=false) (by simpa using mn);(have aa:be.toList[i]'(by simpa using mn)=false:=by simpa using G);(have a8:(if(be.toList[i]'(by simpa using mn))==false then 1 else 0)=1:=by rw[aa];rfl);have cN:(if(true==false)=true then 1 else 0)=0:=rfl;have e2:0<be.toList.count false:=aw7.2 (by rw[<-aa];exact auT _);omega);omega):p:=h
theorem ax_{p:Prop}(h:p:=by refine gj ?_;refine aI false rfl ?_ ?_<;>intro hc;cases hc;apply ci;refine gj ?_;refine aI false rfl ?_ ?_<;>intro hc;cases hc;refine go ?_;refine aI (decide (x<y)) rfl ?_ ?_<;>intro hc;refine go ?_;rw[qn,auO (by simpa using hc)];exact E;refine go ?_;rw[qn,auN (by simpa using hc)];refine go ?_;refine aI (decide (y<x)) rfl ?_ ?_<;>intro hc;refine go ?_;rw[auO (by simpa using hc)];exact E;refine go ?_;rw[auN (by simpa using hc)];exact E):p:=h
theorem ax'{p:Prop}(h:p:=by by_cases DY:n=0;subst DY;have p2:vs=[]:=au1 o';subst p2;have qA:Array.range 0=#[]:=rfl;simp[qA,Instr.buildSlice,run_underlying au,sizeOf,typeInfo,hi,Instr.fill,newRow];(have aZ:¬n*aH.aB=0:=by intro h;rcases Nat.mul_eq_zero.1 h with h|h<;>omega);(have LA:¬16777216<n*aH.aB:=by omega);simp[Instr.buildSlice,run_underlying au,sizeOf,typeInfo,zeroValue,hi,oC,hs,aZ,LA,DX,newRow]):p:=h
theorem ayb{p:Prop}(h:p:=by intro ae;refine xl (p:=λae=>∀m,m<=ae.length->(g5 v ae).reverse.take m=(g5 v (ae.take m)).reverse) (λm hm=>by simp at hm;subst hm;rfl) (λl x aV m hm=>?_) ae;rw[xm,awM];by_cases gs:m<=l.length;rw[awl (by simp[s_];exact gs),aV m gs,awl gs];(have tX:m=l.length+1:=by simp at hm;omega);subst tX;rw[ave (by simp[s_]),ave auF,xm,awM]):p:=h
theorem ayc{p:Prop}(h:p:=by obtain⟨v,X⟩:=lU (l:=(vs.map (·.2)).flatMap λv=>v.cells.toList) (i:=j) (by have:=fu O;rw[dg.1]at this;exact this);refine⟨v,X,dg.2 j d v O X,?_⟩;obtain⟨ao,au,LB⟩:=awD.1 (au5 X);obtain⟨i,hi⟩:=avd.1 au;obtain⟨d',hu⟩:=lU (l:=ds.map (·.2)) (i:=i) (by have:=fu hi;simp only[auS]at this⊢;omega);exact(hsz i d' ao hu hi).2.2.2 v LB):p:=h
theorem ayd{p:Prop}(h:p:=by apply av2;intro j;by_cases ad:j<vs.length;(have bZ:(vs.map (·.1))[j]?=some j:=by rw[h1,tF,List.getElem?_range' auD];simp);have b0:vs[j]?=some vs[j]:=auR ad;simp only[au',List.getElem?_zipIdx,b0,av5]at bZ⊢;(have kx:vs[j].1=j:=by simpa using bZ);congr 1;ext;simpa using kx;rfl;rw[au0 auD,au0 auE]):p:=h
theorem ayf{p:Prop}(h:p:=by simp only[Region.ready,avy,awa,auQ,awY];refine⟨hi,aj,?_⟩;rw[ag];simp only[av5,avG];refine Array.all_eq_true'.2 λe aq=>?_;have:=af e (by simpa using aq);cases G:Region.binds Region.Mode.any e with|true=>simpa using this G|false=>simp):p:=h
theorem ayg{p:Prop}(h:p:=by funext j;simp only[fP];rw[Ma (f:=ep be) λe aq G=>l0 e aq G];cases G:Nat.beq j i with|true =>have:=avb G;subst this;(have bg:j<be.size:=by omega);simp only[ep,Array.getD,bg,awu]at qM⊢;simpa using qM.symm|false=>rfl):p:=h
theorem ayh{p:Prop}(h:p:=by simp only[entry,LY];by_cases hi:i<args.length;obtain⟨d,O⟩:=lU (l:=ds) (i:=i) auD;have X:args[i]?=some args[i]:=auR hi;have:=af.2 i d _ O X;simpa[O,Array.getElem?_append,hi]using this;rw[au0 auD];exact .any _):p:=h
theorem ayi{p:Prop}(h:p:=by (have hlen:(fL .i64 (chars s).1).length=(chars s).1.length:=by simp[fL]);rw[hlen];cases(chars s).2==0;rfl;by_cases h1:1<=(chars s).1.length<;>by_cases A:(chars s).1.length<=64<;>simp[h1,A]<;>omega):p:=h
theorem ayj{p:Prop}(h:p:=by cases mU:o.guard with|none=>simp[Region.wanted,mU]|some zR =>obtain⟨j,iE⟩:=zR;rw[mU]at aS;obtain⟨g,h1,A⟩:=aS;have jF:=M.tmps g;rw[A]at jF;have hy:=x0 h1 jF.hY;simp[Region.wanted,mU,hy]):p:=h
theorem ayk{p:Prop}(h:p:=by (cases i with|zero=>simp at ag;subst ag;exact h.1 y f|succ i =>have:=aV h.2 (i:=i) (o:=o) (by simpa using ag) y f;rw[show n+1+i=n+(i+1) by omega]at this;exact this)):p:=h
theorem ayl{p:Prop}(h:p:=by (have bg:i<be.size:=by omega);have:=List.count_eq_zero.1 hc;cases G:be[i]with|true=>simp[ep,bg,G]|false=>exact absurd (by rw[<-G];simp[Array.getElem_mem]) this):p:=h
theorem aym{p:Prop}(h:p:=by simp only[execOp,resolve,X,Deferred.ofValue,Sem.run_bind,Sem.run_pure,Result.andThen_ok,invoke,callFunc,run_program,jm,kY,G,avT,awq];congr 2;apply awC;simp):p:=h
theorem ayn{p:Prop}(h:p:=by rename_i x;obtain⟨d,O,af⟩:=iZ I;split at O;rename_i hS i;refine⟨i,O,λax w C ρ c3=>.inr ⟨hS,?_⟩⟩;simp[(af ax w C _ (c3 x rfl)).fC];exact False.elim O):p:=h
theorem ayo{p:Prop}(h:p:=by intro v X;obtain⟨j,ad⟩:=avd.1 X;obtain⟨d,O⟩:=lU (l:=ds.map (·.2)) (i:=j) (by have:=fu ad;simp only[auS]at this⊢;omega);exact(hsz j d v O ad).2.1):p:=h
theorem ayp{p:Prop}(h:p:=by intro x J;obtain⟨j,ad⟩:=avd.1 J;obtain⟨v,X⟩:=lU (l:=vs.map (·.2)) (i:=j) (by have:=fu ad;simp only[auS]at this⊢;omega);exact(hsz j x v ad X).1):p:=h
theorem ayq{p:Prop}(h:p:=by apply b1;apply b1;refine vh ?_;refine⟨λ_=>by omega,?_⟩;refine go ?_;have I:(n+2048-1).tdiv 2048=(n+2048-1)/2048:=au4 auD;refine go ?_;exact E):p:=h
theorem ayr{p:Prop}(h:p:=by refine go ?_;refine ap.of_eq (auP D.bool ?_);unfold et;by_cases h1:32<=r<;>by_cases A:r<=65533<;>by_cases aa:r<55296<;>simp[h1,A,aa]):p:=h
theorem ays{p:Prop}(h:p:=by (have af:r=[]:=by simpa using hc);subst af;(have:chars s=(fE,0):=by rw[chars,auN kz,k6];simp[ju,yp]);rw[this];exact⟨ap.mf,E,ak⟩):p:=h
theorem ayt{p:Prop}(h:p:=by (have e:gy H [(k,s)]=aM [(k,o)]:=by funext j;simp only[gy,aM];cases Nat.beq j k with|true=>exact h|false=>rfl);rw[e];exact hc):p:=h
theorem ayu{p:Prop}(h:p:=by intro j d v O X;have af:=A.2 j d v O X;simp only[au',avS]at O;obtain⟨x,J,rfl⟩:=O;exact hcells w C x (au5 J) v af):p:=h
theorem ayv{p:Prop}(h:p:=by simp only[aM]at h;cases h1:Nat.beq s a with|true=>rw[h1]at h;cases h;exact⟨avb h1,rfl⟩|false=>rw[h1]at h;cases h):p:=h
theorem ayw{p:Prop}(h:p:=by by_cases pd:k=j;subst pd;rw[auO rfl,auO auD];rw[auN pd];by_cases ad:j<k;rw[auO ad,auO auD];rw[auN ad,auN auD]):p:=h
theorem ayx{p:Prop}(h:p:=by obtain⟨_,_,_,_,_,cN⟩:=QT h;unfold nz at cN;split at cN;cases cN;rename_i hc;unfold r6 at hc;simp at hc;omega):p:=h
theorem ayy{p:Prop}(h:p:=by unfold fV;rw[vT,vU];by_cases h:(g2 v l bc).2=[];rw[auO (yO.2 h),auO h];rw[auN (λe=>h (yO.1 e)),auN h]):p:=h
theorem ayz{p:Prop}(h:p:=by refine D3 k ok Z kw ?_ fx;by_cases pd:j=k;subst pd;exact D4;rw[getD_set_ne true pd]at u6;exact u6):p:=h
theorem ayA{p:Prop}(h:p:=by cases Nat.beq j cP with|true=>exact h1|false =>(cases Nat.beq j d0 with|true=>exact A|false=>rfl)):p:=h
theorem ayB{p:Prop}(h:p:=by rcases au6 j n with h|h;exact h;exact absurd ad (tail_waits hs hc ar pU _ i rfl cr u6 j h)):p:=h
theorem ayC{p:Prop}(h:p:=by rcases af.kt with⟨rfl,⟨_,X⟩,_⟩|⟨b,o,iF,g,X,_,G,hc,_⟩;exact⟨_,_,X,by simp⟩;exact⟨_,_,X,hc⟩):p:=h
theorem ayD{p:Prop}(h:p:=by rcases au6 j K with h|h;exact h;(have:j=K:=by omega);subst this;exact absurd AK mg.2.1):p:=h
theorem ayE{p:Prop}(h:p:=by rw[ZK];cases h1:s.iso<;>cases A:s.rock<;>rw[h1,A]at hc<;>first|(cases hc;done)|decide):p:=h
theorem ayG{p:Prop}(h:p:=by cases h0:decide ((0:Int)<i)<;>rw[h0]at hc<;>simp at h0 hc;exact⟨by omega,hc⟩):p:=h
theorem ayH{p:Prop}(h:p:=by exact dx (zQ (p:=λk:U=>k.name==q) λj ad=>aw j ad (by simp at hc;omega)).symm):p:=h
theorem ayI{p:Prop}(h:p:=by have:=(s.getD 0 0).toNat_lt;have:=(s.getD 1 0).toNat_lt;simp only[dz];omega):p:=h
theorem ayJ{p:Prop}(h:p:=by simp[execOp,resolve,invoke,builtin,Builtin.len_,run_underlying au,A,goInt]):p:=h
theorem ayK{p:Prop}(h:p:=by clear sU;induction l with|nil=>trivial|cons x r aV=>exact⟨h1.1,aV h1.2⟩):p:=h
theorem ayL{p:Prop}(h:p:=by obtain⟨h1,A⟩:=sx hc;obtain⟨aa,aF⟩:=sx h1;have:=ava A;have:=ava aF;omega):p:=h
theorem ayM{p:Prop}(h:p:=by cases h:Nat.beq k i with|false=>rfl|true=>have:=awI h;simp at ha;omega):p:=h
theorem ayN{p:Prop}(h:p:=by have:=h.kind;unfold xU at this;rw[Z]at this;split at this<;>simp_all):p:=h
theorem ayO{p:Prop}(h:p:=by obtain⟨ao,h1,A,aa⟩:=af j d O;exact⟨ao,by simpa using h1,A.ext j5,aa⟩):p:=h
theorem ayP{p:Prop}(h:p:=by cases aa:decide ((i:Int)<=3)<;>rw[aa]at hc<;>simp at aa hc<;>omega):p:=h
theorem ayQ{p:Prop}(h:p:=by obtain⟨h1,A,aa⟩:=Qu h;exact(mK _ _ auD).trans ((y8 rfl A).trans h)):p:=h
theorem ayR{p:Prop}(h:p:=by unfold Utf8.encode;simp only[X,avV,avq];rw[auN mX,auN A,auO auD]):p:=h
theorem ayS{p:Prop}(h:p:=by simp only[Region.wanted,aS,hy a w C h];cases b<;>cases c<;>rfl):p:=h
theorem ayT{p:Prop}(h:p:=by by_cases h1:(s.length:Int)<1;simp[h1]at hc;simp[h1]at hc;omega):p:=h
theorem ayU{p:Prop}(h:p:=by rcases ii with h|h;have:=hc.2;rw[h]at this;cases this;exact h):p:=h
theorem ayV{p:Prop}(h:p:=by subst J;exact M.heap.inj s bp _ o x (Ne.symm aZ) hs ag rfl au):p:=h
theorem ayW{p:Prop}(h:p:=by rw[w5 (by simpa using h)];simp[eA,show t-1<F.length by omega]):p:=h
theorem ayX{p:Prop}(h:p:=by rcases avf.1 J with J|J<;>first|exact sH x J|exact Bx x J):p:=h
theorem ayY{p:Prop}(h:p:=by first|omega|(simp only[dz]at*;omega)|(simp[dz]at*;omega)):p:=h
theorem ayZ{p:Prop}(h:p:=by refine go ?_;exact dx (by rw[aw,Al (by simpa using hc)])):p:=h
theorem ay0{p:Prop}(h:p:=by by_cases fq:j=i;subst fq;exact hc;exact aw j h auD):p:=h
theorem ay1{p:Prop}(h:p:=by show p.files.length-(i+1)<p.files.length-i;omega):p:=h
theorem ay2{p:Prop}(h:p:=by have:=(s.getD 0 0).toNat_lt;simp only[dz];omega):p:=h
theorem ay3{p:Prop}(h:p:=by intro hB;(conv=>whnf);refine go ?_;exact hB.ck):p:=h
theorem ay4{p:Prop}(h:p:=by refine Y.vp 46 9 rfl ?_;refine go ?_;exact an):p:=h
theorem ay5{p:Prop}(h:p:=by simp only[Region.wanted,aS,hy];cases b<;>rfl):p:=h
theorem ay7{p:Prop}(h:p:=by simp only[Array.getD,ls,awu];simpa using G):p:=h
theorem ay8{p:Prop}(h:p:=by show p.cS.length-(i+1)<p.cS.length-i;omega):p:=h
theorem ay9{p:Prop}(h:p:=by obtain⟨j,rfl,_,_⟩:=tm h;exact⟨by omega,h⟩):p:=h
theorem ay_{p:Prop}(h:p:=by first|exact h|(rw[h];rfl)|(rw[h0,h];rfl)):p:=h
theorem ay'{p:Prop}(h:p:=by show n.F.length-(i+1)<n.F.length-i;omega):p:=h
theorem aza{p:Prop}(h:p:=by rw[lP];have:=avn aK.c_ l;unfold bM;omega):p:=h
theorem azb{p:Prop}(h:p:=by rw[getD_replicate_false]at aj;cases aj):p:=h
theorem azc{p:Prop}(h:p:=by simp only[Value.slice.injEq]at h;omega):p:=h
theorem azd{p:Prop}(h:p:=by rw[<-b0];exact List.length_append.symm):p:=h
theorem aze{p:Prop}(h:p:=by rcases tM b bK with h|h;exact h;omega):p:=h
theorem azf{p:Prop}(h:p:=by subst cr;rw[au2];refine go ?_;exact E):p:=h
theorem azg{p:Prop}(h:p:=by show s.length-(i+1)<s.length-i;omega):p:=h
theorem azh{p:Prop}(h:p:=by show l.length-(i+1)<l.length-i;omega):p:=h
theorem azi{p:Prop}(h:p:=by show V.length-(i+1)<V.length-i;omega):p:=h
theorem azj{p:Prop}(h:p:=by show P.length-(i+1)<P.length-i;omega):p:=h
theorem azk{p:Prop}(h:p:=by have:=a1.dp;rwa [avE,auO auD]at this):p:=h
theorem azl{p:Prop}(h:p:=by subst J;exact M.heap.cQ s _ _ hs fw):p:=h
theorem azm{p:Prop}(h:p:=by rw[avv];intro e;subst e;simp at hc):p:=h
theorem azn{p:Prop}(h:p:=by intro hB;refine go ?_;exact hB.ck):p:=h
theorem azo{p:Prop}(h:p:=by simp only[putCells,axN];exact gc):p:=h
theorem azp{p:Prop}(h:p:=by have:=ar;unfold ev at this;omega):p:=h
theorem azq{p:Prop}(h:p:=by simp[Op.operands,Call.operands]):p:=h
theorem azr{p:Prop}(h:p:=by (conv=>whnf);exact⟨_,E,rfl,rfl⟩):p:=h
theorem azs{p:Prop}(h:p:=by refine go ?_;exact⟨_,E,rfl,rfl⟩):p:=h
theorem azt{p:Prop}(h:p:=by simp at hc;simp only[dz];omega):p:=h
theorem azu{p:Prop}(h:p:=by obtain⟨y,_,rfl⟩:=au_.1 J;rfl):p:=h
namespace Go.bV
open Go Go.RowKit
inductive iA where
 |none
 |dZ
 |own (s:Nat) (v:Value)
inductive D where
 |any
 |undef
 |bool (b:Bool)
 |int (k:IntKind) (n:Int)
 |N (s:auM)
 |agg (aD:List D)
 |bd
 |T (t:iA) (k:Nat) (xs:List D)
 |fn (f:Fn) (first ox:List D)
 |bm (ds:List D)
 |a7 (k:Nat) (xs:List D) (i off:Nat)
 |box (s b off:Nat)
 |mb (g:Bool) (d:D)
 |am (v:Value)
def D.cells:D->List D
 |.agg aD=>aD
 |d=>[d]
def b4(xs:List D):List D:=xs.flatMap D.cells
def iA.f'(t:iA)(v:Value):Prop :=
 match t with
 |.none=>True
 |.dZ=>∃a n,v=.slice a n n
 |.own _ c'=>v=c'
inductive bh (w:World) (C:Nat->Nat):D->Value->Prop
 |any (v:Value):bh w C .any v
 |undef:bh w C .undef Go.undef
 |bool (b:Bool):bh w C (.bool b) (.bool b)
 |int (k:IntKind) (n:Int):bh w C (.int k n) (.int k n)
 |N (s:auM):bh w C (.N s) (.string ⟨⟨s⟩⟩)
 |agg (aD:List D) (vs:List Value) (aj:aD.length=vs.length)
   (h:∀(i:Nat) d v,aD[i]?=some d->vs[i]?=some v->bh w C d v):bh w C (.agg aD) (.agg ⟨vs⟩)
 |bd:bh w C .bd (.slice none 0 0)
 |jj (t:iA) (k:Nat) (a:Option Addr) (ax:t.f' (.slice a 0 0)):bh w C (.T t k []) (.slice a 0 0)
 |T (t:iA) (k:Nat) (xs:List D) (b o cap:Nat) (g:Nat->Value)
   (ax:t.f' (.slice (some ⟨b,o,none⟩) xs.length cap))
   (G:b<w.heap.size) (hc:xs.length<=cap) (hm:cap<=maxLen)
   (Z:∀x∈xs,x.cells.length=k) (da:o+xs.length*k<=C b)
   (gg:∀(j:Nat) d,(b4 xs)[j]?=some d->w.cell? ⟨b,o+j,none⟩=some (g j))
   (en:∀(j:Nat) d,(b4 xs)[j]?=some d->(g j).oneCell'=true)
   (h:∀(j:Nat) d,(b4 xs)[j]?=some d->bh w C d (g j)):bh w C (.T t k xs) (.slice (some ⟨b,o,none⟩) xs.length cap)
 |fn (f:Fn) (first ox:List D) (fN hr:List Value) (aj:first.length=fN.length) (mF:ox.length=hr.length)
   (h:∀(i:Nat) d v,first[i]?=some d->fN[i]?=some v->bh w C d v)
   (bt:∀(i:Nat) d v,ox[i]?=some d->hr[i]?=some v->bh w C d v):bh w C (.fn f first ox) (.func f ⟨fN⟩ ⟨hr⟩)
 |bm (ds:List D) (vs:List Value) (aj:ds.length=vs.length)
   (h:∀(i:Nat) d v,ds[i]?=some d->vs[i]?=some v->bh w C d v):bh w C (.bm ds) (.tuple ⟨vs⟩)
 |a7 (k:Nat) (xs:List D) (i off:Nat) (b o cap:Nat) (h:bh w C (.T .none k xs) (.slice (some ⟨b,o,none⟩) xs.length cap)) :
   bh w C (.a7 k xs i off) (.pointer (some ⟨b,o+i*k+off,none⟩))
 |box (s b off:Nat):bh w C (.box s b off) (.pointer (some ⟨b,off,none⟩))
 |pT (d:D) (v:Value) (h:bh w C d v):bh w C (.mb true d) v
 |uW (d:D):bh w C (.mb false d) Go.undef
 |am (v:Value):bh w C (.am v) v
def db(w:World)(C:Nat->Nat)(ds:List D)(vs:List Value):Prop :=
 ds.length=vs.length/\∀(i:Nat) d v,ds[i]?=some d->vs[i]?=some v->bh w C d v
structure nQ (w:World) (C:Nat->Nat) (w':World) (aW:Nat->Nat):Prop where
 size:w.heap.size<=w'.heap.size
 le:∀b,b<w.heap.size->C b<=aW b
 cells:∀b o,b<w.heap.size->o<C b->w'.cell? ⟨b,o,none⟩=w.cell? ⟨b,o,none⟩
theorem nQ.refl(w:World)(C:Nat->Nat):nQ w C w C:=⟨auW _,λ_ _=>auW _,λ_ _ _ _=>rfl⟩
variable{w w':World}{C aW:Nat->Nat}
theorem nQ.trans{rz:World}{lT:Nat->Nat}(h:nQ w C w' aW)(bt:nQ w' aW rz lT):nQ w C rz lT :=
 ⟨av6 h.size bt.size,λb G=>av6 (h.le b G) (bt.le b (avx G h.size)),
  λb o G ag=>by
   rw[bt.cells b o (avx G h.size) (avx ag (h.le b G)),h.cells b o G ag]⟩
theorem qx{k:Nat}:∀{xs:List D},(∀x∈xs,x.cells.length=k)->(b4 xs).length=xs.length*k
 |[],_=>by simp[b4]
 |x::xs,h=>by have h1:=qx (xs:=xs) (λy hy=>h y (auZ _ hy));have A:=h x auY;simp only[b4,avF,auV,auX]at*;rw[h1,A,awP];omega
variable{d:D}{v:Value}
theorem bh.ext(aq:nQ w C w' aW)(h:bh w C d v):bh w' aW d v:=by induction h with|any v=>exact .any v|undef=>exact .undef|bool b=>exact .bool b|int k n=>exact .int k n|N s=>exact .N s|agg aD vs aj _ aV=>exact .agg aD vs aj aV|bd=>exact .bd|jj t k a ax=>exact .jj t k a ax|T t k xs b o cap g ax G hc hm Z da gg en _ aV =>refine .T t k xs b o cap g ax (avx G aq.size) hc hm Z (av6 da (aq.le b G)) (λj d ad=>?_) en aV;rw[aq.cells b (o+j) G ?_];exact gg j d ad;(have bg:j<(b4 xs).length:=by rcases au6 j (b4 xs).length with h|h;exact h;rw[au0 h]at ad;cases ad);rw[qx Z]at bg;omega|fn f first ox fN hr aj mF _ _ aV acg=>exact .fn f first ox fN hr aj mF aV acg|bm ds vs aj _ aV=>exact .bm ds vs aj aV|a7 k xs i off b o cap _ aV=>exact .a7 k xs i off b o cap aV|box s b off=>exact .box s b off|pT d v _ aV=>exact .pT d v aV|uW d=>exact .uW d|am v=>exact .am v
variable{s:auM}{ao:Value}{b:Nat}{aD:List D}
section pU
theorem bh.fC{k:IntKind}{n:Int}(h:bh w C (.int k n) v):v=.int k n:=by cases h;rfl
theorem bh.hY{b:Bool}(h:bh w C (.bool b) v):v=.bool b:=by cases h;rfl
theorem bh.kS(h:bh w C (.N s) v):v=.string ⟨⟨s⟩⟩:=by cases h;rfl
theorem bh.ach(h:bh w C .undef v):v=Go.undef:=by cases h;rfl
theorem bh.xS(h:bh w C .bd v):v=.slice none 0 0:=by cases h;rfl
theorem bh.gh(h:bh w C (.am ao) v):v=ao:=by cases h;rfl
theorem bh.wy{s off:Nat}(h:bh w C (.box s b off) v):v=.pointer (some ⟨b,off,none⟩):=by cases h;rfl
theorem bh.tw(h:bh w C (.agg aD) v):∃vs,v=.agg ⟨vs⟩/\db w C aD vs:=by cases h with|agg aD vs aj h=>exact⟨vs,rfl,aj,h⟩
theorem bh.aci(h:bh w C (.bm aD) v):∃vs,v=.tuple ⟨vs⟩/\db w C aD vs:=by cases h with|bm aD vs aj h=>exact⟨vs,rfl,aj,h⟩
theorem bh.uX{f:Fn}{first ox:List D}(h:bh w C (.fn f first ox) v):∃fN hr,v=.func f ⟨fN⟩ ⟨hr⟩/\db w C first fN/\db w C ox hr:=by cases h with|fn f first ox fN hr aj mF h bt=>exact⟨fN,hr,rfl,⟨aj,h⟩,⟨mF,bt⟩⟩
end pU
theorem db.ext{w w':World}{C aW:Nat->Nat}(aq:nQ w C w' aW){ds:List D}{vs:List Value}(h:db w C ds vs):db w' aW ds vs :=
 ⟨h.1,λi d v O X=>(h.2 i d v O X).ext aq⟩
def D.jk:D->D
 |.T _ k xs=>.T .none k xs
 |.bd=>.T .none 0 []
 |d=>d
theorem bh.jk{w:World}{C:Nat->Nat}{d:D}{v:Value}(h:bh w C d v):bh w C d.jk v:=by cases h with|bd=>exact .jj .none 0 none trivial|jj t k a ax=>exact .jj .none k a trivial|T t k xs b o cap g ax G hc hm Z da gg en h=>exact .T .none k xs b o cap g trivial G hc hm Z da gg en h|any v=>exact .any v|undef=>exact .undef|bool b=>exact .bool b|int k n=>exact .int k n|N s=>exact .N s|agg aD vs aj h=>exact .agg aD vs aj h|fn f first ox fN hr aj mF h bt=>exact .fn f first ox fN hr aj mF h bt|bm ds vs aj h=>exact .bm ds vs aj h|a7 k xs i off b o cap h=>exact .a7 k xs i off b o cap h|box s b off=>exact .box s b off|pT d v h=>exact .pT d v h|uW d=>exact .uW d|am v=>exact .am v
inductive aJ where
 |box (b:Nat) (aD:List D)
 |own (v:Value) (n k e:Nat)
 |row (v:Value) (xs:List D) (k e:Nat)
 |set (b:Nat) (ae:List auM)
 |cl (b:Nat) (o:Obj)
 |mp (b:Nat) (cE:List (D×D))
 |kT (b:Nat) (e:TypeId) (aD:List D)
abbrev bH:=Nat->Option aJ
def aJ.es:aJ->Nat->Prop
 |.box b _,x=>x=b
 |.own v n _ _,x=>∃o cap,v=.slice (some ⟨x,o,none⟩) n cap/\n<cap
 |.row v _ _ _,x=>∃n cap,v=.slice (some ⟨x,0,none⟩) n cap/\0<cap
 |.set b _,x=>x=b
 |.cl b _,x=>x=b
 |.mp b _,x=>x=b
 |.kT b _ _,x=>x=b
def acj(w:World)(C:Nat->Nat)(v:Value)(n k e:Nat):Prop :=
 ∃a cap,v=.slice a n cap/\n<=cap/\cap<=maxLen/\
  (n<cap->∃b vs,a=some ⟨b,0,none⟩/\w.heap[b]?=some (.cells vs e (0,0))/\vs.size=cap*k/\C b=n*k)
def ks(w:World)(C:Nat->Nat)(v:Value)(xs:List D)(k e:Nat):Prop :=
 ∃a cap,v=.slice a xs.length cap/\xs.length<=cap/\cap<=maxLen/\(∀x∈xs,x.cells.length=k)/\(∀dT,a=some dT->∃b,dT=⟨b,0,none⟩/\b<w.heap.size)/\
  (0<cap->∃b vs,a=some ⟨b,0,none⟩/\w.heap[b]?=some (.cells vs e (0,0))/\vs.size=cap*k/\C b=0/\
   ∀(j:Nat) d,(b4 xs)[j]?=some d->∃ao,vs[j]?=some ao/\bh w C d ao/\ao.oneCell'=true)
def DF(w:World)(C:Nat->Nat)(b:Nat)(ae:List auM):Prop :=
 ∃eN iX,w.heap[b]?=some (.map eN iX)/\C b=0/\(∀x∈eN.toList,(∃s,x.key=.string ⟨⟨s⟩⟩)/\x.val=.bool true)/\
  ∀s:auM,s∈ae↔∃x∈eN.toList,x.key=.string ⟨⟨s⟩⟩
def mG:D->Option Value
 |.N s=>some (.string ⟨⟨s⟩⟩)
 |.int k n=>some (.int k n)
 |.bool b=>some (.bool b)
 |_=>none
def Bi(w:World)(C:Nat->Nat)(b:Nat)(cE:List (D×D)):Prop :=
 ∃eN iX,w.heap[b]?=some (.map eN iX)/\C b=0/\eN.size=cE.length/\(∀(i j:Nat) k bE d d',cE[i]?=some (k,d)->cE[j]?=some (bE,d')->mG k=mG bE->i=j)/\
  ∀(i:Nat) k d e,cE[i]?=some (k,d)->eN[i]?=some e->mG k=some e.key/\bh w C d e.val
def tx(w:World)(C:Nat->Nat):aJ->Prop
 |.box b aD=>∃vs e,w.heap[b]?=some (.cells ⟨vs⟩ e (0,0))/\db w C aD vs/\C b=0
 |.own v n k e=>acj w C v n k e
 |.row v xs k e=>ks w C v xs k e
 |.set b ae=>DF w C b ae
 |.cl b o=>w.heap[b]?=some o/\C b=0
 |.mp b cE=>Bi w C b cE
 |.kT b e aD=>∃vs,w.heap[b]?=some (.cells ⟨vs⟩ e (0,0))/\db w C aD vs/\C b=0
structure mc (Ft:Nat->Prop) (w:World) (C:Nat->Nat) (H:bH):Prop where
 cl:∀s o,H s=some o->tx w C o
 inj:∀s bp o bN b,s≠bp->H s=some o->H bp=some bN->o.es b->¬bN.es b
 cQ:∀s o b,H s=some o->o.es b->Ft b
structure de (Ft:Nat->Prop) (w:World) (C:Nat->Nat) (w':World) (aW:Nat->Nat):Prop where
 ext:nQ w C w' aW
 os:w'.os=w.os
 tape:w'.tape=w.tape
 output:w'.output=w.output
 iB:∀b,b<w.heap.size->¬Ft b->w'.heap[b]?=w.heap[b]?/\aW b=C b
theorem de.refl(Ft:Nat->Prop)(w:World)(C:Nat->Nat):de Ft w C w C:=⟨.refl w C,rfl,rfl,rfl,λ_ _ _=>⟨rfl,rfl⟩⟩
theorem de.trans{Ft R6:Nat->Prop}{w w' rz:World}{C aW lT:Nat->Nat}(h:de Ft w C w' aW)(bt:de R6 w' aW rz lT)
  (hs:∀b,b<w.heap.size->R6 b->Ft b):de Ft w C rz lT :=
 ⟨h.ext.trans bt.ext,bt.os.trans h.os,bt.tape.trans h.tape,bt.output.trans h.output,λb G ar=>by
  have h1:=h.iB b G ar;have A:=bt.iB b (avx G h.ext.size) (λM=>ar (hs b G M))
  exact⟨A.1.trans h1.1,A.2.trans h1.2⟩⟩
def pV(B w:World):Prop:=Below B.heap.size B w
variable{B:World}{Ft:Nat->Prop}
theorem pV.step(h:pV B w)(hs:de Ft w C w' aW)(bK:∀b,Ft b->B.heap.size<=b):pV B w' :=
 ⟨hs.os.trans h.os,hs.tape.trans h.tape,hs.output.trans h.output,av6 h.size hs.ext.size,λk Z=>by
  have h1:=(hs.iB k (avx Z h.size) (λM=>by have:=bK k M;omega)).1
  rw[h1];exact h.block k Z⟩
def Bj(P : Program)(f : FuncId): Prop := ∃fn,P.funcs[f]?=some fn/\fn.body.isSome = true/\(fn.name == "runtime.NumGoroutine") = false
def c8(P:Program)(B:World)(f:FuncId)(La:List D)(H:bH)(a6:D->bH->Prop):Prop :=
 Bj P f/\∀(w:World) (C:Nat->Nat) (args:List Value) (Ft:Nat->Prop),pV B w->(∀b,Ft b->B.heap.size<=b)->mc Ft w C H->db w C La args->
  Calls P f ⟨args⟩ w λe w'=>∃v d aW aO,e=.returned v/\a6 d aO/\bh w' aW d v/\de Ft w C w' aW/\
   mc (λb=>Ft b\/w.heap.size<=b) w' aW aO
def bH.none:bH:=λ_=>Option.none
def mH(P:Program)(B:World)(f:FuncId)(La:List D)(d:D):Prop :=
 Bj P f/\∀(w:World) (C:Nat->Nat) (args:List Value),pV B w->db w C La args->
  Calls P f ⟨args⟩ w λe w'=>∃v aW,e=.returned v/\bh w' aW d v/\de (λ_=>False) w C w' aW
theorem mc.none(Ft:Nat->Prop)(w:World)(C:Nat->Nat):mc Ft w C bH.none :=
 ⟨λ_ _ h=>(by cases h),λ_ _ _ _ _ _ h=>(by cases h),λ_ _ _ h=>(by cases h)⟩
structure b5 (P:Program) (B:World) (al:Nat) where
 w0:World
 C0:Nat->Nat
 Ft:Nat->Prop
 base:pV B w0
 low:∀b,Ft b->B.heap.size<=b
variable{P:Program}{al:Nat}
structure av where
 t:Nat->D
 H:bH
def b5.pW(W:b5 P B al)(b:Nat):Prop:=W.Ft b\/W.w0.heap.size<=b
structure bI (W:b5 P B al) (w:World) (C:Nat->Nat) (z:av) (a:Act):Prop where
 tmps:∀i,bh w C (z.t i) (a.tmps.getD i undef)
 heap:mc W.pW w C z.H
 size:a.tmps.size=al
 defers:a.defers=[]
 step:de W.Ft W.w0 W.C0 w C
theorem b5.DG(W:b5 P B al)(h:W.pW b):B.heap.size<=b:=by rcases h with h|h;exact W.low b h;exact av6 W.base.size h
theorem bI.base{W:b5 P B al}{w:World}{C:Nat->Nat}{z:av}{a:Act}(h:bI W w C z a):pV B w:=W.base.step h.step W.low
inductive cM where
 |normal
 |exit (id:Nat)
 |ret
def cM.ga:cM->Exit
 |.normal=>.normal
 |.exit id=>.exit id
 |.ret=>.ret
structure Y (W:b5 P B al) (c:Code) (z:av) (K:cM->av->Prop):Prop where
 run:∀(a:Act) (w:World) (C:Nat->Nat),bI W w C z a->
  c.wp P (λe bv w'=>∃c9 aA aW,e=cM.ga c9/\K c9 aA/\bI W w' aW aA bv) a w
variable{c:Code}{d':D}{a:Act}{hs:List (Nat×aJ)}
section ack
variable{W:b5 P B al}{z:av}{K:cM->av->Prop}
theorem Y.mono{sA:cM->av->Prop}(h:Y W c z K)(Z:∀e z,K e z->sA e z):Y W c z sA :=
 ⟨λa w C M=>wp_mono (h.run a w C M) λ_ _ _ ⟨c9,aA,aW,aq,hK,bK⟩=>⟨c9,aA,aW,aq,Z _ _ hK,bK⟩⟩
theorem Y.skip(h:K .normal z):Y W .skip z K:=⟨λ_ _ C M=>wp_skip ⟨.normal,z,C,rfl,h,M⟩⟩
theorem Y.ret(h:K .ret z):Y W .ret z K:=⟨λ_ _ C M=>wp_ret ⟨.ret,z,C,rfl,h,M⟩⟩
theorem Y.exit{id:Nat}(h:K (.exit id) z):Y W (.exit id) z K:=⟨λ_ _ C M=>wp_exit ⟨.exit id,z,C,rfl,h,M⟩⟩
def zm(W:b5 P B al)(b:Code)(K:cM->av->Prop):cM->av->Prop
 |.normal,z=>Y W b z K
 |.exit id,z=>K (.exit id) z
 |.ret,z=>K .ret z
theorem Y.seq{a b:Code}(h:Y W a z (zm W b K)):Y W (.seq a b) z K :=
 ⟨λwz w C M=>wp_seq (wp_mono (h.run wz w C M) λe bv w' ⟨c9,aA,aW,aq,hK,bK⟩=>by
  subst aq
  cases c9 with
  |normal=>exact hK.run bv w' aW bK
  |exit id=>exact⟨.exit id,aA,aW,rfl,hK,bK⟩
  |ret=>exact⟨.ret,aA,aW,rfl,hK,bK⟩)⟩
def G7(id:Nat)(K:cM->av->Prop):cM->av->Prop
 |.normal,z=>K .normal z
 |.exit zn,z=>cond (Nat.beq zn id) (K .normal z) (K (.exit zn) z)
 |.ret,z=>K .ret z
theorem Y.block{id:Nat}{c:Code}(h:Y W c z (G7 id K)):Y W (.block id c) z K :=
 ⟨λwz w C M=>wp_block (wp_mono (h.run wz w C M) λe bv w' ⟨c9,aA,aW,aq,hK,bK⟩=>by
  subst aq
  cases c9 with
  |normal=>exact⟨.normal,aA,aW,rfl,hK,bK⟩
  |exit zn =>
   simp only[cM.ga,Exit.inBlock];by_cases gb:zn=id
   ·subst gb;rw[auO rfl];refine⟨.normal,aA,aW,rfl,?_,bK⟩;simpa[G7]using hK
   rw[auN gb];refine⟨.exit zn,aA,aW,rfl,?_,bK⟩
   have:Nat.beq zn id=false:=by
    cases G:Nat.beq zn id with
    |false=>rfl
    |true=>exact absurd (awI G) gb
   simpa[G7,this]using hK
  |ret=>exact⟨.ret,aA,aW,rfl,hK,bK⟩)⟩
structure ap (d d':D):Prop where
 le:∀w C v,bh w C d v->bh w C d' v
theorem ap.refl(d:D):ap d d:=⟨λ_ _ _ h=>h⟩
theorem ap.of_eq(h:d=d'):ap d d':=h ▸ ap.refl d
theorem ap.any(d:D):ap d .any:=⟨λ_ _ v _=>.any v⟩
theorem ap.jk(d:D):ap d d.jk:=⟨λ_ _ _ h=>h.jk⟩
def aM{α:Type}:List (Nat×α)->Nat->Option α
 |[],_=>none
 |(i,d)::r,j=>cond (Nat.beq j i) (some d) (aM r j)
def ht(l:List (Nat×D))(hs:List (Nat×aJ)):av:={t:=λj=>(aM l j).getD .any,H:=aM hs}
def jD(z:av):List (Nat×D)->Prop
 |[]=>True
 |(i,d)::r=>ap (z.t i) d/\jD z r
def mI(z:av):List (Nat×aJ)->Prop
 |[]=>True
 |(s,o)::r=>z.H s=some o/\mI z r
theorem avb{a:Nat}(h:Nat.beq a b=true):a=b:=awI h
theorem jD.aM{z:av}:∀{l:List (Nat×D)},jD z l->∀j,ap (z.t j) ((aM l j).getD .any)
 |[],_,j=>by simpa[Go.bV.aM]using ap.any _
 |(i,d)::r,h,j=>by simp only[Go.bV.aM];cases G:Nat.beq j i with|true=>have:=avb G;subst this;simpa using h.1|false=>simpa using jD.aM h.2 j
theorem mI.aM{z:av}:∀{l:List (Nat×aJ)},mI z l->∀s o,aM l s=some o->z.H s=some o
 |[],_,s,o,h=>by simp[Go.bV.aM]at h
 |(i,d)::r,hs,s,o,h=>by simp only[Go.bV.aM]at h;cases G:Nat.beq s i with|true=>have:=avb G;subst this;rw[G]at h;simp at h;subst h;exact hs.1|false=>rw[G]at h;exact mI.aM hs.2 s o (by simpa using h)
theorem bI.G8{l:List (Nat×D)}(h:bI W w C z a)(h1:jD z l)(A:mI z hs):
  bI W w C (ht l hs) a :=
 ⟨λi=>(h1.aM i).le _ _ _ (h.tmps i),
  ⟨λs o ag=>h.heap.cl s o (A.aM s o ag),λs bp o bN b ar aa aF=>h.heap.inj s bp o bN b ar (A.aM s o aa) (A.aM bp bN aF),
   λs o b ag=>h.heap.cQ s o b (A.aM s o ag)⟩,h.size,h.defers,h.step⟩
theorem Y.loop{c:Code}{α:Type}(l:α->List (Nat×D))(hs:α->List (Nat×aJ))(fD:α->Nat)(eI:α)(h1:jD z (l eI))(A:mI z (hs eI))
  (round:∀x,Y W c (ht (l x) (hs x)) λe aA=>match e with
   |.normal=>∃bw,fD bw<fD x/\jD aA (l bw)/\mI aA (hs bw)|.exit id=>K (.exit id) aA|.ret=>K .ret aA):Y W (.loop c) z K :=
 ⟨λa w C M=>by
  have o9:=M.G8 h1 A;intro b k aD
  have key:∀n x,fD x=n->∀a w C,bI W w C (ht (l x) (hs x)) a->
    ∃e bv w',(∃c9 aA aW,e=cM.ga c9/\K c9 aA/\bI W w' aW aA bv)/\Arrives P (lone (b.at a (.code c::.inLoop c::k)) aD w) b k aD e bv w':=by
   intro n
   induction n using Nat.strongRecOn with
   |_ n aV =>
    intro x ar a w C M;obtain⟨e,ty,tz,⟨c9,xT,tA,aq,hK,bK⟩,oy⟩:=(round x).run a w C M b (.inLoop c::k) aD;subst aq
    cases c9 with
    |normal =>
     obtain⟨bw,bg,aa,aF⟩:=hK;obtain⟨DH,a₂,DI,DJ,DK⟩:=aV (fD bw) (ar ▸ bg) bw rfl ty tz tA (bK.G8 aa aF);exact⟨DH,a₂,DI,DJ,.of_steps (Steps.trans oy (.one step_inLoop)) DK⟩
    |exit id=>exact⟨_,ty,tz,⟨.exit id,xT,tA,rfl,hK,bK⟩,.pass (x:=.inLoop c) rfl (λ_ _=>.inl (by simp[cM.ga])) oy⟩
    |ret=>exact⟨_,ty,tz,⟨.ret,xT,tA,rfl,hK,bK⟩,.pass (x:=.inLoop c) rfl (λ_ _=>.inl (by simp[cM.ga])) oy⟩
  obtain⟨e,bv,w',I,oy⟩:=key _ eI rfl a w C o9
  exact⟨e,bv,w',I,.of_steps (.one step_loop) oy⟩⟩
end ack
inductive rA where
 |int (k:IntKind)
 |bool
 |N
 |slice (e:Nat)
 |struct
 |array (n e:Nat)
 |DL
structure bC where
 t:Nat
 agg:Bool
 aB:Nat
 bytes:Nat
 kind:rA
 o_:List (Nat×Nat×Bool)
 zero:Option (List D)
 uY:List rA:=[]
def dC:List bC->Nat->Option bC
 |[],_=>none
 |e::r,t=>cond (Nat.beq e.t t) (some e) (dC r t)
def pX:IntKind->IntKind->Bool
 |.i8,.i8|.i16,.i16|.i32,.i32|.i64,.i64|.u8,.u8|.u16,.u16|.u32,.u32|.u64,.u64=>true
 |_,_=>false
def R7:Value->D
 |.bool b=>.bool b
 |.int k n=>.int k n
 |.string s=>.N s.data.toList
 |.slice none 0 0=>.bd
 |v=>.am v
def av.bb(z:av):Operand->D
 |.tmp t=>z.t t
 |.const v=>R7 v
 |.global g=>.am (.pointer (some ⟨g,0,none⟩))
 |.func f=>.fn (.func f) [] []
def av.put(z:av)(dst:Option Tmp)(d:D):av :=
 match dst with
 |some t=>{t:=λj=>cond (Nat.beq j t) d (z.t j),H:=z.H}
 |none=>z
def av.b_(z:av)(s:Nat)(o:Option aJ):av:={t:=z.t,H:=λj=>cond (Nat.beq j s) o (z.H j)}
def iY(al:Nat):Option Tmp->Bool
 |some d=>Nat.blt d al
 |none=>true
def DM(d:D)(k:D->Prop):Prop :=
 match d with
 |.any=>k .any
 |.undef=>k .undef
 |.bool b=>k (.bool b)
 |.int q n=>k (.int q n)
 |.N s=>k (.N s)
 |.agg aD=>k (.agg aD)
 |.bd=>k .bd
 |.T t q xs=>k (.T t q xs)
 |.fn f a b=>k (.fn f a b)
 |.bm ds=>k (.bm ds)
 |.a7 q xs i o=>k (.a7 q xs i o)
 |.box s b o=>k (.box s b o)
 |.mb g d=>k (.mb g d)
 |.am v=>k (.am v)
theorem zo(d:D)(k:D->Prop):DM d k↔k d:=by cases d<;>rfl
def opn(h:Bool)(d:D)(k:D->Prop):Prop :=
 match d with
 |.mb g d'=>(h=true->g=true)/\DM d' k
 |d=>DM d k
def dz:IntKind->Int->Prop
 |.i8,n=>-128<=n/\n<=127
 |.i16,n=>-32768<=n/\n<=32767
 |.i32,n=>-2147483648<=n/\n<=2147483647
 |.i64,n=>-9223372036854775808<=n/\n<=9223372036854775807
 |.u8,n=>0<=n/\n<=255
 |.u16,n=>0<=n/\n<=65535
 |.u32,n=>0<=n/\n<=4294967295
 |.u64,n=>0<=n/\n<=18446744073709551615
def arith(h:Bool)(k:IntKind)(n:Int)(K:D->Prop):Prop:=((h=true->dz k n)/\K (.int k n))\/K (.int k (k.wrap n))
def qy(op:BinOp)(k:IntKind)(x y:Int):Int :=
 match op with
 |.and=>k.wrap (BitVec.ofInt k.bits x &&& BitVec.ofInt k.bits y).toNat
 |.or=>k.wrap (BitVec.ofInt k.bits x ||| BitVec.ofInt k.bits y).toNat
 |.xor=>k.wrap (BitVec.ofInt k.bits x ^^^ BitVec.ofInt k.bits y).toNat
 |_=>k.wrap (BitVec.ofInt k.bits x &&& ~~~BitVec.ofInt k.bits y).toNat
def DN(h:Bool)(op:BinOp)(k bE:IntKind)(a b:Int)(K:D->Prop):Prop :=
 match op with
 |.shl=>(h=true->0<=b)/\K (.int k (k.wrap (a*2 ^ min b.toNat k.bits)))
 |.shr=>(h=true->0<=b)/\K (.int k (a.fdiv (2 ^ min b.toNat k.bits)))
 |.add=>cond (pX k bE) (arith h k (a+b) K) False
 |.sub=>cond (pX k bE) (arith h k (a-b) K) False
 |.mul=>cond (pX k bE) (arith h k (a*b) K) False
 |.quo=>cond (pX k bE) ((h=true->b≠0)/\arith h k (a.tdiv b) K) False
 |.rem=>cond (pX k bE) ((h=true->b≠0)/\K (.int k (a.tmod b))) False
 |.and|.or|.xor|.andNot=>cond (pX k bE) (K (.int k (qy op k a b))) False
 |.eql=>cond (pX k bE) (K (.bool (a==b))) False
 |.neq=>cond (pX k bE) (K (.bool (a !=b))) False
 |.lss=>cond (pX k bE) (K (.bool (decide (a<b)))) False
 |.leq=>cond (pX k bE) (K (.bool (decide (a<=b)))) False
 |.gtr=>cond (pX k bE) (K (.bool (decide (b<a)))) False
 |.geq=>cond (pX k bE) (K (.bool (decide (b<=a)))) False
def Lb(h:Bool)(op:BinOp)(a b:auM)(K:D->Prop):Prop :=
 match op with
 |.add=>(h=true->(a.length:Int)+b.length<=9223372036854775807)/\K (.N (a++b))
 |.eql=>K (.bool (a==b))
 |.neq=>K (.bool (!(a==b)))
 |.lss=>K (.bool (Op.bytesLess a b))
 |.leq=>K (.bool (Op.bytesLess a b||a==b))
 |.gtr=>K (.bool (!(Op.bytesLess a b||a==b)))
 |.geq=>K (.bool (!Op.bytesLess a b))
 |_=>False
def R8(k:rA)(x y:D)(K:Bool->Prop):Prop :=
 match k,x,y with
 |.int _,.int k a,.int bE b=>cond (pX k bE) (K (a==b)) False
 |.N,.N a,.N b=>K (a==b)
 |.bool,.bool a,.bool b=>K (a==b)
 |_,_,_=>False
def Bk:List rA->List D->List D->(Bool->Prop)->Prop
 |[],[],[],K=>K true
 |k::ae,x::xs,y::bl,K=>R8 k x y λb=>Bk ae xs bl λc=>K (b&&c)
 |_,_,_,_=>False
def R9:rA->Bool
 |.bool=>true
 |_=>false
def G9:rA->Bool
 |.struct=>true
 |_=>false
def Lc(ay:List bC)(h:Bool)(op:BinOp)(t:Nat)(x y:D)(K:D->Prop):Prop :=
 match x,y with
 |.int k a,.int bE b=>DN h op k bE a b K
 |.N a,.N b=>Lb h op a b K
 |.bool a,.bool b =>
  match dC ay t with
  |none=>False
  |some e=>cond (R9 e.kind) (match op with
   |.eql=>K (.bool (a==b))
   |.neq=>K (.bool (!(a==b)))
   |_=>False) False
 |.agg xs,.agg bl =>
  match dC ay t with
  |some e =>
   match op with
   |.eql=>cond (G9 e.kind&&!e.uY.isEmpty) (Bk e.uY xs bl λb=>K (.bool b)) False
   |.neq=>cond (G9 e.kind&&!e.uY.isEmpty) (Bk e.uY xs bl λb=>K (.bool (!b))) False
   |_=>False
  |none=>False
 |_,_=>False
def DO(e:bC)(off:Nat)(aD:List D)(K:D->Prop):Prop :=
 match e.agg with
 |true=>cond (Nat.beq off 0&&Nat.beq e.aB aD.length) (K (.agg aD)) (cond (Nat.ble (off+e.aB) aD.length) (K (.agg ((aD.drop off).take e.aB))) False)
 |false=>match aD[off]? with
  |some d=>K d
  |none=>False
def DP(e:bC)(k off:Nat)(x:D)(K:D->Prop):Prop :=
 match x with
 |.agg aD=>match e.agg with
  |true=>cond (Nat.beq off 0&&Nat.beq e.aB k) (K x) (cond (Nat.ble (off+e.aB) aD.length) (K (.agg ((aD.drop off).take e.aB))) False)
  |false=>match aD[off]? with
   |some d=>K d
   |none=>False
 |_=>cond (Nat.beq off 0&&!e.agg) (K x) False
def zp(ay:List bC)(z:av)(h:Bool)(t:Nat)(x:D)(K:D->Prop):Prop :=
 match dC ay t with
 |none=>False
 |some e=>match x with
  |.a7 k xs i off=>∃y,(h=true->xs[i]?=some y)/\DP e k off y K
  |.box s b off=>match z.H s with
   |some (.box ey aD)=>b=ey/\DO e off aD K
   |_=>False
  |_=>False
def Ld(ay:List bC)(t:Nat)(x:D)(f:Nat)(K:D->Prop):Prop :=
 match dC ay t with
 |none=>False
 |some e=>match e.kind,e.o_[f]? with
  |.struct,some (o,aB,_)=>cond (Nat.beq aB 0) False (match x with
   |.a7 k xs i off=>K (.a7 k xs i (off+o))
   |.box s b off=>K (.box s b (off+o))
   |_=>False)
  |_,_=>False
def Le(ay:List bC)(t:Nat)(x:D)(f:Nat)(K:D->Prop):Prop :=
 match dC ay t with
 |none=>False
 |some e=>match e.kind,e.o_[f]? with
  |.struct,some (o,aB,me)=>match x with
   |.agg aD=>match me with
    |true=>cond (Nat.ble (o+aB) aD.length) (K (.agg ((aD.drop o).take aB))) False
    |false=>match aD[o]? with
     |some d=>K d
     |none=>False
   |_=>False
  |_,_=>False
def Lf(ay:List bC)(h:Bool)(t:Nat)(x eO:D)(K:D->Prop):Prop :=
 match dC ay t with
 |none=>False
 |some e=>match e.kind with
  |.slice bJ=>match dC ay bJ with
   |none=>False
   |some aH=>match x,eO with
    |.T _ k xs,.int _ i=>cond (Nat.beq k aH.aB) ((h=true->0<=i/\i<(xs.length:Int))/\K (.a7 k xs i.toNat 0)) False
    |_,_=>False
  |_=>False
def Lg(ay:List bC)(h:Bool)(t:Nat)(x eO:D)(K:D->Prop):Prop :=
 match dC ay t with
 |none=>False
 |some e=>match e.kind with
  |.N=>match x,eO with
   |.N s,.int _ i=>∃c:UInt8,(h=true->0<=i/\s[i.toNat]?=some c)/\K (.int .u8 c.toNat)
   |_,_=>False
  |_=>False
def G_(h:Bool)(z:av)(x:Option Operand)(k:Int->Prop):Prop :=
 match x with
 |none=>k 0
 |some x=>opn h (z.bb x) λd=>match d with|.int _ i=>k i|_=>False
def G'(h:Bool)(z:av)(x:Option Operand)(n:Int)(k:Int->Prop):Prop :=
 match x with
 |none=>k n
 |some x=>opn h (z.bb x) λd=>match d with|.int _ i=>k i|_=>False
def Lh(ay:List bC)(h:Bool)(z:av)(t:Nat)(x:D)(ll hi tB:Option Operand)(K:D->Prop):Prop :=
 match dC ay t with
 |none=>False
 |some e=>match e.kind with
  |.N=>match x with
   |.N s=>G_ h z ll λl=>G' h z hi s.length λr=>match tB with
    |none=>(h=true->0<=l/\l<=r/\r<=(s.length:Int))/\K (.N ((s.take r.toNat).drop l.toNat))
    |some _=>False
   |_=>False
  |.slice bJ=>match dC ay bJ with
   |none=>False
   |some aH=>match x with
    |.T _ k xs=>cond (Nat.beq k aH.aB) (G_ h z ll λl=>G' h z hi xs.length λr=>match tB with
     |none=>(h=true->0<=l/\l<=r/\r<=(xs.length:Int))/\K (.T .none k ((xs.take r.toNat).drop l.toNat))
     |some m=>cond hi.isSome (opn h (z.bb m) λd=>match d with
      |.int _ m=>(h=true->m=r/\0<=l/\l<=r/\r<=(xs.length:Int))/\K (.T .dZ k ((xs.take r.toNat).drop l.toNat))
      |_=>False) False) False
    |_=>False
  |_=>False
def zq(h:Bool)(z:av):List Operand->(List D->Prop)->Prop
 |[],k=>k []
 |x::r,k=>opn h (z.bb x) λd=>zq h z r λds=>k (d::ds)
def sB(aD:List D)(off:Nat)(ds:List D):List D:=aD.take off++ds++aD.drop (off+ds.length)
def iD:List D->Nat->D->List D
 |[],_,_=>[]
 |_::r,0,d=>d::r
 |c::r,n+1,d=>c::iD r n d
def D.one:D->Bool
 |.bool _|.int ..|.N _|.bd|.T ..|.fn ..|.a7 ..|.box ..=>true
 |.am v=>v.oneCell'
 |_=>false
def Bl(e:bC)(off:Nat)(aD:List D)(x:D)(K:List D->Prop):Prop :=
 match e.agg with
 |true=>match x with
  |.agg ds=>cond (Nat.beq ds.length e.aB&&Nat.ble (off+ds.length) aD.length&&ds.all D.one) (K (sB aD off ds)) False
  |_=>False
 |false=>cond (Nat.blt off aD.length&&x.one&&Nat.beq e.aB 1) (K (iD aD off x)) False
def zr(o_:List (Nat×Nat×Bool))(aD:List D):List (Nat×D)->(List D->Prop)->Prop
 |[],K=>K aD
 |(i,d)::r,K=>match o_[i]? with
  |none=>False
  |some (o,aB,me)=>match me with
   |true=>match d with
    |.agg ds=>cond (Nat.beq ds.length aB&&Nat.ble (o+aB) aD.length) (zr o_ (sB aD o ds) r K) False
    |_=>False
   |false=>cond (Nat.blt o aD.length&&d.one&&Nat.beq aB 1) (zr o_ (iD aD o d) r K) False
def zt(h:Bool)(z:av):List (Nat×Operand)->(List (Nat×D)->Prop)->Prop
 |[],k=>k []
 |(i,x)::r,k=>opn h (z.bb x) λd=>zt h z r λds=>k ((i,d.jk)::ds)
def tC(k:Nat):Nat->List (Nat×D)->Prop
 |_,[]=>True
 |n,(i,d)::r=>cond (Nat.beq i n&&(match d with|.agg ds=>Nat.beq ds.length k&&ds.all D.one|d=>d.one&&Nat.beq k 1)) (tC k (n+1) r) False
def dO:List D->List D->Prop
 |[],[]=>True
 |a::r,b::s=>ap a b/\dO r s
 |_,_=>False
def sC(s:ByteArray):Nat->Nat->List Int
 |0,_=>[]
 |f+1,i=>if i<s.size then Int.ofNat (Utf8.decode s i).1::sC s f (i+(Utf8.decode s i).2)else[]
def ie(s:auM):List Int:=sC ⟨⟨s⟩⟩ s.length 0
def cy(zs:List Int):auM:=zs.flatMap λn=>(Utf8.encode n).data.toList
def Ha:rA->Bool
 |.int .i32=>true
 |_=>false
def Li(ay:List bC)(oz dst:Nat)(x:D)(K:D->Prop):Prop :=
 match dC ay oz,dC ay dst with
 |some a,some b=>match a.kind,b.kind,x with
  |.int _,.int k,.int _ n=>((dz k n)/\K (.int k n))\/K (.int k (k.wrap n))
  |.N,.N,.N s=>K (.N s)
  |.int _,.N,.int _ n=>K (.N (Utf8.encode n).data.toList)
  |.N,.slice bJ,.N s=>match dC ay bJ with
   |some aH=>cond (Ha aH.kind&&Nat.beq aH.aB 1) (s.length<=70368744177664/\K (.T .none 1 ((ie s).map (D.int .i32)))) False
   |none=>False
  |.slice bJ,.N,.T _ k xs=>match dC ay bJ with
   |some aH=>cond (Ha aH.kind&&Nat.beq k 1) (∃zs:List Int,xs=zs.map (D.int .i32)/\K (.N (cy zs))) False
   |none=>False
  |_,_,_=>False
 |_,_=>False
def pY(P:Program)(B:World)(ay:List bC)(z:av)(h:Bool)(o:Op)(K:D->Prop):Prop :=
 match o with
 |.move x|.assign x=>opn h (z.bb x) K
 |.pick c a b=>opn h (z.bb c) λc=>match c with
  |.bool g=>match z.bb a,z.bb b with
   |.bool x,.bool y=>K (.bool (bif g then x else y))
   |.bool x,.mb zu (.bool y)=>(h=true->g=false->zu=true)/\K (.bool (bif g then x else y))
   |.mb zu (.bool x),.bool y=>(h=true->g=true->zu=true)/\K (.bool (bif g then x else y))
   |_,_=>False
  |_=>False
 |.binOp op t x y _=>opn h (z.bb x) λx=>opn h (z.bb y) λy=>Lc ay h op t x y K
 |.unOp op _ x=>opn h (z.bb x) λx=>match op,x with
  |.not,.bool b=>K (.bool (!b))
  |.neg,.int k n=>arith h k (0-n) K
  |_,_=>False
 |.load t x=>opn h (z.bb x) λx=>zp ay z h t x K
 |.fieldAddr t x f=>opn h (z.bb x) λx=>Ld ay t x f K
 |.field t x f=>opn h (z.bb x) λx=>Le ay t x f K
 |.indexAddr t x eO=>opn h (z.bb x) λx=>opn h (z.bb eO) λeO=>Lf ay h t x eO K
 |.index t x eO=>opn h (z.bb x) λx=>opn h (z.bb eO) λeO=>Lg ay h t x eO K
 |.slice t x ll hi tB=>opn h (z.bb x) λx=>Lh ay h z t x ll hi tB K
 |.convert oz dst x=>opn h (z.bb x) λx=>Li ay oz dst x K
 |.build t bP=>match dC ay t with
  |some e=>match e.zero,e.kind with
   |some Q,.struct=>zt h z bP.toList λds=>zr e.o_ Q ds λaD=>K (.agg aD)
   |_,_=>False
  |none=>False
 |.buildSlice t n bP=>match dC ay t with
  |some e=>match e.kind with
   |.slice bJ=>match dC ay bJ with
    |some aH=>zt h z bP.toList λds=>cond (Nat.beq ds.length n&&Nat.ble (n*aH.aB) 16777216&&Nat.blt 0 aH.aB&&aH.zero.isSome) (tC aH.aB 0 ds/\K (.T .dZ aH.aB (ds.map (·.2)))) False
    |none=>False
   |_=>False
  |none=>False
 |.makeFunc f first ox=>zq h z first.toList λb'=>zq h z ox.toList λaD=>K (.fn f b' aD)
 |.extract x i=>opn h (z.bb x) λx=>match x with
  |.bm ds=>match ds[i]? with
   |some d=>K d
   |none=>False
  |_=>False
 |.call c=>match c.callee,c.args.toList with
  |.builtin .len,[x]=>opn h (z.bb x) λx=>match c.argTypes.toList with
   |[t]=>match dC ay t with
    |some e=>match e.kind,x with
     |.N,.N s=>K (.int .i64 s.length)
     |.slice _,.T _ _ xs=>K (.int .i64 xs.length)
     |.slice _,.bd=>K (.int .i64 0)
     |.slice _,.am (.slice _ n _)=>K (.int .i64 (n:Nat))
     |_,_=>False
    |none=>False
   |_=>False
  |.builtin .max,[x,y]=>opn h (z.bb x) λx=>opn h (z.bb y) λy=>match x,y with
   |.int k a,.int _ b=>K (.int k (if b>a then b else a))
   |_,_=>False
  |.builtin .min,[x,y]=>opn h (z.bb x) λx=>opn h (z.bb y) λy=>match x,y with
   |.int k a,.int _ b=>K (.int k (if b<a then b else a))
   |_,_=>False
  |.value f,args=>opn h (z.bb f) λf=>match f with
   |.fn (.func b6) first cs=>zq h z args λwA=>∃g8 d,(h=true->mH P B b6 g8 d)/\dO (first++wA++cs) g8/\K d
   |_=>False
  |_,_=>False
 |.nilCheck x=>opn h (z.bb x) λx=>match x with
  |.box s b o=>K (.box s b o)
  |.a7 k xs i o=>K (.a7 k xs i o)
  |_=>False
 |_=>False
def Op.Bm:Op->Bool
 |.move _|.assign _|.pick ..|.binOp ..|.unOp ..|.load ..|.fieldAddr ..|.field ..|.indexAddr ..|.index ..|.slice ..|.convert ..|.build ..|.buildSlice ..
 |.makeFunc ..|.extract ..|.nilCheck _=>true
 |.call c=>match c.callee with
  |.builtin .len|.builtin .max|.builtin .min|.value _=>true
  |_=>false
 |_=>false
def R_(ay:List bC)(z:av)(dst:Nat)(t:Nat)(s x:D)(K:av->Prop):Prop :=
 match dC ay t with
 |none=>False
 |some e=>match e.kind with
  |.slice bJ=>match dC ay bJ with
   |none=>False
   |some aH =>
    let go (z:av) (xs:List D):Prop:=match x with
     |.T _ bE bl=>cond (Nat.beq bE aH.aB&&Nat.blt 0 aH.aB) ((xs.length+bl.length)*aH.bytes<=140737488355328/\xs.length+bl.length<=9223372036854775807/\aH.zero≠none/\
       ∀v:Value,K ((z.b_ dst (some (.own v (xs.length+bl.length) aH.aB bJ))).put (some dst) (.T (.own dst v) aH.aB (xs++bl)))) False
     |_=>False
    match s with
    |.bd=>go z []
    |.T .dZ k xs=>cond (Nat.beq k aH.aB) (go z xs) False
    |.T (.own q v) k xs=>match z.H q with
     |some (.own c' dK bE nR)=>cond (Nat.beq k aH.aB&&Nat.beq bE aH.aB&&Nat.beq nR bJ) (v=c'/\dK=xs.length/\go (z.b_ q none) xs) False
     |_=>False
    |_=>False
  |_=>False
def nS(P:Program)(B:World)(ay:List bC)(z:av)(dst:Option Tmp)(op:Op)(K:av->Prop):Prop :=
 match op with
 |.move x|.assign x=>DM (z.bb x) λd=>K (z.put dst d)
 |.alloc e=>match dC ay e,dst with
  |some ce,some s=>match ce.zero with
   |some Q=>∀b:Nat,K ((z.b_ s (some (.box b Q))).put (some s) (.box s b 0))
   |none=>False
  |_,_=>False
 |.box e x=>match dC ay e,dst with
  |some ce,some s=>match ce.agg with
   |true=>match z.bb x with
    |.agg aD=>∀b:Nat,K ((z.b_ s (some (.box b aD))).put (some s) (.box s b 0))
    |_=>False
   |false=>cond (z.bb x).one (∀b:Nat,K ((z.b_ s (some (.box b [z.bb x]))).put (some s) (.box s b 0))) False
  |_,_=>False
 |.store t a x=>match dC ay t,z.bb a with
  |some e,.box s b off=>match z.H s with
   |some (.box ey aD)=>b=ey/\Bl e off aD (z.bb x) λdA=>K ((z.b_ s (some (.box b dA))).put dst .undef)
   |_=>False
  |_,_=>False
 |.call c=>match c.callee,c.args.toList,c.argTypes.toList,dst with
  |.builtin .append,[s,x],[t,DQ],some dst=>cond (Nat.beq t DQ) (R_ ay z dst t (z.bb s) (z.bb x) K) False
  |_,_,_,_=>pY P B ay z true (.call c) λd=>K (z.put dst d)
 |op=>pY P B ay z true op λd=>K (z.put dst d)
def jE(P:Program)(B:World)(ay:List bC)(al:Nat)(ops:Array Oper):List Oper->av->(av->Prop)->Prop
 |[],z,K=>K z
 |⟨dst,op,_,_,_,guard⟩::rest,z,K=>cond (iY al dst) (match guard with
  |none=>nS P B ay z dst op λaA=>jE P B ay al ops rest aA K
  |some (j,iE)=>match(ops[j]?).bind (·.dst)with
   |none=>False
   |some g=>match z.t g with
    |.bool b=>match iE with
     |true=>pY P B ay z b op λd=>jE P B ay al ops rest (z.put dst (.mb b d)) K
     |false=>pY P B ay z (!b) op λd=>jE P B ay al ops rest (z.put dst (.mb (!b) d)) K
    |.mb c (.bool b)=>match iE with
     |true=>pY P B ay z (c&&b) op λd=>jE P B ay al ops rest (z.put dst (.mb (c&&b) d)) K
     |false=>pY P B ay z (c&&!b) op λd=>jE P B ay al ops rest (z.put dst (.mb (c&&!b) d)) K
    |_=>False) False
def Bn:List D->List Value->Bool
 |[],[]=>true
 |d::ds,v::vs=>(match d,v with
  |.int k n,.int bE dK=>decide (k=bE)&&n==dK
  |.bool b,.bool ey=>b==ey
  |.N [],.string s=>s.data.toList.isEmpty
  |.bd,.slice none 0 0=>true
  |.am .nilFunc,.nilFunc=>true
  |.am (.pointer none),.pointer none=>true
  |.am (.map none),.map none=>true
  |.am .nilIface,.nilIface=>true
  |_,_=>false)&&Bn ds vs
 |_,_=>false
theorem db.nil(w:World)(C:Nat->Nat):db w C [] []:=⟨rfl,λi d v h=>by simp at h⟩
variable{ds:List D}
theorem db.cons{vs:List Value}(h:bh w C d v)(af:db w C ds vs):db w C (d::ds) (v::vs) :=
 ⟨by simp[af.1],λi d' c' h1 A=>by
  cases i with
  |zero=>simp at h1 A;subst h1;subst A;exact h
  |succ i=>exact af.2 i d' c' (by simpa using h1) (by simpa using A)⟩
theorem db.head{vs:List Value}(h:db w C (d::ds) (v::vs)):bh w C d v:=h.2 0 d v rfl rfl
theorem db.tail{vs:List Value}(h:db w C (d::ds) (v::vs)):db w C ds vs :=
 ⟨by simpa using h.1,λi d' c' h1 A=>h.2 (i+1) d' c' (by simpa using h1) (by simpa using A)⟩
theorem R':∀{Q:List D} {vs:List Value},Bn Q vs=true->∀w C,db w C Q vs
 |[],[],_,w,C=>.nil w C
 |d::ds,v::vs,h,w,C=>by simp only[Bn,auQ]at h;refine .cons ?_ (R' h.2 w C);have h1:=h.1;split at h1;simp only[auQ,avp,awm]at h1;obtain⟨rfl,rfl⟩:=h1;exact .int _ _;simp only[awm]at h1;subst h1;exact .bool _;rename_i s;obtain⟨⟨l⟩⟩:=s;(have:l=[]:=by simpa using h1);subst this;exact .N [];exact .bd;exact .am _;exact .am _;exact .am _;exact .am _;cases h1
 |[],_::_,h,_,_=>by simp[Bn]at h
 |_::_,[],h,_,_=>by simp[Bn]at h
def wB(P:Program)(t:TypeId):Option Bool :=
 match P.underlying t with
 |some (.struct _)|some (.array _ _)=>some true
 |some _=>some false
 |none=>none
def tD(P:Program):List Field->List (Nat×Nat×Bool)->Bool
 |[],[]=>true
 |f :: b',(o,aB,me) :: r => Nat.beq f.offset o && (match P.info? f.type with|some i => Nat.beq i.size aB|none => false) && (wB P f.type == some me) && f.name != "_" && tD P b' r
 |_,_=>false
def Hb(P:Program)(t:TypeId)(k:rA):Bool :=
 match k,P.underlying t with
 |.int k,some (.int bE)=>decide (k=bE)
 |.bool,some .bool=>true
 |.N,some .string=>true
 |_,_=>false
def wC(P:Program):List Field->List rA->Nat->Bool
 |[],[],_=>true
 |f :: b',k :: ae,n => Nat.beq f.offset n && Hb P f.type k && f.name != "_" && wC P b' ae (n + 1)
 |_,_,_=>false
def xU(P:Program)(e:bC):Bool :=
 match e.kind,P.underlying e.t with
 |.int k,some (.int bE)=>decide (k=bE)&&!e.agg
 |.bool,some .bool=>!e.agg
 |.N,some .string=>!e.agg
 |.slice bJ,some (.slice Lj)=>Nat.beq bJ Lj&&!e.agg
 |.struct,some (.struct b')=>e.agg&&tD P b'.toList e.o_&&!P.stoodInHeld e.t&&!P.eqGuardType P.depth e.t&&(e.uY.isEmpty||wC P b'.toList e.uY 0)
 |.array n bJ,some (.array dK Lj)=>Nat.beq n dK&&Nat.beq bJ Lj&&e.agg
 |.DL,some (.struct _)|.DL,some (.array _ _)|.DL,none=>false
 |.DL,some _=>!e.agg
 |_,_=>false
def bC.Lk(P:Program)(e:bC):Bool :=
 (match P.info? e.t with
 |some i=>Nat.beq i.size e.aB&&Nat.beq i.bytes e.bytes&&(match e.zero with|none=>true|some Q=>(match i.zero with|some v=>Bn Q v.cells.toList&&Nat.beq Q.length e.aB|none=>false))
 |none=>false)&&xU P e
structure bC.f' (P:Program) (e:bC):Prop where
 pZ:∃i,P.info? e.t=some i/\i.size=e.aB/\i.bytes=e.bytes/\∀Q,e.zero=some Q->∃v,i.zero=some v/\Q.length=e.aB/\∀w C,db w C Q v.cells.toList
 kind:xU P e=true
theorem bC.acl{e:bC}(h:e.Lk P=true):e.f' P:=by unfold bC.Lk at h;rw[auQ]at h;refine⟨?_,h.2⟩;have h1:=h.1;split at h1;rename_i i hi;simp only[auQ]at h1;obtain⟨⟨A,aa⟩,aF⟩:=h1;refine⟨i,hi,avb A,avb aa,λQ bn=>?_⟩;rw[bn]at aF;simp only at aF;split at aF;rename_i v X;rw[auQ]at aF;exact⟨v,X,avb aF.2,R' aF.1⟩;cases aF;cases h1
def df(P:Program)(ay:List bC):Prop:=∀e∈ay,e.f' P
theorem df.uZ{ay:List bC}(h:ay.all (bC.Lk P)=true):df P ay:=λe aq=>bC.acl (avz.1 h e aq)
theorem Sa:∀{ay:List bC} {t:Nat} {e:bC},dC ay t=some e->e∈ay/\e.t=t
 |[],_,_,h=>by simp[dC]at h
 |x::r,t,e,h=>by simp only[dC]at h;cases G:Nat.beq x.t t with|true=>rw[G]at h;simp at h;subst h;exact⟨auY,avb G⟩|false=>rw[G]at h;have:=Sa (ay:=r) (by simpa using h);exact⟨auZ _ this.1,this.2⟩
variable{t:Nat}
theorem df.get{ay:List bC}(h:df P ay){e:bC}(aq:dC ay t=some e):e.f' P/\e.t=t:=by have:=Sa aq;exact⟨h e this.1,this.2⟩
section kinds
variable{e:bC}(h:e.f' P)
include h
theorem bC.f'.size(w:World):(sizeOf e.t).run P w=.ok e.aB w:=by obtain⟨i,hi,hs,_⟩:=h.pZ;simp[sizeOf,typeInfo,hi,hs]
theorem bC.f'.cellsOf:P.cellsOf e.t=e.aB:=by obtain⟨i,hi,hs,_⟩:=h.pZ;simp[Program.cellsOf,hi,hs]
theorem bC.f'.sD{k:IntKind}(Z:e.kind=.int k):P.underlying e.t=some (.int k):=ayN
theorem bC.f'.p0(Z:e.kind=.N):P.underlying e.t=some .string:=ayN
theorem bC.f'.acm(Z:e.kind=.bool):P.underlying e.t=some .bool:=ayN
theorem bC.f'.j2{bJ:Nat}(Z:e.kind=.slice bJ):P.underlying e.t=some (.slice bJ):=ayN
theorem bC.f'.Bo(Z:e.kind=.struct):∃b',P.underlying e.t=some (.struct b')/\tD P b'.toList e.o_=true/\e.agg=true/\P.stoodInHeld e.t=false/\P.eqGuardType P.depth e.t=false/\(e.uY=[]\/wC P b'.toList e.uY 0=true):=ayN
theorem bC.f'.isAgg(w:World):(isAgg e.t).run P w=.ok e.agg w:=by
 have:=h.kind;unfold xU at this
 unfold Go.isAgg;simp only[Sem.run_bind];split at this
 all_goals first
  |(rename_i au;simp[run_underlying au];simp_all;done)
  |(simp at this;done)
  |skip
end kinds
theorem p1(b o n:Nat):(⟨b,o,none⟩:Addr).add n=⟨b,o+n,none⟩:=by unfold Addr.add;split;rename_i h;subst h;rfl;rfl
variable{h:Bool}
theorem iZ{k:D->Prop}(cA:opn h d k):∃d',k d'/\(h=true->∀w C v,bh w C d v->bh w C d' v):=by unfold opn at cA;split at cA;rename_i g d';refine⟨d',(zo _ _).1 cA.2,λax w C v af=>?_⟩;have aS:=cA.1 ax;subst aS;(cases af with|pT _ _ h=>exact h);exact⟨_,(zo _ _).1 cA,λ_ _ _ _ af=>af⟩
theorem wD{k:Nat}:∀{xs:List D} (_:∀x∈xs,x.cells.length=k) {i:Nat} {x:D} (_:xs[i]?=some x) {j:Nat} (_:j<k),(b4 xs)[i*k+j]?=x.cells[j]?
 |[],_,i,x,J,j,_=>by simp at J
 |y::bl,Z,i,x,J,j,ad=>by have hy:y.cells.length=k:=Z y auY;simp only[b4,avF];cases i with|zero =>simp at J;subst J;rw[Nat.zero_mul,avu,au3 auD]|succ i =>(have Bp:bl[i]?=some x:=by simpa using J);have aV:=wD (xs:=bl) (λQ bn=>Z Q (auZ _ bn)) Bp ad;rw[avl (by rw[hy,awP];omega),hy,awP];rw[show i*k+k+j-k=i*k+j from by omega];exact aV
variable{k:Nat}{xs:List D}
theorem bh.kt{t:iA}(h:bh w C (.T t k xs) v): (xs=[]/\(∃a,v=.slice a 0 0)/\t.f' v)\/∃(b o cap:Nat) (g:Nat->Value),v=.slice (some ⟨b,o,none⟩) xs.length cap/\t.f' v/\b<w.heap.size/\xs.length<=cap/\cap<=maxLen/\(∀x∈xs,x.cells.length=k)/\o+xs.length*k<=C b/\(∀(j:Nat) d,(b4 xs)[j]?=some d->w.cell? ⟨b,o+j,none⟩=some (g j))/\(∀(j:Nat) d,(b4 xs)[j]?=some d->(g j).oneCell'=true)/\(∀(j:Nat) d,(b4 xs)[j]?=some d->bh w C d (g j)):=by cases h with|jj t k a ax=>exact .inl ⟨rfl,⟨a,rfl⟩,ax⟩|T t k xs b o cap g ax G hc hm Z da gg en h=>exact .inr ⟨b,o,cap,g,rfl,ax,G,hc,hm,Z,da,gg,en,h⟩
def hR(P:Program)(d:D)(w:World)(C:Nat->Nat):Result Next->Prop
 |.ok (.value v) w'=>∃aW,bh w' aW d v/\de (λ_=>False) w C w' aW
 |.ok (.enter f args) w'=>w'=w/\Calls P f args w λe rz=>∃v lT,e=.returned v/\bh rz lT d v/\de (λ_=>False) w C rz lT
 |_=>False
theorem hR.same(h:bh w C d v):hR P d w C (.ok (.value v) w):=⟨C,h,.refl _ _ _⟩
theorem Hc{k bE:IntKind}(h:pX k bE=true):k=bE:=by cases k<;>cases bE<;>first|rfl|cases h
theorem Ll{k:IntKind}{n:Int}(h:dz k n):k.wrap n=n:=by cases k<;>simp only[dz]at h<;>simp[IntKind.wrap,IntKind.bits,IntKind.signed]<;>omega
theorem DR{k:IntKind}{n:Int}{K:D->Prop}(cA:arith h k n K):∃m,K (.int k m)/\(h=true->m=k.wrap n):=by rcases cA with⟨h1,A⟩|A;exact⟨n,A,λax=>(Ll (h1 ax)).symm⟩;exact⟨_,A,λ_=>rfl⟩
variable{p:Prop}
theorem ig{c:Bool}(h:cond c p False):c=true/\p:=by cases c;exact h.elim;exact⟨rfl,h⟩
theorem zv(op:BinOp)(t:TypeId)(x y:Operand)(a b:Value)(w:World)(ha:∀aD,a≠.agg aD)(ar:a≠.nilIface): (eqGuard op t x y a b).run P w=.ok () w:=by unfold eqGuard;cases a<;>cases b<;>first|(exact absurd rfl ar)|(exact absurd rfl (ha _))|(cases op<;>simp)
theorem acn(a b:auM):((⟨⟨a⟩⟩:ByteArray)++⟨⟨b⟩⟩)=⟨⟨a++b⟩⟩:=by apply ByteArray.ext;simp
section DN
variable{op:BinOp}{k bE:IntKind}{a b:Int}{K:D->Prop}
theorem aco(I:DN h op k bE a b K):∃d,K d/\(h=true->∃v,(∀t w,(binOp op t (.int k a) (.int bE b)).run P w=.ok v w)/\∀w C,bh w C d v):=by
 cases op<;>simp only[DN]at I
 case shl=>obtain⟨h1,A⟩:=I;exact⟨_,A,λax=>⟨_,λt w=>by simp[binOp,Op.shift,Int.not_lt.2 (h1 ax)],λ_ _=>.int _ _⟩⟩
 case shr=>obtain⟨h1,A⟩:=I;exact⟨_,A,λax=>⟨_,λt w=>by simp[binOp,Op.shift,Int.not_lt.2 (h1 ax)],λ_ _=>.int _ _⟩⟩
 all_goals (replace I:=ig I;obtain⟨Z,I⟩:=I;obtain rfl:=Hc Z)
 case add=>obtain⟨m,h1,A⟩:=DR I;exact⟨_,h1,λax=>⟨_,λt w=>by simp[binOp,Op.intArith,<-A ax],λ_ _=>.int _ _⟩⟩
 case sub=>obtain⟨m,h1,A⟩:=DR I;exact⟨_,h1,λax=>⟨_,λt w=>by simp[binOp,Op.intArith,<-A ax],λ_ _=>.int _ _⟩⟩
 case mul=>obtain⟨m,h1,A⟩:=DR I;exact⟨_,h1,λax=>⟨_,λt w=>by simp[binOp,Op.intArith,<-A ax],λ_ _=>.int _ _⟩⟩
 case quo=>obtain⟨m,h1,A⟩:=DR I.2;exact⟨_,h1,λax=>⟨_,λt w=>by simp[binOp,Op.intDiv,<-A ax,I.1 ax],λ_ _=>.int _ _⟩⟩
 case rem=>exact⟨_,I.2,λax=>⟨_,λt w=>by simp[binOp,Op.intDiv,I.1 ax],λ_ _=>.int _ _⟩⟩
 case and=>exact⟨_,I,λ_=>⟨_,λt w=>by simp[binOp,Op.intBits,qy],λ_ _=>.int _ _⟩⟩
 case or=>exact⟨_,I,λ_=>⟨_,λt w=>by simp[binOp,Op.intBits,qy],λ_ _=>.int _ _⟩⟩
 case xor=>exact⟨_,I,λ_=>⟨_,λt w=>by simp[binOp,Op.intBits,qy],λ_ _=>.int _ _⟩⟩
 case andNot=>exact⟨_,I,λ_=>⟨_,λt w=>by simp[binOp,Op.intBits,qy],λ_ _=>.int _ _⟩⟩
 all_goals exact⟨_,I,λ_=>⟨.bool _,λt w=>by simp[binOp,Op.intCmp],λ_ _=>.bool _⟩⟩
end DN
theorem acp{op:BinOp}{a b:auM}{K:D->Prop}(I:Lb h op a b K):
  ∃d,K d/\(h=true->∃v,(∀t w,(binOp op t (.string ⟨⟨a⟩⟩) (.string ⟨⟨b⟩⟩)).run P w=.ok v w)/\∀w C,bh w C d v):=by
 cases op<;>simp only[Lb]at I
 case add =>
  refine⟨_,I.2,λax=>⟨_,λt w=>?_,λ_ _=>.N _⟩⟩;have h1:=I.1 ax
  have A:¬(IntKind.i64.max<(((⟨⟨a⟩⟩:ByteArray).size+(⟨⟨b⟩⟩:ByteArray).size:Nat):Int)):=by
   simp only[IntKind.max,IntKind.signed,IntKind.bits,ByteArray.size,avN]
   push_cast
   simp;omega
  simp only[binOp,Op.stringOp,gt_iff_lt,auN A,acn];rfl
 all_goals first
  |exact False.elim I
  |exact⟨_,I,λ_=>⟨.bool _,λt w=>by simp[binOp,Op.stringOp,ByteArray.toList_eq],λ_ _=>.bool _⟩⟩
theorem Hd{t:TypeId}{b:Bool}(h:wB P t=some b)(w:World):(isAgg t).run P w=.ok b w:=by unfold wB at h;unfold Go.isAgg;cases O:P.underlying t with|none=>simp[O]at h|some d=>simp only[Sem.run_bind,run_underlying O,Result.andThen_ok];cases d<;>simp_all
theorem He:∀{b':List Field} {r:List (Nat×Nat×Bool)} (_:tD P b' r=true) {i:Nat} {o aB:Nat} {me:Bool} (_:r[i]?=some (o,aB,me)),∃f,b'[i]?=some f/\f.offset = o/\(∃qz,P.info? f.type = some qz/\qz.size = aB)/\wB P f.type = some me/\f.name ≠ "_"
 |[],[],_,i,o,aB,me,af=>by simp at af
 |f::b',(bN,asg,ash)::r,h,i,o,aB,me,af=>by simp only[tD,auQ]at h;obtain⟨⟨⟨⟨h1,A⟩,aa⟩,aF⟩,a8⟩:=h;cases i with|zero =>simp at af;obtain⟨rfl,rfl,rfl⟩:=af;refine⟨f,rfl,avb h1,?_,by simpa using aa,by simpa using aF⟩;split at A;rename_i qz hi;exact⟨qz,hi,avb A⟩;cases A|succ i=>exact He a8 (i:=i) (by simpa using af)
 |[],_::_,h,_,_,_,_,_=>by simp[tD]at h
 |_::_,[],h,_,_,_,_,_=>by simp[tD]at h
theorem zw{t:TypeId}{i:TypeInfo}(h:P.info? t=some i)(w:World):(sizeOf t).run P w=.ok i.size w:=by simp[sizeOf,typeInfo,h]
theorem acq(w:World)(b o n:Nat)(vs:List Value)(aj:vs.length=n)(h:∀(j:Nat) v,vs[j]?=some v->w.cell? ⟨b,o+j,none⟩=some v): (loadCells ⟨b,o,none⟩ n).run P w=.ok ⟨vs⟩ w:=by subst aj;exact run_loadCells_list w ⟨b,o,none⟩ vs (λj v X=>by rw[p1];exact h j v X)
theorem Lm{e:bC}(aq:e.f' P)(kU:e.agg=true)(w:World)(b o:Nat)(vs:List Value)(aj:vs.length=e.aB)(h:∀(j:Nat) v,vs[j]?=some v->w.cell? ⟨b,o+j,none⟩=some v): (Instr.loadAt e.t (.pointer (some ⟨b,o,none⟩))).run P w=.ok (.agg ⟨vs⟩) w:=by simp only[Instr.loadAt,Instr.sureAddr,Sem.run_bind,Sem.run_pure,Result.andThen_ok,loadVar,aq.isAgg,kU,avV,aq.size,acq (P:=P) w b o e.aB vs aj h]
theorem Ln{e:bC}(aq:e.f' P)(kU:e.agg=false)(w:World)(b o:Nat)(v:Value)(h:w.cell? ⟨b,o,none⟩=some v): (Instr.loadAt e.t (.pointer (some ⟨b,o,none⟩))).run P w=.ok v w:=by simp only[Instr.loadAt,Instr.sureAddr,Sem.run_bind,Sem.run_pure,Result.andThen_ok,loadVar,aq.isAgg,kU,avT,awq,run_load,h]
variable{α:Type}{i:Nat}
theorem lU{l:List α}(h:i<l.length):∃x,l[i]?=some x:=⟨l[i],auR h⟩
theorem Lo{o:Nat}{f:Nat->Value}(hc:∀(j:Nat) d,aD[j]?=some d->w.cell? ⟨b,o+j,none⟩=some (f j)/\bh w C d (f j))
  {off aB:Nat} (dP:off+aB<=aD.length) :
  let vs:=(List.range aB).map λj=>f (off+j)
  vs.length=aB/\(∀(j:Nat) v,vs[j]?=some v->w.cell? ⟨b,o+off+j,none⟩=some v)/\bh w C (.agg ((aD.drop off).take aB)) (.agg ⟨vs⟩):=by
 refine⟨by simp,λj v X=>?_,.agg _ _ auE λi d v O X=>?_⟩
 ·simp only[au',avS]at X;obtain⟨ez,gm,rfl⟩:=X
  have ad:j<aB:=by
   rcases au6 j aB with h|h
   ·exact h
   rw[au0 (by simpa using h)]at gm;cases gm
  rw[List.getElem?_range ad]at gm;obtain rfl:j=ez:=by simpa using gm
  obtain⟨d,O⟩:=lU (l:=aD) (i:=off+j) auD;have:=(hc (off+j) d O).1;rw[<-this,awy]
 simp only[au',avS]at X;obtain⟨ez,gm,rfl⟩:=X
 have ad:i<aB:=by
  rcases au6 i aB with h|h
  ·exact h
  rw[au0 (by simpa using h)]at gm;cases gm
 rw[List.getElem?_range ad]at gm;obtain rfl:i=ez:=by simpa using gm
 have hu:aD[off+i]?=some d:=by
  rw[avE,auO ad,awK]at O;exact O
 exact(hc (off+i) d hu).2
theorem Sb{e:bC}(aq:e.f' P){off:Nat}{K:D->Prop}(I:DO e off aD K): ∃d,K d/\∀(w:World) (C:Nat->Nat) (b o:Nat) (f:Nat->Value),(∀(j:Nat) d,aD[j]?=some d->w.cell? ⟨b,o+j,none⟩=some (f j)/\bh w C d (f j))->∃v,(Instr.loadAt e.t (.pointer (some ⟨b,o+off,none⟩))).run P w=.ok v w/\bh w C d v:=by unfold DO at I;cases kU:e.agg with|true =>rw[kU]at I;simp only at I;(have key:∀n,off+e.aB<=n->n=aD.length->∀(w:World) (C:Nat->Nat) (b o:Nat) (f:Nat->Value),(∀(j:Nat) d,aD[j]?=some d->w.cell? ⟨b,o+j,none⟩=some (f j)/\bh w C d (f j))->∃v,(Instr.loadAt e.t (.pointer (some ⟨b,o+off,none⟩))).run P w=.ok v w/\bh w C (.agg ((aD.drop off).take e.aB)) v:=by intro n ar aj w C b o f hc;subst aj;have aa:=Lo hc ar;exact⟨_,Lm aq kU w b (o+off) _ aa.1 aa.2.1,aa.2.2⟩);(cases G:(Nat.beq off 0&&Nat.beq e.aB aD.length)with|true =>rw[G]at I;rw[auQ]at G;have h0:=avb G.1;have h1:=avb G.2;subst h0;refine⟨_,I,λw C b o f hc=>?_⟩;obtain⟨v,X,af⟩:=key aD.length auD rfl w C b o f hc;refine⟨v,X,?_⟩;rw[h1,List.drop_zero,au2]at af;exact af|false =>rw[G]at I;obtain⟨dP,I⟩:=ig I;exact⟨_,I,λw C b o f hc=>key aD.length (avj dP) rfl w C b o f hc⟩)|false =>rw[kU]at I;simp only at I;split at I;rename_i d O;exact⟨d,I,λw C b o f hc=>⟨_,Ln aq kU w b (o+off) _ (hc off d O).1,(hc off d O).2⟩⟩;exact False.elim I
theorem Lp{e:bC}(aq:e.f' P){off:Nat}{x:D}{K:D->Prop}(I:DP e k off x K): ∃d,K d/\∀(w:World) (C:Nat->Nat) (b o:Nat) (f:Nat->Value),x.cells.length=k->(∀(j:Nat) d,x.cells[j]?=some d->w.cell? ⟨b,o+j,none⟩=some (f j)/\bh w C d (f j))->∃v,(Instr.loadAt e.t (.pointer (some ⟨b,o+off,none⟩))).run P w=.ok v w/\bh w C d v:=by unfold DP at I;split at I;rename_i aD;(cases kU:e.agg with|true =>rw[kU]at I;simp only at I;(cases G:(Nat.beq off 0&&Nat.beq e.aB k)with|true =>rw[G]at I;rw[auQ]at G;have h0:=avb G.1;have h1:=avb G.2;subst h0;refine⟨_,I,λw C b o f aj hc=>?_⟩;simp only[D.cells]at aj hc;have aa:=Lo (off:=0) (aB:=e.aB) hc auD;refine⟨_,Lm aq kU w b (o+0) _ aa.1 aa.2.1,?_⟩;have aF:=aa.2.2;rw[h1,<-aj,List.drop_zero,au2]at aF;rw[h1,<-aj];exact aF|false =>rw[G]at I;obtain⟨dP,I⟩:=ig I;refine⟨_,I,λw C b o f aj hc=>?_⟩;simp only[D.cells]at aj hc;have aa:=Lo (off:=off) (aB:=e.aB) hc (avj dP);exact⟨_,Lm aq kU w b (o+off) _ aa.1 aa.2.1,aa.2.2⟩)|false =>rw[kU]at I;simp only at I;split at I;rename_i d O;refine⟨d,I,λw C b o f aj hc=>?_⟩;simp only[D.cells]at hc;exact⟨_,Ln aq kU w b (o+off) _ (hc off d O).1,(hc off d O).2⟩;exact False.elim I);rename_i aZ;replace I:=ig I;obtain⟨G,I⟩:=I;rw[auQ]at G;have h0:=avb G.1;(have kU:e.agg=false:=by simpa using G.2);(have hcells:x.cells=[x]:=by cases x<;>first|rfl|exact absurd rfl (aZ _));refine⟨_,I,λw C b o f aj hc=>?_⟩;rw[hcells]at hc;subst h0;exact⟨_,Ln aq kU w b (o+0) _ (hc 0 x rfl).1,(hc 0 x rfl).2⟩
theorem fu{l:List α}{x:α}(h:l[i]?=some x):i<l.length:=by rcases au6 i l.length with bt|bt;exact bt;rw[au0 bt]at h;cases h
theorem acr{o:Nat}{g:Nat->Value}(Z:∀x∈xs,x.cells.length=k)(gg:∀(j:Nat) d,(b4 xs)[j]?=some d->w.cell? ⟨b,o+j,none⟩=some (g j))(h:∀(j:Nat) d,(b4 xs)[j]?=some d->bh w C d (g j)){y:D}(hy:xs[i]?=some y)(j:Nat)(d:D)(O:y.cells[j]?=some d): w.cell? ⟨b,o+i*k+j,none⟩=some (g (i*k+j))/\bh w C d (g (i*k+j)):=by have acs:y.cells.length=k:=Z y (au5 hy);have ad:j<k:=acs ▸ fu O;have M:=wD Z hy ad;rw[O]at M;exact⟨by rw[awy];exact gg _ _ M,h _ _ M⟩
variable{z:av}
theorem Sc{ay:List bC}(hT:df P ay){x:D}{K:D->Prop}(I:zp ay z h t x K):
  ∃d,K d/\(h=true->∀(w:World) (C:Nat->Nat) (Ft:Nat->Prop) (v:Value),mc Ft w C z.H->bh w C x v->
   ∃ao,(Instr.loadAt t v).run P w=.ok ao w/\bh w C d ao):=by
 unfold zp at I;split at I
 ·exact False.elim I
 rename_i e aq;obtain⟨c5,rfl⟩:=hT.get aq;split at I
 ·rename_i k xs i off;obtain⟨y,hy,I⟩:=I;obtain⟨d,hK,O⟩:=Lp c5 I;refine⟨d,hK,λax w C Ft v _ af=>?_⟩;have hy:=hy ax
  cases af with
  |a7 _ _ _ _ b o cap bt =>
   rcases bt.kt with⟨J,X,_⟩|⟨ey,bN,iF,g,X,_,_,_,_,Z,_,gg,_,eX⟩
   ·subst J;simp at hy
   simp only[Value.slice.injEq,avi,Addr.mk.injEq]at X;obtain⟨⟨rfl,rfl,_⟩,_⟩:=X;exact O w C b (o+i*k) (λj=>g (i*k+j)) (Z y (au5 hy)) (λj d O=>acr Z gg eX hy j d O)
 ·rename_i s b off;split at I
  ·rename_i ey aD hH;obtain⟨rfl,I⟩:=I;obtain⟨d,hK,O⟩:=Sb c5 I;refine⟨d,hK,λax w C Ft v hrel af=>?_⟩
   cases af with
   |box _ _ _ =>
    obtain⟨vs,bJ,G,hZ,_⟩:=hrel.cl s _ hH
    have:=O w C b 0 (λj=>vs.getD j undef) (λj d O=>by
     have ad:=fu O;rw[hZ.1]at ad;have X:vs[j]?=some vs[j]:=auR ad;have dU:vs.getD j undef=vs[j]:=by simp[List.getD,X]
     refine⟨?_,?_⟩
     ·simp only[World.cell?,G,avu,dU];simp[ad]
     rw[dU];exact hZ.2 j d _ O X)
    simpa using this
  exact False.elim I
 exact False.elim I
theorem act{ay:List bC}(hT:df P ay){x:D}{f:Nat}{K:D->Prop}(I:Ld ay t x f K): ∃d,K d/\∀(w:World) (C:Nat->Nat) (v:Value),bh w C x v->∃ao,(Instr.fieldAt t v f).run P w=.ok ao w/\bh w C d ao:=by unfold Ld at I;split at I;exact False.elim I;rename_i e aq;obtain⟨c5,rfl⟩:=hT.get aq;split at I;rename_i o aB me b2 M;(cases hsz:Nat.beq aB 0 with|true=>rw[hsz]at I;exact False.elim I|false =>rw[hsz]at I;(have aZ:aB≠0:=λh=>by subst h;cases hsz);simp only[avZ]at I;obtain⟨b',ku,tE,_⟩:=c5.Bo b2;obtain⟨gI,dg,xV,⟨qz,DS,DT⟩,_,_⟩:=He tE M;(have run:∀(w:World) (b bN:Nat),(Instr.fieldAt e.t (.pointer (some ⟨b,bN,none⟩)) f).run P w=.ok (.pointer (some ⟨b,bN+o,none⟩)) w:=by intro w b bN;(have Bq:b'[f]?=some gI:=by simpa using dg);simp[Instr.fieldAt,run_underlying ku,Bq,Instr.sureAddr,fieldPlace,zw DS,DT,aZ,xV,p1]);split at I;rename_i k xs i off;refine⟨_,I,λw C v af=>?_⟩;(cases af with|a7 _ _ _ _ b bN cap bt=>exact⟨_,run w b _,by have:=bh.a7 (w:=w) (C:=C) k xs i (off+o) b bN cap bt;rwa [<-awy]at this⟩);rename_i s b off;refine⟨_,I,λw C v af=>?_⟩;(cases af with|box _ _ _=>exact⟨_,run w b _,.box _ _ _⟩);exact False.elim I);exact False.elim I
theorem acu{ay:List bC}(hT:df P ay){x:D}{f:Nat}{K:D->Prop}(I:Le ay t x f K):
  ∃d,K d/\∀(w:World) (C:Nat->Nat) (v:Value),bh w C x v->∃ao,(Instr.field t v f).run P w=.ok ao w/\bh w C d ao:=by
 unfold Le at I;split at I
 ·exact False.elim I
 rename_i e aq;obtain⟨c5,rfl⟩:=hT.get aq;split at I
 ·rename_i o aB me b2 M;obtain⟨b',ku,tE,_⟩:=c5.Bo b2;obtain⟨gI,dg,xV,⟨qz,DS,DT⟩,kU,_⟩:=He tE M;have Bq:b'[f]?=some gI:=by simpa using dg
  split at I
  ·rename_i aD
   cases me with
   |true =>
    replace I:=ig I;obtain⟨dP,I⟩:=I;refine⟨_,I,λw C v af=>?_⟩
    cases af with
    |agg _ vs aj h =>
     refine⟨.agg ((⟨vs⟩:Array Value).extract o (o+aB)),by simp[Instr.field,run_underlying ku,Bq,part,Hd kU,zw DS,DT,xV,asAgg],?_⟩
     have bZ:(⟨vs⟩:Array Value).extract o (o+aB)=⟨(vs.drop o).take aB⟩:=by
      apply awC;simp[List.extract]
     rw[bZ];have asi:=avj dP;refine .agg _ _ (by simp[aj]) λi d v O X=>?_;rw[avE]at O X;split at O
     ·rename_i hi;rw[auO hi]at X;rw[awK]at O X;exact h _ _ _ O X
     cases O
   |false =>
    simp only at I;split at I
    ·rename_i d O;refine⟨d,I,λw C v af=>?_⟩
     cases af with
     |agg _ vs aj h =>
      have bg:o<vs.length:=aj ▸ fu O;have X:vs[o]?=some vs[o]:=auR bg;refine⟨vs[o],?_,h o d _ O X⟩;simp[Instr.field,run_underlying ku,Bq,part,Hd kU,xV,asAgg,bg]
    exact False.elim I
  exact False.elim I
 exact False.elim I
theorem acv{ay:List bC}(hT:df P ay){x eO:D}{K:D->Prop}(I:Lf ay h t x eO K):
  ∃d,K d/\(h=true->∀(w:World) (C:Nat->Nat) (v u2:Value),bh w C x v->bh w C eO u2->∃ao,(Instr.indexAt t v u2).run P w=.ok ao w/\bh w C d ao):=by
 unfold Lf at I;split at I
 ·exact False.elim I
 rename_i e aq;obtain⟨c5,rfl⟩:=hT.get aq;split at I
 ·rename_i bJ b2;split at I
  ·exact False.elim I
  rename_i aH i1;obtain⟨fp,rfl⟩:=hT.get i1;split at I
  ·rename_i tg k xs hS i;replace I:=ig I;obtain⟨Z,hi,I⟩:=I;have Z:=avb Z;refine⟨_,I,λax w C v u2 af zx=>?_⟩;obtain⟨h0,h1⟩:=hi ax;cases zx
   have au:=c5.j2 b2;rcases af.jk.kt with⟨rfl,_,_⟩|⟨b,o,cap,g,rfl,_,G,hc,hm,acw,da,gg,en,eX⟩
   ·simp at h1;omega
   refine⟨.pointer (some ⟨b,o+i.toNat*k,none⟩),?_,?_⟩
   ·simp[Instr.indexAt,asIntOf,run_underlying au,h0,h1,fp.size,p1,Z]
   have:=bh.a7 (w:=w) (C:=C) k xs i.toNat 0 b o cap (.T .none k xs b o cap g trivial G hc hm acw da gg en eX);simpa using this
  exact False.elim I
 exact False.elim I
theorem acx(s:auM)(i:Nat):(⟨⟨s⟩⟩:ByteArray)[i]?=s[i]?:=by by_cases h:i<s.length;rw[auR h];have bt:i<(⟨⟨s⟩⟩:ByteArray).size:=h;rw[getElem?_pos (⟨⟨s⟩⟩:ByteArray) i bt];rfl;rw[au0 (Nat.le_of_not_lt h)];have bt:¬i<(⟨⟨s⟩⟩:ByteArray).size:=h;rw[getElem?_neg (⟨⟨s⟩⟩:ByteArray) i bt]
theorem acy{ay:List bC}(hT:df P ay){x eO:D}{K:D->Prop}(I:Lg ay h t x eO K):
  ∃d,K d/\(h=true->∀(w:World) (C:Nat->Nat) (v u2:Value),bh w C x v->bh w C eO u2->∃ao,(Instr.index t v u2).run P w=.ok ao w/\bh w C d ao):=by
 unfold Lg at I;split at I
 ·exact False.elim I
 rename_i e aq;obtain⟨c5,rfl⟩:=hT.get aq;split at I
 ·rename_i b2;split at I
  ·rename_i s hS i;obtain⟨c,hc,I⟩:=I;refine⟨_,I,λax w C v u2 af zx=>?_⟩;obtain⟨h0,h1⟩:=hc ax;cases zx;cases af
   refine⟨_,?_,.int _ _⟩;have au:=c5.p0 b2;simp[Instr.index,asIntOf,run_underlying au,h0,acx,h1]
  exact False.elim I
 exact False.elim I
theorem Br(xs bl:List D):b4 (xs++bl)=b4 xs++b4 bl:=by simp[b4]
variable{j:Nat}
theorem Lq(Z:∀x∈xs,x.cells.length=k){l r:Nat}(aj:l<=r)(af:r<=xs.length)(h:(b4 ((xs.take r).drop l))[j]?=some d):(b4 xs)[l*k+j]?=some d:=by(have bZ:b4 xs=b4 (xs.take r)++b4 (xs.drop r):=by rw[<-Br,awb]);(have b0:b4 (xs.take r)=b4 ((xs.take r).take l)++b4 ((xs.take r).drop l):=by rw[<-Br,awb]);(have hlen:(b4 ((xs.take r).take l)).length=l*k:=by rw[qx (k:=k) (λx J=>Z x (avO (avO J)))];congr 1;simp;omega);have ad:=fu h;rw[bZ,au3,b0,avl auD,hlen,show l*k+j-l*k=j from by omega];exact h;rw[b0,auV,hlen];omega
theorem Lr(s:auM)(l r:Nat):(⟨⟨s⟩⟩:ByteArray).extract l r=⟨⟨(s.take r).drop l⟩⟩:=by apply ByteArray.ext;simp only[ByteArray.data_extract];apply awC;simp[List.extract,List.drop_take]
variable{ll:Option Operand}
theorem Sd{k:Int->Prop}(I:G_ h z ll k): ∃l,k l/\(h=true->∀(w:World) (C:Nat->Nat) (ρ:Operand->Value),(∀x,ll=some x->bh w C (z.bb x) (ρ x))->(ll.map ρ=none/\l=0)\/∃hS,ll.map ρ=some (.int hS l)):=by unfold G_ at I;split at I;exact⟨0,I,λ_ _ _ _ _=>.inl ⟨rfl,rfl⟩⟩;exact ayn
variable{hi:Option Operand}
theorem Se{n:Int}{k:Int->Prop}(I:G' h z hi n k): ∃l,k l/\(h=true->∀(w:World) (C:Nat->Nat) (ρ:Operand->Value),(∀x,hi=some x->bh w C (z.bb x) (ρ x))->(hi.map ρ=none/\l=n)\/∃hS,hi.map ρ=some (.int hS l)):=by unfold G' at I;split at I;exact⟨n,I,λ_ _ _ _ _=>.inl ⟨rfl,rfl⟩⟩;exact ayn
variable{Bs:Bool}{cap:Nat}{r:Int}
theorem Sf{len:Nat}{ll hi:Option Value}{l:Int}(aj:(ll=none/\l=0)\/∃hS,ll=some (.int hS l))(af:(hi=none/\r=(len:Int))\/∃hS,hi=some (.int hS r))(h0:0<=l)(h1:l<=r)(A:r<=(cap:Int))(w:World):(Instr.sliceBounds Bs len cap ll hi none).run P w=.ok (l.toNat,r.toNat,cap) w:=by(have aa:0<=r:=by omega);rcases aj with⟨rfl,rfl⟩|⟨zy,rfl⟩<;>rcases af with⟨rfl,rfl⟩|⟨wE,rfl⟩ <;> simp[Instr.sliceBounds,run_sliceBound,h0,h1,A,aa,Int.toNat_of_nonneg aa]
theorem acz{len:Nat}{ll hi:Option Value}{l:Int}{xW:IntKind}(aj:(ll=none/\l=0)\/∃hS,ll=some (.int hS l))(af:∃hS,hi=some (.int hS r))(h0:0<=l)(h1:l<=r)(A:r<=(cap:Int))(w:World):(Instr.sliceBounds Bs len cap ll hi (some (.int xW r))).run P w=.ok (l.toNat,r.toNat,r.toNat) w:=by(have aa:0<=r:=by omega);obtain⟨wE,rfl⟩:=af;rcases aj with⟨rfl,rfl⟩|⟨zy,rfl⟩ <;> simp[Instr.sliceBounds,run_sliceBound,h0,h1,A,aa,Int.toNat_of_nonneg aa]
variable{tg nT:iA}
theorem Sg{a:Option Addr}{n:Nat}(af:bh w C (.T tg k xs) (.slice a n cap)){l r m:Nat}(aj:l<=r)(zz:r<=xs.length)(hm:r<=m)(asj:m<=cap)(u3:∀bv,nT.f' (.slice bv (r-l) (m-l))): bh w C (.T nT k ((xs.take r).drop l)) (.slice (if m=l then a else a.map (·.add (l*k))) (r-l) (m-l)):=by(have ih:((xs.take r).drop l).length=r-l:=by simp;omega);rcases af.kt with⟨rfl,⟨a0,X⟩,_⟩|⟨b,o,iF,g,X,_,G,hc,nU,Z,da,gg,en,eX⟩;simp only[Value.slice.injEq]at X;obtain⟨rfl,rfl,rfl⟩:=X;(obtain rfl:r=0:=by simpa using zz);(obtain rfl:m=0:=by omega);(obtain rfl:l=0:=by omega);have:=u3 a;simpa using bh.jj (w:=w) (C:=C) nT k a this;simp only[Value.slice.injEq]at X;obtain⟨rfl,rfl,rfl⟩:=X;have fv:∀x∈(xs.take r).drop l,x.cells.length=k:=λx J=>Z x (avO (awU J));by_cases gs:m=l;subst gs;(obtain rfl:r=m:=by omega);have p2:(xs.take r).drop r=[]:=aw4 auE;have ask:0<=xs.length*k:=au7 _;have:=bh.T (w:=w) (C:=C) nT k [] b o 0 (λ_=>undef) (by simpa using u3 (some ⟨b,o,none⟩)) G (auW _) (au7 _) (λx J=>by cases J) auE (λj d O=>by simp[b4]at O) (λj d O=>by simp[b4]at O) (λj d O=>by simp[b4]at O);rw[p2];simpa using this;rw[auN gs];(have acA:o+l*k+((xs.take r).drop l).length*k<=C b:=by rw[ih];(have:l*k+(r-l)*k<=xs.length*k:=by rw[<-Nat.add_mul];exact aww _ auD);omega);have:=bh.T (w:=w) (C:=C) nT k ((xs.take r).drop l) b (o+l*k) (m-l) (λj=>g (l*k+j)) (by rw[ih];exact u3 _) G (by rw[ih];omega) auD fv acA (λj d O=>by rw[awy];exact gg _ _ (Lq Z aj zz O)) (λj d O=>en _ _ (Lq Z aj zz O)) (λj d O=>eX _ _ (Lq Z aj zz O));rw[ih]at this;simpa[p1]using this
theorem acB{ay:List bC}(hT:df P ay){x:D}{tB:Option Operand}{K:D->Prop}(I:Lh ay h z t x ll hi tB K): ∃d,K d/\(h=true->∀(w:World) (C:Nat->Nat) (v:Value) (ρ:Operand->Value),bh w C x v->(∀y,ll=some y->bh w C (z.bb y) (ρ y))->(∀y,hi=some y->bh w C (z.bb y) (ρ y))->(∀y,tB=some y->bh w C (z.bb y) (ρ y))->∃ao,(Instr.sliceAt t v (ll.map ρ) (hi.map ρ) (tB.map ρ)).run P w=.ok ao w/\bh w C d ao):=by unfold Lh at I;split at I;exact False.elim I;rename_i e aq;obtain⟨c5,rfl⟩:=hT.get aq;split at I;rename_i b2;have au:=c5.p0 b2;split at I;rename_i s;obtain⟨l,I,Hf⟩:=Sd I;obtain⟨r,I,sE⟩:=Se I;split at I;obtain⟨G,I⟩:=I;refine⟨_,I,λax w C v ρ af h1 A aa=>?_⟩;obtain⟨dI,ca,el⟩:=G ax;cases af;refine⟨_,?_,.N _⟩;have hs:(⟨⟨s⟩⟩:ByteArray).size=s.length:=rfl;have Ls:=sE ax w C ρ A;have:=Sf (P:=P) (Bs:=false) (len:=(⟨⟨s⟩⟩:ByteArray).size) (cap:=(⟨⟨s⟩⟩:ByteArray).size) (Hf ax w C ρ h1) Ls dI ca el w;simp[Instr.sliceAt,run_underlying au,Instr.slice,this,Lr];exact False.elim I;exact False.elim I;rename_i bJ b2;have au:=c5.j2 b2;split at I;exact False.elim I;rename_i aH i1;obtain⟨fp,rfl⟩:=hT.get i1;split at I;rename_i tg k xs;replace I:=ig I;obtain⟨Z,I⟩:=I;have Z:=avb Z;obtain⟨l,I,Hf⟩:=Sd I;obtain⟨r,I,sE⟩:=Se I;(cases tB with|none =>obtain⟨G,I⟩:=I;refine⟨_,I,λax w C v ρ af h1 A aa=>?_⟩;obtain⟨dI,ca,el⟩:=G ax;(have iG:∃a cap,v=.slice a xs.length cap/\xs.length<=cap:=ayC);obtain⟨a,cap,rfl,hcap⟩:=iG;have:=Sf (P:=P) (Bs:=true) (len:=xs.length) (cap:=cap) (Hf ax w C ρ h1) (sE ax w C ρ A) dI ca auD w;have eX:=Sg (nT:=.none) af (l:=l.toNat) (r:=r.toNat) (m:=cap) auD auD auD (auW _) (λ_=>trivial);refine⟨_,?_,eX⟩;simp[Instr.sliceAt,run_underlying au,Instr.slice,this,fp.size,Z]|some acC =>replace I:=ig I;obtain⟨Sh,I⟩:=I;obtain⟨d,O,hm⟩:=iZ I;split at O;rename_i xW Lt;obtain⟨G,I⟩:=O;refine⟨_,I,λax w C v ρ af h1 A aa=>?_⟩;obtain⟨rfl,dI,ca,el⟩:=G ax;(have iG:∃a cap,v=.slice a xs.length cap/\xs.length<=cap:=ayC);obtain⟨a,cap,rfl,hcap⟩:=iG;have gu:=(hm ax w C _ (aa acC rfl)).fC;(have Ls:∃hS,hi.map ρ=some (.int hS Lt):=by rcases sE ax w C ρ A with⟨ar,_⟩|h;cases hi<;>simp at ar Sh;exact h);have:=acz (P:=P) (Bs:=true) (len:=xs.length) (cap:=cap) (xW:=xW) (Hf ax w C ρ h1) Ls dI ca auD w;have eX:=Sg (nT:=.dZ) af (l:=l.toNat) (r:=Lt.toNat) (m:=Lt.toNat) auD auD (auW _) auD (λbv=>⟨bv,_,rfl⟩);refine⟨_,?_,eX⟩;simp[Instr.sliceAt,run_underlying au,Instr.slice,gu,this,fp.size,Z];exact False.elim O);exact False.elim I;exact False.elim I
theorem DU{h:Bool}{z:av}:∀{xs:List Operand} {k:List D->Prop} (_:zq h z xs k),∃ds,k ds/\(h=true->∀(w:World) (C:Nat->Nat) (ρ:Operand->Value),(∀x∈xs,bh w C (z.bb x) (ρ x))->db w C ds (xs.map ρ))
 |[],k,I=>⟨[],I,λ_ w C _ _=>.nil w C⟩
 |x::r,k,I=>by simp only[zq]at I;obtain⟨d,I,O⟩:=iZ I;obtain⟨ds,Z,p3⟩:=DU I;exact⟨d::ds,Z,λax w C ρ c3=>.cons (O ax w C _ (c3 x auY)) (p3 ax w C ρ λy hy=>c3 y (auZ _ hy))⟩
theorem dO.rB{w:World}{C:Nat->Nat}:∀{ds kV:List D} {vs:List Value},dO ds kV->db w C ds vs->db w C kV vs
 |[],[],vs,_,h=>h
 |d::ds,d'::kV,[],_,h=>by have:=h.1;simp at this
 |d::ds,d'::kV,v::vs,aj,h=>.cons (aj.1.le _ _ _ h.head) (aj.2.rB h.tail)
 |[],_::_,_,aj,_=>aj.elim
 |_::_,[],_,aj,_=>aj.elim
theorem db.append{w:World}{C:Nat->Nat}:∀{ds:List D} {vs:List Value} {kV:List D} {gv:List Value},db w C ds vs->db w C kV gv->db w C (ds++kV) (vs++gv)
 |[],[],_,_,_,h=>h
 |d::ds,v::vs,_,_,h,bt=>.cons h.head (h.tail.append bt)
 |[],_::_,_,_,h,_=>by have:=h.1;simp at this
 |_::_,[],_,_,h,_=>by have:=h.1;simp at this
def gw(C:Nat->Nat)(b n:Nat):Nat->Nat:=λx=>if x=b then n else C x
theorem h2(C:Nat->Nat)(b n:Nat):gw C b n b=n:=by simp[gw]
theorem rC(C:Nat->Nat){x:Nat}(n:Nat)(h:x≠b):gw C b n x=C x:=by simp[gw,h]
theorem acD(w:World)(o:Obj)(h:k<w.heap.size):(w.alloc o).heap[k]?=w.heap[k]?:=Below.heap_alloc w o k h
theorem lV(w:World)(o:Obj):(w.alloc o).heap[w.heap.size]?=some o:=by show(w.heap.push o)[w.heap.size]?=some o;simp
theorem de.alloc(Ft:Nat->Prop)(w:World)(C:Nat->Nat)(o:Obj)(n:Nat):de Ft w C (w.alloc o) (gw C w.heap.size n) :=
 ⟨⟨by simp,λb G=>by rw[rC _ _ (Nat.ne_of_lt G)];exact auW _,λb bN G _=>World.cell?_alloc_lt w o ⟨b,bN,none⟩ G⟩,rfl,rfl,rfl,
  λb G _=>⟨acD w o G,rC _ _ (Nat.ne_of_lt G)⟩⟩
theorem de.drew(Ft:Nat->Prop)(w:World)(C:Nat->Nat):de Ft w C w.drew C :=
 ⟨⟨auW _,λ_ _=>auW _,λ_ _ _ _=>rfl⟩,rfl,rfl,rfl,λ_ _ _=>⟨rfl,rfl⟩⟩
theorem bh.oA(h:bh w C d v)(ag:d.one=true):v.cells=#[v]/\v.oneCell'=true:=by
 cases h<;>simp[D.one]at ag<;>try exact⟨rfl,rfl⟩
 cases v<;>simp[Value.oneCell']at ag<;>exact⟨rfl,rfl⟩
theorem Lu:∀(aD:List D) (n:Nat) (d:D),(iD aD n d).length=aD.length
 |[],_,_=>rfl
 |_::_,0,_=>rfl
 |_::r,n+1,d=>by simp[iD,Lu r n d]
theorem Lv:∀(aD:List D) (n:Nat) (d:D) (i:Nat),(iD aD n d)[i]?=if i=n/\n<aD.length then some d else aD[i]?
 |[],n,d,i=>by simp[iD]
 |c::r,0,d,i=>by cases i<;>simp[iD]
 |c::r,n+1,d,i=>by cases i with|zero=>simp[iD]|succ i=>simp[iD,Lv r n d i]
theorem acE{off:Nat}(h:off+ds.length<=aD.length):(sB aD off ds).length=aD.length:=by simp[sB];omega
theorem Si{off:Nat}(h:off+ds.length<=aD.length)(i:Nat): (sB aD off ds)[i]?=if off<=i/\i<off+ds.length then ds[i-off]? else aD[i]?:=by unfold sB;by_cases h1:i<off;rw[auN auD,avr,au3 auE,avE,auO h1];by_cases A:i<off+ds.length;rw[auO ⟨by omega,A⟩,avr,avl auE,au3 auE];congr 1;simp;omega;rw[auN auD,avl auE,awK];congr 1;simp;omega
variable{dm:List Value}
theorem db.laid{vs:List Value}{off:Nat}{r:Array Value}(h:db w C aD vs)(bt:db w C ds dm)(dP:off+ds.length<=aD.length)(hs:r.size=vs.length)(af:∀k,r[k]?=if off<=k/\k<off+dm.length/\k<vs.length then dm[k-off]? else vs[k]?):db w C (sB aD off ds) r.toList:=by refine⟨by rw[acE dP,h.1];simpa using hs.symm,λi d v O X=>?_⟩;rw[Si dP]at O;(have dU:r[i]?=some v:=by simpa using X);rw[af]at dU;have aj:=h.1;have mF:=bt.1;by_cases hc:off<=i/\i<off+ds.length;rw[auO hc]at O;rw[auO ⟨hc.1,by omega,by omega⟩]at dU;exact bt.2 _ _ _ O dU;rw[auN hc]at O;rw[auN auD]at dU;exact h.2 _ _ _ O dU
theorem Sj{off:Nat}(h:off<aD.length):iD aD off d=sB aD off [d]:=by apply av2;intro i;rw[Lv,Si auE];by_cases hi:i=off;subst hi;rw[auO ⟨rfl,h⟩,auO ⟨auW _,by simp⟩];simp;rw[auN auD,auN auE]
theorem acF{cells:Array Value}{off:Nat}(h:db w C aD cells.toList)(bt:db w C ds v.cells.toList)(dP:off+ds.length<=aD.length): db w C (sB aD off ds) (v.cells.zipIdx.foldl (λaD (c,j)=>aD.setIfInBounds (off+j) c) cells).toList/\(v.cells.zipIdx.foldl (λaD (c,j)=>aD.setIfInBounds (off+j) c) cells).size=cells.size:=by have M:=Great.foldl_set off v.cells.toList 0 cells;(have e:(v.cells.zipIdx.foldl (λaD (c,j)=>aD.setIfInBounds (off+j) c) cells)=((v.cells.toList.zipIdx 0).foldl (λaD (x:Value×Nat)=>aD.setIfInBounds (off+x.2) x.1) cells):=by rw[<-Array.foldl_toList,Array.toList_zipIdx]);rw[e];refine⟨h.laid bt dP (by simpa using M.1) λk=>?_,M.1⟩;rw[M.2 k];simp
theorem Sk{o_:List (Nat×Nat×Bool)}:∀{ds:List (Nat×D)} {aD:List D} {K:List D->Prop} (_:zr o_ aD ds K),∃dA,K dA/\∀(w:World) (C:Nat->Nat) (cells:Array Value) (vs:List (Nat×Value)) (eA:List (Nat×Nat)),db w C aD cells.toList->vs.map (·.1)=ds.map (·.1)->db w C (ds.map (·.2)) (vs.map (·.2))->(∀(i o aB:Nat) (me:Bool),o_[i]?=some (o,aB,me)->eA[i]?=some (o,aB))->∃zA,Instr.fill (eA[·]?) cells vs=some zA/\db w C dA zA.toList
 |[],aD,K,I=>⟨aD,I,λw C cells vs eA af X _ _=>by(have:vs=[]:=by simpa using X);subst this;exact⟨cells,rfl,af⟩⟩
 |(i,d)::r,aD,K,I=>by simp only[zr]at I;split at I;exact False.elim I;rename_i o aB me M;(have key:∃kV,kV.length=aB/\o+aB<=aD.length/\zr o_ (sB aD o kV) r K/\∀(w:World) (C:Nat->Nat) (v:Value),bh w C d v->db w C kV v.cells.toList:=by cases me with|true =>simp only at I;split at I;rename_i kV;replace I:=ig I;obtain⟨G,I⟩:=I;rw[auQ]at G;refine⟨kV,avb G.1,avj G.2,I,λw C v af=>?_⟩;obtain⟨vs,rfl,h⟩:=af.tw;exact h;exact False.elim I|false =>simp only at I;replace I:=ig I;obtain⟨G,I⟩:=I;rw[auQ,auQ]at G;have bg:o<aD.length:=avx (avt _) (avj G.1.1);have hsz:=avb G.2;refine⟨[d],by simp[hsz],by omega,by rw[<-Sj bg];exact I,λw C v af=>?_⟩;rw[(af.oA G.1.2).1];exact .cons af (.nil _ _));obtain⟨kV,aj,dP,I,O⟩:=key;obtain⟨dA,hK,Hg⟩:=Sk I;refine⟨dA,hK,λw C cells vs eA af X gc aw=>?_⟩;cases vs with|nil=>simp at X|cons p vs =>obtain⟨g9,v⟩:=p;simp only[avc,awT]at X;obtain⟨rfl,dU⟩:=X;have Sl:=O w C v gc.head;obtain⟨h1,A⟩:=acF af Sl (by rw[aj];exact dP);obtain⟨zA,aa,aF⟩:=Hg w C _ vs eA h1 dU gc.tail aw;refine⟨zA,?_,aF⟩;unfold Instr.fill;(have o':v.cells.size=aB:=by have:=Sl.1;rw[aj]at this;simpa using this.symm);(have lm:cells.size=aD.length:=by have:=af.1;simpa using this.symm);rw[aw _ _ _ _ M];simp only;rw[auN (by rw[o',lm];simp;omega)];exact aa
theorem DV{h:Bool}{z:av}:∀{xs:List (Nat×Operand)} {k:List (Nat×D)->Prop} (_:zt h z xs k),∃ds,k ds/\ds.map (·.1)=xs.map (·.1)/\(h=true->∀(w:World) (C:Nat->Nat) (ρ:Operand->Value),(∀x∈xs,bh w C (z.bb x.2) (ρ x.2))->db w C (ds.map (·.2)) (xs.map λx=>ρ x.2))
 |[],k,I=>⟨[],I,rfl,λ_ w C _ _=>.nil w C⟩
 |(i,x)::r,k,I=>by simp only[zt]at I;obtain⟨d,I,O⟩:=iZ I;obtain⟨ds,Z,h1,p3⟩:=DV I;exact⟨(i,d.jk)::ds,Z,by simp[h1],λax w C ρ c3=>.cons (O ax w C _ (c3 (i,x) auY)).jk (p3 ax w C ρ λy hy=>c3 y (auZ _ hy))⟩
theorem Sm:∀{b':List Field} {r:List (Nat×Nat×Bool)} (_:tD P b' r=true),b'.mapM (λf=>(P.info? f.type).map λi=>(f.offset,i.size))=some (r.map λx=>(x.1,x.2.1))
 |[],[],_=>rfl
 |f::b',(o,aB,me)::r,h=>by simp only[tD,auQ]at h;obtain⟨⟨⟨⟨h1,A⟩,aa⟩,aF⟩,a8⟩:=h;have aV:=Sm a8;split at A;rename_i i hi;have bZ:=avb h1;have b0:=avb A;simp[hi,aV,bZ,b0];cases A
 |[],_::_,h=>by simp[tD]at h
 |_::_,[],h=>by simp[tD]at h
variable{Q:List D}
theorem acG{e:bC}(aq:e.f' P)(b2:e.kind=.struct)(bn:e.zero=some Q){ds:List (Nat×D)}{K:List D->Prop}(I:zr e.o_ Q ds K): ∃aD,K aD/\∀(w:World) (C:Nat->Nat) (vs:Array (Nat×Value)),vs.toList.map (·.1)=ds.map (·.1)->db w C (ds.map (·.2)) (vs.toList.map (·.2))->∃v,(Instr.build e.t vs).run P w=.ok v w/\bh w C (.agg aD) v:=by obtain⟨aD,hK,h⟩:=Sk I;refine⟨aD,hK,λw C vs h1 A=>?_⟩;obtain⟨b',ku,tE,_⟩:=aq.Bo b2;obtain⟨i,hi,hs,_,oB⟩:=aq.pZ;obtain⟨e1,oC,nf,iH⟩:=oB Q bn;have dh:=Sm tE;obtain⟨zA,aa,aF⟩:=h w C e1.cells vs.toList (e.o_.map λx=>(x.1,x.2.1)) (iH w C) h1 A (λi o aB me M=>by simp[M]);refine⟨.agg zA,run_build w e.t vs zA ?_,.agg _ _ aF.1 aF.2⟩;unfold Program.built;rw[hi,ku];simp only[oC,dh];simpa using aa
theorem db.one{w:World}{C:Nat->Nat}{ds:List D}{vs:List Value}(h:db w C ds vs)(ag:ds.all D.one=true):∀ao∈vs,ao.oneCell'=true:=by intro ao au;obtain⟨j,ad⟩:=avd.1 au;obtain⟨d,O⟩:=lU (l:=ds) (i:=j) (by rw[h.1];exact fu ad);exact((h.2 j d ao O ad).oA (avz.1 ag d (au5 O))).2
theorem Lw{k:Nat}:∀{ds:List (Nat×D)} {n:Nat} (_:tC k n ds),ds.map (·.1)=List.range' n ds.length/\∀w C,∀x∈ds,∀v,bh w C x.2 v->x.2.cells.length=k/\v.cells.size=k/\db w C x.2.cells v.cells.toList/\∀ao∈v.cells.toList,ao.oneCell'=true
 |[],n,_=>⟨rfl,λ_ _ x J=>by cases J⟩
 |(i,d)::r,n,h=>by simp only[tC]at h;replace h:=ig h;obtain⟨G,h⟩:=h;rw[auQ]at G;obtain⟨h1,A⟩:=Lw h;have hi:=avb G.1;subst hi;refine⟨by simp[h1,List.range'_succ],λw C x J v X=>?_⟩;rcases au8.1 J with rfl|J;have aa:=G.2;simp only at X aa⊢;split at aa;rename_i ds;rw[auQ]at aa;obtain⟨vs,rfl,h⟩:=X.tw;have aj:=avb aa.1;refine⟨aj,?_,h,h.one aa.2⟩;have:=h.1;simp only[Value.cells,avN];omega;rename_i aZ;rw[auQ]at aa;obtain⟨aF,a8⟩:=X.oA aa.1;have Z:=avb aa.2;(have hcells:d.cells=[d]:=by cases d<;>first|rfl|exact absurd rfl (aZ _));rw[hcells,aF];exact⟨by simp[Z],by simp[Z],.cons X (.nil _ _),by simpa using a8⟩;exact A w C x J v X
theorem Lx{w:World}{C:Nat->Nat}:∀{ds:List D} {vs:List Value},ds.length=vs.length->(∀(i:Nat) d v,ds[i]?=some d->vs[i]?=some v->db w C d.cells v.cells.toList)->db w C (b4 ds) (vs.flatMap λv=>v.cells.toList)
 |[],[],_,_=>.nil _ _
 |d::ds,v::vs,aj,h=>by simp only[b4,avF];exact(h 0 d v rfl rfl).append (Lx (by simpa using aj) λi d' c' h1 A=>h (i+1) d' c' (by simpa using h1) (by simpa using A))
 |[],_::_,aj,_=>by simp at aj
 |_::_,[],aj,_=>by simp at aj
theorem xX{vs:List Value}{e:TypeId}{kv:Nat×Nat}(G:w.heap[b]?=some (.cells ⟨vs⟩ e kv))(Z:∀x∈xs,x.cells.length=k)(hc:xs.length<=cap)(hm:cap<=maxLen)(da:xs.length*k<=C b)(af:∀(j:Nat) d,(b4 xs)[j]?=some d->∃v,vs[j]?=some v/\bh w C d v/\v.oneCell'=true)(u3:tg.f' (.slice (some ⟨b,0,none⟩) xs.length cap)): bh w C (.T tg k xs) (.slice (some ⟨b,0,none⟩) xs.length cap):=by refine .T tg k xs b 0 cap (λj=>vs.getD j undef) u3 (awt.1 G).1 hc hm Z auD (λj d O=>?_) (λj d O=>?_) (λj d O=>?_);obtain⟨v,X,_⟩:=af j d O;rw[avu];simp[World.cell?,G,List.getD,X];obtain⟨v,X,_,ag⟩:=af j d O;simpa[List.getD,X]using ag;obtain⟨v,X,Ly,_⟩:=af j d O;simpa[List.getD,X]using Ly
theorem Hh{k:IntKind}:∀zs:List Int,b4 (zs.map (D.int k))=zs.map (D.int k)
 |[]=>rfl
 |Q::zs=>by have:=Hh (k:=k) zs;simp only[b4,avc,avF]at*;rw[this];rfl
theorem Hi{vs:List Value}{e:TypeId}(Z:∀x∈xs,x.cells.length=k)(hc:xs.length<=cap)(hm:cap<=maxLen)
  (af:∀(j:Nat) d,(b4 xs)[j]?=some d->∃v,vs[j]?=some v/\bh w C d v/\v.oneCell'=true) (u3:tg.f' (.slice (some ⟨w.heap.size,0,none⟩) xs.length cap)) :
  bh (w.alloc (.cells ⟨vs⟩ e)) (gw C w.heap.size (xs.length*k)) (.T tg k xs) (.slice (some ⟨w.heap.size,0,none⟩) xs.length cap) :=
 xX (lV w _) Z hc hm (by simp[h2]) (λj d O=>by
  obtain⟨v,X,Ly,ag⟩:=af j d O
  exact⟨v,X,Ly.ext (de.alloc (λ_=>False) w C (.cells ⟨vs⟩ e) (xs.length*k)).ext,ag⟩) u3
theorem Lz(s:ByteArray):∀(f i:Nat) (fE:Array Value),(Conv.runesFrom s f i fE).toList=fE.toList++(sC s f i).map (Value.int .i32)
 |0,i,fE=>by simp[Conv.runesFrom,sC]
 |f+1,i,fE=>by simp only[Conv.runesFrom,sC];split;rw[Lz s f];simp;simp
theorem acH(zs:List Int):runesBytes zs=⟨⟨cy zs⟩⟩:=by(have key:∀(zs:List Int) (r:ByteArray),zs.foldl (λr n=>r++Utf8.encode n) r=r++⟨⟨cy zs⟩⟩:=by intro zs;induction zs with|nil=>intro r;apply ByteArray.ext;simp[cy]|cons Q zs aV =>intro r;rw[awf,aV];apply ByteArray.ext;apply awC;simp[cy]);rw[runesBytes,key];apply ByteArray.ext;simp
theorem Sn{k:rA}(h:Ha k=true):k=.int .i32:=by unfold Ha at h;split at h;rfl;cases h
variable{oz:Nat}
theorem acI{ay:List bC}(hT:df P ay){dst:Nat}{x:D}{K:D->Prop}(I:Li ay oz dst x K): ∃d,K d/\∀(w:World) (C:Nat->Nat) (v:Value),bh w C x v->∃ao w' aW,(convert oz dst v).run P w=.ok ao w'/\bh w' aW d ao/\de (λ_=>False) w C w' aW:=by unfold Li at I;split at I;rename_i a b ha G;obtain⟨zB,rfl⟩:=hT.get ha;obtain⟨zC,rfl⟩:=hT.get G;split at I;rename_i ae xY ed n iI p4;have h1:=zB.sD iI;have A:=zC.sD p4;(have key:∃m,K (.int xY m)/\m=xY.wrap n:=by rcases I with⟨h1,A⟩|A;exact⟨n,A,(Ll h1).symm⟩;exact⟨_,A,rfl⟩);obtain⟨m,hK,rfl⟩:=key;refine⟨_,hK,λw C v af=>⟨_,w,C,?_,.int _ _,.refl _ _ _⟩⟩;rw[af.fC];simp[convert,run_underlying h1,run_underlying A,Conv.intToInt];rename_i s iI p4;have h1:=zB.p0 iI;have A:=zC.p0 p4;refine⟨_,I,λw C v af=>⟨_,w,C,?_,.N _,.refl _ _ _⟩⟩;rw[af.kS];simp[convert,run_underlying h1,run_underlying A];rename_i ae ed n iI p4;have h1:=zB.sD iI;have A:=zC.p0 p4;refine⟨_,I,λw C v af=>⟨_,w,C,?_,.N _,.refl _ _ _⟩⟩;rw[af.fC,run_convert_int_string w a.t b.t ed n (by rw[h1];rfl) A];rename_i bJ s iI p4;split at I;rename_i aH i1;obtain⟨fp,rfl⟩:=hT.get i1;replace I:=ig I;obtain⟨G,hlen,hK⟩:=I;simp only[auQ]at G;have kw:=Sn G.1;refine⟨_,hK,λw C v af=>?_⟩;rw[af.kS];have hsz:=size_runesFrom ⟨⟨s⟩⟩ s.length 0 #[];have i6:(⟨⟨s⟩⟩:ByteArray).size=s.length:=rfl;have cZ:=run_runes_of_string (P:=P) w a.t b.t aH.t ⟨⟨s⟩⟩ (zB.p0 iI) (zC.j2 p4) (fp.sD kw) (by rw[i6];simp at hsz;omega);rw[i6]at cZ;have DW:=Lz ⟨⟨s⟩⟩ s.length 0 #[];(have wF:(Conv.runesFrom ⟨⟨s⟩⟩ s.length 0 #[]).size=(ie s).length:=by rw[<-awG,DW];simp[ie]);have jl:=grownCap_ge w (Conv.runesFrom ⟨⟨s⟩⟩ s.length 0 #[]).size 0 aH.t;refine⟨_,_,_,cZ,?_,(de.drew _ w C).trans (de.alloc _ w.drew C _ ((ie s).length*1)) (λ_ _ M=>M)⟩;have eX:=Hi (w:=w.drew) (C:=C) (tg:=.none) (k:=1) (xs:=(ie s).map (D.int .i32)) (e:=aH.t) (cap:=grownCap w (Conv.runesFrom ⟨⟨s⟩⟩ s.length 0 #[]).size 0 aH.t) (vs:=(Conv.runesFrom ⟨⟨s⟩⟩ s.length 0 #[]++Array.replicate (grownCap w (Conv.runesFrom ⟨⟨s⟩⟩ s.length 0 #[]).size 0 aH.t-(Conv.runesFrom ⟨⟨s⟩⟩ s.length 0 #[]).size) (Value.int .i32 0)).toList) (λx J=>by obtain⟨n,_,rfl⟩:=au_.1 J;rfl) auE (grownCap_le_maxLen _ _ _ _ (by simp at hsz;unfold maxLen;omega)) (λj d O=>by rw[Hh]at O;rw[au',avS]at O;obtain⟨n,ar,rfl⟩:=O;refine⟨.int .i32 n,?_,.int _ _,rfl⟩;rw[axg,DW];simp only[av4];rw[au3 (by have:=(avk.1 ar).1;simpa[ie]using this)];rw[au'];have:(sC ⟨⟨s⟩⟩ s.length 0)[j]?=some n:=ar;rw[this];rfl) trivial;rw[wF]at eX⊢;simp only[auS]at eX;exact eX;exact False.elim I;rename_i bJ tg k xs iI p4;split at I;rename_i aH i1;obtain⟨fp,rfl⟩:=hT.get i1;replace I:=ig I;obtain⟨G,zs,rfl,hK⟩:=I;simp only[auQ]at G;have kw:=Sn G.1;obtain rfl:k=1:=avb G.2;refine⟨_,hK,λw C v af=>?_⟩;rcases af.kt with⟨h1,⟨a0,X⟩,_⟩|⟨ey,o,cap,g,X,_,_,hc,_,Z,_,gg,_,eX⟩;(have:zs=[]:=by simpa using h1);subst this;refine⟨.string ⟨⟨[]⟩⟩,w,C,?_,.N _,.refl _ _ _⟩;(cases a0 with|none=>rw[X,run_convert_runes_nil w a.t b.t aH.t 0 0 (zB.j2 iI) (fp.sD kw) (zC.p0 p4)];rfl|some dT =>rw[X,run_convert_runes w a.t b.t aH.t dT 0 0 [] (auW _) (zB.j2 iI) (fp.sD kw) (zC.p0 p4) (λj ad=>by simp at ad)];rfl);refine⟨_,w,C,?_,.N _,.refl _ _ _⟩;(have Bt:∀j,j<zs.length->w.cell? (Addr.add ⟨ey,o,none⟩ j)=some (.int .i32 (zs.getD j 0)):=λj ad=>by(have O:(b4 (zs.map (D.int .i32)))[j]?=some (.int .i32 zs[j]):=by rw[Hh];simp[ad]);have h1:=gg j _ O;rw[(eX j _ O).fC]at h1;rw[p1,h1];simp[List.getD,ad]);rw[X,run_convert_runes w a.t b.t aH.t ⟨ey,o,none⟩ _ cap zs auF (zB.j2 iI) (fp.sD kw) (zC.p0 p4) Bt,acH];simp;exact False.elim I;exact False.elim I;exact False.elim I
variable{aH:bC}
theorem acJ{e:bC}(aq:e.f' P)(i1:aH.f' P)(b2:e.kind=.slice aH.t)(bn:aH.zero.isSome=true)(h0:0<aH.aB){n:Nat}(ar:n*aH.aB<=16777216){ds:List (Nat×D)}(sF:ds.length=n)(dQ:tC aH.aB 0 ds){vs:List (Nat×Value)}(h1:vs.map (·.1)=ds.map (·.1))(A:db w C (ds.map (·.2)) (vs.map (·.2))): ∃v w' aW,(Instr.buildSlice e.t n ⟨vs⟩).run P w=.ok v w'/\bh w' aW (.T .dZ aH.aB (ds.map (·.2))) v/\de (λ_=>False) w C w' aW:=by obtain⟨Q,bn⟩:=axH.1 bn;obtain⟨i,hi,hs,_,oB⟩:=i1.pZ;obtain⟨e1,oC,nf,iH⟩:=oB Q bn;obtain⟨tF,hcells⟩:=Lw dQ;have au:=aq.j2 b2;(have o':vs.length=n:=by have:=A.1;simp only[auS]at this;omega);(have gc:vs=((vs.map (·.2)).zipIdx 0).map λx=>(x.2,x.1):=ayd);(have hsz:∀(j:Nat) d v,(ds.map (·.2))[j]?=some d->(vs.map (·.2))[j]?=some v->d.cells.length=aH.aB/\v.cells.size=aH.aB/\db w C d.cells v.cells.toList/\∀ao∈v.cells.toList,ao.oneCell'=true:=ayu);(have mJ:∀v∈vs.map (·.2),v.cells.size=aH.aB:=ayo);have DX:=Great.fill_whole h0 (vs.map (·.2)) ((Array.range (n*aH.aB)).map (e1.cells[·%e1.cells.size]!)) mJ (by simp only[auS,o',Array.size_map,Array.size_range]);rw[<-gc]at DX;(have cZ:(Instr.buildSlice e.t n ⟨vs⟩).run P w=.ok (.slice (some ⟨w.heap.size,0,none⟩) n n) (w.alloc (.cells ((vs.map (·.2)).flatMap λv=>v.cells.toList).toArray aH.t)):=ax');refine⟨_,_,_,cZ,?_,de.alloc _ w C _ (n*aH.aB)⟩;(have aj:(ds.map (·.2)).length=n:=by simpa using sF);(have Z:∀x∈ds.map (·.2),x.cells.length=aH.aB:=ayp);have dg:=Lx (w:=w) (C:=C) (ds:=ds.map (·.2)) (vs:=vs.map (·.2)) A.1 (λi d v O X=>(hsz i d v O X).2.2.1);have:=Hi (w:=w) (C:=C) (tg:=.dZ) (k:=aH.aB) (xs:=ds.map (·.2)) (vs:=(vs.map (·.2)).flatMap λv=>v.cells.toList) (e:=aH.t) (cap:=n) Z auD (by simp only[maxLen];have:n<=n*aH.aB:=axL n h0;omega) (λj d O=>ayc) ⟨_,_,by rw[aj]⟩;rw[aj]at this;exact this
theorem LC{t:TypeId}{k:rA}(h:Hb P t k=true): (∃q,k=.int q/\P.underlying t=some (.int q))\/(k=.bool/\P.underlying t=some .bool)\/(k=.N/\P.underlying t=some .string):=by unfold Hb at h;split at h;rename_i q pa au;simp only[avp]at h;subst h;exact .inl ⟨q,rfl,au⟩;rename_i au;exact .inr (.inl ⟨rfl,au⟩);rename_i au;exact .inr (.inr ⟨rfl,au⟩);cases h
theorem LD:∀{ae:List rA} {xs bl:List D} {K:Bool->Prop} (_:Bk ae xs bl K),∃b,K b/\∀(d:Nat) (b':List Field) (n:Nat) (w:World) (C:Nat->Nat) (bQ ng:List Value),wC P b' ae n=true->db w C xs (bQ.drop n)->db w C bl (ng.drop n)->(Op.eqFields (d+1) ⟨bQ⟩ ⟨ng⟩ b').run P w=.ok b w
 |[],[],[],K,I=>⟨true,I,λd b' n w C bQ ng G _ _=>by cases b' with|nil=>simp[Op.eqFields]|cons f b'=>simp[wC]at G⟩
 |k::ae,x::xs,y::bl,K,I=>by simp only[Bk]at I;(have key:∃b,Bk ae xs bl (λc=>K (b&&c))/\∀(d:Nat) (t:TypeId) (w:World) (C:Nat->Nat) (ao v:Value),Hb P t k=true->bh w C x ao->bh w C y v->(Op.equalIn (d+1) t ao v).run P w=.ok b w/\wB P t=some false:=by unfold R8 at I;split at I;rename_i asl cP a d0 b;replace I:=ig I;obtain⟨Z,I⟩:=I;obtain rfl:=Hc Z;refine⟨_,I,λd t w C ao v ax au X=>?_⟩;rcases LC ax with⟨q,rD,c0⟩|⟨h,_⟩|⟨h,_⟩;rw[au.fC,X.fC];exact⟨run_equalIn_int w d t cP q a b c0,by simp[wB,c0]⟩;cases h;cases h;rename_i a b;refine⟨_,I,λd t w C ao v ax au X=>?_⟩;rcases LC ax with⟨q,h,_⟩|⟨h,_⟩|⟨_,c0⟩;cases h;cases h;rw[au.kS,X.kS];refine⟨?_,by simp[wB,c0]⟩;have:=run_equalIn_string (P:=P) w d t ⟨⟨a⟩⟩ ⟨⟨b⟩⟩ c0;rw[ByteArray.toList_eq,ByteArray.toList_eq]at this;exact this;rename_i a b;refine⟨_,I,λd t w C ao v ax au X=>?_⟩;rcases LC ax with⟨q,h,_⟩|⟨_,c0⟩|⟨h,_⟩;cases h;rw[au.hY,X.hY];exact⟨run_equalIn_bool' w d t a b c0,by simp[wB,c0]⟩;cases h;exact False.elim I);obtain⟨b,I,G⟩:=key;obtain⟨c,hK,hc⟩:=LD I;refine⟨b&&c,hK,λd b' n w C bQ ng aq J hy=>?_⟩;cases b' with|nil=>simp[wC]at aq|cons f b' =>simp only[wC,auQ]at aq;obtain⟨⟨⟨h1,A⟩,aa⟩,aF⟩:=aq;have xV:=avb h1;(have Hj:n<bQ.length:=by have:=J.1;simp at this;omega);(have So:n<ng.length:=by have:=hy.1;simp at this;omega);have Hk:bQ.drop n=bQ[n]::bQ.drop (n+1):=avL Hj;have acK:ng.drop n=ng[n]::ng.drop (n+1):=avL So;rw[Hk]at J;rw[acK]at hy;obtain⟨a8,cN⟩:=G d f.type w C _ _ A J.head hy.head;have e2:=hc d b' (n+1) w C bQ ng aF J.tail hy.tail;(have aZ : f.name ≠ "_" := by simpa using aa);simp only[Op.eqFields,auO aZ,Sem.run_bind,part,Hd cN,Result.andThen_ok,avT,awq,xV];(have g1:(⟨bQ⟩:Array Value)[n]?=some bQ[n]:=by simp[Hj]);(have fI:(⟨ng⟩:Array Value)[n]?=some ng[n]:=by simp[So]);rw[g1,fI];simp only[Sem.run_pure,Result.andThen_ok,a8];cases b<;>simp[e2]
 |[],[],_::_,_,I=>False.elim I
 |[],_::_,_,_,I=>False.elim I
 |_::_,[],_,_,I=>False.elim I
 |_::_,_::_,[],_,I=>False.elim I
theorem acL{ay:List bC}(hT:df P ay){op:BinOp}{x y:D}{K:D->Prop}(I:Lc ay h op t x y K)(zD zE:Operand): ∃d,K d/\(h=true->∀(w:World) (C:Nat->Nat) (ao v:Value),bh w C x ao->bh w C y v->∃r,(do eqGuard op t zD zE ao v;binOp op t ao v:Sem Value).run P w=.ok r w/\bh w C d r):=by unfold Lc at I;split at I;rename_i k a bE b;obtain⟨d,hK,O⟩:=aco (P:=P) I;refine⟨d,hK,λax w C ao v au X=>?_⟩;obtain⟨r,cZ,af⟩:=O ax;refine⟨r,?_,af w C⟩;rw[au.fC,X.fC];simp only[Sem.run_bind,zv op t zD zE (.int k a) (.int bE b) w (λ_ h=>by cases h) auK,Result.andThen_ok,cZ];rename_i a b;obtain⟨d,hK,O⟩:=acp (P:=P) I;refine⟨d,hK,λax w C ao v au X=>?_⟩;obtain⟨r,cZ,af⟩:=O ax;refine⟨r,?_,af w C⟩;rw[au.kS,X.kS];simp only[Sem.run_bind,zv op t zD zE (.string ⟨⟨a⟩⟩) (.string ⟨⟨b⟩⟩) w (λ_ h=>by cases h) auK,Result.andThen_ok,cZ];rename_i a b;split at I;exact False.elim I;rename_i e aq;obtain⟨c5,rfl⟩:=hT.get aq;replace I:=ig I;obtain⟨G,I⟩:=I;(have b2:e.kind=.bool:=by unfold R9 at G;split at G<;>simp_all);have au:=c5.acm b2;split at I;refine⟨_,I,λax w C ao v c0 X=>⟨_,?_,.bool _⟩⟩;rw[c0.hY,X.hY];simp only[Sem.run_bind,zv _ e.t zD zE (.bool a) (.bool b) w (λ_ h=>by cases h) auK,Result.andThen_ok];simp[binOp,Op.equal,Op.maxDepth,run_equalIn_bool' w 9999 e.t a b au];refine⟨_,I,λax w C ao v c0 X=>⟨_,?_,.bool _⟩⟩;rw[c0.hY,X.hY];simp only[Sem.run_bind,zv _ e.t zD zE (.bool a) (.bool b) w (λ_ h=>by cases h) auK,Result.andThen_ok];simp[binOp,Op.equal,Op.maxDepth,run_equalIn_bool' w 9999 e.t a b au];exact False.elim I;rename_i xs bl;split at I;rename_i e aq;obtain⟨c5,rfl⟩:=hT.get aq;split at I;replace I:=ig I;obtain⟨hc,I⟩:=I;obtain⟨b,hK,G⟩:=LD (P:=P) I;refine⟨_,hK,λax w C ao v au X=>⟨.bool b,?_,.bool b⟩⟩;obtain⟨bQ,rfl,J⟩:=au.tw;obtain⟨ng,rfl,hy⟩:=X.tw;rw[auQ]at hc;(have b2:e.kind=.struct:=by have:=hc.1;unfold G9 at this;split at this<;>simp_all);obtain⟨b',ku,_,_,a1,aS,ii⟩:=c5.Bo b2;(have ii:wC P b'.toList e.uY 0=true:=ayU);(have sG:P.underlying e.t=some (.struct (P.fieldsOf e.t)):=by simp[Program.fieldsOf,ku]);(have LF:P.fieldsOf e.t=b':=by simp[Program.fieldsOf,ku]);have:=G 9998 b'.toList 0 w C bQ ng ii (by simpa using J) (by simpa using hy);simp only[Sem.run_bind,run_eqGuard_agg w _ e.t zD zE ⟨bQ⟩ ⟨ng⟩ aS,Result.andThen_ok,run_eql_struct];rw[show(10000:Nat)=9999+1 from rfl,run_equalIn_struct w 9999 e.t ⟨bQ⟩ ⟨ng⟩ sG a1,LF,this];rfl;replace I:=ig I;obtain⟨hc,I⟩:=I;obtain⟨b,hK,G⟩:=LD (P:=P) I;refine⟨_,hK,λax w C ao v au X=>⟨.bool (!b),?_,.bool (!b)⟩⟩;obtain⟨bQ,rfl,J⟩:=au.tw;obtain⟨ng,rfl,hy⟩:=X.tw;rw[auQ]at hc;(have b2:e.kind=.struct:=by have:=hc.1;unfold G9 at this;split at this<;>simp_all);obtain⟨b',ku,_,_,a1,aS,ii⟩:=c5.Bo b2;(have ii:wC P b'.toList e.uY 0=true:=ayU);(have sG:P.underlying e.t=some (.struct (P.fieldsOf e.t)):=by simp[Program.fieldsOf,ku]);(have LF:P.fieldsOf e.t=b':=by simp[Program.fieldsOf,ku]);have:=G 9998 b'.toList 0 w C bQ ng ii (by simpa using J) (by simpa using hy);simp only[Sem.run_bind,run_eqGuard_agg w _ e.t zD zE ⟨bQ⟩ ⟨ng⟩ aS,Result.andThen_ok,run_neq_struct];rw[show(10000:Nat)=9999+1 from rfl,run_equalIn_struct w 9999 e.t ⟨bQ⟩ ⟨ng⟩ sG a1,LF,this];rfl;exact False.elim I;exact False.elim I;exact False.elim I
theorem Bu{ay:List bC}(hT:df P ay){o:Oper}{K:D->Prop}(I:pY P B ay z h o.op K): ∃d,K d/\(h=true->∀(ρ:Operand->Value) (w:World) (C:Nat->Nat) (Ft:Nat->Prop),pV B w->mc Ft w C z.H->(∀x∈o.op.operands,bh w C (z.bb x) (ρ x))->hR P d w C ((execOp ρ o).run P w)):=by obtain⟨dst,op,type,pos,after,guard⟩:=o;cases op<;>simp only[pY]at I;(case move x =>obtain⟨d,hK,O⟩:=iZ I;exact⟨d,hK,λax ρ w C Ft _ _ c3=>hR.same (O ax w C _ (c3 x (by simp[Op.operands])))⟩);(case assign x =>obtain⟨d,hK,O⟩:=iZ I;exact⟨d,hK,λax ρ w C Ft _ _ c3=>hR.same (O ax w C _ (c3 x (by simp[Op.operands])))⟩);(case pick c a b =>obtain⟨asm,I,LG⟩:=iZ I;split at I;rename_i g;(have run:∀(ρ:Operand->Value) (w:World),ρ c=.bool g->(execOp ρ ⟨dst,.pick c a b,type,pos,after,guard⟩).run P w=.ok (.value (if g then ρ a else ρ b)) w:=by intro ρ w hc;simp[execOp,hc,asBool]);split at I;rename_i x y ha G;refine⟨_,I,λax ρ w C Ft _ _ c3=>?_⟩;rw[run ρ w (LG ax w C _ (c3 c (by simp[Op.operands]))).hY];refine hR.same ?_;have h1:=c3 a (by simp[Op.operands]);rw[ha]at h1;have A:=c3 b (by simp[Op.operands]);rw[G]at A;rw[h1.hY,A.hY];cases g<;>exact .bool _;rename_i x zu y ha G;obtain⟨aS,I⟩:=I;refine⟨_,I,λax ρ w C Ft _ _ c3=>?_⟩;rw[run ρ w (LG ax w C _ (c3 c (by simp[Op.operands]))).hY];refine hR.same ?_;have h1:=c3 a (by simp[Op.operands]);rw[ha]at h1;have A:=c3 b (by simp[Op.operands]);rw[G]at A;rw[h1.hY];(cases g with|true=>exact .bool _|false =>have Bv:=aS ax rfl;subst Bv;(cases A with|pT _ _ A=>simp only[avT,awq];rw[A.hY];exact .bool _));rename_i zu x y ha G;obtain⟨aS,I⟩:=I;refine⟨_,I,λax ρ w C Ft _ _ c3=>?_⟩;rw[run ρ w (LG ax w C _ (c3 c (by simp[Op.operands]))).hY];refine hR.same ?_;have h1:=c3 a (by simp[Op.operands]);rw[ha]at h1;have A:=c3 b (by simp[Op.operands]);rw[G]at A;rw[A.hY];(cases g with|false=>exact .bool _|true =>have Bv:=aS ax rfl;subst Bv;(cases h1 with|pT _ _ h1=>simp only[avV];rw[h1.hY];exact .bool _));exact False.elim I;exact False.elim I);(case binOp op t x y DQ =>obtain⟨rE,I,h3⟩:=iZ I;obtain⟨Sp,I,tG⟩:=iZ I;obtain⟨d,hK,O⟩:=acL (P:=P) hT I x y;refine⟨d,hK,λax ρ w C Ft _ _ c3=>?_⟩;obtain⟨r,af,eX⟩:=O ax w C _ _ (h3 ax w C _ (c3 x (by simp[Op.operands]))) (tG ax w C _ (c3 y (by simp[Op.operands])));(have:(execOp ρ ⟨dst,.binOp op t x y DQ,type,pos,after,guard⟩).run P w=.ok (.value r) w:=by simp only[execOp];rw[Sem.run_bind,af];rfl);rw[this];exact hR.same eX);(case unOp op t x =>replace I:=iZ I;obtain⟨rE,I,h3⟩:=I;split at I;rename_i b;refine⟨_,I,λax ρ w C Ft _ _ c3=>?_⟩;have h1:=(h3 ax w C _ (c3 x (by simp[Op.operands]))).hY;(have:(execOp ρ ⟨dst,.unOp .not t x,type,pos,after,guard⟩).run P w=.ok (.value (.bool (!b))) w:=by simp[execOp,h1,Op.unary]);rw[this];exact hR.same (.bool _);rename_i k n;obtain⟨m,hK,hm⟩:=DR I;refine⟨_,hK,λax ρ w C Ft _ _ c3=>?_⟩;have h1:=(h3 ax w C _ (c3 x (by simp[Op.operands]))).fC;(have:(execOp ρ ⟨dst,.unOp .neg t x,type,pos,after,guard⟩).run P w=.ok (.value (.int k m)) w:=by rw[hm ax];simp[execOp,h1,Op.unary,Op.intArith]);rw[this];exact hR.same (.int _ _);exact False.elim I);(case load t x =>obtain⟨rE,I,h3⟩:=iZ I;obtain⟨d,hK,O⟩:=Sc (P:=P) hT I;refine⟨d,hK,λax ρ w C Ft _ hH c3=>?_⟩;obtain⟨ao,au,af⟩:=O ax w C Ft _ hH (h3 ax w C _ (c3 x (by simp[Op.operands])));(have:(execOp ρ ⟨dst,.load t x,type,pos,after,guard⟩).run P w=.ok (.value ao) w:=by simp[execOp,au]);rw[this];exact hR.same af);(case fieldAddr t x f =>obtain⟨rE,I,h3⟩:=iZ I;obtain⟨d,hK,O⟩:=act (P:=P) hT I;refine⟨d,hK,λax ρ w C Ft _ hH c3=>?_⟩;obtain⟨ao,au,af⟩:=O w C _ (h3 ax w C _ (c3 x (by simp[Op.operands])));(have:(execOp ρ ⟨dst,.fieldAddr t x f,type,pos,after,guard⟩).run P w=.ok (.value ao) w:=by simp[execOp,au]);rw[this];exact hR.same af);(case field t x f =>obtain⟨rE,I,h3⟩:=iZ I;obtain⟨d,hK,O⟩:=acu (P:=P) hT I;refine⟨d,hK,λax ρ w C Ft _ hH c3=>?_⟩;obtain⟨ao,au,af⟩:=O w C _ (h3 ax w C _ (c3 x (by simp[Op.operands])));(have:(execOp ρ ⟨dst,.field t x f,type,pos,after,guard⟩).run P w=.ok (.value ao) w:=by simp[execOp,au]);rw[this];exact hR.same af);(case indexAddr t x eO =>obtain⟨rE,I,h3⟩:=iZ I;obtain⟨di,I,lW⟩:=iZ I;obtain⟨d,hK,O⟩:=acv (P:=P) hT I;refine⟨d,hK,λax ρ w C Ft _ hH c3=>?_⟩;obtain⟨ao,au,af⟩:=O ax w C _ _ (h3 ax w C _ (c3 x (by simp[Op.operands]))) (lW ax w C _ (c3 eO (by simp[Op.operands])));(have:(execOp ρ ⟨dst,.indexAddr t x eO,type,pos,after,guard⟩).run P w=.ok (.value ao) w:=by simp[execOp,au]);rw[this];exact hR.same af);(case index t x eO =>obtain⟨rE,I,h3⟩:=iZ I;obtain⟨di,I,lW⟩:=iZ I;obtain⟨d,hK,O⟩:=acy (P:=P) hT I;refine⟨d,hK,λax ρ w C Ft _ hH c3=>?_⟩;obtain⟨ao,au,af⟩:=O ax w C _ _ (h3 ax w C _ (c3 x (by simp[Op.operands]))) (lW ax w C _ (c3 eO (by simp[Op.operands])));(have:(execOp ρ ⟨dst,.index t x eO,type,pos,after,guard⟩).run P w=.ok (.value ao) w:=by simp[execOp,au]);rw[this];exact hR.same af);(case slice t x ll hi tB =>obtain⟨rE,I,h3⟩:=iZ I;obtain⟨d,hK,O⟩:=acB (P:=P) hT I;refine⟨d,hK,λax ρ w C Ft _ hH c3=>?_⟩;obtain⟨ao,au,af⟩:=O ax w C _ ρ (h3 ax w C _ (c3 x (by simp[Op.operands]))) (λy hy=>c3 y (by subst hy;simp[Op.operands])) (λy hy=>c3 y (by subst hy;simp[Op.operands])) (λy hy=>c3 y (by subst hy;simp[Op.operands]));(have:(execOp ρ ⟨dst,.slice t x ll hi tB,type,pos,after,guard⟩).run P w=.ok (.value ao) w:=by simp[execOp,au]);rw[this];exact hR.same af);(case convert oz kW x =>obtain⟨rE,I,h3⟩:=iZ I;obtain⟨d,hK,O⟩:=acI (P:=P) hT I;refine⟨d,hK,λax ρ w C Ft _ hH c3=>?_⟩;obtain⟨ao,w',aW,au,af,hs⟩:=O w C _ (h3 ax w C _ (c3 x (by simp[Op.operands])));(have:(execOp ρ ⟨dst,.convert oz kW x,type,pos,after,guard⟩).run P w=.ok (.value ao) w':=by simp only[execOp];rw[Sem.run_bind,au];rfl);rw[this];exact⟨aW,af,hs⟩);(case build t bP =>split at I;rename_i e aq;obtain⟨c5,rfl⟩:=hT.get aq;split at I;rename_i Q bn b2;obtain⟨ds,I,tF,p3⟩:=DV I;obtain⟨aD,hK,hcs⟩:=acG (P:=P) c5 b2 bn I;refine⟨_,hK,λax ρ w C Ft _ hH c3=>?_⟩;have A:=p3 ax w C ρ (λx J=>c3 x.2 (by simp[Op.operands];exact⟨x.1,by simpa using J⟩));obtain⟨v,X,af⟩:=hcs w C (bP.map λ(i,x)=>(i,ρ x)) (by simp[tF]) (by simpa[axa]using A);(have:(execOp ρ ⟨dst,.build e.t bP,type,pos,after,guard⟩).run P w=.ok (.value v) w:=by simp only[execOp];rw[Sem.run_bind,X];rfl);rw[this];exact hR.same af;exact False.elim I;exact False.elim I);(case buildSlice t n bP =>split at I;rename_i e aq;obtain⟨c5,rfl⟩:=hT.get aq;split at I;rename_i bJ b2;split at I;rename_i aH i1;obtain⟨fp,rfl⟩:=hT.get i1;obtain⟨ds,I,tF,p3⟩:=DV I;replace I:=ig I;obtain⟨G,dQ,hK⟩:=I;simp only[auQ]at G;obtain⟨⟨⟨h1,A⟩,aa⟩,aF⟩:=G;refine⟨_,hK,λax ρ w C Ft _ hH c3=>?_⟩;have a8:=p3 ax w C ρ (λx J=>c3 x.2 (by simp[Op.operands];exact⟨x.1,by simpa using J⟩));obtain⟨v,w',aW,X,af,hs⟩:=acJ (P:=P) c5 fp b2 aF (avx (avt _) (avj aa)) (avj A) (avb h1) dQ (w:=w) (C:=C) (vs:=(bP.map λ(i,x)=>(i,ρ x)).toList) (by simp[tF]) (by simpa[axa]using a8);(have:(execOp ρ ⟨dst,.buildSlice e.t n bP,type,pos,after,guard⟩).run P w=.ok (.value v) w':=by simp only[execOp];rw[Sem.run_bind,X];rfl);rw[this];exact⟨aW,af,hs⟩;exact False.elim I;exact False.elim I;exact False.elim I);(case makeFunc f first ox =>obtain⟨b',I,ku⟩:=DU I;obtain⟨aD,I,hcs⟩:=DU I;refine⟨_,I,λax ρ w C Ft _ hH c3=>?_⟩;have h1:=ku ax w C ρ (λx J=>c3 x (by simp[Op.operands];exact .inl (by simpa using J)));have A:=hcs ax w C ρ (λx J=>c3 x (by simp[Op.operands];exact .inr (by simpa using J)));(have:(execOp ρ ⟨dst,.makeFunc f first ox,type,pos,after,guard⟩).run P w=.ok (.value (.func f ⟨first.toList.map ρ⟩ ⟨ox.toList.map ρ⟩)) w:=by simp only[execOp,Instr.makeFunc,Sem.run_bind,Sem.run_pure,Result.andThen_ok];congr 3;apply awC;simp;apply awC;simp);rw[this];exact hR.same (.fn f b' aD _ _ h1.1 A.1 h1.2 A.2));(case extract x i =>obtain⟨rE,I,h3⟩:=iZ I;split at I;rename_i ds;split at I;rename_i d O;refine⟨d,I,λax ρ w C Ft _ hH c3=>?_⟩;obtain⟨vs,X,af⟩:=(h3 ax w C _ (c3 x (by simp[Op.operands]))).aci;have bg:i<vs.length:=af.1 ▸ fu O;have aS:vs[i]?=some vs[i]:=auR bg;(have:(execOp ρ ⟨dst,.extract x i,type,pos,after,guard⟩).run P w=.ok (.value vs[i]) w:=by simp[execOp,Instr.extract,X,bg]);rw[this];exact hR.same (af.2 i d _ O aS);exact False.elim I;exact False.elim I);(case call c =>obtain⟨callee,args,argTypes⟩:=c;simp only at I;split at I;rename_i x kX;(have zF:args=#[x]:=by apply awC;simpa using kX);subst zF;replace I:=iZ I;obtain⟨rE,I,h3⟩:=I;split at I;rename_i t qB;(have acM:argTypes=#[t]:=by apply awC;simpa using qB);subst acM;split at I;rename_i e aq;obtain⟨c5,rfl⟩:=hT.get aq;split at I;rename_i s b2;refine⟨_,I,λax ρ w C Ft _ hH c3=>?_⟩;have h1:=(h3 ax w C _ (c3 x (azq))).kS;have au:=c5.p0 b2;(have:(execOp ρ ⟨dst,.call ⟨.builtin .len,#[x],#[e.t]⟩,type,pos,after,guard⟩).run P w=.ok (.value (.int .i64 s.length)) w:=by have hs:(⟨⟨s⟩⟩:ByteArray).size=s.length:=rfl;simp[execOp,resolve,invoke,builtin,Builtin.len_,run_underlying au,h1,goInt,hs]);rw[this];exact hR.same (.int _ _);rename_i bJ tg k xs b2;refine⟨_,I,λax ρ w C Ft _ hH c3=>?_⟩;have h1:=(h3 ax w C _ (c3 x (azq))).kt;(have A:∃a cap,ρ x=.slice a xs.length cap:=by rcases h1 with⟨rfl,⟨_,h⟩,_⟩|⟨b,o,cap,g,h,_⟩;exact⟨_,_,h⟩;exact⟨_,_,h⟩);obtain⟨a,cap,A⟩:=A;have au:=c5.j2 b2;(have:(execOp ρ ⟨dst,.call ⟨.builtin .len,#[x],#[e.t]⟩,type,pos,after,guard⟩).run P w=.ok (.value (.int .i64 xs.length)) w:=ayJ);rw[this];exact hR.same (.int _ _);rename_i bJ b2;refine⟨_,I,λax ρ w C Ft _ hH c3=>?_⟩;have A:=(h3 ax w C _ (c3 x (azq))).xS;have au:=c5.j2 b2;(have:(execOp ρ ⟨dst,.call ⟨.builtin .len,#[x],#[e.t]⟩,type,pos,after,guard⟩).run P w=.ok (.value (.int .i64 0)) w:=ayJ);rw[this];exact hR.same (.int _ _);rename_i bJ bS n Sq b2;refine⟨_,I,λax ρ w C Ft _ hH c3=>?_⟩;have A:=(h3 ax w C _ (c3 x (azq))).gh;have au:=c5.j2 b2;(have:(execOp ρ ⟨dst,.call ⟨.builtin .len,#[x],#[e.t]⟩,type,pos,after,guard⟩).run P w=.ok (.value (.int .i64 n)) w:=ayJ);rw[this];exact hR.same (.int _ _);exact False.elim I;exact False.elim I;exact False.elim I;rename_i x y kX;(have zF:args=#[x,y]:=by apply awC;simpa using kX);subst zF;replace I:=iZ I;obtain⟨rE,I,h3⟩:=I;replace I:=iZ I;obtain⟨Sp,I,tG⟩:=I;split at I;rename_i k a bE b;refine⟨_,I,λax ρ w C Ft _ hH c3=>?_⟩;have h1:=(h3 ax w C _ (c3 x (azq))).fC;have A:=(tG ax w C _ (c3 y (azq))).fC;(have:(execOp ρ ⟨dst,.call ⟨.builtin .max,#[x,y],argTypes⟩,type,pos,after,guard⟩).run P w=.ok (.value (.int k (if b>a then b else a))) w:=by simp[execOp,resolve,invoke,builtin,Builtin.max_,Builtin.max2,h1,A]);rw[this];exact hR.same (.int _ _);exact False.elim I;rename_i x y kX;(have zF:args=#[x,y]:=by apply awC;simpa using kX);subst zF;replace I:=iZ I;obtain⟨rE,I,h3⟩:=I;replace I:=iZ I;obtain⟨Sp,I,tG⟩:=I;split at I;rename_i k a bE b;refine⟨_,I,λax ρ w C Ft _ hH c3=>?_⟩;have h1:=(h3 ax w C _ (c3 x (azq))).fC;have A:=(tG ax w C _ (c3 y (azq))).fC;(have:(execOp ρ ⟨dst,.call ⟨.builtin .min,#[x,y],argTypes⟩,type,pos,after,guard⟩).run P w=.ok (.value (.int k (if b<a then b else a))) w:=by simp[execOp,resolve,invoke,builtin,Builtin.min_,Builtin.min2,h1,A]);rw[this];exact hR.same (.int _ _);exact False.elim I;rename_i f;replace I:=iZ I;obtain⟨acN,I,LH⟩:=I;split at I;(rename_i b6 first cs;replace I:=DU I;obtain⟨wA,I,has⟩:=I;obtain⟨g8,d,M,dP,hK⟩:=I;refine⟨d,hK,λax ρ w C Ft p5 hH c3=>?_⟩;obtain⟨⟨fn,jm,rF,kY⟩,DZ⟩:=M ax;obtain⟨fN,hr,X,h1,A⟩:=(LH ax w C _ (c3 f (azq))).uX;have aa:=has ax w C ρ (λx J=>c3 x (by simp[Op.operands,Call.operands];exact .inr (by simpa using J)));have aF:=dP.rB ((h1.append aa).append A);have G:fn.body.isNone=false:=by cases G:fn.body<;>simp[G]at rF⊢);(have:(execOp ρ ⟨dst,.call ⟨.value f,args,argTypes⟩,type,pos,after,guard⟩).run P w=.ok (.enter b6 ⟨fN++args.toList.map ρ++hr⟩) w:=aym);rw[this];exact⟨rfl,DZ w C _ p5 aF⟩;exact False.elim I;exact False.elim I);(case nilCheck x =>replace I:=iZ I;obtain⟨rE,I,h3⟩:=I;split at I;refine⟨_,I,λax ρ w C Ft _ hH c3=>?_⟩;have X:=h3 ax w C _ (c3 x (by simp[Op.operands]));(have:(execOp ρ ⟨dst,.nilCheck x,type,pos,after,guard⟩).run P w=.ok (.value (ρ x)) w:=by simp only[execOp,X.wy,Sem.run_pure]);rw[this];exact hR.same X;refine⟨_,I,λax ρ w C Ft _ hH c3=>?_⟩;have X:=h3 ax w C _ (c3 x (by simp[Op.operands]));(have:(execOp ρ ⟨dst,.nilCheck x,type,pos,after,guard⟩).run P w=.ok (.value (ρ x)) w:=by(obtain⟨b,o,h⟩:∃b o,ρ x=.pointer (some ⟨b,o,none⟩):=by generalize ρ x=v at X;cases X;exact⟨_,_,rfl⟩);simp only[execOp,h,Sem.run_pure]);rw[this];exact hR.same X;exact False.elim I);all_goals exact False.elim I
theorem ij{o:Obj}(h:w.heap[b]?=some o):b<w.heap.size:=(awt.1 h).1
theorem tx.lt{o:aJ}(h:tx w C o)(au:o.es b):b<w.heap.size:=by cases o with|box ey aD =>obtain⟨vs,e,G,_⟩:=h;simp only[aJ.es]at au;subst au;exact ij G|own v n k e =>obtain⟨a,cap,X,ar,_,cz⟩:=h;obtain⟨o,iF,dU,bg⟩:=au;rw[X]at dU;simp only[Value.slice.injEq]at dU;obtain⟨rfl,_,rfl⟩:=dU;obtain⟨ey,vs,ha,G,_⟩:=cz bg;simp only[avi,Addr.mk.injEq]at ha;obtain⟨rfl,_,_⟩:=ha;exact ij G|row v xs k e =>obtain⟨a,cap,X,_,_,_,_,cz⟩:=h;obtain⟨n,iF,dU,bg⟩:=au;rw[X]at dU;simp only[Value.slice.injEq]at dU;obtain⟨rfl,_,rfl⟩:=dU;obtain⟨ey,vs,ha,G,_⟩:=cz bg;simp only[avi,Addr.mk.injEq]at ha;obtain⟨rfl,_,_⟩:=ha;exact ij G|set ey ae =>obtain⟨eN,iX,G,_⟩:=h;simp only[aJ.es]at au;subst au;exact ij G|cl ey o =>simp only[aJ.es]at au;subst au;exact ij h.1|mp ey cE =>obtain⟨eN,iX,G,_⟩:=h;simp only[aJ.es]at au;subst au;exact ij G|kT ey e aD =>obtain⟨vs,G,_⟩:=h;simp only[aJ.es]at au;subst au;exact ij G
theorem tx.iB{o:aJ}(h:tx w C o)(aq:nQ w C w' aW)(Z:∀b,o.es b->w'.heap[b]?=w.heap[b]?/\aW b=C b):tx w' aW o:=by cases o with|box b aD =>obtain⟨vs,e,G,af,hc⟩:=h;obtain⟨h1,A⟩:=Z b rfl;exact⟨vs,e,by rw[h1];exact G,af.ext aq,by rw[A];exact hc⟩|own v n k e =>obtain⟨a,cap,X,ar,hm,cz⟩:=h;refine⟨a,cap,X,ar,hm,λbg=>?_⟩;obtain⟨b,vs,ha,G,hs,hc⟩:=cz bg;obtain⟨h1,A⟩:=Z b ⟨0,cap,by rw[X,ha],bg⟩;exact⟨b,vs,ha,by rw[h1];exact G,hs,by rw[A];exact hc⟩|row v xs k e =>obtain⟨a,cap,X,ar,hm,J,fg,cz⟩:=h;refine⟨a,cap,X,ar,hm,J,λdT gR=>(fg dT gR).imp λb G=>⟨G.1,avx G.2 aq.size⟩,λbg=>?_⟩;obtain⟨b,vs,ha,G,hs,hc,af⟩:=cz bg;obtain⟨h1,A⟩:=Z b ⟨xs.length,cap,by rw[X,ha],bg⟩;exact⟨b,vs,ha,by rw[h1];exact G,hs,by rw[A];exact hc,λj d O=>by obtain⟨ao,aa,aF,a8⟩:=af j d O;exact⟨ao,aa,aF.ext aq,a8⟩⟩|set b ae =>obtain⟨eN,iX,G,hc,aa,aF⟩:=h;obtain⟨h1,A⟩:=Z b rfl;exact⟨eN,iX,by rw[h1];exact G,by rw[A];exact hc,aa,aF⟩|cl b o =>obtain⟨h1,A⟩:=Z b rfl;exact⟨by rw[h1];exact h.1,by rw[A];exact h.2⟩|mp b cE =>obtain⟨eN,iX,G,hc,aa,ar,aF⟩:=h;obtain⟨h1,A⟩:=Z b rfl;exact⟨eN,iX,by rw[h1];exact G,by rw[A];exact hc,aa,ar,λi k d e hi pb=>⟨(aF i k d e hi pb).1,(aF i k d e hi pb).2.ext aq⟩⟩|kT b e aD =>obtain⟨vs,G,af,hc⟩:=h;obtain⟨h1,A⟩:=Z b rfl;exact⟨vs,by rw[h1];exact G,af.ext aq,by rw[A];exact hc⟩
theorem mc.tH{H:bH}(h:mc Ft w C H)(hs:de (λ_=>False) w C w' aW):mc Ft w' aW H :=
 ⟨λs o ag=>(h.cl s o ag).iB hs.ext λb G=>hs.iB b ((h.cl s o ag).lt G) (λM=>M),h.inj,h.cQ⟩
theorem bI.tH{W:b5 P B al}{w w':World}{C aW:Nat->Nat}{z:av}{a:Act}(h:bI W w C z a)(hs:de (λ_=>False) w C w' aW):bI W w' aW z a :=
 ⟨λi=>(h.tmps i).ext hs.ext,h.heap.tH hs,h.size,h.defers,h.step.trans hs λ_ _ M=>M.elim⟩
theorem bI.put{W:b5 P B al}{w:World}{C:Nat->Nat}{z:av}{a:Act}(h:bI W w C z a){dst:Option Tmp}(O:iY al dst=true){d:D}{v:Value}(af:bh w C d v): bI W w C (z.put dst d) (a.put dst v):=by cases dst with|none=>exact h|some t =>(have bg:t<a.tmps.size:=by rw[h.size];exact avx (avt _) (avj O));refine⟨λi=>?_,h.heap,by simp[Act.put,h.size],h.defers,h.step⟩;simp only[av.put,Act.put];(cases G:Nat.beq i t with|true =>have:=avb G;subst this;simpa[bg]using af|false =>(have aZ:t≠i:=λe=>by subst e;have:Nat.beq t t=true:=av9 t;rw[G]at this;cases this);have:=h.tmps i;simp only[avZ];rw[show(a.tmps.setIfInBounds t v).getD i undef=a.tmps.getD i undef by simp[axi aZ]];exact this)
theorem rG(z:av)(s:Nat)(o:Option aJ):(z.b_ s o).H s=o:=by simp[av.b_]
theorem awv{a:Nat}(h:a≠b):Nat.beq a b=false:=by cases G:Nat.beq a b with|false=>rfl|true=>exact absurd (avb G) h
variable{bp:Nat}
theorem mK(z:av){s:Nat}(o:Option aJ)(h:bp≠s):(z.b_ s o).H bp=z.H bp:=by simp[av.b_,awv h]
theorem bI.b_{W:b5 P B al}{w w':World}{C aW:Nat->Nat}{z:av}{a:Act}(h:bI W w C z a){Ft:Nat->Prop}(hs:de Ft w C w' aW)(bK:∀b,Ft b->W.pW b){s:Nat}(LI:∀bp o b,bp≠s->z.H bp=some o->o.es b->¬Ft b){o:Option aJ}(ag:∀x,o=some x->tx w' aW x/\∀b,x.es b->W.pW b/\(Ft b\/w.heap.size<=b)):bI W w' aW (z.b_ s o) a:=by refine⟨λi=>(h.tmps i).ext hs.ext,⟨λbp x J=>?_,λfb gx x y b aZ h1 A au c0=>?_,λbp x b J au=>?_⟩,h.size,h.defers,?_⟩;by_cases i6:bp=s;subst i6;rw[rG]at J;exact(ag x J).1;rw[mK z o i6]at J;exact(h.heap.cl bp x J).iB hs.ext λb G=>hs.iB b ((h.heap.cl bp x J).lt G) (LI bp x b i6 J G);by_cases bZ:fb=s;subst bZ;rw[rG]at h1;rw[mK z o (Ne.symm aZ)]at A;rcases((ag x h1).2 b au).2 with M|M;exact LI gx y b (Ne.symm aZ) A c0 M;have:=(h.heap.cl gx y A).lt c0;omega;rw[mK z o bZ]at h1;by_cases b0:gx=s;subst b0;rw[rG]at A;rcases((ag y A).2 b c0).2 with M|M;exact LI fb x b bZ h1 au M;have:=(h.heap.cl fb x h1).lt au;omega;rw[mK z o b0]at A;exact h.heap.inj fb gx x y b aZ h1 A au c0;by_cases i6:bp=s;subst i6;rw[rG]at J;exact((ag x J).2 b au).1;rw[mK z o i6]at J;exact h.heap.cQ bp x b J au;refine h.step.trans hs λb G M=>?_;rcases bK b M with h1|h1;exact h1;omega
variable{W:b5 P B al}
theorem bI.drop(h:bI W w C z a)(s:Nat):bI W w C (z.b_ s none) a :=
 h.b_ (Ft:=λ_=>False) (.refl _ _ _) (λ_ M=>M.elim) (λ_ _ _ _ _ _ M=>M) (λx J=>by cases J)
theorem bI.Hl(h:bI W w C z a):W.pW w.heap.size:=.inr h.step.ext.size
theorem bI.LJ(h:bI W w C z a)(s:Nat){vs:List Value}(e:TypeId)(af:db w C aD vs): bI W (w.alloc (.cells ⟨vs⟩ e)) (gw C w.heap.size 0) (z.b_ s (some (.box w.heap.size aD))) a:=by have hs:=de.alloc (λ_=>False) w C (.cells ⟨vs⟩ e) 0;refine h.b_ hs (λ_ M=>M.elim) (λ_ _ _ _ _ _ M=>M) (λx J=>?_);cases J;refine⟨⟨vs,e,lV _ _,af.ext hs.ext,h2 _ _ _⟩,λb G=>?_⟩;simp only[aJ.es]at G;subst G;exact⟨h.Hl,.inr (auW _)⟩
theorem de.setRow{w:World}{C:Nat->Nat}{g:Nat}{fX aD:Array Value}{e:TypeId}{n:Nat}(aS:w.heap[g]?=some (.cells fX e (0,0)))(ar:C g<=n)(hcs:∀o,o<C g->aD[o]?=fX[o]?):de (λb=>b=g) w C (w.setRow g aD) (gw C g n):=by refine⟨⟨by simp,λb G=>?_,λb o G ag=>?_⟩,rfl,rfl,rfl,λb G aZ=>⟨setRow_other w g b aD aZ,rC _ _ aZ⟩⟩;by_cases e:b=g;subst e;rw[h2];exact ar;rw[rC _ _ e];exact auW _;by_cases nR:b=g;subst nR;simp only[World.cell?,setRow_heap w b fX aD e (0,0) aS,aS];simpa using hcs o ag;simp only[World.cell?,setRow_other w g b aD nR]
theorem cI(h:∀i,bh w C (z.t i) (a.tmps.getD i undef))(x:Operand):bh w C (z.bb x) (a.eval x):=by cases x with|tmp t=>exact h t|const v =>simp only[av.bb,Act.eval];unfold R7;split;exact .bool _;exact .int _ _;rename_i s;obtain⟨⟨l⟩⟩:=s;exact .N l;exact .bd;exact .am _|global g=>exact .am _|func f=>exact .fn _ [] [] [] [] rfl rfl (λi d v h=>by simp at h) (λi d v h=>by simp at h)
theorem Sr{e:bC}{off:Nat}{x:D}{K:List D->Prop}(I:Bl e off aD x K): ∃ds,K (sB aD off ds)/\off+ds.length<=aD.length/\∀(w:World) (C:Nat->Nat) (v:Value),bh w C x v->db w C ds v.cells.toList/\v.cells.size=e.aB/\∀ao∈v.cells.toList,ao.oneCell'=true:=by unfold Bl at I;cases kU:e.agg with|true =>rw[kU]at I;simp only at I;split at I;rename_i ds;replace I:=ig I;obtain⟨G,I⟩:=I;simp only[auQ]at G;refine⟨ds,I,avj G.1.2,λw C v af=>?_⟩;obtain⟨vs,rfl,h⟩:=af.tw;have aj:=avb G.1.1;refine⟨h,by simp only[Value.cells,avN];rw[<-h.1,aj],λao au=>?_⟩;simp only[Value.cells]at au;obtain⟨j,ad⟩:=avd.1 au;obtain⟨d,O⟩:=lU (l:=ds) (i:=j) (by rw[h.1];exact fu ad);have:=avz.1 G.2 d (au5 O);exact((h.2 j d ao O ad).oA this).2;exact False.elim I|false =>rw[kU]at I;simp only at I;replace I:=ig I;obtain⟨G,I⟩:=I;simp only[auQ]at G;have bg:off<aD.length:=avx (avt _) (avj G.1.1);refine⟨[x],by rw[<-Sj bg];exact I,by simp;omega,λw C v af=>?_⟩;obtain⟨h1,A⟩:=af.oA G.1.2;have hsz:=avb G.2;rw[h1];exact⟨.cons af (.nil _ _),by simp[hsz],by simpa using A⟩
theorem rH(l dm:List α)(off:Nat)(h:off+dm.length<=l.length)(k:Nat): (l.take off++dm++l.drop (off+dm.length))[k]?=if off<=k/\k<off+dm.length/\k<l.length then dm[k-off]? else l[k]?:=by by_cases h1:k<off;rw[auN auD,avr,au3 auE,avE,auO h1];by_cases A:k<off+dm.length;rw[auO ⟨by omega,A,by omega⟩,avr,avl auE,au3 auE];congr 1;simp;omega;rw[auN auD,avl auE,awK];congr 1;simp;omega
theorem acO(h:bI W w C z a){e:bC}(aq:e.f' P){s off:Nat}(hH:z.H s=some (.box b aD)){x:D}{K:List D->Prop}(I:Bl e off aD x K)(af:bh w C x v): ∃dA w' aW,K dA/\(Instr.storeAt e.t (.pointer (some ⟨b,off,none⟩)) v).run P w=.ok () w'/\bI W w' aW (z.b_ s (some (.box b dA))) a:=by obtain⟨ds,hK,dP,p3⟩:=Sr I;obtain⟨h1,A,aa⟩:=p3 w C v af;obtain⟨vs,bJ,G,hZ,da⟩:=h.heap.cl s _ hH;(have hv:off+0+v.cells.toList.length<=(⟨vs⟩:Array Value).size:=by have:=h1.1;have:=hZ.1;simp only[avN];omega);have cZ:=run_storeCells_at P b off bJ v.cells.toList 0 ⟨vs⟩ w G hv aa;simp only[aw9]at cZ;have a1:=de.setRow (C:=C) (n:=0) G (aD:=(vs.take off++v.cells.toList++vs.drop (off+v.cells.toList.length)).toArray) auD (λo ag=>by omega);refine⟨_,_,_,hK,?_,h.b_ a1 (s:=s) (λx J=>by subst J;exact h.heap.cQ s _ _ hH rfl) (λbp bN ey aZ dn au nV=>?_) λy hy=>?_⟩;simp only[Instr.storeAt,Instr.sureAddr,Sem.run_bind,Sem.run_pure,Result.andThen_ok,storeVar,aq.size,A];simpa using cZ;subst nV;exact h.heap.inj bp s bN _ ey aZ dn hH au rfl;cases hy;refine⟨⟨_,bJ,setRow_heap w b _ _ bJ _ G,?_,h2 _ _ _⟩,λx J=>?_⟩;have LK:=(hZ.ext a1.ext).laid (h1.ext a1.ext) dP (r:=(vs.take off++v.cells.toList++vs.drop (off+v.cells.toList.length)).toArray) (by simp only[avN,auV,au9,avX];simp only[avN]at hv;omega) (λk=>by rw[awH];exact rH vs v.cells.toList off (by simpa using hv) k);simpa using LK;simp only[aJ.es]at J;subst J;exact⟨h.heap.cQ s _ x hH rfl,.inl rfl⟩
theorem LL{b:Addr}{n:Nat}(h:bh w C (.T tg k xs) (.slice (some b) n cap)): ∃dm:List Value,dm.length=xs.length*k/\(∀(j:Nat) ao,dm[j]?=some ao->w.cell? (b.add j)=some ao)/\(∀(j:Nat) d,(b4 xs)[j]?=some d->∃ao,dm[j]?=some ao/\bh w C d ao/\ao.oneCell'=true)/\(∀ao∈dm,ao.oneCell'=true)/\(∀x∈xs,x.cells.length=k):=by rcases h.kt with⟨J,X,_⟩|⟨ey,o,iF,g,X,_,_,_,_,Z,_,gg,en,eX⟩;subst J;exact⟨[],by simp,λj ao au=>by simp at au,λj d O=>by simp[b4]at O,λao au=>by simp at au,λx J=>by simp at J⟩;simp only[Value.slice.injEq,avi]at X;obtain⟨rfl,rfl,rfl⟩:=X;have dg:=qx Z;(have h4:∀j,j<xs.length*k->((List.range (xs.length*k)).map g)[j]?=some (g j):=λj ad=>by simp[ad]);refine⟨(List.range (xs.length*k)).map g,by simp,λj ao au=>?_,λj d O=>?_,λao au=>?_,Z⟩;(have ad:j<xs.length*k:=by have:=fu au;simpa using this);obtain⟨d,O⟩:=lU (l:=b4 xs) (i:=j) auD;rw[h4 j ad]at au;cases au;rw[p1];exact gg j d O;(have ad:j<xs.length*k:=by have:=fu O;omega);exact⟨g j,h4 j ad,eX j d O,en j d O⟩;obtain⟨j,ad,rfl⟩:=au_.1 au;(have ad:j<xs.length*k:=by simpa using ad);obtain⟨d,O⟩:=lU (l:=b4 xs) (i:=j) auD;exact en j d O
theorem bh.acP(h:bh w C (.T tg k xs) v)(ax:nT.f' v):bh w C (.T nT k xs) v:=by rcases h.kt with⟨rfl,⟨a,rfl⟩,_⟩|⟨b,o,cap,g,rfl,_,G,hc,hm,Z,da,gg,en,eX⟩;exact .jj nT k a ax;exact .T nT k xs b o cap g ax G hc hm Z da gg en eX
theorem u4(l r:List α)(j:Nat):(l++r)[j]?=if j<l.length then l[j]? else r[j-l.length]?:=by by_cases h:j<l.length;rw[auO h,au3 h];rw[auN h,avl auD]
variable{bl:List D}{ln:TypeId}
theorem Ss(h:bI W w C z a){e:bC}(aq:e.f' P)(i1:aH.f' P)(b2:e.kind=.slice aH.t)(bn:aH.zero≠none)
    {vs bQ:Value} (wG:bh w C (.T tg aH.aB xs) vs) (wH:bh w C (.T nT aH.aB bl) bQ) (mL:(xs.length+bl.length)*aH.bytes<=140737488355328)
  (nh:xs.length+bl.length<=9223372036854775807) {q dst:Nat} 
  (wI:(∃bS n,vs=.slice bS n n)/\q=dst\/z.H q=some (.own vs xs.length aH.aB aH.t)) :
  ∃v w' aW,(Builtin.append_ #[e.t,e.t] ln #[vs,bQ]).run P w=.ok v w'/\bh w' aW (.T (.own dst v) aH.aB (xs++bl)) v/\
   bI W w' aW ((z.b_ q none).b_ dst (some (.own v (xs.length+bl.length) aH.aB aH.t))) a:=by
 have au:=aq.j2 b2;obtain⟨i,hi,hsz,tI,oB⟩:=i1.pZ;obtain⟨Q,bn⟩:=Option.ne_none_iff_exists'.1 bn;obtain⟨e1,oC,nf,iH⟩:=oB Q bn;have LM:e1.cells.size=aH.aB:=by have:=(iH w C).1;rw[nf]at this;simpa using this.symm
 have M:=h.drop q;have hlen:(xs++bl).length=xs.length+bl.length:=by simp
 have acQ:∃bS cap,vs=.slice bS xs.length cap/\xs.length<=cap/\cap<=maxLen:=by
  rcases wG.kt with⟨rfl,⟨a0,X⟩,_⟩|⟨b,o,cap,g,X,_,_,hc,hm,_⟩
  ·exact⟨a0,0,X,by simp,au7 _⟩
  exact⟨_,cap,X,hc,hm⟩
 obtain⟨bS,cap,gc,hcap,Hm⟩:=acQ
 have hy:∃ab u5,bQ=.slice ab bl.length u5:=by
  rcases wH.kt with⟨rfl,⟨a0,X⟩,_⟩|⟨b,o,cap,g,X,_⟩
  ·exact⟨a0,0,X⟩
  exact⟨_,_,X⟩
 obtain⟨ab,u5,fY⟩:=hy;by_cases hm:bl.length=0
 ·
  have acR:bl=[]:=au1 hm;subst acR
  have cZ:(Builtin.append_ #[e.t,e.t] ln #[vs,bQ]).run P w=.ok vs w:=by
   subst gc fY;have a1:∀(b:Addr),(storeCells b []).run P w=.ok () w:=λb=>rfl;cases ab<;>cases bS<;>simp[Builtin.append_,run_underlying au,sizeOf,typeInfo,hi,Builtin.lenOf,Builtin.firstCells,loadCells,loadCellsFrom,hcap,a1]
  refine⟨vs,w,C,cZ,by simpa using wG.acP (nT:=.own dst vs) rfl,?_⟩;refine M.b_ (Ft:=λb=>aJ.es (.own vs xs.length aH.aB aH.t) b) (.refl _ _ _) (λb G=>?_) (λbp o b aZ dn c0 G=>?_) λx J=>?_
  ·rcases wI with⟨⟨bv,n,X⟩,_⟩|hH
   ·obtain⟨o,iF,dU,bg⟩:=G;rw[X]at dU;simp only[Value.slice.injEq]at dU;omega
   exact h.heap.cQ q _ b hH G
  ·rcases wI with⟨⟨bv,n,X⟩,_⟩|hH
   ·obtain⟨bN,iF,dU,bg⟩:=G;rw[X]at dU;simp only[Value.slice.injEq]at dU;omega
   by_cases I:bp=q
   ·subst I;rw[rG]at dn;cases dn
   rw[mK z none I]at dn;exact h.heap.inj bp q o _ b I dn hH c0 G
  cases J
  simp only[avh,aw9];refine⟨?_,λb G=>⟨?_,.inl G⟩⟩
  ·rcases wI with⟨⟨bv,n,X⟩,_⟩|hH
   ·have ar:n=xs.length/\n=cap:=by rw[gc]at X;simp only[Value.slice.injEq]at X;omega
    exact⟨bv,n,by rw[X,ar.1],by omega,by omega,λbg=>by omega⟩
   exact h.heap.cl q _ hH
  rcases wI with⟨⟨bv,n,X⟩,_⟩|hH
  ·obtain⟨bN,iF,dU,bg⟩:=G;rw[X]at dU;simp only[Value.slice.injEq]at dU;omega
  exact h.heap.cQ q _ b hH G
 ·
  subst fY
  have nW:∃dT,ab=some dT:=by
   cases ab with
   |some dT=>exact⟨dT,rfl⟩
   |none =>
    rcases wH.kt with⟨rfl,X,_⟩|⟨b,o,cap,g,X,_⟩
    ·exact absurd rfl hm
    cases X
  obtain⟨dT,rfl⟩:=nW;obtain⟨hw,ky,Bw,zG,rI,Bx⟩:=LL wH;have LN:hw.length=bl.length*i.size:=by rw[ky,hsz]
  have fresh:∀(oD:List Value) (nX:Nat),oD.length=xs.length*aH.aB->(∀(j:Nat) d,(b4 xs)[j]?=some d->∃ao,oD[j]?=some ao/\bh w C d ao/\ao.oneCell'=true)->(∀x∈xs,x.cells.length=aH.aB)->
    nX<xs.length+bl.length->
    ∀v,v=.slice (some ⟨w.heap.size,0,none⟩) (xs.length+bl.length) (grownCap w (xs.length+bl.length) nX aH.t)->
    ∀w',w'=w.drew.alloc (.cells (oD.toArray++hw.toArray++Builtin.zeroCells e1.cells (grownCap w (xs.length+bl.length) nX aH.t-(xs.length+bl.length))) aH.t)->
    ∃aW,bh w' aW (.T (.own dst v) aH.aB (xs++bl)) v/\bI W w' aW ((z.b_ q none).b_ dst (some (.own v (xs.length+bl.length) aH.aB aH.t))) a:=by
   intro oD nX hx pc sH Hn v X w' wJ;have jl:=grownCap_ge w (xs.length+bl.length) nX aH.t;have nU:=grownCap_le_maxLen w (xs.length+bl.length) nX aH.t (by simp only[maxLen];omega);generalize grownCap w (xs.length+bl.length) nX aH.t=tJ at X wJ jl nU
   have wF:(oD.toArray++hw.toArray++Builtin.zeroCells e1.cells (tJ-(xs.length+bl.length))).size=tJ*aH.aB:=by
    simp only[Array.size_append,avN,size_zeroCells,LM,hx,ky,<-Nat.add_mul];congr 1;omega
   have iJ:=de.drew (λ_=>False) w C;have kz:=de.alloc (λ_=>False) w.drew C (.cells (oD.toArray++hw.toArray++Builtin.zeroCells e1.cells (tJ-(xs.length+bl.length))) aH.t) ((xs++bl).length*aH.aB);have hs:=iJ.trans kz (λ_ _ M=>M);rw[<-wJ]at hs kz;refine⟨_,?_,M.b_ hs (λ_ M=>M.elim) (λ_ _ _ _ _ _ M=>M) λx J=>?_⟩
   ·have dQ:=Hi (w:=w.drew) (C:=C) (tg:=.own dst v) (k:=aH.aB) (xs:=xs++bl)
     (vs:=(oD.toArray++hw.toArray++Builtin.zeroCells e1.cells (tJ-(xs.length+bl.length))).toList) (e:=aH.t) (cap:=tJ)
     (λx J=>ayX) auD nU
     (λj d O=>by
      rw[Br,u4]at O;have dg:=qx sH;simp only[axg];split at O
      ·rename_i ad;obtain⟨ao,au,af,ag⟩:=pc j d O;refine⟨ao,?_,af.ext iJ.ext,ag⟩;rw[avr,u4,auO (by simpa using fu au)];simpa using au
      rename_i ad;obtain⟨ao,au,af,ag⟩:=zG _ d O;refine⟨ao,?_,af.ext iJ.ext,ag⟩;rw[avr,u4,auN auE,u4,auO (by have:=fu au;simp;omega)]
      simpa[hx,dg]using au) (by rw[hlen];exact X.symm)
    rw[hlen]at dQ;rw[X]at dQ⊢;rw[hlen,wJ];exact dQ
   cases J
   refine⟨⟨some ⟨w.heap.size,0,none⟩,tJ,X,jl,nU,λ_=>⟨w.heap.size,_,rfl,?_,wF,?_⟩⟩,λb G=>?_⟩
   ·rw[wJ];exact lV w.drew _
   ·rw[hlen];exact h2 _ _ _
   obtain⟨o,iF,dU,_⟩:=G;rw[X]at dU;simp only[Value.slice.injEq,avi,Addr.mk.injEq]at dU;obtain⟨⟨rfl,_⟩,_⟩:=dU;exact⟨h.Hl,.inr (auW _)⟩
  subst gc
  cases bS with
  |none =>
   rcases wG.kt with⟨rfl,⟨a0,X⟩,_⟩|⟨b,o,iF,g,X,_⟩
   ·simp only[Value.slice.injEq]at X;obtain⟨_,_,rfl⟩:=X;simp only[avh,avu]at mL nh fresh⊢;have af:=run_append_nil (P:=P) w e.t ln aH.t i e1 au hi oC dT bl.length u5 hw LN Bw auD auD (by rw[tI];omega);obtain⟨aW,h1,A⟩:=fresh [] 0 auF (λj d O=>by simp[b4]at O) (λx J=>by cases J) auD _ rfl _ rfl;exact⟨_,_,aW,af,by simpa using h1,by simpa using A⟩
   cases X
  |some Ho =>
   obtain⟨oD,hx,Hp,pc,xZ,sH⟩:=LL wG;by_cases rJ:xs.length+bl.length<=cap
   ·
    have hH:z.H q=some (.own (.slice (some Ho) xs.length cap) xs.length aH.aB aH.t):=by
     rcases wI with⟨⟨bv,n,X⟩,_⟩|hH
     ·simp only[Value.slice.injEq]at X;omega
     exact hH
    obtain⟨bv,iF,X,asn,_,cz⟩:=h.heap.cl q _ hH;simp only[Value.slice.injEq]at X;obtain⟨rfl,_,rfl⟩:=X;obtain⟨b,fX,LO,G,hcs,LP⟩:=cz auD;cases LO
    have hv:xs.length*i.size+hw.length<=fX.size:=by
     rw[hsz,ky,hcs,<-Nat.add_mul];exact aww _ rJ
    have af:=run_append_room (P:=P) w e.t ln aH.t i au hi b xs.length cap fX G dT bl.length u5 hw LN Bw rI rJ hv;rw[hsz]at af hv;have aso:xs.length*aH.aB<=fX.toList.length:=by simp;omega
    have a1:=de.setRow (C:=C) (n:=(xs.length+bl.length)*aH.aB) G (aD:=(fX.toList.take (xs.length*aH.aB)++hw++fX.toList.drop (xs.length*aH.aB+hw.length)).toArray)
     (by rw[LP];exact aww _ auD) (λo ag=>by
      rw[LP]at ag;rw[awH,rH _ _ _ auE,auN auD]
      simp)
    have fw:aJ.es (.own (.slice (some ⟨b,0,none⟩) xs.length cap) xs.length aH.aB aH.t) b:=⟨0,cap,rfl,by omega⟩;refine⟨_,_,_,af,?_,M.b_ a1 (λx J=>by subst J;exact h.heap.cQ q _ _ hH fw) (λbp o ey aZ dn c0 sI=>?_) λx J=>?_⟩
    ·have dQ:=xX (w:=w.setRow b (fX.toList.take (xs.length*aH.aB)++hw++fX.toList.drop (xs.length*aH.aB+hw.length)).toArray) (C:=gw C b ((xs.length+bl.length)*aH.aB))
      (tg:=.own dst (.slice (some ⟨b,0,none⟩) (xs.length+bl.length) cap)) (k:=aH.aB) (xs:=xs++bl) (b:=b) (cap:=cap) (setRow_heap w b fX _ aH.t (0,0) G)
      (λx J=>ayX) auD Hm (by rw[h2,hlen];exact auW _)
      (λj d O=>by
       rw[Br,u4]at O;have dg:=qx sH;split at O
       ·rename_i ad;obtain⟨ao,au,af,ag⟩:=pc j d O;refine⟨ao,?_,af.ext a1.ext,ag⟩;rw[rH _ _ _ auE,auN auD];have hc:=Hp j ao au;rw[p1,avu]at hc;simp only[World.cell?,G]at hc;simpa using hc
       rename_i ad;obtain⟨ao,au,af,ag⟩:=zG _ d O;refine⟨ao,?_,af.ext a1.ext,ag⟩;have:=fu au;rw[rH _ _ _ auE,auO ⟨by omega,by omega,by simp;omega⟩,<-dg]
       exact au) (by rw[hlen];exact rfl)
     rw[hlen]at dQ;exact dQ
    ·subst sI;by_cases I:bp=q
     ·subst I;rw[rG]at dn;cases dn
     rw[mK z none I]at dn;exact h.heap.inj bp q o _ ey I dn hH c0 fw
    cases J
    refine⟨⟨_,cap,rfl,rJ,Hm,λ_=>⟨b,_,rfl,setRow_heap w b fX _ aH.t _ G,?_,by rw[h2]⟩⟩,λx J=>?_⟩
    ·simp only[avN,auV,au9,avX,awG];omega
    obtain⟨o,iF,dU,_⟩:=J;simp only[Value.slice.injEq,avi,Addr.mk.injEq]at dU;obtain⟨⟨rfl,_⟩,_⟩:=dU;exact⟨h.heap.cQ q _ _ hH fw,.inl rfl⟩
   have af:=run_append_grow (P:=P) w e.t ln aH.t i e1 au hi oC Ho xs.length cap oD (by rw[hx,hsz]) Hp dT bl.length u5 hw LN Bw auD auD (by rw[tI];exact growslice_fits auD mL);obtain⟨aW,h1,A⟩:=fresh oD cap hx pc sH auD _ rfl _ rfl;exact⟨_,_,aW,af,h1,A⟩
theorem zH(M:bI W w C z a){o:Oper}(O:iY al o.dst=true){a6:Exit->Act->World->Prop}{K:av->Prop}(hK:K (z.put o.dst d))(I:hR P d w C ((execOp a.eval o).run P w)): o.wp P a w (λbv w'=>∃aA aW,K aA/\bI W w' aW aA bv) a6:=by unfold Oper.wp;generalize(execOp a.eval o).run P w=r at*;cases r with|halt h w'=>exact I.elim|ok n w' =>(cases n with|value v =>obtain⟨aW,af,hs⟩:=I;exact⟨_,aW,hK,(M.tH hs).put O af⟩|enter f args =>obtain⟨rfl,hc⟩:=I;(exact hc.mono λe rz ⟨v,lT,aq,af,hs⟩=>by subst aq;exact⟨_,lT,hK,(M.tH hs).put O af⟩)|_=>exact I.elim)
theorem tK{ay:List bC}(hT:df P ay)(M:bI W w C z a){o:Oper}(O:iY al o.dst=true){K:av->Prop}
  (I:nS P B ay z o.dst o.op K) (a6:Exit->Act->World->Prop):o.wp P a w (λbv w'=>∃aA aW,K aA/\bI W w' aW aA bv) a6:=by
 have quiet:pY P B ay z true o.op (λd=>K (z.put o.dst d))->o.wp P a w (λbv w'=>∃aA aW,K aA/\bI W w' aW aA bv) a6:=λI=>by
  obtain⟨d,hK,hu⟩:=Bu hT I;exact zH M O hK (hu rfl a.eval w C _ M.base M.heap (λx _=>cI M.tmps x))
 obtain⟨dst,op,type,pos,after,guard⟩:=o;unfold nS at I;cases op<;>simp only at I
 case move x=>exact zH M O ((zo _ _).1 I) (hR.same (cI M.tmps x))
 case assign x=>exact zH M O ((zo _ _).1 I) (hR.same (cI M.tmps x))
 case alloc e =>
  split at I
  ·rename_i ce s aq;obtain⟨c5,rfl⟩:=hT.get aq;split at I
   ·rename_i Q bn;obtain⟨i,hi,_,_,oB⟩:=c5.pZ;obtain⟨e1,oC,nf,iH⟩:=oB Q bn
    have cZ:(execOp a.eval ⟨some s,.alloc ce.t,type,pos,after,guard⟩).run P w=.ok (.value (.pointer (some ⟨w.heap.size,0,none⟩))) (w.alloc (.cells e1.cells ce.t)):=by
     simp[execOp,Instr.alloc,zeroValue,typeInfo,hi,oC,newVar,newRow]
    simp only[Oper.wp,cZ,Oper.upon];exact⟨_,_,I w.heap.size,(M.LJ s ce.t (iH w C)).put O (.box _ _ _)⟩
   exact I.elim
  exact I.elim
 case box e x =>
  split at I
  ·rename_i ce s aq;obtain⟨c5,rfl⟩:=hT.get aq
   have cZ:∀v,a.eval x=v->(execOp a.eval ⟨some s,.box ce.t x,type,pos,after,guard⟩).run P w=.ok (.value (.pointer (some ⟨w.heap.size,0,none⟩))) (w.alloc (.cells v.cells ce.t)):=by
    intro v X;simp[execOp,Instr.box,newVar,newRow,X]
   have J:=cI M.tmps x;split at I
   ·split at I
    ·rename_i aD hcs;rw[hcs]at J;obtain⟨vs,X,af⟩:=J.tw;simp only[Oper.wp,cZ _ X,Oper.upon];exact⟨_,_,I w.heap.size,(M.LJ s ce.t af).put O (.box _ _ _)⟩
    exact I.elim
   replace I:=ig I;obtain⟨ag,I⟩:=I;obtain⟨h1,_⟩:=J.oA ag;simp only[Oper.wp,cZ _ rfl,Oper.upon,h1];exact⟨_,_,I w.heap.size,(M.LJ s ce.t (.cons J (.nil _ _))).put O (.box _ _ _)⟩
  exact I.elim
 case store t x y =>
  split at I
  ·rename_i e s b off aq J;obtain⟨c5,rfl⟩:=hT.get aq;split at I
   ·rename_i ey aD hH;obtain⟨rfl,I⟩:=I;obtain⟨dA,w',aW,hK,cZ,fZ⟩:=acO M c5 hH I (cI M.tmps y);have X:=cI M.tmps x;rw[J]at X
    have LQ:(execOp a.eval ⟨dst,.store e.t x y,type,pos,after,guard⟩).run P w=.ok .skip w':=by
     simp only[execOp,X.wy,Sem.run_bind,cZ,Result.andThen_ok,Sem.run_pure]
    simp only[Oper.wp,LQ,Oper.upon];exact⟨_,aW,hK,fZ.put O .undef⟩
   exact I.elim
  exact I.elim
 case call c =>
  obtain⟨callee,args,argTypes⟩:=c;simp only at I;split at I
  ·rename_i s x t DQ kW kX acS;have zF:args=#[s,x]:=by apply awC;simpa using kX
   have acT:argTypes=#[t,DQ]:=by apply awC;simpa using acS
   subst zF acT;replace I:=ig I;obtain⟨ax,I⟩:=I;obtain rfl:=avb ax;unfold R_ at I;split at I
   ·exact I.elim
   rename_i e aq;obtain⟨c5,rfl⟩:=hT.get aq;split at I
   ·rename_i bJ b2;split at I
    ·exact I.elim
    rename_i aH i1;obtain⟨fp,rfl⟩:=hT.get i1
    have key:∀(tg:iA) (xs:List D) (q:Nat) (aA:av),(bh w C (.T tg aH.aB xs) (a.eval s))->((∃bS n,a.eval s=.slice bS n n)/\q=kW\/z.H q=some (.own (a.eval s) xs.length aH.aB aH.t))->
      (∀o,(aA.b_ kW o)=((z.b_ q none).b_ kW o))->
      (match z.bb x with
       |.T _ bE bl=>cond (Nat.beq bE aH.aB&&Nat.blt 0 aH.aB) ((xs.length+bl.length)*aH.bytes<=140737488355328/\xs.length+bl.length<=9223372036854775807/\aH.zero≠none/\
         ∀v:Value,K ((aA.b_ kW (some (.own v (xs.length+bl.length) aH.aB aH.t))).put (some kW) (.T (.own kW v) aH.aB (xs++bl)))) False
       |_=>False)->
      Oper.wp P ⟨some kW,.call ⟨.builtin .append,#[s,x],#[e.t,e.t]⟩,type,pos,after,guard⟩ a w (λbv w'=>∃aA aW,K aA/\bI W w' aW aA bv) a6:=by
     intro tg xs q aA wG wI acU I;have J:=cI M.tmps x;split at I
     ·rename_i nT bE bl acV;rw[acV]at J;replace I:=ig I;obtain⟨G,h1,A,aa,hK⟩:=I;rw[auQ]at G;obtain rfl:=avb G.1;obtain⟨v,w',aW,cZ,af,fZ⟩:=Ss (P:=P) M c5 fp b2 aa wG J h1 A (dst:=kW) (ln:=type) wI
      have LQ:(execOp a.eval ⟨some kW,.call ⟨.builtin .append,#[s,x],#[e.t,e.t]⟩,type,pos,after,guard⟩).run P w=.ok (.value v) w':=by
       simp[execOp,resolve,invoke,builtin,cZ]
      simp only[Oper.wp,LQ,Oper.upon];refine⟨_,aW,hK v,?_⟩;rw[acU];exact fZ.put O af
     exact I.elim
    have hs:=cI M.tmps s;simp only at I;split at I
    ·rename_i D0;rw[D0]at hs;refine key .none [] kW z ?_ (.inl ⟨⟨none,0,hs.xS⟩,rfl⟩) (λo=>?_) I
     ·rw[hs.xS];exact .jj .none _ none trivial
     simp only[av.b_];congr 1;funext j;cases Nat.beq j kW<;>simp
    ·rename_i k xs D0;rw[D0]at hs;replace I:=ig I;obtain⟨Z,I⟩:=I;obtain rfl:=avb Z
     have acW:∃bS n,a.eval s=.slice bS n n:=by
      rcases hs.kt with⟨_,_,h⟩|⟨_,_,_,_,_,h,_⟩
      ·exact h
      exact h
     refine key .dZ xs kW z hs (.inl ⟨acW,rfl⟩) (λo=>?_) I;simp only[av.b_];congr 1;funext j;cases Nat.beq j kW<;>simp
    ·rename_i q v k xs D0;rw[D0]at hs;split at I
     ·rename_i c' dK bE nR hH;replace I:=ig I;obtain⟨G,rfl,rfl,I⟩:=I;simp only[auQ]at G;obtain rfl:=avb G.1.1;obtain rfl:=avb G.1.2;obtain rfl:=avb G.2
      have X:a.eval s=v:=by
       rcases hs.kt with⟨_,_,h⟩|⟨_,_,_,_,_,h,_⟩
       ·exact h
       exact h
      exact key (.own q v) xs q (z.b_ q none) hs (.inr (by rw[X];exact hH)) (λ_=>rfl) I
     exact I.elim
    exact I.elim
   exact I.elim
  exact quiet I
 all_goals exact quiet I
theorem acX{ay:List bC}(hT:df P ay)(M:bI W w C z a){o:Oper}(O:iY al o.dst=true){K:av->Prop}(I:pY P B ay z h o.op λd=>K (z.put o.dst (.mb h d)))(a6:Exit->Act->World->Prop): if h=true then o.wp P a w (λbv w'=>∃aA aW,K aA/\bI W w' aW aA bv) a6 else∃aA,K aA/\bI W w C aA (a.put o.dst undef):=by obtain⟨d,hK,hu⟩:=Bu hT I;cases h with|true =>rw[auO rfl];have h1:=hu rfl a.eval w C _ M.base M.heap (λx _=>cI M.tmps x);refine zH M O (d:=.mb true d) hK ?_;generalize(execOp a.eval o).run P w=r at*;(cases r with|halt _ _=>exact h1|ok n w' =>(cases n with|value v=>obtain⟨aW,af,hs⟩:=h1;exact⟨aW,.pT _ _ af,hs⟩|enter f args=>exact⟨h1.1,h1.2.mono λe rz ⟨v,lT,aq,af,hs⟩=>⟨v,lT,aq,.pT _ _ af,hs⟩⟩|_=>exact h1))|false =>rw[auN auF];exact⟨_,hK,M.put O (.uW _)⟩
variable{ops:Array Oper}{tmps:Array Value}
theorem x0{g:Nat}{b:Bool}(aS:(ops[j]?).bind (·.dst)=some g)(X:tmps.getD g undef=.bool b):yielded ops tmps j=some b:=by unfold yielded;rw[aS];simp only[aws]at X;simp only[Option.bind_some];cases ax:tmps[g]? with|none=>rw[ax]at X;cases X|some v=>rw[ax]at X;simp only[avG]at X;subst X;rfl
theorem St{g:Nat}(aS:(ops[j]?).bind (·.dst)=some g)(X:tmps.getD g undef=undef):yielded ops tmps j=none:=by unfold yielded;rw[aS];simp only[aws]at X;simp only[Option.bind_some];cases ax:tmps[g]? with|none=>rfl|some v=>rw[ax]at X;simp only[avG]at X;subst X;rfl
theorem Hq{ay:List bC}(hT:df P ay){W:b5 P B al}{ops:Array Oper}{a6:Exit->Act->World->Prop}{K:av->Prop}(fO:∀aA bv w' aW,K aA->bI W w' aW aA bv->a6 .normal bv w'): ∀{l:List Oper} {z:av} (_:jE P B ay al ops l z K) {a:Act} {w:World} {C:Nat->Nat} (_:bI W w C z a),wpList P ops a6 l a w
 |[],_,I,_,_,_,M=>fO _ _ _ _ I M
 |o::rest,z,I,a,w,C,M=>by change cond (iY al o.dst) _ False at I;replace I:=ig I;obtain⟨O,I⟩:=I;(have next:∀bv w',(∃aA aW,jE P B ay al ops rest aA K/\bI W w' aW aA bv)->wpList P ops a6 rest bv w':=λbv w' ⟨aA,aW,h1,A⟩=>Hq hT fO h1 A;unfold wpList;split at I);(·rename_i aS;rw[auO (by simp[Region.wanted,aS])];exact .inl (Oper.wp_mono next (tK hT M O I a6)));rename_i j iE aS;split at I;exact I.elim;rename_i g ik;have jF:=M.tmps g;(have oE:∀h:Bool,Region.wanted o (yielded ops a.tmps)=h->pY P B ay z h o.op (λd=>jE P B ay al ops rest (z.put o.dst (.mb h d)) K)->(if Region.wanted o (yielded ops a.tmps)then o.wp P a w (wpList P ops a6 rest) a6\/(o.asks P a w/\LetsOut a6)else wpList P ops a6 rest (a.put o.dst undef) w):=by intro h cz I;rw[cz];have:=acX hT M O (K:=λaA=>jE P B ay al ops rest aA K) I a6;cases h with|true=>rw[auO rfl]at this⊢;exact .inl (Oper.wp_mono next this)|false=>rw[auN auF]at this⊢;obtain⟨aA,h1,A⟩:=this;exact Hq hT fO h1 A);split at I;rename_i b G;rw[G]at jF;have hy:=x0 ik jF.hY;(cases iE with|true=>exact oE b (ay5) I|false=>exact oE (!b) (ay5) I);rename_i c b G;rw[G]at jF;(cases c with|true =>(have X:a.tmps.getD g undef=.bool b:=by cases jF with|pT _ _ h=>exact h.hY);have hy:=x0 ik X;(cases iE with|true=>exact oE (true&&b) (ay5) I|false=>exact oE (true&&!b) (ay5) I)|false =>(have X:a.tmps.getD g undef=undef:=by generalize a.tmps.getD g undef=v at jF;cases jF;rfl);have hy:=St ik X;(cases iE with|true=>exact oE (false&&b) (by simp only[Region.wanted,aS,hy];rfl) I|false=>exact oE (false&&!b) (by simp only[Region.wanted,aS,hy];rfl) I));exact I.elim
theorem Y.region{ay:List bC}(hT:df P ay){W:b5 P B al}{id:Nat}{ops:Array Oper}{z:av}{K:cM->av->Prop}(I:jE P B ay al ops ops.toList z (K .normal)):Y W (.region id ops false) z K :=
 ⟨λ_ _ _ M=>wp_region_list (Hq hT (λaA _ _ aW hK bK=>⟨.normal,aA,aW,rfl,hK,bK⟩) I M)⟩
variable{md:Region.Mode}
def sJ(P:Program)(B:World)(ops:Array Oper)(o:Oper)(d:D)(z:av):Prop :=
 ∀(a:Act) (w:World) (C:Nat->Nat) (Ft:Nat->Prop),pV B w->mc Ft w C z.H->(∀i,i∈o.looksAt ops->bh w C (z.t i) (a.tmps.getD i undef))->
  (Region.wanted o (yielded ops a.tmps)=true/\hR P d w C ((execOp a.eval o).run P w))\/(Region.wanted o (yielded ops a.tmps)=false/\bh w C d undef)
variable{aA:av}
theorem sJ.Su{o:Oper}(h:sJ P B ops o d z)(hH:aA.H=z.H)(ax:∀i,i∈o.looksAt ops->aA.t i=z.t i):sJ P B ops o d aA:=by intro a w C Ft G af c3;exact h a w C Ft G (hH ▸ af) λi hi=>by rw[<-ax i hi];exact c3 i hi
theorem D1(z:av)(dst:Option Tmp)(d:D):(z.put dst d).H=z.H:=by cases dst<;>rfl
variable{dst:Option Tmp}
theorem LR(h:∀t,dst=some t->t≠i):(z.put dst d).t i=z.t i:=by cases dst with|none=>rfl|some t=>simp[av.put,awv (λe=>h t rfl e.symm:i≠t)]
theorem acY{x y:Option Tmp}{ao v:D}(h:∀t,x=some t->y≠some t):(z.put x ao).put y v=(z.put y v).put x ao:=by cases x with|none=>rfl|some s =>(cases y with|none=>rfl|some t =>have aZ:s≠t:=λe=>h s rfl (e ▸ rfl);simp only[av.put];congr 1;funext j;(cases h1:Nat.beq j t with|true =>have bZ:=avb h1;subst bZ;rw[awv (Ne.symm aZ)];rfl|false=>cases Nat.beq j s<;>rfl))
def oF(P:Program)(B:World)(al:Nat)(ops:Array Oper)(i:Nat)(K:av->Prop)(z:av):Prop :=
 match ops[i]? with
 |none=>K z
 |some o=>iY al o.dst=true/\∃d,sJ P B ops o d z/\K (z.put o.dst d)
variable{sA:av->Prop}
theorem Sv{K:av->Prop}(h:∀z,K z->sA z)(cA:oF P B al ops i K z):oF P B al ops i sA z:=by unfold oF at*;split;rename_i ag;rw[ag]at cA;exact h _ cA;rename_i o ag;rw[ag]at cA;obtain⟨h1,d,A,aa⟩:=cA;exact⟨h1,d,A,h _ aa⟩
theorem sJ.oF{i:Nat}{o:Oper}{d:D}{z:av}(hi:ops[i]?=some o)(O:iY al o.dst=true)(hy:sJ P B ops o d z){K:av->Prop}(h:K (z.put o.dst d)):oF P B al ops i K z:=by unfold Go.bV.oF;simp only[hi];exact⟨O,d,hy,h⟩
variable{ni:Oper}
theorem Sw{nj:Oper}{v:D}(ad:ops[j]?=some nj)(oG:ni.apart ops nj=true){K:av->Prop}(hy:sJ P B ops ni v z)(h:oF P B al ops j K (z.put ni.dst v)): oF P B al ops j (λaA=>sJ P B ops ni v aA/\K (aA.put ni.dst v)) z:=by obtain⟨h1,A,aa⟩:=Oper.apart_spec oG;unfold oF at*;simp only[ad]at*;obtain⟨O,ao,au,hK⟩:=h;refine⟨O,ao,au.Su (D1 _ _ _).symm (λi hi=>(LR λt ax e=>?_).symm),hy.Su (D1 _ _ _) (λi hi=>LR λt ax e=>?_),?_⟩;subst e;exact h1 t ax hi;subst e;exact aa t ax hi;rw[<-acY A];exact hK
def D2(P:Program)(B:World)(al:Nat)(md:Region.Mode)(ops:Array Oper)(a6:av->Prop):Nat->Array Bool->av->Prop
 |0,be,z=>Region.ready md ops be=[]/\a6 z
 |j3+1,be,z =>
  (Region.ready md ops be=[]->a6 z)/\
  ∀i∈Region.ready md ops be,oF P B al ops i (D2 P B al md ops a6 j3 (be.setIfInBounds i true)) z
theorem Sx{K:av->Prop}{sA:Act->World->Prop}{Q':Exit->Act->World->Prop}(M:bI W w C z a)(h:∀z a w C,bI W w C z a->K z->sA a w)(cA:oF P B al ops i K z):wpOp P ops Q' i sA a w:=by unfold oF at cA;unfold wpOp;split;rename_i ag;rw[ag]at cA;exact h _ _ _ _ M cA;rename_i o ag;rw[ag]at cA;obtain⟨O,d,hy,hK⟩:=cA;rcases hy a w C _ M.base M.heap (λi _=>M.tmps i)with⟨cz,I⟩|⟨cz,af⟩;rw[auO cz];exact .inl (Oper.wp_mono (λbv w' ⟨aA,aW,h1,A⟩=>h aA bv w' aW A h1) (zH M O hK I));rw[cz];exact h _ _ _ _ (M.put O af) hK
theorem Sy{W:b5 P B al}{a6:av->Prop}{Q':Exit->Act->World->Prop}(fO:∀z a w C,bI W w C z a->a6 z->Q' .normal a w):∀(j3:Nat) (be:Array Bool) (z:av) (a:Act) (w:World) (C:Nat->Nat),bI W w C z a->D2 P B al md ops a6 j3 be z->wpAny P md ops Q' j3 be a w
 |0,_,_,_,_,_,M,h=>⟨h.1,fO _ _ _ _ M h.2⟩
 |j3+1,_,_,_,_,_,M,h=>⟨λh0=>fO _ _ _ _ M (h.1 h0),λi hi=>Sx M (λaA bv w' aW fZ=>Sy fO j3 _ aA bv w' aW fZ) (h.2 i hi)⟩
theorem acZ{a6:av->Prop}{v:D}(hi:ops[i]?=some ni)(lW:iY al ni.dst=true): ∀(j3:Nat) (be:Array Bool) (z:av),(∀j nj,ops[j]?=some nj->j≠i->be.getD j true=false->(∀e∈nj.after,Region.binds md e=true->e.on≠i)->ni.apart ops nj=true)->i∈Region.ready md ops be->sJ P B ops ni v z->D2 P B al md ops a6 j3 (be.setIfInBounds i true) (z.put ni.dst v)->D2 P B al md ops a6 (j3+1) be z:=by intro j3;induction j3 with|zero =>intro be z _ af hy H;refine⟨λh=>(by rw[h]at af;cases af),λj ad=>?_⟩;by_cases fq:j=i;subst fq;exact hy.oF hi lW H;have:=ready_mono ad fq;rw[H.1]at this;cases this|succ j3 aV =>intro be z D3 af hy H;refine⟨λh=>(by rw[h]at af;cases af),λj ad=>?_⟩;by_cases fq:j=i;subst fq;exact hy.oF hi lW H;have h1:=H.2 j (ready_mono ad fq);obtain⟨D4,nj,D5,hL⟩:=mem_ready.1 ad;(have LS:∀e∈nj.after,Region.binds md e=true->e.on≠i:=λe aq G ii=>by have h1:=hL e aq G;have h0:=(mem_ready.1 af).1;rw[ii]at h1;rcases au6 i be.size with bt|bt;simp[bt]at h0 h1;rw[h0]at h1;cases h1;simp[axT bt]at h1);have A:=Sw D5 (D3 j nj D5 fq D4 LS) hy h1;(have LU:∀k ok,ops[k]?=some ok->k≠i->(be.setIfInBounds j true).getD k true=false->(∀e∈ok.after,Region.binds md e=true->e.on≠i)->ni.apart ops ok=true:=λk ok Z kw u6 fx=>ayz);refine Sv (λaA aa=>aV (be.setIfInBounds j true) aA LU (ready_mono af (Ne.symm fq)) aa.1 ?_) A;rw[Array.setIfInBounds_comm _ _ fq];exact aa.2
theorem Sz{ay:List bC}(hT:df P ay){o:Oper}{l:List Oper}{K:av->Prop}(nY:Op.Bm o.op=true)(I:jE P B ay al ops (o::l) z K):
  iY al o.dst=true/\∃d,sJ P B ops o d z/\jE P B ay al ops l (z.put o.dst d) K:=by
 change cond (iY al o.dst) _ False at I
 replace I:=ig I;obtain⟨O,I⟩:=I;refine⟨O,?_⟩
 have aM:∀(a:Act) (w:World) (C:Nat->Nat),(∀i,i∈o.looksAt ops->bh w C (z.t i) (a.tmps.getD i undef))->∀x∈o.op.operands,bh w C (z.bb x) (a.eval x):=by
  intro a w C h x J
  cases x with
  |tmp t=>exact h t (List.mem_append_left _ (axI.2 ⟨.tmp t,by simpa using J,rfl⟩))
  |const v=>exact cI (z:={t:=λ_=>.any,H:=z.H}) (λ_=>.any _) (.const v)
  |global g=>exact .am _
  |func f=>exact cI (z:={t:=λ_=>.any,H:=z.H}) (a:=a) (λ_=>.any _) (.func f)
 split at I
 ·rename_i aS
  have rD:pY P B ay z true o.op (λd=>jE P B ay al ops l (z.put o.dst d) K)\/(∃x,(o.op=.move x\/o.op=.assign x)/\jE P B ay al ops l (z.put o.dst (z.bb x)) K):=by
   obtain⟨dst,op,type,pos,after,guard⟩:=o;unfold nS at I;cases op<;>simp only[Op.Bm]at I nY
   case move x=>exact .inr ⟨x,.inl rfl,(zo _ _).1 I⟩
   case assign x=>exact .inr ⟨x,.inr rfl,(zo _ _).1 I⟩
   case call c =>
    obtain⟨callee,args,argTypes⟩:=c;simp only at I nY;split at I
    ·simp at nY
    exact .inl I
   all_goals first
    |exact .inl I
    |(cases nY;done)
  rcases rD with rD|⟨x,J,rD⟩
  ·obtain⟨d,hK,hu⟩:=Bu hT rD;exact⟨d,λa w C Ft G af c3=>.inl ⟨by simp[Region.wanted,aS],hu rfl a.eval w C Ft G af (aM a w C c3)⟩,hK⟩
  refine⟨_,λa w C Ft G af c3=>.inl ⟨by simp[Region.wanted,aS],?_⟩,rD⟩;have h1:=aM a w C c3 x (by rcases J with h|h<;>simp[h,Op.operands]);obtain⟨dst,op,type,pos,after,guard⟩:=o;rcases J with h|h<;>(simp only at h;subst h;exact hR.same h1)
 rename_i j iE aS;split at I
 ·exact I.elim
 rename_i g ik
 have SA:g∈o.looksAt ops:=by
  unfold Oper.looksAt;rw[aS];exact List.mem_append_right _ (by simp[ik])
 have oE:∀h:Bool,(∀(a:Act) (w:World) (C:Nat->Nat),(∀i,i∈o.looksAt ops->bh w C (z.t i) (a.tmps.getD i undef))->Region.wanted o (yielded ops a.tmps)=h)->
   pY P B ay z h o.op (λd=>jE P B ay al ops l (z.put o.dst (.mb h d)) K)->∃d,sJ P B ops o d z/\jE P B ay al ops l (z.put o.dst d) K:=by
  intro h cz I;obtain⟨d,hK,hu⟩:=Bu hT I;refine⟨.mb h d,λa w C Ft G af c3=>?_,hK⟩
  cases h with
  |true =>
   refine .inl ⟨cz a w C c3,?_⟩;have h1:=hu rfl a.eval w C Ft G af (aM a w C c3);generalize(execOp a.eval o).run P w=r at*
   cases r with
   |halt _ _=>exact h1
   |ok n w' =>
    cases n with
    |value v=>obtain⟨aW,af,hs⟩:=h1;exact⟨aW,.pT _ _ af,hs⟩
    |enter f args=>exact⟨h1.1,h1.2.mono λe rz ⟨v,lT,aq,af,hs⟩=>⟨v,lT,aq,.pT _ _ af,hs⟩⟩
    |_=>exact h1
  |false=>exact .inr ⟨cz a w C c3,.uW _⟩
 split at I
 ·rename_i b G
  have hy:∀(a:Act) (w:World) (C:Nat->Nat),(∀i,i∈o.looksAt ops->bh w C (z.t i) (a.tmps.getD i undef))->yielded ops a.tmps j=some b:=λa w C h=>by
   have jF:=h g SA;rw[G]at jF;exact x0 ik jF.hY
  cases iE with
  |true=>exact oE b (λa w C h=>by simp only[Region.wanted,aS,hy a w C h];cases b<;>rfl) I
  |false=>exact oE (!b) (λa w C h=>by simp only[Region.wanted,aS,hy a w C h];cases b<;>rfl) I
 ·rename_i c b G
  have hy:∀(a:Act) (w:World) (C:Nat->Nat),(∀i,i∈o.looksAt ops->bh w C (z.t i) (a.tmps.getD i undef))->yielded ops a.tmps j=if c then some b else none:=λa w C h=>by
   have jF:=h g SA;rw[G]at jF
   cases c with
   |true =>
    have X:a.tmps.getD g undef=.bool b:=by
     cases jF with
     |pT _ _ h=>exact h.hY
    rw[auO rfl];exact x0 ik X
   |false =>
    have X:a.tmps.getD g undef=undef:=by
     generalize a.tmps.getD g undef=v at jF;cases jF;rfl
    rw[auN auF];exact St ik X
  cases iE with
  |true=>exact oE (c&&b) (λa w C h=>ayS) I
  |false=>exact oE (c&&!b) (λa w C h=>ayS) I
 exact I.elim
theorem SB{ay:List bC}(hT:df P ay){a6:av->Prop}:∀(l:List Oper) (k:Nat) (be:Array Bool) (z:av),(∀j,l[j]?=ops[k+j]?)->l.all (λo=>Op.Bm o.op)=true->Region.lexFrom md ops l.length k be=true->jE P B ay al ops l z a6->D2 P B al md ops a6 l.length be z
 |[],_,_,_,_,_,gi,h=>⟨by simpa[Region.lexFrom]using gi,h⟩
 |o::l,k,be,z,aj,nY,gi,h=>by(have h0:ops[k]?=some o:=by simpa using(aj 0).symm);simp only[auX,Region.lexFrom,auQ]at gi;obtain⟨⟨af,M⟩,LV⟩:=gi;simp only[axk,auQ]at nY;obtain⟨O,d,hy,hK⟩:=Sz hT nY.1 h;exact acZ h0 O l.length be z (Region.free_spec h0 M) (by simpa using af) hy (SB hT l (k+1) _ _ (λj=>by have:=aj (j+1);simpa[awy,axu 1 j]using this) nY.2 LV hK)
def Hr(ops:Array Oper):Bool:=Region.lexB .any ops&&ops.toList.all λo=>Op.Bm o.op
theorem bI.drew{W:b5 P B al}{w:World}{C:Nat->Nat}{z:av}{a:Act}(h:bI W w C z a):bI W {w with drawn:=w.drawn+1} C z a:=h.tH (de.drew _ w C)
variable{id:Nat}{K:cM->av->Prop}
theorem Y.tL{ay:List bC}(hT:df P ay)(hm:P.follows .mixedOrders=true)(gi:Hr ops=true)
  (I:jE P B ay al ops ops.toList z (K .normal)):Y W (.region id ops true) z K :=
 ⟨λa w C M=>by
  simp only[Hr,Region.lexB,auQ]at gi;refine wp_region_any hm (Sy (W:=W) (a6:=K .normal) (λz a w C bK hK=>⟨.normal,z,C,rfl,hK,bK⟩) _ _ z _ _ C M.drew ?_);have:=SB hT (md:=.any) (al:=al) ops.toList 0 (Array.replicate ops.size false) z auF gi.2 (by simpa using gi.1.2) I
  simpa using this⟩
def D6(P:Program)(B:World)(al:Nat)(md:Region.Mode)(ops:Array Oper)(n:Nat)(L:Array Bool->av->Prop):Nat->Array Bool->av->Prop
 |0,be,z=>L be z
 |f+1,be,z =>
  Region.ready md ops be≠[]/\∀i∈Region.ready md ops be,i<n/\oF P B al ops i (D6 P B al md ops n L f (be.setIfInBounds i true)) z
theorem Hs{W:b5 P B al}{n g:Nat}{L:Array Bool->av->Prop}{Q':Exit->Act->World->Prop}(aX:∀be z a w C,bI W w C z a->L be z->wpAny P md ops Q' g be a w): ∀(f:Nat) (be:Array Bool) (z:av) (a:Act) (w:World) (C:Nat->Nat),bI W w C z a->D6 P B al md ops n L f be z->wpAny P md ops Q' (f+g) be a w
 |0,be,z,a,w,C,M,h=>by rw[avu];exact aX _ _ _ _ _ M h
 |f+1,be,z,a,w,C,M,h=>by rw[show f+1+g=(f+g)+1 by omega];exact⟨λh0=>absurd h0 h.1,λi hi=>Sx M (λaA bv w' aW fZ bt=>Hs aX f _ aA bv w' aW fZ bt) (h.2 i hi).2⟩
theorem ac0{n:Nat}{v:D}{L:Array Bool->av->Prop}(hi:ops[i]?=some ni)(lW:iY al ni.dst=true)(hs:Region.sinkB md ops n=true)(hc:Region.chainB md ops n=true)(ar:n<ops.size)(cr:i<n)(ac1:∀be z,L be z->∀j∈Region.ready md ops be,n<=j): ∀(f:Nat) (be:Array Bool) (z:av),HeadInv md ops n be->(∀j nj,ops[j]?=some nj->j≠i->be.getD j true=false->(∀e∈nj.after,Region.binds md e=true->e.on≠i)->ni.apart ops nj=true)->i∈Region.ready md ops be->sJ P B ops ni v z->D6 P B al md ops n L f (be.setIfInBounds i true) (z.put ni.dst v)->D6 P B al md ops n L (f+1) be z:=by intro f;induction f with|zero =>intro be z pU _ af hy H;have u6:=(mem_ready.1 af).1;refine⟨λh=>(by rw[h]at af;cases af),λj ad=>?_⟩;(have u7:j<n:=ayB);refine⟨u7,?_⟩;by_cases fq:j=i;subst fq;exact hy.oF hi lW H;have:=ac1 _ _ H j (ready_mono ad fq);omega|succ f aV =>intro be z pU D3 af hy H;have u6:=(mem_ready.1 af).1;refine⟨λh=>(by rw[h]at af;cases af),λj ad=>?_⟩;(have u7:j<n:=ayB);refine⟨u7,?_⟩;by_cases fq:j=i;subst fq;exact hy.oF hi lW H;have h1:=(H.2 j (ready_mono ad fq)).2;obtain⟨D4,nj,D5,hL⟩:=mem_ready.1 ad;(have LS:∀e∈nj.after,Region.binds md e=true->e.on≠i:=λe aq G ii=>by have h1:=hL e aq G;rw[ii,getD_both u6]at h1;cases h1);have A:=Sw D5 (D3 j nj D5 fq D4 LS) hy h1;(have LU:∀k ok,ops[k]?=some ok->k≠i->(be.setIfInBounds j true).getD k true=false->(∀e∈ok.after,Region.binds md e=true->e.on≠i)->ni.apart ops ok=true:=λk ok Z kw u6 fx=>ayz);refine Sv (λaA aa=>aV (be.setIfInBounds j true) aA (pU.set ad u7) LU (ready_mono af (Ne.symm fq)) aa.1 ?_) A;rw[Array.setIfInBounds_comm _ _ fq];exact aa.2
theorem Ht{ay:List bC}(hT:df P ay){n g:Nat}{r:List Oper}{a6:av->Prop}(hs:Region.sinkB md ops n=true)(hc:Region.chainB md ops n=true)(ar:n<ops.size): ∀(l:List Oper) (k:Nat) (be:Array Bool) (z:av),(∀j,j<l.length->l[j]?=ops[k+j]?)->l.all (λo=>Op.Bm o.op)=true->k+l.length=n->HeadInv md ops n be->Region.lexHead md ops g l.length k be=true->jE P B ay al ops (l++r) z a6->D6 P B al md ops n (λSC aA=>Region.seqB md ops g n SC=true/\jE P B ay al ops r aA a6) l.length be z
 |[],k,be,z,_,_,Z,_,gi,h=>by(have:k=n:=by simpa using Z);subst this;exact⟨by simpa[Region.lexHead]using gi,h⟩
 |o::l,k,be,z,aj,nY,Z,pU,gi,h=>by(have h0:ops[k]?=some o:=by simpa using(aj 0 auF).symm);simp only[auX,Region.lexHead,auQ]at gi;obtain⟨⟨af,M⟩,LV⟩:=gi;simp only[axk,auQ]at nY;(have gd:k<n:=by simp only[auX]at Z;omega);(have By:k∈Region.ready md ops be:=by simpa using af);obtain⟨O,d,hy,hK⟩:=Sz (l:=l++r) hT nY.1 h;exact ac0 h0 O hs hc ar gd (λSC aA aX=>seqB_ready aX.1) l.length be z pU (Region.free_spec h0 M) By hy (Ht hT hs hc ar l (k+1) _ _ (λj ad=>by have:=aj (j+1) auE;simpa[awy,axu 1 j]using this) nY.2 (by simp only[auX]at Z;omega) (pU.set By gd) LV hK)
def Bz(ops:Array Oper)(n:Nat):Bool:=Region.lexTailB .any ops n&&(ops.toList.take n).all λo=>Op.Bm o.op
theorem Y.zI{ay:List bC}(hT:df P ay)(n:Nat)(hm:P.follows .mixedOrders=true)(gi:Bz ops n=true)
  (I:jE P B ay al ops ops.toList z (K .normal)):Y W (.region id ops true) z K :=
 ⟨λa w C M=>by
  obtain⟨l⟩:=ops;simp only[Bz,Region.lexTailB,auQ,avp]at gi;obtain⟨⟨⟨⟨⟨SD,ar⟩,hs⟩,hc⟩,D7⟩,nY⟩:=gi;have wK:n<l.length:=by simpa using ar
  have i7:(l.take n).length=n:=by simp;omega
  have jG:(l.drop n).length=(⟨l⟩:Array Oper).size-n:=by simp
  have D8:HeadInv .any ⟨l⟩ n (Array.replicate (⟨l⟩:Array Oper).size false) :=
   ⟨by simp,λj nj _ aj=>(azb),λt _ ax=>getD_in (by simpa using ax) (getD_replicate_false _ _)⟩
  have H:=Ht (md:=.any) (g:=(⟨l⟩:Array Oper).size-n) (r:=l.drop n) (al:=al) hT hs hc ar (l.take n) 0 _ z (λj ad=>by
   have gm:j<n:=by rw[i7]at ad;exact ad
   simp[gm]) nY (by simpa using i7) D8 (by rw[i7];exact D7) (by rw[awb];exact I)
  refine wp_region_any hm ?_
  have:=Hs (W:=W) (Q':=λe bv w'=>∃c9 aA aW,e=cM.ga c9/\K c9 aA/\bI W w' aW aA bv) (g:=(⟨l⟩:Array Oper).size-n) (λbe aA bv w' aW bK aX=>by
   have:=wpAny_of_seq (md:=.any) (Q':=λe bv w'=>∃c9 aA aW,e=cM.ga c9/\K c9 aA/\bI W w' aW aA bv) (l.drop n) n be bv w' (λj=>by simp[awK]) (by rw[jG];exact aX.1)
    (Hq hT (λD9 _ _ lT hK D_=>⟨.normal,D9,lT,rfl,hK,D_⟩) aX.2 bK)
   rwa [jG]at this) _ _ z a _ C M.drew H
  rw[i7,show n+((⟨l⟩:Array Oper).size-n)=(⟨l⟩:Array Oper).size by omega]at this
  exact this⟩
theorem Y.cond{W:b5 P B al}{c:Operand}{x y:Code}{z:av}{K:cM->av->Prop}(t:Bool)(hc:z.bb c=.bool t)(h1:t=true->Y W x z K)(A:t=false->Y W y z K):
  Y W (.cond c x y) z K :=
 ⟨λa w C M=>by
  have X:=cI M.tmps c;rw[hc]at X
  exact wp_cond_split X.hY (λh=>(h1 h).run a w C M) (λh=>(A h).run a w C M)⟩
def D'(ay:List bC)(z:av):List ResultVar->(List D->Prop)->Prop
 |[],k=>k []
 |.tmp t::r,k=>D' ay z r λds=>k (z.t t::ds)
 |.cell a ln::r,k=>match dC ay ln,z.t a with
  |some e,.box s b off=>match z.H s with
   |some (.box ey aD)=>b=ey/\DO e off aD λd=>D' ay z r λds=>k (d::ds)
   |_=>False
  |_,_=>False
def zJ(ay:List bC)(z:av)(kZ:List ResultVar)(d:D):Prop :=
 D' ay z kZ λds=>match ds with
  |[x]=>ap x d
  |ds=>match d with
   |.bm eN=>dO ds eN
   |_=>False
def LW(ay:List bC)(kZ:List ResultVar)(d:D):cM->av->Prop
 |.exit _,_=>False
 |.normal,z=>zJ ay z kZ d
 |.ret,z=>zJ ay z kZ d
def Hu(tmps:Array Value):ResultVar->Sem Value
 |.tmp t=>pure (tmps.getD t undef)
 |.cell b t=>do loadVar t (<-asAddr (tmps.getD b undef))
theorem LX{ay:List bC}(hT:df P ay){z:av}{w:World}{C:Nat->Nat}{a:Act}(ax:∀i,bh w C (z.t i) (a.tmps.getD i undef)){Ft:Nat->Prop}(hH:mc Ft w C z.H): ∀{kZ:List ResultVar} {k:List D->Prop} (_:D' ay z kZ k),∃ds vs,k ds/\db w C ds vs/\(kZ.mapM (Hu a.tmps)).run P w=.ok vs w/\vs.length=kZ.length
 |[],k,Z=>⟨[],[],Z,.nil _ _,by simp,rfl⟩
 |.tmp t::r,k,Z=>by obtain⟨ds,vs,h1,A,aa,aF⟩:=LX hT ax hH (kZ:=r) Z;refine⟨_,a.tmps.getD t undef::vs,h1,.cons (ax t) A,?_,by simp[aF]⟩;simp only[List.mapM_cons,Sem.run_bind,Hu,Sem.run_pure,Result.andThen_ok,aa]
 |.cell b ln::r,k,Z=>by simp only[D']at Z;split at Z;rename_i e s ey off aq G;obtain⟨c5,rfl⟩:=hT.get aq;split at Z;rename_i asp aD ac2;obtain⟨rfl,Z⟩:=Z;obtain⟨d,Z,O⟩:=Sb (P:=P) c5 Z;obtain⟨ds,vs,h1,A,aa,aF⟩:=LX hT ax hH (kZ:=r) Z;obtain⟨dm,bJ,hbk,hZ,_⟩:=hH.cl s _ ac2;have aw:=ax b;rw[G]at aw;have aw:=aw.wy;obtain⟨v,X,af⟩:=O w C ey 0 (λj=>dm.getD j undef) (λj d O=>by have ad:=fu O;rw[hZ.1]at ad;have X:dm[j]?=some dm[j]:=auR ad;(have dU:dm.getD j undef=dm[j]:=by simp[List.getD,X]);refine⟨?_,?_⟩;simp only[World.cell?,hbk,avu,dU];simp[ad];rw[dU];exact hZ.2 j d _ O X);refine⟨_,v::vs,h1,.cons af A,?_,by simp[aF]⟩;simp only[avu,Instr.loadAt,Instr.sureAddr,Sem.run_bind,Sem.run_pure,Result.andThen_ok]at X;have ac3:asAddr (.pointer (some ⟨ey,off,none⟩))=pure ⟨ey,off,none⟩:=rfl;simp only[List.mapM_cons,Sem.run_bind,Hu,aw,ac3,Sem.run_pure,Result.andThen_ok,X,aa];exact Z.elim;exact Z.elim
theorem SE{ay:List bC}(hT:df P ay)(ax:∀i,bh w C (z.t i) (a.tmps.getD i undef))(hH:mc Ft w C z.H){fn:Func}(h:zJ ay z fn.results.toList d):∃v,(results fn a.tmps).run P w=.ok v w/\bh w C d v:=by obtain⟨ds,vs,h1,A,aa,aF⟩:=LX (P:=P) hT ax hH h;(have cZ:∀(dm:List Value) (ao:Value),dm=vs->(if h:(⟨dm⟩:Array Value).size=1 then(⟨dm⟩:Array Value)[0]else .tuple ⟨dm⟩)=ao->(results fn a.tmps).run P w=.ok ao w:=by intro dm ao x1 au;subst x1;(have e:results fn a.tmps=(fn.results.mapM (Hu a.tmps) >>= λvs=>pure (if h:vs.size=1 then vs[0]else .tuple vs)):=by unfold results;congr 2);rw[e,Sem.run_bind,Array.mapM_eq_mapM_toList];simp only[Sem.run_map,aa,Result.andThen_ok,Sem.run_pure];rw[<-au]);cases ds with|nil =>(cases vs with|cons _ _=>have:=A.1;simp at this|nil =>simp only at h1;split at h1;rename_i _ eN;have a8:=h1.rB A;exact⟨.tuple ⟨[]⟩,cZ [] _ rfl rfl,.bm _ [] a8.1 a8.2⟩;exact h1.elim)|cons x ds =>(cases vs with|nil=>have:=A.1;simp at this|cons v vs =>(cases ds with|nil =>(cases vs with|cons _ _=>have:=A.1;simp at this|nil=>exact⟨v,cZ [v] v rfl rfl,h1.le _ _ _ A.head⟩)|cons y ds =>(cases vs with|nil=>have:=A.1;simp at this|cons ao vs =>simp only at h1;split at h1;have a8:=h1.rB A;exact⟨.tuple ⟨v::ao::vs⟩,cZ (v::ao::vs) _ rfl (by rw[axx auF]),.bm _ _ a8.1 a8.2⟩;exact h1.elim)))
def BA:List D->Nat->D
 |[],_=>.any
 |d::_,0=>d
 |_::r,n+1=>BA r n
theorem LY:∀(ds:List D) (i:Nat),BA ds i=(ds[i]?).getD .any
 |[],_=>by simp[BA]
 |d::_,0=>by simp[BA]
 |_::r,n+1=>by simp[BA,LY r n]
def entry(ds:List D)(H:bH):av:={t:=BA ds,H}
theorem mH.intro{ay : List bC}(hT : df P ay){f : FuncId}{fn : Func}{body : Code}{ds : List D}{d : D}(M : P.funcs[f]?=some fn)(G : fn.body = some body)(ar : (fn.name == "runtime.NumGoroutine") = false)(p6:fn.ntmps=al)(aj:Nat.ble ds.length al=true)(h:∀W:b5 P B al,Y W body (entry ds bH.none) (LW ay fn.results.toList d)):mH P B f ds d:=by refine⟨⟨fn,M,by simp[G],ar⟩,λw C args p5 af=>?_⟩;have mF:=avj aj;have hlen:=af.1;let W:b5 P B al:=⟨w,C,λ_=>False,p5,λ_ h=>h.elim⟩;refine calls_of_wp M G ?_;(have o9:bI W w C (entry ds bH.none) {tmps:=⟨args⟩++Array.replicate (fn.ntmps-(⟨args⟩:Array Value).size) undef,defers:=[]}:=by refine⟨λi=>?_,.none _ _ _,by simp[p6];omega,rfl,.refl _ _ _⟩;exact ayh);refine wp_mono ((h W).run _ w C o9) ?_;rintro e bv w' ⟨c9,aA,aW,rfl,hK,bK⟩;(have u9:zJ ay aA fn.results.toList d->bv.defers=[]/\∃v,(results fn bv.tmps).run P w'=.ok v w'/\∃c' aW,Ending.returned v=.returned c'/\bh w' aW d c'/\de (λ_=>False) w C w' aW:=by intro BB;obtain⟨v,X,eX⟩:=SE (P:=P) hT bK.tmps bK.heap BB;exact⟨bK.defers,v,X,v,aW,rfl,eX,bK.step⟩);cases c9 with|normal=>exact u9 hK|ret=>exact u9 hK|exit id=>exact hK.elim
def gy(H:bH):List (Nat×Nat)->bH
 |[],_=>none
 |(k,s)::r,j=>cond (Nat.beq j k) (H s) (gy H r j)
def qC(H aO:bH):List (Nat×Nat)->bH
 |[],j=>H j
 |(k,s)::r,j=>cond (Nat.beq j s) (aO k) (qC H aO r j)
def j4:List (Nat×Nat)->Bool
 |[]=>true
 |(k,s)::r=>r.all (λx=>!Nat.beq x.1 k&&!Nat.beq x.2 s)&&j4 r
theorem Ea{H:bH}:∀{m:List (Nat×Nat)} {j:Nat} {o:aJ},gy H m j=some o->∃s,(j,s)∈m/\H s=some o
 |[],_,_,h=>by cases h
 |(k,s)::r,j,o,h=>by simp only[gy]at h;cases G:Nat.beq j k with|true=>rw[G]at h;have:=avb G;subst this;exact⟨s,auY,h⟩|false=>rw[G]at h;obtain⟨bp,h1,A⟩:=Ea (m:=r) h;exact⟨bp,auZ _ h1,A⟩
theorem Eb{H aO:bH}:∀{m:List (Nat×Nat)} {j:Nat} {o:aJ},qC H aO m j=some o->(∃k,(k,j)∈m/\aO k=some o)\/((∀k,(k,j)∉m)/\H j=some o)
 |[],_,_,h=>.inr ⟨λ_ hm=>(by cases hm),h⟩
 |(k,s)::r,j,o,h=>by simp only[qC]at h;cases G:Nat.beq j s with|true=>rw[G]at h;have:=avb G;subst this;exact .inl ⟨k,auY,h⟩|false =>rw[G]at h;rcases Eb (m:=r) h with⟨bE,h1,A⟩|⟨h1,A⟩;exact .inl ⟨bE,auZ _ h1,A⟩;refine .inr ⟨λbE hm=>?_,A⟩;rcases au8.1 hm with aq|hm;cases aq;rw[av9]at G;cases G;exact h1 bE hm
theorem wL:∀{m:List (Nat×Nat)},j4 m=true->∀k s bE bp,(k,s)∈m->(bE,bp)∈m->(k=bE↔s=bp)
 |[],_,_,_,_,_,h,_=>by cases h
 |(a,b)::r,h,k,s,bE,bp,h1,A=>by simp only[j4,auQ,avz,awY]at h;(have aZ:∀x∈r,x.1≠a/\x.2≠b:=λx J=>by obtain⟨aa,aF⟩:=h.1 x J;exact⟨λe=>(by rw[e,av9]at aa;cases aa),λe=>(by rw[e,av9]at aF;cases aF)⟩);rcases au8.1 h1 with bZ|h1<;>rcases au8.1 A with b0|A;cases bZ;cases b0;simp;cases bZ;have:=aZ _ A;exact⟨λe=>absurd e.symm this.1,λe=>absurd e.symm this.2⟩;cases b0;have:=aZ _ h1;exact⟨λe=>absurd e this.1,λe=>absurd e this.2⟩;exact wL h.2 k s bE bp h1 A
variable{m:List (Nat×Nat)}{f:FuncId}{a6:D->bH->Prop}
theorem SF(M:bI W w C z a)(hm:j4 m=true){args:List Value}(hc:c8 P B f ds (gy z.H m) a6)(af:db w C ds args)(O:iY al dst=true){K:av->Prop}(hK:∀d aO,a6 d aO->∃d',ap d d'/\K (({t:=z.t,H:=qC z.H aO m}:av).put dst d')): Calls P f ⟨args⟩ w λe w'=>∃v,e=.returned v/\∃aA aW,K aA/\bI W w' aW aA (a.put dst v):=by let Ft:Nat->Prop:=λb=>∃k s o,(k,s)∈m/\z.H s=some o/\o.es b;have tM:∀b,Ft b->W.pW b:=λb ⟨k,s,o,_,h1,A⟩=>M.heap.cQ s o b h1 A;(have hH:mc Ft w C (gy z.H m):=by refine⟨λj o ag=>?_,λj ez o bN b aZ h1 A au c0=>?_,λj o b ag au=>?_⟩;obtain⟨s,_,h⟩:=Ea ag;exact M.heap.cl s o h;obtain⟨s,hs,h⟩:=Ea h1;obtain⟨bp,dn,bt⟩:=Ea A;have i6:s≠bp:=λe=>aZ ((wL hm j s ez bp hs dn).2 e);exact M.heap.inj s bp o bN b i6 h bt au c0;obtain⟨s,hs,h⟩:=Ea ag;exact⟨j,s,o,hs,h,au⟩);refine(hc.2 w C args Ft M.base (λb G=>W.DG (tM b G)) hH af).mono ?_;rintro e w' ⟨v,d,aW,aO,rfl,fO,eX,hs,nk⟩;obtain⟨d',dP,hK⟩:=hK d aO fO;refine⟨v,rfl,_,aW,hK,bI.put ?_ O (dP.le _ _ _ eX)⟩;have qD:∀j o,(∀k,(k,j)∉m)->z.H j=some o->∀b,o.es b->¬Ft b/\b<w.heap.size:=λj o ad ag b G => ⟨λ⟨k,s,bN,h1,A,aa⟩=>M.heap.inj j s o bN b (λe=>by subst e;exact ad k h1) ag A G aa,(M.heap.cl j o ag).lt G⟩;refine⟨λi=>(M.tmps i).ext hs.ext,⟨λj o ag=>?_,λj ez o bN b aZ h1 A au c0=>?_,λj o b ag au=>?_⟩,M.size,M.defers,?_⟩;rcases Eb ag with⟨k,_,h⟩|⟨ad,h⟩;exact nk.cl k o h;exact(M.heap.cl j o h).iB hs.ext λb G=>hs.iB b (qD j o ad h b G).2 (qD j o ad h b G).1;rcases Eb h1 with⟨k,Z,h⟩|⟨ad,h⟩<;>rcases Eb A with⟨bE,fv,bt⟩|⟨gm,bt⟩;exact nk.inj k bE o bN b (λe=>aZ ((wL hm k j bE ez Z fv).1 e)) h bt au c0;obtain⟨aa,aF⟩:=qD ez bN gm bt b c0;rcases nk.cQ k o b h au with a8|a8;exact aa a8;omega;obtain⟨aa,aF⟩:=qD j o ad h b au;rcases nk.cQ bE bN b bt c0 with a8|a8;exact aa a8;omega;exact M.heap.inj j ez o bN b aZ h bt au c0;rcases Eb ag with⟨k,_,h⟩|⟨ad,h⟩;rcases nk.cQ k o b h au with a8|a8;exact tM b a8;exact .inr (av6 M.step.ext.size a8);exact M.heap.cQ j o b h au;exact M.step.trans hs λb G bK=>aze
def LZ(P:Program)(B:World)(ay:List bC)(z:av)(dst:Option Tmp)(op:Op)(K:av->Prop):Prop :=
 match op with
 |.call c=>match c.callee,c.args.toList with
  |.value f,args=>nS P B ay z dst op K\/opn true (z.bb f) λf=>match f with
   |.fn (.func b6) first cs=>zq true z args λwA=>∃(g8:List D) (m:List (Nat×Nat)) (a6:D->bH->Prop),c8 P B b6 g8 (gy z.H m) a6/\j4 m=true/\dO (first++wA++cs) g8/\
     ∀d aO,a6 d aO->∃d',ap d d'/\K (({t:=z.t,H:=qC z.H aO m}:av).put dst d')
   |_=>False
  |_,_=>nS P B ay z dst op K
 |op=>nS P B ay z dst op K
theorem ac4{ay:List bC}(hT:df P ay)(M:bI W w C z a){o:Oper}(O:iY al o.dst=true){K:av->Prop}(I:LZ P B ay z o.dst o.op K)(a6:Exit->Act->World->Prop):o.wp P a w (λbv w'=>∃aA aW,K aA/\bI W w' aW aA bv) a6:=by obtain⟨dst,op,type,pos,after,guard⟩:=o;unfold LZ at I;cases op<;>simp only at I;(case call c =>obtain⟨callee,args,argTypes⟩:=c;simp only at I;split at I;rename_i f;rcases I with I|I;exact tK hT M O I a6;replace I:=iZ I;obtain⟨acN,I,LH⟩:=I;split at I;(rename_i b6 first cs;replace I:=DU I;obtain⟨wA,I,has⟩:=I;obtain⟨g8,m,Q',hc,hm,dP,hK⟩:=I;obtain⟨fN,hr,X,h1,A⟩:=(LH rfl w C _ (cI M.tmps f)).uX;have aa:=has rfl w C a.eval (λx _=>cI M.tmps x);have aF:=dP.rB ((h1.append aa).append A);obtain⟨fn,jm,rF,kY⟩:=hc.1;have G:fn.body.isNone=false:=by cases G:fn.body<;>simp[G]at rF⊢);(have cZ:(execOp a.eval ⟨dst,.call ⟨.value f,args,argTypes⟩,type,pos,after,guard⟩).run P w=.ok (.enter b6 ⟨fN++args.toList.map a.eval++hr⟩) w:=aym);simp only[Oper.wp,cZ,Oper.upon];(exact(SF M hm hc aF O hK).mono λe w' ⟨v,aq,h⟩=>by subst aq;exact h);exact I.elim;exact tK hT M O I a6);all_goals exact tK hT M O I a6
def BC(P:Program)(B:World)(ay:List bC)(al:Nat):List Oper->av->(av->Prop)->Prop
 |[],z,K=>K z
 |⟨dst,op,_,_,_,guard⟩::rest,z,K=>cond (iY al dst) (match guard with
  |none=>LZ P B ay z dst op λaA=>BC P B ay al rest aA K
  |some _=>False) False
theorem L0{ay:List bC}(hT:df P ay){W:b5 P B al}{ops:Array Oper}{a6:Exit->Act->World->Prop}{K:av->Prop}(fO:∀aA bv w' aW,K aA->bI W w' aW aA bv->a6 .normal bv w'): ∀{l:List Oper} {z:av} (_:BC P B ay al l z K) {a:Act} {w:World} {C:Nat->Nat} (_:bI W w C z a),wpList P ops a6 l a w
 |[],_,I,_,_,_,M=>fO _ _ _ _ I M
 |o::rest,z,I,a,w,C,M=>by change cond (iY al o.dst) _ False at I;replace I:=ig I;obtain⟨O,I⟩:=I;unfold wpList;split at I;rename_i aS;rw[auO (by simp[Region.wanted,aS])];exact .inl (Oper.wp_mono (λbv w' ⟨aA,aW,h1,A⟩=>L0 hT fO h1 A) (ac4 hT M O I a6));exact I.elim
theorem Y.SG{ay:List bC}(hT:df P ay)(I:BC P B ay al ops.toList z (K .normal)):Y W (.region id ops false) z K :=
 ⟨λ_ _ _ M=>wp_region_list (L0 hT (λaA _ _ aW hK bK=>⟨.normal,aA,aW,rfl,hK,bK⟩) I M)⟩
theorem Y.SH{ay:List bC}(hT:df P ay)(n:Nat)(hm:P.follows .mixedOrders=true)(gi:Bz ops n=true)
  (I:jE P B ay al ops (ops.toList.take n) z λaA=>BC P B ay al (ops.toList.drop n) aA (K .normal)):Y W (.region id ops true) z K :=
 ⟨λa w C M=>by
  obtain⟨l⟩:=ops;simp only[Bz,Region.lexTailB,auQ,avp]at gi;obtain⟨⟨⟨⟨⟨SD,ar⟩,hs⟩,hc⟩,D7⟩,nY⟩:=gi;have wK:n<l.length:=by simpa using ar
  have i7:(l.take n).length=n:=by simp;omega
  have jG:(l.drop n).length=(⟨l⟩:Array Oper).size-n:=by simp
  have D8:HeadInv .any ⟨l⟩ n (Array.replicate (⟨l⟩:Array Oper).size false) :=
   ⟨by simp,λj nj _ aj=>(azb),λt _ ax=>getD_in (by simpa using ax) (getD_replicate_false _ _)⟩
  have H:=Ht (md:=.any) (g:=(⟨l⟩:Array Oper).size-n) (r:=[]) (al:=al) (a6:=λaA=>BC P B ay al (l.drop n) aA (K .normal)) hT hs hc ar (l.take n) 0 _ z (λj ad=>by
   have gm:j<n:=by rw[i7]at ad;exact ad
   simp[gm]) nY (by simpa using i7) D8 (by rw[i7];exact D7) (by rw[avC];exact I)
  refine wp_region_any hm ?_
  have:=Hs (W:=W) (Q':=λe bv w'=>∃c9 aA aW,e=cM.ga c9/\K c9 aA/\bI W w' aW aA bv) (g:=(⟨l⟩:Array Oper).size-n) (λbe aA bv w' aW bK aX=>by
   have:=wpAny_of_seq (md:=.any) (ops:=⟨l⟩) (P:=P) (Q':=λe bv w'=>∃c9 aA aW,e=cM.ga c9/\K c9 aA/\bI W w' aW aA bv) (l.drop n) n be bv w' (λj=>by simp[awK]) (by rw[jG];exact aX.1)
    (L0 (l:=l.drop n) hT (λD9 _ _ lT hK D_=>⟨.normal,D9,lT,rfl,hK,D_⟩) (show BC P B ay al (l.drop n) aA (K .normal)from aX.2) bK)
   rwa [jG]at this) _ _ z a _ C M.drew H
  rw[i7,show n+((⟨l⟩:Array Oper).size-n)=(⟨l⟩:Array Oper).size by omega]at this
  exact this⟩
def Ec(ay:List bC)(kZ:List ResultVar)(a6:D->bH->Prop):cM->av->Prop
 |.exit _,_=>False
 |.normal,z=>∃d,zJ ay z kZ d/\a6 d z.H
 |.ret,z=>∃d,zJ ay z kZ d/\a6 d z.H
variable{body:Code}
theorem c8.intro{ay:List bC}(hT:df P ay){fn:Func}{H:bH}(M:P.funcs[f]?=some fn)(G:fn.body=some body)(ar : (fn.name == "runtime.NumGoroutine") = false)(p6 : fn.ntmps = al)(aj : Nat.ble ds.length al = true)(h : ∀W : b5 P B al,Y W body (entry ds H) (Ec ay fn.results.toList a6)): c8 P B f ds H a6 := by refine⟨⟨fn,M,by simp[G],ar⟩,λw C args Ft p5 qE hH af=>?_⟩;have mF:=avj aj;have hlen:=af.1;let W:b5 P B al:=⟨w,C,Ft,p5,qE⟩;refine calls_of_wp M G ?_;(have o9:bI W w C (entry ds H) {tmps:=⟨args⟩++Array.replicate (fn.ntmps-(⟨args⟩:Array Value).size) undef,defers:=[]}:=by refine⟨λi=>?_,⟨hH.cl,hH.inj,λs o b ag au=>.inl (hH.cQ s o b ag au)⟩,by simp[p6];omega,rfl,.refl _ _ _⟩;exact ayh);refine wp_mono ((h W).run _ w C o9) ?_;rintro e bv w' ⟨c9,aA,aW,rfl,hK,bK⟩;(have u9:(∃d,zJ ay aA fn.results.toList d/\a6 d aA.H)->bv.defers=[]/\∃v,(results fn bv.tmps).run P w'=.ok v w'/\∃c' d aW aO,Ending.returned v=.returned c'/\a6 d aO/\bh w' aW d c'/\de Ft w C w' aW/\mc (λb=>Ft b\/w.heap.size<=b) w' aW aO:=by rintro⟨d,BB,fO⟩;obtain⟨v,X,eX⟩:=SE (P:=P) hT bK.tmps bK.heap BB;exact⟨bK.defers,v,X,v,d,aW,aA.H,rfl,fO,eX,bK.step,bK.heap⟩);cases c9 with|normal=>exact u9 hK|ret=>exact u9 hK|exit id=>exact hK.elim
theorem c8.mono{f:FuncId}{ds:List D}{H:bH}{a6 Q':D->bH->Prop}(h:c8 P B f ds H a6)(I:∀d H,a6 d H->Q' d H):c8 P B f ds H Q' :=
 ⟨h.1,λw C args Ft h1 A aa aF=>(h.2 w C args Ft h1 A aa aF).mono λ_ _ ⟨v,d,aW,aO,aq,fO,af⟩=>⟨v,d,aW,aO,aq,I d aO fO,af⟩⟩
def L1(d:D)(k:Nat):Option (List D) :=
 match d with
 |.bd=>some []
 |.T .dZ bE xs=>cond (Nat.beq k bE) (some xs) none
 |_=>none
theorem bI.own{w:World}{C:Nat->Nat}{a:Act}(M:bI W w C z a)(s k e:Nat){j:Nat}{xs:List D}(O:L1 (z.t j) k=some xs): ∃v,bI W w C {t:=λi=>cond (Nat.beq i j) (.T (.own s v) k xs) (z.t i),H:=λi=>cond (Nat.beq i s) (some (.own v xs.length k e)) (z.H i)} a:=by have ad:=M.tmps j;(have key:∀v,a.tmps.getD j undef=v->bh w C (.T (.own s v) k xs) v->(∃bv n,v=.slice bv n n/\n=xs.length/\n<=maxLen)->bI W w C {t:=λi=>cond (Nat.beq i j) (.T (.own s v) k xs) (z.t i),H:=λi=>cond (Nat.beq i s) (some (.own v xs.length k e)) (z.H i)} a:=by rintro v X af ⟨bv,n,rfl,rfl,hm⟩;(have tN:∀b,¬(aJ.own (Value.slice bv xs.length xs.length) xs.length k e).es b:=by rintro b ⟨o,cap,h1,A⟩;injection h1 with _ _ aa;omega);refine⟨λi=>?_,⟨λbp o ag=>?_,λfb gx dj dt b aZ h1 A au c0=>?_,λbp o b ag au=>?_⟩,M.size,M.defers,M.step⟩;dsimp only;(cases G:Nat.beq i j with|true=>have:=avb G;subst this;rw[awo,X];exact af|false=>exact M.tmps i);dsimp only at ag;(cases G:Nat.beq bp s with|true=>rw[G]at ag;cases ag;exact⟨bv,xs.length,rfl,auW _,hm,λh=>absurd h auD⟩|false=>rw[G]at ag;exact M.heap.cl bp o ag);dsimp only at h1 A;(cases lo:Nat.beq fb s with|true=>rw[lo]at h1;cases h1;exact tN b au|false =>(cases g_:Nat.beq gx s with|true=>rw[g_]at A;cases A;exact tN b c0|false=>rw[lo]at h1;rw[g_]at A;exact M.heap.inj fb gx dj dt b aZ h1 A au c0));dsimp only at ag;cases G:Nat.beq bp s with|true=>rw[G]at ag;cases ag;exact(tN b au).elim|false=>rw[G]at ag;exact M.heap.cQ bp o b ag au);unfold L1 at O;split at O;rename_i aq;rw[aq]at ad;cases O;refine⟨_,key _ rfl ?_ ?_⟩;rw[ad.xS];exact .jj _ _ none rfl;rw[ad.xS];exact⟨none,0,rfl,rfl,au7 _⟩;rename_i bE bl aq;rw[aq]at ad;(cases G:Nat.beq k bE with|false=>rw[G]at O;cases O|true =>rw[G]at O;cases O;have:=avb G;subst this;generalize X:a.tmps.getD j undef=v at ad;refine⟨v,key v X ?_ ?_⟩;(cases ad with|jj t k a ax=>exact .jj _ _ a rfl|T t k xs b o cap g ax G hc hm Z da gg en h=>exact .T _ k xs b o cap g rfl G hc hm Z da gg en h);(cases ad with|jj t k a ax=>exact⟨a,0,rfl,rfl,au7 _⟩|T t k xs b o cap g ax G hc hm Z da gg en h =>obtain⟨bv,n,ar⟩:=ax;injection ar with h1 A aa;exact⟨_,xs.length,by rw[aa,A],rfl,by omega⟩));cases O
theorem Y.own(j s k e:Nat){xs:List D}{c:Code}(O:L1 (z.t j) k=some xs)
  (h:∀v,Y W c {t:=λi=>_root_.cond (Nat.beq i j) (.T (.own s v) k xs) (z.t i),H:=λi=>_root_.cond (Nat.beq i s) (some (.own v xs.length k e)) (z.H i)} K):Y W c z K :=
 ⟨λa w C M=>by obtain⟨v,fZ⟩:=M.own s k e O;exact(h v).run a w C fZ⟩
def tO(z:av):List (Nat×Nat)->List (Nat×aJ)->Prop
 |[],[]=>True
 |(k,s)::m,(bE,o)::hs=>k=bE/\z.H s=some o/\tO z m hs
 |_,_=>False
theorem tO.aM:∀{m:List (Nat×Nat)} {hs:List (Nat×aJ)},tO z m hs->∀k o,aM hs k=some o->∃s,(k,s)∈m/\z.H s=some o
 |[],[],_,k,o,h=>by cases h
 |(bE,s)::m,(asq,bN)::hs,h,k,o,aj=>by obtain⟨rfl,A,aa⟩:=h;simp only[Go.bV.aM]at aj;cases G:Nat.beq k bE with|true=>rw[G]at aj;cases aj;have:=avb G;subst this;exact⟨s,auY,A⟩|false=>rw[G]at aj;obtain⟨bp,aF,a8⟩:=tO.aM aa k o aj;exact⟨bp,auZ _ aF,a8⟩
 |[],_::_,h,_,_,_=>h.elim
 |_::_,[],h,_,_,_=>by cases h
structure nZ (z:av) (l:List (Nat×D)) (hs:List (Nat×aJ)) (m:List (Nat×Nat)):Prop where
 t:jD z l
 ok:j4 m=true
 h:tO z m hs
theorem bI.Hv{l:List (Nat×D)}(h:bI W w C z a)(Z:nZ z l hs m):bI W w C (ht l hs) a:=by obtain⟨h1,hm,A⟩:=Z;refine⟨λi=>(h1.aM i).le _ _ _ (h.tmps i),⟨λs o ag=>?_,λs bp o bN b ar aa aF=>?_,λs o b ag=>?_⟩,h.size,h.defers,h.step⟩;obtain⟨bp,_,a8⟩:=A.aM s o ag;exact h.heap.cl bp o a8;obtain⟨k,Z,a8⟩:=A.aM s o aa;obtain⟨bE,fv,cN⟩:=A.aM bp bN aF;exact h.heap.inj k bE o bN b (λe=>ar ((wL hm s k bp bE Z fv).2 e)) a8 cN;obtain⟨bp,_,a8⟩:=A.aM s o ag;exact h.heap.cQ bp o b a8
theorem Y.fc(l:List (Nat×D))(hs:List (Nat×aJ))(m:List (Nat×Nat))(h1:nZ z l hs m)(h:Y W c (ht l hs) K):Y W c z K :=
 ⟨λa w C M=>h.run a w C (M.Hv h1)⟩
def k0(l:α->List (Nat×D))(hs:α->List (Nat×aJ))(K:cM->av->Prop):cM->av->Prop
 |.normal,z=>∃x m,nZ z (l x) (hs x) m
 |.exit id,z=>K (.exit id) z
 |.ret,z=>K .ret z
theorem Y.k0{a b:Code}{α:Type}(l:α->List (Nat×D))(hs:α->List (Nat×aJ))(h:Y W a z (k0 l hs K))(bt:∀x,Y W b (ht (l x) (hs x)) K):Y W (.seq a b) z K :=
 .seq (h.mono λe aA Z=>by
  cases e with
  |normal=>obtain⟨x,m,h1⟩:=Z;exact(bt x).fc _ _ m h1
  |exit id=>exact Z
  |ret=>exact Z)
def ee(l:α->List (Nat×D))(hs:α->List (Nat×aJ))(fD:α->Nat)(x:α)(K:cM->av->Prop):cM->av->Prop
 |.normal,z=>∃bw m,fD bw<fD x/\nZ z (l bw) (hs bw) m
 |.exit id,z=>K (.exit id) z
 |.ret,z=>K .ret z
theorem Y.ee{c:Code}{α:Type}(l:α->List (Nat×D))(hs:α->List (Nat×aJ))(fD:α->Nat)(eI:α)(m:List (Nat×Nat))(h1:nZ z (l eI) (hs eI) m)
  (round:∀x,Y W c (ht (l x) (hs x)) (ee l hs fD x K)):Y W (.loop c) z K :=
 ⟨λa w C M=>by
  have o9:=M.Hv h1;intro b k aD
  have key:∀n x,fD x=n->∀a w C,bI W w C (ht (l x) (hs x)) a->
    ∃e bv w',(∃c9 aA aW,e=cM.ga c9/\K c9 aA/\bI W w' aW aA bv)/\Arrives P (lone (b.at a (.code c::.inLoop c::k)) aD w) b k aD e bv w':=by
   intro n
   induction n using Nat.strongRecOn with
   |_ n aV =>
    intro x ar a w C M;obtain⟨e,ty,tz,⟨c9,xT,tA,aq,hK,bK⟩,oy⟩:=(round x).run a w C M b (.inLoop c::k) aD;subst aq
    cases c9 with
    |normal =>
     obtain⟨bw,u_,bg,aa⟩:=hK;obtain⟨DH,a₂,DI,DJ,DK⟩:=aV (fD bw) (ar ▸ bg) bw rfl ty tz tA (bK.Hv aa);exact⟨DH,a₂,DI,DJ,.of_steps (Steps.trans oy (.one step_inLoop)) DK⟩
    |exit id=>exact⟨_,ty,tz,⟨.exit id,xT,tA,rfl,hK,bK⟩,.pass (x:=.inLoop c) rfl (λ_ _=>.inl (by simp[cM.ga])) oy⟩
    |ret=>exact⟨_,ty,tz,⟨.ret,xT,tA,rfl,hK,bK⟩,.pass (x:=.inLoop c) rfl (λ_ _=>.inl (by simp[cM.ga])) oy⟩
  obtain⟨e,bv,w',I,oy⟩:=key _ eI rfl a w C o9
  exact⟨e,bv,w',I,.of_steps (.one step_loop) oy⟩⟩
theorem ap.own{v:Value}{k:Nat}{xs:List D}(s bp:Nat):ap (.T (.own s v) k xs) (.T (.own bp v) k xs) :=
 ⟨λw C ao h=>by
  cases h with
  |jj t k a ax=>exact .jj _ _ a ax
  |T t k xs b o cap g ax G hc hm Z da gg en h=>exact .T _ k xs b o cap g ax G hc hm Z da gg en h⟩
theorem ap.mf{t:iA}:ap (.T t k xs) (.T .none k xs):=ap.jk _
theorem ap.nil:ap .bd (.T .none k []):=⟨λw C ao h=>by rw[h.xS];exact .jj _ _ none trivial⟩
theorem ap.box{s bp b o:Nat}:ap (.box s b o) (.box bp b o):=⟨λw C ao h=>by rw[h.wy];exact .box _ _ _⟩
theorem de.below(h:Below w.heap.size w w'):de (λ_=>False) w C w' C :=
 ⟨⟨h.size,λ_ _=>auW _,λb o G _=>by simp only[World.cell?,h.block b G]⟩,h.os,h.tape,h.output,λb G _=>⟨h.block b G,rfl⟩⟩
def Ed:D->Option Value
 |.bool b=>some (.bool b)
 |.int k n=>some (.int k n)
 |.N s=>some (.string ⟨⟨s⟩⟩)
 |.am v=>some v
 |_=>none
def BD:List D->Option (List Value)
 |[]=>some []
 |d::r=>match Ed d,BD r with
  |some v,some vs=>some (v::vs)
  |_,_=>none
theorem ac5(h:Ed d=some v)(af:bh w C d ao):ao=v:=by cases d<;>simp only[Ed,avi,reduceCtorEq]at h;subst h;exact af.hY;subst h;exact af.fC;subst h;exact af.kS;subst h;exact af.gh
theorem L2{w:World}{C:Nat->Nat}:∀{ds:List D} {vs dm:List Value},BD ds=some vs->db w C ds dm->dm=vs
 |[],vs,dm,h,af=>by cases h;have:=af.1;cases dm with|nil=>rfl|cons _ _=>simp at this
 |d::r,vs,dm,h,af=>by simp only[BD]at h;split at h;rename_i v gv h1 A;cases h;(cases dm with|nil=>have:=af.1;simp at this|cons ao dm =>have aa:dm=gv:=L2 (w:=w) (C:=C) A ⟨by have:=af.1;simpa using this,λi d v aa aF=>af.2 (i+1) d v (by simpa using aa) (by simpa using aF)⟩;rw[ac5 h1 (af.2 0 d ao rfl rfl),aa]);cases h
theorem mH.zK{vs:List Value}(hc:Bj P f)(ha:BD ds=some vs)
  (h:∀w,pV B w->Calls P f ⟨vs⟩ w λe w'=>∃v,e=.returned v/\(∀C,bh w' C d v)/\Below w.heap.size w w'):mH P B f ds d :=
 ⟨hc,λw C args G af=>by
  rw[L2 ha af]
  exact(h w G).mono λe w' ⟨v,aq,X,hs⟩=>⟨v,C,aq,X C,de.below hs⟩⟩
theorem mH.pure{vs:List Value}(hc:Bj P f)(ha:BD ds=some vs)(O:Ed d=some v)(h:∀w,pV B w->Calls P f ⟨vs⟩ w λe w'=>e=.returned v/\w'=w):mH P B f ds d:=by(have eX:∀w C,bh w C d v:=λw C=>by cases d<;>simp only[Ed,avi,reduceCtorEq]at O<;>subst O<;>constructor);exact .zK hc ha λw G=>(h w G).mono λe w' ⟨aq,cz⟩=>by subst cz;exact⟨v,aq,λC=>eX _ C,.refl _ _⟩
theorem mH.newRow{vs:List Value}{e:TypeId}(hc:Bj P f)(ha:BD ds=some vs)
  (Z:∀x∈xs,x.cells.length=k) (hm:xs.length<=maxLen) (au:∀w C,db w C (b4 xs) dm) (h1:∀ao∈dm,ao.oneCell'=true)
  (h:∀w,pV B w->Calls P f ⟨vs⟩ w λnR w'=>nR=.returned (.slice (some ⟨w.heap.size,0,none⟩) xs.length xs.length)/\w'=w.alloc (.cells ⟨dm⟩ e)):mH P B f ds (.T .dZ k xs) :=
 ⟨hc,λw C args G af=>by
  rw[L2 ha af]
  exact(h w G).mono λnR w' ⟨aq,cz⟩=>by
   subst cz
   exact⟨_,gw C w.heap.size (xs.length*k),aq,Hi Z (auW _) hm (λj d O=>by
    obtain⟨aj,aS⟩:=au w C;have ad:j<dm.length:=by have:=(avk.1 O).1;omega
    exact⟨dm[j],by simp[ad],aS j d _ O (by simp[ad]),h1 _ (auT ad)⟩) ⟨_,_,rfl⟩,de.alloc _ _ _ _ _⟩⟩
theorem dO.refl:∀ds:List D,dO ds ds
 |[]=>trivial
 |d::r=>⟨.refl d,dO.refl r⟩
theorem Y.gS(l:List (Nat×D))(hs:List (Nat×aJ))(m:List (Nat×Nat))(h:nZ z l hs m)(Z:K .ret (ht l hs)):Y W .ret z K :=
 Y.fc l hs m h (Y.ret Z)
structure ah (P:Program) (B:World) (al:Nat) (z:av) (dst:Option Tmp) (op:Op) (K:av->Prop):Prop where
 run:∀(W:b5 P B al) (w:World) (C:Nat->Nat) (a:Act),bI W w C z a->iY al dst=true->∀(type:TypeId) (pos:String) (after:Array Edge) (a6:Exit->Act->World->Prop),
  (⟨dst,op,type,pos,after,none⟩:Oper).wp P a w (λbv w'=>∃aA aW,K aA/\bI W w' aW aA bv) a6
def ac6:Op->Bool
 |.call c=>match c.callee with
  |.builtin b=>match b with
   |.len|.min|.max=>false
   |_=>true
  |_=>true
 |.binOp _ _ _ y _=>match y with
  |.const v=>match v with
   |.slice a _ _=>a.isNone
   |_=>false
  |_=>false
 |.indexAddr ..|.load ..|.store ..|.convert ..|.makeSlice ..|.makeMap ..|.lookup ..|.mapUpdate ..|.slice ..|.range ..|.next ..=>true
 |_=>false
def Ee(P:Program)(B:World)(al:Nat)(ay:List bC)(z:av)(dst:Option Tmp)(op:Op)(K:av->Prop):Prop :=
 match ac6 op with
 |true=>nS P B ay z dst op K\/ah P B al z dst op K
 |false=>nS P B ay z dst op K
theorem SI{ay:List bC}(hT:df P ay)(M:bI W w C z a){o:Oper}(aS:o.guard=none)(O:iY al o.dst=true){K:av->Prop}(I:Ee P B al ay z o.dst o.op K)(a6:Exit->Act->World->Prop):o.wp P a w (λbv w'=>∃aA aW,K aA/\bI W w' aW aA bv) a6:=by unfold Ee at I;split at I;rcases I with I|I;exact tK hT M O I a6;obtain⟨dst,op,type,pos,after,guard⟩:=o;simp only at aS;subst aS;exact I.run W w C a M O type pos after a6;exact tK hT M O I a6
def BE(P:Program)(B:World)(ay:List bC)(al:Nat):List Oper->av->(av->Prop)->Prop
 |[],z,K=>K z
 |⟨dst,op,_,_,_,guard⟩::rest,z,K=>cond (iY al dst) (match guard with
  |none=>Ee P B al ay z dst op λaA=>BE P B ay al rest aA K
  |some _=>False) False
theorem L3{ay:List bC}(hT:df P ay){W:b5 P B al}{ops:Array Oper}{a6:Exit->Act->World->Prop}{K:av->Prop}(fO:∀aA bv w' aW,K aA->bI W w' aW aA bv->a6 .normal bv w'): ∀{l:List Oper} {z:av} (_:BE P B ay al l z K) {a:Act} {w:World} {C:Nat->Nat} (_:bI W w C z a),wpList P ops a6 l a w
 |[],_,I,_,_,_,M=>fO _ _ _ _ I M
 |o::rest,z,I,a,w,C,M=>by change cond (iY al o.dst) _ False at I;replace I:=ig I;obtain⟨O,I⟩:=I;unfold wpList;split at I;rename_i aS;rw[auO (by simp[Region.wanted,aS])];exact .inl (Oper.wp_mono (λbv w' ⟨aA,aW,h1,A⟩=>L3 hT fO h1 A) (SI hT M aS O I a6));exact I.elim
theorem Y.Ef{ay:List bC}(hT:df P ay)(I:BE P B ay al ops.toList z (K .normal)):Y W (.region id ops false) z K :=
 ⟨λ_ _ _ M=>wp_region_list (L3 hT (λaA _ _ aW hK bK=>⟨.normal,aA,aW,rfl,hK,bK⟩) I M)⟩
theorem Y.x2{ay:List bC}(hT:df P ay)(n:Nat)(hm:P.follows .mixedOrders=true)(gi:Bz ops n=true)
  (I:jE P B ay al ops (ops.toList.take n) z λaA=>BE P B ay al (ops.toList.drop n) aA (K .normal)):Y W (.region id ops true) z K :=
 ⟨λa w C M=>by
  obtain⟨l⟩:=ops;simp only[Bz,Region.lexTailB,auQ,avp]at gi;obtain⟨⟨⟨⟨⟨SD,ar⟩,hs⟩,hc⟩,D7⟩,nY⟩:=gi;have wK:n<l.length:=by simpa using ar
  have i7:(l.take n).length=n:=by simp;omega
  have jG:(l.drop n).length=(⟨l⟩:Array Oper).size-n:=by simp
  have D8:HeadInv .any ⟨l⟩ n (Array.replicate (⟨l⟩:Array Oper).size false) :=
   ⟨by simp,λj nj _ aj=>(azb),λt _ ax=>getD_in (by simpa using ax) (getD_replicate_false _ _)⟩
  have H:=Ht (md:=.any) (g:=(⟨l⟩:Array Oper).size-n) (r:=[]) (al:=al) (a6:=λaA=>BE P B ay al (l.drop n) aA (K .normal)) hT hs hc ar (l.take n) 0 _ z (λj ad=>by
   have gm:j<n:=by rw[i7]at ad;exact ad
   simp[gm]) nY (by simpa using i7) D8 (by rw[i7];exact D7) (by rw[avC];exact I)
  refine wp_region_any hm ?_
  have:=Hs (W:=W) (Q':=λe bv w'=>∃c9 aA aW,e=cM.ga c9/\K c9 aA/\bI W w' aW aA bv) (g:=(⟨l⟩:Array Oper).size-n) (λbe aA bv w' aW bK aX=>by
   have:=wpAny_of_seq (md:=.any) (ops:=⟨l⟩) (P:=P) (Q':=λe bv w'=>∃c9 aA aW,e=cM.ga c9/\K c9 aA/\bI W w' aW aA bv) (l.drop n) n be bv w' (λj=>by simp[awK]) (by rw[jG];exact aX.1)
    (L3 (l:=l.drop n) hT (λD9 _ _ lT hK D_=>⟨.normal,D9,lT,rfl,hK,D_⟩) (show BE P B ay al (l.drop n) aA (K .normal)from aX.2) bK)
   rwa [jG]at this) _ _ z a _ C M.drew H
  rw[i7,show n+((⟨l⟩:Array Oper).size-n)=(⟨l⟩:Array Oper).size by omega]at this
  exact this⟩
variable{op:Op}
theorem ah.val{K:av->Prop}
  (h:∀(W:b5 P B al) (w:World) (C:Nat->Nat) (a:Act),bI W w C z a->∀(type:TypeId) (pos:String) (after:Array Edge),∃v w' aW aA d,
   (execOp a.eval ⟨dst,op,type,pos,after,none⟩).run P w=.ok (.value v) w'/\bI W w' aW aA a/\bh w' aW d v/\K (aA.put dst d)):ah P B al z dst op K :=
 ⟨λW w C a M O type pos after a6=>by
  obtain⟨v,w',aW,aA,d,cZ,fZ,af,hK⟩:=h W w C a M type pos after;simp only[Oper.wp,cZ,Oper.upon]
  exact⟨_,aW,hK,fZ.put O af⟩⟩
theorem ah.unit{K:av->Prop}
  (h:∀(W:b5 P B al) (w:World) (C:Nat->Nat) (a:Act),bI W w C z a->∀(type:TypeId) (pos:String) (after:Array Edge),∃w' aW aA,
   (execOp a.eval ⟨dst,op,type,pos,after,none⟩).run P w=.ok .skip w'/\bI W w' aW aA a/\K (aA.put dst .undef)):ah P B al z dst op K :=
 ⟨λW w C a M O type pos after a6=>by
  obtain⟨w',aW,aA,cZ,fZ,hK⟩:=h W w C a M type pos after;simp only[Oper.wp,cZ,Oper.upon]
  exact⟨_,aW,hK,fZ.put O .undef⟩⟩
theorem ah.call{z:av}{dst:Option Tmp}{K:av->Prop}{f:Operand}{args:Array Operand}{mM:Array TypeId}{b6:FuncId}{first cs:List D}(M:z.bb f=.fn (.func b6) first cs)
  (g8:List D) (m:List (Nat×Nat)) {a6:D->bH->Prop} (hc:c8 P B b6 g8 (gy z.H m) a6) (hm:j4 m=true) (dP:dO (first++args.toList.map z.bb++cs) g8)
  (hK:∀d aO,a6 d aO->∃d',ap d d'/\K (({t:=z.t,H:=qC z.H aO m}:av).put dst d')):ah P B al z dst (.call ⟨.value f,args,mM⟩) K :=
 ⟨λW w C a mg O type pos after Q'=>by
  have pe:=cI mg.tmps f;rw[M]at pe;obtain⟨fN,hr,X,h1,A⟩:=pe.uX
  have aa:db w C (args.toList.map z.bb) (args.toList.map a.eval) :=
   ⟨by simp,λi d v O X=>by
    simp only[au']at O X
    cases J:args.toList[i]? with
    |none=>rw[J]at O;cases O
    |some x=>rw[J]at O X;cases O;cases X;exact cI mg.tmps x⟩
  have aF:=dP.rB ((h1.append aa).append A);obtain⟨fn,jm,rF,kY⟩:=hc.1;have G:fn.body.isNone=false:=by cases G:fn.body<;>simp[G]at rF⊢
  have cZ:(execOp a.eval ⟨dst,.call ⟨.value f,args,mM⟩,type,pos,after,none⟩).run P w=.ok (.enter b6 ⟨fN++args.toList.map a.eval++hr⟩) w:=by
   simp only[execOp,resolve,X,Deferred.ofValue,Sem.run_bind,Sem.run_pure,Result.andThen_ok,invoke,callFunc,run_program,jm,kY,G,avT,awq];congr 2
   apply awC;simp
  simp only[Oper.wp,cZ,Oper.upon]
  exact(SF mg hm hc aF O hK).mono λe w' ⟨v,aq,h⟩=>by subst aq;exact h⟩
variable{K:av->Prop}{ay:List bC}
def h5(v:Value)(off:Nat):Value :=
 match v with
 |.slice (some ⟨b,o,_⟩) _ _=>.pointer (some ⟨b,o+off,none⟩)
 |_=>undef
variable{e:Nat}
theorem ks.pos(h:ks w C v xs k e)(hi:i<xs.length):∃b cap vs,v=.slice (some ⟨b,0,none⟩) xs.length cap/\xs.length<=cap/\cap<=maxLen/\(∀x∈xs,x.cells.length=k)/\w.heap[b]?=some (.cells vs e (0,0))/\vs.size=cap*k/\C b=0/\∀(j:Nat) d,(b4 xs)[j]?=some d->∃ao,vs[j]?=some ao/\bh w C d ao/\ao.oneCell'=true:=by obtain⟨a,cap,X,hc,hm,Z,_,cz⟩:=h;obtain⟨b,vs,ha,G,hs,da,af⟩:=cz auD;subst ha;exact⟨b,cap,vs,X,hc,hm,Z,G,hs,da,af⟩
variable{x eO:Operand}{Eg:IntKind}{ce:bC}
theorem ah.eG(hT:df P ay)(s:Nat){bJ:Nat}{i:Int}(J:z.bb x=.am v)(hs:z.H s=some (.row v xs k e))(hi:z.bb eO=.int Eg i)
  (ax:dC ay t=some ce) (b2:ce.kind=.slice bJ) (fr:dC ay bJ=some aH) (lX:aH.aB=k) (h0:0<=i) (h1:i<xs.length) (hK:K (z.put dst (.am (h5 v (i.toNat*k))))):ah P B al z dst (.indexAddr t x eO) K :=
 .val λW w C a M type pos after=>by
  obtain⟨c5,rfl⟩:=hT.get ax;obtain⟨fp,rfl⟩:=hT.get fr;have au:=c5.j2 b2;have X:=cI M.tmps x;rw[J]at X
  have Eh:=cI M.tmps eO;rw[hi]at Eh
  obtain⟨b,cap,vs,rfl,_⟩:=ks.pos (i:=i.toNat) (M.heap.cl s _ hs) auD;refine⟨_,w,C,z,_,?_,M,.am _,hK⟩;simp[execOp,X.gh,Eh.fC,Instr.indexAt,asIntOf,run_underlying au,h0,h1,fp.size,p1,lX,h5]
theorem ah.mh(hT:df P ay)(s:Nat)(J:z.bb x=.am (h5 v (i*k)))(hs:z.H s=some (.row v xs k e))(ax:dC ay t=some ce){y:D}
  (hy:xs[i]?=some y) (aj:DP ce k 0 y λd=>K (z.put dst d)):ah P B al z dst (.load t x) K :=
 .val λW w C a M type pos after=>by
  obtain⟨c5,rfl⟩:=hT.get ax;have X:=cI M.tmps x;rw[J]at X
  obtain⟨b,cap,vs,rfl,_,_,Z,G,hsz,_,af⟩:=ks.pos (M.heap.cl s _ hs) (fu hy);obtain⟨d,hK,O⟩:=Lp c5 aj
  obtain⟨ao,au,L4⟩:=O w C b (0+i*k) (λj=>vs.getD (i*k+j) undef) (Z y (au5 hy)) (λj d O=>by
   have ad:j<k:=by rw[<-Z y (au5 hy)];exact fu O
   obtain⟨ao,h1,A,_⟩:=af (i*k+j) d (by rw[wD Z hy ad];exact O);refine⟨?_,?_⟩
   ·simp only[World.cell?,G,avu];simp[h1,aws]
   simp[aws,h1,A])
  refine⟨ao,w,C,z,d,?_,M,L4,hK⟩;simp only[h5]at X;simp only[aw9]at au;simp only[execOp,X.gh,Sem.run_bind,au,Result.andThen_ok,Sem.run_pure]
theorem ah.sK(hT:df P ay)(s:Nat){bJ:Nat}(J:z.bb x=.am v)(hs:z.H s=some (.row v xs k e))(ax:dC ay t=some ce)(b2:ce.kind=.slice bJ)
  (hK:K (z.put dst (.int .i64 xs.length))):ah P B al z dst (.call ⟨.builtin .len,#[x],#[t]⟩) K :=
 .val λW w C a M type pos after=>by
  obtain⟨c5,rfl⟩:=hT.get ax;have au:=c5.j2 b2;have X:=cI M.tmps x;rw[J]at X
  obtain⟨bv,cap,rfl,_⟩:=M.heap.cl s _ hs;refine⟨.int .i64 xs.length,w,C,z,_,?_,M,.int _ _,hK⟩;simp[execOp,resolve,invoke,builtin,Builtin.len_,run_underlying au,X.gh,goInt]
theorem D.oA(h:d.one=true):d.cells=[d]:=by cases d<;>first|rfl|cases h
theorem Hw{k:Nat}:∀{xs:List D} (_:∀x∈xs,x.cells.length=k) {i:Nat} {x:D} (_:i<xs.length) (_:x.cells.length=k),b4 (xs.set i x)=(b4 xs).take (i*k)++x.cells++(b4 xs).drop (i*k+x.cells.length)
 |[],_,_,_,h,_=>by simp at h
 |y::bl,Z,0,x,_,J=>by have hy:=Z y auY;simp only[List.set_cons_zero,b4,avF,Nat.zero_mul,aw2,av4,avu];rw[awZ auD,aw5 auD,av4]
 |y::bl,Z,i+1,x,h,J=>by have hy:=Z y auY;have h1:=Hw (xs:=bl) (λQ bn=>Z Q (auZ _ bn)) (i:=i) (x:=x) (by simpa using h) J;simp only[b4]at h1⊢;simp only[List.set_cons_succ,avF,h1];rw[show(i+1)*k=y.cells.length+i*k by rw[awP,hy];omega,List.take_length_add_append,awy,List.drop_length_add_append];simp[avr]
variable{y:Operand}
theorem ah.nl(hT:df P ay)(s:Nat)(J:z.bb x=.am (h5 v (i*1)))(hs:z.H s=some (.row v xs 1 e))(ax:dC ay t=some ce)(hsz:ce.aB=1)
  (hi:i<xs.length) (ag:(z.bb y).one=true) (hK:K ((z.b_ s (some (.row v (xs.set i (z.bb y)) 1 e))).put dst .undef)):ah P B al z dst (.store t x y) K :=
 .unit λW w C a M type pos after=>by
  obtain⟨c5,rfl⟩:=hT.get ax;have X:=cI M.tmps x;rw[J]at X
  have hy:=cI M.tmps y;obtain⟨h1,A⟩:=hy.oA ag;obtain⟨b,cap,vs,rfl,hc,hm,Z,G,gc,da,af⟩:=ks.pos (M.heap.cl s _ hs) hi;have hv:i+0+(a.eval y).cells.toList.length<=vs.size:=by rw[h1,gc];simp;omega
  have cZ:=run_storeCells_at P b i e (a.eval y).cells.toList 0 vs w G hv (by rw[h1];simpa using A);simp only[aw9]at cZ;have a1:=de.setRow (C:=C) (n:=0) G (aD:=(vs.toList.take i++(a.eval y).cells.toList++vs.toList.drop (i+(a.eval y).cells.toList.length)).toArray) auD (λo ag=>by omega);have e6:=D.oA ag;have x3:=Hw Z hi (x:=z.bb y) (by rw[e6];rfl);have fw:aJ.es (.row (.slice (some ⟨b,0,none⟩) xs.length cap) xs 1 e) b:=⟨_,cap,rfl,by omega⟩;refine⟨_,_,_,?_,M.b_ a1 (s:=s) (λx J=>azl) (λbp bN ey aZ dn au nV=>?_) λQ bn=>?_,hK⟩
  ·simp only[h5,avu,axr]at X;simp only[execOp,X.gh,Instr.storeAt,Instr.sureAddr,Sem.run_bind,Sem.run_pure,Result.andThen_ok,storeVar,c5.size,hsz,h1];rw[h1]at cZ;rw[auN auF];exact(auP (λr=>Result.andThen r λ_ w'=>Result.ok Next.skip w') cZ).trans rfl
  ·subst nV;exact M.heap.inj bp s bN _ ey aZ dn hs au fw
  cases bn
  refine⟨⟨_,cap,by rw[awc],by simpa using hc,hm,λQ bn=>?_,λdT gR=>⟨b,by cases gR;rfl,by simpa using ij G⟩,λ_=>⟨b,_,rfl,setRow_heap w b _ _ e _ G,?_,h2 _ _ _,λj d O=>?_⟩⟩,λx J=>?_⟩
  ·rcases awS bn with bn|rfl
   ·exact Z Q bn
   rw[e6];rfl
  ·simp only[avN,auV,au9,avX,awG,h1];simp only[axr]at gc;simp;omega
  ·rw[x3,axr,rH _ _ _ (by rw[qx Z,e6];simp;omega)]at O;rw[awH,rH _ _ _ (by simpa using hv)];have kA:(a.eval y).cells.toList.length=(z.bb y).cells.length:=by rw[h1,e6];rfl
   rw[kA];have dg:(b4 xs).length=xs.length:=by rw[qx Z];omega
   by_cases ad:i<=j/\j<i+(z.bb y).cells.length
   ·have rK:j<xs.length:=by have:=ad.2;rw[e6]at this;simp at this;omega
    rw[auO ⟨ad.1,ad.2,by rw[dg];exact rK⟩]at O;rw[auO ⟨ad.1,ad.2,by simp;omega⟩];rw[e6]at O;have ac7:j-i=0:=by have:=fu O;simpa using this
    rw[ac7]at O⊢;simp only[List.getElem?_cons_zero,avi]at O;subst O;exact⟨a.eval y,by rw[h1];rfl,hy.ext (by rw[kA]at a1;exact a1.ext),A⟩
   rw[auN (λh=>ad ⟨h.1,h.2.1⟩)]at O;rw[auN (λh=>ad ⟨h.1,h.2.1⟩)];obtain⟨ao,aa,aF,a8⟩:=af j d O;exact⟨ao,by simpa using aa,aF.ext (by rw[kA]at a1;exact a1.ext),a8⟩
  obtain⟨dK,iF,dU,_⟩:=J;simp only[Value.slice.injEq,avi,Addr.mk.injEq]at dU;obtain⟨⟨rfl,_⟩,_⟩:=dU;exact⟨M.heap.cQ s _ _ hs fw,.inl rfl⟩
theorem bI.newObj(h:bI W w C z a)(s:Nat){o:Obj}{mN:aJ}(pc:tx (w.alloc o) (gw C w.heap.size 0) mN)(au:∀b,mN.es b->b=w.heap.size): bI W (w.alloc o) (gw C w.heap.size 0) (z.b_ s (some mN)) a:=by have hs:=de.alloc (λ_=>False) w C o 0;refine h.b_ hs (λ_ M=>M.elim) (λ_ _ _ _ _ _ M=>M) (λx J=>?_);cases J;refine⟨pc,λb G=>?_⟩;rw[au b G];exact⟨h.Hl,.inr (auW _)⟩
theorem L5{Q:D}(en:Q.one=true):∀n,b4 (List.replicate n Q)=List.replicate n Q
 |0=>rfl
 |n+1=>by have h:=L5 en n;simp only[b4]at h⊢;rw[List.replicate_succ,avF,h,D.oA en];rfl
variable{dK:Nat}
theorem pf{ey o bN n c tP:Nat}(h:Value.slice (some ⟨b,o,none⟩) n c=Value.slice (some ⟨ey,bN,none⟩) dK tP):ey=b:=by simp only[Value.slice.injEq,avi,Addr.mk.injEq]at h;exact h.1.1.symm
variable{zs:List D}
theorem L6(c5:ce.f' P)(fp:aH.f' P)(b2:ce.kind=.slice aH.t)(w:World)(cP d0:IntKind)(l n:Nat)(aj:l<=n)(G:aH.bytes*n<=281474976710656)(ar:n<=9223372036854775807)(bn:aH.zero=some zs): ∃e1:Value,(∀w C,db w C zs e1.cells.toList)/\zs.length=aH.aB/\(Instr.makeSlice ce.t (.int cP (l:Int)) (.int d0 (n:Int))).run P w=.ok (.slice (some ⟨w.heap.size,0,none⟩) l n) (w.alloc (.cells (madeCells e1.cells (n*aH.aB)) aH.t)):=by obtain⟨i,hi,hsz,tI,oB⟩:=fp.pZ;obtain⟨e1,oC,nf,iH⟩:=oB zs bn;refine⟨e1,iH,nf,?_⟩;have af:=run_make (P:=P) w ce.t aH.t i e1 (c5.j2 b2) hi oC cP d0 l n auD auD (by rw[tI];(have:((aH.bytes*n:Nat):Int)<=281474976710656:=by omega);rwa [Int.natCast_mul]at this) auD;rw[hsz]at af;simpa using af
variable{cP d0:IntKind}
theorem ah.x4(hT:df P ay){l c:Operand}{bJ n:Nat}{Q:D}{s:Nat}(ax:dC ay t=some ce)(b2:ce.kind=.slice bJ)(fr:dC ay bJ=some aH)(bn:aH.zero=some [Q])(en:Q.one=true)
  (aj:z.bb l=.int cP n) (hc:z.bb c=.int d0 n) (G:aH.bytes*n<=281474976710656) (ar:n<=9223372036854775807)
  (hK:∀v,K ((z.b_ s (some (.row v (List.replicate n Q) 1 bJ))).put (some s) (.am v))):ah P B al z (some s) (.makeSlice t l c) K :=
 .val λW w C a M type pos after=>by
  obtain⟨c5,rfl⟩:=hT.get ax;obtain⟨fp,rfl⟩:=hT.get fr;have o':=cI M.tmps l;rw[aj]at o'
  have sL:=cI M.tmps c;rw[hc]at sL
  obtain⟨e1,iH,nf,cZ⟩:=L6 c5 fp b2 w cP d0 n n (auW _) G ar bn
  have L7:∃ao,e1.cells=#[ao]:=by
   have h1:=(iH w C).1;generalize e1.cells=aD at h1⊢;obtain⟨l⟩:=aD
   match l,h1 with
   |[ao],_=>exact⟨ao,rfl⟩
  obtain⟨ao,au⟩:=L7;have eX:∀w C,bh w C Q ao:=λw C=>by have:=(iH w C).2 0 Q ao rfl (by rw[au];rfl);exact this
  have L8:=((eX w C).oA en).2;have hsz:aH.aB=1:=by rw[<-nf];rfl
  rw[au,hsz,axr]at cZ;refine⟨_,_,_,_,_,?_,M.newObj s (mN:=.row (.slice (some ⟨w.heap.size,0,none⟩) n n) (List.replicate n Q) 1 aH.t) (o:=.cells (madeCells #[ao] n) aH.t) ?_ ?_,.am _,hK _⟩
  ·simp only[execOp,o'.fC,sL.fC,Sem.run_bind,cZ,Result.andThen_ok,Sem.run_pure]
  ·have h1:∀x∈List.replicate n Q,x.cells=[x]:=λx J=>by rw[List.eq_of_mem_replicate J];exact D.oA en
   refine⟨_,n,by simp,by simp,by simp only[maxLen];omega,λx J=>by rw[h1 x J];rfl,λdT gR=>⟨_,by cases gR;rfl,ij (lV w _)⟩,λ_=>⟨w.heap.size,_,rfl,lV w _,by simp[size_madeCells],h2 _ _ _,λj d O=>?_⟩⟩;have dg:=L5 en n;rw[dg]at O;have ad:j<n:=by have:=fu O;simpa using this
   have BF:d=Q:=by simp[ad]at O;exact O.symm
   subst BF;refine⟨ao,?_,eX _ _,L8⟩;rw[<-awr,toList_madeCells_one];simp[ad]
  rintro b ⟨dK,cap,h,_⟩;exact pf h
theorem ah.L9(hT:df P ay){l c:Operand}{bJ n:Nat}{s:Nat}(ax:dC ay t=some ce)(b2:ce.kind=.slice bJ)(fr:dC ay bJ=some aH)(bn:aH.zero=some zs)
  (aj:z.bb l=.int cP 0) (hc:z.bb c=.int d0 n) (G:aH.bytes*n<=281474976710656) (ar:n<=9223372036854775807)
  (hK:∀v,K ((z.b_ s (some (.own v 0 aH.aB bJ))).put (some s) (.T (.own s v) aH.aB []))):ah P B al z (some s) (.makeSlice t l c) K :=
 .val λW w C a M type pos after=>by
  obtain⟨c5,rfl⟩:=hT.get ax;obtain⟨fp,rfl⟩:=hT.get fr;have o':=cI M.tmps l;rw[aj]at o'
  have sL:=cI M.tmps c;rw[hc]at sL
  obtain⟨e1,iH,nf,cZ⟩:=L6 c5 fp b2 w cP d0 0 n auD G ar bn;refine⟨.slice (some ⟨w.heap.size,0,none⟩) 0 n,_,_,_,_,?_,M.newObj s (mN:=.own (.slice (some ⟨w.heap.size,0,none⟩) 0 n) 0 aH.aB aH.t) (o:=.cells (madeCells e1.cells (n*aH.aB)) aH.t) ?_ ?_,?_,hK _⟩
  ·have h0:((0:Nat):Int)=0:=rfl;rw[h0]at cZ;simp only[execOp,o'.fC,sL.fC,Sem.run_bind,cZ,Result.andThen_ok,Sem.run_pure]
  ·exact⟨_,n,rfl,by omega,by simp only[maxLen];omega,λ_=>⟨w.heap.size,_,rfl,lV w _,size_madeCells _ _,by rw[h2,Nat.zero_mul]⟩⟩
  ·rintro b ⟨bN,cap,h,_⟩;exact pf h
  exact .T _ _ [] w.heap.size 0 n (λ_=>undef) rfl (ij (lV w _)) auF (by simp only[maxLen];omega) (λx J=>by cases J) auF (λj d O=>by simp[b4]at O) (λj d O=>by simp[b4]at O) (λj d O=>by simp[b4]at O)
theorem Ei(C:Nat->Nat)(b n:Nat)(h:C b<=n)(x:Nat):C x<=gw C b n x:=by by_cases e:x=b;subst e;rw[h2];exact h;rw[rC _ _ e];exact auW _
theorem Y.commit{K:cM->av->Prop}(s:Nat)(hs:z.H s=some (.row v xs k e))(aA:av)
  (ax:∀w C,bh w C (.T (.own s v) k xs) v->∀j ao,bh w C (z.t j) ao->bh w C (aA.t j) ao) (cA:∀j o,aA.H j=some o->(j=s/\o=.own v xs.length k e)\/(j≠s/\z.H j=some o))
  (h:Y W c aA K):Y W c z K :=
 ⟨λa w C M=>by
  obtain⟨bv,cap,X,hc,hm,Z,fg,cz⟩:=M.heap.cl s _ hs;by_cases h0:0<cap
  ·obtain⟨b,vs,rfl,G,hsz,da,af⟩:=cz h0;have fw:aJ.es (.row v xs k e) b:=⟨_,cap,X,h0⟩;have j5:nQ w C w (gw C b (xs.length*k)):=⟨auW _,λx _=>Ei C b _ auD x,λ_ _ _ _=>rfl⟩;have a1:de (λx=>x=b) w C w (gw C b (xs.length*k)):=⟨j5,rfl,rfl,rfl,λx _ J=>⟨rfl,rC _ _ J⟩⟩
   have dQ:bh w (gw C b (xs.length*k)) (.T (.own s v) k xs) v:=by
    have:=xX (w:=w) (C:=gw C b (xs.length*k)) (tg:=.own s v) (k:=k) (xs:=xs) (vs:=vs.toList) (b:=b) (e:=e) (kv:=(0,0)) (cap:=cap) G Z hc hm (by rw[h2];exact auW _)
     (λj d O=>ayO) X.symm
    rw[X]at this⊢;exact this
   refine h.run a w (gw C b (xs.length*k)) ⟨λj=>ax _ _ dQ j _ ((M.tmps j).ext j5),⟨λj o ag=>?_,λj ez o bN x aZ h1 A au c0=>?_,λj o x ag au=>?_⟩,M.size,M.defers,?_⟩
   ·rcases cA j o ag with⟨rfl,rfl⟩|⟨ad,ag⟩
    ·exact⟨_,cap,X,hc,hm,λ_=>⟨b,vs,rfl,G,hsz,h2 _ _ _⟩⟩
    exact(M.heap.cl j o ag).iB j5 λx J=>⟨rfl,rC _ _ λe=>by subst e;exact M.heap.inj j s o _ x ad ag hs J fw⟩
   ·have key:∀j o,aA.H j=some o->o.es x->∃dt,z.H j=some dt/\dt.es x:=λj o ag au=>by
     rcases cA j o ag with⟨rfl,rfl⟩|⟨_,ag⟩
     ·obtain⟨bN,iF,aa,aF⟩:=au;rw[X]at aa;have:=pf aa;subst this
      exact⟨_,hs,fw⟩
     exact⟨o,ag,au⟩
    obtain⟨dt,aa,aF⟩:=key j o h1 au;obtain⟨lY,a8,cN⟩:=key ez bN A c0;exact M.heap.inj j ez dt lY x aZ aa a8 aF cN
   ·rcases cA j o ag with⟨rfl,rfl⟩|⟨_,ag⟩
    ·obtain⟨bN,iF,aa,aF⟩:=au;rw[X]at aa;have:=pf aa;subst this
     exact M.heap.cQ _ _ _ hs fw
    exact M.heap.cQ j o x ag au
   refine M.step.trans a1 λx J wM=>?_;subst wM;rcases M.heap.cQ s _ _ hs fw with h1|h1
   ·exact h1
   omega
  have J:xs=[]:=au1 auD;subst J;have hcap:cap=0:=auD
  subst hcap
  have dQ:bh w C (.T (.own s v) k []) v:=by
   cases bv with
   |none=>rw[X];exact .jj _ _ none rfl
   |some dT =>
    obtain⟨b,rfl,G⟩:=fg dT rfl;rw[X];exact .T _ _ [] b 0 0 (λ_=>undef) rfl G (auW _) (au7 _) (λx J=>by cases J) auF (λj d O=>by simp[b4]at O) (λj d O=>by simp[b4]at O) (λj d O=>by simp[b4]at O)
  have tN:∀j o x,aA.H j=some o->o.es x->j≠s/\z.H j=some o:=λj o x ag au=>by
   rcases cA j o ag with⟨rfl,rfl⟩|A
   ·obtain⟨bN,iF,aa,aF⟩:=au;rw[X]at aa;simp only[Value.slice.injEq]at aa;simp at aF;omega
   exact A
  refine h.run a w C ⟨λj=>ax _ _ dQ j _ (M.tmps j),⟨λj o ag=>?_,λj ez o bN x aZ h1 A au c0=>?_,λj o x ag au=>?_⟩,M.size,M.defers,M.step⟩
  ·rcases cA j o ag with⟨rfl,rfl⟩|⟨ad,ag⟩
   ·exact⟨_,0,X,auW _,au7 _,λh=>absurd h auF⟩
   exact M.heap.cl j o ag
  ·exact M.heap.inj j ez o bN x aZ (tN j o x h1 au).2 (tN ez bN x A c0).2 au c0
  exact M.heap.cQ j o x (tN j o x ag au).2 au⟩
open Go.MapKept
theorem ah.makeMap{t:TypeId}{s:Nat}(hK:∀b,K ((z.b_ s (some (.set b []))).put (some s) (.am (.map (some b))))):ah P B al z (some s) (.makeMap t none) K :=
 .val λW w C a M type pos after=>by
  refine⟨.map (some w.heap.size),_,_,_,_,?_,M.newObj s (mN:=.set w.heap.size []) (o:=.map #[] 0) ⟨#[],0,lV w _,h2 _ _ _,by simp,by simp⟩ (λb G=>G),.am _,hK _⟩;simp[execOp,Instr.makeMap,Result.andThen]
theorem DF.SJ{ae:List auM}(h:DF w C b ae):∃eN iX,w.heap[b]?=some (.map eN iX)/\C b=0/\(∀x∈eN.toList,IsKey .string x.key)/\(∀x∈eN.toList,x.val=.bool true)/\(∀x∈eN.toList,∃s,x.key=.string ⟨⟨s⟩⟩)/\∀s:auM,s∈ae↔∃x∈eN.toList,x.key=.string ⟨⟨s⟩⟩:=by obtain⟨eN,iX,G,da,h1,A⟩:=h;exact⟨eN,iX,G,da,λx J=>by obtain⟨⟨s,hs⟩,_⟩:=h1 x J;rw[hs];trivial,λx J=>(h1 x J).2,λx J=>(h1 x J).1,A⟩
variable{em eB:TypeId}
theorem ah.L_{t:TypeId}{m:Operand}(s:Nat){ae:List auM}{q:auM}(hm:P.underlying t=some (.map em eB))(O:P.underlying em=some .string)
  (bn:∀w,(zeroValue eB).run P w=.ok (.bool false) w) (J:z.bb m=.am (.map (some b))) (hs:z.H s=some (.set b ae)) (I:z.bb x=.N q) (hK:K (z.put dst (.bool (decide (q∈ae))))) :
  ah P B al z dst (.lookup t m x false) K :=
 .val λW w C a M type pos after=>by
  have oH:=cI M.tmps m;rw[J]at oH
  have fY:=cI M.tmps x;rw[I]at fY
  obtain⟨eN,iX,G,da,Z,X,dn,mJ⟩:=DF.SJ (M.heap.cl s _ hs);refine⟨.bool (decide (q∈ae)),w,C,z,_,?_,M,.bool _,hK⟩;rcases findNow_spec (d:=.string) (k:=.string ⟨⟨q⟩⟩) trivial eN.toList 0 Z with⟨h1,A⟩|⟨j,e,h1,A,aa⟩
  ·have:q∉ae:=λh=>by obtain⟨x,J,BG⟩:=(mJ q).1 h;exact A x J BG
   simp[execOp,oH.gh,fY.kS,Instr.lookup,run_underlying hm,Go.MapKept.run_getObj_map G,run_checkKey O (k:=.string ⟨⟨q⟩⟩) trivial,run_findKey O h1,bn,this,Result.andThen]
  have x5:=au5 A;have:q∈ae:=(mJ q).2 ⟨e,x5,aa⟩;simp[execOp,oH.gh,fY.kS,Instr.lookup,run_underlying hm,Go.MapKept.run_getObj_map G,run_checkKey O (k:=.string ⟨⟨q⟩⟩) trivial,run_findKey O h1,this,Result.andThen,X e x5]
theorem de.Hx{o bN:Obj}(G:w.heap[b]?=some o)(da:C b=0):de (λx=>x=b) w C {w with heap:=w.heap.setIfInBounds b bN} C :=
 ⟨⟨by simp,λ_ _=>auW _,λx i J hi=>by
   have aZ:x≠b:=λe=>by subst e;omega
   simp only[World.cell?]
   rw[show(w.heap.setIfInBounds b bN)[x]?=w.heap[x]? from(heap_set G).2 x aZ]⟩,rfl,rfl,rfl,λx _ J=>⟨(heap_set G).2 x J,rfl⟩⟩
theorem ah.Ej{t:TypeId}{m:Operand}(s:Nat){ae:List auM}{q:auM}(hm:P.underlying t=some (.map em eB))(O:P.underlying em=some .string)
  (J:z.bb m=.am (.map (some b))) (hs:z.H s=some (.set b ae)) (I:z.bb x=.N q) (hy:z.bb y=.bool true) (hK:K ((z.b_ s (some (.set b (q::ae)))).put dst .undef)) :
  ah P B al z dst (.mapUpdate t m x y) K :=
 .unit λW w C a M type pos after=>by
  have oH:=cI M.tmps m;rw[J]at oH
  have fY:=cI M.tmps x;rw[I]at fY
  have k1:=cI M.tmps y;rw[hy]at k1
  obtain⟨eN,iX,G,da,Z,X,dn,mJ⟩:=DF.SJ (M.heap.cl s _ hs);have fw:aJ.es (.set b ae) b:=rfl
  have oE:∀oI u',(∀x∈oI.toList,(∃s,x.key=.string ⟨⟨s⟩⟩)/\x.val=.bool true)->(∀s:auM,s∈q::ae↔∃x∈oI.toList,x.key=.string ⟨⟨s⟩⟩)->
    bI W {w with heap:=w.heap.setIfInBounds b (.map oI u')} C (z.b_ s (some (.set b (q::ae)))) a:=λoI u' h1 A=>by
   have a1:=de.Hx (bN:=.map oI u') G da;refine M.b_ a1 (s:=s) (λx J=>azl) (λbp bN ey aZ dn au nV=>?_) λQ bn=>?_
   ·subst nV;exact M.heap.inj bp s bN _ ey aZ dn hs au fw
   cases bn
   exact⟨⟨oI,u',(heap_set G).1,da,h1,A⟩,λx J=>⟨by cases J;exact M.heap.cQ s _ _ hs fw,.inl J⟩⟩
  rcases findNow_spec (d:=.string) (k:=.string ⟨⟨q⟩⟩) trivial eN.toList 0 Z with⟨h1,A⟩|⟨j,e,h1,A,aa⟩
  ·refine⟨_,C,_,?_,oE (eN.push ⟨.string ⟨⟨q⟩⟩,.bool true,iX⟩) (iX+1) (λx J=>?_) (λs=>?_),hK⟩
   ·simp[execOp,oH.gh,fY.kS,k1.hY,Instr.mapUpdate,run_underlying hm,Go.MapKept.run_getObj_map G,run_checkKey O (k:=.string ⟨⟨q⟩⟩) trivial,run_findKey O h1,run_setObj_map _ G,Result.andThen]
   ·rw[Array.toList_push]at J;rcases avf.1 J with J|J
    ·exact⟨dn x J,X x J⟩
    simp only[avs]at J;subst J;exact⟨⟨q,rfl⟩,rfl⟩
   simp only[Array.toList_push,avf,au8,mJ s];constructor
   ·rintro(rfl|⟨x,J,BG⟩)
    ·exact⟨⟨.string ⟨⟨s⟩⟩,.bool true,iX⟩,.inr (.inl rfl),rfl⟩
    exact⟨x,.inl J,BG⟩
   rintro⟨x,J|J,BG⟩
   ·exact .inr ⟨x,J,BG⟩
   left;simp only[axY,axy]at J;subst J;injection BG with h;injection h with h;injection h with h;exact h.symm
  have ad:eN[j]?=some e:=by simpa using A
  have x5:=au5 A
  have Hy:∀x∈(eN.modify j λe=>{e with key:=.string ⟨⟨q⟩⟩,val:=.bool true}).toList,x∈eN.toList\/(x.key=.string ⟨⟨q⟩⟩/\x.val=.bool true):=λx J=>by
   rcases MapFrom.mem_modify J with J|⟨nR,_,rfl⟩
   ·exact .inl J
   exact .inr ⟨rfl,rfl⟩
  refine⟨_,C,_,?_,oE (eN.modify j λe=>{e with key:=.string ⟨⟨q⟩⟩,val:=.bool true}) iX (λx J=>?_) (λs=>?_),hK⟩
  ·simp[execOp,oH.gh,fY.kS,k1.hY,Instr.mapUpdate,run_underlying hm,Go.MapKept.run_getObj_map G,run_checkKey O (k:=.string ⟨⟨q⟩⟩) trivial,run_findKey O h1,run_setObj_map _ G,Result.andThen,ad,aa,
    run_keyThatStays (d:=.string) (k:=.string ⟨⟨q⟩⟩) trivial]
  ·rcases Hy x J with J|⟨aF,a8⟩
   ·exact⟨dn x J,X x J⟩
   exact⟨⟨q,aF⟩,a8⟩
  have ac8:∀i:Nat,((eN.modify j λe=>{e with key:=.string ⟨⟨q⟩⟩,val:=.bool true})[i]?).map MapEntry.key=(eN[i]?).map MapEntry.key:=λi=>by
   rw[aw_];by_cases d6:j=i
   ·subst d6;simp[ad,aa]
   simp[d6]
  have rL:∀oI:Array MapEntry,(∃x∈oI.toList,x.key=.string ⟨⟨s⟩⟩)↔∃i:Nat,(oI[i]?).map MapEntry.key=some (.string ⟨⟨s⟩⟩):=λoI=>by
   constructor
   ·rintro⟨x,J,Z⟩;obtain⟨i,hi⟩:=avd.1 J;exact⟨i,by rw[<-awr,hi];simp[Z]⟩
   rintro⟨i,hi⟩
   cases aq:oI[i]? with
   |none=>rw[aq]at hi;cases hi
   |some x=>rw[aq]at hi;simp at hi;exact⟨x,au5 (by rw[awr];exact aq),hi⟩
  rw[rL];simp only[ac8];rw[<-rL,<-mJ s,au8];constructor
  ·rintro(rfl|h)
   ·exact(mJ _).2 ⟨e,x5,aa⟩
   exact h
  exact .inr
theorem rM:∀{xs:List D},(∀x∈xs,x.cells=[x])->b4 xs=xs
 |[],_=>rfl
 |x::r,h=>by have h1:=rM (xs:=r) λy hy=>h y (auZ _ hy);simp only[b4,avF]at h1⊢;rw[h1,h x auY];rfl
variable{kW:Nat}{rN:bC}{aP:auM}
theorem ah.va(hT:df P ay){bJ:Nat}(ax:dC ay oz=some ce)(b2:ce.kind=.slice bJ)(fr:dC ay bJ=some aH)(lX:aH.kind=.int .u8)
  (O:dC ay kW=some rN) (pg:rN.kind=.N) (J:z.bb x=.T tg 1 (aP.map λc=>.int .u8 c.toNat)) (hK:K (z.put dst (.N aP))):ah P B al z dst (.convert oz kW x) K :=
 .val λW w C a M type pos after=>by
  obtain⟨c5,rfl⟩:=hT.get ax;obtain⟨fp,rfl⟩:=hT.get fr;obtain⟨zL,rfl⟩:=hT.get O;have X:=cI M.tmps x;rw[J]at X
  refine⟨.string ⟨⟨aP⟩⟩,w,C,z,_,?_,M,.N _,hK⟩;rcases X.kt with⟨h1,⟨a0,dU⟩,_⟩|⟨b,o,cap,g,X,_,_,hc,_,Z,_,gg,_,eX⟩
  ·have:aP=[]:=by simpa using h1
   subst this
   cases a0 with
   |none =>
    have:=run_convert_bytes_string (P:=P) w ce.t rN.t aH.t none 0 0 (c5.j2 b2) (fp.sD lX) (zL.p0 pg);simp only[execOp,dU,Sem.run_bind,this];rfl
   |some dT =>
    have:=run_convert_bytes_back (P:=P) w ce.t rN.t aH.t dT 0 [] (c5.j2 b2) (fp.sD lX) (zL.p0 pg) (λj ad=>by simp at ad);simp only[avh]at this;simp only[execOp,dU,Sem.run_bind,this,Result.andThen_ok,Sem.run_pure]
  have hlen:(aP.map λc=>D.int .u8 c.toNat).length=aP.length:=by simp
  rw[hlen]at X
  have dg:b4 (aP.map λc=>D.int .u8 c.toNat)=aP.map λc=>D.int .u8 c.toNat:=by
   exact rM λy hy=>by obtain⟨c,_,rfl⟩:=au_.1 hy;rfl
  have:=run_convert_bytes_back (P:=P) w ce.t rN.t aH.t ⟨b,o,none⟩ cap aP (c5.j2 b2) (fp.sD lX) (zL.p0 pg) (λj ad=>by
   have O:(b4 (aP.map λc=>D.int .u8 c.toNat))[j]?=some (.int .u8 (aP[j].toNat:Int)):=by rw[dg];simp[ad]
   have h1:=gg j _ O;rw[(eX j _ O).fC]at h1
   simpa[p1]using h1)
  simp only[execOp,X,Sem.run_bind,this,Result.andThen_ok,Sem.run_pure]
theorem ah.ac9(hT:df P ay){bJ s:Nat}(ax:dC ay oz=some ce)(b2:ce.kind=.N)(O:dC ay kW=some rN)(pg:rN.kind=.slice bJ)
  (fr:dC ay bJ=some aH) (lX:aH.kind=.int .i32) (J:z.bb x=.N aP) (hlen:aP.length<=70368744177664)
  (hK:∀(bS:Option Addr) (cap:Nat),K ((z.b_ s (some (.row (.slice bS (ie aP).length cap) ((ie aP).map (D.int .i32)) 1 bJ))).put (some s) (.am (.slice bS (ie aP).length cap)))):ah P B al z (some s) (.convert oz kW x) K :=
 .val λW w C a M type pos after=>by
  obtain⟨c5,rfl⟩:=hT.get ax;obtain⟨zL,rfl⟩:=hT.get O;obtain⟨fp,rfl⟩:=hT.get fr;have X:=cI M.tmps x;rw[J]at X
  have hsz:=size_runesFrom ⟨⟨aP⟩⟩ aP.length 0 #[];have i6:(⟨⟨aP⟩⟩:ByteArray).size=aP.length:=rfl;have cZ:=run_runes_of_string (P:=P) w ce.t rN.t aH.t ⟨⟨aP⟩⟩ (c5.p0 b2) (zL.j2 pg) (fp.sD lX) (by rw[i6];simp at hsz;omega);rw[i6]at cZ;have DW:=Lz ⟨⟨aP⟩⟩ aP.length 0 #[]
  have wF:(Conv.runesFrom ⟨⟨aP⟩⟩ aP.length 0 #[]).size=(ie aP).length:=by
   rw[<-awG,DW];simp[ie]
  have jl:=grownCap_ge w (Conv.runesFrom ⟨⟨aP⟩⟩ aP.length 0 #[]).size 0 aH.t;have BH:=grownCap_le_maxLen w (Conv.runesFrom ⟨⟨aP⟩⟩ aP.length 0 #[]).size 0 aH.t (by simp at hsz;unfold maxLen;omega);have tQ:bI W w.drew C z a:=M.tH (de.drew _ w C);have zM:((ie aP).map (D.int .i32)).length=(Conv.runesFrom ⟨⟨aP⟩⟩ aP.length 0 #[]).size:=by rw[wF];simp
  refine⟨_,_,_,_,_,?_,tQ.newObj s (mN:=.row (.slice (some ⟨w.heap.size,0,none⟩) (ie aP).length (grownCap w (Conv.runesFrom ⟨⟨aP⟩⟩ aP.length 0 #[]).size 0 aH.t)) ((ie aP).map (D.int .i32)) 1 aH.t)
   (o:=.cells (Conv.runesFrom ⟨⟨aP⟩⟩ aP.length 0 #[]++Array.replicate (grownCap w (Conv.runesFrom ⟨⟨aP⟩⟩ aP.length 0 #[]).size 0 aH.t-(Conv.runesFrom ⟨⟨aP⟩⟩ aP.length 0 #[]).size) (.int .i32 0)) aH.t) ?_ ?_,.am _,hK _ _⟩
  ·simp only[execOp,X.kS,Sem.run_bind,cZ,Result.andThen_ok,Sem.run_pure];rw[wF]
  ·refine⟨_,_,by rw[zM,wF],by rw[zM];exact jl,BH,λx J=>by obtain⟨n,_,rfl⟩:=au_.1 J;rfl,λdT gR=>⟨_,by cases gR;rfl,ij (lV w.drew _)⟩,
    λ_=>⟨w.heap.size,_,rfl,lV w.drew _,by simp;omega,h2 _ _ _,λj d O=>?_⟩⟩
   rw[Hh,au',avS]at O;obtain⟨n,ar,rfl⟩:=O;refine⟨.int .i32 n,?_,.int _ _,rfl⟩;have ad:j<(ie aP).length:=(avk.1 ar).1;rw[<-awr,axg,DW];simp only[av4];rw[au3 (by simpa[ie]using ad),au'];have:(sC ⟨⟨aP⟩⟩ aP.length 0)[j]?=some n:=ar;rw[this];rfl
  rintro b ⟨dK,cap,h,_⟩;exact pf h
theorem ah.ac_{s:Nat}{t:TypeId}(ax:P.underlying t=some .string)(J:z.bb x=.N aP)
  (hK:∀b,K ((z.b_ s (some (.cl b (.stringIter ⟨⟨aP⟩⟩ 0)))).put (some s) (.am (.pointer (some ⟨b,0,none⟩))))):ah P B al z (some s) (.range t x) K :=
 .val λW w C a M type pos after=>by
  have X:=cI M.tmps x;rw[J]at X
  refine⟨_,_,_,_,_,?_,M.newObj s (mN:=.cl w.heap.size (.stringIter ⟨⟨aP⟩⟩ 0)) (o:=.stringIter ⟨⟨aP⟩⟩ 0) ?_ ?_,.am _,hK _⟩
  ·simp only[execOp,X.kS,Sem.run_bind,run_range_string w t ⟨⟨aP⟩⟩ ax,Result.andThen_ok,Sem.run_pure];rfl
  ·exact⟨lV w _,h2 _ _ _⟩
  intro b G;exact G
theorem ah.ac'(s:Nat){pos:Nat}(J:z.bb x=.am (.pointer (some ⟨b,0,none⟩)))(hs:z.H s=some (.cl b (.stringIter ⟨⟨aP⟩⟩ pos)))
  (h1:pos<aP.length->K ((z.b_ s (some (.cl b (.stringIter ⟨⟨aP⟩⟩ (pos+(Utf8.decode ⟨⟨aP⟩⟩ pos).2))))).put dst (.bm [.bool true,.int .i64 pos,.int .i32 ((Utf8.decode ⟨⟨aP⟩⟩ pos).1:Nat)])))
  (A:¬pos<aP.length->K (z.put dst (.bm [.bool false]))):ah P B al z dst (.next x true) K :=
 .val λW w C a M type asr after=>by
  have X:=cI M.tmps x;rw[J]at X
  have ada:=M.heap.cl s _ hs;obtain⟨G,da⟩:=ada;have i6:(⟨⟨aP⟩⟩:ByteArray).size=aP.length:=rfl;by_cases aw:pos<aP.length
  ·have a1:de (λx=>x=b) w C {w with heap:=w.heap.setIfInBounds b (.stringIter ⟨⟨aP⟩⟩ (pos+(Utf8.decode ⟨⟨aP⟩⟩ pos).2))} C:=de.Hx G da
   refine⟨.tuple #[.bool true,.int .i64 pos,.int .i32 ((Utf8.decode ⟨⟨aP⟩⟩ pos).1:Nat)],_,C,_,_,?_,M.b_ a1 (λx J=>by subst J;exact M.heap.cQ s _ _ hs rfl)
    (λbp o ey aZ ag au sI=>by subst sI;exact M.heap.inj s bp _ o _ (Ne.symm aZ) hs ag rfl au) (s:=s) (o:=some (.cl b (.stringIter ⟨⟨aP⟩⟩ (pos+(Utf8.decode ⟨⟨aP⟩⟩ pos).2)))) (λx J=>?_),?_,h1 aw⟩
   ·simp only[execOp,X.gh,Sem.run_bind]
    have:(Instr.next (.pointer (some ⟨b,0,none⟩)) true type).run P w=.ok (.tuple #[.bool true,.int .i64 pos,.int .i32 ((Utf8.decode ⟨⟨aP⟩⟩ pos).1:Nat)]) {w with heap:=w.heap.setIfInBounds b (.stringIter ⟨⟨aP⟩⟩ (pos+(Utf8.decode ⟨⟨aP⟩⟩ pos).2))}:=by
     simp[Instr.next,getObj,setObj,Sem.run_bind,Sem.run,G,Result.andThen,i6,aw,goInt]
    rw[this];rfl
   ·cases J
    refine⟨⟨by simp[ij G],da⟩,λx J=>?_⟩;cases J
    exact⟨M.heap.cQ s _ _ hs rfl,.inl rfl⟩
   exact .bm _ _ rfl λi d v O X=>by
    match i with
    |0=>cases O;cases X;exact .bool _
    |1=>cases O;cases X;exact .int _ _
    |2=>cases O;cases X;exact .int _ _
    |i+3=>simp at O
  refine⟨.tuple #[.bool false],w,C,z,_,?_,M,?_,A aw⟩
  ·simp only[execOp,X.gh,Sem.run_bind]
   have:(Instr.next (.pointer (some ⟨b,0,none⟩)) true type).run P w=.ok (.tuple #[.bool false]) w:=by
    simp[Instr.next,getObj,Sem.run_bind,Sem.run,G,Result.andThen,i6,aw]
   rw[this];rfl
  exact .bm _ _ rfl λi d v O X=>by
   match i with
   |0=>cases O;cases X;exact .bool _
   |i+1=>simp at O
variable{K:cM->av->Prop}
def BI:aJ:=.own (.slice none 0 0) 0 0 0
theorem adb(b:Nat):¬BI.es b:=by rintro⟨o,cap,h,A⟩;exact azc
theorem Y.BI(s:Nat){c:Code}(h:Y W c (z.b_ s (some Go.bV.BI)) K):Y W c z K :=
 ⟨λa w C M=>h.run a w C (M.b_ (Ft:=λ_=>False) (.refl _ _ _) (λ_ M=>M.elim) (λ_ _ _ _ _ _ M=>M) (λx J=>by
  cases J
  exact⟨⟨none,0,rfl,auW _,au7 _,λh=>absurd h auF⟩,λb G=>absurd G (adb b)⟩))⟩
theorem Y.tR(s k e:Nat)(h:Y W c (z.b_ s (some (.own (.slice none 0 0) 0 k e))) K):Y W c z K :=
 ⟨λa w C M=>h.run a w C (M.b_ (Ft:=λ_=>False) (.refl _ _ _) (λ_ M=>M.elim) (λ_ _ _ _ _ _ M=>M) (λx J=>by
  cases J
  exact⟨⟨none,0,rfl,auW _,au7 _,λh=>absurd h auF⟩,λb G=>by obtain⟨o,cap,h,A⟩:=G;exact azc⟩))⟩
theorem ap.vb{s:Nat}:ap .bd (.T (.own s (.slice none 0 0)) k []):=⟨λw C ao h=>by rw[h.xS];exact .jj _ _ none rfl⟩
theorem ap.fn{f:Fn}{a bv b ey:List D}(h:dO a bv)(bt:dO b ey):ap (.fn f a b) (.fn f bv ey) :=
 ⟨λw C v af=>by
  obtain⟨fN,hr,rfl,h1,A⟩:=af.uX;have aa:=h.rB h1;have aF:=bt.rB A
  exact .fn f bv ey fN hr aa.1 aF.1 aa.2 aF.2⟩
theorem ap.agg{a bv:List D}(h:dO a bv):ap (.agg a) (.agg bv) :=
 ⟨λw C v af=>by
  obtain⟨vs,rfl,h1⟩:=af.tw;have aa:=h.rB h1
  exact .agg bv vs aa.1 aa.2⟩
theorem ap.trans{a b c:D}(h:ap a b)(bt:ap b c):ap a c:=⟨λ_ _ _ af=>bt.le _ _ _ (h.le _ _ _ af)⟩
theorem ap.dZ{t:iA}:ap (.T t k xs) (.T .none k xs):=ap.jk _
theorem dx{k:IntKind}{a b:Int}(h:a=b):ap (.int k a) (.int k b):=ap.of_eq (by rw[h])
variable{rt:TypeId}
theorem ah.L'{K:av->Prop}{ay:List bC}(hT:df P ay){bJ:Nat}(J:z.bb x=.T tg k xs)(ax:dC ay t=some ce)(b2:ce.kind=.slice bJ)
  (hK:∀b:Bool,(b=true->xs=[])->K (z.put dst (.bool b))):ah P B al z dst (.binOp .eql t x (.const (.slice none 0 0)) rt) K :=
 .val λW w C a M type pos after=>by
  obtain⟨c5,rfl⟩:=hT.get ax;have au:=c5.j2 b2;have X:=cI M.tmps x;rw[J]at X
  have key:∃dT l c,a.eval x=.slice dT l c/\(dT.isNone=true->xs=[]):=by
   rcases X.kt with⟨h1,⟨a0,A⟩,_⟩|⟨b,o,cap,g,A,_⟩
   ·exact⟨a0,0,0,A,λ_=>h1⟩
   exact⟨_,_,_,A,λh=>by cases h⟩
  obtain⟨dT,l,c,A,aa⟩:=key;refine⟨.bool dT.isNone,w,C,z,_,?_,M,.bool _,hK _ aa⟩;have aF:=zv (P:=P) .eql ce.t x (.const (.slice none 0 0)) (.slice dT l c) (.slice none 0 0) w auF auF;have a8:=run_equal_slice_nil (P:=P) w ce.t bJ dT l c au
  have cN:(binOp .eql ce.t (.slice dT l c) (.slice none 0 0)).run P w=.ok (.bool dT.isNone) w:=by
   simp only[binOp];simp[a8]
  have e2:a.eval (.const (.slice none 0 0))=.slice none 0 0:=rfl;simp only[execOp,A,e2,Sem.run_bind,aF,cN,Result.andThen_ok,Sem.run_pure]
theorem SK(h:bI W w C z a){e:bC}(aq:e.f' P)(i1:aH.f' P)(b2:e.kind=.slice aH.t)(bn:aH.zero≠none){d8:TypeId}{vs bQ:Value}{hw:List Value}(BJ:Src P aH.aB d8 bQ bl.length hw w)(zG:∀(j:Nat) d,(b4 bl)[j]?=some d->∃ao,hw[j]?=some ao/\bh w C d ao/\ao.oneCell'=true)(Bx:∀x∈bl,x.cells.length=aH.aB)(mL:(xs.length+bl.length)*aH.bytes<=140737488355328)(nh:xs.length+bl.length<=9223372036854775807)(h0:0<bl.length){q dst:Nat}(hH:z.H q=some (.row vs xs aH.aB aH.t))(eo:∀b cap fX,w.heap[b]?=some (.cells fX aH.t (0,0))->xs.length+bl.length<=cap->xs.length*aH.aB+hw.length<=fX.size->(Builtin.append_ #[e.t,d8] ln #[.slice (some ⟨b,0,none⟩) xs.length cap,bQ]).run P w=.ok (.slice (some ⟨b,0,none⟩) (xs.length+bl.length) cap) (w.setRow b (fX.toList.take (xs.length*aH.aB)++hw++fX.toList.drop (xs.length*aH.aB+hw.length)).toArray)): ∃v w' aW,(Builtin.append_ #[e.t,d8] ln #[vs,bQ]).run P w=.ok v w'/\bI W w' aW ((z.b_ q none).b_ dst (some (.row v (xs++bl) aH.aB aH.t))) a:=by have au:=aq.j2 b2;obtain⟨i,hi,hsz,tI,oB⟩:=i1.pZ;obtain⟨Q,bn⟩:=Option.ne_none_iff_exists'.1 bn;obtain⟨e1,oC,nf,iH⟩:=oB Q bn;(have LM:e1.cells.size=aH.aB:=by have:=(iH w C).1;rw[nf]at this;simpa using this.symm);have M:=h.drop q;(have hlen:(xs++bl).length=xs.length+bl.length:=by simp);obtain⟨bS,cap,gc,hcap,Hm,sH,_,cz⟩:=h.heap.cl q _ hH;have ky:=BJ.newsLen;rw[<-hsz]at BJ;(have SL:∀x∈xs++bl,x.cells.length=aH.aB:=λx J=>ayX);have dg:=qx sH;(have fresh:∀(oD:List Value) (nX:Nat),oD.length=xs.length*aH.aB->(∀(j:Nat) d,(b4 xs)[j]?=some d->∃ao,oD[j]?=some ao/\bh w C d ao/\ao.oneCell'=true)->∀v,v=.slice (some ⟨w.heap.size,0,none⟩) (xs.length+bl.length) (grownCap w (xs.length+bl.length) nX aH.t)->∀w',w'=w.drew.alloc (.cells (oD.toArray++hw.toArray++Builtin.zeroCells e1.cells (grownCap w (xs.length+bl.length) nX aH.t-(xs.length+bl.length))) aH.t)->∃aW,bI W w' aW ((z.b_ q none).b_ dst (some (.row v (xs++bl) aH.aB aH.t))) a:=by intro oD nX hx pc v X w' wJ;have jl:=grownCap_ge w (xs.length+bl.length) nX aH.t;have nU:=grownCap_le_maxLen w (xs.length+bl.length) nX aH.t (by simp only[maxLen];omega);generalize grownCap w (xs.length+bl.length) nX aH.t=tJ at X wJ jl nU;(have wF:(oD.toArray++hw.toArray++Builtin.zeroCells e1.cells (tJ-(xs.length+bl.length))).size=tJ*aH.aB:=by simp only[Array.size_append,avN,size_zeroCells,LM,hx,ky,<-Nat.add_mul];congr 1;omega);have iJ:=de.drew (λ_=>False) w C;have kz:=de.alloc (λ_=>False) w.drew C (.cells (oD.toArray++hw.toArray++Builtin.zeroCells e1.cells (tJ-(xs.length+bl.length))) aH.t) 0;have hs:=iJ.trans kz (λ_ _ M=>M);rw[<-wJ]at hs kz;refine⟨_,M.b_ hs (λ_ M=>M.elim) (λ_ _ _ _ _ _ M=>M) λx J=>?_⟩;cases J;refine⟨⟨some ⟨w.heap.size,0,none⟩,tJ,by rw[X,hlen],by rw[hlen];exact jl,nU,SL,λdT gR=>⟨_,by cases gR;rfl,?_⟩,λ_=>⟨w.heap.size,_,rfl,?_,wF,?_,λj d O=>?_⟩⟩,λb G=>?_⟩;rw[wJ];exact ij (lV w.drew _);rw[wJ];exact lV w.drew _;exact h2 _ _ _;rw[Br,u4]at O;split at O;obtain⟨ao,au,af,ag⟩:=pc j d O;refine⟨ao,?_,af.ext hs.ext,ag⟩;have:=fu au;rw[<-awr];simp only[axg];rw[avr,u4,auO (by simpa using this)];simpa using au;rename_i ad;obtain⟨ao,au,af,ag⟩:=zG _ d O;refine⟨ao,?_,af.ext hs.ext,ag⟩;rw[<-awr];simp only[axg];rw[avr,u4,auN auE,u4,auO (by have:=fu au;simp;omega)];simpa[hx,dg]using au;obtain⟨dK,iF,dU,_⟩:=G;rw[X]at dU;simp only[Value.slice.injEq,avi,Addr.mk.injEq]at dU;obtain⟨⟨rfl,_⟩,_⟩:=dU;exact⟨h.Hl,.inr (auW _)⟩);subst gc;by_cases jn:0<cap;obtain⟨b,fX,rfl,G,hcs,LP,pc⟩:=cz jn;have fw:aJ.es (.row (.slice (some ⟨b,0,none⟩) xs.length cap) xs aH.aB aH.t) b:=⟨_,cap,rfl,jn⟩;(have ass:xs.length*aH.aB<=fX.size:=by rw[hcs];exact aww _ hcap);by_cases rJ:xs.length+bl.length<=cap;(have hv:xs.length*aH.aB+hw.length<=fX.size:=by rw[ky,hcs,<-Nat.add_mul];exact aww _ rJ);have af:=eo b cap fX G rJ hv;have a1:=de.setRow (C:=C) (n:=0) G (aD:=(fX.toList.take (xs.length*aH.aB)++hw++fX.toList.drop (xs.length*aH.aB+hw.length)).toArray) auD (λo ag=>by omega);refine⟨_,_,_,af,M.b_ a1 (λx J=>by subst J;exact h.heap.cQ q _ _ hH fw) (λbp o ey aZ dn c0 sI=>?_) λx J=>?_⟩;subst sI;by_cases I:bp=q;subst I;rw[rG]at dn;cases dn;rw[mK z none I]at dn;exact h.heap.inj bp q o _ ey I dn hH c0 fw;cases J;refine⟨⟨_,cap,by rw[hlen],by rw[hlen];exact rJ,Hm,SL,λdT gR=>⟨b,by cases gR;rfl,avx (ij G) a1.ext.size⟩,λ_=>⟨b,_,rfl,setRow_heap w b fX _ aH.t _ G,?_,h2 _ _ _,λj d O=>?_⟩⟩,λx J=>?_⟩;simp only[avN,auV,au9,avX,awG];omega;rw[Br,u4]at O;rw[awH];split at O;obtain⟨ao,au,af,ag⟩:=pc j d O;refine⟨ao,?_,af.ext a1.ext,ag⟩;rw[rH _ _ _ auE,auN auD];simpa using au;obtain⟨ao,au,af,ag⟩:=zG _ d O;refine⟨ao,?_,af.ext a1.ext,ag⟩;have:=fu au;rw[rH _ _ _ auE,auO ⟨by omega,by omega,by simp;omega⟩,<-dg];exact au;obtain⟨dK,iF,dU,_⟩:=J;simp only[Value.slice.injEq,avi,Addr.mk.injEq]at dU;obtain⟨⟨rfl,_⟩,_⟩:=dU;exact⟨h.heap.cQ q _ _ hH fw,.inl rfl⟩;(have Hp:∀(j:Nat) ao,(fX.toList.take (xs.length*aH.aB))[j]?=some ao->w.cell? ((⟨b,0,none⟩:Addr).add j)=some ao:=λj ao ad=>by rw[avE]at ad;split at ad;rw[p1,avu];simp only[World.cell?,G];simpa using ad;cases ad);have af:=run_append_grow_src (P:=P) w e.t d8 ln aH.t i e1 au hi oC (some ⟨b,0,none⟩) xs.length cap (fX.toList.take (xs.length*aH.aB)) (run_firstCells_some w.drew i.size xs.length ⟨b,0,none⟩ xs.length cap _ (by rw[hsz];simp;omega) (by simpa using Hp)) _ bl.length hw BJ auD auD (by rw[tI];exact growslice_fits auD mL);rw[show(fX.toList.take (xs.length*aH.aB)++hw).toArray=(fX.toList.take (xs.length*aH.aB)).toArray++hw.toArray by simp]at af;obtain⟨aW,h1⟩:=fresh (fX.toList.take (xs.length*aH.aB)) cap auE (λj d O=>by obtain⟨ao,au,af,ag⟩:=pc j d O;have ad:=fu O;exact⟨ao,by rw[avE,auO auD];simpa using au,af,ag⟩) _ rfl _ rfl;exact⟨_,_,aW,af,h1⟩;have J:xs=[]:=au1 auD;subst J;(have adc:cap=0:=by omega);subst adc;simp only[avh,avu]at mL nh fresh;have af:=run_append_grow_src (P:=P) w e.t d8 ln aH.t i e1 au hi oC bS 0 0 [] (by cases bS with|none=>exact run_firstCells_none w.drew i.size 0 0 0|some Ho=>exact run_firstCells_some w.drew i.size 0 Ho 0 0 [] auF (λj ao ad=>by simp at ad)) _ bl.length hw BJ auD auD (by rw[tI];exact growslice_fits auD (by simpa using mL));rw[show(([]:List Value)++hw).toArray=([]:List Value).toArray++hw.toArray by simp,avu]at af;obtain⟨aW,A⟩:=fresh [] 0 auF (λj d O=>by simp[b4]at O) _ rfl _ rfl;exact⟨_,_,aW,af,by simpa using A⟩
theorem ade(h:bI W w C z a){e:bC}(aq:e.f' P)(i1:aH.f' P)(b2:e.kind=.slice aH.t)(bn:aH.zero≠none){vs bQ:Value}(wH:bh w C (.T nT aH.aB bl) bQ)(mL:(xs.length+bl.length)*aH.bytes<=140737488355328)(nh:xs.length+bl.length<=9223372036854775807)(h0:0<bl.length){q dst:Nat}(hH:z.H q=some (.row vs xs aH.aB aH.t)): ∃v w' aW,(Builtin.append_ #[e.t,e.t] ln #[vs,bQ]).run P w=.ok v w'/\bI W w' aW ((z.b_ q none).b_ dst (some (.row v (xs++bl) aH.aB aH.t))) a:=by obtain⟨i,hi,hsz,_⟩:=i1.pZ;(have hy:∃dT u5,bQ=.slice (some dT) bl.length u5:=by rcases wH.kt with⟨rfl,_,_⟩|⟨b,o,cap,g,X,_⟩;simp at h0;exact⟨_,_,X⟩);obtain⟨dT,u5,fY⟩:=hy;subst fY;obtain⟨hw,ky,Bw,zG,rI,Bx⟩:=LL wH;have au:=aq.j2 b2;refine SK h aq i1 b2 bn (Src.ofSlice w au dT _ u5 hw ky Bw rI) zG Bx mL nh h0 hH λb cap fX G rJ hv=>?_;rw[<-hsz]at ky hv⊢;exact run_append_room w e.t ln aH.t i au hi b xs.length cap fX G dT bl.length u5 hw ky Bw rI rJ hv
variable{K:av->Prop}
theorem ah.ph(hT:df P ay){bJ s:Nat}(q:Nat)(ax:dC ay t=some ce)(b2:ce.kind=.slice bJ)(fr:dC ay bJ=some aH)(bn:aH.zero≠none)
  (J:z.bb x=.am v) (hH:z.H q=some (.row v xs aH.aB bJ)) (hy:z.bb y=.T tg aH.aB bl) (h0:0<bl.length) (mL:(xs.length+bl.length)*aH.bytes<=140737488355328) (nh:xs.length+bl.length<=9223372036854775807)
  (hK:∀(bS:Option Addr) (n cap:Nat),K (((z.b_ q none).b_ s (some (.row (.slice bS n cap) (xs++bl) aH.aB bJ))).put (some s) (.am (.slice bS n cap)))):ah P B al z (some s) (.call ⟨.builtin .append,#[x,y],#[t,t]⟩) K :=
 .val λW w C a M type pos after=>by
  obtain⟨c5,rfl⟩:=hT.get ax;obtain⟨fp,rfl⟩:=hT.get fr;have fY:=cI M.tmps x;rw[J]at fY
  have k1:=cI M.tmps y;rw[hy]at k1
  obtain⟨c',w',aW,cZ,fZ⟩:=ade M c5 fp b2 bn k1 mL nh h0 (dst:=s) (ln:=type) hH;rw[<-fY.gh]at cZ;obtain⟨bS,cap,rfl,_⟩:=fZ.heap.cl s _ (rG _ _ _);refine⟨_,w',aW,_,_,?_,fZ,.am _,hK bS _ cap⟩;simp[execOp,resolve,invoke,builtin,cZ]
theorem Y.qF{K:cM->av->Prop}(s k e:Nat)(h:Y W c (z.b_ s (some (.row (.slice none 0 0) [] k e))) K):Y W c z K :=
 ⟨λa w C M=>h.run a w C (M.b_ (Ft:=λ_=>False) (.refl _ _ _) (λ_ M=>M.elim) (λ_ _ _ _ _ _ M=>M) (λx J=>by
  cases J
  exact⟨⟨none,0,rfl,auW _,au7 _,λx J=>(by cases J),λdT gR=>(by cases gR),λh=>absurd h auF⟩,λb G=>by obtain⟨n,cap,h,A⟩:=G;exact azc⟩))⟩
theorem ap.rO:ap .bd (.am (.slice none 0 0)):=⟨λ_ _ _ h=>by rw[h.xS];exact .am _⟩
def ep(be:Array Bool):Nat->Bool:=λi=>be.getD i false
def hM(f:Nat->Bool)(i:Nat):Nat->Bool:=λj=>cond (Nat.beq j i) true (f j)
def wN(g:Nat->Bool):List Edge->Nat->Bool
 |[]=>g
 |e::r=>cond (Region.binds .any e) (hM (wN g r) e.on) (wN g r)
def adf(P:Program)(B:World)(ay:List bC)(l:(Nat->Bool)->List (Nat×D))(hs:(Nat->Bool)->List (Nat×aJ)):List Oper->Nat->Prop
 |[],_=>True
 |o::r,i=>(∀g,nS P B ay (ht (l (wN g o.after.toList)) (hs (wN g o.after.toList))) o.dst o.op λaA=>jD aA (l (hM (wN g o.after.toList) i))/\mI aA (hs (hM (wN g o.after.toList) i)))/\adf P B ay l hs r (i+1)
def BK(al:Nat):List Oper->Nat->Bool
 |[],_=>true
 |o::r,i=>o.guard.isNone&&iY al o.dst&&(o.after.toList.all λe=>!Region.binds .any e||Nat.blt e.on i)&&BK al r (i+1)
theorem SM{l:List Oper}:∀{n:Nat},BK al l n=true->∀{i:Nat} {o:Oper},l[i]?=some o->o.guard=none/\iY al o.dst=true/\∀e∈o.after.toList,Region.binds .any e=true->e.on<n+i:=by induction l with|nil=>intro n _ i o h;simp at h|cons x r aV =>intro n h i o ag;simp only[BK,auQ]at h;obtain⟨⟨⟨h1,A⟩,aa⟩,aF⟩:=h;(cases i with|zero =>simp at ag;subst ag;refine⟨by simpa using h1,A,λe aq G=>?_⟩;have:=avz.1 aa e aq;rw[G]at this;(have:=by simpa using this);omega|succ i =>have:=aV aF (i:=i) (o:=o) (by simpa using ag);refine⟨this.1,this.2.1,λe aq G=>?_⟩;have:=this.2.2 e aq G;omega)
theorem adg{f:Nat->Bool}(h:f i=true):hM f i=f:=by funext j;simp only[hM];cases G:Nat.beq j i with|true=>have:=avb G;subst this;exact h.symm|false=>rfl
theorem Ma{f:Nat->Bool}:∀{l:List Edge},(∀e∈l,Region.binds .any e=true->f e.on=true)->wN f l=f
 |[],_=>rfl
 |e::r,aw=>by simp only[wN];rw[Ma (l:=r) λe aq=>aw e (auZ _ aq)];cases G:Region.binds .any e with|true=>exact adg (aw e auY G)|false=>rfl
variable{be:Array Bool}
theorem Ek(h:i<be.size):ep (be.setIfInBounds i true)=hM (ep be) i:=by funext j;simp only[ep,hM];cases G:Nat.beq j i with|true =>have:=avb G;subst this;simp[h]|false =>(have:i≠j:=λe=>by subst e;simp at G);simp[axi this]
theorem BL{md:Region.Mode}(h:i∈Region.ready md ops be): ∃o,ops[i]?=some o/\i<ops.size/\be.getD i true=false/\∀e∈o.after.toList,Region.binds md e=true->be.getD e.on false=true:=by simp only[Region.ready,avy,awa,auQ,awY]at h;obtain⟨h1,A,aa⟩:=h;have ag:ops[i]?=some ops[i]:=awd h1;refine⟨ops[i],ag,h1,A,λe aq G=>?_⟩;rw[ag]at aa;simp only[av5,avG]at aa;have:=Array.all_eq_true'.1 aa e (by simpa using aq);simpa[G]using this
theorem adh(aw:BK al ops.toList 0=true)(hsz:be.size=ops.size): ∀(n i:Nat),n=i->i<ops.size->be.getD i true=false->Region.ready .any ops be≠[]:=by intro n;induction n using Nat.strongRecOn with|_ n aV =>intro i ar hi aj;subst ar;have ag:ops[n]?=some ops[n]:=awd hi;have dh:=SM aw (i:=n) (o:=ops[n]) (by simpa using ag);by_cases af:∀e∈ops[n].after.toList,Region.binds Region.Mode.any e=true->be.getD e.on false=true;intro aq;(have:n∈Region.ready Region.Mode.any ops be:=ayf);rw[aq]at this;cases this;simp only[Classical.not_forall]at af;obtain⟨e,aq,G,aZ⟩:=af;have bg:=dh.2.2 e aq G;simp only[avu]at bg;refine aV e.on bg e.on rfl auD ?_;(have BM:e.on<be.size:=by omega);simp only[Array.getD,BM,awu]at aZ⊢;simpa using aZ
variable{K:cM->av->Prop}{dA:List D}
theorem bI.Hz(h:bI W w C z a)(s:Nat)(hs:z.H s=some (.box b aD))
  (dP:∀dm,db w C aD dm->db w C dA dm):bI W w C (z.b_ s (some (.box b dA))) a :=
 h.b_ (Ft:=λx=>x=b) (.refl _ _ _) (λx J=>by subst J;exact h.heap.cQ s _ x hs rfl)
  (λbp o x aZ ag au J=>by subst J;exact h.heap.inj s bp _ o x (Ne.symm aZ) hs ag rfl au)
  (λx J=>by
   cases J
   obtain⟨vs,e,h1,A,aa⟩:=h.heap.cl s _ hs
   exact⟨⟨vs,e,h1,dP _ A,aa⟩,λx J=>⟨by cases J;exact h.heap.cQ s _ _ hs rfl,.inl J⟩⟩)
theorem Y.jo(s:Nat)(hs:z.H s=some (.box b aD))(dP:dO aD dA)(h:Y W c (z.b_ s (some (.box b dA))) K):Y W c z K :=
 ⟨λa w C M=>h.run a w C (M.Hz s hs λ_ af=>dP.rB af)⟩
theorem Y.adi(s j:Nat){q:Nat}(hs:z.H s=some (.box b aD))(ad:z.t j=.T (.own q v) k xs)
  (dP:∀w C,bh w C (.T .none k xs) v->∀dm,db w C aD dm->db w C dA dm) (h:Y W c (z.b_ s (some (.box b dA))) K):Y W c z K :=
 ⟨λa w C M=>h.run a w C (M.Hz s hs λdm af=>dP w C (by
  have h1:=M.tmps j;rw[ad]at h1;generalize a.tmps.getD j undef=ao at h1
  have A:ao=v:=by
   cases h1 with
   |jj t k a ax=>exact ax
   |T t k xs b o cap g ax=>exact ax
  rw[A]at h1
  exact h1.jk) dm af)⟩
theorem db.cell(h:db w C aD dm)(O:∀ao,dm[i]?=some ao->bh w C d ao):db w C (iD aD i d) dm:=by(have key:∀(aD:List D) (i:Nat),(iD aD i d).length=aD.length/\∀j,(iD aD i d)[j]?=if j=i/\i<aD.length then some d else aD[j]?:=by intro aD;induction aD with|nil=>intro i;simp[iD]|cons c r aV =>intro i;(cases i with|zero =>refine⟨rfl,λj=>?_⟩;(cases j with|zero=>simp[iD]|succ j=>simp[iD])|succ i =>refine⟨by simp[iD,(aV i).1],λj=>?_⟩;(cases j with|zero=>simp[iD]|succ j=>simp[iD,(aV i).2 j])));refine⟨by rw[(key aD i).1,h.1],λj d' v ad X=>?_⟩;rw[(key aD i).2]at ad;split at ad;rename_i fq;cases ad;obtain⟨rfl,_⟩:=fq;exact O v X;exact h.2 j d' v ad X
theorem db.SN(h:db w C aD dm)(hc:aD[i]?=some (.am v))(au:dm[i]?=some ao):ao=v:=(h.2 i _ ao hc au).gh
theorem Y.adj(s j:Nat){r:List (Nat×D)}(pi:aM hs s=none)(h:Y W c (ht ((j,.T (.own s v) k xs)::r) hs) K):Y W c (ht ((j,.am v)::r) ((s,.row v xs k e)::hs)) K:=by have pj:Nat.beq s s=true:=av9 s;refine Y.commit s (v:=v) (xs:=xs) (k:=k) (e:=e) (by simp only[ht,aM,pj,awo]) (ht ((j,.T (.own s v) k xs)::r) hs) (λw C af i ao hi=>?_) (λi o ag=>?_) h;simp only[ht,aM]at hi⊢;(cases G:Nat.beq i j with|true =>rw[G]at hi;simp only[awo,avG]at hi⊢;rw[hi.gh];exact af|false=>rw[G]at hi;simpa using hi);refine .inr ⟨λe=>?_,?_⟩;subst e;simp only[ht]at ag;rw[pi]at ag;cases ag;simp only[ht,aM]at ag⊢;cases G:Nat.beq i s with|true =>have:=avb G;subst this;rw[pi]at ag;cases ag|false=>simpa using ag
open Go.ChangeShapes Go.Deep
variable{H:Type}{enc:TypeId×Value->H}{b8:World}
def vc(w:World):Nat->Nat:=λb=>match w.heap[b]? with
 |some (.cells vs _ _)=>vs.size
 |_=>0
theorem SO{a:Addr}(h:w.cell? a=some v):a.spot=none/\a.block<w.heap.size/\a.off<vc w a.block:=by unfold World.cell? at h;unfold vc;split at h;rename_i c _ _ G;rw[G];split at h;cases h;rename_i hs;refine⟨by cases dn:a.spot<;>simp_all,ij G,?_⟩;exact(awt.1 h).1;cases h
def lp(enc:TypeId×Value->H)(P:Program)(b8:World)(n:Nat)(t:TypeId)(e:α->D)(wO:α->DataW H->Prop):Prop :=
 ∀aD x,DataW.trod enc P b8 0 (λ_=>true) true n t aD=some x->∃a,db b8 (vc b8) (e a).cells aD/\wO a x.1
theorem lp.int{n:Nat}{t:TypeId}{k:IntKind}(ax:P.underlying t=some (.int k)):lp enc P b8 n t (λi:Int=>.int k i) (λi d=>d=.lit (.int k i)/\(Lit.int k i).wf=true):=by intro aD x h;obtain⟨i,rfl,rfl,cz⟩:=DataW.trod_int ax h;exact⟨i,.cons (.int _ _) (.nil _ _),rfl,cz⟩
theorem lp.bool{n:Nat}{t:TypeId}(ax:P.underlying t=some .bool):lp enc P b8 n t (λi:Bool=>.bool i) (λi d=>d=.lit (.bool i)):=by intro aD x h;obtain⟨i,rfl,rfl⟩:=DataW.trod_bool ax h;exact⟨i,.cons (.bool _) (.nil _ _),rfl⟩
theorem lp.N{n:Nat}{t:TypeId}(ax:P.underlying t=some .string):lp enc P b8 n t (λs:auM=>.N s) (λs d=>d=.lit (.string s)/\s.length<=maxLen):=by intro aD x h;obtain⟨s,rfl,rfl,hs⟩:=DataW.trod_string ax h;obtain⟨⟨l⟩⟩:=s;exact⟨l,.cons (.N l) (.nil _ _),rfl,hs⟩
theorem SP{α:Type}{a6:Nat->α->Prop}:∀n,(∀i,i<n->∃a,a6 i a)->∃l:List α,l.length=n/\∀i a,l[i]?=some a->a6 i a
 |0,_=>⟨[],rfl,λi a h=>by simp at h⟩
 |n+1,h=>by obtain⟨l,aj,I⟩:=SP n (λi hi=>h i auD);obtain⟨a,ha⟩:=h n auD;refine⟨l++[a],by simp[aj],λi b G=>?_⟩;rw[ax5]at G;split at G;exact I i b G;rename_i hi;(have:i-l.length=0:=by have:=(avk.1 G).1;simp at this;omega);rw[this]at G;simp at G;subst G;(have:i=n:=by omega);subst this;exact ha
theorem SQ{k:Nat}(h0:0<k):∀{xs:List D} (_:∀x∈xs,x.cells.length=k) {j:Nat} {d:D},(b4 xs)[j]?=some d->∃x,xs[j/k]?=some x/\x.cells[j%k]?=some d
 |[],_,j,d,h=>by simp[b4]at h
 |x::r,Z,j,d,h=>by have J:=Z x auY;(have e:b4 (x::r)=x.cells++b4 r:=by simp[b4]);rw[e,ax5,J]at h;split at h;rename_i ad;exact⟨x,by rw[Nat.div_eq_of_lt ad];rfl,by rw[Nat.mod_eq_of_lt ad];exact h⟩;rename_i ad;obtain⟨y,h1,A⟩:=SQ h0 (xs:=r) (λy hy=>Z y (auZ _ hy)) h;(have gm:j=(j-k)+k:=by omega);refine⟨y,?_,?_⟩;rw[gm,Nat.add_div_right _ h0];simpa using h1;rw[gm,Nat.add_mod_right];exact A
def SR(wO:α->DataW H->Prop)(l:List α)(d:DataW H):Prop :=
 (l=[]/\d=.nil)\/∃ds sM,d=.slice ds sM/\ds.length=l.length/\∀(i:Nat) a y,l[i]?=some a->ds[i]?=some y->wO a y
theorem lp.slice{t e:TypeId}{k:Nat}{α:Type}{f:α->D}{wO:α->DataW H->Prop}(ax:P.underlying t=some (.slice e))(da:P.cellsOf e=k)(Z:0<k)
  (M:∀a,(f a).cells.length=k/\(f a).cells.all D.one=true) {j3:Nat} (aV:∀n,n<j3->lp enc P b8 n e f wO) :
  lp enc P b8 j3 t (λl:List α=>.T .none k (l.map f)) (SR wO):=by
 intro aD x h;rcases DataW.trod_slice ax h with⟨rfl,rfl⟩|⟨a,len,cap,elems,rest,n,rfl,rfl,rfl,G,aj,hm,hlen,fr,nm,_⟩
 ·exact⟨[],.cons (.jj .none k none trivial) (.nil _ _),Or.inl ⟨rfl,rfl⟩⟩
 rw[da]at fr nm
 obtain⟨l,mO,I⟩:=SP (a6:=λi b=>∃dA y,b8.cells? 0 (a.add (i*k)) k=some dA/\db b8 (vc b8) (f b).cells dA/\elems[i]?=some y/\wO b y.1) len (λi hi=>by
  have hy:elems[i]?=some elems[i]:=auR auD;have h1:=fr i hi;rw[hy,aw0]at h1;obtain⟨dA,A,aa⟩:=h1;obtain⟨b,aF,a8⟩:=aV n (avt _) dA _ aa
  exact⟨b,dA,_,A,aF,hy,a8⟩)
 refine⟨l,.cons ?_ (.nil _ _),Or.inr ⟨_,_,rfl,by simp[hlen,mO],λi b y G hy=>?_⟩⟩
 ·have El:(l.map f).length=len:=by simp[mO]
  have b2:∀x∈l.map f,x.cells.length=k:=λx J=>by obtain⟨b,_,rfl⟩:=au_.1 J;exact(M b).1
  by_cases hcap:cap=0
  ·have h0:len=0:=auD
   have:l=[]:=au1 auD;subst this;subst hcap;subst h0
   exact .jj .none k (some a) trivial
  have adk:∃v,b8.cell? ((a.add (0*k)).add 0)=some v:=by
   have h1:∃y dA,b8.cells? 0 (a.add (0*k)) k=some dA/\DataW.trod enc P b8 0 (λ_=>true) true n e dA=some y:=by
    by_cases h0:0<len
    ·have hy:elems[0]?=some elems[0]:=auR auD;have h1:=fr 0 h0;rw[hy,aw0]at h1;obtain⟨dA,A,aa⟩:=h1;exact⟨_,dA,A,aa⟩
    obtain⟨A,aa⟩:=nm rfl;have aF:=aa 0 auD;have hy:rest[0]?=some (rest[0]' auD):=auR auD;rw[hy,aw0]at aF;obtain⟨dA,a8,cN⟩:=aF;have:len+0=0:=auD
    rw[this]at a8;exact⟨_,dA,a8,cN⟩
   obtain⟨y,dA,A,_⟩:=h1;obtain⟨_,aa,aF⟩:=World.cells?_some A;have:=aF 0 Z;rw[this];exact⟨_,auR auD⟩
  obtain⟨v0,pe⟩:=adk;have mi:(a.add (0*k)).add 0=a:=by simp[Addr.add]
  rw[mi]at pe;obtain⟨dG,tS,Mb⟩:=SO pe;obtain⟨b,o,sM⟩:=a;simp only at dG tS Mb;subst dG
  have HA:∀(j:Nat) d,(b4 (l.map f))[j]?=some d->∃v,b8.cell? ⟨b,o+j,none⟩=some v/\v.oneCell'=true/\bh b8 (vc b8) d v:=λj d O=>by
   obtain⟨x,J,hc⟩:=SQ Z b2 O;rw[au',avS]at J;obtain⟨gn,HB,rfl⟩:=J;obtain⟨dA,y,A,aa,_,_⟩:=I _ _ HB;obtain⟨_,aF,a8⟩:=World.cells?_some A;have pd:j%k<k:=Nat.mod_lt _ Z;have X:dA[j%k]?=some (dA[j%k]' auD):=auR auD;have cN:=a8 (j%k) pd;rw[X]at cN;have af:=aa.2 _ _ _ hc X;have ag:D.one d=true:=avz.1 (M gn).2 d (au5 hc);refine⟨_,?_,(af.oA ag).2,af⟩
   have e:(Addr.add (Addr.add ⟨b,o,none⟩ (j/k*k)) (j%k))=⟨b,o+j,none⟩:=by
    rw[p1,p1];have:=Nat.div_add_mod j k;rw[Nat.mul_comm]at this;rw[awy,this]
   rw[e]at cN;exact cN
  have eX:=bh.T (w:=b8) (C:=vc b8) .none k (l.map f) b o cap (λj=>(b8.cell? ⟨b,o+j,none⟩).getD undef) trivial tS (by rw[El];exact aj) hm b2 (by
    by_cases h0:0<len*k
    ·have dg:=qx b2;rw[El]at dg;obtain⟨d,O⟩:=lU (l:=b4 (l.map f)) (i:=len*k-1) auD;obtain⟨v,X,_⟩:=HA _ d O;have:=(SO X).2.2;simp only at this;rw[El];omega
    rw[El];omega)
   (λj d O=>by obtain⟨v,X,_⟩:=HA j d O;rw[X];rfl)
   (λj d O=>by obtain⟨v,X,h1,_⟩:=HA j d O;rw[X];exact h1)
   (λj d O=>by obtain⟨v,X,_,h1⟩:=HA j d O;rw[X];exact h1)
  rw[El]at eX;exact eX
 obtain⟨_,SS,_,_,h1,A⟩:=I _ _ G;rw[au',h1]at hy;cases hy;exact A
theorem HC{t:TypeId}{b':Array Field}{j3:Nat}{aD:List Value}{x:DataW H×List MemPlace}(ax:P.underlying t=some (.struct b'))(en:oneCellFields P b'=true)(da:P.cellsOf t=b'.size)(h:DataW.trod enc P b8 0 (λ_=>true) true j3 t aD=some x): ∃(xs:List (DataW H×List MemPlace)) (n:Nat),j3=n+1/\x.1=.agg (xs.map (·.1))/\aD.length=b'.size/\xs.length=b'.size/\∀(i:Nat) (f:Field) v y,b'[i]?=some f->aD[i]?=some v->xs[i]?=some y->DataW.trod enc P b8 0 (λ_=>true) true n f.type [v]=some y:=by obtain⟨xs,n,rfl,rfl,aj,J,M⟩:=DataW.trod_struct ax h;refine⟨xs,n,rfl,rfl,by rw[aj,da],J,λi f v y h1 A aa=>?_⟩;obtain⟨ag,Z⟩:=hone_of en i f h1;have aF:=M i f h1;rw[ag,Z,aa]at aF;obtain⟨hi,rfl⟩:=avk.1 A;(have:(aD.drop i).take 1=[aD[i]]:=by rw[avL hi];rfl);rw[this]at aF;exact aF
variable{i_:World}
theorem adl{t:TypeId}(aj:laidOutB P=true)(af:P.readableRec t=true)(dQ:t<P.types.size){d:DataW H}{bP:List MemPlace}
  (h:DataW.Trod enc P b8 0 (λ_=>true) true t v d bP) (G:Below b8.heap.size b8 i_) (bg:∀x∈bP,x.block<b8.heap.size) (sM:Nat->Bool) (nm:∀p∈bP,sM p.block=true) :
  DataW.Trod enc P i_ 0 sM true t v d bP :=
 WideElems.Trod_stays aj af dQ h (λx J=>G.same (bg x J)) (λx J=>nm x J)
end Go.bV
namespace Go.bV.ct
open Go Go.Proofs
abbrev bu:D:=.int .i64 0
abbrev d9:D:=.N []
abbrev iK:D:=.bool false
abbrev tT:D:=.am (.map none)
abbrev wP:D:=.am (.pointer none)
abbrev zN:D:=.am .nilFunc
abbrev eP:rA:=.int .i64
abbrev zO:List (Nat×Nat×Bool):=[(0,1,false),(1,1,false)]
abbrev HD:List (Nat×Nat×Bool):=[(0,1,false),(1,1,false),(2,1,false)]
abbrev HE:List (Nat×Nat×Bool):=[(0,1,false),(1,1,false),(2,1,false),(3,1,false)]
abbrev Mc:List (Nat×Nat×Bool):=[(0,1,false),(1,1,false),(2,1,false),(3,1,false),(4,1,false)]
abbrev Md:List (Nat×Nat×Bool):=[(0,1,false),(1,1,false),(2,1,false),(3,1,false),(4,1,false),(5,1,false)]
abbrev adm:List (Nat×Nat×Bool):=[(0,1,false),(1,1,false),(2,1,false),(3,1,false),(4,1,false),(5,1,false),(6,1,false)]
abbrev ST:List (Nat×Nat×Bool):=[(0,1,false),(1,1,false),(2,1,false),(3,1,false),(4,1,false),(5,1,false),(6,1,false),(7,1,false)]
abbrev adn:List (Nat×Nat×Bool):=[(0,1,false),(1,1,false),(2,1,false),(3,1,false),(4,1,false),(5,1,false),(6,1,false),(7,1,false),(8,1,false),(9,1,false),(10,1,false),(11,1,false)]
abbrev ado:List (Nat×Nat×Bool):=[(0,1,false),(1,1,false),(2,1,false),(3,1,false),(4,1,false),(5,1,false),(6,1,false),(7,1,false),(8,1,false),(9,1,false),(10,1,false),(11,1,false),(12,1,false),(13,1,false)]
abbrev j6(a b:Nat):bC:=⟨a,false,1,24,.slice b,[],some [.bd],[]⟩
abbrev mP(a:Nat)(Q:D):bC:=⟨a,false,1,8,.DL,[],some [Q],[]⟩
def ay:List bC:=[⟨3,false,1,8,eP,[],some [bu],[]⟩,⟨9,false,1,16,.N,[],some [d9],[]⟩,⟨4,false,1,1,.bool,[],some [iK],[]⟩,⟨44,true,12,152,.struct,adn,some [d9,bu,d9,d9,bu,bu,bu,bu,bu,bu,.bd,.bd],[]⟩,j6 24 3,j6 59 9,j6 41 44,⟨54,false,1,8,eP,[],some [bu],[]⟩,⟨5,false,1,1,.int .u8,[],some [.int .u8 0],[]⟩,⟨23,true,2,16,.struct,zO,some [bu,bu],[eP,eP]⟩,j6 38 23,⟨53,true,3,32,.struct,HD,some [d9,bu,bu],[.N,eP,eP]⟩,j6 27 53,⟨34,true,13,160,.struct,[(0,8,true),(8,1,false),(9,1,false),(10,1,false),(11,1,false),(12,1,false)],some [d9,d9,d9,d9,d9,bu,bu,bu,bu,bu,.bd,bu,iK],[]⟩,⟨114,true,21,256,.struct,[(0,13,true),(13,1,false),(14,1,false),(15,1,false),(16,1,false),(17,1,false),(18,1,false),(19,1,false),(20,1,false)],some [d9,d9,d9,d9,d9,bu,bu,bu,bu,bu,.bd,bu,iK,.bd,.bd,tT,bu,bu,bu,bu,bu],[]⟩,⟨121,true,2,32,.struct,zO,some [d9,d9],[.N,.N]⟩,j6 112 121,⟨29,true,16,160,.struct,[(0,2,true),(2,2,true),(4,11,true),(15,1,false)],some [bu,bu,bu,bu,bu,iK,bu,bu,bu,bu,bu,.bd,bu,bu,bu,.bd],[]⟩,⟨26,true,11,104,.struct,[(0,1,false),(1,1,false),(2,2,true),(4,1,false),(5,2,true),(7,1,false),(8,1,false),(9,2,true)],some [bu,iK,bu,bu,bu,bu,bu,.bd,bu,bu,bu],[]⟩,j6 42 147,j6 32 140,⟨140,true,6,56,.struct,Md,some [d9,bu,bu,bu,bu,iK],[.N,eP,eP,eP,eP,.bool]⟩,⟨83,true,4,40,.struct,HE,some [iK,iK,bu,.bd],[]⟩,j6 86 4,mP 76 tT,mP 66 tT,mP 104 wP,⟨147,true,2,32,.struct,zO,some [d9,d9],[.N,.N]⟩,mP 99 wP,mP 135 wP,mP 1 zN,⟨2,false,1,8,eP,[],some [bu],[]⟩,⟨6,false,1,1,.int .u8,[],some [.int .u8 0],[]⟩,⟨7,true,4,24,.struct,HE,some [bu,bu,iK,.int .u8 0],[eP,eP,.bool,.int .u8]⟩,⟨8,true,4,24,.struct,HE,some [bu,bu,iK,.int .u8 0],[eP,eP,.bool,.int .u8]⟩,⟨10,false,1,16,.N,[],some [d9],[]⟩,⟨11,false,1,16,.N,[],some [d9],[]⟩,⟨12,false,1,8,.int .u64,[],some [.int .u64 0],[]⟩,⟨21,false,1,4,.int .i32,[],some [.int .i32 0],[]⟩,⟨31,true,8,104,.struct,ST,some [d9,d9,d9,d9,d9,bu,bu,bu],[.N,.N,.N,.N,.N,eP,eP,eP]⟩,⟨49,false,1,8,.int .u64,[],some [.int .u64 0],[]⟩,mP 67 tT,j6 68 59,⟨70,false,1,2,.int .u16,[],some [.int .u16 0],[]⟩,mP 118 tT,mP 131 wP,⟨133,true,4,32,.struct,HE,some [wP,wP,bu,bu],[]⟩,mP 161 wP,j6 162 5,⟨164,true,2,32,.struct,zO,some [wP,.bd],[]⟩,mP 173 tT,⟨175,true,26,312,.struct,[(0,4,true),(4,8,true),(12,12,true),(24,1,false),(25,1,false)],some [iK,iK,bu,.bd,d9,d9,d9,d9,d9,bu,bu,bu,d9,bu,d9,d9,bu,bu,bu,bu,bu,bu,.bd,.bd,tT,tT],[]⟩,⟨180,false,1,8,eP,[],some [bu],[]⟩,⟨188,false,1,4,.int .u32,[],some [.int .u32 0],[]⟩,⟨193,true,13,160,.struct,[(0,12,true),(12,1,false)],some [d9,bu,d9,d9,bu,bu,bu,bu,bu,bu,.bd,.bd,bu],[]⟩,mP 194 zN,j6 195 194,⟨216,true,6,48,.struct,Md,some [bu,bu,bu,bu,bu,bu],[eP,eP,eP,eP,eP,eP]⟩,⟨219,false,1,1,.int .i8,[],some [.int .i8 0],[]⟩,j6 220 228,j6 221 251,j6 224 249,⟨226,true,5,56,.struct,Mc,some [iK,.bd,bu,bu,bu],[]⟩,⟨228,true,6,64,.struct,Md,some [d9,d9,bu,bu,bu,iK],[.N,.N,eP,eP,eP,.bool]⟩,⟨230,true,8,80,.struct,ST,some [d9,bu,bu,bu,bu,bu,bu,d9],[.N,eP,eP,eP,eP,eP,eP,.N]⟩,mP 231 zN,j6 232 269,⟨234,true,12,144,.struct,[(0,8,true),(8,1,false),(9,1,false),(10,1,false),(11,1,false)],some [d9,bu,bu,bu,bu,bu,bu,d9,bu,zN,.bd,.bd],[]⟩,j6 236 238,⟨238,true,3,40,.struct,HD,some [d9,bu,d9],[.N,eP,.N]⟩,⟨244,true,14,128,.struct,ado,some [iK,bu,bu,bu,bu,bu,iK,d9,d9,iK,bu,bu,bu,iK],[.bool,eP,eP,eP,eP,eP,.bool,.N,.N,.bool,eP,eP,eP,.bool]⟩,j6 247 234,⟨249,true,5,64,.struct,Mc,some [d9,bu,.bd,bu,bu],[]⟩,⟨251,true,7,56,.struct,adm,some [d9,d9,bu,bu,iK,iK,iK],[.N,.N,eP,eP,.bool,.bool,.bool]⟩,j6 256 320,j6 259 236,⟨269,true,2,16,.struct,zO,some [bu,bu],[eP,eP]⟩,mP 270 zN,j6 290 296,j6 291 358,⟨293,true,3,56,.struct,HD,some [.bd,.bd,bu],[]⟩,⟨296,true,16,208,.struct,[(0,12,true),(12,1,false),(13,1,false),(14,1,false),(15,1,false)],some [d9,bu,d9,d9,bu,bu,bu,bu,bu,bu,.bd,.bd,d9,bu,.bd,bu],[]⟩,mP 298 tT,mP 299 tT,mP 300 wP,j6 303 310,⟨305,true,7,88,.struct,[(0,6,true),(6,1,false)],some [d9,d9,bu,bu,bu,iK,.bd],[]⟩,j6 306 305,mP 307 zN,⟨310,true,8,64,.struct,[(0,7,true),(7,1,false)],some [d9,d9,bu,bu,iK,iK,iK,bu],[]⟩,⟨320,true,3,32,.struct,HD,some [d9,bu,bu],[.N,eP,eP]⟩,j6 332 21,⟨334,true,2,48,.struct,zO,some [.bd,.bd],[]⟩,⟨349,true,14,184,.struct,[(0,12,true),(12,1,false),(13,1,false)],some [d9,bu,d9,d9,bu,bu,bu,bu,bu,bu,.bd,.bd,d9,d9],[]⟩,⟨354,true,2,16,.struct,zO,some [bu,bu],[eP,eP]⟩,⟨356,true,9,48,.struct,[(0,1,false),(1,1,false),(2,1,false),(3,1,false),(4,1,false),(5,1,false),(6,2,true),(8,1,false)],some [d9,iK,iK,iK,iK,iK,bu,bu,bu],[]⟩,⟨358,true,5,40,.struct,Mc,some [bu,bu,bu,bu,bu],[eP,eP,eP,eP,eP]⟩,⟨359,true,12,96,.array 12 3,[],some [bu,bu,bu,bu,bu,bu,bu,bu,bu,bu,bu,bu],[]⟩,⟨362,true,3,24,.array 3 3,[],some [bu,bu,bu],[]⟩,mP 367 tT,mP 390 zN,⟨393,true,256,256,.array 256 4,[],none,[]⟩,j6 426 390,⟨446,false,1,4,.int .i32,[],some [.int .i32 0],[]⟩]
theorem aN:df Tryz.prog ay:=df.uZ auI
theorem mixed:Tryz.prog.follows .mixedOrders=true:=by kernel_rfl
abbrev adp:=ay
theorem ast:df Tryz.prog adp:=aN
abbrev adq:=ay
theorem asu:df Tryz.prog adq:=aN
variable{q:Prop}{p:Prop}{α:Type}{f:FuncId}{body:Code}{ds:List D}{d:D}{a6:D->bH->Prop}
section
variable{B:World}{al:Nat}{W:b5 Tryz.prog B al}{id:Nat}{ops:Array Oper}{a b c:Code}{z:av}{K:cM->av->Prop}
theorem jH(h:jE Tryz.prog B ay al ops ops.toList z (K .normal)):Y W (.region id ops false) z K:=Y.region aN h
theorem b1(h:jE Tryz.prog B ay al ops ops.toList z (zm W c K .normal)):Y W (.seq (.region id ops false) c) z K:=Y.seq (Y.region aN h)
theorem eh(h:Y W a z (zm W b K)):Y W (.seq a b) z K:=Y.seq h
theorem n0(h:Y W a z (zm W b (zm W c K))):Y W (.seq (.seq a b) c) z K:=Y.seq (Y.seq h)
theorem ci(h:K .normal z):Y W .skip z K:=Y.skip h
theorem x6(h:K .ret z):Y W .ret z K:=Y.ret h
theorem n1(h:Y W a z (G7 id K)):Y W (.block id a) z K:=Y.block h
theorem aI{o:Operand}(t:Bool)(hc:z.bb o=.bool t)(h1:t=true->Y W a z K)(A:t=false->Y W b z K):Y W (.cond o a b) z K:=Y.cond t hc h1 A
abbrev u(n:Int):D:=.int .i64 n
theorem cj{α:Sort _}{x:α}(h:q):x=x/\q:=⟨rfl,h⟩
theorem g'(h:q):(p->p)/\q:=⟨id,h⟩
theorem BN{r:Prop}(h:q):True/\(q\/r):=⟨trivial,.inl h⟩
theorem p7{r:Prop}(h:r):True/\(q\/r):=⟨trivial,.inr h⟩
theorem ei{α:Sort _}{x:α}{r:Prop}(h:q):x=x/\True/\(q\/r):=⟨rfl,trivial,.inl h⟩
theorem tU{α:Sort _}{x:α}{r:Prop}(h:r):x=x/\True/\(q\/r):=⟨rfl,trivial,.inr h⟩
theorem mj{r:Prop}(h:q):q\/r:=.inl h
theorem hb{r:Prop}(h:q)(k:p:=by intro _;first|(simp only[dz];omega)|(simp[dz];omega)|simp[dz]):(p/\q)\/r:=.inl ⟨k,h⟩
theorem tV(h:q)(k:p:=by intro h0 h;exact ay_):p/\q:=⟨k,h⟩
theorem wQ{α:Sort _}{cw:Prop}{bL bY:α->Prop}(y:α)(h:bY y)(k:cw->bL y:=by intro _;rfl):∃y,(cw->bL y)/\bY y:=⟨y,k,h⟩
theorem f0{α:Sort _}{bL bY:α->Prop}(y:α)(k:bY y:=by exact λ_ _ h=>h)(h:bL y:=by(repeat refine⟨.refl _,?_⟩);trivial):∃y,bL y/\bY y:=⟨y,h,k⟩
theorem SU{eC:α->(Nat->Bool)->Prop}{S:α->(Nat->Bool)->Prop}{a6:Prop}(h:a6)(k:∀y f,eC y f->S y f:=by intro y f _;(conv=>whnf);refine BN ?_;(conv=>whnf);exact f0 y):(∀y f,eC y f->S y f)/\a6:=⟨k,h⟩
theorem an(h:p:=by(repeat refine⟨.refl _,?_⟩);trivial):p:=h
theorem a_(h:p:=by(repeat refine⟨rfl,?_⟩);trivial):p:=h
theorem nn(h:q)(k:p:=by intro _;first|(simp;omega)|simp):p/\q:=⟨k,h⟩
theorem bB{fn:Func}(M : Tryz.prog.funcs[f]?=some fn)(p6 : fn.ntmps = al)(h : ∀W : b5 Tryz.prog B al,Y W body (entry ds bH.none) (LW ay fn.results.toList d))(G : fn.body = some body := by rfl)(ar : (fn.name == "runtime.NumGoroutine") = false := by decide +kernel)(aj : Nat.ble ds.length al = true := by rfl): mH Tryz.prog B f ds d := mH.intro aN M G ar p6 aj h
theorem jI{fn:Func}{H:bH}(M : Tryz.prog.funcs[f]?=some fn)(p6 : fn.ntmps = al)(h : ∀W : b5 Tryz.prog B al,Y W body (entry ds H) (Ec ay fn.results.toList a6))(G : fn.body = some body := by rfl)(ar : (fn.name == "runtime.NumGoroutine") = false := by decide +kernel)(aj : Nat.ble ds.length al = true := by rfl): c8 Tryz.prog B f ds H a6 := c8.intro aN M G ar p6 aj h
end
structure e3 (p:Prop):Prop where ck:p
section
variable{B:World}{al:Nat}
theorem cc(h:q)(f:e3 q->p:=by intro Q;apply b1;(conv=>whnf);exact Q.ck):p:=f ⟨h⟩
theorem ej(h:q)(f:e3 q->p:=by intro Q;apply cj;(conv=>whnf);exact Q.ck):p:=f ⟨h⟩
theorem oJ(h:q)(f:e3 q->p:=by intro Q;refine⟨trivial,?_⟩;(conv=>whnf);exact Q.ck):p:=f ⟨h⟩
theorem lq(h:q)(f:e3 q->p:=by intro Q;refine hb ?_;(conv=>whnf);exact Q.ck):p:=f ⟨h⟩
theorem mQ(h:q)(f:e3 q->p:=by intro Q;apply eh;refine Y.tL aN mixed auI ?_;exact Q.ck):p:=f ⟨h⟩
theorem hz(h:q)(f:e3 q->p:=by intro Q;apply x6;(conv=>whnf);exact Q.ck):p:=f ⟨h⟩
theorem pk(h:q)(f:e3 q->p:=by intro Q;refine nn ?_;(conv=>whnf);exact Q.ck):p:=f ⟨h⟩
theorem tW(h:q)(f:e3 q->p:=by intro Q;refine Y.Me aN ?_;apply ei;exact Q.ck):p:=f ⟨h⟩
theorem qG(h:q)(f:e3 q->p:=by intro Q;(conv=>whnf);refine⟨rfl,_,_,rfl,rfl,.inr ⟨rfl,?_⟩⟩;exact Q.ck):p:=f ⟨h⟩
theorem vd(h:q)(f:e3 q->p:=by intro Q;apply eh;refine Y.Ef aN ?_;exact Q.ck):p:=f ⟨h⟩
theorem Mf(h:q)(f:e3 q->p:=by intro Q;refine⟨rfl,rfl,?_⟩;(conv=>whnf);exact Q.ck):p:=f ⟨h⟩
theorem mR(h:q)(f:e3 q->p:=by intro Q;apply g';(conv=>whnf);exact Q.ck):p:=f ⟨h⟩
theorem eY(h:q)(f:e3 q->p:=by intro Q;apply ci;(conv=>whnf);exact Q.ck):p:=f ⟨h⟩
theorem gp(h:q)(f:e3 q->p:=by intro Q;apply b1;refine hz ?_;exact Q.ck):p:=f ⟨h⟩
theorem il(h:q)(f:e3 q->p:=by intro Q;apply g';refine tV ?_;exact Q.ck):p:=f ⟨h⟩
theorem Mg(h:q)(f:e3 q->p:=by intro Q;apply n1;refine cc ?_;exact Q.ck):p:=f ⟨h⟩
theorem gj(h:q)(f:e3 q->p:=by intro Q;apply eh;apply b1;exact Q.ck):p:=f ⟨h⟩
theorem gJ(h:q)(f:e3 q->p:=by intro Q;apply eh;refine Mg ?_;exact Q.ck):p:=f ⟨h⟩
theorem p8(h:q)(f:e3 q->p:=by intro Q;refine⟨_,.refl _,?_⟩;refine go ?_;exact Q.ck):p:=f ⟨h⟩
theorem hd(h:q)(f:e3 q->p:=by intro Q;apply g';refine mR ?_;exact Q.ck):p:=f ⟨h⟩
theorem rP(h:q)(f:e3 q->p:=by intro Q;refine⟨_,.refl _,?_⟩;(conv=>whnf);exact Q.ck):p:=f ⟨h⟩
theorem k2(h:q)(f:e3 q->p:=by intro Q;refine ej ?_;refine pk ?_;exact Q.ck):p:=f ⟨h⟩
theorem ml(h:q)(f:e3 q->p:=by intro Q;apply jH;refine lq ?_;exact Q.ck):p:=f ⟨h⟩
theorem mm(h:q)(f:e3 q->p:=by intro Q;refine oJ ?_;refine Mf ?_;exact Q.ck):p:=f ⟨h⟩
theorem mS(h:q)(f:e3 q->p:=by intro Q;refine nn ?_;refine go ?_;exact Q.ck):p:=f ⟨h⟩
theorem qH(h:q)(f:e3 q->p:=by intro Q;refine Y.exit ?_;refine gp ?_;exact Q.ck):p:=f ⟨h⟩
theorem jp(h:q)(f:e3 q->p:=by intro Q;apply ei;(conv=>whnf);exact Q.ck):p:=f ⟨h⟩
theorem ve(h:q)(f:e3 q->p:=by intro Q;(conv=>whnf);refine⟨rfl,.inl ?_⟩;exact Q.ck):p:=f ⟨h⟩
theorem kB(h:q)(f:e3 q->p:=by intro Q;apply b1;refine ej ?_;exact Q.ck):p:=f ⟨h⟩
theorem sN(h:q)(f:e3 q->p:=by intro Q;refine Y.exit ?_;refine cc ?_;exact Q.ck):p:=f ⟨h⟩
theorem lr(h:q)(f:e3 q->p:=by intro Q;apply BN;refine go ?_;exact Q.ck):p:=f ⟨h⟩
theorem lZ(h:q)(f:e3 q->p:=by intro Q;apply jH;(conv=>whnf);exact Q.ck):p:=f ⟨h⟩
theorem gK(h:q)(f:e3 q->p:=by intro Q;apply b1;apply cj;exact Q.ck):p:=f ⟨h⟩
theorem wR(h:q)(f:e3 q->p:=by intro Q;refine Em ?_;refine Go.bV.ct.vs ?_;exact Q.ck):p:=f ⟨h⟩
theorem En(h:q)(f:e3 q->p:=by intro Q;apply n0;refine Y.tL aN mixed auI ?_;exact Q.ck):p:=f ⟨h⟩
theorem mT(h:q)(f:e3 q->p:=by intro Q;refine gj ?_;apply n1;exact Q.ck):p:=f ⟨h⟩
theorem vf(h:q)(f:e3 q->p:=by intro Q;refine Y.exit ?_;(conv=>whnf);exact Q.ck):p:=f ⟨h⟩
theorem qI(h:q)(f:e3 q->p:=by intro Q;refine vd ?_;(conv=>whnf);exact Q.ck):p:=f ⟨h⟩
theorem no(h:q)(f:e3 q->p:=by intro Q;apply g';refine il ?_;exact Q.ck):p:=f ⟨h⟩
theorem np(h:q)(f:e3 q->p:=by intro Q;apply eh;refine tW ?_;exact Q.ck):p:=f ⟨h⟩
theorem h6(h:q)(f:e3 q->p:=by intro Q;apply g';apply cj;exact Q.ck):p:=f ⟨h⟩
theorem n7(h:q)(f:e3 q->p:=by intro Q;apply mj;(conv=>whnf);exact Q.ck):p:=f ⟨h⟩
theorem oK(h:q)(f:e3 q->p:=by intro Q;refine gj ?_;apply cj;exact Q.ck):p:=f ⟨h⟩
theorem pl(h:q)(f:e3 q->p:=by intro Q;apply b1;refine cc ?_;exact Q.ck):p:=f ⟨h⟩
theorem jJ(h:q)(f:e3 q->p:=by intro Q;apply eh;apply n1;exact Q.ck):p:=f ⟨h⟩
theorem p9(h:q)(f:e3 q->p:=by intro Q;apply eh;refine cc ?_;exact Q.ck):p:=f ⟨h⟩
theorem vg(h:q)(f:e3 q->p:=by intro Q;refine gJ ?_;refine pk ?_;exact Q.ck):p:=f ⟨h⟩
theorem vh(h:q)(f:e3 q->p:=by intro Q;refine hb ?_;refine lq ?_;exact Q.ck):p:=f ⟨h⟩
theorem qJ(h:q)(f:e3 q->p:=by intro Q;apply ci;refine ml ?_;exact Q.ck):p:=f ⟨h⟩
theorem vi(h:q)(f:e3 q->p:=by intro Q;refine gj ?_;refine ej ?_;exact Q.ck):p:=f ⟨h⟩
theorem x7(h:q)(f:e3 q->p:=by intro Q;refine .inr ?_;refine go ?_;exact Q.ck):p:=f ⟨h⟩
theorem wS(h:q)(f:e3 q->p:=by intro Q;(conv=>whnf);refine pk ?_;exact Q.ck):p:=f ⟨h⟩
theorem Mh(h:q)(f:e3 q->p:=by intro Q;(conv=>whnf);refine⟨rfl,_,_,rfl,rfl,.inl ⟨rfl,.inl ?_⟩⟩;exact Q.ck):p:=f ⟨h⟩
end
abbrev aT(B:World):=mH Tryz.prog B
abbrev c4(B:World):=c8 Tryz.prog B
theorem E(h:p:=by exact .refl _):p:=h
theorem ak:True:=trivial
structure nr where
 name:auM
 target:auM
 deriving DecidableEq,Inhabited
structure U where
 name:auM
 kind:Int
 cU:auM
 target:auM
 cu:Int
 n2:Int
 n3:Int
 n4:Int
 n5:Int
 n6:Int
 F:List U
 bD:List nr
 deriving Inhabited
def cW(s:nr):D:=.agg [.N s.name,.N s.target]
mutual
def enc:U->D
 |.mk a b c d e f g h i j ae ch=>.agg [.N a,.int .i64 b,.N c,.N d,.int .i64 e,.int .i64 f,.int .i64 g,.int .i64 h,.int .i64 i,.int .i64 j,.T .none 12 (HF ae),.T .none 2 (ch.map cW)]
def HF:List U->List D
 |[]=>[]
 |n::r=>enc n::HF r
end
theorem SV:∀l:List U,HF l=l.map enc
 |[]=>rfl
 |n::r=>by simp only[HF,avc];rw[SV r]
def az(n:U):D:=.agg [.N n.name,u n.kind,.N n.cU,.N n.target,u n.cu,u n.n2,u n.n3,u n.n4,u n.n5,u n.n6,.T .none 12 (n.F.map enc),.T .none 2 (n.bD.map cW)]
theorem qK(n:U):enc n=az n:=by cases n with|mk a b c d e f g h i j ae ch=>simp only[enc,az,SV]
variable{B:World}{rQ:Type}
section Mi
variable{a b:List α}{i:Nat}
theorem BO(f:α->rQ)(h:i<a.length):(a.map f)[i]?=some (f a[i]):=by simp[h]
end Mi
theorem adr{p x:auM}(h:p.length<=x.length):(x.take p.length==p)=p.isPrefixOf x:=by rw[axp,awm,List.isPrefixOf_iff_prefix,List.prefix_iff_eq_take];exact eq_comm
theorem ads{p x:auM}(h:x.length<p.length):p.isPrefixOf x=false:=by rw[axs,ne_eq,List.isPrefixOf_iff_prefix];intro bt;have:=bt.length_le;omega
theorem adt(x p:auM):(bif decide ((p.length:Int)<=x.length)then(x.take (p.length:Int).toNat).drop (Int.toNat 0)==p else false)=p.isPrefixOf x:=by by_cases h:p.length<=x.length;(have bt:(p.length:Int)<=x.length:=by omega);simp only[bt,decide_true,awo,avq];rw[show Int.toNat 0=0 from rfl,List.drop_zero,adr h];(have bt:¬(p.length:Int)<=x.length:=by omega);simp only[bt,decide_false,avZ];rw[ads auD]
theorem adu(x p:auM):aT B 153 [.N x,.N p] (.bool (p.isPrefixOf x)):=by refine bB Tryz.func153 Tryz.ntmps153 λW=>?_;apply b1;apply b1;apply g';refine hd ?_;refine⟨λh=>by simp at h⊢;omega,?_⟩;refine no ?_;refine hz ?_;exact ap.of_eq (auP D.bool (adt x p))
theorem adv(x p:auM):aT B 103 [.N x,.N p] (.bool (p.isPrefixOf x)):=by refine bB Tryz.func103 Tryz.ntmps103 λW=>?_;refine pl ?_;refine⟨_,_,λ_=>adu x p,an,?_⟩;refine hz ?_;exact E
theorem SX(c:UInt8)(n:Nat)(h:n<256):((c.toNat:Int)==(n:Int))=(c==UInt8.ofNat n):=by rw[axp];simp only[awm];constructor;intro h1;apply UInt8.toNat.inj;simp;omega;intro h1;subst h1;simp;omega
def fh(p:α->Bool)(l:List α):Int:=match l.findIdx? p with|some i=>i|none=>-1
variable{i:Nat}
theorem zP{p:α->Bool}{l:List α}(hi:i<l.length)(aw:∀j (h:j<l.length),j<i->p l[j]=false)(h:p l[i]=true):fh p l=i:=by have:l.findIdx? p=some i:=awz.2 ⟨hi,h,λj ad=>by simp[aw j auD ad]⟩;rw[fh,this]
theorem zQ{p:α->Bool}{l:List α}(aw:∀j (h:j<l.length),p l[j]=false):fh p l=-1:=by(have:l.findIdx? p=none:=awR.2 λx J=>by obtain⟨j,ad,rfl⟩:=avm.1 J;exact aw j ad);rw[fh,this]
theorem Mj(p:α->Bool)(l:List α):decide (0<=fh p l)=l.any p:=by unfold fh;split;rename_i i h;obtain⟨hi,h1,_⟩:=awz.1 h;have:l.any p=true:=av'.2 ⟨l[i],auT hi,h1⟩;rw[this];simp;rename_i h;(have:l.any p=false:=by rw[axs];intro A;obtain⟨x,J,Bp⟩:=av'.1 A;have:=awR.1 h x J;simp_all);rw[this];simp
variable{v:Value}{dK k e:Nat}
theorem jq{n:Nat}(h:n=dK):some (aJ.own v n k e)=some (aJ.own v dK k e):=by rw[h]
variable{bp:Nat}{xs bl:List D}
theorem ap.i'{s:Nat}(h:xs=bl):ap (.T (.own s v) k xs) (.T (.own bp v) k bl):=h ▸ ap.own s bp
section fE
variable{l:List α}
end fE
end Go.bV.ct

namespace Go.bV
open Go Go.RowKit
variable{P:Program}{B:World}{al:Nat}{ops:Array Oper}{α:Type}
def fP(g:Nat->Bool)(l:List Edge)(i:Nat):Nat->Bool:=λj=>_root_.cond (Nat.beq j i) false (wN g l j)
theorem Y.scope{W:b5 P B al}{z:av}{K:cM->av->Prop}{c:Code}(h:Y W c z K):Y W (.scope c) z K :=
 ⟨λa w C M=>wp_scope_straight (wp_mono (h.run a w C M) λe bv w' cA=>by
  obtain⟨c9,aA,aW,aq,hK,bK⟩:=cA;subst aq
  cases c9<;>exact⟨_,aA,aW,rfl,hK,bK⟩)⟩
end Go.bV
