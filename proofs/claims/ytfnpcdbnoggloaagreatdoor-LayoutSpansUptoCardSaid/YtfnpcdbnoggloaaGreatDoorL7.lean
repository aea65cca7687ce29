/- A program logic of my own over the model, and contracts of this program's functions by it: part 7. No conditions of its own: each theorem states its own. -/
import Derived.Test.YtfnpcdbnoggloaaGreatDoorL6
import Derived.Ground.GgzProg
import Derived.Shelf.SlLaysZ
import Derived.Shelf.Lay
import Derived.Test.YtfnpcdbnoggloaaGreatDoorShelf
import Derived.Shelf.Sort.Plain
import Derived.Shelf.GgSortFunc.Insertion
set_option linter.unnecessarySimpa false
set_option linter.unusedSimpArgs false
set_option linter.unusedVariables false
set_option maxRecDepth 100000
set_option maxHeartbeats 16000000
namespace Go.Tame.V
open Go Go.Proofs
variable {W0:World}
def idxF {S A:Type} (f:S→Int→A→S) (s:S) (l:List A):S:=(l.foldl (fun (q:S×Int) a=>(f q.1 q.2 a,q.2+1)) (s,0)).1
theorem idxF_snd {S A:Type} (f:S→Int→A→S) (s:S):∀ (l:List A) (k:Int),(l.foldl (fun (q:S×Int) a=>(f q.1 q.2 a,q.2+1)) (s,k)).2=k+(l.length:Nat)
 | [],k=>by simp
 | a::r,k=>by rw [List.foldl_cons,idxF_snd f _ r,List.length_cons]; omega
theorem idxF_next {S A:Type} (f:S→Int→A→S) (s:S) {l:List A} {i:Nat} (h:i<l.length):idxF f s (l.take (i+1))=f (idxF f s (l.take i)) (i:Nat) l[i]:=by
 have h2:=idxF_snd f s (l.take i) 0
 rw [List.length_take,Nat.min_eq_left (by omega),Int.zero_add] at h2;rw [idxF,idxF,List.take_succ_eq_append_getElem h,List.foldl_append];simp only [List.foldl_cons,List.foldl_nil,h2]
def cont (m:NV):Int:=if m.kind=1 then 0 else lenV m
def strF (i:Int) (s:OS) (l:List SV):OS:=idxF (fun s k x=>putV s 2 i k (x.target.length:Nat)) s l
def nodeF (s:OS) (i:Int) (m:NV):OS:=if 0<m.streams.length then strF i (putV (putV s 0 i 0 (cont m)) 1 i 0 0) m.streams else putV s 0 i 0 (cont m)
def outF (l:List NV):OS:=idxF nodeF ⟨[],0⟩ l
structure OGood (s:OS) (n:Nat):Prop where
 len:s.items.length≤n
 c0:0≤s.count
 c1:s.count≤(s.items.length:Nat)*1000000001
theorem OGood.put {s:OS} {n:Nat} (h:OGood s n) {a b c d:Int} (h0:0≤d) (h1:d<1000000000000):OGood (putV s a b c d) (n+1):=by
 have:=outerV_r h0 h1
 obtain ⟨g1,g2,g3⟩:=h;refine ⟨?_,?_,?_⟩
 ·simp only [putV,List.length_append,List.length_cons,List.length_nil]; omega
 ·simp only [putV]; omega
 simp only [putV,List.length_append,List.length_cons,List.length_nil]; omega
def costL:List NV→Nat
 | []=>0
 | n::r=>2+n.streams.length+costL r
theorem costL_app:∀ a b:List NV,costL (a++b)=costL a+costL b
 | [],b=>by simp [costL]
 | n::r,b=>by simp only [List.cons_append,costL,costL_app r b]; omega
mutual
theorem costN:∀ n:NV,costL (preN n)≤sz n
 | .mk a b c d e f g h i j ks ss=>by
  have h1:=costK ks
  have h2:=szS_len ss
  simp only [preN,costL,sz]; omega
theorem costK:∀ l:List NV,costL (preK l)≤szL l
 | []=>by simp [preK,costL]
 | n::r=>by
  have h1:=costN n
  have h2:=costK r
  simp only [preK,costL_app,szL]; omega
end
mutual
theorem pre_sz:∀ n:NV,∀ m∈preN n,sz m≤sz n
 | .mk a b c d e f g h i j ks ss,m,hm=>by
  simp only [preN,List.mem_cons] at hm
  rcases hm with rfl|hm
  ·exact Nat.le_refl _
  have:=pre_szK ks m hm
  simp only [sz]; omega
theorem pre_szK:∀ l:List NV,∀ m∈preK l,sz m≤szL l
 | [],m,hm=>by simp [preK] at hm
 | n::r,m,hm=>by
  simp only [preK,List.mem_append] at hm
  rcases hm with hm|hm
  ·have:=pre_sz n m hm; simp only [szL]; omega
  have:=pre_szK r m hm; simp only [szL]; omega
end
theorem strF_good {s:OS} {n:Nat} (h:OGood s n) (i:Int) {l:List SV} (hl:∀ x∈l,(x.target.length:Int)<1000000000000):∀ k,k≤l.length→OGood (strF i s (l.take k)) (n+k)
 | 0,_=>h
 | k+1,hk=>by
  rw [strF,idxF_next _ _ (show k<l.length by omega)];exact (strF_good h i hl k (by omega)).put (by omega) (hl _ (List.getElem_mem _))
theorem cont_r (m:NV) (hm:sz m<1000000):0≤cont m∧cont m<1000000000000:=by
 have h1:=sz_eq m
 have h2:=szL_len m.kids
 have:=lenV_r m (by omega) (by omega)
 unfold cont; split<;>omega
theorem stream_sz {m:NV} (hm:sz m<1000000):∀ x∈m.streams,(x.target.length:Int)<1000000000000:=fun x hx=>by
 obtain ⟨k,hk,rfl⟩:=List.mem_iff_getElem.1 hx
 have h1:=szS_get hk
 have h2:=sz_eq m
 omega
theorem node_good {s:OS} {n:Nat} (h:OGood s n) (i:Int) {m:NV} (hm:sz m<1000000):OGood (nodeF s i m) (n+2+m.streams.length):=by
 have hc:=cont_r m hm
 have h1:=h.put (a:=0) (b:=i) (c:=0) hc.1 hc.2
 have h2:=h1.put (a:=1) (b:=i) (c:=0) (d:=0) (by decide) (by decide)
 unfold nodeF; split
 ·have:=strF_good h2 i (stream_sz hm) m.streams.length (Nat.le_refl _)
  rw [List.take_length] at this;exact this
 exact ⟨by have:=h1.len; omega,h1.c0,h1.c1⟩
theorem outF_good {l:List NV} (hl:∀ m∈l,sz m<1000000):∀ k,k≤l.length→OGood (outF (l.take k)) (costL (l.take k))
 | 0,_=>⟨Nat.le_refl _,Int.le_refl _,by show (0:Int)≤_; simp [outF,idxF]⟩
 | k+1,hk=>by
  have hk':k<l.length:=by omega
  rw [outF,idxF_next _ _ hk',List.take_succ_eq_append_getElem hk',costL_app]
  have:=node_good (outF_good hl k (by omega)) (k:Nat) (hl _ (List.getElem_mem hk'))
  exact ⟨Nat.le_trans this.len (by simp only [costL]; omega),this.c0,this.c1⟩
def outHR (bo:Nat) (nv iv:Value) (s:OS) (xs:List D):List (Nat×HObj):=[(210,.box bo [.raw nv,.sl (.own 211 iv) 5 (s.items.map encIT),Iv s.count]),(211,.own iv s.items.length 5 358),(203,.row nv xs 16 296)]
theorem H140 (hL:LibOk W0) (n V:NV) (hview:DFun Tryz.prog W0 208 [Iv 3,encTop n] (.tup [encTop V,Iv 0])) (hV:sz V<1000000):DCall Tryz.prog W0 140 [encTop n] Heap.none fun d H'=>∃ bo nv iv,d=.box 210 bo 0∧H'=look (outH bo nv iv (outF (preN V))):=by
 refine DCall.intro ti_ok Tryz.func140 rfl (by decide +kernel) Tryz.ntmps140 rfl fun Γ=>?_
 apply Sr;(conv=>whnf);intro b1;apply Sq;refine Tri.regionG ti_ok ?_;apply Tj;apply Rl;apply Tj;(conv=>whnf);refine ⟨[Iv 3,encTop n],_,fun _=>hview,Z,?_⟩;apply Tj;apply Tj;apply Tj;apply Tj;(conv=>whnf);intro b3;apply Tj;apply Rl;apply Tj;(conv=>whnf);refine Tri.forgetK [(3,.box 3 b3 0)] [(3,.box b3 (encTop V).cells)] [(3,3)] (by exact ⟨Z,rfl,Y⟩) ?_;apply Sq;refine Tri.regionG ti_ok ?_;apply Tj;apply Tj;(conv=>whnf);intro b17;apply Tj;(conv=>whnf);refine Tri.forgetK [(3,.box 3 b3 0),(5,.box 17 b17 0)] [(3,.box b3 (encTop V).cells),(17,.box b17 [.nils,.nils,Iv 0])] [(3,3),(17,17)] (by exact ⟨Z,rfl,Y⟩) ?_;(conv=>whnf);refine Tri.rowNil 203 16 296 ?_;refine Tri.boxLe 17 (cs':=[.raw (.slice none 0 0),.nils,Iv 0]) rfl ⟨DLe.nilRaw,.refl _,.refl _,trivial⟩ ?_;apply Sq;refine Tri.regionG ti_ok ?_;apply Tj;apply Tj;apply Rl;apply Tl
 refine XOp.call rfl [.box 210 b17 0,encTop V,.str [],Iv 0] [(210,17),(203,203)] (DCall.heapL (by exact ⟨rfl,Y⟩) (H209 b17 (sz V+1) V [] 0 [] (.slice none 0 0) (by omega) (by simp; omega) (by simp; omega) (fun x hx=>by cases hx))) rfl ⟨DLe.box,.refl _,.refl _,.refl _,trivial⟩ ?_
 rintro d H' ⟨rfl,aa,pn,pc,rfl⟩;refine ⟨_,.refl _,?_⟩;(conv=>whnf);refine Tri.forgetK [(5,.box 17 b17 0)] [(17,.box b17 [.raw (.slice aa pn pc),.nils,Iv 0]),(203,.row (.slice aa pn pc) ((preN V).map entA) 16 296)] [(17,17),(203,203)] (by exact ⟨Z,rfl,Y⟩) ?_;(conv=>whnf);refine Tri.forgetK [(5,.box 210 b17 0)] [(210,.box b17 [.raw (.slice aa pn pc),.nils,Iv 0]),(203,.row (.slice aa pn pc) ((preN V).map entA) 16 296)] [(210,17),(203,203)] (by exact ⟨⟨DLe.box,trivial⟩,rfl,Y⟩) ?_;refine Tri.ownNil 211 5 358 ?_;refine Tri.boxLe 210 (cs':=[.raw (.slice aa pn pc),.sl (.own 211 (.slice none 0 0)) 5 [],Iv 0]) rfl ⟨.refl _,DLe.nilOwn,.refl _,trivial⟩ ?_
 have hPs:∀ m∈preN V,sz m<1000000:=fun m hm=>Nat.lt_of_le_of_lt (pre_sz V m hm) hV
 have hPc:=costN V
 have hPl:=preN_len V
 have hPx:∀ x∈(preN V).map entA,x.cells.length=16:=entA_cells _
 generalize preN V=P at *;refine Tri.rowKnow0 203 rfl (fun a4 c4 hv4 _ _=>?_)
 obtain ⟨rfl,rfl,rfl⟩:aa=a4∧pn=(P.map entA).length∧pc=c4:=by simpa using hv4
 apply S2;refine Tri.regionG ti_ok ?_;apply Tj;apply Tj;apply Tj;apply Tj;apply Rl;apply Tj;apply Tj;(conv=>whnf);refine Tri.forgetK [(5,.box 210 b17 0),(25,Iv ((P.map entA).length:Nat)),(26,Iv 0)] [(210,.box b17 [.raw (.slice aa (P.map entA).length pc),.sl (.own 211 (.slice none 0 0)) 5 [],Iv 0]),(211,.own (.slice none 0 0) 0 5 358),(203,.row (.slice aa (P.map entA).length pc) (P.map entA) 16 296)] [(210,210),(211,211),(203,203)] (by exact ⟨Z,rfl,Y⟩) ?_;apply Bk
 refine Tri.loopK (α:={ i:Nat // i≤P.length }×Value) (fun x=>[(5,.box 210 b17 0),(25,Iv ((P.map entA).length:Nat)),(26,Iv (x.1.1:Nat))])
  (fun x=>outHR b17 (.slice aa (P.map entA).length pc) x.2 (outF (P.take x.1.1)) (P.map entA)) (fun x=>P.length-x.1.1) (⟨0,by omega⟩,.slice none 0 0) [(210,210),(211,211),(203,203)]
  ⟨Z,rfl,Y⟩ ?_
 rintro ⟨⟨i,hi⟩,iv⟩;dsimp only at hi ⊢;apply Sr;apply Sq;refine Cd (decide ((i:Int)<((P.map entA).length:Nat))) rfl (fun hc=>?_) (fun hc=>?_)
 ·apply Sk
  have hia:i<P.length:=by simpa using hc
  have hgd:=outF_good hPs i (by omega)
  have hnx:outF (P.take (i+1))=nodeF (outF (P.take i)) (i:Nat) P[i]:=idxF_next _ _ hia
  have hms:=hPs _ (List.getElem_mem hia)
  have hcl:costL (P.take i)+2+P[i].streams.length≤costL P:=by
   have h1:=costL_app (P.take (i+1)) (P.drop (i+1))
   rw [List.take_append_drop,List.take_succ_eq_append_getElem hia,costL_app] at h1
   simp only [costL] at h1; omega
  have hge:(P.map entA)[i]? = some (entA P[i]):=by simp [hia]
  have hlt:i<(P.map entA).length:=by simpa using hia
  have hsz:=sz_eq P[i]
  have hkl:=szL_len P[i].kids
  have hss:=szS_len P[i].streams
  have hkn:∀ k∈P[i].kids,k.name.length<1000000000:=fun k hk=>by
   obtain ⟨j,hj,rfl⟩:=List.mem_iff_getElem.1 hk
   have:=szL_get hj; omega
  have hgl:=hgd.len
  have hg0:=hgd.c0
  have hg1:=hgd.c1
  generalize hS:outF (P.take i)=s at *;generalize hM:P[i]=m at *;apply Sq;apply Bk;apply Sq;refine Tri.regionG ti_ok ?_;apply Tj;apply Tj;(conv=>whnf);refine Tri.forgetK [(5,.box 210 b17 0),(6,Iv (i:Nat)),(25,Iv ((P.map entA).length:Nat)),(26,Iv (i:Nat))] [(210,.box b17 [.raw (.slice aa (P.map entA).length pc),.sl (.own 211 iv) 5 (s.items.map encIT),Iv s.count]),(211,.own iv s.items.length 5 358),(203,.row (.slice aa (P.map entA).length pc) (P.map entA) 16 296)] [(210,210),(211,211),(203,203)] (by exact ⟨Z,rfl,Y⟩) ?_;apply Sq;refine Tri.regionG ti_ok ?_;apply Tj;apply Tj;apply Tj;apply Tj;apply Rl;apply Tj;apply Tl;refine XOp.rowIndex ti_ok 203 rfl rfl rfl rfl rfl rfl rfl (by omega) (Int.ofNat_lt.2 hlt) ?_;apply Tl;refine XOp.rowField ti_ok 203 (i:=i) rfl rfl hlt rfl rfl rfl (by decide) ?_;apply Tl
  refine XOp.rowLoadF ti_ok 203 (i:=i) (j:=0) (by rw [Int.toNat_natCast]; rfl) rfl rfl hge ?_
  apply Tj;(conv=>whnf);intro b7;apply Tj;apply Rl;(conv=>whnf);refine Tri.forgetK [(5,.box 210 b17 0),(6,Iv (i:Nat)),(7,.box 7 b7 0),(25,Iv ((P.map entA).length:Nat)),(26,Iv (i:Nat))] [(210,.box b17 [.raw (.slice aa (P.map entA).length pc),.sl (.own 211 iv) 5 (s.items.map encIT),Iv s.count]),(211,.own iv s.items.length 5 358),(203,.row (.slice aa (P.map entA).length pc) (P.map entA) 16 296),(7,.box b7 (encTop m).cells)] [(210,210),(211,211),(203,203),(7,7)] (by exact ⟨Z,rfl,Y⟩) ?_;apply Sq
  refine Tri.bitsG ti_ok mixed (α:=Unit) (fun _ f=>[(5,.box 210 b17 0),(25,Iv ((P.map entA).length:Nat)),(26,Iv (i:Nat)),(6,Iv (i:Nat)),(7,.box 7 b7 0),(37,bif f 0 then .box 210 b17 0 else .any),(38,bif f 1 then .box 210 b17 0 else .any),(39,bif f 2 then .box 210 b17 0 else .any),(40,bif f 3 then .raw (.slice aa (P.map entA).length pc) else .any),(41,bif f 4 then Iv (i:Nat) else .any),(42,bif f 5 then .box 210 b17 0 else .any),(43,bif f 6 then .box 210 b17 0 else .any),(44,bif f 7 then .box 210 b17 1 else .any),(45,bif f 8 then .sl (.own 211 iv) 5 (s.items.map encIT) else .any),(46,bif f 9 then Iv ((s.items.map encIT).length:Nat) else .any),(47,bif f 10 then .raw (rowPtr (.slice aa (P.map entA).length pc) (((i:Nat):Int).toNat*16)) else .any),(48,bif f 11 then .raw (rowPtr (.slice aa (P.map entA).length pc) (((i:Nat):Int).toNat*16+15)) else .any)])
   (fun _ f=>look ([(210,.box b17 [.raw (.slice aa (P.map entA).length pc),.sl (.own 211 iv) 5 (s.items.map encIT),Iv s.count]),(211,.own iv s.items.length 5 358),(7,.box b7 (encTop m).cells)]++(bif f 12 then [(203,.row (.slice aa (P.map entA).length pc) ((P.map entA).set i (D.agg [.str m.name,Iv m.kind,.str m.text,.str m.target,Iv m.n1,Iv m.n2,Iv m.n3,Iv m.n4,Iv m.n5,Iv m.n6,.sl .none 12 (m.kids.map enc),.sl .none 2 (m.streams.map encS),.any,.any,.any,Iv ((s.items.map encIT).length:Nat)])) 16 296)] else [(203,.row (.slice aa (P.map entA).length pc) (P.map entA) 16 296)]))) (by decide +kernel) () ?_ ?_ ?_ ?_
  ·exact ⟨.refl _,.refl _,.refl _,.refl _,.refl _,.any _,.any _,.any _,.any _,.any _,.any _,.any _,.any _,.any _,.any _,.any _,.any _,trivial⟩
  ·exact SubHF.of (hs:=[(210,.box b17 [.raw (.slice aa (P.map entA).length pc),.sl (.own 211 iv) 5 (s.items.map encIT),Iv s.count]),(211,.own iv s.items.length 5 358),(7,.box b7 (encTop m).cells),(203,.row (.slice aa (P.map entA).length pc) (P.map entA) 16 296)]) ⟨rfl,Y⟩
  ·(conv=>whnf);refine Qo ?_;refine Qo ?_;refine Qo ?_;refine ⟨fun _ f hI=>?_,?_⟩
   ·obtain ⟨f,rfl⟩:= hI.o f 12 3;apply Ti;apply Rl;(conv=>whnf);exact Ex ()
   refine Qo ?_;refine Qo ?_;refine Qo ?_;refine Qo ?_;refine ⟨fun _ f hI=>?_,?_⟩
   ·obtain ⟨f,rfl⟩:= hI.o f 12 8;apply Ti;apply Rl;(conv=>whnf);exact Ex ()
   refine Qo ?_;refine ⟨fun _ f hI=>?_,?_⟩
   ·obtain ⟨f,rfl⟩:= hI.o f 12 11 (hI.n 11 10);apply Tk;refine XOp.rowIndex ti_ok 203 rfl rfl rfl rfl rfl rfl rfl (by omega) (Int.ofNat_lt.2 hlt) ?_;(conv=>whnf);exact Ex ()
   refine ⟨fun _ f hI=>?_,?_⟩
   ·obtain ⟨f,rfl⟩:= hI.o f 12 11;apply Tk;refine XOp.rowField ti_ok 203 (i:=i) rfl rfl hlt rfl rfl rfl (by decide) ?_;(conv=>whnf);exact Ex ()
   refine ⟨fun _ f hI=>?_,?_⟩
   ·(conv=>whnf);apply Tk
    refine XOp.rowStoreF ti_ok 203 (i:=i) (j:=15) (by rw [Int.toNat_natCast]; rfl) rfl rfl rfl hge (by decide) rfl ?_
    (conv=>whnf);exact Ex () (SubHF.of (hs:=[(210,.box b17 [.raw (.slice aa (P.map entA).length pc),.sl (.own 211 iv) 5 (s.items.map encIT),Iv s.count]),(211,.own iv s.items.length 5 358),(7,.box b7 (encTop m).cells),(203,.row (.slice aa (P.map entA).length pc) ((P.map entA).set i (D.agg [.str m.name,Iv m.kind,.str m.text,.str m.target,Iv m.n1,Iv m.n2,Iv m.n3,Iv m.n4,Iv m.n5,Iv m.n6,.sl .none 12 (m.kids.map enc),.sl .none 2 (m.streams.map encS),.any,.any,.any,Iv ((s.items.map encIT).length:Nat)])) 16 296)]) (by exact ⟨rfl,Y⟩))
   exact trivial
  intro _ f hfl;obtain ⟨f,rfl⟩:=onAll f 13 (by exact hfl);clear hfl;(conv=>whnf);refine Tri.forgetG [(5,.box 210 b17 0),(6,Iv (i:Nat)),(7,.box 7 b7 0),(25,Iv ((P.map entA).length:Nat)),(26,Iv (i:Nat))] (look [(210,.box b17 [.raw (.slice aa (P.map entA).length pc),.sl (.own 211 iv) 5 (s.items.map encIT),Iv s.count]),(211,.own iv s.items.length 5 358),(7,.box b7 (encTop m).cells),(203,.row (.slice aa (P.map entA).length pc) ((P.map entA).set i (D.agg [.str m.name,Iv m.kind,.str m.text,.str m.target,Iv m.n1,Iv m.n2,Iv m.n3,Iv m.n4,Iv m.n5,Iv m.n6,.sl .none 12 (m.kids.map enc),.sl .none 2 (m.streams.map encS),.any,.any,.any,Iv ((s.items.map encIT).length:Nat)])) 16 296)]) (.same (by exact Z) (SubHF.of (hs:=[(210,.box b17 [.raw (.slice aa (P.map entA).length pc),.sl (.own 211 iv) 5 (s.items.map encIT),Iv s.count]),(211,.own iv s.items.length 5 358),(7,.box b7 (encTop m).cells),(203,.row (.slice aa (P.map entA).length pc) ((P.map entA).set i (D.agg [.str m.name,Iv m.kind,.str m.text,.str m.target,Iv m.n1,Iv m.n2,Iv m.n3,Iv m.n4,Iv m.n5,Iv m.n6,.sl .none 12 (m.kids.map enc),.sl .none 2 (m.streams.map encS),.any,.any,.any,Iv ((s.items.map encIT).length:Nat)])) 16 296)]) (by exact ⟨rfl,Y⟩))) ?_;(conv=>whnf)
  refine Tri.rowLe 203 (ys:=P.map entA) rfl (by simp) hPx (by
   have e:P.map entA=(P.map entA).set i (entA m):=by
    apply List.ext_getElem?;intro j
    by_cases h:i=j
    ·subst h; rw [hge,List.getElem?_set_self hlt]
    rw [List.getElem?_set_ne h]
   conv=>rhs; rw [e]
   exact LeL.flat (by simp) fun j x y hx hy=>by
    by_cases hj:i=j
    ·subst hj;rw [List.getElem?_set_self hlt] at hx hy
     cases hx; cases hy
     exact ⟨.refl _,.refl _,.refl _,.refl _,.refl _,.refl _,.refl _,.refl _,.refl _,.refl _,.refl _,.refl _,.any _,.any _,.any _,.any _,trivial⟩
    rw [List.getElem?_set_ne hj] at hx hy
    rw [hx] at hy; cases hy; exact LeL.refl _) ?_
  apply Sq;refine Tri.regionG ti_ok ?_;apply Tj;(conv=>whnf);refine Tri.forgetK [(5,.box 210 b17 0),(6,Iv (i:Nat)),(7,.box 7 b7 0),(8,Iv 0),(25,Iv ((P.map entA).length:Nat)),(26,Iv (i:Nat))] [(210,.box b17 [.raw (.slice aa (P.map entA).length pc),.sl (.own 211 iv) 5 (s.items.map encIT),Iv s.count]),(211,.own iv s.items.length 5 358),(203,.row (.slice aa (P.map entA).length pc) (P.map entA) 16 296),(7,.box b7 (encTop m).cells)] [(210,210),(211,211),(203,203),(7,7)] (by exact ⟨Z,rfl,Y⟩) ?_;(conv=>whnf);refine Tri.joinK (α:=Unit) (fun x=>[(5,.box 210 b17 0),(6,Iv (i:Nat)),(7,.box 7 b7 0),(25,Iv ((P.map entA).length:Nat)),(26,Iv (i:Nat)),(8,Iv (cont m))]) (fun x=>[(210,.box b17 [.raw (.slice aa (P.map entA).length pc),.sl (.own 211 iv) 5 (s.items.map encIT),Iv s.count]),(211,.own iv s.items.length 5 358),(203,.row (.slice aa (P.map entA).length pc) (P.map entA) 16 296),(7,.box b7 (encTop m).cells)]) ?_ ?_
  ·apply Sq;refine Tri.regionG ti_ok ?_;apply Tj;apply Tj;apply Rl;apply Tj;(conv=>whnf);refine Tri.forgetK [(5,.box 210 b17 0),(6,Iv (i:Nat)),(7,.box 7 b7 0),(8,Iv 0),(25,Iv ((P.map entA).length:Nat)),(26,Iv (i:Nat)),(51,.bool ((m.kind:Int)!=(1:Int)))] [(210,.box b17 [.raw (.slice aa (P.map entA).length pc),.sl (.own 211 iv) 5 (s.items.map encIT),Iv s.count]),(211,.own iv s.items.length 5 358),(203,.row (.slice aa (P.map entA).length pc) (P.map entA) 16 296),(7,.box b7 (encTop m).cells)] [(210,210),(211,211),(203,203),(7,7)] (by exact ⟨Z,rfl,Y⟩) ?_;refine Cd (m.kind !=1) rfl (fun hc2=>?_) (fun hc2=>?_)
   ·refine Tri.regionG ti_ok ?_;apply Tj;apply Rl;apply Tj;(conv=>whnf);refine ⟨[encTop m],_,fun _=>H210 hL m (by omega) (by omega) hkn,Z,?_⟩;apply Tj;(conv=>whnf);exact ⟨(),[(210,210),(211,211),(203,203),(7,7)],⟨.refl _,.refl _,.refl _,.refl _,.refl _,DLe.of_eq (congrArg (D.int .i64) (by rw [cont,if_neg (by simpa using hc2)])),trivial⟩,rfl,Y⟩
   apply Sk;(conv=>whnf);exact ⟨(),[(210,210),(211,211),(203,203),(7,7)],⟨.refl _,.refl _,.refl _,.refl _,.refl _,DLe.of_eq (congrArg (D.int .i64) (by rw [cont,if_pos (by simpa using hc2)])),trivial⟩,rfl,Y⟩
  rintro ⟨⟩
  have hcr:=cont_r m hms
  have hp1:=hgd.put (a:=0) (b:=(i:Nat)) (c:=0) hcr.1 hcr.2
  have hl1:=hp1.len
  have hl2:=hp1.c0
  have hl3:=hp1.c1
  apply Sq;refine Tri.regionG ti_ok ?_;apply Tj;apply Tj;apply Tj;apply Tl;refine XOp.call rfl [.box 210 b17 0,Iv 0,Iv (i:Nat),Iv 0,Iv (cont m)] [(210,210),(211,211)] (DCall.heapL (by exact ⟨rfl,Y⟩) (H211 b17 (.slice aa (P.map entA).length pc) iv s 0 (i:Nat) 0 (cont m) hcr.1 hcr.2 (by omega) (by omega) (by omega))) rfl Z ?_;rintro d H' ⟨rfl,v57,rfl⟩;refine ⟨_,.refl _,?_⟩;(conv=>whnf);refine Tri.forgetK [(5,.box 210 b17 0),(6,Iv (i:Nat)),(7,.box 7 b7 0),(25,Iv ((P.map entA).length:Nat)),(26,Iv (i:Nat))] [(210,.box b17 [.raw (.slice aa (P.map entA).length pc),.sl (.own 211 v57) 5 ((putV s 0 (i:Nat) 0 (cont m)).items.map encIT),Iv (putV s 0 (i:Nat) 0 (cont m)).count]),(211,.own v57 (putV s 0 (i:Nat) 0 (cont m)).items.length 5 358),(203,.row (.slice aa (P.map entA).length pc) (P.map entA) 16 296),(7,.box b7 (encTop m).cells)] [(210,210),(211,211),(203,203),(7,7)] (by exact ⟨Z,rfl,Y⟩) ?_;apply Sq;refine Tri.regionG ti_ok ?_;apply Tj;apply Tj;apply Rl;apply Tj;apply Tj;(conv=>whnf);refine Tri.forgetK [(5,.box 210 b17 0),(6,Iv (i:Nat)),(7,.box 7 b7 0),(25,Iv ((P.map entA).length:Nat)),(26,Iv (i:Nat)),(61,.bool (decide ((0:Int)<(((m.streams.map encS).length:Nat):Int))))] [(210,.box b17 [.raw (.slice aa (P.map entA).length pc),.sl (.own 211 v57) 5 ((putV s 0 (i:Nat) 0 (cont m)).items.map encIT),Iv (putV s 0 (i:Nat) 0 (cont m)).count]),(211,.own v57 (putV s 0 (i:Nat) 0 (cont m)).items.length 5 358),(203,.row (.slice aa (P.map entA).length pc) (P.map entA) 16 296),(7,.box b7 (encTop m).cells)] [(210,210),(211,211),(203,203),(7,7)] (by exact ⟨Z,rfl,Y⟩) ?_
  refine Cd (decide ((0:Int)<((m.streams.map encS).length:Nat))) rfl (fun hc3=>?_) (fun hc3=>?_)
  ·have hp2:=hp1.put (a:=1) (b:=(i:Nat)) (c:=0) (d:=0) (by decide) (by decide)
   have hps:=strF_good hp2 (i:Nat) (stream_sz hms)
   have hnd:nodeF s (i:Nat) m=strF (i:Nat) (putV (putV s 0 (i:Nat) 0 (cont m)) 1 (i:Nat) 0 0) m.streams:=if_pos (by simpa using hc3)
   apply Sq;refine Tri.regionG ti_ok ?_;apply Tj;apply Tj;apply Tl;refine XOp.call rfl [.box 210 b17 0,Iv 1,Iv (i:Nat),Iv 0,Iv 0] [(210,210),(211,211)] (DCall.heapL (by exact ⟨rfl,Y⟩) (H211 b17 (.slice aa (P.map entA).length pc) v57 (putV s 0 (i:Nat) 0 (cont m)) 1 (i:Nat) 0 0 (by decide) (by decide) (by omega) (by omega) (by omega))) rfl Z ?_;rintro d H' ⟨rfl,v64,rfl⟩;refine ⟨_,.refl _,?_⟩;(conv=>whnf);refine Tri.forgetK [(5,.box 210 b17 0),(6,Iv (i:Nat)),(7,.box 7 b7 0),(25,Iv ((P.map entA).length:Nat)),(26,Iv (i:Nat))] [(210,.box b17 [.raw (.slice aa (P.map entA).length pc),.sl (.own 211 v64) 5 ((putV (putV s 0 (i:Nat) 0 (cont m)) 1 (i:Nat) 0 0).items.map encIT),Iv (putV (putV s 0 (i:Nat) 0 (cont m)) 1 (i:Nat) 0 0).count]),(211,.own v64 (putV (putV s 0 (i:Nat) 0 (cont m)) 1 (i:Nat) 0 0).items.length 5 358),(203,.row (.slice aa (P.map entA).length pc) (P.map entA) 16 296),(7,.box b7 (encTop m).cells)] [(210,210),(211,211),(203,203),(7,7)] (by exact ⟨Z,rfl,Y⟩) ?_;apply Sq;refine Tri.regionG ti_ok ?_;apply Tj;apply Tj;apply Rl;apply Tj;apply Tj;(conv=>whnf);refine Tri.forgetK [(5,.box 210 b17 0),(6,Iv (i:Nat)),(25,Iv ((P.map entA).length:Nat)),(26,Iv (i:Nat)),(66,.sl .none 2 (m.streams.map encS)),(67,Iv ((m.streams.map encS).length:Nat)),(68,Iv 0)] [(210,.box b17 [.raw (.slice aa (P.map entA).length pc),.sl (.own 211 v64) 5 ((putV (putV s 0 (i:Nat) 0 (cont m)) 1 (i:Nat) 0 0).items.map encIT),Iv (putV (putV s 0 (i:Nat) 0 (cont m)) 1 (i:Nat) 0 0).count]),(211,.own v64 (putV (putV s 0 (i:Nat) 0 (cont m)) 1 (i:Nat) 0 0).items.length 5 358),(203,.row (.slice aa (P.map entA).length pc) (P.map entA) 16 296),(7,.box b7 (encTop m).cells)] [(210,210),(211,211),(203,203),(7,7)] (by exact ⟨Z,rfl,Y⟩) ?_
   apply Bk
   refine Tri.loopK (α:={ k:Nat // k≤m.streams.length }×Value) (fun x=>[(5,.box 210 b17 0),(6,Iv (i:Nat)),(25,Iv ((P.map entA).length:Nat)),(26,Iv (i:Nat)),(66,.sl .none 2 (m.streams.map encS)),(67,Iv ((m.streams.map encS).length:Nat)),(68,Iv (x.1.1:Nat))])
    (fun x=>outHR b17 (.slice aa (P.map entA).length pc) x.2 (strF (i:Nat) (putV (putV s 0 (i:Nat) 0 (cont m)) 1 (i:Nat) 0 0) (m.streams.take x.1.1)) (P.map entA)) (fun x=>m.streams.length-x.1.1) (⟨0,by omega⟩,v64) [(210,210),(211,211),(203,203)]
    ⟨Z,rfl,Y⟩ ?_
   rintro ⟨⟨k,hk⟩,iv2⟩;dsimp only at hk ⊢;apply Sr;apply Sq;refine Cd (decide ((k:Int)<((m.streams.map encS).length:Nat))) rfl (fun hc4=>?_) (fun hc4=>?_)
   ·apply Sk
    have hka:k<m.streams.length:=by simpa using hc4
    have hg4:=hps k hk
    have hsn:strF (i:Nat) (putV (putV s 0 (i:Nat) 0 (cont m)) 1 (i:Nat) 0 0) (m.streams.take (k+1))=_:=idxF_next _ _ hka
    have hsr:=stream_sz hms _ (List.getElem_mem hka)
    have hgs:(m.streams.map encS)[k]? = some (encS m.streams[k]):=by simp [hka]
    have hl4:=hg4.len
    have hl5:=hg4.c0
    have hl6:=hg4.c1
    generalize hT:strF (i:Nat) (putV (putV s 0 (i:Nat) 0 (cont m)) 1 (i:Nat) 0 0) (m.streams.take k)=t at *
    change _=putV (strF (i:Nat) (putV (putV s 0 (i:Nat) 0 (cont m)) 1 (i:Nat) 0 0) (m.streams.take k)) 2 (i:Nat) (k:Nat) (m.streams[k].target.length:Nat) at hsn
    rw [hT] at hsn;generalize m.streams[k]=sv at *;apply Sq;apply Bk;apply Sq;refine Tri.regionG ti_ok ?_;apply Tj;apply Tj;(conv=>whnf)
    refine ⟨fun _=>by rw [List.length_map]; omega,?_⟩
    apply Tj;(conv=>whnf);refine ⟨encS sv,fun _=>hgs,?_⟩;apply Tj;(conv=>whnf);intro b10;apply Tj;apply Tj;apply Rl;(conv=>whnf);refine Tri.forgetK [(5,.box 210 b17 0),(6,Iv (i:Nat)),(25,Iv ((P.map entA).length:Nat)),(26,Iv (i:Nat)),(66,.sl .none 2 (m.streams.map encS)),(67,Iv ((m.streams.map encS).length:Nat)),(68,Iv (k:Nat)),(9,Iv (k:Nat)),(10,.box 10 b10 0)] [(210,.box b17 [.raw (.slice aa (P.map entA).length pc),.sl (.own 211 iv2) 5 (t.items.map encIT),Iv t.count]),(211,.own iv2 t.items.length 5 358),(203,.row (.slice aa (P.map entA).length pc) (P.map entA) 16 296),(10,.box b10 (encS sv).cells)] [(210,210),(211,211),(203,203),(10,10)] (by exact ⟨Z,rfl,Y⟩) ?_;(conv=>whnf);refine Tri.regionG ti_ok ?_;apply Tj;apply Tj;apply Tj;apply Tj;apply Tj;apply Rl;apply Tj;apply Tl;refine XOp.call rfl [.box 210 b17 0,Iv 2,Iv (i:Nat),Iv (k:Nat),Iv (sv.target.length:Nat)] [(210,210),(211,211)] (DCall.heapL (by exact ⟨rfl,Y⟩) (H211 b17 (.slice aa (P.map entA).length pc) iv2 t 2 (i:Nat) (k:Nat) (sv.target.length:Nat) (by omega) hsr (by omega) (by omega) (by omega))) rfl Z ?_;rintro d H' ⟨rfl,v79,rfl⟩;refine ⟨_,.refl _,?_⟩;(conv=>whnf);refine Tri.forgetK [(5,.box 210 b17 0),(6,Iv (i:Nat)),(25,Iv ((P.map entA).length:Nat)),(26,Iv (i:Nat)),(66,.sl .none 2 (m.streams.map encS)),(67,Iv ((m.streams.map encS).length:Nat)),(68,Iv (k:Nat))] [(210,.box b17 [.raw (.slice aa (P.map entA).length pc),.sl (.own 211 v79) 5 ((putV t 2 (i:Nat) (k:Nat) (sv.target.length:Nat)).items.map encIT),Iv (putV t 2 (i:Nat) (k:Nat) (sv.target.length:Nat)).count]),(211,.own v79 (putV t 2 (i:Nat) (k:Nat) (sv.target.length:Nat)).items.length 5 358),(203,.row (.slice aa (P.map entA).length pc) (P.map entA) 16 296),(10,.box b10 (encS sv).cells)] [(210,210),(211,211),(203,203),(10,10)] (by exact ⟨Z,rfl,Y⟩) ?_
    apply Rg;refine Ir ?_;(conv=>whnf)
    exact ⟨(⟨k+1,hka⟩,v79),[(210,210),(211,211),(203,203)],by show m.streams.length-(k+1)<m.streams.length-k; omega,Z,rfl,rfl,(by rw [hsn]; rfl),rfl,(by rw [hsn]; rfl),rfl,Y⟩
   refine Tri.exit ?_
   have hkn:k=m.streams.length:=by simp at hc4; omega
   subst hkn;rw [List.take_length];apply Rg;refine Ir ?_;(conv=>whnf)
   exact ⟨(⟨i+1,hia⟩,iv2),[(210,210),(211,211),(203,203)],by show P.length-(i+1)<P.length-i; omega,Z,rfl,rfl,(by rw [hnx,hnd]; rfl),rfl,(by rw [hnx,hnd]; rfl),rfl,Y⟩
  apply Sk
  have hnd:nodeF s (i:Nat) m=putV s 0 (i:Nat) 0 (cont m):=if_neg (by simpa using hc3)
  apply Rg;refine Ir ?_;(conv=>whnf)
  exact ⟨(⟨i+1,hia⟩,v57),[(210,210),(211,211),(203,203)],by show P.length-(i+1)<P.length-i; omega,Z,rfl,rfl,(by rw [hnx,hnd]; rfl),rfl,(by rw [hnx,hnd]; rfl),rfl,Y⟩
 have hin:i=P.length:=by simp at hc; omega
 subst hin;rw [List.take_length];refine Tri.exit ?_;apply Sr;(conv=>whnf);refine Tri.retK [(2,.box 210 b17 0)] (outH b17 (.slice aa (P.map entA).length pc) iv (outF P)) [(210,210),(211,211)] ⟨Z,rfl,Y⟩ ?_;(conv=>whnf);exact ⟨_,.refl _,b17,_,iv,rfl,rfl⟩
def done4 (a b c d:Bool):Nat→Bool
 | 0=>a
 | 1=>b
 | 2=>c
 | 3=>d
 | _=>false
def ordB (x:List Nat) (p:Nat→Bool):List Nat:=x.filter p++[0,1,2,3].filter fun k=>p k&&!x.contains k
def kvsB (KV:Nat→D) (l:List Nat):List (D×D):=l.map fun k=>(Iv (k:Nat),KV k)
def kvs4 (KV:Nat→D) (x:List Nat) (a b c d:Bool):List (D×D):=kvsB KV (ordB x (done4 a b c d))
theorem ordB_mem {x:List Nat} {p:Nat→Bool} {k:Nat} (hk:k<4):k∈ordB x p↔p k=true:=by
 simp only [ordB,List.mem_append,List.mem_filter]
 constructor
 ·rintro (⟨_,h⟩|⟨_,h⟩)
  ·exact h
  rw [Bool.and_eq_true] at h; exact h.1
 intro h
 by_cases hx:k∈x
 ·exact .inl ⟨hx,h⟩
 refine .inr ⟨?_,by simp [h,hx]⟩
 simp only [List.mem_cons,List.mem_nil_iff,or_false]; omega
theorem ordB_p {x:List Nat} {p:Nat→Bool} {k:Nat} (h:k∈ordB x p):p k=true:=by
 simp only [ordB,List.mem_append,List.mem_filter,Bool.and_eq_true] at h
 rcases h with ⟨_,h⟩|⟨_,h,_⟩<;>exact h
theorem ordB_put {x:List Nat} {p q:Nat→Bool} {i:Nat} (hi:i<4) (hq:∀ k,q k=(k==i||p k)) (hp4:∀ k,p k=true→k<4):ordB (ordB x p++[i]) q=ordB x p++[i]:=by
 have h1:(ordB x p++[i]).filter q=ordB x p++[i]:=List.filter_eq_self.2 fun k hk=>by
  rw [hq]
  rcases List.mem_append.1 hk with h|h
  ·rw [ordB_p h]; simp
  simp at h; simp [h]
 have h2:([0,1,2,3].filter fun k=>q k&&!(ordB x p++[i]).contains k)=[]:=List.filter_eq_nil_iff.2 fun k hk=>by
  have hk4:k<4:=by simp at hk; omega
  by_cases hki:k=i
  ·subst hki; simp
  intro h;rw [Bool.and_eq_true,hq] at h
  have hpk:p k=true:=by simpa [hki] using h.1
  have:=(ordB_mem (x:=x) hk4).2 hpk
  simp [this] at h
 conv=>lhs; rw [ordB]
 rw [h1,h2,List.append_nil]
theorem kvsB_none {KV:Nat→D} {l:List Nat} {i:Nat} (h:i∉l):mget (kvsB KV l) (Iv (i:Nat))=none:=by
 rw [mget,Option.map_eq_none_iff,List.find?_eq_none];intro e he;obtain ⟨k,hk,rfl⟩:=List.mem_map.1 he
 have:k≠i:=fun e=>h (e ▸ hk)
 simp only [keyEq]; simp; omega
theorem kvsB_some {KV:Nat→D} {i:Nat}:∀ {l:List Nat},i∈l→mget (kvsB KV l) (Iv (i:Nat))=some (KV i)
 | k::r,h=>by
  by_cases hk:k=i
  ·subst hk; simp [mget,kvsB,keyEq]
  have hr:i∈r:=by simpa [show ¬ i=k from fun e=>hk e.symm] using h
  have ih:=kvsB_some (KV:=KV) hr
  rw [mget] at ih ⊢
  have e:kvsB KV (k::r)=(Iv (k:Nat),KV k)::kvsB KV r:=rfl
  rw [e,List.find?_cons]
  have hne:keyEq (Iv (k:Nat)) (Iv (i:Nat))=false:=by simp only [keyEq]; simp; omega
  rw [hne]; exact ih
theorem done4_lt {a b c d:Bool} {k:Nat} (h:done4 a b c d k=true):k<4:=by
 rcases Nat.lt_or_ge k 4 with h4|h4
 ·exact h4
 obtain ⟨j,rfl⟩:∃ j,k=j+4:=⟨k-4,by omega⟩
 cases h
theorem kvs4_put (KV:Nat→D) (x:List Nat) {a b c d a' b' c' d':Bool} (i:Nat) (hi:i<4) (h0:done4 a b c d i=false) (hq:∀ k,done4 a' b' c' d' k=(k==i||done4 a b c d k)) :
  mset (kvs4 KV x a b c d) (Iv (i:Nat)) (KV i)=kvs4 KV (ordB x (done4 a b c d)++[i]) a' b' c' d':=by
 have h1:i∉ordB x (done4 a b c d):=fun h=>by rw [ordB_mem hi] at h; rw [h0] at h; cases h
 rw [mset,kvs4,kvsB_none h1,kvs4,ordB_put hi hq fun k hk=>done4_lt hk]
 simp [kvsB]
theorem kvs4_keys (KV:Nat→D) (x:List Nat) (a b c d:Bool):∀ e∈kvs4 KV x a b c d,keyD (.int .i64) e.1=true:=fun e he=>by
 obtain ⟨k,_,rfl⟩:=List.mem_map.1 he
 rfl
theorem kvs4_get (KV:Nat→D) (x:List Nat) (kind:Int) (h0:0≤kind) (h3:kind≤3):mget (kvs4 KV x true true true true) (Iv kind)=some (KV kind.toNat):=by
 have e:kind=((kind.toNat:Nat):Int):=by omega
 conv=>lhs; rw [e]
 refine kvsB_some ((ordB_mem (by omega)).2 ?_)
 have:kind.toNat<4:=by omega
 match kind.toNat,this with
 | 0,_=>rfl
 | 1,_=>rfl
 | 2,_=>rfl
 | 3,_=>rfl
theorem put_0 (b c d:Bool):∀ k,done4 true b c d k=(k==0||done4 false b c d k)
 | 0=>rfl
 | 1=>rfl
 | 2=>rfl
 | 3=>rfl
 | k+4=>rfl
theorem put_1 (a c d:Bool):∀ k,done4 a true c d k=(k==1||done4 a false c d k)
 | 0=>rfl
 | 1=>rfl
 | 2=>rfl
 | 3=>rfl
 | k+4=>rfl
theorem put_2 (a b d:Bool):∀ k,done4 a b true d k=(k==2||done4 a b false d k)
 | 0=>rfl
 | 1=>rfl
 | 2=>rfl
 | 3=>rfl
 | k+4=>rfl
theorem put_3 (a b c:Bool):∀ k,done4 a b c true k=(k==3||done4 a b c false k)
 | 0=>rfl
 | 1=>rfl
 | 2=>rfl
 | 3=>rfl
 | k+4=>rfl
def vatV (s:OS):Int:=outerV (152+4*(1+((s.items.map encIT).length:Nat)))
def regV (s:OS):Int:=rndV (1+s.count)
def szK (s:OS):Nat→Int
 | 0=>1+s.count
 | 1=>1+s.count+vatV s
 | 2=>3+s.count
 | _=>4+2*regV s
def szD (s:OS) (k:Nat):D:=Iv (szK s k)
theorem rndV_r (n:Int):0≤rndV n∧rndV n≤5000:=by
 unfold rndV
 split
 ·omega
 rename_i h
 have:0≤n∧n≤4096:=by revert h; cases h:decide (n<0)<;>simp at h ⊢<;>omega
 rw [Int.tdiv_eq_ediv_of_nonneg (by omega)]; omega
theorem vatV_r {s:OS} (h:s.items.length<100000000):0≤vatV s∧vatV s<1000000000:=outerV_r (by omega) (by rw [List.length_map]; omega)
theorem H212 (bo:Nat) (nv iv:Value) (s:OS) (hl:s.items.length<100000000):DCall Tryz.prog W0 212 [.box 210 bo 0] (look (outH bo nv iv s)) fun d H'=>d=Iv (vatV s)∧H'=look (outH bo nv iv s):=by
 refine DCall.intro ti_ok Tryz.func212 rfl (by decide +kernel) Tryz.ntmps212 rfl fun Γ=>?_
 apply Sr;apply Sq
 have hml:(s.items.map encIT).length=s.items.length:=List.length_map ..
 apply Rg;apply Rl;refine Ir ?_;refine Ir ?_;refine Ir ?_;(conv=>whnf);refine ⟨[Iv (152+4*(1+((s.items.map encIT).length:Nat)))],_,fun _=>H271 _ (by omega) (by omega),Z,?_⟩;(conv=>whnf);refine Tri.retK [(2,Iv (vatV s))] (outH bo nv iv s) [(210,210),(211,211)] ⟨Z,rfl,Y⟩ ?_;(conv=>whnf);exact ⟨_,.refl _,rfl,rfl⟩
theorem H213 (bo:Nat) (nv iv:Value) (s:OS) (h0:0≤s.count) (h1:s.count<1000000000000000000):DCall Tryz.prog W0 213 [.box 210 bo 0] (look (outH bo nv iv s)) fun d H'=>d=Iv (regV s)∧H'=look (outH bo nv iv s):=by
 refine DCall.intro ti_ok Tryz.func213 rfl (by decide +kernel) Tryz.ntmps213 rfl fun Γ=>?_
 apply Sr;apply Sr;apply Rl;refine Ir ?_;(conv=>whnf);refine ⟨[Iv (1+s.count)],_,fun _=>H272 (1+s.count),Z,?_⟩;(conv=>whnf);refine Tri.retK [(2,Iv (regV s))] (outH bo nv iv s) [(210,210),(211,211)] ⟨Z,rfl,Y⟩ ?_;(conv=>whnf);exact ⟨_,.refl _,rfl,rfl⟩
theorem H141 (bo:Nat) (nv iv:Value) (s:OS) (kind:Int) (hk0:0≤kind) (hk3:kind≤3) (hl:s.items.length<100000000) (h0:0≤s.count) (h1:s.count<1000000000000000000):DCall Tryz.prog W0 141 [.box 210 bo 0,Iv kind] (look (outH bo nv iv s)) fun d H'=>d=Iv (szK s kind.toNat)∧H'=look (outH bo nv iv s):=by
 refine DCall.intro ti_ok Tryz.func141 rfl (by decide +kernel) Tryz.ntmps141 rfl fun Γ=>?_
 apply Sr;(conv=>whnf)
 have hvr:=vatV_r hl
 have hrr:=rndV_r (1+s.count)
 apply Sq
 refine Tri.bitsG ti_ok mixed (α:=Nat×List Nat) (fun y f=>[(0,.box 210 bo 0),(1,Iv kind),(5,bif f 0 then .raw (.map (some y.1)) else .any),(6,bif f 1 then .box 210 bo 0 else .any),(7,bif f 2 then .box 210 bo 0 else .any),(8,bif f 3 then .box 210 bo 2 else .any),(9,bif f 4 then Iv s.count else .any),(10,bif f 5 then Iv (1+s.count) else .any),(11,bif f 7 then .box 210 bo 0 else .any),(12,bif f 8 then .box 210 bo 0 else .any),(13,bif f 9 then .box 210 bo 2 else .any),(14,bif f 10 then Iv s.count else .any),(15,bif f 11 then Iv (1+s.count) else .any),(16,bif f 12 then .box 210 bo 0 else .any),(17,bif f 13 then Iv (vatV s) else .any),(18,bif f 14 then Iv (1+s.count+vatV s) else .any),(19,bif f 16 then .box 210 bo 0 else .any),(20,bif f 17 then .box 210 bo 0 else .any),(21,bif f 18 then .box 210 bo 2 else .any),(22,bif f 19 then Iv s.count else .any),(23,bif f 20 then Iv (3+s.count) else .any),(24,bif f 22 then .box 210 bo 0 else .any),(25,bif f 23 then Iv (regV s) else .any),(26,bif f 24 then Iv (2*regV s) else .any),(27,bif f 25 then Iv (4+2*regV s) else .any),(28,bif f 27 then .raw (.map (some y.1)) else .any),(29,bif f 28 then Iv kind else .any),(30,bif f 29 then Iv (szK s kind.toNat) else .any),(4,bif f 30 then Iv (szK s kind.toNat) else Iv 0)])
  (fun y f=>look ([(210,.box bo [.raw nv,.sl (.own 211 iv) 5 (s.items.map encIT),Iv s.count]),(211,.own iv s.items.length 5 358)]++(bif f 0 then [(5,.mp y.1 (kvs4 (szD s) y.2 (f 6) (f 15) (f 21) (f 26)))] else []))) (by decide +kernel) (0,[]) ?_ ?_ ?_ ?_
 ·exact ⟨.refl _,.refl _,.any _,.any _,.any _,.any _,.any _,.any _,.any _,.any _,.any _,.any _,.any _,.any _,.any _,.any _,.any _,.any _,.any _,.any _,.any _,.any _,.any _,.any _,.any _,.any _,.any _,.any _,.refl _,trivial⟩
 ·exact SubHF.of (hs:=[(210,.box bo [.raw nv,.sl (.own 211 iv) 5 (s.items.map encIT),Iv s.count]),(211,.own iv s.items.length 5 358)]) ⟨rfl,Y⟩
 ·(conv=>whnf);refine ⟨fun y f hI=>?_,?_⟩
  ·obtain ⟨f,rfl⟩:= hI.o f 6 0;obtain ⟨f,rfl⟩:= hI.o f 15 0;obtain ⟨f,rfl⟩:= hI.o f 21 0;obtain ⟨f,rfl⟩:= hI.o f 26 0;obtain ⟨f,rfl⟩:= hI.o f 27 0;apply Tk;refine XOp.mpMake (fun pb=>?_);(conv=>whnf);exact Ex (pb,[]) (SubHF.of (hs:=[(210,.box bo [.raw nv,.sl (.own 211 iv) 5 (s.items.map encIT),Iv s.count]),(211,.own iv s.items.length 5 358),(5,.mp pb [])]) (by exact ⟨rfl,Y⟩))
  refine Qo ?_;refine Qo ?_;refine Qo ?_;refine ⟨fun y f hI=>?_,?_⟩
  ·obtain ⟨f,rfl⟩:= hI.o f 6 5 (hI.n 5 4);obtain ⟨f,rfl⟩:= hI.o f 27 4;apply Ti;apply Rl;(conv=>whnf);exact Ex y
  refine ⟨fun y f hI=>?_,?_⟩
  ·obtain ⟨f,rfl⟩:= hI.o f 6 5;obtain ⟨f,rfl⟩:= hI.o f 27 5;apply Ti;refine Ir ?_;(conv=>whnf);exact Ex y
  refine ⟨fun y f hI=>?_,?_⟩
  ·obtain ⟨f,rfl⟩:= hI.o f 27 6;apply Tk;refine XOp.ins (XOp.mpPut 5 (kt:=3) (et:=3) rfl rfl rfl rfl rfl rfl (kvs4_keys _ _ _ _ _ _) ?_);(conv=>whnf);exact Ex (y.1,ordB y.2 (done4 false (f 15) (f 21) (f 26))++[0]) (SubHF.of (hs:=[(210,.box bo [.raw nv,.sl (.own 211 iv) 5 (s.items.map encIT),Iv s.count]),(211,.own iv s.items.length 5 358),(5,.mp y.1 (kvs4 (szD s) (ordB y.2 (done4 false (f 15) (f 21) (f 26))++[0]) true (f 15) (f 21) (f 26)))]) (by exact ⟨rfl,rfl,congrArg (fun z=>some (HObj.mp y.1 z)) (kvs4_put (szD s) y.2 0 (by decide) rfl (put_0 (f 15) (f 21) (f 26))),trivial⟩))
  refine Qo ?_;refine Qo ?_;refine Qo ?_;refine ⟨fun y f hI=>?_,?_⟩
  ·obtain ⟨f,rfl⟩:= hI.o f 15 14 (hI.n 14 11 (hI.n 11 10));obtain ⟨f,rfl⟩:= hI.o f 27 10;apply Ti;apply Rl;(conv=>whnf);exact Ex y
  refine ⟨fun y f hI=>?_,?_⟩
  ·obtain ⟨f,rfl⟩:= hI.o f 15 14 (hI.n 14 11);obtain ⟨f,rfl⟩:= hI.o f 27 11;apply Ti;refine Ir ?_;(conv=>whnf);exact Ex y
  refine Qo ?_;refine ⟨fun y f hI=>?_,?_⟩
  ·obtain ⟨f,rfl⟩:= hI.o f 15 14 (hI.n 14 13);obtain ⟨f,rfl⟩:= hI.o f 26 25 (hI.n 25 24 (hI.n 24 23 (hI.n 23 13)));obtain ⟨f,rfl⟩:= hI.o f 27 13;apply Tk;refine XOp.callSame rfl [.box 210 bo 0] [(210,210),(211,211)] (hs:=outH bo nv iv s) (by exact ⟨rfl,Y⟩) (H212 bo nv iv s hl) rfl Z (.refl _) ?_;(conv=>whnf);exact Ex y
  refine ⟨fun y f hI=>?_,?_⟩
  ·obtain ⟨f,rfl⟩:= hI.o f 15 14;obtain ⟨f,rfl⟩:= hI.o f 27 14;apply Ti;refine Ir ?_;(conv=>whnf);exact Ex y
  refine ⟨fun y f hI=>?_,?_⟩
  ·obtain ⟨f,rfl⟩:= hI.o f 27 15;apply Tk;refine XOp.ins (XOp.mpPut 5 (kt:=3) (et:=3) rfl rfl rfl rfl rfl rfl (kvs4_keys _ _ _ _ _ _) ?_);(conv=>whnf);exact Ex (y.1,ordB y.2 (done4 (f 6) false (f 21) (f 26))++[1]) (SubHF.of (hs:=[(210,.box bo [.raw nv,.sl (.own 211 iv) 5 (s.items.map encIT),Iv s.count]),(211,.own iv s.items.length 5 358),(5,.mp y.1 (kvs4 (szD s) (ordB y.2 (done4 (f 6) false (f 21) (f 26))++[1]) (f 6) true (f 21) (f 26)))]) (by exact ⟨rfl,rfl,congrArg (fun z=>some (HObj.mp y.1 z)) (kvs4_put (szD s) y.2 1 (by decide) rfl (put_1 (f 6) (f 21) (f 26))),trivial⟩))
  refine Qo ?_;refine Qo ?_;refine Qo ?_;refine ⟨fun y f hI=>?_,?_⟩
  ·obtain ⟨f,rfl⟩:= hI.o f 21 20 (hI.n 20 19);obtain ⟨f,rfl⟩:= hI.o f 27 19;apply Ti;apply Rl;(conv=>whnf);exact Ex y
  refine ⟨fun y f hI=>?_,?_⟩
  ·obtain ⟨f,rfl⟩:= hI.o f 21 20;obtain ⟨f,rfl⟩:= hI.o f 27 20;apply Ti;refine Ir ?_;(conv=>whnf);exact Ex y
  refine ⟨fun y f hI=>?_,?_⟩
  ·obtain ⟨f,rfl⟩:= hI.o f 27 21;apply Tk;refine XOp.ins (XOp.mpPut 5 (kt:=3) (et:=3) rfl rfl rfl rfl rfl rfl (kvs4_keys _ _ _ _ _ _) ?_);(conv=>whnf);exact Ex (y.1,ordB y.2 (done4 (f 6) (f 15) false (f 26))++[2]) (SubHF.of (hs:=[(210,.box bo [.raw nv,.sl (.own 211 iv) 5 (s.items.map encIT),Iv s.count]),(211,.own iv s.items.length 5 358),(5,.mp y.1 (kvs4 (szD s) (ordB y.2 (done4 (f 6) (f 15) false (f 26))++[2]) (f 6) (f 15) true (f 26)))]) (by exact ⟨rfl,rfl,congrArg (fun z=>some (HObj.mp y.1 z)) (kvs4_put (szD s) y.2 2 (by decide) rfl (put_2 (f 6) (f 15) (f 26))),trivial⟩))
  refine Qo ?_;refine ⟨fun y f hI=>?_,?_⟩
  ·obtain ⟨f,rfl⟩:= hI.o f 26 25 (hI.n 25 24 (hI.n 24 23));obtain ⟨f,rfl⟩:= hI.o f 27 23;apply Tk;refine XOp.callSame rfl [.box 210 bo 0] [(210,210),(211,211)] (hs:=outH bo nv iv s) (by exact ⟨rfl,Y⟩) (H213 bo nv iv s h0 h1) rfl Z (.refl _) ?_;(conv=>whnf);exact Ex y
  refine ⟨fun y f hI=>?_,?_⟩
  ·obtain ⟨f,rfl⟩:= hI.o f 26 25 (hI.n 25 24);obtain ⟨f,rfl⟩:= hI.o f 27 24;apply Ti;(conv=>whnf)
   refine .inl ⟨fun _=>by simp only [InR]; unfold regV; omega,?_⟩
   (conv=>whnf);exact Ex y
  refine ⟨fun y f hI=>?_,?_⟩
  ·obtain ⟨f,rfl⟩:= hI.o f 26 25;obtain ⟨f,rfl⟩:= hI.o f 27 25;apply Ti;(conv=>whnf)
   refine .inl ⟨fun _=>by simp only [InR]; unfold regV; omega,?_⟩
   (conv=>whnf);exact Ex y
  refine ⟨fun y f hI=>?_,?_⟩
  ·obtain ⟨f,rfl⟩:= hI.o f 27 26;apply Tk;refine XOp.ins (XOp.mpPut 5 (kt:=3) (et:=3) rfl rfl rfl rfl rfl rfl (kvs4_keys _ _ _ _ _ _) ?_);(conv=>whnf);exact Ex (y.1,ordB y.2 (done4 (f 6) (f 15) (f 21) false)++[3]) (SubHF.of (hs:=[(210,.box bo [.raw nv,.sl (.own 211 iv) 5 (s.items.map encIT),Iv s.count]),(211,.own iv s.items.length 5 358),(5,.mp y.1 (kvs4 (szD s) (ordB y.2 (done4 (f 6) (f 15) (f 21) false)++[3]) (f 6) (f 15) (f 21) true))]) (by exact ⟨rfl,rfl,congrArg (fun z=>some (HObj.mp y.1 z)) (kvs4_put (szD s) y.2 3 (by decide) rfl (put_3 (f 6) (f 15) (f 21))),trivial⟩))
  refine Qo ?_;refine Qo ?_;refine ⟨fun y f hI=>?_,?_⟩
  ·obtain ⟨f,rfl⟩:=onAt f 0 (hI 27 0 rfl rfl);obtain ⟨f,rfl⟩:=onAt f 6 (hI 27 6 rfl rfl);obtain ⟨f,rfl⟩:=onAt f 15 (hI 27 15 rfl rfl);obtain ⟨f,rfl⟩:=onAt f 21 (hI 27 21 rfl rfl);obtain ⟨f,rfl⟩:=onAt f 26 (hI 27 26 rfl rfl);apply Tk;refine XOp.mpHit 5 (kt:=3) (et:=3) (k:=Iv kind) (d:=Iv (szK s kind.toNat)) rfl rfl rfl rfl rfl rfl (kvs4_keys _ _ _ _ _ _) (kvs4_get (szD s) y.2 kind hk0 hk3) ?_;(conv=>whnf);exact Ex y
  refine Qo ?_;exact trivial
 intro y f hf;obtain ⟨f,rfl⟩:=onAll f 31 (by exact hf);clear hf;(conv=>whnf);refine Tri.forgetG [(4,Iv (szK s kind.toNat))] (look [(210,.box bo [.raw nv,.sl (.own 211 iv) 5 (s.items.map encIT),Iv s.count]),(211,.own iv s.items.length 5 358)]) (.same (by exact Z) (SubHF.of (hs:=[(210,.box bo [.raw nv,.sl (.own 211 iv) 5 (s.items.map encIT),Iv s.count]),(211,.own iv s.items.length 5 358)]) (by exact ⟨rfl,Y⟩))) ?_;(conv=>whnf);refine Tri.retK [(4,Iv (szK s kind.toNat))] (outH bo nv iv s) [(210,210),(211,211)] ⟨Z,rfl,Y⟩ ?_;(conv=>whnf);exact ⟨_,.refl _,rfl,rfl⟩
def viewN (n:NV):NV:=showG (fun ks=>ks.map NV.name) 3 1 n
def udfSz (n:NV) (kind:Int):Int×Int:=if (bif !knownV kind then true else !valid n)=true then (0,1) else (szK (outF (preN (viewN n))) kind.toNat,0)
theorem H94 (hL:LibOk W0) (n:NV) (kind:Int) (hz:sz n+n.name.length<10000000) (hv:valid n=true→sz n<800000∧sz (viewN n)<1000000):DFun Tryz.prog W0 94 [encTop n,Iv kind] (.tup [Iv (udfSz n kind).1,Iv (udfSz n kind).2]):=by
 refine Fi Tryz.func94 rfl Tryz.ntmps94 fun Γ=>?_
 apply Sr;(conv=>whnf);intro b2;apply Sq;apply Sr;(conv=>whnf);refine ⟨[Iv kind],_,fun _=>H139 kind,Z,?_⟩;apply Rl;apply Hh;(conv=>whnf);refine ⟨[encTop n],_,fun h=>F39 hL n hz,Z,?_⟩;apply Hh;refine Pk ?_;refine Cd (bif !knownV kind then true else !valid n) rfl (fun hc=>?_) (fun hc=>?_)
 ·apply Sr;apply Rt;(conv=>whnf)
  rw [udfSz,if_pos hc]; exact Z
 have hkv:knownV kind=true∧valid n=true:=by revert hc; cases knownV kind<;>cases valid n<;>simp
 obtain ⟨hz1,hz2⟩:=hv hkv.2
 have hk0:0≤kind∧kind≤3:=by
  have:=hkv.1
  unfold knownV at this
  revert this
  cases h:decide (0≤kind)<;>simp at h ⊢<;>omega
 have hview:DFun Tryz.prog W0 208 [Iv 3,encTop n] (.tup [encTop (viewN n),Iv 0]):=by
  have h:=F42 hL (fun ks=>ks.map NV.name) 3 (fun _=>names23 hL (.inr rfl)) n hz (fun _=>hz1)
  have e:viewR (fun ks=>ks.map NV.name) 3 n=(viewN n,0):=by
   unfold viewR
   rw [if_neg (by decide),if_neg (by rw [hkv.2]; decide)]; rfl
  rw [e] at h; exact h
 have hgd:=outF_good (l:=preN (viewN n)) (fun m hm=>Nat.lt_of_le_of_lt (pre_sz _ m hm) hz2) (preN (viewN n)).length (Nat.le_refl _)
 rw [List.take_length] at hgd
 have hpc:=costN (viewN n)
 have hg1:=hgd.len
 have hg2:=hgd.c0
 have hg3:=hgd.c1
 apply Sk;apply Sq;refine Tri.regionX ti_ok ?_;apply Il;apply Rl;(conv=>whnf);refine .inr (XOp.call rfl [encTop n] [(210,210),(211,211)] (DCall.noneL (by exact ⟨rfl,Y⟩) (H140 hL n (viewN n) hview hz2)) rfl Z ?_);rintro d H' ⟨bo,nv,iv,rfl,rfl⟩;refine ⟨_,.refl _,?_⟩;(conv=>whnf);refine .inr (XOp.call rfl [.box 210 bo 0,Iv kind] [(210,210),(211,211)] (DCall.heapL (by exact ⟨rfl,Y⟩) (H141 bo nv iv (outF (preN (viewN n))) kind hk0.1 hk0.2 (by omega) hg2 (by omega))) rfl Z ?_);rintro d H' ⟨rfl,rfl⟩;refine ⟨_,.refl _,?_⟩;(conv=>whnf)
 rw [udfSz,if_neg (by rw [hc]; decide)]
 apply Rt;(conv=>whnf);exact Z
end Go.Tame.V
namespace Go.Proofs
end Go.Proofs
namespace Go.Tame.V
open Go Go.Proofs Go.RowKit Go.Tame Go.Sort
variable {W0:World}
theorem flat_strs:∀ l:List (List UInt8),flat (l.map D.str)=l.map D.str
 | []=>rfl
 | x::r=>by
  have:=flat_strs r
  simp only [flat] at this ⊢
  rw [List.map_cons,List.flatMap_cons,this]; rfl
theorem str_ints {w:World} {C:Nat→Nat} {l:List (List UInt8)} {sv:Value} (h:Rep w C (.sl .none 1 (l.map D.str)) sv):SlV.Ints w.heap.size w sv l:=by
 rcases h.sl_inv with ⟨h0,⟨a,rfl⟩,_⟩|⟨b,o,cap,g,rfl,_,hlt,_,_,_,_,hcell,_,hrep⟩
 ·exact .inl ⟨⟨a,rfl⟩,by simpa using h0⟩
 refine .inr ⟨b,o,cap,by rw [List.length_map],hlt,fun j hj=>?_⟩
 have hd:(flat (l.map D.str))[j]? = some (.str l[j]):=by rw [flat_strs,List.getElem?_map,List.getElem?_eq_getElem hj]; rfl
 rw [hcell j _ hd,(hrep j _ hd).str_inv,List.getElem?_eq_getElem hj]; rfl
theorem enters103 (args:Array Value) (w:World):(callFunc 93 args).run Tryz.prog w=.ok (.enter 93 args) w:=by
 have hname : (Tryz.f93.name == "runtime.NumGoroutine") = false := by decide +kernel
 have hb:Tryz.f93.body.isNone=false:=rfl
 simp only [callFunc,run_program,Sem.run_bind,Result.andThen_ok,Tryz.func93,hname,hb,Bool.false_eq_true,if_false,Sem.run_pure]
theorem L101r (l:List (List UInt8)) (hl:l.length≤1000000):DCall Tryz.prog W0 91 [.fn (.func 93) [] [.elm 1 [.sl .none 1 (l.map D.str)] 0 0]] Heap.none fun d H'=>∃ v,d=.raw v∧H'=look [(2000,.row v (l.map D.str) 1 9)]:=by
 refine ⟨⟨_,Tryz.func91,rfl,by decide +kernel⟩,fun w C args Ft hb hlow hH hargs=>?_⟩
 obtain ⟨v,rfl⟩:∃ v,args=[v]:=by
  cases args with
  | nil=>exact absurd hargs.1 (by simp)
  | cons v r=>cases r with
   | nil=>exact ⟨v,rfl⟩
   | cons _ _=>exact absurd hargs.1 (by simp)
 obtain ⟨vf,vc,rfl,h1,h2⟩:=(hargs.2 0 _ v rfl rfl).fn_inv;obtain rfl:vf=[]:=List.eq_nil_of_length_eq_zero h1.1.symm
 obtain ⟨p,rfl⟩:∃ p,vc=[p]:=by
  cases vc with
  | nil=>exact absurd h2.1 (by simp)
  | cons v r=>cases r with
   | nil=>exact ⟨v,rfl⟩
   | cons _ _=>exact absurd h2.1 (by simp)
 have hp:=h2.2 0 _ p rfl rfl
 cases hp with
 | elm _ _ _ _ b o cap h =>
  rcases h.sl_inv with ⟨h0,_⟩|⟨b',o',cap',g,hv,_,hlt,_,_,_,_,hcell,_,hrep⟩
  ·cases h0
  injection hv with e1 _ _
  injection e1 with e1
  injection e1 with e1 e2 _
  subst e1; subst e2
  have hc0:w.cell? ⟨b,o,none⟩=some (g 0):=hcell 0 _ rfl
  have hstop:=SlV.values_stops Fence.wide 8 trivial rfl (by omega) b o w.heap.size (g 0) l (by omega) w hlt (Nat.le_refl _) hc0 (str_ints (hrep 0 _ rfl))
  have hc:=SlV.collect_inK Tryz.laysCol Fence.wide 10 trivial trivial rfl (by omega) 93 #[.pointer (some ⟨b,o,none⟩)] trivial enters103 (fun ys=>ys=l) (fun pre=>pre <+: l) l.length (by simp only [maxLen]; omega) (by omega) w hstop
  refine (callsIn_wide.1 hc).mono fun e w' ⟨v,ss,he,hs,hrow,hnil,hbl⟩=>?_
  subst hs
  have hext:Ext w C w' (fun x=>if x<w.heap.size then C x else 0) :=
   ⟨hbl.size,fun x hx=>by simp only [hx,if_true]; exact Nat.le_refl _,fun x o hx ho=>by simp only [World.cell?,hbl.block x hx]⟩
  have hone:∀ x,(HObj.row v (ss.map D.str) 1 9).uses x→w.heap.size≤x:=fun x hx=>by
   obtain ⟨n,c,h3,h4⟩:=hx
   rcases hrow.2 with ⟨rfl,h0⟩|⟨gb,cap,cur,rfl,hbase,hgb,r1,r2,r3,r4⟩
   ·cases h3
   injection h3 with h3; injection h3 with h3; injection h3 with h3; omega
  refine ⟨v,.raw v,fun x=>if x<w.heap.size then C x else 0,look [(2000,.row v (ss.map D.str) 1 9)],he,⟨v,rfl,rfl⟩,.raw v,⟨hext,hbl.os,hbl.tape,hbl.output,fun x hx _=>⟨hbl.block x hx,by simp only [hx,if_true]⟩⟩,?_⟩
  have only:∀ j o,look [(2000,HObj.row v (ss.map D.str) 1 9)] j=some o→j=2000∧o=.row v (ss.map D.str) 1 9:=fun j o ho=>by
   simp only [look] at ho
   cases hb:Nat.beq j 2000 with
   | true=>rw [hb] at ho; exact ⟨Nat.eq_of_beq_eq_true hb,by simpa using ho.symm⟩
   | false=>rw [hb] at ho; simp at ho
  refine ⟨fun j o ho=>?_,fun j j' o o' x hne h1 h2 _ _=>absurd ((only j o h1).1.trans (only j' o' h2).1.symm) hne,fun j o x ho hu=>?_⟩
  ·obtain ⟨_,rfl⟩:=only j o ho
   rcases hrow.2 with ⟨rfl,h0⟩|⟨gb,cap,cur,rfl,hbase,hgb,r1,r2,r3,r4⟩
   ·have:ss=[]:=List.eq_nil_of_length_eq_zero h0
    subst this;exact ⟨none,0,rfl,Nat.le_refl _,Nat.zero_le _,fun x hx=>(by cases hx),fun ad had=>(by cases had),fun h=>absurd h (by simp)⟩
   refine ⟨_,cap,by rw [List.length_map],by rw [List.length_map]; exact r1,r2,fun x hx=>by obtain ⟨_,_,rfl⟩:=List.mem_map.1 hx; rfl,fun ad had=>⟨gb,by cases had; rfl,(Array.getElem?_eq_some_iff.1 hgb).1⟩,fun _=>⟨gb,cur,rfl,hgb,r3,?_,fun j d hd=>?_⟩⟩
   ·exact if_neg (by omega)
   rw [flat_strs,List.getElem?_map] at hd
   cases hx:ss[j]? with
   | none=>rw [hx] at hd; cases hd
   | some x =>
    rw [hx] at hd; cases hd
    have hj:j<ss.length:=(List.getElem?_eq_some_iff.1 hx).1
    have hcj:(cur.toList.take (ss.length*1))[j]? = some (encStr x):=by rw [r4,List.getElem?_map,hx]; rfl
    rw [List.getElem?_take,if_pos (by omega)] at hcj;exact ⟨_,by simpa using hcj,.str x,rfl⟩
  obtain ⟨_,rfl⟩:=only j o ho;exact .inr (hone x hu)
end Go.Tame.V
namespace Go.Proofs
end Go.Proofs
namespace Go.Tame.V
open Go Go.Proofs Go.RowKit Go.Sort Go.Lib
variable {W0:World}
def strs5 (l:List (List UInt8)):List D:=l.map D.str
def sortS (L:List (List UInt8)):List (List UInt8):=L.mergeSort fun x y=>decide (x≤y)
theorem look1 {a:Nat} {o1 o:HObj} {s:Nat} (h:look [(a,o1)] s=some o):s=a∧o=o1:=by
 simp only [look] at h
 cases h1:Nat.beq s a with
 | true=>rw [h1] at h; cases h; exact ⟨beq_true h1,rfl⟩
 | false=>rw [h1] at h; cases h
theorem L102 (L:List (List UInt8)) (v:Value) (h0:0<L.length) (hl:L.length<1000000) :
  DCall Tryz.prog W0 92 [.raw v] (look [(2000,.row v (strs5 L) 1 9)]) fun d H'=>d=.tup []∧H'=look [(2000,.row v (strs5 (sortS L)) 1 9)]:=by
 refine ⟨⟨_,Tryz.func92,rfl,by decide +kernel⟩,fun w C args Ft hbase hlow hH hr=>?_⟩;obtain ⟨hln,hr⟩:=hr
 match args,hln with
 | [a0],_ =>
  have h1:=(hr 0 _ a0 rfl rfl).raw_inv
  subst h1
  have hrow:RowV w C a0 (strs5 L) 1 9:=hH.obj 2000 _ rfl
  have hsl:∀ M:List (List UInt8),(strs5 M).length=M.length:=fun M=>by simp [strs5]
  obtain ⟨b,cap,vs,hv,hc,hm,hk,hb,hvs,hC,hcells⟩:=RowV.pos hrow (i:=0) (by rw [hsl]; exact h0)
  have hcap:0<cap:=by rw [hsl] at hc; omega
  have hone:∀ M:List (List UInt8),∀ x∈strs5 M,x.cells=[x]:=fun M x hx=>by obtain ⟨y,_,rfl⟩:=List.mem_map.1 hx; rfl
  rw [flat_one (hone L)] at hcells
  have hsort:=Any.slices_Sort_string Tryz.lays190 b 0 cap L w (fun j hj=>by
    have hj':j<L.length:=by simpa using hj
    obtain ⟨z,h5,h6,_⟩:=hcells j (.str L[j]) (by simp [strs5,hj']);refine ⟨?_,by simp [World.frozen?,hb]⟩
    have hg:L.toArray[j]! = L[j]:=by simp [hj']
    rw [hg];simp only [World.cell?,hb,Nat.zero_add]
    simp [h5,h6.str_inv,encStr]) (lt_of_heap hb) (by omega)
  subst hv;rw [hsl] at hrow ⊢
  have huse:∀ (xs:List D),HObj.uses (.row (.slice (some ⟨b,0,none⟩) L.length cap) xs 1 9) b:=fun xs=>⟨_,cap,rfl,hcap⟩
  have hFb:=hH.foot 2000 _ b rfl ⟨_,cap,rfl,hcap⟩
  refine hsort.mono ?_;rintro e w' ⟨rfl,m,os,rfl⟩
  have hSl:(sortS L).length=L.length:=List.length_mergeSort _
  have hst:=Step.sort encStr w C b 0 m (sortS L).toArray os hC
  refine ⟨.tuple #[],.tup [],C,_,rfl,⟨rfl,rfl⟩,.tup [] [] rfl (fun i d v hd _=>by simp at hd),?_,⟨fun s o ho=>?_,fun s s' o o' x hne h1 h2 hu hu'=>?_,fun s o x ho hu=>?_⟩⟩
  ·exact ⟨hst.ext,hst.os,hst.tape,hst.output,fun x hx hF=>hst.keep x hx fun e=>by subst e; exact hF hFb⟩
  ·obtain ⟨rfl,rfl⟩:=look1 ho
   refine ⟨some ⟨b,0,none⟩,cap,by rw [hsl,hSl],by rw [hsl] at hc ⊢; omega,hm,fun x hx=>by rw [hone _ x hx]; rfl,fun ad had=>⟨b,by cases had; rfl,Nat.lt_of_lt_of_le (lt_of_heap hb) hst.ext.size⟩,
    fun _=>⟨b,_,rfl,sortWorld_row _ _ _ _ _ _ _ hb,by simp only [putCells,Array.size_mapIdx]; exact hvs,hC,fun j d hd=>?_⟩⟩
   rw [flat_one (hone _)] at hd
   have hj:j<(sortS L).length:=by have:=lt_of_get hd; rwa [hsl] at this
   have hjv:j<vs.size:=by rw [hsl] at hc; simp at hvs; omega
   have hde:d=.str (sortS L)[j]:=by simp [strs5,hj] at hd; exact hd.symm
   subst hde;refine ⟨encStr (sortS L)[j],?_,.str _,rfl⟩
   have hj2:j<(sortS L).toArray.size:=by simpa using hj
   simp only [putCells,Array.getElem?_mapIdx,Array.getElem?_eq_getElem hjv,Option.map_some,Nat.zero_le,true_and,Nat.zero_add,hj2,if_true,Nat.sub_zero]
   show some (if j<(sortS L).toArray.size then encStr ((sortS L).toArray[j]!) else vs[j])=_
   rw [if_pos hj2,getElem!_pos (sortS L).toArray j hj2]; rfl
  ·obtain ⟨rfl,_⟩:=look1 h1;obtain ⟨rfl,_⟩:=look1 h2;exact hne rfl
  obtain ⟨rfl,rfl⟩:=look1 ho;obtain ⟨n',c',h8,_⟩:=hu
  have:=slice_uses h8; subst this
  exact .inl hFb
end Go.Tame.V
namespace Go.Tame
open Go Go.RowKit
variable {P:Program} {W0:World} {nt:Nat} {Γ:Ctx P W0 nt} {K:DExit→DSt→Prop}
end Go.Tame
namespace Go.Tame.V
open Go Go.Proofs
variable {W0:World}
theorem DCall.freshK {f:FuncId} {ds:List D} {Q:D→Heap→Prop} {H:Heap} {k s:Nat} (h:H s=none) (hc:DCall Tryz.prog W0 f ds Heap.none Q):DCall Tryz.prog W0 f ds (handed H [(k,s)]) Q:=by
 have e:handed H [(k,s)]=Heap.none:=by
  funext j
  simp only [handed,Heap.none]
  cases Nat.beq j k with
  | true=>exact h
  | false=>rfl
 rw [e]; exact hc
theorem L65 (xs:List D):DFun Tryz.prog W0 59 [.sl .none 1 xs] (.fn (.func 93) [] [.elm 1 [.sl .none 1 xs] 0 0]):=by
 refine Fi Tryz.func59 rfl Tryz.ntmps59 fun Γ=>?_
 apply Sr;(conv=>whnf);intro b1;(conv=>whnf);refine Tri.boxElm 1 1 (.sl .none 1 xs) rfl rfl rfl rfl ?_;apply Sr;apply Rt;(conv=>whnf);exact .refl _
theorem L64 (l:List (List UInt8)) (h0:0<l.length) (hl:l.length<1000000):DFun Tryz.prog W0 58 [.fn (.func 93) [] [.elm 1 [.sl .none 1 (strs5 l)] 0 0]] (.sl .none 1 (strs5 (sortS l))):=by
 refine Fi Tryz.func58 rfl Tryz.ntmps58 fun Γ=>?_
 apply Sr;apply Sq;refine Tri.regionX ti_ok ?_;(conv=>whnf);refine .inr (XOp.call rfl [.fn (.func 93) [] [.elm 1 [.sl .none 1 (l.map D.str)] 0 0]] [(2000,70)] (DCall.freshK rfl (L101r l (by omega))) rfl Z ?_);rintro d H' ⟨v,rfl,rfl⟩;refine ⟨_,.refl _,?_⟩;apply Sq;refine Tri.regionX ti_ok ?_;(conv=>whnf);refine .inr (XOp.call rfl [.raw v] [(2000,70)] (DCall.heapK rfl (L102 l v h0 hl)) rfl Z ?_);rintro d H' ⟨rfl,rfl⟩;refine ⟨_,.refl _,?_⟩;(conv=>whnf);refine Tri.forgetK [(3,.raw v)] [(70,.row v (strs5 (sortS l)) 1 9)] [(70,70)] ⟨Z,rfl,Y⟩ ?_;refine Tri.commitSt 70 3 rfl ?_;apply Sr;apply Rt;(conv=>whnf);exact .refl _
def xaX:List UInt8:=List.replicate 3000 120
def xaK:NV:=⟨[97],1,xaX,[],0,0,0,315532800,0,0,[],[]⟩
def xaN:NV:=⟨[],0,[],[],0,0,0,315532800,0,0,[xaK],[]⟩
def xaM:MV:=⟨[86],[],[],[],[],1,1,315532800,1,0,[],0,false⟩
def xaM2:MV:=⟨[86],[],[],[],[],1,1,315532800,9,0,[],0,false⟩
theorem xa_valid:valid xaN=true:=by decide +kernel
theorem xa_paths:pathsS xaN [] 1=[[],[97]]:=by decide +kernel
theorem xa_files:filesV xaN=[⟨[97],xaX⟩]:=by decide +kernel
theorem xa_dirs:(rplanV false xaN).1=[⟨[],[0],1,0,0,false⟩]:=by decide +kernel
theorem xa_ents:(rplanV false xaN).2.1=[⟨[97],[65,46,59,49],0,-1,false,false,false⟩]:=by decide +kernel
theorem xa_pe:(rplanV false xaN).2.2=0:=by decide +kernel
theorem xa_chk:chkV xaN ⟨false,false,0,[]⟩=0:=by decide +kernel
theorem xa_udf:udfSz xaN 0=(3,0):=by decide +kernel
theorem xa_sz:sz xaN=3008:=by decide +kernel
theorem xa_szv:sz (viewN xaN)<1000000:=by decide +kernel
theorem xa_cnt:cnt xaN=2:=by decide +kernel
theorem xa_fits:Fits xaN:=by unfold Fits; rw [xa_sz]; decide
theorem xa_opt:optM xaM=⟨false,false,0,[]⟩:=by decide +kernel
theorem xa_opt2:optM xaM2=⟨false,false,0,[]⟩:=by decide +kernel
theorem xa_open:openV xaN xaM [] 0=some []:=by decide +kernel
theorem xa_open2:openV xaN xaM2 [] 10=some []:=by decide +kernel
theorem xa_small:Small [65,46,59,49] 1 :=
 ⟨by decide,by decide +kernel,by decide +kernel,by decide +kernel,by decide +kernel,by decide +kernel,by decide +kernel,by decide +kernel,by decide +kernel,by decide,by decide⟩
theorem xa_iso (hL:LibOk W0):DFun Tryz.prog W0 30 [encTop xaN,encO ⟨false,false,0,[]⟩] (.tup [Iv 3,Iv 0]):=by
 have hP:DFun Tryz.prog W0 96 [encTop xaN] (.sl .none 1 (strs [[],[97]])):=by
  have h:=K34 hL xaN xa_fits
  rw [if_pos xa_valid,xa_paths] at h; exact h
 have hPl:DFun Tryz.prog W0 158 [encTop xaN,.bool false] (.tup [.sl .none 6 [encDir ⟨[],[0],1,0,0,false⟩],.sl .none 7 [encEnt ⟨[97],[65,46,59,49],0,-1,false,false,false⟩],Iv 0]):=by
  have h:=G40 hL false xaN xa_fits (fun _=>⟨by rw [xa_cnt]; decide,by rw [xa_sz]; decide⟩)
  rw [xa_dirs,xa_ents,xa_pe] at h; exact h
 have hf:=xa_fits
 unfold Fits at hf
 exact H30o hL 0 xaN (by omega) xa_chk (getR xaN) [[],[97]] (by decide) hP (fun p hp=>G66 hL p (by simp at hp; rcases hp with rfl|rfl<;>decide) xaN xa_fits xa_valid) [97] [65,46,59,49] 1 xa_small hPl
theorem xa_udfF (hL:LibOk W0):DFun Tryz.prog W0 94 [encTop xaN,Iv 0] (.tup [Iv 3,Iv 0]):=by
 have hf:=xa_fits
 unfold Fits at hf
 have h:=H94 hL xaN 0 (by omega) (fun _=>⟨by rw [xa_sz]; decide,xa_szv⟩)
 rw [xa_udf] at h; exact h
def lay1:LV:=⟨0,23,18,3,0,false,0,0,0,0,0,[],0,0,0,[⟨[97],21,3000⟩]⟩
def lay2:LV:=⟨10,77,78,3,0,false,10,77,28,81,5,[81,82,83],0,0,0,[⟨[97],84,3000⟩]⟩
theorem lv_eta (l:LV):l=⟨l.S,l.C,l.iS,l.iC,l.kind,l.opn,l.uS,l.uC,l.recg,l.pS,l.pC,l.blocks,l.commit,l.spS,l.spC,l.files⟩:=rfl
theorem lv_ext {a b:LV} (h1:(a.S,a.C,a.iS,a.iC)=(b.S,b.C,b.iS,b.iC)) (h2:(a.kind,a.opn,a.uS,a.uC)=(b.kind,b.opn,b.uS,b.uC)) (h3:(a.recg,a.pS,a.pC,a.blocks)=(b.recg,b.pS,b.pC,b.blocks)) (h4:(a.commit,a.spS,a.spC)=(b.commit,b.spS,b.spC)) (h5:a.files=b.files):a=b:=by
 rw [lv_eta a,lv_eta b];simp only [Prod.mk.injEq] at h1 h2 h3 h4;obtain ⟨g1,g2,g3,g4⟩:=h1;obtain ⟨g5,g6,g7,g8⟩:=h2;obtain ⟨g9,g10,g11,g12⟩:=h3;obtain ⟨g13,g14,g15⟩:=h4;rw [g1,g2,g3,g4,g5,g6,g7,g8,g9,g10,g11,g12,g13,g14,g15,h5]
theorem xa_l1:(planV (planP xaN xaM [] 0 [[97]]) (3,0) (0,0) 500).1=lay1:=lv_ext (by decide +kernel) (by decide +kernel) (by decide +kernel) (by decide +kernel) (by decide +kernel)
theorem xa_e1:(planV (planP xaN xaM [] 0 [[97]]) (3,0) (0,0) 500).2=0:=by decide +kernel
theorem xa_l2:(planV (planP xaN xaM2 [] 10 [[97]]) (3,0) (3,0) 500).1=lay2:=lv_ext (by decide +kernel) (by decide +kernel) (by decide +kernel) (by decide +kernel) (by decide +kernel)
theorem xa_e2:(planV (planP xaN xaM2 [] 10 [[97]]) (3,0) (3,0) 500).2=0:=by decide +kernel
theorem xa_c2:countV (planQ xaN xaM2 [] 10) (3,0) (3,0)=(77,0):=by decide +kernel
theorem xa_s1:sortS [[97]]=[[97]]:=by decide +kernel
theorem xa_place (m:MV) (start:Int):placL (planP xaN m [] start []) (filesV xaN)=[[97]]:=by rw [xa_files]; rfl
theorem xa_filesL:(filesV xaN).length<1000000:=by rw [xa_files]; decide
theorem xa_sorted:DFun Tryz.prog W0 58 [valF [[97]]] (.sl .none 1 (strs [[97]])):=by
 have h:=L64 (W0:=W0) [[97]] (by decide) (by decide)
 rw [xa_s1] at h; exact h
theorem xa_plan (hL:LibOk W0) (m:MV) (start:Int) (hO:openV xaN m [] start=some []) (hb1:¬ (500:Int)<start) (hm:optM m=⟨false,false,0,[]⟩) (hmb:m.boot.length<1000000) (u:Int×Int) (hu:0≤u.1∧u.1≤1000000) (hU:hasV m.views 3=true→DFun Tryz.prog W0 94 [encTop xaN,Iv m.udf] (.tup [Iv u.1,Iv u.2])) :
  DFun Tryz.prog W0 19 [encTop xaN,encM m,.sl .none 1 (strs [[97]]),.sl .none 3 (([]:List FV).map encF),Iv start,Iv 500] (.tup [encLay (planV (planP xaN m [] start [[97]]) (3,0) u 500).1,Iv (planV (planP xaN m [] start [[97]]) (3,0) u 500).2]):=by
 have hp:=xa_place m start
 refine H19s hL xaN m [[97]] [] start 500 xa_fits (by decide) (fun g hg=>by cases hg) xa_filesL hmb (by decide) [] hO hb1 (by decide) (3,0) u (fun _=>by rw [hm]; exact xa_iso hL) hU (fun h=>meas_plan xa_fits hO (by decide) (by decide) hu h (by rw [xa_sz]; decide)) [[97]] [[97]] (fun l=>L65 (strs l)) xa_sorted (by rw [hp]; exact xa_sorted) (by decide) (by decide) (by decide)
theorem xa_p1 (hL:LibOk W0):DFun Tryz.prog W0 19 [encTop xaN,encM xaM,.sl .none 1 (strs [[97]]),.sl .none 3 (([]:List FV).map encF),Iv 0,Iv 500] (.tup [encLay lay1,Iv 0]):=by
 have h:=xa_plan hL xaM 0 xa_open (by decide) xa_opt (by decide) (0,0) (by decide) (fun h=>absurd h (by decide +kernel))
 rw [xa_l1,xa_e1] at h; exact h
theorem xa_p2 (hL:LibOk W0):DFun Tryz.prog W0 19 [encTop xaN,encM xaM2,.sl .none 1 (strs [[97]]),.sl .none 3 (([]:List FV).map encF),Iv 10,Iv 500] (.tup [encLay lay2,Iv 0]):=by
 have h:=xa_plan hL xaM2 10 xa_open2 (by decide) xa_opt2 (by decide) (3,0) (by decide) (fun _=>xa_udfF hL)
 rw [xa_l2,xa_e2] at h; exact h
theorem xa_cnt2 (hL:LibOk W0):DFun Tryz.prog W0 20 [encTop xaN,encM xaM2,.sl .none 3 (([]:List FV).map encF),Iv 10] (.tup [Iv 77,Iv 0]):=by
 have hp:=xa_place xaM2 10
 have h:=H20s hL xaN xaM2 [] 10 xa_fits (by decide) (fun g hg=>by cases hg) xa_filesL (by decide) [] xa_open2 (3,0) (3,0) (fun _=>by rw [xa_opt2]; exact xa_iso hL) (fun _=>xa_udfF hL) (fun h=>meas_plan (order:=placL (planP xaN xaM2 [] 10 []) (filesV xaN)) xa_fits xa_open2 (by rw [hp]; decide) (by decide) (by decide) h (by rw [xa_sz]; decide))
 rw [xa_c2] at h; exact h
theorem xa_filesF (hL:LibOk W0):DFun Tryz.prog W0 28 [encTop xaN] (.sl .none 1 (strs [[97]])):=by
 have h:=H28 hL xaN xa_fits
 rw [xa_files] at h; exact h
theorem xa_groups (hL:LibOk W0):DFun Tryz.prog W0 22 [encTop xaN] (.sl .none 1 []):=by
 have h:=H65 hL xaN xa_fits
 rw [xa_files] at h;exact H22o xaN [97] xaX (by decide +kernel) h
theorem xa_rep:Lib.repeatL [120] 3000=xaX:=by decide +kernel
theorem H74x:DFun Tryz.prog W0 74 [.str [120],Iv 3000] (.str xaX):=by
 rw [← xa_rep]
 exact .lift (callable Tryz.func74 rfl (by decide +kernel)) rfl fun w hb=>(Tryz.strings_Repeat ⟨⟨[120]⟩⟩ 3000 w (by decide) (by show 1*3000≤_; decide)).mono fun e w' ⟨he,hw⟩=>⟨_,he,fun C=>.str _,hw⟩
def zM:MV:=⟨[],[],[],[],[],0,0,0,0,0,[],0,false⟩
theorem xa_kids:xaN.kids.map enc=[encTop xaK]:=by show [enc xaK]=_; rw [enc_eq]
theorem H29:DFun Tryz.prog W0 29 [] (.tup [encTop xaN,encM xaM]):=by
 refine Fi Tryz.func29 rfl Tryz.ntmps29 fun Γ=>?_
 apply Sr;(conv=>whnf);intro b0;(conv=>whnf);intro b1;apply Sr;(conv=>whnf);refine ⟨[.str [120],Iv 3000],.str xaX,fun _=>H74x,Z,?_⟩;(conv=>whnf);refine ⟨trivial,?_⟩;(conv=>whnf);intro b2;apply Rl;apply Sr;apply Rl;apply Rl;apply Rl;apply Rt;apply Rl;apply Rl;(conv=>whnf);refine ⟨DLe.agg ⟨.refl _,.refl _,.refl _,.refl _,.refl _,.refl _,.refl _,.refl _,.refl _,.refl _,?_,DLe.nil,trivial⟩,DLe.agg ⟨.refl _,.refl _,.refl _,.refl _,.refl _,.refl _,.refl _,.refl _,.refl _,.refl _,DLe.nil,.refl _,.refl _,trivial⟩,trivial⟩;rw [xa_kids]
 exact DLe.trans (DLe.slMap (ys:=[encTop xaK]) ⟨.refl _,.refl _,.refl _,.refl _,.refl _,.refl _,.refl _,.refl _,.refl _,.refl _,DLe.nil,DLe.nil,trivial⟩ rfl (fun y hy=>by simp at hy; subst hy; rfl)) DLe.full
theorem H9 (hL:LibOk W0):DFun Tryz.prog W0 9 [] (.bool true):=by
 refine Fi Tryz.func9 rfl Tryz.ntmps9 fun Γ=>?_
 apply Sr;apply Sr;(conv=>whnf);refine ⟨[],.tup [encTop xaN,encM xaM],fun _=>H29,trivial,?_⟩;(conv=>whnf);intro b1;(conv=>whnf);intro b2;apply Rl;apply Rl;apply Sr;apply Rl;(conv=>whnf);refine ⟨[encTop xaN,encO ⟨false,false,0,[]⟩],_,fun _=>xa_iso hL,⟨.refl _,DLe.agg ⟨.refl _,.refl _,.refl _,DLe.nil,trivial⟩,trivial⟩,?_⟩;apply Sr;apply Rl;apply Rl;(conv=>whnf);refine ⟨trivial,?_⟩;(conv=>whnf);refine ⟨[encTop xaN,encM xaM,.sl .none 1 (strs [[97]]),.sl .none 3 (([]:List FV).map encF),Iv 0,Iv 500],_,fun _=>xa_p1 hL,⟨.refl _,.refl _,DLe.full,DLe.nil,.refl _,.refl _,trivial⟩,?_⟩;(conv=>whnf);intro b5;apply Rl;apply Sq;apply Sr;apply Hh;refine Pk ?_;apply Hh;refine Pk ?_;apply Hh;apply Rl;apply Hh;apply Hh;apply Hh;refine Pk ?_;apply Hh;apply Rl;apply Hh;(conv=>whnf);refine .inl ⟨fun h=>by simp [InR],?_⟩;apply Hh;apply Hh;(conv=>whnf);refine ⟨trivial,?_⟩;apply Hh;apply Hh;(conv=>whnf);refine ⟨[.sl .none 3 (lay1.files.map encF),.sl .none 3 (([⟨[97],21,3000⟩]:List FV).map encF)],_,fun h=>H31 lay1.files [⟨[97],21,3000⟩] (by decide) (by decide),⟨.refl _,DLe.full,trivial⟩,?_⟩;apply Hh;refine Pk ?_;apply Hh;apply Rl;apply Hh;(conv=>whnf);refine .inl ⟨fun h=>by simp [InR],?_⟩;apply Hh;apply Hh;apply Hh;refine Pk ?_;refine Cd _ rfl (fun hc=>?_) (fun hc=>?_)
 ·exact absurd hc (by decide +kernel)
 apply Sk;apply Sr;apply Rl;apply Rl;apply Sr;apply Rl;apply Rl;(conv=>whnf);refine ⟨[encTop xaN,encM xaM2,.sl .none 3 (([]:List FV).map encF),Iv 10],_,fun _=>xa_cnt2 hL,⟨.refl _,.refl _,DLe.nil,.refl _,trivial⟩,?_⟩;apply Sr;apply Rl;apply Rl;(conv=>whnf);refine ⟨trivial,?_⟩;(conv=>whnf);refine ⟨[encTop xaN,encM xaM2,.sl .none 1 (strs [[97]]),.sl .none 3 (([]:List FV).map encF),Iv 10,Iv 500],_,fun _=>xa_p2 hL,⟨.refl _,.refl _,DLe.full,DLe.nil,.refl _,.refl _,trivial⟩,?_⟩;(conv=>whnf);intro b8;apply Rl;apply Sr;apply Hh;refine Pk ?_;apply Hh;apply Hh;apply Rl;apply Hh;apply Hh;refine Pk ?_;apply Hh;apply Hh;apply Rl;apply Hh;refine Pk ?_;apply Hh;apply Hh;apply Rl;apply Hh;apply Hh;refine Pk ?_;apply Rl;apply Hh;(conv=>whnf);refine ⟨[encM xaM2],_,fun h=>H32 xaM2,Z,?_⟩;refine Pk ?_;apply Hh;(conv=>whnf);refine ⟨[encM zM],_,fun h=>H32 zM,⟨DLe.agg ⟨.refl _,.refl _,.refl _,.refl _,.refl _,.refl _,.refl _,.refl _,.refl _,.refl _,DLe.nil,.refl _,.refl _,trivial⟩,trivial⟩,?_⟩;apply Hh;refine Pk ?_;apply Rl;apply Hh;(conv=>whnf);refine ⟨[encTop xaN],_,fun h=>xa_filesF hL,Z,?_⟩;(conv=>whnf);refine ⟨trivial,?_⟩;apply Hh;apply Hh;(conv=>whnf);refine ⟨[.sl .none 1 (strs [[97]]),.sl .none 1 (strs [[97]])],_,fun h=>H33 [[97]] [[97]] (by decide) (by decide),⟨.refl _,DLe.full,trivial⟩,?_⟩;refine Pk ?_;apply Rl;apply Hh;(conv=>whnf);refine ⟨[encTop xaN],_,fun h=>xa_groups hL,Z,?_⟩;apply Hh;apply Hh;refine Pk ?_;apply Rl;apply Rl;apply Hh;apply Hh;(conv=>whnf);refine ⟨[encLay lay1,encM xaM2],_,fun h=>H12 lay1 xaM2 (by decide) (by decide) (by decide) (by decide),Z,?_⟩
 apply Hh;apply Hh;refine Pk ?_;apply Rt;(conv=>whnf);exact DLe.of_eq (congrArg D.bool (by decide +kernel))
end Go.Tame.V
